/- diff.Of: the patch by which one snapshot becomes another one. -/
import Derived.Test.YtmlebgikdegjjaaGreatDoorDb
import Derived.Test.YtmlebgikdegjjaaGreatDoorDc
import Derived.Test.YtmlebgikdegjjaaGreatDoorUh
import Derived.Test.YtmlebgikdegjjaaGreatDoorUn
import Derived.Test.YtmlebgikdegjjaaGreatDoorRr
set_option maxHeartbeats 16000000
set_option maxRecDepth 100000
namespace Go.Proofs.YtmlebgikdegjjaaGreatDoor.Hd
open Go.Maps Go.RowKit Go.Proofs.YtmlebgikdegjjaaGreatDoor.Rq Go.Proofs.YtmlebgikdegjjaaGreatDoor.Rr Go.Proofs.YtmlebgikdegjjaaGreatDoorW.PrintWords Go.Proofs.YtmlebgikdegjjaaGreatDoorW.PrintLast Go.Proofs.YtmlebgikdegjjaaGreatDoorW.PrintMore Go.Proofs.YtmlebgikdegjjaaGreatDoor.PAll
attribute [local go_sem] max2_int min2_int max_two min_two max_three min_three max_four min_four
set_option linter.unusedVariables false
set_option linter.unusedSimpArgs false
def diffof.T7 : Bool × List (List Nat × List Nat):=(true,[([],[]),([],[]),([1],[1]),([0,2,2,0,1,2],[0,2])])
def diffof.B7 : List Nat:=[0,0,2,7]
theorem diffof.tab7 : rtab .any (opsOf Tryz.f55 7) = diffof.T7:=by kernel_rfl
theorem diffof.bits7 : waitsOk diffof.T7.2 diffof.B7 = true:=by kernel_rfl
attribute [local go_sem] Oper.semAt_some
def insAll (key : S34 → ByteArray) (ds : List S34) (l : List ByteArray) : List ByteArray:=ds.foldl (fun l d=>insK (key d) l) l
theorem KpR.grown {W V W' : World} {bk : Nat} (h : ∃ es c,W.heap[bk]? = some (.map es c)) (hb : Below W.heap.size W V) (hg : V.grownBy W' (some bk)) : KpR (fun j=>j = bk) V W':=by
 obtain ⟨es,c,hm⟩:=h
 have hm':=(hb.block bk (Array.getElem?_eq_some_iff.1 hm).1).trans hm
 exact ⟨hg.size,fun a v hc _=>CellsKept.grown hg hm' a v hc,fun k es c hk hne=>(hg.block k (Array.getElem?_eq_some_iff.1 hk).1 (fun e=>hne (Option.some.inj e))).trans hk⟩
theorem vals_size {w : World} {v : Value} {M : DataW S34} (h : Sn w v M) : (valsM M).length = Maps.size M:=by
 rcases h with ⟨_,rfl⟩ | ⟨_,_,_,_,hm⟩
 ·rfl
 ·rw [vals_len hm,keys_len hm]
theorem insAll_len (key : S34 → ByteArray) : ∀ (ds : List S34) (l : List ByteArray),(insAll key ds l).length ≤ ds.length + l.length
 | [],l=>by
  show l.length ≤ 0 + l.length
  omega
 | d :: ds,l=>by
  have h1:=insAll_len key ds (insK (key d) l)
  have h2:=insK_len (key d) l
  show (insAll key ds (insK (key d) l)).length ≤ _
  rw [List.length_cons]
  omega
def ofG (sm : S34 → S34 → Bool) (Ma Mb : DataW S34) (ks : List ByteArray) : List S82:=ks.flatMap fun k=>if alike sm (getM Ma k) (getM Mb k) = true then [] else [⟨k,getM Ma k,getM Mb k⟩]
theorem insAll_mem {key : S34 → ByteArray} {s : ByteArray} : ∀ {ds : List S34} {l : List ByteArray},s ∈ insAll key ds l → s ∈ l ∨ ∃ d ∈ ds,s = key d
 | [],l,h=>Or.inl h
 | d :: ds,l,h=>by
  rcases insAll_mem (show s ∈ insAll key ds (insK (key d) l) from h) with h | ⟨d',hd,e⟩
  ·rcases insK_mem.1 h with h | h
   ·exact Or.inr ⟨d,List.mem_cons_self ..,h⟩
   ·exact Or.inl h
  ·exact Or.inr ⟨d',List.mem_cons_of_mem _ hd,e⟩
theorem getM_len (M : DataW S34) (ky : ByteArray) : (getM M ky).length ≤ 1:=by
 unfold getM
 split
 ·exact Nat.le_refl _
 ·exact Nat.zero_le _
theorem getM_sub {w : World} {v : Value} {M : DataW S34} (h : Sn w v M) {ky : ByteArray} {x : S34} (hx : x ∈ getM M ky) : x ∈ valsM M:=by
 unfold getM at hx
 split at hx
 next hh =>
  rcases h with ⟨_,rfl⟩ | ⟨_,_,_,_,hm⟩
  ·cases hh
  ·obtain ⟨d,hd⟩:=hm.elems_ _ hh
   rw [hd,List.mem_singleton] at hx
   rw [hx]
   exact vals_of_has hm hh (hd .nil)
 next hh=>cases hx
theorem ofG_len (sm : S34 → S34 → Bool) (Ma Mb : DataW S34) : ∀ (ks : List ByteArray),(ofG sm Ma Mb ks).length ≤ ks.length
 | []=>Nat.le_refl _
 | ky :: ks=>by
  have h:=ofG_len sm Ma Mb ks
  unfold ofG at h ⊢
  rw [List.flatMap_cons,List.length_append,List.length_cons]
  split
  ·show 0 + _ ≤ _
   omega
  ·show 1 + _ ≤ _
   omega
theorem ofG_next (sm : S34 → S34 → Bool) (Ma Mb : DataW S34) (ks : List ByteArray) (n : Nat) (ky : ByteArray) (h : ks[n]? = some ky) : ofG sm Ma Mb (ks.take (n + 1)) = ofG sm Ma Mb (ks.take n) ++ (if alike sm (getM Ma ky) (getM Mb ky) = true then [] else [⟨ky,getM Ma ky,getM Mb ky⟩]):=by
 rw [List.take_add_one,h]
 unfold ofG
 rw [List.flatMap_append]
 show _ ++ ((if _ then _ else _) ++ []) = _
 rw [List.append_nil]
theorem of_calls (sm : S34 → S34 → Bool) (key : S34 → ByteArray) (k : Nat) (w : World) (pa pb : Option Addr) (Ma Mb : DataW S34) (ha : Sn w (.pointer pa) Ma) (hb : Sn w (.pointer pb) Mb) (hza : Maps.size Ma ≤ 500) (hzb : Maps.size Mb ≤ 500)
  (hva : ∀ d ∈ valsM Ma,d.f3.length ≤ 1000000) (hvb : ∀ d ∈ valsM Mb,d.f3.length ≤ 1000000)
  (hka : ∀ d ∈ valsM Ma,def_Key.f k d.f0 d.f1 d.f2 d.f3 d.f4 d.f5 = some (key d) ∧ (key d).size ≤ 1000000) (hkb : ∀ d ∈ valsM Mb,def_Key.f k d.f0 d.f1 d.f2 d.f3 d.f4 d.f5 = some (key d) ∧ (key d).size ≤ 1000000)
  (hsm : ∀ x ∈ valsM Ma,∀ y ∈ valsM Mb,def_Same.f k x.f0 x.f1 x.f2 x.f3 x.f4 x.f5 y.f0 y.f1 y.f2 y.f3 y.f4 y.f5 = some (sm x y)) :
  Calls Tryz.prog 55 #[.pointer pa,.pointer pb] w fun e w'=>∃ v,e = .returned v ∧ Kd.N k82 82 w' w.heap.size (fun k=>w.heap.size ≤ k) v (ofG sm Ma Mb (insAll key (valsM Mb) (insAll key (valsM Ma) []))) ∧ Below w.heap.size w w':=by
 have hu34:=Tryz.underlying34
 have hu82:=Tryz.underlying82
 have HA:=As.mk ha
 have HBS:=As.mk hb
 have HZA:=As.mk hza
 have HZB:=As.mk hzb
 have HVA:=As.mk hva
 have HVB:=As.mk hvb
 have HKA:=As.mk hka
 have HKB:=As.mk hkb
 have HSM:=As.mk hsm
 clear ha hb hza hzb hva hvb hka hkb hsm
 refine (callsIn_wide (n:=9)).1 ?_
 refine callsIn_of_wp_marks Tryz.func55 rfl trivial ?_ rfl
 simp only [Tryz.ntmps55,List.size_toArray,List.length_cons,List.length_nil,Nat.reduceAdd,Nat.reduceSub,Array.replicate_succ,Array.replicate_zero,List.push_toArray,List.append_toArray,List.nil_append,List.cons_append]
 refine wpIn_mono ?_ noP_le
 refine wpIn_wide.2 ?_
 go_upto_region 2 with (first | ((with_reducible refine gate_dst (N:=14) rfl ?_);refine madeB_event rfl rfl ?_;intro bk w1 hbk_ hmk_ hb_ hsz_;have HMK:=As.mk hmk_;have HB:=As.mk hb_;have HBK:=As.mk hbk_;clear hbk_ hmk_ hb_ hsz_))
 have bk5:=blk_new w1 (Obj.cells #[.map (some bk)] 123)
 have hb_:=bA (Below.refl w1.heap.size w1) (Obj.cells #[.map (some bk)] 123)
 have hm1_:=HMK.out.below hb_
 have n0_:=As.mk (bS HB.out hb_)
 have hlt_:=HMK.out.lt
 generalize w1.alloc (Obj.cells #[.map (some bk)] 123) = W1 at bk5 hb_ hm1_ n0_ ⊢
 obtain ⟨g5,hg5⟩ : ∃ g5,g5 = w1.heap.size:=⟨_,rfl⟩
 rw [← hg5] at bk5 hlt_ ⊢
 have HG5:=As.mk (show w.heap.size ≤ g5 by rw [hg5];exact HB.out.size)
 have HBK5:=As.mk (show bk < g5 from hlt_)
 have HBKW:=As.mk (Nat.le_of_eq HBK.out.symm)
 clear HB HMK HBK hb_ hlt_ hg5
 have HB:=n0_
 have HMK:=As.mk hm1_
 have BK5:=As.mk bk5
 clear n0_ hm1_ bk5
 go_wp2_with (fail)
 have bks:=blk_new W1 (Obj.cells #[.pointer pa,.pointer pb] 26)
 have hb_:=bA (Below.refl W1.heap.size W1) (Obj.cells #[.pointer pa,.pointer pb] 26)
 generalize W1.alloc (Obj.cells #[.pointer pa,.pointer pb] 26) = W2 at bks hb_ ⊢
 obtain ⟨gs,hgs⟩ : ∃ gs,gs = W1.heap.size:=⟨_,rfl⟩
 rw [← hgs] at bks ⊢
 have HGS:=As.mk (show bk < gs by rw [hgs];exact HMK.out.lt)
 have n0_:=As.mk (bS HB.out hb_)
 have n1_:=As.mk (HMK.out.below hb_)
 have n2_:=As.mk (blk_below BK5.out hb_)
 clear HB HMK BK5 hb_ hgs
 have HB:=n0_
 have HMK:=n1_
 have BK5:=n2_
 have BKS:=As.mk bks
 clear n0_ n1_ n2_ bks
 have HVL0:=As.mk (show (valsM Ma).length ≤ 1000 by rw [vals_size HA.out];have:=HZA.out;omega)
 have HVL1:=As.mk (show (valsM Mb).length ≤ 1000 by rw [vals_size HBS.out];have:=HZB.out;omega)
 have HLL0:=As.mk (show ([] : List ByteArray).length ≤ 1000 from Nat.zero_le _)
 have HLL1:=As.mk (show (insAll key (valsM Ma) []).length ≤ 1000 by have h_:=insAll_len key (valsM Ma) [];have:=HVL0.out;simp only [List.length_nil] at h_;omega)
 refine wp_loop_rounds 3 ?_
 rw [rounds_succ]
 have qs_ : W2.cell? ⟨gs,0,none⟩ = some (.pointer pa):=(bC BKS.out 0).trans rfl
 go_wp2_with (first | (go_at_call 64;(with_reducible refine (All_calls _ pa).mono ?_);rintro e w4 ⟨rfl,hw_⟩;rw [hw_]))
 have bkx:=blk_new W2 (Obj.cells #[.pointer pa] 26)
 have hbx:=bA (Below.refl W2.heap.size W2) (Obj.cells #[.pointer pa] 26)
 generalize W2.alloc (Obj.cells #[.pointer pa] 26) = X0 at bkx hbx ⊢
 obtain ⟨gx0,hgx⟩ : ∃ gx0,gx0 = W2.heap.size:=⟨_,rfl⟩
 rw [← hgx] at bkx ⊢
 have n0_:=As.mk (bS HB.out hbx)
 have n1_:=As.mk (HMK.out.below hbx)
 have n_BK5:=As.mk ((hbx.block _ (Array.getElem?_eq_some_iff.1 BK5.out).1).trans BK5.out)
 have n_BKS:=As.mk ((hbx.block _ (Array.getElem?_eq_some_iff.1 BKS.out).1).trans BKS.out)
 clear HB HMK BK5 BKS hbx hgx qs_
 have HB:=n0_
 have HMK:=n1_
 have BK5:=n_BK5
 have BKS:=n_BKS
 clear n0_ n1_ n_BK5 n_BKS
 have HCX:=As.mk ((bC bkx 0).trans rfl : X0.cell? ⟨gx0,0,none⟩ = some (.pointer pa))
 have HLB:=As.mk HMK.out.lt
 clear bkx
 refine (wpIn_wide (n:=9)).1 (range_q (n:=9) (by omega) (gf:=105) rfl (enters_of Tryz.func105 (by kernel_rfl) rfl) (encs:=encE) (Kp:=KpR fun j=>j = bk) (Qe:=Qe fun d=>d ∈ valsM Ma) (S:=fun xs=>xs.map (·.1) = valsM Ma) (Sp:=fun pre=>pre.map (·.1) <+: valsM Ma) (N:=(valsM Ma).length) ?hseq KpR.trans (fun W l o o' _=>KpR.book W l o o') (Below.refl _ _) (fun _=>rfl)
  (fun pre W=>X0.grownBy W (some bk) ∧ MapB W bk (insAll key (pre.map (·.1)) ([])))
  (fun pre W=>False) ?hI (fun _ _ _ _ h _ _=>h) ?h0 (fun x a' W=>∃ Bx : Nat,a' = { tmps:=#[.pointer pa,.pointer pb,undef,undef,.slice none 0 0,.pointer (some ⟨g5,0,none⟩),undef,.pointer pa,.pointer (some ⟨Bx,0,none⟩),undef,undef,undef,undef,undef,.map (some bk),.pointer pa,.pointer pb,.slice (some ⟨gs,0,none⟩) 2 2,.int .i64 2,.int .i64 0,.bool true,.pointer (some ⟨gs,0,none⟩),.pointer pa,.pointer pa,.func (.func 105) #[] #[.pointer (some ⟨gx0,0,none⟩)],.agg #[.int .i64 x.1.f0,.string x.1.f1,.string x.1.f2,.slice x.2.1 x.1.f3.length x.2.2,.string x.1.f4,.string x.1.f5],undef,undef,undef,undef,undef,undef,undef,undef,undef,undef,undef,undef,undef,undef,undef,undef,undef,undef,undef,undef,undef,undef,undef,undef,undef,undef,undef,undef,undef,undef,undef],defers:=[] } ∧ Qe (fun d=>d ∈ valsM Ma) x W ∧ W.cell? ⟨Bx,0,none⟩ = some (.int .i64 x.1.f0) ∧ W.cell? ⟨Bx,1,none⟩ = some (.string x.1.f1) ∧ W.cell? ⟨Bx,2,none⟩ = some (.string x.1.f2) ∧ W.cell? ⟨Bx,3,none⟩ = some (.slice x.2.1 x.1.f3.length x.2.2) ∧ W.cell? ⟨Bx,4,none⟩ = some (.string x.1.f4) ∧ W.cell? ⟨Bx,5,none⟩ = some (.string x.1.f5)) ?hAx ?hassign ?hbody ?hdone ?hstop)
 case hseq =>
  have hs3:=HA.out.below HB.out
  rcases HA.out with ⟨he,hM⟩ | ⟨g,b,he,hc,hm⟩
  ·injection he with he
   rw [hM]
   refine it_seq_nil _ 8 (by omega) _ gx0 _ ?_
   rw [HCX.out,he]
  ·injection he with he
   refine it_seq _ 8 (by omega) _ gx0 g b Ma ?_ (pC HB.out hc) (hm.below HB.out) (fun h_=>by have h1_ : b = bk:=h_;have:=hm.lt;have:=HBKW.out;omega) (by have:=HZA.out;omega) HVA.out
   rw [HCX.out,he]
 case hI=>exact fun s_ X Y row hs hg hr=>⟨hs.1.andThen hg (fun j hj=>Or.inl (hr j hj).1),hs.2.kept hg (fun e=>by have h_:=(hr _ e.symm).1;have:=HLB.out;omega)⟩
 case h0=>exact ⟨(grown_of_below (Below.refl _ X0) none).but _,HMK.out⟩
 case hAx =>
  intro x a' s_ X Y row hs hg hr
  have hk:=kept_own hg (fun r e=>(hr r e).2)
  obtain ⟨Bx,h0_,⟨hm_,h1_,h2_⟩,h3_,h4_,h5_,h6_,h7_,h8_⟩:=hs
  exact ⟨Bx,h0_,⟨hm_,h1_,C_cells h2_ hk⟩,hk _ _ h3_,hk _ _ h4_,hk _ _ h5_,hk _ _ h6_,hk _ _ h7_,hk _ _ h8_⟩
 case hassign =>
  rintro l_ pre ⟨d,A3,c3⟩ W K hI hq hK
  dsimp only [encE]
  gi_wp2
  have hcells:=blk_new W (Obj.cells #[.int .i64 d.f0,.string d.f1,.string d.f2,.slice A3 d.f3.length c3,.string d.f4,.string d.f5] 34)
  have hbl:=bA (Below.refl _ W) (Obj.cells #[.int .i64 d.f0,.string d.f1,.string d.f2,.slice A3 d.f3.length c3,.string d.f4,.string d.f5] 34)
  have hck:=CellsKept.below hbl
  exact hK _ _ ((KeepsOthers.alloc _ _).from _) (KpR.below hbl) ⟨hI.1.andThen (grown_of_below hbl none) (fun j hj=>by cases hj),hI.2.below hbl⟩ ⟨W.heap.size,rfl,⟨hq.1,hq.2.1,C_cells hq.2.2 hck⟩,(bC hcells 0).trans rfl,(bC hcells 1).trans rfl,(bC hcells 2).trans rfl,(bC hcells 3).trans rfl,(bC hcells 4).trans rfl,(bC hcells 5).trans rfl⟩
 case hstop =>
  rintro D pre W hD hpre hir
  exact hir.elim
 case hbody =>
  rintro l_ pre x a' W ⟨i1,i2⟩ ⟨Bx,rfl,⟨hm_,hq1,hq2⟩,b0,b1,b2,b3,b4,b5⟩ hlt
  have i5 : W.cell? ⟨g5,0,none⟩ = some (.map (some bk)):=(bC ((i1.block g5 (Array.getElem?_eq_some_iff.1 BK5.out).1 (fun e=>by have:=Option.some.inj e;have:=HBK5.out;omega)).trans BK5.out) 0).trans rfl
  obtain ⟨ky,hky⟩ : ∃ ky,ky = key x.1:=⟨_,rfl⟩
  have hk1_:=HKA.out x.1 hm_
  rw [← hky] at hk1_
  have HKY:=As.mk hk1_.1
  have HKS:=As.mk (show ky.size ≤ maxLen from Nat.le_trans hk1_.2 (by decide))
  have HMI:=As.mk i2
  have HLN:=As.mk (show (insAll key (pre.map (·.1)) ([])).length < maxLen by
   have h1_:=insAll_len key (pre.map (·.1)) ([])
   rw [List.length_map] at h1_
   have h2_ : pre.length < 1000000:=Nat.lt_of_lt_of_le hlt (by have:=HVL0.out;omega)
   have h3_:=HLL0.out
   simp only [maxLen]
   omega)
  have HI1:=As.mk i1
  have hf2 : Fence.wide.fn 60:=trivial
  have hn7 : 1 ≤ 9 - 1 - 1:=by omega
  have HKX:=As.mk hky
  clear hk1_ hky i1 i2 hlt
  gi_wp2
  refine start_round (m:=4) (S:=fun w'=>w'.cell? (⟨g5,0,none⟩) = some (.map (some bk)) ∧ w'.cell? (⟨Bx,0,none⟩) = some (.int .i64 x.1.f0) ∧ w'.cell? (⟨Bx,1,none⟩) = some (.string x.1.f1) ∧ w'.cell? (⟨Bx,2,none⟩) = some (.string x.1.f2) ∧ w'.cell? (⟨Bx,3,none⟩) = some (.slice x.2.1 x.1.f3.length x.2.2) ∧ w'.cell? (⟨Bx,4,none⟩) = some (.string x.1.f4) ∧ w'.cell? (⟨Bx,5,none⟩) = some (.string x.1.f5)) (ds:=[3]) #[false,false,false,false] (by kernel_rfl) rfl rfl (by kernel_rfl) (fun h_=>by obtain ⟨_,_,h_⟩:=h_;exact h_) ⟨i5,b0,b1,b2,b3,b4,b5⟩ (fun hHeld=>?_);refine with_tabW diffof.tab7 diffof.bits7 (fun HT_ HW_=>?_)
  refine take_ (i:=0) (N:=some 26) (v:=?_) (a':=?_) #[true,false,false,false] rfl rfl (take_ofW HT_.out HW_.out (by kernel_rfl)) (fun _ _ _ h=>h) (Or.inl ⟨by rfl,?_⟩) hHeld ?_ ?_
  rotate_left
  ·rintro w' ⟨s0,s1,s2,s3,s4,s5,s6⟩
   go_simp
   with_reducible rfl
  rotate_left
  ·simp only [Act.put,List.setIfInBounds_toArray,List.set_cons_zero,List.set_cons_succ,i64_w,i32_w]
   rfl
  refine take_ (i:=1) (N:=some 27) (v:=?_) (a':=?_) #[true,true,false,false] rfl rfl (take_ofW HT_.out HW_.out (by kernel_rfl)) (fun _ _ _ h=>h) (Or.inl ⟨by rfl,?_⟩) hHeld ?_ ?_
  rotate_left
  ·rintro w' ⟨s0,s1,s2,s3,s4,s5,s6⟩
   go_simp
   with_reducible rfl
  rotate_left
  ·simp only [Act.put,List.setIfInBounds_toArray,List.set_cons_zero,List.set_cons_succ,i64_w,i32_w]
   rfl
  refine one_ (i:=2) (N:=some 28) #[true,true,true,false] rfl rfl (one_of HT_.out (by kernel_rfl)) (by decide) (fun K hK=>?_)
  refine goes_ Tryz.func60 (by kernel_rfl) rfl #[.agg #[.int .i64 x.1.f0,.string x.1.f1,.string x.1.f2,.slice x.2.1 x.1.f3.length x.2.2,.string x.1.f4,.string x.1.f5]] (by rfl) rfl rfl (by (try simp only [List.map_toArray,List.map_cons,List.map_nil]);first | done | rfl | (simp only [List.length_drop,List.length_take];rfl)) ?_
  with_reducible refine (def_Key.calls k _ _ _ _ _ _ _ _ ky _ (Kd.C_below hq2 (bD (Below.refl _ W))) hq1 HKY.out).mono ?_
  rintro er w5 ⟨rfl,hw5⟩
  refine ⟨_,rfl,?_⟩
  refine hK.out _ _ ⟨(pC hw5 i5),(pC hw5 b0),(pC hw5 b1),(pC hw5 b2),(pC hw5 b3),(pC hw5 b4),(pC hw5 b5)⟩ (fun hHeld=>?_)
  clear hK K
  refine norm_ (a':=?_) ?_ ?_
  rotate_left
  ·show Act.put _ (some 28) _ = _
   simp only [Act.put,List.setIfInBounds_toArray,List.set_cons_zero,List.set_cons_succ,i64_w,i32_w]
   rfl
  refine last_ (i:=3) (N:=none) #[true,true,true,true] rfl rfl (one_of HT_.out (by kernel_rfl)) (by decide) (fun K hK=>?_)
  refine putB_step (by rfl) (.tmp 26) (.tmp 28) (.const (.bool true)) rfl bk _ ky rfl rfl rfl HKS.out (HMI.out.below ((bD (Below.refl _ W)).trans hw5)) HLN.out ?_
  intro w7 hm7 hg7 hk7
  refine hK.out _ _ ?_
  clear hK K
  refine done_ (done_of HT_.out (by kernel_rfl)) ?_
  have hB5 : Below W.heap.size W w5:=(bD (Below.refl _ W)).trans hw5
  refine ⟨((KeepsOthers.of_grownBy (grown_of_below hB5 none) (fun j o e _=>by cases e)).from _).trans (KeepsFrom.of_grownBy hg7 (fun j e=>by cases e;exact HLB.out)),(KpR.below hB5).trans (KpR.grown HMI.out.map hB5 hg7),(HI1.out.andThen (grown_of_below hB5 none) (fun j hj=>by cases hj)).andThen hg7 (fun j hj=>Or.inr hj),?_⟩
  have h_ : insAll key ((pre ++ [x]).map (·.1)) ([]) = insK ky (insAll key (pre.map (·.1)) ([])):=by
   rw [List.map_append,HKX.out]
   unfold insAll
   rw [List.foldl_append]
   rfl
  rw [h_]
  exact hm7
 case hdone =>
  rintro D0 xs0 Y0 hD hS ⟨i1,i2⟩ hKD
  rw [hS] at i2
  have n0_:=As.mk (below_own HB.out HB.out.size i1 HBKW.out)
  have n_BK5:=As.mk ((i1.block _ (Array.getElem?_eq_some_iff.1 BK5.out).1 (fun e=>by have:=Option.some.inj e;have:=HBK5.out;omega)).trans BK5.out)
  have n_BKS:=As.mk ((i1.block _ (Array.getElem?_eq_some_iff.1 BKS.out).1 (fun e=>by have:=Option.some.inj e;have:=HGS.out;omega)).trans BKS.out)
  have n_HDB:=As.mk (show bk < D0 ∧ w.heap.size ≤ D0 from ⟨Nat.lt_of_lt_of_le HLB.out hD,Nat.le_trans HB.out.size hD⟩)
  skip
  clear HB HMK BK5 BKS HCX HLB i1 hS 
  have HB:=n0_
  have HMK:=As.mk i2
  have BK5:=n_BK5
  have BKS:=n_BKS
  have HD0:=As.mk hKD
  have HDB:=n_HDB
  skip
  clear n0_ n_BK5 n_BKS n_HDB i2 hD hKD 
  go_wp2_with (fail)
  rw [rounds_succ]
  have qs_ : Y0.cell? ⟨gs,1,none⟩ = some (.pointer pb):=(bC BKS.out 1).trans rfl
  go_wp2_with (first | (go_at_call 64;(with_reducible refine (All_calls _ pb).mono ?_);rintro e w4 ⟨rfl,hw_⟩;rw [hw_]))
  have bkx:=blk_new Y0 (Obj.cells #[.pointer pb] 26)
  have hbx:=bA (Below.refl Y0.heap.size Y0) (Obj.cells #[.pointer pb] 26)
  generalize Y0.alloc (Obj.cells #[.pointer pb] 26) = X1 at bkx hbx ⊢
  obtain ⟨gx1,hgx⟩ : ∃ gx1,gx1 = Y0.heap.size:=⟨_,rfl⟩
  rw [← hgx] at bkx ⊢
  have n0_:=As.mk (bS HB.out hbx)
  have n1_:=As.mk (HMK.out.below hbx)
  have n_BK5:=As.mk ((hbx.block _ (Array.getElem?_eq_some_iff.1 BK5.out).1).trans BK5.out)
  have n_BKS:=As.mk ((hbx.block _ (Array.getElem?_eq_some_iff.1 BKS.out).1).trans BKS.out)
  have n_HD0:=As.mk ((hbx.block _ (Array.getElem?_eq_some_iff.1 HD0.out).1).trans HD0.out)
  clear HB HMK BK5 BKS HD0 hbx hgx qs_
  have HB:=n0_
  have HMK:=n1_
  have BK5:=n_BK5
  have BKS:=n_BKS
  have HD0:=n_HD0
  clear n0_ n1_ n_BK5 n_BKS n_HD0
  have HCX:=As.mk ((bC bkx 0).trans rfl : X1.cell? ⟨gx1,0,none⟩ = some (.pointer pb))
  have HLB:=As.mk HMK.out.lt
  have HDX:=As.mk (Array.getElem?_eq_some_iff.1 HD0.out).1
  clear bkx
  refine (wpIn_wide (n:=9)).1 (range_q (n:=9) (by omega) (gf:=105) rfl (enters_of Tryz.func105 (by kernel_rfl) rfl) (encs:=encE) (Kp:=KpR fun j=>j = bk) (Qe:=Qe fun d=>d ∈ valsM Mb) (S:=fun xs=>xs.map (·.1) = valsM Mb) (Sp:=fun pre=>pre.map (·.1) <+: valsM Mb) (N:=(valsM Mb).length) ?hseq KpR.trans (fun W l o o' _=>KpR.book W l o o') (Below.refl _ _) (fun _=>rfl)
   (fun pre W=>X1.grownBy W (some bk) ∧ MapB W bk (insAll key (pre.map (·.1)) (insAll key (valsM Ma) [])))
   (fun pre W=>False) ?hI (fun _ _ _ _ h _ _=>h) ?h0 (fun x a' W=>∃ Bx : Nat,a' = { tmps:=#[.pointer pa,.pointer pb,undef,undef,.slice none 0 0,.pointer (some ⟨g5,0,none⟩),undef,.pointer pb,.pointer (some ⟨Bx,0,none⟩),undef,undef,undef,undef,undef,.map (some bk),.pointer pa,.pointer pb,.slice (some ⟨gs,0,none⟩) 2 2,.int .i64 2,.int .i64 1,.bool true,.pointer (some ⟨gs,1,none⟩),.pointer pb,.pointer pb,.func (.func 105) #[] #[.pointer (some ⟨gx1,0,none⟩)],.agg #[.int .i64 x.1.f0,.string x.1.f1,.string x.1.f2,.slice x.2.1 x.1.f3.length x.2.2,.string x.1.f4,.string x.1.f5],undef,undef,undef,.int .i64 1,undef,undef,undef,undef,undef,undef,undef,undef,undef,undef,undef,undef,undef,undef,undef,undef,undef,undef,undef,undef,undef,undef,undef,undef,undef,undef,undef],defers:=[] } ∧ Qe (fun d=>d ∈ valsM Mb) x W ∧ W.cell? ⟨Bx,0,none⟩ = some (.int .i64 x.1.f0) ∧ W.cell? ⟨Bx,1,none⟩ = some (.string x.1.f1) ∧ W.cell? ⟨Bx,2,none⟩ = some (.string x.1.f2) ∧ W.cell? ⟨Bx,3,none⟩ = some (.slice x.2.1 x.1.f3.length x.2.2) ∧ W.cell? ⟨Bx,4,none⟩ = some (.string x.1.f4) ∧ W.cell? ⟨Bx,5,none⟩ = some (.string x.1.f5)) ?hAx ?hassign ?hbody ?hdone ?hstop)
  case hseq =>
   have hs3:=HBS.out.below HB.out
   rcases HBS.out with ⟨he,hM⟩ | ⟨g,b,he,hc,hm⟩
   ·injection he with he
    rw [hM]
    refine it_seq_nil _ 8 (by omega) _ gx1 _ ?_
    rw [HCX.out,he]
   ·injection he with he
    refine it_seq _ 8 (by omega) _ gx1 g b Mb ?_ (pC HB.out hc) (hm.below HB.out) (fun h_=>by have h1_ : b = bk:=h_;have:=hm.lt;have:=HBKW.out;omega) (by have:=HZB.out;omega) HVB.out
    rw [HCX.out,he]
  case hI=>exact fun s_ X Y row hs hg hr=>⟨hs.1.andThen hg (fun j hj=>Or.inl (hr j hj).1),hs.2.kept hg (fun e=>by have h_:=(hr _ e.symm).1;have:=HLB.out;omega)⟩
  case h0=>exact ⟨(grown_of_below (Below.refl _ X1) none).but _,HMK.out⟩
  case hAx =>
   intro x a' s_ X Y row hs hg hr
   have hk:=kept_own hg (fun r e=>(hr r e).2)
   obtain ⟨Bx,h0_,⟨hm_,h1_,h2_⟩,h3_,h4_,h5_,h6_,h7_,h8_⟩:=hs
   exact ⟨Bx,h0_,⟨hm_,h1_,C_cells h2_ hk⟩,hk _ _ h3_,hk _ _ h4_,hk _ _ h5_,hk _ _ h6_,hk _ _ h7_,hk _ _ h8_⟩
  case hassign =>
   rintro l_ pre ⟨d,A3,c3⟩ W K hI hq hK
   dsimp only [encE]
   gi_wp2
   have hcells:=blk_new W (Obj.cells #[.int .i64 d.f0,.string d.f1,.string d.f2,.slice A3 d.f3.length c3,.string d.f4,.string d.f5] 34)
   have hbl:=bA (Below.refl _ W) (Obj.cells #[.int .i64 d.f0,.string d.f1,.string d.f2,.slice A3 d.f3.length c3,.string d.f4,.string d.f5] 34)
   have hck:=CellsKept.below hbl
   exact hK _ _ ((KeepsOthers.alloc _ _).from _) (KpR.below hbl) ⟨hI.1.andThen (grown_of_below hbl none) (fun j hj=>by cases hj),hI.2.below hbl⟩ ⟨W.heap.size,rfl,⟨hq.1,hq.2.1,C_cells hq.2.2 hck⟩,(bC hcells 0).trans rfl,(bC hcells 1).trans rfl,(bC hcells 2).trans rfl,(bC hcells 3).trans rfl,(bC hcells 4).trans rfl,(bC hcells 5).trans rfl⟩
  case hstop =>
   rintro D pre W hD hpre hir
   exact hir.elim
  case hbody =>
   rintro l_ pre x a' W ⟨i1,i2⟩ ⟨Bx,rfl,⟨hm_,hq1,hq2⟩,b0,b1,b2,b3,b4,b5⟩ hlt
   have i5 : W.cell? ⟨g5,0,none⟩ = some (.map (some bk)):=(bC ((i1.block g5 (Array.getElem?_eq_some_iff.1 BK5.out).1 (fun e=>by have:=Option.some.inj e;have:=HBK5.out;omega)).trans BK5.out) 0).trans rfl
   obtain ⟨ky,hky⟩ : ∃ ky,ky = key x.1:=⟨_,rfl⟩
   have hk1_:=HKB.out x.1 hm_
   rw [← hky] at hk1_
   have HKY:=As.mk hk1_.1
   have HKS:=As.mk (show ky.size ≤ maxLen from Nat.le_trans hk1_.2 (by decide))
   have HMI:=As.mk i2
   have HLN:=As.mk (show (insAll key (pre.map (·.1)) (insAll key (valsM Ma) [])).length < maxLen by
    have h1_:=insAll_len key (pre.map (·.1)) (insAll key (valsM Ma) [])
    rw [List.length_map] at h1_
    have h2_ : pre.length < 1000000:=Nat.lt_of_lt_of_le hlt (by have:=HVL1.out;omega)
    have h3_:=HLL1.out
    simp only [maxLen]
    omega)
   have HI1:=As.mk i1
   have hf2 : Fence.wide.fn 60:=trivial
   have hn7 : 1 ≤ 9 - 1 - 1:=by omega
   have HKX:=As.mk hky
   clear hk1_ hky i1 i2 hlt
   gi_wp2
   refine start_round (m:=4) (S:=fun w'=>w'.cell? (⟨g5,0,none⟩) = some (.map (some bk)) ∧ w'.cell? (⟨Bx,0,none⟩) = some (.int .i64 x.1.f0) ∧ w'.cell? (⟨Bx,1,none⟩) = some (.string x.1.f1) ∧ w'.cell? (⟨Bx,2,none⟩) = some (.string x.1.f2) ∧ w'.cell? (⟨Bx,3,none⟩) = some (.slice x.2.1 x.1.f3.length x.2.2) ∧ w'.cell? (⟨Bx,4,none⟩) = some (.string x.1.f4) ∧ w'.cell? (⟨Bx,5,none⟩) = some (.string x.1.f5)) (ds:=[3]) #[false,false,false,false] (by kernel_rfl) rfl rfl (by kernel_rfl) (fun h_=>by obtain ⟨_,_,h_⟩:=h_;exact h_) ⟨i5,b0,b1,b2,b3,b4,b5⟩ (fun hHeld=>?_);refine with_tabW diffof.tab7 diffof.bits7 (fun HT_ HW_=>?_)
   refine take_ (i:=0) (N:=some 26) (v:=?_) (a':=?_) #[true,false,false,false] rfl rfl (take_ofW HT_.out HW_.out (by kernel_rfl)) (fun _ _ _ h=>h) (Or.inl ⟨by rfl,?_⟩) hHeld ?_ ?_
   rotate_left
   ·rintro w' ⟨s0,s1,s2,s3,s4,s5,s6⟩
    go_simp
    with_reducible rfl
   rotate_left
   ·simp only [Act.put,List.setIfInBounds_toArray,List.set_cons_zero,List.set_cons_succ,i64_w,i32_w]
    rfl
   refine take_ (i:=1) (N:=some 27) (v:=?_) (a':=?_) #[true,true,false,false] rfl rfl (take_ofW HT_.out HW_.out (by kernel_rfl)) (fun _ _ _ h=>h) (Or.inl ⟨by rfl,?_⟩) hHeld ?_ ?_
   rotate_left
   ·rintro w' ⟨s0,s1,s2,s3,s4,s5,s6⟩
    go_simp
    with_reducible rfl
   rotate_left
   ·simp only [Act.put,List.setIfInBounds_toArray,List.set_cons_zero,List.set_cons_succ,i64_w,i32_w]
    rfl
   refine one_ (i:=2) (N:=some 28) #[true,true,true,false] rfl rfl (one_of HT_.out (by kernel_rfl)) (by decide) (fun K hK=>?_)
   refine goes_ Tryz.func60 (by kernel_rfl) rfl #[.agg #[.int .i64 x.1.f0,.string x.1.f1,.string x.1.f2,.slice x.2.1 x.1.f3.length x.2.2,.string x.1.f4,.string x.1.f5]] (by rfl) rfl rfl (by (try simp only [List.map_toArray,List.map_cons,List.map_nil]);first | done | rfl | (simp only [List.length_drop,List.length_take];rfl)) ?_
   with_reducible refine (def_Key.calls k _ _ _ _ _ _ _ _ ky _ (Kd.C_below hq2 (bD (Below.refl _ W))) hq1 HKY.out).mono ?_
   rintro er w5 ⟨rfl,hw5⟩
   refine ⟨_,rfl,?_⟩
   refine hK.out _ _ ⟨(pC hw5 i5),(pC hw5 b0),(pC hw5 b1),(pC hw5 b2),(pC hw5 b3),(pC hw5 b4),(pC hw5 b5)⟩ (fun hHeld=>?_)
   clear hK K
   refine norm_ (a':=?_) ?_ ?_
   rotate_left
   ·show Act.put _ (some 28) _ = _
    simp only [Act.put,List.setIfInBounds_toArray,List.set_cons_zero,List.set_cons_succ,i64_w,i32_w]
    rfl
   refine last_ (i:=3) (N:=none) #[true,true,true,true] rfl rfl (one_of HT_.out (by kernel_rfl)) (by decide) (fun K hK=>?_)
   refine putB_step (by rfl) (.tmp 26) (.tmp 28) (.const (.bool true)) rfl bk _ ky rfl rfl rfl HKS.out (HMI.out.below ((bD (Below.refl _ W)).trans hw5)) HLN.out ?_
   intro w7 hm7 hg7 hk7
   refine hK.out _ _ ?_
   clear hK K
   refine done_ (done_of HT_.out (by kernel_rfl)) ?_
   have hB5 : Below W.heap.size W w5:=(bD (Below.refl _ W)).trans hw5
   refine ⟨((KeepsOthers.of_grownBy (grown_of_below hB5 none) (fun j o e _=>by cases e)).from _).trans (KeepsFrom.of_grownBy hg7 (fun j e=>by cases e;exact HLB.out)),(KpR.below hB5).trans (KpR.grown HMI.out.map hB5 hg7),(HI1.out.andThen (grown_of_below hB5 none) (fun j hj=>by cases hj)).andThen hg7 (fun j hj=>Or.inr hj),?_⟩
   have h_ : insAll key ((pre ++ [x]).map (·.1)) (insAll key (valsM Ma) []) = insK ky (insAll key (pre.map (·.1)) (insAll key (valsM Ma) [])):=by
    rw [List.map_append,HKX.out]
    unfold insAll
    rw [List.foldl_append]
    rfl
   rw [h_]
   exact hm7
  case hdone =>
   rintro D1 xs1 Y1 hD hS ⟨i1,i2⟩ hKD
   rw [hS] at i2
   have n0_:=As.mk (below_own HB.out HB.out.size i1 HBKW.out)
   have n_BK5:=As.mk ((i1.block _ (Array.getElem?_eq_some_iff.1 BK5.out).1 (fun e=>by have:=Option.some.inj e;have:=HBK5.out;omega)).trans BK5.out)
   have n_BKS:=As.mk ((i1.block _ (Array.getElem?_eq_some_iff.1 BKS.out).1 (fun e=>by have:=Option.some.inj e;have:=HGS.out;omega)).trans BKS.out)
   have n_HD0:=As.mk ((i1.block _ (Array.getElem?_eq_some_iff.1 HD0.out).1 (fun e=>by have:=Option.some.inj e;have:=HDB.out;omega)).trans HD0.out)
   have n_HDB:=As.mk (show bk < D1 ∧ w.heap.size ≤ D1 from ⟨Nat.lt_of_lt_of_le HLB.out hD,Nat.le_trans HB.out.size hD⟩)
   have HDN:=As.mk (show D0 ≠ D1 from Nat.ne_of_lt (Nat.lt_of_lt_of_le HDX.out hD))
   clear HB HMK BK5 BKS HCX HLB i1 hS HD0 HDX
   have HB:=n0_
   have HMK:=As.mk i2
   have BK5:=n_BK5
   have BKS:=n_BKS
   have HD1:=As.mk hKD
   have HDB1:=n_HDB
   have HD0:=n_HD0
   clear n0_ n_BK5 n_BKS n_HDB i2 hD hKD n_HD0
   go_wp2_with (fail)
   rw [rounds_succ]
   obtain ⟨ks,hks⟩ : ∃ ks,ks = insAll key (valsM Mb) (insAll key (valsM Ma) []):=⟨_,rfl⟩
   have hkl_:=insAll_len key (valsM Mb) (insAll key (valsM Ma) [])
   have hkl2_:=insAll_len key (valsM Ma) []
   simp only [List.length_nil] at hkl2_
   have hkz_ : ∀ s_ ∈ insAll key (valsM Mb) (insAll key (valsM Ma) []),s_.size ≤ maxLen:=fun s_ hs_=>by
    rcases insAll_mem hs_ with hs_ | ⟨d,hd,rfl⟩
    ·rcases insAll_mem hs_ with hs_ | ⟨d,hd,rfl⟩
     ·cases hs_
     ·exact Nat.le_trans (HKA.out d hd).2 (by decide)
    ·exact Nat.le_trans (HKB.out d hd).2 (by decide)
   have hmk_:=HMK.out
   rw [← hks] at hkl_ hkz_ hmk_
   have HMK:=As.mk hmk_
   have HKSS:=As.mk hks
   have HKZS:=As.mk hkz_
   have HKL:=As.mk (show ks.length ≤ 3000 by have:=HVL0.out;have:=HVL1.out;omega)
   clear hkl_ hkl2_ hkz_ hmk_ hks HVL0 HVL1 HLL0 HLL1 BKS HGS
   have qm_ : Y1.cell? ⟨g5,0,none⟩ = some (.map (some bk)):=(bC BK5.out 0).trans rfl
   go_wp2_with (first | (go_at_call 94;(with_reducible refine (callsIn_wide.1 (Tryz.maps_Keys_94 _ _)).mono ?_);rintro e wk ⟨rfl,rfl⟩) | (go_at_call 93;(with_reducible refine (callsIn_wide.1 (sortedB_calls _ bk ks HMK.out (Nat.le_trans HKL.out (by decide)))).mono ?_);rintro e w6 ⟨Ak,ck,rfl,hck_,hC_,hb_⟩))
   have hb0_:=below_then (bA (Below.refl _ Y1) _) (bA (Below.refl _ Y1) _).size hb_
   have HKV:=As.mk (Kd.V_mono (ok':=fun k_=>True ∧ some k_ ≠ (Value.slice none 0 0).ownBlock) (VS_of_C (base:=0) hC_ hck_) (fun _ _=>⟨trivial,by simp [Value.ownBlock]⟩))
   have n_HB:=As.mk (bS HB.out hb0_)
   have n_HD0:=As.mk ((hb0_.block _ (Array.getElem?_eq_some_iff.1 HD0.out).1).trans HD0.out)
   have n_HD1:=As.mk ((hb0_.block _ (Array.getElem?_eq_some_iff.1 HD1.out).1).trans HD1.out)
   clear HB HD0 HD1 HMK BK5 hb_ hb0_ hC_ hck_ qm_
   have HB:=n_HB
   have HD0:=n_HD0
   have HD1:=n_HD1
   clear n_HB n_HD0 n_HD1
   go_loopg [9,34] ks.length (fun kq v9 v34 w'=>∃ n : Nat,v34 = .int .i64 (n : Int) ∧ n ≤ ks.length ∧ As (kq + n = ks.length) ∧ As (Kd.N k82 82 w' w.heap.size (fun k_=>w.heap.size ≤ k_ ∧ k_ ≠ D0 ∧ k_ ≠ D1) v9 (ofG sm Ma Mb (ks.take n))) ∧ As (Kd.V Kd.string 9 w' 0 (fun k_=>True ∧ some k_ ≠ (v9 : Value).ownBlock) (.slice Ak ks.length ck) ks) ∧ As (w'.heap[D0]? = some (.deferred (some []))) ∧ As (w'.heap[D1]? = some (.deferred (some []))) ∧ As (Below w.heap.size w w'))
   case atStart=>exact ⟨0,rfl,Nat.zero_le _,⟨rfl⟩,⟨Kd.N_nil _ _ _ _ _⟩,HKV,HD0,HD1,HB⟩
   case round =>
    clear HKV HD0 HD1 HB
    obtain ⟨n,rfl,p1,HKQ,HO,HKV,HD0,HD1,HB⟩:=hrel
    by_cases hlt : n < ks.length
    case neg =>
     have c0_ : decide ((n : Int) < (ks.length : Int)) = false:=decide_eq_false (by omega)
     have ho_:=HO.out
     rw [List.take_of_length_le (by omega)] at ho_
     clear HO
     have HO:=As.mk ho_
     clear ho_
     go_wp2_with (fail)
     refine ⟨by simp,.inl ⟨_,_,rfl,run_takeDeferred HD1.out,?_⟩⟩
     have hd0_ : (wr.putObj D1 (.deferred none)).heap[D0]? = some (.deferred (some [])):=(World.putObj_heap_other HDN.out).trans HD0.out
     refine ⟨by simp,.inl ⟨_,_,rfl,run_takeDeferred hd0_,?_⟩⟩
     refine ⟨u9,?_,u9,rfl,?_,?_⟩
     ·simp [results,Tryz.f55,go_sem]
     ·rw [← HKSS.out]
      refine Kd.N_mono (Kd.N_step HO.out (fun k_ hk_ _=>?_)) (fun _ hk_=>hk_.1)
      rw [World.putObj_heap_other hk_.2.1,World.putObj_heap_other hk_.2.2]
     ·exact (HB.out.trans (belowK_b (w:=w) (Nat.le_refl _) _ D1 _ _ HDB1.out.2 HD1.out rfl rfl)).trans (belowK_b (w:=w) (Nat.le_refl _) _ D0 _ _ HDB.out.2 hd0_ rfl rfl)
    case pos =>
     obtain ⟨ky,hky⟩ : ∃ ky,ky = ks[n]:=⟨_,rfl⟩
     obtain ⟨ad,e_,q0⟩:=Kd.at_string (Kd.V_reads' HKV.out).2.2 (n : Int) (by omega) (by omega)
     rw [rdOf_at _ n hlt,← hky,Int.toNat_natCast] at q0
     subst e_
     have HKZ:=As.mk (HKZS.out ky (by rw [hky];exact List.getElem_mem hlt))
     have HSM2:=As.mk (show ∀ x ∈ getM Ma ky,∀ y ∈ getM Mb ky,_ = some (sm x y) from fun x hx y hy=>HSM.out x (getM_sub HA.out hx) y (getM_sub HBS.out hy))
     have hnx_:=ofG_next sm Ma Mb ks n ky (by rw [hky];exact List.getElem?_eq_getElem hlt)
     obtain ⟨bv,hbv⟩ : ∃ bv,bv = alike sm (getM Ma ky) (getM Mb ky):=⟨_,rfl⟩
     rw [← hbv] at hnx_
     have HBV:=As.mk hbv
     have HNX:=As.mk hnx_
     have HX2:=As.mk (show n < ks.length ∧ ks.length ≤ 3000 from ⟨hlt,HKL.out⟩)
     have c0_ : decide ((n : Int) < (ks.length : Int)) = true:=decide_eq_true (by omega)
     have p1_ : ((n : Int) < (ks.length : Int)) = True:=eq_true (by omega)
     have p2_ : (n < ks.length) = True:=eq_true hlt
     have hw1 : wrap64 ((n : Int) + 1) = ((n + 1 : Nat) : Int):=by rw [IntWalk.wrap64_in _ (by have:=HX2.out;omega)];omega
     clear hky hbv hnx_ hlt p1
     cases bv with
     | true =>
      go_wp2_with (first | (go_at_call 92;(with_reducible refine (dget_calls _ pa Ma ky (HA.out.below HB.out) HKZ.out HVA.out).mono ?_);rintro e wx ⟨vx,rfl,hx_,hb_⟩;obtain ⟨Ax,cx,rfl⟩:=Kd.N_slice hx_;have HX:=As.mk (Kd.V_mono (ok':=fun k_=>(w.heap.size ≤ k_ ∧ k_ ≠ D0 ∧ k_ ≠ D1) ∧ some k_ ≠ (u9 : Value).ownBlock) (Kd.N_V (base':=0) hx_) (fun k_ hk_=>⟨⟨Nat.le_trans HB.out.size hk_,Nat.ne_of_gt (Nat.lt_of_lt_of_le (Array.getElem?_eq_some_iff.1 HD0.out).1 hk_),Nat.ne_of_gt (Nat.lt_of_lt_of_le (Array.getElem?_eq_some_iff.1 HD1.out).1 hk_)⟩,fun e_=>Nat.lt_irrefl _ (Nat.lt_of_lt_of_le (Kd.N_lt HO.out k_ e_.symm) hk_)⟩));clear hx_;have n_HB:=As.mk (bS HB.out hb_);have n_HO:=As.mk (Kd.N_below HO.out hb_);have n_HKV:=As.mk (Kd.V_below HKV.out hb_);have n_HD0:=As.mk ((hb_.block _ (Array.getElem?_eq_some_iff.1 HD0.out).1).trans HD0.out);have n_HD1:=As.mk ((hb_.block _ (Array.getElem?_eq_some_iff.1 HD1.out).1).trans HD1.out);clear HB HO HKV HD0 HD1 hb_;have HB:=n_HB;have HO:=n_HO;have HKV:=n_HKV;have HD0:=n_HD0;have HD1:=n_HD1;clear n_HB n_HO n_HKV n_HD0 n_HD1) | (go_at_call 92;(with_reducible refine (dget_calls _ pb Mb ky (HBS.out.below HB.out) HKZ.out HVB.out).mono ?_);rintro e wy ⟨vy,rfl,hy_,hb_⟩;obtain ⟨Ay,cy,rfl⟩:=Kd.N_slice hy_;have HY:=As.mk (Kd.V_mono (ok':=fun k_=>(w.heap.size ≤ k_ ∧ k_ ≠ D0 ∧ k_ ≠ D1) ∧ some k_ ≠ (u9 : Value).ownBlock) (Kd.N_V (base':=0) hy_) (fun k_ hk_=>⟨⟨Nat.le_trans HB.out.size hk_,Nat.ne_of_gt (Nat.lt_of_lt_of_le (Array.getElem?_eq_some_iff.1 HD0.out).1 hk_),Nat.ne_of_gt (Nat.lt_of_lt_of_le (Array.getElem?_eq_some_iff.1 HD1.out).1 hk_)⟩,fun e_=>Nat.lt_irrefl _ (Nat.lt_of_lt_of_le (Kd.N_lt HO.out k_ e_.symm) hk_)⟩));clear hy_;have n_HB:=As.mk (bS HB.out hb_);have n_HO:=As.mk (Kd.N_below HO.out hb_);have n_HKV:=As.mk (Kd.V_below HKV.out hb_);have n_HD0:=As.mk ((hb_.block _ (Array.getElem?_eq_some_iff.1 HD0.out).1).trans HD0.out);have n_HD1:=As.mk ((hb_.block _ (Array.getElem?_eq_some_iff.1 HD1.out).1).trans HD1.out);have n_HX:=As.mk (Kd.V_below HX.out hb_);clear HB HO HKV HD0 HD1 HX hb_;have HB:=n_HB;have HO:=n_HO;have HKV:=n_HKV;have HD0:=n_HD0;have HD1:=n_HD1;have HX:=n_HX;clear n_HB n_HO n_HKV n_HD0 n_HD1 n_HX) | (go_at_call 74;(with_reducible refine (dsame_calls sm k _ Ax cx (getM Ma ky) Ay cy (getM Mb ky) (Kd.V_reads' HX.out).2.2 (Kd.V_reads' HY.out).2.2 (Nat.le_trans (getM_len Ma ky) (by decide)) HSM2.out).mono ?_);rintro e wz ⟨he_,hb_⟩;rw [← HBV.out] at he_;subst he_;have n_HB:=As.mk (bS HB.out hb_);have n_HO:=As.mk (Kd.N_below HO.out hb_);have n_HKV:=As.mk (Kd.V_below HKV.out hb_);have n_HD0:=As.mk ((hb_.block _ (Array.getElem?_eq_some_iff.1 HD0.out).1).trans HD0.out);have n_HD1:=As.mk ((hb_.block _ (Array.getElem?_eq_some_iff.1 HD1.out).1).trans HD1.out);have n_HX:=As.mk (Kd.V_below HX.out hb_);have n_HY:=As.mk (Kd.V_below HY.out hb_);clear HB HO HKV HD0 HD1 HX HY hb_;have HB:=n_HB;have HO:=n_HO;have HKV:=n_HKV;have HD0:=n_HD0;have HD1:=n_HD1;have HX:=n_HX;have HY:=n_HY;clear n_HB n_HO n_HKV n_HD0 n_HD1 n_HX n_HY))
      have hnx_:=HNX.out
      simp only [if_true,List.append_nil] at hnx_
      have ho_:=HO.out
      rw [← hnx_] at ho_
      go_roundg (gk - 1)
      case measure=>have:=HKQ.out;have:=HX2.out;omega
      case rel=>exact ⟨n + 1,(by first | rfl | rw [hw1]),HX2.out.1,⟨by have:=HKQ.out;have:=HX2.out;omega⟩,⟨ho_⟩,HKV,HD0,HD1,HB⟩
     | false =>
      go_wp2_with (first | (go_at_call 92;(with_reducible refine (dget_calls _ pa Ma ky (HA.out.below HB.out) HKZ.out HVA.out).mono ?_);rintro e wx ⟨vx,rfl,hx_,hb_⟩;obtain ⟨Ax,cx,rfl⟩:=Kd.N_slice hx_;have HX:=As.mk (Kd.V_mono (ok':=fun k_=>(w.heap.size ≤ k_ ∧ k_ ≠ D0 ∧ k_ ≠ D1) ∧ some k_ ≠ (u9 : Value).ownBlock) (Kd.N_V (base':=0) hx_) (fun k_ hk_=>⟨⟨Nat.le_trans HB.out.size hk_,Nat.ne_of_gt (Nat.lt_of_lt_of_le (Array.getElem?_eq_some_iff.1 HD0.out).1 hk_),Nat.ne_of_gt (Nat.lt_of_lt_of_le (Array.getElem?_eq_some_iff.1 HD1.out).1 hk_)⟩,fun e_=>Nat.lt_irrefl _ (Nat.lt_of_lt_of_le (Kd.N_lt HO.out k_ e_.symm) hk_)⟩));clear hx_;have n_HB:=As.mk (bS HB.out hb_);have n_HO:=As.mk (Kd.N_below HO.out hb_);have n_HKV:=As.mk (Kd.V_below HKV.out hb_);have n_HD0:=As.mk ((hb_.block _ (Array.getElem?_eq_some_iff.1 HD0.out).1).trans HD0.out);have n_HD1:=As.mk ((hb_.block _ (Array.getElem?_eq_some_iff.1 HD1.out).1).trans HD1.out);clear HB HO HKV HD0 HD1 hb_;have HB:=n_HB;have HO:=n_HO;have HKV:=n_HKV;have HD0:=n_HD0;have HD1:=n_HD1;clear n_HB n_HO n_HKV n_HD0 n_HD1) | (go_at_call 92;(with_reducible refine (dget_calls _ pb Mb ky (HBS.out.below HB.out) HKZ.out HVB.out).mono ?_);rintro e wy ⟨vy,rfl,hy_,hb_⟩;obtain ⟨Ay,cy,rfl⟩:=Kd.N_slice hy_;have HY:=As.mk (Kd.V_mono (ok':=fun k_=>(w.heap.size ≤ k_ ∧ k_ ≠ D0 ∧ k_ ≠ D1) ∧ some k_ ≠ (u9 : Value).ownBlock) (Kd.N_V (base':=0) hy_) (fun k_ hk_=>⟨⟨Nat.le_trans HB.out.size hk_,Nat.ne_of_gt (Nat.lt_of_lt_of_le (Array.getElem?_eq_some_iff.1 HD0.out).1 hk_),Nat.ne_of_gt (Nat.lt_of_lt_of_le (Array.getElem?_eq_some_iff.1 HD1.out).1 hk_)⟩,fun e_=>Nat.lt_irrefl _ (Nat.lt_of_lt_of_le (Kd.N_lt HO.out k_ e_.symm) hk_)⟩));clear hy_;have n_HB:=As.mk (bS HB.out hb_);have n_HO:=As.mk (Kd.N_below HO.out hb_);have n_HKV:=As.mk (Kd.V_below HKV.out hb_);have n_HD0:=As.mk ((hb_.block _ (Array.getElem?_eq_some_iff.1 HD0.out).1).trans HD0.out);have n_HD1:=As.mk ((hb_.block _ (Array.getElem?_eq_some_iff.1 HD1.out).1).trans HD1.out);have n_HX:=As.mk (Kd.V_below HX.out hb_);clear HB HO HKV HD0 HD1 HX hb_;have HB:=n_HB;have HO:=n_HO;have HKV:=n_HKV;have HD0:=n_HD0;have HD1:=n_HD1;have HX:=n_HX;clear n_HB n_HO n_HKV n_HD0 n_HD1 n_HX) | (go_at_call 74;(with_reducible refine (dsame_calls sm k _ Ax cx (getM Ma ky) Ay cy (getM Mb ky) (Kd.V_reads' HX.out).2.2 (Kd.V_reads' HY.out).2.2 (Nat.le_trans (getM_len Ma ky) (by decide)) HSM2.out).mono ?_);rintro e wz ⟨he_,hb_⟩;rw [← HBV.out] at he_;subst he_;have n_HB:=As.mk (bS HB.out hb_);have n_HO:=As.mk (Kd.N_below HO.out hb_);have n_HKV:=As.mk (Kd.V_below HKV.out hb_);have n_HD0:=As.mk ((hb_.block _ (Array.getElem?_eq_some_iff.1 HD0.out).1).trans HD0.out);have n_HD1:=As.mk ((hb_.block _ (Array.getElem?_eq_some_iff.1 HD1.out).1).trans HD1.out);have n_HX:=As.mk (Kd.V_below HX.out hb_);have n_HY:=As.mk (Kd.V_below HY.out hb_);clear HB HO HKV HD0 HD1 HX HY hb_;have HB:=n_HB;have HO:=n_HO;have HKV:=n_HKV;have HD0:=n_HD0;have HD1:=n_HD1;have HX:=n_HX;have HY:=n_HY;clear n_HB n_HO n_HKV n_HD0 n_HD1 n_HX n_HY) | ((with_reducible refine gB (b:=.append) (xs:=#[.tmp 48,.tmp 53]) rfl ?_);(try (refine gate_guard (by rfl) ?_;dsimp only));at_builtin;refine Kd.N_append k82 (w0:=w) w.heap.size rfl (.tmp 48) (.tmp 53) 44 82 (.agg #[(.string ⟨#[]⟩),(.slice none 0 0),(.slice none 0 0)]) 64 rfl Tryz.underlying44 info82 rfl (by decide) (by omega) u9 (ofG sm Ma Mb (ks.take n)) (⟨ky,getM Ma ky,getM Mb ky⟩ : S82) [.string ky,.slice Ax (getM Ma ky).length cx,.slice Ay (getM Mb ky).length cy] (fun k_=>w.heap.size ≤ k_ ∧ k_ ≠ D0 ∧ k_ ≠ D1) (fun k_=>(w.heap.size ≤ k_ ∧ k_ ≠ D0 ∧ k_ ≠ D1) ∧ some k_ ≠ (u9 : Value).ownBlock) rfl rfl ?aP (fun _ hk=>hk) ?aF ?aO ?aB ?aS ?aL ?_;(case aP=>exact k82_mkF _ _ (⟨ky,getM Ma ky,getM Mb ky⟩ : S82) (Kd.V_reads' HX.out).2.1 (Kd.V_F HX.out) (Kd.V_reads' HY.out).2.1 (Kd.V_F HY.out));(case aB=>exact HB.out);(case aF=>exact fun k_ hk_=>⟨Nat.le_trans HB.out.size hk_,Nat.ne_of_gt (Nat.lt_of_lt_of_le (Array.getElem?_eq_some_iff.1 HD0.out).1 hk_),Nat.ne_of_gt (Nat.lt_of_lt_of_le (Array.getElem?_eq_some_iff.1 HD1.out).1 hk_)⟩);(case aO=>exact HO.out);(case aS=>exact HB.out.size);(case aL=>have h1_:=ofG_len sm Ma Mb (ks.take n);have h2_:=HX2.out;rw [List.length_take] at h1_;omega);intro v54 w54 ho_ hb_ hg_ hat_;have n_HD0:=As.mk ((hg_.block _ (Array.getElem?_eq_some_iff.1 HD0.out).1 (fun e_=>(HO.out.1 _ e_.symm).2.1 rfl)).trans HD0.out);have n_HD1:=As.mk ((hg_.block _ (Array.getElem?_eq_some_iff.1 HD1.out).1 (fun e_=>(HO.out.1 _ e_.symm).2.2 rfl)).trans HD1.out);have n_HKV:=As.mk (Kd.V_afterv HKV.out hg_ hat_);have n_HB:=As.mk hb_;have n_HO:=As.mk ho_;clear HB HO HKV HD0 HD1 HX HY ho_ hb_ hg_ hat_;have HB:=n_HB;have HO:=n_HO;have HKV:=n_HKV;have HD0:=n_HD0;have HD1:=n_HD1;clear n_HB n_HO n_HKV n_HD0 n_HD1))
      have hnx_:=HNX.out
      simp only [Bool.false_eq_true,if_false] at hnx_
      have ho_:=HO.out
      rw [← hnx_] at ho_
      go_roundg (gk - 1)
      case measure=>have:=HKQ.out;have:=HX2.out;omega
      case rel=>exact ⟨n + 1,(by first | rfl | rw [hw1]),HX2.out.1,⟨by have:=HKQ.out;have:=HX2.out;omega⟩,⟨ho_⟩,HKV,HD0,HD1,HB⟩
end Go.Proofs.YtmlebgikdegjjaaGreatDoor.Hd
