/- Octet's reader: what it is, and its methods. -/
import Derived.Test.YtmlebgikdegjjaaGreatDoorNm
import Derived.Test.YtmlebgikdegjjaaGreatDoorWWords
import Derived.Test.YtmlebgikdegjjaaGreatDoorProg
set_option maxHeartbeats 16000000
set_option maxRecDepth 100000
namespace Go.Proofs.YtmlebgikdegjjaaGreatDoor.Hd
open Go.RowKit Go.Proofs.YtmlebgikdegjjaaGreatDoorW.PrintWords Go.Proofs.YtmlebgikdegjjaaGreatDoorW.PrintLast Go.Proofs.YtmlebgikdegjjaaGreatDoorW.PrintMore
attribute [local go_sem] max2_int min2_int max_two min_two max_three min_three max_four min_four
set_option linter.unusedVariables false
set_option linter.unusedSimpArgs false
def BytesOk (bs : List Int) : Prop:=∀ x ∈ bs,0 ≤ x ∧ x < 256
def val (bs : List Int) : Int:=bs.foldl (fun n c=>n * 256 + c) 0
theorem val_snoc (bs : List Int) (c : Int) : val (bs ++ [c]) = val bs * 256 + c:=by simp [val,List.foldl_append]
theorem BytesOk.take {bs : List Int} (h : BytesOk bs) (n : Nat) : BytesOk (bs.take n):=fun x hx=>h x (List.mem_of_mem_take hx)
theorem BytesOk.drop {bs : List Int} (h : BytesOk bs) (n : Nat) : BytesOk (bs.drop n):=fun x hx=>h x (List.mem_of_mem_drop hx)
theorem val_bound : ∀ (n : Nat) (bs : List Int),bs.length = n → BytesOk bs → 0 ≤ val bs ∧ val bs < (256 : Int) ^ n
 | 0,bs,hl,_=>by
  have : bs = []:=List.eq_nil_of_length_eq_zero hl
  subst this;decide
 | n + 1,bs,hl,h=>by
  have hne : bs ≠ []:=by intro e;subst e;cases hl
  have e:=List.dropLast_concat_getLast hne
  have ih:=val_bound n bs.dropLast (by rw [List.length_dropLast,hl];omega) (fun x hx=>h x (List.dropLast_subset _ hx))
  have hb:=h (bs.getLast hne) (List.getLast_mem hne)
  rw [← e,val_snoc,Int.pow_succ]
  omega
def numR (bs : List Int) (e : Int) : Int × List Int × Int :=
 if e ≠ 0 then (0,bs,e) else if bs.length < 4 then (0,bs,10) else if val (bs.take 4) > 2147483647 then (0,bs,11) else (val (bs.take 4),bs.drop 4,0)
def textR (bs : List Int) (e : Int) : ByteArray × List Int × Int :=
 if (numR bs e).2.2 ≠ 0 then (⟨#[]⟩,bs,(numR bs e).2.2)
 else if (numR bs e).1 > ((numR bs e).2.1.length : Int) then (⟨#[]⟩,bs,10)
 else (strOfNums ((numR bs e).2.1.take (numR bs e).1.toNat),(numR bs e).2.1.drop (numR bs e).1.toNat,0)
def textsL : Nat → List Int → List ByteArray × List Int × Int
 | 0,bs=>([],bs,0)
 | n + 1,bs=>if (textR bs 0).2.2 ≠ 0 then ([(textR bs 0).1],(textR bs 0).2.1,(textR bs 0).2.2)
  else ((textR bs 0).1 :: (textsL n (textR bs 0).2.1).1,(textsL n (textR bs 0).2.1).2.1,(textsL n (textR bs 0).2.1).2.2)
def textsR (bs : List Int) (e : Int) : List ByteArray × List Int × Int :=
 if (numR bs e).2.2 ≠ 0 then ([],bs,(numR bs e).2.2)
 else if (numR bs e).1 > 1000000 ∨ (numR bs e).1 > ((numR bs e).2.1.length : Int) then ([],bs,10)
 else if (textsL (numR bs e).1.toNat (numR bs e).2.1).2.2 ≠ 0 then ([],bs,(textsL (numR bs e).1.toNat (numR bs e).2.1).2.2)
 else ((textsL (numR bs e).1.toNat (numR bs e).2.1).1,(textsL (numR bs e).1.toNat (numR bs e).2.1).2.1,0)
theorem u64_mod (n : Int) (h : 0 ≤ n ∧ n < 18446744073709551616) : IntKind.u64.wrap n = n:=IntWalk.u64_in n ⟨h.1,by omega⟩
theorem or_add (V c : Int) (h0 : 0 ≤ V) (h1 : V < 72057594037927936) (c0 : 0 ≤ c) (c1 : c < 256) : bits .or .u64 (IntKind.u64.wrap (V * 256)) (IntKind.u64.wrap c) = V * 256 + c:=by
 obtain ⟨v,rfl⟩:=Int.eq_ofNat_of_zero_le h0
 obtain ⟨d,rfl⟩:=Int.eq_ofNat_of_zero_le c0
 rw [u64_mod _ ⟨by omega,by omega⟩,u64_mod (d : Int) ⟨by omega,by omega⟩]
 unfold bits
 have e1 : (BitVec.ofInt IntKind.u64.bits ((v : Int) * 256)).toNat = v * 256:=by
  rw [show ((v : Int) * 256) = ((v * 256 : Nat) : Int) by omega,BitVec.ofInt_natCast,BitVec.toNat_ofNat]
  exact Nat.mod_eq_of_lt (by show v * 256 < 2 ^ 64;omega)
 have e2 : (BitVec.ofInt IntKind.u64.bits (d : Int)).toNat = d:=by
  rw [BitVec.ofInt_natCast,BitVec.toNat_ofNat]
  exact Nat.mod_eq_of_lt (by show d < 2 ^ 64;omega)
 show IntKind.u64.wrap (((BitVec.ofInt IntKind.u64.bits ((v : Int) * 256)) ||| (BitVec.ofInt IntKind.u64.bits (d : Int))).toNat : Int) = _
 rw [BitVec.toNat_or,e1,e2]
 have e3 : v * 256 ||| d = v * 256 + d:=by
  have:=Nat.shiftLeft_add_eq_or_of_lt (show d < 2 ^ 8 by omega) v
  rw [Nat.shiftLeft_eq] at this
  exact this.symm
 rw [e3,u64_mod _ ⟨by omega,by omega⟩]
 omega
theorem val_next (bs : List Int) (sz : Nat) (x : Int) (hb : BytesOk bs) (hs : sz ≤ 8) (hl : sz ≤ bs.length) (h0 : 0 ≤ x) (h1 : x < (sz : Int)) :
  bits .or .u64 (IntKind.u64.wrap (val (bs.take x.toNat) * 256)) (IntKind.u64.wrap (rd (bs.take sz) x)) = val (bs.take (x + 1).toNat):=by
 have e : (x + 1).toNat = x.toNat + 1:=by omega
 have hlt : x.toNat < bs.length:=by omega
 have er : rd (bs.take sz) x = bs[x.toNat]:=by
  unfold rd
  rw [List.getD_eq_getElem?_getD,List.getElem?_take_of_lt (by omega),List.getElem?_eq_getElem hlt]
  rfl
 have hc:=hb _ (List.getElem_mem hlt)
 have hv:=val_bound x.toNat (bs.take x.toNat) (by rw [List.length_take];omega) (hb.take _)
 have h7 : val (bs.take x.toNat) < 72057594037927936:=by
  have hn : (256 : Nat) ^ x.toNat ≤ 72057594037927936:=Nat.le_trans (Nat.pow_le_pow_right (by decide) (show x.toNat ≤ 7 by omega)) (by decide)
  have en : (256 : Int) ^ x.toNat = ((256 ^ x.toNat : Nat) : Int):=by rw [Int.natCast_pow];rfl
  have hv2:=hv.2
  rw [en] at hv2
  generalize (256 : Nat) ^ x.toNat = m at hn hv2
  omega
 rw [er,or_add _ _ hv.1 h7 hc.1 hc.2,e,List.take_succ_eq_append_getElem hlt,val_snoc]
theorem numR_cases (bs : List Int) (e : Int) (hb : BytesOk bs) : (numR bs e = (0,bs,e) ∧ e ≠ 0) ∨ (numR bs e = (0,bs,10) ∧ e = 0 ∧ bs.length < 4) ∨ (numR bs e = (0,bs,11) ∧ e = 0 ∧ 4 ≤ bs.length ∧ val (bs.take 4) > 2147483647) ∨
  (numR bs e = (val (bs.take 4),bs.drop 4,0) ∧ e = 0 ∧ 4 ≤ bs.length ∧ 0 ≤ val (bs.take 4) ∧ val (bs.take 4) ≤ 2147483647):=by
 unfold numR
 by_cases h1 : e ≠ 0
 ·rw [if_pos h1];exact Or.inl ⟨rfl,h1⟩
 ·rw [if_neg h1]
  have h1' : e = 0:=by omega
  by_cases h2 : bs.length < 4
  ·rw [if_pos h2];exact Or.inr (Or.inl ⟨rfl,h1',h2⟩)
  ·rw [if_neg h2]
   by_cases h3 : val (bs.take 4) > 2147483647
   ·rw [if_pos h3];exact Or.inr (Or.inr (Or.inl ⟨rfl,h1',by omega,h3⟩))
   ·rw [if_neg h3]
    have:=(val_bound 4 (bs.take 4) (by rw [List.length_take];omega) (hb.take 4)).1
    exact Or.inr (Or.inr (Or.inr ⟨rfl,h1',by omega,this,by omega⟩))
def OcR (w0 w : World) (g : Nat) (bs : List Int) (e : Int) : Prop:=∃ Ad c,w.heap[g]? = some (.cells #[.slice Ad bs.length c,.int .i64 e] 159 (0,0)) ∧ w0.heap.size ≤ g ∧ Kd.C (Kd.int .u8) w0 Ad bs.length bs ∧ bs.length ≤ c
theorem OcR.keep {w0 w w' : World} {g g' : Nat} {bs : List Int} {e : Int} (h : OcR w0 w g bs e) (hk : KeepBut w w' g' none) (hne : g ≠ g') : OcR w0 w' g bs e:=by
 obtain ⟨Ad,c,h1,h2⟩:=h
 exact ⟨Ad,c,(hk.2 g (blk_lt h1) hne (by simp)).trans h1,h2⟩
theorem OcR.below {w0 w w' : World} {g : Nat} {bs : List Int} {e : Int} (h : OcR w0 w g bs e) (hb : Below w.heap.size w w') : OcR w0 w' g bs e:=by
 obtain ⟨Ad,c,h1,h2⟩:=h
 exact ⟨Ad,c,blk_below h1 hb,h2⟩
theorem OcR.ge {w0 w : World} {g : Nat} {bs : List Int} {e : Int} (h : OcR w0 w g bs e) : w0.heap.size ≤ g:=by
 obtain ⟨Ad,c,h1,h2,_⟩:=h
 exact h2
theorem OcR.lt {w0 w : World} {g : Nat} {bs : List Int} {e : Int} (h : OcR w0 w g bs e) : g < w.heap.size:=by
 obtain ⟨Ad,c,h1,h2,_⟩:=h
 exact blk_lt h1
theorem OcR.err {w0 w : World} {g : Nat} {bs : List Int} {e : Int} (h : OcR w0 w g bs e) (x : Int) : OcR w0 (w.setCell ⟨g,1,none⟩ (.int .i64 x)) g bs x:=by
 obtain ⟨Ad,c,h1,h2,h3,h4⟩:=h
 exact ⟨Ad,c,by simpa using blk_set h1 1 (.int .i64 x),h2,h3,h4⟩
theorem OcR.row {w0 w : World} {g : Nat} {bs : List Int} {e : Int} (h : OcR w0 w g bs e) {bs' : List Int} {Ad : Option Addr} {n c : Nat} (hn : n = bs'.length) (hc : Kd.C (Kd.int .u8) w0 Ad bs'.length bs') (hl : bs'.length ≤ c) : OcR w0 (w.setCell ⟨g,0,none⟩ (.slice Ad n c)) g bs' e:=by
 obtain ⟨A0,c0,h1,h2,h3,h4⟩:=h
 subst hn
 exact ⟨Ad,c,by simpa using blk_set h1 0 (.slice Ad bs'.length c),h2,hc,hl⟩
theorem OcR.drewN {w0 w : World} {g : Nat} {bs : List Int} {e : Int} (h : OcR w0 w g bs e) (m : Nat) : OcR w0 (w.drewN m) g bs e:=h
theorem OcR.drew {w0 w : World} {g : Nat} {bs : List Int} {e : Int} (h : OcR w0 w g bs e) : OcR w0 w.drew g bs e:=h
theorem OcR.alloc {w0 w : World} {g : Nat} {bs : List Int} {e : Int} (h : OcR w0 w g bs e) (o : Obj) : OcR w0 (w.alloc o) g bs e:=h.below (bA (Below.refl _ _) o)
theorem infoU8_ : ((Tryz.prog.info? 5).map (fun i=>(i.zero,i.size,i.bytes))) = some (some (.int .u8 0),1,1):=by kernel_rfl
theorem infoU8s_ : ∃ i,Tryz.prog.info? 5 = some i ∧ i.size = 1:=by
 have h:=infoU8_
 cases h0 : Tryz.prog.info? 5 with
 | none=>rw [h0] at h;cases h
 | some i=>rw [h0] at h;exact ⟨i,rfl,by have:=Option.some.inj h;exact congrArg (fun x=>x.2.1) this⟩
theorem infoS_ : ((Tryz.prog.info? 9).map (fun i=>(i.zero,i.size,i.bytes))) = some (some (.string ⟨#[]⟩),1,16):=by kernel_rfl
theorem fail_calls (g : Nat) (bs : List Int) (e : Int) (x : Int) (w0 w : World) (hI : OcR w0 w g bs e) (hB : Below w0.heap.size w0 w) :
  Calls Tryz.prog 132 #[.pointer (some ⟨g,0,none⟩),.int .i64 x] w fun r w'=>r = .returned (.tuple #[]) ∧ OcR w0 w' g bs (if e = 0 then x else e) ∧ Below w0.heap.size w0 w' ∧ KeepBut w w' g none:=by
 have HI:=As.mk hI
 have HB:=As.mk hB
 have HK:=As.mk (KeepBut.refl w g none)
 clear hI hB
 obtain ⟨Ad,cp,hg,hge,hC,hl⟩:=HI.out
 have HGE:=As.mk hge
 have hcz_0 : w.cell? ⟨g,0,none⟩ = some (.slice Ad bs.length cp):=(bC hg 0).trans rfl
 have hcz_1 : w.cell? ⟨g,1,none⟩ = some (.int .i64 e):=(bC hg 1).trans rfl
 have hfz_0:=bF hg 0
 have hfz_1:=bF hg 1
 clear hg hge
 by_cases c1 : e = 0
 ·have c1a : (e == 0) = true:=beq_iff_eq.mpr c1
  rw [if_pos c1]
  go_enter Tryz.func132,Tryz.ntmps132
  go_wp2_with (fail)
  first | go_end0 | ((try simp only [Exit.inBlock,Exit.then]);refine bodyPost_ret (results_none rfl _ _ _) rfl ?_)
  exact ⟨rfl,(by repeat (first | (with_reducible first | exact HI.out | apply OcR.alloc | apply OcR.drewN | apply OcR.drew | apply OcR.err) | exact HI.out)),(by repeat (first | (with_reducible first | exact HB.out | apply bA | apply bN | apply bD | refine bT ?_ HI.out.ge) | exact HB.out)),(by repeat (first | (with_reducible first | exact HK.out | apply KeepBut.set_ | apply keep_drewN | apply keep_drew | apply keep_alloc) | exact HK.out))⟩
 ·have c1a : (e == 0) = false:=beq_eq_false_iff_ne.mpr c1
  rw [if_neg c1]
  go_enter Tryz.func132,Tryz.ntmps132
  go_wp2_with (fail)
  first | go_end0 | ((try simp only [Exit.inBlock,Exit.then]);refine bodyPost_ret (results_none rfl _ _ _) rfl ?_)
  exact ⟨rfl,(by repeat (first | (with_reducible first | exact HI.out | apply OcR.alloc | apply OcR.drewN | apply OcR.drew | apply OcR.err) | exact HI.out)),(by repeat (first | (with_reducible first | exact HB.out | apply bA | apply bN | apply bD | refine bT ?_ HI.out.ge) | exact HB.out)),(by repeat (first | (with_reducible first | exact HK.out | apply KeepBut.set_ | apply keep_drewN | apply keep_drew | apply keep_alloc) | exact HK.out))⟩
theorem err_calls (g : Nat) (bs : List Int) (e : Int) (w0 w : World) (hI : OcR w0 w g bs e) (hB : Below w0.heap.size w0 w) :
  Calls Tryz.prog 97 #[.pointer (some ⟨g,0,none⟩)] w fun r w'=>r = .returned (.int .i64 e) ∧ OcR w0 w' g bs e ∧ Below w0.heap.size w0 w' ∧ KeepBut w w' g none:=by
 have HI:=As.mk hI
 have HB:=As.mk hB
 have HK:=As.mk (KeepBut.refl w g none)
 clear hI hB
 obtain ⟨Ad,cp,hg,hge,hC,hl⟩:=HI.out
 have HGE:=As.mk hge
 have hcz_0 : w.cell? ⟨g,0,none⟩ = some (.slice Ad bs.length cp):=(bC hg 0).trans rfl
 have hcz_1 : w.cell? ⟨g,1,none⟩ = some (.int .i64 e):=(bC hg 1).trans rfl
 have hfz_0:=bF hg 0
 have hfz_1:=bF hg 1
 clear hg hge
 go_enter Tryz.func97,Tryz.ntmps97
 go_wp2_with (fail)
 go_ret
 exact ⟨rfl,(by repeat (first | (with_reducible first | exact HI.out | apply OcR.alloc | apply OcR.drewN | apply OcR.drew | apply OcR.err) | exact HI.out)),(by repeat (first | (with_reducible first | exact HB.out | apply bA | apply bN | apply bD | refine bT ?_ HI.out.ge) | exact HB.out)),(by repeat (first | (with_reducible first | exact HK.out | apply KeepBut.set_ | apply keep_drewN | apply keep_drew | apply keep_alloc) | exact HK.out))⟩
def getB (bs : List Int) (e : Int) (sz : Nat) : Bool:=e == 0 && decide (sz ≤ bs.length)
def getE (bs : List Int) (e : Int) (sz : Nat) : Int:=if e = 0 then (if sz ≤ bs.length then 0 else 10) else e
def getV (bs : List Int) (e : Int) (sz : Nat) : Int:=if getB bs e sz = true then val (bs.take sz) else 0
theorem get_calls (g : Nat) (bs : List Int) (e : Int) (sz : Nat) (hsz : sz ≤ 8) (hb : BytesOk bs) (w0 w : World) (hI : OcR w0 w g bs e) (hB : Below w0.heap.size w0 w) :
  Calls Tryz.prog 131 #[.pointer (some ⟨g,0,none⟩),.int .i64 (sz : Int)] w fun r w'=>r = .returned (.tuple #[.int .u64 (getV bs e sz),.bool (getB bs e sz)]) ∧ OcR w0 w' g bs (getE bs e sz) ∧ Below w0.heap.size w0 w' ∧ KeepBut w w' g none:=by
 have HI:=As.mk hI
 have HB:=As.mk hB
 have HK:=As.mk (KeepBut.refl w g none)
 clear hI hB
 obtain ⟨Ad,cp,hg,hge,hC,hl⟩:=HI.out
 have HGE:=As.mk hge
 have hcz_0 : w.cell? ⟨g,0,none⟩ = some (.slice Ad bs.length cp):=(bC hg 0).trans rfl
 have hcz_1 : w.cell? ⟨g,1,none⟩ = some (.int .i64 e):=(bC hg 1).trans rfl
 have hfz_0:=bF hg 0
 have hfz_1:=bF hg 1
 clear hg hge
 by_cases c1 : e = 0
 ·have c1a : (e == 0) = true:=beq_iff_eq.mpr c1
  have c1b : (e != 0) = false:=bne_eq_false_iff_eq.mpr c1
  by_cases c2 : sz ≤ bs.length
  ·have c2a : decide ((bs.length : Int) < (sz : Int)) = false:=decide_eq_false (by omega)
   have eB : getB bs e sz = true:=by simp [getB,c1,c2]
   have eE : getE bs e sz = e:=by simp [getE,c1,c2]
   have eV : getV bs e sz = val (bs.take sz):=by simp [getV,eB]
   rw [eB,eE,eV]
   obtain ⟨ti,hhi,hsi⟩ : ∃ i,Tryz.prog.info? 5 = some i ∧ i.size = 1:=infoU8s_
   have hcut:=cut_to (P:=Tryz.prog) 54 5 .i64 Tryz.underlying54 hhi Ad bs.length cp (sz : Int) (by omega) (by omega) hl
   have HCT:=As.mk (Kd.C_below (Kd.C_take hC c2) HB.out)
   go_enter Tryz.func131,Tryz.ntmps131
   go_wp2_with (fail)
   go_loopg [6,32] sz (fun kq v6 v32 w'=>∃ (x : Int),v32 = .int .i64 x ∧ 0 ≤ x ∧ x ≤ (sz : Int) ∧ As ((kq : Int) + x = (sz : Int)) ∧ v6 = .int .u64 (val (bs.take x.toNat)) ∧ Drawn0 w w')
   case atStart=>exact ⟨0,rfl,by omega,by omega,⟨by simp⟩,by simp [val],by repeat (first | exact Drawn0.refl _ | apply Drawn0.step)⟩
   case round =>
    obtain ⟨x,rfl,p0,p1,HK1,rfl,⟨m1,rfl⟩⟩:=hrel
    by_cases hlt : x < (sz : Int)
    ·have c3b0 : decide (x < (sz : Int)) = true:=decide_eq_true hlt
     have hlen : (bs.take sz).length = sz:=by rw [List.length_take];omega
     obtain ⟨ad,e0,hw0⟩:=Kd.at_int HCT.out x p0 (by rw [hlen];exact hlt)
     subst e0
     have hx0 : (w.drewN m1).cell? (ad.add x.toNat) = some (.int .u8 (rd (bs.take sz) x)):=hw0
     have p0' : (0 ≤ x) = True:=eq_true p0
     have p1' : (x < (sz : Int)) = True:=eq_true hlt
     have hstep:=val_next bs sz x hb hsz c2 p0 hlt
     clear hw0 HCT
     go_wp2_with (fail)
     go_roundg (gk - 1)
     case measure=>have:=HK1.out;omega
     case rel=>exact ⟨x + 1,rfl,by omega,by omega,⟨by have:=HK1.out;omega⟩,(by first | rfl | rw [hstep]),by repeat (first | exact Drawn0.refl _ | apply Drawn0.step)⟩
    ·have c3b0 : decide (x < (sz : Int)) = false:=decide_eq_false hlt
     have ex : x.toNat = sz:=by omega
     go_wp2_with (fail)
     go_ret2
     subst c1
     exact ⟨rfl,(by repeat (first | (with_reducible first | exact HI.out | apply OcR.alloc | apply OcR.drewN | apply OcR.drew | apply OcR.err) | exact HI.out)),(by repeat (first | (with_reducible first | exact HB.out | apply bA | apply bN | apply bD | refine bT ?_ HI.out.ge) | exact HB.out)),(by repeat (first | (with_reducible first | exact HK.out | apply KeepBut.set_ | apply keep_drewN | apply keep_drew | apply keep_alloc) | exact HK.out))⟩
  ·have c2a : decide ((bs.length : Int) < (sz : Int)) = true:=decide_eq_true (by omega)
   have eB : getB bs e sz = false:=by simp [getB,c2]
   have eE : getE bs e sz = 10:=by simp [getE,c1,c2]
   have eV : getV bs e sz = 0:=by simp [getV,eB]
   rw [eB,eE,eV]
   subst c1
   go_enter Tryz.func131,Tryz.ntmps131
   go_wp2_with (first | (go_at_call 132;(with_reducible refine (fail_calls g bs 0 10 w0 _ ?sideI ?sideB).mono ?_);(case sideI=>exact (by repeat (first | (with_reducible first | exact HI.out | apply OcR.alloc | apply OcR.drewN | apply OcR.drew | apply OcR.err) | exact HI.out)));(case sideB=>exact (by repeat (first | (with_reducible first | exact HB.out | apply bA | apply bN | apply bD | refine bT ?_ HI.out.ge) | exact HB.out)));rintro er w1 ⟨rfl,hI1,hB1,hK1⟩;have n0_:=As.mk hI1;have n1_:=As.mk hB1;have n2_:=As.mk (show KeepBut w w1 g none from KeepBut.trans (by repeat (first | (with_reducible first | exact HK.out | apply KeepBut.set_ | apply keep_drewN | apply keep_drew | apply keep_alloc) | exact HK.out)) hK1 (.inl rfl));clear HI HB HK hI1 hB1 hK1;have HI:=n0_;have HB:=n1_;have HK:=n2_;clear n0_ n1_ n2_))
   go_ret2
   exact ⟨rfl,(by repeat (first | (with_reducible first | exact HI.out | apply OcR.alloc | apply OcR.drewN | apply OcR.drew | apply OcR.err) | exact HI.out)),(by repeat (first | (with_reducible first | exact HB.out | apply bA | apply bN | apply bD | refine bT ?_ HI.out.ge) | exact HB.out)),(by repeat (first | (with_reducible first | exact HK.out | apply KeepBut.set_ | apply keep_drewN | apply keep_drew | apply keep_alloc) | exact HK.out))⟩
 ·have c1a : (e == 0) = false:=beq_eq_false_iff_ne.mpr c1
  have c1b : (e != 0) = true:=bne_iff_ne.mpr c1
  have eB : getB bs e sz = false:=by simp [getB,c1]
  have eE : getE bs e sz = e:=by simp [getE,c1]
  have eV : getV bs e sz = 0:=by simp [getV,eB]
  rw [eB,eE,eV]
  go_enter Tryz.func131,Tryz.ntmps131
  go_wp2_with (first | (go_at_call 132;(with_reducible refine (fail_calls g bs e 10 w0 _ ?sideI ?sideB).mono ?_);(case sideI=>exact (by repeat (first | (with_reducible first | exact HI.out | apply OcR.alloc | apply OcR.drewN | apply OcR.drew | apply OcR.err) | exact HI.out)));(case sideB=>exact (by repeat (first | (with_reducible first | exact HB.out | apply bA | apply bN | apply bD | refine bT ?_ HI.out.ge) | exact HB.out)));rintro er w1 ⟨rfl,hI1,hB1,hK1⟩;rw [if_neg c1] at hI1;have n0_:=As.mk hI1;have n1_:=As.mk hB1;have n2_:=As.mk (show KeepBut w w1 g none from KeepBut.trans (by repeat (first | (with_reducible first | exact HK.out | apply KeepBut.set_ | apply keep_drewN | apply keep_drew | apply keep_alloc) | exact HK.out)) hK1 (.inl rfl));clear HI HB HK hI1 hB1 hK1;have HI:=n0_;have HB:=n1_;have HK:=n2_;clear n0_ n1_ n2_))
  go_ret2
  exact ⟨rfl,(by repeat (first | (with_reducible first | exact HI.out | apply OcR.alloc | apply OcR.drewN | apply OcR.drew | apply OcR.err) | exact HI.out)),(by repeat (first | (with_reducible first | exact HB.out | apply bA | apply bN | apply bD | refine bT ?_ HI.out.ge) | exact HB.out)),(by repeat (first | (with_reducible first | exact HK.out | apply KeepBut.set_ | apply keep_drewN | apply keep_drew | apply keep_alloc) | exact HK.out))⟩
theorem get4_calls (g : Nat) (bs : List Int) (e : Int) (hb : BytesOk bs) (w0 w : World) (hI : OcR w0 w g bs e) (hB : Below w0.heap.size w0 w) :
  Calls Tryz.prog 131 #[.pointer (some ⟨g,0,none⟩),.int .i64 4] w fun r w'=>r = .returned (.tuple #[.int .u64 (getV bs e 4),.bool (getB bs e 4)]) ∧ OcR w0 w' g bs (getE bs e 4) ∧ Below w0.heap.size w0 w' ∧ KeepBut w w' g none:=get_calls g bs e 4 (by decide) hb w0 w hI hB
theorem num_calls (g : Nat) (bs : List Int) (e : Int) (hb : BytesOk bs) (w0 w : World) (hI : OcR w0 w g bs e) (hB : Below w0.heap.size w0 w) :
  Calls Tryz.prog 96 #[.pointer (some ⟨g,0,none⟩)] w fun r w'=>r = .returned (.int .i64 (numR bs e).1) ∧ OcR w0 w' g (numR bs e).2.1 (numR bs e).2.2 ∧ Below w0.heap.size w0 w' ∧ KeepBut w w' g none:=by
 have HI:=As.mk hI
 have HB:=As.mk hB
 have HK:=As.mk (KeepBut.refl w g none)
 clear hI hB
 obtain ⟨Ad,cp,hg,hge,hC,hl⟩:=HI.out
 have HGE:=As.mk hge
 have hcz_0 : w.cell? ⟨g,0,none⟩ = some (.slice Ad bs.length cp):=(bC hg 0).trans rfl
 have hcz_1 : w.cell? ⟨g,1,none⟩ = some (.int .i64 e):=(bC hg 1).trans rfl
 have hfz_0:=bF hg 0
 have hfz_1:=bF hg 1
 clear hg hge hC hl
 have HBO:=As.mk hb
 rcases numR_cases bs e hb with ⟨q,c1⟩ | ⟨q,c1,c2⟩ | ⟨q,c1,c2,c3⟩ | ⟨q,c1,c2,c3,c4⟩
 ·rw [q]
  have EB:=As.mk (show getB bs e 4 = false by simp [getB,c1])
  have EE:=As.mk (show getE bs e 4 = e by simp [getE,c1])
  have EV:=As.mk (show getV bs e 4 = 0 by simp [getV,getB,c1])
  go_enter Tryz.func96,Tryz.ntmps96
  go_wp2_with (first | (go_at_call 131;(with_reducible refine (get4_calls g bs e HBO.out w0 _ ?sideI ?sideB).mono ?_);(case sideI=>exact (by repeat (first | (with_reducible first | exact HI.out | apply OcR.alloc | apply OcR.drewN | apply OcR.drew | apply OcR.err) | exact HI.out)));(case sideB=>exact (by repeat (first | (with_reducible first | exact HB.out | apply bA | apply bN | apply bD | refine bT ?_ HI.out.ge) | exact HB.out)));rintro er w1 ⟨rfl,hI1,hB1,hK1⟩;rw [EV.out,EB.out];rw [EE.out] at hI1;have n0_:=As.mk hI1;have n1_:=As.mk hB1;have n2_:=As.mk (show KeepBut w w1 g none from KeepBut.trans (by repeat (first | (with_reducible first | exact HK.out | apply KeepBut.set_ | apply keep_drewN | apply keep_drew | apply keep_alloc) | exact HK.out)) hK1 (.inl rfl));clear HI HB HK hI1 hB1 hK1;have HI:=n0_;have HB:=n1_;have HK:=n2_;clear n0_ n1_ n2_;obtain ⟨Adb,cpb,hgb,hgeb,hCb,hlb⟩:=HI.out;have hczb_0 : w1.cell? ⟨g,0,none⟩ = some (.slice Adb (bs).length cpb):=(bC hgb 0).trans rfl;have hczb_1 : w1.cell? ⟨g,1,none⟩ = some (.int .i64 (e)):=(bC hgb 1).trans rfl;have hfzb_0:=bF hgb 0;have hfzb_1:=bF hgb 1;have HCLb:=As.mk hCb;have HLLb:=As.mk hlb;clear hgb hgeb hCb hlb))
  go_ret
  exact ⟨rfl,(by repeat (first | (with_reducible first | exact HI.out | apply OcR.alloc | apply OcR.drewN | apply OcR.drew | apply OcR.err) | exact HI.out)),(by repeat (first | (with_reducible first | exact HB.out | apply bA | apply bN | apply bD | refine bT ?_ HI.out.ge) | exact HB.out)),(by repeat (first | (with_reducible first | exact HK.out | apply KeepBut.set_ | apply keep_drewN | apply keep_drew | apply keep_alloc) | exact HK.out))⟩
 ·rw [q]
  subst c1
  have EB:=As.mk (show getB bs 0 4 = false by simp [getB,c2])
  have EE:=As.mk (show getE bs 0 4 = 10 by have : ¬ 4 ≤ bs.length:=(by omega);simp [getE,this])
  have EV:=As.mk (show getV bs 0 4 = 0 by have : ¬ 4 ≤ bs.length:=(by omega);simp [getV,getB,this])
  go_enter Tryz.func96,Tryz.ntmps96
  go_wp2_with (first | (go_at_call 131;(with_reducible refine (get4_calls g bs 0 HBO.out w0 _ ?sideI ?sideB).mono ?_);(case sideI=>exact (by repeat (first | (with_reducible first | exact HI.out | apply OcR.alloc | apply OcR.drewN | apply OcR.drew | apply OcR.err) | exact HI.out)));(case sideB=>exact (by repeat (first | (with_reducible first | exact HB.out | apply bA | apply bN | apply bD | refine bT ?_ HI.out.ge) | exact HB.out)));rintro er w1 ⟨rfl,hI1,hB1,hK1⟩;rw [EV.out,EB.out];rw [EE.out] at hI1;have n0_:=As.mk hI1;have n1_:=As.mk hB1;have n2_:=As.mk (show KeepBut w w1 g none from KeepBut.trans (by repeat (first | (with_reducible first | exact HK.out | apply KeepBut.set_ | apply keep_drewN | apply keep_drew | apply keep_alloc) | exact HK.out)) hK1 (.inl rfl));clear HI HB HK hI1 hB1 hK1;have HI:=n0_;have HB:=n1_;have HK:=n2_;clear n0_ n1_ n2_;obtain ⟨Adb,cpb,hgb,hgeb,hCb,hlb⟩:=HI.out;have hczb_0 : w1.cell? ⟨g,0,none⟩ = some (.slice Adb (bs).length cpb):=(bC hgb 0).trans rfl;have hczb_1 : w1.cell? ⟨g,1,none⟩ = some (.int .i64 (10)):=(bC hgb 1).trans rfl;have hfzb_0:=bF hgb 0;have hfzb_1:=bF hgb 1;have HCLb:=As.mk hCb;have HLLb:=As.mk hlb;clear hgb hgeb hCb hlb))
  go_ret
  exact ⟨rfl,(by repeat (first | (with_reducible first | exact HI.out | apply OcR.alloc | apply OcR.drewN | apply OcR.drew | apply OcR.err) | exact HI.out)),(by repeat (first | (with_reducible first | exact HB.out | apply bA | apply bN | apply bD | refine bT ?_ HI.out.ge) | exact HB.out)),(by repeat (first | (with_reducible first | exact HK.out | apply KeepBut.set_ | apply keep_drewN | apply keep_drew | apply keep_alloc) | exact HK.out))⟩
 ·rw [q]
  subst c1
  have EB:=As.mk (show getB bs 0 4 = true by simp [getB,c2])
  have EE:=As.mk (show getE bs 0 4 = 0 by simp [getE,c2])
  have EV:=As.mk (show getV bs 0 4 = val (bs.take 4) by simp [getV,getB,c2])
  have c3b : decide ((2147483647 : Int) < val (bs.take 4)) = true:=decide_eq_true c3
  go_enter Tryz.func96,Tryz.ntmps96
  go_wp2_with (first | (go_at_call 131;(with_reducible refine (get4_calls g bs 0 HBO.out w0 _ ?sideI ?sideB).mono ?_);(case sideI=>exact (by repeat (first | (with_reducible first | exact HI.out | apply OcR.alloc | apply OcR.drewN | apply OcR.drew | apply OcR.err) | exact HI.out)));(case sideB=>exact (by repeat (first | (with_reducible first | exact HB.out | apply bA | apply bN | apply bD | refine bT ?_ HI.out.ge) | exact HB.out)));rintro er w1 ⟨rfl,hI1,hB1,hK1⟩;rw [EV.out,EB.out];rw [EE.out] at hI1;have n0_:=As.mk hI1;have n1_:=As.mk hB1;have n2_:=As.mk (show KeepBut w w1 g none from KeepBut.trans (by repeat (first | (with_reducible first | exact HK.out | apply KeepBut.set_ | apply keep_drewN | apply keep_drew | apply keep_alloc) | exact HK.out)) hK1 (.inl rfl));clear HI HB HK hI1 hB1 hK1;have HI:=n0_;have HB:=n1_;have HK:=n2_;clear n0_ n1_ n2_;obtain ⟨Adb,cpb,hgb,hgeb,hCb,hlb⟩:=HI.out;have hczb_0 : w1.cell? ⟨g,0,none⟩ = some (.slice Adb (bs).length cpb):=(bC hgb 0).trans rfl;have hczb_1 : w1.cell? ⟨g,1,none⟩ = some (.int .i64 (0)):=(bC hgb 1).trans rfl;have hfzb_0:=bF hgb 0;have hfzb_1:=bF hgb 1;have HCLb:=As.mk hCb;have HLLb:=As.mk hlb;clear hgb hgeb hCb hlb) | (go_at_call 132;(with_reducible refine (fail_calls g bs 0 11 w0 _ ?sideI ?sideB).mono ?_);(case sideI=>exact (by repeat (first | (with_reducible first | exact HI.out | apply OcR.alloc | apply OcR.drewN | apply OcR.drew | apply OcR.err) | exact HI.out)));(case sideB=>exact (by repeat (first | (with_reducible first | exact HB.out | apply bA | apply bN | apply bD | refine bT ?_ HI.out.ge) | exact HB.out)));rintro er w2 ⟨rfl,hI1,hB1,hK1⟩;have n0_:=As.mk hI1;have n1_:=As.mk hB1;have n2_:=As.mk (show KeepBut w w2 g none from KeepBut.trans (by repeat (first | (with_reducible first | exact HK.out | apply KeepBut.set_ | apply keep_drewN | apply keep_drew | apply keep_alloc) | exact HK.out)) hK1 (.inl rfl));clear HI HB HK hI1 hB1 hK1;have HI:=n0_;have HB:=n1_;have HK:=n2_;clear n0_ n1_ n2_))
  go_ret
  exact ⟨rfl,(by repeat (first | (with_reducible first | exact HI.out | apply OcR.alloc | apply OcR.drewN | apply OcR.drew | apply OcR.err) | exact HI.out)),(by repeat (first | (with_reducible first | exact HB.out | apply bA | apply bN | apply bD | refine bT ?_ HI.out.ge) | exact HB.out)),(by repeat (first | (with_reducible first | exact HK.out | apply KeepBut.set_ | apply keep_drewN | apply keep_drew | apply keep_alloc) | exact HK.out))⟩
 ·rw [q]
  subst c1
  have EB:=As.mk (show getB bs 0 4 = true by simp [getB,c2])
  have EE:=As.mk (show getE bs 0 4 = 0 by simp [getE,c2])
  have EV:=As.mk (show getV bs 0 4 = val (bs.take 4) by simp [getV,getB,c2])
  have c3b : decide ((2147483647 : Int) < val (bs.take 4)) = false:=decide_eq_false (by omega)
  have c4b : IntKind.i64.wrap (val (bs.take 4)) = val (bs.take 4):=IntWalk.i64_in _ (by omega)
  obtain ⟨ti,hhi,hsi⟩ : ∃ i,Tryz.prog.info? 5 = some i ∧ i.size = 1:=infoU8s_
  have HTI:=As.mk hhi
  go_enter Tryz.func96,Tryz.ntmps96
  go_wp2_with (first | (go_at_call 131;(with_reducible refine (get4_calls g bs 0 HBO.out w0 _ ?sideI ?sideB).mono ?_);(case sideI=>exact (by repeat (first | (with_reducible first | exact HI.out | apply OcR.alloc | apply OcR.drewN | apply OcR.drew | apply OcR.err) | exact HI.out)));(case sideB=>exact (by repeat (first | (with_reducible first | exact HB.out | apply bA | apply bN | apply bD | refine bT ?_ HI.out.ge) | exact HB.out)));rintro er w1 ⟨rfl,hI1,hB1,hK1⟩;rw [EV.out,EB.out];rw [EE.out] at hI1;have n0_:=As.mk hI1;have n1_:=As.mk hB1;have n2_:=As.mk (show KeepBut w w1 g none from KeepBut.trans (by repeat (first | (with_reducible first | exact HK.out | apply KeepBut.set_ | apply keep_drewN | apply keep_drew | apply keep_alloc) | exact HK.out)) hK1 (.inl rfl));clear HI HB HK hI1 hB1 hK1;have HI:=n0_;have HB:=n1_;have HK:=n2_;clear n0_ n1_ n2_;obtain ⟨Adb,cpb,hgb,hgeb,hCb,hlb⟩:=HI.out;have hczb_0 : w1.cell? ⟨g,0,none⟩ = some (.slice Adb (bs).length cpb):=(bC hgb 0).trans rfl;have hczb_1 : w1.cell? ⟨g,1,none⟩ = some (.int .i64 (0)):=(bC hgb 1).trans rfl;have hfzb_0:=bF hgb 0;have hfzb_1:=bF hgb 1;have HCLb:=As.mk hCb;have HLLb:=As.mk hlb;clear hgb hgeb hCb hlb;have hcutb:=cut_from (P:=Tryz.prog) 54 5 .i64 Tryz.underlying54 HTI.out 1 hsi Adb (bs).length cpb 4 (by decide) (by omega);obtain ⟨Anb,hAnb⟩ : ∃ An,An = (if cpb = Int.toNat 4 then Adb else Adb.map (·.add (Int.toNat 4 * 1))):=⟨_,rfl⟩;rw [← hAnb] at hcutb;have HANb:=As.mk hAnb;clear hAnb))
  go_ret
  exact ⟨rfl,OcR.row HI.out (by simp) (by rw [HANb.out];exact Kd.C_drop HCLb.out c2 HLLb.out) (by rw [List.length_drop];have:=HLLb.out;omega),(by repeat (first | (with_reducible first | exact HB.out | apply bA | apply bN | apply bD | refine bT ?_ HI.out.ge) | exact HB.out)),(by repeat (first | (with_reducible first | exact HK.out | apply KeepBut.set_ | apply keep_drewN | apply keep_drew | apply keep_alloc) | exact HK.out))⟩
theorem textR_err {bs : List Int} {e n : Int} {bs1 : List Int} {e1 : Int} (h : numR bs e = (n,bs1,e1)) (h1 : e1 ≠ 0) : textR bs e = (⟨#[]⟩,bs,e1):=by
 unfold textR;rw [h];exact if_pos h1
theorem textR_short {bs : List Int} {e n : Int} {bs1 : List Int} {e1 : Int} (h : numR bs e = (n,bs1,e1)) (h1 : e1 = 0) (h2 : n > (bs1.length : Int)) : textR bs e = (⟨#[]⟩,bs,10):=by
 unfold textR;rw [h];simp only [];rw [if_neg (by omega),if_pos h2]
theorem textR_good {bs : List Int} {e n : Int} {bs1 : List Int} {e1 : Int} (h : numR bs e = (n,bs1,e1)) (h1 : e1 = 0) (h2 : n ≤ (bs1.length : Int)) : textR bs e = (strOfNums (bs1.take n.toNat),bs1.drop n.toNat,0):=by
 unfold textR;rw [h];simp only [];rw [if_neg (by omega),if_neg (by omega)]
theorem numR_facts {bs : List Int} {e n : Int} {bs1 : List Int} {e1 : Int} (hb : BytesOk bs) (h : numR bs e = (n,bs1,e1)) : BytesOk bs1 ∧ (e1 ≠ 0 → bs1 = bs) ∧ 0 ≤ n ∧ n ≤ 2147483647 ∧ bs1.length ≤ bs.length ∧ (e ≠ 0 → e1 ≠ 0) ∧ (e1 ≠ 0 → n = 0):=by
 rcases numR_cases bs e hb with ⟨q,c1⟩ | ⟨q,c1,c2⟩ | ⟨q,c1,c2,c3⟩ | ⟨q,c1,c2,c3,c4⟩ <;> rw [q] at h <;> simp only [Prod.mk.injEq] at h <;> obtain ⟨rfl,rfl,rfl⟩:=h
 ·exact ⟨hb,fun _=>rfl,by omega,by omega,by omega,fun _=>c1,fun _=>rfl⟩
 ·exact ⟨hb,fun _=>rfl,by omega,by omega,by omega,fun h=>absurd c1 h,fun _=>rfl⟩
 ·exact ⟨hb,fun _=>rfl,by omega,by omega,by omega,fun h=>absurd c1 h,fun _=>rfl⟩
 ·exact ⟨hb.drop 4,fun h=>absurd rfl h,c3,c4,by rw [List.length_drop];omega,fun h=>absurd c1 h,fun h=>absurd rfl h⟩
theorem text_calls (g : Nat) (bs : List Int) (e : Int) (hb : BytesOk bs) (w0 w : World) (hI : OcR w0 w g bs e) (hB : Below w0.heap.size w0 w) :
  Calls Tryz.prog 133 #[.pointer (some ⟨g,0,none⟩)] w fun r w'=>r = .returned (.string (textR bs e).1) ∧ OcR w0 w' g (textR bs e).2.1 (textR bs e).2.2 ∧ Below w0.heap.size w0 w' ∧ KeepBut w w' g none:=by
 have HI:=As.mk hI
 have HB:=As.mk hB
 have HK:=As.mk (KeepBut.refl w g none)
 clear hI hB
 obtain ⟨Ad,cp,hg,hge,hC,hl⟩:=HI.out
 have HGE:=As.mk hge
 have hcz_0 : w.cell? ⟨g,0,none⟩ = some (.slice Ad bs.length cp):=(bC hg 0).trans rfl
 have hcz_1 : w.cell? ⟨g,1,none⟩ = some (.int .i64 e):=(bC hg 1).trans rfl
 have hfz_0:=bF hg 0
 have hfz_1:=bF hg 1
 clear hg hge
 have HBO:=As.mk hb
 have HCL:=As.mk hC
 have HLL:=As.mk hl
 obtain ⟨n,bs1,e1,hq0⟩ : ∃ n bs1 e1,numR bs e = (n,bs1,e1):=⟨_,_,_,rfl⟩
 have hq:=As.mk hq0
 obtain ⟨f1,f2,f3,f4,f5,f6,f7⟩:=numR_facts hb hq0
 have HB1:=As.mk f1
 have F2:=As.mk f2
 have F6:=As.mk f6
 clear hC hl hb hq0 f1 f2 f6
 by_cases c1 : e1 = 0
 ·have c1a : (e1 == 0) = true:=beq_iff_eq.mpr c1
  have c1b : (e1 != 0) = false:=bne_eq_false_iff_eq.mpr c1
  by_cases c2 : n > (bs1.length : Int)
  ·have c2a : decide ((bs1.length : Int) < n) = true:=decide_eq_true c2
   have QT:=As.mk (textR_short hq.out c1 c2)
   rw [QT.out]
   clear c1b
   have E0 : e1 = 0:=c1
   go_enter Tryz.func133,Tryz.ntmps133
   go_wp2_with (first | (go_at_call 96;(with_reducible refine (num_calls g bs e HBO.out w0 _ ?sideI ?sideB).mono ?_);(case sideI=>exact (by repeat (first | (with_reducible first | exact HI.out | apply OcR.alloc | apply OcR.drewN | apply OcR.drew | apply OcR.err) | exact HI.out)));(case sideB=>exact (by repeat (first | (with_reducible first | exact HB.out | apply bA | apply bN | apply bD | refine bT ?_ HI.out.ge) | exact HB.out)));rintro er w1 ⟨rfl,hI1,hB1,hK1⟩;rw [hq.out] at hI1;simp only [] at hI1;rw [hq.out];simp only [];have n0_:=As.mk hI1;have n1_:=As.mk hB1;have n2_:=As.mk (show KeepBut w w1 g none from KeepBut.trans (by repeat (first | (with_reducible first | exact HK.out | apply KeepBut.set_ | apply keep_drewN | apply keep_drew | apply keep_alloc) | exact HK.out)) hK1 (.inl rfl));clear HI HB HK hI1 hB1 hK1;have HI:=n0_;have HB:=n1_;have HK:=n2_;clear n0_ n1_ n2_;obtain ⟨Adb,cpb,hgb,hgeb,hCb,hlb⟩:=HI.out;have hczb_0 : w1.cell? ⟨g,0,none⟩ = some (.slice Adb (bs1).length cpb):=(bC hgb 0).trans rfl;have hczb_1 : w1.cell? ⟨g,1,none⟩ = some (.int .i64 (e1)):=(bC hgb 1).trans rfl;have hfzb_0:=bF hgb 0;have hfzb_1:=bF hgb 1;have HCLb:=As.mk hCb;have HLLb:=As.mk hlb;clear hgb hgeb hCb hlb) | (go_at_call 132;(with_reducible refine (fail_calls g bs1 e1 10 w0 _ ?sideI ?sideB).mono ?_);(case sideI=>exact (by repeat (first | (with_reducible first | exact HI.out | apply OcR.alloc | apply OcR.drewN | apply OcR.drew | apply OcR.err) | exact HI.out)));(case sideB=>exact (by repeat (first | (with_reducible first | exact HB.out | apply bA | apply bN | apply bD | refine bT ?_ HI.out.ge) | exact HB.out)));rintro er w2 ⟨rfl,hI1,hB1,hK1⟩;rw [if_pos E0] at hI1;have n0_:=As.mk hI1;have n1_:=As.mk hB1;have n2_:=As.mk (show KeepBut w w2 g none from KeepBut.trans (by repeat (first | (with_reducible first | exact HK.out | apply KeepBut.set_ | apply keep_drewN | apply keep_drew | apply keep_alloc) | exact HK.out)) hK1 (.inl rfl));clear HI HB HK hI1 hB1 hK1;have HI:=n0_;have HB:=n1_;have HK:=n2_;clear n0_ n1_ n2_;obtain ⟨Adc,cpc,hgc,hgec,hCc,hlc⟩:=HI.out;have hczc_0 : w2.cell? ⟨g,0,none⟩ = some (.slice Adc (bs1).length cpc):=(bC hgc 0).trans rfl;have hczc_1 : w2.cell? ⟨g,1,none⟩ = some (.int .i64 (10)):=(bC hgc 1).trans rfl;have hfzc_0:=bF hgc 0;have hfzc_1:=bF hgc 1;have HCLc:=As.mk hCc;have HLLc:=As.mk hlc;clear hgc hgec hCc hlc))
   go_ret
   exact ⟨rfl,OcR.row HI.out rfl HCL.out HLL.out,(by repeat (first | (with_reducible first | exact HB.out | apply bA | apply bN | apply bD | refine bT ?_ HI.out.ge) | exact HB.out)),(by repeat (first | (with_reducible first | exact HK.out | apply KeepBut.set_ | apply keep_drewN | apply keep_drew | apply keep_alloc) | exact HK.out))⟩
  ·have c2a : decide ((bs1.length : Int) < n) = false:=decide_eq_false c2
   have QT:=As.mk (textR_good hq.out c1 (by omega))
   rw [QT.out]
   obtain ⟨ti,hhi,hsi⟩ : ∃ i,Tryz.prog.info? 5 = some i ∧ i.size = 1:=infoU8s_
   have HTI:=As.mk hhi
   have hle : n.toNat ≤ bs1.length:=by omega
   have HLE:=As.mk hle
   go_enter Tryz.func133,Tryz.ntmps133
   go_wp2_with (first | (go_at_call 96;(with_reducible refine (num_calls g bs e HBO.out w0 _ ?sideI ?sideB).mono ?_);(case sideI=>exact (by repeat (first | (with_reducible first | exact HI.out | apply OcR.alloc | apply OcR.drewN | apply OcR.drew | apply OcR.err) | exact HI.out)));(case sideB=>exact (by repeat (first | (with_reducible first | exact HB.out | apply bA | apply bN | apply bD | refine bT ?_ HI.out.ge) | exact HB.out)));rintro er w1 ⟨rfl,hI1,hB1,hK1⟩;rw [hq.out] at hI1;simp only [] at hI1;rw [hq.out];simp only [];have n0_:=As.mk hI1;have n1_:=As.mk hB1;have n2_:=As.mk (show KeepBut w w1 g none from KeepBut.trans (by repeat (first | (with_reducible first | exact HK.out | apply KeepBut.set_ | apply keep_drewN | apply keep_drew | apply keep_alloc) | exact HK.out)) hK1 (.inl rfl));clear HI HB HK hI1 hB1 hK1;have HI:=n0_;have HB:=n1_;have HK:=n2_;clear n0_ n1_ n2_;obtain ⟨Adb,cpb,hgb,hgeb,hCb,hlb⟩:=HI.out;have hczb_0 : w1.cell? ⟨g,0,none⟩ = some (.slice Adb (bs1).length cpb):=(bC hgb 0).trans rfl;have hczb_1 : w1.cell? ⟨g,1,none⟩ = some (.int .i64 (e1)):=(bC hgb 1).trans rfl;have hfzb_0:=bF hgb 0;have hfzb_1:=bF hgb 1;have HCLb:=As.mk hCb;have HLLb:=As.mk hlb;clear hgb hgeb hCb hlb;have hcutb:=cut_from (P:=Tryz.prog) 54 5 .i64 Tryz.underlying54 HTI.out 1 hsi Adb (bs1).length cpb n f3 (by omega);obtain ⟨Anb,hAnb⟩ : ∃ An,An = (if cpb = Int.toNat n then Adb else Adb.map (·.add (Int.toNat n * 1))):=⟨_,rfl⟩;rw [← hAnb] at hcutb;have HANb:=As.mk hAnb;clear hAnb;have hto:=cut_to (P:=Tryz.prog) 54 5 .i64 Tryz.underlying54 HTI.out Adb bs1.length cpb n f3 (by omega) HLLb.out;have hcv:=Kd.C_string (P:=Tryz.prog) (c:=cpb) Tryz.underlying54 Tryz.underlying5 Tryz.underlying9 (Kd.C_below (Kd.C_take HCLb.out HLE.out) HB.out);rw [List.length_take,Nat.min_eq_left HLE.out] at hcv))
   go_ret
   subst c1
   exact ⟨rfl,OcR.row HI.out (by simp) (by rw [HANb.out];exact Kd.C_drop HCLb.out HLE.out HLLb.out) (by rw [List.length_drop];have:=HLLb.out;omega),(by repeat (first | (with_reducible first | exact HB.out | apply bA | apply bN | apply bD | refine bT ?_ HI.out.ge) | exact HB.out)),(by repeat (first | (with_reducible first | exact HK.out | apply KeepBut.set_ | apply keep_drewN | apply keep_drew | apply keep_alloc) | exact HK.out))⟩
 ·have c1a : (e1 == 0) = false:=beq_eq_false_iff_ne.mpr c1
  have c1b : (e1 != 0) = true:=bne_iff_ne.mpr c1
  have QT:=As.mk (textR_err hq.out c1)
  rw [QT.out]
  go_enter Tryz.func133,Tryz.ntmps133
  go_wp2_with (first | (go_at_call 96;(with_reducible refine (num_calls g bs e HBO.out w0 _ ?sideI ?sideB).mono ?_);(case sideI=>exact (by repeat (first | (with_reducible first | exact HI.out | apply OcR.alloc | apply OcR.drewN | apply OcR.drew | apply OcR.err) | exact HI.out)));(case sideB=>exact (by repeat (first | (with_reducible first | exact HB.out | apply bA | apply bN | apply bD | refine bT ?_ HI.out.ge) | exact HB.out)));rintro er w1 ⟨rfl,hI1,hB1,hK1⟩;rw [hq.out] at hI1;simp only [] at hI1;rw [hq.out];simp only [];have n0_:=As.mk hI1;have n1_:=As.mk hB1;have n2_:=As.mk (show KeepBut w w1 g none from KeepBut.trans (by repeat (first | (with_reducible first | exact HK.out | apply KeepBut.set_ | apply keep_drewN | apply keep_drew | apply keep_alloc) | exact HK.out)) hK1 (.inl rfl));clear HI HB HK hI1 hB1 hK1;have HI:=n0_;have HB:=n1_;have HK:=n2_;clear n0_ n1_ n2_;obtain ⟨Adb,cpb,hgb,hgeb,hCb,hlb⟩:=HI.out;have hczb_0 : w1.cell? ⟨g,0,none⟩ = some (.slice Adb (bs1).length cpb):=(bC hgb 0).trans rfl;have hczb_1 : w1.cell? ⟨g,1,none⟩ = some (.int .i64 (e1)):=(bC hgb 1).trans rfl;have hfzb_0:=bF hgb 0;have hfzb_1:=bF hgb 1;have HCLb:=As.mk hCb;have HLLb:=As.mk hlb;clear hgb hgeb hCb hlb))
  go_ret
  exact ⟨rfl,OcR.row HI.out rfl HCL.out HLL.out,(by repeat (first | (with_reducible first | exact HB.out | apply bA | apply bN | apply bD | refine bT ?_ HI.out.ge) | exact HB.out)),(by repeat (first | (with_reducible first | exact HK.out | apply KeepBut.set_ | apply keep_drewN | apply keep_drew | apply keep_alloc) | exact HK.out))⟩
theorem textR_ok {bs : List Int} {e : Int} (hb : BytesOk bs) : BytesOk (textR bs e).2.1 ∧ (textR bs e).2.1.length ≤ bs.length:=by
 obtain ⟨n,bs1,e1,hq⟩ : ∃ n bs1 e1,numR bs e = (n,bs1,e1):=⟨_,_,_,rfl⟩
 obtain ⟨f1,f2,f3,f4,f5,f6,f7⟩:=numR_facts hb hq
 by_cases c1 : e1 = 0
 ·by_cases c2 : n > (bs1.length : Int)
  ·rw [textR_short hq c1 c2];exact ⟨hb,Nat.le_refl _⟩
  ·rw [textR_good hq c1 (by omega)];exact ⟨f1.drop _,by rw [List.length_drop];omega⟩
 ·rw [textR_err hq c1];exact ⟨hb,Nat.le_refl _⟩
theorem textsR_err {bs : List Int} {e n : Int} {bs1 : List Int} {e1 : Int} (h : numR bs e = (n,bs1,e1)) (h1 : e1 ≠ 0) : textsR bs e = ([],bs,e1):=by
 unfold textsR;rw [h];exact if_pos h1
theorem textsR_short {bs : List Int} {e n : Int} {bs1 : List Int} {e1 : Int} (h : numR bs e = (n,bs1,e1)) (h1 : e1 = 0) (h2 : n > 1000000 ∨ n > (bs1.length : Int)) : textsR bs e = ([],bs,10):=by
 unfold textsR;rw [h];simp only [];rw [if_neg (by omega),if_pos h2]
theorem textsR_fell {bs : List Int} {e n : Int} {bs1 : List Int} {e1 : Int} (h : numR bs e = (n,bs1,e1)) (h1 : e1 = 0) (h2 : ¬ (n > 1000000 ∨ n > (bs1.length : Int))) (h3 : (textsL n.toNat bs1).2.2 ≠ 0) : textsR bs e = ([],bs,(textsL n.toNat bs1).2.2):=by
 unfold textsR;rw [h];simp only [];rw [if_neg (by omega),if_neg h2,if_pos h3]
theorem textsR_good {bs : List Int} {e n : Int} {bs1 : List Int} {e1 : Int} (h : numR bs e = (n,bs1,e1)) (h1 : e1 = 0) (h2 : ¬ (n > 1000000 ∨ n > (bs1.length : Int))) (h3 : (textsL n.toNat bs1).2.2 = 0) : textsR bs e = ((textsL n.toNat bs1).1,(textsL n.toNat bs1).2.1,0):=by
 unfold textsR;rw [h];simp only [];rw [if_neg (by omega),if_neg h2,if_neg (by omega)]
def TXL (N : Nat) (B : List Int) (k : Nat) (l : List ByteArray) (bx : List Int) (ex : Int) : Prop :=
 (ex = 0 ∧ textsL N B = (l ++ (textsL k bx).1,(textsL k bx).2.1,(textsL k bx).2.2)) ∨ (ex ≠ 0 ∧ (textsL N B).2.2 = ex)
theorem TXL.first (N : Nat) (B : List Int) : TXL N B N [] B 0:=Or.inl ⟨rfl,rfl⟩
theorem textsL_succ (k : Nat) (bx : List Int) : textsL (k + 1) bx = if (textR bx 0).2.2 ≠ 0 then ([(textR bx 0).1],(textR bx 0).2.1,(textR bx 0).2.2) else ((textR bx 0).1 :: (textsL k (textR bx 0).2.1).1,(textsL k (textR bx 0).2.1).2.1,(textsL k (textR bx 0).2.1).2.2):=rfl
theorem TXL.next {N : Nat} {B : List Int} {k : Nat} {l : List ByteArray} {bx : List Int} (h : TXL N B (k + 1) l bx 0) : TXL N B k (l ++ [(textR bx 0).1]) (textR bx 0).2.1 (textR bx 0).2.2:=by
 rcases h with ⟨_,h⟩ | ⟨h,_⟩
 ·rw [textsL_succ] at h
  by_cases c : (textR bx 0).2.2 ≠ 0
  ·rw [if_pos c] at h
   exact Or.inr ⟨c,by rw [h]⟩
  ·rw [if_neg c] at h
   have c' : (textR bx 0).2.2 = 0:=by omega
   exact Or.inl ⟨c',by rw [h];simp⟩
 ·exact absurd rfl h
theorem TXL.last {N : Nat} {B : List Int} {l : List ByteArray} {bx : List Int} (h : TXL N B 0 l bx 0) : textsL N B = (l,bx,0):=by
 rcases h with ⟨_,h⟩ | ⟨h,_⟩
 ·rw [h];simp [textsL]
 ·exact absurd rfl h
theorem TXL.fell {N : Nat} {B : List Int} {k : Nat} {l : List ByteArray} {bx : List Int} {ex : Int} (h : TXL N B k l bx ex) (he : ex ≠ 0) : (textsL N B).2.2 = ex:=by
 rcases h with ⟨h,_⟩ | ⟨_,h⟩
 ·exact absurd h he
 ·exact h
theorem keep_append {w W w1 : World} {g : Nat} {v : Value} (hk : KeepBut w W g none) (hg : W.grownBy w1 v.ownBlock) (hv : ∀ k,v.ownBlock = some k → w.heap.size ≤ k) : KeepBut w w1 g none:=by
 refine hk.trans (KeepBut.of_grown hg g) ?_
 cases h : v.ownBlock with
 | none=>exact Or.inl rfl
 | some b=>exact Or.inr ⟨b,rfl,hv b h⟩
theorem OcR.grown {w0 w W w1 : World} {g : Nat} {bs : List Int} {e : Int} {v : Value} (h : OcR w0 W g bs e) (hlt : g < w.heap.size) (hg : W.grownBy w1 v.ownBlock) (hv : ∀ k,v.ownBlock = some k → w.heap.size ≤ k) : OcR w0 w1 g bs e:=by
 obtain ⟨Ad,c,h1,h2⟩:=h
 exact ⟨Ad,c,blk_grown h1 hg (fun he=>by have:=hv g he.symm;omega),h2⟩
theorem texts_calls (g : Nat) (bs : List Int) (e : Int) (hb : BytesOk bs) (w0 w : World) (hI : OcR w0 w g bs e) (hB : Below w0.heap.size w0 w) :
  Calls Tryz.prog 134 #[.pointer (some ⟨g,0,none⟩)] w fun r w'=>∃ v,r = .returned v ∧ Kd.R Kd.string 9 w' w0.heap.size (fun k=>w.heap.size ≤ k) v (textsR bs e).1 ∧ OcR w0 w' g (textsR bs e).2.1 (textsR bs e).2.2 ∧ Below w0.heap.size w0 w' ∧ KeepBut w w' g none:=by
 have HI:=As.mk hI
 have HB:=As.mk hB
 have HK:=As.mk (KeepBut.refl w g none)
 clear hI hB
 obtain ⟨Ad,cp,hg,hge,hC,hl⟩:=HI.out
 have HGE:=As.mk hge
 have hcz_0 : w.cell? ⟨g,0,none⟩ = some (.slice Ad bs.length cp):=(bC hg 0).trans rfl
 have hcz_1 : w.cell? ⟨g,1,none⟩ = some (.int .i64 e):=(bC hg 1).trans rfl
 have hfz_0:=bF hg 0
 have hfz_1:=bF hg 1
 clear hg hge
 have HGL:=As.mk HI.out.lt
 have HBO:=As.mk hb
 have HCL:=As.mk hC
 have HLL:=As.mk hl
 obtain ⟨n,bs1,e1,hq0⟩ : ∃ n bs1 e1,numR bs e = (n,bs1,e1):=⟨_,_,_,rfl⟩
 have hq:=As.mk hq0
 obtain ⟨f1,f2,f3,f4,f5,f6,f7⟩:=numR_facts hb hq0
 have HB1:=As.mk f1
 have F2:=As.mk f2
 have F6:=As.mk f6
 clear hC hl hb hq0 f1 f2 f6
 by_cases c1 : e1 = 0
 ·have c1a : (e1 == 0) = true:=beq_iff_eq.mpr c1
  have c1b : (e1 != 0) = false:=bne_eq_false_iff_eq.mpr c1
  have E0 : e1 = 0:=c1
  by_cases c2 : n > 1000000 ∨ n > (bs1.length : Int)
  ·have QT:=As.mk (textsR_short hq.out c1 c2)
   rw [QT.out]
   have c3 : decide ((0 : Int) < n) = true:=decide_eq_true (by omega)
   clear c1b
   by_cases c4 : n > 1000000
   ·have c4a : decide ((1000000 : Int) < n) = true:=decide_eq_true c4
    go_enter Tryz.func134,Tryz.ntmps134
    go_wp2_with (first | (go_at_call 96;(with_reducible refine (num_calls g bs e HBO.out w0 _ ?sideI ?sideB).mono ?_);(case sideI=>exact (by repeat (first | (with_reducible first | exact HI.out | apply OcR.alloc | apply OcR.drewN | apply OcR.drew | apply OcR.err) | exact HI.out)));(case sideB=>exact (by repeat (first | (with_reducible first | exact HB.out | apply bA | apply bN | apply bD | refine bT ?_ HI.out.ge) | exact HB.out)));rintro er w1 ⟨rfl,hI1,hB1,hK1⟩;rw [hq.out] at hI1;simp only [] at hI1;rw [hq.out];simp only [];have n0_:=As.mk hI1;have n1_:=As.mk hB1;have n2_:=As.mk (show KeepBut w w1 g none from KeepBut.trans (by repeat (first | (with_reducible first | exact HK.out | apply KeepBut.set_ | apply keep_drewN | apply keep_drew | apply keep_alloc) | exact HK.out)) hK1 (.inl rfl));clear HI HB HK hI1 hB1 hK1;have HI:=n0_;have HB:=n1_;have HK:=n2_;clear n0_ n1_ n2_;obtain ⟨Adb,cpb,hgb,hgeb,hCb,hlb⟩:=HI.out;have hczb_0 : w1.cell? ⟨g,0,none⟩ = some (.slice Adb (bs1).length cpb):=(bC hgb 0).trans rfl;have hczb_1 : w1.cell? ⟨g,1,none⟩ = some (.int .i64 (e1)):=(bC hgb 1).trans rfl;have hfzb_0:=bF hgb 0;have hfzb_1:=bF hgb 1;have HCLb:=As.mk hCb;have HLLb:=As.mk hlb;clear hgb hgeb hCb hlb) | (go_at_call 132;(with_reducible refine (fail_calls g bs1 e1 10 w0 _ ?sideI ?sideB).mono ?_);(case sideI=>exact (by repeat (first | (with_reducible first | exact HI.out | apply OcR.alloc | apply OcR.drewN | apply OcR.drew | apply OcR.err) | exact HI.out)));(case sideB=>exact (by repeat (first | (with_reducible first | exact HB.out | apply bA | apply bN | apply bD | refine bT ?_ HI.out.ge) | exact HB.out)));rintro er w2 ⟨rfl,hI1,hB1,hK1⟩;rw [if_pos E0] at hI1;have n0_:=As.mk hI1;have n1_:=As.mk hB1;have n2_:=As.mk (show KeepBut w w2 g none from KeepBut.trans (by repeat (first | (with_reducible first | exact HK.out | apply KeepBut.set_ | apply keep_drewN | apply keep_drew | apply keep_alloc) | exact HK.out)) hK1 (.inl rfl));clear HI HB HK hI1 hB1 hK1;have HI:=n0_;have HB:=n1_;have HK:=n2_;clear n0_ n1_ n2_;obtain ⟨Adc,cpc,hgc,hgec,hCc,hlc⟩:=HI.out;have hczc_0 : w2.cell? ⟨g,0,none⟩ = some (.slice Adc (bs1).length cpc):=(bC hgc 0).trans rfl;have hczc_1 : w2.cell? ⟨g,1,none⟩ = some (.int .i64 (10)):=(bC hgc 1).trans rfl;have hfzc_0:=bF hgc 0;have hfzc_1:=bF hgc 1;have HCLc:=As.mk hCc;have HLLc:=As.mk hlc;clear hgc hgec hCc hlc))
    go_loopg [5,6] 0 (fun kq v5 v6 w'=>v5 = .slice none 0 0 ∧ v6 = .int .i64 0 ∧ ∃ m,w' = w2.drewN m)
    case atStart=>exact ⟨rfl,rfl,0,rfl⟩
    case round =>
     obtain ⟨rfl,rfl,m1,rfl⟩:=hrel
     go_wp2_with (fail)
     go_ret
     exact ⟨_,rfl,Kd.R_nil _ _ _ _ _,OcR.row HI.out rfl HCL.out HLL.out,(by repeat (first | (with_reducible first | exact HB.out | apply bA | apply bN | apply bD | refine bT ?_ HI.out.ge) | exact HB.out)),(by repeat (first | (with_reducible first | exact HK.out | apply KeepBut.set_ | apply keep_drewN | apply keep_drew | apply keep_alloc) | exact HK.out))⟩
   ·have c4a : decide ((1000000 : Int) < n) = false:=decide_eq_false c4
    have c5a : decide ((bs1.length : Int) < n) = true:=decide_eq_true (by omega)
    go_enter Tryz.func134,Tryz.ntmps134
    go_wp2_with (first | (go_at_call 96;(with_reducible refine (num_calls g bs e HBO.out w0 _ ?sideI ?sideB).mono ?_);(case sideI=>exact (by repeat (first | (with_reducible first | exact HI.out | apply OcR.alloc | apply OcR.drewN | apply OcR.drew | apply OcR.err) | exact HI.out)));(case sideB=>exact (by repeat (first | (with_reducible first | exact HB.out | apply bA | apply bN | apply bD | refine bT ?_ HI.out.ge) | exact HB.out)));rintro er w1 ⟨rfl,hI1,hB1,hK1⟩;rw [hq.out] at hI1;simp only [] at hI1;rw [hq.out];simp only [];have n0_:=As.mk hI1;have n1_:=As.mk hB1;have n2_:=As.mk (show KeepBut w w1 g none from KeepBut.trans (by repeat (first | (with_reducible first | exact HK.out | apply KeepBut.set_ | apply keep_drewN | apply keep_drew | apply keep_alloc) | exact HK.out)) hK1 (.inl rfl));clear HI HB HK hI1 hB1 hK1;have HI:=n0_;have HB:=n1_;have HK:=n2_;clear n0_ n1_ n2_;obtain ⟨Adb,cpb,hgb,hgeb,hCb,hlb⟩:=HI.out;have hczb_0 : w1.cell? ⟨g,0,none⟩ = some (.slice Adb (bs1).length cpb):=(bC hgb 0).trans rfl;have hczb_1 : w1.cell? ⟨g,1,none⟩ = some (.int .i64 (e1)):=(bC hgb 1).trans rfl;have hfzb_0:=bF hgb 0;have hfzb_1:=bF hgb 1;have HCLb:=As.mk hCb;have HLLb:=As.mk hlb;clear hgb hgeb hCb hlb) | (go_at_call 132;(with_reducible refine (fail_calls g bs1 e1 10 w0 _ ?sideI ?sideB).mono ?_);(case sideI=>exact (by repeat (first | (with_reducible first | exact HI.out | apply OcR.alloc | apply OcR.drewN | apply OcR.drew | apply OcR.err) | exact HI.out)));(case sideB=>exact (by repeat (first | (with_reducible first | exact HB.out | apply bA | apply bN | apply bD | refine bT ?_ HI.out.ge) | exact HB.out)));rintro er w2 ⟨rfl,hI1,hB1,hK1⟩;rw [if_pos E0] at hI1;have n0_:=As.mk hI1;have n1_:=As.mk hB1;have n2_:=As.mk (show KeepBut w w2 g none from KeepBut.trans (by repeat (first | (with_reducible first | exact HK.out | apply KeepBut.set_ | apply keep_drewN | apply keep_drew | apply keep_alloc) | exact HK.out)) hK1 (.inl rfl));clear HI HB HK hI1 hB1 hK1;have HI:=n0_;have HB:=n1_;have HK:=n2_;clear n0_ n1_ n2_;obtain ⟨Adc,cpc,hgc,hgec,hCc,hlc⟩:=HI.out;have hczc_0 : w2.cell? ⟨g,0,none⟩ = some (.slice Adc (bs1).length cpc):=(bC hgc 0).trans rfl;have hczc_1 : w2.cell? ⟨g,1,none⟩ = some (.int .i64 (10)):=(bC hgc 1).trans rfl;have hfzc_0:=bF hgc 0;have hfzc_1:=bF hgc 1;have HCLc:=As.mk hCc;have HLLc:=As.mk hlc;clear hgc hgec hCc hlc))
    go_loopg [5,6] 0 (fun kq v5 v6 w'=>v5 = .slice none 0 0 ∧ v6 = .int .i64 0 ∧ ∃ m,w' = w2.drewN m)
    case atStart=>exact ⟨rfl,rfl,0,rfl⟩
    case round =>
     obtain ⟨rfl,rfl,m1,rfl⟩:=hrel
     go_wp2_with (fail)
     go_ret
     exact ⟨_,rfl,Kd.R_nil _ _ _ _ _,OcR.row HI.out rfl HCL.out HLL.out,(by repeat (first | (with_reducible first | exact HB.out | apply bA | apply bN | apply bD | refine bT ?_ HI.out.ge) | exact HB.out)),(by repeat (first | (with_reducible first | exact HK.out | apply KeepBut.set_ | apply keep_drewN | apply keep_drew | apply keep_alloc) | exact HK.out))⟩
  ·have c2n : n ≤ 1000000:=by omega
   have c2m : n ≤ (bs1.length : Int):=by omega
   have c4a : decide ((1000000 : Int) < n) = false:=decide_eq_false (by omega)
   have c5a : decide ((bs1.length : Int) < n) = false:=decide_eq_false (by omega)
   have C2:=As.mk c2
   clear c2
   go_enter Tryz.func134,Tryz.ntmps134
   go_wp2_with (first | (go_at_call 96;(with_reducible refine (num_calls g bs e HBO.out w0 _ ?sideI ?sideB).mono ?_);(case sideI=>exact (by repeat (first | (with_reducible first | exact HI.out | apply OcR.alloc | apply OcR.drewN | apply OcR.drew | apply OcR.err) | exact HI.out)));(case sideB=>exact (by repeat (first | (with_reducible first | exact HB.out | apply bA | apply bN | apply bD | refine bT ?_ HI.out.ge) | exact HB.out)));rintro er w1 ⟨rfl,hI1,hB1,hK1⟩;rw [hq.out] at hI1;simp only [] at hI1;rw [hq.out];simp only [];have n0_:=As.mk hI1;have n1_:=As.mk hB1;have n2_:=As.mk (show KeepBut w w1 g none from KeepBut.trans (by repeat (first | (with_reducible first | exact HK.out | apply KeepBut.set_ | apply keep_drewN | apply keep_drew | apply keep_alloc) | exact HK.out)) hK1 (.inl rfl));clear HI HB HK hI1 hB1 hK1;have HI:=n0_;have HB:=n1_;have HK:=n2_;clear n0_ n1_ n2_;obtain ⟨Adb,cpb,hgb,hgeb,hCb,hlb⟩:=HI.out;have hczb_0 : w1.cell? ⟨g,0,none⟩ = some (.slice Adb (bs1).length cpb):=(bC hgb 0).trans rfl;have hczb_1 : w1.cell? ⟨g,1,none⟩ = some (.int .i64 (e1)):=(bC hgb 1).trans rfl;have hfzb_0:=bF hgb 0;have hfzb_1:=bF hgb 1;have HCLb:=As.mk hCb;have HLLb:=As.mk hlb;clear hgb hgeb hCb hlb))
   clear hcz_0 hcz_1 hfz_0 hfz_1 hczb_0 hczb_1 hfzb_0 hfzb_1
   subst c1
   go_loopg [5,6] n.toNat (fun kq v5 v6 w'=>∃ (x : Int) (l : List ByteArray) (bx : List Int) (ex : Int),v6 = .int .i64 x ∧ 0 ≤ x ∧ x ≤ n ∧ As ((kq : Int) + x = n) ∧ As (OcR w0 w' g bx ex) ∧ As (Below w0.heap.size w0 w') ∧ As (KeepBut w w' g none) ∧ As (Kd.R Kd.string 9 w' w0.heap.size (fun k=>w.heap.size ≤ k) v5 l) ∧ As (BytesOk bx) ∧ As ((l.length : Int) ≤ x) ∧ As (TXL n.toNat bs1 (n - x).toNat l bx ex))
   case atStart=>exact ⟨0,[],bs1,0,rfl,by omega,by omega,⟨by omega⟩,HI,HB,HK,⟨Kd.R_nil _ _ _ _ _⟩,HB1,⟨by simp⟩,⟨by rw [Int.sub_zero];exact TXL.first _ _⟩⟩
   case round =>
    clear HI HB HK
    obtain ⟨x,l,bx,ex,rfl,p0,p1,HKQ,HI,HB,HK,HO,HBX,HLX0,HTX⟩:=hrel
    obtain ⟨Adx,cpx,hgx,hgex,hCx,hlx⟩:=HI.out;have hczx_0 : wr.cell? ⟨g,0,none⟩ = some (.slice Adx (bx).length cpx):=(bC hgx 0).trans rfl;have hczx_1 : wr.cell? ⟨g,1,none⟩ = some (.int .i64 (ex)):=(bC hgx 1).trans rfl;have hfzx_0:=bF hgx 0;have hfzx_1:=bF hgx 1;have HCLx:=As.mk hCx;have HLLx:=As.mk hlx;clear hgx hgex hCx hlx
    by_cases hlt : x < n
    ·have c6 : decide (x < n) = true:=decide_eq_true hlt
     by_cases c7 : ex = 0
     ·subst c7
      have HLX:=As.mk (show (l.length + 1) * 16 ≤ 140737488355328 by have:=HLX0.out;omega)
      go_wp2_with (first | (go_at_call 133;(with_reducible refine (text_calls g bx 0 HBX.out w0 _ ?sideI ?sideB).mono ?_);(case sideI=>exact HI.out);(case sideB=>exact HB.out);rintro er w2 ⟨rfl,hI1,hB1,hK1⟩;have n3_:=As.mk (Kd.R_keep HO.out hK1 (fun k hk=>by have:=HGL.out;omega));clear HO;have HO:=n3_;clear n3_;have n0_:=As.mk hI1;have n1_:=As.mk hB1;have n2_:=As.mk (show KeepBut w w2 g none from KeepBut.trans HK.out hK1 (.inl rfl));clear HI HB HK hI1 hB1 hK1;have HI:=n0_;have HB:=n1_;have HK:=n2_;clear n0_ n1_ n2_) | ((with_reducible refine gB (b:=.append) (xs:=#[.tmp 45,.tmp 48]) rfl ?_);at_builtin;refine Kd.R_append Kd.string (w0:=w0) w0.heap.size rfl (.tmp 45) (.tmp 48) 32 9 (.string ⟨#[]⟩) 16 rfl Tryz.underlying32 infoS_ rfl (by decide) (by omega) u5 l (textR bx 0).1 [.string (textR bx 0).1] (fun k=>w.heap.size ≤ k) (fun _=>False) rfl rfl ?aP (fun _ hk=>hk.elim) ?aF ?aO ?aB ?aS ?aL ?_;(case aP=>exact rfl);(case aF=>exact (fun k hk=>Nat.le_trans HK.out.1 hk));(case aO=>exact HO.out);(case aB=>exact HB.out);(case aS=>exact HB.out.size);(case aL=>have:=HLX.out;omega);intro v9 w9 ho hb_ hg_ hat_;have n0_:=As.mk (OcR.grown HI.out HGL.out hg_ HO.out.1);have n1_:=As.mk hb_;have n2_:=As.mk (keep_append HK.out hg_ HO.out.1);have n3_:=As.mk ho;clear HI HB HK HO ho hb_ hg_ hat_;have HI:=n0_;have HB:=n1_;have HK:=n2_;have HO:=n3_;clear n0_ n1_ n2_ n3_))
      go_roundg (gk - 1)
      case measure=>have:=HKQ.out;omega
      case rel=>exact ⟨x + 1,l ++ [(textR bx 0).1],(textR bx 0).2.1,(textR bx 0).2.2,rfl,by omega,by omega,⟨by have:=HKQ.out;omega⟩,HI,HB,HK,HO,⟨(textR_ok HBX.out).1⟩,⟨by rw [List.length_append];have:=HLX0.out;simp;omega⟩,⟨by have:=HTX.out;rw [show (n - x).toNat = (n - (x + 1)).toNat + 1 by omega] at this;exact this.next⟩⟩
     ·have c7a : (ex == 0) = false:=beq_eq_false_iff_ne.mpr c7
      have c7b : (ex != 0) = true:=bne_iff_ne.mpr c7
      have QF:=HTX.out.fell c7
      have QT:=As.mk (textsR_fell hq.out rfl C2.out (by rw [QF];exact c7))
      have QG:=As.mk QF
      clear QF
      go_wp2_with (fail)
      go_ret
      rw [QT.out,QG.out]
      exact ⟨_,rfl,Kd.R_nil _ _ _ _ _,OcR.row HI.out rfl HCL.out HLL.out,(by repeat (first | (with_reducible first | exact HB.out | apply bA | apply bN | apply bD | refine bT ?_ HI.out.ge) | exact HB.out)),(by repeat (first | (with_reducible first | exact HK.out | apply KeepBut.set_ | apply keep_drewN | apply keep_drew | apply keep_alloc) | exact HK.out))⟩
    ·have c6 : decide (x < n) = false:=decide_eq_false hlt
     by_cases c7 : ex = 0
     ·subst c7
      have QF:=HTX.out
      rw [show (n - x).toNat = 0 by omega] at QF
      have QF:=QF.last
      have QT:=As.mk (textsR_good hq.out rfl C2.out (by rw [QF]))
      have QG:=As.mk QF
      clear QF
      go_wp2_with (fail)
      go_ret
      rw [QT.out,QG.out]
      exact ⟨_,rfl,HO.out,(by repeat (first | (with_reducible first | exact HI.out | apply OcR.alloc | apply OcR.drewN | apply OcR.drew | apply OcR.err) | exact HI.out)),(by repeat (first | (with_reducible first | exact HB.out | apply bA | apply bN | apply bD | refine bT ?_ HI.out.ge) | exact HB.out)),(by repeat (first | (with_reducible first | exact HK.out | apply KeepBut.set_ | apply keep_drewN | apply keep_drew | apply keep_alloc) | exact HK.out))⟩
     ·have c7a : (ex == 0) = false:=beq_eq_false_iff_ne.mpr c7
      have c7b : (ex != 0) = true:=bne_iff_ne.mpr c7
      have QF:=HTX.out.fell c7
      have QT:=As.mk (textsR_fell hq.out rfl C2.out (by rw [QF];exact c7))
      have QG:=As.mk QF
      clear QF
      go_wp2_with (fail)
      go_ret
      rw [QT.out,QG.out]
      exact ⟨_,rfl,Kd.R_nil _ _ _ _ _,OcR.row HI.out rfl HCL.out HLL.out,(by repeat (first | (with_reducible first | exact HB.out | apply bA | apply bN | apply bD | refine bT ?_ HI.out.ge) | exact HB.out)),(by repeat (first | (with_reducible first | exact HK.out | apply KeepBut.set_ | apply keep_drewN | apply keep_drew | apply keep_alloc) | exact HK.out))⟩
 ·have c1a : (e1 == 0) = false:=beq_eq_false_iff_ne.mpr c1
  have c1b : (e1 != 0) = true:=bne_iff_ne.mpr c1
  have QT:=As.mk (textsR_err hq.out c1)
  rw [QT.out]
  have hn0:=f7 c1
  have c3 : decide ((0 : Int) < n) = false:=decide_eq_false (by omega)
  go_enter Tryz.func134,Tryz.ntmps134
  go_wp2_with (first | (go_at_call 96;(with_reducible refine (num_calls g bs e HBO.out w0 _ ?sideI ?sideB).mono ?_);(case sideI=>exact (by repeat (first | (with_reducible first | exact HI.out | apply OcR.alloc | apply OcR.drewN | apply OcR.drew | apply OcR.err) | exact HI.out)));(case sideB=>exact (by repeat (first | (with_reducible first | exact HB.out | apply bA | apply bN | apply bD | refine bT ?_ HI.out.ge) | exact HB.out)));rintro er w1 ⟨rfl,hI1,hB1,hK1⟩;rw [hq.out] at hI1;simp only [] at hI1;rw [hq.out];simp only [];have n0_:=As.mk hI1;have n1_:=As.mk hB1;have n2_:=As.mk (show KeepBut w w1 g none from KeepBut.trans (by repeat (first | (with_reducible first | exact HK.out | apply KeepBut.set_ | apply keep_drewN | apply keep_drew | apply keep_alloc) | exact HK.out)) hK1 (.inl rfl));clear HI HB HK hI1 hB1 hK1;have HI:=n0_;have HB:=n1_;have HK:=n2_;clear n0_ n1_ n2_;obtain ⟨Adb,cpb,hgb,hgeb,hCb,hlb⟩:=HI.out;have hczb_0 : w1.cell? ⟨g,0,none⟩ = some (.slice Adb (bs1).length cpb):=(bC hgb 0).trans rfl;have hczb_1 : w1.cell? ⟨g,1,none⟩ = some (.int .i64 (e1)):=(bC hgb 1).trans rfl;have hfzb_0:=bF hgb 0;have hfzb_1:=bF hgb 1;have HCLb:=As.mk hCb;have HLLb:=As.mk hlb;clear hgb hgeb hCb hlb))
  go_loopg [5,6] 0 (fun kq v5 v6 w'=>v5 = .slice none 0 0 ∧ v6 = .int .i64 0 ∧ ∃ m,w' = w1.drewN m)
  case atStart=>exact ⟨rfl,rfl,0,rfl⟩
  case round =>
   obtain ⟨rfl,rfl,m1,rfl⟩:=hrel
   go_wp2_with (fail)
   go_ret
   exact ⟨_,rfl,Kd.R_nil _ _ _ _ _,OcR.row HI.out rfl HCL.out HLL.out,(by repeat (first | (with_reducible first | exact HB.out | apply bA | apply bN | apply bD | refine bT ?_ HI.out.ge) | exact HB.out)),(by repeat (first | (with_reducible first | exact HK.out | apply KeepBut.set_ | apply keep_drewN | apply keep_drew | apply keep_alloc) | exact HK.out))⟩
end Go.Proofs.YtmlebgikdegjjaaGreatDoor.Hd
