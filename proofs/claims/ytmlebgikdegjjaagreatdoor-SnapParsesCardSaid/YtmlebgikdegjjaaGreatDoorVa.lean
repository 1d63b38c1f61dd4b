/- octet.Open; snap.Parse of what is written of a snapshot. -/
import Derived.Test.YtmlebgikdegjjaaGreatDoorQx
import Derived.Test.YtmlebgikdegjjaaGreatDoorUv
import Derived.Test.YtmlebgikdegjjaaGreatDoorUy
import Derived.Test.YtmlebgikdegjjaaGreatDoorUx
import Derived.Test.YtmlebgikdegjjaaGreatDoorPAllx16
import Derived.Test.YtmlebgikdegjjaaGreatDoorPAllx2
set_option maxHeartbeats 16000000
set_option maxRecDepth 100000
namespace Go.Proofs.YtmlebgikdegjjaaGreatDoor.Hd
open Go.Maps Go.RowKit Go.Proofs.YtmlebgikdegjjaaGreatDoorW.PrintWords Go.Proofs.YtmlebgikdegjjaaGreatDoorW.PrintLast Go.Proofs.YtmlebgikdegjjaaGreatDoorW.PrintMore Go.Proofs.YtmlebgikdegjjaaGreatDoor.PAll
attribute [local go_sem] max2_int min2_int max_two min_two max_three min_three max_four min_four
set_option linter.unusedVariables false
set_option linter.unusedSimpArgs false
theorem open_calls (A0 : Option Addr) (c0 : Nat) (l : List Int) (w : World) (hr : Kd.C (Kd.int .u8) w A0 l.length l) (hc : l.length ≤ c0) (hl : l.length ≤ 1000000) :
  Calls Tryz.prog 95 #[.slice A0 l.length c0] w fun r w'=>∃ g w0,r = .returned (.pointer (some ⟨g,0,none⟩)) ∧ Below w.heap.size w w0 ∧ OcR w0 w' g l 0 ∧ Below w0.heap.size w0 w':=by
 have HR:=As.mk hr
 have HC:=As.mk hc
 have HCL:=As.mk (show bytes_Clone.f l = some l by unfold bytes_Clone.f;rw [if_pos (by omega)])
 clear hr hc hl
 go_enter Tryz.func95,Tryz.ntmps95
 go_wp2_with (first | ((with_reducible refine gate_dst (N:=6) rfl ?_);refine box_event ?hg (N:=6) ?hd (cs:=#[.slice Ad l.length cp,.int .i64 0]) (t:=159) ?hr ?_;(case hd=>rfl);(case hg=>rfl);(case hr=>first | (go_simp;done) | (go_simp;rfl));intro g hg w2 hbox hb;have HBX:=As.mk hbox;have HGX:=As.mk hg;have n0_:=As.mk (bS HB.out hb);clear HB hbox hb hg;have HB:=n0_;clear n0_) | (go_at_call 120;(with_reducible refine (bytes_Clone.calls A0 c0 l l _ HR.out HC.out HCL.out).mono ?_);rintro er w1 ⟨vv,rfl,hO1,hb1⟩;obtain ⟨Ad,cp,rfl,hlv,hCv⟩:=Kd.R_reads hO1;have HCv:=As.mk hCv;have HLv:=As.mk hlv;have HBC:=As.mk hb1;have HB:=As.mk (Below.refl w1.heap.size w1);clear hO1 hlv hCv hb1))
 go_ret
 exact ⟨g,w1,rfl,HBC.out,⟨Ad,cp,HBX.out,Nat.le_of_eq HGX.out.symm,HCv.out,HLv.out⟩,HB.out⟩
theorem putL_last {key : S34 → ByteArray} {d : S34} : ∀ {l : List S34},(∀ y ∈ l,ltK (key y) (key d) = true) → putL key d l false = l ++ [d]
 | [],_=>rfl
 | x :: l,h=>by
  have h1:=h x (List.mem_cons_self ..)
  unfold putL
  rw [h1,if_neg (by simp),if_neg (ltK_ne h1),show (false || !true) = false from rfl,putL_last fun y hy=>h y (List.mem_cons_of_mem _ hy)]
  rfl
theorem OcR.grown' {w0 W w1 : World} {g b : Nat} {bs : List Int} {e : Int} (h : OcR w0 W g bs e) (hg : W.grownBy w1 (some b)) (hne : g ≠ b) : OcR w0 w1 g bs e:=by
 obtain ⟨Ad,c,h1,h2⟩:=h
 exact ⟨Ad,c,(hg.block g (blk_lt h1) (fun e=>hne (Option.some.inj e))).trans h1,h2⟩
theorem KpR.reader {w0 w w' : World} {g : Nat} {bs : List Int} {e : Int} (h : OcR w0 w g bs e) (hk : KeepBut w w' g none) : KpR (fun _=>False) w w':=by
 obtain ⟨Ad,c,h1,_⟩:=h
 have hne : ∀ a v,w.cell? a = some v → keepV v = true → a.block ≠ g:=fun a v hc hv e_=>by
  unfold World.cell? at hc
  rw [e_,h1] at hc
  have h2 : ([Value.slice Ad bs.length c,.int .i64 e] : List Value)[a.off]? = some v:=(show a.spot = none ∧ ([Value.slice Ad bs.length c,.int .i64 e] : List Value)[a.off]? = some v by simpa using hc).2
  have h3 : v = .slice Ad bs.length c ∨ v = .int .i64 e:=by
   rcases Nat.lt_or_ge a.off 2 with hlt | hge
   ·have : a.off = 0 ∨ a.off = 1:=by omega
    rcases this with h4 | h4 <;> rw [h4] at h2 <;> injection h2 with h2
    ·exact Or.inl h2.symm
    ·exact Or.inr h2.symm
   ·rw [List.getElem?_eq_none (by simpa using hge)] at h2
    cases h2
  rcases h3 with rfl | rfl <;> cases hv
 refine ⟨hk.1,fun a v hc hv=>?_,fun i es c' hi _=>(hk.2 i (Array.getElem?_eq_some_iff.1 hi).1 (fun e_=>by rw [e_,h1] at hi;cases hi) (by simp)).trans hi⟩
 have hlt:=cell_lt hc
 have:=hk.2 a.block hlt (hne a v hc hv) (by simp)
 unfold World.cell? at hc ⊢
 rw [this]
 exact hc
theorem end_same (g : Nat) (w0 w : World) (hI : OcR w0 w g [] 0) : Calls Tryz.prog 99 #[.pointer (some ⟨g,0,none⟩)] w fun r w'=>r = .returned (.int .i64 0) ∧ w' = w:=by
 obtain ⟨Ad,cp,hg,hge,hC,hl⟩:=hI
 have hcz_0 : w.cell? ⟨g,0,none⟩ = some (.slice Ad 0 cp):=(bC hg 0).trans rfl
 have hcz_1 : w.cell? ⟨g,1,none⟩ = some (.int .i64 0):=(bC hg 1).trans rfl
 have hfz_0:=bF hg 0
 have hfz_1:=bF hg 1
 clear hg hge hC hl
 go_enter Tryz.func99,Tryz.ntmps99
 go_wp2_with (fail)
 go_ret
 exact ⟨rfl,rfl⟩
end Go.Proofs.YtmlebgikdegjjaaGreatDoor.Hd
