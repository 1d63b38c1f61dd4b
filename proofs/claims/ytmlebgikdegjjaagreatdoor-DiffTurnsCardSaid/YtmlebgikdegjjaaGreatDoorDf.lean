/- Copies of rows of definitions: slices.Clone, diff.clone. -/
import Derived.Test.YtmlebgikdegjjaaGreatDoorUh
import Derived.Test.YtmlebgikdegjjaaGreatDoorPAllx2
set_option maxHeartbeats 16000000
set_option maxRecDepth 100000
namespace Go.Proofs.YtmlebgikdegjjaaGreatDoor.Hd
open Go.Maps Go.RowKit Go.Proofs.YtmlebgikdegjjaaGreatDoorW.PrintWords Go.Proofs.YtmlebgikdegjjaaGreatDoorW.PrintLast Go.Proofs.YtmlebgikdegjjaaGreatDoorW.PrintMore Go.Proofs.YtmlebgikdegjjaaGreatDoor.PAll
attribute [local go_sem] max2_int min2_int max_two min_two max_three min_three max_four min_four
set_option linter.unusedVariables false
set_option linter.unusedSimpArgs false
theorem sclone_calls (P : Nat → Prop) (w : World) (A0 : Option Addr) (c0 : Nat) (l : List S34) (hv0 : Kd.V k34 34 w 0 P (.slice A0 l.length c0) l) (hl : l.length ≤ 1000000) :
  Calls Tryz.prog 110 #[.slice A0 l.length c0] w fun e w'=>∃ v,e = .returned v ∧ Kd.N k34 34 w' w.heap.size (fun k_=>P k_ ∨ w.heap.size ≤ k_) v l ∧ Below w.heap.size w w':=by
 have hu34:=Tryz.underlying34
 have HL:=As.mk hl
 have HB:=As.mk (Below.refl w.heap.size w)
 have HR:=As.mk (Kd.V_reads' hv0).2.2
 have HV:=As.mk hv0
 clear hv0 hl
 have hnil:=fun (w : World)=>Lib.run_eql_slice_nil (P:=Tryz.prog) w 22 34 A0 l.length c0 0 0 Tryz.underlying22
 cases A0 with
 | none =>
  have hz : As (l = []):=by
   by_cases hp : 0 < l.length
   ·obtain ⟨ad,e,_⟩:=HR.out.2.2 hp
    cases e
   ·exact ⟨List.eq_nil_of_length_eq_zero (by omega)⟩
  go_enter Tryz.func110,Tryz.ntmps110
  go_wp2_with (fail)
  go_ret
  exact ⟨_,rfl,by rw [hz.out];exact Kd.N_nil _ _ _ _ _,HB.out⟩
 | some ad =>
  go_enter Tryz.func110,Tryz.ntmps110
  go_wp2_with (first | ((with_reducible refine gate_dst (N:=5) rfl ?_);refine Kd.N_lit k34 (w0:=w) w.heap.size 34 ?hg (N':=5) ?hd (xs:=([] : List S34)) (inner:=[]) (ok:=fun k_=>P k_ ∨ w.heap.size ≤ k_) (okp:=fun _=>False) ?hr ?hp (fun _ hk=>hk.elim) (Or.inr HB.out.size) HB.out HB.out.size (by simp) ?_;(case hd=>rfl);(case hg=>rfl);(case hr=>first | (go_simp;done) | (go_simp;rfl));(case hp=>exact Reps.none _ _);intro v5 w5 ho_ hb_ hg_ hn_;have HO:=As.mk ho_;have HNB:=As.mk hn_;have n1_:=As.mk (Kd.V_elder' (u:=v5) HV.out (fun k_ e_=>by obtain ⟨b_,h1_,h2_⟩:=hn_;rw [h1_] at e_;cases e_;exact h2_) hb_);have n0_:=As.mk hb_;clear HB HV ho_ hb_ hg_ hn_;have HB:=n0_;have HV:=n1_;clear n0_ n1_) | ((with_reducible refine gB (b:=.append) (xs:=#[.tmp 5,.tmp 6]) rfl ?_);(try (refine gate_guard (by rfl) ?_;dsimp only));at_builtin;refine Kd.N_append_rows k34 (w0:=w) w.heap.size rfl (.tmp 5) (.tmp 6) 22 34 (.agg #[.int .i64 0,.string ⟨#[]⟩,.string ⟨#[]⟩,.slice none 0 0,.string ⟨#[]⟩,.string ⟨#[]⟩]) 96 rfl Tryz.underlying22 info34 rfl (by decide) (by omega) v5 [] l _ _ _ (fun k_=>P k_ ∨ w.heap.size ≤ k_) (fun k_=>P k_ ∧ some k_ ≠ (v5 : Value).ownBlock) rfl rfl HO.out (Kd.V_F HV.out) (fun _ hk_=>⟨Or.inl hk_.1,hk_.2⟩) (fun _ hk_=>Or.inr (Nat.le_trans HB.out.size hk_)) HB.out HB.out.size (by have:=HL.out;simp only [List.length_nil];omega) ?_;intro v7 w7 ho_ hb_ hg_ hat_;rw [List.nil_append] at ho_;have n0_:=As.mk hb_;have n1_:=As.mk ho_;clear HO HB HV hb_ ho_ hg_ hat_;have HB:=n0_;have HO:=n1_;clear n0_ n1_))
  go_ret
  exact ⟨_,rfl,HO.out,HB.out⟩
theorem dclone_calls (P : Nat → Prop) (w : World) (A0 : Option Addr) (c0 : Nat) (l : List S34) (hv0 : Kd.V k34 34 w 0 P (.slice A0 l.length c0) l) (hl : l.length ≤ 1000000) (hv : ∀ d ∈ l,d.f3.length ≤ 1000000) :
  Calls Tryz.prog 71 #[.slice A0 l.length c0] w fun e w'=>∃ v,e = .returned v ∧ Kd.N k34 34 w' w.heap.size (fun k_=>P k_ ∨ w.heap.size ≤ k_) v l ∧ Below w.heap.size w w':=by
 have hu34:=Tryz.underlying34
 have HL:=As.mk hl
 have HV0:=As.mk hv0
 have HVV:=As.mk hv
 clear hv0 hl hv
 go_enter Tryz.func71,Tryz.ntmps71
 go_wp2_with (first | (go_at_call 110;(with_reducible refine (sclone_calls P _ A0 c0 l HV0.out HL.out).mono ?_);rintro e w6 ⟨v3,rfl,ho_,hb_⟩;obtain ⟨A3,c3,rfl⟩:=Kd.N_slice ho_;have HO:=As.mk ho_;have HB:=As.mk hb_;clear ho_ hb_))
 go_loopg [9] l.length (fun kq v9 w'=>∃ n : Nat,v9 = .int .i64 (n : Int) ∧ n ≤ l.length ∧ As (kq + n = l.length) ∧ As (Kd.N k34 34 w' w.heap.size (fun k_=>P k_ ∨ w.heap.size ≤ k_) (.slice A3 l.length c3) l) ∧ As (Below w.heap.size w w'))
 case atStart=>exact ⟨0,rfl,Nat.zero_le _,⟨rfl⟩,HO,HB⟩
 case round =>
  clear HO HB
  obtain ⟨n,rfl,p1,HKQ,HO,HB⟩:=hrel
  by_cases hlt : n < l.length
  case neg =>
   have c0_ : decide ((n : Int) < (l.length : Int)) = false:=decide_eq_false (by omega)
   go_wp2_with (fail)
   go_ret
   exact ⟨_,rfl,HO.out,HB.out⟩
  case pos =>
   obtain ⟨g,cap,hv_,_,_,_⟩:=Kd.N_form HO.out (by omega)
   injection hv_ with hv1_ _ hv3_
   subst hv1_
   subst hv3_
   obtain ⟨cs,hcl,hF,hcc,hfr⟩:=Kd.N_elem HO.out z34 (n : Int) (by omega) (by omega)
   obtain ⟨x,hx⟩ : ∃ x,x = l[n]:=⟨_,rfl⟩
   rw [Int.toNat_natCast] at hF hcc hfr
   rw [List.getD_eq_getElem?_getD,List.getElem?_eq_getElem hlt,Option.getD_some,← hx] at hF
   obtain ⟨Ax,cx,rfl,hlx,hFx⟩:=k34_openF hF
   have HXX:=As.mk hx
   clear hx
   have q3 : wr.cell? ⟨g,n * 6 + 3,none⟩ = some (.slice Ax x.f3.length cx):=hcc 3 _ rfl
   have f3 : wr.frozen? ⟨g,n * 6 + 3,none⟩ = false:=hfr 3
   have HLX:=As.mk hlx
   have HCX:=As.mk (Kd.F_now hFx)
   have HFX:=As.mk (show slices_Clone_string_string.f x.f3 = some x.f3 by
    unfold slices_Clone_string_string.f
    rw [if_pos (by have:=HVV.out x (by rw [HXX.out];exact List.getElem_mem hlt);omega)])
   have c0_ : decide ((n : Int) < (l.length : Int)) = true:=decide_eq_true (by omega)
   have p1_ : ((n : Int) < (l.length : Int)) = True:=eq_true (by omega)
   have p2_ : (n < l.length) = True:=eq_true hlt
   have HCC:=As.mk hcc
   have HWR:=As.mk HB.out.size
   have HGL:=As.mk (World.block_lt_of_cell? wr _ q3 : g < wr.heap.size)
   have HX2:=As.mk (show n < l.length ∧ l.length ≤ 1000000 from ⟨hlt,HL.out⟩)
   have HSET:=As.mk (show l.set n x = l by rw [HXX.out];exact List.set_getElem_self hlt)
   have hw1 : wrap64 ((n : Int) + 1) = ((n + 1 : Nat) : Int):=by rw [IntWalk.wrap64_in _ (by have:=HX2.out;omega)];omega
   clear hcc hfr hF hFx hcl hlx p1
   go_wp2_with (first | (go_at_call 103;(with_reducible refine (slices_Clone_string_string.calls _ _ x.f3 x.f3 _ HCX.out HLX.out HFX.out).mono ?_);rintro e wc ⟨v4,rfl,ho_,hb_⟩;obtain ⟨A4,c4,rfl⟩:=Kd.R_slice ho_;have n_HO:=As.mk (Kd.N_below HO.out hb_);have HBW:=As.mk hb_;have n_HB:=As.mk (bS HB.out hb_);have H4:=As.mk ho_;clear HO HB ho_ hb_;have HO:=n_HO;have HB:=n_HB;clear n_HO n_HB) | ((with_reducible refine gate_store (t:=32) (p:=21) rfl ?_);refine Kd.N_store k34 (w0:=w) w.heap.size rfl rfl 32 (.tmp 21) (.tmp 19) rfl 34 (n : Int) 3 l x (.slice A4 x.f3.length c4) [.slice A4 x.f3.length c4] [.int .i64 x.f0,.string x.f1,.string x.f2,.slice Ax x.f3.length cx,.string x.f4,.string x.f5] (fun k_=>P k_ ∨ w.heap.size ≤ k_) (fun k_=>(P k_ ∨ w.heap.size ≤ k_) ∧ k_ ≠ g) rfl (by rw [Int.toNat_natCast];rfl) rfl rfl rfl (by intro q hq;rw [List.mem_singleton.1 hq];rfl) HO.out (Int.natCast_nonneg _) (by have:=HX2.out;omega) rfl (fun j u hu=>by rw [Int.toNat_natCast];exact pC HBW.out (HCC.out j u hu)) (show 3 + 1 ≤ 6 by decide) (k34_mkF _ _ x (Kd.R_reads' H4.out).2.1 (Kd.N_F (Kd.N_mono (Kd.R_N (Kd.R_tight rfl H4.out)) (fun k_ hk_=>by have h1_:=Kd.R_base H4.out k_ hk_.symm;have h2_:=HGL.out;have h3_:=HWR.out;exact ⟨Or.inr (by omega),by omega⟩)))) (fun k_ hk_=>hk_) HB.out ?_;intro w7 ho_ hb_ hg_;rw [Int.toNat_natCast,HSET.out] at ho_;have n_HO:=As.mk ho_;have n_HB:=As.mk hb_;clear HO HB ho_ hb_ hg_;have HO:=n_HO;have HB:=n_HB;clear n_HO n_HB))
   go_roundg (gk - 1)
   case measure=>have:=HKQ.out;have:=HX2.out;omega
   case rel=>exact ⟨n + 1,(by first | rfl | rw [hw1]),HX2.out.1,⟨by have:=HKQ.out;have:=HX2.out;omega⟩,HO,HB⟩
end Go.Proofs.YtmlebgikdegjjaaGreatDoor.Hd
