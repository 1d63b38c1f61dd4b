/- DiffChains, walked. -/
import Derived.Test.YtmlebgikdegjjaaGreatDoorDe
import Derived.Test.YtmlebgikdegjjaaGreatDoorDk
import Derived.Test.YtmlebgikdegjjaaGreatDoorSe
import Derived.Test.YtmlebgikdegjjaaGreatDoorPAllx3
set_option maxHeartbeats 16000000
set_option maxRecDepth 100000
namespace Go.Proofs.YtmlebgikdegjjaaGreatDoor.Hd
open Go.Maps Go.RowKit Go.Proofs.YtmlebgikdegjjaaGreatDoorW.PrintWords Go.Proofs.YtmlebgikdegjjaaGreatDoorW.PrintLast Go.Proofs.YtmlebgikdegjjaaGreatDoorW.PrintMore Go.Proofs.YtmlebgikdegjjaaGreatDoor.PAll
attribute [local go_sem] max2_int min2_int max_two min_two max_three min_three max_four min_four
set_option linter.unusedVariables false
set_option linter.unusedSimpArgs false
abbrev POk (k : Nat) (sp : ByteArray → Bool) (sd : List S34 → ByteArray → Bool) (sm : S34 → S34 → Bool) (key : S34 → ByteArray) (m : List S34) (l : List S82) : Prop :=
 l.length ≤ 60 ∧ (∀ x ∈ l,Edk k sp sd sm x) ∧ (∀ x ∈ l,x.f0.size ≤ maxLen ∧ ∀ a ∈ getM (mapK key m) x.f0,∀ b ∈ x.f1,def_Same.f k a.f0 a.f1 a.f2 a.f3 a.f4 a.f5 b.f0 b.f1 b.f2 b.f3 b.f4 b.f5 = some (sm a b)) ∧ rightO sp sd sm (some ⟨#[]⟩) l = true ∧ fitsB sm (mapK key m) l = true ∧
 (∀ x ∈ l,x.f0.size ≤ 1000000 ∧ x.f2.length ≤ 3 ∧ ∀ d ∈ x.f2,def_Key.f k d.f0 d.f1 d.f2 d.f3 d.f4 d.f5 = some (key d) ∧ 0 < (key d).size ∧ (key d).size ≤ 1000000 ∧ d.f3.length ≤ 1000000) ∧ diff_Keys.f k l = some (l.map (·.f0))
theorem SnR_of_ptr {w : World} {p : Option Addr} {M : DataW S34} (h : Sn w (.pointer p) M) (hp : p ≠ none) : SnR w (.pointer p) M:=by
 rcases h with ⟨h,_⟩ | h
 ·injection h with h
  exact absurd h hp
 ·exact h
theorem SnR_some {w : World} {p : Option Addr} {M : DataW S34} (h : SnR w (.pointer p) M) : p ≠ none:=by
 obtain ⟨g,b,h,_⟩:=h
 injection h with h
 rw [h]
 exact fun e=>by cases e
theorem chains_few0 (k : Nat) (w : World) (hmx : Nm.MaxOk w) (A0 : Option Addr) (c0 : Nat) (l0 : List S34) (A1 : Option Addr) (c1 : Nat) (l1 : List S34) (A2 : Option Addr) (c2 : Nat) (l2 : List S34) (hr0 : Kd.C k34 w A0 l0.length l0) (hc0 : l0.length ≤ c0) (hr1 : Kd.C k34 w A1 l1.length l1) (hc1 : l1.length ≤ c1) (hr2 : Kd.C k34 w A2 l2.length l2) (hc2 : l2.length ≤ c2) (hf0 : r07_Few.f k l0 8 = some false) :
  Calls Tryz.prog 11 #[.agg #[.slice A0 l0.length c0,.slice A1 l1.length c1,.slice A2 l2.length c2]] w fun e w'=>e = .returned (.bool true) ∧ Below w.heap.size w w':=by
 have HF0:=As.mk hf0
 clear hf0
 have HC0:=As.mk hc0
 have HC1:=As.mk hc1
 have HC2:=As.mk hc2
 go_enter Tryz.func11,Tryz.ntmps11
 go_upto_region 1 with (fail)
 have bk1:=blk_new w (Obj.cells #[.slice A0 l0.length c0,.slice A1 l1.length c1,.slice A2 l2.length c2] 58)
 have hb_:=bA (Below.refl w.heap.size w) (Obj.cells #[.slice A0 l0.length c0,.slice A1 l1.length c1,.slice A2 l2.length c2] 58)
 generalize w.alloc (Obj.cells #[.slice A0 l0.length c0,.slice A1 l1.length c1,.slice A2 l2.length c2] 58) = W1 at bk1 hb_ ⊢
 obtain ⟨g1,hg1⟩ : ∃ g1,g1 = w.heap.size:=⟨_,rfl⟩
 rw [← hg1] at bk1 ⊢
 have t0 : W1.cell? ⟨g1,0,none⟩ = some (.slice A0 l0.length c0):=(bC bk1 0).trans rfl
 have t1 : W1.cell? ⟨g1,1,none⟩ = some (.slice A1 l1.length c1):=(bC bk1 1).trans rfl
 have t2 : W1.cell? ⟨g1,2,none⟩ = some (.slice A2 l2.length c2):=(bC bk1 2).trans rfl
 have HB:=As.mk hb_
 have HMX:=As.mk (hmx.below hb_)
 have HR0:=As.mk (Kd.C_below hr0 hb_)
 have HR1:=As.mk (Kd.C_below hr1 hb_)
 have HR2:=As.mk (Kd.C_below hr2 hb_)
 clear hmx bk1 hb_ hg1 hr0 hc0 hr1 hc1 hr2 hc2
 go_wp2_with (first | (go_at_call 26;(with_reducible refine (awake09_calls _).mono ?_);rintro e wa ⟨rfl,hb_⟩;have n_HB:=As.mk (bS HB.out hb_);have n_HMX:=As.mk (HMX.out.below hb_);have n_HR0:=As.mk (Kd.C_below HR0.out hb_);have n_HR1:=As.mk (Kd.C_below HR1.out hb_);have n_HR2:=As.mk (Kd.C_below HR2.out hb_);have n_t0:=pC hb_ t0;have n_t1:=pC hb_ t1;have n_t2:=pC hb_ t2;clear hb_ t0 t1 t2 HB HMX HR0 HR1 HR2;have HB:=n_HB;have HMX:=n_HMX;have HR0:=n_HR0;have HR1:=n_HR1;have HR2:=n_HR2;have t0:=n_t0;have t1:=n_t1;have t2:=n_t2;clear n_t0 n_t1 n_t2 n_HB n_HMX n_HR0 n_HR1 n_HR2) | (go_at_call 16;(with_reducible refine (r07_Few.calls k A0 c0 l0 8 _ _ HR0.out HC0.out HF0.out).mono ?_);rintro e wb ⟨rfl,hb_⟩;have n_HB:=As.mk (bS HB.out hb_);have n_HMX:=As.mk (HMX.out.below hb_);have n_HR0:=As.mk (Kd.C_below HR0.out hb_);have n_HR1:=As.mk (Kd.C_below HR1.out hb_);have n_HR2:=As.mk (Kd.C_below HR2.out hb_);have n_t0:=pC hb_ t0;have n_t1:=pC hb_ t1;have n_t2:=pC hb_ t2;clear hb_ t0 t1 t2 HB HMX HR0 HR1 HR2;have HB:=n_HB;have HMX:=n_HMX;have HR0:=n_HR0;have HR1:=n_HR1;have HR2:=n_HR2;have t0:=n_t0;have t1:=n_t1;have t2:=n_t2;clear n_t0 n_t1 n_t2 n_HB n_HMX n_HR0 n_HR1 n_HR2))
 go_ret
 exact ⟨rfl,HB.out⟩
theorem chains_few1 (k : Nat) (w : World) (hmx : Nm.MaxOk w) (A0 : Option Addr) (c0 : Nat) (l0 : List S34) (A1 : Option Addr) (c1 : Nat) (l1 : List S34) (A2 : Option Addr) (c2 : Nat) (l2 : List S34) (hr0 : Kd.C k34 w A0 l0.length l0) (hc0 : l0.length ≤ c0) (hr1 : Kd.C k34 w A1 l1.length l1) (hc1 : l1.length ≤ c1) (hr2 : Kd.C k34 w A2 l2.length l2) (hc2 : l2.length ≤ c2) (hf0 : r07_Few.f k l0 8 = some true) (hf1 : r07_Few.f k l1 8 = some false) :
  Calls Tryz.prog 11 #[.agg #[.slice A0 l0.length c0,.slice A1 l1.length c1,.slice A2 l2.length c2]] w fun e w'=>e = .returned (.bool true) ∧ Below w.heap.size w w':=by
 have HF0:=As.mk hf0
 clear hf0
 have HF1:=As.mk hf1
 clear hf1
 have HC0:=As.mk hc0
 have HC1:=As.mk hc1
 have HC2:=As.mk hc2
 go_enter Tryz.func11,Tryz.ntmps11
 go_upto_region 1 with (fail)
 have bk1:=blk_new w (Obj.cells #[.slice A0 l0.length c0,.slice A1 l1.length c1,.slice A2 l2.length c2] 58)
 have hb_:=bA (Below.refl w.heap.size w) (Obj.cells #[.slice A0 l0.length c0,.slice A1 l1.length c1,.slice A2 l2.length c2] 58)
 generalize w.alloc (Obj.cells #[.slice A0 l0.length c0,.slice A1 l1.length c1,.slice A2 l2.length c2] 58) = W1 at bk1 hb_ ⊢
 obtain ⟨g1,hg1⟩ : ∃ g1,g1 = w.heap.size:=⟨_,rfl⟩
 rw [← hg1] at bk1 ⊢
 have t0 : W1.cell? ⟨g1,0,none⟩ = some (.slice A0 l0.length c0):=(bC bk1 0).trans rfl
 have t1 : W1.cell? ⟨g1,1,none⟩ = some (.slice A1 l1.length c1):=(bC bk1 1).trans rfl
 have t2 : W1.cell? ⟨g1,2,none⟩ = some (.slice A2 l2.length c2):=(bC bk1 2).trans rfl
 have HB:=As.mk hb_
 have HMX:=As.mk (hmx.below hb_)
 have HR0:=As.mk (Kd.C_below hr0 hb_)
 have HR1:=As.mk (Kd.C_below hr1 hb_)
 have HR2:=As.mk (Kd.C_below hr2 hb_)
 clear hmx bk1 hb_ hg1 hr0 hc0 hr1 hc1 hr2 hc2
 go_wp2_with (first | (go_at_call 26;(with_reducible refine (awake09_calls _).mono ?_);rintro e wa ⟨rfl,hb_⟩;have n_HB:=As.mk (bS HB.out hb_);have n_HMX:=As.mk (HMX.out.below hb_);have n_HR0:=As.mk (Kd.C_below HR0.out hb_);have n_HR1:=As.mk (Kd.C_below HR1.out hb_);have n_HR2:=As.mk (Kd.C_below HR2.out hb_);have n_t0:=pC hb_ t0;have n_t1:=pC hb_ t1;have n_t2:=pC hb_ t2;clear hb_ t0 t1 t2 HB HMX HR0 HR1 HR2;have HB:=n_HB;have HMX:=n_HMX;have HR0:=n_HR0;have HR1:=n_HR1;have HR2:=n_HR2;have t0:=n_t0;have t1:=n_t1;have t2:=n_t2;clear n_t0 n_t1 n_t2 n_HB n_HMX n_HR0 n_HR1 n_HR2) | (go_at_call 16;(with_reducible refine (r07_Few.calls k A0 c0 l0 8 _ _ HR0.out HC0.out HF0.out).mono ?_);rintro e wb ⟨rfl,hb_⟩;have n_HB:=As.mk (bS HB.out hb_);have n_HMX:=As.mk (HMX.out.below hb_);have n_HR0:=As.mk (Kd.C_below HR0.out hb_);have n_HR1:=As.mk (Kd.C_below HR1.out hb_);have n_HR2:=As.mk (Kd.C_below HR2.out hb_);have n_t0:=pC hb_ t0;have n_t1:=pC hb_ t1;have n_t2:=pC hb_ t2;clear hb_ t0 t1 t2 HB HMX HR0 HR1 HR2;have HB:=n_HB;have HMX:=n_HMX;have HR0:=n_HR0;have HR1:=n_HR1;have HR2:=n_HR2;have t0:=n_t0;have t1:=n_t1;have t2:=n_t2;clear n_t0 n_t1 n_t2 n_HB n_HMX n_HR0 n_HR1 n_HR2) | (go_at_call 16;(with_reducible refine (r07_Few.calls k A1 c1 l1 8 _ _ HR1.out HC1.out HF1.out).mono ?_);rintro e wb ⟨rfl,hb_⟩;have n_HB:=As.mk (bS HB.out hb_);have n_HMX:=As.mk (HMX.out.below hb_);have n_HR0:=As.mk (Kd.C_below HR0.out hb_);have n_HR1:=As.mk (Kd.C_below HR1.out hb_);have n_HR2:=As.mk (Kd.C_below HR2.out hb_);have n_t0:=pC hb_ t0;have n_t1:=pC hb_ t1;have n_t2:=pC hb_ t2;clear hb_ t0 t1 t2 HB HMX HR0 HR1 HR2;have HB:=n_HB;have HMX:=n_HMX;have HR0:=n_HR0;have HR1:=n_HR1;have HR2:=n_HR2;have t0:=n_t0;have t1:=n_t1;have t2:=n_t2;clear n_t0 n_t1 n_t2 n_HB n_HMX n_HR0 n_HR1 n_HR2))
 go_ret
 exact ⟨rfl,HB.out⟩
theorem chains_few2 (k : Nat) (w : World) (hmx : Nm.MaxOk w) (A0 : Option Addr) (c0 : Nat) (l0 : List S34) (A1 : Option Addr) (c1 : Nat) (l1 : List S34) (A2 : Option Addr) (c2 : Nat) (l2 : List S34) (hr0 : Kd.C k34 w A0 l0.length l0) (hc0 : l0.length ≤ c0) (hr1 : Kd.C k34 w A1 l1.length l1) (hc1 : l1.length ≤ c1) (hr2 : Kd.C k34 w A2 l2.length l2) (hc2 : l2.length ≤ c2) (hf0 : r07_Few.f k l0 8 = some true) (hf1 : r07_Few.f k l1 8 = some true) (hf2 : r07_Few.f k l2 8 = some false) :
  Calls Tryz.prog 11 #[.agg #[.slice A0 l0.length c0,.slice A1 l1.length c1,.slice A2 l2.length c2]] w fun e w'=>e = .returned (.bool true) ∧ Below w.heap.size w w':=by
 have HF0:=As.mk hf0
 clear hf0
 have HF1:=As.mk hf1
 clear hf1
 have HF2:=As.mk hf2
 clear hf2
 have HC0:=As.mk hc0
 have HC1:=As.mk hc1
 have HC2:=As.mk hc2
 go_enter Tryz.func11,Tryz.ntmps11
 go_upto_region 1 with (fail)
 have bk1:=blk_new w (Obj.cells #[.slice A0 l0.length c0,.slice A1 l1.length c1,.slice A2 l2.length c2] 58)
 have hb_:=bA (Below.refl w.heap.size w) (Obj.cells #[.slice A0 l0.length c0,.slice A1 l1.length c1,.slice A2 l2.length c2] 58)
 generalize w.alloc (Obj.cells #[.slice A0 l0.length c0,.slice A1 l1.length c1,.slice A2 l2.length c2] 58) = W1 at bk1 hb_ ⊢
 obtain ⟨g1,hg1⟩ : ∃ g1,g1 = w.heap.size:=⟨_,rfl⟩
 rw [← hg1] at bk1 ⊢
 have t0 : W1.cell? ⟨g1,0,none⟩ = some (.slice A0 l0.length c0):=(bC bk1 0).trans rfl
 have t1 : W1.cell? ⟨g1,1,none⟩ = some (.slice A1 l1.length c1):=(bC bk1 1).trans rfl
 have t2 : W1.cell? ⟨g1,2,none⟩ = some (.slice A2 l2.length c2):=(bC bk1 2).trans rfl
 have HB:=As.mk hb_
 have HMX:=As.mk (hmx.below hb_)
 have HR0:=As.mk (Kd.C_below hr0 hb_)
 have HR1:=As.mk (Kd.C_below hr1 hb_)
 have HR2:=As.mk (Kd.C_below hr2 hb_)
 clear hmx bk1 hb_ hg1 hr0 hc0 hr1 hc1 hr2 hc2
 go_wp2_with (first | (go_at_call 26;(with_reducible refine (awake09_calls _).mono ?_);rintro e wa ⟨rfl,hb_⟩;have n_HB:=As.mk (bS HB.out hb_);have n_HMX:=As.mk (HMX.out.below hb_);have n_HR0:=As.mk (Kd.C_below HR0.out hb_);have n_HR1:=As.mk (Kd.C_below HR1.out hb_);have n_HR2:=As.mk (Kd.C_below HR2.out hb_);have n_t0:=pC hb_ t0;have n_t1:=pC hb_ t1;have n_t2:=pC hb_ t2;clear hb_ t0 t1 t2 HB HMX HR0 HR1 HR2;have HB:=n_HB;have HMX:=n_HMX;have HR0:=n_HR0;have HR1:=n_HR1;have HR2:=n_HR2;have t0:=n_t0;have t1:=n_t1;have t2:=n_t2;clear n_t0 n_t1 n_t2 n_HB n_HMX n_HR0 n_HR1 n_HR2) | (go_at_call 16;(with_reducible refine (r07_Few.calls k A0 c0 l0 8 _ _ HR0.out HC0.out HF0.out).mono ?_);rintro e wb ⟨rfl,hb_⟩;have n_HB:=As.mk (bS HB.out hb_);have n_HMX:=As.mk (HMX.out.below hb_);have n_HR0:=As.mk (Kd.C_below HR0.out hb_);have n_HR1:=As.mk (Kd.C_below HR1.out hb_);have n_HR2:=As.mk (Kd.C_below HR2.out hb_);have n_t0:=pC hb_ t0;have n_t1:=pC hb_ t1;have n_t2:=pC hb_ t2;clear hb_ t0 t1 t2 HB HMX HR0 HR1 HR2;have HB:=n_HB;have HMX:=n_HMX;have HR0:=n_HR0;have HR1:=n_HR1;have HR2:=n_HR2;have t0:=n_t0;have t1:=n_t1;have t2:=n_t2;clear n_t0 n_t1 n_t2 n_HB n_HMX n_HR0 n_HR1 n_HR2) | (go_at_call 16;(with_reducible refine (r07_Few.calls k A1 c1 l1 8 _ _ HR1.out HC1.out HF1.out).mono ?_);rintro e wb ⟨rfl,hb_⟩;have n_HB:=As.mk (bS HB.out hb_);have n_HMX:=As.mk (HMX.out.below hb_);have n_HR0:=As.mk (Kd.C_below HR0.out hb_);have n_HR1:=As.mk (Kd.C_below HR1.out hb_);have n_HR2:=As.mk (Kd.C_below HR2.out hb_);have n_t0:=pC hb_ t0;have n_t1:=pC hb_ t1;have n_t2:=pC hb_ t2;clear hb_ t0 t1 t2 HB HMX HR0 HR1 HR2;have HB:=n_HB;have HMX:=n_HMX;have HR0:=n_HR0;have HR1:=n_HR1;have HR2:=n_HR2;have t0:=n_t0;have t1:=n_t1;have t2:=n_t2;clear n_t0 n_t1 n_t2 n_HB n_HMX n_HR0 n_HR1 n_HR2) | (go_at_call 16;(with_reducible refine (r07_Few.calls k A2 c2 l2 8 _ _ HR2.out HC2.out HF2.out).mono ?_);rintro e wb ⟨rfl,hb_⟩;have n_HB:=As.mk (bS HB.out hb_);have n_HMX:=As.mk (HMX.out.below hb_);have n_HR0:=As.mk (Kd.C_below HR0.out hb_);have n_HR1:=As.mk (Kd.C_below HR1.out hb_);have n_HR2:=As.mk (Kd.C_below HR2.out hb_);have n_t0:=pC hb_ t0;have n_t1:=pC hb_ t1;have n_t2:=pC hb_ t2;clear hb_ t0 t1 t2 HB HMX HR0 HR1 HR2;have HB:=n_HB;have HMX:=n_HMX;have HR0:=n_HR0;have HR1:=n_HR1;have HR2:=n_HR2;have t0:=n_t0;have t1:=n_t1;have t2:=n_t2;clear n_t0 n_t1 n_t2 n_HB n_HMX n_HR0 n_HR1 n_HR2))
 go_ret
 exact ⟨rfl,HB.out⟩
theorem chains_bad0 (key : S34 → ByteArray) (k : Nat) (w : World) (hmx : Nm.MaxOk w) (A0 : Option Addr) (c0 : Nat) (l0 : List S34) (A1 : Option Addr) (c1 : Nat) (l1 : List S34) (A2 : Option Addr) (c2 : Nat) (l2 : List S34) (hr0 : Kd.C k34 w A0 l0.length l0) (hc0 : l0.length ≤ c0) (hr1 : Kd.C k34 w A1 l1.length l1) (hc1 : l1.length ≤ c1) (hr2 : Kd.C k34 w A2 l2.length l2) (hc2 : l2.length ≤ c2) (hf0 : r07_Few.f k l0 8 = some true) (hf1 : r07_Few.f k l1 8 = some true) (hf2 : r07_Few.f k l2 8 = some true) (hl0 : l0.length ≤ 400) (hky0 : ∀ d ∈ l0,def_Key.f k d.f0 d.f1 d.f2 d.f3 d.f4 d.f5 = some (key d) ∧ (key d).size ≤ 1000000 ∧ d.f3.length ≤ 1000000) (hl1 : l1.length ≤ 400) (hky1 : ∀ d ∈ l1,def_Key.f k d.f0 d.f1 d.f2 d.f3 d.f4 d.f5 = some (key d) ∧ (key d).size ≤ 1000000 ∧ d.f3.length ≤ 1000000) (hl2 : l2.length ≤ 400) (hky2 : ∀ d ∈ l2,def_Key.f k d.f0 d.f1 d.f2 d.f3 d.f4 d.f5 = some (key d) ∧ (key d).size ≤ 1000000 ∧ d.f3.length ≤ 1000000) (M0 : DataW S34) (e0 : Int) (hn0 : newGo key l0 (.map []) = (M0,e0)) (M1 : DataW S34) (e1 : Int) (hn1 : newGo key l1 (.map []) = (M1,e1)) (M2 : DataW S34) (e2 : Int) (hn2 : newGo key l2 (.map []) = (M2,e2)) (he0 : e0 ≠ 0) :
  Calls Tryz.prog 11 #[.agg #[.slice A0 l0.length c0,.slice A1 l1.length c1,.slice A2 l2.length c2]] w fun e w'=>e = .returned (.bool true) ∧ Below w.heap.size w w':=by
 have HF0:=As.mk hf0
 have HL0:=As.mk hl0
 have HKY0:=As.mk hky0
 have HNG0:=As.mk hn0
 clear hf0 hl0 hky0 hn0
 have HF1:=As.mk hf1
 have HL1:=As.mk hl1
 have HKY1:=As.mk hky1
 have HNG1:=As.mk hn1
 clear hf1 hl1 hky1 hn1
 have HF2:=As.mk hf2
 have HL2:=As.mk hl2
 have HKY2:=As.mk hky2
 have HNG2:=As.mk hn2
 clear hf2 hl2 hky2 hn2
 have y0 : (e0 != 0) = true:=bne_iff_ne.mpr he0
 clear he0
 have HC0:=As.mk hc0
 have HC1:=As.mk hc1
 have HC2:=As.mk hc2
 go_enter Tryz.func11,Tryz.ntmps11
 go_upto_region 1 with (fail)
 have bk1:=blk_new w (Obj.cells #[.slice A0 l0.length c0,.slice A1 l1.length c1,.slice A2 l2.length c2] 58)
 have hb_:=bA (Below.refl w.heap.size w) (Obj.cells #[.slice A0 l0.length c0,.slice A1 l1.length c1,.slice A2 l2.length c2] 58)
 generalize w.alloc (Obj.cells #[.slice A0 l0.length c0,.slice A1 l1.length c1,.slice A2 l2.length c2] 58) = W1 at bk1 hb_ ⊢
 obtain ⟨g1,hg1⟩ : ∃ g1,g1 = w.heap.size:=⟨_,rfl⟩
 rw [← hg1] at bk1 ⊢
 have t0 : W1.cell? ⟨g1,0,none⟩ = some (.slice A0 l0.length c0):=(bC bk1 0).trans rfl
 have t1 : W1.cell? ⟨g1,1,none⟩ = some (.slice A1 l1.length c1):=(bC bk1 1).trans rfl
 have t2 : W1.cell? ⟨g1,2,none⟩ = some (.slice A2 l2.length c2):=(bC bk1 2).trans rfl
 have HB:=As.mk hb_
 have HMX:=As.mk (hmx.below hb_)
 have HR0:=As.mk (Kd.C_below hr0 hb_)
 have HR1:=As.mk (Kd.C_below hr1 hb_)
 have HR2:=As.mk (Kd.C_below hr2 hb_)
 clear hmx bk1 hb_ hg1 hr0 hc0 hr1 hc1 hr2 hc2
 go_wp2_with (first | (go_at_call 26;(with_reducible refine (awake09_calls _).mono ?_);rintro e wa ⟨rfl,hb_⟩;have n_HB:=As.mk (bS HB.out hb_);have n_HMX:=As.mk (HMX.out.below hb_);have n_HR0:=As.mk (Kd.C_below HR0.out hb_);have n_HR1:=As.mk (Kd.C_below HR1.out hb_);have n_HR2:=As.mk (Kd.C_below HR2.out hb_);have n_t0:=pC hb_ t0;have n_t1:=pC hb_ t1;have n_t2:=pC hb_ t2;clear hb_ t0 t1 t2 HB HMX HR0 HR1 HR2;have HB:=n_HB;have HMX:=n_HMX;have HR0:=n_HR0;have HR1:=n_HR1;have HR2:=n_HR2;have t0:=n_t0;have t1:=n_t1;have t2:=n_t2;clear n_t0 n_t1 n_t2 n_HB n_HMX n_HR0 n_HR1 n_HR2) | (go_at_call 16;(with_reducible refine (r07_Few.calls k A0 c0 l0 8 _ _ HR0.out HC0.out HF0.out).mono ?_);rintro e wb ⟨rfl,hb_⟩;have n_HB:=As.mk (bS HB.out hb_);have n_HMX:=As.mk (HMX.out.below hb_);have n_HR0:=As.mk (Kd.C_below HR0.out hb_);have n_HR1:=As.mk (Kd.C_below HR1.out hb_);have n_HR2:=As.mk (Kd.C_below HR2.out hb_);have n_t0:=pC hb_ t0;have n_t1:=pC hb_ t1;have n_t2:=pC hb_ t2;clear hb_ t0 t1 t2 HB HMX HR0 HR1 HR2;have HB:=n_HB;have HMX:=n_HMX;have HR0:=n_HR0;have HR1:=n_HR1;have HR2:=n_HR2;have t0:=n_t0;have t1:=n_t1;have t2:=n_t2;clear n_t0 n_t1 n_t2 n_HB n_HMX n_HR0 n_HR1 n_HR2) | (go_at_call 16;(with_reducible refine (r07_Few.calls k A1 c1 l1 8 _ _ HR1.out HC1.out HF1.out).mono ?_);rintro e wb ⟨rfl,hb_⟩;have n_HB:=As.mk (bS HB.out hb_);have n_HMX:=As.mk (HMX.out.below hb_);have n_HR0:=As.mk (Kd.C_below HR0.out hb_);have n_HR1:=As.mk (Kd.C_below HR1.out hb_);have n_HR2:=As.mk (Kd.C_below HR2.out hb_);have n_t0:=pC hb_ t0;have n_t1:=pC hb_ t1;have n_t2:=pC hb_ t2;clear hb_ t0 t1 t2 HB HMX HR0 HR1 HR2;have HB:=n_HB;have HMX:=n_HMX;have HR0:=n_HR0;have HR1:=n_HR1;have HR2:=n_HR2;have t0:=n_t0;have t1:=n_t1;have t2:=n_t2;clear n_t0 n_t1 n_t2 n_HB n_HMX n_HR0 n_HR1 n_HR2) | (go_at_call 16;(with_reducible refine (r07_Few.calls k A2 c2 l2 8 _ _ HR2.out HC2.out HF2.out).mono ?_);rintro e wb ⟨rfl,hb_⟩;have n_HB:=As.mk (bS HB.out hb_);have n_HMX:=As.mk (HMX.out.below hb_);have n_HR0:=As.mk (Kd.C_below HR0.out hb_);have n_HR1:=As.mk (Kd.C_below HR1.out hb_);have n_HR2:=As.mk (Kd.C_below HR2.out hb_);have n_t0:=pC hb_ t0;have n_t1:=pC hb_ t1;have n_t2:=pC hb_ t2;clear hb_ t0 t1 t2 HB HMX HR0 HR1 HR2;have HB:=n_HB;have HMX:=n_HMX;have HR0:=n_HR0;have HR1:=n_HR1;have HR2:=n_HR2;have t0:=n_t0;have t1:=n_t1;have t2:=n_t2;clear n_t0 n_t1 n_t2 n_HB n_HMX n_HR0 n_HR1 n_HR2) | (go_at_call 17;(with_reducible refine (new_gen key k A0 c0 l0 _ M0 e0 HR0.out HC0.out HL0.out HKY0.out HNG0.out).mono ?_);rintro e wn ⟨p0,rfl,hg_,hbad_,hb_⟩;have n_HB:=As.mk (bS HB.out hb_);have n_HMX:=As.mk (HMX.out.below hb_);have n_HR0:=As.mk (Kd.C_below HR0.out hb_);have n_HR1:=As.mk (Kd.C_below HR1.out hb_);have n_HR2:=As.mk (Kd.C_below HR2.out hb_);have n_t0:=pC hb_ t0;have n_t1:=pC hb_ t1;have n_t2:=pC hb_ t2;clear hb_ t0 t1 t2 HB HMX HR0 HR1 HR2;have HB:=n_HB;have HMX:=n_HMX;have HR0:=n_HR0;have HR1:=n_HR1;have HR2:=n_HR2;have t0:=n_t0;have t1:=n_t1;have t2:=n_t2;clear n_t0 n_t1 n_t2 n_HB n_HMX n_HR0 n_HR1 n_HR2;clear hg_ hbad_) | (go_at_call 17;(with_reducible refine (new_gen key k A1 c1 l1 _ M1 e1 HR1.out HC1.out HL1.out HKY1.out HNG1.out).mono ?_);rintro e wn ⟨p1,rfl,hg_,hbad_,hb_⟩;have n_HB:=As.mk (bS HB.out hb_);have n_HMX:=As.mk (HMX.out.below hb_);have n_HR0:=As.mk (Kd.C_below HR0.out hb_);have n_HR1:=As.mk (Kd.C_below HR1.out hb_);have n_HR2:=As.mk (Kd.C_below HR2.out hb_);have n_t0:=pC hb_ t0;have n_t1:=pC hb_ t1;have n_t2:=pC hb_ t2;clear hb_ t0 t1 t2 HB HMX HR0 HR1 HR2;have HB:=n_HB;have HMX:=n_HMX;have HR0:=n_HR0;have HR1:=n_HR1;have HR2:=n_HR2;have t0:=n_t0;have t1:=n_t1;have t2:=n_t2;clear n_t0 n_t1 n_t2 n_HB n_HMX n_HR0 n_HR1 n_HR2;clear hg_ hbad_) | (go_at_call 17;(with_reducible refine (new_gen key k A2 c2 l2 _ M2 e2 HR2.out HC2.out HL2.out HKY2.out HNG2.out).mono ?_);rintro e wn ⟨p2,rfl,hg_,hbad_,hb_⟩;have n_HB:=As.mk (bS HB.out hb_);have n_HMX:=As.mk (HMX.out.below hb_);have n_HR0:=As.mk (Kd.C_below HR0.out hb_);have n_HR1:=As.mk (Kd.C_below HR1.out hb_);have n_HR2:=As.mk (Kd.C_below HR2.out hb_);have n_t0:=pC hb_ t0;have n_t1:=pC hb_ t1;have n_t2:=pC hb_ t2;clear hb_ t0 t1 t2 HB HMX HR0 HR1 HR2;have HB:=n_HB;have HMX:=n_HMX;have HR0:=n_HR0;have HR1:=n_HR1;have HR2:=n_HR2;have t0:=n_t0;have t1:=n_t1;have t2:=n_t2;clear n_t0 n_t1 n_t2 n_HB n_HMX n_HR0 n_HR1 n_HR2;clear hg_ hbad_))
 go_ret
 exact ⟨rfl,HB.out⟩
theorem chains_bad1 (key : S34 → ByteArray) (k : Nat) (w : World) (hmx : Nm.MaxOk w) (A0 : Option Addr) (c0 : Nat) (l0 : List S34) (A1 : Option Addr) (c1 : Nat) (l1 : List S34) (A2 : Option Addr) (c2 : Nat) (l2 : List S34) (hr0 : Kd.C k34 w A0 l0.length l0) (hc0 : l0.length ≤ c0) (hr1 : Kd.C k34 w A1 l1.length l1) (hc1 : l1.length ≤ c1) (hr2 : Kd.C k34 w A2 l2.length l2) (hc2 : l2.length ≤ c2) (hf0 : r07_Few.f k l0 8 = some true) (hf1 : r07_Few.f k l1 8 = some true) (hf2 : r07_Few.f k l2 8 = some true) (hl0 : l0.length ≤ 400) (hky0 : ∀ d ∈ l0,def_Key.f k d.f0 d.f1 d.f2 d.f3 d.f4 d.f5 = some (key d) ∧ (key d).size ≤ 1000000 ∧ d.f3.length ≤ 1000000) (hl1 : l1.length ≤ 400) (hky1 : ∀ d ∈ l1,def_Key.f k d.f0 d.f1 d.f2 d.f3 d.f4 d.f5 = some (key d) ∧ (key d).size ≤ 1000000 ∧ d.f3.length ≤ 1000000) (hl2 : l2.length ≤ 400) (hky2 : ∀ d ∈ l2,def_Key.f k d.f0 d.f1 d.f2 d.f3 d.f4 d.f5 = some (key d) ∧ (key d).size ≤ 1000000 ∧ d.f3.length ≤ 1000000) (M0 : DataW S34) (e0 : Int) (hn0 : newGo key l0 (.map []) = (M0,e0)) (M1 : DataW S34) (e1 : Int) (hn1 : newGo key l1 (.map []) = (M1,e1)) (M2 : DataW S34) (e2 : Int) (hn2 : newGo key l2 (.map []) = (M2,e2)) (he0 : e0 = 0) (he1 : e1 ≠ 0) :
  Calls Tryz.prog 11 #[.agg #[.slice A0 l0.length c0,.slice A1 l1.length c1,.slice A2 l2.length c2]] w fun e w'=>e = .returned (.bool true) ∧ Below w.heap.size w w':=by
 have HF0:=As.mk hf0
 have HL0:=As.mk hl0
 have HKY0:=As.mk hky0
 have HNG0:=As.mk hn0
 clear hf0 hl0 hky0 hn0
 have HF1:=As.mk hf1
 have HL1:=As.mk hl1
 have HKY1:=As.mk hky1
 have HNG1:=As.mk hn1
 clear hf1 hl1 hky1 hn1
 have HF2:=As.mk hf2
 have HL2:=As.mk hl2
 have HKY2:=As.mk hky2
 have HNG2:=As.mk hn2
 clear hf2 hl2 hky2 hn2
 have y0 : (e0 != 0) = false:=bne_eq_false_iff_eq.mpr he0
 clear he0
 have y1 : (e1 != 0) = true:=bne_iff_ne.mpr he1
 clear he1
 have HC0:=As.mk hc0
 have HC1:=As.mk hc1
 have HC2:=As.mk hc2
 go_enter Tryz.func11,Tryz.ntmps11
 go_upto_region 1 with (fail)
 have bk1:=blk_new w (Obj.cells #[.slice A0 l0.length c0,.slice A1 l1.length c1,.slice A2 l2.length c2] 58)
 have hb_:=bA (Below.refl w.heap.size w) (Obj.cells #[.slice A0 l0.length c0,.slice A1 l1.length c1,.slice A2 l2.length c2] 58)
 generalize w.alloc (Obj.cells #[.slice A0 l0.length c0,.slice A1 l1.length c1,.slice A2 l2.length c2] 58) = W1 at bk1 hb_ ⊢
 obtain ⟨g1,hg1⟩ : ∃ g1,g1 = w.heap.size:=⟨_,rfl⟩
 rw [← hg1] at bk1 ⊢
 have t0 : W1.cell? ⟨g1,0,none⟩ = some (.slice A0 l0.length c0):=(bC bk1 0).trans rfl
 have t1 : W1.cell? ⟨g1,1,none⟩ = some (.slice A1 l1.length c1):=(bC bk1 1).trans rfl
 have t2 : W1.cell? ⟨g1,2,none⟩ = some (.slice A2 l2.length c2):=(bC bk1 2).trans rfl
 have HB:=As.mk hb_
 have HMX:=As.mk (hmx.below hb_)
 have HR0:=As.mk (Kd.C_below hr0 hb_)
 have HR1:=As.mk (Kd.C_below hr1 hb_)
 have HR2:=As.mk (Kd.C_below hr2 hb_)
 clear hmx bk1 hb_ hg1 hr0 hc0 hr1 hc1 hr2 hc2
 go_wp2_with (first | (go_at_call 26;(with_reducible refine (awake09_calls _).mono ?_);rintro e wa ⟨rfl,hb_⟩;have n_HB:=As.mk (bS HB.out hb_);have n_HMX:=As.mk (HMX.out.below hb_);have n_HR0:=As.mk (Kd.C_below HR0.out hb_);have n_HR1:=As.mk (Kd.C_below HR1.out hb_);have n_HR2:=As.mk (Kd.C_below HR2.out hb_);have n_t0:=pC hb_ t0;have n_t1:=pC hb_ t1;have n_t2:=pC hb_ t2;clear hb_ t0 t1 t2 HB HMX HR0 HR1 HR2;have HB:=n_HB;have HMX:=n_HMX;have HR0:=n_HR0;have HR1:=n_HR1;have HR2:=n_HR2;have t0:=n_t0;have t1:=n_t1;have t2:=n_t2;clear n_t0 n_t1 n_t2 n_HB n_HMX n_HR0 n_HR1 n_HR2) | (go_at_call 16;(with_reducible refine (r07_Few.calls k A0 c0 l0 8 _ _ HR0.out HC0.out HF0.out).mono ?_);rintro e wb ⟨rfl,hb_⟩;have n_HB:=As.mk (bS HB.out hb_);have n_HMX:=As.mk (HMX.out.below hb_);have n_HR0:=As.mk (Kd.C_below HR0.out hb_);have n_HR1:=As.mk (Kd.C_below HR1.out hb_);have n_HR2:=As.mk (Kd.C_below HR2.out hb_);have n_t0:=pC hb_ t0;have n_t1:=pC hb_ t1;have n_t2:=pC hb_ t2;clear hb_ t0 t1 t2 HB HMX HR0 HR1 HR2;have HB:=n_HB;have HMX:=n_HMX;have HR0:=n_HR0;have HR1:=n_HR1;have HR2:=n_HR2;have t0:=n_t0;have t1:=n_t1;have t2:=n_t2;clear n_t0 n_t1 n_t2 n_HB n_HMX n_HR0 n_HR1 n_HR2) | (go_at_call 16;(with_reducible refine (r07_Few.calls k A1 c1 l1 8 _ _ HR1.out HC1.out HF1.out).mono ?_);rintro e wb ⟨rfl,hb_⟩;have n_HB:=As.mk (bS HB.out hb_);have n_HMX:=As.mk (HMX.out.below hb_);have n_HR0:=As.mk (Kd.C_below HR0.out hb_);have n_HR1:=As.mk (Kd.C_below HR1.out hb_);have n_HR2:=As.mk (Kd.C_below HR2.out hb_);have n_t0:=pC hb_ t0;have n_t1:=pC hb_ t1;have n_t2:=pC hb_ t2;clear hb_ t0 t1 t2 HB HMX HR0 HR1 HR2;have HB:=n_HB;have HMX:=n_HMX;have HR0:=n_HR0;have HR1:=n_HR1;have HR2:=n_HR2;have t0:=n_t0;have t1:=n_t1;have t2:=n_t2;clear n_t0 n_t1 n_t2 n_HB n_HMX n_HR0 n_HR1 n_HR2) | (go_at_call 16;(with_reducible refine (r07_Few.calls k A2 c2 l2 8 _ _ HR2.out HC2.out HF2.out).mono ?_);rintro e wb ⟨rfl,hb_⟩;have n_HB:=As.mk (bS HB.out hb_);have n_HMX:=As.mk (HMX.out.below hb_);have n_HR0:=As.mk (Kd.C_below HR0.out hb_);have n_HR1:=As.mk (Kd.C_below HR1.out hb_);have n_HR2:=As.mk (Kd.C_below HR2.out hb_);have n_t0:=pC hb_ t0;have n_t1:=pC hb_ t1;have n_t2:=pC hb_ t2;clear hb_ t0 t1 t2 HB HMX HR0 HR1 HR2;have HB:=n_HB;have HMX:=n_HMX;have HR0:=n_HR0;have HR1:=n_HR1;have HR2:=n_HR2;have t0:=n_t0;have t1:=n_t1;have t2:=n_t2;clear n_t0 n_t1 n_t2 n_HB n_HMX n_HR0 n_HR1 n_HR2) | (go_at_call 17;(with_reducible refine (new_gen key k A0 c0 l0 _ M0 e0 HR0.out HC0.out HL0.out HKY0.out HNG0.out).mono ?_);rintro e wn ⟨p0,rfl,hg_,hbad_,hb_⟩;have n_HB:=As.mk (bS HB.out hb_);have n_HMX:=As.mk (HMX.out.below hb_);have n_HR0:=As.mk (Kd.C_below HR0.out hb_);have n_HR1:=As.mk (Kd.C_below HR1.out hb_);have n_HR2:=As.mk (Kd.C_below HR2.out hb_);have n_t0:=pC hb_ t0;have n_t1:=pC hb_ t1;have n_t2:=pC hb_ t2;clear hb_ t0 t1 t2 HB HMX HR0 HR1 HR2;have HB:=n_HB;have HMX:=n_HMX;have HR0:=n_HR0;have HR1:=n_HR1;have HR2:=n_HR2;have t0:=n_t0;have t1:=n_t1;have t2:=n_t2;clear n_t0 n_t1 n_t2 n_HB n_HMX n_HR0 n_HR1 n_HR2;clear hg_ hbad_) | (go_at_call 17;(with_reducible refine (new_gen key k A1 c1 l1 _ M1 e1 HR1.out HC1.out HL1.out HKY1.out HNG1.out).mono ?_);rintro e wn ⟨p1,rfl,hg_,hbad_,hb_⟩;have n_HB:=As.mk (bS HB.out hb_);have n_HMX:=As.mk (HMX.out.below hb_);have n_HR0:=As.mk (Kd.C_below HR0.out hb_);have n_HR1:=As.mk (Kd.C_below HR1.out hb_);have n_HR2:=As.mk (Kd.C_below HR2.out hb_);have n_t0:=pC hb_ t0;have n_t1:=pC hb_ t1;have n_t2:=pC hb_ t2;clear hb_ t0 t1 t2 HB HMX HR0 HR1 HR2;have HB:=n_HB;have HMX:=n_HMX;have HR0:=n_HR0;have HR1:=n_HR1;have HR2:=n_HR2;have t0:=n_t0;have t1:=n_t1;have t2:=n_t2;clear n_t0 n_t1 n_t2 n_HB n_HMX n_HR0 n_HR1 n_HR2;clear hg_ hbad_) | (go_at_call 17;(with_reducible refine (new_gen key k A2 c2 l2 _ M2 e2 HR2.out HC2.out HL2.out HKY2.out HNG2.out).mono ?_);rintro e wn ⟨p2,rfl,hg_,hbad_,hb_⟩;have n_HB:=As.mk (bS HB.out hb_);have n_HMX:=As.mk (HMX.out.below hb_);have n_HR0:=As.mk (Kd.C_below HR0.out hb_);have n_HR1:=As.mk (Kd.C_below HR1.out hb_);have n_HR2:=As.mk (Kd.C_below HR2.out hb_);have n_t0:=pC hb_ t0;have n_t1:=pC hb_ t1;have n_t2:=pC hb_ t2;clear hb_ t0 t1 t2 HB HMX HR0 HR1 HR2;have HB:=n_HB;have HMX:=n_HMX;have HR0:=n_HR0;have HR1:=n_HR1;have HR2:=n_HR2;have t0:=n_t0;have t1:=n_t1;have t2:=n_t2;clear n_t0 n_t1 n_t2 n_HB n_HMX n_HR0 n_HR1 n_HR2;clear hg_ hbad_))
 go_ret
 exact ⟨rfl,HB.out⟩
theorem chains_bad2 (key : S34 → ByteArray) (k : Nat) (w : World) (hmx : Nm.MaxOk w) (A0 : Option Addr) (c0 : Nat) (l0 : List S34) (A1 : Option Addr) (c1 : Nat) (l1 : List S34) (A2 : Option Addr) (c2 : Nat) (l2 : List S34) (hr0 : Kd.C k34 w A0 l0.length l0) (hc0 : l0.length ≤ c0) (hr1 : Kd.C k34 w A1 l1.length l1) (hc1 : l1.length ≤ c1) (hr2 : Kd.C k34 w A2 l2.length l2) (hc2 : l2.length ≤ c2) (hf0 : r07_Few.f k l0 8 = some true) (hf1 : r07_Few.f k l1 8 = some true) (hf2 : r07_Few.f k l2 8 = some true) (hl0 : l0.length ≤ 400) (hky0 : ∀ d ∈ l0,def_Key.f k d.f0 d.f1 d.f2 d.f3 d.f4 d.f5 = some (key d) ∧ (key d).size ≤ 1000000 ∧ d.f3.length ≤ 1000000) (hl1 : l1.length ≤ 400) (hky1 : ∀ d ∈ l1,def_Key.f k d.f0 d.f1 d.f2 d.f3 d.f4 d.f5 = some (key d) ∧ (key d).size ≤ 1000000 ∧ d.f3.length ≤ 1000000) (hl2 : l2.length ≤ 400) (hky2 : ∀ d ∈ l2,def_Key.f k d.f0 d.f1 d.f2 d.f3 d.f4 d.f5 = some (key d) ∧ (key d).size ≤ 1000000 ∧ d.f3.length ≤ 1000000) (M0 : DataW S34) (e0 : Int) (hn0 : newGo key l0 (.map []) = (M0,e0)) (M1 : DataW S34) (e1 : Int) (hn1 : newGo key l1 (.map []) = (M1,e1)) (M2 : DataW S34) (e2 : Int) (hn2 : newGo key l2 (.map []) = (M2,e2)) (he0 : e0 = 0) (he1 : e1 = 0) (he2 : e2 ≠ 0) :
  Calls Tryz.prog 11 #[.agg #[.slice A0 l0.length c0,.slice A1 l1.length c1,.slice A2 l2.length c2]] w fun e w'=>e = .returned (.bool true) ∧ Below w.heap.size w w':=by
 have HF0:=As.mk hf0
 have HL0:=As.mk hl0
 have HKY0:=As.mk hky0
 have HNG0:=As.mk hn0
 clear hf0 hl0 hky0 hn0
 have HF1:=As.mk hf1
 have HL1:=As.mk hl1
 have HKY1:=As.mk hky1
 have HNG1:=As.mk hn1
 clear hf1 hl1 hky1 hn1
 have HF2:=As.mk hf2
 have HL2:=As.mk hl2
 have HKY2:=As.mk hky2
 have HNG2:=As.mk hn2
 clear hf2 hl2 hky2 hn2
 have y0 : (e0 != 0) = false:=bne_eq_false_iff_eq.mpr he0
 clear he0
 have y1 : (e1 != 0) = false:=bne_eq_false_iff_eq.mpr he1
 clear he1
 have y2 : (e2 != 0) = true:=bne_iff_ne.mpr he2
 clear he2
 have HC0:=As.mk hc0
 have HC1:=As.mk hc1
 have HC2:=As.mk hc2
 go_enter Tryz.func11,Tryz.ntmps11
 go_upto_region 1 with (fail)
 have bk1:=blk_new w (Obj.cells #[.slice A0 l0.length c0,.slice A1 l1.length c1,.slice A2 l2.length c2] 58)
 have hb_:=bA (Below.refl w.heap.size w) (Obj.cells #[.slice A0 l0.length c0,.slice A1 l1.length c1,.slice A2 l2.length c2] 58)
 generalize w.alloc (Obj.cells #[.slice A0 l0.length c0,.slice A1 l1.length c1,.slice A2 l2.length c2] 58) = W1 at bk1 hb_ ⊢
 obtain ⟨g1,hg1⟩ : ∃ g1,g1 = w.heap.size:=⟨_,rfl⟩
 rw [← hg1] at bk1 ⊢
 have t0 : W1.cell? ⟨g1,0,none⟩ = some (.slice A0 l0.length c0):=(bC bk1 0).trans rfl
 have t1 : W1.cell? ⟨g1,1,none⟩ = some (.slice A1 l1.length c1):=(bC bk1 1).trans rfl
 have t2 : W1.cell? ⟨g1,2,none⟩ = some (.slice A2 l2.length c2):=(bC bk1 2).trans rfl
 have HB:=As.mk hb_
 have HMX:=As.mk (hmx.below hb_)
 have HR0:=As.mk (Kd.C_below hr0 hb_)
 have HR1:=As.mk (Kd.C_below hr1 hb_)
 have HR2:=As.mk (Kd.C_below hr2 hb_)
 clear hmx bk1 hb_ hg1 hr0 hc0 hr1 hc1 hr2 hc2
 go_wp2_with (first | (go_at_call 26;(with_reducible refine (awake09_calls _).mono ?_);rintro e wa ⟨rfl,hb_⟩;have n_HB:=As.mk (bS HB.out hb_);have n_HMX:=As.mk (HMX.out.below hb_);have n_HR0:=As.mk (Kd.C_below HR0.out hb_);have n_HR1:=As.mk (Kd.C_below HR1.out hb_);have n_HR2:=As.mk (Kd.C_below HR2.out hb_);have n_t0:=pC hb_ t0;have n_t1:=pC hb_ t1;have n_t2:=pC hb_ t2;clear hb_ t0 t1 t2 HB HMX HR0 HR1 HR2;have HB:=n_HB;have HMX:=n_HMX;have HR0:=n_HR0;have HR1:=n_HR1;have HR2:=n_HR2;have t0:=n_t0;have t1:=n_t1;have t2:=n_t2;clear n_t0 n_t1 n_t2 n_HB n_HMX n_HR0 n_HR1 n_HR2) | (go_at_call 16;(with_reducible refine (r07_Few.calls k A0 c0 l0 8 _ _ HR0.out HC0.out HF0.out).mono ?_);rintro e wb ⟨rfl,hb_⟩;have n_HB:=As.mk (bS HB.out hb_);have n_HMX:=As.mk (HMX.out.below hb_);have n_HR0:=As.mk (Kd.C_below HR0.out hb_);have n_HR1:=As.mk (Kd.C_below HR1.out hb_);have n_HR2:=As.mk (Kd.C_below HR2.out hb_);have n_t0:=pC hb_ t0;have n_t1:=pC hb_ t1;have n_t2:=pC hb_ t2;clear hb_ t0 t1 t2 HB HMX HR0 HR1 HR2;have HB:=n_HB;have HMX:=n_HMX;have HR0:=n_HR0;have HR1:=n_HR1;have HR2:=n_HR2;have t0:=n_t0;have t1:=n_t1;have t2:=n_t2;clear n_t0 n_t1 n_t2 n_HB n_HMX n_HR0 n_HR1 n_HR2) | (go_at_call 16;(with_reducible refine (r07_Few.calls k A1 c1 l1 8 _ _ HR1.out HC1.out HF1.out).mono ?_);rintro e wb ⟨rfl,hb_⟩;have n_HB:=As.mk (bS HB.out hb_);have n_HMX:=As.mk (HMX.out.below hb_);have n_HR0:=As.mk (Kd.C_below HR0.out hb_);have n_HR1:=As.mk (Kd.C_below HR1.out hb_);have n_HR2:=As.mk (Kd.C_below HR2.out hb_);have n_t0:=pC hb_ t0;have n_t1:=pC hb_ t1;have n_t2:=pC hb_ t2;clear hb_ t0 t1 t2 HB HMX HR0 HR1 HR2;have HB:=n_HB;have HMX:=n_HMX;have HR0:=n_HR0;have HR1:=n_HR1;have HR2:=n_HR2;have t0:=n_t0;have t1:=n_t1;have t2:=n_t2;clear n_t0 n_t1 n_t2 n_HB n_HMX n_HR0 n_HR1 n_HR2) | (go_at_call 16;(with_reducible refine (r07_Few.calls k A2 c2 l2 8 _ _ HR2.out HC2.out HF2.out).mono ?_);rintro e wb ⟨rfl,hb_⟩;have n_HB:=As.mk (bS HB.out hb_);have n_HMX:=As.mk (HMX.out.below hb_);have n_HR0:=As.mk (Kd.C_below HR0.out hb_);have n_HR1:=As.mk (Kd.C_below HR1.out hb_);have n_HR2:=As.mk (Kd.C_below HR2.out hb_);have n_t0:=pC hb_ t0;have n_t1:=pC hb_ t1;have n_t2:=pC hb_ t2;clear hb_ t0 t1 t2 HB HMX HR0 HR1 HR2;have HB:=n_HB;have HMX:=n_HMX;have HR0:=n_HR0;have HR1:=n_HR1;have HR2:=n_HR2;have t0:=n_t0;have t1:=n_t1;have t2:=n_t2;clear n_t0 n_t1 n_t2 n_HB n_HMX n_HR0 n_HR1 n_HR2) | (go_at_call 17;(with_reducible refine (new_gen key k A0 c0 l0 _ M0 e0 HR0.out HC0.out HL0.out HKY0.out HNG0.out).mono ?_);rintro e wn ⟨p0,rfl,hg_,hbad_,hb_⟩;have n_HB:=As.mk (bS HB.out hb_);have n_HMX:=As.mk (HMX.out.below hb_);have n_HR0:=As.mk (Kd.C_below HR0.out hb_);have n_HR1:=As.mk (Kd.C_below HR1.out hb_);have n_HR2:=As.mk (Kd.C_below HR2.out hb_);have n_t0:=pC hb_ t0;have n_t1:=pC hb_ t1;have n_t2:=pC hb_ t2;clear hb_ t0 t1 t2 HB HMX HR0 HR1 HR2;have HB:=n_HB;have HMX:=n_HMX;have HR0:=n_HR0;have HR1:=n_HR1;have HR2:=n_HR2;have t0:=n_t0;have t1:=n_t1;have t2:=n_t2;clear n_t0 n_t1 n_t2 n_HB n_HMX n_HR0 n_HR1 n_HR2;clear hg_ hbad_) | (go_at_call 17;(with_reducible refine (new_gen key k A1 c1 l1 _ M1 e1 HR1.out HC1.out HL1.out HKY1.out HNG1.out).mono ?_);rintro e wn ⟨p1,rfl,hg_,hbad_,hb_⟩;have n_HB:=As.mk (bS HB.out hb_);have n_HMX:=As.mk (HMX.out.below hb_);have n_HR0:=As.mk (Kd.C_below HR0.out hb_);have n_HR1:=As.mk (Kd.C_below HR1.out hb_);have n_HR2:=As.mk (Kd.C_below HR2.out hb_);have n_t0:=pC hb_ t0;have n_t1:=pC hb_ t1;have n_t2:=pC hb_ t2;clear hb_ t0 t1 t2 HB HMX HR0 HR1 HR2;have HB:=n_HB;have HMX:=n_HMX;have HR0:=n_HR0;have HR1:=n_HR1;have HR2:=n_HR2;have t0:=n_t0;have t1:=n_t1;have t2:=n_t2;clear n_t0 n_t1 n_t2 n_HB n_HMX n_HR0 n_HR1 n_HR2;clear hg_ hbad_) | (go_at_call 17;(with_reducible refine (new_gen key k A2 c2 l2 _ M2 e2 HR2.out HC2.out HL2.out HKY2.out HNG2.out).mono ?_);rintro e wn ⟨p2,rfl,hg_,hbad_,hb_⟩;have n_HB:=As.mk (bS HB.out hb_);have n_HMX:=As.mk (HMX.out.below hb_);have n_HR0:=As.mk (Kd.C_below HR0.out hb_);have n_HR1:=As.mk (Kd.C_below HR1.out hb_);have n_HR2:=As.mk (Kd.C_below HR2.out hb_);have n_t0:=pC hb_ t0;have n_t1:=pC hb_ t1;have n_t2:=pC hb_ t2;clear hb_ t0 t1 t2 HB HMX HR0 HR1 HR2;have HB:=n_HB;have HMX:=n_HMX;have HR0:=n_HR0;have HR1:=n_HR1;have HR2:=n_HR2;have t0:=n_t0;have t1:=n_t1;have t2:=n_t2;clear n_t0 n_t1 n_t2 n_HB n_HMX n_HR0 n_HR1 n_HR2;clear hg_ hbad_))
 go_ret
 exact ⟨rfl,HB.out⟩
theorem chains_go (sm : S34 → S34 → Bool) (sp : ByteArray → Bool) (sd : List S34 → ByteArray → Bool) (key : S34 → ByteArray) (k : Nat) (w : World) (hmx : Nm.MaxOk w) (A0 : Option Addr) (c0 : Nat) (l0 : List S34) (A1 : Option Addr) (c1 : Nat) (l1 : List S34) (A2 : Option Addr) (c2 : Nat) (l2 : List S34) (hr0 : Kd.C k34 w A0 l0.length l0) (hc0 : l0.length ≤ c0) (hr1 : Kd.C k34 w A1 l1.length l1) (hc1 : l1.length ≤ c1) (hr2 : Kd.C k34 w A2 l2.length l2) (hc2 : l2.length ≤ c2) (hf0 : r07_Few.f k l0 8 = some true) (hf1 : r07_Few.f k l1 8 = some true) (hf2 : r07_Few.f k l2 8 = some true) (hl0 : l0.length ≤ 400) (hky0 : ∀ d ∈ l0,def_Key.f k d.f0 d.f1 d.f2 d.f3 d.f4 d.f5 = some (key d) ∧ (key d).size ≤ 1000000 ∧ d.f3.length ≤ 1000000) (hl1 : l1.length ≤ 400) (hky1 : ∀ d ∈ l1,def_Key.f k d.f0 d.f1 d.f2 d.f3 d.f4 d.f5 = some (key d) ∧ (key d).size ≤ 1000000 ∧ d.f3.length ≤ 1000000) (hl2 : l2.length ≤ 400) (hky2 : ∀ d ∈ l2,def_Key.f k d.f0 d.f1 d.f2 d.f3 d.f4 d.f5 = some (key d) ∧ (key d).size ≤ 1000000 ∧ d.f3.length ≤ 1000000) (o0 : List S34) (hn0 : newGo key l0 (.map []) = (mapK key o0,0)) (hri0 : Ris key o0) (hlo0 : o0.length ≤ 200) (hvo0 : ∀ d ∈ o0,d.f3.length ≤ 1000000) (hk0 : ∀ d ∈ o0,def_Key.f k d.f0 d.f1 d.f2 d.f3 d.f4 d.f5 = some (key d) ∧ (key d).size ≤ 1000000) (o1 : List S34) (hn1 : newGo key l1 (.map []) = (mapK key o1,0)) (hri1 : Ris key o1) (hlo1 : o1.length ≤ 200) (hvo1 : ∀ d ∈ o1,d.f3.length ≤ 1000000) (hk1 : ∀ d ∈ o1,def_Key.f k d.f0 d.f1 d.f2 d.f3 d.f4 d.f5 = some (key d) ∧ (key d).size ≤ 1000000) (o2 : List S34) (hn2 : newGo key l2 (.map []) = (mapK key o2,0)) (hri2 : Ris key o2) (hlo2 : o2.length ≤ 200) (hvo2 : ∀ d ∈ o2,d.f3.length ≤ 1000000) (hk2 : ∀ d ∈ o2,def_Key.f k d.f0 d.f1 d.f2 d.f3 d.f4 d.f5 = some (key d) ∧ (key d).size ≤ 1000000) (P01 : List S82) (hpe01 : P01 = ofG sm (mapK key o0) (mapK key o1) (insAll key o1 (insAll key o0 []))) (hpo01 : POk k sp sd sm key o0 P01) (hap01 : applyL key o0 P01 = o1) (hsm01 : ∀ x ∈ o0,∀ y ∈ o1,def_Same.f k x.f0 x.f1 x.f2 x.f3 x.f4 x.f5 y.f0 y.f1 y.f2 y.f3 y.f4 y.f5 = some (sm x y)) (P12 : List S82) (hpe12 : P12 = ofG sm (mapK key o1) (mapK key o2) (insAll key o2 (insAll key o1 []))) (hpo12 : POk k sp sd sm key o1 P12) (hap12 : applyL key o1 P12 = o2) (hsm12 : ∀ x ∈ o1,∀ y ∈ o2,def_Same.f k x.f0 x.f1 x.f2 x.f3 x.f4 x.f5 y.f0 y.f1 y.f2 y.f3 y.f4 y.f5 = some (sm x y)) (P02 : List S82) (hpe02 : P02 = ofG sm (mapK key o0) (mapK key o2) (insAll key o2 (insAll key o0 []))) (hpo02 : POk k sp sd sm key o0 P02) (hap02 : applyL key o0 P02 = o2) (hsm02 : ∀ x ∈ o0,∀ y ∈ o2,def_Same.f k x.f0 x.f1 x.f2 x.f3 x.f4 x.f5 y.f0 y.f1 y.f2 y.f3 y.f4 y.f5 = some (sm x y)) (hse : ∀ x y,ElemOf (mapK key o2) x → ElemOf (mapK key o2) y → def_Same.f k x.f0 x.f1 x.f2 x.f3 x.f4 x.f5 y.f0 y.f1 y.f2 y.f3 y.f4 y.f5 = some (sm x y)) (heq : equalM sm (mapK key o2) (mapK key o2) = true) :
  Calls Tryz.prog 11 #[.agg #[.slice A0 l0.length c0,.slice A1 l1.length c1,.slice A2 l2.length c2]] w fun e w'=>e = .returned (.bool true) ∧ Below w.heap.size w w':=by
 have HF0:=As.mk hf0
 have HL0:=As.mk hl0
 have HKY0:=As.mk hky0
 have HNG0:=As.mk hn0
 have HRI0:=As.mk hri0
 have HLO0:=As.mk hlo0
 have HVO0:=As.mk hvo0
 have HV0:=As.mk (show ∀ d ∈ valsM (mapK key o0),d.f3.length ≤ 1000000 by rw [vals_mapK];exact hvo0)
 have HK0:=As.mk (show ∀ d ∈ valsM (mapK key o0),def_Key.f k d.f0 d.f1 d.f2 d.f3 d.f4 d.f5 = some (key d) ∧ (key d).size ≤ 1000000 by rw [vals_mapK];exact hk0)
 have HZ0:=As.mk (show Maps.size (mapK key o0) ≤ 500 by rw [size_mapK];omega)
 have HF1:=As.mk hf1
 have HL1:=As.mk hl1
 have HKY1:=As.mk hky1
 have HNG1:=As.mk hn1
 have HRI1:=As.mk hri1
 have HLO1:=As.mk hlo1
 have HVO1:=As.mk hvo1
 have HV1:=As.mk (show ∀ d ∈ valsM (mapK key o1),d.f3.length ≤ 1000000 by rw [vals_mapK];exact hvo1)
 have HK1:=As.mk (show ∀ d ∈ valsM (mapK key o1),def_Key.f k d.f0 d.f1 d.f2 d.f3 d.f4 d.f5 = some (key d) ∧ (key d).size ≤ 1000000 by rw [vals_mapK];exact hk1)
 have HZ1:=As.mk (show Maps.size (mapK key o1) ≤ 500 by rw [size_mapK];omega)
 have HF2:=As.mk hf2
 have HL2:=As.mk hl2
 have HKY2:=As.mk hky2
 have HNG2:=As.mk hn2
 have HRI2:=As.mk hri2
 have HLO2:=As.mk hlo2
 have HVO2:=As.mk hvo2
 have HV2:=As.mk (show ∀ d ∈ valsM (mapK key o2),d.f3.length ≤ 1000000 by rw [vals_mapK];exact hvo2)
 have HK2:=As.mk (show ∀ d ∈ valsM (mapK key o2),def_Key.f k d.f0 d.f1 d.f2 d.f3 d.f4 d.f5 = some (key d) ∧ (key d).size ≤ 1000000 by rw [vals_mapK];exact hk2)
 have HZ2:=As.mk (show Maps.size (mapK key o2) ≤ 500 by rw [size_mapK];omega)
 have HSZ2:=As.mk (show Maps.size (mapK key o2) ≤ 1000000 by rw [size_mapK];omega)
 have HSE:=As.mk hse
 have HEQ:=As.mk heq
 have HPE01:=As.mk (show P01 = ofG sm (mapK key o0) (mapK key o1) (insAll key (valsM (mapK key o1)) (insAll key (valsM (mapK key o0)) [])) by rw [vals_mapK,vals_mapK];exact hpe01)
 have HPO01:=As.mk hpo01
 have HAP01:=As.mk hap01
 have HSM01:=As.mk (show ∀ x ∈ valsM (mapK key o0),∀ y ∈ valsM (mapK key o1),def_Same.f k x.f0 x.f1 x.f2 x.f3 x.f4 x.f5 y.f0 y.f1 y.f2 y.f3 y.f4 y.f5 = some (sm x y) by rw [vals_mapK,vals_mapK];exact hsm01)
 clear hpe01 hpo01 hap01 hsm01
 have HPE12:=As.mk (show P12 = ofG sm (mapK key o1) (mapK key o2) (insAll key (valsM (mapK key o2)) (insAll key (valsM (mapK key o1)) [])) by rw [vals_mapK,vals_mapK];exact hpe12)
 have HPO12:=As.mk hpo12
 have HAP12:=As.mk hap12
 have HSM12:=As.mk (show ∀ x ∈ valsM (mapK key o1),∀ y ∈ valsM (mapK key o2),def_Same.f k x.f0 x.f1 x.f2 x.f3 x.f4 x.f5 y.f0 y.f1 y.f2 y.f3 y.f4 y.f5 = some (sm x y) by rw [vals_mapK,vals_mapK];exact hsm12)
 clear hpe12 hpo12 hap12 hsm12
 have HPE02:=As.mk (show P02 = ofG sm (mapK key o0) (mapK key o2) (insAll key (valsM (mapK key o2)) (insAll key (valsM (mapK key o0)) [])) by rw [vals_mapK,vals_mapK];exact hpe02)
 have HPO02:=As.mk hpo02
 have HAP02:=As.mk hap02
 have HSM02:=As.mk (show ∀ x ∈ valsM (mapK key o0),∀ y ∈ valsM (mapK key o2),def_Same.f k x.f0 x.f1 x.f2 x.f3 x.f4 x.f5 y.f0 y.f1 y.f2 y.f3 y.f4 y.f5 = some (sm x y) by rw [vals_mapK,vals_mapK];exact hsm02)
 clear hpe02 hpo02 hap02 hsm02
 clear hf0 hl0 hky0 hn0 hri0 hlo0 hvo0 hk0
 clear hf1 hl1 hky1 hn1 hri1 hlo1 hvo1 hk1
 clear hf2 hl2 hky2 hn2 hri2 hlo2 hvo2 hk2
 clear hse heq
 have HC0:=As.mk hc0
 have HC1:=As.mk hc1
 have HC2:=As.mk hc2
 go_enter Tryz.func11,Tryz.ntmps11
 go_upto_region 1 with (fail)
 have bk1:=blk_new w (Obj.cells #[.slice A0 l0.length c0,.slice A1 l1.length c1,.slice A2 l2.length c2] 58)
 have hb_:=bA (Below.refl w.heap.size w) (Obj.cells #[.slice A0 l0.length c0,.slice A1 l1.length c1,.slice A2 l2.length c2] 58)
 generalize w.alloc (Obj.cells #[.slice A0 l0.length c0,.slice A1 l1.length c1,.slice A2 l2.length c2] 58) = W1 at bk1 hb_ ⊢
 obtain ⟨g1,hg1⟩ : ∃ g1,g1 = w.heap.size:=⟨_,rfl⟩
 rw [← hg1] at bk1 ⊢
 have t0 : W1.cell? ⟨g1,0,none⟩ = some (.slice A0 l0.length c0):=(bC bk1 0).trans rfl
 have t1 : W1.cell? ⟨g1,1,none⟩ = some (.slice A1 l1.length c1):=(bC bk1 1).trans rfl
 have t2 : W1.cell? ⟨g1,2,none⟩ = some (.slice A2 l2.length c2):=(bC bk1 2).trans rfl
 have HB:=As.mk hb_
 have HMX:=As.mk (hmx.below hb_)
 have HR0:=As.mk (Kd.C_below hr0 hb_)
 have HR1:=As.mk (Kd.C_below hr1 hb_)
 have HR2:=As.mk (Kd.C_below hr2 hb_)
 clear hmx bk1 hb_ hg1 hr0 hc0 hr1 hc1 hr2 hc2
 go_wp2_with (first | (go_at_call 26;(with_reducible refine (awake09_calls _).mono ?_);rintro e wa ⟨rfl,hb_⟩;have n_HB:=As.mk (bS HB.out hb_);have n_HMX:=As.mk (HMX.out.below hb_);have n_HR0:=As.mk (Kd.C_below HR0.out hb_);have n_HR1:=As.mk (Kd.C_below HR1.out hb_);have n_HR2:=As.mk (Kd.C_below HR2.out hb_);have n_t0:=pC hb_ t0;have n_t1:=pC hb_ t1;have n_t2:=pC hb_ t2;clear hb_ t0 t1 t2 HB HMX HR0 HR1 HR2;have HB:=n_HB;have HMX:=n_HMX;have HR0:=n_HR0;have HR1:=n_HR1;have HR2:=n_HR2;have t0:=n_t0;have t1:=n_t1;have t2:=n_t2;clear n_t0 n_t1 n_t2 n_HB n_HMX n_HR0 n_HR1 n_HR2) | (go_at_call 16;(with_reducible refine (r07_Few.calls k A0 c0 l0 8 _ _ HR0.out HC0.out HF0.out).mono ?_);rintro e wb ⟨rfl,hb_⟩;have n_HB:=As.mk (bS HB.out hb_);have n_HMX:=As.mk (HMX.out.below hb_);have n_HR0:=As.mk (Kd.C_below HR0.out hb_);have n_HR1:=As.mk (Kd.C_below HR1.out hb_);have n_HR2:=As.mk (Kd.C_below HR2.out hb_);have n_t0:=pC hb_ t0;have n_t1:=pC hb_ t1;have n_t2:=pC hb_ t2;clear hb_ t0 t1 t2 HB HMX HR0 HR1 HR2;have HB:=n_HB;have HMX:=n_HMX;have HR0:=n_HR0;have HR1:=n_HR1;have HR2:=n_HR2;have t0:=n_t0;have t1:=n_t1;have t2:=n_t2;clear n_t0 n_t1 n_t2 n_HB n_HMX n_HR0 n_HR1 n_HR2) | (go_at_call 16;(with_reducible refine (r07_Few.calls k A1 c1 l1 8 _ _ HR1.out HC1.out HF1.out).mono ?_);rintro e wb ⟨rfl,hb_⟩;have n_HB:=As.mk (bS HB.out hb_);have n_HMX:=As.mk (HMX.out.below hb_);have n_HR0:=As.mk (Kd.C_below HR0.out hb_);have n_HR1:=As.mk (Kd.C_below HR1.out hb_);have n_HR2:=As.mk (Kd.C_below HR2.out hb_);have n_t0:=pC hb_ t0;have n_t1:=pC hb_ t1;have n_t2:=pC hb_ t2;clear hb_ t0 t1 t2 HB HMX HR0 HR1 HR2;have HB:=n_HB;have HMX:=n_HMX;have HR0:=n_HR0;have HR1:=n_HR1;have HR2:=n_HR2;have t0:=n_t0;have t1:=n_t1;have t2:=n_t2;clear n_t0 n_t1 n_t2 n_HB n_HMX n_HR0 n_HR1 n_HR2) | (go_at_call 16;(with_reducible refine (r07_Few.calls k A2 c2 l2 8 _ _ HR2.out HC2.out HF2.out).mono ?_);rintro e wb ⟨rfl,hb_⟩;have n_HB:=As.mk (bS HB.out hb_);have n_HMX:=As.mk (HMX.out.below hb_);have n_HR0:=As.mk (Kd.C_below HR0.out hb_);have n_HR1:=As.mk (Kd.C_below HR1.out hb_);have n_HR2:=As.mk (Kd.C_below HR2.out hb_);have n_t0:=pC hb_ t0;have n_t1:=pC hb_ t1;have n_t2:=pC hb_ t2;clear hb_ t0 t1 t2 HB HMX HR0 HR1 HR2;have HB:=n_HB;have HMX:=n_HMX;have HR0:=n_HR0;have HR1:=n_HR1;have HR2:=n_HR2;have t0:=n_t0;have t1:=n_t1;have t2:=n_t2;clear n_t0 n_t1 n_t2 n_HB n_HMX n_HR0 n_HR1 n_HR2) | (go_at_call 17;(with_reducible refine (new_gen key k A0 c0 l0 _ (mapK key o0) 0 HR0.out HC0.out HL0.out HKY0.out HNG0.out).mono ?_);rintro e wn ⟨p0,rfl,hg_,hbad_,hb_⟩;have n_HB:=As.mk (bS HB.out hb_);have n_HMX:=As.mk (HMX.out.below hb_);have n_HR0:=As.mk (Kd.C_below HR0.out hb_);have n_HR1:=As.mk (Kd.C_below HR1.out hb_);have n_HR2:=As.mk (Kd.C_below HR2.out hb_);have n_t0:=pC hb_ t0;have n_t1:=pC hb_ t1;have n_t2:=pC hb_ t2;clear hb_ t0 t1 t2 HB HMX HR0 HR1 HR2;have HB:=n_HB;have HMX:=n_HMX;have HR0:=n_HR0;have HR1:=n_HR1;have HR2:=n_HR2;have t0:=n_t0;have t1:=n_t1;have t2:=n_t2;clear n_t0 n_t1 n_t2 n_HB n_HMX n_HR0 n_HR1 n_HR2;have HS0:=As.mk (Sn_of (hg_ rfl));clear hg_ hbad_) | (go_at_call 17;(with_reducible refine (new_gen key k A1 c1 l1 _ (mapK key o1) 0 HR1.out HC1.out HL1.out HKY1.out HNG1.out).mono ?_);rintro e wn ⟨p1,rfl,hg_,hbad_,hb_⟩;have n_HB:=As.mk (bS HB.out hb_);have n_HMX:=As.mk (HMX.out.below hb_);have n_HR0:=As.mk (Kd.C_below HR0.out hb_);have n_HR1:=As.mk (Kd.C_below HR1.out hb_);have n_HR2:=As.mk (Kd.C_below HR2.out hb_);have n_HS0:=As.mk (HS0.out.below hb_);have n_t0:=pC hb_ t0;have n_t1:=pC hb_ t1;have n_t2:=pC hb_ t2;clear hb_ t0 t1 t2 HB HMX HR0 HR1 HR2 HS0;have HB:=n_HB;have HMX:=n_HMX;have HR0:=n_HR0;have HR1:=n_HR1;have HR2:=n_HR2;have HS0:=n_HS0;have t0:=n_t0;have t1:=n_t1;have t2:=n_t2;clear n_t0 n_t1 n_t2 n_HB n_HMX n_HR0 n_HR1 n_HR2 n_HS0;have HS1:=As.mk (Sn_of (hg_ rfl));clear hg_ hbad_) | (go_at_call 17;(with_reducible refine (new_gen key k A2 c2 l2 _ (mapK key o2) 0 HR2.out HC2.out HL2.out HKY2.out HNG2.out).mono ?_);rintro e wn ⟨p2,rfl,hg_,hbad_,hb_⟩;have n_HB:=As.mk (bS HB.out hb_);have n_HMX:=As.mk (HMX.out.below hb_);have n_HR0:=As.mk (Kd.C_below HR0.out hb_);have n_HR1:=As.mk (Kd.C_below HR1.out hb_);have n_HR2:=As.mk (Kd.C_below HR2.out hb_);have n_HS0:=As.mk (HS0.out.below hb_);have n_HS1:=As.mk (HS1.out.below hb_);have n_t0:=pC hb_ t0;have n_t1:=pC hb_ t1;have n_t2:=pC hb_ t2;clear hb_ t0 t1 t2 HB HMX HR0 HR1 HR2 HS0 HS1;have HB:=n_HB;have HMX:=n_HMX;have HR0:=n_HR0;have HR1:=n_HR1;have HR2:=n_HR2;have HS0:=n_HS0;have HS1:=n_HS1;have t0:=n_t0;have t1:=n_t1;have t2:=n_t2;clear n_t0 n_t1 n_t2 n_HB n_HMX n_HR0 n_HR1 n_HR2 n_HS0 n_HS1;have HS2:=As.mk (Sn_of (hg_ rfl));have HP2:=As.mk (SnR_some (hg_ rfl));clear hg_ hbad_) | (go_at_call 55;(with_reducible refine (of_calls sm key k _ p0 p1 (mapK key o0) (mapK key o1) HS0.out HS1.out HZ0.out HZ1.out HV0.out HV1.out HK0.out HK1.out HSM01.out).mono ?_);rintro e wo ⟨vp,rfl,ho_,hb_⟩;rw [← HPE01.out] at ho_;obtain ⟨Ap,cp,rfl⟩:=Kd.N_slice ho_;have n_HB:=As.mk (bS HB.out hb_);have n_HMX:=As.mk (HMX.out.below hb_);have n_HR0:=As.mk (Kd.C_below HR0.out hb_);have n_HR1:=As.mk (Kd.C_below HR1.out hb_);have n_HR2:=As.mk (Kd.C_below HR2.out hb_);have n_HS0:=As.mk (HS0.out.below hb_);have n_HS1:=As.mk (HS1.out.below hb_);have n_HS2:=As.mk (HS2.out.below hb_);have n_t0:=pC hb_ t0;have n_t1:=pC hb_ t1;have n_t2:=pC hb_ t2;clear hb_ t0 t1 t2 HB HMX HR0 HR1 HR2 HS0 HS1 HS2;have HB:=n_HB;have HMX:=n_HMX;have HR0:=n_HR0;have HR1:=n_HR1;have HR2:=n_HR2;have HS0:=n_HS0;have HS1:=n_HS1;have HS2:=n_HS2;have t0:=n_t0;have t1:=n_t1;have t2:=n_t2;clear n_t0 n_t1 n_t2 n_HB n_HMX n_HR0 n_HR1 n_HR2 n_HS0 n_HS1 n_HS2;have HP:=As.mk ho_;clear ho_) | (go_at_call 50;(with_reducible refine (apply_good sp sd sm key k _ HMX.out p0 o0 HS0.out HVO0.out Ap cp P01 (Kd.N_reads' HP.out).2.2 (Kd.N_reads' HP.out).2.1 HPO01.out.1 HPO01.out.2.1 HPO01.out.2.2.1 HPO01.out.2.2.2.1 HPO01.out.2.2.2.2.1 HRI0.out HLO0.out HPO01.out.2.2.2.2.2.1 HPO01.out.2.2.2.2.2.2).mono ?_);rintro e wq ⟨gX,rfl,hs_,hb_⟩;rw [HAP01.out] at hs_;clear HP;have n_HB:=As.mk (bS HB.out hb_);have n_HMX:=As.mk (HMX.out.below hb_);have n_HR0:=As.mk (Kd.C_below HR0.out hb_);have n_HR1:=As.mk (Kd.C_below HR1.out hb_);have n_HR2:=As.mk (Kd.C_below HR2.out hb_);have n_HS0:=As.mk (HS0.out.below hb_);have n_HS1:=As.mk (HS1.out.below hb_);have n_HS2:=As.mk (HS2.out.below hb_);have n_t0:=pC hb_ t0;have n_t1:=pC hb_ t1;have n_t2:=pC hb_ t2;clear hb_ t0 t1 t2 HB HMX HR0 HR1 HR2 HS0 HS1 HS2;have HB:=n_HB;have HMX:=n_HMX;have HR0:=n_HR0;have HR1:=n_HR1;have HR2:=n_HR2;have HS0:=n_HS0;have HS1:=n_HS1;have HS2:=n_HS2;have t0:=n_t0;have t1:=n_t1;have t2:=n_t2;clear n_t0 n_t1 n_t2 n_HB n_HMX n_HR0 n_HR1 n_HR2 n_HS0 n_HS1 n_HS2;have HX:=As.mk hs_;clear hs_) | (go_at_call 55;(with_reducible refine (of_calls sm key k _ p1 p2 (mapK key o1) (mapK key o2) HS1.out HS2.out HZ1.out HZ2.out HV1.out HV2.out HK1.out HK2.out HSM12.out).mono ?_);rintro e wo ⟨vp,rfl,ho_,hb_⟩;rw [← HPE12.out] at ho_;obtain ⟨Ap,cp,rfl⟩:=Kd.N_slice ho_;have n_HB:=As.mk (bS HB.out hb_);have n_HMX:=As.mk (HMX.out.below hb_);have n_HR0:=As.mk (Kd.C_below HR0.out hb_);have n_HR1:=As.mk (Kd.C_below HR1.out hb_);have n_HR2:=As.mk (Kd.C_below HR2.out hb_);have n_HS0:=As.mk (HS0.out.below hb_);have n_HS1:=As.mk (HS1.out.below hb_);have n_HS2:=As.mk (HS2.out.below hb_);have n_HX:=As.mk (HX.out.below hb_);have n_t0:=pC hb_ t0;have n_t1:=pC hb_ t1;have n_t2:=pC hb_ t2;clear hb_ t0 t1 t2 HB HMX HR0 HR1 HR2 HS0 HS1 HS2 HX;have HB:=n_HB;have HMX:=n_HMX;have HR0:=n_HR0;have HR1:=n_HR1;have HR2:=n_HR2;have HS0:=n_HS0;have HS1:=n_HS1;have HS2:=n_HS2;have HX:=n_HX;have t0:=n_t0;have t1:=n_t1;have t2:=n_t2;clear n_t0 n_t1 n_t2 n_HB n_HMX n_HR0 n_HR1 n_HR2 n_HS0 n_HS1 n_HS2 n_HX;have HP:=As.mk ho_;clear ho_) | (go_at_call 50;(with_reducible refine (apply_good sp sd sm key k _ HMX.out (some ⟨gX,0,none⟩) o1 (Sn_of HX.out) HVO1.out Ap cp P12 (Kd.N_reads' HP.out).2.2 (Kd.N_reads' HP.out).2.1 HPO12.out.1 HPO12.out.2.1 HPO12.out.2.2.1 HPO12.out.2.2.2.1 HPO12.out.2.2.2.2.1 HRI1.out HLO1.out HPO12.out.2.2.2.2.2.1 HPO12.out.2.2.2.2.2.2).mono ?_);rintro e wq ⟨gY,rfl,hs_,hb_⟩;rw [HAP12.out] at hs_;clear HP;have n_HB:=As.mk (bS HB.out hb_);have n_HMX:=As.mk (HMX.out.below hb_);have n_HR0:=As.mk (Kd.C_below HR0.out hb_);have n_HR1:=As.mk (Kd.C_below HR1.out hb_);have n_HR2:=As.mk (Kd.C_below HR2.out hb_);have n_HS0:=As.mk (HS0.out.below hb_);have n_HS1:=As.mk (HS1.out.below hb_);have n_HS2:=As.mk (HS2.out.below hb_);have n_HX:=As.mk (HX.out.below hb_);have n_t0:=pC hb_ t0;have n_t1:=pC hb_ t1;have n_t2:=pC hb_ t2;clear hb_ t0 t1 t2 HB HMX HR0 HR1 HR2 HS0 HS1 HS2 HX;have HB:=n_HB;have HMX:=n_HMX;have HR0:=n_HR0;have HR1:=n_HR1;have HR2:=n_HR2;have HS0:=n_HS0;have HS1:=n_HS1;have HS2:=n_HS2;have HX:=n_HX;have t0:=n_t0;have t1:=n_t1;have t2:=n_t2;clear n_t0 n_t1 n_t2 n_HB n_HMX n_HR0 n_HR1 n_HR2 n_HS0 n_HS1 n_HS2 n_HX;have HY:=As.mk hs_;clear hs_) | (go_at_call 55;(with_reducible refine (of_calls sm key k _ p0 p2 (mapK key o0) (mapK key o2) HS0.out HS2.out HZ0.out HZ2.out HV0.out HV2.out HK0.out HK2.out HSM02.out).mono ?_);rintro e wo ⟨vp,rfl,ho_,hb_⟩;rw [← HPE02.out] at ho_;obtain ⟨Ap,cp,rfl⟩:=Kd.N_slice ho_;have n_HB:=As.mk (bS HB.out hb_);have n_HMX:=As.mk (HMX.out.below hb_);have n_HR0:=As.mk (Kd.C_below HR0.out hb_);have n_HR1:=As.mk (Kd.C_below HR1.out hb_);have n_HR2:=As.mk (Kd.C_below HR2.out hb_);have n_HS0:=As.mk (HS0.out.below hb_);have n_HS1:=As.mk (HS1.out.below hb_);have n_HS2:=As.mk (HS2.out.below hb_);have n_HX:=As.mk (HX.out.below hb_);have n_HY:=As.mk (HY.out.below hb_);have n_t0:=pC hb_ t0;have n_t1:=pC hb_ t1;have n_t2:=pC hb_ t2;clear hb_ t0 t1 t2 HB HMX HR0 HR1 HR2 HS0 HS1 HS2 HX HY;have HB:=n_HB;have HMX:=n_HMX;have HR0:=n_HR0;have HR1:=n_HR1;have HR2:=n_HR2;have HS0:=n_HS0;have HS1:=n_HS1;have HS2:=n_HS2;have HX:=n_HX;have HY:=n_HY;have t0:=n_t0;have t1:=n_t1;have t2:=n_t2;clear n_t0 n_t1 n_t2 n_HB n_HMX n_HR0 n_HR1 n_HR2 n_HS0 n_HS1 n_HS2 n_HX n_HY;have HP:=As.mk ho_;clear ho_) | (go_at_call 50;(with_reducible refine (apply_good sp sd sm key k _ HMX.out p0 o0 HS0.out HVO0.out Ap cp P02 (Kd.N_reads' HP.out).2.2 (Kd.N_reads' HP.out).2.1 HPO02.out.1 HPO02.out.2.1 HPO02.out.2.2.1 HPO02.out.2.2.2.1 HPO02.out.2.2.2.2.1 HRI0.out HLO0.out HPO02.out.2.2.2.2.2.1 HPO02.out.2.2.2.2.2.2).mono ?_);rintro e wq ⟨gZ,rfl,hs_,hb_⟩;rw [HAP02.out] at hs_;clear HP;have n_HB:=As.mk (bS HB.out hb_);have n_HMX:=As.mk (HMX.out.below hb_);have n_HR0:=As.mk (Kd.C_below HR0.out hb_);have n_HR1:=As.mk (Kd.C_below HR1.out hb_);have n_HR2:=As.mk (Kd.C_below HR2.out hb_);have n_HS0:=As.mk (HS0.out.below hb_);have n_HS1:=As.mk (HS1.out.below hb_);have n_HS2:=As.mk (HS2.out.below hb_);have n_HX:=As.mk (HX.out.below hb_);have n_HY:=As.mk (HY.out.below hb_);have n_t0:=pC hb_ t0;have n_t1:=pC hb_ t1;have n_t2:=pC hb_ t2;clear hb_ t0 t1 t2 HB HMX HR0 HR1 HR2 HS0 HS1 HS2 HX HY;have HB:=n_HB;have HMX:=n_HMX;have HR0:=n_HR0;have HR1:=n_HR1;have HR2:=n_HR2;have HS0:=n_HS0;have HS1:=n_HS1;have HS2:=n_HS2;have HX:=n_HX;have HY:=n_HY;have t0:=n_t0;have t1:=n_t1;have t2:=n_t2;clear n_t0 n_t1 n_t2 n_HB n_HMX n_HR0 n_HR1 n_HR2 n_HS0 n_HS1 n_HS2 n_HX n_HY;have HZ:=As.mk hs_;clear hs_) | (go_at_call 34;(with_reducible refine (same_calls sm k _ (.pointer (some ⟨gY,0,none⟩)) (.pointer p2) (mapK key o2) (mapK key o2) HY.out (SnR_of_ptr HS2.out HP2.out) HSZ2.out HSZ2.out HSE.out).mono ?_);rintro e wr_ ⟨he_,hb_⟩;rw [HEQ.out] at he_;subst he_;have n_HB:=As.mk (bS HB.out hb_);have n_HMX:=As.mk (HMX.out.below hb_);have n_HR0:=As.mk (Kd.C_below HR0.out hb_);have n_HR1:=As.mk (Kd.C_below HR1.out hb_);have n_HR2:=As.mk (Kd.C_below HR2.out hb_);have n_HS0:=As.mk (HS0.out.below hb_);have n_HS1:=As.mk (HS1.out.below hb_);have n_HS2:=As.mk (HS2.out.below hb_);have n_HX:=As.mk (HX.out.below hb_);have n_HY:=As.mk (HY.out.below hb_);have n_HZ:=As.mk (HZ.out.below hb_);have n_t0:=pC hb_ t0;have n_t1:=pC hb_ t1;have n_t2:=pC hb_ t2;clear hb_ t0 t1 t2 HB HMX HR0 HR1 HR2 HS0 HS1 HS2 HX HY HZ;have HB:=n_HB;have HMX:=n_HMX;have HR0:=n_HR0;have HR1:=n_HR1;have HR2:=n_HR2;have HS0:=n_HS0;have HS1:=n_HS1;have HS2:=n_HS2;have HX:=n_HX;have HY:=n_HY;have HZ:=n_HZ;have t0:=n_t0;have t1:=n_t1;have t2:=n_t2;clear n_t0 n_t1 n_t2 n_HB n_HMX n_HR0 n_HR1 n_HR2 n_HS0 n_HS1 n_HS2 n_HX n_HY n_HZ) | (go_at_call 34;(with_reducible refine (same_calls sm k _ (.pointer (some ⟨gZ,0,none⟩)) (.pointer p2) (mapK key o2) (mapK key o2) HZ.out (SnR_of_ptr HS2.out HP2.out) HSZ2.out HSZ2.out HSE.out).mono ?_);rintro e wr_ ⟨he_,hb_⟩;rw [HEQ.out] at he_;subst he_;have n_HB:=As.mk (bS HB.out hb_);have n_HMX:=As.mk (HMX.out.below hb_);have n_HR0:=As.mk (Kd.C_below HR0.out hb_);have n_HR1:=As.mk (Kd.C_below HR1.out hb_);have n_HR2:=As.mk (Kd.C_below HR2.out hb_);have n_HS0:=As.mk (HS0.out.below hb_);have n_HS1:=As.mk (HS1.out.below hb_);have n_HS2:=As.mk (HS2.out.below hb_);have n_HX:=As.mk (HX.out.below hb_);have n_HY:=As.mk (HY.out.below hb_);have n_HZ:=As.mk (HZ.out.below hb_);have n_t0:=pC hb_ t0;have n_t1:=pC hb_ t1;have n_t2:=pC hb_ t2;clear hb_ t0 t1 t2 HB HMX HR0 HR1 HR2 HS0 HS1 HS2 HX HY HZ;have HB:=n_HB;have HMX:=n_HMX;have HR0:=n_HR0;have HR1:=n_HR1;have HR2:=n_HR2;have HS0:=n_HS0;have HS1:=n_HS1;have HS2:=n_HS2;have HX:=n_HX;have HY:=n_HY;have HZ:=n_HZ;have t0:=n_t0;have t1:=n_t1;have t2:=n_t2;clear n_t0 n_t1 n_t2 n_HB n_HMX n_HR0 n_HR1 n_HR2 n_HS0 n_HS1 n_HS2 n_HX n_HY n_HZ))
 go_ret
 exact ⟨rfl,HB.out⟩
end Go.Proofs.YtmlebgikdegjjaaGreatDoor.Hd
