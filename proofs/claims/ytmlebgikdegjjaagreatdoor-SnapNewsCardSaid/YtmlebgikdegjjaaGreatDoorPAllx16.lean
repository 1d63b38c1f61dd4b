import Derived.Test.YtmlebgikdegjjaaGreatDoorPAllx0
import Derived.Test.YtmlebgikdegjjaaGreatDoorPAllx1
import Derived.Test.YtmlebgikdegjjaaGreatDoorPAllx2
set_option maxHeartbeats 8000000
set_option maxRecDepth 100000
namespace Go.Proofs.YtmlebgikdegjjaaGreatDoor.PAll
open Go.RowKit Go.Proofs.YtmlebgikdegjjaaGreatDoorW.PrintWords Go.Proofs.YtmlebgikdegjjaaGreatDoorW.PrintLast Go.Proofs.YtmlebgikdegjjaaGreatDoorW.PrintMore
attribute [local go_sem] max2_int min2_int max_two min_two max_three min_three max_four min_four   -- for this text's walks alone
set_option linter.unusedVariables false
set_option linter.unusedSimpArgs false
/-! ### strings_Cut: function 111 -/
/-! ### def_Split: function 72 -/
/-! ### diff_side: function 73 -/
/-! ### r01_Rest: function 31 -/
def r01_Rest.f (a0 : Int) (a1 : Int) : Option (Int):=if a1 = 0 then (none) else (some (Int.tmod (wrap64 ((Int.tmod a0 a1) + a1)) a1))
theorem r01_Rest.calls (a0 : Int) (a1 : Int) (r : Int) (w : World) (h : r01_Rest.f a0 a1 = some r) :
  Calls Tryz.prog 31 #[.int .i64 a0,.int .i64 a1] w fun e w'=>e = .returned (.int .i64 r) ∧ Drawn0 w w':=by
 have H : (if a1 = 0 then (none) else (some (Int.tmod (wrap64 ((Int.tmod a0 a1) + a1)) a1))) = some r:=h
 clear h
 by_cases c3 : a1 = 0
 ·rw [if_pos c3] at H
  exact absurd H (by simp)
 ·rw [if_neg c3] at H
  have c3b0 : (a1 == 0) = false:=beq_eq_false_iff_ne.mpr c3
  have c3b1 : (a1 != 0) = true:=bne_iff_ne.mpr c3
  obtain rfl:=Option.some.inj H
  go_enter Tryz.func31,Tryz.ntmps31
  go_wp2
  go_ret
  exact ⟨by first | rfl | (simp;done) | (simp [*];done),by repeat (first | exact Drawn0.refl _ | apply Drawn0.step)⟩
/-! ### bytes_Clone: function 120 -/
def bytes_Clone.f (l0 : List Int) : Option (List Int):=if l0.length < 140737488355328 then some l0 else none
theorem bytes_Clone.calls (A0 : Option Addr) (c0 : Nat) (l0 : List Int) (r : List Int) (w : World) (hr0 : Kd.C (Kd.int .u8) w A0 l0.length l0) (hc0 : l0.length ≤ c0) (h : bytes_Clone.f l0 = some r) :
  Calls Tryz.prog 120 #[.slice A0 l0.length c0] w fun e w'=>∃ v0_ : Value,e = .returned (v0_) ∧ Kd.R (Kd.int .u8) 5 w' w.heap.size (fun _=>True) v0_ r ∧ Below w.heap.size w w':=by
 have HR0:=As.mk hr0
 have HC0:=As.mk hc0
 clear hr0 hc0
 have HB:=As.mk (Below.refl w.heap.size w)
 have hlim : l0.length < 140737488355328 ∧ r = l0:=by
  unfold bytes_Clone.f at h
  by_cases c : l0.length < 140737488355328
  ·rw [if_pos c] at h
   exact ⟨c,(Option.some.inj h).symm⟩
  ·rw [if_neg c] at h
   cases h
 clear h
 obtain ⟨LM0,rfl⟩:=hlim
 have LM:=As.mk LM0
 clear LM0
 have hnil:=fun (w : World)=>Lib.run_eql_slice_nil (P:=Tryz.prog) w 54 5 A0 r.length c0 0 0 Tryz.underlying54
 cases A0 with
 | none =>
  have hz : As (r = []):=by
   by_cases hp : 0 < r.length
   ·obtain ⟨ad,e,_⟩:=HR0.out.2.2 hp
    cases e
   ·exact ⟨List.eq_nil_of_length_eq_zero (by omega)⟩
  go_enter Tryz.func120,Tryz.ntmps120
  go_wp2_with (fail)
  go_ret
  exact ⟨_,rfl,by rw [hz.out];exact Kd.R_nil _ _ _ _ _,HB.out⟩
 | some ad =>
  go_enter Tryz.func120,Tryz.ntmps120
  go_wp2_with (first | ((with_reducible refine gate_dst (N:=5) rfl ?_);(try (refine gate_guard (by rfl) ?_;dsimp only));refine Kd.R_lit (Kd.int .u8) _ 5 ?hg (N:=5) ?hd (xs:=([] : List Int)) (inner:=[]) (ok:=fun _=>True) (okp:=fun _=>True) ?hr ?hp (fun _ hk=>hk) trivial (Below.refl _ _) (Nat.le_refl _) (by simp) ?_;(case hd=>rfl);(case hg=>rfl);(case hr=>first | (go_simp;done) | (go_simp;rfl));(case hp=>exact (Reps.none _ _));intro v1_ w8 ho9 hb hg_ hnew_;clear hg_ hnew_;have n0_:=As.mk (Kd.R_lower ho9 (bZ (by repeat (first | (with_reducible first | exact HB.out | apply bA | apply bN | apply bD) | exact HB.out))));have n1_:=As.mk (bS (by repeat (first | (with_reducible first | exact HB.out | apply bA | apply bN | apply bD) | exact HB.out)) hb);clear HB;have HO1:=n0_;have HB:=n1_;clear n0_ n1_;clear hb ho9) | ((with_reducible refine gB (b:=.append) (xs:=#[.tmp 5,.tmp 6]) rfl ?_);(try (refine gate_guard (by rfl) ?_;dsimp only));at_builtin;refine Kd.R_append_rows (Kd.int .u8) (w0:=w) w.heap.size rfl (.tmp 5) (.tmp 6) 54 5 (.int .u8 0) 1 rfl Tryz.underlying54 info5 rfl (by decide) (by omega) v1_ [] r _ _ _ (fun _=>True) (fun _=>False) rfl rfl ?aO ?aR (fun _ _ h=>h) (fun _ h=>h.elim) ?aF ?aB ?aS ?aL ?_;(case aR=>repeat (first | exact (Kd.C_below HR0.out HB.out) | (with_reducible refine Kd.C_alloc ?_ _) | (with_reducible refine Kd.C_drewN ?_ _) | (with_reducible refine Kd.C_drew ?_)));(case aB=>exact (by repeat (first | (with_reducible first | exact HB.out | apply bA | apply bN | apply bD) | exact HB.out)));(case aF=>exact (fun _ _=>trivial));(case aO=>exact (by (with_reducible repeat (first | apply Kd.R_alloc | apply Kd.R_drewN | apply Kd.R_drew));exact HO1.out));(case aS=>exact (bZ (by repeat (first | (with_reducible first | exact HB.out | apply bA | apply bN | apply bD) | exact HB.out))));(case aL=>have:=LM.out;simp only [List.length_nil];omega);intro v3_ w10 ho hb hg hat;rw [List.nil_append] at ho;have n0_:=As.mk (hb);have n1_:=As.mk (ho);clear HB;clear HO1;have HB:=n0_;have HO3:=n1_;clear n0_ n1_;clear ho hb hg hat))
  go_ret
  exact ⟨_,rfl,HO3.out,HB.out⟩
/-! ### r01_octets: function 121 -/
def r01_octets.l0 : Nat → Int → Int → ByteArray → Int → Option (ByteArray)
 | 0,_,_,_,_=>none
 | k + 1,x0,x1,x5,x6=>if x6 < x1 then ((some (([(Int.tmod x0 256) % 256] : List Int) : List Int)).bind fun y403=>(if (strOfNums y403).size + x5.size ≤ 9223372036854775807 then (r01_octets.l0 k (IntKind.u64.wrap (Int.tdiv x0 256)) x1 ((strOfNums y403) ++ x5) (wrap64 (x6 + 1))) else (none))) else (some x5)
def r01_octets.f (k : Nat) (a0 : Int) (a1 : Int) : Option (ByteArray):=r01_octets.l0 k a0 a1 (⟨#[]⟩ : ByteArray) 0
theorem r01_octets.mono_l : ∀ k,(∀ y0 y1 y2 y3,LeO (r01_octets.l0 k y0 y1 y2 y3) (r01_octets.l0 (k + 1) y0 y1 y2 y3))
 | 0=>fun _ _ _ _ r h=>by simp [r01_octets.l0] at h
 | k + 1=>by
  have ih0:=r01_octets.mono_l k
  ·intro y0 y1 y2 y3
   unfold r01_octets.l0
   repeat' first
   | (with_reducible exact ih0 _ _ _ _)
   | (with_reducible exact LeO.refl _)
   | (with_reducible exact LeO.none _)
   | (with_reducible refine LeO.ite ?_ ?_)
   | (with_reducible refine LeO.bind ?_ (fun _=>?_))
   | exact ih0 _ _ _ _
   | exact LeO.none _
   | refine LeO.ite ?_ ?_
   | refine LeO.bind ?_ (fun _=>?_)
theorem r01_octets.mono : ∀ a0 a1 k,LeO (r01_octets.f k a0 a1) (r01_octets.f (k + 1) a0 a1):=by
 intro a0 a1 k
 have ih0:=r01_octets.mono_l k
 unfold r01_octets.f
 repeat' first
   | (with_reducible exact ih0 _ _ _ _)
   | (with_reducible exact LeO.refl _)
   | (with_reducible exact LeO.none _)
   | (with_reducible refine LeO.ite ?_ ?_)
   | (with_reducible refine LeO.bind ?_ (fun _=>?_))
   | exact ih0 _ _ _ _
   | exact LeO.none _
   | refine LeO.ite ?_ ?_
   | refine LeO.bind ?_ (fun _=>?_)
theorem r01_octets.calls (k : Nat) (a0 : Int) (a1 : Int) (r : ByteArray) (w : World) (h : r01_octets.f k a0 a1 = some r) :
  Calls Tryz.prog 121 #[.int .u64 a0,.int .i64 a1] w fun e w'=>e = .returned (.string r) ∧ Below w.heap.size w w':=by
 have HB:=As.mk (Below.refl w.heap.size w)
 have H : (r01_octets.l0 k a0 a1 (⟨#[]⟩ : ByteArray) 0) = some r:=h
 clear h
 have H':=As.mk H
 clear H
 go_enter Tryz.func121,Tryz.ntmps121
 go_wp2
 go_loopg [0,5,6] k (fun kq v0 v5 v6 w'=>∃ (x0_1 : Int) (x5_1 : ByteArray) (x6_1 : Int),v0 = .int .u64 x0_1 ∧ v5 = .string x5_1 ∧ v6 = .int .i64 x6_1 ∧ As (r01_octets.l0 kq x0_1 a1 x5_1 x6_1 = some r) ∧ As (kq ≤ k) ∧ As (Below w.heap.size w w'))
 case atStart=>exact ⟨(a0),((⟨#[]⟩ : ByteArray)),(0),(by first | rfl | (simp;done) | (simp [*];done)),(by first | rfl | (simp;done) | (simp [*];done)),(by first | rfl | (simp;done) | (simp [*];done)),H',⟨Nat.le_refl _⟩,⟨by repeat (first | (with_reducible first | exact HB.out | apply bA | apply bN | apply bD) | exact HB.out)⟩⟩
 case round =>
  clear H'
  try clear c1
  try clear p2
  obtain ⟨x0_1,x5_1,x6_1,rfl,rfl,rfl,HA,HK1,HB⟩:=hrel
  cases gk with
  | zero=>exact absurd HA.out (by simp [r01_octets.l0])
  | succ k1 =>
   have H:=HA.out
   clear HA
   simp only [r01_octets.l0] at H
   by_cases c3 : x6_1 < a1
   ·rw [if_pos c3] at H
    have c3b0 : decide (x6_1 < a1) = true:=decide_eq_true c3
    clear c3
    obtain ⟨y403,hy403⟩ : ∃ y_ : List Int,y_ = (([(Int.tmod x0_1 256) % 256] : List Int)):=⟨_,rfl⟩
    replace H : (if (strOfNums y403).size + x5_1.size ≤ 9223372036854775807 then (r01_octets.l0 k1 (IntKind.u64.wrap (Int.tdiv x0_1 256)) a1 ((strOfNums y403) ++ x5_1) (wrap64 (x6_1 + 1))) else (none)) = some r:=by first | (rw [hy403];with_reducible exact H) | (have H2_:=(Option.bind_some _ _).symm.trans H;rw [hy403];with_reducible exact H2_) | (have H2_:=(Option.bind_some _ _).symm.trans H;with_reducible exact H2_) | with_reducible exact H | (rw [hy403];exact H) | exact H
    have Ny403:=As.mk hy403
    clear hy403
    by_cases c4 : (strOfNums y403).size + x5_1.size ≤ 9223372036854775807
    ·rw [if_pos c4] at H
     have c4b0:=eq_true c4
     have c4b1 : decide ((strOfNums y403).size + x5_1.size ≤ 9223372036854775807) = true:=decide_eq_true c4
     try have c4b2 : (9223372036854775807 < (strOfNums y403).size + x5_1.size) = False:=eq_false (Nat.not_lt.2 c4)
     have H':=As.mk H
     clear H
     go_wp2_with (first | ((with_reducible refine gate_dst (N:=15) rfl ?_);refine Kd.R_lit (Kd.int .u8) _ 5 ?hg (N:=15) ?hd (xs:=([(Int.tmod x0_1 256) % 256] : List Int)) (inner:=[.int .u8 ((Int.tmod x0_1 256) % 256)]) (ok:=fun _=>True) (okp:=fun _=>True) ?hr ?hp (fun _ hk=>hk) trivial (Below.refl _ _) (Nat.le_refl _) (by simp) ?_;(case hd=>rfl);(case hg=>rfl);(case hr=>first | (go_simp;done) | (go_simp;rfl));(case hp=>exact (Reps.one (show Kd.M (Kd.int .u8) _ _ _ ((Int.tmod x0_1 256) % 256) [.int .u8 ((Int.tmod x0_1 256) % 256)] from rfl) (Reps.none _ _)));intro v404 w5 ho6 hb hg_ hnew_;clear hg_ hnew_;(first | rw [← Ny403.out] at ho6 | (simp only [Int.reduceToNat] at ho6;rw [← Ny403.out] at ho6));have n0_:=As.mk (Kd.R_lower ho6 (bZ (by repeat (first | (with_reducible first | exact HB.out | apply bA | apply bN | apply bD) | exact HB.out))));have n1_:=As.mk (bS (by repeat (first | (with_reducible first | exact HB.out | apply bA | apply bN | apply bD) | exact HB.out)) hb);clear HB;have HO405:=n0_;have HB:=n1_;clear n0_ n1_;clear hb ho6;have hcv7:=own_string (P:=Tryz.prog) Tryz.underlying54 Tryz.underlying5 Tryz.underlying9 (Kd.own_of_R HO405.out)))
     go_roundg k1
     case measure=>have:=HK1.out;omega
     case rel=>exact ⟨(IntKind.u64.wrap (Int.tdiv x0_1 256)),((strOfNums y403) ++ x5_1),(wrap64 (x6_1 + 1)),(by first | rfl | (simp;done) | (simp [*];done)),(by first | rfl | (simp;done) | (simp [*];done)),(by first | rfl | (simp;done) | (simp [*];done)),H',⟨by have:=HK1.out;omega⟩,⟨by repeat (first | (with_reducible first | exact HB.out | apply bA | apply bN | apply bD) | exact HB.out)⟩⟩
    ·rw [if_neg c4] at H
     exact absurd H (by simp)
   ·rw [if_neg c3] at H
    have c3b0 : decide (x6_1 < a1) = false:=decide_eq_false c3
    clear c3
    obtain rfl:=Option.some.inj H
    go_wp2
    go_ret
    exact ⟨by first | rfl | (simp [eN,eS] <;> rfl) | (simp [*,eN,eS] <;> rfl),by repeat (first | (with_reducible first | exact HB.out | apply bA | apply bN | apply bD) | exact HB.out)⟩
/-! ### r01_Num: function 80 -/
def r01_Num.f (k : Nat) (a0 : Int) : Option (ByteArray × Bool):=if a0 < 0 then (some ((⟨#[]⟩ : ByteArray),false)) else (if a0 > 2147483647 then (some ((⟨#[]⟩ : ByteArray),false)) else ((r01_octets.f k (IntKind.u64.wrap (a0)) 4).bind fun t406=>(some (t406,true))))
theorem r01_Num.mono : ∀ a0 k,LeO (r01_Num.f k a0) (r01_Num.f (k + 1) a0):=by
 intro a0 k
 unfold r01_Num.f
 repeat' first
   | (with_reducible exact r01_octets.mono _ _ _)
   | (with_reducible exact LeO.refl _)
   | (with_reducible exact LeO.none _)
   | (with_reducible refine LeO.ite ?_ ?_)
   | (with_reducible refine LeO.bind ?_ (fun _=>?_))
   | exact r01_octets.mono _ _ _
   | exact LeO.none _
   | refine LeO.ite ?_ ?_
   | refine LeO.bind ?_ (fun _=>?_)
theorem r01_Num.calls (k : Nat) (a0 : Int) (r1 : ByteArray) (r2 : Bool) (w : World) (h : r01_Num.f k a0 = some (r1,r2)) :
  Calls Tryz.prog 80 #[.int .i64 a0] w fun e w'=>e = .returned (.tuple #[.string r1,.bool r2]) ∧ Below w.heap.size w w':=by
 have HB:=As.mk (Below.refl w.heap.size w)
 have H : (if a0 < 0 then (some ((⟨#[]⟩ : ByteArray),false)) else (if a0 > 2147483647 then (some ((⟨#[]⟩ : ByteArray),false)) else ((r01_octets.f k (IntKind.u64.wrap (a0)) 4).bind fun t406=>(some (t406,true))))) = some (r1,r2):=h
 clear h
 by_cases c2 : a0 < 0
 ·rw [if_pos c2] at H
  have c2b0 : decide (a0 < 0) = true:=decide_eq_true c2
  clear c2
  simp only [Option.some.injEq,Prod.mk.injEq] at H
  obtain ⟨rfl,rfl⟩:=H
  go_enter Tryz.func80,Tryz.ntmps80
  go_wp2
  go_ret2
  exact ⟨by first | rfl | (simp [eN,eS] <;> rfl) | (simp [*,eN,eS] <;> rfl),by repeat (first | (with_reducible first | exact HB.out | apply bA | apply bN | apply bD) | exact HB.out)⟩
 ·rw [if_neg c2] at H
  have c2b0 : decide (a0 < 0) = false:=decide_eq_false c2
  clear c2
  by_cases c3 : a0 > 2147483647
  ·rw [if_pos c3] at H
   have c3b0 : decide (2147483647 < a0) = true:=decide_eq_true c3
   clear c3
   simp only [Option.some.injEq,Prod.mk.injEq] at H
   obtain ⟨rfl,rfl⟩:=H
   go_enter Tryz.func80,Tryz.ntmps80
   go_wp2
   go_ret2
   exact ⟨by first | rfl | (simp [eN,eS] <;> rfl) | (simp [*,eN,eS] <;> rfl),by repeat (first | (with_reducible first | exact HB.out | apply bA | apply bN | apply bD) | exact HB.out)⟩
  ·rw [if_neg c3] at H
   have c3b0 : decide (2147483647 < a0) = false:=decide_eq_false c3
   clear c3
   replace H:=Option.bind_eq_some_iff.mp H
   obtain ⟨t406,A40,H⟩:=H
   replace H : (some (t406,true)) = some (r1,r2):=H
   have A4:=As.mk A40
   clear A40
   simp only [Option.some.injEq,Prod.mk.injEq] at H
   obtain ⟨rfl,rfl⟩:=H
   go_enter Tryz.func80,Tryz.ntmps80
   go_wp2_with (first | ((with_reducible refine gC (f:=121) rfl ?_);refine goesL_ (some 12) rfl rfl Tryz.func121 (by kernel_rfl) rfl #[.int .u64 (IntKind.u64.wrap (a0)),.int .i64 4] rfl (by (try simp only [List.map_toArray,List.map_cons,List.map_nil]);first | done | rfl | (simp only [List.length_drop,List.length_take];rfl)) ?_;(with_reducible refine (r01_octets.calls k (IntKind.u64.wrap (a0)) 4 t406 _ A4.out).mono ?_);rintro e w5 ⟨rfl,hb⟩;refine ⟨_,rfl,?_⟩;have n0_:=As.mk (bS (by repeat (first | (with_reducible first | exact HB.out | apply bA | apply bN | apply bD) | exact HB.out)) hb);clear HB;have HB:=n0_;clear n0_;(try clear hb);(try clear hb2);(try clear hk);(try clear hi)))
   go_ret2
   exact ⟨by first | rfl | (simp [eN,eS] <;> rfl) | (simp [*,eN,eS] <;> rfl),by repeat (first | (with_reducible first | exact HB.out | apply bA | apply bN | apply bD) | exact HB.out)⟩
/-! ### r01_Text: function 122 -/
def r01_Text.f (k : Nat) (a0 : ByteArray) : Option (ByteArray):=(r01_Num.f k (a0.size : Int)).bind fun bt407=>(if bt407.1.size + a0.size ≤ 9223372036854775807 then (some (bt407.1 ++ a0)) else (none))
theorem r01_Text.mono : ∀ a0 k,LeO (r01_Text.f k a0) (r01_Text.f (k + 1) a0):=by
 intro a0 k
 unfold r01_Text.f
 repeat' first
   | (with_reducible exact r01_Num.mono _ _)
   | (with_reducible exact LeO.refl _)
   | (with_reducible exact LeO.none _)
   | (with_reducible refine LeO.ite ?_ ?_)
   | (with_reducible refine LeO.bind ?_ (fun _=>?_))
   | exact r01_Num.mono _ _
   | exact LeO.none _
   | refine LeO.ite ?_ ?_
   | refine LeO.bind ?_ (fun _=>?_)
theorem r01_Text.calls (k : Nat) (a0 : ByteArray) (r : ByteArray) (w : World) (h : r01_Text.f k a0 = some r) :
  Calls Tryz.prog 122 #[.string a0] w fun e w'=>e = .returned (.string r) ∧ Below w.heap.size w w':=by
 have HB:=As.mk (Below.refl w.heap.size w)
 have H : ((r01_Num.f k (a0.size : Int)).bind fun bt407=>(if bt407.1.size + a0.size ≤ 9223372036854775807 then (some (bt407.1 ++ a0)) else (none))) = some r:=h
 clear h
 replace H:=Option.bind_eq_some_iff.mp H
 obtain ⟨⟨t407,t408⟩,A20,H⟩:=H
 replace H : (if t407.size + a0.size ≤ 9223372036854775807 then (some (t407 ++ a0)) else (none)) = some r:=H
 have A2:=As.mk A20
 clear A20
 by_cases c3 : t407.size + a0.size ≤ 9223372036854775807
 ·rw [if_pos c3] at H
  have c3b0:=eq_true c3
  have c3b1 : decide (t407.size + a0.size ≤ 9223372036854775807) = true:=decide_eq_true c3
  try have c3b2 : (9223372036854775807 < t407.size + a0.size) = False:=eq_false (Nat.not_lt.2 c3)
  obtain rfl:=Option.some.inj H
  go_enter Tryz.func122,Tryz.ntmps122
  go_wp2_with (first | ((with_reducible refine gC (f:=80) rfl ?_);refine goesL_ (some 8) rfl rfl Tryz.func80 (by kernel_rfl) rfl #[.int .i64 (a0.size : Int)] rfl (by (try simp only [List.map_toArray,List.map_cons,List.map_nil]);first | done | rfl | (simp only [List.length_drop,List.length_take];rfl)) ?_;(with_reducible refine (r01_Num.calls k (a0.size : Int) t407 t408 _ A2.out).mono ?_);rintro e w4 ⟨rfl,hb⟩;refine ⟨_,rfl,?_⟩;have n0_:=As.mk (bS (by repeat (first | (with_reducible first | exact HB.out | apply bA | apply bN | apply bD) | exact HB.out)) hb);clear HB;have HB:=n0_;clear n0_;(try clear hb);(try clear hb2);(try clear hk);(try clear hi)))
  go_ret
  exact ⟨by first | rfl | (simp [eN,eS] <;> rfl) | (simp [*,eN,eS] <;> rfl),by repeat (first | (with_reducible first | exact HB.out | apply bA | apply bN | apply bD) | exact HB.out)⟩
 ·rw [if_neg c3] at H
  exact absurd H (by simp)
/-! ### r01_Texts: function 123 -/
def r01_Texts.l0 : Nat → List ByteArray → ByteArray → Int → Option (ByteArray)
 | 0,_,_,_=>none
 | k + 1,x0,x3,x5=>if x5 < (x0.length : Int) then (if 0 ≤ x5 then ((r01_Text.f k (rdOf ByteArray.empty x0 x5)).bind fun t412=>(if x3.size + t412.size ≤ 9223372036854775807 then (r01_Texts.l0 k x0 (x3 ++ t412) (wrap64 (x5 + 1))) else (none))) else (none)) else (some x3)
def r01_Texts.f (k : Nat) (l0 : List ByteArray) : Option (ByteArray):=(r01_Num.f k (l0.length : Int)).bind fun bt409=>(r01_Texts.l0 k l0 bt409.1 0)
theorem r01_Texts.mono_l : ∀ k,(∀ y0 y1 y2,LeO (r01_Texts.l0 k y0 y1 y2) (r01_Texts.l0 (k + 1) y0 y1 y2))
 | 0=>fun _ _ _ r h=>by simp [r01_Texts.l0] at h
 | k + 1=>by
  have ih0:=r01_Texts.mono_l k
  ·intro y0 y1 y2
   unfold r01_Texts.l0
   repeat' first
   | (with_reducible exact ih0 _ _ _)
   | (with_reducible exact r01_Num.mono _ _)
   | (with_reducible exact r01_Text.mono _ _)
   | (with_reducible exact LeO.refl _)
   | (with_reducible exact LeO.none _)
   | (with_reducible refine LeO.ite ?_ ?_)
   | (with_reducible refine LeO.bind ?_ (fun _=>?_))
   | exact ih0 _ _ _
   | exact r01_Num.mono _ _
   | exact r01_Text.mono _ _
   | exact LeO.none _
   | refine LeO.ite ?_ ?_
   | refine LeO.bind ?_ (fun _=>?_)
theorem r01_Texts.mono : ∀ a0 k,LeO (r01_Texts.f k a0) (r01_Texts.f (k + 1) a0):=by
 intro a0 k
 have ih0:=r01_Texts.mono_l k
 unfold r01_Texts.f
 repeat' first
   | (with_reducible exact ih0 _ _ _)
   | (with_reducible exact r01_Num.mono _ _)
   | (with_reducible exact r01_Text.mono _ _)
   | (with_reducible exact LeO.refl _)
   | (with_reducible exact LeO.none _)
   | (with_reducible refine LeO.ite ?_ ?_)
   | (with_reducible refine LeO.bind ?_ (fun _=>?_))
   | exact ih0 _ _ _
   | exact r01_Num.mono _ _
   | exact r01_Text.mono _ _
   | exact LeO.none _
   | refine LeO.ite ?_ ?_
   | refine LeO.bind ?_ (fun _=>?_)
theorem r01_Texts.calls (k : Nat) (A0 : Option Addr) (c0 : Nat) (l0 : List ByteArray) (r : ByteArray) (w : World) (hr0 : Kd.C Kd.string w A0 l0.length l0) (hc0 : l0.length ≤ c0) (h : r01_Texts.f k l0 = some r) :
  Calls Tryz.prog 123 #[.slice A0 l0.length c0] w fun e w'=>e = .returned (.string r) ∧ Below w.heap.size w w':=by
 have HR0:=As.mk hr0
 have HC0:=As.mk hc0
 clear hr0 hc0
 have HB:=As.mk (Below.refl w.heap.size w)
 have H : ((r01_Num.f k (l0.length : Int)).bind fun bt409=>(r01_Texts.l0 k l0 bt409.1 0)) = some r:=h
 clear h
 replace H:=Option.bind_eq_some_iff.mp H
 obtain ⟨⟨t409,t410⟩,A20,H⟩:=H
 replace H : (r01_Texts.l0 k l0 t409 0) = some r:=H
 have A2:=As.mk A20
 clear A20
 have H':=As.mk H
 clear H
 go_enter Tryz.func123,Tryz.ntmps123
 go_wp2_with (first | ((with_reducible refine gC (f:=80) rfl ?_);refine goesL_ (some 9) rfl rfl Tryz.func80 (by kernel_rfl) rfl #[.int .i64 (l0.length : Int)] rfl (by (try simp only [List.map_toArray,List.map_cons,List.map_nil]);first | done | rfl | (simp only [List.length_drop,List.length_take];rfl)) ?_;(with_reducible refine (r01_Num.calls k (l0.length : Int) t409 t410 _ A2.out).mono ?_);rintro e w3 ⟨rfl,hb⟩;refine ⟨_,rfl,?_⟩;have n0_:=As.mk (bS (by repeat (first | (with_reducible first | exact HB.out | apply bA | apply bN | apply bD) | exact HB.out)) hb);clear HB;have HB:=n0_;clear n0_;(try clear hb);(try clear hb2);(try clear hk);(try clear hi)))
 go_loopg [3,5] k (fun kq v3 v5 w'=>∃ (x3_1 : ByteArray) (x5_1 : Int),v3 = .string x3_1 ∧ v5 = .int .i64 x5_1 ∧ As (r01_Texts.l0 kq l0 x3_1 x5_1 = some r) ∧ As (kq ≤ k) ∧ As (Below w.heap.size w w'))
 case atStart=>exact ⟨(t409),(0),(by first | rfl | (simp;done) | (simp [*];done)),(by first | rfl | (simp;done) | (simp [*];done)),H',⟨Nat.le_refl _⟩,⟨by repeat (first | (with_reducible first | exact HB.out | apply bA | apply bN | apply bD) | exact HB.out)⟩⟩
 case round =>
  clear H'
  try clear c1
  try clear p2
  obtain ⟨x3_1,x5_1,rfl,rfl,HA,HK1,HB⟩:=hrel
  cases gk with
  | zero=>exact absurd HA.out (by simp [r01_Texts.l0])
  | succ k1 =>
   have H:=HA.out
   clear HA
   simp only [r01_Texts.l0] at H
   by_cases c4 : x5_1 < (l0.length : Int)
   ·rw [if_pos c4] at H
    have c4b0 : decide (x5_1 < (l0.length : Int)) = true:=decide_eq_true c4
    clear c4
    by_cases c5 : 0 ≤ x5_1
    ·rw [if_pos c5] at H
     have c5b0 : decide (0 ≤ x5_1) = true:=decide_eq_true c5
     clear c5
     replace H:=Option.bind_eq_some_iff.mp H
     obtain ⟨t412,A60,H⟩:=H
     replace H : (if x3_1.size + t412.size ≤ 9223372036854775807 then (r01_Texts.l0 k1 l0 (x3_1 ++ t412) (wrap64 (x5_1 + 1))) else (none)) = some r:=H
     have A6:=As.mk A60
     clear A60
     by_cases c7 : x3_1.size + t412.size ≤ 9223372036854775807
     ·rw [if_pos c7] at H
      have c7b0:=eq_true c7
      have c7b1 : decide (x3_1.size + t412.size ≤ 9223372036854775807) = true:=decide_eq_true c7
      try have c7b2 : (9223372036854775807 < x3_1.size + t412.size) = False:=eq_false (Nat.not_lt.2 c7)
      have H':=As.mk H
      clear H
      have p411 : 0 ≤ (x5_1 : Int):=of_decide_eq_true (by first | (with_reducible assumption) | assumption)
      have q411 : x5_1 < (l0.length : Int):=of_decide_eq_true (by first | (with_reducible assumption) | assumption)
      obtain ⟨ad411,e411,hx411_0⟩:=Kd.at_string HR0.out x5_1 p411 q411
      cases e411
      replace hx411_0:=(HB.out.cell (World.block_lt_of_cell? w _ hx411_0)).trans hx411_0
      replace p411:=eq_true p411
      replace q411:=eq_true q411
      go_wp2_with (first | ((with_reducible refine gC (f:=122) rfl ?_);refine goesL_ (some 23) rfl rfl Tryz.func122 (by kernel_rfl) rfl #[.string (rdOf ByteArray.empty l0 x5_1)] rfl (by (try simp only [List.map_toArray,List.map_cons,List.map_nil]);first | done | rfl | (simp only [List.length_drop,List.length_take];rfl)) ?_;(with_reducible refine (r01_Text.calls k1 (rdOf ByteArray.empty l0 x5_1) t412 _ A6.out).mono ?_);rintro e w8 ⟨rfl,hb⟩;refine ⟨_,rfl,?_⟩;have n0_:=As.mk (bS (by repeat (first | (with_reducible first | exact HB.out | apply bA | apply bN | apply bD) | exact HB.out)) hb);clear HB;have HB:=n0_;clear n0_;(try clear hb);(try clear hb2);(try clear hk);(try clear hi)))
      go_roundg k1
      case measure=>have:=HK1.out;omega
      case rel=>exact ⟨(x3_1 ++ t412),(wrap64 (x5_1 + 1)),(by first | rfl | (simp;done) | (simp [*];done)),(by first | rfl | (simp;done) | (simp [*];done)),H',⟨by have:=HK1.out;omega⟩,⟨by repeat (first | (with_reducible first | exact HB.out | apply bA | apply bN | apply bD) | exact HB.out)⟩⟩
     ·rw [if_neg c7] at H
      exact absurd H (by simp)
    ·rw [if_neg c5] at H
     exact absurd H (by simp)
   ·rw [if_neg c4] at H
    have c4b0 : decide (x5_1 < (l0.length : Int)) = false:=decide_eq_false c4
    clear c4
    obtain rfl:=Option.some.inj H
    go_wp2
    go_ret
    exact ⟨by first | rfl | (simp [eN,eS] <;> rfl) | (simp [*,eN,eS] <;> rfl),by repeat (first | (with_reducible first | exact HB.out | apply bA | apply bN | apply bD) | exact HB.out)⟩
end Go.Proofs.YtmlebgikdegjjaaGreatDoor.PAll
