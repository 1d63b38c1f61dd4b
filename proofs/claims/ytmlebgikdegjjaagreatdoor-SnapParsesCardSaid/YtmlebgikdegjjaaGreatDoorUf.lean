/- Changes of snapshots, and the document's example. -/
import Derived.Test.YtmlebgikdegjjaaGreatDoorSd
import Derived.Test.YtmlebgikdegjjaaGreatDoorSb
import Derived.Test.YtmlebgikdegjjaaGreatDoorPAllx8
import Derived.Deep.LoopGhost
set_option maxHeartbeats 16000000
set_option maxRecDepth 100000
namespace Go.Proofs.YtmlebgikdegjjaaGreatDoor.Hd
open Go.Maps Go.RowKit Go.Proofs.YtmlebgikdegjjaaGreatDoorW.PrintWords Go.Proofs.YtmlebgikdegjjaaGreatDoorW.PrintLast Go.Proofs.YtmlebgikdegjjaaGreatDoorW.PrintMore Go.Proofs.YtmlebgikdegjjaaGreatDoor.PAll
attribute [local go_sem] max2_int min2_int max_two min_two max_three min_three max_four min_four
set_option linter.unusedVariables false
set_option linter.unusedSimpArgs false
theorem new_good (key : S34 → ByteArray) (k : Nat) (A0 : Option Addr) (c0 : Nat) (l : List S34) (w : World) (M : DataW S34) (hr0 : Kd.C k34 w A0 l.length l) (hc0 : l.length ≤ c0) (hl : l.length ≤ 400)
  (hkey : ∀ d ∈ l,def_Key.f k d.f0 d.f1 d.f2 d.f3 d.f4 d.f5 = some (key d) ∧ (key d).size ≤ 1000000 ∧ d.f3.length ≤ 1000000) (hn : newGo key l (.map []) = (M,0)) :
  Calls Tryz.prog 17 #[.slice A0 l.length c0] w fun e w'=>∃ g b,e = .returned (.tuple #[.pointer (some ⟨g,0,none⟩),.int .i64 0]) ∧ SnF w' w.heap.size (.pointer (some ⟨g,0,none⟩)) M ∧ b = g ∧ Below w.heap.size w w':=by
 refine (new_calls key k A0 c0 l w hr0 hc0 hl hkey).mono ?_
 rintro e w' ⟨vv,rfl,h1,_,hb⟩
 rw [hn] at h1 ⊢
 have h2:=h1 rfl
 obtain ⟨g,b,rfl,h3⟩:=h2
 exact ⟨g,g,rfl,⟨g,b,rfl,h3⟩,rfl,hb⟩
abbrev ex1 : S34:=⟨1,⟨#[65]⟩,⟨#[79,98,106,101,99,116]⟩,[],⟨#[]⟩,⟨#[]⟩⟩
abbrev ex2 : S34:=⟨2,⟨#[65]⟩,⟨#[]⟩,[],⟨#[98]⟩,⟨#[]⟩⟩
def exKey (d : S34) : ByteArray:=(def_Key.f 70 d.f0 d.f1 d.f2 d.f3 d.f4 d.f5).getD ⟨#[]⟩
theorem exKey1 : def_Key.f 70 ex1.f0 ex1.f1 ex1.f2 ex1.f3 ex1.f4 ex1.f5 = some (exKey ex1) ∧ (exKey ex1).size ≤ 1000000:=⟨by kernel_rfl,of_decide_eq_true (by kernel_rfl)⟩
theorem exKey2 : def_Key.f 70 ex2.f0 ex2.f1 ex2.f2 ex2.f3 ex2.f4 ex2.f5 = some (exKey ex2) ∧ (exKey ex2).size ≤ 1000000:=⟨by kernel_rfl,of_decide_eq_true (by kernel_rfl)⟩
def exM : DataW S34:=(newGo exKey [ex1,ex2] (.map [])).1
theorem ex_new : (newGo exKey [ex1,ex2] (.map [])).2 = 0:=by kernel_rfl
theorem ex_size : Maps.size exM = 2:=by kernel_rfl
theorem ex_drop : Maps.size (exM.del (KL ⟨#[65]⟩)) = 1:=by kernel_rfl
theorem awake_calls (w : World) : Calls Tryz.prog 15 #[] w fun e w'=>e = .returned (.bool true) ∧ Below w.heap.size w w':=by
 have hu34:=Tryz.underlying34
 have HB:=As.mk (Below.refl w.heap.size w)
 obtain ⟨zs,hzs⟩ : ∃ zs,zs = [ex1,ex2]:=⟨_,rfl⟩
 have HZS:=As.mk hzs
 have HZL:=As.mk (show zs.length ≤ 400 by rw [hzs];decide)
 have HZK:=As.mk (show ∀ d ∈ zs,def_Key.f 70 d.f0 d.f1 d.f2 d.f3 d.f4 d.f5 = some (exKey d) ∧ (exKey d).size ≤ 1000000 ∧ d.f3.length ≤ 1000000 from fun d hd=>by
  rw [hzs] at hd
  rcases List.mem_cons.1 hd with rfl | hd
  ·exact ⟨exKey1.1,exKey1.2,Nat.zero_le _⟩
  ·rw [List.mem_singleton.1 hd]
   exact ⟨exKey2.1,exKey2.2,Nat.zero_le _⟩)
 have HNG:=As.mk (show newGo exKey zs (.map []) = (exM,0) by rw [hzs];exact Prod.ext rfl ex_new)
 obtain ⟨ys,hys⟩ : ∃ ys,ys = [(⟨#[65]⟩ : ByteArray)]:=⟨_,rfl⟩
 have HYS:=As.mk hys
 have HYK:=As.mk (show ∀ s ∈ ys,s.size ≤ 1000000 from fun s hs=>by rw [hys] at hs;rw [List.mem_singleton.1 hs];decide)
 have HYL:=As.mk (show ys.length ≤ 1000000 by rw [hys];show 1 ≤ 1000000;decide)
 have HDM:=As.mk (show dropM exM ys = exM.del (KL ⟨#[65]⟩) by rw [hys];rfl)
 have HSZ:=As.mk (show Maps.size exM ≤ 1000 by rw [ex_size];decide)
 have hx1:=ex_size
 have hx2:=ex_drop
 clear hzs hys
 go_enter Tryz.func15,Tryz.ntmps15
 go_wp2_with (first | ((with_reducible refine gate_dst (N:=6) rfl ?_);refine Kd.N_lit k34 (w0:=w) w.heap.size 34 ?hg (N':=6) ?hd (xs:=[ex1,ex2]) (inner:=[.int .i64 1,.string ⟨#[65]⟩,.string ⟨#[79,98,106,101,99,116]⟩,.slice none 0 0,.string ⟨#[]⟩,.string ⟨#[]⟩,.int .i64 2,.string ⟨#[65]⟩,.string ⟨#[]⟩,.slice none 0 0,.string ⟨#[98]⟩,.string ⟨#[]⟩]) (ok:=fun _=>True) (okp:=fun _=>True) ?hr ?hp (fun _ hk=>hk) trivial (by repeat (first | (with_reducible first | exact HB.out | apply bA | apply bN | apply bD) | exact HB.out)) ((by repeat (first | (with_reducible first | exact HB.out | apply bA | apply bN | apply bD) | exact HB.out)) : Below w.heap.size w _).size (by simp) ?_;(case hd=>rfl);(case hg=>rfl);(case hr=>first | (go_simp;done) | (go_simp;rfl));(case hp=>exact Reps.c6 (show Kd.FK k34 _ _ ex1 [.int .i64 1,.string ⟨#[65]⟩,.string ⟨#[79,98,106,101,99,116]⟩,.slice none 0 0,.string ⟨#[]⟩,.string ⟨#[]⟩] from fun W' _=>k34_mk W' ex1 (Nat.le_refl _) (Kd.C_nil _ _)) (Reps.c6 (show Kd.FK k34 _ _ ex2 [.int .i64 2,.string ⟨#[65]⟩,.string ⟨#[]⟩,.slice none 0 0,.string ⟨#[98]⟩,.string ⟨#[]⟩] from fun W' _=>k34_mk W' ex2 (Nat.le_refl _) (Kd.C_nil _ _)) (Reps.none _ _)));intro v6 w6 ho hb_ _ _;rw [← HZS.out] at ho;obtain ⟨Az,cz,rfl,hlz,hCz⟩:=Kd.N_reads ho;have HLZ:=As.mk hlz;have HCZ:=As.mk hCz;have n0_:=As.mk hb_;clear HB hb_ ho hlz hCz;have HB:=n0_;have HB6:=As.mk (Below.refl w6.heap.size w6);clear n0_) | (go_at_call 17;(with_reducible refine (new_good exKey 70 Az cz zs _ exM (Kd.C_below HCZ.out (by repeat (first | (with_reducible first | exact HB6.out | apply bA | apply bN | apply bD) | exact HB6.out))) HLZ.out HZL.out HZK.out HNG.out).mono ?_);rintro e w7 ⟨g,b_,rfl,hs_,_,hb_⟩;have HS:=As.mk (show Sn w7 (.pointer (some ⟨g,0,none⟩)) exM from Or.inr hs_.rd);have n0_:=As.mk (bS (by repeat (first | (with_reducible first | exact HB.out | apply bA | apply bN | apply bD) | exact HB.out)) hb_);clear HB hb_ hs_ HB6;have HB:=n0_;have HB7:=As.mk (Below.refl w7.heap.size w7);clear n0_) | (go_at_call 48;(with_reducible refine (len_calls _ (.pointer (some ⟨g,0,none⟩)) exM (HS.out.below (by repeat (first | (with_reducible first | exact HB7.out | apply bA | apply bN | apply bD) | exact HB7.out)))).mono ?_);rintro e wz ⟨rfl,rfl⟩) | ((with_reducible refine gate_dst (N:=23) rfl ?_);(try (refine gate_guard (by rfl) ?_;dsimp only));refine Kd.R_lit Kd.string _ 9 ?hg (N:=23) ?hd (xs:=([⟨#[65]⟩] : List ByteArray)) (inner:=[.string ⟨#[65]⟩]) (ok:=fun _=>True) (okp:=fun _=>True) ?hr ?hp (fun _ hk=>hk) trivial (Below.refl _ _) (Nat.le_refl _) (by simp) ?_;(case hd=>rfl);(case hg=>rfl);(case hr=>first | (go_simp;done) | (go_simp;rfl));(case hp=>exact Reps.one (show Kd.M Kd.string _ _ _ ⟨#[65]⟩ [.string ⟨#[65]⟩] from rfl) (Reps.none _ _));intro v12 w12 ho hb_ _ _;rw [← HYS.out] at ho;obtain ⟨Ak,ck,rfl,hlk,hCk⟩:=Kd.R_reads ho;have HLK:=As.mk hlk;have HCK:=As.mk hCk;have hb7_:=hb_;have n0_:=As.mk (bS (by repeat (first | (with_reducible first | exact HB.out | apply bA | apply bN | apply bD) | exact HB.out)) hb_);clear HB hb_ ho hlk hCk;have HB:=n0_;have HB12:=As.mk (Below.refl w12.heap.size w12);have n1_:=As.mk (bS HB7.out hb7_);clear n0_ HB7 hb7_;have HB7:=n1_;clear n1_) | (go_at_call 20;(with_reducible refine (drop_calls _ _ _ Ak ck ys (HS.out.below (by repeat (first | (with_reducible first | exact HB7.out | apply bA | apply bN | apply bD) | exact HB7.out))) HSZ.out ?s1 HLK.out HYK.out HYL.out).mono ?_);(case s1=>exact C_cells HCK.out (.below (by repeat (first | (with_reducible first | exact HB12.out | apply bA | apply bN | apply bD) | exact HB12.out))));rintro e w5 ⟨vv,rfl,hs_,hb_⟩;rw [HDM.out] at hs_;have HSN:=As.mk (show Sn w5 vv (exM.del (KL ⟨#[65]⟩)) from Or.inr hs_.rd);have n0_:=As.mk (bS (by repeat (first | (with_reducible first | exact HB.out | apply bA | apply bN | apply bD) | exact HB.out)) hb_);clear HB hb_ hs_ HS;have HB:=n0_;clear n0_) | (go_at_call 48;(with_reducible refine (len_calls _ vv (exM.del (KL ⟨#[65]⟩)) HSN.out).mono ?_);rintro e wz ⟨rfl,rfl⟩))
 go_ret
 exact ⟨rfl,(by repeat (first | (with_reducible first | exact HB.out | apply bA | apply bN | apply bD) | exact HB.out))⟩
end Go.Proofs.YtmlebgikdegjjaaGreatDoor.Hd
