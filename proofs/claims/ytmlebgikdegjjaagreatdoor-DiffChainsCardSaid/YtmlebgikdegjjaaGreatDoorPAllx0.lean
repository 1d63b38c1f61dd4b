import Derived.Test.YtmlebgikdegjjaaGreatDoorProg
import Derived.Below
import Derived.Deep.Draws
import Derived.Deep.AppendLies
import Derived.Maps.AppendAt
import Derived.OwnWalk
import Derived.Laws.BytesArg
import Derived.Laws.MakeOwn
import Derived.Laws.OwnMore
import Derived.Deep.OwnRows
import Derived.Tactics
import Derived.Lib.ConvBytes
import Derived.Laws.Slices
import Derived.WalkKit
import Derived.KernelRfl
import Derived.RowKit3
import Derived.Deep.LoopGhost
import Derived.Deep.QuietTactic
import Derived.BigQuiet
import Derived.WideLaws
import Derived.Deep.DeepCutAuto
import Derived.Deep.CutBlock
import Derived.Deep.RegionHeld3
import Derived.Laws.Rows
import Derived.Lib.AppendStr
import Derived.ArgAppend
import Derived.Laws.IdiomCopy
import Derived.OrdersHeld
import Derived.Laws.BitsLemmas
import Derived.RowKit
import Derived.Lib.SliceRun
import Derived.Test.YtmlebgikdegjjaaGreatDoorNm
import Derived.Laws.RangeAny
import Derived.Laws.RangeString
import Derived.Test.YtmlebgikdegjjaaGreatDoorShelf
import Derived.Shelf.Strings.SlTrimAscii
import Derived.Lib.OwnBridge
import Derived.WalkMore
import Derived.OwnWalk
import Derived.Test.YtmlebgikdegjjaaGreatDoorWWords
import Derived.Test.YtmlebgikdegjjaaGreatDoorWWords
namespace Go.Proofs.YtmlebgikdegjjaaGreatDoor.PAll
open Go.RowKit Go.Proofs.YtmlebgikdegjjaaGreatDoorW.PrintWords Go.Proofs.YtmlebgikdegjjaaGreatDoorW.PrintLast Go.Proofs.YtmlebgikdegjjaaGreatDoorW.PrintMore
attribute [local go_sem] max2_int min2_int max_two min_two max_three min_three max_four min_four   -- for this text's walks alone
set_option linter.unusedVariables false
set_option linter.unusedSimpArgs false
def errW : Option Int → Value
 | none=>.nilIface
 | some c=>.iface 0 (.int .i64 c)
theorem eN : errW none = .nilIface:=rfl
theorem eS (c : Int) : errW (some c) = .iface 0 (.int .i64 c):=rfl
theorem info9 : (Tryz.prog.info? 9).map (fun i=>(i.zero,i.size,i.bytes)) = some (some (.string ⟨#[]⟩),1,16):=by kernel_rfl
theorem info82 : (Tryz.prog.info? 82).map (fun i=>(i.zero,i.size,i.bytes)) = some (some (.agg #[(.string ⟨#[]⟩),(.slice none 0 0),(.slice none 0 0)]),3,64):=by kernel_rfl
/-! #### struct type 34 -/
structure S34 where
 f0 : Int
 f1 : ByteArray
 f2 : ByteArray
 f3 : (List ByteArray)
 f4 : ByteArray
 f5 : ByteArray
def z34 : S34:=⟨(0 : Int),(⟨#[]⟩ : ByteArray),(⟨#[]⟩ : ByteArray),([] : List ByteArray),(⟨#[]⟩ : ByteArray),(⟨#[]⟩ : ByteArray)⟩
def k34 : Kd S34:=Kd.iso (Kd.pair (Kd.int .i64) (Kd.pair Kd.string (Kd.pair Kd.string (Kd.pair (Kd.slice 9 Kd.string) (Kd.pair Kd.string Kd.string))))) (fun x : S34=>(x.f0,x.f1,x.f2,x.f3,x.f4,x.f5))
theorem k34_open {w : World} {x : S34} {cs : List Value} (h : k34.K w x cs) : ∃ A3 c3,cs = [.int .i64 x.f0,.string x.f1,.string x.f2,.slice A3 x.f3.length c3,.string x.f4,.string x.f5] ∧ x.f3.length ≤ c3 ∧ Kd.string.C w A3 x.f3.length x.f3:=by
 obtain ⟨_,_,rfl,rfl,⟨_,_,rfl,rfl,⟨_,_,rfl,rfl,⟨_,_,rfl,⟨A3,c3,rfl,l3,g3⟩,⟨_,_,rfl,rfl,rfl⟩⟩⟩⟩⟩:=h
 exact ⟨A3,c3,rfl,l3,g3⟩
theorem k34_mk (w : World) (x : S34) {A3 : Option Addr} {c3 : Nat} (l3 : x.f3.length ≤ c3) (g3 : Kd.string.C w A3 x.f3.length x.f3) : k34.K w x [.int .i64 x.f0,.string x.f1,.string x.f2,.slice A3 x.f3.length c3,.string x.f4,.string x.f5]:=⟨[.int .i64 x.f0],[.string x.f1,.string x.f2,.slice A3 x.f3.length c3,.string x.f4,.string x.f5],rfl,rfl,⟨[.string x.f1],[.string x.f2,.slice A3 x.f3.length c3,.string x.f4,.string x.f5],rfl,rfl,⟨[.string x.f2],[.slice A3 x.f3.length c3,.string x.f4,.string x.f5],rfl,rfl,⟨[.slice A3 x.f3.length c3],[.string x.f4,.string x.f5],rfl,⟨A3,c3,rfl,l3,g3⟩,⟨[.string x.f4],[.string x.f5],rfl,rfl,rfl⟩⟩⟩⟩⟩
def rd_T34 (xs : List S34) (i : Int) : S34:=xs.getD i.toNat z34
theorem at_T34 {w : World} {A : Option Addr} {n : Nat} {xs : List S34} (h : Kd.C k34 w A n xs) (i : Int) (h0 : 0 ≤ i) (h1 : i < n) : ∃ ad A3 c3,A = some ad ∧ w.cell? (ad.add (i.toNat * 6)) = some (.int .i64 (rd_T34 xs i).f0) ∧ w.cell? ⟨(ad.add (i.toNat * 6)).block,(ad.add (i.toNat * 6)).off + 1,none⟩ = some (.string (rd_T34 xs i).f1) ∧ w.cell? ⟨(ad.add (i.toNat * 6)).block,(ad.add (i.toNat * 6)).off + 2,none⟩ = some (.string (rd_T34 xs i).f2) ∧ w.cell? ⟨(ad.add (i.toNat * 6)).block,(ad.add (i.toNat * 6)).off + 3,none⟩ = some (.slice A3 (rd_T34 xs i).f3.length c3) ∧ w.cell? ⟨(ad.add (i.toNat * 6)).block,(ad.add (i.toNat * 6)).off + 4,none⟩ = some (.string (rd_T34 xs i).f4) ∧ w.cell? ⟨(ad.add (i.toNat * 6)).block,(ad.add (i.toNat * 6)).off + 5,none⟩ = some (.string (rd_T34 xs i).f5) ∧ (rd_T34 xs i).f3.length ≤ c3 ∧ Kd.string.C w A3 (rd_T34 xs i).f3.length (rd_T34 xs i).f3:=by
 obtain ⟨ad,c,e,_,hK,hc0⟩:=Kd.C_get h z34 i h0 h1
 have hc : ∀ j u,c[j]? = some u → w.cell? (ad.add (i.toNat * 6 + j)) = some u:=hc0
 obtain ⟨A3,c3,rfl,l3,g3⟩:=k34_open hK
 exact ⟨ad,A3,c3,e,hc 0 _ rfl,by rw [← add_field _ _ 1 (by omega)];exact hc 1 _ rfl,by rw [← add_field _ _ 2 (by omega)];exact hc 2 _ rfl,by rw [← add_field _ _ 3 (by omega)];exact hc 3 _ rfl,by rw [← add_field _ _ 4 (by omega)];exact hc 4 _ rfl,by rw [← add_field _ _ 5 (by omega)];exact hc 5 _ rfl,l3,g3⟩
/-! #### struct type 82 -/
structure S82 where
 f0 : ByteArray
 f1 : (List S34)
 f2 : (List S34)
def z82 : S82:=⟨(⟨#[]⟩ : ByteArray),([] : List S34),([] : List S34)⟩
def k82 : Kd S82:=Kd.iso (Kd.pair Kd.string (Kd.pair (Kd.slice 34 k34) (Kd.slice 34 k34))) (fun x : S82=>(x.f0,x.f1,x.f2))
theorem k82_open {w : World} {x : S82} {cs : List Value} (h : k82.K w x cs) : ∃ A1 c1 A2 c2,cs = [.string x.f0,.slice A1 x.f1.length c1,.slice A2 x.f2.length c2] ∧ x.f1.length ≤ c1 ∧ k34.C w A1 x.f1.length x.f1 ∧ x.f2.length ≤ c2 ∧ k34.C w A2 x.f2.length x.f2:=by
 obtain ⟨_,_,rfl,rfl,⟨_,_,rfl,⟨A1,c1,rfl,l1,g1⟩,⟨A2,c2,rfl,l2,g2⟩⟩⟩:=h
 exact ⟨A1,c1,A2,c2,rfl,l1,g1,l2,g2⟩
theorem k82_mk (w : World) (x : S82) {A1 : Option Addr} {c1 : Nat} (l1 : x.f1.length ≤ c1) (g1 : k34.C w A1 x.f1.length x.f1) {A2 : Option Addr} {c2 : Nat} (l2 : x.f2.length ≤ c2) (g2 : k34.C w A2 x.f2.length x.f2) : k82.K w x [.string x.f0,.slice A1 x.f1.length c1,.slice A2 x.f2.length c2]:=⟨[.string x.f0],[.slice A1 x.f1.length c1,.slice A2 x.f2.length c2],rfl,rfl,⟨[.slice A1 x.f1.length c1],[.slice A2 x.f2.length c2],rfl,⟨A1,c1,rfl,l1,g1⟩,⟨A2,c2,rfl,l2,g2⟩⟩⟩
theorem k82_openF {W : World} {ok : Nat → Prop} {x : S82} {cs : List Value} (h : Kd.FK k82 W ok x cs) : ∃ A1 c1 A2 c2,cs = [.string x.f0,.slice A1 x.f1.length c1,.slice A2 x.f2.length c2] ∧ x.f1.length ≤ c1 ∧ Kd.F k34 W ok A1 x.f1.length x.f1 ∧ x.f2.length ≤ c2 ∧ Kd.F k34 W ok A2 x.f2.length x.f2:=by
 obtain ⟨A1,c1,A2,c2,rfl,l1,_,l2,_⟩:=k82_open (Kd.FK_now h)
 exact ⟨A1,c1,A2,c2,rfl,l1,(fun W' hW=>by obtain ⟨A1_,c1_,A2_,c2_,he,l1_,g1_,l2_,g2_⟩:=k82_open (h W' hW);injection (Option.some.inj (show some (Value.slice A1 x.f1.length c1) = some (Value.slice A1_ x.f1.length c1_) from congrArg (fun l=>l[1]?) he)) with ha_ _ _;rw [ha_];exact g1_),l2,(fun W' hW=>by obtain ⟨A1_,c1_,A2_,c2_,he,l1_,g1_,l2_,g2_⟩:=k82_open (h W' hW);injection (Option.some.inj (show some (Value.slice A2 x.f2.length c2) = some (Value.slice A2_ x.f2.length c2_) from congrArg (fun l=>l[2]?) he)) with ha_ _ _;rw [ha_];exact g2_)⟩
theorem k82_mkF (W : World) (ok : Nat → Prop) (x : S82) {A1 : Option Addr} {c1 : Nat} (l1 : x.f1.length ≤ c1) (g1 : Kd.F k34 W ok A1 x.f1.length x.f1) {A2 : Option Addr} {c2 : Nat} (l2 : x.f2.length ≤ c2) (g2 : Kd.F k34 W ok A2 x.f2.length x.f2) : Kd.FK k82 W ok x [.string x.f0,.slice A1 x.f1.length c1,.slice A2 x.f2.length c2]:=fun W2 hW=>k82_mk W2 x l1 (g1 W2 hW) l2 (g2 W2 hW)
def rd_T82 (xs : List S82) (i : Int) : S82:=xs.getD i.toNat z82
theorem at_T82 {w : World} {A : Option Addr} {n : Nat} {xs : List S82} (h : Kd.C k82 w A n xs) (i : Int) (h0 : 0 ≤ i) (h1 : i < n) : ∃ ad A1 c1 A2 c2,A = some ad ∧ w.cell? (ad.add (i.toNat * 3)) = some (.string (rd_T82 xs i).f0) ∧ w.cell? ⟨(ad.add (i.toNat * 3)).block,(ad.add (i.toNat * 3)).off + 1,none⟩ = some (.slice A1 (rd_T82 xs i).f1.length c1) ∧ w.cell? ⟨(ad.add (i.toNat * 3)).block,(ad.add (i.toNat * 3)).off + 2,none⟩ = some (.slice A2 (rd_T82 xs i).f2.length c2) ∧ (rd_T82 xs i).f1.length ≤ c1 ∧ k34.C w A1 (rd_T82 xs i).f1.length (rd_T82 xs i).f1 ∧ (rd_T82 xs i).f2.length ≤ c2 ∧ k34.C w A2 (rd_T82 xs i).f2.length (rd_T82 xs i).f2:=by
 obtain ⟨ad,c,e,_,hK,hc0⟩:=Kd.C_get h z82 i h0 h1
 have hc : ∀ j u,c[j]? = some u → w.cell? (ad.add (i.toNat * 3 + j)) = some u:=hc0
 obtain ⟨A1,c1,A2,c2,rfl,l1,g1,l2,g2⟩:=k82_open hK
 exact ⟨ad,A1,c1,A2,c2,e,hc 0 _ rfl,by rw [← add_field _ _ 1 (by omega)];exact hc 1 _ rfl,by rw [← add_field _ _ 2 (by omega)];exact hc 2 _ rfl,l1,g1,l2,g2⟩
end Go.Proofs.YtmlebgikdegjjaaGreatDoor.PAll
