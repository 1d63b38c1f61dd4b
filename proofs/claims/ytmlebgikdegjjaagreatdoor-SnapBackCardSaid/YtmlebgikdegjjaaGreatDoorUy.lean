/- SnapNews, walked. -/
import Derived.Test.YtmlebgikdegjjaaGreatDoorUx
import Derived.Test.YtmlebgikdegjjaaGreatDoorUw
import Derived.Test.YtmlebgikdegjjaaGreatDoorUv
import Derived.Test.YtmlebgikdegjjaaGreatDoorPAllx3
import Derived.Test.YtmlebgikdegjjaaGreatDoorPAllx7
import Derived.Test.YtmlebgikdegjjaaGreatDoorPAllx7
import Derived.Test.YtmlebgikdegjjaaGreatDoorPAllx17
import Derived.Test.YtmlebgikdegjjaaGreatDoorPAllx8
import Derived.Test.YtmlebgikdegjjaaGreatDoorPAllx16
namespace Go.Proofs.YtmlebgikdegjjaaGreatDoor.Hd
open Go.Maps Go.RowKit Go.Proofs.YtmlebgikdegjjaaGreatDoorW.PrintWords Go.Proofs.YtmlebgikdegjjaaGreatDoorW.PrintLast Go.Proofs.YtmlebgikdegjjaaGreatDoorW.PrintMore Go.Proofs.YtmlebgikdegjjaaGreatDoor.PAll
attribute [local go_sem] max2_int min2_int max_two min_two max_three min_three max_four min_four
set_option linter.unusedVariables false
set_option linter.unusedSimpArgs false
theorem equal_self (sm : S34 → S34 → Bool) {M : DataW S34} (hc : Maps.Canon M) (he : ∀ k,Maps.has M k = true → ∃ d,∀ z,M.atKey k z = .held d) (h : ∀ x,ElemOf M x → sm x x = true) : equalM sm M M = true:=by
 obtain ⟨ms,rfl,hp,hk⟩:=hc
 unfold equalM Lib.equalFuncD
 rw [decide_eq_true rfl,Bool.true_and]
 refine List.all_eq_true.2 (fun p hp1=>?_)
 have hat:=WideAt.atKey_mem (.nil : DataW S34) (hk p hp1) (apart_of_rising hp) hp1
 have hhas : Maps.has (.map ms) p.1 = true:=List.any_eq_true.2 ⟨p,hp1,WideAt.sameKey_self (hk p hp1)⟩
 obtain ⟨d,hd⟩:=he p.1 hhas
 have hpd : p.2 = .held d:=hat.symm.trans (hd .nil)
 show (Maps.has (.map ms) p.1 && eqS sm p.2 ((DataW.map ms).atKey p.1 .nil)) = true
 rw [hhas,hat,hpd,Bool.true_and]
 exact h d ⟨p.1,hd⟩
theorem elem_mapK {key : S34 → ByteArray} {out : List S34} {x : S34} (h : ElemOf (mapK key out) x) : x ∈ out:=by
 obtain ⟨kl,hk⟩:=h
 have h0:=hk .nil
 unfold mapK at h0
 rw [atKey_find] at h0
 cases hf : (out.map (entK key)).find? fun p=>p.1.sameKey kl with
 | none=>rw [hf] at h0;cases h0
 | some p =>
  rw [hf] at h0
  have h1 : p.2 = .held x:=h0
  obtain ⟨y,hy,rfl⟩:=List.mem_map.1 (List.mem_of_find?_eq_some hf)
  have h2 : (DataW.held y : DataW S34) = .held x:=h1
  injection h2 with h2
  rw [← h2]
  exact hy
theorem same_self (key : S34 → ByteArray) (sm : S34 → S34 → Bool) (k : Nat) (w : World) (v1 v2 : Value) (out : List S34) (h1 : SnR w v1 (mapK key out)) (h2 : SnR w v2 (mapK key out)) (hl : out.length ≤ 1000)
  (hsm : ∀ x ∈ out,∀ y ∈ out,def_Same.f k x.f0 x.f1 x.f2 x.f3 x.f4 x.f5 y.f0 y.f1 y.f2 y.f3 y.f4 y.f5 = some (sm x y)) (hself : ∀ x ∈ out,sm x x = true) :
  Calls Tryz.prog 34 #[v1,v2] w fun e w'=>e = .returned (.bool true) ∧ Below w.heap.size w w':=by
 have h3:=same_calls sm k w v1 v2 (mapK key out) (mapK key out) h1 h2 (by rw [size_mapK];omega) (by rw [size_mapK];omega) (fun x y hx hy=>hsm x (elem_mapK hx) y (elem_mapK hy))
 obtain ⟨_,_,_,_,hm⟩:=h1
 rw [equal_self sm hm.canon hm.elems_ (fun x hx=>hself x (elem_mapK hx))] at h3
 exact h3
theorem write_same (key : S34 → ByteArray) (k : Nat) (w : World) (p : Option Addr) (out : List S34) (h : SnR w (.pointer p) (mapK key out)) (hl : out.length ≤ 500) (hd : ∀ d ∈ out,Wok k d) :
  Calls Tryz.prog 36 #[.pointer p] w fun e w'=>∃ A3 c3,e = .returned (.slice A3 (snapO out).length c3) ∧ (snapO out).length ≤ c3 ∧ Kd.C (Kd.int .u8) w' A3 (snapO out).length (snapO out) ∧ Below w.heap.size w w':=by
 have h1:=write_calls k w p (mapK key out) h (by rw [size_mapK];exact hl) (by rw [vals_mapK];exact hd)
 rw [vals_mapK] at h1
 refine h1.mono ?_
 rintro e w' ⟨vv,rfl,hR,hb⟩
 obtain ⟨A3,c3,rfl,hl3,hC3⟩:=Kd.R_reads hR
 exact ⟨A3,c3,rfl,hl3,hC3,hb⟩
theorem at_mapK {key : S34 → ByteArray} {out : List S34} (hr : Ris key out) {j : Nat} (hj : j < out.length) {z : DataW S34} : (mapK key out).atKey (KL (key out[j])) z = .held out[j]:=by
 unfold mapK
 rw [atKey_find]
 cases hf : (out.map (entK key)).find? fun p=>p.1.sameKey (KL (key out[j])) with
 | none =>
  have h1:=List.find?_eq_none.1 hf (entK key out[j]) (List.mem_map.2 ⟨_,List.getElem_mem hj,rfl⟩)
  refine absurd ?_ h1
  show (KL (key out[j])).sameKey (KL (key out[j])) = true
  rw [same_KL]
  exact decide_eq_true rfl
 | some p =>
  obtain ⟨y,hy,rfl⟩:=List.mem_map.1 (List.mem_of_find?_eq_some hf)
  have h1:=List.find?_some hf
  have h2 : (KL (key y)).sameKey (KL (key out[j])) = true:=h1
  rw [same_KL] at h2
  rw [ris_key hr hy (List.getElem_mem hj) (of_decide_eq_true h2)]
  rfl
end Go.Proofs.YtmlebgikdegjjaaGreatDoor.Hd
