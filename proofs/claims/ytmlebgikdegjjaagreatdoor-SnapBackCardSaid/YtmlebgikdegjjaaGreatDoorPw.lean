/- What the reference writes of definitions and of snapshots. -/
import Derived.Test.YtmlebgikdegjjaaGreatDoorPAllx17
import Derived.Test.YtmlebgikdegjjaaGreatDoorPz
import Derived.Test.YtmlebgikdegjjaaGreatDoorUv
import Derived.Test.YtmlebgikdegjjaaGreatDoorQx
namespace Go.Proofs.YtmlebgikdegjjaaGreatDoor.PAll
open Go.RowKit Go.Proofs.YtmlebgikdegjjaaGreatDoorW.PrintWords Go.Proofs.YtmlebgikdegjjaaGreatDoorW.PrintLast Go.Proofs.YtmlebgikdegjjaaGreatDoor.Hd
set_option linter.unusedVariables false
theorem strOf_bytesN (s : ByteArray) : strOfNums (bytesN s) = s:=by
 apply ByteArray.ext
 apply Array.ext'
 show (bytesN s).map (fun n=>UInt8.ofNat n.toNat) = s.data.toList
 rw [bytesN,List.map_map]
 conv=>rhs;rw [← List.map_id s.data.toList]
 apply List.map_congr_left
 intro b _
 show UInt8.ofNat ((b.toNat : Int)).toNat = b
 rw [Int.toNat_natCast]
 exact UInt8.ofNat_toNat
theorem rightD_kd {kd : Int} {c s : ByteArray} {v : List ByteArray} {l t : ByteArray} (h : rightD kd c s v l t = true) : kd = 1 ∨ kd = 2:=by
 unfold rightD at h
 by_cases h1 : kd = 1
 ·exact Or.inl h1
 ·rw [if_neg h1] at h
  by_cases h2 : kd = 2
  ·exact Or.inr h2
  ·rw [if_neg h2] at h;cases h
theorem listO_small : ∀ (l : List ByteArray),(∀ x ∈ l,x.size ≤ 100) → (l.flatMap textO).length ≤ l.length * 104
 | [],_=>Nat.zero_le _
 | x :: l,h=>by
  rw [List.flatMap_cons,List.length_append,textO_len,List.length_cons]
  have:=h x List.mem_cons_self
  have:=listO_small l (fun y hy=>h y (List.mem_cons_of_mem _ hy))
  omega
theorem defO_len (kd : Int) (c s : ByteArray) (v : List ByteArray) (l t : ByteArray) (hc : c.size ≤ 100) (hs : s.size ≤ 100) (hv : v.length ≤ 30) (hl : l.size ≤ 600) (ht : t.size ≤ 5000) (hx : ∀ x ∈ v,x.size ≤ 100) : (defO kd c s v l t).length ≤ 80000:=by
 have h:=listO_small v hx
 have b4 : ∀ n,(be4 n).length = 4:=fun _=>rfl
 unfold defO
 rw [List.length_append,List.length_append,b4,textO_len]
 split
 ·rw [List.length_append,List.length_append,b4,textO_len];omega
 ·rw [List.length_append,textO_len,textO_len];omega
theorem defS_len {d : SD} (h : smallB d = true) : (defS d).length ≤ 80000:=by
 obtain ⟨a1,a2,a3,a4,a5,a6⟩:=smallD_of h
 exact defO_len d.f0 d.f1 d.f2 d.f3 d.f4 d.f5 a1 a2 a3 a4 a5 a6
theorem write_ok {d : SD} (h : smallB d = true) (hr : rightB d = true) : ∃ K,∀ k,K ≤ k → Wok k d:=by
 obtain ⟨a1,a2,a3,a4,a5,a6⟩:=smallD_of h
 obtain ⟨K,hK⟩:=ev_out (Right_val d.f0 d.f1 d.f2 d.f3 d.f4 d.f5 (by omega) (by omega))
 exact ⟨K,fun k hk=>⟨(hK k hk).trans (congrArg some hr),rightD_kd hr,⟨by omega,by omega,by omega,by omega,by omega⟩,fun x hx=>by have:=a6 x hx;omega,Nat.le_trans (defS_len h) (by decide)⟩⟩
end Go.Proofs.YtmlebgikdegjjaaGreatDoor.PAll
