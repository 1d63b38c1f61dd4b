/- What octets are read as a snapshot. -/
import Derived.Test.YtmlebgikdegjjaaGreatDoorVa
namespace Go.Proofs.YtmlebgikdegjjaaGreatDoor.Hd
open Go.Maps Go.RowKit Go.Proofs.YtmlebgikdegjjaaGreatDoorW.PrintWords Go.Proofs.YtmlebgikdegjjaaGreatDoorW.PrintLast Go.Proofs.YtmlebgikdegjjaaGreatDoorW.PrintMore Go.Proofs.YtmlebgikdegjjaaGreatDoor.PAll
attribute [local go_sem] max2_int min2_int max_two min_two max_three min_three max_four min_four
set_option linter.unusedVariables false
set_option linter.unusedSimpArgs false
def toS (d : DV) : S34:=⟨d.kd,d.c,d.s,d.v,d.l,d.t⟩
section
variable (key : S34 → ByteArray)
def lastA (acc : List S34) : ByteArray:=(acc.getLast?.map key).getD ⟨#[]⟩
def parseL : Nat → List Int → List S34 → List S34 × Int × List Int
 | 0,b,acc=>(acc,0,b)
 | n + 1,b,acc=>if (readR b 0).2.1 ≠ 0 then ([],(readR b 0).2.1,b) else if ltK (lastA key acc) (key (toS (readR b 0).1)) = true then parseL n (readR b 0).2.2.1 (acc ++ [toS (readR b 0).1]) else ([],32,b)
def parseR (bs : List Int) : List S34 × Int :=
 if (numR bs 0).2.2 ≠ 0 then ([],(numR bs 0).2.2) else if (numR bs 0).1 > 500 then ([],21)
 else if (parseL key (numR bs 0).1.toNat (numR bs 0).2.1 []).2.1 ≠ 0 then ([],(parseL key (numR bs 0).1.toNat (numR bs 0).2.1 []).2.1)
 else if (parseL key (numR bs 0).1.toNat (numR bs 0).2.1 []).2.2 ≠ [] then ([],11) else ((parseL key (numR bs 0).1.toNat (numR bs 0).2.1 []).1,0)
variable {key}
theorem last_snoc (acc : List S34) (d : S34) : lastA key (acc ++ [d]) = key d:=by
 unfold lastA
 rw [List.getLast?_concat]
 rfl
theorem above_last : ∀ {acc : List S34} {d : S34},Ris key acc → ltK (lastA key acc) (key d) = true → ∀ y ∈ acc,ltK (key y) (key d) = true:=by
 intro acc d hr h y hy
 have hne : acc ≠ []:=fun e=>by rw [e] at hy;cases hy
 have e:=List.dropLast_concat_getLast hne
 have hl : lastA key acc = key (acc.getLast hne):=by
  unfold lastA
  rw [List.getLast?_eq_some_getLast hne]
  rfl
 rw [hl] at h
 rw [← e] at hy hr
 rcases List.mem_append.1 hy with hy | hy
 ·exact ltK_trans ((List.pairwise_append.1 hr).2.2 y hy _ (List.mem_singleton.2 rfl)) h
 ·rw [List.mem_singleton.1 hy]
  exact h
theorem ris_snoc {acc : List S34} {d : S34} (hr : Ris key acc) (h : ltK (lastA key acc) (key d) = true) : Ris key (acc ++ [d]) ∧ (mapK key acc).put (KL (key d)) (.held d) = mapK key (acc ++ [d]):=by
 have ha:=above_last hr h
 refine ⟨List.pairwise_append.2 ⟨hr,List.pairwise_singleton _ _,fun a h1 b h2=>?_⟩,?_⟩
 ·rw [List.mem_singleton.1 h2]
  exact ha a h1
 ·rw [put_mapK _ hr,putL_last ha]
theorem parseL_fell {n : Nat} {b : List Int} {acc : List S34} {dv : DV} {ed : Int} {b' : List Int} {e' : Int} (h : readR b 0 = (dv,ed,b',e')) (he : ed ≠ 0) : parseL key (n + 1) b acc = ([],ed,b):=by
 unfold parseL
 rw [h,if_pos he]
theorem parseL_next {n : Nat} {b : List Int} {acc : List S34} {dv : DV} {b' : List Int} {e' : Int} (h : readR b 0 = (dv,0,b',e')) (hk : ltK (lastA key acc) (key (toS dv)) = true) : parseL key (n + 1) b acc = parseL key n b' (acc ++ [toS dv]):=by
 rw [parseL,h,if_neg (fun h=>h rfl),if_pos hk]
theorem parseL_order {n : Nat} {b : List Int} {acc : List S34} {dv : DV} {b' : List Int} {e' : Int} (h : readR b 0 = (dv,0,b',e')) (hk : ltK (lastA key acc) (key (toS dv)) = false) : parseL key (n + 1) b acc = ([],32,b):=by
 rw [parseL,h,if_neg (fun h=>h rfl),if_neg (by rw [hk];decide)]
theorem parseR_num {bs : List Int} {n : Int} {b : List Int} {e : Int} (h : numR bs 0 = (n,b,e)) (he : e ≠ 0) : parseR key bs = ([],e):=by
 unfold parseR
 rw [h,if_pos he]
theorem parseR_full {bs : List Int} {n : Int} {b : List Int} (h : numR bs 0 = (n,b,0)) (hn : n > 500) : parseR key bs = ([],21):=by
 unfold parseR
 rw [h,if_neg (fun h=>h rfl),if_pos hn]
theorem parseR_fell {bs : List Int} {n : Int} {b : List Int} (h : numR bs 0 = (n,b,0)) (hn : ¬ n > 500) (he : (parseL key n.toNat b []).2.1 ≠ 0) : parseR key bs = ([],(parseL key n.toNat b []).2.1):=by
 unfold parseR
 rw [h,if_neg (fun h=>h rfl),if_neg hn,if_pos he]
theorem parseR_rest {bs : List Int} {n : Int} {b : List Int} (h : numR bs 0 = (n,b,0)) (hn : ¬ n > 500) (he : (parseL key n.toNat b []).2.1 = 0) (hr : (parseL key n.toNat b []).2.2 ≠ []) : parseR key bs = ([],11):=by
 unfold parseR
 rw [h,if_neg (fun h=>h rfl),if_neg hn,if_neg (fun h=>h he),if_pos hr]
theorem parseR_good {bs : List Int} {n : Int} {b : List Int} (h : numR bs 0 = (n,b,0)) (hn : ¬ n > 500) (he : (parseL key n.toNat b []).2.1 = 0) (hr : (parseL key n.toNat b []).2.2 = []) : parseR key bs = ((parseL key n.toNat b []).1,0):=by
 unfold parseR
 rw [h,if_neg (fun h=>h rfl),if_neg hn,if_neg (fun h=>h he),if_neg (fun h=>h hr)]
end
end Go.Proofs.YtmlebgikdegjjaaGreatDoor.Hd
