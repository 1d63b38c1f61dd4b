/- Plain laws: the map that is meant, and the reference's lists by rising keys. -/
import Derived.Test.YtmlebgikdegjjaaGreatDoorUc
import Derived.Test.YtmlebgikdegjjaaGreatDoorSd
namespace Go.Proofs.YtmlebgikdegjjaaGreatDoor.Hd
open Go.Maps Go.RowKit Go.Proofs.YtmlebgikdegjjaaGreatDoorW.PrintWords Go.Proofs.YtmlebgikdegjjaaGreatDoorW.PrintLast Go.Proofs.YtmlebgikdegjjaaGreatDoorW.PrintMore Go.Proofs.YtmlebgikdegjjaaGreatDoor.PAll
attribute [local go_sem] max2_int min2_int max_two min_two max_three min_three max_four min_four
set_option linter.unusedVariables false
set_option linter.unusedSimpArgs false
theorem before_less : ∀ a b : List UInt8,bytesBefore a b = Op.bytesLess a b
 | [],[]=>rfl
 | [],_ :: _=>rfl
 | _ :: _,[]=>rfl
 | a :: r,b :: s=>by
  unfold bytesBefore Op.bytesLess
  rw [before_less r s]
theorem before_asymm (a b : List UInt8) (h : bytesBefore a b = true) : bytesBefore b a = false:=by
 cases hb : bytesBefore b a with
 | false=>rfl
 | true =>
  have:=WideShapes.bytes_trans _ _ _ h hb
  rw [WideAt.bytes_irrefl] at this
  cases this
def ltK (a b : ByteArray) : Bool:=bytesBefore a.data.toList b.data.toList
theorem ltK_less (a b : ByteArray) : Op.bytesLess a.toList b.toList = ltK a b:=by
 unfold ltK
 rw [before_less,Lib.toList_data,Lib.toList_data]
theorem data_inj {a b : ByteArray} (h : a.data.toList = b.data.toList) : a = b:=by
 obtain ⟨⟨x⟩⟩:=a
 obtain ⟨⟨y⟩⟩:=b
 have h : x = y:=h
 rw [h]
theorem ltK_irrefl (a : ByteArray) : ltK a a = false:=WideAt.bytes_irrefl _
theorem ltK_asymm {a b : ByteArray} (h : ltK a b = true) : ltK b a = false:=before_asymm _ _ h
theorem ltK_trans {a b c : ByteArray} (h : ltK a b = true) (k : ltK b c = true) : ltK a c = true:=WideShapes.bytes_trans _ _ _ h k
theorem ltK_three (a b : ByteArray) : ltK a b = true ∨ a = b ∨ ltK b a = true:=by
 by_cases h : a.data.toList = b.data.toList
 ·exact Or.inr (Or.inl (data_inj h))
 ·rcases WideAt.bytes_total _ _ h with h | h
  ·exact Or.inl h
  ·exact Or.inr (Or.inr h)
theorem ltK_ne {a b : ByteArray} (h : ltK a b = true) : a ≠ b:=fun e=>by
 subst e
 rw [ltK_irrefl] at h
 cases h
theorem same_KL (a b : ByteArray) : (KL a).sameKey (KL b) = decide (a = b):=by
 show (a.data.toList == b.data.toList) = _
 by_cases h : a = b
 ·rw [h,decide_eq_true rfl]
  exact beq_self_eq_true _
 ·rw [decide_eq_false h]
  exact beq_eq_false_iff_ne.mpr fun e=>h (data_inj e)
section
variable (key : S34 → ByteArray)
def putL (d : S34) : List S34 → Bool → List S34
 | [],dn=>if dn = true then [] else [d]
 | x :: l,dn=>(if (!dn && !(ltK (key x) (key d))) = true then [d] else []) ++ ((if key x = key d then [] else [x]) ++ putL d l (dn || !(ltK (key x) (key d))))
def dropL (ks : ByteArray) (l : List S34) : List S34:=l.filter fun x=>!(decide (key x = ks))
def hasL (ks : ByteArray) (l : List S34) : Bool:=l.any fun x=>decide (key x = ks)
def newL : List S34 → List S34 → List S34 × Int
 | [],out=>(out,0)
 | d :: r,out=>if (key d).size = 0 then ([],31) else if hasL key (key d) out = true then ([],45) else newL r (putL key d out false)
variable {key}
theorem putL_mem (d : S34) : ∀ {l : List S34} {b : Bool} {y : S34},y ∈ putL key d l b → y = d ∨ y ∈ l
 | [],true,y,h=>by cases h
 | [],false,y,h=>Or.inl (List.mem_singleton.1 h)
 | x :: l,b,y,h=>by
  unfold putL at h
  rcases List.mem_append.1 h with h | h
  ·split at h
   ·exact Or.inl (List.mem_singleton.1 h)
   ·cases h
  ·rcases List.mem_append.1 h with h | h
   ·split at h
    ·cases h
    ·exact Or.inr (List.mem_cons.2 (Or.inl (List.mem_singleton.1 h)))
   ·rcases putL_mem d h with h | h
    ·exact Or.inl h
    ·exact Or.inr (List.mem_cons_of_mem _ h)
theorem putL_len (d : S34) : ∀ (l : List S34) (b : Bool),(putL key d l b).length ≤ l.length + (if b = true then 0 else 1)
 | [],true=>Nat.le_refl _
 | [],false=>Nat.le_refl _
 | x :: l,b=>by
  unfold putL
  have ih:=putL_len d l (b || !(ltK (key x) (key d)))
  rw [List.length_append,List.length_append,List.length_cons]
  have h2 : (if key x = key d then ([] : List S34) else [x]).length ≤ 1:=by split <;> simp
  cases b <;> cases hk : ltK (key x) (key d) <;> simp [hk] at ih ⊢ <;> omega
end
end Go.Proofs.YtmlebgikdegjjaaGreatDoor.Hd
