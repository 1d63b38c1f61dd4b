/- The sorted keys of a snapshot's map. -/
import Derived.Test.YtmlebgikdegjjaaGreatDoorSa
import Derived.Test.YtmlebgikdegjjaaGreatDoorIt
namespace Go.Proofs.YtmlebgikdegjjaaGreatDoor.Hd
open Go.Maps Go.RowKit Go.Proofs.YtmlebgikdegjjaaGreatDoorW.PrintWords Go.Proofs.YtmlebgikdegjjaaGreatDoorW.PrintLast Go.Proofs.YtmlebgikdegjjaaGreatDoorW.PrintMore Go.Proofs.YtmlebgikdegjjaaGreatDoor.PAll
attribute [local go_sem] max2_int min2_int max_two min_two max_three min_three max_four min_four
set_option linter.unusedVariables false
set_option linter.unusedSimpArgs false
def keysM (M : DataW S34) : List ByteArray:=(strKeys M).map fun l=>⟨l.toArray⟩
theorem before_lt : ∀ (a b : List UInt8),bytesBefore a b = true → a < b
 | [],[],h=>by cases h
 | [],b :: s,_=>List.nil_lt_cons b s
 | a :: r,[],h=>by cases h
 | a :: r,b :: s,h=>by
  unfold bytesBefore at h
  rw [List.cons_lt_cons_iff]
  rcases Bool.or_eq_true_iff.1 h with h1 | h1
  ·exact Or.inl (of_decide_eq_true h1)
  ·obtain ⟨h2,h3⟩:=Bool.and_eq_true_iff.1 h1
   exact Or.inr ⟨beq_iff_eq.1 h2,before_lt r s h3⟩
theorem keys_rel {w : World} {D : DataW Value} {M : DataW S34} (h : RelD w D M) : strKeys D = strKeys M:=by
 obtain ⟨es,ms,rfl,rfl,hr⟩:=h
 have h1:=congrArg (List.map strOf) (rel_keys hr)
 rw [List.map_map,List.map_map] at h1
 exact h1
theorem MapD.strings {w : World} {b : Nat} {M : DataW S34} (h : MapD w b M) : ∃ ms,M = .map ms ∧ ms.Pairwise (fun p q=>p.1.before q.1 = true) ∧ ∀ p ∈ ms,∃ x,p.1 = .string x ∧ x.length ≤ maxLen:=by
 obtain ⟨ms,hM,hp,_⟩:=h.canon
 refine ⟨ms,hM,hp,fun p hp1=>?_⟩
 obtain ⟨D,ho,es,ms',rfl,e2,hr⟩:=h
 rw [hM] at e2
 cases e2
 obtain ⟨es',he,hk⟩:=ho.keysOf
 cases he
 have h2 : p.1 ∈ ms.map (·.1):=List.mem_map.2 ⟨p,hp1,rfl⟩
 rw [← rel_keys hr] at h2
 obtain ⟨q,hq,e⟩:=List.mem_map.1 h2
 obtain ⟨v,hv⟩:=hk q hq
 obtain ⟨x,_,hx,hl⟩:=Maps.keyOf_str Tryz.underlying9 hv
 exact ⟨x,by rw [← e,hx],hl⟩
theorem MapD.keys_sorted {w : World} {b : Nat} {M : DataW S34} (h : MapD w b M) : (strKeys M).Pairwise (fun x y=>leB x y = true):=by
 obtain ⟨ms,rfl,hp,hs⟩:=h.strings
 show (ms.map fun p=>strOf p.1).Pairwise _
 refine List.pairwise_map.2 (hp.imp_of_mem fun {p q} hp' hq' hb=>?_)
 obtain ⟨x,hx,_⟩:=hs p hp'
 obtain ⟨y,hy,_⟩:=hs q hq'
 rw [hx,hy] at hb ⊢
 exact decide_eq_true (List.le_of_lt (before_lt x y hb))
theorem keys_len {w : World} {b : Nat} {M : DataW S34} (h : MapD w b M) : (keysM M).length = Maps.size M:=by
 obtain ⟨ms,rfl,_,_⟩:=h.strings
 show ((ms.map fun p=>strOf p.1).map _).length = ms.length
 rw [List.length_map,List.length_map]
theorem MapD.elems_ {w : World} {b : Nat} {M : DataW S34} (h : MapD w b M) : ∀ k,Maps.has M k = true → ∃ d,∀ z,M.atKey k z = .held d:=fun k hk=>by
 obtain ⟨D,_,hr⟩:=h
 rcases hr.look k with ⟨_,h2⟩ | ⟨_,_,_,d,_,h4,_⟩
 ·rw [hk] at h2
  cases h2
 ·exact ⟨d,h4⟩
theorem sorted_calls (w : World) (b : Nat) (M : DataW S34) (h : MapD w b M) (hz : Maps.size M ≤ 1000) :
  CallsIn Fence.wide 5 Tryz.prog 93 #[.func (.func 139) #[] #[.pointer (some ⟨w.heap.size,0,none⟩)]] (w.alloc (.cells #[.map (some b)] 86)) fun e w'=>∃ Ak ck,e = .returned (.slice Ak (keysM M).length ck) ∧ Kd.string.C w' Ak (keysM M).length (keysM M) ∧ Below (w.alloc (.cells #[.map (some b)] 86)).heap.size (w.alloc (.cells #[.map (some b)] 86)) w':=by
 have hks:=h.keys_sorted
 have hkl:=keys_len h
 obtain ⟨D,ho,hr⟩:=h
 refine (Tryz.slices_Sorted_keys_93_106 b _ D RV w ho (by rw [hr.size];simp only [maxLen];omega) (by rw [hr.size];omega)).mono ?_
 rintro e w' ⟨v,ss,rfl,hp,hrow,_,hb⟩
 have h1 : ss.mergeSort (fun x y=>decide (x ≤ y)) = strKeys M:=by
  have h2:=mergeSort_of_perm hp
  rw [keys_rel hr] at h2
  exact h2.trans (List.mergeSort_of_pairwise hks)
 have hlen : ss.length = (keysM M).length:=by
  have h3:=hp.length_eq
  rw [keys_rel hr] at h3
  rw [h3]
  unfold keysM
  rw [List.length_map]
 rw [h1,hlen] at hrow
 have hreps : Reps (Kd.string.K w') 1 (keysM M) ((strKeys M).map Go.Proofs.encStr):=by
  refine ⟨by unfold keysM;rw [List.length_map,List.length_map,Nat.mul_one],fun j p hj=>?_⟩
  unfold keysM at hj
  rw [List.getElem?_map] at hj
  obtain ⟨x,hx,rfl⟩:=Option.map_eq_some_iff.1 hj
  obtain ⟨hlt,hxe⟩:=List.getElem?_eq_some_iff.1 hx
  show _ = _
  rw [Nat.mul_one,List.drop_eq_getElem_cons (by rw [List.length_map];exact hlt),List.getElem_map,hxe]
  rfl
 obtain ⟨Ak,ck,rfl,hC⟩:=own_reads_row hrow hreps rfl
 exact ⟨Ak,ck,rfl,hC,hb⟩
end Go.Proofs.YtmlebgikdegjjaaGreatDoor.Hd
