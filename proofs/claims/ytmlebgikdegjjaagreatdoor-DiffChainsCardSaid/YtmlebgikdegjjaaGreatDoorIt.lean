/- slices.Sorted(maps.Keys(m)) at this seat's map types: the shelf's layings in plain words, and the contracts over them. -/
import Derived.Shelf.SlIter.Nil
import Derived.Shelf.SortM.Plain
import Derived.Shelf.SortM.SortNone
import Derived.Test.YtmlebgikdegjjaaGreatDoorProg
set_option maxHeartbeats 1000000
set_option maxRecDepth 100000
namespace Go.Proofs
open Go.RowKit Go.Maps Go.Sort Go.Shelf
set_option linter.unusedVariables false
def Tryz.keys94_ren : Go.Shelf.Ren:=⟨fun | 7=>94 | 10=>130 | n=>n,fun | 23=>123 | 26=>9 | 3=>4 | 28=>127 | 0=>0 | 27=>126 | 33=>96 | 4=>4 | n=>n,fun | n=>n⟩
theorem Tryz.keys94 : Go.Proofs.SlLaysZ.n7 Tryz.prog Tryz.keys94_ren:={
  mixed:=by kernel_rfl
  f7:=⟨Tryz.f94.name,by decide,Tryz.func94.trans (congrArg some (by kernel_rfl))⟩
  f10:=⟨Tryz.f130.name,by decide,Tryz.func130.trans (congrArg some (by kernel_rfl))⟩
  t0:=Tryz.underlying0
  a0:=Tryz.isAgg0
  z0:=Tryz.sizeOf0
  v0:=Tryz.zeroValue0
  t4:=Tryz.underlying4
  a4:=Tryz.isAgg4
  z4:=Tryz.sizeOf4
  v4:=Tryz.zeroValue4
  t23:=Tryz.underlying123
  a23:=Tryz.isAgg123
  z23:=Tryz.sizeOf123
  v23:=Tryz.zeroValue123
  t26:=Tryz.underlying9
  a26:=Tryz.isAgg9
  z26:=Tryz.sizeOf9
  v26:=Tryz.zeroValue9
  t27:=Tryz.underlying126
  a27:=Tryz.isAgg126
  z27:=Tryz.sizeOf126
  v27:=Tryz.zeroValue126
  t28:=Tryz.underlying127
  a28:=Tryz.isAgg127
  z28:=Tryz.sizeOf127
  v28:=Tryz.zeroValue127
  t33:=Tryz.underlying96
  a33:=Tryz.isAgg96
  z33:=Tryz.sizeOf96
  v33:=Tryz.zeroValue96 }
def Tryz.sorted93_ren : Go.Shelf.Ren:=⟨fun | 6=>93 | 8=>129 | 9=>87 | 11=>160 | 13=>127 | 12=>126 | 23=>158 | 24=>159 | 14=>149 | 15=>150 | 16=>151 | 17=>152 | 18=>153 | 19=>154 | 20=>155 | 21=>156 | 22=>157 | 25=>171 | 26=>172 | 27=>173 | 28=>174 | 29=>175 | 30=>176 | 31=>192 | n=>n,fun | 26=>9 | 28=>127 | 24=>32 | 0=>0 | 3=>3 | 37=>157 | 48=>178 | 50=>147 | 4=>4 | 40=>170 | 39=>169 | 45=>175 | 5=>5 | 9=>9 | 51=>186 | 55=>190 | 57=>203 | 58=>204 | 33=>96 | n=>n,fun | n=>n⟩
theorem Tryz.sorted93 : Go.Proofs.SlLaysZ.n6 Tryz.prog Tryz.sorted93_ren:={
  mixed:=by kernel_rfl
  f6:=⟨Tryz.f93.name,by decide,Tryz.func93.trans (congrArg some (by kernel_rfl))⟩
  f8:=⟨Tryz.f129.name,by decide,Tryz.func129.trans (congrArg some (by kernel_rfl))⟩
  f11:=⟨Tryz.f160.name,by decide,Tryz.func160.trans (congrArg some (by kernel_rfl))⟩
  t0:=Tryz.underlying0
  a0:=Tryz.isAgg0
  z0:=Tryz.sizeOf0
  v0:=Tryz.zeroValue0
  t24:=Tryz.underlying32
  a24:=Tryz.isAgg32
  z24:=Tryz.sizeOf32
  v24:=Tryz.zeroValue32
  t26:=Tryz.underlying9
  a26:=Tryz.isAgg9
  z26:=Tryz.sizeOf9
  v26:=Tryz.zeroValue9
  t28:=Tryz.underlying127
  a28:=Tryz.isAgg127
  z28:=Tryz.sizeOf127
  v28:=Tryz.zeroValue127
  i26:=by kernel_rfl }
def Tryz.sort87_ren : Go.Shelf.Ren:=⟨fun | 6=>87 | 8=>127 | 9=>126 | 19=>158 | 20=>159 | 21=>149 | 22=>150 | 23=>151 | 24=>152 | 25=>153 | 26=>154 | 27=>155 | 28=>156 | 29=>157 | 36=>171 | 31=>172 | 32=>173 | 37=>174 | 38=>175 | 39=>176 | 41=>192 | n=>n,fun | 27=>32 | 29=>9 | 3=>3 | 32=>157 | 26=>32 | 0=>0 | 44=>178 | 46=>147 | 4=>4 | 36=>170 | 35=>169 | 41=>175 | 5=>5 | 9=>9 | 53=>186 | 57=>190 | 63=>203 | 64=>204 | n=>n,fun | n=>n⟩
theorem Tryz.sort87 : Go.Proofs.SlLaysM.n6 Tryz.prog Tryz.sort87_ren:={
  mixed:=by kernel_rfl
  f6:=⟨Tryz.f87.name,by decide,Tryz.func87.trans (congrArg some (by kernel_rfl))⟩
  f8:=Tryz.func127.trans (congrArg some (by kernel_rfl))
  f9:=⟨Tryz.f126.name,by decide,Tryz.func126.trans (congrArg some (by kernel_rfl))⟩
  f19:=Tryz.func158.trans (congrArg some (by kernel_rfl))
  f20:=Tryz.func159.trans (congrArg some (by kernel_rfl))
  f21:=⟨Tryz.f149.name,by decide,Tryz.func149.trans (congrArg some (by kernel_rfl))⟩
  f22:=⟨Tryz.f150.name,by decide,Tryz.func150.trans (congrArg some (by kernel_rfl))⟩
  f23:=⟨Tryz.f151.name,by decide,Tryz.func151.trans (congrArg some (by kernel_rfl))⟩
  f24:=⟨Tryz.f152.name,by decide,Tryz.func152.trans (congrArg some (by kernel_rfl))⟩
  f25:=⟨Tryz.f153.name,by decide,Tryz.func153.trans (congrArg some (by kernel_rfl))⟩
  f26:=⟨Tryz.f154.name,by decide,Tryz.func154.trans (congrArg some (by kernel_rfl))⟩
  f27:=⟨Tryz.f155.name,by decide,Tryz.func155.trans (congrArg some (by kernel_rfl))⟩
  f28:=⟨Tryz.f156.name,by decide,Tryz.func156.trans (congrArg some (by kernel_rfl))⟩
  f29:=⟨Tryz.f157.name,by decide,Tryz.func157.trans (congrArg some (by kernel_rfl))⟩
  f31:=Tryz.func172.trans (congrArg some (by kernel_rfl))
  f32:=Tryz.func173.trans (congrArg some (by kernel_rfl))
  f36:=⟨Tryz.f171.name,by decide,Tryz.func171.trans (congrArg some (by kernel_rfl))⟩
  f37:=⟨Tryz.f174.name,by decide,Tryz.func174.trans (congrArg some (by kernel_rfl))⟩
  f38:=⟨Tryz.f175.name,by decide,Tryz.func175.trans (congrArg some (by kernel_rfl))⟩
  f39:=⟨Tryz.f176.name,by decide,Tryz.func176.trans (congrArg some (by kernel_rfl))⟩
  f41:=⟨Tryz.f192.name,by decide,Tryz.func192.trans (congrArg some (by kernel_rfl))⟩
  t0:=Tryz.underlying0
  a0:=Tryz.isAgg0
  z0:=Tryz.sizeOf0
  v0:=Tryz.zeroValue0
  t3:=Tryz.underlying3
  a3:=Tryz.isAgg3
  z3:=Tryz.sizeOf3
  v3:=Tryz.zeroValue3
  t4:=Tryz.underlying4
  a4:=Tryz.isAgg4
  z4:=Tryz.sizeOf4
  v4:=Tryz.zeroValue4
  t5:=Tryz.underlying5
  a5:=Tryz.isAgg5
  z5:=Tryz.sizeOf5
  v5:=Tryz.zeroValue5
  t9:=Tryz.underlying9
  a9:=Tryz.isAgg9
  z9:=Tryz.sizeOf9
  v9:=Tryz.zeroValue9
  t26:=Tryz.underlying32
  a26:=Tryz.isAgg32
  z26:=Tryz.sizeOf32
  v26:=Tryz.zeroValue32
  t27:=Tryz.underlying32
  a27:=Tryz.isAgg32
  z27:=Tryz.sizeOf32
  v27:=Tryz.zeroValue32
  t29:=Tryz.underlying9
  a29:=Tryz.isAgg9
  z29:=Tryz.sizeOf9
  v29:=Tryz.zeroValue9
  t32:=Tryz.underlying157
  a32:=Tryz.isAgg157
  z32:=Tryz.sizeOf157
  v32:=Tryz.zeroValue157
  t35:=Tryz.underlying169
  a35:=Tryz.isAgg169
  z35:=Tryz.sizeOf169
  v35:=Tryz.zeroValue169
  t36:=Tryz.underlying170
  a36:=Tryz.isAgg170
  z36:=Tryz.sizeOf170
  v36:=Tryz.zeroValue170
  t41:=Tryz.underlying175
  a41:=Tryz.isAgg175
  z41:=Tryz.sizeOf175
  v41:=Tryz.zeroValue175
  t44:=Tryz.underlying178
  a44:=Tryz.isAgg178
  z44:=Tryz.sizeOf178
  v44:=Tryz.zeroValue178
  t46:=Tryz.underlying147
  a46:=Tryz.isAgg147
  z46:=Tryz.sizeOf147
  v46:=Tryz.zeroValue147
  t53:=Tryz.underlying186
  a53:=Tryz.isAgg186
  z53:=Tryz.sizeOf186
  v53:=Tryz.zeroValue186
  t57:=Tryz.underlying190
  a57:=Tryz.isAgg190
  z57:=Tryz.sizeOf190
  v57:=Tryz.zeroValue190
  t63:=Tryz.underlying203
  a63:=Tryz.isAgg203
  z63:=Tryz.sizeOf203
  v63:=Tryz.zeroValue203
  t64:=Tryz.underlying204
  a64:=Tryz.isAgg204
  z64:=Tryz.sizeOf204
  v64:=Tryz.zeroValue204 }
def Tryz.keys106_ren : Go.Shelf.Ren:=⟨fun | 7=>106 | 10=>139 | n=>n,fun | 23=>86 | 26=>9 | 3=>34 | 28=>127 | 0=>0 | 27=>126 | 33=>96 | 4=>4 | n=>n,fun | n=>n⟩
theorem Tryz.keys106 : Go.Proofs.SlLaysZ.n7 Tryz.prog Tryz.keys106_ren:={
  mixed:=by kernel_rfl
  f7:=⟨Tryz.f106.name,by decide,Tryz.func106.trans (congrArg some (by kernel_rfl))⟩
  f10:=⟨Tryz.f139.name,by decide,Tryz.func139.trans (congrArg some (by kernel_rfl))⟩
  t0:=Tryz.underlying0
  a0:=Tryz.isAgg0
  z0:=Tryz.sizeOf0
  v0:=Tryz.zeroValue0
  t4:=Tryz.underlying4
  a4:=Tryz.isAgg4
  z4:=Tryz.sizeOf4
  v4:=Tryz.zeroValue4
  t23:=Tryz.underlying86
  a23:=Tryz.isAgg86
  z23:=Tryz.sizeOf86
  v23:=Tryz.zeroValue86
  t26:=Tryz.underlying9
  a26:=Tryz.isAgg9
  z26:=Tryz.sizeOf9
  v26:=Tryz.zeroValue9
  t27:=Tryz.underlying126
  a27:=Tryz.isAgg126
  z27:=Tryz.sizeOf126
  v27:=Tryz.zeroValue126
  t28:=Tryz.underlying127
  a28:=Tryz.isAgg127
  z28:=Tryz.sizeOf127
  v28:=Tryz.zeroValue127
  t33:=Tryz.underlying96
  a33:=Tryz.isAgg96
  z33:=Tryz.sizeOf96
  v33:=Tryz.zeroValue96 }
theorem Tryz.sorts93 (m : Nat) : AnyZ.SortsIn Tryz.prog Tryz.sorted93_ren Fence.wide m :=
  ⟨fun blk off cap ss W hH hblk hsz=>callsIn_wide.2 (AnyM.slices_Sort_string Tryz.sort87 blk off cap ss W hH hblk hsz),
   fun p cap W=>callsIn_wide.2 (AnyM.slices_Sort_string_none Tryz.sort87 p cap W)⟩
theorem Tryz.maps_Keys_94 (mb : Option Nat) (W : World) : CallsIn Fence.wide 5 Tryz.prog 94 #[.map mb] W fun e w'=>e = .returned (.func (.func 130) #[] #[.pointer (some ⟨W.heap.size,0,none⟩)]) ∧ w' = W.alloc (.cells #[.map mb] 123) :=
  AnyZ.keys_in Tryz.keys94 Fence.wide 5 trivial rfl mb W
theorem Tryz.slices_Sorted_keys_93_94 {H : Type} (b nn : Nat) (D0 : DataW H) (R : Value → Option (DataW H × List MemPlace)) (w : World) (hown : w.ownsMap Tryz.prog 9 R b nn D0) (hmax : Maps.size D0 ≤ maxLen) (hbytes : Maps.size D0 * 16 ≤ 140737488355328) :
    CallsIn Fence.wide 5 Tryz.prog 93 #[.func (.func 130) #[] #[.pointer (some ⟨w.heap.size,0,none⟩)]] (w.alloc (.cells #[.map (some b)] 123)) fun e w'=>∃ (v : Value) (ss : List (List UInt8)),e = .returned v ∧ ss.Perm (strKeys D0) ∧
      w'.ownsRow (w.alloc (.cells #[.map (some b)] 123)).heap.size 9 1 v ss.length ((ss.mergeSort (fun x y=>decide (x ≤ y))).map encStr) ∧ (v = .slice none 0 0 ↔ ss = []) ∧ Below (w.alloc (.cells #[.map (some b)] 123)).heap.size (w.alloc (.cells #[.map (some b)] 123)) w':=by
  have hbl:=hown.lt
  have hseq : SeqGives Fence.wide 2 Tryz.prog 130 #[.pointer (some ⟨w.heap.size,0,none⟩)] encStr (fun ss=>ss.Perm (strKeys D0)) (Maps.size D0) (w.alloc (.cells #[.map (some b)] 123)) :=
    AnyZ.keys_gives (ρ:=Tryz.keys94_ren) { Tryz.keys94 with } Fence.wide _ trivial rfl (by omega) w.heap.size b nn D0 _ (by simp) (by simp) (by
      obtain ⟨es,clock,hb,Ft,hs,hD⟩:=hown
      exact ⟨es,clock,(Below.heap_alloc _ _ b hbl).trans hb,Ft,hs,hD⟩)
  exact AnyZ.sorted_in Tryz.sorted93 Fence.wide 5 trivial trivial trivial trivial rfl (by omega) (Tryz.sorts93 _) (enters_of Tryz.func87 (by kernel_rfl) rfl) 130 #[.pointer (some ⟨w.heap.size,0,none⟩)] trivial (enters_of Tryz.func130 (by kernel_rfl) rfl) _ _ hmax hbytes _ hseq
theorem Tryz.maps_Keys_106 (mb : Option Nat) (W : World) : CallsIn Fence.wide 5 Tryz.prog 106 #[.map mb] W fun e w'=>e = .returned (.func (.func 139) #[] #[.pointer (some ⟨W.heap.size,0,none⟩)]) ∧ w' = W.alloc (.cells #[.map mb] 86) :=
  AnyZ.keys_in Tryz.keys106 Fence.wide 5 trivial rfl mb W
theorem Tryz.slices_Sorted_keys_93_106 {H : Type} (b nn : Nat) (D0 : DataW H) (R : Value → Option (DataW H × List MemPlace)) (w : World) (hown : w.ownsMap Tryz.prog 9 R b nn D0) (hmax : Maps.size D0 ≤ maxLen) (hbytes : Maps.size D0 * 16 ≤ 140737488355328) :
    CallsIn Fence.wide 5 Tryz.prog 93 #[.func (.func 139) #[] #[.pointer (some ⟨w.heap.size,0,none⟩)]] (w.alloc (.cells #[.map (some b)] 86)) fun e w'=>∃ (v : Value) (ss : List (List UInt8)),e = .returned v ∧ ss.Perm (strKeys D0) ∧
      w'.ownsRow (w.alloc (.cells #[.map (some b)] 86)).heap.size 9 1 v ss.length ((ss.mergeSort (fun x y=>decide (x ≤ y))).map encStr) ∧ (v = .slice none 0 0 ↔ ss = []) ∧ Below (w.alloc (.cells #[.map (some b)] 86)).heap.size (w.alloc (.cells #[.map (some b)] 86)) w':=by
  have hbl:=hown.lt
  have hseq : SeqGives Fence.wide 2 Tryz.prog 139 #[.pointer (some ⟨w.heap.size,0,none⟩)] encStr (fun ss=>ss.Perm (strKeys D0)) (Maps.size D0) (w.alloc (.cells #[.map (some b)] 86)) :=
    AnyZ.keys_gives (ρ:=Tryz.keys106_ren) { Tryz.keys106 with } Fence.wide _ trivial rfl (by omega) w.heap.size b nn D0 _ (by simp) (by simp) (by
      obtain ⟨es,clock,hb,Ft,hs,hD⟩:=hown
      exact ⟨es,clock,(Below.heap_alloc _ _ b hbl).trans hb,Ft,hs,hD⟩)
  exact AnyZ.sorted_in Tryz.sorted93 Fence.wide 5 trivial trivial trivial trivial rfl (by omega) (Tryz.sorts93 _) (enters_of Tryz.func87 (by kernel_rfl) rfl) 139 #[.pointer (some ⟨w.heap.size,0,none⟩)] trivial (enters_of Tryz.func139 (by kernel_rfl) rfl) _ _ hmax hbytes _ hseq
theorem Tryz.slices_Sorted_keys_nil_93_106 (w : World) :
    CallsIn Fence.wide 5 Tryz.prog 93 #[.func (.func 139) #[] #[.pointer (some ⟨w.heap.size,0,none⟩)]] (w.alloc (.cells #[.map none] 86)) fun e w'=>∃ (v : Value) (ss : List (List UInt8)),e = .returned v ∧ ss = [] ∧
      w'.ownsRow (w.alloc (.cells #[.map none] 86)).heap.size 9 1 v ss.length ((ss.mergeSort (fun x y=>decide (x ≤ y))).map encStr) ∧ (v = .slice none 0 0 ↔ ss = []) ∧ Below (w.alloc (.cells #[.map none] 86)).heap.size (w.alloc (.cells #[.map none] 86)) w':=by
  have hseq : SeqGives Fence.wide 2 Tryz.prog 139 #[.pointer (some ⟨w.heap.size,0,none⟩)] encStr (fun ss : List (List UInt8)=>ss = []) 0 (w.alloc (.cells #[.map none] 86)) :=
    AnyZ.keys_gives_nil (ρ:=Tryz.keys106_ren) { Tryz.keys106 with } Fence.wide _ trivial rfl w.heap.size _ (by simp) (by simp)
  exact AnyZ.sorted_in Tryz.sorted93 Fence.wide 5 trivial trivial trivial trivial rfl (by omega) (Tryz.sorts93 _) (enters_of Tryz.func87 (by kernel_rfl) rfl) 139 #[.pointer (some ⟨w.heap.size,0,none⟩)] trivial (enters_of Tryz.func139 (by kernel_rfl) rfl) _ 0 (Nat.zero_le _) (by omega) _ hseq
end Go.Proofs
