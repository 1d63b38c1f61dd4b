/- The shelf's contracts over this seat's translation, in plain words: what this session's texts name. -/
import Derived.Test.YtmlebgikdegjjaaGreatDoorShelf
import Derived.Shelf.Strings.Trim
import Derived.Shelf.Small.Utf8
import Derived.Shelf.Small.Strs
import Derived.Shelf.Strings.Search1
import Derived.Shelf.Strings.Search2
import Derived.Shelf.Strings.Search3
import Derived.Shelf.Strings.Cut
import Derived.Shelf.Strings.Count
import Derived.Shelf.LaysM
import Derived.Shelf.Strings.Shaped
import Derived.Shelf.Strings.Prefix
import Derived.Shelf.Strings.Split
import Derived.Shelf.Strings.AsciiSet
import Derived.Shelf.SortM.Plain
import Derived.Shelf.SortM.SortNone
import Derived.Test.YtmlebgikdegjjaaGreatDoorProg
namespace Go.Proofs
open Go.Shelf
def Tryz.lays160_ren : Go.Shelf.Ren:=⟨fun | 160=>165 | 232=>183 | 231=>182 | 227=>184 | 234=>186 | 233=>185 | 236=>188 | 235=>187 | 228=>195 | 271=>198 | 151=>197 | 197=>196 | 120=>205 | 152=>204 | 260=>203 | 137=>208 | 119=>209 | 224=>180 | 225=>179 | 217=>178 | 266=>193 | n=>n,fun | 9=>9 | 4=>4 | 3=>3 | 5=>5 | 117=>197 | 116=>196 | 0=>0 | 124=>200 | 21=>21 | 105=>208 | 46=>157 | 119=>213 | 139=>216 | 138=>215 | n=>n,fun | 3=>1 | 4=>2 | n=>n⟩
theorem Tryz.lays160 : Go.Proofs.Lays.n160 Tryz.prog Tryz.lays160_ren:={
 mixed:=by kernel_rfl
 f119:=Tryz.func209.trans (congrArg some (by kernel_rfl))
 f120:=Tryz.func205.trans (congrArg some (by kernel_rfl))
 f137:=Tryz.func208.trans (congrArg some (by kernel_rfl))
 f151:=Tryz.func197.trans (congrArg some (by kernel_rfl))
 f152:=Tryz.func204.trans (congrArg some (by kernel_rfl))
 f160:=Tryz.func165.trans (congrArg some (by kernel_rfl))
 f197:=Tryz.func196.trans (congrArg some (by kernel_rfl))
 f217:=Tryz.func178.trans (congrArg some (by kernel_rfl))
 f224:=Tryz.func180.trans (congrArg some (by kernel_rfl))
 f225:=Tryz.func179.trans (congrArg some (by kernel_rfl))
 f227:=Tryz.func184.trans (congrArg some (by kernel_rfl))
 f228:=Tryz.func195.trans (congrArg some (by kernel_rfl))
 f231:=Tryz.func182.trans (congrArg some (by kernel_rfl))
 f232:=Tryz.func183.trans (congrArg some (by kernel_rfl))
 f233:=Tryz.func185.trans (congrArg some (by kernel_rfl))
 f234:=Tryz.func186.trans (congrArg some (by kernel_rfl))
 f235:=Tryz.func187.trans (congrArg some (by kernel_rfl))
 f236:=Tryz.func188.trans (congrArg some (by kernel_rfl))
 f260:=Tryz.func203.trans (congrArg some (by kernel_rfl))
 f266:=Tryz.func193.trans (congrArg some (by kernel_rfl))
 f271:=Tryz.func198.trans (congrArg some (by kernel_rfl))
 t0:=Tryz.underlying0
 a0:=Tryz.isAgg0
 z0:=Tryz.sizeOf0
 v0:=Tryz.zeroValue0
 t3:=Tryz.underlying3
 a3:=Tryz.isAgg3
 z3:=Tryz.sizeOf3
 v3:=Tryz.zeroValue3
 t4:=Tryz.underlying4
 a4:=Tryz.isAgg4
 z4:=Tryz.sizeOf4
 v4:=Tryz.zeroValue4
 t5:=Tryz.underlying5
 a5:=Tryz.isAgg5
 z5:=Tryz.sizeOf5
 v5:=Tryz.zeroValue5
 t9:=Tryz.underlying9
 a9:=Tryz.isAgg9
 z9:=Tryz.sizeOf9
 v9:=Tryz.zeroValue9
 t21:=Tryz.underlying21
 a21:=Tryz.isAgg21
 z21:=Tryz.sizeOf21
 v21:=Tryz.zeroValue21
 t46:=Tryz.underlying157
 a46:=Tryz.isAgg157
 z46:=Tryz.sizeOf157
 v46:=Tryz.zeroValue157
 t105:=Tryz.underlying208
 a105:=Tryz.isAgg208
 z105:=Tryz.sizeOf208
 v105:=Tryz.zeroValue208
 t116:=Tryz.underlying196
 a116:=Tryz.isAgg196
 z116:=Tryz.sizeOf196
 t117:=Tryz.underlying197
 a117:=Tryz.isAgg197
 z117:=Tryz.sizeOf197
 v117:=Tryz.zeroValue197
 t119:=Tryz.underlying213
 a119:=Tryz.isAgg213
 z119:=Tryz.sizeOf213
 t124:=Tryz.underlying200
 a124:=Tryz.isAgg200
 z124:=Tryz.sizeOf200
 v124:=Tryz.zeroValue200
 t138:=Tryz.underlying215
 a138:=Tryz.isAgg215
 z138:=Tryz.sizeOf215
 v138:=Tryz.zeroValue215
 t139:=Tryz.underlying216
 a139:=Tryz.isAgg216
 z139:=Tryz.sizeOf216
 v139:=Tryz.zeroValue216
 g3:=by kernel_rfl
 g4:=by kernel_rfl }
def Tryz.lays102_ren : Go.Shelf.Ren:=⟨fun | 102=>169 | 209=>191 | 207=>202 | n=>n,fun | 9=>9 | 4=>4 | 3=>3 | n=>n,fun | n=>n⟩
theorem Tryz.lays102 : Go.Proofs.Lays.n102 Tryz.prog Tryz.lays102_ren:={
 mixed:=by kernel_rfl
 f102:=Tryz.func169.trans (congrArg some (by kernel_rfl))
 f207:=Tryz.func202.trans (congrArg some (by kernel_rfl))
 f209:=Tryz.func191.trans (congrArg some (by kernel_rfl))
 t3:=Tryz.underlying3
 a3:=Tryz.isAgg3
 z3:=Tryz.sizeOf3
 v3:=Tryz.zeroValue3
 t4:=Tryz.underlying4
 a4:=Tryz.isAgg4
 z4:=Tryz.sizeOf4
 v4:=Tryz.zeroValue4
 t9:=Tryz.underlying9
 a9:=Tryz.isAgg9
 z9:=Tryz.sizeOf9
 v9:=Tryz.zeroValue9 }
open Go.RowKit Go.Lib in
theorem Tryz.strings_TrimSuffix (s p : ByteArray) (w : World) (hs : s.size ≤ 9223372036854775807) :
  Calls Tryz.prog 169 #[.string s,.string p] w fun e w'=>e = .returned (.string ⟨(Lib.trimSuffix s.data.toList p.data.toList).toArray⟩) ∧ w' = w:=Any.strings_TrimSuffix Tryz.lays102 s p w hs
def Tryz.lays221_ren : Go.Shelf.Ren:=⟨fun | 221=>189 | 268=>199 | 138=>200 | 143=>201 | 195=>206 | 197=>196 | 218=>207 | 219=>162 | 260=>203 | 217=>178 | 225=>179 | 224=>180 | 267=>181 | 266=>193 | 314=>194 | n=>n,fun | 9=>9 | 3=>3 | 31=>32 | 4=>4 | 0=>0 | 105=>208 | 21=>21 | 5=>5 | 46=>157 | 119=>213 | 139=>216 | 138=>215 | 146=>206 | 51=>178 | n=>n,fun | 1=>0 | 3=>1 | 4=>2 | n=>n⟩
theorem Tryz.lays221 : Go.Proofs.Lays.n221 Tryz.prog Tryz.lays221_ren:={
 mixed:=by kernel_rfl
 f138:=Tryz.func200.trans (congrArg some (by kernel_rfl))
 f143:=Tryz.func201.trans (congrArg some (by kernel_rfl))
 f195:=Tryz.func206.trans (congrArg some (by kernel_rfl))
 f197:=Tryz.func196.trans (congrArg some (by kernel_rfl))
 f217:=Tryz.func178.trans (congrArg some (by kernel_rfl))
 f218:=Tryz.func207.trans (congrArg some (by kernel_rfl))
 f219:=Tryz.func162.trans (congrArg some (by kernel_rfl))
 f221:=Tryz.func189.trans (congrArg some (by kernel_rfl))
 f224:=Tryz.func180.trans (congrArg some (by kernel_rfl))
 f225:=Tryz.func179.trans (congrArg some (by kernel_rfl))
 f260:=Tryz.func203.trans (congrArg some (by kernel_rfl))
 f266:=Tryz.func193.trans (congrArg some (by kernel_rfl))
 f267:=Tryz.func181.trans (congrArg some (by kernel_rfl))
 f268:=Tryz.func199.trans (congrArg some (by kernel_rfl))
 f314:=Tryz.func194.trans (congrArg some (by kernel_rfl))
 t0:=Tryz.underlying0
 a0:=Tryz.isAgg0
 z0:=Tryz.sizeOf0
 v0:=Tryz.zeroValue0
 t3:=Tryz.underlying3
 a3:=Tryz.isAgg3
 z3:=Tryz.sizeOf3
 v3:=Tryz.zeroValue3
 t4:=Tryz.underlying4
 a4:=Tryz.isAgg4
 z4:=Tryz.sizeOf4
 v4:=Tryz.zeroValue4
 t5:=Tryz.underlying5
 a5:=Tryz.isAgg5
 z5:=Tryz.sizeOf5
 v5:=Tryz.zeroValue5
 t9:=Tryz.underlying9
 a9:=Tryz.isAgg9
 z9:=Tryz.sizeOf9
 v9:=Tryz.zeroValue9
 t21:=Tryz.underlying21
 a21:=Tryz.isAgg21
 z21:=Tryz.sizeOf21
 v21:=Tryz.zeroValue21
 t31:=Tryz.underlying32
 a31:=Tryz.isAgg32
 z31:=Tryz.sizeOf32
 v31:=Tryz.zeroValue32
 t46:=Tryz.underlying157
 a46:=Tryz.isAgg157
 z46:=Tryz.sizeOf157
 v46:=Tryz.zeroValue157
 t51:=Tryz.underlying178
 a51:=Tryz.isAgg178
 z51:=Tryz.sizeOf178
 v51:=Tryz.zeroValue178
 t105:=Tryz.underlying208
 a105:=Tryz.isAgg208
 z105:=Tryz.sizeOf208
 v105:=Tryz.zeroValue208
 t119:=Tryz.underlying213
 a119:=Tryz.isAgg213
 z119:=Tryz.sizeOf213
 t138:=Tryz.underlying215
 a138:=Tryz.isAgg215
 z138:=Tryz.sizeOf215
 v138:=Tryz.zeroValue215
 t139:=Tryz.underlying216
 a139:=Tryz.isAgg216
 z139:=Tryz.sizeOf216
 v139:=Tryz.zeroValue216
 t146:=Tryz.underlying206
 a146:=Tryz.isAgg206
 z146:=Tryz.sizeOf206
 v146:=Tryz.zeroValue206
 g1:=by kernel_rfl
 g3:=by kernel_rfl
 g4:=by kernel_rfl }
end Go.Proofs
