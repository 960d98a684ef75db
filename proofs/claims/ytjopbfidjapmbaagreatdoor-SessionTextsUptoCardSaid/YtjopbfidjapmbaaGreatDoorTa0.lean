/- PART 0 OF A PROOF: Lean functions, and that the program computes them; written by hand and by a program. Not trusted: Lean checks it. -/
import Derived.BigCall
import Derived.Deep.DeepFit
import Derived.Deep.DeepMust
import Derived.Ground.GgwProg
import Derived.Ground.Names2Prog
import Derived.Ground.SlgnProg
import Derived.Laws.Cover4
import Derived.Lib.Hide
import Derived.Lib.OthersKept
import Derived.LoopIn
import Derived.LoopNIn
import Derived.OwnWalkIn
import Derived.RangeFuncBound
import Derived.RangeFuncCalls
import Derived.RangeFuncLeaves
import Derived.RangeFuncNested
import Derived.RangeFuncWrites
import Derived.Shelf.Abstract
import Derived.Shelf.GgClosure.StringsIndexFunc
import Derived.Shelf.GgClosure.StringsIndexFuncTop
import Derived.Shelf.GgClosure.StringsRunes
import Derived.Shelf.LaysC
import Derived.Shelf.LaysM
import Derived.Shelf.RegionOpen
import Derived.Shelf.Slices.Clone
import Derived.Shelf.SlicesE.Clone
import Derived.Shelf.Small.Strs
import Derived.Shelf.Small.Utf8
import Derived.Shelf.Small.Wraps
import Derived.Shelf.Strconv.Atoi
import Derived.Shelf.Strconv.AtoiAll
import Derived.Shelf.Strconv.AtoiErrFast
import Derived.Shelf.Strconv.AtoiFail
import Derived.Shelf.Strconv.AtoiInnerAll
import Derived.Shelf.Strconv.AtoiLong
import Derived.Shelf.Strconv.Clone
import Derived.Shelf.Strconv.Itoa0
import Derived.Shelf.Strconv.Itoa1
import Derived.Shelf.Strconv.Itoa2
import Derived.Shelf.Strconv.Itoa3
import Derived.Shelf.Strconv.Lower
import Derived.Shelf.Strconv.ParseInt10
import Derived.Shelf.Strconv.ParseIntEmpty
import Derived.Shelf.Strconv.ParseUint10
import Derived.Shelf.Strconv.ParseUint10Any
import Derived.Shelf.Strconv.ParseUint10Empty
import Derived.Shelf.Strconv.ParseUintEmpty
import Derived.Shelf.Strconv.RangeError
import Derived.Shelf.Strconv.SyntaxError
import Derived.Shelf.Strconv.ToError
import Derived.Shelf.Strconv.ToErrorRange
import Derived.Shelf.Strings.AsciiSet
import Derived.Shelf.Strings.Builder1
import Derived.Shelf.Strings.BuilderCap
import Derived.Shelf.Strings.BuilderF
import Derived.Shelf.Strings.BuilderK
import Derived.Shelf.Strings.BuilderRune
import Derived.Shelf.Strings.Cut
import Derived.Shelf.Strings.FuncGrows
import Derived.Shelf.Strings.Prefix
import Derived.Shelf.Strings.Runes
import Derived.Shelf.Strings.Search1
import Derived.Shelf.Strings.Search2
import Derived.Shelf.Strings.Search3
import Derived.Shelf.Strings.Shaped
import Derived.Shelf.Strings.Trim
import Derived.Shelf.Unicode.Decode
import Derived.Shelf.Unicode.DecodeAny
import Derived.Shelf.Unicode.DecodeLast
import Derived.Shelf.Unicode.DecodeSlow
import Derived.Shelf.Utf8.AppendRune
import Derived.Shelf.Utf8.AppendRunePlain
import Derived.TacticsInMore
import Derived.Test.YtjopbfidjapmbaaGreatDoorProg
import Derived.WalkKit
set_option linter.unusedVariables false
set_option linter.unusedSimpArgs false
section
namespace Go.Proofs
open Go.Shelf
def Tryz.lays169_ren : Go.Shelf.Ren:=⟨fun | 169=>23 | n=>n,fun | 70=>61 | 9=>9 | 0=>0 | 72=>64 | 37=>62 | 127=>95 | 3=>3 | 5=>5 | n=>n,fun | n=>n⟩
theorem Tryz.lays169 : Go.Proofs.Lays.n169 Tryz.prog Tryz.lays169_ren:={
  mixed:=by kernel_rfl
  f169:=Tryz.func23.trans (congrArg some (by kernel_rfl))
  t0:=Tryz.underlying0
  a0:=Tryz.isAgg0
  z0:=Tryz.sizeOf0
  v0:=Tryz.zeroValue0
  t3:=Tryz.underlying3
  a3:=Tryz.isAgg3
  z3:=Tryz.sizeOf3
  v3:=Tryz.zeroValue3
  t9:=Tryz.underlying9
  a9:=Tryz.isAgg9
  z9:=Tryz.sizeOf9
  v9:=Tryz.zeroValue9
  t37:=Tryz.underlying62
  a37:=Tryz.isAgg62
  z37:=Tryz.sizeOf62
  v37:=Tryz.zeroValue62
  t70:=Tryz.underlying61
  a70:=Tryz.isAgg61
  z70:=Tryz.sizeOf61
  v70:=Tryz.zeroValue61
  t72:=Tryz.underlying64
  a72:=Tryz.isAgg64
  z72:=Tryz.sizeOf64
  v72:=Tryz.zeroValue64
  t127:=Tryz.underlying95
  a127:=Tryz.isAgg95
  z127:=Tryz.sizeOf95
  v127:=Tryz.zeroValue95 }
theorem Tryz.Builder_Extra_169 : Builder.Extra Tryz.prog Tryz.lays169_ren:={
  sizeBuilder:=by kernel_rfl
  liesBuilder:=by kernel_rfl
  t5:=Tryz.underlying5
  a5:=Tryz.isAgg5
  z5:=Tryz.sizeOf5
  v5:=Tryz.zeroValue5
  infoByte:=by kernel_rfl
  cellsByte:=by kernel_rfl
  sizeByte:=by kernel_rfl
  neB5:=by decide }
def Tryz.lays160_ren : Go.Shelf.Ren:=⟨fun | 160=>89 | 232=>109 | 231=>108 | 227=>110 | 234=>112 | 233=>111 | 236=>114 | 235=>113 | 228=>128 | 271=>130 | 151=>129 | 197=>126 | 120=>136 | 152=>135 | 260=>134 | 137=>137 | 119=>138 | 224=>73 | 225=>72 | 217=>71 | 266=>99 | n=>n,fun | 9=>9 | 4=>4 | 3=>3 | 5=>5 | 117=>173 | 116=>172 | 0=>0 | 124=>176 | 21=>21 | 105=>167 | 46=>122 | 119=>199 | 139=>202 | 138=>201 | n=>n,fun | 3=>6 | 4=>7 | n=>n⟩
theorem Tryz.lays160 : Go.Proofs.Lays.n160 Tryz.prog Tryz.lays160_ren:={
  mixed:=by kernel_rfl
  f119:=Tryz.func138.trans (congrArg some (by kernel_rfl))
  f120:=Tryz.func136.trans (congrArg some (by kernel_rfl))
  f137:=Tryz.func137.trans (congrArg some (by kernel_rfl))
  f151:=Tryz.func129.trans (congrArg some (by kernel_rfl))
  f152:=Tryz.func135.trans (congrArg some (by kernel_rfl))
  f160:=Tryz.func89.trans (congrArg some (by kernel_rfl))
  f197:=Tryz.func126.trans (congrArg some (by kernel_rfl))
  f217:=Tryz.func71.trans (congrArg some (by kernel_rfl))
  f224:=Tryz.func73.trans (congrArg some (by kernel_rfl))
  f225:=Tryz.func72.trans (congrArg some (by kernel_rfl))
  f227:=Tryz.func110.trans (congrArg some (by kernel_rfl))
  f228:=Tryz.func128.trans (congrArg some (by kernel_rfl))
  f231:=Tryz.func108.trans (congrArg some (by kernel_rfl))
  f232:=Tryz.func109.trans (congrArg some (by kernel_rfl))
  f233:=Tryz.func111.trans (congrArg some (by kernel_rfl))
  f234:=Tryz.func112.trans (congrArg some (by kernel_rfl))
  f235:=Tryz.func113.trans (congrArg some (by kernel_rfl))
  f236:=Tryz.func114.trans (congrArg some (by kernel_rfl))
  f260:=Tryz.func134.trans (congrArg some (by kernel_rfl))
  f266:=Tryz.func99.trans (congrArg some (by kernel_rfl))
  f271:=Tryz.func130.trans (congrArg some (by kernel_rfl))
  t0:=Tryz.underlying0
  a0:=Tryz.isAgg0
  z0:=Tryz.sizeOf0
  v0:=Tryz.zeroValue0
  t3:=Tryz.underlying3
  a3:=Tryz.isAgg3
  z3:=Tryz.sizeOf3
  v3:=Tryz.zeroValue3
  t4:=Tryz.underlying4
  a4:=Tryz.isAgg4
  z4:=Tryz.sizeOf4
  v4:=Tryz.zeroValue4
  t5:=Tryz.underlying5
  a5:=Tryz.isAgg5
  z5:=Tryz.sizeOf5
  v5:=Tryz.zeroValue5
  t9:=Tryz.underlying9
  a9:=Tryz.isAgg9
  z9:=Tryz.sizeOf9
  v9:=Tryz.zeroValue9
  t21:=Tryz.underlying21
  a21:=Tryz.isAgg21
  z21:=Tryz.sizeOf21
  v21:=Tryz.zeroValue21
  t46:=Tryz.underlying122
  a46:=Tryz.isAgg122
  z46:=Tryz.sizeOf122
  v46:=Tryz.zeroValue122
  t105:=Tryz.underlying167
  a105:=Tryz.isAgg167
  z105:=Tryz.sizeOf167
  v105:=Tryz.zeroValue167
  t116:=Tryz.underlying172
  a116:=Tryz.isAgg172
  z116:=Tryz.sizeOf172
  t117:=Tryz.underlying173
  a117:=Tryz.isAgg173
  z117:=Tryz.sizeOf173
  v117:=Tryz.zeroValue173
  t119:=Tryz.underlying199
  a119:=Tryz.isAgg199
  z119:=Tryz.sizeOf199
  t124:=Tryz.underlying176
  a124:=Tryz.isAgg176
  z124:=Tryz.sizeOf176
  v124:=Tryz.zeroValue176
  t138:=Tryz.underlying201
  a138:=Tryz.isAgg201
  z138:=Tryz.sizeOf201
  v138:=Tryz.zeroValue201
  t139:=Tryz.underlying202
  a139:=Tryz.isAgg202
  z139:=Tryz.sizeOf202
  v139:=Tryz.zeroValue202
  g3:=by kernel_rfl
  g4:=by kernel_rfl }
open Go.RowKit in
theorem Tryz.strings_Trim_one (s : ByteArray) (c : UInt8) (hc : c.toNat < 128) (w : World) (hs : s.size ≤ 9223372036854775807) :
    Calls Tryz.prog 89 #[.string s,.string ⟨#[c]⟩] w fun e w'=>e = .returned (.string ⟨(Lib.trimB s.data.toList c).toArray⟩) ∧ (w' = w ∨ w' = w.drew):=Any.strings_Trim_one Tryz.lays160 s c hc w hs
def Tryz.lays103_ren : Go.Shelf.Ren:=⟨fun | 103=>47 | 210=>56 | 206=>75 | n=>n,fun | 9=>9 | 4=>4 | 24=>65 | 3=>3 | n=>n,fun | n=>n⟩
theorem Tryz.lays103 : Go.Proofs.Lays.n103 Tryz.prog Tryz.lays103_ren:={
  mixed:=by kernel_rfl
  f103:=Tryz.func47.trans (congrArg some (by kernel_rfl))
  f206:=Tryz.func75.trans (congrArg some (by kernel_rfl))
  f210:=Tryz.func56.trans (congrArg some (by kernel_rfl))
  t3:=Tryz.underlying3
  a3:=Tryz.isAgg3
  z3:=Tryz.sizeOf3
  v3:=Tryz.zeroValue3
  t4:=Tryz.underlying4
  a4:=Tryz.isAgg4
  z4:=Tryz.sizeOf4
  v4:=Tryz.zeroValue4
  t9:=Tryz.underlying9
  a9:=Tryz.isAgg9
  z9:=Tryz.sizeOf9
  v9:=Tryz.zeroValue9
  t24:=Tryz.underlying65
  a24:=Tryz.isAgg65
  z24:=Tryz.sizeOf65
  v24:=Tryz.zeroValue65 }
open Go.RowKit in
theorem Tryz.strings_CutPrefix (s p : ByteArray) (w : World) :
    Calls Tryz.prog 47 #[.string s,.string p] w fun e w'=>e = .returned (.tuple #[.string ⟨(Lib.trimPrefix s.data.toList p.data.toList).toArray⟩,.bool (Lib.hasPrefix s.data.toList p.data.toList)]) ∧ w' = w:=Any.strings_CutPrefix Tryz.lays103 s p w
open Go.RowKit in
theorem Tryz.Builder_String_any_k (B b : Nat) (l : List UInt8) (w : World) (h : Lib.IsBuilderF 64 5 B b (Lib.byteCells l) w) (hBw : B ≤ w.heap.size) :
    Calls Tryz.prog 23 #[.pointer (some ⟨b,0,none⟩)] w fun e w'=>e = .returned (.string ⟨l.toArray⟩) ∧ (Lib.IsBuilderF 64 5 B b (Lib.byteCells l) w' ∧ Below B w w' ∧ Lib.OthersKept 5 (some b) w w'):=Any.Builder_String_any_k Tryz.lays169 Tryz.Builder_Extra_169 B b l w h hBw
def Tryz.lays172_ren : Go.Shelf.Ren:=⟨fun | 172=>48 | 244=>57 | 245=>58 | 247=>76 | 279=>77 | 280=>78 | 281=>79 | 282=>80 | 287=>101 | 316=>102 | 171=>41 | 205=>103 | 321=>123 | 322=>124 | 243=>53 | 246=>70 | 283=>95 | 284=>96 | 285=>97 | 286=>98 | 129=>119 | 317=>118 | 318=>120 | 319=>121 | 320=>122 | 337=>132 | 338=>133 | n=>n,fun | 9=>9 | 3=>3 | 75=>68 | 76=>69 | 4=>4 | 5=>5 | 167=>123 | 37=>62 | 0=>0 | 85=>124 | 2=>2 | 168=>126 | 53=>152 | 175=>160 | 46=>122 | 210=>164 | 127=>95 | 145=>187 | 143=>185 | 21=>21 | 171=>151 | 173=>155 | 212=>181 | 51=>157 | 20=>20 | 213=>182 | 232=>197 | 233=>198 | 80=>71 | n=>n,fun | 15=>1 | 16=>2 | 17=>3 | 18=>4 | 19=>5 | n=>n⟩
theorem Tryz.lays172 : Go.Proofs.Lays.n172 Tryz.prog Tryz.lays172_ren:={
  mixed:=by kernel_rfl
  f129:=Tryz.func119.trans (congrArg some (by kernel_rfl))
  f171:=Tryz.func41.trans (congrArg some (by kernel_rfl))
  f172:=Tryz.func48.trans (congrArg some (by kernel_rfl))
  f205:=Tryz.func103.trans (congrArg some (by kernel_rfl))
  f243:=Tryz.func53.trans (congrArg some (by kernel_rfl))
  f244:=Tryz.func57.trans (congrArg some (by kernel_rfl))
  f245:=Tryz.func58.trans (congrArg some (by kernel_rfl))
  f246:=Tryz.func70.trans (congrArg some (by kernel_rfl))
  f247:=Tryz.func76.trans (congrArg some (by kernel_rfl))
  f279:=Tryz.func77.trans (congrArg some (by kernel_rfl))
  f280:=Tryz.func78.trans (congrArg some (by kernel_rfl))
  f281:=Tryz.func79.trans (congrArg some (by kernel_rfl))
  f282:=Tryz.func80.trans (congrArg some (by kernel_rfl))
  f283:=Tryz.func95.trans (congrArg some (by kernel_rfl))
  f284:=Tryz.func96.trans (congrArg some (by kernel_rfl))
  f285:=Tryz.func97.trans (congrArg some (by kernel_rfl))
  f286:=Tryz.func98.trans (congrArg some (by kernel_rfl))
  f287:=Tryz.func101.trans (congrArg some (by kernel_rfl))
  f316:=Tryz.func102.trans (congrArg some (by kernel_rfl))
  f317:=Tryz.func118.trans (congrArg some (by kernel_rfl))
  f318:=Tryz.func120.trans (congrArg some (by kernel_rfl))
  f319:=Tryz.func121.trans (congrArg some (by kernel_rfl))
  f320:=Tryz.func122.trans (congrArg some (by kernel_rfl))
  f321:=Tryz.func123.trans (congrArg some (by kernel_rfl))
  f322:=Tryz.func124.trans (congrArg some (by kernel_rfl))
  f337:=Tryz.func132.trans (congrArg some (by kernel_rfl))
  f338:=Tryz.func133.trans (congrArg some (by kernel_rfl))
  t0:=Tryz.underlying0
  a0:=Tryz.isAgg0
  z0:=Tryz.sizeOf0
  v0:=Tryz.zeroValue0
  t2:=Tryz.underlying2
  a2:=Tryz.isAgg2
  z2:=Tryz.sizeOf2
  v2:=Tryz.zeroValue2
  t3:=Tryz.underlying3
  a3:=Tryz.isAgg3
  z3:=Tryz.sizeOf3
  v3:=Tryz.zeroValue3
  t4:=Tryz.underlying4
  a4:=Tryz.isAgg4
  z4:=Tryz.sizeOf4
  v4:=Tryz.zeroValue4
  t5:=Tryz.underlying5
  a5:=Tryz.isAgg5
  z5:=Tryz.sizeOf5
  v5:=Tryz.zeroValue5
  t9:=Tryz.underlying9
  a9:=Tryz.isAgg9
  z9:=Tryz.sizeOf9
  v9:=Tryz.zeroValue9
  t20:=Tryz.underlying20
  a20:=Tryz.isAgg20
  z20:=Tryz.sizeOf20
  v20:=Tryz.zeroValue20
  t21:=Tryz.underlying21
  a21:=Tryz.isAgg21
  z21:=Tryz.sizeOf21
  v21:=Tryz.zeroValue21
  t37:=Tryz.underlying62
  a37:=Tryz.isAgg62
  z37:=Tryz.sizeOf62
  v37:=Tryz.zeroValue62
  t46:=Tryz.underlying122
  a46:=Tryz.isAgg122
  z46:=Tryz.sizeOf122
  v46:=Tryz.zeroValue122
  t51:=Tryz.underlying157
  a51:=Tryz.isAgg157
  z51:=Tryz.sizeOf157
  v51:=Tryz.zeroValue157
  t53:=Tryz.underlying152
  a53:=Tryz.isAgg152
  z53:=Tryz.sizeOf152
  v53:=Tryz.zeroValue152
  t75:=Tryz.underlying68
  a75:=Tryz.isAgg68
  z75:=Tryz.sizeOf68
  v75:=Tryz.zeroValue68
  t76:=Tryz.underlying69
  a76:=Tryz.isAgg69
  z76:=Tryz.sizeOf69
  v76:=Tryz.zeroValue69
  t85:=Tryz.underlying124
  a85:=Tryz.isAgg124
  z85:=Tryz.sizeOf124
  v85:=Tryz.zeroValue124
  t127:=Tryz.underlying95
  a127:=Tryz.isAgg95
  z127:=Tryz.sizeOf95
  v127:=Tryz.zeroValue95
  t143:=Tryz.underlying185
  a143:=Tryz.isAgg185
  z143:=Tryz.sizeOf185
  v143:=Tryz.zeroValue185
  t145:=Tryz.underlying187
  a145:=Tryz.isAgg187
  z145:=Tryz.sizeOf187
  v145:=Tryz.zeroValue187
  t167:=Tryz.underlying123
  a167:=Tryz.isAgg123
  z167:=Tryz.sizeOf123
  v167:=Tryz.zeroValue123
  t168:=Tryz.underlying126
  a168:=Tryz.isAgg126
  z168:=Tryz.sizeOf126
  v168:=Tryz.zeroValue126
  t171:=Tryz.underlying151
  a171:=Tryz.isAgg151
  z171:=Tryz.sizeOf151
  v171:=Tryz.zeroValue151
  t173:=Tryz.underlying155
  a173:=Tryz.isAgg155
  z173:=Tryz.sizeOf155
  v173:=Tryz.zeroValue155
  t175:=Tryz.underlying160
  a175:=Tryz.isAgg160
  z175:=Tryz.sizeOf160
  v175:=Tryz.zeroValue160
  t210:=Tryz.underlying164
  a210:=Tryz.isAgg164
  z210:=Tryz.sizeOf164
  v210:=Tryz.zeroValue164
  t212:=Tryz.underlying181
  a212:=Tryz.isAgg181
  z212:=Tryz.sizeOf181
  v212:=Tryz.zeroValue181
  t213:=Tryz.underlying182
  a213:=Tryz.isAgg182
  z213:=Tryz.sizeOf182
  t232:=Tryz.underlying197
  a232:=Tryz.isAgg197
  z232:=Tryz.sizeOf197
  v232:=Tryz.zeroValue197
  t233:=Tryz.underlying198
  a233:=Tryz.isAgg198
  z233:=Tryz.sizeOf198
  v233:=Tryz.zeroValue198
  g15:=by kernel_rfl
  g16:=by kernel_rfl
  g17:=by kernel_rfl
  g18:=by kernel_rfl
  g19:=by kernel_rfl }
open Go.RowKit in
theorem Tryz.strconv_Atoi (s : ByteArray) (n : Int) (hl : s.size ≤ 18) (h : Lib.atoi s.data.toList = some n) (w : World) :
    Calls Tryz.prog 48 #[.string s] w fun e w'=>e = .returned (.tuple #[.int .i64 n,.nilIface]) ∧ ∃ t,w' = Lib.bytesWorld w 5 t:=Any.strconv_Atoi Tryz.lays172 s n hl h w
def Tryz.laysM171_ren : Go.Shelf.Ren:=⟨fun | 171=>41 | 243=>53 | 246=>70 | 283=>95 | 284=>96 | 285=>97 | 286=>98 | 129=>119 | 317=>118 | 318=>120 | 319=>121 | 320=>122 | 337=>132 | 338=>133 | n=>n,fun | 3=>3 | 9=>9 | 2=>2 | 4=>4 | 171=>151 | 0=>0 | 53=>152 | 37=>62 | 5=>5 | 173=>155 | 212=>181 | 51=>157 | 20=>20 | 213=>182 | 46=>122 | 232=>197 | 233=>198 | n=>n,fun | 17=>3 | 18=>4 | 19=>5 | n=>n⟩
theorem Tryz.laysM171 : Go.Proofs.LaysM.n171 Tryz.prog Tryz.laysM171_ren:={
  mixed:=by kernel_rfl
  f129:=Tryz.func119.trans (congrArg some (by kernel_rfl))
  f171:=Tryz.func41.trans (congrArg some (by kernel_rfl))
  f243:=Tryz.func53.trans (congrArg some (by kernel_rfl))
  f246:=Tryz.func70.trans (congrArg some (by kernel_rfl))
  f283:=Tryz.func95.trans (congrArg some (by kernel_rfl))
  f284:=Tryz.func96.trans (congrArg some (by kernel_rfl))
  f285:=Tryz.func97.trans (congrArg some (by kernel_rfl))
  f286:=Tryz.func98.trans (congrArg some (by kernel_rfl))
  f317:=Tryz.func118.trans (congrArg some (by kernel_rfl))
  f318:=Tryz.func120.trans (congrArg some (by kernel_rfl))
  f319:=Tryz.func121.trans (congrArg some (by kernel_rfl))
  f320:=Tryz.func122.trans (congrArg some (by kernel_rfl))
  f337:=Tryz.func132.trans (congrArg some (by kernel_rfl))
  f338:=Tryz.func133.trans (congrArg some (by kernel_rfl))
  t0:=Tryz.underlying0
  a0:=Tryz.isAgg0
  z0:=Tryz.sizeOf0
  v0:=Tryz.zeroValue0
  t2:=Tryz.underlying2
  a2:=Tryz.isAgg2
  z2:=Tryz.sizeOf2
  v2:=Tryz.zeroValue2
  t3:=Tryz.underlying3
  a3:=Tryz.isAgg3
  z3:=Tryz.sizeOf3
  v3:=Tryz.zeroValue3
  t4:=Tryz.underlying4
  a4:=Tryz.isAgg4
  z4:=Tryz.sizeOf4
  v4:=Tryz.zeroValue4
  t5:=Tryz.underlying5
  a5:=Tryz.isAgg5
  z5:=Tryz.sizeOf5
  v5:=Tryz.zeroValue5
  t9:=Tryz.underlying9
  a9:=Tryz.isAgg9
  z9:=Tryz.sizeOf9
  v9:=Tryz.zeroValue9
  t20:=Tryz.underlying20
  a20:=Tryz.isAgg20
  z20:=Tryz.sizeOf20
  v20:=Tryz.zeroValue20
  t37:=Tryz.underlying62
  a37:=Tryz.isAgg62
  z37:=Tryz.sizeOf62
  v37:=Tryz.zeroValue62
  t46:=Tryz.underlying122
  a46:=Tryz.isAgg122
  z46:=Tryz.sizeOf122
  v46:=Tryz.zeroValue122
  t51:=Tryz.underlying157
  a51:=Tryz.isAgg157
  z51:=Tryz.sizeOf157
  v51:=Tryz.zeroValue157
  t53:=Tryz.underlying152
  a53:=Tryz.isAgg152
  z53:=Tryz.sizeOf152
  v53:=Tryz.zeroValue152
  t171:=Tryz.underlying151
  a171:=Tryz.isAgg151
  z171:=Tryz.sizeOf151
  v171:=Tryz.zeroValue151
  t173:=Tryz.underlying155
  a173:=Tryz.isAgg155
  z173:=Tryz.sizeOf155
  v173:=Tryz.zeroValue155
  t212:=Tryz.underlying181
  a212:=Tryz.isAgg181
  z212:=Tryz.sizeOf181
  v212:=Tryz.zeroValue181
  t213:=Tryz.underlying182
  a213:=Tryz.isAgg182
  z213:=Tryz.sizeOf182
  t232:=Tryz.underlying197
  a232:=Tryz.isAgg197
  z232:=Tryz.sizeOf197
  v232:=Tryz.zeroValue197
  t233:=Tryz.underlying198
  a233:=Tryz.isAgg198
  z233:=Tryz.sizeOf198
  v233:=Tryz.zeroValue198
  g17:=by kernel_rfl
  g18:=by kernel_rfl
  g19:=by kernel_rfl
  i0:=by kernel_rfl
  i2:=by kernel_rfl
  i3:=by kernel_rfl
  i4:=by kernel_rfl
  i5:=by kernel_rfl
  i9:=by kernel_rfl
  i20:=by kernel_rfl
  i37:=by kernel_rfl
  i46:=by kernel_rfl
  i51:=by kernel_rfl
  i53:=by kernel_rfl
  i171:=by kernel_rfl
  i173:=by kernel_rfl
  i212:=by kernel_rfl
  i232:=by kernel_rfl
  i233:=by kernel_rfl
  m17:=by kernel_rfl
  m18:=by kernel_rfl
  m19:=by kernel_rfl }
open Go.RowKit Go.Sort Go.Lib in
theorem Tryz.strconv_Itoa (n : Int) (h0 : -9223372036854775808 ≤ n) (h1 : n ≤ 9223372036854775807) (w : World) (htab : Lib.TabIs Tryz.prog w "internal/strconv.uint64pow10" .u64 Lib.pow10Tab) :
    Calls Tryz.prog 41 #[.int .i64 n] w fun e w'=>e = .returned (.string ⟨(Lib.itoa n).toArray⟩) ∧ ∃ k os,w' = grow (w.drewN k) os:=Any.strconv_Itoa Tryz.laysM171 n h0 h1 w htab
def Tryz.laysC172_ren : Go.Shelf.Ren:=⟨fun | 172=>48 | 244=>57 | 245=>58 | 247=>76 | 279=>77 | 280=>78 | 281=>79 | 282=>80 | 287=>101 | 316=>102 | 171=>41 | 205=>103 | 321=>123 | 322=>124 | 243=>53 | 246=>70 | 283=>95 | 284=>96 | 285=>97 | 286=>98 | 129=>119 | 317=>118 | 318=>120 | 319=>121 | 320=>122 | 337=>132 | 338=>133 | n=>n,fun | 9=>9 | 3=>3 | 75=>68 | 76=>69 | 4=>4 | 5=>5 | 167=>123 | 37=>62 | 0=>0 | 85=>124 | 2=>2 | 168=>126 | 53=>152 | 175=>160 | 46=>122 | 210=>164 | 127=>95 | 145=>187 | 143=>185 | 21=>21 | 171=>151 | 173=>155 | 212=>181 | 51=>157 | 20=>20 | 213=>182 | 232=>197 | 233=>198 | 80=>71 | n=>n,fun | 15=>1 | 16=>2 | 17=>3 | 18=>4 | 19=>5 | n=>n⟩
theorem Tryz.laysC172 : Go.Proofs.LaysC.n172 Tryz.prog Tryz.laysC172_ren:={
  mixed:=by kernel_rfl
  f129:=Tryz.func119.trans (congrArg some (by kernel_rfl))
  f171:=Tryz.func41.trans (congrArg some (by kernel_rfl))
  f172:=Tryz.func48.trans (congrArg some (by kernel_rfl))
  f205:=Tryz.func103.trans (congrArg some (by kernel_rfl))
  f243:=Tryz.func53.trans (congrArg some (by kernel_rfl))
  f244:=Tryz.func57.trans (congrArg some (by kernel_rfl))
  f245:=Tryz.func58.trans (congrArg some (by kernel_rfl))
  f246:=Tryz.func70.trans (congrArg some (by kernel_rfl))
  f247:=Tryz.func76.trans (congrArg some (by kernel_rfl))
  f279:=Tryz.func77.trans (congrArg some (by kernel_rfl))
  f280:=Tryz.func78.trans (congrArg some (by kernel_rfl))
  f281:=Tryz.func79.trans (congrArg some (by kernel_rfl))
  f282:=Tryz.func80.trans (congrArg some (by kernel_rfl))
  f283:=Tryz.func95.trans (congrArg some (by kernel_rfl))
  f284:=Tryz.func96.trans (congrArg some (by kernel_rfl))
  f285:=Tryz.func97.trans (congrArg some (by kernel_rfl))
  f286:=Tryz.func98.trans (congrArg some (by kernel_rfl))
  f287:=Tryz.func101.trans (congrArg some (by kernel_rfl))
  f316:=Tryz.func102.trans (congrArg some (by kernel_rfl))
  f317:=Tryz.func118.trans (congrArg some (by kernel_rfl))
  f318:=Tryz.func120.trans (congrArg some (by kernel_rfl))
  f319:=Tryz.func121.trans (congrArg some (by kernel_rfl))
  f320:=Tryz.func122.trans (congrArg some (by kernel_rfl))
  f321:=Tryz.func123.trans (congrArg some (by kernel_rfl))
  f322:=Tryz.func124.trans (congrArg some (by kernel_rfl))
  f337:=Tryz.func132.trans (congrArg some (by kernel_rfl))
  f338:=Tryz.func133.trans (congrArg some (by kernel_rfl))
  t0:=Tryz.underlying0
  a0:=Tryz.isAgg0
  z0:=Tryz.sizeOf0
  v0:=Tryz.zeroValue0
  t2:=Tryz.underlying2
  a2:=Tryz.isAgg2
  z2:=Tryz.sizeOf2
  v2:=Tryz.zeroValue2
  t3:=Tryz.underlying3
  a3:=Tryz.isAgg3
  z3:=Tryz.sizeOf3
  v3:=Tryz.zeroValue3
  t4:=Tryz.underlying4
  a4:=Tryz.isAgg4
  z4:=Tryz.sizeOf4
  v4:=Tryz.zeroValue4
  t5:=Tryz.underlying5
  a5:=Tryz.isAgg5
  z5:=Tryz.sizeOf5
  v5:=Tryz.zeroValue5
  t9:=Tryz.underlying9
  a9:=Tryz.isAgg9
  z9:=Tryz.sizeOf9
  v9:=Tryz.zeroValue9
  t20:=Tryz.underlying20
  a20:=Tryz.isAgg20
  z20:=Tryz.sizeOf20
  v20:=Tryz.zeroValue20
  t21:=Tryz.underlying21
  a21:=Tryz.isAgg21
  z21:=Tryz.sizeOf21
  v21:=Tryz.zeroValue21
  t37:=Tryz.underlying62
  a37:=Tryz.isAgg62
  z37:=Tryz.sizeOf62
  v37:=Tryz.zeroValue62
  t46:=Tryz.underlying122
  a46:=Tryz.isAgg122
  z46:=Tryz.sizeOf122
  v46:=Tryz.zeroValue122
  t51:=Tryz.underlying157
  a51:=Tryz.isAgg157
  z51:=Tryz.sizeOf157
  v51:=Tryz.zeroValue157
  t53:=Tryz.underlying152
  a53:=Tryz.isAgg152
  z53:=Tryz.sizeOf152
  v53:=Tryz.zeroValue152
  t75:=Tryz.underlying68
  a75:=Tryz.isAgg68
  z75:=Tryz.sizeOf68
  v75:=Tryz.zeroValue68
  t76:=Tryz.underlying69
  a76:=Tryz.isAgg69
  z76:=Tryz.sizeOf69
  v76:=Tryz.zeroValue69
  t85:=Tryz.underlying124
  a85:=Tryz.isAgg124
  z85:=Tryz.sizeOf124
  v85:=Tryz.zeroValue124
  t127:=Tryz.underlying95
  a127:=Tryz.isAgg95
  z127:=Tryz.sizeOf95
  v127:=Tryz.zeroValue95
  t143:=Tryz.underlying185
  a143:=Tryz.isAgg185
  z143:=Tryz.sizeOf185
  v143:=Tryz.zeroValue185
  t145:=Tryz.underlying187
  a145:=Tryz.isAgg187
  z145:=Tryz.sizeOf187
  v145:=Tryz.zeroValue187
  t167:=Tryz.underlying123
  a167:=Tryz.isAgg123
  z167:=Tryz.sizeOf123
  v167:=Tryz.zeroValue123
  t168:=Tryz.underlying126
  a168:=Tryz.isAgg126
  z168:=Tryz.sizeOf126
  v168:=Tryz.zeroValue126
  t171:=Tryz.underlying151
  a171:=Tryz.isAgg151
  z171:=Tryz.sizeOf151
  v171:=Tryz.zeroValue151
  t173:=Tryz.underlying155
  a173:=Tryz.isAgg155
  z173:=Tryz.sizeOf155
  v173:=Tryz.zeroValue155
  t175:=Tryz.underlying160
  a175:=Tryz.isAgg160
  z175:=Tryz.sizeOf160
  v175:=Tryz.zeroValue160
  t210:=Tryz.underlying164
  a210:=Tryz.isAgg164
  z210:=Tryz.sizeOf164
  v210:=Tryz.zeroValue164
  t212:=Tryz.underlying181
  a212:=Tryz.isAgg181
  z212:=Tryz.sizeOf181
  v212:=Tryz.zeroValue181
  t213:=Tryz.underlying182
  a213:=Tryz.isAgg182
  z213:=Tryz.sizeOf182
  t232:=Tryz.underlying197
  a232:=Tryz.isAgg197
  z232:=Tryz.sizeOf197
  v232:=Tryz.zeroValue197
  t233:=Tryz.underlying198
  a233:=Tryz.isAgg198
  z233:=Tryz.sizeOf198
  v233:=Tryz.zeroValue198
  g15:=by kernel_rfl
  g16:=by kernel_rfl
  g17:=by kernel_rfl
  g18:=by kernel_rfl
  g19:=by kernel_rfl
  t80:=Tryz.underlying71
  a80:=Tryz.isAgg71
  z80:=Tryz.sizeOf71
  v80:=Tryz.zeroValue71
  i0:=by kernel_rfl
  i2:=by kernel_rfl
  i3:=by kernel_rfl
  i4:=by kernel_rfl
  i5:=by kernel_rfl
  i9:=by kernel_rfl
  i20:=by kernel_rfl
  i21:=by kernel_rfl
  i37:=by kernel_rfl
  i46:=by kernel_rfl
  i51:=by kernel_rfl
  i53:=by kernel_rfl
  i75:=by kernel_rfl
  i76:=by kernel_rfl
  i80:=by kernel_rfl
  i85:=by kernel_rfl
  i127:=by kernel_rfl
  i143:=by kernel_rfl
  i145:=by kernel_rfl
  i167:=by kernel_rfl
  i168:=by kernel_rfl
  i171:=by kernel_rfl
  i173:=by kernel_rfl
  i175:=by kernel_rfl
  i210:=by kernel_rfl
  i212:=by kernel_rfl
  i232:=by kernel_rfl
  i233:=by kernel_rfl
  m15:=by kernel_rfl
  m16:=by kernel_rfl
  m17:=by kernel_rfl
  m18:=by kernel_rfl
  m19:=by kernel_rfl
  c0:=by kernel_rfl
  c2:=by kernel_rfl
  c3:=by kernel_rfl
  c4:=by kernel_rfl
  c5:=by kernel_rfl
  c9:=by kernel_rfl
  c20:=by kernel_rfl
  c21:=by kernel_rfl
  c37:=by kernel_rfl
  c46:=by kernel_rfl
  c51:=by kernel_rfl
  c53:=by kernel_rfl
  c75:=by kernel_rfl
  c76:=by kernel_rfl
  c80:=by kernel_rfl
  c85:=by kernel_rfl
  c127:=by kernel_rfl
  c143:=by kernel_rfl
  c145:=by kernel_rfl
  c167:=by kernel_rfl
  c168:=by kernel_rfl
  c171:=by kernel_rfl
  c173:=by kernel_rfl
  c175:=by kernel_rfl
  c210:=by kernel_rfl
  c212:=by kernel_rfl
  c213:=by kernel_rfl
  c232:=by kernel_rfl
  c233:=by kernel_rfl }
open Go.RowKit in
theorem Tryz.strconv_Atoi_ok (s : ByteArray) (hmax : s.size ≤ 9223372036854775806) (v : Int) (h : Lib.atoiAll s.data.toList = .ok v) (w : World) :
    Calls Tryz.prog 48 #[.string s] w fun e w'=>e = .returned (.tuple #[.int .i64 v,.nilIface]) ∧ (w' = w ∨ ∃ t,w' = Lib.bytesWorld w 5 t):=Any.strconv_Atoi_ok Tryz.laysC172 s hmax v h w
open Go.RowKit in
theorem Tryz.strconv_Atoi_range (s : ByteArray) (hlim : s.size ≤ 281474976710656) (h : Lib.atoiAll s.data.toList = .range) (ev : Value) (w : World) (hv : w.cell? ⟨2,0,none⟩ = some ev) (hev : ev = .nilIface ∨ ∃ te pe,ev = .iface te pe) :
    Calls Tryz.prog 48 #[.string s] w fun e w'=>∃ N,e = .returned (.tuple #[.int .i64 (Lib.atoiSat s.data.toList),.iface 126 (.pointer (some ⟨N,0,none⟩))]) ∧ w.heap.size ≤ N ∧ w'.heap[N]? = some (.cells #[.string ⟨#[65,116,111,105]⟩,.string s,ev] 164 (0,0)) ∧ Below w.heap.size w w':=Any.strconv_Atoi_range Tryz.laysC172 s hlim h ev w hv hev
def Tryz.lays144_ren : Go.Shelf.Ren:=⟨fun | 144=>40 | 143=>52 | 219=>55 | 217=>71 | 225=>72 | 224=>73 | 267=>74 | 266=>99 | 314=>100 | n=>n,fun | 9=>9 | 4=>4 | 3=>3 | 5=>5 | 46=>122 | 146=>158 | 51=>157 | n=>n,fun | 1=>0 | n=>n⟩
theorem Tryz.lays144 : Go.Proofs.Lays.n144 Tryz.prog Tryz.lays144_ren:={
  mixed:=by kernel_rfl
  f143:=Tryz.func52.trans (congrArg some (by kernel_rfl))
  f144:=Tryz.func40.trans (congrArg some (by kernel_rfl))
  f217:=Tryz.func71.trans (congrArg some (by kernel_rfl))
  f219:=Tryz.func55.trans (congrArg some (by kernel_rfl))
  f224:=Tryz.func73.trans (congrArg some (by kernel_rfl))
  f225:=Tryz.func72.trans (congrArg some (by kernel_rfl))
  f266:=Tryz.func99.trans (congrArg some (by kernel_rfl))
  f267:=Tryz.func74.trans (congrArg some (by kernel_rfl))
  f314:=Tryz.func100.trans (congrArg some (by kernel_rfl))
  t3:=Tryz.underlying3
  a3:=Tryz.isAgg3
  z3:=Tryz.sizeOf3
  v3:=Tryz.zeroValue3
  t4:=Tryz.underlying4
  a4:=Tryz.isAgg4
  z4:=Tryz.sizeOf4
  v4:=Tryz.zeroValue4
  t5:=Tryz.underlying5
  a5:=Tryz.isAgg5
  z5:=Tryz.sizeOf5
  v5:=Tryz.zeroValue5
  t9:=Tryz.underlying9
  a9:=Tryz.isAgg9
  z9:=Tryz.sizeOf9
  v9:=Tryz.zeroValue9
  t46:=Tryz.underlying122
  a46:=Tryz.isAgg122
  z46:=Tryz.sizeOf122
  v46:=Tryz.zeroValue122
  t51:=Tryz.underlying157
  a51:=Tryz.isAgg157
  z51:=Tryz.sizeOf157
  v51:=Tryz.zeroValue157
  t146:=Tryz.underlying158
  a146:=Tryz.isAgg158
  z146:=Tryz.sizeOf158
  v146:=Tryz.zeroValue158
  g1:=by kernel_rfl }
open Go.RowKit Go.Lib in
theorem Tryz.strings_Contains_one (s : ByteArray) (c : UInt8) (w : World) :
    Calls Tryz.prog 40 #[.string s,.string ⟨#[c]⟩] w fun e w'=>e = .returned (.bool (decide (0 ≤ Lib.indexByte s.data.toList c))) ∧ w' = w:=Any.strings_Contains_one Tryz.lays144 s c w
def Tryz.lays145_ren : Go.Shelf.Ren:=⟨fun | 145=>25 | 220=>46 | 219=>55 | 217=>71 | 225=>72 | 224=>73 | 267=>74 | 266=>99 | 314=>100 | n=>n,fun | 9=>9 | 4=>4 | 59=>72 | 3=>3 | 5=>5 | 46=>122 | 146=>158 | 51=>157 | n=>n,fun | 1=>0 | n=>n⟩
theorem Tryz.lays145 : Go.Proofs.Lays.n145 Tryz.prog Tryz.lays145_ren:={
  mixed:=by kernel_rfl
  f145:=Tryz.func25.trans (congrArg some (by kernel_rfl))
  f217:=Tryz.func71.trans (congrArg some (by kernel_rfl))
  f219:=Tryz.func55.trans (congrArg some (by kernel_rfl))
  f220:=Tryz.func46.trans (congrArg some (by kernel_rfl))
  f224:=Tryz.func73.trans (congrArg some (by kernel_rfl))
  f225:=Tryz.func72.trans (congrArg some (by kernel_rfl))
  f266:=Tryz.func99.trans (congrArg some (by kernel_rfl))
  f267:=Tryz.func74.trans (congrArg some (by kernel_rfl))
  f314:=Tryz.func100.trans (congrArg some (by kernel_rfl))
  t3:=Tryz.underlying3
  a3:=Tryz.isAgg3
  z3:=Tryz.sizeOf3
  v3:=Tryz.zeroValue3
  t4:=Tryz.underlying4
  a4:=Tryz.isAgg4
  z4:=Tryz.sizeOf4
  v4:=Tryz.zeroValue4
  t5:=Tryz.underlying5
  a5:=Tryz.isAgg5
  z5:=Tryz.sizeOf5
  v5:=Tryz.zeroValue5
  t9:=Tryz.underlying9
  a9:=Tryz.isAgg9
  z9:=Tryz.sizeOf9
  v9:=Tryz.zeroValue9
  t46:=Tryz.underlying122
  a46:=Tryz.isAgg122
  z46:=Tryz.sizeOf122
  v46:=Tryz.zeroValue122
  t51:=Tryz.underlying157
  a51:=Tryz.isAgg157
  z51:=Tryz.sizeOf157
  v51:=Tryz.zeroValue157
  t59:=Tryz.underlying72
  a59:=Tryz.isAgg72
  z59:=Tryz.sizeOf72
  v59:=Tryz.zeroValue72
  t146:=Tryz.underlying158
  a146:=Tryz.isAgg158
  z146:=Tryz.sizeOf158
  v146:=Tryz.zeroValue158
  g1:=by kernel_rfl }
open Go.RowKit Go.Lib in
theorem Tryz.strings_Cut (s sep : ByteArray) (m : Int) (w : World) (hs : s.size < 4294967281) (hm : w.cell? ⟨0,0,none⟩ = some (.int .i64 m)) :
    Calls Tryz.prog 25 #[.string s,.string sep] w fun e w'=>e = .returned (.tuple #[.string ⟨(Lib.cut s.data.toList sep.data.toList).1.toArray⟩,.string ⟨(Lib.cut s.data.toList sep.data.toList).2.1.toArray⟩,.bool (Lib.cut s.data.toList sep.data.toList).2.2]) ∧ ∃ n,w' = w.drewN n:=Any.strings_Cut Tryz.lays145 s sep m w hs hm
def Tryz.laysM145_ren : Go.Shelf.Ren:=⟨fun | 145=>25 | 220=>46 | 219=>55 | 217=>71 | 225=>72 | 224=>73 | 267=>74 | 266=>99 | 314=>100 | n=>n,fun | 9=>9 | 4=>4 | 59=>72 | 3=>3 | 5=>5 | 46=>122 | 146=>158 | 51=>157 | n=>n,fun | 1=>0 | n=>n⟩
theorem Tryz.laysM145 : Go.Proofs.LaysM.n145 Tryz.prog Tryz.laysM145_ren:={
  mixed:=by kernel_rfl
  f145:=Tryz.func25.trans (congrArg some (by kernel_rfl))
  f217:=Tryz.func71.trans (congrArg some (by kernel_rfl))
  f219:=Tryz.func55.trans (congrArg some (by kernel_rfl))
  f220:=Tryz.func46.trans (congrArg some (by kernel_rfl))
  f224:=Tryz.func73.trans (congrArg some (by kernel_rfl))
  f225:=Tryz.func72.trans (congrArg some (by kernel_rfl))
  f266:=Tryz.func99.trans (congrArg some (by kernel_rfl))
  f267:=Tryz.func74.trans (congrArg some (by kernel_rfl))
  f314:=Tryz.func100.trans (congrArg some (by kernel_rfl))
  t3:=Tryz.underlying3
  a3:=Tryz.isAgg3
  z3:=Tryz.sizeOf3
  v3:=Tryz.zeroValue3
  t4:=Tryz.underlying4
  a4:=Tryz.isAgg4
  z4:=Tryz.sizeOf4
  v4:=Tryz.zeroValue4
  t5:=Tryz.underlying5
  a5:=Tryz.isAgg5
  z5:=Tryz.sizeOf5
  v5:=Tryz.zeroValue5
  t9:=Tryz.underlying9
  a9:=Tryz.isAgg9
  z9:=Tryz.sizeOf9
  v9:=Tryz.zeroValue9
  t46:=Tryz.underlying122
  a46:=Tryz.isAgg122
  z46:=Tryz.sizeOf122
  v46:=Tryz.zeroValue122
  t51:=Tryz.underlying157
  a51:=Tryz.isAgg157
  z51:=Tryz.sizeOf157
  v51:=Tryz.zeroValue157
  t59:=Tryz.underlying72
  a59:=Tryz.isAgg72
  z59:=Tryz.sizeOf72
  v59:=Tryz.zeroValue72
  t146:=Tryz.underlying158
  a146:=Tryz.isAgg158
  z146:=Tryz.sizeOf158
  v146:=Tryz.zeroValue158
  g1:=by kernel_rfl
  i3:=by kernel_rfl
  i4:=by kernel_rfl
  i5:=by kernel_rfl
  i9:=by kernel_rfl
  i46:=by kernel_rfl
  i51:=by kernel_rfl
  i59:=by kernel_rfl
  i146:=by kernel_rfl
  m1:=by kernel_rfl
  s1_3:=fun w h=>Go.Proofs.cell_of_shapedOpen_int (zero:=#[.int .i64 0]) (t:=3) h (of_decide_eq_true (by kernel_rfl)) (by kernel_rfl) rfl (by kernel_rfl) (by kernel_rfl) Tryz.underlying3 }
def Tryz.laysGw17_ren : Go.Shelf.Ren:=⟨fun | 17=>88 | 15=>107 | 20=>127 | n=>n,fun | 9=>9 | 23=>138 | 4=>4 | 3=>3 | 0=>0 | 21=>21 | n=>n,fun | n=>n⟩
theorem Tryz.laysGw17 : Go.Proofs.LaysGw.n17 Tryz.prog Tryz.laysGw17_ren:={
  mixed:=by kernel_rfl
  f15:=Tryz.func107.trans (congrArg some (by kernel_rfl))
  f17:=Tryz.func88.trans (congrArg some (by kernel_rfl))
  f20:=Tryz.func127.trans (congrArg some (by kernel_rfl))
  t0:=Tryz.underlying0
  a0:=Tryz.isAgg0
  z0:=Tryz.sizeOf0
  v0:=Tryz.zeroValue0
  i0:=by kernel_rfl
  t3:=Tryz.underlying3
  a3:=Tryz.isAgg3
  z3:=Tryz.sizeOf3
  v3:=Tryz.zeroValue3
  i3:=by kernel_rfl
  t4:=Tryz.underlying4
  a4:=Tryz.isAgg4
  z4:=Tryz.sizeOf4
  v4:=Tryz.zeroValue4
  i4:=by kernel_rfl
  t9:=Tryz.underlying9
  a9:=Tryz.isAgg9
  z9:=Tryz.sizeOf9
  v9:=Tryz.zeroValue9
  i9:=by kernel_rfl
  t21:=Tryz.underlying21
  a21:=Tryz.isAgg21
  z21:=Tryz.sizeOf21
  v21:=Tryz.zeroValue21
  i21:=by kernel_rfl
  t23:=Tryz.underlying138
  a23:=Tryz.isAgg138
  z23:=Tryz.sizeOf138
  v23:=Tryz.zeroValue138
  i23:=by kernel_rfl }
def Tryz.lays197_ren : Go.Shelf.Ren:=⟨fun | 197=>126 | 260=>134 | n=>n,fun | 9=>9 | 21=>21 | 3=>3 | 4=>4 | 5=>5 | 105=>167 | 119=>199 | 0=>0 | 46=>122 | 139=>202 | 138=>201 | n=>n,fun | 3=>6 | 4=>7 | n=>n⟩
theorem Tryz.lays197 : Go.Proofs.Lays.n197 Tryz.prog Tryz.lays197_ren:={
  mixed:=by kernel_rfl
  f197:=Tryz.func126.trans (congrArg some (by kernel_rfl))
  f260:=Tryz.func134.trans (congrArg some (by kernel_rfl))
  t0:=Tryz.underlying0
  a0:=Tryz.isAgg0
  z0:=Tryz.sizeOf0
  v0:=Tryz.zeroValue0
  t3:=Tryz.underlying3
  a3:=Tryz.isAgg3
  z3:=Tryz.sizeOf3
  v3:=Tryz.zeroValue3
  t4:=Tryz.underlying4
  a4:=Tryz.isAgg4
  z4:=Tryz.sizeOf4
  v4:=Tryz.zeroValue4
  t5:=Tryz.underlying5
  a5:=Tryz.isAgg5
  z5:=Tryz.sizeOf5
  v5:=Tryz.zeroValue5
  t9:=Tryz.underlying9
  a9:=Tryz.isAgg9
  z9:=Tryz.sizeOf9
  v9:=Tryz.zeroValue9
  t21:=Tryz.underlying21
  a21:=Tryz.isAgg21
  z21:=Tryz.sizeOf21
  v21:=Tryz.zeroValue21
  t46:=Tryz.underlying122
  a46:=Tryz.isAgg122
  z46:=Tryz.sizeOf122
  v46:=Tryz.zeroValue122
  t105:=Tryz.underlying167
  a105:=Tryz.isAgg167
  z105:=Tryz.sizeOf167
  v105:=Tryz.zeroValue167
  t119:=Tryz.underlying199
  a119:=Tryz.isAgg199
  z119:=Tryz.sizeOf199
  t138:=Tryz.underlying201
  a138:=Tryz.isAgg201
  z138:=Tryz.sizeOf201
  v138:=Tryz.zeroValue201
  t139:=Tryz.underlying202
  a139:=Tryz.isAgg202
  z139:=Tryz.sizeOf202
  v139:=Tryz.zeroValue202
  g3:=by kernel_rfl
  g4:=by kernel_rfl }
open Go.RowKit Go.Lib in
theorem Tryz.utf8_DecodeRuneInString (s : ByteArray) (w : World) (hT : Lib.Utf8Tabs 6 7 w) :
    Calls Tryz.prog 126 #[.string s] w fun e w'=>e = .returned (.tuple #[.int .i32 (Lib.decodeGo s).1,.int .i64 (Lib.decodeGo s).2]) ∧ Below w.heap.size w w':=Any.utf8_DecodeRuneInString Tryz.lays197 s w hT
open Go.RowKit Go.Lib in
theorem Tryz.strings_ContainsFunc_grows (g : Nat) (lb : Array Value) (eg : ∀ args w,(callFunc g args).run Tryz.prog w = .ok (.enter g args) w) (p : Nat → Bool) (s : ByteArray) (w : World) (hp : PredGrows Tryz.prog g lb p w) :
    Calls Tryz.prog 88 #[.string s,.func (.func g) #[] lb] w fun e w'=>e = .returned (.bool (decide (0 ≤ Lib.idxFunc p true s))) ∧ Below w.heap.size w w':=Any.strings_ContainsFunc_grows Tryz.laysGw17 g lb eg p s w hp
def Tryz.lays242B_ren : Go.Shelf.Ren:=⟨fun | 242=>117 | 278=>131 | n=>n,fun | 72=>64 | 37=>62 | 21=>21 | 51=>157 | 4=>4 | 5=>5 | 46=>122 | n=>n,fun | n=>n⟩
theorem Tryz.lays242B : Go.Proofs.Lays.n242 Tryz.prog Tryz.lays242B_ren:={
  mixed:=by kernel_rfl
  f242:=Tryz.func117.trans (congrArg some (by kernel_rfl))
  f278:=Tryz.func131.trans (congrArg some (by kernel_rfl))
  t4:=Tryz.underlying4
  a4:=Tryz.isAgg4
  z4:=Tryz.sizeOf4
  v4:=Tryz.zeroValue4
  t5:=Tryz.underlying5
  a5:=Tryz.isAgg5
  z5:=Tryz.sizeOf5
  v5:=Tryz.zeroValue5
  t21:=Tryz.underlying21
  a21:=Tryz.isAgg21
  z21:=Tryz.sizeOf21
  v21:=Tryz.zeroValue21
  t37:=Tryz.underlying62
  a37:=Tryz.isAgg62
  z37:=Tryz.sizeOf62
  v37:=Tryz.zeroValue62
  t46:=Tryz.underlying122
  a46:=Tryz.isAgg122
  z46:=Tryz.sizeOf122
  v46:=Tryz.zeroValue122
  t51:=Tryz.underlying157
  a51:=Tryz.isAgg157
  z51:=Tryz.sizeOf157
  v51:=Tryz.zeroValue157 }
theorem Tryz.Builder_Extra_242 : Builder.Extra Tryz.prog Tryz.lays242B_ren:={
  sizeBuilder:=by kernel_rfl
  liesBuilder:=by kernel_rfl
  t5:=Tryz.underlying5
  a5:=Tryz.isAgg5
  z5:=Tryz.sizeOf5
  v5:=Tryz.zeroValue5
  infoByte:=by kernel_rfl
  cellsByte:=by kernel_rfl
  sizeByte:=by kernel_rfl
  neB5:=by decide }
end Go.Proofs
end
section
namespace Go.Proofs.YtjopbfidjapmbaaGreatDoorS
open Go.RowKit
set_option linter.unusedVariables false
set_option linter.unusedSimpArgs false
set_option maxRecDepth 100000 in
theorem bld_copyCheck_fresh (b : Nat) (w : World) (h0 : w.cell? ⟨b,0,none⟩ = some (.pointer none)) (hsh : w.shape? b = some (64,2)) (hfz : w.frozen? ⟨b,0,none⟩ = false) :
    Calls Tryz.prog 43 #[.pointer (some ⟨b,0,none⟩)] w fun e w'=>e = .returned (.tuple #[]) ∧ w' = w.setCell ⟨b,0,none⟩ (.pointer (some ⟨b,0,none⟩)):=by
  obtain ⟨j,hj,hjs⟩:=Option.map_eq_some_iff.1 Tryz.Builder_Extra_242.sizeBuilder
  go_enter Tryz.func43,Tryz.ntmps43
  go_wp2
  rw [Lib.run_to_unsafe w ⟨b,0,none⟩ Tryz.underlying61 Tryz.underlying104 hj (by rw [hjs];decide) hsh (Nat.zero_lt_succ 1)]
  simp only [Result.andThen]
  rw [Oper.upon_value]
  go_wp2
  rw [run_callFunc_extern Tryz.func54 (by kernel_rfl) (by kernel_rfl) (by kernel_rfl) (e:=Extern.AbiNoEscape.same) (by kernel_rfl)]
  rw [Lib.run_noEscape]
  simp only [Result.andThen]
  rw [Oper.upon_value]
  go_wp2
  rw [Lib.run_from_unsafe w ⟨b,0,none⟩ Tryz.underlying104 Tryz.underlying61 hj hsh Tryz.Builder_Extra_242.liesBuilder]
  simp only [Result.andThen]
  rw [Oper.upon_value]
  go_wp2
  go_end0
  exact ⟨rfl,rfl⟩
set_option maxRecDepth 100000 in
theorem bld_copyCheck_used (b : Nat) (w : World) (h0 : w.cell? ⟨b,0,none⟩ = some (.pointer (some ⟨b,0,none⟩))) :
    Calls Tryz.prog 43 #[.pointer (some ⟨b,0,none⟩)] w fun e w'=>e = .returned (.tuple #[]) ∧ w' = w:=by
  obtain ⟨j,hj,_⟩:=Option.map_eq_some_iff.1 Tryz.Builder_Extra_242.sizeBuilder
  go_enter Tryz.func43,Tryz.ntmps43
  go_wp2
  rw [Lib.run_neq_ptr_same w _ Tryz.underlying61 hj]
  go_wp2
  go_end0
  exact ⟨rfl,rfl⟩
theorem bld_copyCheck (B b : Nat) (bs : List Value) (w : World) (h : Lib.IsBuilderF 64 5 B b bs w) :
    Calls Tryz.prog 43 #[.pointer (some ⟨b,0,none⟩)] w fun e w'=>e = .returned (.tuple #[]) ∧ (Lib.BuilderAtF 64 5 B b (.pointer (some ⟨b,0,none⟩)) bs w' ∧ Below B w w' ∧ Lib.OthersKept 5 (some b) w w'):=by
  rcases h with h | h
  · refine (bld_copyCheck_fresh b w h.cell0 h.shape h.frozen0).mono ?_
    rintro e w' ⟨rfl,rfl⟩
    exact ⟨rfl,h.used _,(Below.refl B w).setCell (p:=⟨b,0,none⟩) h.1 _,(Lib.OthersKept.refl _ _ w).setCell ⟨b,0,none⟩ rfl _⟩
  · refine (bld_copyCheck_used b w h.cell0).mono ?_
    rintro e w' ⟨rfl,rfl⟩
    exact ⟨rfl,h,Below.refl B _,Lib.OthersKept.refl _ _ _⟩
set_option maxHeartbeats 2000000 in
set_option maxRecDepth 100000 in
theorem bld_WriteString (B b : Nat) (bs : List Value) (s : ByteArray) (w : World) (h : Lib.IsBuilderF 64 5 B b bs w) (hlen : bs.length + s.size ≤ 140737488355328) (hBw : B ≤ w.heap.size) :
    Calls Tryz.prog 22 #[.pointer (some ⟨b,0,none⟩),.string s] w fun e w'=>e = .returned (.tuple #[.int .i64 s.size,.nilIface]) ∧ (Lib.BuilderAtF 64 5 B b (.pointer (some ⟨b,0,none⟩)) (bs ++ Lib.strCells s) w' ∧ Below B w w' ∧ Lib.OthersKept 5 (some b) w w'):=by
  obtain ⟨i0,hi,hz0,hz1,hz2⟩:=info_parts Tryz.Builder_Extra_242.infoByte
  go_enter Tryz.func22,Tryz.ntmps22
  go_wp2_with (go_at_call 43;refine (bld_copyCheck B b bs _ h).mono ?_)
  rintro e w1 ⟨rfl,h1,hb1,hk1⟩
  obtain ⟨hB,v,hbk,hown,hne⟩:=h1
  have c0 : w1.cell? ⟨b,0,none⟩ = some (.pointer (some ⟨b,0,none⟩)):=by rw [Lib.cell_of_heap hbk];rfl
  have c1 : w1.cell? ⟨b,1,none⟩ = some v:=by rw [Lib.cell_of_heap hbk];rfl
  go_wp2_with (at_builtin;refine Lib.wpList_append_own_stringF _ rfl _ _ 62 9 rfl B 5 i0 Tryz.underlying62 Tryz.underlying9 hi hz0 hz1 hz2 _ _ _ rfl hown s rfl ?c3 ?c4 ?c5 ?_)
  case c3=>unfold maxLen;omega
  case c4=>omega
  case c5=>have:=hb1.size;omega
  intro v' w2 hown' hgrow _
  have hlt : b < w1.heap.size:=by
    rcases Nat.lt_or_ge b w1.heap.size with h' | h'
    · exact h'
    · simp [Array.getElem?_eq_none h'] at hbk
  have hb2 : w2.heap[b]? = some (.cells #[.pointer (some ⟨b,0,none⟩),v] 64 (0,0)):=by
    rw [hgrow.block b hlt (fun e=>hne e.symm)]
    exact hbk
  have d0 : w2.cell? ⟨b,0,none⟩ = some (.pointer (some ⟨b,0,none⟩)):=by rw [Lib.cell_of_heap hb2];rfl
  have d1 : w2.cell? ⟨b,1,none⟩ = some v:=by rw [Lib.cell_of_heap hb2];rfl
  have f1 : w2.frozen? ⟨b,1,none⟩ = false:=Lib.frozen_of_heap hb2 1
  obtain ⟨ao,n',cap,rfl⟩ : ∃ ao n' cap,v' = .slice ao n' cap:=by
    rcases hown'.2 with ⟨hv,_⟩ | ⟨g,cap,cur,fz,hv,_⟩
    · exact ⟨_,_,_,hv⟩
    · exact ⟨_,_,_,hv⟩
  go_wp2
  go_ret2
  refine ⟨rfl,?_,?_,(hk1.grown hgrow (Lib.ownsRowF_kind hown)).setCell ⟨b,1,none⟩ rfl _⟩
  · exact Lib.BuilderAtF.put (T:=64) (e:=5) hB hb2 (bs':=bs ++ Lib.strCells s) (by simpa [Lib.strCells_length] using hown') (by decide)
  · exact (hb1.grown hgrow (by have:=hb1.size;omega) (fun k hk=>(hown.lt k hk).1)).setCell (p:=⟨b,1,none⟩) hB _
set_option maxHeartbeats 2000000 in
set_option maxRecDepth 100000 in
theorem bld_WriteRune (B b : Nat) (bs : List Value) (r : Int) (hr0 : -2147483648 ≤ r) (hr1 : r ≤ 2147483647) (w : World) (h : Lib.IsBuilderF 64 5 B b bs w) (hlen : bs.length + 4 ≤ 140737488355328) (hBw : B ≤ w.heap.size) :
    Calls Tryz.prog 92 #[.pointer (some ⟨b,0,none⟩),.int .i32 r] w fun e w'=>e = .returned (.tuple #[.int .i64 (Lib.runeCells r).length,.nilIface]) ∧ (Lib.BuilderAtF 64 5 B b (.pointer (some ⟨b,0,none⟩)) (bs ++ Lib.runeCells r) w' ∧ Below B w w' ∧ Lib.OthersKept 5 (some b) w w'):=by
  have hk4:=Lib.runeCells_le r
  go_enter Tryz.func92,Tryz.ntmps92
  go_wp2_with (go_at_call 43;refine (bld_copyCheck B b bs _ h).mono ?_)
  rintro e w1 ⟨rfl,h1,hb1,hk1⟩
  obtain ⟨hB,v,hbk,hown,hne⟩:=h1
  obtain ⟨ao,cap,rfl⟩ : ∃ ao cap,v = .slice ao bs.length cap:=by
    rcases hown.2 with ⟨hv,h0⟩ | ⟨g,cap,cur,fz,hv,_⟩
    · exact ⟨none,0,by rw [hv,h0]⟩
    · exact ⟨_,_,hv⟩
  have c0 : w1.cell? ⟨b,0,none⟩ = some (.pointer (some ⟨b,0,none⟩)):=by rw [Lib.cell_of_heap hbk];rfl
  have c1 : w1.cell? ⟨b,1,none⟩ = some (.slice ao bs.length cap):=by rw [Lib.cell_of_heap hbk];rfl
  go_wp2_with (go_at_call 117;refine (Any.utf8_AppendRune_own Tryz.lays242B Tryz.Builder_Extra_242 B _ bs.length bs r hr0 hr1 _ hown hlen (by have:=hb1.size;omega)).mono ?_)
  rintro e w2 ⟨v',rfl,hown',o,hgrow⟩
  replace hown' : w2.ownsRowF B 5 1 v' (bs.length + (Lib.runeCells r).length) (bs ++ Lib.runeCells r):=hown'
  have hlt : b < w1.heap.size:=by
    rcases Nat.lt_or_ge b w1.heap.size with h' | h'
    · exact h'
    · simp [Array.getElem?_eq_none h'] at hbk
  have hb2 : w2.heap[b]? = some (.cells #[.pointer (some ⟨b,0,none⟩),.slice ao bs.length cap] 64 (0,0)):=by
    rw [hgrow.block b (by simp;omega) (fun e=>hne e.symm),Lib.alloc_old w1 _ b hlt]
    exact hbk
  have d0 : w2.cell? ⟨b,0,none⟩ = some (.pointer (some ⟨b,0,none⟩)):=by rw [Lib.cell_of_heap hb2];rfl
  have d1 : w2.cell? ⟨b,1,none⟩ = some (.slice ao bs.length cap):=by rw [Lib.cell_of_heap hb2];rfl
  have f1 : w2.frozen? ⟨b,1,none⟩ = false:=Lib.frozen_of_heap hb2 1
  obtain ⟨g,cap',rfl⟩ : ∃ g cap',v' = .slice (some ⟨g,0,none⟩) (bs.length + (Lib.runeCells r).length) cap':=by
    rcases hown'.2 with ⟨_,h0⟩ | ⟨g,cap',cur,fz,hv,_⟩
    · omega
    · exact ⟨g,cap',hv⟩
  go_wp2
  go_ret2
  refine ⟨?_,?_,?_,((hk1.alloc _).grown hgrow (Lib.ownsRowF_kind (hown.alloc _))).setCell ⟨b,1,none⟩ rfl _⟩
  · have e : ((bs.length : Int) + ((Lib.runeCells r).length : Int) - (bs.length : Int)) = ((Lib.runeCells r).length : Int):=by omega
    simp [e]
  · exact Lib.BuilderAtF.put (T:=64) (e:=5) hB hb2 (bs':=bs ++ Lib.runeCells r) (by simpa using hown') (by decide)
  · exact ((hb1.alloc (by have:=hb1.size;omega) _).grown hgrow (by have:=hb1.size;simp;omega) (fun k hk=>(hown.lt k hk).1)).setCell (p:=⟨b,1,none⟩) hB _
end Go.Proofs.YtjopbfidjapmbaaGreatDoorS
end
section
namespace Go.Proofs.YtjopbfidjapmbaaGreatDoorS
open Go
theorem guard_some {α : Type} {c : Prop} [Decidable c] {x r : α} (h : (if c then some x else none) = some r) : c ∧ x = r:=by
  by_cases hc : c
  · rw [if_pos hc] at h;exact ⟨hc,Option.some.inj h⟩
  · rw [if_neg hc] at h;cases h
theorem width_pos (s : ByteArray) (pos : Nat) (h : pos < s.size) : 1 ≤ (Utf8.decode s pos).2:=by
  by_cases ha : (s[pos]'h).toNat < 128
  · rw [decode_ascii s pos h ha]
    exact Nat.le_refl _
  · exact (decode_high s pos h (by omega)).2
def ulist (s : ByteArray) : Nat → Nat → List (Nat × Nat × Nat)
  | 0,_=>[]
  | f + 1,p=>if p < s.size then (p,(Utf8.decode s p).1,(Utf8.decode s p).2) :: ulist s f (p + (Utf8.decode s p).2) else []
def uall (s : ByteArray) : List (Nat × Nat × Nat):=ulist s s.size 0
def urunes (s : ByteArray) : List Int:=(uall s).map fun t=>(t.2.1 : Int)
def ucount (s : ByteArray) : Nat:=(uall s).length
def uvalid (s : ByteArray) : Bool:=(uall s).all fun t=>!(t.2.1 == 65533 && t.2.2 == 1)
def unext (s : ByteArray) (at_ : Int) : Int × Int:=if 0 ≤ at_ ∧ at_ < s.size then (((Utf8.decode s at_.toNat).1 : Int),((Utf8.decode s at_.toNat).2 : Int)) else (0,0)
theorem ulist_end (s : ByteArray) (f p : Nat) (h : ¬ p < s.size) : ulist s f p = []:=by
  cases f with
  | zero=>rfl
  | succ f=>simp [ulist,h]
theorem ulist_step (s : ByteArray) (f p : Nat) (h : p < s.size) : ulist s (f + 1) p = (p,(Utf8.decode s p).1,(Utf8.decode s p).2) :: ulist s f (p + (Utf8.decode s p).2):=by simp [ulist,h]
theorem ulist_length (s : ByteArray) : ∀ f p,(ulist s f p).length ≤ f:=by
  intro f
  induction f with
  | zero=>intro p;simp [ulist]
  | succ f ih =>
    intro p
    have:=ih (p + (Utf8.decode s p).2)
    unfold ulist
    split
    · simp only [List.length_cons];omega
    · simp
theorem ucount_le (s : ByteArray) : ucount s ≤ s.size:=ulist_length s _ _
theorem encode_size (r : Int) : (Utf8.encode r).size ≤ 4:=by
  unfold Utf8.encode
  simp only [ByteArray.size]
  generalize (if Utf8.valid r = true then r.toNat else Utf8.runeError) = c
  by_cases h1 : c < 128
  · rw [if_pos h1];exact Nat.le_of_ble_eq_true rfl
  · rw [if_neg h1]
    by_cases h2 : c < 2048
    · rw [if_pos h2];exact Nat.le_of_ble_eq_true rfl
    · rw [if_neg h2]
      by_cases h3 : c < 65536
      · rw [if_pos h3];exact Nat.le_of_ble_eq_true rfl
      · rw [if_neg h3];exact Nat.le_of_ble_eq_true rfl
end Go.Proofs.YtjopbfidjapmbaaGreatDoorS
end
section
namespace Go.Proofs.YtjopbfidjapmbaaGreatDoorS
open Go.RowKit Go.Shelf
set_option linter.unusedVariables false
set_option linter.unusedSimpArgs false
attribute [local go_sem] Oper.semAt_some
abbrev URune:={ x : Nat × Nat × Nat // x.2.1 ≤ 2147483647 }
def uenc (x : URune) : Array Value:=#[.int .i64 x.1.1,.int .i32 x.1.2.1]
theorem abides_alloc {β : Type} {D : Nat} {J : β → World → Prop} (h : AbidesFrom D J) {s : β} {W : World} (o : Obj) (hs : J s W) : J s (W.alloc o) :=
  h s W (W.alloc o) none hs ⟨rfl,rfl,rfl,by simp,fun i hi _=>Below.heap_alloc W o i hi⟩ (fun r e=>by cases e)
theorem grownBy_iterAt (W : World) (k : Nat) (s : ByteArray) (pos : Nat) : W.grownBy (W.iterAt k s pos) (some k) :=
  ⟨rfl,rfl,rfl,by rw [Lib.iterAt_size];exact Nat.le_refl _,fun i hi hne=>Lib.iterAt_other W k i s pos (fun e=>hne (by rw [e]))⟩
theorem abides_iter {β : Type} {D : Nat} {J : β → World → Prop} (h : AbidesFrom D J) {s : β} {W : World} {k : Nat} {t : ByteArray} {p : Nat} (hk : D ≤ k) (hit : W.heap[k]? = some (.stringIter t p)) (q : Nat) (hs : J s W) : J s (W.iterAt k t q) :=
  h s W _ (some k) hs (grownBy_iterAt W k t q) (fun r e=>by cases e;exact ⟨hk,_,hit,rfl⟩)
set_option maxHeartbeats 4000000 in
set_option maxRecDepth 1000000 in
theorem all1_stops (F : Fence) (n : Nat) (hF : F.fn 115) (hro : F.round = none) (hn : 1 ≤ n) (box : Nat) (s : ByteArray) (w : World) (hsz : s.size ≤ 140737488351232) (hbox : w.cell? ⟨box,0,none⟩ = some (.string s)) :
    SeqStopsA F n Tryz.prog 115 #[.pointer (some ⟨box,0,none⟩)] uenc (fun xs=>xs.map Subtype.val = uall s) (fun pre=>∃ r,pre.map Subtype.val ++ r = uall s) (s.size + 1) w:=fun l J Jx W hW hJ hJx hY h0=>by
  have hbW : W.cell? ⟨box,0,none⟩ = some (.string s):=(hW.cell (p:=⟨box,0,none⟩) (World.block_lt_of_cell? w _ hbox)).trans hbox
  refine callsIn_of_wp Tryz.func115 rfl hF ?_ hro
  simp only [Tryz.ntmps115,List.size_toArray,List.length_cons,List.length_nil,Nat.reduceAdd,Nat.reduceSub,Array.replicate_succ,Array.replicate_zero,List.push_toArray,List.append_toArray,List.nil_append,List.cons_append]
  gi_wp2
  gi_loopw [] (fun wr=>∃ (pos f : Nat) (pre : List URune),wr.heap[W.heap.size]? = some (.stringIter s pos) ∧ J pre wr ∧ pre.map Subtype.val ++ ulist s f pos = uall s ∧ s.size ≤ pos + f) (fun wr=>s.size - wr.iterPos W.heap.size)
  case atStart=>exact ⟨0,s.size,[],World.iter_heap W s 0,abides_alloc hJ _ h0,rfl,by omega⟩
  case round =>
    obtain ⟨pos,f,pre,hit,hJs,hx,hf⟩:=hrel
    by_cases hp : pos < s.size
    · have hnx : ∀ ty,(Instr.next (.pointer (some ⟨W.heap.size,0,none⟩)) true ty).run Tryz.prog wr = _:=fun ty=>Lib.run_next_any_at wr W.heap.size s pos ty hit hp
      have hwd:=width_pos s pos hp
      have hd1:=decode_le s pos
      have hit2:=Lib.iterAt_heap wr (W.heap.size) s pos (pos + (Utf8.decode s pos).2) hit
      obtain ⟨f,rfl⟩ : ∃ f',f = f' + 1:=⟨f - 1,by omega⟩
      have hJ2:=abides_iter hJ (Nat.le_refl _) hit (pos + (Utf8.decode s pos).2) hJs
      have hlen : pre.length < s.size + 1:=by
        have h1:=congrArg List.length hx
        have h2:=ulist_length s s.size 0
        simp only [List.length_append,List.length_map,uall] at h1
        omega
      rw [ulist_step s f pos hp] at hx
      obtain ⟨fn,tmps,assign,body,hy,hR⟩:=hY pre ⟨(pos,(Utf8.decode s pos).1,(Utf8.decode s pos).2),hd1⟩ _ hJ2 hlen
      simp only [uenc] at hy
      have hx:=Lib.hid hx
      clear hJ2
      gi_wp2
      refine hR.mono ?_
      rintro e W3 (⟨rfl,hJ3,hk3⟩ | ⟨rfl,hJx3⟩)
      · have hit3:=hk3.same _ _ hit2 rfl
        gi_wp2
        go_roundw
        case rel=>exact ⟨pos + (Utf8.decode s pos).2,f,pre ++ [⟨(pos,(Utf8.decode s pos).1,(Utf8.decode s pos).2),hd1⟩],hit3,hJ3,by have:=hx.out;simpa using this,by omega⟩
        case measure=>simp only [World.iterPos,hit3,hit];omega
      · gi_wp2
        refine bodyPost_ret (results_none rfl _ _ _) rfl ?_
        exact ⟨⟨_,rfl⟩,.inr ⟨_,⟨_,by have:=hx.out;simpa using this⟩,hJx3⟩⟩
    · have hnx : ∀ ty,(Instr.next (.pointer (some ⟨W.heap.size,0,none⟩)) true ty).run Tryz.prog wr = _:=fun ty=>Lib.run_next_end_at wr (W.heap.size) s pos ty hit hp
      rw [ulist_end s f pos hp,List.append_nil] at hx
      have hx:=Lib.hid hx
      gi_wp2
      go_end0
      exact ⟨⟨_,rfl⟩,.inl ⟨pre,hx.out,hJs⟩⟩
theorem cell_below1 {w w1 : World} (h : Below w.heap.size w w1) {a : Addr} {v : Value} (hc : w.cell? a = some v) : w1.cell? a = some v:=(h.cell (World.block_lt_of_cell? w a hc)).trans hc
theorem cell_new1 (W : World) (v : Value) (t : TypeId) (n : Nat) (hn : n = W.heap.size) : (W.alloc (.cells #[v] t)).cell? ⟨n,0,none⟩ = some v:=by subst hn;simp
theorem cell_old1 {W : World} {a : Addr} {v : Value} (h : W.cell? a = some v) (o : Obj) : (W.alloc o).cell? a = some v:=(World.cell?_alloc_lt (w:=W) (a:=a) (o:=o) (World.block_lt_of_cell? W a h)).trans h
theorem bldAt_turn {T e : TypeId} {B b : Nat} {p : Value} {bs : List Value} {W W' : World} {row : Option Nat} (h : Lib.BuilderAtF T e B b p bs W) (hg : W.grownBy W' row)
    (hr : ∀ r,row = some r → ∃ o : Obj,W.heap[r]? = some o ∧ o.isCells = false) : Lib.BuilderAtF T e B b p bs W':=by
  obtain ⟨hB,v,hb,hown,hne⟩:=h
  refine ⟨hB,v,(hg.block b (Array.getElem?_eq_some_iff.1 hb).1 ?_).trans hb,hown.kept hg ?_,hne⟩
  · intro e1
    obtain ⟨o,ho,hc⟩:=hr b e1.symm
    rw [hb] at ho
    cases ho
    cases hc
  · cases hv : v.ownBlock with
    | none=>exact .inl rfl
    | some g =>
      refine .inr (fun e1=>?_)
      obtain ⟨o,ho,hc⟩:=hr g e1.symm
      obtain ⟨c,fz,hg2⟩:=Lib.ownsRowF_kind hown g hv
      rw [hg2] at ho
      cases ho
      cases hc
theorem bld_turn {T e : TypeId} {B b : Nat} {bs : List Value} {W W' : World} {row : Option Nat} (h : Lib.IsBuilderF T e B b bs W) (hg : W.grownBy W' row)
    (hr : ∀ r,row = some r → ∃ o : Obj,W.heap[r]? = some o ∧ o.isCells = false) : Lib.IsBuilderF T e B b bs W' :=
  h.elim (fun x=>.inl (bldAt_turn x hg hr)) (fun x=>.inr (bldAt_turn x hg hr))
theorem bldAt_keeps {T e : TypeId} {B b : Nat} {p : Value} {bs : List Value} {W W' : World} (h : Lib.BuilderAtF T e B b p bs W) (hk : Lib.OthersKept e (some b) W W') (hs : W.heap.size ≤ W'.heap.size) : KeepsOthers W W':=by
  refine ⟨hs,fun k o ho hc=>hk k o ho ?_ ?_⟩
  · intro e1
    obtain ⟨hB,v,hb,_⟩:=h
    rw [Option.some.inj e1,hb] at ho
    cases ho
    cases hc
  · rintro c fz rfl
    cases hc
theorem bld_keeps {T e : TypeId} {B b : Nat} {bs : List Value} {W W' : World} (h : Lib.IsBuilderF T e B b bs W) (hk : Lib.OthersKept e (some b) W W') (hs : W.heap.size ≤ W'.heap.size) : KeepsOthers W W' :=
  h.elim (fun x=>bldAt_keeps x hk hs) (fun x=>bldAt_keeps x hk hs)
theorem bld_size {B b : Nat} {T e : TypeId} {bs : List Value} {W : World} (h : Lib.IsBuilderF T e B b bs W) : B ≤ W.heap.size:=by
  rcases h with h | h
  · have:=h.lt;have:=h.1;omega
  · have:=h.lt;have:=h.1;omega
end Go.Proofs.YtjopbfidjapmbaaGreatDoorS
end
