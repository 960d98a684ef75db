/- PART 0 OF A PROOF: Lean functions, and that the program computes them; written by hand and by a program. Not trusted: Lean checks it. -/
import Derived.BigCall
import Derived.Deep.DeepFit
import Derived.Deep.DeepMust
import Derived.Ground.GgwProg
import Derived.Ground.Names2Prog
import Derived.Laws.Cover4
import Derived.Lib.Hide
import Derived.Lib.OthersKept
import Derived.LoopIn
import Derived.LoopNIn
import Derived.OwnWalkIn
import Derived.RangeFuncBound
import Derived.RangeFuncCalls
import Derived.RangeFuncLeaves
import Derived.RangeFuncNested
import Derived.RangeFuncWrites
import Derived.Shelf.Abstract
import Derived.Shelf.Bits.Mul64
import Derived.Shelf.GgClosure.StringsIndexFunc
import Derived.Shelf.GgClosure.StringsIndexFuncTop
import Derived.Shelf.GgClosure.StringsRunes
import Derived.Shelf.LaysM
import Derived.Shelf.RegionOpen
import Derived.Shelf.Slices.Clone
import Derived.Shelf.Small.Strs
import Derived.Shelf.Small.Utf8
import Derived.Shelf.Strconv.Itoa0
import Derived.Shelf.Strconv.Itoa1
import Derived.Shelf.Strconv.Itoa2
import Derived.Shelf.Strconv.Itoa3
import Derived.Shelf.Strings.AsciiSet
import Derived.Shelf.Strings.Builder1
import Derived.Shelf.Strings.Builder2
import Derived.Shelf.Strings.Builder2Cap
import Derived.Shelf.Strings.BuilderCap
import Derived.Shelf.Strings.BuilderF
import Derived.Shelf.Strings.BuilderK
import Derived.Shelf.Strings.FieldsFuncAny
import Derived.Shelf.Strings.FuncGrows
import Derived.Shelf.Strings.Prefix
import Derived.Shelf.Strings.Runes
import Derived.Shelf.Strings.Search1
import Derived.Shelf.Strings.Trim
import Derived.Shelf.Unicode.Decode
import Derived.Shelf.Unicode.DecodeAny
import Derived.Shelf.Unicode.DecodeLast
import Derived.Shelf.Unicode.DecodeSlow
import Derived.TacticsInMore
import Derived.Test.YtpfbcepgmigeiaaDoorProg
import Derived.WalkKit
set_option linter.unusedVariables false
set_option linter.unusedSimpArgs false
section
namespace Go.Proofs
open Go.Shelf
def Tryd.lays169_ren : Go.Shelf.Ren:=⟨fun | 169=>23 | n=>n,fun | 70=>52 | 9=>9 | 0=>0 | 72=>55 | 37=>53 | 127=>80 | 3=>3 | 5=>5 | n=>n,fun | n=>n⟩
theorem Tryd.lays169 : Go.Proofs.Lays.n169 Tryd.prog Tryd.lays169_ren:={
  mixed:=by kernel_rfl
  f169:=Tryd.func23.trans (congrArg some (by kernel_rfl))
  t0:=Tryd.underlying0
  a0:=Tryd.isAgg0
  z0:=Tryd.sizeOf0
  v0:=Tryd.zeroValue0
  t3:=Tryd.underlying3
  a3:=Tryd.isAgg3
  z3:=Tryd.sizeOf3
  v3:=Tryd.zeroValue3
  t9:=Tryd.underlying9
  a9:=Tryd.isAgg9
  z9:=Tryd.sizeOf9
  v9:=Tryd.zeroValue9
  t37:=Tryd.underlying53
  a37:=Tryd.isAgg53
  z37:=Tryd.sizeOf53
  v37:=Tryd.zeroValue53
  t70:=Tryd.underlying52
  a70:=Tryd.isAgg52
  z70:=Tryd.sizeOf52
  v70:=Tryd.zeroValue52
  t72:=Tryd.underlying55
  a72:=Tryd.isAgg55
  z72:=Tryd.sizeOf55
  v72:=Tryd.zeroValue55
  t127:=Tryd.underlying80
  a127:=Tryd.isAgg80
  z127:=Tryd.sizeOf80
  v127:=Tryd.zeroValue80 }
theorem Tryd.Builder_Extra_169 : Builder.Extra Tryd.prog Tryd.lays169_ren:={
  sizeBuilder:=by kernel_rfl
  liesBuilder:=by kernel_rfl
  t5:=Tryd.underlying5
  a5:=Tryd.isAgg5
  z5:=Tryd.sizeOf5
  v5:=Tryd.zeroValue5
  infoByte:=by kernel_rfl
  cellsByte:=by kernel_rfl
  sizeByte:=by kernel_rfl
  neB5:=by decide }
def Tryd.lays160_ren : Go.Shelf.Ren:=⟨fun | 160=>51 | 232=>64 | 231=>63 | 227=>65 | 234=>67 | 233=>66 | 236=>69 | 235=>68 | 228=>78 | 271=>80 | 151=>79 | 197=>76 | 120=>88 | 152=>87 | 260=>86 | 137=>91 | 119=>92 | 224=>93 | 225=>94 | 217=>95 | 266=>96 | n=>n,fun | 9=>9 | 4=>4 | 3=>3 | 5=>5 | 117=>105 | 116=>104 | 0=>0 | 124=>108 | 21=>21 | 105=>99 | 46=>66 | 119=>127 | 139=>130 | 138=>129 | n=>n,fun | 3=>2 | 4=>3 | n=>n⟩
theorem Tryd.lays160 : Go.Proofs.Lays.n160 Tryd.prog Tryd.lays160_ren:={
  mixed:=by kernel_rfl
  f119:=Tryd.func92.trans (congrArg some (by kernel_rfl))
  f120:=Tryd.func88.trans (congrArg some (by kernel_rfl))
  f137:=Tryd.func91.trans (congrArg some (by kernel_rfl))
  f151:=Tryd.func79.trans (congrArg some (by kernel_rfl))
  f152:=Tryd.func87.trans (congrArg some (by kernel_rfl))
  f160:=Tryd.func51.trans (congrArg some (by kernel_rfl))
  f197:=Tryd.func76.trans (congrArg some (by kernel_rfl))
  f217:=Tryd.func95.trans (congrArg some (by kernel_rfl))
  f224:=Tryd.func93.trans (congrArg some (by kernel_rfl))
  f225:=Tryd.func94.trans (congrArg some (by kernel_rfl))
  f227:=Tryd.func65.trans (congrArg some (by kernel_rfl))
  f228:=Tryd.func78.trans (congrArg some (by kernel_rfl))
  f231:=Tryd.func63.trans (congrArg some (by kernel_rfl))
  f232:=Tryd.func64.trans (congrArg some (by kernel_rfl))
  f233:=Tryd.func66.trans (congrArg some (by kernel_rfl))
  f234:=Tryd.func67.trans (congrArg some (by kernel_rfl))
  f235:=Tryd.func68.trans (congrArg some (by kernel_rfl))
  f236:=Tryd.func69.trans (congrArg some (by kernel_rfl))
  f260:=Tryd.func86.trans (congrArg some (by kernel_rfl))
  f266:=Tryd.func96.trans (congrArg some (by kernel_rfl))
  f271:=Tryd.func80.trans (congrArg some (by kernel_rfl))
  t0:=Tryd.underlying0
  a0:=Tryd.isAgg0
  z0:=Tryd.sizeOf0
  v0:=Tryd.zeroValue0
  t3:=Tryd.underlying3
  a3:=Tryd.isAgg3
  z3:=Tryd.sizeOf3
  v3:=Tryd.zeroValue3
  t4:=Tryd.underlying4
  a4:=Tryd.isAgg4
  z4:=Tryd.sizeOf4
  v4:=Tryd.zeroValue4
  t5:=Tryd.underlying5
  a5:=Tryd.isAgg5
  z5:=Tryd.sizeOf5
  v5:=Tryd.zeroValue5
  t9:=Tryd.underlying9
  a9:=Tryd.isAgg9
  z9:=Tryd.sizeOf9
  v9:=Tryd.zeroValue9
  t21:=Tryd.underlying21
  a21:=Tryd.isAgg21
  z21:=Tryd.sizeOf21
  v21:=Tryd.zeroValue21
  t46:=Tryd.underlying66
  a46:=Tryd.isAgg66
  z46:=Tryd.sizeOf66
  v46:=Tryd.zeroValue66
  t105:=Tryd.underlying99
  a105:=Tryd.isAgg99
  z105:=Tryd.sizeOf99
  v105:=Tryd.zeroValue99
  t116:=Tryd.underlying104
  a116:=Tryd.isAgg104
  z116:=Tryd.sizeOf104
  t117:=Tryd.underlying105
  a117:=Tryd.isAgg105
  z117:=Tryd.sizeOf105
  v117:=Tryd.zeroValue105
  t119:=Tryd.underlying127
  a119:=Tryd.isAgg127
  z119:=Tryd.sizeOf127
  t124:=Tryd.underlying108
  a124:=Tryd.isAgg108
  z124:=Tryd.sizeOf108
  v124:=Tryd.zeroValue108
  t138:=Tryd.underlying129
  a138:=Tryd.isAgg129
  z138:=Tryd.sizeOf129
  v138:=Tryd.zeroValue129
  t139:=Tryd.underlying130
  a139:=Tryd.isAgg130
  z139:=Tryd.sizeOf130
  v139:=Tryd.zeroValue130
  g3:=by kernel_rfl
  g4:=by kernel_rfl }
open Go.RowKit in
theorem Tryd.strings_Trim_one (s : ByteArray) (c : UInt8) (hc : c.toNat < 128) (w : World) (hs : s.size ≤ 9223372036854775807) :
    Calls Tryd.prog 51 #[.string s,.string ⟨#[c]⟩] w fun e w'=>e = .returned (.string ⟨(Lib.trimB s.data.toList c).toArray⟩) ∧ (w' = w ∨ w' = w.drew):=Any.strings_Trim_one Tryd.lays160 s c hc w hs
open Go.RowKit in
theorem Tryd.Builder_String_any_k (B b : Nat) (l : List UInt8) (w : World) (h : Lib.IsBuilderF 55 5 B b (Lib.byteCells l) w) (hBw : B ≤ w.heap.size) :
    Calls Tryd.prog 23 #[.pointer (some ⟨b,0,none⟩)] w fun e w'=>e = .returned (.string ⟨l.toArray⟩) ∧ (Lib.IsBuilderF 55 5 B b (Lib.byteCells l) w' ∧ Below B w w' ∧ Lib.OthersKept 5 (some b) w w'):=Any.Builder_String_any_k Tryd.lays169 Tryd.Builder_Extra_169 B b l w h hBw
def Tryd.laysM171_ren : Go.Shelf.Ren:=⟨fun | 171=>11 | 243=>35 | 246=>52 | 283=>70 | 284=>71 | 285=>72 | 286=>73 | 129=>82 | 317=>81 | 318=>83 | 319=>84 | 320=>85 | 337=>89 | 338=>90 | n=>n,fun | 3=>3 | 9=>9 | 2=>2 | 4=>4 | 171=>109 | 0=>0 | 53=>88 | 37=>53 | 5=>5 | 173=>112 | 212=>122 | 51=>85 | 20=>20 | 213=>123 | 46=>66 | 232=>133 | 233=>134 | n=>n,fun | 17=>0 | 18=>4 | 19=>5 | n=>n⟩
theorem Tryd.laysM171 : Go.Proofs.LaysM.n171 Tryd.prog Tryd.laysM171_ren:={
  mixed:=by kernel_rfl
  f129:=Tryd.func82.trans (congrArg some (by kernel_rfl))
  f171:=Tryd.func11.trans (congrArg some (by kernel_rfl))
  f243:=Tryd.func35.trans (congrArg some (by kernel_rfl))
  f246:=Tryd.func52.trans (congrArg some (by kernel_rfl))
  f283:=Tryd.func70.trans (congrArg some (by kernel_rfl))
  f284:=Tryd.func71.trans (congrArg some (by kernel_rfl))
  f285:=Tryd.func72.trans (congrArg some (by kernel_rfl))
  f286:=Tryd.func73.trans (congrArg some (by kernel_rfl))
  f317:=Tryd.func81.trans (congrArg some (by kernel_rfl))
  f318:=Tryd.func83.trans (congrArg some (by kernel_rfl))
  f319:=Tryd.func84.trans (congrArg some (by kernel_rfl))
  f320:=Tryd.func85.trans (congrArg some (by kernel_rfl))
  f337:=Tryd.func89.trans (congrArg some (by kernel_rfl))
  f338:=Tryd.func90.trans (congrArg some (by kernel_rfl))
  t0:=Tryd.underlying0
  a0:=Tryd.isAgg0
  z0:=Tryd.sizeOf0
  v0:=Tryd.zeroValue0
  t2:=Tryd.underlying2
  a2:=Tryd.isAgg2
  z2:=Tryd.sizeOf2
  v2:=Tryd.zeroValue2
  t3:=Tryd.underlying3
  a3:=Tryd.isAgg3
  z3:=Tryd.sizeOf3
  v3:=Tryd.zeroValue3
  t4:=Tryd.underlying4
  a4:=Tryd.isAgg4
  z4:=Tryd.sizeOf4
  v4:=Tryd.zeroValue4
  t5:=Tryd.underlying5
  a5:=Tryd.isAgg5
  z5:=Tryd.sizeOf5
  v5:=Tryd.zeroValue5
  t9:=Tryd.underlying9
  a9:=Tryd.isAgg9
  z9:=Tryd.sizeOf9
  v9:=Tryd.zeroValue9
  t20:=Tryd.underlying20
  a20:=Tryd.isAgg20
  z20:=Tryd.sizeOf20
  v20:=Tryd.zeroValue20
  t37:=Tryd.underlying53
  a37:=Tryd.isAgg53
  z37:=Tryd.sizeOf53
  v37:=Tryd.zeroValue53
  t46:=Tryd.underlying66
  a46:=Tryd.isAgg66
  z46:=Tryd.sizeOf66
  v46:=Tryd.zeroValue66
  t51:=Tryd.underlying85
  a51:=Tryd.isAgg85
  z51:=Tryd.sizeOf85
  v51:=Tryd.zeroValue85
  t53:=Tryd.underlying88
  a53:=Tryd.isAgg88
  z53:=Tryd.sizeOf88
  v53:=Tryd.zeroValue88
  t171:=Tryd.underlying109
  a171:=Tryd.isAgg109
  z171:=Tryd.sizeOf109
  v171:=Tryd.zeroValue109
  t173:=Tryd.underlying112
  a173:=Tryd.isAgg112
  z173:=Tryd.sizeOf112
  v173:=Tryd.zeroValue112
  t212:=Tryd.underlying122
  a212:=Tryd.isAgg122
  z212:=Tryd.sizeOf122
  v212:=Tryd.zeroValue122
  t213:=Tryd.underlying123
  a213:=Tryd.isAgg123
  z213:=Tryd.sizeOf123
  t232:=Tryd.underlying133
  a232:=Tryd.isAgg133
  z232:=Tryd.sizeOf133
  v232:=Tryd.zeroValue133
  t233:=Tryd.underlying134
  a233:=Tryd.isAgg134
  z233:=Tryd.sizeOf134
  v233:=Tryd.zeroValue134
  g17:=by kernel_rfl
  g18:=by kernel_rfl
  g19:=by kernel_rfl
  i0:=by kernel_rfl
  i2:=by kernel_rfl
  i3:=by kernel_rfl
  i4:=by kernel_rfl
  i5:=by kernel_rfl
  i9:=by kernel_rfl
  i20:=by kernel_rfl
  i37:=by kernel_rfl
  i46:=by kernel_rfl
  i51:=by kernel_rfl
  i53:=by kernel_rfl
  i171:=by kernel_rfl
  i173:=by kernel_rfl
  i212:=by kernel_rfl
  i232:=by kernel_rfl
  i233:=by kernel_rfl
  m17:=by kernel_rfl
  m18:=by kernel_rfl
  m19:=by kernel_rfl }
open Go.RowKit Go.Sort Go.Lib in
theorem Tryd.strconv_Itoa (n : Int) (h0 : -9223372036854775808 ≤ n) (h1 : n ≤ 9223372036854775807) (w : World) (htab : Lib.TabIs Tryd.prog w "internal/strconv.uint64pow10" .u64 Lib.pow10Tab) :
    Calls Tryd.prog 11 #[.int .i64 n] w fun e w'=>e = .returned (.string ⟨(Lib.itoa n).toArray⟩) ∧ ∃ k os,w' = grow (w.drewN k) os:=Any.strconv_Itoa Tryd.laysM171 n h0 h1 w htab
def Tryd.laysGw17_ren : Go.Shelf.Ren:=⟨fun | 17=>50 | 15=>62 | 20=>77 | n=>n,fun | 9=>9 | 23=>51 | 4=>4 | 3=>3 | 0=>0 | 21=>21 | n=>n,fun | n=>n⟩
theorem Tryd.laysGw17 : Go.Proofs.LaysGw.n17 Tryd.prog Tryd.laysGw17_ren:={
  mixed:=by kernel_rfl
  f15:=Tryd.func62.trans (congrArg some (by kernel_rfl))
  f17:=Tryd.func50.trans (congrArg some (by kernel_rfl))
  f20:=Tryd.func77.trans (congrArg some (by kernel_rfl))
  t0:=Tryd.underlying0
  a0:=Tryd.isAgg0
  z0:=Tryd.sizeOf0
  v0:=Tryd.zeroValue0
  i0:=by kernel_rfl
  t3:=Tryd.underlying3
  a3:=Tryd.isAgg3
  z3:=Tryd.sizeOf3
  v3:=Tryd.zeroValue3
  i3:=by kernel_rfl
  t4:=Tryd.underlying4
  a4:=Tryd.isAgg4
  z4:=Tryd.sizeOf4
  v4:=Tryd.zeroValue4
  i4:=by kernel_rfl
  t9:=Tryd.underlying9
  a9:=Tryd.isAgg9
  z9:=Tryd.sizeOf9
  v9:=Tryd.zeroValue9
  i9:=by kernel_rfl
  t21:=Tryd.underlying21
  a21:=Tryd.isAgg21
  z21:=Tryd.sizeOf21
  v21:=Tryd.zeroValue21
  i21:=by kernel_rfl
  t23:=Tryd.underlying51
  a23:=Tryd.isAgg51
  z23:=Tryd.sizeOf51
  v23:=Tryd.zeroValue51
  i23:=by kernel_rfl }
def Tryd.lays99_ren : Go.Shelf.Ren:=⟨fun | 99=>37 | 206=>55 | n=>n,fun | 9=>9 | 4=>4 | 3=>3 | n=>n,fun | n=>n⟩
theorem Tryd.lays99 : Go.Proofs.Lays.n99 Tryd.prog Tryd.lays99_ren:={
  mixed:=by kernel_rfl
  f99:=Tryd.func37.trans (congrArg some (by kernel_rfl))
  f206:=Tryd.func55.trans (congrArg some (by kernel_rfl))
  t3:=Tryd.underlying3
  a3:=Tryd.isAgg3
  z3:=Tryd.sizeOf3
  v3:=Tryd.zeroValue3
  t4:=Tryd.underlying4
  a4:=Tryd.isAgg4
  z4:=Tryd.sizeOf4
  v4:=Tryd.zeroValue4
  t9:=Tryd.underlying9
  a9:=Tryd.isAgg9
  z9:=Tryd.sizeOf9
  v9:=Tryd.zeroValue9 }
open Go.RowKit Go.Lib in
theorem Tryd.strings_HasPrefix (s p : ByteArray) (w : World) :
    Calls Tryd.prog 37 #[.string s,.string p] w fun e w'=>e = .returned (.bool (Lib.hasPrefix s.data.toList p.data.toList)) ∧ w' = w:=Any.strings_HasPrefix Tryd.lays99 s p w
def Tryd.lays197_ren : Go.Shelf.Ren:=⟨fun | 197=>76 | 260=>86 | n=>n,fun | 9=>9 | 21=>21 | 3=>3 | 4=>4 | 5=>5 | 105=>99 | 119=>127 | 0=>0 | 46=>66 | 139=>130 | 138=>129 | n=>n,fun | 3=>2 | 4=>3 | n=>n⟩
theorem Tryd.lays197 : Go.Proofs.Lays.n197 Tryd.prog Tryd.lays197_ren:={
  mixed:=by kernel_rfl
  f197:=Tryd.func76.trans (congrArg some (by kernel_rfl))
  f260:=Tryd.func86.trans (congrArg some (by kernel_rfl))
  t0:=Tryd.underlying0
  a0:=Tryd.isAgg0
  z0:=Tryd.sizeOf0
  v0:=Tryd.zeroValue0
  t3:=Tryd.underlying3
  a3:=Tryd.isAgg3
  z3:=Tryd.sizeOf3
  v3:=Tryd.zeroValue3
  t4:=Tryd.underlying4
  a4:=Tryd.isAgg4
  z4:=Tryd.sizeOf4
  v4:=Tryd.zeroValue4
  t5:=Tryd.underlying5
  a5:=Tryd.isAgg5
  z5:=Tryd.sizeOf5
  v5:=Tryd.zeroValue5
  t9:=Tryd.underlying9
  a9:=Tryd.isAgg9
  z9:=Tryd.sizeOf9
  v9:=Tryd.zeroValue9
  t21:=Tryd.underlying21
  a21:=Tryd.isAgg21
  z21:=Tryd.sizeOf21
  v21:=Tryd.zeroValue21
  t46:=Tryd.underlying66
  a46:=Tryd.isAgg66
  z46:=Tryd.sizeOf66
  v46:=Tryd.zeroValue66
  t105:=Tryd.underlying99
  a105:=Tryd.isAgg99
  z105:=Tryd.sizeOf99
  v105:=Tryd.zeroValue99
  t119:=Tryd.underlying127
  a119:=Tryd.isAgg127
  z119:=Tryd.sizeOf127
  t138:=Tryd.underlying129
  a138:=Tryd.isAgg129
  z138:=Tryd.sizeOf129
  v138:=Tryd.zeroValue129
  t139:=Tryd.underlying130
  a139:=Tryd.isAgg130
  z139:=Tryd.sizeOf130
  v139:=Tryd.zeroValue130
  g3:=by kernel_rfl
  g4:=by kernel_rfl }
def Tryd.lays212_ren : Go.Shelf.Ren:=⟨fun | 212=>36 | 263=>53 | 264=>54 | n=>n,fun | 46=>66 | 51=>85 | 146=>86 | 53=>88 | 148=>89 | n=>n,fun | n=>n⟩
theorem Tryd.lays212 : Go.Proofs.Lays.n212 Tryd.prog Tryd.lays212_ren:={
  mixed:=by kernel_rfl
  f212:=Tryd.func36.trans (congrArg some (by kernel_rfl))
  f263:=Tryd.func53.trans (congrArg some (by kernel_rfl))
  f264:=Tryd.func54.trans (congrArg some (by kernel_rfl))
  t46:=Tryd.underlying66
  a46:=Tryd.isAgg66
  z46:=Tryd.sizeOf66
  v46:=Tryd.zeroValue66
  t51:=Tryd.underlying85
  a51:=Tryd.isAgg85
  z51:=Tryd.sizeOf85
  v51:=Tryd.zeroValue85
  t53:=Tryd.underlying88
  a53:=Tryd.isAgg88
  z53:=Tryd.sizeOf88
  v53:=Tryd.zeroValue88
  t146:=Tryd.underlying86
  a146:=Tryd.isAgg86
  z146:=Tryd.sizeOf86
  v146:=Tryd.zeroValue86
  t148:=Tryd.underlying89
  a148:=Tryd.isAgg89
  z148:=Tryd.sizeOf89
  v148:=Tryd.zeroValue89 }
open Go.RowKit Go.Lib in
theorem Tryd.bits_Mul (x y : Nat) (hx : x < 18446744073709551616) (hy : y < 18446744073709551616) (w : World) :
    Calls Tryd.prog 36 #[.int .u64 x,.int .u64 y] w fun e w'=>e = .returned (.tuple #[.int .u64 ((x * y / 18446744073709551616 : Nat) : Int),.int .u64 ((x * y % 18446744073709551616 : Nat) : Int)]) ∧ w' = w:=Any.bits_Mul Tryd.lays212 x y hx hy w
open Go.RowKit Go.Lib in
theorem Tryd.utf8_DecodeRuneInString (s : ByteArray) (w : World) (hT : Lib.Utf8Tabs 2 3 w) :
    Calls Tryd.prog 76 #[.string s] w fun e w'=>e = .returned (.tuple #[.int .i32 (Lib.decodeGo s).1,.int .i64 (Lib.decodeGo s).2]) ∧ Below w.heap.size w w':=Any.utf8_DecodeRuneInString Tryd.lays197 s w hT
def Tryd.lays229_ren : Go.Shelf.Ren:=⟨fun | 229=>17 | n=>n,fun | 9=>9 | 40=>51 | 31=>25 | 152=>74 | 3=>3 | 0=>0 | 4=>4 | 21=>21 | 154=>76 | n=>n,fun | n=>n⟩
theorem Tryd.lays229 : Go.Proofs.Lays.n229 Tryd.prog Tryd.lays229_ren:={
  mixed:=by kernel_rfl
  f229:=Tryd.func17.trans (congrArg some (by kernel_rfl))
  t0:=Tryd.underlying0
  a0:=Tryd.isAgg0
  z0:=Tryd.sizeOf0
  v0:=Tryd.zeroValue0
  t3:=Tryd.underlying3
  a3:=Tryd.isAgg3
  z3:=Tryd.sizeOf3
  v3:=Tryd.zeroValue3
  t4:=Tryd.underlying4
  a4:=Tryd.isAgg4
  z4:=Tryd.sizeOf4
  v4:=Tryd.zeroValue4
  t9:=Tryd.underlying9
  a9:=Tryd.isAgg9
  z9:=Tryd.sizeOf9
  v9:=Tryd.zeroValue9
  t21:=Tryd.underlying21
  a21:=Tryd.isAgg21
  z21:=Tryd.sizeOf21
  v21:=Tryd.zeroValue21
  t31:=Tryd.underlying25
  a31:=Tryd.isAgg25
  z31:=Tryd.sizeOf25
  v31:=Tryd.zeroValue25
  t40:=Tryd.underlying51
  a40:=Tryd.isAgg51
  z40:=Tryd.sizeOf51
  v40:=Tryd.zeroValue51
  t152:=Tryd.underlying74
  a152:=Tryd.isAgg74
  z152:=Tryd.sizeOf74
  v152:=Tryd.zeroValue74
  t154:=Tryd.underlying76
  a154:=Tryd.isAgg76
  z154:=Tryd.sizeOf76
  v154:=Tryd.zeroValue76 }
open Go.RowKit Go.Lib in
theorem Tryd.strings_FieldsFunc (g : Nat) (lb : Array Value) (eg : ∀ args w,(callFunc g args).run Tryd.prog w = .ok (.enter g args) w) (p : Nat → Bool) (s : ByteArray) (w : World) (hs : s.size ≤ 4294967296) (hp : PredAt Tryd.prog g lb encR p w) :
    Calls Tryd.prog 17 #[.string s,.func (.func g) #[] lb] w fun e w'=>∃ A,e = .returned (.slice (some ⟨A,0,none⟩) (Lib.goFieldsP p s).length (Lib.goFieldsP p s).length) ∧ w.heap.size ≤ A ∧
      w'.ownsRow w.heap.size 9 1 (.slice (some ⟨A,0,none⟩) (Lib.goFieldsP p s).length (Lib.goFieldsP p s).length) (Lib.goFieldsP p s).length ((Lib.goFieldsP p s).map Value.string) ∧ Below w.heap.size w w':=Any.strings_FieldsFunc Tryd.lays229 g lb eg p s w hs hp (by kernel_rfl) (by kernel_rfl)
open Go.RowKit Go.Lib in
theorem Tryd.strings_ContainsFunc_grows (g : Nat) (lb : Array Value) (eg : ∀ args w,(callFunc g args).run Tryd.prog w = .ok (.enter g args) w) (p : Nat → Bool) (s : ByteArray) (w : World) (hp : PredGrows Tryd.prog g lb p w) :
    Calls Tryd.prog 50 #[.string s,.func (.func g) #[] lb] w fun e w'=>e = .returned (.bool (decide (0 ≤ Lib.idxFunc p true s))) ∧ Below w.heap.size w w':=Any.strings_ContainsFunc_grows Tryd.laysGw17 g lb eg p s w hp
end Go.Proofs
end
section
namespace Go.Proofs.YtpfbcepgmigeiaaDoorS
open Go.RowKit
set_option linter.unusedVariables false
set_option linter.unusedSimpArgs false
theorem bextra : Builder.Extra Tryd.prog Tryd.lays169_ren:=Tryd.Builder_Extra_169
set_option maxRecDepth 100000 in
theorem bld_copyCheck_fresh (b : Nat) (w : World) (h0 : w.cell? ⟨b,0,none⟩ = some (.pointer none)) (hsh : w.shape? b = some (55,2)) (hfz : w.frozen? ⟨b,0,none⟩ = false) :
    Calls Tryd.prog 45 #[.pointer (some ⟨b,0,none⟩)] w fun e w'=>e = .returned (.tuple #[]) ∧ w' = w.setCell ⟨b,0,none⟩ (.pointer (some ⟨b,0,none⟩)):=by
  obtain ⟨j,hj,hjs⟩:=Option.map_eq_some_iff.1 bextra.sizeBuilder
  go_enter Tryd.func45,Tryd.ntmps45
  go_wp2
  rw [Lib.run_to_unsafe w ⟨b,0,none⟩ Tryd.underlying52 Tryd.underlying94 hj (by rw [hjs];decide) hsh (Nat.zero_lt_succ 1)]
  simp only [Result.andThen]
  rw [Oper.upon_value]
  go_wp2
  rw [run_callFunc_extern Tryd.func59 (by kernel_rfl) (by kernel_rfl) (by kernel_rfl) (e:=Extern.AbiNoEscape.same) (by kernel_rfl)]
  rw [Lib.run_noEscape]
  simp only [Result.andThen]
  rw [Oper.upon_value]
  go_wp2
  rw [Lib.run_from_unsafe w ⟨b,0,none⟩ Tryd.underlying94 Tryd.underlying52 hj hsh bextra.liesBuilder]
  simp only [Result.andThen]
  rw [Oper.upon_value]
  go_wp2
  go_end0
  exact ⟨rfl,rfl⟩
set_option maxRecDepth 100000 in
theorem bld_copyCheck_used (b : Nat) (w : World) (h0 : w.cell? ⟨b,0,none⟩ = some (.pointer (some ⟨b,0,none⟩))) :
    Calls Tryd.prog 45 #[.pointer (some ⟨b,0,none⟩)] w fun e w'=>e = .returned (.tuple #[]) ∧ w' = w:=by
  obtain ⟨j,hj,_⟩:=Option.map_eq_some_iff.1 bextra.sizeBuilder
  go_enter Tryd.func45,Tryd.ntmps45
  go_wp2
  rw [Lib.run_neq_ptr_same w _ Tryd.underlying52 hj]
  go_wp2
  go_end0
  exact ⟨rfl,rfl⟩
theorem bld_copyCheck (B b : Nat) (bs : List Value) (w : World) (h : Lib.IsBuilderF 55 5 B b bs w) :
    Calls Tryd.prog 45 #[.pointer (some ⟨b,0,none⟩)] w fun e w'=>e = .returned (.tuple #[]) ∧ (Lib.BuilderAtF 55 5 B b (.pointer (some ⟨b,0,none⟩)) bs w' ∧ Below B w w' ∧ Lib.OthersKept 5 (some b) w w'):=by
  rcases h with h | h
  · refine (bld_copyCheck_fresh b w h.cell0 h.shape h.frozen0).mono ?_
    rintro e w' ⟨rfl,rfl⟩
    exact ⟨rfl,h.used _,(Below.refl B w).setCell (p:=⟨b,0,none⟩) h.1 _,(Lib.OthersKept.refl _ _ w).setCell ⟨b,0,none⟩ rfl _⟩
  · refine (bld_copyCheck_used b w h.cell0).mono ?_
    rintro e w' ⟨rfl,rfl⟩
    exact ⟨rfl,h,Below.refl B _,Lib.OthersKept.refl _ _ _⟩
set_option maxHeartbeats 2000000 in
set_option maxRecDepth 100000 in
theorem bld_WriteString (B b : Nat) (bs : List Value) (s : ByteArray) (w : World) (h : Lib.IsBuilderF 55 5 B b bs w) (hlen : bs.length + s.size ≤ 140737488355328) (hBw : B ≤ w.heap.size) :
    Calls Tryd.prog 22 #[.pointer (some ⟨b,0,none⟩),.string s] w fun e w'=>e = .returned (.tuple #[.int .i64 s.size,.nilIface]) ∧ (Lib.BuilderAtF 55 5 B b (.pointer (some ⟨b,0,none⟩)) (bs ++ Lib.strCells s) w' ∧ Below B w w' ∧ Lib.OthersKept 5 (some b) w w'):=by
  obtain ⟨i0,hi,hz0,hz1,hz2⟩:=info_parts bextra.infoByte
  go_enter Tryd.func22,Tryd.ntmps22
  go_wp2_with (go_at_call 45;refine (bld_copyCheck B b bs _ h).mono ?_)
  rintro e w1 ⟨rfl,h1,hb1,hk1⟩
  obtain ⟨hB,v,hbk,hown,hne⟩:=h1
  have c0 : w1.cell? ⟨b,0,none⟩ = some (.pointer (some ⟨b,0,none⟩)):=by rw [Lib.cell_of_heap hbk];rfl
  have c1 : w1.cell? ⟨b,1,none⟩ = some v:=by rw [Lib.cell_of_heap hbk];rfl
  go_wp2_with (at_builtin;refine Lib.wpList_append_own_stringF _ rfl _ _ 53 9 rfl B 5 i0 Tryd.underlying53 Tryd.underlying9 hi hz0 hz1 hz2 _ _ _ rfl hown s rfl ?c3 ?c4 ?c5 ?_)
  case c3=>unfold maxLen;omega
  case c4=>omega
  case c5=>have:=hb1.size;omega
  intro v' w2 hown' hgrow _
  have hlt : b < w1.heap.size:=by
    rcases Nat.lt_or_ge b w1.heap.size with h' | h'
    · exact h'
    · simp [Array.getElem?_eq_none h'] at hbk
  have hb2 : w2.heap[b]? = some (.cells #[.pointer (some ⟨b,0,none⟩),v] 55 (0,0)):=by
    rw [hgrow.block b hlt (fun e=>hne e.symm)]
    exact hbk
  have d0 : w2.cell? ⟨b,0,none⟩ = some (.pointer (some ⟨b,0,none⟩)):=by rw [Lib.cell_of_heap hb2];rfl
  have d1 : w2.cell? ⟨b,1,none⟩ = some v:=by rw [Lib.cell_of_heap hb2];rfl
  have f1 : w2.frozen? ⟨b,1,none⟩ = false:=Lib.frozen_of_heap hb2 1
  obtain ⟨ao,n',cap,rfl⟩ : ∃ ao n' cap,v' = .slice ao n' cap:=by
    rcases hown'.2 with ⟨hv,_⟩ | ⟨g,cap,cur,fz,hv,_⟩
    · exact ⟨_,_,_,hv⟩
    · exact ⟨_,_,_,hv⟩
  go_wp2
  go_ret2
  refine ⟨rfl,?_,?_,(hk1.grown hgrow (Lib.ownsRowF_kind hown)).setCell ⟨b,1,none⟩ rfl _⟩
  · exact Lib.BuilderAtF.put (T:=55) (e:=5) hB hb2 (bs':=bs ++ Lib.strCells s) (by simpa [Lib.strCells_length] using hown') (by decide)
  · exact (hb1.grown hgrow (by have:=hb1.size;omega) (fun k hk=>(hown.lt k hk).1)).setCell (p:=⟨b,1,none⟩) hB _
end Go.Proofs.YtpfbcepgmigeiaaDoorS
end
section
namespace Go.Proofs.YtpfbcepgmigeiaaDoorS
open Go
theorem guard_some {α : Type} {c : Prop} [Decidable c] {x r : α} (h : (if c then some x else none) = some r) : c ∧ x = r:=by
  by_cases hc : c
  · rw [if_pos hc] at h;exact ⟨hc,Option.some.inj h⟩
  · rw [if_neg hc] at h;cases h
theorem width_pos (s : ByteArray) (pos : Nat) (h : pos < s.size) : 1 ≤ (Utf8.decode s pos).2:=by
  by_cases ha : (s[pos]'h).toNat < 128
  · rw [decode_ascii s pos h ha]
    exact Nat.le_refl _
  · exact (decode_high s pos h (by omega)).2
def ulist (s : ByteArray) : Nat → Nat → List (Nat × Nat × Nat)
  | 0,_=>[]
  | f + 1,p=>if p < s.size then (p,(Utf8.decode s p).1,(Utf8.decode s p).2) :: ulist s f (p + (Utf8.decode s p).2) else []
def uall (s : ByteArray) : List (Nat × Nat × Nat):=ulist s s.size 0
def urunes (s : ByteArray) : List Int:=(uall s).map fun t=>(t.2.1 : Int)
def ucount (s : ByteArray) : Nat:=(uall s).length
def uvalid (s : ByteArray) : Bool:=(uall s).all fun t=>!(t.2.1 == 65533 && t.2.2 == 1)
def unext (s : ByteArray) (at_ : Int) : Int × Int:=if 0 ≤ at_ ∧ at_ < s.size then (((Utf8.decode s at_.toNat).1 : Int),((Utf8.decode s at_.toNat).2 : Int)) else (0,0)
theorem ulist_end (s : ByteArray) (f p : Nat) (h : ¬ p < s.size) : ulist s f p = []:=by
  cases f with
  | zero=>rfl
  | succ f=>simp [ulist,h]
theorem ulist_step (s : ByteArray) (f p : Nat) (h : p < s.size) : ulist s (f + 1) p = (p,(Utf8.decode s p).1,(Utf8.decode s p).2) :: ulist s f (p + (Utf8.decode s p).2):=by simp [ulist,h]
theorem ulist_length (s : ByteArray) : ∀ f p,(ulist s f p).length ≤ f:=by
  intro f
  induction f with
  | zero=>intro p;simp [ulist]
  | succ f ih =>
    intro p
    have:=ih (p + (Utf8.decode s p).2)
    unfold ulist
    split
    · simp only [List.length_cons];omega
    · simp
theorem ucount_le (s : ByteArray) : ucount s ≤ s.size:=ulist_length s _ _
end Go.Proofs.YtpfbcepgmigeiaaDoorS
end
section
namespace Go.Proofs.YtpfbcepgmigeiaaDoorS
open Go.RowKit Go.Shelf
set_option linter.unusedVariables false
set_option linter.unusedSimpArgs false
attribute [local go_sem] Oper.semAt_some
theorem abides_alloc {β : Type} {D : Nat} {J : β → World → Prop} (h : AbidesFrom D J) {s : β} {W : World} (o : Obj) (hs : J s W) : J s (W.alloc o) :=
  h s W (W.alloc o) none hs ⟨rfl,rfl,rfl,by simp,fun i hi _=>Below.heap_alloc W o i hi⟩ (fun r e=>by cases e)
theorem grownBy_iterAt (W : World) (k : Nat) (s : ByteArray) (pos : Nat) : W.grownBy (W.iterAt k s pos) (some k) :=
  ⟨rfl,rfl,rfl,by rw [Lib.iterAt_size];exact Nat.le_refl _,fun i hi hne=>Lib.iterAt_other W k i s pos (fun e=>hne (by rw [e]))⟩
theorem abides_iter {β : Type} {D : Nat} {J : β → World → Prop} (h : AbidesFrom D J) {s : β} {W : World} {k : Nat} {t : ByteArray} {p : Nat} (hk : D ≤ k) (hit : W.heap[k]? = some (.stringIter t p)) (q : Nat) (hs : J s W) : J s (W.iterAt k t q) :=
  h s W _ (some k) hs (grownBy_iterAt W k t q) (fun r e=>by cases e;exact ⟨hk,_,hit,rfl⟩)
theorem cell_below1 {w w1 : World} (h : Below w.heap.size w w1) {a : Addr} {v : Value} (hc : w.cell? a = some v) : w1.cell? a = some v:=(h.cell (World.block_lt_of_cell? w a hc)).trans hc
theorem cell_old1 {W : World} {a : Addr} {v : Value} (h : W.cell? a = some v) (o : Obj) : (W.alloc o).cell? a = some v:=(World.cell?_alloc_lt (w:=W) (a:=a) (o:=o) (World.block_lt_of_cell? W a h)).trans h
theorem bldAt_turn {T e : TypeId} {B b : Nat} {p : Value} {bs : List Value} {W W' : World} {row : Option Nat} (h : Lib.BuilderAtF T e B b p bs W) (hg : W.grownBy W' row)
    (hr : ∀ r,row = some r → ∃ o : Obj,W.heap[r]? = some o ∧ o.isCells = false) : Lib.BuilderAtF T e B b p bs W':=by
  obtain ⟨hB,v,hb,hown,hne⟩:=h
  refine ⟨hB,v,(hg.block b (Array.getElem?_eq_some_iff.1 hb).1 ?_).trans hb,hown.kept hg ?_,hne⟩
  · intro e1
    obtain ⟨o,ho,hc⟩:=hr b e1.symm
    rw [hb] at ho
    cases ho
    cases hc
  · cases hv : v.ownBlock with
    | none=>exact .inl rfl
    | some g =>
      refine .inr (fun e1=>?_)
      obtain ⟨o,ho,hc⟩:=hr g e1.symm
      obtain ⟨c,fz,hg2⟩:=Lib.ownsRowF_kind hown g hv
      rw [hg2] at ho
      cases ho
      cases hc
theorem bld_turn {T e : TypeId} {B b : Nat} {bs : List Value} {W W' : World} {row : Option Nat} (h : Lib.IsBuilderF T e B b bs W) (hg : W.grownBy W' row)
    (hr : ∀ r,row = some r → ∃ o : Obj,W.heap[r]? = some o ∧ o.isCells = false) : Lib.IsBuilderF T e B b bs W' :=
  h.elim (fun x=>.inl (bldAt_turn x hg hr)) (fun x=>.inr (bldAt_turn x hg hr))
theorem bld_size {B b : Nat} {T e : TypeId} {bs : List Value} {W : World} (h : Lib.IsBuilderF T e B b bs W) : B ≤ W.heap.size:=by
  rcases h with h | h
  · have:=h.lt;have:=h.1;omega
  · have:=h.lt;have:=h.1;omega
end Go.Proofs.YtpfbcepgmigeiaaDoorS
end
