/- PART 0 OF A PROOF: Lean functions, and that the program computes them; written by hand and by a program. Not trusted: Lean checks it. -/
import Derived.BigCall
import Derived.Deep.DeepFit
import Derived.Deep.DeepMust
import Derived.Ground.GgwProg
import Derived.Ground.Names2Prog
import Derived.Laws.Cover4
import Derived.Lib.Hide
import Derived.Lib.OthersKept
import Derived.LoopIn
import Derived.LoopNIn
import Derived.OwnWalkIn
import Derived.RangeFuncBound
import Derived.RangeFuncCalls
import Derived.RangeFuncLeaves
import Derived.RangeFuncNested
import Derived.RangeFuncWrites
import Derived.Shelf.Abstract
import Derived.Shelf.Bits.Mul64
import Derived.Shelf.GgClosure.StringsIndexFunc
import Derived.Shelf.GgClosure.StringsIndexFuncTop
import Derived.Shelf.GgClosure.StringsRunes
import Derived.Shelf.LaysM
import Derived.Shelf.RegionOpen
import Derived.Shelf.Slices.Clone
import Derived.Shelf.Small.Strs
import Derived.Shelf.Small.Utf8
import Derived.Shelf.Strconv.Itoa0
import Derived.Shelf.Strconv.Itoa1
import Derived.Shelf.Strconv.Itoa2
import Derived.Shelf.Strconv.Itoa3
import Derived.Shelf.Strings.AsciiSet
import Derived.Shelf.Strings.Builder1
import Derived.Shelf.Strings.Builder2
import Derived.Shelf.Strings.Builder2Cap
import Derived.Shelf.Strings.BuilderCap
import Derived.Shelf.Strings.BuilderF
import Derived.Shelf.Strings.BuilderK
import Derived.Shelf.Strings.FieldsFuncAny
import Derived.Shelf.Strings.FuncGrows
import Derived.Shelf.Strings.Prefix
import Derived.Shelf.Strings.Runes
import Derived.Shelf.Strings.Search1
import Derived.Shelf.Strings.Trim
import Derived.Shelf.Unicode.Decode
import Derived.Shelf.Unicode.DecodeAny
import Derived.Shelf.Unicode.DecodeLast
import Derived.Shelf.Unicode.DecodeSlow
import Derived.TacticsInMore
import Derived.Test.YtpfbcepgmigeiaaGreatDoorProg
import Derived.WalkKit
set_option linter.unusedVariables false
set_option linter.unusedSimpArgs false
section
namespace Go.Proofs
open Go.Shelf
def Tryz.lays169_ren : Go.Shelf.Ren:=⟨fun | 169=>25 | n=>n,fun | 70=>54 | 9=>9 | 0=>0 | 72=>57 | 37=>55 | 127=>86 | 3=>3 | 5=>5 | n=>n,fun | n=>n⟩
theorem Tryz.lays169 : Go.Proofs.Lays.n169 Tryz.prog Tryz.lays169_ren:={
  mixed:=by kernel_rfl
  f169:=Tryz.func25.trans (congrArg some (by kernel_rfl))
  t0:=Tryz.underlying0
  a0:=Tryz.isAgg0
  z0:=Tryz.sizeOf0
  v0:=Tryz.zeroValue0
  t3:=Tryz.underlying3
  a3:=Tryz.isAgg3
  z3:=Tryz.sizeOf3
  v3:=Tryz.zeroValue3
  t9:=Tryz.underlying9
  a9:=Tryz.isAgg9
  z9:=Tryz.sizeOf9
  v9:=Tryz.zeroValue9
  t37:=Tryz.underlying55
  a37:=Tryz.isAgg55
  z37:=Tryz.sizeOf55
  v37:=Tryz.zeroValue55
  t70:=Tryz.underlying54
  a70:=Tryz.isAgg54
  z70:=Tryz.sizeOf54
  v70:=Tryz.zeroValue54
  t72:=Tryz.underlying57
  a72:=Tryz.isAgg57
  z72:=Tryz.sizeOf57
  v72:=Tryz.zeroValue57
  t127:=Tryz.underlying86
  a127:=Tryz.isAgg86
  z127:=Tryz.sizeOf86
  v127:=Tryz.zeroValue86 }
theorem Tryz.Builder_Extra_169 : Builder.Extra Tryz.prog Tryz.lays169_ren:={
  sizeBuilder:=by kernel_rfl
  liesBuilder:=by kernel_rfl
  t5:=Tryz.underlying5
  a5:=Tryz.isAgg5
  z5:=Tryz.sizeOf5
  v5:=Tryz.zeroValue5
  infoByte:=by kernel_rfl
  cellsByte:=by kernel_rfl
  sizeByte:=by kernel_rfl
  neB5:=by decide }
def Tryz.lays160_ren : Go.Shelf.Ren:=⟨fun | 160=>70 | 232=>98 | 231=>97 | 227=>99 | 234=>101 | 233=>100 | 236=>103 | 235=>102 | 228=>116 | 271=>118 | 151=>117 | 197=>114 | 120=>126 | 152=>125 | 260=>124 | 137=>129 | 119=>130 | 224=>131 | 225=>132 | 217=>133 | 266=>134 | n=>n,fun | 9=>9 | 4=>4 | 3=>3 | 5=>5 | 117=>120 | 116=>119 | 0=>0 | 124=>123 | 21=>21 | 105=>108 | 46=>76 | 119=>152 | 139=>155 | 138=>154 | n=>n,fun | 3=>2 | 4=>3 | n=>n⟩
theorem Tryz.lays160 : Go.Proofs.Lays.n160 Tryz.prog Tryz.lays160_ren:={
  mixed:=by kernel_rfl
  f119:=Tryz.func130.trans (congrArg some (by kernel_rfl))
  f120:=Tryz.func126.trans (congrArg some (by kernel_rfl))
  f137:=Tryz.func129.trans (congrArg some (by kernel_rfl))
  f151:=Tryz.func117.trans (congrArg some (by kernel_rfl))
  f152:=Tryz.func125.trans (congrArg some (by kernel_rfl))
  f160:=Tryz.func70.trans (congrArg some (by kernel_rfl))
  f197:=Tryz.func114.trans (congrArg some (by kernel_rfl))
  f217:=Tryz.func133.trans (congrArg some (by kernel_rfl))
  f224:=Tryz.func131.trans (congrArg some (by kernel_rfl))
  f225:=Tryz.func132.trans (congrArg some (by kernel_rfl))
  f227:=Tryz.func99.trans (congrArg some (by kernel_rfl))
  f228:=Tryz.func116.trans (congrArg some (by kernel_rfl))
  f231:=Tryz.func97.trans (congrArg some (by kernel_rfl))
  f232:=Tryz.func98.trans (congrArg some (by kernel_rfl))
  f233:=Tryz.func100.trans (congrArg some (by kernel_rfl))
  f234:=Tryz.func101.trans (congrArg some (by kernel_rfl))
  f235:=Tryz.func102.trans (congrArg some (by kernel_rfl))
  f236:=Tryz.func103.trans (congrArg some (by kernel_rfl))
  f260:=Tryz.func124.trans (congrArg some (by kernel_rfl))
  f266:=Tryz.func134.trans (congrArg some (by kernel_rfl))
  f271:=Tryz.func118.trans (congrArg some (by kernel_rfl))
  t0:=Tryz.underlying0
  a0:=Tryz.isAgg0
  z0:=Tryz.sizeOf0
  v0:=Tryz.zeroValue0
  t3:=Tryz.underlying3
  a3:=Tryz.isAgg3
  z3:=Tryz.sizeOf3
  v3:=Tryz.zeroValue3
  t4:=Tryz.underlying4
  a4:=Tryz.isAgg4
  z4:=Tryz.sizeOf4
  v4:=Tryz.zeroValue4
  t5:=Tryz.underlying5
  a5:=Tryz.isAgg5
  z5:=Tryz.sizeOf5
  v5:=Tryz.zeroValue5
  t9:=Tryz.underlying9
  a9:=Tryz.isAgg9
  z9:=Tryz.sizeOf9
  v9:=Tryz.zeroValue9
  t21:=Tryz.underlying21
  a21:=Tryz.isAgg21
  z21:=Tryz.sizeOf21
  v21:=Tryz.zeroValue21
  t46:=Tryz.underlying76
  a46:=Tryz.isAgg76
  z46:=Tryz.sizeOf76
  v46:=Tryz.zeroValue76
  t105:=Tryz.underlying108
  a105:=Tryz.isAgg108
  z105:=Tryz.sizeOf108
  v105:=Tryz.zeroValue108
  t116:=Tryz.underlying119
  a116:=Tryz.isAgg119
  z116:=Tryz.sizeOf119
  t117:=Tryz.underlying120
  a117:=Tryz.isAgg120
  z117:=Tryz.sizeOf120
  v117:=Tryz.zeroValue120
  t119:=Tryz.underlying152
  a119:=Tryz.isAgg152
  z119:=Tryz.sizeOf152
  t124:=Tryz.underlying123
  a124:=Tryz.isAgg123
  z124:=Tryz.sizeOf123
  v124:=Tryz.zeroValue123
  t138:=Tryz.underlying154
  a138:=Tryz.isAgg154
  z138:=Tryz.sizeOf154
  v138:=Tryz.zeroValue154
  t139:=Tryz.underlying155
  a139:=Tryz.isAgg155
  z139:=Tryz.sizeOf155
  v139:=Tryz.zeroValue155
  g3:=by kernel_rfl
  g4:=by kernel_rfl }
open Go.RowKit in
theorem Tryz.strings_Trim_one (s : ByteArray) (c : UInt8) (hc : c.toNat < 128) (w : World) (hs : s.size ≤ 9223372036854775807) :
    Calls Tryz.prog 70 #[.string s,.string ⟨#[c]⟩] w fun e w'=>e = .returned (.string ⟨(Lib.trimB s.data.toList c).toArray⟩) ∧ (w' = w ∨ w' = w.drew):=Any.strings_Trim_one Tryz.lays160 s c hc w hs
open Go.RowKit in
theorem Tryz.Builder_String_any_k (B b : Nat) (l : List UInt8) (w : World) (h : Lib.IsBuilderF 57 5 B b (Lib.byteCells l) w) (hBw : B ≤ w.heap.size) :
    Calls Tryz.prog 25 #[.pointer (some ⟨b,0,none⟩)] w fun e w'=>e = .returned (.string ⟨l.toArray⟩) ∧ (Lib.IsBuilderF 57 5 B b (Lib.byteCells l) w' ∧ Below B w w' ∧ Lib.OthersKept 5 (some b) w w'):=Any.Builder_String_any_k Tryz.lays169 Tryz.Builder_Extra_169 B b l w h hBw
def Tryz.laysM171_ren : Go.Shelf.Ren:=⟨fun | 171=>15 | 243=>43 | 246=>73 | 283=>106 | 284=>107 | 285=>108 | 286=>109 | 129=>120 | 317=>119 | 318=>121 | 319=>122 | 320=>123 | 337=>127 | 338=>128 | n=>n,fun | 3=>3 | 9=>9 | 2=>2 | 4=>4 | 171=>127 | 0=>0 | 53=>101 | 37=>55 | 5=>5 | 173=>130 | 212=>147 | 51=>98 | 20=>20 | 213=>148 | 46=>76 | 232=>158 | 233=>159 | n=>n,fun | 17=>0 | 18=>4 | 19=>5 | n=>n⟩
theorem Tryz.laysM171 : Go.Proofs.LaysM.n171 Tryz.prog Tryz.laysM171_ren:={
  mixed:=by kernel_rfl
  f129:=Tryz.func120.trans (congrArg some (by kernel_rfl))
  f171:=Tryz.func15.trans (congrArg some (by kernel_rfl))
  f243:=Tryz.func43.trans (congrArg some (by kernel_rfl))
  f246:=Tryz.func73.trans (congrArg some (by kernel_rfl))
  f283:=Tryz.func106.trans (congrArg some (by kernel_rfl))
  f284:=Tryz.func107.trans (congrArg some (by kernel_rfl))
  f285:=Tryz.func108.trans (congrArg some (by kernel_rfl))
  f286:=Tryz.func109.trans (congrArg some (by kernel_rfl))
  f317:=Tryz.func119.trans (congrArg some (by kernel_rfl))
  f318:=Tryz.func121.trans (congrArg some (by kernel_rfl))
  f319:=Tryz.func122.trans (congrArg some (by kernel_rfl))
  f320:=Tryz.func123.trans (congrArg some (by kernel_rfl))
  f337:=Tryz.func127.trans (congrArg some (by kernel_rfl))
  f338:=Tryz.func128.trans (congrArg some (by kernel_rfl))
  t0:=Tryz.underlying0
  a0:=Tryz.isAgg0
  z0:=Tryz.sizeOf0
  v0:=Tryz.zeroValue0
  t2:=Tryz.underlying2
  a2:=Tryz.isAgg2
  z2:=Tryz.sizeOf2
  v2:=Tryz.zeroValue2
  t3:=Tryz.underlying3
  a3:=Tryz.isAgg3
  z3:=Tryz.sizeOf3
  v3:=Tryz.zeroValue3
  t4:=Tryz.underlying4
  a4:=Tryz.isAgg4
  z4:=Tryz.sizeOf4
  v4:=Tryz.zeroValue4
  t5:=Tryz.underlying5
  a5:=Tryz.isAgg5
  z5:=Tryz.sizeOf5
  v5:=Tryz.zeroValue5
  t9:=Tryz.underlying9
  a9:=Tryz.isAgg9
  z9:=Tryz.sizeOf9
  v9:=Tryz.zeroValue9
  t20:=Tryz.underlying20
  a20:=Tryz.isAgg20
  z20:=Tryz.sizeOf20
  v20:=Tryz.zeroValue20
  t37:=Tryz.underlying55
  a37:=Tryz.isAgg55
  z37:=Tryz.sizeOf55
  v37:=Tryz.zeroValue55
  t46:=Tryz.underlying76
  a46:=Tryz.isAgg76
  z46:=Tryz.sizeOf76
  v46:=Tryz.zeroValue76
  t51:=Tryz.underlying98
  a51:=Tryz.isAgg98
  z51:=Tryz.sizeOf98
  v51:=Tryz.zeroValue98
  t53:=Tryz.underlying101
  a53:=Tryz.isAgg101
  z53:=Tryz.sizeOf101
  v53:=Tryz.zeroValue101
  t171:=Tryz.underlying127
  a171:=Tryz.isAgg127
  z171:=Tryz.sizeOf127
  v171:=Tryz.zeroValue127
  t173:=Tryz.underlying130
  a173:=Tryz.isAgg130
  z173:=Tryz.sizeOf130
  v173:=Tryz.zeroValue130
  t212:=Tryz.underlying147
  a212:=Tryz.isAgg147
  z212:=Tryz.sizeOf147
  v212:=Tryz.zeroValue147
  t213:=Tryz.underlying148
  a213:=Tryz.isAgg148
  z213:=Tryz.sizeOf148
  t232:=Tryz.underlying158
  a232:=Tryz.isAgg158
  z232:=Tryz.sizeOf158
  v232:=Tryz.zeroValue158
  t233:=Tryz.underlying159
  a233:=Tryz.isAgg159
  z233:=Tryz.sizeOf159
  v233:=Tryz.zeroValue159
  g17:=by kernel_rfl
  g18:=by kernel_rfl
  g19:=by kernel_rfl
  i0:=by kernel_rfl
  i2:=by kernel_rfl
  i3:=by kernel_rfl
  i4:=by kernel_rfl
  i5:=by kernel_rfl
  i9:=by kernel_rfl
  i20:=by kernel_rfl
  i37:=by kernel_rfl
  i46:=by kernel_rfl
  i51:=by kernel_rfl
  i53:=by kernel_rfl
  i171:=by kernel_rfl
  i173:=by kernel_rfl
  i212:=by kernel_rfl
  i232:=by kernel_rfl
  i233:=by kernel_rfl
  m17:=by kernel_rfl
  m18:=by kernel_rfl
  m19:=by kernel_rfl }
open Go.RowKit Go.Sort Go.Lib in
theorem Tryz.strconv_Itoa (n : Int) (h0 : -9223372036854775808 ≤ n) (h1 : n ≤ 9223372036854775807) (w : World) (htab : Lib.TabIs Tryz.prog w "internal/strconv.uint64pow10" .u64 Lib.pow10Tab) :
    Calls Tryz.prog 15 #[.int .i64 n] w fun e w'=>e = .returned (.string ⟨(Lib.itoa n).toArray⟩) ∧ ∃ k os,w' = grow (w.drewN k) os:=Any.strconv_Itoa Tryz.laysM171 n h0 h1 w htab
def Tryz.laysGw17_ren : Go.Shelf.Ren:=⟨fun | 17=>69 | 15=>96 | 20=>115 | n=>n,fun | 9=>9 | 23=>93 | 4=>4 | 3=>3 | 0=>0 | 21=>21 | n=>n,fun | n=>n⟩
theorem Tryz.laysGw17 : Go.Proofs.LaysGw.n17 Tryz.prog Tryz.laysGw17_ren:={
  mixed:=by kernel_rfl
  f15:=Tryz.func96.trans (congrArg some (by kernel_rfl))
  f17:=Tryz.func69.trans (congrArg some (by kernel_rfl))
  f20:=Tryz.func115.trans (congrArg some (by kernel_rfl))
  t0:=Tryz.underlying0
  a0:=Tryz.isAgg0
  z0:=Tryz.sizeOf0
  v0:=Tryz.zeroValue0
  i0:=by kernel_rfl
  t3:=Tryz.underlying3
  a3:=Tryz.isAgg3
  z3:=Tryz.sizeOf3
  v3:=Tryz.zeroValue3
  i3:=by kernel_rfl
  t4:=Tryz.underlying4
  a4:=Tryz.isAgg4
  z4:=Tryz.sizeOf4
  v4:=Tryz.zeroValue4
  i4:=by kernel_rfl
  t9:=Tryz.underlying9
  a9:=Tryz.isAgg9
  z9:=Tryz.sizeOf9
  v9:=Tryz.zeroValue9
  i9:=by kernel_rfl
  t21:=Tryz.underlying21
  a21:=Tryz.isAgg21
  z21:=Tryz.sizeOf21
  v21:=Tryz.zeroValue21
  i21:=by kernel_rfl
  t23:=Tryz.underlying93
  a23:=Tryz.isAgg93
  z23:=Tryz.sizeOf93
  v23:=Tryz.zeroValue93
  i23:=by kernel_rfl }
def Tryz.lays99_ren : Go.Shelf.Ren:=⟨fun | 99=>45 | 206=>76 | n=>n,fun | 9=>9 | 4=>4 | 3=>3 | n=>n,fun | n=>n⟩
theorem Tryz.lays99 : Go.Proofs.Lays.n99 Tryz.prog Tryz.lays99_ren:={
  mixed:=by kernel_rfl
  f99:=Tryz.func45.trans (congrArg some (by kernel_rfl))
  f206:=Tryz.func76.trans (congrArg some (by kernel_rfl))
  t3:=Tryz.underlying3
  a3:=Tryz.isAgg3
  z3:=Tryz.sizeOf3
  v3:=Tryz.zeroValue3
  t4:=Tryz.underlying4
  a4:=Tryz.isAgg4
  z4:=Tryz.sizeOf4
  v4:=Tryz.zeroValue4
  t9:=Tryz.underlying9
  a9:=Tryz.isAgg9
  z9:=Tryz.sizeOf9
  v9:=Tryz.zeroValue9 }
open Go.RowKit Go.Lib in
theorem Tryz.strings_HasPrefix (s p : ByteArray) (w : World) :
    Calls Tryz.prog 45 #[.string s,.string p] w fun e w'=>e = .returned (.bool (Lib.hasPrefix s.data.toList p.data.toList)) ∧ w' = w:=Any.strings_HasPrefix Tryz.lays99 s p w
def Tryz.lays197_ren : Go.Shelf.Ren:=⟨fun | 197=>114 | 260=>124 | n=>n,fun | 9=>9 | 21=>21 | 3=>3 | 4=>4 | 5=>5 | 105=>108 | 119=>152 | 0=>0 | 46=>76 | 139=>155 | 138=>154 | n=>n,fun | 3=>2 | 4=>3 | n=>n⟩
theorem Tryz.lays197 : Go.Proofs.Lays.n197 Tryz.prog Tryz.lays197_ren:={
  mixed:=by kernel_rfl
  f197:=Tryz.func114.trans (congrArg some (by kernel_rfl))
  f260:=Tryz.func124.trans (congrArg some (by kernel_rfl))
  t0:=Tryz.underlying0
  a0:=Tryz.isAgg0
  z0:=Tryz.sizeOf0
  v0:=Tryz.zeroValue0
  t3:=Tryz.underlying3
  a3:=Tryz.isAgg3
  z3:=Tryz.sizeOf3
  v3:=Tryz.zeroValue3
  t4:=Tryz.underlying4
  a4:=Tryz.isAgg4
  z4:=Tryz.sizeOf4
  v4:=Tryz.zeroValue4
  t5:=Tryz.underlying5
  a5:=Tryz.isAgg5
  z5:=Tryz.sizeOf5
  v5:=Tryz.zeroValue5
  t9:=Tryz.underlying9
  a9:=Tryz.isAgg9
  z9:=Tryz.sizeOf9
  v9:=Tryz.zeroValue9
  t21:=Tryz.underlying21
  a21:=Tryz.isAgg21
  z21:=Tryz.sizeOf21
  v21:=Tryz.zeroValue21
  t46:=Tryz.underlying76
  a46:=Tryz.isAgg76
  z46:=Tryz.sizeOf76
  v46:=Tryz.zeroValue76
  t105:=Tryz.underlying108
  a105:=Tryz.isAgg108
  z105:=Tryz.sizeOf108
  v105:=Tryz.zeroValue108
  t119:=Tryz.underlying152
  a119:=Tryz.isAgg152
  z119:=Tryz.sizeOf152
  t138:=Tryz.underlying154
  a138:=Tryz.isAgg154
  z138:=Tryz.sizeOf154
  v138:=Tryz.zeroValue154
  t139:=Tryz.underlying155
  a139:=Tryz.isAgg155
  z139:=Tryz.sizeOf155
  v139:=Tryz.zeroValue155
  g3:=by kernel_rfl
  g4:=by kernel_rfl }
def Tryz.lays212_ren : Go.Shelf.Ren:=⟨fun | 212=>44 | 263=>74 | 264=>75 | n=>n,fun | 46=>76 | 51=>98 | 146=>99 | 53=>101 | 148=>102 | n=>n,fun | n=>n⟩
theorem Tryz.lays212 : Go.Proofs.Lays.n212 Tryz.prog Tryz.lays212_ren:={
  mixed:=by kernel_rfl
  f212:=Tryz.func44.trans (congrArg some (by kernel_rfl))
  f263:=Tryz.func74.trans (congrArg some (by kernel_rfl))
  f264:=Tryz.func75.trans (congrArg some (by kernel_rfl))
  t46:=Tryz.underlying76
  a46:=Tryz.isAgg76
  z46:=Tryz.sizeOf76
  v46:=Tryz.zeroValue76
  t51:=Tryz.underlying98
  a51:=Tryz.isAgg98
  z51:=Tryz.sizeOf98
  v51:=Tryz.zeroValue98
  t53:=Tryz.underlying101
  a53:=Tryz.isAgg101
  z53:=Tryz.sizeOf101
  v53:=Tryz.zeroValue101
  t146:=Tryz.underlying99
  a146:=Tryz.isAgg99
  z146:=Tryz.sizeOf99
  v146:=Tryz.zeroValue99
  t148:=Tryz.underlying102
  a148:=Tryz.isAgg102
  z148:=Tryz.sizeOf102
  v148:=Tryz.zeroValue102 }
open Go.RowKit Go.Lib in
theorem Tryz.bits_Mul (x y : Nat) (hx : x < 18446744073709551616) (hy : y < 18446744073709551616) (w : World) :
    Calls Tryz.prog 44 #[.int .u64 x,.int .u64 y] w fun e w'=>e = .returned (.tuple #[.int .u64 ((x * y / 18446744073709551616 : Nat) : Int),.int .u64 ((x * y % 18446744073709551616 : Nat) : Int)]) ∧ w' = w:=Any.bits_Mul Tryz.lays212 x y hx hy w
open Go.RowKit Go.Lib in
theorem Tryz.utf8_DecodeRuneInString (s : ByteArray) (w : World) (hT : Lib.Utf8Tabs 2 3 w) :
    Calls Tryz.prog 114 #[.string s] w fun e w'=>e = .returned (.tuple #[.int .i32 (Lib.decodeGo s).1,.int .i64 (Lib.decodeGo s).2]) ∧ Below w.heap.size w w':=Any.utf8_DecodeRuneInString Tryz.lays197 s w hT
def Tryz.lays229_ren : Go.Shelf.Ren:=⟨fun | 229=>78 | n=>n,fun | 9=>9 | 40=>93 | 31=>25 | 152=>133 | 3=>3 | 0=>0 | 4=>4 | 21=>21 | 154=>135 | n=>n,fun | n=>n⟩
theorem Tryz.lays229 : Go.Proofs.Lays.n229 Tryz.prog Tryz.lays229_ren:={
  mixed:=by kernel_rfl
  f229:=Tryz.func78.trans (congrArg some (by kernel_rfl))
  t0:=Tryz.underlying0
  a0:=Tryz.isAgg0
  z0:=Tryz.sizeOf0
  v0:=Tryz.zeroValue0
  t3:=Tryz.underlying3
  a3:=Tryz.isAgg3
  z3:=Tryz.sizeOf3
  v3:=Tryz.zeroValue3
  t4:=Tryz.underlying4
  a4:=Tryz.isAgg4
  z4:=Tryz.sizeOf4
  v4:=Tryz.zeroValue4
  t9:=Tryz.underlying9
  a9:=Tryz.isAgg9
  z9:=Tryz.sizeOf9
  v9:=Tryz.zeroValue9
  t21:=Tryz.underlying21
  a21:=Tryz.isAgg21
  z21:=Tryz.sizeOf21
  v21:=Tryz.zeroValue21
  t31:=Tryz.underlying25
  a31:=Tryz.isAgg25
  z31:=Tryz.sizeOf25
  v31:=Tryz.zeroValue25
  t40:=Tryz.underlying93
  a40:=Tryz.isAgg93
  z40:=Tryz.sizeOf93
  v40:=Tryz.zeroValue93
  t152:=Tryz.underlying133
  a152:=Tryz.isAgg133
  z152:=Tryz.sizeOf133
  v152:=Tryz.zeroValue133
  t154:=Tryz.underlying135
  a154:=Tryz.isAgg135
  z154:=Tryz.sizeOf135
  v154:=Tryz.zeroValue135 }
open Go.RowKit Go.Lib in
theorem Tryz.strings_FieldsFunc (g : Nat) (lb : Array Value) (eg : ∀ args w,(callFunc g args).run Tryz.prog w = .ok (.enter g args) w) (p : Nat → Bool) (s : ByteArray) (w : World) (hs : s.size ≤ 4294967296) (hp : PredAt Tryz.prog g lb encR p w) :
    Calls Tryz.prog 78 #[.string s,.func (.func g) #[] lb] w fun e w'=>∃ A,e = .returned (.slice (some ⟨A,0,none⟩) (Lib.goFieldsP p s).length (Lib.goFieldsP p s).length) ∧ w.heap.size ≤ A ∧
      w'.ownsRow w.heap.size 9 1 (.slice (some ⟨A,0,none⟩) (Lib.goFieldsP p s).length (Lib.goFieldsP p s).length) (Lib.goFieldsP p s).length ((Lib.goFieldsP p s).map Value.string) ∧ Below w.heap.size w w':=Any.strings_FieldsFunc Tryz.lays229 g lb eg p s w hs hp (by kernel_rfl) (by kernel_rfl)
open Go.RowKit Go.Lib in
theorem Tryz.strings_ContainsFunc_grows (g : Nat) (lb : Array Value) (eg : ∀ args w,(callFunc g args).run Tryz.prog w = .ok (.enter g args) w) (p : Nat → Bool) (s : ByteArray) (w : World) (hp : PredGrows Tryz.prog g lb p w) :
    Calls Tryz.prog 69 #[.string s,.func (.func g) #[] lb] w fun e w'=>e = .returned (.bool (decide (0 ≤ Lib.idxFunc p true s))) ∧ Below w.heap.size w w':=Any.strings_ContainsFunc_grows Tryz.laysGw17 g lb eg p s w hp
end Go.Proofs
end
section
namespace Go.Proofs.YtpfbcepgmigeiaaGreatDoorS
open Go.RowKit
set_option linter.unusedVariables false
set_option linter.unusedSimpArgs false
theorem bextra : Builder.Extra Tryz.prog Tryz.lays169_ren:=Tryz.Builder_Extra_169
set_option maxRecDepth 100000 in
theorem bld_copyCheck_fresh (b : Nat) (w : World) (h0 : w.cell? ⟨b,0,none⟩ = some (.pointer none)) (hsh : w.shape? b = some (57,2)) (hfz : w.frozen? ⟨b,0,none⟩ = false) :
    Calls Tryz.prog 58 #[.pointer (some ⟨b,0,none⟩)] w fun e w'=>e = .returned (.tuple #[]) ∧ w' = w.setCell ⟨b,0,none⟩ (.pointer (some ⟨b,0,none⟩)):=by
  obtain ⟨j,hj,hjs⟩:=Option.map_eq_some_iff.1 bextra.sizeBuilder
  go_enter Tryz.func58,Tryz.ntmps58
  go_wp2
  rw [Lib.run_to_unsafe w ⟨b,0,none⟩ Tryz.underlying54 Tryz.underlying110 hj (by rw [hjs];decide) hsh (Nat.zero_lt_succ 1)]
  simp only [Result.andThen]
  rw [Oper.upon_value]
  go_wp2
  rw [run_callFunc_extern Tryz.func91 (by kernel_rfl) (by kernel_rfl) (by kernel_rfl) (e:=Extern.AbiNoEscape.same) (by kernel_rfl)]
  rw [Lib.run_noEscape]
  simp only [Result.andThen]
  rw [Oper.upon_value]
  go_wp2
  rw [Lib.run_from_unsafe w ⟨b,0,none⟩ Tryz.underlying110 Tryz.underlying54 hj hsh bextra.liesBuilder]
  simp only [Result.andThen]
  rw [Oper.upon_value]
  go_wp2
  go_end0
  exact ⟨rfl,rfl⟩
set_option maxRecDepth 100000 in
theorem bld_copyCheck_used (b : Nat) (w : World) (h0 : w.cell? ⟨b,0,none⟩ = some (.pointer (some ⟨b,0,none⟩))) :
    Calls Tryz.prog 58 #[.pointer (some ⟨b,0,none⟩)] w fun e w'=>e = .returned (.tuple #[]) ∧ w' = w:=by
  obtain ⟨j,hj,_⟩:=Option.map_eq_some_iff.1 bextra.sizeBuilder
  go_enter Tryz.func58,Tryz.ntmps58
  go_wp2
  rw [Lib.run_neq_ptr_same w _ Tryz.underlying54 hj]
  go_wp2
  go_end0
  exact ⟨rfl,rfl⟩
theorem bld_copyCheck (B b : Nat) (bs : List Value) (w : World) (h : Lib.IsBuilderF 57 5 B b bs w) :
    Calls Tryz.prog 58 #[.pointer (some ⟨b,0,none⟩)] w fun e w'=>e = .returned (.tuple #[]) ∧ (Lib.BuilderAtF 57 5 B b (.pointer (some ⟨b,0,none⟩)) bs w' ∧ Below B w w' ∧ Lib.OthersKept 5 (some b) w w'):=by
  rcases h with h | h
  · refine (bld_copyCheck_fresh b w h.cell0 h.shape h.frozen0).mono ?_
    rintro e w' ⟨rfl,rfl⟩
    exact ⟨rfl,h.used _,(Below.refl B w).setCell (p:=⟨b,0,none⟩) h.1 _,(Lib.OthersKept.refl _ _ w).setCell ⟨b,0,none⟩ rfl _⟩
  · refine (bld_copyCheck_used b w h.cell0).mono ?_
    rintro e w' ⟨rfl,rfl⟩
    exact ⟨rfl,h,Below.refl B _,Lib.OthersKept.refl _ _ _⟩
set_option maxHeartbeats 2000000 in
set_option maxRecDepth 100000 in
theorem bld_WriteString (B b : Nat) (bs : List Value) (s : ByteArray) (w : World) (h : Lib.IsBuilderF 57 5 B b bs w) (hlen : bs.length + s.size ≤ 140737488355328) (hBw : B ≤ w.heap.size) :
    Calls Tryz.prog 23 #[.pointer (some ⟨b,0,none⟩),.string s] w fun e w'=>e = .returned (.tuple #[.int .i64 s.size,.nilIface]) ∧ (Lib.BuilderAtF 57 5 B b (.pointer (some ⟨b,0,none⟩)) (bs ++ Lib.strCells s) w' ∧ Below B w w' ∧ Lib.OthersKept 5 (some b) w w'):=by
  obtain ⟨i0,hi,hz0,hz1,hz2⟩:=info_parts bextra.infoByte
  go_enter Tryz.func23,Tryz.ntmps23
  go_wp2_with (go_at_call 58;refine (bld_copyCheck B b bs _ h).mono ?_)
  rintro e w1 ⟨rfl,h1,hb1,hk1⟩
  obtain ⟨hB,v,hbk,hown,hne⟩:=h1
  have c0 : w1.cell? ⟨b,0,none⟩ = some (.pointer (some ⟨b,0,none⟩)):=by rw [Lib.cell_of_heap hbk];rfl
  have c1 : w1.cell? ⟨b,1,none⟩ = some v:=by rw [Lib.cell_of_heap hbk];rfl
  go_wp2_with (at_builtin;refine Lib.wpList_append_own_stringF _ rfl _ _ 55 9 rfl B 5 i0 Tryz.underlying55 Tryz.underlying9 hi hz0 hz1 hz2 _ _ _ rfl hown s rfl ?c3 ?c4 ?c5 ?_)
  case c3=>unfold maxLen;omega
  case c4=>omega
  case c5=>have:=hb1.size;omega
  intro v' w2 hown' hgrow _
  have hlt : b < w1.heap.size:=by
    rcases Nat.lt_or_ge b w1.heap.size with h' | h'
    · exact h'
    · simp [Array.getElem?_eq_none h'] at hbk
  have hb2 : w2.heap[b]? = some (.cells #[.pointer (some ⟨b,0,none⟩),v] 57 (0,0)):=by
    rw [hgrow.block b hlt (fun e=>hne e.symm)]
    exact hbk
  have d0 : w2.cell? ⟨b,0,none⟩ = some (.pointer (some ⟨b,0,none⟩)):=by rw [Lib.cell_of_heap hb2];rfl
  have d1 : w2.cell? ⟨b,1,none⟩ = some v:=by rw [Lib.cell_of_heap hb2];rfl
  have f1 : w2.frozen? ⟨b,1,none⟩ = false:=Lib.frozen_of_heap hb2 1
  obtain ⟨ao,n',cap,rfl⟩ : ∃ ao n' cap,v' = .slice ao n' cap:=by
    rcases hown'.2 with ⟨hv,_⟩ | ⟨g,cap,cur,fz,hv,_⟩
    · exact ⟨_,_,_,hv⟩
    · exact ⟨_,_,_,hv⟩
  go_wp2
  go_ret2
  refine ⟨rfl,?_,?_,(hk1.grown hgrow (Lib.ownsRowF_kind hown)).setCell ⟨b,1,none⟩ rfl _⟩
  · exact Lib.BuilderAtF.put (T:=57) (e:=5) hB hb2 (bs':=bs ++ Lib.strCells s) (by simpa [Lib.strCells_length] using hown') (by decide)
  · exact (hb1.grown hgrow (by have:=hb1.size;omega) (fun k hk=>(hown.lt k hk).1)).setCell (p:=⟨b,1,none⟩) hB _
end Go.Proofs.YtpfbcepgmigeiaaGreatDoorS
end
section
namespace Go.Proofs.YtpfbcepgmigeiaaGreatDoorS
open Go
theorem guard_some {α : Type} {c : Prop} [Decidable c] {x r : α} (h : (if c then some x else none) = some r) : c ∧ x = r:=by
  by_cases hc : c
  · rw [if_pos hc] at h;exact ⟨hc,Option.some.inj h⟩
  · rw [if_neg hc] at h;cases h
theorem width_pos (s : ByteArray) (pos : Nat) (h : pos < s.size) : 1 ≤ (Utf8.decode s pos).2:=by
  by_cases ha : (s[pos]'h).toNat < 128
  · rw [decode_ascii s pos h ha]
    exact Nat.le_refl _
  · exact (decode_high s pos h (by omega)).2
def ulist (s : ByteArray) : Nat → Nat → List (Nat × Nat × Nat)
  | 0,_=>[]
  | f + 1,p=>if p < s.size then (p,(Utf8.decode s p).1,(Utf8.decode s p).2) :: ulist s f (p + (Utf8.decode s p).2) else []
def uall (s : ByteArray) : List (Nat × Nat × Nat):=ulist s s.size 0
def urunes (s : ByteArray) : List Int:=(uall s).map fun t=>(t.2.1 : Int)
def ucount (s : ByteArray) : Nat:=(uall s).length
def uvalid (s : ByteArray) : Bool:=(uall s).all fun t=>!(t.2.1 == 65533 && t.2.2 == 1)
def unext (s : ByteArray) (at_ : Int) : Int × Int:=if 0 ≤ at_ ∧ at_ < s.size then (((Utf8.decode s at_.toNat).1 : Int),((Utf8.decode s at_.toNat).2 : Int)) else (0,0)
theorem ulist_end (s : ByteArray) (f p : Nat) (h : ¬ p < s.size) : ulist s f p = []:=by
  cases f with
  | zero=>rfl
  | succ f=>simp [ulist,h]
theorem ulist_step (s : ByteArray) (f p : Nat) (h : p < s.size) : ulist s (f + 1) p = (p,(Utf8.decode s p).1,(Utf8.decode s p).2) :: ulist s f (p + (Utf8.decode s p).2):=by simp [ulist,h]
theorem ulist_length (s : ByteArray) : ∀ f p,(ulist s f p).length ≤ f:=by
  intro f
  induction f with
  | zero=>intro p;simp [ulist]
  | succ f ih =>
    intro p
    have:=ih (p + (Utf8.decode s p).2)
    unfold ulist
    split
    · simp only [List.length_cons];omega
    · simp
theorem ucount_le (s : ByteArray) : ucount s ≤ s.size:=ulist_length s _ _
theorem encode_size (r : Int) : (Utf8.encode r).size ≤ 4:=by
  unfold Utf8.encode
  simp only [ByteArray.size]
  generalize (if Utf8.valid r = true then r.toNat else Utf8.runeError) = c
  by_cases h1 : c < 128
  · rw [if_pos h1];exact Nat.le_of_ble_eq_true rfl
  · rw [if_neg h1]
    by_cases h2 : c < 2048
    · rw [if_pos h2];exact Nat.le_of_ble_eq_true rfl
    · rw [if_neg h2]
      by_cases h3 : c < 65536
      · rw [if_pos h3];exact Nat.le_of_ble_eq_true rfl
      · rw [if_neg h3];exact Nat.le_of_ble_eq_true rfl
end Go.Proofs.YtpfbcepgmigeiaaGreatDoorS
end
section
namespace Go.Proofs.YtpfbcepgmigeiaaGreatDoorS
open Go.RowKit Go.Shelf
set_option linter.unusedVariables false
set_option linter.unusedSimpArgs false
attribute [local go_sem] Oper.semAt_some
theorem abides_alloc {β : Type} {D : Nat} {J : β → World → Prop} (h : AbidesFrom D J) {s : β} {W : World} (o : Obj) (hs : J s W) : J s (W.alloc o) :=
  h s W (W.alloc o) none hs ⟨rfl,rfl,rfl,by simp,fun i hi _=>Below.heap_alloc W o i hi⟩ (fun r e=>by cases e)
theorem grownBy_iterAt (W : World) (k : Nat) (s : ByteArray) (pos : Nat) : W.grownBy (W.iterAt k s pos) (some k) :=
  ⟨rfl,rfl,rfl,by rw [Lib.iterAt_size];exact Nat.le_refl _,fun i hi hne=>Lib.iterAt_other W k i s pos (fun e=>hne (by rw [e]))⟩
theorem abides_iter {β : Type} {D : Nat} {J : β → World → Prop} (h : AbidesFrom D J) {s : β} {W : World} {k : Nat} {t : ByteArray} {p : Nat} (hk : D ≤ k) (hit : W.heap[k]? = some (.stringIter t p)) (q : Nat) (hs : J s W) : J s (W.iterAt k t q) :=
  h s W _ (some k) hs (grownBy_iterAt W k t q) (fun r e=>by cases e;exact ⟨hk,_,hit,rfl⟩)
theorem cell_below1 {w w1 : World} (h : Below w.heap.size w w1) {a : Addr} {v : Value} (hc : w.cell? a = some v) : w1.cell? a = some v:=(h.cell (World.block_lt_of_cell? w a hc)).trans hc
theorem cell_old1 {W : World} {a : Addr} {v : Value} (h : W.cell? a = some v) (o : Obj) : (W.alloc o).cell? a = some v:=(World.cell?_alloc_lt (w:=W) (a:=a) (o:=o) (World.block_lt_of_cell? W a h)).trans h
theorem bldAt_turn {T e : TypeId} {B b : Nat} {p : Value} {bs : List Value} {W W' : World} {row : Option Nat} (h : Lib.BuilderAtF T e B b p bs W) (hg : W.grownBy W' row)
    (hr : ∀ r,row = some r → ∃ o : Obj,W.heap[r]? = some o ∧ o.isCells = false) : Lib.BuilderAtF T e B b p bs W':=by
  obtain ⟨hB,v,hb,hown,hne⟩:=h
  refine ⟨hB,v,(hg.block b (Array.getElem?_eq_some_iff.1 hb).1 ?_).trans hb,hown.kept hg ?_,hne⟩
  · intro e1
    obtain ⟨o,ho,hc⟩:=hr b e1.symm
    rw [hb] at ho
    cases ho
    cases hc
  · cases hv : v.ownBlock with
    | none=>exact .inl rfl
    | some g =>
      refine .inr (fun e1=>?_)
      obtain ⟨o,ho,hc⟩:=hr g e1.symm
      obtain ⟨c,fz,hg2⟩:=Lib.ownsRowF_kind hown g hv
      rw [hg2] at ho
      cases ho
      cases hc
theorem bld_turn {T e : TypeId} {B b : Nat} {bs : List Value} {W W' : World} {row : Option Nat} (h : Lib.IsBuilderF T e B b bs W) (hg : W.grownBy W' row)
    (hr : ∀ r,row = some r → ∃ o : Obj,W.heap[r]? = some o ∧ o.isCells = false) : Lib.IsBuilderF T e B b bs W' :=
  h.elim (fun x=>.inl (bldAt_turn x hg hr)) (fun x=>.inr (bldAt_turn x hg hr))
theorem bld_size {B b : Nat} {T e : TypeId} {bs : List Value} {W : World} (h : Lib.IsBuilderF T e B b bs W) : B ≤ W.heap.size:=by
  rcases h with h | h
  · have:=h.lt;have:=h.1;omega
  · have:=h.lt;have:=h.1;omega
end Go.Proofs.YtpfbcepgmigeiaaGreatDoorS
end
