/- Part 16. -/
import Derived.Shelf.Strings.OnBuilder
import Derived.Shelf.LaysC
import Derived.Shelf.Strings.Prefix
import Derived.Shelf.Strings.SlTrimAscii
import Derived.Shelf.Strconv.ParseIntPublic10
import Derived.Shelf.Strconv.Itoa3
import Derived.Shelf.LaysM
import Derived.Shelf.Strconv.Itoa4
import Derived.Test.YtkeljoongnpppaaGreatDoorProg
import Derived.Test.YtkeljoongnpppaaGreatDoorPart09
import Derived.Lib.Walk
import Derived.Lib.Hide
import Derived.Lib.AtoiErrMem
import Derived.WalkKit
import Derived.KernelRfl
set_option linter.unusedVariables false
set_option linter.unusedSimpArgs false
section
namespace Go.Proofs
open Go.Shelf
def Tryz.lays156_ren:Go.Shelf.Ren:=⟨fun | 156=>35 | 165=>58 | 166=>59 | 169=>60 | 240=>80 | 241=>81 | 276=>107 | 277=>108 | n=>n,fun | 31=>105 | 9=>9 | 3=>3 | 4=>4 | 0=>0 | 20=>20 | 72=>144 | 76=>148 | 70=>142 | 37=>111 | 75=>147 | 127=>168 | 164=>193 | 5=>5 | 80=>150 | n=>n,fun | n=>n⟩
theorem Tryz.lays156:Go.Proofs.Lays.n156 Tryz.prog Tryz.lays156_ren:={
  mixed:=by kernel_rfl
  f156:=Tryz.func35.trans (congrArg some (by kernel_rfl))
  f165:=Tryz.func58.trans (congrArg some (by kernel_rfl))
  f166:=Tryz.func59.trans (congrArg some (by kernel_rfl))
  f169:=Tryz.func60.trans (congrArg some (by kernel_rfl))
  f240:=Tryz.func80.trans (congrArg some (by kernel_rfl))
  f241:=Tryz.func81.trans (congrArg some (by kernel_rfl))
  f276:=Tryz.func107.trans (congrArg some (by kernel_rfl))
  f277:=Tryz.func108.trans (congrArg some (by kernel_rfl))
  t0:=Tryz.underlying0
  a0:=Tryz.isAgg0
  z0:=Tryz.sizeOf0
  v0:=Tryz.zeroValue0
  t3:=Tryz.underlying3
  a3:=Tryz.isAgg3
  z3:=Tryz.sizeOf3
  v3:=Tryz.zeroValue3
  t4:=Tryz.underlying4
  a4:=Tryz.isAgg4
  z4:=Tryz.sizeOf4
  v4:=Tryz.zeroValue4
  t9:=Tryz.underlying9
  a9:=Tryz.isAgg9
  z9:=Tryz.sizeOf9
  v9:=Tryz.zeroValue9
  t20:=Tryz.underlying20
  a20:=Tryz.isAgg20
  z20:=Tryz.sizeOf20
  v20:=Tryz.zeroValue20
  t31:=Tryz.underlying105
  a31:=Tryz.isAgg105
  z31:=Tryz.sizeOf105
  v31:=Tryz.zeroValue105
  t37:=Tryz.underlying111
  a37:=Tryz.isAgg111
  z37:=Tryz.sizeOf111
  v37:=Tryz.zeroValue111
  t70:=Tryz.underlying142
  a70:=Tryz.isAgg142
  z70:=Tryz.sizeOf142
  v70:=Tryz.zeroValue142
  t72:=Tryz.underlying144
  a72:=Tryz.isAgg144
  z72:=Tryz.sizeOf144
  v72:=Tryz.zeroValue144
  t75:=Tryz.underlying147
  a75:=Tryz.isAgg147
  z75:=Tryz.sizeOf147
  v75:=Tryz.zeroValue147
  t76:=Tryz.underlying148
  a76:=Tryz.isAgg148
  z76:=Tryz.sizeOf148
  v76:=Tryz.zeroValue148
  t127:=Tryz.underlying168
  a127:=Tryz.isAgg168
  z127:=Tryz.sizeOf168
  v127:=Tryz.zeroValue168
  t164:=Tryz.underlying193
  a164:=Tryz.isAgg193
  z164:=Tryz.sizeOf193
  v164:=Tryz.zeroValue193 }
theorem Tryz.Builder_Extra_156:Builder.Extra Tryz.prog Tryz.lays156_ren:={
  sizeBuilder:=by kernel_rfl
  liesBuilder:=by kernel_rfl
  t5:=Tryz.underlying5
  a5:=Tryz.isAgg5
  z5:=Tryz.sizeOf5
  v5:=Tryz.zeroValue5
  infoByte:=by kernel_rfl
  cellsByte:=by kernel_rfl
  sizeByte:=by kernel_rfl
  neB5:=by decide }
open Go.RowKit in
theorem Tryz.strings_Join_none (a : Option Addr) (c : Nat) (sep : ByteArray) (w : World) :
    Calls Tryz.prog 35 #[.slice a 0 c,.string sep] w fun e w'=>e=.returned (.string ⟨#[]⟩)∧w'=w:=Any.strings_Join_none Tryz.lays156 Tryz.Builder_Extra_156 a c sep w
open Go.RowKit in
theorem Tryz.strings_Join (bk o c : Nat) (xs : List ByteArray) (sep : ByteArray) (w : World) (hcells : ∀ (j : Nat) x, xs[j]? = some x → w.cell? ⟨bk, o + j, none⟩ = some (.string x)) (hbk : bk < w.heap.size) (hN : xs.length ≤ 140737488355328) (hcap : xs.length ≤ c) (hlen : (Lib.join (xs.map (·.data.toList)) sep.data.toList).length ≤ 140737488355328) :
    Calls Tryz.prog 35 #[.slice (some ⟨bk,o,none⟩) xs.length c,.string sep] w fun e w'=>e=.returned (.string ⟨(Lib.join (xs.map (·.data.toList)) sep.data.toList).toArray⟩)∧Below w.heap.size w w':=Any.strings_Join Tryz.lays156 Tryz.Builder_Extra_156 bk o c xs sep w hcells hbk hN hcap hlen
def Tryz.lays160_ren:Go.Shelf.Ren:=⟨fun | 160=>114 | 232=>139 | 231=>138 | 227=>140 | 234=>142 | 233=>141 | 236=>144 | 235=>143 | 228=>166 | 271=>168 | 151=>167 | 197=>110 | 120=>180 | 152=>179 | 260=>132 | 137=>117 | 119=>199 | 224=>135 | 225=>134 | 217=>133 | 266=>163 | n=>n,fun | 9=>9 | 4=>4 | 3=>3 | 5=>5 | 117=>216 | 116=>215 | 0=>0 | 124=>219 | 21=>21 | 105=>197 | 46=>212 | 119=>240 | 139=>243 | 138=>242 | n=>n,fun | 3=>2 | 4=>3 | n=>n⟩
theorem Tryz.lays160:Go.Proofs.Lays.n160 Tryz.prog Tryz.lays160_ren:={
  mixed:=by kernel_rfl
  f119:=Tryz.func199.trans (congrArg some (by kernel_rfl))
  f120:=Tryz.func180.trans (congrArg some (by kernel_rfl))
  f137:=Tryz.func117.trans (congrArg some (by kernel_rfl))
  f151:=Tryz.func167.trans (congrArg some (by kernel_rfl))
  f152:=Tryz.func179.trans (congrArg some (by kernel_rfl))
  f160:=Tryz.func114.trans (congrArg some (by kernel_rfl))
  f197:=Tryz.func110.trans (congrArg some (by kernel_rfl))
  f217:=Tryz.func133.trans (congrArg some (by kernel_rfl))
  f224:=Tryz.func135.trans (congrArg some (by kernel_rfl))
  f225:=Tryz.func134.trans (congrArg some (by kernel_rfl))
  f227:=Tryz.func140.trans (congrArg some (by kernel_rfl))
  f228:=Tryz.func166.trans (congrArg some (by kernel_rfl))
  f231:=Tryz.func138.trans (congrArg some (by kernel_rfl))
  f232:=Tryz.func139.trans (congrArg some (by kernel_rfl))
  f233:=Tryz.func141.trans (congrArg some (by kernel_rfl))
  f234:=Tryz.func142.trans (congrArg some (by kernel_rfl))
  f235:=Tryz.func143.trans (congrArg some (by kernel_rfl))
  f236:=Tryz.func144.trans (congrArg some (by kernel_rfl))
  f260:=Tryz.func132.trans (congrArg some (by kernel_rfl))
  f266:=Tryz.func163.trans (congrArg some (by kernel_rfl))
  f271:=Tryz.func168.trans (congrArg some (by kernel_rfl))
  t0:=Tryz.underlying0
  a0:=Tryz.isAgg0
  z0:=Tryz.sizeOf0
  v0:=Tryz.zeroValue0
  t3:=Tryz.underlying3
  a3:=Tryz.isAgg3
  z3:=Tryz.sizeOf3
  v3:=Tryz.zeroValue3
  t4:=Tryz.underlying4
  a4:=Tryz.isAgg4
  z4:=Tryz.sizeOf4
  v4:=Tryz.zeroValue4
  t5:=Tryz.underlying5
  a5:=Tryz.isAgg5
  z5:=Tryz.sizeOf5
  v5:=Tryz.zeroValue5
  t9:=Tryz.underlying9
  a9:=Tryz.isAgg9
  z9:=Tryz.sizeOf9
  v9:=Tryz.zeroValue9
  t21:=Tryz.underlying21
  a21:=Tryz.isAgg21
  z21:=Tryz.sizeOf21
  v21:=Tryz.zeroValue21
  t46:=Tryz.underlying212
  a46:=Tryz.isAgg212
  z46:=Tryz.sizeOf212
  v46:=Tryz.zeroValue212
  t105:=Tryz.underlying197
  a105:=Tryz.isAgg197
  z105:=Tryz.sizeOf197
  v105:=Tryz.zeroValue197
  t116:=Tryz.underlying215
  a116:=Tryz.isAgg215
  z116:=Tryz.sizeOf215
  t117:=Tryz.underlying216
  a117:=Tryz.isAgg216
  z117:=Tryz.sizeOf216
  v117:=Tryz.zeroValue216
  t119:=Tryz.underlying240
  a119:=Tryz.isAgg240
  z119:=Tryz.sizeOf240
  t124:=Tryz.underlying219
  a124:=Tryz.isAgg219
  z124:=Tryz.sizeOf219
  v124:=Tryz.zeroValue219
  t138:=Tryz.underlying242
  a138:=Tryz.isAgg242
  z138:=Tryz.sizeOf242
  v138:=Tryz.zeroValue242
  t139:=Tryz.underlying243
  a139:=Tryz.isAgg243
  z139:=Tryz.sizeOf243
  v139:=Tryz.zeroValue243
  g3:=by kernel_rfl
  g4:=by kernel_rfl }
def Tryz.laysM246_ren:Go.Shelf.Ren:=⟨fun | 246=>106 | 283=>128 | 284=>129 | 285=>130 | 286=>131 | 129=>159 | 317=>158 | 318=>160 | 319=>161 | 320=>162 | 337=>177 | 338=>178 | n=>n,fun | 2=>2 | 3=>3 | 9=>9 | 4=>4 | 171=>206 | 0=>0 | 53=>207 | 37=>111 | 5=>5 | 173=>210 | 212=>236 | 51=>237 | 20=>20 | 213=>238 | 46=>212 | 232=>269 | 233=>270 | n=>n,fun | 17=>1 | 18=>6 | 19=>7 | n=>n⟩
theorem Tryz.laysM246:Go.Proofs.LaysM.n246 Tryz.prog Tryz.laysM246_ren:={
  mixed:=by kernel_rfl
  f129:=Tryz.func159.trans (congrArg some (by kernel_rfl))
  f246:=Tryz.func106.trans (congrArg some (by kernel_rfl))
  f283:=Tryz.func128.trans (congrArg some (by kernel_rfl))
  f284:=Tryz.func129.trans (congrArg some (by kernel_rfl))
  f285:=Tryz.func130.trans (congrArg some (by kernel_rfl))
  f286:=Tryz.func131.trans (congrArg some (by kernel_rfl))
  f317:=Tryz.func158.trans (congrArg some (by kernel_rfl))
  f318:=Tryz.func160.trans (congrArg some (by kernel_rfl))
  f319:=Tryz.func161.trans (congrArg some (by kernel_rfl))
  f320:=Tryz.func162.trans (congrArg some (by kernel_rfl))
  f337:=Tryz.func177.trans (congrArg some (by kernel_rfl))
  f338:=Tryz.func178.trans (congrArg some (by kernel_rfl))
  t0:=Tryz.underlying0
  a0:=Tryz.isAgg0
  z0:=Tryz.sizeOf0
  v0:=Tryz.zeroValue0
  t2:=Tryz.underlying2
  a2:=Tryz.isAgg2
  z2:=Tryz.sizeOf2
  v2:=Tryz.zeroValue2
  t3:=Tryz.underlying3
  a3:=Tryz.isAgg3
  z3:=Tryz.sizeOf3
  v3:=Tryz.zeroValue3
  t4:=Tryz.underlying4
  a4:=Tryz.isAgg4
  z4:=Tryz.sizeOf4
  v4:=Tryz.zeroValue4
  t5:=Tryz.underlying5
  a5:=Tryz.isAgg5
  z5:=Tryz.sizeOf5
  v5:=Tryz.zeroValue5
  t9:=Tryz.underlying9
  a9:=Tryz.isAgg9
  z9:=Tryz.sizeOf9
  v9:=Tryz.zeroValue9
  t20:=Tryz.underlying20
  a20:=Tryz.isAgg20
  z20:=Tryz.sizeOf20
  v20:=Tryz.zeroValue20
  t37:=Tryz.underlying111
  a37:=Tryz.isAgg111
  z37:=Tryz.sizeOf111
  v37:=Tryz.zeroValue111
  t46:=Tryz.underlying212
  a46:=Tryz.isAgg212
  z46:=Tryz.sizeOf212
  v46:=Tryz.zeroValue212
  t51:=Tryz.underlying237
  a51:=Tryz.isAgg237
  z51:=Tryz.sizeOf237
  v51:=Tryz.zeroValue237
  t53:=Tryz.underlying207
  a53:=Tryz.isAgg207
  z53:=Tryz.sizeOf207
  v53:=Tryz.zeroValue207
  t171:=Tryz.underlying206
  a171:=Tryz.isAgg206
  z171:=Tryz.sizeOf206
  v171:=Tryz.zeroValue206
  t173:=Tryz.underlying210
  a173:=Tryz.isAgg210
  z173:=Tryz.sizeOf210
  v173:=Tryz.zeroValue210
  t212:=Tryz.underlying236
  a212:=Tryz.isAgg236
  z212:=Tryz.sizeOf236
  v212:=Tryz.zeroValue236
  t213:=Tryz.underlying238
  a213:=Tryz.isAgg238
  z213:=Tryz.sizeOf238
  t232:=Tryz.underlying269
  a232:=Tryz.isAgg269
  z232:=Tryz.sizeOf269
  v232:=Tryz.zeroValue269
  t233:=Tryz.underlying270
  a233:=Tryz.isAgg270
  z233:=Tryz.sizeOf270
  v233:=Tryz.zeroValue270
  g17:=by kernel_rfl
  g18:=by kernel_rfl
  g19:=by kernel_rfl
  i0:=by kernel_rfl
  i2:=by kernel_rfl
  i3:=by kernel_rfl
  i4:=by kernel_rfl
  i5:=by kernel_rfl
  i9:=by kernel_rfl
  i20:=by kernel_rfl
  i37:=by kernel_rfl
  i46:=by kernel_rfl
  i51:=by kernel_rfl
  i53:=by kernel_rfl
  i171:=by kernel_rfl
  i173:=by kernel_rfl
  i212:=by kernel_rfl
  i232:=by kernel_rfl
  i233:=by kernel_rfl
  m17:=by kernel_rfl
  m18:=by kernel_rfl
  m19:=by kernel_rfl }
open Go.RowKit Go.Sort Go.Lib in
theorem Tryz.internal_strconv_FormatInt_10 (n : Int) (h0 : -9223372036854775808 ≤ n) (h1 : n ≤ 9223372036854775807) (w : World) (htab : Lib.TabIs Tryz.prog w "internal/strconv.uint64pow10" .u64 Lib.pow10Tab) :
    Calls Tryz.prog 106 #[.int .i64 n,.int .i64 10] w fun e w'=>e=.returned (.string ⟨(Lib.itoa n).toArray⟩)∧∃ k os,w'=grow (w.drewN k) os:=Any.internal_strconv_FormatInt_10 Tryz.laysM246 n h0 h1 w htab
def Tryz.laysM243_ren:Go.Shelf.Ren:=⟨fun | 243=>78 | 246=>106 | 283=>128 | 284=>129 | 285=>130 | 286=>131 | 129=>159 | 317=>158 | 318=>160 | 319=>161 | 320=>162 | 337=>177 | 338=>178 | n=>n,fun | 3=>3 | 9=>9 | 2=>2 | 4=>4 | 171=>206 | 0=>0 | 53=>207 | 37=>111 | 5=>5 | 173=>210 | 212=>236 | 51=>237 | 20=>20 | 213=>238 | 46=>212 | 232=>269 | 233=>270 | n=>n,fun | 17=>1 | 18=>6 | 19=>7 | n=>n⟩
theorem Tryz.laysM243:Go.Proofs.LaysM.n243 Tryz.prog Tryz.laysM243_ren:={
  mixed:=by kernel_rfl
  f129:=Tryz.func159.trans (congrArg some (by kernel_rfl))
  f243:=Tryz.func78.trans (congrArg some (by kernel_rfl))
  f246:=Tryz.func106.trans (congrArg some (by kernel_rfl))
  f283:=Tryz.func128.trans (congrArg some (by kernel_rfl))
  f284:=Tryz.func129.trans (congrArg some (by kernel_rfl))
  f285:=Tryz.func130.trans (congrArg some (by kernel_rfl))
  f286:=Tryz.func131.trans (congrArg some (by kernel_rfl))
  f317:=Tryz.func158.trans (congrArg some (by kernel_rfl))
  f318:=Tryz.func160.trans (congrArg some (by kernel_rfl))
  f319:=Tryz.func161.trans (congrArg some (by kernel_rfl))
  f320:=Tryz.func162.trans (congrArg some (by kernel_rfl))
  f337:=Tryz.func177.trans (congrArg some (by kernel_rfl))
  f338:=Tryz.func178.trans (congrArg some (by kernel_rfl))
  t0:=Tryz.underlying0
  a0:=Tryz.isAgg0
  z0:=Tryz.sizeOf0
  v0:=Tryz.zeroValue0
  t2:=Tryz.underlying2
  a2:=Tryz.isAgg2
  z2:=Tryz.sizeOf2
  v2:=Tryz.zeroValue2
  t3:=Tryz.underlying3
  a3:=Tryz.isAgg3
  z3:=Tryz.sizeOf3
  v3:=Tryz.zeroValue3
  t4:=Tryz.underlying4
  a4:=Tryz.isAgg4
  z4:=Tryz.sizeOf4
  v4:=Tryz.zeroValue4
  t5:=Tryz.underlying5
  a5:=Tryz.isAgg5
  z5:=Tryz.sizeOf5
  v5:=Tryz.zeroValue5
  t9:=Tryz.underlying9
  a9:=Tryz.isAgg9
  z9:=Tryz.sizeOf9
  v9:=Tryz.zeroValue9
  t20:=Tryz.underlying20
  a20:=Tryz.isAgg20
  z20:=Tryz.sizeOf20
  v20:=Tryz.zeroValue20
  t37:=Tryz.underlying111
  a37:=Tryz.isAgg111
  z37:=Tryz.sizeOf111
  v37:=Tryz.zeroValue111
  t46:=Tryz.underlying212
  a46:=Tryz.isAgg212
  z46:=Tryz.sizeOf212
  v46:=Tryz.zeroValue212
  t51:=Tryz.underlying237
  a51:=Tryz.isAgg237
  z51:=Tryz.sizeOf237
  v51:=Tryz.zeroValue237
  t53:=Tryz.underlying207
  a53:=Tryz.isAgg207
  z53:=Tryz.sizeOf207
  v53:=Tryz.zeroValue207
  t171:=Tryz.underlying206
  a171:=Tryz.isAgg206
  z171:=Tryz.sizeOf206
  v171:=Tryz.zeroValue206
  t173:=Tryz.underlying210
  a173:=Tryz.isAgg210
  z173:=Tryz.sizeOf210
  v173:=Tryz.zeroValue210
  t212:=Tryz.underlying236
  a212:=Tryz.isAgg236
  z212:=Tryz.sizeOf236
  v212:=Tryz.zeroValue236
  t213:=Tryz.underlying238
  a213:=Tryz.isAgg238
  z213:=Tryz.sizeOf238
  t232:=Tryz.underlying269
  a232:=Tryz.isAgg269
  z232:=Tryz.sizeOf269
  v232:=Tryz.zeroValue269
  t233:=Tryz.underlying270
  a233:=Tryz.isAgg270
  z233:=Tryz.sizeOf270
  v233:=Tryz.zeroValue270
  g17:=by kernel_rfl
  g18:=by kernel_rfl
  g19:=by kernel_rfl
  i0:=by kernel_rfl
  i2:=by kernel_rfl
  i3:=by kernel_rfl
  i4:=by kernel_rfl
  i5:=by kernel_rfl
  i9:=by kernel_rfl
  i20:=by kernel_rfl
  i37:=by kernel_rfl
  i46:=by kernel_rfl
  i51:=by kernel_rfl
  i53:=by kernel_rfl
  i171:=by kernel_rfl
  i173:=by kernel_rfl
  i212:=by kernel_rfl
  i232:=by kernel_rfl
  i233:=by kernel_rfl
  m17:=by kernel_rfl
  m18:=by kernel_rfl
  m19:=by kernel_rfl }
open Go.RowKit Go.Sort Go.Lib in
theorem Tryz.internal_strconv_Itoa (n : Int) (h0 : -9223372036854775808 ≤ n) (h1 : n ≤ 9223372036854775807) (w : World) (htab : Lib.TabIs Tryz.prog w "internal/strconv.uint64pow10" .u64 Lib.pow10Tab) :
    Calls Tryz.prog 78 #[.int .i64 n] w fun e w'=>e=.returned (.string ⟨(Lib.itoa n).toArray⟩)∧∃ k os,w'=grow (w.drewN k) os:=Any.internal_strconv_Itoa Tryz.laysM243 n h0 h1 w htab
def Tryz.laysC174_ren:Go.Shelf.Ren:=⟨fun | 174=>87 | 247=>115 | 245=>116 | 287=>145 | 279=>146 | 280=>147 | 281=>148 | 282=>149 | 321=>169 | 322=>170 | 316=>171 | 171=>56 | 205=>172 | 243=>78 | 246=>106 | 283=>128 | 284=>129 | 285=>130 | 286=>131 | 129=>159 | 317=>158 | 318=>160 | 319=>161 | 320=>162 | 337=>177 | 338=>178 | n=>n,fun | 9=>9 | 3=>3 | 2=>2 | 75=>147 | 85=>171 | 4=>4 | 167=>220 | 5=>5 | 53=>207 | 175=>221 | 46=>212 | 168=>223 | 37=>111 | 0=>0 | 210=>251 | 21=>21 | 127=>168 | 145=>258 | 143=>256 | 171=>206 | 173=>210 | 212=>236 | 51=>237 | 20=>20 | 213=>238 | 232=>269 | 233=>270 | 80=>150 | n=>n,fun | 15=>4 | 16=>5 | 17=>1 | 18=>6 | 19=>7 | n=>n⟩
theorem Tryz.laysC174:Go.Proofs.LaysC.n174 Tryz.prog Tryz.laysC174_ren:={
  mixed:=by kernel_rfl
  f129:=Tryz.func159.trans (congrArg some (by kernel_rfl))
  f171:=Tryz.func56.trans (congrArg some (by kernel_rfl))
  f174:=Tryz.func87.trans (congrArg some (by kernel_rfl))
  f205:=Tryz.func172.trans (congrArg some (by kernel_rfl))
  f243:=Tryz.func78.trans (congrArg some (by kernel_rfl))
  f245:=Tryz.func116.trans (congrArg some (by kernel_rfl))
  f246:=Tryz.func106.trans (congrArg some (by kernel_rfl))
  f247:=Tryz.func115.trans (congrArg some (by kernel_rfl))
  f279:=Tryz.func146.trans (congrArg some (by kernel_rfl))
  f280:=Tryz.func147.trans (congrArg some (by kernel_rfl))
  f281:=Tryz.func148.trans (congrArg some (by kernel_rfl))
  f282:=Tryz.func149.trans (congrArg some (by kernel_rfl))
  f283:=Tryz.func128.trans (congrArg some (by kernel_rfl))
  f284:=Tryz.func129.trans (congrArg some (by kernel_rfl))
  f285:=Tryz.func130.trans (congrArg some (by kernel_rfl))
  f286:=Tryz.func131.trans (congrArg some (by kernel_rfl))
  f287:=Tryz.func145.trans (congrArg some (by kernel_rfl))
  f316:=Tryz.func171.trans (congrArg some (by kernel_rfl))
  f317:=Tryz.func158.trans (congrArg some (by kernel_rfl))
  f318:=Tryz.func160.trans (congrArg some (by kernel_rfl))
  f319:=Tryz.func161.trans (congrArg some (by kernel_rfl))
  f320:=Tryz.func162.trans (congrArg some (by kernel_rfl))
  f321:=Tryz.func169.trans (congrArg some (by kernel_rfl))
  f322:=Tryz.func170.trans (congrArg some (by kernel_rfl))
  f337:=Tryz.func177.trans (congrArg some (by kernel_rfl))
  f338:=Tryz.func178.trans (congrArg some (by kernel_rfl))
  t0:=Tryz.underlying0
  a0:=Tryz.isAgg0
  z0:=Tryz.sizeOf0
  v0:=Tryz.zeroValue0
  t2:=Tryz.underlying2
  a2:=Tryz.isAgg2
  z2:=Tryz.sizeOf2
  v2:=Tryz.zeroValue2
  t3:=Tryz.underlying3
  a3:=Tryz.isAgg3
  z3:=Tryz.sizeOf3
  v3:=Tryz.zeroValue3
  t4:=Tryz.underlying4
  a4:=Tryz.isAgg4
  z4:=Tryz.sizeOf4
  v4:=Tryz.zeroValue4
  t5:=Tryz.underlying5
  a5:=Tryz.isAgg5
  z5:=Tryz.sizeOf5
  v5:=Tryz.zeroValue5
  t9:=Tryz.underlying9
  a9:=Tryz.isAgg9
  z9:=Tryz.sizeOf9
  v9:=Tryz.zeroValue9
  t20:=Tryz.underlying20
  a20:=Tryz.isAgg20
  z20:=Tryz.sizeOf20
  v20:=Tryz.zeroValue20
  t21:=Tryz.underlying21
  a21:=Tryz.isAgg21
  z21:=Tryz.sizeOf21
  v21:=Tryz.zeroValue21
  t37:=Tryz.underlying111
  a37:=Tryz.isAgg111
  z37:=Tryz.sizeOf111
  v37:=Tryz.zeroValue111
  t46:=Tryz.underlying212
  a46:=Tryz.isAgg212
  z46:=Tryz.sizeOf212
  v46:=Tryz.zeroValue212
  t51:=Tryz.underlying237
  a51:=Tryz.isAgg237
  z51:=Tryz.sizeOf237
  v51:=Tryz.zeroValue237
  t53:=Tryz.underlying207
  a53:=Tryz.isAgg207
  z53:=Tryz.sizeOf207
  v53:=Tryz.zeroValue207
  t75:=Tryz.underlying147
  a75:=Tryz.isAgg147
  z75:=Tryz.sizeOf147
  v75:=Tryz.zeroValue147
  t85:=Tryz.underlying171
  a85:=Tryz.isAgg171
  z85:=Tryz.sizeOf171
  v85:=Tryz.zeroValue171
  t127:=Tryz.underlying168
  a127:=Tryz.isAgg168
  z127:=Tryz.sizeOf168
  v127:=Tryz.zeroValue168
  t143:=Tryz.underlying256
  a143:=Tryz.isAgg256
  z143:=Tryz.sizeOf256
  v143:=Tryz.zeroValue256
  t145:=Tryz.underlying258
  a145:=Tryz.isAgg258
  z145:=Tryz.sizeOf258
  v145:=Tryz.zeroValue258
  t167:=Tryz.underlying220
  a167:=Tryz.isAgg220
  z167:=Tryz.sizeOf220
  v167:=Tryz.zeroValue220
  t168:=Tryz.underlying223
  a168:=Tryz.isAgg223
  z168:=Tryz.sizeOf223
  v168:=Tryz.zeroValue223
  t171:=Tryz.underlying206
  a171:=Tryz.isAgg206
  z171:=Tryz.sizeOf206
  v171:=Tryz.zeroValue206
  t173:=Tryz.underlying210
  a173:=Tryz.isAgg210
  z173:=Tryz.sizeOf210
  v173:=Tryz.zeroValue210
  t175:=Tryz.underlying221
  a175:=Tryz.isAgg221
  z175:=Tryz.sizeOf221
  v175:=Tryz.zeroValue221
  t210:=Tryz.underlying251
  a210:=Tryz.isAgg251
  z210:=Tryz.sizeOf251
  v210:=Tryz.zeroValue251
  t212:=Tryz.underlying236
  a212:=Tryz.isAgg236
  z212:=Tryz.sizeOf236
  v212:=Tryz.zeroValue236
  t213:=Tryz.underlying238
  a213:=Tryz.isAgg238
  z213:=Tryz.sizeOf238
  t232:=Tryz.underlying269
  a232:=Tryz.isAgg269
  z232:=Tryz.sizeOf269
  v232:=Tryz.zeroValue269
  t233:=Tryz.underlying270
  a233:=Tryz.isAgg270
  z233:=Tryz.sizeOf270
  v233:=Tryz.zeroValue270
  g15:=by kernel_rfl
  g16:=by kernel_rfl
  g17:=by kernel_rfl
  g18:=by kernel_rfl
  g19:=by kernel_rfl
  t80:=Tryz.underlying150
  a80:=Tryz.isAgg150
  z80:=Tryz.sizeOf150
  v80:=Tryz.zeroValue150
  i0:=by kernel_rfl
  i2:=by kernel_rfl
  i3:=by kernel_rfl
  i4:=by kernel_rfl
  i5:=by kernel_rfl
  i9:=by kernel_rfl
  i20:=by kernel_rfl
  i21:=by kernel_rfl
  i37:=by kernel_rfl
  i46:=by kernel_rfl
  i51:=by kernel_rfl
  i53:=by kernel_rfl
  i75:=by kernel_rfl
  i80:=by kernel_rfl
  i85:=by kernel_rfl
  i127:=by kernel_rfl
  i143:=by kernel_rfl
  i145:=by kernel_rfl
  i167:=by kernel_rfl
  i168:=by kernel_rfl
  i171:=by kernel_rfl
  i173:=by kernel_rfl
  i175:=by kernel_rfl
  i210:=by kernel_rfl
  i212:=by kernel_rfl
  i232:=by kernel_rfl
  i233:=by kernel_rfl
  m15:=by kernel_rfl
  m16:=by kernel_rfl
  m17:=by kernel_rfl
  m18:=by kernel_rfl
  m19:=by kernel_rfl
  c0:=by kernel_rfl
  c2:=by kernel_rfl
  c3:=by kernel_rfl
  c4:=by kernel_rfl
  c5:=by kernel_rfl
  c9:=by kernel_rfl
  c20:=by kernel_rfl
  c21:=by kernel_rfl
  c37:=by kernel_rfl
  c46:=by kernel_rfl
  c51:=by kernel_rfl
  c53:=by kernel_rfl
  c75:=by kernel_rfl
  c80:=by kernel_rfl
  c85:=by kernel_rfl
  c127:=by kernel_rfl
  c143:=by kernel_rfl
  c145:=by kernel_rfl
  c167:=by kernel_rfl
  c168:=by kernel_rfl
  c171:=by kernel_rfl
  c173:=by kernel_rfl
  c175:=by kernel_rfl
  c210:=by kernel_rfl
  c212:=by kernel_rfl
  c213:=by kernel_rfl
  c232:=by kernel_rfl
  c233:=by kernel_rfl }
open Go.RowKit in
theorem Tryz.strconv_ParseInt_10_at64_ok (s : ByteArray) (hmax : s.size ≤ 9223372036854775806) (v : Int) (h : Lib.parseIntB 64 s.data.toList = .ok v) (w : World) :
    Calls Tryz.prog 87 #[.string s,.int .i64 10,.int .i64 64] w fun e w'=>e=.returned (.tuple #[.int .i64 v,.nilIface])∧(w'=w∨∃ t,w'=Lib.bytesWorld w 5 t):=Any.strconv_ParseInt_10_at64_ok Tryz.laysC174 s hmax v h w
def Tryz.lays101_ren:Go.Shelf.Ren:=⟨fun | 101=>113 | 208=>137 | 206=>165 | n=>n,fun | 9=>9 | 4=>4 | 3=>3 | n=>n,fun | n=>n⟩
theorem Tryz.lays101:Go.Proofs.Lays.n101 Tryz.prog Tryz.lays101_ren:={
  mixed:=by kernel_rfl
  f101:=Tryz.func113.trans (congrArg some (by kernel_rfl))
  f206:=Tryz.func165.trans (congrArg some (by kernel_rfl))
  f208:=Tryz.func137.trans (congrArg some (by kernel_rfl))
  t3:=Tryz.underlying3
  a3:=Tryz.isAgg3
  z3:=Tryz.sizeOf3
  v3:=Tryz.zeroValue3
  t4:=Tryz.underlying4
  a4:=Tryz.isAgg4
  z4:=Tryz.sizeOf4
  v4:=Tryz.zeroValue4
  t9:=Tryz.underlying9
  a9:=Tryz.isAgg9
  z9:=Tryz.sizeOf9
  v9:=Tryz.zeroValue9 }
open Go.RowKit Go.Lib in
theorem Tryz.strings_TrimPrefix (s p : ByteArray) (w : World) :
    Calls Tryz.prog 113 #[.string s,.string p] w fun e w'=>e=.returned (.string ⟨(Lib.trimPrefix s.data.toList p.data.toList).toArray⟩)∧w'=w:=Any.strings_TrimPrefix Tryz.lays101 s p w
end Go.Proofs
end
section
namespace Go.Px
open Go.Lib Go.Proofs Go.RowKit
theorem na (c:UInt8) (r:List UInt8) (h:0<(⟨(c::r).toArray⟩:ByteArray).size):((⟨(c::r).toArray⟩:ByteArray)[0]'h).toNat=c.toNat:=rfl
theorem vP {s:ByteArray} (h:Lib.trimPrefix s.data.toList [45]=[]):E4 s.data.toList=false:=by
 unfold E4;rw [h]
set_option maxHeartbeats 2000000 in
set_option maxRecDepth 100000 in
theorem jg (s : ByteArray) (w : World) (hT : Lib.trimPrefix s.data.toList [45] = []) :
    Calls Tryz.prog 86 #[.string s] w fun e w'=>e=.returned (.bool false)∧w'=w:=by
  have hT:=Lib.hid hT
  go_enter Tryz.func86,Tryz.ntmps86
  go_wp2_with fail
  refine (Tryz.strings_TrimPrefix s ⟨#[45]⟩ w).mono ?_
  rintro e w' ⟨rfl,rfl⟩
  rw [show (⟨#[45]⟩:ByteArray).data.toList=[45] from rfl,hT.out]
  go_wp2
  go_ret
  exact ⟨rfl,rfl⟩
set_option maxHeartbeats 2000000 in
set_option maxRecDepth 100000 in
theorem kq (s : ByteArray) (w : World) (c : UInt8) (r : List UInt8) (hT : Lib.trimPrefix s.data.toList [45] = c :: r) (hc : (c == 48) = true) (h0 : (s.toList == [48]) = false) :
    Calls Tryz.prog 86 #[.string s] w fun e w'=>e=.returned (.bool false)∧w'=w:=by
  have hx:=na c r (by simp [ByteArray.size]);have hT:=Lib.hid hT;have hcn:c.toNat=48:=by rw [beq_iff_eq.1 hc];rfl
  go_enter Tryz.func86,Tryz.ntmps86
  go_wp2_with fail
  refine (Tryz.strings_TrimPrefix s ⟨#[45]⟩ w).mono ?_
  rintro e w' ⟨rfl,rfl⟩
  rw [show (⟨#[45]⟩:ByteArray).data.toList=[45] from rfl,hT.out]
  go_wp2
  go_ret
  exact ⟨rfl,rfl⟩
set_option maxHeartbeats 2000000 in
set_option maxRecDepth 100000 in
theorem ke (s : ByteArray) (w : World) (c : UInt8) (r : List UInt8) (hs : s.size ≤ 1000000) (hT : Lib.trimPrefix s.data.toList [45] = c :: r) (hl : (c :: r).length ≤ 1000000) (h0 : c.toNat ≠ 48 ∨ (c.toNat = 48 ∧ (s.toList == [48]) = true)) :
    Calls Tryz.prog 86 #[.string s] w fun e w'=>e=.returned (.bool (Lib.trimS (c::r) [48,49,50,51,52,53,54,55,56,57]).isEmpty)∧Below w.heap.size w w':=by
  have hx:=na c r (by simp [ByteArray.size]);have hT:=Lib.hid hT
  rcases h0 with h0 | ⟨hc8,h0⟩
  · go_enter Tryz.func86,Tryz.ntmps86
    go_wp2_with fail
    refine (Tryz.strings_TrimPrefix s ⟨#[45]⟩ w).mono ?_
    rintro e w' ⟨rfl,rfl⟩
    rw [show (⟨#[45]⟩:ByteArray).data.toList=[45] from rfl,hT.out]
    go_wp2_with fail
    refine (Any.strings_Trim_laid Tryz.lays160 (by kernel_rfl) ⟨(c::r).toArray⟩ ⟨#[48,49,50,51,52,53,54,55,56,57]⟩ _ (by show (c::r).toArray.size≤_;rw [List.size_toArray];omega) (by decide) (ascii_of_all (by decide))).mono ?_
    rintro e w2 ⟨rfl,hb⟩
    go_wp2
    go_ret
    exact ⟨rfl,hb⟩
  · go_enter Tryz.func86,Tryz.ntmps86
    go_wp2_with fail
    refine (Tryz.strings_TrimPrefix s ⟨#[45]⟩ w).mono ?_
    rintro e w' ⟨rfl,rfl⟩
    rw [show (⟨#[45]⟩:ByteArray).data.toList=[45] from rfl,hT.out]
    go_wp2_with fail
    refine (Any.strings_Trim_laid Tryz.lays160 (by kernel_rfl) ⟨(c::r).toArray⟩ ⟨#[48,49,50,51,52,53,54,55,56,57]⟩ _ (by show (c::r).toArray.size≤_;rw [List.size_toArray];omega) (by decide) (ascii_of_all (by decide))).mono ?_
    rintro e w2 ⟨rfl,hb⟩
    go_wp2
    go_ret
    exact ⟨rfl,hb⟩
theorem K5 (s : ByteArray) (w : World) (hs : s.size ≤ 1000000) :
    Calls Tryz.prog 86 #[.string s] w fun e w'=>e=.returned (.bool (E4 s.data.toList))∧Below w.heap.size w w':=by
  cases hT:Lib.trimPrefix s.data.toList [45] with
  | nil =>
    refine (jg s w hT).mono ?_
    rintro e w' ⟨rfl,rfl⟩
    exact ⟨by rw [vP hT],Below.refl _ _⟩
  | cons c r =>
    have hl:(c::r).length≤1000000:=by
      rw [← hT];unfold Lib.trimPrefix;have:s.data.toList.length≤1000000:=hs
      split
      · rw [List.length_drop];omega
      · exact this
    have tl:s.toList=s.data.toList:=by rw [ByteArray.toList_eq]
    cases hc:(c==48 && !(s.data.toList==[48])) with
    | true =>
      rw [zzk,Bool.not_eq_true'] at hc;refine (kq s w c r hT hc.1 (by rw [tl];exact hc.2)).mono ?_
      rintro e w' ⟨rfl,rfl⟩
      refine ⟨?_,Below.refl _ _⟩;unfold E4;simp only [hT,hc.1,hc.2];rfl
    | false =>
      have h0:c.toNat≠48∨(c.toNat=48∧(s.toList==[48])=true):=by
        rw [Bool.and_eq_false_iff,Bool.not_eq_false',beq_eq_false_iff_ne] at hc
        by_cases h8:c.toNat=48
        · rcases hc with hc | hc
          · exact (hc (UInt8.toNat_inj.1 h8)).elim
          · exact .inr ⟨h8,by rw [tl];exact hc⟩
        · exact .inl h8
      refine (ke s w c r hs hT hl h0).mono ?_
      rintro e w' ⟨rfl,hb⟩
      refine ⟨?_,hb⟩;unfold E4;simp only [hT,hc];rfl
set_option maxHeartbeats 2000000 in
set_option maxRecDepth 100000 in
theorem sC (s : ByteArray) (lo hi : Int) (w : World) (hs : s.size ≤ 1000000) (hd : E4 s.data.toList = false) :
    Calls Tryz.prog 66 #[.string s,.int .i64 lo,.int .i64 hi] w fun e w'=>e=.returned (.tuple #[.int .i64 0,.int .i64 4])∧Below w.heap.size w w':=by
  have hd:=Lib.hid hd
  go_enter Tryz.func66,Tryz.ntmps66
  go_wp2_with fail
  refine (K5 s w hs).mono ?_
  rintro e w1 ⟨rfl,hb⟩
  rw [hd.out]
  go_wp2
  go_ret2
  exact ⟨rfl,hb⟩
set_option maxHeartbeats 2000000 in
set_option maxRecDepth 100000 in
theorem oy (s : ByteArray) (lo hi v : Int) (w : World) (hs : s.size ≤ 1000000) (hd : E4 s.data.toList = true) (hv : Lib.parseIntB 64 s.data.toList = .ok v) (h1 : v < lo) :
    Calls Tryz.prog 66 #[.string s,.int .i64 lo,.int .i64 hi] w fun e w'=>e=.returned (.tuple #[.int .i64 0,.int .i64 2])∧Below w.heap.size w w':=by
  have hd:=Lib.hid hd;have hv:=Lib.hid hv
  go_enter Tryz.func66,Tryz.ntmps66
  go_wp2_with fail
  refine (K5 s w hs).mono ?_
  rintro e w1 ⟨rfl,hb⟩
  rw [hd.out]
  go_wp2_with fail
  refine (Tryz.strconv_ParseInt_10_at64_ok s (by omega) v hv.out w1).mono ?_
  rintro e w2 ⟨rfl,hw⟩
  have hb2:Below w.heap.size w w2:=by
    rcases hw with rfl | ⟨t,rfl⟩
    · exact hb
    · exact hb.trans ((Lib.bytesWorld_below w1 5 t).mono hb.size)
  clear hw
  go_wp2
  go_ret2
  exact ⟨rfl,hb2⟩
set_option maxHeartbeats 2000000 in
set_option maxRecDepth 100000 in
theorem nP (s : ByteArray) (lo hi v : Int) (w : World) (hs : s.size ≤ 1000000) (hd : E4 s.data.toList = true) (hv : Lib.parseIntB 64 s.data.toList = .ok v) (h1 : ¬ v < lo) (h2 : hi < v) :
    Calls Tryz.prog 66 #[.string s,.int .i64 lo,.int .i64 hi] w fun e w'=>e=.returned (.tuple #[.int .i64 0,.int .i64 2])∧Below w.heap.size w w':=by
  have hd:=Lib.hid hd;have hv:=Lib.hid hv
  go_enter Tryz.func66,Tryz.ntmps66
  go_wp2_with fail
  refine (K5 s w hs).mono ?_
  rintro e w1 ⟨rfl,hb⟩
  rw [hd.out]
  go_wp2_with fail
  refine (Tryz.strconv_ParseInt_10_at64_ok s (by omega) v hv.out w1).mono ?_
  rintro e w2 ⟨rfl,hw⟩
  have hb2:Below w.heap.size w w2:=by
    rcases hw with rfl | ⟨t,rfl⟩
    · exact hb
    · exact hb.trans ((Lib.bytesWorld_below w1 5 t).mono hb.size)
  clear hw
  go_wp2
  go_ret2
  exact ⟨rfl,hb2⟩
set_option maxHeartbeats 2000000 in
set_option maxRecDepth 100000 in
theorem qW (s : ByteArray) (lo hi v : Int) (w : World) (hs : s.size ≤ 1000000) (hd : E4 s.data.toList = true) (hv : Lib.parseIntB 64 s.data.toList = .ok v) (h1 : ¬ v < lo) (h2 : ¬ hi < v) :
    Calls Tryz.prog 66 #[.string s,.int .i64 lo,.int .i64 hi] w fun e w'=>e=.returned (.tuple #[.int .i64 v,.int .i64 0])∧Below w.heap.size w w':=by
  have hd:=Lib.hid hd;have hv:=Lib.hid hv
  go_enter Tryz.func66,Tryz.ntmps66
  go_wp2_with fail
  refine (K5 s w hs).mono ?_
  rintro e w1 ⟨rfl,hb⟩
  rw [hd.out]
  go_wp2_with fail
  refine (Tryz.strconv_ParseInt_10_at64_ok s (by omega) v hv.out w1).mono ?_
  rintro e w2 ⟨rfl,hw⟩
  have hb2:Below w.heap.size w w2:=by
    rcases hw with rfl | ⟨t,rfl⟩
    · exact hb
    · exact hb.trans ((Lib.bytesWorld_below w1 5 t).mono hb.size)
  clear hw
  go_wp2
  go_ret2
  exact ⟨rfl,hb2⟩
theorem lI (s : ByteArray) (lo hi : Int) (x : Int × Int) (w : World) (hs : s.size ≤ 1000000) (hx : ZK s.data.toList lo hi = some x) :
    Calls Tryz.prog 66 #[.string s,.int .i64 lo,.int .i64 hi] w fun e w'=>e=.returned (.tuple #[.int .i64 x.1,.int .i64 x.2])∧Below w.heap.size w w':=by
  unfold ZK at hx;cases hd:E4 s.data.toList with
  | false =>
    rw [hd] at hx;cases hx;exact sC s lo hi w hs hd
  | true =>
    rw [hd] at hx;cases hv:Lib.parseIntB 64 s.data.toList with
    | ok v =>
      rw [hv] at hx;have hx:some (cond (decide (v<lo)||decide (hi<v)) ((0:Int),(2:Int)) (v,0))=some x:=hx
      by_cases h1:v<lo
      · rw [decide_eq_true h1] at hx;cases hx;exact oy s lo hi v w hs hd hv h1
      · by_cases h2:hi<v
        · rw [decide_eq_false h1,decide_eq_true h2] at hx;cases hx;exact nP s lo hi v w hs hd hv h1 h2
        · rw [decide_eq_false h1,decide_eq_false h2] at hx;cases hx;exact qW s lo hi v w hs hd hv h1 h2
    | _=>rw [hv] at hx;cases hx
end Go.Px
end
