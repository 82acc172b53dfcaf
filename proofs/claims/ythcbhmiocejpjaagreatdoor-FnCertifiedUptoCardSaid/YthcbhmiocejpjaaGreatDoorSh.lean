/- The kit's contracts of library functions at this program (laid by the kit's own tool), as the evaluator takes them. (Printed by our own program.) -/
import Derived.Test.YthcbhmiocejpjaaGreatDoorProg
import Derived.Test.YthcbhmiocejpjaaGreatDoorLibH
import Derived.KernelRfl
import Derived.Shelf.LaysM
import Derived.Shelf.Strconv.Itoa3
import Derived.Shelf.Strings.Builder1
import Derived.Shelf.Strings.Builder2
import Derived.Shelf.Strings.Cut
import Derived.Shelf.Strings.LastIndex
import Derived.Shelf.Strings.OnBuilder
import Derived.Shelf.Strings.Shaped
import Derived.Shelf.Strings.Split
set_option linter.unusedSimpArgs false
set_option linter.unusedVariables false

namespace Go.Proofs
open Go.Shelf
def Tryz.lays156_ren:Go.Shelf.Ren:=⟨fun|156=>333|165=>344|166=>345|169=>346|240=>354|241=>355|276=>359|277=>360|n=>n,fun|31=>167|9=>9|3=>3|4=>4|0=>0|20=>20|72=>285|76=>289|70=>283|37=>22|75=>288|127=>299|164=>301|5=>5|80=>143|n=>n,fun|n=>n⟩
theorem Tryz.lays156:Go.Proofs.Lays.n156 Tryz.prog Tryz.lays156_ren:={
  mixed:=by kernel_rfl
  f156:=Tryz.func333.trans (congrArg some (by kernel_rfl))
  f165:=Tryz.func344.trans (congrArg some (by kernel_rfl))
  f166:=Tryz.func345.trans (congrArg some (by kernel_rfl))
  f169:=Tryz.func346.trans (congrArg some (by kernel_rfl))
  f240:=Tryz.func354.trans (congrArg some (by kernel_rfl))
  f241:=Tryz.func355.trans (congrArg some (by kernel_rfl))
  f276:=Tryz.func359.trans (congrArg some (by kernel_rfl))
  f277:=Tryz.func360.trans (congrArg some (by kernel_rfl))
  t0:=Tryz.underlying0
  a0:=Tryz.isAgg0
  z0:=Tryz.sizeOf0
  v0:=Tryz.zeroValue0
  t3:=Tryz.underlying3
  a3:=Tryz.isAgg3
  z3:=Tryz.sizeOf3
  v3:=Tryz.zeroValue3
  t4:=Tryz.underlying4
  a4:=Tryz.isAgg4
  z4:=Tryz.sizeOf4
  v4:=Tryz.zeroValue4
  t9:=Tryz.underlying9
  a9:=Tryz.isAgg9
  z9:=Tryz.sizeOf9
  v9:=Tryz.zeroValue9
  t20:=Tryz.underlying20
  a20:=Tryz.isAgg20
  z20:=Tryz.sizeOf20
  v20:=Tryz.zeroValue20
  t31:=Tryz.underlying167
  a31:=Tryz.isAgg167
  z31:=Tryz.sizeOf167
  v31:=Tryz.zeroValue167
  t37:=Tryz.underlying22
  a37:=Tryz.isAgg22
  z37:=Tryz.sizeOf22
  v37:=Tryz.zeroValue22
  t70:=Tryz.underlying283
  a70:=Tryz.isAgg283
  z70:=Tryz.sizeOf283
  v70:=Tryz.zeroValue283
  t72:=Tryz.underlying285
  a72:=Tryz.isAgg285
  z72:=Tryz.sizeOf285
  v72:=Tryz.zeroValue285
  t75:=Tryz.underlying288
  a75:=Tryz.isAgg288
  z75:=Tryz.sizeOf288
  v75:=Tryz.zeroValue288
  t76:=Tryz.underlying289
  a76:=Tryz.isAgg289
  z76:=Tryz.sizeOf289
  v76:=Tryz.zeroValue289
  t127:=Tryz.underlying299
  a127:=Tryz.isAgg299
  z127:=Tryz.sizeOf299
  v127:=Tryz.zeroValue299
  t164:=Tryz.underlying301
  a164:=Tryz.isAgg301
  z164:=Tryz.sizeOf301
  v164:=Tryz.zeroValue301 }
theorem Tryz.Builder_Extra_156:Builder.Extra Tryz.prog Tryz.lays156_ren:={
  sizeBuilder:=by kernel_rfl
  liesBuilder:=by kernel_rfl
  t5:=Tryz.underlying5
  a5:=Tryz.isAgg5
  z5:=Tryz.sizeOf5
  v5:=Tryz.zeroValue5
  infoByte:=by kernel_rfl
  cellsByte:=by kernel_rfl
  sizeByte:=by kernel_rfl
  neB5:=by decide }
open Go.RowKit in
theorem Tryz.strings_Join_none (a:Option Addr) (c:Nat) (sep:ByteArray) (w:World) :
    Calls Tryz.prog 333 #[.slice a 0 c,.string sep] w fun e w'=>e = .returned (.string ⟨#[]⟩)∧w'=w:=Any.strings_Join_none Tryz.lays156 Tryz.Builder_Extra_156 a c sep w
open Go.RowKit in
theorem Tryz.strings_Join (bk o c:Nat) (xs:List ByteArray) (sep:ByteArray) (w:World) (hcells : ∀ (j:Nat) x,xs[j]?=some x→w.cell? ⟨bk,o+j,none⟩=some (.string x)) (hbk:bk<w.heap.size) (hN:xs.length≤140737488355328) (hcap:xs.length≤c) (hlen:(Lib.join (xs.map (·.data.toList)) sep.data.toList).length≤140737488355328) :
    Calls Tryz.prog 333 #[.slice (some ⟨bk,o,none⟩) xs.length c,.string sep] w fun e w'=>e = .returned (.string ⟨(Lib.join (xs.map (·.data.toList)) sep.data.toList).toArray⟩)∧Below w.heap.size w w':=Any.strings_Join Tryz.lays156 Tryz.Builder_Extra_156 bk o c xs sep w hcells hbk hN hcap hlen
def Tryz.laysM171_ren:Go.Shelf.Ren:=⟨fun|171=>242|243=>296|246=>324|283=>339|284=>340|285=>341|286=>342|129=>350|317=>349|318=>351|319=>352|320=>353|337=>357|338=>358|n=>n,fun|3=>3|9=>9|2=>2|4=>4|171=>276|0=>0|53=>277|37=>22|5=>5|173=>280|212=>296|51=>267|20=>20|213=>297|46=>120|232=>304|233=>305|n=>n,fun|17=>3|18=>4|19=>5|n=>n⟩
theorem Tryz.laysM171:Go.Proofs.LaysM.n171 Tryz.prog Tryz.laysM171_ren:={
  mixed:=by kernel_rfl
  f129:=Tryz.func350.trans (congrArg some (by kernel_rfl))
  f171:=Tryz.func242.trans (congrArg some (by kernel_rfl))
  f243:=Tryz.func296.trans (congrArg some (by kernel_rfl))
  f246:=Tryz.func324.trans (congrArg some (by kernel_rfl))
  f283:=Tryz.func339.trans (congrArg some (by kernel_rfl))
  f284:=Tryz.func340.trans (congrArg some (by kernel_rfl))
  f285:=Tryz.func341.trans (congrArg some (by kernel_rfl))
  f286:=Tryz.func342.trans (congrArg some (by kernel_rfl))
  f317:=Tryz.func349.trans (congrArg some (by kernel_rfl))
  f318:=Tryz.func351.trans (congrArg some (by kernel_rfl))
  f319:=Tryz.func352.trans (congrArg some (by kernel_rfl))
  f320:=Tryz.func353.trans (congrArg some (by kernel_rfl))
  f337:=Tryz.func357.trans (congrArg some (by kernel_rfl))
  f338:=Tryz.func358.trans (congrArg some (by kernel_rfl))
  t0:=Tryz.underlying0
  a0:=Tryz.isAgg0
  z0:=Tryz.sizeOf0
  v0:=Tryz.zeroValue0
  t2:=Tryz.underlying2
  a2:=Tryz.isAgg2
  z2:=Tryz.sizeOf2
  v2:=Tryz.zeroValue2
  t3:=Tryz.underlying3
  a3:=Tryz.isAgg3
  z3:=Tryz.sizeOf3
  v3:=Tryz.zeroValue3
  t4:=Tryz.underlying4
  a4:=Tryz.isAgg4
  z4:=Tryz.sizeOf4
  v4:=Tryz.zeroValue4
  t5:=Tryz.underlying5
  a5:=Tryz.isAgg5
  z5:=Tryz.sizeOf5
  v5:=Tryz.zeroValue5
  t9:=Tryz.underlying9
  a9:=Tryz.isAgg9
  z9:=Tryz.sizeOf9
  v9:=Tryz.zeroValue9
  t20:=Tryz.underlying20
  a20:=Tryz.isAgg20
  z20:=Tryz.sizeOf20
  v20:=Tryz.zeroValue20
  t37:=Tryz.underlying22
  a37:=Tryz.isAgg22
  z37:=Tryz.sizeOf22
  v37:=Tryz.zeroValue22
  t46:=Tryz.underlying120
  a46:=Tryz.isAgg120
  z46:=Tryz.sizeOf120
  v46:=Tryz.zeroValue120
  t51:=Tryz.underlying267
  a51:=Tryz.isAgg267
  z51:=Tryz.sizeOf267
  v51:=Tryz.zeroValue267
  t53:=Tryz.underlying277
  a53:=Tryz.isAgg277
  z53:=Tryz.sizeOf277
  v53:=Tryz.zeroValue277
  t171:=Tryz.underlying276
  a171:=Tryz.isAgg276
  z171:=Tryz.sizeOf276
  v171:=Tryz.zeroValue276
  t173:=Tryz.underlying280
  a173:=Tryz.isAgg280
  z173:=Tryz.sizeOf280
  v173:=Tryz.zeroValue280
  t212:=Tryz.underlying296
  a212:=Tryz.isAgg296
  z212:=Tryz.sizeOf296
  v212:=Tryz.zeroValue296
  t213:=Tryz.underlying297
  a213:=Tryz.isAgg297
  z213:=Tryz.sizeOf297
  t232:=Tryz.underlying304
  a232:=Tryz.isAgg304
  z232:=Tryz.sizeOf304
  v232:=Tryz.zeroValue304
  t233:=Tryz.underlying305
  a233:=Tryz.isAgg305
  z233:=Tryz.sizeOf305
  v233:=Tryz.zeroValue305
  g17:=by kernel_rfl
  g18:=by kernel_rfl
  g19:=by kernel_rfl
  i0:=by kernel_rfl
  i2:=by kernel_rfl
  i3:=by kernel_rfl
  i4:=by kernel_rfl
  i5:=by kernel_rfl
  i9:=by kernel_rfl
  i20:=by kernel_rfl
  i37:=by kernel_rfl
  i46:=by kernel_rfl
  i51:=by kernel_rfl
  i53:=by kernel_rfl
  i171:=by kernel_rfl
  i173:=by kernel_rfl
  i212:=by kernel_rfl
  i232:=by kernel_rfl
  i233:=by kernel_rfl
  m17:=by kernel_rfl
  m18:=by kernel_rfl
  m19:=by kernel_rfl }
open Go.RowKit Go.Sort Go.Lib in
theorem Tryz.strconv_Itoa (n:Int) (h0 : -9223372036854775808≤n) (h1:n≤9223372036854775807) (w:World) (htab:Lib.TabIs Go.Proofs.Tryz.prog w "internal/strconv.uint64pow10" .u64 Lib.pow10Tab) :
    Calls Tryz.prog 242 #[.int .i64 n] w fun e w'=>e = .returned (.string ⟨(Lib.itoa n).toArray⟩) ∧ ∃ k os,w'=grow (w.drewN k) os:=Any.strconv_Itoa Tryz.laysM171 n h0 h1 w htab
def Tryz.lays145_ren:Go.Shelf.Ren:=⟨fun|145=>127|220=>190|219=>241|217=>292|225=>293|224=>294|267=>295|266=>322|314=>323|n=>n,fun|9=>9|4=>4|59=>169|3=>3|5=>5|46=>120|146=>268|51=>267|n=>n,fun|1=>0|n=>n⟩
theorem Tryz.lays145:Go.Proofs.Lays.n145 Tryz.prog Tryz.lays145_ren:={
  mixed:=by kernel_rfl
  f145:=Tryz.func127.trans (congrArg some (by kernel_rfl))
  f217:=Tryz.func292.trans (congrArg some (by kernel_rfl))
  f219:=Tryz.func241.trans (congrArg some (by kernel_rfl))
  f220:=Tryz.func190.trans (congrArg some (by kernel_rfl))
  f224:=Tryz.func294.trans (congrArg some (by kernel_rfl))
  f225:=Tryz.func293.trans (congrArg some (by kernel_rfl))
  f266:=Tryz.func322.trans (congrArg some (by kernel_rfl))
  f267:=Tryz.func295.trans (congrArg some (by kernel_rfl))
  f314:=Tryz.func323.trans (congrArg some (by kernel_rfl))
  t3:=Tryz.underlying3
  a3:=Tryz.isAgg3
  z3:=Tryz.sizeOf3
  v3:=Tryz.zeroValue3
  t4:=Tryz.underlying4
  a4:=Tryz.isAgg4
  z4:=Tryz.sizeOf4
  v4:=Tryz.zeroValue4
  t5:=Tryz.underlying5
  a5:=Tryz.isAgg5
  z5:=Tryz.sizeOf5
  v5:=Tryz.zeroValue5
  t9:=Tryz.underlying9
  a9:=Tryz.isAgg9
  z9:=Tryz.sizeOf9
  v9:=Tryz.zeroValue9
  t46:=Tryz.underlying120
  a46:=Tryz.isAgg120
  z46:=Tryz.sizeOf120
  v46:=Tryz.zeroValue120
  t51:=Tryz.underlying267
  a51:=Tryz.isAgg267
  z51:=Tryz.sizeOf267
  v51:=Tryz.zeroValue267
  t59:=Tryz.underlying169
  a59:=Tryz.isAgg169
  z59:=Tryz.sizeOf169
  v59:=Tryz.zeroValue169
  t146:=Tryz.underlying268
  a146:=Tryz.isAgg268
  z146:=Tryz.sizeOf268
  v146:=Tryz.zeroValue268
  g1:=by kernel_rfl }
open Go.RowKit Go.Lib in
theorem Tryz.strings_Cut (s sep:ByteArray) (m:Int) (w:World) (hs:s.size<4294967281) (hm:w.cell? ⟨0,0,none⟩=some (.int .i64 m)) :
    Calls Tryz.prog 127 #[.string s,.string sep] w fun e w'=>e = .returned (.tuple #[.string ⟨(Lib.cut s.data.toList sep.data.toList).1.toArray⟩,.string ⟨(Lib.cut s.data.toList sep.data.toList).2.1.toArray⟩,.bool (Lib.cut s.data.toList sep.data.toList).2.2]) ∧ ∃ n,w'=w.drewN n:=Any.strings_Cut Tryz.lays145 s sep m w hs hm
def Tryz.lays149_ren:Go.Shelf.Ren:=⟨fun|149=>266|222=>309|n=>n,fun|9=>9|5=>5|3=>3|4=>4|n=>n,fun|n=>n⟩
theorem Tryz.lays149:Go.Proofs.Lays.n149 Tryz.prog Tryz.lays149_ren:={
  mixed:=by kernel_rfl
  f149:=Tryz.func266.trans (congrArg some (by kernel_rfl))
  f222:=Tryz.func309.trans (congrArg some (by kernel_rfl))
  t3:=Tryz.underlying3
  a3:=Tryz.isAgg3
  z3:=Tryz.sizeOf3
  v3:=Tryz.zeroValue3
  t4:=Tryz.underlying4
  a4:=Tryz.isAgg4
  z4:=Tryz.sizeOf4
  v4:=Tryz.zeroValue4
  t5:=Tryz.underlying5
  a5:=Tryz.isAgg5
  z5:=Tryz.sizeOf5
  v5:=Tryz.zeroValue5
  t9:=Tryz.underlying9
  a9:=Tryz.isAgg9
  z9:=Tryz.sizeOf9
  v9:=Tryz.zeroValue9 }
open Go.RowKit Go.Lib in
theorem Tryz.strings_LastIndexByte (s:ByteArray) (c:Int) (hs:s.size<4611686018427387904) (w:World) :
    Calls Tryz.prog 266 #[.string s,.int .u8 c] w fun e w'=>e = .returned (.int .i64 (Lib.lastIndexByte s c))∧w'=w:=Any.strings_LastIndexByte Tryz.lays149 s c hs w
def Tryz.lays146_ren:Go.Shelf.Ren:=⟨fun|146=>189|221=>240|268=>289|138=>290|143=>291|195=>319|197=>320|218=>321|219=>241|260=>338|217=>292|225=>293|224=>294|267=>295|266=>322|314=>323|n=>n,fun|9=>9|31=>167|3=>3|4=>4|0=>0|105=>265|21=>21|5=>5|46=>120|119=>292|139=>295|138=>294|146=>268|51=>267|n=>n,fun|1=>0|3=>1|4=>2|n=>n⟩
theorem Tryz.lays146:Go.Proofs.Lays.n146 Tryz.prog Tryz.lays146_ren:={
  mixed:=by kernel_rfl
  f138:=Tryz.func290.trans (congrArg some (by kernel_rfl))
  f143:=Tryz.func291.trans (congrArg some (by kernel_rfl))
  f146:=Tryz.func189.trans (congrArg some (by kernel_rfl))
  f195:=Tryz.func319.trans (congrArg some (by kernel_rfl))
  f197:=Tryz.func320.trans (congrArg some (by kernel_rfl))
  f217:=Tryz.func292.trans (congrArg some (by kernel_rfl))
  f218:=Tryz.func321.trans (congrArg some (by kernel_rfl))
  f219:=Tryz.func241.trans (congrArg some (by kernel_rfl))
  f221:=Tryz.func240.trans (congrArg some (by kernel_rfl))
  f224:=Tryz.func294.trans (congrArg some (by kernel_rfl))
  f225:=Tryz.func293.trans (congrArg some (by kernel_rfl))
  f260:=Tryz.func338.trans (congrArg some (by kernel_rfl))
  f266:=Tryz.func322.trans (congrArg some (by kernel_rfl))
  f267:=Tryz.func295.trans (congrArg some (by kernel_rfl))
  f268:=Tryz.func289.trans (congrArg some (by kernel_rfl))
  f314:=Tryz.func323.trans (congrArg some (by kernel_rfl))
  t0:=Tryz.underlying0
  a0:=Tryz.isAgg0
  z0:=Tryz.sizeOf0
  v0:=Tryz.zeroValue0
  t3:=Tryz.underlying3
  a3:=Tryz.isAgg3
  z3:=Tryz.sizeOf3
  v3:=Tryz.zeroValue3
  t4:=Tryz.underlying4
  a4:=Tryz.isAgg4
  z4:=Tryz.sizeOf4
  v4:=Tryz.zeroValue4
  t5:=Tryz.underlying5
  a5:=Tryz.isAgg5
  z5:=Tryz.sizeOf5
  v5:=Tryz.zeroValue5
  t9:=Tryz.underlying9
  a9:=Tryz.isAgg9
  z9:=Tryz.sizeOf9
  v9:=Tryz.zeroValue9
  t21:=Tryz.underlying21
  a21:=Tryz.isAgg21
  z21:=Tryz.sizeOf21
  v21:=Tryz.zeroValue21
  t31:=Tryz.underlying167
  a31:=Tryz.isAgg167
  z31:=Tryz.sizeOf167
  v31:=Tryz.zeroValue167
  t46:=Tryz.underlying120
  a46:=Tryz.isAgg120
  z46:=Tryz.sizeOf120
  v46:=Tryz.zeroValue120
  t51:=Tryz.underlying267
  a51:=Tryz.isAgg267
  z51:=Tryz.sizeOf267
  v51:=Tryz.zeroValue267
  t105:=Tryz.underlying265
  a105:=Tryz.isAgg265
  z105:=Tryz.sizeOf265
  v105:=Tryz.zeroValue265
  t119:=Tryz.underlying292
  a119:=Tryz.isAgg292
  z119:=Tryz.sizeOf292
  t138:=Tryz.underlying294
  a138:=Tryz.isAgg294
  z138:=Tryz.sizeOf294
  v138:=Tryz.zeroValue294
  t139:=Tryz.underlying295
  a139:=Tryz.isAgg295
  z139:=Tryz.sizeOf295
  v139:=Tryz.zeroValue295
  t146:=Tryz.underlying268
  a146:=Tryz.isAgg268
  z146:=Tryz.sizeOf268
  v146:=Tryz.zeroValue268
  g1:=by kernel_rfl
  g3:=by kernel_rfl
  g4:=by kernel_rfl }
open Go.RowKit Go.Lib in
theorem Tryz.strings_Split (s sep:ByteArray) (m:Int) (w:World) (hs:s.size<4294967281) (hm:w.cell? ⟨0,0,none⟩=some (.int .i64 m)) (h1:1≤sep.size) :
    Calls Tryz.prog 189 #[.string s,.string sep] w fun e w'=>
      e = .returned (.slice (some ⟨w.heap.size,0,none⟩) (Lib.countB s sep+1) (Lib.countB s sep+1))∧w'=w.alloc (.cells ((Lib.splitB sep 0 (Lib.countB s sep) s).map Value.string).toArray 9):=Any.strings_Split Tryz.lays146 (by kernel_rfl) s sep m w hs hm h1
end Go.Proofs

namespace G448
open Ev Go Go.RowKit
set_option linter.unusedVariables false
set_option maxRecDepth 100000

/-- The type whose rows are whole: posts. -/
instance tagsI:Ev.Tags:=⟨4294967295⟩
noncomputable def fW:Nat:=match Go.Proofs.Tryz.prog.globalNamed "internal/strconv.uint64pow10" with|some g=>g|none=>0
theorem gPow_ok:Go.Proofs.Tryz.prog.globalNamed "internal/strconv.uint64pow10" = some fW:=by kernel_rfl
/-- The library's tables that are read. -/
noncomputable def GLB:Glob where
  gb:=[0,fW]
  G:=fun w=>(∃ m,w.cell? ⟨0,0,none⟩=some (.int .i64 m))∧Lib.TabIs Go.Proofs.Tryz.prog w "internal/strconv.uint64pow10" .u64 Lib.pow10Tab
  frame:=by
    rintro w w' h hb
    obtain⟨h0,h1⟩:=h
    refine⟨?_,?_⟩
    · obtain⟨m,hm⟩:=h0
      refine⟨m,?_⟩
      have e:=hb 0 (by simp)
      simp only[World.cell?] at hm ⊢
      rw[e]; exact hm
    · have e:=hb fW (by simp)
      have h:=h1
      simp only[Lib.TabIs,World.var?,gPow_ok,Option.bind_some] at h ⊢
      rw[e]; exact h
def Dp:PF:=⟨[(.rd,.i64)],[.str],.uniq,strconv_Itoa⟩
theorem ad4:Sound Go.Proofs.Tryz.prog GLB 242 Dp:=afc (T:=fun w=>Lib.TabIs Go.Proofs.Tryz.prog w "internal/strconv.uint64pow10" .u64 Lib.pow10Tab) (Go.Proofs.enters_of Go.Proofs.Tryz.func242 (by kernel_rfl) rfl) (fun w h=>h.2) (fun n h0 h1 w ht=>Go.Proofs.Tryz.strconv_Itoa n h0 h1 w ht)
def sA:PF:=⟨[(.rd,.str),(.rd,.str)],[.str,.str,.bool],.uniq,strings_Cut⟩
theorem Fy:Sound Go.Proofs.Tryz.prog GLB 127 sA:=af3 (Go.Proofs.enters_of Go.Proofs.Tryz.func127 (by kernel_rfl) rfl) (fun w h=>h.1) (fun s sep m w hs hm=>Go.Proofs.Tryz.strings_Cut s sep m w hs hm)
def El:PF:=⟨[(.rd,.sl 9 .str),(.rd,.str)],[.str],.uniq,strings_Join⟩
theorem adZ:Sound Go.Proofs.Tryz.prog GLB 333 El:=afd (Go.Proofs.enters_of Go.Proofs.Tryz.func333 (by kernel_rfl) rfl) (fun a c sep w=>Go.Proofs.Tryz.strings_Join_none a c sep w) (fun bk o c xs sep w h1 h2 h3 h4 h5=>Go.Proofs.Tryz.strings_Join bk o c xs sep w h1 h2 h3 h4 h5)
def DE:PF:=⟨[(.rd,.str),(.rd,.u8)],[.i64],.uniq,strings_LastIndexByte⟩
theorem adk:Sound Go.Proofs.Tryz.prog GLB 266 DE:=aff (Go.Proofs.enters_of Go.Proofs.Tryz.func266 (by kernel_rfl) rfl) Go.Proofs.Tryz.strings_LastIndexByte
def CT:PF:=⟨[(.rd,.str),(.rd,.str)],[.sl 9 .str],.uniq,strings_Split⟩
theorem acx:Sound Go.Proofs.Tryz.prog GLB 189 CT:=afu (by decide) (Go.Proofs.enters_of Go.Proofs.Tryz.func189 (by kernel_rfl) rfl) (fun w h=>h.1) (fun s sep m w hs hm h1=>Go.Proofs.Tryz.strings_Split s sep m w hs hm h1)
def AS:Go.Shelf.Ren:=⟨fun|22=>237|29=>287|30=>288|n=>n,fun|9=>61|24=>45|n=>n,fun n=>n⟩
theorem XU:Kv Go.Proofs.Tryz.prog AS 3 #[.int .i64 0,.string ⟨#[]⟩,.slice none 0 0] 48:={
  mixed:=by kernel_rfl
  f22:=⟨ "slices.Insert[[]loop.example/g00448/impl.Part,loop.example/g00448/impl.Part]", Go.Proofs.Tryz.func237.trans (congrArg some (by kernel_rfl))⟩
  ov:=fun args w=>Go.run_callFunc_extern Go.Proofs.Tryz.func287 (by kernel_rfl) (by kernel_rfl) (by kernel_rfl) (by kernel_rfl) args w
  t0:=Go.Proofs.Tryz.underlying0
  a0:=Go.Proofs.Tryz.isAgg0
  z0:=Go.Proofs.Tryz.sizeOf0
  v0:=Go.Proofs.Tryz.zeroValue0
  t3:=Go.Proofs.Tryz.underlying3
  a3:=Go.Proofs.Tryz.isAgg3
  z3:=Go.Proofs.Tryz.sizeOf3
  v3:=Go.Proofs.Tryz.zeroValue3
  t4:=Go.Proofs.Tryz.underlying4
  a4:=Go.Proofs.Tryz.isAgg4
  z4:=Go.Proofs.Tryz.sizeOf4
  v4:=Go.Proofs.Tryz.zeroValue4
  z9:=Go.Proofs.Tryz.sizeOf61
  t24:=Go.Proofs.Tryz.underlying45
  a24:=Go.Proofs.Tryz.isAgg45
  z24:=Go.Proofs.Tryz.sizeOf45
  v24:=Go.Proofs.Tryz.zeroValue45
  i9:=by kernel_rfl }
def Dl:PF:=⟨[(.own,.sl 61 (.pair .i64 (.pair .str (.sl 3 .i64)))),(.rd,.i64),(.own,.sl 61 (.pair .i64 (.pair .str (.sl 3 .i64))))],[.sl 61 (.pair .i64 (.pair .str (.sl 3 .i64)))],.own,N3⟩
theorem ad0:Kx Go.Proofs.Tryz.prog GLB 237 Dl:=aeR (T:=61) (e:=(.pair .i64 (.pair .str (.sl 3 .i64)))) (ρ:=AS) XU (Go.Proofs.enters_of Go.Proofs.Tryz.func237 (by kernel_rfl) rfl) rfl (by decide) ⟨by decide,by decide⟩
def AT:Go.Shelf.Ren:=⟨fun|22=>279|29=>313|30=>314|n=>n,fun|9=>63|24=>44|n=>n,fun n=>n⟩
theorem XV:Kv Go.Proofs.Tryz.prog AT 4 #[.int .i64 0,.int .i64 0,.int .i64 0,.int .i64 0] 32:={
  mixed:=by kernel_rfl
  f22:=⟨ "slices.Insert[[]loop.example/g00448/impl.Tx,loop.example/g00448/impl.Tx]", Go.Proofs.Tryz.func279.trans (congrArg some (by kernel_rfl))⟩
  ov:=fun args w=>Go.run_callFunc_extern Go.Proofs.Tryz.func313 (by kernel_rfl) (by kernel_rfl) (by kernel_rfl) (by kernel_rfl) args w
  t0:=Go.Proofs.Tryz.underlying0
  a0:=Go.Proofs.Tryz.isAgg0
  z0:=Go.Proofs.Tryz.sizeOf0
  v0:=Go.Proofs.Tryz.zeroValue0
  t3:=Go.Proofs.Tryz.underlying3
  a3:=Go.Proofs.Tryz.isAgg3
  z3:=Go.Proofs.Tryz.sizeOf3
  v3:=Go.Proofs.Tryz.zeroValue3
  t4:=Go.Proofs.Tryz.underlying4
  a4:=Go.Proofs.Tryz.isAgg4
  z4:=Go.Proofs.Tryz.sizeOf4
  v4:=Go.Proofs.Tryz.zeroValue4
  z9:=Go.Proofs.Tryz.sizeOf63
  t24:=Go.Proofs.Tryz.underlying44
  a24:=Go.Proofs.Tryz.isAgg44
  z24:=Go.Proofs.Tryz.sizeOf44
  v24:=Go.Proofs.Tryz.zeroValue44
  i9:=by kernel_rfl }
def DR:PF:=⟨[(.own,.sl 63 (.pair .i64 (.pair .i64 (.pair .i64 .i64)))),(.rd,.i64),(.own,.sl 63 (.pair .i64 (.pair .i64 (.pair .i64 .i64))))],[.sl 63 (.pair .i64 (.pair .i64 (.pair .i64 .i64)))],.uniq,aq⟩
theorem adx:Sound Go.Proofs.Tryz.prog GLB 279 DR:=Ig (T:=63) (e:=(.pair .i64 (.pair .i64 (.pair .i64 .i64)))) (ρ:=AT) XV (Go.Proofs.enters_of Go.Proofs.Tryz.func279 (by kernel_rfl) rfl) rfl (by decide) ⟨by decide,by decide⟩ (.inr ⟨rfl,rfl⟩)
def AU:Go.Shelf.Ren:=⟨fun|22=>336|29=>347|30=>348|n=>n,fun|9=>3|24=>26|n=>n,fun n=>n⟩
theorem XW:Kv Go.Proofs.Tryz.prog AU 1 #[.int .i64 0] 8:={
  mixed:=by kernel_rfl
  f22:=⟨ "slices.Insert[[]int,int]", Go.Proofs.Tryz.func336.trans (congrArg some (by kernel_rfl))⟩
  ov:=fun args w=>Go.run_callFunc_extern Go.Proofs.Tryz.func347 (by kernel_rfl) (by kernel_rfl) (by kernel_rfl) (by kernel_rfl) args w
  t0:=Go.Proofs.Tryz.underlying0
  a0:=Go.Proofs.Tryz.isAgg0
  z0:=Go.Proofs.Tryz.sizeOf0
  v0:=Go.Proofs.Tryz.zeroValue0
  t3:=Go.Proofs.Tryz.underlying3
  a3:=Go.Proofs.Tryz.isAgg3
  z3:=Go.Proofs.Tryz.sizeOf3
  v3:=Go.Proofs.Tryz.zeroValue3
  t4:=Go.Proofs.Tryz.underlying4
  a4:=Go.Proofs.Tryz.isAgg4
  z4:=Go.Proofs.Tryz.sizeOf4
  v4:=Go.Proofs.Tryz.zeroValue4
  z9:=Go.Proofs.Tryz.sizeOf3
  t24:=Go.Proofs.Tryz.underlying26
  a24:=Go.Proofs.Tryz.isAgg26
  z24:=Go.Proofs.Tryz.sizeOf26
  v24:=Go.Proofs.Tryz.zeroValue26
  i9:=by kernel_rfl }
def Eo:PF:=⟨[(.own,.sl 3 .i64),(.rd,.i64),(.own,.sl 3 .i64)],[.sl 3 .i64],.uniq,dN⟩
theorem ae2:Sound Go.Proofs.Tryz.prog GLB 336 Eo:=Ig (T:=3) (e:=.i64) (ρ:=AU) XW (Go.Proofs.enters_of Go.Proofs.Tryz.func336 (by kernel_rfl) rfl) rfl (by decide) ⟨by decide,by decide⟩ (.inr ⟨rfl,rfl⟩)
def xy:Go.Shelf.Ren:=⟨fun|45=>116|n=>n,fun|22=>28|23=>93|n=>n,fun n=>n⟩
theorem VY:oH Go.Proofs.Tryz.prog xy 2 #[.int .i64 0,.slice none 0 0]:={
  mixed:=by kernel_rfl
  f45:=⟨ "slices.Delete[[]loop.example/g00448/impl.Wire,loop.example/g00448/impl.Wire]", by kernel_rfl,Go.Proofs.Tryz.func116.trans (congrArg some (by kernel_rfl))⟩
  t0:=Go.Proofs.Tryz.underlying0
  a0:=Go.Proofs.Tryz.isAgg0
  z0:=Go.Proofs.Tryz.sizeOf0
  v0:=Go.Proofs.Tryz.zeroValue0
  t3:=Go.Proofs.Tryz.underlying3
  a3:=Go.Proofs.Tryz.isAgg3
  z3:=Go.Proofs.Tryz.sizeOf3
  v3:=Go.Proofs.Tryz.zeroValue3
  t4:=Go.Proofs.Tryz.underlying4
  a4:=Go.Proofs.Tryz.isAgg4
  z4:=Go.Proofs.Tryz.sizeOf4
  v4:=Go.Proofs.Tryz.zeroValue4
  t22:=Go.Proofs.Tryz.underlying28
  a22:=Go.Proofs.Tryz.isAgg28
  z22:=Go.Proofs.Tryz.sizeOf28
  v22:=Go.Proofs.Tryz.zeroValue28
  z23:=Go.Proofs.Tryz.sizeOf93
  v23:=Go.Proofs.Tryz.zeroValue93
  i23:=by kernel_rfl
  zs:=rfl
  z1:=rfl }
def Cl:PF:=⟨[(.own,.sl 93 (.pair .i64 (.sl 5 .u8))),(.rd,.i64),(.rd,.i64)],[.sl 93 (.pair .i64 (.sl 5 .u8))],.uniq,dL⟩
theorem ac0:Kx Go.Proofs.Tryz.prog GLB 116 Cl:=aeQ (T:=93) (e:=(.pair .i64 (.sl 5 .u8))) (ρ:=xy) VY (Go.Proofs.enters_of Go.Proofs.Tryz.func116 (by kernel_rfl) rfl)
theorem glb_apart {W:World} (h:GLB.G W) : ∀ b∈GLB.gb,b<W.heap.size∧b∉([]++[]:List Nat):=by
  intro b hb
  refine⟨?_,by simp⟩
  simp only[GLB,List.mem_cons,List.not_mem_nil,or_false] at hb
  rcases hb with rfl|rfl
  · obtain⟨m,hm⟩:=h.1
    exact World.block_lt_of_cell? _ _ hm
  · have h2:=h.2
    simp only[Lib.TabIs,World.var?,gPow_ok,Option.bind_some] at h2
    cases hh:W.heap[fW]? with
    | none=>rw[hh] at h2; cases h2
    | some o=>exact Z0 hh
end G448

