/- The kit's contracts of library functions at this program (laid by the kit's own tool), as the evaluator takes them. (Printed by our own program.) -/
import Derived.Test.YtppjgjdlnikigaaGreatDoorProg
import Derived.Test.YtppjgjdlnikigaaGreatDoorLibH
import Derived.KernelRfl
import Derived.Shelf.LaysM
import Derived.Shelf.Strconv.Itoa3
import Derived.Shelf.Strings.Builder1
import Derived.Shelf.Strings.Builder2
import Derived.Shelf.Strings.Cut
import Derived.Shelf.Strings.LastIndex
import Derived.Shelf.Strings.OnBuilder
import Derived.Shelf.Strings.Shaped
import Derived.Shelf.Strings.Split
set_option linter.unusedSimpArgs false
set_option linter.unusedVariables false

namespace Go.Proofs
open Go.Shelf
def Tryz.lays156_ren:Go.Shelf.Ren:=⟨fun|156=>288|165=>300|166=>301|169=>302|240=>320|241=>321|276=>341|277=>342|n=>n,fun|31=>183|9=>9|3=>3|4=>4|0=>0|20=>20|72=>261|76=>265|70=>259|37=>22|75=>264|127=>273|164=>295|5=>5|80=>203|n=>n,fun|n=>n⟩
theorem Tryz.lays156:Go.Proofs.Lays.n156 Tryz.prog Tryz.lays156_ren:={
  mixed:=by kernel_rfl
  f156:=Tryz.func288.trans (congrArg some (by kernel_rfl))
  f165:=Tryz.func300.trans (congrArg some (by kernel_rfl))
  f166:=Tryz.func301.trans (congrArg some (by kernel_rfl))
  f169:=Tryz.func302.trans (congrArg some (by kernel_rfl))
  f240:=Tryz.func320.trans (congrArg some (by kernel_rfl))
  f241:=Tryz.func321.trans (congrArg some (by kernel_rfl))
  f276:=Tryz.func341.trans (congrArg some (by kernel_rfl))
  f277:=Tryz.func342.trans (congrArg some (by kernel_rfl))
  t0:=Tryz.underlying0
  a0:=Tryz.isAgg0
  z0:=Tryz.sizeOf0
  v0:=Tryz.zeroValue0
  t3:=Tryz.underlying3
  a3:=Tryz.isAgg3
  z3:=Tryz.sizeOf3
  v3:=Tryz.zeroValue3
  t4:=Tryz.underlying4
  a4:=Tryz.isAgg4
  z4:=Tryz.sizeOf4
  v4:=Tryz.zeroValue4
  t9:=Tryz.underlying9
  a9:=Tryz.isAgg9
  z9:=Tryz.sizeOf9
  v9:=Tryz.zeroValue9
  t20:=Tryz.underlying20
  a20:=Tryz.isAgg20
  z20:=Tryz.sizeOf20
  v20:=Tryz.zeroValue20
  t31:=Tryz.underlying183
  a31:=Tryz.isAgg183
  z31:=Tryz.sizeOf183
  v31:=Tryz.zeroValue183
  t37:=Tryz.underlying22
  a37:=Tryz.isAgg22
  z37:=Tryz.sizeOf22
  v37:=Tryz.zeroValue22
  t70:=Tryz.underlying259
  a70:=Tryz.isAgg259
  z70:=Tryz.sizeOf259
  v70:=Tryz.zeroValue259
  t72:=Tryz.underlying261
  a72:=Tryz.isAgg261
  z72:=Tryz.sizeOf261
  v72:=Tryz.zeroValue261
  t75:=Tryz.underlying264
  a75:=Tryz.isAgg264
  z75:=Tryz.sizeOf264
  v75:=Tryz.zeroValue264
  t76:=Tryz.underlying265
  a76:=Tryz.isAgg265
  z76:=Tryz.sizeOf265
  v76:=Tryz.zeroValue265
  t127:=Tryz.underlying273
  a127:=Tryz.isAgg273
  z127:=Tryz.sizeOf273
  v127:=Tryz.zeroValue273
  t164:=Tryz.underlying295
  a164:=Tryz.isAgg295
  z164:=Tryz.sizeOf295
  v164:=Tryz.zeroValue295 }
theorem Tryz.Builder_Extra_156:Builder.Extra Tryz.prog Tryz.lays156_ren:={
  sizeBuilder:=by kernel_rfl
  liesBuilder:=by kernel_rfl
  t5:=Tryz.underlying5
  a5:=Tryz.isAgg5
  z5:=Tryz.sizeOf5
  v5:=Tryz.zeroValue5
  infoByte:=by kernel_rfl
  cellsByte:=by kernel_rfl
  sizeByte:=by kernel_rfl
  neB5:=by decide }
open Go.RowKit in
theorem Tryz.strings_Join_none (a:Option Addr) (c:Nat) (sep:ByteArray) (w:World) :
    Calls Tryz.prog 288 #[.slice a 0 c,.string sep] w fun e w'=>e = .returned (.string ⟨#[]⟩)∧w'=w:=Any.strings_Join_none Tryz.lays156 Tryz.Builder_Extra_156 a c sep w
open Go.RowKit in
theorem Tryz.strings_Join (bk o c:Nat) (xs:List ByteArray) (sep:ByteArray) (w:World) (hcells : ∀ (j:Nat) x,xs[j]?=some x→w.cell? ⟨bk,o+j,none⟩=some (.string x)) (hbk:bk<w.heap.size) (hN:xs.length≤140737488355328) (hcap:xs.length≤c) (hlen:(Lib.join (xs.map (·.data.toList)) sep.data.toList).length≤140737488355328) :
    Calls Tryz.prog 288 #[.slice (some ⟨bk,o,none⟩) xs.length c,.string sep] w fun e w'=>e = .returned (.string ⟨(Lib.join (xs.map (·.data.toList)) sep.data.toList).toArray⟩)∧Below w.heap.size w w':=Any.strings_Join Tryz.lays156 Tryz.Builder_Extra_156 bk o c xs sep w hcells hbk hN hcap hlen
def Tryz.laysM171_ren:Go.Shelf.Ren:=⟨fun|171=>286|243=>299|246=>319|283=>337|284=>338|285=>339|286=>340|129=>353|317=>352|318=>354|319=>355|320=>356|337=>365|338=>366|n=>n,fun|3=>3|9=>9|2=>2|4=>4|171=>289|0=>0|53=>290|37=>22|5=>5|173=>293|212=>303|51=>276|20=>20|213=>304|46=>214|232=>318|233=>319|n=>n,fun|17=>1|18=>4|19=>5|n=>n⟩
theorem Tryz.laysM171:Go.Proofs.LaysM.n171 Tryz.prog Tryz.laysM171_ren:={
  mixed:=by kernel_rfl
  f129:=Tryz.func353.trans (congrArg some (by kernel_rfl))
  f171:=Tryz.func286.trans (congrArg some (by kernel_rfl))
  f243:=Tryz.func299.trans (congrArg some (by kernel_rfl))
  f246:=Tryz.func319.trans (congrArg some (by kernel_rfl))
  f283:=Tryz.func337.trans (congrArg some (by kernel_rfl))
  f284:=Tryz.func338.trans (congrArg some (by kernel_rfl))
  f285:=Tryz.func339.trans (congrArg some (by kernel_rfl))
  f286:=Tryz.func340.trans (congrArg some (by kernel_rfl))
  f317:=Tryz.func352.trans (congrArg some (by kernel_rfl))
  f318:=Tryz.func354.trans (congrArg some (by kernel_rfl))
  f319:=Tryz.func355.trans (congrArg some (by kernel_rfl))
  f320:=Tryz.func356.trans (congrArg some (by kernel_rfl))
  f337:=Tryz.func365.trans (congrArg some (by kernel_rfl))
  f338:=Tryz.func366.trans (congrArg some (by kernel_rfl))
  t0:=Tryz.underlying0
  a0:=Tryz.isAgg0
  z0:=Tryz.sizeOf0
  v0:=Tryz.zeroValue0
  t2:=Tryz.underlying2
  a2:=Tryz.isAgg2
  z2:=Tryz.sizeOf2
  v2:=Tryz.zeroValue2
  t3:=Tryz.underlying3
  a3:=Tryz.isAgg3
  z3:=Tryz.sizeOf3
  v3:=Tryz.zeroValue3
  t4:=Tryz.underlying4
  a4:=Tryz.isAgg4
  z4:=Tryz.sizeOf4
  v4:=Tryz.zeroValue4
  t5:=Tryz.underlying5
  a5:=Tryz.isAgg5
  z5:=Tryz.sizeOf5
  v5:=Tryz.zeroValue5
  t9:=Tryz.underlying9
  a9:=Tryz.isAgg9
  z9:=Tryz.sizeOf9
  v9:=Tryz.zeroValue9
  t20:=Tryz.underlying20
  a20:=Tryz.isAgg20
  z20:=Tryz.sizeOf20
  v20:=Tryz.zeroValue20
  t37:=Tryz.underlying22
  a37:=Tryz.isAgg22
  z37:=Tryz.sizeOf22
  v37:=Tryz.zeroValue22
  t46:=Tryz.underlying214
  a46:=Tryz.isAgg214
  z46:=Tryz.sizeOf214
  v46:=Tryz.zeroValue214
  t51:=Tryz.underlying276
  a51:=Tryz.isAgg276
  z51:=Tryz.sizeOf276
  v51:=Tryz.zeroValue276
  t53:=Tryz.underlying290
  a53:=Tryz.isAgg290
  z53:=Tryz.sizeOf290
  v53:=Tryz.zeroValue290
  t171:=Tryz.underlying289
  a171:=Tryz.isAgg289
  z171:=Tryz.sizeOf289
  v171:=Tryz.zeroValue289
  t173:=Tryz.underlying293
  a173:=Tryz.isAgg293
  z173:=Tryz.sizeOf293
  v173:=Tryz.zeroValue293
  t212:=Tryz.underlying303
  a212:=Tryz.isAgg303
  z212:=Tryz.sizeOf303
  v212:=Tryz.zeroValue303
  t213:=Tryz.underlying304
  a213:=Tryz.isAgg304
  z213:=Tryz.sizeOf304
  t232:=Tryz.underlying318
  a232:=Tryz.isAgg318
  z232:=Tryz.sizeOf318
  v232:=Tryz.zeroValue318
  t233:=Tryz.underlying319
  a233:=Tryz.isAgg319
  z233:=Tryz.sizeOf319
  v233:=Tryz.zeroValue319
  g17:=by kernel_rfl
  g18:=by kernel_rfl
  g19:=by kernel_rfl
  i0:=by kernel_rfl
  i2:=by kernel_rfl
  i3:=by kernel_rfl
  i4:=by kernel_rfl
  i5:=by kernel_rfl
  i9:=by kernel_rfl
  i20:=by kernel_rfl
  i37:=by kernel_rfl
  i46:=by kernel_rfl
  i51:=by kernel_rfl
  i53:=by kernel_rfl
  i171:=by kernel_rfl
  i173:=by kernel_rfl
  i212:=by kernel_rfl
  i232:=by kernel_rfl
  i233:=by kernel_rfl
  m17:=by kernel_rfl
  m18:=by kernel_rfl
  m19:=by kernel_rfl }
open Go.RowKit Go.Sort Go.Lib in
theorem Tryz.strconv_Itoa (n:Int) (h0 : -9223372036854775808≤n) (h1:n≤9223372036854775807) (w:World) (htab:Lib.TabIs Go.Proofs.Tryz.prog w "internal/strconv.uint64pow10" .u64 Lib.pow10Tab) :
    Calls Tryz.prog 286 #[.int .i64 n] w fun e w'=>e = .returned (.string ⟨(Lib.itoa n).toArray⟩) ∧ ∃ k os,w'=grow (w.drewN k) os:=Any.strconv_Itoa Tryz.laysM171 n h0 h1 w htab
def Tryz.lays145_ren:Go.Shelf.Ren:=⟨fun|145=>200|220=>261|219=>290|217=>306|225=>307|224=>308|267=>309|266=>325|314=>326|n=>n,fun|9=>9|4=>4|59=>185|3=>3|5=>5|46=>214|146=>277|51=>276|n=>n,fun|1=>0|n=>n⟩
theorem Tryz.lays145:Go.Proofs.Lays.n145 Tryz.prog Tryz.lays145_ren:={
  mixed:=by kernel_rfl
  f145:=Tryz.func200.trans (congrArg some (by kernel_rfl))
  f217:=Tryz.func306.trans (congrArg some (by kernel_rfl))
  f219:=Tryz.func290.trans (congrArg some (by kernel_rfl))
  f220:=Tryz.func261.trans (congrArg some (by kernel_rfl))
  f224:=Tryz.func308.trans (congrArg some (by kernel_rfl))
  f225:=Tryz.func307.trans (congrArg some (by kernel_rfl))
  f266:=Tryz.func325.trans (congrArg some (by kernel_rfl))
  f267:=Tryz.func309.trans (congrArg some (by kernel_rfl))
  f314:=Tryz.func326.trans (congrArg some (by kernel_rfl))
  t3:=Tryz.underlying3
  a3:=Tryz.isAgg3
  z3:=Tryz.sizeOf3
  v3:=Tryz.zeroValue3
  t4:=Tryz.underlying4
  a4:=Tryz.isAgg4
  z4:=Tryz.sizeOf4
  v4:=Tryz.zeroValue4
  t5:=Tryz.underlying5
  a5:=Tryz.isAgg5
  z5:=Tryz.sizeOf5
  v5:=Tryz.zeroValue5
  t9:=Tryz.underlying9
  a9:=Tryz.isAgg9
  z9:=Tryz.sizeOf9
  v9:=Tryz.zeroValue9
  t46:=Tryz.underlying214
  a46:=Tryz.isAgg214
  z46:=Tryz.sizeOf214
  v46:=Tryz.zeroValue214
  t51:=Tryz.underlying276
  a51:=Tryz.isAgg276
  z51:=Tryz.sizeOf276
  v51:=Tryz.zeroValue276
  t59:=Tryz.underlying185
  a59:=Tryz.isAgg185
  z59:=Tryz.sizeOf185
  v59:=Tryz.zeroValue185
  t146:=Tryz.underlying277
  a146:=Tryz.isAgg277
  z146:=Tryz.sizeOf277
  v146:=Tryz.zeroValue277
  g1:=by kernel_rfl }
open Go.RowKit Go.Lib in
theorem Tryz.strings_Cut (s sep:ByteArray) (m:Int) (w:World) (hs:s.size<4294967281) (hm:w.cell? ⟨0,0,none⟩=some (.int .i64 m)) :
    Calls Tryz.prog 200 #[.string s,.string sep] w fun e w'=>e = .returned (.tuple #[.string ⟨(Lib.cut s.data.toList sep.data.toList).1.toArray⟩,.string ⟨(Lib.cut s.data.toList sep.data.toList).2.1.toArray⟩,.bool (Lib.cut s.data.toList sep.data.toList).2.2]) ∧ ∃ n,w'=w.drewN n:=Any.strings_Cut Tryz.lays145 s sep m w hs hm
def Tryz.lays149_ren:Go.Shelf.Ren:=⟨fun|149=>198|222=>259|n=>n,fun|9=>9|5=>5|3=>3|4=>4|n=>n,fun|n=>n⟩
theorem Tryz.lays149:Go.Proofs.Lays.n149 Tryz.prog Tryz.lays149_ren:={
  mixed:=by kernel_rfl
  f149:=Tryz.func198.trans (congrArg some (by kernel_rfl))
  f222:=Tryz.func259.trans (congrArg some (by kernel_rfl))
  t3:=Tryz.underlying3
  a3:=Tryz.isAgg3
  z3:=Tryz.sizeOf3
  v3:=Tryz.zeroValue3
  t4:=Tryz.underlying4
  a4:=Tryz.isAgg4
  z4:=Tryz.sizeOf4
  v4:=Tryz.zeroValue4
  t5:=Tryz.underlying5
  a5:=Tryz.isAgg5
  z5:=Tryz.sizeOf5
  v5:=Tryz.zeroValue5
  t9:=Tryz.underlying9
  a9:=Tryz.isAgg9
  z9:=Tryz.sizeOf9
  v9:=Tryz.zeroValue9 }
open Go.RowKit Go.Lib in
theorem Tryz.strings_LastIndexByte (s:ByteArray) (c:Int) (hs:s.size<4611686018427387904) (w:World) :
    Calls Tryz.prog 198 #[.string s,.int .u8 c] w fun e w'=>e = .returned (.int .i64 (Lib.lastIndexByte s c))∧w'=w:=Any.strings_LastIndexByte Tryz.lays149 s c hs w
def Tryz.lays146_ren:Go.Shelf.Ren:=⟨fun|146=>260|221=>289|268=>303|138=>304|143=>305|195=>322|197=>323|218=>324|219=>290|260=>343|217=>306|225=>307|224=>308|267=>309|266=>325|314=>326|n=>n,fun|9=>9|31=>183|3=>3|4=>4|0=>0|105=>274|21=>21|5=>5|46=>214|119=>306|139=>309|138=>308|146=>277|51=>276|n=>n,fun|1=>0|3=>2|4=>3|n=>n⟩
theorem Tryz.lays146:Go.Proofs.Lays.n146 Tryz.prog Tryz.lays146_ren:={
  mixed:=by kernel_rfl
  f138:=Tryz.func304.trans (congrArg some (by kernel_rfl))
  f143:=Tryz.func305.trans (congrArg some (by kernel_rfl))
  f146:=Tryz.func260.trans (congrArg some (by kernel_rfl))
  f195:=Tryz.func322.trans (congrArg some (by kernel_rfl))
  f197:=Tryz.func323.trans (congrArg some (by kernel_rfl))
  f217:=Tryz.func306.trans (congrArg some (by kernel_rfl))
  f218:=Tryz.func324.trans (congrArg some (by kernel_rfl))
  f219:=Tryz.func290.trans (congrArg some (by kernel_rfl))
  f221:=Tryz.func289.trans (congrArg some (by kernel_rfl))
  f224:=Tryz.func308.trans (congrArg some (by kernel_rfl))
  f225:=Tryz.func307.trans (congrArg some (by kernel_rfl))
  f260:=Tryz.func343.trans (congrArg some (by kernel_rfl))
  f266:=Tryz.func325.trans (congrArg some (by kernel_rfl))
  f267:=Tryz.func309.trans (congrArg some (by kernel_rfl))
  f268:=Tryz.func303.trans (congrArg some (by kernel_rfl))
  f314:=Tryz.func326.trans (congrArg some (by kernel_rfl))
  t0:=Tryz.underlying0
  a0:=Tryz.isAgg0
  z0:=Tryz.sizeOf0
  v0:=Tryz.zeroValue0
  t3:=Tryz.underlying3
  a3:=Tryz.isAgg3
  z3:=Tryz.sizeOf3
  v3:=Tryz.zeroValue3
  t4:=Tryz.underlying4
  a4:=Tryz.isAgg4
  z4:=Tryz.sizeOf4
  v4:=Tryz.zeroValue4
  t5:=Tryz.underlying5
  a5:=Tryz.isAgg5
  z5:=Tryz.sizeOf5
  v5:=Tryz.zeroValue5
  t9:=Tryz.underlying9
  a9:=Tryz.isAgg9
  z9:=Tryz.sizeOf9
  v9:=Tryz.zeroValue9
  t21:=Tryz.underlying21
  a21:=Tryz.isAgg21
  z21:=Tryz.sizeOf21
  v21:=Tryz.zeroValue21
  t31:=Tryz.underlying183
  a31:=Tryz.isAgg183
  z31:=Tryz.sizeOf183
  v31:=Tryz.zeroValue183
  t46:=Tryz.underlying214
  a46:=Tryz.isAgg214
  z46:=Tryz.sizeOf214
  v46:=Tryz.zeroValue214
  t51:=Tryz.underlying276
  a51:=Tryz.isAgg276
  z51:=Tryz.sizeOf276
  v51:=Tryz.zeroValue276
  t105:=Tryz.underlying274
  a105:=Tryz.isAgg274
  z105:=Tryz.sizeOf274
  v105:=Tryz.zeroValue274
  t119:=Tryz.underlying306
  a119:=Tryz.isAgg306
  z119:=Tryz.sizeOf306
  t138:=Tryz.underlying308
  a138:=Tryz.isAgg308
  z138:=Tryz.sizeOf308
  v138:=Tryz.zeroValue308
  t139:=Tryz.underlying309
  a139:=Tryz.isAgg309
  z139:=Tryz.sizeOf309
  v139:=Tryz.zeroValue309
  t146:=Tryz.underlying277
  a146:=Tryz.isAgg277
  z146:=Tryz.sizeOf277
  v146:=Tryz.zeroValue277
  g1:=by kernel_rfl
  g3:=by kernel_rfl
  g4:=by kernel_rfl }
open Go.RowKit Go.Lib in
theorem Tryz.strings_Split (s sep:ByteArray) (m:Int) (w:World) (hs:s.size<4294967281) (hm:w.cell? ⟨0,0,none⟩=some (.int .i64 m)) (h1:1≤sep.size) :
    Calls Tryz.prog 260 #[.string s,.string sep] w fun e w'=>
      e = .returned (.slice (some ⟨w.heap.size,0,none⟩) (Lib.countB s sep+1) (Lib.countB s sep+1))∧w'=w.alloc (.cells ((Lib.splitB sep 0 (Lib.countB s sep) s).map Value.string).toArray 9):=Any.strings_Split Tryz.lays146 (by kernel_rfl) s sep m w hs hm h1
end Go.Proofs

namespace G448
open Ev Go Go.RowKit
set_option linter.unusedVariables false
set_option maxRecDepth 100000

/-- The type whose rows are whole: posts. -/
instance tagsI:Ev.Tags:=⟨102⟩
noncomputable def c8:Nat:=match Go.Proofs.Tryz.prog.globalNamed "internal/strconv.uint64pow10" with|some g=>g|none=>0
theorem gPow_ok:Go.Proofs.Tryz.prog.globalNamed "internal/strconv.uint64pow10" = some c8:=by kernel_rfl
/-- The library's tables that are read. -/
noncomputable def GLB:Glob where
  gb:=[0,c8]
  G:=fun w=>(∃ m,w.cell? ⟨0,0,none⟩=some (.int .i64 m))∧Lib.TabIs Go.Proofs.Tryz.prog w "internal/strconv.uint64pow10" .u64 Lib.pow10Tab
  frame:=by
    rintro w w' h hb
    obtain⟨h0,h1⟩:=h
    refine⟨?_,?_⟩
    · obtain⟨m,hm⟩:=h0
      refine⟨m,?_⟩
      have e:=hb 0 (by simp)
      simp only[World.cell?] at hm ⊢
      rw[e]; exact hm
    · have e:=hb c8 (by simp)
      have h:=h1
      simp only[Lib.TabIs,World.var?,gPow_ok,Option.bind_some] at h ⊢
      rw[e]; exact h
def AA:PF:=⟨[(.rd,.i64)],[.str],.uniq,strconv_Itoa⟩
theorem Xh:Sound Go.Proofs.Tryz.prog GLB 286 AA:=aaC (T:=fun w=>Lib.TabIs Go.Proofs.Tryz.prog w "internal/strconv.uint64pow10" .u64 Lib.pow10Tab) (Go.Proofs.enters_of Go.Proofs.Tryz.func286 (by kernel_rfl) rfl) (fun w h=>h.2) (fun n h0 h1 w ht=>Go.Proofs.Tryz.strconv_Itoa n h0 h1 w ht)
def oD:PF:=⟨[(.rd,.str),(.rd,.str)],[.str,.str,.bool],.uniq,strings_Cut⟩
theorem Cf:Sound Go.Proofs.Tryz.prog GLB 200 oD:=aas (Go.Proofs.enters_of Go.Proofs.Tryz.func200 (by kernel_rfl) rfl) (fun w h=>h.1) (fun s sep m w hs hm=>Go.Proofs.Tryz.strings_Cut s sep m w hs hm)
def U7:PF:=⟨[(.rd,.sl 9 .str),(.rd,.str)],[.str],.uniq,strings_Join⟩
theorem acy:Sound Go.Proofs.Tryz.prog GLB 288 U7:=aaD (Go.Proofs.enters_of Go.Proofs.Tryz.func288 (by kernel_rfl) rfl) (fun a c sep w=>Go.Proofs.Tryz.strings_Join_none a c sep w) (fun bk o c xs sep w h1 h2 h3 h4 h5=>Go.Proofs.Tryz.strings_Join bk o c xs sep w h1 h2 h3 h4 h5)
def xL:PF:=⟨[(.rd,.str),(.rd,.u8)],[.i64],.uniq,strings_LastIndexByte⟩
theorem Wy:Sound Go.Proofs.Tryz.prog GLB 198 xL:=aaF (Go.Proofs.enters_of Go.Proofs.Tryz.func198 (by kernel_rfl) rfl) Go.Proofs.Tryz.strings_LastIndexByte
def Al:PF:=⟨[(.rd,.str),(.rd,.str)],[.sl 9 .str],.uniq,strings_Split⟩
theorem W2:Sound Go.Proofs.Tryz.prog GLB 260 Al:=aaU (by decide) (Go.Proofs.enters_of Go.Proofs.Tryz.func260 (by kernel_rfl) rfl) (fun w h=>h.1) (fun s sep m w hs hm h1=>Go.Proofs.Tryz.strings_Split s sep m w hs hm h1)
def vx:Go.Shelf.Ren:=⟨fun|22=>190|29=>253|30=>254|n=>n,fun|9=>58|24=>32|n=>n,fun n=>n⟩
theorem S4:J7 Go.Proofs.Tryz.prog vx 3 #[.int .i64 0,.string ⟨#[]⟩,.slice none 0 0] 48:={
  mixed:=by kernel_rfl
  f22:=⟨ "slices.Insert[[]loop.example/g00448/impl.Part,loop.example/g00448/impl.Part]", Go.Proofs.Tryz.func190.trans (congrArg some (by kernel_rfl))⟩
  ov:=fun args w=>Go.run_callFunc_extern Go.Proofs.Tryz.func253 (by kernel_rfl) (by kernel_rfl) (by kernel_rfl) (by kernel_rfl) args w
  t0:=Go.Proofs.Tryz.underlying0
  a0:=Go.Proofs.Tryz.isAgg0
  z0:=Go.Proofs.Tryz.sizeOf0
  v0:=Go.Proofs.Tryz.zeroValue0
  t3:=Go.Proofs.Tryz.underlying3
  a3:=Go.Proofs.Tryz.isAgg3
  z3:=Go.Proofs.Tryz.sizeOf3
  v3:=Go.Proofs.Tryz.zeroValue3
  t4:=Go.Proofs.Tryz.underlying4
  a4:=Go.Proofs.Tryz.isAgg4
  z4:=Go.Proofs.Tryz.sizeOf4
  v4:=Go.Proofs.Tryz.zeroValue4
  z9:=Go.Proofs.Tryz.sizeOf58
  t24:=Go.Proofs.Tryz.underlying32
  a24:=Go.Proofs.Tryz.isAgg32
  z24:=Go.Proofs.Tryz.sizeOf32
  v24:=Go.Proofs.Tryz.zeroValue32
  i9:=by kernel_rfl }
def U6:PF:=⟨[(.own,.sl 58 (.pair .i64 (.pair .str (.sl 3 .i64)))),(.rd,.i64),(.own,.sl 58 (.pair .i64 (.pair .str (.sl 3 .i64))))],[.sl 58 (.pair .i64 (.pair .str (.sl 3 .i64)))],.own,aae⟩
theorem acx:KU Go.Proofs.Tryz.prog GLB 190 U6:=aag (T:=58) (e:=(.pair .i64 (.pair .str (.sl 3 .i64)))) (ρ:=vx) S4 (Go.Proofs.enters_of Go.Proofs.Tryz.func190 (by kernel_rfl) rfl) rfl (by decide) ⟨by decide,by decide⟩
def vy:Go.Shelf.Ren:=⟨fun|22=>297|29=>317|30=>318|n=>n,fun|9=>3|24=>26|n=>n,fun n=>n⟩
theorem S5:J7 Go.Proofs.Tryz.prog vy 1 #[.int .i64 0] 8:={
  mixed:=by kernel_rfl
  f22:=⟨ "slices.Insert[[]int,int]", Go.Proofs.Tryz.func297.trans (congrArg some (by kernel_rfl))⟩
  ov:=fun args w=>Go.run_callFunc_extern Go.Proofs.Tryz.func317 (by kernel_rfl) (by kernel_rfl) (by kernel_rfl) (by kernel_rfl) args w
  t0:=Go.Proofs.Tryz.underlying0
  a0:=Go.Proofs.Tryz.isAgg0
  z0:=Go.Proofs.Tryz.sizeOf0
  v0:=Go.Proofs.Tryz.zeroValue0
  t3:=Go.Proofs.Tryz.underlying3
  a3:=Go.Proofs.Tryz.isAgg3
  z3:=Go.Proofs.Tryz.sizeOf3
  v3:=Go.Proofs.Tryz.zeroValue3
  t4:=Go.Proofs.Tryz.underlying4
  a4:=Go.Proofs.Tryz.isAgg4
  z4:=Go.Proofs.Tryz.sizeOf4
  v4:=Go.Proofs.Tryz.zeroValue4
  z9:=Go.Proofs.Tryz.sizeOf3
  t24:=Go.Proofs.Tryz.underlying26
  a24:=Go.Proofs.Tryz.isAgg26
  z24:=Go.Proofs.Tryz.sizeOf26
  v24:=Go.Proofs.Tryz.zeroValue26
  i9:=by kernel_rfl }
def U8:PF:=⟨[(.own,.sl 3 .i64),(.rd,.i64),(.own,.sl 3 .i64)],[.sl 3 .i64],.uniq,aaf⟩
theorem acz:Sound Go.Proofs.Tryz.prog GLB 297 U8:=aaB (T:=3) (e:=.i64) (ρ:=vy) S5 (Go.Proofs.enters_of Go.Proofs.Tryz.func297 (by kernel_rfl) rfl) rfl (by decide) ⟨by decide,by decide⟩ (.inr ⟨rfl,rfl⟩)
theorem glb_apart {W:World} (h:GLB.G W) : ∀ b∈GLB.gb,b<W.heap.size∧b∉([]++[]:List Nat):=by
  intro b hb
  refine⟨?_,by simp⟩
  simp only[GLB,List.mem_cons,List.not_mem_nil,or_false] at hb
  rcases hb with rfl|rfl
  · obtain⟨m,hm⟩:=h.1
    exact World.block_lt_of_cell? _ _ hm
  · have h2:=h.2
    simp only[Lib.TabIs,World.var?,gPow_ok,Option.bind_some] at h2
    cases hh:W.heap[c8]? with
    | none=>rw[hh] at h2; cases h2
    | some o=>exact ZE hh
end G448

