/- The kit's contracts of library functions at this program (laid by the kit's own tool), as the evaluator takes them. (Printed by our own program.) -/
import Derived.Test.YtbpajdecanoolaaGreatDoorProg
import Derived.Test.YtbpajdecanoolaaGreatDoorLibH
import Derived.KernelRfl
import Derived.Shelf.LaysM
import Derived.Shelf.Strconv.Itoa3
import Derived.Shelf.Strings.Builder1
import Derived.Shelf.Strings.Builder2
import Derived.Shelf.Strings.Cut
import Derived.Shelf.Strings.LastIndex
import Derived.Shelf.Strings.OnBuilder
import Derived.Shelf.Strings.Shaped
import Derived.Shelf.Strings.Split
set_option linter.unusedSimpArgs false
set_option linter.unusedVariables false

namespace Go.Proofs
open Go.Shelf
def Tryz.lays156_ren:Go.Shelf.Ren:=⟨fun|156=>77|165=>148|166=>149|169=>150|240=>216|241=>217|276=>265|277=>266|n=>n,fun|31=>124|9=>9|3=>3|4=>4|0=>0|20=>20|72=>185|76=>189|70=>183|37=>22|75=>188|127=>230|164=>261|5=>5|80=>172|n=>n,fun|n=>n⟩
theorem Tryz.lays156:Go.Proofs.Lays.n156 Tryz.prog Tryz.lays156_ren:={
  mixed:=by kernel_rfl
  f156:=Tryz.func77.trans (congrArg some (by kernel_rfl))
  f165:=Tryz.func148.trans (congrArg some (by kernel_rfl))
  f166:=Tryz.func149.trans (congrArg some (by kernel_rfl))
  f169:=Tryz.func150.trans (congrArg some (by kernel_rfl))
  f240:=Tryz.func216.trans (congrArg some (by kernel_rfl))
  f241:=Tryz.func217.trans (congrArg some (by kernel_rfl))
  f276:=Tryz.func265.trans (congrArg some (by kernel_rfl))
  f277:=Tryz.func266.trans (congrArg some (by kernel_rfl))
  t0:=Tryz.underlying0
  a0:=Tryz.isAgg0
  z0:=Tryz.sizeOf0
  v0:=Tryz.zeroValue0
  t3:=Tryz.underlying3
  a3:=Tryz.isAgg3
  z3:=Tryz.sizeOf3
  v3:=Tryz.zeroValue3
  t4:=Tryz.underlying4
  a4:=Tryz.isAgg4
  z4:=Tryz.sizeOf4
  v4:=Tryz.zeroValue4
  t9:=Tryz.underlying9
  a9:=Tryz.isAgg9
  z9:=Tryz.sizeOf9
  v9:=Tryz.zeroValue9
  t20:=Tryz.underlying20
  a20:=Tryz.isAgg20
  z20:=Tryz.sizeOf20
  v20:=Tryz.zeroValue20
  t31:=Tryz.underlying124
  a31:=Tryz.isAgg124
  z31:=Tryz.sizeOf124
  v31:=Tryz.zeroValue124
  t37:=Tryz.underlying22
  a37:=Tryz.isAgg22
  z37:=Tryz.sizeOf22
  v37:=Tryz.zeroValue22
  t70:=Tryz.underlying183
  a70:=Tryz.isAgg183
  z70:=Tryz.sizeOf183
  v70:=Tryz.zeroValue183
  t72:=Tryz.underlying185
  a72:=Tryz.isAgg185
  z72:=Tryz.sizeOf185
  v72:=Tryz.zeroValue185
  t75:=Tryz.underlying188
  a75:=Tryz.isAgg188
  z75:=Tryz.sizeOf188
  v75:=Tryz.zeroValue188
  t76:=Tryz.underlying189
  a76:=Tryz.isAgg189
  z76:=Tryz.sizeOf189
  v76:=Tryz.zeroValue189
  t127:=Tryz.underlying230
  a127:=Tryz.isAgg230
  z127:=Tryz.sizeOf230
  v127:=Tryz.zeroValue230
  t164:=Tryz.underlying261
  a164:=Tryz.isAgg261
  z164:=Tryz.sizeOf261
  v164:=Tryz.zeroValue261 }
theorem Tryz.Builder_Extra_156:Builder.Extra Tryz.prog Tryz.lays156_ren:={
  sizeBuilder:=by kernel_rfl
  liesBuilder:=by kernel_rfl
  t5:=Tryz.underlying5
  a5:=Tryz.isAgg5
  z5:=Tryz.sizeOf5
  v5:=Tryz.zeroValue5
  infoByte:=by kernel_rfl
  cellsByte:=by kernel_rfl
  sizeByte:=by kernel_rfl
  neB5:=by decide }
open Go.RowKit in
theorem Tryz.strings_Join_none (a:Option Addr) (c:Nat) (sep:ByteArray) (w:World) :
    Calls Tryz.prog 77 #[.slice a 0 c,.string sep] w fun e w'=>e = .returned (.string ⟨#[]⟩)∧w'=w:=Any.strings_Join_none Tryz.lays156 Tryz.Builder_Extra_156 a c sep w
open Go.RowKit in
theorem Tryz.strings_Join (abp o c:Nat) (xs:List ByteArray) (sep:ByteArray) (w:World) (hcells : ∀ (j:Nat) x,xs[j]?=some x→w.cell? ⟨abp,o+j,none⟩=some (.string x)) (hbk:abp<w.heap.size) (hN:xs.length≤140737488355328) (hcap:xs.length≤c) (hlen:(Lib.join (xs.map (·.data.toList)) sep.data.toList).length≤140737488355328) :
    Calls Tryz.prog 77 #[.slice (some ⟨abp,o,none⟩) xs.length c,.string sep] w fun e w'=>e = .returned (.string ⟨(Lib.join (xs.map (·.data.toList)) sep.data.toList).toArray⟩)∧Below w.heap.size w w':=Any.strings_Join Tryz.lays156 Tryz.Builder_Extra_156 abp o c xs sep w hcells hbk hN hcap hlen
def Tryz.laysM171_ren:Go.Shelf.Ren:=⟨fun|171=>75|243=>147|246=>215|283=>261|284=>262|285=>263|286=>264|129=>317|317=>316|318=>318|319=>319|320=>320|337=>345|338=>346|n=>n,fun|3=>3|9=>9|2=>2|4=>4|171=>255|0=>0|53=>256|37=>22|5=>5|173=>259|212=>284|51=>285|20=>20|213=>286|46=>165|232=>298|233=>299|n=>n,fun|17=>1|18=>2|19=>3|n=>n⟩
theorem Tryz.laysM171:Go.Proofs.LaysM.n171 Tryz.prog Tryz.laysM171_ren:={
  mixed:=by kernel_rfl
  f129:=Tryz.func317.trans (congrArg some (by kernel_rfl))
  f171:=Tryz.func75.trans (congrArg some (by kernel_rfl))
  f243:=Tryz.func147.trans (congrArg some (by kernel_rfl))
  f246:=Tryz.func215.trans (congrArg some (by kernel_rfl))
  f283:=Tryz.func261.trans (congrArg some (by kernel_rfl))
  f284:=Tryz.func262.trans (congrArg some (by kernel_rfl))
  f285:=Tryz.func263.trans (congrArg some (by kernel_rfl))
  f286:=Tryz.func264.trans (congrArg some (by kernel_rfl))
  f317:=Tryz.func316.trans (congrArg some (by kernel_rfl))
  f318:=Tryz.func318.trans (congrArg some (by kernel_rfl))
  f319:=Tryz.func319.trans (congrArg some (by kernel_rfl))
  f320:=Tryz.func320.trans (congrArg some (by kernel_rfl))
  f337:=Tryz.func345.trans (congrArg some (by kernel_rfl))
  f338:=Tryz.func346.trans (congrArg some (by kernel_rfl))
  t0:=Tryz.underlying0
  a0:=Tryz.isAgg0
  z0:=Tryz.sizeOf0
  v0:=Tryz.zeroValue0
  t2:=Tryz.underlying2
  a2:=Tryz.isAgg2
  z2:=Tryz.sizeOf2
  v2:=Tryz.zeroValue2
  t3:=Tryz.underlying3
  a3:=Tryz.isAgg3
  z3:=Tryz.sizeOf3
  v3:=Tryz.zeroValue3
  t4:=Tryz.underlying4
  a4:=Tryz.isAgg4
  z4:=Tryz.sizeOf4
  v4:=Tryz.zeroValue4
  t5:=Tryz.underlying5
  a5:=Tryz.isAgg5
  z5:=Tryz.sizeOf5
  v5:=Tryz.zeroValue5
  t9:=Tryz.underlying9
  a9:=Tryz.isAgg9
  z9:=Tryz.sizeOf9
  v9:=Tryz.zeroValue9
  t20:=Tryz.underlying20
  a20:=Tryz.isAgg20
  z20:=Tryz.sizeOf20
  v20:=Tryz.zeroValue20
  t37:=Tryz.underlying22
  a37:=Tryz.isAgg22
  z37:=Tryz.sizeOf22
  v37:=Tryz.zeroValue22
  t46:=Tryz.underlying165
  a46:=Tryz.isAgg165
  z46:=Tryz.sizeOf165
  v46:=Tryz.zeroValue165
  t51:=Tryz.underlying285
  a51:=Tryz.isAgg285
  z51:=Tryz.sizeOf285
  v51:=Tryz.zeroValue285
  t53:=Tryz.underlying256
  a53:=Tryz.isAgg256
  z53:=Tryz.sizeOf256
  v53:=Tryz.zeroValue256
  t171:=Tryz.underlying255
  a171:=Tryz.isAgg255
  z171:=Tryz.sizeOf255
  v171:=Tryz.zeroValue255
  t173:=Tryz.underlying259
  a173:=Tryz.isAgg259
  z173:=Tryz.sizeOf259
  v173:=Tryz.zeroValue259
  t212:=Tryz.underlying284
  a212:=Tryz.isAgg284
  z212:=Tryz.sizeOf284
  v212:=Tryz.zeroValue284
  t213:=Tryz.underlying286
  a213:=Tryz.isAgg286
  z213:=Tryz.sizeOf286
  t232:=Tryz.underlying298
  a232:=Tryz.isAgg298
  z232:=Tryz.sizeOf298
  v232:=Tryz.zeroValue298
  t233:=Tryz.underlying299
  a233:=Tryz.isAgg299
  z233:=Tryz.sizeOf299
  v233:=Tryz.zeroValue299
  g17:=by kernel_rfl
  g18:=by kernel_rfl
  g19:=by kernel_rfl
  i0:=by kernel_rfl
  i2:=by kernel_rfl
  i3:=by kernel_rfl
  i4:=by kernel_rfl
  i5:=by kernel_rfl
  i9:=by kernel_rfl
  i20:=by kernel_rfl
  i37:=by kernel_rfl
  i46:=by kernel_rfl
  i51:=by kernel_rfl
  i53:=by kernel_rfl
  i171:=by kernel_rfl
  i173:=by kernel_rfl
  i212:=by kernel_rfl
  i232:=by kernel_rfl
  i233:=by kernel_rfl
  m17:=by kernel_rfl
  m18:=by kernel_rfl
  m19:=by kernel_rfl }
open Go.RowKit Go.Sort Go.Lib in
theorem Tryz.strconv_Itoa (n:Int) (h0 : -9223372036854775808≤n) (h1:n≤9223372036854775807) (w:World) (htab:Lib.TabIs Go.Proofs.Tryz.prog w "internal/strconv.uint64pow10" .u64 Lib.pow10Tab) :
    Calls Tryz.prog 75 #[.int .i64 n] w fun e w'=>e = .returned (.string ⟨(Lib.itoa n).toArray⟩) ∧ ∃ k os,w'=grow (w.drewN k) os:=Any.strconv_Itoa Tryz.laysM171 n h0 h1 w htab
def Tryz.lays145_ren:Go.Shelf.Ren:=⟨fun|145=>79|220=>152|219=>219|217=>270|225=>271|224=>272|267=>273|266=>324|314=>325|n=>n,fun|9=>9|4=>4|59=>128|3=>3|5=>5|46=>165|146=>290|51=>285|n=>n,fun|1=>0|n=>n⟩
theorem Tryz.lays145:Go.Proofs.Lays.n145 Tryz.prog Tryz.lays145_ren:={
  mixed:=by kernel_rfl
  f145:=Tryz.func79.trans (congrArg some (by kernel_rfl))
  f217:=Tryz.func270.trans (congrArg some (by kernel_rfl))
  f219:=Tryz.func219.trans (congrArg some (by kernel_rfl))
  f220:=Tryz.func152.trans (congrArg some (by kernel_rfl))
  f224:=Tryz.func272.trans (congrArg some (by kernel_rfl))
  f225:=Tryz.func271.trans (congrArg some (by kernel_rfl))
  f266:=Tryz.func324.trans (congrArg some (by kernel_rfl))
  f267:=Tryz.func273.trans (congrArg some (by kernel_rfl))
  f314:=Tryz.func325.trans (congrArg some (by kernel_rfl))
  t3:=Tryz.underlying3
  a3:=Tryz.isAgg3
  z3:=Tryz.sizeOf3
  v3:=Tryz.zeroValue3
  t4:=Tryz.underlying4
  a4:=Tryz.isAgg4
  z4:=Tryz.sizeOf4
  v4:=Tryz.zeroValue4
  t5:=Tryz.underlying5
  a5:=Tryz.isAgg5
  z5:=Tryz.sizeOf5
  v5:=Tryz.zeroValue5
  t9:=Tryz.underlying9
  a9:=Tryz.isAgg9
  z9:=Tryz.sizeOf9
  v9:=Tryz.zeroValue9
  t46:=Tryz.underlying165
  a46:=Tryz.isAgg165
  z46:=Tryz.sizeOf165
  v46:=Tryz.zeroValue165
  t51:=Tryz.underlying285
  a51:=Tryz.isAgg285
  z51:=Tryz.sizeOf285
  v51:=Tryz.zeroValue285
  t59:=Tryz.underlying128
  a59:=Tryz.isAgg128
  z59:=Tryz.sizeOf128
  v59:=Tryz.zeroValue128
  t146:=Tryz.underlying290
  a146:=Tryz.isAgg290
  z146:=Tryz.sizeOf290
  v146:=Tryz.zeroValue290
  g1:=by kernel_rfl }
open Go.RowKit Go.Lib in
theorem Tryz.strings_Cut (s sep:ByteArray) (m:Int) (w:World) (hs:s.size<4294967281) (hm:w.cell? ⟨0,0,none⟩=some (.int .i64 m)) :
    Calls Tryz.prog 79 #[.string s,.string sep] w fun e w'=>e = .returned (.tuple #[.string ⟨(Lib.cut s.data.toList sep.data.toList).1.toArray⟩,.string ⟨(Lib.cut s.data.toList sep.data.toList).2.1.toArray⟩,.bool (Lib.cut s.data.toList sep.data.toList).2.2]) ∧ ∃ n,w'=w.drewN n:=Any.strings_Cut Tryz.lays145 s sep m w hs hm
def Tryz.lays149_ren:Go.Shelf.Ren:=⟨fun|149=>239|222=>292|n=>n,fun|9=>9|5=>5|3=>3|4=>4|n=>n,fun|n=>n⟩
theorem Tryz.lays149:Go.Proofs.Lays.n149 Tryz.prog Tryz.lays149_ren:={
  mixed:=by kernel_rfl
  f149:=Tryz.func239.trans (congrArg some (by kernel_rfl))
  f222:=Tryz.func292.trans (congrArg some (by kernel_rfl))
  t3:=Tryz.underlying3
  a3:=Tryz.isAgg3
  z3:=Tryz.sizeOf3
  v3:=Tryz.zeroValue3
  t4:=Tryz.underlying4
  a4:=Tryz.isAgg4
  z4:=Tryz.sizeOf4
  v4:=Tryz.zeroValue4
  t5:=Tryz.underlying5
  a5:=Tryz.isAgg5
  z5:=Tryz.sizeOf5
  v5:=Tryz.zeroValue5
  t9:=Tryz.underlying9
  a9:=Tryz.isAgg9
  z9:=Tryz.sizeOf9
  v9:=Tryz.zeroValue9 }
open Go.RowKit Go.Lib in
theorem Tryz.strings_LastIndexByte (s:ByteArray) (c:Int) (hs:s.size<4611686018427387904) (w:World) :
    Calls Tryz.prog 239 #[.string s,.int .u8 c] w fun e w'=>e = .returned (.int .i64 (Lib.lastIndexByte s c))∧w'=w:=Any.strings_LastIndexByte Tryz.lays149 s c hs w
def Tryz.lays146_ren:Go.Shelf.Ren:=⟨fun|146=>151|221=>218|268=>267|138=>268|143=>269|195=>321|197=>322|218=>323|219=>219|260=>347|217=>270|225=>271|224=>272|267=>273|266=>324|314=>325|n=>n,fun|9=>9|31=>124|3=>3|4=>4|0=>0|105=>288|21=>21|5=>5|46=>165|119=>300|139=>303|138=>302|146=>290|51=>285|n=>n,fun|1=>0|3=>4|4=>5|n=>n⟩
theorem Tryz.lays146:Go.Proofs.Lays.n146 Tryz.prog Tryz.lays146_ren:={
  mixed:=by kernel_rfl
  f138:=Tryz.func268.trans (congrArg some (by kernel_rfl))
  f143:=Tryz.func269.trans (congrArg some (by kernel_rfl))
  f146:=Tryz.func151.trans (congrArg some (by kernel_rfl))
  f195:=Tryz.func321.trans (congrArg some (by kernel_rfl))
  f197:=Tryz.func322.trans (congrArg some (by kernel_rfl))
  f217:=Tryz.func270.trans (congrArg some (by kernel_rfl))
  f218:=Tryz.func323.trans (congrArg some (by kernel_rfl))
  f219:=Tryz.func219.trans (congrArg some (by kernel_rfl))
  f221:=Tryz.func218.trans (congrArg some (by kernel_rfl))
  f224:=Tryz.func272.trans (congrArg some (by kernel_rfl))
  f225:=Tryz.func271.trans (congrArg some (by kernel_rfl))
  f260:=Tryz.func347.trans (congrArg some (by kernel_rfl))
  f266:=Tryz.func324.trans (congrArg some (by kernel_rfl))
  f267:=Tryz.func273.trans (congrArg some (by kernel_rfl))
  f268:=Tryz.func267.trans (congrArg some (by kernel_rfl))
  f314:=Tryz.func325.trans (congrArg some (by kernel_rfl))
  t0:=Tryz.underlying0
  a0:=Tryz.isAgg0
  z0:=Tryz.sizeOf0
  v0:=Tryz.zeroValue0
  t3:=Tryz.underlying3
  a3:=Tryz.isAgg3
  z3:=Tryz.sizeOf3
  v3:=Tryz.zeroValue3
  t4:=Tryz.underlying4
  a4:=Tryz.isAgg4
  z4:=Tryz.sizeOf4
  v4:=Tryz.zeroValue4
  t5:=Tryz.underlying5
  a5:=Tryz.isAgg5
  z5:=Tryz.sizeOf5
  v5:=Tryz.zeroValue5
  t9:=Tryz.underlying9
  a9:=Tryz.isAgg9
  z9:=Tryz.sizeOf9
  v9:=Tryz.zeroValue9
  t21:=Tryz.underlying21
  a21:=Tryz.isAgg21
  z21:=Tryz.sizeOf21
  v21:=Tryz.zeroValue21
  t31:=Tryz.underlying124
  a31:=Tryz.isAgg124
  z31:=Tryz.sizeOf124
  v31:=Tryz.zeroValue124
  t46:=Tryz.underlying165
  a46:=Tryz.isAgg165
  z46:=Tryz.sizeOf165
  v46:=Tryz.zeroValue165
  t51:=Tryz.underlying285
  a51:=Tryz.isAgg285
  z51:=Tryz.sizeOf285
  v51:=Tryz.zeroValue285
  t105:=Tryz.underlying288
  a105:=Tryz.isAgg288
  z105:=Tryz.sizeOf288
  v105:=Tryz.zeroValue288
  t119:=Tryz.underlying300
  a119:=Tryz.isAgg300
  z119:=Tryz.sizeOf300
  t138:=Tryz.underlying302
  a138:=Tryz.isAgg302
  z138:=Tryz.sizeOf302
  v138:=Tryz.zeroValue302
  t139:=Tryz.underlying303
  a139:=Tryz.isAgg303
  z139:=Tryz.sizeOf303
  v139:=Tryz.zeroValue303
  t146:=Tryz.underlying290
  a146:=Tryz.isAgg290
  z146:=Tryz.sizeOf290
  v146:=Tryz.zeroValue290
  g1:=by kernel_rfl
  g3:=by kernel_rfl
  g4:=by kernel_rfl }
open Go.RowKit Go.Lib in
theorem Tryz.strings_Split (s sep:ByteArray) (m:Int) (w:World) (hs:s.size<4294967281) (hm:w.cell? ⟨0,0,none⟩=some (.int .i64 m)) (h1:1≤sep.size) :
    Calls Tryz.prog 151 #[.string s,.string sep] w fun e w'=>
      e = .returned (.slice (some ⟨w.heap.size,0,none⟩) (Lib.countB s sep+1) (Lib.countB s sep+1))∧w'=w.alloc (.cells ((Lib.splitB sep 0 (Lib.countB s sep) s).map Value.string).toArray 9):=Any.strings_Split Tryz.lays146 (by kernel_rfl) s sep m w hs hm h1
end Go.Proofs

namespace G448
open Ev Go Go.RowKit
set_option linter.unusedVariables false
set_option maxRecDepth 100000
noncomputable def fF:Nat:=match Go.Proofs.Tryz.prog.globalNamed "internal/strconv.uint64pow10" with|some g=>g|none=>0
theorem gPow_ok:Go.Proofs.Tryz.prog.globalNamed "internal/strconv.uint64pow10" = some fF:=by kernel_rfl
/-- The library's tables that are read. -/
noncomputable def GLB:Glob where
  gb:=[0,fF]
  G:=fun w=>(∃ m,w.cell? ⟨0,0,none⟩=some (.int .i64 m))∧Lib.TabIs Go.Proofs.Tryz.prog w "internal/strconv.uint64pow10" .u64 Lib.pow10Tab
  frame:=by
    rintro w w' h hb
    obtain⟨h0,h1⟩:=h
    refine⟨?_,?_⟩
    · obtain⟨m,hm⟩:=h0
      refine⟨m,?_⟩
      have e:=hb 0 (by simp)
      simp only[World.cell?] at hm ⊢
      rw[e]; exact hm
    · have e:=hb fF (by simp)
      have h:=h1
      simp only[Lib.TabIs,World.var?,gPow_ok,Option.bind_some] at h ⊢
      rw[e]; exact h
def DQ:PF:=⟨[(.rd,.i64)],[.str],.uniq,strconv_Itoa⟩
theorem s75:Sound Go.Proofs.Tryz.prog GLB 75 DQ:=ae4 (T:=fun w=>Lib.TabIs Go.Proofs.Tryz.prog w "internal/strconv.uint64pow10" .u64 Lib.pow10Tab) (Go.Proofs.enters_of Go.Proofs.Tryz.func75 (by kernel_rfl) rfl) (fun w h=>h.2) (fun n h0 h1 w ht=>Go.Proofs.Tryz.strconv_Itoa n h0 h1 w ht)
def sY:PF:=⟨[(.rd,.str),(.rd,.str)],[.str,.str,.bool],.uniq,strings_Cut⟩
theorem FK:Sound Go.Proofs.Tryz.prog GLB 79 sY:=adU (Go.Proofs.enters_of Go.Proofs.Tryz.func79 (by kernel_rfl) rfl) (fun w h=>h.1) (fun s sep m w hs hm=>Go.Proofs.Tryz.strings_Cut s sep m w hs hm)
def aaR:PF:=⟨[(.rd,.sl 9 .str),(.rd,.str)],[.str],.uniq,strings_Join⟩
theorem s77:Sound Go.Proofs.Tryz.prog GLB 77 aaR:=abf (Go.Proofs.enters_of Go.Proofs.Tryz.func77 (by kernel_rfl) rfl) (fun a c sep w=>Go.Proofs.Tryz.strings_Join_none a c sep w) (fun abp o c xs sep w h1 h2 h3 h4 h5=>Go.Proofs.Tryz.strings_Join abp o c xs sep w h1 h2 h3 h4 h5)
def Cv:PF:=⟨[(.rd,.str),(.rd,.u8)],[.i64],.uniq,strings_LastIndexByte⟩
theorem abN:Sound Go.Proofs.Tryz.prog GLB 239 Cv:=ae6 (Go.Proofs.enters_of Go.Proofs.Tryz.func239 (by kernel_rfl) rfl) Go.Proofs.Tryz.strings_LastIndexByte
def BR:PF:=⟨[(.rd,.str),(.rd,.str)],[.sl 9 .str],.uniq,strings_Split⟩
theorem ab8:Sound Go.Proofs.Tryz.prog GLB 151 BR:=ael (Go.Proofs.enters_of Go.Proofs.Tryz.func151 (by kernel_rfl) rfl) (fun w h=>h.1) (fun s sep m w hs hm h1=>Go.Proofs.Tryz.strings_Split s sep m w hs hm h1)
def Ap:Go.Shelf.Ren:=⟨fun|22=>231|29=>288|30=>289|n=>n,fun|9=>47|24=>61|n=>n,fun n=>n⟩
theorem WS:Kr Go.Proofs.Tryz.prog Ap 3 #[.int .i64 0,.string ⟨#[]⟩,.slice none 0 0] 48:={
  mixed:=by kernel_rfl
  f22:=⟨ "slices.Insert[[]loop.example/g00448/impl.Part,loop.example/g00448/impl.Part]", Go.Proofs.Tryz.func231.trans (congrArg some (by kernel_rfl))⟩
  ov:=fun args w=>Go.run_callFunc_extern Go.Proofs.Tryz.func288 (by kernel_rfl) (by kernel_rfl) (by kernel_rfl) (by kernel_rfl) args w
  t0:=Go.Proofs.Tryz.underlying0
  a0:=Go.Proofs.Tryz.isAgg0
  z0:=Go.Proofs.Tryz.sizeOf0
  v0:=Go.Proofs.Tryz.zeroValue0
  t3:=Go.Proofs.Tryz.underlying3
  a3:=Go.Proofs.Tryz.isAgg3
  z3:=Go.Proofs.Tryz.sizeOf3
  v3:=Go.Proofs.Tryz.zeroValue3
  t4:=Go.Proofs.Tryz.underlying4
  a4:=Go.Proofs.Tryz.isAgg4
  z4:=Go.Proofs.Tryz.sizeOf4
  v4:=Go.Proofs.Tryz.zeroValue4
  z9:=Go.Proofs.Tryz.sizeOf47
  t24:=Go.Proofs.Tryz.underlying61
  a24:=Go.Proofs.Tryz.isAgg61
  z24:=Go.Proofs.Tryz.sizeOf61
  v24:=Go.Proofs.Tryz.zeroValue61
  i9:=by kernel_rfl }
def Cn:PF:=⟨[(.own,.sl 47 (.pair .i64 (.pair .str (.sl 3 .i64)))),(.rd,.i64),(.own,.sl 47 (.pair .i64 (.pair .str (.sl 3 .i64))))],[.sl 47 (.pair .i64 (.pair .str (.sl 3 .i64)))],.own,NY⟩
theorem abF:Kt Go.Proofs.Tryz.prog GLB 231 Cn:=adI (T:=47) (e:=(.pair .i64 (.pair .str (.sl 3 .i64)))) (ρ:=Ap) WS (Go.Proofs.enters_of Go.Proofs.Tryz.func231 (by kernel_rfl) rfl) rfl (by decide)
def Aq:Go.Shelf.Ren:=⟨fun|22=>283|29=>328|30=>329|n=>n,fun|9=>43|24=>44|n=>n,fun n=>n⟩
theorem WT:Kr Go.Proofs.Tryz.prog Aq 4 #[.int .i64 0,.int .i64 0,.int .i64 0,.int .i64 0] 32:={
  mixed:=by kernel_rfl
  f22:=⟨ "slices.Insert[[]loop.example/g00448/impl.Tx,loop.example/g00448/impl.Tx]", Go.Proofs.Tryz.func283.trans (congrArg some (by kernel_rfl))⟩
  ov:=fun args w=>Go.run_callFunc_extern Go.Proofs.Tryz.func328 (by kernel_rfl) (by kernel_rfl) (by kernel_rfl) (by kernel_rfl) args w
  t0:=Go.Proofs.Tryz.underlying0
  a0:=Go.Proofs.Tryz.isAgg0
  z0:=Go.Proofs.Tryz.sizeOf0
  v0:=Go.Proofs.Tryz.zeroValue0
  t3:=Go.Proofs.Tryz.underlying3
  a3:=Go.Proofs.Tryz.isAgg3
  z3:=Go.Proofs.Tryz.sizeOf3
  v3:=Go.Proofs.Tryz.zeroValue3
  t4:=Go.Proofs.Tryz.underlying4
  a4:=Go.Proofs.Tryz.isAgg4
  z4:=Go.Proofs.Tryz.sizeOf4
  v4:=Go.Proofs.Tryz.zeroValue4
  z9:=Go.Proofs.Tryz.sizeOf43
  t24:=Go.Proofs.Tryz.underlying44
  a24:=Go.Proofs.Tryz.isAgg44
  z24:=Go.Proofs.Tryz.sizeOf44
  v24:=Go.Proofs.Tryz.zeroValue44
  i9:=by kernel_rfl }
def CV:PF:=⟨[(.own,.sl 43 (.pair .i64 (.pair .i64 (.pair .i64 .i64)))),(.rd,.i64),(.own,.sl 43 (.pair .i64 (.pair .i64 (.pair .i64 .i64))))],[.sl 43 (.pair .i64 (.pair .i64 (.pair .i64 .i64)))],.uniq,au⟩
theorem ace:Sound Go.Proofs.Tryz.prog GLB 283 CV:=Gw (T:=43) (e:=(.pair .i64 (.pair .i64 (.pair .i64 .i64)))) (ρ:=Aq) WT (Go.Proofs.enters_of Go.Proofs.Tryz.func283 (by kernel_rfl) rfl) rfl (by decide) (.inr ⟨rfl,rfl⟩)
def Ar:Go.Shelf.Ren:=⟨fun|22=>352|29=>361|30=>362|n=>n,fun|9=>3|24=>26|n=>n,fun n=>n⟩
theorem WU:Kr Go.Proofs.Tryz.prog Ar 1 #[.int .i64 0] 8:={
  mixed:=by kernel_rfl
  f22:=⟨ "slices.Insert[[]int,int]", Go.Proofs.Tryz.func352.trans (congrArg some (by kernel_rfl))⟩
  ov:=fun args w=>Go.run_callFunc_extern Go.Proofs.Tryz.func361 (by kernel_rfl) (by kernel_rfl) (by kernel_rfl) (by kernel_rfl) args w
  t0:=Go.Proofs.Tryz.underlying0
  a0:=Go.Proofs.Tryz.isAgg0
  z0:=Go.Proofs.Tryz.sizeOf0
  v0:=Go.Proofs.Tryz.zeroValue0
  t3:=Go.Proofs.Tryz.underlying3
  a3:=Go.Proofs.Tryz.isAgg3
  z3:=Go.Proofs.Tryz.sizeOf3
  v3:=Go.Proofs.Tryz.zeroValue3
  t4:=Go.Proofs.Tryz.underlying4
  a4:=Go.Proofs.Tryz.isAgg4
  z4:=Go.Proofs.Tryz.sizeOf4
  v4:=Go.Proofs.Tryz.zeroValue4
  z9:=Go.Proofs.Tryz.sizeOf3
  t24:=Go.Proofs.Tryz.underlying26
  a24:=Go.Proofs.Tryz.isAgg26
  z24:=Go.Proofs.Tryz.sizeOf26
  v24:=Go.Proofs.Tryz.zeroValue26
  i9:=by kernel_rfl }
def Dx:PF:=⟨[(.own,.sl 3 .i64),(.rd,.i64),(.own,.sl 3 .i64)],[.sl 3 .i64],.uniq,dF⟩
theorem acQ:Sound Go.Proofs.Tryz.prog GLB 352 Dx:=Gw (T:=3) (e:=.i64) (ρ:=Ar) WU (Go.Proofs.enters_of Go.Proofs.Tryz.func352 (by kernel_rfl) rfl) rfl (by decide) (.inr ⟨rfl,rfl⟩)
def wQ:Go.Shelf.Ren:=⟨fun|45=>87|n=>n,fun|22=>28|23=>115|n=>n,fun n=>n⟩
theorem U4:oa Go.Proofs.Tryz.prog wQ 2 #[.int .i64 0,.slice none 0 0]:={
  mixed:=by kernel_rfl
  f45:=⟨ "slices.Delete[[]loop.example/g00448/impl.Wire,loop.example/g00448/impl.Wire]", by kernel_rfl,Go.Proofs.Tryz.func87.trans (congrArg some (by kernel_rfl))⟩
  t0:=Go.Proofs.Tryz.underlying0
  a0:=Go.Proofs.Tryz.isAgg0
  z0:=Go.Proofs.Tryz.sizeOf0
  v0:=Go.Proofs.Tryz.zeroValue0
  t3:=Go.Proofs.Tryz.underlying3
  a3:=Go.Proofs.Tryz.isAgg3
  z3:=Go.Proofs.Tryz.sizeOf3
  v3:=Go.Proofs.Tryz.zeroValue3
  t4:=Go.Proofs.Tryz.underlying4
  a4:=Go.Proofs.Tryz.isAgg4
  z4:=Go.Proofs.Tryz.sizeOf4
  v4:=Go.Proofs.Tryz.zeroValue4
  t22:=Go.Proofs.Tryz.underlying28
  a22:=Go.Proofs.Tryz.isAgg28
  z22:=Go.Proofs.Tryz.sizeOf28
  v22:=Go.Proofs.Tryz.zeroValue28
  z23:=Go.Proofs.Tryz.sizeOf115
  v23:=Go.Proofs.Tryz.zeroValue115
  i23:=by kernel_rfl
  zs:=rfl
  z1:=rfl }
def DW:PF:=⟨[(.own,.sl 115 (.pair .i64 (.sl 5 .u8))),(.rd,.i64),(.rd,.i64)],[.sl 115 (.pair .i64 (.sl 5 .u8))],.uniq,dD⟩
theorem s87:Kt Go.Proofs.Tryz.prog GLB 87 DW:=adH (T:=115) (e:=(.pair .i64 (.sl 5 .u8))) (ρ:=wQ) U4 (Go.Proofs.enters_of Go.Proofs.Tryz.func87 (by kernel_rfl) rfl)
theorem glb_apart {W:World} (h:GLB.G W) : ∀ b∈GLB.gb,b<W.heap.size∧b∉([]++[]:List Nat):=by
  intro b hb
  refine⟨?_,by simp⟩
  simp only[GLB,List.mem_cons,List.not_mem_nil,or_false] at hb
  rcases hb with rfl|rfl
  · obtain⟨m,hm⟩:=h.1
    exact World.block_lt_of_cell? _ _ hm
  · have h2:=h.2
    simp only[Lib.TabIs,World.var?,gPow_ok,Option.bind_some] at h2
    cases hh:W.heap[fF]? with
    | none=>rw[hh] at h2; cases h2
    | some o=>exact j9 hh
end G448

