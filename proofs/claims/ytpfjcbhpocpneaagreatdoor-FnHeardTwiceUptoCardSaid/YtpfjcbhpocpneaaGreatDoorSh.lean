/- The kit's contracts of library functions at this program (laid by the kit's own tool), as the evaluator takes them. (Printed by our own program.) -/
import Derived.Test.YtpfjcbhpocpneaaGreatDoorProg
import Derived.Test.YtpfjcbhpocpneaaGreatDoorLibH
import Derived.KernelRfl
import Derived.Shelf.LaysM
import Derived.Shelf.Strconv.Itoa3
import Derived.Shelf.Strings.Cut
import Derived.Shelf.Strings.LastIndex
import Derived.Shelf.Strings.Shaped
import Derived.Shelf.Strings.Split
set_option linter.unusedSimpArgs false
set_option linter.unusedVariables false

namespace Go.Proofs
open Go.Shelf
def Tryz.laysM171_ren:Go.Shelf.Ren:=⟨fun|171=>296|243=>320|246=>337|283=>347|284=>348|285=>349|286=>350|129=>358|317=>357|318=>359|319=>360|320=>361|337=>362|338=>363|n=>n,fun|3=>3|9=>9|2=>2|4=>4|171=>289|0=>0|53=>290|37=>22|5=>5|173=>293|212=>304|51=>279|20=>20|213=>305|46=>228|232=>308|233=>309|n=>n,fun|17=>3|18=>4|19=>5|n=>n⟩
theorem Tryz.laysM171:Go.Proofs.LaysM.n171 Tryz.prog Tryz.laysM171_ren:={
  mixed:=by kernel_rfl
  f129:=Tryz.func358.trans (congrArg some (by kernel_rfl))
  f171:=Tryz.func296.trans (congrArg some (by kernel_rfl))
  f243:=Tryz.func320.trans (congrArg some (by kernel_rfl))
  f246:=Tryz.func337.trans (congrArg some (by kernel_rfl))
  f283:=Tryz.func347.trans (congrArg some (by kernel_rfl))
  f284:=Tryz.func348.trans (congrArg some (by kernel_rfl))
  f285:=Tryz.func349.trans (congrArg some (by kernel_rfl))
  f286:=Tryz.func350.trans (congrArg some (by kernel_rfl))
  f317:=Tryz.func357.trans (congrArg some (by kernel_rfl))
  f318:=Tryz.func359.trans (congrArg some (by kernel_rfl))
  f319:=Tryz.func360.trans (congrArg some (by kernel_rfl))
  f320:=Tryz.func361.trans (congrArg some (by kernel_rfl))
  f337:=Tryz.func362.trans (congrArg some (by kernel_rfl))
  f338:=Tryz.func363.trans (congrArg some (by kernel_rfl))
  t0:=Tryz.underlying0
  a0:=Tryz.isAgg0
  z0:=Tryz.sizeOf0
  v0:=Tryz.zeroValue0
  t2:=Tryz.underlying2
  a2:=Tryz.isAgg2
  z2:=Tryz.sizeOf2
  v2:=Tryz.zeroValue2
  t3:=Tryz.underlying3
  a3:=Tryz.isAgg3
  z3:=Tryz.sizeOf3
  v3:=Tryz.zeroValue3
  t4:=Tryz.underlying4
  a4:=Tryz.isAgg4
  z4:=Tryz.sizeOf4
  v4:=Tryz.zeroValue4
  t5:=Tryz.underlying5
  a5:=Tryz.isAgg5
  z5:=Tryz.sizeOf5
  v5:=Tryz.zeroValue5
  t9:=Tryz.underlying9
  a9:=Tryz.isAgg9
  z9:=Tryz.sizeOf9
  v9:=Tryz.zeroValue9
  t20:=Tryz.underlying20
  a20:=Tryz.isAgg20
  z20:=Tryz.sizeOf20
  v20:=Tryz.zeroValue20
  t37:=Tryz.underlying22
  a37:=Tryz.isAgg22
  z37:=Tryz.sizeOf22
  v37:=Tryz.zeroValue22
  t46:=Tryz.underlying228
  a46:=Tryz.isAgg228
  z46:=Tryz.sizeOf228
  v46:=Tryz.zeroValue228
  t51:=Tryz.underlying279
  a51:=Tryz.isAgg279
  z51:=Tryz.sizeOf279
  v51:=Tryz.zeroValue279
  t53:=Tryz.underlying290
  a53:=Tryz.isAgg290
  z53:=Tryz.sizeOf290
  v53:=Tryz.zeroValue290
  t171:=Tryz.underlying289
  a171:=Tryz.isAgg289
  z171:=Tryz.sizeOf289
  v171:=Tryz.zeroValue289
  t173:=Tryz.underlying293
  a173:=Tryz.isAgg293
  z173:=Tryz.sizeOf293
  v173:=Tryz.zeroValue293
  t212:=Tryz.underlying304
  a212:=Tryz.isAgg304
  z212:=Tryz.sizeOf304
  v212:=Tryz.zeroValue304
  t213:=Tryz.underlying305
  a213:=Tryz.isAgg305
  z213:=Tryz.sizeOf305
  t232:=Tryz.underlying308
  a232:=Tryz.isAgg308
  z232:=Tryz.sizeOf308
  v232:=Tryz.zeroValue308
  t233:=Tryz.underlying309
  a233:=Tryz.isAgg309
  z233:=Tryz.sizeOf309
  v233:=Tryz.zeroValue309
  g17:=by kernel_rfl
  g18:=by kernel_rfl
  g19:=by kernel_rfl
  i0:=by kernel_rfl
  i2:=by kernel_rfl
  i3:=by kernel_rfl
  i4:=by kernel_rfl
  i5:=by kernel_rfl
  i9:=by kernel_rfl
  i20:=by kernel_rfl
  i37:=by kernel_rfl
  i46:=by kernel_rfl
  i51:=by kernel_rfl
  i53:=by kernel_rfl
  i171:=by kernel_rfl
  i173:=by kernel_rfl
  i212:=by kernel_rfl
  i232:=by kernel_rfl
  i233:=by kernel_rfl
  m17:=by kernel_rfl
  m18:=by kernel_rfl
  m19:=by kernel_rfl }
open Go.RowKit Go.Sort Go.Lib in
theorem Tryz.strconv_Itoa (n:Int) (h0 : -9223372036854775808≤n) (h1:n≤9223372036854775807) (w:World) (htab:Lib.TabIs Go.Proofs.Tryz.prog w "internal/strconv.uint64pow10" .u64 Lib.pow10Tab) :
    Calls Tryz.prog 296 #[.int .i64 n] w fun e w'=>e = .returned (.string ⟨(Lib.itoa n).toArray⟩) ∧ ∃ k os,w'=grow (w.drewN k) os:=Any.strconv_Itoa Tryz.laysM171 n h0 h1 w htab
def Tryz.lays145_ren:Go.Shelf.Ren:=⟨fun|145=>182|220=>258|219=>295|217=>316|225=>317|224=>318|267=>319|266=>335|314=>336|n=>n,fun|9=>9|4=>4|59=>192|3=>3|5=>5|46=>228|146=>280|51=>279|n=>n,fun|1=>0|n=>n⟩
theorem Tryz.lays145:Go.Proofs.Lays.n145 Tryz.prog Tryz.lays145_ren:={
  mixed:=by kernel_rfl
  f145:=Tryz.func182.trans (congrArg some (by kernel_rfl))
  f217:=Tryz.func316.trans (congrArg some (by kernel_rfl))
  f219:=Tryz.func295.trans (congrArg some (by kernel_rfl))
  f220:=Tryz.func258.trans (congrArg some (by kernel_rfl))
  f224:=Tryz.func318.trans (congrArg some (by kernel_rfl))
  f225:=Tryz.func317.trans (congrArg some (by kernel_rfl))
  f266:=Tryz.func335.trans (congrArg some (by kernel_rfl))
  f267:=Tryz.func319.trans (congrArg some (by kernel_rfl))
  f314:=Tryz.func336.trans (congrArg some (by kernel_rfl))
  t3:=Tryz.underlying3
  a3:=Tryz.isAgg3
  z3:=Tryz.sizeOf3
  v3:=Tryz.zeroValue3
  t4:=Tryz.underlying4
  a4:=Tryz.isAgg4
  z4:=Tryz.sizeOf4
  v4:=Tryz.zeroValue4
  t5:=Tryz.underlying5
  a5:=Tryz.isAgg5
  z5:=Tryz.sizeOf5
  v5:=Tryz.zeroValue5
  t9:=Tryz.underlying9
  a9:=Tryz.isAgg9
  z9:=Tryz.sizeOf9
  v9:=Tryz.zeroValue9
  t46:=Tryz.underlying228
  a46:=Tryz.isAgg228
  z46:=Tryz.sizeOf228
  v46:=Tryz.zeroValue228
  t51:=Tryz.underlying279
  a51:=Tryz.isAgg279
  z51:=Tryz.sizeOf279
  v51:=Tryz.zeroValue279
  t59:=Tryz.underlying192
  a59:=Tryz.isAgg192
  z59:=Tryz.sizeOf192
  v59:=Tryz.zeroValue192
  t146:=Tryz.underlying280
  a146:=Tryz.isAgg280
  z146:=Tryz.sizeOf280
  v146:=Tryz.zeroValue280
  g1:=by kernel_rfl }
open Go.RowKit Go.Lib in
theorem Tryz.strings_Cut (s sep:ByteArray) (m:Int) (w:World) (hs:s.size<4294967281) (hm:w.cell? ⟨0,0,none⟩=some (.int .i64 m)) :
    Calls Tryz.prog 182 #[.string s,.string sep] w fun e w'=>e = .returned (.tuple #[.string ⟨(Lib.cut s.data.toList sep.data.toList).1.toArray⟩,.string ⟨(Lib.cut s.data.toList sep.data.toList).2.1.toArray⟩,.bool (Lib.cut s.data.toList sep.data.toList).2.2]) ∧ ∃ n,w'=w.drewN n:=Any.strings_Cut Tryz.lays145 s sep m w hs hm
def Tryz.lays149_ren:Go.Shelf.Ren:=⟨fun|149=>240|222=>283|n=>n,fun|9=>9|5=>5|3=>3|4=>4|n=>n,fun|n=>n⟩
theorem Tryz.lays149:Go.Proofs.Lays.n149 Tryz.prog Tryz.lays149_ren:={
  mixed:=by kernel_rfl
  f149:=Tryz.func240.trans (congrArg some (by kernel_rfl))
  f222:=Tryz.func283.trans (congrArg some (by kernel_rfl))
  t3:=Tryz.underlying3
  a3:=Tryz.isAgg3
  z3:=Tryz.sizeOf3
  v3:=Tryz.zeroValue3
  t4:=Tryz.underlying4
  a4:=Tryz.isAgg4
  z4:=Tryz.sizeOf4
  v4:=Tryz.zeroValue4
  t5:=Tryz.underlying5
  a5:=Tryz.isAgg5
  z5:=Tryz.sizeOf5
  v5:=Tryz.zeroValue5
  t9:=Tryz.underlying9
  a9:=Tryz.isAgg9
  z9:=Tryz.sizeOf9
  v9:=Tryz.zeroValue9 }
open Go.RowKit Go.Lib in
theorem Tryz.strings_LastIndexByte (s:ByteArray) (c:Int) (hs:s.size<4611686018427387904) (w:World) :
    Calls Tryz.prog 240 #[.string s,.int .u8 c] w fun e w'=>e = .returned (.int .i64 (Lib.lastIndexByte s c))∧w'=w:=Any.strings_LastIndexByte Tryz.lays149 s c hs w
def Tryz.lays146_ren:Go.Shelf.Ren:=⟨fun|146=>257|221=>294|268=>313|138=>314|143=>315|195=>332|197=>333|218=>334|219=>295|260=>346|217=>316|225=>317|224=>318|267=>319|266=>335|314=>336|n=>n,fun|9=>9|31=>190|3=>3|4=>4|0=>0|105=>277|21=>21|5=>5|46=>228|119=>300|139=>303|138=>302|146=>280|51=>279|n=>n,fun|1=>0|3=>1|4=>2|n=>n⟩
theorem Tryz.lays146:Go.Proofs.Lays.n146 Tryz.prog Tryz.lays146_ren:={
  mixed:=by kernel_rfl
  f138:=Tryz.func314.trans (congrArg some (by kernel_rfl))
  f143:=Tryz.func315.trans (congrArg some (by kernel_rfl))
  f146:=Tryz.func257.trans (congrArg some (by kernel_rfl))
  f195:=Tryz.func332.trans (congrArg some (by kernel_rfl))
  f197:=Tryz.func333.trans (congrArg some (by kernel_rfl))
  f217:=Tryz.func316.trans (congrArg some (by kernel_rfl))
  f218:=Tryz.func334.trans (congrArg some (by kernel_rfl))
  f219:=Tryz.func295.trans (congrArg some (by kernel_rfl))
  f221:=Tryz.func294.trans (congrArg some (by kernel_rfl))
  f224:=Tryz.func318.trans (congrArg some (by kernel_rfl))
  f225:=Tryz.func317.trans (congrArg some (by kernel_rfl))
  f260:=Tryz.func346.trans (congrArg some (by kernel_rfl))
  f266:=Tryz.func335.trans (congrArg some (by kernel_rfl))
  f267:=Tryz.func319.trans (congrArg some (by kernel_rfl))
  f268:=Tryz.func313.trans (congrArg some (by kernel_rfl))
  f314:=Tryz.func336.trans (congrArg some (by kernel_rfl))
  t0:=Tryz.underlying0
  a0:=Tryz.isAgg0
  z0:=Tryz.sizeOf0
  v0:=Tryz.zeroValue0
  t3:=Tryz.underlying3
  a3:=Tryz.isAgg3
  z3:=Tryz.sizeOf3
  v3:=Tryz.zeroValue3
  t4:=Tryz.underlying4
  a4:=Tryz.isAgg4
  z4:=Tryz.sizeOf4
  v4:=Tryz.zeroValue4
  t5:=Tryz.underlying5
  a5:=Tryz.isAgg5
  z5:=Tryz.sizeOf5
  v5:=Tryz.zeroValue5
  t9:=Tryz.underlying9
  a9:=Tryz.isAgg9
  z9:=Tryz.sizeOf9
  v9:=Tryz.zeroValue9
  t21:=Tryz.underlying21
  a21:=Tryz.isAgg21
  z21:=Tryz.sizeOf21
  v21:=Tryz.zeroValue21
  t31:=Tryz.underlying190
  a31:=Tryz.isAgg190
  z31:=Tryz.sizeOf190
  v31:=Tryz.zeroValue190
  t46:=Tryz.underlying228
  a46:=Tryz.isAgg228
  z46:=Tryz.sizeOf228
  v46:=Tryz.zeroValue228
  t51:=Tryz.underlying279
  a51:=Tryz.isAgg279
  z51:=Tryz.sizeOf279
  v51:=Tryz.zeroValue279
  t105:=Tryz.underlying277
  a105:=Tryz.isAgg277
  z105:=Tryz.sizeOf277
  v105:=Tryz.zeroValue277
  t119:=Tryz.underlying300
  a119:=Tryz.isAgg300
  z119:=Tryz.sizeOf300
  t138:=Tryz.underlying302
  a138:=Tryz.isAgg302
  z138:=Tryz.sizeOf302
  v138:=Tryz.zeroValue302
  t139:=Tryz.underlying303
  a139:=Tryz.isAgg303
  z139:=Tryz.sizeOf303
  v139:=Tryz.zeroValue303
  t146:=Tryz.underlying280
  a146:=Tryz.isAgg280
  z146:=Tryz.sizeOf280
  v146:=Tryz.zeroValue280
  g1:=by kernel_rfl
  g3:=by kernel_rfl
  g4:=by kernel_rfl }
open Go.RowKit Go.Lib in
theorem Tryz.strings_Split (s sep:ByteArray) (m:Int) (w:World) (hs:s.size<4294967281) (hm:w.cell? ⟨0,0,none⟩=some (.int .i64 m)) (h1:1≤sep.size) :
    Calls Tryz.prog 257 #[.string s,.string sep] w fun e w'=>
      e = .returned (.slice (some ⟨w.heap.size,0,none⟩) (Lib.countB s sep+1) (Lib.countB s sep+1))∧w'=w.alloc (.cells ((Lib.splitB sep 0 (Lib.countB s sep) s).map Value.string).toArray 9):=Any.strings_Split Tryz.lays146 (by kernel_rfl) s sep m w hs hm h1
end Go.Proofs

namespace G448
open Ev Go Go.RowKit
set_option linter.unusedVariables false
set_option maxRecDepth 100000

/-- The type whose rows are whole: posts. -/
instance tagsI:Ev.Tags:=⟨92⟩
noncomputable def c7:Nat:=match Go.Proofs.Tryz.prog.globalNamed "internal/strconv.uint64pow10" with|some g=>g|none=>0
theorem gPow_ok:Go.Proofs.Tryz.prog.globalNamed "internal/strconv.uint64pow10" = some c7:=by kernel_rfl
/-- The library's tables that are read. -/
noncomputable def GLB:Glob where
  gb:=[0,c7]
  G:=fun w=>(∃ m,w.cell? ⟨0,0,none⟩=some (.int .i64 m))∧Lib.TabIs Go.Proofs.Tryz.prog w "internal/strconv.uint64pow10" .u64 Lib.pow10Tab
  frame:=by
    rintro w w' h hb
    obtain⟨h0,h1⟩:=h
    refine⟨?_,?_⟩
    · obtain⟨m,hm⟩:=h0
      refine⟨m,?_⟩
      have e:=hb 0 (by simp)
      simp only[World.cell?] at hm ⊢
      rw[e]; exact hm
    · have e:=hb c7 (by simp)
      have h:=h1
      simp only[Lib.TabIs,World.var?,gPow_ok,Option.bind_some] at h ⊢
      rw[e]; exact h
def Am:PF:=⟨[(.rd,.i64)],[.str],.uniq,strconv_Itoa⟩
theorem WF:Sound Go.Proofs.Tryz.prog GLB 296 Am:=aa5 (T:=fun w=>Lib.TabIs Go.Proofs.Tryz.prog w "internal/strconv.uint64pow10" .u64 Lib.pow10Tab) (Go.Proofs.enters_of Go.Proofs.Tryz.func296 (by kernel_rfl) rfl) (fun w h=>h.2) (fun n h0 h1 w ht=>Go.Proofs.Tryz.strconv_Itoa n h0 h1 w ht)
def ox:PF:=⟨[(.rd,.str),(.rd,.str)],[.str,.str,.bool],.uniq,strings_Cut⟩
theorem BR:Sound Go.Proofs.Tryz.prog GLB 182 ox:=X7 (Go.Proofs.enters_of Go.Proofs.Tryz.func182 (by kernel_rfl) rfl) (fun w h=>h.1) (fun s sep m w hs hm=>Go.Proofs.Tryz.strings_Cut s sep m w hs hm)
def xG:PF:=⟨[(.rd,.str),(.rd,.u8)],[.i64],.uniq,strings_LastIndexByte⟩
theorem V7:Sound Go.Proofs.Tryz.prog GLB 240 xG:=aa7 (Go.Proofs.enters_of Go.Proofs.Tryz.func240 (by kernel_rfl) rfl) Go.Proofs.Tryz.strings_LastIndexByte
def xP:PF:=⟨[(.rd,.str),(.rd,.str)],[.sl 9 .str],.uniq,strings_Split⟩
theorem Wg:Sound Go.Proofs.Tryz.prog GLB 257 xP:=aam (by decide) (Go.Proofs.enters_of Go.Proofs.Tryz.func257 (by kernel_rfl) rfl) (fun w h=>h.1) (fun s sep m w hs hm h1=>Go.Proofs.Tryz.strings_Split s sep m w hs hm h1)
def uZ:Go.Shelf.Ren:=⟨fun|22=>165|29=>243|30=>244|n=>n,fun|9=>62|24=>32|n=>n,fun n=>n⟩
theorem Sx:JB Go.Proofs.Tryz.prog uZ 3 #[.int .i64 0,.string ⟨#[]⟩,.slice none 0 0] 48:={
  mixed:=by kernel_rfl
  f22:=⟨ "slices.Insert[[]loop.example/g00448/impl.Part,loop.example/g00448/impl.Part]", Go.Proofs.Tryz.func165.trans (congrArg some (by kernel_rfl))⟩
  ov:=fun args w=>Go.run_callFunc_extern Go.Proofs.Tryz.func243 (by kernel_rfl) (by kernel_rfl) (by kernel_rfl) (by kernel_rfl) args w
  t0:=Go.Proofs.Tryz.underlying0
  a0:=Go.Proofs.Tryz.isAgg0
  z0:=Go.Proofs.Tryz.sizeOf0
  v0:=Go.Proofs.Tryz.zeroValue0
  t3:=Go.Proofs.Tryz.underlying3
  a3:=Go.Proofs.Tryz.isAgg3
  z3:=Go.Proofs.Tryz.sizeOf3
  v3:=Go.Proofs.Tryz.zeroValue3
  t4:=Go.Proofs.Tryz.underlying4
  a4:=Go.Proofs.Tryz.isAgg4
  z4:=Go.Proofs.Tryz.sizeOf4
  v4:=Go.Proofs.Tryz.zeroValue4
  z9:=Go.Proofs.Tryz.sizeOf62
  t24:=Go.Proofs.Tryz.underlying32
  a24:=Go.Proofs.Tryz.isAgg32
  z24:=Go.Proofs.Tryz.sizeOf32
  v24:=Go.Proofs.Tryz.zeroValue32
  i9:=by kernel_rfl }
def wX:PF:=⟨[(.own,.sl 62 (.pair .i64 (.pair .str (.sl 3 .i64)))),(.rd,.i64),(.own,.sl 62 (.pair .i64 (.pair .str (.sl 3 .i64))))],[.sl 62 (.pair .i64 (.pair .str (.sl 3 .i64)))],.own,MC⟩
theorem Vz:KX Go.Proofs.Tryz.prog GLB 165 wX:=XV (T:=62) (e:=(.pair .i64 (.pair .str (.sl 3 .i64)))) (ρ:=uZ) Sx (Go.Proofs.enters_of Go.Proofs.Tryz.func165 (by kernel_rfl) rfl) rfl (by decide) ⟨by decide,by decide⟩
def u5:Go.Shelf.Ren:=⟨fun|22=>269|29=>306|30=>307|n=>n,fun|9=>64|24=>31|n=>n,fun n=>n⟩
theorem Sy:JB Go.Proofs.Tryz.prog u5 4 #[.int .i64 0,.int .i64 0,.int .i64 0,.int .i64 0] 32:={
  mixed:=by kernel_rfl
  f22:=⟨ "slices.Insert[[]loop.example/g00448/impl.Tx,loop.example/g00448/impl.Tx]", Go.Proofs.Tryz.func269.trans (congrArg some (by kernel_rfl))⟩
  ov:=fun args w=>Go.run_callFunc_extern Go.Proofs.Tryz.func306 (by kernel_rfl) (by kernel_rfl) (by kernel_rfl) (by kernel_rfl) args w
  t0:=Go.Proofs.Tryz.underlying0
  a0:=Go.Proofs.Tryz.isAgg0
  z0:=Go.Proofs.Tryz.sizeOf0
  v0:=Go.Proofs.Tryz.zeroValue0
  t3:=Go.Proofs.Tryz.underlying3
  a3:=Go.Proofs.Tryz.isAgg3
  z3:=Go.Proofs.Tryz.sizeOf3
  v3:=Go.Proofs.Tryz.zeroValue3
  t4:=Go.Proofs.Tryz.underlying4
  a4:=Go.Proofs.Tryz.isAgg4
  z4:=Go.Proofs.Tryz.sizeOf4
  v4:=Go.Proofs.Tryz.zeroValue4
  z9:=Go.Proofs.Tryz.sizeOf64
  t24:=Go.Proofs.Tryz.underlying31
  a24:=Go.Proofs.Tryz.isAgg31
  z24:=Go.Proofs.Tryz.sizeOf31
  v24:=Go.Proofs.Tryz.zeroValue31
  i9:=by kernel_rfl }
def Uu:PF:=⟨[(.own,.sl 64 (.pair .i64 (.pair .i64 (.pair .i64 .i64)))),(.rd,.i64),(.own,.sl 64 (.pair .i64 (.pair .i64 (.pair .i64 .i64))))],[.sl 64 (.pair .i64 (.pair .i64 (.pair .i64 .i64)))],.uniq,XU⟩
theorem abV:Sound Go.Proofs.Tryz.prog GLB 269 Uu:=CZ (T:=64) (e:=(.pair .i64 (.pair .i64 (.pair .i64 .i64)))) (ρ:=u5) Sy (Go.Proofs.enters_of Go.Proofs.Tryz.func269 (by kernel_rfl) rfl) rfl (by decide) ⟨by decide,by decide⟩ (.inr ⟨rfl,rfl⟩)
def u6:Go.Shelf.Ren:=⟨fun|22=>310|29=>330|30=>331|n=>n,fun|9=>3|24=>26|n=>n,fun n=>n⟩
theorem Sz:JB Go.Proofs.Tryz.prog u6 1 #[.int .i64 0] 8:={
  mixed:=by kernel_rfl
  f22:=⟨ "slices.Insert[[]int,int]", Go.Proofs.Tryz.func310.trans (congrArg some (by kernel_rfl))⟩
  ov:=fun args w=>Go.run_callFunc_extern Go.Proofs.Tryz.func330 (by kernel_rfl) (by kernel_rfl) (by kernel_rfl) (by kernel_rfl) args w
  t0:=Go.Proofs.Tryz.underlying0
  a0:=Go.Proofs.Tryz.isAgg0
  z0:=Go.Proofs.Tryz.sizeOf0
  v0:=Go.Proofs.Tryz.zeroValue0
  t3:=Go.Proofs.Tryz.underlying3
  a3:=Go.Proofs.Tryz.isAgg3
  z3:=Go.Proofs.Tryz.sizeOf3
  v3:=Go.Proofs.Tryz.zeroValue3
  t4:=Go.Proofs.Tryz.underlying4
  a4:=Go.Proofs.Tryz.isAgg4
  z4:=Go.Proofs.Tryz.sizeOf4
  v4:=Go.Proofs.Tryz.zeroValue4
  z9:=Go.Proofs.Tryz.sizeOf3
  t24:=Go.Proofs.Tryz.underlying26
  a24:=Go.Proofs.Tryz.isAgg26
  z24:=Go.Proofs.Tryz.sizeOf26
  v24:=Go.Proofs.Tryz.zeroValue26
  i9:=by kernel_rfl }
def Av:PF:=⟨[(.own,.sl 3 .i64),(.rd,.i64),(.own,.sl 3 .i64)],[.sl 3 .i64],.uniq,bv⟩
theorem WR:Sound Go.Proofs.Tryz.prog GLB 310 Av:=CZ (T:=3) (e:=.i64) (ρ:=u6) Sz (Go.Proofs.enters_of Go.Proofs.Tryz.func310 (by kernel_rfl) rfl) rfl (by decide) ⟨by decide,by decide⟩ (.inr ⟨rfl,rfl⟩)
theorem glb_apart {W:World} (h:GLB.G W) : ∀ b∈GLB.gb,b<W.heap.size∧b∉([]++[]:List Nat):=by
  intro b hb
  refine⟨?_,by simp⟩
  simp only[GLB,List.mem_cons,List.not_mem_nil,or_false] at hb
  rcases hb with rfl|rfl
  · obtain⟨m,hm⟩:=h.1
    exact World.block_lt_of_cell? _ _ hm
  · have h2:=h.2
    simp only[Lib.TabIs,World.var?,gPow_ok,Option.bind_some] at h2
    cases hh:W.heap[c7]? with
    | none=>rw[hh] at h2; cases h2
    | some o=>exact ZK hh
end G448

