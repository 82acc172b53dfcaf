/- The kit's contracts of library functions at this program (laid by the kit's own tool), as the evaluator takes them. (Printed by our own program.) -/
import Derived.Test.YtdddmajoedcnjaaGreatDoorProg
import Derived.Test.YtdddmajoedcnjaaGreatDoorLibH
import Derived.KernelRfl
import Derived.Shelf.LaysM
import Derived.Shelf.Strconv.Itoa3
import Derived.Shelf.Strings.Cut
import Derived.Shelf.Strings.LastIndex
import Derived.Shelf.Strings.Shaped
import Derived.Shelf.Strings.Split
set_option linter.unusedSimpArgs false
set_option linter.unusedVariables false

namespace Go.Proofs
open Go.Shelf
def Tryz.laysM171_ren:Go.Shelf.Ren:=⟨fun|171=>288|243=>300|246=>307|283=>309|284=>310|285=>311|286=>312|129=>314|317=>313|318=>315|319=>316|320=>317|337=>318|338=>319|n=>n,fun|3=>3|9=>9|2=>2|4=>4|171=>252|0=>0|53=>253|37=>31|5=>5|173=>256|212=>262|51=>248|20=>20|213=>263|46=>244|232=>266|233=>267|n=>n,fun|17=>3|18=>4|19=>5|n=>n⟩
theorem Tryz.laysM171:Go.Proofs.LaysM.n171 Tryz.prog Tryz.laysM171_ren:={
  mixed:=by kernel_rfl
  f129:=Tryz.func314.trans (congrArg some (by kernel_rfl))
  f171:=Tryz.func288.trans (congrArg some (by kernel_rfl))
  f243:=Tryz.func300.trans (congrArg some (by kernel_rfl))
  f246:=Tryz.func307.trans (congrArg some (by kernel_rfl))
  f283:=Tryz.func309.trans (congrArg some (by kernel_rfl))
  f284:=Tryz.func310.trans (congrArg some (by kernel_rfl))
  f285:=Tryz.func311.trans (congrArg some (by kernel_rfl))
  f286:=Tryz.func312.trans (congrArg some (by kernel_rfl))
  f317:=Tryz.func313.trans (congrArg some (by kernel_rfl))
  f318:=Tryz.func315.trans (congrArg some (by kernel_rfl))
  f319:=Tryz.func316.trans (congrArg some (by kernel_rfl))
  f320:=Tryz.func317.trans (congrArg some (by kernel_rfl))
  f337:=Tryz.func318.trans (congrArg some (by kernel_rfl))
  f338:=Tryz.func319.trans (congrArg some (by kernel_rfl))
  t0:=Tryz.underlying0
  a0:=Tryz.isAgg0
  z0:=Tryz.sizeOf0
  v0:=Tryz.zeroValue0
  t2:=Tryz.underlying2
  a2:=Tryz.isAgg2
  z2:=Tryz.sizeOf2
  v2:=Tryz.zeroValue2
  t3:=Tryz.underlying3
  a3:=Tryz.isAgg3
  z3:=Tryz.sizeOf3
  v3:=Tryz.zeroValue3
  t4:=Tryz.underlying4
  a4:=Tryz.isAgg4
  z4:=Tryz.sizeOf4
  v4:=Tryz.zeroValue4
  t5:=Tryz.underlying5
  a5:=Tryz.isAgg5
  z5:=Tryz.sizeOf5
  v5:=Tryz.zeroValue5
  t9:=Tryz.underlying9
  a9:=Tryz.isAgg9
  z9:=Tryz.sizeOf9
  v9:=Tryz.zeroValue9
  t20:=Tryz.underlying20
  a20:=Tryz.isAgg20
  z20:=Tryz.sizeOf20
  v20:=Tryz.zeroValue20
  t37:=Tryz.underlying31
  a37:=Tryz.isAgg31
  z37:=Tryz.sizeOf31
  v37:=Tryz.zeroValue31
  t46:=Tryz.underlying244
  a46:=Tryz.isAgg244
  z46:=Tryz.sizeOf244
  v46:=Tryz.zeroValue244
  t51:=Tryz.underlying248
  a51:=Tryz.isAgg248
  z51:=Tryz.sizeOf248
  v51:=Tryz.zeroValue248
  t53:=Tryz.underlying253
  a53:=Tryz.isAgg253
  z53:=Tryz.sizeOf253
  v53:=Tryz.zeroValue253
  t171:=Tryz.underlying252
  a171:=Tryz.isAgg252
  z171:=Tryz.sizeOf252
  v171:=Tryz.zeroValue252
  t173:=Tryz.underlying256
  a173:=Tryz.isAgg256
  z173:=Tryz.sizeOf256
  v173:=Tryz.zeroValue256
  t212:=Tryz.underlying262
  a212:=Tryz.isAgg262
  z212:=Tryz.sizeOf262
  v212:=Tryz.zeroValue262
  t213:=Tryz.underlying263
  a213:=Tryz.isAgg263
  z213:=Tryz.sizeOf263
  t232:=Tryz.underlying266
  a232:=Tryz.isAgg266
  z232:=Tryz.sizeOf266
  v232:=Tryz.zeroValue266
  t233:=Tryz.underlying267
  a233:=Tryz.isAgg267
  z233:=Tryz.sizeOf267
  v233:=Tryz.zeroValue267
  g17:=by kernel_rfl
  g18:=by kernel_rfl
  g19:=by kernel_rfl
  i0:=by kernel_rfl
  i2:=by kernel_rfl
  i3:=by kernel_rfl
  i4:=by kernel_rfl
  i5:=by kernel_rfl
  i9:=by kernel_rfl
  i20:=by kernel_rfl
  i37:=by kernel_rfl
  i46:=by kernel_rfl
  i51:=by kernel_rfl
  i53:=by kernel_rfl
  i171:=by kernel_rfl
  i173:=by kernel_rfl
  i212:=by kernel_rfl
  i232:=by kernel_rfl
  i233:=by kernel_rfl
  m17:=by kernel_rfl
  m18:=by kernel_rfl
  m19:=by kernel_rfl }
open Go.RowKit Go.Sort Go.Lib in
theorem Tryz.strconv_Itoa (n:Int) (h0 : -9223372036854775808≤n) (h1:n≤9223372036854775807) (w:World) (htab:Lib.TabIs Go.Proofs.Tryz.prog w "internal/strconv.uint64pow10" .u64 Lib.pow10Tab) :
    Calls Tryz.prog 288 #[.int .i64 n] w fun e w'=>e = .returned (.string ⟨(Lib.itoa n).toArray⟩) ∧ ∃ k os,w'=grow (w.drewN k) os:=Any.strconv_Itoa Tryz.laysM171 n h0 h1 w htab
def Tryz.lays145_ren:Go.Shelf.Ren:=⟨fun|145=>244|220=>273|219=>287|217=>296|225=>297|224=>298|267=>299|266=>305|314=>306|n=>n,fun|9=>9|4=>4|59=>218|3=>3|5=>5|46=>244|146=>249|51=>248|n=>n,fun|1=>0|n=>n⟩
theorem Tryz.lays145:Go.Proofs.Lays.n145 Tryz.prog Tryz.lays145_ren:={
  mixed:=by kernel_rfl
  f145:=Tryz.func244.trans (congrArg some (by kernel_rfl))
  f217:=Tryz.func296.trans (congrArg some (by kernel_rfl))
  f219:=Tryz.func287.trans (congrArg some (by kernel_rfl))
  f220:=Tryz.func273.trans (congrArg some (by kernel_rfl))
  f224:=Tryz.func298.trans (congrArg some (by kernel_rfl))
  f225:=Tryz.func297.trans (congrArg some (by kernel_rfl))
  f266:=Tryz.func305.trans (congrArg some (by kernel_rfl))
  f267:=Tryz.func299.trans (congrArg some (by kernel_rfl))
  f314:=Tryz.func306.trans (congrArg some (by kernel_rfl))
  t3:=Tryz.underlying3
  a3:=Tryz.isAgg3
  z3:=Tryz.sizeOf3
  v3:=Tryz.zeroValue3
  t4:=Tryz.underlying4
  a4:=Tryz.isAgg4
  z4:=Tryz.sizeOf4
  v4:=Tryz.zeroValue4
  t5:=Tryz.underlying5
  a5:=Tryz.isAgg5
  z5:=Tryz.sizeOf5
  v5:=Tryz.zeroValue5
  t9:=Tryz.underlying9
  a9:=Tryz.isAgg9
  z9:=Tryz.sizeOf9
  v9:=Tryz.zeroValue9
  t46:=Tryz.underlying244
  a46:=Tryz.isAgg244
  z46:=Tryz.sizeOf244
  v46:=Tryz.zeroValue244
  t51:=Tryz.underlying248
  a51:=Tryz.isAgg248
  z51:=Tryz.sizeOf248
  v51:=Tryz.zeroValue248
  t59:=Tryz.underlying218
  a59:=Tryz.isAgg218
  z59:=Tryz.sizeOf218
  v59:=Tryz.zeroValue218
  t146:=Tryz.underlying249
  a146:=Tryz.isAgg249
  z146:=Tryz.sizeOf249
  v146:=Tryz.zeroValue249
  g1:=by kernel_rfl }
open Go.RowKit Go.Lib in
theorem Tryz.strings_Cut (s sep:ByteArray) (m:Int) (w:World) (hs:s.size<4294967281) (hm:w.cell? ⟨0,0,none⟩=some (.int .i64 m)) :
    Calls Tryz.prog 244 #[.string s,.string sep] w fun e w'=>e = .returned (.tuple #[.string ⟨(Lib.cut s.data.toList sep.data.toList).1.toArray⟩,.string ⟨(Lib.cut s.data.toList sep.data.toList).2.1.toArray⟩,.bool (Lib.cut s.data.toList sep.data.toList).2.2]) ∧ ∃ n,w'=w.drewN n:=Any.strings_Cut Tryz.lays145 s sep m w hs hm
def Tryz.lays149_ren:Go.Shelf.Ren:=⟨fun|149=>208|222=>250|n=>n,fun|9=>9|5=>5|3=>3|4=>4|n=>n,fun|n=>n⟩
theorem Tryz.lays149:Go.Proofs.Lays.n149 Tryz.prog Tryz.lays149_ren:={
  mixed:=by kernel_rfl
  f149:=Tryz.func208.trans (congrArg some (by kernel_rfl))
  f222:=Tryz.func250.trans (congrArg some (by kernel_rfl))
  t3:=Tryz.underlying3
  a3:=Tryz.isAgg3
  z3:=Tryz.sizeOf3
  v3:=Tryz.zeroValue3
  t4:=Tryz.underlying4
  a4:=Tryz.isAgg4
  z4:=Tryz.sizeOf4
  v4:=Tryz.zeroValue4
  t5:=Tryz.underlying5
  a5:=Tryz.isAgg5
  z5:=Tryz.sizeOf5
  v5:=Tryz.zeroValue5
  t9:=Tryz.underlying9
  a9:=Tryz.isAgg9
  z9:=Tryz.sizeOf9
  v9:=Tryz.zeroValue9 }
open Go.RowKit Go.Lib in
theorem Tryz.strings_LastIndexByte (s:ByteArray) (c:Int) (hs:s.size<4611686018427387904) (w:World) :
    Calls Tryz.prog 208 #[.string s,.int .u8 c] w fun e w'=>e = .returned (.int .i64 (Lib.lastIndexByte s c))∧w'=w:=Any.strings_LastIndexByte Tryz.lays149 s c hs w
def Tryz.lays146_ren:Go.Shelf.Ren:=⟨fun|146=>272|221=>286|268=>293|138=>294|143=>295|195=>302|197=>303|218=>304|219=>287|260=>308|217=>296|225=>297|224=>298|267=>299|266=>305|314=>306|n=>n,fun|9=>9|31=>216|3=>3|4=>4|0=>0|105=>246|21=>21|5=>5|46=>244|119=>258|139=>261|138=>260|146=>249|51=>248|n=>n,fun|1=>0|3=>1|4=>2|n=>n⟩
theorem Tryz.lays146:Go.Proofs.Lays.n146 Tryz.prog Tryz.lays146_ren:={
  mixed:=by kernel_rfl
  f138:=Tryz.func294.trans (congrArg some (by kernel_rfl))
  f143:=Tryz.func295.trans (congrArg some (by kernel_rfl))
  f146:=Tryz.func272.trans (congrArg some (by kernel_rfl))
  f195:=Tryz.func302.trans (congrArg some (by kernel_rfl))
  f197:=Tryz.func303.trans (congrArg some (by kernel_rfl))
  f217:=Tryz.func296.trans (congrArg some (by kernel_rfl))
  f218:=Tryz.func304.trans (congrArg some (by kernel_rfl))
  f219:=Tryz.func287.trans (congrArg some (by kernel_rfl))
  f221:=Tryz.func286.trans (congrArg some (by kernel_rfl))
  f224:=Tryz.func298.trans (congrArg some (by kernel_rfl))
  f225:=Tryz.func297.trans (congrArg some (by kernel_rfl))
  f260:=Tryz.func308.trans (congrArg some (by kernel_rfl))
  f266:=Tryz.func305.trans (congrArg some (by kernel_rfl))
  f267:=Tryz.func299.trans (congrArg some (by kernel_rfl))
  f268:=Tryz.func293.trans (congrArg some (by kernel_rfl))
  f314:=Tryz.func306.trans (congrArg some (by kernel_rfl))
  t0:=Tryz.underlying0
  a0:=Tryz.isAgg0
  z0:=Tryz.sizeOf0
  v0:=Tryz.zeroValue0
  t3:=Tryz.underlying3
  a3:=Tryz.isAgg3
  z3:=Tryz.sizeOf3
  v3:=Tryz.zeroValue3
  t4:=Tryz.underlying4
  a4:=Tryz.isAgg4
  z4:=Tryz.sizeOf4
  v4:=Tryz.zeroValue4
  t5:=Tryz.underlying5
  a5:=Tryz.isAgg5
  z5:=Tryz.sizeOf5
  v5:=Tryz.zeroValue5
  t9:=Tryz.underlying9
  a9:=Tryz.isAgg9
  z9:=Tryz.sizeOf9
  v9:=Tryz.zeroValue9
  t21:=Tryz.underlying21
  a21:=Tryz.isAgg21
  z21:=Tryz.sizeOf21
  v21:=Tryz.zeroValue21
  t31:=Tryz.underlying216
  a31:=Tryz.isAgg216
  z31:=Tryz.sizeOf216
  v31:=Tryz.zeroValue216
  t46:=Tryz.underlying244
  a46:=Tryz.isAgg244
  z46:=Tryz.sizeOf244
  v46:=Tryz.zeroValue244
  t51:=Tryz.underlying248
  a51:=Tryz.isAgg248
  z51:=Tryz.sizeOf248
  v51:=Tryz.zeroValue248
  t105:=Tryz.underlying246
  a105:=Tryz.isAgg246
  z105:=Tryz.sizeOf246
  v105:=Tryz.zeroValue246
  t119:=Tryz.underlying258
  a119:=Tryz.isAgg258
  z119:=Tryz.sizeOf258
  t138:=Tryz.underlying260
  a138:=Tryz.isAgg260
  z138:=Tryz.sizeOf260
  v138:=Tryz.zeroValue260
  t139:=Tryz.underlying261
  a139:=Tryz.isAgg261
  z139:=Tryz.sizeOf261
  v139:=Tryz.zeroValue261
  t146:=Tryz.underlying249
  a146:=Tryz.isAgg249
  z146:=Tryz.sizeOf249
  v146:=Tryz.zeroValue249
  g1:=by kernel_rfl
  g3:=by kernel_rfl
  g4:=by kernel_rfl }
open Go.RowKit Go.Lib in
theorem Tryz.strings_Split (s sep:ByteArray) (m:Int) (w:World) (hs:s.size<4294967281) (hm:w.cell? ⟨0,0,none⟩=some (.int .i64 m)) (h1:1≤sep.size) :
    Calls Tryz.prog 272 #[.string s,.string sep] w fun e w'=>
      e = .returned (.slice (some ⟨w.heap.size,0,none⟩) (Lib.countB s sep+1) (Lib.countB s sep+1))∧w'=w.alloc (.cells ((Lib.splitB sep 0 (Lib.countB s sep) s).map Value.string).toArray 9):=Any.strings_Split Tryz.lays146 (by kernel_rfl) s sep m w hs hm h1
end Go.Proofs

namespace G448
open Ev Go Go.RowKit
set_option linter.unusedVariables false
set_option maxRecDepth 100000
noncomputable def gPow:Nat:=match Go.Proofs.Tryz.prog.globalNamed "internal/strconv.uint64pow10" with|some g=>g|none=>0
theorem gPow_ok:Go.Proofs.Tryz.prog.globalNamed "internal/strconv.uint64pow10" = some gPow:=by kernel_rfl
/-- The library's tables that are read. -/
noncomputable def GLB:Glob where
  gb:=[0,gPow]
  G:=fun w=>(∃ m,w.cell? ⟨0,0,none⟩=some (.int .i64 m))∧Lib.TabIs Go.Proofs.Tryz.prog w "internal/strconv.uint64pow10" .u64 Lib.pow10Tab
  frame:=by
    rintro w w' h hb
    obtain⟨h0,h1⟩:=h
    refine⟨?_,?_⟩
    · obtain⟨m,hm⟩:=h0
      refine⟨m,?_⟩
      have e:=hb 0 (by simp)
      simp only[World.cell?] at hm ⊢
      rw[e]; exact hm
    · have e:=hb gPow (by simp)
      have h:=h1
      simp only[Lib.TabIs,World.var?,gPow_ok,Option.bind_some] at h ⊢
      rw[e]; exact h
def pf288:PF:=⟨[(.rd,.i64)],[.str],.uniq,strconv_Itoa⟩
theorem s288:Sound Go.Proofs.Tryz.prog GLB 288 pf288:=sound_itoa (T:=fun w=>Lib.TabIs Go.Proofs.Tryz.prog w "internal/strconv.uint64pow10" .u64 Lib.pow10Tab) (Go.Proofs.enters_of Go.Proofs.Tryz.func288 (by kernel_rfl) rfl) (fun w h=>h.2) (fun n h0 h1 w ht=>Go.Proofs.Tryz.strconv_Itoa n h0 h1 w ht)
def pf244:PF:=⟨[(.rd,.str),(.rd,.str)],[.str,.str,.bool],.uniq,strings_Cut⟩
theorem s244:Sound Go.Proofs.Tryz.prog GLB 244 pf244:=sound_cut (Go.Proofs.enters_of Go.Proofs.Tryz.func244 (by kernel_rfl) rfl) (fun w h=>h.1) (fun s sep m w hs hm=>Go.Proofs.Tryz.strings_Cut s sep m w hs hm)
def pf208:PF:=⟨[(.rd,.str),(.rd,.u8)],[.i64],.uniq,strings_LastIndexByte⟩
theorem s208:Sound Go.Proofs.Tryz.prog GLB 208 pf208:=sound_lastIndexByte (Go.Proofs.enters_of Go.Proofs.Tryz.func208 (by kernel_rfl) rfl) Go.Proofs.Tryz.strings_LastIndexByte
def pf272:PF:=⟨[(.rd,.str),(.rd,.str)],[.sl 9 .str],.uniq,strings_Split⟩
theorem s272:Sound Go.Proofs.Tryz.prog GLB 272 pf272:=sound_split (Go.Proofs.enters_of Go.Proofs.Tryz.func272 (by kernel_rfl) rfl) (fun w h=>h.1) (fun s sep m w hs hm h1=>Go.Proofs.Tryz.strings_Split s sep m w hs hm h1)
def insR131:Go.Shelf.Ren:=⟨fun|22=>131|29=>195|30=>196|n=>n,fun|9=>72|24=>42|n=>n,fun n=>n⟩
theorem insOk131:InsOk Go.Proofs.Tryz.prog insR131 3 #[.int .i64 0,.string ⟨#[]⟩,.slice none 0 0] 48:={
  mixed:=by kernel_rfl
  f22:=⟨ "slices.Insert[[]loop.example/g00448/impl.Part,loop.example/g00448/impl.Part]", Go.Proofs.Tryz.func131.trans (congrArg some (by kernel_rfl))⟩
  ov:=fun args w=>Go.run_callFunc_extern Go.Proofs.Tryz.func195 (by kernel_rfl) (by kernel_rfl) (by kernel_rfl) (by kernel_rfl) args w
  t0:=Go.Proofs.Tryz.underlying0
  a0:=Go.Proofs.Tryz.isAgg0
  z0:=Go.Proofs.Tryz.sizeOf0
  v0:=Go.Proofs.Tryz.zeroValue0
  t3:=Go.Proofs.Tryz.underlying3
  a3:=Go.Proofs.Tryz.isAgg3
  z3:=Go.Proofs.Tryz.sizeOf3
  v3:=Go.Proofs.Tryz.zeroValue3
  t4:=Go.Proofs.Tryz.underlying4
  a4:=Go.Proofs.Tryz.isAgg4
  z4:=Go.Proofs.Tryz.sizeOf4
  v4:=Go.Proofs.Tryz.zeroValue4
  z9:=Go.Proofs.Tryz.sizeOf72
  t24:=Go.Proofs.Tryz.underlying42
  a24:=Go.Proofs.Tryz.isAgg42
  z24:=Go.Proofs.Tryz.sizeOf42
  v24:=Go.Proofs.Tryz.zeroValue42
  i9:=by kernel_rfl }
def pf131:PF:=⟨[(.own,.sl 72 (.pair .i64 (.pair .str (.sl 3 .i64)))),(.rd,.i64),(.own,.sl 72 (.pair .i64 (.pair .str (.sl 3 .i64))))],[.sl 72 (.pair .i64 (.pair .str (.sl 3 .i64)))],.own,slices_Insert_impl_Part⟩
theorem s131:SoundJ Go.Proofs.Tryz.prog GLB 131 pf131:=soundJ_insert (T:=72) (e:=(.pair .i64 (.pair .str (.sl 3 .i64)))) (ρ:=insR131) insOk131 (Go.Proofs.enters_of Go.Proofs.Tryz.func131 (by kernel_rfl) rfl) rfl (by decide)
def insR268:Go.Shelf.Ren:=⟨fun|22=>268|29=>283|30=>284|n=>n,fun|9=>3|24=>24|n=>n,fun n=>n⟩
theorem insOk268:InsOk Go.Proofs.Tryz.prog insR268 1 #[.int .i64 0] 8:={
  mixed:=by kernel_rfl
  f22:=⟨ "slices.Insert[[]int,int]", Go.Proofs.Tryz.func268.trans (congrArg some (by kernel_rfl))⟩
  ov:=fun args w=>Go.run_callFunc_extern Go.Proofs.Tryz.func283 (by kernel_rfl) (by kernel_rfl) (by kernel_rfl) (by kernel_rfl) args w
  t0:=Go.Proofs.Tryz.underlying0
  a0:=Go.Proofs.Tryz.isAgg0
  z0:=Go.Proofs.Tryz.sizeOf0
  v0:=Go.Proofs.Tryz.zeroValue0
  t3:=Go.Proofs.Tryz.underlying3
  a3:=Go.Proofs.Tryz.isAgg3
  z3:=Go.Proofs.Tryz.sizeOf3
  v3:=Go.Proofs.Tryz.zeroValue3
  t4:=Go.Proofs.Tryz.underlying4
  a4:=Go.Proofs.Tryz.isAgg4
  z4:=Go.Proofs.Tryz.sizeOf4
  v4:=Go.Proofs.Tryz.zeroValue4
  z9:=Go.Proofs.Tryz.sizeOf3
  t24:=Go.Proofs.Tryz.underlying24
  a24:=Go.Proofs.Tryz.isAgg24
  z24:=Go.Proofs.Tryz.sizeOf24
  v24:=Go.Proofs.Tryz.zeroValue24
  i9:=by kernel_rfl }
def pf268:PF:=⟨[(.own,.sl 3 .i64),(.rd,.i64),(.own,.sl 3 .i64)],[.sl 3 .i64],.uniq,slices_Insert_int⟩
theorem s268:Sound Go.Proofs.Tryz.prog GLB 268 pf268:=sound_insert (T:=3) (e:=.i64) (ρ:=insR268) insOk268 (Go.Proofs.enters_of Go.Proofs.Tryz.func268 (by kernel_rfl) rfl) rfl (by decide) (.inr ⟨rfl,rfl⟩)
theorem glb_apart {W:World} (h:GLB.G W) : ∀ b∈GLB.gb,b<W.heap.size∧b∉([]++[]:List Nat):=by
  intro b hb
  refine⟨?_,by simp⟩
  simp only[GLB,List.mem_cons,List.not_mem_nil,or_false] at hb
  rcases hb with rfl|rfl
  · obtain⟨m,hm⟩:=h.1
    exact World.block_lt_of_cell? _ _ hm
  · have h2:=h.2
    simp only[Lib.TabIs,World.var?,gPow_ok,Option.bind_some] at h2
    cases hh:W.heap[gPow]? with
    | none=>rw[hh] at h2; cases h2
    | some o=>exact lt_of_get hh
end G448

