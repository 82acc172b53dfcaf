/- The kit's contracts of library functions at this program (laid by the kit's own tool), as the evaluator takes them. (Printed by our own program.) -/
import Derived.Test.YtnkmhndcjjoacaaGreatDoorProg
import Derived.Test.YtnkmhndcjjoacaaGreatDoorLibH
import Derived.KernelRfl
import Derived.Shelf.LaysM
import Derived.Shelf.Strconv.Itoa3
import Derived.Shelf.Strings.Cut
import Derived.Shelf.Strings.LastIndex
import Derived.Shelf.Strings.Shaped
import Derived.Shelf.Strings.Split
set_option linter.unusedSimpArgs false
set_option linter.unusedVariables false

namespace Go.Proofs
open Go.Shelf
def Tryz.laysM171_ren:Go.Shelf.Ren:=⟨fun|171=>238|243=>252|246=>260|283=>263|284=>264|285=>265|286=>266|129=>269|317=>268|318=>270|319=>271|320=>272|337=>273|338=>274|n=>n,fun|3=>3|9=>9|2=>2|4=>4|171=>223|0=>0|53=>224|37=>31|5=>5|173=>227|212=>234|51=>219|20=>20|213=>235|46=>215|232=>238|233=>239|n=>n,fun|17=>3|18=>4|19=>5|n=>n⟩
theorem Tryz.laysM171:Go.Proofs.LaysM.n171 Tryz.prog Tryz.laysM171_ren:={
  mixed:=by kernel_rfl
  f129:=Tryz.func269.trans (congrArg some (by kernel_rfl))
  f171:=Tryz.func238.trans (congrArg some (by kernel_rfl))
  f243:=Tryz.func252.trans (congrArg some (by kernel_rfl))
  f246:=Tryz.func260.trans (congrArg some (by kernel_rfl))
  f283:=Tryz.func263.trans (congrArg some (by kernel_rfl))
  f284:=Tryz.func264.trans (congrArg some (by kernel_rfl))
  f285:=Tryz.func265.trans (congrArg some (by kernel_rfl))
  f286:=Tryz.func266.trans (congrArg some (by kernel_rfl))
  f317:=Tryz.func268.trans (congrArg some (by kernel_rfl))
  f318:=Tryz.func270.trans (congrArg some (by kernel_rfl))
  f319:=Tryz.func271.trans (congrArg some (by kernel_rfl))
  f320:=Tryz.func272.trans (congrArg some (by kernel_rfl))
  f337:=Tryz.func273.trans (congrArg some (by kernel_rfl))
  f338:=Tryz.func274.trans (congrArg some (by kernel_rfl))
  t0:=Tryz.underlying0
  a0:=Tryz.isAgg0
  z0:=Tryz.sizeOf0
  v0:=Tryz.zeroValue0
  t2:=Tryz.underlying2
  a2:=Tryz.isAgg2
  z2:=Tryz.sizeOf2
  v2:=Tryz.zeroValue2
  t3:=Tryz.underlying3
  a3:=Tryz.isAgg3
  z3:=Tryz.sizeOf3
  v3:=Tryz.zeroValue3
  t4:=Tryz.underlying4
  a4:=Tryz.isAgg4
  z4:=Tryz.sizeOf4
  v4:=Tryz.zeroValue4
  t5:=Tryz.underlying5
  a5:=Tryz.isAgg5
  z5:=Tryz.sizeOf5
  v5:=Tryz.zeroValue5
  t9:=Tryz.underlying9
  a9:=Tryz.isAgg9
  z9:=Tryz.sizeOf9
  v9:=Tryz.zeroValue9
  t20:=Tryz.underlying20
  a20:=Tryz.isAgg20
  z20:=Tryz.sizeOf20
  v20:=Tryz.zeroValue20
  t37:=Tryz.underlying31
  a37:=Tryz.isAgg31
  z37:=Tryz.sizeOf31
  v37:=Tryz.zeroValue31
  t46:=Tryz.underlying215
  a46:=Tryz.isAgg215
  z46:=Tryz.sizeOf215
  v46:=Tryz.zeroValue215
  t51:=Tryz.underlying219
  a51:=Tryz.isAgg219
  z51:=Tryz.sizeOf219
  v51:=Tryz.zeroValue219
  t53:=Tryz.underlying224
  a53:=Tryz.isAgg224
  z53:=Tryz.sizeOf224
  v53:=Tryz.zeroValue224
  t171:=Tryz.underlying223
  a171:=Tryz.isAgg223
  z171:=Tryz.sizeOf223
  v171:=Tryz.zeroValue223
  t173:=Tryz.underlying227
  a173:=Tryz.isAgg227
  z173:=Tryz.sizeOf227
  v173:=Tryz.zeroValue227
  t212:=Tryz.underlying234
  a212:=Tryz.isAgg234
  z212:=Tryz.sizeOf234
  v212:=Tryz.zeroValue234
  t213:=Tryz.underlying235
  a213:=Tryz.isAgg235
  z213:=Tryz.sizeOf235
  t232:=Tryz.underlying238
  a232:=Tryz.isAgg238
  z232:=Tryz.sizeOf238
  v232:=Tryz.zeroValue238
  t233:=Tryz.underlying239
  a233:=Tryz.isAgg239
  z233:=Tryz.sizeOf239
  v233:=Tryz.zeroValue239
  g17:=by kernel_rfl
  g18:=by kernel_rfl
  g19:=by kernel_rfl
  i0:=by kernel_rfl
  i2:=by kernel_rfl
  i3:=by kernel_rfl
  i4:=by kernel_rfl
  i5:=by kernel_rfl
  i9:=by kernel_rfl
  i20:=by kernel_rfl
  i37:=by kernel_rfl
  i46:=by kernel_rfl
  i51:=by kernel_rfl
  i53:=by kernel_rfl
  i171:=by kernel_rfl
  i173:=by kernel_rfl
  i212:=by kernel_rfl
  i232:=by kernel_rfl
  i233:=by kernel_rfl
  m17:=by kernel_rfl
  m18:=by kernel_rfl
  m19:=by kernel_rfl }
open Go.RowKit Go.Sort Go.Lib in
theorem Tryz.strconv_Itoa (n:Int) (h0 : -9223372036854775808≤n) (h1:n≤9223372036854775807) (w:World) (htab:Lib.TabIs Go.Proofs.Tryz.prog w "internal/strconv.uint64pow10" .u64 Lib.pow10Tab) :
    Calls Tryz.prog 238 #[.int .i64 n] w fun e w'=>e = .returned (.string ⟨(Lib.itoa n).toArray⟩) ∧ ∃ k os,w'=grow (w.drewN k) os:=Any.strconv_Itoa Tryz.laysM171 n h0 h1 w htab
def Tryz.lays145_ren:Go.Shelf.Ren:=⟨fun|145=>182|220=>220|219=>237|217=>248|225=>249|224=>250|267=>251|266=>258|314=>259|n=>n,fun|9=>9|4=>4|59=>180|3=>3|5=>5|46=>215|146=>220|51=>219|n=>n,fun|1=>0|n=>n⟩
theorem Tryz.lays145:Go.Proofs.Lays.n145 Tryz.prog Tryz.lays145_ren:={
  mixed:=by kernel_rfl
  f145:=Tryz.func182.trans (congrArg some (by kernel_rfl))
  f217:=Tryz.func248.trans (congrArg some (by kernel_rfl))
  f219:=Tryz.func237.trans (congrArg some (by kernel_rfl))
  f220:=Tryz.func220.trans (congrArg some (by kernel_rfl))
  f224:=Tryz.func250.trans (congrArg some (by kernel_rfl))
  f225:=Tryz.func249.trans (congrArg some (by kernel_rfl))
  f266:=Tryz.func258.trans (congrArg some (by kernel_rfl))
  f267:=Tryz.func251.trans (congrArg some (by kernel_rfl))
  f314:=Tryz.func259.trans (congrArg some (by kernel_rfl))
  t3:=Tryz.underlying3
  a3:=Tryz.isAgg3
  z3:=Tryz.sizeOf3
  v3:=Tryz.zeroValue3
  t4:=Tryz.underlying4
  a4:=Tryz.isAgg4
  z4:=Tryz.sizeOf4
  v4:=Tryz.zeroValue4
  t5:=Tryz.underlying5
  a5:=Tryz.isAgg5
  z5:=Tryz.sizeOf5
  v5:=Tryz.zeroValue5
  t9:=Tryz.underlying9
  a9:=Tryz.isAgg9
  z9:=Tryz.sizeOf9
  v9:=Tryz.zeroValue9
  t46:=Tryz.underlying215
  a46:=Tryz.isAgg215
  z46:=Tryz.sizeOf215
  v46:=Tryz.zeroValue215
  t51:=Tryz.underlying219
  a51:=Tryz.isAgg219
  z51:=Tryz.sizeOf219
  v51:=Tryz.zeroValue219
  t59:=Tryz.underlying180
  a59:=Tryz.isAgg180
  z59:=Tryz.sizeOf180
  v59:=Tryz.zeroValue180
  t146:=Tryz.underlying220
  a146:=Tryz.isAgg220
  z146:=Tryz.sizeOf220
  v146:=Tryz.zeroValue220
  g1:=by kernel_rfl }
open Go.RowKit Go.Lib in
theorem Tryz.strings_Cut (s sep:ByteArray) (m:Int) (w:World) (hs:s.size<4294967281) (hm:w.cell? ⟨0,0,none⟩=some (.int .i64 m)) :
    Calls Tryz.prog 182 #[.string s,.string sep] w fun e w'=>e = .returned (.tuple #[.string ⟨(Lib.cut s.data.toList sep.data.toList).1.toArray⟩,.string ⟨(Lib.cut s.data.toList sep.data.toList).2.1.toArray⟩,.bool (Lib.cut s.data.toList sep.data.toList).2.2]) ∧ ∃ n,w'=w.drewN n:=Any.strings_Cut Tryz.lays145 s sep m w hs hm
def Tryz.lays149_ren:Go.Shelf.Ren:=⟨fun|149=>178|222=>217|n=>n,fun|9=>9|5=>5|3=>3|4=>4|n=>n,fun|n=>n⟩
theorem Tryz.lays149:Go.Proofs.Lays.n149 Tryz.prog Tryz.lays149_ren:={
  mixed:=by kernel_rfl
  f149:=Tryz.func178.trans (congrArg some (by kernel_rfl))
  f222:=Tryz.func217.trans (congrArg some (by kernel_rfl))
  t3:=Tryz.underlying3
  a3:=Tryz.isAgg3
  z3:=Tryz.sizeOf3
  v3:=Tryz.zeroValue3
  t4:=Tryz.underlying4
  a4:=Tryz.isAgg4
  z4:=Tryz.sizeOf4
  v4:=Tryz.zeroValue4
  t5:=Tryz.underlying5
  a5:=Tryz.isAgg5
  z5:=Tryz.sizeOf5
  v5:=Tryz.zeroValue5
  t9:=Tryz.underlying9
  a9:=Tryz.isAgg9
  z9:=Tryz.sizeOf9
  v9:=Tryz.zeroValue9 }
open Go.RowKit Go.Lib in
theorem Tryz.strings_LastIndexByte (s:ByteArray) (c:Int) (hs:s.size<4611686018427387904) (w:World) :
    Calls Tryz.prog 178 #[.string s,.int .u8 c] w fun e w'=>e = .returned (.int .i64 (Lib.lastIndexByte s c))∧w'=w:=Any.strings_LastIndexByte Tryz.lays149 s c hs w
def Tryz.lays146_ren:Go.Shelf.Ren:=⟨fun|146=>219|221=>236|268=>245|138=>246|143=>247|195=>255|197=>256|218=>257|219=>237|260=>262|217=>248|225=>249|224=>250|267=>251|266=>258|314=>259|n=>n,fun|9=>9|31=>178|3=>3|4=>4|0=>0|105=>217|21=>21|5=>5|46=>215|119=>230|139=>233|138=>232|146=>220|51=>219|n=>n,fun|1=>0|3=>1|4=>2|n=>n⟩
theorem Tryz.lays146:Go.Proofs.Lays.n146 Tryz.prog Tryz.lays146_ren:={
  mixed:=by kernel_rfl
  f138:=Tryz.func246.trans (congrArg some (by kernel_rfl))
  f143:=Tryz.func247.trans (congrArg some (by kernel_rfl))
  f146:=Tryz.func219.trans (congrArg some (by kernel_rfl))
  f195:=Tryz.func255.trans (congrArg some (by kernel_rfl))
  f197:=Tryz.func256.trans (congrArg some (by kernel_rfl))
  f217:=Tryz.func248.trans (congrArg some (by kernel_rfl))
  f218:=Tryz.func257.trans (congrArg some (by kernel_rfl))
  f219:=Tryz.func237.trans (congrArg some (by kernel_rfl))
  f221:=Tryz.func236.trans (congrArg some (by kernel_rfl))
  f224:=Tryz.func250.trans (congrArg some (by kernel_rfl))
  f225:=Tryz.func249.trans (congrArg some (by kernel_rfl))
  f260:=Tryz.func262.trans (congrArg some (by kernel_rfl))
  f266:=Tryz.func258.trans (congrArg some (by kernel_rfl))
  f267:=Tryz.func251.trans (congrArg some (by kernel_rfl))
  f268:=Tryz.func245.trans (congrArg some (by kernel_rfl))
  f314:=Tryz.func259.trans (congrArg some (by kernel_rfl))
  t0:=Tryz.underlying0
  a0:=Tryz.isAgg0
  z0:=Tryz.sizeOf0
  v0:=Tryz.zeroValue0
  t3:=Tryz.underlying3
  a3:=Tryz.isAgg3
  z3:=Tryz.sizeOf3
  v3:=Tryz.zeroValue3
  t4:=Tryz.underlying4
  a4:=Tryz.isAgg4
  z4:=Tryz.sizeOf4
  v4:=Tryz.zeroValue4
  t5:=Tryz.underlying5
  a5:=Tryz.isAgg5
  z5:=Tryz.sizeOf5
  v5:=Tryz.zeroValue5
  t9:=Tryz.underlying9
  a9:=Tryz.isAgg9
  z9:=Tryz.sizeOf9
  v9:=Tryz.zeroValue9
  t21:=Tryz.underlying21
  a21:=Tryz.isAgg21
  z21:=Tryz.sizeOf21
  v21:=Tryz.zeroValue21
  t31:=Tryz.underlying178
  a31:=Tryz.isAgg178
  z31:=Tryz.sizeOf178
  v31:=Tryz.zeroValue178
  t46:=Tryz.underlying215
  a46:=Tryz.isAgg215
  z46:=Tryz.sizeOf215
  v46:=Tryz.zeroValue215
  t51:=Tryz.underlying219
  a51:=Tryz.isAgg219
  z51:=Tryz.sizeOf219
  v51:=Tryz.zeroValue219
  t105:=Tryz.underlying217
  a105:=Tryz.isAgg217
  z105:=Tryz.sizeOf217
  v105:=Tryz.zeroValue217
  t119:=Tryz.underlying230
  a119:=Tryz.isAgg230
  z119:=Tryz.sizeOf230
  t138:=Tryz.underlying232
  a138:=Tryz.isAgg232
  z138:=Tryz.sizeOf232
  v138:=Tryz.zeroValue232
  t139:=Tryz.underlying233
  a139:=Tryz.isAgg233
  z139:=Tryz.sizeOf233
  v139:=Tryz.zeroValue233
  t146:=Tryz.underlying220
  a146:=Tryz.isAgg220
  z146:=Tryz.sizeOf220
  v146:=Tryz.zeroValue220
  g1:=by kernel_rfl
  g3:=by kernel_rfl
  g4:=by kernel_rfl }
open Go.RowKit Go.Lib in
theorem Tryz.strings_Split (s sep:ByteArray) (m:Int) (w:World) (hs:s.size<4294967281) (hm:w.cell? ⟨0,0,none⟩=some (.int .i64 m)) (h1:1≤sep.size) :
    Calls Tryz.prog 219 #[.string s,.string sep] w fun e w'=>
      e = .returned (.slice (some ⟨w.heap.size,0,none⟩) (Lib.countB s sep+1) (Lib.countB s sep+1))∧w'=w.alloc (.cells ((Lib.splitB sep 0 (Lib.countB s sep) s).map Value.string).toArray 9):=Any.strings_Split Tryz.lays146 (by kernel_rfl) s sep m w hs hm h1
end Go.Proofs

namespace G448
open Ev Go Go.RowKit
set_option linter.unusedVariables false
set_option maxRecDepth 100000
noncomputable def gPow:Nat:=match Go.Proofs.Tryz.prog.globalNamed "internal/strconv.uint64pow10" with|some g=>g|none=>0
theorem gPow_ok:Go.Proofs.Tryz.prog.globalNamed "internal/strconv.uint64pow10" = some gPow:=by kernel_rfl
/-- The library's tables that are read. -/
noncomputable def GLB:Glob where
  gb:=[0,gPow]
  G:=fun w=>(∃ m,w.cell? ⟨0,0,none⟩=some (.int .i64 m))∧Lib.TabIs Go.Proofs.Tryz.prog w "internal/strconv.uint64pow10" .u64 Lib.pow10Tab
  frame:=by
    rintro w w' h hb
    obtain⟨h0,h1⟩:=h
    refine⟨?_,?_⟩
    · obtain⟨m,hm⟩:=h0
      refine⟨m,?_⟩
      have e:=hb 0 (by simp)
      simp only[World.cell?] at hm ⊢
      rw[e]; exact hm
    · have e:=hb gPow (by simp)
      have h:=h1
      simp only[Lib.TabIs,World.var?,gPow_ok,Option.bind_some] at h ⊢
      rw[e]; exact h
def pf219:PF:=⟨[(.rd,.str),(.rd,.str)],[.sl 9 .str],.uniq,strings_Split⟩
theorem s219:Sound Go.Proofs.Tryz.prog GLB 219 pf219:=sound_split (Go.Proofs.enters_of Go.Proofs.Tryz.func219 (by kernel_rfl) rfl) (fun w h=>h.1) (fun s sep m w hs hm h1=>Go.Proofs.Tryz.strings_Split s sep m w hs hm h1)
def pf182:PF:=⟨[(.rd,.str),(.rd,.str)],[.str,.str,.bool],.uniq,strings_Cut⟩
theorem s182:Sound Go.Proofs.Tryz.prog GLB 182 pf182:=sound_cut (Go.Proofs.enters_of Go.Proofs.Tryz.func182 (by kernel_rfl) rfl) (fun w h=>h.1) (fun s sep m w hs hm=>Go.Proofs.Tryz.strings_Cut s sep m w hs hm)
def pf178:PF:=⟨[(.rd,.str),(.rd,.u8)],[.i64],.uniq,strings_LastIndexByte⟩
theorem s178:Sound Go.Proofs.Tryz.prog GLB 178 pf178:=sound_lastIndexByte (Go.Proofs.enters_of Go.Proofs.Tryz.func178 (by kernel_rfl) rfl) Go.Proofs.Tryz.strings_LastIndexByte
def pf238:PF:=⟨[(.rd,.i64)],[.str],.uniq,strconv_Itoa⟩
theorem s238:Sound Go.Proofs.Tryz.prog GLB 238 pf238:=sound_itoa (T:=fun w=>Lib.TabIs Go.Proofs.Tryz.prog w "internal/strconv.uint64pow10" .u64 Lib.pow10Tab) (Go.Proofs.enters_of Go.Proofs.Tryz.func238 (by kernel_rfl) rfl) (fun w h=>h.2) (fun n h0 h1 w ht=>Go.Proofs.Tryz.strconv_Itoa n h0 h1 w ht)
def insR242:Go.Shelf.Ren:=⟨fun|22=>242|29=>253|30=>254|n=>n,fun|9=>3|24=>24|n=>n,fun n=>n⟩
theorem insOk242:InsOk Go.Proofs.Tryz.prog insR242 1 #[.int .i64 0] 8:={
  mixed:=by kernel_rfl
  f22:=⟨ "slices.Insert[[]int,int]", Go.Proofs.Tryz.func242.trans (congrArg some (by kernel_rfl))⟩
  ov:=fun args w=>Go.run_callFunc_extern Go.Proofs.Tryz.func253 (by kernel_rfl) (by kernel_rfl) (by kernel_rfl) (by kernel_rfl) args w
  t0:=Go.Proofs.Tryz.underlying0
  a0:=Go.Proofs.Tryz.isAgg0
  z0:=Go.Proofs.Tryz.sizeOf0
  v0:=Go.Proofs.Tryz.zeroValue0
  t3:=Go.Proofs.Tryz.underlying3
  a3:=Go.Proofs.Tryz.isAgg3
  z3:=Go.Proofs.Tryz.sizeOf3
  v3:=Go.Proofs.Tryz.zeroValue3
  t4:=Go.Proofs.Tryz.underlying4
  a4:=Go.Proofs.Tryz.isAgg4
  z4:=Go.Proofs.Tryz.sizeOf4
  v4:=Go.Proofs.Tryz.zeroValue4
  z9:=Go.Proofs.Tryz.sizeOf3
  t24:=Go.Proofs.Tryz.underlying24
  a24:=Go.Proofs.Tryz.isAgg24
  z24:=Go.Proofs.Tryz.sizeOf24
  v24:=Go.Proofs.Tryz.zeroValue24
  i9:=by kernel_rfl }
def pf242:PF:=⟨[(.own,.sl 3 .i64),(.rd,.i64),(.own,.sl 3 .i64)],[.sl 3 .i64],.uniq,slices_Insert_int⟩
theorem s242:Sound Go.Proofs.Tryz.prog GLB 242 pf242:=sound_insert (T:=3) (e:=.i64) (ρ:=insR242) insOk242 (Go.Proofs.enters_of Go.Proofs.Tryz.func242 (by kernel_rfl) rfl) rfl (by decide) (.inr ⟨rfl,rfl⟩)
def insR122:Go.Shelf.Ren:=⟨fun|22=>122|29=>191|30=>192|n=>n,fun|9=>87|24=>45|n=>n,fun n=>n⟩
theorem insOk122:InsOk Go.Proofs.Tryz.prog insR122 3 #[.int .i64 0,.string ⟨#[]⟩,.slice none 0 0] 48:={
  mixed:=by kernel_rfl
  f22:=⟨ "slices.Insert[[]loop.example/g00448/impl.Part,loop.example/g00448/impl.Part]", Go.Proofs.Tryz.func122.trans (congrArg some (by kernel_rfl))⟩
  ov:=fun args w=>Go.run_callFunc_extern Go.Proofs.Tryz.func191 (by kernel_rfl) (by kernel_rfl) (by kernel_rfl) (by kernel_rfl) args w
  t0:=Go.Proofs.Tryz.underlying0
  a0:=Go.Proofs.Tryz.isAgg0
  z0:=Go.Proofs.Tryz.sizeOf0
  v0:=Go.Proofs.Tryz.zeroValue0
  t3:=Go.Proofs.Tryz.underlying3
  a3:=Go.Proofs.Tryz.isAgg3
  z3:=Go.Proofs.Tryz.sizeOf3
  v3:=Go.Proofs.Tryz.zeroValue3
  t4:=Go.Proofs.Tryz.underlying4
  a4:=Go.Proofs.Tryz.isAgg4
  z4:=Go.Proofs.Tryz.sizeOf4
  v4:=Go.Proofs.Tryz.zeroValue4
  z9:=Go.Proofs.Tryz.sizeOf87
  t24:=Go.Proofs.Tryz.underlying45
  a24:=Go.Proofs.Tryz.isAgg45
  z24:=Go.Proofs.Tryz.sizeOf45
  v24:=Go.Proofs.Tryz.zeroValue45
  i9:=by kernel_rfl }
def pf122:PF:=⟨[(.own,.sl 87 (.pair .i64 (.pair .str (.sl 3 .i64)))),(.rd,.i64),(.own,.sl 87 (.pair .i64 (.pair .str (.sl 3 .i64))))],[.sl 87 (.pair .i64 (.pair .str (.sl 3 .i64)))],.own,slices_Insert_impl_Part⟩
theorem s122:SoundJ Go.Proofs.Tryz.prog GLB 122 pf122:=soundJ_insert (T:=87) (e:=(.pair .i64 (.pair .str (.sl 3 .i64)))) (ρ:=insR122) insOk122 (Go.Proofs.enters_of Go.Proofs.Tryz.func122 (by kernel_rfl) rfl) rfl (by decide)
theorem glb_apart {W:World} (h:GLB.G W) : ∀ b∈GLB.gb,b<W.heap.size∧b∉([]++[]:List Nat):=by
  intro b hb
  refine⟨?_,by simp⟩
  simp only[GLB,List.mem_cons,List.not_mem_nil,or_false] at hb
  rcases hb with rfl|rfl
  · obtain⟨m,hm⟩:=h.1
    exact World.block_lt_of_cell? _ _ hm
  · have h2:=h.2
    simp only[Lib.TabIs,World.var?,gPow_ok,Option.bind_some] at h2
    cases hh:W.heap[gPow]? with
    | none=>rw[hh] at h2; cases h2
    | some o=>exact lt_of_get hh
end G448

