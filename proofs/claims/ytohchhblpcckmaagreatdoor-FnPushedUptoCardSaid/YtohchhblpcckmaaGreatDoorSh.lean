/- The kit's contracts of library functions at this program (laid by the kit's own tool), as the evaluator takes them. (Printed by our own program.) -/
import Derived.Test.YtohchhblpcckmaaGreatDoorProg
import Derived.Test.YtohchhblpcckmaaGreatDoorLibH
import Derived.KernelRfl
import Derived.Shelf.LaysM
import Derived.Shelf.Strconv.Itoa3
import Derived.Shelf.Strings.Cut
import Derived.Shelf.Strings.LastIndex
import Derived.Shelf.Strings.Shaped
import Derived.Shelf.Strings.Split
set_option linter.unusedSimpArgs false
set_option linter.unusedVariables false

namespace Go.Proofs
open Go.Shelf
def Tryz.laysM171_ren:Go.Shelf.Ren:=⟨fun|171=>264|243=>288|246=>306|283=>308|284=>309|285=>310|286=>311|129=>313|317=>312|318=>314|319=>315|320=>316|337=>317|338=>318|n=>n,fun|3=>3|9=>9|2=>2|4=>4|171=>275|0=>0|53=>276|37=>22|5=>5|173=>279|212=>285|51=>271|20=>20|213=>286|46=>155|232=>289|233=>290|n=>n,fun|17=>3|18=>4|19=>5|n=>n⟩
theorem Tryz.laysM171:Go.Proofs.LaysM.n171 Tryz.prog Tryz.laysM171_ren:={
  mixed:=by kernel_rfl
  f129:=Tryz.func313.trans (congrArg some (by kernel_rfl))
  f171:=Tryz.func264.trans (congrArg some (by kernel_rfl))
  f243:=Tryz.func288.trans (congrArg some (by kernel_rfl))
  f246:=Tryz.func306.trans (congrArg some (by kernel_rfl))
  f283:=Tryz.func308.trans (congrArg some (by kernel_rfl))
  f284:=Tryz.func309.trans (congrArg some (by kernel_rfl))
  f285:=Tryz.func310.trans (congrArg some (by kernel_rfl))
  f286:=Tryz.func311.trans (congrArg some (by kernel_rfl))
  f317:=Tryz.func312.trans (congrArg some (by kernel_rfl))
  f318:=Tryz.func314.trans (congrArg some (by kernel_rfl))
  f319:=Tryz.func315.trans (congrArg some (by kernel_rfl))
  f320:=Tryz.func316.trans (congrArg some (by kernel_rfl))
  f337:=Tryz.func317.trans (congrArg some (by kernel_rfl))
  f338:=Tryz.func318.trans (congrArg some (by kernel_rfl))
  t0:=Tryz.underlying0
  a0:=Tryz.isAgg0
  z0:=Tryz.sizeOf0
  v0:=Tryz.zeroValue0
  t2:=Tryz.underlying2
  a2:=Tryz.isAgg2
  z2:=Tryz.sizeOf2
  v2:=Tryz.zeroValue2
  t3:=Tryz.underlying3
  a3:=Tryz.isAgg3
  z3:=Tryz.sizeOf3
  v3:=Tryz.zeroValue3
  t4:=Tryz.underlying4
  a4:=Tryz.isAgg4
  z4:=Tryz.sizeOf4
  v4:=Tryz.zeroValue4
  t5:=Tryz.underlying5
  a5:=Tryz.isAgg5
  z5:=Tryz.sizeOf5
  v5:=Tryz.zeroValue5
  t9:=Tryz.underlying9
  a9:=Tryz.isAgg9
  z9:=Tryz.sizeOf9
  v9:=Tryz.zeroValue9
  t20:=Tryz.underlying20
  a20:=Tryz.isAgg20
  z20:=Tryz.sizeOf20
  v20:=Tryz.zeroValue20
  t37:=Tryz.underlying22
  a37:=Tryz.isAgg22
  z37:=Tryz.sizeOf22
  v37:=Tryz.zeroValue22
  t46:=Tryz.underlying155
  a46:=Tryz.isAgg155
  z46:=Tryz.sizeOf155
  v46:=Tryz.zeroValue155
  t51:=Tryz.underlying271
  a51:=Tryz.isAgg271
  z51:=Tryz.sizeOf271
  v51:=Tryz.zeroValue271
  t53:=Tryz.underlying276
  a53:=Tryz.isAgg276
  z53:=Tryz.sizeOf276
  v53:=Tryz.zeroValue276
  t171:=Tryz.underlying275
  a171:=Tryz.isAgg275
  z171:=Tryz.sizeOf275
  v171:=Tryz.zeroValue275
  t173:=Tryz.underlying279
  a173:=Tryz.isAgg279
  z173:=Tryz.sizeOf279
  v173:=Tryz.zeroValue279
  t212:=Tryz.underlying285
  a212:=Tryz.isAgg285
  z212:=Tryz.sizeOf285
  v212:=Tryz.zeroValue285
  t213:=Tryz.underlying286
  a213:=Tryz.isAgg286
  z213:=Tryz.sizeOf286
  t232:=Tryz.underlying289
  a232:=Tryz.isAgg289
  z232:=Tryz.sizeOf289
  v232:=Tryz.zeroValue289
  t233:=Tryz.underlying290
  a233:=Tryz.isAgg290
  z233:=Tryz.sizeOf290
  v233:=Tryz.zeroValue290
  g17:=by kernel_rfl
  g18:=by kernel_rfl
  g19:=by kernel_rfl
  i0:=by kernel_rfl
  i2:=by kernel_rfl
  i3:=by kernel_rfl
  i4:=by kernel_rfl
  i5:=by kernel_rfl
  i9:=by kernel_rfl
  i20:=by kernel_rfl
  i37:=by kernel_rfl
  i46:=by kernel_rfl
  i51:=by kernel_rfl
  i53:=by kernel_rfl
  i171:=by kernel_rfl
  i173:=by kernel_rfl
  i212:=by kernel_rfl
  i232:=by kernel_rfl
  i233:=by kernel_rfl
  m17:=by kernel_rfl
  m18:=by kernel_rfl
  m19:=by kernel_rfl }
open Go.RowKit Go.Sort Go.Lib in
theorem Tryz.strconv_Itoa (n:Int) (h0 : -9223372036854775808≤n) (h1:n≤9223372036854775807) (w:World) (htab:Lib.TabIs Go.Proofs.Tryz.prog w "internal/strconv.uint64pow10" .u64 Lib.pow10Tab) :
    Calls Tryz.prog 264 #[.int .i64 n] w fun e w'=>e = .returned (.string ⟨(Lib.itoa n).toArray⟩) ∧ ∃ k os,w'=grow (w.drewN k) os:=Any.strconv_Itoa Tryz.laysM171 n h0 h1 w htab
def Tryz.lays145_ren:Go.Shelf.Ren:=⟨fun|145=>217|220=>244|219=>263|217=>284|225=>285|224=>286|267=>287|266=>304|314=>305|n=>n,fun|9=>9|4=>4|59=>198|3=>3|5=>5|46=>155|146=>272|51=>271|n=>n,fun|1=>0|n=>n⟩
theorem Tryz.lays145:Go.Proofs.Lays.n145 Tryz.prog Tryz.lays145_ren:={
  mixed:=by kernel_rfl
  f145:=Tryz.func217.trans (congrArg some (by kernel_rfl))
  f217:=Tryz.func284.trans (congrArg some (by kernel_rfl))
  f219:=Tryz.func263.trans (congrArg some (by kernel_rfl))
  f220:=Tryz.func244.trans (congrArg some (by kernel_rfl))
  f224:=Tryz.func286.trans (congrArg some (by kernel_rfl))
  f225:=Tryz.func285.trans (congrArg some (by kernel_rfl))
  f266:=Tryz.func304.trans (congrArg some (by kernel_rfl))
  f267:=Tryz.func287.trans (congrArg some (by kernel_rfl))
  f314:=Tryz.func305.trans (congrArg some (by kernel_rfl))
  t3:=Tryz.underlying3
  a3:=Tryz.isAgg3
  z3:=Tryz.sizeOf3
  v3:=Tryz.zeroValue3
  t4:=Tryz.underlying4
  a4:=Tryz.isAgg4
  z4:=Tryz.sizeOf4
  v4:=Tryz.zeroValue4
  t5:=Tryz.underlying5
  a5:=Tryz.isAgg5
  z5:=Tryz.sizeOf5
  v5:=Tryz.zeroValue5
  t9:=Tryz.underlying9
  a9:=Tryz.isAgg9
  z9:=Tryz.sizeOf9
  v9:=Tryz.zeroValue9
  t46:=Tryz.underlying155
  a46:=Tryz.isAgg155
  z46:=Tryz.sizeOf155
  v46:=Tryz.zeroValue155
  t51:=Tryz.underlying271
  a51:=Tryz.isAgg271
  z51:=Tryz.sizeOf271
  v51:=Tryz.zeroValue271
  t59:=Tryz.underlying198
  a59:=Tryz.isAgg198
  z59:=Tryz.sizeOf198
  v59:=Tryz.zeroValue198
  t146:=Tryz.underlying272
  a146:=Tryz.isAgg272
  z146:=Tryz.sizeOf272
  v146:=Tryz.zeroValue272
  g1:=by kernel_rfl }
open Go.RowKit Go.Lib in
theorem Tryz.strings_Cut (s sep:ByteArray) (m:Int) (w:World) (hs:s.size<4294967281) (hm:w.cell? ⟨0,0,none⟩=some (.int .i64 m)) :
    Calls Tryz.prog 217 #[.string s,.string sep] w fun e w'=>e = .returned (.tuple #[.string ⟨(Lib.cut s.data.toList sep.data.toList).1.toArray⟩,.string ⟨(Lib.cut s.data.toList sep.data.toList).2.1.toArray⟩,.bool (Lib.cut s.data.toList sep.data.toList).2.2]) ∧ ∃ n,w'=w.drewN n:=Any.strings_Cut Tryz.lays145 s sep m w hs hm
def Tryz.lays149_ren:Go.Shelf.Ren:=⟨fun|149=>202|222=>228|n=>n,fun|9=>9|5=>5|3=>3|4=>4|n=>n,fun|n=>n⟩
theorem Tryz.lays149:Go.Proofs.Lays.n149 Tryz.prog Tryz.lays149_ren:={
  mixed:=by kernel_rfl
  f149:=Tryz.func202.trans (congrArg some (by kernel_rfl))
  f222:=Tryz.func228.trans (congrArg some (by kernel_rfl))
  t3:=Tryz.underlying3
  a3:=Tryz.isAgg3
  z3:=Tryz.sizeOf3
  v3:=Tryz.zeroValue3
  t4:=Tryz.underlying4
  a4:=Tryz.isAgg4
  z4:=Tryz.sizeOf4
  v4:=Tryz.zeroValue4
  t5:=Tryz.underlying5
  a5:=Tryz.isAgg5
  z5:=Tryz.sizeOf5
  v5:=Tryz.zeroValue5
  t9:=Tryz.underlying9
  a9:=Tryz.isAgg9
  z9:=Tryz.sizeOf9
  v9:=Tryz.zeroValue9 }
open Go.RowKit Go.Lib in
theorem Tryz.strings_LastIndexByte (s:ByteArray) (c:Int) (hs:s.size<4611686018427387904) (w:World) :
    Calls Tryz.prog 202 #[.string s,.int .u8 c] w fun e w'=>e = .returned (.int .i64 (Lib.lastIndexByte s c))∧w'=w:=Any.strings_LastIndexByte Tryz.lays149 s c hs w
def Tryz.lays146_ren:Go.Shelf.Ren:=⟨fun|146=>243|221=>262|268=>281|138=>282|143=>283|195=>301|197=>302|218=>303|219=>263|260=>307|217=>284|225=>285|224=>286|267=>287|266=>304|314=>305|n=>n,fun|9=>9|31=>196|3=>3|4=>4|0=>0|105=>269|21=>21|5=>5|46=>155|119=>281|139=>284|138=>283|146=>272|51=>271|n=>n,fun|1=>0|3=>1|4=>2|n=>n⟩
theorem Tryz.lays146:Go.Proofs.Lays.n146 Tryz.prog Tryz.lays146_ren:={
  mixed:=by kernel_rfl
  f138:=Tryz.func282.trans (congrArg some (by kernel_rfl))
  f143:=Tryz.func283.trans (congrArg some (by kernel_rfl))
  f146:=Tryz.func243.trans (congrArg some (by kernel_rfl))
  f195:=Tryz.func301.trans (congrArg some (by kernel_rfl))
  f197:=Tryz.func302.trans (congrArg some (by kernel_rfl))
  f217:=Tryz.func284.trans (congrArg some (by kernel_rfl))
  f218:=Tryz.func303.trans (congrArg some (by kernel_rfl))
  f219:=Tryz.func263.trans (congrArg some (by kernel_rfl))
  f221:=Tryz.func262.trans (congrArg some (by kernel_rfl))
  f224:=Tryz.func286.trans (congrArg some (by kernel_rfl))
  f225:=Tryz.func285.trans (congrArg some (by kernel_rfl))
  f260:=Tryz.func307.trans (congrArg some (by kernel_rfl))
  f266:=Tryz.func304.trans (congrArg some (by kernel_rfl))
  f267:=Tryz.func287.trans (congrArg some (by kernel_rfl))
  f268:=Tryz.func281.trans (congrArg some (by kernel_rfl))
  f314:=Tryz.func305.trans (congrArg some (by kernel_rfl))
  t0:=Tryz.underlying0
  a0:=Tryz.isAgg0
  z0:=Tryz.sizeOf0
  v0:=Tryz.zeroValue0
  t3:=Tryz.underlying3
  a3:=Tryz.isAgg3
  z3:=Tryz.sizeOf3
  v3:=Tryz.zeroValue3
  t4:=Tryz.underlying4
  a4:=Tryz.isAgg4
  z4:=Tryz.sizeOf4
  v4:=Tryz.zeroValue4
  t5:=Tryz.underlying5
  a5:=Tryz.isAgg5
  z5:=Tryz.sizeOf5
  v5:=Tryz.zeroValue5
  t9:=Tryz.underlying9
  a9:=Tryz.isAgg9
  z9:=Tryz.sizeOf9
  v9:=Tryz.zeroValue9
  t21:=Tryz.underlying21
  a21:=Tryz.isAgg21
  z21:=Tryz.sizeOf21
  v21:=Tryz.zeroValue21
  t31:=Tryz.underlying196
  a31:=Tryz.isAgg196
  z31:=Tryz.sizeOf196
  v31:=Tryz.zeroValue196
  t46:=Tryz.underlying155
  a46:=Tryz.isAgg155
  z46:=Tryz.sizeOf155
  v46:=Tryz.zeroValue155
  t51:=Tryz.underlying271
  a51:=Tryz.isAgg271
  z51:=Tryz.sizeOf271
  v51:=Tryz.zeroValue271
  t105:=Tryz.underlying269
  a105:=Tryz.isAgg269
  z105:=Tryz.sizeOf269
  v105:=Tryz.zeroValue269
  t119:=Tryz.underlying281
  a119:=Tryz.isAgg281
  z119:=Tryz.sizeOf281
  t138:=Tryz.underlying283
  a138:=Tryz.isAgg283
  z138:=Tryz.sizeOf283
  v138:=Tryz.zeroValue283
  t139:=Tryz.underlying284
  a139:=Tryz.isAgg284
  z139:=Tryz.sizeOf284
  v139:=Tryz.zeroValue284
  t146:=Tryz.underlying272
  a146:=Tryz.isAgg272
  z146:=Tryz.sizeOf272
  v146:=Tryz.zeroValue272
  g1:=by kernel_rfl
  g3:=by kernel_rfl
  g4:=by kernel_rfl }
open Go.RowKit Go.Lib in
theorem Tryz.strings_Split (s sep:ByteArray) (m:Int) (w:World) (hs:s.size<4294967281) (hm:w.cell? ⟨0,0,none⟩=some (.int .i64 m)) (h1:1≤sep.size) :
    Calls Tryz.prog 243 #[.string s,.string sep] w fun e w'=>
      e = .returned (.slice (some ⟨w.heap.size,0,none⟩) (Lib.countB s sep+1) (Lib.countB s sep+1))∧w'=w.alloc (.cells ((Lib.splitB sep 0 (Lib.countB s sep) s).map Value.string).toArray 9):=Any.strings_Split Tryz.lays146 (by kernel_rfl) s sep m w hs hm h1
end Go.Proofs

namespace G448
open Ev Go Go.RowKit
set_option linter.unusedVariables false
set_option maxRecDepth 100000

/-- The type whose rows are whole: posts. -/
instance tagsI:Ev.Tags:=⟨52⟩
noncomputable def cm:Nat:=match Go.Proofs.Tryz.prog.globalNamed "internal/strconv.uint64pow10" with|some g=>g|none=>0
theorem gPow_ok:Go.Proofs.Tryz.prog.globalNamed "internal/strconv.uint64pow10" = some cm:=by kernel_rfl
/-- The library's tables that are read. -/
noncomputable def GLB:Glob where
  gb:=[0,cm]
  G:=fun w=>(∃ m,w.cell? ⟨0,0,none⟩=some (.int .i64 m))∧Lib.TabIs Go.Proofs.Tryz.prog w "internal/strconv.uint64pow10" .u64 Lib.pow10Tab
  frame:=by
    rintro w w' h hb
    obtain⟨h0,h1⟩:=h
    refine⟨?_,?_⟩
    · obtain⟨m,hm⟩:=h0
      refine⟨m,?_⟩
      have e:=hb 0 (by simp)
      simp only[World.cell?] at hm ⊢
      rw[e]; exact hm
    · have e:=hb cm (by simp)
      have h:=h1
      simp only[Lib.TabIs,World.var?,gPow_ok,Option.bind_some] at h ⊢
      rw[e]; exact h
def wg:PF:=⟨[(.rd,.i64)],[.str],.uniq,strconv_Itoa⟩
theorem Ug:Sound Go.Proofs.Tryz.prog GLB 264 wg:=VT (T:=fun w=>Lib.TabIs Go.Proofs.Tryz.prog w "internal/strconv.uint64pow10" .u64 Lib.pow10Tab) (Go.Proofs.enters_of Go.Proofs.Tryz.func264 (by kernel_rfl) rfl) (fun w h=>h.2) (fun n h0 h1 w ht=>Go.Proofs.Tryz.strconv_Itoa n h0 h1 w ht)
def mX:PF:=⟨[(.rd,.str),(.rd,.str)],[.str,.str,.bool],.uniq,strings_Cut⟩
theorem Al:Sound Go.Proofs.Tryz.prog GLB 217 mX:=VJ (Go.Proofs.enters_of Go.Proofs.Tryz.func217 (by kernel_rfl) rfl) (fun w h=>h.1) (fun s sep m w hs hm=>Go.Proofs.Tryz.strings_Cut s sep m w hs hm)
def vG:PF:=⟨[(.rd,.str),(.rd,.u8)],[.i64],.uniq,strings_LastIndexByte⟩
theorem TJ:Sound Go.Proofs.Tryz.prog GLB 202 vG:=VV (Go.Proofs.enters_of Go.Proofs.Tryz.func202 (by kernel_rfl) rfl) Go.Proofs.Tryz.strings_LastIndexByte
def v6:PF:=⟨[(.rd,.str),(.rd,.str)],[.sl 9 .str],.uniq,strings_Split⟩
theorem T7:Sound Go.Proofs.Tryz.prog GLB 243 v6:=Wb (by decide) (Go.Proofs.enters_of Go.Proofs.Tryz.func243 (by kernel_rfl) rfl) (fun w h=>h.1) (fun s sep m w hs hm h1=>Go.Proofs.Tryz.strings_Split s sep m w hs hm h1)
def tk:Go.Shelf.Ren:=⟨fun|22=>104|29=>156|30=>157|n=>n,fun|9=>40|24=>32|n=>n,fun n=>n⟩
theorem Pd:JT Go.Proofs.Tryz.prog tk 3 #[.int .i64 0,.string ⟨#[]⟩,.slice none 0 0] 48:={
  mixed:=by kernel_rfl
  f22:=⟨ "slices.Insert[[]loop.example/g00448/impl.Part,loop.example/g00448/impl.Part]", Go.Proofs.Tryz.func104.trans (congrArg some (by kernel_rfl))⟩
  ov:=fun args w=>Go.run_callFunc_extern Go.Proofs.Tryz.func156 (by kernel_rfl) (by kernel_rfl) (by kernel_rfl) (by kernel_rfl) args w
  t0:=Go.Proofs.Tryz.underlying0
  a0:=Go.Proofs.Tryz.isAgg0
  z0:=Go.Proofs.Tryz.sizeOf0
  v0:=Go.Proofs.Tryz.zeroValue0
  t3:=Go.Proofs.Tryz.underlying3
  a3:=Go.Proofs.Tryz.isAgg3
  z3:=Go.Proofs.Tryz.sizeOf3
  v3:=Go.Proofs.Tryz.zeroValue3
  t4:=Go.Proofs.Tryz.underlying4
  a4:=Go.Proofs.Tryz.isAgg4
  z4:=Go.Proofs.Tryz.sizeOf4
  v4:=Go.Proofs.Tryz.zeroValue4
  z9:=Go.Proofs.Tryz.sizeOf40
  t24:=Go.Proofs.Tryz.underlying32
  a24:=Go.Proofs.Tryz.isAgg32
  z24:=Go.Proofs.Tryz.sizeOf32
  v24:=Go.Proofs.Tryz.zeroValue32
  i9:=by kernel_rfl }
def uL:PF:=⟨[(.own,.sl 40 (.pair .i64 (.pair .str (.sl 3 .i64)))),(.rd,.i64),(.own,.sl 40 (.pair .i64 (.pair .str (.sl 3 .i64))))],[.sl 40 (.pair .i64 (.pair .str (.sl 3 .i64)))],.own,Mh⟩
theorem SY:KH Go.Proofs.Tryz.prog GLB 104 uL:=Vx (T:=40) (e:=(.pair .i64 (.pair .str (.sl 3 .i64)))) (ρ:=tk) Pd (Go.Proofs.enters_of Go.Proofs.Tryz.func104 (by kernel_rfl) rfl) rfl (by decide) ⟨by decide,by decide⟩
def tl:Go.Shelf.Ren:=⟨fun|22=>44|29=>99|30=>100|n=>n,fun|9=>3|24=>26|n=>n,fun n=>n⟩
theorem Pe:JT Go.Proofs.Tryz.prog tl 1 #[.int .i64 0] 8:={
  mixed:=by kernel_rfl
  f22:=⟨ "slices.Insert[[]int,int]", Go.Proofs.Tryz.func44.trans (congrArg some (by kernel_rfl))⟩
  ov:=fun args w=>Go.run_callFunc_extern Go.Proofs.Tryz.func99 (by kernel_rfl) (by kernel_rfl) (by kernel_rfl) (by kernel_rfl) args w
  t0:=Go.Proofs.Tryz.underlying0
  a0:=Go.Proofs.Tryz.isAgg0
  z0:=Go.Proofs.Tryz.sizeOf0
  v0:=Go.Proofs.Tryz.zeroValue0
  t3:=Go.Proofs.Tryz.underlying3
  a3:=Go.Proofs.Tryz.isAgg3
  z3:=Go.Proofs.Tryz.sizeOf3
  v3:=Go.Proofs.Tryz.zeroValue3
  t4:=Go.Proofs.Tryz.underlying4
  a4:=Go.Proofs.Tryz.isAgg4
  z4:=Go.Proofs.Tryz.sizeOf4
  v4:=Go.Proofs.Tryz.zeroValue4
  z9:=Go.Proofs.Tryz.sizeOf3
  t24:=Go.Proofs.Tryz.underlying26
  a24:=Go.Proofs.Tryz.isAgg26
  z24:=Go.Proofs.Tryz.sizeOf26
  v24:=Go.Proofs.Tryz.zeroValue26
  i9:=by kernel_rfl }
def wM:PF:=⟨[(.own,.sl 3 .i64),(.rd,.i64),(.own,.sl 3 .i64)],[.sl 3 .i64],.uniq,aA⟩
theorem UJ:Sound Go.Proofs.Tryz.prog GLB 44 wM:=VS (T:=3) (e:=.i64) (ρ:=tl) Pe (Go.Proofs.enters_of Go.Proofs.Tryz.func44 (by kernel_rfl) rfl) rfl (by decide) ⟨by decide,by decide⟩ (.inr ⟨rfl,rfl⟩)
theorem glb_apart {W:World} (h:GLB.G W) : ∀ b∈GLB.gb,b<W.heap.size∧b∉([]++[]:List Nat):=by
  intro b hb
  refine⟨?_,by simp⟩
  simp only[GLB,List.mem_cons,List.not_mem_nil,or_false] at hb
  rcases hb with rfl|rfl
  · obtain⟨m,hm⟩:=h.1
    exact World.block_lt_of_cell? _ _ hm
  · have h2:=h.2
    simp only[Lib.TabIs,World.var?,gPow_ok,Option.bind_some] at h2
    cases hh:W.heap[cm]? with
    | none=>rw[hh] at h2; cases h2
    | some o=>exact Zw hh
end G448

