/- The kit's contracts of library functions at this program (laid by the kit's own tool), as the evaluator takes them. (Printed by our own program.) -/
import Derived.Test.YtojogbjofcckdaaGreatDoorProg
import Derived.Test.YtojogbjofcckdaaGreatDoorLibH
import Derived.KernelRfl
import Derived.Shelf.LaysM
import Derived.Shelf.Strconv.Itoa3
import Derived.Shelf.Strings.Cut
import Derived.Shelf.Strings.LastIndex
import Derived.Shelf.Strings.Shaped
import Derived.Shelf.Strings.Split
set_option linter.unusedSimpArgs false
set_option linter.unusedVariables false

namespace Go.Proofs
open Go.Shelf
def Tryz.laysM171_ren:Go.Shelf.Ren:=⟨fun|171=>122|243=>131|246=>137|283=>139|284=>140|285=>141|286=>142|129=>144|317=>143|318=>145|319=>146|320=>147|337=>148|338=>149|n=>n,fun|3=>3|9=>9|2=>2|4=>4|171=>149|0=>0|53=>150|37=>22|5=>5|173=>153|212=>160|51=>145|20=>20|213=>161|46=>121|232=>165|233=>166|n=>n,fun|17=>3|18=>4|19=>5|n=>n⟩
theorem Tryz.laysM171:Go.Proofs.LaysM.n171 Tryz.prog Tryz.laysM171_ren:={
  mixed:=by kernel_rfl
  f129:=Tryz.func144.trans (congrArg some (by kernel_rfl))
  f171:=Tryz.func122.trans (congrArg some (by kernel_rfl))
  f243:=Tryz.func131.trans (congrArg some (by kernel_rfl))
  f246:=Tryz.func137.trans (congrArg some (by kernel_rfl))
  f283:=Tryz.func139.trans (congrArg some (by kernel_rfl))
  f284:=Tryz.func140.trans (congrArg some (by kernel_rfl))
  f285:=Tryz.func141.trans (congrArg some (by kernel_rfl))
  f286:=Tryz.func142.trans (congrArg some (by kernel_rfl))
  f317:=Tryz.func143.trans (congrArg some (by kernel_rfl))
  f318:=Tryz.func145.trans (congrArg some (by kernel_rfl))
  f319:=Tryz.func146.trans (congrArg some (by kernel_rfl))
  f320:=Tryz.func147.trans (congrArg some (by kernel_rfl))
  f337:=Tryz.func148.trans (congrArg some (by kernel_rfl))
  f338:=Tryz.func149.trans (congrArg some (by kernel_rfl))
  t0:=Tryz.underlying0
  a0:=Tryz.isAgg0
  z0:=Tryz.sizeOf0
  v0:=Tryz.zeroValue0
  t2:=Tryz.underlying2
  a2:=Tryz.isAgg2
  z2:=Tryz.sizeOf2
  v2:=Tryz.zeroValue2
  t3:=Tryz.underlying3
  a3:=Tryz.isAgg3
  z3:=Tryz.sizeOf3
  v3:=Tryz.zeroValue3
  t4:=Tryz.underlying4
  a4:=Tryz.isAgg4
  z4:=Tryz.sizeOf4
  v4:=Tryz.zeroValue4
  t5:=Tryz.underlying5
  a5:=Tryz.isAgg5
  z5:=Tryz.sizeOf5
  v5:=Tryz.zeroValue5
  t9:=Tryz.underlying9
  a9:=Tryz.isAgg9
  z9:=Tryz.sizeOf9
  v9:=Tryz.zeroValue9
  t20:=Tryz.underlying20
  a20:=Tryz.isAgg20
  z20:=Tryz.sizeOf20
  v20:=Tryz.zeroValue20
  t37:=Tryz.underlying22
  a37:=Tryz.isAgg22
  z37:=Tryz.sizeOf22
  v37:=Tryz.zeroValue22
  t46:=Tryz.underlying121
  a46:=Tryz.isAgg121
  z46:=Tryz.sizeOf121
  v46:=Tryz.zeroValue121
  t51:=Tryz.underlying145
  a51:=Tryz.isAgg145
  z51:=Tryz.sizeOf145
  v51:=Tryz.zeroValue145
  t53:=Tryz.underlying150
  a53:=Tryz.isAgg150
  z53:=Tryz.sizeOf150
  v53:=Tryz.zeroValue150
  t171:=Tryz.underlying149
  a171:=Tryz.isAgg149
  z171:=Tryz.sizeOf149
  v171:=Tryz.zeroValue149
  t173:=Tryz.underlying153
  a173:=Tryz.isAgg153
  z173:=Tryz.sizeOf153
  v173:=Tryz.zeroValue153
  t212:=Tryz.underlying160
  a212:=Tryz.isAgg160
  z212:=Tryz.sizeOf160
  v212:=Tryz.zeroValue160
  t213:=Tryz.underlying161
  a213:=Tryz.isAgg161
  z213:=Tryz.sizeOf161
  t232:=Tryz.underlying165
  a232:=Tryz.isAgg165
  z232:=Tryz.sizeOf165
  v232:=Tryz.zeroValue165
  t233:=Tryz.underlying166
  a233:=Tryz.isAgg166
  z233:=Tryz.sizeOf166
  v233:=Tryz.zeroValue166
  g17:=by kernel_rfl
  g18:=by kernel_rfl
  g19:=by kernel_rfl
  i0:=by kernel_rfl
  i2:=by kernel_rfl
  i3:=by kernel_rfl
  i4:=by kernel_rfl
  i5:=by kernel_rfl
  i9:=by kernel_rfl
  i20:=by kernel_rfl
  i37:=by kernel_rfl
  i46:=by kernel_rfl
  i51:=by kernel_rfl
  i53:=by kernel_rfl
  i171:=by kernel_rfl
  i173:=by kernel_rfl
  i212:=by kernel_rfl
  i232:=by kernel_rfl
  i233:=by kernel_rfl
  m17:=by kernel_rfl
  m18:=by kernel_rfl
  m19:=by kernel_rfl }
open Go.RowKit Go.Sort Go.Lib in
theorem Tryz.strconv_Itoa (n:Int) (h0 : -9223372036854775808≤n) (h1:n≤9223372036854775807) (w:World) (htab:Lib.TabIs Go.Proofs.Tryz.prog w "internal/strconv.uint64pow10" .u64 Lib.pow10Tab) :
    Calls Tryz.prog 122 #[.int .i64 n] w fun e w'=>e = .returned (.string ⟨(Lib.itoa n).toArray⟩) ∧ ∃ k os,w'=grow (w.drewN k) os:=Any.strconv_Itoa Tryz.laysM171 n h0 h1 w htab
def Tryz.lays145_ren:Go.Shelf.Ren:=⟨fun|145=>106|220=>116|219=>121|217=>127|225=>128|224=>129|267=>130|266=>135|314=>136|n=>n,fun|9=>9|4=>4|59=>127|3=>3|5=>5|46=>121|146=>146|51=>145|n=>n,fun|1=>0|n=>n⟩
theorem Tryz.lays145:Go.Proofs.Lays.n145 Tryz.prog Tryz.lays145_ren:={
  mixed:=by kernel_rfl
  f145:=Tryz.func106.trans (congrArg some (by kernel_rfl))
  f217:=Tryz.func127.trans (congrArg some (by kernel_rfl))
  f219:=Tryz.func121.trans (congrArg some (by kernel_rfl))
  f220:=Tryz.func116.trans (congrArg some (by kernel_rfl))
  f224:=Tryz.func129.trans (congrArg some (by kernel_rfl))
  f225:=Tryz.func128.trans (congrArg some (by kernel_rfl))
  f266:=Tryz.func135.trans (congrArg some (by kernel_rfl))
  f267:=Tryz.func130.trans (congrArg some (by kernel_rfl))
  f314:=Tryz.func136.trans (congrArg some (by kernel_rfl))
  t3:=Tryz.underlying3
  a3:=Tryz.isAgg3
  z3:=Tryz.sizeOf3
  v3:=Tryz.zeroValue3
  t4:=Tryz.underlying4
  a4:=Tryz.isAgg4
  z4:=Tryz.sizeOf4
  v4:=Tryz.zeroValue4
  t5:=Tryz.underlying5
  a5:=Tryz.isAgg5
  z5:=Tryz.sizeOf5
  v5:=Tryz.zeroValue5
  t9:=Tryz.underlying9
  a9:=Tryz.isAgg9
  z9:=Tryz.sizeOf9
  v9:=Tryz.zeroValue9
  t46:=Tryz.underlying121
  a46:=Tryz.isAgg121
  z46:=Tryz.sizeOf121
  v46:=Tryz.zeroValue121
  t51:=Tryz.underlying145
  a51:=Tryz.isAgg145
  z51:=Tryz.sizeOf145
  v51:=Tryz.zeroValue145
  t59:=Tryz.underlying127
  a59:=Tryz.isAgg127
  z59:=Tryz.sizeOf127
  v59:=Tryz.zeroValue127
  t146:=Tryz.underlying146
  a146:=Tryz.isAgg146
  z146:=Tryz.sizeOf146
  v146:=Tryz.zeroValue146
  g1:=by kernel_rfl }
open Go.RowKit Go.Lib in
theorem Tryz.strings_Cut (s sep:ByteArray) (m:Int) (w:World) (hs:s.size<4294967281) (hm:w.cell? ⟨0,0,none⟩=some (.int .i64 m)) :
    Calls Tryz.prog 106 #[.string s,.string sep] w fun e w'=>e = .returned (.tuple #[.string ⟨(Lib.cut s.data.toList sep.data.toList).1.toArray⟩,.string ⟨(Lib.cut s.data.toList sep.data.toList).2.1.toArray⟩,.bool (Lib.cut s.data.toList sep.data.toList).2.2]) ∧ ∃ n,w'=w.drewN n:=Any.strings_Cut Tryz.lays145 s sep m w hs hm
def Tryz.lays149_ren:Go.Shelf.Ren:=⟨fun|149=>99|222=>109|n=>n,fun|9=>9|5=>5|3=>3|4=>4|n=>n,fun|n=>n⟩
theorem Tryz.lays149:Go.Proofs.Lays.n149 Tryz.prog Tryz.lays149_ren:={
  mixed:=by kernel_rfl
  f149:=Tryz.func99.trans (congrArg some (by kernel_rfl))
  f222:=Tryz.func109.trans (congrArg some (by kernel_rfl))
  t3:=Tryz.underlying3
  a3:=Tryz.isAgg3
  z3:=Tryz.sizeOf3
  v3:=Tryz.zeroValue3
  t4:=Tryz.underlying4
  a4:=Tryz.isAgg4
  z4:=Tryz.sizeOf4
  v4:=Tryz.zeroValue4
  t5:=Tryz.underlying5
  a5:=Tryz.isAgg5
  z5:=Tryz.sizeOf5
  v5:=Tryz.zeroValue5
  t9:=Tryz.underlying9
  a9:=Tryz.isAgg9
  z9:=Tryz.sizeOf9
  v9:=Tryz.zeroValue9 }
open Go.RowKit Go.Lib in
theorem Tryz.strings_LastIndexByte (s:ByteArray) (c:Int) (hs:s.size<4611686018427387904) (w:World) :
    Calls Tryz.prog 99 #[.string s,.int .u8 c] w fun e w'=>e = .returned (.int .i64 (Lib.lastIndexByte s c))∧w'=w:=Any.strings_LastIndexByte Tryz.lays149 s c hs w
def Tryz.lays146_ren:Go.Shelf.Ren:=⟨fun|146=>115|221=>120|268=>124|138=>125|143=>126|195=>132|197=>133|218=>134|219=>121|260=>138|217=>127|225=>128|224=>129|267=>130|266=>135|314=>136|n=>n,fun|9=>9|31=>125|3=>3|4=>4|0=>0|105=>143|21=>21|5=>5|46=>121|119=>155|139=>158|138=>157|146=>146|51=>145|n=>n,fun|1=>0|3=>1|4=>2|n=>n⟩
theorem Tryz.lays146:Go.Proofs.Lays.n146 Tryz.prog Tryz.lays146_ren:={
  mixed:=by kernel_rfl
  f138:=Tryz.func125.trans (congrArg some (by kernel_rfl))
  f143:=Tryz.func126.trans (congrArg some (by kernel_rfl))
  f146:=Tryz.func115.trans (congrArg some (by kernel_rfl))
  f195:=Tryz.func132.trans (congrArg some (by kernel_rfl))
  f197:=Tryz.func133.trans (congrArg some (by kernel_rfl))
  f217:=Tryz.func127.trans (congrArg some (by kernel_rfl))
  f218:=Tryz.func134.trans (congrArg some (by kernel_rfl))
  f219:=Tryz.func121.trans (congrArg some (by kernel_rfl))
  f221:=Tryz.func120.trans (congrArg some (by kernel_rfl))
  f224:=Tryz.func129.trans (congrArg some (by kernel_rfl))
  f225:=Tryz.func128.trans (congrArg some (by kernel_rfl))
  f260:=Tryz.func138.trans (congrArg some (by kernel_rfl))
  f266:=Tryz.func135.trans (congrArg some (by kernel_rfl))
  f267:=Tryz.func130.trans (congrArg some (by kernel_rfl))
  f268:=Tryz.func124.trans (congrArg some (by kernel_rfl))
  f314:=Tryz.func136.trans (congrArg some (by kernel_rfl))
  t0:=Tryz.underlying0
  a0:=Tryz.isAgg0
  z0:=Tryz.sizeOf0
  v0:=Tryz.zeroValue0
  t3:=Tryz.underlying3
  a3:=Tryz.isAgg3
  z3:=Tryz.sizeOf3
  v3:=Tryz.zeroValue3
  t4:=Tryz.underlying4
  a4:=Tryz.isAgg4
  z4:=Tryz.sizeOf4
  v4:=Tryz.zeroValue4
  t5:=Tryz.underlying5
  a5:=Tryz.isAgg5
  z5:=Tryz.sizeOf5
  v5:=Tryz.zeroValue5
  t9:=Tryz.underlying9
  a9:=Tryz.isAgg9
  z9:=Tryz.sizeOf9
  v9:=Tryz.zeroValue9
  t21:=Tryz.underlying21
  a21:=Tryz.isAgg21
  z21:=Tryz.sizeOf21
  v21:=Tryz.zeroValue21
  t31:=Tryz.underlying125
  a31:=Tryz.isAgg125
  z31:=Tryz.sizeOf125
  v31:=Tryz.zeroValue125
  t46:=Tryz.underlying121
  a46:=Tryz.isAgg121
  z46:=Tryz.sizeOf121
  v46:=Tryz.zeroValue121
  t51:=Tryz.underlying145
  a51:=Tryz.isAgg145
  z51:=Tryz.sizeOf145
  v51:=Tryz.zeroValue145
  t105:=Tryz.underlying143
  a105:=Tryz.isAgg143
  z105:=Tryz.sizeOf143
  v105:=Tryz.zeroValue143
  t119:=Tryz.underlying155
  a119:=Tryz.isAgg155
  z119:=Tryz.sizeOf155
  t138:=Tryz.underlying157
  a138:=Tryz.isAgg157
  z138:=Tryz.sizeOf157
  v138:=Tryz.zeroValue157
  t139:=Tryz.underlying158
  a139:=Tryz.isAgg158
  z139:=Tryz.sizeOf158
  v139:=Tryz.zeroValue158
  t146:=Tryz.underlying146
  a146:=Tryz.isAgg146
  z146:=Tryz.sizeOf146
  v146:=Tryz.zeroValue146
  g1:=by kernel_rfl
  g3:=by kernel_rfl
  g4:=by kernel_rfl }
open Go.RowKit Go.Lib in
theorem Tryz.strings_Split (s sep:ByteArray) (m:Int) (w:World) (hs:s.size<4294967281) (hm:w.cell? ⟨0,0,none⟩=some (.int .i64 m)) (h1:1≤sep.size) :
    Calls Tryz.prog 115 #[.string s,.string sep] w fun e w'=>
      e = .returned (.slice (some ⟨w.heap.size,0,none⟩) (Lib.countB s sep+1) (Lib.countB s sep+1))∧w'=w.alloc (.cells ((Lib.splitB sep 0 (Lib.countB s sep) s).map Value.string).toArray 9):=Any.strings_Split Tryz.lays146 (by kernel_rfl) s sep m w hs hm h1
end Go.Proofs

namespace G448
open Ev Go Go.RowKit
set_option linter.unusedVariables false
set_option maxRecDepth 100000
noncomputable def gPow:Nat:=match Go.Proofs.Tryz.prog.globalNamed "internal/strconv.uint64pow10" with|some g=>g|none=>0
theorem gPow_ok:Go.Proofs.Tryz.prog.globalNamed "internal/strconv.uint64pow10" = some gPow:=by kernel_rfl
/-- The library's tables that are read. -/
noncomputable def GLB:Glob where
  gb:=[0,gPow]
  G:=fun w=>(∃ m,w.cell? ⟨0,0,none⟩=some (.int .i64 m))∧Lib.TabIs Go.Proofs.Tryz.prog w "internal/strconv.uint64pow10" .u64 Lib.pow10Tab
  frame:=by
    rintro w w' h hb
    obtain⟨h0,h1⟩:=h
    refine⟨?_,?_⟩
    · obtain⟨m,hm⟩:=h0
      refine⟨m,?_⟩
      have e:=hb 0 (by simp)
      simp only[World.cell?] at hm ⊢
      rw[e]; exact hm
    · have e:=hb gPow (by simp)
      have h:=h1
      simp only[Lib.TabIs,World.var?,gPow_ok,Option.bind_some] at h ⊢
      rw[e]; exact h
def pf122:PF:=⟨[(.rd,.i64)],[.str],.uniq,strconv_Itoa⟩
theorem s122:Sound Go.Proofs.Tryz.prog GLB 122 pf122:=sound_itoa (T:=fun w=>Lib.TabIs Go.Proofs.Tryz.prog w "internal/strconv.uint64pow10" .u64 Lib.pow10Tab) (Go.Proofs.enters_of Go.Proofs.Tryz.func122 (by kernel_rfl) rfl) (fun w h=>h.2) (fun n h0 h1 w ht=>Go.Proofs.Tryz.strconv_Itoa n h0 h1 w ht)
def pf106:PF:=⟨[(.rd,.str),(.rd,.str)],[.str,.str,.bool],.uniq,strings_Cut⟩
theorem s106:Sound Go.Proofs.Tryz.prog GLB 106 pf106:=sound_cut (Go.Proofs.enters_of Go.Proofs.Tryz.func106 (by kernel_rfl) rfl) (fun w h=>h.1) (fun s sep m w hs hm=>Go.Proofs.Tryz.strings_Cut s sep m w hs hm)
def pf99:PF:=⟨[(.rd,.str),(.rd,.u8)],[.i64],.uniq,strings_LastIndexByte⟩
theorem s99:Sound Go.Proofs.Tryz.prog GLB 99 pf99:=sound_lastIndexByte (Go.Proofs.enters_of Go.Proofs.Tryz.func99 (by kernel_rfl) rfl) Go.Proofs.Tryz.strings_LastIndexByte
def pf115:PF:=⟨[(.rd,.str),(.rd,.str)],[.sl 9 .str],.uniq,strings_Split⟩
theorem s115:Sound Go.Proofs.Tryz.prog GLB 115 pf115:=sound_split (Go.Proofs.enters_of Go.Proofs.Tryz.func115 (by kernel_rfl) rfl) (fun w h=>h.1) (fun s sep m w hs hm h1=>Go.Proofs.Tryz.strings_Split s sep m w hs hm h1)
theorem glb_apart {W:World} (h:GLB.G W) : ∀ b∈GLB.gb,b<W.heap.size∧b∉([]++[]:List Nat):=by
  intro b hb
  refine⟨?_,by simp⟩
  simp only[GLB,List.mem_cons,List.not_mem_nil,or_false] at hb
  rcases hb with rfl|rfl
  · obtain⟨m,hm⟩:=h.1
    exact World.block_lt_of_cell? _ _ hm
  · have h2:=h.2
    simp only[Lib.TabIs,World.var?,gPow_ok,Option.bind_some] at h2
    cases hh:W.heap[gPow]? with
    | none=>rw[hh] at h2; cases h2
    | some o=>exact lt_of_get hh
end G448

