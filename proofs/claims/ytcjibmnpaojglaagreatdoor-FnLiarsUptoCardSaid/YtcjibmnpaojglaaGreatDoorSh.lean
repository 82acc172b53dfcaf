/- The kit's contracts of library functions at this program (laid by the kit's own tool), as the evaluator takes them. (Printed by our own program.) -/
import Derived.Test.YtcjibmnpaojglaaGreatDoorProg
import Derived.Test.YtcjibmnpaojglaaGreatDoorLibH
import Derived.KernelRfl
import Derived.Shelf.LaysM
import Derived.Shelf.Strconv.Itoa3
import Derived.Shelf.Strings.Cut
import Derived.Shelf.Strings.LastIndex
import Derived.Shelf.Strings.Shaped
import Derived.Shelf.Strings.Split
set_option linter.unusedSimpArgs false
set_option linter.unusedVariables false

namespace Go.Proofs
open Go.Shelf
def Tryz.laysM171_ren:Go.Shelf.Ren:=⟨fun|171=>148|243=>182|246=>209|283=>224|284=>225|285=>226|286=>227|129=>235|317=>234|318=>236|319=>237|320=>238|337=>239|338=>240|n=>n,fun|3=>3|9=>9|2=>2|4=>4|171=>252|0=>0|53=>253|37=>22|5=>5|173=>256|212=>265|51=>234|20=>20|213=>266|46=>137|232=>270|233=>271|n=>n,fun|17=>3|18=>4|19=>5|n=>n⟩
theorem Tryz.laysM171:Go.Proofs.LaysM.n171 Tryz.prog Tryz.laysM171_ren:={
  mixed:=by kernel_rfl
  f129:=Tryz.func235.trans (congrArg some (by kernel_rfl))
  f171:=Tryz.func148.trans (congrArg some (by kernel_rfl))
  f243:=Tryz.func182.trans (congrArg some (by kernel_rfl))
  f246:=Tryz.func209.trans (congrArg some (by kernel_rfl))
  f283:=Tryz.func224.trans (congrArg some (by kernel_rfl))
  f284:=Tryz.func225.trans (congrArg some (by kernel_rfl))
  f285:=Tryz.func226.trans (congrArg some (by kernel_rfl))
  f286:=Tryz.func227.trans (congrArg some (by kernel_rfl))
  f317:=Tryz.func234.trans (congrArg some (by kernel_rfl))
  f318:=Tryz.func236.trans (congrArg some (by kernel_rfl))
  f319:=Tryz.func237.trans (congrArg some (by kernel_rfl))
  f320:=Tryz.func238.trans (congrArg some (by kernel_rfl))
  f337:=Tryz.func239.trans (congrArg some (by kernel_rfl))
  f338:=Tryz.func240.trans (congrArg some (by kernel_rfl))
  t0:=Tryz.underlying0
  a0:=Tryz.isAgg0
  z0:=Tryz.sizeOf0
  v0:=Tryz.zeroValue0
  t2:=Tryz.underlying2
  a2:=Tryz.isAgg2
  z2:=Tryz.sizeOf2
  v2:=Tryz.zeroValue2
  t3:=Tryz.underlying3
  a3:=Tryz.isAgg3
  z3:=Tryz.sizeOf3
  v3:=Tryz.zeroValue3
  t4:=Tryz.underlying4
  a4:=Tryz.isAgg4
  z4:=Tryz.sizeOf4
  v4:=Tryz.zeroValue4
  t5:=Tryz.underlying5
  a5:=Tryz.isAgg5
  z5:=Tryz.sizeOf5
  v5:=Tryz.zeroValue5
  t9:=Tryz.underlying9
  a9:=Tryz.isAgg9
  z9:=Tryz.sizeOf9
  v9:=Tryz.zeroValue9
  t20:=Tryz.underlying20
  a20:=Tryz.isAgg20
  z20:=Tryz.sizeOf20
  v20:=Tryz.zeroValue20
  t37:=Tryz.underlying22
  a37:=Tryz.isAgg22
  z37:=Tryz.sizeOf22
  v37:=Tryz.zeroValue22
  t46:=Tryz.underlying137
  a46:=Tryz.isAgg137
  z46:=Tryz.sizeOf137
  v46:=Tryz.zeroValue137
  t51:=Tryz.underlying234
  a51:=Tryz.isAgg234
  z51:=Tryz.sizeOf234
  v51:=Tryz.zeroValue234
  t53:=Tryz.underlying253
  a53:=Tryz.isAgg253
  z53:=Tryz.sizeOf253
  v53:=Tryz.zeroValue253
  t171:=Tryz.underlying252
  a171:=Tryz.isAgg252
  z171:=Tryz.sizeOf252
  v171:=Tryz.zeroValue252
  t173:=Tryz.underlying256
  a173:=Tryz.isAgg256
  z173:=Tryz.sizeOf256
  v173:=Tryz.zeroValue256
  t212:=Tryz.underlying265
  a212:=Tryz.isAgg265
  z212:=Tryz.sizeOf265
  v212:=Tryz.zeroValue265
  t213:=Tryz.underlying266
  a213:=Tryz.isAgg266
  z213:=Tryz.sizeOf266
  t232:=Tryz.underlying270
  a232:=Tryz.isAgg270
  z232:=Tryz.sizeOf270
  v232:=Tryz.zeroValue270
  t233:=Tryz.underlying271
  a233:=Tryz.isAgg271
  z233:=Tryz.sizeOf271
  v233:=Tryz.zeroValue271
  g17:=by kernel_rfl
  g18:=by kernel_rfl
  g19:=by kernel_rfl
  i0:=by kernel_rfl
  i2:=by kernel_rfl
  i3:=by kernel_rfl
  i4:=by kernel_rfl
  i5:=by kernel_rfl
  i9:=by kernel_rfl
  i20:=by kernel_rfl
  i37:=by kernel_rfl
  i46:=by kernel_rfl
  i51:=by kernel_rfl
  i53:=by kernel_rfl
  i171:=by kernel_rfl
  i173:=by kernel_rfl
  i212:=by kernel_rfl
  i232:=by kernel_rfl
  i233:=by kernel_rfl
  m17:=by kernel_rfl
  m18:=by kernel_rfl
  m19:=by kernel_rfl }
open Go.RowKit Go.Sort Go.Lib in
theorem Tryz.strconv_Itoa (n:Int) (h0 : -9223372036854775808≤n) (h1:n≤9223372036854775807) (w:World) (htab:Lib.TabIs Go.Proofs.Tryz.prog w "internal/strconv.uint64pow10" .u64 Lib.pow10Tab) :
    Calls Tryz.prog 148 #[.int .i64 n] w fun e w'=>e = .returned (.string ⟨(Lib.itoa n).toArray⟩) ∧ ∃ k os,w'=grow (w.drewN k) os:=Any.strconv_Itoa Tryz.laysM171 n h0 h1 w htab
def Tryz.lays145_ren:Go.Shelf.Ren:=⟨fun|145=>99|220=>120|219=>147|217=>178|225=>179|224=>180|267=>181|266=>207|314=>208|n=>n,fun|9=>9|4=>4|59=>118|3=>3|5=>5|46=>137|146=>235|51=>234|n=>n,fun|1=>0|n=>n⟩
theorem Tryz.lays145:Go.Proofs.Lays.n145 Tryz.prog Tryz.lays145_ren:={
  mixed:=by kernel_rfl
  f145:=Tryz.func99.trans (congrArg some (by kernel_rfl))
  f217:=Tryz.func178.trans (congrArg some (by kernel_rfl))
  f219:=Tryz.func147.trans (congrArg some (by kernel_rfl))
  f220:=Tryz.func120.trans (congrArg some (by kernel_rfl))
  f224:=Tryz.func180.trans (congrArg some (by kernel_rfl))
  f225:=Tryz.func179.trans (congrArg some (by kernel_rfl))
  f266:=Tryz.func207.trans (congrArg some (by kernel_rfl))
  f267:=Tryz.func181.trans (congrArg some (by kernel_rfl))
  f314:=Tryz.func208.trans (congrArg some (by kernel_rfl))
  t3:=Tryz.underlying3
  a3:=Tryz.isAgg3
  z3:=Tryz.sizeOf3
  v3:=Tryz.zeroValue3
  t4:=Tryz.underlying4
  a4:=Tryz.isAgg4
  z4:=Tryz.sizeOf4
  v4:=Tryz.zeroValue4
  t5:=Tryz.underlying5
  a5:=Tryz.isAgg5
  z5:=Tryz.sizeOf5
  v5:=Tryz.zeroValue5
  t9:=Tryz.underlying9
  a9:=Tryz.isAgg9
  z9:=Tryz.sizeOf9
  v9:=Tryz.zeroValue9
  t46:=Tryz.underlying137
  a46:=Tryz.isAgg137
  z46:=Tryz.sizeOf137
  v46:=Tryz.zeroValue137
  t51:=Tryz.underlying234
  a51:=Tryz.isAgg234
  z51:=Tryz.sizeOf234
  v51:=Tryz.zeroValue234
  t59:=Tryz.underlying118
  a59:=Tryz.isAgg118
  z59:=Tryz.sizeOf118
  v59:=Tryz.zeroValue118
  t146:=Tryz.underlying235
  a146:=Tryz.isAgg235
  z146:=Tryz.sizeOf235
  v146:=Tryz.zeroValue235
  g1:=by kernel_rfl }
open Go.RowKit Go.Lib in
theorem Tryz.strings_Cut (s sep:ByteArray) (m:Int) (w:World) (hs:s.size<4294967281) (hm:w.cell? ⟨0,0,none⟩=some (.int .i64 m)) :
    Calls Tryz.prog 99 #[.string s,.string sep] w fun e w'=>e = .returned (.tuple #[.string ⟨(Lib.cut s.data.toList sep.data.toList).1.toArray⟩,.string ⟨(Lib.cut s.data.toList sep.data.toList).2.1.toArray⟩,.bool (Lib.cut s.data.toList sep.data.toList).2.2]) ∧ ∃ n,w'=w.drewN n:=Any.strings_Cut Tryz.lays145 s sep m w hs hm
def Tryz.lays149_ren:Go.Shelf.Ren:=⟨fun|149=>118|222=>145|n=>n,fun|9=>9|5=>5|3=>3|4=>4|n=>n,fun|n=>n⟩
theorem Tryz.lays149:Go.Proofs.Lays.n149 Tryz.prog Tryz.lays149_ren:={
  mixed:=by kernel_rfl
  f149:=Tryz.func118.trans (congrArg some (by kernel_rfl))
  f222:=Tryz.func145.trans (congrArg some (by kernel_rfl))
  t3:=Tryz.underlying3
  a3:=Tryz.isAgg3
  z3:=Tryz.sizeOf3
  v3:=Tryz.zeroValue3
  t4:=Tryz.underlying4
  a4:=Tryz.isAgg4
  z4:=Tryz.sizeOf4
  v4:=Tryz.zeroValue4
  t5:=Tryz.underlying5
  a5:=Tryz.isAgg5
  z5:=Tryz.sizeOf5
  v5:=Tryz.zeroValue5
  t9:=Tryz.underlying9
  a9:=Tryz.isAgg9
  z9:=Tryz.sizeOf9
  v9:=Tryz.zeroValue9 }
open Go.RowKit Go.Lib in
theorem Tryz.strings_LastIndexByte (s:ByteArray) (c:Int) (hs:s.size<4611686018427387904) (w:World) :
    Calls Tryz.prog 118 #[.string s,.int .u8 c] w fun e w'=>e = .returned (.int .i64 (Lib.lastIndexByte s c))∧w'=w:=Any.strings_LastIndexByte Tryz.lays149 s c hs w
def Tryz.lays146_ren:Go.Shelf.Ren:=⟨fun|146=>119|221=>146|268=>175|138=>176|143=>177|195=>204|197=>205|218=>206|219=>147|260=>223|217=>178|225=>179|224=>180|267=>181|266=>207|314=>208|n=>n,fun|9=>9|31=>116|3=>3|4=>4|0=>0|105=>232|21=>21|5=>5|46=>137|119=>261|139=>264|138=>263|146=>235|51=>234|n=>n,fun|1=>0|3=>1|4=>2|n=>n⟩
theorem Tryz.lays146:Go.Proofs.Lays.n146 Tryz.prog Tryz.lays146_ren:={
  mixed:=by kernel_rfl
  f138:=Tryz.func176.trans (congrArg some (by kernel_rfl))
  f143:=Tryz.func177.trans (congrArg some (by kernel_rfl))
  f146:=Tryz.func119.trans (congrArg some (by kernel_rfl))
  f195:=Tryz.func204.trans (congrArg some (by kernel_rfl))
  f197:=Tryz.func205.trans (congrArg some (by kernel_rfl))
  f217:=Tryz.func178.trans (congrArg some (by kernel_rfl))
  f218:=Tryz.func206.trans (congrArg some (by kernel_rfl))
  f219:=Tryz.func147.trans (congrArg some (by kernel_rfl))
  f221:=Tryz.func146.trans (congrArg some (by kernel_rfl))
  f224:=Tryz.func180.trans (congrArg some (by kernel_rfl))
  f225:=Tryz.func179.trans (congrArg some (by kernel_rfl))
  f260:=Tryz.func223.trans (congrArg some (by kernel_rfl))
  f266:=Tryz.func207.trans (congrArg some (by kernel_rfl))
  f267:=Tryz.func181.trans (congrArg some (by kernel_rfl))
  f268:=Tryz.func175.trans (congrArg some (by kernel_rfl))
  f314:=Tryz.func208.trans (congrArg some (by kernel_rfl))
  t0:=Tryz.underlying0
  a0:=Tryz.isAgg0
  z0:=Tryz.sizeOf0
  v0:=Tryz.zeroValue0
  t3:=Tryz.underlying3
  a3:=Tryz.isAgg3
  z3:=Tryz.sizeOf3
  v3:=Tryz.zeroValue3
  t4:=Tryz.underlying4
  a4:=Tryz.isAgg4
  z4:=Tryz.sizeOf4
  v4:=Tryz.zeroValue4
  t5:=Tryz.underlying5
  a5:=Tryz.isAgg5
  z5:=Tryz.sizeOf5
  v5:=Tryz.zeroValue5
  t9:=Tryz.underlying9
  a9:=Tryz.isAgg9
  z9:=Tryz.sizeOf9
  v9:=Tryz.zeroValue9
  t21:=Tryz.underlying21
  a21:=Tryz.isAgg21
  z21:=Tryz.sizeOf21
  v21:=Tryz.zeroValue21
  t31:=Tryz.underlying116
  a31:=Tryz.isAgg116
  z31:=Tryz.sizeOf116
  v31:=Tryz.zeroValue116
  t46:=Tryz.underlying137
  a46:=Tryz.isAgg137
  z46:=Tryz.sizeOf137
  v46:=Tryz.zeroValue137
  t51:=Tryz.underlying234
  a51:=Tryz.isAgg234
  z51:=Tryz.sizeOf234
  v51:=Tryz.zeroValue234
  t105:=Tryz.underlying232
  a105:=Tryz.isAgg232
  z105:=Tryz.sizeOf232
  v105:=Tryz.zeroValue232
  t119:=Tryz.underlying261
  a119:=Tryz.isAgg261
  z119:=Tryz.sizeOf261
  t138:=Tryz.underlying263
  a138:=Tryz.isAgg263
  z138:=Tryz.sizeOf263
  v138:=Tryz.zeroValue263
  t139:=Tryz.underlying264
  a139:=Tryz.isAgg264
  z139:=Tryz.sizeOf264
  v139:=Tryz.zeroValue264
  t146:=Tryz.underlying235
  a146:=Tryz.isAgg235
  z146:=Tryz.sizeOf235
  v146:=Tryz.zeroValue235
  g1:=by kernel_rfl
  g3:=by kernel_rfl
  g4:=by kernel_rfl }
open Go.RowKit Go.Lib in
theorem Tryz.strings_Split (s sep:ByteArray) (m:Int) (w:World) (hs:s.size<4294967281) (hm:w.cell? ⟨0,0,none⟩=some (.int .i64 m)) (h1:1≤sep.size) :
    Calls Tryz.prog 119 #[.string s,.string sep] w fun e w'=>
      e = .returned (.slice (some ⟨w.heap.size,0,none⟩) (Lib.countB s sep+1) (Lib.countB s sep+1))∧w'=w.alloc (.cells ((Lib.splitB sep 0 (Lib.countB s sep) s).map Value.string).toArray 9):=Any.strings_Split Tryz.lays146 (by kernel_rfl) s sep m w hs hm h1
end Go.Proofs

namespace G448
open Ev Go Go.RowKit
set_option linter.unusedVariables false
set_option maxRecDepth 100000
noncomputable def gPow:Nat:=match Go.Proofs.Tryz.prog.globalNamed "internal/strconv.uint64pow10" with|some g=>g|none=>0
theorem gPow_ok:Go.Proofs.Tryz.prog.globalNamed "internal/strconv.uint64pow10" = some gPow:=by kernel_rfl
/-- The library's tables that are read. -/
noncomputable def GLB:Glob where
  gb:=[0,gPow]
  G:=fun w=>(∃ m,w.cell? ⟨0,0,none⟩=some (.int .i64 m))∧Lib.TabIs Go.Proofs.Tryz.prog w "internal/strconv.uint64pow10" .u64 Lib.pow10Tab
  frame:=by
    rintro w w' h hb
    obtain⟨h0,h1⟩:=h
    refine⟨?_,?_⟩
    · obtain⟨m,hm⟩:=h0
      refine⟨m,?_⟩
      have e:=hb 0 (by simp)
      simp only[World.cell?] at hm ⊢
      rw[e]; exact hm
    · have e:=hb gPow (by simp)
      have h:=h1
      simp only[Lib.TabIs,World.var?,gPow_ok,Option.bind_some] at h ⊢
      rw[e]; exact h
def pf148:PF:=⟨[(.rd,.i64)],[.str],.uniq,strconv_Itoa⟩
theorem s148:Sound Go.Proofs.Tryz.prog GLB 148 pf148:=sound_itoa (T:=fun w=>Lib.TabIs Go.Proofs.Tryz.prog w "internal/strconv.uint64pow10" .u64 Lib.pow10Tab) (Go.Proofs.enters_of Go.Proofs.Tryz.func148 (by kernel_rfl) rfl) (fun w h=>h.2) (fun n h0 h1 w ht=>Go.Proofs.Tryz.strconv_Itoa n h0 h1 w ht)
def pf99:PF:=⟨[(.rd,.str),(.rd,.str)],[.str,.str,.bool],.uniq,strings_Cut⟩
theorem s99:Sound Go.Proofs.Tryz.prog GLB 99 pf99:=sound_cut (Go.Proofs.enters_of Go.Proofs.Tryz.func99 (by kernel_rfl) rfl) (fun w h=>h.1) (fun s sep m w hs hm=>Go.Proofs.Tryz.strings_Cut s sep m w hs hm)
def pf118:PF:=⟨[(.rd,.str),(.rd,.u8)],[.i64],.uniq,strings_LastIndexByte⟩
theorem s118:Sound Go.Proofs.Tryz.prog GLB 118 pf118:=sound_lastIndexByte (Go.Proofs.enters_of Go.Proofs.Tryz.func118 (by kernel_rfl) rfl) Go.Proofs.Tryz.strings_LastIndexByte
def pf119:PF:=⟨[(.rd,.str),(.rd,.str)],[.sl 9 .str],.uniq,strings_Split⟩
theorem s119:Sound Go.Proofs.Tryz.prog GLB 119 pf119:=sound_split (Go.Proofs.enters_of Go.Proofs.Tryz.func119 (by kernel_rfl) rfl) (fun w h=>h.1) (fun s sep m w hs hm h1=>Go.Proofs.Tryz.strings_Split s sep m w hs hm h1)
theorem glb_apart {W:World} (h:GLB.G W) : ∀ b∈GLB.gb,b<W.heap.size∧b∉([]++[]:List Nat):=by
  intro b hb
  refine⟨?_,by simp⟩
  simp only[GLB,List.mem_cons,List.not_mem_nil,or_false] at hb
  rcases hb with rfl|rfl
  · obtain⟨m,hm⟩:=h.1
    exact World.block_lt_of_cell? _ _ hm
  · have h2:=h.2
    simp only[Lib.TabIs,World.var?,gPow_ok,Option.bind_some] at h2
    cases hh:W.heap[gPow]? with
    | none=>rw[hh] at h2; cases h2
    | some o=>exact lt_of_get hh
end G448

