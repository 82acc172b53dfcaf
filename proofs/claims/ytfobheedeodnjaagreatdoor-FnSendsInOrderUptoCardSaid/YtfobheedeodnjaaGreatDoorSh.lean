/- The kit's contracts of library functions at this program (laid by the kit's own tool), as the evaluator takes them. (Printed by our own program.) -/
import Derived.Test.YtfobheedeodnjaaGreatDoorProg
import Derived.Test.YtfobheedeodnjaaGreatDoorLibH
import Derived.KernelRfl
import Derived.Shelf.LaysM
import Derived.Shelf.Strconv.Itoa3
import Derived.Shelf.Strings.Cut
import Derived.Shelf.Strings.LastIndex
import Derived.Shelf.Strings.Shaped
import Derived.Shelf.Strings.Split
set_option linter.unusedSimpArgs false
set_option linter.unusedVariables false

namespace Go.Proofs
open Go.Shelf
def Tryz.laysM171_ren:Go.Shelf.Ren:=⟨fun|171=>226|243=>247|246=>266|283=>277|284=>278|285=>279|286=>280|129=>288|317=>287|318=>289|319=>290|320=>291|337=>298|338=>299|n=>n,fun|3=>3|9=>9|2=>2|4=>4|171=>271|0=>0|53=>272|37=>22|5=>5|173=>275|212=>288|51=>260|20=>20|213=>289|46=>187|232=>294|233=>295|n=>n,fun|17=>3|18=>4|19=>5|n=>n⟩
theorem Tryz.laysM171:Go.Proofs.LaysM.n171 Tryz.prog Tryz.laysM171_ren:={
  mixed:=by kernel_rfl
  f129:=Tryz.func288.trans (congrArg some (by kernel_rfl))
  f171:=Tryz.func226.trans (congrArg some (by kernel_rfl))
  f243:=Tryz.func247.trans (congrArg some (by kernel_rfl))
  f246:=Tryz.func266.trans (congrArg some (by kernel_rfl))
  f283:=Tryz.func277.trans (congrArg some (by kernel_rfl))
  f284:=Tryz.func278.trans (congrArg some (by kernel_rfl))
  f285:=Tryz.func279.trans (congrArg some (by kernel_rfl))
  f286:=Tryz.func280.trans (congrArg some (by kernel_rfl))
  f317:=Tryz.func287.trans (congrArg some (by kernel_rfl))
  f318:=Tryz.func289.trans (congrArg some (by kernel_rfl))
  f319:=Tryz.func290.trans (congrArg some (by kernel_rfl))
  f320:=Tryz.func291.trans (congrArg some (by kernel_rfl))
  f337:=Tryz.func298.trans (congrArg some (by kernel_rfl))
  f338:=Tryz.func299.trans (congrArg some (by kernel_rfl))
  t0:=Tryz.underlying0
  a0:=Tryz.isAgg0
  z0:=Tryz.sizeOf0
  v0:=Tryz.zeroValue0
  t2:=Tryz.underlying2
  a2:=Tryz.isAgg2
  z2:=Tryz.sizeOf2
  v2:=Tryz.zeroValue2
  t3:=Tryz.underlying3
  a3:=Tryz.isAgg3
  z3:=Tryz.sizeOf3
  v3:=Tryz.zeroValue3
  t4:=Tryz.underlying4
  a4:=Tryz.isAgg4
  z4:=Tryz.sizeOf4
  v4:=Tryz.zeroValue4
  t5:=Tryz.underlying5
  a5:=Tryz.isAgg5
  z5:=Tryz.sizeOf5
  v5:=Tryz.zeroValue5
  t9:=Tryz.underlying9
  a9:=Tryz.isAgg9
  z9:=Tryz.sizeOf9
  v9:=Tryz.zeroValue9
  t20:=Tryz.underlying20
  a20:=Tryz.isAgg20
  z20:=Tryz.sizeOf20
  v20:=Tryz.zeroValue20
  t37:=Tryz.underlying22
  a37:=Tryz.isAgg22
  z37:=Tryz.sizeOf22
  v37:=Tryz.zeroValue22
  t46:=Tryz.underlying187
  a46:=Tryz.isAgg187
  z46:=Tryz.sizeOf187
  v46:=Tryz.zeroValue187
  t51:=Tryz.underlying260
  a51:=Tryz.isAgg260
  z51:=Tryz.sizeOf260
  v51:=Tryz.zeroValue260
  t53:=Tryz.underlying272
  a53:=Tryz.isAgg272
  z53:=Tryz.sizeOf272
  v53:=Tryz.zeroValue272
  t171:=Tryz.underlying271
  a171:=Tryz.isAgg271
  z171:=Tryz.sizeOf271
  v171:=Tryz.zeroValue271
  t173:=Tryz.underlying275
  a173:=Tryz.isAgg275
  z173:=Tryz.sizeOf275
  v173:=Tryz.zeroValue275
  t212:=Tryz.underlying288
  a212:=Tryz.isAgg288
  z212:=Tryz.sizeOf288
  v212:=Tryz.zeroValue288
  t213:=Tryz.underlying289
  a213:=Tryz.isAgg289
  z213:=Tryz.sizeOf289
  t232:=Tryz.underlying294
  a232:=Tryz.isAgg294
  z232:=Tryz.sizeOf294
  v232:=Tryz.zeroValue294
  t233:=Tryz.underlying295
  a233:=Tryz.isAgg295
  z233:=Tryz.sizeOf295
  v233:=Tryz.zeroValue295
  g17:=by kernel_rfl
  g18:=by kernel_rfl
  g19:=by kernel_rfl
  i0:=by kernel_rfl
  i2:=by kernel_rfl
  i3:=by kernel_rfl
  i4:=by kernel_rfl
  i5:=by kernel_rfl
  i9:=by kernel_rfl
  i20:=by kernel_rfl
  i37:=by kernel_rfl
  i46:=by kernel_rfl
  i51:=by kernel_rfl
  i53:=by kernel_rfl
  i171:=by kernel_rfl
  i173:=by kernel_rfl
  i212:=by kernel_rfl
  i232:=by kernel_rfl
  i233:=by kernel_rfl
  m17:=by kernel_rfl
  m18:=by kernel_rfl
  m19:=by kernel_rfl }
open Go.RowKit Go.Sort Go.Lib in
theorem Tryz.strconv_Itoa (n:Int) (h0 : -9223372036854775808≤n) (h1:n≤9223372036854775807) (w:World) (htab:Lib.TabIs Go.Proofs.Tryz.prog w "internal/strconv.uint64pow10" .u64 Lib.pow10Tab) :
    Calls Tryz.prog 226 #[.int .i64 n] w fun e w'=>e = .returned (.string ⟨(Lib.itoa n).toArray⟩) ∧ ∃ k os,w'=grow (w.drewN k) os:=Any.strconv_Itoa Tryz.laysM171 n h0 h1 w htab
def Tryz.lays145_ren:Go.Shelf.Ren:=⟨fun|145=>159|220=>199|219=>225|217=>243|225=>244|224=>245|267=>246|266=>264|314=>265|n=>n,fun|9=>9|4=>4|59=>181|3=>3|5=>5|46=>187|146=>261|51=>260|n=>n,fun|1=>0|n=>n⟩
theorem Tryz.lays145:Go.Proofs.Lays.n145 Tryz.prog Tryz.lays145_ren:={
  mixed:=by kernel_rfl
  f145:=Tryz.func159.trans (congrArg some (by kernel_rfl))
  f217:=Tryz.func243.trans (congrArg some (by kernel_rfl))
  f219:=Tryz.func225.trans (congrArg some (by kernel_rfl))
  f220:=Tryz.func199.trans (congrArg some (by kernel_rfl))
  f224:=Tryz.func245.trans (congrArg some (by kernel_rfl))
  f225:=Tryz.func244.trans (congrArg some (by kernel_rfl))
  f266:=Tryz.func264.trans (congrArg some (by kernel_rfl))
  f267:=Tryz.func246.trans (congrArg some (by kernel_rfl))
  f314:=Tryz.func265.trans (congrArg some (by kernel_rfl))
  t3:=Tryz.underlying3
  a3:=Tryz.isAgg3
  z3:=Tryz.sizeOf3
  v3:=Tryz.zeroValue3
  t4:=Tryz.underlying4
  a4:=Tryz.isAgg4
  z4:=Tryz.sizeOf4
  v4:=Tryz.zeroValue4
  t5:=Tryz.underlying5
  a5:=Tryz.isAgg5
  z5:=Tryz.sizeOf5
  v5:=Tryz.zeroValue5
  t9:=Tryz.underlying9
  a9:=Tryz.isAgg9
  z9:=Tryz.sizeOf9
  v9:=Tryz.zeroValue9
  t46:=Tryz.underlying187
  a46:=Tryz.isAgg187
  z46:=Tryz.sizeOf187
  v46:=Tryz.zeroValue187
  t51:=Tryz.underlying260
  a51:=Tryz.isAgg260
  z51:=Tryz.sizeOf260
  v51:=Tryz.zeroValue260
  t59:=Tryz.underlying181
  a59:=Tryz.isAgg181
  z59:=Tryz.sizeOf181
  v59:=Tryz.zeroValue181
  t146:=Tryz.underlying261
  a146:=Tryz.isAgg261
  z146:=Tryz.sizeOf261
  v146:=Tryz.zeroValue261
  g1:=by kernel_rfl }
open Go.RowKit Go.Lib in
theorem Tryz.strings_Cut (s sep:ByteArray) (m:Int) (w:World) (hs:s.size<4294967281) (hm:w.cell? ⟨0,0,none⟩=some (.int .i64 m)) :
    Calls Tryz.prog 159 #[.string s,.string sep] w fun e w'=>e = .returned (.tuple #[.string ⟨(Lib.cut s.data.toList sep.data.toList).1.toArray⟩,.string ⟨(Lib.cut s.data.toList sep.data.toList).2.1.toArray⟩,.bool (Lib.cut s.data.toList sep.data.toList).2.2]) ∧ ∃ n,w'=w.drewN n:=Any.strings_Cut Tryz.lays145 s sep m w hs hm
def Tryz.lays149_ren:Go.Shelf.Ren:=⟨fun|149=>203|222=>228|n=>n,fun|9=>9|5=>5|3=>3|4=>4|n=>n,fun|n=>n⟩
theorem Tryz.lays149:Go.Proofs.Lays.n149 Tryz.prog Tryz.lays149_ren:={
  mixed:=by kernel_rfl
  f149:=Tryz.func203.trans (congrArg some (by kernel_rfl))
  f222:=Tryz.func228.trans (congrArg some (by kernel_rfl))
  t3:=Tryz.underlying3
  a3:=Tryz.isAgg3
  z3:=Tryz.sizeOf3
  v3:=Tryz.zeroValue3
  t4:=Tryz.underlying4
  a4:=Tryz.isAgg4
  z4:=Tryz.sizeOf4
  v4:=Tryz.zeroValue4
  t5:=Tryz.underlying5
  a5:=Tryz.isAgg5
  z5:=Tryz.sizeOf5
  v5:=Tryz.zeroValue5
  t9:=Tryz.underlying9
  a9:=Tryz.isAgg9
  z9:=Tryz.sizeOf9
  v9:=Tryz.zeroValue9 }
open Go.RowKit Go.Lib in
theorem Tryz.strings_LastIndexByte (s:ByteArray) (c:Int) (hs:s.size<4611686018427387904) (w:World) :
    Calls Tryz.prog 203 #[.string s,.int .u8 c] w fun e w'=>e = .returned (.int .i64 (Lib.lastIndexByte s c))∧w'=w:=Any.strings_LastIndexByte Tryz.lays149 s c hs w
def Tryz.lays146_ren:Go.Shelf.Ren:=⟨fun|146=>198|221=>224|268=>240|138=>241|143=>242|195=>261|197=>262|218=>263|219=>225|260=>276|217=>243|225=>244|224=>245|267=>246|266=>264|314=>265|n=>n,fun|9=>9|31=>179|3=>3|4=>4|0=>0|105=>258|21=>21|5=>5|46=>187|119=>283|139=>286|138=>285|146=>261|51=>260|n=>n,fun|1=>0|3=>1|4=>2|n=>n⟩
theorem Tryz.lays146:Go.Proofs.Lays.n146 Tryz.prog Tryz.lays146_ren:={
  mixed:=by kernel_rfl
  f138:=Tryz.func241.trans (congrArg some (by kernel_rfl))
  f143:=Tryz.func242.trans (congrArg some (by kernel_rfl))
  f146:=Tryz.func198.trans (congrArg some (by kernel_rfl))
  f195:=Tryz.func261.trans (congrArg some (by kernel_rfl))
  f197:=Tryz.func262.trans (congrArg some (by kernel_rfl))
  f217:=Tryz.func243.trans (congrArg some (by kernel_rfl))
  f218:=Tryz.func263.trans (congrArg some (by kernel_rfl))
  f219:=Tryz.func225.trans (congrArg some (by kernel_rfl))
  f221:=Tryz.func224.trans (congrArg some (by kernel_rfl))
  f224:=Tryz.func245.trans (congrArg some (by kernel_rfl))
  f225:=Tryz.func244.trans (congrArg some (by kernel_rfl))
  f260:=Tryz.func276.trans (congrArg some (by kernel_rfl))
  f266:=Tryz.func264.trans (congrArg some (by kernel_rfl))
  f267:=Tryz.func246.trans (congrArg some (by kernel_rfl))
  f268:=Tryz.func240.trans (congrArg some (by kernel_rfl))
  f314:=Tryz.func265.trans (congrArg some (by kernel_rfl))
  t0:=Tryz.underlying0
  a0:=Tryz.isAgg0
  z0:=Tryz.sizeOf0
  v0:=Tryz.zeroValue0
  t3:=Tryz.underlying3
  a3:=Tryz.isAgg3
  z3:=Tryz.sizeOf3
  v3:=Tryz.zeroValue3
  t4:=Tryz.underlying4
  a4:=Tryz.isAgg4
  z4:=Tryz.sizeOf4
  v4:=Tryz.zeroValue4
  t5:=Tryz.underlying5
  a5:=Tryz.isAgg5
  z5:=Tryz.sizeOf5
  v5:=Tryz.zeroValue5
  t9:=Tryz.underlying9
  a9:=Tryz.isAgg9
  z9:=Tryz.sizeOf9
  v9:=Tryz.zeroValue9
  t21:=Tryz.underlying21
  a21:=Tryz.isAgg21
  z21:=Tryz.sizeOf21
  v21:=Tryz.zeroValue21
  t31:=Tryz.underlying179
  a31:=Tryz.isAgg179
  z31:=Tryz.sizeOf179
  v31:=Tryz.zeroValue179
  t46:=Tryz.underlying187
  a46:=Tryz.isAgg187
  z46:=Tryz.sizeOf187
  v46:=Tryz.zeroValue187
  t51:=Tryz.underlying260
  a51:=Tryz.isAgg260
  z51:=Tryz.sizeOf260
  v51:=Tryz.zeroValue260
  t105:=Tryz.underlying258
  a105:=Tryz.isAgg258
  z105:=Tryz.sizeOf258
  v105:=Tryz.zeroValue258
  t119:=Tryz.underlying283
  a119:=Tryz.isAgg283
  z119:=Tryz.sizeOf283
  t138:=Tryz.underlying285
  a138:=Tryz.isAgg285
  z138:=Tryz.sizeOf285
  v138:=Tryz.zeroValue285
  t139:=Tryz.underlying286
  a139:=Tryz.isAgg286
  z139:=Tryz.sizeOf286
  v139:=Tryz.zeroValue286
  t146:=Tryz.underlying261
  a146:=Tryz.isAgg261
  z146:=Tryz.sizeOf261
  v146:=Tryz.zeroValue261
  g1:=by kernel_rfl
  g3:=by kernel_rfl
  g4:=by kernel_rfl }
open Go.RowKit Go.Lib in
theorem Tryz.strings_Split (s sep:ByteArray) (m:Int) (w:World) (hs:s.size<4294967281) (hm:w.cell? ⟨0,0,none⟩=some (.int .i64 m)) (h1:1≤sep.size) :
    Calls Tryz.prog 198 #[.string s,.string sep] w fun e w'=>
      e = .returned (.slice (some ⟨w.heap.size,0,none⟩) (Lib.countB s sep+1) (Lib.countB s sep+1))∧w'=w.alloc (.cells ((Lib.splitB sep 0 (Lib.countB s sep) s).map Value.string).toArray 9):=Any.strings_Split Tryz.lays146 (by kernel_rfl) s sep m w hs hm h1
end Go.Proofs

namespace G448
open Ev Go Go.RowKit
set_option linter.unusedVariables false
set_option maxRecDepth 100000

/-- The type whose rows are whole: posts. -/
instance tagsI:Ev.Tags:=⟨62⟩
noncomputable def bV:Nat:=match Go.Proofs.Tryz.prog.globalNamed "internal/strconv.uint64pow10" with|some g=>g|none=>0
theorem gPow_ok:Go.Proofs.Tryz.prog.globalNamed "internal/strconv.uint64pow10" = some bV:=by kernel_rfl
/-- The library's tables that are read. -/
noncomputable def GLB:Glob where
  gb:=[0,bV]
  G:=fun w=>(∃ m,w.cell? ⟨0,0,none⟩=some (.int .i64 m))∧Lib.TabIs Go.Proofs.Tryz.prog w "internal/strconv.uint64pow10" .u64 Lib.pow10Tab
  frame:=by
    rintro w w' h hb
    obtain⟨h0,h1⟩:=h
    refine⟨?_,?_⟩
    · obtain⟨m,hm⟩:=h0
      refine⟨m,?_⟩
      have e:=hb 0 (by simp)
      simp only[World.cell?] at hm ⊢
      rw[e]; exact hm
    · have e:=hb bV (by simp)
      have h:=h1
      simp only[Lib.TabIs,World.var?,gPow_ok,Option.bind_some] at h ⊢
      rw[e]; exact h
def vp:PF:=⟨[(.rd,.i64)],[.str],.uniq,strconv_Itoa⟩
theorem S6:Sound Go.Proofs.Tryz.prog GLB 226 vp:=UY (T:=fun w=>Lib.TabIs Go.Proofs.Tryz.prog w "internal/strconv.uint64pow10" .u64 Lib.pow10Tab) (Go.Proofs.enters_of Go.Proofs.Tryz.func226 (by kernel_rfl) rfl) (fun w h=>h.2) (fun n h0 h1 w ht=>Go.Proofs.Tryz.strconv_Itoa n h0 h1 w ht)
def my:PF:=⟨[(.rd,.str),(.rd,.str)],[.str,.str,.bool],.uniq,strings_Cut⟩
theorem xF:Sound Go.Proofs.Tryz.prog GLB 159 my:=UO (Go.Proofs.enters_of Go.Proofs.Tryz.func159 (by kernel_rfl) rfl) (fun w h=>h.1) (fun s sep m w hs hm=>Go.Proofs.Tryz.strings_Cut s sep m w hs hm)
def u6:PF:=⟨[(.rd,.str),(.rd,.u8)],[.i64],.uniq,strings_LastIndexByte⟩
theorem SR:Sound Go.Proofs.Tryz.prog GLB 203 u6:=U0 (Go.Proofs.enters_of Go.Proofs.Tryz.func203 (by kernel_rfl) rfl) Go.Proofs.Tryz.strings_LastIndexByte
def uY:PF:=⟨[(.rd,.str),(.rd,.str)],[.sl 9 .str],.uniq,strings_Split⟩
theorem SO:Sound Go.Proofs.Tryz.prog GLB 198 uY:=Vf (by decide) (Go.Proofs.enters_of Go.Proofs.Tryz.func198 (by kernel_rfl) rfl) (fun w h=>h.1) (fun s sep m w hs hm h1=>Go.Proofs.Tryz.strings_Split s sep m w hs hm h1)
def sP:Go.Shelf.Ren:=⟨fun|22=>70|29=>125|30=>126|n=>n,fun|9=>39|24=>31|n=>n,fun n=>n⟩
theorem Ov:Lr Go.Proofs.Tryz.prog sP 4 #[.int .i64 0,.int .i64 0,.int .i64 0,.int .i64 0] 32:={
  mixed:=by kernel_rfl
  f22:=⟨ "slices.Insert[[]loop.example/g00448/impl.Tx,loop.example/g00448/impl.Tx]", Go.Proofs.Tryz.func70.trans (congrArg some (by kernel_rfl))⟩
  ov:=fun args w=>Go.run_callFunc_extern Go.Proofs.Tryz.func125 (by kernel_rfl) (by kernel_rfl) (by kernel_rfl) (by kernel_rfl) args w
  t0:=Go.Proofs.Tryz.underlying0
  a0:=Go.Proofs.Tryz.isAgg0
  z0:=Go.Proofs.Tryz.sizeOf0
  v0:=Go.Proofs.Tryz.zeroValue0
  t3:=Go.Proofs.Tryz.underlying3
  a3:=Go.Proofs.Tryz.isAgg3
  z3:=Go.Proofs.Tryz.sizeOf3
  v3:=Go.Proofs.Tryz.zeroValue3
  t4:=Go.Proofs.Tryz.underlying4
  a4:=Go.Proofs.Tryz.isAgg4
  z4:=Go.Proofs.Tryz.sizeOf4
  v4:=Go.Proofs.Tryz.zeroValue4
  z9:=Go.Proofs.Tryz.sizeOf39
  t24:=Go.Proofs.Tryz.underlying31
  a24:=Go.Proofs.Tryz.isAgg31
  z24:=Go.Proofs.Tryz.sizeOf31
  v24:=Go.Proofs.Tryz.zeroValue31
  i9:=by kernel_rfl }
def wv:PF:=⟨[(.own,.sl 39 (.pair .i64 (.pair .i64 (.pair .i64 .i64)))),(.rd,.i64),(.own,.sl 39 (.pair .i64 (.pair .i64 (.pair .i64 .i64))))],[.sl 39 (.pair .i64 (.pair .i64 (.pair .i64 .i64)))],.uniq,NI⟩
theorem TY:Sound Go.Proofs.Tryz.prog GLB 70 wv:=UX (T:=39) (e:=(.pair .i64 (.pair .i64 (.pair .i64 .i64)))) (ρ:=sP) Ov (Go.Proofs.enters_of Go.Proofs.Tryz.func70 (by kernel_rfl) rfl) rfl (by decide) ⟨by decide,by decide⟩ (.inr ⟨rfl,rfl⟩)
theorem glb_apart {W:World} (h:GLB.G W) : ∀ b∈GLB.gb,b<W.heap.size∧b∉([]++[]:List Nat):=by
  intro b hb
  refine⟨?_,by simp⟩
  simp only[GLB,List.mem_cons,List.not_mem_nil,or_false] at hb
  rcases hb with rfl|rfl
  · obtain⟨m,hm⟩:=h.1
    exact World.block_lt_of_cell? _ _ hm
  · have h2:=h.2
    simp only[Lib.TabIs,World.var?,gPow_ok,Option.bind_some] at h2
    cases hh:W.heap[bV]? with
    | none=>rw[hh] at h2; cases h2
    | some o=>exact Zu hh
end G448

