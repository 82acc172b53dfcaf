/- The kit's contracts of library functions at this program (laid by the kit's own tool), as the evaluator takes them. (Printed by our own program.) -/
import Derived.Test.YtgdjegapdmbfnaaGreatDoorProg
import Derived.Test.YtgdjegapdmbfnaaGreatDoorLibH
import Derived.KernelRfl
import Derived.Shelf.LaysM
import Derived.Shelf.Strconv.Itoa3
import Derived.Shelf.Strings.Cut
import Derived.Shelf.Strings.LastIndex
import Derived.Shelf.Strings.Shaped
import Derived.Shelf.Strings.Split
set_option linter.unusedSimpArgs false
set_option linter.unusedVariables false

namespace Go.Proofs
open Go.Shelf
def Tryz.laysM171_ren : Go.Shelf.Ren := ⟨fun | 171 => 341 | 243 => 353 | 246 => 361 | 283 => 364 | 284 => 365 | 285 => 366 | 286 => 367 | 129 => 369 | 317 => 368 | 318 => 370 | 319 => 371 | 320 => 372 | 337 => 373 | 338 => 374 | n => n, fun | 3 => 3 | 9 => 9 | 2 => 2 | 4 => 4 | 171 => 318 | 0 => 0 | 53 => 319 | 37 => 31 | 5 => 5 | 173 => 322 | 212 => 328 | 51 => 313 | 20 => 20 | 213 => 329 | 46 => 309 | 232 => 332 | 233 => 333 | n => n, fun | 17 => 3 | 18 => 4 | 19 => 5 | n => n⟩
theorem Tryz.laysM171 : Go.Proofs.LaysM.n171 Tryz.prog Tryz.laysM171_ren := {
  mixed := by kernel_rfl
  f129 := Tryz.func369.trans (congrArg some (by kernel_rfl))
  f171 := Tryz.func341.trans (congrArg some (by kernel_rfl))
  f243 := Tryz.func353.trans (congrArg some (by kernel_rfl))
  f246 := Tryz.func361.trans (congrArg some (by kernel_rfl))
  f283 := Tryz.func364.trans (congrArg some (by kernel_rfl))
  f284 := Tryz.func365.trans (congrArg some (by kernel_rfl))
  f285 := Tryz.func366.trans (congrArg some (by kernel_rfl))
  f286 := Tryz.func367.trans (congrArg some (by kernel_rfl))
  f317 := Tryz.func368.trans (congrArg some (by kernel_rfl))
  f318 := Tryz.func370.trans (congrArg some (by kernel_rfl))
  f319 := Tryz.func371.trans (congrArg some (by kernel_rfl))
  f320 := Tryz.func372.trans (congrArg some (by kernel_rfl))
  f337 := Tryz.func373.trans (congrArg some (by kernel_rfl))
  f338 := Tryz.func374.trans (congrArg some (by kernel_rfl))
  t0 := Tryz.underlying0
  a0 := Tryz.isAgg0
  z0 := Tryz.sizeOf0
  v0 := Tryz.zeroValue0
  t2 := Tryz.underlying2
  a2 := Tryz.isAgg2
  z2 := Tryz.sizeOf2
  v2 := Tryz.zeroValue2
  t3 := Tryz.underlying3
  a3 := Tryz.isAgg3
  z3 := Tryz.sizeOf3
  v3 := Tryz.zeroValue3
  t4 := Tryz.underlying4
  a4 := Tryz.isAgg4
  z4 := Tryz.sizeOf4
  v4 := Tryz.zeroValue4
  t5 := Tryz.underlying5
  a5 := Tryz.isAgg5
  z5 := Tryz.sizeOf5
  v5 := Tryz.zeroValue5
  t9 := Tryz.underlying9
  a9 := Tryz.isAgg9
  z9 := Tryz.sizeOf9
  v9 := Tryz.zeroValue9
  t20 := Tryz.underlying20
  a20 := Tryz.isAgg20
  z20 := Tryz.sizeOf20
  v20 := Tryz.zeroValue20
  t37 := Tryz.underlying31
  a37 := Tryz.isAgg31
  z37 := Tryz.sizeOf31
  v37 := Tryz.zeroValue31
  t46 := Tryz.underlying309
  a46 := Tryz.isAgg309
  z46 := Tryz.sizeOf309
  v46 := Tryz.zeroValue309
  t51 := Tryz.underlying313
  a51 := Tryz.isAgg313
  z51 := Tryz.sizeOf313
  v51 := Tryz.zeroValue313
  t53 := Tryz.underlying319
  a53 := Tryz.isAgg319
  z53 := Tryz.sizeOf319
  v53 := Tryz.zeroValue319
  t171 := Tryz.underlying318
  a171 := Tryz.isAgg318
  z171 := Tryz.sizeOf318
  v171 := Tryz.zeroValue318
  t173 := Tryz.underlying322
  a173 := Tryz.isAgg322
  z173 := Tryz.sizeOf322
  v173 := Tryz.zeroValue322
  t212 := Tryz.underlying328
  a212 := Tryz.isAgg328
  z212 := Tryz.sizeOf328
  v212 := Tryz.zeroValue328
  t213 := Tryz.underlying329
  a213 := Tryz.isAgg329
  z213 := Tryz.sizeOf329
  t232 := Tryz.underlying332
  a232 := Tryz.isAgg332
  z232 := Tryz.sizeOf332
  v232 := Tryz.zeroValue332
  t233 := Tryz.underlying333
  a233 := Tryz.isAgg333
  z233 := Tryz.sizeOf333
  v233 := Tryz.zeroValue333
  g17 := by kernel_rfl
  g18 := by kernel_rfl
  g19 := by kernel_rfl
  i0 := by kernel_rfl
  i2 := by kernel_rfl
  i3 := by kernel_rfl
  i4 := by kernel_rfl
  i5 := by kernel_rfl
  i9 := by kernel_rfl
  i20 := by kernel_rfl
  i37 := by kernel_rfl
  i46 := by kernel_rfl
  i51 := by kernel_rfl
  i53 := by kernel_rfl
  i171 := by kernel_rfl
  i173 := by kernel_rfl
  i212 := by kernel_rfl
  i232 := by kernel_rfl
  i233 := by kernel_rfl
  m17 := by kernel_rfl
  m18 := by kernel_rfl
  m19 := by kernel_rfl }
open Go.RowKit Go.Sort Go.Lib in
theorem Tryz.strconv_Itoa (n : Int) (h0 : -9223372036854775808 ≤ n) (h1 : n ≤ 9223372036854775807) (w : World) (htab : Lib.TabIs Go.Proofs.Tryz.prog w "internal/strconv.uint64pow10" .u64 Lib.pow10Tab) :
    Calls Tryz.prog 341 #[.int .i64 n] w fun e w' => e = .returned (.string ⟨(Lib.itoa n).toArray⟩) ∧ ∃ k os, w' = grow (w.drewN k) os := Any.strconv_Itoa Tryz.laysM171 n h0 h1 w htab
def Tryz.lays145_ren : Go.Shelf.Ren := ⟨fun | 145 => 295 | 220 => 326 | 219 => 340 | 217 => 349 | 225 => 350 | 224 => 351 | 267 => 352 | 266 => 359 | 314 => 360 | n => n, fun | 9 => 9 | 4 => 4 | 59 => 279 | 3 => 3 | 5 => 5 | 46 => 309 | 146 => 314 | 51 => 313 | n => n, fun | 1 => 0 | n => n⟩
theorem Tryz.lays145 : Go.Proofs.Lays.n145 Tryz.prog Tryz.lays145_ren := {
  mixed := by kernel_rfl
  f145 := Tryz.func295.trans (congrArg some (by kernel_rfl))
  f217 := Tryz.func349.trans (congrArg some (by kernel_rfl))
  f219 := Tryz.func340.trans (congrArg some (by kernel_rfl))
  f220 := Tryz.func326.trans (congrArg some (by kernel_rfl))
  f224 := Tryz.func351.trans (congrArg some (by kernel_rfl))
  f225 := Tryz.func350.trans (congrArg some (by kernel_rfl))
  f266 := Tryz.func359.trans (congrArg some (by kernel_rfl))
  f267 := Tryz.func352.trans (congrArg some (by kernel_rfl))
  f314 := Tryz.func360.trans (congrArg some (by kernel_rfl))
  t3 := Tryz.underlying3
  a3 := Tryz.isAgg3
  z3 := Tryz.sizeOf3
  v3 := Tryz.zeroValue3
  t4 := Tryz.underlying4
  a4 := Tryz.isAgg4
  z4 := Tryz.sizeOf4
  v4 := Tryz.zeroValue4
  t5 := Tryz.underlying5
  a5 := Tryz.isAgg5
  z5 := Tryz.sizeOf5
  v5 := Tryz.zeroValue5
  t9 := Tryz.underlying9
  a9 := Tryz.isAgg9
  z9 := Tryz.sizeOf9
  v9 := Tryz.zeroValue9
  t46 := Tryz.underlying309
  a46 := Tryz.isAgg309
  z46 := Tryz.sizeOf309
  v46 := Tryz.zeroValue309
  t51 := Tryz.underlying313
  a51 := Tryz.isAgg313
  z51 := Tryz.sizeOf313
  v51 := Tryz.zeroValue313
  t59 := Tryz.underlying279
  a59 := Tryz.isAgg279
  z59 := Tryz.sizeOf279
  v59 := Tryz.zeroValue279
  t146 := Tryz.underlying314
  a146 := Tryz.isAgg314
  z146 := Tryz.sizeOf314
  v146 := Tryz.zeroValue314
  g1 := by kernel_rfl }
open Go.RowKit Go.Lib in
theorem Tryz.strings_Cut (s sep : ByteArray) (m : Int) (w : World) (hs : s.size < 4294967281) (hm : w.cell? ⟨0, 0, none⟩ = some (.int .i64 m)) :
    Calls Tryz.prog 295 #[.string s, .string sep] w fun e w' => e = .returned (.tuple #[.string ⟨(Lib.cut s.data.toList sep.data.toList).1.toArray⟩, .string ⟨(Lib.cut s.data.toList sep.data.toList).2.1.toArray⟩, .bool (Lib.cut s.data.toList sep.data.toList).2.2]) ∧ ∃ n, w' = w.drewN n := Any.strings_Cut Tryz.lays145 s sep m w hs hm
def Tryz.lays149_ren : Go.Shelf.Ren := ⟨fun | 149 => 272 | 222 => 313 | n => n, fun | 9 => 9 | 5 => 5 | 3 => 3 | 4 => 4 | n => n, fun | n => n⟩
theorem Tryz.lays149 : Go.Proofs.Lays.n149 Tryz.prog Tryz.lays149_ren := {
  mixed := by kernel_rfl
  f149 := Tryz.func272.trans (congrArg some (by kernel_rfl))
  f222 := Tryz.func313.trans (congrArg some (by kernel_rfl))
  t3 := Tryz.underlying3
  a3 := Tryz.isAgg3
  z3 := Tryz.sizeOf3
  v3 := Tryz.zeroValue3
  t4 := Tryz.underlying4
  a4 := Tryz.isAgg4
  z4 := Tryz.sizeOf4
  v4 := Tryz.zeroValue4
  t5 := Tryz.underlying5
  a5 := Tryz.isAgg5
  z5 := Tryz.sizeOf5
  v5 := Tryz.zeroValue5
  t9 := Tryz.underlying9
  a9 := Tryz.isAgg9
  z9 := Tryz.sizeOf9
  v9 := Tryz.zeroValue9 }
open Go.RowKit Go.Lib in
theorem Tryz.strings_LastIndexByte (s : ByteArray) (c : Int) (hs : s.size < 4611686018427387904) (w : World) :
    Calls Tryz.prog 272 #[.string s, .int .u8 c] w fun e w' => e = .returned (.int .i64 (Lib.lastIndexByte s c)) ∧ w' = w := Any.strings_LastIndexByte Tryz.lays149 s c hs w
def Tryz.lays146_ren : Go.Shelf.Ren := ⟨fun | 146 => 325 | 221 => 339 | 268 => 346 | 138 => 347 | 143 => 348 | 195 => 356 | 197 => 357 | 218 => 358 | 219 => 340 | 260 => 363 | 217 => 349 | 225 => 350 | 224 => 351 | 267 => 352 | 266 => 359 | 314 => 360 | n => n, fun | 9 => 9 | 31 => 277 | 3 => 3 | 4 => 4 | 0 => 0 | 105 => 311 | 21 => 21 | 5 => 5 | 46 => 309 | 119 => 324 | 139 => 327 | 138 => 326 | 146 => 314 | 51 => 313 | n => n, fun | 1 => 0 | 3 => 1 | 4 => 2 | n => n⟩
theorem Tryz.lays146 : Go.Proofs.Lays.n146 Tryz.prog Tryz.lays146_ren := {
  mixed := by kernel_rfl
  f138 := Tryz.func347.trans (congrArg some (by kernel_rfl))
  f143 := Tryz.func348.trans (congrArg some (by kernel_rfl))
  f146 := Tryz.func325.trans (congrArg some (by kernel_rfl))
  f195 := Tryz.func356.trans (congrArg some (by kernel_rfl))
  f197 := Tryz.func357.trans (congrArg some (by kernel_rfl))
  f217 := Tryz.func349.trans (congrArg some (by kernel_rfl))
  f218 := Tryz.func358.trans (congrArg some (by kernel_rfl))
  f219 := Tryz.func340.trans (congrArg some (by kernel_rfl))
  f221 := Tryz.func339.trans (congrArg some (by kernel_rfl))
  f224 := Tryz.func351.trans (congrArg some (by kernel_rfl))
  f225 := Tryz.func350.trans (congrArg some (by kernel_rfl))
  f260 := Tryz.func363.trans (congrArg some (by kernel_rfl))
  f266 := Tryz.func359.trans (congrArg some (by kernel_rfl))
  f267 := Tryz.func352.trans (congrArg some (by kernel_rfl))
  f268 := Tryz.func346.trans (congrArg some (by kernel_rfl))
  f314 := Tryz.func360.trans (congrArg some (by kernel_rfl))
  t0 := Tryz.underlying0
  a0 := Tryz.isAgg0
  z0 := Tryz.sizeOf0
  v0 := Tryz.zeroValue0
  t3 := Tryz.underlying3
  a3 := Tryz.isAgg3
  z3 := Tryz.sizeOf3
  v3 := Tryz.zeroValue3
  t4 := Tryz.underlying4
  a4 := Tryz.isAgg4
  z4 := Tryz.sizeOf4
  v4 := Tryz.zeroValue4
  t5 := Tryz.underlying5
  a5 := Tryz.isAgg5
  z5 := Tryz.sizeOf5
  v5 := Tryz.zeroValue5
  t9 := Tryz.underlying9
  a9 := Tryz.isAgg9
  z9 := Tryz.sizeOf9
  v9 := Tryz.zeroValue9
  t21 := Tryz.underlying21
  a21 := Tryz.isAgg21
  z21 := Tryz.sizeOf21
  v21 := Tryz.zeroValue21
  t31 := Tryz.underlying277
  a31 := Tryz.isAgg277
  z31 := Tryz.sizeOf277
  v31 := Tryz.zeroValue277
  t46 := Tryz.underlying309
  a46 := Tryz.isAgg309
  z46 := Tryz.sizeOf309
  v46 := Tryz.zeroValue309
  t51 := Tryz.underlying313
  a51 := Tryz.isAgg313
  z51 := Tryz.sizeOf313
  v51 := Tryz.zeroValue313
  t105 := Tryz.underlying311
  a105 := Tryz.isAgg311
  z105 := Tryz.sizeOf311
  v105 := Tryz.zeroValue311
  t119 := Tryz.underlying324
  a119 := Tryz.isAgg324
  z119 := Tryz.sizeOf324
  t138 := Tryz.underlying326
  a138 := Tryz.isAgg326
  z138 := Tryz.sizeOf326
  v138 := Tryz.zeroValue326
  t139 := Tryz.underlying327
  a139 := Tryz.isAgg327
  z139 := Tryz.sizeOf327
  v139 := Tryz.zeroValue327
  t146 := Tryz.underlying314
  a146 := Tryz.isAgg314
  z146 := Tryz.sizeOf314
  v146 := Tryz.zeroValue314
  g1 := by kernel_rfl
  g3 := by kernel_rfl
  g4 := by kernel_rfl }
open Go.RowKit Go.Lib in
theorem Tryz.strings_Split (s sep : ByteArray) (m : Int) (w : World) (hs : s.size < 4294967281) (hm : w.cell? ⟨0, 0, none⟩ = some (.int .i64 m)) (h1 : 1 ≤ sep.size) :
    Calls Tryz.prog 325 #[.string s, .string sep] w fun e w' =>
      e = .returned (.slice (some ⟨w.heap.size, 0, none⟩) (Lib.countB s sep + 1) (Lib.countB s sep + 1)) ∧ w' = w.alloc (.cells ((Lib.splitB sep 0 (Lib.countB s sep) s).map Value.string).toArray 9) := Any.strings_Split Tryz.lays146 (by kernel_rfl) s sep m w hs hm h1
end Go.Proofs

namespace G448
open Ev Go Go.RowKit
set_option linter.unusedVariables false
set_option maxRecDepth 100000
noncomputable def gPow : Nat := match Go.Proofs.Tryz.prog.globalNamed "internal/strconv.uint64pow10" with | some g => g | none => 0
theorem gPow_ok : Go.Proofs.Tryz.prog.globalNamed "internal/strconv.uint64pow10" = some gPow := by kernel_rfl
/-- The library's tables that are read. -/
noncomputable def GLB : Glob where
  gb := [0, gPow]
  G := fun w => (∃ m, w.cell? ⟨0, 0, none⟩ = some (.int .i64 m)) ∧ Lib.TabIs Go.Proofs.Tryz.prog w "internal/strconv.uint64pow10" .u64 Lib.pow10Tab
  frame := by
    rintro w w' h hb
    obtain ⟨h0, h1⟩ := h
    refine ⟨?_, ?_⟩
    · obtain ⟨m, hm⟩ := h0
      refine ⟨m, ?_⟩
      have e := hb 0 (by simp)
      simp only [World.cell?] at hm ⊢
      rw [e]; exact hm
    · have e := hb gPow (by simp)
      have h := h1
      simp only [Lib.TabIs, World.var?, gPow_ok, Option.bind_some] at h ⊢
      rw [e]; exact h
def pf325 : PF := ⟨[(.rd, .str), (.rd, .str)], [.sl 9 .str], .uniq, strings_Split⟩
theorem s325 : Sound Go.Proofs.Tryz.prog GLB 325 pf325 := sound_split (Go.Proofs.enters_of Go.Proofs.Tryz.func325 (by kernel_rfl) rfl) (fun w h => h.1) (fun s sep m w hs hm h1 => Go.Proofs.Tryz.strings_Split s sep m w hs hm h1)
def pf295 : PF := ⟨[(.rd, .str), (.rd, .str)], [.str, .str, .bool], .uniq, strings_Cut⟩
theorem s295 : Sound Go.Proofs.Tryz.prog GLB 295 pf295 := sound_cut (Go.Proofs.enters_of Go.Proofs.Tryz.func295 (by kernel_rfl) rfl) (fun w h => h.1) (fun s sep m w hs hm => Go.Proofs.Tryz.strings_Cut s sep m w hs hm)
def pf272 : PF := ⟨[(.rd, .str), (.rd, .u8)], [.i64], .uniq, strings_LastIndexByte⟩
theorem s272 : Sound Go.Proofs.Tryz.prog GLB 272 pf272 := sound_lastIndexByte (Go.Proofs.enters_of Go.Proofs.Tryz.func272 (by kernel_rfl) rfl) Go.Proofs.Tryz.strings_LastIndexByte
def pf341 : PF := ⟨[(.rd, .i64)], [.str], .uniq, strconv_Itoa⟩
theorem s341 : Sound Go.Proofs.Tryz.prog GLB 341 pf341 := sound_itoa (T := fun w => Lib.TabIs Go.Proofs.Tryz.prog w "internal/strconv.uint64pow10" .u64 Lib.pow10Tab) (Go.Proofs.enters_of Go.Proofs.Tryz.func341 (by kernel_rfl) rfl) (fun w h => h.2) (fun n h0 h1 w ht => Go.Proofs.Tryz.strconv_Itoa n h0 h1 w ht)
def insR336 : Go.Shelf.Ren := ⟨fun | 22 => 336 | 29 => 344 | 30 => 345 | n => n, fun | 9 => 3 | 24 => 24 | n => n, fun n => n⟩
theorem insOk336 : InsOk Go.Proofs.Tryz.prog insR336 1 #[.int .i64 0] 8 := {
  mixed := by kernel_rfl
  f22 := ⟨"slices.Insert[[]int,int]", Go.Proofs.Tryz.func336.trans (congrArg some (by kernel_rfl))⟩
  ov := fun args w => Go.run_callFunc_extern Go.Proofs.Tryz.func344 (by kernel_rfl) (by kernel_rfl) (by kernel_rfl) (by kernel_rfl) args w
  t0 := Go.Proofs.Tryz.underlying0
  a0 := Go.Proofs.Tryz.isAgg0
  z0 := Go.Proofs.Tryz.sizeOf0
  v0 := Go.Proofs.Tryz.zeroValue0
  t3 := Go.Proofs.Tryz.underlying3
  a3 := Go.Proofs.Tryz.isAgg3
  z3 := Go.Proofs.Tryz.sizeOf3
  v3 := Go.Proofs.Tryz.zeroValue3
  t4 := Go.Proofs.Tryz.underlying4
  a4 := Go.Proofs.Tryz.isAgg4
  z4 := Go.Proofs.Tryz.sizeOf4
  v4 := Go.Proofs.Tryz.zeroValue4
  z9 := Go.Proofs.Tryz.sizeOf3
  t24 := Go.Proofs.Tryz.underlying24
  a24 := Go.Proofs.Tryz.isAgg24
  z24 := Go.Proofs.Tryz.sizeOf24
  v24 := Go.Proofs.Tryz.zeroValue24
  i9 := by kernel_rfl }
def pf336 : PF := ⟨[(.own, .sl 3 .i64), (.rd, .i64), (.own, .sl 3 .i64)], [.sl 3 .i64], .uniq, slices_Insert_int⟩
theorem s336 : Sound Go.Proofs.Tryz.prog GLB 336 pf336 := sound_insert (T := 3) (e := .i64) (ρ := insR336) insOk336 (Go.Proofs.enters_of Go.Proofs.Tryz.func336 (by kernel_rfl) rfl) rfl (by decide) (.inr ⟨rfl, rfl⟩)
def insR306 : Go.Shelf.Ren := ⟨fun | 22 => 306 | 29 => 331 | 30 => 332 | n => n, fun | 9 => 105 | 24 => 41 | n => n, fun n => n⟩
theorem insOk306 : InsOk Go.Proofs.Tryz.prog insR306 4 #[.int .i64 0, .int .i64 0, .int .i64 0, .int .i64 0] 32 := {
  mixed := by kernel_rfl
  f22 := ⟨"slices.Insert[[]loop.example/g00448/impl.Tx,loop.example/g00448/impl.Tx]", Go.Proofs.Tryz.func306.trans (congrArg some (by kernel_rfl))⟩
  ov := fun args w => Go.run_callFunc_extern Go.Proofs.Tryz.func331 (by kernel_rfl) (by kernel_rfl) (by kernel_rfl) (by kernel_rfl) args w
  t0 := Go.Proofs.Tryz.underlying0
  a0 := Go.Proofs.Tryz.isAgg0
  z0 := Go.Proofs.Tryz.sizeOf0
  v0 := Go.Proofs.Tryz.zeroValue0
  t3 := Go.Proofs.Tryz.underlying3
  a3 := Go.Proofs.Tryz.isAgg3
  z3 := Go.Proofs.Tryz.sizeOf3
  v3 := Go.Proofs.Tryz.zeroValue3
  t4 := Go.Proofs.Tryz.underlying4
  a4 := Go.Proofs.Tryz.isAgg4
  z4 := Go.Proofs.Tryz.sizeOf4
  v4 := Go.Proofs.Tryz.zeroValue4
  z9 := Go.Proofs.Tryz.sizeOf105
  t24 := Go.Proofs.Tryz.underlying41
  a24 := Go.Proofs.Tryz.isAgg41
  z24 := Go.Proofs.Tryz.sizeOf41
  v24 := Go.Proofs.Tryz.zeroValue41
  i9 := by kernel_rfl }
def pf306 : PF := ⟨[(.own, .sl 105 (.pair .i64 (.pair .i64 (.pair .i64 .i64)))), (.rd, .i64), (.own, .sl 105 (.pair .i64 (.pair .i64 (.pair .i64 .i64))))], [.sl 105 (.pair .i64 (.pair .i64 (.pair .i64 .i64)))], .uniq, slices_Insert_impl_Tx⟩
theorem s306 : Sound Go.Proofs.Tryz.prog GLB 306 pf306 := sound_insert (T := 105) (e := (.pair .i64 (.pair .i64 (.pair .i64 .i64)))) (ρ := insR306) insOk306 (Go.Proofs.enters_of Go.Proofs.Tryz.func306 (by kernel_rfl) rfl) rfl (by decide) (.inr ⟨rfl, rfl⟩)
def insR218 : Go.Shelf.Ren := ⟨fun | 22 => 218 | 29 => 277 | 30 => 278 | n => n, fun | 9 => 84 | 24 => 42 | n => n, fun n => n⟩
theorem insOk218 : InsOk Go.Proofs.Tryz.prog insR218 3 #[.int .i64 0, .string ⟨#[]⟩, .slice none 0 0] 48 := {
  mixed := by kernel_rfl
  f22 := ⟨"slices.Insert[[]loop.example/g00448/impl.Part,loop.example/g00448/impl.Part]", Go.Proofs.Tryz.func218.trans (congrArg some (by kernel_rfl))⟩
  ov := fun args w => Go.run_callFunc_extern Go.Proofs.Tryz.func277 (by kernel_rfl) (by kernel_rfl) (by kernel_rfl) (by kernel_rfl) args w
  t0 := Go.Proofs.Tryz.underlying0
  a0 := Go.Proofs.Tryz.isAgg0
  z0 := Go.Proofs.Tryz.sizeOf0
  v0 := Go.Proofs.Tryz.zeroValue0
  t3 := Go.Proofs.Tryz.underlying3
  a3 := Go.Proofs.Tryz.isAgg3
  z3 := Go.Proofs.Tryz.sizeOf3
  v3 := Go.Proofs.Tryz.zeroValue3
  t4 := Go.Proofs.Tryz.underlying4
  a4 := Go.Proofs.Tryz.isAgg4
  z4 := Go.Proofs.Tryz.sizeOf4
  v4 := Go.Proofs.Tryz.zeroValue4
  z9 := Go.Proofs.Tryz.sizeOf84
  t24 := Go.Proofs.Tryz.underlying42
  a24 := Go.Proofs.Tryz.isAgg42
  z24 := Go.Proofs.Tryz.sizeOf42
  v24 := Go.Proofs.Tryz.zeroValue42
  i9 := by kernel_rfl }
def pf218 : PF := ⟨[(.own, .sl 84 (.pair .i64 (.pair .str (.sl 3 .i64)))), (.rd, .i64), (.own, .sl 84 (.pair .i64 (.pair .str (.sl 3 .i64))))], [.sl 84 (.pair .i64 (.pair .str (.sl 3 .i64)))], .own, slices_Insert_impl_Part⟩
theorem s218 : Sound Go.Proofs.Tryz.prog GLB 218 pf218 := sound_insert (T := 84) (e := (.pair .i64 (.pair .str (.sl 3 .i64)))) (ρ := insR218) insOk218 (Go.Proofs.enters_of Go.Proofs.Tryz.func218 (by kernel_rfl) rfl) rfl (by decide) (.inl rfl)
theorem glb_apart {W : World} (h : GLB.G W) : ∀ b ∈ GLB.gb, b < W.heap.size ∧ b ∉ ([] ++ [] : List Nat) := by
  intro b hb
  refine ⟨?_, by simp⟩
  simp only [GLB, List.mem_cons, List.not_mem_nil, or_false] at hb
  rcases hb with rfl | rfl
  · obtain ⟨m, hm⟩ := h.1
    exact World.block_lt_of_cell? _ _ hm
  · have h2 := h.2
    simp only [Lib.TabIs, World.var?, gPow_ok, Option.bind_some] at h2
    cases hh : W.heap[gPow]? with
    | none => rw [hh] at h2; cases h2
    | some o => exact lt_of_get hh
end G448

