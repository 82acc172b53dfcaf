/- The kit's contracts of library functions at this program (laid by the kit's own tool), as the evaluator takes them. (Printed by our own program.) -/
import Derived.Test.YtcpjfipnagidgaaGreatDoorProg
import Derived.Test.YtcpjfipnagidgaaGreatDoorLibH
import Derived.KernelRfl
import Derived.Shelf.LaysM
import Derived.Shelf.Strconv.Itoa3
import Derived.Shelf.Strings.Cut
import Derived.Shelf.Strings.LastIndex
import Derived.Shelf.Strings.Shaped
import Derived.Shelf.Strings.Split
set_option linter.unusedSimpArgs false
set_option linter.unusedVariables false

namespace Go.Proofs
open Go.Shelf
def Tryz.laysM171_ren : Go.Shelf.Ren := ⟨fun | 171 => 295 | 243 => 340 | 246 => 366 | 283 => 381 | 284 => 382 | 285 => 383 | 286 => 384 | 129 => 392 | 317 => 391 | 318 => 393 | 319 => 394 | 320 => 395 | 337 => 399 | 338 => 400 | n => n, fun | 3 => 3 | 9 => 9 | 2 => 2 | 4 => 4 | 171 => 312 | 0 => 0 | 53 => 313 | 37 => 22 | 5 => 5 | 173 => 316 | 212 => 332 | 51 => 303 | 20 => 20 | 213 => 333 | 46 => 194 | 232 => 340 | 233 => 341 | n => n, fun | 17 => 3 | 18 => 4 | 19 => 5 | n => n⟩
theorem Tryz.laysM171 : Go.Proofs.LaysM.n171 Tryz.prog Tryz.laysM171_ren := {
  mixed := by kernel_rfl
  f129 := Tryz.func392.trans (congrArg some (by kernel_rfl))
  f171 := Tryz.func295.trans (congrArg some (by kernel_rfl))
  f243 := Tryz.func340.trans (congrArg some (by kernel_rfl))
  f246 := Tryz.func366.trans (congrArg some (by kernel_rfl))
  f283 := Tryz.func381.trans (congrArg some (by kernel_rfl))
  f284 := Tryz.func382.trans (congrArg some (by kernel_rfl))
  f285 := Tryz.func383.trans (congrArg some (by kernel_rfl))
  f286 := Tryz.func384.trans (congrArg some (by kernel_rfl))
  f317 := Tryz.func391.trans (congrArg some (by kernel_rfl))
  f318 := Tryz.func393.trans (congrArg some (by kernel_rfl))
  f319 := Tryz.func394.trans (congrArg some (by kernel_rfl))
  f320 := Tryz.func395.trans (congrArg some (by kernel_rfl))
  f337 := Tryz.func399.trans (congrArg some (by kernel_rfl))
  f338 := Tryz.func400.trans (congrArg some (by kernel_rfl))
  t0 := Tryz.underlying0
  a0 := Tryz.isAgg0
  z0 := Tryz.sizeOf0
  v0 := Tryz.zeroValue0
  t2 := Tryz.underlying2
  a2 := Tryz.isAgg2
  z2 := Tryz.sizeOf2
  v2 := Tryz.zeroValue2
  t3 := Tryz.underlying3
  a3 := Tryz.isAgg3
  z3 := Tryz.sizeOf3
  v3 := Tryz.zeroValue3
  t4 := Tryz.underlying4
  a4 := Tryz.isAgg4
  z4 := Tryz.sizeOf4
  v4 := Tryz.zeroValue4
  t5 := Tryz.underlying5
  a5 := Tryz.isAgg5
  z5 := Tryz.sizeOf5
  v5 := Tryz.zeroValue5
  t9 := Tryz.underlying9
  a9 := Tryz.isAgg9
  z9 := Tryz.sizeOf9
  v9 := Tryz.zeroValue9
  t20 := Tryz.underlying20
  a20 := Tryz.isAgg20
  z20 := Tryz.sizeOf20
  v20 := Tryz.zeroValue20
  t37 := Tryz.underlying22
  a37 := Tryz.isAgg22
  z37 := Tryz.sizeOf22
  v37 := Tryz.zeroValue22
  t46 := Tryz.underlying194
  a46 := Tryz.isAgg194
  z46 := Tryz.sizeOf194
  v46 := Tryz.zeroValue194
  t51 := Tryz.underlying303
  a51 := Tryz.isAgg303
  z51 := Tryz.sizeOf303
  v51 := Tryz.zeroValue303
  t53 := Tryz.underlying313
  a53 := Tryz.isAgg313
  z53 := Tryz.sizeOf313
  v53 := Tryz.zeroValue313
  t171 := Tryz.underlying312
  a171 := Tryz.isAgg312
  z171 := Tryz.sizeOf312
  v171 := Tryz.zeroValue312
  t173 := Tryz.underlying316
  a173 := Tryz.isAgg316
  z173 := Tryz.sizeOf316
  v173 := Tryz.zeroValue316
  t212 := Tryz.underlying332
  a212 := Tryz.isAgg332
  z212 := Tryz.sizeOf332
  v212 := Tryz.zeroValue332
  t213 := Tryz.underlying333
  a213 := Tryz.isAgg333
  z213 := Tryz.sizeOf333
  t232 := Tryz.underlying340
  a232 := Tryz.isAgg340
  z232 := Tryz.sizeOf340
  v232 := Tryz.zeroValue340
  t233 := Tryz.underlying341
  a233 := Tryz.isAgg341
  z233 := Tryz.sizeOf341
  v233 := Tryz.zeroValue341
  g17 := by kernel_rfl
  g18 := by kernel_rfl
  g19 := by kernel_rfl
  i0 := by kernel_rfl
  i2 := by kernel_rfl
  i3 := by kernel_rfl
  i4 := by kernel_rfl
  i5 := by kernel_rfl
  i9 := by kernel_rfl
  i20 := by kernel_rfl
  i37 := by kernel_rfl
  i46 := by kernel_rfl
  i51 := by kernel_rfl
  i53 := by kernel_rfl
  i171 := by kernel_rfl
  i173 := by kernel_rfl
  i212 := by kernel_rfl
  i232 := by kernel_rfl
  i233 := by kernel_rfl
  m17 := by kernel_rfl
  m18 := by kernel_rfl
  m19 := by kernel_rfl }
open Go.RowKit Go.Sort Go.Lib in
theorem Tryz.strconv_Itoa (n : Int) (h0 : -9223372036854775808 ≤ n) (h1 : n ≤ 9223372036854775807) (w : World) (htab : Lib.TabIs Go.Proofs.Tryz.prog w "internal/strconv.uint64pow10" .u64 Lib.pow10Tab) :
    Calls Tryz.prog 295 #[.int .i64 n] w fun e w' => e = .returned (.string ⟨(Lib.itoa n).toArray⟩) ∧ ∃ k os, w' = grow (w.drewN k) os := Any.strconv_Itoa Tryz.laysM171 n h0 h1 w htab
def Tryz.lays145_ren : Go.Shelf.Ren := ⟨fun | 145 => 200 | 220 => 247 | 219 => 294 | 217 => 336 | 225 => 337 | 224 => 338 | 267 => 339 | 266 => 364 | 314 => 365 | n => n, fun | 9 => 9 | 4 => 4 | 59 => 225 | 3 => 3 | 5 => 5 | 46 => 194 | 146 => 304 | 51 => 303 | n => n, fun | 1 => 0 | n => n⟩
theorem Tryz.lays145 : Go.Proofs.Lays.n145 Tryz.prog Tryz.lays145_ren := {
  mixed := by kernel_rfl
  f145 := Tryz.func200.trans (congrArg some (by kernel_rfl))
  f217 := Tryz.func336.trans (congrArg some (by kernel_rfl))
  f219 := Tryz.func294.trans (congrArg some (by kernel_rfl))
  f220 := Tryz.func247.trans (congrArg some (by kernel_rfl))
  f224 := Tryz.func338.trans (congrArg some (by kernel_rfl))
  f225 := Tryz.func337.trans (congrArg some (by kernel_rfl))
  f266 := Tryz.func364.trans (congrArg some (by kernel_rfl))
  f267 := Tryz.func339.trans (congrArg some (by kernel_rfl))
  f314 := Tryz.func365.trans (congrArg some (by kernel_rfl))
  t3 := Tryz.underlying3
  a3 := Tryz.isAgg3
  z3 := Tryz.sizeOf3
  v3 := Tryz.zeroValue3
  t4 := Tryz.underlying4
  a4 := Tryz.isAgg4
  z4 := Tryz.sizeOf4
  v4 := Tryz.zeroValue4
  t5 := Tryz.underlying5
  a5 := Tryz.isAgg5
  z5 := Tryz.sizeOf5
  v5 := Tryz.zeroValue5
  t9 := Tryz.underlying9
  a9 := Tryz.isAgg9
  z9 := Tryz.sizeOf9
  v9 := Tryz.zeroValue9
  t46 := Tryz.underlying194
  a46 := Tryz.isAgg194
  z46 := Tryz.sizeOf194
  v46 := Tryz.zeroValue194
  t51 := Tryz.underlying303
  a51 := Tryz.isAgg303
  z51 := Tryz.sizeOf303
  v51 := Tryz.zeroValue303
  t59 := Tryz.underlying225
  a59 := Tryz.isAgg225
  z59 := Tryz.sizeOf225
  v59 := Tryz.zeroValue225
  t146 := Tryz.underlying304
  a146 := Tryz.isAgg304
  z146 := Tryz.sizeOf304
  v146 := Tryz.zeroValue304
  g1 := by kernel_rfl }
open Go.RowKit Go.Lib in
theorem Tryz.strings_Cut (s sep : ByteArray) (m : Int) (w : World) (hs : s.size < 4294967281) (hm : w.cell? ⟨0, 0, none⟩ = some (.int .i64 m)) :
    Calls Tryz.prog 200 #[.string s, .string sep] w fun e w' => e = .returned (.tuple #[.string ⟨(Lib.cut s.data.toList sep.data.toList).1.toArray⟩, .string ⟨(Lib.cut s.data.toList sep.data.toList).2.1.toArray⟩, .bool (Lib.cut s.data.toList sep.data.toList).2.2]) ∧ ∃ n, w' = w.drewN n := Any.strings_Cut Tryz.lays145 s sep m w hs hm
def Tryz.lays149_ren : Go.Shelf.Ren := ⟨fun | 149 => 206 | 222 => 251 | n => n, fun | 9 => 9 | 5 => 5 | 3 => 3 | 4 => 4 | n => n, fun | n => n⟩
theorem Tryz.lays149 : Go.Proofs.Lays.n149 Tryz.prog Tryz.lays149_ren := {
  mixed := by kernel_rfl
  f149 := Tryz.func206.trans (congrArg some (by kernel_rfl))
  f222 := Tryz.func251.trans (congrArg some (by kernel_rfl))
  t3 := Tryz.underlying3
  a3 := Tryz.isAgg3
  z3 := Tryz.sizeOf3
  v3 := Tryz.zeroValue3
  t4 := Tryz.underlying4
  a4 := Tryz.isAgg4
  z4 := Tryz.sizeOf4
  v4 := Tryz.zeroValue4
  t5 := Tryz.underlying5
  a5 := Tryz.isAgg5
  z5 := Tryz.sizeOf5
  v5 := Tryz.zeroValue5
  t9 := Tryz.underlying9
  a9 := Tryz.isAgg9
  z9 := Tryz.sizeOf9
  v9 := Tryz.zeroValue9 }
open Go.RowKit Go.Lib in
theorem Tryz.strings_LastIndexByte (s : ByteArray) (c : Int) (hs : s.size < 4611686018427387904) (w : World) :
    Calls Tryz.prog 206 #[.string s, .int .u8 c] w fun e w' => e = .returned (.int .i64 (Lib.lastIndexByte s c)) ∧ w' = w := Any.strings_LastIndexByte Tryz.lays149 s c hs w
def Tryz.lays146_ren : Go.Shelf.Ren := ⟨fun | 146 => 246 | 221 => 293 | 268 => 333 | 138 => 334 | 143 => 335 | 195 => 361 | 197 => 362 | 218 => 363 | 219 => 294 | 260 => 380 | 217 => 336 | 225 => 337 | 224 => 338 | 267 => 339 | 266 => 364 | 314 => 365 | n => n, fun | 9 => 9 | 31 => 223 | 3 => 3 | 4 => 4 | 0 => 0 | 105 => 301 | 21 => 21 | 5 => 5 | 46 => 194 | 119 => 328 | 139 => 331 | 138 => 330 | 146 => 304 | 51 => 303 | n => n, fun | 1 => 0 | 3 => 1 | 4 => 2 | n => n⟩
theorem Tryz.lays146 : Go.Proofs.Lays.n146 Tryz.prog Tryz.lays146_ren := {
  mixed := by kernel_rfl
  f138 := Tryz.func334.trans (congrArg some (by kernel_rfl))
  f143 := Tryz.func335.trans (congrArg some (by kernel_rfl))
  f146 := Tryz.func246.trans (congrArg some (by kernel_rfl))
  f195 := Tryz.func361.trans (congrArg some (by kernel_rfl))
  f197 := Tryz.func362.trans (congrArg some (by kernel_rfl))
  f217 := Tryz.func336.trans (congrArg some (by kernel_rfl))
  f218 := Tryz.func363.trans (congrArg some (by kernel_rfl))
  f219 := Tryz.func294.trans (congrArg some (by kernel_rfl))
  f221 := Tryz.func293.trans (congrArg some (by kernel_rfl))
  f224 := Tryz.func338.trans (congrArg some (by kernel_rfl))
  f225 := Tryz.func337.trans (congrArg some (by kernel_rfl))
  f260 := Tryz.func380.trans (congrArg some (by kernel_rfl))
  f266 := Tryz.func364.trans (congrArg some (by kernel_rfl))
  f267 := Tryz.func339.trans (congrArg some (by kernel_rfl))
  f268 := Tryz.func333.trans (congrArg some (by kernel_rfl))
  f314 := Tryz.func365.trans (congrArg some (by kernel_rfl))
  t0 := Tryz.underlying0
  a0 := Tryz.isAgg0
  z0 := Tryz.sizeOf0
  v0 := Tryz.zeroValue0
  t3 := Tryz.underlying3
  a3 := Tryz.isAgg3
  z3 := Tryz.sizeOf3
  v3 := Tryz.zeroValue3
  t4 := Tryz.underlying4
  a4 := Tryz.isAgg4
  z4 := Tryz.sizeOf4
  v4 := Tryz.zeroValue4
  t5 := Tryz.underlying5
  a5 := Tryz.isAgg5
  z5 := Tryz.sizeOf5
  v5 := Tryz.zeroValue5
  t9 := Tryz.underlying9
  a9 := Tryz.isAgg9
  z9 := Tryz.sizeOf9
  v9 := Tryz.zeroValue9
  t21 := Tryz.underlying21
  a21 := Tryz.isAgg21
  z21 := Tryz.sizeOf21
  v21 := Tryz.zeroValue21
  t31 := Tryz.underlying223
  a31 := Tryz.isAgg223
  z31 := Tryz.sizeOf223
  v31 := Tryz.zeroValue223
  t46 := Tryz.underlying194
  a46 := Tryz.isAgg194
  z46 := Tryz.sizeOf194
  v46 := Tryz.zeroValue194
  t51 := Tryz.underlying303
  a51 := Tryz.isAgg303
  z51 := Tryz.sizeOf303
  v51 := Tryz.zeroValue303
  t105 := Tryz.underlying301
  a105 := Tryz.isAgg301
  z105 := Tryz.sizeOf301
  v105 := Tryz.zeroValue301
  t119 := Tryz.underlying328
  a119 := Tryz.isAgg328
  z119 := Tryz.sizeOf328
  t138 := Tryz.underlying330
  a138 := Tryz.isAgg330
  z138 := Tryz.sizeOf330
  v138 := Tryz.zeroValue330
  t139 := Tryz.underlying331
  a139 := Tryz.isAgg331
  z139 := Tryz.sizeOf331
  v139 := Tryz.zeroValue331
  t146 := Tryz.underlying304
  a146 := Tryz.isAgg304
  z146 := Tryz.sizeOf304
  v146 := Tryz.zeroValue304
  g1 := by kernel_rfl
  g3 := by kernel_rfl
  g4 := by kernel_rfl }
open Go.RowKit Go.Lib in
theorem Tryz.strings_Split (s sep : ByteArray) (m : Int) (w : World) (hs : s.size < 4294967281) (hm : w.cell? ⟨0, 0, none⟩ = some (.int .i64 m)) (h1 : 1 ≤ sep.size) :
    Calls Tryz.prog 246 #[.string s, .string sep] w fun e w' =>
      e = .returned (.slice (some ⟨w.heap.size, 0, none⟩) (Lib.countB s sep + 1) (Lib.countB s sep + 1)) ∧ w' = w.alloc (.cells ((Lib.splitB sep 0 (Lib.countB s sep) s).map Value.string).toArray 9) := Any.strings_Split Tryz.lays146 (by kernel_rfl) s sep m w hs hm h1
end Go.Proofs

namespace G448
open Ev Go Go.RowKit
set_option linter.unusedVariables false
set_option maxRecDepth 100000
noncomputable def gPow : Nat := match Go.Proofs.Tryz.prog.globalNamed "internal/strconv.uint64pow10" with | some g => g | none => 0
theorem gPow_ok : Go.Proofs.Tryz.prog.globalNamed "internal/strconv.uint64pow10" = some gPow := by kernel_rfl
/-- The library's tables that are read. -/
noncomputable def GLB : Glob where
  gb := [0, gPow]
  G := fun w => (∃ m, w.cell? ⟨0, 0, none⟩ = some (.int .i64 m)) ∧ Lib.TabIs Go.Proofs.Tryz.prog w "internal/strconv.uint64pow10" .u64 Lib.pow10Tab
  frame := by
    rintro w w' h hb
    obtain ⟨h0, h1⟩ := h
    refine ⟨?_, ?_⟩
    · obtain ⟨m, hm⟩ := h0
      refine ⟨m, ?_⟩
      have e := hb 0 (by simp)
      simp only [World.cell?] at hm ⊢
      rw [e]; exact hm
    · have e := hb gPow (by simp)
      have h := h1
      simp only [Lib.TabIs, World.var?, gPow_ok, Option.bind_some] at h ⊢
      rw [e]; exact h
def pf246 : PF := ⟨[(.rd, .str), (.rd, .str)], [.sl 9 .str], .uniq, strings_Split⟩
theorem s246 : Sound Go.Proofs.Tryz.prog GLB 246 pf246 := sound_split (Go.Proofs.enters_of Go.Proofs.Tryz.func246 (by kernel_rfl) rfl) (fun w h => h.1) (fun s sep m w hs hm h1 => Go.Proofs.Tryz.strings_Split s sep m w hs hm h1)
def pf200 : PF := ⟨[(.rd, .str), (.rd, .str)], [.str, .str, .bool], .uniq, strings_Cut⟩
theorem s200 : Sound Go.Proofs.Tryz.prog GLB 200 pf200 := sound_cut (Go.Proofs.enters_of Go.Proofs.Tryz.func200 (by kernel_rfl) rfl) (fun w h => h.1) (fun s sep m w hs hm => Go.Proofs.Tryz.strings_Cut s sep m w hs hm)
def pf206 : PF := ⟨[(.rd, .str), (.rd, .u8)], [.i64], .uniq, strings_LastIndexByte⟩
theorem s206 : Sound Go.Proofs.Tryz.prog GLB 206 pf206 := sound_lastIndexByte (Go.Proofs.enters_of Go.Proofs.Tryz.func206 (by kernel_rfl) rfl) Go.Proofs.Tryz.strings_LastIndexByte
def pf295 : PF := ⟨[(.rd, .i64)], [.str], .uniq, strconv_Itoa⟩
theorem s295 : Sound Go.Proofs.Tryz.prog GLB 295 pf295 := sound_itoa (T := fun w => Lib.TabIs Go.Proofs.Tryz.prog w "internal/strconv.uint64pow10" .u64 Lib.pow10Tab) (Go.Proofs.enters_of Go.Proofs.Tryz.func295 (by kernel_rfl) rfl) (fun w h => h.2) (fun n h0 h1 w ht => Go.Proofs.Tryz.strconv_Itoa n h0 h1 w ht)
theorem glb_apart {W : World} (h : GLB.G W) : ∀ b ∈ GLB.gb, b < W.heap.size ∧ b ∉ ([] ++ [] : List Nat) := by
  intro b hb
  refine ⟨?_, by simp⟩
  simp only [GLB, List.mem_cons, List.not_mem_nil, or_false] at hb
  rcases hb with rfl | rfl
  · obtain ⟨m, hm⟩ := h.1
    exact World.block_lt_of_cell? _ _ hm
  · have h2 := h.2
    simp only [Lib.TabIs, World.var?, gPow_ok, Option.bind_some] at h2
    cases hh : W.heap[gPow]? with
    | none => rw [hh] at h2; cases h2
    | some o => exact lt_of_get hh
end G448

