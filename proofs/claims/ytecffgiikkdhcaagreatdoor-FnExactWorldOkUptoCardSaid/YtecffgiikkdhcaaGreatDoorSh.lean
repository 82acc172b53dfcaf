/- The kit's contracts of library functions at this program (laid by the kit's own tool), as the evaluator takes them. (Printed by our own program.) -/
import Derived.Test.YtecffgiikkdhcaaGreatDoorProg
import Derived.Test.YtecffgiikkdhcaaGreatDoorLibH
import Derived.KernelRfl
import Derived.Shelf.LaysM
import Derived.Shelf.Strconv.Itoa3
import Derived.Shelf.Strings.Cut
import Derived.Shelf.Strings.LastIndex
import Derived.Shelf.Strings.Shaped
import Derived.Shelf.Strings.Split
set_option linter.unusedSimpArgs false
set_option linter.unusedVariables false

namespace Go.Proofs
open Go.Shelf
def Tryz.laysM171_ren : Go.Shelf.Ren := ⟨fun | 171 => 258 | 243 => 268 | 246 => 280 | 283 => 288 | 284 => 289 | 285 => 290 | 286 => 291 | 129 => 296 | 317 => 295 | 318 => 297 | 319 => 298 | 320 => 299 | 337 => 300 | 338 => 301 | n => n, fun | 3 => 3 | 9 => 9 | 2 => 2 | 4 => 4 | 171 => 285 | 0 => 0 | 53 => 286 | 37 => 31 | 5 => 5 | 173 => 289 | 212 => 294 | 51 => 282 | 20 => 20 | 213 => 295 | 46 => 277 | 232 => 302 | 233 => 303 | n => n, fun | 17 => 1 | 18 => 4 | 19 => 5 | n => n⟩
theorem Tryz.laysM171 : Go.Proofs.LaysM.n171 Tryz.prog Tryz.laysM171_ren := {
  mixed := by kernel_rfl
  f129 := Tryz.func296.trans (congrArg some (by kernel_rfl))
  f171 := Tryz.func258.trans (congrArg some (by kernel_rfl))
  f243 := Tryz.func268.trans (congrArg some (by kernel_rfl))
  f246 := Tryz.func280.trans (congrArg some (by kernel_rfl))
  f283 := Tryz.func288.trans (congrArg some (by kernel_rfl))
  f284 := Tryz.func289.trans (congrArg some (by kernel_rfl))
  f285 := Tryz.func290.trans (congrArg some (by kernel_rfl))
  f286 := Tryz.func291.trans (congrArg some (by kernel_rfl))
  f317 := Tryz.func295.trans (congrArg some (by kernel_rfl))
  f318 := Tryz.func297.trans (congrArg some (by kernel_rfl))
  f319 := Tryz.func298.trans (congrArg some (by kernel_rfl))
  f320 := Tryz.func299.trans (congrArg some (by kernel_rfl))
  f337 := Tryz.func300.trans (congrArg some (by kernel_rfl))
  f338 := Tryz.func301.trans (congrArg some (by kernel_rfl))
  t0 := Tryz.underlying0
  a0 := Tryz.isAgg0
  z0 := Tryz.sizeOf0
  v0 := Tryz.zeroValue0
  t2 := Tryz.underlying2
  a2 := Tryz.isAgg2
  z2 := Tryz.sizeOf2
  v2 := Tryz.zeroValue2
  t3 := Tryz.underlying3
  a3 := Tryz.isAgg3
  z3 := Tryz.sizeOf3
  v3 := Tryz.zeroValue3
  t4 := Tryz.underlying4
  a4 := Tryz.isAgg4
  z4 := Tryz.sizeOf4
  v4 := Tryz.zeroValue4
  t5 := Tryz.underlying5
  a5 := Tryz.isAgg5
  z5 := Tryz.sizeOf5
  v5 := Tryz.zeroValue5
  t9 := Tryz.underlying9
  a9 := Tryz.isAgg9
  z9 := Tryz.sizeOf9
  v9 := Tryz.zeroValue9
  t20 := Tryz.underlying20
  a20 := Tryz.isAgg20
  z20 := Tryz.sizeOf20
  v20 := Tryz.zeroValue20
  t37 := Tryz.underlying31
  a37 := Tryz.isAgg31
  z37 := Tryz.sizeOf31
  v37 := Tryz.zeroValue31
  t46 := Tryz.underlying277
  a46 := Tryz.isAgg277
  z46 := Tryz.sizeOf277
  v46 := Tryz.zeroValue277
  t51 := Tryz.underlying282
  a51 := Tryz.isAgg282
  z51 := Tryz.sizeOf282
  v51 := Tryz.zeroValue282
  t53 := Tryz.underlying286
  a53 := Tryz.isAgg286
  z53 := Tryz.sizeOf286
  v53 := Tryz.zeroValue286
  t171 := Tryz.underlying285
  a171 := Tryz.isAgg285
  z171 := Tryz.sizeOf285
  v171 := Tryz.zeroValue285
  t173 := Tryz.underlying289
  a173 := Tryz.isAgg289
  z173 := Tryz.sizeOf289
  v173 := Tryz.zeroValue289
  t212 := Tryz.underlying294
  a212 := Tryz.isAgg294
  z212 := Tryz.sizeOf294
  v212 := Tryz.zeroValue294
  t213 := Tryz.underlying295
  a213 := Tryz.isAgg295
  z213 := Tryz.sizeOf295
  t232 := Tryz.underlying302
  a232 := Tryz.isAgg302
  z232 := Tryz.sizeOf302
  v232 := Tryz.zeroValue302
  t233 := Tryz.underlying303
  a233 := Tryz.isAgg303
  z233 := Tryz.sizeOf303
  v233 := Tryz.zeroValue303
  g17 := by kernel_rfl
  g18 := by kernel_rfl
  g19 := by kernel_rfl
  i0 := by kernel_rfl
  i2 := by kernel_rfl
  i3 := by kernel_rfl
  i4 := by kernel_rfl
  i5 := by kernel_rfl
  i9 := by kernel_rfl
  i20 := by kernel_rfl
  i37 := by kernel_rfl
  i46 := by kernel_rfl
  i51 := by kernel_rfl
  i53 := by kernel_rfl
  i171 := by kernel_rfl
  i173 := by kernel_rfl
  i212 := by kernel_rfl
  i232 := by kernel_rfl
  i233 := by kernel_rfl
  m17 := by kernel_rfl
  m18 := by kernel_rfl
  m19 := by kernel_rfl }
open Go.RowKit Go.Sort Go.Lib in
theorem Tryz.strconv_Itoa (n : Int) (h0 : -9223372036854775808 ≤ n) (h1 : n ≤ 9223372036854775807) (w : World) (htab : Lib.TabIs Go.Proofs.Tryz.prog w "internal/strconv.uint64pow10" .u64 Lib.pow10Tab) :
    Calls Tryz.prog 258 #[.int .i64 n] w fun e w' => e = .returned (.string ⟨(Lib.itoa n).toArray⟩) ∧ ∃ k os, w' = grow (w.drewN k) os := Any.strconv_Itoa Tryz.laysM171 n h0 h1 w htab
def Tryz.lays145_ren : Go.Shelf.Ren := ⟨fun | 145 => 228 | 220 => 253 | 219 => 267 | 217 => 276 | 225 => 277 | 224 => 278 | 267 => 279 | 266 => 286 | 314 => 287 | n => n, fun | 9 => 9 | 4 => 4 | 59 => 242 | 3 => 3 | 5 => 5 | 46 => 277 | 146 => 283 | 51 => 282 | n => n, fun | 1 => 0 | n => n⟩
theorem Tryz.lays145 : Go.Proofs.Lays.n145 Tryz.prog Tryz.lays145_ren := {
  mixed := by kernel_rfl
  f145 := Tryz.func228.trans (congrArg some (by kernel_rfl))
  f217 := Tryz.func276.trans (congrArg some (by kernel_rfl))
  f219 := Tryz.func267.trans (congrArg some (by kernel_rfl))
  f220 := Tryz.func253.trans (congrArg some (by kernel_rfl))
  f224 := Tryz.func278.trans (congrArg some (by kernel_rfl))
  f225 := Tryz.func277.trans (congrArg some (by kernel_rfl))
  f266 := Tryz.func286.trans (congrArg some (by kernel_rfl))
  f267 := Tryz.func279.trans (congrArg some (by kernel_rfl))
  f314 := Tryz.func287.trans (congrArg some (by kernel_rfl))
  t3 := Tryz.underlying3
  a3 := Tryz.isAgg3
  z3 := Tryz.sizeOf3
  v3 := Tryz.zeroValue3
  t4 := Tryz.underlying4
  a4 := Tryz.isAgg4
  z4 := Tryz.sizeOf4
  v4 := Tryz.zeroValue4
  t5 := Tryz.underlying5
  a5 := Tryz.isAgg5
  z5 := Tryz.sizeOf5
  v5 := Tryz.zeroValue5
  t9 := Tryz.underlying9
  a9 := Tryz.isAgg9
  z9 := Tryz.sizeOf9
  v9 := Tryz.zeroValue9
  t46 := Tryz.underlying277
  a46 := Tryz.isAgg277
  z46 := Tryz.sizeOf277
  v46 := Tryz.zeroValue277
  t51 := Tryz.underlying282
  a51 := Tryz.isAgg282
  z51 := Tryz.sizeOf282
  v51 := Tryz.zeroValue282
  t59 := Tryz.underlying242
  a59 := Tryz.isAgg242
  z59 := Tryz.sizeOf242
  v59 := Tryz.zeroValue242
  t146 := Tryz.underlying283
  a146 := Tryz.isAgg283
  z146 := Tryz.sizeOf283
  v146 := Tryz.zeroValue283
  g1 := by kernel_rfl }
open Go.RowKit Go.Lib in
theorem Tryz.strings_Cut (s sep : ByteArray) (m : Int) (w : World) (hs : s.size < 4294967281) (hm : w.cell? ⟨0, 0, none⟩ = some (.int .i64 m)) :
    Calls Tryz.prog 228 #[.string s, .string sep] w fun e w' => e = .returned (.tuple #[.string ⟨(Lib.cut s.data.toList sep.data.toList).1.toArray⟩, .string ⟨(Lib.cut s.data.toList sep.data.toList).2.1.toArray⟩, .bool (Lib.cut s.data.toList sep.data.toList).2.2]) ∧ ∃ n, w' = w.drewN n := Any.strings_Cut Tryz.lays145 s sep m w hs hm
def Tryz.lays149_ren : Go.Shelf.Ren := ⟨fun | 149 => 261 | 222 => 272 | n => n, fun | 9 => 9 | 5 => 5 | 3 => 3 | 4 => 4 | n => n, fun | n => n⟩
theorem Tryz.lays149 : Go.Proofs.Lays.n149 Tryz.prog Tryz.lays149_ren := {
  mixed := by kernel_rfl
  f149 := Tryz.func261.trans (congrArg some (by kernel_rfl))
  f222 := Tryz.func272.trans (congrArg some (by kernel_rfl))
  t3 := Tryz.underlying3
  a3 := Tryz.isAgg3
  z3 := Tryz.sizeOf3
  v3 := Tryz.zeroValue3
  t4 := Tryz.underlying4
  a4 := Tryz.isAgg4
  z4 := Tryz.sizeOf4
  v4 := Tryz.zeroValue4
  t5 := Tryz.underlying5
  a5 := Tryz.isAgg5
  z5 := Tryz.sizeOf5
  v5 := Tryz.zeroValue5
  t9 := Tryz.underlying9
  a9 := Tryz.isAgg9
  z9 := Tryz.sizeOf9
  v9 := Tryz.zeroValue9 }
open Go.RowKit Go.Lib in
theorem Tryz.strings_LastIndexByte (s : ByteArray) (c : Int) (hs : s.size < 4611686018427387904) (w : World) :
    Calls Tryz.prog 261 #[.string s, .int .u8 c] w fun e w' => e = .returned (.int .i64 (Lib.lastIndexByte s c)) ∧ w' = w := Any.strings_LastIndexByte Tryz.lays149 s c hs w
def Tryz.lays146_ren : Go.Shelf.Ren := ⟨fun | 146 => 252 | 221 => 266 | 268 => 273 | 138 => 274 | 143 => 275 | 195 => 283 | 197 => 284 | 218 => 285 | 219 => 267 | 260 => 294 | 217 => 276 | 225 => 277 | 224 => 278 | 267 => 279 | 266 => 286 | 314 => 287 | n => n, fun | 9 => 9 | 31 => 240 | 3 => 3 | 4 => 4 | 0 => 0 | 105 => 280 | 21 => 21 | 5 => 5 | 46 => 277 | 119 => 297 | 139 => 300 | 138 => 299 | 146 => 283 | 51 => 282 | n => n, fun | 1 => 0 | 3 => 2 | 4 => 3 | n => n⟩
theorem Tryz.lays146 : Go.Proofs.Lays.n146 Tryz.prog Tryz.lays146_ren := {
  mixed := by kernel_rfl
  f138 := Tryz.func274.trans (congrArg some (by kernel_rfl))
  f143 := Tryz.func275.trans (congrArg some (by kernel_rfl))
  f146 := Tryz.func252.trans (congrArg some (by kernel_rfl))
  f195 := Tryz.func283.trans (congrArg some (by kernel_rfl))
  f197 := Tryz.func284.trans (congrArg some (by kernel_rfl))
  f217 := Tryz.func276.trans (congrArg some (by kernel_rfl))
  f218 := Tryz.func285.trans (congrArg some (by kernel_rfl))
  f219 := Tryz.func267.trans (congrArg some (by kernel_rfl))
  f221 := Tryz.func266.trans (congrArg some (by kernel_rfl))
  f224 := Tryz.func278.trans (congrArg some (by kernel_rfl))
  f225 := Tryz.func277.trans (congrArg some (by kernel_rfl))
  f260 := Tryz.func294.trans (congrArg some (by kernel_rfl))
  f266 := Tryz.func286.trans (congrArg some (by kernel_rfl))
  f267 := Tryz.func279.trans (congrArg some (by kernel_rfl))
  f268 := Tryz.func273.trans (congrArg some (by kernel_rfl))
  f314 := Tryz.func287.trans (congrArg some (by kernel_rfl))
  t0 := Tryz.underlying0
  a0 := Tryz.isAgg0
  z0 := Tryz.sizeOf0
  v0 := Tryz.zeroValue0
  t3 := Tryz.underlying3
  a3 := Tryz.isAgg3
  z3 := Tryz.sizeOf3
  v3 := Tryz.zeroValue3
  t4 := Tryz.underlying4
  a4 := Tryz.isAgg4
  z4 := Tryz.sizeOf4
  v4 := Tryz.zeroValue4
  t5 := Tryz.underlying5
  a5 := Tryz.isAgg5
  z5 := Tryz.sizeOf5
  v5 := Tryz.zeroValue5
  t9 := Tryz.underlying9
  a9 := Tryz.isAgg9
  z9 := Tryz.sizeOf9
  v9 := Tryz.zeroValue9
  t21 := Tryz.underlying21
  a21 := Tryz.isAgg21
  z21 := Tryz.sizeOf21
  v21 := Tryz.zeroValue21
  t31 := Tryz.underlying240
  a31 := Tryz.isAgg240
  z31 := Tryz.sizeOf240
  v31 := Tryz.zeroValue240
  t46 := Tryz.underlying277
  a46 := Tryz.isAgg277
  z46 := Tryz.sizeOf277
  v46 := Tryz.zeroValue277
  t51 := Tryz.underlying282
  a51 := Tryz.isAgg282
  z51 := Tryz.sizeOf282
  v51 := Tryz.zeroValue282
  t105 := Tryz.underlying280
  a105 := Tryz.isAgg280
  z105 := Tryz.sizeOf280
  v105 := Tryz.zeroValue280
  t119 := Tryz.underlying297
  a119 := Tryz.isAgg297
  z119 := Tryz.sizeOf297
  t138 := Tryz.underlying299
  a138 := Tryz.isAgg299
  z138 := Tryz.sizeOf299
  v138 := Tryz.zeroValue299
  t139 := Tryz.underlying300
  a139 := Tryz.isAgg300
  z139 := Tryz.sizeOf300
  v139 := Tryz.zeroValue300
  t146 := Tryz.underlying283
  a146 := Tryz.isAgg283
  z146 := Tryz.sizeOf283
  v146 := Tryz.zeroValue283
  g1 := by kernel_rfl
  g3 := by kernel_rfl
  g4 := by kernel_rfl }
open Go.RowKit Go.Lib in
theorem Tryz.strings_Split (s sep : ByteArray) (m : Int) (w : World) (hs : s.size < 4294967281) (hm : w.cell? ⟨0, 0, none⟩ = some (.int .i64 m)) (h1 : 1 ≤ sep.size) :
    Calls Tryz.prog 252 #[.string s, .string sep] w fun e w' =>
      e = .returned (.slice (some ⟨w.heap.size, 0, none⟩) (Lib.countB s sep + 1) (Lib.countB s sep + 1)) ∧ w' = w.alloc (.cells ((Lib.splitB sep 0 (Lib.countB s sep) s).map Value.string).toArray 9) := Any.strings_Split Tryz.lays146 (by kernel_rfl) s sep m w hs hm h1
end Go.Proofs

namespace G448
open Ev Go Go.RowKit
set_option linter.unusedVariables false
set_option maxRecDepth 100000
noncomputable def gPow : Nat := match Go.Proofs.Tryz.prog.globalNamed "internal/strconv.uint64pow10" with | some g => g | none => 0
theorem gPow_ok : Go.Proofs.Tryz.prog.globalNamed "internal/strconv.uint64pow10" = some gPow := by kernel_rfl
/-- The library's tables that are read. -/
noncomputable def GLB : Glob where
  gb := [0, gPow]
  G := fun w => (∃ m, w.cell? ⟨0, 0, none⟩ = some (.int .i64 m)) ∧ Lib.TabIs Go.Proofs.Tryz.prog w "internal/strconv.uint64pow10" .u64 Lib.pow10Tab
  frame := by
    rintro w w' h hb
    obtain ⟨h0, h1⟩ := h
    refine ⟨?_, ?_⟩
    · obtain ⟨m, hm⟩ := h0
      refine ⟨m, ?_⟩
      have e := hb 0 (by simp)
      simp only [World.cell?] at hm ⊢
      rw [e]; exact hm
    · have e := hb gPow (by simp)
      have h := h1
      simp only [Lib.TabIs, World.var?, gPow_ok, Option.bind_some] at h ⊢
      rw [e]; exact h
def pf252 : PF := ⟨[(.rd, .str), (.rd, .str)], [.sl 9 .str], .uniq, strings_Split⟩
theorem s252 : Sound Go.Proofs.Tryz.prog GLB 252 pf252 := sound_split (Go.Proofs.enters_of Go.Proofs.Tryz.func252 (by kernel_rfl) rfl) (fun w h => h.1) (fun s sep m w hs hm h1 => Go.Proofs.Tryz.strings_Split s sep m w hs hm h1)
def pf228 : PF := ⟨[(.rd, .str), (.rd, .str)], [.str, .str, .bool], .uniq, strings_Cut⟩
theorem s228 : Sound Go.Proofs.Tryz.prog GLB 228 pf228 := sound_cut (Go.Proofs.enters_of Go.Proofs.Tryz.func228 (by kernel_rfl) rfl) (fun w h => h.1) (fun s sep m w hs hm => Go.Proofs.Tryz.strings_Cut s sep m w hs hm)
def pf261 : PF := ⟨[(.rd, .str), (.rd, .u8)], [.i64], .uniq, strings_LastIndexByte⟩
theorem s261 : Sound Go.Proofs.Tryz.prog GLB 261 pf261 := sound_lastIndexByte (Go.Proofs.enters_of Go.Proofs.Tryz.func261 (by kernel_rfl) rfl) Go.Proofs.Tryz.strings_LastIndexByte
def pf258 : PF := ⟨[(.rd, .i64)], [.str], .uniq, strconv_Itoa⟩
theorem s258 : Sound Go.Proofs.Tryz.prog GLB 258 pf258 := sound_itoa (T := fun w => Lib.TabIs Go.Proofs.Tryz.prog w "internal/strconv.uint64pow10" .u64 Lib.pow10Tab) (Go.Proofs.enters_of Go.Proofs.Tryz.func258 (by kernel_rfl) rfl) (fun w h => h.2) (fun n h0 h1 w ht => Go.Proofs.Tryz.strconv_Itoa n h0 h1 w ht)
theorem glb_apart {W : World} (h : GLB.G W) : ∀ b ∈ GLB.gb, b < W.heap.size ∧ b ∉ ([] ++ [] : List Nat) := by
  intro b hb
  refine ⟨?_, by simp⟩
  simp only [GLB, List.mem_cons, List.not_mem_nil, or_false] at hb
  rcases hb with rfl | rfl
  · obtain ⟨m, hm⟩ := h.1
    exact World.block_lt_of_cell? _ _ hm
  · have h2 := h.2
    simp only [Lib.TabIs, World.var?, gPow_ok, Option.bind_some] at h2
    cases hh : W.heap[gPow]? with
    | none => rw [hh] at h2; cases h2
    | some o => exact lt_of_get hh
end G448

