/- That the printed functions are what the evaluator reckons. (Printed by our own program.) -/
import Derived.Test.YtgdjegapdmbfnaaGreatDoorProg
import Derived.Test.YtgdjegapdmbfnaaGreatDoorHpFns
import Derived.Test.YtgdjegapdmbfnaaGreatDoorSh
import Derived.KernelRfl
set_option linter.unusedSimpArgs false
set_option linter.unusedVariables false

namespace G448
open Ev Go Go.Proofs
set_option linter.unusedVariables false
set_option maxRecDepth 100000
noncomputable section

abbrev q1 : Ty := (.pair .i64 (.pair .i64 (.pair (.pair .str (.pair .i64 (.pair .str (.sl 3 .i64)))) (.pair (.pair .i64 (.pair .str (.sl 3 .i64))) (.pair (.pair .i64 (.pair .str (.sl 3 .i64))) (.pair .i64 (.pair .i64 (.pair .i64 (.pair .i64 .i64)))))))))
abbrev q2 : Ty := (.pair .i64 (.pair .i64 (.pair .i64 (.pair (.pair .i64 (.pair .i64 (.pair (.pair .i64 (.pair .str (.sl 3 .i64))) .str))) (.pair (.sl 105 (.pair .i64 (.pair .i64 (.pair .i64 .i64)))) (.pair (.sl 84 (.pair .i64 (.pair .str (.sl 3 .i64)))) (.pair (.pair (.sl 5 .u8) .i64) (.sl 163 (.pair .i64 q1)))))))))
abbrev q3 : Ty := (.pair .i64 (.pair .str (.sl 3 .i64)))
abbrev q4 : Ty := (.pair .i64 (.pair .i64 (.pair .i64 .i64)))
abbrev q5 : Ty := (.pair .i64 (.pair .i64 (.pair q3 .str)))
abbrev q6 : Ty := (.pair (.sl 5 .u8) .i64)
abbrev q7 : Ty := (.sl 163 (.pair .i64 q1))
abbrev q8 : Ty := (.pair .i64 (.pair .i64 (.pair .i64 (.pair q5 (.pair (.sl 100 q4) (.pair (.sl 81 q3) (.pair q6 (.sl 156 (.pair .i64 q1)))))))))
abbrev q9 : Ty := (.sl 246 (.pair .i64 (.sl 105 q4)))
def TYS : List (Nat × TD) := [(3, ⟨.i64, 8, [], none⟩), (4, ⟨.bool, 1, [], none⟩), (5, ⟨.u8, 1, [], none⟩), (9, ⟨.str, 16, [], none⟩), (23, ⟨(.pair .i64 .i64), 16, [(0, 3), (1, 3)], none⟩), (24, ⟨(.sl 3 .i64), 24, [], none⟩), (26, ⟨(.pair .i64 (.pair .str (.sl 3 .i64))), 48, [(0, 3), (1, 9), (2, 24)], none⟩), (28, ⟨(.pair .i64 (.pair .i64 (.pair (.pair .i64 (.pair .str (.sl 3 .i64))) .str))), 80, [(0, 3), (1, 3), (2, 26), (5, 9)], none⟩), (29, ⟨(.sl 100 (.pair .i64 (.pair .i64 (.pair .i64 .i64)))), 24, [], none⟩), (30, ⟨(.sl 81 (.pair .i64 (.pair .str (.sl 3 .i64)))), 24, [], none⟩), (31, ⟨(.sl 5 .u8), 24, [], none⟩), (33, ⟨(.pair (.sl 5 .u8) .i64), 32, [(0, 31), (1, 3)], none⟩), (34, ⟨(.sl 156 (.pair .i64 (.pair .i64 (.pair .i64 (.pair (.pair .str (.pair .i64 (.pair .str (.sl 3 .i64)))) (.pair (.pair .i64 (.pair .str (.sl 3 .i64))) (.pair (.pair .i64 (.pair .str (.sl 3 .i64))) (.pair .i64 (.pair .i64 (.pair .i64 (.pair .i64 .i64))))))))))), 24, [], none⟩), (36, ⟨(.pair .i64 (.pair .i64 (.pair .i64 (.pair (.pair .i64 (.pair .i64 (.pair (.pair .i64 (.pair .str (.sl 3 .i64))) .str))) (.pair (.sl 100 (.pair .i64 (.pair .i64 (.pair .i64 .i64)))) (.pair (.sl 81 (.pair .i64 (.pair .str (.sl 3 .i64)))) (.pair (.pair (.sl 5 .u8) .i64) (.sl 156 (.pair .i64 (.pair .i64 (.pair .i64 (.pair (.pair .str (.pair .i64 (.pair .str (.sl 3 .i64)))) (.pair (.pair .i64 (.pair .str (.sl 3 .i64))) (.pair (.pair .i64 (.pair .str (.sl 3 .i64))) (.pair .i64 (.pair .i64 (.pair .i64 (.pair .i64 .i64)))))))))))))))))), 208, [(0, 3), (1, 3), (2, 3), (3, 28), (9, 29), (10, 30), (11, 33), (13, 34)], none⟩), (38, ⟨(.pair .i64 (.pair .str (.sl 3 .i64))), 48, [(0, 3), (1, 9), (2, 24)], none⟩), (40, ⟨(.pair .i64 (.pair .i64 (.pair (.pair .i64 (.pair .str (.sl 3 .i64))) .str))), 80, [(0, 3), (1, 3), (2, 38), (5, 9)], none⟩), (41, ⟨(.sl 105 (.pair .i64 (.pair .i64 (.pair .i64 .i64)))), 24, [], none⟩), (42, ⟨(.sl 84 (.pair .i64 (.pair .str (.sl 3 .i64)))), 24, [], none⟩), (43, ⟨(.pair (.sl 5 .u8) .i64), 32, [(0, 31), (1, 3)], none⟩), (44, ⟨(.sl 163 (.pair .i64 (.pair .i64 (.pair .i64 (.pair (.pair .str (.pair .i64 (.pair .str (.sl 3 .i64)))) (.pair (.pair .i64 (.pair .str (.sl 3 .i64))) (.pair (.pair .i64 (.pair .str (.sl 3 .i64))) (.pair .i64 (.pair .i64 (.pair .i64 (.pair .i64 .i64))))))))))), 24, [], none⟩), (46, ⟨(.pair .i64 (.pair .i64 (.pair .i64 (.pair (.pair .i64 (.pair .i64 (.pair (.pair .i64 (.pair .str (.sl 3 .i64))) .str))) (.pair (.sl 105 (.pair .i64 (.pair .i64 (.pair .i64 .i64)))) (.pair (.sl 84 (.pair .i64 (.pair .str (.sl 3 .i64)))) (.pair (.pair (.sl 5 .u8) .i64) (.sl 163 (.pair .i64 (.pair .i64 (.pair .i64 (.pair (.pair .str (.pair .i64 (.pair .str (.sl 3 .i64)))) (.pair (.pair .i64 (.pair .str (.sl 3 .i64))) (.pair (.pair .i64 (.pair .str (.sl 3 .i64))) (.pair .i64 (.pair .i64 (.pair .i64 (.pair .i64 .i64)))))))))))))))))), 208, [(0, 3), (1, 3), (2, 3), (3, 40), (9, 41), (10, 42), (11, 43), (13, 44)], none⟩), (49, ⟨(.pair .i64 .i64), 16, [(0, 3), (1, 3)], none⟩), (61, ⟨(.sl 36 (.pair .i64 (.pair .i64 (.pair .i64 (.pair (.pair .i64 (.pair .i64 (.pair (.pair .i64 (.pair .str (.sl 3 .i64))) .str))) (.pair (.sl 100 (.pair .i64 (.pair .i64 (.pair .i64 .i64)))) (.pair (.sl 81 (.pair .i64 (.pair .str (.sl 3 .i64)))) (.pair (.pair (.sl 5 .u8) .i64) (.sl 156 (.pair .i64 (.pair .i64 (.pair .i64 (.pair (.pair .str (.pair .i64 (.pair .str (.sl 3 .i64)))) (.pair (.pair .i64 (.pair .str (.sl 3 .i64))) (.pair (.pair .i64 (.pair .str (.sl 3 .i64))) (.pair .i64 (.pair .i64 (.pair .i64 (.pair .i64 .i64))))))))))))))))))), 24, [], none⟩), (62, ⟨(.sl 226 (.pair .i64 (.sl 5 .u8))), 24, [], none⟩), (63, ⟨(.sl 229 (.pair .i64 (.pair .str .i64))), 24, [], none⟩), (65, ⟨(.pair (.pair .i64 .i64) (.pair (.sl 3 .i64) (.pair (.sl 36 (.pair .i64 (.pair .i64 (.pair .i64 (.pair (.pair .i64 (.pair .i64 (.pair (.pair .i64 (.pair .str (.sl 3 .i64))) .str))) (.pair (.sl 100 (.pair .i64 (.pair .i64 (.pair .i64 .i64)))) (.pair (.sl 81 (.pair .i64 (.pair .str (.sl 3 .i64)))) (.pair (.pair (.sl 5 .u8) .i64) (.sl 156 (.pair .i64 (.pair .i64 (.pair .i64 (.pair (.pair .str (.pair .i64 (.pair .str (.sl 3 .i64)))) (.pair (.pair .i64 (.pair .str (.sl 3 .i64))) (.pair (.pair .i64 (.pair .str (.sl 3 .i64))) (.pair .i64 (.pair .i64 (.pair .i64 (.pair .i64 .i64))))))))))))))))))) (.pair (.sl 226 (.pair .i64 (.sl 5 .u8))) (.sl 229 (.pair .i64 (.pair .str .i64))))))), 112, [(0, 23), (2, 24), (3, 61), (4, 62), (5, 63)], none⟩), (68, ⟨(.sl 46 (.pair .i64 (.pair .i64 (.pair .i64 (.pair (.pair .i64 (.pair .i64 (.pair (.pair .i64 (.pair .str (.sl 3 .i64))) .str))) (.pair (.sl 105 (.pair .i64 (.pair .i64 (.pair .i64 .i64)))) (.pair (.sl 84 (.pair .i64 (.pair .str (.sl 3 .i64)))) (.pair (.pair (.sl 5 .u8) .i64) (.sl 163 (.pair .i64 (.pair .i64 (.pair .i64 (.pair (.pair .str (.pair .i64 (.pair .str (.sl 3 .i64)))) (.pair (.pair .i64 (.pair .str (.sl 3 .i64))) (.pair (.pair .i64 (.pair .str (.sl 3 .i64))) (.pair .i64 (.pair .i64 (.pair .i64 (.pair .i64 .i64))))))))))))))))))), 24, [], none⟩), (69, ⟨(.sl 167 (.pair .i64 (.sl 5 .u8))), 24, [], none⟩), (70, ⟨(.sl 232 (.pair .i64 (.pair .str .i64))), 24, [], none⟩), (72, ⟨(.pair (.pair .i64 .i64) (.pair (.sl 3 .i64) (.pair (.sl 46 (.pair .i64 (.pair .i64 (.pair .i64 (.pair (.pair .i64 (.pair .i64 (.pair (.pair .i64 (.pair .str (.sl 3 .i64))) .str))) (.pair (.sl 105 (.pair .i64 (.pair .i64 (.pair .i64 .i64)))) (.pair (.sl 84 (.pair .i64 (.pair .str (.sl 3 .i64)))) (.pair (.pair (.sl 5 .u8) .i64) (.sl 163 (.pair .i64 (.pair .i64 (.pair .i64 (.pair (.pair .str (.pair .i64 (.pair .str (.sl 3 .i64)))) (.pair (.pair .i64 (.pair .str (.sl 3 .i64))) (.pair (.pair .i64 (.pair .str (.sl 3 .i64))) (.pair .i64 (.pair .i64 (.pair .i64 (.pair .i64 .i64))))))))))))))))))) (.pair (.sl 167 (.pair .i64 (.sl 5 .u8))) (.sl 232 (.pair .i64 (.pair .str .i64))))))), 112, [(0, 49), (2, 24), (3, 68), (4, 69), (5, 70)], none⟩), (81, ⟨(.pair .i64 (.pair .str (.sl 3 .i64))), 48, [(0, 3), (1, 9), (2, 24)], none⟩), (84, ⟨(.pair .i64 (.pair .str (.sl 3 .i64))), 48, [(0, 3), (1, 9), (2, 24)], none⟩), (90, ⟨(.pair .str (.pair .i64 (.pair .str (.sl 3 .i64)))), 64, [(0, 9), (1, 26)], none⟩), (94, ⟨(.pair .str (.pair .i64 (.pair .str (.sl 3 .i64)))), 64, [(0, 9), (1, 38)], none⟩), (100, ⟨(.pair .i64 (.pair .i64 (.pair .i64 .i64))), 32, [(0, 3), (1, 3), (2, 3), (3, 3)], none⟩), (102, ⟨(.pair .i64 (.pair .i64 (.pair (.pair .str (.pair .i64 (.pair .str (.sl 3 .i64)))) (.pair (.pair .i64 (.pair .str (.sl 3 .i64))) (.pair (.pair .i64 (.pair .str (.sl 3 .i64))) (.pair .i64 (.pair .i64 (.pair .i64 (.pair .i64 .i64))))))))), 216, [(0, 3), (1, 3), (2, 90), (6, 81), (9, 26), (12, 3), (13, 100)], none⟩), (105, ⟨(.pair .i64 (.pair .i64 (.pair .i64 .i64))), 32, [(0, 3), (1, 3), (2, 3), (3, 3)], none⟩), (107, ⟨(.pair .i64 (.pair .i64 (.pair (.pair .str (.pair .i64 (.pair .str (.sl 3 .i64)))) (.pair (.pair .i64 (.pair .str (.sl 3 .i64))) (.pair (.pair .i64 (.pair .str (.sl 3 .i64))) (.pair .i64 (.pair .i64 (.pair .i64 (.pair .i64 .i64))))))))), 216, [(0, 3), (1, 3), (2, 94), (6, 84), (9, 38), (12, 3), (13, 105)], none⟩), (156, ⟨(.pair .i64 (.pair .i64 (.pair .i64 (.pair (.pair .str (.pair .i64 (.pair .str (.sl 3 .i64)))) (.pair (.pair .i64 (.pair .str (.sl 3 .i64))) (.pair (.pair .i64 (.pair .str (.sl 3 .i64))) (.pair .i64 (.pair .i64 (.pair .i64 (.pair .i64 .i64)))))))))), 224, [(0, 3), (1, 102)], none⟩), (163, ⟨(.pair .i64 (.pair .i64 (.pair .i64 (.pair (.pair .str (.pair .i64 (.pair .str (.sl 3 .i64)))) (.pair (.pair .i64 (.pair .str (.sl 3 .i64))) (.pair (.pair .i64 (.pair .str (.sl 3 .i64))) (.pair .i64 (.pair .i64 (.pair .i64 (.pair .i64 .i64)))))))))), 224, [(0, 3), (1, 107)], none⟩), (167, ⟨(.pair .i64 (.sl 5 .u8)), 32, [(0, 3), (1, 31)], none⟩), (188, ⟨(.pair (.sl 3 .i64) (.sl 3 .i64)), 48, [(0, 24), (1, 24)], none⟩), (226, ⟨(.pair .i64 (.sl 5 .u8)), 32, [(0, 3), (1, 31)], none⟩), (229, ⟨(.pair .i64 (.pair .str .i64)), 32, [(0, 3), (1, 9), (2, 3)], none⟩), (232, ⟨(.pair .i64 (.pair .str .i64)), 32, [(0, 3), (1, 9), (2, 3)], none⟩), (242, ⟨(.sl 246 (.pair .i64 (.sl 105 (.pair .i64 (.pair .i64 (.pair .i64 .i64)))))), 24, [], none⟩), (246, ⟨(.pair .i64 (.sl 105 (.pair .i64 (.pair .i64 (.pair .i64 .i64))))), 32, [(0, 3), (1, 41)], none⟩), (265, ⟨(.pair (.sl 5 .u8) (.pair .i64 .bool)), 40, [(0, 31), (1, 3), (2, 4)], none⟩), (273, ⟨(.pair (.sl 5 .u8) (.pair .i64 .bool)), 40, [(0, 31), (1, 3), (2, 4)], none⟩), (277, ⟨(.sl 9 .str), 24, [], none⟩), (305, ⟨(.sl 3 .i64), 32, [], some 4⟩)]
def EQS : List Nat := [105]
theorem tysOK : tysOk Tryz.prog TYS = true := by kernel_rfl
theorem tilesOK : tilesOk TYS = true := by kernel_rfl
theorem eqsOK : EQS.all (eqOk Tryz.prog TYS) = true := by kernel_rfl
theorem mixedOK : Tryz.prog.follows .mixedOrders = true := by kernel_rfl
theorem envOK {fns : List (Nat × PF)} {news : List (Nat × NF)} {muts : List (Nat × MF)} {frz : Bool} {conds : List (Nat × PF)} (h : AllS Tryz.prog GLB fns) (h2 : AllN Tryz.prog GLB news) (h3 : AllM Tryz.prog GLB muts) (h4 : AllC Tryz.prog GLB conds) : EnvOk Tryz.prog GLB ⟨TYS, fns, EQS, news, muts, frz, conds⟩ := envOk_of mixedOK tysOK eqsOK h h2 h3 h4

abbrev Sd (f : Nat) (pf : PF) : Prop := Sound Tryz.prog GLB f pf
theorem sf {F : FEnv} {f : FuncId} {fn : Func} {pf : PF} (hE : EnvOk Tryz.prog GLB F.E) (hf : Tryz.prog.funcs[f]? = some fn) (he : ∀ a, evFun F fn pf.params pf.rets pf.rk a = pf.fn a) (hn : (fn.name == "runtime.NumGoroutine") = false := by kernel_rfl) : Sd f pf := sound_fun hE hf hn fun a o h => (he a).trans h
def F86 : FEnv := ⟨⟨TYS, [], EQS, [], [], false, []⟩, []⟩
def pf86 : PF := ⟨[(.rd, (.sl 3 .i64)), (.rd, .i64)], [.i64], .uniq, laws_szIntS⟩
theorem s86 : Sd 86 pf86 := sf (F := F86) (envOK trivial trivial trivial trivial) Tryz.func86 fun a => by kernel_rfl
def F17 : FEnv := ⟨⟨TYS, [(86, pf86)], EQS, [], [], false, []⟩, []⟩
def pf17 : PF := ⟨[(.rd, q3), (.rd, .i64)], [.i64], .uniq, laws_szQc⟩
theorem s17 : Sd 17 pf17 := sf (F := F17) (envOK ⟨s86, trivial⟩ trivial trivial trivial) Tryz.func17 fun a => by kernel_rfl
def F52 : FEnv := ⟨⟨TYS, [(17, pf17)], EQS, [], [], false, []⟩, []⟩
def pf52 : PF := ⟨[(.rd, q5), (.rd, .i64)], [.i64], .uniq, laws_szSafe⟩
theorem s52 : Sd 52 pf52 := sf (F := F52) (envOK ⟨s17, trivial⟩ trivial trivial trivial) Tryz.func52 fun a => by kernel_rfl
def F53 : FEnv := ⟨⟨TYS, [], EQS, [], [], false, []⟩, []⟩
def pf53 : PF := ⟨[(.rd, (.sl 100 q4)), (.rd, .i64)], [.i64], .uniq, laws_szTxS⟩
theorem s53 : Sd 53 pf53 := sf (F := F53) (envOK trivial trivial trivial trivial) Tryz.func53 fun a => by kernel_rfl
def F34 : FEnv := ⟨⟨TYS, [(86, pf86)], EQS, [], [], false, []⟩, []⟩
def pf34 : PF := ⟨[(.rd, q3), (.rd, .i64)], [.i64], .uniq, laws_szPart⟩
theorem s34 : Sd 34 pf34 := sf (F := F34) (envOK ⟨s86, trivial⟩ trivial trivial trivial) Tryz.func34 fun a => by kernel_rfl
def F54 : FEnv := ⟨⟨TYS, [(34, pf34)], EQS, [], [], false, []⟩, [(5, [.slot 1 .i64 (.imm false), .slot 5 .i64 (.imm false)])]⟩
def pf54 : PF := ⟨[(.rd, (.sl 81 q3)), (.rd, .i64)], [.i64], .uniq, laws_szPartS⟩
theorem s54 : Sd 54 pf54 := sf (F := F54) (envOK ⟨s34, trivial⟩ trivial trivial trivial) Tryz.func54 fun a => by kernel_rfl
def F155 : FEnv := ⟨⟨TYS, [], EQS, [], [], false, []⟩, []⟩
def pf155 : PF := ⟨[(.rd, (.sl 5 .u8)), (.rd, .i64)], [.i64], .uniq, laws_szByteS⟩
theorem s155 : Sd 155 pf155 := sf (F := F155) (envOK trivial trivial trivial trivial) Tryz.func155 fun a => by kernel_rfl
def F55 : FEnv := ⟨⟨TYS, [(155, pf155)], EQS, [], [], false, []⟩, []⟩
def pf55 : PF := ⟨[(.rd, q6), (.rd, .i64)], [.i64], .uniq, laws_szDisk⟩
theorem s55 : Sd 55 pf55 := sf (F := F55) (envOK ⟨s155, trivial⟩ trivial trivial trivial) Tryz.func55 fun a => by kernel_rfl
def F40 : FEnv := ⟨⟨TYS, [(17, pf17)], EQS, [], [], false, []⟩, []⟩
def pf40 : PF := ⟨[(.rd, (.pair .str q3)), (.rd, .i64)], [.i64], .uniq, laws_szBlock⟩
theorem s40 : Sd 40 pf40 := sf (F := F40) (envOK ⟨s17, trivial⟩ trivial trivial trivial) Tryz.func40 fun a => by kernel_rfl
def F46 : FEnv := ⟨⟨TYS, [(40, pf40), (34, pf34), (17, pf17)], EQS, [], [], false, []⟩, []⟩
def pf46 : PF := ⟨[(.rd, q1), (.rd, .i64)], [.i64], .uniq, laws_szMsg⟩
theorem s46 : Sd 46 pf46 := sf (F := F46) (envOK ⟨s40, s34, s17, trivial⟩ trivial trivial trivial) Tryz.func46 fun a => by kernel_rfl
def F109 : FEnv := ⟨⟨TYS, [(46, pf46)], EQS, [], [], false, []⟩, []⟩
def pf109 : PF := ⟨[(.rd, (.pair .i64 q1)), (.rd, .i64)], [.i64], .uniq, laws_szPost⟩
theorem s109 : Sd 109 pf109 := sf (F := F109) (envOK ⟨s46, trivial⟩ trivial trivial trivial) Tryz.func109 fun a => by kernel_rfl
def F24 : FEnv := ⟨⟨TYS, [(109, pf109)], EQS, [], [], false, []⟩, [(5, [.slot 1 .i64 (.imm false), .slot 5 .i64 (.imm false)])]⟩
def pf24 : PF := ⟨[(.rd, (.sl 156 (.pair .i64 q1))), (.rd, .i64)], [.i64], .uniq, laws_szPostS⟩
theorem s24 : Sd 24 pf24 := sf (F := F24) (envOK ⟨s109, trivial⟩ trivial trivial trivial) Tryz.func24 fun a => by kernel_rfl
def F9 : FEnv := ⟨⟨TYS, [(52, pf52), (53, pf53), (54, pf54), (55, pf55), (24, pf24)], EQS, [], [], false, []⟩, []⟩
def pf9 : PF := ⟨[(.rd, q8), (.rd, .i64)], [.i64], .uniq, laws_szRep⟩
theorem s9 : Sd 9 pf9 := sf (F := F9) (envOK ⟨s52, s53, s54, s55, s24, trivial⟩ trivial trivial trivial) Tryz.func9 fun a => by kernel_rfl
def F11 : FEnv := ⟨⟨TYS, [], EQS, [], [], false, []⟩, []⟩
def pf11 : PF := ⟨[(.rd, (.pair .i64 .i64))], [(.pair .i64 .i64)], .uniq, laws_toConf⟩
theorem s11 : Sd 11 pf11 := sf (F := F11) (envOK trivial trivial trivial trivial) Tryz.func11 fun a => by kernel_rfl
def F97 : FEnv := ⟨⟨TYS, [], EQS, [], [], false, []⟩, [(3, [.slot 4 .i64 (.imm false), .row 1 3 .i64 (.own true)])]⟩
def pf97 : PF := ⟨[(.rd, (.sl 3 .i64))], [(.sl 3 .i64)], .uniq, laws_toIntS⟩
theorem s97 : Sd 97 pf97 := sf (F := F97) (envOK trivial trivial trivial trivial) Tryz.func97 fun a => by kernel_rfl
def F19 : FEnv := ⟨⟨TYS, [(97, pf97)], EQS, [], [], false, []⟩, []⟩
def pf19 : PF := ⟨[(.rd, q3)], [q3], .uniq, laws_toQc⟩
theorem s19 : Sd 19 pf19 := sf (F := F19) (envOK ⟨s97, trivial⟩ trivial trivial trivial) Tryz.func19 fun a => by kernel_rfl
def F59 : FEnv := ⟨⟨TYS, [(19, pf19)], EQS, [], [], false, []⟩, []⟩
def pf59 : PF := ⟨[(.rd, q5)], [q5], .uniq, laws_toSafe⟩
theorem s59 : Sd 59 pf59 := sf (F := F59) (envOK ⟨s19, trivial⟩ trivial trivial trivial) Tryz.func59 fun a => by kernel_rfl
def F148 : FEnv := ⟨⟨TYS, [], EQS, [], [], false, []⟩, []⟩
def pf148 : PF := ⟨[(.rd, q4)], [q4], .uniq, laws_toTx⟩
theorem s148 : Sd 148 pf148 := sf (F := F148) (envOK trivial trivial trivial trivial) Tryz.func148 fun a => by kernel_rfl
def F60 : FEnv := ⟨⟨TYS, [(148, pf148)], EQS, [], [], false, []⟩, [(3, [.slot 4 .i64 (.imm false), .row 1 105 q4 (.own true)])]⟩
def pf60 : PF := ⟨[(.rd, (.sl 100 q4))], [(.sl 105 q4)], .uniq, laws_toTxS⟩
theorem s60 : Sd 60 pf60 := sf (F := F60) (envOK ⟨s148, trivial⟩ trivial trivial trivial) Tryz.func60 fun a => by kernel_rfl
def F36 : FEnv := ⟨⟨TYS, [(97, pf97)], EQS, [], [], false, []⟩, []⟩
def pf36 : PF := ⟨[(.rd, q3)], [q3], .uniq, laws_toPart⟩
theorem s36 : Sd 36 pf36 := sf (F := F36) (envOK ⟨s97, trivial⟩ trivial trivial trivial) Tryz.func36 fun a => by kernel_rfl
def F61 : FEnv := ⟨⟨TYS, [(36, pf36)], EQS, [], [], false, []⟩, [(3, [.slot 4 .i64 (.imm false), .row 1 84 q3 (.own true)])]⟩
def pf61 : PF := ⟨[(.rd, (.sl 81 q3))], [(.sl 84 q3)], .uniq, laws_toPartS⟩
theorem s61 : Sd 61 pf61 := sf (F := F61) (envOK ⟨s36, trivial⟩ trivial trivial trivial) Tryz.func61 fun a => by kernel_rfl
def F170 : FEnv := ⟨⟨TYS, [], EQS, [], [], false, []⟩, [(3, [.slot 4 .i64 (.imm false), .row 1 5 .u8 (.own true)])]⟩
def pf170 : PF := ⟨[(.rd, (.sl 5 .u8))], [(.sl 5 .u8)], .uniq, laws_toByteS⟩
theorem s170 : Sd 170 pf170 := sf (F := F170) (envOK trivial trivial trivial trivial) Tryz.func170 fun a => by kernel_rfl
def F62 : FEnv := ⟨⟨TYS, [(170, pf170)], EQS, [], [], false, []⟩, []⟩
def pf62 : PF := ⟨[(.rd, q6)], [q6], .uniq, laws_toDisk⟩
theorem s62 : Sd 62 pf62 := sf (F := F62) (envOK ⟨s170, trivial⟩ trivial trivial trivial) Tryz.func62 fun a => by kernel_rfl
def F42 : FEnv := ⟨⟨TYS, [(19, pf19)], EQS, [], [], false, []⟩, []⟩
def pf42 : PF := ⟨[(.rd, (.pair .str q3))], [(.pair .str q3)], .uniq, laws_toBlock⟩
theorem s42 : Sd 42 pf42 := sf (F := F42) (envOK ⟨s19, trivial⟩ trivial trivial trivial) Tryz.func42 fun a => by kernel_rfl
def F48 : FEnv := ⟨⟨TYS, [(42, pf42), (36, pf36), (19, pf19), (148, pf148)], EQS, [], [], false, []⟩, []⟩
def pf48 : PF := ⟨[(.rd, q1)], [q1], .uniq, laws_toMsg⟩
theorem s48 : Sd 48 pf48 := sf (F := F48) (envOK ⟨s42, s36, s19, s148, trivial⟩ trivial trivial trivial) Tryz.func48 fun a => by kernel_rfl
def F116 : FEnv := ⟨⟨TYS, [(48, pf48)], EQS, [], [], false, []⟩, []⟩
def pf116 : PF := ⟨[(.rd, (.pair .i64 q1))], [(.pair .i64 q1)], .uniq, laws_toPost⟩
theorem s116 : Sd 116 pf116 := sf (F := F116) (envOK ⟨s48, trivial⟩ trivial trivial trivial) Tryz.func116 fun a => by kernel_rfl
def F27 : FEnv := ⟨⟨TYS, [(116, pf116)], EQS, [], [], false, []⟩, [(3, [.slot 4 .i64 (.imm false), .row 1 163 (.pair .i64 q1) (.own true)])]⟩
def pf27 : PF := ⟨[(.rd, (.sl 156 (.pair .i64 q1)))], [q7], .uniq, laws_toPostS⟩
theorem s27 : Sd 27 pf27 := sf (F := F27) (envOK ⟨s116, trivial⟩ trivial trivial trivial) Tryz.func27 fun a => by kernel_rfl
def F12 : FEnv := ⟨⟨TYS, [(59, pf59), (60, pf60), (61, pf61), (62, pf62), (27, pf27)], EQS, [], [], false, []⟩, []⟩
def pf12 : PF := ⟨[(.rd, q8)], [q2], .uniq, laws_toRep⟩
theorem s12 : Sd 12 pf12 := sf (F := F12) (envOK ⟨s59, s60, s61, s62, s27, trivial⟩ trivial trivial trivial) Tryz.func12 fun a => by kernel_rfl
def F87 : FEnv := ⟨⟨TYS, [], EQS, [], [], false, []⟩, []⟩
def pf87 : PF := ⟨[(.rd, .i64), (.rd, .i64), (.rd, .i64)], [.bool], .uniq, spec_l1In⟩
theorem s87 : Sd 87 pf87 := sf (F := F87) (envOK trivial trivial trivial trivial) Tryz.func87 fun a => by kernel_rfl
def F156 : FEnv := ⟨⟨TYS, [(87, pf87)], EQS, [], [], false, []⟩, []⟩
def pf156 : PF := ⟨[(.rd, (.pair .i64 .i64))], [.bool], .uniq, spec_ConfOk⟩
theorem s156 : Sd 156 pf156 := sf (F := F156) (envOK ⟨s87, trivial⟩ trivial trivial trivial) Tryz.func156 fun a => by kernel_rfl
def F290 : FEnv := ⟨⟨TYS, [], EQS, [], [], false, []⟩, [(4, [.slot 5 (.sl 9 .str) (.own true), .slot 6 .i64 (.imm false), .slot 7 .i64 (.imm false)])]⟩
def pf290 : PF := ⟨[(.rd, .str), (.rd, .u8)], [(.sl 9 .str)], .uniq, spec_Split⟩
theorem s290 : Sd 290 pf290 := sf (F := F290) (envOK trivial trivial trivial trivial) Tryz.func290 fun a => by kernel_rfl
def F291 : FEnv := ⟨⟨TYS, [], EQS, [], [], false, []⟩, [(2, [.slot 7 .i64 (.imm false)])]⟩
def pf291 : PF := ⟨[(.rd, .str), (.rd, .u8)], [.str, .str, .bool], .uniq, spec_l2Cut⟩
theorem s291 : Sd 291 pf291 := sf (F := F291) (envOK trivial trivial trivial trivial) Tryz.func291 fun a => by kernel_rfl
def F323 : FEnv := ⟨⟨TYS, [], EQS, [], [], false, []⟩, [(5, [.slot 0 .i64 (.imm false), .slot 4 .str (.imm false)])]⟩
def pf323 : PF := ⟨[(.rd, .i64)], [.str], .uniq, spec_Digits⟩
theorem s323 : Sd 323 pf323 := sf (F := F323) (envOK trivial trivial trivial trivial) Tryz.func323 fun a => by kernel_rfl
def F292 : FEnv := ⟨⟨TYS, [(323, pf323)], EQS, [], [], false, []⟩, [(5, [.slot 4 .i64 (.imm false), .slot 5 .i64 (.imm false)])]⟩
def pf292 : PF := ⟨[(.rd, .str)], [.i64, .bool], .uniq, spec_Number⟩
theorem s292 : Sd 292 pf292 := sf (F := F292) (envOK ⟨s323, trivial⟩ trivial trivial trivial) Tryz.func292 fun a => by kernel_rfl
def F240 : FEnv := ⟨⟨TYS, [(87, pf87)], EQS, [], [], false, []⟩, []⟩
def pf240 : PF := ⟨[(.rd, q4)], [.bool], .uniq, spec_TxOk⟩
theorem s240 : Sd 240 pf240 := sf (F := F240) (envOK ⟨s87, trivial⟩ trivial trivial trivial) Tryz.func240 fun a => by kernel_rfl
def F338 : FEnv := ⟨⟨TYS, [(240, pf240), (323, pf323)], EQS, [], [], false, []⟩, []⟩
def pf338 : PF := ⟨[(.rd, q4)], [.str], .uniq, spec_TxText⟩
theorem s338 : Sd 338 pf338 := sf (F := F338) (envOK ⟨s240, s323, trivial⟩ trivial trivial trivial) Tryz.func338 fun a => by kernel_rfl
def F324 : FEnv := ⟨⟨TYS, [(291, pf291), (292, pf292), (338, pf338)], EQS, [], [], false, []⟩, []⟩
def pf324 : PF := ⟨[(.rd, .str)], [q4, .bool], .uniq, spec_TxOf⟩
theorem s324 : Sd 324 pf324 := sf (F := F324) (envOK ⟨s291, s292, s338, trivial⟩ trivial trivial trivial) Tryz.func324 fun a => by kernel_rfl
def F293 : FEnv := ⟨⟨TYS, [(290, pf290), (324, pf324)], EQS, [], [], false, []⟩, [(6, [.slot 4 (.sl 105 q4) (.own true), .slot 6 .i64 (.imm false)])]⟩
def pf293 : PF := ⟨[(.rd, .str)], [(.sl 105 q4), .bool], .uniq, spec_TxsOf⟩
theorem s293 : Sd 293 pf293 := sf (F := F293) (envOK ⟨s290, s324, trivial⟩ trivial trivial trivial) Tryz.func293 fun a => by kernel_rfl
def F236 : FEnv := ⟨⟨TYS, [(290, pf290), (291, pf291), (292, pf292), (293, pf293)], EQS, [], [], false, []⟩, [(10, [.slot 5 q9 (.own true), .slot 7 .i64 (.imm false), .slot 8 .i64 (.imm false)])]⟩
def pf236 : PF := ⟨[(.rd, .str)], [q9, .bool], .uniq, spec_Steps⟩
theorem s236 : Sd 236 pf236 := sf (F := F236) (envOK ⟨s290, s291, s292, s293, trivial⟩ trivial trivial trivial) Tryz.func236 fun a => by kernel_rfl
def F192 : FEnv := ⟨⟨TYS, [(236, pf236)], EQS, [], [], false, []⟩, []⟩
def pf192 : PF := ⟨[(.rd, .str)], [.bool], .uniq, spec_NameOk⟩
theorem s192 : Sd 192 pf192 := sf (F := F192) (envOK ⟨s236, trivial⟩ trivial trivial trivial) Tryz.func192 fun a => by kernel_rfl
def F136 : FEnv := ⟨⟨TYS, [(236, pf236)], EQS, [], [], false, []⟩, []⟩
def pf136 : PF := ⟨[(.rd, .str)], [.i64], .uniq, spec_ViewOf⟩
theorem s136 : Sd 136 pf136 := sf (F := F136) (envOK ⟨s236, trivial⟩ trivial trivial trivial) Tryz.func136 fun a => by kernel_rfl
def F193 : FEnv := ⟨⟨TYS, [], EQS, [], [], false, []⟩, [(2, [.slot 5 .i64 (.imm false)])]⟩
def pf193 : PF := ⟨[(.rd, .i64), (.rd, (.sl 3 .i64))], [.bool], .uniq, spec_SetOk⟩
theorem s193 : Sd 193 pf193 := sf (F := F193) (envOK trivial trivial trivial trivial) Tryz.func193 fun a => by kernel_rfl
def F94 : FEnv := ⟨⟨TYS, [(156, pf156)], EQS, [], [], false, []⟩, []⟩
def pf94 : PF := ⟨[(.rd, (.pair .i64 .i64))], [.i64], .uniq, spec_Quorum⟩
theorem s94 : Sd 94 pf94 := sf (F := F94) (envOK ⟨s156, trivial⟩ trivial trivial trivial) Tryz.func94 fun a => by kernel_rfl
def F88 : FEnv := ⟨⟨TYS, [(156, pf156), (192, pf192), (136, pf136), (193, pf193), (94, pf94)], EQS, [], [], false, []⟩, []⟩
def pf88 : PF := ⟨[(.rd, (.pair .i64 .i64)), (.rd, q3)], [.bool], .uniq, spec_QcOk⟩
theorem s88 : Sd 88 pf88 := sf (F := F88) (envOK ⟨s156, s192, s136, s193, s94, trivial⟩ trivial trivial trivial) Tryz.func88 fun a => by kernel_rfl
def F157 : FEnv := ⟨⟨TYS, [(87, pf87), (88, pf88), (192, pf192)], EQS, [], [], false, []⟩, []⟩
def pf157 : PF := ⟨[(.rd, (.pair .i64 .i64)), (.rd, q5)], [.bool], .uniq, spec_SafeOk⟩
theorem s157 : Sd 157 pf157 := sf (F := F157) (envOK ⟨s87, s88, s192, trivial⟩ trivial trivial trivial) Tryz.func157 fun a => by kernel_rfl
def F254 : FEnv := ⟨⟨TYS, [], EQS, [], [], false, []⟩, []⟩
def pf254 : PF := ⟨[(.rd, q4), (.rd, q4)], [.bool], .uniq, spec_l4Before⟩
theorem s254 : Sd 254 pf254 := sf (F := F254) (envOK trivial trivial trivial trivial) Tryz.func254 fun a => by kernel_rfl
def F158 : FEnv := ⟨⟨TYS, [(240, pf240), (254, pf254)], EQS, [], [], false, []⟩, [(2, [.slot 3 .i64 (.imm false)])]⟩
def pf158 : PF := ⟨[(.rd, (.sl 105 q4))], [.bool], .uniq, spec_PoolOk⟩
theorem s158 : Sd 158 pf158 := sf (F := F158) (envOK ⟨s240, s254, trivial⟩ trivial trivial trivial) Tryz.func158 fun a => by kernel_rfl
def F133 : FEnv := ⟨⟨TYS, [(156, pf156), (87, pf87), (193, pf193), (192, pf192), (136, pf136)], EQS, [], [], false, []⟩, []⟩
def pf133 : PF := ⟨[(.rd, (.pair .i64 .i64)), (.rd, q3)], [.bool], .uniq, spec_PartOk⟩
theorem s133 : Sd 133 pf133 := sf (F := F133) (envOK ⟨s156, s87, s193, s192, s136, trivial⟩ trivial trivial trivial) Tryz.func133 fun a => by kernel_rfl
def F202 : FEnv := ⟨⟨TYS, [], EQS, [], [], false, []⟩, []⟩
def pf202 : PF := ⟨[(.rd, q3), (.rd, q3)], [.bool], .uniq, spec_l10Before⟩
theorem s202 : Sd 202 pf202 := sf (F := F202) (envOK trivial trivial trivial trivial) Tryz.func202 fun a => by kernel_rfl
def F159 : FEnv := ⟨⟨TYS, [(133, pf133), (202, pf202)], EQS, [], [], false, []⟩, [(2, [.slot 5 .i64 (.imm false)])]⟩
def pf159 : PF := ⟨[(.rd, (.pair .i64 .i64)), (.rd, (.sl 84 q3))], [.bool], .uniq, spec_TableOk⟩
theorem s159 : Sd 159 pf159 := sf (F := F159) (envOK ⟨s133, s202, trivial⟩ trivial trivial trivial) Tryz.func159 fun a => by kernel_rfl
def F160 : FEnv := ⟨⟨TYS, [(87, pf87)], EQS, [], [], false, []⟩, []⟩
def pf160 : PF := ⟨[(.rd, q6)], [.bool], .uniq, spec_DiskOk⟩
theorem s160 : Sd 160 pf160 := sf (F := F160) (envOK ⟨s87, trivial⟩ trivial trivial trivial) Tryz.func160 fun a => by kernel_rfl
def F311 : FEnv := ⟨⟨TYS, [], EQS, [], [], false, []⟩, [(2, [.slot 5 .i64 (.imm false)])]⟩
def pf311 : PF := ⟨[(.rd, (.sl 3 .i64)), (.rd, (.sl 3 .i64))], [.bool], .uniq, spec_l7Ints⟩
theorem s311 : Sd 311 pf311 := sf (F := F311) (envOK trivial trivial trivial trivial) Tryz.func311 fun a => by kernel_rfl
def F266 : FEnv := ⟨⟨TYS, [(311, pf311)], EQS, [], [], false, []⟩, []⟩
def pf266 : PF := ⟨[(.rd, q3), (.rd, q3)], [.bool], .uniq, spec_QcSame⟩
theorem s266 : Sd 266 pf266 := sf (F := F266) (envOK ⟨s311, trivial⟩ trivial trivial trivial) Tryz.func266 fun a => by kernel_rfl
def F329 : FEnv := ⟨⟨TYS, [(266, pf266)], EQS, [], [], false, []⟩, []⟩
def pf329 : PF := ⟨[(.rd, (.pair .str q3)), (.rd, (.pair .str q3))], [.bool], .uniq, spec_BlockSame⟩
theorem s329 : Sd 329 pf329 := sf (F := F329) (envOK ⟨s266, trivial⟩ trivial trivial trivial) Tryz.func329 fun a => by kernel_rfl
def F330 : FEnv := ⟨⟨TYS, [(311, pf311)], EQS, [], [], false, []⟩, []⟩
def pf330 : PF := ⟨[(.rd, q3), (.rd, q3)], [.bool], .uniq, spec_l14Part⟩
theorem s330 : Sd 330 pf330 := sf (F := F330) (envOK ⟨s311, trivial⟩ trivial trivial trivial) Tryz.func330 fun a => by kernel_rfl
def F298 : FEnv := ⟨⟨TYS, [(329, pf329), (330, pf330), (266, pf266)], EQS, [], [], false, []⟩, []⟩
def pf298 : PF := ⟨[(.rd, q1), (.rd, q1)], [.bool], .uniq, spec_MsgSame⟩
theorem s298 : Sd 298 pf298 := sf (F := F298) (envOK ⟨s329, s330, s266, trivial⟩ trivial trivial trivial) Tryz.func298 fun a => by kernel_rfl
def F239 : FEnv := ⟨⟨TYS, [(298, pf298)], EQS, [], [], false, []⟩, []⟩
def pf239 : PF := ⟨[(.rd, q1)], [.bool], .uniq, spec_l14Zero⟩
theorem s239 : Sd 239 pf239 := sf (F := F239) (envOK ⟨s298, trivial⟩ trivial trivial trivial) Tryz.func239 fun a => by kernel_rfl
def F95 : FEnv := ⟨⟨TYS, [], EQS, [], [], false, []⟩, []⟩
def pf95 : PF := ⟨[(.rd, .i64), (.rd, .i64)], [.i64], .uniq, spec_l1Max⟩
theorem s95 : Sd 95 pf95 := sf (F := F95) (envOK trivial trivial trivial trivial) Tryz.func95 fun a => by kernel_rfl
def F198 : FEnv := ⟨⟨TYS, [(192, pf192), (95, pf95)], EQS, [], [], false, []⟩, [(4, [.slot 3 .i64 (.imm false)])]⟩
def pf198 : PF := ⟨[(.rd, .str)], [.str], .uniq, spec_UpOf⟩
theorem s198 : Sd 198 pf198 := sf (F := F198) (envOK ⟨s192, s95, trivial⟩ trivial trivial trivial) Tryz.func198 fun a => by kernel_rfl
def F135 : FEnv := ⟨⟨TYS, [(88, pf88), (192, pf192), (198, pf198)], EQS, [], [], false, []⟩, []⟩
def pf135 : PF := ⟨[(.rd, (.pair .i64 .i64)), (.rd, (.pair .str q3))], [.bool], .uniq, spec_BlockOk⟩
theorem s135 : Sd 135 pf135 := sf (F := F135) (envOK ⟨s88, s192, s198, trivial⟩ trivial trivial trivial) Tryz.func135 fun a => by kernel_rfl
def F143 : FEnv := ⟨⟨TYS, [(156, pf156), (239, pf239), (135, pf135), (133, pf133), (87, pf87), (88, pf88), (240, pf240)], EQS, [], [], false, []⟩, []⟩
def pf143 : PF := ⟨[(.rd, (.pair .i64 .i64)), (.rd, q1)], [.bool], .uniq, spec_MsgOk⟩
theorem s143 : Sd 143 pf143 := sf (F := F143) (envOK ⟨s156, s239, s135, s133, s87, s88, s240, trivial⟩ trivial trivial trivial) Tryz.func143 fun a => by kernel_rfl
def F56 : FEnv := ⟨⟨TYS, [(156, pf156), (87, pf87), (157, pf157), (158, pf158), (159, pf159), (160, pf160), (143, pf143)], EQS, [], [], false, []⟩, [(4, [.slot 5 .i64 (.imm false)])]⟩
def pf56 : PF := ⟨[(.rd, (.pair .i64 .i64)), (.rd, q2)], [.bool], .uniq, spec_RepOk⟩
theorem s56 : Sd 56 pf56 := sf (F := F56) (envOK ⟨s156, s87, s157, s158, s159, s160, s143, trivial⟩ trivial trivial trivial) Tryz.func56 fun a => by kernel_rfl
def F255 : FEnv := ⟨⟨TYS, [], EQS, [], [], false, []⟩, []⟩
def pf255 : PF := ⟨[(.rd, q3)], [q3], .uniq, spec_l7Copy⟩
theorem s255 : Sd 255 pf255 := sf (F := F255) (envOK trivial trivial trivial trivial) Tryz.func255 fun a => by kernel_rfl
def F161 : FEnv := ⟨⟨TYS, [(255, pf255)], EQS, [], [], false, []⟩, []⟩
def pf161 : PF := ⟨[(.rd, q5)], [q5], .uniq, spec_l11Copy⟩
theorem s161 : Sd 161 pf161 := sf (F := F161) (envOK ⟨s255, trivial⟩ trivial trivial trivial) Tryz.func161 fun a => by kernel_rfl
def F201 : FEnv := ⟨⟨TYS, [], EQS, [], [], false, []⟩, []⟩
def pf201 : PF := ⟨[(.rd, q3)], [q3], .uniq, spec_l10Copy⟩
theorem s201 : Sd 201 pf201 := sf (F := F201) (envOK trivial trivial trivial trivial) Tryz.func201 fun a => by kernel_rfl
def F162 : FEnv := ⟨⟨TYS, [(201, pf201)], EQS, [], [], false, []⟩, [(3, [.slot 3 (.sl 84 q3) (.own true), .slot 4 .i64 (.imm false)])]⟩
def pf162 : PF := ⟨[(.rd, (.sl 84 q3))], [(.sl 84 q3)], .uniq, spec_l10Table⟩
theorem s162 : Sd 162 pf162 := sf (F := F162) (envOK ⟨s201, trivial⟩ trivial trivial trivial) Tryz.func162 fun a => by kernel_rfl
def F163 : FEnv := ⟨⟨TYS, [], EQS, [], [], false, []⟩, []⟩
def pf163 : PF := ⟨[(.rd, q6)], [q6], .uniq, spec_l13Copy⟩
theorem s163 : Sd 163 pf163 := sf (F := F163) (envOK trivial trivial trivial trivial) Tryz.func163 fun a => by kernel_rfl
def F309 : FEnv := ⟨⟨TYS, [(255, pf255)], EQS, [], [], false, []⟩, []⟩
def pf309 : PF := ⟨[(.rd, (.pair .str q3))], [(.pair .str q3)], .uniq, spec_l8Copy⟩
theorem s309 : Sd 309 pf309 := sf (F := F309) (envOK ⟨s255, trivial⟩ trivial trivial trivial) Tryz.func309 fun a => by kernel_rfl
def F256 : FEnv := ⟨⟨TYS, [(309, pf309), (201, pf201), (255, pf255)], EQS, [], [], false, []⟩, []⟩
def pf256 : PF := ⟨[(.rd, q1)], [q1], .uniq, spec_l14Copy⟩
theorem s256 : Sd 256 pf256 := sf (F := F256) (envOK ⟨s309, s201, s255, trivial⟩ trivial trivial trivial) Tryz.func256 fun a => by kernel_rfl
def F164 : FEnv := ⟨⟨TYS, [(256, pf256)], EQS, [], [], false, []⟩, [(3, [.slot 3 q7 (.own true), .slot 4 .i64 (.imm false)])]⟩
def pf164 : PF := ⟨[(.rd, q7)], [q7], .uniq, spec_l15Posts⟩
theorem s164 : Sd 164 pf164 := sf (F := F164) (envOK ⟨s256, trivial⟩ trivial trivial trivial) Tryz.func164 fun a => by kernel_rfl
def F57 : FEnv := ⟨⟨TYS, [(161, pf161), (162, pf162), (163, pf163), (164, pf164)], EQS, [], [], false, []⟩, []⟩
def pf57 : PF := ⟨[(.rd, q2)], [q2], .uniq, spec_l15Copy⟩
theorem s57 : Sd 57 pf57 := sf (F := F57) (envOK ⟨s161, s162, s163, s164, trivial⟩ trivial trivial trivial) Tryz.func57 fun a => by kernel_rfl
def F93 : FEnv := ⟨⟨TYS, [(201, pf201)], EQS, [], [], false, []⟩, [(2, [.slot 7 .i64 (.imm false), .box 1 q3 (.own true)])]⟩
def pf93 : PF := ⟨[(.rd, (.sl 84 q3)), (.rd, .i64), (.rd, .str)], [q3], .uniq, spec_TableGet⟩
theorem s93 : Sd 93 pf93 := sf (F := F93) (envOK ⟨s201, trivial⟩ trivial trivial trivial) Tryz.func93 fun a => by kernel_rfl
def F91 : FEnv := ⟨⟨TYS, [(156, pf156)], EQS, [], [], false, []⟩, []⟩
def pf91 : PF := ⟨[(.rd, (.pair .i64 .i64)), (.rd, .i64)], [.i64], .uniq, spec_Root⟩
theorem s91 : Sd 91 pf91 := sf (F := F91) (envOK ⟨s156, trivial⟩ trivial trivial trivial) Tryz.func91 fun a => by kernel_rfl
def F257 : FEnv := ⟨⟨TYS, [(88, pf88)], EQS, [], [], false, []⟩, []⟩
def pf257 : PF := ⟨[(.rd, (.pair .i64 .i64)), (.rd, q3)], [q3, .bool], .uniq, spec_PartQc⟩
theorem s257 : Sd 257 pf257 := sf (F := F257) (envOK ⟨s88, trivial⟩ trivial trivial trivial) Tryz.func257 fun a => by kernel_rfl
def F197 : FEnv := ⟨⟨TYS, [(255, pf255)], EQS, [], [], false, []⟩, []⟩
def pf197 : PF := ⟨[(.rd, q3), (.rd, q3)], [q3], .uniq, spec_QcLater⟩
theorem s197 : Sd 197 pf197 := sf (F := F197) (envOK ⟨s255, trivial⟩ trivial trivial trivial) Tryz.func197 fun a => by kernel_rfl
def F199 : FEnv := ⟨⟨TYS, [(236, pf236), (198, pf198)], EQS, [], [], false, []⟩, []⟩
def pf199 : PF := ⟨[(.rd, .str)], [.str, .bool], .uniq, spec_Settles⟩
theorem s199 : Sd 199 pf199 := sf (F := F199) (envOK ⟨s236, s198, trivial⟩ trivial trivial trivial) Tryz.func199 fun a => by kernel_rfl
def F200 : FEnv := ⟨⟨TYS, [(192, pf192)], EQS, [], [], false, []⟩, []⟩
def pf200 : PF := ⟨[(.rd, .str), (.rd, .str)], [.bool], .uniq, spec_Extends⟩
theorem s200 : Sd 200 pf200 := sf (F := F200) (envOK ⟨s192, trivial⟩ trivial trivial trivial) Tryz.func200 fun a => by kernel_rfl
def F90 : FEnv := ⟨⟨TYS, [(161, pf161), (157, pf157), (88, pf88), (197, pf197), (198, pf198), (136, pf136), (95, pf95), (199, pf199), (200, pf200)], EQS, [], [], false, []⟩, []⟩
def pf90 : PF := ⟨[(.rd, (.pair .i64 .i64)), (.rd, q5), (.rd, q3)], [q5], .uniq, spec_See⟩
theorem s90 : Sd 90 pf90 := sf (F := F90) (envOK ⟨s161, s157, s88, s197, s198, s136, s95, s199, s200, trivial⟩ trivial trivial trivial) Tryz.func90 fun a => by kernel_rfl
def F194 : FEnv := ⟨⟨TYS, [(266, pf266)], EQS, [], [], false, []⟩, []⟩
def pf194 : PF := ⟨[(.rd, q5), (.rd, q5)], [.bool], .uniq, spec_SafeSame⟩
theorem s194 : Sd 194 pf194 := sf (F := F194) (envOK ⟨s266, trivial⟩ trivial trivial trivial) Tryz.func194 fun a => by kernel_rfl
def F268 : FEnv := ⟨⟨TYS, [(87, pf87)], EQS, [], [], false, []⟩, [(4, [.slot 0 .i64 (.imm false), .slot 3 (.sl 5 .u8) (.own true)])]⟩
def pf268 : PF := ⟨[(.rd, .i64)], [(.sl 5 .u8)], .uniq, spec_PutNum⟩
theorem s268 : Sd 268 pf268 := sf (F := F268) (envOK ⟨s87, trivial⟩ trivial trivial trivial) Tryz.func268 fun a => by kernel_rfl
def F283 : FEnv := ⟨⟨TYS, [(268, pf268)], EQS, [], [], false, []⟩, []⟩
def pf283 : PF := ⟨[(.rd, .str)], [(.sl 5 .u8)], .uniq, spec_PutText⟩
theorem s283 : Sd 283 pf283 := sf (F := F283) (envOK ⟨s268, trivial⟩ trivial trivial trivial) Tryz.func283 fun a => by kernel_rfl
def F284 : FEnv := ⟨⟨TYS, [(88, pf88), (268, pf268), (283, pf283)], EQS, [], [], false, []⟩, [(6, [.slot 5 (.sl 5 .u8) (.own true), .slot 6 .i64 (.imm false)])]⟩
def pf284 : PF := ⟨[(.rd, (.pair .i64 .i64)), (.rd, q3)], [(.sl 5 .u8)], .uniq, spec_QcBytes⟩
theorem s284 : Sd 284 pf284 := sf (F := F284) (envOK ⟨s88, s268, s283, trivial⟩ trivial trivial trivial) Tryz.func284 fun a => by kernel_rfl
def F267 : FEnv := ⟨⟨TYS, [(157, pf157), (268, pf268), (284, pf284), (283, pf283)], EQS, [], [], false, []⟩, []⟩
def pf267 : PF := ⟨[(.rd, (.pair .i64 .i64)), (.rd, q5)], [(.sl 5 .u8)], .uniq, spec_SafeBytes⟩
theorem s267 : Sd 267 pf267 := sf (F := F267) (envOK ⟨s157, s268, s284, s283, trivial⟩ trivial trivial trivial) Tryz.func267 fun a => by kernel_rfl
def F196 : FEnv := ⟨⟨TYS, [(267, pf267), (268, pf268)], EQS, [], [], false, []⟩, []⟩
def pf196 : PF := ⟨[(.rd, (.pair .i64 .i64)), (.rd, q5)], [(.sl 5 .u8)], .uniq, spec_NoteBytes⟩
theorem s196 : Sd 196 pf196 := sf (F := F196) (envOK ⟨s267, s268, trivial⟩ trivial trivial trivial) Tryz.func196 fun a => by kernel_rfl
def F195 : FEnv := ⟨⟨TYS, [(163, pf163), (160, pf160)], EQS, [], [], false, []⟩, []⟩
def pf195 : PF := ⟨[(.rd, q6), (.rd, (.sl 5 .u8))], [q6, .bool], .uniq, spec_Append⟩
theorem s195 : Sd 195 pf195 := sf (F := F195) (envOK ⟨s163, s160, trivial⟩ trivial trivial trivial) Tryz.func195 fun a => by kernel_rfl
def F89 : FEnv := ⟨⟨TYS, [(194, pf194), (196, pf196), (195, pf195), (157, pf157), (161, pf161)], EQS, [], [], false, []⟩, []⟩
def pf89 : PF := ⟨[(.rd, (.pair .i64 .i64)), (.own, q2), (.rd, q5)], [q2, .bool], .own, spec_l15Write⟩
theorem e89 (a : argT pf89.params) : evFunC F89 Tryz.f89 pf89.params pf89.rets pf89.rk a = pf89.fn a := by kernel_rfl
theorem s89 : SoundC Tryz.prog GLB 89 pf89 := sound_funC (F := F89) (envOK ⟨s194, s196, s195, s157, s161, trivial⟩ trivial trivial trivial) Tryz.func89 (by kernel_rfl) (by rfl) (fun a o h => (e89 a).trans h)
def F168 : FEnv := ⟨⟨TYS, [(143, pf143), (87, pf87), (256, pf256)], EQS, [], [], false, []⟩, []⟩
def pf168 : PF := ⟨[(.rd, (.pair .i64 .i64)), (.own, q2), (.rd, .i64), (.rd, q1)], [q2, .bool], .own, spec_l16Tell⟩
theorem s168 : Sd 168 pf168 := sf (F := F168) (envOK ⟨s143, s87, s256, trivial⟩ trivial trivial trivial) Tryz.func168 fun a => by kernel_rfl
def F165 : FEnv := ⟨⟨TYS, [(257, pf257), (90, pf90), (95, pf95), (91, pf91), (168, pf168)], EQS, [], [], false, [(89, pf89)]⟩, []⟩
def pf165 : PF := ⟨[(.rd, (.pair .i64 .i64)), (.own, q2), (.rd, q3)], [q2, .bool], .own, spec_l16Top⟩
theorem s165 : Sd 165 pf165 := sf (F := F165) (envOK ⟨s257, s90, s95, s91, s168, trivial⟩ trivial trivial s89) Tryz.func165 fun a => by kernel_rfl
def F258 : FEnv := ⟨⟨TYS, [(156, pf156), (87, pf87)], EQS, [], [], false, []⟩, []⟩
def pf258 : PF := ⟨[(.rd, (.pair .i64 .i64)), (.rd, .i64), (.rd, .i64)], [.i64], .uniq, spec_Seat⟩
theorem s258 : Sd 258 pf258 := sf (F := F258) (envOK ⟨s156, s87, trivial⟩ trivial trivial trivial) Tryz.func258 fun a => by kernel_rfl
def F262 : FEnv := ⟨⟨TYS, [(156, pf156), (87, pf87)], EQS, [], [], false, []⟩, []⟩
def pf262 : PF := ⟨[(.rd, (.pair .i64 .i64)), (.rd, .i64), (.rd, .i64)], [.i64], .uniq, spec_Sits⟩
theorem s262 : Sd 262 pf262 := sf (F := F262) (envOK ⟨s156, s87, trivial⟩ trivial trivial trivial) Tryz.func262 fun a => by kernel_rfl
def F169 : FEnv := ⟨⟨TYS, [(258, pf258), (262, pf262)], EQS, [], [], false, []⟩, []⟩
def pf169 : PF := ⟨[(.rd, (.pair .i64 .i64)), (.rd, .i64), (.rd, .i64)], [.i64], .uniq, spec_Up⟩
theorem s169 : Sd 169 pf169 := sf (F := F169) (envOK ⟨s258, s262, trivial⟩ trivial trivial trivial) Tryz.func169 fun a => by kernel_rfl
def F260 : FEnv := ⟨⟨TYS, [(258, pf258), (169, pf169)], EQS, [], [], false, []⟩, [(2, [.slot 2 .i64 (.imm false), .slot 7 (.sl 3 .i64) (.own true)])]⟩
def pf260 : PF := ⟨[(.rd, (.pair .i64 .i64)), (.rd, .i64), (.rd, .i64)], [(.sl 3 .i64)], .uniq, spec_Way⟩
theorem s260 : Sd 260 pf260 := sf (F := F260) (envOK ⟨s258, s169, trivial⟩ trivial trivial trivial) Tryz.func260 fun a => by kernel_rfl
def F259 : FEnv := ⟨⟨TYS, [], EQS, [], [], false, []⟩, [(2, [.slot 5 .i64 (.imm false)])]⟩
def pf259 : PF := ⟨[(.rd, (.sl 3 .i64)), (.rd, .i64)], [.bool], .uniq, spec_SetHas⟩
theorem s259 : Sd 259 pf259 := sf (F := F259) (envOK trivial trivial trivial trivial) Tryz.func259 fun a => by kernel_rfl
def F166 : FEnv := ⟨⟨TYS, [(156, pf156), (258, pf258), (260, pf260), (259, pf259)], EQS, [], [], false, []⟩, [(5, [.slot 7 (.sl 3 .i64) (.own true), .slot 8 .i64 (.imm false)])]⟩
def pf166 : PF := ⟨[(.rd, (.pair .i64 .i64)), (.rd, .i64), (.rd, .i64)], [(.sl 3 .i64)], .uniq, spec_Under⟩
theorem s166 : Sd 166 pf166 := sf (F := F166) (envOK ⟨s156, s258, s260, s259, trivial⟩ trivial trivial trivial) Tryz.func166 fun a => by kernel_rfl
def F261 : FEnv := ⟨⟨TYS, [], EQS, [], [], false, []⟩, []⟩
def pf261 : PF := ⟨[(.rd, .bool)], [.i64], .uniq, spec_l1Bit⟩
theorem s261 : Sd 261 pf261 := sf (F := F261) (envOK trivial trivial trivial trivial) Tryz.func261 fun a => by kernel_rfl
def F167 : FEnv := ⟨⟨TYS, [(259, pf259), (261, pf261)], EQS, [], [], false, []⟩, [(3, [.slot 5 .i64 (.imm false), .slot 6 .i64 (.imm false)])]⟩
def pf167 : PF := ⟨[(.rd, (.sl 3 .i64)), (.rd, (.sl 3 .i64))], [.i64], .uniq, spec_Common⟩
theorem s167 : Sd 167 pf167 := sf (F := F167) (envOK ⟨s259, s261, trivial⟩ trivial trivial trivial) Tryz.func167 fun a => by kernel_rfl
def F58 : FEnv := ⟨⟨TYS, [(93, pf93), (91, pf91), (165, pf165), (166, pf166), (167, pf167), (169, pf169), (168, pf168)], EQS, [], [], false, []⟩, []⟩
def pf58 : PF := ⟨[(.rd, (.pair .i64 .i64)), (.own, q2), (.rd, .i64), (.rd, .str), (.rd, .bool)], [q2, .bool], .own, spec_l16Climb⟩
theorem s58 : Sd 58 pf58 := sf (F := F58) (envOK ⟨s93, s91, s165, s166, s167, s169, s168, trivial⟩ trivial trivial trivial) Tryz.func58 fun a => by kernel_rfl
def F226 : FEnv := ⟨⟨TYS, [], EQS, [], [], false, []⟩, []⟩
def pf226 : PF := ⟨[(.rd, (.sl 3 .i64))], [(.sl 3 .i64)], .uniq, impl_copyInts⟩
theorem s226 : Sd 226 pf226 := sf (F := F226) (envOK trivial trivial trivial trivial) Tryz.func226 fun a => by kernel_rfl
def F171 : FEnv := ⟨⟨TYS, [(226, pf226)], EQS, [], [], false, []⟩, []⟩
def pf171 : PF := ⟨[(.rd, q3)], [q3], .uniq, impl_copyPart⟩
theorem s171 : Sd 171 pf171 := sf (F := F171) (envOK ⟨s226, trivial⟩ trivial trivial trivial) Tryz.func171 fun a => by kernel_rfl
def F63 : FEnv := ⟨⟨TYS, [(171, pf171)], EQS, [], [], false, []⟩, [(2, [.slot 11 .i64 (.imm false), .box 1 q3 (.own true)])]⟩
def pf63 : PF := ⟨[(.rd, (.sl 84 q3)), (.rd, .i64), (.rd, .str)], [q3], .uniq, impl_TableGet⟩
theorem s63 : Sd 63 pf63 := sf (F := F63) (envOK ⟨s171, trivial⟩ trivial trivial trivial) Tryz.func63 fun a => by kernel_rfl
def F98 : FEnv := ⟨⟨TYS, [], EQS, [], [], false, []⟩, []⟩
def pf98 : PF := ⟨[(.rd, .i64), (.rd, .i64), (.rd, .i64)], [.bool], .uniq, impl_within⟩
theorem s98 : Sd 98 pf98 := sf (F := F98) (envOK trivial trivial trivial trivial) Tryz.func98 fun a => by kernel_rfl
def F172 : FEnv := ⟨⟨TYS, [(98, pf98)], EQS, [], [], false, []⟩, []⟩
def pf172 : PF := ⟨[(.rd, (.pair .i64 .i64))], [.bool], .uniq, impl_ConfOk⟩
theorem s172 : Sd 172 pf172 := sf (F := F172) (envOK ⟨s98, trivial⟩ trivial trivial trivial) Tryz.func172 fun a => by kernel_rfl
def F205 : FEnv := ⟨⟨TYS, [], EQS, [], [], false, []⟩, []⟩
def pf205 : PF := ⟨[], [q3], .uniq, impl_QcFirst⟩
theorem s205 : Sd 205 pf205 := sf (F := F205) (envOK trivial trivial trivial trivial) Tryz.func205 fun a => by kernel_rfl
def F270 : FEnv := ⟨⟨TYS, [], EQS, [], [], false, []⟩, [(4, [.slot 13 .i64 (.imm false)])]⟩
def pf270 : PF := ⟨[(.rd, (.sl 3 .i64)), (.rd, (.sl 3 .i64))], [.bool], .uniq, slices_Equal_int⟩
theorem s270 : Sd 270 pf270 := sf (F := F270) (envOK trivial trivial trivial trivial) Tryz.func270 fun a => by kernel_rfl
def F204 : FEnv := ⟨⟨TYS, [(270, pf270)], EQS, [], [], false, []⟩, []⟩
def pf204 : PF := ⟨[(.rd, q3), (.rd, q3)], [.bool], .uniq, impl_QcSame⟩
theorem s204 : Sd 204 pf204 := sf (F := F204) (envOK ⟨s270, trivial⟩ trivial trivial trivial) Tryz.func204 fun a => by kernel_rfl
def F294 : FEnv := ⟨⟨TYS, [(325, pf325)], EQS, [], [], false, []⟩, []⟩
def pf294 : PF := ⟨[(.rd, .str), (.rd, .u8)], [(.sl 9 .str)], .uniq, impl_Split⟩
theorem s294 : Sd 294 pf294 := sf (F := F294) (envOK ⟨s325, trivial⟩ trivial trivial trivial) Tryz.func294 fun a => by kernel_rfl
def F327 : FEnv := ⟨⟨TYS, [(341, pf341)], EQS, [], [], false, []⟩, []⟩
def pf327 : PF := ⟨[(.rd, .i64)], [.str], .uniq, impl_Digits⟩
theorem s327 : Sd 327 pf327 := sf (F := F327) (envOK ⟨s341, trivial⟩ trivial trivial trivial) Tryz.func327 fun a => by kernel_rfl
def F296 : FEnv := ⟨⟨TYS, [(327, pf327)], EQS, [], [], false, []⟩, [(5, [.slot 4 .i64 (.imm false), .slot 5 .i64 (.imm false)])]⟩
def pf296 : PF := ⟨[(.rd, .str)], [.i64, .bool], .uniq, impl_Number⟩
theorem s296 : Sd 296 pf296 := sf (F := F296) (envOK ⟨s327, trivial⟩ trivial trivial trivial) Tryz.func296 fun a => by kernel_rfl
def F248 : FEnv := ⟨⟨TYS, [(98, pf98)], EQS, [], [], false, []⟩, []⟩
def pf248 : PF := ⟨[(.rd, q4)], [.bool], .uniq, impl_TxOk⟩
theorem s248 : Sd 248 pf248 := sf (F := F248) (envOK ⟨s98, trivial⟩ trivial trivial trivial) Tryz.func248 fun a => by kernel_rfl
def F342 : FEnv := ⟨⟨TYS, [(248, pf248), (327, pf327)], EQS, [], [], false, []⟩, []⟩
def pf342 : PF := ⟨[(.rd, q4)], [.str], .uniq, impl_TxText⟩
theorem s342 : Sd 342 pf342 := sf (F := F342) (envOK ⟨s248, s327, trivial⟩ trivial trivial trivial) Tryz.func342 fun a => by kernel_rfl
def F328 : FEnv := ⟨⟨TYS, [(295, pf295), (296, pf296), (248, pf248), (342, pf342)], EQS, [], [], false, []⟩, [(6, [.slot 40 .i64 (.imm false), .row 1 3 .i64 (.own true)])]⟩
def pf328 : PF := ⟨[(.rd, .str)], [q4, .bool], .uniq, impl_TxOf⟩
theorem s328 : Sd 328 pf328 := sf (F := F328) (envOK ⟨s295, s296, s248, s342, trivial⟩ trivial trivial trivial) Tryz.func328 fun a => by kernel_rfl
def F297 : FEnv := ⟨⟨TYS, [(294, pf294), (328, pf328)], EQS, [], [], false, []⟩, [(5, [.slot 4 (.sl 105 q4) (.own true), .slot 14 .i64 (.imm false)])]⟩
def pf297 : PF := ⟨[(.rd, .str)], [(.sl 105 q4), .bool], .uniq, impl_TxsOf⟩
theorem s297 : Sd 297 pf297 := sf (F := F297) (envOK ⟨s294, s328, trivial⟩ trivial trivial trivial) Tryz.func297 fun a => by kernel_rfl
def F237 : FEnv := ⟨⟨TYS, [(294, pf294), (295, pf295), (296, pf296), (297, pf297), (98, pf98)], EQS, [], [], false, []⟩, [(9, [.slot 5 q9 (.own true), .slot 6 .i64 (.imm false), .slot 33 .i64 (.imm false)])]⟩
def pf237 : PF := ⟨[(.rd, .str)], [q9, .bool], .uniq, impl_Steps⟩
theorem s237 : Sd 237 pf237 := sf (F := F237) (envOK ⟨s294, s295, s296, s297, s98, trivial⟩ trivial trivial trivial) Tryz.func237 fun a => by kernel_rfl
def F206 : FEnv := ⟨⟨TYS, [(237, pf237)], EQS, [], [], false, []⟩, []⟩
def pf206 : PF := ⟨[(.rd, .str)], [.bool], .uniq, impl_NameOk⟩
theorem s206 : Sd 206 pf206 := sf (F := F206) (envOK ⟨s237, trivial⟩ trivial trivial trivial) Tryz.func206 fun a => by kernel_rfl
def F141 : FEnv := ⟨⟨TYS, [(237, pf237)], EQS, [], [], false, []⟩, []⟩
def pf141 : PF := ⟨[(.rd, .str)], [.i64], .uniq, impl_ViewOf⟩
theorem s141 : Sd 141 pf141 := sf (F := F141) (envOK ⟨s237, trivial⟩ trivial trivial trivial) Tryz.func141 fun a => by kernel_rfl
def F207 : FEnv := ⟨⟨TYS, [], EQS, [], [], false, []⟩, [(2, [.slot 9 .i64 (.imm false)])]⟩
def pf207 : PF := ⟨[(.rd, .i64), (.rd, (.sl 3 .i64))], [.bool], .uniq, impl_SetOk⟩
theorem s207 : Sd 207 pf207 := sf (F := F207) (envOK trivial trivial trivial trivial) Tryz.func207 fun a => by kernel_rfl
def F228 : FEnv := ⟨⟨TYS, [(172, pf172)], EQS, [], [], false, []⟩, []⟩
def pf228 : PF := ⟨[(.rd, (.pair .i64 .i64))], [.i64], .uniq, impl_Faults⟩
theorem s228 : Sd 228 pf228 := sf (F := F228) (envOK ⟨s172, trivial⟩ trivial trivial trivial) Tryz.func228 fun a => by kernel_rfl
def F208 : FEnv := ⟨⟨TYS, [(172, pf172), (228, pf228)], EQS, [], [], false, []⟩, []⟩
def pf208 : PF := ⟨[(.rd, (.pair .i64 .i64))], [.i64], .uniq, impl_Quorum⟩
theorem s208 : Sd 208 pf208 := sf (F := F208) (envOK ⟨s172, s228, trivial⟩ trivial trivial trivial) Tryz.func208 fun a => by kernel_rfl
def F99 : FEnv := ⟨⟨TYS, [(172, pf172), (205, pf205), (204, pf204), (206, pf206), (141, pf141), (207, pf207), (208, pf208)], EQS, [], [], false, []⟩, []⟩
def pf99 : PF := ⟨[(.rd, (.pair .i64 .i64)), (.rd, q3)], [.bool], .uniq, impl_QcOk⟩
theorem s99 : Sd 99 pf99 := sf (F := F99) (envOK ⟨s172, s205, s204, s206, s141, s207, s208, trivial⟩ trivial trivial trivial) Tryz.func99 fun a => by kernel_rfl
def F173 : FEnv := ⟨⟨TYS, [(98, pf98), (99, pf99), (206, pf206)], EQS, [], [], false, []⟩, []⟩
def pf173 : PF := ⟨[(.rd, (.pair .i64 .i64)), (.rd, q5)], [.bool], .uniq, impl_SafeOk⟩
theorem s173 : Sd 173 pf173 := sf (F := F173) (envOK ⟨s98, s99, s206, trivial⟩ trivial trivial trivial) Tryz.func173 fun a => by kernel_rfl
def F263 : FEnv := ⟨⟨TYS, [], EQS, [], [], false, []⟩, []⟩
def pf263 : PF := ⟨[(.rd, q4), (.rd, q4)], [.bool], .uniq, impl_beforeTx⟩
theorem s263 : Sd 263 pf263 := sf (F := F263) (envOK trivial trivial trivial trivial) Tryz.func263 fun a => by kernel_rfl
def F174 : FEnv := ⟨⟨TYS, [(248, pf248), (263, pf263)], EQS, [], [], false, []⟩, [(2, [.slot 7 .i64 (.imm false)])]⟩
def pf174 : PF := ⟨[(.rd, (.sl 105 q4))], [.bool], .uniq, impl_PoolOk⟩
theorem s174 : Sd 174 pf174 := sf (F := F174) (envOK ⟨s248, s263, trivial⟩ trivial trivial trivial) Tryz.func174 fun a => by kernel_rfl
def F134 : FEnv := ⟨⟨TYS, [(172, pf172), (98, pf98), (206, pf206), (141, pf141), (207, pf207)], EQS, [], [], false, []⟩, []⟩
def pf134 : PF := ⟨[(.rd, (.pair .i64 .i64)), (.rd, q3)], [.bool], .uniq, impl_PartOk⟩
theorem s134 : Sd 134 pf134 := sf (F := F134) (envOK ⟨s172, s98, s206, s141, s207, trivial⟩ trivial trivial trivial) Tryz.func134 fun a => by kernel_rfl
def F315 : FEnv := ⟨⟨TYS, [], EQS, [], [], false, []⟩, []⟩
def pf315 : PF := ⟨[(.rd, .i64)], [.bool], .uniq, cmp_isNaN_int⟩
theorem s315 : Sd 315 pf315 := sf (F := F315) (envOK trivial trivial trivial trivial) Tryz.func315 fun a => by kernel_rfl
def F274 : FEnv := ⟨⟨TYS, [(315, pf315)], EQS, [], [], false, []⟩, []⟩
def pf274 : PF := ⟨[(.rd, .i64), (.rd, .i64)], [.i64], .uniq, cmp_Compare_int⟩
theorem s274 : Sd 274 pf274 := sf (F := F274) (envOK ⟨s315, trivial⟩ trivial trivial trivial) Tryz.func274 fun a => by kernel_rfl
def F316 : FEnv := ⟨⟨TYS, [], EQS, [], [], false, []⟩, []⟩
def pf316 : PF := ⟨[(.rd, .str)], [.bool], .uniq, cmp_isNaN_string⟩
theorem s316 : Sd 316 pf316 := sf (F := F316) (envOK trivial trivial trivial trivial) Tryz.func316 fun a => by kernel_rfl
def F275 : FEnv := ⟨⟨TYS, [(316, pf316)], EQS, [], [], false, []⟩, []⟩
def pf275 : PF := ⟨[(.rd, .str), (.rd, .str)], [.i64], .uniq, cmp_Compare_string⟩
theorem s275 : Sd 275 pf275 := sf (F := F275) (envOK ⟨s316, trivial⟩ trivial trivial trivial) Tryz.func275 fun a => by kernel_rfl
def F216 : FEnv := ⟨⟨TYS, [(274, pf274), (275, pf275)], EQS, [], [], false, []⟩, []⟩
def pf216 : PF := ⟨[(.rd, q3), (.rd, q3)], [.i64], .uniq, impl_comparePlace⟩
theorem s216 : Sd 216 pf216 := sf (F := F216) (envOK ⟨s274, s275, trivial⟩ trivial trivial trivial) Tryz.func216 fun a => by kernel_rfl
def F175 : FEnv := ⟨⟨TYS, [(134, pf134), (216, pf216)], EQS, [], [], false, []⟩, [(2, [.slot 9 .i64 (.imm false)])]⟩
def pf175 : PF := ⟨[(.rd, (.pair .i64 .i64)), (.rd, (.sl 84 q3))], [.bool], .uniq, impl_TableOk⟩
theorem s175 : Sd 175 pf175 := sf (F := F175) (envOK ⟨s134, s216, trivial⟩ trivial trivial trivial) Tryz.func175 fun a => by kernel_rfl
def F176 : FEnv := ⟨⟨TYS, [(98, pf98)], EQS, [], [], false, []⟩, []⟩
def pf176 : PF := ⟨[(.rd, q6)], [.bool], .uniq, impl_DiskOk⟩
theorem s176 : Sd 176 pf176 := sf (F := F176) (envOK ⟨s98, trivial⟩ trivial trivial trivial) Tryz.func176 fun a => by kernel_rfl
def F247 : FEnv := ⟨⟨TYS, [], EQS, [], [], false, []⟩, []⟩
def pf247 : PF := ⟨[(.rd, q1)], [q1], .shared, impl_named⟩
theorem s247 : Sd 247 pf247 := sf (F := F247) (envOK trivial trivial trivial trivial) Tryz.func247 fun a => by kernel_rfl
def F302 : FEnv := ⟨⟨TYS, [(204, pf204)], EQS, [], [], false, []⟩, []⟩
def pf302 : PF := ⟨[(.rd, (.pair .str q3)), (.rd, (.pair .str q3))], [.bool], .uniq, impl_BlockSame⟩
theorem s302 : Sd 302 pf302 := sf (F := F302) (envOK ⟨s204, trivial⟩ trivial trivial trivial) Tryz.func302 fun a => by kernel_rfl
def F303 : FEnv := ⟨⟨TYS, [(270, pf270)], EQS, [], [], false, []⟩, []⟩
def pf303 : PF := ⟨[(.rd, q3), (.rd, q3)], [.bool], .uniq, impl_partSame⟩
theorem s303 : Sd 303 pf303 := sf (F := F303) (envOK ⟨s270, trivial⟩ trivial trivial trivial) Tryz.func303 fun a => by kernel_rfl
def F246 : FEnv := ⟨⟨TYS, [(302, pf302), (303, pf303), (204, pf204)], EQS, [], [], false, []⟩, []⟩
def pf246 : PF := ⟨[(.rd, q1), (.rd, q1)], [.bool], .uniq, impl_MsgSame⟩
theorem s246 : Sd 246 pf246 := sf (F := F246) (envOK ⟨s302, s303, s204, trivial⟩ trivial trivial trivial) Tryz.func246 fun a => by kernel_rfl
def F213 : FEnv := ⟨⟨TYS, [(206, pf206), (272, pf272)], EQS, [], [], false, []⟩, []⟩
def pf213 : PF := ⟨[(.rd, .str)], [.str], .uniq, impl_UpOf⟩
theorem s213 : Sd 213 pf213 := sf (F := F213) (envOK ⟨s206, s272, trivial⟩ trivial trivial trivial) Tryz.func213 fun a => by kernel_rfl
def F140 : FEnv := ⟨⟨TYS, [(99, pf99), (206, pf206), (213, pf213)], EQS, [], [], false, []⟩, []⟩
def pf140 : PF := ⟨[(.rd, (.pair .i64 .i64)), (.rd, (.pair .str q3))], [.bool], .uniq, impl_BlockOk⟩
theorem s140 : Sd 140 pf140 := sf (F := F140) (envOK ⟨s99, s206, s213, trivial⟩ trivial trivial trivial) Tryz.func140 fun a => by kernel_rfl
def F149 : FEnv := ⟨⟨TYS, [(172, pf172), (247, pf247), (246, pf246), (140, pf140), (134, pf134), (98, pf98), (99, pf99), (248, pf248)], EQS, [], [], false, []⟩, []⟩
def pf149 : PF := ⟨[(.rd, (.pair .i64 .i64)), (.rd, q1)], [.bool], .uniq, impl_MsgOk⟩
theorem s149 : Sd 149 pf149 := sf (F := F149) (envOK ⟨s172, s247, s246, s140, s134, s98, s99, s248, trivial⟩ trivial trivial trivial) Tryz.func149 fun a => by kernel_rfl
def F64 : FEnv := ⟨⟨TYS, [(172, pf172), (98, pf98), (173, pf173), (174, pf174), (175, pf175), (176, pf176), (149, pf149)], EQS, [], [], false, []⟩, [(4, [.slot 66 .i64 (.imm false)])]⟩
def pf64 : PF := ⟨[(.rd, (.pair .i64 .i64)), (.rd, q2)], [.bool], .uniq, impl_RepOk⟩
theorem s64 : Sd 64 pf64 := sf (F := F64) (envOK ⟨s172, s98, s173, s174, s175, s176, s149, trivial⟩ trivial trivial trivial) Tryz.func64 fun a => by kernel_rfl
def F182 : FEnv := ⟨⟨TYS, [(226, pf226)], EQS, [], [], false, []⟩, []⟩
def pf182 : PF := ⟨[(.rd, q3)], [q3], .uniq, impl_copyQc⟩
theorem s182 : Sd 182 pf182 := sf (F := F182) (envOK ⟨s226, trivial⟩ trivial trivial trivial) Tryz.func182 fun a => by kernel_rfl
def F177 : FEnv := ⟨⟨TYS, [(182, pf182)], EQS, [], [], false, []⟩, []⟩
def pf177 : PF := ⟨[(.rd, q5)], [q5], .uniq, impl_copySafe⟩
theorem s177 : Sd 177 pf177 := sf (F := F177) (envOK ⟨s182, trivial⟩ trivial trivial trivial) Tryz.func177 fun a => by kernel_rfl
def F178 : FEnv := ⟨⟨TYS, [], EQS, [], [], false, []⟩, []⟩
def pf178 : PF := ⟨[(.rd, (.sl 105 q4))], [(.sl 105 q4)], .uniq, impl_copyTxs⟩
theorem s178 : Sd 178 pf178 := sf (F := F178) (envOK trivial trivial trivial trivial) Tryz.func178 fun a => by kernel_rfl
def F179 : FEnv := ⟨⟨TYS, [(171, pf171)], EQS, [], [], false, []⟩, [(3, [.slot 3 (.sl 84 q3) (.own true), .slot 8 .i64 (.imm false)])]⟩
def pf179 : PF := ⟨[(.rd, (.sl 84 q3))], [(.sl 84 q3)], .uniq, impl_copyTable⟩
theorem s179 : Sd 179 pf179 := sf (F := F179) (envOK ⟨s171, trivial⟩ trivial trivial trivial) Tryz.func179 fun a => by kernel_rfl
def F180 : FEnv := ⟨⟨TYS, [], EQS, [], [], false, []⟩, []⟩
def pf180 : PF := ⟨[(.rd, q6)], [q6], .uniq, impl_copyDisk⟩
theorem s180 : Sd 180 pf180 := sf (F := F180) (envOK trivial trivial trivial trivial) Tryz.func180 fun a => by kernel_rfl
def F265 : FEnv := ⟨⟨TYS, [(182, pf182)], EQS, [], [], false, []⟩, []⟩
def pf265 : PF := ⟨[(.rd, (.pair .str q3))], [(.pair .str q3)], .uniq, impl_copyBlock⟩
theorem s265 : Sd 265 pf265 := sf (F := F265) (envOK ⟨s182, trivial⟩ trivial trivial trivial) Tryz.func265 fun a => by kernel_rfl
def F186 : FEnv := ⟨⟨TYS, [(265, pf265), (171, pf171), (182, pf182)], EQS, [], [], false, []⟩, []⟩
def pf186 : PF := ⟨[(.rd, q1)], [q1], .uniq, impl_copyMsg⟩
theorem s186 : Sd 186 pf186 := sf (F := F186) (envOK ⟨s265, s171, s182, trivial⟩ trivial trivial trivial) Tryz.func186 fun a => by kernel_rfl
def F181 : FEnv := ⟨⟨TYS, [(186, pf186)], EQS, [], [], false, []⟩, [(3, [.slot 3 q7 (.own true), .slot 8 .i64 (.imm false)])]⟩
def pf181 : PF := ⟨[(.rd, q7)], [q7], .uniq, impl_copyPosts⟩
theorem s181 : Sd 181 pf181 := sf (F := F181) (envOK ⟨s186, trivial⟩ trivial trivial trivial) Tryz.func181 fun a => by kernel_rfl
def F65 : FEnv := ⟨⟨TYS, [(177, pf177), (178, pf178), (179, pf179), (180, pf180), (181, pf181)], EQS, [], [], false, []⟩, []⟩
def pf65 : PF := ⟨[(.rd, q2)], [q2], .uniq, impl_copyRep⟩
theorem s65 : Sd 65 pf65 := sf (F := F65) (envOK ⟨s177, s178, s179, s180, s181, trivial⟩ trivial trivial trivial) Tryz.func65 fun a => by kernel_rfl
def F66 : FEnv := ⟨⟨TYS, [(172, pf172)], EQS, [], [], false, []⟩, []⟩
def pf66 : PF := ⟨[(.rd, (.pair .i64 .i64)), (.rd, .i64)], [.i64], .uniq, impl_Root⟩
theorem s66 : Sd 66 pf66 := sf (F := F66) (envOK ⟨s172, trivial⟩ trivial trivial trivial) Tryz.func66 fun a => by kernel_rfl
def F67 : FEnv := ⟨⟨TYS, [(182, pf182), (99, pf99)], EQS, [], [], false, []⟩, []⟩
def pf67 : PF := ⟨[(.rd, (.pair .i64 .i64)), (.rd, q3)], [q3, .bool], .uniq, impl_PartQc⟩
theorem s67 : Sd 67 pf67 := sf (F := F67) (envOK ⟨s182, s99, trivial⟩ trivial trivial trivial) Tryz.func67 fun a => by kernel_rfl
def F212 : FEnv := ⟨⟨TYS, [(182, pf182)], EQS, [], [], false, []⟩, []⟩
def pf212 : PF := ⟨[(.rd, q3), (.rd, q3)], [q3], .uniq, impl_QcLater⟩
theorem s212 : Sd 212 pf212 := sf (F := F212) (envOK ⟨s182, trivial⟩ trivial trivial trivial) Tryz.func212 fun a => by kernel_rfl
def F214 : FEnv := ⟨⟨TYS, [(237, pf237), (213, pf213)], EQS, [], [], false, []⟩, []⟩
def pf214 : PF := ⟨[(.rd, .str)], [.str, .bool], .uniq, impl_Settles⟩
theorem s214 : Sd 214 pf214 := sf (F := F214) (envOK ⟨s237, s213, trivial⟩ trivial trivial trivial) Tryz.func214 fun a => by kernel_rfl
def F314 : FEnv := ⟨⟨TYS, [], EQS, [], [], false, []⟩, []⟩
def pf314 : PF := ⟨[(.rd, .str), (.rd, .str)], [.bool], .uniq, internal_stringslite_HasPrefix⟩
theorem s314 : Sd 314 pf314 := sf (F := F314) (envOK trivial trivial trivial trivial) Tryz.func314 fun a => by kernel_rfl
def F273 : FEnv := ⟨⟨TYS, [(314, pf314)], EQS, [], [], false, []⟩, []⟩
def pf273 : PF := ⟨[(.rd, .str), (.rd, .str)], [.bool], .uniq, strings_HasPrefix⟩
theorem s273 : Sd 273 pf273 := sf (F := F273) (envOK ⟨s314, trivial⟩ trivial trivial trivial) Tryz.func273 fun a => by kernel_rfl
def F215 : FEnv := ⟨⟨TYS, [(206, pf206), (273, pf273)], EQS, [], [], false, []⟩, []⟩
def pf215 : PF := ⟨[(.rd, .str), (.rd, .str)], [.bool], .uniq, impl_Extends⟩
theorem s215 : Sd 215 pf215 := sf (F := F215) (envOK ⟨s206, s273, trivial⟩ trivial trivial trivial) Tryz.func215 fun a => by kernel_rfl
def F101 : FEnv := ⟨⟨TYS, [(177, pf177), (173, pf173), (99, pf99), (212, pf212), (213, pf213), (141, pf141), (214, pf214), (215, pf215)], EQS, [], [], false, []⟩, []⟩
def pf101 : PF := ⟨[(.rd, (.pair .i64 .i64)), (.rd, q5), (.rd, q3)], [q5], .uniq, impl_See⟩
theorem s101 : Sd 101 pf101 := sf (F := F101) (envOK ⟨s177, s173, s99, s212, s213, s141, s214, s215, trivial⟩ trivial trivial trivial) Tryz.func101 fun a => by kernel_rfl
def F209 : FEnv := ⟨⟨TYS, [(204, pf204)], EQS, [], [], false, []⟩, []⟩
def pf209 : PF := ⟨[(.rd, q5), (.rd, q5)], [.bool], .uniq, impl_SafeSame⟩
theorem s209 : Sd 209 pf209 := sf (F := F209) (envOK ⟨s204, trivial⟩ trivial trivial trivial) Tryz.func209 fun a => by kernel_rfl
def F230 : FEnv := ⟨⟨TYS, [(98, pf98)], EQS, [], [], false, []⟩, [(4, [.slot 0 .i64 (.imm false), .slot 3 (.sl 5 .u8) (.own true)])]⟩
def pf230 : PF := ⟨[(.rd, .i64)], [(.sl 5 .u8)], .uniq, impl_PutNum⟩
theorem s230 : Sd 230 pf230 := sf (F := F230) (envOK ⟨s98, trivial⟩ trivial trivial trivial) Tryz.func230 fun a => by kernel_rfl
def F233 : FEnv := ⟨⟨TYS, [(230, pf230)], EQS, [], [], false, []⟩, [(3, [.slot 3 (.sl 5 .u8) (.own true), .slot 8 .i64 (.imm false)])]⟩
def pf233 : PF := ⟨[(.rd, (.sl 3 .i64))], [(.sl 5 .u8)], .uniq, impl_putNums⟩
theorem s233 : Sd 233 pf233 := sf (F := F233) (envOK ⟨s230, trivial⟩ trivial trivial trivial) Tryz.func233 fun a => by kernel_rfl
def F231 : FEnv := ⟨⟨TYS, [(230, pf230)], EQS, [], [], false, []⟩, []⟩
def pf231 : PF := ⟨[(.rd, .str)], [(.sl 5 .u8)], .uniq, impl_PutText⟩
theorem s231 : Sd 231 pf231 := sf (F := F231) (envOK ⟨s230, trivial⟩ trivial trivial trivial) Tryz.func231 fun a => by kernel_rfl
def F232 : FEnv := ⟨⟨TYS, [(99, pf99), (230, pf230), (231, pf231), (233, pf233)], EQS, [], [], false, []⟩, []⟩
def pf232 : PF := ⟨[(.rd, (.pair .i64 .i64)), (.rd, q3)], [(.sl 5 .u8)], .uniq, impl_QcBytes⟩
theorem s232 : Sd 232 pf232 := sf (F := F232) (envOK ⟨s99, s230, s231, s233, trivial⟩ trivial trivial trivial) Tryz.func232 fun a => by kernel_rfl
def F271 : FEnv := ⟨⟨TYS, [(173, pf173), (233, pf233), (232, pf232), (231, pf231)], EQS, [], [], false, []⟩, []⟩
def pf271 : PF := ⟨[(.rd, (.pair .i64 .i64)), (.rd, q5)], [(.sl 5 .u8)], .uniq, impl_SafeBytes⟩
theorem s271 : Sd 271 pf271 := sf (F := F271) (envOK ⟨s173, s233, s232, s231, trivial⟩ trivial trivial trivial) Tryz.func271 fun a => by kernel_rfl
def F211 : FEnv := ⟨⟨TYS, [(271, pf271), (230, pf230)], EQS, [], [], false, []⟩, []⟩
def pf211 : PF := ⟨[(.rd, (.pair .i64 .i64)), (.rd, q5)], [(.sl 5 .u8)], .uniq, impl_NoteBytes⟩
theorem s211 : Sd 211 pf211 := sf (F := F211) (envOK ⟨s271, s230, trivial⟩ trivial trivial trivial) Tryz.func211 fun a => by kernel_rfl
def F210 : FEnv := ⟨⟨TYS, [(180, pf180), (176, pf176)], EQS, [], [], false, []⟩, []⟩
def pf210 : PF := ⟨[(.rd, q6), (.rd, (.sl 5 .u8))], [q6, .bool], .uniq, impl_Append⟩
theorem s210 : Sd 210 pf210 := sf (F := F210) (envOK ⟨s180, s176, trivial⟩ trivial trivial trivial) Tryz.func210 fun a => by kernel_rfl
def F100 : FEnv := ⟨⟨TYS, [(65, pf65), (64, pf64), (209, pf209), (211, pf211), (210, pf210), (177, pf177)], EQS, [], [], false, []⟩, []⟩
def pf100 : PF := ⟨[(.rd, (.pair .i64 .i64)), (.rd, q2), (.rd, q5)], [q2, .bool], .uniq, impl_Write⟩
theorem s100 : Sd 100 pf100 := sf (F := F100) (envOK ⟨s65, s64, s209, s211, s210, s177, trivial⟩ trivial trivial trivial) Tryz.func100 fun a => by kernel_rfl
def F71 : FEnv := ⟨⟨TYS, [(65, pf65), (186, pf186), (64, pf64)], EQS, [], [], false, []⟩, []⟩
def pf71 : PF := ⟨[(.rd, (.pair .i64 .i64)), (.rd, q2), (.rd, .i64), (.rd, q1)], [q2, .bool], .uniq, impl_Tell⟩
theorem s71 : Sd 71 pf71 := sf (F := F71) (envOK ⟨s65, s186, s64, trivial⟩ trivial trivial trivial) Tryz.func71 fun a => by kernel_rfl
def F68 : FEnv := ⟨⟨TYS, [(101, pf101), (100, pf100), (66, pf66), (71, pf71)], EQS, [], [], false, []⟩, []⟩
def pf68 : PF := ⟨[(.rd, (.pair .i64 .i64)), (.rd, q2), (.rd, q3)], [q2, .bool], .uniq, impl_crown⟩
theorem e68 (a : argT pf68.params) : evFunC F68 Tryz.f68 pf68.params pf68.rets pf68.rk a = pf68.fn a := by kernel_rfl
theorem s68 : SoundC Tryz.prog GLB 68 pf68 := sound_funC (F := F68) (envOK ⟨s101, s100, s66, s71, trivial⟩ trivial trivial trivial) Tryz.func68 (by kernel_rfl) (by rfl) (fun a o h => (e68 a).trans h)
def F183 : FEnv := ⟨⟨TYS, [(172, pf172), (98, pf98)], EQS, [], [], false, []⟩, []⟩
def pf183 : PF := ⟨[(.rd, (.pair .i64 .i64)), (.rd, .i64), (.rd, .i64)], [.i64], .uniq, impl_Seat⟩
theorem s183 : Sd 183 pf183 := sf (F := F183) (envOK ⟨s172, s98, trivial⟩ trivial trivial trivial) Tryz.func183 fun a => by kernel_rfl
def F187 : FEnv := ⟨⟨TYS, [(172, pf172), (98, pf98)], EQS, [], [], false, []⟩, []⟩
def pf187 : PF := ⟨[(.rd, (.pair .i64 .i64)), (.rd, .i64), (.rd, .i64)], [.i64], .uniq, impl_Sits⟩
theorem s187 : Sd 187 pf187 := sf (F := F187) (envOK ⟨s172, s98, trivial⟩ trivial trivial trivial) Tryz.func187 fun a => by kernel_rfl
def F72 : FEnv := ⟨⟨TYS, [(183, pf183), (187, pf187)], EQS, [], [], false, []⟩, []⟩
def pf72 : PF := ⟨[(.rd, (.pair .i64 .i64)), (.rd, .i64), (.rd, .i64)], [.i64], .uniq, impl_Up⟩
theorem s72 : Sd 72 pf72 := sf (F := F72) (envOK ⟨s183, s187, trivial⟩ trivial trivial trivial) Tryz.func72 fun a => by kernel_rfl
def F185 : FEnv := ⟨⟨TYS, [(183, pf183), (72, pf72)], EQS, [], [], false, []⟩, [(2, [.slot 2 .i64 (.imm false), .slot 7 (.sl 3 .i64) (.own true)])]⟩
def pf185 : PF := ⟨[(.rd, (.pair .i64 .i64)), (.rd, .i64), (.rd, .i64)], [(.sl 3 .i64)], .uniq, impl_Way⟩
theorem s185 : Sd 185 pf185 := sf (F := F185) (envOK ⟨s183, s72, trivial⟩ trivial trivial trivial) Tryz.func185 fun a => by kernel_rfl
def F310 : FEnv := ⟨⟨TYS, [], EQS, [], [], false, []⟩, [(2, [.slot 8 .i64 (.imm false)])]⟩
def pf310 : PF := ⟨[(.rd, (.sl 3 .i64)), (.rd, .i64)], [.i64], .uniq, slices_Index_int⟩
theorem s310 : Sd 310 pf310 := sf (F := F310) (envOK trivial trivial trivial trivial) Tryz.func310 fun a => by kernel_rfl
def F264 : FEnv := ⟨⟨TYS, [(310, pf310)], EQS, [], [], false, []⟩, []⟩
def pf264 : PF := ⟨[(.rd, (.sl 3 .i64)), (.rd, .i64)], [.bool], .uniq, slices_Contains_int⟩
theorem s264 : Sd 264 pf264 := sf (F := F264) (envOK ⟨s310, trivial⟩ trivial trivial trivial) Tryz.func264 fun a => by kernel_rfl
def F184 : FEnv := ⟨⟨TYS, [(264, pf264)], EQS, [], [], false, []⟩, []⟩
def pf184 : PF := ⟨[(.rd, (.sl 3 .i64)), (.rd, .i64)], [.bool], .uniq, impl_SetHas⟩
theorem s184 : Sd 184 pf184 := sf (F := F184) (envOK ⟨s264, trivial⟩ trivial trivial trivial) Tryz.func184 fun a => by kernel_rfl
def F69 : FEnv := ⟨⟨TYS, [(183, pf183), (185, pf185), (184, pf184)], EQS, [], [], false, []⟩, [(3, [.slot 7 (.sl 3 .i64) (.own true), .slot 8 .i64 (.imm false)])]⟩
def pf69 : PF := ⟨[(.rd, (.pair .i64 .i64)), (.rd, .i64), (.rd, .i64)], [(.sl 3 .i64)], .uniq, impl_Under⟩
theorem s69 : Sd 69 pf69 := sf (F := F69) (envOK ⟨s183, s185, s184, trivial⟩ trivial trivial trivial) Tryz.func69 fun a => by kernel_rfl
def F70 : FEnv := ⟨⟨TYS, [(184, pf184)], EQS, [], [], false, []⟩, [(3, [.slot 5 .i64 (.imm false), .slot 10 .i64 (.imm false)])]⟩
def pf70 : PF := ⟨[(.rd, (.sl 3 .i64)), (.rd, (.sl 3 .i64))], [.i64], .uniq, impl_Common⟩
theorem s70 : Sd 70 pf70 := sf (F := F70) (envOK ⟨s184, trivial⟩ trivial trivial trivial) Tryz.func70 fun a => by kernel_rfl
def F13 : FEnv := ⟨⟨TYS, [(63, pf63), (64, pf64), (65, pf65), (66, pf66), (67, pf67), (69, pf69), (70, pf70), (72, pf72), (71, pf71)], EQS, [], [], false, [(68, pf68)]⟩, []⟩
def pf13 : PF := ⟨[(.rd, (.pair .i64 .i64)), (.rd, q2), (.rd, .i64), (.rd, .str), (.rd, .bool)], [q2, .bool], .uniq, impl_Climb⟩
theorem s13 : Sd 13 pf13 := sf (F := F13) (envOK ⟨s63, s64, s65, s66, s67, s69, s70, s72, s71, trivial⟩ trivial trivial s68) Tryz.func13 fun a => by kernel_rfl
def F104 : FEnv := ⟨⟨TYS, [], EQS, [], [], false, []⟩, [(4, [.slot 5 .i64 (.imm false)])]⟩
def pf104 : PF := ⟨[(.rd, (.sl 3 .i64)), (.rd, (.sl 3 .i64))], [.bool], .uniq, laws_eqIntS⟩
theorem s104 : Sd 104 pf104 := sf (F := F104) (envOK trivial trivial trivial trivial) Tryz.func104 fun a => by kernel_rfl
def F21 : FEnv := ⟨⟨TYS, [(104, pf104)], EQS, [], [], false, []⟩, []⟩
def pf21 : PF := ⟨[(.rd, q3), (.rd, q3)], [.bool], .uniq, laws_eqQc⟩
theorem s21 : Sd 21 pf21 := sf (F := F21) (envOK ⟨s104, trivial⟩ trivial trivial trivial) Tryz.func21 fun a => by kernel_rfl
def F73 : FEnv := ⟨⟨TYS, [(21, pf21)], EQS, [], [], false, []⟩, []⟩
def pf73 : PF := ⟨[(.rd, q5), (.rd, q5)], [.bool], .uniq, laws_eqSafe⟩
theorem s73 : Sd 73 pf73 := sf (F := F73) (envOK ⟨s21, trivial⟩ trivial trivial trivial) Tryz.func73 fun a => by kernel_rfl
def F154 : FEnv := ⟨⟨TYS, [], EQS, [], [], false, []⟩, []⟩
def pf154 : PF := ⟨[(.rd, q4), (.rd, q4)], [.bool], .uniq, laws_eqTx⟩
theorem s154 : Sd 154 pf154 := sf (F := F154) (envOK trivial trivial trivial trivial) Tryz.func154 fun a => by kernel_rfl
def F74 : FEnv := ⟨⟨TYS, [(154, pf154)], EQS, [], [], false, []⟩, [(4, [.slot 5 .i64 (.imm false)])]⟩
def pf74 : PF := ⟨[(.rd, (.sl 105 q4)), (.rd, (.sl 105 q4))], [.bool], .uniq, laws_eqTxS⟩
theorem s74 : Sd 74 pf74 := sf (F := F74) (envOK ⟨s154, trivial⟩ trivial trivial trivial) Tryz.func74 fun a => by kernel_rfl
def F38 : FEnv := ⟨⟨TYS, [(104, pf104)], EQS, [], [], false, []⟩, []⟩
def pf38 : PF := ⟨[(.rd, q3), (.rd, q3)], [.bool], .uniq, laws_eqPart⟩
theorem s38 : Sd 38 pf38 := sf (F := F38) (envOK ⟨s104, trivial⟩ trivial trivial trivial) Tryz.func38 fun a => by kernel_rfl
def F75 : FEnv := ⟨⟨TYS, [(38, pf38)], EQS, [], [], false, []⟩, [(4, [.slot 5 .i64 (.imm false)])]⟩
def pf75 : PF := ⟨[(.rd, (.sl 84 q3)), (.rd, (.sl 84 q3))], [.bool], .uniq, laws_eqPartS⟩
theorem s75 : Sd 75 pf75 := sf (F := F75) (envOK ⟨s38, trivial⟩ trivial trivial trivial) Tryz.func75 fun a => by kernel_rfl
def F188 : FEnv := ⟨⟨TYS, [], EQS, [], [], false, []⟩, [(4, [.slot 5 .i64 (.imm false)])]⟩
def pf188 : PF := ⟨[(.rd, (.sl 5 .u8)), (.rd, (.sl 5 .u8))], [.bool], .uniq, laws_eqByteS⟩
theorem s188 : Sd 188 pf188 := sf (F := F188) (envOK trivial trivial trivial trivial) Tryz.func188 fun a => by kernel_rfl
def F76 : FEnv := ⟨⟨TYS, [(188, pf188)], EQS, [], [], false, []⟩, []⟩
def pf76 : PF := ⟨[(.rd, q6), (.rd, q6)], [.bool], .uniq, laws_eqDisk⟩
theorem s76 : Sd 76 pf76 := sf (F := F76) (envOK ⟨s188, trivial⟩ trivial trivial trivial) Tryz.func76 fun a => by kernel_rfl
def F44 : FEnv := ⟨⟨TYS, [(21, pf21)], EQS, [], [], false, []⟩, []⟩
def pf44 : PF := ⟨[(.rd, (.pair .str q3)), (.rd, (.pair .str q3))], [.bool], .uniq, laws_eqBlock⟩
theorem s44 : Sd 44 pf44 := sf (F := F44) (envOK ⟨s21, trivial⟩ trivial trivial trivial) Tryz.func44 fun a => by kernel_rfl
def F50 : FEnv := ⟨⟨TYS, [(44, pf44), (38, pf38), (21, pf21), (154, pf154)], EQS, [], [], false, []⟩, []⟩
def pf50 : PF := ⟨[(.rd, q1), (.rd, q1)], [.bool], .uniq, laws_eqMsg⟩
theorem s50 : Sd 50 pf50 := sf (F := F50) (envOK ⟨s44, s38, s21, s154, trivial⟩ trivial trivial trivial) Tryz.func50 fun a => by kernel_rfl
def F124 : FEnv := ⟨⟨TYS, [(50, pf50)], EQS, [], [], false, []⟩, []⟩
def pf124 : PF := ⟨[(.rd, (.pair .i64 q1)), (.rd, (.pair .i64 q1))], [.bool], .uniq, laws_eqPost⟩
theorem s124 : Sd 124 pf124 := sf (F := F124) (envOK ⟨s50, trivial⟩ trivial trivial trivial) Tryz.func124 fun a => by kernel_rfl
def F30 : FEnv := ⟨⟨TYS, [(124, pf124)], EQS, [], [], false, []⟩, [(4, [.slot 5 .i64 (.imm false)])]⟩
def pf30 : PF := ⟨[(.rd, q7), (.rd, q7)], [.bool], .uniq, laws_eqPostS⟩
theorem s30 : Sd 30 pf30 := sf (F := F30) (envOK ⟨s124, trivial⟩ trivial trivial trivial) Tryz.func30 fun a => by kernel_rfl
def F14 : FEnv := ⟨⟨TYS, [(73, pf73), (74, pf74), (75, pf75), (76, pf76), (30, pf30)], EQS, [], [], false, []⟩, []⟩
def pf14 : PF := ⟨[(.rd, q2), (.rd, q2)], [.bool], .uniq, laws_eqRep⟩
theorem s14 : Sd 14 pf14 := sf (F := F14) (envOK ⟨s73, s74, s75, s76, s30, trivial⟩ trivial trivial trivial) Tryz.func14 fun a => by kernel_rfl
def F105 : FEnv := ⟨⟨TYS, [], EQS, [], [], false, []⟩, [(2, [.slot 1 .i64 (.imm false), .slot 5 .i64 (.imm false), .row 0 3 .i64 .lent])]⟩
def pf105 : MF := ⟨(.sl 3 .i64), laws_markIntS⟩
theorem e105 (a : den (.sl 3 .i64) × Int × Unit) : evTurnFun F105 Tryz.f105 (.sl 3 .i64) a = laws_markIntS a := by kernel_rfl
theorem s105 : SoundM Tryz.prog GLB 105 pf105 := sound_funM (F := F105) (envOK trivial trivial trivial trivial) Tryz.func105 (by kernel_rfl) (fun a o h => (e105 a).trans h)
def F22 : FEnv := ⟨⟨TYS, [], EQS, [], [(105, pf105)], false, []⟩, []⟩
def pf22 : MF := ⟨q3, laws_markQc⟩
theorem e22 (a : den q3 × Int × Unit) : evTurnFun F22 Tryz.f22 q3 a = laws_markQc a := by kernel_rfl
theorem s22 : SoundM Tryz.prog GLB 22 pf22 := sound_funM (F := F22) (envOK trivial trivial s105 trivial) Tryz.func22 (by kernel_rfl) (fun a o h => (e22 a).trans h)
def F77 : FEnv := ⟨⟨TYS, [], EQS, [], [(22, pf22)], false, []⟩, []⟩
def pf77 : MF := ⟨q5, laws_markSafe⟩
theorem e77 (a : den q5 × Int × Unit) : evTurnFun F77 Tryz.f77 q5 a = laws_markSafe a := by kernel_rfl
theorem s77 : SoundM Tryz.prog GLB 77 pf77 := sound_funM (F := F77) (envOK trivial trivial s22 trivial) Tryz.func77 (by kernel_rfl) (fun a o h => (e77 a).trans h)
def F78 : FEnv := ⟨⟨TYS, [], EQS, [], [], false, []⟩, [(2, [.slot 1 .i64 (.imm false), .slot 5 .i64 (.imm false), .row 0 105 q4 .lent])]⟩
def pf78 : MF := ⟨(.sl 105 q4), laws_markTxS⟩
theorem e78 (a : den (.sl 105 q4) × Int × Unit) : evTurnFun F78 Tryz.f78 (.sl 105 q4) a = laws_markTxS a := by kernel_rfl
theorem s78 : SoundM Tryz.prog GLB 78 pf78 := sound_funM (F := F78) (envOK trivial trivial trivial trivial) Tryz.func78 (by kernel_rfl) (fun a o h => (e78 a).trans h)
def F128 : FEnv := ⟨⟨TYS, [], EQS, [], [], false, []⟩, [(4, [.slot 0 .i64 (.imm false), .slot 3 .str (.imm false)])]⟩
def pf128 : PF := ⟨[(.rd, .i64)], [.str], .uniq, laws_markText⟩
theorem s128 : Sd 128 pf128 := sf (F := F128) (envOK trivial trivial trivial trivial) Tryz.func128 fun a => by kernel_rfl
def F79 : FEnv := ⟨⟨TYS, [(128, pf128)], EQS, [], [(105, pf105)], false, []⟩, [(2, [.slot 1 .i64 (.imm false), .slot 5 .i64 (.imm false), .row 0 84 q3 .lent])]⟩
def pf79 : MF := ⟨(.sl 84 q3), laws_markPartS⟩
theorem e79 (a : den (.sl 84 q3) × Int × Unit) : evTurnFun F79 Tryz.f79 (.sl 84 q3) a = laws_markPartS a := by kernel_rfl
theorem s79 : SoundM Tryz.prog GLB 79 pf79 := sound_funM (F := F79) (envOK ⟨s128, trivial⟩ trivial s105 trivial) Tryz.func79 (by kernel_rfl) (fun a o h => (e79 a).trans h)
def F189 : FEnv := ⟨⟨TYS, [], EQS, [], [], false, []⟩, [(2, [.slot 1 .i64 (.imm false), .slot 5 .i64 (.imm false), .row 0 5 .u8 .lent])]⟩
def pf189 : MF := ⟨(.sl 5 .u8), laws_markByteS⟩
theorem e189 (a : den (.sl 5 .u8) × Int × Unit) : evTurnFun F189 Tryz.f189 (.sl 5 .u8) a = laws_markByteS a := by kernel_rfl
theorem s189 : SoundM Tryz.prog GLB 189 pf189 := sound_funM (F := F189) (envOK trivial trivial trivial trivial) Tryz.func189 (by kernel_rfl) (fun a o h => (e189 a).trans h)
def F80 : FEnv := ⟨⟨TYS, [], EQS, [], [(189, pf189)], false, []⟩, []⟩
def pf80 : MF := ⟨q6, laws_markDisk⟩
theorem e80 (a : den q6 × Int × Unit) : evTurnFun F80 Tryz.f80 q6 a = laws_markDisk a := by kernel_rfl
theorem s80 : SoundM Tryz.prog GLB 80 pf80 := sound_funM (F := F80) (envOK trivial trivial s189 trivial) Tryz.func80 (by kernel_rfl) (fun a o h => (e80 a).trans h)
def F32 : FEnv := ⟨⟨TYS, [(128, pf128)], EQS, [], [(105, pf105)], false, []⟩, [(2, [.slot 1 .i64 (.imm false), .slot 5 .i64 (.imm false), .row 0 163 (.pair .i64 q1) .lent])]⟩
def pf32 : MF := ⟨q7, laws_markPostS⟩
theorem e32 (a : den q7 × Int × Unit) : evTurnFun F32 Tryz.f32 q7 a = laws_markPostS a := by kernel_rfl
theorem s32 : SoundM Tryz.prog GLB 32 pf32 := sound_funM (F := F32) (envOK ⟨s128, trivial⟩ trivial s105 trivial) Tryz.func32 (by kernel_rfl) (fun a o h => (e32 a).trans h)
def F15 : FEnv := ⟨⟨TYS, [], EQS, [], [(77, pf77), (78, pf78), (79, pf79), (80, pf80), (32, pf32)], false, []⟩, []⟩
def pf15 : MF := ⟨q2, laws_markRep⟩
theorem e15 (a : den q2 × Int × Unit) : evTurnFun F15 Tryz.f15 q2 a = laws_markRep a := by kernel_rfl
theorem s15 : SoundM Tryz.prog GLB 15 pf15 := sound_funM (F := F15) (envOK trivial trivial ⟨s77, s78, s79, s80, s32⟩ trivial) Tryz.func15 (by kernel_rfl) (fun a o h => (e15 a).trans h)
def F129 : FEnv := ⟨⟨TYS, [], EQS, [], [], false, []⟩, [(2, [.slot 1 .i64 (.imm false), .slot 5 .i64 (.imm false)])]⟩
def pf129 : PF := ⟨[(.rd, (.sl 3 .i64)), (.rd, .i64)], [.i64], .uniq, laws_heldIntS⟩
theorem s129 : Sd 129 pf129 := sf (F := F129) (envOK trivial trivial trivial trivial) Tryz.func129 fun a => by kernel_rfl
def F190 : FEnv := ⟨⟨TYS, [(129, pf129)], EQS, [], [], false, []⟩, []⟩
def pf190 : PF := ⟨[(.rd, q3), (.rd, .i64)], [.i64], .uniq, laws_heldQc⟩
theorem s190 : Sd 190 pf190 := sf (F := F190) (envOK ⟨s129, trivial⟩ trivial trivial trivial) Tryz.func190 fun a => by kernel_rfl
def F81 : FEnv := ⟨⟨TYS, [(190, pf190)], EQS, [], [], false, []⟩, []⟩
def pf81 : PF := ⟨[(.rd, q5), (.rd, .i64)], [.i64], .uniq, laws_heldSafe⟩
theorem s81 : Sd 81 pf81 := sf (F := F81) (envOK ⟨s190, trivial⟩ trivial trivial trivial) Tryz.func81 fun a => by kernel_rfl
def F82 : FEnv := ⟨⟨TYS, [], EQS, [], [], false, []⟩, [(2, [.slot 1 .i64 (.imm false), .slot 5 .i64 (.imm false)])]⟩
def pf82 : PF := ⟨[(.rd, (.sl 105 q4)), (.rd, .i64)], [.i64], .uniq, laws_heldTxS⟩
theorem s82 : Sd 82 pf82 := sf (F := F82) (envOK trivial trivial trivial trivial) Tryz.func82 fun a => by kernel_rfl
def F83 : FEnv := ⟨⟨TYS, [(128, pf128), (129, pf129)], EQS, [], [], false, []⟩, [(2, [.slot 1 .i64 (.imm false), .slot 5 .i64 (.imm false)])]⟩
def pf83 : PF := ⟨[(.rd, (.sl 84 q3)), (.rd, .i64)], [.i64], .uniq, laws_heldPartS⟩
theorem s83 : Sd 83 pf83 := sf (F := F83) (envOK ⟨s128, s129, trivial⟩ trivial trivial trivial) Tryz.func83 fun a => by kernel_rfl
def F191 : FEnv := ⟨⟨TYS, [], EQS, [], [], false, []⟩, [(2, [.slot 1 .i64 (.imm false), .slot 5 .i64 (.imm false)])]⟩
def pf191 : PF := ⟨[(.rd, (.sl 5 .u8)), (.rd, .i64)], [.i64], .uniq, laws_heldByteS⟩
theorem s191 : Sd 191 pf191 := sf (F := F191) (envOK trivial trivial trivial trivial) Tryz.func191 fun a => by kernel_rfl
def F84 : FEnv := ⟨⟨TYS, [(191, pf191)], EQS, [], [], false, []⟩, []⟩
def pf84 : PF := ⟨[(.rd, q6), (.rd, .i64)], [.i64], .uniq, laws_heldDisk⟩
theorem s84 : Sd 84 pf84 := sf (F := F84) (envOK ⟨s191, trivial⟩ trivial trivial trivial) Tryz.func84 fun a => by kernel_rfl
def F85 : FEnv := ⟨⟨TYS, [(128, pf128), (129, pf129)], EQS, [], [], false, []⟩, [(2, [.slot 1 .i64 (.imm false), .slot 5 .i64 (.imm false)])]⟩
def pf85 : PF := ⟨[(.rd, q7), (.rd, .i64)], [.i64], .uniq, laws_heldPostS⟩
theorem s85 : Sd 85 pf85 := sf (F := F85) (envOK ⟨s128, s129, trivial⟩ trivial trivial trivial) Tryz.func85 fun a => by kernel_rfl
def F16 : FEnv := ⟨⟨TYS, [(81, pf81), (82, pf82), (83, pf83), (84, pf84), (85, pf85)], EQS, [], [], false, []⟩, []⟩
def pf16 : PF := ⟨[(.rd, q2), (.rd, .i64)], [.i64], .uniq, laws_heldRep⟩
theorem s16 : Sd 16 pf16 := sf (F := F16) (envOK ⟨s81, s82, s83, s84, s85, trivial⟩ trivial trivial trivial) Tryz.func16 fun a => by kernel_rfl
def F312 : FEnv := ⟨⟨TYS, [(259, pf259)], EQS, [], [], false, []⟩, [(4, [.slot 5 .i64 (.imm false)])]⟩
def pf312 : PF := ⟨[(.rd, (.sl 3 .i64)), (.rd, .i64)], [(.sl 3 .i64)], .uniq, spec_SetAdd⟩
theorem s312 : Sd 312 pf312 := sf (F := F312) (envOK ⟨s259, trivial⟩ trivial trivial trivial) Tryz.func312 fun a => by kernel_rfl
def F269 : FEnv := ⟨⟨TYS, [(312, pf312)], EQS, [], [], false, []⟩, [(3, [.slot 5 (.sl 3 .i64) (.own true), .slot 6 .i64 (.imm false)]), (7, [.slot 5 (.sl 3 .i64) (.own true), .slot 7 .i64 (.imm false)])]⟩
def pf269 : PF := ⟨[(.rd, (.sl 3 .i64)), (.rd, (.sl 3 .i64))], [(.sl 3 .i64)], .uniq, spec_SetJoin⟩
theorem s269 : Sd 269 pf269 := sf (F := F269) (envOK ⟨s312, trivial⟩ trivial trivial trivial) Tryz.func269 fun a => by kernel_rfl
def F203 : FEnv := ⟨⟨TYS, [(269, pf269)], EQS, [], [], false, []⟩, []⟩
def pf203 : PF := ⟨[(.rd, q3), (.rd, q3)], [q3, .bool], .uniq, spec_PartJoin⟩
theorem s203 : Sd 203 pf203 := sf (F := F203) (envOK ⟨s269, trivial⟩ trivial trivial trivial) Tryz.func203 fun a => by kernel_rfl
def F92 : FEnv := ⟨⟨TYS, [(201, pf201), (202, pf202), (203, pf203), (159, pf159), (133, pf133), (162, pf162)], EQS, [], [], false, []⟩, [(4, [.slot 8 (.sl 84 q3) (.own true), .slot 9 .bool (.imm false), .slot 10 .i64 (.imm false)])]⟩
def pf92 : PF := ⟨[(.rd, (.pair .i64 .i64)), (.rd, (.sl 84 q3)), (.rd, q3)], [(.sl 84 q3), .bool], .uniq, spec_TableAdd⟩
theorem s92 : Sd 92 pf92 := sf (F := F92) (envOK ⟨s201, s202, s203, s159, s133, s162, trivial⟩ trivial trivial trivial) Tryz.func92 fun a => by kernel_rfl
def F335 : FEnv := ⟨⟨TYS, [], EQS, [], [], false, []⟩, []⟩
def pf335 : PF := ⟨[(.rd, .i64), (.cap, .i64)], [.bool], .uniq, impl_SetAdd_1⟩
theorem s335 : Sd 335 pf335 := sf (F := F335) (envOK trivial trivial trivial trivial) Tryz.func335 fun a => by kernel_rfl
def F334 : FEnv := ⟨⟨TYS, [(335, pf335)], EQS, [], [], false, []⟩, [(2, [.slot 8 .i64 (.imm false)])]⟩
def pf334 : PF := ⟨[(.rd, (.sl 3 .i64)), ((.clo 335), .i64)], [.i64], .uniq, slices_IndexFunc_int⟩
theorem s334 : Sd 334 pf334 := sf (F := F334) (envOK ⟨s335, trivial⟩ trivial trivial trivial) Tryz.func334 fun a => by kernel_rfl
def F317 : FEnv := ⟨⟨TYS, [(184, pf184), (226, pf226), (334, pf334), (336, pf336)], EQS, [], [], false, []⟩, []⟩
def pf317 : PF := ⟨[(.rd, (.sl 3 .i64)), (.rd, .i64)], [(.sl 3 .i64)], .uniq, impl_SetAdd⟩
theorem s317 : Sd 317 pf317 := sf (F := F317) (envOK ⟨s184, s226, s334, s336, trivial⟩ trivial trivial trivial) Tryz.func317 fun a => by kernel_rfl
def F276 : FEnv := ⟨⟨TYS, [(317, pf317)], EQS, [], [], false, []⟩, [(3, [.slot 5 (.sl 3 .i64) (.own true), .slot 12 .i64 (.imm false)]), (8, [.slot 5 (.sl 3 .i64) (.own true), .slot 22 .i64 (.imm false)])]⟩
def pf276 : PF := ⟨[(.rd, (.sl 3 .i64)), (.rd, (.sl 3 .i64))], [(.sl 3 .i64)], .uniq, impl_SetJoin⟩
theorem s276 : Sd 276 pf276 := sf (F := F276) (envOK ⟨s317, trivial⟩ trivial trivial trivial) Tryz.func276 fun a => by kernel_rfl
def F217 : FEnv := ⟨⟨TYS, [(276, pf276)], EQS, [], [], false, []⟩, []⟩
def pf217 : PF := ⟨[(.rd, q3), (.rd, q3)], [q3, .bool], .uniq, impl_PartJoin⟩
theorem s217 : Sd 217 pf217 := sf (F := F217) (envOK ⟨s276, trivial⟩ trivial trivial trivial) Tryz.func217 fun a => by kernel_rfl
def F102 : FEnv := ⟨⟨TYS, [(134, pf134), (179, pf179), (216, pf216), (217, pf217), (171, pf171), (218, pf218), (175, pf175)], EQS, [], [], false, []⟩, [(5, [.slot 9 .i64 (.imm false)])]⟩
def pf102 : PF := ⟨[(.rd, (.pair .i64 .i64)), (.rd, (.sl 84 q3)), (.rd, q3)], [(.sl 84 q3), .bool], .own, impl_TableAdd⟩
theorem s102 : Sd 102 pf102 := sf (F := F102) (envOK ⟨s134, s179, s216, s217, s171, s218, s175, trivial⟩ trivial trivial trivial) Tryz.func102 fun a => by kernel_rfl
def F35 : FEnv := ⟨⟨TYS, [(57, pf57), (56, pf56), (133, pf133), (92, pf92), (58, pf58)], EQS, [], [], false, []⟩, []⟩
def pf35 : PF := ⟨[(.rd, (.pair .i64 .i64)), (.rd, q2), (.rd, q3)], [q2, .bool], .own, spec_HearPart⟩
theorem s35 : Sd 35 pf35 := sf (F := F35) (envOK ⟨s57, s56, s133, s92, s58, trivial⟩ trivial trivial trivial) Tryz.func35 fun a => by kernel_rfl
def F37 : FEnv := ⟨⟨TYS, [(64, pf64), (134, pf134), (65, pf65), (102, pf102), (13, pf13)], EQS, [], [], false, []⟩, []⟩
def pf37 : PF := ⟨[(.rd, (.pair .i64 .i64)), (.rd, q2), (.rd, q3)], [q2, .bool], .uniq, impl_HearPart⟩
theorem s37 : Sd 37 pf37 := sf (F := F37) (envOK ⟨s64, s134, s65, s102, s13, trivial⟩ trivial trivial trivial) Tryz.func37 fun a => by kernel_rfl
def F39 : FEnv := ⟨⟨TYS, [], EQS, [], [(105, pf105)], false, []⟩, []⟩
def pf39 : MF := ⟨q3, laws_markPart⟩
theorem e39 (a : den q3 × Int × Unit) : evTurnFun F39 Tryz.f39 q3 a = laws_markPart a := by kernel_rfl
theorem s39 : SoundM Tryz.prog GLB 39 pf39 := sound_funM (F := F39) (envOK trivial trivial s105 trivial) Tryz.func39 (by kernel_rfl) (fun a o h => (e39 a).trans h)
def F6 : FEnv := ⟨⟨TYS, [(9, pf9), (34, pf34), (11, pf11), (12, pf12), (36, pf36), (35, pf35), (37, pf37), (14, pf14), (38, pf38), (16, pf16)], EQS, [], [(15, pf15), (39, pf39)], false, []⟩, []⟩
def pf6 : PF := ⟨[(.rd, (.pair .i64 .i64)), (.rd, q8), (.rd, q3)], [.bool], .uniq, laws_FnExactHearPart⟩
theorem s6 : Sd 6 pf6 := sf (F := F6) (envOK ⟨s9, s34, s11, s12, s36, s35, s37, s14, s38, s16, trivial⟩ trivial ⟨s15, s39⟩ trivial) Tryz.func6 fun a => by kernel_rfl

end
end G448
