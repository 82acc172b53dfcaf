/- That the printed functions are what the evaluator reckons. (Printed by our own program.) -/
import Derived.Test.YtgdjegapdmbfnaaGreatDoorProg
import Derived.Test.YtgdjegapdmbfnaaGreatDoorClFns
import Derived.Test.YtgdjegapdmbfnaaGreatDoorSh
import Derived.KernelRfl
set_option linter.unusedSimpArgs false
set_option linter.unusedVariables false

namespace G448
open Ev Go Go.Proofs
set_option linter.unusedVariables false
set_option maxRecDepth 100000
noncomputable section

abbrev q1 : Ty := (.pair .i64 (.pair .i64 (.pair (.pair .str (.pair .i64 (.pair .str (.sl 3 .i64)))) (.pair (.pair .i64 (.pair .str (.sl 3 .i64))) (.pair (.pair .i64 (.pair .str (.sl 3 .i64))) (.pair .i64 (.pair .i64 (.pair .i64 (.pair .i64 .i64)))))))))
abbrev q2 : Ty := (.pair .i64 (.pair .i64 (.pair .i64 (.pair (.pair .i64 (.pair .i64 (.pair (.pair .i64 (.pair .str (.sl 3 .i64))) .str))) (.pair (.sl 105 (.pair .i64 (.pair .i64 (.pair .i64 .i64)))) (.pair (.sl 84 (.pair .i64 (.pair .str (.sl 3 .i64)))) (.pair (.pair (.sl 5 .u8) .i64) (.sl 163 (.pair .i64 q1)))))))))
abbrev q3 : Ty := (.pair .i64 (.pair .str (.sl 3 .i64)))
abbrev q4 : Ty := (.pair .i64 (.pair .i64 (.pair .i64 .i64)))
abbrev q5 : Ty := (.pair .i64 (.pair .i64 (.pair q3 .str)))
abbrev q6 : Ty := (.pair .i64 (.pair .i64 (.pair .i64 (.pair q5 (.pair (.sl 100 q4) (.pair (.sl 81 q3) (.pair (.pair (.sl 5 .u8) .i64) (.sl 156 (.pair .i64 q1)))))))))
abbrev q7 : Ty := (.pair (.sl 5 .u8) .i64)
abbrev q8 : Ty := (.sl 163 (.pair .i64 q1))
def TYS : List (Nat × TD) := [(3, ⟨.i64, 8, [], none⟩), (4, ⟨.bool, 1, [], none⟩), (5, ⟨.u8, 1, [], none⟩), (9, ⟨.str, 16, [], none⟩), (23, ⟨(.pair .i64 .i64), 16, [(0, 3), (1, 3)], none⟩), (24, ⟨(.sl 3 .i64), 24, [], none⟩), (26, ⟨(.pair .i64 (.pair .str (.sl 3 .i64))), 48, [(0, 3), (1, 9), (2, 24)], none⟩), (28, ⟨(.pair .i64 (.pair .i64 (.pair (.pair .i64 (.pair .str (.sl 3 .i64))) .str))), 80, [(0, 3), (1, 3), (2, 26), (5, 9)], none⟩), (29, ⟨(.sl 100 (.pair .i64 (.pair .i64 (.pair .i64 .i64)))), 24, [], none⟩), (30, ⟨(.sl 81 (.pair .i64 (.pair .str (.sl 3 .i64)))), 24, [], none⟩), (31, ⟨(.sl 5 .u8), 24, [], none⟩), (33, ⟨(.pair (.sl 5 .u8) .i64), 32, [(0, 31), (1, 3)], none⟩), (34, ⟨(.sl 156 (.pair .i64 (.pair .i64 (.pair .i64 (.pair (.pair .str (.pair .i64 (.pair .str (.sl 3 .i64)))) (.pair (.pair .i64 (.pair .str (.sl 3 .i64))) (.pair (.pair .i64 (.pair .str (.sl 3 .i64))) (.pair .i64 (.pair .i64 (.pair .i64 (.pair .i64 .i64))))))))))), 24, [], none⟩), (36, ⟨(.pair .i64 (.pair .i64 (.pair .i64 (.pair (.pair .i64 (.pair .i64 (.pair (.pair .i64 (.pair .str (.sl 3 .i64))) .str))) (.pair (.sl 100 (.pair .i64 (.pair .i64 (.pair .i64 .i64)))) (.pair (.sl 81 (.pair .i64 (.pair .str (.sl 3 .i64)))) (.pair (.pair (.sl 5 .u8) .i64) (.sl 156 (.pair .i64 (.pair .i64 (.pair .i64 (.pair (.pair .str (.pair .i64 (.pair .str (.sl 3 .i64)))) (.pair (.pair .i64 (.pair .str (.sl 3 .i64))) (.pair (.pair .i64 (.pair .str (.sl 3 .i64))) (.pair .i64 (.pair .i64 (.pair .i64 (.pair .i64 .i64)))))))))))))))))), 208, [(0, 3), (1, 3), (2, 3), (3, 28), (9, 29), (10, 30), (11, 33), (13, 34)], none⟩), (38, ⟨(.pair .i64 (.pair .str (.sl 3 .i64))), 48, [(0, 3), (1, 9), (2, 24)], none⟩), (40, ⟨(.pair .i64 (.pair .i64 (.pair (.pair .i64 (.pair .str (.sl 3 .i64))) .str))), 80, [(0, 3), (1, 3), (2, 38), (5, 9)], none⟩), (41, ⟨(.sl 105 (.pair .i64 (.pair .i64 (.pair .i64 .i64)))), 24, [], none⟩), (42, ⟨(.sl 84 (.pair .i64 (.pair .str (.sl 3 .i64)))), 24, [], none⟩), (43, ⟨(.pair (.sl 5 .u8) .i64), 32, [(0, 31), (1, 3)], none⟩), (44, ⟨(.sl 163 (.pair .i64 (.pair .i64 (.pair .i64 (.pair (.pair .str (.pair .i64 (.pair .str (.sl 3 .i64)))) (.pair (.pair .i64 (.pair .str (.sl 3 .i64))) (.pair (.pair .i64 (.pair .str (.sl 3 .i64))) (.pair .i64 (.pair .i64 (.pair .i64 (.pair .i64 .i64))))))))))), 24, [], none⟩), (46, ⟨(.pair .i64 (.pair .i64 (.pair .i64 (.pair (.pair .i64 (.pair .i64 (.pair (.pair .i64 (.pair .str (.sl 3 .i64))) .str))) (.pair (.sl 105 (.pair .i64 (.pair .i64 (.pair .i64 .i64)))) (.pair (.sl 84 (.pair .i64 (.pair .str (.sl 3 .i64)))) (.pair (.pair (.sl 5 .u8) .i64) (.sl 163 (.pair .i64 (.pair .i64 (.pair .i64 (.pair (.pair .str (.pair .i64 (.pair .str (.sl 3 .i64)))) (.pair (.pair .i64 (.pair .str (.sl 3 .i64))) (.pair (.pair .i64 (.pair .str (.sl 3 .i64))) (.pair .i64 (.pair .i64 (.pair .i64 (.pair .i64 .i64)))))))))))))))))), 208, [(0, 3), (1, 3), (2, 3), (3, 40), (9, 41), (10, 42), (11, 43), (13, 44)], none⟩), (49, ⟨(.pair .i64 .i64), 16, [(0, 3), (1, 3)], none⟩), (61, ⟨(.sl 36 (.pair .i64 (.pair .i64 (.pair .i64 (.pair (.pair .i64 (.pair .i64 (.pair (.pair .i64 (.pair .str (.sl 3 .i64))) .str))) (.pair (.sl 100 (.pair .i64 (.pair .i64 (.pair .i64 .i64)))) (.pair (.sl 81 (.pair .i64 (.pair .str (.sl 3 .i64)))) (.pair (.pair (.sl 5 .u8) .i64) (.sl 156 (.pair .i64 (.pair .i64 (.pair .i64 (.pair (.pair .str (.pair .i64 (.pair .str (.sl 3 .i64)))) (.pair (.pair .i64 (.pair .str (.sl 3 .i64))) (.pair (.pair .i64 (.pair .str (.sl 3 .i64))) (.pair .i64 (.pair .i64 (.pair .i64 (.pair .i64 .i64))))))))))))))))))), 24, [], none⟩), (62, ⟨(.sl 226 (.pair .i64 (.sl 5 .u8))), 24, [], none⟩), (63, ⟨(.sl 229 (.pair .i64 (.pair .str .i64))), 24, [], none⟩), (65, ⟨(.pair (.pair .i64 .i64) (.pair (.sl 3 .i64) (.pair (.sl 36 (.pair .i64 (.pair .i64 (.pair .i64 (.pair (.pair .i64 (.pair .i64 (.pair (.pair .i64 (.pair .str (.sl 3 .i64))) .str))) (.pair (.sl 100 (.pair .i64 (.pair .i64 (.pair .i64 .i64)))) (.pair (.sl 81 (.pair .i64 (.pair .str (.sl 3 .i64)))) (.pair (.pair (.sl 5 .u8) .i64) (.sl 156 (.pair .i64 (.pair .i64 (.pair .i64 (.pair (.pair .str (.pair .i64 (.pair .str (.sl 3 .i64)))) (.pair (.pair .i64 (.pair .str (.sl 3 .i64))) (.pair (.pair .i64 (.pair .str (.sl 3 .i64))) (.pair .i64 (.pair .i64 (.pair .i64 (.pair .i64 .i64))))))))))))))))))) (.pair (.sl 226 (.pair .i64 (.sl 5 .u8))) (.sl 229 (.pair .i64 (.pair .str .i64))))))), 112, [(0, 23), (2, 24), (3, 61), (4, 62), (5, 63)], none⟩), (68, ⟨(.sl 46 (.pair .i64 (.pair .i64 (.pair .i64 (.pair (.pair .i64 (.pair .i64 (.pair (.pair .i64 (.pair .str (.sl 3 .i64))) .str))) (.pair (.sl 105 (.pair .i64 (.pair .i64 (.pair .i64 .i64)))) (.pair (.sl 84 (.pair .i64 (.pair .str (.sl 3 .i64)))) (.pair (.pair (.sl 5 .u8) .i64) (.sl 163 (.pair .i64 (.pair .i64 (.pair .i64 (.pair (.pair .str (.pair .i64 (.pair .str (.sl 3 .i64)))) (.pair (.pair .i64 (.pair .str (.sl 3 .i64))) (.pair (.pair .i64 (.pair .str (.sl 3 .i64))) (.pair .i64 (.pair .i64 (.pair .i64 (.pair .i64 .i64))))))))))))))))))), 24, [], none⟩), (69, ⟨(.sl 167 (.pair .i64 (.sl 5 .u8))), 24, [], none⟩), (70, ⟨(.sl 232 (.pair .i64 (.pair .str .i64))), 24, [], none⟩), (72, ⟨(.pair (.pair .i64 .i64) (.pair (.sl 3 .i64) (.pair (.sl 46 (.pair .i64 (.pair .i64 (.pair .i64 (.pair (.pair .i64 (.pair .i64 (.pair (.pair .i64 (.pair .str (.sl 3 .i64))) .str))) (.pair (.sl 105 (.pair .i64 (.pair .i64 (.pair .i64 .i64)))) (.pair (.sl 84 (.pair .i64 (.pair .str (.sl 3 .i64)))) (.pair (.pair (.sl 5 .u8) .i64) (.sl 163 (.pair .i64 (.pair .i64 (.pair .i64 (.pair (.pair .str (.pair .i64 (.pair .str (.sl 3 .i64)))) (.pair (.pair .i64 (.pair .str (.sl 3 .i64))) (.pair (.pair .i64 (.pair .str (.sl 3 .i64))) (.pair .i64 (.pair .i64 (.pair .i64 (.pair .i64 .i64))))))))))))))))))) (.pair (.sl 167 (.pair .i64 (.sl 5 .u8))) (.sl 232 (.pair .i64 (.pair .str .i64))))))), 112, [(0, 49), (2, 24), (3, 68), (4, 69), (5, 70)], none⟩), (81, ⟨(.pair .i64 (.pair .str (.sl 3 .i64))), 48, [(0, 3), (1, 9), (2, 24)], none⟩), (84, ⟨(.pair .i64 (.pair .str (.sl 3 .i64))), 48, [(0, 3), (1, 9), (2, 24)], none⟩), (90, ⟨(.pair .str (.pair .i64 (.pair .str (.sl 3 .i64)))), 64, [(0, 9), (1, 26)], none⟩), (94, ⟨(.pair .str (.pair .i64 (.pair .str (.sl 3 .i64)))), 64, [(0, 9), (1, 38)], none⟩), (100, ⟨(.pair .i64 (.pair .i64 (.pair .i64 .i64))), 32, [(0, 3), (1, 3), (2, 3), (3, 3)], none⟩), (102, ⟨(.pair .i64 (.pair .i64 (.pair (.pair .str (.pair .i64 (.pair .str (.sl 3 .i64)))) (.pair (.pair .i64 (.pair .str (.sl 3 .i64))) (.pair (.pair .i64 (.pair .str (.sl 3 .i64))) (.pair .i64 (.pair .i64 (.pair .i64 (.pair .i64 .i64))))))))), 216, [(0, 3), (1, 3), (2, 90), (6, 81), (9, 26), (12, 3), (13, 100)], none⟩), (105, ⟨(.pair .i64 (.pair .i64 (.pair .i64 .i64))), 32, [(0, 3), (1, 3), (2, 3), (3, 3)], none⟩), (107, ⟨(.pair .i64 (.pair .i64 (.pair (.pair .str (.pair .i64 (.pair .str (.sl 3 .i64)))) (.pair (.pair .i64 (.pair .str (.sl 3 .i64))) (.pair (.pair .i64 (.pair .str (.sl 3 .i64))) (.pair .i64 (.pair .i64 (.pair .i64 (.pair .i64 .i64))))))))), 216, [(0, 3), (1, 3), (2, 94), (6, 84), (9, 38), (12, 3), (13, 105)], none⟩), (156, ⟨(.pair .i64 (.pair .i64 (.pair .i64 (.pair (.pair .str (.pair .i64 (.pair .str (.sl 3 .i64)))) (.pair (.pair .i64 (.pair .str (.sl 3 .i64))) (.pair (.pair .i64 (.pair .str (.sl 3 .i64))) (.pair .i64 (.pair .i64 (.pair .i64 (.pair .i64 .i64)))))))))), 224, [(0, 3), (1, 102)], none⟩), (163, ⟨(.pair .i64 (.pair .i64 (.pair .i64 (.pair (.pair .str (.pair .i64 (.pair .str (.sl 3 .i64)))) (.pair (.pair .i64 (.pair .str (.sl 3 .i64))) (.pair (.pair .i64 (.pair .str (.sl 3 .i64))) (.pair .i64 (.pair .i64 (.pair .i64 (.pair .i64 .i64)))))))))), 224, [(0, 3), (1, 107)], none⟩), (167, ⟨(.pair .i64 (.sl 5 .u8)), 32, [(0, 3), (1, 31)], none⟩), (188, ⟨(.pair (.sl 3 .i64) (.sl 3 .i64)), 48, [(0, 24), (1, 24)], none⟩), (226, ⟨(.pair .i64 (.sl 5 .u8)), 32, [(0, 3), (1, 31)], none⟩), (229, ⟨(.pair .i64 (.pair .str .i64)), 32, [(0, 3), (1, 9), (2, 3)], none⟩), (232, ⟨(.pair .i64 (.pair .str .i64)), 32, [(0, 3), (1, 9), (2, 3)], none⟩), (242, ⟨(.sl 246 (.pair .i64 (.sl 105 (.pair .i64 (.pair .i64 (.pair .i64 .i64)))))), 24, [], none⟩), (246, ⟨(.pair .i64 (.sl 105 (.pair .i64 (.pair .i64 (.pair .i64 .i64))))), 32, [(0, 3), (1, 41)], none⟩), (265, ⟨(.pair (.sl 5 .u8) (.pair .i64 .bool)), 40, [(0, 31), (1, 3), (2, 4)], none⟩), (273, ⟨(.pair (.sl 5 .u8) (.pair .i64 .bool)), 40, [(0, 31), (1, 3), (2, 4)], none⟩), (277, ⟨(.sl 9 .str), 24, [], none⟩), (305, ⟨(.sl 3 .i64), 32, [], some 4⟩)]
def EQS : List Nat := [105]
theorem tysOK : tysOk Tryz.prog TYS = true := by kernel_rfl
theorem tilesOK : tilesOk TYS = true := by kernel_rfl
theorem eqsOK : EQS.all (eqOk Tryz.prog TYS) = true := by kernel_rfl
theorem mixedOK : Tryz.prog.follows .mixedOrders = true := by kernel_rfl
theorem envOK {fns : List (Nat × PF)} {news : List (Nat × NF)} {muts : List (Nat × MF)} {frz : Bool} {conds : List (Nat × PF)} (h : AllS Tryz.prog GLB fns) (h2 : AllN Tryz.prog GLB news) (h3 : AllM Tryz.prog GLB muts) (h4 : AllC Tryz.prog GLB conds) : EnvOk Tryz.prog GLB ⟨TYS, fns, EQS, news, muts, frz, conds⟩ := envOk_of mixedOK tysOK eqsOK h h2 h3 h4

def F86 : FEnv := ⟨⟨TYS, [], EQS, [], [], false, []⟩, []⟩
def pf86 : PF := ⟨[(.rd, (.sl 3 .i64)), (.rd, .i64)], [.i64], .uniq, laws_szIntS⟩
theorem e86 (a : argT [(.rd, (.sl 3 .i64)), (.rd, .i64)]) : evFun F86 Tryz.f86 [(.rd, (.sl 3 .i64)), (.rd, .i64)] [.i64] .uniq a = laws_szIntS a := by kernel_rfl
theorem s86 : Sound Tryz.prog GLB 86 pf86 := sound_fun (F := F86) (envOK trivial trivial trivial trivial) Tryz.func86 (by kernel_rfl) (fun a o h => (e86 a).trans h)
def F17 : FEnv := ⟨⟨TYS, [(86, pf86)], EQS, [], [], false, []⟩, []⟩
def pf17 : PF := ⟨[(.rd, q3), (.rd, .i64)], [.i64], .uniq, laws_szQc⟩
theorem e17 (a : argT [(.rd, q3), (.rd, .i64)]) : evFun F17 Tryz.f17 [(.rd, q3), (.rd, .i64)] [.i64] .uniq a = laws_szQc a := by kernel_rfl
theorem s17 : Sound Tryz.prog GLB 17 pf17 := sound_fun (F := F17) (envOK ⟨s86, trivial⟩ trivial trivial trivial) Tryz.func17 (by kernel_rfl) (fun a o h => (e17 a).trans h)
def F52 : FEnv := ⟨⟨TYS, [(17, pf17)], EQS, [], [], false, []⟩, []⟩
def pf52 : PF := ⟨[(.rd, q5), (.rd, .i64)], [.i64], .uniq, laws_szSafe⟩
theorem e52 (a : argT [(.rd, q5), (.rd, .i64)]) : evFun F52 Tryz.f52 [(.rd, q5), (.rd, .i64)] [.i64] .uniq a = laws_szSafe a := by kernel_rfl
theorem s52 : Sound Tryz.prog GLB 52 pf52 := sound_fun (F := F52) (envOK ⟨s17, trivial⟩ trivial trivial trivial) Tryz.func52 (by kernel_rfl) (fun a o h => (e52 a).trans h)
def F53 : FEnv := ⟨⟨TYS, [], EQS, [], [], false, []⟩, []⟩
def pf53 : PF := ⟨[(.rd, (.sl 100 q4)), (.rd, .i64)], [.i64], .uniq, laws_szTxS⟩
theorem e53 (a : argT [(.rd, (.sl 100 q4)), (.rd, .i64)]) : evFun F53 Tryz.f53 [(.rd, (.sl 100 q4)), (.rd, .i64)] [.i64] .uniq a = laws_szTxS a := by kernel_rfl
theorem s53 : Sound Tryz.prog GLB 53 pf53 := sound_fun (F := F53) (envOK trivial trivial trivial trivial) Tryz.func53 (by kernel_rfl) (fun a o h => (e53 a).trans h)
def F34 : FEnv := ⟨⟨TYS, [(86, pf86)], EQS, [], [], false, []⟩, []⟩
def pf34 : PF := ⟨[(.rd, q3), (.rd, .i64)], [.i64], .uniq, laws_szPart⟩
theorem e34 (a : argT [(.rd, q3), (.rd, .i64)]) : evFun F34 Tryz.f34 [(.rd, q3), (.rd, .i64)] [.i64] .uniq a = laws_szPart a := by kernel_rfl
theorem s34 : Sound Tryz.prog GLB 34 pf34 := sound_fun (F := F34) (envOK ⟨s86, trivial⟩ trivial trivial trivial) Tryz.func34 (by kernel_rfl) (fun a o h => (e34 a).trans h)
def F54 : FEnv := ⟨⟨TYS, [(34, pf34)], EQS, [], [], false, []⟩, [(5, [.slot 1 .i64 (.imm false), .slot 5 .i64 (.imm false)])]⟩
def pf54 : PF := ⟨[(.rd, (.sl 81 q3)), (.rd, .i64)], [.i64], .uniq, laws_szPartS⟩
theorem e54 (a : argT [(.rd, (.sl 81 q3)), (.rd, .i64)]) : evFun F54 Tryz.f54 [(.rd, (.sl 81 q3)), (.rd, .i64)] [.i64] .uniq a = laws_szPartS a := by kernel_rfl
theorem s54 : Sound Tryz.prog GLB 54 pf54 := sound_fun (F := F54) (envOK ⟨s34, trivial⟩ trivial trivial trivial) Tryz.func54 (by kernel_rfl) (fun a o h => (e54 a).trans h)
def F155 : FEnv := ⟨⟨TYS, [], EQS, [], [], false, []⟩, []⟩
def pf155 : PF := ⟨[(.rd, (.sl 5 .u8)), (.rd, .i64)], [.i64], .uniq, laws_szByteS⟩
theorem e155 (a : argT [(.rd, (.sl 5 .u8)), (.rd, .i64)]) : evFun F155 Tryz.f155 [(.rd, (.sl 5 .u8)), (.rd, .i64)] [.i64] .uniq a = laws_szByteS a := by kernel_rfl
theorem s155 : Sound Tryz.prog GLB 155 pf155 := sound_fun (F := F155) (envOK trivial trivial trivial trivial) Tryz.func155 (by kernel_rfl) (fun a o h => (e155 a).trans h)
def F55 : FEnv := ⟨⟨TYS, [(155, pf155)], EQS, [], [], false, []⟩, []⟩
def pf55 : PF := ⟨[(.rd, q7), (.rd, .i64)], [.i64], .uniq, laws_szDisk⟩
theorem e55 (a : argT [(.rd, q7), (.rd, .i64)]) : evFun F55 Tryz.f55 [(.rd, q7), (.rd, .i64)] [.i64] .uniq a = laws_szDisk a := by kernel_rfl
theorem s55 : Sound Tryz.prog GLB 55 pf55 := sound_fun (F := F55) (envOK ⟨s155, trivial⟩ trivial trivial trivial) Tryz.func55 (by kernel_rfl) (fun a o h => (e55 a).trans h)
def F40 : FEnv := ⟨⟨TYS, [(17, pf17)], EQS, [], [], false, []⟩, []⟩
def pf40 : PF := ⟨[(.rd, (.pair .str q3)), (.rd, .i64)], [.i64], .uniq, laws_szBlock⟩
theorem e40 (a : argT [(.rd, (.pair .str q3)), (.rd, .i64)]) : evFun F40 Tryz.f40 [(.rd, (.pair .str q3)), (.rd, .i64)] [.i64] .uniq a = laws_szBlock a := by kernel_rfl
theorem s40 : Sound Tryz.prog GLB 40 pf40 := sound_fun (F := F40) (envOK ⟨s17, trivial⟩ trivial trivial trivial) Tryz.func40 (by kernel_rfl) (fun a o h => (e40 a).trans h)
def F46 : FEnv := ⟨⟨TYS, [(40, pf40), (34, pf34), (17, pf17)], EQS, [], [], false, []⟩, []⟩
def pf46 : PF := ⟨[(.rd, q1), (.rd, .i64)], [.i64], .uniq, laws_szMsg⟩
theorem e46 (a : argT [(.rd, q1), (.rd, .i64)]) : evFun F46 Tryz.f46 [(.rd, q1), (.rd, .i64)] [.i64] .uniq a = laws_szMsg a := by kernel_rfl
theorem s46 : Sound Tryz.prog GLB 46 pf46 := sound_fun (F := F46) (envOK ⟨s40, s34, s17, trivial⟩ trivial trivial trivial) Tryz.func46 (by kernel_rfl) (fun a o h => (e46 a).trans h)
def F109 : FEnv := ⟨⟨TYS, [(46, pf46)], EQS, [], [], false, []⟩, []⟩
def pf109 : PF := ⟨[(.rd, (.pair .i64 q1)), (.rd, .i64)], [.i64], .uniq, laws_szPost⟩
theorem e109 (a : argT [(.rd, (.pair .i64 q1)), (.rd, .i64)]) : evFun F109 Tryz.f109 [(.rd, (.pair .i64 q1)), (.rd, .i64)] [.i64] .uniq a = laws_szPost a := by kernel_rfl
theorem s109 : Sound Tryz.prog GLB 109 pf109 := sound_fun (F := F109) (envOK ⟨s46, trivial⟩ trivial trivial trivial) Tryz.func109 (by kernel_rfl) (fun a o h => (e109 a).trans h)
def F24 : FEnv := ⟨⟨TYS, [(109, pf109)], EQS, [], [], false, []⟩, [(5, [.slot 1 .i64 (.imm false), .slot 5 .i64 (.imm false)])]⟩
def pf24 : PF := ⟨[(.rd, (.sl 156 (.pair .i64 q1))), (.rd, .i64)], [.i64], .uniq, laws_szPostS⟩
theorem e24 (a : argT [(.rd, (.sl 156 (.pair .i64 q1))), (.rd, .i64)]) : evFun F24 Tryz.f24 [(.rd, (.sl 156 (.pair .i64 q1))), (.rd, .i64)] [.i64] .uniq a = laws_szPostS a := by kernel_rfl
theorem s24 : Sound Tryz.prog GLB 24 pf24 := sound_fun (F := F24) (envOK ⟨s109, trivial⟩ trivial trivial trivial) Tryz.func24 (by kernel_rfl) (fun a o h => (e24 a).trans h)
def F9 : FEnv := ⟨⟨TYS, [(52, pf52), (53, pf53), (54, pf54), (55, pf55), (24, pf24)], EQS, [], [], false, []⟩, []⟩
def pf9 : PF := ⟨[(.rd, q6), (.rd, .i64)], [.i64], .uniq, laws_szRep⟩
theorem e9 (a : argT [(.rd, q6), (.rd, .i64)]) : evFun F9 Tryz.f9 [(.rd, q6), (.rd, .i64)] [.i64] .uniq a = laws_szRep a := by kernel_rfl
theorem s9 : Sound Tryz.prog GLB 9 pf9 := sound_fun (F := F9) (envOK ⟨s52, s53, s54, s55, s24, trivial⟩ trivial trivial trivial) Tryz.func9 (by kernel_rfl) (fun a o h => (e9 a).trans h)
def F11 : FEnv := ⟨⟨TYS, [], EQS, [], [], false, []⟩, []⟩
def pf11 : PF := ⟨[(.rd, (.pair .i64 .i64))], [(.pair .i64 .i64)], .uniq, laws_toConf⟩
theorem e11 (a : argT [(.rd, (.pair .i64 .i64))]) : evFun F11 Tryz.f11 [(.rd, (.pair .i64 .i64))] [(.pair .i64 .i64)] .uniq a = laws_toConf a := by kernel_rfl
theorem s11 : Sound Tryz.prog GLB 11 pf11 := sound_fun (F := F11) (envOK trivial trivial trivial trivial) Tryz.func11 (by kernel_rfl) (fun a o h => (e11 a).trans h)
def F97 : FEnv := ⟨⟨TYS, [], EQS, [], [], false, []⟩, [(3, [.slot 4 .i64 (.imm false), .row 1 3 .i64 (.own true)])]⟩
def pf97 : PF := ⟨[(.rd, (.sl 3 .i64))], [(.sl 3 .i64)], .uniq, laws_toIntS⟩
theorem e97 (a : argT [(.rd, (.sl 3 .i64))]) : evFun F97 Tryz.f97 [(.rd, (.sl 3 .i64))] [(.sl 3 .i64)] .uniq a = laws_toIntS a := by kernel_rfl
theorem s97 : Sound Tryz.prog GLB 97 pf97 := sound_fun (F := F97) (envOK trivial trivial trivial trivial) Tryz.func97 (by kernel_rfl) (fun a o h => (e97 a).trans h)
def F19 : FEnv := ⟨⟨TYS, [(97, pf97)], EQS, [], [], false, []⟩, []⟩
def pf19 : PF := ⟨[(.rd, q3)], [q3], .uniq, laws_toQc⟩
theorem e19 (a : argT [(.rd, q3)]) : evFun F19 Tryz.f19 [(.rd, q3)] [q3] .uniq a = laws_toQc a := by kernel_rfl
theorem s19 : Sound Tryz.prog GLB 19 pf19 := sound_fun (F := F19) (envOK ⟨s97, trivial⟩ trivial trivial trivial) Tryz.func19 (by kernel_rfl) (fun a o h => (e19 a).trans h)
def F59 : FEnv := ⟨⟨TYS, [(19, pf19)], EQS, [], [], false, []⟩, []⟩
def pf59 : PF := ⟨[(.rd, q5)], [q5], .uniq, laws_toSafe⟩
theorem e59 (a : argT [(.rd, q5)]) : evFun F59 Tryz.f59 [(.rd, q5)] [q5] .uniq a = laws_toSafe a := by kernel_rfl
theorem s59 : Sound Tryz.prog GLB 59 pf59 := sound_fun (F := F59) (envOK ⟨s19, trivial⟩ trivial trivial trivial) Tryz.func59 (by kernel_rfl) (fun a o h => (e59 a).trans h)
def F148 : FEnv := ⟨⟨TYS, [], EQS, [], [], false, []⟩, []⟩
def pf148 : PF := ⟨[(.rd, q4)], [q4], .uniq, laws_toTx⟩
theorem e148 (a : argT [(.rd, q4)]) : evFun F148 Tryz.f148 [(.rd, q4)] [q4] .uniq a = laws_toTx a := by kernel_rfl
theorem s148 : Sound Tryz.prog GLB 148 pf148 := sound_fun (F := F148) (envOK trivial trivial trivial trivial) Tryz.func148 (by kernel_rfl) (fun a o h => (e148 a).trans h)
def F60 : FEnv := ⟨⟨TYS, [(148, pf148)], EQS, [], [], false, []⟩, [(3, [.slot 4 .i64 (.imm false), .row 1 105 q4 (.own true)])]⟩
def pf60 : PF := ⟨[(.rd, (.sl 100 q4))], [(.sl 105 q4)], .uniq, laws_toTxS⟩
theorem e60 (a : argT [(.rd, (.sl 100 q4))]) : evFun F60 Tryz.f60 [(.rd, (.sl 100 q4))] [(.sl 105 q4)] .uniq a = laws_toTxS a := by kernel_rfl
theorem s60 : Sound Tryz.prog GLB 60 pf60 := sound_fun (F := F60) (envOK ⟨s148, trivial⟩ trivial trivial trivial) Tryz.func60 (by kernel_rfl) (fun a o h => (e60 a).trans h)
def F36 : FEnv := ⟨⟨TYS, [(97, pf97)], EQS, [], [], false, []⟩, []⟩
def pf36 : PF := ⟨[(.rd, q3)], [q3], .uniq, laws_toPart⟩
theorem e36 (a : argT [(.rd, q3)]) : evFun F36 Tryz.f36 [(.rd, q3)] [q3] .uniq a = laws_toPart a := by kernel_rfl
theorem s36 : Sound Tryz.prog GLB 36 pf36 := sound_fun (F := F36) (envOK ⟨s97, trivial⟩ trivial trivial trivial) Tryz.func36 (by kernel_rfl) (fun a o h => (e36 a).trans h)
def F61 : FEnv := ⟨⟨TYS, [(36, pf36)], EQS, [], [], false, []⟩, [(3, [.slot 4 .i64 (.imm false), .row 1 84 q3 (.own true)])]⟩
def pf61 : PF := ⟨[(.rd, (.sl 81 q3))], [(.sl 84 q3)], .uniq, laws_toPartS⟩
theorem e61 (a : argT [(.rd, (.sl 81 q3))]) : evFun F61 Tryz.f61 [(.rd, (.sl 81 q3))] [(.sl 84 q3)] .uniq a = laws_toPartS a := by kernel_rfl
theorem s61 : Sound Tryz.prog GLB 61 pf61 := sound_fun (F := F61) (envOK ⟨s36, trivial⟩ trivial trivial trivial) Tryz.func61 (by kernel_rfl) (fun a o h => (e61 a).trans h)
def F170 : FEnv := ⟨⟨TYS, [], EQS, [], [], false, []⟩, [(3, [.slot 4 .i64 (.imm false), .row 1 5 .u8 (.own true)])]⟩
def pf170 : PF := ⟨[(.rd, (.sl 5 .u8))], [(.sl 5 .u8)], .uniq, laws_toByteS⟩
theorem e170 (a : argT [(.rd, (.sl 5 .u8))]) : evFun F170 Tryz.f170 [(.rd, (.sl 5 .u8))] [(.sl 5 .u8)] .uniq a = laws_toByteS a := by kernel_rfl
theorem s170 : Sound Tryz.prog GLB 170 pf170 := sound_fun (F := F170) (envOK trivial trivial trivial trivial) Tryz.func170 (by kernel_rfl) (fun a o h => (e170 a).trans h)
def F62 : FEnv := ⟨⟨TYS, [(170, pf170)], EQS, [], [], false, []⟩, []⟩
def pf62 : PF := ⟨[(.rd, q7)], [q7], .uniq, laws_toDisk⟩
theorem e62 (a : argT [(.rd, q7)]) : evFun F62 Tryz.f62 [(.rd, q7)] [q7] .uniq a = laws_toDisk a := by kernel_rfl
theorem s62 : Sound Tryz.prog GLB 62 pf62 := sound_fun (F := F62) (envOK ⟨s170, trivial⟩ trivial trivial trivial) Tryz.func62 (by kernel_rfl) (fun a o h => (e62 a).trans h)
def F42 : FEnv := ⟨⟨TYS, [(19, pf19)], EQS, [], [], false, []⟩, []⟩
def pf42 : PF := ⟨[(.rd, (.pair .str q3))], [(.pair .str q3)], .uniq, laws_toBlock⟩
theorem e42 (a : argT [(.rd, (.pair .str q3))]) : evFun F42 Tryz.f42 [(.rd, (.pair .str q3))] [(.pair .str q3)] .uniq a = laws_toBlock a := by kernel_rfl
theorem s42 : Sound Tryz.prog GLB 42 pf42 := sound_fun (F := F42) (envOK ⟨s19, trivial⟩ trivial trivial trivial) Tryz.func42 (by kernel_rfl) (fun a o h => (e42 a).trans h)
def F48 : FEnv := ⟨⟨TYS, [(42, pf42), (36, pf36), (19, pf19), (148, pf148)], EQS, [], [], false, []⟩, []⟩
def pf48 : PF := ⟨[(.rd, q1)], [q1], .uniq, laws_toMsg⟩
theorem e48 (a : argT [(.rd, q1)]) : evFun F48 Tryz.f48 [(.rd, q1)] [q1] .uniq a = laws_toMsg a := by kernel_rfl
theorem s48 : Sound Tryz.prog GLB 48 pf48 := sound_fun (F := F48) (envOK ⟨s42, s36, s19, s148, trivial⟩ trivial trivial trivial) Tryz.func48 (by kernel_rfl) (fun a o h => (e48 a).trans h)
def F116 : FEnv := ⟨⟨TYS, [(48, pf48)], EQS, [], [], false, []⟩, []⟩
def pf116 : PF := ⟨[(.rd, (.pair .i64 q1))], [(.pair .i64 q1)], .uniq, laws_toPost⟩
theorem e116 (a : argT [(.rd, (.pair .i64 q1))]) : evFun F116 Tryz.f116 [(.rd, (.pair .i64 q1))] [(.pair .i64 q1)] .uniq a = laws_toPost a := by kernel_rfl
theorem s116 : Sound Tryz.prog GLB 116 pf116 := sound_fun (F := F116) (envOK ⟨s48, trivial⟩ trivial trivial trivial) Tryz.func116 (by kernel_rfl) (fun a o h => (e116 a).trans h)
def F27 : FEnv := ⟨⟨TYS, [(116, pf116)], EQS, [], [], false, []⟩, [(3, [.slot 4 .i64 (.imm false), .row 1 163 (.pair .i64 q1) (.own true)])]⟩
def pf27 : PF := ⟨[(.rd, (.sl 156 (.pair .i64 q1)))], [q8], .uniq, laws_toPostS⟩
theorem e27 (a : argT [(.rd, (.sl 156 (.pair .i64 q1)))]) : evFun F27 Tryz.f27 [(.rd, (.sl 156 (.pair .i64 q1)))] [q8] .uniq a = laws_toPostS a := by kernel_rfl
theorem s27 : Sound Tryz.prog GLB 27 pf27 := sound_fun (F := F27) (envOK ⟨s116, trivial⟩ trivial trivial trivial) Tryz.func27 (by kernel_rfl) (fun a o h => (e27 a).trans h)
def F12 : FEnv := ⟨⟨TYS, [(59, pf59), (60, pf60), (61, pf61), (62, pf62), (27, pf27)], EQS, [], [], false, []⟩, []⟩
def pf12 : PF := ⟨[(.rd, q6)], [q2], .uniq, laws_toRep⟩
theorem e12 (a : argT [(.rd, q6)]) : evFun F12 Tryz.f12 [(.rd, q6)] [q2] .uniq a = laws_toRep a := by kernel_rfl
theorem s12 : Sound Tryz.prog GLB 12 pf12 := sound_fun (F := F12) (envOK ⟨s59, s60, s61, s62, s27, trivial⟩ trivial trivial trivial) Tryz.func12 (by kernel_rfl) (fun a o h => (e12 a).trans h)
def F87 : FEnv := ⟨⟨TYS, [], EQS, [], [], false, []⟩, []⟩
def pf87 : PF := ⟨[(.rd, .i64), (.rd, .i64), (.rd, .i64)], [.bool], .uniq, spec_l1In⟩
theorem e87 (a : argT [(.rd, .i64), (.rd, .i64), (.rd, .i64)]) : evFun F87 Tryz.f87 [(.rd, .i64), (.rd, .i64), (.rd, .i64)] [.bool] .uniq a = spec_l1In a := by kernel_rfl
theorem s87 : Sound Tryz.prog GLB 87 pf87 := sound_fun (F := F87) (envOK trivial trivial trivial trivial) Tryz.func87 (by kernel_rfl) (fun a o h => (e87 a).trans h)
def F156 : FEnv := ⟨⟨TYS, [(87, pf87)], EQS, [], [], false, []⟩, []⟩
def pf156 : PF := ⟨[(.rd, (.pair .i64 .i64))], [.bool], .uniq, spec_ConfOk⟩
theorem e156 (a : argT [(.rd, (.pair .i64 .i64))]) : evFun F156 Tryz.f156 [(.rd, (.pair .i64 .i64))] [.bool] .uniq a = spec_ConfOk a := by kernel_rfl
theorem s156 : Sound Tryz.prog GLB 156 pf156 := sound_fun (F := F156) (envOK ⟨s87, trivial⟩ trivial trivial trivial) Tryz.func156 (by kernel_rfl) (fun a o h => (e156 a).trans h)
def F290 : FEnv := ⟨⟨TYS, [], EQS, [], [], false, []⟩, [(4, [.slot 5 (.sl 9 .str) (.own true), .slot 6 .i64 (.imm false), .slot 7 .i64 (.imm false)])]⟩
def pf290 : PF := ⟨[(.rd, .str), (.rd, .u8)], [(.sl 9 .str)], .uniq, spec_Split⟩
theorem e290 (a : argT [(.rd, .str), (.rd, .u8)]) : evFun F290 Tryz.f290 [(.rd, .str), (.rd, .u8)] [(.sl 9 .str)] .uniq a = spec_Split a := by kernel_rfl
theorem s290 : Sound Tryz.prog GLB 290 pf290 := sound_fun (F := F290) (envOK trivial trivial trivial trivial) Tryz.func290 (by kernel_rfl) (fun a o h => (e290 a).trans h)
def F291 : FEnv := ⟨⟨TYS, [], EQS, [], [], false, []⟩, [(2, [.slot 7 .i64 (.imm false)])]⟩
def pf291 : PF := ⟨[(.rd, .str), (.rd, .u8)], [.str, .str, .bool], .uniq, spec_l2Cut⟩
theorem e291 (a : argT [(.rd, .str), (.rd, .u8)]) : evFun F291 Tryz.f291 [(.rd, .str), (.rd, .u8)] [.str, .str, .bool] .uniq a = spec_l2Cut a := by kernel_rfl
theorem s291 : Sound Tryz.prog GLB 291 pf291 := sound_fun (F := F291) (envOK trivial trivial trivial trivial) Tryz.func291 (by kernel_rfl) (fun a o h => (e291 a).trans h)
def F323 : FEnv := ⟨⟨TYS, [], EQS, [], [], false, []⟩, [(5, [.slot 0 .i64 (.imm false), .slot 4 .str (.imm false)])]⟩
def pf323 : PF := ⟨[(.rd, .i64)], [.str], .uniq, spec_Digits⟩
theorem e323 (a : argT [(.rd, .i64)]) : evFun F323 Tryz.f323 [(.rd, .i64)] [.str] .uniq a = spec_Digits a := by kernel_rfl
theorem s323 : Sound Tryz.prog GLB 323 pf323 := sound_fun (F := F323) (envOK trivial trivial trivial trivial) Tryz.func323 (by kernel_rfl) (fun a o h => (e323 a).trans h)
def F292 : FEnv := ⟨⟨TYS, [(323, pf323)], EQS, [], [], false, []⟩, [(5, [.slot 4 .i64 (.imm false), .slot 5 .i64 (.imm false)])]⟩
def pf292 : PF := ⟨[(.rd, .str)], [.i64, .bool], .uniq, spec_Number⟩
theorem e292 (a : argT [(.rd, .str)]) : evFun F292 Tryz.f292 [(.rd, .str)] [.i64, .bool] .uniq a = spec_Number a := by kernel_rfl
theorem s292 : Sound Tryz.prog GLB 292 pf292 := sound_fun (F := F292) (envOK ⟨s323, trivial⟩ trivial trivial trivial) Tryz.func292 (by kernel_rfl) (fun a o h => (e292 a).trans h)
def F240 : FEnv := ⟨⟨TYS, [(87, pf87)], EQS, [], [], false, []⟩, []⟩
def pf240 : PF := ⟨[(.rd, q4)], [.bool], .uniq, spec_TxOk⟩
theorem e240 (a : argT [(.rd, q4)]) : evFun F240 Tryz.f240 [(.rd, q4)] [.bool] .uniq a = spec_TxOk a := by kernel_rfl
theorem s240 : Sound Tryz.prog GLB 240 pf240 := sound_fun (F := F240) (envOK ⟨s87, trivial⟩ trivial trivial trivial) Tryz.func240 (by kernel_rfl) (fun a o h => (e240 a).trans h)
def F338 : FEnv := ⟨⟨TYS, [(240, pf240), (323, pf323)], EQS, [], [], false, []⟩, []⟩
def pf338 : PF := ⟨[(.rd, q4)], [.str], .uniq, spec_TxText⟩
theorem e338 (a : argT [(.rd, q4)]) : evFun F338 Tryz.f338 [(.rd, q4)] [.str] .uniq a = spec_TxText a := by kernel_rfl
theorem s338 : Sound Tryz.prog GLB 338 pf338 := sound_fun (F := F338) (envOK ⟨s240, s323, trivial⟩ trivial trivial trivial) Tryz.func338 (by kernel_rfl) (fun a o h => (e338 a).trans h)
def F324 : FEnv := ⟨⟨TYS, [(291, pf291), (292, pf292), (338, pf338)], EQS, [], [], false, []⟩, []⟩
def pf324 : PF := ⟨[(.rd, .str)], [q4, .bool], .uniq, spec_TxOf⟩
theorem e324 (a : argT [(.rd, .str)]) : evFun F324 Tryz.f324 [(.rd, .str)] [q4, .bool] .uniq a = spec_TxOf a := by kernel_rfl
theorem s324 : Sound Tryz.prog GLB 324 pf324 := sound_fun (F := F324) (envOK ⟨s291, s292, s338, trivial⟩ trivial trivial trivial) Tryz.func324 (by kernel_rfl) (fun a o h => (e324 a).trans h)
def F293 : FEnv := ⟨⟨TYS, [(290, pf290), (324, pf324)], EQS, [], [], false, []⟩, [(6, [.slot 4 (.sl 105 q4) (.own true), .slot 6 .i64 (.imm false)])]⟩
def pf293 : PF := ⟨[(.rd, .str)], [(.sl 105 q4), .bool], .uniq, spec_TxsOf⟩
theorem e293 (a : argT [(.rd, .str)]) : evFun F293 Tryz.f293 [(.rd, .str)] [(.sl 105 q4), .bool] .uniq a = spec_TxsOf a := by kernel_rfl
theorem s293 : Sound Tryz.prog GLB 293 pf293 := sound_fun (F := F293) (envOK ⟨s290, s324, trivial⟩ trivial trivial trivial) Tryz.func293 (by kernel_rfl) (fun a o h => (e293 a).trans h)
def F236 : FEnv := ⟨⟨TYS, [(290, pf290), (291, pf291), (292, pf292), (293, pf293)], EQS, [], [], false, []⟩, [(10, [.slot 5 (.sl 246 (.pair .i64 (.sl 105 q4))) (.own true), .slot 7 .i64 (.imm false), .slot 8 .i64 (.imm false)])]⟩
def pf236 : PF := ⟨[(.rd, .str)], [(.sl 246 (.pair .i64 (.sl 105 q4))), .bool], .uniq, spec_Steps⟩
theorem e236 (a : argT [(.rd, .str)]) : evFun F236 Tryz.f236 [(.rd, .str)] [(.sl 246 (.pair .i64 (.sl 105 q4))), .bool] .uniq a = spec_Steps a := by kernel_rfl
theorem s236 : Sound Tryz.prog GLB 236 pf236 := sound_fun (F := F236) (envOK ⟨s290, s291, s292, s293, trivial⟩ trivial trivial trivial) Tryz.func236 (by kernel_rfl) (fun a o h => (e236 a).trans h)
def F192 : FEnv := ⟨⟨TYS, [(236, pf236)], EQS, [], [], false, []⟩, []⟩
def pf192 : PF := ⟨[(.rd, .str)], [.bool], .uniq, spec_NameOk⟩
theorem e192 (a : argT [(.rd, .str)]) : evFun F192 Tryz.f192 [(.rd, .str)] [.bool] .uniq a = spec_NameOk a := by kernel_rfl
theorem s192 : Sound Tryz.prog GLB 192 pf192 := sound_fun (F := F192) (envOK ⟨s236, trivial⟩ trivial trivial trivial) Tryz.func192 (by kernel_rfl) (fun a o h => (e192 a).trans h)
def F136 : FEnv := ⟨⟨TYS, [(236, pf236)], EQS, [], [], false, []⟩, []⟩
def pf136 : PF := ⟨[(.rd, .str)], [.i64], .uniq, spec_ViewOf⟩
theorem e136 (a : argT [(.rd, .str)]) : evFun F136 Tryz.f136 [(.rd, .str)] [.i64] .uniq a = spec_ViewOf a := by kernel_rfl
theorem s136 : Sound Tryz.prog GLB 136 pf136 := sound_fun (F := F136) (envOK ⟨s236, trivial⟩ trivial trivial trivial) Tryz.func136 (by kernel_rfl) (fun a o h => (e136 a).trans h)
def F193 : FEnv := ⟨⟨TYS, [], EQS, [], [], false, []⟩, [(2, [.slot 5 .i64 (.imm false)])]⟩
def pf193 : PF := ⟨[(.rd, .i64), (.rd, (.sl 3 .i64))], [.bool], .uniq, spec_SetOk⟩
theorem e193 (a : argT [(.rd, .i64), (.rd, (.sl 3 .i64))]) : evFun F193 Tryz.f193 [(.rd, .i64), (.rd, (.sl 3 .i64))] [.bool] .uniq a = spec_SetOk a := by kernel_rfl
theorem s193 : Sound Tryz.prog GLB 193 pf193 := sound_fun (F := F193) (envOK trivial trivial trivial trivial) Tryz.func193 (by kernel_rfl) (fun a o h => (e193 a).trans h)
def F94 : FEnv := ⟨⟨TYS, [(156, pf156)], EQS, [], [], false, []⟩, []⟩
def pf94 : PF := ⟨[(.rd, (.pair .i64 .i64))], [.i64], .uniq, spec_Quorum⟩
theorem e94 (a : argT [(.rd, (.pair .i64 .i64))]) : evFun F94 Tryz.f94 [(.rd, (.pair .i64 .i64))] [.i64] .uniq a = spec_Quorum a := by kernel_rfl
theorem s94 : Sound Tryz.prog GLB 94 pf94 := sound_fun (F := F94) (envOK ⟨s156, trivial⟩ trivial trivial trivial) Tryz.func94 (by kernel_rfl) (fun a o h => (e94 a).trans h)
def F88 : FEnv := ⟨⟨TYS, [(156, pf156), (192, pf192), (136, pf136), (193, pf193), (94, pf94)], EQS, [], [], false, []⟩, []⟩
def pf88 : PF := ⟨[(.rd, (.pair .i64 .i64)), (.rd, q3)], [.bool], .uniq, spec_QcOk⟩
theorem e88 (a : argT [(.rd, (.pair .i64 .i64)), (.rd, q3)]) : evFun F88 Tryz.f88 [(.rd, (.pair .i64 .i64)), (.rd, q3)] [.bool] .uniq a = spec_QcOk a := by kernel_rfl
theorem s88 : Sound Tryz.prog GLB 88 pf88 := sound_fun (F := F88) (envOK ⟨s156, s192, s136, s193, s94, trivial⟩ trivial trivial trivial) Tryz.func88 (by kernel_rfl) (fun a o h => (e88 a).trans h)
def F157 : FEnv := ⟨⟨TYS, [(87, pf87), (88, pf88), (192, pf192)], EQS, [], [], false, []⟩, []⟩
def pf157 : PF := ⟨[(.rd, (.pair .i64 .i64)), (.rd, q5)], [.bool], .uniq, spec_SafeOk⟩
theorem e157 (a : argT [(.rd, (.pair .i64 .i64)), (.rd, q5)]) : evFun F157 Tryz.f157 [(.rd, (.pair .i64 .i64)), (.rd, q5)] [.bool] .uniq a = spec_SafeOk a := by kernel_rfl
theorem s157 : Sound Tryz.prog GLB 157 pf157 := sound_fun (F := F157) (envOK ⟨s87, s88, s192, trivial⟩ trivial trivial trivial) Tryz.func157 (by kernel_rfl) (fun a o h => (e157 a).trans h)
def F254 : FEnv := ⟨⟨TYS, [], EQS, [], [], false, []⟩, []⟩
def pf254 : PF := ⟨[(.rd, q4), (.rd, q4)], [.bool], .uniq, spec_l4Before⟩
theorem e254 (a : argT [(.rd, q4), (.rd, q4)]) : evFun F254 Tryz.f254 [(.rd, q4), (.rd, q4)] [.bool] .uniq a = spec_l4Before a := by kernel_rfl
theorem s254 : Sound Tryz.prog GLB 254 pf254 := sound_fun (F := F254) (envOK trivial trivial trivial trivial) Tryz.func254 (by kernel_rfl) (fun a o h => (e254 a).trans h)
def F158 : FEnv := ⟨⟨TYS, [(240, pf240), (254, pf254)], EQS, [], [], false, []⟩, [(2, [.slot 3 .i64 (.imm false)])]⟩
def pf158 : PF := ⟨[(.rd, (.sl 105 q4))], [.bool], .uniq, spec_PoolOk⟩
theorem e158 (a : argT [(.rd, (.sl 105 q4))]) : evFun F158 Tryz.f158 [(.rd, (.sl 105 q4))] [.bool] .uniq a = spec_PoolOk a := by kernel_rfl
theorem s158 : Sound Tryz.prog GLB 158 pf158 := sound_fun (F := F158) (envOK ⟨s240, s254, trivial⟩ trivial trivial trivial) Tryz.func158 (by kernel_rfl) (fun a o h => (e158 a).trans h)
def F133 : FEnv := ⟨⟨TYS, [(156, pf156), (87, pf87), (193, pf193), (192, pf192), (136, pf136)], EQS, [], [], false, []⟩, []⟩
def pf133 : PF := ⟨[(.rd, (.pair .i64 .i64)), (.rd, q3)], [.bool], .uniq, spec_PartOk⟩
theorem e133 (a : argT [(.rd, (.pair .i64 .i64)), (.rd, q3)]) : evFun F133 Tryz.f133 [(.rd, (.pair .i64 .i64)), (.rd, q3)] [.bool] .uniq a = spec_PartOk a := by kernel_rfl
theorem s133 : Sound Tryz.prog GLB 133 pf133 := sound_fun (F := F133) (envOK ⟨s156, s87, s193, s192, s136, trivial⟩ trivial trivial trivial) Tryz.func133 (by kernel_rfl) (fun a o h => (e133 a).trans h)
def F202 : FEnv := ⟨⟨TYS, [], EQS, [], [], false, []⟩, []⟩
def pf202 : PF := ⟨[(.rd, q3), (.rd, q3)], [.bool], .uniq, spec_l10Before⟩
theorem e202 (a : argT [(.rd, q3), (.rd, q3)]) : evFun F202 Tryz.f202 [(.rd, q3), (.rd, q3)] [.bool] .uniq a = spec_l10Before a := by kernel_rfl
theorem s202 : Sound Tryz.prog GLB 202 pf202 := sound_fun (F := F202) (envOK trivial trivial trivial trivial) Tryz.func202 (by kernel_rfl) (fun a o h => (e202 a).trans h)
def F159 : FEnv := ⟨⟨TYS, [(133, pf133), (202, pf202)], EQS, [], [], false, []⟩, [(2, [.slot 5 .i64 (.imm false)])]⟩
def pf159 : PF := ⟨[(.rd, (.pair .i64 .i64)), (.rd, (.sl 84 q3))], [.bool], .uniq, spec_TableOk⟩
theorem e159 (a : argT [(.rd, (.pair .i64 .i64)), (.rd, (.sl 84 q3))]) : evFun F159 Tryz.f159 [(.rd, (.pair .i64 .i64)), (.rd, (.sl 84 q3))] [.bool] .uniq a = spec_TableOk a := by kernel_rfl
theorem s159 : Sound Tryz.prog GLB 159 pf159 := sound_fun (F := F159) (envOK ⟨s133, s202, trivial⟩ trivial trivial trivial) Tryz.func159 (by kernel_rfl) (fun a o h => (e159 a).trans h)
def F160 : FEnv := ⟨⟨TYS, [(87, pf87)], EQS, [], [], false, []⟩, []⟩
def pf160 : PF := ⟨[(.rd, q7)], [.bool], .uniq, spec_DiskOk⟩
theorem e160 (a : argT [(.rd, q7)]) : evFun F160 Tryz.f160 [(.rd, q7)] [.bool] .uniq a = spec_DiskOk a := by kernel_rfl
theorem s160 : Sound Tryz.prog GLB 160 pf160 := sound_fun (F := F160) (envOK ⟨s87, trivial⟩ trivial trivial trivial) Tryz.func160 (by kernel_rfl) (fun a o h => (e160 a).trans h)
def F311 : FEnv := ⟨⟨TYS, [], EQS, [], [], false, []⟩, [(2, [.slot 5 .i64 (.imm false)])]⟩
def pf311 : PF := ⟨[(.rd, (.sl 3 .i64)), (.rd, (.sl 3 .i64))], [.bool], .uniq, spec_l7Ints⟩
theorem e311 (a : argT [(.rd, (.sl 3 .i64)), (.rd, (.sl 3 .i64))]) : evFun F311 Tryz.f311 [(.rd, (.sl 3 .i64)), (.rd, (.sl 3 .i64))] [.bool] .uniq a = spec_l7Ints a := by kernel_rfl
theorem s311 : Sound Tryz.prog GLB 311 pf311 := sound_fun (F := F311) (envOK trivial trivial trivial trivial) Tryz.func311 (by kernel_rfl) (fun a o h => (e311 a).trans h)
def F266 : FEnv := ⟨⟨TYS, [(311, pf311)], EQS, [], [], false, []⟩, []⟩
def pf266 : PF := ⟨[(.rd, q3), (.rd, q3)], [.bool], .uniq, spec_QcSame⟩
theorem e266 (a : argT [(.rd, q3), (.rd, q3)]) : evFun F266 Tryz.f266 [(.rd, q3), (.rd, q3)] [.bool] .uniq a = spec_QcSame a := by kernel_rfl
theorem s266 : Sound Tryz.prog GLB 266 pf266 := sound_fun (F := F266) (envOK ⟨s311, trivial⟩ trivial trivial trivial) Tryz.func266 (by kernel_rfl) (fun a o h => (e266 a).trans h)
def F329 : FEnv := ⟨⟨TYS, [(266, pf266)], EQS, [], [], false, []⟩, []⟩
def pf329 : PF := ⟨[(.rd, (.pair .str q3)), (.rd, (.pair .str q3))], [.bool], .uniq, spec_BlockSame⟩
theorem e329 (a : argT [(.rd, (.pair .str q3)), (.rd, (.pair .str q3))]) : evFun F329 Tryz.f329 [(.rd, (.pair .str q3)), (.rd, (.pair .str q3))] [.bool] .uniq a = spec_BlockSame a := by kernel_rfl
theorem s329 : Sound Tryz.prog GLB 329 pf329 := sound_fun (F := F329) (envOK ⟨s266, trivial⟩ trivial trivial trivial) Tryz.func329 (by kernel_rfl) (fun a o h => (e329 a).trans h)
def F330 : FEnv := ⟨⟨TYS, [(311, pf311)], EQS, [], [], false, []⟩, []⟩
def pf330 : PF := ⟨[(.rd, q3), (.rd, q3)], [.bool], .uniq, spec_l14Part⟩
theorem e330 (a : argT [(.rd, q3), (.rd, q3)]) : evFun F330 Tryz.f330 [(.rd, q3), (.rd, q3)] [.bool] .uniq a = spec_l14Part a := by kernel_rfl
theorem s330 : Sound Tryz.prog GLB 330 pf330 := sound_fun (F := F330) (envOK ⟨s311, trivial⟩ trivial trivial trivial) Tryz.func330 (by kernel_rfl) (fun a o h => (e330 a).trans h)
def F298 : FEnv := ⟨⟨TYS, [(329, pf329), (330, pf330), (266, pf266)], EQS, [], [], false, []⟩, []⟩
def pf298 : PF := ⟨[(.rd, q1), (.rd, q1)], [.bool], .uniq, spec_MsgSame⟩
theorem e298 (a : argT [(.rd, q1), (.rd, q1)]) : evFun F298 Tryz.f298 [(.rd, q1), (.rd, q1)] [.bool] .uniq a = spec_MsgSame a := by kernel_rfl
theorem s298 : Sound Tryz.prog GLB 298 pf298 := sound_fun (F := F298) (envOK ⟨s329, s330, s266, trivial⟩ trivial trivial trivial) Tryz.func298 (by kernel_rfl) (fun a o h => (e298 a).trans h)
def F239 : FEnv := ⟨⟨TYS, [(298, pf298)], EQS, [], [], false, []⟩, []⟩
def pf239 : PF := ⟨[(.rd, q1)], [.bool], .uniq, spec_l14Zero⟩
theorem e239 (a : argT [(.rd, q1)]) : evFun F239 Tryz.f239 [(.rd, q1)] [.bool] .uniq a = spec_l14Zero a := by kernel_rfl
theorem s239 : Sound Tryz.prog GLB 239 pf239 := sound_fun (F := F239) (envOK ⟨s298, trivial⟩ trivial trivial trivial) Tryz.func239 (by kernel_rfl) (fun a o h => (e239 a).trans h)
def F95 : FEnv := ⟨⟨TYS, [], EQS, [], [], false, []⟩, []⟩
def pf95 : PF := ⟨[(.rd, .i64), (.rd, .i64)], [.i64], .uniq, spec_l1Max⟩
theorem e95 (a : argT [(.rd, .i64), (.rd, .i64)]) : evFun F95 Tryz.f95 [(.rd, .i64), (.rd, .i64)] [.i64] .uniq a = spec_l1Max a := by kernel_rfl
theorem s95 : Sound Tryz.prog GLB 95 pf95 := sound_fun (F := F95) (envOK trivial trivial trivial trivial) Tryz.func95 (by kernel_rfl) (fun a o h => (e95 a).trans h)
def F198 : FEnv := ⟨⟨TYS, [(192, pf192), (95, pf95)], EQS, [], [], false, []⟩, [(4, [.slot 3 .i64 (.imm false)])]⟩
def pf198 : PF := ⟨[(.rd, .str)], [.str], .uniq, spec_UpOf⟩
theorem e198 (a : argT [(.rd, .str)]) : evFun F198 Tryz.f198 [(.rd, .str)] [.str] .uniq a = spec_UpOf a := by kernel_rfl
theorem s198 : Sound Tryz.prog GLB 198 pf198 := sound_fun (F := F198) (envOK ⟨s192, s95, trivial⟩ trivial trivial trivial) Tryz.func198 (by kernel_rfl) (fun a o h => (e198 a).trans h)
def F135 : FEnv := ⟨⟨TYS, [(88, pf88), (192, pf192), (198, pf198)], EQS, [], [], false, []⟩, []⟩
def pf135 : PF := ⟨[(.rd, (.pair .i64 .i64)), (.rd, (.pair .str q3))], [.bool], .uniq, spec_BlockOk⟩
theorem e135 (a : argT [(.rd, (.pair .i64 .i64)), (.rd, (.pair .str q3))]) : evFun F135 Tryz.f135 [(.rd, (.pair .i64 .i64)), (.rd, (.pair .str q3))] [.bool] .uniq a = spec_BlockOk a := by kernel_rfl
theorem s135 : Sound Tryz.prog GLB 135 pf135 := sound_fun (F := F135) (envOK ⟨s88, s192, s198, trivial⟩ trivial trivial trivial) Tryz.func135 (by kernel_rfl) (fun a o h => (e135 a).trans h)
def F143 : FEnv := ⟨⟨TYS, [(156, pf156), (239, pf239), (135, pf135), (133, pf133), (87, pf87), (88, pf88), (240, pf240)], EQS, [], [], false, []⟩, []⟩
def pf143 : PF := ⟨[(.rd, (.pair .i64 .i64)), (.rd, q1)], [.bool], .uniq, spec_MsgOk⟩
theorem e143 (a : argT [(.rd, (.pair .i64 .i64)), (.rd, q1)]) : evFun F143 Tryz.f143 [(.rd, (.pair .i64 .i64)), (.rd, q1)] [.bool] .uniq a = spec_MsgOk a := by kernel_rfl
theorem s143 : Sound Tryz.prog GLB 143 pf143 := sound_fun (F := F143) (envOK ⟨s156, s239, s135, s133, s87, s88, s240, trivial⟩ trivial trivial trivial) Tryz.func143 (by kernel_rfl) (fun a o h => (e143 a).trans h)
def F56 : FEnv := ⟨⟨TYS, [(156, pf156), (87, pf87), (157, pf157), (158, pf158), (159, pf159), (160, pf160), (143, pf143)], EQS, [], [], false, []⟩, [(4, [.slot 5 .i64 (.imm false)])]⟩
def pf56 : PF := ⟨[(.rd, (.pair .i64 .i64)), (.rd, q2)], [.bool], .uniq, spec_RepOk⟩
theorem e56 (a : argT [(.rd, (.pair .i64 .i64)), (.rd, q2)]) : evFun F56 Tryz.f56 [(.rd, (.pair .i64 .i64)), (.rd, q2)] [.bool] .uniq a = spec_RepOk a := by kernel_rfl
theorem s56 : Sound Tryz.prog GLB 56 pf56 := sound_fun (F := F56) (envOK ⟨s156, s87, s157, s158, s159, s160, s143, trivial⟩ trivial trivial trivial) Tryz.func56 (by kernel_rfl) (fun a o h => (e56 a).trans h)
def F255 : FEnv := ⟨⟨TYS, [], EQS, [], [], false, []⟩, []⟩
def pf255 : PF := ⟨[(.rd, q3)], [q3], .uniq, spec_l7Copy⟩
theorem e255 (a : argT [(.rd, q3)]) : evFun F255 Tryz.f255 [(.rd, q3)] [q3] .uniq a = spec_l7Copy a := by kernel_rfl
theorem s255 : Sound Tryz.prog GLB 255 pf255 := sound_fun (F := F255) (envOK trivial trivial trivial trivial) Tryz.func255 (by kernel_rfl) (fun a o h => (e255 a).trans h)
def F161 : FEnv := ⟨⟨TYS, [(255, pf255)], EQS, [], [], false, []⟩, []⟩
def pf161 : PF := ⟨[(.rd, q5)], [q5], .uniq, spec_l11Copy⟩
theorem e161 (a : argT [(.rd, q5)]) : evFun F161 Tryz.f161 [(.rd, q5)] [q5] .uniq a = spec_l11Copy a := by kernel_rfl
theorem s161 : Sound Tryz.prog GLB 161 pf161 := sound_fun (F := F161) (envOK ⟨s255, trivial⟩ trivial trivial trivial) Tryz.func161 (by kernel_rfl) (fun a o h => (e161 a).trans h)
def F201 : FEnv := ⟨⟨TYS, [], EQS, [], [], false, []⟩, []⟩
def pf201 : PF := ⟨[(.rd, q3)], [q3], .uniq, spec_l10Copy⟩
theorem e201 (a : argT [(.rd, q3)]) : evFun F201 Tryz.f201 [(.rd, q3)] [q3] .uniq a = spec_l10Copy a := by kernel_rfl
theorem s201 : Sound Tryz.prog GLB 201 pf201 := sound_fun (F := F201) (envOK trivial trivial trivial trivial) Tryz.func201 (by kernel_rfl) (fun a o h => (e201 a).trans h)
def F162 : FEnv := ⟨⟨TYS, [(201, pf201)], EQS, [], [], false, []⟩, [(3, [.slot 3 (.sl 84 q3) (.own true), .slot 4 .i64 (.imm false)])]⟩
def pf162 : PF := ⟨[(.rd, (.sl 84 q3))], [(.sl 84 q3)], .uniq, spec_l10Table⟩
theorem e162 (a : argT [(.rd, (.sl 84 q3))]) : evFun F162 Tryz.f162 [(.rd, (.sl 84 q3))] [(.sl 84 q3)] .uniq a = spec_l10Table a := by kernel_rfl
theorem s162 : Sound Tryz.prog GLB 162 pf162 := sound_fun (F := F162) (envOK ⟨s201, trivial⟩ trivial trivial trivial) Tryz.func162 (by kernel_rfl) (fun a o h => (e162 a).trans h)
def F163 : FEnv := ⟨⟨TYS, [], EQS, [], [], false, []⟩, []⟩
def pf163 : PF := ⟨[(.rd, q7)], [q7], .uniq, spec_l13Copy⟩
theorem e163 (a : argT [(.rd, q7)]) : evFun F163 Tryz.f163 [(.rd, q7)] [q7] .uniq a = spec_l13Copy a := by kernel_rfl
theorem s163 : Sound Tryz.prog GLB 163 pf163 := sound_fun (F := F163) (envOK trivial trivial trivial trivial) Tryz.func163 (by kernel_rfl) (fun a o h => (e163 a).trans h)
def F309 : FEnv := ⟨⟨TYS, [(255, pf255)], EQS, [], [], false, []⟩, []⟩
def pf309 : PF := ⟨[(.rd, (.pair .str q3))], [(.pair .str q3)], .uniq, spec_l8Copy⟩
theorem e309 (a : argT [(.rd, (.pair .str q3))]) : evFun F309 Tryz.f309 [(.rd, (.pair .str q3))] [(.pair .str q3)] .uniq a = spec_l8Copy a := by kernel_rfl
theorem s309 : Sound Tryz.prog GLB 309 pf309 := sound_fun (F := F309) (envOK ⟨s255, trivial⟩ trivial trivial trivial) Tryz.func309 (by kernel_rfl) (fun a o h => (e309 a).trans h)
def F256 : FEnv := ⟨⟨TYS, [(309, pf309), (201, pf201), (255, pf255)], EQS, [], [], false, []⟩, []⟩
def pf256 : PF := ⟨[(.rd, q1)], [q1], .uniq, spec_l14Copy⟩
theorem e256 (a : argT [(.rd, q1)]) : evFun F256 Tryz.f256 [(.rd, q1)] [q1] .uniq a = spec_l14Copy a := by kernel_rfl
theorem s256 : Sound Tryz.prog GLB 256 pf256 := sound_fun (F := F256) (envOK ⟨s309, s201, s255, trivial⟩ trivial trivial trivial) Tryz.func256 (by kernel_rfl) (fun a o h => (e256 a).trans h)
def F164 : FEnv := ⟨⟨TYS, [(256, pf256)], EQS, [], [], false, []⟩, [(3, [.slot 3 q8 (.own true), .slot 4 .i64 (.imm false)])]⟩
def pf164 : PF := ⟨[(.rd, q8)], [q8], .uniq, spec_l15Posts⟩
theorem e164 (a : argT [(.rd, q8)]) : evFun F164 Tryz.f164 [(.rd, q8)] [q8] .uniq a = spec_l15Posts a := by kernel_rfl
theorem s164 : Sound Tryz.prog GLB 164 pf164 := sound_fun (F := F164) (envOK ⟨s256, trivial⟩ trivial trivial trivial) Tryz.func164 (by kernel_rfl) (fun a o h => (e164 a).trans h)
def F57 : FEnv := ⟨⟨TYS, [(161, pf161), (162, pf162), (163, pf163), (164, pf164)], EQS, [], [], false, []⟩, []⟩
def pf57 : PF := ⟨[(.rd, q2)], [q2], .uniq, spec_l15Copy⟩
theorem e57 (a : argT [(.rd, q2)]) : evFun F57 Tryz.f57 [(.rd, q2)] [q2] .uniq a = spec_l15Copy a := by kernel_rfl
theorem s57 : Sound Tryz.prog GLB 57 pf57 := sound_fun (F := F57) (envOK ⟨s161, s162, s163, s164, trivial⟩ trivial trivial trivial) Tryz.func57 (by kernel_rfl) (fun a o h => (e57 a).trans h)
def F93 : FEnv := ⟨⟨TYS, [(201, pf201)], EQS, [], [], false, []⟩, [(2, [.slot 7 .i64 (.imm false), .box 1 q3 (.own true)])]⟩
def pf93 : PF := ⟨[(.rd, (.sl 84 q3)), (.rd, .i64), (.rd, .str)], [q3], .uniq, spec_TableGet⟩
theorem e93 (a : argT [(.rd, (.sl 84 q3)), (.rd, .i64), (.rd, .str)]) : evFun F93 Tryz.f93 [(.rd, (.sl 84 q3)), (.rd, .i64), (.rd, .str)] [q3] .uniq a = spec_TableGet a := by kernel_rfl
theorem s93 : Sound Tryz.prog GLB 93 pf93 := sound_fun (F := F93) (envOK ⟨s201, trivial⟩ trivial trivial trivial) Tryz.func93 (by kernel_rfl) (fun a o h => (e93 a).trans h)
def F91 : FEnv := ⟨⟨TYS, [(156, pf156)], EQS, [], [], false, []⟩, []⟩
def pf91 : PF := ⟨[(.rd, (.pair .i64 .i64)), (.rd, .i64)], [.i64], .uniq, spec_Root⟩
theorem e91 (a : argT [(.rd, (.pair .i64 .i64)), (.rd, .i64)]) : evFun F91 Tryz.f91 [(.rd, (.pair .i64 .i64)), (.rd, .i64)] [.i64] .uniq a = spec_Root a := by kernel_rfl
theorem s91 : Sound Tryz.prog GLB 91 pf91 := sound_fun (F := F91) (envOK ⟨s156, trivial⟩ trivial trivial trivial) Tryz.func91 (by kernel_rfl) (fun a o h => (e91 a).trans h)
def F257 : FEnv := ⟨⟨TYS, [(88, pf88)], EQS, [], [], false, []⟩, []⟩
def pf257 : PF := ⟨[(.rd, (.pair .i64 .i64)), (.rd, q3)], [q3, .bool], .uniq, spec_PartQc⟩
theorem e257 (a : argT [(.rd, (.pair .i64 .i64)), (.rd, q3)]) : evFun F257 Tryz.f257 [(.rd, (.pair .i64 .i64)), (.rd, q3)] [q3, .bool] .uniq a = spec_PartQc a := by kernel_rfl
theorem s257 : Sound Tryz.prog GLB 257 pf257 := sound_fun (F := F257) (envOK ⟨s88, trivial⟩ trivial trivial trivial) Tryz.func257 (by kernel_rfl) (fun a o h => (e257 a).trans h)
def F197 : FEnv := ⟨⟨TYS, [(255, pf255)], EQS, [], [], false, []⟩, []⟩
def pf197 : PF := ⟨[(.rd, q3), (.rd, q3)], [q3], .uniq, spec_QcLater⟩
theorem e197 (a : argT [(.rd, q3), (.rd, q3)]) : evFun F197 Tryz.f197 [(.rd, q3), (.rd, q3)] [q3] .uniq a = spec_QcLater a := by kernel_rfl
theorem s197 : Sound Tryz.prog GLB 197 pf197 := sound_fun (F := F197) (envOK ⟨s255, trivial⟩ trivial trivial trivial) Tryz.func197 (by kernel_rfl) (fun a o h => (e197 a).trans h)
def F199 : FEnv := ⟨⟨TYS, [(236, pf236), (198, pf198)], EQS, [], [], false, []⟩, []⟩
def pf199 : PF := ⟨[(.rd, .str)], [.str, .bool], .uniq, spec_Settles⟩
theorem e199 (a : argT [(.rd, .str)]) : evFun F199 Tryz.f199 [(.rd, .str)] [.str, .bool] .uniq a = spec_Settles a := by kernel_rfl
theorem s199 : Sound Tryz.prog GLB 199 pf199 := sound_fun (F := F199) (envOK ⟨s236, s198, trivial⟩ trivial trivial trivial) Tryz.func199 (by kernel_rfl) (fun a o h => (e199 a).trans h)
def F200 : FEnv := ⟨⟨TYS, [(192, pf192)], EQS, [], [], false, []⟩, []⟩
def pf200 : PF := ⟨[(.rd, .str), (.rd, .str)], [.bool], .uniq, spec_Extends⟩
theorem e200 (a : argT [(.rd, .str), (.rd, .str)]) : evFun F200 Tryz.f200 [(.rd, .str), (.rd, .str)] [.bool] .uniq a = spec_Extends a := by kernel_rfl
theorem s200 : Sound Tryz.prog GLB 200 pf200 := sound_fun (F := F200) (envOK ⟨s192, trivial⟩ trivial trivial trivial) Tryz.func200 (by kernel_rfl) (fun a o h => (e200 a).trans h)
def F90 : FEnv := ⟨⟨TYS, [(161, pf161), (157, pf157), (88, pf88), (197, pf197), (198, pf198), (136, pf136), (95, pf95), (199, pf199), (200, pf200)], EQS, [], [], false, []⟩, []⟩
def pf90 : PF := ⟨[(.rd, (.pair .i64 .i64)), (.rd, q5), (.rd, q3)], [q5], .uniq, spec_See⟩
theorem e90 (a : argT [(.rd, (.pair .i64 .i64)), (.rd, q5), (.rd, q3)]) : evFun F90 Tryz.f90 [(.rd, (.pair .i64 .i64)), (.rd, q5), (.rd, q3)] [q5] .uniq a = spec_See a := by kernel_rfl
theorem s90 : Sound Tryz.prog GLB 90 pf90 := sound_fun (F := F90) (envOK ⟨s161, s157, s88, s197, s198, s136, s95, s199, s200, trivial⟩ trivial trivial trivial) Tryz.func90 (by kernel_rfl) (fun a o h => (e90 a).trans h)
def F194 : FEnv := ⟨⟨TYS, [(266, pf266)], EQS, [], [], false, []⟩, []⟩
def pf194 : PF := ⟨[(.rd, q5), (.rd, q5)], [.bool], .uniq, spec_SafeSame⟩
theorem e194 (a : argT [(.rd, q5), (.rd, q5)]) : evFun F194 Tryz.f194 [(.rd, q5), (.rd, q5)] [.bool] .uniq a = spec_SafeSame a := by kernel_rfl
theorem s194 : Sound Tryz.prog GLB 194 pf194 := sound_fun (F := F194) (envOK ⟨s266, trivial⟩ trivial trivial trivial) Tryz.func194 (by kernel_rfl) (fun a o h => (e194 a).trans h)
def F268 : FEnv := ⟨⟨TYS, [(87, pf87)], EQS, [], [], false, []⟩, [(4, [.slot 0 .i64 (.imm false), .slot 3 (.sl 5 .u8) (.own true)])]⟩
def pf268 : PF := ⟨[(.rd, .i64)], [(.sl 5 .u8)], .uniq, spec_PutNum⟩
theorem e268 (a : argT [(.rd, .i64)]) : evFun F268 Tryz.f268 [(.rd, .i64)] [(.sl 5 .u8)] .uniq a = spec_PutNum a := by kernel_rfl
theorem s268 : Sound Tryz.prog GLB 268 pf268 := sound_fun (F := F268) (envOK ⟨s87, trivial⟩ trivial trivial trivial) Tryz.func268 (by kernel_rfl) (fun a o h => (e268 a).trans h)
def F283 : FEnv := ⟨⟨TYS, [(268, pf268)], EQS, [], [], false, []⟩, []⟩
def pf283 : PF := ⟨[(.rd, .str)], [(.sl 5 .u8)], .uniq, spec_PutText⟩
theorem e283 (a : argT [(.rd, .str)]) : evFun F283 Tryz.f283 [(.rd, .str)] [(.sl 5 .u8)] .uniq a = spec_PutText a := by kernel_rfl
theorem s283 : Sound Tryz.prog GLB 283 pf283 := sound_fun (F := F283) (envOK ⟨s268, trivial⟩ trivial trivial trivial) Tryz.func283 (by kernel_rfl) (fun a o h => (e283 a).trans h)
def F284 : FEnv := ⟨⟨TYS, [(88, pf88), (268, pf268), (283, pf283)], EQS, [], [], false, []⟩, [(6, [.slot 5 (.sl 5 .u8) (.own true), .slot 6 .i64 (.imm false)])]⟩
def pf284 : PF := ⟨[(.rd, (.pair .i64 .i64)), (.rd, q3)], [(.sl 5 .u8)], .uniq, spec_QcBytes⟩
theorem e284 (a : argT [(.rd, (.pair .i64 .i64)), (.rd, q3)]) : evFun F284 Tryz.f284 [(.rd, (.pair .i64 .i64)), (.rd, q3)] [(.sl 5 .u8)] .uniq a = spec_QcBytes a := by kernel_rfl
theorem s284 : Sound Tryz.prog GLB 284 pf284 := sound_fun (F := F284) (envOK ⟨s88, s268, s283, trivial⟩ trivial trivial trivial) Tryz.func284 (by kernel_rfl) (fun a o h => (e284 a).trans h)
def F267 : FEnv := ⟨⟨TYS, [(157, pf157), (268, pf268), (284, pf284), (283, pf283)], EQS, [], [], false, []⟩, []⟩
def pf267 : PF := ⟨[(.rd, (.pair .i64 .i64)), (.rd, q5)], [(.sl 5 .u8)], .uniq, spec_SafeBytes⟩
theorem e267 (a : argT [(.rd, (.pair .i64 .i64)), (.rd, q5)]) : evFun F267 Tryz.f267 [(.rd, (.pair .i64 .i64)), (.rd, q5)] [(.sl 5 .u8)] .uniq a = spec_SafeBytes a := by kernel_rfl
theorem s267 : Sound Tryz.prog GLB 267 pf267 := sound_fun (F := F267) (envOK ⟨s157, s268, s284, s283, trivial⟩ trivial trivial trivial) Tryz.func267 (by kernel_rfl) (fun a o h => (e267 a).trans h)
def F196 : FEnv := ⟨⟨TYS, [(267, pf267), (268, pf268)], EQS, [], [], false, []⟩, []⟩
def pf196 : PF := ⟨[(.rd, (.pair .i64 .i64)), (.rd, q5)], [(.sl 5 .u8)], .uniq, spec_NoteBytes⟩
theorem e196 (a : argT [(.rd, (.pair .i64 .i64)), (.rd, q5)]) : evFun F196 Tryz.f196 [(.rd, (.pair .i64 .i64)), (.rd, q5)] [(.sl 5 .u8)] .uniq a = spec_NoteBytes a := by kernel_rfl
theorem s196 : Sound Tryz.prog GLB 196 pf196 := sound_fun (F := F196) (envOK ⟨s267, s268, trivial⟩ trivial trivial trivial) Tryz.func196 (by kernel_rfl) (fun a o h => (e196 a).trans h)
def F195 : FEnv := ⟨⟨TYS, [(163, pf163), (160, pf160)], EQS, [], [], false, []⟩, []⟩
def pf195 : PF := ⟨[(.rd, q7), (.rd, (.sl 5 .u8))], [q7, .bool], .uniq, spec_Append⟩
theorem e195 (a : argT [(.rd, q7), (.rd, (.sl 5 .u8))]) : evFun F195 Tryz.f195 [(.rd, q7), (.rd, (.sl 5 .u8))] [q7, .bool] .uniq a = spec_Append a := by kernel_rfl
theorem s195 : Sound Tryz.prog GLB 195 pf195 := sound_fun (F := F195) (envOK ⟨s163, s160, trivial⟩ trivial trivial trivial) Tryz.func195 (by kernel_rfl) (fun a o h => (e195 a).trans h)
def F89 : FEnv := ⟨⟨TYS, [(194, pf194), (196, pf196), (195, pf195), (157, pf157), (161, pf161)], EQS, [], [], false, []⟩, []⟩
def pf89 : PF := ⟨[(.rd, (.pair .i64 .i64)), (.own, q2), (.rd, q5)], [q2, .bool], .own, spec_l15Write⟩
theorem e89 (a : argT [(.rd, (.pair .i64 .i64)), (.own, q2), (.rd, q5)]) : evFunC F89 Tryz.f89 [(.rd, (.pair .i64 .i64)), (.own, q2), (.rd, q5)] [q2, .bool] .own a = spec_l15Write a := by kernel_rfl
theorem s89 : SoundC Tryz.prog GLB 89 pf89 := sound_funC (F := F89) (envOK ⟨s194, s196, s195, s157, s161, trivial⟩ trivial trivial trivial) Tryz.func89 (by kernel_rfl) (by rfl) (fun a o h => (e89 a).trans h)
def F168 : FEnv := ⟨⟨TYS, [(143, pf143), (87, pf87), (256, pf256)], EQS, [], [], false, []⟩, []⟩
def pf168 : PF := ⟨[(.rd, (.pair .i64 .i64)), (.own, q2), (.rd, .i64), (.rd, q1)], [q2, .bool], .own, spec_l16Tell⟩
theorem e168 (a : argT [(.rd, (.pair .i64 .i64)), (.own, q2), (.rd, .i64), (.rd, q1)]) : evFun F168 Tryz.f168 [(.rd, (.pair .i64 .i64)), (.own, q2), (.rd, .i64), (.rd, q1)] [q2, .bool] .own a = spec_l16Tell a := by kernel_rfl
theorem s168 : Sound Tryz.prog GLB 168 pf168 := sound_fun (F := F168) (envOK ⟨s143, s87, s256, trivial⟩ trivial trivial trivial) Tryz.func168 (by kernel_rfl) (fun a o h => (e168 a).trans h)
def F165 : FEnv := ⟨⟨TYS, [(257, pf257), (90, pf90), (95, pf95), (91, pf91), (168, pf168)], EQS, [], [], false, [(89, pf89)]⟩, []⟩
def pf165 : PF := ⟨[(.rd, (.pair .i64 .i64)), (.own, q2), (.rd, q3)], [q2, .bool], .own, spec_l16Top⟩
theorem e165 (a : argT [(.rd, (.pair .i64 .i64)), (.own, q2), (.rd, q3)]) : evFun F165 Tryz.f165 [(.rd, (.pair .i64 .i64)), (.own, q2), (.rd, q3)] [q2, .bool] .own a = spec_l16Top a := by kernel_rfl
theorem s165 : Sound Tryz.prog GLB 165 pf165 := sound_fun (F := F165) (envOK ⟨s257, s90, s95, s91, s168, trivial⟩ trivial trivial s89) Tryz.func165 (by kernel_rfl) (fun a o h => (e165 a).trans h)
def F258 : FEnv := ⟨⟨TYS, [(156, pf156), (87, pf87)], EQS, [], [], false, []⟩, []⟩
def pf258 : PF := ⟨[(.rd, (.pair .i64 .i64)), (.rd, .i64), (.rd, .i64)], [.i64], .uniq, spec_Seat⟩
theorem e258 (a : argT [(.rd, (.pair .i64 .i64)), (.rd, .i64), (.rd, .i64)]) : evFun F258 Tryz.f258 [(.rd, (.pair .i64 .i64)), (.rd, .i64), (.rd, .i64)] [.i64] .uniq a = spec_Seat a := by kernel_rfl
theorem s258 : Sound Tryz.prog GLB 258 pf258 := sound_fun (F := F258) (envOK ⟨s156, s87, trivial⟩ trivial trivial trivial) Tryz.func258 (by kernel_rfl) (fun a o h => (e258 a).trans h)
def F262 : FEnv := ⟨⟨TYS, [(156, pf156), (87, pf87)], EQS, [], [], false, []⟩, []⟩
def pf262 : PF := ⟨[(.rd, (.pair .i64 .i64)), (.rd, .i64), (.rd, .i64)], [.i64], .uniq, spec_Sits⟩
theorem e262 (a : argT [(.rd, (.pair .i64 .i64)), (.rd, .i64), (.rd, .i64)]) : evFun F262 Tryz.f262 [(.rd, (.pair .i64 .i64)), (.rd, .i64), (.rd, .i64)] [.i64] .uniq a = spec_Sits a := by kernel_rfl
theorem s262 : Sound Tryz.prog GLB 262 pf262 := sound_fun (F := F262) (envOK ⟨s156, s87, trivial⟩ trivial trivial trivial) Tryz.func262 (by kernel_rfl) (fun a o h => (e262 a).trans h)
def F169 : FEnv := ⟨⟨TYS, [(258, pf258), (262, pf262)], EQS, [], [], false, []⟩, []⟩
def pf169 : PF := ⟨[(.rd, (.pair .i64 .i64)), (.rd, .i64), (.rd, .i64)], [.i64], .uniq, spec_Up⟩
theorem e169 (a : argT [(.rd, (.pair .i64 .i64)), (.rd, .i64), (.rd, .i64)]) : evFun F169 Tryz.f169 [(.rd, (.pair .i64 .i64)), (.rd, .i64), (.rd, .i64)] [.i64] .uniq a = spec_Up a := by kernel_rfl
theorem s169 : Sound Tryz.prog GLB 169 pf169 := sound_fun (F := F169) (envOK ⟨s258, s262, trivial⟩ trivial trivial trivial) Tryz.func169 (by kernel_rfl) (fun a o h => (e169 a).trans h)
def F260 : FEnv := ⟨⟨TYS, [(258, pf258), (169, pf169)], EQS, [], [], false, []⟩, [(2, [.slot 2 .i64 (.imm false), .slot 7 (.sl 3 .i64) (.own true)])]⟩
def pf260 : PF := ⟨[(.rd, (.pair .i64 .i64)), (.rd, .i64), (.rd, .i64)], [(.sl 3 .i64)], .uniq, spec_Way⟩
theorem e260 (a : argT [(.rd, (.pair .i64 .i64)), (.rd, .i64), (.rd, .i64)]) : evFun F260 Tryz.f260 [(.rd, (.pair .i64 .i64)), (.rd, .i64), (.rd, .i64)] [(.sl 3 .i64)] .uniq a = spec_Way a := by kernel_rfl
theorem s260 : Sound Tryz.prog GLB 260 pf260 := sound_fun (F := F260) (envOK ⟨s258, s169, trivial⟩ trivial trivial trivial) Tryz.func260 (by kernel_rfl) (fun a o h => (e260 a).trans h)
def F259 : FEnv := ⟨⟨TYS, [], EQS, [], [], false, []⟩, [(2, [.slot 5 .i64 (.imm false)])]⟩
def pf259 : PF := ⟨[(.rd, (.sl 3 .i64)), (.rd, .i64)], [.bool], .uniq, spec_SetHas⟩
theorem e259 (a : argT [(.rd, (.sl 3 .i64)), (.rd, .i64)]) : evFun F259 Tryz.f259 [(.rd, (.sl 3 .i64)), (.rd, .i64)] [.bool] .uniq a = spec_SetHas a := by kernel_rfl
theorem s259 : Sound Tryz.prog GLB 259 pf259 := sound_fun (F := F259) (envOK trivial trivial trivial trivial) Tryz.func259 (by kernel_rfl) (fun a o h => (e259 a).trans h)
def F166 : FEnv := ⟨⟨TYS, [(156, pf156), (258, pf258), (260, pf260), (259, pf259)], EQS, [], [], false, []⟩, [(5, [.slot 7 (.sl 3 .i64) (.own true), .slot 8 .i64 (.imm false)])]⟩
def pf166 : PF := ⟨[(.rd, (.pair .i64 .i64)), (.rd, .i64), (.rd, .i64)], [(.sl 3 .i64)], .uniq, spec_Under⟩
theorem e166 (a : argT [(.rd, (.pair .i64 .i64)), (.rd, .i64), (.rd, .i64)]) : evFun F166 Tryz.f166 [(.rd, (.pair .i64 .i64)), (.rd, .i64), (.rd, .i64)] [(.sl 3 .i64)] .uniq a = spec_Under a := by kernel_rfl
theorem s166 : Sound Tryz.prog GLB 166 pf166 := sound_fun (F := F166) (envOK ⟨s156, s258, s260, s259, trivial⟩ trivial trivial trivial) Tryz.func166 (by kernel_rfl) (fun a o h => (e166 a).trans h)
def F261 : FEnv := ⟨⟨TYS, [], EQS, [], [], false, []⟩, []⟩
def pf261 : PF := ⟨[(.rd, .bool)], [.i64], .uniq, spec_l1Bit⟩
theorem e261 (a : argT [(.rd, .bool)]) : evFun F261 Tryz.f261 [(.rd, .bool)] [.i64] .uniq a = spec_l1Bit a := by kernel_rfl
theorem s261 : Sound Tryz.prog GLB 261 pf261 := sound_fun (F := F261) (envOK trivial trivial trivial trivial) Tryz.func261 (by kernel_rfl) (fun a o h => (e261 a).trans h)
def F167 : FEnv := ⟨⟨TYS, [(259, pf259), (261, pf261)], EQS, [], [], false, []⟩, [(3, [.slot 5 .i64 (.imm false), .slot 6 .i64 (.imm false)])]⟩
def pf167 : PF := ⟨[(.rd, (.sl 3 .i64)), (.rd, (.sl 3 .i64))], [.i64], .uniq, spec_Common⟩
theorem e167 (a : argT [(.rd, (.sl 3 .i64)), (.rd, (.sl 3 .i64))]) : evFun F167 Tryz.f167 [(.rd, (.sl 3 .i64)), (.rd, (.sl 3 .i64))] [.i64] .uniq a = spec_Common a := by kernel_rfl
theorem s167 : Sound Tryz.prog GLB 167 pf167 := sound_fun (F := F167) (envOK ⟨s259, s261, trivial⟩ trivial trivial trivial) Tryz.func167 (by kernel_rfl) (fun a o h => (e167 a).trans h)
def F58 : FEnv := ⟨⟨TYS, [(93, pf93), (91, pf91), (165, pf165), (166, pf166), (167, pf167), (169, pf169), (168, pf168)], EQS, [], [], false, []⟩, []⟩
def pf58 : PF := ⟨[(.rd, (.pair .i64 .i64)), (.own, q2), (.rd, .i64), (.rd, .str), (.rd, .bool)], [q2, .bool], .own, spec_l16Climb⟩
theorem e58 (a : argT [(.rd, (.pair .i64 .i64)), (.own, q2), (.rd, .i64), (.rd, .str), (.rd, .bool)]) : evFun F58 Tryz.f58 [(.rd, (.pair .i64 .i64)), (.own, q2), (.rd, .i64), (.rd, .str), (.rd, .bool)] [q2, .bool] .own a = spec_l16Climb a := by kernel_rfl
theorem s58 : Sound Tryz.prog GLB 58 pf58 := sound_fun (F := F58) (envOK ⟨s93, s91, s165, s166, s167, s169, s168, trivial⟩ trivial trivial trivial) Tryz.func58 (by kernel_rfl) (fun a o h => (e58 a).trans h)
def F10 : FEnv := ⟨⟨TYS, [(56, pf56), (57, pf57), (58, pf58)], EQS, [], [], false, []⟩, []⟩
def pf10 : PF := ⟨[(.rd, (.pair .i64 .i64)), (.rd, q2), (.rd, .i64), (.rd, .str), (.rd, .bool)], [q2, .bool], .own, spec_Climb⟩
theorem e10 (a : argT [(.rd, (.pair .i64 .i64)), (.rd, q2), (.rd, .i64), (.rd, .str), (.rd, .bool)]) : evFun F10 Tryz.f10 [(.rd, (.pair .i64 .i64)), (.rd, q2), (.rd, .i64), (.rd, .str), (.rd, .bool)] [q2, .bool] .own a = spec_Climb a := by kernel_rfl
theorem s10 : Sound Tryz.prog GLB 10 pf10 := sound_fun (F := F10) (envOK ⟨s56, s57, s58, trivial⟩ trivial trivial trivial) Tryz.func10 (by kernel_rfl) (fun a o h => (e10 a).trans h)
def F226 : FEnv := ⟨⟨TYS, [], EQS, [], [], false, []⟩, []⟩
def pf226 : PF := ⟨[(.rd, (.sl 3 .i64))], [(.sl 3 .i64)], .uniq, impl_copyInts⟩
theorem e226 (a : argT [(.rd, (.sl 3 .i64))]) : evFun F226 Tryz.f226 [(.rd, (.sl 3 .i64))] [(.sl 3 .i64)] .uniq a = impl_copyInts a := by kernel_rfl
theorem s226 : Sound Tryz.prog GLB 226 pf226 := sound_fun (F := F226) (envOK trivial trivial trivial trivial) Tryz.func226 (by kernel_rfl) (fun a o h => (e226 a).trans h)
def F171 : FEnv := ⟨⟨TYS, [(226, pf226)], EQS, [], [], false, []⟩, []⟩
def pf171 : PF := ⟨[(.rd, q3)], [q3], .uniq, impl_copyPart⟩
theorem e171 (a : argT [(.rd, q3)]) : evFun F171 Tryz.f171 [(.rd, q3)] [q3] .uniq a = impl_copyPart a := by kernel_rfl
theorem s171 : Sound Tryz.prog GLB 171 pf171 := sound_fun (F := F171) (envOK ⟨s226, trivial⟩ trivial trivial trivial) Tryz.func171 (by kernel_rfl) (fun a o h => (e171 a).trans h)
def F63 : FEnv := ⟨⟨TYS, [(171, pf171)], EQS, [], [], false, []⟩, [(2, [.slot 11 .i64 (.imm false), .box 1 q3 (.own true)])]⟩
def pf63 : PF := ⟨[(.rd, (.sl 84 q3)), (.rd, .i64), (.rd, .str)], [q3], .uniq, impl_TableGet⟩
theorem e63 (a : argT [(.rd, (.sl 84 q3)), (.rd, .i64), (.rd, .str)]) : evFun F63 Tryz.f63 [(.rd, (.sl 84 q3)), (.rd, .i64), (.rd, .str)] [q3] .uniq a = impl_TableGet a := by kernel_rfl
theorem s63 : Sound Tryz.prog GLB 63 pf63 := sound_fun (F := F63) (envOK ⟨s171, trivial⟩ trivial trivial trivial) Tryz.func63 (by kernel_rfl) (fun a o h => (e63 a).trans h)
def F98 : FEnv := ⟨⟨TYS, [], EQS, [], [], false, []⟩, []⟩
def pf98 : PF := ⟨[(.rd, .i64), (.rd, .i64), (.rd, .i64)], [.bool], .uniq, impl_within⟩
theorem e98 (a : argT [(.rd, .i64), (.rd, .i64), (.rd, .i64)]) : evFun F98 Tryz.f98 [(.rd, .i64), (.rd, .i64), (.rd, .i64)] [.bool] .uniq a = impl_within a := by kernel_rfl
theorem s98 : Sound Tryz.prog GLB 98 pf98 := sound_fun (F := F98) (envOK trivial trivial trivial trivial) Tryz.func98 (by kernel_rfl) (fun a o h => (e98 a).trans h)
def F172 : FEnv := ⟨⟨TYS, [(98, pf98)], EQS, [], [], false, []⟩, []⟩
def pf172 : PF := ⟨[(.rd, (.pair .i64 .i64))], [.bool], .uniq, impl_ConfOk⟩
theorem e172 (a : argT [(.rd, (.pair .i64 .i64))]) : evFun F172 Tryz.f172 [(.rd, (.pair .i64 .i64))] [.bool] .uniq a = impl_ConfOk a := by kernel_rfl
theorem s172 : Sound Tryz.prog GLB 172 pf172 := sound_fun (F := F172) (envOK ⟨s98, trivial⟩ trivial trivial trivial) Tryz.func172 (by kernel_rfl) (fun a o h => (e172 a).trans h)
def F205 : FEnv := ⟨⟨TYS, [], EQS, [], [], false, []⟩, []⟩
def pf205 : PF := ⟨[], [q3], .uniq, impl_QcFirst⟩
theorem e205 (a : argT []) : evFun F205 Tryz.f205 [] [q3] .uniq a = impl_QcFirst a := by kernel_rfl
theorem s205 : Sound Tryz.prog GLB 205 pf205 := sound_fun (F := F205) (envOK trivial trivial trivial trivial) Tryz.func205 (by kernel_rfl) (fun a o h => (e205 a).trans h)
def F270 : FEnv := ⟨⟨TYS, [], EQS, [], [], false, []⟩, [(4, [.slot 13 .i64 (.imm false)])]⟩
def pf270 : PF := ⟨[(.rd, (.sl 3 .i64)), (.rd, (.sl 3 .i64))], [.bool], .uniq, slices_Equal_int⟩
theorem e270 (a : argT [(.rd, (.sl 3 .i64)), (.rd, (.sl 3 .i64))]) : evFun F270 Tryz.f270 [(.rd, (.sl 3 .i64)), (.rd, (.sl 3 .i64))] [.bool] .uniq a = slices_Equal_int a := by kernel_rfl
theorem s270 : Sound Tryz.prog GLB 270 pf270 := sound_fun (F := F270) (envOK trivial trivial trivial trivial) Tryz.func270 (by kernel_rfl) (fun a o h => (e270 a).trans h)
def F204 : FEnv := ⟨⟨TYS, [(270, pf270)], EQS, [], [], false, []⟩, []⟩
def pf204 : PF := ⟨[(.rd, q3), (.rd, q3)], [.bool], .uniq, impl_QcSame⟩
theorem e204 (a : argT [(.rd, q3), (.rd, q3)]) : evFun F204 Tryz.f204 [(.rd, q3), (.rd, q3)] [.bool] .uniq a = impl_QcSame a := by kernel_rfl
theorem s204 : Sound Tryz.prog GLB 204 pf204 := sound_fun (F := F204) (envOK ⟨s270, trivial⟩ trivial trivial trivial) Tryz.func204 (by kernel_rfl) (fun a o h => (e204 a).trans h)
def F294 : FEnv := ⟨⟨TYS, [(325, pf325)], EQS, [], [], false, []⟩, []⟩
def pf294 : PF := ⟨[(.rd, .str), (.rd, .u8)], [(.sl 9 .str)], .uniq, impl_Split⟩
theorem e294 (a : argT [(.rd, .str), (.rd, .u8)]) : evFun F294 Tryz.f294 [(.rd, .str), (.rd, .u8)] [(.sl 9 .str)] .uniq a = impl_Split a := by kernel_rfl
theorem s294 : Sound Tryz.prog GLB 294 pf294 := sound_fun (F := F294) (envOK ⟨s325, trivial⟩ trivial trivial trivial) Tryz.func294 (by kernel_rfl) (fun a o h => (e294 a).trans h)
def F327 : FEnv := ⟨⟨TYS, [(341, pf341)], EQS, [], [], false, []⟩, []⟩
def pf327 : PF := ⟨[(.rd, .i64)], [.str], .uniq, impl_Digits⟩
theorem e327 (a : argT [(.rd, .i64)]) : evFun F327 Tryz.f327 [(.rd, .i64)] [.str] .uniq a = impl_Digits a := by kernel_rfl
theorem s327 : Sound Tryz.prog GLB 327 pf327 := sound_fun (F := F327) (envOK ⟨s341, trivial⟩ trivial trivial trivial) Tryz.func327 (by kernel_rfl) (fun a o h => (e327 a).trans h)
def F296 : FEnv := ⟨⟨TYS, [(327, pf327)], EQS, [], [], false, []⟩, [(5, [.slot 4 .i64 (.imm false), .slot 5 .i64 (.imm false)])]⟩
def pf296 : PF := ⟨[(.rd, .str)], [.i64, .bool], .uniq, impl_Number⟩
theorem e296 (a : argT [(.rd, .str)]) : evFun F296 Tryz.f296 [(.rd, .str)] [.i64, .bool] .uniq a = impl_Number a := by kernel_rfl
theorem s296 : Sound Tryz.prog GLB 296 pf296 := sound_fun (F := F296) (envOK ⟨s327, trivial⟩ trivial trivial trivial) Tryz.func296 (by kernel_rfl) (fun a o h => (e296 a).trans h)
def F248 : FEnv := ⟨⟨TYS, [(98, pf98)], EQS, [], [], false, []⟩, []⟩
def pf248 : PF := ⟨[(.rd, q4)], [.bool], .uniq, impl_TxOk⟩
theorem e248 (a : argT [(.rd, q4)]) : evFun F248 Tryz.f248 [(.rd, q4)] [.bool] .uniq a = impl_TxOk a := by kernel_rfl
theorem s248 : Sound Tryz.prog GLB 248 pf248 := sound_fun (F := F248) (envOK ⟨s98, trivial⟩ trivial trivial trivial) Tryz.func248 (by kernel_rfl) (fun a o h => (e248 a).trans h)
def F342 : FEnv := ⟨⟨TYS, [(248, pf248), (327, pf327)], EQS, [], [], false, []⟩, []⟩
def pf342 : PF := ⟨[(.rd, q4)], [.str], .uniq, impl_TxText⟩
theorem e342 (a : argT [(.rd, q4)]) : evFun F342 Tryz.f342 [(.rd, q4)] [.str] .uniq a = impl_TxText a := by kernel_rfl
theorem s342 : Sound Tryz.prog GLB 342 pf342 := sound_fun (F := F342) (envOK ⟨s248, s327, trivial⟩ trivial trivial trivial) Tryz.func342 (by kernel_rfl) (fun a o h => (e342 a).trans h)
def F328 : FEnv := ⟨⟨TYS, [(295, pf295), (296, pf296), (248, pf248), (342, pf342)], EQS, [], [], false, []⟩, [(6, [.slot 40 .i64 (.imm false), .row 1 3 .i64 (.own true)])]⟩
def pf328 : PF := ⟨[(.rd, .str)], [q4, .bool], .uniq, impl_TxOf⟩
theorem e328 (a : argT [(.rd, .str)]) : evFun F328 Tryz.f328 [(.rd, .str)] [q4, .bool] .uniq a = impl_TxOf a := by kernel_rfl
theorem s328 : Sound Tryz.prog GLB 328 pf328 := sound_fun (F := F328) (envOK ⟨s295, s296, s248, s342, trivial⟩ trivial trivial trivial) Tryz.func328 (by kernel_rfl) (fun a o h => (e328 a).trans h)
def F297 : FEnv := ⟨⟨TYS, [(294, pf294), (328, pf328)], EQS, [], [], false, []⟩, [(5, [.slot 4 (.sl 105 q4) (.own true), .slot 14 .i64 (.imm false)])]⟩
def pf297 : PF := ⟨[(.rd, .str)], [(.sl 105 q4), .bool], .uniq, impl_TxsOf⟩
theorem e297 (a : argT [(.rd, .str)]) : evFun F297 Tryz.f297 [(.rd, .str)] [(.sl 105 q4), .bool] .uniq a = impl_TxsOf a := by kernel_rfl
theorem s297 : Sound Tryz.prog GLB 297 pf297 := sound_fun (F := F297) (envOK ⟨s294, s328, trivial⟩ trivial trivial trivial) Tryz.func297 (by kernel_rfl) (fun a o h => (e297 a).trans h)
def F237 : FEnv := ⟨⟨TYS, [(294, pf294), (295, pf295), (296, pf296), (297, pf297), (98, pf98)], EQS, [], [], false, []⟩, [(9, [.slot 5 (.sl 246 (.pair .i64 (.sl 105 q4))) (.own true), .slot 6 .i64 (.imm false), .slot 33 .i64 (.imm false)])]⟩
def pf237 : PF := ⟨[(.rd, .str)], [(.sl 246 (.pair .i64 (.sl 105 q4))), .bool], .uniq, impl_Steps⟩
theorem e237 (a : argT [(.rd, .str)]) : evFun F237 Tryz.f237 [(.rd, .str)] [(.sl 246 (.pair .i64 (.sl 105 q4))), .bool] .uniq a = impl_Steps a := by kernel_rfl
theorem s237 : Sound Tryz.prog GLB 237 pf237 := sound_fun (F := F237) (envOK ⟨s294, s295, s296, s297, s98, trivial⟩ trivial trivial trivial) Tryz.func237 (by kernel_rfl) (fun a o h => (e237 a).trans h)
def F206 : FEnv := ⟨⟨TYS, [(237, pf237)], EQS, [], [], false, []⟩, []⟩
def pf206 : PF := ⟨[(.rd, .str)], [.bool], .uniq, impl_NameOk⟩
theorem e206 (a : argT [(.rd, .str)]) : evFun F206 Tryz.f206 [(.rd, .str)] [.bool] .uniq a = impl_NameOk a := by kernel_rfl
theorem s206 : Sound Tryz.prog GLB 206 pf206 := sound_fun (F := F206) (envOK ⟨s237, trivial⟩ trivial trivial trivial) Tryz.func206 (by kernel_rfl) (fun a o h => (e206 a).trans h)
def F141 : FEnv := ⟨⟨TYS, [(237, pf237)], EQS, [], [], false, []⟩, []⟩
def pf141 : PF := ⟨[(.rd, .str)], [.i64], .uniq, impl_ViewOf⟩
theorem e141 (a : argT [(.rd, .str)]) : evFun F141 Tryz.f141 [(.rd, .str)] [.i64] .uniq a = impl_ViewOf a := by kernel_rfl
theorem s141 : Sound Tryz.prog GLB 141 pf141 := sound_fun (F := F141) (envOK ⟨s237, trivial⟩ trivial trivial trivial) Tryz.func141 (by kernel_rfl) (fun a o h => (e141 a).trans h)
def F207 : FEnv := ⟨⟨TYS, [], EQS, [], [], false, []⟩, [(2, [.slot 9 .i64 (.imm false)])]⟩
def pf207 : PF := ⟨[(.rd, .i64), (.rd, (.sl 3 .i64))], [.bool], .uniq, impl_SetOk⟩
theorem e207 (a : argT [(.rd, .i64), (.rd, (.sl 3 .i64))]) : evFun F207 Tryz.f207 [(.rd, .i64), (.rd, (.sl 3 .i64))] [.bool] .uniq a = impl_SetOk a := by kernel_rfl
theorem s207 : Sound Tryz.prog GLB 207 pf207 := sound_fun (F := F207) (envOK trivial trivial trivial trivial) Tryz.func207 (by kernel_rfl) (fun a o h => (e207 a).trans h)
def F228 : FEnv := ⟨⟨TYS, [(172, pf172)], EQS, [], [], false, []⟩, []⟩
def pf228 : PF := ⟨[(.rd, (.pair .i64 .i64))], [.i64], .uniq, impl_Faults⟩
theorem e228 (a : argT [(.rd, (.pair .i64 .i64))]) : evFun F228 Tryz.f228 [(.rd, (.pair .i64 .i64))] [.i64] .uniq a = impl_Faults a := by kernel_rfl
theorem s228 : Sound Tryz.prog GLB 228 pf228 := sound_fun (F := F228) (envOK ⟨s172, trivial⟩ trivial trivial trivial) Tryz.func228 (by kernel_rfl) (fun a o h => (e228 a).trans h)
def F208 : FEnv := ⟨⟨TYS, [(172, pf172), (228, pf228)], EQS, [], [], false, []⟩, []⟩
def pf208 : PF := ⟨[(.rd, (.pair .i64 .i64))], [.i64], .uniq, impl_Quorum⟩
theorem e208 (a : argT [(.rd, (.pair .i64 .i64))]) : evFun F208 Tryz.f208 [(.rd, (.pair .i64 .i64))] [.i64] .uniq a = impl_Quorum a := by kernel_rfl
theorem s208 : Sound Tryz.prog GLB 208 pf208 := sound_fun (F := F208) (envOK ⟨s172, s228, trivial⟩ trivial trivial trivial) Tryz.func208 (by kernel_rfl) (fun a o h => (e208 a).trans h)
def F99 : FEnv := ⟨⟨TYS, [(172, pf172), (205, pf205), (204, pf204), (206, pf206), (141, pf141), (207, pf207), (208, pf208)], EQS, [], [], false, []⟩, []⟩
def pf99 : PF := ⟨[(.rd, (.pair .i64 .i64)), (.rd, q3)], [.bool], .uniq, impl_QcOk⟩
theorem e99 (a : argT [(.rd, (.pair .i64 .i64)), (.rd, q3)]) : evFun F99 Tryz.f99 [(.rd, (.pair .i64 .i64)), (.rd, q3)] [.bool] .uniq a = impl_QcOk a := by kernel_rfl
theorem s99 : Sound Tryz.prog GLB 99 pf99 := sound_fun (F := F99) (envOK ⟨s172, s205, s204, s206, s141, s207, s208, trivial⟩ trivial trivial trivial) Tryz.func99 (by kernel_rfl) (fun a o h => (e99 a).trans h)
def F173 : FEnv := ⟨⟨TYS, [(98, pf98), (99, pf99), (206, pf206)], EQS, [], [], false, []⟩, []⟩
def pf173 : PF := ⟨[(.rd, (.pair .i64 .i64)), (.rd, q5)], [.bool], .uniq, impl_SafeOk⟩
theorem e173 (a : argT [(.rd, (.pair .i64 .i64)), (.rd, q5)]) : evFun F173 Tryz.f173 [(.rd, (.pair .i64 .i64)), (.rd, q5)] [.bool] .uniq a = impl_SafeOk a := by kernel_rfl
theorem s173 : Sound Tryz.prog GLB 173 pf173 := sound_fun (F := F173) (envOK ⟨s98, s99, s206, trivial⟩ trivial trivial trivial) Tryz.func173 (by kernel_rfl) (fun a o h => (e173 a).trans h)
def F263 : FEnv := ⟨⟨TYS, [], EQS, [], [], false, []⟩, []⟩
def pf263 : PF := ⟨[(.rd, q4), (.rd, q4)], [.bool], .uniq, impl_beforeTx⟩
theorem e263 (a : argT [(.rd, q4), (.rd, q4)]) : evFun F263 Tryz.f263 [(.rd, q4), (.rd, q4)] [.bool] .uniq a = impl_beforeTx a := by kernel_rfl
theorem s263 : Sound Tryz.prog GLB 263 pf263 := sound_fun (F := F263) (envOK trivial trivial trivial trivial) Tryz.func263 (by kernel_rfl) (fun a o h => (e263 a).trans h)
def F174 : FEnv := ⟨⟨TYS, [(248, pf248), (263, pf263)], EQS, [], [], false, []⟩, [(2, [.slot 7 .i64 (.imm false)])]⟩
def pf174 : PF := ⟨[(.rd, (.sl 105 q4))], [.bool], .uniq, impl_PoolOk⟩
theorem e174 (a : argT [(.rd, (.sl 105 q4))]) : evFun F174 Tryz.f174 [(.rd, (.sl 105 q4))] [.bool] .uniq a = impl_PoolOk a := by kernel_rfl
theorem s174 : Sound Tryz.prog GLB 174 pf174 := sound_fun (F := F174) (envOK ⟨s248, s263, trivial⟩ trivial trivial trivial) Tryz.func174 (by kernel_rfl) (fun a o h => (e174 a).trans h)
def F134 : FEnv := ⟨⟨TYS, [(172, pf172), (98, pf98), (206, pf206), (141, pf141), (207, pf207)], EQS, [], [], false, []⟩, []⟩
def pf134 : PF := ⟨[(.rd, (.pair .i64 .i64)), (.rd, q3)], [.bool], .uniq, impl_PartOk⟩
theorem e134 (a : argT [(.rd, (.pair .i64 .i64)), (.rd, q3)]) : evFun F134 Tryz.f134 [(.rd, (.pair .i64 .i64)), (.rd, q3)] [.bool] .uniq a = impl_PartOk a := by kernel_rfl
theorem s134 : Sound Tryz.prog GLB 134 pf134 := sound_fun (F := F134) (envOK ⟨s172, s98, s206, s141, s207, trivial⟩ trivial trivial trivial) Tryz.func134 (by kernel_rfl) (fun a o h => (e134 a).trans h)
def F315 : FEnv := ⟨⟨TYS, [], EQS, [], [], false, []⟩, []⟩
def pf315 : PF := ⟨[(.rd, .i64)], [.bool], .uniq, cmp_isNaN_int⟩
theorem e315 (a : argT [(.rd, .i64)]) : evFun F315 Tryz.f315 [(.rd, .i64)] [.bool] .uniq a = cmp_isNaN_int a := by kernel_rfl
theorem s315 : Sound Tryz.prog GLB 315 pf315 := sound_fun (F := F315) (envOK trivial trivial trivial trivial) Tryz.func315 (by kernel_rfl) (fun a o h => (e315 a).trans h)
def F274 : FEnv := ⟨⟨TYS, [(315, pf315)], EQS, [], [], false, []⟩, []⟩
def pf274 : PF := ⟨[(.rd, .i64), (.rd, .i64)], [.i64], .uniq, cmp_Compare_int⟩
theorem e274 (a : argT [(.rd, .i64), (.rd, .i64)]) : evFun F274 Tryz.f274 [(.rd, .i64), (.rd, .i64)] [.i64] .uniq a = cmp_Compare_int a := by kernel_rfl
theorem s274 : Sound Tryz.prog GLB 274 pf274 := sound_fun (F := F274) (envOK ⟨s315, trivial⟩ trivial trivial trivial) Tryz.func274 (by kernel_rfl) (fun a o h => (e274 a).trans h)
def F316 : FEnv := ⟨⟨TYS, [], EQS, [], [], false, []⟩, []⟩
def pf316 : PF := ⟨[(.rd, .str)], [.bool], .uniq, cmp_isNaN_string⟩
theorem e316 (a : argT [(.rd, .str)]) : evFun F316 Tryz.f316 [(.rd, .str)] [.bool] .uniq a = cmp_isNaN_string a := by kernel_rfl
theorem s316 : Sound Tryz.prog GLB 316 pf316 := sound_fun (F := F316) (envOK trivial trivial trivial trivial) Tryz.func316 (by kernel_rfl) (fun a o h => (e316 a).trans h)
def F275 : FEnv := ⟨⟨TYS, [(316, pf316)], EQS, [], [], false, []⟩, []⟩
def pf275 : PF := ⟨[(.rd, .str), (.rd, .str)], [.i64], .uniq, cmp_Compare_string⟩
theorem e275 (a : argT [(.rd, .str), (.rd, .str)]) : evFun F275 Tryz.f275 [(.rd, .str), (.rd, .str)] [.i64] .uniq a = cmp_Compare_string a := by kernel_rfl
theorem s275 : Sound Tryz.prog GLB 275 pf275 := sound_fun (F := F275) (envOK ⟨s316, trivial⟩ trivial trivial trivial) Tryz.func275 (by kernel_rfl) (fun a o h => (e275 a).trans h)
def F216 : FEnv := ⟨⟨TYS, [(274, pf274), (275, pf275)], EQS, [], [], false, []⟩, []⟩
def pf216 : PF := ⟨[(.rd, q3), (.rd, q3)], [.i64], .uniq, impl_comparePlace⟩
theorem e216 (a : argT [(.rd, q3), (.rd, q3)]) : evFun F216 Tryz.f216 [(.rd, q3), (.rd, q3)] [.i64] .uniq a = impl_comparePlace a := by kernel_rfl
theorem s216 : Sound Tryz.prog GLB 216 pf216 := sound_fun (F := F216) (envOK ⟨s274, s275, trivial⟩ trivial trivial trivial) Tryz.func216 (by kernel_rfl) (fun a o h => (e216 a).trans h)
def F175 : FEnv := ⟨⟨TYS, [(134, pf134), (216, pf216)], EQS, [], [], false, []⟩, [(2, [.slot 9 .i64 (.imm false)])]⟩
def pf175 : PF := ⟨[(.rd, (.pair .i64 .i64)), (.rd, (.sl 84 q3))], [.bool], .uniq, impl_TableOk⟩
theorem e175 (a : argT [(.rd, (.pair .i64 .i64)), (.rd, (.sl 84 q3))]) : evFun F175 Tryz.f175 [(.rd, (.pair .i64 .i64)), (.rd, (.sl 84 q3))] [.bool] .uniq a = impl_TableOk a := by kernel_rfl
theorem s175 : Sound Tryz.prog GLB 175 pf175 := sound_fun (F := F175) (envOK ⟨s134, s216, trivial⟩ trivial trivial trivial) Tryz.func175 (by kernel_rfl) (fun a o h => (e175 a).trans h)
def F176 : FEnv := ⟨⟨TYS, [(98, pf98)], EQS, [], [], false, []⟩, []⟩
def pf176 : PF := ⟨[(.rd, q7)], [.bool], .uniq, impl_DiskOk⟩
theorem e176 (a : argT [(.rd, q7)]) : evFun F176 Tryz.f176 [(.rd, q7)] [.bool] .uniq a = impl_DiskOk a := by kernel_rfl
theorem s176 : Sound Tryz.prog GLB 176 pf176 := sound_fun (F := F176) (envOK ⟨s98, trivial⟩ trivial trivial trivial) Tryz.func176 (by kernel_rfl) (fun a o h => (e176 a).trans h)
def F247 : FEnv := ⟨⟨TYS, [], EQS, [], [], false, []⟩, []⟩
def pf247 : PF := ⟨[(.rd, q1)], [q1], .shared, impl_named⟩
theorem e247 (a : argT [(.rd, q1)]) : evFun F247 Tryz.f247 [(.rd, q1)] [q1] .shared a = impl_named a := by kernel_rfl
theorem s247 : Sound Tryz.prog GLB 247 pf247 := sound_fun (F := F247) (envOK trivial trivial trivial trivial) Tryz.func247 (by kernel_rfl) (fun a o h => (e247 a).trans h)
def F302 : FEnv := ⟨⟨TYS, [(204, pf204)], EQS, [], [], false, []⟩, []⟩
def pf302 : PF := ⟨[(.rd, (.pair .str q3)), (.rd, (.pair .str q3))], [.bool], .uniq, impl_BlockSame⟩
theorem e302 (a : argT [(.rd, (.pair .str q3)), (.rd, (.pair .str q3))]) : evFun F302 Tryz.f302 [(.rd, (.pair .str q3)), (.rd, (.pair .str q3))] [.bool] .uniq a = impl_BlockSame a := by kernel_rfl
theorem s302 : Sound Tryz.prog GLB 302 pf302 := sound_fun (F := F302) (envOK ⟨s204, trivial⟩ trivial trivial trivial) Tryz.func302 (by kernel_rfl) (fun a o h => (e302 a).trans h)
def F303 : FEnv := ⟨⟨TYS, [(270, pf270)], EQS, [], [], false, []⟩, []⟩
def pf303 : PF := ⟨[(.rd, q3), (.rd, q3)], [.bool], .uniq, impl_partSame⟩
theorem e303 (a : argT [(.rd, q3), (.rd, q3)]) : evFun F303 Tryz.f303 [(.rd, q3), (.rd, q3)] [.bool] .uniq a = impl_partSame a := by kernel_rfl
theorem s303 : Sound Tryz.prog GLB 303 pf303 := sound_fun (F := F303) (envOK ⟨s270, trivial⟩ trivial trivial trivial) Tryz.func303 (by kernel_rfl) (fun a o h => (e303 a).trans h)
def F246 : FEnv := ⟨⟨TYS, [(302, pf302), (303, pf303), (204, pf204)], EQS, [], [], false, []⟩, []⟩
def pf246 : PF := ⟨[(.rd, q1), (.rd, q1)], [.bool], .uniq, impl_MsgSame⟩
theorem e246 (a : argT [(.rd, q1), (.rd, q1)]) : evFun F246 Tryz.f246 [(.rd, q1), (.rd, q1)] [.bool] .uniq a = impl_MsgSame a := by kernel_rfl
theorem s246 : Sound Tryz.prog GLB 246 pf246 := sound_fun (F := F246) (envOK ⟨s302, s303, s204, trivial⟩ trivial trivial trivial) Tryz.func246 (by kernel_rfl) (fun a o h => (e246 a).trans h)
def F213 : FEnv := ⟨⟨TYS, [(206, pf206), (272, pf272)], EQS, [], [], false, []⟩, []⟩
def pf213 : PF := ⟨[(.rd, .str)], [.str], .uniq, impl_UpOf⟩
theorem e213 (a : argT [(.rd, .str)]) : evFun F213 Tryz.f213 [(.rd, .str)] [.str] .uniq a = impl_UpOf a := by kernel_rfl
theorem s213 : Sound Tryz.prog GLB 213 pf213 := sound_fun (F := F213) (envOK ⟨s206, s272, trivial⟩ trivial trivial trivial) Tryz.func213 (by kernel_rfl) (fun a o h => (e213 a).trans h)
def F140 : FEnv := ⟨⟨TYS, [(99, pf99), (206, pf206), (213, pf213)], EQS, [], [], false, []⟩, []⟩
def pf140 : PF := ⟨[(.rd, (.pair .i64 .i64)), (.rd, (.pair .str q3))], [.bool], .uniq, impl_BlockOk⟩
theorem e140 (a : argT [(.rd, (.pair .i64 .i64)), (.rd, (.pair .str q3))]) : evFun F140 Tryz.f140 [(.rd, (.pair .i64 .i64)), (.rd, (.pair .str q3))] [.bool] .uniq a = impl_BlockOk a := by kernel_rfl
theorem s140 : Sound Tryz.prog GLB 140 pf140 := sound_fun (F := F140) (envOK ⟨s99, s206, s213, trivial⟩ trivial trivial trivial) Tryz.func140 (by kernel_rfl) (fun a o h => (e140 a).trans h)
def F149 : FEnv := ⟨⟨TYS, [(172, pf172), (247, pf247), (246, pf246), (140, pf140), (134, pf134), (98, pf98), (99, pf99), (248, pf248)], EQS, [], [], false, []⟩, []⟩
def pf149 : PF := ⟨[(.rd, (.pair .i64 .i64)), (.rd, q1)], [.bool], .uniq, impl_MsgOk⟩
theorem e149 (a : argT [(.rd, (.pair .i64 .i64)), (.rd, q1)]) : evFun F149 Tryz.f149 [(.rd, (.pair .i64 .i64)), (.rd, q1)] [.bool] .uniq a = impl_MsgOk a := by kernel_rfl
theorem s149 : Sound Tryz.prog GLB 149 pf149 := sound_fun (F := F149) (envOK ⟨s172, s247, s246, s140, s134, s98, s99, s248, trivial⟩ trivial trivial trivial) Tryz.func149 (by kernel_rfl) (fun a o h => (e149 a).trans h)
def F64 : FEnv := ⟨⟨TYS, [(172, pf172), (98, pf98), (173, pf173), (174, pf174), (175, pf175), (176, pf176), (149, pf149)], EQS, [], [], false, []⟩, [(4, [.slot 66 .i64 (.imm false)])]⟩
def pf64 : PF := ⟨[(.rd, (.pair .i64 .i64)), (.rd, q2)], [.bool], .uniq, impl_RepOk⟩
theorem e64 (a : argT [(.rd, (.pair .i64 .i64)), (.rd, q2)]) : evFun F64 Tryz.f64 [(.rd, (.pair .i64 .i64)), (.rd, q2)] [.bool] .uniq a = impl_RepOk a := by kernel_rfl
theorem s64 : Sound Tryz.prog GLB 64 pf64 := sound_fun (F := F64) (envOK ⟨s172, s98, s173, s174, s175, s176, s149, trivial⟩ trivial trivial trivial) Tryz.func64 (by kernel_rfl) (fun a o h => (e64 a).trans h)
def F182 : FEnv := ⟨⟨TYS, [(226, pf226)], EQS, [], [], false, []⟩, []⟩
def pf182 : PF := ⟨[(.rd, q3)], [q3], .uniq, impl_copyQc⟩
theorem e182 (a : argT [(.rd, q3)]) : evFun F182 Tryz.f182 [(.rd, q3)] [q3] .uniq a = impl_copyQc a := by kernel_rfl
theorem s182 : Sound Tryz.prog GLB 182 pf182 := sound_fun (F := F182) (envOK ⟨s226, trivial⟩ trivial trivial trivial) Tryz.func182 (by kernel_rfl) (fun a o h => (e182 a).trans h)
def F177 : FEnv := ⟨⟨TYS, [(182, pf182)], EQS, [], [], false, []⟩, []⟩
def pf177 : PF := ⟨[(.rd, q5)], [q5], .uniq, impl_copySafe⟩
theorem e177 (a : argT [(.rd, q5)]) : evFun F177 Tryz.f177 [(.rd, q5)] [q5] .uniq a = impl_copySafe a := by kernel_rfl
theorem s177 : Sound Tryz.prog GLB 177 pf177 := sound_fun (F := F177) (envOK ⟨s182, trivial⟩ trivial trivial trivial) Tryz.func177 (by kernel_rfl) (fun a o h => (e177 a).trans h)
def F178 : FEnv := ⟨⟨TYS, [], EQS, [], [], false, []⟩, []⟩
def pf178 : PF := ⟨[(.rd, (.sl 105 q4))], [(.sl 105 q4)], .uniq, impl_copyTxs⟩
theorem e178 (a : argT [(.rd, (.sl 105 q4))]) : evFun F178 Tryz.f178 [(.rd, (.sl 105 q4))] [(.sl 105 q4)] .uniq a = impl_copyTxs a := by kernel_rfl
theorem s178 : Sound Tryz.prog GLB 178 pf178 := sound_fun (F := F178) (envOK trivial trivial trivial trivial) Tryz.func178 (by kernel_rfl) (fun a o h => (e178 a).trans h)
def F179 : FEnv := ⟨⟨TYS, [(171, pf171)], EQS, [], [], false, []⟩, [(3, [.slot 3 (.sl 84 q3) (.own true), .slot 8 .i64 (.imm false)])]⟩
def pf179 : PF := ⟨[(.rd, (.sl 84 q3))], [(.sl 84 q3)], .uniq, impl_copyTable⟩
theorem e179 (a : argT [(.rd, (.sl 84 q3))]) : evFun F179 Tryz.f179 [(.rd, (.sl 84 q3))] [(.sl 84 q3)] .uniq a = impl_copyTable a := by kernel_rfl
theorem s179 : Sound Tryz.prog GLB 179 pf179 := sound_fun (F := F179) (envOK ⟨s171, trivial⟩ trivial trivial trivial) Tryz.func179 (by kernel_rfl) (fun a o h => (e179 a).trans h)
def F180 : FEnv := ⟨⟨TYS, [], EQS, [], [], false, []⟩, []⟩
def pf180 : PF := ⟨[(.rd, q7)], [q7], .uniq, impl_copyDisk⟩
theorem e180 (a : argT [(.rd, q7)]) : evFun F180 Tryz.f180 [(.rd, q7)] [q7] .uniq a = impl_copyDisk a := by kernel_rfl
theorem s180 : Sound Tryz.prog GLB 180 pf180 := sound_fun (F := F180) (envOK trivial trivial trivial trivial) Tryz.func180 (by kernel_rfl) (fun a o h => (e180 a).trans h)
def F265 : FEnv := ⟨⟨TYS, [(182, pf182)], EQS, [], [], false, []⟩, []⟩
def pf265 : PF := ⟨[(.rd, (.pair .str q3))], [(.pair .str q3)], .uniq, impl_copyBlock⟩
theorem e265 (a : argT [(.rd, (.pair .str q3))]) : evFun F265 Tryz.f265 [(.rd, (.pair .str q3))] [(.pair .str q3)] .uniq a = impl_copyBlock a := by kernel_rfl
theorem s265 : Sound Tryz.prog GLB 265 pf265 := sound_fun (F := F265) (envOK ⟨s182, trivial⟩ trivial trivial trivial) Tryz.func265 (by kernel_rfl) (fun a o h => (e265 a).trans h)
def F186 : FEnv := ⟨⟨TYS, [(265, pf265), (171, pf171), (182, pf182)], EQS, [], [], false, []⟩, []⟩
def pf186 : PF := ⟨[(.rd, q1)], [q1], .uniq, impl_copyMsg⟩
theorem e186 (a : argT [(.rd, q1)]) : evFun F186 Tryz.f186 [(.rd, q1)] [q1] .uniq a = impl_copyMsg a := by kernel_rfl
theorem s186 : Sound Tryz.prog GLB 186 pf186 := sound_fun (F := F186) (envOK ⟨s265, s171, s182, trivial⟩ trivial trivial trivial) Tryz.func186 (by kernel_rfl) (fun a o h => (e186 a).trans h)
def F181 : FEnv := ⟨⟨TYS, [(186, pf186)], EQS, [], [], false, []⟩, [(3, [.slot 3 q8 (.own true), .slot 8 .i64 (.imm false)])]⟩
def pf181 : PF := ⟨[(.rd, q8)], [q8], .uniq, impl_copyPosts⟩
theorem e181 (a : argT [(.rd, q8)]) : evFun F181 Tryz.f181 [(.rd, q8)] [q8] .uniq a = impl_copyPosts a := by kernel_rfl
theorem s181 : Sound Tryz.prog GLB 181 pf181 := sound_fun (F := F181) (envOK ⟨s186, trivial⟩ trivial trivial trivial) Tryz.func181 (by kernel_rfl) (fun a o h => (e181 a).trans h)
def F65 : FEnv := ⟨⟨TYS, [(177, pf177), (178, pf178), (179, pf179), (180, pf180), (181, pf181)], EQS, [], [], false, []⟩, []⟩
def pf65 : PF := ⟨[(.rd, q2)], [q2], .uniq, impl_copyRep⟩
theorem e65 (a : argT [(.rd, q2)]) : evFun F65 Tryz.f65 [(.rd, q2)] [q2] .uniq a = impl_copyRep a := by kernel_rfl
theorem s65 : Sound Tryz.prog GLB 65 pf65 := sound_fun (F := F65) (envOK ⟨s177, s178, s179, s180, s181, trivial⟩ trivial trivial trivial) Tryz.func65 (by kernel_rfl) (fun a o h => (e65 a).trans h)
def F66 : FEnv := ⟨⟨TYS, [(172, pf172)], EQS, [], [], false, []⟩, []⟩
def pf66 : PF := ⟨[(.rd, (.pair .i64 .i64)), (.rd, .i64)], [.i64], .uniq, impl_Root⟩
theorem e66 (a : argT [(.rd, (.pair .i64 .i64)), (.rd, .i64)]) : evFun F66 Tryz.f66 [(.rd, (.pair .i64 .i64)), (.rd, .i64)] [.i64] .uniq a = impl_Root a := by kernel_rfl
theorem s66 : Sound Tryz.prog GLB 66 pf66 := sound_fun (F := F66) (envOK ⟨s172, trivial⟩ trivial trivial trivial) Tryz.func66 (by kernel_rfl) (fun a o h => (e66 a).trans h)
def F67 : FEnv := ⟨⟨TYS, [(182, pf182), (99, pf99)], EQS, [], [], false, []⟩, []⟩
def pf67 : PF := ⟨[(.rd, (.pair .i64 .i64)), (.rd, q3)], [q3, .bool], .uniq, impl_PartQc⟩
theorem e67 (a : argT [(.rd, (.pair .i64 .i64)), (.rd, q3)]) : evFun F67 Tryz.f67 [(.rd, (.pair .i64 .i64)), (.rd, q3)] [q3, .bool] .uniq a = impl_PartQc a := by kernel_rfl
theorem s67 : Sound Tryz.prog GLB 67 pf67 := sound_fun (F := F67) (envOK ⟨s182, s99, trivial⟩ trivial trivial trivial) Tryz.func67 (by kernel_rfl) (fun a o h => (e67 a).trans h)
def F212 : FEnv := ⟨⟨TYS, [(182, pf182)], EQS, [], [], false, []⟩, []⟩
def pf212 : PF := ⟨[(.rd, q3), (.rd, q3)], [q3], .uniq, impl_QcLater⟩
theorem e212 (a : argT [(.rd, q3), (.rd, q3)]) : evFun F212 Tryz.f212 [(.rd, q3), (.rd, q3)] [q3] .uniq a = impl_QcLater a := by kernel_rfl
theorem s212 : Sound Tryz.prog GLB 212 pf212 := sound_fun (F := F212) (envOK ⟨s182, trivial⟩ trivial trivial trivial) Tryz.func212 (by kernel_rfl) (fun a o h => (e212 a).trans h)
def F214 : FEnv := ⟨⟨TYS, [(237, pf237), (213, pf213)], EQS, [], [], false, []⟩, []⟩
def pf214 : PF := ⟨[(.rd, .str)], [.str, .bool], .uniq, impl_Settles⟩
theorem e214 (a : argT [(.rd, .str)]) : evFun F214 Tryz.f214 [(.rd, .str)] [.str, .bool] .uniq a = impl_Settles a := by kernel_rfl
theorem s214 : Sound Tryz.prog GLB 214 pf214 := sound_fun (F := F214) (envOK ⟨s237, s213, trivial⟩ trivial trivial trivial) Tryz.func214 (by kernel_rfl) (fun a o h => (e214 a).trans h)
def F314 : FEnv := ⟨⟨TYS, [], EQS, [], [], false, []⟩, []⟩
def pf314 : PF := ⟨[(.rd, .str), (.rd, .str)], [.bool], .uniq, internal_stringslite_HasPrefix⟩
theorem e314 (a : argT [(.rd, .str), (.rd, .str)]) : evFun F314 Tryz.f314 [(.rd, .str), (.rd, .str)] [.bool] .uniq a = internal_stringslite_HasPrefix a := by kernel_rfl
theorem s314 : Sound Tryz.prog GLB 314 pf314 := sound_fun (F := F314) (envOK trivial trivial trivial trivial) Tryz.func314 (by kernel_rfl) (fun a o h => (e314 a).trans h)
def F273 : FEnv := ⟨⟨TYS, [(314, pf314)], EQS, [], [], false, []⟩, []⟩
def pf273 : PF := ⟨[(.rd, .str), (.rd, .str)], [.bool], .uniq, strings_HasPrefix⟩
theorem e273 (a : argT [(.rd, .str), (.rd, .str)]) : evFun F273 Tryz.f273 [(.rd, .str), (.rd, .str)] [.bool] .uniq a = strings_HasPrefix a := by kernel_rfl
theorem s273 : Sound Tryz.prog GLB 273 pf273 := sound_fun (F := F273) (envOK ⟨s314, trivial⟩ trivial trivial trivial) Tryz.func273 (by kernel_rfl) (fun a o h => (e273 a).trans h)
def F215 : FEnv := ⟨⟨TYS, [(206, pf206), (273, pf273)], EQS, [], [], false, []⟩, []⟩
def pf215 : PF := ⟨[(.rd, .str), (.rd, .str)], [.bool], .uniq, impl_Extends⟩
theorem e215 (a : argT [(.rd, .str), (.rd, .str)]) : evFun F215 Tryz.f215 [(.rd, .str), (.rd, .str)] [.bool] .uniq a = impl_Extends a := by kernel_rfl
theorem s215 : Sound Tryz.prog GLB 215 pf215 := sound_fun (F := F215) (envOK ⟨s206, s273, trivial⟩ trivial trivial trivial) Tryz.func215 (by kernel_rfl) (fun a o h => (e215 a).trans h)
def F101 : FEnv := ⟨⟨TYS, [(177, pf177), (173, pf173), (99, pf99), (212, pf212), (213, pf213), (141, pf141), (214, pf214), (215, pf215)], EQS, [], [], false, []⟩, []⟩
def pf101 : PF := ⟨[(.rd, (.pair .i64 .i64)), (.rd, q5), (.rd, q3)], [q5], .uniq, impl_See⟩
theorem e101 (a : argT [(.rd, (.pair .i64 .i64)), (.rd, q5), (.rd, q3)]) : evFun F101 Tryz.f101 [(.rd, (.pair .i64 .i64)), (.rd, q5), (.rd, q3)] [q5] .uniq a = impl_See a := by kernel_rfl
theorem s101 : Sound Tryz.prog GLB 101 pf101 := sound_fun (F := F101) (envOK ⟨s177, s173, s99, s212, s213, s141, s214, s215, trivial⟩ trivial trivial trivial) Tryz.func101 (by kernel_rfl) (fun a o h => (e101 a).trans h)
def F209 : FEnv := ⟨⟨TYS, [(204, pf204)], EQS, [], [], false, []⟩, []⟩
def pf209 : PF := ⟨[(.rd, q5), (.rd, q5)], [.bool], .uniq, impl_SafeSame⟩
theorem e209 (a : argT [(.rd, q5), (.rd, q5)]) : evFun F209 Tryz.f209 [(.rd, q5), (.rd, q5)] [.bool] .uniq a = impl_SafeSame a := by kernel_rfl
theorem s209 : Sound Tryz.prog GLB 209 pf209 := sound_fun (F := F209) (envOK ⟨s204, trivial⟩ trivial trivial trivial) Tryz.func209 (by kernel_rfl) (fun a o h => (e209 a).trans h)
def F230 : FEnv := ⟨⟨TYS, [(98, pf98)], EQS, [], [], false, []⟩, [(4, [.slot 0 .i64 (.imm false), .slot 3 (.sl 5 .u8) (.own true)])]⟩
def pf230 : PF := ⟨[(.rd, .i64)], [(.sl 5 .u8)], .uniq, impl_PutNum⟩
theorem e230 (a : argT [(.rd, .i64)]) : evFun F230 Tryz.f230 [(.rd, .i64)] [(.sl 5 .u8)] .uniq a = impl_PutNum a := by kernel_rfl
theorem s230 : Sound Tryz.prog GLB 230 pf230 := sound_fun (F := F230) (envOK ⟨s98, trivial⟩ trivial trivial trivial) Tryz.func230 (by kernel_rfl) (fun a o h => (e230 a).trans h)
def F233 : FEnv := ⟨⟨TYS, [(230, pf230)], EQS, [], [], false, []⟩, [(3, [.slot 3 (.sl 5 .u8) (.own true), .slot 8 .i64 (.imm false)])]⟩
def pf233 : PF := ⟨[(.rd, (.sl 3 .i64))], [(.sl 5 .u8)], .uniq, impl_putNums⟩
theorem e233 (a : argT [(.rd, (.sl 3 .i64))]) : evFun F233 Tryz.f233 [(.rd, (.sl 3 .i64))] [(.sl 5 .u8)] .uniq a = impl_putNums a := by kernel_rfl
theorem s233 : Sound Tryz.prog GLB 233 pf233 := sound_fun (F := F233) (envOK ⟨s230, trivial⟩ trivial trivial trivial) Tryz.func233 (by kernel_rfl) (fun a o h => (e233 a).trans h)
def F231 : FEnv := ⟨⟨TYS, [(230, pf230)], EQS, [], [], false, []⟩, []⟩
def pf231 : PF := ⟨[(.rd, .str)], [(.sl 5 .u8)], .uniq, impl_PutText⟩
theorem e231 (a : argT [(.rd, .str)]) : evFun F231 Tryz.f231 [(.rd, .str)] [(.sl 5 .u8)] .uniq a = impl_PutText a := by kernel_rfl
theorem s231 : Sound Tryz.prog GLB 231 pf231 := sound_fun (F := F231) (envOK ⟨s230, trivial⟩ trivial trivial trivial) Tryz.func231 (by kernel_rfl) (fun a o h => (e231 a).trans h)
def F232 : FEnv := ⟨⟨TYS, [(99, pf99), (230, pf230), (231, pf231), (233, pf233)], EQS, [], [], false, []⟩, []⟩
def pf232 : PF := ⟨[(.rd, (.pair .i64 .i64)), (.rd, q3)], [(.sl 5 .u8)], .uniq, impl_QcBytes⟩
theorem e232 (a : argT [(.rd, (.pair .i64 .i64)), (.rd, q3)]) : evFun F232 Tryz.f232 [(.rd, (.pair .i64 .i64)), (.rd, q3)] [(.sl 5 .u8)] .uniq a = impl_QcBytes a := by kernel_rfl
theorem s232 : Sound Tryz.prog GLB 232 pf232 := sound_fun (F := F232) (envOK ⟨s99, s230, s231, s233, trivial⟩ trivial trivial trivial) Tryz.func232 (by kernel_rfl) (fun a o h => (e232 a).trans h)
def F271 : FEnv := ⟨⟨TYS, [(173, pf173), (233, pf233), (232, pf232), (231, pf231)], EQS, [], [], false, []⟩, []⟩
def pf271 : PF := ⟨[(.rd, (.pair .i64 .i64)), (.rd, q5)], [(.sl 5 .u8)], .uniq, impl_SafeBytes⟩
theorem e271 (a : argT [(.rd, (.pair .i64 .i64)), (.rd, q5)]) : evFun F271 Tryz.f271 [(.rd, (.pair .i64 .i64)), (.rd, q5)] [(.sl 5 .u8)] .uniq a = impl_SafeBytes a := by kernel_rfl
theorem s271 : Sound Tryz.prog GLB 271 pf271 := sound_fun (F := F271) (envOK ⟨s173, s233, s232, s231, trivial⟩ trivial trivial trivial) Tryz.func271 (by kernel_rfl) (fun a o h => (e271 a).trans h)
def F211 : FEnv := ⟨⟨TYS, [(271, pf271), (230, pf230)], EQS, [], [], false, []⟩, []⟩
def pf211 : PF := ⟨[(.rd, (.pair .i64 .i64)), (.rd, q5)], [(.sl 5 .u8)], .uniq, impl_NoteBytes⟩
theorem e211 (a : argT [(.rd, (.pair .i64 .i64)), (.rd, q5)]) : evFun F211 Tryz.f211 [(.rd, (.pair .i64 .i64)), (.rd, q5)] [(.sl 5 .u8)] .uniq a = impl_NoteBytes a := by kernel_rfl
theorem s211 : Sound Tryz.prog GLB 211 pf211 := sound_fun (F := F211) (envOK ⟨s271, s230, trivial⟩ trivial trivial trivial) Tryz.func211 (by kernel_rfl) (fun a o h => (e211 a).trans h)
def F210 : FEnv := ⟨⟨TYS, [(180, pf180), (176, pf176)], EQS, [], [], false, []⟩, []⟩
def pf210 : PF := ⟨[(.rd, q7), (.rd, (.sl 5 .u8))], [q7, .bool], .uniq, impl_Append⟩
theorem e210 (a : argT [(.rd, q7), (.rd, (.sl 5 .u8))]) : evFun F210 Tryz.f210 [(.rd, q7), (.rd, (.sl 5 .u8))] [q7, .bool] .uniq a = impl_Append a := by kernel_rfl
theorem s210 : Sound Tryz.prog GLB 210 pf210 := sound_fun (F := F210) (envOK ⟨s180, s176, trivial⟩ trivial trivial trivial) Tryz.func210 (by kernel_rfl) (fun a o h => (e210 a).trans h)
def F100 : FEnv := ⟨⟨TYS, [(65, pf65), (64, pf64), (209, pf209), (211, pf211), (210, pf210), (177, pf177)], EQS, [], [], false, []⟩, []⟩
def pf100 : PF := ⟨[(.rd, (.pair .i64 .i64)), (.rd, q2), (.rd, q5)], [q2, .bool], .uniq, impl_Write⟩
theorem e100 (a : argT [(.rd, (.pair .i64 .i64)), (.rd, q2), (.rd, q5)]) : evFun F100 Tryz.f100 [(.rd, (.pair .i64 .i64)), (.rd, q2), (.rd, q5)] [q2, .bool] .uniq a = impl_Write a := by kernel_rfl
theorem s100 : Sound Tryz.prog GLB 100 pf100 := sound_fun (F := F100) (envOK ⟨s65, s64, s209, s211, s210, s177, trivial⟩ trivial trivial trivial) Tryz.func100 (by kernel_rfl) (fun a o h => (e100 a).trans h)
def F71 : FEnv := ⟨⟨TYS, [(65, pf65), (186, pf186), (64, pf64)], EQS, [], [], false, []⟩, []⟩
def pf71 : PF := ⟨[(.rd, (.pair .i64 .i64)), (.rd, q2), (.rd, .i64), (.rd, q1)], [q2, .bool], .uniq, impl_Tell⟩
theorem e71 (a : argT [(.rd, (.pair .i64 .i64)), (.rd, q2), (.rd, .i64), (.rd, q1)]) : evFun F71 Tryz.f71 [(.rd, (.pair .i64 .i64)), (.rd, q2), (.rd, .i64), (.rd, q1)] [q2, .bool] .uniq a = impl_Tell a := by kernel_rfl
theorem s71 : Sound Tryz.prog GLB 71 pf71 := sound_fun (F := F71) (envOK ⟨s65, s186, s64, trivial⟩ trivial trivial trivial) Tryz.func71 (by kernel_rfl) (fun a o h => (e71 a).trans h)
def F68 : FEnv := ⟨⟨TYS, [(101, pf101), (100, pf100), (66, pf66), (71, pf71)], EQS, [], [], false, []⟩, []⟩
def pf68 : PF := ⟨[(.rd, (.pair .i64 .i64)), (.rd, q2), (.rd, q3)], [q2, .bool], .uniq, impl_crown⟩
theorem e68 (a : argT [(.rd, (.pair .i64 .i64)), (.rd, q2), (.rd, q3)]) : evFunC F68 Tryz.f68 [(.rd, (.pair .i64 .i64)), (.rd, q2), (.rd, q3)] [q2, .bool] .uniq a = impl_crown a := by kernel_rfl
theorem s68 : SoundC Tryz.prog GLB 68 pf68 := sound_funC (F := F68) (envOK ⟨s101, s100, s66, s71, trivial⟩ trivial trivial trivial) Tryz.func68 (by kernel_rfl) (by rfl) (fun a o h => (e68 a).trans h)
def F183 : FEnv := ⟨⟨TYS, [(172, pf172), (98, pf98)], EQS, [], [], false, []⟩, []⟩
def pf183 : PF := ⟨[(.rd, (.pair .i64 .i64)), (.rd, .i64), (.rd, .i64)], [.i64], .uniq, impl_Seat⟩
theorem e183 (a : argT [(.rd, (.pair .i64 .i64)), (.rd, .i64), (.rd, .i64)]) : evFun F183 Tryz.f183 [(.rd, (.pair .i64 .i64)), (.rd, .i64), (.rd, .i64)] [.i64] .uniq a = impl_Seat a := by kernel_rfl
theorem s183 : Sound Tryz.prog GLB 183 pf183 := sound_fun (F := F183) (envOK ⟨s172, s98, trivial⟩ trivial trivial trivial) Tryz.func183 (by kernel_rfl) (fun a o h => (e183 a).trans h)
def F187 : FEnv := ⟨⟨TYS, [(172, pf172), (98, pf98)], EQS, [], [], false, []⟩, []⟩
def pf187 : PF := ⟨[(.rd, (.pair .i64 .i64)), (.rd, .i64), (.rd, .i64)], [.i64], .uniq, impl_Sits⟩
theorem e187 (a : argT [(.rd, (.pair .i64 .i64)), (.rd, .i64), (.rd, .i64)]) : evFun F187 Tryz.f187 [(.rd, (.pair .i64 .i64)), (.rd, .i64), (.rd, .i64)] [.i64] .uniq a = impl_Sits a := by kernel_rfl
theorem s187 : Sound Tryz.prog GLB 187 pf187 := sound_fun (F := F187) (envOK ⟨s172, s98, trivial⟩ trivial trivial trivial) Tryz.func187 (by kernel_rfl) (fun a o h => (e187 a).trans h)
def F72 : FEnv := ⟨⟨TYS, [(183, pf183), (187, pf187)], EQS, [], [], false, []⟩, []⟩
def pf72 : PF := ⟨[(.rd, (.pair .i64 .i64)), (.rd, .i64), (.rd, .i64)], [.i64], .uniq, impl_Up⟩
theorem e72 (a : argT [(.rd, (.pair .i64 .i64)), (.rd, .i64), (.rd, .i64)]) : evFun F72 Tryz.f72 [(.rd, (.pair .i64 .i64)), (.rd, .i64), (.rd, .i64)] [.i64] .uniq a = impl_Up a := by kernel_rfl
theorem s72 : Sound Tryz.prog GLB 72 pf72 := sound_fun (F := F72) (envOK ⟨s183, s187, trivial⟩ trivial trivial trivial) Tryz.func72 (by kernel_rfl) (fun a o h => (e72 a).trans h)
def F185 : FEnv := ⟨⟨TYS, [(183, pf183), (72, pf72)], EQS, [], [], false, []⟩, [(2, [.slot 2 .i64 (.imm false), .slot 7 (.sl 3 .i64) (.own true)])]⟩
def pf185 : PF := ⟨[(.rd, (.pair .i64 .i64)), (.rd, .i64), (.rd, .i64)], [(.sl 3 .i64)], .uniq, impl_Way⟩
theorem e185 (a : argT [(.rd, (.pair .i64 .i64)), (.rd, .i64), (.rd, .i64)]) : evFun F185 Tryz.f185 [(.rd, (.pair .i64 .i64)), (.rd, .i64), (.rd, .i64)] [(.sl 3 .i64)] .uniq a = impl_Way a := by kernel_rfl
theorem s185 : Sound Tryz.prog GLB 185 pf185 := sound_fun (F := F185) (envOK ⟨s183, s72, trivial⟩ trivial trivial trivial) Tryz.func185 (by kernel_rfl) (fun a o h => (e185 a).trans h)
def F310 : FEnv := ⟨⟨TYS, [], EQS, [], [], false, []⟩, [(2, [.slot 8 .i64 (.imm false)])]⟩
def pf310 : PF := ⟨[(.rd, (.sl 3 .i64)), (.rd, .i64)], [.i64], .uniq, slices_Index_int⟩
theorem e310 (a : argT [(.rd, (.sl 3 .i64)), (.rd, .i64)]) : evFun F310 Tryz.f310 [(.rd, (.sl 3 .i64)), (.rd, .i64)] [.i64] .uniq a = slices_Index_int a := by kernel_rfl
theorem s310 : Sound Tryz.prog GLB 310 pf310 := sound_fun (F := F310) (envOK trivial trivial trivial trivial) Tryz.func310 (by kernel_rfl) (fun a o h => (e310 a).trans h)
def F264 : FEnv := ⟨⟨TYS, [(310, pf310)], EQS, [], [], false, []⟩, []⟩
def pf264 : PF := ⟨[(.rd, (.sl 3 .i64)), (.rd, .i64)], [.bool], .uniq, slices_Contains_int⟩
theorem e264 (a : argT [(.rd, (.sl 3 .i64)), (.rd, .i64)]) : evFun F264 Tryz.f264 [(.rd, (.sl 3 .i64)), (.rd, .i64)] [.bool] .uniq a = slices_Contains_int a := by kernel_rfl
theorem s264 : Sound Tryz.prog GLB 264 pf264 := sound_fun (F := F264) (envOK ⟨s310, trivial⟩ trivial trivial trivial) Tryz.func264 (by kernel_rfl) (fun a o h => (e264 a).trans h)
def F184 : FEnv := ⟨⟨TYS, [(264, pf264)], EQS, [], [], false, []⟩, []⟩
def pf184 : PF := ⟨[(.rd, (.sl 3 .i64)), (.rd, .i64)], [.bool], .uniq, impl_SetHas⟩
theorem e184 (a : argT [(.rd, (.sl 3 .i64)), (.rd, .i64)]) : evFun F184 Tryz.f184 [(.rd, (.sl 3 .i64)), (.rd, .i64)] [.bool] .uniq a = impl_SetHas a := by kernel_rfl
theorem s184 : Sound Tryz.prog GLB 184 pf184 := sound_fun (F := F184) (envOK ⟨s264, trivial⟩ trivial trivial trivial) Tryz.func184 (by kernel_rfl) (fun a o h => (e184 a).trans h)
def F69 : FEnv := ⟨⟨TYS, [(183, pf183), (185, pf185), (184, pf184)], EQS, [], [], false, []⟩, [(3, [.slot 7 (.sl 3 .i64) (.own true), .slot 8 .i64 (.imm false)])]⟩
def pf69 : PF := ⟨[(.rd, (.pair .i64 .i64)), (.rd, .i64), (.rd, .i64)], [(.sl 3 .i64)], .uniq, impl_Under⟩
theorem e69 (a : argT [(.rd, (.pair .i64 .i64)), (.rd, .i64), (.rd, .i64)]) : evFun F69 Tryz.f69 [(.rd, (.pair .i64 .i64)), (.rd, .i64), (.rd, .i64)] [(.sl 3 .i64)] .uniq a = impl_Under a := by kernel_rfl
theorem s69 : Sound Tryz.prog GLB 69 pf69 := sound_fun (F := F69) (envOK ⟨s183, s185, s184, trivial⟩ trivial trivial trivial) Tryz.func69 (by kernel_rfl) (fun a o h => (e69 a).trans h)
def F70 : FEnv := ⟨⟨TYS, [(184, pf184)], EQS, [], [], false, []⟩, [(3, [.slot 5 .i64 (.imm false), .slot 10 .i64 (.imm false)])]⟩
def pf70 : PF := ⟨[(.rd, (.sl 3 .i64)), (.rd, (.sl 3 .i64))], [.i64], .uniq, impl_Common⟩
theorem e70 (a : argT [(.rd, (.sl 3 .i64)), (.rd, (.sl 3 .i64))]) : evFun F70 Tryz.f70 [(.rd, (.sl 3 .i64)), (.rd, (.sl 3 .i64))] [.i64] .uniq a = impl_Common a := by kernel_rfl
theorem s70 : Sound Tryz.prog GLB 70 pf70 := sound_fun (F := F70) (envOK ⟨s184, trivial⟩ trivial trivial trivial) Tryz.func70 (by kernel_rfl) (fun a o h => (e70 a).trans h)
def F13 : FEnv := ⟨⟨TYS, [(63, pf63), (64, pf64), (65, pf65), (66, pf66), (67, pf67), (69, pf69), (70, pf70), (72, pf72), (71, pf71)], EQS, [], [], false, [(68, pf68)]⟩, []⟩
def pf13 : PF := ⟨[(.rd, (.pair .i64 .i64)), (.rd, q2), (.rd, .i64), (.rd, .str), (.rd, .bool)], [q2, .bool], .uniq, impl_Climb⟩
theorem e13 (a : argT [(.rd, (.pair .i64 .i64)), (.rd, q2), (.rd, .i64), (.rd, .str), (.rd, .bool)]) : evFun F13 Tryz.f13 [(.rd, (.pair .i64 .i64)), (.rd, q2), (.rd, .i64), (.rd, .str), (.rd, .bool)] [q2, .bool] .uniq a = impl_Climb a := by kernel_rfl
theorem s13 : Sound Tryz.prog GLB 13 pf13 := sound_fun (F := F13) (envOK ⟨s63, s64, s65, s66, s67, s69, s70, s72, s71, trivial⟩ trivial trivial s68) Tryz.func13 (by kernel_rfl) (fun a o h => (e13 a).trans h)
def F104 : FEnv := ⟨⟨TYS, [], EQS, [], [], false, []⟩, [(4, [.slot 5 .i64 (.imm false)])]⟩
def pf104 : PF := ⟨[(.rd, (.sl 3 .i64)), (.rd, (.sl 3 .i64))], [.bool], .uniq, laws_eqIntS⟩
theorem e104 (a : argT [(.rd, (.sl 3 .i64)), (.rd, (.sl 3 .i64))]) : evFun F104 Tryz.f104 [(.rd, (.sl 3 .i64)), (.rd, (.sl 3 .i64))] [.bool] .uniq a = laws_eqIntS a := by kernel_rfl
theorem s104 : Sound Tryz.prog GLB 104 pf104 := sound_fun (F := F104) (envOK trivial trivial trivial trivial) Tryz.func104 (by kernel_rfl) (fun a o h => (e104 a).trans h)
def F21 : FEnv := ⟨⟨TYS, [(104, pf104)], EQS, [], [], false, []⟩, []⟩
def pf21 : PF := ⟨[(.rd, q3), (.rd, q3)], [.bool], .uniq, laws_eqQc⟩
theorem e21 (a : argT [(.rd, q3), (.rd, q3)]) : evFun F21 Tryz.f21 [(.rd, q3), (.rd, q3)] [.bool] .uniq a = laws_eqQc a := by kernel_rfl
theorem s21 : Sound Tryz.prog GLB 21 pf21 := sound_fun (F := F21) (envOK ⟨s104, trivial⟩ trivial trivial trivial) Tryz.func21 (by kernel_rfl) (fun a o h => (e21 a).trans h)
def F73 : FEnv := ⟨⟨TYS, [(21, pf21)], EQS, [], [], false, []⟩, []⟩
def pf73 : PF := ⟨[(.rd, q5), (.rd, q5)], [.bool], .uniq, laws_eqSafe⟩
theorem e73 (a : argT [(.rd, q5), (.rd, q5)]) : evFun F73 Tryz.f73 [(.rd, q5), (.rd, q5)] [.bool] .uniq a = laws_eqSafe a := by kernel_rfl
theorem s73 : Sound Tryz.prog GLB 73 pf73 := sound_fun (F := F73) (envOK ⟨s21, trivial⟩ trivial trivial trivial) Tryz.func73 (by kernel_rfl) (fun a o h => (e73 a).trans h)
def F154 : FEnv := ⟨⟨TYS, [], EQS, [], [], false, []⟩, []⟩
def pf154 : PF := ⟨[(.rd, q4), (.rd, q4)], [.bool], .uniq, laws_eqTx⟩
theorem e154 (a : argT [(.rd, q4), (.rd, q4)]) : evFun F154 Tryz.f154 [(.rd, q4), (.rd, q4)] [.bool] .uniq a = laws_eqTx a := by kernel_rfl
theorem s154 : Sound Tryz.prog GLB 154 pf154 := sound_fun (F := F154) (envOK trivial trivial trivial trivial) Tryz.func154 (by kernel_rfl) (fun a o h => (e154 a).trans h)
def F74 : FEnv := ⟨⟨TYS, [(154, pf154)], EQS, [], [], false, []⟩, [(4, [.slot 5 .i64 (.imm false)])]⟩
def pf74 : PF := ⟨[(.rd, (.sl 105 q4)), (.rd, (.sl 105 q4))], [.bool], .uniq, laws_eqTxS⟩
theorem e74 (a : argT [(.rd, (.sl 105 q4)), (.rd, (.sl 105 q4))]) : evFun F74 Tryz.f74 [(.rd, (.sl 105 q4)), (.rd, (.sl 105 q4))] [.bool] .uniq a = laws_eqTxS a := by kernel_rfl
theorem s74 : Sound Tryz.prog GLB 74 pf74 := sound_fun (F := F74) (envOK ⟨s154, trivial⟩ trivial trivial trivial) Tryz.func74 (by kernel_rfl) (fun a o h => (e74 a).trans h)
def F38 : FEnv := ⟨⟨TYS, [(104, pf104)], EQS, [], [], false, []⟩, []⟩
def pf38 : PF := ⟨[(.rd, q3), (.rd, q3)], [.bool], .uniq, laws_eqPart⟩
theorem e38 (a : argT [(.rd, q3), (.rd, q3)]) : evFun F38 Tryz.f38 [(.rd, q3), (.rd, q3)] [.bool] .uniq a = laws_eqPart a := by kernel_rfl
theorem s38 : Sound Tryz.prog GLB 38 pf38 := sound_fun (F := F38) (envOK ⟨s104, trivial⟩ trivial trivial trivial) Tryz.func38 (by kernel_rfl) (fun a o h => (e38 a).trans h)
def F75 : FEnv := ⟨⟨TYS, [(38, pf38)], EQS, [], [], false, []⟩, [(4, [.slot 5 .i64 (.imm false)])]⟩
def pf75 : PF := ⟨[(.rd, (.sl 84 q3)), (.rd, (.sl 84 q3))], [.bool], .uniq, laws_eqPartS⟩
theorem e75 (a : argT [(.rd, (.sl 84 q3)), (.rd, (.sl 84 q3))]) : evFun F75 Tryz.f75 [(.rd, (.sl 84 q3)), (.rd, (.sl 84 q3))] [.bool] .uniq a = laws_eqPartS a := by kernel_rfl
theorem s75 : Sound Tryz.prog GLB 75 pf75 := sound_fun (F := F75) (envOK ⟨s38, trivial⟩ trivial trivial trivial) Tryz.func75 (by kernel_rfl) (fun a o h => (e75 a).trans h)
def F188 : FEnv := ⟨⟨TYS, [], EQS, [], [], false, []⟩, [(4, [.slot 5 .i64 (.imm false)])]⟩
def pf188 : PF := ⟨[(.rd, (.sl 5 .u8)), (.rd, (.sl 5 .u8))], [.bool], .uniq, laws_eqByteS⟩
theorem e188 (a : argT [(.rd, (.sl 5 .u8)), (.rd, (.sl 5 .u8))]) : evFun F188 Tryz.f188 [(.rd, (.sl 5 .u8)), (.rd, (.sl 5 .u8))] [.bool] .uniq a = laws_eqByteS a := by kernel_rfl
theorem s188 : Sound Tryz.prog GLB 188 pf188 := sound_fun (F := F188) (envOK trivial trivial trivial trivial) Tryz.func188 (by kernel_rfl) (fun a o h => (e188 a).trans h)
def F76 : FEnv := ⟨⟨TYS, [(188, pf188)], EQS, [], [], false, []⟩, []⟩
def pf76 : PF := ⟨[(.rd, q7), (.rd, q7)], [.bool], .uniq, laws_eqDisk⟩
theorem e76 (a : argT [(.rd, q7), (.rd, q7)]) : evFun F76 Tryz.f76 [(.rd, q7), (.rd, q7)] [.bool] .uniq a = laws_eqDisk a := by kernel_rfl
theorem s76 : Sound Tryz.prog GLB 76 pf76 := sound_fun (F := F76) (envOK ⟨s188, trivial⟩ trivial trivial trivial) Tryz.func76 (by kernel_rfl) (fun a o h => (e76 a).trans h)
def F44 : FEnv := ⟨⟨TYS, [(21, pf21)], EQS, [], [], false, []⟩, []⟩
def pf44 : PF := ⟨[(.rd, (.pair .str q3)), (.rd, (.pair .str q3))], [.bool], .uniq, laws_eqBlock⟩
theorem e44 (a : argT [(.rd, (.pair .str q3)), (.rd, (.pair .str q3))]) : evFun F44 Tryz.f44 [(.rd, (.pair .str q3)), (.rd, (.pair .str q3))] [.bool] .uniq a = laws_eqBlock a := by kernel_rfl
theorem s44 : Sound Tryz.prog GLB 44 pf44 := sound_fun (F := F44) (envOK ⟨s21, trivial⟩ trivial trivial trivial) Tryz.func44 (by kernel_rfl) (fun a o h => (e44 a).trans h)
def F50 : FEnv := ⟨⟨TYS, [(44, pf44), (38, pf38), (21, pf21), (154, pf154)], EQS, [], [], false, []⟩, []⟩
def pf50 : PF := ⟨[(.rd, q1), (.rd, q1)], [.bool], .uniq, laws_eqMsg⟩
theorem e50 (a : argT [(.rd, q1), (.rd, q1)]) : evFun F50 Tryz.f50 [(.rd, q1), (.rd, q1)] [.bool] .uniq a = laws_eqMsg a := by kernel_rfl
theorem s50 : Sound Tryz.prog GLB 50 pf50 := sound_fun (F := F50) (envOK ⟨s44, s38, s21, s154, trivial⟩ trivial trivial trivial) Tryz.func50 (by kernel_rfl) (fun a o h => (e50 a).trans h)
def F124 : FEnv := ⟨⟨TYS, [(50, pf50)], EQS, [], [], false, []⟩, []⟩
def pf124 : PF := ⟨[(.rd, (.pair .i64 q1)), (.rd, (.pair .i64 q1))], [.bool], .uniq, laws_eqPost⟩
theorem e124 (a : argT [(.rd, (.pair .i64 q1)), (.rd, (.pair .i64 q1))]) : evFun F124 Tryz.f124 [(.rd, (.pair .i64 q1)), (.rd, (.pair .i64 q1))] [.bool] .uniq a = laws_eqPost a := by kernel_rfl
theorem s124 : Sound Tryz.prog GLB 124 pf124 := sound_fun (F := F124) (envOK ⟨s50, trivial⟩ trivial trivial trivial) Tryz.func124 (by kernel_rfl) (fun a o h => (e124 a).trans h)
def F30 : FEnv := ⟨⟨TYS, [(124, pf124)], EQS, [], [], false, []⟩, [(4, [.slot 5 .i64 (.imm false)])]⟩
def pf30 : PF := ⟨[(.rd, q8), (.rd, q8)], [.bool], .uniq, laws_eqPostS⟩
theorem e30 (a : argT [(.rd, q8), (.rd, q8)]) : evFun F30 Tryz.f30 [(.rd, q8), (.rd, q8)] [.bool] .uniq a = laws_eqPostS a := by kernel_rfl
theorem s30 : Sound Tryz.prog GLB 30 pf30 := sound_fun (F := F30) (envOK ⟨s124, trivial⟩ trivial trivial trivial) Tryz.func30 (by kernel_rfl) (fun a o h => (e30 a).trans h)
def F14 : FEnv := ⟨⟨TYS, [(73, pf73), (74, pf74), (75, pf75), (76, pf76), (30, pf30)], EQS, [], [], false, []⟩, []⟩
def pf14 : PF := ⟨[(.rd, q2), (.rd, q2)], [.bool], .uniq, laws_eqRep⟩
theorem e14 (a : argT [(.rd, q2), (.rd, q2)]) : evFun F14 Tryz.f14 [(.rd, q2), (.rd, q2)] [.bool] .uniq a = laws_eqRep a := by kernel_rfl
theorem s14 : Sound Tryz.prog GLB 14 pf14 := sound_fun (F := F14) (envOK ⟨s73, s74, s75, s76, s30, trivial⟩ trivial trivial trivial) Tryz.func14 (by kernel_rfl) (fun a o h => (e14 a).trans h)
def F105 : FEnv := ⟨⟨TYS, [], EQS, [], [], false, []⟩, [(2, [.slot 1 .i64 (.imm false), .slot 5 .i64 (.imm false), .row 0 3 .i64 .lent])]⟩
def pf105 : MF := ⟨(.sl 3 .i64), laws_markIntS⟩
theorem e105 (a : den (.sl 3 .i64) × Int × Unit) : evTurnFun F105 Tryz.f105 (.sl 3 .i64) a = laws_markIntS a := by kernel_rfl
theorem s105 : SoundM Tryz.prog GLB 105 pf105 := sound_funM (F := F105) (envOK trivial trivial trivial trivial) Tryz.func105 (by kernel_rfl) (fun a o h => (e105 a).trans h)
def F22 : FEnv := ⟨⟨TYS, [], EQS, [], [(105, pf105)], false, []⟩, []⟩
def pf22 : MF := ⟨q3, laws_markQc⟩
theorem e22 (a : den q3 × Int × Unit) : evTurnFun F22 Tryz.f22 q3 a = laws_markQc a := by kernel_rfl
theorem s22 : SoundM Tryz.prog GLB 22 pf22 := sound_funM (F := F22) (envOK trivial trivial s105 trivial) Tryz.func22 (by kernel_rfl) (fun a o h => (e22 a).trans h)
def F77 : FEnv := ⟨⟨TYS, [], EQS, [], [(22, pf22)], false, []⟩, []⟩
def pf77 : MF := ⟨q5, laws_markSafe⟩
theorem e77 (a : den q5 × Int × Unit) : evTurnFun F77 Tryz.f77 q5 a = laws_markSafe a := by kernel_rfl
theorem s77 : SoundM Tryz.prog GLB 77 pf77 := sound_funM (F := F77) (envOK trivial trivial s22 trivial) Tryz.func77 (by kernel_rfl) (fun a o h => (e77 a).trans h)
def F78 : FEnv := ⟨⟨TYS, [], EQS, [], [], false, []⟩, [(2, [.slot 1 .i64 (.imm false), .slot 5 .i64 (.imm false), .row 0 105 q4 .lent])]⟩
def pf78 : MF := ⟨(.sl 105 q4), laws_markTxS⟩
theorem e78 (a : den (.sl 105 q4) × Int × Unit) : evTurnFun F78 Tryz.f78 (.sl 105 q4) a = laws_markTxS a := by kernel_rfl
theorem s78 : SoundM Tryz.prog GLB 78 pf78 := sound_funM (F := F78) (envOK trivial trivial trivial trivial) Tryz.func78 (by kernel_rfl) (fun a o h => (e78 a).trans h)
def F128 : FEnv := ⟨⟨TYS, [], EQS, [], [], false, []⟩, [(4, [.slot 0 .i64 (.imm false), .slot 3 .str (.imm false)])]⟩
def pf128 : PF := ⟨[(.rd, .i64)], [.str], .uniq, laws_markText⟩
theorem e128 (a : argT [(.rd, .i64)]) : evFun F128 Tryz.f128 [(.rd, .i64)] [.str] .uniq a = laws_markText a := by kernel_rfl
theorem s128 : Sound Tryz.prog GLB 128 pf128 := sound_fun (F := F128) (envOK trivial trivial trivial trivial) Tryz.func128 (by kernel_rfl) (fun a o h => (e128 a).trans h)
def F79 : FEnv := ⟨⟨TYS, [(128, pf128)], EQS, [], [(105, pf105)], false, []⟩, [(2, [.slot 1 .i64 (.imm false), .slot 5 .i64 (.imm false), .row 0 84 q3 .lent])]⟩
def pf79 : MF := ⟨(.sl 84 q3), laws_markPartS⟩
theorem e79 (a : den (.sl 84 q3) × Int × Unit) : evTurnFun F79 Tryz.f79 (.sl 84 q3) a = laws_markPartS a := by kernel_rfl
theorem s79 : SoundM Tryz.prog GLB 79 pf79 := sound_funM (F := F79) (envOK ⟨s128, trivial⟩ trivial s105 trivial) Tryz.func79 (by kernel_rfl) (fun a o h => (e79 a).trans h)
def F189 : FEnv := ⟨⟨TYS, [], EQS, [], [], false, []⟩, [(2, [.slot 1 .i64 (.imm false), .slot 5 .i64 (.imm false), .row 0 5 .u8 .lent])]⟩
def pf189 : MF := ⟨(.sl 5 .u8), laws_markByteS⟩
theorem e189 (a : den (.sl 5 .u8) × Int × Unit) : evTurnFun F189 Tryz.f189 (.sl 5 .u8) a = laws_markByteS a := by kernel_rfl
theorem s189 : SoundM Tryz.prog GLB 189 pf189 := sound_funM (F := F189) (envOK trivial trivial trivial trivial) Tryz.func189 (by kernel_rfl) (fun a o h => (e189 a).trans h)
def F80 : FEnv := ⟨⟨TYS, [], EQS, [], [(189, pf189)], false, []⟩, []⟩
def pf80 : MF := ⟨q7, laws_markDisk⟩
theorem e80 (a : den q7 × Int × Unit) : evTurnFun F80 Tryz.f80 q7 a = laws_markDisk a := by kernel_rfl
theorem s80 : SoundM Tryz.prog GLB 80 pf80 := sound_funM (F := F80) (envOK trivial trivial s189 trivial) Tryz.func80 (by kernel_rfl) (fun a o h => (e80 a).trans h)
def F32 : FEnv := ⟨⟨TYS, [(128, pf128)], EQS, [], [(105, pf105)], false, []⟩, [(2, [.slot 1 .i64 (.imm false), .slot 5 .i64 (.imm false), .row 0 163 (.pair .i64 q1) .lent])]⟩
def pf32 : MF := ⟨q8, laws_markPostS⟩
theorem e32 (a : den q8 × Int × Unit) : evTurnFun F32 Tryz.f32 q8 a = laws_markPostS a := by kernel_rfl
theorem s32 : SoundM Tryz.prog GLB 32 pf32 := sound_funM (F := F32) (envOK ⟨s128, trivial⟩ trivial s105 trivial) Tryz.func32 (by kernel_rfl) (fun a o h => (e32 a).trans h)
def F15 : FEnv := ⟨⟨TYS, [], EQS, [], [(77, pf77), (78, pf78), (79, pf79), (80, pf80), (32, pf32)], false, []⟩, []⟩
def pf15 : MF := ⟨q2, laws_markRep⟩
theorem e15 (a : den q2 × Int × Unit) : evTurnFun F15 Tryz.f15 q2 a = laws_markRep a := by kernel_rfl
theorem s15 : SoundM Tryz.prog GLB 15 pf15 := sound_funM (F := F15) (envOK trivial trivial ⟨s77, s78, s79, s80, s32⟩ trivial) Tryz.func15 (by kernel_rfl) (fun a o h => (e15 a).trans h)
def F129 : FEnv := ⟨⟨TYS, [], EQS, [], [], false, []⟩, [(2, [.slot 1 .i64 (.imm false), .slot 5 .i64 (.imm false)])]⟩
def pf129 : PF := ⟨[(.rd, (.sl 3 .i64)), (.rd, .i64)], [.i64], .uniq, laws_heldIntS⟩
theorem e129 (a : argT [(.rd, (.sl 3 .i64)), (.rd, .i64)]) : evFun F129 Tryz.f129 [(.rd, (.sl 3 .i64)), (.rd, .i64)] [.i64] .uniq a = laws_heldIntS a := by kernel_rfl
theorem s129 : Sound Tryz.prog GLB 129 pf129 := sound_fun (F := F129) (envOK trivial trivial trivial trivial) Tryz.func129 (by kernel_rfl) (fun a o h => (e129 a).trans h)
def F190 : FEnv := ⟨⟨TYS, [(129, pf129)], EQS, [], [], false, []⟩, []⟩
def pf190 : PF := ⟨[(.rd, q3), (.rd, .i64)], [.i64], .uniq, laws_heldQc⟩
theorem e190 (a : argT [(.rd, q3), (.rd, .i64)]) : evFun F190 Tryz.f190 [(.rd, q3), (.rd, .i64)] [.i64] .uniq a = laws_heldQc a := by kernel_rfl
theorem s190 : Sound Tryz.prog GLB 190 pf190 := sound_fun (F := F190) (envOK ⟨s129, trivial⟩ trivial trivial trivial) Tryz.func190 (by kernel_rfl) (fun a o h => (e190 a).trans h)
def F81 : FEnv := ⟨⟨TYS, [(190, pf190)], EQS, [], [], false, []⟩, []⟩
def pf81 : PF := ⟨[(.rd, q5), (.rd, .i64)], [.i64], .uniq, laws_heldSafe⟩
theorem e81 (a : argT [(.rd, q5), (.rd, .i64)]) : evFun F81 Tryz.f81 [(.rd, q5), (.rd, .i64)] [.i64] .uniq a = laws_heldSafe a := by kernel_rfl
theorem s81 : Sound Tryz.prog GLB 81 pf81 := sound_fun (F := F81) (envOK ⟨s190, trivial⟩ trivial trivial trivial) Tryz.func81 (by kernel_rfl) (fun a o h => (e81 a).trans h)
def F82 : FEnv := ⟨⟨TYS, [], EQS, [], [], false, []⟩, [(2, [.slot 1 .i64 (.imm false), .slot 5 .i64 (.imm false)])]⟩
def pf82 : PF := ⟨[(.rd, (.sl 105 q4)), (.rd, .i64)], [.i64], .uniq, laws_heldTxS⟩
theorem e82 (a : argT [(.rd, (.sl 105 q4)), (.rd, .i64)]) : evFun F82 Tryz.f82 [(.rd, (.sl 105 q4)), (.rd, .i64)] [.i64] .uniq a = laws_heldTxS a := by kernel_rfl
theorem s82 : Sound Tryz.prog GLB 82 pf82 := sound_fun (F := F82) (envOK trivial trivial trivial trivial) Tryz.func82 (by kernel_rfl) (fun a o h => (e82 a).trans h)
def F83 : FEnv := ⟨⟨TYS, [(128, pf128), (129, pf129)], EQS, [], [], false, []⟩, [(2, [.slot 1 .i64 (.imm false), .slot 5 .i64 (.imm false)])]⟩
def pf83 : PF := ⟨[(.rd, (.sl 84 q3)), (.rd, .i64)], [.i64], .uniq, laws_heldPartS⟩
theorem e83 (a : argT [(.rd, (.sl 84 q3)), (.rd, .i64)]) : evFun F83 Tryz.f83 [(.rd, (.sl 84 q3)), (.rd, .i64)] [.i64] .uniq a = laws_heldPartS a := by kernel_rfl
theorem s83 : Sound Tryz.prog GLB 83 pf83 := sound_fun (F := F83) (envOK ⟨s128, s129, trivial⟩ trivial trivial trivial) Tryz.func83 (by kernel_rfl) (fun a o h => (e83 a).trans h)
def F191 : FEnv := ⟨⟨TYS, [], EQS, [], [], false, []⟩, [(2, [.slot 1 .i64 (.imm false), .slot 5 .i64 (.imm false)])]⟩
def pf191 : PF := ⟨[(.rd, (.sl 5 .u8)), (.rd, .i64)], [.i64], .uniq, laws_heldByteS⟩
theorem e191 (a : argT [(.rd, (.sl 5 .u8)), (.rd, .i64)]) : evFun F191 Tryz.f191 [(.rd, (.sl 5 .u8)), (.rd, .i64)] [.i64] .uniq a = laws_heldByteS a := by kernel_rfl
theorem s191 : Sound Tryz.prog GLB 191 pf191 := sound_fun (F := F191) (envOK trivial trivial trivial trivial) Tryz.func191 (by kernel_rfl) (fun a o h => (e191 a).trans h)
def F84 : FEnv := ⟨⟨TYS, [(191, pf191)], EQS, [], [], false, []⟩, []⟩
def pf84 : PF := ⟨[(.rd, q7), (.rd, .i64)], [.i64], .uniq, laws_heldDisk⟩
theorem e84 (a : argT [(.rd, q7), (.rd, .i64)]) : evFun F84 Tryz.f84 [(.rd, q7), (.rd, .i64)] [.i64] .uniq a = laws_heldDisk a := by kernel_rfl
theorem s84 : Sound Tryz.prog GLB 84 pf84 := sound_fun (F := F84) (envOK ⟨s191, trivial⟩ trivial trivial trivial) Tryz.func84 (by kernel_rfl) (fun a o h => (e84 a).trans h)
def F85 : FEnv := ⟨⟨TYS, [(128, pf128), (129, pf129)], EQS, [], [], false, []⟩, [(2, [.slot 1 .i64 (.imm false), .slot 5 .i64 (.imm false)])]⟩
def pf85 : PF := ⟨[(.rd, q8), (.rd, .i64)], [.i64], .uniq, laws_heldPostS⟩
theorem e85 (a : argT [(.rd, q8), (.rd, .i64)]) : evFun F85 Tryz.f85 [(.rd, q8), (.rd, .i64)] [.i64] .uniq a = laws_heldPostS a := by kernel_rfl
theorem s85 : Sound Tryz.prog GLB 85 pf85 := sound_fun (F := F85) (envOK ⟨s128, s129, trivial⟩ trivial trivial trivial) Tryz.func85 (by kernel_rfl) (fun a o h => (e85 a).trans h)
def F16 : FEnv := ⟨⟨TYS, [(81, pf81), (82, pf82), (83, pf83), (84, pf84), (85, pf85)], EQS, [], [], false, []⟩, []⟩
def pf16 : PF := ⟨[(.rd, q2), (.rd, .i64)], [.i64], .uniq, laws_heldRep⟩
theorem e16 (a : argT [(.rd, q2), (.rd, .i64)]) : evFun F16 Tryz.f16 [(.rd, q2), (.rd, .i64)] [.i64] .uniq a = laws_heldRep a := by kernel_rfl
theorem s16 : Sound Tryz.prog GLB 16 pf16 := sound_fun (F := F16) (envOK ⟨s81, s82, s83, s84, s85, trivial⟩ trivial trivial trivial) Tryz.func16 (by kernel_rfl) (fun a o h => (e16 a).trans h)
def F3 : FEnv := ⟨⟨TYS, [(9, pf9), (11, pf11), (12, pf12), (10, pf10), (13, pf13), (14, pf14), (16, pf16)], EQS, [], [(15, pf15)], false, []⟩, []⟩
def pf3 : PF := ⟨[(.rd, (.pair .i64 .i64)), (.rd, q6), (.rd, .i64), (.rd, .str), (.rd, .bool)], [.bool], .uniq, laws_FnExactClimb⟩
theorem e3 (a : argT [(.rd, (.pair .i64 .i64)), (.rd, q6), (.rd, .i64), (.rd, .str), (.rd, .bool)]) : evFun F3 Tryz.f3 [(.rd, (.pair .i64 .i64)), (.rd, q6), (.rd, .i64), (.rd, .str), (.rd, .bool)] [.bool] .uniq a = laws_FnExactClimb a := by kernel_rfl
theorem s3 : Sound Tryz.prog GLB 3 pf3 := sound_fun (F := F3) (envOK ⟨s9, s11, s12, s10, s13, s14, s16, trivial⟩ trivial s15 trivial) Tryz.func3 (by kernel_rfl) (fun a o h => (e3 a).trans h)

end
end G448
