/- That the printed functions are what the evaluator reckons. (Printed by our own program.) -/
import Derived.Test.YtomfhpabkkanfaaGreatDoorProg
import Derived.Test.YtomfhpabkkanfaaGreatDoorHxFns
import Derived.Test.YtomfhpabkkanfaaGreatDoorSh
import Derived.KernelRfl
set_option linter.unusedSimpArgs false
set_option linter.unusedVariables false

namespace G448
open Ev Go Go.Proofs
set_option linter.unusedVariables false
set_option maxRecDepth 100000
noncomputable section

abbrev q1 : Ty := (.pair .i64 (.pair .i64 (.pair (.pair .str (.pair .i64 (.pair .str (.sl 3 .i64)))) (.pair (.pair .i64 (.pair .str (.sl 3 .i64))) (.pair (.pair .i64 (.pair .str (.sl 3 .i64))) (.pair .i64 (.pair .i64 (.pair .i64 (.pair .i64 .i64)))))))))
abbrev q2 : Ty := (.pair .i64 (.pair .i64 (.pair .i64 (.pair (.pair .i64 (.pair .i64 (.pair (.pair .i64 (.pair .str (.sl 3 .i64))) .str))) (.pair (.sl 63 (.pair .i64 (.pair .i64 (.pair .i64 .i64)))) (.pair (.sl 62 (.pair .i64 (.pair .str (.sl 3 .i64)))) (.pair (.pair (.sl 5 .u8) .i64) (.sl 104 (.pair .i64 q1)))))))))
abbrev q3 : Ty := (.pair .i64 (.pair .str (.sl 3 .i64)))
abbrev q4 : Ty := (.pair .i64 (.pair .i64 (.pair .i64 .i64)))
abbrev q5 : Ty := (.pair .i64 (.pair .i64 (.pair q3 .str)))
abbrev q6 : Ty := (.pair .i64 (.pair .i64 (.pair .i64 (.pair q5 (.pair (.sl 41 q4) (.pair (.sl 39 q3) (.pair (.pair (.sl 5 .u8) .i64) (.sl 135 (.pair .i64 q1)))))))))
abbrev q7 : Ty := (.pair (.sl 5 .u8) .i64)
abbrev q8 : Ty := (.sl 104 (.pair .i64 q1))
def TYS : List (Nat × TD) := [(3, ⟨.i64, 8, [], none⟩), (4, ⟨.bool, 1, [], none⟩), (5, ⟨.u8, 1, [], none⟩), (9, ⟨.str, 16, [], none⟩), (23, ⟨(.pair .i64 .i64), 16, [(0, 3), (1, 3)], none⟩), (24, ⟨(.sl 3 .i64), 24, [], none⟩), (26, ⟨(.pair .i64 (.pair .str (.sl 3 .i64))), 48, [(0, 3), (1, 9), (2, 24)], none⟩), (28, ⟨(.pair .i64 (.pair .i64 (.pair (.pair .i64 (.pair .str (.sl 3 .i64))) .str))), 80, [(0, 3), (1, 3), (2, 26), (5, 9)], none⟩), (29, ⟨(.sl 41 (.pair .i64 (.pair .i64 (.pair .i64 .i64)))), 24, [], none⟩), (30, ⟨(.sl 39 (.pair .i64 (.pair .str (.sl 3 .i64)))), 24, [], none⟩), (31, ⟨(.sl 5 .u8), 24, [], none⟩), (33, ⟨(.pair (.sl 5 .u8) .i64), 32, [(0, 31), (1, 3)], none⟩), (34, ⟨(.sl 135 (.pair .i64 (.pair .i64 (.pair .i64 (.pair (.pair .str (.pair .i64 (.pair .str (.sl 3 .i64)))) (.pair (.pair .i64 (.pair .str (.sl 3 .i64))) (.pair (.pair .i64 (.pair .str (.sl 3 .i64))) (.pair .i64 (.pair .i64 (.pair .i64 (.pair .i64 .i64))))))))))), 24, [], none⟩), (36, ⟨(.pair .i64 (.pair .i64 (.pair .i64 (.pair (.pair .i64 (.pair .i64 (.pair (.pair .i64 (.pair .str (.sl 3 .i64))) .str))) (.pair (.sl 41 (.pair .i64 (.pair .i64 (.pair .i64 .i64)))) (.pair (.sl 39 (.pair .i64 (.pair .str (.sl 3 .i64)))) (.pair (.pair (.sl 5 .u8) .i64) (.sl 135 (.pair .i64 (.pair .i64 (.pair .i64 (.pair (.pair .str (.pair .i64 (.pair .str (.sl 3 .i64)))) (.pair (.pair .i64 (.pair .str (.sl 3 .i64))) (.pair (.pair .i64 (.pair .str (.sl 3 .i64))) (.pair .i64 (.pair .i64 (.pair .i64 (.pair .i64 .i64)))))))))))))))))), 208, [(0, 3), (1, 3), (2, 3), (3, 28), (9, 29), (10, 30), (11, 33), (13, 34)], none⟩), (38, ⟨(.pair .str (.pair .i64 (.pair .str (.sl 3 .i64)))), 64, [(0, 9), (1, 26)], none⟩), (39, ⟨(.pair .i64 (.pair .str (.sl 3 .i64))), 48, [(0, 3), (1, 9), (2, 24)], none⟩), (41, ⟨(.pair .i64 (.pair .i64 (.pair .i64 .i64))), 32, [(0, 3), (1, 3), (2, 3), (3, 3)], none⟩), (43, ⟨(.pair .i64 (.pair .i64 (.pair (.pair .str (.pair .i64 (.pair .str (.sl 3 .i64)))) (.pair (.pair .i64 (.pair .str (.sl 3 .i64))) (.pair (.pair .i64 (.pair .str (.sl 3 .i64))) (.pair .i64 (.pair .i64 (.pair .i64 (.pair .i64 .i64))))))))), 216, [(0, 3), (1, 3), (2, 38), (6, 39), (9, 26), (12, 3), (13, 41)], none⟩), (46, ⟨(.pair .i64 (.pair .str (.sl 3 .i64))), 48, [(0, 3), (1, 9), (2, 24)], none⟩), (48, ⟨(.pair .i64 (.pair .i64 (.pair (.pair .i64 (.pair .str (.sl 3 .i64))) .str))), 80, [(0, 3), (1, 3), (2, 46), (5, 9)], none⟩), (49, ⟨(.sl 63 (.pair .i64 (.pair .i64 (.pair .i64 .i64)))), 24, [], none⟩), (50, ⟨(.sl 62 (.pair .i64 (.pair .str (.sl 3 .i64)))), 24, [], none⟩), (51, ⟨(.pair (.sl 5 .u8) .i64), 32, [(0, 31), (1, 3)], none⟩), (52, ⟨(.sl 104 (.pair .i64 (.pair .i64 (.pair .i64 (.pair (.pair .str (.pair .i64 (.pair .str (.sl 3 .i64)))) (.pair (.pair .i64 (.pair .str (.sl 3 .i64))) (.pair (.pair .i64 (.pair .str (.sl 3 .i64))) (.pair .i64 (.pair .i64 (.pair .i64 (.pair .i64 .i64))))))))))), 24, [], none⟩), (54, ⟨(.pair .i64 (.pair .i64 (.pair .i64 (.pair (.pair .i64 (.pair .i64 (.pair (.pair .i64 (.pair .str (.sl 3 .i64))) .str))) (.pair (.sl 63 (.pair .i64 (.pair .i64 (.pair .i64 .i64)))) (.pair (.sl 62 (.pair .i64 (.pair .str (.sl 3 .i64)))) (.pair (.pair (.sl 5 .u8) .i64) (.sl 104 (.pair .i64 (.pair .i64 (.pair .i64 (.pair (.pair .str (.pair .i64 (.pair .str (.sl 3 .i64)))) (.pair (.pair .i64 (.pair .str (.sl 3 .i64))) (.pair (.pair .i64 (.pair .str (.sl 3 .i64))) (.pair .i64 (.pair .i64 (.pair .i64 (.pair .i64 .i64)))))))))))))))))), 208, [(0, 3), (1, 3), (2, 3), (3, 48), (9, 49), (10, 50), (11, 51), (13, 52)], none⟩), (57, ⟨(.pair .i64 .i64), 16, [(0, 3), (1, 3)], none⟩), (61, ⟨(.pair .str (.pair .i64 (.pair .str (.sl 3 .i64)))), 64, [(0, 9), (1, 46)], none⟩), (62, ⟨(.pair .i64 (.pair .str (.sl 3 .i64))), 48, [(0, 3), (1, 9), (2, 24)], none⟩), (63, ⟨(.pair .i64 (.pair .i64 (.pair .i64 .i64))), 32, [(0, 3), (1, 3), (2, 3), (3, 3)], none⟩), (65, ⟨(.pair .i64 (.pair .i64 (.pair (.pair .str (.pair .i64 (.pair .str (.sl 3 .i64)))) (.pair (.pair .i64 (.pair .str (.sl 3 .i64))) (.pair (.pair .i64 (.pair .str (.sl 3 .i64))) (.pair .i64 (.pair .i64 (.pair .i64 (.pair .i64 .i64))))))))), 216, [(0, 3), (1, 3), (2, 61), (6, 62), (9, 46), (12, 3), (13, 63)], none⟩), (104, ⟨(.pair .i64 (.pair .i64 (.pair .i64 (.pair (.pair .str (.pair .i64 (.pair .str (.sl 3 .i64)))) (.pair (.pair .i64 (.pair .str (.sl 3 .i64))) (.pair (.pair .i64 (.pair .str (.sl 3 .i64))) (.pair .i64 (.pair .i64 (.pair .i64 (.pair .i64 .i64)))))))))), 224, [(0, 3), (1, 65)], none⟩), (135, ⟨(.pair .i64 (.pair .i64 (.pair .i64 (.pair (.pair .str (.pair .i64 (.pair .str (.sl 3 .i64)))) (.pair (.pair .i64 (.pair .str (.sl 3 .i64))) (.pair (.pair .i64 (.pair .str (.sl 3 .i64))) (.pair .i64 (.pair .i64 (.pair .i64 (.pair .i64 .i64)))))))))), 224, [(0, 3), (1, 43)], none⟩), (184, ⟨(.pair (.sl 5 .u8) (.pair .i64 .bool)), 40, [(0, 31), (1, 3), (2, 4)], none⟩), (190, ⟨(.pair (.sl 5 .u8) (.pair .i64 .bool)), 40, [(0, 31), (1, 3), (2, 4)], none⟩), (200, ⟨(.sl 208 (.pair .i64 (.sl 63 (.pair .i64 (.pair .i64 (.pair .i64 .i64)))))), 24, [], none⟩), (208, ⟨(.pair .i64 (.sl 63 (.pair .i64 (.pair .i64 (.pair .i64 .i64))))), 32, [(0, 3), (1, 49)], none⟩), (210, ⟨(.sl 9 .str), 24, [], none⟩), (230, ⟨(.sl 3 .i64), 32, [], some 4⟩)]
def EQS : List Nat := [63]
theorem tysOK : tysOk Tryz.prog TYS = true := by kernel_rfl
theorem tilesOK : tilesOk TYS = true := by kernel_rfl
theorem eqsOK : EQS.all (eqOk Tryz.prog TYS) = true := by kernel_rfl
theorem mixedOK : Tryz.prog.follows .mixedOrders = true := by kernel_rfl
theorem envOK {fns : List (Nat × PF)} {news : List (Nat × NF)} {muts : List (Nat × MF)} {frz : Bool} {conds : List (Nat × PF)} (h : AllS Tryz.prog GLB fns) (h2 : AllN Tryz.prog GLB news) (h3 : AllM Tryz.prog GLB muts) (h4 : AllC Tryz.prog GLB conds) : EnvOk Tryz.prog GLB ⟨TYS, fns, EQS, news, muts, frz, conds⟩ := envOk_of mixedOK tysOK eqsOK h h2 h3 h4

def F93 : FEnv := ⟨⟨TYS, [], EQS, [], [], false, []⟩, []⟩
def pf93 : PF := ⟨[(.rd, (.sl 3 .i64)), (.rd, .i64)], [.i64], .uniq, laws_szIntS⟩
theorem e93 (a : argT [(.rd, (.sl 3 .i64)), (.rd, .i64)]) : evFun F93 Tryz.f93 [(.rd, (.sl 3 .i64)), (.rd, .i64)] [.i64] .uniq a = laws_szIntS a := by kernel_rfl
theorem s93 : Sound Tryz.prog GLB 93 pf93 := sound_fun (F := F93) (envOK trivial trivial trivial trivial) Tryz.func93 (by kernel_rfl) (fun a o h => (e93 a).trans h)
def F42 : FEnv := ⟨⟨TYS, [(93, pf93)], EQS, [], [], false, []⟩, []⟩
def pf42 : PF := ⟨[(.rd, q3), (.rd, .i64)], [.i64], .uniq, laws_szQc⟩
theorem e42 (a : argT [(.rd, q3), (.rd, .i64)]) : evFun F42 Tryz.f42 [(.rd, q3), (.rd, .i64)] [.i64] .uniq a = laws_szQc a := by kernel_rfl
theorem s42 : Sound Tryz.prog GLB 42 pf42 := sound_fun (F := F42) (envOK ⟨s93, trivial⟩ trivial trivial trivial) Tryz.func42 (by kernel_rfl) (fun a o h => (e42 a).trans h)
def F23 : FEnv := ⟨⟨TYS, [(42, pf42)], EQS, [], [], false, []⟩, []⟩
def pf23 : PF := ⟨[(.rd, q5), (.rd, .i64)], [.i64], .uniq, laws_szSafe⟩
theorem e23 (a : argT [(.rd, q5), (.rd, .i64)]) : evFun F23 Tryz.f23 [(.rd, q5), (.rd, .i64)] [.i64] .uniq a = laws_szSafe a := by kernel_rfl
theorem s23 : Sound Tryz.prog GLB 23 pf23 := sound_fun (F := F23) (envOK ⟨s42, trivial⟩ trivial trivial trivial) Tryz.func23 (by kernel_rfl) (fun a o h => (e23 a).trans h)
def F36 : FEnv := ⟨⟨TYS, [], EQS, [], [], false, []⟩, []⟩
def pf36 : PF := ⟨[(.rd, (.sl 41 q4)), (.rd, .i64)], [.i64], .uniq, laws_szTxS⟩
theorem e36 (a : argT [(.rd, (.sl 41 q4)), (.rd, .i64)]) : evFun F36 Tryz.f36 [(.rd, (.sl 41 q4)), (.rd, .i64)] [.i64] .uniq a = laws_szTxS a := by kernel_rfl
theorem s36 : Sound Tryz.prog GLB 36 pf36 := sound_fun (F := F36) (envOK trivial trivial trivial trivial) Tryz.func36 (by kernel_rfl) (fun a o h => (e36 a).trans h)
def F41 : FEnv := ⟨⟨TYS, [(93, pf93)], EQS, [], [], false, []⟩, []⟩
def pf41 : PF := ⟨[(.rd, q3), (.rd, .i64)], [.i64], .uniq, laws_szPart⟩
theorem e41 (a : argT [(.rd, q3), (.rd, .i64)]) : evFun F41 Tryz.f41 [(.rd, q3), (.rd, .i64)] [.i64] .uniq a = laws_szPart a := by kernel_rfl
theorem s41 : Sound Tryz.prog GLB 41 pf41 := sound_fun (F := F41) (envOK ⟨s93, trivial⟩ trivial trivial trivial) Tryz.func41 (by kernel_rfl) (fun a o h => (e41 a).trans h)
def F37 : FEnv := ⟨⟨TYS, [(41, pf41)], EQS, [], [], false, []⟩, [(5, [.slot 1 .i64 (.imm false), .slot 5 .i64 (.imm false)])]⟩
def pf37 : PF := ⟨[(.rd, (.sl 39 q3)), (.rd, .i64)], [.i64], .uniq, laws_szPartS⟩
theorem e37 (a : argT [(.rd, (.sl 39 q3)), (.rd, .i64)]) : evFun F37 Tryz.f37 [(.rd, (.sl 39 q3)), (.rd, .i64)] [.i64] .uniq a = laws_szPartS a := by kernel_rfl
theorem s37 : Sound Tryz.prog GLB 37 pf37 := sound_fun (F := F37) (envOK ⟨s41, trivial⟩ trivial trivial trivial) Tryz.func37 (by kernel_rfl) (fun a o h => (e37 a).trans h)
def F91 : FEnv := ⟨⟨TYS, [], EQS, [], [], false, []⟩, []⟩
def pf91 : PF := ⟨[(.rd, (.sl 5 .u8)), (.rd, .i64)], [.i64], .uniq, laws_szByteS⟩
theorem e91 (a : argT [(.rd, (.sl 5 .u8)), (.rd, .i64)]) : evFun F91 Tryz.f91 [(.rd, (.sl 5 .u8)), (.rd, .i64)] [.i64] .uniq a = laws_szByteS a := by kernel_rfl
theorem s91 : Sound Tryz.prog GLB 91 pf91 := sound_fun (F := F91) (envOK trivial trivial trivial trivial) Tryz.func91 (by kernel_rfl) (fun a o h => (e91 a).trans h)
def F38 : FEnv := ⟨⟨TYS, [(91, pf91)], EQS, [], [], false, []⟩, []⟩
def pf38 : PF := ⟨[(.rd, q7), (.rd, .i64)], [.i64], .uniq, laws_szDisk⟩
theorem e38 (a : argT [(.rd, q7), (.rd, .i64)]) : evFun F38 Tryz.f38 [(.rd, q7), (.rd, .i64)] [.i64] .uniq a = laws_szDisk a := by kernel_rfl
theorem s38 : Sound Tryz.prog GLB 38 pf38 := sound_fun (F := F38) (envOK ⟨s91, trivial⟩ trivial trivial trivial) Tryz.func38 (by kernel_rfl) (fun a o h => (e38 a).trans h)
def F40 : FEnv := ⟨⟨TYS, [(42, pf42)], EQS, [], [], false, []⟩, []⟩
def pf40 : PF := ⟨[(.rd, (.pair .str q3)), (.rd, .i64)], [.i64], .uniq, laws_szBlock⟩
theorem e40 (a : argT [(.rd, (.pair .str q3)), (.rd, .i64)]) : evFun F40 Tryz.f40 [(.rd, (.pair .str q3)), (.rd, .i64)] [.i64] .uniq a = laws_szBlock a := by kernel_rfl
theorem s40 : Sound Tryz.prog GLB 40 pf40 := sound_fun (F := F40) (envOK ⟨s42, trivial⟩ trivial trivial trivial) Tryz.func40 (by kernel_rfl) (fun a o h => (e40 a).trans h)
def F10 : FEnv := ⟨⟨TYS, [(40, pf40), (41, pf41), (42, pf42)], EQS, [], [], false, []⟩, []⟩
def pf10 : PF := ⟨[(.rd, q1), (.rd, .i64)], [.i64], .uniq, laws_szMsg⟩
theorem e10 (a : argT [(.rd, q1), (.rd, .i64)]) : evFun F10 Tryz.f10 [(.rd, q1), (.rd, .i64)] [.i64] .uniq a = laws_szMsg a := by kernel_rfl
theorem s10 : Sound Tryz.prog GLB 10 pf10 := sound_fun (F := F10) (envOK ⟨s40, s41, s42, trivial⟩ trivial trivial trivial) Tryz.func10 (by kernel_rfl) (fun a o h => (e10 a).trans h)
def F92 : FEnv := ⟨⟨TYS, [(10, pf10)], EQS, [], [], false, []⟩, []⟩
def pf92 : PF := ⟨[(.rd, (.pair .i64 q1)), (.rd, .i64)], [.i64], .uniq, laws_szPost⟩
theorem e92 (a : argT [(.rd, (.pair .i64 q1)), (.rd, .i64)]) : evFun F92 Tryz.f92 [(.rd, (.pair .i64 q1)), (.rd, .i64)] [.i64] .uniq a = laws_szPost a := by kernel_rfl
theorem s92 : Sound Tryz.prog GLB 92 pf92 := sound_fun (F := F92) (envOK ⟨s10, trivial⟩ trivial trivial trivial) Tryz.func92 (by kernel_rfl) (fun a o h => (e92 a).trans h)
def F39 : FEnv := ⟨⟨TYS, [(92, pf92)], EQS, [], [], false, []⟩, [(5, [.slot 1 .i64 (.imm false), .slot 5 .i64 (.imm false)])]⟩
def pf39 : PF := ⟨[(.rd, (.sl 135 (.pair .i64 q1))), (.rd, .i64)], [.i64], .uniq, laws_szPostS⟩
theorem e39 (a : argT [(.rd, (.sl 135 (.pair .i64 q1))), (.rd, .i64)]) : evFun F39 Tryz.f39 [(.rd, (.sl 135 (.pair .i64 q1))), (.rd, .i64)] [.i64] .uniq a = laws_szPostS a := by kernel_rfl
theorem s39 : Sound Tryz.prog GLB 39 pf39 := sound_fun (F := F39) (envOK ⟨s92, trivial⟩ trivial trivial trivial) Tryz.func39 (by kernel_rfl) (fun a o h => (e39 a).trans h)
def F9 : FEnv := ⟨⟨TYS, [(23, pf23), (36, pf36), (37, pf37), (38, pf38), (39, pf39)], EQS, [], [], false, []⟩, []⟩
def pf9 : PF := ⟨[(.rd, q6), (.rd, .i64)], [.i64], .uniq, laws_szRep⟩
theorem e9 (a : argT [(.rd, q6), (.rd, .i64)]) : evFun F9 Tryz.f9 [(.rd, q6), (.rd, .i64)] [.i64] .uniq a = laws_szRep a := by kernel_rfl
theorem s9 : Sound Tryz.prog GLB 9 pf9 := sound_fun (F := F9) (envOK ⟨s23, s36, s37, s38, s39, trivial⟩ trivial trivial trivial) Tryz.func9 (by kernel_rfl) (fun a o h => (e9 a).trans h)
def F12 : FEnv := ⟨⟨TYS, [], EQS, [], [], false, []⟩, []⟩
def pf12 : PF := ⟨[(.rd, (.pair .i64 .i64))], [(.pair .i64 .i64)], .uniq, laws_toConf⟩
theorem e12 (a : argT [(.rd, (.pair .i64 .i64))]) : evFun F12 Tryz.f12 [(.rd, (.pair .i64 .i64))] [(.pair .i64 .i64)] .uniq a = laws_toConf a := by kernel_rfl
theorem s12 : Sound Tryz.prog GLB 12 pf12 := sound_fun (F := F12) (envOK trivial trivial trivial trivial) Tryz.func12 (by kernel_rfl) (fun a o h => (e12 a).trans h)
def F108 : FEnv := ⟨⟨TYS, [], EQS, [], [], false, []⟩, [(3, [.slot 4 .i64 (.imm false), .row 1 3 .i64 (.own true)])]⟩
def pf108 : PF := ⟨[(.rd, (.sl 3 .i64))], [(.sl 3 .i64)], .uniq, laws_toIntS⟩
theorem e108 (a : argT [(.rd, (.sl 3 .i64))]) : evFun F108 Tryz.f108 [(.rd, (.sl 3 .i64))] [(.sl 3 .i64)] .uniq a = laws_toIntS a := by kernel_rfl
theorem s108 : Sound Tryz.prog GLB 108 pf108 := sound_fun (F := F108) (envOK trivial trivial trivial trivial) Tryz.func108 (by kernel_rfl) (fun a o h => (e108 a).trans h)
def F52 : FEnv := ⟨⟨TYS, [(108, pf108)], EQS, [], [], false, []⟩, []⟩
def pf52 : PF := ⟨[(.rd, q3)], [q3], .uniq, laws_toQc⟩
theorem e52 (a : argT [(.rd, q3)]) : evFun F52 Tryz.f52 [(.rd, q3)] [q3] .uniq a = laws_toQc a := by kernel_rfl
theorem s52 : Sound Tryz.prog GLB 52 pf52 := sound_fun (F := F52) (envOK ⟨s108, trivial⟩ trivial trivial trivial) Tryz.func52 (by kernel_rfl) (fun a o h => (e52 a).trans h)
def F25 : FEnv := ⟨⟨TYS, [(52, pf52)], EQS, [], [], false, []⟩, []⟩
def pf25 : PF := ⟨[(.rd, q5)], [q5], .uniq, laws_toSafe⟩
theorem e25 (a : argT [(.rd, q5)]) : evFun F25 Tryz.f25 [(.rd, q5)] [q5] .uniq a = laws_toSafe a := by kernel_rfl
theorem s25 : Sound Tryz.prog GLB 25 pf25 := sound_fun (F := F25) (envOK ⟨s52, trivial⟩ trivial trivial trivial) Tryz.func25 (by kernel_rfl) (fun a o h => (e25 a).trans h)
def F30 : FEnv := ⟨⟨TYS, [], EQS, [], [], false, []⟩, []⟩
def pf30 : PF := ⟨[(.rd, q4)], [q4], .uniq, laws_toTx⟩
theorem e30 (a : argT [(.rd, q4)]) : evFun F30 Tryz.f30 [(.rd, q4)] [q4] .uniq a = laws_toTx a := by kernel_rfl
theorem s30 : Sound Tryz.prog GLB 30 pf30 := sound_fun (F := F30) (envOK trivial trivial trivial trivial) Tryz.func30 (by kernel_rfl) (fun a o h => (e30 a).trans h)
def F46 : FEnv := ⟨⟨TYS, [(30, pf30)], EQS, [], [], false, []⟩, [(3, [.slot 4 .i64 (.imm false), .row 1 63 q4 (.own true)])]⟩
def pf46 : PF := ⟨[(.rd, (.sl 41 q4))], [(.sl 63 q4)], .uniq, laws_toTxS⟩
theorem e46 (a : argT [(.rd, (.sl 41 q4))]) : evFun F46 Tryz.f46 [(.rd, (.sl 41 q4))] [(.sl 63 q4)] .uniq a = laws_toTxS a := by kernel_rfl
theorem s46 : Sound Tryz.prog GLB 46 pf46 := sound_fun (F := F46) (envOK ⟨s30, trivial⟩ trivial trivial trivial) Tryz.func46 (by kernel_rfl) (fun a o h => (e46 a).trans h)
def F51 : FEnv := ⟨⟨TYS, [(108, pf108)], EQS, [], [], false, []⟩, []⟩
def pf51 : PF := ⟨[(.rd, q3)], [q3], .uniq, laws_toPart⟩
theorem e51 (a : argT [(.rd, q3)]) : evFun F51 Tryz.f51 [(.rd, q3)] [q3] .uniq a = laws_toPart a := by kernel_rfl
theorem s51 : Sound Tryz.prog GLB 51 pf51 := sound_fun (F := F51) (envOK ⟨s108, trivial⟩ trivial trivial trivial) Tryz.func51 (by kernel_rfl) (fun a o h => (e51 a).trans h)
def F47 : FEnv := ⟨⟨TYS, [(51, pf51)], EQS, [], [], false, []⟩, [(3, [.slot 4 .i64 (.imm false), .row 1 62 q3 (.own true)])]⟩
def pf47 : PF := ⟨[(.rd, (.sl 39 q3))], [(.sl 62 q3)], .uniq, laws_toPartS⟩
theorem e47 (a : argT [(.rd, (.sl 39 q3))]) : evFun F47 Tryz.f47 [(.rd, (.sl 39 q3))] [(.sl 62 q3)] .uniq a = laws_toPartS a := by kernel_rfl
theorem s47 : Sound Tryz.prog GLB 47 pf47 := sound_fun (F := F47) (envOK ⟨s51, trivial⟩ trivial trivial trivial) Tryz.func47 (by kernel_rfl) (fun a o h => (e47 a).trans h)
def F106 : FEnv := ⟨⟨TYS, [], EQS, [], [], false, []⟩, [(3, [.slot 4 .i64 (.imm false), .row 1 5 .u8 (.own true)])]⟩
def pf106 : PF := ⟨[(.rd, (.sl 5 .u8))], [(.sl 5 .u8)], .uniq, laws_toByteS⟩
theorem e106 (a : argT [(.rd, (.sl 5 .u8))]) : evFun F106 Tryz.f106 [(.rd, (.sl 5 .u8))] [(.sl 5 .u8)] .uniq a = laws_toByteS a := by kernel_rfl
theorem s106 : Sound Tryz.prog GLB 106 pf106 := sound_fun (F := F106) (envOK trivial trivial trivial trivial) Tryz.func106 (by kernel_rfl) (fun a o h => (e106 a).trans h)
def F48 : FEnv := ⟨⟨TYS, [(106, pf106)], EQS, [], [], false, []⟩, []⟩
def pf48 : PF := ⟨[(.rd, q7)], [q7], .uniq, laws_toDisk⟩
theorem e48 (a : argT [(.rd, q7)]) : evFun F48 Tryz.f48 [(.rd, q7)] [q7] .uniq a = laws_toDisk a := by kernel_rfl
theorem s48 : Sound Tryz.prog GLB 48 pf48 := sound_fun (F := F48) (envOK ⟨s106, trivial⟩ trivial trivial trivial) Tryz.func48 (by kernel_rfl) (fun a o h => (e48 a).trans h)
def F50 : FEnv := ⟨⟨TYS, [(52, pf52)], EQS, [], [], false, []⟩, []⟩
def pf50 : PF := ⟨[(.rd, (.pair .str q3))], [(.pair .str q3)], .uniq, laws_toBlock⟩
theorem e50 (a : argT [(.rd, (.pair .str q3))]) : evFun F50 Tryz.f50 [(.rd, (.pair .str q3))] [(.pair .str q3)] .uniq a = laws_toBlock a := by kernel_rfl
theorem s50 : Sound Tryz.prog GLB 50 pf50 := sound_fun (F := F50) (envOK ⟨s52, trivial⟩ trivial trivial trivial) Tryz.func50 (by kernel_rfl) (fun a o h => (e50 a).trans h)
def F14 : FEnv := ⟨⟨TYS, [(50, pf50), (51, pf51), (52, pf52), (30, pf30)], EQS, [], [], false, []⟩, []⟩
def pf14 : PF := ⟨[(.rd, q1)], [q1], .uniq, laws_toMsg⟩
theorem e14 (a : argT [(.rd, q1)]) : evFun F14 Tryz.f14 [(.rd, q1)] [q1] .uniq a = laws_toMsg a := by kernel_rfl
theorem s14 : Sound Tryz.prog GLB 14 pf14 := sound_fun (F := F14) (envOK ⟨s50, s51, s52, s30, trivial⟩ trivial trivial trivial) Tryz.func14 (by kernel_rfl) (fun a o h => (e14 a).trans h)
def F107 : FEnv := ⟨⟨TYS, [(14, pf14)], EQS, [], [], false, []⟩, []⟩
def pf107 : PF := ⟨[(.rd, (.pair .i64 q1))], [(.pair .i64 q1)], .uniq, laws_toPost⟩
theorem e107 (a : argT [(.rd, (.pair .i64 q1))]) : evFun F107 Tryz.f107 [(.rd, (.pair .i64 q1))] [(.pair .i64 q1)] .uniq a = laws_toPost a := by kernel_rfl
theorem s107 : Sound Tryz.prog GLB 107 pf107 := sound_fun (F := F107) (envOK ⟨s14, trivial⟩ trivial trivial trivial) Tryz.func107 (by kernel_rfl) (fun a o h => (e107 a).trans h)
def F49 : FEnv := ⟨⟨TYS, [(107, pf107)], EQS, [], [], false, []⟩, [(3, [.slot 4 .i64 (.imm false), .row 1 104 (.pair .i64 q1) (.own true)])]⟩
def pf49 : PF := ⟨[(.rd, (.sl 135 (.pair .i64 q1)))], [q8], .uniq, laws_toPostS⟩
theorem e49 (a : argT [(.rd, (.sl 135 (.pair .i64 q1)))]) : evFun F49 Tryz.f49 [(.rd, (.sl 135 (.pair .i64 q1)))] [q8] .uniq a = laws_toPostS a := by kernel_rfl
theorem s49 : Sound Tryz.prog GLB 49 pf49 := sound_fun (F := F49) (envOK ⟨s107, trivial⟩ trivial trivial trivial) Tryz.func49 (by kernel_rfl) (fun a o h => (e49 a).trans h)
def F13 : FEnv := ⟨⟨TYS, [(25, pf25), (46, pf46), (47, pf47), (48, pf48), (49, pf49)], EQS, [], [], false, []⟩, []⟩
def pf13 : PF := ⟨[(.rd, q6)], [q2], .uniq, laws_toRep⟩
theorem e13 (a : argT [(.rd, q6)]) : evFun F13 Tryz.f13 [(.rd, q6)] [q2] .uniq a = laws_toRep a := by kernel_rfl
theorem s13 : Sound Tryz.prog GLB 13 pf13 := sound_fun (F := F13) (envOK ⟨s25, s46, s47, s48, s49, trivial⟩ trivial trivial trivial) Tryz.func13 (by kernel_rfl) (fun a o h => (e13 a).trans h)
def F95 : FEnv := ⟨⟨TYS, [], EQS, [], [], false, []⟩, []⟩
def pf95 : PF := ⟨[(.rd, .i64), (.rd, .i64), (.rd, .i64)], [.bool], .uniq, spec_l1In⟩
theorem e95 (a : argT [(.rd, .i64), (.rd, .i64), (.rd, .i64)]) : evFun F95 Tryz.f95 [(.rd, .i64), (.rd, .i64), (.rd, .i64)] [.bool] .uniq a = spec_l1In a := by kernel_rfl
theorem s95 : Sound Tryz.prog GLB 95 pf95 := sound_fun (F := F95) (envOK trivial trivial trivial trivial) Tryz.func95 (by kernel_rfl) (fun a o h => (e95 a).trans h)
def F94 : FEnv := ⟨⟨TYS, [(95, pf95)], EQS, [], [], false, []⟩, []⟩
def pf94 : PF := ⟨[(.rd, (.pair .i64 .i64))], [.bool], .uniq, spec_ConfOk⟩
theorem e94 (a : argT [(.rd, (.pair .i64 .i64))]) : evFun F94 Tryz.f94 [(.rd, (.pair .i64 .i64))] [.bool] .uniq a = spec_ConfOk a := by kernel_rfl
theorem s94 : Sound Tryz.prog GLB 94 pf94 := sound_fun (F := F94) (envOK ⟨s95, trivial⟩ trivial trivial trivial) Tryz.func94 (by kernel_rfl) (fun a o h => (e94 a).trans h)
def F219 : FEnv := ⟨⟨TYS, [], EQS, [], [], false, []⟩, [(4, [.slot 5 (.sl 9 .str) (.own true), .slot 6 .i64 (.imm false), .slot 7 .i64 (.imm false)])]⟩
def pf219 : PF := ⟨[(.rd, .str), (.rd, .u8)], [(.sl 9 .str)], .uniq, spec_Split⟩
theorem e219 (a : argT [(.rd, .str), (.rd, .u8)]) : evFun F219 Tryz.f219 [(.rd, .str), (.rd, .u8)] [(.sl 9 .str)] .uniq a = spec_Split a := by kernel_rfl
theorem s219 : Sound Tryz.prog GLB 219 pf219 := sound_fun (F := F219) (envOK trivial trivial trivial trivial) Tryz.func219 (by kernel_rfl) (fun a o h => (e219 a).trans h)
def F220 : FEnv := ⟨⟨TYS, [], EQS, [], [], false, []⟩, [(2, [.slot 7 .i64 (.imm false)])]⟩
def pf220 : PF := ⟨[(.rd, .str), (.rd, .u8)], [.str, .str, .bool], .uniq, spec_l2Cut⟩
theorem e220 (a : argT [(.rd, .str), (.rd, .u8)]) : evFun F220 Tryz.f220 [(.rd, .str), (.rd, .u8)] [.str, .str, .bool] .uniq a = spec_l2Cut a := by kernel_rfl
theorem s220 : Sound Tryz.prog GLB 220 pf220 := sound_fun (F := F220) (envOK trivial trivial trivial trivial) Tryz.func220 (by kernel_rfl) (fun a o h => (e220 a).trans h)
def F238 : FEnv := ⟨⟨TYS, [], EQS, [], [], false, []⟩, [(5, [.slot 0 .i64 (.imm false), .slot 4 .str (.imm false)])]⟩
def pf238 : PF := ⟨[(.rd, .i64)], [.str], .uniq, spec_Digits⟩
theorem e238 (a : argT [(.rd, .i64)]) : evFun F238 Tryz.f238 [(.rd, .i64)] [.str] .uniq a = spec_Digits a := by kernel_rfl
theorem s238 : Sound Tryz.prog GLB 238 pf238 := sound_fun (F := F238) (envOK trivial trivial trivial trivial) Tryz.func238 (by kernel_rfl) (fun a o h => (e238 a).trans h)
def F221 : FEnv := ⟨⟨TYS, [(238, pf238)], EQS, [], [], false, []⟩, [(5, [.slot 4 .i64 (.imm false), .slot 5 .i64 (.imm false)])]⟩
def pf221 : PF := ⟨[(.rd, .str)], [.i64, .bool], .uniq, spec_Number⟩
theorem e221 (a : argT [(.rd, .str)]) : evFun F221 Tryz.f221 [(.rd, .str)] [.i64, .bool] .uniq a = spec_Number a := by kernel_rfl
theorem s221 : Sound Tryz.prog GLB 221 pf221 := sound_fun (F := F221) (envOK ⟨s238, trivial⟩ trivial trivial trivial) Tryz.func221 (by kernel_rfl) (fun a o h => (e221 a).trans h)
def F159 : FEnv := ⟨⟨TYS, [(95, pf95)], EQS, [], [], false, []⟩, []⟩
def pf159 : PF := ⟨[(.rd, q4)], [.bool], .uniq, spec_TxOk⟩
theorem e159 (a : argT [(.rd, q4)]) : evFun F159 Tryz.f159 [(.rd, q4)] [.bool] .uniq a = spec_TxOk a := by kernel_rfl
theorem s159 : Sound Tryz.prog GLB 159 pf159 := sound_fun (F := F159) (envOK ⟨s95, trivial⟩ trivial trivial trivial) Tryz.func159 (by kernel_rfl) (fun a o h => (e159 a).trans h)
def F248 : FEnv := ⟨⟨TYS, [(159, pf159), (238, pf238)], EQS, [], [], false, []⟩, []⟩
def pf248 : PF := ⟨[(.rd, q4)], [.str], .uniq, spec_TxText⟩
theorem e248 (a : argT [(.rd, q4)]) : evFun F248 Tryz.f248 [(.rd, q4)] [.str] .uniq a = spec_TxText a := by kernel_rfl
theorem s248 : Sound Tryz.prog GLB 248 pf248 := sound_fun (F := F248) (envOK ⟨s159, s238, trivial⟩ trivial trivial trivial) Tryz.func248 (by kernel_rfl) (fun a o h => (e248 a).trans h)
def F239 : FEnv := ⟨⟨TYS, [(220, pf220), (221, pf221), (248, pf248)], EQS, [], [], false, []⟩, []⟩
def pf239 : PF := ⟨[(.rd, .str)], [q4, .bool], .uniq, spec_TxOf⟩
theorem e239 (a : argT [(.rd, .str)]) : evFun F239 Tryz.f239 [(.rd, .str)] [q4, .bool] .uniq a = spec_TxOf a := by kernel_rfl
theorem s239 : Sound Tryz.prog GLB 239 pf239 := sound_fun (F := F239) (envOK ⟨s220, s221, s248, trivial⟩ trivial trivial trivial) Tryz.func239 (by kernel_rfl) (fun a o h => (e239 a).trans h)
def F222 : FEnv := ⟨⟨TYS, [(219, pf219), (239, pf239)], EQS, [], [], false, []⟩, [(6, [.slot 4 (.sl 63 q4) (.own true), .slot 6 .i64 (.imm false)])]⟩
def pf222 : PF := ⟨[(.rd, .str)], [(.sl 63 q4), .bool], .uniq, spec_TxsOf⟩
theorem e222 (a : argT [(.rd, .str)]) : evFun F222 Tryz.f222 [(.rd, .str)] [(.sl 63 q4), .bool] .uniq a = spec_TxsOf a := by kernel_rfl
theorem s222 : Sound Tryz.prog GLB 222 pf222 := sound_fun (F := F222) (envOK ⟨s219, s239, trivial⟩ trivial trivial trivial) Tryz.func222 (by kernel_rfl) (fun a o h => (e222 a).trans h)
def F198 : FEnv := ⟨⟨TYS, [(219, pf219), (220, pf220), (221, pf221), (222, pf222)], EQS, [], [], false, []⟩, [(10, [.slot 5 (.sl 208 (.pair .i64 (.sl 63 q4))) (.own true), .slot 7 .i64 (.imm false), .slot 8 .i64 (.imm false)])]⟩
def pf198 : PF := ⟨[(.rd, .str)], [(.sl 208 (.pair .i64 (.sl 63 q4))), .bool], .uniq, spec_Steps⟩
theorem e198 (a : argT [(.rd, .str)]) : evFun F198 Tryz.f198 [(.rd, .str)] [(.sl 208 (.pair .i64 (.sl 63 q4))), .bool] .uniq a = spec_Steps a := by kernel_rfl
theorem s198 : Sound Tryz.prog GLB 198 pf198 := sound_fun (F := F198) (envOK ⟨s219, s220, s221, s222, trivial⟩ trivial trivial trivial) Tryz.func198 (by kernel_rfl) (fun a o h => (e198 a).trans h)
def F158 : FEnv := ⟨⟨TYS, [(198, pf198)], EQS, [], [], false, []⟩, []⟩
def pf158 : PF := ⟨[(.rd, .str)], [.bool], .uniq, spec_NameOk⟩
theorem e158 (a : argT [(.rd, .str)]) : evFun F158 Tryz.f158 [(.rd, .str)] [.bool] .uniq a = spec_NameOk a := by kernel_rfl
theorem s158 : Sound Tryz.prog GLB 158 pf158 := sound_fun (F := F158) (envOK ⟨s198, trivial⟩ trivial trivial trivial) Tryz.func158 (by kernel_rfl) (fun a o h => (e158 a).trans h)
def F189 : FEnv := ⟨⟨TYS, [(198, pf198)], EQS, [], [], false, []⟩, []⟩
def pf189 : PF := ⟨[(.rd, .str)], [.i64], .uniq, spec_ViewOf⟩
theorem e189 (a : argT [(.rd, .str)]) : evFun F189 Tryz.f189 [(.rd, .str)] [.i64] .uniq a = spec_ViewOf a := by kernel_rfl
theorem s189 : Sound Tryz.prog GLB 189 pf189 := sound_fun (F := F189) (envOK ⟨s198, trivial⟩ trivial trivial trivial) Tryz.func189 (by kernel_rfl) (fun a o h => (e189 a).trans h)
def F188 : FEnv := ⟨⟨TYS, [], EQS, [], [], false, []⟩, [(2, [.slot 5 .i64 (.imm false)])]⟩
def pf188 : PF := ⟨[(.rd, .i64), (.rd, (.sl 3 .i64))], [.bool], .uniq, spec_SetOk⟩
theorem e188 (a : argT [(.rd, .i64), (.rd, (.sl 3 .i64))]) : evFun F188 Tryz.f188 [(.rd, .i64), (.rd, (.sl 3 .i64))] [.bool] .uniq a = spec_SetOk a := by kernel_rfl
theorem s188 : Sound Tryz.prog GLB 188 pf188 := sound_fun (F := F188) (envOK trivial trivial trivial trivial) Tryz.func188 (by kernel_rfl) (fun a o h => (e188 a).trans h)
def F197 : FEnv := ⟨⟨TYS, [(94, pf94)], EQS, [], [], false, []⟩, []⟩
def pf197 : PF := ⟨[(.rd, (.pair .i64 .i64))], [.i64], .uniq, spec_Quorum⟩
theorem e197 (a : argT [(.rd, (.pair .i64 .i64))]) : evFun F197 Tryz.f197 [(.rd, (.pair .i64 .i64))] [.i64] .uniq a = spec_Quorum a := by kernel_rfl
theorem s197 : Sound Tryz.prog GLB 197 pf197 := sound_fun (F := F197) (envOK ⟨s94, trivial⟩ trivial trivial trivial) Tryz.func197 (by kernel_rfl) (fun a o h => (e197 a).trans h)
def F157 : FEnv := ⟨⟨TYS, [(94, pf94), (158, pf158), (189, pf189), (188, pf188), (197, pf197)], EQS, [], [], false, []⟩, []⟩
def pf157 : PF := ⟨[(.rd, (.pair .i64 .i64)), (.rd, q3)], [.bool], .uniq, spec_QcOk⟩
theorem e157 (a : argT [(.rd, (.pair .i64 .i64)), (.rd, q3)]) : evFun F157 Tryz.f157 [(.rd, (.pair .i64 .i64)), (.rd, q3)] [.bool] .uniq a = spec_QcOk a := by kernel_rfl
theorem s157 : Sound Tryz.prog GLB 157 pf157 := sound_fun (F := F157) (envOK ⟨s94, s158, s189, s188, s197, trivial⟩ trivial trivial trivial) Tryz.func157 (by kernel_rfl) (fun a o h => (e157 a).trans h)
def F96 : FEnv := ⟨⟨TYS, [(95, pf95), (157, pf157), (158, pf158)], EQS, [], [], false, []⟩, []⟩
def pf96 : PF := ⟨[(.rd, (.pair .i64 .i64)), (.rd, q5)], [.bool], .uniq, spec_SafeOk⟩
theorem e96 (a : argT [(.rd, (.pair .i64 .i64)), (.rd, q5)]) : evFun F96 Tryz.f96 [(.rd, (.pair .i64 .i64)), (.rd, q5)] [.bool] .uniq a = spec_SafeOk a := by kernel_rfl
theorem s96 : Sound Tryz.prog GLB 96 pf96 := sound_fun (F := F96) (envOK ⟨s95, s157, s158, trivial⟩ trivial trivial trivial) Tryz.func96 (by kernel_rfl) (fun a o h => (e96 a).trans h)
def F138 : FEnv := ⟨⟨TYS, [], EQS, [], [], false, []⟩, []⟩
def pf138 : PF := ⟨[(.rd, q4), (.rd, q4)], [.bool], .uniq, spec_l4Before⟩
theorem e138 (a : argT [(.rd, q4), (.rd, q4)]) : evFun F138 Tryz.f138 [(.rd, q4), (.rd, q4)] [.bool] .uniq a = spec_l4Before a := by kernel_rfl
theorem s138 : Sound Tryz.prog GLB 138 pf138 := sound_fun (F := F138) (envOK trivial trivial trivial trivial) Tryz.func138 (by kernel_rfl) (fun a o h => (e138 a).trans h)
def F97 : FEnv := ⟨⟨TYS, [(159, pf159), (138, pf138)], EQS, [], [], false, []⟩, [(2, [.slot 3 .i64 (.imm false)])]⟩
def pf97 : PF := ⟨[(.rd, (.sl 63 q4))], [.bool], .uniq, spec_PoolOk⟩
theorem e97 (a : argT [(.rd, (.sl 63 q4))]) : evFun F97 Tryz.f97 [(.rd, (.sl 63 q4))] [.bool] .uniq a = spec_PoolOk a := by kernel_rfl
theorem s97 : Sound Tryz.prog GLB 97 pf97 := sound_fun (F := F97) (envOK ⟨s159, s138, trivial⟩ trivial trivial trivial) Tryz.func97 (by kernel_rfl) (fun a o h => (e97 a).trans h)
def F152 : FEnv := ⟨⟨TYS, [(94, pf94), (95, pf95), (188, pf188), (158, pf158), (189, pf189)], EQS, [], [], false, []⟩, []⟩
def pf152 : PF := ⟨[(.rd, (.pair .i64 .i64)), (.rd, q3)], [.bool], .uniq, spec_PartOk⟩
theorem e152 (a : argT [(.rd, (.pair .i64 .i64)), (.rd, q3)]) : evFun F152 Tryz.f152 [(.rd, (.pair .i64 .i64)), (.rd, q3)] [.bool] .uniq a = spec_PartOk a := by kernel_rfl
theorem s152 : Sound Tryz.prog GLB 152 pf152 := sound_fun (F := F152) (envOK ⟨s94, s95, s188, s158, s189, trivial⟩ trivial trivial trivial) Tryz.func152 (by kernel_rfl) (fun a o h => (e152 a).trans h)
def F150 : FEnv := ⟨⟨TYS, [], EQS, [], [], false, []⟩, []⟩
def pf150 : PF := ⟨[(.rd, q3), (.rd, q3)], [.bool], .uniq, spec_l10Before⟩
theorem e150 (a : argT [(.rd, q3), (.rd, q3)]) : evFun F150 Tryz.f150 [(.rd, q3), (.rd, q3)] [.bool] .uniq a = spec_l10Before a := by kernel_rfl
theorem s150 : Sound Tryz.prog GLB 150 pf150 := sound_fun (F := F150) (envOK trivial trivial trivial trivial) Tryz.func150 (by kernel_rfl) (fun a o h => (e150 a).trans h)
def F98 : FEnv := ⟨⟨TYS, [(152, pf152), (150, pf150)], EQS, [], [], false, []⟩, [(2, [.slot 5 .i64 (.imm false)])]⟩
def pf98 : PF := ⟨[(.rd, (.pair .i64 .i64)), (.rd, (.sl 62 q3))], [.bool], .uniq, spec_TableOk⟩
theorem e98 (a : argT [(.rd, (.pair .i64 .i64)), (.rd, (.sl 62 q3))]) : evFun F98 Tryz.f98 [(.rd, (.pair .i64 .i64)), (.rd, (.sl 62 q3))] [.bool] .uniq a = spec_TableOk a := by kernel_rfl
theorem s98 : Sound Tryz.prog GLB 98 pf98 := sound_fun (F := F98) (envOK ⟨s152, s150, trivial⟩ trivial trivial trivial) Tryz.func98 (by kernel_rfl) (fun a o h => (e98 a).trans h)
def F99 : FEnv := ⟨⟨TYS, [(95, pf95)], EQS, [], [], false, []⟩, []⟩
def pf99 : PF := ⟨[(.rd, q7)], [.bool], .uniq, spec_DiskOk⟩
theorem e99 (a : argT [(.rd, q7)]) : evFun F99 Tryz.f99 [(.rd, q7)] [.bool] .uniq a = spec_DiskOk a := by kernel_rfl
theorem s99 : Sound Tryz.prog GLB 99 pf99 := sound_fun (F := F99) (envOK ⟨s95, trivial⟩ trivial trivial trivial) Tryz.func99 (by kernel_rfl) (fun a o h => (e99 a).trans h)
def F207 : FEnv := ⟨⟨TYS, [], EQS, [], [], false, []⟩, [(2, [.slot 5 .i64 (.imm false)])]⟩
def pf207 : PF := ⟨[(.rd, (.sl 3 .i64)), (.rd, (.sl 3 .i64))], [.bool], .uniq, spec_l7Ints⟩
theorem e207 (a : argT [(.rd, (.sl 3 .i64)), (.rd, (.sl 3 .i64))]) : evFun F207 Tryz.f207 [(.rd, (.sl 3 .i64)), (.rd, (.sl 3 .i64))] [.bool] .uniq a = spec_l7Ints a := by kernel_rfl
theorem s207 : Sound Tryz.prog GLB 207 pf207 := sound_fun (F := F207) (envOK trivial trivial trivial trivial) Tryz.func207 (by kernel_rfl) (fun a o h => (e207 a).trans h)
def F171 : FEnv := ⟨⟨TYS, [(207, pf207)], EQS, [], [], false, []⟩, []⟩
def pf171 : PF := ⟨[(.rd, q3), (.rd, q3)], [.bool], .uniq, spec_QcSame⟩
theorem e171 (a : argT [(.rd, q3), (.rd, q3)]) : evFun F171 Tryz.f171 [(.rd, q3), (.rd, q3)] [.bool] .uniq a = spec_QcSame a := by kernel_rfl
theorem s171 : Sound Tryz.prog GLB 171 pf171 := sound_fun (F := F171) (envOK ⟨s207, trivial⟩ trivial trivial trivial) Tryz.func171 (by kernel_rfl) (fun a o h => (e171 a).trans h)
def F223 : FEnv := ⟨⟨TYS, [(171, pf171)], EQS, [], [], false, []⟩, []⟩
def pf223 : PF := ⟨[(.rd, (.pair .str q3)), (.rd, (.pair .str q3))], [.bool], .uniq, spec_BlockSame⟩
theorem e223 (a : argT [(.rd, (.pair .str q3)), (.rd, (.pair .str q3))]) : evFun F223 Tryz.f223 [(.rd, (.pair .str q3)), (.rd, (.pair .str q3))] [.bool] .uniq a = spec_BlockSame a := by kernel_rfl
theorem s223 : Sound Tryz.prog GLB 223 pf223 := sound_fun (F := F223) (envOK ⟨s171, trivial⟩ trivial trivial trivial) Tryz.func223 (by kernel_rfl) (fun a o h => (e223 a).trans h)
def F224 : FEnv := ⟨⟨TYS, [(207, pf207)], EQS, [], [], false, []⟩, []⟩
def pf224 : PF := ⟨[(.rd, q3), (.rd, q3)], [.bool], .uniq, spec_l14Part⟩
theorem e224 (a : argT [(.rd, q3), (.rd, q3)]) : evFun F224 Tryz.f224 [(.rd, q3), (.rd, q3)] [.bool] .uniq a = spec_l14Part a := by kernel_rfl
theorem s224 : Sound Tryz.prog GLB 224 pf224 := sound_fun (F := F224) (envOK ⟨s207, trivial⟩ trivial trivial trivial) Tryz.func224 (by kernel_rfl) (fun a o h => (e224 a).trans h)
def F199 : FEnv := ⟨⟨TYS, [(223, pf223), (224, pf224), (171, pf171)], EQS, [], [], false, []⟩, []⟩
def pf199 : PF := ⟨[(.rd, q1), (.rd, q1)], [.bool], .uniq, spec_MsgSame⟩
theorem e199 (a : argT [(.rd, q1), (.rd, q1)]) : evFun F199 Tryz.f199 [(.rd, q1), (.rd, q1)] [.bool] .uniq a = spec_MsgSame a := by kernel_rfl
theorem s199 : Sound Tryz.prog GLB 199 pf199 := sound_fun (F := F199) (envOK ⟨s223, s224, s171, trivial⟩ trivial trivial trivial) Tryz.func199 (by kernel_rfl) (fun a o h => (e199 a).trans h)
def F160 : FEnv := ⟨⟨TYS, [(199, pf199)], EQS, [], [], false, []⟩, []⟩
def pf160 : PF := ⟨[(.rd, q1)], [.bool], .uniq, spec_l14Zero⟩
theorem e160 (a : argT [(.rd, q1)]) : evFun F160 Tryz.f160 [(.rd, q1)] [.bool] .uniq a = spec_l14Zero a := by kernel_rfl
theorem s160 : Sound Tryz.prog GLB 160 pf160 := sound_fun (F := F160) (envOK ⟨s199, trivial⟩ trivial trivial trivial) Tryz.func160 (by kernel_rfl) (fun a o h => (e160 a).trans h)
def F85 : FEnv := ⟨⟨TYS, [], EQS, [], [], false, []⟩, []⟩
def pf85 : PF := ⟨[(.rd, .i64), (.rd, .i64)], [.i64], .uniq, spec_l1Max⟩
theorem e85 (a : argT [(.rd, .i64), (.rd, .i64)]) : evFun F85 Tryz.f85 [(.rd, .i64), (.rd, .i64)] [.i64] .uniq a = spec_l1Max a := by kernel_rfl
theorem s85 : Sound Tryz.prog GLB 85 pf85 := sound_fun (F := F85) (envOK trivial trivial trivial trivial) Tryz.func85 (by kernel_rfl) (fun a o h => (e85 a).trans h)
def F200 : FEnv := ⟨⟨TYS, [(158, pf158), (85, pf85)], EQS, [], [], false, []⟩, [(4, [.slot 3 .i64 (.imm false)])]⟩
def pf200 : PF := ⟨[(.rd, .str)], [.str], .uniq, spec_UpOf⟩
theorem e200 (a : argT [(.rd, .str)]) : evFun F200 Tryz.f200 [(.rd, .str)] [.str] .uniq a = spec_UpOf a := by kernel_rfl
theorem s200 : Sound Tryz.prog GLB 200 pf200 := sound_fun (F := F200) (envOK ⟨s158, s85, trivial⟩ trivial trivial trivial) Tryz.func200 (by kernel_rfl) (fun a o h => (e200 a).trans h)
def F161 : FEnv := ⟨⟨TYS, [(157, pf157), (158, pf158), (200, pf200)], EQS, [], [], false, []⟩, []⟩
def pf161 : PF := ⟨[(.rd, (.pair .i64 .i64)), (.rd, (.pair .str q3))], [.bool], .uniq, spec_BlockOk⟩
theorem e161 (a : argT [(.rd, (.pair .i64 .i64)), (.rd, (.pair .str q3))]) : evFun F161 Tryz.f161 [(.rd, (.pair .i64 .i64)), (.rd, (.pair .str q3))] [.bool] .uniq a = spec_BlockOk a := by kernel_rfl
theorem s161 : Sound Tryz.prog GLB 161 pf161 := sound_fun (F := F161) (envOK ⟨s157, s158, s200, trivial⟩ trivial trivial trivial) Tryz.func161 (by kernel_rfl) (fun a o h => (e161 a).trans h)
def F100 : FEnv := ⟨⟨TYS, [(94, pf94), (160, pf160), (161, pf161), (152, pf152), (95, pf95), (157, pf157), (159, pf159)], EQS, [], [], false, []⟩, []⟩
def pf100 : PF := ⟨[(.rd, (.pair .i64 .i64)), (.rd, q1)], [.bool], .uniq, spec_MsgOk⟩
theorem e100 (a : argT [(.rd, (.pair .i64 .i64)), (.rd, q1)]) : evFun F100 Tryz.f100 [(.rd, (.pair .i64 .i64)), (.rd, q1)] [.bool] .uniq a = spec_MsgOk a := by kernel_rfl
theorem s100 : Sound Tryz.prog GLB 100 pf100 := sound_fun (F := F100) (envOK ⟨s94, s160, s161, s152, s95, s157, s159, trivial⟩ trivial trivial trivial) Tryz.func100 (by kernel_rfl) (fun a o h => (e100 a).trans h)
def F43 : FEnv := ⟨⟨TYS, [(94, pf94), (95, pf95), (96, pf96), (97, pf97), (98, pf98), (99, pf99), (100, pf100)], EQS, [], [], false, []⟩, [(4, [.slot 5 .i64 (.imm false)])]⟩
def pf43 : PF := ⟨[(.rd, (.pair .i64 .i64)), (.rd, q2)], [.bool], .uniq, spec_RepOk⟩
theorem e43 (a : argT [(.rd, (.pair .i64 .i64)), (.rd, q2)]) : evFun F43 Tryz.f43 [(.rd, (.pair .i64 .i64)), (.rd, q2)] [.bool] .uniq a = spec_RepOk a := by kernel_rfl
theorem s43 : Sound Tryz.prog GLB 43 pf43 := sound_fun (F := F43) (envOK ⟨s94, s95, s96, s97, s98, s99, s100, trivial⟩ trivial trivial trivial) Tryz.func43 (by kernel_rfl) (fun a o h => (e43 a).trans h)
def F162 : FEnv := ⟨⟨TYS, [], EQS, [], [], false, []⟩, []⟩
def pf162 : PF := ⟨[(.rd, q3)], [q3], .uniq, spec_l7Copy⟩
theorem e162 (a : argT [(.rd, q3)]) : evFun F162 Tryz.f162 [(.rd, q3)] [q3] .uniq a = spec_l7Copy a := by kernel_rfl
theorem s162 : Sound Tryz.prog GLB 162 pf162 := sound_fun (F := F162) (envOK trivial trivial trivial trivial) Tryz.func162 (by kernel_rfl) (fun a o h => (e162 a).trans h)
def F101 : FEnv := ⟨⟨TYS, [(162, pf162)], EQS, [], [], false, []⟩, []⟩
def pf101 : PF := ⟨[(.rd, q5)], [q5], .uniq, spec_l11Copy⟩
theorem e101 (a : argT [(.rd, q5)]) : evFun F101 Tryz.f101 [(.rd, q5)] [q5] .uniq a = spec_l11Copy a := by kernel_rfl
theorem s101 : Sound Tryz.prog GLB 101 pf101 := sound_fun (F := F101) (envOK ⟨s162, trivial⟩ trivial trivial trivial) Tryz.func101 (by kernel_rfl) (fun a o h => (e101 a).trans h)
def F149 : FEnv := ⟨⟨TYS, [], EQS, [], [], false, []⟩, []⟩
def pf149 : PF := ⟨[(.rd, q3)], [q3], .uniq, spec_l10Copy⟩
theorem e149 (a : argT [(.rd, q3)]) : evFun F149 Tryz.f149 [(.rd, q3)] [q3] .uniq a = spec_l10Copy a := by kernel_rfl
theorem s149 : Sound Tryz.prog GLB 149 pf149 := sound_fun (F := F149) (envOK trivial trivial trivial trivial) Tryz.func149 (by kernel_rfl) (fun a o h => (e149 a).trans h)
def F102 : FEnv := ⟨⟨TYS, [(149, pf149)], EQS, [], [], false, []⟩, [(3, [.slot 3 (.sl 62 q3) (.own true), .slot 4 .i64 (.imm false)])]⟩
def pf102 : PF := ⟨[(.rd, (.sl 62 q3))], [(.sl 62 q3)], .uniq, spec_l10Table⟩
theorem e102 (a : argT [(.rd, (.sl 62 q3))]) : evFun F102 Tryz.f102 [(.rd, (.sl 62 q3))] [(.sl 62 q3)] .uniq a = spec_l10Table a := by kernel_rfl
theorem s102 : Sound Tryz.prog GLB 102 pf102 := sound_fun (F := F102) (envOK ⟨s149, trivial⟩ trivial trivial trivial) Tryz.func102 (by kernel_rfl) (fun a o h => (e102 a).trans h)
def F103 : FEnv := ⟨⟨TYS, [], EQS, [], [], false, []⟩, []⟩
def pf103 : PF := ⟨[(.rd, q7)], [q7], .uniq, spec_l13Copy⟩
theorem e103 (a : argT [(.rd, q7)]) : evFun F103 Tryz.f103 [(.rd, q7)] [q7] .uniq a = spec_l13Copy a := by kernel_rfl
theorem s103 : Sound Tryz.prog GLB 103 pf103 := sound_fun (F := F103) (envOK trivial trivial trivial trivial) Tryz.func103 (by kernel_rfl) (fun a o h => (e103 a).trans h)
def F163 : FEnv := ⟨⟨TYS, [(162, pf162)], EQS, [], [], false, []⟩, []⟩
def pf163 : PF := ⟨[(.rd, (.pair .str q3))], [(.pair .str q3)], .uniq, spec_l8Copy⟩
theorem e163 (a : argT [(.rd, (.pair .str q3))]) : evFun F163 Tryz.f163 [(.rd, (.pair .str q3))] [(.pair .str q3)] .uniq a = spec_l8Copy a := by kernel_rfl
theorem s163 : Sound Tryz.prog GLB 163 pf163 := sound_fun (F := F163) (envOK ⟨s162, trivial⟩ trivial trivial trivial) Tryz.func163 (by kernel_rfl) (fun a o h => (e163 a).trans h)
def F105 : FEnv := ⟨⟨TYS, [(163, pf163), (149, pf149), (162, pf162)], EQS, [], [], false, []⟩, []⟩
def pf105 : PF := ⟨[(.rd, q1)], [q1], .uniq, spec_l14Copy⟩
theorem e105 (a : argT [(.rd, q1)]) : evFun F105 Tryz.f105 [(.rd, q1)] [q1] .uniq a = spec_l14Copy a := by kernel_rfl
theorem s105 : Sound Tryz.prog GLB 105 pf105 := sound_fun (F := F105) (envOK ⟨s163, s149, s162, trivial⟩ trivial trivial trivial) Tryz.func105 (by kernel_rfl) (fun a o h => (e105 a).trans h)
def F104 : FEnv := ⟨⟨TYS, [(105, pf105)], EQS, [], [], false, []⟩, [(3, [.slot 3 q8 (.own true), .slot 4 .i64 (.imm false)])]⟩
def pf104 : PF := ⟨[(.rd, q8)], [q8], .uniq, spec_l15Posts⟩
theorem e104 (a : argT [(.rd, q8)]) : evFun F104 Tryz.f104 [(.rd, q8)] [q8] .uniq a = spec_l15Posts a := by kernel_rfl
theorem s104 : Sound Tryz.prog GLB 104 pf104 := sound_fun (F := F104) (envOK ⟨s105, trivial⟩ trivial trivial trivial) Tryz.func104 (by kernel_rfl) (fun a o h => (e104 a).trans h)
def F44 : FEnv := ⟨⟨TYS, [(101, pf101), (102, pf102), (103, pf103), (104, pf104)], EQS, [], [], false, []⟩, []⟩
def pf44 : PF := ⟨[(.rd, q2)], [q2], .uniq, spec_l15Copy⟩
theorem e44 (a : argT [(.rd, q2)]) : evFun F44 Tryz.f44 [(.rd, q2)] [q2] .uniq a = spec_l15Copy a := by kernel_rfl
theorem s44 : Sound Tryz.prog GLB 44 pf44 := sound_fun (F := F44) (envOK ⟨s101, s102, s103, s104, trivial⟩ trivial trivial trivial) Tryz.func44 (by kernel_rfl) (fun a o h => (e44 a).trans h)
def F164 : FEnv := ⟨⟨TYS, [], EQS, [], [], false, []⟩, []⟩
def pf164 : PF := ⟨[(.rd, (.sl 3 .i64))], [(.sl 3 .i64)], .uniq, impl_copyInts⟩
theorem e164 (a : argT [(.rd, (.sl 3 .i64))]) : evFun F164 Tryz.f164 [(.rd, (.sl 3 .i64))] [(.sl 3 .i64)] .uniq a = impl_copyInts a := by kernel_rfl
theorem s164 : Sound Tryz.prog GLB 164 pf164 := sound_fun (F := F164) (envOK trivial trivial trivial trivial) Tryz.func164 (by kernel_rfl) (fun a o h => (e164 a).trans h)
def F115 : FEnv := ⟨⟨TYS, [(164, pf164)], EQS, [], [], false, []⟩, []⟩
def pf115 : PF := ⟨[(.rd, q3)], [q3], .uniq, impl_copyQc⟩
theorem e115 (a : argT [(.rd, q3)]) : evFun F115 Tryz.f115 [(.rd, q3)] [q3] .uniq a = impl_copyQc a := by kernel_rfl
theorem s115 : Sound Tryz.prog GLB 115 pf115 := sound_fun (F := F115) (envOK ⟨s164, trivial⟩ trivial trivial trivial) Tryz.func115 (by kernel_rfl) (fun a o h => (e115 a).trans h)
def F80 : FEnv := ⟨⟨TYS, [(115, pf115)], EQS, [], [], false, []⟩, []⟩
def pf80 : PF := ⟨[(.rd, q5)], [q5], .uniq, impl_copySafe⟩
theorem e80 (a : argT [(.rd, q5)]) : evFun F80 Tryz.f80 [(.rd, q5)] [q5] .uniq a = impl_copySafe a := by kernel_rfl
theorem s80 : Sound Tryz.prog GLB 80 pf80 := sound_fun (F := F80) (envOK ⟨s115, trivial⟩ trivial trivial trivial) Tryz.func80 (by kernel_rfl) (fun a o h => (e80 a).trans h)
def F109 : FEnv := ⟨⟨TYS, [], EQS, [], [], false, []⟩, []⟩
def pf109 : PF := ⟨[(.rd, (.sl 63 q4))], [(.sl 63 q4)], .uniq, impl_copyTxs⟩
theorem e109 (a : argT [(.rd, (.sl 63 q4))]) : evFun F109 Tryz.f109 [(.rd, (.sl 63 q4))] [(.sl 63 q4)] .uniq a = impl_copyTxs a := by kernel_rfl
theorem s109 : Sound Tryz.prog GLB 109 pf109 := sound_fun (F := F109) (envOK trivial trivial trivial trivial) Tryz.func109 (by kernel_rfl) (fun a o h => (e109 a).trans h)
def F114 : FEnv := ⟨⟨TYS, [(164, pf164)], EQS, [], [], false, []⟩, []⟩
def pf114 : PF := ⟨[(.rd, q3)], [q3], .uniq, impl_copyPart⟩
theorem e114 (a : argT [(.rd, q3)]) : evFun F114 Tryz.f114 [(.rd, q3)] [q3] .uniq a = impl_copyPart a := by kernel_rfl
theorem s114 : Sound Tryz.prog GLB 114 pf114 := sound_fun (F := F114) (envOK ⟨s164, trivial⟩ trivial trivial trivial) Tryz.func114 (by kernel_rfl) (fun a o h => (e114 a).trans h)
def F110 : FEnv := ⟨⟨TYS, [(114, pf114)], EQS, [], [], false, []⟩, [(3, [.slot 3 (.sl 62 q3) (.own true), .slot 8 .i64 (.imm false)])]⟩
def pf110 : PF := ⟨[(.rd, (.sl 62 q3))], [(.sl 62 q3)], .uniq, impl_copyTable⟩
theorem e110 (a : argT [(.rd, (.sl 62 q3))]) : evFun F110 Tryz.f110 [(.rd, (.sl 62 q3))] [(.sl 62 q3)] .uniq a = impl_copyTable a := by kernel_rfl
theorem s110 : Sound Tryz.prog GLB 110 pf110 := sound_fun (F := F110) (envOK ⟨s114, trivial⟩ trivial trivial trivial) Tryz.func110 (by kernel_rfl) (fun a o h => (e110 a).trans h)
def F111 : FEnv := ⟨⟨TYS, [], EQS, [], [], false, []⟩, []⟩
def pf111 : PF := ⟨[(.rd, q7)], [q7], .uniq, impl_copyDisk⟩
theorem e111 (a : argT [(.rd, q7)]) : evFun F111 Tryz.f111 [(.rd, q7)] [q7] .uniq a = impl_copyDisk a := by kernel_rfl
theorem s111 : Sound Tryz.prog GLB 111 pf111 := sound_fun (F := F111) (envOK trivial trivial trivial trivial) Tryz.func111 (by kernel_rfl) (fun a o h => (e111 a).trans h)
def F113 : FEnv := ⟨⟨TYS, [(115, pf115)], EQS, [], [], false, []⟩, []⟩
def pf113 : PF := ⟨[(.rd, (.pair .str q3))], [(.pair .str q3)], .uniq, impl_copyBlock⟩
theorem e113 (a : argT [(.rd, (.pair .str q3))]) : evFun F113 Tryz.f113 [(.rd, (.pair .str q3))] [(.pair .str q3)] .uniq a = impl_copyBlock a := by kernel_rfl
theorem s113 : Sound Tryz.prog GLB 113 pf113 := sound_fun (F := F113) (envOK ⟨s115, trivial⟩ trivial trivial trivial) Tryz.func113 (by kernel_rfl) (fun a o h => (e113 a).trans h)
def F54 : FEnv := ⟨⟨TYS, [(113, pf113), (114, pf114), (115, pf115)], EQS, [], [], false, []⟩, []⟩
def pf54 : PF := ⟨[(.rd, q1)], [q1], .uniq, impl_copyMsg⟩
theorem e54 (a : argT [(.rd, q1)]) : evFun F54 Tryz.f54 [(.rd, q1)] [q1] .uniq a = impl_copyMsg a := by kernel_rfl
theorem s54 : Sound Tryz.prog GLB 54 pf54 := sound_fun (F := F54) (envOK ⟨s113, s114, s115, trivial⟩ trivial trivial trivial) Tryz.func54 (by kernel_rfl) (fun a o h => (e54 a).trans h)
def F112 : FEnv := ⟨⟨TYS, [(54, pf54)], EQS, [], [], false, []⟩, [(3, [.slot 3 q8 (.own true), .slot 8 .i64 (.imm false)])]⟩
def pf112 : PF := ⟨[(.rd, q8)], [q8], .uniq, impl_copyPosts⟩
theorem e112 (a : argT [(.rd, q8)]) : evFun F112 Tryz.f112 [(.rd, q8)] [q8] .uniq a = impl_copyPosts a := by kernel_rfl
theorem s112 : Sound Tryz.prog GLB 112 pf112 := sound_fun (F := F112) (envOK ⟨s54, trivial⟩ trivial trivial trivial) Tryz.func112 (by kernel_rfl) (fun a o h => (e112 a).trans h)
def F53 : FEnv := ⟨⟨TYS, [(80, pf80), (109, pf109), (110, pf110), (111, pf111), (112, pf112)], EQS, [], [], false, []⟩, []⟩
def pf53 : PF := ⟨[(.rd, q2)], [q2], .uniq, impl_copyRep⟩
theorem e53 (a : argT [(.rd, q2)]) : evFun F53 Tryz.f53 [(.rd, q2)] [q2] .uniq a = impl_copyRep a := by kernel_rfl
theorem s53 : Sound Tryz.prog GLB 53 pf53 := sound_fun (F := F53) (envOK ⟨s80, s109, s110, s111, s112, trivial⟩ trivial trivial trivial) Tryz.func53 (by kernel_rfl) (fun a o h => (e53 a).trans h)
def F117 : FEnv := ⟨⟨TYS, [], EQS, [], [], false, []⟩, []⟩
def pf117 : PF := ⟨[(.rd, .i64), (.rd, .i64), (.rd, .i64)], [.bool], .uniq, impl_within⟩
theorem e117 (a : argT [(.rd, .i64), (.rd, .i64), (.rd, .i64)]) : evFun F117 Tryz.f117 [(.rd, .i64), (.rd, .i64), (.rd, .i64)] [.bool] .uniq a = impl_within a := by kernel_rfl
theorem s117 : Sound Tryz.prog GLB 117 pf117 := sound_fun (F := F117) (envOK trivial trivial trivial trivial) Tryz.func117 (by kernel_rfl) (fun a o h => (e117 a).trans h)
def F116 : FEnv := ⟨⟨TYS, [(117, pf117)], EQS, [], [], false, []⟩, []⟩
def pf116 : PF := ⟨[(.rd, (.pair .i64 .i64))], [.bool], .uniq, impl_ConfOk⟩
theorem e116 (a : argT [(.rd, (.pair .i64 .i64))]) : evFun F116 Tryz.f116 [(.rd, (.pair .i64 .i64))] [.bool] .uniq a = impl_ConfOk a := by kernel_rfl
theorem s116 : Sound Tryz.prog GLB 116 pf116 := sound_fun (F := F116) (envOK ⟨s117, trivial⟩ trivial trivial trivial) Tryz.func116 (by kernel_rfl) (fun a o h => (e116 a).trans h)
def F201 : FEnv := ⟨⟨TYS, [], EQS, [], [], false, []⟩, []⟩
def pf201 : PF := ⟨[], [q3], .uniq, impl_QcFirst⟩
theorem e201 (a : argT []) : evFun F201 Tryz.f201 [] [q3] .uniq a = impl_QcFirst a := by kernel_rfl
theorem s201 : Sound Tryz.prog GLB 201 pf201 := sound_fun (F := F201) (envOK trivial trivial trivial trivial) Tryz.func201 (by kernel_rfl) (fun a o h => (e201 a).trans h)
def F174 : FEnv := ⟨⟨TYS, [], EQS, [], [], false, []⟩, [(4, [.slot 13 .i64 (.imm false)])]⟩
def pf174 : PF := ⟨[(.rd, (.sl 3 .i64)), (.rd, (.sl 3 .i64))], [.bool], .uniq, slices_Equal_int⟩
theorem e174 (a : argT [(.rd, (.sl 3 .i64)), (.rd, (.sl 3 .i64))]) : evFun F174 Tryz.f174 [(.rd, (.sl 3 .i64)), (.rd, (.sl 3 .i64))] [.bool] .uniq a = slices_Equal_int a := by kernel_rfl
theorem s174 : Sound Tryz.prog GLB 174 pf174 := sound_fun (F := F174) (envOK trivial trivial trivial trivial) Tryz.func174 (by kernel_rfl) (fun a o h => (e174 a).trans h)
def F135 : FEnv := ⟨⟨TYS, [(174, pf174)], EQS, [], [], false, []⟩, []⟩
def pf135 : PF := ⟨[(.rd, q3), (.rd, q3)], [.bool], .uniq, impl_QcSame⟩
theorem e135 (a : argT [(.rd, q3), (.rd, q3)]) : evFun F135 Tryz.f135 [(.rd, q3), (.rd, q3)] [.bool] .uniq a = impl_QcSame a := by kernel_rfl
theorem s135 : Sound Tryz.prog GLB 135 pf135 := sound_fun (F := F135) (envOK ⟨s174, trivial⟩ trivial trivial trivial) Tryz.func135 (by kernel_rfl) (fun a o h => (e135 a).trans h)
def F226 : FEnv := ⟨⟨TYS, [(240, pf240)], EQS, [], [], false, []⟩, []⟩
def pf226 : PF := ⟨[(.rd, .str), (.rd, .u8)], [(.sl 9 .str)], .uniq, impl_Split⟩
theorem e226 (a : argT [(.rd, .str), (.rd, .u8)]) : evFun F226 Tryz.f226 [(.rd, .str), (.rd, .u8)] [(.sl 9 .str)] .uniq a = impl_Split a := by kernel_rfl
theorem s226 : Sound Tryz.prog GLB 226 pf226 := sound_fun (F := F226) (envOK ⟨s240, trivial⟩ trivial trivial trivial) Tryz.func226 (by kernel_rfl) (fun a o h => (e226 a).trans h)
def F242 : FEnv := ⟨⟨TYS, [(251, pf251)], EQS, [], [], false, []⟩, []⟩
def pf242 : PF := ⟨[(.rd, .i64)], [.str], .uniq, impl_Digits⟩
theorem e242 (a : argT [(.rd, .i64)]) : evFun F242 Tryz.f242 [(.rd, .i64)] [.str] .uniq a = impl_Digits a := by kernel_rfl
theorem s242 : Sound Tryz.prog GLB 242 pf242 := sound_fun (F := F242) (envOK ⟨s251, trivial⟩ trivial trivial trivial) Tryz.func242 (by kernel_rfl) (fun a o h => (e242 a).trans h)
def F228 : FEnv := ⟨⟨TYS, [(242, pf242)], EQS, [], [], false, []⟩, [(5, [.slot 4 .i64 (.imm false), .slot 5 .i64 (.imm false)])]⟩
def pf228 : PF := ⟨[(.rd, .str)], [.i64, .bool], .uniq, impl_Number⟩
theorem e228 (a : argT [(.rd, .str)]) : evFun F228 Tryz.f228 [(.rd, .str)] [.i64, .bool] .uniq a = impl_Number a := by kernel_rfl
theorem s228 : Sound Tryz.prog GLB 228 pf228 := sound_fun (F := F228) (envOK ⟨s242, trivial⟩ trivial trivial trivial) Tryz.func228 (by kernel_rfl) (fun a o h => (e228 a).trans h)
def F167 : FEnv := ⟨⟨TYS, [(117, pf117)], EQS, [], [], false, []⟩, []⟩
def pf167 : PF := ⟨[(.rd, q4)], [.bool], .uniq, impl_TxOk⟩
theorem e167 (a : argT [(.rd, q4)]) : evFun F167 Tryz.f167 [(.rd, q4)] [.bool] .uniq a = impl_TxOk a := by kernel_rfl
theorem s167 : Sound Tryz.prog GLB 167 pf167 := sound_fun (F := F167) (envOK ⟨s117, trivial⟩ trivial trivial trivial) Tryz.func167 (by kernel_rfl) (fun a o h => (e167 a).trans h)
def F252 : FEnv := ⟨⟨TYS, [(167, pf167), (242, pf242)], EQS, [], [], false, []⟩, []⟩
def pf252 : PF := ⟨[(.rd, q4)], [.str], .uniq, impl_TxText⟩
theorem e252 (a : argT [(.rd, q4)]) : evFun F252 Tryz.f252 [(.rd, q4)] [.str] .uniq a = impl_TxText a := by kernel_rfl
theorem s252 : Sound Tryz.prog GLB 252 pf252 := sound_fun (F := F252) (envOK ⟨s167, s242, trivial⟩ trivial trivial trivial) Tryz.func252 (by kernel_rfl) (fun a o h => (e252 a).trans h)
def F243 : FEnv := ⟨⟨TYS, [(227, pf227), (228, pf228), (167, pf167), (252, pf252)], EQS, [], [], false, []⟩, [(6, [.slot 40 .i64 (.imm false), .row 1 3 .i64 (.own true)])]⟩
def pf243 : PF := ⟨[(.rd, .str)], [q4, .bool], .uniq, impl_TxOf⟩
theorem e243 (a : argT [(.rd, .str)]) : evFun F243 Tryz.f243 [(.rd, .str)] [q4, .bool] .uniq a = impl_TxOf a := by kernel_rfl
theorem s243 : Sound Tryz.prog GLB 243 pf243 := sound_fun (F := F243) (envOK ⟨s227, s228, s167, s252, trivial⟩ trivial trivial trivial) Tryz.func243 (by kernel_rfl) (fun a o h => (e243 a).trans h)
def F229 : FEnv := ⟨⟨TYS, [(226, pf226), (243, pf243)], EQS, [], [], false, []⟩, [(5, [.slot 4 (.sl 63 q4) (.own true), .slot 14 .i64 (.imm false)])]⟩
def pf229 : PF := ⟨[(.rd, .str)], [(.sl 63 q4), .bool], .uniq, impl_TxsOf⟩
theorem e229 (a : argT [(.rd, .str)]) : evFun F229 Tryz.f229 [(.rd, .str)] [(.sl 63 q4), .bool] .uniq a = impl_TxsOf a := by kernel_rfl
theorem s229 : Sound Tryz.prog GLB 229 pf229 := sound_fun (F := F229) (envOK ⟨s226, s243, trivial⟩ trivial trivial trivial) Tryz.func229 (by kernel_rfl) (fun a o h => (e229 a).trans h)
def F203 : FEnv := ⟨⟨TYS, [(226, pf226), (227, pf227), (228, pf228), (229, pf229), (117, pf117)], EQS, [], [], false, []⟩, [(9, [.slot 5 (.sl 208 (.pair .i64 (.sl 63 q4))) (.own true), .slot 6 .i64 (.imm false), .slot 33 .i64 (.imm false)])]⟩
def pf203 : PF := ⟨[(.rd, .str)], [(.sl 208 (.pair .i64 (.sl 63 q4))), .bool], .uniq, impl_Steps⟩
theorem e203 (a : argT [(.rd, .str)]) : evFun F203 Tryz.f203 [(.rd, .str)] [(.sl 208 (.pair .i64 (.sl 63 q4))), .bool] .uniq a = impl_Steps a := by kernel_rfl
theorem s203 : Sound Tryz.prog GLB 203 pf203 := sound_fun (F := F203) (envOK ⟨s226, s227, s228, s229, s117, trivial⟩ trivial trivial trivial) Tryz.func203 (by kernel_rfl) (fun a o h => (e203 a).trans h)
def F166 : FEnv := ⟨⟨TYS, [(203, pf203)], EQS, [], [], false, []⟩, []⟩
def pf166 : PF := ⟨[(.rd, .str)], [.bool], .uniq, impl_NameOk⟩
theorem e166 (a : argT [(.rd, .str)]) : evFun F166 Tryz.f166 [(.rd, .str)] [.bool] .uniq a = impl_NameOk a := by kernel_rfl
theorem s166 : Sound Tryz.prog GLB 166 pf166 := sound_fun (F := F166) (envOK ⟨s203, trivial⟩ trivial trivial trivial) Tryz.func166 (by kernel_rfl) (fun a o h => (e166 a).trans h)
def F190 : FEnv := ⟨⟨TYS, [(203, pf203)], EQS, [], [], false, []⟩, []⟩
def pf190 : PF := ⟨[(.rd, .str)], [.i64], .uniq, impl_ViewOf⟩
theorem e190 (a : argT [(.rd, .str)]) : evFun F190 Tryz.f190 [(.rd, .str)] [.i64] .uniq a = impl_ViewOf a := by kernel_rfl
theorem s190 : Sound Tryz.prog GLB 190 pf190 := sound_fun (F := F190) (envOK ⟨s203, trivial⟩ trivial trivial trivial) Tryz.func190 (by kernel_rfl) (fun a o h => (e190 a).trans h)
def F191 : FEnv := ⟨⟨TYS, [], EQS, [], [], false, []⟩, [(2, [.slot 9 .i64 (.imm false)])]⟩
def pf191 : PF := ⟨[(.rd, .i64), (.rd, (.sl 3 .i64))], [.bool], .uniq, impl_SetOk⟩
theorem e191 (a : argT [(.rd, .i64), (.rd, (.sl 3 .i64))]) : evFun F191 Tryz.f191 [(.rd, .i64), (.rd, (.sl 3 .i64))] [.bool] .uniq a = impl_SetOk a := by kernel_rfl
theorem s191 : Sound Tryz.prog GLB 191 pf191 := sound_fun (F := F191) (envOK trivial trivial trivial trivial) Tryz.func191 (by kernel_rfl) (fun a o h => (e191 a).trans h)
def F225 : FEnv := ⟨⟨TYS, [(116, pf116)], EQS, [], [], false, []⟩, []⟩
def pf225 : PF := ⟨[(.rd, (.pair .i64 .i64))], [.i64], .uniq, impl_Faults⟩
theorem e225 (a : argT [(.rd, (.pair .i64 .i64))]) : evFun F225 Tryz.f225 [(.rd, (.pair .i64 .i64))] [.i64] .uniq a = impl_Faults a := by kernel_rfl
theorem s225 : Sound Tryz.prog GLB 225 pf225 := sound_fun (F := F225) (envOK ⟨s116, trivial⟩ trivial trivial trivial) Tryz.func225 (by kernel_rfl) (fun a o h => (e225 a).trans h)
def F202 : FEnv := ⟨⟨TYS, [(116, pf116), (225, pf225)], EQS, [], [], false, []⟩, []⟩
def pf202 : PF := ⟨[(.rd, (.pair .i64 .i64))], [.i64], .uniq, impl_Quorum⟩
theorem e202 (a : argT [(.rd, (.pair .i64 .i64))]) : evFun F202 Tryz.f202 [(.rd, (.pair .i64 .i64))] [.i64] .uniq a = impl_Quorum a := by kernel_rfl
theorem s202 : Sound Tryz.prog GLB 202 pf202 := sound_fun (F := F202) (envOK ⟨s116, s225, trivial⟩ trivial trivial trivial) Tryz.func202 (by kernel_rfl) (fun a o h => (e202 a).trans h)
def F165 : FEnv := ⟨⟨TYS, [(116, pf116), (201, pf201), (135, pf135), (166, pf166), (190, pf190), (191, pf191), (202, pf202)], EQS, [], [], false, []⟩, []⟩
def pf165 : PF := ⟨[(.rd, (.pair .i64 .i64)), (.rd, q3)], [.bool], .uniq, impl_QcOk⟩
theorem e165 (a : argT [(.rd, (.pair .i64 .i64)), (.rd, q3)]) : evFun F165 Tryz.f165 [(.rd, (.pair .i64 .i64)), (.rd, q3)] [.bool] .uniq a = impl_QcOk a := by kernel_rfl
theorem s165 : Sound Tryz.prog GLB 165 pf165 := sound_fun (F := F165) (envOK ⟨s116, s201, s135, s166, s190, s191, s202, trivial⟩ trivial trivial trivial) Tryz.func165 (by kernel_rfl) (fun a o h => (e165 a).trans h)
def F118 : FEnv := ⟨⟨TYS, [(117, pf117), (165, pf165), (166, pf166)], EQS, [], [], false, []⟩, []⟩
def pf118 : PF := ⟨[(.rd, (.pair .i64 .i64)), (.rd, q5)], [.bool], .uniq, impl_SafeOk⟩
theorem e118 (a : argT [(.rd, (.pair .i64 .i64)), (.rd, q5)]) : evFun F118 Tryz.f118 [(.rd, (.pair .i64 .i64)), (.rd, q5)] [.bool] .uniq a = impl_SafeOk a := by kernel_rfl
theorem s118 : Sound Tryz.prog GLB 118 pf118 := sound_fun (F := F118) (envOK ⟨s117, s165, s166, trivial⟩ trivial trivial trivial) Tryz.func118 (by kernel_rfl) (fun a o h => (e118 a).trans h)
def F141 : FEnv := ⟨⟨TYS, [], EQS, [], [], false, []⟩, []⟩
def pf141 : PF := ⟨[(.rd, q4), (.rd, q4)], [.bool], .uniq, impl_beforeTx⟩
theorem e141 (a : argT [(.rd, q4), (.rd, q4)]) : evFun F141 Tryz.f141 [(.rd, q4), (.rd, q4)] [.bool] .uniq a = impl_beforeTx a := by kernel_rfl
theorem s141 : Sound Tryz.prog GLB 141 pf141 := sound_fun (F := F141) (envOK trivial trivial trivial trivial) Tryz.func141 (by kernel_rfl) (fun a o h => (e141 a).trans h)
def F119 : FEnv := ⟨⟨TYS, [(167, pf167), (141, pf141)], EQS, [], [], false, []⟩, [(2, [.slot 7 .i64 (.imm false)])]⟩
def pf119 : PF := ⟨[(.rd, (.sl 63 q4))], [.bool], .uniq, impl_PoolOk⟩
theorem e119 (a : argT [(.rd, (.sl 63 q4))]) : evFun F119 Tryz.f119 [(.rd, (.sl 63 q4))] [.bool] .uniq a = impl_PoolOk a := by kernel_rfl
theorem s119 : Sound Tryz.prog GLB 119 pf119 := sound_fun (F := F119) (envOK ⟨s167, s141, trivial⟩ trivial trivial trivial) Tryz.func119 (by kernel_rfl) (fun a o h => (e119 a).trans h)
def F153 : FEnv := ⟨⟨TYS, [(116, pf116), (117, pf117), (166, pf166), (190, pf190), (191, pf191)], EQS, [], [], false, []⟩, []⟩
def pf153 : PF := ⟨[(.rd, (.pair .i64 .i64)), (.rd, q3)], [.bool], .uniq, impl_PartOk⟩
theorem e153 (a : argT [(.rd, (.pair .i64 .i64)), (.rd, q3)]) : evFun F153 Tryz.f153 [(.rd, (.pair .i64 .i64)), (.rd, q3)] [.bool] .uniq a = impl_PartOk a := by kernel_rfl
theorem s153 : Sound Tryz.prog GLB 153 pf153 := sound_fun (F := F153) (envOK ⟨s116, s117, s166, s190, s191, trivial⟩ trivial trivial trivial) Tryz.func153 (by kernel_rfl) (fun a o h => (e153 a).trans h)
def F215 : FEnv := ⟨⟨TYS, [], EQS, [], [], false, []⟩, []⟩
def pf215 : PF := ⟨[(.rd, .i64)], [.bool], .uniq, cmp_isNaN_int⟩
theorem e215 (a : argT [(.rd, .i64)]) : evFun F215 Tryz.f215 [(.rd, .i64)] [.bool] .uniq a = cmp_isNaN_int a := by kernel_rfl
theorem s215 : Sound Tryz.prog GLB 215 pf215 := sound_fun (F := F215) (envOK trivial trivial trivial trivial) Tryz.func215 (by kernel_rfl) (fun a o h => (e215 a).trans h)
def F192 : FEnv := ⟨⟨TYS, [(215, pf215)], EQS, [], [], false, []⟩, []⟩
def pf192 : PF := ⟨[(.rd, .i64), (.rd, .i64)], [.i64], .uniq, cmp_Compare_int⟩
theorem e192 (a : argT [(.rd, .i64), (.rd, .i64)]) : evFun F192 Tryz.f192 [(.rd, .i64), (.rd, .i64)] [.i64] .uniq a = cmp_Compare_int a := by kernel_rfl
theorem s192 : Sound Tryz.prog GLB 192 pf192 := sound_fun (F := F192) (envOK ⟨s215, trivial⟩ trivial trivial trivial) Tryz.func192 (by kernel_rfl) (fun a o h => (e192 a).trans h)
def F216 : FEnv := ⟨⟨TYS, [], EQS, [], [], false, []⟩, []⟩
def pf216 : PF := ⟨[(.rd, .str)], [.bool], .uniq, cmp_isNaN_string⟩
theorem e216 (a : argT [(.rd, .str)]) : evFun F216 Tryz.f216 [(.rd, .str)] [.bool] .uniq a = cmp_isNaN_string a := by kernel_rfl
theorem s216 : Sound Tryz.prog GLB 216 pf216 := sound_fun (F := F216) (envOK trivial trivial trivial trivial) Tryz.func216 (by kernel_rfl) (fun a o h => (e216 a).trans h)
def F193 : FEnv := ⟨⟨TYS, [(216, pf216)], EQS, [], [], false, []⟩, []⟩
def pf193 : PF := ⟨[(.rd, .str), (.rd, .str)], [.i64], .uniq, cmp_Compare_string⟩
theorem e193 (a : argT [(.rd, .str), (.rd, .str)]) : evFun F193 Tryz.f193 [(.rd, .str), (.rd, .str)] [.i64] .uniq a = cmp_Compare_string a := by kernel_rfl
theorem s193 : Sound Tryz.prog GLB 193 pf193 := sound_fun (F := F193) (envOK ⟨s216, trivial⟩ trivial trivial trivial) Tryz.func193 (by kernel_rfl) (fun a o h => (e193 a).trans h)
def F154 : FEnv := ⟨⟨TYS, [(192, pf192), (193, pf193)], EQS, [], [], false, []⟩, []⟩
def pf154 : PF := ⟨[(.rd, q3), (.rd, q3)], [.i64], .uniq, impl_comparePlace⟩
theorem e154 (a : argT [(.rd, q3), (.rd, q3)]) : evFun F154 Tryz.f154 [(.rd, q3), (.rd, q3)] [.i64] .uniq a = impl_comparePlace a := by kernel_rfl
theorem s154 : Sound Tryz.prog GLB 154 pf154 := sound_fun (F := F154) (envOK ⟨s192, s193, trivial⟩ trivial trivial trivial) Tryz.func154 (by kernel_rfl) (fun a o h => (e154 a).trans h)
def F120 : FEnv := ⟨⟨TYS, [(153, pf153), (154, pf154)], EQS, [], [], false, []⟩, [(2, [.slot 9 .i64 (.imm false)])]⟩
def pf120 : PF := ⟨[(.rd, (.pair .i64 .i64)), (.rd, (.sl 62 q3))], [.bool], .uniq, impl_TableOk⟩
theorem e120 (a : argT [(.rd, (.pair .i64 .i64)), (.rd, (.sl 62 q3))]) : evFun F120 Tryz.f120 [(.rd, (.pair .i64 .i64)), (.rd, (.sl 62 q3))] [.bool] .uniq a = impl_TableOk a := by kernel_rfl
theorem s120 : Sound Tryz.prog GLB 120 pf120 := sound_fun (F := F120) (envOK ⟨s153, s154, trivial⟩ trivial trivial trivial) Tryz.func120 (by kernel_rfl) (fun a o h => (e120 a).trans h)
def F121 : FEnv := ⟨⟨TYS, [(117, pf117)], EQS, [], [], false, []⟩, []⟩
def pf121 : PF := ⟨[(.rd, q7)], [.bool], .uniq, impl_DiskOk⟩
theorem e121 (a : argT [(.rd, q7)]) : evFun F121 Tryz.f121 [(.rd, q7)] [.bool] .uniq a = impl_DiskOk a := by kernel_rfl
theorem s121 : Sound Tryz.prog GLB 121 pf121 := sound_fun (F := F121) (envOK ⟨s117, trivial⟩ trivial trivial trivial) Tryz.func121 (by kernel_rfl) (fun a o h => (e121 a).trans h)
def F169 : FEnv := ⟨⟨TYS, [], EQS, [], [], false, []⟩, []⟩
def pf169 : PF := ⟨[(.rd, q1)], [q1], .shared, impl_named⟩
theorem e169 (a : argT [(.rd, q1)]) : evFun F169 Tryz.f169 [(.rd, q1)] [q1] .shared a = impl_named a := by kernel_rfl
theorem s169 : Sound Tryz.prog GLB 169 pf169 := sound_fun (F := F169) (envOK trivial trivial trivial trivial) Tryz.func169 (by kernel_rfl) (fun a o h => (e169 a).trans h)
def F204 : FEnv := ⟨⟨TYS, [(135, pf135)], EQS, [], [], false, []⟩, []⟩
def pf204 : PF := ⟨[(.rd, (.pair .str q3)), (.rd, (.pair .str q3))], [.bool], .uniq, impl_BlockSame⟩
theorem e204 (a : argT [(.rd, (.pair .str q3)), (.rd, (.pair .str q3))]) : evFun F204 Tryz.f204 [(.rd, (.pair .str q3)), (.rd, (.pair .str q3))] [.bool] .uniq a = impl_BlockSame a := by kernel_rfl
theorem s204 : Sound Tryz.prog GLB 204 pf204 := sound_fun (F := F204) (envOK ⟨s135, trivial⟩ trivial trivial trivial) Tryz.func204 (by kernel_rfl) (fun a o h => (e204 a).trans h)
def F205 : FEnv := ⟨⟨TYS, [(174, pf174)], EQS, [], [], false, []⟩, []⟩
def pf205 : PF := ⟨[(.rd, q3), (.rd, q3)], [.bool], .uniq, impl_partSame⟩
theorem e205 (a : argT [(.rd, q3), (.rd, q3)]) : evFun F205 Tryz.f205 [(.rd, q3), (.rd, q3)] [.bool] .uniq a = impl_partSame a := by kernel_rfl
theorem s205 : Sound Tryz.prog GLB 205 pf205 := sound_fun (F := F205) (envOK ⟨s174, trivial⟩ trivial trivial trivial) Tryz.func205 (by kernel_rfl) (fun a o h => (e205 a).trans h)
def F168 : FEnv := ⟨⟨TYS, [(204, pf204), (205, pf205), (135, pf135)], EQS, [], [], false, []⟩, []⟩
def pf168 : PF := ⟨[(.rd, q1), (.rd, q1)], [.bool], .uniq, impl_MsgSame⟩
theorem e168 (a : argT [(.rd, q1), (.rd, q1)]) : evFun F168 Tryz.f168 [(.rd, q1), (.rd, q1)] [.bool] .uniq a = impl_MsgSame a := by kernel_rfl
theorem s168 : Sound Tryz.prog GLB 168 pf168 := sound_fun (F := F168) (envOK ⟨s204, s205, s135, trivial⟩ trivial trivial trivial) Tryz.func168 (by kernel_rfl) (fun a o h => (e168 a).trans h)
def F206 : FEnv := ⟨⟨TYS, [(166, pf166), (230, pf230)], EQS, [], [], false, []⟩, []⟩
def pf206 : PF := ⟨[(.rd, .str)], [.str], .uniq, impl_UpOf⟩
theorem e206 (a : argT [(.rd, .str)]) : evFun F206 Tryz.f206 [(.rd, .str)] [.str] .uniq a = impl_UpOf a := by kernel_rfl
theorem s206 : Sound Tryz.prog GLB 206 pf206 := sound_fun (F := F206) (envOK ⟨s166, s230, trivial⟩ trivial trivial trivial) Tryz.func206 (by kernel_rfl) (fun a o h => (e206 a).trans h)
def F170 : FEnv := ⟨⟨TYS, [(165, pf165), (166, pf166), (206, pf206)], EQS, [], [], false, []⟩, []⟩
def pf170 : PF := ⟨[(.rd, (.pair .i64 .i64)), (.rd, (.pair .str q3))], [.bool], .uniq, impl_BlockOk⟩
theorem e170 (a : argT [(.rd, (.pair .i64 .i64)), (.rd, (.pair .str q3))]) : evFun F170 Tryz.f170 [(.rd, (.pair .i64 .i64)), (.rd, (.pair .str q3))] [.bool] .uniq a = impl_BlockOk a := by kernel_rfl
theorem s170 : Sound Tryz.prog GLB 170 pf170 := sound_fun (F := F170) (envOK ⟨s165, s166, s206, trivial⟩ trivial trivial trivial) Tryz.func170 (by kernel_rfl) (fun a o h => (e170 a).trans h)
def F122 : FEnv := ⟨⟨TYS, [(116, pf116), (169, pf169), (168, pf168), (170, pf170), (153, pf153), (117, pf117), (165, pf165), (167, pf167)], EQS, [], [], false, []⟩, []⟩
def pf122 : PF := ⟨[(.rd, (.pair .i64 .i64)), (.rd, q1)], [.bool], .uniq, impl_MsgOk⟩
theorem e122 (a : argT [(.rd, (.pair .i64 .i64)), (.rd, q1)]) : evFun F122 Tryz.f122 [(.rd, (.pair .i64 .i64)), (.rd, q1)] [.bool] .uniq a = impl_MsgOk a := by kernel_rfl
theorem s122 : Sound Tryz.prog GLB 122 pf122 := sound_fun (F := F122) (envOK ⟨s116, s169, s168, s170, s153, s117, s165, s167, trivial⟩ trivial trivial trivial) Tryz.func122 (by kernel_rfl) (fun a o h => (e122 a).trans h)
def F55 : FEnv := ⟨⟨TYS, [(116, pf116), (117, pf117), (118, pf118), (119, pf119), (120, pf120), (121, pf121), (122, pf122)], EQS, [], [], false, []⟩, [(4, [.slot 66 .i64 (.imm false)])]⟩
def pf55 : PF := ⟨[(.rd, (.pair .i64 .i64)), (.rd, q2)], [.bool], .uniq, impl_RepOk⟩
theorem e55 (a : argT [(.rd, (.pair .i64 .i64)), (.rd, q2)]) : evFun F55 Tryz.f55 [(.rd, (.pair .i64 .i64)), (.rd, q2)] [.bool] .uniq a = impl_RepOk a := by kernel_rfl
theorem s55 : Sound Tryz.prog GLB 55 pf55 := sound_fun (F := F55) (envOK ⟨s116, s117, s118, s119, s120, s121, s122, trivial⟩ trivial trivial trivial) Tryz.func55 (by kernel_rfl) (fun a o h => (e55 a).trans h)
def F125 : FEnv := ⟨⟨TYS, [], EQS, [], [], false, []⟩, [(4, [.slot 5 .i64 (.imm false)])]⟩
def pf125 : PF := ⟨[(.rd, (.sl 3 .i64)), (.rd, (.sl 3 .i64))], [.bool], .uniq, laws_eqIntS⟩
theorem e125 (a : argT [(.rd, (.sl 3 .i64)), (.rd, (.sl 3 .i64))]) : evFun F125 Tryz.f125 [(.rd, (.sl 3 .i64)), (.rd, (.sl 3 .i64))] [.bool] .uniq a = laws_eqIntS a := by kernel_rfl
theorem s125 : Sound Tryz.prog GLB 125 pf125 := sound_fun (F := F125) (envOK trivial trivial trivial trivial) Tryz.func125 (by kernel_rfl) (fun a o h => (e125 a).trans h)
def F62 : FEnv := ⟨⟨TYS, [(125, pf125)], EQS, [], [], false, []⟩, []⟩
def pf62 : PF := ⟨[(.rd, q3), (.rd, q3)], [.bool], .uniq, laws_eqQc⟩
theorem e62 (a : argT [(.rd, q3), (.rd, q3)]) : evFun F62 Tryz.f62 [(.rd, q3), (.rd, q3)] [.bool] .uniq a = laws_eqQc a := by kernel_rfl
theorem s62 : Sound Tryz.prog GLB 62 pf62 := sound_fun (F := F62) (envOK ⟨s125, trivial⟩ trivial trivial trivial) Tryz.func62 (by kernel_rfl) (fun a o h => (e62 a).trans h)
def F27 : FEnv := ⟨⟨TYS, [(62, pf62)], EQS, [], [], false, []⟩, []⟩
def pf27 : PF := ⟨[(.rd, q5), (.rd, q5)], [.bool], .uniq, laws_eqSafe⟩
theorem e27 (a : argT [(.rd, q5), (.rd, q5)]) : evFun F27 Tryz.f27 [(.rd, q5), (.rd, q5)] [.bool] .uniq a = laws_eqSafe a := by kernel_rfl
theorem s27 : Sound Tryz.prog GLB 27 pf27 := sound_fun (F := F27) (envOK ⟨s62, trivial⟩ trivial trivial trivial) Tryz.func27 (by kernel_rfl) (fun a o h => (e27 a).trans h)
def F63 : FEnv := ⟨⟨TYS, [], EQS, [], [], false, []⟩, []⟩
def pf63 : PF := ⟨[(.rd, q4), (.rd, q4)], [.bool], .uniq, laws_eqTx⟩
theorem e63 (a : argT [(.rd, q4), (.rd, q4)]) : evFun F63 Tryz.f63 [(.rd, q4), (.rd, q4)] [.bool] .uniq a = laws_eqTx a := by kernel_rfl
theorem s63 : Sound Tryz.prog GLB 63 pf63 := sound_fun (F := F63) (envOK trivial trivial trivial trivial) Tryz.func63 (by kernel_rfl) (fun a o h => (e63 a).trans h)
def F56 : FEnv := ⟨⟨TYS, [(63, pf63)], EQS, [], [], false, []⟩, [(4, [.slot 5 .i64 (.imm false)])]⟩
def pf56 : PF := ⟨[(.rd, (.sl 63 q4)), (.rd, (.sl 63 q4))], [.bool], .uniq, laws_eqTxS⟩
theorem e56 (a : argT [(.rd, (.sl 63 q4)), (.rd, (.sl 63 q4))]) : evFun F56 Tryz.f56 [(.rd, (.sl 63 q4)), (.rd, (.sl 63 q4))] [.bool] .uniq a = laws_eqTxS a := by kernel_rfl
theorem s56 : Sound Tryz.prog GLB 56 pf56 := sound_fun (F := F56) (envOK ⟨s63, trivial⟩ trivial trivial trivial) Tryz.func56 (by kernel_rfl) (fun a o h => (e56 a).trans h)
def F61 : FEnv := ⟨⟨TYS, [(125, pf125)], EQS, [], [], false, []⟩, []⟩
def pf61 : PF := ⟨[(.rd, q3), (.rd, q3)], [.bool], .uniq, laws_eqPart⟩
theorem e61 (a : argT [(.rd, q3), (.rd, q3)]) : evFun F61 Tryz.f61 [(.rd, q3), (.rd, q3)] [.bool] .uniq a = laws_eqPart a := by kernel_rfl
theorem s61 : Sound Tryz.prog GLB 61 pf61 := sound_fun (F := F61) (envOK ⟨s125, trivial⟩ trivial trivial trivial) Tryz.func61 (by kernel_rfl) (fun a o h => (e61 a).trans h)
def F57 : FEnv := ⟨⟨TYS, [(61, pf61)], EQS, [], [], false, []⟩, [(4, [.slot 5 .i64 (.imm false)])]⟩
def pf57 : PF := ⟨[(.rd, (.sl 62 q3)), (.rd, (.sl 62 q3))], [.bool], .uniq, laws_eqPartS⟩
theorem e57 (a : argT [(.rd, (.sl 62 q3)), (.rd, (.sl 62 q3))]) : evFun F57 Tryz.f57 [(.rd, (.sl 62 q3)), (.rd, (.sl 62 q3))] [.bool] .uniq a = laws_eqPartS a := by kernel_rfl
theorem s57 : Sound Tryz.prog GLB 57 pf57 := sound_fun (F := F57) (envOK ⟨s61, trivial⟩ trivial trivial trivial) Tryz.func57 (by kernel_rfl) (fun a o h => (e57 a).trans h)
def F123 : FEnv := ⟨⟨TYS, [], EQS, [], [], false, []⟩, [(4, [.slot 5 .i64 (.imm false)])]⟩
def pf123 : PF := ⟨[(.rd, (.sl 5 .u8)), (.rd, (.sl 5 .u8))], [.bool], .uniq, laws_eqByteS⟩
theorem e123 (a : argT [(.rd, (.sl 5 .u8)), (.rd, (.sl 5 .u8))]) : evFun F123 Tryz.f123 [(.rd, (.sl 5 .u8)), (.rd, (.sl 5 .u8))] [.bool] .uniq a = laws_eqByteS a := by kernel_rfl
theorem s123 : Sound Tryz.prog GLB 123 pf123 := sound_fun (F := F123) (envOK trivial trivial trivial trivial) Tryz.func123 (by kernel_rfl) (fun a o h => (e123 a).trans h)
def F58 : FEnv := ⟨⟨TYS, [(123, pf123)], EQS, [], [], false, []⟩, []⟩
def pf58 : PF := ⟨[(.rd, q7), (.rd, q7)], [.bool], .uniq, laws_eqDisk⟩
theorem e58 (a : argT [(.rd, q7), (.rd, q7)]) : evFun F58 Tryz.f58 [(.rd, q7), (.rd, q7)] [.bool] .uniq a = laws_eqDisk a := by kernel_rfl
theorem s58 : Sound Tryz.prog GLB 58 pf58 := sound_fun (F := F58) (envOK ⟨s123, trivial⟩ trivial trivial trivial) Tryz.func58 (by kernel_rfl) (fun a o h => (e58 a).trans h)
def F60 : FEnv := ⟨⟨TYS, [(62, pf62)], EQS, [], [], false, []⟩, []⟩
def pf60 : PF := ⟨[(.rd, (.pair .str q3)), (.rd, (.pair .str q3))], [.bool], .uniq, laws_eqBlock⟩
theorem e60 (a : argT [(.rd, (.pair .str q3)), (.rd, (.pair .str q3))]) : evFun F60 Tryz.f60 [(.rd, (.pair .str q3)), (.rd, (.pair .str q3))] [.bool] .uniq a = laws_eqBlock a := by kernel_rfl
theorem s60 : Sound Tryz.prog GLB 60 pf60 := sound_fun (F := F60) (envOK ⟨s62, trivial⟩ trivial trivial trivial) Tryz.func60 (by kernel_rfl) (fun a o h => (e60 a).trans h)
def F17 : FEnv := ⟨⟨TYS, [(60, pf60), (61, pf61), (62, pf62), (63, pf63)], EQS, [], [], false, []⟩, []⟩
def pf17 : PF := ⟨[(.rd, q1), (.rd, q1)], [.bool], .uniq, laws_eqMsg⟩
theorem e17 (a : argT [(.rd, q1), (.rd, q1)]) : evFun F17 Tryz.f17 [(.rd, q1), (.rd, q1)] [.bool] .uniq a = laws_eqMsg a := by kernel_rfl
theorem s17 : Sound Tryz.prog GLB 17 pf17 := sound_fun (F := F17) (envOK ⟨s60, s61, s62, s63, trivial⟩ trivial trivial trivial) Tryz.func17 (by kernel_rfl) (fun a o h => (e17 a).trans h)
def F124 : FEnv := ⟨⟨TYS, [(17, pf17)], EQS, [], [], false, []⟩, []⟩
def pf124 : PF := ⟨[(.rd, (.pair .i64 q1)), (.rd, (.pair .i64 q1))], [.bool], .uniq, laws_eqPost⟩
theorem e124 (a : argT [(.rd, (.pair .i64 q1)), (.rd, (.pair .i64 q1))]) : evFun F124 Tryz.f124 [(.rd, (.pair .i64 q1)), (.rd, (.pair .i64 q1))] [.bool] .uniq a = laws_eqPost a := by kernel_rfl
theorem s124 : Sound Tryz.prog GLB 124 pf124 := sound_fun (F := F124) (envOK ⟨s17, trivial⟩ trivial trivial trivial) Tryz.func124 (by kernel_rfl) (fun a o h => (e124 a).trans h)
def F59 : FEnv := ⟨⟨TYS, [(124, pf124)], EQS, [], [], false, []⟩, [(4, [.slot 5 .i64 (.imm false)])]⟩
def pf59 : PF := ⟨[(.rd, q8), (.rd, q8)], [.bool], .uniq, laws_eqPostS⟩
theorem e59 (a : argT [(.rd, q8), (.rd, q8)]) : evFun F59 Tryz.f59 [(.rd, q8), (.rd, q8)] [.bool] .uniq a = laws_eqPostS a := by kernel_rfl
theorem s59 : Sound Tryz.prog GLB 59 pf59 := sound_fun (F := F59) (envOK ⟨s124, trivial⟩ trivial trivial trivial) Tryz.func59 (by kernel_rfl) (fun a o h => (e59 a).trans h)
def F16 : FEnv := ⟨⟨TYS, [(27, pf27), (56, pf56), (57, pf57), (58, pf58), (59, pf59)], EQS, [], [], false, []⟩, []⟩
def pf16 : PF := ⟨[(.rd, q2), (.rd, q2)], [.bool], .uniq, laws_eqRep⟩
theorem e16 (a : argT [(.rd, q2), (.rd, q2)]) : evFun F16 Tryz.f16 [(.rd, q2), (.rd, q2)] [.bool] .uniq a = laws_eqRep a := by kernel_rfl
theorem s16 : Sound Tryz.prog GLB 16 pf16 := sound_fun (F := F16) (envOK ⟨s27, s56, s57, s58, s59, trivial⟩ trivial trivial trivial) Tryz.func16 (by kernel_rfl) (fun a o h => (e16 a).trans h)
def F127 : FEnv := ⟨⟨TYS, [], EQS, [], [], false, []⟩, [(2, [.slot 1 .i64 (.imm false), .slot 5 .i64 (.imm false), .row 0 3 .i64 .lent])]⟩
def pf127 : MF := ⟨(.sl 3 .i64), laws_markIntS⟩
theorem e127 (a : den (.sl 3 .i64) × Int × Unit) : evTurnFun F127 Tryz.f127 (.sl 3 .i64) a = laws_markIntS a := by kernel_rfl
theorem s127 : SoundM Tryz.prog GLB 127 pf127 := sound_funM (F := F127) (envOK trivial trivial trivial trivial) Tryz.func127 (by kernel_rfl) (fun a o h => (e127 a).trans h)
def F70 : FEnv := ⟨⟨TYS, [], EQS, [], [(127, pf127)], false, []⟩, []⟩
def pf70 : MF := ⟨q3, laws_markQc⟩
theorem e70 (a : den q3 × Int × Unit) : evTurnFun F70 Tryz.f70 q3 a = laws_markQc a := by kernel_rfl
theorem s70 : SoundM Tryz.prog GLB 70 pf70 := sound_funM (F := F70) (envOK trivial trivial s127 trivial) Tryz.func70 (by kernel_rfl) (fun a o h => (e70 a).trans h)
def F28 : FEnv := ⟨⟨TYS, [], EQS, [], [(70, pf70)], false, []⟩, []⟩
def pf28 : MF := ⟨q5, laws_markSafe⟩
theorem e28 (a : den q5 × Int × Unit) : evTurnFun F28 Tryz.f28 q5 a = laws_markSafe a := by kernel_rfl
theorem s28 : SoundM Tryz.prog GLB 28 pf28 := sound_funM (F := F28) (envOK trivial trivial s70 trivial) Tryz.func28 (by kernel_rfl) (fun a o h => (e28 a).trans h)
def F64 : FEnv := ⟨⟨TYS, [], EQS, [], [], false, []⟩, [(2, [.slot 1 .i64 (.imm false), .slot 5 .i64 (.imm false), .row 0 63 q4 .lent])]⟩
def pf64 : MF := ⟨(.sl 63 q4), laws_markTxS⟩
theorem e64 (a : den (.sl 63 q4) × Int × Unit) : evTurnFun F64 Tryz.f64 (.sl 63 q4) a = laws_markTxS a := by kernel_rfl
theorem s64 : SoundM Tryz.prog GLB 64 pf64 := sound_funM (F := F64) (envOK trivial trivial trivial trivial) Tryz.func64 (by kernel_rfl) (fun a o h => (e64 a).trans h)
def F126 : FEnv := ⟨⟨TYS, [], EQS, [], [], false, []⟩, [(4, [.slot 0 .i64 (.imm false), .slot 3 .str (.imm false)])]⟩
def pf126 : PF := ⟨[(.rd, .i64)], [.str], .uniq, laws_markText⟩
theorem e126 (a : argT [(.rd, .i64)]) : evFun F126 Tryz.f126 [(.rd, .i64)] [.str] .uniq a = laws_markText a := by kernel_rfl
theorem s126 : Sound Tryz.prog GLB 126 pf126 := sound_fun (F := F126) (envOK trivial trivial trivial trivial) Tryz.func126 (by kernel_rfl) (fun a o h => (e126 a).trans h)
def F65 : FEnv := ⟨⟨TYS, [(126, pf126)], EQS, [], [(127, pf127)], false, []⟩, [(2, [.slot 1 .i64 (.imm false), .slot 5 .i64 (.imm false), .row 0 62 q3 .lent])]⟩
def pf65 : MF := ⟨(.sl 62 q3), laws_markPartS⟩
theorem e65 (a : den (.sl 62 q3) × Int × Unit) : evTurnFun F65 Tryz.f65 (.sl 62 q3) a = laws_markPartS a := by kernel_rfl
theorem s65 : SoundM Tryz.prog GLB 65 pf65 := sound_funM (F := F65) (envOK ⟨s126, trivial⟩ trivial s127 trivial) Tryz.func65 (by kernel_rfl) (fun a o h => (e65 a).trans h)
def F128 : FEnv := ⟨⟨TYS, [], EQS, [], [], false, []⟩, [(2, [.slot 1 .i64 (.imm false), .slot 5 .i64 (.imm false), .row 0 5 .u8 .lent])]⟩
def pf128 : MF := ⟨(.sl 5 .u8), laws_markByteS⟩
theorem e128 (a : den (.sl 5 .u8) × Int × Unit) : evTurnFun F128 Tryz.f128 (.sl 5 .u8) a = laws_markByteS a := by kernel_rfl
theorem s128 : SoundM Tryz.prog GLB 128 pf128 := sound_funM (F := F128) (envOK trivial trivial trivial trivial) Tryz.func128 (by kernel_rfl) (fun a o h => (e128 a).trans h)
def F66 : FEnv := ⟨⟨TYS, [], EQS, [], [(128, pf128)], false, []⟩, []⟩
def pf66 : MF := ⟨q7, laws_markDisk⟩
theorem e66 (a : den q7 × Int × Unit) : evTurnFun F66 Tryz.f66 q7 a = laws_markDisk a := by kernel_rfl
theorem s66 : SoundM Tryz.prog GLB 66 pf66 := sound_funM (F := F66) (envOK trivial trivial s128 trivial) Tryz.func66 (by kernel_rfl) (fun a o h => (e66 a).trans h)
def F67 : FEnv := ⟨⟨TYS, [(126, pf126)], EQS, [], [(127, pf127)], false, []⟩, [(2, [.slot 1 .i64 (.imm false), .slot 5 .i64 (.imm false), .row 0 104 (.pair .i64 q1) .lent])]⟩
def pf67 : MF := ⟨q8, laws_markPostS⟩
theorem e67 (a : den q8 × Int × Unit) : evTurnFun F67 Tryz.f67 q8 a = laws_markPostS a := by kernel_rfl
theorem s67 : SoundM Tryz.prog GLB 67 pf67 := sound_funM (F := F67) (envOK ⟨s126, trivial⟩ trivial s127 trivial) Tryz.func67 (by kernel_rfl) (fun a o h => (e67 a).trans h)
def F18 : FEnv := ⟨⟨TYS, [], EQS, [], [(28, pf28), (64, pf64), (65, pf65), (66, pf66), (67, pf67)], false, []⟩, []⟩
def pf18 : MF := ⟨q2, laws_markRep⟩
theorem e18 (a : den q2 × Int × Unit) : evTurnFun F18 Tryz.f18 q2 a = laws_markRep a := by kernel_rfl
theorem s18 : SoundM Tryz.prog GLB 18 pf18 := sound_funM (F := F18) (envOK trivial trivial ⟨s28, s64, s65, s66, s67⟩ trivial) Tryz.func18 (by kernel_rfl) (fun a o h => (e18 a).trans h)
def F130 : FEnv := ⟨⟨TYS, [], EQS, [], [], false, []⟩, [(2, [.slot 1 .i64 (.imm false), .slot 5 .i64 (.imm false)])]⟩
def pf130 : PF := ⟨[(.rd, (.sl 3 .i64)), (.rd, .i64)], [.i64], .uniq, laws_heldIntS⟩
theorem e130 (a : argT [(.rd, (.sl 3 .i64)), (.rd, .i64)]) : evFun F130 Tryz.f130 [(.rd, (.sl 3 .i64)), (.rd, .i64)] [.i64] .uniq a = laws_heldIntS a := by kernel_rfl
theorem s130 : Sound Tryz.prog GLB 130 pf130 := sound_fun (F := F130) (envOK trivial trivial trivial trivial) Tryz.func130 (by kernel_rfl) (fun a o h => (e130 a).trans h)
def F129 : FEnv := ⟨⟨TYS, [(130, pf130)], EQS, [], [], false, []⟩, []⟩
def pf129 : PF := ⟨[(.rd, q3), (.rd, .i64)], [.i64], .uniq, laws_heldQc⟩
theorem e129 (a : argT [(.rd, q3), (.rd, .i64)]) : evFun F129 Tryz.f129 [(.rd, q3), (.rd, .i64)] [.i64] .uniq a = laws_heldQc a := by kernel_rfl
theorem s129 : Sound Tryz.prog GLB 129 pf129 := sound_fun (F := F129) (envOK ⟨s130, trivial⟩ trivial trivial trivial) Tryz.func129 (by kernel_rfl) (fun a o h => (e129 a).trans h)
def F71 : FEnv := ⟨⟨TYS, [(129, pf129)], EQS, [], [], false, []⟩, []⟩
def pf71 : PF := ⟨[(.rd, q5), (.rd, .i64)], [.i64], .uniq, laws_heldSafe⟩
theorem e71 (a : argT [(.rd, q5), (.rd, .i64)]) : evFun F71 Tryz.f71 [(.rd, q5), (.rd, .i64)] [.i64] .uniq a = laws_heldSafe a := by kernel_rfl
theorem s71 : Sound Tryz.prog GLB 71 pf71 := sound_fun (F := F71) (envOK ⟨s129, trivial⟩ trivial trivial trivial) Tryz.func71 (by kernel_rfl) (fun a o h => (e71 a).trans h)
def F72 : FEnv := ⟨⟨TYS, [], EQS, [], [], false, []⟩, [(2, [.slot 1 .i64 (.imm false), .slot 5 .i64 (.imm false)])]⟩
def pf72 : PF := ⟨[(.rd, (.sl 63 q4)), (.rd, .i64)], [.i64], .uniq, laws_heldTxS⟩
theorem e72 (a : argT [(.rd, (.sl 63 q4)), (.rd, .i64)]) : evFun F72 Tryz.f72 [(.rd, (.sl 63 q4)), (.rd, .i64)] [.i64] .uniq a = laws_heldTxS a := by kernel_rfl
theorem s72 : Sound Tryz.prog GLB 72 pf72 := sound_fun (F := F72) (envOK trivial trivial trivial trivial) Tryz.func72 (by kernel_rfl) (fun a o h => (e72 a).trans h)
def F73 : FEnv := ⟨⟨TYS, [(126, pf126), (130, pf130)], EQS, [], [], false, []⟩, [(2, [.slot 1 .i64 (.imm false), .slot 5 .i64 (.imm false)])]⟩
def pf73 : PF := ⟨[(.rd, (.sl 62 q3)), (.rd, .i64)], [.i64], .uniq, laws_heldPartS⟩
theorem e73 (a : argT [(.rd, (.sl 62 q3)), (.rd, .i64)]) : evFun F73 Tryz.f73 [(.rd, (.sl 62 q3)), (.rd, .i64)] [.i64] .uniq a = laws_heldPartS a := by kernel_rfl
theorem s73 : Sound Tryz.prog GLB 73 pf73 := sound_fun (F := F73) (envOK ⟨s126, s130, trivial⟩ trivial trivial trivial) Tryz.func73 (by kernel_rfl) (fun a o h => (e73 a).trans h)
def F131 : FEnv := ⟨⟨TYS, [], EQS, [], [], false, []⟩, [(2, [.slot 1 .i64 (.imm false), .slot 5 .i64 (.imm false)])]⟩
def pf131 : PF := ⟨[(.rd, (.sl 5 .u8)), (.rd, .i64)], [.i64], .uniq, laws_heldByteS⟩
theorem e131 (a : argT [(.rd, (.sl 5 .u8)), (.rd, .i64)]) : evFun F131 Tryz.f131 [(.rd, (.sl 5 .u8)), (.rd, .i64)] [.i64] .uniq a = laws_heldByteS a := by kernel_rfl
theorem s131 : Sound Tryz.prog GLB 131 pf131 := sound_fun (F := F131) (envOK trivial trivial trivial trivial) Tryz.func131 (by kernel_rfl) (fun a o h => (e131 a).trans h)
def F74 : FEnv := ⟨⟨TYS, [(131, pf131)], EQS, [], [], false, []⟩, []⟩
def pf74 : PF := ⟨[(.rd, q7), (.rd, .i64)], [.i64], .uniq, laws_heldDisk⟩
theorem e74 (a : argT [(.rd, q7), (.rd, .i64)]) : evFun F74 Tryz.f74 [(.rd, q7), (.rd, .i64)] [.i64] .uniq a = laws_heldDisk a := by kernel_rfl
theorem s74 : Sound Tryz.prog GLB 74 pf74 := sound_fun (F := F74) (envOK ⟨s131, trivial⟩ trivial trivial trivial) Tryz.func74 (by kernel_rfl) (fun a o h => (e74 a).trans h)
def F75 : FEnv := ⟨⟨TYS, [(126, pf126), (130, pf130)], EQS, [], [], false, []⟩, [(2, [.slot 1 .i64 (.imm false), .slot 5 .i64 (.imm false)])]⟩
def pf75 : PF := ⟨[(.rd, q8), (.rd, .i64)], [.i64], .uniq, laws_heldPostS⟩
theorem e75 (a : argT [(.rd, q8), (.rd, .i64)]) : evFun F75 Tryz.f75 [(.rd, q8), (.rd, .i64)] [.i64] .uniq a = laws_heldPostS a := by kernel_rfl
theorem s75 : Sound Tryz.prog GLB 75 pf75 := sound_fun (F := F75) (envOK ⟨s126, s130, trivial⟩ trivial trivial trivial) Tryz.func75 (by kernel_rfl) (fun a o h => (e75 a).trans h)
def F20 : FEnv := ⟨⟨TYS, [(71, pf71), (72, pf72), (73, pf73), (74, pf74), (75, pf75)], EQS, [], [], false, []⟩, []⟩
def pf20 : PF := ⟨[(.rd, q2), (.rd, .i64)], [.i64], .uniq, laws_heldRep⟩
theorem e20 (a : argT [(.rd, q2), (.rd, .i64)]) : evFun F20 Tryz.f20 [(.rd, q2), (.rd, .i64)] [.i64] .uniq a = laws_heldRep a := by kernel_rfl
theorem s20 : Sound Tryz.prog GLB 20 pf20 := sound_fun (F := F20) (envOK ⟨s71, s72, s73, s74, s75, trivial⟩ trivial trivial trivial) Tryz.func20 (by kernel_rfl) (fun a o h => (e20 a).trans h)
def F81 : FEnv := ⟨⟨TYS, [(138, pf138), (97, pf97)], EQS, [], [], false, []⟩, [(2, [.slot 6 .i64 (.imm false)])]⟩
def pf81 : PF := ⟨[(.rd, (.sl 63 q4)), (.rd, q4)], [(.sl 63 q4), .bool], .uniq, spec_PoolAdd⟩
theorem e81 (a : argT [(.rd, (.sl 63 q4)), (.rd, q4)]) : evFun F81 Tryz.f81 [(.rd, (.sl 63 q4)), (.rd, q4)] [(.sl 63 q4), .bool] .uniq a = spec_PoolAdd a := by kernel_rfl
theorem s81 : Sound Tryz.prog GLB 81 pf81 := sound_fun (F := F81) (envOK ⟨s138, s97, trivial⟩ trivial trivial trivial) Tryz.func81 (by kernel_rfl) (fun a o h => (e81 a).trans h)
def F29 : FEnv := ⟨⟨TYS, [(44, pf44), (43, pf43), (81, pf81)], EQS, [], [], false, []⟩, []⟩
def pf29 : PF := ⟨[(.rd, (.pair .i64 .i64)), (.rd, q2), (.rd, q4)], [q2, .bool], .uniq, spec_HearTx⟩
theorem e29 (a : argT [(.rd, (.pair .i64 .i64)), (.rd, q2), (.rd, q4)]) : evFun F29 Tryz.f29 [(.rd, (.pair .i64 .i64)), (.rd, q2), (.rd, q4)] [q2, .bool] .uniq a = spec_HearTx a := by kernel_rfl
theorem s29 : Sound Tryz.prog GLB 29 pf29 := sound_fun (F := F29) (envOK ⟨s44, s43, s81, trivial⟩ trivial trivial trivial) Tryz.func29 (by kernel_rfl) (fun a o h => (e29 a).trans h)
def F140 : FEnv := ⟨⟨TYS, [(141, pf141)], EQS, [], [], false, []⟩, []⟩
def pf140 : PF := ⟨[(.rd, q4), (.cap, q4)], [.bool], .uniq, impl_PoolAdd_1⟩
theorem e140 (a : argT [(.rd, q4), (.cap, q4)]) : evFun F140 Tryz.f140 [(.rd, q4), (.cap, q4)] [.bool] .uniq a = impl_PoolAdd_1 a := by kernel_rfl
theorem s140 : Sound Tryz.prog GLB 140 pf140 := sound_fun (F := F140) (envOK ⟨s141, trivial⟩ trivial trivial trivial) Tryz.func140 (by kernel_rfl) (fun a o h => (e140 a).trans h)
def F139 : FEnv := ⟨⟨TYS, [(140, pf140)], EQS, [], [], false, []⟩, [(2, [.slot 8 .i64 (.imm false)])]⟩
def pf139 : PF := ⟨[(.rd, (.sl 63 q4)), ((.clo 140), q4)], [.i64], .uniq, slices_IndexFunc_impl_Tx⟩
theorem e139 (a : argT [(.rd, (.sl 63 q4)), ((.clo 140), q4)]) : evFun F139 Tryz.f139 [(.rd, (.sl 63 q4)), ((.clo 140), q4)] [.i64] .uniq a = slices_IndexFunc_impl_Tx a := by kernel_rfl
theorem s139 : Sound Tryz.prog GLB 139 pf139 := sound_fun (F := F139) (envOK ⟨s140, trivial⟩ trivial trivial trivial) Tryz.func139 (by kernel_rfl) (fun a o h => (e139 a).trans h)
def F82 : FEnv := ⟨⟨TYS, [(139, pf139), (109, pf109), (142, pf142), (119, pf119)], EQS, [], [], false, []⟩, []⟩
def pf82 : PF := ⟨[(.rd, (.sl 63 q4)), (.rd, q4)], [(.sl 63 q4), .bool], .uniq, impl_PoolAdd⟩
theorem e82 (a : argT [(.rd, (.sl 63 q4)), (.rd, q4)]) : evFun F82 Tryz.f82 [(.rd, (.sl 63 q4)), (.rd, q4)] [(.sl 63 q4), .bool] .uniq a = impl_PoolAdd a := by kernel_rfl
theorem s82 : Sound Tryz.prog GLB 82 pf82 := sound_fun (F := F82) (envOK ⟨s139, s109, s142, s119, trivial⟩ trivial trivial trivial) Tryz.func82 (by kernel_rfl) (fun a o h => (e82 a).trans h)
def F31 : FEnv := ⟨⟨TYS, [(53, pf53), (55, pf55), (82, pf82)], EQS, [], [], false, []⟩, []⟩
def pf31 : PF := ⟨[(.rd, (.pair .i64 .i64)), (.rd, q2), (.rd, q4)], [q2, .bool], .uniq, impl_HearTx⟩
theorem e31 (a : argT [(.rd, (.pair .i64 .i64)), (.rd, q2), (.rd, q4)]) : evFun F31 Tryz.f31 [(.rd, (.pair .i64 .i64)), (.rd, q2), (.rd, q4)] [q2, .bool] .uniq a = impl_HearTx a := by kernel_rfl
theorem s31 : Sound Tryz.prog GLB 31 pf31 := sound_fun (F := F31) (envOK ⟨s53, s55, s82, trivial⟩ trivial trivial trivial) Tryz.func31 (by kernel_rfl) (fun a o h => (e31 a).trans h)
def F6 : FEnv := ⟨⟨TYS, [(9, pf9), (12, pf12), (13, pf13), (30, pf30), (29, pf29), (31, pf31), (16, pf16), (20, pf20)], EQS, [], [(18, pf18)], false, []⟩, []⟩
def pf6 : PF := ⟨[(.rd, (.pair .i64 .i64)), (.rd, q6), (.rd, q4)], [.bool], .uniq, laws_FnExactHearTx⟩
theorem e6 (a : argT [(.rd, (.pair .i64 .i64)), (.rd, q6), (.rd, q4)]) : evFun F6 Tryz.f6 [(.rd, (.pair .i64 .i64)), (.rd, q6), (.rd, q4)] [.bool] .uniq a = laws_FnExactHearTx a := by kernel_rfl
theorem s6 : Sound Tryz.prog GLB 6 pf6 := sound_fun (F := F6) (envOK ⟨s9, s12, s13, s30, s29, s31, s16, s20, trivial⟩ trivial s18 trivial) Tryz.func6 (by kernel_rfl) (fun a o h => (e6 a).trans h)

end
end G448
