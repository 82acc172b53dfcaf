/- That the printed functions are what the evaluator reckons. (Printed by our own program.) -/
import Derived.Test.YtnkmhndcjjoacaaGreatDoorProg
import Derived.Test.YtnkmhndcjjoacaaGreatDoorHbFns
import Derived.Test.YtnkmhndcjjoacaaGreatDoorSh
import Derived.KernelRfl
set_option linter.unusedSimpArgs false
set_option linter.unusedVariables false
namespace G448
open Ev Go Go.Proofs
set_option maxRecDepth 100000
noncomputable section
abbrev q1:Ty:=(.pair .i64 (.pair .i64 (.pair (.pair .str (.pair .i64 (.pair .str (.sl 3 .i64)))) (.pair (.pair .i64 (.pair .str (.sl 3 .i64))) (.pair (.pair .i64 (.pair .str (.sl 3 .i64))) (.pair .i64 (.pair .i64 (.pair .i64 (.pair .i64 .i64)))))))))
abbrev q2:Ty:=(.pair .i64 (.pair .i64 (.pair .i64 (.pair (.pair .i64 (.pair .i64 (.pair (.pair .i64 (.pair .str (.sl 3 .i64))) .str))) (.pair (.sl 123 (.pair .i64 (.pair .i64 (.pair .i64 .i64)))) (.pair (.sl 87 (.pair .i64 (.pair .str (.sl 3 .i64)))) (.pair (.pair (.sl 5 .u8) .i64) (.sl 127 (.pair .i64 q1)))))))))
abbrev q3:Ty:=(.pair .i64 (.pair .str (.sl 3 .i64)))
abbrev q4:Ty:=(.pair .i64 (.pair .i64 (.pair .i64 .i64)))
abbrev q5:Ty:=(.pair .i64 (.pair .i64 (.pair q3 .str)))
abbrev q6:Ty:=(.pair (.sl 5 .u8) .i64)
abbrev q7:Ty:=(.sl 127 (.pair .i64 q1))
abbrev q8:Ty:=(.pair .i64 (.pair .i64 (.pair .i64 (.pair q5 (.pair (.sl 106 q4) (.pair (.sl 102 q3) (.pair q6 (.sl 110 (.pair .i64 q1)))))))))
abbrev q9:Ty:=(.sl 140 (.pair .i64 (.sl 123 q4)))
def TYS:List (Nat×TD):=[(3,⟨.i64,8,[],none⟩),(4,⟨.bool,1,[],none⟩),(5,⟨.u8,1,[],none⟩),(9,⟨.str,16,[],none⟩),(23,⟨(.pair .i64 .i64),16,[(0,3),(1,3)],none⟩),(24,⟨(.sl 3 .i64),24,[],none⟩),(26,⟨(.pair .i64 (.pair .str (.sl 3 .i64))),48,[(0,3),(1,9),(2,24)],none⟩),(28,⟨(.pair .i64 (.pair .i64 (.pair (.pair .i64 (.pair .str (.sl 3 .i64))) .str))),80,[(0,3),(1,3),(2,26),(5,9)],none⟩),(29,⟨(.sl 106 (.pair .i64 (.pair .i64 (.pair .i64 .i64)))),24,[],none⟩),(30,⟨(.sl 102 (.pair .i64 (.pair .str (.sl 3 .i64)))),24,[],none⟩),(31,⟨(.sl 5 .u8),24,[],none⟩),(33,⟨(.pair (.sl 5 .u8) .i64),32,[(0,31),(1,3)],none⟩),(34,⟨(.sl 110 (.pair .i64 (.pair .i64 (.pair .i64 (.pair (.pair .str (.pair .i64 (.pair .str (.sl 3 .i64)))) (.pair (.pair .i64 (.pair .str (.sl 3 .i64))) (.pair (.pair .i64 (.pair .str (.sl 3 .i64))) (.pair .i64 (.pair .i64 (.pair .i64 (.pair .i64 .i64))))))))))),24,[],none⟩),(36,⟨(.pair .i64 (.pair .i64 (.pair .i64 (.pair (.pair .i64 (.pair .i64 (.pair (.pair .i64 (.pair .str (.sl 3 .i64))) .str))) (.pair (.sl 106 (.pair .i64 (.pair .i64 (.pair .i64 .i64)))) (.pair (.sl 102 (.pair .i64 (.pair .str (.sl 3 .i64)))) (.pair (.pair (.sl 5 .u8) .i64) (.sl 110 (.pair .i64 (.pair .i64 (.pair .i64 (.pair (.pair .str (.pair .i64 (.pair .str (.sl 3 .i64)))) (.pair (.pair .i64 (.pair .str (.sl 3 .i64))) (.pair (.pair .i64 (.pair .str (.sl 3 .i64))) (.pair .i64 (.pair .i64 (.pair .i64 (.pair .i64 .i64)))))))))))))))))),208,[(0,3),(1,3),(2,3),(3,28),(9,29),(10,30),(11,33),(13,34)],none⟩),(38,⟨(.pair .str (.pair .i64 (.pair .str (.sl 3 .i64)))),64,[(0,9),(1,26)],none⟩),(41,⟨(.pair .i64 (.pair .str (.sl 3 .i64))),48,[(0,3),(1,9),(2,24)],none⟩),(43,⟨(.pair .i64 (.pair .i64 (.pair (.pair .i64 (.pair .str (.sl 3 .i64))) .str))),80,[(0,3),(1,3),(2,41),(5,9)],none⟩),(44,⟨(.sl 123 (.pair .i64 (.pair .i64 (.pair .i64 .i64)))),24,[],none⟩),(45,⟨(.sl 87 (.pair .i64 (.pair .str (.sl 3 .i64)))),24,[],none⟩),(46,⟨(.pair (.sl 5 .u8) .i64),32,[(0,31),(1,3)],none⟩),(47,⟨(.sl 127 (.pair .i64 (.pair .i64 (.pair .i64 (.pair (.pair .str (.pair .i64 (.pair .str (.sl 3 .i64)))) (.pair (.pair .i64 (.pair .str (.sl 3 .i64))) (.pair (.pair .i64 (.pair .str (.sl 3 .i64))) (.pair .i64 (.pair .i64 (.pair .i64 (.pair .i64 .i64))))))))))),24,[],none⟩),(49,⟨(.pair .i64 (.pair .i64 (.pair .i64 (.pair (.pair .i64 (.pair .i64 (.pair (.pair .i64 (.pair .str (.sl 3 .i64))) .str))) (.pair (.sl 123 (.pair .i64 (.pair .i64 (.pair .i64 .i64)))) (.pair (.sl 87 (.pair .i64 (.pair .str (.sl 3 .i64)))) (.pair (.pair (.sl 5 .u8) .i64) (.sl 127 (.pair .i64 (.pair .i64 (.pair .i64 (.pair (.pair .str (.pair .i64 (.pair .str (.sl 3 .i64)))) (.pair (.pair .i64 (.pair .str (.sl 3 .i64))) (.pair (.pair .i64 (.pair .str (.sl 3 .i64))) (.pair .i64 (.pair .i64 (.pair .i64 (.pair .i64 .i64)))))))))))))))))),208,[(0,3),(1,3),(2,3),(3,43),(9,44),(10,45),(11,46),(13,47)],none⟩),(52,⟨(.pair .i64 .i64),16,[(0,3),(1,3)],none⟩),(56,⟨(.pair .str (.pair .i64 (.pair .str (.sl 3 .i64)))),64,[(0,9),(1,41)],none⟩),(87,⟨(.pair .i64 (.pair .str (.sl 3 .i64))),48,[(0,3),(1,9),(2,24)],none⟩),(102,⟨(.pair .i64 (.pair .str (.sl 3 .i64))),48,[(0,3),(1,9),(2,24)],none⟩),(106,⟨(.pair .i64 (.pair .i64 (.pair .i64 .i64))),32,[(0,3),(1,3),(2,3),(3,3)],none⟩),(108,⟨(.pair .i64 (.pair .i64 (.pair (.pair .str (.pair .i64 (.pair .str (.sl 3 .i64)))) (.pair (.pair .i64 (.pair .str (.sl 3 .i64))) (.pair (.pair .i64 (.pair .str (.sl 3 .i64))) (.pair .i64 (.pair .i64 (.pair .i64 (.pair .i64 .i64))))))))),216,[(0,3),(1,3),(2,38),(6,102),(9,26),(12,3),(13,106)],none⟩),(110,⟨(.pair .i64 (.pair .i64 (.pair .i64 (.pair (.pair .str (.pair .i64 (.pair .str (.sl 3 .i64)))) (.pair (.pair .i64 (.pair .str (.sl 3 .i64))) (.pair (.pair .i64 (.pair .str (.sl 3 .i64))) (.pair .i64 (.pair .i64 (.pair .i64 (.pair .i64 .i64)))))))))),224,[(0,3),(1,108)],none⟩),(123,⟨(.pair .i64 (.pair .i64 (.pair .i64 .i64))),32,[(0,3),(1,3),(2,3),(3,3)],none⟩),(125,⟨(.pair .i64 (.pair .i64 (.pair (.pair .str (.pair .i64 (.pair .str (.sl 3 .i64)))) (.pair (.pair .i64 (.pair .str (.sl 3 .i64))) (.pair (.pair .i64 (.pair .str (.sl 3 .i64))) (.pair .i64 (.pair .i64 (.pair .i64 (.pair .i64 .i64))))))))),216,[(0,3),(1,3),(2,56),(6,87),(9,41),(12,3),(13,123)],none⟩),(127,⟨(.pair .i64 (.pair .i64 (.pair .i64 (.pair (.pair .str (.pair .i64 (.pair .str (.sl 3 .i64)))) (.pair (.pair .i64 (.pair .str (.sl 3 .i64))) (.pair (.pair .i64 (.pair .str (.sl 3 .i64))) (.pair .i64 (.pair .i64 (.pair .i64 (.pair .i64 .i64)))))))))),224,[(0,3),(1,125)],none⟩),(136,⟨(.sl 140 (.pair .i64 (.sl 123 (.pair .i64 (.pair .i64 (.pair .i64 .i64)))))),24,[],none⟩),(140,⟨(.pair .i64 (.sl 123 (.pair .i64 (.pair .i64 (.pair .i64 .i64))))),32,[(0,3),(1,44)],none⟩),(178,⟨(.sl 9 .str),24,[],none⟩),(209,⟨(.sl 3 .i64),32,[],some 4⟩)]
def EQS:List Nat:=[123]
theorem tysOK:tysOk Tryz.prog TYS=true:=by kernel_rfl
theorem tilesOK:tilesOk TYS=true:=by kernel_rfl
theorem eqsOK:EQS.all (eqOk Tryz.prog TYS)=true:=by kernel_rfl
theorem mixedOK:Tryz.prog.follows .mixedOrders=true:=by kernel_rfl
theorem envOK {fns:List (Nat×PF)} {news:List (Nat×NF)} {muts:List (Nat×MF)} {frz:Bool} {conds joins:List (Nat×PF)} (h:AllS Tryz.prog GLB fns) (h2:AllN Tryz.prog GLB news) (h3:AllM Tryz.prog GLB muts) (h4:AllC Tryz.prog GLB conds) (h5:AllJ Tryz.prog GLB joins):EnvOk Tryz.prog GLB ⟨TYS,fns,EQS,news,muts,frz,conds,joins⟩:=envOk_of mixedOK tysOK eqsOK h h2 h3 h4 h5
def fe (fns:List (Nat×PF)) (ls:List (Nat×List Ev.Item)):FEnv:=⟨⟨TYS,fns,EQS,[],[],false,[],[]⟩,ls⟩
theorem ek {fns:List (Nat×PF)} (h:AllS Tryz.prog GLB fns):EnvOk Tryz.prog GLB ⟨TYS,fns,EQS,[],[],false,[],[]⟩:=envOK h trivial trivial trivial trivial
abbrev R (t:Ty):PK×Ty:=(.rd,t)
abbrev Sd (f:Nat) (pf:PF):Prop:=Sound Tryz.prog GLB f pf
theorem sf {F:FEnv} {f:FuncId} {fn:Func} {pf:PF} (hE:EnvOk Tryz.prog GLB F.E) (hf:Tryz.prog.funcs[f]?=some fn) (he : ∀ a,evFun F fn pf.params pf.rets pf.rk a=pf.fn a) (hn:(fn.name == "runtime.NumGoroutine")=false:=by kernel_rfl):Sd f pf:=sound_fun hE hf hn fun a o h=>(he a).trans h
def F66:=fe [] []
def pf66:PF:=⟨[R (.sl 3 .i64),R .i64],[.i64],.uniq,laws_szIntS⟩
theorem s66:Sd 66 pf66:=sf (F:=F66) (ek trivial) Tryz.func66 fun a=>by kernel_rfl
def F21:=fe [(66,pf66)] []
def pf21:PF:=⟨[R q3,R .i64],[.i64],.uniq,laws_szQc⟩
theorem s21:Sd 21 pf21:=sf (F:=F21) (ek ⟨s66,trivial⟩) Tryz.func21 fun a=>by kernel_rfl
def F16:=fe [(21,pf21)] []
def pf16:PF:=⟨[R q5,R .i64],[.i64],.uniq,laws_szSafe⟩
theorem s16:Sd 16 pf16:=sf (F:=F16) (ek ⟨s21,trivial⟩) Tryz.func16 fun a=>by kernel_rfl
def F17:=fe [] []
def pf17:PF:=⟨[R (.sl 106 q4),R .i64],[.i64],.uniq,laws_szTxS⟩
theorem s17:Sd 17 pf17:=sf (F:=F17) (ek trivial) Tryz.func17 fun a=>by kernel_rfl
def F63:=fe [(66,pf66)] []
def pf63:PF:=⟨[R q3,R .i64],[.i64],.uniq,laws_szPart⟩
theorem s63:Sd 63 pf63:=sf (F:=F63) (ek ⟨s66,trivial⟩) Tryz.func63 fun a=>by kernel_rfl
def F18:=fe [(63,pf63)] [(5,[.slot 1 .i64 (.imm false),.slot 5 .i64 (.imm false)])]
def pf18:PF:=⟨[R (.sl 102 q3),R .i64],[.i64],.uniq,laws_szPartS⟩
theorem s18:Sd 18 pf18:=sf (F:=F18) (ek ⟨s63,trivial⟩) Tryz.func18 fun a=>by kernel_rfl
def F64:=fe [] []
def pf64:PF:=⟨[R (.sl 5 .u8),R .i64],[.i64],.uniq,laws_szByteS⟩
theorem s64:Sd 64 pf64:=sf (F:=F64) (ek trivial) Tryz.func64 fun a=>by kernel_rfl
def F19:=fe [(64,pf64)] []
def pf19:PF:=⟨[R q6,R .i64],[.i64],.uniq,laws_szDisk⟩
theorem s19:Sd 19 pf19:=sf (F:=F19) (ek ⟨s64,trivial⟩) Tryz.func19 fun a=>by kernel_rfl
def F5:=fe [(21,pf21)] []
def pf5:PF:=⟨[R (.pair .str q3),R .i64],[.i64],.uniq,laws_szBlock⟩
theorem s5:Sd 5 pf5:=sf (F:=F5) (ek ⟨s21,trivial⟩) Tryz.func5 fun a=>by kernel_rfl
def F143:=fe [(5,pf5),(63,pf63),(21,pf21)] []
def pf143:PF:=⟨[R q1,R .i64],[.i64],.uniq,laws_szMsg⟩
theorem s143:Sd 143 pf143:=sf (F:=F143) (ek ⟨s5,s63,s21,trivial⟩) Tryz.func143 fun a=>by kernel_rfl
def F65:=fe [(143,pf143)] []
def pf65:PF:=⟨[R (.pair .i64 q1),R .i64],[.i64],.uniq,laws_szPost⟩
theorem s65:Sd 65 pf65:=sf (F:=F65) (ek ⟨s143,trivial⟩) Tryz.func65 fun a=>by kernel_rfl
def F20:=fe [(65,pf65)] [(5,[.slot 1 .i64 (.imm false),.slot 5 .i64 (.imm false)])]
def pf20:PF:=⟨[R (.sl 110 (.pair .i64 q1)),R .i64],[.i64],.uniq,laws_szPostS⟩
theorem s20:Sd 20 pf20:=sf (F:=F20) (ek ⟨s65,trivial⟩) Tryz.func20 fun a=>by kernel_rfl
def F4:=fe [(16,pf16),(17,pf17),(18,pf18),(19,pf19),(20,pf20)] []
def pf4:PF:=⟨[R q8,R .i64],[.i64],.uniq,laws_szRep⟩
theorem s4:Sd 4 pf4:=sf (F:=F4) (ek ⟨s16,s17,s18,s19,s20,trivial⟩) Tryz.func4 fun a=>by kernel_rfl
def F7:=fe [] []
def pf7:PF:=⟨[R (.pair .i64 .i64)],[(.pair .i64 .i64)],.uniq,laws_toConf⟩
theorem s7:Sd 7 pf7:=sf (F:=F7) (ek trivial) Tryz.func7 fun a=>by kernel_rfl
def F95:=fe [] [(3,[.slot 4 .i64 (.imm false),.row 1 3 .i64 (.own true)])]
def pf95:PF:=⟨[R (.sl 3 .i64)],[(.sl 3 .i64)],.uniq,laws_toIntS⟩
theorem s95:Sd 95 pf95:=sf (F:=F95) (ek trivial) Tryz.func95 fun a=>by kernel_rfl
def F36:=fe [(95,pf95)] []
def pf36:PF:=⟨[R q3],[q3],.uniq,laws_toQc⟩
theorem s36:Sd 36 pf36:=sf (F:=F36) (ek ⟨s95,trivial⟩) Tryz.func36 fun a=>by kernel_rfl
def F31:=fe [(36,pf36)] []
def pf31:PF:=⟨[R q5],[q5],.uniq,laws_toSafe⟩
theorem s31:Sd 31 pf31:=sf (F:=F31) (ek ⟨s36,trivial⟩) Tryz.func31 fun a=>by kernel_rfl
def F91:=fe [] []
def pf91:PF:=⟨[R q4],[q4],.uniq,laws_toTx⟩
theorem s91:Sd 91 pf91:=sf (F:=F91) (ek trivial) Tryz.func91 fun a=>by kernel_rfl
def F32:=fe [(91,pf91)] [(3,[.slot 4 .i64 (.imm false),.row 1 123 q4 (.own true)])]
def pf32:PF:=⟨[R (.sl 106 q4)],[(.sl 123 q4)],.uniq,laws_toTxS⟩
theorem s32:Sd 32 pf32:=sf (F:=F32) (ek ⟨s91,trivial⟩) Tryz.func32 fun a=>by kernel_rfl
def F92:=fe [(95,pf95)] []
def pf92:PF:=⟨[R q3],[q3],.uniq,laws_toPart⟩
theorem s92:Sd 92 pf92:=sf (F:=F92) (ek ⟨s95,trivial⟩) Tryz.func92 fun a=>by kernel_rfl
def F33:=fe [(92,pf92)] [(3,[.slot 4 .i64 (.imm false),.row 1 87 q3 (.own true)])]
def pf33:PF:=⟨[R (.sl 102 q3)],[(.sl 87 q3)],.uniq,laws_toPartS⟩
theorem s33:Sd 33 pf33:=sf (F:=F33) (ek ⟨s92,trivial⟩) Tryz.func33 fun a=>by kernel_rfl
def F93:=fe [] [(3,[.slot 4 .i64 (.imm false),.row 1 5 .u8 (.own true)])]
def pf93:PF:=⟨[R (.sl 5 .u8)],[(.sl 5 .u8)],.uniq,laws_toByteS⟩
theorem s93:Sd 93 pf93:=sf (F:=F93) (ek trivial) Tryz.func93 fun a=>by kernel_rfl
def F34:=fe [(93,pf93)] []
def pf34:PF:=⟨[R q6],[q6],.uniq,laws_toDisk⟩
theorem s34:Sd 34 pf34:=sf (F:=F34) (ek ⟨s93,trivial⟩) Tryz.func34 fun a=>by kernel_rfl
def F9:=fe [(36,pf36)] []
def pf9:PF:=⟨[R (.pair .str q3)],[(.pair .str q3)],.uniq,laws_toBlock⟩
theorem s9:Sd 9 pf9:=sf (F:=F9) (ek ⟨s36,trivial⟩) Tryz.func9 fun a=>by kernel_rfl
def F169:=fe [(9,pf9),(92,pf92),(36,pf36),(91,pf91)] []
def pf169:PF:=⟨[R q1],[q1],.uniq,laws_toMsg⟩
theorem s169:Sd 169 pf169:=sf (F:=F169) (ek ⟨s9,s92,s36,s91,trivial⟩) Tryz.func169 fun a=>by kernel_rfl
def F94:=fe [(169,pf169)] []
def pf94:PF:=⟨[R (.pair .i64 q1)],[(.pair .i64 q1)],.uniq,laws_toPost⟩
theorem s94:Sd 94 pf94:=sf (F:=F94) (ek ⟨s169,trivial⟩) Tryz.func94 fun a=>by kernel_rfl
def F35:=fe [(94,pf94)] [(3,[.slot 4 .i64 (.imm false),.row 1 127 (.pair .i64 q1) (.own true)])]
def pf35:PF:=⟨[R (.sl 110 (.pair .i64 q1))],[q7],.uniq,laws_toPostS⟩
theorem s35:Sd 35 pf35:=sf (F:=F35) (ek ⟨s94,trivial⟩) Tryz.func35 fun a=>by kernel_rfl
def F8:=fe [(31,pf31),(32,pf32),(33,pf33),(34,pf34),(35,pf35)] []
def pf8:PF:=⟨[R q8],[q2],.uniq,laws_toRep⟩
theorem s8:Sd 8 pf8:=sf (F:=F8) (ek ⟨s31,s32,s33,s34,s35,trivial⟩) Tryz.func8 fun a=>by kernel_rfl
def F144:=fe [] []
def pf144:PF:=⟨[R q3],[q3],.uniq,spec_l7Copy⟩
theorem s144:Sd 144 pf144:=sf (F:=F144) (ek trivial) Tryz.func144 fun a=>by kernel_rfl
def F67:=fe [(144,pf144)] []
def pf67:PF:=⟨[R q5],[q5],.uniq,spec_l11Copy⟩
theorem s67:Sd 67 pf67:=sf (F:=F67) (ek ⟨s144,trivial⟩) Tryz.func67 fun a=>by kernel_rfl
def F145:=fe [] []
def pf145:PF:=⟨[R q3],[q3],.uniq,spec_l10Copy⟩
theorem s145:Sd 145 pf145:=sf (F:=F145) (ek trivial) Tryz.func145 fun a=>by kernel_rfl
def F68:=fe [(145,pf145)] [(3,[.slot 3 (.sl 87 q3) (.own true),.slot 4 .i64 (.imm false)])]
def pf68:PF:=⟨[R (.sl 87 q3)],[(.sl 87 q3)],.uniq,spec_l10Table⟩
theorem s68:Sd 68 pf68:=sf (F:=F68) (ek ⟨s145,trivial⟩) Tryz.func68 fun a=>by kernel_rfl
def F69:=fe [] []
def pf69:PF:=⟨[R q6],[q6],.uniq,spec_l13Copy⟩
theorem s69:Sd 69 pf69:=sf (F:=F69) (ek trivial) Tryz.func69 fun a=>by kernel_rfl
def F199:=fe [(144,pf144)] []
def pf199:PF:=⟨[R (.pair .str q3)],[(.pair .str q3)],.uniq,spec_l8Copy⟩
theorem s199:Sd 199 pf199:=sf (F:=F199) (ek ⟨s144,trivial⟩) Tryz.func199 fun a=>by kernel_rfl
def F146:=fe [(199,pf199),(145,pf145),(144,pf144)] []
def pf146:PF:=⟨[R q1],[q1],.uniq,spec_l14Copy⟩
theorem s146:Sd 146 pf146:=sf (F:=F146) (ek ⟨s199,s145,s144,trivial⟩) Tryz.func146 fun a=>by kernel_rfl
def F70:=fe [(146,pf146)] [(3,[.slot 3 q7 (.own true),.slot 4 .i64 (.imm false)])]
def pf70:PF:=⟨[R q7],[q7],.uniq,spec_l15Posts⟩
theorem s70:Sd 70 pf70:=sf (F:=F70) (ek ⟨s146,trivial⟩) Tryz.func70 fun a=>by kernel_rfl
def F22:=fe [(67,pf67),(68,pf68),(69,pf69),(70,pf70)] []
def pf22:PF:=⟨[R q2],[q2],.uniq,spec_l15Copy⟩
theorem s22:Sd 22 pf22:=sf (F:=F22) (ek ⟨s67,s68,s69,s70,trivial⟩) Tryz.func22 fun a=>by kernel_rfl
def F72:=fe [] []
def pf72:PF:=⟨[R .i64,R .i64,R .i64],[.bool],.uniq,spec_l1In⟩
theorem s72:Sd 72 pf72:=sf (F:=F72) (ek trivial) Tryz.func72 fun a=>by kernel_rfl
def F71:=fe [(72,pf72)] []
def pf71:PF:=⟨[R (.pair .i64 .i64)],[.bool],.uniq,spec_ConfOk⟩
theorem s71:Sd 71 pf71:=sf (F:=F71) (ek ⟨s72,trivial⟩) Tryz.func71 fun a=>by kernel_rfl
def F154:=fe [] [(4,[.slot 5 (.sl 9 .str) (.own true),.slot 6 .i64 (.imm false),.slot 7 .i64 (.imm false)])]
def pf154:PF:=⟨[R .str,R .u8],[(.sl 9 .str)],.uniq,spec_Split⟩
theorem s154:Sd 154 pf154:=sf (F:=F154) (ek trivial) Tryz.func154 fun a=>by kernel_rfl
def F155:=fe [] [(2,[.slot 7 .i64 (.imm false)])]
def pf155:PF:=⟨[R .str,R .u8],[.str,.str,.bool],.uniq,spec_l2Cut⟩
theorem s155:Sd 155 pf155:=sf (F:=F155) (ek trivial) Tryz.func155 fun a=>by kernel_rfl
def F201:=fe [] [(5,[.slot 0 .i64 (.imm false),.slot 4 .str (.imm false)])]
def pf201:PF:=⟨[R .i64],[.str],.uniq,spec_Digits⟩
theorem s201:Sd 201 pf201:=sf (F:=F201) (ek trivial) Tryz.func201 fun a=>by kernel_rfl
def F156:=fe [(201,pf201)] [(5,[.slot 4 .i64 (.imm false),.slot 5 .i64 (.imm false)])]
def pf156:PF:=⟨[R .str],[.i64,.bool],.uniq,spec_Number⟩
theorem s156:Sd 156 pf156:=sf (F:=F156) (ek ⟨s201,trivial⟩) Tryz.func156 fun a=>by kernel_rfl
def F147:=fe [(72,pf72)] []
def pf147:PF:=⟨[R q4],[.bool],.uniq,spec_TxOk⟩
theorem s147:Sd 147 pf147:=sf (F:=F147) (ek ⟨s72,trivial⟩) Tryz.func147 fun a=>by kernel_rfl
def F234:=fe [(147,pf147),(201,pf201)] []
def pf234:PF:=⟨[R q4],[.str],.uniq,spec_TxText⟩
theorem s234:Sd 234 pf234:=sf (F:=F234) (ek ⟨s147,s201,trivial⟩) Tryz.func234 fun a=>by kernel_rfl
def F202:=fe [(155,pf155),(156,pf156),(234,pf234)] []
def pf202:PF:=⟨[R .str],[q4,.bool],.uniq,spec_TxOf⟩
theorem s202:Sd 202 pf202:=sf (F:=F202) (ek ⟨s155,s156,s234,trivial⟩) Tryz.func202 fun a=>by kernel_rfl
def F157:=fe [(154,pf154),(202,pf202)] [(6,[.slot 4 (.sl 123 q4) (.own true),.slot 6 .i64 (.imm false)])]
def pf157:PF:=⟨[R .str],[(.sl 123 q4),.bool],.uniq,spec_TxsOf⟩
theorem s157:Sd 157 pf157:=sf (F:=F157) (ek ⟨s154,s202,trivial⟩) Tryz.func157 fun a=>by kernel_rfl
def F85:=fe [(154,pf154),(155,pf155),(156,pf156),(157,pf157)] [(10,[.slot 5 q9 (.own true),.slot 7 .i64 (.imm false),.slot 8 .i64 (.imm false)])]
def pf85:PF:=⟨[R .str],[q9,.bool],.uniq,spec_Steps⟩
theorem s85:Sd 85 pf85:=sf (F:=F85) (ek ⟨s154,s155,s156,s157,trivial⟩) Tryz.func85 fun a=>by kernel_rfl
def F79:=fe [(85,pf85)] []
def pf79:PF:=⟨[R .str],[.bool],.uniq,spec_NameOk⟩
theorem s79:Sd 79 pf79:=sf (F:=F79) (ek ⟨s85,trivial⟩) Tryz.func79 fun a=>by kernel_rfl
def F26:=fe [(85,pf85)] []
def pf26:PF:=⟨[R .str],[.i64],.uniq,spec_ViewOf⟩
theorem s26:Sd 26 pf26:=sf (F:=F26) (ek ⟨s85,trivial⟩) Tryz.func26 fun a=>by kernel_rfl
def F152:=fe [] [(2,[.slot 5 .i64 (.imm false)])]
def pf152:PF:=⟨[R .i64,R (.sl 3 .i64)],[.bool],.uniq,spec_SetOk⟩
theorem s152:Sd 152 pf152:=sf (F:=F152) (ek trivial) Tryz.func152 fun a=>by kernel_rfl
def F153:=fe [(71,pf71)] []
def pf153:PF:=⟨[R (.pair .i64 .i64)],[.i64],.uniq,spec_Quorum⟩
theorem s153:Sd 153 pf153:=sf (F:=F153) (ek ⟨s71,trivial⟩) Tryz.func153 fun a=>by kernel_rfl
def F78:=fe [(71,pf71),(79,pf79),(26,pf26),(152,pf152),(153,pf153)] []
def pf78:PF:=⟨[R (.pair .i64 .i64),R q3],[.bool],.uniq,spec_QcOk⟩
theorem s78:Sd 78 pf78:=sf (F:=F78) (ek ⟨s71,s79,s26,s152,s153,trivial⟩) Tryz.func78 fun a=>by kernel_rfl
def F73:=fe [(72,pf72),(78,pf78),(79,pf79)] []
def pf73:PF:=⟨[R (.pair .i64 .i64),R q5],[.bool],.uniq,spec_SafeOk⟩
theorem s73:Sd 73 pf73:=sf (F:=F73) (ek ⟨s72,s78,s79,trivial⟩) Tryz.func73 fun a=>by kernel_rfl
def F148:=fe [] []
def pf148:PF:=⟨[R q4,R q4],[.bool],.uniq,spec_l4Before⟩
theorem s148:Sd 148 pf148:=sf (F:=F148) (ek trivial) Tryz.func148 fun a=>by kernel_rfl
def F74:=fe [(147,pf147),(148,pf148)] [(2,[.slot 3 .i64 (.imm false)])]
def pf74:PF:=⟨[R (.sl 123 q4)],[.bool],.uniq,spec_PoolOk⟩
theorem s74:Sd 74 pf74:=sf (F:=F74) (ek ⟨s147,s148,trivial⟩) Tryz.func74 fun a=>by kernel_rfl
def F149:=fe [(71,pf71),(72,pf72),(152,pf152),(79,pf79),(26,pf26)] []
def pf149:PF:=⟨[R (.pair .i64 .i64),R q3],[.bool],.uniq,spec_PartOk⟩
theorem s149:Sd 149 pf149:=sf (F:=F149) (ek ⟨s71,s72,s152,s79,s26,trivial⟩) Tryz.func149 fun a=>by kernel_rfl
def F150:=fe [] []
def pf150:PF:=⟨[R q3,R q3],[.bool],.uniq,spec_l10Before⟩
theorem s150:Sd 150 pf150:=sf (F:=F150) (ek trivial) Tryz.func150 fun a=>by kernel_rfl
def F75:=fe [(149,pf149),(150,pf150)] [(2,[.slot 5 .i64 (.imm false)])]
def pf75:PF:=⟨[R (.pair .i64 .i64),R (.sl 87 q3)],[.bool],.uniq,spec_TableOk⟩
theorem s75:Sd 75 pf75:=sf (F:=F75) (ek ⟨s149,s150,trivial⟩) Tryz.func75 fun a=>by kernel_rfl
def F76:=fe [(72,pf72)] []
def pf76:PF:=⟨[R q6],[.bool],.uniq,spec_DiskOk⟩
theorem s76:Sd 76 pf76:=sf (F:=F76) (ek ⟨s72,trivial⟩) Tryz.func76 fun a=>by kernel_rfl
def F203:=fe [] [(2,[.slot 5 .i64 (.imm false)])]
def pf203:PF:=⟨[R (.sl 3 .i64),R (.sl 3 .i64)],[.bool],.uniq,spec_l7Ints⟩
theorem s203:Sd 203 pf203:=sf (F:=F203) (ek trivial) Tryz.func203 fun a=>by kernel_rfl
def F158:=fe [(203,pf203)] []
def pf158:PF:=⟨[R q3,R q3],[.bool],.uniq,spec_QcSame⟩
theorem s158:Sd 158 pf158:=sf (F:=F158) (ek ⟨s203,trivial⟩) Tryz.func158 fun a=>by kernel_rfl
def F232:=fe [(158,pf158)] []
def pf232:PF:=⟨[R (.pair .str q3),R (.pair .str q3)],[.bool],.uniq,spec_BlockSame⟩
theorem s232:Sd 232 pf232:=sf (F:=F232) (ek ⟨s158,trivial⟩) Tryz.func232 fun a=>by kernel_rfl
def F233:=fe [(203,pf203)] []
def pf233:PF:=⟨[R q3,R q3],[.bool],.uniq,spec_l14Part⟩
theorem s233:Sd 233 pf233:=sf (F:=F233) (ek ⟨s203,trivial⟩) Tryz.func233 fun a=>by kernel_rfl
def F200:=fe [(232,pf232),(233,pf233),(158,pf158)] []
def pf200:PF:=⟨[R q1,R q1],[.bool],.uniq,spec_MsgSame⟩
theorem s200:Sd 200 pf200:=sf (F:=F200) (ek ⟨s232,s233,s158,trivial⟩) Tryz.func200 fun a=>by kernel_rfl
def F151:=fe [(200,pf200)] []
def pf151:PF:=⟨[R q1],[.bool],.uniq,spec_l14Zero⟩
theorem s151:Sd 151 pf151:=sf (F:=F151) (ek ⟨s200,trivial⟩) Tryz.func151 fun a=>by kernel_rfl
def F82:=fe [] []
def pf82:PF:=⟨[R .i64,R .i64],[.i64],.uniq,spec_l1Max⟩
theorem s82:Sd 82 pf82:=sf (F:=F82) (ek trivial) Tryz.func82 fun a=>by kernel_rfl
def F80:=fe [(79,pf79),(82,pf82)] [(4,[.slot 3 .i64 (.imm false)])]
def pf80:PF:=⟨[R .str],[.str],.uniq,spec_UpOf⟩
theorem s80:Sd 80 pf80:=sf (F:=F80) (ek ⟨s79,s82,trivial⟩) Tryz.func80 fun a=>by kernel_rfl
def F24:=fe [(78,pf78),(79,pf79),(80,pf80)] []
def pf24:PF:=⟨[R (.pair .i64 .i64),R (.pair .str q3)],[.bool],.uniq,spec_BlockOk⟩
theorem s24:Sd 24 pf24:=sf (F:=F24) (ek ⟨s78,s79,s80,trivial⟩) Tryz.func24 fun a=>by kernel_rfl
def F77:=fe [(71,pf71),(151,pf151),(24,pf24),(149,pf149),(72,pf72),(78,pf78),(147,pf147)] []
def pf77:PF:=⟨[R (.pair .i64 .i64),R q1],[.bool],.uniq,spec_MsgOk⟩
theorem s77:Sd 77 pf77:=sf (F:=F77) (ek ⟨s71,s151,s24,s149,s72,s78,s147,trivial⟩) Tryz.func77 fun a=>by kernel_rfl
def F23:=fe [(71,pf71),(72,pf72),(73,pf73),(74,pf74),(75,pf75),(76,pf76),(77,pf77)] [(4,[.slot 5 .i64 (.imm false)])]
def pf23:PF:=⟨[R (.pair .i64 .i64),R q2],[.bool],.uniq,spec_RepOk⟩
theorem s23:Sd 23 pf23:=sf (F:=F23) (ek ⟨s71,s72,s73,s74,s75,s76,s77,trivial⟩) Tryz.func23 fun a=>by kernel_rfl
def F81:=fe [(144,pf144)] []
def pf81:PF:=⟨[R q3,R q3],[q3],.uniq,spec_QcLater⟩
theorem s81:Sd 81 pf81:=sf (F:=F81) (ek ⟨s144,trivial⟩) Tryz.func81 fun a=>by kernel_rfl
def F83:=fe [(85,pf85),(80,pf80)] []
def pf83:PF:=⟨[R .str],[.str,.bool],.uniq,spec_Settles⟩
theorem s83:Sd 83 pf83:=sf (F:=F83) (ek ⟨s85,s80,trivial⟩) Tryz.func83 fun a=>by kernel_rfl
def F84:=fe [(79,pf79)] []
def pf84:PF:=⟨[R .str,R .str],[.bool],.uniq,spec_Extends⟩
theorem s84:Sd 84 pf84:=sf (F:=F84) (ek ⟨s79,trivial⟩) Tryz.func84 fun a=>by kernel_rfl
def F25:=fe [(67,pf67),(73,pf73),(78,pf78),(81,pf81),(80,pf80),(26,pf26),(82,pf82),(83,pf83),(84,pf84)] []
def pf25:PF:=⟨[R (.pair .i64 .i64),R q5,R q3],[q5],.uniq,spec_See⟩
theorem s25:Sd 25 pf25:=sf (F:=F25) (ek ⟨s67,s73,s78,s81,s80,s26,s82,s83,s84,trivial⟩) Tryz.func25 fun a=>by kernel_rfl
def F27:=fe [(73,pf73),(24,pf24),(26,pf26)] []
def pf27:PF:=⟨[R (.pair .i64 .i64),R q5,R (.pair .str q3)],[.bool],.uniq,spec_MayVote⟩
theorem s27:Sd 27 pf27:=sf (F:=F27) (ek ⟨s73,s24,s26,trivial⟩) Tryz.func27 fun a=>by kernel_rfl
def F28:=fe [(67,pf67),(27,pf27),(26,pf26)] []
def pf28:PF:=⟨[R (.pair .i64 .i64),R q5,R (.pair .str q3)],[q5,.bool],.uniq,spec_Vote⟩
theorem s28:Sd 28 pf28:=sf (F:=F28) (ek ⟨s67,s27,s26,trivial⟩) Tryz.func28 fun a=>by kernel_rfl
def F86:=fe [(158,pf158)] []
def pf86:PF:=⟨[R q5,R q5],[.bool],.uniq,spec_SafeSame⟩
theorem s86:Sd 86 pf86:=sf (F:=F86) (ek ⟨s158,trivial⟩) Tryz.func86 fun a=>by kernel_rfl
def F160:=fe [(72,pf72)] [(4,[.slot 0 .i64 (.imm false),.slot 3 (.sl 5 .u8) (.own true)])]
def pf160:PF:=⟨[R .i64],[(.sl 5 .u8)],.uniq,spec_PutNum⟩
theorem s160:Sd 160 pf160:=sf (F:=F160) (ek ⟨s72,trivial⟩) Tryz.func160 fun a=>by kernel_rfl
def F205:=fe [(160,pf160)] []
def pf205:PF:=⟨[R .str],[(.sl 5 .u8)],.uniq,spec_PutText⟩
theorem s205:Sd 205 pf205:=sf (F:=F205) (ek ⟨s160,trivial⟩) Tryz.func205 fun a=>by kernel_rfl
def F204:=fe [(78,pf78),(160,pf160),(205,pf205)] [(6,[.slot 5 (.sl 5 .u8) (.own true),.slot 6 .i64 (.imm false)])]
def pf204:PF:=⟨[R (.pair .i64 .i64),R q3],[(.sl 5 .u8)],.uniq,spec_QcBytes⟩
theorem s204:Sd 204 pf204:=sf (F:=F204) (ek ⟨s78,s160,s205,trivial⟩) Tryz.func204 fun a=>by kernel_rfl
def F159:=fe [(73,pf73),(160,pf160),(204,pf204),(205,pf205)] []
def pf159:PF:=⟨[R (.pair .i64 .i64),R q5],[(.sl 5 .u8)],.uniq,spec_SafeBytes⟩
theorem s159:Sd 159 pf159:=sf (F:=F159) (ek ⟨s73,s160,s204,s205,trivial⟩) Tryz.func159 fun a=>by kernel_rfl
def F88:=fe [(159,pf159),(160,pf160)] []
def pf88:PF:=⟨[R (.pair .i64 .i64),R q5],[(.sl 5 .u8)],.uniq,spec_NoteBytes⟩
theorem s88:Sd 88 pf88:=sf (F:=F88) (ek ⟨s159,s160,trivial⟩) Tryz.func88 fun a=>by kernel_rfl
def F87:=fe [(69,pf69),(76,pf76)] []
def pf87:PF:=⟨[R q6,R (.sl 5 .u8)],[q6,.bool],.uniq,spec_Append⟩
theorem s87:Sd 87 pf87:=sf (F:=F87) (ek ⟨s69,s76,trivial⟩) Tryz.func87 fun a=>by kernel_rfl
def F29:=fe [(86,pf86),(88,pf88),(87,pf87),(73,pf73),(67,pf67)] []
def pf29:PF:=⟨[R (.pair .i64 .i64),(.own,q2),R q5],[q2,.bool],.own,spec_l15Write⟩
theorem e29 (a:argT pf29.params):evFunC F29 Tryz.f29 pf29.params pf29.rets pf29.rk a=pf29.fn a:=by kernel_rfl
theorem s29:SoundC Tryz.prog GLB 29 pf29:=sound_funC (F:=F29) (ek ⟨s86,s88,s87,s73,s67,trivial⟩) Tryz.func29 (by kernel_rfl) (by rfl) (fun a o h=>(e29 a).trans h)
def F209:=fe [] [(2,[.slot 5 .i64 (.imm false)])]
def pf209:PF:=⟨[R (.sl 3 .i64),R .i64],[.bool],.uniq,spec_SetHas⟩
theorem s209:Sd 209 pf209:=sf (F:=F209) (ek trivial) Tryz.func209 fun a=>by kernel_rfl
def F235:=fe [(209,pf209)] [(4,[.slot 5 .i64 (.imm false)])]
def pf235:PF:=⟨[R (.sl 3 .i64),R .i64],[(.sl 3 .i64)],.uniq,spec_SetAdd⟩
theorem s235:Sd 235 pf235:=sf (F:=F235) (ek ⟨s209,trivial⟩) Tryz.func235 fun a=>by kernel_rfl
def F206:=fe [(235,pf235)] [(3,[.slot 5 (.sl 3 .i64) (.own true),.slot 6 .i64 (.imm false)]),(7,[.slot 5 (.sl 3 .i64) (.own true),.slot 7 .i64 (.imm false)])]
def pf206:PF:=⟨[R (.sl 3 .i64),R (.sl 3 .i64)],[(.sl 3 .i64)],.uniq,spec_SetJoin⟩
theorem s206:Sd 206 pf206:=sf (F:=F206) (ek ⟨s235,trivial⟩) Tryz.func206 fun a=>by kernel_rfl
def F161:=fe [(206,pf206)] []
def pf161:PF:=⟨[R q3,R q3],[q3,.bool],.uniq,spec_PartJoin⟩
theorem s161:Sd 161 pf161:=sf (F:=F161) (ek ⟨s206,trivial⟩) Tryz.func161 fun a=>by kernel_rfl
def F89:=fe [(145,pf145),(150,pf150),(161,pf161),(75,pf75),(149,pf149),(68,pf68)] [(4,[.slot 8 (.sl 87 q3) (.own true),.slot 9 .bool (.imm false),.slot 10 .i64 (.imm false)])]
def pf89:PF:=⟨[R (.pair .i64 .i64),R (.sl 87 q3),R q3],[(.sl 87 q3),.bool],.uniq,spec_TableAdd⟩
theorem s89:Sd 89 pf89:=sf (F:=F89) (ek ⟨s145,s150,s161,s75,s149,s68,trivial⟩) Tryz.func89 fun a=>by kernel_rfl
def F162:=fe [(145,pf145)] [(2,[.slot 7 .i64 (.imm false),.box 1 q3 (.own true)])]
def pf162:PF:=⟨[R (.sl 87 q3),R .i64,R .str],[q3],.uniq,spec_TableGet⟩
theorem s162:Sd 162 pf162:=sf (F:=F162) (ek ⟨s145,trivial⟩) Tryz.func162 fun a=>by kernel_rfl
def F163:=fe [(71,pf71)] []
def pf163:PF:=⟨[R (.pair .i64 .i64),R .i64],[.i64],.uniq,spec_Root⟩
theorem s163:Sd 163 pf163:=sf (F:=F163) (ek ⟨s71,trivial⟩) Tryz.func163 fun a=>by kernel_rfl
def F207:=fe [(78,pf78)] []
def pf207:PF:=⟨[R (.pair .i64 .i64),R q3],[q3,.bool],.uniq,spec_PartQc⟩
theorem s207:Sd 207 pf207:=sf (F:=F207) (ek ⟨s78,trivial⟩) Tryz.func207 fun a=>by kernel_rfl
def F167:=fe [(77,pf77),(72,pf72),(146,pf146)] []
def pf167:PF:=⟨[R (.pair .i64 .i64),(.own,q2),R .i64,R q1],[q2,.bool],.own,spec_l16Tell⟩
theorem s167:Sd 167 pf167:=sf (F:=F167) (ek ⟨s77,s72,s146,trivial⟩) Tryz.func167 fun a=>by kernel_rfl
def F164:FEnv:=⟨⟨TYS,[(207,pf207),(25,pf25),(82,pf82),(163,pf163),(167,pf167)],EQS,[],[],false,[(29,pf29)],[]⟩,[]⟩
def pf164:PF:=⟨[R (.pair .i64 .i64),(.own,q2),R q3],[q2,.bool],.own,spec_l16Top⟩
theorem s164:Sd 164 pf164:=sf (F:=F164) (envOK ⟨s207,s25,s82,s163,s167,trivial⟩ trivial trivial s29 trivial) Tryz.func164 fun a=>by kernel_rfl
def F208:=fe [(71,pf71),(72,pf72)] []
def pf208:PF:=⟨[R (.pair .i64 .i64),R .i64,R .i64],[.i64],.uniq,spec_Seat⟩
theorem s208:Sd 208 pf208:=sf (F:=F208) (ek ⟨s71,s72,trivial⟩) Tryz.func208 fun a=>by kernel_rfl
def F212:=fe [(71,pf71),(72,pf72)] []
def pf212:PF:=⟨[R (.pair .i64 .i64),R .i64,R .i64],[.i64],.uniq,spec_Sits⟩
theorem s212:Sd 212 pf212:=sf (F:=F212) (ek ⟨s71,s72,trivial⟩) Tryz.func212 fun a=>by kernel_rfl
def F168:=fe [(208,pf208),(212,pf212)] []
def pf168:PF:=⟨[R (.pair .i64 .i64),R .i64,R .i64],[.i64],.uniq,spec_Up⟩
theorem s168:Sd 168 pf168:=sf (F:=F168) (ek ⟨s208,s212,trivial⟩) Tryz.func168 fun a=>by kernel_rfl
def F210:=fe [(208,pf208),(168,pf168)] [(2,[.slot 2 .i64 (.imm false),.slot 7 (.sl 3 .i64) (.own true)])]
def pf210:PF:=⟨[R (.pair .i64 .i64),R .i64,R .i64],[(.sl 3 .i64)],.uniq,spec_Way⟩
theorem s210:Sd 210 pf210:=sf (F:=F210) (ek ⟨s208,s168,trivial⟩) Tryz.func210 fun a=>by kernel_rfl
def F165:=fe [(71,pf71),(208,pf208),(210,pf210),(209,pf209)] [(5,[.slot 7 (.sl 3 .i64) (.own true),.slot 8 .i64 (.imm false)])]
def pf165:PF:=⟨[R (.pair .i64 .i64),R .i64,R .i64],[(.sl 3 .i64)],.uniq,spec_Under⟩
theorem s165:Sd 165 pf165:=sf (F:=F165) (ek ⟨s71,s208,s210,s209,trivial⟩) Tryz.func165 fun a=>by kernel_rfl
def F211:=fe [] []
def pf211:PF:=⟨[R .bool],[.i64],.uniq,spec_l1Bit⟩
theorem s211:Sd 211 pf211:=sf (F:=F211) (ek trivial) Tryz.func211 fun a=>by kernel_rfl
def F166:=fe [(209,pf209),(211,pf211)] [(3,[.slot 5 .i64 (.imm false),.slot 6 .i64 (.imm false)])]
def pf166:PF:=⟨[R (.sl 3 .i64),R (.sl 3 .i64)],[.i64],.uniq,spec_Common⟩
theorem s166:Sd 166 pf166:=sf (F:=F166) (ek ⟨s209,s211,trivial⟩) Tryz.func166 fun a=>by kernel_rfl
def F90:=fe [(162,pf162),(163,pf163),(164,pf164),(165,pf165),(166,pf166),(168,pf168),(167,pf167)] []
def pf90:PF:=⟨[R (.pair .i64 .i64),(.own,q2),R .i64,R .str,R .bool],[q2,.bool],.own,spec_l16Climb⟩
theorem s90:Sd 90 pf90:=sf (F:=F90) (ek ⟨s162,s163,s164,s165,s166,s168,s167,trivial⟩) Tryz.func90 fun a=>by kernel_rfl
def F30:=fe [(26,pf26),(89,pf89),(22,pf22),(90,pf90)] []
def pf30:PF:=⟨[R (.pair .i64 .i64),R q2,R .str],[q2,.bool],.shared,spec_l17Own⟩
theorem s30:Sd 30 pf30:=sf (F:=F30) (ek ⟨s26,s89,s22,s90,trivial⟩) Tryz.func30 fun a=>by kernel_rfl
def F6:FEnv:=⟨⟨TYS,[(22,pf22),(23,pf23),(24,pf24),(25,pf25),(26,pf26),(27,pf27),(28,pf28),(30,pf30)],EQS,[],[],false,[(29,pf29)],[]⟩,[]⟩
def pf6:PF:=⟨[R (.pair .i64 .i64),R q2,R (.pair .str q3)],[q2,.bool],.shared,spec_HearBlock⟩
theorem s6:Sd 6 pf6:=sf (F:=F6) (envOK ⟨s22,s23,s24,s25,s26,s27,s28,s30,trivial⟩ trivial trivial s29 trivial) Tryz.func6 fun a=>by kernel_rfl
def F97:=fe [] []
def pf97:PF:=⟨[R .i64,R .i64,R .i64],[.bool],.uniq,impl_within⟩
theorem s97:Sd 97 pf97:=sf (F:=F97) (ek trivial) Tryz.func97 fun a=>by kernel_rfl
def F96:=fe [(97,pf97)] []
def pf96:PF:=⟨[R (.pair .i64 .i64)],[.bool],.uniq,impl_ConfOk⟩
theorem s96:Sd 96 pf96:=sf (F:=F96) (ek ⟨s97,trivial⟩) Tryz.func96 fun a=>by kernel_rfl
def F175:=fe [] []
def pf175:PF:=⟨[],[q3],.uniq,impl_QcFirst⟩
theorem s175:Sd 175 pf175:=sf (F:=F175) (ek trivial) Tryz.func175 fun a=>by kernel_rfl
def F215:=fe [] [(4,[.slot 13 .i64 (.imm false)])]
def pf215:PF:=⟨[R (.sl 3 .i64),R (.sl 3 .i64)],[.bool],.uniq,slices_Equal_int⟩
theorem s215:Sd 215 pf215:=sf (F:=F215) (ek trivial) Tryz.func215 fun a=>by kernel_rfl
def F174:=fe [(215,pf215)] []
def pf174:PF:=⟨[R q3,R q3],[.bool],.uniq,impl_QcSame⟩
theorem s174:Sd 174 pf174:=sf (F:=F174) (ek ⟨s215,trivial⟩) Tryz.func174 fun a=>by kernel_rfl
def F181:=fe [(219,pf219)] []
def pf181:PF:=⟨[R .str,R .u8],[(.sl 9 .str)],.uniq,impl_Split⟩
theorem s181:Sd 181 pf181:=sf (F:=F181) (ek ⟨s219,trivial⟩) Tryz.func181 fun a=>by kernel_rfl
def F221:=fe [(238,pf238)] []
def pf221:PF:=⟨[R .i64],[.str],.uniq,impl_Digits⟩
theorem s221:Sd 221 pf221:=sf (F:=F221) (ek ⟨s238,trivial⟩) Tryz.func221 fun a=>by kernel_rfl
def F183:=fe [(221,pf221)] [(5,[.slot 4 .i64 (.imm false),.slot 5 .i64 (.imm false)])]
def pf183:PF:=⟨[R .str],[.i64,.bool],.uniq,impl_Number⟩
theorem s183:Sd 183 pf183:=sf (F:=F183) (ek ⟨s221,trivial⟩) Tryz.func183 fun a=>by kernel_rfl
def F170:=fe [(97,pf97)] []
def pf170:PF:=⟨[R q4],[.bool],.uniq,impl_TxOk⟩
theorem s170:Sd 170 pf170:=sf (F:=F170) (ek ⟨s97,trivial⟩) Tryz.func170 fun a=>by kernel_rfl
def F239:=fe [(170,pf170),(221,pf221)] []
def pf239:PF:=⟨[R q4],[.str],.uniq,impl_TxText⟩
theorem s239:Sd 239 pf239:=sf (F:=F239) (ek ⟨s170,s221,trivial⟩) Tryz.func239 fun a=>by kernel_rfl
def F222:=fe [(182,pf182),(183,pf183),(170,pf170),(239,pf239)] [(6,[.slot 40 .i64 (.imm false),.row 1 3 .i64 (.own true)])]
def pf222:PF:=⟨[R .str],[q4,.bool],.uniq,impl_TxOf⟩
theorem s222:Sd 222 pf222:=sf (F:=F222) (ek ⟨s182,s183,s170,s239,trivial⟩) Tryz.func222 fun a=>by kernel_rfl
def F184:=fe [(181,pf181),(222,pf222)] [(5,[.slot 4 (.sl 123 q4) (.own true),.slot 14 .i64 (.imm false)])]
def pf184:PF:=⟨[R .str],[(.sl 123 q4),.bool],.uniq,impl_TxsOf⟩
theorem s184:Sd 184 pf184:=sf (F:=F184) (ek ⟨s181,s222,trivial⟩) Tryz.func184 fun a=>by kernel_rfl
def F111:=fe [(181,pf181),(182,pf182),(183,pf183),(184,pf184),(97,pf97)] [(9,[.slot 5 q9 (.own true),.slot 6 .i64 (.imm false),.slot 33 .i64 (.imm false)])]
def pf111:PF:=⟨[R .str],[q9,.bool],.uniq,impl_Steps⟩
theorem s111:Sd 111 pf111:=sf (F:=F111) (ek ⟨s181,s182,s183,s184,s97,trivial⟩) Tryz.func111 fun a=>by kernel_rfl
def F104:=fe [(111,pf111)] []
def pf104:PF:=⟨[R .str],[.bool],.uniq,impl_NameOk⟩
theorem s104:Sd 104 pf104:=sf (F:=F104) (ek ⟨s111,trivial⟩) Tryz.func104 fun a=>by kernel_rfl
def F40:=fe [(111,pf111)] []
def pf40:PF:=⟨[R .str],[.i64],.uniq,impl_ViewOf⟩
theorem s40:Sd 40 pf40:=sf (F:=F40) (ek ⟨s111,trivial⟩) Tryz.func40 fun a=>by kernel_rfl
def F176:=fe [] [(2,[.slot 9 .i64 (.imm false)])]
def pf176:PF:=⟨[R .i64,R (.sl 3 .i64)],[.bool],.uniq,impl_SetOk⟩
theorem s176:Sd 176 pf176:=sf (F:=F176) (ek trivial) Tryz.func176 fun a=>by kernel_rfl
def F216:=fe [(96,pf96)] []
def pf216:PF:=⟨[R (.pair .i64 .i64)],[.i64],.uniq,impl_Faults⟩
theorem s216:Sd 216 pf216:=sf (F:=F216) (ek ⟨s96,trivial⟩) Tryz.func216 fun a=>by kernel_rfl
def F177:=fe [(96,pf96),(216,pf216)] []
def pf177:PF:=⟨[R (.pair .i64 .i64)],[.i64],.uniq,impl_Quorum⟩
theorem s177:Sd 177 pf177:=sf (F:=F177) (ek ⟨s96,s216,trivial⟩) Tryz.func177 fun a=>by kernel_rfl
def F103:=fe [(96,pf96),(175,pf175),(174,pf174),(104,pf104),(40,pf40),(176,pf176),(177,pf177)] []
def pf103:PF:=⟨[R (.pair .i64 .i64),R q3],[.bool],.uniq,impl_QcOk⟩
theorem s103:Sd 103 pf103:=sf (F:=F103) (ek ⟨s96,s175,s174,s104,s40,s176,s177,trivial⟩) Tryz.func103 fun a=>by kernel_rfl
def F98:=fe [(97,pf97),(103,pf103),(104,pf104)] []
def pf98:PF:=⟨[R (.pair .i64 .i64),R q5],[.bool],.uniq,impl_SafeOk⟩
theorem s98:Sd 98 pf98:=sf (F:=F98) (ek ⟨s97,s103,s104,trivial⟩) Tryz.func98 fun a=>by kernel_rfl
def F171:=fe [] []
def pf171:PF:=⟨[R q4,R q4],[.bool],.uniq,impl_beforeTx⟩
theorem s171:Sd 171 pf171:=sf (F:=F171) (ek trivial) Tryz.func171 fun a=>by kernel_rfl
def F99:=fe [(170,pf170),(171,pf171)] [(2,[.slot 7 .i64 (.imm false)])]
def pf99:PF:=⟨[R (.sl 123 q4)],[.bool],.uniq,impl_PoolOk⟩
theorem s99:Sd 99 pf99:=sf (F:=F99) (ek ⟨s170,s171,trivial⟩) Tryz.func99 fun a=>by kernel_rfl
def F119:=fe [(96,pf96),(97,pf97),(104,pf104),(40,pf40),(176,pf176)] []
def pf119:PF:=⟨[R (.pair .i64 .i64),R q3],[.bool],.uniq,impl_PartOk⟩
theorem s119:Sd 119 pf119:=sf (F:=F119) (ek ⟨s96,s97,s104,s40,s176,trivial⟩) Tryz.func119 fun a=>by kernel_rfl
def F227:=fe [] []
def pf227:PF:=⟨[R .i64],[.bool],.uniq,cmp_isNaN_int⟩
theorem s227:Sd 227 pf227:=sf (F:=F227) (ek trivial) Tryz.func227 fun a=>by kernel_rfl
def F188:=fe [(227,pf227)] []
def pf188:PF:=⟨[R .i64,R .i64],[.i64],.uniq,cmp_Compare_int⟩
theorem s188:Sd 188 pf188:=sf (F:=F188) (ek ⟨s227,trivial⟩) Tryz.func188 fun a=>by kernel_rfl
def F228:=fe [] []
def pf228:PF:=⟨[R .str],[.bool],.uniq,cmp_isNaN_string⟩
theorem s228:Sd 228 pf228:=sf (F:=F228) (ek trivial) Tryz.func228 fun a=>by kernel_rfl
def F189:=fe [(228,pf228)] []
def pf189:PF:=⟨[R .str,R .str],[.i64],.uniq,cmp_Compare_string⟩
theorem s189:Sd 189 pf189:=sf (F:=F189) (ek ⟨s228,trivial⟩) Tryz.func189 fun a=>by kernel_rfl
def F120:=fe [(188,pf188),(189,pf189)] []
def pf120:PF:=⟨[R q3,R q3],[.i64],.uniq,impl_comparePlace⟩
theorem s120:Sd 120 pf120:=sf (F:=F120) (ek ⟨s188,s189,trivial⟩) Tryz.func120 fun a=>by kernel_rfl
def F100:=fe [(119,pf119),(120,pf120)] [(2,[.slot 9 .i64 (.imm false)])]
def pf100:PF:=⟨[R (.pair .i64 .i64),R (.sl 87 q3)],[.bool],.uniq,impl_TableOk⟩
theorem s100:Sd 100 pf100:=sf (F:=F100) (ek ⟨s119,s120,trivial⟩) Tryz.func100 fun a=>by kernel_rfl
def F101:=fe [(97,pf97)] []
def pf101:PF:=⟨[R q6],[.bool],.uniq,impl_DiskOk⟩
theorem s101:Sd 101 pf101:=sf (F:=F101) (ek ⟨s97,trivial⟩) Tryz.func101 fun a=>by kernel_rfl
def F173:=fe [] []
def pf173:PF:=⟨[R q1],[q1],.shared,impl_named⟩
theorem s173:Sd 173 pf173:=sf (F:=F173) (ek trivial) Tryz.func173 fun a=>by kernel_rfl
def F213:=fe [(174,pf174)] []
def pf213:PF:=⟨[R (.pair .str q3),R (.pair .str q3)],[.bool],.uniq,impl_BlockSame⟩
theorem s213:Sd 213 pf213:=sf (F:=F213) (ek ⟨s174,trivial⟩) Tryz.func213 fun a=>by kernel_rfl
def F214:=fe [(215,pf215)] []
def pf214:PF:=⟨[R q3,R q3],[.bool],.uniq,impl_partSame⟩
theorem s214:Sd 214 pf214:=sf (F:=F214) (ek ⟨s215,trivial⟩) Tryz.func214 fun a=>by kernel_rfl
def F172:=fe [(213,pf213),(214,pf214),(174,pf174)] []
def pf172:PF:=⟨[R q1,R q1],[.bool],.uniq,impl_MsgSame⟩
theorem s172:Sd 172 pf172:=sf (F:=F172) (ek ⟨s213,s214,s174,trivial⟩) Tryz.func172 fun a=>by kernel_rfl
def F105:=fe [(104,pf104),(178,pf178)] []
def pf105:PF:=⟨[R .str],[.str],.uniq,impl_UpOf⟩
theorem s105:Sd 105 pf105:=sf (F:=F105) (ek ⟨s104,s178,trivial⟩) Tryz.func105 fun a=>by kernel_rfl
def F38:=fe [(103,pf103),(104,pf104),(105,pf105)] []
def pf38:PF:=⟨[R (.pair .i64 .i64),R (.pair .str q3)],[.bool],.uniq,impl_BlockOk⟩
theorem s38:Sd 38 pf38:=sf (F:=F38) (ek ⟨s103,s104,s105,trivial⟩) Tryz.func38 fun a=>by kernel_rfl
def F102:=fe [(96,pf96),(173,pf173),(172,pf172),(38,pf38),(119,pf119),(97,pf97),(103,pf103),(170,pf170)] []
def pf102:PF:=⟨[R (.pair .i64 .i64),R q1],[.bool],.uniq,impl_MsgOk⟩
theorem s102:Sd 102 pf102:=sf (F:=F102) (ek ⟨s96,s173,s172,s38,s119,s97,s103,s170,trivial⟩) Tryz.func102 fun a=>by kernel_rfl
def F37:=fe [(96,pf96),(97,pf97),(98,pf98),(99,pf99),(100,pf100),(101,pf101),(102,pf102)] [(4,[.slot 66 .i64 (.imm false)])]
def pf37:PF:=⟨[R (.pair .i64 .i64),R q2],[.bool],.uniq,impl_RepOk⟩
theorem s37:Sd 37 pf37:=sf (F:=F37) (ek ⟨s96,s97,s98,s99,s100,s101,s102,trivial⟩) Tryz.func37 fun a=>by kernel_rfl
def F193:=fe [] []
def pf193:PF:=⟨[R (.sl 3 .i64)],[(.sl 3 .i64)],.uniq,impl_copyInts⟩
theorem s193:Sd 193 pf193:=sf (F:=F193) (ek trivial) Tryz.func193 fun a=>by kernel_rfl
def F179:=fe [(193,pf193)] []
def pf179:PF:=⟨[R q3],[q3],.uniq,impl_copyQc⟩
theorem s179:Sd 179 pf179:=sf (F:=F179) (ek ⟨s193,trivial⟩) Tryz.func179 fun a=>by kernel_rfl
def F106:=fe [(179,pf179)] []
def pf106:PF:=⟨[R q5],[q5],.uniq,impl_copySafe⟩
theorem s106:Sd 106 pf106:=sf (F:=F106) (ek ⟨s179,trivial⟩) Tryz.func106 fun a=>by kernel_rfl
def F107:=fe [] []
def pf107:PF:=⟨[R (.sl 123 q4)],[(.sl 123 q4)],.uniq,impl_copyTxs⟩
theorem s107:Sd 107 pf107:=sf (F:=F107) (ek trivial) Tryz.func107 fun a=>by kernel_rfl
def F123:=fe [(193,pf193)] []
def pf123:PF:=⟨[R q3],[q3],.uniq,impl_copyPart⟩
theorem s123:Sd 123 pf123:=sf (F:=F123) (ek ⟨s193,trivial⟩) Tryz.func123 fun a=>by kernel_rfl
def F108:=fe [(123,pf123)] [(3,[.slot 3 (.sl 87 q3) (.own true),.slot 8 .i64 (.imm false)])]
def pf108:PF:=⟨[R (.sl 87 q3)],[(.sl 87 q3)],.uniq,impl_copyTable⟩
theorem s108:Sd 108 pf108:=sf (F:=F108) (ek ⟨s123,trivial⟩) Tryz.func108 fun a=>by kernel_rfl
def F109:=fe [] []
def pf109:PF:=⟨[R q6],[q6],.uniq,impl_copyDisk⟩
theorem s109:Sd 109 pf109:=sf (F:=F109) (ek trivial) Tryz.func109 fun a=>by kernel_rfl
def F218:=fe [(179,pf179)] []
def pf218:PF:=⟨[R (.pair .str q3)],[(.pair .str q3)],.uniq,impl_copyBlock⟩
theorem s218:Sd 218 pf218:=sf (F:=F218) (ek ⟨s179,trivial⟩) Tryz.func218 fun a=>by kernel_rfl
def F180:=fe [(218,pf218),(123,pf123),(179,pf179)] []
def pf180:PF:=⟨[R q1],[q1],.uniq,impl_copyMsg⟩
theorem s180:Sd 180 pf180:=sf (F:=F180) (ek ⟨s218,s123,s179,trivial⟩) Tryz.func180 fun a=>by kernel_rfl
def F110:=fe [(180,pf180)] [(3,[.slot 3 q7 (.own true),.slot 8 .i64 (.imm false)])]
def pf110:PF:=⟨[R q7],[q7],.uniq,impl_copyPosts⟩
theorem s110:Sd 110 pf110:=sf (F:=F110) (ek ⟨s180,trivial⟩) Tryz.func110 fun a=>by kernel_rfl
def F39:=fe [(106,pf106),(107,pf107),(108,pf108),(109,pf109),(110,pf110)] []
def pf39:PF:=⟨[R q2],[q2],.uniq,impl_copyRep⟩
theorem s39:Sd 39 pf39:=sf (F:=F39) (ek ⟨s106,s107,s108,s109,s110,trivial⟩) Tryz.func39 fun a=>by kernel_rfl
def F112:=fe [(179,pf179)] []
def pf112:PF:=⟨[R q3,R q3],[q3],.uniq,impl_QcLater⟩
theorem s112:Sd 112 pf112:=sf (F:=F112) (ek ⟨s179,trivial⟩) Tryz.func112 fun a=>by kernel_rfl
def F113:=fe [(111,pf111),(105,pf105)] []
def pf113:PF:=⟨[R .str],[.str,.bool],.uniq,impl_Settles⟩
theorem s113:Sd 113 pf113:=sf (F:=F113) (ek ⟨s111,s105,trivial⟩) Tryz.func113 fun a=>by kernel_rfl
def F223:=fe [] []
def pf223:PF:=⟨[R .str,R .str],[.bool],.uniq,internal_stringslite_HasPrefix⟩
theorem s223:Sd 223 pf223:=sf (F:=F223) (ek trivial) Tryz.func223 fun a=>by kernel_rfl
def F185:=fe [(223,pf223)] []
def pf185:PF:=⟨[R .str,R .str],[.bool],.uniq,strings_HasPrefix⟩
theorem s185:Sd 185 pf185:=sf (F:=F185) (ek ⟨s223,trivial⟩) Tryz.func185 fun a=>by kernel_rfl
def F114:=fe [(104,pf104),(185,pf185)] []
def pf114:PF:=⟨[R .str,R .str],[.bool],.uniq,impl_Extends⟩
theorem s114:Sd 114 pf114:=sf (F:=F114) (ek ⟨s104,s185,trivial⟩) Tryz.func114 fun a=>by kernel_rfl
def F41:=fe [(106,pf106),(98,pf98),(103,pf103),(112,pf112),(105,pf105),(40,pf40),(113,pf113),(114,pf114)] []
def pf41:PF:=⟨[R (.pair .i64 .i64),R q5,R q3],[q5],.uniq,impl_See⟩
theorem s41:Sd 41 pf41:=sf (F:=F41) (ek ⟨s106,s98,s103,s112,s105,s40,s113,s114,trivial⟩) Tryz.func41 fun a=>by kernel_rfl
def F115:=fe [(98,pf98),(38,pf38),(40,pf40)] []
def pf115:PF:=⟨[R (.pair .i64 .i64),R q5,R (.pair .str q3)],[.bool],.uniq,impl_MayVote⟩
theorem s115:Sd 115 pf115:=sf (F:=F115) (ek ⟨s98,s38,s40,trivial⟩) Tryz.func115 fun a=>by kernel_rfl
def F42:=fe [(106,pf106),(115,pf115),(40,pf40)] []
def pf42:PF:=⟨[R (.pair .i64 .i64),R q5,R (.pair .str q3)],[q5,.bool],.uniq,impl_Vote⟩
theorem s42:Sd 42 pf42:=sf (F:=F42) (ek ⟨s106,s115,s40,trivial⟩) Tryz.func42 fun a=>by kernel_rfl
def F116:=fe [(174,pf174)] []
def pf116:PF:=⟨[R q5,R q5],[.bool],.uniq,impl_SafeSame⟩
theorem s116:Sd 116 pf116:=sf (F:=F116) (ek ⟨s174,trivial⟩) Tryz.func116 fun a=>by kernel_rfl
def F187:=fe [(97,pf97)] [(4,[.slot 0 .i64 (.imm false),.slot 3 (.sl 5 .u8) (.own true)])]
def pf187:PF:=⟨[R .i64],[(.sl 5 .u8)],.uniq,impl_PutNum⟩
theorem s187:Sd 187 pf187:=sf (F:=F187) (ek ⟨s97,trivial⟩) Tryz.func187 fun a=>by kernel_rfl
def F224:=fe [(187,pf187)] [(3,[.slot 3 (.sl 5 .u8) (.own true),.slot 8 .i64 (.imm false)])]
def pf224:PF:=⟨[R (.sl 3 .i64)],[(.sl 5 .u8)],.uniq,impl_putNums⟩
theorem s224:Sd 224 pf224:=sf (F:=F224) (ek ⟨s187,trivial⟩) Tryz.func224 fun a=>by kernel_rfl
def F226:=fe [(187,pf187)] []
def pf226:PF:=⟨[R .str],[(.sl 5 .u8)],.uniq,impl_PutText⟩
theorem s226:Sd 226 pf226:=sf (F:=F226) (ek ⟨s187,trivial⟩) Tryz.func226 fun a=>by kernel_rfl
def F225:=fe [(103,pf103),(187,pf187),(226,pf226),(224,pf224)] []
def pf225:PF:=⟨[R (.pair .i64 .i64),R q3],[(.sl 5 .u8)],.uniq,impl_QcBytes⟩
theorem s225:Sd 225 pf225:=sf (F:=F225) (ek ⟨s103,s187,s226,s224,trivial⟩) Tryz.func225 fun a=>by kernel_rfl
def F186:=fe [(98,pf98),(224,pf224),(225,pf225),(226,pf226)] []
def pf186:PF:=⟨[R (.pair .i64 .i64),R q5],[(.sl 5 .u8)],.uniq,impl_SafeBytes⟩
theorem s186:Sd 186 pf186:=sf (F:=F186) (ek ⟨s98,s224,s225,s226,trivial⟩) Tryz.func186 fun a=>by kernel_rfl
def F118:=fe [(186,pf186),(187,pf187)] []
def pf118:PF:=⟨[R (.pair .i64 .i64),R q5],[(.sl 5 .u8)],.uniq,impl_NoteBytes⟩
theorem s118:Sd 118 pf118:=sf (F:=F118) (ek ⟨s186,s187,trivial⟩) Tryz.func118 fun a=>by kernel_rfl
def F117:=fe [(109,pf109),(101,pf101)] []
def pf117:PF:=⟨[R q6,R (.sl 5 .u8)],[q6,.bool],.uniq,impl_Append⟩
theorem s117:Sd 117 pf117:=sf (F:=F117) (ek ⟨s109,s101,trivial⟩) Tryz.func117 fun a=>by kernel_rfl
def F43:=fe [(39,pf39),(37,pf37),(116,pf116),(118,pf118),(117,pf117),(106,pf106)] []
def pf43:PF:=⟨[R (.pair .i64 .i64),R q2,R q5],[q2,.bool],.uniq,impl_Write⟩
theorem s43:Sd 43 pf43:=sf (F:=F43) (ek ⟨s39,s37,s116,s118,s117,s106,trivial⟩) Tryz.func43 fun a=>by kernel_rfl
def F244:=fe [] [(2,[.slot 8 .i64 (.imm false)])]
def pf244:PF:=⟨[R (.sl 3 .i64),R .i64],[.i64],.uniq,slices_Index_int⟩
theorem s244:Sd 244 pf244:=sf (F:=F244) (ek trivial) Tryz.func244 fun a=>by kernel_rfl
def F231:=fe [(244,pf244)] []
def pf231:PF:=⟨[R (.sl 3 .i64),R .i64],[.bool],.uniq,slices_Contains_int⟩
theorem s231:Sd 231 pf231:=sf (F:=F231) (ek ⟨s244,trivial⟩) Tryz.func231 fun a=>by kernel_rfl
def F195:=fe [(231,pf231)] []
def pf195:PF:=⟨[R (.sl 3 .i64),R .i64],[.bool],.uniq,impl_SetHas⟩
theorem s195:Sd 195 pf195:=sf (F:=F195) (ek ⟨s231,trivial⟩) Tryz.func195 fun a=>by kernel_rfl
def F241:=fe [] []
def pf241:PF:=⟨[R .i64,(.cap,.i64)],[.bool],.uniq,impl_SetAdd_1⟩
theorem s241:Sd 241 pf241:=sf (F:=F241) (ek trivial) Tryz.func241 fun a=>by kernel_rfl
def F240:=fe [(241,pf241)] [(2,[.slot 8 .i64 (.imm false)])]
def pf240:PF:=⟨[R (.sl 3 .i64),((.clo 241),.i64)],[.i64],.uniq,slices_IndexFunc_int⟩
theorem s240:Sd 240 pf240:=sf (F:=F240) (ek ⟨s241,trivial⟩) Tryz.func240 fun a=>by kernel_rfl
def F229:=fe [(195,pf195),(193,pf193),(240,pf240),(242,pf242)] []
def pf229:PF:=⟨[R (.sl 3 .i64),R .i64],[(.sl 3 .i64)],.uniq,impl_SetAdd⟩
theorem s229:Sd 229 pf229:=sf (F:=F229) (ek ⟨s195,s193,s240,s242,trivial⟩) Tryz.func229 fun a=>by kernel_rfl
def F190:=fe [(229,pf229)] [(3,[.slot 5 (.sl 3 .i64) (.own true),.slot 12 .i64 (.imm false)]),(8,[.slot 5 (.sl 3 .i64) (.own true),.slot 22 .i64 (.imm false)])]
def pf190:PF:=⟨[R (.sl 3 .i64),R (.sl 3 .i64)],[(.sl 3 .i64)],.uniq,impl_SetJoin⟩
theorem s190:Sd 190 pf190:=sf (F:=F190) (ek ⟨s229,trivial⟩) Tryz.func190 fun a=>by kernel_rfl
def F121:=fe [(190,pf190)] []
def pf121:PF:=⟨[R q3,R q3],[q3,.bool],.uniq,impl_PartJoin⟩
theorem s121:Sd 121 pf121:=sf (F:=F121) (ek ⟨s190,trivial⟩) Tryz.func121 fun a=>by kernel_rfl
def F44:FEnv:=⟨⟨TYS,[(119,pf119),(108,pf108),(120,pf120),(121,pf121),(123,pf123),(100,pf100)],EQS,[],[],false,[],[(122,pf122)]⟩,[(5,[.slot 9 .i64 (.imm false)])]⟩
def pf44:PF:=⟨[R (.pair .i64 .i64),R (.sl 87 q3),R q3],[(.sl 87 q3),.bool],.uniq,impl_TableAdd⟩
theorem s44:Sd 44 pf44:=sf (F:=F44) (envOK ⟨s119,s108,s120,s121,s123,s100,trivial⟩ trivial trivial trivial s122) Tryz.func44 fun a=>by kernel_rfl
def F124:=fe [(123,pf123)] [(2,[.slot 11 .i64 (.imm false),.box 1 q3 (.own true)])]
def pf124:PF:=⟨[R (.sl 87 q3),R .i64,R .str],[q3],.uniq,impl_TableGet⟩
theorem s124:Sd 124 pf124:=sf (F:=F124) (ek ⟨s123,trivial⟩) Tryz.func124 fun a=>by kernel_rfl
def F125:=fe [(96,pf96)] []
def pf125:PF:=⟨[R (.pair .i64 .i64),R .i64],[.i64],.uniq,impl_Root⟩
theorem s125:Sd 125 pf125:=sf (F:=F125) (ek ⟨s96,trivial⟩) Tryz.func125 fun a=>by kernel_rfl
def F126:=fe [(179,pf179),(103,pf103)] []
def pf126:PF:=⟨[R (.pair .i64 .i64),R q3],[q3,.bool],.uniq,impl_PartQc⟩
theorem s126:Sd 126 pf126:=sf (F:=F126) (ek ⟨s179,s103,trivial⟩) Tryz.func126 fun a=>by kernel_rfl
def F130:=fe [(39,pf39),(180,pf180),(37,pf37)] []
def pf130:PF:=⟨[R (.pair .i64 .i64),R q2,R .i64,R q1],[q2,.bool],.uniq,impl_Tell⟩
theorem s130:Sd 130 pf130:=sf (F:=F130) (ek ⟨s39,s180,s37,trivial⟩) Tryz.func130 fun a=>by kernel_rfl
def F127:=fe [(41,pf41),(43,pf43),(125,pf125),(130,pf130)] []
def pf127:PF:=⟨[R (.pair .i64 .i64),R q2,R q3],[q2,.bool],.uniq,impl_crown⟩
theorem e127 (a:argT pf127.params):evFunC F127 Tryz.f127 pf127.params pf127.rets pf127.rk a=pf127.fn a:=by kernel_rfl
theorem s127:SoundC Tryz.prog GLB 127 pf127:=sound_funC (F:=F127) (ek ⟨s41,s43,s125,s130,trivial⟩) Tryz.func127 (by kernel_rfl) (by rfl) (fun a o h=>(e127 a).trans h)
def F194:=fe [(96,pf96),(97,pf97)] []
def pf194:PF:=⟨[R (.pair .i64 .i64),R .i64,R .i64],[.i64],.uniq,impl_Seat⟩
theorem s194:Sd 194 pf194:=sf (F:=F194) (ek ⟨s96,s97,trivial⟩) Tryz.func194 fun a=>by kernel_rfl
def F197:=fe [(96,pf96),(97,pf97)] []
def pf197:PF:=⟨[R (.pair .i64 .i64),R .i64,R .i64],[.i64],.uniq,impl_Sits⟩
theorem s197:Sd 197 pf197:=sf (F:=F197) (ek ⟨s96,s97,trivial⟩) Tryz.func197 fun a=>by kernel_rfl
def F131:=fe [(194,pf194),(197,pf197)] []
def pf131:PF:=⟨[R (.pair .i64 .i64),R .i64,R .i64],[.i64],.uniq,impl_Up⟩
theorem s131:Sd 131 pf131:=sf (F:=F131) (ek ⟨s194,s197,trivial⟩) Tryz.func131 fun a=>by kernel_rfl
def F196:=fe [(194,pf194),(131,pf131)] [(2,[.slot 2 .i64 (.imm false),.slot 7 (.sl 3 .i64) (.own true)])]
def pf196:PF:=⟨[R (.pair .i64 .i64),R .i64,R .i64],[(.sl 3 .i64)],.uniq,impl_Way⟩
theorem s196:Sd 196 pf196:=sf (F:=F196) (ek ⟨s194,s131,trivial⟩) Tryz.func196 fun a=>by kernel_rfl
def F128:=fe [(194,pf194),(196,pf196),(195,pf195)] [(3,[.slot 7 (.sl 3 .i64) (.own true),.slot 8 .i64 (.imm false)])]
def pf128:PF:=⟨[R (.pair .i64 .i64),R .i64,R .i64],[(.sl 3 .i64)],.uniq,impl_Under⟩
theorem s128:Sd 128 pf128:=sf (F:=F128) (ek ⟨s194,s196,s195,trivial⟩) Tryz.func128 fun a=>by kernel_rfl
def F129:=fe [(195,pf195)] [(3,[.slot 5 .i64 (.imm false),.slot 10 .i64 (.imm false)])]
def pf129:PF:=⟨[R (.sl 3 .i64),R (.sl 3 .i64)],[.i64],.uniq,impl_Common⟩
theorem s129:Sd 129 pf129:=sf (F:=F129) (ek ⟨s195,trivial⟩) Tryz.func129 fun a=>by kernel_rfl
def F45:FEnv:=⟨⟨TYS,[(124,pf124),(37,pf37),(39,pf39),(125,pf125),(126,pf126),(128,pf128),(129,pf129),(131,pf131),(130,pf130)],EQS,[],[],false,[(127,pf127)],[]⟩,[]⟩
def pf45:PF:=⟨[R (.pair .i64 .i64),R q2,R .i64,R .str,R .bool],[q2,.bool],.uniq,impl_Climb⟩
theorem s45:Sd 45 pf45:=sf (F:=F45) (envOK ⟨s124,s37,s39,s125,s126,s128,s129,s131,s130,trivial⟩ trivial trivial s127 trivial) Tryz.func45 fun a=>by kernel_rfl
def F10:=fe [(37,pf37),(38,pf38),(39,pf39),(40,pf40),(41,pf41),(42,pf42),(43,pf43),(44,pf44),(45,pf45)] []
def pf10:PF:=⟨[R (.pair .i64 .i64),R q2,R (.pair .str q3)],[q2,.bool],.uniq,impl_HearBlock⟩
theorem s10:Sd 10 pf10:=sf (F:=F10) (ek ⟨s37,s38,s39,s40,s41,s42,s43,s44,s45,trivial⟩) Tryz.func10 fun a=>by kernel_rfl
def F136:=fe [] [(4,[.slot 5 .i64 (.imm false)])]
def pf136:PF:=⟨[R (.sl 3 .i64),R (.sl 3 .i64)],[.bool],.uniq,laws_eqIntS⟩
theorem s136:Sd 136 pf136:=sf (F:=F136) (ek trivial) Tryz.func136 fun a=>by kernel_rfl
def F51:=fe [(136,pf136)] []
def pf51:PF:=⟨[R q3,R q3],[.bool],.uniq,laws_eqQc⟩
theorem s51:Sd 51 pf51:=sf (F:=F51) (ek ⟨s136,trivial⟩) Tryz.func51 fun a=>by kernel_rfl
def F46:=fe [(51,pf51)] []
def pf46:PF:=⟨[R q5,R q5],[.bool],.uniq,laws_eqSafe⟩
theorem s46:Sd 46 pf46:=sf (F:=F46) (ek ⟨s51,trivial⟩) Tryz.func46 fun a=>by kernel_rfl
def F132:=fe [] []
def pf132:PF:=⟨[R q4,R q4],[.bool],.uniq,laws_eqTx⟩
theorem s132:Sd 132 pf132:=sf (F:=F132) (ek trivial) Tryz.func132 fun a=>by kernel_rfl
def F47:=fe [(132,pf132)] [(4,[.slot 5 .i64 (.imm false)])]
def pf47:PF:=⟨[R (.sl 123 q4),R (.sl 123 q4)],[.bool],.uniq,laws_eqTxS⟩
theorem s47:Sd 47 pf47:=sf (F:=F47) (ek ⟨s132,trivial⟩) Tryz.func47 fun a=>by kernel_rfl
def F133:=fe [(136,pf136)] []
def pf133:PF:=⟨[R q3,R q3],[.bool],.uniq,laws_eqPart⟩
theorem s133:Sd 133 pf133:=sf (F:=F133) (ek ⟨s136,trivial⟩) Tryz.func133 fun a=>by kernel_rfl
def F48:=fe [(133,pf133)] [(4,[.slot 5 .i64 (.imm false)])]
def pf48:PF:=⟨[R (.sl 87 q3),R (.sl 87 q3)],[.bool],.uniq,laws_eqPartS⟩
theorem s48:Sd 48 pf48:=sf (F:=F48) (ek ⟨s133,trivial⟩) Tryz.func48 fun a=>by kernel_rfl
def F134:=fe [] [(4,[.slot 5 .i64 (.imm false)])]
def pf134:PF:=⟨[R (.sl 5 .u8),R (.sl 5 .u8)],[.bool],.uniq,laws_eqByteS⟩
theorem s134:Sd 134 pf134:=sf (F:=F134) (ek trivial) Tryz.func134 fun a=>by kernel_rfl
def F49:=fe [(134,pf134)] []
def pf49:PF:=⟨[R q6,R q6],[.bool],.uniq,laws_eqDisk⟩
theorem s49:Sd 49 pf49:=sf (F:=F49) (ek ⟨s134,trivial⟩) Tryz.func49 fun a=>by kernel_rfl
def F12:=fe [(51,pf51)] []
def pf12:PF:=⟨[R (.pair .str q3),R (.pair .str q3)],[.bool],.uniq,laws_eqBlock⟩
theorem s12:Sd 12 pf12:=sf (F:=F12) (ek ⟨s51,trivial⟩) Tryz.func12 fun a=>by kernel_rfl
def F198:=fe [(12,pf12),(133,pf133),(51,pf51),(132,pf132)] []
def pf198:PF:=⟨[R q1,R q1],[.bool],.uniq,laws_eqMsg⟩
theorem s198:Sd 198 pf198:=sf (F:=F198) (ek ⟨s12,s133,s51,s132,trivial⟩) Tryz.func198 fun a=>by kernel_rfl
def F135:=fe [(198,pf198)] []
def pf135:PF:=⟨[R (.pair .i64 q1),R (.pair .i64 q1)],[.bool],.uniq,laws_eqPost⟩
theorem s135:Sd 135 pf135:=sf (F:=F135) (ek ⟨s198,trivial⟩) Tryz.func135 fun a=>by kernel_rfl
def F50:=fe [(135,pf135)] [(4,[.slot 5 .i64 (.imm false)])]
def pf50:PF:=⟨[R q7,R q7],[.bool],.uniq,laws_eqPostS⟩
theorem s50:Sd 50 pf50:=sf (F:=F50) (ek ⟨s135,trivial⟩) Tryz.func50 fun a=>by kernel_rfl
def F11:=fe [(46,pf46),(47,pf47),(48,pf48),(49,pf49),(50,pf50)] []
def pf11:PF:=⟨[R q2,R q2],[.bool],.uniq,laws_eqRep⟩
theorem s11:Sd 11 pf11:=sf (F:=F11) (ek ⟨s46,s47,s48,s49,s50,trivial⟩) Tryz.func11 fun a=>by kernel_rfl
def F138:=fe [] [(2,[.slot 1 .i64 (.imm false),.slot 5 .i64 (.imm false),.row 0 3 .i64 .lent])]
def pf138:MF:=⟨(.sl 3 .i64),laws_markIntS⟩
theorem e138 (a:den (.sl 3 .i64)×Int×Unit):evTurnFun F138 Tryz.f138 (.sl 3 .i64) a=laws_markIntS a:=by kernel_rfl
theorem s138:SoundM Tryz.prog GLB 138 pf138:=sound_funM (F:=F138) (ek trivial) Tryz.func138 (by kernel_rfl) (fun a o h=>(e138 a).trans h)
def F57:FEnv:=⟨⟨TYS,[],EQS,[],[(138,pf138)],false,[],[]⟩,[]⟩
def pf57:MF:=⟨q3,laws_markQc⟩
theorem e57 (a:den q3×Int×Unit):evTurnFun F57 Tryz.f57 q3 a=laws_markQc a:=by kernel_rfl
theorem s57:SoundM Tryz.prog GLB 57 pf57:=sound_funM (F:=F57) (envOK trivial trivial s138 trivial trivial) Tryz.func57 (by kernel_rfl) (fun a o h=>(e57 a).trans h)
def F52:FEnv:=⟨⟨TYS,[],EQS,[],[(57,pf57)],false,[],[]⟩,[]⟩
def pf52:MF:=⟨q5,laws_markSafe⟩
theorem e52 (a:den q5×Int×Unit):evTurnFun F52 Tryz.f52 q5 a=laws_markSafe a:=by kernel_rfl
theorem s52:SoundM Tryz.prog GLB 52 pf52:=sound_funM (F:=F52) (envOK trivial trivial s57 trivial trivial) Tryz.func52 (by kernel_rfl) (fun a o h=>(e52 a).trans h)
def F53:=fe [] [(2,[.slot 1 .i64 (.imm false),.slot 5 .i64 (.imm false),.row 0 123 q4 .lent])]
def pf53:MF:=⟨(.sl 123 q4),laws_markTxS⟩
theorem e53 (a:den (.sl 123 q4)×Int×Unit):evTurnFun F53 Tryz.f53 (.sl 123 q4) a=laws_markTxS a:=by kernel_rfl
theorem s53:SoundM Tryz.prog GLB 53 pf53:=sound_funM (F:=F53) (ek trivial) Tryz.func53 (by kernel_rfl) (fun a o h=>(e53 a).trans h)
def F137:=fe [] [(4,[.slot 0 .i64 (.imm false),.slot 3 .str (.imm false)])]
def pf137:PF:=⟨[R .i64],[.str],.uniq,laws_markText⟩
theorem s137:Sd 137 pf137:=sf (F:=F137) (ek trivial) Tryz.func137 fun a=>by kernel_rfl
def F54:FEnv:=⟨⟨TYS,[(137,pf137)],EQS,[],[(138,pf138)],false,[],[]⟩,[(2,[.slot 1 .i64 (.imm false),.slot 5 .i64 (.imm false),.row 0 87 q3 .lent])]⟩
def pf54:MF:=⟨(.sl 87 q3),laws_markPartS⟩
theorem e54 (a:den (.sl 87 q3)×Int×Unit):evTurnFun F54 Tryz.f54 (.sl 87 q3) a=laws_markPartS a:=by kernel_rfl
theorem s54:SoundM Tryz.prog GLB 54 pf54:=sound_funM (F:=F54) (envOK ⟨s137,trivial⟩ trivial s138 trivial trivial) Tryz.func54 (by kernel_rfl) (fun a o h=>(e54 a).trans h)
def F139:=fe [] [(2,[.slot 1 .i64 (.imm false),.slot 5 .i64 (.imm false),.row 0 5 .u8 .lent])]
def pf139:MF:=⟨(.sl 5 .u8),laws_markByteS⟩
theorem e139 (a:den (.sl 5 .u8)×Int×Unit):evTurnFun F139 Tryz.f139 (.sl 5 .u8) a=laws_markByteS a:=by kernel_rfl
theorem s139:SoundM Tryz.prog GLB 139 pf139:=sound_funM (F:=F139) (ek trivial) Tryz.func139 (by kernel_rfl) (fun a o h=>(e139 a).trans h)
def F55:FEnv:=⟨⟨TYS,[],EQS,[],[(139,pf139)],false,[],[]⟩,[]⟩
def pf55:MF:=⟨q6,laws_markDisk⟩
theorem e55 (a:den q6×Int×Unit):evTurnFun F55 Tryz.f55 q6 a=laws_markDisk a:=by kernel_rfl
theorem s55:SoundM Tryz.prog GLB 55 pf55:=sound_funM (F:=F55) (envOK trivial trivial s139 trivial trivial) Tryz.func55 (by kernel_rfl) (fun a o h=>(e55 a).trans h)
def F56:FEnv:=⟨⟨TYS,[(137,pf137)],EQS,[],[(138,pf138)],false,[],[]⟩,[(2,[.slot 1 .i64 (.imm false),.slot 5 .i64 (.imm false),.row 0 127 (.pair .i64 q1) .lent])]⟩
def pf56:MF:=⟨q7,laws_markPostS⟩
theorem e56 (a:den q7×Int×Unit):evTurnFun F56 Tryz.f56 q7 a=laws_markPostS a:=by kernel_rfl
theorem s56:SoundM Tryz.prog GLB 56 pf56:=sound_funM (F:=F56) (envOK ⟨s137,trivial⟩ trivial s138 trivial trivial) Tryz.func56 (by kernel_rfl) (fun a o h=>(e56 a).trans h)
def F13:FEnv:=⟨⟨TYS,[],EQS,[],[(52,pf52),(53,pf53),(54,pf54),(55,pf55),(56,pf56)],false,[],[]⟩,[]⟩
def pf13:MF:=⟨q2,laws_markRep⟩
theorem e13 (a:den q2×Int×Unit):evTurnFun F13 Tryz.f13 q2 a=laws_markRep a:=by kernel_rfl
theorem s13:SoundM Tryz.prog GLB 13 pf13:=sound_funM (F:=F13) (envOK trivial trivial ⟨s52,s53,s54,s55,s56⟩ trivial trivial) Tryz.func13 (by kernel_rfl) (fun a o h=>(e13 a).trans h)
def F14:FEnv:=⟨⟨TYS,[],EQS,[],[(57,pf57)],false,[],[]⟩,[]⟩
def pf14:MF:=⟨(.pair .str q3),laws_markBlock⟩
theorem e14 (a:den (.pair .str q3)×Int×Unit):evTurnFun F14 Tryz.f14 (.pair .str q3) a=laws_markBlock a:=by kernel_rfl
theorem s14:SoundM Tryz.prog GLB 14 pf14:=sound_funM (F:=F14) (envOK trivial trivial s57 trivial trivial) Tryz.func14 (by kernel_rfl) (fun a o h=>(e14 a).trans h)
def F141:=fe [] [(2,[.slot 1 .i64 (.imm false),.slot 5 .i64 (.imm false)])]
def pf141:PF:=⟨[R (.sl 3 .i64),R .i64],[.i64],.uniq,laws_heldIntS⟩
theorem s141:Sd 141 pf141:=sf (F:=F141) (ek trivial) Tryz.func141 fun a=>by kernel_rfl
def F140:=fe [(141,pf141)] []
def pf140:PF:=⟨[R q3,R .i64],[.i64],.uniq,laws_heldQc⟩
theorem s140:Sd 140 pf140:=sf (F:=F140) (ek ⟨s141,trivial⟩) Tryz.func140 fun a=>by kernel_rfl
def F58:=fe [(140,pf140)] []
def pf58:PF:=⟨[R q5,R .i64],[.i64],.uniq,laws_heldSafe⟩
theorem s58:Sd 58 pf58:=sf (F:=F58) (ek ⟨s140,trivial⟩) Tryz.func58 fun a=>by kernel_rfl
def F59:=fe [] [(2,[.slot 1 .i64 (.imm false),.slot 5 .i64 (.imm false)])]
def pf59:PF:=⟨[R (.sl 123 q4),R .i64],[.i64],.uniq,laws_heldTxS⟩
theorem s59:Sd 59 pf59:=sf (F:=F59) (ek trivial) Tryz.func59 fun a=>by kernel_rfl
def F60:=fe [(137,pf137),(141,pf141)] [(2,[.slot 1 .i64 (.imm false),.slot 5 .i64 (.imm false)])]
def pf60:PF:=⟨[R (.sl 87 q3),R .i64],[.i64],.uniq,laws_heldPartS⟩
theorem s60:Sd 60 pf60:=sf (F:=F60) (ek ⟨s137,s141,trivial⟩) Tryz.func60 fun a=>by kernel_rfl
def F142:=fe [] [(2,[.slot 1 .i64 (.imm false),.slot 5 .i64 (.imm false)])]
def pf142:PF:=⟨[R (.sl 5 .u8),R .i64],[.i64],.uniq,laws_heldByteS⟩
theorem s142:Sd 142 pf142:=sf (F:=F142) (ek trivial) Tryz.func142 fun a=>by kernel_rfl
def F61:=fe [(142,pf142)] []
def pf61:PF:=⟨[R q6,R .i64],[.i64],.uniq,laws_heldDisk⟩
theorem s61:Sd 61 pf61:=sf (F:=F61) (ek ⟨s142,trivial⟩) Tryz.func61 fun a=>by kernel_rfl
def F62:=fe [(137,pf137),(141,pf141)] [(2,[.slot 1 .i64 (.imm false),.slot 5 .i64 (.imm false)])]
def pf62:PF:=⟨[R q7,R .i64],[.i64],.uniq,laws_heldPostS⟩
theorem s62:Sd 62 pf62:=sf (F:=F62) (ek ⟨s137,s141,trivial⟩) Tryz.func62 fun a=>by kernel_rfl
def F15:=fe [(58,pf58),(59,pf59),(60,pf60),(61,pf61),(62,pf62)] []
def pf15:PF:=⟨[R q2,R .i64],[.i64],.uniq,laws_heldRep⟩
theorem s15:Sd 15 pf15:=sf (F:=F15) (ek ⟨s58,s59,s60,s61,s62,trivial⟩) Tryz.func15 fun a=>by kernel_rfl
def F3:FEnv:=⟨⟨TYS,[(4,pf4),(5,pf5),(7,pf7),(8,pf8),(9,pf9),(6,pf6),(10,pf10),(11,pf11),(12,pf12),(15,pf15)],EQS,[],[(13,pf13),(14,pf14)],false,[],[]⟩,[]⟩
def pf3:PF:=⟨[R (.pair .i64 .i64),R q8,R (.pair .str q3)],[.bool],.uniq,laws_FnExactHearBlock⟩
theorem s3:Sd 3 pf3:=sf (F:=F3) (envOK ⟨s4,s5,s7,s8,s9,s6,s10,s11,s12,s15,trivial⟩ trivial ⟨s13,s14⟩ trivial trivial) Tryz.func3 fun a=>by kernel_rfl
end
end G448
