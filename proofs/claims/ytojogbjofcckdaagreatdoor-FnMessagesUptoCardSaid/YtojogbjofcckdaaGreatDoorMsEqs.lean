/- That the printed functions are what the evaluator reckons. (Printed by our own program.) -/
import Derived.Test.YtojogbjofcckdaaGreatDoorProg
import Derived.Test.YtojogbjofcckdaaGreatDoorMsFns
import Derived.Test.YtojogbjofcckdaaGreatDoorSh
import Derived.KernelRfl
set_option linter.unusedSimpArgs false
set_option linter.unusedVariables false
namespace G448
open Ev Go Go.Proofs
set_option maxRecDepth 100000
noncomputable section
abbrev q1:Ty:=(.pair .i64 (.pair .i64 (.pair (.pair .str (.pair .i64 (.pair .str (.sl 3 .i64)))) (.pair (.pair .i64 (.pair .str (.sl 3 .i64))) (.pair (.pair .i64 (.pair .str (.sl 3 .i64))) (.pair .i64 (.pair .i64 (.pair .i64 (.pair .i64 .i64)))))))))
abbrev q2:Ty:=(.pair .i64 (.pair .str (.sl 3 .i64)))
abbrev q3:Ty:=(.pair (.sl 5 .u8) (.pair .i64 .i64))
abbrev q4:Ty:=(.pair .i64 (.pair .i64 (.pair .i64 .i64)))
abbrev q5:Ty:=(.pair (.sl 5 .u8) (.pair .i64 .bool))
abbrev q6:Ty:=(.sl 120 (.pair .i64 (.sl 33 q4)))
def TYS:List (Nat×TD):=[(3,⟨.i64,8,[],none⟩),(4,⟨.bool,1,[],none⟩),(5,⟨.u8,1,[],none⟩),(9,⟨.str,16,[],none⟩),(22,⟨(.sl 5 .u8),24,[],none⟩),(25,⟨(.pair .i64 .i64),16,[(0,3),(1,3)],none⟩),(26,⟨(.sl 3 .i64),24,[],none⟩),(28,⟨(.pair .i64 (.pair .str (.sl 3 .i64))),48,[(0,3),(1,9),(2,26)],none⟩),(30,⟨(.pair .str (.pair .i64 (.pair .str (.sl 3 .i64)))),64,[(0,9),(1,28)],none⟩),(31,⟨(.pair .i64 (.pair .str (.sl 3 .i64))),48,[(0,3),(1,9),(2,26)],none⟩),(33,⟨(.pair .i64 (.pair .i64 (.pair .i64 .i64))),32,[(0,3),(1,3),(2,3),(3,3)],none⟩),(35,⟨(.pair .i64 (.pair .i64 (.pair (.pair .str (.pair .i64 (.pair .str (.sl 3 .i64)))) (.pair (.pair .i64 (.pair .str (.sl 3 .i64))) (.pair (.pair .i64 (.pair .str (.sl 3 .i64))) (.pair .i64 (.pair .i64 (.pair .i64 (.pair .i64 .i64))))))))),216,[(0,3),(1,3),(2,30),(6,31),(9,28),(12,3),(13,33)],none⟩),(58,⟨(.pair (.sl 5 .u8) (.pair .i64 .bool)),40,[(0,22),(1,3),(2,4)],none⟩),(65,⟨(.pair (.sl 5 .u8) (.pair .i64 .bool)),40,[(0,22),(1,3),(2,4)],none⟩),(84,⟨(.pair (.sl 5 .u8) (.pair .i64 .i64)),40,[(0,22),(1,3),(2,3)],none⟩),(107,⟨(.sl 33 (.pair .i64 (.pair .i64 (.pair .i64 .i64)))),24,[],none⟩),(115,⟨(.sl 120 (.pair .i64 (.sl 33 (.pair .i64 (.pair .i64 (.pair .i64 .i64)))))),24,[],none⟩),(120,⟨(.pair .i64 (.sl 33 (.pair .i64 (.pair .i64 (.pair .i64 .i64))))),32,[(0,3),(1,107)],none⟩),(125,⟨(.sl 9 .str),24,[],none⟩),(140,⟨(.sl 3 .i64),32,[],some 4⟩)]
def EQS:List Nat:=[33]
theorem tysOK:tysOk Tryz.prog TYS=true:=by kernel_rfl
theorem tilesOK:tilesOk TYS=true:=by kernel_rfl
theorem eqsOK:EQS.all (eqOk Tryz.prog TYS)=true:=by kernel_rfl
theorem mixedOK:Tryz.prog.follows .mixedOrders=true:=by kernel_rfl
theorem envOK {fns:List (Nat×PF)} {news:List (Nat×NF)} {muts:List (Nat×MF)} {frz hold:Bool} {conds joins alts:List (Nat×PF)} (h:AllS Tryz.prog GLB fns) (h2:AllN Tryz.prog GLB news) (h3:AllM Tryz.prog GLB muts) (h4:AllC Tryz.prog GLB conds) (h5:AllJ Tryz.prog GLB joins) (h6:AllS Tryz.prog GLB alts):EnvOk Tryz.prog GLB ⟨TYS,fns,EQS,news,muts,frz,conds,joins,alts,hold⟩:=envOk_of mixedOK tysOK eqsOK h h2 h3 h4 h5 h6
def fe (fns:List (Nat×PF)) (ls:List (Nat×List Ev.Item)):FEnv:=⟨⟨TYS,fns,EQS,[],[],false,[],[],[],false⟩,ls⟩
theorem ek {fns:List (Nat×PF)} {frz hold:Bool} (h:AllS Tryz.prog GLB fns):EnvOk Tryz.prog GLB ⟨TYS,fns,EQS,[],[],frz,[],[],[],hold⟩:=envOK h trivial trivial trivial trivial trivial
abbrev R (t:Ty):PK×Ty:=(.rd,t)
abbrev Sd (f:Nat) (pf:PF):Prop:=Sound Tryz.prog GLB f pf
theorem sf {F:FEnv} {f:FuncId} {fn:Func} {pf:PF} (hE:EnvOk Tryz.prog GLB F.E) (hf:Tryz.prog.funcs[f]?=some fn) (he : ∀ a,evFun F fn pf.params pf.rets pf.rk a=pf.fn a) (hn:(fn.name == "runtime.NumGoroutine")=false:=by kernel_rfl):Sd f pf:=sound_fun hE hf hn fun a o h=>(he a).trans h
def F4:=fe [] []
def pf4:PF:=⟨[R (.sl 5 .u8)],[.bool],.uniq,laws_big⟩
theorem s4:Sd 4 pf4:=sf (F:=F4) (ek trivial) Tryz.func4 fun a=>by kernel_rfl
def F21:=fe [] [(3,[.slot 3 .i64 (.imm false),.slot 4 .i64 (.imm false)])]
def pf21:NF:=⟨[(.rd,(.sl 5 .u8))],q3,spec_l1New⟩
theorem e21 (a:argT [(.rd,(.sl 5 .u8))]):evNewFun F21 Tryz.f21 [(.rd,(.sl 5 .u8))] q3 a=spec_l1New a:=by kernel_rfl
theorem s21:SoundN Tryz.prog GLB 21 pf21:=sound_funN (F:=F21) (ek trivial) Tryz.func21 (by kernel_rfl) (fun a o h=>(e21 a).trans h)
def F90:=fe [] []
def pf90:PF:=⟨[(.ptr,q3)],[.i64],.uniq,spec_l1Byte⟩
theorem s90:Sd 90 pf90:=sf (F:=F90) (ek trivial) Tryz.func90 fun a=>by kernel_rfl
def F60:=fe [(90,pf90)] []
def pf60:PF:=⟨[(.ptr,q3),R .i64],[.i64],.uniq,spec_l1Below⟩
theorem s60:Sd 60 pf60:=sf (F:=F60) (ek ⟨s90,trivial⟩) Tryz.func60 fun a=>by kernel_rfl
def F22:=fe [(60,pf60)] []
def pf22:PF:=⟨[(.ptr,q3)],[(.pair .i64 .i64)],.uniq,spec_l7DrawConf⟩
theorem s22:Sd 22 pf22:=sf (F:=F22) (ek ⟨s60,trivial⟩) Tryz.func22 fun a=>by kernel_rfl
def F61:=fe [(60,pf60)] []
def pf61:PF:=⟨[(.ptr,q3),R (.sl 3 .i64)],[.i64],.uniq,spec_l1PickInt⟩
theorem s61:Sd 61 pf61:=sf (F:=F61) (ek ⟨s60,trivial⟩) Tryz.func61 fun a=>by kernel_rfl
def F67:=fe [(60,pf60),(61,pf61)] []
def pf67:PF:=⟨[(.ptr,q3)],[q4],.uniq,spec_l2DrawRight⟩
theorem s67:Sd 67 pf67:=sf (F:=F67) (ek ⟨s60,s61,trivial⟩) Tryz.func67 fun a=>by kernel_rfl
def F54:=fe [] []
def pf54:PF:=⟨[R .i64,R .i64,R .i64],[.bool],.uniq,spec_l1In⟩
theorem s54:Sd 54 pf54:=sf (F:=F54) (ek trivial) Tryz.func54 fun a=>by kernel_rfl
def F56:=fe [(54,pf54)] []
def pf56:PF:=⟨[R q4],[.bool],.uniq,spec_TxOk⟩
theorem s56:Sd 56 pf56:=sf (F:=F56) (ek ⟨s54,trivial⟩) Tryz.func56 fun a=>by kernel_rfl
def F94:=fe [] [(5,[.slot 0 .i64 (.imm false),.slot 4 .str (.imm false)])]
def pf94:PF:=⟨[R .i64],[.str],.uniq,spec_Digits⟩
theorem s94:Sd 94 pf94:=sf (F:=F94) (ek trivial) Tryz.func94 fun a=>by kernel_rfl
def F103:=fe [(56,pf56),(94,pf94)] []
def pf103:PF:=⟨[R q4],[.str],.uniq,spec_TxText⟩
theorem s103:Sd 103 pf103:=sf (F:=F103) (ek ⟨s56,s94,trivial⟩) Tryz.func103 fun a=>by kernel_rfl
def F95:=fe [(56,pf56),(103,pf103)] [(3,[.slot 3 .str (.imm false),.slot 4 .i64 (.imm false)])]
def pf95:PF:=⟨[R (.sl 33 q4)],[.str],.uniq,spec_TxsText⟩
theorem s95:Sd 95 pf95:=sf (F:=F95) (ek ⟨s56,s103,trivial⟩) Tryz.func95 fun a=>by kernel_rfl
def F110:=fe [] [(4,[.slot 5 (.sl 9 .str) (.own true),.slot 6 .i64 (.imm false),.slot 7 .i64 (.imm false)])]
def pf110:PF:=⟨[R .str,R .u8],[(.sl 9 .str)],.uniq,spec_Split⟩
theorem s110:Sd 110 pf110:=sf (F:=F110) (ek trivial) Tryz.func110 fun a=>by kernel_rfl
def F111:=fe [] [(2,[.slot 7 .i64 (.imm false)])]
def pf111:PF:=⟨[R .str,R .u8],[.str,.str,.bool],.uniq,spec_l2Cut⟩
theorem s111:Sd 111 pf111:=sf (F:=F111) (ek trivial) Tryz.func111 fun a=>by kernel_rfl
def F112:=fe [(94,pf94)] [(5,[.slot 4 .i64 (.imm false),.slot 5 .i64 (.imm false)])]
def pf112:PF:=⟨[R .str],[.i64,.bool],.uniq,spec_Number⟩
theorem s112:Sd 112 pf112:=sf (F:=F112) (ek ⟨s94,trivial⟩) Tryz.func112 fun a=>by kernel_rfl
def F119:=fe [(111,pf111),(112,pf112),(103,pf103)] []
def pf119:PF:=⟨[R .str],[q4,.bool],.uniq,spec_TxOf⟩
theorem s119:Sd 119 pf119:=sf (F:=F119) (ek ⟨s111,s112,s103,trivial⟩) Tryz.func119 fun a=>by kernel_rfl
def F113:=fe [(110,pf110),(119,pf119)] [(6,[.slot 4 (.sl 33 q4) (.own true),.slot 6 .i64 (.imm false)])]
def pf113:PF:=⟨[R .str],[(.sl 33 q4),.bool],.uniq,spec_TxsOf⟩
theorem s113:Sd 113 pf113:=sf (F:=F113) (ek ⟨s110,s119,trivial⟩) Tryz.func113 fun a=>by kernel_rfl
def F101:=fe [(110,pf110),(111,pf111),(112,pf112),(113,pf113)] [(10,[.slot 5 q6 (.own true),.slot 7 .i64 (.imm false),.slot 8 .i64 (.imm false)])]
def pf101:PF:=⟨[R .str],[q6,.bool],.uniq,spec_Steps⟩
theorem s101:Sd 101 pf101:=sf (F:=F101) (ek ⟨s110,s111,s112,s113,trivial⟩) Tryz.func101 fun a=>by kernel_rfl
def F84:=fe [(101,pf101)] []
def pf84:PF:=⟨[R .str],[.bool],.uniq,spec_NameOk⟩
theorem s84:Sd 84 pf84:=sf (F:=F84) (ek ⟨s101,trivial⟩) Tryz.func84 fun a=>by kernel_rfl
def F64:=fe [(56,pf56),(94,pf94),(95,pf95),(84,pf84)] [(2,[.slot 7 .i64 (.imm false)])]
def pf64:PF:=⟨[R .str,R .i64,R (.sl 33 q4)],[.str],.uniq,spec_NameOf⟩
theorem s64:Sd 64 pf64:=sf (F:=F64) (ek ⟨s56,s94,s95,s84,trivial⟩) Tryz.func64 fun a=>by kernel_rfl
def F66:=fe [(60,pf60),(67,pf67),(64,pf64)] [(4,[.slot 3 .str (.imm false),.slot 4 .i64 (.imm false),.slot 5 .i64 (.imm false),.keep 0 q3 [2,0,0]]),(9,[.slot 6 (.sl 33 q4) (.own true),.slot 7 .i64 (.imm false),.keep 0 q3 [2,0,0]])]
def pf66:PF:=⟨[(.ptr,q3)],[.str],.uniq,spec_l5DrawRight⟩
theorem s66:Sd 66 pf66:=sf (F:=F66) (ek ⟨s60,s67,s64,trivial⟩) Tryz.func66 fun a=>by kernel_rfl
def F87:=fe [(101,pf101)] []
def pf87:PF:=⟨[R .str],[.i64],.uniq,spec_ViewOf⟩
theorem s87:Sd 87 pf87:=sf (F:=F87) (ek ⟨s101,trivial⟩) Tryz.func87 fun a=>by kernel_rfl
def F34:=fe [(60,pf60)] []
def pf34:PF:=⟨[(.ptr,q3),R .i64],[.bool],.uniq,spec_l1Once⟩
theorem s34:Sd 34 pf34:=sf (F:=F34) (ek ⟨s60,trivial⟩) Tryz.func34 fun a=>by kernel_rfl
def F65:FEnv:=⟨⟨TYS,[(87,pf87),(34,pf34),(60,pf60)],EQS,[],[],true,[],[],[],false⟩,[(5,[.slot 8 .i64 (.imm false),.box 4 q2 (.own true)])]⟩
def pf65:PF:=⟨[(.ptr,q3),R (.pair .i64 .i64),R .str],[q2],.uniq,spec_l7DrawOf⟩
theorem s65:Sd 65 pf65:=sf (F:=F65) (ek ⟨s87,s34,s60,trivial⟩) Tryz.func65 fun a=>by kernel_rfl
def F76:=fe [] []
def pf76:PF:=⟨[R q2],[q2],.uniq,spec_l7Copy⟩
theorem s76:Sd 76 pf76:=sf (F:=F76) (ek trivial) Tryz.func76 fun a=>by kernel_rfl
def F50:=fe [(54,pf54)] []
def pf50:PF:=⟨[R (.pair .i64 .i64)],[.bool],.uniq,spec_ConfOk⟩
theorem s50:Sd 50 pf50:=sf (F:=F50) (ek ⟨s54,trivial⟩) Tryz.func50 fun a=>by kernel_rfl
def F86:=fe [] [(2,[.slot 5 .i64 (.imm false)])]
def pf86:PF:=⟨[R .i64,R (.sl 3 .i64)],[.bool],.uniq,spec_SetOk⟩
theorem s86:Sd 86 pf86:=sf (F:=F86) (ek trivial) Tryz.func86 fun a=>by kernel_rfl
def F88:=fe [(50,pf50)] []
def pf88:PF:=⟨[R (.pair .i64 .i64)],[.i64],.uniq,spec_Quorum⟩
theorem s88:Sd 88 pf88:=sf (F:=F88) (ek ⟨s50,trivial⟩) Tryz.func88 fun a=>by kernel_rfl
def F55:=fe [(50,pf50),(84,pf84),(87,pf87),(86,pf86),(88,pf88)] []
def pf55:PF:=⟨[R (.pair .i64 .i64),R q2],[.bool],.uniq,spec_QcOk⟩
theorem s55:Sd 55 pf55:=sf (F:=F55) (ek ⟨s50,s84,s87,s86,s88,trivial⟩) Tryz.func55 fun a=>by kernel_rfl
def F93:=fe [] []
def pf93:PF:=⟨[R .i64,R .i64],[.i64],.uniq,spec_l1Max⟩
theorem s93:Sd 93 pf93:=sf (F:=F93) (ek trivial) Tryz.func93 fun a=>by kernel_rfl
def F85:=fe [(84,pf84),(93,pf93)] [(4,[.slot 3 .i64 (.imm false)])]
def pf85:PF:=⟨[R .str],[.str],.uniq,spec_UpOf⟩
theorem s85:Sd 85 pf85:=sf (F:=F85) (ek ⟨s84,s93,trivial⟩) Tryz.func85 fun a=>by kernel_rfl
def F52:=fe [(55,pf55),(84,pf84),(85,pf85)] []
def pf52:PF:=⟨[R (.pair .i64 .i64),R (.pair .str q2)],[.bool],.uniq,spec_BlockOk⟩
theorem s52:Sd 52 pf52:=sf (F:=F52) (ek ⟨s55,s84,s85,trivial⟩) Tryz.func52 fun a=>by kernel_rfl
def F91:=fe [(64,pf64),(76,pf76),(52,pf52),(87,pf87)] []
def pf91:PF:=⟨[R (.pair .i64 .i64),R q2,R .i64,R (.sl 33 q4)],[(.pair .str q2),.bool],.uniq,spec_BlockNew⟩
theorem s91:Sd 91 pf91:=sf (F:=F91) (ek ⟨s64,s76,s52,s87,trivial⟩) Tryz.func91 fun a=>by kernel_rfl
def F62:=fe [(66,pf66),(65,pf65),(60,pf60),(67,pf67),(91,pf91)] [(4,[.slot 6 (.sl 33 q4) (.own true),.slot 7 .i64 (.imm false),.keep 0 q3 [2,0,0]])]
def pf62:PF:=⟨[(.ptr,q3),R (.pair .i64 .i64)],[(.pair .str q2)],.uniq,spec_l8DrawRight⟩
theorem s62:Sd 62 pf62:=sf (F:=F62) (ek ⟨s66,s65,s60,s67,s91,trivial⟩) Tryz.func62 fun a=>by kernel_rfl
def F102:=fe [] [(2,[.slot 5 .i64 (.imm false)])]
def pf102:PF:=⟨[R (.sl 3 .i64),R .i64],[.bool],.uniq,spec_SetHas⟩
theorem s102:Sd 102 pf102:=sf (F:=F102) (ek trivial) Tryz.func102 fun a=>by kernel_rfl
def F92:=fe [(102,pf102)] [(4,[.slot 5 .i64 (.imm false)])]
def pf92:PF:=⟨[R (.sl 3 .i64),R .i64],[(.sl 3 .i64)],.uniq,spec_SetAdd⟩
theorem s92:Sd 92 pf92:=sf (F:=F92) (ek ⟨s102,trivial⟩) Tryz.func92 fun a=>by kernel_rfl
def F63:=fe [(66,pf66),(87,pf87),(34,pf34),(60,pf60),(93,pf93),(92,pf92)] [(6,[.slot 7 .i64 (.imm false),.keep 0 q3 [2,0,0],.box 4 q2 (.own true)])]
def pf63:PF:=⟨[(.ptr,q3),R (.pair .i64 .i64)],[q2],.uniq,spec_l10DrawRight⟩
theorem s63:Sd 63 pf63:=sf (F:=F63) (ek ⟨s66,s87,s34,s60,s93,s92,trivial⟩) Tryz.func63 fun a=>by kernel_rfl
def F24:=fe [(60,pf60),(62,pf62),(63,pf63),(64,pf64),(66,pf66),(65,pf65),(67,pf67)] []
def pf24:PF:=⟨[(.ptr,q3),R (.pair .i64 .i64)],[q1],.uniq,spec_l14DrawRight⟩
theorem s24:Sd 24 pf24:=sf (F:=F24) (ek ⟨s60,s62,s63,s64,s66,s65,s67,trivial⟩) Tryz.func24 fun a=>by kernel_rfl
def F96:=fe [(60,pf60),(92,pf92),(34,pf34),(61,pf61)] [(3,[.slot 5 (.sl 3 .i64) (.own true),.slot 6 .i64 (.imm false),.keep 0 q3 [2,0,0]])]
def pf96:PF:=⟨[(.ptr,q3),R .i64],[(.sl 3 .i64)],.uniq,spec_l6DrawSet⟩
theorem s96:Sd 96 pf96:=sf (F:=F96) (ek ⟨s60,s92,s34,s61,trivial⟩) Tryz.func96 fun a=>by kernel_rfl
def F114:=fe [(60,pf60)] []
def pf114:PF:=⟨[(.ptr,q3),R (.sl 9 .str)],[.str],.uniq,spec_l1Pick⟩
theorem s114:Sd 114 pf114:=sf (F:=F114) (ek ⟨s60,trivial⟩) Tryz.func114 fun a=>by kernel_rfl
def F104:=fe [(60,pf60),(114,pf114)] []
def pf104:PF:=⟨[(.ptr,q3),R .str],[.str],.uniq,spec_l2Dent⟩
theorem s104:Sd 104 pf104:=sf (F:=F104) (ek ⟨s60,s114,trivial⟩) Tryz.func104 fun a=>by kernel_rfl
def F97:=fe [(34,pf34),(60,pf60),(94,pf94),(66,pf66),(104,pf104)] [(4,[.slot 3 .str (.imm false),.slot 4 .i64 (.imm false),.keep 0 q3 [2,0,0]])]
def pf97:PF:=⟨[(.ptr,q3)],[.str],.uniq,spec_l5Draw⟩
theorem s97:Sd 97 pf97:=sf (F:=F97) (ek ⟨s34,s60,s94,s66,s104,trivial⟩) Tryz.func97 fun a=>by kernel_rfl
def F72:=fe [(63,pf63),(60,pf60),(61,pf61),(96,pf96),(97,pf97)] []
def pf72:PF:=⟨[(.ptr,q3),R (.pair .i64 .i64)],[q2],.uniq,spec_l10Draw⟩
theorem s72:Sd 72 pf72:=sf (F:=F72) (ek ⟨s63,s60,s61,s96,s97,trivial⟩) Tryz.func72 fun a=>by kernel_rfl
def F73:=fe [(67,pf67),(60,pf60),(61,pf61)] []
def pf73:PF:=⟨[(.ptr,q3)],[q4],.uniq,spec_l2Draw⟩
theorem s73:Sd 73 pf73:=sf (F:=F73) (ek ⟨s67,s60,s61,trivial⟩) Tryz.func73 fun a=>by kernel_rfl
def F33:=fe [(24,pf24),(60,pf60),(61,pf61),(72,pf72),(73,pf73)] []
def pf33:PF:=⟨[(.ptr,q3),R (.pair .i64 .i64)],[q1],.uniq,spec_l14Draw⟩
theorem s33:Sd 33 pf33:=sf (F:=F33) (ek ⟨s24,s60,s61,s72,s73,trivial⟩) Tryz.func33 fun a=>by kernel_rfl
def F16:FEnv:=⟨⟨TYS,[(22,pf22),(33,pf33)],EQS,[(21,pf21)],[],false,[],[],[],false⟩,[]⟩
def pf16:PF:=⟨[R (.sl 5 .u8)],[(.pair .i64 .i64),q1],.uniq,spec_DrawMsgOk⟩
theorem s16:Sd 16 pf16:=sf (F:=F16) (envOK ⟨s22,s33,trivial⟩ ⟨s21,trivial⟩ trivial trivial trivial trivial) Tryz.func16 fun a=>by kernel_rfl
def F5:=fe [(16,pf16)] []
def pf5:PF:=⟨[R (.sl 5 .u8)],[(.pair .i64 .i64),q1],.uniq,spec_DrawMsgBytes⟩
theorem s5:Sd 5 pf5:=sf (F:=F5) (ek ⟨s16,trivial⟩) Tryz.func5 fun a=>by kernel_rfl
def F47:=fe [] []
def pf47:PF:=⟨[R .i64,R .i64,R .i64],[.bool],.uniq,impl_within⟩
theorem s47:Sd 47 pf47:=sf (F:=F47) (ek trivial) Tryz.func47 fun a=>by kernel_rfl
def F43:=fe [(47,pf47)] []
def pf43:PF:=⟨[R (.pair .i64 .i64)],[.bool],.uniq,impl_ConfOk⟩
theorem s43:Sd 43 pf43:=sf (F:=F43) (ek ⟨s47,trivial⟩) Tryz.func43 fun a=>by kernel_rfl
def F44:=fe [] []
def pf44:PF:=⟨[R q1],[q1],.shared,impl_named⟩
theorem s44:Sd 44 pf44:=sf (F:=F44) (ek trivial) Tryz.func44 fun a=>by kernel_rfl
def F77:=fe [] [(4,[.slot 13 .i64 (.imm false)])]
def pf77:PF:=⟨[R (.sl 3 .i64),R (.sl 3 .i64)],[.bool],.uniq,slices_Equal_int⟩
theorem s77:Sd 77 pf77:=sf (F:=F77) (ek trivial) Tryz.func77 fun a=>by kernel_rfl
def F42:=fe [(77,pf77)] []
def pf42:PF:=⟨[R q2,R q2],[.bool],.uniq,impl_QcSame⟩
theorem s42:Sd 42 pf42:=sf (F:=F42) (ek ⟨s77,trivial⟩) Tryz.func42 fun a=>by kernel_rfl
def F40:=fe [(42,pf42)] []
def pf40:PF:=⟨[R (.pair .str q2),R (.pair .str q2)],[.bool],.uniq,impl_BlockSame⟩
theorem s40:Sd 40 pf40:=sf (F:=F40) (ek ⟨s42,trivial⟩) Tryz.func40 fun a=>by kernel_rfl
def F41:=fe [(77,pf77)] []
def pf41:PF:=⟨[R q2,R q2],[.bool],.uniq,impl_partSame⟩
theorem s41:Sd 41 pf41:=sf (F:=F41) (ek ⟨s77,trivial⟩) Tryz.func41 fun a=>by kernel_rfl
def F12:=fe [(40,pf40),(41,pf41),(42,pf42)] []
def pf12:PF:=⟨[R q1,R q1],[.bool],.uniq,impl_MsgSame⟩
theorem s12:Sd 12 pf12:=sf (F:=F12) (ek ⟨s40,s41,s42,trivial⟩) Tryz.func12 fun a=>by kernel_rfl
def F82:=fe [] []
def pf82:PF:=⟨[],[q2],.uniq,impl_QcFirst⟩
theorem s82:Sd 82 pf82:=sf (F:=F82) (ek trivial) Tryz.func82 fun a=>by kernel_rfl
def F105:=fe [(115,pf115)] []
def pf105:PF:=⟨[R .str,R .u8],[(.sl 9 .str)],.uniq,impl_Split⟩
theorem s105:Sd 105 pf105:=sf (F:=F105) (ek ⟨s115,trivial⟩) Tryz.func105 fun a=>by kernel_rfl
def F117:=fe [(122,pf122)] []
def pf117:PF:=⟨[R .i64],[.str],.uniq,impl_Digits⟩
theorem s117:Sd 117 pf117:=sf (F:=F117) (ek ⟨s122,trivial⟩) Tryz.func117 fun a=>by kernel_rfl
def F107:=fe [(117,pf117)] [(5,[.slot 4 .i64 (.imm false),.slot 5 .i64 (.imm false)])]
def pf107:PF:=⟨[R .str],[.i64,.bool],.uniq,impl_Number⟩
theorem s107:Sd 107 pf107:=sf (F:=F107) (ek ⟨s117,trivial⟩) Tryz.func107 fun a=>by kernel_rfl
def F49:=fe [(47,pf47)] []
def pf49:PF:=⟨[R q4],[.bool],.uniq,impl_TxOk⟩
theorem s49:Sd 49 pf49:=sf (F:=F49) (ek ⟨s47,trivial⟩) Tryz.func49 fun a=>by kernel_rfl
def F123:=fe [(49,pf49),(117,pf117)] []
def pf123:PF:=⟨[R q4],[.str],.uniq,impl_TxText⟩
theorem s123:Sd 123 pf123:=sf (F:=F123) (ek ⟨s49,s117,trivial⟩) Tryz.func123 fun a=>by kernel_rfl
def F118:=fe [(106,pf106),(107,pf107),(49,pf49),(123,pf123)] [(6,[.slot 40 .i64 (.imm false),.row 1 3 .i64 (.own true)])]
def pf118:PF:=⟨[R .str],[q4,.bool],.uniq,impl_TxOf⟩
theorem s118:Sd 118 pf118:=sf (F:=F118) (ek ⟨s106,s107,s49,s123,trivial⟩) Tryz.func118 fun a=>by kernel_rfl
def F108:=fe [(105,pf105),(118,pf118)] [(5,[.slot 4 (.sl 33 q4) (.own true),.slot 14 .i64 (.imm false)])]
def pf108:PF:=⟨[R .str],[(.sl 33 q4),.bool],.uniq,impl_TxsOf⟩
theorem s108:Sd 108 pf108:=sf (F:=F108) (ek ⟨s105,s118,trivial⟩) Tryz.func108 fun a=>by kernel_rfl
def F98:=fe [(105,pf105),(106,pf106),(107,pf107),(108,pf108),(47,pf47)] [(9,[.slot 5 q6 (.own true),.slot 6 .i64 (.imm false),.slot 33 .i64 (.imm false)])]
def pf98:PF:=⟨[R .str],[q6,.bool],.uniq,impl_Steps⟩
theorem s98:Sd 98 pf98:=sf (F:=F98) (ek ⟨s105,s106,s107,s108,s47,trivial⟩) Tryz.func98 fun a=>by kernel_rfl
def F78:=fe [(98,pf98)] []
def pf78:PF:=⟨[R .str],[.bool],.uniq,impl_NameOk⟩
theorem s78:Sd 78 pf78:=sf (F:=F78) (ek ⟨s98,trivial⟩) Tryz.func78 fun a=>by kernel_rfl
def F80:=fe [(98,pf98)] []
def pf80:PF:=⟨[R .str],[.i64],.uniq,impl_ViewOf⟩
theorem s80:Sd 80 pf80:=sf (F:=F80) (ek ⟨s98,trivial⟩) Tryz.func80 fun a=>by kernel_rfl
def F81:=fe [] [(2,[.slot 9 .i64 (.imm false)])]
def pf81:PF:=⟨[R .i64,R (.sl 3 .i64)],[.bool],.uniq,impl_SetOk⟩
theorem s81:Sd 81 pf81:=sf (F:=F81) (ek trivial) Tryz.func81 fun a=>by kernel_rfl
def F100:=fe [(43,pf43)] []
def pf100:PF:=⟨[R (.pair .i64 .i64)],[.i64],.uniq,impl_Faults⟩
theorem s100:Sd 100 pf100:=sf (F:=F100) (ek ⟨s43,trivial⟩) Tryz.func100 fun a=>by kernel_rfl
def F83:=fe [(43,pf43),(100,pf100)] []
def pf83:PF:=⟨[R (.pair .i64 .i64)],[.i64],.uniq,impl_Quorum⟩
theorem s83:Sd 83 pf83:=sf (F:=F83) (ek ⟨s43,s100,trivial⟩) Tryz.func83 fun a=>by kernel_rfl
def F48:=fe [(43,pf43),(82,pf82),(42,pf42),(78,pf78),(80,pf80),(81,pf81),(83,pf83)] []
def pf48:PF:=⟨[R (.pair .i64 .i64),R q2],[.bool],.uniq,impl_QcOk⟩
theorem s48:Sd 48 pf48:=sf (F:=F48) (ek ⟨s43,s82,s42,s78,s80,s81,s83,trivial⟩) Tryz.func48 fun a=>by kernel_rfl
def F79:=fe [(78,pf78),(99,pf99)] []
def pf79:PF:=⟨[R .str],[.str],.uniq,impl_UpOf⟩
theorem s79:Sd 79 pf79:=sf (F:=F79) (ek ⟨s78,s99,trivial⟩) Tryz.func79 fun a=>by kernel_rfl
def F45:=fe [(48,pf48),(78,pf78),(79,pf79)] []
def pf45:PF:=⟨[R (.pair .i64 .i64),R (.pair .str q2)],[.bool],.uniq,impl_BlockOk⟩
theorem s45:Sd 45 pf45:=sf (F:=F45) (ek ⟨s48,s78,s79,trivial⟩) Tryz.func45 fun a=>by kernel_rfl
def F46:=fe [(43,pf43),(47,pf47),(78,pf78),(80,pf80),(81,pf81)] []
def pf46:PF:=⟨[R (.pair .i64 .i64),R q2],[.bool],.uniq,impl_PartOk⟩
theorem s46:Sd 46 pf46:=sf (F:=F46) (ek ⟨s43,s47,s78,s80,s81,trivial⟩) Tryz.func46 fun a=>by kernel_rfl
def F13:=fe [(43,pf43),(44,pf44),(12,pf12),(45,pf45),(46,pf46),(47,pf47),(48,pf48),(49,pf49)] []
def pf13:PF:=⟨[R (.pair .i64 .i64),R q1],[.bool],.uniq,impl_MsgOk⟩
theorem s13:Sd 13 pf13:=sf (F:=F13) (ek ⟨s43,s44,s12,s45,s46,s47,s48,s49,trivial⟩) Tryz.func13 fun a=>by kernel_rfl
def F17:=fe [(47,pf47)] [(4,[.slot 0 .i64 (.imm false),.slot 3 (.sl 5 .u8) (.own true)])]
def pf17:PF:=⟨[R .i64],[(.sl 5 .u8)],.uniq,impl_PutNum⟩
theorem s17:Sd 17 pf17:=sf (F:=F17) (ek ⟨s47,trivial⟩) Tryz.func17 fun a=>by kernel_rfl
def F18:=fe [(17,pf17)] []
def pf18:PF:=⟨[R .str],[(.sl 5 .u8)],.uniq,impl_PutText⟩
theorem s18:Sd 18 pf18:=sf (F:=F18) (ek ⟨s17,trivial⟩) Tryz.func18 fun a=>by kernel_rfl
def F20:=fe [(17,pf17)] [(3,[.slot 3 (.sl 5 .u8) (.own true),.slot 8 .i64 (.imm false)])]
def pf20:PF:=⟨[R (.sl 3 .i64)],[(.sl 5 .u8)],.uniq,impl_putNums⟩
theorem s20:Sd 20 pf20:=sf (F:=F20) (ek ⟨s17,trivial⟩) Tryz.func20 fun a=>by kernel_rfl
def F19:=fe [(48,pf48),(17,pf17),(18,pf18),(20,pf20)] []
def pf19:PF:=⟨[R (.pair .i64 .i64),R q2],[(.sl 5 .u8)],.uniq,impl_QcBytes⟩
theorem s19:Sd 19 pf19:=sf (F:=F19) (ek ⟨s48,s17,s18,s20,trivial⟩) Tryz.func19 fun a=>by kernel_rfl
def F6:=fe [(13,pf13),(17,pf17),(18,pf18),(19,pf19),(20,pf20)] []
def pf6:PF:=⟨[R (.pair .i64 .i64),R q1],[(.sl 5 .u8)],.uniq,impl_MsgBytes⟩
theorem s6:Sd 6 pf6:=sf (F:=F6) (ek ⟨s13,s17,s18,s19,s20,trivial⟩) Tryz.func6 fun a=>by kernel_rfl
def F89:=fe [] [(2,[.slot 5 .i64 (.imm false)])]
def pf89:PF:=⟨[R (.sl 3 .i64),R (.sl 3 .i64)],[.bool],.uniq,spec_l7Ints⟩
theorem s89:Sd 89 pf89:=sf (F:=F89) (ek trivial) Tryz.func89 fun a=>by kernel_rfl
def F59:=fe [(89,pf89)] []
def pf59:PF:=⟨[R q2,R q2],[.bool],.uniq,spec_QcSame⟩
theorem s59:Sd 59 pf59:=sf (F:=F59) (ek ⟨s89,trivial⟩) Tryz.func59 fun a=>by kernel_rfl
def F57:=fe [(59,pf59)] []
def pf57:PF:=⟨[R (.pair .str q2),R (.pair .str q2)],[.bool],.uniq,spec_BlockSame⟩
theorem s57:Sd 57 pf57:=sf (F:=F57) (ek ⟨s59,trivial⟩) Tryz.func57 fun a=>by kernel_rfl
def F58:=fe [(89,pf89)] []
def pf58:PF:=⟨[R q2,R q2],[.bool],.uniq,spec_l14Part⟩
theorem s58:Sd 58 pf58:=sf (F:=F58) (ek ⟨s89,trivial⟩) Tryz.func58 fun a=>by kernel_rfl
def F15:=fe [(57,pf57),(58,pf58),(59,pf59)] []
def pf15:PF:=⟨[R q1,R q1],[.bool],.uniq,spec_MsgSame⟩
theorem s15:Sd 15 pf15:=sf (F:=F15) (ek ⟨s57,s58,s59,trivial⟩) Tryz.func15 fun a=>by kernel_rfl
def F51:=fe [(15,pf15)] []
def pf51:PF:=⟨[R q1],[.bool],.uniq,spec_l14Zero⟩
theorem s51:Sd 51 pf51:=sf (F:=F51) (ek ⟨s15,trivial⟩) Tryz.func51 fun a=>by kernel_rfl
def F53:=fe [(50,pf50),(54,pf54),(86,pf86),(84,pf84),(87,pf87)] []
def pf53:PF:=⟨[R (.pair .i64 .i64),R q2],[.bool],.uniq,spec_PartOk⟩
theorem s53:Sd 53 pf53:=sf (F:=F53) (ek ⟨s50,s54,s86,s84,s87,trivial⟩) Tryz.func53 fun a=>by kernel_rfl
def F14:=fe [(50,pf50),(51,pf51),(52,pf52),(53,pf53),(54,pf54),(55,pf55),(56,pf56)] []
def pf14:PF:=⟨[R (.pair .i64 .i64),R q1],[.bool],.uniq,spec_MsgOk⟩
theorem s14:Sd 14 pf14:=sf (F:=F14) (ek ⟨s50,s51,s52,s53,s54,s55,s56,trivial⟩) Tryz.func14 fun a=>by kernel_rfl
def F36:=fe [(54,pf54)] [(4,[.slot 0 .i64 (.imm false),.slot 3 (.sl 5 .u8) (.own true)])]
def pf36:PF:=⟨[R .i64],[(.sl 5 .u8)],.uniq,spec_PutNum⟩
theorem s36:Sd 36 pf36:=sf (F:=F36) (ek ⟨s54,trivial⟩) Tryz.func36 fun a=>by kernel_rfl
def F37:=fe [(36,pf36)] []
def pf37:PF:=⟨[R .str],[(.sl 5 .u8)],.uniq,spec_PutText⟩
theorem s37:Sd 37 pf37:=sf (F:=F37) (ek ⟨s36,trivial⟩) Tryz.func37 fun a=>by kernel_rfl
def F38:=fe [(55,pf55),(36,pf36),(37,pf37)] [(6,[.slot 5 (.sl 5 .u8) (.own true),.slot 6 .i64 (.imm false)])]
def pf38:PF:=⟨[R (.pair .i64 .i64),R q2],[(.sl 5 .u8)],.uniq,spec_QcBytes⟩
theorem s38:Sd 38 pf38:=sf (F:=F38) (ek ⟨s55,s36,s37,trivial⟩) Tryz.func38 fun a=>by kernel_rfl
def F39:=fe [(36,pf36)] [(3,[.slot 3 (.sl 5 .u8) (.own true),.slot 4 .i64 (.imm false)])]
def pf39:PF:=⟨[R (.sl 3 .i64)],[(.sl 5 .u8)],.uniq,spec_l14Nums⟩
theorem s39:Sd 39 pf39:=sf (F:=F39) (ek ⟨s36,trivial⟩) Tryz.func39 fun a=>by kernel_rfl
def F11:=fe [(14,pf14),(36,pf36),(37,pf37),(38,pf38),(39,pf39)] []
def pf11:PF:=⟨[R (.pair .i64 .i64),R q1],[(.sl 5 .u8)],.uniq,spec_MsgBytes⟩
theorem s11:Sd 11 pf11:=sf (F:=F11) (ek ⟨s14,s36,s37,s38,s39,trivial⟩) Tryz.func11 fun a=>by kernel_rfl
def F23:=fe [(60,pf60),(61,pf61)] []
def pf23:PF:=⟨[(.ptr,q3),R (.sl 5 .u8)],[(.sl 5 .u8)],.shared,spec_l12Dent⟩
theorem s23:Sd 23 pf23:=sf (F:=F23) (ek ⟨s60,s61,trivial⟩) Tryz.func23 fun a=>by kernel_rfl
def F7:FEnv:=⟨⟨TYS,[(22,pf22),(24,pf24),(11,pf11),(23,pf23)],EQS,[(21,pf21)],[],false,[],[],[],false⟩,[]⟩
def pf7:PF:=⟨[R (.sl 5 .u8)],[(.pair .i64 .i64),(.sl 5 .u8)],.shared,spec_DrawMsgOf⟩
theorem s7:Sd 7 pf7:=sf (F:=F7) (envOK ⟨s22,s24,s11,s23,trivial⟩ ⟨s21,trivial⟩ trivial trivial trivial trivial) Tryz.func7 fun a=>by kernel_rfl
def F68:=fe [(47,pf47),(17,pf17)] [(5,[.slot 7 .i64 (.imm false),.slot 8 .i64 (.imm false)])]
def pf68:PF:=⟨[R (.sl 5 .u8),R .i64],[.i64,.i64,.bool],.uniq,impl_GetNum⟩
theorem s68:Sd 68 pf68:=sf (F:=F68) (ek ⟨s47,s17,trivial⟩) Tryz.func68 fun a=>by kernel_rfl
def F25:=fe [(68,pf68)] []
def pf25:PF:=⟨[(.ptr,q5)],[.i64],.uniq,impl_reader_num⟩
theorem s25:Sd 25 pf25:=sf (F:=F25) (ek ⟨s68,trivial⟩) Tryz.func25 fun a=>by kernel_rfl
def F69:=fe [(68,pf68)] []
def pf69:PF:=⟨[R (.sl 5 .u8),R .i64],[.str,.i64,.bool],.uniq,impl_GetText⟩
theorem s69:Sd 69 pf69:=sf (F:=F69) (ek ⟨s68,trivial⟩) Tryz.func69 fun a=>by kernel_rfl
def F26:=fe [(69,pf69)] []
def pf26:PF:=⟨[(.ptr,q5)],[.str],.uniq,impl_reader_text⟩
theorem s26:Sd 26 pf26:=sf (F:=F26) (ek ⟨s69,trivial⟩) Tryz.func26 fun a=>by kernel_rfl
def F28:=fe [(25,pf25)] [(4,[.slot 3 (.sl 3 .i64) (.own true),.slot 5 .i64 (.imm false),.keep 0 q5 [2,0,0]])]
def pf28:PF:=⟨[(.ptr,q5)],[(.sl 3 .i64)],.uniq,impl_reader_nums⟩
theorem s28:Sd 28 pf28:=sf (F:=F28) (ek ⟨s25,trivial⟩) Tryz.func28 fun a=>by kernel_rfl
def F27:=fe [(25,pf25),(26,pf26),(28,pf28)] []
def pf27:PF:=⟨[(.ptr,q5)],[q2],.uniq,impl_reader_qc⟩
theorem s27:Sd 27 pf27:=sf (F:=F27) (ek ⟨s25,s26,s28,trivial⟩) Tryz.func27 fun a=>by kernel_rfl
def F8:=fe [(25,pf25),(26,pf26),(27,pf27),(28,pf28),(13,pf13)] []
def pf8:PF:=⟨[R (.pair .i64 .i64),R (.sl 5 .u8)],[q1,.bool],.uniq,impl_MsgOf⟩
theorem s8:Sd 8 pf8:=sf (F:=F8) (ek ⟨s25,s26,s27,s28,s13,trivial⟩) Tryz.func8 fun a=>by kernel_rfl
def F70:=fe [] [(3,[.slot 7 .i64 (.imm false),.slot 8 .i64 (.imm false)])]
def pf70:PF:=⟨[R (.sl 5 .u8),R .i64],[.i64,.i64,.bool],.uniq,spec_GetNum⟩
theorem s70:Sd 70 pf70:=sf (F:=F70) (ek trivial) Tryz.func70 fun a=>by kernel_rfl
def F29:=fe [(70,pf70)] []
def pf29:PF:=⟨[(.ptr,q5)],[.i64],.uniq,spec_l12Num⟩
theorem s29:Sd 29 pf29:=sf (F:=F29) (ek ⟨s70,trivial⟩) Tryz.func29 fun a=>by kernel_rfl
def F71:=fe [(70,pf70)] []
def pf71:PF:=⟨[R (.sl 5 .u8),R .i64],[.str,.i64,.bool],.uniq,spec_GetText⟩
theorem s71:Sd 71 pf71:=sf (F:=F71) (ek ⟨s70,trivial⟩) Tryz.func71 fun a=>by kernel_rfl
def F30:=fe [(71,pf71)] []
def pf30:PF:=⟨[(.ptr,q5)],[.str],.uniq,spec_l12Text⟩
theorem s30:Sd 30 pf30:=sf (F:=F30) (ek ⟨s71,trivial⟩) Tryz.func30 fun a=>by kernel_rfl
def F32:=fe [(29,pf29)] [(4,[.slot 3 (.sl 3 .i64) (.own true),.slot 5 .i64 (.imm false),.keep 0 q5 [2,0,0]])]
def pf32:PF:=⟨[(.ptr,q5)],[(.sl 3 .i64)],.uniq,spec_l12Who⟩
theorem s32:Sd 32 pf32:=sf (F:=F32) (ek ⟨s29,trivial⟩) Tryz.func32 fun a=>by kernel_rfl
def F31:=fe [(29,pf29),(30,pf30),(32,pf32)] []
def pf31:PF:=⟨[(.ptr,q5)],[q2],.uniq,spec_l12Qc⟩
theorem s31:Sd 31 pf31:=sf (F:=F31) (ek ⟨s29,s30,s32,trivial⟩) Tryz.func31 fun a=>by kernel_rfl
def F9:=fe [(29,pf29),(30,pf30),(31,pf31),(32,pf32),(14,pf14)] []
def pf9:PF:=⟨[R (.pair .i64 .i64),R (.sl 5 .u8)],[q1,.bool],.uniq,spec_MsgOf⟩
theorem s9:Sd 9 pf9:=sf (F:=F9) (ek ⟨s29,s30,s31,s32,s14,trivial⟩) Tryz.func9 fun a=>by kernel_rfl
def F74:=fe [(76,pf76)] []
def pf74:PF:=⟨[R (.pair .str q2)],[(.pair .str q2)],.uniq,spec_l8Copy⟩
theorem s74:Sd 74 pf74:=sf (F:=F74) (ek ⟨s76,trivial⟩) Tryz.func74 fun a=>by kernel_rfl
def F75:=fe [] []
def pf75:PF:=⟨[R q2],[q2],.uniq,spec_l10Copy⟩
theorem s75:Sd 75 pf75:=sf (F:=F75) (ek trivial) Tryz.func75 fun a=>by kernel_rfl
def F35:=fe [(74,pf74),(75,pf75),(76,pf76)] []
def pf35:PF:=⟨[R q1],[q1],.uniq,spec_l14Copy⟩
theorem s35:Sd 35 pf35:=sf (F:=F35) (ek ⟨s74,s75,s76,trivial⟩) Tryz.func35 fun a=>by kernel_rfl
def F10:FEnv:=⟨⟨TYS,[(22,pf22),(33,pf33),(34,pf34),(35,pf35)],EQS,[(21,pf21)],[],false,[],[],[],false⟩,[]⟩
def pf10:PF:=⟨[R (.sl 5 .u8)],[q1,q1],.uniq,spec_DrawMsgSame⟩
theorem s10:Sd 10 pf10:=sf (F:=F10) (envOK ⟨s22,s33,s34,s35,trivial⟩ ⟨s21,trivial⟩ trivial trivial trivial trivial) Tryz.func10 fun a=>by kernel_rfl
def F3:=fe [(4,pf4),(5,pf5),(6,pf6),(7,pf7),(8,pf8),(9,pf9),(10,pf10),(11,pf11),(12,pf12),(13,pf13),(14,pf14),(15,pf15)] []
def pf3:PF:=⟨[R (.sl 5 .u8)],[.bool],.uniq,laws_FnMessages⟩
theorem s3:Sd 3 pf3:=sf (F:=F3) (ek ⟨s4,s5,s6,s7,s8,s9,s10,s11,s12,s13,s14,s15,trivial⟩) Tryz.func3 fun a=>by kernel_rfl
end
end G448
