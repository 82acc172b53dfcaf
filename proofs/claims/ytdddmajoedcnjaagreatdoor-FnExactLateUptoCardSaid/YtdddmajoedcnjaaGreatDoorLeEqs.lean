/- That the printed functions are what the evaluator reckons. (Printed by our own program.) -/
import Derived.Test.YtdddmajoedcnjaaGreatDoorProg
import Derived.Test.YtdddmajoedcnjaaGreatDoorLeFns
import Derived.Test.YtdddmajoedcnjaaGreatDoorSh
import Derived.KernelRfl
set_option linter.unusedSimpArgs false
set_option linter.unusedVariables false
namespace G448
open Ev Go Go.Proofs
set_option maxRecDepth 100000
noncomputable section
abbrev q1:Ty:=(.pair .i64 (.pair .i64 (.pair (.pair .str (.pair .i64 (.pair .str (.sl 3 .i64)))) (.pair (.pair .i64 (.pair .str (.sl 3 .i64))) (.pair (.pair .i64 (.pair .str (.sl 3 .i64))) (.pair .i64 (.pair .i64 (.pair .i64 (.pair .i64 .i64)))))))))
abbrev q2:Ty:=(.pair .i64 (.pair .i64 (.pair .i64 (.pair (.pair .i64 (.pair .i64 (.pair (.pair .i64 (.pair .str (.sl 3 .i64))) .str))) (.pair (.sl 73 (.pair .i64 (.pair .i64 (.pair .i64 .i64)))) (.pair (.sl 72 (.pair .i64 (.pair .str (.sl 3 .i64)))) (.pair (.pair (.sl 5 .u8) .i64) (.sl 150 (.pair .i64 q1)))))))))
abbrev q3:Ty:=(.pair .i64 (.pair .str (.sl 3 .i64)))
abbrev q4:Ty:=(.pair .i64 (.pair .i64 (.pair .i64 .i64)))
abbrev q5:Ty:=(.pair .i64 (.pair .i64 (.pair q3 .str)))
abbrev q6:Ty:=(.pair (.sl 5 .u8) .i64)
abbrev q7:Ty:=(.sl 150 (.pair .i64 q1))
abbrev q8:Ty:=(.pair .i64 (.pair .i64 (.pair .i64 (.pair q5 (.pair (.sl 65 q4) (.pair (.sl 63 q3) (.pair q6 (.sl 139 (.pair .i64 q1)))))))))
abbrev q9:Ty:=(.sl 199 (.pair .i64 (.sl 73 q4)))
def TYS:List (Nat×TD):=[(3,⟨.i64,8,[],none⟩),(4,⟨.bool,1,[],none⟩),(5,⟨.u8,1,[],none⟩),(9,⟨.str,16,[],none⟩),(23,⟨(.pair .i64 .i64),16,[(0,3),(1,3)],none⟩),(24,⟨(.sl 3 .i64),24,[],none⟩),(26,⟨(.pair .i64 (.pair .str (.sl 3 .i64))),48,[(0,3),(1,9),(2,24)],none⟩),(28,⟨(.pair .i64 (.pair .i64 (.pair (.pair .i64 (.pair .str (.sl 3 .i64))) .str))),80,[(0,3),(1,3),(2,26),(5,9)],none⟩),(29,⟨(.sl 65 (.pair .i64 (.pair .i64 (.pair .i64 .i64)))),24,[],none⟩),(30,⟨(.sl 63 (.pair .i64 (.pair .str (.sl 3 .i64)))),24,[],none⟩),(31,⟨(.sl 5 .u8),24,[],none⟩),(33,⟨(.pair (.sl 5 .u8) .i64),32,[(0,31),(1,3)],none⟩),(34,⟨(.sl 139 (.pair .i64 (.pair .i64 (.pair .i64 (.pair (.pair .str (.pair .i64 (.pair .str (.sl 3 .i64)))) (.pair (.pair .i64 (.pair .str (.sl 3 .i64))) (.pair (.pair .i64 (.pair .str (.sl 3 .i64))) (.pair .i64 (.pair .i64 (.pair .i64 (.pair .i64 .i64))))))))))),24,[],none⟩),(36,⟨(.pair .i64 (.pair .i64 (.pair .i64 (.pair (.pair .i64 (.pair .i64 (.pair (.pair .i64 (.pair .str (.sl 3 .i64))) .str))) (.pair (.sl 65 (.pair .i64 (.pair .i64 (.pair .i64 .i64)))) (.pair (.sl 63 (.pair .i64 (.pair .str (.sl 3 .i64)))) (.pair (.pair (.sl 5 .u8) .i64) (.sl 139 (.pair .i64 (.pair .i64 (.pair .i64 (.pair (.pair .str (.pair .i64 (.pair .str (.sl 3 .i64)))) (.pair (.pair .i64 (.pair .str (.sl 3 .i64))) (.pair (.pair .i64 (.pair .str (.sl 3 .i64))) (.pair .i64 (.pair .i64 (.pair .i64 (.pair .i64 .i64)))))))))))))))))),208,[(0,3),(1,3),(2,3),(3,28),(9,29),(10,30),(11,33),(13,34)],none⟩),(38,⟨(.pair .i64 (.pair .str (.sl 3 .i64))),48,[(0,3),(1,9),(2,24)],none⟩),(40,⟨(.pair .i64 (.pair .i64 (.pair (.pair .i64 (.pair .str (.sl 3 .i64))) .str))),80,[(0,3),(1,3),(2,38),(5,9)],none⟩),(41,⟨(.sl 73 (.pair .i64 (.pair .i64 (.pair .i64 .i64)))),24,[],none⟩),(42,⟨(.sl 72 (.pair .i64 (.pair .str (.sl 3 .i64)))),24,[],none⟩),(43,⟨(.pair (.sl 5 .u8) .i64),32,[(0,31),(1,3)],none⟩),(44,⟨(.sl 150 (.pair .i64 (.pair .i64 (.pair .i64 (.pair (.pair .str (.pair .i64 (.pair .str (.sl 3 .i64)))) (.pair (.pair .i64 (.pair .str (.sl 3 .i64))) (.pair (.pair .i64 (.pair .str (.sl 3 .i64))) (.pair .i64 (.pair .i64 (.pair .i64 (.pair .i64 .i64))))))))))),24,[],none⟩),(46,⟨(.pair .i64 (.pair .i64 (.pair .i64 (.pair (.pair .i64 (.pair .i64 (.pair (.pair .i64 (.pair .str (.sl 3 .i64))) .str))) (.pair (.sl 73 (.pair .i64 (.pair .i64 (.pair .i64 .i64)))) (.pair (.sl 72 (.pair .i64 (.pair .str (.sl 3 .i64)))) (.pair (.pair (.sl 5 .u8) .i64) (.sl 150 (.pair .i64 (.pair .i64 (.pair .i64 (.pair (.pair .str (.pair .i64 (.pair .str (.sl 3 .i64)))) (.pair (.pair .i64 (.pair .str (.sl 3 .i64))) (.pair (.pair .i64 (.pair .str (.sl 3 .i64))) (.pair .i64 (.pair .i64 (.pair .i64 (.pair .i64 .i64)))))))))))))))))),208,[(0,3),(1,3),(2,3),(3,40),(9,41),(10,42),(11,43),(13,44)],none⟩),(49,⟨(.pair .i64 .i64),16,[(0,3),(1,3)],none⟩),(62,⟨(.pair .str (.pair .i64 (.pair .str (.sl 3 .i64)))),64,[(0,9),(1,26)],none⟩),(63,⟨(.pair .i64 (.pair .str (.sl 3 .i64))),48,[(0,3),(1,9),(2,24)],none⟩),(65,⟨(.pair .i64 (.pair .i64 (.pair .i64 .i64))),32,[(0,3),(1,3),(2,3),(3,3)],none⟩),(67,⟨(.pair .i64 (.pair .i64 (.pair (.pair .str (.pair .i64 (.pair .str (.sl 3 .i64)))) (.pair (.pair .i64 (.pair .str (.sl 3 .i64))) (.pair (.pair .i64 (.pair .str (.sl 3 .i64))) (.pair .i64 (.pair .i64 (.pair .i64 (.pair .i64 .i64))))))))),216,[(0,3),(1,3),(2,62),(6,63),(9,26),(12,3),(13,65)],none⟩),(71,⟨(.pair .str (.pair .i64 (.pair .str (.sl 3 .i64)))),64,[(0,9),(1,38)],none⟩),(72,⟨(.pair .i64 (.pair .str (.sl 3 .i64))),48,[(0,3),(1,9),(2,24)],none⟩),(73,⟨(.pair .i64 (.pair .i64 (.pair .i64 .i64))),32,[(0,3),(1,3),(2,3),(3,3)],none⟩),(75,⟨(.pair .i64 (.pair .i64 (.pair (.pair .str (.pair .i64 (.pair .str (.sl 3 .i64)))) (.pair (.pair .i64 (.pair .str (.sl 3 .i64))) (.pair (.pair .i64 (.pair .str (.sl 3 .i64))) (.pair .i64 (.pair .i64 (.pair .i64 (.pair .i64 .i64))))))))),216,[(0,3),(1,3),(2,71),(6,72),(9,38),(12,3),(13,73)],none⟩),(139,⟨(.pair .i64 (.pair .i64 (.pair .i64 (.pair (.pair .str (.pair .i64 (.pair .str (.sl 3 .i64)))) (.pair (.pair .i64 (.pair .str (.sl 3 .i64))) (.pair (.pair .i64 (.pair .str (.sl 3 .i64))) (.pair .i64 (.pair .i64 (.pair .i64 (.pair .i64 .i64)))))))))),224,[(0,3),(1,67)],none⟩),(150,⟨(.pair .i64 (.pair .i64 (.pair .i64 (.pair (.pair .str (.pair .i64 (.pair .str (.sl 3 .i64)))) (.pair (.pair .i64 (.pair .str (.sl 3 .i64))) (.pair (.pair .i64 (.pair .str (.sl 3 .i64))) (.pair .i64 (.pair .i64 (.pair .i64 (.pair .i64 .i64)))))))))),224,[(0,3),(1,75)],none⟩),(195,⟨(.sl 199 (.pair .i64 (.sl 73 (.pair .i64 (.pair .i64 (.pair .i64 .i64)))))),24,[],none⟩),(199,⟨(.pair .i64 (.sl 73 (.pair .i64 (.pair .i64 (.pair .i64 .i64))))),32,[(0,3),(1,41)],none⟩),(216,⟨(.sl 9 .str),24,[],none⟩),(240,⟨(.sl 3 .i64),32,[],some 4⟩)]
def EQS:List Nat:=[73]
theorem tysOK:tysOk Tryz.prog TYS=true:=by kernel_rfl
theorem tilesOK:tilesOk TYS=true:=by kernel_rfl
theorem eqsOK:EQS.all (eqOk Tryz.prog TYS)=true:=by kernel_rfl
theorem mixedOK:Tryz.prog.follows .mixedOrders=true:=by kernel_rfl
theorem envOK {fns:List (Nat×PF)} {news:List (Nat×NF)} {muts:List (Nat×MF)} {frz:Bool} {conds joins:List (Nat×PF)} (h:AllS Tryz.prog GLB fns) (h2:AllN Tryz.prog GLB news) (h3:AllM Tryz.prog GLB muts) (h4:AllC Tryz.prog GLB conds) (h5:AllJ Tryz.prog GLB joins):EnvOk Tryz.prog GLB ⟨TYS,fns,EQS,news,muts,frz,conds,joins⟩:=envOk_of mixedOK tysOK eqsOK h h2 h3 h4 h5
def fe (fns:List (Nat×PF)) (ls:List (Nat×List Ev.Item)):FEnv:=⟨⟨TYS,fns,EQS,[],[],false,[],[]⟩,ls⟩
theorem ek {fns:List (Nat×PF)} (h:AllS Tryz.prog GLB fns):EnvOk Tryz.prog GLB ⟨TYS,fns,EQS,[],[],false,[],[]⟩:=envOK h trivial trivial trivial trivial
abbrev R (t:Ty):PK×Ty:=(.rd,t)
abbrev Sd (f:Nat) (pf:PF):Prop:=Sound Tryz.prog GLB f pf
theorem sf {F:FEnv} {f:FuncId} {fn:Func} {pf:PF} (hE:EnvOk Tryz.prog GLB F.E) (hf:Tryz.prog.funcs[f]?=some fn) (he : ∀ a,evFun F fn pf.params pf.rets pf.rk a=pf.fn a) (hn:(fn.name == "runtime.NumGoroutine")=false:=by kernel_rfl):Sd f pf:=sound_fun hE hf hn fun a o h=>(he a).trans h
def F61:=fe [] []
def pf61:PF:=⟨[R (.sl 3 .i64),R .i64],[.i64],.uniq,laws_szIntS⟩
theorem s61:Sd 61 pf61:=sf (F:=F61) (ek trivial) Tryz.func61 fun a=>by kernel_rfl
def F14:=fe [(61,pf61)] []
def pf14:PF:=⟨[R q3,R .i64],[.i64],.uniq,laws_szQc⟩
theorem s14:Sd 14 pf14:=sf (F:=F14) (ek ⟨s61,trivial⟩) Tryz.func14 fun a=>by kernel_rfl
def F26:=fe [(14,pf14)] []
def pf26:PF:=⟨[R q5,R .i64],[.i64],.uniq,laws_szSafe⟩
theorem s26:Sd 26 pf26:=sf (F:=F26) (ek ⟨s14,trivial⟩) Tryz.func26 fun a=>by kernel_rfl
def F27:=fe [] []
def pf27:PF:=⟨[R (.sl 65 q4),R .i64],[.i64],.uniq,laws_szTxS⟩
theorem s27:Sd 27 pf27:=sf (F:=F27) (ek trivial) Tryz.func27 fun a=>by kernel_rfl
def F79:=fe [(61,pf61)] []
def pf79:PF:=⟨[R q3,R .i64],[.i64],.uniq,laws_szPart⟩
theorem s79:Sd 79 pf79:=sf (F:=F79) (ek ⟨s61,trivial⟩) Tryz.func79 fun a=>by kernel_rfl
def F28:=fe [(79,pf79)] [(5,[.slot 1 .i64 (.imm false),.slot 5 .i64 (.imm false)])]
def pf28:PF:=⟨[R (.sl 63 q3),R .i64],[.i64],.uniq,laws_szPartS⟩
theorem s28:Sd 28 pf28:=sf (F:=F28) (ek ⟨s79,trivial⟩) Tryz.func28 fun a=>by kernel_rfl
def F100:=fe [] []
def pf100:PF:=⟨[R (.sl 5 .u8),R .i64],[.i64],.uniq,laws_szByteS⟩
theorem s100:Sd 100 pf100:=sf (F:=F100) (ek trivial) Tryz.func100 fun a=>by kernel_rfl
def F29:=fe [(100,pf100)] []
def pf29:PF:=⟨[R q6,R .i64],[.i64],.uniq,laws_szDisk⟩
theorem s29:Sd 29 pf29:=sf (F:=F29) (ek ⟨s100,trivial⟩) Tryz.func29 fun a=>by kernel_rfl
def F78:=fe [(14,pf14)] []
def pf78:PF:=⟨[R (.pair .str q3),R .i64],[.i64],.uniq,laws_szBlock⟩
theorem s78:Sd 78 pf78:=sf (F:=F78) (ek ⟨s14,trivial⟩) Tryz.func78 fun a=>by kernel_rfl
def F20:=fe [(78,pf78),(79,pf79),(14,pf14)] []
def pf20:PF:=⟨[R q1,R .i64],[.i64],.uniq,laws_szMsg⟩
theorem s20:Sd 20 pf20:=sf (F:=F20) (ek ⟨s78,s79,s14,trivial⟩) Tryz.func20 fun a=>by kernel_rfl
def F101:=fe [(20,pf20)] []
def pf101:PF:=⟨[R (.pair .i64 q1),R .i64],[.i64],.uniq,laws_szPost⟩
theorem s101:Sd 101 pf101:=sf (F:=F101) (ek ⟨s20,trivial⟩) Tryz.func101 fun a=>by kernel_rfl
def F30:=fe [(101,pf101)] [(5,[.slot 1 .i64 (.imm false),.slot 5 .i64 (.imm false)])]
def pf30:PF:=⟨[R (.sl 139 (.pair .i64 q1)),R .i64],[.i64],.uniq,laws_szPostS⟩
theorem s30:Sd 30 pf30:=sf (F:=F30) (ek ⟨s101,trivial⟩) Tryz.func30 fun a=>by kernel_rfl
def F6:=fe [(26,pf26),(27,pf27),(28,pf28),(29,pf29),(30,pf30)] []
def pf6:PF:=⟨[R q8,R .i64],[.i64],.uniq,laws_szRep⟩
theorem s6:Sd 6 pf6:=sf (F:=F6) (ek ⟨s26,s27,s28,s29,s30,trivial⟩) Tryz.func6 fun a=>by kernel_rfl
def F8:=fe [] []
def pf8:PF:=⟨[R (.pair .i64 .i64)],[(.pair .i64 .i64)],.uniq,laws_toConf⟩
theorem s8:Sd 8 pf8:=sf (F:=F8) (ek trivial) Tryz.func8 fun a=>by kernel_rfl
def F70:=fe [] [(3,[.slot 4 .i64 (.imm false),.row 1 3 .i64 (.own true)])]
def pf70:PF:=⟨[R (.sl 3 .i64)],[(.sl 3 .i64)],.uniq,laws_toIntS⟩
theorem s70:Sd 70 pf70:=sf (F:=F70) (ek trivial) Tryz.func70 fun a=>by kernel_rfl
def F16:=fe [(70,pf70)] []
def pf16:PF:=⟨[R q3],[q3],.uniq,laws_toQc⟩
theorem s16:Sd 16 pf16:=sf (F:=F16) (ek ⟨s70,trivial⟩) Tryz.func16 fun a=>by kernel_rfl
def F36:=fe [(16,pf16)] []
def pf36:PF:=⟨[R q5],[q5],.uniq,laws_toSafe⟩
theorem s36:Sd 36 pf36:=sf (F:=F36) (ek ⟨s16,trivial⟩) Tryz.func36 fun a=>by kernel_rfl
def F87:=fe [] []
def pf87:PF:=⟨[R q4],[q4],.uniq,laws_toTx⟩
theorem s87:Sd 87 pf87:=sf (F:=F87) (ek trivial) Tryz.func87 fun a=>by kernel_rfl
def F37:=fe [(87,pf87)] [(3,[.slot 4 .i64 (.imm false),.row 1 73 q4 (.own true)])]
def pf37:PF:=⟨[R (.sl 65 q4)],[(.sl 73 q4)],.uniq,laws_toTxS⟩
theorem s37:Sd 37 pf37:=sf (F:=F37) (ek ⟨s87,trivial⟩) Tryz.func37 fun a=>by kernel_rfl
def F86:=fe [(70,pf70)] []
def pf86:PF:=⟨[R q3],[q3],.uniq,laws_toPart⟩
theorem s86:Sd 86 pf86:=sf (F:=F86) (ek ⟨s70,trivial⟩) Tryz.func86 fun a=>by kernel_rfl
def F38:=fe [(86,pf86)] [(3,[.slot 4 .i64 (.imm false),.row 1 72 q3 (.own true)])]
def pf38:PF:=⟨[R (.sl 63 q3)],[(.sl 72 q3)],.uniq,laws_toPartS⟩
theorem s38:Sd 38 pf38:=sf (F:=F38) (ek ⟨s86,trivial⟩) Tryz.func38 fun a=>by kernel_rfl
def F116:=fe [] [(3,[.slot 4 .i64 (.imm false),.row 1 5 .u8 (.own true)])]
def pf116:PF:=⟨[R (.sl 5 .u8)],[(.sl 5 .u8)],.uniq,laws_toByteS⟩
theorem s116:Sd 116 pf116:=sf (F:=F116) (ek trivial) Tryz.func116 fun a=>by kernel_rfl
def F39:=fe [(116,pf116)] []
def pf39:PF:=⟨[R q6],[q6],.uniq,laws_toDisk⟩
theorem s39:Sd 39 pf39:=sf (F:=F39) (ek ⟨s116,trivial⟩) Tryz.func39 fun a=>by kernel_rfl
def F85:=fe [(16,pf16)] []
def pf85:PF:=⟨[R (.pair .str q3)],[(.pair .str q3)],.uniq,laws_toBlock⟩
theorem s85:Sd 85 pf85:=sf (F:=F85) (ek ⟨s16,trivial⟩) Tryz.func85 fun a=>by kernel_rfl
def F22:=fe [(85,pf85),(86,pf86),(16,pf16),(87,pf87)] []
def pf22:PF:=⟨[R q1],[q1],.uniq,laws_toMsg⟩
theorem s22:Sd 22 pf22:=sf (F:=F22) (ek ⟨s85,s86,s16,s87,trivial⟩) Tryz.func22 fun a=>by kernel_rfl
def F117:=fe [(22,pf22)] []
def pf117:PF:=⟨[R (.pair .i64 q1)],[(.pair .i64 q1)],.uniq,laws_toPost⟩
theorem s117:Sd 117 pf117:=sf (F:=F117) (ek ⟨s22,trivial⟩) Tryz.func117 fun a=>by kernel_rfl
def F40:=fe [(117,pf117)] [(3,[.slot 4 .i64 (.imm false),.row 1 150 (.pair .i64 q1) (.own true)])]
def pf40:PF:=⟨[R (.sl 139 (.pair .i64 q1))],[q7],.uniq,laws_toPostS⟩
theorem s40:Sd 40 pf40:=sf (F:=F40) (ek ⟨s117,trivial⟩) Tryz.func40 fun a=>by kernel_rfl
def F9:=fe [(36,pf36),(37,pf37),(38,pf38),(39,pf39),(40,pf40)] []
def pf9:PF:=⟨[R q8],[q2],.uniq,laws_toRep⟩
theorem s9:Sd 9 pf9:=sf (F:=F9) (ek ⟨s36,s37,s38,s39,s40,trivial⟩) Tryz.func9 fun a=>by kernel_rfl
def F186:=fe [] []
def pf186:PF:=⟨[R q3],[q3],.uniq,spec_l7Copy⟩
theorem s186:Sd 186 pf186:=sf (F:=F186) (ek trivial) Tryz.func186 fun a=>by kernel_rfl
def F102:=fe [(186,pf186)] []
def pf102:PF:=⟨[R q5],[q5],.uniq,spec_l11Copy⟩
theorem s102:Sd 102 pf102:=sf (F:=F102) (ek ⟨s186,trivial⟩) Tryz.func102 fun a=>by kernel_rfl
def F111:=fe [] []
def pf111:PF:=⟨[R q3],[q3],.uniq,spec_l10Copy⟩
theorem s111:Sd 111 pf111:=sf (F:=F111) (ek trivial) Tryz.func111 fun a=>by kernel_rfl
def F103:=fe [(111,pf111)] [(3,[.slot 3 (.sl 72 q3) (.own true),.slot 4 .i64 (.imm false)])]
def pf103:PF:=⟨[R (.sl 72 q3)],[(.sl 72 q3)],.uniq,spec_l10Table⟩
theorem s103:Sd 103 pf103:=sf (F:=F103) (ek ⟨s111,trivial⟩) Tryz.func103 fun a=>by kernel_rfl
def F104:=fe [] []
def pf104:PF:=⟨[R q6],[q6],.uniq,spec_l13Copy⟩
theorem s104:Sd 104 pf104:=sf (F:=F104) (ek trivial) Tryz.func104 fun a=>by kernel_rfl
def F189:=fe [(186,pf186)] []
def pf189:PF:=⟨[R (.pair .str q3)],[(.pair .str q3)],.uniq,spec_l8Copy⟩
theorem s189:Sd 189 pf189:=sf (F:=F189) (ek ⟨s186,trivial⟩) Tryz.func189 fun a=>by kernel_rfl
def F115:=fe [(189,pf189),(111,pf111),(186,pf186)] []
def pf115:PF:=⟨[R q1],[q1],.uniq,spec_l14Copy⟩
theorem s115:Sd 115 pf115:=sf (F:=F115) (ek ⟨s189,s111,s186,trivial⟩) Tryz.func115 fun a=>by kernel_rfl
def F105:=fe [(115,pf115)] [(3,[.slot 3 q7 (.own true),.slot 4 .i64 (.imm false)])]
def pf105:PF:=⟨[R q7],[q7],.uniq,spec_l15Posts⟩
theorem s105:Sd 105 pf105:=sf (F:=F105) (ek ⟨s115,trivial⟩) Tryz.func105 fun a=>by kernel_rfl
def F31:=fe [(102,pf102),(103,pf103),(104,pf104),(105,pf105)] []
def pf31:PF:=⟨[R q2],[q2],.uniq,spec_l15Copy⟩
theorem s31:Sd 31 pf31:=sf (F:=F31) (ek ⟨s102,s103,s104,s105,trivial⟩) Tryz.func31 fun a=>by kernel_rfl
def F62:=fe [] []
def pf62:PF:=⟨[R .i64,R .i64,R .i64],[.bool],.uniq,spec_l1In⟩
theorem s62:Sd 62 pf62:=sf (F:=F62) (ek trivial) Tryz.func62 fun a=>by kernel_rfl
def F106:=fe [(62,pf62)] []
def pf106:PF:=⟨[R (.pair .i64 .i64)],[.bool],.uniq,spec_ConfOk⟩
theorem s106:Sd 106 pf106:=sf (F:=F106) (ek ⟨s62,trivial⟩) Tryz.func106 fun a=>by kernel_rfl
def F236:=fe [] [(4,[.slot 5 (.sl 9 .str) (.own true),.slot 6 .i64 (.imm false),.slot 7 .i64 (.imm false)])]
def pf236:PF:=⟨[R .str,R .u8],[(.sl 9 .str)],.uniq,spec_Split⟩
theorem s236:Sd 236 pf236:=sf (F:=F236) (ek trivial) Tryz.func236 fun a=>by kernel_rfl
def F237:=fe [] [(2,[.slot 7 .i64 (.imm false)])]
def pf237:PF:=⟨[R .str,R .u8],[.str,.str,.bool],.uniq,spec_l2Cut⟩
theorem s237:Sd 237 pf237:=sf (F:=F237) (ek trivial) Tryz.func237 fun a=>by kernel_rfl
def F270:=fe [] [(5,[.slot 0 .i64 (.imm false),.slot 4 .str (.imm false)])]
def pf270:PF:=⟨[R .i64],[.str],.uniq,spec_Digits⟩
theorem s270:Sd 270 pf270:=sf (F:=F270) (ek trivial) Tryz.func270 fun a=>by kernel_rfl
def F238:=fe [(270,pf270)] [(5,[.slot 4 .i64 (.imm false),.slot 5 .i64 (.imm false)])]
def pf238:PF:=⟨[R .str],[.i64,.bool],.uniq,spec_Number⟩
theorem s238:Sd 238 pf238:=sf (F:=F238) (ek ⟨s270,trivial⟩) Tryz.func238 fun a=>by kernel_rfl
def F167:=fe [(62,pf62)] []
def pf167:PF:=⟨[R q4],[.bool],.uniq,spec_TxOk⟩
theorem s167:Sd 167 pf167:=sf (F:=F167) (ek ⟨s62,trivial⟩) Tryz.func167 fun a=>by kernel_rfl
def F285:=fe [(167,pf167),(270,pf270)] []
def pf285:PF:=⟨[R q4],[.str],.uniq,spec_TxText⟩
theorem s285:Sd 285 pf285:=sf (F:=F285) (ek ⟨s167,s270,trivial⟩) Tryz.func285 fun a=>by kernel_rfl
def F271:=fe [(237,pf237),(238,pf238),(285,pf285)] []
def pf271:PF:=⟨[R .str],[q4,.bool],.uniq,spec_TxOf⟩
theorem s271:Sd 271 pf271:=sf (F:=F271) (ek ⟨s237,s238,s285,trivial⟩) Tryz.func271 fun a=>by kernel_rfl
def F239:=fe [(236,pf236),(271,pf271)] [(6,[.slot 4 (.sl 73 q4) (.own true),.slot 6 .i64 (.imm false)])]
def pf239:PF:=⟨[R .str],[(.sl 73 q4),.bool],.uniq,spec_TxsOf⟩
theorem s239:Sd 239 pf239:=sf (F:=F239) (ek ⟨s236,s271,trivial⟩) Tryz.func239 fun a=>by kernel_rfl
def F199:=fe [(236,pf236),(237,pf237),(238,pf238),(239,pf239)] [(10,[.slot 5 q9 (.own true),.slot 7 .i64 (.imm false),.slot 8 .i64 (.imm false)])]
def pf199:PF:=⟨[R .str],[q9,.bool],.uniq,spec_Steps⟩
theorem s199:Sd 199 pf199:=sf (F:=F199) (ek ⟨s236,s237,s238,s239,trivial⟩) Tryz.func199 fun a=>by kernel_rfl
def F141:=fe [(199,pf199)] []
def pf141:PF:=⟨[R .str],[.bool],.uniq,spec_NameOk⟩
theorem s141:Sd 141 pf141:=sf (F:=F141) (ek ⟨s199,trivial⟩) Tryz.func141 fun a=>by kernel_rfl
def F142:=fe [(199,pf199)] []
def pf142:PF:=⟨[R .str],[.i64],.uniq,spec_ViewOf⟩
theorem s142:Sd 142 pf142:=sf (F:=F142) (ek ⟨s199,trivial⟩) Tryz.func142 fun a=>by kernel_rfl
def F143:=fe [] [(2,[.slot 5 .i64 (.imm false)])]
def pf143:PF:=⟨[R .i64,R (.sl 3 .i64)],[.bool],.uniq,spec_SetOk⟩
theorem s143:Sd 143 pf143:=sf (F:=F143) (ek trivial) Tryz.func143 fun a=>by kernel_rfl
def F67:=fe [(106,pf106)] []
def pf67:PF:=⟨[R (.pair .i64 .i64)],[.i64],.uniq,spec_Quorum⟩
theorem s67:Sd 67 pf67:=sf (F:=F67) (ek ⟨s106,trivial⟩) Tryz.func67 fun a=>by kernel_rfl
def F63:=fe [(106,pf106),(141,pf141),(142,pf142),(143,pf143),(67,pf67)] []
def pf63:PF:=⟨[R (.pair .i64 .i64),R q3],[.bool],.uniq,spec_QcOk⟩
theorem s63:Sd 63 pf63:=sf (F:=F63) (ek ⟨s106,s141,s142,s143,s67,trivial⟩) Tryz.func63 fun a=>by kernel_rfl
def F107:=fe [(62,pf62),(63,pf63),(141,pf141)] []
def pf107:PF:=⟨[R (.pair .i64 .i64),R q5],[.bool],.uniq,spec_SafeOk⟩
theorem s107:Sd 107 pf107:=sf (F:=F107) (ek ⟨s62,s63,s141,trivial⟩) Tryz.func107 fun a=>by kernel_rfl
def F187:=fe [] []
def pf187:PF:=⟨[R q4,R q4],[.bool],.uniq,spec_l4Before⟩
theorem s187:Sd 187 pf187:=sf (F:=F187) (ek trivial) Tryz.func187 fun a=>by kernel_rfl
def F108:=fe [(167,pf167),(187,pf187)] [(2,[.slot 3 .i64 (.imm false)])]
def pf108:PF:=⟨[R (.sl 73 q4)],[.bool],.uniq,spec_PoolOk⟩
theorem s108:Sd 108 pf108:=sf (F:=F108) (ek ⟨s167,s187,trivial⟩) Tryz.func108 fun a=>by kernel_rfl
def F114:=fe [(106,pf106),(62,pf62),(143,pf143),(141,pf141),(142,pf142)] []
def pf114:PF:=⟨[R (.pair .i64 .i64),R q3],[.bool],.uniq,spec_PartOk⟩
theorem s114:Sd 114 pf114:=sf (F:=F114) (ek ⟨s106,s62,s143,s141,s142,trivial⟩) Tryz.func114 fun a=>by kernel_rfl
def F112:=fe [] []
def pf112:PF:=⟨[R q3,R q3],[.bool],.uniq,spec_l10Before⟩
theorem s112:Sd 112 pf112:=sf (F:=F112) (ek trivial) Tryz.func112 fun a=>by kernel_rfl
def F109:=fe [(114,pf114),(112,pf112)] [(2,[.slot 5 .i64 (.imm false)])]
def pf109:PF:=⟨[R (.pair .i64 .i64),R (.sl 72 q3)],[.bool],.uniq,spec_TableOk⟩
theorem s109:Sd 109 pf109:=sf (F:=F109) (ek ⟨s114,s112,trivial⟩) Tryz.func109 fun a=>by kernel_rfl
def F110:=fe [(62,pf62)] []
def pf110:PF:=⟨[R q6],[.bool],.uniq,spec_DiskOk⟩
theorem s110:Sd 110 pf110:=sf (F:=F110) (ek ⟨s62,trivial⟩) Tryz.func110 fun a=>by kernel_rfl
def F240:=fe [] [(2,[.slot 5 .i64 (.imm false)])]
def pf240:PF:=⟨[R (.sl 3 .i64),R (.sl 3 .i64)],[.bool],.uniq,spec_l7Ints⟩
theorem s240:Sd 240 pf240:=sf (F:=F240) (ek trivial) Tryz.func240 fun a=>by kernel_rfl
def F200:=fe [(240,pf240)] []
def pf200:PF:=⟨[R q3,R q3],[.bool],.uniq,spec_QcSame⟩
theorem s200:Sd 200 pf200:=sf (F:=F200) (ek ⟨s240,trivial⟩) Tryz.func200 fun a=>by kernel_rfl
def F252:=fe [(200,pf200)] []
def pf252:PF:=⟨[R (.pair .str q3),R (.pair .str q3)],[.bool],.uniq,spec_BlockSame⟩
theorem s252:Sd 252 pf252:=sf (F:=F252) (ek ⟨s200,trivial⟩) Tryz.func252 fun a=>by kernel_rfl
def F253:=fe [(240,pf240)] []
def pf253:PF:=⟨[R q3,R q3],[.bool],.uniq,spec_l14Part⟩
theorem s253:Sd 253 pf253:=sf (F:=F253) (ek ⟨s240,trivial⟩) Tryz.func253 fun a=>by kernel_rfl
def F210:=fe [(252,pf252),(253,pf253),(200,pf200)] []
def pf210:PF:=⟨[R q1,R q1],[.bool],.uniq,spec_MsgSame⟩
theorem s210:Sd 210 pf210:=sf (F:=F210) (ek ⟨s252,s253,s200,trivial⟩) Tryz.func210 fun a=>by kernel_rfl
def F165:=fe [(210,pf210)] []
def pf165:PF:=⟨[R q1],[.bool],.uniq,spec_l14Zero⟩
theorem s165:Sd 165 pf165:=sf (F:=F165) (ek ⟨s210,trivial⟩) Tryz.func165 fun a=>by kernel_rfl
def F68:=fe [] []
def pf68:PF:=⟨[R .i64,R .i64],[.i64],.uniq,spec_l1Max⟩
theorem s68:Sd 68 pf68:=sf (F:=F68) (ek trivial) Tryz.func68 fun a=>by kernel_rfl
def F148:=fe [(141,pf141),(68,pf68)] [(4,[.slot 3 .i64 (.imm false)])]
def pf148:PF:=⟨[R .str],[.str],.uniq,spec_UpOf⟩
theorem s148:Sd 148 pf148:=sf (F:=F148) (ek ⟨s141,s68,trivial⟩) Tryz.func148 fun a=>by kernel_rfl
def F166:=fe [(63,pf63),(141,pf141),(148,pf148)] []
def pf166:PF:=⟨[R (.pair .i64 .i64),R (.pair .str q3)],[.bool],.uniq,spec_BlockOk⟩
theorem s166:Sd 166 pf166:=sf (F:=F166) (ek ⟨s63,s141,s148,trivial⟩) Tryz.func166 fun a=>by kernel_rfl
def F80:=fe [(106,pf106),(165,pf165),(166,pf166),(114,pf114),(62,pf62),(63,pf63),(167,pf167)] []
def pf80:PF:=⟨[R (.pair .i64 .i64),R q1],[.bool],.uniq,spec_MsgOk⟩
theorem s80:Sd 80 pf80:=sf (F:=F80) (ek ⟨s106,s165,s166,s114,s62,s63,s167,trivial⟩) Tryz.func80 fun a=>by kernel_rfl
def F32:=fe [(106,pf106),(62,pf62),(107,pf107),(108,pf108),(109,pf109),(110,pf110),(80,pf80)] [(4,[.slot 5 .i64 (.imm false)])]
def pf32:PF:=⟨[R (.pair .i64 .i64),R q2],[.bool],.uniq,spec_RepOk⟩
theorem s32:Sd 32 pf32:=sf (F:=F32) (ek ⟨s106,s62,s107,s108,s109,s110,s80,trivial⟩) Tryz.func32 fun a=>by kernel_rfl
def F33:=fe [(106,pf106)] []
def pf33:PF:=⟨[R (.pair .i64 .i64),R .i64],[.i64],.uniq,spec_Root⟩
theorem s33:Sd 33 pf33:=sf (F:=F33) (ek ⟨s106,trivial⟩) Tryz.func33 fun a=>by kernel_rfl
def F265:=fe [] [(2,[.slot 5 .i64 (.imm false)])]
def pf265:PF:=⟨[R (.sl 3 .i64),R .i64],[.bool],.uniq,spec_SetHas⟩
theorem s265:Sd 265 pf265:=sf (F:=F265) (ek trivial) Tryz.func265 fun a=>by kernel_rfl
def F231:=fe [(265,pf265)] [(4,[.slot 5 .i64 (.imm false)])]
def pf231:PF:=⟨[R (.sl 3 .i64),R .i64],[(.sl 3 .i64)],.uniq,spec_SetAdd⟩
theorem s231:Sd 231 pf231:=sf (F:=F231) (ek ⟨s265,trivial⟩) Tryz.func231 fun a=>by kernel_rfl
def F188:=fe [(231,pf231)] [(3,[.slot 5 (.sl 3 .i64) (.own true),.slot 6 .i64 (.imm false)]),(7,[.slot 5 (.sl 3 .i64) (.own true),.slot 7 .i64 (.imm false)])]
def pf188:PF:=⟨[R (.sl 3 .i64),R (.sl 3 .i64)],[(.sl 3 .i64)],.uniq,spec_SetJoin⟩
theorem s188:Sd 188 pf188:=sf (F:=F188) (ek ⟨s231,trivial⟩) Tryz.func188 fun a=>by kernel_rfl
def F113:=fe [(188,pf188)] []
def pf113:PF:=⟨[R q3,R q3],[q3,.bool],.uniq,spec_PartJoin⟩
theorem s113:Sd 113 pf113:=sf (F:=F113) (ek ⟨s188,trivial⟩) Tryz.func113 fun a=>by kernel_rfl
def F34:=fe [(111,pf111),(112,pf112),(113,pf113),(109,pf109),(114,pf114),(103,pf103)] [(4,[.slot 8 (.sl 72 q3) (.own true),.slot 9 .bool (.imm false),.slot 10 .i64 (.imm false)])]
def pf34:PF:=⟨[R (.pair .i64 .i64),R (.sl 72 q3),R q3],[(.sl 72 q3),.bool],.uniq,spec_TableAdd⟩
theorem s34:Sd 34 pf34:=sf (F:=F34) (ek ⟨s111,s112,s113,s109,s114,s103,trivial⟩) Tryz.func34 fun a=>by kernel_rfl
def F35:=fe [(80,pf80),(62,pf62),(115,pf115)] []
def pf35:PF:=⟨[R (.pair .i64 .i64),(.own,q2),R .i64,R q1],[q2,.bool],.own,spec_l16Tell⟩
theorem s35:Sd 35 pf35:=sf (F:=F35) (ek ⟨s80,s62,s115,trivial⟩) Tryz.func35 fun a=>by kernel_rfl
def F7:=fe [(31,pf31),(32,pf32),(33,pf33),(34,pf34),(35,pf35)] []
def pf7:PF:=⟨[R (.pair .i64 .i64),R q2],[q2,.bool],.own,spec_Late⟩
theorem s7:Sd 7 pf7:=sf (F:=F7) (ek ⟨s31,s32,s33,s34,s35,trivial⟩) Tryz.func7 fun a=>by kernel_rfl
def F71:=fe [] []
def pf71:PF:=⟨[R .i64,R .i64,R .i64],[.bool],.uniq,impl_within⟩
theorem s71:Sd 71 pf71:=sf (F:=F71) (ek trivial) Tryz.func71 fun a=>by kernel_rfl
def F118:=fe [(71,pf71)] []
def pf118:PF:=⟨[R (.pair .i64 .i64)],[.bool],.uniq,impl_ConfOk⟩
theorem s118:Sd 118 pf118:=sf (F:=F118) (ek ⟨s71,trivial⟩) Tryz.func118 fun a=>by kernel_rfl
def F152:=fe [] []
def pf152:PF:=⟨[],[q3],.uniq,impl_QcFirst⟩
theorem s152:Sd 152 pf152:=sf (F:=F152) (ek trivial) Tryz.func152 fun a=>by kernel_rfl
def F203:=fe [] [(4,[.slot 13 .i64 (.imm false)])]
def pf203:PF:=⟨[R (.sl 3 .i64),R (.sl 3 .i64)],[.bool],.uniq,slices_Equal_int⟩
theorem s203:Sd 203 pf203:=sf (F:=F203) (ek trivial) Tryz.func203 fun a=>by kernel_rfl
def F151:=fe [(203,pf203)] []
def pf151:PF:=⟨[R q3,R q3],[.bool],.uniq,impl_QcSame⟩
theorem s151:Sd 151 pf151:=sf (F:=F151) (ek ⟨s203,trivial⟩) Tryz.func151 fun a=>by kernel_rfl
def F243:=fe [(272,pf272)] []
def pf243:PF:=⟨[R .str,R .u8],[(.sl 9 .str)],.uniq,impl_Split⟩
theorem s243:Sd 243 pf243:=sf (F:=F243) (ek ⟨s272,trivial⟩) Tryz.func243 fun a=>by kernel_rfl
def F274:=fe [(288,pf288)] []
def pf274:PF:=⟨[R .i64],[.str],.uniq,impl_Digits⟩
theorem s274:Sd 274 pf274:=sf (F:=F274) (ek ⟨s288,trivial⟩) Tryz.func274 fun a=>by kernel_rfl
def F245:=fe [(274,pf274)] [(5,[.slot 4 .i64 (.imm false),.slot 5 .i64 (.imm false)])]
def pf245:PF:=⟨[R .str],[.i64,.bool],.uniq,impl_Number⟩
theorem s245:Sd 245 pf245:=sf (F:=F245) (ek ⟨s274,trivial⟩) Tryz.func245 fun a=>by kernel_rfl
def F178:=fe [(71,pf71)] []
def pf178:PF:=⟨[R q4],[.bool],.uniq,impl_TxOk⟩
theorem s178:Sd 178 pf178:=sf (F:=F178) (ek ⟨s71,trivial⟩) Tryz.func178 fun a=>by kernel_rfl
def F289:=fe [(178,pf178),(274,pf274)] []
def pf289:PF:=⟨[R q4],[.str],.uniq,impl_TxText⟩
theorem s289:Sd 289 pf289:=sf (F:=F289) (ek ⟨s178,s274,trivial⟩) Tryz.func289 fun a=>by kernel_rfl
def F275:=fe [(244,pf244),(245,pf245),(178,pf178),(289,pf289)] [(6,[.slot 40 .i64 (.imm false),.row 1 3 .i64 (.own true)])]
def pf275:PF:=⟨[R .str],[q4,.bool],.uniq,impl_TxOf⟩
theorem s275:Sd 275 pf275:=sf (F:=F275) (ek ⟨s244,s245,s178,s289,trivial⟩) Tryz.func275 fun a=>by kernel_rfl
def F246:=fe [(243,pf243),(275,pf275)] [(5,[.slot 4 (.sl 73 q4) (.own true),.slot 14 .i64 (.imm false)])]
def pf246:PF:=⟨[R .str],[(.sl 73 q4),.bool],.uniq,impl_TxsOf⟩
theorem s246:Sd 246 pf246:=sf (F:=F246) (ek ⟨s243,s275,trivial⟩) Tryz.func246 fun a=>by kernel_rfl
def F204:=fe [(243,pf243),(244,pf244),(245,pf245),(246,pf246),(71,pf71)] [(9,[.slot 5 q9 (.own true),.slot 6 .i64 (.imm false),.slot 33 .i64 (.imm false)])]
def pf204:PF:=⟨[R .str],[q9,.bool],.uniq,impl_Steps⟩
theorem s204:Sd 204 pf204:=sf (F:=F204) (ek ⟨s243,s244,s245,s246,s71,trivial⟩) Tryz.func204 fun a=>by kernel_rfl
def F153:=fe [(204,pf204)] []
def pf153:PF:=⟨[R .str],[.bool],.uniq,impl_NameOk⟩
theorem s153:Sd 153 pf153:=sf (F:=F153) (ek ⟨s204,trivial⟩) Tryz.func153 fun a=>by kernel_rfl
def F154:=fe [(204,pf204)] []
def pf154:PF:=⟨[R .str],[.i64],.uniq,impl_ViewOf⟩
theorem s154:Sd 154 pf154:=sf (F:=F154) (ek ⟨s204,trivial⟩) Tryz.func154 fun a=>by kernel_rfl
def F155:=fe [] [(2,[.slot 9 .i64 (.imm false)])]
def pf155:PF:=⟨[R .i64,R (.sl 3 .i64)],[.bool],.uniq,impl_SetOk⟩
theorem s155:Sd 155 pf155:=sf (F:=F155) (ek trivial) Tryz.func155 fun a=>by kernel_rfl
def F205:=fe [(118,pf118)] []
def pf205:PF:=⟨[R (.pair .i64 .i64)],[.i64],.uniq,impl_Faults⟩
theorem s205:Sd 205 pf205:=sf (F:=F205) (ek ⟨s118,trivial⟩) Tryz.func205 fun a=>by kernel_rfl
def F156:=fe [(118,pf118),(205,pf205)] []
def pf156:PF:=⟨[R (.pair .i64 .i64)],[.i64],.uniq,impl_Quorum⟩
theorem s156:Sd 156 pf156:=sf (F:=F156) (ek ⟨s118,s205,trivial⟩) Tryz.func156 fun a=>by kernel_rfl
def F72:=fe [(118,pf118),(152,pf152),(151,pf151),(153,pf153),(154,pf154),(155,pf155),(156,pf156)] []
def pf72:PF:=⟨[R (.pair .i64 .i64),R q3],[.bool],.uniq,impl_QcOk⟩
theorem s72:Sd 72 pf72:=sf (F:=F72) (ek ⟨s118,s152,s151,s153,s154,s155,s156,trivial⟩) Tryz.func72 fun a=>by kernel_rfl
def F119:=fe [(71,pf71),(72,pf72),(153,pf153)] []
def pf119:PF:=⟨[R (.pair .i64 .i64),R q5],[.bool],.uniq,impl_SafeOk⟩
theorem s119:Sd 119 pf119:=sf (F:=F119) (ek ⟨s71,s72,s153,trivial⟩) Tryz.func119 fun a=>by kernel_rfl
def F190:=fe [] []
def pf190:PF:=⟨[R q4,R q4],[.bool],.uniq,impl_beforeTx⟩
theorem s190:Sd 190 pf190:=sf (F:=F190) (ek trivial) Tryz.func190 fun a=>by kernel_rfl
def F120:=fe [(178,pf178),(190,pf190)] [(2,[.slot 7 .i64 (.imm false)])]
def pf120:PF:=⟨[R (.sl 73 q4)],[.bool],.uniq,impl_PoolOk⟩
theorem s120:Sd 120 pf120:=sf (F:=F120) (ek ⟨s178,s190,trivial⟩) Tryz.func120 fun a=>by kernel_rfl
def F128:=fe [(118,pf118),(71,pf71),(153,pf153),(154,pf154),(155,pf155)] []
def pf128:PF:=⟨[R (.pair .i64 .i64),R q3],[.bool],.uniq,impl_PartOk⟩
theorem s128:Sd 128 pf128:=sf (F:=F128) (ek ⟨s118,s71,s153,s154,s155,trivial⟩) Tryz.func128 fun a=>by kernel_rfl
def F232:=fe [] []
def pf232:PF:=⟨[R .i64],[.bool],.uniq,cmp_isNaN_int⟩
theorem s232:Sd 232 pf232:=sf (F:=F232) (ek trivial) Tryz.func232 fun a=>by kernel_rfl
def F192:=fe [(232,pf232)] []
def pf192:PF:=⟨[R .i64,R .i64],[.i64],.uniq,cmp_Compare_int⟩
theorem s192:Sd 192 pf192:=sf (F:=F192) (ek ⟨s232,trivial⟩) Tryz.func192 fun a=>by kernel_rfl
def F233:=fe [] []
def pf233:PF:=⟨[R .str],[.bool],.uniq,cmp_isNaN_string⟩
theorem s233:Sd 233 pf233:=sf (F:=F233) (ek trivial) Tryz.func233 fun a=>by kernel_rfl
def F193:=fe [(233,pf233)] []
def pf193:PF:=⟨[R .str,R .str],[.i64],.uniq,cmp_Compare_string⟩
theorem s193:Sd 193 pf193:=sf (F:=F193) (ek ⟨s233,trivial⟩) Tryz.func193 fun a=>by kernel_rfl
def F129:=fe [(192,pf192),(193,pf193)] []
def pf129:PF:=⟨[R q3,R q3],[.i64],.uniq,impl_comparePlace⟩
theorem s129:Sd 129 pf129:=sf (F:=F129) (ek ⟨s192,s193,trivial⟩) Tryz.func129 fun a=>by kernel_rfl
def F121:=fe [(128,pf128),(129,pf129)] [(2,[.slot 9 .i64 (.imm false)])]
def pf121:PF:=⟨[R (.pair .i64 .i64),R (.sl 72 q3)],[.bool],.uniq,impl_TableOk⟩
theorem s121:Sd 121 pf121:=sf (F:=F121) (ek ⟨s128,s129,trivial⟩) Tryz.func121 fun a=>by kernel_rfl
def F122:=fe [(71,pf71)] []
def pf122:PF:=⟨[R q6],[.bool],.uniq,impl_DiskOk⟩
theorem s122:Sd 122 pf122:=sf (F:=F122) (ek ⟨s71,trivial⟩) Tryz.func122 fun a=>by kernel_rfl
def F176:=fe [] []
def pf176:PF:=⟨[R q1],[q1],.shared,impl_named⟩
theorem s176:Sd 176 pf176:=sf (F:=F176) (ek trivial) Tryz.func176 fun a=>by kernel_rfl
def F218:=fe [(151,pf151)] []
def pf218:PF:=⟨[R (.pair .str q3),R (.pair .str q3)],[.bool],.uniq,impl_BlockSame⟩
theorem s218:Sd 218 pf218:=sf (F:=F218) (ek ⟨s151,trivial⟩) Tryz.func218 fun a=>by kernel_rfl
def F219:=fe [(203,pf203)] []
def pf219:PF:=⟨[R q3,R q3],[.bool],.uniq,impl_partSame⟩
theorem s219:Sd 219 pf219:=sf (F:=F219) (ek ⟨s203,trivial⟩) Tryz.func219 fun a=>by kernel_rfl
def F175:=fe [(218,pf218),(219,pf219),(151,pf151)] []
def pf175:PF:=⟨[R q1,R q1],[.bool],.uniq,impl_MsgSame⟩
theorem s175:Sd 175 pf175:=sf (F:=F175) (ek ⟨s218,s219,s151,trivial⟩) Tryz.func175 fun a=>by kernel_rfl
def F161:=fe [(153,pf153),(208,pf208)] []
def pf161:PF:=⟨[R .str],[.str],.uniq,impl_UpOf⟩
theorem s161:Sd 161 pf161:=sf (F:=F161) (ek ⟨s153,s208,trivial⟩) Tryz.func161 fun a=>by kernel_rfl
def F177:=fe [(72,pf72),(153,pf153),(161,pf161)] []
def pf177:PF:=⟨[R (.pair .i64 .i64),R (.pair .str q3)],[.bool],.uniq,impl_BlockOk⟩
theorem s177:Sd 177 pf177:=sf (F:=F177) (ek ⟨s72,s153,s161,trivial⟩) Tryz.func177 fun a=>by kernel_rfl
def F88:=fe [(118,pf118),(176,pf176),(175,pf175),(177,pf177),(128,pf128),(71,pf71),(72,pf72),(178,pf178)] []
def pf88:PF:=⟨[R (.pair .i64 .i64),R q1],[.bool],.uniq,impl_MsgOk⟩
theorem s88:Sd 88 pf88:=sf (F:=F88) (ek ⟨s118,s176,s175,s177,s128,s71,s72,s178,trivial⟩) Tryz.func88 fun a=>by kernel_rfl
def F41:=fe [(118,pf118),(71,pf71),(119,pf119),(120,pf120),(121,pf121),(122,pf122),(88,pf88)] [(4,[.slot 66 .i64 (.imm false)])]
def pf41:PF:=⟨[R (.pair .i64 .i64),R q2],[.bool],.uniq,impl_RepOk⟩
theorem s41:Sd 41 pf41:=sf (F:=F41) (ek ⟨s118,s71,s119,s120,s121,s122,s88,trivial⟩) Tryz.func41 fun a=>by kernel_rfl
def F197:=fe [] []
def pf197:PF:=⟨[R (.sl 3 .i64)],[(.sl 3 .i64)],.uniq,impl_copyInts⟩
theorem s197:Sd 197 pf197:=sf (F:=F197) (ek trivial) Tryz.func197 fun a=>by kernel_rfl
def F191:=fe [(197,pf197)] []
def pf191:PF:=⟨[R q3],[q3],.uniq,impl_copyQc⟩
theorem s191:Sd 191 pf191:=sf (F:=F191) (ek ⟨s197,trivial⟩) Tryz.func191 fun a=>by kernel_rfl
def F123:=fe [(191,pf191)] []
def pf123:PF:=⟨[R q5],[q5],.uniq,impl_copySafe⟩
theorem s123:Sd 123 pf123:=sf (F:=F123) (ek ⟨s191,trivial⟩) Tryz.func123 fun a=>by kernel_rfl
def F124:=fe [] []
def pf124:PF:=⟨[R (.sl 73 q4)],[(.sl 73 q4)],.uniq,impl_copyTxs⟩
theorem s124:Sd 124 pf124:=sf (F:=F124) (ek trivial) Tryz.func124 fun a=>by kernel_rfl
def F132:=fe [(197,pf197)] []
def pf132:PF:=⟨[R q3],[q3],.uniq,impl_copyPart⟩
theorem s132:Sd 132 pf132:=sf (F:=F132) (ek ⟨s197,trivial⟩) Tryz.func132 fun a=>by kernel_rfl
def F125:=fe [(132,pf132)] [(3,[.slot 3 (.sl 72 q3) (.own true),.slot 8 .i64 (.imm false)])]
def pf125:PF:=⟨[R (.sl 72 q3)],[(.sl 72 q3)],.uniq,impl_copyTable⟩
theorem s125:Sd 125 pf125:=sf (F:=F125) (ek ⟨s132,trivial⟩) Tryz.func125 fun a=>by kernel_rfl
def F126:=fe [] []
def pf126:PF:=⟨[R q6],[q6],.uniq,impl_copyDisk⟩
theorem s126:Sd 126 pf126:=sf (F:=F126) (ek trivial) Tryz.func126 fun a=>by kernel_rfl
def F198:=fe [(191,pf191)] []
def pf198:PF:=⟨[R (.pair .str q3)],[(.pair .str q3)],.uniq,impl_copyBlock⟩
theorem s198:Sd 198 pf198:=sf (F:=F198) (ek ⟨s191,trivial⟩) Tryz.func198 fun a=>by kernel_rfl
def F133:=fe [(198,pf198),(132,pf132),(191,pf191)] []
def pf133:PF:=⟨[R q1],[q1],.uniq,impl_copyMsg⟩
theorem s133:Sd 133 pf133:=sf (F:=F133) (ek ⟨s198,s132,s191,trivial⟩) Tryz.func133 fun a=>by kernel_rfl
def F127:=fe [(133,pf133)] [(3,[.slot 3 q7 (.own true),.slot 8 .i64 (.imm false)])]
def pf127:PF:=⟨[R q7],[q7],.uniq,impl_copyPosts⟩
theorem s127:Sd 127 pf127:=sf (F:=F127) (ek ⟨s133,trivial⟩) Tryz.func127 fun a=>by kernel_rfl
def F42:=fe [(123,pf123),(124,pf124),(125,pf125),(126,pf126),(127,pf127)] []
def pf42:PF:=⟨[R q2],[q2],.uniq,impl_copyRep⟩
theorem s42:Sd 42 pf42:=sf (F:=F42) (ek ⟨s123,s124,s125,s126,s127,trivial⟩) Tryz.func42 fun a=>by kernel_rfl
def F43:=fe [(118,pf118)] []
def pf43:PF:=⟨[R (.pair .i64 .i64),R .i64],[.i64],.uniq,impl_Root⟩
theorem s43:Sd 43 pf43:=sf (F:=F43) (ek ⟨s118,trivial⟩) Tryz.func43 fun a=>by kernel_rfl
def F290:=fe [] [(2,[.slot 8 .i64 (.imm false)])]
def pf290:PF:=⟨[R (.sl 3 .i64),R .i64],[.i64],.uniq,slices_Index_int⟩
theorem s290:Sd 290 pf290:=sf (F:=F290) (ek trivial) Tryz.func290 fun a=>by kernel_rfl
def F281:=fe [(290,pf290)] []
def pf281:PF:=⟨[R (.sl 3 .i64),R .i64],[.bool],.uniq,slices_Contains_int⟩
theorem s281:Sd 281 pf281:=sf (F:=F281) (ek ⟨s290,trivial⟩) Tryz.func281 fun a=>by kernel_rfl
def F259:=fe [(281,pf281)] []
def pf259:PF:=⟨[R (.sl 3 .i64),R .i64],[.bool],.uniq,impl_SetHas⟩
theorem s259:Sd 259 pf259:=sf (F:=F259) (ek ⟨s281,trivial⟩) Tryz.func259 fun a=>by kernel_rfl
def F267:=fe [] []
def pf267:PF:=⟨[R .i64,(.cap,.i64)],[.bool],.uniq,impl_SetAdd_1⟩
theorem s267:Sd 267 pf267:=sf (F:=F267) (ek trivial) Tryz.func267 fun a=>by kernel_rfl
def F266:=fe [(267,pf267)] [(2,[.slot 8 .i64 (.imm false)])]
def pf266:PF:=⟨[R (.sl 3 .i64),((.clo 267),.i64)],[.i64],.uniq,slices_IndexFunc_int⟩
theorem s266:Sd 266 pf266:=sf (F:=F266) (ek ⟨s267,trivial⟩) Tryz.func266 fun a=>by kernel_rfl
def F234:=fe [(259,pf259),(197,pf197),(266,pf266),(268,pf268)] []
def pf234:PF:=⟨[R (.sl 3 .i64),R .i64],[(.sl 3 .i64)],.uniq,impl_SetAdd⟩
theorem s234:Sd 234 pf234:=sf (F:=F234) (ek ⟨s259,s197,s266,s268,trivial⟩) Tryz.func234 fun a=>by kernel_rfl
def F194:=fe [(234,pf234)] [(3,[.slot 5 (.sl 3 .i64) (.own true),.slot 12 .i64 (.imm false)]),(8,[.slot 5 (.sl 3 .i64) (.own true),.slot 22 .i64 (.imm false)])]
def pf194:PF:=⟨[R (.sl 3 .i64),R (.sl 3 .i64)],[(.sl 3 .i64)],.uniq,impl_SetJoin⟩
theorem s194:Sd 194 pf194:=sf (F:=F194) (ek ⟨s234,trivial⟩) Tryz.func194 fun a=>by kernel_rfl
def F130:=fe [(194,pf194)] []
def pf130:PF:=⟨[R q3,R q3],[q3,.bool],.uniq,impl_PartJoin⟩
theorem s130:Sd 130 pf130:=sf (F:=F130) (ek ⟨s194,trivial⟩) Tryz.func130 fun a=>by kernel_rfl
def F44:FEnv:=⟨⟨TYS,[(128,pf128),(125,pf125),(129,pf129),(130,pf130),(132,pf132),(121,pf121)],EQS,[],[],false,[],[(131,pf131)]⟩,[(5,[.slot 9 .i64 (.imm false)])]⟩
def pf44:PF:=⟨[R (.pair .i64 .i64),R (.sl 72 q3),R q3],[(.sl 72 q3),.bool],.uniq,impl_TableAdd⟩
theorem s44:Sd 44 pf44:=sf (F:=F44) (envOK ⟨s128,s125,s129,s130,s132,s121,trivial⟩ trivial trivial trivial s131) Tryz.func44 fun a=>by kernel_rfl
def F45:=fe [(42,pf42),(133,pf133),(41,pf41)] []
def pf45:PF:=⟨[R (.pair .i64 .i64),R q2,R .i64,R q1],[q2,.bool],.uniq,impl_Tell⟩
theorem s45:Sd 45 pf45:=sf (F:=F45) (ek ⟨s42,s133,s41,trivial⟩) Tryz.func45 fun a=>by kernel_rfl
def F10:=fe [(41,pf41),(42,pf42),(43,pf43),(44,pf44),(45,pf45)] []
def pf10:PF:=⟨[R (.pair .i64 .i64),R q2],[q2,.bool],.uniq,impl_Late⟩
theorem s10:Sd 10 pf10:=sf (F:=F10) (ek ⟨s41,s42,s43,s44,s45,trivial⟩) Tryz.func10 fun a=>by kernel_rfl
def F76:=fe [] [(4,[.slot 5 .i64 (.imm false)])]
def pf76:PF:=⟨[R (.sl 3 .i64),R (.sl 3 .i64)],[.bool],.uniq,laws_eqIntS⟩
theorem s76:Sd 76 pf76:=sf (F:=F76) (ek trivial) Tryz.func76 fun a=>by kernel_rfl
def F18:=fe [(76,pf76)] []
def pf18:PF:=⟨[R q3,R q3],[.bool],.uniq,laws_eqQc⟩
theorem s18:Sd 18 pf18:=sf (F:=F18) (ek ⟨s76,trivial⟩) Tryz.func18 fun a=>by kernel_rfl
def F46:=fe [(18,pf18)] []
def pf46:PF:=⟨[R q5,R q5],[.bool],.uniq,laws_eqSafe⟩
theorem s46:Sd 46 pf46:=sf (F:=F46) (ek ⟨s18,trivial⟩) Tryz.func46 fun a=>by kernel_rfl
def F97:=fe [] []
def pf97:PF:=⟨[R q4,R q4],[.bool],.uniq,laws_eqTx⟩
theorem s97:Sd 97 pf97:=sf (F:=F97) (ek trivial) Tryz.func97 fun a=>by kernel_rfl
def F47:=fe [(97,pf97)] [(4,[.slot 5 .i64 (.imm false)])]
def pf47:PF:=⟨[R (.sl 73 q4),R (.sl 73 q4)],[.bool],.uniq,laws_eqTxS⟩
theorem s47:Sd 47 pf47:=sf (F:=F47) (ek ⟨s97,trivial⟩) Tryz.func47 fun a=>by kernel_rfl
def F96:=fe [(76,pf76)] []
def pf96:PF:=⟨[R q3,R q3],[.bool],.uniq,laws_eqPart⟩
theorem s96:Sd 96 pf96:=sf (F:=F96) (ek ⟨s76,trivial⟩) Tryz.func96 fun a=>by kernel_rfl
def F48:=fe [(96,pf96)] [(4,[.slot 5 .i64 (.imm false)])]
def pf48:PF:=⟨[R (.sl 72 q3),R (.sl 72 q3)],[.bool],.uniq,laws_eqPartS⟩
theorem s48:Sd 48 pf48:=sf (F:=F48) (ek ⟨s96,trivial⟩) Tryz.func48 fun a=>by kernel_rfl
def F134:=fe [] [(4,[.slot 5 .i64 (.imm false)])]
def pf134:PF:=⟨[R (.sl 5 .u8),R (.sl 5 .u8)],[.bool],.uniq,laws_eqByteS⟩
theorem s134:Sd 134 pf134:=sf (F:=F134) (ek trivial) Tryz.func134 fun a=>by kernel_rfl
def F49:=fe [(134,pf134)] []
def pf49:PF:=⟨[R q6,R q6],[.bool],.uniq,laws_eqDisk⟩
theorem s49:Sd 49 pf49:=sf (F:=F49) (ek ⟨s134,trivial⟩) Tryz.func49 fun a=>by kernel_rfl
def F95:=fe [(18,pf18)] []
def pf95:PF:=⟨[R (.pair .str q3),R (.pair .str q3)],[.bool],.uniq,laws_eqBlock⟩
theorem s95:Sd 95 pf95:=sf (F:=F95) (ek ⟨s18,trivial⟩) Tryz.func95 fun a=>by kernel_rfl
def F24:=fe [(95,pf95),(96,pf96),(18,pf18),(97,pf97)] []
def pf24:PF:=⟨[R q1,R q1],[.bool],.uniq,laws_eqMsg⟩
theorem s24:Sd 24 pf24:=sf (F:=F24) (ek ⟨s95,s96,s18,s97,trivial⟩) Tryz.func24 fun a=>by kernel_rfl
def F135:=fe [(24,pf24)] []
def pf135:PF:=⟨[R (.pair .i64 q1),R (.pair .i64 q1)],[.bool],.uniq,laws_eqPost⟩
theorem s135:Sd 135 pf135:=sf (F:=F135) (ek ⟨s24,trivial⟩) Tryz.func135 fun a=>by kernel_rfl
def F50:=fe [(135,pf135)] [(4,[.slot 5 .i64 (.imm false)])]
def pf50:PF:=⟨[R q7,R q7],[.bool],.uniq,laws_eqPostS⟩
theorem s50:Sd 50 pf50:=sf (F:=F50) (ek ⟨s135,trivial⟩) Tryz.func50 fun a=>by kernel_rfl
def F11:=fe [(46,pf46),(47,pf47),(48,pf48),(49,pf49),(50,pf50)] []
def pf11:PF:=⟨[R q2,R q2],[.bool],.uniq,laws_eqRep⟩
theorem s11:Sd 11 pf11:=sf (F:=F11) (ek ⟨s46,s47,s48,s49,s50,trivial⟩) Tryz.func11 fun a=>by kernel_rfl
def F77:=fe [] [(2,[.slot 1 .i64 (.imm false),.slot 5 .i64 (.imm false),.row 0 3 .i64 .lent])]
def pf77:MF:=⟨(.sl 3 .i64),laws_markIntS⟩
theorem e77 (a:den (.sl 3 .i64)×Int×Unit):evTurnFun F77 Tryz.f77 (.sl 3 .i64) a=laws_markIntS a:=by kernel_rfl
theorem s77:SoundM Tryz.prog GLB 77 pf77:=sound_funM (F:=F77) (ek trivial) Tryz.func77 (by kernel_rfl) (fun a o h=>(e77 a).trans h)
def F19:FEnv:=⟨⟨TYS,[],EQS,[],[(77,pf77)],false,[],[]⟩,[]⟩
def pf19:MF:=⟨q3,laws_markQc⟩
theorem e19 (a:den q3×Int×Unit):evTurnFun F19 Tryz.f19 q3 a=laws_markQc a:=by kernel_rfl
theorem s19:SoundM Tryz.prog GLB 19 pf19:=sound_funM (F:=F19) (envOK trivial trivial s77 trivial trivial) Tryz.func19 (by kernel_rfl) (fun a o h=>(e19 a).trans h)
def F51:FEnv:=⟨⟨TYS,[],EQS,[],[(19,pf19)],false,[],[]⟩,[]⟩
def pf51:MF:=⟨q5,laws_markSafe⟩
theorem e51 (a:den q5×Int×Unit):evTurnFun F51 Tryz.f51 q5 a=laws_markSafe a:=by kernel_rfl
theorem s51:SoundM Tryz.prog GLB 51 pf51:=sound_funM (F:=F51) (envOK trivial trivial s19 trivial trivial) Tryz.func51 (by kernel_rfl) (fun a o h=>(e51 a).trans h)
def F52:=fe [] [(2,[.slot 1 .i64 (.imm false),.slot 5 .i64 (.imm false),.row 0 73 q4 .lent])]
def pf52:MF:=⟨(.sl 73 q4),laws_markTxS⟩
theorem e52 (a:den (.sl 73 q4)×Int×Unit):evTurnFun F52 Tryz.f52 (.sl 73 q4) a=laws_markTxS a:=by kernel_rfl
theorem s52:SoundM Tryz.prog GLB 52 pf52:=sound_funM (F:=F52) (ek trivial) Tryz.func52 (by kernel_rfl) (fun a o h=>(e52 a).trans h)
def F136:=fe [] [(4,[.slot 0 .i64 (.imm false),.slot 3 .str (.imm false)])]
def pf136:PF:=⟨[R .i64],[.str],.uniq,laws_markText⟩
theorem s136:Sd 136 pf136:=sf (F:=F136) (ek trivial) Tryz.func136 fun a=>by kernel_rfl
def F53:FEnv:=⟨⟨TYS,[(136,pf136)],EQS,[],[(77,pf77)],false,[],[]⟩,[(2,[.slot 1 .i64 (.imm false),.slot 5 .i64 (.imm false),.row 0 72 q3 .lent])]⟩
def pf53:MF:=⟨(.sl 72 q3),laws_markPartS⟩
theorem e53 (a:den (.sl 72 q3)×Int×Unit):evTurnFun F53 Tryz.f53 (.sl 72 q3) a=laws_markPartS a:=by kernel_rfl
theorem s53:SoundM Tryz.prog GLB 53 pf53:=sound_funM (F:=F53) (envOK ⟨s136,trivial⟩ trivial s77 trivial trivial) Tryz.func53 (by kernel_rfl) (fun a o h=>(e53 a).trans h)
def F137:=fe [] [(2,[.slot 1 .i64 (.imm false),.slot 5 .i64 (.imm false),.row 0 5 .u8 .lent])]
def pf137:MF:=⟨(.sl 5 .u8),laws_markByteS⟩
theorem e137 (a:den (.sl 5 .u8)×Int×Unit):evTurnFun F137 Tryz.f137 (.sl 5 .u8) a=laws_markByteS a:=by kernel_rfl
theorem s137:SoundM Tryz.prog GLB 137 pf137:=sound_funM (F:=F137) (ek trivial) Tryz.func137 (by kernel_rfl) (fun a o h=>(e137 a).trans h)
def F54:FEnv:=⟨⟨TYS,[],EQS,[],[(137,pf137)],false,[],[]⟩,[]⟩
def pf54:MF:=⟨q6,laws_markDisk⟩
theorem e54 (a:den q6×Int×Unit):evTurnFun F54 Tryz.f54 q6 a=laws_markDisk a:=by kernel_rfl
theorem s54:SoundM Tryz.prog GLB 54 pf54:=sound_funM (F:=F54) (envOK trivial trivial s137 trivial trivial) Tryz.func54 (by kernel_rfl) (fun a o h=>(e54 a).trans h)
def F55:FEnv:=⟨⟨TYS,[(136,pf136)],EQS,[],[(77,pf77)],false,[],[]⟩,[(2,[.slot 1 .i64 (.imm false),.slot 5 .i64 (.imm false),.row 0 150 (.pair .i64 q1) .lent])]⟩
def pf55:MF:=⟨q7,laws_markPostS⟩
theorem e55 (a:den q7×Int×Unit):evTurnFun F55 Tryz.f55 q7 a=laws_markPostS a:=by kernel_rfl
theorem s55:SoundM Tryz.prog GLB 55 pf55:=sound_funM (F:=F55) (envOK ⟨s136,trivial⟩ trivial s77 trivial trivial) Tryz.func55 (by kernel_rfl) (fun a o h=>(e55 a).trans h)
def F12:FEnv:=⟨⟨TYS,[],EQS,[],[(51,pf51),(52,pf52),(53,pf53),(54,pf54),(55,pf55)],false,[],[]⟩,[]⟩
def pf12:MF:=⟨q2,laws_markRep⟩
theorem e12 (a:den q2×Int×Unit):evTurnFun F12 Tryz.f12 q2 a=laws_markRep a:=by kernel_rfl
theorem s12:SoundM Tryz.prog GLB 12 pf12:=sound_funM (F:=F12) (envOK trivial trivial ⟨s51,s52,s53,s54,s55⟩ trivial trivial) Tryz.func12 (by kernel_rfl) (fun a o h=>(e12 a).trans h)
def F139:=fe [] [(2,[.slot 1 .i64 (.imm false),.slot 5 .i64 (.imm false)])]
def pf139:PF:=⟨[R (.sl 3 .i64),R .i64],[.i64],.uniq,laws_heldIntS⟩
theorem s139:Sd 139 pf139:=sf (F:=F139) (ek trivial) Tryz.func139 fun a=>by kernel_rfl
def F138:=fe [(139,pf139)] []
def pf138:PF:=⟨[R q3,R .i64],[.i64],.uniq,laws_heldQc⟩
theorem s138:Sd 138 pf138:=sf (F:=F138) (ek ⟨s139,trivial⟩) Tryz.func138 fun a=>by kernel_rfl
def F56:=fe [(138,pf138)] []
def pf56:PF:=⟨[R q5,R .i64],[.i64],.uniq,laws_heldSafe⟩
theorem s56:Sd 56 pf56:=sf (F:=F56) (ek ⟨s138,trivial⟩) Tryz.func56 fun a=>by kernel_rfl
def F57:=fe [] [(2,[.slot 1 .i64 (.imm false),.slot 5 .i64 (.imm false)])]
def pf57:PF:=⟨[R (.sl 73 q4),R .i64],[.i64],.uniq,laws_heldTxS⟩
theorem s57:Sd 57 pf57:=sf (F:=F57) (ek trivial) Tryz.func57 fun a=>by kernel_rfl
def F58:=fe [(136,pf136),(139,pf139)] [(2,[.slot 1 .i64 (.imm false),.slot 5 .i64 (.imm false)])]
def pf58:PF:=⟨[R (.sl 72 q3),R .i64],[.i64],.uniq,laws_heldPartS⟩
theorem s58:Sd 58 pf58:=sf (F:=F58) (ek ⟨s136,s139,trivial⟩) Tryz.func58 fun a=>by kernel_rfl
def F140:=fe [] [(2,[.slot 1 .i64 (.imm false),.slot 5 .i64 (.imm false)])]
def pf140:PF:=⟨[R (.sl 5 .u8),R .i64],[.i64],.uniq,laws_heldByteS⟩
theorem s140:Sd 140 pf140:=sf (F:=F140) (ek trivial) Tryz.func140 fun a=>by kernel_rfl
def F59:=fe [(140,pf140)] []
def pf59:PF:=⟨[R q6,R .i64],[.i64],.uniq,laws_heldDisk⟩
theorem s59:Sd 59 pf59:=sf (F:=F59) (ek ⟨s140,trivial⟩) Tryz.func59 fun a=>by kernel_rfl
def F60:=fe [(136,pf136),(139,pf139)] [(2,[.slot 1 .i64 (.imm false),.slot 5 .i64 (.imm false)])]
def pf60:PF:=⟨[R q7,R .i64],[.i64],.uniq,laws_heldPostS⟩
theorem s60:Sd 60 pf60:=sf (F:=F60) (ek ⟨s136,s139,trivial⟩) Tryz.func60 fun a=>by kernel_rfl
def F13:=fe [(56,pf56),(57,pf57),(58,pf58),(59,pf59),(60,pf60)] []
def pf13:PF:=⟨[R q2,R .i64],[.i64],.uniq,laws_heldRep⟩
theorem s13:Sd 13 pf13:=sf (F:=F13) (ek ⟨s56,s57,s58,s59,s60,trivial⟩) Tryz.func13 fun a=>by kernel_rfl
def F3:FEnv:=⟨⟨TYS,[(6,pf6),(8,pf8),(9,pf9),(7,pf7),(10,pf10),(11,pf11),(13,pf13)],EQS,[],[(12,pf12)],false,[],[]⟩,[]⟩
def pf3:PF:=⟨[R (.pair .i64 .i64),R q8],[.bool],.uniq,laws_FnExactLate⟩
theorem s3:Sd 3 pf3:=sf (F:=F3) (envOK ⟨s6,s8,s9,s7,s10,s11,s13,trivial⟩ trivial s12 trivial trivial) Tryz.func3 fun a=>by kernel_rfl
end
end G448
