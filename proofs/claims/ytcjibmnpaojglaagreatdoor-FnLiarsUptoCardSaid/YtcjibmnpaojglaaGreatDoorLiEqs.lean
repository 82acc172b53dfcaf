/- That the printed functions are what the evaluator reckons. (Printed by our own program.) -/
import Derived.Test.YtcjibmnpaojglaaGreatDoorProg
import Derived.Test.YtcjibmnpaojglaaGreatDoorLiFns
import Derived.Test.YtcjibmnpaojglaaGreatDoorSh
import Derived.KernelRfl
set_option linter.unusedSimpArgs false
set_option linter.unusedVariables false
namespace G448
open Ev Go Go.Proofs
set_option maxRecDepth 100000
noncomputable section
abbrev q1:Ty:=(.pair .i64 (.pair .i64 (.pair .i64 (.pair (.pair .i64 (.pair .i64 (.pair (.pair .i64 (.pair .str (.sl 3 .i64))) .str))) (.pair (.sl 37 (.pair .i64 (.pair .i64 (.pair .i64 .i64)))) (.pair (.sl 35 (.pair .i64 (.pair .str (.sl 3 .i64)))) (.pair (.pair (.sl 5 .u8) .i64) (.sl 164 (.pair .i64 (.pair .i64 (.pair .i64 (.pair (.pair .str (.pair .i64 (.pair .str (.sl 3 .i64)))) (.pair (.pair .i64 (.pair .str (.sl 3 .i64))) (.pair (.pair .i64 (.pair .str (.sl 3 .i64))) (.pair .i64 (.pair .i64 (.pair .i64 (.pair .i64 .i64))))))))))))))))))
abbrev q2:Ty:=(.pair .i64 (.pair .i64 (.pair (.pair .str (.pair .i64 (.pair .str (.sl 3 .i64)))) (.pair (.pair .i64 (.pair .str (.sl 3 .i64))) (.pair (.pair .i64 (.pair .str (.sl 3 .i64))) (.pair .i64 (.pair .i64 (.pair .i64 (.pair .i64 .i64)))))))))
abbrev q3:Ty:=(.pair (.pair .i64 .i64) (.pair (.sl 3 .i64) (.pair (.sl 99 q1) (.pair (.sl 160 (.pair .i64 (.sl 5 .u8))) (.sl 47 (.pair .i64 (.pair .str .i64)))))))
abbrev q4:Ty:=(.pair .i64 (.pair .str (.sl 3 .i64)))
abbrev q5:Ty:=(.pair .i64 (.pair .i64 (.pair .i64 .i64)))
abbrev q6:Ty:=(.pair (.sl 5 .u8) (.pair .i64 .i64))
abbrev q7:Ty:=(.pair .i64 (.pair .i64 (.pair q4 .str)))
abbrev q8:Ty:=(.sl 47 (.pair .i64 (.pair .str .i64)))
abbrev q9:Ty:=(.pair .i64 (.pair .i64 (.pair .i64 q2)))
abbrev q10:Ty:=(.pair (.sl 3 .i64) (.sl 3 .i64))
abbrev q11:Ty:=(.pair (.sl 5 .u8) .i64)
abbrev q12:Ty:=(.pair (.sl 5 .u8) (.pair .i64 .bool))
abbrev q13:Ty:=(.pair .i64 (.pair .str (.sl 0 .i64)))
abbrev q14:Ty:=(.sl 164 (.pair .i64 q2))
abbrev q15:Ty:=(.sl 84 (.pair .i64 (.sl 37 q5)))
def TYS:List (Nat×TD):=[(3,⟨.i64,8,[],none⟩),(4,⟨.bool,1,[],none⟩),(5,⟨.u8,1,[],none⟩),(9,⟨.str,16,[],none⟩),(22,⟨(.sl 5 .u8),24,[],none⟩),(24,⟨(.sl 3 .i64),24,[],none⟩),(25,⟨(.sl 47 (.pair .i64 (.pair .str .i64))),24,[],none⟩),(30,⟨(.pair .i64 .i64),16,[(0,3),(1,3)],none⟩),(32,⟨(.pair .i64 (.pair .str (.sl 3 .i64))),48,[(0,3),(1,9),(2,24)],none⟩),(34,⟨(.pair .str (.pair .i64 (.pair .str (.sl 3 .i64)))),64,[(0,9),(1,32)],none⟩),(35,⟨(.pair .i64 (.pair .str (.sl 3 .i64))),48,[(0,3),(1,9),(2,24)],none⟩),(37,⟨(.pair .i64 (.pair .i64 (.pair .i64 .i64))),32,[(0,3),(1,3),(2,3),(3,3)],none⟩),(39,⟨(.pair .i64 (.pair .i64 (.pair (.pair .str (.pair .i64 (.pair .str (.sl 3 .i64)))) (.pair (.pair .i64 (.pair .str (.sl 3 .i64))) (.pair (.pair .i64 (.pair .str (.sl 3 .i64))) (.pair .i64 (.pair .i64 (.pair .i64 (.pair .i64 .i64))))))))),216,[(0,3),(1,3),(2,34),(6,35),(9,32),(12,3),(13,37)],none⟩),(47,⟨(.pair .i64 (.pair .str .i64)),32,[(0,3),(1,9),(2,3)],none⟩),(59,⟨(.sl 99 (.pair .i64 (.pair .i64 (.pair .i64 (.pair (.pair .i64 (.pair .i64 (.pair (.pair .i64 (.pair .str (.sl 3 .i64))) .str))) (.pair (.sl 37 (.pair .i64 (.pair .i64 (.pair .i64 .i64)))) (.pair (.sl 35 (.pair .i64 (.pair .str (.sl 3 .i64)))) (.pair (.pair (.sl 5 .u8) .i64) (.sl 164 (.pair .i64 (.pair .i64 (.pair .i64 (.pair (.pair .str (.pair .i64 (.pair .str (.sl 3 .i64)))) (.pair (.pair .i64 (.pair .str (.sl 3 .i64))) (.pair (.pair .i64 (.pair .str (.sl 3 .i64))) (.pair .i64 (.pair .i64 (.pair .i64 (.pair .i64 .i64))))))))))))))))))),24,[],none⟩),(60,⟨(.sl 160 (.pair .i64 (.sl 5 .u8))),24,[],none⟩),(62,⟨(.pair (.pair .i64 .i64) (.pair (.sl 3 .i64) (.pair (.sl 99 (.pair .i64 (.pair .i64 (.pair .i64 (.pair (.pair .i64 (.pair .i64 (.pair (.pair .i64 (.pair .str (.sl 3 .i64))) .str))) (.pair (.sl 37 (.pair .i64 (.pair .i64 (.pair .i64 .i64)))) (.pair (.sl 35 (.pair .i64 (.pair .str (.sl 3 .i64)))) (.pair (.pair (.sl 5 .u8) .i64) (.sl 164 (.pair .i64 (.pair .i64 (.pair .i64 (.pair (.pair .str (.pair .i64 (.pair .str (.sl 3 .i64)))) (.pair (.pair .i64 (.pair .str (.sl 3 .i64))) (.pair (.pair .i64 (.pair .str (.sl 3 .i64))) (.pair .i64 (.pair .i64 (.pair .i64 (.pair .i64 .i64))))))))))))))))))) (.pair (.sl 160 (.pair .i64 (.sl 5 .u8))) (.sl 47 (.pair .i64 (.pair .str .i64))))))),112,[(0,30),(2,24),(3,59),(4,60),(5,25)],none⟩),(75,⟨(.pair (.sl 5 .u8) (.pair .i64 .i64)),40,[(0,22),(1,3),(2,3)],none⟩),(77,⟨(.sl 37 (.pair .i64 (.pair .i64 (.pair .i64 .i64)))),24,[],none⟩),(80,⟨(.sl 84 (.pair .i64 (.sl 37 (.pair .i64 (.pair .i64 (.pair .i64 .i64)))))),24,[],none⟩),(84,⟨(.pair .i64 (.sl 37 (.pair .i64 (.pair .i64 (.pair .i64 .i64))))),32,[(0,3),(1,77)],none⟩),(88,⟨(.pair .i64 (.pair .i64 (.pair .i64 (.pair .i64 (.pair .i64 (.pair (.pair .str (.pair .i64 (.pair .str (.sl 3 .i64)))) (.pair (.pair .i64 (.pair .str (.sl 3 .i64))) (.pair (.pair .i64 (.pair .str (.sl 3 .i64))) (.pair .i64 (.pair .i64 (.pair .i64 (.pair .i64 .i64)))))))))))),240,[(0,3),(1,3),(2,3),(3,39)],none⟩),(93,⟨(.pair .i64 (.pair .i64 (.pair (.pair .i64 (.pair .str (.sl 3 .i64))) .str))),80,[(0,3),(1,3),(2,32),(5,9)],none⟩),(94,⟨(.sl 35 (.pair .i64 (.pair .str (.sl 3 .i64)))),24,[],none⟩),(96,⟨(.pair (.sl 5 .u8) .i64),32,[(0,22),(1,3)],none⟩),(97,⟨(.sl 164 (.pair .i64 (.pair .i64 (.pair .i64 (.pair (.pair .str (.pair .i64 (.pair .str (.sl 3 .i64)))) (.pair (.pair .i64 (.pair .str (.sl 3 .i64))) (.pair (.pair .i64 (.pair .str (.sl 3 .i64))) (.pair .i64 (.pair .i64 (.pair .i64 (.pair .i64 .i64))))))))))),24,[],none⟩),(99,⟨(.pair .i64 (.pair .i64 (.pair .i64 (.pair (.pair .i64 (.pair .i64 (.pair (.pair .i64 (.pair .str (.sl 3 .i64))) .str))) (.pair (.sl 37 (.pair .i64 (.pair .i64 (.pair .i64 .i64)))) (.pair (.sl 35 (.pair .i64 (.pair .str (.sl 3 .i64)))) (.pair (.pair (.sl 5 .u8) .i64) (.sl 164 (.pair .i64 (.pair .i64 (.pair .i64 (.pair (.pair .str (.pair .i64 (.pair .str (.sl 3 .i64)))) (.pair (.pair .i64 (.pair .str (.sl 3 .i64))) (.pair (.pair .i64 (.pair .str (.sl 3 .i64))) (.pair .i64 (.pair .i64 (.pair .i64 (.pair .i64 .i64)))))))))))))))))),208,[(0,3),(1,3),(2,3),(3,93),(9,77),(10,94),(11,96),(13,97)],none⟩),(116,⟨(.sl 9 .str),24,[],none⟩),(148,⟨(.pair (.sl 3 .i64) (.sl 3 .i64)),48,[(0,24),(1,24)],none⟩),(160,⟨(.pair .i64 (.sl 5 .u8)),32,[(0,3),(1,22)],none⟩),(164,⟨(.pair .i64 (.pair .i64 (.pair .i64 (.pair (.pair .str (.pair .i64 (.pair .str (.sl 3 .i64)))) (.pair (.pair .i64 (.pair .str (.sl 3 .i64))) (.pair (.pair .i64 (.pair .str (.sl 3 .i64))) (.pair .i64 (.pair .i64 (.pair .i64 (.pair .i64 .i64)))))))))),224,[(0,3),(1,39)],none⟩),(181,⟨(.sl 3 .i64),32,[],some 4⟩),(184,⟨(.pair (.sl 5 .u8) (.pair .i64 .bool)),40,[(0,22),(1,3),(2,4)],none⟩)]
def EQS:List Nat:=[37,47]
theorem tysOK:tysOk Tryz.prog TYS=true:=by kernel_rfl
theorem tilesOK:tilesOk TYS=true:=by kernel_rfl
theorem eqsOK:EQS.all (eqOk Tryz.prog TYS)=true:=by kernel_rfl
theorem mixedOK:Tryz.prog.follows .mixedOrders=true:=by kernel_rfl
theorem envOK {fns:List (Nat×PF)} {news:List (Nat×NF)} {muts:List (Nat×MF)} {frz hold:Bool} {conds joins alts:List (Nat×PF)} (h:AllS Tryz.prog GLB fns) (h2:AllN Tryz.prog GLB news) (h3:AllM Tryz.prog GLB muts) (h4:AllC Tryz.prog GLB conds) (h5:AllJ Tryz.prog GLB joins) (h6:AllS Tryz.prog GLB alts):EnvOk Tryz.prog GLB ⟨TYS,fns,EQS,news,muts,frz,conds,joins,alts,hold⟩:=envOk_of mixedOK tysOK eqsOK h h2 h3 h4 h5 h6
def fe (fns:List (Nat×PF)) (ls:List (Nat×List Ev.Item)):FEnv:=⟨⟨TYS,fns,EQS,[],[],false,[],[],[],false⟩,ls⟩
theorem ek {fns:List (Nat×PF)} {frz hold:Bool} (h:AllS Tryz.prog GLB fns):EnvOk Tryz.prog GLB ⟨TYS,fns,EQS,[],[],frz,[],[],[],hold⟩:=envOK h trivial trivial trivial trivial trivial
abbrev R (t:Ty):PK×Ty:=(.rd,t)
abbrev Sd (f:Nat) (pf:PF):Prop:=Sound Tryz.prog GLB f pf
theorem sf {F:FEnv} {f:FuncId} {fn:Func} {pf:PF} (hE:EnvOk Tryz.prog GLB F.E) (hf:Tryz.prog.funcs[f]?=some fn) (he : ∀ a,evFun F fn pf.params pf.rets pf.rk a=pf.fn a) (hn:(fn.name == "runtime.NumGoroutine")=false:=by kernel_rfl):Sd f pf:=sound_fun hE hf hn fun a o h=>(he a).trans h
def oP (pf:PF) (v:outT pf.params pf.rets):PF:={pf with fn:=fun _=>some v}
def sqL:Code→Code | .seq a _=>a|c=>c
def sqR:Code→Code | .seq _ b=>b|c=>c
def cnA:Code→Code | .cond _ a _=>a|c=>c
def rn (F:FEnv) (c:Code) (st:St):St:=match evCode F c st (fun _ s=>some s) with|some s=>s|none=>st
def rgo (F:FEnv) (c:Code) (lo hi:Nat) (st:St):St:=match c with | .region _ ops _=>(match evReg F.E ops.toList ((ops.toList.take hi).drop lo) st some with|some s=>s|none=>st)|_=>st
def en (fn:Func) (ps:List (PK×Ty)) (args:argT ps):St:=match enterArgs ps args 0 with|some (avs,es,j)=>{ slots:=avs++List.replicate (fn.ntmps - avs.length) (.tup []),tab:=es,nxt:=j,lvl:=0 }|none=>⟨[],[],0,0⟩
def evF (F:FEnv) (fn:Func) (ps:List (PK×Ty)) (rets:List Ty) (rk:RK) (args:argT ps) (c:Code) (st:St):Option (outT ps rets):=evCode F c st fun x st=>match x with | .exit _=>none | .normal=>finFun F fn ps rets rk args st | .ret=>finFun F fn ps rets rk args st
theorem bc {α β:Type} {x:Option α} {f g:α→Option β} (h : ∀ y,f y=g y):x.bind f=x.bind g:=by rw[funext h]
theorem cc {α:Type} {c:Bool} {x y z t:α} (h:x=z) (k:y=t):(bif c then x else y)=bif c then z else t:=by rw[h,k]
def F4:=fe [] []
def pf4:PF:=⟨[R (.sl 5 .u8)],[.bool],.uniq,laws_big⟩
theorem s4:Sd 4 pf4:=sf (F:=F4) (ek trivial) Tryz.func4 fun a=>by kernel_rfl
def F15:=fe [] [(3,[.slot 3 .i64 (.imm false),.slot 4 .i64 (.imm false)])]
def pf15:NF:=⟨[(.rd,(.sl 5 .u8))],q6,spec_l1New⟩
theorem e15 (a:argT [(.rd,(.sl 5 .u8))]):evNewFun F15 Tryz.f15 [(.rd,(.sl 5 .u8))] q6 a=spec_l1New a:=by kernel_rfl
theorem s15:SoundN Tryz.prog GLB 15 pf15:=sound_funN (F:=F15) (ek trivial) Tryz.func15 (by kernel_rfl) (fun a o h=>(e15 a).trans h)
def F66:=fe [] []
def pf66:PF:=⟨[(.ptr,q6)],[.i64],.uniq,spec_l1Byte⟩
theorem s66:Sd 66 pf66:=sf (F:=F66) (ek trivial) Tryz.func66 fun a=>by kernel_rfl
def F33:=fe [(66,pf66)] []
def pf33:PF:=⟨[(.ptr,q6),R .i64],[.i64],.uniq,spec_l1Below⟩
theorem s33:Sd 33 pf33:=sf (F:=F33) (ek ⟨s66,trivial⟩) Tryz.func33 fun a=>by kernel_rfl
def F34:=fe [] [(2,[.slot 5 .i64 (.imm false)])]
def pf34:PF:=⟨[R (.sl 3 .i64),R .i64],[.bool],.uniq,spec_SetHas⟩
theorem s34:Sd 34 pf34:=sf (F:=F34) (ek trivial) Tryz.func34 fun a=>by kernel_rfl
def F20:=fe [(34,pf34)] [(4,[.slot 5 .i64 (.imm false)])]
def pf20:PF:=⟨[R (.sl 3 .i64),R .i64],[(.sl 3 .i64)],.uniq,spec_SetAdd⟩
theorem s20:Sd 20 pf20:=sf (F:=F20) (ek ⟨s34,trivial⟩) Tryz.func20 fun a=>by kernel_rfl
def F19:=fe [(33,pf33)] []
def pf19:PF:=⟨[(.ptr,q6),R .i64],[.bool],.uniq,spec_l1Once⟩
theorem s19:Sd 19 pf19:=sf (F:=F19) (ek ⟨s33,trivial⟩) Tryz.func19 fun a=>by kernel_rfl
def F39:=fe [(33,pf33)] []
def pf39:PF:=⟨[(.ptr,q6),R (.sl 3 .i64)],[.i64],.uniq,spec_l1PickInt⟩
theorem s39:Sd 39 pf39:=sf (F:=F39) (ek ⟨s33,trivial⟩) Tryz.func39 fun a=>by kernel_rfl
def F16:=fe [(33,pf33),(20,pf20),(19,pf19),(39,pf39)] [(3,[.slot 5 (.sl 3 .i64) (.own true),.slot 6 .i64 (.imm false),.keep 0 q6 [2,0,0]])]
def pf16:PF:=⟨[(.ptr,q6),R .i64],[(.sl 3 .i64)],.uniq,spec_l6DrawSet⟩
theorem s16:Sd 16 pf16:=sf (F:=F16) (ek ⟨s33,s20,s19,s39,trivial⟩) Tryz.func16 fun a=>by kernel_rfl
def F40:=fe [(33,pf33),(39,pf39)] []
def pf40:PF:=⟨[(.ptr,q6)],[q5],.uniq,spec_l2DrawRight⟩
theorem s40:Sd 40 pf40:=sf (F:=F40) (ek ⟨s33,s39,trivial⟩) Tryz.func40 fun a=>by kernel_rfl
def F71:=fe [] []
def pf71:PF:=⟨[R .i64,R .i64,R .i64],[.bool],.uniq,spec_l1In⟩
theorem s71:Sd 71 pf71:=sf (F:=F71) (ek trivial) Tryz.func71 fun a=>by kernel_rfl
def F72:=fe [(71,pf71)] []
def pf72:PF:=⟨[R q5],[.bool],.uniq,spec_TxOk⟩
theorem s72:Sd 72 pf72:=sf (F:=F72) (ek ⟨s71,trivial⟩) Tryz.func72 fun a=>by kernel_rfl
def F73:=fe [] [(5,[.slot 0 .i64 (.imm false),.slot 4 .str (.imm false)])]
def pf73:PF:=⟨[R .i64],[.str],.uniq,spec_Digits⟩
theorem s73:Sd 73 pf73:=sf (F:=F73) (ek trivial) Tryz.func73 fun a=>by kernel_rfl
def F103:=fe [(72,pf72),(73,pf73)] []
def pf103:PF:=⟨[R q5],[.str],.uniq,spec_TxText⟩
theorem s103:Sd 103 pf103:=sf (F:=F103) (ek ⟨s72,s73,trivial⟩) Tryz.func103 fun a=>by kernel_rfl
def F74:=fe [(72,pf72),(103,pf103)] [(3,[.slot 3 .str (.imm false),.slot 4 .i64 (.imm false)])]
def pf74:PF:=⟨[R (.sl 37 q5)],[.str],.uniq,spec_TxsText⟩
theorem s74:Sd 74 pf74:=sf (F:=F74) (ek ⟨s72,s103,trivial⟩) Tryz.func74 fun a=>by kernel_rfl
def F76:=fe [] [(4,[.slot 5 (.sl 9 .str) (.own true),.slot 6 .i64 (.imm false),.slot 7 .i64 (.imm false)])]
def pf76:PF:=⟨[R .str,R .u8],[(.sl 9 .str)],.uniq,spec_Split⟩
theorem s76:Sd 76 pf76:=sf (F:=F76) (ek trivial) Tryz.func76 fun a=>by kernel_rfl
def F77:=fe [] [(2,[.slot 7 .i64 (.imm false)])]
def pf77:PF:=⟨[R .str,R .u8],[.str,.str,.bool],.uniq,spec_l2Cut⟩
theorem s77:Sd 77 pf77:=sf (F:=F77) (ek trivial) Tryz.func77 fun a=>by kernel_rfl
def F78:=fe [(73,pf73)] [(5,[.slot 4 .i64 (.imm false),.slot 5 .i64 (.imm false)])]
def pf78:PF:=⟨[R .str],[.i64,.bool],.uniq,spec_Number⟩
theorem s78:Sd 78 pf78:=sf (F:=F78) (ek ⟨s73,trivial⟩) Tryz.func78 fun a=>by kernel_rfl
def F104:=fe [(77,pf77),(78,pf78),(103,pf103)] []
def pf104:PF:=⟨[R .str],[q5,.bool],.uniq,spec_TxOf⟩
theorem s104:Sd 104 pf104:=sf (F:=F104) (ek ⟨s77,s78,s103,trivial⟩) Tryz.func104 fun a=>by kernel_rfl
def F79:=fe [(76,pf76),(104,pf104)] [(6,[.slot 4 (.sl 37 q5) (.own true),.slot 6 .i64 (.imm false)])]
def pf79:PF:=⟨[R .str],[(.sl 37 q5),.bool],.uniq,spec_TxsOf⟩
theorem s79:Sd 79 pf79:=sf (F:=F79) (ek ⟨s76,s104,trivial⟩) Tryz.func79 fun a=>by kernel_rfl
def F42:=fe [(76,pf76),(77,pf77),(78,pf78),(79,pf79)] [(10,[.slot 5 q15 (.own true),.slot 7 .i64 (.imm false),.slot 8 .i64 (.imm false)])]
def pf42:PF:=⟨[R .str],[q15,.bool],.uniq,spec_Steps⟩
theorem s42:Sd 42 pf42:=sf (F:=F42) (ek ⟨s76,s77,s78,s79,trivial⟩) Tryz.func42 fun a=>by kernel_rfl
def F75:=fe [(42,pf42)] []
def pf75:PF:=⟨[R .str],[.bool],.uniq,spec_NameOk⟩
theorem s75:Sd 75 pf75:=sf (F:=F75) (ek ⟨s42,trivial⟩) Tryz.func75 fun a=>by kernel_rfl
def F41:=fe [(72,pf72),(73,pf73),(74,pf74),(75,pf75)] [(2,[.slot 7 .i64 (.imm false)])]
def pf41:PF:=⟨[R .str,R .i64,R (.sl 37 q5)],[.str],.uniq,spec_NameOf⟩
theorem s41:Sd 41 pf41:=sf (F:=F41) (ek ⟨s72,s73,s74,s75,trivial⟩) Tryz.func41 fun a=>by kernel_rfl
def F18:=fe [(33,pf33),(40,pf40),(41,pf41)] [(4,[.slot 3 .str (.imm false),.slot 4 .i64 (.imm false),.slot 5 .i64 (.imm false),.keep 0 q6 [2,0,0]]),(9,[.slot 6 (.sl 37 q5) (.own true),.slot 7 .i64 (.imm false),.keep 0 q6 [2,0,0]])]
def pf18:PF:=⟨[(.ptr,q6)],[.str],.uniq,spec_l5DrawRight⟩
theorem s18:Sd 18 pf18:=sf (F:=F18) (ek ⟨s33,s40,s41,trivial⟩) Tryz.func18 fun a=>by kernel_rfl
def F21:=fe [(42,pf42)] []
def pf21:PF:=⟨[R .str],[.i64],.uniq,spec_ViewOf⟩
theorem s21:Sd 21 pf21:=sf (F:=F21) (ek ⟨s42,trivial⟩) Tryz.func21 fun a=>by kernel_rfl
def F17:=fe [(33,pf33),(18,pf18),(21,pf21)] [(3,[.slot 3 q8 (.own true),.slot 4 .i64 (.imm false),.keep 0 q6 [2,0,0]])]
def pf17:PF:=⟨[(.ptr,q6)],[q8],.uniq,spec_l18DrawSaid⟩
theorem s17:Sd 17 pf17:=sf (F:=F17) (ek ⟨s33,s18,s21,trivial⟩) Tryz.func17 fun a=>by kernel_rfl
def F5:FEnv:=⟨⟨TYS,[(16,pf16),(17,pf17),(18,pf18),(19,pf19),(20,pf20),(21,pf21)],EQS,[(15,pf15)],[],false,[],[],[],false⟩,[]⟩
def pf5:PF:=⟨[R (.sl 5 .u8)],[(.sl 3 .i64),q8,.i64,.str,(.sl 3 .i64)],.uniq,spec_DrawSigned⟩
theorem s5:Sd 5 pf5:=sf (F:=F5) (envOK ⟨s16,s17,s18,s19,s20,s21,trivial⟩ ⟨s15,trivial⟩ trivial trivial trivial trivial) Tryz.func5 fun a=>by kernel_rfl
def F80:=fe [] [(2,[.slot 8 .i64 (.imm false)])]
def pf80:PF:=⟨[R (.sl 3 .i64),R .i64],[.i64],.uniq,slices_Index_int⟩
theorem s80:Sd 80 pf80:=sf (F:=F80) (ek trivial) Tryz.func80 fun a=>by kernel_rfl
def F43:=fe [(80,pf80)] []
def pf43:PF:=⟨[R (.sl 3 .i64),R .i64],[.bool],.uniq,slices_Contains_int⟩
theorem s43:Sd 43 pf43:=sf (F:=F43) (ek ⟨s80,trivial⟩) Tryz.func43 fun a=>by kernel_rfl
def F22:=fe [(43,pf43)] []
def pf22:PF:=⟨[R (.sl 3 .i64),R .i64],[.bool],.uniq,impl_SetHas⟩
theorem s22:Sd 22 pf22:=sf (F:=F22) (ek ⟨s43,trivial⟩) Tryz.func22 fun a=>by kernel_rfl
def F44:=fe [] [(2,[.slot 8 .i64 (.imm false)])]
def pf44:PF:=⟨[R q8,R (.pair .i64 (.pair .str .i64))],[.i64],.uniq,slices_Index_impl_Said⟩
theorem s44:Sd 44 pf44:=sf (F:=F44) (ek trivial) Tryz.func44 fun a=>by kernel_rfl
def F23:=fe [(44,pf44)] []
def pf23:PF:=⟨[R q8,R (.pair .i64 (.pair .str .i64))],[.bool],.uniq,slices_Contains_impl_Said⟩
theorem s23:Sd 23 pf23:=sf (F:=F23) (ek ⟨s44,trivial⟩) Tryz.func23 fun a=>by kernel_rfl
def F6:=fe [(22,pf22),(23,pf23)] [(2,[.slot 15 .i64 (.imm false)])]
def pf6:PF:=⟨[R (.sl 3 .i64),R q8,R .i64,R .str,R (.sl 3 .i64)],[.bool],.uniq,impl_Signed⟩
theorem s6:Sd 6 pf6:=sf (F:=F6) (ek ⟨s22,s23,trivial⟩) Tryz.func6 fun a=>by kernel_rfl
def F67:=fe [(71,pf71)] []
def pf67:PF:=⟨[R (.pair .i64 .i64)],[.bool],.uniq,spec_ConfOk⟩
theorem s67:Sd 67 pf67:=sf (F:=F67) (ek ⟨s71,trivial⟩) Tryz.func67 fun a=>by kernel_rfl
def F86:=fe [] [(2,[.slot 5 .i64 (.imm false)])]
def pf86:PF:=⟨[R .i64,R (.sl 3 .i64)],[.bool],.uniq,spec_SetOk⟩
theorem s86:Sd 86 pf86:=sf (F:=F86) (ek trivial) Tryz.func86 fun a=>by kernel_rfl
def F87:=fe [(67,pf67)] []
def pf87:PF:=⟨[R (.pair .i64 .i64)],[.i64],.uniq,spec_Quorum⟩
theorem s87:Sd 87 pf87:=sf (F:=F87) (ek ⟨s67,trivial⟩) Tryz.func87 fun a=>by kernel_rfl
def F49:=fe [(67,pf67),(75,pf75),(21,pf21),(86,pf86),(87,pf87)] []
def pf49:PF:=⟨[R (.pair .i64 .i64),R q4],[.bool],.uniq,spec_QcOk⟩
theorem s49:Sd 49 pf49:=sf (F:=F49) (ek ⟨s67,s75,s21,s86,s87,trivial⟩) Tryz.func49 fun a=>by kernel_rfl
def F137:=fe [(71,pf71),(49,pf49),(75,pf75)] []
def pf137:PF:=⟨[R (.pair .i64 .i64),R q7],[.bool],.uniq,spec_SafeOk⟩
theorem s137:Sd 137 pf137:=sf (F:=F137) (ek ⟨s71,s49,s75,trivial⟩) Tryz.func137 fun a=>by kernel_rfl
def F172:=fe [] []
def pf172:PF:=⟨[R q5,R q5],[.bool],.uniq,spec_l4Before⟩
theorem s172:Sd 172 pf172:=sf (F:=F172) (ek trivial) Tryz.func172 fun a=>by kernel_rfl
def F138:=fe [(72,pf72),(172,pf172)] [(2,[.slot 3 .i64 (.imm false)])]
def pf138:PF:=⟨[R (.sl 37 q5)],[.bool],.uniq,spec_PoolOk⟩
theorem s138:Sd 138 pf138:=sf (F:=F138) (ek ⟨s72,s172,trivial⟩) Tryz.func138 fun a=>by kernel_rfl
def F70:=fe [(67,pf67),(71,pf71),(86,pf86),(75,pf75),(21,pf21)] []
def pf70:PF:=⟨[R (.pair .i64 .i64),R q4],[.bool],.uniq,spec_PartOk⟩
theorem s70:Sd 70 pf70:=sf (F:=F70) (ek ⟨s67,s71,s86,s75,s21,trivial⟩) Tryz.func70 fun a=>by kernel_rfl
def F173:=fe [] []
def pf173:PF:=⟨[R q4,R q4],[.bool],.uniq,spec_l10Before⟩
theorem s173:Sd 173 pf173:=sf (F:=F173) (ek trivial) Tryz.func173 fun a=>by kernel_rfl
def F139:=fe [(70,pf70),(173,pf173)] [(2,[.slot 5 .i64 (.imm false)])]
def pf139:PF:=⟨[R (.pair .i64 .i64),R (.sl 35 q4)],[.bool],.uniq,spec_TableOk⟩
theorem s139:Sd 139 pf139:=sf (F:=F139) (ek ⟨s70,s173,trivial⟩) Tryz.func139 fun a=>by kernel_rfl
def F140:=fe [(71,pf71)] []
def pf140:PF:=⟨[R q11],[.bool],.uniq,spec_DiskOk⟩
theorem s140:Sd 140 pf140:=sf (F:=F140) (ek ⟨s71,trivial⟩) Tryz.func140 fun a=>by kernel_rfl
def F150:=fe [] [(2,[.slot 5 .i64 (.imm false)])]
def pf150:PF:=⟨[R (.sl 3 .i64),R (.sl 3 .i64)],[.bool],.uniq,spec_l7Ints⟩
theorem s150:Sd 150 pf150:=sf (F:=F150) (ek trivial) Tryz.func150 fun a=>by kernel_rfl
def F125:=fe [(150,pf150)] []
def pf125:PF:=⟨[R q4,R q4],[.bool],.uniq,spec_QcSame⟩
theorem s125:Sd 125 pf125:=sf (F:=F125) (ek ⟨s150,trivial⟩) Tryz.func125 fun a=>by kernel_rfl
def F123:=fe [(125,pf125)] []
def pf123:PF:=⟨[R (.pair .str q4),R (.pair .str q4)],[.bool],.uniq,spec_BlockSame⟩
theorem s123:Sd 123 pf123:=sf (F:=F123) (ek ⟨s125,trivial⟩) Tryz.func123 fun a=>by kernel_rfl
def F124:=fe [(150,pf150)] []
def pf124:PF:=⟨[R q4,R q4],[.bool],.uniq,spec_l14Part⟩
theorem s124:Sd 124 pf124:=sf (F:=F124) (ek ⟨s150,trivial⟩) Tryz.func124 fun a=>by kernel_rfl
def F102:=fe [(123,pf123),(124,pf124),(125,pf125)] []
def pf102:PF:=⟨[R q2,R q2],[.bool],.uniq,spec_MsgSame⟩
theorem s102:Sd 102 pf102:=sf (F:=F102) (ek ⟨s123,s124,s125,trivial⟩) Tryz.func102 fun a=>by kernel_rfl
def F68:=fe [(102,pf102)] []
def pf68:PF:=⟨[R q2],[.bool],.uniq,spec_l14Zero⟩
theorem s68:Sd 68 pf68:=sf (F:=F68) (ek ⟨s102,trivial⟩) Tryz.func68 fun a=>by kernel_rfl
def F83:=fe [] []
def pf83:PF:=⟨[R .i64,R .i64],[.i64],.uniq,spec_l1Max⟩
theorem s83:Sd 83 pf83:=sf (F:=F83) (ek trivial) Tryz.func83 fun a=>by kernel_rfl
def F85:=fe [(75,pf75),(83,pf83)] [(4,[.slot 3 .i64 (.imm false)])]
def pf85:PF:=⟨[R .str],[.str],.uniq,spec_UpOf⟩
theorem s85:Sd 85 pf85:=sf (F:=F85) (ek ⟨s75,s83,trivial⟩) Tryz.func85 fun a=>by kernel_rfl
def F69:=fe [(49,pf49),(75,pf75),(85,pf85)] []
def pf69:PF:=⟨[R (.pair .i64 .i64),R (.pair .str q4)],[.bool],.uniq,spec_BlockOk⟩
theorem s69:Sd 69 pf69:=sf (F:=F69) (ek ⟨s49,s75,s85,trivial⟩) Tryz.func69 fun a=>by kernel_rfl
def F36:=fe [(67,pf67),(68,pf68),(69,pf69),(70,pf70),(71,pf71),(49,pf49),(72,pf72)] []
def pf36:PF:=⟨[R (.pair .i64 .i64),R q2],[.bool],.uniq,spec_MsgOk⟩
theorem s36:Sd 36 pf36:=sf (F:=F36) (ek ⟨s67,s68,s69,s70,s71,s49,s72,trivial⟩) Tryz.func36 fun a=>by kernel_rfl
def F111:=fe [(67,pf67),(71,pf71),(137,pf137),(138,pf138),(139,pf139),(140,pf140),(36,pf36)] [(4,[.slot 5 .i64 (.imm false)])]
def pf111:PF:=⟨[R (.pair .i64 .i64),R q1],[.bool],.uniq,spec_RepOk⟩
theorem s111:Sd 111 pf111:=sf (F:=F111) (ek ⟨s67,s71,s137,s138,s139,s140,s36,trivial⟩) Tryz.func111 fun a=>by kernel_rfl
def F105:=fe [(111,pf111)] []
def pf105:PF:=⟨[R (.pair .i64 .i64),R .i64],[q1,.bool],.uniq,spec_RepNew⟩
theorem s105:Sd 105 pf105:=sf (F:=F105) (ek ⟨s111,trivial⟩) Tryz.func105 fun a=>by kernel_rfl
def F126:=fe [(67,pf67)] []
def pf126:PF:=⟨[R (.pair .i64 .i64)],[.i64],.uniq,spec_Faults⟩
theorem s126:Sd 126 pf126:=sf (F:=F126) (ek ⟨s67,trivial⟩) Tryz.func126 fun a=>by kernel_rfl
def F183:=fe [] [(3,[.slot 7 .i64 (.imm false),.slot 8 .i64 (.imm false)])]
def pf183:PF:=⟨[R (.sl 5 .u8),R .i64],[.i64,.i64,.bool],.uniq,spec_GetNum⟩
theorem s183:Sd 183 pf183:=sf (F:=F183) (ek trivial) Tryz.func183 fun a=>by kernel_rfl
def F151:=fe [(183,pf183)] []
def pf151:PF:=⟨[(.ptr,q12)],[.i64],.uniq,spec_l12Num⟩
theorem s151:Sd 151 pf151:=sf (F:=F151) (ek ⟨s183,trivial⟩) Tryz.func151 fun a=>by kernel_rfl
def F184:=fe [(183,pf183)] []
def pf184:PF:=⟨[R (.sl 5 .u8),R .i64],[.str,.i64,.bool],.uniq,spec_GetText⟩
theorem s184:Sd 184 pf184:=sf (F:=F184) (ek ⟨s183,trivial⟩) Tryz.func184 fun a=>by kernel_rfl
def F152:=fe [(184,pf184)] []
def pf152:PF:=⟨[(.ptr,q12)],[.str],.uniq,spec_l12Text⟩
theorem s152:Sd 152 pf152:=sf (F:=F152) (ek ⟨s184,trivial⟩) Tryz.func152 fun a=>by kernel_rfl
def F154:=fe [(151,pf151)] [(4,[.slot 3 (.sl 3 .i64) (.own true),.slot 5 .i64 (.imm false),.keep 0 q12 [2,0,0]])]
def pf154:PF:=⟨[(.ptr,q12)],[(.sl 3 .i64)],.uniq,spec_l12Who⟩
theorem s154:Sd 154 pf154:=sf (F:=F154) (ek ⟨s151,trivial⟩) Tryz.func154 fun a=>by kernel_rfl
def F153:=fe [(151,pf151),(152,pf152),(154,pf154)] []
def pf153:PF:=⟨[(.ptr,q12)],[q4],.uniq,spec_l12Qc⟩
theorem s153:Sd 153 pf153:=sf (F:=F153) (ek ⟨s151,s152,s154,trivial⟩) Tryz.func153 fun a=>by kernel_rfl
def F127:=fe [(151,pf151),(152,pf152),(153,pf153),(154,pf154),(36,pf36)] []
def pf127:PF:=⟨[R (.pair .i64 .i64),R (.sl 5 .u8)],[q2,.bool],.uniq,spec_MsgOf⟩
theorem s127:Sd 127 pf127:=sf (F:=F127) (ek ⟨s151,s152,s153,s154,s36,trivial⟩) Tryz.func127 fun a=>by kernel_rfl
def F106:=fe [(67,pf67),(86,pf86),(126,pf126),(111,pf111),(127,pf127),(71,pf71),(75,pf75),(21,pf21)] [(4,[.slot 3 .i64 (.imm false)]),(9,[.slot 4 .i64 (.imm false)]),(15,[.slot 7 .i64 (.imm false)])]
def pf106:PF:=⟨[R q3],[.bool],.uniq,spec_WorldOk⟩
theorem s106:Sd 106 pf106:=sf (F:=F106) (ek ⟨s67,s86,s126,s111,s127,s71,s75,s21,trivial⟩) Tryz.func106 fun a=>by kernel_rfl
def F81:=fe [(67,pf67),(105,pf105),(106,pf106)] [(3,[.slot 7 .i64 (.imm false),.box 5 q3 (.own true)])]
def pf81:PF:=⟨[R (.pair .i64 .i64),R (.sl 3 .i64)],[q3,.bool],.uniq,spec_WorldNew⟩
theorem s81:Sd 81 pf81:=sf (F:=F81) (ek ⟨s67,s105,s106,trivial⟩) Tryz.func81 fun a=>by kernel_rfl
def F45:=fe [(39,pf39),(33,pf33),(19,pf19),(81,pf81)] []
def pf45:PF:=⟨[(.ptr,q6)],[q3],.uniq,spec_l20DrawStart⟩
theorem s45:Sd 45 pf45:=sf (F:=F45) (ek ⟨s39,s33,s19,s81,trivial⟩) Tryz.func45 fun a=>by kernel_rfl
def F37:=fe [(67,pf67)] []
def pf37:PF:=⟨[R (.pair .i64 .i64),R .i64],[.i64],.uniq,spec_Root⟩
theorem s37:Sd 37 pf37:=sf (F:=F37) (ek ⟨s67,trivial⟩) Tryz.func37 fun a=>by kernel_rfl
def F141:=fe [] []
def pf141:PF:=⟨[R q4],[q4],.uniq,spec_l10Copy⟩
theorem s141:Sd 141 pf141:=sf (F:=F141) (ek trivial) Tryz.func141 fun a=>by kernel_rfl
def F112:=fe [(141,pf141)] [(2,[.slot 7 .i64 (.imm false),.box 1 q4 (.own true)])]
def pf112:PF:=⟨[R (.sl 35 q4),R .i64,R .str],[q4],.uniq,spec_TableGet⟩
theorem s112:Sd 112 pf112:=sf (F:=F112) (ek ⟨s141,trivial⟩) Tryz.func112 fun a=>by kernel_rfl
def F114:=fe [] [(3,[.slot 2 .i64 (.imm false),.box 2 q10 (.own true)])]
def pf114:PF:=⟨[],[q10],.uniq,spec_LedgerNew⟩
theorem s114:Sd 114 pf114:=sf (F:=F114) (ek trivial) Tryz.func114 fun a=>by kernel_rfl
def F115:=fe [(42,pf42)] [(4,[.slot 3 (.sl 37 q5) (.own true),.slot 6 .i64 (.imm false)])]
def pf115:PF:=⟨[R .str],[(.sl 37 q5)],.uniq,spec_TxsIn⟩
theorem s115:Sd 115 pf115:=sf (F:=F115) (ek ⟨s42,trivial⟩) Tryz.func115 fun a=>by kernel_rfl
def F142:=fe [] []
def pf142:PF:=⟨[R q10],[q10],.uniq,spec_l3Copy⟩
theorem s142:Sd 142 pf142:=sf (F:=F142) (ek trivial) Tryz.func142 fun a=>by kernel_rfl
def F174:=fe [(71,pf71)] [(4,[.slot 3 .i64 (.imm false)])]
def pf174:PF:=⟨[R q10],[.bool],.uniq,spec_LedgerOk⟩
theorem s174:Sd 174 pf174:=sf (F:=F174) (ek ⟨s71,trivial⟩) Tryz.func174 fun a=>by kernel_rfl
def F143:=fe [(142,pf142),(174,pf174),(72,pf72)] []
def pf143:PF:=⟨[R q10,R q5],[q10,.i64],.uniq,spec_Pay⟩
theorem s143:Sd 143 pf143:=sf (F:=F143) (ek ⟨s142,s174,s72,trivial⟩) Tryz.func143 fun a=>by kernel_rfl
def F113:=fe [(142,pf142),(143,pf143)] [(4,[.slot 7 (.sl 3 .i64) (.own true),.slot 8 .i64 (.imm false),.box 7 q10 (.own true)])]
def pf113:PF:=⟨[R q10,R (.sl 37 q5)],[q10,(.sl 3 .i64)],.uniq,spec_PayAll⟩
theorem s113:Sd 113 pf113:=sf (F:=F113) (ek ⟨s142,s143,trivial⟩) Tryz.func113 fun a=>by kernel_rfl
def F116:=fe [(142,pf142),(143,pf143)] [(4,[.slot 5 (.sl 37 q5) (.own true),.slot 7 .i64 (.imm false),.box 7 q10 (.own true)])]
def pf116:PF:=⟨[R (.sl 37 q5),R q10],[(.sl 37 q5)],.uniq,spec_PoolTake⟩
theorem s116:Sd 116 pf116:=sf (F:=F116) (ek ⟨s142,s143,trivial⟩) Tryz.func116 fun a=>by kernel_rfl
def F51:=fe [] []
def pf51:PF:=⟨[R q4],[q4],.uniq,spec_l7Copy⟩
theorem s51:Sd 51 pf51:=sf (F:=F51) (ek trivial) Tryz.func51 fun a=>by kernel_rfl
def F53:=fe [(41,pf41),(51,pf51),(69,pf69),(21,pf21)] []
def pf53:PF:=⟨[R (.pair .i64 .i64),R q4,R .i64,R (.sl 37 q5)],[(.pair .str q4),.bool],.uniq,spec_BlockNew⟩
theorem s53:Sd 53 pf53:=sf (F:=F53) (ek ⟨s41,s51,s69,s21,trivial⟩) Tryz.func53 fun a=>by kernel_rfl
def F84:=fe [(111,pf111),(37,pf37),(112,pf112),(87,pf87),(114,pf114),(115,pf115),(113,pf113),(116,pf116),(53,pf53)] []
def pf84:PF:=⟨[R (.pair .i64 .i64),R q1],[(.pair .str q4),.bool],.uniq,spec_Ask⟩
theorem s84:Sd 84 pf84:=sf (F:=F84) (ek ⟨s111,s37,s112,s87,s114,s115,s113,s116,s53,trivial⟩) Tryz.func84 fun a=>by kernel_rfl
def F52:=fe [] []
def pf52:PF:=⟨[R .i64,R .i64],[.i64],.uniq,spec_l1Min⟩
theorem s52:Sd 52 pf52:=sf (F:=F52) (ek trivial) Tryz.func52 fun a=>by kernel_rfl
def F48:=fe [(33,pf33),(41,pf41),(52,pf52),(19,pf19),(85,pf85),(20,pf20)] [(11,[.slot 7 (.sl 3 .i64) (.own true),.slot 9 .i64 (.imm false)])]
def pf48:PF:=⟨[(.ptr,q6),R q3],[q2],.uniq,spec_l20DrawVotes⟩
theorem s48:Sd 48 pf48:=sf (F:=F48) (ek ⟨s33,s41,s52,s19,s85,s20,trivial⟩) Tryz.func48 fun a=>by kernel_rfl
def F50:=fe [] []
def pf50:PF:=⟨[],[q4],.uniq,spec_QcFirst⟩
theorem s50:Sd 50 pf50:=sf (F:=F50) (ek trivial) Tryz.func50 fun a=>by kernel_rfl
def F25:=fe [(48,pf48),(49,pf49),(50,pf50),(19,pf19),(33,pf33),(51,pf51),(52,pf52),(37,pf37),(40,pf40),(53,pf53)] [(17,[.slot 8 .i64 (.imm false),.slot 9 .i64 (.imm false)])]
def pf25:PF:=⟨[(.ptr,q6),R q3],[q2],.uniq,spec_l20DrawLie⟩
def l25b:Code:=match Tryz.f25.body with|some b=>b|none=>.skip
def l25R0:Code:=sqL l25b
def l25R1:Code:=sqL (sqR l25b)
def l25R2:Code:=sqL (sqR (sqR l25b))
def l25X:Code:=sqR (sqR (sqR l25b))
def l25R3:Code:=sqL (sqL l25X)
def l25C:Code:=sqR (sqL l25X)
def l25E:Code:=sqR l25X
def l25A:Code:=cnA l25C
def l25R4:Code:=sqL l25A
def l25R5:Code:=sqL (sqR l25A)
def l25R6:Code:=cnA (sqR (sqR l25A))
def l25sB (a:argT pf25.params) (r0:outT pf48.params pf48.rets) (r1:outT pf49.params pf49.rets):St:=rn (fe [(48,oP pf48 r0),(49,oP pf49 r1)] []) (.seq l25R0 (.seq l25R1 (.seq l25R2 l25R3))) (en Tryz.f25 pf25.params a)
def l25s5 (a:argT pf25.params) (r0:outT pf48.params pf48.rets) (r1:outT pf49.params pf49.rets) (r2:outT pf50.params pf50.rets):St:=rgo (fe [(50,oP pf50 r2)] []) l25R5 0 5 (rn (fe [(50,oP pf50 r2)] []) l25R4 (l25sB a r0 r1))
def l25sZ (a:argT pf25.params) (r0:outT pf48.params pf48.rets) (r1:outT pf49.params pf49.rets) (r2:outT pf50.params pf50.rets):St:=rgo (fe [] []) l25R5 5 8 ((l25s5 a r0 r1 r2).put (some 35) (.v (.one (.b false))))
def l25sF (a:argT pf25.params) (r0:outT pf48.params pf48.rets) (r1:outT pf49.params pf49.rets) (r2:outT pf50.params pf50.rets) (r3:outT pf19.params pf19.rets):St:=rgo (fe [(19,oP pf19 r3)] []) l25R5 5 8 ((l25s5 a r0 r1 r2).put (some 35) (.v (.one (.b true))))
theorem l25fr (rest:Code) (a:argT pf25.params) {β:Type} (k:X→St→Option β):evCode F25 (.seq l25R0 (.seq l25R1 (.seq l25R2 (.seq (.seq l25R3 l25C) rest)))) (en Tryz.f25 pf25.params a) k=((spec_l20DrawVotes (a.1,(a.2.1,()))).bind fun r0=>((spec_QcOk (a.2.1.1,(r0.2.1.2.2.2.1,()))).bind fun r1=>(bif (!r1.1) then ((spec_QcFirst ()).bind fun r2=>(bif (decide ((((List.length a.2.1.2.2.1):Nat):Int)>0)) then ((spec_l1Once ((a.1.1,r0.1.2),(2,()))).bind fun r3=>(bif r3.2.1 then (evCode F25 (.seq l25R6 rest) (l25sF a r0 r1 r2 r3) k) else (evCode F25 rest (l25sF a r0 r1 r2 r3) k))) else (evCode F25 rest (l25sZ a r0 r1 r2) k))) else (evCode F25 rest (l25sB a r0 r1) k)))):=by kernel_rfl
theorem l25T (a:argT pf25.params) (r0:outT pf48.params pf48.rets) (r1:outT pf49.params pf49.rets) (r2:outT pf50.params pf50.rets) (r3:outT pf19.params pf19.rets):evF F25 Tryz.f25 pf25.params pf25.rets pf25.rk a (.seq l25R6 l25E) (l25sF a r0 r1 r2 r3)=((spec_l1Below ((a.1.1,r3.1.2),((((List.length a.2.1.2.2.1):Nat):Int),()))).bind fun r4=>(if ((0≤r4.2.1)∧(r4.2.1<(((List.length a.2.1.2.2.1):Nat):Int))) then ((spec_l7Copy ((rd (.pair .i64 (.pair .i64 (.pair .i64 (.pair (.pair .i64 (.pair .i64 (.pair q13 .str))) (.pair (.sl 0 q5) (.pair (.sl 0 q13) (.pair (.pair (.sl 0 .u8) .i64) (.sl 0 (.pair .i64 (.pair .i64 (.pair .i64 (.pair (.pair .str q13) (.pair q13 (.pair q13 (.pair .i64 q5))))))))))))))) a.2.1.2.2.1 (Int.toNat r4.2.1)).2.2.2.1.2.2.1,())).bind fun r5=>(spec_l20DrawLieT (a,(r0,(r4,r5))))) else none)):=by kernel_rfl
theorem l25F (a:argT pf25.params) (r0:outT pf48.params pf48.rets) (r1:outT pf49.params pf49.rets) (r2:outT pf50.params pf50.rets) (r3:outT pf19.params pf19.rets):evF F25 Tryz.f25 pf25.params pf25.rets pf25.rk a l25E (l25sF a r0 r1 r2 r3)=spec_l20DrawLieF (a,(r0,(r2,r3))):=by kernel_rfl
theorem l25Z (a:argT pf25.params) (r0:outT pf48.params pf48.rets) (r1:outT pf49.params pf49.rets) (r2:outT pf50.params pf50.rets):evF F25 Tryz.f25 pf25.params pf25.rets pf25.rk a l25E (l25sZ a r0 r1 r2)=spec_l20DrawLieZ (a,(r0,r2)):=by kernel_rfl
theorem l25B (a:argT pf25.params) (r0:outT pf48.params pf48.rets) (r1:outT pf49.params pf49.rets):evF F25 Tryz.f25 pf25.params pf25.rets pf25.rk a l25E (l25sB a r0 r1)=spec_l20DrawLieB (a,r0):=by kernel_rfl
theorem l25e (a:argT pf25.params):evFun F25 Tryz.f25 pf25.params pf25.rets pf25.rk a=evF F25 Tryz.f25 pf25.params pf25.rets pf25.rk a (.seq l25R0 (.seq l25R1 (.seq l25R2 (.seq (.seq l25R3 l25C) l25E)))) (en Tryz.f25 pf25.params a):=by kernel_rfl
theorem s25:Sd 25 pf25:=sf (F:=F25) (ek ⟨s48,s49,s50,s19,s33,s51,s52,s37,s40,s53,trivial⟩) Tryz.func25 fun a=>(l25e a).trans ((l25fr l25E a _).trans (bc fun r0=>bc fun r1=>cc (bc fun r2=>cc (bc fun r3=>cc (l25T a r0 r1 r2 r3) (l25F a r0 r1 r2 r3)) (l25Z a r0 r1 r2)) (l25B a r0 r1)))
def F47:=fe [(83,pf83),(33,pf33),(84,pf84),(34,pf34),(19,pf19),(39,pf39),(40,pf40),(25,pf25),(52,pf52)] [(8,[.slot 7 .i64 (.imm false),.box 7 q9 (.own true)]),(19,[.slot 10 .i64 (.imm false),.box 7 q9 (.own true)])]
def pf47:PF:=⟨[(.ptr,q6),R q3],[q9],.uniq,spec_l20DrawDeed⟩
theorem s47:Sd 47 pf47:=sf (F:=F47) (ek ⟨s83,s33,s84,s34,s19,s39,s40,s25,s52,trivial⟩) Tryz.func47 fun a=>by kernel_rfl
def F165:=fe [(51,pf51)] []
def pf165:PF:=⟨[R q7],[q7],.uniq,spec_l11Copy⟩
theorem s165:Sd 165 pf165:=sf (F:=F165) (ek ⟨s51,trivial⟩) Tryz.func165 fun a=>by kernel_rfl
def F166:=fe [(141,pf141)] [(3,[.slot 3 (.sl 35 q4) (.own true),.slot 4 .i64 (.imm false)])]
def pf166:PF:=⟨[R (.sl 35 q4)],[(.sl 35 q4)],.uniq,spec_l10Table⟩
theorem s166:Sd 166 pf166:=sf (F:=F166) (ek ⟨s141,trivial⟩) Tryz.func166 fun a=>by kernel_rfl
def F167:=fe [] []
def pf167:PF:=⟨[R q11],[q11],.uniq,spec_l13Copy⟩
theorem s167:Sd 167 pf167:=sf (F:=F167) (ek trivial) Tryz.func167 fun a=>by kernel_rfl
def F221:=fe [(51,pf51)] []
def pf221:PF:=⟨[R (.pair .str q4)],[(.pair .str q4)],.uniq,spec_l8Copy⟩
theorem s221:Sd 221 pf221:=sf (F:=F221) (ek ⟨s51,trivial⟩) Tryz.func221 fun a=>by kernel_rfl
def F200:=fe [(221,pf221),(141,pf141),(51,pf51)] []
def pf200:PF:=⟨[R q2],[q2],.uniq,spec_l14Copy⟩
theorem s200:Sd 200 pf200:=sf (F:=F200) (ek ⟨s221,s141,s51,trivial⟩) Tryz.func200 fun a=>by kernel_rfl
def F168:=fe [(200,pf200)] [(3,[.slot 3 q14 (.own true),.slot 4 .i64 (.imm false)])]
def pf168:PF:=⟨[R q14],[q14],.uniq,spec_l15Posts⟩
theorem s168:Sd 168 pf168:=sf (F:=F168) (ek ⟨s200,trivial⟩) Tryz.func168 fun a=>by kernel_rfl
def F133:=fe [(165,pf165),(166,pf166),(167,pf167),(168,pf168)] []
def pf133:PF:=⟨[R q1],[q1],.uniq,spec_l15Copy⟩
theorem s133:Sd 133 pf133:=sf (F:=F133) (ek ⟨s165,s166,s167,s168,trivial⟩) Tryz.func133 fun a=>by kernel_rfl
def F211:=fe [(51,pf51)] []
def pf211:PF:=⟨[R q4,R q4],[q4],.uniq,spec_QcLater⟩
theorem s211:Sd 211 pf211:=sf (F:=F211) (ek ⟨s51,trivial⟩) Tryz.func211 fun a=>by kernel_rfl
def F212:=fe [(42,pf42),(85,pf85)] []
def pf212:PF:=⟨[R .str],[.str,.bool],.uniq,spec_Settles⟩
theorem s212:Sd 212 pf212:=sf (F:=F212) (ek ⟨s42,s85,trivial⟩) Tryz.func212 fun a=>by kernel_rfl
def F213:=fe [(75,pf75)] []
def pf213:PF:=⟨[R .str,R .str],[.bool],.uniq,spec_Extends⟩
theorem s213:Sd 213 pf213:=sf (F:=F213) (ek ⟨s75,trivial⟩) Tryz.func213 fun a=>by kernel_rfl
def F192:=fe [(165,pf165),(137,pf137),(49,pf49),(211,pf211),(85,pf85),(21,pf21),(83,pf83),(212,pf212),(213,pf213)] []
def pf192:PF:=⟨[R (.pair .i64 .i64),R q7,R q4],[q7],.uniq,spec_See⟩
theorem s192:Sd 192 pf192:=sf (F:=F192) (ek ⟨s165,s137,s49,s211,s85,s21,s83,s212,s213,trivial⟩) Tryz.func192 fun a=>by kernel_rfl
def F193:=fe [(137,pf137),(69,pf69),(21,pf21)] []
def pf193:PF:=⟨[R (.pair .i64 .i64),R q7,R (.pair .str q4)],[.bool],.uniq,spec_MayVote⟩
theorem s193:Sd 193 pf193:=sf (F:=F193) (ek ⟨s137,s69,s21,trivial⟩) Tryz.func193 fun a=>by kernel_rfl
def F194:=fe [(165,pf165),(193,pf193),(21,pf21)] []
def pf194:PF:=⟨[R (.pair .i64 .i64),R q7,R (.pair .str q4)],[q7,.bool],.uniq,spec_Vote⟩
theorem s194:Sd 194 pf194:=sf (F:=F194) (ek ⟨s165,s193,s21,trivial⟩) Tryz.func194 fun a=>by kernel_rfl
def F214:=fe [(125,pf125)] []
def pf214:PF:=⟨[R q7,R q7],[.bool],.uniq,spec_SafeSame⟩
theorem s214:Sd 214 pf214:=sf (F:=F214) (ek ⟨s125,trivial⟩) Tryz.func214 fun a=>by kernel_rfl
def F188:=fe [(71,pf71)] [(4,[.slot 0 .i64 (.imm false),.slot 3 (.sl 5 .u8) (.own true)])]
def pf188:PF:=⟨[R .i64],[(.sl 5 .u8)],.uniq,spec_PutNum⟩
theorem s188:Sd 188 pf188:=sf (F:=F188) (ek ⟨s71,trivial⟩) Tryz.func188 fun a=>by kernel_rfl
def F189:=fe [(188,pf188)] []
def pf189:PF:=⟨[R .str],[(.sl 5 .u8)],.uniq,spec_PutText⟩
theorem s189:Sd 189 pf189:=sf (F:=F189) (ek ⟨s188,trivial⟩) Tryz.func189 fun a=>by kernel_rfl
def F190:=fe [(49,pf49),(188,pf188),(189,pf189)] [(6,[.slot 5 (.sl 5 .u8) (.own true),.slot 6 .i64 (.imm false)])]
def pf190:PF:=⟨[R (.pair .i64 .i64),R q4],[(.sl 5 .u8)],.uniq,spec_QcBytes⟩
theorem s190:Sd 190 pf190:=sf (F:=F190) (ek ⟨s49,s188,s189,trivial⟩) Tryz.func190 fun a=>by kernel_rfl
def F228:=fe [(137,pf137),(188,pf188),(190,pf190),(189,pf189)] []
def pf228:PF:=⟨[R (.pair .i64 .i64),R q7],[(.sl 5 .u8)],.uniq,spec_SafeBytes⟩
theorem s228:Sd 228 pf228:=sf (F:=F228) (ek ⟨s137,s188,s190,s189,trivial⟩) Tryz.func228 fun a=>by kernel_rfl
def F216:=fe [(228,pf228),(188,pf188)] []
def pf216:PF:=⟨[R (.pair .i64 .i64),R q7],[(.sl 5 .u8)],.uniq,spec_NoteBytes⟩
theorem s216:Sd 216 pf216:=sf (F:=F216) (ek ⟨s228,s188,trivial⟩) Tryz.func216 fun a=>by kernel_rfl
def F215:=fe [(167,pf167),(140,pf140)] []
def pf215:PF:=⟨[R q11,R (.sl 5 .u8)],[q11,.bool],.uniq,spec_Append⟩
theorem s215:Sd 215 pf215:=sf (F:=F215) (ek ⟨s167,s140,trivial⟩) Tryz.func215 fun a=>by kernel_rfl
def F195:=fe [(214,pf214),(216,pf216),(215,pf215),(137,pf137),(165,pf165)] []
def pf195:PF:=⟨[R (.pair .i64 .i64),(.own,q1),R q7],[q1,.bool],.own,spec_l15Write⟩
theorem e195 (a:argT pf195.params):evFunC F195 Tryz.f195 pf195.params pf195.rets pf195.rk a=pf195.fn a:=by kernel_rfl
theorem s195:SoundC Tryz.prog GLB 195 pf195:=sound_funC (F:=F195) (ek ⟨s214,s216,s215,s137,s165,trivial⟩) Tryz.func195 (by kernel_rfl) (by rfl) (fun a o h=>(e195 a).trans h)
def F222:=fe [(20,pf20)] [(3,[.slot 5 (.sl 3 .i64) (.own true),.slot 6 .i64 (.imm false)]),(7,[.slot 5 (.sl 3 .i64) (.own true),.slot 7 .i64 (.imm false)])]
def pf222:PF:=⟨[R (.sl 3 .i64),R (.sl 3 .i64)],[(.sl 3 .i64)],.uniq,spec_SetJoin⟩
theorem s222:Sd 222 pf222:=sf (F:=F222) (ek ⟨s20,trivial⟩) Tryz.func222 fun a=>by kernel_rfl
def F203:=fe [(222,pf222)] []
def pf203:PF:=⟨[R q4,R q4],[q4,.bool],.uniq,spec_PartJoin⟩
theorem s203:Sd 203 pf203:=sf (F:=F203) (ek ⟨s222,trivial⟩) Tryz.func203 fun a=>by kernel_rfl
def F170:=fe [(141,pf141),(173,pf173),(203,pf203),(139,pf139),(70,pf70),(166,pf166)] [(4,[.slot 8 (.sl 35 q4) (.own true),.slot 9 .bool (.imm false),.slot 10 .i64 (.imm false)])]
def pf170:PF:=⟨[R (.pair .i64 .i64),R (.sl 35 q4),R q4],[(.sl 35 q4),.bool],.uniq,spec_TableAdd⟩
theorem s170:Sd 170 pf170:=sf (F:=F170) (ek ⟨s141,s173,s203,s139,s70,s166,trivial⟩) Tryz.func170 fun a=>by kernel_rfl
def F229:=fe [(49,pf49)] []
def pf229:PF:=⟨[R (.pair .i64 .i64),R q4],[q4,.bool],.uniq,spec_PartQc⟩
theorem s229:Sd 229 pf229:=sf (F:=F229) (ek ⟨s49,trivial⟩) Tryz.func229 fun a=>by kernel_rfl
def F171:=fe [(36,pf36),(71,pf71),(200,pf200)] []
def pf171:PF:=⟨[R (.pair .i64 .i64),(.own,q1),R .i64,R q2],[q1,.bool],.own,spec_l16Tell⟩
theorem s171:Sd 171 pf171:=sf (F:=F171) (ek ⟨s36,s71,s200,trivial⟩) Tryz.func171 fun a=>by kernel_rfl
def F217:FEnv:=⟨⟨TYS,[(229,pf229),(192,pf192),(83,pf83),(37,pf37),(171,pf171)],EQS,[],[],false,[(195,pf195)],[],[],false⟩,[]⟩
def pf217:PF:=⟨[R (.pair .i64 .i64),(.own,q1),R q4],[q1,.bool],.own,spec_l16Top⟩
theorem s217:Sd 217 pf217:=sf (F:=F217) (envOK ⟨s229,s192,s83,s37,s171,trivial⟩ trivial trivial s195 trivial trivial) Tryz.func217 fun a=>by kernel_rfl
def F230:=fe [(67,pf67),(71,pf71)] []
def pf230:PF:=⟨[R (.pair .i64 .i64),R .i64,R .i64],[.i64],.uniq,spec_Seat⟩
theorem s230:Sd 230 pf230:=sf (F:=F230) (ek ⟨s67,s71,trivial⟩) Tryz.func230 fun a=>by kernel_rfl
def F233:=fe [(67,pf67),(71,pf71)] []
def pf233:PF:=⟨[R (.pair .i64 .i64),R .i64,R .i64],[.i64],.uniq,spec_Sits⟩
theorem s233:Sd 233 pf233:=sf (F:=F233) (ek ⟨s67,s71,trivial⟩) Tryz.func233 fun a=>by kernel_rfl
def F220:=fe [(230,pf230),(233,pf233)] []
def pf220:PF:=⟨[R (.pair .i64 .i64),R .i64,R .i64],[.i64],.uniq,spec_Up⟩
theorem s220:Sd 220 pf220:=sf (F:=F220) (ek ⟨s230,s233,trivial⟩) Tryz.func220 fun a=>by kernel_rfl
def F231:=fe [(230,pf230),(220,pf220)] [(2,[.slot 2 .i64 (.imm false),.slot 7 (.sl 3 .i64) (.own true)])]
def pf231:PF:=⟨[R (.pair .i64 .i64),R .i64,R .i64],[(.sl 3 .i64)],.uniq,spec_Way⟩
theorem s231:Sd 231 pf231:=sf (F:=F231) (ek ⟨s230,s220,trivial⟩) Tryz.func231 fun a=>by kernel_rfl
def F218:=fe [(67,pf67),(230,pf230),(231,pf231),(34,pf34)] [(5,[.slot 7 (.sl 3 .i64) (.own true),.slot 8 .i64 (.imm false)])]
def pf218:PF:=⟨[R (.pair .i64 .i64),R .i64,R .i64],[(.sl 3 .i64)],.uniq,spec_Under⟩
theorem s218:Sd 218 pf218:=sf (F:=F218) (ek ⟨s67,s230,s231,s34,trivial⟩) Tryz.func218 fun a=>by kernel_rfl
def F232:=fe [] []
def pf232:PF:=⟨[R .bool],[.i64],.uniq,spec_l1Bit⟩
theorem s232:Sd 232 pf232:=sf (F:=F232) (ek trivial) Tryz.func232 fun a=>by kernel_rfl
def F219:=fe [(34,pf34),(232,pf232)] [(3,[.slot 5 .i64 (.imm false),.slot 6 .i64 (.imm false)])]
def pf219:PF:=⟨[R (.sl 3 .i64),R (.sl 3 .i64)],[.i64],.uniq,spec_Common⟩
theorem s219:Sd 219 pf219:=sf (F:=F219) (ek ⟨s34,s232,trivial⟩) Tryz.func219 fun a=>by kernel_rfl
def F199:=fe [(112,pf112),(37,pf37),(217,pf217),(218,pf218),(219,pf219),(220,pf220),(171,pf171)] []
def pf199:PF:=⟨[R (.pair .i64 .i64),(.own,q1),R .i64,R .str,R .bool],[q1,.bool],.own,spec_l16Climb⟩
theorem s199:Sd 199 pf199:=sf (F:=F199) (ek ⟨s112,s37,s217,s218,s219,s220,s171,trivial⟩) Tryz.func199 fun a=>by kernel_rfl
def F196:=fe [(21,pf21),(170,pf170),(133,pf133),(199,pf199)] []
def pf196:PF:=⟨[R (.pair .i64 .i64),R q1,R .str],[q1,.bool],.shared,spec_l17Own⟩
theorem s196:Sd 196 pf196:=sf (F:=F196) (ek ⟨s21,s170,s133,s199,trivial⟩) Tryz.func196 fun a=>by kernel_rfl
def F161:FEnv:=⟨⟨TYS,[(133,pf133),(111,pf111),(69,pf69),(192,pf192),(21,pf21),(193,pf193),(194,pf194),(196,pf196)],EQS,[],[],false,[(195,pf195)],[],[],false⟩,[]⟩
def pf161:PF:=⟨[R (.pair .i64 .i64),R q1,R (.pair .str q4)],[q1,.bool],.shared,spec_HearBlock⟩
theorem s161:Sd 161 pf161:=sf (F:=F161) (envOK ⟨s133,s111,s69,s192,s21,s193,s194,s196,trivial⟩ trivial trivial s195 trivial trivial) Tryz.func161 fun a=>by kernel_rfl
def F185:=fe [(133,pf133),(111,pf111),(70,pf70),(170,pf170),(199,pf199)] []
def pf185:PF:=⟨[R (.pair .i64 .i64),R q1,R q4],[q1,.bool],.own,spec_HearPart⟩
theorem s185:Sd 185 pf185:=sf (F:=F185) (ek ⟨s133,s111,s70,s170,s199,trivial⟩) Tryz.func185 fun a=>by kernel_rfl
def F186:FEnv:=⟨⟨TYS,[(133,pf133),(111,pf111),(71,pf71),(49,pf49),(192,pf192),(37,pf37),(170,pf170),(112,pf112),(87,pf87),(83,pf83),(52,pf52)],EQS,[],[],false,[(195,pf195)],[],[],false⟩,[]⟩
def pf186:PF:=⟨[R (.pair .i64 .i64),R q1,R .i64,R q4,R .i64],[q1,.bool],.own,spec_HearView⟩
theorem s186:Sd 186 pf186:=sf (F:=F186) (envOK ⟨s133,s111,s71,s49,s192,s37,s170,s112,s87,s83,s52,trivial⟩ trivial trivial s195 trivial trivial) Tryz.func186 fun a=>by kernel_rfl
def F210:=fe [(172,pf172),(138,pf138)] [(2,[.slot 6 .i64 (.imm false)])]
def pf210:PF:=⟨[R (.sl 37 q5),R q5],[(.sl 37 q5),.bool],.uniq,spec_PoolAdd⟩
theorem s210:Sd 210 pf210:=sf (F:=F210) (ek ⟨s172,s138,trivial⟩) Tryz.func210 fun a=>by kernel_rfl
def F187:=fe [(133,pf133),(111,pf111),(210,pf210)] []
def pf187:PF:=⟨[R (.pair .i64 .i64),R q1,R q5],[q1,.bool],.uniq,spec_HearTx⟩
theorem s187:Sd 187 pf187:=sf (F:=F187) (ek ⟨s133,s111,s210,trivial⟩) Tryz.func187 fun a=>by kernel_rfl
def F155:=fe [(161,pf161),(185,pf185),(186,pf186),(187,pf187)] []
def pf155:PF:=⟨[R (.pair .i64 .i64),R q1,R q2],[q1,.bool],.shared,spec_l17Hear⟩
theorem s155:Sd 155 pf155:=sf (F:=F155) (ek ⟨s161,s185,s186,s187,trivial⟩) Tryz.func155 fun a=>by kernel_rfl
def F156:=fe [(141,pf141)] [(3,[.slot 5 (.sl 35 q4) (.own true),.slot 6 .i64 (.imm false)])]
def pf156:PF:=⟨[R (.sl 35 q4),R .i64],[(.sl 35 q4)],.uniq,spec_TableDrop⟩
theorem s156:Sd 156 pf156:=sf (F:=F156) (ek ⟨s141,trivial⟩) Tryz.func156 fun a=>by kernel_rfl
def F158:=fe [(111,pf111),(114,pf114),(115,pf115),(113,pf113)] []
def pf158:PF:=⟨[R (.pair .i64 .i64),R q1],[q10],.uniq,spec_State⟩
theorem s158:Sd 158 pf158:=sf (F:=F158) (ek ⟨s111,s114,s115,s113,trivial⟩) Tryz.func158 fun a=>by kernel_rfl
def F157:=fe [(143,pf143)] [(3,[.slot 5 (.sl 37 q5) (.own true),.slot 6 .i64 (.imm false)])]
def pf157:PF:=⟨[R (.sl 37 q5),R q10],[(.sl 37 q5)],.uniq,spec_PoolDrop⟩
theorem s157:Sd 157 pf157:=sf (F:=F157) (ek ⟨s143,trivial⟩) Tryz.func157 fun a=>by kernel_rfl
def F128:=fe [(111,pf111),(36,pf36),(133,pf133),(155,pf155),(156,pf156),(158,pf158),(157,pf157)] []
def pf128:PF:=⟨[R (.pair .i64 .i64),R q1,R q2],[q1,.bool],.shared,spec_Hear⟩
theorem s128:Sd 128 pf128:=sf (F:=F128) (ek ⟨s111,s36,s133,s155,s156,s158,s157,trivial⟩) Tryz.func128 fun a=>by kernel_rfl
def F107:FEnv:=⟨⟨TYS,[(71,pf71),(34,pf34),(127,pf127),(128,pf128)],EQS,[],[],true,[],[],[],false⟩,[]⟩
def pf107:PF:=⟨[(.own,q3),R q9],[q3,.i64],.own,spec_l20Net⟩
theorem s107:Sd 107 pf107:=sf (F:=F107) (ek ⟨s71,s34,s127,s128,trivial⟩) Tryz.func107 fun a=>by kernel_rfl
def F100107:=fe [(71,pf71),(34,pf34),(127,pf127),(128,pf128)] []
def pf100107:PF:=⟨[R q3,R q9],[q3,.i64],.shared,spec_l20Net_rd⟩
theorem s100107:Sd 107 pf100107:=sf (F:=F100107) (ek ⟨s71,s34,s127,s128,trivial⟩) Tryz.func107 fun a=>by kernel_rfl
def F35:=fe [] [(2,[.slot 9 .i64 (.imm false)])]
def pf35:PF:=⟨[R q8,R .i64,R .str,R .i64],[.bool],.uniq,spec_l18Has⟩
theorem s35:Sd 35 pf35:=sf (F:=F35) (ek trivial) Tryz.func35 fun a=>by kernel_rfl
def F12:=fe [(34,pf34),(35,pf35)] [(2,[.slot 11 .i64 (.imm false)])]
def pf12:PF:=⟨[R (.sl 3 .i64),R q8,R .i64,R .str,R (.sl 3 .i64)],[.bool],.uniq,spec_Signed⟩
theorem s12:Sd 12 pf12:=sf (F:=F12) (ek ⟨s34,s35,trivial⟩) Tryz.func12 fun a=>by kernel_rfl
def F13:=fe [(36,pf36),(21,pf21),(37,pf37),(34,pf34),(12,pf12)] []
def pf13:PF:=⟨[R (.pair .i64 .i64),R (.sl 3 .i64),R q8,R q2],[.bool],.uniq,spec_MayLie⟩
theorem s13:Sd 13 pf13:=sf (F:=F13) (ek ⟨s36,s21,s37,s34,s12,trivial⟩) Tryz.func13 fun a=>by kernel_rfl
def F191:=fe [(188,pf188)] [(3,[.slot 3 (.sl 5 .u8) (.own true),.slot 4 .i64 (.imm false)])]
def pf191:PF:=⟨[R (.sl 3 .i64)],[(.sl 5 .u8)],.uniq,spec_l14Nums⟩
theorem s191:Sd 191 pf191:=sf (F:=F191) (ek ⟨s188,trivial⟩) Tryz.func191 fun a=>by kernel_rfl
def F159:=fe [(36,pf36),(188,pf188),(189,pf189),(190,pf190),(191,pf191)] []
def pf159:PF:=⟨[R (.pair .i64 .i64),R q2],[(.sl 5 .u8)],.uniq,spec_MsgBytes⟩
theorem s159:Sd 159 pf159:=sf (F:=F159) (ek ⟨s36,s188,s189,s190,s191,trivial⟩) Tryz.func159 fun a=>by kernel_rfl
def F129:=fe [(159,pf159),(71,pf71)] [(2,[.slot 5 .i64 (.imm false),.box 5 q3 (.own false)])]
def pf129:PF:=⟨[(.own,q3),R q14],[q3],.own,spec_l19Send⟩
theorem s129:Sd 129 pf129:=sf (F:=F129) (ek ⟨s159,s71,trivial⟩) Tryz.func129 fun a=>by kernel_rfl
def F108:=fe [(71,pf71),(13,pf13),(129,pf129)] []
def pf108:PF:=⟨[(.own,q3),R q9],[q3,.i64],.own,spec_l20Lie⟩
theorem s108:Sd 108 pf108:=sf (F:=F108) (ek ⟨s71,s13,s129,trivial⟩) Tryz.func108 fun a=>by kernel_rfl
def F100108:=fe [(71,pf71),(13,pf13),(129,pf129)] []
def pf100108:PF:=⟨[R q3,R q9],[q3,.i64],.shared,spec_l20Lie_rd⟩
theorem s100108:Sd 108 pf100108:=sf (F:=F100108) (ek ⟨s71,s13,s129,trivial⟩) Tryz.func108 fun a=>by kernel_rfl
def F109:=fe [(34,pf34)] [(3,[.slot 3 (.sl 3 .i64) (.own true),.slot 4 .i64 (.imm false)])]
def pf109:PF:=⟨[R q3],[(.sl 3 .i64)],.uniq,spec_Honest⟩
theorem s109:Sd 109 pf109:=sf (F:=F109) (ek ⟨s34,trivial⟩) Tryz.func109 fun a=>by kernel_rfl
def F160:=fe [(133,pf133),(111,pf111),(171,pf171)] [(5,[.slot 9 .i64 (.imm false),.box 11 q1 (.own true),.box 17 q1 (.own false)])]
def pf160:PF:=⟨[R (.pair .i64 .i64),R q1,R q2],[q1,.bool],.own,spec_TellAll⟩
theorem s160:Sd 160 pf160:=sf (F:=F160) (ek ⟨s133,s111,s171,trivial⟩) Tryz.func160 fun a=>by kernel_rfl
def F130:=fe [(84,pf84),(133,pf133),(160,pf160),(161,pf161)] []
def pf130:PF:=⟨[(.own,q3),R .i64],[q3,.i64],.own,spec_l20Ask⟩
theorem s130:Sd 130 pf130:=sf (F:=F130) (ek ⟨s84,s133,s160,s161,trivial⟩) Tryz.func130 fun a=>by kernel_rfl
def F100130:=fe [(84,pf84),(133,pf133),(160,pf160),(161,pf161)] []
def pf100130:PF:=⟨[R q3,R .i64],[q3,.i64],.shared,spec_l20Ask_rd⟩
theorem s100130:Sd 130 pf100130:=sf (F:=F100130) (ek ⟨s84,s133,s160,s161,trivial⟩) Tryz.func130 fun a=>by kernel_rfl
def F197:=fe [(167,pf167),(140,pf140)] []
def pf197:PF:=⟨[R q11],[q11],.uniq,spec_Sync⟩
theorem s197:Sd 197 pf197:=sf (F:=F197) (ek ⟨s167,s140,trivial⟩) Tryz.func197 fun a=>by kernel_rfl
def F162:=fe [(133,pf133),(111,pf111),(197,pf197),(168,pf168)] []
def pf162:PF:=⟨[R (.pair .i64 .i64),R q1],[q1,q14],.uniq,spec_SureNow⟩
theorem s162:Sd 162 pf162:=sf (F:=F162) (ek ⟨s133,s111,s197,s168,trivial⟩) Tryz.func162 fun a=>by kernel_rfl
def F198:=fe [(133,pf133)] [(3,[.slot 4 .i64 (.imm false),.box 10 q3 (.own true)]),(7,[.slot 5 .i64 (.imm false),.box 10 q3 (.own true)])]
def pf198:PF:=⟨[R q3],[q3],.uniq,spec_l19Copy⟩
theorem s198:Sd 198 pf198:=sf (F:=F198) (ek ⟨s133,trivial⟩) Tryz.func198 fun a=>by kernel_rfl
def F11:=fe [(34,pf34)] []
def pf11:PF:=⟨[R .i64,R q2],[q8],.uniq,spec_SaidOf⟩
theorem s11:Sd 11 pf11:=sf (F:=F11) (ek ⟨s34,trivial⟩) Tryz.func11 fun a=>by kernel_rfl
def F163:=fe [(198,pf198),(109,pf109),(34,pf34),(11,pf11),(35,pf35)] [(5,[.slot 8 .i64 (.imm false),.box 11 q3 (.own true)]),(9,[.slot 10 .i64 (.imm false),.box 11 q3 (.own true)])]
def pf163:PF:=⟨[R q3,R .i64,R q14],[q3],.uniq,spec_Learn⟩
theorem s163:Sd 163 pf163:=sf (F:=F163) (ek ⟨s198,s109,s34,s11,s35,trivial⟩) Tryz.func163 fun a=>by kernel_rfl
def F131:=fe [(162,pf162),(163,pf163),(129,pf129)] []
def pf131:PF:=⟨[(.own,q3),R .i64],[q3,.i64],.own,spec_l20Sure⟩
theorem s131:Sd 131 pf131:=sf (F:=F131) (ek ⟨s162,s163,s129,trivial⟩) Tryz.func131 fun a=>by kernel_rfl
def F100131:=fe [(162,pf162),(163,pf163),(129,pf129)] []
def pf100131:PF:=⟨[R q3,R .i64],[q3,.i64],.shared,spec_l20Sure_rd⟩
theorem s100131:Sd 131 pf100131:=sf (F:=F100131) (ek ⟨s162,s163,s129,trivial⟩) Tryz.func131 fun a=>by kernel_rfl
def F164:=fe [(111,pf111),(133,pf133),(199,pf199)] []
def pf164:PF:=⟨[R (.pair .i64 .i64),R q1,R .i64,R .str,R .bool],[q1,.bool],.own,spec_Climb⟩
theorem s164:Sd 164 pf164:=sf (F:=F164) (ek ⟨s111,s133,s199,trivial⟩) Tryz.func164 fun a=>by kernel_rfl
def F132:=fe [(164,pf164)] [(3,[.slot 7 .i64 (.imm false),.box 4 q3 (.own false),.box 5 q3 (.own true)])]
def pf132:PF:=⟨[(.own,q3),R .i64],[q3,.i64],.own,spec_l20Push⟩
theorem s132:Sd 132 pf132:=sf (F:=F132) (ek ⟨s164,trivial⟩) Tryz.func132 fun a=>by kernel_rfl
def F100132:=fe [(164,pf164)] [(3,[.slot 7 .i64 (.imm false),.box 4 q3 (.imm false),.box 5 q3 (.own true)])]
def pf100132:PF:=⟨[R q3,R .i64],[q3,.i64],.shared,spec_l20Push_rd⟩
theorem s100132:Sd 132 pf100132:=sf (F:=F100132) (ek ⟨s164,trivial⟩) Tryz.func132 fun a=>by kernel_rfl
def F134:=fe [(167,pf167),(140,pf140),(52,pf52),(83,pf83)] []
def pf134:PF:=⟨[R q11,R .i64],[q11],.uniq,spec_FallTo⟩
theorem s134:Sd 134 pf134:=sf (F:=F134) (ek ⟨s167,s140,s52,s83,trivial⟩) Tryz.func134 fun a=>by kernel_rfl
def F201:=fe [] []
def pf201:PF:=⟨[],[q7],.uniq,spec_SafeNew⟩
theorem s201:Sd 201 pf201:=sf (F:=F201) (ek trivial) Tryz.func201 fun a=>by kernel_rfl
def F202:=fe [(151,pf151),(153,pf153),(152,pf152),(137,pf137)] []
def pf202:PF:=⟨[R (.pair .i64 .i64),R (.sl 5 .u8)],[q7,.bool],.uniq,spec_SafeOf⟩
theorem s202:Sd 202 pf202:=sf (F:=F202) (ek ⟨s151,s153,s152,s137,trivial⟩) Tryz.func202 fun a=>by kernel_rfl
def F169:=fe [(201,pf201),(183,pf183),(202,pf202)] [(3,[.slot 7 .i64 (.imm false),.box 2 q7 (.own true),.box 4 q7 (.own true)])]
def pf169:PF:=⟨[R (.pair .i64 .i64),R (.sl 5 .u8)],[q7,.i64],.uniq,spec_LastNote⟩
theorem s169:Sd 169 pf169:=sf (F:=F169) (ek ⟨s201,s183,s202,trivial⟩) Tryz.func169 fun a=>by kernel_rfl
def F135:=fe [(111,pf111),(133,pf133),(169,pf169),(83,pf83),(52,pf52)] []
def pf135:PF:=⟨[R (.pair .i64 .i64),R q1],[q1],.uniq,spec_Rise⟩
theorem s135:Sd 135 pf135:=sf (F:=F135) (ek ⟨s111,s133,s169,s83,s52,trivial⟩) Tryz.func135 fun a=>by kernel_rfl
def F136:=fe [(133,pf133),(111,pf111),(37,pf37),(170,pf170),(171,pf171)] []
def pf136:PF:=⟨[R (.pair .i64 .i64),R q1],[q1,.bool],.own,spec_Late⟩
theorem s136:Sd 136 pf136:=sf (F:=F136) (ek ⟨s133,s111,s37,s170,s171,trivial⟩) Tryz.func136 fun a=>by kernel_rfl
def F110:=fe [(130,pf130),(131,pf131),(132,pf132),(133,pf133),(134,pf134),(135,pf135),(136,pf136),(128,pf128)] []
def pf110:PF:=⟨[(.own,q3),R q9],[q3,.i64],.own,spec_l20Own⟩
theorem s110:Sd 110 pf110:=sf (F:=F110) (ek ⟨s130,s131,s132,s133,s134,s135,s136,s128,trivial⟩) Tryz.func110 fun a=>by kernel_rfl
def F100110:=fe [(130,pf100130),(131,pf100131),(132,pf100132),(133,pf133),(134,pf134),(135,pf135),(136,pf136),(128,pf128)] []
def pf100110:PF:=⟨[R q3,R q9],[q3,.i64],.shared,spec_l20Own_rd⟩
theorem s100110:Sd 110 pf100110:=sf (F:=F100110) (ek ⟨s100130,s100131,s100132,s133,s134,s135,s136,s128,trivial⟩) Tryz.func110 fun a=>by kernel_rfl
def F82:=fe [(107,pf107),(108,pf108),(109,pf109),(34,pf34),(110,pf110)] []
def pf82:PF:=⟨[(.own,q3),R q9],[q3,.i64],.own,spec_l20One⟩
theorem s82:Sd 82 pf82:=sf (F:=F82) (ek ⟨s107,s108,s109,s34,s110,trivial⟩) Tryz.func82 fun a=>by kernel_rfl
def F100082:=fe [(107,pf100107),(108,pf100108),(109,pf109),(34,pf34),(110,pf100110)] []
def pf100082:PF:=⟨[R q3,R q9],[q3,.i64],.shared,spec_l20One_rd⟩
theorem s100082:Sd 82 pf100082:=sf (F:=F100082) (ek ⟨s100107,s100108,s109,s34,s100110,trivial⟩) Tryz.func82 fun a=>by kernel_rfl
def F46:FEnv:=⟨⟨TYS,[(82,pf82)],EQS,[],[],false,[],[],[(82,pf100082)],false⟩,[]⟩
def pf46:PF:=⟨[(.own,q3),R q9],[q3],.own,spec_l20Play⟩
theorem s46:Sd 46 pf46:=sf (F:=F46) (envOK ⟨s82,trivial⟩ trivial trivial trivial trivial ⟨s100082,trivial⟩) Tryz.func46 fun a=>by kernel_rfl
def F24:=fe [(45,pf45),(33,pf33),(47,pf47),(46,pf46)] [(4,[.slot 5 .i64 (.imm false),.keep 0 q6 [2,0,0],.box 7 q3 (.own false)])]
def pf24:PF:=⟨[(.ptr,q6)],[q3],.own,spec_l20DrawRight⟩
theorem s24:Sd 24 pf24:=sf (F:=F24) (ek ⟨s45,s33,s47,s46,trivial⟩) Tryz.func24 fun a=>by kernel_rfl
def F90:FEnv:=⟨⟨TYS,[(21,pf21),(19,pf19),(33,pf33)],EQS,[],[],true,[],[],[],false⟩,[(5,[.slot 8 .i64 (.imm false),.box 4 q4 (.own true)])]⟩
def pf90:PF:=⟨[(.ptr,q6),R (.pair .i64 .i64),R .str],[q4],.uniq,spec_l7DrawOf⟩
theorem s90:Sd 90 pf90:=sf (F:=F90) (ek ⟨s21,s19,s33,trivial⟩) Tryz.func90 fun a=>by kernel_rfl
def F88:=fe [(18,pf18),(90,pf90),(33,pf33),(40,pf40),(53,pf53)] [(4,[.slot 6 (.sl 37 q5) (.own true),.slot 7 .i64 (.imm false),.keep 0 q6 [2,0,0]])]
def pf88:PF:=⟨[(.ptr,q6),R (.pair .i64 .i64)],[(.pair .str q4)],.uniq,spec_l8DrawRight⟩
theorem s88:Sd 88 pf88:=sf (F:=F88) (ek ⟨s18,s90,s33,s40,s53,trivial⟩) Tryz.func88 fun a=>by kernel_rfl
def F89:=fe [(18,pf18),(21,pf21),(19,pf19),(33,pf33),(83,pf83),(20,pf20)] [(6,[.slot 7 .i64 (.imm false),.keep 0 q6 [2,0,0],.box 4 q4 (.own true)])]
def pf89:PF:=⟨[(.ptr,q6),R (.pair .i64 .i64)],[q4],.uniq,spec_l10DrawRight⟩
theorem s89:Sd 89 pf89:=sf (F:=F89) (ek ⟨s18,s21,s19,s33,s83,s20,trivial⟩) Tryz.func89 fun a=>by kernel_rfl
def F54:=fe [(33,pf33),(88,pf88),(89,pf89),(41,pf41),(18,pf18),(90,pf90),(40,pf40)] []
def pf54:PF:=⟨[(.ptr,q6),R (.pair .i64 .i64)],[q2],.uniq,spec_l14DrawRight⟩
theorem s54:Sd 54 pf54:=sf (F:=F54) (ek ⟨s33,s88,s89,s41,s18,s90,s40,trivial⟩) Tryz.func54 fun a=>by kernel_rfl
def F144:=fe [(33,pf33)] []
def pf144:PF:=⟨[(.ptr,q6),R (.sl 9 .str)],[.str],.uniq,spec_l1Pick⟩
theorem s144:Sd 144 pf144:=sf (F:=F144) (ek ⟨s33,trivial⟩) Tryz.func144 fun a=>by kernel_rfl
def F117:=fe [(33,pf33),(144,pf144)] []
def pf117:PF:=⟨[(.ptr,q6),R .str],[.str],.uniq,spec_l2Dent⟩
theorem s117:Sd 117 pf117:=sf (F:=F117) (ek ⟨s33,s144,trivial⟩) Tryz.func117 fun a=>by kernel_rfl
def F91:=fe [(19,pf19),(33,pf33),(73,pf73),(18,pf18),(117,pf117)] [(4,[.slot 3 .str (.imm false),.slot 4 .i64 (.imm false),.keep 0 q6 [2,0,0]])]
def pf91:PF:=⟨[(.ptr,q6)],[.str],.uniq,spec_l5Draw⟩
theorem s91:Sd 91 pf91:=sf (F:=F91) (ek ⟨s19,s33,s73,s18,s117,trivial⟩) Tryz.func91 fun a=>by kernel_rfl
def F55:=fe [(89,pf89),(33,pf33),(39,pf39),(16,pf16),(91,pf91)] []
def pf55:PF:=⟨[(.ptr,q6),R (.pair .i64 .i64)],[q4],.uniq,spec_l10Draw⟩
theorem s55:Sd 55 pf55:=sf (F:=F55) (ek ⟨s89,s33,s39,s16,s91,trivial⟩) Tryz.func55 fun a=>by kernel_rfl
def F56:=fe [(40,pf40),(33,pf33),(39,pf39)] []
def pf56:PF:=⟨[(.ptr,q6)],[q5],.uniq,spec_l2Draw⟩
theorem s56:Sd 56 pf56:=sf (F:=F56) (ek ⟨s40,s33,s39,trivial⟩) Tryz.func56 fun a=>by kernel_rfl
def F26:=fe [(54,pf54),(33,pf33),(39,pf39),(55,pf55),(56,pf56)] []
def pf26:PF:=⟨[(.ptr,q6),R (.pair .i64 .i64)],[q2],.uniq,spec_l14Draw⟩
theorem s26:Sd 26 pf26:=sf (F:=F26) (ek ⟨s54,s33,s39,s55,s56,trivial⟩) Tryz.func26 fun a=>by kernel_rfl
def F7:FEnv:=⟨⟨TYS,[(24,pf24),(25,pf25),(19,pf19),(26,pf26)],EQS,[(15,pf15)],[],false,[],[],[],false⟩,[]⟩
def pf7:PF:=⟨[R (.sl 5 .u8)],[(.pair .i64 .i64),(.sl 3 .i64),q8,q2],.own,spec_DrawMayLie⟩
theorem s7:Sd 7 pf7:=sf (F:=F7) (envOK ⟨s24,s25,s19,s26,trivial⟩ ⟨s15,trivial⟩ trivial trivial trivial trivial) Tryz.func7 fun a=>by kernel_rfl
def F61:=fe [] []
def pf61:PF:=⟨[R .i64,R .i64,R .i64],[.bool],.uniq,impl_within⟩
theorem s61:Sd 61 pf61:=sf (F:=F61) (ek trivial) Tryz.func61 fun a=>by kernel_rfl
def F38:=fe [(61,pf61)] []
def pf38:PF:=⟨[R (.pair .i64 .i64)],[.bool],.uniq,impl_ConfOk⟩
theorem s38:Sd 38 pf38:=sf (F:=F38) (ek ⟨s61,trivial⟩) Tryz.func38 fun a=>by kernel_rfl
def F58:=fe [] []
def pf58:PF:=⟨[R q2],[q2],.shared,impl_named⟩
theorem s58:Sd 58 pf58:=sf (F:=F58) (ek trivial) Tryz.func58 fun a=>by kernel_rfl
def F65:=fe [] [(4,[.slot 13 .i64 (.imm false)])]
def pf65:PF:=⟨[R (.sl 3 .i64),R (.sl 3 .i64)],[.bool],.uniq,slices_Equal_int⟩
theorem s65:Sd 65 pf65:=sf (F:=F65) (ek trivial) Tryz.func65 fun a=>by kernel_rfl
def F30:=fe [(65,pf65)] []
def pf30:PF:=⟨[R q4,R q4],[.bool],.uniq,impl_QcSame⟩
theorem s30:Sd 30 pf30:=sf (F:=F30) (ek ⟨s65,trivial⟩) Tryz.func30 fun a=>by kernel_rfl
def F92:=fe [(30,pf30)] []
def pf92:PF:=⟨[R (.pair .str q4),R (.pair .str q4)],[.bool],.uniq,impl_BlockSame⟩
theorem s92:Sd 92 pf92:=sf (F:=F92) (ek ⟨s30,trivial⟩) Tryz.func92 fun a=>by kernel_rfl
def F93:=fe [(65,pf65)] []
def pf93:PF:=⟨[R q4,R q4],[.bool],.uniq,impl_partSame⟩
theorem s93:Sd 93 pf93:=sf (F:=F93) (ek ⟨s65,trivial⟩) Tryz.func93 fun a=>by kernel_rfl
def F57:=fe [(92,pf92),(93,pf93),(30,pf30)] []
def pf57:PF:=⟨[R q2,R q2],[.bool],.uniq,impl_MsgSame⟩
theorem s57:Sd 57 pf57:=sf (F:=F57) (ek ⟨s92,s93,s30,trivial⟩) Tryz.func57 fun a=>by kernel_rfl
def F31:=fe [] []
def pf31:PF:=⟨[],[q4],.uniq,impl_QcFirst⟩
theorem s31:Sd 31 pf31:=sf (F:=F31) (ek trivial) Tryz.func31 fun a=>by kernel_rfl
def F98:=fe [(119,pf119)] []
def pf98:PF:=⟨[R .str,R .u8],[(.sl 9 .str)],.uniq,impl_Split⟩
theorem s98:Sd 98 pf98:=sf (F:=F98) (ek ⟨s119,trivial⟩) Tryz.func98 fun a=>by kernel_rfl
def F121:=fe [(148,pf148)] []
def pf121:PF:=⟨[R .i64],[.str],.uniq,impl_Digits⟩
theorem s121:Sd 121 pf121:=sf (F:=F121) (ek ⟨s148,trivial⟩) Tryz.func121 fun a=>by kernel_rfl
def F100:=fe [(121,pf121)] [(5,[.slot 4 .i64 (.imm false),.slot 5 .i64 (.imm false)])]
def pf100:PF:=⟨[R .str],[.i64,.bool],.uniq,impl_Number⟩
theorem s100:Sd 100 pf100:=sf (F:=F100) (ek ⟨s121,trivial⟩) Tryz.func100 fun a=>by kernel_rfl
def F63:=fe [(61,pf61)] []
def pf63:PF:=⟨[R q5],[.bool],.uniq,impl_TxOk⟩
theorem s63:Sd 63 pf63:=sf (F:=F63) (ek ⟨s61,trivial⟩) Tryz.func63 fun a=>by kernel_rfl
def F149:=fe [(63,pf63),(121,pf121)] []
def pf149:PF:=⟨[R q5],[.str],.uniq,impl_TxText⟩
theorem s149:Sd 149 pf149:=sf (F:=F149) (ek ⟨s63,s121,trivial⟩) Tryz.func149 fun a=>by kernel_rfl
def F122:=fe [(99,pf99),(100,pf100),(63,pf63),(149,pf149)] [(6,[.slot 40 .i64 (.imm false),.row 1 3 .i64 (.own true)])]
def pf122:PF:=⟨[R .str],[q5,.bool],.uniq,impl_TxOf⟩
theorem s122:Sd 122 pf122:=sf (F:=F122) (ek ⟨s99,s100,s63,s149,trivial⟩) Tryz.func122 fun a=>by kernel_rfl
def F101:=fe [(98,pf98),(122,pf122)] [(5,[.slot 4 (.sl 37 q5) (.own true),.slot 14 .i64 (.imm false)])]
def pf101:PF:=⟨[R .str],[(.sl 37 q5),.bool],.uniq,impl_TxsOf⟩
theorem s101:Sd 101 pf101:=sf (F:=F101) (ek ⟨s98,s122,trivial⟩) Tryz.func101 fun a=>by kernel_rfl
def F64:=fe [(98,pf98),(99,pf99),(100,pf100),(101,pf101),(61,pf61)] [(9,[.slot 5 q15 (.own true),.slot 6 .i64 (.imm false),.slot 33 .i64 (.imm false)])]
def pf64:PF:=⟨[R .str],[q15,.bool],.uniq,impl_Steps⟩
theorem s64:Sd 64 pf64:=sf (F:=F64) (ek ⟨s98,s99,s100,s101,s61,trivial⟩) Tryz.func64 fun a=>by kernel_rfl
def F94:=fe [(64,pf64)] []
def pf94:PF:=⟨[R .str],[.bool],.uniq,impl_NameOk⟩
theorem s94:Sd 94 pf94:=sf (F:=F94) (ek ⟨s64,trivial⟩) Tryz.func94 fun a=>by kernel_rfl
def F29:=fe [(64,pf64)] []
def pf29:PF:=⟨[R .str],[.i64],.uniq,impl_ViewOf⟩
theorem s29:Sd 29 pf29:=sf (F:=F29) (ek ⟨s64,trivial⟩) Tryz.func29 fun a=>by kernel_rfl
def F96:=fe [] [(2,[.slot 9 .i64 (.imm false)])]
def pf96:PF:=⟨[R .i64,R (.sl 3 .i64)],[.bool],.uniq,impl_SetOk⟩
theorem s96:Sd 96 pf96:=sf (F:=F96) (ek trivial) Tryz.func96 fun a=>by kernel_rfl
def F14:=fe [(38,pf38)] []
def pf14:PF:=⟨[R (.pair .i64 .i64)],[.i64],.uniq,impl_Faults⟩
theorem s14:Sd 14 pf14:=sf (F:=F14) (ek ⟨s38,trivial⟩) Tryz.func14 fun a=>by kernel_rfl
def F97:=fe [(38,pf38),(14,pf14)] []
def pf97:PF:=⟨[R (.pair .i64 .i64)],[.i64],.uniq,impl_Quorum⟩
theorem s97:Sd 97 pf97:=sf (F:=F97) (ek ⟨s38,s14,trivial⟩) Tryz.func97 fun a=>by kernel_rfl
def F62:=fe [(38,pf38),(31,pf31),(30,pf30),(94,pf94),(29,pf29),(96,pf96),(97,pf97)] []
def pf62:PF:=⟨[R (.pair .i64 .i64),R q4],[.bool],.uniq,impl_QcOk⟩
theorem s62:Sd 62 pf62:=sf (F:=F62) (ek ⟨s38,s31,s30,s94,s29,s96,s97,trivial⟩) Tryz.func62 fun a=>by kernel_rfl
def F95:=fe [(94,pf94),(118,pf118)] []
def pf95:PF:=⟨[R .str],[.str],.uniq,impl_UpOf⟩
theorem s95:Sd 95 pf95:=sf (F:=F95) (ek ⟨s94,s118,trivial⟩) Tryz.func95 fun a=>by kernel_rfl
def F59:=fe [(62,pf62),(94,pf94),(95,pf95)] []
def pf59:PF:=⟨[R (.pair .i64 .i64),R (.pair .str q4)],[.bool],.uniq,impl_BlockOk⟩
theorem s59:Sd 59 pf59:=sf (F:=F59) (ek ⟨s62,s94,s95,trivial⟩) Tryz.func59 fun a=>by kernel_rfl
def F60:=fe [(38,pf38),(61,pf61),(94,pf94),(29,pf29),(96,pf96)] []
def pf60:PF:=⟨[R (.pair .i64 .i64),R q4],[.bool],.uniq,impl_PartOk⟩
theorem s60:Sd 60 pf60:=sf (F:=F60) (ek ⟨s38,s61,s94,s29,s96,trivial⟩) Tryz.func60 fun a=>by kernel_rfl
def F27:=fe [(38,pf38),(58,pf58),(57,pf57),(59,pf59),(60,pf60),(61,pf61),(62,pf62),(63,pf63)] []
def pf27:PF:=⟨[R (.pair .i64 .i64),R q2],[.bool],.uniq,impl_MsgOk⟩
theorem s27:Sd 27 pf27:=sf (F:=F27) (ek ⟨s38,s58,s57,s59,s60,s61,s62,s63,trivial⟩) Tryz.func27 fun a=>by kernel_rfl
def F28:=fe [(38,pf38)] []
def pf28:PF:=⟨[R (.pair .i64 .i64),R .i64],[.i64],.uniq,impl_Root⟩
theorem s28:Sd 28 pf28:=sf (F:=F28) (ek ⟨s38,trivial⟩) Tryz.func28 fun a=>by kernel_rfl
def F8:=fe [(27,pf27),(6,pf6),(29,pf29),(28,pf28),(22,pf22),(31,pf31),(30,pf30)] []
def pf8:PF:=⟨[R (.pair .i64 .i64),R (.sl 3 .i64),R q8,R q2],[.bool],.uniq,impl_MayLie⟩
theorem s8:Sd 8 pf8:=sf (F:=F8) (ek ⟨s27,s6,s29,s28,s22,s31,s30,trivial⟩) Tryz.func8 fun a=>by kernel_rfl
def F32:=fe [(33,pf33)] []
def pf32:PF:=⟨[(.ptr,q6)],[(.pair .i64 .i64)],.uniq,spec_l7DrawConf⟩
theorem s32:Sd 32 pf32:=sf (F:=F32) (ek ⟨s33,trivial⟩) Tryz.func32 fun a=>by kernel_rfl
def F9:FEnv:=⟨⟨TYS,[(32,pf32),(26,pf26),(33,pf33)],EQS,[(15,pf15)],[],false,[],[],[],false⟩,[]⟩
def pf9:PF:=⟨[R (.sl 5 .u8)],[.i64,q2],.uniq,spec_DrawSaidOf⟩
theorem s9:Sd 9 pf9:=sf (F:=F9) (envOK ⟨s32,s26,s33,trivial⟩ ⟨s15,trivial⟩ trivial trivial trivial trivial) Tryz.func9 fun a=>by kernel_rfl
def F10:=fe [(22,pf22)] []
def pf10:PF:=⟨[R .i64,R q2],[q8],.uniq,impl_SaidOf⟩
theorem s10:Sd 10 pf10:=sf (F:=F10) (ek ⟨s22,trivial⟩) Tryz.func10 fun a=>by kernel_rfl
def F3:=fe [(4,pf4),(5,pf5),(6,pf6),(7,pf7),(8,pf8),(9,pf9),(10,pf10),(11,pf11),(12,pf12),(13,pf13),(14,pf14)] [(12,[.slot 18 .i64 (.imm false)])]
def pf3:PF:=⟨[R (.sl 5 .u8)],[.bool],.uniq,laws_FnLiars⟩
theorem s3:Sd 3 pf3:=sf (F:=F3) (ek ⟨s4,s5,s6,s7,s8,s9,s10,s11,s12,s13,s14,trivial⟩) Tryz.func3 fun a=>by kernel_rfl
end
end G448
