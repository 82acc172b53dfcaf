/- That the printed functions are what the evaluator reckons. (Printed by our own program.) -/
import Derived.Test.YtfobheedeodnjaaGreatProg
import Derived.Test.YtfobheedeodnjaaGreatLoFns
import Derived.KernelRfl
set_option linter.unusedSimpArgs false
set_option linter.unusedVariables false
namespace G448
open Ev Go Go.Proofs
set_option maxRecDepth 100000
noncomputable section
/-- The type whose rows are whole: posts. -/
instance tagsI:Ev.Tags:=⟨56⟩
abbrev q1:Ty:=(.pair .i64 (.pair .i64 (.pair .i64 (.pair (.pair .i64 (.pair .i64 (.pair (.pair .i64 (.pair .str (.sl 3 .i64))) .str))) (.pair (.sl 52 (.pair .i64 (.pair .i64 (.pair .i64 .i64)))) (.pair (.sl 50 (.pair .i64 (.pair .str (.sl 3 .i64)))) (.pair (.pair (.sl 5 .u8) .i64) (.sl 56 (.pair .i64 (.pair .i64 (.pair .i64 (.pair (.pair .str (.pair .i64 (.pair .str (.sl 3 .i64)))) (.pair (.pair .i64 (.pair .str (.sl 3 .i64))) (.pair (.pair .i64 (.pair .str (.sl 3 .i64))) (.pair .i64 (.pair .i64 (.pair .i64 (.pair .i64 .i64))))))))))))))))))
abbrev q2:Ty:=(.pair .i64 (.pair .i64 (.pair (.pair .str (.pair .i64 (.pair .str (.sl 3 .i64)))) (.pair (.pair .i64 (.pair .str (.sl 3 .i64))) (.pair (.pair .i64 (.pair .str (.sl 3 .i64))) (.pair .i64 (.pair .i64 (.pair .i64 (.pair .i64 .i64)))))))))
abbrev q3:Ty:=(.pair (.pair .i64 .i64) (.pair (.sl 3 .i64) (.pair (.sl 70 q1) (.pair (.sl 72 (.pair .i64 (.sl 5 .u8))) (.sl 59 (.pair .i64 (.pair .str .i64)))))))
abbrev q4:Ty:=(.pair .i64 (.pair .str (.sl 3 .i64)))
abbrev q5:Ty:=(.pair (.sl 5 .u8) (.pair .i64 .i64))
abbrev q6:Ty:=(.pair .i64 (.pair .i64 (.pair .i64 .i64)))
abbrev q7:Ty:=(.pair .i64 (.pair .i64 (.pair q4 .str)))
abbrev q8:Ty:=(.pair .i64 (.pair .i64 (.pair .i64 q2)))
abbrev q9:Ty:=(.pair (.sl 3 .i64) (.sl 3 .i64))
abbrev q10:Ty:=(.sl 59 (.pair .i64 (.pair .str .i64)))
abbrev q11:Ty:=(.pair (.sl 5 .u8) .i64)
abbrev q12:Ty:=(.sl 56 (.pair .i64 q2))
abbrev q13:Ty:=(.pair (.sl 5 .u8) (.pair .i64 .bool))
abbrev q14:Ty:=(.pair .i64 (.pair .str (.sl 0 .i64)))
def TYS:List (Nat×TD):=[(3,⟨.i64,8,[],none⟩),(4,⟨.bool,1,[],none⟩),(5,⟨.u8,1,[],none⟩),(9,⟨.str,16,[],none⟩),(22,⟨(.sl 5 .u8),24,[],none⟩),(25,⟨(.pair .i64 .i64),16,[(0,3),(1,3)],none⟩),(26,⟨(.sl 3 .i64),24,[],none⟩),(27,⟨(.sl 70 (.pair .i64 (.pair .i64 (.pair .i64 (.pair (.pair .i64 (.pair .i64 (.pair (.pair .i64 (.pair .str (.sl 3 .i64))) .str))) (.pair (.sl 52 (.pair .i64 (.pair .i64 (.pair .i64 .i64)))) (.pair (.sl 50 (.pair .i64 (.pair .str (.sl 3 .i64)))) (.pair (.pair (.sl 5 .u8) .i64) (.sl 56 (.pair .i64 (.pair .i64 (.pair .i64 (.pair (.pair .str (.pair .i64 (.pair .str (.sl 3 .i64)))) (.pair (.pair .i64 (.pair .str (.sl 3 .i64))) (.pair (.pair .i64 (.pair .str (.sl 3 .i64))) (.pair .i64 (.pair .i64 (.pair .i64 (.pair .i64 .i64))))))))))))))))))),24,[],none⟩),(28,⟨(.sl 72 (.pair .i64 (.sl 5 .u8))),24,[],none⟩),(29,⟨(.sl 59 (.pair .i64 (.pair .str .i64))),24,[],none⟩),(31,⟨(.pair (.pair .i64 .i64) (.pair (.sl 3 .i64) (.pair (.sl 70 (.pair .i64 (.pair .i64 (.pair .i64 (.pair (.pair .i64 (.pair .i64 (.pair (.pair .i64 (.pair .str (.sl 3 .i64))) .str))) (.pair (.sl 52 (.pair .i64 (.pair .i64 (.pair .i64 .i64)))) (.pair (.sl 50 (.pair .i64 (.pair .str (.sl 3 .i64)))) (.pair (.pair (.sl 5 .u8) .i64) (.sl 56 (.pair .i64 (.pair .i64 (.pair .i64 (.pair (.pair .str (.pair .i64 (.pair .str (.sl 3 .i64)))) (.pair (.pair .i64 (.pair .str (.sl 3 .i64))) (.pair (.pair .i64 (.pair .str (.sl 3 .i64))) (.pair .i64 (.pair .i64 (.pair .i64 (.pair .i64 .i64))))))))))))))))))) (.pair (.sl 72 (.pair .i64 (.sl 5 .u8))) (.sl 59 (.pair .i64 (.pair .str .i64))))))),112,[(0,25),(2,26),(3,27),(4,28),(5,29)],none⟩),(32,⟨(.sl 56 (.pair .i64 (.pair .i64 (.pair .i64 (.pair (.pair .str (.pair .i64 (.pair .str (.sl 3 .i64)))) (.pair (.pair .i64 (.pair .str (.sl 3 .i64))) (.pair (.pair .i64 (.pair .str (.sl 3 .i64))) (.pair .i64 (.pair .i64 (.pair .i64 (.pair .i64 .i64))))))))))),24,[],none⟩),(47,⟨(.pair .i64 (.pair .str (.sl 3 .i64))),48,[(0,3),(1,9),(2,26)],none⟩),(49,⟨(.pair .str (.pair .i64 (.pair .str (.sl 3 .i64)))),64,[(0,9),(1,47)],none⟩),(50,⟨(.pair .i64 (.pair .str (.sl 3 .i64))),48,[(0,3),(1,9),(2,26)],none⟩),(52,⟨(.pair .i64 (.pair .i64 (.pair .i64 .i64))),32,[(0,3),(1,3),(2,3),(3,3)],none⟩),(54,⟨(.pair .i64 (.pair .i64 (.pair (.pair .str (.pair .i64 (.pair .str (.sl 3 .i64)))) (.pair (.pair .i64 (.pair .str (.sl 3 .i64))) (.pair (.pair .i64 (.pair .str (.sl 3 .i64))) (.pair .i64 (.pair .i64 (.pair .i64 (.pair .i64 .i64))))))))),216,[(0,3),(1,3),(2,49),(6,50),(9,47),(12,3),(13,52)],none⟩),(56,⟨(.pair .i64 (.pair .i64 (.pair .i64 (.pair (.pair .str (.pair .i64 (.pair .str (.sl 3 .i64)))) (.pair (.pair .i64 (.pair .str (.sl 3 .i64))) (.pair (.pair .i64 (.pair .str (.sl 3 .i64))) (.pair .i64 (.pair .i64 (.pair .i64 (.pair .i64 .i64)))))))))),224,[(0,3),(1,54)],none⟩),(59,⟨(.pair .i64 (.pair .str .i64)),32,[(0,3),(1,9),(2,3)],none⟩),(64,⟨(.pair .i64 (.pair .i64 (.pair (.pair .i64 (.pair .str (.sl 3 .i64))) .str))),80,[(0,3),(1,3),(2,47),(5,9)],none⟩),(65,⟨(.sl 52 (.pair .i64 (.pair .i64 (.pair .i64 .i64)))),24,[],none⟩),(66,⟨(.sl 50 (.pair .i64 (.pair .str (.sl 3 .i64)))),24,[],none⟩),(68,⟨(.pair (.sl 5 .u8) .i64),32,[(0,22),(1,3)],none⟩),(70,⟨(.pair .i64 (.pair .i64 (.pair .i64 (.pair (.pair .i64 (.pair .i64 (.pair (.pair .i64 (.pair .str (.sl 3 .i64))) .str))) (.pair (.sl 52 (.pair .i64 (.pair .i64 (.pair .i64 .i64)))) (.pair (.sl 50 (.pair .i64 (.pair .str (.sl 3 .i64)))) (.pair (.pair (.sl 5 .u8) .i64) (.sl 56 (.pair .i64 (.pair .i64 (.pair .i64 (.pair (.pair .str (.pair .i64 (.pair .str (.sl 3 .i64)))) (.pair (.pair .i64 (.pair .str (.sl 3 .i64))) (.pair (.pair .i64 (.pair .str (.sl 3 .i64))) (.pair .i64 (.pair .i64 (.pair .i64 (.pair .i64 .i64)))))))))))))))))),208,[(0,3),(1,3),(2,3),(3,64),(9,65),(10,66),(11,68),(13,32)],none⟩),(72,⟨(.pair .i64 (.sl 5 .u8)),32,[(0,3),(1,22)],none⟩),(74,⟨(.pair (.sl 5 .u8) (.pair .i64 .i64)),40,[(0,22),(1,3),(2,3)],none⟩),(95,⟨(.pair .i64 (.pair .i64 (.pair .i64 (.pair .i64 (.pair .i64 (.pair (.pair .str (.pair .i64 (.pair .str (.sl 3 .i64)))) (.pair (.pair .i64 (.pair .str (.sl 3 .i64))) (.pair (.pair .i64 (.pair .str (.sl 3 .i64))) (.pair .i64 (.pair .i64 (.pair .i64 (.pair .i64 .i64)))))))))))),240,[(0,3),(1,3),(2,3),(3,54)],none⟩),(150,⟨(.sl 154 (.pair .i64 (.sl 52 (.pair .i64 (.pair .i64 (.pair .i64 .i64)))))),24,[],none⟩),(154,⟨(.pair .i64 (.sl 52 (.pair .i64 (.pair .i64 (.pair .i64 .i64))))),32,[(0,3),(1,65)],none⟩),(174,⟨(.pair (.sl 3 .i64) (.sl 3 .i64)),48,[(0,26),(1,26)],none⟩),(191,⟨(.sl 9 .str),24,[],none⟩),(219,⟨(.pair (.sl 5 .u8) (.pair .i64 .bool)),40,[(0,22),(1,3),(2,4)],none⟩)]
def EQS:List Nat:=[25,52,59]
theorem tysOK:tysOk Tryz.prog TYS=true:=by kernel_rfl
theorem eqsOK:EQS.all (eqOk Tryz.prog TYS)=true:=by kernel_rfl
theorem mixedOK:Tryz.prog.follows .mixedOrders=true:=by kernel_rfl
theorem envOK {fns:List (Nat×PF)} {news:List (Nat×NF)} {muts:List (Nat×MF)} {frz hold:Bool} {conds joins alts:List (Nat×PF)} {thaws:List (Nat×Nat)} (h:AllS Tryz.prog Glob.none fns) (h2:AllN Tryz.prog Glob.none news) (h3:AllM Tryz.prog Glob.none muts) (h4:AllC Tryz.prog Glob.none conds) (h5:AllJ Tryz.prog Glob.none joins) (h6:AllS Tryz.prog Glob.none alts):EnvOk Tryz.prog Glob.none ⟨TYS,fns,EQS,news,muts,frz,conds,joins,alts,hold,thaws⟩:=envOk_of mixedOK tysOK eqsOK h h2 h3 h4 h5 h6
def fe (fns:List (Nat×PF)) (ls:List (Nat×List Ev.Item)):FEnv:=⟨⟨TYS,fns,EQS,[],[],false,[],[],[],false,[]⟩,ls⟩
theorem ek {fns:List (Nat×PF)} {frz hold:Bool} {thaws:List (Nat×Nat)} (h:AllS Tryz.prog Glob.none fns):EnvOk Tryz.prog Glob.none ⟨TYS,fns,EQS,[],[],frz,[],[],[],hold,thaws⟩:=envOK h trivial trivial trivial trivial trivial
abbrev R (t:Ty):PK×Ty:=(.rd,t)
abbrev Sd (f:Nat) (pf:PF):Prop:=Sound Tryz.prog Glob.none f pf
theorem sf {F:FEnv} {f:FuncId} {fn:Func} {pf:PF} (hE:EnvOk Tryz.prog Glob.none F.E) (hf:Tryz.prog.funcs[f]?=some fn) (he : ∀ a,evFun F fn pf.params pf.rets pf.rk a=pf.fn a) (hn:(fn.name == "runtime.NumGoroutine")=false:=by kernel_rfl) (ht:F.E.thaws=[]:=by rfl):Sd f pf:=sound_fun hE hf hn (fun a o h=>(he a).trans h) (.inl ht)
def oP (pf:PF) (v:outT pf.params pf.rets):PF:={pf with fn:=fun _=>some v}
def sqL:Code→Code | .seq a _=>a|c=>c
def sqR:Code→Code | .seq _ b=>b|c=>c
def cnA:Code→Code | .cond _ a _=>a|c=>c
def rn (F:FEnv) (c:Code) (st:St):St:=match evCode F c st (fun _ s=>some s) with|some s=>s|none=>st
def rgo (F:FEnv) (c:Code) (lo hi:Nat) (st:St):St:=match c with | .region _ ops _=>(match evReg F.E ops.toList ((ops.toList.take hi).drop lo) st some with|some s=>s|none=>st)|_=>st
def en (fn:Func) (ps:List (PK×Ty)) (args:argT ps):St:=match enterArgs ps args 0 with|some (avs,es,j)=>{ slots:=avs++List.replicate (fn.ntmps - avs.length) (.tup []),tab:=es,nxt:=j,lvl:=0 }|none=>⟨[],[],0,0⟩
def evF (F:FEnv) (fn:Func) (ps:List (PK×Ty)) (rets:List Ty) (rk:RK) (args:argT ps) (c:Code) (st:St):Option (outT ps rets):=evCode F c st fun x st=>match x with | .exit _=>none | .normal=>finFun F fn ps rets rk args st | .ret=>finFun F fn ps rets rk args st
theorem bc {α β:Type} {x:Option α} {f g:α→Option β} (h : ∀ y,f y=g y):x.bind f=x.bind g:=by rw[funext h]
theorem cc {α:Type} {c:Bool} {x y z t:α} (h:x=z) (k:y=t):(bif c then x else y)=bif c then z else t:=by rw[h,k]
def F4:=fe [] []
def pf4:PF:=⟨[R (.sl 5 .u8)],[.bool],.uniq,laws_big⟩
theorem s4:Sd 4 pf4:=sf (F:=F4) (ek trivial) Tryz.func4 fun a=>by kernel_rfl
def F11:=fe [] [(3,[.slot 3 .i64 (.imm false),.slot 4 .i64 (.imm false)])]
def pf11:NF:=⟨[(.rd,(.sl 5 .u8))],q5,spec_l1New⟩
theorem e11 (a:argT [(.rd,(.sl 5 .u8))]):evNewFun F11 Tryz.f11 [(.rd,(.sl 5 .u8))] q5 a=spec_l1New a:=by kernel_rfl
theorem s11:SoundN Tryz.prog Glob.none 11 pf11:=sound_funN (F:=F11) (ek trivial) Tryz.func11 (by kernel_rfl) (fun a o h=>(e11 a).trans h)
def F33:=fe [] []
def pf33:PF:=⟨[(.ptr,q5)],[.i64],.uniq,spec_l1Byte⟩
theorem s33:Sd 33 pf33:=sf (F:=F33) (ek trivial) Tryz.func33 fun a=>by kernel_rfl
def F13:=fe [(33,pf33)] []
def pf13:PF:=⟨[(.ptr,q5),R .i64],[.i64],.uniq,spec_l1Below⟩
theorem s13:Sd 13 pf13:=sf (F:=F13) (ek ⟨s33,trivial⟩) Tryz.func13 fun a=>by kernel_rfl
def F49:=fe [(13,pf13)] []
def pf49:PF:=⟨[(.ptr,q5),R (.sl 3 .i64)],[.i64],.uniq,spec_l1PickInt⟩
theorem s49:Sd 49 pf49:=sf (F:=F49) (ek ⟨s13,trivial⟩) Tryz.func49 fun a=>by kernel_rfl
def F51:=fe [(13,pf13)] []
def pf51:PF:=⟨[(.ptr,q5),R .i64],[.bool],.uniq,spec_l1Once⟩
theorem s51:Sd 51 pf51:=sf (F:=F51) (ek ⟨s13,trivial⟩) Tryz.func51 fun a=>by kernel_rfl
def F103:=fe [] []
def pf103:PF:=⟨[R .i64,R .i64,R .i64],[.bool],.uniq,spec_l1In⟩
theorem s103:Sd 103 pf103:=sf (F:=F103) (ek trivial) Tryz.func103 fun a=>by kernel_rfl
def F99:=fe [(103,pf103)] []
def pf99:PF:=⟨[R (.pair .i64 .i64)],[.bool],.uniq,spec_ConfOk⟩
theorem s99:Sd 99 pf99:=sf (F:=F99) (ek ⟨s103,trivial⟩) Tryz.func99 fun a=>by kernel_rfl
def F148:=fe [] [(4,[.slot 5 (.sl 9 .str) (.own true),.slot 6 .i64 (.imm false),.slot 7 .i64 (.imm false)])]
def pf148:PF:=⟨[R .str,R .u8],[(.sl 9 .str)],.uniq,spec_Split⟩
theorem s148:Sd 148 pf148:=sf (F:=F148) (ek trivial) Tryz.func148 fun a=>by kernel_rfl
def F149:=fe [] [(2,[.slot 7 .i64 (.imm false)])]
def pf149:PF:=⟨[R .str,R .u8],[.str,.str,.bool],.uniq,spec_l2Cut⟩
theorem s149:Sd 149 pf149:=sf (F:=F149) (ek trivial) Tryz.func149 fun a=>by kernel_rfl
def F138:=fe [] [(5,[.slot 0 .i64 (.imm false),.slot 4 .str (.imm false)])]
def pf138:PF:=⟨[R .i64],[.str],.uniq,spec_Digits⟩
theorem s138:Sd 138 pf138:=sf (F:=F138) (ek trivial) Tryz.func138 fun a=>by kernel_rfl
def F150:=fe [(138,pf138)] [(5,[.slot 4 .i64 (.imm false),.slot 5 .i64 (.imm false)])]
def pf150:PF:=⟨[R .str],[.i64,.bool],.uniq,spec_Number⟩
theorem s150:Sd 150 pf150:=sf (F:=F150) (ek ⟨s138,trivial⟩) Tryz.func150 fun a=>by kernel_rfl
def F105:=fe [(103,pf103)] []
def pf105:PF:=⟨[R q6],[.bool],.uniq,spec_TxOk⟩
theorem s105:Sd 105 pf105:=sf (F:=F105) (ek ⟨s103,trivial⟩) Tryz.func105 fun a=>by kernel_rfl
def F170:=fe [(105,pf105),(138,pf138)] []
def pf170:PF:=⟨[R q6],[.str],.uniq,spec_TxText⟩
theorem s170:Sd 170 pf170:=sf (F:=F170) (ek ⟨s105,s138,trivial⟩) Tryz.func170 fun a=>by kernel_rfl
def F171:=fe [(149,pf149),(150,pf150),(170,pf170)] []
def pf171:PF:=⟨[R .str],[q6,.bool],.uniq,spec_TxOf⟩
theorem s171:Sd 171 pf171:=sf (F:=F171) (ek ⟨s149,s150,s170,trivial⟩) Tryz.func171 fun a=>by kernel_rfl
def F151:=fe [(148,pf148),(171,pf171)] [(6,[.slot 4 (.sl 52 q6) (.own true),.slot 6 .i64 (.imm false)])]
def pf151:PF:=⟨[R .str],[(.sl 52 q6),.bool],.uniq,spec_TxsOf⟩
theorem s151:Sd 151 pf151:=sf (F:=F151) (ek ⟨s148,s171,trivial⟩) Tryz.func151 fun a=>by kernel_rfl
def F108:=fe [(148,pf148),(149,pf149),(150,pf150),(151,pf151)] [(10,[.slot 5 (.sl 154 (.pair .i64 (.sl 52 q6))) (.own true),.slot 7 .i64 (.imm false),.slot 8 .i64 (.imm false)])]
def pf108:PF:=⟨[R .str],[(.sl 154 (.pair .i64 (.sl 52 q6))),.bool],.uniq,spec_Steps⟩
theorem s108:Sd 108 pf108:=sf (F:=F108) (ek ⟨s148,s149,s150,s151,trivial⟩) Tryz.func108 fun a=>by kernel_rfl
def F145:=fe [(108,pf108)] []
def pf145:PF:=⟨[R .str],[.bool],.uniq,spec_NameOk⟩
theorem s145:Sd 145 pf145:=sf (F:=F145) (ek ⟨s108,trivial⟩) Tryz.func145 fun a=>by kernel_rfl
def F66:=fe [(108,pf108)] []
def pf66:PF:=⟨[R .str],[.i64],.uniq,spec_ViewOf⟩
theorem s66:Sd 66 pf66:=sf (F:=F66) (ek ⟨s108,trivial⟩) Tryz.func66 fun a=>by kernel_rfl
def F146:=fe [] [(2,[.slot 5 .i64 (.imm false)])]
def pf146:PF:=⟨[R .i64,R (.sl 3 .i64)],[.bool],.uniq,spec_SetOk⟩
theorem s146:Sd 146 pf146:=sf (F:=F146) (ek trivial) Tryz.func146 fun a=>by kernel_rfl
def F131:=fe [(99,pf99)] []
def pf131:PF:=⟨[R (.pair .i64 .i64)],[.i64],.uniq,spec_Quorum⟩
theorem s131:Sd 131 pf131:=sf (F:=F131) (ek ⟨s99,trivial⟩) Tryz.func131 fun a=>by kernel_rfl
def F104:=fe [(99,pf99),(145,pf145),(66,pf66),(146,pf146),(131,pf131)] []
def pf104:PF:=⟨[R (.pair .i64 .i64),R q4],[.bool],.uniq,spec_QcOk⟩
theorem s104:Sd 104 pf104:=sf (F:=F104) (ek ⟨s99,s145,s66,s146,s131,trivial⟩) Tryz.func104 fun a=>by kernel_rfl
def F110:=fe [(103,pf103),(104,pf104),(145,pf145)] []
def pf110:PF:=⟨[R (.pair .i64 .i64),R q7],[.bool],.uniq,spec_SafeOk⟩
theorem s110:Sd 110 pf110:=sf (F:=F110) (ek ⟨s103,s104,s145,trivial⟩) Tryz.func110 fun a=>by kernel_rfl
def F140:=fe [] []
def pf140:PF:=⟨[R q6,R q6],[.bool],.uniq,spec_l4Before⟩
theorem s140:Sd 140 pf140:=sf (F:=F140) (ek trivial) Tryz.func140 fun a=>by kernel_rfl
def F141:=fe [(105,pf105),(140,pf140)] [(2,[.slot 3 .i64 (.imm false)])]
def pf141:PF:=⟨[R (.sl 52 q6)],[.bool],.uniq,spec_PoolOk⟩
theorem s141:Sd 141 pf141:=sf (F:=F141) (ek ⟨s105,s140,trivial⟩) Tryz.func141 fun a=>by kernel_rfl
def F102:=fe [(99,pf99),(103,pf103),(146,pf146),(145,pf145),(66,pf66)] []
def pf102:PF:=⟨[R (.pair .i64 .i64),R q4],[.bool],.uniq,spec_PartOk⟩
theorem s102:Sd 102 pf102:=sf (F:=F102) (ek ⟨s99,s103,s146,s145,s66,trivial⟩) Tryz.func102 fun a=>by kernel_rfl
def F142:=fe [] []
def pf142:PF:=⟨[R q4,R q4],[.bool],.uniq,spec_l10Before⟩
theorem s142:Sd 142 pf142:=sf (F:=F142) (ek trivial) Tryz.func142 fun a=>by kernel_rfl
def F144:=fe [(102,pf102),(142,pf142)] [(2,[.slot 5 .i64 (.imm false)])]
def pf144:PF:=⟨[R (.pair .i64 .i64),R (.sl 50 q4)],[.bool],.uniq,spec_TableOk⟩
theorem s144:Sd 144 pf144:=sf (F:=F144) (ek ⟨s102,s142,trivial⟩) Tryz.func144 fun a=>by kernel_rfl
def F165:=fe [(103,pf103)] []
def pf165:PF:=⟨[R q11],[.bool],.uniq,spec_DiskOk⟩
theorem s165:Sd 165 pf165:=sf (F:=F165) (ek ⟨s103,trivial⟩) Tryz.func165 fun a=>by kernel_rfl
def F122:=fe [] [(2,[.slot 5 .i64 (.imm false)])]
def pf122:PF:=⟨[R (.sl 3 .i64),R (.sl 3 .i64)],[.bool],.uniq,spec_l7Ints⟩
theorem s122:Sd 122 pf122:=sf (F:=F122) (ek trivial) Tryz.func122 fun a=>by kernel_rfl
def F81:=fe [(122,pf122)] []
def pf81:PF:=⟨[R q4,R q4],[.bool],.uniq,spec_QcSame⟩
theorem s81:Sd 81 pf81:=sf (F:=F81) (ek ⟨s122,trivial⟩) Tryz.func81 fun a=>by kernel_rfl
def F83:=fe [(81,pf81)] []
def pf83:PF:=⟨[R (.pair .str q4),R (.pair .str q4)],[.bool],.uniq,spec_BlockSame⟩
theorem s83:Sd 83 pf83:=sf (F:=F83) (ek ⟨s81,trivial⟩) Tryz.func83 fun a=>by kernel_rfl
def F84:=fe [(122,pf122)] []
def pf84:PF:=⟨[R q4,R q4],[.bool],.uniq,spec_l14Part⟩
theorem s84:Sd 84 pf84:=sf (F:=F84) (ek ⟨s122,trivial⟩) Tryz.func84 fun a=>by kernel_rfl
def F44:=fe [(83,pf83),(84,pf84),(81,pf81)] []
def pf44:PF:=⟨[R q2,R q2],[.bool],.uniq,spec_MsgSame⟩
theorem s44:Sd 44 pf44:=sf (F:=F44) (ek ⟨s83,s84,s81,trivial⟩) Tryz.func44 fun a=>by kernel_rfl
def F100:=fe [(44,pf44)] []
def pf100:PF:=⟨[R q2],[.bool],.uniq,spec_l14Zero⟩
theorem s100:Sd 100 pf100:=sf (F:=F100) (ek ⟨s44,trivial⟩) Tryz.func100 fun a=>by kernel_rfl
def F87:=fe [] []
def pf87:PF:=⟨[R .i64,R .i64],[.i64],.uniq,spec_l1Max⟩
theorem s87:Sd 87 pf87:=sf (F:=F87) (ek trivial) Tryz.func87 fun a=>by kernel_rfl
def F112:=fe [(145,pf145),(87,pf87)] [(4,[.slot 3 .i64 (.imm false)])]
def pf112:PF:=⟨[R .str],[.str],.uniq,spec_UpOf⟩
theorem s112:Sd 112 pf112:=sf (F:=F112) (ek ⟨s145,s87,trivial⟩) Tryz.func112 fun a=>by kernel_rfl
def F101:=fe [(104,pf104),(145,pf145),(112,pf112)] []
def pf101:PF:=⟨[R (.pair .i64 .i64),R (.pair .str q4)],[.bool],.uniq,spec_BlockOk⟩
theorem s101:Sd 101 pf101:=sf (F:=F101) (ek ⟨s104,s145,s112,trivial⟩) Tryz.func101 fun a=>by kernel_rfl
def F57:=fe [(99,pf99),(100,pf100),(101,pf101),(102,pf102),(103,pf103),(104,pf104),(105,pf105)] []
def pf57:PF:=⟨[R (.pair .i64 .i64),R q2],[.bool],.uniq,spec_MsgOk⟩
theorem s57:Sd 57 pf57:=sf (F:=F57) (ek ⟨s99,s100,s101,s102,s103,s104,s105,trivial⟩) Tryz.func57 fun a=>by kernel_rfl
def F128:=fe [(99,pf99),(103,pf103),(110,pf110),(141,pf141),(144,pf144),(165,pf165),(57,pf57)] [(4,[.slot 5 .i64 (.imm false)])]
def pf128:PF:=⟨[R (.pair .i64 .i64),R q1],[.bool],.uniq,spec_RepOk⟩
theorem s128:Sd 128 pf128:=sf (F:=F128) (ek ⟨s99,s103,s110,s141,s144,s165,s57,trivial⟩) Tryz.func128 fun a=>by kernel_rfl
def F123:=fe [(128,pf128)] []
def pf123:PF:=⟨[R (.pair .i64 .i64),R .i64],[q1,.bool],.uniq,spec_RepNew⟩
theorem s123:Sd 123 pf123:=sf (F:=F123) (ek ⟨s128,trivial⟩) Tryz.func123 fun a=>by kernel_rfl
def F154:=fe [(99,pf99)] []
def pf154:PF:=⟨[R (.pair .i64 .i64)],[.i64],.uniq,spec_Faults⟩
theorem s154:Sd 154 pf154:=sf (F:=F154) (ek ⟨s99,trivial⟩) Tryz.func154 fun a=>by kernel_rfl
def F188:=fe [] [(3,[.slot 7 .i64 (.imm false),.slot 8 .i64 (.imm false)])]
def pf188:PF:=⟨[R (.sl 5 .u8),R .i64],[.i64,.i64,.bool],.uniq,spec_GetNum⟩
theorem s188:Sd 188 pf188:=sf (F:=F188) (ek trivial) Tryz.func188 fun a=>by kernel_rfl
def F172:=fe [(188,pf188)] []
def pf172:PF:=⟨[(.ptr,q13)],[.i64],.uniq,spec_l12Num⟩
theorem s172:Sd 172 pf172:=sf (F:=F172) (ek ⟨s188,trivial⟩) Tryz.func172 fun a=>by kernel_rfl
def F189:=fe [(188,pf188)] []
def pf189:PF:=⟨[R (.sl 5 .u8),R .i64],[.str,.i64,.bool],.uniq,spec_GetText⟩
theorem s189:Sd 189 pf189:=sf (F:=F189) (ek ⟨s188,trivial⟩) Tryz.func189 fun a=>by kernel_rfl
def F173:=fe [(189,pf189)] []
def pf173:PF:=⟨[(.ptr,q13)],[.str],.uniq,spec_l12Text⟩
theorem s173:Sd 173 pf173:=sf (F:=F173) (ek ⟨s189,trivial⟩) Tryz.func173 fun a=>by kernel_rfl
def F175:=fe [(172,pf172)] [(4,[.slot 3 (.sl 3 .i64) (.own true),.slot 5 .i64 (.imm false),.keep 0 q13 [2,0,0]])]
def pf175:PF:=⟨[(.ptr,q13)],[(.sl 3 .i64)],.uniq,spec_l12Who⟩
theorem s175:Sd 175 pf175:=sf (F:=F175) (ek ⟨s172,trivial⟩) Tryz.func175 fun a=>by kernel_rfl
def F174:=fe [(172,pf172),(173,pf173),(175,pf175)] []
def pf174:PF:=⟨[(.ptr,q13)],[q4],.uniq,spec_l12Qc⟩
theorem s174:Sd 174 pf174:=sf (F:=F174) (ek ⟨s172,s173,s175,trivial⟩) Tryz.func174 fun a=>by kernel_rfl
def F155:=fe [(172,pf172),(173,pf173),(174,pf174),(175,pf175),(57,pf57)] []
def pf155:PF:=⟨[R (.pair .i64 .i64),R (.sl 5 .u8)],[q2,.bool],.uniq,spec_MsgOf⟩
theorem s155:Sd 155 pf155:=sf (F:=F155) (ek ⟨s172,s173,s174,s175,s57,trivial⟩) Tryz.func155 fun a=>by kernel_rfl
def F124:=fe [(99,pf99),(146,pf146),(154,pf154),(128,pf128),(155,pf155),(103,pf103),(145,pf145),(66,pf66)] [(4,[.slot 3 .i64 (.imm false)]),(9,[.slot 4 .i64 (.imm false)]),(15,[.slot 7 .i64 (.imm false)])]
def pf124:PF:=⟨[R q3],[.bool],.uniq,spec_WorldOk⟩
theorem s124:Sd 124 pf124:=sf (F:=F124) (ek ⟨s99,s146,s154,s128,s155,s103,s145,s66,trivial⟩) Tryz.func124 fun a=>by kernel_rfl
def F85:=fe [(99,pf99),(123,pf123),(124,pf124)] [(3,[.slot 7 .i64 (.imm false),.box 5 q3 (.own true)])]
def pf85:PF:=⟨[R (.pair .i64 .i64),R (.sl 3 .i64)],[q3,.bool],.uniq,spec_WorldNew⟩
theorem s85:Sd 85 pf85:=sf (F:=F85) (ek ⟨s99,s123,s124,trivial⟩) Tryz.func85 fun a=>by kernel_rfl
def F45:=fe [(49,pf49),(13,pf13),(51,pf51),(85,pf85)] []
def pf45:PF:=⟨[(.ptr,q5)],[q3],.uniq,spec_l20DrawStart⟩
theorem s45:Sd 45 pf45:=sf (F:=F45) (ek ⟨s49,s13,s51,s85,trivial⟩) Tryz.func45 fun a=>by kernel_rfl
def F129:=fe [(99,pf99)] []
def pf129:PF:=⟨[R (.pair .i64 .i64),R .i64],[.i64],.uniq,spec_Root⟩
theorem s129:Sd 129 pf129:=sf (F:=F129) (ek ⟨s99,trivial⟩) Tryz.func129 fun a=>by kernel_rfl
def F120:=fe [] []
def pf120:PF:=⟨[R q4],[q4],.uniq,spec_l10Copy⟩
theorem s120:Sd 120 pf120:=sf (F:=F120) (ek trivial) Tryz.func120 fun a=>by kernel_rfl
def F130:=fe [(120,pf120)] [(2,[.slot 7 .i64 (.imm false),.box 1 q4 (.own true)])]
def pf130:PF:=⟨[R (.sl 50 q4),R .i64,R .str],[q4],.uniq,spec_TableGet⟩
theorem s130:Sd 130 pf130:=sf (F:=F130) (ek ⟨s120,trivial⟩) Tryz.func130 fun a=>by kernel_rfl
def F133:=fe [] [(3,[.slot 2 .i64 (.imm false),.box 2 q9 (.own true)])]
def pf133:PF:=⟨[],[q9],.uniq,spec_LedgerNew⟩
theorem s133:Sd 133 pf133:=sf (F:=F133) (ek trivial) Tryz.func133 fun a=>by kernel_rfl
def F134:=fe [(108,pf108)] [(4,[.slot 3 (.sl 52 q6) (.own true),.slot 6 .i64 (.imm false)])]
def pf134:PF:=⟨[R .str],[(.sl 52 q6)],.uniq,spec_TxsIn⟩
theorem s134:Sd 134 pf134:=sf (F:=F134) (ek ⟨s108,trivial⟩) Tryz.func134 fun a=>by kernel_rfl
def F166:=fe [] []
def pf166:PF:=⟨[R q9],[q9],.uniq,spec_l3Copy⟩
theorem s166:Sd 166 pf166:=sf (F:=F166) (ek trivial) Tryz.func166 fun a=>by kernel_rfl
def F187:=fe [(103,pf103)] [(4,[.slot 3 .i64 (.imm false)])]
def pf187:PF:=⟨[R q9],[.bool],.uniq,spec_LedgerOk⟩
theorem s187:Sd 187 pf187:=sf (F:=F187) (ek ⟨s103,trivial⟩) Tryz.func187 fun a=>by kernel_rfl
def F167:=fe [(166,pf166),(187,pf187),(105,pf105)] []
def pf167:PF:=⟨[R q9,R q6],[q9,.i64],.uniq,spec_Pay⟩
theorem s167:Sd 167 pf167:=sf (F:=F167) (ek ⟨s166,s187,s105,trivial⟩) Tryz.func167 fun a=>by kernel_rfl
def F132:=fe [(166,pf166),(167,pf167)] [(4,[.slot 7 (.sl 3 .i64) (.own true),.slot 8 .i64 (.imm false),.box 7 q9 (.own true)])]
def pf132:PF:=⟨[R q9,R (.sl 52 q6)],[q9,(.sl 3 .i64)],.uniq,spec_PayAll⟩
theorem s132:Sd 132 pf132:=sf (F:=F132) (ek ⟨s166,s167,trivial⟩) Tryz.func132 fun a=>by kernel_rfl
def F135:=fe [(166,pf166),(167,pf167)] [(4,[.slot 5 (.sl 52 q6) (.own true),.slot 7 .i64 (.imm false),.box 7 q9 (.own true)])]
def pf135:PF:=⟨[R (.sl 52 q6),R q9],[(.sl 52 q6)],.uniq,spec_PoolTake⟩
theorem s135:Sd 135 pf135:=sf (F:=F135) (ek ⟨s166,s167,trivial⟩) Tryz.func135 fun a=>by kernel_rfl
def F147:=fe [(105,pf105),(170,pf170)] [(3,[.slot 3 .str (.imm false),.slot 4 .i64 (.imm false)])]
def pf147:PF:=⟨[R (.sl 52 q6)],[.str],.uniq,spec_TxsText⟩
theorem s147:Sd 147 pf147:=sf (F:=F147) (ek ⟨s105,s170,trivial⟩) Tryz.func147 fun a=>by kernel_rfl
def F106:=fe [(105,pf105),(138,pf138),(147,pf147),(145,pf145)] [(2,[.slot 7 .i64 (.imm false)])]
def pf106:PF:=⟨[R .str,R .i64,R (.sl 52 q6)],[.str],.uniq,spec_NameOf⟩
theorem s106:Sd 106 pf106:=sf (F:=F106) (ek ⟨s105,s138,s147,s145,trivial⟩) Tryz.func106 fun a=>by kernel_rfl
def F119:=fe [] []
def pf119:PF:=⟨[R q4],[q4],.uniq,spec_l7Copy⟩
theorem s119:Sd 119 pf119:=sf (F:=F119) (ek trivial) Tryz.func119 fun a=>by kernel_rfl
def F109:=fe [(106,pf106),(119,pf119),(101,pf101),(66,pf66)] []
def pf109:PF:=⟨[R (.pair .i64 .i64),R q4,R .i64,R (.sl 52 q6)],[(.pair .str q4),.bool],.uniq,spec_BlockNew⟩
theorem s109:Sd 109 pf109:=sf (F:=F109) (ek ⟨s106,s119,s101,s66,trivial⟩) Tryz.func109 fun a=>by kernel_rfl
def F88:=fe [(128,pf128),(129,pf129),(130,pf130),(131,pf131),(133,pf133),(134,pf134),(132,pf132),(135,pf135),(109,pf109)] []
def pf88:PF:=⟨[R (.pair .i64 .i64),R q1],[(.pair .str q4),.bool],.uniq,spec_Ask⟩
theorem s88:Sd 88 pf88:=sf (F:=F88) (ek ⟨s128,s129,s130,s131,s133,s134,s132,s135,s109,trivial⟩) Tryz.func88 fun a=>by kernel_rfl
def F20:=fe [] [(2,[.slot 5 .i64 (.imm false)])]
def pf20:PF:=⟨[R (.sl 3 .i64),R .i64],[.bool],.uniq,spec_SetHas⟩
theorem s20:Sd 20 pf20:=sf (F:=F20) (ek trivial) Tryz.func20 fun a=>by kernel_rfl
def F89:=fe [(13,pf13),(49,pf49)] []
def pf89:PF:=⟨[(.ptr,q5)],[q6],.uniq,spec_l2DrawRight⟩
theorem s89:Sd 89 pf89:=sf (F:=F89) (ek ⟨s13,s49,trivial⟩) Tryz.func89 fun a=>by kernel_rfl
def F91:=fe [] []
def pf91:PF:=⟨[R .i64,R .i64],[.i64],.uniq,spec_l1Min⟩
theorem s91:Sd 91 pf91:=sf (F:=F91) (ek trivial) Tryz.func91 fun a=>by kernel_rfl
def F50:=fe [(20,pf20)] [(4,[.slot 5 .i64 (.imm false)])]
def pf50:PF:=⟨[R (.sl 3 .i64),R .i64],[(.sl 3 .i64)],.uniq,spec_SetAdd⟩
theorem s50:Sd 50 pf50:=sf (F:=F50) (ek ⟨s20,trivial⟩) Tryz.func50 fun a=>by kernel_rfl
def F136:=fe [(13,pf13),(106,pf106),(91,pf91),(51,pf51),(112,pf112),(50,pf50)] [(11,[.slot 7 (.sl 3 .i64) (.own true),.slot 9 .i64 (.imm false)])]
def pf136:PF:=⟨[(.ptr,q5),R q3],[q2],.uniq,spec_l20DrawVotes⟩
theorem s136:Sd 136 pf136:=sf (F:=F136) (ek ⟨s13,s106,s91,s51,s112,s50,trivial⟩) Tryz.func136 fun a=>by kernel_rfl
def F137:=fe [] []
def pf137:PF:=⟨[],[q4],.uniq,spec_QcFirst⟩
theorem s137:Sd 137 pf137:=sf (F:=F137) (ek trivial) Tryz.func137 fun a=>by kernel_rfl
def F90:=fe [(136,pf136),(104,pf104),(137,pf137),(51,pf51),(13,pf13),(119,pf119),(91,pf91),(129,pf129),(89,pf89),(109,pf109)] [(17,[.slot 8 .i64 (.imm false),.slot 9 .i64 (.imm false)])]
def pf90:PF:=⟨[(.ptr,q5),R q3],[q2],.uniq,spec_l20DrawLie⟩
def l90b:Code:=match Tryz.f90.body with|some b=>b|none=>.skip
def l90R0:Code:=sqL l90b
def l90R1:Code:=sqL (sqR l90b)
def l90R2:Code:=sqL (sqR (sqR l90b))
def l90X:Code:=sqR (sqR (sqR l90b))
def l90R3:Code:=sqL (sqL l90X)
def l90C:Code:=sqR (sqL l90X)
def l90E:Code:=sqR l90X
def l90A:Code:=cnA l90C
def l90R4:Code:=sqL l90A
def l90R5:Code:=sqL (sqR l90A)
def l90R6:Code:=cnA (sqR (sqR l90A))
def l90sB (a:argT pf90.params) (r0:outT pf136.params pf136.rets) (r1:outT pf104.params pf104.rets):St:=rn (fe [(136,oP pf136 r0),(104,oP pf104 r1)] []) (.seq l90R0 (.seq l90R1 (.seq l90R2 l90R3))) (en Tryz.f90 pf90.params a)
def l90s5 (a:argT pf90.params) (r0:outT pf136.params pf136.rets) (r1:outT pf104.params pf104.rets) (r2:outT pf137.params pf137.rets):St:=rgo (fe [(137,oP pf137 r2)] []) l90R5 0 5 (rn (fe [(137,oP pf137 r2)] []) l90R4 (l90sB a r0 r1))
def l90sZ (a:argT pf90.params) (r0:outT pf136.params pf136.rets) (r1:outT pf104.params pf104.rets) (r2:outT pf137.params pf137.rets):St:=rgo (fe [] []) l90R5 5 8 ((l90s5 a r0 r1 r2).put (some 35) (.v (.one (.b false))))
def l90sF (a:argT pf90.params) (r0:outT pf136.params pf136.rets) (r1:outT pf104.params pf104.rets) (r2:outT pf137.params pf137.rets) (r3:outT pf51.params pf51.rets):St:=rgo (fe [(51,oP pf51 r3)] []) l90R5 5 8 ((l90s5 a r0 r1 r2).put (some 35) (.v (.one (.b true))))
theorem l90fr (rest:Code) (a:argT pf90.params) {β:Type} (k:X→St→Option β):evCode F90 (.seq l90R0 (.seq l90R1 (.seq l90R2 (.seq (.seq l90R3 l90C) rest)))) (en Tryz.f90 pf90.params a) k=((spec_l20DrawVotes (a.1,(a.2.1,()))).bind fun r0=>((spec_QcOk (a.2.1.1,(r0.2.1.2.2.2.1,()))).bind fun r1=>(bif (!r1.1) then ((spec_QcFirst ()).bind fun r2=>(bif (decide ((((List.length a.2.1.2.2.1):Nat):Int)>0)) then ((spec_l1Once ((a.1.1,r0.1.2),(2,()))).bind fun r3=>(bif r3.2.1 then (evCode F90 (.seq l90R6 rest) (l90sF a r0 r1 r2 r3) k) else (evCode F90 rest (l90sF a r0 r1 r2 r3) k))) else (evCode F90 rest (l90sZ a r0 r1 r2) k))) else (evCode F90 rest (l90sB a r0 r1) k)))):=by kernel_rfl
theorem l90T (a:argT pf90.params) (r0:outT pf136.params pf136.rets) (r1:outT pf104.params pf104.rets) (r2:outT pf137.params pf137.rets) (r3:outT pf51.params pf51.rets):evF F90 Tryz.f90 pf90.params pf90.rets pf90.rk a (.seq l90R6 l90E) (l90sF a r0 r1 r2 r3)=((spec_l1Below ((a.1.1,r3.1.2),((((List.length a.2.1.2.2.1):Nat):Int),()))).bind fun r4=>(if ((0≤r4.2.1)∧(r4.2.1<(((List.length a.2.1.2.2.1):Nat):Int))) then ((spec_l7Copy ((rd (.pair .i64 (.pair .i64 (.pair .i64 (.pair (.pair .i64 (.pair .i64 (.pair q14 .str))) (.pair (.sl 0 q6) (.pair (.sl 0 q14) (.pair (.pair (.sl 0 .u8) .i64) (.sl 0 (.pair .i64 (.pair .i64 (.pair .i64 (.pair (.pair .str q14) (.pair q14 (.pair q14 (.pair .i64 q6))))))))))))))) a.2.1.2.2.1 (Int.toNat r4.2.1)).2.2.2.1.2.2.1,())).bind fun r5=>(spec_l20DrawLieT (a,(r0,(r4,r5))))) else none)):=by kernel_rfl
theorem l90F (a:argT pf90.params) (r0:outT pf136.params pf136.rets) (r1:outT pf104.params pf104.rets) (r2:outT pf137.params pf137.rets) (r3:outT pf51.params pf51.rets):evF F90 Tryz.f90 pf90.params pf90.rets pf90.rk a l90E (l90sF a r0 r1 r2 r3)=spec_l20DrawLieF (a,(r0,(r2,r3))):=by kernel_rfl
theorem l90Z (a:argT pf90.params) (r0:outT pf136.params pf136.rets) (r1:outT pf104.params pf104.rets) (r2:outT pf137.params pf137.rets):evF F90 Tryz.f90 pf90.params pf90.rets pf90.rk a l90E (l90sZ a r0 r1 r2)=spec_l20DrawLieZ (a,(r0,r2)):=by kernel_rfl
theorem l90B (a:argT pf90.params) (r0:outT pf136.params pf136.rets) (r1:outT pf104.params pf104.rets):evF F90 Tryz.f90 pf90.params pf90.rets pf90.rk a l90E (l90sB a r0 r1)=spec_l20DrawLieB (a,r0):=by kernel_rfl
theorem l90e (a:argT pf90.params):evFun F90 Tryz.f90 pf90.params pf90.rets pf90.rk a=evF F90 Tryz.f90 pf90.params pf90.rets pf90.rk a (.seq l90R0 (.seq l90R1 (.seq l90R2 (.seq (.seq l90R3 l90C) l90E)))) (en Tryz.f90 pf90.params a):=by kernel_rfl
theorem s90:Sd 90 pf90:=sf (F:=F90) (ek ⟨s136,s104,s137,s51,s13,s119,s91,s129,s89,s109,trivial⟩) Tryz.func90 fun a=>(l90e a).trans ((l90fr l90E a _).trans (bc fun r0=>bc fun r1=>cc (bc fun r2=>cc (bc fun r3=>cc (l90T a r0 r1 r2 r3) (l90F a r0 r1 r2 r3)) (l90Z a r0 r1 r2)) (l90B a r0 r1)))
def F47:=fe [(87,pf87),(13,pf13),(88,pf88),(20,pf20),(51,pf51),(49,pf49),(89,pf89),(90,pf90),(91,pf91)] [(8,[.slot 7 .i64 (.imm false),.box 7 q8 (.own true)]),(19,[.slot 10 .i64 (.imm false),.box 7 q8 (.own true)])]
def pf47:PF:=⟨[(.ptr,q5),R q3],[q8],.uniq,spec_l20DrawDeed⟩
theorem s47:Sd 47 pf47:=sf (F:=F47) (ek ⟨s87,s13,s88,s20,s51,s49,s89,s90,s91,trivial⟩) Tryz.func47 fun a=>by kernel_rfl
def F77:=fe [(119,pf119)] []
def pf77:PF:=⟨[R q7],[q7],.uniq,spec_l11Copy⟩
theorem s77:Sd 77 pf77:=sf (F:=F77) (ek ⟨s119,trivial⟩) Tryz.func77 fun a=>by kernel_rfl
def F78:=fe [(120,pf120)] [(3,[.slot 3 (.sl 50 q4) (.own true),.slot 4 .i64 (.imm false)])]
def pf78:PF:=⟨[R (.sl 50 q4)],[(.sl 50 q4)],.uniq,spec_l10Table⟩
theorem s78:Sd 78 pf78:=sf (F:=F78) (ek ⟨s120,trivial⟩) Tryz.func78 fun a=>by kernel_rfl
def F79:=fe [] []
def pf79:PF:=⟨[R q11],[q11],.uniq,spec_l13Copy⟩
theorem s79:Sd 79 pf79:=sf (F:=F79) (ek trivial) Tryz.func79 fun a=>by kernel_rfl
def F153:=fe [(119,pf119)] []
def pf153:PF:=⟨[R (.pair .str q4)],[(.pair .str q4)],.uniq,spec_l8Copy⟩
theorem s153:Sd 153 pf153:=sf (F:=F153) (ek ⟨s119,trivial⟩) Tryz.func153 fun a=>by kernel_rfl
def F121:=fe [(153,pf153),(120,pf120),(119,pf119)] []
def pf121:PF:=⟨[R q2],[q2],.uniq,spec_l14Copy⟩
theorem s121:Sd 121 pf121:=sf (F:=F121) (ek ⟨s153,s120,s119,trivial⟩) Tryz.func121 fun a=>by kernel_rfl
def F80:=fe [(121,pf121)] [(3,[.slot 3 q12 (.own true),.slot 4 .i64 (.imm false)])]
def pf80:PF:=⟨[R q12],[q12],.uniq,spec_l15Posts⟩
theorem s80:Sd 80 pf80:=sf (F:=F80) (ek ⟨s121,trivial⟩) Tryz.func80 fun a=>by kernel_rfl
def F39:=fe [(77,pf77),(78,pf78),(79,pf79),(80,pf80)] []
def pf39:PF:=⟨[R q1],[q1],.uniq,spec_l15Copy⟩
theorem s39:Sd 39 pf39:=sf (F:=F39) (ek ⟨s77,s78,s79,s80,trivial⟩) Tryz.func39 fun a=>by kernel_rfl
def F111:=fe [(119,pf119)] []
def pf111:PF:=⟨[R q4,R q4],[q4],.uniq,spec_QcLater⟩
theorem s111:Sd 111 pf111:=sf (F:=F111) (ek ⟨s119,trivial⟩) Tryz.func111 fun a=>by kernel_rfl
def F113:=fe [(108,pf108),(112,pf112)] []
def pf113:PF:=⟨[R .str],[.str,.bool],.uniq,spec_Settles⟩
theorem s113:Sd 113 pf113:=sf (F:=F113) (ek ⟨s108,s112,trivial⟩) Tryz.func113 fun a=>by kernel_rfl
def F114:=fe [(145,pf145)] []
def pf114:PF:=⟨[R .str,R .str],[.bool],.uniq,spec_Extends⟩
theorem s114:Sd 114 pf114:=sf (F:=F114) (ek ⟨s145,trivial⟩) Tryz.func114 fun a=>by kernel_rfl
def F69:=fe [(77,pf77),(110,pf110),(104,pf104),(111,pf111),(112,pf112),(66,pf66),(87,pf87),(113,pf113),(114,pf114)] []
def pf69:PF:=⟨[R (.pair .i64 .i64),R q7,R q4],[q7],.uniq,spec_See⟩
theorem s69:Sd 69 pf69:=sf (F:=F69) (ek ⟨s77,s110,s104,s111,s112,s66,s87,s113,s114,trivial⟩) Tryz.func69 fun a=>by kernel_rfl
def F115:=fe [(110,pf110),(101,pf101),(66,pf66)] []
def pf115:PF:=⟨[R (.pair .i64 .i64),R q7,R (.pair .str q4)],[.bool],.uniq,spec_MayVote⟩
theorem s115:Sd 115 pf115:=sf (F:=F115) (ek ⟨s110,s101,s66,trivial⟩) Tryz.func115 fun a=>by kernel_rfl
def F70:=fe [(77,pf77),(115,pf115),(66,pf66)] []
def pf70:PF:=⟨[R (.pair .i64 .i64),R q7,R (.pair .str q4)],[q7,.bool],.uniq,spec_Vote⟩
theorem s70:Sd 70 pf70:=sf (F:=F70) (ek ⟨s77,s115,s66,trivial⟩) Tryz.func70 fun a=>by kernel_rfl
def F40:=fe [(81,pf81)] []
def pf40:PF:=⟨[R q7,R q7],[.bool],.uniq,spec_SafeSame⟩
theorem s40:Sd 40 pf40:=sf (F:=F40) (ek ⟨s81,trivial⟩) Tryz.func40 fun a=>by kernel_rfl
def F58:=fe [(103,pf103)] [(4,[.slot 0 .i64 (.imm false),.slot 3 (.sl 5 .u8) (.own true)])]
def pf58:PF:=⟨[R .i64],[(.sl 5 .u8)],.uniq,spec_PutNum⟩
theorem s58:Sd 58 pf58:=sf (F:=F58) (ek ⟨s103,trivial⟩) Tryz.func58 fun a=>by kernel_rfl
def F59:=fe [(58,pf58)] []
def pf59:PF:=⟨[R .str],[(.sl 5 .u8)],.uniq,spec_PutText⟩
theorem s59:Sd 59 pf59:=sf (F:=F59) (ek ⟨s58,trivial⟩) Tryz.func59 fun a=>by kernel_rfl
def F60:=fe [(104,pf104),(58,pf58),(59,pf59)] [(6,[.slot 5 (.sl 5 .u8) (.own true),.slot 6 .i64 (.imm false)])]
def pf60:PF:=⟨[R (.pair .i64 .i64),R q4],[(.sl 5 .u8)],.uniq,spec_QcBytes⟩
theorem s60:Sd 60 pf60:=sf (F:=F60) (ek ⟨s104,s58,s59,trivial⟩) Tryz.func60 fun a=>by kernel_rfl
def F204:=fe [(110,pf110),(58,pf58),(60,pf60),(59,pf59)] []
def pf204:PF:=⟨[R (.pair .i64 .i64),R q7],[(.sl 5 .u8)],.uniq,spec_SafeBytes⟩
theorem s204:Sd 204 pf204:=sf (F:=F204) (ek ⟨s110,s58,s60,s59,trivial⟩) Tryz.func204 fun a=>by kernel_rfl
def F199:=fe [(204,pf204),(58,pf58)] []
def pf199:PF:=⟨[R (.pair .i64 .i64),R q7],[(.sl 5 .u8)],.uniq,spec_NoteBytes⟩
theorem s199:Sd 199 pf199:=sf (F:=F199) (ek ⟨s204,s58,trivial⟩) Tryz.func199 fun a=>by kernel_rfl
def F198:=fe [(79,pf79),(165,pf165)] []
def pf198:PF:=⟨[R q11,R (.sl 5 .u8)],[q11,.bool],.uniq,spec_Append⟩
theorem s198:Sd 198 pf198:=sf (F:=F198) (ek ⟨s79,s165,trivial⟩) Tryz.func198 fun a=>by kernel_rfl
def F193:=fe [(40,pf40),(199,pf199),(198,pf198),(110,pf110),(77,pf77)] []
def pf193:PF:=⟨[R (.pair .i64 .i64),(.own,q1),R q7],[q1,.bool],.own,spec_l15Write⟩
theorem e193 (a:argT pf193.params):evFunC F193 Tryz.f193 pf193.params pf193.rets pf193.rk a=pf193.fn a:=by kernel_rfl
theorem s193:SoundC Tryz.prog Glob.none 193 pf193:=sound_funC (F:=F193) (ek ⟨s40,s199,s198,s110,s77,trivial⟩) Tryz.func193 (by kernel_rfl) (by rfl) (fun a o h=>(e193 a).trans h)
def F169:=fe [(50,pf50)] [(3,[.slot 5 (.sl 3 .i64) (.own true),.slot 6 .i64 (.imm false)]),(7,[.slot 5 (.sl 3 .i64) (.own true),.slot 7 .i64 (.imm false)])]
def pf169:PF:=⟨[R (.sl 3 .i64),R (.sl 3 .i64)],[(.sl 3 .i64)],.uniq,spec_SetJoin⟩
theorem s169:Sd 169 pf169:=sf (F:=F169) (ek ⟨s50,trivial⟩) Tryz.func169 fun a=>by kernel_rfl
def F143:=fe [(169,pf169)] []
def pf143:PF:=⟨[R q4,R q4],[q4,.bool],.uniq,spec_PartJoin⟩
theorem s143:Sd 143 pf143:=sf (F:=F143) (ek ⟨s169,trivial⟩) Tryz.func143 fun a=>by kernel_rfl
def F96:=fe [(120,pf120),(142,pf142),(143,pf143),(144,pf144),(102,pf102),(78,pf78)] [(4,[.slot 8 (.sl 50 q4) (.own true),.slot 9 .bool (.imm false),.slot 10 .i64 (.imm false)])]
def pf96:PF:=⟨[R (.pair .i64 .i64),R (.sl 50 q4),R q4],[(.sl 50 q4),.bool],.uniq,spec_TableAdd⟩
theorem s96:Sd 96 pf96:=sf (F:=F96) (ek ⟨s120,s142,s143,s144,s102,s78,trivial⟩) Tryz.func96 fun a=>by kernel_rfl
def F205:=fe [(104,pf104)] []
def pf205:PF:=⟨[R (.pair .i64 .i64),R q4],[q4,.bool],.uniq,spec_PartQc⟩
theorem s205:Sd 205 pf205:=sf (F:=F205) (ek ⟨s104,trivial⟩) Tryz.func205 fun a=>by kernel_rfl
def F186:=fe [(57,pf57),(103,pf103),(121,pf121)] []
def pf186:PF:=⟨[R (.pair .i64 .i64),(.own,q1),R .i64,R q2],[q1,.bool],.own,spec_l16Tell⟩
theorem s186:Sd 186 pf186:=sf (F:=F186) (ek ⟨s57,s103,s121,trivial⟩) Tryz.func186 fun a=>by kernel_rfl
def F200:FEnv:=⟨⟨TYS,[(205,pf205),(69,pf69),(87,pf87),(129,pf129),(186,pf186)],EQS,[],[],false,[(193,pf193)],[],[],false,[]⟩,[]⟩
def pf200:PF:=⟨[R (.pair .i64 .i64),(.own,q1),R q4],[q1,.bool],.own,spec_l16Top⟩
theorem s200:Sd 200 pf200:=sf (F:=F200) (envOK ⟨s205,s69,s87,s129,s186,trivial⟩ trivial trivial s193 trivial trivial) Tryz.func200 fun a=>by kernel_rfl
def F206:=fe [(99,pf99),(103,pf103)] []
def pf206:PF:=⟨[R (.pair .i64 .i64),R .i64,R .i64],[.i64],.uniq,spec_Seat⟩
theorem s206:Sd 206 pf206:=sf (F:=F206) (ek ⟨s99,s103,trivial⟩) Tryz.func206 fun a=>by kernel_rfl
def F209:=fe [(99,pf99),(103,pf103)] []
def pf209:PF:=⟨[R (.pair .i64 .i64),R .i64,R .i64],[.i64],.uniq,spec_Sits⟩
theorem s209:Sd 209 pf209:=sf (F:=F209) (ek ⟨s99,s103,trivial⟩) Tryz.func209 fun a=>by kernel_rfl
def F203:=fe [(206,pf206),(209,pf209)] []
def pf203:PF:=⟨[R (.pair .i64 .i64),R .i64,R .i64],[.i64],.uniq,spec_Up⟩
theorem s203:Sd 203 pf203:=sf (F:=F203) (ek ⟨s206,s209,trivial⟩) Tryz.func203 fun a=>by kernel_rfl
def F207:=fe [(206,pf206),(203,pf203)] [(2,[.slot 2 .i64 (.imm false),.slot 7 (.sl 3 .i64) (.own true)])]
def pf207:PF:=⟨[R (.pair .i64 .i64),R .i64,R .i64],[(.sl 3 .i64)],.uniq,spec_Way⟩
theorem s207:Sd 207 pf207:=sf (F:=F207) (ek ⟨s206,s203,trivial⟩) Tryz.func207 fun a=>by kernel_rfl
def F201:=fe [(99,pf99),(206,pf206),(207,pf207),(20,pf20)] [(5,[.slot 7 (.sl 3 .i64) (.own true),.slot 8 .i64 (.imm false)])]
def pf201:PF:=⟨[R (.pair .i64 .i64),R .i64,R .i64],[(.sl 3 .i64)],.uniq,spec_Under⟩
theorem s201:Sd 201 pf201:=sf (F:=F201) (ek ⟨s99,s206,s207,s20,trivial⟩) Tryz.func201 fun a=>by kernel_rfl
def F208:=fe [] []
def pf208:PF:=⟨[R .bool],[.i64],.uniq,spec_l1Bit⟩
theorem s208:Sd 208 pf208:=sf (F:=F208) (ek trivial) Tryz.func208 fun a=>by kernel_rfl
def F202:=fe [(20,pf20),(208,pf208)] [(3,[.slot 5 .i64 (.imm false),.slot 6 .i64 (.imm false)])]
def pf202:PF:=⟨[R (.sl 3 .i64),R (.sl 3 .i64)],[.i64],.uniq,spec_Common⟩
theorem s202:Sd 202 pf202:=sf (F:=F202) (ek ⟨s20,s208,trivial⟩) Tryz.func202 fun a=>by kernel_rfl
def F196:=fe [(130,pf130),(129,pf129),(200,pf200),(201,pf201),(202,pf202),(203,pf203),(186,pf186)] []
def pf196:PF:=⟨[R (.pair .i64 .i64),(.own,q1),R .i64,R .str,R .bool],[q1,.bool],.own,spec_l16Climb⟩
theorem s196:Sd 196 pf196:=sf (F:=F196) (ek ⟨s130,s129,s200,s201,s202,s203,s186,trivial⟩) Tryz.func196 fun a=>by kernel_rfl
def F194:=fe [(66,pf66),(96,pf96),(39,pf39),(196,pf196)] []
def pf194:PF:=⟨[R (.pair .i64 .i64),R q1,R .str],[q1,.bool],.shared,spec_l17Own⟩
theorem s194:Sd 194 pf194:=sf (F:=F194) (ek ⟨s66,s96,s39,s196,trivial⟩) Tryz.func194 fun a=>by kernel_rfl
def F182:FEnv:=⟨⟨TYS,[(39,pf39),(128,pf128),(101,pf101),(69,pf69),(66,pf66),(115,pf115),(70,pf70),(194,pf194)],EQS,[],[],false,[(193,pf193)],[],[],false,[]⟩,[]⟩
def pf182:PF:=⟨[R (.pair .i64 .i64),R q1,R (.pair .str q4)],[q1,.bool],.shared,spec_HearBlock⟩
theorem s182:Sd 182 pf182:=sf (F:=F182) (envOK ⟨s39,s128,s101,s69,s66,s115,s70,s194,trivial⟩ trivial trivial s193 trivial trivial) Tryz.func182 fun a=>by kernel_rfl
def F190:=fe [(39,pf39),(128,pf128),(102,pf102),(96,pf96),(196,pf196)] []
def pf190:PF:=⟨[R (.pair .i64 .i64),R q1,R q4],[q1,.bool],.own,spec_HearPart⟩
theorem s190:Sd 190 pf190:=sf (F:=F190) (ek ⟨s39,s128,s102,s96,s196,trivial⟩) Tryz.func190 fun a=>by kernel_rfl
def F191:FEnv:=⟨⟨TYS,[(39,pf39),(128,pf128),(103,pf103),(104,pf104),(69,pf69),(129,pf129),(96,pf96),(130,pf130),(131,pf131),(87,pf87),(91,pf91)],EQS,[],[],false,[(193,pf193)],[],[],false,[]⟩,[]⟩
def pf191:PF:=⟨[R (.pair .i64 .i64),R q1,R .i64,R q4,R .i64],[q1,.bool],.own,spec_HearView⟩
theorem s191:Sd 191 pf191:=sf (F:=F191) (envOK ⟨s39,s128,s103,s104,s69,s129,s96,s130,s131,s87,s91,trivial⟩ trivial trivial s193 trivial trivial) Tryz.func191 fun a=>by kernel_rfl
def F95:=fe [(140,pf140),(141,pf141)] [(2,[.slot 6 .i64 (.imm false)])]
def pf95:PF:=⟨[R (.sl 52 q6),R q6],[(.sl 52 q6),.bool],.uniq,spec_PoolAdd⟩
theorem s95:Sd 95 pf95:=sf (F:=F95) (ek ⟨s140,s141,trivial⟩) Tryz.func95 fun a=>by kernel_rfl
def F192:=fe [(39,pf39),(128,pf128),(95,pf95)] []
def pf192:PF:=⟨[R (.pair .i64 .i64),R q1,R q6],[q1,.bool],.uniq,spec_HearTx⟩
theorem s192:Sd 192 pf192:=sf (F:=F192) (ek ⟨s39,s128,s95,trivial⟩) Tryz.func192 fun a=>by kernel_rfl
def F176:=fe [(182,pf182),(190,pf190),(191,pf191),(192,pf192)] []
def pf176:PF:=⟨[R (.pair .i64 .i64),R q1,R q2],[q1,.bool],.shared,spec_l17Hear⟩
theorem s176:Sd 176 pf176:=sf (F:=F176) (ek ⟨s182,s190,s191,s192,trivial⟩) Tryz.func176 fun a=>by kernel_rfl
def F177:=fe [(120,pf120)] [(3,[.slot 5 (.sl 50 q4) (.own true),.slot 6 .i64 (.imm false)])]
def pf177:PF:=⟨[R (.sl 50 q4),R .i64],[(.sl 50 q4)],.uniq,spec_TableDrop⟩
theorem s177:Sd 177 pf177:=sf (F:=F177) (ek ⟨s120,trivial⟩) Tryz.func177 fun a=>by kernel_rfl
def F179:=fe [(128,pf128),(133,pf133),(134,pf134),(132,pf132)] []
def pf179:PF:=⟨[R (.pair .i64 .i64),R q1],[q9],.uniq,spec_State⟩
theorem s179:Sd 179 pf179:=sf (F:=F179) (ek ⟨s128,s133,s134,s132,trivial⟩) Tryz.func179 fun a=>by kernel_rfl
def F178:=fe [(167,pf167)] [(3,[.slot 5 (.sl 52 q6) (.own true),.slot 6 .i64 (.imm false)])]
def pf178:PF:=⟨[R (.sl 52 q6),R q9],[(.sl 52 q6)],.uniq,spec_PoolDrop⟩
theorem s178:Sd 178 pf178:=sf (F:=F178) (ek ⟨s167,trivial⟩) Tryz.func178 fun a=>by kernel_rfl
def F156:=fe [(128,pf128),(57,pf57),(39,pf39),(176,pf176),(177,pf177),(179,pf179),(178,pf178)] []
def pf156:PF:=⟨[R (.pair .i64 .i64),R q1,R q2],[q1,.bool],.shared,spec_Hear⟩
theorem s156:Sd 156 pf156:=sf (F:=F156) (ek ⟨s128,s57,s39,s176,s177,s179,s178,trivial⟩) Tryz.func156 fun a=>by kernel_rfl
def F125:FEnv:=⟨⟨TYS,[(103,pf103),(20,pf20),(155,pf155),(156,pf156)],EQS,[],[],true,[],[],[],false,[]⟩,[]⟩
def pf125:PF:=⟨[(.own,q3),R q8],[q3,.i64],.own,spec_l20Net⟩
theorem s125:Sd 125 pf125:=sf (F:=F125) (ek ⟨s103,s20,s155,s156,trivial⟩) Tryz.func125 fun a=>by kernel_rfl
def F100125:=fe [(103,pf103),(20,pf20),(155,pf155),(156,pf156)] []
def pf100125:PF:=⟨[R q3,R q8],[q3,.i64],.shared,spec_l20Net_rd⟩
theorem s100125:Sd 125 pf100125:=sf (F:=F100125) (ek ⟨s103,s20,s155,s156,trivial⟩) Tryz.func125 fun a=>by kernel_rfl
def F23:=fe [] [(2,[.slot 9 .i64 (.imm false)])]
def pf23:PF:=⟨[R q10,R .i64,R .str,R .i64],[.bool],.uniq,spec_l18Has⟩
theorem s23:Sd 23 pf23:=sf (F:=F23) (ek trivial) Tryz.func23 fun a=>by kernel_rfl
def F180:=fe [(20,pf20),(23,pf23)] [(2,[.slot 11 .i64 (.imm false)])]
def pf180:PF:=⟨[R (.sl 3 .i64),R q10,R .i64,R .str,R (.sl 3 .i64)],[.bool],.uniq,spec_Signed⟩
theorem s180:Sd 180 pf180:=sf (F:=F180) (ek ⟨s20,s23,trivial⟩) Tryz.func180 fun a=>by kernel_rfl
def F157:=fe [(57,pf57),(66,pf66),(129,pf129),(20,pf20),(180,pf180)] []
def pf157:PF:=⟨[R (.pair .i64 .i64),R (.sl 3 .i64),R q10,R q2],[.bool],.uniq,spec_MayLie⟩
theorem s157:Sd 157 pf157:=sf (F:=F157) (ek ⟨s57,s66,s129,s20,s180,trivial⟩) Tryz.func157 fun a=>by kernel_rfl
def F61:=fe [(58,pf58)] [(3,[.slot 3 (.sl 5 .u8) (.own true),.slot 4 .i64 (.imm false)])]
def pf61:PF:=⟨[R (.sl 3 .i64)],[(.sl 5 .u8)],.uniq,spec_l14Nums⟩
theorem s61:Sd 61 pf61:=sf (F:=F61) (ek ⟨s58,trivial⟩) Tryz.func61 fun a=>by kernel_rfl
def F29:=fe [(57,pf57),(58,pf58),(59,pf59),(60,pf60),(61,pf61)] []
def pf29:PF:=⟨[R (.pair .i64 .i64),R q2],[(.sl 5 .u8)],.uniq,spec_MsgBytes⟩
theorem s29:Sd 29 pf29:=sf (F:=F29) (ek ⟨s57,s58,s59,s60,s61,trivial⟩) Tryz.func29 fun a=>by kernel_rfl
def F158:=fe [(29,pf29),(103,pf103)] [(2,[.slot 5 .i64 (.imm false),.box 5 q3 (.own false)])]
def pf158:PF:=⟨[(.own,q3),R q12],[q3],.own,spec_l19Send⟩
theorem s158:Sd 158 pf158:=sf (F:=F158) (ek ⟨s29,s103,trivial⟩) Tryz.func158 fun a=>by kernel_rfl
def F126:=fe [(103,pf103),(157,pf157),(158,pf158)] []
def pf126:PF:=⟨[(.own,q3),R q8],[q3,.i64],.own,spec_l20Lie⟩
theorem s126:Sd 126 pf126:=sf (F:=F126) (ek ⟨s103,s157,s158,trivial⟩) Tryz.func126 fun a=>by kernel_rfl
def F100126:=fe [(103,pf103),(157,pf157),(158,pf158)] []
def pf100126:PF:=⟨[R q3,R q8],[q3,.i64],.shared,spec_l20Lie_rd⟩
theorem s100126:Sd 126 pf100126:=sf (F:=F100126) (ek ⟨s103,s157,s158,trivial⟩) Tryz.func126 fun a=>by kernel_rfl
def F21:=fe [(20,pf20)] [(3,[.slot 3 (.sl 3 .i64) (.own true),.slot 4 .i64 (.imm false)])]
def pf21:PF:=⟨[R q3],[(.sl 3 .i64)],.uniq,spec_Honest⟩
theorem s21:Sd 21 pf21:=sf (F:=F21) (ek ⟨s20,trivial⟩) Tryz.func21 fun a=>by kernel_rfl
def F181:=fe [(39,pf39),(128,pf128),(186,pf186)] [(5,[.slot 9 .i64 (.imm false),.box 11 q1 (.own true),.box 17 q1 (.own false)])]
def pf181:PF:=⟨[R (.pair .i64 .i64),R q1,R q2],[q1,.bool],.own,spec_TellAll⟩
theorem s181:Sd 181 pf181:=sf (F:=F181) (ek ⟨s39,s128,s186,trivial⟩) Tryz.func181 fun a=>by kernel_rfl
def F159:=fe [(88,pf88),(39,pf39),(181,pf181),(182,pf182)] []
def pf159:PF:=⟨[(.own,q3),R .i64],[q3,.i64],.own,spec_l20Ask⟩
theorem s159:Sd 159 pf159:=sf (F:=F159) (ek ⟨s88,s39,s181,s182,trivial⟩) Tryz.func159 fun a=>by kernel_rfl
def F100159:=fe [(88,pf88),(39,pf39),(181,pf181),(182,pf182)] []
def pf100159:PF:=⟨[R q3,R .i64],[q3,.i64],.shared,spec_l20Ask_rd⟩
theorem s100159:Sd 159 pf100159:=sf (F:=F100159) (ek ⟨s88,s39,s181,s182,trivial⟩) Tryz.func159 fun a=>by kernel_rfl
def F195:=fe [(79,pf79),(165,pf165)] []
def pf195:PF:=⟨[R q11],[q11],.uniq,spec_Sync⟩
theorem s195:Sd 195 pf195:=sf (F:=F195) (ek ⟨s79,s165,trivial⟩) Tryz.func195 fun a=>by kernel_rfl
def F183:=fe [(39,pf39),(128,pf128),(195,pf195),(80,pf80)] []
def pf183:PF:=⟨[R (.pair .i64 .i64),R q1],[q1,q12],.uniq,spec_SureNow⟩
theorem s183:Sd 183 pf183:=sf (F:=F183) (ek ⟨s39,s128,s195,s80,trivial⟩) Tryz.func183 fun a=>by kernel_rfl
def F19:=fe [(39,pf39)] [(3,[.slot 4 .i64 (.imm false),.box 10 q3 (.own true)]),(7,[.slot 5 .i64 (.imm false),.box 10 q3 (.own true)])]
def pf19:PF:=⟨[R q3],[q3],.uniq,spec_l19Copy⟩
theorem s19:Sd 19 pf19:=sf (F:=F19) (ek ⟨s39,trivial⟩) Tryz.func19 fun a=>by kernel_rfl
def F22:=fe [(20,pf20)] []
def pf22:PF:=⟨[R .i64,R q2],[q10],.uniq,spec_SaidOf⟩
theorem s22:Sd 22 pf22:=sf (F:=F22) (ek ⟨s20,trivial⟩) Tryz.func22 fun a=>by kernel_rfl
def F7:=fe [(19,pf19),(21,pf21),(20,pf20),(22,pf22),(23,pf23)] [(5,[.slot 8 .i64 (.imm false),.box 11 q3 (.own true)]),(9,[.slot 10 .i64 (.imm false),.box 11 q3 (.own true)])]
def pf7:PF:=⟨[R q3,R .i64,R q12],[q3],.uniq,spec_Learn⟩
theorem s7:Sd 7 pf7:=sf (F:=F7) (ek ⟨s19,s21,s20,s22,s23,trivial⟩) Tryz.func7 fun a=>by kernel_rfl
def F160:=fe [(183,pf183),(7,pf7),(158,pf158)] []
def pf160:PF:=⟨[(.own,q3),R .i64],[q3,.i64],.own,spec_l20Sure⟩
theorem s160:Sd 160 pf160:=sf (F:=F160) (ek ⟨s183,s7,s158,trivial⟩) Tryz.func160 fun a=>by kernel_rfl
def F100160:=fe [(183,pf183),(7,pf7),(158,pf158)] []
def pf100160:PF:=⟨[R q3,R .i64],[q3,.i64],.shared,spec_l20Sure_rd⟩
theorem s100160:Sd 160 pf100160:=sf (F:=F100160) (ek ⟨s183,s7,s158,trivial⟩) Tryz.func160 fun a=>by kernel_rfl
def F184:=fe [(128,pf128),(39,pf39),(196,pf196)] []
def pf184:PF:=⟨[R (.pair .i64 .i64),R q1,R .i64,R .str,R .bool],[q1,.bool],.own,spec_Climb⟩
theorem s184:Sd 184 pf184:=sf (F:=F184) (ek ⟨s128,s39,s196,trivial⟩) Tryz.func184 fun a=>by kernel_rfl
def F161:=fe [(184,pf184)] [(3,[.slot 7 .i64 (.imm false),.box 4 q3 (.own false),.box 5 q3 (.own true)])]
def pf161:PF:=⟨[(.own,q3),R .i64],[q3,.i64],.own,spec_l20Push⟩
theorem s161:Sd 161 pf161:=sf (F:=F161) (ek ⟨s184,trivial⟩) Tryz.func161 fun a=>by kernel_rfl
def F100161:=fe [(184,pf184)] [(3,[.slot 7 .i64 (.imm false),.box 4 q3 (.imm false),.box 5 q3 (.own true)])]
def pf100161:PF:=⟨[R q3,R .i64],[q3,.i64],.shared,spec_l20Push_rd⟩
theorem s100161:Sd 161 pf100161:=sf (F:=F100161) (ek ⟨s184,trivial⟩) Tryz.func161 fun a=>by kernel_rfl
def F162:=fe [(79,pf79),(165,pf165),(91,pf91),(87,pf87)] []
def pf162:PF:=⟨[R q11,R .i64],[q11],.uniq,spec_FallTo⟩
theorem s162:Sd 162 pf162:=sf (F:=F162) (ek ⟨s79,s165,s91,s87,trivial⟩) Tryz.func162 fun a=>by kernel_rfl
def F67:=fe [] []
def pf67:PF:=⟨[],[q7],.uniq,spec_SafeNew⟩
theorem s67:Sd 67 pf67:=sf (F:=F67) (ek trivial) Tryz.func67 fun a=>by kernel_rfl
def F197:=fe [(172,pf172),(174,pf174),(173,pf173),(110,pf110)] []
def pf197:PF:=⟨[R (.pair .i64 .i64),R (.sl 5 .u8)],[q7,.bool],.uniq,spec_SafeOf⟩
theorem s197:Sd 197 pf197:=sf (F:=F197) (ek ⟨s172,s174,s173,s110,trivial⟩) Tryz.func197 fun a=>by kernel_rfl
def F185:=fe [(67,pf67),(188,pf188),(197,pf197)] [(3,[.slot 7 .i64 (.imm false),.box 2 q7 (.own true),.box 4 q7 (.own true)])]
def pf185:PF:=⟨[R (.pair .i64 .i64),R (.sl 5 .u8)],[q7,.i64],.uniq,spec_LastNote⟩
theorem s185:Sd 185 pf185:=sf (F:=F185) (ek ⟨s67,s188,s197,trivial⟩) Tryz.func185 fun a=>by kernel_rfl
def F163:=fe [(128,pf128),(39,pf39),(185,pf185),(87,pf87),(91,pf91)] []
def pf163:PF:=⟨[R (.pair .i64 .i64),R q1],[q1],.uniq,spec_Rise⟩
theorem s163:Sd 163 pf163:=sf (F:=F163) (ek ⟨s128,s39,s185,s87,s91,trivial⟩) Tryz.func163 fun a=>by kernel_rfl
def F164:=fe [(39,pf39),(128,pf128),(129,pf129),(96,pf96),(186,pf186)] []
def pf164:PF:=⟨[R (.pair .i64 .i64),R q1],[q1,.bool],.own,spec_Late⟩
theorem s164:Sd 164 pf164:=sf (F:=F164) (ek ⟨s39,s128,s129,s96,s186,trivial⟩) Tryz.func164 fun a=>by kernel_rfl
def F127:=fe [(159,pf159),(160,pf160),(161,pf161),(39,pf39),(162,pf162),(163,pf163),(164,pf164),(156,pf156)] []
def pf127:PF:=⟨[(.own,q3),R q8],[q3,.i64],.own,spec_l20Own⟩
theorem s127:Sd 127 pf127:=sf (F:=F127) (ek ⟨s159,s160,s161,s39,s162,s163,s164,s156,trivial⟩) Tryz.func127 fun a=>by kernel_rfl
def F100127:=fe [(159,pf100159),(160,pf100160),(161,pf100161),(39,pf39),(162,pf162),(163,pf163),(164,pf164),(156,pf156)] []
def pf100127:PF:=⟨[R q3,R q8],[q3,.i64],.shared,spec_l20Own_rd⟩
theorem s100127:Sd 127 pf100127:=sf (F:=F100127) (ek ⟨s100159,s100160,s100161,s39,s162,s163,s164,s156,trivial⟩) Tryz.func127 fun a=>by kernel_rfl
def F86:=fe [(125,pf125),(126,pf126),(21,pf21),(20,pf20),(127,pf127)] []
def pf86:PF:=⟨[(.own,q3),R q8],[q3,.i64],.own,spec_l20One⟩
theorem s86:Sd 86 pf86:=sf (F:=F86) (ek ⟨s125,s126,s21,s20,s127,trivial⟩) Tryz.func86 fun a=>by kernel_rfl
def F100086:=fe [(125,pf100125),(126,pf100126),(21,pf21),(20,pf20),(127,pf100127)] []
def pf100086:PF:=⟨[R q3,R q8],[q3,.i64],.shared,spec_l20One_rd⟩
theorem s100086:Sd 86 pf100086:=sf (F:=F100086) (ek ⟨s100125,s100126,s21,s20,s100127,trivial⟩) Tryz.func86 fun a=>by kernel_rfl
def F46:FEnv:=⟨⟨TYS,[(86,pf86)],EQS,[],[],false,[],[],[(86,pf100086)],false,[]⟩,[]⟩
def pf46:PF:=⟨[(.own,q3),R q8],[q3],.own,spec_l20Play⟩
theorem s46:Sd 46 pf46:=sf (F:=F46) (envOK ⟨s86,trivial⟩ trivial trivial trivial trivial ⟨s100086,trivial⟩) Tryz.func46 fun a=>by kernel_rfl
def F25:=fe [(45,pf45),(13,pf13),(47,pf47),(46,pf46)] [(4,[.slot 5 .i64 (.imm false),.keep 0 q5 [2,0,0],.box 7 q3 (.own false)])]
def pf25:PF:=⟨[(.ptr,q5)],[q3],.own,spec_l20DrawRight⟩
theorem s25:Sd 25 pf25:=sf (F:=F25) (ek ⟨s45,s13,s47,s46,trivial⟩) Tryz.func25 fun a=>by kernel_rfl
def F48:=fe [(13,pf13)] []
def pf48:PF:=⟨[(.ptr,q5)],[(.pair .i64 .i64)],.uniq,spec_l7DrawConf⟩
theorem s48:Sd 48 pf48:=sf (F:=F48) (ek ⟨s13,trivial⟩) Tryz.func48 fun a=>by kernel_rfl
def F26:=fe [(48,pf48),(13,pf13),(49,pf49)] []
def pf26:PF:=⟨[(.ptr,q5)],[(.pair .i64 .i64)],.uniq,spec_l7DrawBent⟩
theorem s26:Sd 26 pf26:=sf (F:=F26) (ek ⟨s48,s13,s49,trivial⟩) Tryz.func26 fun a=>by kernel_rfl
def F27:=fe [(13,pf13),(50,pf50),(51,pf51),(49,pf49)] [(3,[.slot 5 (.sl 3 .i64) (.own true),.slot 6 .i64 (.imm false),.keep 0 q5 [2,0,0]])]
def pf27:PF:=⟨[(.ptr,q5),R .i64],[(.sl 3 .i64)],.uniq,spec_l6DrawSet⟩
theorem s27:Sd 27 pf27:=sf (F:=F27) (ek ⟨s13,s50,s51,s49,trivial⟩) Tryz.func27 fun a=>by kernel_rfl
def F52:=fe [(25,pf25),(13,pf13)] []
def pf52:PF:=⟨[(.ptr,q5)],[(.pair .i64 .i64),q1],.shared,spec_l15DrawRight⟩
theorem s52:Sd 52 pf52:=sf (F:=F52) (ek ⟨s25,s13,trivial⟩) Tryz.func52 fun a=>by kernel_rfl
def F65:=fe [(13,pf13),(89,pf89),(106,pf106)] [(4,[.slot 3 .str (.imm false),.slot 4 .i64 (.imm false),.slot 5 .i64 (.imm false),.keep 0 q5 [2,0,0]]),(9,[.slot 6 (.sl 52 q6) (.own true),.slot 7 .i64 (.imm false),.keep 0 q5 [2,0,0]])]
def pf65:PF:=⟨[(.ptr,q5)],[.str],.uniq,spec_l5DrawRight⟩
theorem s65:Sd 65 pf65:=sf (F:=F65) (ek ⟨s13,s89,s106,trivial⟩) Tryz.func65 fun a=>by kernel_rfl
def F107:FEnv:=⟨⟨TYS,[(66,pf66),(51,pf51),(13,pf13)],EQS,[],[],true,[],[],[],false,[]⟩,[(5,[.slot 8 .i64 (.imm false),.box 4 q4 (.own true)])]⟩
def pf107:PF:=⟨[(.ptr,q5),R (.pair .i64 .i64),R .str],[q4],.uniq,spec_l7DrawOf⟩
theorem s107:Sd 107 pf107:=sf (F:=F107) (ek ⟨s66,s51,s13,trivial⟩) Tryz.func107 fun a=>by kernel_rfl
def F68:=fe [(65,pf65),(107,pf107),(13,pf13),(89,pf89),(109,pf109)] [(4,[.slot 6 (.sl 52 q6) (.own true),.slot 7 .i64 (.imm false),.keep 0 q5 [2,0,0]])]
def pf68:PF:=⟨[(.ptr,q5),R (.pair .i64 .i64)],[(.pair .str q4)],.uniq,spec_l8DrawRight⟩
theorem s68:Sd 68 pf68:=sf (F:=F68) (ek ⟨s65,s107,s13,s89,s109,trivial⟩) Tryz.func68 fun a=>by kernel_rfl
def F32:=fe [(67,pf67),(13,pf13),(68,pf68),(69,pf69),(51,pf51),(70,pf70)] [(3,[.slot 6 .i64 (.imm false),.keep 0 q5 [2,0,0],.box 5 q7 (.own true)])]
def pf32:PF:=⟨[(.ptr,q5),R (.pair .i64 .i64)],[q7],.uniq,spec_l11DrawRight⟩
theorem s32:Sd 32 pf32:=sf (F:=F32) (ek ⟨s67,s13,s68,s69,s51,s70,trivial⟩) Tryz.func32 fun a=>by kernel_rfl
def F168:=fe [(13,pf13)] []
def pf168:PF:=⟨[(.ptr,q5),R (.sl 9 .str)],[.str],.uniq,spec_l1Pick⟩
theorem s168:Sd 168 pf168:=sf (F:=F168) (ek ⟨s13,trivial⟩) Tryz.func168 fun a=>by kernel_rfl
def F139:=fe [(13,pf13),(168,pf168)] []
def pf139:PF:=⟨[(.ptr,q5),R .str],[.str],.uniq,spec_l2Dent⟩
theorem s139:Sd 139 pf139:=sf (F:=F139) (ek ⟨s13,s168,trivial⟩) Tryz.func139 fun a=>by kernel_rfl
def F92:=fe [(51,pf51),(13,pf13),(138,pf138),(65,pf65),(139,pf139)] [(4,[.slot 3 .str (.imm false),.slot 4 .i64 (.imm false),.keep 0 q5 [2,0,0]])]
def pf92:PF:=⟨[(.ptr,q5)],[.str],.uniq,spec_l5Draw⟩
theorem s92:Sd 92 pf92:=sf (F:=F92) (ek ⟨s51,s13,s138,s65,s139,trivial⟩) Tryz.func92 fun a=>by kernel_rfl
def F93:=fe [(65,pf65),(107,pf107),(13,pf13),(27,pf27),(92,pf92)] []
def pf93:PF:=⟨[(.ptr,q5),R (.pair .i64 .i64)],[q4],.uniq,spec_l7Draw⟩
theorem s93:Sd 93 pf93:=sf (F:=F93) (ek ⟨s65,s107,s13,s27,s92,trivial⟩) Tryz.func93 fun a=>by kernel_rfl
def F53:=fe [(32,pf32),(13,pf13),(49,pf49),(92,pf92),(93,pf93)] []
def pf53:PF:=⟨[(.ptr,q5),R (.pair .i64 .i64)],[q7],.uniq,spec_l11Draw⟩
theorem s53:Sd 53 pf53:=sf (F:=F53) (ek ⟨s32,s13,s49,s92,s93,trivial⟩) Tryz.func53 fun a=>by kernel_rfl
def F94:=fe [(13,pf13),(89,pf89),(95,pf95)] [(3,[.slot 3 (.sl 52 q6) (.own true),.slot 4 .i64 (.imm false),.keep 0 q5 [2,0,0]])]
def pf94:PF:=⟨[(.ptr,q5)],[(.sl 52 q6)],.uniq,spec_l4DrawRight⟩
theorem s94:Sd 94 pf94:=sf (F:=F94) (ek ⟨s13,s89,s95,trivial⟩) Tryz.func94 fun a=>by kernel_rfl
def F64:=fe [(89,pf89),(13,pf13),(49,pf49)] []
def pf64:PF:=⟨[(.ptr,q5)],[q6],.uniq,spec_l2Draw⟩
theorem s64:Sd 64 pf64:=sf (F:=F64) (ek ⟨s89,s13,s49,trivial⟩) Tryz.func64 fun a=>by kernel_rfl
def F54:=fe [(94,pf94),(13,pf13),(64,pf64),(95,pf95)] [(7,[.slot 3 (.sl 52 q6) (.own true),.slot 4 .i64 (.imm false)]),(10,[.slot 3 (.sl 52 q6) (.own true),.slot 5 .i64 (.imm false)])]
def pf54:PF:=⟨[(.ptr,q5)],[(.sl 52 q6)],.uniq,spec_l4Draw⟩
theorem s54:Sd 54 pf54:=sf (F:=F54) (ek ⟨s94,s13,s64,s95,trivial⟩) Tryz.func54 fun a=>by kernel_rfl
def F97:=fe [(65,pf65),(66,pf66),(51,pf51),(13,pf13),(87,pf87),(50,pf50)] [(6,[.slot 7 .i64 (.imm false),.keep 0 q5 [2,0,0],.box 4 q4 (.own true)])]
def pf97:PF:=⟨[(.ptr,q5),R (.pair .i64 .i64)],[q4],.uniq,spec_l10DrawRight⟩
theorem s97:Sd 97 pf97:=sf (F:=F97) (ek ⟨s65,s66,s51,s13,s87,s50,trivial⟩) Tryz.func97 fun a=>by kernel_rfl
def F63:=fe [(97,pf97),(13,pf13),(49,pf49),(27,pf27),(92,pf92)] []
def pf63:PF:=⟨[(.ptr,q5),R (.pair .i64 .i64)],[q4],.uniq,spec_l10Draw⟩
theorem s63:Sd 63 pf63:=sf (F:=F63) (ek ⟨s97,s13,s49,s27,s92,trivial⟩) Tryz.func63 fun a=>by kernel_rfl
def F55:=fe [(13,pf13),(97,pf97),(96,pf96),(51,pf51),(63,pf63)] [(3,[.slot 5 (.sl 50 q4) (.own true),.slot 6 .i64 (.imm false),.keep 0 q5 [2,0,0]])]
def pf55:PF:=⟨[(.ptr,q5),R (.pair .i64 .i64)],[(.sl 50 q4)],.uniq,spec_l10DrawTable⟩
theorem s55:Sd 55 pf55:=sf (F:=F55) (ek ⟨s13,s97,s96,s51,s63,trivial⟩) Tryz.func55 fun a=>by kernel_rfl
def F98:=fe [(13,pf13),(49,pf49),(58,pf58),(51,pf51)] [(3,[.slot 3 (.sl 5 .u8) (.own true),.slot 4 .i64 (.imm false),.keep 0 q5 [2,0,0]])]
def pf98:PF:=⟨[(.ptr,q5)],[(.sl 5 .u8)],.uniq,spec_l1DrawNums⟩
theorem s98:Sd 98 pf98:=sf (F:=F98) (ek ⟨s13,s49,s58,s51,trivial⟩) Tryz.func98 fun a=>by kernel_rfl
def F56:=fe [(98,pf98),(13,pf13),(49,pf49)] []
def pf56:PF:=⟨[(.ptr,q5)],[q11],.uniq,spec_l13Draw⟩
theorem s56:Sd 56 pf56:=sf (F:=F56) (ek ⟨s98,s13,s49,trivial⟩) Tryz.func56 fun a=>by kernel_rfl
def F62:=fe [(13,pf13),(68,pf68),(97,pf97),(106,pf106),(65,pf65),(107,pf107),(89,pf89)] []
def pf62:PF:=⟨[(.ptr,q5),R (.pair .i64 .i64)],[q2],.uniq,spec_l14DrawRight⟩
theorem s62:Sd 62 pf62:=sf (F:=F62) (ek ⟨s13,s68,s97,s106,s65,s107,s89,trivial⟩) Tryz.func62 fun a=>by kernel_rfl
def F30:=fe [(62,pf62),(13,pf13),(49,pf49),(63,pf63),(64,pf64)] []
def pf30:PF:=⟨[(.ptr,q5),R (.pair .i64 .i64)],[q2],.uniq,spec_l14Draw⟩
theorem s30:Sd 30 pf30:=sf (F:=F30) (ek ⟨s62,s13,s49,s63,s64,trivial⟩) Tryz.func30 fun a=>by kernel_rfl
def F28:FEnv:=⟨⟨TYS,[(52,pf52),(13,pf13),(49,pf49),(53,pf53),(54,pf54),(55,pf55),(56,pf56),(30,pf30)],EQS,[],[],false,[],[],[],false,[(52,56)]⟩,[]⟩
def pf28:PF:=⟨[(.ptr,q5)],[(.pair .i64 .i64),q1],.shared,spec_l15Draw⟩
theorem s28:Sd 28 pf28:=sound_fun (F:=F28) (ek ⟨s52,s13,s49,s53,s54,s55,s56,s30,trivial⟩) Tryz.func28 (by kernel_rfl) (fun a o h=>(show evFun F28 Tryz.f28 pf28.params pf28.rets pf28.rk a=pf28.fn a by kernel_rfl).trans h) (.inr ⟨by kernel_rfl,fun x hx=>by simp only[F28,List.mem_singleton] at hx; rw[hx]; rfl⟩)
def F31:=fe [(13,pf13),(65,pf65),(66,pf66)] [(3,[.slot 3 q10 (.own true),.slot 4 .i64 (.imm false),.keep 0 q5 [2,0,0]])]
def pf31:PF:=⟨[(.ptr,q5)],[q10],.uniq,spec_l18DrawSaid⟩
theorem s31:Sd 31 pf31:=sf (F:=F31) (ek ⟨s13,s65,s66,trivial⟩) Tryz.func31 fun a=>by kernel_rfl
def F12:=fe [(25,pf25),(13,pf13),(26,pf26),(27,pf27),(28,pf28),(30,pf30),(29,pf29),(31,pf31),(32,pf32)] []
def pf12:PF:=⟨[(.ptr,q5)],[q3],.own,spec_l20Draw⟩
theorem s12:Sd 12 pf12:=sf (F:=F12) (ek ⟨s25,s13,s26,s27,s28,s30,s29,s31,s32,trivial⟩) Tryz.func12 fun a=>by kernel_rfl
def F14:=fe [(13,pf13),(30,pf30)] [(3,[.slot 5 q12 (.own true),.slot 6 .i64 (.imm false),.keep 0 q5 [2,0,0]])]
def pf14:PF:=⟨[(.ptr,q5),R (.pair .i64 .i64)],[q12],.uniq,spec_l19DrawPosts⟩
theorem s14:Sd 14 pf14:=sf (F:=F14) (ek ⟨s13,s30,trivial⟩) Tryz.func14 fun a=>by kernel_rfl
def F5:FEnv:=⟨⟨TYS,[(12,pf12),(13,pf13),(14,pf14)],EQS,[(11,pf11)],[],false,[],[],[],false,[]⟩,[]⟩
def pf5:PF:=⟨[R (.sl 5 .u8)],[q3,.i64,q12],.own,spec_DrawLearn⟩
theorem s5:Sd 5 pf5:=sf (F:=F5) (envOK ⟨s12,s13,s14,trivial⟩ ⟨s11,trivial⟩ trivial trivial trivial trivial) Tryz.func5 fun a=>by kernel_rfl
def F34:=fe [] []
def pf34:PF:=⟨[R (.sl 3 .i64)],[(.sl 3 .i64)],.uniq,impl_copyInts⟩
theorem s34:Sd 34 pf34:=sf (F:=F34) (ek trivial) Tryz.func34 fun a=>by kernel_rfl
def F116:=fe [(34,pf34)] []
def pf116:PF:=⟨[R q4],[q4],.uniq,impl_copyQc⟩
theorem s116:Sd 116 pf116:=sf (F:=F116) (ek ⟨s34,trivial⟩) Tryz.func116 fun a=>by kernel_rfl
def F71:=fe [(116,pf116)] []
def pf71:PF:=⟨[R q7],[q7],.uniq,impl_copySafe⟩
theorem s71:Sd 71 pf71:=sf (F:=F71) (ek ⟨s116,trivial⟩) Tryz.func71 fun a=>by kernel_rfl
def F72:=fe [] []
def pf72:PF:=⟨[R (.sl 52 q6)],[(.sl 52 q6)],.uniq,impl_copyTxs⟩
theorem s72:Sd 72 pf72:=sf (F:=F72) (ek trivial) Tryz.func72 fun a=>by kernel_rfl
def F117:=fe [(34,pf34)] []
def pf117:PF:=⟨[R q4],[q4],.uniq,impl_copyPart⟩
theorem s117:Sd 117 pf117:=sf (F:=F117) (ek ⟨s34,trivial⟩) Tryz.func117 fun a=>by kernel_rfl
def F73:=fe [(117,pf117)] [(3,[.slot 3 (.sl 50 q4) (.own true),.slot 8 .i64 (.imm false)])]
def pf73:PF:=⟨[R (.sl 50 q4)],[(.sl 50 q4)],.uniq,impl_copyTable⟩
theorem s73:Sd 73 pf73:=sf (F:=F73) (ek ⟨s117,trivial⟩) Tryz.func73 fun a=>by kernel_rfl
def F74:=fe [] []
def pf74:PF:=⟨[R q11],[q11],.uniq,impl_copyDisk⟩
theorem s74:Sd 74 pf74:=sf (F:=F74) (ek trivial) Tryz.func74 fun a=>by kernel_rfl
def F152:=fe [(116,pf116)] []
def pf152:PF:=⟨[R (.pair .str q4)],[(.pair .str q4)],.uniq,impl_copyBlock⟩
theorem s152:Sd 152 pf152:=sf (F:=F152) (ek ⟨s116,trivial⟩) Tryz.func152 fun a=>by kernel_rfl
def F118:=fe [(152,pf152),(117,pf117),(116,pf116)] []
def pf118:PF:=⟨[R q2],[q2],.uniq,impl_copyMsg⟩
theorem s118:Sd 118 pf118:=sf (F:=F118) (ek ⟨s152,s117,s116,trivial⟩) Tryz.func118 fun a=>by kernel_rfl
def F75:=fe [(118,pf118)] [(3,[.slot 3 q12 (.own true),.slot 8 .i64 (.imm false)])]
def pf75:PF:=⟨[R q12],[q12],.uniq,impl_copyPosts⟩
theorem s75:Sd 75 pf75:=sf (F:=F75) (ek ⟨s118,trivial⟩) Tryz.func75 fun a=>by kernel_rfl
def F35:=fe [(71,pf71),(72,pf72),(73,pf73),(74,pf74),(75,pf75)] []
def pf35:PF:=⟨[R q1],[q1],.uniq,impl_copyRep⟩
theorem s35:Sd 35 pf35:=sf (F:=F35) (ek ⟨s71,s72,s73,s74,s75,trivial⟩) Tryz.func35 fun a=>by kernel_rfl
def F36:=fe [] []
def pf36:PF:=⟨[R (.pair .i64 (.sl 5 .u8))],[(.pair .i64 (.sl 5 .u8))],.uniq,impl_copyWire⟩
theorem s36:Sd 36 pf36:=sf (F:=F36) (ek trivial) Tryz.func36 fun a=>by kernel_rfl
def F15:=fe [(34,pf34),(35,pf35),(36,pf36)] [(3,[.slot 20 .i64 (.imm false),.box 8 q3 (.own true)]),(8,[.slot 35 .i64 (.imm false),.box 8 q3 (.own true)])]
def pf15:PF:=⟨[R q3],[q3],.uniq,impl_copyWorld⟩
theorem s15:Sd 15 pf15:=sf (F:=F15) (ek ⟨s34,s35,s36,trivial⟩) Tryz.func15 fun a=>by kernel_rfl
def F76:=fe [] [(2,[.slot 8 .i64 (.imm false)])]
def pf76:PF:=⟨[R (.sl 3 .i64),R .i64],[.i64],.uniq,slices_Index_int⟩
theorem s76:Sd 76 pf76:=sf (F:=F76) (ek trivial) Tryz.func76 fun a=>by kernel_rfl
def F37:=fe [(76,pf76)] []
def pf37:PF:=⟨[R (.sl 3 .i64),R .i64],[.bool],.uniq,slices_Contains_int⟩
theorem s37:Sd 37 pf37:=sf (F:=F37) (ek ⟨s76,trivial⟩) Tryz.func37 fun a=>by kernel_rfl
def F16:=fe [(37,pf37)] []
def pf16:PF:=⟨[R (.sl 3 .i64),R .i64],[.bool],.uniq,impl_SetHas⟩
theorem s16:Sd 16 pf16:=sf (F:=F16) (ek ⟨s37,trivial⟩) Tryz.func16 fun a=>by kernel_rfl
def F10:=fe [(16,pf16)] [(3,[.slot 3 (.sl 3 .i64) (.own true),.slot 8 .i64 (.imm false)])]
def pf10:PF:=⟨[R q3],[(.sl 3 .i64)],.uniq,impl_Honest⟩
theorem s10:Sd 10 pf10:=sf (F:=F10) (ek ⟨s16,trivial⟩) Tryz.func10 fun a=>by kernel_rfl
def F17:=fe [(16,pf16)] []
def pf17:PF:=⟨[R .i64,R q2],[q10],.uniq,impl_SaidOf⟩
theorem s17:Sd 17 pf17:=sf (F:=F17) (ek ⟨s16,trivial⟩) Tryz.func17 fun a=>by kernel_rfl
def F38:=fe [] [(2,[.slot 8 .i64 (.imm false)])]
def pf38:PF:=⟨[R q10,R (.pair .i64 (.pair .str .i64))],[.i64],.uniq,slices_Index_impl_Said⟩
theorem s38:Sd 38 pf38:=sf (F:=F38) (ek trivial) Tryz.func38 fun a=>by kernel_rfl
def F18:=fe [(38,pf38)] []
def pf18:PF:=⟨[R q10,R (.pair .i64 (.pair .str .i64))],[.bool],.uniq,slices_Contains_impl_Said⟩
theorem s18:Sd 18 pf18:=sf (F:=F18) (ek ⟨s38,trivial⟩) Tryz.func18 fun a=>by kernel_rfl
def F6:=fe [(15,pf15),(10,pf10),(16,pf16),(17,pf17),(18,pf18)] [(5,[.slot 22 .i64 (.imm false),.box 11 q3 (.own true)]),(8,[.slot 31 .i64 (.imm false),.box 11 q3 (.own true)])]
def pf6:PF:=⟨[R q3,R .i64,R q12],[q3],.uniq,impl_Learn⟩
theorem s6:Sd 6 pf6:=sf (F:=F6) (ek ⟨s15,s10,s16,s17,s18,trivial⟩) Tryz.func6 fun a=>by kernel_rfl
def F9:=fe [] [(4,[.slot 5 .i64 (.imm false)])]
def pf9:PF:=⟨[R (.sl 3 .i64),R (.sl 3 .i64)],[.bool],.uniq,laws_sameInts⟩
theorem s9:Sd 9 pf9:=sf (F:=F9) (ek trivial) Tryz.func9 fun a=>by kernel_rfl
def F41:=fe [] [(4,[.slot 5 .i64 (.imm false)])]
def pf41:PF:=⟨[R (.sl 52 q6),R (.sl 52 q6)],[.bool],.uniq,laws_sameTxs⟩
theorem s41:Sd 41 pf41:=sf (F:=F41) (ek trivial) Tryz.func41 fun a=>by kernel_rfl
def F82:=fe [(9,pf9)] []
def pf82:PF:=⟨[R q4,R q4],[.bool],.uniq,laws_samePart⟩
theorem s82:Sd 82 pf82:=sf (F:=F82) (ek ⟨s9,trivial⟩) Tryz.func82 fun a=>by kernel_rfl
def F42:=fe [(82,pf82)] [(4,[.slot 5 .i64 (.imm false)])]
def pf42:PF:=⟨[R (.sl 50 q4),R (.sl 50 q4)],[.bool],.uniq,laws_sameTable⟩
theorem s42:Sd 42 pf42:=sf (F:=F42) (ek ⟨s82,trivial⟩) Tryz.func42 fun a=>by kernel_rfl
def F43:=fe [] []
def pf43:PF:=⟨[R q11,R q11],[.bool],.uniq,laws_sameDisk⟩
theorem s43:Sd 43 pf43:=sf (F:=F43) (ek trivial) Tryz.func43 fun a=>by kernel_rfl
def F24:=fe [(40,pf40),(41,pf41),(42,pf42),(43,pf43),(44,pf44)] [(4,[.slot 5 .i64 (.imm false)])]
def pf24:PF:=⟨[R q1,R q1],[.bool],.uniq,laws_sameRep⟩
theorem s24:Sd 24 pf24:=sf (F:=F24) (ek ⟨s40,s41,s42,s43,s44,trivial⟩) Tryz.func24 fun a=>by kernel_rfl
def F8:=fe [(9,pf9),(24,pf24)] [(4,[.slot 5 .i64 (.imm false)]),(9,[.slot 6 .i64 (.imm false)]),(14,[.slot 7 .i64 (.imm false)])]
def pf8:PF:=⟨[R q3,R q3],[.bool],.uniq,laws_sameWorld⟩
theorem s8:Sd 8 pf8:=sf (F:=F8) (ek ⟨s9,s24,trivial⟩) Tryz.func8 fun a=>by kernel_rfl
def F3:=fe [(4,pf4),(5,pf5),(6,pf6),(7,pf7),(8,pf8),(10,pf10),(9,pf9)] []
def pf3:PF:=⟨[R (.sl 5 .u8)],[.bool],.uniq,laws_FnLearnsOnce⟩
theorem s3:Sd 3 pf3:=sf (F:=F3) (ek ⟨s4,s5,s6,s7,s8,s10,s9,trivial⟩) Tryz.func3 fun a=>by kernel_rfl
end
end G448
