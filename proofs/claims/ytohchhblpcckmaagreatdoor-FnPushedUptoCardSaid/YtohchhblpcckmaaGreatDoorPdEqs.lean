/- That the printed functions are what the evaluator reckons. (Printed by our own program.) -/
import Derived.Test.YtohchhblpcckmaaGreatDoorProg
import Derived.Test.YtohchhblpcckmaaGreatDoorPdFns
import Derived.Test.YtohchhblpcckmaaGreatDoorSh
import Derived.KernelRfl
set_option linter.unusedSimpArgs false
set_option linter.unusedVariables false
namespace G448
open Ev Go Go.Proofs
set_option maxRecDepth 100000
noncomputable section
abbrev q1:Ty:=(.pair .i64 (.pair .i64 (.pair .i64 (.pair (.pair .i64 (.pair .i64 (.pair (.pair .i64 (.pair .str (.sl 3 .i64))) .str))) (.pair (.sl 42 (.pair .i64 (.pair .i64 (.pair .i64 .i64)))) (.pair (.sl 40 (.pair .i64 (.pair .str (.sl 3 .i64)))) (.pair (.pair (.sl 5 .u8) .i64) (.sl 52 (.pair .i64 (.pair .i64 (.pair .i64 (.pair (.pair .str (.pair .i64 (.pair .str (.sl 3 .i64)))) (.pair (.pair .i64 (.pair .str (.sl 3 .i64))) (.pair (.pair .i64 (.pair .str (.sl 3 .i64))) (.pair .i64 (.pair .i64 (.pair .i64 (.pair .i64 .i64))))))))))))))))))
abbrev q2:Ty:=(.pair .i64 (.pair .i64 (.pair (.pair .str (.pair .i64 (.pair .str (.sl 3 .i64)))) (.pair (.pair .i64 (.pair .str (.sl 3 .i64))) (.pair (.pair .i64 (.pair .str (.sl 3 .i64))) (.pair .i64 (.pair .i64 (.pair .i64 (.pair .i64 .i64)))))))))
abbrev q3:Ty:=(.pair (.pair .i64 .i64) (.pair (.sl 3 .i64) (.pair (.sl 37 q1) (.pair (.sl 224 (.pair .i64 (.sl 5 .u8))) (.sl 226 (.pair .i64 (.pair .str .i64)))))))
abbrev q4:Ty:=(.pair .i64 (.pair .str (.sl 3 .i64)))
abbrev q5:Ty:=(.pair .i64 (.pair .i64 (.pair .i64 .i64)))
abbrev q6:Ty:=(.pair (.sl 5 .u8) (.pair .i64 .i64))
abbrev q7:Ty:=(.pair .i64 (.pair .i64 (.pair q4 .str)))
abbrev q8:Ty:=(.pair .i64 (.pair .i64 (.pair .i64 q2)))
abbrev q9:Ty:=(.pair (.sl 3 .i64) (.sl 3 .i64))
abbrev ZC:Ty:=(.pair (.sl 5 .u8) .i64)
abbrev Kj:Ty:=(.sl 52 (.pair .i64 q2))
abbrev QX:Ty:=(.pair (.sl 5 .u8) (.pair .i64 .bool))
abbrev QY:Ty:=(.pair .i64 (.pair .str (.sl 0 .i64)))
abbrev ej:Ty:=(.sl 226 (.pair .i64 (.pair .str .i64)))
abbrev em:Ty:=(.sl 185 (.pair .i64 (.sl 42 q5)))
def TYS:List (Nat×TD):=[(3,⟨.i64,8,[],none⟩),(4,⟨.bool,1,[],none⟩),(5,⟨.u8,1,[],none⟩),(9,⟨.str,16,[],none⟩),(22,⟨(.sl 5 .u8),24,[],none⟩),(25,⟨(.pair .i64 .i64),16,[(0,3),(1,3)],none⟩),(26,⟨(.sl 3 .i64),24,[],none⟩),(28,⟨(.pair .i64 (.pair .str (.sl 3 .i64))),48,[(0,3),(1,9),(2,26)],none⟩),(30,⟨(.pair .i64 (.pair .i64 (.pair (.pair .i64 (.pair .str (.sl 3 .i64))) .str))),80,[(0,3),(1,3),(2,28),(5,9)],none⟩),(31,⟨(.sl 42 (.pair .i64 (.pair .i64 (.pair .i64 .i64)))),24,[],none⟩),(32,⟨(.sl 40 (.pair .i64 (.pair .str (.sl 3 .i64)))),24,[],none⟩),(34,⟨(.pair (.sl 5 .u8) .i64),32,[(0,22),(1,3)],none⟩),(35,⟨(.sl 52 (.pair .i64 (.pair .i64 (.pair .i64 (.pair (.pair .str (.pair .i64 (.pair .str (.sl 3 .i64)))) (.pair (.pair .i64 (.pair .str (.sl 3 .i64))) (.pair (.pair .i64 (.pair .str (.sl 3 .i64))) (.pair .i64 (.pair .i64 (.pair .i64 (.pair .i64 .i64))))))))))),24,[],none⟩),(37,⟨(.pair .i64 (.pair .i64 (.pair .i64 (.pair (.pair .i64 (.pair .i64 (.pair (.pair .i64 (.pair .str (.sl 3 .i64))) .str))) (.pair (.sl 42 (.pair .i64 (.pair .i64 (.pair .i64 .i64)))) (.pair (.sl 40 (.pair .i64 (.pair .str (.sl 3 .i64)))) (.pair (.pair (.sl 5 .u8) .i64) (.sl 52 (.pair .i64 (.pair .i64 (.pair .i64 (.pair (.pair .str (.pair .i64 (.pair .str (.sl 3 .i64)))) (.pair (.pair .i64 (.pair .str (.sl 3 .i64))) (.pair (.pair .i64 (.pair .str (.sl 3 .i64))) (.pair .i64 (.pair .i64 (.pair .i64 (.pair .i64 .i64)))))))))))))))))),208,[(0,3),(1,3),(2,3),(3,30),(9,31),(10,32),(11,34),(13,35)],none⟩),(39,⟨(.pair .str (.pair .i64 (.pair .str (.sl 3 .i64)))),64,[(0,9),(1,28)],none⟩),(40,⟨(.pair .i64 (.pair .str (.sl 3 .i64))),48,[(0,3),(1,9),(2,26)],none⟩),(42,⟨(.pair .i64 (.pair .i64 (.pair .i64 .i64))),32,[(0,3),(1,3),(2,3),(3,3)],none⟩),(44,⟨(.pair .i64 (.pair .i64 (.pair (.pair .str (.pair .i64 (.pair .str (.sl 3 .i64)))) (.pair (.pair .i64 (.pair .str (.sl 3 .i64))) (.pair (.pair .i64 (.pair .str (.sl 3 .i64))) (.pair .i64 (.pair .i64 (.pair .i64 (.pair .i64 .i64))))))))),216,[(0,3),(1,3),(2,39),(6,40),(9,28),(12,3),(13,42)],none⟩),(52,⟨(.pair .i64 (.pair .i64 (.pair .i64 (.pair (.pair .str (.pair .i64 (.pair .str (.sl 3 .i64)))) (.pair (.pair .i64 (.pair .str (.sl 3 .i64))) (.pair (.pair .i64 (.pair .str (.sl 3 .i64))) (.pair .i64 (.pair .i64 (.pair .i64 (.pair .i64 .i64)))))))))),224,[(0,3),(1,44)],none⟩),(96,⟨(.pair (.sl 5 .u8) (.pair .i64 .i64)),40,[(0,22),(1,3),(2,3)],none⟩),(129,⟨(.sl 37 (.pair .i64 (.pair .i64 (.pair .i64 (.pair (.pair .i64 (.pair .i64 (.pair (.pair .i64 (.pair .str (.sl 3 .i64))) .str))) (.pair (.sl 42 (.pair .i64 (.pair .i64 (.pair .i64 .i64)))) (.pair (.sl 40 (.pair .i64 (.pair .str (.sl 3 .i64)))) (.pair (.pair (.sl 5 .u8) .i64) (.sl 52 (.pair .i64 (.pair .i64 (.pair .i64 (.pair (.pair .str (.pair .i64 (.pair .str (.sl 3 .i64)))) (.pair (.pair .i64 (.pair .str (.sl 3 .i64))) (.pair (.pair .i64 (.pair .str (.sl 3 .i64))) (.pair .i64 (.pair .i64 (.pair .i64 (.pair .i64 .i64))))))))))))))))))),24,[],none⟩),(130,⟨(.sl 224 (.pair .i64 (.sl 5 .u8))),24,[],none⟩),(131,⟨(.sl 226 (.pair .i64 (.pair .str .i64))),24,[],none⟩),(133,⟨(.pair (.pair .i64 .i64) (.pair (.sl 3 .i64) (.pair (.sl 37 (.pair .i64 (.pair .i64 (.pair .i64 (.pair (.pair .i64 (.pair .i64 (.pair (.pair .i64 (.pair .str (.sl 3 .i64))) .str))) (.pair (.sl 42 (.pair .i64 (.pair .i64 (.pair .i64 .i64)))) (.pair (.sl 40 (.pair .i64 (.pair .str (.sl 3 .i64)))) (.pair (.pair (.sl 5 .u8) .i64) (.sl 52 (.pair .i64 (.pair .i64 (.pair .i64 (.pair (.pair .str (.pair .i64 (.pair .str (.sl 3 .i64)))) (.pair (.pair .i64 (.pair .str (.sl 3 .i64))) (.pair (.pair .i64 (.pair .str (.sl 3 .i64))) (.pair .i64 (.pair .i64 (.pair .i64 (.pair .i64 .i64))))))))))))))))))) (.pair (.sl 224 (.pair .i64 (.sl 5 .u8))) (.sl 226 (.pair .i64 (.pair .str .i64))))))),112,[(0,25),(2,26),(3,129),(4,130),(5,131)],none⟩),(171,⟨(.pair .i64 (.pair .i64 (.pair .i64 (.pair .i64 (.pair .i64 (.pair (.pair .str (.pair .i64 (.pair .str (.sl 3 .i64)))) (.pair (.pair .i64 (.pair .str (.sl 3 .i64))) (.pair (.pair .i64 (.pair .str (.sl 3 .i64))) (.pair .i64 (.pair .i64 (.pair .i64 (.pair .i64 .i64)))))))))))),240,[(0,3),(1,3),(2,3),(3,44)],none⟩),(180,⟨(.sl 185 (.pair .i64 (.sl 42 (.pair .i64 (.pair .i64 (.pair .i64 .i64)))))),24,[],none⟩),(185,⟨(.pair .i64 (.sl 42 (.pair .i64 (.pair .i64 (.pair .i64 .i64))))),32,[(0,3),(1,31)],none⟩),(196,⟨(.sl 9 .str),24,[],none⟩),(212,⟨(.pair (.sl 3 .i64) (.sl 3 .i64)),48,[(0,26),(1,26)],none⟩),(224,⟨(.pair .i64 (.sl 5 .u8)),32,[(0,3),(1,22)],none⟩),(226,⟨(.pair .i64 (.pair .str .i64)),32,[(0,3),(1,9),(2,3)],none⟩),(236,⟨(.sl 3 .i64),32,[],some 4⟩),(239,⟨(.pair (.sl 5 .u8) (.pair .i64 .bool)),40,[(0,22),(1,3),(2,4)],none⟩)]
def EQS:List Nat:=[42]
theorem tysOK:yi Tryz.prog TYS=true:=by kernel_rfl
theorem Od:EQS.all (LL Tryz.prog TYS)=true:=by kernel_rfl
theorem RI:Tryz.prog.follows .mixedOrders=true:=by kernel_rfl
theorem LK {fns:List (Nat×PF)} {news:List (Nat×NF)} {muts:List (Nat×MF)} {frz hold:Bool} {conds joins alts:List (Nat×PF)} {thaws:List (Nat×Nat)} (h:AllS Tryz.prog GLB fns) (h2:AllN Tryz.prog GLB news) (h3:AllM Tryz.prog GLB muts) (h4:AllC Tryz.prog GLB conds) (h5:AllJ Tryz.prog GLB joins) (h6:AllS Tryz.prog GLB alts):jR Tryz.prog GLB ⟨TYS,fns,EQS,news,muts,frz,conds,joins,alts,hold,thaws⟩:=Oc RI tysOK Od h h2 h3 h4 h5 h6
def fe (fns:List (Nat×PF)) (ls:List (Nat×List Ev.Item)):y6:=⟨⟨TYS,fns,EQS,[],[],false,[],[],[],false,[]⟩,ls⟩
theorem ek {fns:List (Nat×PF)} {frz hold:Bool} {thaws:List (Nat×Nat)} (h:AllS Tryz.prog GLB fns):jR Tryz.prog GLB ⟨TYS,fns,EQS,[],[],frz,[],[],[],hold,thaws⟩:=LK h trivial trivial trivial trivial trivial
abbrev R (t:Ty):PK×Ty:=(.rd,t)
abbrev Sd (f:Nat) (pf:PF):Prop:=Sound Tryz.prog GLB f pf
theorem sf {F:y6} {f:FuncId} {fn:Func} {pf:PF} (hE:jR Tryz.prog GLB F.E) (hf:Tryz.prog.funcs[f]?=some fn) (he:∀ a,qN F fn pf.params pf.rets pf.rk a=pf.fn a) (hn:(fn.name == "runtime.NumGoroutine")=false:=by kernel_rfl) (ht:F.E.thaws=[]:=by rfl):Sd f pf:=Bo hE hf hn (λ a o h=>(he a).trans h) (.inl ht)
def oP (pf:PF) (v:zM pf.params pf.rets):PF:={pf with fn:=λ _=>some v}
def Lw:Code->Code | .seq a _=>a|c=>c
def Ji:Code->Code | .seq _ b=>b|c=>c
def rQ:Code->Code | .cond _ a _=>a|c=>c
def rn (F:y6) (c:Code) (st:St):St:=match jr F c st (λ _ s=>some s) with|some s=>s|none=>st
def rgo (F:y6) (c:Code) (lo hi:Nat) (st:St):St:=match c with | .region _ ops _=>(match evReg F.E ops.toList ((ops.toList.take hi).drop lo) st some with|some s=>s|none=>st)|_=>st
def en (fn:Func) (ps:List (PK×Ty)) (args:zW ps):St:=match yW ps args 0 with|some (avs,es,j)=>{ slots:=avs++List.replicate (fn.ntmps - avs.length) (.tup []),tab:=es,nxt:=j,lvl:=0 }|none=>⟨[],[],0,0⟩
def qM (F:y6) (fn:Func) (ps:List (PK×Ty)) (rets:List Ty) (rk:RK) (args:zW ps) (c:Code) (st:St):Option (zM ps rets):=jr F c st λ x st=>match x with | .exit _=>none | .normal=>M6 F fn ps rets rk args st | .ret=>M6 F fn ps rets rk args st
theorem bc {α β:Type} {x:Option α} {f g:α->Option β} (h:∀ y,f y=g y):x.bind f=x.bind g:=by rw[funext h]
theorem cc {α:Type} {c:Bool} {x y z t:α} (h:x=z) (k:y=t):(bif c then x else y)=bif c then z else t:=by rw[h,k]
def F6:=fe [] []
def wO:PF:=⟨[R (.sl 5 .u8)],[.bool],.uniq,mc⟩
theorem s6:Sd 6 wO:=sf (F:=F6) (ek trivial) Tryz.func6 λ a=>by kernel_rfl
def re:=fe [] [(3,[.slot 3 .i64 (.imm false),.slot 4 .i64 (.imm false)])]
def vY:NF:=⟨[(.rd,(.sl 5 .u8))],q6,bl⟩
theorem I4 (a:zW [(.rd,(.sl 5 .u8))]):kX re Tryz.f24 [(.rd,(.sl 5 .u8))] q6 a=bl a:=by kernel_rfl
theorem T3:KI Tryz.prog GLB 24 vY:=VO (F:=re) (ek trivial) Tryz.func24 (by kernel_rfl) (λ a o h=>(I4 a).trans h)
def CT:=fe [] []
def uN:PF:=⟨[(.ptr,q6)],[.i64],.uniq,Lt⟩
theorem S0:Sd 109 uN:=sf (F:=CT) (ek trivial) Tryz.func109 λ a=>by kernel_rfl
def F3:=fe [(109,uN)] []
def yx:PF:=⟨[(.ptr,q6),R .i64],[.i64],.uniq,zk⟩
theorem yz:Sd 52 yx:=sf (F:=F3) (ek ⟨S0,trivial⟩) Tryz.func52 λ a=>by kernel_rfl
def Ga:=fe [(52,yx)] []
def YC:PF:=⟨[(.ptr,q6),R (.sl 3 .i64)],[.i64],.uniq,jv⟩
theorem Jd:Sd 62 YC:=sf (F:=Ga) (ek ⟨yz,trivial⟩) Tryz.func62 λ a=>by kernel_rfl
def F2:=fe [(52,yx)] []
def pf51:PF:=⟨[(.ptr,q6),R .i64],[.bool],.uniq,ZG⟩
theorem Jc:Sd 51 pf51:=sf (F:=F2) (ek ⟨yz,trivial⟩) Tryz.func51 λ a=>by kernel_rfl
def GA:=fe [] []
def jF:PF:=⟨[R .i64,R .i64,R .i64],[.bool],.uniq,yl⟩
theorem jL:Sd 87 jF:=sf (F:=GA) (ek trivial) Tryz.func87 λ a=>by kernel_rfl
def Gz:=fe [(87,jF)] []
def Z8:PF:=⟨[R (.pair .i64 .i64)],[.bool],.uniq,ZF⟩
theorem YH:Sd 86 Z8:=sf (F:=Gz) (ek ⟨jL,trivial⟩) Tryz.func86 λ a=>by kernel_rfl
def Ez:=fe [] [(4,[.slot 5 (.sl 9 .str) (.own true),.slot 6 .i64 (.imm false),.slot 7 .i64 (.imm false)])]
def m0:PF:=⟨[R .str,R .u8],[(.sl 9 .str)],.uniq,aQ⟩
theorem Ao:Sd 220 m0:=sf (F:=Ez) (ek trivial) Tryz.func220 λ a=>by kernel_rfl
def EA:=fe [] [(2,[.slot 7 .i64 (.imm false)])]
def m7:PF:=⟨[R .str,R .u8],[.str,.str,.bool],.uniq,Lu⟩
theorem Ap:Sd 221 m7:=sf (F:=EA) (ek trivial) Tryz.func221 λ a=>by kernel_rfl
def DJ:=fe [] [(5,[.slot 0 .i64 (.imm false),.slot 4 .str (.imm false)])]
def QG:PF:=⟨[R .i64],[.str],.uniq,Jg⟩
theorem eI:Sd 161 QG:=sf (F:=DJ) (ek trivial) Tryz.func161 λ a=>by kernel_rfl
def EB:=fe [(161,QG)] [(5,[.slot 4 .i64 (.imm false),.slot 5 .i64 (.imm false)])]
def m8:PF:=⟨[R .str],[.i64,.bool],.uniq,Lp⟩
theorem Aq:Sd 222 m8:=sf (F:=EB) (ek ⟨eI,trivial⟩) Tryz.func222 λ a=>by kernel_rfl
def Dr:=fe [(87,jF)] []
def L1:PF:=⟨[R q5],[.bool],.uniq,Kw⟩
theorem NI:Sd 142 L1:=sf (F:=Dr) (ek ⟨jL,trivial⟩) Tryz.func142 λ a=>by kernel_rfl
def Eg:=fe [(142,L1),(161,QG)] []
def mU:PF:=⟨[R q5],[.str],.uniq,qb⟩
theorem Ai:Sd 198 mU:=sf (F:=Eg) (ek ⟨NI,eI,trivial⟩) Tryz.func198 λ a=>by kernel_rfl
def EU:=fe [(221,m7),(222,m8),(198,mU)] []
def v8:PF:=⟨[R .str],[q5,.bool],.uniq,aW⟩
theorem T9:Sd 247 v8:=sf (F:=EU) (ek ⟨Ap,Aq,Ai,trivial⟩) Tryz.func247 λ a=>by kernel_rfl
def EC:=fe [(220,m0),(247,v8)] [(6,[.slot 4 (.sl 42 q5) (.own true),.slot 6 .i64 (.imm false)])]
def vQ:PF:=⟨[R .str],[(.sl 42 q5),.bool],.uniq,f6⟩
theorem TU:Sd 223 vQ:=sf (F:=EC) (ek ⟨Ao,T9,trivial⟩) Tryz.func223 λ a=>by kernel_rfl
def Ec:=fe [(220,m0),(221,m7),(222,m8),(223,vQ)] [(10,[.slot 5 em (.own true),.slot 7 .i64 (.imm false),.slot 8 .i64 (.imm false)])]
def QK:PF:=⟨[R .str],[em,.bool],.uniq,Mp⟩
theorem eO:Sd 192 QK:=sf (F:=Ec) (ek ⟨Ao,Ap,Aq,TU,trivial⟩) Tryz.func192 λ a=>by kernel_rfl
def Dq:=fe [(192,QK)] []
def Kd:PF:=⟨[R .str],[.bool],.uniq,YO⟩
theorem Lf:Sd 141 Kd:=sf (F:=Dq) (ek ⟨eO,trivial⟩) Tryz.func141 λ a=>by kernel_rfl
def DI:=fe [(192,QK)] []
def Z7:PF:=⟨[R .str],[.i64],.uniq,Zn⟩
theorem YG:Sd 160 Z7:=sf (F:=DI) (ek ⟨eO,trivial⟩) Tryz.func160 λ a=>by kernel_rfl
def DG:=fe [] [(2,[.slot 5 .i64 (.imm false)])]
def dS:PF:=⟨[R .i64,R (.sl 3 .i64)],[.bool],.uniq,N8⟩
theorem oE:Sd 159 dS:=sf (F:=DG) (ek trivial) Tryz.func159 λ a=>by kernel_rfl
def Eb:=fe [(86,Z8)] []
def dW:PF:=⟨[R (.pair .i64 .i64)],[.i64],.uniq,N5⟩
theorem oI:Sd 191 dW:=sf (F:=Eb) (ek ⟨YH,trivial⟩) Tryz.func191 λ a=>by kernel_rfl
def Dp:=fe [(86,Z8),(141,Kd),(160,Z7),(159,dS),(191,dW)] []
def pf140:PF:=⟨[R (.pair .i64 .i64),R q4],[.bool],.uniq,YP⟩
theorem Le:Sd 140 pf140:=sf (F:=Dp) (ek ⟨YH,Lf,YG,oE,oI,trivial⟩) Tryz.func140 λ a=>by kernel_rfl
def GB:=fe [(87,jF),(140,pf140),(141,Kd)] []
def L3:PF:=⟨[R (.pair .i64 .i64),R q7],[.bool],.uniq,Kv⟩
theorem NK:Sd 88 L3:=sf (F:=GB) (ek ⟨jL,Le,Lf,trivial⟩) Tryz.func88 λ a=>by kernel_rfl
def Ds:=fe [] []
def mM:PF:=⟨[R q5,R q5],[.bool],.uniq,bp⟩
theorem Aa:Sd 143 mM:=sf (F:=Ds) (ek trivial) Tryz.func143 λ a=>by kernel_rfl
def GC:=fe [(142,L1),(143,mM)] [(2,[.slot 3 .i64 (.imm false)])]
def nG:PF:=⟨[R (.sl 42 q5)],[.bool],.uniq,Ml⟩
theorem AQ:Sd 89 nG:=sf (F:=GC) (ek ⟨NI,Aa,trivial⟩) Tryz.func89 λ a=>by kernel_rfl
def CS:=fe [(86,Z8),(87,jF),(159,dS),(141,Kd),(160,Z7)] []
def QC:PF:=⟨[R (.pair .i64 .i64),R q4],[.bool],.uniq,Kt⟩
theorem eE:Sd 108 QC:=sf (F:=CS) (ek ⟨YH,jL,oE,Lf,YG,trivial⟩) Tryz.func108 λ a=>by kernel_rfl
def CQ:=fe [] []
def mI:PF:=⟨[R q4,R q4],[.bool],.uniq,ba⟩
theorem xW:Sd 106 mI:=sf (F:=CQ) (ek trivial) Tryz.func106 λ a=>by kernel_rfl
def GD:=fe [(108,QC),(106,mI)] [(2,[.slot 5 .i64 (.imm false)])]
def nI:PF:=⟨[R (.pair .i64 .i64),R (.sl 40 q4)],[.bool],.uniq,Mq⟩
theorem AR:Sd 90 nI:=sf (F:=GD) (ek ⟨eE,xW,trivial⟩) Tryz.func90 λ a=>by kernel_rfl
def GE:=fe [(87,jF)] []
def QT:PF:=⟨[R ZC],[.bool],.uniq,Lm⟩
theorem eY:Sd 91 QT:=sf (F:=GE) (ek ⟨jL,trivial⟩) Tryz.func91 λ a=>by kernel_rfl
def Dw:=fe [] [(2,[.slot 5 .i64 (.imm false)])]
def mN:PF:=⟨[R (.sl 3 .i64),R (.sl 3 .i64)],[.bool],.uniq,bt⟩
theorem Ab:Sd 147 mN:=sf (F:=Dw) (ek trivial) Tryz.func147 λ a=>by kernel_rfl
def GH:=fe [(147,mN)] []
def eh:PF:=⟨[R q4,R q4],[.bool],.uniq,N4⟩
theorem oV:Sd 94 eh:=sf (F:=GH) (ek ⟨Ab,trivial⟩) Tryz.func94 λ a=>by kernel_rfl
def GJ:=fe [(94,eh)] []
def xa:PF:=⟨[R (.pair .str q4),R (.pair .str q4)],[.bool],.uniq,fw⟩
theorem U0:Sd 96 xa:=sf (F:=GJ) (ek ⟨oV,trivial⟩) Tryz.func96 λ a=>by kernel_rfl
def GK:=fe [(147,mN)] []
def xc:PF:=⟨[R q4,R q4],[.bool],.uniq,gk⟩
theorem U1:Sd 97 xc:=sf (F:=GK) (ek ⟨Ab,trivial⟩) Tryz.func97 λ a=>by kernel_rfl
def FP:=fe [(96,xa),(97,xc),(94,eh)] []
def nw:PF:=⟨[R q2,R q2],[.bool],.uniq,Kr⟩
theorem AH:Sd 37 nw:=sf (F:=FP) (ek ⟨U0,U1,oV,trivial⟩) Tryz.func37 λ a=>by kernel_rfl
def Dt:=fe [(37,nw)] []
def va:PF:=⟨[R q2],[.bool],.uniq,gn⟩
theorem Th:Sd 144 va:=sf (F:=Dt) (ek ⟨AH,trivial⟩) Tryz.func144 λ a=>by kernel_rfl
def DR:=fe [] []
def Ke:PF:=⟨[R .i64,R .i64],[.i64],.uniq,yU⟩
theorem Lg:Sd 175 Ke:=sf (F:=DR) (ek trivial) Tryz.func175 λ a=>by kernel_rfl
def Ed:=fe [(141,Kd),(175,Ke)] [(4,[.slot 3 .i64 (.imm false)])]
def QL:PF:=⟨[R .str],[.str],.uniq,Ls⟩
theorem eP:Sd 193 QL:=sf (F:=Ed) (ek ⟨Lf,Lg,trivial⟩) Tryz.func193 λ a=>by kernel_rfl
def Du:=fe [(140,pf140),(141,Kd),(193,QL)] []
def QF:PF:=⟨[R (.pair .i64 .i64),R (.pair .str q4)],[.bool],.uniq,Mi⟩
theorem eH:Sd 145 QF:=sf (F:=Du) (ek ⟨Le,Lf,eP,trivial⟩) Tryz.func145 λ a=>by kernel_rfl
def GF:=fe [(86,Z8),(144,va),(145,QF),(108,QC),(87,jF),(140,pf140),(142,L1)] []
def L4:PF:=⟨[R (.pair .i64 .i64),R q2],[.bool],.uniq,ZZ⟩
theorem NL:Sd 92 L4:=sf (F:=GF) (ek ⟨YH,Th,eH,eE,jL,Le,NI,trivial⟩) Tryz.func92 λ a=>by kernel_rfl
def FJ:=fe [(86,Z8),(87,jF),(88,L3),(89,nG),(90,nI),(91,QT),(92,L4)] [(4,[.slot 5 .i64 (.imm false)])]
def ZA:PF:=⟨[R (.pair .i64 .i64),R q1],[.bool],.uniq,Za⟩
theorem ZW:Sd 31 ZA:=sf (F:=FJ) (ek ⟨YH,jL,NK,AQ,AR,eY,NL,trivial⟩) Tryz.func31 λ a=>by kernel_rfl
def EF:=fe [(31,ZA)] []
def vS:PF:=⟨[R (.pair .i64 .i64),R .i64],[q1,.bool],.uniq,fQ⟩
theorem TW:Sd 231 vS:=sf (F:=EF) (ek ⟨ZW,trivial⟩) Tryz.func231 λ a=>by kernel_rfl
def EX:=fe [(86,Z8)] []
def wa:PF:=⟨[R (.pair .i64 .i64)],[.i64],.uniq,fC⟩
theorem Ub:Sd 250 wa:=sf (F:=EX) (ek ⟨YH,trivial⟩) Tryz.func250 λ a=>by kernel_rfl
def Fv:=fe [] [(3,[.slot 7 .i64 (.imm false),.slot 8 .i64 (.imm false)])]
def ec:PF:=⟨[R (.sl 5 .u8),R .i64],[.i64,.i64,.bool],.uniq,NU⟩
theorem oS:Sd 289 ec:=sf (F:=Fv) (ek trivial) Tryz.func289 λ a=>by kernel_rfl
def Fe:=fe [(289,ec)] []
def QO:PF:=⟨[(.ptr,QX)],[.i64],.uniq,Zo⟩
theorem eT:Sd 266 QO:=sf (F:=Fe) (ek ⟨oS,trivial⟩) Tryz.func266 λ a=>by kernel_rfl
def Fx:=fe [(289,ec)] []
def wu:PF:=⟨[R (.sl 5 .u8),R .i64],[.str,.i64,.bool],.uniq,fD⟩
theorem Ur:Sd 290 wu:=sf (F:=Fx) (ek ⟨oS,trivial⟩) Tryz.func290 λ a=>by kernel_rfl
def Ff:=fe [(290,wu)] []
def d8:PF:=⟨[(.ptr,QX)],[.str],.uniq,Mu⟩
theorem oQ:Sd 267 d8:=sf (F:=Ff) (ek ⟨Ur,trivial⟩) Tryz.func267 λ a=>by kernel_rfl
def Fh:=fe [(266,QO)] [(4,[.slot 3 (.sl 3 .i64) (.own true),.slot 5 .i64 (.imm false),.keep 0 QX [2,0,0]])]
def nn:PF:=⟨[(.ptr,QX)],[(.sl 3 .i64)],.uniq,be⟩
theorem AA:Sd 269 nn:=sf (F:=Fh) (ek ⟨eT,trivial⟩) Tryz.func269 λ a=>by kernel_rfl
def Fg:=fe [(266,QO),(267,d8),(269,nn)] []
def nl:PF:=⟨[(.ptr,QX)],[q4],.uniq,qj⟩
theorem Az:Sd 268 nl:=sf (F:=Fg) (ek ⟨eT,oQ,AA,trivial⟩) Tryz.func268 λ a=>by kernel_rfl
def EY:=fe [(266,QO),(267,d8),(268,nl),(269,nn),(92,L4)] []
def d5:PF:=⟨[R (.pair .i64 .i64),R (.sl 5 .u8)],[q2,.bool],.uniq,NY⟩
theorem oM:Sd 251 d5:=sf (F:=EY) (ek ⟨eT,oQ,Az,AA,NL,trivial⟩) Tryz.func251 λ a=>by kernel_rfl
def EG:=fe [(86,Z8),(159,dS),(250,wa),(31,ZA),(251,d5),(87,jF),(141,Kd),(160,Z7)] [(4,[.slot 3 .i64 (.imm false)]),(9,[.slot 4 .i64 (.imm false)]),(15,[.slot 7 .i64 (.imm false)])]
def vU:PF:=⟨[R q3],[.bool],.uniq,qg⟩
theorem TX:Sd 232 vU:=sf (F:=EG) (ek ⟨YH,oE,Ub,ZW,oM,jL,Lf,YG,trivial⟩) Tryz.func232 λ a=>by kernel_rfl
def En:=fe [(86,Z8),(231,vS),(232,vU)] [(3,[.slot 7 .i64 (.imm false),.box 5 q3 (.own true)])]
def vM:PF:=⟨[R (.pair .i64 .i64),R (.sl 3 .i64)],[q3,.bool],.uniq,aY⟩
theorem TP:Sd 209 vM:=sf (F:=En) (ek ⟨YH,TW,TX,trivial⟩) Tryz.func209 λ a=>by kernel_rfl
def DY:=fe [(62,YC),(52,yx),(51,pf51),(209,vM)] []
def vz:PF:=⟨[(.ptr,q6)],[q3],.uniq,gC⟩
theorem TB:Sd 181 vz:=sf (F:=DY) (ek ⟨Jd,yz,Jc,TP,trivial⟩) Tryz.func181 λ a=>by kernel_rfl
def FX:=fe [(86,Z8)] []
def K7:PF:=⟨[R (.pair .i64 .i64),R .i64],[.i64],.uniq,jE⟩
theorem Md:Sd 46 K7:=sf (F:=FX) (ek ⟨YH,trivial⟩) Tryz.func46 λ a=>by kernel_rfl
def CP:=fe [] []
def Nt:PF:=⟨[R q4],[q4],.uniq,JN⟩
theorem ai:Sd 105 Nt:=sf (F:=CP) (ek trivial) Tryz.func105 λ a=>by kernel_rfl
def CZ:=fe [(105,Nt)] [(2,[.slot 7 .i64 (.imm false),.box 1 q4 (.own true)])]
def dM:PF:=⟨[R (.sl 40 q4),R .i64,R .str],[q4],.uniq,qa⟩
theorem oy:Sd 117 dM:=sf (F:=CZ) (ek ⟨ai,trivial⟩) Tryz.func117 λ a=>by kernel_rfl
def EM:=fe [] [(3,[.slot 2 .i64 (.imm false),.box 2 q9 (.own true)])]
def na:PF:=⟨[],[q9],.uniq,NX⟩
theorem As:Sd 238 na:=sf (F:=EM) (ek trivial) Tryz.func238 λ a=>by kernel_rfl
def EN:=fe [(192,QK)] [(4,[.slot 3 (.sl 42 q5) (.own true),.slot 6 .i64 (.imm false)])]
def ne:PF:=⟨[R .str],[(.sl 42 q5)],.uniq,qc⟩
theorem At:Sd 239 ne:=sf (F:=EN) (ek ⟨eO,trivial⟩) Tryz.func239 λ a=>by kernel_rfl
def Fb:=fe [] []
def d6:PF:=⟨[R q9],[q9],.uniq,Mw⟩
theorem oN:Sd 260 d6:=sf (F:=Fb) (ek trivial) Tryz.func260 λ a=>by kernel_rfl
def Fu:=fe [(87,jF)] [(4,[.slot 3 .i64 (.imm false)])]
def wq:PF:=⟨[R q9],[.bool],.uniq,aE⟩
theorem Up:Sd 280 wq:=sf (F:=Fu) (ek ⟨jL,trivial⟩) Tryz.func280 λ a=>by kernel_rfl
def Fc:=fe [(260,d6),(280,wq),(142,L1)] []
def d7:PF:=⟨[R q9,R q5],[q9,.i64],.uniq,Mk⟩
theorem oO:Sd 261 d7:=sf (F:=Fc) (ek ⟨oN,Up,NI,trivial⟩) Tryz.func261 λ a=>by kernel_rfl
def EL:=fe [(260,d6),(261,d7)] [(4,[.slot 7 (.sl 3 .i64) (.own true),.slot 8 .i64 (.imm false),.box 7 q9 (.own true)])]
def m9:PF:=⟨[R q9,R (.sl 42 q5)],[q9,(.sl 3 .i64)],.uniq,N1⟩
theorem Ar:Sd 237 m9:=sf (F:=EL) (ek ⟨oN,oO,trivial⟩) Tryz.func237 λ a=>by kernel_rfl
def EO:=fe [(260,d6),(261,d7)] [(4,[.slot 5 (.sl 42 q5) (.own true),.slot 7 .i64 (.imm false),.box 7 q9 (.own true)])]
def vZ:PF:=⟨[R (.sl 42 q5),R q9],[(.sl 42 q5)],.uniq,aK⟩
theorem T4:Sd 240 vZ:=sf (F:=EO) (ek ⟨oN,oO,trivial⟩) Tryz.func240 λ a=>by kernel_rfl
def DK:=fe [(142,L1),(198,mU)] [(3,[.slot 3 .str (.imm false),.slot 4 .i64 (.imm false)])]
def vn:PF:=⟨[R (.sl 42 q5)],[.str],.uniq,f7⟩
theorem Tp:Sd 162 vn:=sf (F:=DK) (ek ⟨NI,Ai,trivial⟩) Tryz.func162 λ a=>by kernel_rfl
def CW:=fe [(142,L1),(161,QG),(162,vn),(141,Kd)] [(2,[.slot 7 .i64 (.imm false)])]
def QD:PF:=⟨[R .str,R .i64,R (.sl 42 q5)],[.str],.uniq,Lo⟩
theorem eF:Sd 111 QD:=sf (F:=CW) (ek ⟨NI,eI,Tp,Lf,trivial⟩) Tryz.func111 λ a=>by kernel_rfl
def Dn:=fe [] []
def L0:PF:=⟨[R q4],[q4],.uniq,Jh⟩
theorem NH:Sd 139 L0:=sf (F:=Dn) (ek trivial) Tryz.func139 λ a=>by kernel_rfl
def D8:=fe [(111,QD),(139,L0),(145,QF),(160,Z7)] []
def dV:PF:=⟨[R (.pair .i64 .i64),R q4,R .i64,R (.sl 42 q5)],[(.pair .str q4),.bool],.uniq,yc⟩
theorem oH:Sd 189 dV:=sf (F:=D8) (ek ⟨eF,NH,eH,YG,trivial⟩) Tryz.func189 λ a=>by kernel_rfl
def Ep:=fe [(31,ZA),(46,K7),(117,dM),(191,dW),(238,na),(239,ne),(237,m9),(240,vZ),(189,dV)] []
def dX:PF:=⟨[R (.pair .i64 .i64),R q1],[(.pair .str q4),.bool],.uniq,Ko⟩
theorem oJ:Sd 211 dX:=sf (F:=Ep) (ek ⟨ZW,Md,oy,oI,As,At,Ar,T4,oH,trivial⟩) Tryz.func211 λ a=>by kernel_rfl
def DT:=fe [] [(2,[.slot 5 .i64 (.imm false)])]
def ZQ:PF:=⟨[R (.sl 3 .i64),R .i64],[.bool],.uniq,ju⟩
theorem Yc:Sd 177 ZQ:=sf (F:=DT) (ek trivial) Tryz.func177 λ a=>by kernel_rfl
def CV:=fe [(52,yx),(62,YC)] []
def K5:PF:=⟨[(.ptr,q6)],[q5],.uniq,zX⟩
theorem Mb:Sd 110 K5:=sf (F:=CV) (ek ⟨yz,Jd,trivial⟩) Tryz.func110 λ a=>by kernel_rfl
def Er:=fe [] []
def L2:PF:=⟨[R .i64,R .i64],[.i64],.uniq,yd⟩
theorem NJ:Sd 213 L2:=sf (F:=Er) (ek trivial) Tryz.func213 λ a=>by kernel_rfl
def D6:=fe [(177,ZQ)] [(4,[.slot 5 .i64 (.imm false)])]
def QI:PF:=⟨[R (.sl 3 .i64),R .i64],[(.sl 3 .i64)],.uniq,Z1⟩
theorem eK:Sd 187 QI:=sf (F:=D6) (ek ⟨Yc,trivial⟩) Tryz.func187 λ a=>by kernel_rfl
def EP:=fe [(52,yx),(111,QD),(213,L2),(51,pf51),(193,QL),(187,QI)] [(11,[.slot 7 (.sl 3 .i64) (.own true),.slot 9 .i64 (.imm false)])]
def pf241:PF:=⟨[(.ptr,q6),R q3],[q2],.uniq,bm⟩
theorem T5:Sd 241 pf241:=sf (F:=EP) (ek ⟨yz,eF,NJ,Jc,eP,eK,trivial⟩) Tryz.func241 λ a=>by kernel_rfl
def EQ:=fe [] []
def pf242:PF:=⟨[],[q4],.uniq,fO⟩
theorem T6:Sd 242 pf242:=sf (F:=EQ) (ek trivial) Tryz.func242 λ a=>by kernel_rfl
def Ym:=fe [(241,pf241),(140,pf140),(242,pf242),(51,pf51),(52,yx),(139,L0),(213,L2),(46,K7),(110,K5),(189,dV)] [(17,[.slot 8 .i64 (.imm false),.slot 9 .i64 (.imm false)])]
def pf212:PF:=⟨[(.ptr,q6),R q3],[q2],.uniq,qm⟩
def c7:Code:=match Tryz.f212.body with|some b=>b|none=>.skip
def lU:Code:=Lw c7
def lV:Code:=Lw (Ji c7)
def lW:Code:=Lw (Ji (Ji c7))
def lZ:Code:=Ji (Ji (Ji c7))
def lX:Code:=Lw (Lw lZ)
def lT:Code:=Ji (Lw lZ)
def Nn:Code:=Ji lZ
def lS:Code:=rQ lT
def P9:Code:=Lw lS
def lY:Code:=Lw (Ji lS)
def tK:Code:=rQ (Ji (Ji lS))
def l6 (a:zW pf212.params) (r0:zM pf241.params pf241.rets) (r1:zM pf140.params pf140.rets):St:=rn (fe [(241,oP pf241 r0),(140,oP pf140 r1)] []) (.seq lU (.seq lV (.seq lW lX))) (en Tryz.f212 pf212.params a)
def tL (a:zW pf212.params) (r0:zM pf241.params pf241.rets) (r1:zM pf140.params pf140.rets) (r2:zM pf242.params pf242.rets):St:=rgo (fe [(242,oP pf242 r2)] []) lY 0 5 (rn (fe [(242,oP pf242 r2)] []) P9 (l6 a r0 r1))
def tM (a:zW pf212.params) (r0:zM pf241.params pf241.rets) (r1:zM pf140.params pf140.rets) (r2:zM pf242.params pf242.rets):St:=rgo (fe [] []) lY 5 8 ((tL a r0 r1 r2).put (some 35) (.v (.one (.b false))))
def c8 (a:zW pf212.params) (r0:zM pf241.params pf241.rets) (r1:zM pf140.params pf140.rets) (r2:zM pf242.params pf242.rets) (r3:zM pf51.params pf51.rets):St:=rgo (fe [(51,oP pf51 r3)] []) lY 5 8 ((tL a r0 r1 r2).put (some 35) (.v (.one (.b true))))
theorem Re (rest:Code) (a:zW pf212.params) {β:Type} (k:X->St->Option β):jr Ym (.seq lU (.seq lV (.seq lW (.seq (.seq lX lT) rest)))) (en Tryz.f212 pf212.params a) k=((bm (a.1,(a.2.1,()))).bind λ r0=>((YP (a.2.1.1,(r0.2.1.2.2.2.1,()))).bind λ r1=>(bif (!r1.1) then ((fO ()).bind λ r2=>(bif (decide ((((List.length a.2.1.2.2.1):Nat):Int)>0)) then ((ZG ((a.1.1,r0.1.2),(2,()))).bind λ r3=>(bif r3.2.1 then (jr Ym (.seq tK rest) (c8 a r0 r1 r2 r3) k) else (jr Ym rest (c8 a r0 r1 r2 r3) k))) else (jr Ym rest (tM a r0 r1 r2) k))) else (jr Ym rest (l6 a r0 r1) k)))):=by kernel_rfl
theorem Ra (a:zW pf212.params) (r0:zM pf241.params pf241.rets) (r1:zM pf140.params pf140.rets) (r2:zM pf242.params pf242.rets) (r3:zM pf51.params pf51.rets):qM Ym Tryz.f212 pf212.params pf212.rets pf212.rk a (.seq tK Nn) (c8 a r0 r1 r2 r3)=((zk ((a.1.1,r3.1.2),((((List.length a.2.1.2.2.1):Nat):Int),()))).bind λ r4=>(if ((0<=r4.2.1)/\(r4.2.1<(((List.length a.2.1.2.2.1):Nat):Int))) then ((Jh ((rd (.pair .i64 (.pair .i64 (.pair .i64 (.pair (.pair .i64 (.pair .i64 (.pair QY .str))) (.pair (.sl 0 q5) (.pair (.sl 0 QY) (.pair (.pair (.sl 0 .u8) .i64) (.sl 0 (.pair .i64 (.pair .i64 (.pair .i64 (.pair (.pair .str QY) (.pair QY (.pair QY (.pair .i64 q5))))))))))))))) a.2.1.2.2.1 (Int.toNat r4.2.1)).2.2.2.1.2.2.1,())).bind λ r5=>(py (a,(r0,(r4,r5))))) else none)):=by kernel_rfl
theorem P8 (a:zW pf212.params) (r0:zM pf241.params pf241.rets) (r1:zM pf140.params pf140.rets) (r2:zM pf242.params pf242.rets) (r3:zM pf51.params pf51.rets):qM Ym Tryz.f212 pf212.params pf212.rets pf212.rk a Nn (c8 a r0 r1 r2 r3)=px (a,(r0,(r2,r3))):=by kernel_rfl
theorem Rb (a:zW pf212.params) (r0:zM pf241.params pf241.rets) (r1:zM pf140.params pf140.rets) (r2:zM pf242.params pf242.rets):qM Ym Tryz.f212 pf212.params pf212.rets pf212.rk a Nn (tM a r0 r1 r2)=pz (a,(r0,r2)):=by kernel_rfl
theorem P7 (a:zW pf212.params) (r0:zM pf241.params pf241.rets) (r1:zM pf140.params pf140.rets):qM Ym Tryz.f212 pf212.params pf212.rets pf212.rk a Nn (l6 a r0 r1)=pw (a,r0):=by kernel_rfl
theorem Rc (a:zW pf212.params):qN Ym Tryz.f212 pf212.params pf212.rets pf212.rk a=qM Ym Tryz.f212 pf212.params pf212.rets pf212.rk a (.seq lU (.seq lV (.seq lW (.seq (.seq lX lT) Nn)))) (en Tryz.f212 pf212.params a):=by kernel_rfl
theorem TR:Sd 212 pf212:=sf (F:=Ym) (ek ⟨T5,Le,T6,Jc,yz,NH,NJ,Md,Mb,oH,trivial⟩) Tryz.func212 λ a=>(Rc a).trans ((Re Nn a _).trans (bc λ r0=>bc λ r1=>cc (bc λ r2=>cc (bc λ r3=>cc (Ra a r0 r1 r2 r3) (P8 a r0 r1 r2 r3)) (Rb a r0 r1 r2)) (P7 a r0 r1)))
def D0:=fe [(175,Ke),(52,yx),(211,dX),(177,ZQ),(51,pf51),(62,YC),(110,K5),(212,pf212),(213,L2)] [(8,[.slot 7 .i64 (.imm false),.box 7 q8 (.own true)]),(19,[.slot 10 .i64 (.imm false),.box 7 q8 (.own true)])]
def vB:PF:=⟨[(.ptr,q6),R q3],[q8],.uniq,gA⟩
theorem TE:Sd 183 vB:=sf (F:=D0) (ek ⟨Lg,yz,oJ,Yc,Jc,Jd,Mb,TR,NJ,trivial⟩) Tryz.func183 λ a=>by kernel_rfl
def Gv:=fe [(139,L0)] []
def QR:PF:=⟨[R q7],[q7],.uniq,Mt⟩
theorem eW:Sd 82 QR:=sf (F:=Gv) (ek ⟨NH,trivial⟩) Tryz.func82 λ a=>by kernel_rfl
def Gw:=fe [(105,Nt)] [(3,[.slot 3 (.sl 40 q4) (.own true),.slot 4 .i64 (.imm false)])]
def nE:PF:=⟨[R (.sl 40 q4)],[(.sl 40 q4)],.uniq,JO⟩
theorem AO:Sd 83 nE:=sf (F:=Gw) (ek ⟨ai,trivial⟩) Tryz.func83 λ a=>by kernel_rfl
def Gx:=fe [] []
def QS:PF:=⟨[R ZC],[ZC],.uniq,Kx⟩
theorem eX:Sd 84 QS:=sf (F:=Gx) (ek trivial) Tryz.func84 λ a=>by kernel_rfl
def Dv:=fe [(139,L0)] []
def vd:PF:=⟨[R (.pair .str q4)],[(.pair .str q4)],.uniq,gR⟩
theorem Ti:Sd 146 vd:=sf (F:=Dv) (ek ⟨NH,trivial⟩) Tryz.func146 λ a=>by kernel_rfl
def GG:=fe [(146,vd),(105,Nt),(139,L0)] []
def nJ:PF:=⟨[R q2],[q2],.uniq,bf⟩
theorem AS:Sd 93 nJ:=sf (F:=GG) (ek ⟨Ti,ai,NH,trivial⟩) Tryz.func93 λ a=>by kernel_rfl
def Gy:=fe [(93,nJ)] [(3,[.slot 3 Kj (.own true),.slot 4 .i64 (.imm false)])]
def nF:PF:=⟨[R Kj],[Kj],.uniq,bh⟩
theorem AP:Sd 85 nF:=sf (F:=Gy) (ek ⟨AS,trivial⟩) Tryz.func85 λ a=>by kernel_rfl
def FH:=fe [(82,QR),(83,nE),(84,QS),(85,nF)] []
def j6:PF:=⟨[R q1],[q1],.uniq,yu⟩
theorem Zm:Sd 30 j6:=sf (F:=FH) (ek ⟨eW,AO,eX,AP,trivial⟩) Tryz.func30 λ a=>by kernel_rfl
def Ek:=fe [(139,L0)] []
def vJ:PF:=⟨[R q4,R q4],[q4],.uniq,fP⟩
theorem TM:Sd 206 vJ:=sf (F:=Ek) (ek ⟨NH,trivial⟩) Tryz.func206 λ a=>by kernel_rfl
def El:=fe [(192,QK),(193,QL)] []
def vK:PF:=⟨[R .str],[.str,.bool],.uniq,fW⟩
theorem TN:Sd 207 vK:=sf (F:=El) (ek ⟨eO,eP,trivial⟩) Tryz.func207 λ a=>by kernel_rfl
def Em:=fe [(141,Kd)] []
def vL:PF:=⟨[R .str,R .str],[.bool],.uniq,fB⟩
theorem TO:Sd 208 vL:=sf (F:=Em) (ek ⟨Lf,trivial⟩) Tryz.func208 λ a=>by kernel_rfl
def DQ:=fe [(82,QR),(88,L3),(140,pf140),(206,vJ),(193,QL),(160,Z7),(175,Ke),(207,vK),(208,vL)] []
def QH:PF:=⟨[R (.pair .i64 .i64),R q7,R q4],[q7],.uniq,Mo⟩
theorem eJ:Sd 174 QH:=sf (F:=DQ) (ek ⟨eW,NK,Le,TM,eP,YG,Lg,TN,TO,trivial⟩) Tryz.func174 λ a=>by kernel_rfl
def Es:=fe [(88,L3),(145,QF),(160,Z7)] []
def mV:PF:=⟨[R (.pair .i64 .i64),R q7,R (.pair .str q4)],[.bool],.uniq,aG⟩
theorem Aj:Sd 214 mV:=sf (F:=Es) (ek ⟨NK,eH,YG,trivial⟩) Tryz.func214 λ a=>by kernel_rfl
def D4:=fe [(82,QR),(214,mV),(160,Z7)] []
def mS:PF:=⟨[R (.pair .i64 .i64),R q7,R (.pair .str q4)],[q7,.bool],.uniq,qe⟩
theorem Ag:Sd 185 mS:=sf (F:=D4) (ek ⟨eW,Aj,YG,trivial⟩) Tryz.func185 λ a=>by kernel_rfl
def FL:=fe [(94,eh)] []
def nu:PF:=⟨[R q7,R q7],[.bool],.uniq,aN⟩
theorem AG:Sd 33 nu:=sf (F:=FL) (ek ⟨oV,trivial⟩) Tryz.func33 λ a=>by kernel_rfl
def D7:=fe [(87,jF)] [(4,[.slot 0 .i64 (.imm false),.slot 3 (.sl 5 .u8) (.own true)])]
def K6:PF:=⟨[R .i64],[(.sl 5 .u8)],.uniq,j9⟩
theorem Mc:Sd 188 K6:=sf (F:=D7) (ek ⟨jL,trivial⟩) Tryz.func188 λ a=>by kernel_rfl
def EW:=fe [(188,K6)] []
def dZ:PF:=⟨[R .str],[(.sl 5 .u8)],.uniq,Mm⟩
theorem oL:Sd 249 dZ:=sf (F:=EW) (ek ⟨Mc,trivial⟩) Tryz.func249 λ a=>by kernel_rfl
def EV:=fe [(140,pf140),(188,K6),(249,dZ)] [(6,[.slot 5 (.sl 5 .u8) (.own true),.slot 6 .i64 (.imm false)])]
def nh:PF:=⟨[R (.pair .i64 .i64),R q4],[(.sl 5 .u8)],.uniq,N3⟩
theorem Av:Sd 248 nh:=sf (F:=EV) (ek ⟨Le,Mc,oL,trivial⟩) Tryz.func248 λ a=>by kernel_rfl
def ED:=fe [(88,L3),(188,K6),(248,nh),(249,dZ)] []
def vR:PF:=⟨[R (.pair .i64 .i64),R q7],[(.sl 5 .u8)],.uniq,fR⟩
theorem TV:Sd 230 vR:=sf (F:=ED) (ek ⟨NK,Mc,Av,oL,trivial⟩) Tryz.func230 λ a=>by kernel_rfl
def Ej:=fe [(230,vR),(188,K6)] []
def vI:PF:=⟨[R (.pair .i64 .i64),R q7],[(.sl 5 .u8)],.uniq,fK⟩
theorem TL:Sd 205 vI:=sf (F:=Ej) (ek ⟨TV,Mc,trivial⟩) Tryz.func205 λ a=>by kernel_rfl
def Ei:=fe [(84,QS),(91,QT)] []
def vH:PF:=⟨[R ZC,R (.sl 5 .u8)],[ZC,.bool],.uniq,fl⟩
theorem TK:Sd 204 vH:=sf (F:=Ei) (ek ⟨eX,eY,trivial⟩) Tryz.func204 λ a=>by kernel_rfl
def rb:=fe [(33,nu),(205,vI),(204,vH),(88,L3),(82,QR)] []
def pf173:PF:=⟨[R (.pair .i64 .i64),(.own,q1),R q7],[q1,.bool],.own,Yi⟩
theorem I3 (a:zW pf173.params):kW rb Tryz.f173 pf173.params pf173.rets pf173.rk a=pf173.fn a:=by kernel_rfl
theorem oF:KG Tryz.prog GLB 173 pf173:=VN (F:=rb) (ek ⟨AG,TL,TK,NK,eW,trivial⟩) Tryz.func173 (by kernel_rfl) (by rfl) (λ a o h=>(I3 a).trans h)
def DF:=fe [(187,QI)] [(3,[.slot 5 (.sl 3 .i64) (.own true),.slot 6 .i64 (.imm false)]),(7,[.slot 5 (.sl 3 .i64) (.own true),.slot 7 .i64 (.imm false)])]
def vm:PF:=⟨[R (.sl 3 .i64),R (.sl 3 .i64)],[(.sl 3 .i64)],.uniq,fV⟩
theorem To:Sd 158 vm:=sf (F:=DF) (ek ⟨eK,trivial⟩) Tryz.func158 λ a=>by kernel_rfl
def CR:=fe [(158,vm)] []
def uM:PF:=⟨[R q4,R q4],[q4,.bool],.uniq,fL⟩
theorem SZ:Sd 107 uM:=sf (F:=CR) (ek ⟨To,trivial⟩) Tryz.func107 λ a=>by kernel_rfl
def FY:=fe [(105,Nt),(106,mI),(107,uM),(90,nI),(108,QC),(83,nE)] [(4,[.slot 8 (.sl 40 q4) (.own true),.slot 9 .bool (.imm false),.slot 10 .i64 (.imm false)])]
def Nv:PF:=⟨[R (.pair .i64 .i64),R (.sl 40 q4),R q4],[(.sl 40 q4),.bool],.uniq,Lr⟩
theorem ak:Sd 47 Nv:=sf (F:=FY) (ek ⟨ai,xW,SZ,AR,eE,AO,trivial⟩) Tryz.func47 λ a=>by kernel_rfl
def DP:=fe [(140,pf140)] []
def vu:PF:=⟨[R (.pair .i64 .i64),R q4],[q4,.bool],.uniq,fM⟩
theorem Tv:Sd 172 vu:=sf (F:=DP) (ek ⟨Le,trivial⟩) Tryz.func172 λ a=>by kernel_rfl
def FK:=fe [(92,L4),(87,jF),(93,nJ)] []
def QP:PF:=⟨[R (.pair .i64 .i64),(.own,q1),R .i64,R q2],[q1,.bool],.own,Ky⟩
theorem eU:Sd 32 QP:=sf (F:=FK) (ek ⟨NL,jL,AS,trivial⟩) Tryz.func32 λ a=>by kernel_rfl
def C0:y6:=⟨⟨TYS,[(172,vu),(174,QH),(175,Ke),(46,K7),(32,QP)],EQS,[],[],false,[(173,pf173)],[],[],false,[]⟩,[]⟩
def uP:PF:=⟨[R (.pair .i64 .i64),(.own,q1),R q4],[q1,.bool],.own,gr⟩
theorem S2:Sd 118 uP:=sf (F:=C0) (LK ⟨Tv,eJ,Lg,Md,eU,trivial⟩ trivial trivial oF trivial trivial) Tryz.func118 λ a=>by kernel_rfl
def DS:=fe [(86,Z8),(87,jF)] []
def dU:PF:=⟨[R (.pair .i64 .i64),R .i64,R .i64],[.i64],.uniq,N7⟩
theorem oG:Sd 176 dU:=sf (F:=DS) (ek ⟨YH,jL,trivial⟩) Tryz.func176 λ a=>by kernel_rfl
def DX:=fe [(86,Z8),(87,jF)] []
def vy:PF:=⟨[R (.pair .i64 .i64),R .i64,R .i64],[.i64],.uniq,fX⟩
theorem TA:Sd 180 vy:=sf (F:=DX) (ek ⟨YH,jL,trivial⟩) Tryz.func180 λ a=>by kernel_rfl
def C4:=fe [(176,dU),(180,vy)] []
def mJ:PF:=⟨[R (.pair .i64 .i64),R .i64,R .i64],[.i64],.uniq,qd⟩
theorem xX:Sd 121 mJ:=sf (F:=C4) (ek ⟨oG,TA,trivial⟩) Tryz.func121 λ a=>by kernel_rfl
def DU:=fe [(176,dU),(121,mJ)] [(2,[.slot 2 .i64 (.imm false),.slot 7 (.sl 3 .i64) (.own true)])]
def vv:PF:=⟨[R (.pair .i64 .i64),R .i64,R .i64],[(.sl 3 .i64)],.uniq,f9⟩
theorem Tw:Sd 178 vv:=sf (F:=DU) (ek ⟨oG,xX,trivial⟩) Tryz.func178 λ a=>by kernel_rfl
def C1:=fe [(86,Z8),(176,dU),(178,vv),(177,ZQ)] [(5,[.slot 7 (.sl 3 .i64) (.own true),.slot 8 .i64 (.imm false)])]
def uQ:PF:=⟨[R (.pair .i64 .i64),R .i64,R .i64],[(.sl 3 .i64)],.uniq,f8⟩
theorem S3:Sd 119 uQ:=sf (F:=C1) (ek ⟨YH,oG,Tw,Yc,trivial⟩) Tryz.func119 λ a=>by kernel_rfl
def DV:=fe [] []
def vw:PF:=⟨[R .bool],[.i64],.uniq,pu⟩
theorem Tx:Sd 179 vw:=sf (F:=DV) (ek trivial) Tryz.func179 λ a=>by kernel_rfl
def C3:=fe [(177,ZQ),(179,vw)] [(3,[.slot 5 .i64 (.imm false),.slot 6 .i64 (.imm false)])]
def uS:PF:=⟨[R (.sl 3 .i64),R (.sl 3 .i64)],[.i64],.uniq,fx⟩
theorem S5:Sd 120 uS:=sf (F:=C3) (ek ⟨Yc,Tx,trivial⟩) Tryz.func120 λ a=>by kernel_rfl
def F7:=fe [(117,dM),(46,K7),(118,uP),(119,uQ),(120,uS),(121,mJ),(32,QP)] []
def eg:PF:=⟨[R (.pair .i64 .i64),(.own,q1),R .i64,R .str,R .bool],[q1,.bool],.own,ql⟩
theorem oU:Sd 58 eg:=sf (F:=F7) (ek ⟨oy,Md,S2,S3,S5,xX,eU,trivial⟩) Tryz.func58 λ a=>by kernel_rfl
def FD:=fe [(160,Z7),(47,Nv),(30,j6),(58,eg)] []
def wz:PF:=⟨[R (.pair .i64 .i64),R q1,R .str],[q1,.bool],.shared,Mv⟩
theorem Uw:Sd 296 wz:=sf (F:=FD) (ek ⟨YG,ak,Zm,oU,trivial⟩) Tryz.func296 λ a=>by kernel_rfl
def Fp:y6:=⟨⟨TYS,[(30,j6),(31,ZA),(145,QF),(174,QH),(160,Z7),(214,mV),(185,mS),(296,wz)],EQS,[],[],false,[(173,pf173)],[],[],false,[]⟩,[]⟩
def d9:PF:=⟨[R (.pair .i64 .i64),R q1,R (.pair .str q4)],[q1,.bool],.shared,NV⟩
theorem oR:Sd 276 d9:=sf (F:=Fp) (LK ⟨Zm,ZW,eH,eJ,YG,Aj,Ag,Uw,trivial⟩ trivial trivial oF trivial trivial) Tryz.func276 λ a=>by kernel_rfl
def Fy:=fe [(30,j6),(31,ZA),(108,QC),(47,Nv),(58,eg)] []
def wv:PF:=⟨[R (.pair .i64 .i64),R q1,R q4],[q1,.bool],.own,fE⟩
theorem Us:Sd 291 wv:=sf (F:=Fy) (ek ⟨Zm,ZW,eE,ak,oU,trivial⟩) Tryz.func291 λ a=>by kernel_rfl
def Fz:y6:=⟨⟨TYS,[(30,j6),(31,ZA),(87,jF),(140,pf140),(174,QH),(46,K7),(47,Nv),(117,dM),(191,dW),(175,Ke),(213,L2)],EQS,[],[],false,[(173,pf173)],[],[],false,[]⟩,[]⟩
def ww:PF:=⟨[R (.pair .i64 .i64),R q1,R .i64,R q4,R .i64],[q1,.bool],.own,fG⟩
theorem Ut:Sd 292 ww:=sf (F:=Fz) (LK ⟨Zm,ZW,jL,Le,eJ,Md,ak,oy,oI,Lg,NJ,trivial⟩ trivial trivial oF trivial trivial) Tryz.func292 λ a=>by kernel_rfl
def Da:=fe [(143,mM),(89,nG)] [(2,[.slot 6 .i64 (.imm false)])]
def dO:PF:=⟨[R (.sl 42 q5),R q5],[(.sl 42 q5),.bool],.uniq,N2⟩
theorem oA:Sd 127 dO:=sf (F:=Da) (ek ⟨Aa,AQ,trivial⟩) Tryz.func127 λ a=>by kernel_rfl
def FA:=fe [(30,j6),(31,ZA),(127,dO)] []
def wx:PF:=⟨[R (.pair .i64 .i64),R q1,R q5],[q1,.bool],.uniq,fF⟩
theorem Uu:Sd 293 wx:=sf (F:=FA) (ek ⟨Zm,ZW,oA,trivial⟩) Tryz.func293 λ a=>by kernel_rfl
def Fj:=fe [(276,d9),(291,wv),(292,ww),(293,wx)] []
def wi:PF:=⟨[R (.pair .i64 .i64),R q1,R q2],[q1,.bool],.shared,gt⟩
theorem Ui:Sd 270 wi:=sf (F:=Fj) (ek ⟨oR,Us,Ut,Uu,trivial⟩) Tryz.func270 λ a=>by kernel_rfl
def Fk:=fe [(105,Nt)] [(3,[.slot 5 (.sl 40 q4) (.own true),.slot 6 .i64 (.imm false)])]
def wj:PF:=⟨[R (.sl 40 q4),R .i64],[(.sl 40 q4)],.uniq,f0⟩
theorem Uj:Sd 271 wj:=sf (F:=Fk) (ek ⟨ai,trivial⟩) Tryz.func271 λ a=>by kernel_rfl
def Fm:=fe [(31,ZA),(238,na),(239,ne),(237,m9)] []
def wl:PF:=⟨[R (.pair .i64 .i64),R q1],[q9],.uniq,aR⟩
theorem Ul:Sd 273 wl:=sf (F:=Fm) (ek ⟨ZW,As,At,Ar,trivial⟩) Tryz.func273 λ a=>by kernel_rfl
def Fl:=fe [(261,d7)] [(3,[.slot 5 (.sl 42 q5) (.own true),.slot 6 .i64 (.imm false)])]
def wk:PF:=⟨[R (.sl 42 q5),R q9],[(.sl 42 q5)],.uniq,aJ⟩
theorem Uk:Sd 272 wk:=sf (F:=Fl) (ek ⟨oO,trivial⟩) Tryz.func272 λ a=>by kernel_rfl
def EZ:=fe [(31,ZA),(92,L4),(30,j6),(270,wi),(271,wj),(273,wl),(272,wk)] []
def QM:PF:=⟨[R (.pair .i64 .i64),R q1,R q2],[q1,.bool],.shared,Kq⟩
theorem eQ:Sd 252 QM:=sf (F:=EZ) (ek ⟨ZW,NL,Zm,Ui,Uj,Ul,Uk,trivial⟩) Tryz.func252 λ a=>by kernel_rfl
def EH:y6:=⟨⟨TYS,[(87,jF),(177,ZQ),(251,d5),(252,QM)],EQS,[],[],true,[],[],[],false,[]⟩,[]⟩
def vV:PF:=⟨[(.own,q3),R q8],[q3,.i64],.own,qn⟩
theorem TY:Sd 233 vV:=sf (F:=EH) (ek ⟨jL,Yc,oM,eQ,trivial⟩) Tryz.func233 λ a=>by kernel_rfl
def CG:=fe [(87,jF),(177,ZQ),(251,d5),(252,QM)] []
def uE:PF:=⟨[R q3,R q8],[q3,.i64],.shared,qo⟩
theorem SR:Sd 233 uE:=sf (F:=CG) (ek ⟨jL,Yc,oM,eQ,trivial⟩) Tryz.func233 λ a=>by kernel_rfl
def FB:=fe [] [(2,[.slot 9 .i64 (.imm false)])]
def nt:PF:=⟨[R ej,R .i64,R .str,R .i64],[.bool],.uniq,bj⟩
theorem AF:Sd 294 nt:=sf (F:=FB) (ek trivial) Tryz.func294 λ a=>by kernel_rfl
def Fn:=fe [(177,ZQ),(294,nt)] [(2,[.slot 11 .i64 (.imm false)])]
def wm:PF:=⟨[R (.sl 3 .i64),R ej,R .i64,R .str,R (.sl 3 .i64)],[.bool],.uniq,N9⟩
theorem Um:Sd 274 wm:=sf (F:=Fn) (ek ⟨Yc,AF,trivial⟩) Tryz.func274 λ a=>by kernel_rfl
def E3:=fe [(92,L4),(160,Z7),(46,K7),(177,ZQ),(274,wm)] []
def ni:PF:=⟨[R (.pair .i64 .i64),R (.sl 3 .i64),R ej,R q2],[.bool],.uniq,aF⟩
theorem Aw:Sd 253 ni:=sf (F:=E3) (ek ⟨NL,YG,Md,Yc,Um,trivial⟩) Tryz.func253 λ a=>by kernel_rfl
def FC:=fe [(188,K6)] [(3,[.slot 3 (.sl 5 .u8) (.own true),.slot 4 .i64 (.imm false)])]
def wy:PF:=⟨[R (.sl 3 .i64)],[(.sl 5 .u8)],.uniq,qk⟩
theorem Uv:Sd 295 wy:=sf (F:=FC) (ek ⟨Mc,trivial⟩) Tryz.func295 λ a=>by kernel_rfl
def Fo:=fe [(92,L4),(188,K6),(249,dZ),(248,nh),(295,wy)] []
def wn:PF:=⟨[R (.pair .i64 .i64),R q2],[(.sl 5 .u8)],.uniq,fJ⟩
theorem Un:Sd 275 wn:=sf (F:=Fo) (ek ⟨NL,Mc,oL,Av,Uv,trivial⟩) Tryz.func275 λ a=>by kernel_rfl
def E4:=fe [(275,wn),(87,jF)] [(2,[.slot 5 .i64 (.imm false),.box 5 q3 (.own false)])]
def QN:PF:=⟨[(.own,q3),R Kj],[q3],.own,bk⟩
theorem eS:Sd 254 QN:=sf (F:=E4) (ek ⟨Un,jL,trivial⟩) Tryz.func254 λ a=>by kernel_rfl
def EI:=fe [(87,jF),(253,ni),(254,QN)] []
def vW:PF:=⟨[(.own,q3),R q8],[q3,.i64],.own,gD⟩
theorem TZ:Sd 234 vW:=sf (F:=EI) (ek ⟨jL,Aw,eS,trivial⟩) Tryz.func234 λ a=>by kernel_rfl
def CH:=fe [(87,jF),(253,ni),(254,QN)] []
def uF:PF:=⟨[R q3,R q8],[q3,.i64],.shared,gE⟩
theorem SS:Sd 234 uF:=sf (F:=CH) (ek ⟨jL,Aw,eS,trivial⟩) Tryz.func234 λ a=>by kernel_rfl
def EJ:=fe [(177,ZQ)] [(3,[.slot 3 (.sl 3 .i64) (.own true),.slot 4 .i64 (.imm false)])]
def dY:PF:=⟨[R q3],[(.sl 3 .i64)],.uniq,NW⟩
theorem oK:Sd 235 dY:=sf (F:=EJ) (ek ⟨Yc,trivial⟩) Tryz.func235 λ a=>by kernel_rfl
def F9:=fe [(30,j6),(31,ZA),(32,QP)] [(5,[.slot 9 .i64 (.imm false),.box 11 q1 (.own true),.box 17 q1 (.own false)])]
def nH:PF:=⟨[R (.pair .i64 .i64),R q1,R q2],[q1,.bool],.own,aV⟩
theorem s9:Sd 9 nH:=sf (F:=F9) (ek ⟨Zm,ZW,eU,trivial⟩) Tryz.func9 λ a=>by kernel_rfl
def E5:=fe [(211,dX),(30,j6),(9,nH),(276,d9)] []
def wb:PF:=⟨[(.own,q3),R .i64],[q3,.i64],.own,gy⟩
theorem Uc:Sd 255 wb:=sf (F:=E5) (ek ⟨oJ,Zm,s9,oR,trivial⟩) Tryz.func255 λ a=>by kernel_rfl
def CJ:=fe [(211,dX),(30,j6),(9,nH),(276,d9)] []
def uH:PF:=⟨[R q3,R .i64],[q3,.i64],.shared,gz⟩
theorem SU:Sd 255 uH:=sf (F:=CJ) (ek ⟨oJ,Zm,s9,oR,trivial⟩) Tryz.func255 λ a=>by kernel_rfl
def FE:=fe [(84,QS),(91,QT)] []
def wA:PF:=⟨[R ZC],[ZC],.uniq,fZ⟩
theorem Ux:Sd 297 wA:=sf (F:=FE) (ek ⟨eX,eY,trivial⟩) Tryz.func297 λ a=>by kernel_rfl
def Fq:=fe [(30,j6),(31,ZA),(297,wA),(85,nF)] []
def nq:PF:=⟨[R (.pair .i64 .i64),R q1],[q1,Kj],.uniq,aS⟩
theorem AC:Sd 277 nq:=sf (F:=Fq) (ek ⟨Zm,ZW,Ux,AP,trivial⟩) Tryz.func277 λ a=>by kernel_rfl
def FF:=fe [(30,j6)] [(3,[.slot 4 .i64 (.imm false),.box 10 q3 (.own true)]),(7,[.slot 5 .i64 (.imm false),.box 10 q3 (.own true)])]
def wB:PF:=⟨[R q3],[q3],.uniq,gu⟩
theorem Uy:Sd 298 wB:=sf (F:=FF) (ek ⟨Zm,trivial⟩) Tryz.func298 λ a=>by kernel_rfl
def FG:=fe [(177,ZQ)] []
def wC:PF:=⟨[R .i64,R q2],[ej],.uniq,fT⟩
theorem Uz:Sd 299 wC:=sf (F:=FG) (ek ⟨Yc,trivial⟩) Tryz.func299 λ a=>by kernel_rfl
def Fr:=fe [(298,wB),(235,dY),(177,ZQ),(299,wC),(294,nt)] [(5,[.slot 8 .i64 (.imm false),.box 11 q3 (.own true)]),(9,[.slot 10 .i64 (.imm false),.box 11 q3 (.own true)])]
def nr:PF:=⟨[R q3,R .i64,R Kj],[q3],.uniq,fI⟩
theorem AD:Sd 278 nr:=sf (F:=Fr) (ek ⟨Uy,oK,Yc,Uz,AF,trivial⟩) Tryz.func278 λ a=>by kernel_rfl
def E6:=fe [(277,nq),(278,nr),(254,QN)] []
def wc:PF:=⟨[(.own,q3),R .i64],[q3,.i64],.own,gL⟩
theorem Ud:Sd 256 wc:=sf (F:=E6) (ek ⟨AC,AD,eS,trivial⟩) Tryz.func256 λ a=>by kernel_rfl
def CK:=fe [(277,nq),(278,nr),(254,QN)] []
def uI:PF:=⟨[R q3,R .i64],[q3,.i64],.shared,gM⟩
theorem SV:Sd 256 uI:=sf (F:=CK) (ek ⟨AC,AD,eS,trivial⟩) Tryz.func256 λ a=>by kernel_rfl
def Ey:=fe [(31,ZA),(30,j6),(58,eg)] []
def mZ:PF:=⟨[R (.pair .i64 .i64),R q1,R .i64,R .str,R .bool],[q1,.bool],.own,aC⟩
theorem An:Sd 22 mZ:=sf (F:=Ey) (ek ⟨ZW,Zm,oU,trivial⟩) Tryz.func22 λ a=>by kernel_rfl
def E7:=fe [(22,mZ)] [(3,[.slot 7 .i64 (.imm false),.box 4 q3 (.own false),.box 5 q3 (.own true)])]
def wd:PF:=⟨[(.own,q3),R .i64],[q3,.i64],.own,gJ⟩
theorem Ue:Sd 257 wd:=sf (F:=E7) (ek ⟨An,trivial⟩) Tryz.func257 λ a=>by kernel_rfl
def CL:=fe [(22,mZ)] [(3,[.slot 7 .i64 (.imm false),.box 4 q3 (.imm false),.box 5 q3 (.own true)])]
def uJ:PF:=⟨[R q3,R .i64],[q3,.i64],.shared,gK⟩
theorem SW:Sd 257 uJ:=sf (F:=CL) (ek ⟨An,trivial⟩) Tryz.func257 λ a=>by kernel_rfl
def E8:=fe [(84,QS),(91,QT),(213,L2),(175,Ke)] []
def nj:PF:=⟨[R ZC,R .i64],[ZC],.uniq,aD⟩
theorem Ax:Sd 258 nj:=sf (F:=E8) (ek ⟨eX,eY,NJ,Lg,trivial⟩) Tryz.func258 λ a=>by kernel_rfl
def D3:=fe [] []
def mR:PF:=⟨[],[q7],.uniq,aM⟩
theorem Af:Sd 184 mR:=sf (F:=D3) (ek trivial) Tryz.func184 λ a=>by kernel_rfl
def FI:=fe [(266,QO),(268,nl),(267,d8),(88,L3)] []
def wD:PF:=⟨[R (.pair .i64 .i64),R (.sl 5 .u8)],[q7,.bool],.uniq,fS⟩
theorem UA:Sd 300 wD:=sf (F:=FI) (ek ⟨eT,Az,oQ,NK,trivial⟩) Tryz.func300 λ a=>by kernel_rfl
def Fs:=fe [(184,mR),(289,ec),(300,wD)] [(3,[.slot 7 .i64 (.imm false),.box 2 q7 (.own true),.box 4 q7 (.own true)])]
def wo:PF:=⟨[R (.pair .i64 .i64),R (.sl 5 .u8)],[q7,.i64],.uniq,fH⟩
theorem Uo:Sd 279 wo:=sf (F:=Fs) (ek ⟨Af,oS,UA,trivial⟩) Tryz.func279 λ a=>by kernel_rfl
def E9:=fe [(31,ZA),(30,j6),(279,wo),(175,Ke),(213,L2)] []
def nk:PF:=⟨[R (.pair .i64 .i64),R q1],[q1],.uniq,aL⟩
theorem Ay:Sd 259 nk:=sf (F:=E9) (ek ⟨ZW,Zm,Uo,Lg,NJ,trivial⟩) Tryz.func259 λ a=>by kernel_rfl
def Dz:=fe [(30,j6),(31,ZA),(46,K7),(47,Nv),(32,QP)] []
def dR:PF:=⟨[R (.pair .i64 .i64),R q1],[q1,.bool],.own,Ln⟩
theorem oD:Sd 15 dR:=sf (F:=Dz) (ek ⟨Zm,ZW,Md,ak,eU,trivial⟩) Tryz.func15 λ a=>by kernel_rfl
def EK:=fe [(255,wb),(256,wc),(257,wd),(30,j6),(258,nj),(259,nk),(15,dR),(252,QM)] []
def vX:PF:=⟨[(.own,q3),R q8],[q3,.i64],.own,gG⟩
theorem T1:Sd 236 vX:=sf (F:=EK) (ek ⟨Uc,Ud,Ue,Zm,Ax,Ay,oD,eQ,trivial⟩) Tryz.func236 λ a=>by kernel_rfl
def CI:=fe [(255,uH),(256,uI),(257,uJ),(30,j6),(258,nj),(259,nk),(15,dR),(252,QM)] []
def uG:PF:=⟨[R q3,R q8],[q3,.i64],.shared,gH⟩
theorem ST:Sd 236 uG:=sf (F:=CI) (ek ⟨SU,SV,SW,Zm,Ax,Ay,oD,eQ,trivial⟩) Tryz.func236 λ a=>by kernel_rfl
def Eo:=fe [(233,vV),(234,vW),(235,dY),(177,ZQ),(236,vX)] []
def vN:PF:=⟨[(.own,q3),R q8],[q3,.i64],.own,gF⟩
theorem TQ:Sd 210 vN:=sf (F:=Eo) (ek ⟨TY,TZ,oK,Yc,T1,trivial⟩) Tryz.func210 λ a=>by kernel_rfl
def CF:=fe [(233,uE),(234,uF),(235,dY),(177,ZQ),(236,uG)] []
def uD:PF:=⟨[R q3,R q8],[q3,.i64],.shared,bn⟩
theorem SQ:Sd 210 uD:=sf (F:=CF) (ek ⟨SR,SS,oK,Yc,ST,trivial⟩) Tryz.func210 λ a=>by kernel_rfl
def DZ:y6:=⟨⟨TYS,[(210,vN)],EQS,[],[],false,[],[],[(210,uD)],false,[]⟩,[]⟩
def vA:PF:=⟨[(.own,q3),R q8],[q3],.own,gI⟩
theorem TC:Sd 182 vA:=sf (F:=DZ) (LK ⟨TQ,trivial⟩ trivial trivial trivial trivial ⟨SQ,trivial⟩) Tryz.func182 λ a=>by kernel_rfl
def C5:=fe [(181,vz),(52,yx),(183,vB),(182,vA)] [(4,[.slot 5 .i64 (.imm false),.keep 0 q6 [2,0,0],.box 7 q3 (.own false)])]
def uT:PF:=⟨[(.ptr,q6)],[q3],.own,gB⟩
theorem S6:Sd 122 uT:=sf (F:=C5) (ek ⟨TB,yz,TE,TC,trivial⟩) Tryz.func122 λ a=>by kernel_rfl
def F8:=fe [(122,uT),(52,yx)] []
def wP:PF:=⟨[(.ptr,q6)],[(.pair .i64 .i64),q1],.shared,go⟩
theorem UL:Sd 61 wP:=sf (F:=F8) (ek ⟨S6,yz,trivial⟩) Tryz.func61 λ a=>by kernel_rfl
def F5:=fe [(52,yx),(110,K5),(111,QD)] [(4,[.slot 3 .str (.imm false),.slot 4 .i64 (.imm false),.slot 5 .i64 (.imm false),.keep 0 q6 [2,0,0]]),(9,[.slot 6 (.sl 42 q5) (.own true),.slot 7 .i64 (.imm false),.keep 0 q6 [2,0,0]])]
def Nw:PF:=⟨[(.ptr,q6)],[.str],.uniq,Lv⟩
theorem am:Sd 53 Nw:=sf (F:=F5) (ek ⟨yz,Mb,eF,trivial⟩) Tryz.func53 λ a=>by kernel_rfl
def Df:y6:=⟨⟨TYS,[(160,Z7),(51,pf51),(52,yx)],EQS,[],[],true,[],[],[],false,[]⟩,[(5,[.slot 8 .i64 (.imm false),.box 4 q4 (.own true)])]⟩
def dQ:PF:=⟨[(.ptr,q6),R (.pair .i64 .i64),R .str],[q4],.uniq,qq⟩
theorem oC:Sd 131 dQ:=sf (F:=Df) (ek ⟨YG,Jc,yz,trivial⟩) Tryz.func131 λ a=>by kernel_rfl
def De:=fe [(53,Nw),(131,dQ),(52,yx),(110,K5),(189,dV)] [(4,[.slot 6 (.sl 42 q5) (.own true),.slot 7 .i64 (.imm false),.keep 0 q6 [2,0,0]])]
def mK:PF:=⟨[(.ptr,q6),R (.pair .i64 .i64)],[(.pair .str q4)],.uniq,bu⟩
theorem xY:Sd 130 mK:=sf (F:=De) (ek ⟨am,oC,yz,Mb,oH,trivial⟩) Tryz.func130 λ a=>by kernel_rfl
def C6:=fe [(184,mR),(52,yx),(130,mK),(174,QH),(51,pf51),(185,mS)] [(3,[.slot 6 .i64 (.imm false),.keep 0 q6 [2,0,0],.box 5 q7 (.own true)])]
def uU:PF:=⟨[(.ptr,q6),R (.pair .i64 .i64)],[q7],.uniq,ge⟩
theorem S7:Sd 123 uU:=sf (F:=C6) (ek ⟨Af,yz,xY,eJ,Jc,Ag,trivial⟩) Tryz.func123 λ a=>by kernel_rfl
def Et:=fe [(52,yx)] []
def vO:PF:=⟨[(.ptr,q6),R (.sl 9 .str)],[.str],.uniq,gx⟩
theorem TS:Sd 215 vO:=sf (F:=Et) (ek ⟨yz,trivial⟩) Tryz.func215 λ a=>by kernel_rfl
def D5:=fe [(52,yx),(215,vO)] []
def vC:PF:=⟨[(.ptr,q6),R .str],[.str],.uniq,gN⟩
theorem TF:Sd 186 vC:=sf (F:=D5) (ek ⟨yz,TS,trivial⟩) Tryz.func186 λ a=>by kernel_rfl
def C7:=fe [(51,pf51),(52,yx),(161,QG),(53,Nw),(186,vC)] [(4,[.slot 3 .str (.imm false),.slot 4 .i64 (.imm false),.keep 0 q6 [2,0,0]])]
def dN:PF:=⟨[(.ptr,q6)],[.str],.uniq,qp⟩
theorem oz:Sd 124 dN:=sf (F:=C7) (ek ⟨Jc,yz,eI,am,TF,trivial⟩) Tryz.func124 λ a=>by kernel_rfl
def Dg:=fe [(52,yx),(187,QI),(51,pf51),(62,YC)] [(3,[.slot 5 (.sl 3 .i64) (.own true),.slot 6 .i64 (.imm false),.keep 0 q6 [2,0,0]])]
def mL:PF:=⟨[(.ptr,q6),R .i64],[(.sl 3 .i64)],.uniq,bq⟩
theorem xZ:Sd 132 mL:=sf (F:=Dg) (ek ⟨yz,eK,Jc,Jd,trivial⟩) Tryz.func132 λ a=>by kernel_rfl
def C8:=fe [(53,Nw),(131,dQ),(52,yx),(132,mL),(124,dN)] []
def uV:PF:=⟨[(.ptr,q6),R (.pair .i64 .i64)],[q4],.uniq,gQ⟩
theorem S8:Sd 125 uV:=sf (F:=C8) (ek ⟨am,oC,yz,xZ,oz,trivial⟩) Tryz.func125 λ a=>by kernel_rfl
def Gb:=fe [(123,uU),(52,yx),(62,YC),(124,dN),(125,uV)] []
def wQ:PF:=⟨[(.ptr,q6),R (.pair .i64 .i64)],[q7],.uniq,gd⟩
theorem UM:Sd 63 wQ:=sf (F:=Gb) (ek ⟨S7,yz,Jd,oz,S8,trivial⟩) Tryz.func63 λ a=>by kernel_rfl
def C9:=fe [(52,yx),(110,K5),(127,dO)] [(3,[.slot 3 (.sl 42 q5) (.own true),.slot 4 .i64 (.imm false),.keep 0 q6 [2,0,0]])]
def uW:PF:=⟨[(.ptr,q6)],[(.sl 42 q5)],.uniq,gP⟩
theorem S9:Sd 126 uW:=sf (F:=C9) (ek ⟨yz,Mb,oA,trivial⟩) Tryz.func126 λ a=>by kernel_rfl
def Gh:=fe [(110,K5),(52,yx),(62,YC)] []
def nA:PF:=⟨[(.ptr,q6)],[q5],.uniq,bo⟩
theorem AK:Sd 69 nA:=sf (F:=Gh) (ek ⟨Mb,yz,Jd,trivial⟩) Tryz.func69 λ a=>by kernel_rfl
def Gc:=fe [(126,uW),(52,yx),(69,nA),(127,dO)] [(7,[.slot 3 (.sl 42 q5) (.own true),.slot 4 .i64 (.imm false)]),(10,[.slot 3 (.sl 42 q5) (.own true),.slot 5 .i64 (.imm false)])]
def wR:PF:=⟨[(.ptr,q6)],[(.sl 42 q5)],.uniq,gO⟩
theorem UN:Sd 64 wR:=sf (F:=Gc) (ek ⟨S9,yz,AK,oA,trivial⟩) Tryz.func64 λ a=>by kernel_rfl
def Db:=fe [(53,Nw),(160,Z7),(51,pf51),(52,yx),(175,Ke),(187,QI)] [(6,[.slot 7 .i64 (.imm false),.keep 0 q6 [2,0,0],.box 4 q4 (.own true)])]
def dP:PF:=⟨[(.ptr,q6),R (.pair .i64 .i64)],[q4],.uniq,qh⟩
theorem oB:Sd 128 dP:=sf (F:=Db) (ek ⟨am,YG,Jc,yz,Lg,eK,trivial⟩) Tryz.func128 λ a=>by kernel_rfl
def Gg:=fe [(128,dP),(52,yx),(62,YC),(132,mL),(124,dN)] []
def nz:PF:=⟨[(.ptr,q6),R (.pair .i64 .i64)],[q4],.uniq,bd⟩
theorem AJ:Sd 68 nz:=sf (F:=Gg) (ek ⟨oB,yz,Jd,xZ,oz,trivial⟩) Tryz.func68 λ a=>by kernel_rfl
def Gd:=fe [(52,yx),(128,dP),(47,Nv),(51,pf51),(68,nz)] [(3,[.slot 5 (.sl 40 q4) (.own true),.slot 6 .i64 (.imm false),.keep 0 q6 [2,0,0]])]
def wS:PF:=⟨[(.ptr,q6),R (.pair .i64 .i64)],[(.sl 40 q4)],.uniq,ga⟩
theorem UO:Sd 65 wS:=sf (F:=Gd) (ek ⟨yz,oB,ak,Jc,AJ,trivial⟩) Tryz.func65 λ a=>by kernel_rfl
def Dc:=fe [(52,yx),(62,YC),(188,K6),(51,pf51)] [(3,[.slot 3 (.sl 5 .u8) (.own true),.slot 4 .i64 (.imm false),.keep 0 q6 [2,0,0]])]
def uX:PF:=⟨[(.ptr,q6)],[(.sl 5 .u8)],.uniq,gv⟩
theorem Ta:Sd 129 uX:=sf (F:=Dc) (ek ⟨yz,Jd,Mc,Jc,trivial⟩) Tryz.func129 λ a=>by kernel_rfl
def Ge:=fe [(129,uX),(52,yx),(62,YC)] []
def wT:PF:=⟨[(.ptr,q6)],[ZC],.uniq,gh⟩
theorem UP:Sd 66 wT:=sf (F:=Ge) (ek ⟨Ta,yz,Jd,trivial⟩) Tryz.func66 λ a=>by kernel_rfl
def Gf:=fe [(52,yx),(130,mK),(128,dP),(111,QD),(53,Nw),(131,dQ),(110,K5)] []
def wU:PF:=⟨[(.ptr,q6),R (.pair .i64 .i64)],[q2],.uniq,gj⟩
theorem UQ:Sd 67 wU:=sf (F:=Gf) (ek ⟨yz,xY,oB,eF,am,oC,Mb,trivial⟩) Tryz.func67 λ a=>by kernel_rfl
def Fa:=fe [(67,wU),(52,yx),(62,YC),(68,nz),(69,nA)] []
def we:PF:=⟨[(.ptr,q6),R (.pair .i64 .i64)],[q2],.uniq,gi⟩
theorem Uf:Sd 26 we:=sf (F:=Fa) (ek ⟨UQ,yz,Jd,AJ,AK,trivial⟩) Tryz.func26 λ a=>by kernel_rfl
def kh:y6:=⟨⟨TYS,[(61,wP),(52,yx),(62,YC),(63,wQ),(64,wR),(65,wS),(66,wT),(26,we)],EQS,[],[],false,[],[],[],false,[(61,52)]⟩,[]⟩
def pf25:PF:=⟨[(.ptr,q6)],[(.pair .i64 .i64),q1],.shared,bg⟩
theorem Ua:Sd 25 pf25:=Bo (F:=kh) (ek ⟨UL,yz,Jd,UM,UN,UO,UP,Uf,trivial⟩) Tryz.func25 (by kernel_rfl) (λ a o h=>(show qN kh Tryz.f25 pf25.params pf25.rets pf25.rk a=pf25.fn a by kernel_rfl).trans h) (.inr ⟨by kernel_rfl,λ x hx=>by simp only[kh,ajG] at hx; rw[hx]; rfl⟩)
def FT:=fe [] []
def ed:PF:=⟨[R (.sl 3 .i64)],[(.sl 3 .i64)],.uniq,K1⟩
theorem oT:Sd 41 ed:=sf (F:=FT) (ek trivial) Tryz.func41 λ a=>by kernel_rfl
def CX:=fe [(41,ed)] []
def dK:PF:=⟨[R q4],[q4],.uniq,Nl⟩
theorem ou:Sd 112 dK:=sf (F:=CX) (ek ⟨oT,trivial⟩) Tryz.func112 λ a=>by kernel_rfl
def Gi:=fe [(112,dK)] []
def wV:PF:=⟨[R q7],[q7],.uniq,cN⟩
theorem UR:Sd 70 wV:=sf (F:=Gi) (ek ⟨ou,trivial⟩) Tryz.func70 λ a=>by kernel_rfl
def Gj:=fe [] []
def wW:PF:=⟨[R (.sl 42 q5)],[(.sl 42 q5)],.uniq,cO⟩
theorem US:Sd 71 wW:=sf (F:=Gj) (ek trivial) Tryz.func71 λ a=>by kernel_rfl
def F0:=fe [(41,ed)] []
def QQ:PF:=⟨[R q4],[q4],.uniq,JB⟩
theorem eV:Sd 49 QQ:=sf (F:=F0) (ek ⟨oT,trivial⟩) Tryz.func49 λ a=>by kernel_rfl
def Gk:=fe [(49,QQ)] [(3,[.slot 3 (.sl 40 q4) (.own true),.slot 8 .i64 (.imm false)])]
def nB:PF:=⟨[R (.sl 40 q4)],[(.sl 40 q4)],.uniq,Yy⟩
theorem AL:Sd 72 nB:=sf (F:=Gk) (ek ⟨eV,trivial⟩) Tryz.func72 λ a=>by kernel_rfl
def Gl:=fe [] []
def wX:PF:=⟨[R ZC],[ZC],.uniq,cL⟩
theorem UT:Sd 73 wX:=sf (F:=Gl) (ek trivial) Tryz.func73 λ a=>by kernel_rfl
def Dm:=fe [(112,dK)] []
def u7:PF:=⟨[R (.pair .str q4)],[(.pair .str q4)],.uniq,cK⟩
theorem Tf:Sd 138 u7:=sf (F:=Dm) (ek ⟨ou,trivial⟩) Tryz.func138 λ a=>by kernel_rfl
def Gu:=fe [(138,u7),(49,QQ),(112,dK)] []
def nD:PF:=⟨[R q2],[q2],.uniq,Qi⟩
theorem AN:Sd 81 nD:=sf (F:=Gu) (ek ⟨Tf,eV,ou,trivial⟩) Tryz.func81 λ a=>by kernel_rfl
def Gm:=fe [(81,nD)] [(3,[.slot 3 Kj (.own true),.slot 8 .i64 (.imm false)])]
def wY:PF:=⟨[R Kj],[Kj],.uniq,cM⟩
theorem UU:Sd 74 wY:=sf (F:=Gm) (ek ⟨AN,trivial⟩) Tryz.func74 λ a=>by kernel_rfl
def Fi:=fe [(70,wV),(71,wW),(72,nB),(73,wX),(74,wY)] []
def np:PF:=⟨[R q1],[q1],.uniq,JC⟩
theorem AB:Sd 27 np:=sf (F:=Fi) (ek ⟨UR,US,AL,UT,UU,trivial⟩) Tryz.func27 λ a=>by kernel_rfl
def Gn:=fe [] []
def Kf:PF:=⟨[R .i64,R .i64,R .i64],[.bool],.uniq,jz⟩
theorem Lh:Sd 75 Kf:=sf (F:=Gn) (ek trivial) Tryz.func75 λ a=>by kernel_rfl
def FZ:=fe [(75,Kf)] []
def K8:PF:=⟨[R (.pair .i64 .i64)],[.bool],.uniq,JA⟩
theorem Me:Sd 48 K8:=sf (F:=FZ) (ek ⟨Lh,trivial⟩) Tryz.func48 λ a=>by kernel_rfl
def DL:=fe [] []
def vo:PF:=⟨[],[q4],.uniq,lr⟩
theorem Tq:Sd 163 vo:=sf (F:=DL) (ek trivial) Tryz.func163 λ a=>by kernel_rfl
def F1:=fe [] [(4,[.slot 13 .i64 (.imm false)])]
def ny:PF:=⟨[R (.sl 3 .i64),R (.sl 3 .i64)],[.bool],.uniq,az⟩
theorem AI:Sd 50 ny:=sf (F:=F1) (ek trivial) Tryz.func50 λ a=>by kernel_rfl
def D9:=fe [(50,ny)] []
def QJ:PF:=⟨[R q4,R q4],[.bool],.uniq,LT⟩
theorem eN:Sd 19 QJ:=sf (F:=D9) (ek ⟨AI,trivial⟩) Tryz.func19 λ a=>by kernel_rfl
def Eu:=fe [(243,v6)] []
def mW:PF:=⟨[R .str,R .u8],[(.sl 9 .str)],.uniq,Qb⟩
theorem Ak:Sd 216 mW:=sf (F:=Eu) (ek ⟨T7,trivial⟩) Tryz.func216 λ a=>by kernel_rfl
def ER:=fe [(264,wg)] []
def ng:PF:=⟨[R .i64],[.str],.uniq,J2⟩
theorem Au:Sd 245 ng:=sf (F:=ER) (ek ⟨Ug,trivial⟩) Tryz.func245 λ a=>by kernel_rfl
def Ew:=fe [(245,ng)] [(5,[.slot 4 .i64 (.imm false),.slot 5 .i64 (.imm false)])]
def mY:PF:=⟨[R .str],[.i64,.bool],.uniq,qW⟩
theorem Am:Sd 218 mY:=sf (F:=Ew) (ek ⟨Au,trivial⟩) Tryz.func218 λ a=>by kernel_rfl
def Di:=fe [(75,Kf)] []
def QE:PF:=⟨[R q5],[.bool],.uniq,K0⟩
theorem eG:Sd 134 QE:=sf (F:=Di) (ek ⟨Lh,trivial⟩) Tryz.func134 λ a=>by kernel_rfl
def Fd:=fe [(134,QE),(245,ng)] []
def wh:PF:=⟨[R q5],[.str],.uniq,Qg⟩
theorem Uh:Sd 265 wh:=sf (F:=Fd) (ek ⟨eG,Au,trivial⟩) Tryz.func265 λ a=>by kernel_rfl
def ES:=fe [(217,mX),(218,mY),(134,QE),(265,wh)] [(6,[.slot 40 .i64 (.imm false),.row 1 3 .i64 (.own true)])]
def v7:PF:=⟨[R .str],[q5,.bool],.uniq,Qe⟩
theorem T8:Sd 246 v7:=sf (F:=ES) (ek ⟨Al,Am,eG,Uh,trivial⟩) Tryz.func246 λ a=>by kernel_rfl
def Ex:=fe [(216,mW),(246,v7)] [(5,[.slot 4 (.sl 42 q5) (.own true),.slot 14 .i64 (.imm false)])]
def vP:PF:=⟨[R .str],[(.sl 42 q5),.bool],.uniq,cH⟩
theorem TT:Sd 219 vP:=sf (F:=Ex) (ek ⟨Ak,T8,trivial⟩) Tryz.func219 λ a=>by kernel_rfl
def Ea:=fe [(216,mW),(217,mX),(218,mY),(219,vP),(75,Kf)] [(9,[.slot 5 em (.own true),.slot 6 .i64 (.imm false),.slot 33 .i64 (.imm false)])]
def mT:PF:=⟨[R .str],[em,.bool],.uniq,Qc⟩
theorem Ah:Sd 190 mT:=sf (F:=Ea) (ek ⟨Ak,Al,Am,TT,Lh,trivial⟩) Tryz.func190 λ a=>by kernel_rfl
def Dh:=fe [(190,mT)] []
def Nu:PF:=⟨[R .str],[.bool],.uniq,KZ⟩
theorem aj:Sd 133 Nu:=sf (F:=Dh) (ek ⟨Ah,trivial⟩) Tryz.func133 λ a=>by kernel_rfl
def DA:=fe [(190,mT)] []
def mO:PF:=⟨[R .str],[.i64],.uniq,Qh⟩
theorem Ac:Sd 151 mO:=sf (F:=DA) (ek ⟨Ah,trivial⟩) Tryz.func151 λ a=>by kernel_rfl
def DB:=fe [] [(2,[.slot 9 .i64 (.imm false)])]
def mP:PF:=⟨[R .i64,R (.sl 3 .i64)],[.bool],.uniq,Nk⟩
theorem Ad:Sd 152 mP:=sf (F:=DB) (ek trivial) Tryz.func152 λ a=>by kernel_rfl
def Eh:=fe [(48,K8)] []
def vF:PF:=⟨[R (.pair .i64 .i64)],[.i64],.uniq,lq⟩
theorem TI:Sd 199 vF:=sf (F:=Eh) (ek ⟨Me,trivial⟩) Tryz.func199 λ a=>by kernel_rfl
def DM:=fe [(48,K8),(199,vF)] []
def vp:PF:=⟨[R (.pair .i64 .i64)],[.i64],.uniq,cB⟩
theorem Tr:Sd 164 vp:=sf (F:=DM) (ek ⟨Me,TI,trivial⟩) Tryz.func164 λ a=>by kernel_rfl
def CY:=fe [(48,K8),(163,vo),(19,QJ),(133,Nu),(151,mO),(152,mP),(164,vp)] []
def dL:PF:=⟨[R (.pair .i64 .i64),R q4],[.bool],.uniq,Nj⟩
theorem ox:Sd 113 dL:=sf (F:=CY) (ek ⟨Me,Tq,eN,aj,Ac,Ad,Tr,trivial⟩) Tryz.func113 λ a=>by kernel_rfl
def Gp:=fe [(75,Kf),(113,dL),(133,Nu)] []
def wZ:PF:=⟨[R (.pair .i64 .i64),R q7],[.bool],.uniq,cC⟩
theorem UV:Sd 76 wZ:=sf (F:=Gp) (ek ⟨Lh,ox,aj,trivial⟩) Tryz.func76 λ a=>by kernel_rfl
def Dj:=fe [] []
def uZ:PF:=⟨[R q5,R q5],[.bool],.uniq,cJ⟩
theorem Tc:Sd 135 uZ:=sf (F:=Dj) (ek trivial) Tryz.func135 λ a=>by kernel_rfl
def Gq:=fe [(134,QE),(135,uZ)] [(2,[.slot 7 .i64 (.imm false)])]
def w6:PF:=⟨[R (.sl 42 q5)],[.bool],.uniq,cz⟩
theorem UW:Sd 77 w6:=sf (F:=Gq) (ek ⟨eG,Tc,trivial⟩) Tryz.func77 λ a=>by kernel_rfl
def CM:=fe [(48,K8),(75,Kf),(133,Nu),(151,mO),(152,mP)] []
def dJ:PF:=⟨[R (.pair .i64 .i64),R q4],[.bool],.uniq,Ni⟩
theorem ot:Sd 101 dJ:=sf (F:=CM) (ek ⟨Me,Lh,aj,Ac,Ad,trivial⟩) Tryz.func101 λ a=>by kernel_rfl
def Ee:=fe [] []
def vD:PF:=⟨[R .i64],[.bool],.uniq,bW⟩
theorem TG:Sd 195 vD:=sf (F:=Ee) (ek trivial) Tryz.func195 λ a=>by kernel_rfl
def DC:=fe [(195,vD)] []
def vi:PF:=⟨[R .i64,R .i64],[.i64],.uniq,kL⟩
theorem Tl:Sd 153 vi:=sf (F:=DC) (ek ⟨TG,trivial⟩) Tryz.func153 λ a=>by kernel_rfl
def Ef:=fe [] []
def vE:PF:=⟨[R .str],[.bool],.uniq,bX⟩
theorem TH:Sd 196 vE:=sf (F:=Ef) (ek trivial) Tryz.func196 λ a=>by kernel_rfl
def DD:=fe [(196,vE)] []
def vj:PF:=⟨[R .str,R .str],[.i64],.uniq,kM⟩
theorem Tm:Sd 154 vj:=sf (F:=DD) (ek ⟨TH,trivial⟩) Tryz.func154 λ a=>by kernel_rfl
def CN:=fe [(153,vi),(154,vj)] []
def mH:PF:=⟨[R q4,R q4],[.i64],.uniq,LU⟩
theorem xV:Sd 102 mH:=sf (F:=CN) (ek ⟨Tl,Tm,trivial⟩) Tryz.func102 λ a=>by kernel_rfl
def Gr:=fe [(101,dJ),(102,mH)] [(2,[.slot 9 .i64 (.imm false)])]
def nC:PF:=⟨[R (.pair .i64 .i64),R (.sl 40 q4)],[.bool],.uniq,Y1⟩
theorem AM:Sd 78 nC:=sf (F:=Gr) (ek ⟨ot,xV,trivial⟩) Tryz.func78 λ a=>by kernel_rfl
def Gs:=fe [(75,Kf)] []
def w7:PF:=⟨[R ZC],[.bool],.uniq,cu⟩
theorem UX:Sd 79 w7:=sf (F:=Gs) (ek ⟨Lh,trivial⟩) Tryz.func79 λ a=>by kernel_rfl
def Dk:=fe [] []
def u5:PF:=⟨[R q2],[q2],.shared,cP⟩
theorem Td:Sd 136 u5:=sf (F:=Dk) (ek trivial) Tryz.func136 λ a=>by kernel_rfl
def FQ:=fe [(19,QJ)] []
def wH:PF:=⟨[R (.pair .str q4),R (.pair .str q4)],[.bool],.uniq,ct⟩
theorem UE:Sd 38 wH:=sf (F:=FQ) (ek ⟨eN,trivial⟩) Tryz.func38 λ a=>by kernel_rfl
def FR:=fe [(50,ny)] []
def wI:PF:=⟨[R q4,R q4],[.bool],.uniq,cQ⟩
theorem UF:Sd 39 wI:=sf (F:=FR) (ek ⟨AI,trivial⟩) Tryz.func39 λ a=>by kernel_rfl
def CU:=fe [(38,wH),(39,wI),(19,QJ)] []
def uO:PF:=⟨[R q2,R q2],[.bool],.uniq,cx⟩
theorem S1:Sd 11 uO:=sf (F:=CU) (ek ⟨UE,UF,eN,trivial⟩) Tryz.func11 λ a=>by kernel_rfl
def DN:=fe [(133,Nu),(202,vG)] []
def vq:PF:=⟨[R .str],[.str],.uniq,cI⟩
theorem Ts:Sd 169 vq:=sf (F:=DN) (ek ⟨aj,TJ,trivial⟩) Tryz.func169 λ a=>by kernel_rfl
def Dl:=fe [(113,dL),(133,Nu),(169,vq)] []
def u6:PF:=⟨[R (.pair .i64 .i64),R (.pair .str q4)],[.bool],.uniq,cr⟩
theorem Te:Sd 137 u6:=sf (F:=Dl) (ek ⟨ox,aj,Ts,trivial⟩) Tryz.func137 λ a=>by kernel_rfl
def Gt:=fe [(48,K8),(136,u5),(11,uO),(137,u6),(101,dJ),(75,Kf),(113,dL),(134,QE)] []
def w8:PF:=⟨[R (.pair .i64 .i64),R q2],[.bool],.uniq,cw⟩
theorem UY:Sd 80 w8:=sf (F:=Gt) (ek ⟨Me,Td,S1,Te,ot,Lh,ox,eG,trivial⟩) Tryz.func80 λ a=>by kernel_rfl
def Ft:=fe [(48,K8),(75,Kf),(76,wZ),(77,w6),(78,nC),(79,w7),(80,w8)] [(4,[.slot 66 .i64 (.imm false)])]
def ns:PF:=⟨[R (.pair .i64 .i64),R q1],[.bool],.uniq,qY⟩
theorem AE:Sd 28 ns:=sf (F:=Ft) (ek ⟨Me,Lh,UV,UW,AM,UX,UY,trivial⟩) Tryz.func28 λ a=>by kernel_rfl
def Fw:=fe [(27,np),(81,nD),(28,ns)] []
def wt:PF:=⟨[R (.pair .i64 .i64),R q1,R .i64,R q2],[q1,.bool],.uniq,Qd⟩
theorem Uq:Sd 29 wt:=sf (F:=Fw) (ek ⟨AB,AN,AE,trivial⟩) Tryz.func29 λ a=>by kernel_rfl
def FM:=fe [] [(4,[.slot 5 .i64 (.imm false)])]
def wE:PF:=⟨[R (.sl 42 q5),R (.sl 42 q5)],[.bool],.uniq,di⟩
theorem UB:Sd 34 wE:=sf (F:=FM) (ek trivial) Tryz.func34 λ a=>by kernel_rfl
def Dx:=fe [] [(4,[.slot 5 .i64 (.imm false)])]
def ve:PF:=⟨[R (.sl 3 .i64),R (.sl 3 .i64)],[.bool],.uniq,db⟩
theorem Tj:Sd 148 ve:=sf (F:=Dx) (ek trivial) Tryz.func148 λ a=>by kernel_rfl
def GI:=fe [(148,ve)] []
def w9:PF:=⟨[R q4,R q4],[.bool],.uniq,dg⟩
theorem UZ:Sd 95 w9:=sf (F:=GI) (ek ⟨Tj,trivial⟩) Tryz.func95 λ a=>by kernel_rfl
def FN:=fe [(95,w9)] [(4,[.slot 5 .i64 (.imm false)])]
def wF:PF:=⟨[R (.sl 40 q4),R (.sl 40 q4)],[.bool],.uniq,dh⟩
theorem UC:Sd 35 wF:=sf (F:=FN) (ek ⟨UZ,trivial⟩) Tryz.func35 λ a=>by kernel_rfl
def FO:=fe [] []
def wG:PF:=⟨[R ZC,R ZC],[.bool],.uniq,da⟩
theorem UD:Sd 36 wG:=sf (F:=FO) (ek trivial) Tryz.func36 λ a=>by kernel_rfl
def CE:=fe [(33,nu),(34,wE),(35,wF),(36,wG),(37,nw)] [(4,[.slot 5 .i64 (.imm false)])]
def uC:PF:=⟨[R q1,R q1],[.bool],.uniq,Qq⟩
theorem SP:Sd 10 uC:=sf (F:=CE) (ek ⟨AG,UB,UC,UD,AH,trivial⟩) Tryz.func10 λ a=>by kernel_rfl
def Dy:=fe [] [(2,[.slot 8 .i64 (.imm false)])]
def vg:PF:=⟨[R (.sl 3 .i64),R .i64],[.i64],.uniq,pa⟩
theorem Tk:Sd 149 vg:=sf (F:=Dy) (ek trivial) Tryz.func149 λ a=>by kernel_rfl
def GL:=fe [(149,vg)] []
def xd:PF:=⟨[R (.sl 3 .i64),R .i64],[.bool],.uniq,fi⟩
theorem U2:Sd 98 xd:=sf (F:=GL) (ek ⟨Tk,trivial⟩) Tryz.func98 λ a=>by kernel_rfl
def FS:=fe [(98,xd)] []
def wJ:PF:=⟨[R (.sl 3 .i64),R .i64],[.bool],.uniq,cD⟩
theorem UG:Sd 40 wJ:=sf (F:=FS) (ek ⟨U2,trivial⟩) Tryz.func40 λ a=>by kernel_rfl
def DH:=fe [(48,K8)] []
def mQ:PF:=⟨[R (.pair .i64 .i64),R .i64],[.i64],.uniq,qZ⟩
theorem Ae:Sd 16 mQ:=sf (F:=DH) (ek ⟨Me,trivial⟩) Tryz.func16 λ a=>by kernel_rfl
def DW:=fe [(49,QQ)] [(2,[.slot 11 .i64 (.imm false),.box 1 q4 (.own true)])]
def vx:PF:=⟨[R (.sl 40 q4),R .i64,R .str],[q4],.uniq,cG⟩
theorem Tz:Sd 18 vx:=sf (F:=DW) (ek ⟨eV,trivial⟩) Tryz.func18 λ a=>by kernel_rfl
def F20:y6:=⟨⟨TYS,[(25,pf25),(51,pf51),(52,yx),(53,Nw)],EQS,[(24,vY)],[],false,[],[],[],false,[]⟩,[]⟩
def ab8:PF:=⟨[R (.sl 5 .u8)],[(.pair .i64 .i64),q1,.i64,.str,.bool],.shared,aaD⟩
theorem s20:Sd 20 ab8:=sf (F:=F20) (LK ⟨Ua,Jc,yz,am,trivial⟩ ⟨T3,trivial⟩ trivial trivial trivial trivial) Tryz.func20 λ a=>by kernel_rfl
def F54:=fe [(112,dK),(113,dL)] []
def abg:PF:=⟨[R (.pair .i64 .i64),R q4],[q4,.bool],.uniq,aaf⟩
theorem s54:Sd 54 abg:=sf (F:=F54) (ek ⟨ou,ox,trivial⟩) Tryz.func54 λ a=>by kernel_rfl
def abC:=fe [(112,dK)] []
def ab5:PF:=⟨[R q4,R q4],[q4],.uniq,aak⟩
theorem acK:Sd 168 ab5:=sf (F:=abC) (ek ⟨ou,trivial⟩) Tryz.func168 λ a=>by kernel_rfl
def abD:=fe [(190,mT),(169,vq)] []
def ab6:PF:=⟨[R .str],[.str,.bool],.uniq,aaq⟩
theorem acM:Sd 170 ab6:=sf (F:=abD) (ek ⟨Ah,Ts,trivial⟩) Tryz.func170 λ a=>by kernel_rfl
def abR:=fe [] []
def abf:PF:=⟨[R .str,R .str],[.bool],.uniq,aaE⟩
theorem acV:Sd 229 abf:=sf (F:=abR) (ek trivial) Tryz.func229 λ a=>by kernel_rfl
def abK:=fe [(229,abf)] []
def abb:PF:=⟨[R .str,R .str],[.bool],.uniq,aaK⟩
theorem acS:Sd 203 abb:=sf (F:=abK) (ek ⟨acV,trivial⟩) Tryz.func203 λ a=>by kernel_rfl
def abE:=fe [(133,Nu),(203,abb)] []
def ab7:PF:=⟨[R .str,R .str],[.bool],.uniq,aad⟩
theorem acP:Sd 171 ab7:=sf (F:=abE) (ek ⟨aj,acS,trivial⟩) Tryz.func171 λ a=>by kernel_rfl
def abw:=fe [(70,wV),(76,wZ),(113,dL),(168,ab5),(169,vq),(151,mO),(170,ab6),(171,ab7)] []
def aaX:PF:=⟨[R (.pair .i64 .i64),R q7,R q4],[q7],.uniq,aap⟩
theorem acB:Sd 115 aaX:=sf (F:=abw) (ek ⟨UR,UV,ox,acK,Ts,Ac,acM,acP,trivial⟩) Tryz.func115 λ a=>by kernel_rfl
def aby:=fe [(19,QJ)] []
def ab0:PF:=⟨[R q7,R q7],[.bool],.uniq,aan⟩
theorem acD:Sd 165 ab0:=sf (F:=aby) (ek ⟨eN,trivial⟩) Tryz.func165 λ a=>by kernel_rfl
def abI:=fe [(75,Kf)] [(4,[.slot 0 .i64 (.imm false),.slot 3 (.sl 5 .u8) (.own true)])]
def aa7:PF:=⟨[R .i64],[(.sl 5 .u8)],.uniq,aa0⟩
theorem aaC:Sd 201 aa7:=sf (F:=abI) (ek ⟨Lh,trivial⟩) Tryz.func201 λ a=>by kernel_rfl
def abM:=fe [(201,aa7)] [(3,[.slot 3 (.sl 5 .u8) (.own true),.slot 8 .i64 (.imm false)])]
def aaF:PF:=⟨[R (.sl 3 .i64)],[(.sl 5 .u8)],.uniq,aa6⟩
theorem abp:Sd 225 aaF:=sf (F:=abM) (ek ⟨aaC,trivial⟩) Tryz.func225 λ a=>by kernel_rfl
def abQ:=fe [(201,aa7)] []
def aaG:PF:=⟨[R .str],[(.sl 5 .u8)],.uniq,aa5⟩
theorem abr:Sd 227 aaG:=sf (F:=abQ) (ek ⟨aaC,trivial⟩) Tryz.func227 λ a=>by kernel_rfl
def abN:=fe [(113,dL),(201,aa7),(227,aaG),(225,aaF)] []
def abe:PF:=⟨[R (.pair .i64 .i64),R q4],[(.sl 5 .u8)],.uniq,aaj⟩
theorem acU:Sd 226 abe:=sf (F:=abN) (ek ⟨ox,aaC,abr,abp,trivial⟩) Tryz.func226 λ a=>by kernel_rfl
def abH:=fe [(76,wZ),(225,aaF),(226,abe),(227,aaG)] []
def aba:PF:=⟨[R (.pair .i64 .i64),R q7],[(.sl 5 .u8)],.uniq,aam⟩
theorem acR:Sd 200 aba:=sf (F:=abH) (ek ⟨UV,abp,acU,abr,trivial⟩) Tryz.func200 λ a=>by kernel_rfl
def abB:=fe [(200,aba),(201,aa7)] []
def ab4:PF:=⟨[R (.pair .i64 .i64),R q7],[(.sl 5 .u8)],.uniq,aae⟩
theorem acH:Sd 167 ab4:=sf (F:=abB) (ek ⟨acR,aaC,trivial⟩) Tryz.func167 λ a=>by kernel_rfl
def abz:=fe [(73,wX),(79,w7)] []
def ab1:PF:=⟨[R ZC,R (.sl 5 .u8)],[ZC,.bool],.uniq,aa9⟩
theorem acG:Sd 166 ab1:=sf (F:=abz) (ek ⟨UT,UX,trivial⟩) Tryz.func166 λ a=>by kernel_rfl
def abv:=fe [(27,np),(28,ns),(165,ab0),(167,ab4),(166,ab1),(70,wV)] []
def aaW:PF:=⟨[R (.pair .i64 .i64),R q1,R q7],[q1,.bool],.uniq,aay⟩
theorem acA:Sd 114 aaW:=sf (F:=abv) (ek ⟨AB,AE,acD,acH,acG,UR,trivial⟩) Tryz.func114 λ a=>by kernel_rfl
def F55:=fe [(115,aaX),(114,aaW),(16,mQ),(29,wt)] []
def pf55:PF:=⟨[R (.pair .i64 .i64),R q1,R q4],[q1,.bool],.uniq,aaz⟩
theorem e55 (a:zW pf55.params):kW F55 Tryz.f55 pf55.params pf55.rets pf55.rk a=pf55.fn a:=by kernel_rfl
theorem s55:KG Tryz.prog GLB 55 pf55:=VN (F:=F55) (ek ⟨acB,acA,Ae,Uq,trivial⟩) Tryz.func55 (by kernel_rfl) (by rfl) (λ a o h=>(e55 a).trans h)
def F59:=fe [(48,K8),(75,Kf)] []
def aaB:PF:=⟨[R (.pair .i64 .i64),R .i64,R .i64],[.i64],.uniq,aa1⟩
theorem s59:Sd 59 aaB:=sf (F:=F59) (ek ⟨Me,Lh,trivial⟩) Tryz.func59 λ a=>by kernel_rfl
def F60:=fe [(48,K8),(75,Kf)] []
def abo:PF:=⟨[R (.pair .i64 .i64),R .i64,R .i64],[.i64],.uniq,aat⟩
theorem s60:Sd 60 abo:=sf (F:=F60) (ek ⟨Me,Lh,trivial⟩) Tryz.func60 λ a=>by kernel_rfl
def F23:=fe [(59,aaB),(60,abo)] []
def aaA:PF:=⟨[R (.pair .i64 .i64),R .i64,R .i64],[.i64],.uniq,F4⟩
theorem s23:Sd 23 aaA:=sf (F:=F23) (ek ⟨s59,s60,trivial⟩) Tryz.func23 λ a=>by kernel_rfl
def abx:=fe [(59,aaB),(23,aaA)] [(2,[.slot 2 .i64 (.imm false),.slot 7 (.sl 3 .i64) (.own true)])]
def aaZ:PF:=⟨[R (.pair .i64 .i64),R .i64,R .i64],[(.sl 3 .i64)],.uniq,aaw⟩
theorem acC:Sd 116 aaZ:=sf (F:=abx) (ek ⟨s59,s23,trivial⟩) Tryz.func116 λ a=>by kernel_rfl
def F56:=fe [(59,aaB),(116,aaZ),(40,wJ)] [(3,[.slot 7 (.sl 3 .i64) (.own true),.slot 8 .i64 (.imm false)])]
def abi:PF:=⟨[R (.pair .i64 .i64),R .i64,R .i64],[(.sl 3 .i64)],.uniq,aau⟩
theorem s56:Sd 56 abi:=sf (F:=F56) (ek ⟨s59,acC,UG,trivial⟩) Tryz.func56 λ a=>by kernel_rfl
def F57:=fe [(40,wJ)] [(3,[.slot 5 .i64 (.imm false),.slot 10 .i64 (.imm false)])]
def abm:PF:=⟨[R (.sl 3 .i64),R (.sl 3 .i64)],[.i64],.uniq,aab⟩
theorem s57:Sd 57 abm:=sf (F:=F57) (ek ⟨UG,trivial⟩) Tryz.func57 λ a=>by kernel_rfl
def F21:y6:=⟨⟨TYS,[(18,vx),(28,ns),(27,np),(16,mQ),(54,abg),(56,abi),(57,abm),(23,aaA),(29,wt)],EQS,[],[],false,[(55,pf55)],[],[],false,[]⟩,[]⟩
def abd:PF:=⟨[R (.pair .i64 .i64),R q1,R .i64,R .str,R .bool],[q1,.bool],.uniq,aa4⟩
theorem s21:Sd 21 abd:=sf (F:=F21) (LK ⟨Tz,AE,AB,Ae,s54,s56,s57,s23,Uq,trivial⟩ trivial trivial s55 trivial trivial) Tryz.func21 λ a=>by kernel_rfl
end
end G448
