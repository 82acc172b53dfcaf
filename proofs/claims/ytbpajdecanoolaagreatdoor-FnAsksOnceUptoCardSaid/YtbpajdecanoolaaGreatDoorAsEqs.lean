/- That the printed functions are what the evaluator reckons. (Printed by our own program.) -/
import Derived.Test.YtbpajdecanoolaaGreatDoorProg
import Derived.Test.YtbpajdecanoolaaGreatDoorAsFns
import Derived.Test.YtbpajdecanoolaaGreatDoorSh
import Derived.KernelRfl
set_option linter.unusedSimpArgs false
set_option linter.unusedVariables false
namespace G448
open Ev Go Go.Proofs
set_option maxRecDepth 100000
noncomputable section
abbrev q1:Ty:=(.pair .i64 (.pair .i64 (.pair .i64 (.pair (.pair .i64 (.pair .i64 (.pair (.pair .i64 (.pair .str (.sl 3 .i64))) .str))) (.pair (.sl 43 (.pair .i64 (.pair .i64 (.pair .i64 .i64)))) (.pair (.sl 47 (.pair .i64 (.pair .str (.sl 3 .i64)))) (.pair (.pair (.sl 5 .u8) .i64) (.sl 138 (.pair .i64 (.pair .i64 (.pair .i64 (.pair (.pair .str (.pair .i64 (.pair .str (.sl 3 .i64)))) (.pair (.pair .i64 (.pair .str (.sl 3 .i64))) (.pair (.pair .i64 (.pair .str (.sl 3 .i64))) (.pair .i64 (.pair .i64 (.pair .i64 (.pair .i64 .i64))))))))))))))))))
abbrev q2:Ty:=(.pair .i64 (.pair .i64 (.pair (.pair .str (.pair .i64 (.pair .str (.sl 3 .i64)))) (.pair (.pair .i64 (.pair .str (.sl 3 .i64))) (.pair (.pair .i64 (.pair .str (.sl 3 .i64))) (.pair .i64 (.pair .i64 (.pair .i64 (.pair .i64 .i64)))))))))
abbrev q3:Ty:=(.pair (.pair .i64 .i64) (.pair (.sl 3 .i64) (.pair (.sl 66 q1) (.pair (.sl 115 (.pair .i64 (.sl 5 .u8))) (.sl 54 (.pair .i64 (.pair .str .i64)))))))
abbrev q4:Ty:=(.pair .i64 (.pair .str (.sl 3 .i64)))
abbrev q5:Ty:=(.pair .i64 (.pair .i64 (.pair .i64 .i64)))
abbrev q6:Ty:=(.pair .i64 (.pair .i64 (.pair q4 .str)))
abbrev q7:Ty:=(.pair (.sl 3 .i64) (.sl 3 .i64))
abbrev q8:Ty:=(.pair .i64 (.pair .i64 (.pair .i64 q2)))
abbrev q9:Ty:=(.pair (.sl 5 .u8) (.pair .i64 .i64))
abbrev Zp:Ty:=(.pair (.sl 5 .u8) .i64)
abbrev KI:Ty:=(.pair (.sl 5 .u8) (.pair .i64 .bool))
abbrev Lw:Ty:=(.sl 54 (.pair .i64 (.pair .str .i64)))
abbrev JD:Ty:=(.sl 138 (.pair .i64 q2))
abbrev dh:Ty:=(.pair .i64 (.pair .str (.sl 0 .i64)))
abbrev lD:Ty:=(.sl 93 (.pair .i64 (.sl 43 q5)))
def TYS:List (Nat×TD):=[(3,⟨.i64,8,[],none⟩),(4,⟨.bool,1,[],none⟩),(5,⟨.u8,1,[],none⟩),(9,⟨.str,16,[],none⟩),(22,⟨(.sl 5 .u8),24,[],none⟩),(25,⟨(.pair .i64 .i64),16,[(0,3),(1,3)],none⟩),(26,⟨(.sl 3 .i64),24,[],none⟩),(27,⟨(.sl 66 (.pair .i64 (.pair .i64 (.pair .i64 (.pair (.pair .i64 (.pair .i64 (.pair (.pair .i64 (.pair .str (.sl 3 .i64))) .str))) (.pair (.sl 43 (.pair .i64 (.pair .i64 (.pair .i64 .i64)))) (.pair (.sl 47 (.pair .i64 (.pair .str (.sl 3 .i64)))) (.pair (.pair (.sl 5 .u8) .i64) (.sl 138 (.pair .i64 (.pair .i64 (.pair .i64 (.pair (.pair .str (.pair .i64 (.pair .str (.sl 3 .i64)))) (.pair (.pair .i64 (.pair .str (.sl 3 .i64))) (.pair (.pair .i64 (.pair .str (.sl 3 .i64))) (.pair .i64 (.pair .i64 (.pair .i64 (.pair .i64 .i64))))))))))))))))))),24,[],none⟩),(28,⟨(.sl 115 (.pair .i64 (.sl 5 .u8))),24,[],none⟩),(29,⟨(.sl 54 (.pair .i64 (.pair .str .i64))),24,[],none⟩),(31,⟨(.pair (.pair .i64 .i64) (.pair (.sl 3 .i64) (.pair (.sl 66 (.pair .i64 (.pair .i64 (.pair .i64 (.pair (.pair .i64 (.pair .i64 (.pair (.pair .i64 (.pair .str (.sl 3 .i64))) .str))) (.pair (.sl 43 (.pair .i64 (.pair .i64 (.pair .i64 .i64)))) (.pair (.sl 47 (.pair .i64 (.pair .str (.sl 3 .i64)))) (.pair (.pair (.sl 5 .u8) .i64) (.sl 138 (.pair .i64 (.pair .i64 (.pair .i64 (.pair (.pair .str (.pair .i64 (.pair .str (.sl 3 .i64)))) (.pair (.pair .i64 (.pair .str (.sl 3 .i64))) (.pair (.pair .i64 (.pair .str (.sl 3 .i64))) (.pair .i64 (.pair .i64 (.pair .i64 (.pair .i64 .i64))))))))))))))))))) (.pair (.sl 115 (.pair .i64 (.sl 5 .u8))) (.sl 54 (.pair .i64 (.pair .str .i64))))))),112,[(0,25),(2,26),(3,27),(4,28),(5,29)],none⟩),(32,⟨(.sl 58 (.pair .i64 (.pair .i64 (.pair .i64 (.pair .i64 (.pair .i64 (.pair (.pair .str (.pair .i64 (.pair .str (.sl 3 .i64)))) (.pair (.pair .i64 (.pair .str (.sl 3 .i64))) (.pair (.pair .i64 (.pair .str (.sl 3 .i64))) (.pair .i64 (.pair .i64 (.pair .i64 (.pair .i64 .i64))))))))))))),24,[],none⟩),(43,⟨(.pair .i64 (.pair .i64 (.pair .i64 .i64))),32,[(0,3),(1,3),(2,3),(3,3)],none⟩),(44,⟨(.sl 43 (.pair .i64 (.pair .i64 (.pair .i64 .i64)))),24,[],none⟩),(47,⟨(.pair .i64 (.pair .str (.sl 3 .i64))),48,[(0,3),(1,9),(2,26)],none⟩),(48,⟨(.pair .i64 (.pair .str (.sl 3 .i64))),48,[(0,3),(1,9),(2,26)],none⟩),(50,⟨(.pair .str (.pair .i64 (.pair .str (.sl 3 .i64)))),64,[(0,9),(1,48)],none⟩),(52,⟨(.pair .i64 (.pair .i64 (.pair (.pair .str (.pair .i64 (.pair .str (.sl 3 .i64)))) (.pair (.pair .i64 (.pair .str (.sl 3 .i64))) (.pair (.pair .i64 (.pair .str (.sl 3 .i64))) (.pair .i64 (.pair .i64 (.pair .i64 (.pair .i64 .i64))))))))),216,[(0,3),(1,3),(2,50),(6,47),(9,48),(12,3),(13,43)],none⟩),(54,⟨(.pair .i64 (.pair .str .i64)),32,[(0,3),(1,9),(2,3)],none⟩),(58,⟨(.pair .i64 (.pair .i64 (.pair .i64 (.pair .i64 (.pair .i64 (.pair (.pair .str (.pair .i64 (.pair .str (.sl 3 .i64)))) (.pair (.pair .i64 (.pair .str (.sl 3 .i64))) (.pair (.pair .i64 (.pair .str (.sl 3 .i64))) (.pair .i64 (.pair .i64 (.pair .i64 (.pair .i64 .i64)))))))))))),240,[(0,3),(1,3),(2,3),(3,52)],none⟩),(60,⟨(.pair .i64 (.pair .i64 (.pair (.pair .i64 (.pair .str (.sl 3 .i64))) .str))),80,[(0,3),(1,3),(2,48),(5,9)],none⟩),(61,⟨(.sl 47 (.pair .i64 (.pair .str (.sl 3 .i64)))),24,[],none⟩),(63,⟨(.pair (.sl 5 .u8) .i64),32,[(0,22),(1,3)],none⟩),(64,⟨(.sl 138 (.pair .i64 (.pair .i64 (.pair .i64 (.pair (.pair .str (.pair .i64 (.pair .str (.sl 3 .i64)))) (.pair (.pair .i64 (.pair .str (.sl 3 .i64))) (.pair (.pair .i64 (.pair .str (.sl 3 .i64))) (.pair .i64 (.pair .i64 (.pair .i64 (.pair .i64 .i64))))))))))),24,[],none⟩),(66,⟨(.pair .i64 (.pair .i64 (.pair .i64 (.pair (.pair .i64 (.pair .i64 (.pair (.pair .i64 (.pair .str (.sl 3 .i64))) .str))) (.pair (.sl 43 (.pair .i64 (.pair .i64 (.pair .i64 .i64)))) (.pair (.sl 47 (.pair .i64 (.pair .str (.sl 3 .i64)))) (.pair (.pair (.sl 5 .u8) .i64) (.sl 138 (.pair .i64 (.pair .i64 (.pair .i64 (.pair (.pair .str (.pair .i64 (.pair .str (.sl 3 .i64)))) (.pair (.pair .i64 (.pair .str (.sl 3 .i64))) (.pair (.pair .i64 (.pair .str (.sl 3 .i64))) (.pair .i64 (.pair .i64 (.pair .i64 (.pair .i64 .i64)))))))))))))))))),208,[(0,3),(1,3),(2,3),(3,60),(9,44),(10,61),(11,63),(13,64)],none⟩),(89,⟨(.sl 93 (.pair .i64 (.sl 43 (.pair .i64 (.pair .i64 (.pair .i64 .i64)))))),24,[],none⟩),(93,⟨(.pair .i64 (.sl 43 (.pair .i64 (.pair .i64 (.pair .i64 .i64))))),32,[(0,3),(1,44)],none⟩),(102,⟨(.pair (.sl 3 .i64) (.sl 3 .i64)),48,[(0,26),(1,26)],none⟩),(110,⟨(.pair (.sl 5 .u8) (.pair .i64 .i64)),40,[(0,22),(1,3),(2,3)],none⟩),(115,⟨(.pair .i64 (.sl 5 .u8)),32,[(0,3),(1,22)],none⟩),(124,⟨(.sl 9 .str),24,[],none⟩),(138,⟨(.pair .i64 (.pair .i64 (.pair .i64 (.pair (.pair .str (.pair .i64 (.pair .str (.sl 3 .i64)))) (.pair (.pair .i64 (.pair .str (.sl 3 .i64))) (.pair (.pair .i64 (.pair .str (.sl 3 .i64))) (.pair .i64 (.pair .i64 (.pair .i64 (.pair .i64 .i64)))))))))),224,[(0,3),(1,52)],none⟩),(170,⟨(.pair (.sl 5 .u8) (.pair .i64 .bool)),40,[(0,22),(1,3),(2,4)],none⟩),(176,⟨(.pair (.sl 5 .u8) (.pair .i64 .bool)),40,[(0,22),(1,3),(2,4)],none⟩),(233,⟨(.sl 3 .i64),32,[],some 4⟩)]
def EQS:List Nat:=[43,54]
theorem tysOK:yg Tryz.prog TYS=true:=by kernel_rfl
theorem tilesOK:vw TYS=true:=by kernel_rfl
theorem Vm:EQS.all (MZ Tryz.prog TYS)=true:=by kernel_rfl
theorem XW:Tryz.prog.follows .mixedOrders=true:=by kernel_rfl
theorem K6 {fns:List (Nat×PF)} {news:List (Nat×NF)} {muts:List (Nat×MF)} {frz hold:Bool} {conds joins alts:List (Nat×PF)} (h:AllS Tryz.prog GLB fns) (h2:AllN Tryz.prog GLB news) (h3:AllM Tryz.prog GLB muts) (h4:AllC Tryz.prog GLB conds) (h5:AllJ Tryz.prog GLB joins) (h6:AllS Tryz.prog GLB alts):Zt Tryz.prog GLB ⟨TYS,fns,EQS,news,muts,frz,conds,joins,alts,hold⟩:=Vl XW tysOK Vm h h2 h3 h4 h5 h6
def fe (fns:List (Nat×PF)) (ls:List (Nat×List Ev.Item)):jk:=⟨⟨TYS,fns,EQS,[],[],false,[],[],[],false⟩,ls⟩
theorem ek {fns:List (Nat×PF)} {frz hold:Bool} (h:AllS Tryz.prog GLB fns):Zt Tryz.prog GLB ⟨TYS,fns,EQS,[],[],frz,[],[],[],hold⟩:=K6 h trivial trivial trivial trivial trivial
abbrev R (t:Ty):PK×Ty:=(.rd,t)
abbrev Sd (f:Nat) (pf:PF):Prop:=Sound Tryz.prog GLB f pf
theorem sf {F:jk} {f:FuncId} {fn:Func} {pf:PF} (hE:Zt Tryz.prog GLB F.E) (hf:Tryz.prog.funcs[f]?=some fn) (he:∀ a,fq F fn pf.params pf.rets pf.rk a=pf.fn a) (hn:(fn.name == "runtime.NumGoroutine")=false:=by kernel_rfl):Sd f pf:=adY hE hf hn λ a o h=>(he a).trans h
def oP (pf:PF) (v:zQ pf.params pf.rets):PF:={pf with fn:=λ _=>some v}
def ML:Code->Code | .seq a _=>a|c=>c
def Kj:Code->Code | .seq _ b=>b|c=>c
def wE:Code->Code | .cond _ a _=>a|c=>c
def rn (F:jk) (c:Code) (st:St):St:=match jJ F c st (λ _ s=>some s) with|some s=>s|none=>st
def rgo (F:jk) (c:Code) (lo hi:Nat) (st:St):St:=match c with | .region _ ops _=>(match evReg F.E ops.toList ((ops.toList.take hi).drop lo) st some with|some s=>s|none=>st)|_=>st
def en (fn:Func) (ps:List (PK×Ty)) (args:yc ps):St:=match jg ps args 0 with|some (avs,es,j)=>{ slots:=avs++List.replicate (fn.ntmps - avs.length) (.tup []),tab:=es,nxt:=j,lvl:=0 }|none=>⟨[],[],0,0⟩
def bF (F:jk) (fn:Func) (ps:List (PK×Ty)) (rets:List Ty) (rk:RK) (args:yc ps) (c:Code) (st:St):Option (zQ ps rets):=jJ F c st λ x st=>match x with | .exit _=>none | .normal=>qT F fn ps rets rk args st | .ret=>qT F fn ps rets rk args st
theorem bc {α β:Type} {x:Option α} {f g:α->Option β} (h:∀ y,f y=g y):x.bind f=x.bind g:=by rw[funext h]
theorem cc {α:Type} {c:Bool} {x y z t:α} (h:x=z) (k:y=t):(bif c then x else y)=bif c then z else t:=by rw[h,k]
def F6:=fe [] []
def DL:PF:=⟨[R (.sl 5 .u8)],[.bool],.uniq,pT⟩
theorem s6:Sd 6 DL:=sf (F:=F6) (ek trivial) Tryz.func6 λ a=>by kernel_rfl
def vQ:=fe [] [(3,[.slot 3 .i64 (.imm false),.slot 4 .i64 (.imm false)])]
def B8:NF:=⟨[(.rd,(.sl 5 .u8))],q9,ei⟩
theorem Vb (a:yc [(.rd,(.sl 5 .u8))]):oR vQ Tryz.f19 [(.rd,(.sl 5 .u8))] q9 a=ei a:=by kernel_rfl
theorem s19:LT Tryz.prog GLB 19 B8:=adZ (F:=vQ) (ek trivial) Tryz.func19 (by kernel_rfl) (λ a o h=>(Vb a).trans h)
def Ta:=fe [] []
def DK:PF:=⟨[(.ptr,q9)],[.i64],.uniq,MI⟩
theorem s55:Sd 55 DK:=sf (F:=Ta) (ek trivial) Tryz.func55 λ a=>by kernel_rfl
def PV:=fe [(55,DK)] []
def Lp:PF:=⟨[(.ptr,q9),R .i64],[.i64],.uniq,zL⟩
theorem Mt:Sd 22 Lp:=sf (F:=PV) (ek ⟨s55,trivial⟩) Tryz.func22 λ a=>by kernel_rfl
def S7:=fe [(22,Lp)] []
def ln:PF:=⟨[(.ptr,q9),R (.sl 3 .i64)],[.i64],.uniq,aY⟩
theorem uo:Sd 52 ln:=sf (F:=S7) (ek ⟨Mt,trivial⟩) Tryz.func52 λ a=>by kernel_rfl
def S8:=fe [(22,Lp)] []
def pf53:PF:=⟨[(.ptr,q9),R .i64],[.bool],.uniq,MJ⟩
theorem mo:Sd 53 pf53:=sf (F:=S8) (ek ⟨Mt,trivial⟩) Tryz.func53 λ a=>by kernel_rfl
def Tj:=fe [] []
def jZ:PF:=⟨[R .i64,R .i64,R .i64],[.bool],.uniq,yy⟩
theorem Zd:Sd 65 jZ:=sf (F:=Tj) (ek trivial) Tryz.func65 λ a=>by kernel_rfl
def R5:=fe [(65,jZ)] []
def Y0:PF:=⟨[R (.pair .i64 .i64)],[.bool],.uniq,Yr⟩
theorem JI:Sd 30 Y0:=sf (F:=R5) (ek ⟨Zd,trivial⟩) Tryz.func30 λ a=>by kernel_rfl
def PQ:=fe [] [(4,[.slot 5 (.sl 9 .str) (.own true),.slot 6 .i64 (.imm false),.slot 7 .i64 (.imm false)])]
def sw:PF:=⟨[R .str,R .u8],[(.sl 9 .str)],.uniq,dR⟩
theorem Fk:Sd 210 sw:=sf (F:=PQ) (ek trivial) Tryz.func210 λ a=>by kernel_rfl
def PR:=fe [] [(2,[.slot 7 .i64 (.imm false)])]
def sx:PF:=⟨[R .str,R .u8],[.str,.str,.bool],.uniq,MK⟩
theorem Fl:Sd 211 sx:=sf (F:=PR) (ek trivial) Tryz.func211 λ a=>by kernel_rfl
def Rk:=fe [] [(5,[.slot 0 .i64 (.imm false),.slot 4 .str (.imm false)])]
def lc:PF:=⟨[R .i64],[.str],.uniq,KO⟩
theorem ue:Sd 242 lc:=sf (F:=Rk) (ek trivial) Tryz.func242 λ a=>by kernel_rfl
def PS:=fe [(242,lc)] [(5,[.slot 4 .i64 (.imm false),.slot 5 .i64 (.imm false)])]
def sy:PF:=⟨[R .str],[.i64,.bool],.uniq,MD⟩
theorem Fm:Sd 212 sy:=sf (F:=PS) (ek ⟨ue,trivial⟩) Tryz.func212 λ a=>by kernel_rfl
def PH:=fe [(65,jZ)] []
def NH:PF:=⟨[R q5],[.bool],.uniq,LJ⟩
theorem af:Sd 203 NH:=sf (F:=PH) (ek ⟨Zd,trivial⟩) Tryz.func203 λ a=>by kernel_rfl
def RY:=fe [(203,NH),(242,lc)] []
def sH:PF:=⟨[R q5],[.str],.uniq,aO⟩
theorem Fu:Sd 293 sH:=sf (F:=RY) (ek ⟨af,ue,trivial⟩) Tryz.func293 λ a=>by kernel_rfl
def RC:=fe [(211,sx),(212,sy),(293,sH)] []
def CJ:PF:=⟨[R .str],[q5,.bool],.uniq,dW⟩
theorem ac1:Sd 259 CJ:=sf (F:=RC) (ek ⟨Fl,Fm,Fu,trivial⟩) Tryz.func259 λ a=>by kernel_rfl
def PT:=fe [(210,sw),(259,CJ)] [(6,[.slot 4 (.sl 43 q5) (.own true),.slot 6 .i64 (.imm false)])]
def Cf:PF:=⟨[R .str],[(.sl 43 q5),.bool],.uniq,nk⟩
theorem abw:Sd 213 Cf:=sf (F:=PT) (ek ⟨Fk,ac1,trivial⟩) Tryz.func213 λ a=>by kernel_rfl
def OG:=fe [(210,sw),(211,sx),(212,sy),(213,Cf)] [(10,[.slot 5 lD (.own true),.slot 7 .i64 (.imm false),.slot 8 .i64 (.imm false)])]
def cO:PF:=⟨[R .str],[lD,.bool],.uniq,N6⟩
theorem lY:Sd 140 cO:=sf (F:=OG) (ek ⟨Fk,Fl,Fm,abw,trivial⟩) Tryz.func140 λ a=>by kernel_rfl
def To:=fe [(140,cO)] []
def Lr:PF:=⟨[R .str],[.bool],.uniq,JM⟩
theorem Mv:Sd 70 Lr:=sf (F:=To) (ek ⟨lY,trivial⟩) Tryz.func70 λ a=>by kernel_rfl
def Tp:=fe [(140,cO)] []
def Kb:PF:=⟨[R .str],[.i64],.uniq,YO⟩
theorem KM:Sd 71 Kb:=sf (F:=Tp) (ek ⟨lY,trivial⟩) Tryz.func71 λ a=>by kernel_rfl
def Tl:=fe [] [(2,[.slot 5 .i64 (.imm false)])]
def lr:PF:=⟨[R .i64,R (.sl 3 .i64)],[.bool],.uniq,aL⟩
theorem ut:Sd 67 lr:=sf (F:=Tl) (ek trivial) Tryz.func67 λ a=>by kernel_rfl
def Oa:=fe [(30,Y0)] []
def kM:PF:=⟨[R (.pair .i64 .i64)],[.i64],.uniq,aH⟩
theorem tS:Sd 113 kM:=sf (F:=Oa) (ek ⟨JI,trivial⟩) Tryz.func113 λ a=>by kernel_rfl
def Oh:=fe [(30,Y0),(70,Lr),(71,Kb),(67,lr),(113,kM)] []
def pf120:PF:=⟨[R (.pair .i64 .i64),R q4],[.bool],.uniq,JN⟩
theorem Ms:Sd 120 pf120:=sf (F:=Oh) (ek ⟨JI,Mv,KM,ut,tS,trivial⟩) Tryz.func120 λ a=>by kernel_rfl
def Ow:=fe [(65,jZ),(120,pf120),(70,Lr)] []
def NC:PF:=⟨[R (.pair .i64 .i64),R q6],[.bool],.uniq,LH⟩
theorem Q0:Sd 131 NC:=sf (F:=Ow) (ek ⟨Zd,Ms,Mv,trivial⟩) Tryz.func131 λ a=>by kernel_rfl
def PI:=fe [] []
def ss:PF:=⟨[R q5,R q5],[.bool],.uniq,eq⟩
theorem Fh:Sd 204 ss:=sf (F:=PI) (ek trivial) Tryz.func204 λ a=>by kernel_rfl
def Ox:=fe [(203,NH),(204,ss)] [(2,[.slot 3 .i64 (.imm false)])]
def rN:PF:=⟨[R (.sl 43 q5)],[.bool],.uniq,N3⟩
theorem ES:Sd 132 rN:=sf (F:=Ox) (ek ⟨af,Fh,trivial⟩) Tryz.func132 λ a=>by kernel_rfl
def PJ:=fe [(30,Y0),(65,jZ),(67,lr),(70,Lr),(71,Kb)] []
def cY:PF:=⟨[R (.pair .i64 .i64),R q4],[.bool],.uniq,LG⟩
theorem mg:Sd 205 cY:=sf (F:=PJ) (ek ⟨JI,Zd,ut,Mv,KM,trivial⟩) Tryz.func205 λ a=>by kernel_rfl
def PL:=fe [] []
def su:PF:=⟨[R q4,R q4],[.bool],.uniq,d5⟩
theorem Fi:Sd 206 su:=sf (F:=PL) (ek trivial) Tryz.func206 λ a=>by kernel_rfl
def Oy:=fe [(205,cY),(206,su)] [(2,[.slot 5 .i64 (.imm false)])]
def rO:PF:=⟨[R (.pair .i64 .i64),R (.sl 47 q4)],[.bool],.uniq,N8⟩
theorem EU:Sd 133 rO:=sf (F:=Oy) (ek ⟨mg,Fi,trivial⟩) Tryz.func133 λ a=>by kernel_rfl
def Oz:=fe [(65,jZ)] []
def cM:PF:=⟨[R Zp],[.bool],.uniq,MB⟩
theorem lW:Sd 134 cM:=sf (F:=Oz) (ek ⟨Zd,trivial⟩) Tryz.func134 λ a=>by kernel_rfl
def SG:=fe [] [(2,[.slot 5 .i64 (.imm false)])]
def sM:PF:=⟨[R (.sl 3 .i64),R (.sl 3 .i64)],[.bool],.uniq,er⟩
theorem Fz:Sd 344 sM:=sf (F:=SG) (ek trivial) Tryz.func344 λ a=>by kernel_rfl
def Sm:=fe [(344,sM)] []
def lj:PF:=⟨[R q4,R q4],[.bool],.uniq,aG⟩
theorem ul:Sd 315 lj:=sf (F:=Sm) (ek ⟨Fz,trivial⟩) Tryz.func315 λ a=>by kernel_rfl
def Sk:=fe [(315,lj)] []
def Dd:PF:=⟨[R (.pair .str q4),R (.pair .str q4)],[.bool],.uniq,mE⟩
theorem acw:Sd 313 Dd:=sf (F:=Sk) (ek ⟨ul,trivial⟩) Tryz.func313 λ a=>by kernel_rfl
def Sl:=fe [(344,sM)] []
def De:PF:=⟨[R q4,R q4],[.bool],.uniq,ns⟩
theorem acx:Sd 314 De:=sf (F:=Sl) (ek ⟨Fz,trivial⟩) Tryz.func314 λ a=>by kernel_rfl
def RB:=fe [(313,Dd),(314,De),(315,lj)] []
def CI:PF:=⟨[R q2,R q2],[.bool],.uniq,MC⟩
theorem ac0:Sd 258 CI:=sf (F:=RB) (ek ⟨acw,acx,ul,trivial⟩) Tryz.func258 λ a=>by kernel_rfl
def PM:=fe [(258,CI)] []
def Cd:PF:=⟨[R q2],[.bool],.uniq,nt⟩
theorem abu:Sd 207 Cd:=sf (F:=PM) (ek ⟨ac0,trivial⟩) Tryz.func207 λ a=>by kernel_rfl
def Tb:=fe [] []
def Mo:PF:=⟨[R .i64,R .i64],[.i64],.uniq,jF⟩
theorem NT:Sd 56 Mo:=sf (F:=Tb) (ek trivial) Tryz.func56 λ a=>by kernel_rfl
def Ps:=fe [(70,Lr),(56,Mo)] [(4,[.slot 3 .i64 (.imm false)])]
def cV:PF:=⟨[R .str],[.str],.uniq,MH⟩
theorem mb:Sd 190 cV:=sf (F:=Ps) (ek ⟨Mv,NT,trivial⟩) Tryz.func190 λ a=>by kernel_rfl
def Pr:=fe [(120,pf120),(70,Lr),(190,cV)] []
def cU:PF:=⟨[R (.pair .i64 .i64),R (.pair .str q4)],[.bool],.uniq,N0⟩
theorem ma:Sd 189 cU:=sf (F:=Pr) (ek ⟨Ms,Mv,mb,trivial⟩) Tryz.func189 λ a=>by kernel_rfl
def OA:=fe [(30,Y0),(207,Cd),(189,cU),(205,cY),(65,jZ),(120,pf120),(203,NH)] []
def ND:PF:=⟨[R (.pair .i64 .i64),R q2],[.bool],.uniq,YM⟩
theorem aa:Sd 135 ND:=sf (F:=OA) (ek ⟨JI,abu,ma,mg,Zd,Ms,af,trivial⟩) Tryz.func135 λ a=>by kernel_rfl
def Tk:=fe [(30,Y0),(65,jZ),(131,NC),(132,rN),(133,rO),(134,cM),(135,ND)] [(4,[.slot 5 .i64 (.imm false)])]
def Yi:PF:=⟨[R (.pair .i64 .i64),R q1],[.bool],.uniq,ZJ⟩
theorem YI:Sd 66 Yi:=sf (F:=Tk) (ek ⟨JI,Zd,Q0,ES,EU,lW,aa,trivial⟩) Tryz.func66 λ a=>by kernel_rfl
def Sg:=fe [(66,Yi)] []
def C9:PF:=⟨[R (.pair .i64 .i64),R .i64],[q1,.bool],.uniq,mY⟩
theorem s31:Sd 31 C9:=sf (F:=Sg) (ek ⟨YI,trivial⟩) Tryz.func31 λ a=>by kernel_rfl
def Tm:=fe [(30,Y0)] []
def DN:PF:=⟨[R (.pair .i64 .i64)],[.i64],.uniq,mJ⟩
theorem s68:Sd 68 DN:=sf (F:=Tm) (ek ⟨JI,trivial⟩) Tryz.func68 λ a=>by kernel_rfl
def PN:=fe [] [(3,[.slot 7 .i64 (.imm false),.slot 8 .i64 (.imm false)])]
def kX:PF:=⟨[R (.sl 5 .u8),R .i64],[.i64,.i64,.bool],.uniq,ax⟩
theorem ub:Sd 208 kX:=sf (F:=PN) (ek trivial) Tryz.func208 λ a=>by kernel_rfl
def OB:=fe [(208,kX)] []
def cN:PF:=⟨[(.ptr,KI)],[.i64],.uniq,Z4⟩
theorem lX:Sd 136 cN:=sf (F:=OB) (ek ⟨ub,trivial⟩) Tryz.func136 λ a=>by kernel_rfl
def PO:=fe [(208,kX)] []
def Ce:PF:=⟨[R (.sl 5 .u8),R .i64],[.str,.i64,.bool],.uniq,mK⟩
theorem abv:Sd 209 Ce:=sf (F:=PO) (ek ⟨ub,trivial⟩) Tryz.func209 λ a=>by kernel_rfl
def OC:=fe [(209,Ce)] []
def kP:PF:=⟨[(.ptr,KI)],[.str],.uniq,qc⟩
theorem tV:Sd 137 kP:=sf (F:=OC) (ek ⟨abv,trivial⟩) Tryz.func137 λ a=>by kernel_rfl
def OE:=fe [(136,cN)] [(4,[.slot 3 (.sl 3 .i64) (.own true),.slot 5 .i64 (.imm false),.keep 0 KI [2,0,0]])]
def rQ:PF:=⟨[(.ptr,KI)],[(.sl 3 .i64)],.uniq,d6⟩
theorem EW:Sd 139 rQ:=sf (F:=OE) (ek ⟨lX,trivial⟩) Tryz.func139 λ a=>by kernel_rfl
def OD:=fe [(136,cN),(137,kP),(139,rQ)] []
def rP:PF:=⟨[(.ptr,KI)],[q4],.uniq,aV⟩
theorem EV:Sd 138 rP:=sf (F:=OD) (ek ⟨lX,tV,EW,trivial⟩) Tryz.func138 λ a=>by kernel_rfl
def Tn:=fe [(136,cN),(137,kP),(138,rP),(139,rQ),(135,ND)] []
def lw:PF:=⟨[R (.pair .i64 .i64),R (.sl 5 .u8)],[q2,.bool],.uniq,aB⟩
theorem uu:Sd 69 lw:=sf (F:=Tn) (ek ⟨lX,tV,EV,EW,aa,trivial⟩) Tryz.func69 λ a=>by kernel_rfl
def Sn:=fe [(30,Y0),(67,lr),(68,DN),(66,Yi),(69,lw),(65,jZ),(70,Lr),(71,Kb)] [(4,[.slot 3 .i64 (.imm false)]),(9,[.slot 4 .i64 (.imm false)]),(15,[.slot 7 .i64 (.imm false)])]
def Df:PF:=⟨[R q3],[.bool],.uniq,aS⟩
theorem s32:Sd 32 Df:=sf (F:=Sn) (ek ⟨JI,ut,s68,YI,uu,Zd,Mv,KM,trivial⟩) Tryz.func32 λ a=>by kernel_rfl
def F9:=fe [(30,Y0),(31,C9),(32,Df)] [(3,[.slot 7 .i64 (.imm false),.box 5 q3 (.own true)])]
def tc:PF:=⟨[R (.pair .i64 .i64),R (.sl 3 .i64)],[q3,.bool],.uniq,aR⟩
theorem s9:Sd 9 tc:=sf (F:=F9) (ek ⟨JI,s31,s32,trivial⟩) Tryz.func9 λ a=>by kernel_rfl
def PC:=fe [(52,ln),(22,Lp),(53,pf53),(9,tc)] []
def Cc:PF:=⟨[(.ptr,q9)],[q3],.uniq,nE⟩
theorem s20:Sd 20 Cc:=sf (F:=PC) (ek ⟨uo,Mt,mo,s9,trivial⟩) Tryz.func20 λ a=>by kernel_rfl
def Oj:=fe [] []
def NB:PF:=⟨[R q4],[q4],.uniq,Ki⟩
theorem QZ:Sd 122 NB:=sf (F:=Oj) (ek trivial) Tryz.func122 λ a=>by kernel_rfl
def I3:=fe [(122,NB)] []
def cI:PF:=⟨[R q6],[q6],.uniq,qb⟩
theorem lS:Sd 107 cI:=sf (F:=I3) (ek ⟨QZ,trivial⟩) Tryz.func107 λ a=>by kernel_rfl
def Pm:=fe [] []
def QK:PF:=⟨[R q4],[q4],.uniq,KQ⟩
theorem dw:Sd 184 QK:=sf (F:=Pm) (ek trivial) Tryz.func184 λ a=>by kernel_rfl
def I4:=fe [(184,QK)] [(3,[.slot 3 (.sl 47 q4) (.own true),.slot 4 .i64 (.imm false)])]
def rF:PF:=⟨[R (.sl 47 q4)],[(.sl 47 q4)],.uniq,KR⟩
theorem EK:Sd 108 rF:=sf (F:=I4) (ek ⟨dw,trivial⟩) Tryz.func108 λ a=>by kernel_rfl
def I5:=fe [] []
def cJ:PF:=⟨[R Zp],[Zp],.uniq,LK⟩
theorem lT:Sd 109 cJ:=sf (F:=I5) (ek trivial) Tryz.func109 λ a=>by kernel_rfl
def Ri:=fe [(122,NB)] []
def Cx:PF:=⟨[R (.pair .str q4)],[(.pair .str q4)],.uniq,nP⟩
theorem abP:Sd 240 Cx:=sf (F:=Ri) (ek ⟨QZ,trivial⟩) Tryz.func240 λ a=>by kernel_rfl
def Pn:=fe [(240,Cx),(184,QK),(122,NB)] []
def rZ:PF:=⟨[R q2],[q2],.uniq,d7⟩
theorem E8:Sd 185 rZ:=sf (F:=Pn) (ek ⟨abP,dw,QZ,trivial⟩) Tryz.func185 λ a=>by kernel_rfl
def I7:=fe [(185,rZ)] [(3,[.slot 3 JD (.own true),.slot 4 .i64 (.imm false)])]
def rG:PF:=⟨[R JD],[JD],.uniq,d8⟩
theorem EL:Sd 110 rG:=sf (F:=I7) (ek ⟨E8,trivial⟩) Tryz.func110 λ a=>by kernel_rfl
def S9:=fe [(107,cI),(108,rF),(109,cJ),(110,rG)] []
def ZD:PF:=⟨[R q1],[q1],.uniq,yO⟩
theorem Z2:Sd 54 ZD:=sf (F:=S9) (ek ⟨lS,EK,lT,EL,trivial⟩) Tryz.func54 λ a=>by kernel_rfl
def PP:=fe [(54,ZD)] [(3,[.slot 4 .i64 (.imm false),.box 10 q3 (.own true)]),(7,[.slot 5 .i64 (.imm false),.box 10 q3 (.own true)])]
def sv:PF:=⟨[R q3],[q3],.uniq,eg⟩
theorem Fj:Sd 21 sv:=sf (F:=PP) (ek ⟨Z2,trivial⟩) Tryz.func21 λ a=>by kernel_rfl
def P7:=fe [] []
def Cl:PF:=⟨[R (.sl 5 .u8),R .i64,R .i64],[.i64],.uniq,nA⟩
theorem s23:Sd 23 Cl:=sf (F:=P7) (ek trivial) Tryz.func23 λ a=>by kernel_rfl
def I8:=fe [(30,Y0)] []
def Ml:PF:=⟨[R (.pair .i64 .i64),R .i64],[.i64],.uniq,jU⟩
theorem NQ:Sd 111 Ml:=sf (F:=I8) (ek ⟨JI,trivial⟩) Tryz.func111 λ a=>by kernel_rfl
def I9:=fe [(184,QK)] [(2,[.slot 7 .i64 (.imm false),.box 1 q4 (.own true)])]
def kL:PF:=⟨[R (.sl 47 q4),R .i64,R .str],[q4],.uniq,aN⟩
theorem tR:Sd 112 kL:=sf (F:=I9) (ek ⟨dw,trivial⟩) Tryz.func112 λ a=>by kernel_rfl
def Oc:=fe [] [(3,[.slot 2 .i64 (.imm false),.box 2 q7 (.own true)])]
def rI:PF:=⟨[],[q7],.uniq,aA⟩
theorem EN:Sd 115 rI:=sf (F:=Oc) (ek trivial) Tryz.func115 λ a=>by kernel_rfl
def Od:=fe [(140,cO)] [(4,[.slot 3 (.sl 43 q5) (.own true),.slot 6 .i64 (.imm false)])]
def rJ:PF:=⟨[R .str],[(.sl 43 q5)],.uniq,aP⟩
theorem EO:Sd 116 rJ:=sf (F:=Od) (ek ⟨lY,trivial⟩) Tryz.func116 λ a=>by kernel_rfl
def Po:=fe [] []
def kV:PF:=⟨[R q7],[q7],.uniq,qe⟩
theorem t8:Sd 186 kV:=sf (F:=Po) (ek trivial) Tryz.func186 λ a=>by kernel_rfl
def Rj:=fe [(65,jZ)] [(4,[.slot 3 .i64 (.imm false)])]
def Cy:PF:=⟨[R q7],[.bool],.uniq,dI⟩
theorem abQ:Sd 241 Cy:=sf (F:=Rj) (ek ⟨Zd,trivial⟩) Tryz.func241 λ a=>by kernel_rfl
def Pp:=fe [(186,kV),(241,Cy),(203,NH)] []
def kW:PF:=⟨[R q7,R q5],[q7,.i64],.uniq,N2⟩
theorem ua:Sd 187 kW:=sf (F:=Pp) (ek ⟨t8,abQ,af,trivial⟩) Tryz.func187 λ a=>by kernel_rfl
def Ob:=fe [(186,kV),(187,kW)] [(4,[.slot 7 (.sl 3 .i64) (.own true),.slot 8 .i64 (.imm false),.box 7 q7 (.own true)])]
def rH:PF:=⟨[R q7,R (.sl 43 q5)],[q7,(.sl 3 .i64)],.uniq,aE⟩
theorem EM:Sd 114 rH:=sf (F:=Ob) (ek ⟨t8,ua,trivial⟩) Tryz.func114 λ a=>by kernel_rfl
def Of:=fe [(186,kV),(187,kW)] [(4,[.slot 5 (.sl 43 q5) (.own true),.slot 7 .i64 (.imm false),.box 7 q7 (.own true)])]
def BK:PF:=⟨[R (.sl 43 q5),R q7],[(.sl 43 q5)],.uniq,dO⟩
theorem aaZ:Sd 118 BK:=sf (F:=Of) (ek ⟨t8,ua,trivial⟩) Tryz.func118 λ a=>by kernel_rfl
def Rl:=fe [(203,NH),(293,sH)] [(3,[.slot 3 .str (.imm false),.slot 4 .i64 (.imm false)])]
def Cz:PF:=⟨[R (.sl 43 q5)],[.str],.uniq,nl⟩
theorem abR:Sd 243 Cz:=sf (F:=Rl) (ek ⟨af,Fu,trivial⟩) Tryz.func243 λ a=>by kernel_rfl
def Pq:=fe [(203,NH),(242,lc),(243,Cz),(70,Lr)] [(2,[.slot 7 .i64 (.imm false)])]
def sa:PF:=⟨[R .str,R .i64,R (.sl 43 q5)],[.str],.uniq,aD⟩
theorem E9:Sd 188 sa:=sf (F:=Pq) (ek ⟨af,ue,abR,Mv,trivial⟩) Tryz.func188 λ a=>by kernel_rfl
def Oe:=fe [(188,sa),(122,NB),(189,cU),(71,Kb)] []
def rK:PF:=⟨[R (.pair .i64 .i64),R q4,R .i64,R (.sl 43 q5)],[(.pair .str q4),.bool],.uniq,yk⟩
theorem EP:Sd 117 rK:=sf (F:=Oe) (ek ⟨E9,QZ,ma,KM,trivial⟩) Tryz.func117 λ a=>by kernel_rfl
def Tc:=fe [(66,Yi),(111,Ml),(112,kL),(113,kM),(115,rI),(116,rJ),(114,rH),(118,BK),(117,rK)] []
def lp:PF:=⟨[R (.pair .i64 .i64),R q1],[(.pair .str q4),.bool],.uniq,LD⟩
theorem uq:Sd 57 lp:=sf (F:=Tc) (ek ⟨YI,NQ,tR,tS,EN,EO,EM,aaZ,EP,trivial⟩) Tryz.func57 λ a=>by kernel_rfl
def Td:=fe [] [(2,[.slot 5 .i64 (.imm false)])]
def YC:PF:=⟨[R (.sl 3 .i64),R .i64],[.bool],.uniq,jL⟩
theorem Y5:Sd 58 YC:=sf (F:=Td) (ek trivial) Tryz.func58 λ a=>by kernel_rfl
def Te:=fe [(22,Lp),(52,ln)] []
def sR:PF:=⟨[(.ptr,q9)],[q5],.uniq,yt⟩
theorem FE:Sd 59 sR:=sf (F:=Te) (ek ⟨Mt,uo,trivial⟩) Tryz.func59 λ a=>by kernel_rfl
def Tf:=fe [] []
def NK:PF:=⟨[R .i64,R .i64],[.i64],.uniq,yl⟩
theorem ai:Sd 61 NK:=sf (F:=Tf) (ek trivial) Tryz.func61 λ a=>by kernel_rfl
def Pt:=fe [(58,YC)] [(4,[.slot 5 .i64 (.imm false)])]
def sb:PF:=⟨[R (.sl 3 .i64),R .i64],[(.sl 3 .i64)],.uniq,LI⟩
theorem Fa:Sd 191 sb:=sf (F:=Pt) (ek ⟨Y5,trivial⟩) Tryz.func191 λ a=>by kernel_rfl
def Og:=fe [(22,Lp),(188,sa),(61,NK),(53,pf53),(190,cV),(191,sb)] [(11,[.slot 7 (.sl 3 .i64) (.own true),.slot 9 .i64 (.imm false)])]
def pf119:PF:=⟨[(.ptr,q9),R q3],[q2],.uniq,ej⟩
theorem ab0:Sd 119 pf119:=sf (F:=Og) (ek ⟨Mt,E9,ai,mo,mb,Fa,trivial⟩) Tryz.func119 λ a=>by kernel_rfl
def Oi:=fe [] []
def pf121:PF:=⟨[],[q4],.uniq,mW⟩
theorem ab1:Sd 121 pf121:=sf (F:=Oi) (ek trivial) Tryz.func121 λ a=>by kernel_rfl
def Jd:=fe [(119,pf119),(120,pf120),(121,pf121),(53,pf53),(22,Lp),(122,NB),(61,NK),(111,Ml),(59,sR),(117,rK)] [(17,[.slot 8 .i64 (.imm false),.slot 9 .i64 (.imm false)])]
def pf60:PF:=⟨[(.ptr,q9),R q3],[q2],.uniq,aZ⟩
def kg:Code:=match Tryz.f60.body with|some b=>b|none=>.skip
def pG:Code:=ML kg
def pH:Code:=ML (Kj kg)
def pI:Code:=ML (Kj (Kj kg))
def pL:Code:=Kj (Kj (Kj kg))
def pJ:Code:=ML (ML pL)
def pF:Code:=Kj (ML pL)
def Qy:Code:=Kj pL
def pE:Code:=wE pF
def Xx:Code:=ML pE
def pK:Code:=ML (Kj pE)
def AM:Code:=wE (Kj (Kj pE))
def pM (a:yc pf60.params) (r0:zQ pf119.params pf119.rets) (r1:zQ pf120.params pf120.rets):St:=rn (fe [(119,oP pf119 r0),(120,oP pf120 r1)] []) (.seq pG (.seq pH (.seq pI pJ))) (en Tryz.f60 pf60.params a)
def AN (a:yc pf60.params) (r0:zQ pf119.params pf119.rets) (r1:zQ pf120.params pf120.rets) (r2:zQ pf121.params pf121.rets):St:=rgo (fe [(121,oP pf121 r2)] []) pK 0 5 (rn (fe [(121,oP pf121 r2)] []) Xx (pM a r0 r1))
def AO (a:yc pf60.params) (r0:zQ pf119.params pf119.rets) (r1:zQ pf120.params pf120.rets) (r2:zQ pf121.params pf121.rets):St:=rgo (fe [] []) pK 5 8 ((AN a r0 r1 r2).put (some 35) (.v (.one (.b false))))
def kh (a:yc pf60.params) (r0:zQ pf119.params pf119.rets) (r1:zQ pf120.params pf120.rets) (r2:zQ pf121.params pf121.rets) (r3:zQ pf53.params pf53.rets):St:=rgo (fe [(53,oP pf53 r3)] []) pK 5 8 ((AN a r0 r1 r2).put (some 35) (.v (.one (.b true))))
theorem XB (rest:Code) (a:yc pf60.params) {β:Type} (k:X->St->Option β):jJ Jd (.seq pG (.seq pH (.seq pI (.seq (.seq pJ pF) rest)))) (en Tryz.f60 pf60.params a) k=((ej (a.1,(a.2.1,()))).bind λ r0=>((JN (a.2.1.1,(r0.2.1.2.2.2.1,()))).bind λ r1=>(bif (!r1.1) then ((mW ()).bind λ r2=>(bif (decide ((((List.length a.2.1.2.2.1):Nat):Int)>0)) then ((MJ ((a.1.1,r0.1.2),(2,()))).bind λ r3=>(bif r3.2.1 then (jJ Jd (.seq AM rest) (kh a r0 r1 r2 r3) k) else (jJ Jd rest (kh a r0 r1 r2 r3) k))) else (jJ Jd rest (AO a r0 r1 r2) k))) else (jJ Jd rest (pM a r0 r1) k)))):=by kernel_rfl
theorem Xy (a:yc pf60.params) (r0:zQ pf119.params pf119.rets) (r1:zQ pf120.params pf120.rets) (r2:zQ pf121.params pf121.rets) (r3:zQ pf53.params pf53.rets):bF Jd Tryz.f60 pf60.params pf60.rets pf60.rk a (.seq AM Qy) (kh a r0 r1 r2 r3)=((zL ((a.1.1,r3.1.2),((((List.length a.2.1.2.2.1):Nat):Int),()))).bind λ r4=>(if ((0<=r4.2.1)/\(r4.2.1<(((List.length a.2.1.2.2.1):Nat):Int))) then ((Ki ((rd (.pair .i64 (.pair .i64 (.pair .i64 (.pair (.pair .i64 (.pair .i64 (.pair dh .str))) (.pair (.sl 0 q5) (.pair (.sl 0 dh) (.pair (.pair (.sl 0 .u8) .i64) (.sl 0 (.pair .i64 (.pair .i64 (.pair .i64 (.pair (.pair .str dh) (.pair dh (.pair dh (.pair .i64 q5))))))))))))))) a.2.1.2.2.1 (Int.toNat r4.2.1)).2.2.2.1.2.2.1,())).bind λ r5=>(vj (a,(r0,(r4,r5))))) else none)):=by kernel_rfl
theorem Xw (a:yc pf60.params) (r0:zQ pf119.params pf119.rets) (r1:zQ pf120.params pf120.rets) (r2:zQ pf121.params pf121.rets) (r3:zQ pf53.params pf53.rets):bF Jd Tryz.f60 pf60.params pf60.rets pf60.rk a Qy (kh a r0 r1 r2 r3)=vi (a,(r0,(r2,r3))):=by kernel_rfl
theorem Xz (a:yc pf60.params) (r0:zQ pf119.params pf119.rets) (r1:zQ pf120.params pf120.rets) (r2:zQ pf121.params pf121.rets):bF Jd Tryz.f60 pf60.params pf60.rets pf60.rk a Qy (AO a r0 r1 r2)=vk (a,(r0,r2)):=by kernel_rfl
theorem Xv (a:yc pf60.params) (r0:zQ pf119.params pf119.rets) (r1:zQ pf120.params pf120.rets):bF Jd Tryz.f60 pf60.params pf60.rets pf60.rk a Qy (pM a r0 r1)=vg (a,r0):=by kernel_rfl
theorem XA (a:yc pf60.params):fq Jd Tryz.f60 pf60.params pf60.rets pf60.rk a=bF Jd Tryz.f60 pf60.params pf60.rets pf60.rk a (.seq pG (.seq pH (.seq pI (.seq (.seq pJ pF) Qy)))) (en Tryz.f60 pf60.params a):=by kernel_rfl
theorem s60:Sd 60 pf60:=sf (F:=Jd) (ek ⟨ab0,Ms,ab1,mo,Mt,QZ,ai,NQ,FE,EP,trivial⟩) Tryz.func60 λ a=>(XA a).trans ((XB Qy a _).trans (bc λ r0=>bc λ r1=>cc (bc λ r2=>cc (bc λ r3=>cc (Xy a r0 r1 r2 r3) (Xw a r0 r1 r2 r3)) (Xz a r0 r1 r2)) (Xv a r0 r1)))
def Rh:=fe [(56,Mo),(22,Lp),(57,lp),(58,YC),(53,pf53),(52,ln),(59,sR),(60,pf60),(61,NK)] [(8,[.slot 7 .i64 (.imm false),.box 7 q8 (.own true)]),(19,[.slot 10 .i64 (.imm false),.box 7 q8 (.own true)])]
def Cw:PF:=⟨[(.ptr,q9),R q3],[q8],.uniq,nD⟩
theorem s24:Sd 24 Cw:=sf (F:=Rh) (ek ⟨NT,Mt,uq,Y5,mo,uo,FE,s60,ai,trivial⟩) Tryz.func24 λ a=>by kernel_rfl
def Su:=fe [(122,NB)] []
def Dk:PF:=⟨[R q4,R q4],[q4],.uniq,mX⟩
theorem acD:Sd 333 Dk:=sf (F:=Su) (ek ⟨QZ,trivial⟩) Tryz.func333 λ a=>by kernel_rfl
def Sv:=fe [(140,cO),(190,cV)] []
def Dl:PF:=⟨[R .str],[.str,.bool],.uniq,na⟩
theorem acE:Sd 334 Dl:=sf (F:=Sv) (ek ⟨lY,mb,trivial⟩) Tryz.func334 λ a=>by kernel_rfl
def Sw:=fe [(70,Lr)] []
def Dm:PF:=⟨[R .str,R .str],[.bool],.uniq,mI⟩
theorem acF:Sd 335 Dm:=sf (F:=Sw) (ek ⟨Mv,trivial⟩) Tryz.func335 λ a=>by kernel_rfl
def R8:=fe [(107,cI),(131,NC),(120,pf120),(333,Dk),(190,cV),(71,Kb),(56,Mo),(334,Dl),(335,Dm)] []
def lh:PF:=⟨[R (.pair .i64 .i64),R q6,R q4],[q6],.uniq,aK⟩
theorem ui:Sd 302 lh:=sf (F:=R8) (ek ⟨lS,Q0,Ms,acD,mb,KM,NT,acE,acF,trivial⟩) Tryz.func302 λ a=>by kernel_rfl
def R9:=fe [(131,NC),(189,cU),(71,Kb)] []
def sK:PF:=⟨[R (.pair .i64 .i64),R q6,R (.pair .str q4)],[.bool],.uniq,dK⟩
theorem Fx:Sd 303 sK:=sf (F:=R9) (ek ⟨Q0,ma,KM,trivial⟩) Tryz.func303 λ a=>by kernel_rfl
def Sa:=fe [(107,cI),(303,sK),(71,Kb)] []
def C5:PF:=⟨[R (.pair .i64 .i64),R q6,R (.pair .str q4)],[q6,.bool],.uniq,dY⟩
theorem aco:Sd 304 C5:=sf (F:=Sa) (ek ⟨lS,Fx,KM,trivial⟩) Tryz.func304 λ a=>by kernel_rfl
def Sx:=fe [(315,lj)] []
def Dn:PF:=⟨[R q6,R q6],[.bool],.uniq,m7⟩
theorem acG:Sd 336 Dn:=sf (F:=Sx) (ek ⟨ul,trivial⟩) Tryz.func336 λ a=>by kernel_rfl
def R3:=fe [(65,jZ)] [(4,[.slot 0 .i64 (.imm false),.slot 3 (.sl 5 .u8) (.own true)])]
def NJ:PF:=⟨[R .i64],[(.sl 5 .u8)],.uniq,Z3⟩
theorem ah:Sd 298 NJ:=sf (F:=R3) (ek ⟨Zd,trivial⟩) Tryz.func298 λ a=>by kernel_rfl
def R4:=fe [(298,NJ)] []
def lg:PF:=⟨[R .str],[(.sl 5 .u8)],.uniq,N4⟩
theorem uh:Sd 299 lg:=sf (F:=R4) (ek ⟨ah,trivial⟩) Tryz.func299 λ a=>by kernel_rfl
def R6:=fe [(120,pf120),(298,NJ),(299,lg)] [(6,[.slot 5 (.sl 5 .u8) (.own true),.slot 6 .i64 (.imm false)])]
def sJ:PF:=⟨[R (.pair .i64 .i64),R q4],[(.sl 5 .u8)],.uniq,aF⟩
theorem Fw:Sd 300 sJ:=sf (F:=R6) (ek ⟨Ms,ah,uh,trivial⟩) Tryz.func300 λ a=>by kernel_rfl
def SL:=fe [(131,NC),(298,NJ),(300,sJ),(299,lg)] []
def Dy:PF:=⟨[R (.pair .i64 .i64),R q6],[(.sl 5 .u8)],.uniq,mZ⟩
theorem acR:Sd 354 Dy:=sf (F:=SL) (ek ⟨Q0,ah,Fw,uh,trivial⟩) Tryz.func354 λ a=>by kernel_rfl
def Sz:=fe [(354,Dy),(298,NJ)] []
def Dp:PF:=⟨[R (.pair .i64 .i64),R q6],[(.sl 5 .u8)],.uniq,mR⟩
theorem acI:Sd 338 Dp:=sf (F:=Sz) (ek ⟨acR,ah,trivial⟩) Tryz.func338 λ a=>by kernel_rfl
def Sy:=fe [(109,cJ),(134,cM)] []
def Do:PF:=⟨[R Zp,R (.sl 5 .u8)],[Zp,.bool],.uniq,mC⟩
theorem acH:Sd 337 Do:=sf (F:=Sy) (ek ⟨lT,lW,trivial⟩) Tryz.func337 λ a=>by kernel_rfl
def vS:=fe [(336,Dn),(338,Dp),(337,Do),(131,NC),(107,cI)] []
def pf305:PF:=⟨[R (.pair .i64 .i64),(.own,q1),R q6],[q1,.bool],.own,Ja⟩
theorem Vd (a:yc pf305.params):fu vS Tryz.f305 pf305.params pf305.rets pf305.rk a=pf305.fn a:=by kernel_rfl
theorem uj:K0 Tryz.prog GLB 305 pf305:=Gv (F:=vS) (ek ⟨acG,acI,acH,Q0,lS,trivial⟩) Tryz.func305 (by kernel_rfl) (by rfl) (λ a o h=>(Vd a).trans h)
def SF:=fe [(191,sb)] [(3,[.slot 5 (.sl 3 .i64) (.own true),.slot 6 .i64 (.imm false)]),(7,[.slot 5 (.sl 3 .i64) (.own true),.slot 7 .i64 (.imm false)])]
def Dt:PF:=⟨[R (.sl 3 .i64),R (.sl 3 .i64)],[(.sl 3 .i64)],.uniq,m9⟩
theorem acM:Sd 343 Dt:=sf (F:=SF) (ek ⟨Fa,trivial⟩) Tryz.func343 λ a=>by kernel_rfl
def Sj:=fe [(343,Dt)] []
def Dc:PF:=⟨[R q4,R q4],[q4,.bool],.uniq,mS⟩
theorem acv:Sd 312 Dc:=sf (F:=Sj) (ek ⟨acM,trivial⟩) Tryz.func312 λ a=>by kernel_rfl
def Rz:=fe [(184,QK),(206,su),(312,Dc),(133,rO),(205,cY),(108,rF)] [(4,[.slot 8 (.sl 47 q4) (.own true),.slot 9 .bool (.imm false),.slot 10 .i64 (.imm false)])]
def cZ:PF:=⟨[R (.pair .i64 .i64),R (.sl 47 q4),R q4],[(.sl 47 q4),.bool],.uniq,N7⟩
theorem mh:Sd 256 cZ:=sf (F:=Rz) (ek ⟨dw,Fi,acv,EU,mg,EK,trivial⟩) Tryz.func256 λ a=>by kernel_rfl
def SM:=fe [(120,pf120)] []
def Dz:PF:=⟨[R (.pair .i64 .i64),R q4],[q4,.bool],.uniq,mT⟩
theorem acS:Sd 355 Dz:=sf (F:=SM) (ek ⟨Ms,trivial⟩) Tryz.func355 λ a=>by kernel_rfl
def RA:=fe [(135,ND),(65,jZ),(185,rZ)] []
def c6:PF:=⟨[R (.pair .i64 .i64),(.own,q1),R .i64,R q2],[q1,.bool],.own,LL⟩
theorem mi:Sd 257 c6:=sf (F:=RA) (ek ⟨aa,Zd,E8,trivial⟩) Tryz.func257 λ a=>by kernel_rfl
def SA:jk:=⟨⟨TYS,[(355,Dz),(302,lh),(56,Mo),(111,Ml),(257,c6)],EQS,[],[],false,[(305,pf305)],[],[],false⟩,[]⟩
def Dq:PF:=⟨[R (.pair .i64 .i64),(.own,q1),R q4],[q1,.bool],.own,nw⟩
theorem acJ:Sd 339 Dq:=sf (F:=SA) (K6 ⟨acS,ui,NT,NQ,mi,trivial⟩ trivial trivial uj trivial trivial) Tryz.func339 λ a=>by kernel_rfl
def SN:=fe [(30,Y0),(65,jZ)] []
def ll:PF:=⟨[R (.pair .i64 .i64),R .i64,R .i64],[.i64],.uniq,aJ⟩
theorem um:Sd 356 ll:=sf (F:=SN) (ek ⟨JI,Zd,trivial⟩) Tryz.func356 λ a=>by kernel_rfl
def SQ:=fe [(30,Y0),(65,jZ)] []
def DC:PF:=⟨[R (.pair .i64 .i64),R .i64,R .i64],[.i64],.uniq,ne⟩
theorem acV:Sd 359 DC:=sf (F:=SQ) (ek ⟨JI,Zd,trivial⟩) Tryz.func359 λ a=>by kernel_rfl
def SE:=fe [(356,ll),(359,DC)] []
def sL:PF:=⟨[R (.pair .i64 .i64),R .i64,R .i64],[.i64],.uniq,aQ⟩
theorem Fy:Sd 342 sL:=sf (F:=SE) (ek ⟨um,acV,trivial⟩) Tryz.func342 λ a=>by kernel_rfl
def SO:=fe [(356,ll),(342,sL)] [(2,[.slot 2 .i64 (.imm false),.slot 7 (.sl 3 .i64) (.own true)])]
def DA:PF:=⟨[R (.pair .i64 .i64),R .i64,R .i64],[(.sl 3 .i64)],.uniq,np⟩
theorem acT:Sd 357 DA:=sf (F:=SO) (ek ⟨um,Fy,trivial⟩) Tryz.func357 λ a=>by kernel_rfl
def SC:=fe [(30,Y0),(356,ll),(357,DA),(58,YC)] [(5,[.slot 7 (.sl 3 .i64) (.own true),.slot 8 .i64 (.imm false)])]
def Dr:PF:=⟨[R (.pair .i64 .i64),R .i64,R .i64],[(.sl 3 .i64)],.uniq,nn⟩
theorem acK:Sd 340 Dr:=sf (F:=SC) (ek ⟨JI,um,acT,Y5,trivial⟩) Tryz.func340 λ a=>by kernel_rfl
def SP:=fe [] []
def DB:PF:=⟨[R .bool],[.i64],.uniq,ve⟩
theorem acU:Sd 358 DB:=sf (F:=SP) (ek trivial) Tryz.func358 λ a=>by kernel_rfl
def SD:=fe [(58,YC),(358,DB)] [(3,[.slot 5 .i64 (.imm false),.slot 6 .i64 (.imm false)])]
def Ds:PF:=⟨[R (.sl 3 .i64),R (.sl 3 .i64)],[.i64],.uniq,mF⟩
theorem acL:Sd 341 Ds:=sf (F:=SD) (ek ⟨Y5,acU,trivial⟩) Tryz.func341 λ a=>by kernel_rfl
def Sf:=fe [(112,kL),(111,Ml),(339,Dq),(340,Dr),(341,Ds),(342,sL),(257,c6)] []
def li:PF:=⟨[R (.pair .i64 .i64),(.own,q1),R .i64,R .str,R .bool],[q1,.bool],.own,aX⟩
theorem uk:Sd 309 li:=sf (F:=Sf) (ek ⟨tR,NQ,acJ,acK,acL,Fy,mi,trivial⟩) Tryz.func309 λ a=>by kernel_rfl
def Sb:=fe [(71,Kb),(256,cZ),(54,ZD),(309,li)] []
def C6:PF:=⟨[R (.pair .i64 .i64),R q1,R .str],[q1,.bool],.shared,qd⟩
theorem acp:Sd 306 C6:=sf (F:=Sb) (ek ⟨KM,mh,Z2,uk,trivial⟩) Tryz.func306 λ a=>by kernel_rfl
def Ru:jk:=⟨⟨TYS,[(54,ZD),(66,Yi),(189,cU),(302,lh),(71,Kb),(303,sK),(304,C5),(306,C6)],EQS,[],[],false,[(305,pf305)],[],[],false⟩,[]⟩
def ld:PF:=⟨[R (.pair .i64 .i64),R q1,R (.pair .str q4)],[q1,.bool],.shared,ay⟩
theorem uf:Sd 251 ld:=sf (F:=Ru) (K6 ⟨Z2,YI,ma,ui,KM,Fx,aco,acp,trivial⟩ trivial trivial uj trivial trivial) Tryz.func251 λ a=>by kernel_rfl
def RZ:=fe [(54,ZD),(66,Yi),(205,cY),(256,cZ),(309,li)] []
def C1:PF:=⟨[R (.pair .i64 .i64),R q1,R q4],[q1,.bool],.own,mL⟩
theorem ack:Sd 294 C1:=sf (F:=RZ) (ek ⟨Z2,YI,mg,mh,uk,trivial⟩) Tryz.func294 λ a=>by kernel_rfl
def R0:jk:=⟨⟨TYS,[(54,ZD),(66,Yi),(65,jZ),(120,pf120),(302,lh),(111,Ml),(256,cZ),(112,kL),(113,kM),(56,Mo),(61,NK)],EQS,[],[],false,[(305,pf305)],[],[],false⟩,[]⟩
def C2:PF:=⟨[R (.pair .i64 .i64),R q1,R .i64,R q4,R .i64],[q1,.bool],.own,mN⟩
theorem acl:Sd 295 C2:=sf (F:=R0) (K6 ⟨Z2,YI,Zd,Ms,ui,NQ,mh,tR,tS,NT,ai,trivial⟩ trivial trivial uj trivial trivial) Tryz.func295 λ a=>by kernel_rfl
def Ss:=fe [(204,ss),(132,rN)] [(2,[.slot 6 .i64 (.imm false)])]
def Dj:PF:=⟨[R (.sl 43 q5),R q5],[(.sl 43 q5),.bool],.uniq,mU⟩
theorem acC:Sd 332 Dj:=sf (F:=Ss) (ek ⟨Fh,ES,trivial⟩) Tryz.func332 λ a=>by kernel_rfl
def R1:=fe [(54,ZD),(66,Yi),(332,Dj)] []
def C3:PF:=⟨[R (.pair .i64 .i64),R q1,R q5],[q1,.bool],.uniq,mM⟩
theorem acm:Sd 296 C3:=sf (F:=R1) (ek ⟨Z2,YI,acC,trivial⟩) Tryz.func296 λ a=>by kernel_rfl
def Rm:=fe [(251,ld),(294,C1),(295,C2),(296,C3)] []
def CA:PF:=⟨[R (.pair .i64 .i64),R q1,R q2],[q1,.bool],.shared,ny⟩
theorem abS:Sd 244 CA:=sf (F:=Rm) (ek ⟨uf,ack,acl,acm,trivial⟩) Tryz.func244 λ a=>by kernel_rfl
def Rn:=fe [(184,QK)] [(3,[.slot 5 (.sl 47 q4) (.own true),.slot 6 .i64 (.imm false)])]
def CB:PF:=⟨[R (.sl 47 q4),R .i64],[(.sl 47 q4)],.uniq,nj⟩
theorem abT:Sd 245 CB:=sf (F:=Rn) (ek ⟨dw,trivial⟩) Tryz.func245 λ a=>by kernel_rfl
def Rp:=fe [(66,Yi),(115,rI),(116,rJ),(114,rH)] []
def CD:PF:=⟨[R (.pair .i64 .i64),R q1],[q7],.uniq,dS⟩
theorem abV:Sd 247 CD:=sf (F:=Rp) (ek ⟨YI,EN,EO,EM,trivial⟩) Tryz.func247 λ a=>by kernel_rfl
def Ro:=fe [(187,kW)] [(3,[.slot 5 (.sl 43 q5) (.own true),.slot 6 .i64 (.imm false)])]
def CC:PF:=⟨[R (.sl 43 q5),R q7],[(.sl 43 q5)],.uniq,dN⟩
theorem abU:Sd 246 CC:=sf (F:=Ro) (ek ⟨ua,trivial⟩) Tryz.func246 λ a=>by kernel_rfl
def Pu:=fe [(66,Yi),(135,ND),(54,ZD),(244,CA),(245,CB),(247,CD),(246,CC)] []
def cW:PF:=⟨[R (.pair .i64 .i64),R q1,R q2],[q1,.bool],.shared,LE⟩
theorem mc:Sd 192 cW:=sf (F:=Pu) (ek ⟨YI,aa,Z2,abS,abT,abV,abU,trivial⟩) Tryz.func192 λ a=>by kernel_rfl
def Ok:jk:=⟨⟨TYS,[(65,jZ),(58,YC),(69,lw),(192,cW)],EQS,[],[],true,[],[],[],false⟩,[]⟩
def BL:PF:=⟨[(.own,q3),R q8],[q3,.i64],.own,ba⟩
theorem ab2:Sd 123 BL:=sf (F:=Ok) (ek ⟨Zd,Y5,uu,mc,trivial⟩) Tryz.func123 λ a=>by kernel_rfl
def IR:=fe [(65,jZ),(58,YC),(69,lw),(192,cW)] []
def BE:PF:=⟨[R q3,R q8],[q3,.i64],.shared,bd⟩
theorem aaT:Sd 123 BE:=sf (F:=IR) (ek ⟨Zd,Y5,uu,mc,trivial⟩) Tryz.func123 λ a=>by kernel_rfl
def R2:=fe [] [(2,[.slot 9 .i64 (.imm false)])]
def sI:PF:=⟨[R Lw,R .i64,R .str,R .i64],[.bool],.uniq,ec⟩
theorem Fv:Sd 297 sI:=sf (F:=R2) (ek trivial) Tryz.func297 λ a=>by kernel_rfl
def Rq:=fe [(58,YC),(297,sI)] [(2,[.slot 11 .i64 (.imm false)])]
def CE:PF:=⟨[R (.sl 3 .i64),R Lw,R .i64,R .str,R (.sl 3 .i64)],[.bool],.uniq,aM⟩
theorem abW:Sd 248 CE:=sf (F:=Rq) (ek ⟨Y5,Fv,trivial⟩) Tryz.func248 λ a=>by kernel_rfl
def Pv:=fe [(135,ND),(71,Kb),(111,Ml),(58,YC),(248,CE)] []
def se:PF:=⟨[R (.pair .i64 .i64),R (.sl 3 .i64),R Lw,R q2],[.bool],.uniq,dJ⟩
theorem Fb:Sd 193 se:=sf (F:=Pv) (ek ⟨aa,KM,NQ,Y5,abW,trivial⟩) Tryz.func193 λ a=>by kernel_rfl
def R7:=fe [(298,NJ)] [(3,[.slot 3 (.sl 5 .u8) (.own true),.slot 4 .i64 (.imm false)])]
def C4:PF:=⟨[R (.sl 3 .i64)],[(.sl 5 .u8)],.uniq,aW⟩
theorem acn:Sd 301 C4:=sf (F:=R7) (ek ⟨ah,trivial⟩) Tryz.func301 λ a=>by kernel_rfl
def Rr:=fe [(135,ND),(298,NJ),(299,lg),(300,sJ),(301,C4)] []
def CF:PF:=⟨[R (.pair .i64 .i64),R q2],[(.sl 5 .u8)],.uniq,mQ⟩
theorem abX:Sd 249 CF:=sf (F:=Rr) (ek ⟨aa,ah,uh,Fw,acn,trivial⟩) Tryz.func249 λ a=>by kernel_rfl
def Pw:=fe [(249,CF),(65,jZ)] [(2,[.slot 5 .i64 (.imm false),.box 5 q3 (.own false)])]
def cX:PF:=⟨[(.own,q3),R JD],[q3],.own,eh⟩
theorem md:Sd 194 cX:=sf (F:=Pw) (ek ⟨abX,Zd,trivial⟩) Tryz.func194 λ a=>by kernel_rfl
def Ol:=fe [(65,jZ),(193,se),(194,cX)] []
def BM:PF:=⟨[(.own,q3),R q8],[q3,.i64],.own,nF⟩
theorem ab3:Sd 124 BM:=sf (F:=Ol) (ek ⟨Zd,Fb,md,trivial⟩) Tryz.func124 λ a=>by kernel_rfl
def IS:=fe [(65,jZ),(193,se),(194,cX)] []
def BF:PF:=⟨[R q3,R q8],[q3,.i64],.shared,nG⟩
theorem aaU:Sd 124 BF:=sf (F:=IS) (ek ⟨Zd,Fb,md,trivial⟩) Tryz.func124 λ a=>by kernel_rfl
def Om:=fe [(58,YC)] [(3,[.slot 3 (.sl 3 .i64) (.own true),.slot 4 .i64 (.imm false)])]
def kN:PF:=⟨[R q3],[(.sl 3 .i64)],.uniq,az⟩
theorem tT:Sd 125 kN:=sf (F:=Om) (ek ⟨Y5,trivial⟩) Tryz.func125 λ a=>by kernel_rfl
def Rt:=fe [(54,ZD),(66,Yi),(257,c6)] [(5,[.slot 9 .i64 (.imm false),.box 11 q1 (.own true),.box 17 q1 (.own false)])]
def sD:PF:=⟨[R (.pair .i64 .i64),R q1,R q2],[q1,.bool],.own,dV⟩
theorem Fq:Sd 250 sD:=sf (F:=Rt) (ek ⟨Z2,YI,mi,trivial⟩) Tryz.func250 λ a=>by kernel_rfl
def Px:=fe [(57,lp),(54,ZD),(250,sD),(251,ld)] []
def B9:PF:=⟨[(.own,q3),R .i64],[q3,.i64],.own,nB⟩
theorem abq:Sd 195 B9:=sf (F:=Px) (ek ⟨uq,Z2,Fq,uf,trivial⟩) Tryz.func195 λ a=>by kernel_rfl
def IU:=fe [(57,lp),(54,ZD),(250,sD),(251,ld)] []
def BH:PF:=⟨[R q3,R .i64],[q3,.i64],.shared,nC⟩
theorem aaW:Sd 195 BH:=sf (F:=IU) (ek ⟨uq,Z2,Fq,uf,trivial⟩) Tryz.func195 λ a=>by kernel_rfl
def Sc:=fe [(109,cJ),(134,cM)] []
def C7:PF:=⟨[R Zp],[Zp],.uniq,nh⟩
theorem acq:Sd 307 C7:=sf (F:=Sc) (ek ⟨lT,lW,trivial⟩) Tryz.func307 λ a=>by kernel_rfl
def Rv:=fe [(54,ZD),(66,Yi),(307,C7),(110,rG)] []
def sE:PF:=⟨[R (.pair .i64 .i64),R q1],[q1,JD],.uniq,dU⟩
theorem Fr:Sd 252 sE:=sf (F:=Rv) (ek ⟨Z2,YI,acq,EL,trivial⟩) Tryz.func252 λ a=>by kernel_rfl
def Se:=fe [(58,YC)] []
def C8:PF:=⟨[R .i64,R q2],[Lw],.uniq,m8⟩
theorem acr:Sd 308 C8:=sf (F:=Se) (ek ⟨Y5,trivial⟩) Tryz.func308 λ a=>by kernel_rfl
def Rw:=fe [(21,sv),(125,kN),(58,YC),(308,C8),(297,sI)] [(5,[.slot 8 .i64 (.imm false),.box 11 q3 (.own true)]),(9,[.slot 10 .i64 (.imm false),.box 11 q3 (.own true)])]
def sF:PF:=⟨[R q3,R .i64,R JD],[q3],.uniq,mP⟩
theorem Fs:Sd 253 sF:=sf (F:=Rw) (ek ⟨Fj,tT,Y5,acr,Fv,trivial⟩) Tryz.func253 λ a=>by kernel_rfl
def Py:=fe [(252,sE),(253,sF),(194,cX)] []
def Ca:PF:=⟨[(.own,q3),R .i64],[q3,.i64],.own,nN⟩
theorem abr:Sd 196 Ca:=sf (F:=Py) (ek ⟨Fr,Fs,md,trivial⟩) Tryz.func196 λ a=>by kernel_rfl
def IV:=fe [(252,sE),(253,sF),(194,cX)] []
def BI:PF:=⟨[R q3,R .i64],[q3,.i64],.shared,nO⟩
theorem aaX:Sd 196 BI:=sf (F:=IV) (ek ⟨Fr,Fs,md,trivial⟩) Tryz.func196 λ a=>by kernel_rfl
def Rx:=fe [(66,Yi),(54,ZD),(309,li)] []
def sG:PF:=⟨[R (.pair .i64 .i64),R q1,R .i64,R .str,R .bool],[q1,.bool],.own,dG⟩
theorem Ft:Sd 254 sG:=sf (F:=Rx) (ek ⟨YI,Z2,uk,trivial⟩) Tryz.func254 λ a=>by kernel_rfl
def Pz:=fe [(254,sG)] [(3,[.slot 7 .i64 (.imm false),.box 4 q3 (.own false),.box 5 q3 (.own true)])]
def Cb:PF:=⟨[(.own,q3),R .i64],[q3,.i64],.own,nL⟩
theorem abs:Sd 197 Cb:=sf (F:=Pz) (ek ⟨Ft,trivial⟩) Tryz.func197 λ a=>by kernel_rfl
def IW:=fe [(254,sG)] [(3,[.slot 7 .i64 (.imm false),.box 4 q3 (.imm false),.box 5 q3 (.own true)])]
def BJ:PF:=⟨[R q3,R .i64],[q3,.i64],.shared,nM⟩
theorem aaY:Sd 197 BJ:=sf (F:=IW) (ek ⟨Ft,trivial⟩) Tryz.func197 λ a=>by kernel_rfl
def PA:=fe [(109,cJ),(134,cM),(61,NK),(56,Mo)] []
def sg:PF:=⟨[R Zp,R .i64],[Zp],.uniq,dH⟩
theorem Fc:Sd 198 sg:=sf (F:=PA) (ek ⟨lT,lW,ai,NT,trivial⟩) Tryz.func198 λ a=>by kernel_rfl
def Sh:=fe [] []
def Da:PF:=⟨[],[q6],.uniq,uW⟩
theorem act:Sd 310 Da:=sf (F:=Sh) (ek trivial) Tryz.func310 λ a=>by kernel_rfl
def Si:=fe [(136,cN),(138,rP),(137,kP),(131,NC)] []
def Db:PF:=⟨[R (.pair .i64 .i64),R (.sl 5 .u8)],[q6,.bool],.uniq,m0⟩
theorem acu:Sd 311 Db:=sf (F:=Si) (ek ⟨lX,EV,tV,Q0,trivial⟩) Tryz.func311 λ a=>by kernel_rfl
def Ry:=fe [(310,Da),(208,kX),(311,Db)] [(3,[.slot 7 .i64 (.imm false),.box 2 q6 (.own true),.box 4 q6 (.own true)])]
def CH:PF:=⟨[R (.pair .i64 .i64),R (.sl 5 .u8)],[q6,.i64],.uniq,mO⟩
theorem abZ:Sd 255 CH:=sf (F:=Ry) (ek ⟨act,ub,acu,trivial⟩) Tryz.func255 λ a=>by kernel_rfl
def PB:=fe [(66,Yi),(54,ZD),(255,CH),(56,Mo),(61,NK)] []
def sh:PF:=⟨[R (.pair .i64 .i64),R q1],[q1],.uniq,dP⟩
theorem Fd:Sd 199 sh:=sf (F:=PB) (ek ⟨YI,Z2,abZ,NT,ai,trivial⟩) Tryz.func199 λ a=>by kernel_rfl
def PD:=fe [(54,ZD),(66,Yi),(111,Ml),(256,cZ),(257,c6)] []
def sn:PF:=⟨[R (.pair .i64 .i64),R q1],[q1,.bool],.own,N1⟩
theorem Fe:Sd 200 sn:=sf (F:=PD) (ek ⟨Z2,YI,NQ,mh,mi,trivial⟩) Tryz.func200 λ a=>by kernel_rfl
def On:=fe [(195,B9),(196,Ca),(197,Cb),(54,ZD),(198,sg),(199,sh),(200,sn),(192,cW)] []
def BN:PF:=⟨[(.own,q3),R q8],[q3,.i64],.own,nI⟩
theorem ab4:Sd 126 BN:=sf (F:=On) (ek ⟨abq,abr,abs,Z2,Fc,Fd,Fe,mc,trivial⟩) Tryz.func126 λ a=>by kernel_rfl
def IT:=fe [(195,BH),(196,BI),(197,BJ),(54,ZD),(198,sg),(199,sh),(200,sn),(192,cW)] []
def BG:PF:=⟨[R q3,R q8],[q3,.i64],.shared,nJ⟩
theorem aaV:Sd 126 BG:=sf (F:=IT) (ek ⟨aaW,aaX,aaY,Z2,Fc,Fd,Fe,mc,trivial⟩) Tryz.func126 λ a=>by kernel_rfl
def Tg:=fe [(123,BL),(124,BM),(125,kN),(58,YC),(126,BN)] []
def DM:PF:=⟨[(.own,q3),R q8],[q3,.i64],.own,nH⟩
theorem s62:Sd 62 DM:=sf (F:=Tg) (ek ⟨ab2,ab3,tT,Y5,ab4,trivial⟩) Tryz.func62 λ a=>by kernel_rfl
def IQ:=fe [(123,BE),(124,BF),(125,kN),(58,YC),(126,BG)] []
def BD:PF:=⟨[R q3,R q8],[q3,.i64],.shared,eo⟩
theorem aaS:Sd 62 BD:=sf (F:=IQ) (ek ⟨aaT,aaU,tT,Y5,aaV,trivial⟩) Tryz.func62 λ a=>by kernel_rfl
def Rs:jk:=⟨⟨TYS,[(62,DM)],EQS,[],[],false,[],[],[(62,BD)],false⟩,[]⟩
def CG:PF:=⟨[(.own,q3),R q8],[q3],.own,nK⟩
theorem s25:Sd 25 CG:=sf (F:=Rs) (K6 ⟨s62,trivial⟩ trivial trivial trivial trivial ⟨aaS,trivial⟩) Tryz.func25 λ a=>by kernel_rfl
def F7:jk:=⟨⟨TYS,[(20,Cc),(21,sv),(23,Cl),(22,Lp),(24,Cw),(25,CG)],EQS,[(19,B8)],[],false,[],[],[],true⟩,[(7,[.slot 7 (.sl 58 q8) (.own false),.slot 9 .i64 (.imm false),.keep 2 q9 [4,0,0],.box 13 q3 (.own false)])]⟩
def DO:PF:=⟨[R (.sl 5 .u8)],[q3,(.sl 58 q8)],.own,mH⟩
theorem s7:Sd 7 DO:=sf (F:=F7) (K6 ⟨s20,Fj,s23,Mt,s24,s25,trivial⟩ ⟨s19,trivial⟩ trivial trivial trivial trivial) Tryz.func7 λ a=>by kernel_rfl
def RD:=fe [] []
def NI:PF:=⟨[R (.sl 3 .i64)],[(.sl 3 .i64)],.uniq,Ju⟩
theorem ag:Sd 26 NI:=sf (F:=RD) (ek trivial) Tryz.func26 λ a=>by kernel_rfl
def SV:=fe [] []
def Za:PF:=⟨[R .i64,R .i64,R .i64],[.bool],.uniq,yo⟩
theorem Zq:Sd 40 Za:=sf (F:=SV) (ek trivial) Tryz.func40 λ a=>by kernel_rfl
def RF:=fe [(40,Za)] []
def JA:PF:=⟨[R (.pair .i64 .i64)],[.bool],.uniq,Yz⟩
theorem Kf:Sd 27 JA:=sf (F:=RF) (ek ⟨Zq,trivial⟩) Tryz.func27 λ a=>by kernel_rfl
def O1:=fe [] []
def rV:PF:=⟨[],[q4],.uniq,Qg⟩
theorem E4:Sd 165 rV:=sf (F:=O1) (ek trivial) Tryz.func165 λ a=>by kernel_rfl
def P0:=fe [] [(4,[.slot 13 .i64 (.imm false)])]
def sB:PF:=⟨[R (.sl 3 .i64),R (.sl 3 .i64)],[.bool],.uniq,dE⟩
theorem Fo:Sd 224 sB:=sf (F:=P0) (ek trivial) Tryz.func224 λ a=>by kernel_rfl
def O0:=fe [(224,sB)] []
def QI:PF:=⟨[R q4,R q4],[.bool],.uniq,Lc⟩
theorem dt:Sd 164 QI:=sf (F:=O0) (ek ⟨Fo,trivial⟩) Tryz.func164 λ a=>by kernel_rfl
def Tv:=fe [(151,BR)] []
def sX:PF:=⟨[R .str,R .u8],[(.sl 9 .str)],.uniq,cg⟩
theorem FJ:Sd 78 sX:=sf (F:=Tv) (ek ⟨ab8,trivial⟩) Tryz.func78 λ a=>by kernel_rfl
def SR:=fe [(75,DQ)] []
def lm:PF:=⟨[R .i64],[.str],.uniq,Kx⟩
theorem un:Sd 36 lm:=sf (F:=SR) (ek ⟨s75,trivial⟩) Tryz.func36 λ a=>by kernel_rfl
def Tw:=fe [(36,lm)] [(5,[.slot 4 .i64 (.imm false),.slot 5 .i64 (.imm false)])]
def sZ:PF:=⟨[R .str],[.i64,.bool],.uniq,bX⟩
theorem FL:Sd 80 sZ:=sf (F:=Tw) (ek ⟨un,trivial⟩) Tryz.func80 λ a=>by kernel_rfl
def SI:=fe [(40,Za)] []
def Mn:PF:=⟨[R q5],[.bool],.uniq,J5⟩
theorem NS:Sd 35 Mn:=sf (F:=SI) (ek ⟨Zq,trivial⟩) Tryz.func35 λ a=>by kernel_rfl
def Tu:=fe [(35,Mn),(36,lm)] []
def sW:PF:=⟨[R q5],[.str],.uniq,Qn⟩
theorem FI:Sd 76 sW:=sf (F:=Tu) (ek ⟨NS,un,trivial⟩) Tryz.func76 λ a=>by kernel_rfl
def OO:=fe [(79,sY),(80,sZ),(35,Mn),(76,sW)] [(6,[.slot 40 .i64 (.imm false),.row 1 3 .i64 (.own true)])]
def BS:PF:=⟨[R .str],[q5,.bool],.uniq,cj⟩
theorem ab9:Sd 153 BS:=sf (F:=OO) (ek ⟨FK,FL,NS,FI,trivial⟩) Tryz.func153 λ a=>by kernel_rfl
def Tx:=fe [(78,sX),(153,BS)] [(5,[.slot 4 (.sl 43 q5) (.own true),.slot 14 .i64 (.imm false)])]
def DS:PF:=⟨[R .str],[(.sl 43 q5),.bool],.uniq,gA⟩
theorem s81:Sd 81 DS:=sf (F:=Tx) (ek ⟨FJ,ab9,trivial⟩) Tryz.func81 λ a=>by kernel_rfl
def SU:=fe [(78,sX),(79,sY),(80,sZ),(81,DS),(40,Za)] [(9,[.slot 5 lD (.own true),.slot 6 .i64 (.imm false),.slot 33 .i64 (.imm false)])]
def c8:PF:=⟨[R .str],[lD,.bool],.uniq,Ni⟩
theorem ml:Sd 39 c8:=sf (F:=SU) (ek ⟨FJ,FK,FL,s81,Zq,trivial⟩) Tryz.func39 λ a=>by kernel_rfl
def ST:=fe [(39,c8)] []
def Lq:PF:=⟨[R .str],[.bool],.uniq,Jr⟩
theorem Mu:Sd 38 Lq:=sf (F:=ST) (ek ⟨ml,trivial⟩) Tryz.func38 λ a=>by kernel_rfl
def OF:=fe [(39,c8)] []
def KF:PF:=⟨[R .str],[.i64],.uniq,Jt⟩
theorem LA:Sd 14 KF:=sf (F:=OF) (ek ⟨ml,trivial⟩) Tryz.func14 λ a=>by kernel_rfl
def Th:=fe [] [(2,[.slot 9 .i64 (.imm false)])]
def lq:PF:=⟨[R .i64,R (.sl 3 .i64)],[.bool],.uniq,Nh⟩
theorem ur:Sd 63 lq:=sf (F:=Th) (ek trivial) Tryz.func63 λ a=>by kernel_rfl
def Ph:=fe [(27,JA)] []
def kT:PF:=⟨[R (.pair .i64 .i64)],[.i64],.uniq,M9⟩
theorem tZ:Sd 18 kT:=sf (F:=Ph) (ek ⟨Kf,trivial⟩) Tryz.func18 λ a=>by kernel_rfl
def IY:=fe [(27,JA),(18,kT)] []
def rD:PF:=⟨[R (.pair .i64 .i64)],[.i64],.uniq,b9⟩
theorem EI:Sd 102 rD:=sf (F:=IY) (ek ⟨Kf,tZ,trivial⟩) Tryz.func102 λ a=>by kernel_rfl
def Pc:=fe [(27,JA),(165,rV),(164,QI),(38,Lq),(14,KF),(63,lq),(102,rD)] []
def Mm:PF:=⟨[R (.pair .i64 .i64),R q4],[.bool],.uniq,Ky⟩
theorem NR:Sd 175 Mm:=sf (F:=Pc) (ek ⟨Kf,E4,dt,Mu,LA,ur,EI,trivial⟩) Tryz.func175 λ a=>by kernel_rfl
def TN:=fe [(40,Za),(175,Mm),(38,Lq)] []
def QM:PF:=⟨[R (.pair .i64 .i64),R q6],[.bool],.uniq,Ma⟩
theorem dy:Sd 96 QM:=sf (F:=TN) (ek ⟨Zq,NR,Mu,trivial⟩) Tryz.func96 λ a=>by kernel_rfl
def Pd:=fe [] []
def rX:PF:=⟨[R q5,R q5],[.bool],.uniq,cl⟩
theorem E6:Sd 176 rX:=sf (F:=Pd) (ek trivial) Tryz.func176 λ a=>by kernel_rfl
def TO:=fe [(35,Mn),(176,rX)] [(2,[.slot 7 .i64 (.imm false)])]
def tf:PF:=⟨[R (.sl 43 q5)],[.bool],.uniq,Nd⟩
theorem FP:Sd 97 tf:=sf (F:=TO) (ek ⟨NS,E6,trivial⟩) Tryz.func97 λ a=>by kernel_rfl
def Pe:=fe [(27,JA),(40,Za),(38,Lq),(14,KF),(63,lq)] []
def cT:PF:=⟨[R (.pair .i64 .i64),R q4],[.bool],.uniq,Nb⟩
theorem l9:Sd 177 cT:=sf (F:=Pe) (ek ⟨Kf,Zq,Mu,LA,ur,trivial⟩) Tryz.func177 λ a=>by kernel_rfl
def RW:=fe [] []
def CZ:PF:=⟨[R .i64],[.bool],.uniq,eZ⟩
theorem aci:Sd 290 CZ:=sf (F:=RW) (ek trivial) Tryz.func290 λ a=>by kernel_rfl
def Rb:=fe [(290,CZ)] []
def Cq:PF:=⟨[R .i64,R .i64],[.i64],.uniq,oF⟩
theorem abI:Sd 234 Cq:=sf (F:=Rb) (ek ⟨aci,trivial⟩) Tryz.func234 λ a=>by kernel_rfl
def RX:=fe [] []
def C0:PF:=⟨[R .str],[.bool],.uniq,e9⟩
theorem acj:Sd 291 C0:=sf (F:=RX) (ek trivial) Tryz.func291 λ a=>by kernel_rfl
def Rc:=fe [(291,C0)] []
def Cr:PF:=⟨[R .str,R .str],[.i64],.uniq,oG⟩
theorem abJ:Sd 235 Cr:=sf (F:=Rc) (ek ⟨acj,trivial⟩) Tryz.func235 λ a=>by kernel_rfl
def Pf:=fe [(234,Cq),(235,Cr)] []
def rY:PF:=⟨[R q4,R q4],[.i64],.uniq,Nl⟩
theorem E7:Sd 178 rY:=sf (F:=Pf) (ek ⟨abI,abJ,trivial⟩) Tryz.func178 λ a=>by kernel_rfl
def TP:=fe [(177,cT),(178,rY)] [(2,[.slot 9 .i64 (.imm false)])]
def tg:PF:=⟨[R (.pair .i64 .i64),R (.sl 47 q4)],[.bool],.uniq,J4⟩
theorem FQ:Sd 98 tg:=sf (F:=TP) (ek ⟨l9,E7,trivial⟩) Tryz.func98 λ a=>by kernel_rfl
def TQ:=fe [(40,Za)] []
def c9:PF:=⟨[R Zp],[.bool],.uniq,M7⟩
theorem mp:Sd 99 c9:=sf (F:=TQ) (ek ⟨Zq,trivial⟩) Tryz.func99 λ a=>by kernel_rfl
def Pi:=fe [] []
def B6:PF:=⟨[R q2],[q2],.shared,gQ⟩
theorem abn:Sd 180 B6:=sf (F:=Pi) (ek trivial) Tryz.func180 λ a=>by kernel_rfl
def Re:=fe [(164,QI)] []
def Cs:PF:=⟨[R (.pair .str q4),R (.pair .str q4)],[.bool],.uniq,fM⟩
theorem abK:Sd 236 Cs:=sf (F:=Re) (ek ⟨dt,trivial⟩) Tryz.func236 λ a=>by kernel_rfl
def Rf:=fe [(224,sB)] []
def Ct:PF:=⟨[R q4,R q4],[.bool],.uniq,gR⟩
theorem abL:Sd 237 Ct:=sf (F:=Rf) (ek ⟨Fo,trivial⟩) Tryz.func237 λ a=>by kernel_rfl
def Pg:=fe [(236,Cs),(237,Ct),(164,QI)] []
def B5:PF:=⟨[R q2,R q2],[.bool],.uniq,f6⟩
theorem abm:Sd 179 B5:=sf (F:=Pg) (ek ⟨abK,abL,dt,trivial⟩) Tryz.func179 λ a=>by kernel_rfl
def Pl:=fe [(38,Lq),(239,Cv)] []
def kU:PF:=⟨[R .str],[.str],.uniq,Nk⟩
theorem t7:Sd 183 kU:=sf (F:=Pl) (ek ⟨Mu,abN,trivial⟩) Tryz.func183 λ a=>by kernel_rfl
def I2:=fe [(175,Mm),(38,Lq),(183,kU)] []
def cH:PF:=⟨[R (.pair .i64 .i64),R (.pair .str q4)],[.bool],.uniq,M6⟩
theorem lR:Sd 106 cH:=sf (F:=I2) (ek ⟨NR,Mu,t7,trivial⟩) Tryz.func106 λ a=>by kernel_rfl
def IP:=fe [(27,JA),(180,B6),(179,B5),(106,cH),(177,cT),(40,Za),(175,Mm),(35,Mn)] []
def QH:PF:=⟨[R (.pair .i64 .i64),R q2],[.bool],.uniq,YV⟩
theorem dr:Sd 100 QH:=sf (F:=IP) (ek ⟨Kf,abn,abm,lR,l9,Zq,NR,NS,trivial⟩) Tryz.func100 λ a=>by kernel_rfl
def S0:=fe [(27,JA),(40,Za),(96,QM),(97,tf),(98,tg),(99,c9),(100,QH)] [(4,[.slot 66 .i64 (.imm false)])]
def ZZ:PF:=⟨[R (.pair .i64 .i64),R q1],[.bool],.uniq,j7⟩
theorem Ym:Sd 45 ZZ:=sf (F:=S0) (ek ⟨Kf,Zq,dy,FP,FQ,mp,dr,trivial⟩) Tryz.func45 λ a=>by kernel_rfl
def RN:=fe [(45,ZZ)] []
def CR:PF:=⟨[R (.pair .i64 .i64),R .i64],[q1,.bool],.uniq,gg⟩
theorem s28:Sd 28 CR:=sf (F:=RN) (ek ⟨Ym,trivial⟩) Tryz.func28 λ a=>by kernel_rfl
def O2:=fe [(40,Za)] [(4,[.slot 0 .i64 (.imm false),.slot 3 (.sl 5 .u8) (.own true)])]
def NE:PF:=⟨[R .i64],[(.sl 5 .u8)],.uniq,YW⟩
theorem ac:Sd 166 NE:=sf (F:=O2) (ek ⟨Zq,trivial⟩) Tryz.func166 λ a=>by kernel_rfl
def PE:=fe [(40,Za),(166,NE)] [(5,[.slot 7 .i64 (.imm false),.slot 8 .i64 (.imm false)])]
def sq:PF:=⟨[R (.sl 5 .u8),R .i64],[.i64,.i64,.bool],.uniq,bP⟩
theorem Ff:Sd 201 sq:=sf (F:=PE) (ek ⟨Zq,ac,trivial⟩) Tryz.func201 λ a=>by kernel_rfl
def Oo:=fe [(201,sq)] []
def cL:PF:=⟨[(.ptr,KI)],[.i64],.uniq,Zy⟩
theorem lV:Sd 127 cL:=sf (F:=Oo) (ek ⟨Ff,trivial⟩) Tryz.func127 λ a=>by kernel_rfl
def PG:=fe [(201,sq)] []
def sr:PF:=⟨[R (.sl 5 .u8),R .i64],[.str,.i64,.bool],.uniq,bQ⟩
theorem Fg:Sd 202 sr:=sf (F:=PG) (ek ⟨Ff,trivial⟩) Tryz.func202 λ a=>by kernel_rfl
def Oq:=fe [(202,sr)] []
def kO:PF:=⟨[(.ptr,KI)],[.str],.uniq,Ns⟩
theorem tU:Sd 128 kO:=sf (F:=Oq) (ek ⟨Fg,trivial⟩) Tryz.func128 λ a=>by kernel_rfl
def Ov:=fe [(127,cL)] [(4,[.slot 3 (.sl 3 .i64) (.own true),.slot 5 .i64 (.imm false),.keep 0 KI [2,0,0]])]
def rM:PF:=⟨[(.ptr,KI)],[(.sl 3 .i64)],.uniq,cq⟩
theorem ER:Sd 130 rM:=sf (F:=Ov) (ek ⟨lV,trivial⟩) Tryz.func130 λ a=>by kernel_rfl
def Ot:=fe [(127,cL),(128,kO),(130,rM)] []
def rL:PF:=⟨[(.ptr,KI)],[q4],.uniq,Qt⟩
theorem EQ:Sd 129 rL:=sf (F:=Ot) (ek ⟨lV,tU,ER,trivial⟩) Tryz.func129 λ a=>by kernel_rfl
def Ti:=fe [(127,cL),(128,kO),(129,rL),(130,rM),(100,QH)] []
def sU:PF:=⟨[R (.pair .i64 .i64),R (.sl 5 .u8)],[q2,.bool],.uniq,bV⟩
theorem FF:Sd 64 sU:=sf (F:=Ti) (ek ⟨lV,tU,EQ,ER,dr,trivial⟩) Tryz.func64 λ a=>by kernel_rfl
def RV:=fe [(27,JA),(63,lq),(18,kT),(45,ZZ),(64,sU),(40,Za),(38,Lq),(14,KF)] [(5,[.slot 56 .i64 (.imm false)]),(11,[.slot 75 .i64 (.imm false)]),(18,[.slot 101 .i64 (.imm false)])]
def c7:PF:=⟨[R q3],[.bool],.uniq,ZR⟩
theorem mj:Sd 29 c7:=sf (F:=RV) (ek ⟨Kf,ur,tZ,Ym,FF,Zq,Mu,LA,trivial⟩) Tryz.func29 λ a=>by kernel_rfl
def F8:=fe [(26,NI),(27,JA),(28,CR),(29,c7)] [(3,[.slot 7 .i64 (.imm false),.box 4 q3 (.own true)])]
def DR:PF:=⟨[R (.pair .i64 .i64),R (.sl 3 .i64)],[q3,.bool],.uniq,gG⟩
theorem s8:Sd 8 DR:=sf (F:=F8) (ek ⟨ag,Kf,s28,mj,trivial⟩) Tryz.func8 λ a=>by kernel_rfl
def I1:=fe [(26,NI)] []
def NA:PF:=⟨[R q4],[q4],.uniq,Kz⟩
theorem QY:Sd 105 NA:=sf (F:=I1) (ek ⟨ag,trivial⟩) Tryz.func105 λ a=>by kernel_rfl
def OH:=fe [(105,NA)] []
def cP:PF:=⟨[R q6],[q6],.uniq,Np⟩
theorem lZ:Sd 141 cP:=sf (F:=OH) (ek ⟨QY,trivial⟩) Tryz.func141 λ a=>by kernel_rfl
def OI:=fe [] []
def rR:PF:=⟨[R (.sl 43 q5)],[(.sl 43 q5)],.uniq,KA⟩
theorem EX:Sd 142 rR:=sf (F:=OI) (ek trivial) Tryz.func142 λ a=>by kernel_rfl
def Pj:=fe [(26,NI)] []
def QJ:PF:=⟨[R q4],[q4],.uniq,J6⟩
theorem du:Sd 181 QJ:=sf (F:=Pj) (ek ⟨ag,trivial⟩) Tryz.func181 λ a=>by kernel_rfl
def OJ:=fe [(181,QJ)] [(3,[.slot 3 (.sl 47 q4) (.own true),.slot 8 .i64 (.imm false)])]
def rS:PF:=⟨[R (.sl 47 q4)],[(.sl 47 q4)],.uniq,Jv⟩
theorem EY:Sd 143 rS:=sf (F:=OJ) (ek ⟨du,trivial⟩) Tryz.func143 λ a=>by kernel_rfl
def OK:=fe [] []
def cQ:PF:=⟨[R Zp],[Zp],.uniq,Nm⟩
theorem l6:Sd 144 cQ:=sf (F:=OK) (ek trivial) Tryz.func144 λ a=>by kernel_rfl
def RE:=fe [(105,NA)] []
def CK:PF:=⟨[R (.pair .str q4)],[(.pair .str q4)],.uniq,gK⟩
theorem ac2:Sd 260 CK:=sf (F:=RE) (ek ⟨QY,trivial⟩) Tryz.func260 λ a=>by kernel_rfl
def PU:=fe [(260,CK),(181,QJ),(105,NA)] []
def sA:PF:=⟨[R q2],[q2],.uniq,cm⟩
theorem Fn:Sd 214 sA:=sf (F:=PU) (ek ⟨ac2,du,QY,trivial⟩) Tryz.func214 λ a=>by kernel_rfl
def OL:=fe [(214,sA)] [(3,[.slot 3 JD (.own true),.slot 8 .i64 (.imm false)])]
def BP:PF:=⟨[R JD],[JD],.uniq,gM⟩
theorem ab6:Sd 145 BP:=sf (F:=OL) (ek ⟨Fn,trivial⟩) Tryz.func145 λ a=>by kernel_rfl
def Tq:=fe [(141,cP),(142,rR),(143,rS),(144,cQ),(145,BP)] []
def Z0:PF:=⟨[R q1],[q1],.uniq,zN⟩
theorem Yn:Sd 72 Z0:=sf (F:=Tq) (ek ⟨lZ,EX,EY,l6,ab6,trivial⟩) Tryz.func72 λ a=>by kernel_rfl
def Tr:=fe [] []
def sV:PF:=⟨[R (.pair .i64 (.sl 5 .u8))],[(.pair .i64 (.sl 5 .u8))],.uniq,cn⟩
theorem FH:Sd 73 sV:=sf (F:=Tr) (ek trivial) Tryz.func73 λ a=>by kernel_rfl
def Sq:=fe [(26,NI),(72,Z0),(73,sV)] [(3,[.slot 20 .i64 (.imm false),.box 8 q3 (.own true)]),(8,[.slot 35 .i64 (.imm false),.box 8 q3 (.own true)])]
def QL:PF:=⟨[R q3],[q3],.uniq,yX⟩
theorem dx:Sd 33 QL:=sf (F:=Sq) (ek ⟨ag,Yn,FH,trivial⟩) Tryz.func33 λ a=>by kernel_rfl
def OM:=fe [] [(2,[.slot 8 .i64 (.imm false)])]
def BQ:PF:=⟨[R (.sl 3 .i64),R .i64],[.i64],.uniq,uN⟩
theorem ab7:Sd 146 BQ:=sf (F:=OM) (ek trivial) Tryz.func146 λ a=>by kernel_rfl
def Ts:=fe [(146,BQ)] []
def DP:PF:=⟨[R (.sl 3 .i64),R .i64],[.bool],.uniq,my⟩
theorem s74:Sd 74 DP:=sf (F:=Ts) (ek ⟨ab7,trivial⟩) Tryz.func74 λ a=>by kernel_rfl
def SB:=fe [(74,DP)] []
def Ka:PF:=⟨[R (.sl 3 .i64),R .i64],[.bool],.uniq,ZQ⟩
theorem KL:Sd 34 Ka:=sf (F:=SB) (ek ⟨s74,trivial⟩) Tryz.func34 λ a=>by kernel_rfl
def I6:=fe [(34,Ka)] [(3,[.slot 3 (.sl 3 .i64) (.own true),.slot 8 .i64 (.imm false)])]
def cK:PF:=⟨[R q3],[(.sl 3 .i64)],.uniq,Na⟩
theorem lU:Sd 11 cK:=sf (F:=I6) (ek ⟨KL,trivial⟩) Tryz.func11 λ a=>by kernel_rfl
def SW:=fe [(40,Za),(11,cK),(34,Ka)] []
def DE:PF:=⟨[R q3,R q8],[.bool],.uniq,gP⟩
theorem s41:Sd 41 DE:=sf (F:=SW) (ek ⟨Zq,lU,KL,trivial⟩) Tryz.func41 λ a=>by kernel_rfl
def OP:=fe [(144,cQ),(99,c9)] []
def BT:PF:=⟨[R Zp],[Zp],.uniq,gw⟩
theorem aba:Sd 154 BT:=sf (F:=OP) (ek ⟨l6,mp,trivial⟩) Tryz.func154 λ a=>by kernel_rfl
def Tz:=fe [(72,Z0),(45,ZZ),(154,BT)] []
def DT:PF:=⟨[R (.pair .i64 .i64),R q1],[q1,JD],.uniq,gv⟩
theorem s82:Sd 82 DT:=sf (F:=Tz) (ek ⟨Yn,Ym,aba,trivial⟩) Tryz.func82 λ a=>by kernel_rfl
def TB:=fe [(34,Ka)] []
def ta:PF:=⟨[R .i64,R q2],[Lw],.uniq,cd⟩
theorem FM:Sd 84 ta:=sf (F:=TB) (ek ⟨KL,trivial⟩) Tryz.func84 λ a=>by kernel_rfl
def OQ:=fe [] [(2,[.slot 8 .i64 (.imm false)])]
def BU:PF:=⟨[R Lw,R (.pair .i64 (.pair .str .i64))],[.i64],.uniq,uM⟩
theorem abb:Sd 155 BU:=sf (F:=OQ) (ek trivial) Tryz.func155 λ a=>by kernel_rfl
def TC:=fe [(155,BU)] []
def lz:PF:=⟨[R Lw,R (.pair .i64 (.pair .str .i64))],[.bool],.uniq,aq⟩
theorem uv:Sd 85 lz:=sf (F:=TC) (ek ⟨abb,trivial⟩) Tryz.func85 λ a=>by kernel_rfl
def TA:=fe [(33,QL),(11,cK),(34,Ka),(84,ta),(85,lz)] [(5,[.slot 22 .i64 (.imm false),.box 11 q3 (.own true)]),(8,[.slot 31 .i64 (.imm false),.box 11 q3 (.own true)])]
def DU:PF:=⟨[R q3,R .i64,R JD],[q3],.uniq,fY⟩
theorem s83:Sd 83 DU:=sf (F:=TA) (ek ⟨dx,lU,KL,FM,uv,trivial⟩) Tryz.func83 λ a=>by kernel_rfl
def O3:=fe [(166,NE)] []
def kQ:PF:=⟨[R .str],[(.sl 5 .u8)],.uniq,Nf⟩
theorem tW:Sd 167 kQ:=sf (F:=O3) (ek ⟨ac,trivial⟩) Tryz.func167 λ a=>by kernel_rfl
def O5:=fe [(166,NE)] [(3,[.slot 3 (.sl 5 .u8) (.own true),.slot 8 .i64 (.imm false)])]
def kR:PF:=⟨[R (.sl 3 .i64)],[(.sl 5 .u8)],.uniq,Mf⟩
theorem tX:Sd 169 kR:=sf (F:=O5) (ek ⟨ac,trivial⟩) Tryz.func169 λ a=>by kernel_rfl
def O4:=fe [(175,Mm),(166,NE),(167,kQ),(169,kR)] []
def rW:PF:=⟨[R (.pair .i64 .i64),R q4],[(.sl 5 .u8)],.uniq,Qf⟩
theorem E5:Sd 168 rW:=sf (F:=O4) (ek ⟨NR,ac,tW,tX,trivial⟩) Tryz.func168 λ a=>by kernel_rfl
def TH:=fe [(100,QH),(166,NE),(167,kQ),(168,rW),(169,kR)] []
def te:PF:=⟨[R (.pair .i64 .i64),R q2],[(.sl 5 .u8)],.uniq,bU⟩
theorem FO:Sd 90 te:=sf (F:=TH) (ek ⟨dr,ac,tW,E5,tX,trivial⟩) Tryz.func90 λ a=>by kernel_rfl
def TE:=fe [(33,QL),(29,c7),(90,te),(40,Za)] [(5,[.slot 17 .i64 (.imm false),.box 11 q3 (.own true)])]
def DV:PF:=⟨[R q3,R JD],[q3],.uniq,gn⟩
theorem s86:Sd 86 DV:=sf (F:=TE) (ek ⟨dx,mj,FO,Zq,trivial⟩) Tryz.func86 λ a=>by kernel_rfl
def SX:=fe [(82,DT),(83,DU),(84,ta),(85,lz),(86,DV)] [(4,[.slot 30 .i64 (.imm false),.box 5 q3 (.own true)]),(7,[.slot 39 .i64 (.imm false),.box 5 q3 (.own true)])]
def DF:PF:=⟨[R q3,R .i64],[q3,.i64],.shared,gU⟩
theorem s42:Sd 42 DF:=sf (F:=SX) (ek ⟨s82,s83,FM,uv,s86,trivial⟩) Tryz.func42 λ a=>by kernel_rfl
def RG:=fe [(105,NA)] []
def CL:PF:=⟨[R q4,R q4],[q4],.uniq,ge⟩
theorem ac3:Sd 274 CL:=sf (F:=RG) (ek ⟨QY,trivial⟩) Tryz.func274 λ a=>by kernel_rfl
def RH:=fe [(39,c8),(183,kU)] []
def CM:PF:=⟨[R .str],[.str,.bool],.uniq,gq⟩
theorem ac4:Sd 275 CM:=sf (F:=RH) (ek ⟨ml,t7,trivial⟩) Tryz.func275 λ a=>by kernel_rfl
def SH:=fe [] []
def Du:PF:=⟨[R .str,R .str],[.bool],.uniq,po⟩
theorem acN:Sd 348 Du:=sf (F:=SH) (ek trivial) Tryz.func348 λ a=>by kernel_rfl
def So:=fe [(348,Du)] []
def Dg:PF:=⟨[R .str,R .str],[.bool],.uniq,vp⟩
theorem acz:Sd 326 Dg:=sf (F:=So) (ek ⟨acN,trivial⟩) Tryz.func326 λ a=>by kernel_rfl
def RI:=fe [(38,Lq),(326,Dg)] []
def CN:PF:=⟨[R .str,R .str],[.bool],.uniq,fQ⟩
theorem ac5:Sd 276 CN:=sf (F:=RI) (ek ⟨Mu,acz,trivial⟩) Tryz.func276 λ a=>by kernel_rfl
def PW:=fe [(141,cP),(96,QM),(175,Mm),(274,CL),(183,kU),(14,KF),(275,CM),(276,CN)] []
def kY:PF:=⟨[R (.pair .i64 .i64),R q6,R q4],[q6],.uniq,Ql⟩
theorem uc:Sd 220 kY:=sf (F:=PW) (ek ⟨lZ,dy,NR,ac3,t7,LA,ac4,ac5,trivial⟩) Tryz.func220 λ a=>by kernel_rfl
def RJ:=fe [(96,QM),(106,cH),(14,KF)] []
def CO:PF:=⟨[R (.pair .i64 .i64),R q6,R (.pair .str q4)],[.bool],.uniq,f0⟩
theorem ac6:Sd 277 CO:=sf (F:=RJ) (ek ⟨dy,lR,LA,trivial⟩) Tryz.func277 λ a=>by kernel_rfl
def PX:=fe [(141,cP),(277,CO),(14,KF)] []
def Cg:PF:=⟨[R (.pair .i64 .i64),R q6,R (.pair .str q4)],[q6,.bool],.uniq,gE⟩
theorem abx:Sd 221 Cg:=sf (F:=PX) (ek ⟨lZ,ac6,LA,trivial⟩) Tryz.func221 λ a=>by kernel_rfl
def RL:=fe [(164,QI)] []
def CP:PF:=⟨[R q6,R q6],[.bool],.uniq,gk⟩
theorem ac7:Sd 278 CP:=sf (F:=RL) (ek ⟨dt,trivial⟩) Tryz.func278 λ a=>by kernel_rfl
def Sp:=fe [(96,QM),(169,kR),(168,rW),(167,kQ)] []
def Dh:PF:=⟨[R (.pair .i64 .i64),R q6],[(.sl 5 .u8)],.uniq,gi⟩
theorem acA:Sd 327 Dh:=sf (F:=Sp) (ek ⟨dy,tX,E5,tW,trivial⟩) Tryz.func327 λ a=>by kernel_rfl
def RO:=fe [(327,Dh),(166,NE)] []
def CS:PF:=⟨[R (.pair .i64 .i64),R q6],[(.sl 5 .u8)],.uniq,f8⟩
theorem aca:Sd 280 CS:=sf (F:=RO) (ek ⟨acA,ac,trivial⟩) Tryz.func280 λ a=>by kernel_rfl
def RM:=fe [(144,cQ),(99,c9)] []
def CQ:PF:=⟨[R Zp,R (.sl 5 .u8)],[Zp,.bool],.uniq,fJ⟩
theorem ac8:Sd 279 CQ:=sf (F:=RM) (ek ⟨l6,mp,trivial⟩) Tryz.func279 λ a=>by kernel_rfl
def PY:=fe [(72,Z0),(45,ZZ),(278,CP),(280,CS),(279,CQ),(141,cP)] []
def kZ:PF:=⟨[R (.pair .i64 .i64),R q1,R q6],[q1,.bool],.uniq,Md⟩
theorem ud:Sd 222 kZ:=sf (F:=PY) (ek ⟨Yn,Ym,ac7,aca,ac8,lZ,trivial⟩) Tryz.func222 λ a=>by kernel_rfl
def SK:=fe [] []
def Dw:PF:=⟨[R .i64,(.cap,.i64)],[.bool],.uniq,ph⟩
theorem acP:Sd 351 Dw:=sf (F:=SK) (ek trivial) Tryz.func351 λ a=>by kernel_rfl
def SJ:=fe [(351,Dw)] [(2,[.slot 8 .i64 (.imm false)])]
def Dv:PF:=⟨[R (.sl 3 .i64),((.clo 351),.i64)],[.i64],.uniq,mA⟩
theorem acO:Sd 350 Dv:=sf (F:=SJ) (ek ⟨acP,trivial⟩) Tryz.func350 λ a=>by kernel_rfl
def Sr:=fe [(34,Ka),(26,NI),(350,Dv),(352,Dx)] []
def Di:PF:=⟨[R (.sl 3 .i64),R .i64],[(.sl 3 .i64)],.uniq,ce⟩
theorem acB:Sd 330 Di:=sf (F:=Sr) (ek ⟨KL,ag,acO,acQ,trivial⟩) Tryz.func330 λ a=>by kernel_rfl
def RU:=fe [(330,Di)] [(3,[.slot 5 (.sl 3 .i64) (.own true),.slot 12 .i64 (.imm false)]),(8,[.slot 5 (.sl 3 .i64) (.own true),.slot 22 .i64 (.imm false)])]
def CY:PF:=⟨[R (.sl 3 .i64),R (.sl 3 .i64)],[(.sl 3 .i64)],.uniq,go⟩
theorem ach:Sd 287 CY:=sf (F:=RU) (ek ⟨acB,trivial⟩) Tryz.func287 λ a=>by kernel_rfl
def P8:=fe [(287,CY)] []
def Cm:PF:=⟨[R q4,R q4],[q4,.bool],.uniq,bY⟩
theorem abE:Sd 230 Cm:=sf (F:=P8) (ek ⟨ach,trivial⟩) Tryz.func230 λ a=>by kernel_rfl
def O9:jk:=⟨⟨TYS,[(177,cT),(143,rS),(178,rY),(230,Cm),(181,QJ),(98,tg)],EQS,[],[],false,[],[(231,Cn)],[],false⟩,[(5,[.slot 9 .i64 (.imm false)])]⟩
def cR:PF:=⟨[R (.pair .i64 .i64),R (.sl 47 q4),R q4],[(.sl 47 q4),.bool],.uniq,Nj⟩
theorem l7:Sd 172 cR:=sf (F:=O9) (K6 ⟨l9,EY,E7,abE,du,FQ,trivial⟩ trivial trivial trivial abF trivial) Tryz.func172 λ a=>by kernel_rfl
def IX:=fe [(181,QJ)] [(2,[.slot 11 .i64 (.imm false),.box 1 q4 (.own true)])]
def rC:PF:=⟨[R (.sl 47 q4),R .i64,R .str],[q4],.uniq,ci⟩
theorem EH:Sd 101 rC:=sf (F:=IX) (ek ⟨du,trivial⟩) Tryz.func101 λ a=>by kernel_rfl
def O6:=fe [(27,JA)] []
def NG:PF:=⟨[R (.pair .i64 .i64),R .i64],[.i64],.uniq,Ld⟩
theorem ae:Sd 17 NG:=sf (F:=O6) (ek ⟨Kf,trivial⟩) Tryz.func17 λ a=>by kernel_rfl
def P3:=fe [(105,NA),(175,Mm)] []
def Ci:PF:=⟨[R (.pair .i64 .i64),R q4],[q4,.bool],.uniq,f9⟩
theorem abz:Sd 225 Ci:=sf (F:=P3) (ek ⟨QY,NR,trivial⟩) Tryz.func225 λ a=>by kernel_rfl
def Pa:=fe [(72,Z0),(214,sA),(45,ZZ)] []
def cS:PF:=⟨[R (.pair .i64 .i64),R q1,R .i64,R q2],[q1,.bool],.uniq,Lf⟩
theorem l8:Sd 173 cS:=sf (F:=Pa) (ek ⟨Yn,Fn,Ym,trivial⟩) Tryz.func173 λ a=>by kernel_rfl
def vR:=fe [(220,kY),(222,kZ),(17,NG),(173,cS)] []
def pf226:PF:=⟨[R (.pair .i64 .i64),R q1,R q4],[q1,.bool],.uniq,gO⟩
theorem Vc (a:yc pf226.params):fu vR Tryz.f226 pf226.params pf226.rets pf226.rk a=pf226.fn a:=by kernel_rfl
theorem abA:K0 Tryz.prog GLB 226 pf226:=Gv (F:=vR) (ek ⟨uc,ud,ae,l8,trivial⟩) Tryz.func226 (by kernel_rfl) (by rfl) (λ a o h=>(Vc a).trans h)
def RR:=fe [(27,JA),(40,Za)] []
def lf:PF:=⟨[R (.pair .i64 .i64),R .i64,R .i64],[.i64],.uniq,Qj⟩
theorem ug:Sd 284 lf:=sf (F:=RR) (ek ⟨Kf,Zq,trivial⟩) Tryz.func284 λ a=>by kernel_rfl
def RT:=fe [(27,JA),(40,Za)] []
def CX:PF:=⟨[R (.pair .i64 .i64),R .i64,R .i64],[.i64],.uniq,gt⟩
theorem acg:Sd 286 CX:=sf (F:=RT) (ek ⟨Kf,Zq,trivial⟩) Tryz.func286 λ a=>by kernel_rfl
def P6:=fe [(284,lf),(286,CX)] []
def sC:PF:=⟨[R (.pair .i64 .i64),R .i64,R .i64],[.i64],.uniq,Qp⟩
theorem Fp:Sd 229 sC:=sf (F:=P6) (ek ⟨ug,acg,trivial⟩) Tryz.func229 λ a=>by kernel_rfl
def RS:=fe [(284,lf),(229,sC)] [(2,[.slot 2 .i64 (.imm false),.slot 7 (.sl 3 .i64) (.own true)])]
def CW:PF:=⟨[R (.pair .i64 .i64),R .i64,R .i64],[(.sl 3 .i64)],.uniq,gF⟩
theorem acf:Sd 285 CW:=sf (F:=RS) (ek ⟨ug,Fp,trivial⟩) Tryz.func285 λ a=>by kernel_rfl
def P4:=fe [(284,lf),(285,CW),(34,Ka)] [(3,[.slot 7 (.sl 3 .i64) (.own true),.slot 8 .i64 (.imm false)])]
def Cj:PF:=⟨[R (.pair .i64 .i64),R .i64,R .i64],[(.sl 3 .i64)],.uniq,gC⟩
theorem abB:Sd 227 Cj:=sf (F:=P4) (ek ⟨ug,acf,KL,trivial⟩) Tryz.func227 λ a=>by kernel_rfl
def P5:=fe [(34,Ka)] [(3,[.slot 5 .i64 (.imm false),.slot 10 .i64 (.imm false)])]
def Ck:PF:=⟨[R (.sl 3 .i64),R (.sl 3 .i64)],[.i64],.uniq,fN⟩
theorem abC:Sd 228 Ck:=sf (F:=P5) (ek ⟨KL,trivial⟩) Tryz.func228 λ a=>by kernel_rfl
def O8:jk:=⟨⟨TYS,[(101,rC),(45,ZZ),(72,Z0),(17,NG),(225,Ci),(227,Cj),(228,Ck),(229,sC),(173,cS)],EQS,[],[],false,[(226,pf226)],[],[],false⟩,[]⟩
def kS:PF:=⟨[R (.pair .i64 .i64),R q1,R .i64,R .str,R .bool],[q1,.bool],.uniq,L9⟩
theorem tY:Sd 171 kS:=sf (F:=O8) (K6 ⟨EH,Ym,Yn,ae,abz,abB,abC,Fp,l8,trivial⟩ trivial trivial abA trivial trivial) Tryz.func171 λ a=>by kernel_rfl
def OR:=fe [(45,ZZ),(106,cH),(72,Z0),(14,KF),(220,kY),(221,Cg),(222,kZ),(172,cR),(171,kS)] []
def rU:PF:=⟨[R (.pair .i64 .i64),R q1,R (.pair .str q4)],[q1,.bool],.uniq,bS⟩
theorem E3:Sd 156 rU:=sf (F:=OR) (ek ⟨Ym,lR,Yn,LA,uc,abx,ud,l7,tY,trivial⟩) Tryz.func156 λ a=>by kernel_rfl
def OS:=fe [(45,ZZ),(177,cT),(72,Z0),(172,cR),(171,kS)] []
def BV:PF:=⟨[R (.pair .i64 .i64),R q1,R q4],[q1,.bool],.uniq,fS⟩
theorem abc:Sd 157 BV:=sf (F:=OS) (ek ⟨Ym,l9,Yn,l7,tY,trivial⟩) Tryz.func157 λ a=>by kernel_rfl
def S1:=fe [(101,rC),(102,rD)] []
def sN:PF:=⟨[R (.pair .i64 .i64),R q1,R .i64],[.bool],.uniq,Lh⟩
theorem FA:Sd 46 sN:=sf (F:=S1) (ek ⟨EH,EI,trivial⟩) Tryz.func46 λ a=>by kernel_rfl
def OT:=fe [(45,ZZ),(40,Za),(175,Mm),(72,Z0),(220,kY),(222,kZ),(17,NG),(172,cR),(46,sN)] []
def BW:PF:=⟨[R (.pair .i64 .i64),R q1,R .i64,R q4,R .i64],[q1,.bool],.uniq,fU⟩
theorem abd:Sd 158 BW:=sf (F:=OT) (ek ⟨Ym,Zq,NR,Yn,uc,ud,ae,l7,FA,trivial⟩) Tryz.func158 λ a=>by kernel_rfl
def RQ:=fe [(176,rX)] []
def CU:PF:=⟨[R q5,(.cap,q5)],[.bool],.uniq,pa⟩
theorem acd:Sd 282 CU:=sf (F:=RQ) (ek ⟨E6,trivial⟩) Tryz.func282 λ a=>by kernel_rfl
def RP:=fe [(282,CU)] [(2,[.slot 8 .i64 (.imm false)])]
def CT:PF:=⟨[R (.sl 43 q5),((.clo 282),q5)],[.i64],.uniq,mz⟩
theorem acb:Sd 281 CT:=sf (F:=RP) (ek ⟨acd,trivial⟩) Tryz.func281 λ a=>by kernel_rfl
def PZ:=fe [(281,CT),(142,rR),(283,CV),(97,tf)] []
def Ch:PF:=⟨[R (.sl 43 q5),R q5],[(.sl 43 q5),.bool],.uniq,gc⟩
theorem aby:Sd 223 Ch:=sf (F:=PZ) (ek ⟨acb,EX,ace,FP,trivial⟩) Tryz.func223 λ a=>by kernel_rfl
def OU:=fe [(72,Z0),(45,ZZ),(223,Ch)] []
def BX:PF:=⟨[R (.pair .i64 .i64),R q1,R q5],[q1,.bool],.uniq,fT⟩
theorem abe:Sd 159 BX:=sf (F:=OU) (ek ⟨Yn,Ym,aby,trivial⟩) Tryz.func159 λ a=>by kernel_rfl
def OW:=fe [(181,QJ)] [(3,[.slot 5 (.sl 47 q4) (.own true),.slot 10 .i64 (.imm false)])]
def BZ:PF:=⟨[R (.sl 47 q4),R .i64],[(.sl 47 q4)],.uniq,Mb⟩
theorem abg:Sd 160 BZ:=sf (F:=OW) (ek ⟨du,trivial⟩) Tryz.func160 λ a=>by kernel_rfl
def S3:=fe [] [(3,[.slot 2 .i64 (.imm false),.box 2 q7 (.own true)])]
def sP:PF:=⟨[],[q7],.uniq,Qc⟩
theorem FC:Sd 48 sP:=sf (F:=S3) (ek trivial) Tryz.func48 λ a=>by kernel_rfl
def S4:=fe [(39,c8)] [(4,[.slot 5 (.sl 43 q5) (.own true),.slot 15 .i64 (.imm false)])]
def sQ:PF:=⟨[R .str],[(.sl 43 q5)],.uniq,Qo⟩
theorem FD:Sd 49 sQ:=sf (F:=S4) (ek ⟨ml,trivial⟩) Tryz.func49 λ a=>by kernel_rfl
def IZ:=fe [(26,NI)] []
def rE:PF:=⟨[R q7],[q7],.uniq,Qr⟩
theorem EJ:Sd 103 rE:=sf (F:=IZ) (ek ⟨ag,trivial⟩) Tryz.func103 λ a=>by kernel_rfl
def Rg:=fe [(40,Za)] [(2,[.slot 11 .i64 (.imm false)])]
def Cu:PF:=⟨[R (.sl 3 .i64),R .i64,R .i64],[.bool],.uniq,ck⟩
theorem abM:Sd 238 Cu:=sf (F:=Rg) (ek ⟨Zq,trivial⟩) Tryz.func238 λ a=>by kernel_rfl
def Pk:=fe [(238,Cu)] []
def B7:PF:=⟨[R q7],[.bool],.uniq,bT⟩
theorem abo:Sd 182 B7:=sf (F:=Pk) (ek ⟨abM,trivial⟩) Tryz.func182 λ a=>by kernel_rfl
def I0:=fe [(103,rE),(182,B7),(35,Mn)] []
def kK:PF:=⟨[R q7,R q5],[q7,.i64],.uniq,Nc⟩
theorem tQ:Sd 104 kK:=sf (F:=I0) (ek ⟨EJ,abo,NS,trivial⟩) Tryz.func104 λ a=>by kernel_rfl
def S2:=fe [(103,rE),(104,kK)] [(4,[.slot 7 (.sl 3 .i64) (.own true),.slot 16 .i64 (.imm false),.box 7 q7 (.own true)])]
def sO:PF:=⟨[R q7,R (.sl 43 q5)],[q7,(.sl 3 .i64)],.uniq,Qd⟩
theorem FB:Sd 47 sO:=sf (F:=S2) (ek ⟨EJ,tQ,trivial⟩) Tryz.func47 λ a=>by kernel_rfl
def OY:=fe [(45,ZZ),(48,sP),(49,sQ),(47,sO)] []
def B1:PF:=⟨[R (.pair .i64 .i64),R q1],[q7],.uniq,Le⟩
theorem abi:Sd 162 B1:=sf (F:=OY) (ek ⟨Ym,FC,FD,FB,trivial⟩) Tryz.func162 λ a=>by kernel_rfl
def OX:=fe [(104,kK)] [(3,[.slot 5 (.sl 43 q5) (.own true),.slot 12 .i64 (.imm false)])]
def B0:PF:=⟨[R (.sl 43 q5),R q7],[(.sl 43 q5)],.uniq,Lb⟩
theorem abh:Sd 161 B0:=sf (F:=OX) (ek ⟨tQ,trivial⟩) Tryz.func161 λ a=>by kernel_rfl
def TF:=fe [(100,QH),(72,Z0),(156,rU),(157,BV),(158,BW),(159,BX),(160,BZ),(162,B1),(161,B0)] []
def tb:PF:=⟨[R (.pair .i64 .i64),R q1,R q2],[q1,.bool],.uniq,bR⟩
theorem FN:Sd 88 tb:=sf (F:=TF) (ek ⟨dr,Yn,E3,abc,abd,abe,abg,abi,abh,trivial⟩) Tryz.func88 λ a=>by kernel_rfl
def OZ:=fe [(34,Ka),(85,lz)] [(2,[.slot 15 .i64 (.imm false)])]
def B2:PF:=⟨[R (.sl 3 .i64),R Lw,R .i64,R .str,R (.sl 3 .i64)],[.bool],.uniq,Qm⟩
theorem abj:Sd 163 B2:=sf (F:=OZ) (ek ⟨KL,uv,trivial⟩) Tryz.func163 λ a=>by kernel_rfl
def TG:=fe [(100,QH),(163,B2),(14,KF),(17,NG),(34,Ka),(165,rV),(164,QI)] []
def DX:PF:=⟨[R (.pair .i64 .i64),R (.sl 3 .i64),R Lw,R q2],[.bool],.uniq,fZ⟩
theorem s89:Sd 89 DX:=sf (F:=TG) (ek ⟨dr,abj,LA,ae,KL,E4,dt,trivial⟩) Tryz.func89 λ a=>by kernel_rfl
def SY:jk:=⟨⟨TYS,[(33,QL),(64,sU),(11,cK),(34,Ka),(88,tb),(73,sV),(89,DX),(90,te)],EQS,[],[],false,[],[(87,DW)],[],false⟩,[]⟩
def DG:PF:=⟨[R q3,R q8],[q3,.i64],.shared,Me⟩
theorem s43:Sd 43 DG:=sf (F:=SY) (K6 ⟨dx,FF,lU,KL,FN,FH,s89,FO,trivial⟩ trivial trivial trivial s87 trivial) Tryz.func43 λ a=>by kernel_rfl
def S6:=fe [(104,kK)] [(3,[.slot 5 (.sl 43 q5) (.own true),.slot 12 .i64 (.imm false),.box 3 q7 (.own false)])]
def DJ:PF:=⟨[R (.sl 43 q5),(.own,q7)],[(.sl 43 q5)],.uniq,b8⟩
theorem s51:Sd 51 DJ:=sf (F:=S6) (ek ⟨tQ,trivial⟩) Tryz.func51 λ a=>by kernel_rfl
def SS:=fe [(35,Mn),(76,sW),(77,aaR)] [(3,[.slot 3 (.sl 9 .str) (.own true),.slot 8 .i64 (.imm false)])]
def DD:PF:=⟨[R (.sl 43 q5)],[.str],.uniq,gB⟩
theorem s37:Sd 37 DD:=sf (F:=SS) (ek ⟨NS,FI,s77,trivial⟩) Tryz.func37 λ a=>by kernel_rfl
def Ou:=fe [(35,Mn),(36,lm),(37,DD),(38,Lq)] [(2,[.slot 12 .i64 (.imm false)])]
def BO:PF:=⟨[R .str,R .i64,R (.sl 43 q5)],[.str],.uniq,f7⟩
theorem s13:Sd 13 BO:=sf (F:=Ou) (ek ⟨NS,un,s37,Mu,trivial⟩) Tryz.func13 λ a=>by kernel_rfl
def S5:=fe [(13,BO),(105,NA),(106,cH),(14,KF)] []
def DI:PF:=⟨[R (.pair .i64 .i64),R q4,R .i64,R (.sl 43 q5)],[(.pair .str q4),.bool],.uniq,bO⟩
theorem s50:Sd 50 DI:=sf (F:=S5) (ek ⟨s13,QY,lR,LA,trivial⟩) Tryz.func50 λ a=>by kernel_rfl
def OV:=fe [(45,ZZ),(17,NG),(46,sN),(48,sP),(49,sQ),(47,sO),(51,DJ),(50,DI)] []
def BY:PF:=⟨[R (.pair .i64 .i64),R q1],[(.pair .str q4),.bool],.uniq,fK⟩
theorem s16:Sd 16 BY:=sf (F:=OV) (ek ⟨Ym,ae,FA,FC,FD,FB,s51,s50,trivial⟩) Tryz.func16 λ a=>by kernel_rfl
def O7:=fe [(72,Z0),(45,ZZ),(173,cS)] [(5,[.slot 9 .i64 (.imm false),.box 11 q1 (.own true),.box 17 q1 (.own true)])]
def B3:PF:=⟨[R (.pair .i64 .i64),R q1,R q2],[q1,.bool],.uniq,gy⟩
theorem abk:Sd 170 B3:=sf (F:=O7) (ek ⟨Yn,Ym,l8,trivial⟩) Tryz.func170 λ a=>by kernel_rfl
def TI:=fe [(16,BY),(72,Z0),(170,B3),(156,rU)] []
def DY:PF:=⟨[R (.pair .i64 .i64),R q1],[q1,.i64],.shared,gJ⟩
theorem s91:Sd 91 DY:=sf (F:=TI) (ek ⟨s16,Yn,abk,E3,trivial⟩) Tryz.func91 λ a=>by kernel_rfl
def TJ:=fe [(171,kS)] [(2,[.slot 6 .i64 (.imm false),.box 7 q1 (.own true)])]
def DZ:PF:=⟨[R (.pair .i64 .i64),R q1],[q1,.i64],.shared,gS⟩
theorem s92:Sd 92 DZ:=sf (F:=TJ) (ek ⟨tY,trivial⟩) Tryz.func92 λ a=>by kernel_rfl
def TK:=fe [(45,ZZ),(72,Z0),(17,NG),(172,cR),(173,cS)] []
def D0:PF:=⟨[R (.pair .i64 .i64),R q1],[q1,.bool],.uniq,fX⟩
theorem s93:Sd 93 D0:=sf (F:=TK) (ek ⟨Ym,Yn,ae,l7,l8,trivial⟩) Tryz.func93 λ a=>by kernel_rfl
def TL:=fe [(144,cQ),(99,c9)] []
def D3:PF:=⟨[R Zp,R .i64],[Zp],.uniq,fR⟩
theorem s94:Sd 94 D3:=sf (F:=TL) (ek ⟨l6,mp,trivial⟩) Tryz.func94 λ a=>by kernel_rfl
def P9:=fe [] []
def Co:PF:=⟨[],[q6],.uniq,pd⟩
theorem abG:Sd 232 Co:=sf (F:=P9) (ek trivial) Tryz.func232 λ a=>by kernel_rfl
def Ra:=fe [(127,cL),(129,rL),(128,kO),(96,QM)] []
def Cp:PF:=⟨[R (.pair .i64 .i64),R (.sl 5 .u8)],[q6,.bool],.uniq,gj⟩
theorem abH:Sd 233 Cp:=sf (F:=Ra) (ek ⟨lV,EQ,tU,dy,trivial⟩) Tryz.func233 λ a=>by kernel_rfl
def Pb:=fe [(232,Co),(202,sr),(233,Cp)] [(3,[.slot 7 .i64 (.imm false),.box 2 q6 (.own true),.box 4 q6 (.own true)])]
def B4:PF:=⟨[R (.pair .i64 .i64),R (.sl 5 .u8)],[q6,.i64],.uniq,fW⟩
theorem abl:Sd 174 B4:=sf (F:=Pb) (ek ⟨abG,Fg,abH,trivial⟩) Tryz.func174 λ a=>by kernel_rfl
def TM:=fe [(45,ZZ),(72,Z0),(174,B4)] []
def D4:PF:=⟨[R (.pair .i64 .i64),R q1],[q1],.uniq,gh⟩
theorem s95:Sd 95 D4:=sf (F:=TM) (ek ⟨Ym,Yn,abl,trivial⟩) Tryz.func95 λ a=>by kernel_rfl
def SZ:=fe [(72,Z0),(91,DY),(92,DZ),(93,D0),(94,D3),(95,D4),(88,tb)] []
def DH:PF:=⟨[R (.pair .i64 .i64),R q1,R q8],[q1,.i64],.shared,gT⟩
theorem s44:Sd 44 DH:=sf (F:=SZ) (ek ⟨Yn,s91,s92,s93,s94,s95,FN,trivial⟩) Tryz.func44 λ a=>by kernel_rfl
def ON:=fe [(29,c7),(40,Za),(41,DE),(33,QL),(42,DF),(43,DG),(44,DH)] []
def rT:PF:=⟨[R q3,R q8],[q3,.i64],.shared,M8⟩
theorem EZ:Sd 15 rT:=sf (F:=ON) (ek ⟨mj,Zq,s41,dx,s42,s43,s44,trivial⟩) Tryz.func15 λ a=>by kernel_rfl
def IO:=fe [(33,QL),(29,c7),(15,rT)] [(6,[.slot 7 (.sl 3 .i64) (.own true),.slot 25 .i64 (.imm false),.box 11 q3 (.imm false)])]
def BC:PF:=⟨[R q3,R (.sl 58 q8)],[q3,(.sl 3 .i64)],.shared,fP⟩
theorem s10:Sd 10 BC:=sf (F:=IO) (ek ⟨dx,mj,EZ,trivial⟩) Tryz.func10 λ a=>by kernel_rfl
def ad6:=fe [(6,DL),(7,DO),(8,DR),(9,tc),(10,BC),(16,BY),(17,NG),(15,rT)] [(12,[.slot 11 .i64 (.imm false)])]
def pf4:PF:=⟨[R (.sl 5 .u8)],[.bool],.uniq,laws_FnAsksOnce⟩
theorem s4:Sd 4 pf4:=sf (F:=ad6) (ek ⟨s6,s7,s8,s9,s10,s16,ae,EZ,trivial⟩) Tryz.func4 λ a=>by kernel_rfl
end
end G448
