/- That the printed functions are what the evaluator reckons. (Printed by our own program.) -/
import Derived.Test.YtfobheedeodnjaaGreatDoorProg
import Derived.Test.YtfobheedeodnjaaGreatDoorSiFns
import Derived.Test.YtfobheedeodnjaaGreatDoorSh
import Derived.KernelRfl
set_option linter.unusedSimpArgs false
set_option linter.unusedVariables false
namespace G448
open Ev Go Go.Proofs
set_option maxRecDepth 100000
noncomputable section
abbrev q1:Ty:=(.pair .i64 (.pair .i64 (.pair .i64 (.pair (.pair .i64 (.pair .i64 (.pair (.pair .i64 (.pair .str (.sl 3 .i64))) .str))) (.pair (.sl 39 (.pair .i64 (.pair .i64 (.pair .i64 .i64)))) (.pair (.sl 58 (.pair .i64 (.pair .str (.sl 3 .i64)))) (.pair (.pair (.sl 5 .u8) .i64) (.sl 62 (.pair .i64 (.pair .i64 (.pair .i64 (.pair (.pair .str (.pair .i64 (.pair .str (.sl 3 .i64)))) (.pair (.pair .i64 (.pair .str (.sl 3 .i64))) (.pair (.pair .i64 (.pair .str (.sl 3 .i64))) (.pair .i64 (.pair .i64 (.pair .i64 (.pair .i64 .i64))))))))))))))))))
abbrev q2:Ty:=(.pair .i64 (.pair .i64 (.pair (.pair .str (.pair .i64 (.pair .str (.sl 3 .i64)))) (.pair (.pair .i64 (.pair .str (.sl 3 .i64))) (.pair (.pair .i64 (.pair .str (.sl 3 .i64))) (.pair .i64 (.pair .i64 (.pair .i64 (.pair .i64 .i64)))))))))
abbrev q3:Ty:=(.pair (.pair .i64 .i64) (.pair (.sl 3 .i64) (.pair (.sl 37 q1) (.pair (.sl 64 (.pair .i64 (.sl 5 .u8))) (.sl 85 (.pair .i64 (.pair .str .i64)))))))
abbrev q4:Ty:=(.pair .i64 (.pair .str (.sl 3 .i64)))
abbrev q5:Ty:=(.pair .i64 (.pair .i64 (.pair .i64 .i64)))
abbrev q6:Ty:=(.pair (.sl 5 .u8) (.pair .i64 .i64))
abbrev q7:Ty:=(.pair .i64 (.pair .i64 (.pair q4 .str)))
abbrev q8:Ty:=(.pair .i64 (.pair .i64 (.pair .i64 q2)))
abbrev q9:Ty:=(.pair (.sl 3 .i64) (.sl 3 .i64))
abbrev ZA:Ty:=(.pair (.sl 5 .u8) (.pair .i64 .bool))
abbrev Kd:Ty:=(.pair (.sl 5 .u8) .i64)
abbrev QL:Ty:=(.sl 62 (.pair .i64 q2))
abbrev QM:Ty:=(.sl 85 (.pair .i64 (.pair .str .i64)))
abbrev dN:Ty:=(.pair .i64 (.pair .str (.sl 0 .i64)))
abbrev dO:Ty:=(.sl 139 (.pair .i64 (.sl 39 q5)))
def TYS:List (Nat×TD):=[(3,⟨.i64,8,[],none⟩),(4,⟨.bool,1,[],none⟩),(5,⟨.u8,1,[],none⟩),(9,⟨.str,16,[],none⟩),(22,⟨(.sl 5 .u8),24,[],none⟩),(25,⟨(.pair .i64 .i64),16,[(0,3),(1,3)],none⟩),(26,⟨(.sl 3 .i64),24,[],none⟩),(28,⟨(.pair .i64 (.pair .str (.sl 3 .i64))),48,[(0,3),(1,9),(2,26)],none⟩),(30,⟨(.pair .i64 (.pair .i64 (.pair (.pair .i64 (.pair .str (.sl 3 .i64))) .str))),80,[(0,3),(1,3),(2,28),(5,9)],none⟩),(31,⟨(.sl 39 (.pair .i64 (.pair .i64 (.pair .i64 .i64)))),24,[],none⟩),(32,⟨(.sl 58 (.pair .i64 (.pair .str (.sl 3 .i64)))),24,[],none⟩),(34,⟨(.pair (.sl 5 .u8) .i64),32,[(0,22),(1,3)],none⟩),(35,⟨(.sl 62 (.pair .i64 (.pair .i64 (.pair .i64 (.pair (.pair .str (.pair .i64 (.pair .str (.sl 3 .i64)))) (.pair (.pair .i64 (.pair .str (.sl 3 .i64))) (.pair (.pair .i64 (.pair .str (.sl 3 .i64))) (.pair .i64 (.pair .i64 (.pair .i64 (.pair .i64 .i64))))))))))),24,[],none⟩),(37,⟨(.pair .i64 (.pair .i64 (.pair .i64 (.pair (.pair .i64 (.pair .i64 (.pair (.pair .i64 (.pair .str (.sl 3 .i64))) .str))) (.pair (.sl 39 (.pair .i64 (.pair .i64 (.pair .i64 .i64)))) (.pair (.sl 58 (.pair .i64 (.pair .str (.sl 3 .i64)))) (.pair (.pair (.sl 5 .u8) .i64) (.sl 62 (.pair .i64 (.pair .i64 (.pair .i64 (.pair (.pair .str (.pair .i64 (.pair .str (.sl 3 .i64)))) (.pair (.pair .i64 (.pair .str (.sl 3 .i64))) (.pair (.pair .i64 (.pair .str (.sl 3 .i64))) (.pair .i64 (.pair .i64 (.pair .i64 (.pair .i64 .i64)))))))))))))))))),208,[(0,3),(1,3),(2,3),(3,30),(9,31),(10,32),(11,34),(13,35)],none⟩),(39,⟨(.pair .i64 (.pair .i64 (.pair .i64 .i64))),32,[(0,3),(1,3),(2,3),(3,3)],none⟩),(45,⟨(.sl 37 (.pair .i64 (.pair .i64 (.pair .i64 (.pair (.pair .i64 (.pair .i64 (.pair (.pair .i64 (.pair .str (.sl 3 .i64))) .str))) (.pair (.sl 39 (.pair .i64 (.pair .i64 (.pair .i64 .i64)))) (.pair (.sl 58 (.pair .i64 (.pair .str (.sl 3 .i64)))) (.pair (.pair (.sl 5 .u8) .i64) (.sl 62 (.pair .i64 (.pair .i64 (.pair .i64 (.pair (.pair .str (.pair .i64 (.pair .str (.sl 3 .i64)))) (.pair (.pair .i64 (.pair .str (.sl 3 .i64))) (.pair (.pair .i64 (.pair .str (.sl 3 .i64))) (.pair .i64 (.pair .i64 (.pair .i64 (.pair .i64 .i64))))))))))))))))))),24,[],none⟩),(46,⟨(.sl 64 (.pair .i64 (.sl 5 .u8))),24,[],none⟩),(47,⟨(.sl 85 (.pair .i64 (.pair .str .i64))),24,[],none⟩),(49,⟨(.pair (.pair .i64 .i64) (.pair (.sl 3 .i64) (.pair (.sl 37 (.pair .i64 (.pair .i64 (.pair .i64 (.pair (.pair .i64 (.pair .i64 (.pair (.pair .i64 (.pair .str (.sl 3 .i64))) .str))) (.pair (.sl 39 (.pair .i64 (.pair .i64 (.pair .i64 .i64)))) (.pair (.sl 58 (.pair .i64 (.pair .str (.sl 3 .i64)))) (.pair (.pair (.sl 5 .u8) .i64) (.sl 62 (.pair .i64 (.pair .i64 (.pair .i64 (.pair (.pair .str (.pair .i64 (.pair .str (.sl 3 .i64)))) (.pair (.pair .i64 (.pair .str (.sl 3 .i64))) (.pair (.pair .i64 (.pair .str (.sl 3 .i64))) (.pair .i64 (.pair .i64 (.pair .i64 (.pair .i64 .i64))))))))))))))))))) (.pair (.sl 64 (.pair .i64 (.sl 5 .u8))) (.sl 85 (.pair .i64 (.pair .str .i64))))))),112,[(0,25),(2,26),(3,45),(4,46),(5,47)],none⟩),(57,⟨(.pair .str (.pair .i64 (.pair .str (.sl 3 .i64)))),64,[(0,9),(1,28)],none⟩),(58,⟨(.pair .i64 (.pair .str (.sl 3 .i64))),48,[(0,3),(1,9),(2,26)],none⟩),(60,⟨(.pair .i64 (.pair .i64 (.pair (.pair .str (.pair .i64 (.pair .str (.sl 3 .i64)))) (.pair (.pair .i64 (.pair .str (.sl 3 .i64))) (.pair (.pair .i64 (.pair .str (.sl 3 .i64))) (.pair .i64 (.pair .i64 (.pair .i64 (.pair .i64 .i64))))))))),216,[(0,3),(1,3),(2,57),(6,58),(9,28),(12,3),(13,39)],none⟩),(62,⟨(.pair .i64 (.pair .i64 (.pair .i64 (.pair (.pair .str (.pair .i64 (.pair .str (.sl 3 .i64)))) (.pair (.pair .i64 (.pair .str (.sl 3 .i64))) (.pair (.pair .i64 (.pair .str (.sl 3 .i64))) (.pair .i64 (.pair .i64 (.pair .i64 (.pair .i64 .i64)))))))))),224,[(0,3),(1,60)],none⟩),(64,⟨(.pair .i64 (.sl 5 .u8)),32,[(0,3),(1,22)],none⟩),(85,⟨(.pair .i64 (.pair .str .i64)),32,[(0,3),(1,9),(2,3)],none⟩),(99,⟨(.pair (.sl 5 .u8) (.pair .i64 .i64)),40,[(0,22),(1,3),(2,3)],none⟩),(130,⟨(.pair (.sl 5 .u8) (.pair .i64 .bool)),40,[(0,22),(1,3),(2,4)],none⟩),(135,⟨(.sl 139 (.pair .i64 (.sl 39 (.pair .i64 (.pair .i64 (.pair .i64 .i64)))))),24,[],none⟩),(139,⟨(.pair .i64 (.sl 39 (.pair .i64 (.pair .i64 (.pair .i64 .i64))))),32,[(0,3),(1,31)],none⟩),(159,⟨(.pair .i64 (.pair .i64 (.pair .i64 (.pair .i64 (.pair .i64 (.pair (.pair .str (.pair .i64 (.pair .str (.sl 3 .i64)))) (.pair (.pair .i64 (.pair .str (.sl 3 .i64))) (.pair (.pair .i64 (.pair .str (.sl 3 .i64))) (.pair .i64 (.pair .i64 (.pair .i64 (.pair .i64 .i64)))))))))))),240,[(0,3),(1,3),(2,3),(3,60)],none⟩),(170,⟨(.pair (.sl 5 .u8) (.pair .i64 .bool)),40,[(0,22),(1,3),(2,4)],none⟩),(179,⟨(.sl 9 .str),24,[],none⟩),(226,⟨(.pair (.sl 3 .i64) (.sl 3 .i64)),48,[(0,26),(1,26)],none⟩),(233,⟨(.sl 3 .i64),32,[],some 4⟩)]
def EQS:List Nat:=[25,39,85]
theorem tysOK:yi Tryz.prog TYS=true:=by kernel_rfl
theorem Iv:EQS.all (LA Tryz.prog TYS)=true:=by kernel_rfl
theorem PT:Tryz.prog.follows .mixedOrders=true:=by kernel_rfl
theorem MP {fns:List (Nat×PF)} {news:List (Nat×NF)} {muts:List (Nat×MF)} {frz hold:Bool} {conds joins alts:List (Nat×PF)} {thaws:List (Nat×Nat)} (h:AllS Tryz.prog GLB fns) (h2:AllN Tryz.prog GLB news) (h3:AllM Tryz.prog GLB muts) (h4:AllC Tryz.prog GLB conds) (h5:AllJ Tryz.prog GLB joins) (h6:AllS Tryz.prog GLB alts):jP Tryz.prog GLB ⟨TYS,fns,EQS,news,muts,frz,conds,joins,alts,hold,thaws⟩:=Iu PT tysOK Iv h h2 h3 h4 h5 h6
def fe (fns:List (Nat×PF)) (ls:List (Nat×List Ev.Item)):y9:=⟨⟨TYS,fns,EQS,[],[],false,[],[],[],false,[]⟩,ls⟩
theorem ek {fns:List (Nat×PF)} {frz hold:Bool} {thaws:List (Nat×Nat)} (h:AllS Tryz.prog GLB fns):jP Tryz.prog GLB ⟨TYS,fns,EQS,[],[],frz,[],[],[],hold,thaws⟩:=MP h trivial trivial trivial trivial trivial
abbrev R (t:Ty):PK×Ty:=(.rd,t)
abbrev Sd (f:Nat) (pf:PF):Prop:=Sound Tryz.prog GLB f pf
theorem sf {F:y9} {f:FuncId} {fn:Func} {pf:PF} (hE:jP Tryz.prog GLB F.E) (hf:Tryz.prog.funcs[f]?=some fn) (he:∀ a,qD F fn pf.params pf.rets pf.rk a=pf.fn a) (hn:(fn.name == "runtime.NumGoroutine")=false:=by kernel_rfl) (ht:F.E.thaws=[]:=by rfl):Sd f pf:=AS hE hf hn (λ a o h=>(he a).trans h) (.inl ht)
def oP (pf:PF) (v:zM pf.params pf.rets):PF:={pf with fn:=λ _=>some v}
def Ll:Code->Code | .seq a _=>a|c=>c
def Jf:Code->Code | .seq _ b=>b|c=>c
def rv:Code->Code | .cond _ a _=>a|c=>c
def rn (F:y9) (c:Code) (st:St):St:=match jo F c st (λ _ s=>some s) with|some s=>s|none=>st
def rgo (F:y9) (c:Code) (lo hi:Nat) (st:St):St:=match c with | .region _ ops _=>(match evReg F.E ops.toList ((ops.toList.take hi).drop lo) st some with|some s=>s|none=>st)|_=>st
def en (fn:Func) (ps:List (PK×Ty)) (args:zW ps):St:=match yU ps args 0 with|some (avs,es,j)=>{ slots:=avs++List.replicate (fn.ntmps - avs.length) (.tup []),tab:=es,nxt:=j,lvl:=0 }|none=>⟨[],[],0,0⟩
def qC (F:y9) (fn:Func) (ps:List (PK×Ty)) (rets:List Ty) (rk:RK) (args:zW ps) (c:Code) (st:St):Option (zM ps rets):=jo F c st λ x st=>match x with | .exit _=>none | .normal=>MW F fn ps rets rk args st | .ret=>MW F fn ps rets rk args st
theorem bc {α β:Type} {x:Option α} {f g:α->Option β} (h:∀ y,f y=g y):x.bind f=x.bind g:=by rw[funext h]
theorem cc {α:Type} {c:Bool} {x y z t:α} (h:x=z) (k:y=t):(bif c then x else y)=bif c then z else t:=by rw[h,k]
def F5:=fe [] []
def wa:PF:=⟨[R (.sl 5 .u8)],[.bool],.uniq,lJ⟩
theorem s5:Sd 5 wa:=sf (F:=F5) (ek trivial) Tryz.func5 λ a=>by kernel_rfl
def pE:=fe [] [(3,[.slot 3 .i64 (.imm false),.slot 4 .i64 (.imm false)])]
def uD:NF:=⟨[(.rd,(.sl 5 .u8))],q6,aY⟩
theorem Il (a:zW [(.rd,(.sl 5 .u8))]):ky pE Tryz.f16 [(.rd,(.sl 5 .u8))] q6 a=aY a:=by kernel_rfl
theorem Sq:KA Tryz.prog GLB 16 uD:=UT (F:=pE) (ek trivial) Tryz.func16 (by kernel_rfl) (λ a o h=>(Il a).trans h)
def Ck:=fe [] []
def uq:PF:=⟨[(.ptr,q6)],[.i64],.uniq,Li⟩
theorem Se:Sd 111 uq:=sf (F:=Ck) (ek trivial) Tryz.func111 λ a=>by kernel_rfl
def Fd:=fe [(111,uq)] []
def yy:PF:=⟨[(.ptr,q6),R .i64],[.i64],.uniq,zj⟩
theorem yA:Sd 50 yy:=sf (F:=Fd) (ek ⟨Se,trivial⟩) Tryz.func50 λ a=>by kernel_rfl
def Fe:=fe [(50,yy)] []
def YB:PF:=⟨[(.ptr,q6),R (.sl 3 .i64)],[.i64],.uniq,jr⟩
theorem Ja:Sd 51 YB:=sf (F:=Fe) (ek ⟨yA,trivial⟩) Tryz.func51 λ a=>by kernel_rfl
def Cq:=fe [(50,yy)] []
def pf117:PF:=⟨[(.ptr,q6),R .i64],[.bool],.uniq,ZE⟩
theorem Y9:Sd 117 pf117:=sf (F:=Cq) (ek ⟨yA,trivial⟩) Tryz.func117 λ a=>by kernel_rfl
def FC:=fe [] []
def jD:PF:=⟨[R .i64,R .i64,R .i64],[.bool],.uniq,yk⟩
theorem jI:Sd 76 jD:=sf (F:=FC) (ek trivial) Tryz.func76 λ a=>by kernel_rfl
def FB:=fe [(76,jD)] []
def Z8:PF:=⟨[R (.pair .i64 .i64)],[.bool],.uniq,ZD⟩
theorem YF:Sd 75 Z8:=sf (F:=FB) (ek ⟨jI,trivial⟩) Tryz.func75 λ a=>by kernel_rfl
def Dz:=fe [] [(4,[.slot 5 (.sl 9 .str) (.own true),.slot 6 .i64 (.imm false),.slot 7 .i64 (.imm false)])]
def mB:PF:=⟨[R .str,R .u8],[(.sl 9 .str)],.uniq,aF⟩
theorem xI:Sd 194 mB:=sf (F:=Dz) (ek trivial) Tryz.func194 λ a=>by kernel_rfl
def DA:=fe [] [(2,[.slot 7 .i64 (.imm false)])]
def mC:PF:=⟨[R .str,R .u8],[.str,.str,.bool],.uniq,Lj⟩
theorem xJ:Sd 195 mC:=sf (F:=DA) (ek trivial) Tryz.func195 λ a=>by kernel_rfl
def C9:=fe [] [(5,[.slot 0 .i64 (.imm false),.slot 4 .str (.imm false)])]
def Qz:PF:=⟨[R .i64],[.str],.uniq,Jd⟩
theorem ei:Sd 168 Qz:=sf (F:=C9) (ek trivial) Tryz.func168 λ a=>by kernel_rfl
def DB:=fe [(168,Qz)] [(5,[.slot 4 .i64 (.imm false),.slot 5 .i64 (.imm false)])]
def mD:PF:=⟨[R .str],[.i64,.bool],.uniq,Le⟩
theorem xK:Sd 196 mD:=sf (F:=DB) (ek ⟨ei,trivial⟩) Tryz.func196 λ a=>by kernel_rfl
def CC:=fe [(76,jD)] []
def LQ:PF:=⟨[R q5],[.bool],.uniq,Kq⟩
theorem Nv:Sd 131 LQ:=sf (F:=CC) (ek ⟨jI,trivial⟩) Tryz.func131 λ a=>by kernel_rfl
def D5:=fe [(131,LQ),(168,Qz)] []
def mJ:PF:=⟨[R q5],[.str],.uniq,N0⟩
theorem xQ:Sd 229 mJ:=sf (F:=D5) (ek ⟨Nv,ei,trivial⟩) Tryz.func229 λ a=>by kernel_rfl
def D3:=fe [(195,mC),(196,mD),(229,mJ)] []
def vo:PF:=⟨[R .str],[q5,.bool],.uniq,aK⟩
theorem S5:Sd 223 vo:=sf (F:=D3) (ek ⟨xJ,xK,xQ,trivial⟩) Tryz.func223 λ a=>by kernel_rfl
def DC:=fe [(194,mB),(223,vo)] [(6,[.slot 4 (.sl 39 q5) (.own true),.slot 6 .i64 (.imm false)])]
def uX:PF:=⟨[R .str],[(.sl 39 q5),.bool],.uniq,fB⟩
theorem SN:Sd 197 uX:=sf (F:=DC) (ek ⟨xI,S5,trivial⟩) Tryz.func197 λ a=>by kernel_rfl
def CZ:=fe [(194,mB),(195,mC),(196,mD),(197,uX)] [(10,[.slot 5 dO (.own true),.slot 7 .i64 (.imm false),.slot 8 .i64 (.imm false)])]
def Qy:PF:=⟨[R .str],[dO,.bool],.uniq,Md⟩
theorem eh:Sd 155 Qy:=sf (F:=CZ) (ek ⟨xI,xJ,xK,SN,trivial⟩) Tryz.func155 λ a=>by kernel_rfl
def FV:=fe [(155,Qy)] []
def Ka:PF:=⟨[R .str],[.bool],.uniq,YN⟩
theorem K7:Sd 98 Ka:=sf (F:=FV) (ek ⟨eh,trivial⟩) Tryz.func98 λ a=>by kernel_rfl
def FW:=fe [(155,Qy)] []
def Z9:PF:=⟨[R .str],[.i64],.uniq,Zk⟩
theorem YG:Sd 99 Z9:=sf (F:=FW) (ek ⟨eh,trivial⟩) Tryz.func99 λ a=>by kernel_rfl
def FS:=fe [] [(2,[.slot 5 .i64 (.imm false)])]
def dJ:PF:=⟨[R .i64,R (.sl 3 .i64)],[.bool],.uniq,NX⟩
theorem ox:Sd 95 dJ:=sf (F:=FS) (ek trivial) Tryz.func95 λ a=>by kernel_rfl
def Dj:=fe [(75,Z8)] []
def du:PF:=⟨[R (.pair .i64 .i64)],[.i64],.uniq,NU⟩
theorem n6:Sd 179 du:=sf (F:=Dj) (ek ⟨YF,trivial⟩) Tryz.func179 λ a=>by kernel_rfl
def CB:=fe [(75,Z8),(98,Ka),(99,Z9),(95,dJ),(179,du)] []
def pf130:PF:=⟨[R (.pair .i64 .i64),R q4],[.bool],.uniq,YO⟩
theorem K4:Sd 130 pf130:=sf (F:=CB) (ek ⟨YF,K7,YG,ox,n6,trivial⟩) Tryz.func130 λ a=>by kernel_rfl
def FD:=fe [(76,jD),(130,pf130),(98,Ka)] []
def LT:PF:=⟨[R (.pair .i64 .i64),R q7],[.bool],.uniq,Ko⟩
theorem Ny:Sd 77 LT:=sf (F:=FD) (ek ⟨jI,K4,K7,trivial⟩) Tryz.func77 λ a=>by kernel_rfl
def FI:=fe [] []
def ng:PF:=⟨[R q5,R q5],[.bool],.uniq,bd⟩
theorem Am:Sd 82 ng:=sf (F:=FI) (ek trivial) Tryz.func82 λ a=>by kernel_rfl
def FE:=fe [(131,LQ),(82,ng)] [(2,[.slot 3 .i64 (.imm false)])]
def m9:PF:=⟨[R (.sl 39 q5)],[.bool],.uniq,L9⟩
theorem Ak:Sd 78 m9:=sf (F:=FE) (ek ⟨Nv,Am,trivial⟩) Tryz.func78 λ a=>by kernel_rfl
def CD:=fe [(75,Z8),(76,jD),(95,dJ),(98,Ka),(99,Z9)] []
def Qt:PF:=⟨[R (.pair .i64 .i64),R q4],[.bool],.uniq,Km⟩
theorem d8:Sd 132 Qt:=sf (F:=CD) (ek ⟨YF,jI,ox,K7,YG,trivial⟩) Tryz.func132 λ a=>by kernel_rfl
def CE:=fe [] []
def ml:PF:=⟨[R q4,R q4],[.bool],.uniq,aO⟩
theorem xw:Sd 133 ml:=sf (F:=CE) (ek trivial) Tryz.func133 λ a=>by kernel_rfl
def FF:=fe [(132,Qt),(133,ml)] [(2,[.slot 5 .i64 (.imm false)])]
def na:PF:=⟨[R (.pair .i64 .i64),R (.sl 58 q4)],[.bool],.uniq,Me⟩
theorem Al:Sd 79 na:=sf (F:=FF) (ek ⟨d8,xw,trivial⟩) Tryz.func79 λ a=>by kernel_rfl
def FG:=fe [(76,jD)] []
def QH:PF:=⟨[R Kd],[.bool],.uniq,Lc⟩
theorem ew:Sd 80 QH:=sf (F:=FG) (ek ⟨jI,trivial⟩) Tryz.func80 λ a=>by kernel_rfl
def CH:=fe [] [(2,[.slot 5 .i64 (.imm false)])]
def mo:PF:=⟨[R (.sl 3 .i64),R (.sl 3 .i64)],[.bool],.uniq,bf⟩
theorem xx:Sd 136 mo:=sf (F:=CH) (ek trivial) Tryz.func136 λ a=>by kernel_rfl
def FJ:=fe [(136,mo)] []
def dI:PF:=⟨[R q4,R q4],[.bool],.uniq,NT⟩
theorem ou:Sd 83 dI:=sf (F:=FJ) (ek ⟨xx,trivial⟩) Tryz.func83 λ a=>by kernel_rfl
def FL:=fe [(83,dI)] []
def wx:PF:=⟨[R (.pair .str q4),R (.pair .str q4)],[.bool],.uniq,eJ⟩
theorem T1:Sd 85 wx:=sf (F:=FL) (ek ⟨ou,trivial⟩) Tryz.func85 λ a=>by kernel_rfl
def FM:=fe [(136,mo)] []
def wy:PF:=⟨[R q4,R q4],[.bool],.uniq,fN⟩
theorem T3:Sd 86 wy:=sf (F:=FM) (ek ⟨xx,trivial⟩) Tryz.func86 λ a=>by kernel_rfl
def EQ:=fe [(85,wx),(86,wy),(83,dI)] []
def mV:PF:=⟨[R q2,R q2],[.bool],.uniq,Kk⟩
theorem Ac:Sd 29 mV:=sf (F:=EQ) (ek ⟨T1,T3,ou,trivial⟩) Tryz.func29 λ a=>by kernel_rfl
def CF:=fe [(29,mV)] []
def uy:PF:=⟨[R q2],[.bool],.uniq,fO⟩
theorem Sl:Sd 134 uy:=sf (F:=CF) (ek ⟨Ac,trivial⟩) Tryz.func134 λ a=>by kernel_rfl
def Dd:=fe [] []
def J8:PF:=⟨[R .i64,R .i64],[.i64],.uniq,yS⟩
theorem K5:Sd 172 J8:=sf (F:=Dd) (ek trivial) Tryz.func172 λ a=>by kernel_rfl
def Dl:=fe [(98,Ka),(172,J8)] [(4,[.slot 3 .i64 (.imm false)])]
def QB:PF:=⟨[R .str],[.str],.uniq,Lh⟩
theorem em:Sd 180 QB:=sf (F:=Dl) (ek ⟨K7,K5,trivial⟩) Tryz.func180 λ a=>by kernel_rfl
def CG:=fe [(130,pf130),(98,Ka),(180,QB)] []
def Qu:PF:=⟨[R (.pair .i64 .i64),R (.pair .str q4)],[.bool],.uniq,L5⟩
theorem d9:Sd 135 Qu:=sf (F:=CG) (ek ⟨K4,K7,em,trivial⟩) Tryz.func135 λ a=>by kernel_rfl
def FH:=fe [(75,Z8),(134,uy),(135,Qu),(132,Qt),(76,jD),(130,pf130),(131,LQ)] []
def LU:PF:=⟨[R (.pair .i64 .i64),R q2],[.bool],.uniq,ZZ⟩
theorem Nz:Sd 81 LU:=sf (F:=FH) (ek ⟨YF,Sl,d9,d8,jI,K4,Nv,trivial⟩) Tryz.func81 λ a=>by kernel_rfl
def D6:=fe [(75,Z8),(76,jD),(77,LT),(78,m9),(79,na),(80,QH),(81,LU)] [(4,[.slot 5 .i64 (.imm false)])]
def Zy:PF:=⟨[R (.pair .i64 .i64),R q1],[.bool],.uniq,j6⟩
theorem ZW:Sd 23 Zy:=sf (F:=D6) (ek ⟨YF,jI,Ny,Ak,Al,ew,Nz,trivial⟩) Tryz.func23 λ a=>by kernel_rfl
def DN:=fe [(23,Zy)] []
def vi:PF:=⟨[R (.pair .i64 .i64),R .i64],[q1,.bool],.uniq,fg⟩
theorem SY:Sd 210 vi:=sf (F:=DN) (ek ⟨ZW,trivial⟩) Tryz.func210 λ a=>by kernel_rfl
def FT:=fe [(75,Z8)] []
def wD:PF:=⟨[R (.pair .i64 .i64)],[.i64],.uniq,eQ⟩
theorem T7:Sd 96 wD:=sf (F:=FT) (ek ⟨YF,trivial⟩) Tryz.func96 λ a=>by kernel_rfl
def Dx:=fe [] [(3,[.slot 7 .i64 (.imm false),.slot 8 .i64 (.imm false)])]
def dz:PF:=⟨[R (.sl 5 .u8),R .i64],[.i64,.i64,.bool],.uniq,NJ⟩
theorem oa:Sd 192 dz:=sf (F:=Dx) (ek trivial) Tryz.func192 λ a=>by kernel_rfl
def CV:=fe [(192,dz)] []
def Qx:PF:=⟨[(.ptr,ZA)],[.i64],.uniq,Zl⟩
theorem eg:Sd 151 Qx:=sf (F:=CV) (ek ⟨oa,trivial⟩) Tryz.func151 λ a=>by kernel_rfl
def Dy:=fe [(192,dz)] []
def uW:PF:=⟨[R (.sl 5 .u8),R .i64],[.str,.i64,.bool],.uniq,eS⟩
theorem SM:Sd 193 uW:=sf (F:=Dy) (ek ⟨oa,trivial⟩) Tryz.func193 λ a=>by kernel_rfl
def CW:=fe [(193,uW)] []
def dq:PF:=⟨[(.ptr,ZA)],[.str],.uniq,Mi⟩
theorem nX:Sd 152 dq:=sf (F:=CW) (ek ⟨SM,trivial⟩) Tryz.func152 λ a=>by kernel_rfl
def CY:=fe [(151,Qx)] [(4,[.slot 3 (.sl 3 .i64) (.own true),.slot 5 .i64 (.imm false),.keep 0 ZA [2,0,0]])]
def mv:PF:=⟨[(.ptr,ZA)],[(.sl 3 .i64)],.uniq,aQ⟩
theorem xD:Sd 154 mv:=sf (F:=CY) (ek ⟨eg,trivial⟩) Tryz.func154 λ a=>by kernel_rfl
def CX:=fe [(151,Qx),(152,dq),(154,mv)] []
def mu:PF:=⟨[(.ptr,ZA)],[q4],.uniq,N7⟩
theorem xC:Sd 153 mu:=sf (F:=CX) (ek ⟨eg,nX,xD,trivial⟩) Tryz.func153 λ a=>by kernel_rfl
def FU:=fe [(151,Qx),(152,dq),(153,mu),(154,mv),(81,LU)] []
def dK:PF:=⟨[R (.pair .i64 .i64),R (.sl 5 .u8)],[q2,.bool],.uniq,NN⟩
theorem oy:Sd 97 dK:=sf (F:=FU) (ek ⟨eg,nX,xC,xD,Nz,trivial⟩) Tryz.func97 λ a=>by kernel_rfl
def E3:=fe [(75,Z8),(95,dJ),(96,wD),(23,Zy),(97,dK),(76,jD),(98,Ka),(99,Z9)] [(4,[.slot 3 .i64 (.imm false)]),(9,[.slot 4 .i64 (.imm false)]),(15,[.slot 7 .i64 (.imm false)])]
def vY:PF:=⟨[R q3],[.bool],.uniq,N4⟩
theorem TF:Sd 35 vY:=sf (F:=E3) (ek ⟨YF,ox,T7,ZW,oy,jI,K7,YG,trivial⟩) Tryz.func35 λ a=>by kernel_rfl
def Dm:=fe [(75,Z8),(210,vi),(35,vY)] [(3,[.slot 7 .i64 (.imm false),.box 5 q3 (.own true)])]
def uQ:PF:=⟨[R (.pair .i64 .i64),R (.sl 3 .i64)],[q3,.bool],.uniq,aM⟩
theorem SF:Sd 181 uQ:=sf (F:=Dm) (ek ⟨YF,SY,TF,trivial⟩) Tryz.func181 λ a=>by kernel_rfl
def CI:=fe [(51,YB),(50,yy),(117,pf117),(181,uQ)] []
def uz:PF:=⟨[(.ptr,q6)],[q3],.uniq,f6⟩
theorem Sm:Sd 137 uz:=sf (F:=CI) (ek ⟨Ja,yA,Y9,SF,trivial⟩) Tryz.func137 λ a=>by kernel_rfl
def DS:=fe [(75,Z8)] []
def KX:PF:=⟨[R (.pair .i64 .i64),R .i64],[.i64],.uniq,jz⟩
theorem L1:Sd 215 KX:=sf (F:=DS) (ek ⟨YF,trivial⟩) Tryz.func215 λ a=>by kernel_rfl
def Cz:=fe [] []
def Nh:PF:=⟨[R q4],[q4],.uniq,JI⟩
theorem QW:Sd 128 Nh:=sf (F:=Cz) (ek trivial) Tryz.func128 λ a=>by kernel_rfl
def DT:=fe [(128,Nh)] [(2,[.slot 7 .i64 (.imm false),.box 1 q4 (.own true)])]
def dB:PF:=⟨[R (.sl 58 q4),R .i64,R .str],[q4],.uniq,NZ⟩
theorem od:Sd 216 dB:=sf (F:=DT) (ek ⟨QW,trivial⟩) Tryz.func216 λ a=>by kernel_rfl
def DV:=fe [] [(3,[.slot 2 .i64 (.imm false),.box 2 q9 (.own true)])]
def mH:PF:=⟨[],[q9],.uniq,NM⟩
theorem xO:Sd 218 mH:=sf (F:=DV) (ek trivial) Tryz.func218 λ a=>by kernel_rfl
def DW:=fe [(155,Qy)] [(4,[.slot 3 (.sl 39 q5) (.own true),.slot 6 .i64 (.imm false)])]
def mI:PF:=⟨[R .str],[(.sl 39 q5)],.uniq,N1⟩
theorem xP:Sd 219 mI:=sf (F:=DW) (ek ⟨eh,trivial⟩) Tryz.func219 λ a=>by kernel_rfl
def Ef:=fe [] []
def dC:PF:=⟨[R q9],[q9],.uniq,Mk⟩
theorem oe:Sd 238 dC:=sf (F:=Ef) (ek trivial) Tryz.func238 λ a=>by kernel_rfl
def Ey:=fe [(76,jD)] [(4,[.slot 3 .i64 (.imm false)])]
def vD:PF:=⟨[R q9],[.bool],.uniq,an⟩
theorem Ti:Sd 260 vD:=sf (F:=Ey) (ek ⟨jI,trivial⟩) Tryz.func260 λ a=>by kernel_rfl
def Eg:=fe [(238,dC),(260,vD),(131,LQ)] []
def dD:PF:=⟨[R q9,R q5],[q9,.i64],.uniq,L8⟩
theorem og:Sd 239 dD:=sf (F:=Eg) (ek ⟨oe,Ti,Nv,trivial⟩) Tryz.func239 λ a=>by kernel_rfl
def DU:=fe [(238,dC),(239,dD)] [(4,[.slot 7 (.sl 3 .i64) (.own true),.slot 8 .i64 (.imm false),.box 7 q9 (.own true)])]
def mG:PF:=⟨[R q9,R (.sl 39 q5)],[q9,(.sl 3 .i64)],.uniq,NQ⟩
theorem xN:Sd 217 mG:=sf (F:=DU) (ek ⟨oe,og,trivial⟩) Tryz.func217 λ a=>by kernel_rfl
def DY:=fe [(238,dC),(239,dD)] [(4,[.slot 5 (.sl 39 q5) (.own true),.slot 7 .i64 (.imm false),.box 7 q9 (.own true)])]
def vn:PF:=⟨[R (.sl 39 q5),R q9],[(.sl 39 q5)],.uniq,az⟩
theorem S2:Sd 220 vn:=sf (F:=DY) (ek ⟨oe,og,trivial⟩) Tryz.func220 λ a=>by kernel_rfl
def DJ:=fe [(131,LQ),(229,mJ)] [(3,[.slot 3 .str (.imm false),.slot 4 .i64 (.imm false)])]
def va:PF:=⟨[R (.sl 39 q5)],[.str],.uniq,fC⟩
theorem SU:Sd 206 va:=sf (F:=DJ) (ek ⟨Nv,xQ,trivial⟩) Tryz.func206 λ a=>by kernel_rfl
def De:=fe [(131,LQ),(168,Qz),(206,va),(98,Ka)] [(2,[.slot 7 .i64 (.imm false)])]
def QA:PF:=⟨[R .str,R .i64,R (.sl 39 q5)],[.str],.uniq,Ld⟩
theorem ej:Sd 173 QA:=sf (F:=De) (ek ⟨Nv,ei,SU,K7,trivial⟩) Tryz.func173 λ a=>by kernel_rfl
def Cy:=fe [] []
def LP:PF:=⟨[R q4],[q4],.uniq,Je⟩
theorem Nu:Sd 127 LP:=sf (F:=Cy) (ek trivial) Tryz.func127 λ a=>by kernel_rfl
def Dr:=fe [(173,QA),(127,LP),(135,Qu),(99,Z9)] []
def dy:PF:=⟨[R (.pair .i64 .i64),R q4,R .i64,R (.sl 39 q5)],[(.pair .str q4),.bool],.uniq,yb⟩
theorem n9:Sd 187 dy:=sf (F:=Dr) (ek ⟨ej,Nu,d9,YG,trivial⟩) Tryz.func187 λ a=>by kernel_rfl
def Do:=fe [(23,Zy),(215,KX),(216,dB),(179,du),(218,mH),(219,mI),(217,mG),(220,vn),(187,dy)] []
def dx:PF:=⟨[R (.pair .i64 .i64),R q1],[(.pair .str q4),.bool],.uniq,Ki⟩
theorem n8:Sd 183 dx:=sf (F:=Do) (ek ⟨ZW,L1,od,n6,xO,xP,xN,S2,n9,trivial⟩) Tryz.func183 λ a=>by kernel_rfl
def Dp:=fe [] [(2,[.slot 5 .i64 (.imm false)])]
def ZQ:PF:=⟨[R (.sl 3 .i64),R .i64],[.bool],.uniq,jq⟩
theorem Yc:Sd 184 ZQ:=sf (F:=Dp) (ek trivial) Tryz.func184 λ a=>by kernel_rfl
def Fk:=fe [(50,yy),(51,YB)] []
def KY:PF:=⟨[(.ptr,q6)],[q5],.uniq,zX⟩
theorem L2:Sd 57 KY:=sf (F:=Fk) (ek ⟨yA,Ja,trivial⟩) Tryz.func57 λ a=>by kernel_rfl
def Dq:=fe [] []
def LR:PF:=⟨[R .i64,R .i64],[.i64],.uniq,yd⟩
theorem Nw:Sd 186 LR:=sf (F:=Dq) (ek trivial) Tryz.func186 λ a=>by kernel_rfl
def CL:=fe [(184,ZQ)] [(4,[.slot 5 .i64 (.imm false)])]
def Qv:PF:=⟨[R (.sl 3 .i64),R .i64],[(.sl 3 .i64)],.uniq,Z1⟩
theorem ec:Sd 141 Qv:=sf (F:=CL) (ek ⟨Yc,trivial⟩) Tryz.func141 λ a=>by kernel_rfl
def DZ:=fe [(50,yy),(173,QA),(186,LR),(117,pf117),(180,QB),(141,Qv)] [(11,[.slot 7 (.sl 3 .i64) (.own true),.slot 9 .i64 (.imm false)])]
def pf221:PF:=⟨[(.ptr,q6),R q3],[q2],.uniq,aZ⟩
theorem S3:Sd 221 pf221:=sf (F:=DZ) (ek ⟨yA,ej,Nw,Y9,em,ec,trivial⟩) Tryz.func221 λ a=>by kernel_rfl
def D0:=fe [] []
def pf222:PF:=⟨[],[q4],.uniq,e9⟩
theorem S4:Sd 222 pf222:=sf (F:=D0) (ek trivial) Tryz.func222 λ a=>by kernel_rfl
def Ym:=fe [(221,pf221),(130,pf130),(222,pf222),(117,pf117),(50,yy),(127,LP),(186,LR),(215,KX),(57,KY),(187,dy)] [(17,[.slot 8 .i64 (.imm false),.slot 9 .i64 (.imm false)])]
def pf185:PF:=⟨[(.ptr,q6),R q3],[q2],.uniq,qa⟩
def cG:Code:=match Tryz.f185.body with|some b=>b|none=>.skip
def lp:Code:=Ll cG
def lq:Code:=Ll (Jf cG)
def lr:Code:=Ll (Jf (Jf cG))
def lA:Code:=Jf (Jf (Jf cG))
def lw:Code:=Ll (Ll lA)
def ln:Code:=Jf (Ll lA)
def M9:Code:=Jf lA
def lm:Code:=rv ln
def O6:Code:=Ll lm
def lz:Code:=Ll (Jf lm)
def th:Code:=rv (Jf (Jf lm))
def lB (a:zW pf185.params) (r0:zM pf221.params pf221.rets) (r1:zM pf130.params pf130.rets):St:=rn (fe [(221,oP pf221 r0),(130,oP pf130 r1)] []) (.seq lp (.seq lq (.seq lr lw))) (en Tryz.f185 pf185.params a)
def ti (a:zW pf185.params) (r0:zM pf221.params pf221.rets) (r1:zM pf130.params pf130.rets) (r2:zM pf222.params pf222.rets):St:=rgo (fe [(222,oP pf222 r2)] []) lz 0 5 (rn (fe [(222,oP pf222 r2)] []) O6 (lB a r0 r1))
def tj (a:zW pf185.params) (r0:zM pf221.params pf221.rets) (r1:zM pf130.params pf130.rets) (r2:zM pf222.params pf222.rets):St:=rgo (fe [] []) lz 5 8 ((ti a r0 r1 r2).put (some 35) (.v (.one (.b false))))
def cH (a:zW pf185.params) (r0:zM pf221.params pf221.rets) (r1:zM pf130.params pf130.rets) (r2:zM pf222.params pf222.rets) (r3:zM pf117.params pf117.rets):St:=rgo (fe [(117,oP pf117 r3)] []) lz 5 8 ((ti a r0 r1 r2).put (some 35) (.v (.one (.b true))))
theorem Pa (rest:Code) (a:zW pf185.params) {β:Type} (k:X->St->Option β):jo Ym (.seq lp (.seq lq (.seq lr (.seq (.seq lw ln) rest)))) (en Tryz.f185 pf185.params a) k=((aZ (a.1,(a.2.1,()))).bind λ r0=>((YO (a.2.1.1,(r0.2.1.2.2.2.1,()))).bind λ r1=>(bif (!r1.1) then ((e9 ()).bind λ r2=>(bif (decide ((((List.length a.2.1.2.2.1):Nat):Int)>0)) then ((ZE ((a.1.1,r0.1.2),(2,()))).bind λ r3=>(bif r3.2.1 then (jo Ym (.seq th rest) (cH a r0 r1 r2 r3) k) else (jo Ym rest (cH a r0 r1 r2 r3) k))) else (jo Ym rest (tj a r0 r1 r2) k))) else (jo Ym rest (lB a r0 r1) k)))):=by kernel_rfl
theorem O7 (a:zW pf185.params) (r0:zM pf221.params pf221.rets) (r1:zM pf130.params pf130.rets) (r2:zM pf222.params pf222.rets) (r3:zM pf117.params pf117.rets):qC Ym Tryz.f185 pf185.params pf185.rets pf185.rk a (.seq th M9) (cH a r0 r1 r2 r3)=((zj ((a.1.1,r3.1.2),((((List.length a.2.1.2.2.1):Nat):Int),()))).bind λ r4=>(if ((0<=r4.2.1)/\(r4.2.1<(((List.length a.2.1.2.2.1):Nat):Int))) then ((Je ((rd (.pair .i64 (.pair .i64 (.pair .i64 (.pair (.pair .i64 (.pair .i64 (.pair dN .str))) (.pair (.sl 0 q5) (.pair (.sl 0 dN) (.pair (.pair (.sl 0 .u8) .i64) (.sl 0 (.pair .i64 (.pair .i64 (.pair .i64 (.pair (.pair .str dN) (.pair dN (.pair dN (.pair .i64 q5))))))))))))))) a.2.1.2.2.1 (Int.toNat r4.2.1)).2.2.2.1.2.2.1,())).bind λ r5=>(o5 (a,(r0,(r4,r5))))) else none)):=by kernel_rfl
theorem O5 (a:zW pf185.params) (r0:zM pf221.params pf221.rets) (r1:zM pf130.params pf130.rets) (r2:zM pf222.params pf222.rets) (r3:zM pf117.params pf117.rets):qC Ym Tryz.f185 pf185.params pf185.rets pf185.rk a M9 (cH a r0 r1 r2 r3)=o4 (a,(r0,(r2,r3))):=by kernel_rfl
theorem O8 (a:zW pf185.params) (r0:zM pf221.params pf221.rets) (r1:zM pf130.params pf130.rets) (r2:zM pf222.params pf222.rets):qC Ym Tryz.f185 pf185.params pf185.rets pf185.rk a M9 (tj a r0 r1 r2)=o6 (a,(r0,r2)):=by kernel_rfl
theorem O4 (a:zW pf185.params) (r0:zM pf221.params pf221.rets) (r1:zM pf130.params pf130.rets):qC Ym Tryz.f185 pf185.params pf185.rets pf185.rk a M9 (lB a r0 r1)=o0 (a,r0):=by kernel_rfl
theorem O9 (a:zW pf185.params):qD Ym Tryz.f185 pf185.params pf185.rets pf185.rk a=qC Ym Tryz.f185 pf185.params pf185.rets pf185.rk a (.seq lp (.seq lq (.seq lr (.seq (.seq lw ln) M9)))) (en Tryz.f185 pf185.params a):=by kernel_rfl
theorem SH:Sd 185 pf185:=sf (F:=Ym) (ek ⟨S3,K4,S4,Y9,yA,Nu,Nw,L1,L2,n9,trivial⟩) Tryz.func185 λ a=>(O9 a).trans ((Pa M9 a _).trans (bc λ r0=>bc λ r1=>cc (bc λ r2=>cc (bc λ r3=>cc (O7 a r0 r1 r2 r3) (O5 a r0 r1 r2 r3)) (O8 a r0 r1 r2)) (O4 a r0 r1)))
def CK:=fe [(172,J8),(50,yy),(183,dx),(184,ZQ),(117,pf117),(51,YB),(57,KY),(185,pf185),(186,LR)] [(8,[.slot 7 .i64 (.imm false),.box 7 q8 (.own true)]),(19,[.slot 10 .i64 (.imm false),.box 7 q8 (.own true)])]
def uB:PF:=⟨[(.ptr,q6),R q3],[q8],.uniq,fZ⟩
theorem So:Sd 139 uB:=sf (F:=CK) (ek ⟨K5,yA,n8,Yc,Y9,Ja,L2,SH,Nw,trivial⟩) Tryz.func139 λ a=>by kernel_rfl
def Fx:=fe [(127,LP)] []
def QF:PF:=⟨[R q7],[q7],.uniq,Mh⟩
theorem eu:Sd 71 QF:=sf (F:=Fx) (ek ⟨Nu,trivial⟩) Tryz.func71 λ a=>by kernel_rfl
def Fy:=fe [(128,Nh)] [(3,[.slot 3 (.sl 58 q4) (.own true),.slot 4 .i64 (.imm false)])]
def m7:PF:=⟨[R (.sl 58 q4)],[(.sl 58 q4)],.uniq,JJ⟩
theorem Ai:Sd 72 m7:=sf (F:=Fy) (ek ⟨QW,trivial⟩) Tryz.func72 λ a=>by kernel_rfl
def Fz:=fe [] []
def QG:PF:=⟨[R Kd],[Kd],.uniq,Kr⟩
theorem ev:Sd 73 QG:=sf (F:=Fz) (ek trivial) Tryz.func73 λ a=>by kernel_rfl
def Di:=fe [(127,LP)] []
def uP:PF:=⟨[R (.pair .str q4)],[(.pair .str q4)],.uniq,gq⟩
theorem SE:Sd 178 uP:=sf (F:=Di) (ek ⟨Nu,trivial⟩) Tryz.func178 λ a=>by kernel_rfl
def CA:=fe [(178,uP),(128,Nh),(127,LP)] []
def mj:PF:=⟨[R q2],[q2],.uniq,aR⟩
theorem xu:Sd 129 mj:=sf (F:=CA) (ek ⟨SE,QW,Nu,trivial⟩) Tryz.func129 λ a=>by kernel_rfl
def FA:=fe [(129,mj)] [(3,[.slot 3 QL (.own true),.slot 4 .i64 (.imm false)])]
def m8:PF:=⟨[R QL],[QL],.uniq,aU⟩
theorem Aj:Sd 74 m8:=sf (F:=FA) (ek ⟨xu,trivial⟩) Tryz.func74 λ a=>by kernel_rfl
def DX:=fe [(71,QF),(72,m7),(73,QG),(74,m8)] []
def j0:PF:=⟨[R q1],[q1],.uniq,yv⟩
theorem Zj:Sd 22 j0:=sf (F:=DX) (ek ⟨eu,Ai,ev,Aj,trivial⟩) Tryz.func22 λ a=>by kernel_rfl
def Ds:=fe [(127,LP)] []
def uS:PF:=⟨[R q4,R q4],[q4],.uniq,fc⟩
theorem SI:Sd 188 uS:=sf (F:=Ds) (ek ⟨Nu,trivial⟩) Tryz.func188 λ a=>by kernel_rfl
def Dt:=fe [(155,Qy),(180,QB)] []
def uT:PF:=⟨[R .str],[.str,.bool],.uniq,fu⟩
theorem SJ:Sd 189 uT:=sf (F:=Dt) (ek ⟨eh,em,trivial⟩) Tryz.func189 λ a=>by kernel_rfl
def Dv:=fe [(98,Ka)] []
def uV:PF:=⟨[R .str,R .str],[.bool],.uniq,eP⟩
theorem SL:Sd 190 uV:=sf (F:=Dv) (ek ⟨K7,trivial⟩) Tryz.func190 λ a=>by kernel_rfl
def CT:=fe [(71,QF),(77,LT),(130,pf130),(188,uS),(180,QB),(99,Z9),(172,J8),(189,uT),(190,uV)] []
def Qw:PF:=⟨[R (.pair .i64 .i64),R q7,R q4],[q7],.uniq,Mc⟩
theorem ed:Sd 149 Qw:=sf (F:=CT) (ek ⟨eu,Ny,K4,SI,em,YG,K5,SJ,SL,trivial⟩) Tryz.func149 λ a=>by kernel_rfl
def Dw:=fe [(77,LT),(135,Qu),(99,Z9)] []
def mA:PF:=⟨[R (.pair .i64 .i64),R q7,R (.pair .str q4)],[.bool],.uniq,au⟩
theorem xH:Sd 191 mA:=sf (F:=Dw) (ek ⟨Ny,d9,YG,trivial⟩) Tryz.func191 λ a=>by kernel_rfl
def CU:=fe [(71,QF),(191,mA),(99,Z9)] []
def mt:PF:=⟨[R (.pair .i64 .i64),R q7,R (.pair .str q4)],[q7,.bool],.uniq,N3⟩
theorem xB:Sd 150 mt:=sf (F:=CU) (ek ⟨eu,xH,YG,trivial⟩) Tryz.func150 λ a=>by kernel_rfl
def Ek:=fe [(83,dI)] []
def mO:PF:=⟨[R q7,R q7],[.bool],.uniq,aC⟩
theorem xV:Sd 25 mO:=sf (F:=Ek) (ek ⟨ou,trivial⟩) Tryz.func25 λ a=>by kernel_rfl
def CM:=fe [(76,jD)] [(4,[.slot 0 .i64 (.imm false),.slot 3 (.sl 5 .u8) (.own true)])]
def KW:PF:=⟨[R .i64],[(.sl 5 .u8)],.uniq,j5⟩
theorem L0:Sd 142 KW:=sf (F:=CM) (ek ⟨jI,trivial⟩) Tryz.func142 λ a=>by kernel_rfl
def CN:=fe [(142,KW)] []
def dp:PF:=⟨[R .str],[(.sl 5 .u8)],.uniq,Ma⟩
theorem nW:Sd 143 dp:=sf (F:=CN) (ek ⟨L0,trivial⟩) Tryz.func143 λ a=>by kernel_rfl
def CO:=fe [(130,pf130),(142,KW),(143,dp)] [(6,[.slot 5 (.sl 5 .u8) (.own true),.slot 6 .i64 (.imm false)])]
def mp:PF:=⟨[R (.pair .i64 .i64),R q4],[(.sl 5 .u8)],.uniq,NS⟩
theorem xy:Sd 144 mp:=sf (F:=CO) (ek ⟨K4,L0,nW,trivial⟩) Tryz.func144 λ a=>by kernel_rfl
def ER:=fe [(77,LT),(142,KW),(144,mp),(143,dp)] []
def vR:PF:=⟨[R (.pair .i64 .i64),R q7],[(.sl 5 .u8)],.uniq,fh⟩
theorem Tx:Sd 292 vR:=sf (F:=ER) (ek ⟨Ny,L0,xy,nW,trivial⟩) Tryz.func292 λ a=>by kernel_rfl
def EL:=fe [(292,vR),(142,KW)] []
def vN:PF:=⟨[R (.pair .i64 .i64),R q7],[(.sl 5 .u8)],.uniq,eY⟩
theorem Ts:Sd 282 vN:=sf (F:=EL) (ek ⟨Tx,L0,trivial⟩) Tryz.func282 λ a=>by kernel_rfl
def EK:=fe [(73,QG),(80,QH)] []
def vM:PF:=⟨[R Kd,R (.sl 5 .u8)],[Kd,.bool],.uniq,eH⟩
theorem Tr:Sd 281 vM:=sf (F:=EK) (ek ⟨ev,ew,trivial⟩) Tryz.func281 λ a=>by kernel_rfl
def pF:=fe [(25,mO),(282,vN),(281,vM),(77,LT),(71,QF)] []
def pf270:PF:=⟨[R (.pair .i64 .i64),(.own,q1),R q7],[q1,.bool],.own,Yi⟩
theorem Im (a:zW pf270.params):kx pF Tryz.f270 pf270.params pf270.rets pf270.rk a=pf270.fn a:=by kernel_rfl
theorem oo:Kz Tryz.prog GLB 270 pf270:=US (F:=pF) (ek ⟨xV,Ts,Tr,Ny,eu,trivial⟩) Tryz.func270 (by kernel_rfl) (by rfl) (λ a o h=>(Im a).trans h)
def DI:=fe [(141,Qv)] [(3,[.slot 5 (.sl 3 .i64) (.own true),.slot 6 .i64 (.imm false)]),(7,[.slot 5 (.sl 3 .i64) (.own true),.slot 7 .i64 (.imm false)])]
def u9:PF:=⟨[R (.sl 3 .i64),R (.sl 3 .i64)],[(.sl 3 .i64)],.uniq,fl⟩
theorem ST:Sd 205 u9:=sf (F:=DI) (ek ⟨ec,trivial⟩) Tryz.func205 λ a=>by kernel_rfl
def Dc:=fe [(205,u9)] []
def uL:PF:=⟨[R q4,R q4],[q4,.bool],.uniq,eZ⟩
theorem SA:Sd 171 uL:=sf (F:=Dc) (ek ⟨ST,trivial⟩) Tryz.func171 λ a=>by kernel_rfl
def Co:=fe [(128,Nh),(133,ml),(171,uL),(79,na),(132,Qt),(72,m7)] [(4,[.slot 8 (.sl 58 q4) (.own true),.slot 9 .bool (.imm false),.slot 10 .i64 (.imm false)])]
def Ng:PF:=⟨[R (.pair .i64 .i64),R (.sl 58 q4),R q4],[(.sl 58 q4),.bool],.uniq,Lg⟩
theorem QV:Sd 115 Ng:=sf (F:=Co) (ek ⟨QW,xw,SA,Al,d8,Ai,trivial⟩) Tryz.func115 λ a=>by kernel_rfl
def ES:=fe [(130,pf130)] []
def vS:PF:=⟨[R (.pair .i64 .i64),R q4],[q4,.bool],.uniq,e7⟩
theorem Tz:Sd 293 vS:=sf (F:=ES) (ek ⟨K4,trivial⟩) Tryz.func293 λ a=>by kernel_rfl
def Ew:=fe [(81,LU),(76,jD),(129,mj)] []
def QD:PF:=⟨[R (.pair .i64 .i64),(.own,q1),R .i64,R q2],[q1,.bool],.own,Ks⟩
theorem eq:Sd 259 QD:=sf (F:=Ew) (ek ⟨Nz,jI,xu,trivial⟩) Tryz.func259 λ a=>by kernel_rfl
def EM:y9:=⟨⟨TYS,[(293,vS),(149,Qw),(172,J8),(215,KX),(259,QD)],EQS,[],[],false,[(270,pf270)],[],[],false,[]⟩,[]⟩
def vO:PF:=⟨[R (.pair .i64 .i64),(.own,q1),R q4],[q1,.bool],.own,fR⟩
theorem Tu:Sd 283 vO:=sf (F:=EM) (MP ⟨Tz,ed,K5,L1,eq,trivial⟩ trivial trivial oo trivial trivial) Tryz.func283 λ a=>by kernel_rfl
def EU:=fe [(75,Z8),(76,jD)] []
def dH:PF:=⟨[R (.pair .i64 .i64),R .i64,R .i64],[.i64],.uniq,NW⟩
theorem ot:Sd 294 dH:=sf (F:=EU) (ek ⟨YF,jI,trivial⟩) Tryz.func294 λ a=>by kernel_rfl
def EX:=fe [(75,Z8),(76,jD)] []
def vW:PF:=⟨[R (.pair .i64 .i64),R .i64,R .i64],[.i64],.uniq,fw⟩
theorem TC:Sd 297 vW:=sf (F:=EX) (ek ⟨YF,jI,trivial⟩) Tryz.func297 λ a=>by kernel_rfl
def EP:=fe [(294,dH),(297,vW)] []
def mU:PF:=⟨[R (.pair .i64 .i64),R .i64,R .i64],[.i64],.uniq,N2⟩
theorem Ab:Sd 286 mU:=sf (F:=EP) (ek ⟨ot,TC,trivial⟩) Tryz.func286 λ a=>by kernel_rfl
def EV:=fe [(294,dH),(286,mU)] [(2,[.slot 2 .i64 (.imm false),.slot 7 (.sl 3 .i64) (.own true)])]
def vU:PF:=⟨[R (.pair .i64 .i64),R .i64,R .i64],[(.sl 3 .i64)],.uniq,fE⟩
theorem TA:Sd 295 vU:=sf (F:=EV) (ek ⟨ot,Ab,trivial⟩) Tryz.func295 λ a=>by kernel_rfl
def EN:=fe [(75,Z8),(294,dH),(295,vU),(184,ZQ)] [(5,[.slot 7 (.sl 3 .i64) (.own true),.slot 8 .i64 (.imm false)])]
def vP:PF:=⟨[R (.pair .i64 .i64),R .i64,R .i64],[(.sl 3 .i64)],.uniq,fD⟩
theorem Tv:Sd 284 vP:=sf (F:=EN) (ek ⟨YF,ot,TA,Yc,trivial⟩) Tryz.func284 λ a=>by kernel_rfl
def EW:=fe [] []
def vV:PF:=⟨[R .bool],[.i64],.uniq,oZ⟩
theorem TB:Sd 296 vV:=sf (F:=EW) (ek trivial) Tryz.func296 λ a=>by kernel_rfl
def EO:=fe [(184,ZQ),(296,vV)] [(3,[.slot 5 .i64 (.imm false),.slot 6 .i64 (.imm false)])]
def vQ:PF:=⟨[R (.sl 3 .i64),R (.sl 3 .i64)],[.i64],.uniq,eK⟩
theorem Tw:Sd 285 vQ:=sf (F:=EO) (ek ⟨Yc,TB,trivial⟩) Tryz.func285 λ a=>by kernel_rfl
def EH:=fe [(216,dB),(215,KX),(283,vO),(284,vP),(285,vQ),(286,mU),(259,QD)] []
def dG:PF:=⟨[R (.pair .i64 .i64),(.own,q1),R .i64,R .str,R .bool],[q1,.bool],.own,N9⟩
theorem oq:Sd 274 dG:=sf (F:=EH) (ek ⟨od,L1,Tu,Tv,Tw,Ab,eq,trivial⟩) Tryz.func274 λ a=>by kernel_rfl
def ED:=fe [(99,Z9),(115,Ng),(22,j0),(274,dG)] []
def vH:PF:=⟨[R (.pair .i64 .i64),R q1,R .str],[q1,.bool],.shared,Mj⟩
theorem Tm:Sd 271 vH:=sf (F:=ED) (ek ⟨YG,QV,Zj,oq,trivial⟩) Tryz.func271 λ a=>by kernel_rfl
def Ep:y9:=⟨⟨TYS,[(22,j0),(23,Zy),(135,Qu),(149,Qw),(99,Z9),(191,mA),(150,mt),(271,vH)],EQS,[],[],false,[(270,pf270)],[],[],false,[]⟩,[]⟩
def dF:PF:=⟨[R (.pair .i64 .i64),R q1,R (.pair .str q4)],[q1,.bool],.shared,NK⟩
theorem om:Sd 254 dF:=sf (F:=Ep) (MP ⟨Zj,ZW,d9,ed,YG,xH,xB,Tm,trivial⟩ trivial trivial oo trivial trivial) Tryz.func254 λ a=>by kernel_rfl
def Ez:=fe [(22,j0),(23,Zy),(132,Qt),(115,Ng),(274,dG)] []
def vE:PF:=⟨[R (.pair .i64 .i64),R q1,R q4],[q1,.bool],.own,eT⟩
theorem Tj:Sd 267 vE:=sf (F:=Ez) (ek ⟨Zj,ZW,d8,QV,oq,trivial⟩) Tryz.func267 λ a=>by kernel_rfl
def EA:y9:=⟨⟨TYS,[(22,j0),(23,Zy),(76,jD),(130,pf130),(149,Qw),(215,KX),(115,Ng),(216,dB),(179,du),(172,J8),(186,LR)],EQS,[],[],false,[(270,pf270)],[],[],false,[]⟩,[]⟩
def vF:PF:=⟨[R (.pair .i64 .i64),R q1,R .i64,R q4,R .i64],[q1,.bool],.own,eU⟩
theorem Tk:Sd 268 vF:=sf (F:=EA) (MP ⟨Zj,ZW,jI,K4,ed,L1,QV,od,n6,K5,Nw,trivial⟩ trivial trivial oo trivial trivial) Tryz.func268 λ a=>by kernel_rfl
def Eh:=fe [(82,ng),(78,m9)] [(2,[.slot 6 .i64 (.imm false)])]
def dE:PF:=⟨[R (.sl 39 q5),R q5],[(.sl 39 q5),.bool],.uniq,NR⟩
theorem oh:Sd 24 dE:=sf (F:=Eh) (ek ⟨Am,Ak,trivial⟩) Tryz.func24 λ a=>by kernel_rfl
def F8:=fe [(22,j0),(23,Zy),(24,dE)] []
def ne:PF:=⟨[R (.pair .i64 .i64),R q1,R q5],[q1,.bool],.uniq,am⟩
theorem s8:Sd 8 ne:=sf (F:=F8) (ek ⟨Zj,ZW,oh,trivial⟩) Tryz.func8 λ a=>by kernel_rfl
def Ei:=fe [(254,dF),(267,vE),(268,vF),(8,ne)] []
def vw:PF:=⟨[R (.pair .i64 .i64),R q1,R q2],[q1,.bool],.shared,fS⟩
theorem Tb:Sd 248 vw:=sf (F:=Ei) (ek ⟨om,Tj,Tk,s8,trivial⟩) Tryz.func248 λ a=>by kernel_rfl
def Ej:=fe [(128,Nh)] [(3,[.slot 5 (.sl 58 q4) (.own true),.slot 6 .i64 (.imm false)])]
def vx:PF:=⟨[R (.sl 58 q4),R .i64],[(.sl 58 q4)],.uniq,fA⟩
theorem Tc:Sd 249 vx:=sf (F:=Ej) (ek ⟨QW,trivial⟩) Tryz.func249 λ a=>by kernel_rfl
def Em:=fe [(23,Zy),(218,mH),(219,mI),(217,mG)] []
def vz:PF:=⟨[R (.pair .i64 .i64),R q1],[q9],.uniq,aG⟩
theorem Te:Sd 251 vz:=sf (F:=Em) (ek ⟨ZW,xO,xP,xN,trivial⟩) Tryz.func251 λ a=>by kernel_rfl
def El:=fe [(239,dD)] [(3,[.slot 5 (.sl 39 q5) (.own true),.slot 6 .i64 (.imm false)])]
def vy:PF:=⟨[R (.sl 39 q5),R q9],[(.sl 39 q5)],.uniq,ay⟩
theorem Td:Sd 250 vy:=sf (F:=El) (ek ⟨og,trivial⟩) Tryz.func250 λ a=>by kernel_rfl
def D7:=fe [(23,Zy),(81,LU),(22,j0),(248,vw),(249,vx),(251,vz),(250,vy)] []
def QC:PF:=⟨[R (.pair .i64 .i64),R q1,R q2],[q1,.bool],.shared,Kj⟩
theorem eo:Sd 230 QC:=sf (F:=D7) (ek ⟨ZW,Nz,Zj,Tb,Tc,Te,Td,trivial⟩) Tryz.func230 λ a=>by kernel_rfl
def DO:y9:=⟨⟨TYS,[(76,jD),(184,ZQ),(97,dK),(230,QC)],EQS,[],[],true,[],[],[],false,[]⟩,[]⟩
def vj:PF:=⟨[(.own,q3),R q8],[q3,.i64],.own,qb⟩
theorem SZ:Sd 211 vj:=sf (F:=DO) (ek ⟨jI,Yc,oy,eo,trivial⟩) Tryz.func211 λ a=>by kernel_rfl
def B7:=fe [(76,jD),(184,ZQ),(97,dK),(230,QC)] []
def ug:PF:=⟨[R q3,R q8],[q3,.i64],.shared,qc⟩
theorem R4:Sd 211 ug:=sf (F:=B7) (ek ⟨jI,Yc,oy,eo,trivial⟩) Tryz.func211 λ a=>by kernel_rfl
def EB:=fe [] [(2,[.slot 9 .i64 (.imm false)])]
def mT:PF:=⟨[R QM,R .i64,R .str,R .i64],[.bool],.uniq,aW⟩
theorem Aa:Sd 269 mT:=sf (F:=EB) (ek trivial) Tryz.func269 λ a=>by kernel_rfl
def En:=fe [(184,ZQ),(269,mT)] [(2,[.slot 11 .i64 (.imm false)])]
def vA:PF:=⟨[R (.sl 3 .i64),R QM,R .i64,R .str,R (.sl 3 .i64)],[.bool],.uniq,NY⟩
theorem Tf:Sd 252 vA:=sf (F:=En) (ek ⟨Yc,Aa,trivial⟩) Tryz.func252 λ a=>by kernel_rfl
def D8:=fe [(81,LU),(99,Z9),(215,KX),(184,ZQ),(252,vA)] []
def mK:PF:=⟨[R (.pair .i64 .i64),R (.sl 3 .i64),R QM,R q2],[.bool],.uniq,aq⟩
theorem xR:Sd 231 mK:=sf (F:=D8) (ek ⟨Nz,YG,L1,Yc,Tf,trivial⟩) Tryz.func231 λ a=>by kernel_rfl
def CP:=fe [(142,KW)] [(3,[.slot 3 (.sl 5 .u8) (.own true),.slot 4 .i64 (.imm false)])]
def uC:PF:=⟨[R (.sl 3 .i64)],[(.sl 5 .u8)],.uniq,N8⟩
theorem Sp:Sd 145 uC:=sf (F:=CP) (ek ⟨L0,trivial⟩) Tryz.func145 λ a=>by kernel_rfl
def FP:=fe [(81,LU),(142,KW),(143,dp),(144,mp),(145,uC)] []
def wB:PF:=⟨[R (.pair .i64 .i64),R q2],[(.sl 5 .u8)],.uniq,eX⟩
theorem T5:Sd 90 wB:=sf (F:=FP) (ek ⟨Nz,L0,nW,xy,Sp,trivial⟩) Tryz.func90 λ a=>by kernel_rfl
def E4:=fe [(90,wB),(76,jD)] [(2,[.slot 5 .i64 (.imm false),.box 5 q3 (.own false)])]
def QE:PF:=⟨[(.own,q3),R QL],[q3],.own,aX⟩
theorem er:Sd 36 QE:=sf (F:=E4) (ek ⟨T5,jI,trivial⟩) Tryz.func36 λ a=>by kernel_rfl
def DP:=fe [(76,jD),(231,mK),(36,QE)] []
def vk:PF:=⟨[(.own,q3),R q8],[q3,.i64],.own,f7⟩
theorem S0:Sd 212 vk:=sf (F:=DP) (ek ⟨jI,xR,er,trivial⟩) Tryz.func212 λ a=>by kernel_rfl
def B8:=fe [(76,jD),(231,mK),(36,QE)] []
def uh:PF:=⟨[R q3,R q8],[q3,.i64],.shared,f8⟩
theorem R5:Sd 212 uh:=sf (F:=B8) (ek ⟨jI,xR,er,trivial⟩) Tryz.func212 λ a=>by kernel_rfl
def DQ:=fe [(184,ZQ)] [(3,[.slot 3 (.sl 3 .i64) (.own true),.slot 4 .i64 (.imm false)])]
def dA:PF:=⟨[R q3],[(.sl 3 .i64)],.uniq,NL⟩
theorem oc:Sd 213 dA:=sf (F:=DQ) (ek ⟨Yc,trivial⟩) Tryz.func213 λ a=>by kernel_rfl
def Eo:=fe [(22,j0),(23,Zy),(259,QD)] [(5,[.slot 9 .i64 (.imm false),.box 11 q1 (.own true),.box 17 q1 (.own false)])]
def mP:PF:=⟨[R (.pair .i64 .i64),R q1,R q2],[q1,.bool],.own,aJ⟩
theorem xW:Sd 253 mP:=sf (F:=Eo) (ek ⟨Zj,ZW,eq,trivial⟩) Tryz.func253 λ a=>by kernel_rfl
def D9:=fe [(183,dx),(22,j0),(253,mP),(254,dF)] []
def vt:PF:=⟨[(.own,q3),R .i64],[q3,.i64],.own,fX⟩
theorem S8:Sd 232 vt:=sf (F:=D9) (ek ⟨n8,Zj,xW,om,trivial⟩) Tryz.func232 λ a=>by kernel_rfl
def Ca:=fe [(183,dx),(22,j0),(253,mP),(254,dF)] []
def uj:PF:=⟨[R q3,R .i64],[q3,.i64],.shared,fY⟩
theorem R7:Sd 232 uj:=sf (F:=Ca) (ek ⟨n8,Zj,xW,om,trivial⟩) Tryz.func232 λ a=>by kernel_rfl
def EF:=fe [(73,QG),(80,QH)] []
def vI:PF:=⟨[R Kd],[Kd],.uniq,fz⟩
theorem Tn:Sd 272 vI:=sf (F:=EF) (ek ⟨ev,ew,trivial⟩) Tryz.func272 λ a=>by kernel_rfl
def Er:=fe [(22,j0),(23,Zy),(272,vI),(74,m8)] []
def mQ:PF:=⟨[R (.pair .i64 .i64),R q1],[q1,QL],.uniq,aH⟩
theorem xX:Sd 255 mQ:=sf (F:=Er) (ek ⟨Zj,ZW,Tn,Aj,trivial⟩) Tryz.func255 λ a=>by kernel_rfl
def EZ:=fe [(22,j0)] [(3,[.slot 4 .i64 (.imm false),.box 10 q3 (.own true)]),(7,[.slot 5 .i64 (.imm false),.box 10 q3 (.own true)])]
def vX:PF:=⟨[R q3],[q3],.uniq,fT⟩
theorem TE:Sd 34 vX:=sf (F:=EZ) (ek ⟨Zj,trivial⟩) Tryz.func34 λ a=>by kernel_rfl
def EG:=fe [(184,ZQ)] []
def vJ:PF:=⟨[R .i64,R q2],[QM],.uniq,fj⟩
theorem To:Sd 273 vJ:=sf (F:=EG) (ek ⟨Yc,trivial⟩) Tryz.func273 λ a=>by kernel_rfl
def Es:=fe [(34,vX),(213,dA),(184,ZQ),(273,vJ),(269,mT)] [(5,[.slot 8 .i64 (.imm false),.box 11 q3 (.own true)]),(9,[.slot 10 .i64 (.imm false),.box 11 q3 (.own true)])]
def mR:PF:=⟨[R q3,R .i64,R QL],[q3],.uniq,eW⟩
theorem xY:Sd 256 mR:=sf (F:=Es) (ek ⟨TE,oc,Yc,To,Aa,trivial⟩) Tryz.func256 λ a=>by kernel_rfl
def Ea:=fe [(255,mQ),(256,mR),(36,QE)] []
def vu:PF:=⟨[(.own,q3),R .i64],[q3,.i64],.own,gh⟩
theorem S9:Sd 233 vu:=sf (F:=Ea) (ek ⟨xX,xY,er,trivial⟩) Tryz.func233 λ a=>by kernel_rfl
def Cb:=fe [(255,mQ),(256,mR),(36,QE)] []
def uk:PF:=⟨[R q3,R .i64],[q3,.i64],.shared,gi⟩
theorem R8:Sd 233 uk:=sf (F:=Cb) (ek ⟨xX,xY,er,trivial⟩) Tryz.func233 λ a=>by kernel_rfl
def Et:=fe [(23,Zy),(22,j0),(274,dG)] []
def mS:PF:=⟨[R (.pair .i64 .i64),R q1,R .i64,R .str,R .bool],[q1,.bool],.own,aj⟩
theorem xZ:Sd 257 mS:=sf (F:=Et) (ek ⟨ZW,Zj,oq,trivial⟩) Tryz.func257 λ a=>by kernel_rfl
def Eb:=fe [(257,mS)] [(3,[.slot 7 .i64 (.imm false),.box 4 q3 (.own false),.box 5 q3 (.own true)])]
def vv:PF:=⟨[(.own,q3),R .i64],[q3,.i64],.own,ge⟩
theorem Ta:Sd 234 vv:=sf (F:=Eb) (ek ⟨xZ,trivial⟩) Tryz.func234 λ a=>by kernel_rfl
def Cc:=fe [(257,mS)] [(3,[.slot 7 .i64 (.imm false),.box 4 q3 (.imm false),.box 5 q3 (.own true)])]
def ul:PF:=⟨[R q3,R .i64],[q3,.i64],.shared,gg⟩
theorem R9:Sd 234 ul:=sf (F:=Cc) (ek ⟨xZ,trivial⟩) Tryz.func234 λ a=>by kernel_rfl
def Ec:=fe [(73,QG),(80,QH),(186,LR),(172,J8)] []
def mL:PF:=⟨[R Kd,R .i64],[Kd],.uniq,ak⟩
theorem xS:Sd 235 mL:=sf (F:=Ec) (ek ⟨ev,ew,Nw,K5,trivial⟩) Tryz.func235 λ a=>by kernel_rfl
def CR:=fe [] []
def mq:PF:=⟨[],[q7],.uniq,aB⟩
theorem xz:Sd 147 mq:=sf (F:=CR) (ek trivial) Tryz.func147 λ a=>by kernel_rfl
def EI:=fe [(151,Qx),(153,mu),(152,dq),(77,LT)] []
def vK:PF:=⟨[R (.pair .i64 .i64),R (.sl 5 .u8)],[q7,.bool],.uniq,fi⟩
theorem Tp:Sd 275 vK:=sf (F:=EI) (ek ⟨eg,xC,nX,Ny,trivial⟩) Tryz.func275 λ a=>by kernel_rfl
def Eu:=fe [(147,mq),(192,dz),(275,vK)] [(3,[.slot 7 .i64 (.imm false),.box 2 q7 (.own true),.box 4 q7 (.own true)])]
def vB:PF:=⟨[R (.pair .i64 .i64),R (.sl 5 .u8)],[q7,.i64],.uniq,eV⟩
theorem Tg:Sd 258 vB:=sf (F:=Eu) (ek ⟨xz,oa,Tp,trivial⟩) Tryz.func258 λ a=>by kernel_rfl
def Ed:=fe [(23,Zy),(22,j0),(258,vB),(172,J8),(186,LR)] []
def mM:PF:=⟨[R (.pair .i64 .i64),R q1],[q1],.uniq,aA⟩
theorem xT:Sd 236 mM:=sf (F:=Ed) (ek ⟨ZW,Zj,Tg,K5,Nw,trivial⟩) Tryz.func236 λ a=>by kernel_rfl
def Ee:=fe [(22,j0),(23,Zy),(215,KX),(115,Ng),(259,QD)] []
def mN:PF:=⟨[R (.pair .i64 .i64),R q1],[q1,.bool],.own,L7⟩
theorem xU:Sd 237 mN:=sf (F:=Ee) (ek ⟨Zj,ZW,L1,QV,eq,trivial⟩) Tryz.func237 λ a=>by kernel_rfl
def DR:=fe [(232,vt),(233,vu),(234,vv),(22,j0),(235,mL),(236,mM),(237,mN),(230,QC)] []
def vm:PF:=⟨[(.own,q3),R q8],[q3,.i64],.own,ga⟩
theorem S1:Sd 214 vm:=sf (F:=DR) (ek ⟨S8,S9,Ta,Zj,xS,xT,xU,eo,trivial⟩) Tryz.func214 λ a=>by kernel_rfl
def B9:=fe [(232,uj),(233,uk),(234,ul),(22,j0),(235,mL),(236,mM),(237,mN),(230,QC)] []
def ui:PF:=⟨[R q3,R q8],[q3,.i64],.shared,gc⟩
theorem R6:Sd 214 ui:=sf (F:=B9) (ek ⟨R7,R8,R9,Zj,xS,xT,xU,eo,trivial⟩) Tryz.func214 λ a=>by kernel_rfl
def Dn:=fe [(211,vj),(212,vk),(213,dA),(184,ZQ),(214,vm)] []
def uR:PF:=⟨[(.own,q3),R q8],[q3,.i64],.own,f9⟩
theorem SG:Sd 182 uR:=sf (F:=Dn) (ek ⟨SZ,S0,oc,Yc,S1,trivial⟩) Tryz.func182 λ a=>by kernel_rfl
def B6:=fe [(211,ug),(212,uh),(213,dA),(184,ZQ),(214,ui)] []
def uf:PF:=⟨[R q3,R q8],[q3,.i64],.shared,ba⟩
theorem R3:Sd 182 uf:=sf (F:=B6) (ek ⟨R4,R5,oc,Yc,R6,trivial⟩) Tryz.func182 λ a=>by kernel_rfl
def CJ:y9:=⟨⟨TYS,[(182,uR)],EQS,[],[],false,[],[],[(182,uf)],false,[]⟩,[]⟩
def uA:PF:=⟨[(.own,q3),R q8],[q3],.own,gd⟩
theorem Sn:Sd 138 uA:=sf (F:=CJ) (MP ⟨SG,trivial⟩ trivial trivial trivial trivial ⟨R3,trivial⟩) Tryz.func138 λ a=>by kernel_rfl
def FN:=fe [(137,uz),(50,yy),(139,uB),(138,uA)] [(4,[.slot 5 .i64 (.imm false),.keep 0 q6 [2,0,0],.box 7 q3 (.own false)])]
def wz:PF:=⟨[(.ptr,q6)],[q3],.own,f0⟩
theorem T4:Sd 87 wz:=sf (F:=FN) (ek ⟨Sm,yA,So,Sn,trivial⟩) Tryz.func87 λ a=>by kernel_rfl
def Fc:=fe [(87,wz),(50,yy)] []
def v8:PF:=⟨[(.ptr,q6)],[(.pair .i64 .i64),q1],.shared,fP⟩
theorem TJ:Sd 49 v8:=sf (F:=Fc) (ek ⟨T4,yA,trivial⟩) Tryz.func49 λ a=>by kernel_rfl
def CQ:=fe [(50,yy),(57,KY),(173,QA)] [(4,[.slot 3 .str (.imm false),.slot 4 .i64 (.imm false),.slot 5 .i64 (.imm false),.keep 0 q6 [2,0,0]]),(9,[.slot 6 (.sl 39 q5) (.own true),.slot 7 .i64 (.imm false),.keep 0 q6 [2,0,0]])]
def Ni:PF:=⟨[(.ptr,q6)],[.str],.uniq,Lk⟩
theorem QX:Sd 146 Ni:=sf (F:=CQ) (ek ⟨yA,L2,ej,trivial⟩) Tryz.func146 λ a=>by kernel_rfl
def Db:y9:=⟨⟨TYS,[(99,Z9),(117,pf117),(50,yy)],EQS,[],[],true,[],[],[],false,[]⟩,[(5,[.slot 8 .i64 (.imm false),.box 4 q4 (.own true)])]⟩
def dt:PF:=⟨[(.ptr,q6),R (.pair .i64 .i64),R .str],[q4],.uniq,qg⟩
theorem nZ:Sd 170 dt:=sf (F:=Db) (ek ⟨YG,Y9,yA,trivial⟩) Tryz.func170 λ a=>by kernel_rfl
def CS:=fe [(146,Ni),(170,dt),(50,yy),(57,KY),(187,dy)] [(4,[.slot 6 (.sl 39 q5) (.own true),.slot 7 .i64 (.imm false),.keep 0 q6 [2,0,0]])]
def mr:PF:=⟨[(.ptr,q6),R (.pair .i64 .i64)],[(.pair .str q4)],.uniq,bg⟩
theorem xA:Sd 148 mr:=sf (F:=CS) (ek ⟨QX,nZ,yA,L2,n9,trivial⟩) Tryz.func148 λ a=>by kernel_rfl
def FQ:=fe [(147,mq),(50,yy),(148,mr),(149,Qw),(117,pf117),(150,mt)] [(3,[.slot 6 .i64 (.imm false),.keep 0 q6 [2,0,0],.box 5 q7 (.own true)])]
def wC:PF:=⟨[(.ptr,q6),R (.pair .i64 .i64)],[q7],.uniq,fI⟩
theorem T6:Sd 92 wC:=sf (F:=FQ) (ek ⟨xz,yA,xA,ed,Y9,xB,trivial⟩) Tryz.func92 λ a=>by kernel_rfl
def DH:=fe [(50,yy)] []
def u7:PF:=⟨[(.ptr,q6),R (.sl 9 .str)],[.str],.uniq,fW⟩
theorem SS:Sd 204 u7:=sf (F:=DH) (ek ⟨yA,trivial⟩) Tryz.func204 λ a=>by kernel_rfl
def Da:=fe [(50,yy),(204,u7)] []
def uK:PF:=⟨[(.ptr,q6),R .str],[.str],.uniq,gj⟩
theorem Sy:Sd 169 uK:=sf (F:=Da) (ek ⟨yA,SS,trivial⟩) Tryz.func169 λ a=>by kernel_rfl
def Cl:=fe [(117,pf117),(50,yy),(168,Qz),(146,Ni),(169,uK)] [(4,[.slot 3 .str (.imm false),.slot 4 .i64 (.imm false),.keep 0 q6 [2,0,0]])]
def dj:PF:=⟨[(.ptr,q6)],[.str],.uniq,qe⟩
theorem nT:Sd 112 dj:=sf (F:=Cl) (ek ⟨Y9,yA,ei,QX,Sy,trivial⟩) Tryz.func112 λ a=>by kernel_rfl
def FO:=fe [(50,yy),(141,Qv),(117,pf117),(51,YB)] [(3,[.slot 5 (.sl 3 .i64) (.own true),.slot 6 .i64 (.imm false),.keep 0 q6 [2,0,0]])]
def nh:PF:=⟨[(.ptr,q6),R .i64],[(.sl 3 .i64)],.uniq,be⟩
theorem An:Sd 89 nh:=sf (F:=FO) (ek ⟨yA,ec,Y9,Ja,trivial⟩) Tryz.func89 λ a=>by kernel_rfl
def Cm:=fe [(146,Ni),(170,dt),(50,yy),(89,nh),(112,dj)] []
def ur:PF:=⟨[(.ptr,q6),R (.pair .i64 .i64)],[q4],.uniq,go⟩
theorem Sf:Sd 113 ur:=sf (F:=Cm) (ek ⟨QX,nZ,yA,An,nT,trivial⟩) Tryz.func113 λ a=>by kernel_rfl
def Ff:=fe [(92,wC),(50,yy),(51,YB),(112,dj),(113,ur)] []
def wb:PF:=⟨[(.ptr,q6),R (.pair .i64 .i64)],[q7],.uniq,fH⟩
theorem TK:Sd 52 wb:=sf (F:=Ff) (ek ⟨T6,yA,Ja,nT,Sf,trivial⟩) Tryz.func52 λ a=>by kernel_rfl
def Cn:=fe [(50,yy),(57,KY),(24,dE)] [(3,[.slot 3 (.sl 39 q5) (.own true),.slot 4 .i64 (.imm false),.keep 0 q6 [2,0,0]])]
def ut:PF:=⟨[(.ptr,q6)],[(.sl 39 q5)],.uniq,gn⟩
theorem Sg:Sd 114 ut:=sf (F:=Cn) (ek ⟨yA,L2,oh,trivial⟩) Tryz.func114 λ a=>by kernel_rfl
def Dk:=fe [(57,KY),(50,yy),(51,YB)] []
def dw:PF:=⟨[(.ptr,q6)],[q5],.uniq,qd⟩
theorem n7:Sd 18 dw:=sf (F:=Dk) (ek ⟨L2,yA,Ja,trivial⟩) Tryz.func18 λ a=>by kernel_rfl
def Fg:=fe [(114,ut),(50,yy),(18,dw),(24,dE)] [(7,[.slot 3 (.sl 39 q5) (.own true),.slot 4 .i64 (.imm false)]),(10,[.slot 3 (.sl 39 q5) (.own true),.slot 5 .i64 (.imm false)])]
def wc:PF:=⟨[(.ptr,q6)],[(.sl 39 q5)],.uniq,gk⟩
theorem TL:Sd 53 wc:=sf (F:=Fg) (ek ⟨Sg,yA,n7,oh,trivial⟩) Tryz.func53 λ a=>by kernel_rfl
def Cp:=fe [(146,Ni),(99,Z9),(117,pf117),(50,yy),(172,J8),(141,Qv)] [(6,[.slot 7 .i64 (.imm false),.keep 0 q6 [2,0,0],.box 4 q4 (.own true)])]
def dm:PF:=⟨[(.ptr,q6),R (.pair .i64 .i64)],[q4],.uniq,N5⟩
theorem nU:Sd 116 dm:=sf (F:=Cp) (ek ⟨QX,YG,Y9,yA,K5,ec,trivial⟩) Tryz.func116 λ a=>by kernel_rfl
def Cr:=fe [(116,dm),(50,yy),(51,YB),(89,nh),(112,dj)] []
def mh:PF:=⟨[(.ptr,q6),R (.pair .i64 .i64)],[q4],.uniq,aP⟩
theorem xr:Sd 118 mh:=sf (F:=Cr) (ek ⟨nU,yA,Ja,An,nT,trivial⟩) Tryz.func118 λ a=>by kernel_rfl
def Fh:=fe [(50,yy),(116,dm),(115,Ng),(117,pf117),(118,mh)] [(3,[.slot 5 (.sl 58 q4) (.own true),.slot 6 .i64 (.imm false),.keep 0 q6 [2,0,0]])]
def wd:PF:=⟨[(.ptr,q6),R (.pair .i64 .i64)],[(.sl 58 q4)],.uniq,fF⟩
theorem TM:Sd 54 wd:=sf (F:=Fh) (ek ⟨yA,nU,QV,Y9,xr,trivial⟩) Tryz.func54 λ a=>by kernel_rfl
def Cs:=fe [(50,yy),(51,YB),(142,KW),(117,pf117)] [(3,[.slot 3 (.sl 5 .u8) (.own true),.slot 4 .i64 (.imm false),.keep 0 q6 [2,0,0]])]
def uu:PF:=⟨[(.ptr,q6)],[(.sl 5 .u8)],.uniq,fU⟩
theorem Sh:Sd 119 uu:=sf (F:=Cs) (ek ⟨yA,Ja,L0,Y9,trivial⟩) Tryz.func119 λ a=>by kernel_rfl
def Fi:=fe [(119,uu),(50,yy),(51,YB)] []
def we:PF:=⟨[(.ptr,q6)],[Kd],.uniq,fK⟩
theorem TN:Sd 55 we:=sf (F:=Fi) (ek ⟨Sh,yA,Ja,trivial⟩) Tryz.func55 λ a=>by kernel_rfl
def Ct:=fe [(50,yy),(148,mr),(116,dm),(173,QA),(146,Ni),(170,dt),(57,KY)] []
def uv:PF:=⟨[(.ptr,q6),R (.pair .i64 .i64)],[q2],.uniq,fM⟩
theorem Si:Sd 120 uv:=sf (F:=Ct) (ek ⟨yA,xA,nU,ej,QX,nZ,L2,trivial⟩) Tryz.func120 λ a=>by kernel_rfl
def Fj:=fe [(120,uv),(50,yy),(51,YB),(118,mh),(18,dw)] []
def wg:PF:=⟨[(.ptr,q6),R (.pair .i64 .i64)],[q2],.uniq,fL⟩
theorem TO:Sd 56 wg:=sf (F:=Fj) (ek ⟨Si,yA,Ja,xr,n7,trivial⟩) Tryz.func56 λ a=>by kernel_rfl
def gL:y9:=⟨⟨TYS,[(49,v8),(50,yy),(51,YB),(52,wb),(53,wc),(54,wd),(55,we),(56,wg)],EQS,[],[],false,[],[],[],false,[(49,62)]⟩,[]⟩
def pf17:PF:=⟨[(.ptr,q6)],[(.pair .i64 .i64),q1],.shared,aS⟩
theorem Sz:Sd 17 pf17:=AS (F:=gL) (ek ⟨TJ,yA,Ja,TK,TL,TM,TN,TO,trivial⟩) Tryz.func17 (by kernel_rfl) (λ a o h=>(show qD gL Tryz.f17 pf17.params pf17.rets pf17.rk a=pf17.fn a by kernel_rfl).trans h) (.inr ⟨by kernel_rfl,λ x hx=>by simp only[gL,aiE] at hx; rw[hx]; rfl⟩)
def FR:=fe [] []
def ni:PF:=⟨[R (.sl 3 .i64)],[(.sl 3 .i64)],.uniq,qZ⟩
theorem Ao:Sd 93 ni:=sf (F:=FR) (ek trivial) Tryz.func93 λ a=>by kernel_rfl
def Cu:=fe [(93,ni)] []
def dn:PF:=⟨[R q4],[q4],.uniq,M7⟩
theorem nV:Sd 121 dn:=sf (F:=Cu) (ek ⟨Ao,trivial⟩) Tryz.func121 λ a=>by kernel_rfl
def Fl:=fe [(121,dn)] []
def wh:PF:=⟨[R q7],[q7],.uniq,cv⟩
theorem TP:Sd 58 wh:=sf (F:=Fl) (ek ⟨nV,trivial⟩) Tryz.func58 λ a=>by kernel_rfl
def Fm:=fe [] []
def mY:PF:=⟨[R (.sl 39 q5)],[(.sl 39 q5)],.uniq,Jx⟩
theorem Af:Sd 59 mY:=sf (F:=Fm) (ek trivial) Tryz.func59 λ a=>by kernel_rfl
def Cv:=fe [(93,ni)] []
def mi:PF:=⟨[R q4],[q4],.uniq,Qa⟩
theorem xt:Sd 122 mi:=sf (F:=Cv) (ek ⟨Ao,trivial⟩) Tryz.func122 λ a=>by kernel_rfl
def Fn:=fe [(122,mi)] [(3,[.slot 3 (.sl 58 q4) (.own true),.slot 8 .i64 (.imm false)])]
def wj:PF:=⟨[R (.sl 58 q4)],[(.sl 58 q4)],.uniq,cw⟩
theorem TQ:Sd 60 wj:=sf (F:=Fn) (ek ⟨xt,trivial⟩) Tryz.func60 λ a=>by kernel_rfl
def Fo:=fe [] []
def wk:PF:=⟨[R Kd],[Kd],.uniq,cq⟩
theorem TR:Sd 61 wk:=sf (F:=Fo) (ek trivial) Tryz.func61 λ a=>by kernel_rfl
def Df:=fe [(121,dn)] []
def uM:PF:=⟨[R (.pair .str q4)],[(.pair .str q4)],.uniq,cp⟩
theorem SB:Sd 174 uM:=sf (F:=Df) (ek ⟨nV,trivial⟩) Tryz.func174 λ a=>by kernel_rfl
def Cw:=fe [(174,uM),(122,mi),(121,dn)] []
def uw:PF:=⟨[R q2],[q2],.uniq,cr⟩
theorem Sj:Sd 123 uw:=sf (F:=Cw) (ek ⟨SB,xt,nV,trivial⟩) Tryz.func123 λ a=>by kernel_rfl
def Fp:=fe [(123,uw)] [(3,[.slot 3 QL (.own true),.slot 8 .i64 (.imm false)])]
def wl:PF:=⟨[R QL],[QL],.uniq,ct⟩
theorem TS:Sd 62 wl:=sf (F:=Fp) (ek ⟨Sj,trivial⟩) Tryz.func62 λ a=>by kernel_rfl
def Du:=fe [(58,wh),(59,mY),(60,wj),(61,wk),(62,wl)] []
def uU:PF:=⟨[R q1],[q1],.uniq,cu⟩
theorem SK:Sd 19 uU:=sf (F:=Du) (ek ⟨TP,Af,TQ,TR,TS,trivial⟩) Tryz.func19 λ a=>by kernel_rfl
def EY:=fe [] []
def J9:PF:=⟨[R .i64,R .i64,R .i64],[.bool],.uniq,jv⟩
theorem K6:Sd 33 J9:=sf (F:=EY) (ek trivial) Tryz.func33 λ a=>by kernel_rfl
def E6:=fe [(33,J9)] []
def LS:PF:=⟨[R (.pair .i64 .i64)],[.bool],.uniq,JW⟩
theorem Nx:Sd 38 LS:=sf (F:=E6) (ek ⟨K6,trivial⟩) Tryz.func38 λ a=>by kernel_rfl
def C7:=fe [] []
def uI:PF:=⟨[],[q4],.uniq,kQ⟩
theorem Sw:Sd 166 uI:=sf (F:=C7) (ek trivial) Tryz.func166 λ a=>by kernel_rfl
def DG:=fe [] [(4,[.slot 13 .i64 (.imm false)])]
def mF:PF:=⟨[R (.sl 3 .i64),R (.sl 3 .i64)],[.bool],.uniq,ah⟩
theorem xM:Sd 202 mF:=sf (F:=DG) (ek trivial) Tryz.func202 λ a=>by kernel_rfl
def C5:=fe [(202,mF)] []
def dr:PF:=⟨[R q4,R q4],[.bool],.uniq,M5⟩
theorem nY:Sd 164 dr:=sf (F:=C5) (ek ⟨xM,trivial⟩) Tryz.func164 λ a=>by kernel_rfl
def C0:=fe [(198,uY)] []
def mw:PF:=⟨[R .str,R .u8],[(.sl 9 .str)],.uniq,qS⟩
theorem xE:Sd 158 mw:=sf (F:=C0) (ek ⟨SO,trivial⟩) Tryz.func158 λ a=>by kernel_rfl
def DE:=fe [(226,vp)] []
def mE:PF:=⟨[R .i64],[.str],.uniq,JX⟩
theorem xL:Sd 200 mE:=sf (F:=DE) (ek ⟨S6,trivial⟩) Tryz.func200 λ a=>by kernel_rfl
def C1:=fe [(200,mE)] [(5,[.slot 4 .i64 (.imm false),.slot 5 .i64 (.imm false)])]
def mz:PF:=⟨[R .str],[.i64,.bool],.uniq,qQ⟩
theorem xG:Sd 160 mz:=sf (F:=C1) (ek ⟨xL,trivial⟩) Tryz.func160 λ a=>by kernel_rfl
def Cj:=fe [(33,J9)] []
def Qs:PF:=⟨[R q5],[.bool],.uniq,KS⟩
theorem d7:Sd 110 Qs:=sf (F:=Cj) (ek ⟨K6,trivial⟩) Tryz.func110 λ a=>by kernel_rfl
def D4:=fe [(110,Qs),(200,mE)] []
def vq:PF:=⟨[R q5],[.str],.uniq,qW⟩
theorem S7:Sd 227 vq:=sf (F:=D4) (ek ⟨d7,xL,trivial⟩) Tryz.func227 λ a=>by kernel_rfl
def DF:=fe [(159,my),(160,mz),(110,Qs),(227,vq)] [(6,[.slot 40 .i64 (.imm false),.row 1 3 .i64 (.own true)])]
def u5:PF:=⟨[R .str],[q5,.bool],.uniq,qU⟩
theorem SQ:Sd 201 u5:=sf (F:=DF) (ek ⟨xF,xG,d7,S7,trivial⟩) Tryz.func201 λ a=>by kernel_rfl
def C2:=fe [(158,mw),(201,u5)] [(5,[.slot 4 (.sl 39 q5) (.own true),.slot 14 .i64 (.imm false)])]
def uE:PF:=⟨[R .str],[(.sl 39 q5),.bool],.uniq,cm⟩
theorem Sr:Sd 161 uE:=sf (F:=C2) (ek ⟨xE,SQ,trivial⟩) Tryz.func161 λ a=>by kernel_rfl
def Cd:=fe [(158,mw),(159,my),(160,mz),(161,uE),(33,J9)] [(9,[.slot 5 dO (.own true),.slot 6 .i64 (.imm false),.slot 33 .i64 (.imm false)])]
def md:PF:=⟨[R .str],[dO,.bool],.uniq,qT⟩
theorem xm:Sd 104 md:=sf (F:=Cd) (ek ⟨xE,xF,xG,Sr,K6,trivial⟩) Tryz.func104 λ a=>by kernel_rfl
def E9:=fe [(104,md)] []
def Nj:PF:=⟨[R .str],[.bool],.uniq,KR⟩
theorem QY:Sd 42 Nj:=sf (F:=E9) (ek ⟨xm,trivial⟩) Tryz.func42 λ a=>by kernel_rfl
def Fa:=fe [(104,md)] []
def mX:PF:=⟨[R .str],[.i64],.uniq,qX⟩
theorem Ae:Sd 43 mX:=sf (F:=Fa) (ek ⟨xm,trivial⟩) Tryz.func43 λ a=>by kernel_rfl
def E7:=fe [] [(2,[.slot 9 .i64 (.imm false)])]
def mW:PF:=⟨[R .i64,R (.sl 3 .i64)],[.bool],.uniq,M6⟩
theorem Ad:Sd 39 mW:=sf (F:=E7) (ek trivial) Tryz.func39 λ a=>by kernel_rfl
def E8:=fe [(38,LS)] []
def v6:PF:=⟨[R (.pair .i64 .i64)],[.i64],.uniq,kN⟩
theorem TH:Sd 40 v6:=sf (F:=E8) (ek ⟨Nx,trivial⟩) Tryz.func40 λ a=>by kernel_rfl
def C8:=fe [(38,LS),(40,v6)] []
def uJ:PF:=⟨[R (.pair .i64 .i64)],[.i64],.uniq,ci⟩
theorem Sx:Sd 167 uJ:=sf (F:=C8) (ek ⟨Nx,TH,trivial⟩) Tryz.func167 λ a=>by kernel_rfl
def Ci:=fe [(38,LS),(166,uI),(164,dr),(42,Nj),(43,mX),(39,mW),(167,uJ)] []
def di:PF:=⟨[R (.pair .i64 .i64),R q4],[.bool],.uniq,M4⟩
theorem nS:Sd 109 di:=sf (F:=Ci) (ek ⟨Nx,Sw,nY,QY,Ae,Ad,Sx,trivial⟩) Tryz.func109 λ a=>by kernel_rfl
def Fq:=fe [(33,J9),(109,di),(42,Nj)] []
def wm:PF:=⟨[R (.pair .i64 .i64),R q7],[.bool],.uniq,ck⟩
theorem TT:Sd 63 wm:=sf (F:=Fq) (ek ⟨K6,nS,QY,trivial⟩) Tryz.func63 λ a=>by kernel_rfl
def Fw:=fe [] []
def m0:PF:=⟨[R q5,R q5],[.bool],.uniq,qY⟩
theorem Ah:Sd 69 m0:=sf (F:=Fw) (ek trivial) Tryz.func69 λ a=>by kernel_rfl
def Fr:=fe [(110,Qs),(69,m0)] [(2,[.slot 7 .i64 (.imm false)])]
def mZ:PF:=⟨[R (.sl 39 q5)],[.bool],.uniq,LJ⟩
theorem Ag:Sd 64 mZ:=sf (F:=Fr) (ek ⟨d7,Ah,trivial⟩) Tryz.func64 λ a=>by kernel_rfl
def Ch:=fe [(38,LS),(33,J9),(42,Nj),(43,mX),(39,mW)] []
def mg:PF:=⟨[R (.pair .i64 .i64),R q4],[.bool],.uniq,qR⟩
theorem xn:Sd 108 mg:=sf (F:=Ch) (ek ⟨Nx,K6,QY,Ae,Ad,trivial⟩) Tryz.func108 λ a=>by kernel_rfl
def DK:=fe [] []
def vd:PF:=⟨[R .i64],[.bool],.uniq,bI⟩
theorem SV:Sd 207 vd:=sf (F:=DK) (ek trivial) Tryz.func207 λ a=>by kernel_rfl
def Dg:=fe [(207,vd)] []
def uN:PF:=⟨[R .i64,R .i64],[.i64],.uniq,kj⟩
theorem SC:Sd 175 uN:=sf (F:=Dg) (ek ⟨SV,trivial⟩) Tryz.func175 λ a=>by kernel_rfl
def DL:=fe [] []
def ve:PF:=⟨[R .str],[.bool],.uniq,bJ⟩
theorem SW:Sd 208 ve:=sf (F:=DL) (ek trivial) Tryz.func208 λ a=>by kernel_rfl
def Dh:=fe [(208,ve)] []
def uO:PF:=⟨[R .str,R .str],[.i64],.uniq,kl⟩
theorem SD:Sd 176 uO:=sf (F:=Dh) (ek ⟨SW,trivial⟩) Tryz.func176 λ a=>by kernel_rfl
def Cx:=fe [(175,uN),(176,uO)] []
def ux:PF:=⟨[R q4,R q4],[.i64],.uniq,co⟩
theorem Sk:Sd 124 ux:=sf (F:=Cx) (ek ⟨SC,SD,trivial⟩) Tryz.func124 λ a=>by kernel_rfl
def Fs:=fe [(108,mg),(124,ux)] [(2,[.slot 9 .i64 (.imm false)])]
def wn:PF:=⟨[R (.pair .i64 .i64),R (.sl 58 q4)],[.bool],.uniq,cl⟩
theorem TU:Sd 65 wn:=sf (F:=Fs) (ek ⟨xn,Sk,trivial⟩) Tryz.func65 λ a=>by kernel_rfl
def Ft:=fe [(33,J9)] []
def wo:PF:=⟨[R Kd],[.bool],.uniq,ca⟩
theorem TV:Sd 66 wo:=sf (F:=Ft) (ek ⟨K6,trivial⟩) Tryz.func66 λ a=>by kernel_rfl
def Cf:=fe [] []
def un:PF:=⟨[R q2],[q2],.shared,cx⟩
theorem Sb:Sd 106 un:=sf (F:=Cf) (ek trivial) Tryz.func106 λ a=>by kernel_rfl
def C3:=fe [(164,dr)] []
def uF:PF:=⟨[R (.pair .str q4),R (.pair .str q4)],[.bool],.uniq,b9⟩
theorem Ss:Sd 162 uF:=sf (F:=C3) (ek ⟨nY,trivial⟩) Tryz.func162 λ a=>by kernel_rfl
def C4:=fe [(202,mF)] []
def uG:PF:=⟨[R q4,R q4],[.bool],.uniq,cy⟩
theorem Su:Sd 163 uG:=sf (F:=C4) (ek ⟨xM,trivial⟩) Tryz.func163 λ a=>by kernel_rfl
def Ce:=fe [(162,uF),(163,uG),(164,dr)] []
def um:PF:=⟨[R q2,R q2],[.bool],.uniq,ce⟩
theorem Sa:Sd 105 um:=sf (F:=Ce) (ek ⟨Ss,Su,nY,trivial⟩) Tryz.func105 λ a=>by kernel_rfl
def C6:=fe [(42,Nj),(203,u6)] []
def uH:PF:=⟨[R .str],[.str],.uniq,cn⟩
theorem Sv:Sd 165 uH:=sf (F:=C6) (ek ⟨QY,SR,trivial⟩) Tryz.func165 λ a=>by kernel_rfl
def Cg:=fe [(109,di),(42,Nj),(165,uH)] []
def uo:PF:=⟨[R (.pair .i64 .i64),R (.pair .str q4)],[.bool],.uniq,b8⟩
theorem Sc:Sd 107 uo:=sf (F:=Cg) (ek ⟨nS,QY,Sv,trivial⟩) Tryz.func107 λ a=>by kernel_rfl
def Fb:=fe [(38,LS),(106,un),(105,um),(107,uo),(108,mg),(33,J9),(109,di),(110,Qs)] []
def v7:PF:=⟨[R (.pair .i64 .i64),R q2],[.bool],.uniq,cd⟩
theorem TI:Sd 44 v7:=sf (F:=Fb) (ek ⟨Nx,Sb,Sa,Sc,xn,K6,nS,d7,trivial⟩) Tryz.func44 λ a=>by kernel_rfl
def DD:=fe [(38,LS),(33,J9),(63,wm),(64,mZ),(65,wn),(66,wo),(44,v7)] [(4,[.slot 66 .i64 (.imm false)])]
def uZ:PF:=⟨[R (.pair .i64 .i64),R q1],[.bool],.uniq,cj⟩
theorem SP:Sd 20 uZ:=sf (F:=DD) (ek ⟨Nx,K6,TT,Ag,TU,TV,TI,trivial⟩) Tryz.func20 λ a=>by kernel_rfl
def Ex:=fe [] [(4,[.slot 5 .i64 (.imm false)])]
def vC:PF:=⟨[R (.sl 39 q5),R (.sl 39 q5)],[.bool],.uniq,cO⟩
theorem Th:Sd 26 vC:=sf (F:=Ex) (ek trivial) Tryz.func26 λ a=>by kernel_rfl
def E5:=fe [] [(4,[.slot 5 .i64 (.imm false)])]
def vZ:PF:=⟨[R (.sl 3 .i64),R (.sl 3 .i64)],[.bool],.uniq,cK⟩
theorem TG:Sd 37 vZ:=sf (F:=E5) (ek trivial) Tryz.func37 λ a=>by kernel_rfl
def FK:=fe [(37,vZ)] []
def ww:PF:=⟨[R q4,R q4],[.bool],.uniq,cL⟩
theorem TZ:Sd 84 ww:=sf (F:=FK) (ek ⟨TG,trivial⟩) Tryz.func84 λ a=>by kernel_rfl
def EC:=fe [(84,ww)] [(4,[.slot 5 .i64 (.imm false)])]
def vG:PF:=⟨[R (.sl 58 q4),R (.sl 58 q4)],[.bool],.uniq,cN⟩
theorem Tl:Sd 27 vG:=sf (F:=EC) (ek ⟨TZ,trivial⟩) Tryz.func27 λ a=>by kernel_rfl
def EJ:=fe [] []
def vL:PF:=⟨[R Kd,R Kd],[.bool],.uniq,cJ⟩
theorem Tq:Sd 28 vL:=sf (F:=EJ) (ek trivial) Tryz.func28 λ a=>by kernel_rfl
def F9:=fe [(25,mO),(26,vC),(27,vG),(28,vL),(29,mV)] [(4,[.slot 5 .i64 (.imm false)])]
def wA:PF:=⟨[R q1,R q1],[.bool],.uniq,cM⟩
theorem s9:Sd 9 wA:=sf (F:=F9) (ek ⟨xV,Th,Tl,Tq,Ac,trivial⟩) Tryz.func9 λ a=>by kernel_rfl
def abX:=fe [(50,yy)] []
def abd:PF:=⟨[(.ptr,q6)],[(.pair .i64 .i64)],.uniq,aaB⟩
theorem acM:Sd 140 abd:=sf (F:=abX) (ek ⟨yA,trivial⟩) Tryz.func140 λ a=>by kernel_rfl
def F88:=fe [(140,abd),(50,yy),(51,YB)] []
def abm:PF:=⟨[(.ptr,q6)],[(.pair .i64 .i64)],.uniq,aaA⟩
theorem s88:Sd 88 abm:=sf (F:=F88) (ek ⟨acM,yA,Ja,trivial⟩) Tryz.func88 λ a=>by kernel_rfl
def F91:=fe [(50,yy),(146,Ni),(99,Z9)] [(3,[.slot 3 QM (.own true),.slot 4 .i64 (.imm false),.keep 0 q6 [2,0,0]])]
def abo:PF:=⟨[(.ptr,q6)],[QM],.uniq,aax⟩
theorem s91:Sd 91 abo:=sf (F:=F91) (ek ⟨yA,QX,YG,trivial⟩) Tryz.func91 λ a=>by kernel_rfl
def F30:=fe [(87,wz),(50,yy),(88,abm),(89,nh),(17,pf17),(56,wg),(90,wB),(91,abo),(92,wC)] []
def abg:PF:=⟨[(.ptr,q6)],[q3],.own,aaz⟩
theorem s30:Sd 30 abg:=sf (F:=F30) (ek ⟨T4,yA,s88,An,Sz,TO,T5,s91,T6,trivial⟩) Tryz.func30 λ a=>by kernel_rfl
def F31:=fe [(50,yy),(56,wg)] [(3,[.slot 5 QL (.own true),.slot 6 .i64 (.imm false),.keep 0 q6 [2,0,0]])]
def abh:PF:=⟨[(.ptr,q6),R (.pair .i64 .i64)],[QL],.uniq,aay⟩
theorem s31:Sd 31 abh:=sf (F:=F31) (ek ⟨yA,TO,trivial⟩) Tryz.func31 λ a=>by kernel_rfl
def F10:y9:=⟨⟨TYS,[(30,abg),(31,abh)],EQS,[(16,uD)],[],false,[],[],[],false,[]⟩,[]⟩
def ab7:PF:=⟨[R (.sl 5 .u8)],[q3,QL],.own,aav⟩
theorem s10:Sd 10 ab7:=sf (F:=F10) (MP ⟨s30,s31,trivial⟩ ⟨Sq,trivial⟩ trivial trivial trivial trivial) Tryz.func10 λ a=>by kernel_rfl
def F94:=fe [] []
def abr:PF:=⟨[R (.pair .i64 (.sl 5 .u8))],[(.pair .i64 (.sl 5 .u8))],.uniq,aap⟩
theorem s94:Sd 94 abr:=sf (F:=F94) (ek trivial) Tryz.func94 λ a=>by kernel_rfl
def F32:=fe [(93,ni),(19,uU),(94,abr)] [(3,[.slot 20 .i64 (.imm false),.box 8 q3 (.own true)]),(8,[.slot 35 .i64 (.imm false),.box 8 q3 (.own true)])]
def abj:PF:=⟨[R q3],[q3],.uniq,aaq⟩
theorem s32:Sd 32 abj:=sf (F:=F32) (ek ⟨Ao,SK,s94,trivial⟩) Tryz.func32 λ a=>by kernel_rfl
def F45:=fe [(33,J9)] [(4,[.slot 0 .i64 (.imm false),.slot 3 (.sl 5 .u8) (.own true)])]
def aa1:PF:=⟨[R .i64],[(.sl 5 .u8)],.uniq,s7⟩
theorem s45:Sd 45 aa1:=sf (F:=F45) (ek ⟨K6,trivial⟩) Tryz.func45 λ a=>by kernel_rfl
def abZ:=fe [(33,J9),(45,aa1)] [(5,[.slot 7 .i64 (.imm false),.slot 8 .i64 (.imm false)])]
def aaK:PF:=⟨[R (.sl 5 .u8),R .i64],[.i64,.i64,.bool],.uniq,aa2⟩
theorem abz:Sd 156 aaK:=sf (F:=abZ) (ek ⟨K6,s45,trivial⟩) Tryz.func156 λ a=>by kernel_rfl
def abP:=fe [(156,aaK)] []
def aat:PF:=⟨[(.ptr,ZA)],[.i64],.uniq,s6⟩
theorem aaO:Sd 100 aat:=sf (F:=abP) (ek ⟨abz,trivial⟩) Tryz.func100 λ a=>by kernel_rfl
def ac1:=fe [(156,aaK)] []
def abf:PF:=⟨[R (.sl 5 .u8),R .i64],[.str,.i64,.bool],.uniq,aai⟩
theorem acN:Sd 157 abf:=sf (F:=ac1) (ek ⟨abz,trivial⟩) Tryz.func157 λ a=>by kernel_rfl
def abQ:=fe [(157,abf)] []
def aaF:PF:=⟨[(.ptr,ZA)],[.str],.uniq,F7⟩
theorem abu:Sd 101 aaF:=sf (F:=abQ) (ek ⟨acN,trivial⟩) Tryz.func101 λ a=>by kernel_rfl
def abS:=fe [(100,aat)] [(4,[.slot 3 (.sl 3 .i64) (.own true),.slot 5 .i64 (.imm false),.keep 0 ZA [2,0,0]])]
def aaG:PF:=⟨[(.ptr,ZA)],[(.sl 3 .i64)],.uniq,aac⟩
theorem abv:Sd 103 aaG:=sf (F:=abS) (ek ⟨aaO,trivial⟩) Tryz.func103 λ a=>by kernel_rfl
def abR:=fe [(100,aat),(101,aaF),(103,aaG)] []
def ab9:PF:=⟨[(.ptr,ZA)],[q4],.uniq,aae⟩
theorem acG:Sd 102 ab9:=sf (F:=abR) (ek ⟨aaO,abu,abv,trivial⟩) Tryz.func102 λ a=>by kernel_rfl
def F41:=fe [(100,aat),(101,aaF),(102,ab9),(103,aaG),(44,v7)] []
def abk:PF:=⟨[R (.pair .i64 .i64),R (.sl 5 .u8)],[q2,.bool],.uniq,aam⟩
theorem s41:Sd 41 abk:=sf (F:=F41) (ek ⟨aaO,abu,acG,abv,TI,trivial⟩) Tryz.func41 λ a=>by kernel_rfl
def F14:=fe [(38,LS),(39,mW),(40,v6),(20,uZ),(41,abk),(33,J9),(42,Nj),(43,mX)] [(5,[.slot 56 .i64 (.imm false)]),(11,[.slot 75 .i64 (.imm false)]),(18,[.slot 101 .i64 (.imm false)])]
def aaH:PF:=⟨[R q3],[.bool],.uniq,aa8⟩
theorem s14:Sd 14 aaH:=sf (F:=F14) (ek ⟨Nx,Ad,TH,SP,s41,K6,QY,Ae,trivial⟩) Tryz.func14 λ a=>by kernel_rfl
def F46:=fe [(45,aa1)] []
def aaM:PF:=⟨[R .str],[(.sl 5 .u8)],.uniq,F6⟩
theorem s46:Sd 46 aaM:=sf (F:=F46) (ek ⟨s45,trivial⟩) Tryz.func46 λ a=>by kernel_rfl
def F48:=fe [(45,aa1)] [(3,[.slot 3 (.sl 5 .u8) (.own true),.slot 8 .i64 (.imm false)])]
def aaN:PF:=⟨[R (.sl 3 .i64)],[(.sl 5 .u8)],.uniq,F3⟩
theorem s48:Sd 48 aaN:=sf (F:=F48) (ek ⟨s45,trivial⟩) Tryz.func48 λ a=>by kernel_rfl
def F47:=fe [(109,di),(45,aa1),(46,aaM),(48,aaN)] []
def abl:PF:=⟨[R (.pair .i64 .i64),R q4],[(.sl 5 .u8)],.uniq,aa7⟩
theorem s47:Sd 47 abl:=sf (F:=F47) (ek ⟨nS,s45,s46,s48,trivial⟩) Tryz.func47 λ a=>by kernel_rfl
def F15:=fe [(44,v7),(45,aa1),(46,aaM),(47,abl),(48,aaN)] []
def aaJ:PF:=⟨[R (.pair .i64 .i64),R q2],[(.sl 5 .u8)],.uniq,aa5⟩
theorem s15:Sd 15 aaJ:=sf (F:=F15) (ek ⟨TI,s45,s46,s47,s48,trivial⟩) Tryz.func15 λ a=>by kernel_rfl
def F11:=fe [(32,abj),(14,aaH),(15,aaJ),(33,J9)] [(5,[.slot 17 .i64 (.imm false),.box 11 q3 (.own true)])]
def aba:PF:=⟨[R q3,R QL],[q3],.uniq,aan⟩
theorem s11:Sd 11 aba:=sf (F:=F11) (ek ⟨s32,s14,s15,K6,trivial⟩) Tryz.func11 λ a=>by kernel_rfl
def F12:=fe [(34,vX),(35,vY),(36,QE)] []
def abb:PF:=⟨[R q3,R QL],[q3],.own,aaw⟩
theorem s12:Sd 12 abb:=sf (F:=F12) (ek ⟨TE,TF,er,trivial⟩) Tryz.func12 λ a=>by kernel_rfl
def F13:=fe [(37,vZ),(9,wA)] [(4,[.slot 5 .i64 (.imm false)]),(9,[.slot 6 .i64 (.imm false)]),(14,[.slot 7 .i64 (.imm false)])]
def abc:PF:=⟨[R q3,R q3],[.bool],.uniq,aaf⟩
theorem s13:Sd 13 abc:=sf (F:=F13) (ek ⟨TG,s9,trivial⟩) Tryz.func13 λ a=>by kernel_rfl
def adf:=fe [(5,wa),(10,ab7),(11,aba),(12,abb),(13,abc),(14,aaH),(15,aaJ)] [(12,[.slot 7 .i64 (.imm false),.slot 8 .i64 (.imm false)])]
def pf4:PF:=⟨[R (.sl 5 .u8)],[.bool],.uniq,laws_FnSendsInOrder⟩
theorem s4:Sd 4 pf4:=sf (F:=adf) (ek ⟨s5,s10,s11,s12,s13,s14,s15,trivial⟩) Tryz.func4 λ a=>by kernel_rfl
end
end G448
