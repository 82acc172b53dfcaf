/- That the printed functions are what the evaluator reckons. (Printed by our own program.) -/
import Derived.Test.YtpfjcbhpocpneaaGreatDoorProg
import Derived.Test.YtpfjcbhpocpneaaGreatDoorHtFns
import Derived.Test.YtpfjcbhpocpneaaGreatDoorSh
import Derived.KernelRfl
set_option linter.unusedSimpArgs false
set_option linter.unusedVariables false
namespace G448
open Ev Go Go.Proofs
set_option maxRecDepth 100000
noncomputable section
abbrev q1:Ty:=(.pair .i64 (.pair .i64 (.pair .i64 (.pair (.pair .i64 (.pair .i64 (.pair (.pair .i64 (.pair .str (.sl 3 .i64))) .str))) (.pair (.sl 64 (.pair .i64 (.pair .i64 (.pair .i64 .i64)))) (.pair (.sl 62 (.pair .i64 (.pair .str (.sl 3 .i64)))) (.pair (.pair (.sl 5 .u8) .i64) (.sl 92 (.pair .i64 (.pair .i64 (.pair .i64 (.pair (.pair .str (.pair .i64 (.pair .str (.sl 3 .i64)))) (.pair (.pair .i64 (.pair .str (.sl 3 .i64))) (.pair (.pair .i64 (.pair .str (.sl 3 .i64))) (.pair .i64 (.pair .i64 (.pair .i64 (.pair .i64 .i64))))))))))))))))))
abbrev q2:Ty:=(.pair .i64 (.pair .i64 (.pair (.pair .str (.pair .i64 (.pair .str (.sl 3 .i64)))) (.pair (.pair .i64 (.pair .str (.sl 3 .i64))) (.pair (.pair .i64 (.pair .str (.sl 3 .i64))) (.pair .i64 (.pair .i64 (.pair .i64 (.pair .i64 .i64)))))))))
abbrev q3:Ty:=(.pair (.pair .i64 .i64) (.pair (.sl 3 .i64) (.pair (.sl 37 q1) (.pair (.sl 128 (.pair .i64 (.sl 5 .u8))) (.sl 270 (.pair .i64 (.pair .str .i64)))))))
abbrev q4:Ty:=(.pair .i64 (.pair .str (.sl 3 .i64)))
abbrev q5:Ty:=(.pair .i64 (.pair .i64 (.pair .i64 .i64)))
abbrev q6:Ty:=(.pair (.sl 5 .u8) (.pair .i64 .i64))
abbrev q7:Ty:=(.pair .i64 (.pair .i64 (.pair q4 .str)))
abbrev q8:Ty:=(.pair (.sl 3 .i64) (.sl 3 .i64))
abbrev q9:Ty:=(.pair .i64 (.pair .i64 (.pair .i64 q2)))
abbrev Zf:Ty:=(.pair (.sl 5 .u8) .i64)
abbrev Ky:Ty:=(.sl 92 (.pair .i64 q2))
abbrev aW:Ty:=(.pair (.sl 5 .u8) (.pair .i64 .bool))
abbrev aX:Ty:=(.pair .i64 (.pair .str (.sl 0 .i64)))
abbrev fI:Ty:=(.sl 270 (.pair .i64 (.pair .str .i64)))
abbrev fJ:Ty:=(.sl 120 (.pair .i64 (.sl 64 q5)))
def TYS:List (Nat×TD):=[(3,⟨.i64,8,[],none⟩),(4,⟨.bool,1,[],none⟩),(5,⟨.u8,1,[],none⟩),(9,⟨.str,16,[],none⟩),(22,⟨(.sl 5 .u8),24,[],none⟩),(25,⟨(.pair .i64 .i64),16,[(0,3),(1,3)],none⟩),(26,⟨(.sl 3 .i64),24,[],none⟩),(28,⟨(.pair .i64 (.pair .str (.sl 3 .i64))),48,[(0,3),(1,9),(2,26)],none⟩),(30,⟨(.pair .i64 (.pair .i64 (.pair (.pair .i64 (.pair .str (.sl 3 .i64))) .str))),80,[(0,3),(1,3),(2,28),(5,9)],none⟩),(31,⟨(.sl 64 (.pair .i64 (.pair .i64 (.pair .i64 .i64)))),24,[],none⟩),(32,⟨(.sl 62 (.pair .i64 (.pair .str (.sl 3 .i64)))),24,[],none⟩),(34,⟨(.pair (.sl 5 .u8) .i64),32,[(0,22),(1,3)],none⟩),(35,⟨(.sl 92 (.pair .i64 (.pair .i64 (.pair .i64 (.pair (.pair .str (.pair .i64 (.pair .str (.sl 3 .i64)))) (.pair (.pair .i64 (.pair .str (.sl 3 .i64))) (.pair (.pair .i64 (.pair .str (.sl 3 .i64))) (.pair .i64 (.pair .i64 (.pair .i64 (.pair .i64 .i64))))))))))),24,[],none⟩),(37,⟨(.pair .i64 (.pair .i64 (.pair .i64 (.pair (.pair .i64 (.pair .i64 (.pair (.pair .i64 (.pair .str (.sl 3 .i64))) .str))) (.pair (.sl 64 (.pair .i64 (.pair .i64 (.pair .i64 .i64)))) (.pair (.sl 62 (.pair .i64 (.pair .str (.sl 3 .i64)))) (.pair (.pair (.sl 5 .u8) .i64) (.sl 92 (.pair .i64 (.pair .i64 (.pair .i64 (.pair (.pair .str (.pair .i64 (.pair .str (.sl 3 .i64)))) (.pair (.pair .i64 (.pair .str (.sl 3 .i64))) (.pair (.pair .i64 (.pair .str (.sl 3 .i64))) (.pair .i64 (.pair .i64 (.pair .i64 (.pair .i64 .i64)))))))))))))))))),208,[(0,3),(1,3),(2,3),(3,30),(9,31),(10,32),(11,34),(13,35)],none⟩),(49,⟨(.pair (.sl 3 .i64) (.sl 3 .i64)),48,[(0,26),(1,26)],none⟩),(57,⟨(.pair .str (.pair .i64 (.pair .str (.sl 3 .i64)))),64,[(0,9),(1,28)],none⟩),(62,⟨(.pair .i64 (.pair .str (.sl 3 .i64))),48,[(0,3),(1,9),(2,26)],none⟩),(64,⟨(.pair .i64 (.pair .i64 (.pair .i64 .i64))),32,[(0,3),(1,3),(2,3),(3,3)],none⟩),(66,⟨(.pair .i64 (.pair .i64 (.pair (.pair .str (.pair .i64 (.pair .str (.sl 3 .i64)))) (.pair (.pair .i64 (.pair .str (.sl 3 .i64))) (.pair (.pair .i64 (.pair .str (.sl 3 .i64))) (.pair .i64 (.pair .i64 (.pair .i64 (.pair .i64 .i64))))))))),216,[(0,3),(1,3),(2,57),(6,62),(9,28),(12,3),(13,64)],none⟩),(92,⟨(.pair .i64 (.pair .i64 (.pair .i64 (.pair (.pair .str (.pair .i64 (.pair .str (.sl 3 .i64)))) (.pair (.pair .i64 (.pair .str (.sl 3 .i64))) (.pair (.pair .i64 (.pair .str (.sl 3 .i64))) (.pair .i64 (.pair .i64 (.pair .i64 (.pair .i64 .i64)))))))))),224,[(0,3),(1,66)],none⟩),(116,⟨(.sl 120 (.pair .i64 (.sl 64 (.pair .i64 (.pair .i64 (.pair .i64 .i64)))))),24,[],none⟩),(120,⟨(.pair .i64 (.sl 64 (.pair .i64 (.pair .i64 (.pair .i64 .i64))))),32,[(0,3),(1,31)],none⟩),(121,⟨(.sl 37 (.pair .i64 (.pair .i64 (.pair .i64 (.pair (.pair .i64 (.pair .i64 (.pair (.pair .i64 (.pair .str (.sl 3 .i64))) .str))) (.pair (.sl 64 (.pair .i64 (.pair .i64 (.pair .i64 .i64)))) (.pair (.sl 62 (.pair .i64 (.pair .str (.sl 3 .i64)))) (.pair (.pair (.sl 5 .u8) .i64) (.sl 92 (.pair .i64 (.pair .i64 (.pair .i64 (.pair (.pair .str (.pair .i64 (.pair .str (.sl 3 .i64)))) (.pair (.pair .i64 (.pair .str (.sl 3 .i64))) (.pair (.pair .i64 (.pair .str (.sl 3 .i64))) (.pair .i64 (.pair .i64 (.pair .i64 (.pair .i64 .i64))))))))))))))))))),24,[],none⟩),(122,⟨(.sl 128 (.pair .i64 (.sl 5 .u8))),24,[],none⟩),(123,⟨(.sl 270 (.pair .i64 (.pair .str .i64))),24,[],none⟩),(125,⟨(.pair (.pair .i64 .i64) (.pair (.sl 3 .i64) (.pair (.sl 37 (.pair .i64 (.pair .i64 (.pair .i64 (.pair (.pair .i64 (.pair .i64 (.pair (.pair .i64 (.pair .str (.sl 3 .i64))) .str))) (.pair (.sl 64 (.pair .i64 (.pair .i64 (.pair .i64 .i64)))) (.pair (.sl 62 (.pair .i64 (.pair .str (.sl 3 .i64)))) (.pair (.pair (.sl 5 .u8) .i64) (.sl 92 (.pair .i64 (.pair .i64 (.pair .i64 (.pair (.pair .str (.pair .i64 (.pair .str (.sl 3 .i64)))) (.pair (.pair .i64 (.pair .str (.sl 3 .i64))) (.pair (.pair .i64 (.pair .str (.sl 3 .i64))) (.pair .i64 (.pair .i64 (.pair .i64 (.pair .i64 .i64))))))))))))))))))) (.pair (.sl 128 (.pair .i64 (.sl 5 .u8))) (.sl 270 (.pair .i64 (.pair .str .i64))))))),112,[(0,25),(2,26),(3,121),(4,122),(5,123)],none⟩),(128,⟨(.pair .i64 (.sl 5 .u8)),32,[(0,3),(1,22)],none⟩),(142,⟨(.pair (.sl 5 .u8) (.pair .i64 .i64)),40,[(0,22),(1,3),(2,3)],none⟩),(190,⟨(.sl 9 .str),24,[],none⟩),(200,⟨(.pair .i64 (.pair .i64 (.pair .i64 (.pair .i64 (.pair .i64 (.pair (.pair .str (.pair .i64 (.pair .str (.sl 3 .i64)))) (.pair (.pair .i64 (.pair .str (.sl 3 .i64))) (.pair (.pair .i64 (.pair .str (.sl 3 .i64))) (.pair .i64 (.pair .i64 (.pair .i64 (.pair .i64 .i64)))))))))))),240,[(0,3),(1,3),(2,3),(3,66)],none⟩),(204,⟨(.pair (.sl 5 .u8) (.pair .i64 .bool)),40,[(0,22),(1,3),(2,4)],none⟩),(216,⟨(.pair (.sl 5 .u8) (.pair .i64 .bool)),40,[(0,22),(1,3),(2,4)],none⟩),(259,⟨(.sl 3 .i64),32,[],some 4⟩),(270,⟨(.pair .i64 (.pair .str .i64)),32,[(0,3),(1,9),(2,3)],none⟩)]
def EQS:List Nat:=[64]
theorem tysOK:yj Tryz.prog TYS=true:=by kernel_rfl
theorem Rn:EQS.all (LX Tryz.prog TYS)=true:=by kernel_rfl
theorem TU:Tryz.prog.follows .mixedOrders=true:=by kernel_rfl
theorem K8 {fns:List (Nat×PF)} {news:List (Nat×NF)} {muts:List (Nat×MF)} {frz hold:Bool} {conds joins alts:List (Nat×PF)} {thaws:List (Nat×Nat)} (h:AllS Tryz.prog GLB fns) (h2:AllN Tryz.prog GLB news) (h3:AllM Tryz.prog GLB muts) (h4:AllC Tryz.prog GLB conds) (h5:AllJ Tryz.prog GLB joins) (h6:AllS Tryz.prog GLB alts):jY Tryz.prog GLB ⟨TYS,fns,EQS,news,muts,frz,conds,joins,alts,hold,thaws⟩:=Rm TU tysOK Rn h h2 h3 h4 h5 h6
def fe (fns:List (Nat×PF)) (ls:List (Nat×List Ev.Item)):yZ:=⟨⟨TYS,fns,EQS,[],[],false,[],[],[],false,[]⟩,ls⟩
theorem ek {fns:List (Nat×PF)} {frz hold:Bool} {thaws:List (Nat×Nat)} (h:AllS Tryz.prog GLB fns):jY Tryz.prog GLB ⟨TYS,fns,EQS,[],[],frz,[],[],[],hold,thaws⟩:=K8 h trivial trivial trivial trivial trivial
abbrev R (t:Ty):PK×Ty:=(.rd,t)
abbrev Sd (f:Nat) (pf:PF):Prop:=Sound Tryz.prog GLB f pf
theorem sf {F:yZ} {f:FuncId} {fn:Func} {pf:PF} (hE:jY Tryz.prog GLB F.E) (hf:Tryz.prog.funcs[f]?=some fn) (he:∀ a,Qu F fn pf.params pf.rets pf.rk a=pf.fn a) (hn:(fn.name == "runtime.NumGoroutine")=false:=by kernel_rfl) (ht:F.E.thaws=[]:=by rfl):Sd f pf:=CX hE hf hn (λ a o h=>(he a).trans h) (.inl ht)
def oP (pf:PF) (v:zN pf.params pf.rets):PF:={pf with fn:=λ _=>some v}
def LJ:Code->Code | .seq a _=>a|c=>c
def Ju:Code->Code | .seq _ b=>b|c=>c
def tL:Code->Code | .cond _ a _=>a|c=>c
def rn (F:yZ) (c:Code) (st:St):St:=match jv F c st (λ _ s=>some s) with|some s=>s|none=>st
def rgo (F:yZ) (c:Code) (lo hi:Nat) (st:St):St:=match c with | .region _ ops _=>(match evReg F.E ops.toList ((ops.toList.take hi).drop lo) st some with|some s=>s|none=>st)|_=>st
def en (fn:Func) (ps:List (PK×Ty)) (args:zW ps):St:=match y0 ps args 0 with|some (avs,es,j)=>{ slots:=avs++List.replicate (fn.ntmps - avs.length) (.tup []),tab:=es,nxt:=j,lvl:=0 }|none=>⟨[],[],0,0⟩
def Qt (F:yZ) (fn:Func) (ps:List (PK×Ty)) (rets:List Ty) (rk:RK) (args:zW ps) (c:Code) (st:St):Option (zN ps rets):=jv F c st λ x st=>match x with | .exit _=>none | .normal=>Ny F fn ps rets rk args st | .ret=>Ny F fn ps rets rk args st
theorem bc {α β:Type} {x:Option α} {f g:α->Option β} (h:∀ y,f y=g y):x.bind f=x.bind g:=by rw[funext h]
theorem cc {α:Type} {c:Bool} {x y z t:α} (h:x=z) (k:y=t):(bif c then x else y)=bif c then z else t:=by rw[h,k]
def F6:=fe [] []
def AQ:PF:=⟨[R (.sl 5 .u8)],[.bool],.uniq,nz⟩
theorem s6:Sd 6 AQ:=sf (F:=F6) (ek trivial) Tryz.func6 λ a=>by kernel_rfl
def sV:=fe [] [(3,[.slot 3 .i64 (.imm false),.slot 4 .i64 (.imm false)])]
def AD:NF:=⟨[(.rd,(.sl 5 .u8))],q6,ce⟩
theorem Rc (a:zW [(.rd,(.sl 5 .u8))]):my sV Tryz.f35 [(.rd,(.sl 5 .u8))] q6 a=ce a:=by kernel_rfl
theorem s35:KY Tryz.prog GLB 35 AD:=aa1 (F:=sV) (ek trivial) Tryz.func35 (by kernel_rfl) (λ a o h=>(Rc a).trans h)
def EU:=fe [] []
def wI:PF:=⟨[(.ptr,q6)],[.i64],.uniq,LG⟩
theorem Vk:Sd 128 wI:=sf (F:=EU) (ek trivial) Tryz.func128 λ a=>by kernel_rfl
def I6:=fe [(128,wI)] []
def yu:PF:=⟨[(.ptr,q6),R .i64],[.i64],.uniq,zl⟩
theorem yy:Sd 47 yu:=sf (F:=I6) (ek ⟨Vk,trivial⟩) Tryz.func47 λ a=>by kernel_rfl
def Ey:=fe [(47,yu)] []
def YR:PF:=⟨[(.ptr,q6),R (.sl 3 .i64)],[.i64],.uniq,jy⟩
theorem Jp:Sd 104 YR:=sf (F:=Ey) (ek ⟨yy,trivial⟩) Tryz.func104 λ a=>by kernel_rfl
def IZ:=fe [(47,yu)] []
def pf38:PF:=⟨[(.ptr,q6),R .i64],[.bool],.uniq,ZD⟩
theorem YW:Sd 38 pf38:=sf (F:=IZ) (ek ⟨yy,trivial⟩) Tryz.func38 λ a=>by kernel_rfl
def Ou:=fe [] []
def jK:PF:=⟨[R .i64,R .i64,R .i64],[.bool],.uniq,yk⟩
theorem jP:Sd 71 jK:=sf (F:=Ou) (ek trivial) Tryz.func71 λ a=>by kernel_rfl
def Ot:=fe [(71,jK)] []
def Z3:PF:=⟨[R (.pair .i64 .i64)],[.bool],.uniq,Zz⟩
theorem Ym:Sd 70 Z3:=sf (F:=Ot) (ek ⟨jP,trivial⟩) Tryz.func70 λ a=>by kernel_rfl
def Gt:=fe [] [(4,[.slot 5 (.sl 9 .str) (.own true),.slot 6 .i64 (.imm false),.slot 7 .i64 (.imm false)])]
def oJ:PF:=⟨[R .str,R .u8],[(.sl 9 .str)],.uniq,bN⟩
theorem B3:Sd 225 oJ:=sf (F:=Gt) (ek trivial) Tryz.func225 λ a=>by kernel_rfl
def Gu:=fe [] [(2,[.slot 7 .i64 (.imm false)])]
def oK:PF:=⟨[R .str,R .u8],[.str,.str,.bool],.uniq,LH⟩
theorem B4:Sd 226 oK:=sf (F:=Gu) (ek trivial) Tryz.func226 λ a=>by kernel_rfl
def Gd:=fe [] [(5,[.slot 0 .i64 (.imm false),.slot 4 .str (.imm false)])]
def aD:PF:=⟨[R .i64],[.str],.uniq,Js⟩
theorem gc:Sd 210 aD:=sf (F:=Gd) (ek trivial) Tryz.func210 λ a=>by kernel_rfl
def Gv:=fe [(210,aD)] [(5,[.slot 4 .i64 (.imm false),.slot 5 .i64 (.imm false)])]
def oL:PF:=⟨[R .str],[.i64,.bool],.uniq,LC⟩
theorem B5:Sd 227 oL:=sf (F:=Gv) (ek ⟨gc,trivial⟩) Tryz.func227 λ a=>by kernel_rfl
def Fj:=fe [(71,jK)] []
def Ml:PF:=⟨[R q5],[.bool],.uniq,KN⟩
theorem qh:Sd 151 Ml:=sf (F:=Fj) (ek ⟨jP,trivial⟩) Tryz.func151 λ a=>by kernel_rfl
def Ig:=fe [(151,Ml),(210,aD)] []
def oR:PF:=⟨[R q5],[.str],.uniq,qJ⟩
theorem Ca:Sd 282 oR:=sf (F:=Ig) (ek ⟨qh,gc,trivial⟩) Tryz.func282 λ a=>by kernel_rfl
def Ib:=fe [(226,oK),(227,oL),(282,oR)] []
def xZ:PF:=⟨[R .str],[q5,.bool],.uniq,bS⟩
theorem Wr:Sd 278 xZ:=sf (F:=Ib) (ek ⟨B4,B5,Ca,trivial⟩) Tryz.func278 λ a=>by kernel_rfl
def Gw:=fe [(225,oJ),(278,xZ)] [(6,[.slot 4 (.sl 64 q5) (.own true),.slot 6 .i64 (.imm false)])]
def xy:PF:=⟨[R .str],[(.sl 64 q5),.bool],.uniq,kp⟩
theorem VY:Sd 228 xy:=sf (F:=Gw) (ek ⟨B3,Wr,trivial⟩) Tryz.func228 λ a=>by kernel_rfl
def E8:=fe [(225,oJ),(226,oK),(227,oL),(228,xy)] [(10,[.slot 5 fJ (.own true),.slot 7 .i64 (.imm false),.slot 8 .i64 (.imm false)])]
def au:PF:=⟨[R .str],[fJ,.bool],.uniq,MN⟩
theorem fY:Sd 140 au:=sf (F:=E8) (ek ⟨B3,B4,B5,VY,trivial⟩) Tryz.func140 λ a=>by kernel_rfl
def Fi:=fe [(140,au)] []
def Ku:PF:=⟨[R .str],[.bool],.uniq,Y3⟩
theorem Lw:Sd 150 Ku:=sf (F:=Fi) (ek ⟨fY,trivial⟩) Tryz.func150 λ a=>by kernel_rfl
def OK:=fe [(140,au)] []
def Yh:PF:=⟨[R .str],[.i64],.uniq,ZA⟩
theorem YX:Sd 87 Yh:=sf (F:=OK) (ek ⟨fY,trivial⟩) Tryz.func87 λ a=>by kernel_rfl
def GE:=fe [] [(2,[.slot 5 .i64 (.imm false)])]
def fk:PF:=⟨[R .i64,R (.sl 3 .i64)],[.bool],.uniq,qG⟩
theorem rf:Sd 236 fk:=sf (F:=GE) (ek trivial) Tryz.func236 λ a=>by kernel_rfl
def GF:=fe [(70,Z3)] []
def fl:PF:=⟨[R (.pair .i64 .i64)],[.i64],.uniq,qD⟩
theorem rg:Sd 237 fl:=sf (F:=GF) (ek ⟨Ym,trivial⟩) Tryz.func237 λ a=>by kernel_rfl
def Fh:=fe [(70,Z3),(150,Ku),(87,Yh),(236,fk),(237,fl)] []
def pf149:PF:=⟨[R (.pair .i64 .i64),R q4],[.bool],.uniq,Y4⟩
theorem Lv:Sd 149 pf149:=sf (F:=Fh) (ek ⟨Ym,Lw,YX,rf,rg,trivial⟩) Tryz.func149 λ a=>by kernel_rfl
def Ov:=fe [(71,jK),(149,pf149),(150,Ku)] []
def Mn:PF:=⟨[R (.pair .i64 .i64),R q7],[.bool],.uniq,KM⟩
theorem qj:Sd 72 Mn:=sf (F:=Ov) (ek ⟨jP,Lv,Lw,trivial⟩) Tryz.func72 λ a=>by kernel_rfl
def Fk:=fe [] []
def oe:PF:=⟨[R q5,R q5],[.bool],.uniq,ck⟩
theorem BJ:Sd 152 oe:=sf (F:=Fk) (ek trivial) Tryz.func152 λ a=>by kernel_rfl
def Ow:=fe [(151,Ml),(152,oe)] [(2,[.slot 3 .i64 (.imm false)])]
def pa:PF:=⟨[R (.sl 64 q5)],[.bool],.uniq,MJ⟩
theorem Cq:Sd 73 pa:=sf (F:=Ow) (ek ⟨qh,BJ,trivial⟩) Tryz.func73 λ a=>by kernel_rfl
def Fl:=fe [(70,Z3),(71,jK),(236,fk),(150,Ku),(87,Yh)] []
def ax:PF:=⟨[R (.pair .i64 .i64),R q4],[.bool],.uniq,KK⟩
theorem f0:Sd 153 ax:=sf (F:=Fl) (ek ⟨Ym,jP,rf,Lw,YX,trivial⟩) Tryz.func153 λ a=>by kernel_rfl
def Fm:=fe [] []
def og:PF:=⟨[R q4,R q4],[.bool],.uniq,bW⟩
theorem BK:Sd 154 og:=sf (F:=Fm) (ek trivial) Tryz.func154 λ a=>by kernel_rfl
def Ox:=fe [(153,ax),(154,og)] [(2,[.slot 5 .i64 (.imm false)])]
def pb:PF:=⟨[R (.pair .i64 .i64),R (.sl 62 q4)],[.bool],.uniq,MO⟩
theorem Cr:Sd 74 pb:=sf (F:=Ox) (ek ⟨f0,BK,trivial⟩) Tryz.func74 λ a=>by kernel_rfl
def Oy:=fe [(71,jK)] []
def aN:PF:=⟨[R Zf],[.bool],.uniq,LA⟩
theorem gq:Sd 75 aN:=sf (F:=Oy) (ek ⟨jP,trivial⟩) Tryz.func75 λ a=>by kernel_rfl
def Gr:=fe [] [(2,[.slot 5 .i64 (.imm false)])]
def oI:PF:=⟨[R (.sl 3 .i64),R (.sl 3 .i64)],[.bool],.uniq,cn⟩
theorem B2:Sd 223 oI:=sf (F:=Gr) (ek trivial) Tryz.func223 λ a=>by kernel_rfl
def EV:=fe [(223,oI)] []
def eV:PF:=⟨[R q4,R q4],[.bool],.uniq,qC⟩
theorem pQ:Sd 131 eV:=sf (F:=EV) (ek ⟨B2,trivial⟩) Tryz.func131 λ a=>by kernel_rfl
def EX:=fe [(131,eV)] []
def wK:PF:=⟨[R (.pair .str q4),R (.pair .str q4)],[.bool],.uniq,gJ⟩
theorem Vm:Sd 133 wK:=sf (F:=EX) (ek ⟨pQ,trivial⟩) Tryz.func133 λ a=>by kernel_rfl
def EY:=fe [(223,oI)] []
def wL:PF:=⟨[R q4,R q4],[.bool],.uniq,kF⟩
theorem Vn:Sd 134 wL:=sf (F:=EY) (ek ⟨B2,trivial⟩) Tryz.func134 λ a=>by kernel_rfl
def Ob:=fe [(133,wK),(134,wL),(131,eV)] []
def o4:PF:=⟨[R q2,R q2],[.bool],.uniq,KI⟩
theorem s55:Sd 55 o4:=sf (F:=Ob) (ek ⟨Vm,Vn,pQ,trivial⟩) Tryz.func55 λ a=>by kernel_rfl
def Fn:=fe [(55,o4)] []
def wR:PF:=⟨[R q2],[.bool],.uniq,kG⟩
theorem Vt:Sd 155 wR:=sf (F:=Fn) (ek ⟨s55,trivial⟩) Tryz.func155 λ a=>by kernel_rfl
def Oe:=fe [] []
def JR:PF:=⟨[R .i64,R .i64],[.i64],.uniq,yQ⟩
theorem KC:Sd 58 JR:=sf (F:=Oe) (ek trivial) Tryz.func58 λ a=>by kernel_rfl
def FG:=fe [(150,Ku),(58,JR)] [(4,[.slot 3 .i64 (.imm false)])]
def aA:PF:=⟨[R .str],[.str],.uniq,LF⟩
theorem f8:Sd 175 aA:=sf (F:=FG) (ek ⟨Lw,KC,trivial⟩) Tryz.func175 λ a=>by kernel_rfl
def OI:=fe [(149,pf149),(150,Ku),(175,aA)] []
def aQ:PF:=⟨[R (.pair .i64 .i64),R (.pair .str q4)],[.bool],.uniq,MD⟩
theorem gu:Sd 85 aQ:=sf (F:=OI) (ek ⟨Lv,Lw,f8,trivial⟩) Tryz.func85 λ a=>by kernel_rfl
def Oz:=fe [(70,Z3),(155,wR),(85,aQ),(153,ax),(71,jK),(149,pf149),(151,Ml)] []
def Mo:PF:=⟨[R (.pair .i64 .i64),R q2],[.bool],.uniq,Yb⟩
theorem qk:Sd 76 Mo:=sf (F:=Oz) (ek ⟨Ym,Vt,gu,f0,jP,Lv,qh,trivial⟩) Tryz.func76 λ a=>by kernel_rfl
def Gn:=fe [(70,Z3),(71,jK),(72,Mn),(73,pa),(74,pb),(75,aN),(76,Mo)] [(4,[.slot 5 .i64 (.imm false)])]
def ZN:PF:=⟨[R (.pair .i64 .i64),R q1],[.bool],.uniq,Zk⟩
theorem Z9:Sd 22 ZN:=sf (F:=Gn) (ek ⟨Ym,jP,qj,Cq,Cr,gq,qk,trivial⟩) Tryz.func22 λ a=>by kernel_rfl
def E7:=fe [(22,ZN)] []
def wN:PF:=⟨[R (.pair .i64 .i64),R .i64],[q1,.bool],.uniq,ka⟩
theorem Vp:Sd 14 wN:=sf (F:=E7) (ek ⟨Z9,trivial⟩) Tryz.func14 λ a=>by kernel_rfl
def IE:=fe [(70,Z3)] []
def Ax:PF:=⟨[R (.pair .i64 .i64)],[.i64],.uniq,gO⟩
theorem WT:Sd 321 Ax:=sf (F:=IE) (ek ⟨Ym,trivial⟩) Tryz.func321 λ a=>by kernel_rfl
def E3:=fe [] [(3,[.slot 7 .i64 (.imm false),.slot 8 .i64 (.imm false)])]
def eW:PF:=⟨[R (.sl 5 .u8),R .i64],[.i64,.i64,.bool],.uniq,qt⟩
theorem pR:Sd 136 eW:=sf (F:=E3) (ek trivial) Tryz.func136 λ a=>by kernel_rfl
def FT:=fe [(136,eW)] []
def aB:PF:=⟨[(.ptr,aW)],[.i64],.uniq,ZB⟩
theorem f9:Sd 188 aB:=sf (F:=FT) (ek ⟨pR,trivial⟩) Tryz.func188 λ a=>by kernel_rfl
def G3:=fe [(136,eW)] []
def xU:PF:=⟨[R (.sl 5 .u8),R .i64],[.str,.i64,.bool],.uniq,gP⟩
theorem Wm:Sd 266 xU:=sf (F:=G3) (ek ⟨pR,trivial⟩) Tryz.func266 λ a=>by kernel_rfl
def FU:=fe [(266,xU)] []
def fc:PF:=⟨[(.ptr,aW)],[.str],.uniq,MS⟩
theorem pY:Sd 189 fc:=sf (F:=FU) (ek ⟨Wm,trivial⟩) Tryz.func189 λ a=>by kernel_rfl
def FW:=fe [(188,aB)] [(4,[.slot 3 (.sl 3 .i64) (.own true),.slot 5 .i64 (.imm false),.keep 0 aW [2,0,0]])]
def oA:PF:=⟨[(.ptr,aW)],[(.sl 3 .i64)],.uniq,bY⟩
theorem BU:Sd 191 oA:=sf (F:=FW) (ek ⟨f9,trivial⟩) Tryz.func191 λ a=>by kernel_rfl
def FV:=fe [(188,aB),(189,fc),(191,oA)] []
def oz:PF:=⟨[(.ptr,aW)],[q4],.uniq,qQ⟩
theorem BT:Sd 190 oz:=sf (F:=FV) (ek ⟨f9,pY,BU,trivial⟩) Tryz.func190 λ a=>by kernel_rfl
def OQ:=fe [(188,aB),(189,fc),(190,oz),(191,oA),(76,Mo)] []
def fF:PF:=⟨[R (.pair .i64 .i64),R (.sl 5 .u8)],[q2,.bool],.uniq,qw⟩
theorem ry:Sd 93 fF:=sf (F:=OQ) (ek ⟨f9,pY,BT,BU,qk,trivial⟩) Tryz.func93 λ a=>by kernel_rfl
def Is:=fe [(70,Z3),(236,fk),(321,Ax),(22,ZN),(93,fF),(71,jK),(150,Ku),(87,Yh)] [(4,[.slot 3 .i64 (.imm false)]),(9,[.slot 4 .i64 (.imm false)]),(15,[.slot 7 .i64 (.imm false)])]
def Ao:PF:=⟨[R q3],[.bool],.uniq,qN⟩
theorem WH:Sd 298 Ao:=sf (F:=Is) (ek ⟨Ym,rf,WT,Z9,ry,jP,Lw,YX,trivial⟩) Tryz.func298 λ a=>by kernel_rfl
def GZ:=fe [(70,Z3),(14,wN),(298,Ao)] [(3,[.slot 7 .i64 (.imm false),.box 5 q3 (.own true)])]
def xS:PF:=⟨[R (.pair .i64 .i64),R (.sl 3 .i64)],[q3,.bool],.uniq,bU⟩
theorem Wj:Sd 261 xS:=sf (F:=GZ) (ek ⟨Ym,Vp,WH,trivial⟩) Tryz.func261 λ a=>by kernel_rfl
def FQ:=fe [(104,YR),(47,yu),(38,pf38),(261,xS)] []
def xe:PF:=⟨[(.ptr,q6)],[q3],.uniq,kU⟩
theorem VK:Sd 185 xe:=sf (F:=FQ) (ek ⟨Jp,yy,YW,Wj,trivial⟩) Tryz.func185 λ a=>by kernel_rfl
def GQ:=fe [(70,Z3)] []
def Lq:PF:=⟨[R (.pair .i64 .i64),R .i64],[.i64],.uniq,jF⟩
theorem Mx:Sd 251 Lq:=sf (F:=GQ) (ek ⟨Ym,trivial⟩) Tryz.func251 λ a=>by kernel_rfl
def F5:=fe [] []
def N2:PF:=⟨[R q4],[q4],.uniq,J1⟩
theorem bk:Sd 200 N2:=sf (F:=F5) (ek trivial) Tryz.func200 λ a=>by kernel_rfl
def GP:=fe [(200,N2)] [(2,[.slot 7 .i64 (.imm false),.box 1 q4 (.own true)])]
def fx:PF:=⟨[R (.sl 62 q4),R .i64,R .str],[q4],.uniq,qI⟩
theorem rj:Sd 250 fx:=sf (F:=GP) (ek ⟨bk,trivial⟩) Tryz.func250 λ a=>by kernel_rfl
def Oh:=fe [] [(3,[.slot 2 .i64 (.imm false),.box 2 q8 (.own true)])]
def o6:PF:=⟨[],[q8],.uniq,qv⟩
theorem Cm:Sd 61 o6:=sf (F:=Oh) (ek trivial) Tryz.func61 λ a=>by kernel_rfl
def Oi:=fe [(140,au)] [(4,[.slot 3 (.sl 64 q5) (.own true),.slot 6 .i64 (.imm false)])]
def o7:PF:=⟨[R .str],[(.sl 64 q5)],.uniq,qK⟩
theorem Cn:Sd 62 o7:=sf (F:=Oi) (ek ⟨fY,trivial⟩) Tryz.func62 λ a=>by kernel_rfl
def E5:=fe [] []
def eX:PF:=⟨[R q8],[q8],.uniq,MU⟩
theorem pS:Sd 138 eX:=sf (F:=E5) (ek trivial) Tryz.func138 λ a=>by kernel_rfl
def Gs:=fe [(71,jK)] [(4,[.slot 3 .i64 (.imm false)])]
def xx:PF:=⟨[R q8],[.bool],.uniq,bB⟩
theorem VX:Sd 224 xx:=sf (F:=Gs) (ek ⟨jP,trivial⟩) Tryz.func224 λ a=>by kernel_rfl
def E6:=fe [(138,eX),(224,xx),(151,Ml)] []
def eY:PF:=⟨[R q8,R q5],[q8,.i64],.uniq,MI⟩
theorem pT:Sd 139 eY:=sf (F:=E6) (ek ⟨pS,VX,qh,trivial⟩) Tryz.func139 λ a=>by kernel_rfl
def Og:=fe [(138,eX),(139,eY)] [(4,[.slot 7 (.sl 3 .i64) (.own true),.slot 8 .i64 (.imm false),.box 7 q8 (.own true)])]
def o5:PF:=⟨[R q8,R (.sl 64 q5)],[q8,(.sl 3 .i64)],.uniq,qz⟩
theorem Cl:Sd 60 o5:=sf (F:=Og) (ek ⟨pS,pT,trivial⟩) Tryz.func60 λ a=>by kernel_rfl
def Iy:=fe [(138,eX),(139,eY)] [(4,[.slot 5 (.sl 64 q5) (.own true),.slot 7 .i64 (.imm false),.box 7 q8 (.own true)])]
def As:PF:=⟨[R (.sl 64 q5),R q8],[(.sl 64 q5)],.uniq,bH⟩
theorem WM:Sd 303 As:=sf (F:=Iy) (ek ⟨pS,pT,trivial⟩) Tryz.func303 λ a=>by kernel_rfl
def GG:=fe [(151,Ml),(282,oR)] [(3,[.slot 3 .str (.imm false),.slot 4 .i64 (.imm false)])]
def xF:PF:=⟨[R (.sl 64 q5)],[.str],.uniq,kq⟩
theorem V6:Sd 238 xF:=sf (F:=GG) (ek ⟨qh,Ca,trivial⟩) Tryz.func238 λ a=>by kernel_rfl
def Fp:=fe [(151,Ml),(210,aD),(238,xF),(150,Ku)] [(2,[.slot 7 .i64 (.imm false)])]
def ay:PF:=⟨[R .str,R .i64,R (.sl 64 q5)],[.str],.uniq,LB⟩
theorem f6:Sd 157 ay:=sf (F:=Fp) (ek ⟨qh,gc,V6,Lw,trivial⟩) Tryz.func157 λ a=>by kernel_rfl
def EH:=fe [] []
def Mi:PF:=⟨[R q4],[q4],.uniq,Jt⟩
theorem qd:Sd 115 Mi:=sf (F:=EH) (ek trivial) Tryz.func115 λ a=>by kernel_rfl
def OB:=fe [(157,ay),(115,Mi),(85,aQ),(87,Yh)] []
def aP:PF:=⟨[R (.pair .i64 .i64),R q4,R .i64,R (.sl 64 q5)],[(.pair .str q4),.bool],.uniq,yd⟩
theorem gt:Sd 78 aP:=sf (F:=OB) (ek ⟨f6,qd,gu,YX,trivial⟩) Tryz.func78 λ a=>by kernel_rfl
def G1:=fe [(22,ZN),(251,Lq),(250,fx),(237,fl),(61,o6),(62,o7),(60,o5),(303,As),(78,aP)] []
def fz:PF:=⟨[R (.pair .i64 .i64),R q1],[(.pair .str q4),.bool],.uniq,KG⟩
theorem rm:Sd 263 fz:=sf (F:=G1) (ek ⟨Z9,Mx,rj,rg,Cm,Cn,Cl,WM,gt,trivial⟩) Tryz.func263 λ a=>by kernel_rfl
def G2:=fe [] [(2,[.slot 5 .i64 (.imm false)])]
def Z2:PF:=⟨[R (.sl 3 .i64),R .i64],[.bool],.uniq,jx⟩
theorem Yl:Sd 264 Z2:=sf (F:=G2) (ek trivial) Tryz.func264 λ a=>by kernel_rfl
def GH:=fe [(47,yu),(104,YR)] []
def Lp:PF:=⟨[(.ptr,q6)],[q5],.uniq,z6⟩
theorem Mw:Sd 239 Lp:=sf (F:=GH) (ek ⟨yy,Jp,trivial⟩) Tryz.func239 λ a=>by kernel_rfl
def Od:=fe [] []
def Mm:PF:=⟨[R .i64,R .i64],[.i64],.uniq,yf⟩
theorem qi:Sd 57 Mm:=sf (F:=Od) (ek trivial) Tryz.func57 λ a=>by kernel_rfl
def G5:=fe [(264,Z2)] [(4,[.slot 5 .i64 (.imm false)])]
def aF:PF:=⟨[R (.sl 3 .i64),R .i64],[(.sl 3 .i64)],.uniq,Yd⟩
theorem ge:Sd 270 aF:=sf (F:=G5) (ek ⟨Yl,trivial⟩) Tryz.func270 λ a=>by kernel_rfl
def Iz:=fe [(47,yu),(157,ay),(57,Mm),(38,pf38),(175,aA),(270,aF)] [(11,[.slot 7 (.sl 3 .i64) (.own true),.slot 9 .i64 (.imm false)])]
def pf304:PF:=⟨[(.ptr,q6),R q3],[q2],.uniq,cg⟩
theorem WN:Sd 304 pf304:=sf (F:=Iz) (ek ⟨yy,f6,qi,YW,f8,ge,trivial⟩) Tryz.func304 λ a=>by kernel_rfl
def IA:=fe [] []
def pf305:PF:=⟨[],[q4],.uniq,g8⟩
theorem WO:Sd 305 pf305:=sf (F:=IA) (ek trivial) Tryz.func305 λ a=>by kernel_rfl
def Yx:=fe [(304,pf304),(149,pf149),(305,pf305),(38,pf38),(47,yu),(115,Mi),(57,Mm),(251,Lq),(239,Lp),(78,aP)] [(17,[.slot 8 .i64 (.imm false),.slot 9 .i64 (.imm false)])]
def pf265:PF:=⟨[(.ptr,q6),R q3],[q2],.uniq,qT⟩
def eh:Code:=match Tryz.f265.body with|some b=>b|none=>.skip
def nj:Code:=LJ eh
def nk:Code:=LJ (Ju eh)
def nl:Code:=LJ (Ju (Ju eh))
def nq:Code:=Ju (Ju (Ju eh))
def nn:Code:=LJ (LJ nq)
def ni:Code:=Ju (LJ nq)
def NU:Code:=Ju nq
def nh:Code:=tL ni
def To:Code:=LJ nh
def np:Code:=LJ (Ju nh)
def vv:Code:=tL (Ju (Ju nh))
def nr (a:zW pf265.params) (r0:zN pf304.params pf304.rets) (r1:zN pf149.params pf149.rets):St:=rn (fe [(304,oP pf304 r0),(149,oP pf149 r1)] []) (.seq nj (.seq nk (.seq nl nn))) (en Tryz.f265 pf265.params a)
def vw (a:zW pf265.params) (r0:zN pf304.params pf304.rets) (r1:zN pf149.params pf149.rets) (r2:zN pf305.params pf305.rets):St:=rgo (fe [(305,oP pf305 r2)] []) np 0 5 (rn (fe [(305,oP pf305 r2)] []) To (nr a r0 r1))
def vx (a:zW pf265.params) (r0:zN pf304.params pf304.rets) (r1:zN pf149.params pf149.rets) (r2:zN pf305.params pf305.rets):St:=rgo (fe [] []) np 5 8 ((vw a r0 r1 r2).put (some 35) (.v (.one (.b false))))
def ei (a:zW pf265.params) (r0:zN pf304.params pf304.rets) (r1:zN pf149.params pf149.rets) (r2:zN pf305.params pf305.rets) (r3:zN pf38.params pf38.rets):St:=rgo (fe [(38,oP pf38 r3)] []) np 5 8 ((vw a r0 r1 r2).put (some 35) (.v (.one (.b true))))
theorem Ts (rest:Code) (a:zW pf265.params) {β:Type} (k:X->St->Option β):jv Yx (.seq nj (.seq nk (.seq nl (.seq (.seq nn ni) rest)))) (en Tryz.f265 pf265.params a) k=((cg (a.1,(a.2.1,()))).bind λ r0=>((Y4 (a.2.1.1,(r0.2.1.2.2.2.1,()))).bind λ r1=>(bif (!r1.1) then ((g8 ()).bind λ r2=>(bif (decide ((((List.length a.2.1.2.2.1):Nat):Int)>0)) then ((ZD ((a.1.1,r0.1.2),(2,()))).bind λ r3=>(bif r3.2.1 then (jv Yx (.seq vv rest) (ei a r0 r1 r2 r3) k) else (jv Yx rest (ei a r0 r1 r2 r3) k))) else (jv Yx rest (vx a r0 r1 r2) k))) else (jv Yx rest (nr a r0 r1) k)))):=by kernel_rfl
theorem Tp (a:zW pf265.params) (r0:zN pf304.params pf304.rets) (r1:zN pf149.params pf149.rets) (r2:zN pf305.params pf305.rets) (r3:zN pf38.params pf38.rets):Qt Yx Tryz.f265 pf265.params pf265.rets pf265.rk a (.seq vv NU) (ei a r0 r1 r2 r3)=((zl ((a.1.1,r3.1.2),((((List.length a.2.1.2.2.1):Nat):Int),()))).bind λ r4=>(if ((0<=r4.2.1)/\(r4.2.1<(((List.length a.2.1.2.2.1):Nat):Int))) then ((Jt ((rd (.pair .i64 (.pair .i64 (.pair .i64 (.pair (.pair .i64 (.pair .i64 (.pair aX .str))) (.pair (.sl 0 q5) (.pair (.sl 0 aX) (.pair (.pair (.sl 0 .u8) .i64) (.sl 0 (.pair .i64 (.pair .i64 (.pair .i64 (.pair (.pair .str aX) (.pair aX (.pair aX (.pair .i64 q5))))))))))))))) a.2.1.2.2.1 (Int.toNat r4.2.1)).2.2.2.1.2.2.1,())).bind λ r5=>(sh (a,(r0,(r4,r5))))) else none)):=by kernel_rfl
theorem Tn (a:zW pf265.params) (r0:zN pf304.params pf304.rets) (r1:zN pf149.params pf149.rets) (r2:zN pf305.params pf305.rets) (r3:zN pf38.params pf38.rets):Qt Yx Tryz.f265 pf265.params pf265.rets pf265.rk a NU (ei a r0 r1 r2 r3)=sg (a,(r0,(r2,r3))):=by kernel_rfl
theorem Tq (a:zW pf265.params) (r0:zN pf304.params pf304.rets) (r1:zN pf149.params pf149.rets) (r2:zN pf305.params pf305.rets):Qt Yx Tryz.f265 pf265.params pf265.rets pf265.rk a NU (vx a r0 r1 r2)=sn (a,(r0,r2)):=by kernel_rfl
theorem Tm (a:zW pf265.params) (r0:zN pf304.params pf304.rets) (r1:zN pf149.params pf149.rets):Qt Yx Tryz.f265 pf265.params pf265.rets pf265.rk a NU (nr a r0 r1)=se (a,r0):=by kernel_rfl
theorem Tr (a:zW pf265.params):Qu Yx Tryz.f265 pf265.params pf265.rets pf265.rk a=Qt Yx Tryz.f265 pf265.params pf265.rets pf265.rk a (.seq nj (.seq nk (.seq nl (.seq (.seq nn ni) NU)))) (en Tryz.f265 pf265.params a):=by kernel_rfl
theorem Wl:Sd 265 pf265:=sf (F:=Yx) (ek ⟨WN,Lv,WO,YW,yy,qd,qi,Mx,Mw,gt,trivial⟩) Tryz.func265 λ a=>(Tr a).trans ((Ts NU a _).trans (bc λ r0=>bc λ r1=>cc (bc λ r2=>cc (bc λ r3=>cc (Tp a r0 r1 r2 r3) (Tn a r0 r1 r2 r3)) (Tq a r0 r1 r2)) (Tm a r0 r1)))
def FS:=fe [(58,JR),(47,yu),(263,fz),(264,Z2),(38,pf38),(104,YR),(239,Lp),(265,pf265),(57,Mm)] [(8,[.slot 7 .i64 (.imm false),.box 7 q9 (.own true)]),(19,[.slot 10 .i64 (.imm false),.box 7 q9 (.own true)])]
def xg:PF:=⟨[(.ptr,q6),R q3],[q9],.uniq,kS⟩
theorem VM:Sd 187 xg:=sf (F:=FS) (ek ⟨KC,yy,rm,Yl,YW,Jp,Mw,Wl,qi,trivial⟩) Tryz.func187 λ a=>by kernel_rfl
def I0:=fe [(115,Mi)] []
def aK:PF:=⟨[R q7],[q7],.uniq,MR⟩
theorem gk:Sd 39 aK:=sf (F:=I0) (ek ⟨qd,trivial⟩) Tryz.func39 λ a=>by kernel_rfl
def EO:=fe [(200,N2)] [(3,[.slot 3 (.sl 62 q4) (.own true),.slot 4 .i64 (.imm false)])]
def n9:PF:=⟨[R (.sl 62 q4)],[(.sl 62 q4)],.uniq,J2⟩
theorem BF:Sd 122 n9:=sf (F:=EO) (ek ⟨bk,trivial⟩) Tryz.func122 λ a=>by kernel_rfl
def EP:=fe [] []
def aq:PF:=⟨[R Zf],[Zf],.uniq,KO⟩
theorem fX:Sd 123 aq:=sf (F:=EP) (ek trivial) Tryz.func123 λ a=>by kernel_rfl
def G8:=fe [(115,Mi)] []
def xY:PF:=⟨[R (.pair .str q4)],[(.pair .str q4)],.uniq,lm⟩
theorem Wq:Sd 274 xY:=sf (F:=G8) (ek ⟨qd,trivial⟩) Tryz.func274 λ a=>by kernel_rfl
def Gm:=fe [(274,xY),(200,N2),(115,Mi)] []
def oH:PF:=⟨[R q2],[q2],.uniq,bZ⟩
theorem B1:Sd 219 oH:=sf (F:=Gm) (ek ⟨Wq,bk,qd,trivial⟩) Tryz.func219 λ a=>by kernel_rfl
def EQ:=fe [(219,oH)] [(3,[.slot 3 Ky (.own true),.slot 4 .i64 (.imm false)])]
def oa:PF:=⟨[R Ky],[Ky],.uniq,b8⟩
theorem BG:Sd 124 oa:=sf (F:=EQ) (ek ⟨B1,trivial⟩) Tryz.func124 λ a=>by kernel_rfl
def I5:=fe [(39,aK),(122,n9),(123,aq),(124,oa)] []
def Ze:PF:=⟨[R q1],[q1],.uniq,yw⟩
theorem Zy:Sd 44 Ze:=sf (F:=I5) (ek ⟨gk,BF,fX,BG,trivial⟩) Tryz.func44 λ a=>by kernel_rfl
def FH:=fe [(115,Mi)] []
def w9:PF:=⟨[R q4,R q4],[q4],.uniq,g9⟩
theorem VG:Sd 176 w9:=sf (F:=FH) (ek ⟨qd,trivial⟩) Tryz.func176 λ a=>by kernel_rfl
def FI:=fe [(140,au),(175,aA)] []
def xa:PF:=⟨[R .str],[.str,.bool],.uniq,kj⟩
theorem VH:Sd 177 xa:=sf (F:=FI) (ek ⟨fY,f8,trivial⟩) Tryz.func177 λ a=>by kernel_rfl
def FJ:=fe [(150,Ku)] []
def xc:PF:=⟨[R .str,R .str],[.bool],.uniq,gN⟩
theorem VI:Sd 178 xc:=sf (F:=FJ) (ek ⟨Lw,trivial⟩) Tryz.func178 λ a=>by kernel_rfl
def OJ:=fe [(39,aK),(72,Mn),(149,pf149),(176,w9),(175,aA),(87,Yh),(58,JR),(177,xa),(178,xc)] []
def aR:PF:=⟨[R (.pair .i64 .i64),R q7,R q4],[q7],.uniq,MM⟩
theorem gv:Sd 86 aR:=sf (F:=OJ) (ek ⟨gk,qj,Lv,VG,f8,YX,KC,VH,VI,trivial⟩) Tryz.func86 λ a=>by kernel_rfl
def OL:=fe [(72,Mn),(85,aQ),(87,Yh)] []
def pd:PF:=⟨[R (.pair .i64 .i64),R q7,R (.pair .str q4)],[.bool],.uniq,bD⟩
theorem Ct:Sd 88 pd:=sf (F:=OL) (ek ⟨qj,gu,YX,trivial⟩) Tryz.func88 λ a=>by kernel_rfl
def OM:=fe [(39,aK),(88,pd),(87,Yh)] []
def pg:PF:=⟨[R (.pair .i64 .i64),R q7,R (.pair .str q4)],[q7,.bool],.uniq,qM⟩
theorem Cu:Sd 89 pg:=sf (F:=OM) (ek ⟨gk,Ct,YX,trivial⟩) Tryz.func89 λ a=>by kernel_rfl
def I7:=fe [(131,eV)] []
def o0:PF:=⟨[R q7,R q7],[.bool],.uniq,bK⟩
theorem s51:Sd 51 o0:=sf (F:=I7) (ek ⟨pQ,trivial⟩) Tryz.func51 λ a=>by kernel_rfl
def Gq:=fe [(71,jK)] [(4,[.slot 0 .i64 (.imm false),.slot 3 (.sl 5 .u8) (.own true)])]
def Lo:PF:=⟨[R .i64],[(.sl 5 .u8)],.uniq,Zj⟩
theorem Mv:Sd 221 Lo:=sf (F:=Gq) (ek ⟨jP,trivial⟩) Tryz.func221 λ a=>by kernel_rfl
def Ia:=fe [(221,Lo)] []
def fA:PF:=⟨[R .str],[(.sl 5 .u8)],.uniq,MK⟩
theorem ro:Sd 276 fA:=sf (F:=Ia) (ek ⟨Mv,trivial⟩) Tryz.func276 λ a=>by kernel_rfl
def G9:=fe [(149,pf149),(221,Lo),(276,fA)] [(6,[.slot 5 (.sl 5 .u8) (.own true),.slot 6 .i64 (.imm false)])]
def oQ:PF:=⟨[R (.pair .i64 .i64),R q4],[(.sl 5 .u8)],.uniq,qB⟩
theorem B9:Sd 275 oQ:=sf (F:=G9) (ek ⟨Lv,Mv,ro,trivial⟩) Tryz.func275 λ a=>by kernel_rfl
def Gp:=fe [(72,Mn),(221,Lo),(275,oQ),(276,fA)] []
def xw:PF:=⟨[R (.pair .i64 .i64),R q7],[(.sl 5 .u8)],.uniq,kc⟩
theorem VW:Sd 220 xw:=sf (F:=Gp) (ek ⟨qj,Mv,B9,ro,trivial⟩) Tryz.func220 λ a=>by kernel_rfl
def ES:=fe [(220,xw),(221,Lo)] []
def wH:PF:=⟨[R (.pair .i64 .i64),R q7],[(.sl 5 .u8)],.uniq,gW⟩
theorem Vj:Sd 126 wH:=sf (F:=ES) (ek ⟨VW,Mv,trivial⟩) Tryz.func126 λ a=>by kernel_rfl
def ER:=fe [(123,aq),(75,aN)] []
def wG:PF:=⟨[R Zf,R (.sl 5 .u8)],[Zf,.bool],.uniq,gG⟩
theorem Vi:Sd 125 wG:=sf (F:=ER) (ek ⟨fX,gq,trivial⟩) Tryz.func125 λ a=>by kernel_rfl
def sW:=fe [(51,o0),(126,wH),(125,wG),(72,Mn),(39,aK)] []
def pf45:PF:=⟨[R (.pair .i64 .i64),(.own,q1),R q7],[q1,.bool],.own,Yt⟩
theorem Re (a:zW pf45.params):cU sW Tryz.f45 pf45.params pf45.rets pf45.rk a=pf45.fn a:=by kernel_rfl
theorem ru:J9 Tryz.prog GLB 45 pf45:=CY (F:=sW) (ek ⟨s51,Vj,Vi,qj,gk,trivial⟩) Tryz.func45 (by kernel_rfl) (by rfl) (λ a o h=>(Re a).trans h)
def Ik:=fe [(270,aF)] [(3,[.slot 5 (.sl 3 .i64) (.own true),.slot 6 .i64 (.imm false)]),(7,[.slot 5 (.sl 3 .i64) (.own true),.slot 7 .i64 (.imm false)])]
def Ah:PF:=⟨[R (.sl 3 .i64),R (.sl 3 .i64)],[(.sl 3 .i64)],.uniq,kh⟩
theorem Wz:Sd 288 Ah:=sf (F:=Ik) (ek ⟨ge,trivial⟩) Tryz.func288 λ a=>by kernel_rfl
def GO:=fe [(288,Ah)] []
def xL:PF:=⟨[R q4,R q4],[q4,.bool],.uniq,gX⟩
theorem Wc:Sd 249 xL:=sf (F:=GO) (ek ⟨Wz,trivial⟩) Tryz.func249 λ a=>by kernel_rfl
def FK:=fe [(200,N2),(154,og),(249,xL),(74,pb),(153,ax),(122,n9)] [(4,[.slot 8 (.sl 62 q4) (.own true),.slot 9 .bool (.imm false),.slot 10 .i64 (.imm false)])]
def N1:PF:=⟨[R (.pair .i64 .i64),R (.sl 62 q4),R q4],[(.sl 62 q4),.bool],.uniq,LE⟩
theorem bj:Sd 179 N1:=sf (F:=FK) (ek ⟨bk,BK,Wc,Cr,f0,BF,trivial⟩) Tryz.func179 λ a=>by kernel_rfl
def Il:=fe [(149,pf149)] []
def Ai:PF:=⟨[R (.pair .i64 .i64),R q4],[q4,.bool],.uniq,gY⟩
theorem WA:Sd 289 Ai:=sf (F:=Il) (ek ⟨Lv,trivial⟩) Tryz.func289 λ a=>by kernel_rfl
def GU:=fe [(76,Mo),(71,jK),(219,oH)] []
def aE:PF:=⟨[R (.pair .i64 .i64),(.own,q1),R .i64,R q2],[q1,.bool],.own,KP⟩
theorem gd:Sd 255 aE:=sf (F:=GU) (ek ⟨qk,jP,B1,trivial⟩) Tryz.func255 λ a=>by kernel_rfl
def GR:yZ:=⟨⟨TYS,[(289,Ai),(86,aR),(58,JR),(251,Lq),(255,aE)],EQS,[],[],false,[(45,pf45)],[],[],false,[]⟩,[]⟩
def xM:PF:=⟨[R (.pair .i64 .i64),(.own,q1),R q4],[q1,.bool],.own,kK⟩
theorem Wd:Sd 252 xM:=sf (F:=GR) (K8 ⟨WA,gv,KC,Mx,gd,trivial⟩ trivial trivial ru trivial trivial) Tryz.func252 λ a=>by kernel_rfl
def In:=fe [(70,Z3),(71,jK)] []
def fB:PF:=⟨[R (.pair .i64 .i64),R .i64,R .i64],[.i64],.uniq,qF⟩
theorem rq:Sd 290 fB:=sf (F:=In) (ek ⟨Ym,jP,trivial⟩) Tryz.func290 λ a=>by kernel_rfl
def Iq:=fe [(70,Z3),(71,jK)] []
def Al:PF:=⟨[R (.pair .i64 .i64),R .i64,R .i64],[.i64],.uniq,kl⟩
theorem WE:Sd 293 Al:=sf (F:=Iq) (ek ⟨Ym,jP,trivial⟩) Tryz.func293 λ a=>by kernel_rfl
def GV:=fe [(290,fB),(293,Al)] []
def oN:PF:=⟨[R (.pair .i64 .i64),R .i64,R .i64],[.i64],.uniq,qL⟩
theorem B7:Sd 256 oN:=sf (F:=GV) (ek ⟨rq,WE,trivial⟩) Tryz.func256 λ a=>by kernel_rfl
def Io:=fe [(290,fB),(256,oN)] [(2,[.slot 2 .i64 (.imm false),.slot 7 (.sl 3 .i64) (.own true)])]
def Aj:PF:=⟨[R (.pair .i64 .i64),R .i64,R .i64],[(.sl 3 .i64)],.uniq,ks⟩
theorem WC:Sd 291 Aj:=sf (F:=Io) (ek ⟨rq,B7,trivial⟩) Tryz.func291 λ a=>by kernel_rfl
def GS:=fe [(70,Z3),(290,fB),(291,Aj),(264,Z2)] [(5,[.slot 7 (.sl 3 .i64) (.own true),.slot 8 .i64 (.imm false)])]
def xN:PF:=⟨[R (.pair .i64 .i64),R .i64,R .i64],[(.sl 3 .i64)],.uniq,kr⟩
theorem We:Sd 253 xN:=sf (F:=GS) (ek ⟨Ym,rq,WC,Yl,trivial⟩) Tryz.func253 λ a=>by kernel_rfl
def Ip:=fe [] []
def Ak:PF:=⟨[R .bool],[.i64],.uniq,sb⟩
theorem WD:Sd 292 Ak:=sf (F:=Ip) (ek trivial) Tryz.func292 λ a=>by kernel_rfl
def GT:=fe [(264,Z2),(292,Ak)] [(3,[.slot 5 .i64 (.imm false),.slot 6 .i64 (.imm false)])]
def xO:PF:=⟨[R (.sl 3 .i64),R (.sl 3 .i64)],[.i64],.uniq,gK⟩
theorem Wf:Sd 254 xO:=sf (F:=GT) (ek ⟨Yl,WD,trivial⟩) Tryz.func254 λ a=>by kernel_rfl
def FM:=fe [(250,fx),(251,Lq),(252,xM),(253,xN),(254,xO),(256,oN),(255,aE)] []
def e9:PF:=⟨[R (.pair .i64 .i64),(.own,q1),R .i64,R .str,R .bool],[q1,.bool],.own,qS⟩
theorem pX:Sd 180 e9:=sf (F:=FM) (ek ⟨rj,Mx,Wd,We,Wf,B7,gd,trivial⟩) Tryz.func180 λ a=>by kernel_rfl
def ON:=fe [(87,Yh),(179,N1),(44,Ze),(180,e9)] []
def AY:PF:=⟨[R (.pair .i64 .i64),R q1,R .str],[q1,.bool],.shared,MT⟩
theorem s90:Sd 90 AY:=sf (F:=ON) (ek ⟨YX,bj,Zy,pX,trivial⟩) Tryz.func90 λ a=>by kernel_rfl
def Im:yZ:=⟨⟨TYS,[(44,Ze),(22,ZN),(85,aQ),(86,aR),(87,Yh),(88,pd),(89,pg),(90,AY)],EQS,[],[],false,[(45,pf45)],[],[],false,[]⟩,[]⟩
def aG:PF:=⟨[R (.pair .i64 .i64),R q1,R (.pair .str q4)],[q1,.bool],.shared,MG⟩
theorem gg:Sd 29 aG:=sf (F:=Im) (K8 ⟨Zy,Z9,gu,gv,YX,Ct,Cu,s90,trivial⟩ trivial trivial ru trivial trivial) Tryz.func29 λ a=>by kernel_rfl
def F0:=fe [(44,Ze),(22,ZN),(153,ax),(179,N1),(180,e9)] []
def xi:PF:=⟨[R (.pair .i64 .i64),R q1,R q4],[q1,.bool],.own,gQ⟩
theorem VO:Sd 197 xi:=sf (F:=F0) (ek ⟨Zy,Z9,f0,bj,pX,trivial⟩) Tryz.func197 λ a=>by kernel_rfl
def F1:yZ:=⟨⟨TYS,[(44,Ze),(22,ZN),(71,jK),(149,pf149),(86,aR),(251,Lq),(179,N1),(250,fx),(237,fl),(58,JR),(57,Mm)],EQS,[],[],false,[(45,pf45)],[],[],false,[]⟩,[]⟩
def xj:PF:=⟨[R (.pair .i64 .i64),R q1,R .i64,R q4,R .i64],[q1,.bool],.own,gS⟩
theorem VP:Sd 198 xj:=sf (F:=F1) (K8 ⟨Zy,Z9,jP,Lv,gv,Mx,bj,rj,rg,KC,qi,trivial⟩ trivial trivial ru trivial trivial) Tryz.func198 λ a=>by kernel_rfl
def F8:=fe [(152,oe),(73,pa)] [(2,[.slot 6 .i64 (.imm false)])]
def fg:PF:=⟨[R (.sl 64 q5),R q5],[(.sl 64 q5),.bool],.uniq,qA⟩
theorem pZ:Sd 202 fg:=sf (F:=F8) (ek ⟨BJ,Cq,trivial⟩) Tryz.func202 λ a=>by kernel_rfl
def F2:=fe [(44,Ze),(22,ZN),(202,fg)] []
def xk:PF:=⟨[R (.pair .i64 .i64),R q1,R q5],[q1,.bool],.uniq,gR⟩
theorem VQ:Sd 199 xk:=sf (F:=F2) (ek ⟨Zy,Z9,pZ,trivial⟩) Tryz.func199 λ a=>by kernel_rfl
def El:=fe [(29,aG),(197,xi),(198,xj),(199,xk)] []
def wl:PF:=⟨[R (.pair .i64 .i64),R q1,R q2],[q1,.bool],.shared,kL⟩
theorem U0:Sd 100 wl:=sf (F:=El) (ek ⟨gg,VO,VP,VQ,trivial⟩) Tryz.func100 λ a=>by kernel_rfl
def Eu:=fe [(200,N2)] [(3,[.slot 5 (.sl 62 q4) (.own true),.slot 6 .i64 (.imm false)])]
def ww:PF:=⟨[R (.sl 62 q4),R .i64],[(.sl 62 q4)],.uniq,ko⟩
theorem U8:Sd 101 ww:=sf (F:=Eu) (ek ⟨bk,trivial⟩) Tryz.func101 λ a=>by kernel_rfl
def F3:=fe [(22,ZN),(61,o6),(62,o7),(60,o5)] []
def xm:PF:=⟨[R (.pair .i64 .i64),R q1],[q8],.uniq,bO⟩
theorem VR:Sd 20 xm:=sf (F:=F3) (ek ⟨Z9,Cm,Cn,Cl,trivial⟩) Tryz.func20 λ a=>by kernel_rfl
def Ew:=fe [(139,eY)] [(3,[.slot 5 (.sl 64 q5) (.own true),.slot 6 .i64 (.imm false)])]
def wx:PF:=⟨[R (.sl 64 q5),R q8],[(.sl 64 q5)],.uniq,bG⟩
theorem U9:Sd 102 wx:=sf (F:=Ew) (ek ⟨pT,trivial⟩) Tryz.func102 λ a=>by kernel_rfl
def IM:=fe [(22,ZN),(76,Mo),(44,Ze),(100,wl),(101,ww),(20,xm),(102,wx)] []
def aI:PF:=⟨[R (.pair .i64 .i64),R q1,R q2],[q1,.bool],.shared,KH⟩
theorem gi:Sd 33 aI:=sf (F:=IM) (ek ⟨Z9,qk,Zy,U0,U8,VR,U9,trivial⟩) Tryz.func33 λ a=>by kernel_rfl
def It:yZ:=⟨⟨TYS,[(71,jK),(264,Z2),(93,fF),(33,aI)],EQS,[],[],true,[],[],[],false,[]⟩,[]⟩
def Ap:PF:=⟨[(.own,q3),R q9],[q3,.i64],.own,qU⟩
theorem WJ:Sd 299 Ap:=sf (F:=It) (ek ⟨jP,Yl,ry,gi,trivial⟩) Tryz.func299 λ a=>by kernel_rfl
def En:=fe [(71,jK),(264,Z2),(93,fF),(33,aI)] []
def wn:PF:=⟨[R q3,R q9],[q3,.i64],.shared,qV⟩
theorem U2:Sd 299 wn:=sf (F:=En) (ek ⟨jP,Yl,ry,gi,trivial⟩) Tryz.func299 λ a=>by kernel_rfl
def IT:=fe [] [(2,[.slot 9 .i64 (.imm false)])]
def oZ:PF:=⟨[R fI,R .i64,R .str,R .i64],[.bool],.uniq,ca⟩
theorem Ci:Sd 351 oZ:=sf (F:=IT) (ek trivial) Tryz.func351 λ a=>by kernel_rfl
def IN:=fe [(264,Z2),(351,oZ)] [(2,[.slot 11 .i64 (.imm false)])]
def AB:PF:=⟨[R (.sl 3 .i64),R fI,R .i64,R .str,R (.sl 3 .i64)],[.bool],.uniq,qH⟩
theorem WX:Sd 338 AB:=sf (F:=IN) (ek ⟨Yl,Ci,trivial⟩) Tryz.func338 λ a=>by kernel_rfl
def IF:=fe [(76,Mo),(87,Yh),(251,Lq),(264,Z2),(338,AB)] []
def oS:PF:=⟨[R (.pair .i64 .i64),R (.sl 3 .i64),R fI,R q2],[.bool],.uniq,bC⟩
theorem Cb:Sd 322 oS:=sf (F:=IF) (ek ⟨qk,YX,Mx,Yl,WX,trivial⟩) Tryz.func322 λ a=>by kernel_rfl
def IU:=fe [(221,Lo)] [(3,[.slot 3 (.sl 5 .u8) (.own true),.slot 4 .i64 (.imm false)])]
def AE:PF:=⟨[R (.sl 3 .i64)],[(.sl 5 .u8)],.uniq,qR⟩
theorem W3:Sd 352 AE:=sf (F:=IU) (ek ⟨Mv,trivial⟩) Tryz.func352 λ a=>by kernel_rfl
def IO:=fe [(76,Mo),(221,Lo),(276,fA),(275,oQ),(352,AE)] []
def AC:PF:=⟨[R (.pair .i64 .i64),R q2],[(.sl 5 .u8)],.uniq,gV⟩
theorem WY:Sd 339 AC:=sf (F:=IO) (ek ⟨qk,Mv,ro,B9,W3,trivial⟩) Tryz.func339 λ a=>by kernel_rfl
def IG:=fe [(339,AC),(71,jK)] [(2,[.slot 5 .i64 (.imm false),.box 5 q3 (.own false)])]
def aH:PF:=⟨[(.own,q3),R Ky],[q3],.own,cd⟩
theorem gh:Sd 323 aH:=sf (F:=IG) (ek ⟨WY,jP,trivial⟩) Tryz.func323 λ a=>by kernel_rfl
def Iv:=fe [(71,jK),(322,oS),(323,aH)] []
def Aq:PF:=⟨[(.own,q3),R q9],[q3,.i64],.own,kV⟩
theorem WK:Sd 300 Aq:=sf (F:=Iv) (ek ⟨jP,Cb,gh,trivial⟩) Tryz.func300 λ a=>by kernel_rfl
def Eo:=fe [(71,jK),(322,oS),(323,aH)] []
def wo:PF:=⟨[R q3,R q9],[q3,.i64],.shared,kW⟩
theorem U3:Sd 300 wo:=sf (F:=Eo) (ek ⟨jP,Cb,gh,trivial⟩) Tryz.func300 λ a=>by kernel_rfl
def Iw:=fe [(264,Z2)] [(3,[.slot 3 (.sl 3 .i64) (.own true),.slot 4 .i64 (.imm false)])]
def fC:PF:=⟨[R q3],[(.sl 3 .i64)],.uniq,qu⟩
theorem rt:Sd 301 fC:=sf (F:=Iw) (ek ⟨Yl,trivial⟩) Tryz.func301 λ a=>by kernel_rfl
def IP:=fe [(44,Ze),(22,ZN),(255,aE)] [(5,[.slot 9 .i64 (.imm false),.box 11 q1 (.own true),.box 17 q1 (.own false)])]
def oV:PF:=⟨[R (.pair .i64 .i64),R q1,R q2],[q1,.bool],.own,bR⟩
theorem Ce:Sd 340 oV:=sf (F:=IP) (ek ⟨Zy,Z9,gd,trivial⟩) Tryz.func340 λ a=>by kernel_rfl
def IH:=fe [(263,fz),(44,Ze),(340,oV),(29,aG)] []
def Ay:PF:=⟨[(.own,q3),R .i64],[q3,.i64],.own,kQ⟩
theorem WU:Sd 324 Ay:=sf (F:=IH) (ek ⟨rm,Zy,Ce,gg,trivial⟩) Tryz.func324 λ a=>by kernel_rfl
def Er:=fe [(263,fz),(44,Ze),(340,oV),(29,aG)] []
def wt:PF:=⟨[R q3,R .i64],[q3,.i64],.shared,kR⟩
theorem U5:Sd 324 wt:=sf (F:=Er) (ek ⟨rm,Zy,Ce,gg,trivial⟩) Tryz.func324 λ a=>by kernel_rfl
def IV:=fe [(123,aq),(75,aN)] []
def AF:PF:=⟨[R Zf],[Zf],.uniq,kn⟩
theorem W4:Sd 353 AF:=sf (F:=IV) (ek ⟨fX,gq,trivial⟩) Tryz.func353 λ a=>by kernel_rfl
def IQ:=fe [(44,Ze),(22,ZN),(353,AF),(124,oa)] []
def oW:PF:=⟨[R (.pair .i64 .i64),R q1],[q1,Ky],.uniq,bP⟩
theorem Cf:Sd 341 oW:=sf (F:=IQ) (ek ⟨Zy,Z9,W4,BG,trivial⟩) Tryz.func341 λ a=>by kernel_rfl
def IW:=fe [(44,Ze)] [(3,[.slot 4 .i64 (.imm false),.box 10 q3 (.own true)]),(7,[.slot 5 .i64 (.imm false),.box 10 q3 (.own true)])]
def AG:PF:=⟨[R q3],[q3],.uniq,kM⟩
theorem W5:Sd 354 AG:=sf (F:=IW) (ek ⟨Zy,trivial⟩) Tryz.func354 λ a=>by kernel_rfl
def IX:=fe [(264,Z2)] []
def AH:PF:=⟨[R .i64,R q2],[fI],.uniq,kf⟩
theorem W6:Sd 355 AH:=sf (F:=IX) (ek ⟨Yl,trivial⟩) Tryz.func355 λ a=>by kernel_rfl
def IR:=fe [(354,AG),(301,fC),(264,Z2),(355,AH),(351,oZ)] [(5,[.slot 8 .i64 (.imm false),.box 11 q3 (.own true)]),(9,[.slot 10 .i64 (.imm false),.box 11 q3 (.own true)])]
def oX:PF:=⟨[R q3,R .i64,R Ky],[q3],.uniq,gU⟩
theorem Cg:Sd 342 oX:=sf (F:=IR) (ek ⟨W5,rt,Yl,W6,Ci,trivial⟩) Tryz.func342 λ a=>by kernel_rfl
def II:=fe [(341,oW),(342,oX),(323,aH)] []
def Az:PF:=⟨[(.own,q3),R .i64],[q3,.i64],.own,lg⟩
theorem WV:Sd 325 Az:=sf (F:=II) (ek ⟨Cf,Cg,gh,trivial⟩) Tryz.func325 λ a=>by kernel_rfl
def Es:=fe [(341,oW),(342,oX),(323,aH)] []
def wu:PF:=⟨[R q3,R .i64],[q3,.i64],.shared,lh⟩
theorem U6:Sd 325 wu:=sf (F:=Es) (ek ⟨Cf,Cg,gh,trivial⟩) Tryz.func325 λ a=>by kernel_rfl
def IS:=fe [(22,ZN),(44,Ze),(180,e9)] []
def oY:PF:=⟨[R (.pair .i64 .i64),R q1,R .i64,R .str,R .bool],[q1,.bool],.own,bz⟩
theorem Ch:Sd 343 oY:=sf (F:=IS) (ek ⟨Z9,Zy,pX,trivial⟩) Tryz.func343 λ a=>by kernel_rfl
def IJ:=fe [(343,oY)] [(3,[.slot 7 .i64 (.imm false),.box 4 q3 (.own false),.box 5 q3 (.own true)])]
def AA:PF:=⟨[(.own,q3),R .i64],[q3,.i64],.own,ld⟩
theorem WW:Sd 326 AA:=sf (F:=IJ) (ek ⟨Ch,trivial⟩) Tryz.func326 λ a=>by kernel_rfl
def Et:=fe [(343,oY)] [(3,[.slot 7 .i64 (.imm false),.box 4 q3 (.imm false),.box 5 q3 (.own true)])]
def wv:PF:=⟨[R q3,R .i64],[q3,.i64],.shared,lf⟩
theorem U7:Sd 326 wv:=sf (F:=Et) (ek ⟨Ch,trivial⟩) Tryz.func326 λ a=>by kernel_rfl
def IK:=fe [(123,aq),(75,aN),(57,Mm),(58,JR)] []
def oT:PF:=⟨[R Zf,R .i64],[Zf],.uniq,bA⟩
theorem Cc:Sd 327 oT:=sf (F:=IK) (ek ⟨fX,gq,qi,KC,trivial⟩) Tryz.func327 λ a=>by kernel_rfl
def EZ:=fe [] []
def oc:PF:=⟨[],[q7],.uniq,bJ⟩
theorem BH:Sd 135 oc:=sf (F:=EZ) (ek trivial) Tryz.func135 λ a=>by kernel_rfl
def E4:=fe [(188,aB),(190,oz),(189,fc),(72,Mn)] []
def wM:PF:=⟨[R (.pair .i64 .i64),R (.sl 5 .u8)],[q7,.bool],.uniq,ke⟩
theorem Vo:Sd 137 wM:=sf (F:=E4) (ek ⟨f9,BT,pY,qj,trivial⟩) Tryz.func137 λ a=>by kernel_rfl
def Oc:=fe [(135,oc),(136,eW),(137,wM)] [(3,[.slot 7 .i64 (.imm false),.box 2 q7 (.own true),.box 4 q7 (.own true)])]
def AO:PF:=⟨[R (.pair .i64 .i64),R (.sl 5 .u8)],[q7,.i64],.uniq,gT⟩
theorem s56:Sd 56 AO:=sf (F:=Oc) (ek ⟨BH,pR,Vo,trivial⟩) Tryz.func56 λ a=>by kernel_rfl
def FL:=fe [(22,ZN),(44,Ze),(56,AO),(58,JR),(57,Mm)] []
def ot:PF:=⟨[R (.pair .i64 .i64),R q1],[q1],.uniq,bI⟩
theorem BP:Sd 18 ot:=sf (F:=FL) (ek ⟨Z9,Zy,s56,KC,qi,trivial⟩) Tryz.func18 λ a=>by kernel_rfl
def IL:=fe [(44,Ze),(22,ZN),(251,Lq),(179,N1),(255,aE)] []
def oU:PF:=⟨[R (.pair .i64 .i64),R q1],[q1,.bool],.own,MH⟩
theorem Cd:Sd 328 oU:=sf (F:=IL) (ek ⟨Zy,Z9,Mx,bj,gd,trivial⟩) Tryz.func328 λ a=>by kernel_rfl
def Ix:=fe [(324,Ay),(325,Az),(326,AA),(44,Ze),(327,oT),(18,ot),(328,oU),(33,aI)] []
def Ar:PF:=⟨[(.own,q3),R q9],[q3,.i64],.own,kY⟩
theorem WL:Sd 302 Ar:=sf (F:=Ix) (ek ⟨WU,WV,WW,Zy,Cc,BP,Cd,gi,trivial⟩) Tryz.func302 λ a=>by kernel_rfl
def Ep:=fe [(324,wt),(325,wu),(326,wv),(44,Ze),(327,oT),(18,ot),(328,oU),(33,aI)] []
def wq:PF:=⟨[R q3,R q9],[q3,.i64],.shared,kZ⟩
theorem U4:Sd 302 wq:=sf (F:=Ep) (ek ⟨U5,U6,U7,Zy,Cc,BP,Cd,gi,trivial⟩) Tryz.func302 λ a=>by kernel_rfl
def G0:=fe [(299,Ap),(300,Aq),(301,fC),(264,Z2),(302,Ar)] []
def xT:PF:=⟨[(.own,q3),R q9],[q3,.i64],.own,kX⟩
theorem Wk:Sd 262 xT:=sf (F:=G0) (ek ⟨WJ,WK,rt,Yl,WL,trivial⟩) Tryz.func262 λ a=>by kernel_rfl
def Em:=fe [(299,wn),(300,wo),(301,fC),(264,Z2),(302,wq)] []
def wm:PF:=⟨[R q3,R q9],[q3,.i64],.shared,ci⟩
theorem U1:Sd 262 wm:=sf (F:=Em) (ek ⟨U2,U3,rt,Yl,U4,trivial⟩) Tryz.func262 λ a=>by kernel_rfl
def FR:yZ:=⟨⟨TYS,[(262,xT)],EQS,[],[],false,[],[],[(262,wm)],false,[]⟩,[]⟩
def xf:PF:=⟨[(.own,q3),R q9],[q3],.own,lc⟩
theorem VL:Sd 186 xf:=sf (F:=FR) (K8 ⟨Wk,trivial⟩ trivial trivial trivial trivial ⟨U1,trivial⟩) Tryz.func186 λ a=>by kernel_rfl
def OP:=fe [(185,xe),(47,yu),(187,xg),(186,xf)] [(4,[.slot 5 .i64 (.imm false),.keep 0 q6 [2,0,0],.box 7 q3 (.own false)])]
def AZ:PF:=⟨[(.ptr,q6)],[q3],.own,kT⟩
theorem Xm:Sd 92 AZ:=sf (F:=OP) (ek ⟨VK,yy,VM,VL,trivial⟩) Tryz.func92 λ a=>by kernel_rfl
def Ex:=fe [(92,AZ),(47,yu)] []
def wy:PF:=⟨[(.ptr,q6)],[(.pair .i64 .i64),q1],.shared,kI⟩
theorem Va:Sd 103 wy:=sf (F:=Ex) (ek ⟨Xm,yy,trivial⟩) Tryz.func103 λ a=>by kernel_rfl
def Gf:=fe [(47,yu),(239,Lp),(157,ay)] [(4,[.slot 3 .str (.imm false),.slot 4 .i64 (.imm false),.slot 5 .i64 (.imm false),.keep 0 q6 [2,0,0]]),(9,[.slot 6 (.sl 64 q5) (.own true),.slot 7 .i64 (.imm false),.keep 0 q6 [2,0,0]])]
def N3:PF:=⟨[(.ptr,q6)],[.str],.uniq,LI⟩
theorem bl:Sd 212 N3:=sf (F:=Gf) (ek ⟨yy,Mw,f6,trivial⟩) Tryz.func212 λ a=>by kernel_rfl
def Gg:yZ:=⟨⟨TYS,[(87,Yh),(38,pf38),(47,yu)],EQS,[],[],true,[],[],[],false,[]⟩,[(5,[.slot 8 .i64 (.imm false),.box 4 q4 (.own true)])]⟩
def fi:PF:=⟨[(.ptr,q6),R (.pair .i64 .i64),R .str],[q4],.uniq,qW⟩
theorem rb:Sd 213 fi:=sf (F:=Gg) (ek ⟨YX,YW,yy,trivial⟩) Tryz.func213 λ a=>by kernel_rfl
def Fq:=fe [(212,N3),(213,fi),(47,yu),(239,Lp),(78,aP)] [(4,[.slot 6 (.sl 64 q5) (.own true),.slot 7 .i64 (.imm false),.keep 0 q6 [2,0,0]])]
def e7:PF:=⟨[(.ptr,q6),R (.pair .i64 .i64)],[(.pair .str q4)],.uniq,qX⟩
theorem pV:Sd 158 e7:=sf (F:=Fq) (ek ⟨bl,rb,yy,Mw,gt,trivial⟩) Tryz.func158 λ a=>by kernel_rfl
def EI:=fe [(135,oc),(47,yu),(158,e7),(86,aR),(38,pf38),(89,pg)] [(3,[.slot 6 .i64 (.imm false),.keep 0 q6 [2,0,0],.box 5 q7 (.own true)])]
def wE:PF:=⟨[(.ptr,q6),R (.pair .i64 .i64)],[q7],.uniq,ky⟩
theorem Vg:Sd 116 wE:=sf (F:=EI) (ek ⟨BH,yy,pV,gv,YW,Cu,trivial⟩) Tryz.func116 λ a=>by kernel_rfl
def G7:=fe [(47,yu)] []
def xX:PF:=⟨[(.ptr,q6),R (.sl 9 .str)],[.str],.uniq,kP⟩
theorem Wp:Sd 273 xX:=sf (F:=G7) (ek ⟨yy,trivial⟩) Tryz.func273 λ a=>by kernel_rfl
def Ge:=fe [(47,yu),(273,xX)] []
def xt:PF:=⟨[(.ptr,q6),R .str],[.str],.uniq,li⟩
theorem VU:Sd 211 xt:=sf (F:=Ge) (ek ⟨yy,Wp,trivial⟩) Tryz.func211 λ a=>by kernel_rfl
def EJ:=fe [(38,pf38),(47,yu),(210,aD),(212,N3),(211,xt)] [(4,[.slot 3 .str (.imm false),.slot 4 .i64 (.imm false),.keep 0 q6 [2,0,0]])]
def am:PF:=⟨[(.ptr,q6)],[.str],.uniq,MV⟩
theorem fV:Sd 117 am:=sf (F:=EJ) (ek ⟨YW,yy,gc,bl,VU,trivial⟩) Tryz.func117 λ a=>by kernel_rfl
def Gh:=fe [(47,yu),(270,aF),(38,pf38),(104,YR)] [(3,[.slot 5 (.sl 3 .i64) (.own true),.slot 6 .i64 (.imm false),.keep 0 q6 [2,0,0]])]
def oE:PF:=⟨[(.ptr,q6),R .i64],[(.sl 3 .i64)],.uniq,cl⟩
theorem BY:Sd 214 oE:=sf (F:=Gh) (ek ⟨yy,ge,YW,Jp,trivial⟩) Tryz.func214 λ a=>by kernel_rfl
def EK:=fe [(212,N3),(213,fi),(47,yu),(214,oE),(117,am)] []
def n8:PF:=⟨[(.ptr,q6),R (.pair .i64 .i64)],[q4],.uniq,cm⟩
theorem BE:Sd 118 n8:=sf (F:=EK) (ek ⟨bl,rb,yy,BY,fV,trivial⟩) Tryz.func118 λ a=>by kernel_rfl
def I1:=fe [(116,wE),(47,yu),(104,YR),(117,am),(118,n8)] []
def AI:PF:=⟨[(.ptr,q6),R (.pair .i64 .i64)],[q7],.uniq,kx⟩
theorem s40:Sd 40 AI:=sf (F:=I1) (ek ⟨Vg,yy,Jp,fV,BE,trivial⟩) Tryz.func40 λ a=>by kernel_rfl
def F7:=fe [(47,yu),(239,Lp),(202,fg)] [(3,[.slot 3 (.sl 64 q5) (.own true),.slot 4 .i64 (.imm false),.keep 0 q6 [2,0,0]])]
def xn:PF:=⟨[(.ptr,q6)],[(.sl 64 q5)],.uniq,ll⟩
theorem VS:Sd 201 xn:=sf (F:=F7) (ek ⟨yy,Mw,pZ,trivial⟩) Tryz.func201 λ a=>by kernel_rfl
def FZ:=fe [(239,Lp),(47,yu),(104,YR)] []
def oC:PF:=⟨[(.ptr,q6)],[q5],.uniq,cj⟩
theorem BW:Sd 194 oC:=sf (F:=FZ) (ek ⟨Mw,yy,Jp,trivial⟩) Tryz.func194 λ a=>by kernel_rfl
def Ez:=fe [(201,xn),(47,yu),(194,oC),(202,fg)] [(7,[.slot 3 (.sl 64 q5) (.own true),.slot 4 .i64 (.imm false)]),(10,[.slot 3 (.sl 64 q5) (.own true),.slot 5 .i64 (.imm false)])]
def wz:PF:=⟨[(.ptr,q6)],[(.sl 64 q5)],.uniq,lj⟩
theorem Vb:Sd 105 wz:=sf (F:=Ez) (ek ⟨VS,yy,BW,pZ,trivial⟩) Tryz.func105 λ a=>by kernel_rfl
def F9:=fe [(212,N3),(87,Yh),(38,pf38),(47,yu),(58,JR),(270,aF)] [(6,[.slot 7 .i64 (.imm false),.keep 0 q6 [2,0,0],.box 4 q4 (.own true)])]
def fh:PF:=⟨[(.ptr,q6),R (.pair .i64 .i64)],[q4],.uniq,qO⟩
theorem ra:Sd 203 fh:=sf (F:=F9) (ek ⟨bl,YX,YW,yy,KC,ge,trivial⟩) Tryz.func203 λ a=>by kernel_rfl
def FY:=fe [(203,fh),(47,yu),(104,YR),(214,oE),(117,am)] []
def oB:PF:=⟨[(.ptr,q6),R (.pair .i64 .i64)],[q4],.uniq,bX⟩
theorem BV:Sd 193 oB:=sf (F:=FY) (ek ⟨ra,yy,Jp,BY,fV,trivial⟩) Tryz.func193 λ a=>by kernel_rfl
def EA:=fe [(47,yu),(203,fh),(179,N1),(38,pf38),(193,oB)] [(3,[.slot 5 (.sl 62 q4) (.own true),.slot 6 .i64 (.imm false),.keep 0 q6 [2,0,0]])]
def wA:PF:=⟨[(.ptr,q6),R (.pair .i64 .i64)],[(.sl 62 q4)],.uniq,ku⟩
theorem Vc:Sd 106 wA:=sf (F:=EA) (ek ⟨yy,ra,bj,YW,BV,trivial⟩) Tryz.func106 λ a=>by kernel_rfl
def Ga:=fe [(47,yu),(104,YR),(221,Lo),(38,pf38)] [(3,[.slot 3 (.sl 5 .u8) (.own true),.slot 4 .i64 (.imm false),.keep 0 q6 [2,0,0]])]
def xr:PF:=⟨[(.ptr,q6)],[(.sl 5 .u8)],.uniq,kN⟩
theorem VT:Sd 204 xr:=sf (F:=Ga) (ek ⟨yy,Jp,Mv,YW,trivial⟩) Tryz.func204 λ a=>by kernel_rfl
def EB:=fe [(204,xr),(47,yu),(104,YR)] []
def wB:PF:=⟨[(.ptr,q6)],[Zf],.uniq,kC⟩
theorem Vd:Sd 107 wB:=sf (F:=EB) (ek ⟨VT,yy,Jp,trivial⟩) Tryz.func107 λ a=>by kernel_rfl
def FX:=fe [(47,yu),(158,e7),(203,fh),(157,ay),(212,N3),(213,fi),(239,Lp)] []
def xh:PF:=⟨[(.ptr,q6),R (.pair .i64 .i64)],[q2],.uniq,kE⟩
theorem VN:Sd 192 xh:=sf (F:=FX) (ek ⟨yy,pV,ra,f6,bl,rb,Mw,trivial⟩) Tryz.func192 λ a=>by kernel_rfl
def OR:=fe [(192,xh),(47,yu),(104,YR),(193,oB),(194,oC)] []
def A0:PF:=⟨[(.ptr,q6),R (.pair .i64 .i64)],[q2],.uniq,kD⟩
theorem Xn:Sd 94 A0:=sf (F:=OR) (ek ⟨VN,yy,Jp,BV,BW,trivial⟩) Tryz.func94 λ a=>by kernel_rfl
def lN:yZ:=⟨⟨TYS,[(103,wy),(47,yu),(104,YR),(40,AI),(105,wz),(106,wA),(107,wB),(94,A0)],EQS,[],[],false,[],[],[],false,[(103,92)]⟩,[]⟩
def pf34:PF:=⟨[(.ptr,q6)],[(.pair .i64 .i64),q1],.shared,kH⟩
theorem s34:Sd 34 pf34:=CX (F:=lN) (ek ⟨Va,yy,Jp,s40,Vb,Vc,Vd,Xn,trivial⟩) Tryz.func34 (by kernel_rfl) (λ a o h=>(show Qu lN Tryz.f34 pf34.params pf34.rets pf34.rk a=pf34.fn a by kernel_rfl).trans h) (.inr ⟨by kernel_rfl,λ x hx=>by simp only[lN,alU] at hx; rw[hx]; rfl⟩)
def Ok:=fe [] []
def YS:PF:=⟨[R .i64,R .i64,R .i64],[.bool],.uniq,y6⟩
theorem Jq:Sd 64 YS:=sf (F:=Ok) (ek trivial) Tryz.func64 λ a=>by kernel_rfl
def Oj:=fe [(64,YS)] []
def JS:PF:=⟨[R (.pair .i64 .i64)],[.bool],.uniq,YL⟩
theorem KD:Sd 63 JS:=sf (F:=Oj) (ek ⟨Jq,trivial⟩) Tryz.func63 λ a=>by kernel_rfl
def Gx:=fe [] []
def xz:PF:=⟨[],[q4],.uniq,mM⟩
theorem VZ:Sd 229 xz:=sf (F:=Gx) (ek trivial) Tryz.func229 λ a=>by kernel_rfl
def Fo:=fe [] [(4,[.slot 13 .i64 (.imm false)])]
def oh:PF:=⟨[R (.sl 3 .i64),R (.sl 3 .i64)],[.bool],.uniq,bu⟩
theorem BL:Sd 156 oh:=sf (F:=Fo) (ek trivial) Tryz.func156 λ a=>by kernel_rfl
def OA:=fe [(156,oh)] []
def aO:PF:=⟨[R q4,R q4],[.bool],.uniq,L6⟩
theorem gr:Sd 77 aO:=sf (F:=OA) (ek ⟨BL,trivial⟩) Tryz.func77 λ a=>by kernel_rfl
def FN:=fe [(257,xP)] []
def ou:PF:=⟨[R .str,R .u8],[(.sl 9 .str)],.uniq,QL⟩
theorem BQ:Sd 181 ou:=sf (F:=FN) (ek ⟨Wg,trivial⟩) Tryz.func181 λ a=>by kernel_rfl
def GW:=fe [(296,Am)] []
def oO:PF:=⟨[R .i64],[.str],.uniq,Kf⟩
theorem B8:Sd 259 oO:=sf (F:=GW) (ek ⟨WF,trivial⟩) Tryz.func259 λ a=>by kernel_rfl
def FO:=fe [(259,oO)] [(5,[.slot 4 .i64 (.imm false),.slot 5 .i64 (.imm false)])]
def oy:PF:=⟨[R .str],[.i64,.bool],.uniq,QE⟩
theorem BS:Sd 183 oy:=sf (F:=FO) (ek ⟨B8,trivial⟩) Tryz.func183 λ a=>by kernel_rfl
def Fb:=fe [(64,YS)] []
def aw:PF:=⟨[R q5],[.bool],.uniq,Li⟩
theorem fZ:Sd 143 aw:=sf (F:=Fb) (ek ⟨Jq,trivial⟩) Tryz.func143 λ a=>by kernel_rfl
def Ir:=fe [(143,aw),(259,oO)] []
def An:PF:=⟨[R q5],[.str],.uniq,QO⟩
theorem WG:Sd 297 An:=sf (F:=Ir) (ek ⟨fZ,B8,trivial⟩) Tryz.func297 λ a=>by kernel_rfl
def GY:=fe [(182,ox),(183,oy),(143,aw),(297,An)] [(6,[.slot 40 .i64 (.imm false),.row 1 3 .i64 (.own true)])]
def xR:PF:=⟨[R .str],[q5,.bool],.uniq,QM⟩
theorem Wi:Sd 260 xR:=sf (F:=GY) (ek ⟨BR,BS,fZ,WG,trivial⟩) Tryz.func260 λ a=>by kernel_rfl
def FP:=fe [(181,ou),(260,xR)] [(5,[.slot 4 (.sl 64 q5) (.own true),.slot 14 .i64 (.imm false)])]
def xd:PF:=⟨[R .str],[(.sl 64 q5),.bool],.uniq,dK⟩
theorem VJ:Sd 184 xd:=sf (F:=FP) (ek ⟨BQ,Wi,trivial⟩) Tryz.func184 λ a=>by kernel_rfl
def OO:=fe [(181,ou),(182,ox),(183,oy),(184,xd),(64,YS)] [(9,[.slot 5 fJ (.own true),.slot 6 .i64 (.imm false),.slot 33 .i64 (.imm false)])]
def fE:PF:=⟨[R .str],[fJ,.bool],.uniq,NP⟩
theorem rx:Sd 91 fE:=sf (F:=OO) (ek ⟨BQ,BR,BS,VJ,Jq,trivial⟩) Tryz.func91 λ a=>by kernel_rfl
def Fa:=fe [(91,fE)] []
def Mk:PF:=⟨[R .str],[.bool],.uniq,JL⟩
theorem qg:Sd 142 Mk:=sf (F:=Fa) (ek ⟨rx,trivial⟩) Tryz.func142 λ a=>by kernel_rfl
def Iu:=fe [(91,fE)] []
def Lr:PF:=⟨[R .str],[.i64],.uniq,Jg⟩
theorem My:Sd 30 Lr:=sf (F:=Iu) (ek ⟨rx,trivial⟩) Tryz.func30 λ a=>by kernel_rfl
def Gy:=fe [] [(2,[.slot 9 .i64 (.imm false)])]
def oM:PF:=⟨[R .i64,R (.sl 3 .i64)],[.bool],.uniq,NO⟩
theorem B6:Sd 230 oM:=sf (F:=Gy) (ek trivial) Tryz.func230 λ a=>by kernel_rfl
def Ic:=fe [(63,JS)] []
def Aa:PF:=⟨[R (.pair .i64 .i64)],[.i64],.uniq,mL⟩
theorem Ws:Sd 279 Aa:=sf (F:=Ic) (ek ⟨KD,trivial⟩) Tryz.func279 λ a=>by kernel_rfl
def Gz:=fe [(63,JS),(279,Aa)] []
def xA:PF:=⟨[R (.pair .i64 .i64)],[.i64],.uniq,dB⟩
theorem V0:Sd 231 xA:=sf (F:=Gz) (ek ⟨KD,Ws,trivial⟩) Tryz.func231 λ a=>by kernel_rfl
def E9:=fe [(63,JS),(229,xz),(77,aO),(142,Mk),(30,Lr),(230,oM),(231,xA)] []
def Mj:PF:=⟨[R (.pair .i64 .i64),R q4],[.bool],.uniq,Kh⟩
theorem qe:Sd 141 Mj:=sf (F:=E9) (ek ⟨KD,VZ,gr,qg,My,B6,V0,trivial⟩) Tryz.func141 λ a=>by kernel_rfl
def Ol:=fe [(64,YS),(141,Mj),(142,Mk)] []
def aM:PF:=⟨[R (.pair .i64 .i64),R q7],[.bool],.uniq,L7⟩
theorem go:Sd 65 aM:=sf (F:=Ol) (ek ⟨Jq,qe,qg,trivial⟩) Tryz.func65 λ a=>by kernel_rfl
def Fc:=fe [] []
def wO:PF:=⟨[R q5,R q5],[.bool],.uniq,dP⟩
theorem Vq:Sd 144 wO:=sf (F:=Fc) (ek trivial) Tryz.func144 λ a=>by kernel_rfl
def Om:=fe [(143,aw),(144,wO)] [(2,[.slot 7 .i64 (.imm false)])]
def AR:PF:=⟨[R (.sl 64 q5)],[.bool],.uniq,dw⟩
theorem Xf:Sd 66 AR:=sf (F:=Om) (ek ⟨fZ,Vq,trivial⟩) Tryz.func66 λ a=>by kernel_rfl
def Fd:=fe [(63,JS),(64,YS),(142,Mk),(30,Lr),(230,oM)] []
def eZ:PF:=⟨[R (.pair .i64 .i64),R q4],[.bool],.uniq,NJ⟩
theorem pU:Sd 145 eZ:=sf (F:=Fd) (ek ⟨KD,Jq,qg,My,B6,trivial⟩) Tryz.func145 λ a=>by kernel_rfl
def Ie:=fe [] []
def Ac:PF:=⟨[R .i64],[.bool],.uniq,cM⟩
theorem Wu:Sd 280 Ac:=sf (F:=Ie) (ek trivial) Tryz.func280 λ a=>by kernel_rfl
def GA:=fe [(280,Ac)] []
def xB:PF:=⟨[R .i64,R .i64],[.i64],.uniq,mi⟩
theorem V2:Sd 232 xB:=sf (F:=GA) (ek ⟨Wu,trivial⟩) Tryz.func232 λ a=>by kernel_rfl
def If:=fe [] []
def Ad:PF:=⟨[R .str],[.bool],.uniq,cN⟩
theorem Wv:Sd 281 Ad:=sf (F:=If) (ek trivial) Tryz.func281 λ a=>by kernel_rfl
def GB:=fe [(281,Ad)] []
def xC:PF:=⟨[R .str,R .str],[.i64],.uniq,mj⟩
theorem V3:Sd 233 xC:=sf (F:=GB) (ek ⟨Wv,trivial⟩) Tryz.func233 λ a=>by kernel_rfl
def Fe:=fe [(232,xB),(233,xC)] []
def od:PF:=⟨[R q4,R q4],[.i64],.uniq,Mb⟩
theorem BI:Sd 146 od:=sf (F:=Fe) (ek ⟨V2,V3,trivial⟩) Tryz.func146 λ a=>by kernel_rfl
def On:=fe [(145,eZ),(146,od)] [(2,[.slot 9 .i64 (.imm false)])]
def o8:PF:=⟨[R (.pair .i64 .i64),R (.sl 62 q4)],[.bool],.uniq,Jf⟩
theorem Co:Sd 67 o8:=sf (F:=On) (ek ⟨pU,BI,trivial⟩) Tryz.func67 λ a=>by kernel_rfl
def Oo:=fe [(64,YS)] []
def o9:PF:=⟨[R Zf],[.bool],.uniq,QD⟩
theorem Cp:Sd 68 o9:=sf (F:=Oo) (ek ⟨Jq,trivial⟩) Tryz.func68 λ a=>by kernel_rfl
def Fg:=fe [] []
def wQ:PF:=⟨[R q2],[q2],.shared,dX⟩
theorem Vs:Sd 148 wQ:=sf (F:=Fg) (ek trivial) Tryz.func148 λ a=>by kernel_rfl
def GC:=fe [(77,aO)] []
def xD:PF:=⟨[R (.pair .str q4),R (.pair .str q4)],[.bool],.uniq,dh⟩
theorem V4:Sd 234 xD:=sf (F:=GC) (ek ⟨gr,trivial⟩) Tryz.func234 λ a=>by kernel_rfl
def GD:=fe [(156,oh)] []
def xE:PF:=⟨[R q4,R q4],[.bool],.uniq,dY⟩
theorem V5:Sd 235 xE:=sf (F:=GD) (ek ⟨BL,trivial⟩) Tryz.func235 λ a=>by kernel_rfl
def Ff:=fe [(234,xD),(235,xE),(77,aO)] []
def wP:PF:=⟨[R q2,R q2],[.bool],.uniq,dq⟩
theorem Vr:Sd 147 wP:=sf (F:=Ff) (ek ⟨V4,V5,gr,trivial⟩) Tryz.func147 λ a=>by kernel_rfl
def Fr:=fe [(142,Mk),(240,xG)] []
def e8:PF:=⟨[R .str],[.str],.uniq,L8⟩
theorem pW:Sd 159 e8:=sf (F:=Fr) (ek ⟨qg,V7,trivial⟩) Tryz.func159 λ a=>by kernel_rfl
def OD:=fe [(141,Mj),(142,Mk),(159,e8)] []
def fD:PF:=⟨[R (.pair .i64 .i64),R (.pair .str q4)],[.bool],.uniq,NI⟩
theorem rv:Sd 80 fD:=sf (F:=OD) (ek ⟨qe,qg,pW,trivial⟩) Tryz.func80 λ a=>by kernel_rfl
def Oq:=fe [(63,JS),(148,wQ),(147,wP),(80,fD),(145,eZ),(64,YS),(141,Mj),(143,aw)] []
def AS:PF:=⟨[R (.pair .i64 .i64),R q2],[.bool],.uniq,dp⟩
theorem Xg:Sd 69 AS:=sf (F:=Oq) (ek ⟨KD,Vs,Vr,rv,pU,Jq,qe,fZ,trivial⟩) Tryz.func69 λ a=>by kernel_rfl
def Gc:=fe [(63,JS),(64,YS),(65,aM),(66,AR),(67,o8),(68,o9),(69,AS)] [(4,[.slot 66 .i64 (.imm false)])]
def aC:PF:=⟨[R (.pair .i64 .i64),R q1],[.bool],.uniq,Lh⟩
theorem ga:Sd 21 aC:=sf (F:=Gc) (ek ⟨KD,Jq,go,Xf,Co,Cp,Xg,trivial⟩) Tryz.func21 λ a=>by kernel_rfl
def Gl:=fe [] []
def fj:PF:=⟨[R (.sl 3 .i64)],[(.sl 3 .i64)],.uniq,Lj⟩
theorem re:Sd 218 fj:=sf (F:=Gl) (ek trivial) Tryz.func218 λ a=>by kernel_rfl
def EN:=fe [(218,fj)] []
def N0:PF:=⟨[R q4],[q4],.uniq,Ki⟩
theorem bi:Sd 121 N0:=sf (F:=EN) (ek ⟨re,trivial⟩) Tryz.func121 λ a=>by kernel_rfl
def I4:=fe [(121,N0)] []
def aL:PF:=⟨[R q7],[q7],.uniq,Mc⟩
theorem gn:Sd 43 aL:=sf (F:=I4) (ek ⟨bi,trivial⟩) Tryz.func43 λ a=>by kernel_rfl
def EC:=fe [] []
def wC:PF:=⟨[R (.sl 64 q5)],[(.sl 64 q5)],.uniq,dV⟩
theorem Ve:Sd 108 wC:=sf (F:=EC) (ek trivial) Tryz.func108 λ a=>by kernel_rfl
def Fx:=fe [(218,fj)] []
def az:PF:=⟨[R q4],[q4],.uniq,JM⟩
theorem f7:Sd 166 az:=sf (F:=Fx) (ek ⟨re,trivial⟩) Tryz.func166 λ a=>by kernel_rfl
def ED:=fe [(166,az)] [(3,[.slot 3 (.sl 62 q4) (.own true),.slot 8 .i64 (.imm false)])]
def n6:PF:=⟨[R (.sl 62 q4)],[(.sl 62 q4)],.uniq,YM⟩
theorem BC:Sd 109 n6:=sf (F:=ED) (ek ⟨f7,trivial⟩) Tryz.func109 λ a=>by kernel_rfl
def EF:=fe [] []
def n7:PF:=⟨[R Zf],[Zf],.uniq,QP⟩
theorem BD:Sd 110 n7:=sf (F:=EF) (ek trivial) Tryz.func110 λ a=>by kernel_rfl
def G6:=fe [(121,N0)] []
def xW:PF:=⟨[R (.pair .str q4)],[(.pair .str q4)],.uniq,dQ⟩
theorem Wo:Sd 271 xW:=sf (F:=G6) (ek ⟨bi,trivial⟩) Tryz.func271 λ a=>by kernel_rfl
def Gb:=fe [(271,xW),(166,az),(121,N0)] []
def oD:PF:=⟨[R q2],[q2],.uniq,QQ⟩
theorem BX:Sd 205 oD:=sf (F:=Gb) (ek ⟨Wo,f7,bi,trivial⟩) Tryz.func205 λ a=>by kernel_rfl
def EG:=fe [(205,oD)] [(3,[.slot 3 Ky (.own true),.slot 8 .i64 (.imm false)])]
def wD:PF:=⟨[R Ky],[Ky],.uniq,dR⟩
theorem Vf:Sd 111 wD:=sf (F:=EG) (ek ⟨BX,trivial⟩) Tryz.func111 λ a=>by kernel_rfl
def IY:=fe [(43,aL),(108,wC),(109,n6),(110,n7),(111,wD)] []
def aJ:PF:=⟨[R q1],[q1],.uniq,jJ⟩
theorem gj:Sd 36 aJ:=sf (F:=IY) (ek ⟨gn,Ve,BC,BD,Vf,trivial⟩) Tryz.func36 λ a=>by kernel_rfl
def EM:=fe [(64,YS)] [(4,[.slot 0 .i64 (.imm false),.slot 3 (.sl 5 .u8) (.own true)])]
def an:PF:=⟨[R .i64],[(.sl 5 .u8)],.uniq,Kg⟩
theorem fW:Sd 120 an:=sf (F:=EM) (ek ⟨Jq,trivial⟩) Tryz.func120 λ a=>by kernel_rfl
def GX:=fe [(77,aO)] []
def xQ:PF:=⟨[R q7,R q7],[.bool],.uniq,dE⟩
theorem Wh:Sd 26 xQ:=sf (F:=GX) (ek ⟨gr,trivial⟩) Tryz.func26 λ a=>by kernel_rfl
def Gi:=fe [(120,an)] [(3,[.slot 3 (.sl 5 .u8) (.own true),.slot 8 .i64 (.imm false)])]
def oF:PF:=⟨[R (.sl 3 .i64)],[(.sl 5 .u8)],.uniq,QS⟩
theorem BZ:Sd 215 oF:=sf (F:=Gi) (ek ⟨fW,trivial⟩) Tryz.func215 λ a=>by kernel_rfl
def Gk:=fe [(120,an)] []
def oG:PF:=⟨[R .str],[(.sl 5 .u8)],.uniq,QG⟩
theorem B0:Sd 217 oG:=sf (F:=Gk) (ek ⟨fW,trivial⟩) Tryz.func217 λ a=>by kernel_rfl
def Gj:=fe [(141,Mj),(120,an),(217,oG),(215,oF)] []
def xu:PF:=⟨[R (.pair .i64 .i64),R q4],[(.sl 5 .u8)],.uniq,dy⟩
theorem VV:Sd 216 xu:=sf (F:=Gj) (ek ⟨qe,fW,B0,BZ,trivial⟩) Tryz.func216 λ a=>by kernel_rfl
def EL:=fe [(65,aM),(215,oF),(216,xu),(217,oG)] []
def wF:PF:=⟨[R (.pair .i64 .i64),R q7],[(.sl 5 .u8)],.uniq,dC⟩
theorem Vh:Sd 119 wF:=sf (F:=EL) (ek ⟨go,BZ,VV,B0,trivial⟩) Tryz.func119 λ a=>by kernel_rfl
def I3:=fe [(119,wF),(120,an)] []
def AK:PF:=⟨[R (.pair .i64 .i64),R q7],[(.sl 5 .u8)],.uniq,dr⟩
theorem s42:Sd 42 AK:=sf (F:=I3) (ek ⟨Vh,fW,trivial⟩) Tryz.func42 λ a=>by kernel_rfl
def I2:=fe [(110,n7),(68,o9)] []
def AJ:PF:=⟨[R Zf,R (.sl 5 .u8)],[Zf,.bool],.uniq,dg⟩
theorem s41:Sd 41 AJ:=sf (F:=I2) (ek ⟨BD,Cp,trivial⟩) Tryz.func41 λ a=>by kernel_rfl
def Ek:=fe [(36,aJ),(21,aC),(26,xQ),(42,AK),(41,AJ),(43,aL)] []
def nZ:PF:=⟨[R (.pair .i64 .i64),R q1,R q7],[q1,.bool],.uniq,Ma⟩
theorem BB:Sd 10 nZ:=sf (F:=Ek) (ek ⟨gj,ga,Wh,s42,s41,gn,trivial⟩) Tryz.func10 λ a=>by kernel_rfl
def F49:=fe [] [(3,[.slot 2 .i64 (.imm false),.box 2 q8 (.own true)])]
def adh:PF:=⟨[],[q8],.uniq,aci⟩
theorem s49:Sd 49 adh:=sf (F:=F49) (ek trivial) Tryz.func49 λ a=>by kernel_rfl
def F50:=fe [(91,fE)] [(4,[.slot 5 (.sl 64 q5) (.own true),.slot 15 .i64 (.imm false)])]
def adi:PF:=⟨[R .str],[(.sl 64 q5)],.uniq,acn⟩
theorem s50:Sd 50 adi:=sf (F:=F50) (ek ⟨rx,trivial⟩) Tryz.func50 λ a=>by kernel_rfl
def adJ:=fe [(218,fj)] []
def acD:PF:=⟨[R q8],[q8],.uniq,ac5⟩
theorem adr:Sd 129 acD:=sf (F:=adJ) (ek ⟨re,trivial⟩) Tryz.func129 λ a=>by kernel_rfl
def adS:=fe [(64,YS)] [(2,[.slot 11 .i64 (.imm false)])]
def ad9:PF:=⟨[R (.sl 3 .i64),R .i64,R .i64],[.bool],.uniq,acb⟩
theorem aeX:Sd 277 ad9:=sf (F:=adS) (ek ⟨Jq,trivial⟩) Tryz.func277 λ a=>by kernel_rfl
def adP:=fe [(277,ad9)] []
def ad6:PF:=⟨[R q8],[.bool],.uniq,aca⟩
theorem aeQ:Sd 222 ad6:=sf (F:=adP) (ek ⟨aeX,trivial⟩) Tryz.func222 λ a=>by kernel_rfl
def adK:=fe [(129,acD),(222,ad6),(143,aw)] []
def acE:PF:=⟨[R q8,R q5],[q8,.i64],.uniq,ac4⟩
theorem ads:Sd 130 acE:=sf (F:=adK) (ek ⟨adr,aeQ,fZ,trivial⟩) Tryz.func130 λ a=>by kernel_rfl
def F48:=fe [(129,acD),(130,acE)] [(4,[.slot 7 (.sl 3 .i64) (.own true),.slot 16 .i64 (.imm false),.box 7 q8 (.own true)])]
def ade:PF:=⟨[R q8,R (.sl 64 q5)],[q8,(.sl 3 .i64)],.uniq,acj⟩
theorem s48:Sd 48 ade:=sf (F:=F48) (ek ⟨adr,ads,trivial⟩) Tryz.func48 λ a=>by kernel_rfl
def F16:=fe [(21,aC),(49,adh),(50,adi),(48,ade)] []
def ad2:PF:=⟨[R (.pair .i64 .i64),R q1],[q8],.uniq,abW⟩
theorem s16:Sd 16 ad2:=sf (F:=F16) (ek ⟨ga,s49,s50,s48,trivial⟩) Tryz.func16 λ a=>by kernel_rfl
def Fs:=fe [(121,N0)] []
def wS:PF:=⟨[R q4,R q4],[q4],.uniq,dz⟩
theorem Vu:Sd 160 wS:=sf (F:=Fs) (ek ⟨bi,trivial⟩) Tryz.func160 λ a=>by kernel_rfl
def Ft:=fe [(91,fE),(159,e8)] []
def wT:PF:=⟨[R .str],[.str,.bool],.uniq,dG⟩
theorem Vv:Sd 161 wT:=sf (F:=Ft) (ek ⟨rx,pW,trivial⟩) Tryz.func161 λ a=>by kernel_rfl
def Ih:=fe [] []
def Ae:PF:=⟨[R .str,R .str],[.bool],.uniq,mS⟩
theorem Ww:Sd 284 Ae:=sf (F:=Ih) (ek trivial) Tryz.func284 λ a=>by kernel_rfl
def GI:=fe [(284,Ae)] []
def xH:PF:=⟨[R .str,R .str],[.bool],.uniq,su⟩
theorem V8:Sd 241 xH:=sf (F:=GI) (ek ⟨Ww,trivial⟩) Tryz.func241 λ a=>by kernel_rfl
def Fu:=fe [(142,Mk),(241,xH)] []
def wU:PF:=⟨[R .str,R .str],[.bool],.uniq,dj⟩
theorem Vw:Sd 162 wU:=sf (F:=Fu) (ek ⟨qg,V8,trivial⟩) Tryz.func162 λ a=>by kernel_rfl
def OE:=fe [(43,aL),(65,aM),(141,Mj),(160,wS),(159,e8),(30,Lr),(161,wT),(162,wU)] []
def pc:PF:=⟨[R (.pair .i64 .i64),R q7,R q4],[q7],.uniq,QJ⟩
theorem Cs:Sd 81 pc:=sf (F:=OE) (ek ⟨gn,go,qe,Vu,pW,My,Vv,Vw,trivial⟩) Tryz.func81 λ a=>by kernel_rfl
def Fv:=fe [(65,aM),(80,fD),(30,Lr)] []
def wV:PF:=⟨[R (.pair .i64 .i64),R q7,R (.pair .str q4)],[.bool],.uniq,dn⟩
theorem Vx:Sd 163 wV:=sf (F:=Fv) (ek ⟨go,rv,My,trivial⟩) Tryz.func163 λ a=>by kernel_rfl
def OF:=fe [(43,aL),(163,wV),(30,Lr)] []
def AU:PF:=⟨[R (.pair .i64 .i64),R q7,R (.pair .str q4)],[q7,.bool],.uniq,dN⟩
theorem s82:Sd 82 AU:=sf (F:=OF) (ek ⟨gn,Vx,My,trivial⟩) Tryz.func82 λ a=>by kernel_rfl
def ID:=fe [] [(2,[.slot 8 .i64 (.imm false)])]
def Aw:PF:=⟨[R (.sl 3 .i64),R .i64],[.i64],.uniq,rM⟩
theorem WS:Sd 312 Aw:=sf (F:=ID) (ek trivial) Tryz.func312 λ a=>by kernel_rfl
def Ij:=fe [(312,Aw)] []
def Ag:PF:=⟨[R (.sl 3 .i64),R .i64],[.bool],.uniq,gD⟩
theorem Wy:Sd 287 Ag:=sf (F:=Ij) (ek ⟨WS,trivial⟩) Tryz.func287 λ a=>by kernel_rfl
def GL:=fe [(287,Ag)] []
def fw:PF:=⟨[R (.sl 3 .i64),R .i64],[.bool],.uniq,NN⟩
theorem ri:Sd 246 fw:=sf (F:=GL) (ek ⟨Wy,trivial⟩) Tryz.func246 λ a=>by kernel_rfl
def IC:=fe [] []
def Au:PF:=⟨[R .i64,(.cap,.i64)],[.bool],.uniq,mN⟩
theorem WQ:Sd 309 Au:=sf (F:=IC) (ek trivial) Tryz.func309 λ a=>by kernel_rfl
def IB:=fe [(309,Au)] [(2,[.slot 8 .i64 (.imm false)])]
def At:PF:=⟨[R (.sl 3 .i64),((.clo 309),.i64)],[.i64],.uniq,gE⟩
theorem WP:Sd 308 At:=sf (F:=IB) (ek ⟨WQ,trivial⟩) Tryz.func308 λ a=>by kernel_rfl
def Ii:=fe [(246,fw),(218,fj),(308,At),(310,Av)] []
def Af:PF:=⟨[R (.sl 3 .i64),R .i64],[(.sl 3 .i64)],.uniq,QK⟩
theorem Wx:Sd 285 Af:=sf (F:=Ii) (ek ⟨ri,re,WP,WR,trivial⟩) Tryz.func285 λ a=>by kernel_rfl
def GJ:=fe [(285,Af)] [(3,[.slot 5 (.sl 3 .i64) (.own true),.slot 12 .i64 (.imm false)]),(8,[.slot 5 (.sl 3 .i64) (.own true),.slot 22 .i64 (.imm false)])]
def xI:PF:=⟨[R (.sl 3 .i64),R (.sl 3 .i64)],[(.sl 3 .i64)],.uniq,dF⟩
theorem V9:Sd 242 xI:=sf (F:=GJ) (ek ⟨Wx,trivial⟩) Tryz.func242 λ a=>by kernel_rfl
def Fw:=fe [(242,xI)] []
def wW:PF:=⟨[R q4,R q4],[q4,.bool],.uniq,QF⟩
theorem Vy:Sd 164 wW:=sf (F:=Fw) (ek ⟨V9,trivial⟩) Tryz.func164 λ a=>by kernel_rfl
def OG:yZ:=⟨⟨TYS,[(145,eZ),(109,n6),(146,od),(164,wW),(166,az),(67,o8)],EQS,[],[],false,[],[(165,wX)],[],false,[]⟩,[(5,[.slot 9 .i64 (.imm false)])]⟩
def AW:PF:=⟨[R (.pair .i64 .i64),R (.sl 62 q4),R q4],[(.sl 62 q4),.bool],.uniq,dI⟩
theorem Xj:Sd 83 AW:=sf (F:=OG) (K8 ⟨pU,BC,BI,Vy,f7,Co,trivial⟩ trivial trivial trivial Vz trivial) Tryz.func83 λ a=>by kernel_rfl
def Fy:=fe [(166,az)] [(2,[.slot 11 .i64 (.imm false),.box 1 q4 (.own true)])]
def wY:PF:=⟨[R (.sl 62 q4),R .i64,R .str],[q4],.uniq,dJ⟩
theorem VA:Sd 167 wY:=sf (F:=Fy) (ek ⟨f7,trivial⟩) Tryz.func167 λ a=>by kernel_rfl
def Fz:=fe [(63,JS)] []
def om:PF:=⟨[R (.pair .i64 .i64),R .i64],[.i64],.uniq,QI⟩
theorem BM:Sd 168 om:=sf (F:=Fz) (ek ⟨KD,trivial⟩) Tryz.func168 λ a=>by kernel_rfl
def FA:=fe [(121,N0),(141,Mj)] []
def wZ:PF:=⟨[R (.pair .i64 .i64),R q4],[q4,.bool],.uniq,du⟩
theorem VB:Sd 169 wZ:=sf (F:=FA) (ek ⟨bi,qe,trivial⟩) Tryz.func169 λ a=>by kernel_rfl
def FE:=fe [(36,aJ),(205,oD),(21,aC)] []
def oo:PF:=⟨[R (.pair .i64 .i64),R q1,R .i64,R q2],[q1,.bool],.uniq,NQ⟩
theorem BN:Sd 173 oo:=sf (F:=FE) (ek ⟨gj,BX,ga,trivial⟩) Tryz.func173 λ a=>by kernel_rfl
def sU:=fe [(81,pc),(10,nZ),(168,om),(173,oo)] []
def pf170:PF:=⟨[R (.pair .i64 .i64),R q1,R q4],[q1,.bool],.uniq,dW⟩
theorem Rb (a:zW pf170.params):cU sU Tryz.f170 pf170.params pf170.rets pf170.rk a=pf170.fn a:=by kernel_rfl
theorem VD:J9 Tryz.prog GLB 170 pf170:=CY (F:=sU) (ek ⟨Cs,BB,BM,BN,trivial⟩) Tryz.func170 (by kernel_rfl) (by rfl) (λ a o h=>(Rb a).trans h)
def GK:=fe [(63,JS),(64,YS)] []
def fu:PF:=⟨[R (.pair .i64 .i64),R .i64,R .i64],[.i64],.uniq,NL⟩
theorem rh:Sd 245 fu:=sf (F:=GK) (ek ⟨KD,Jq,trivial⟩) Tryz.func245 λ a=>by kernel_rfl
def GN:=fe [(63,JS),(64,YS)] []
def xK:PF:=⟨[R (.pair .i64 .i64),R .i64,R .i64],[.i64],.uniq,dH⟩
theorem Wb:Sd 248 xK:=sf (F:=GN) (ek ⟨KD,Jq,trivial⟩) Tryz.func248 λ a=>by kernel_rfl
def FF:=fe [(245,fu),(248,xK)] []
def oq:PF:=⟨[R (.pair .i64 .i64),R .i64,R .i64],[.i64],.uniq,NR⟩
theorem BO:Sd 174 oq:=sf (F:=FF) (ek ⟨rh,Wb,trivial⟩) Tryz.func174 λ a=>by kernel_rfl
def GM:=fe [(245,fu),(174,oq)] [(2,[.slot 2 .i64 (.imm false),.slot 7 (.sl 3 .i64) (.own true)])]
def xJ:PF:=⟨[R (.pair .i64 .i64),R .i64,R .i64],[(.sl 3 .i64)],.uniq,dO⟩
theorem Wa:Sd 247 xJ:=sf (F:=GM) (ek ⟨rh,BO,trivial⟩) Tryz.func247 λ a=>by kernel_rfl
def FC:=fe [(245,fu),(247,xJ),(246,fw)] [(3,[.slot 7 (.sl 3 .i64) (.own true),.slot 8 .i64 (.imm false)])]
def w7:PF:=⟨[R (.pair .i64 .i64),R .i64,R .i64],[(.sl 3 .i64)],.uniq,dL⟩
theorem VE:Sd 171 w7:=sf (F:=FC) (ek ⟨rh,Wa,ri,trivial⟩) Tryz.func171 λ a=>by kernel_rfl
def FD:=fe [(246,fw)] [(3,[.slot 5 .i64 (.imm false),.slot 10 .i64 (.imm false)])]
def w8:PF:=⟨[R (.sl 3 .i64),R (.sl 3 .i64)],[.i64],.uniq,di⟩
theorem VF:Sd 172 w8:=sf (F:=FD) (ek ⟨ri,trivial⟩) Tryz.func172 λ a=>by kernel_rfl
def OH:yZ:=⟨⟨TYS,[(167,wY),(21,aC),(36,aJ),(168,om),(169,wZ),(171,w7),(172,w8),(174,oq),(173,oo)],EQS,[],[],false,[(170,pf170)],[],[],false,[]⟩,[]⟩
def AX:PF:=⟨[R (.pair .i64 .i64),R q1,R .i64,R .str,R .bool],[q1,.bool],.uniq,QB⟩
theorem Xk:Sd 84 AX:=sf (F:=OH) (K8 ⟨VA,ga,gj,BM,VB,VE,VF,BO,BN,trivial⟩ trivial trivial VD trivial trivial) Tryz.func84 λ a=>by kernel_rfl
def Id:=fe [(21,aC),(80,fD),(36,aJ),(30,Lr),(81,pc),(82,AU),(10,nZ),(83,AW),(84,AX)] []
def Ab:PF:=⟨[R (.pair .i64 .i64),R q1,R (.pair .str q4)],[q1,.bool],.uniq,dm⟩
theorem s28:Sd 28 Ab:=sf (F:=Id) (ek ⟨ga,rv,gj,My,Cs,s82,BB,Xj,Xk,trivial⟩) Tryz.func28 λ a=>by kernel_rfl
def F31:yZ:=⟨⟨TYS,[(92,AZ),(38,pf38),(47,yu),(93,fF),(34,pf34),(94,A0)],EQS,[(35,AD)],[],false,[],[],[],false,[]⟩,[]⟩
def adb:PF:=⟨[R (.sl 5 .u8)],[(.pair .i64 .i64),q1,q2],.shared,acq⟩
theorem s31:Sd 31 adb:=sf (F:=F31) (K8 ⟨Xm,YW,yy,ry,s34,Xn,trivial⟩ ⟨s35,trivial⟩ trivial trivial trivial trivial) Tryz.func31 λ a=>by kernel_rfl
def F95:=fe [(21,aC),(145,eZ),(36,aJ),(83,AW),(84,AX)] []
def adj:PF:=⟨[R (.pair .i64 .i64),R q1,R q4],[q1,.bool],.uniq,acg⟩
theorem s95:Sd 95 adj:=sf (F:=F95) (ek ⟨ga,pU,gj,Xj,Xk,trivial⟩) Tryz.func95 λ a=>by kernel_rfl
def adM:=fe [(167,wY),(231,xA)] []
def ad4:PF:=⟨[R (.pair .i64 .i64),R q1,R .i64],[.bool],.uniq,ac3⟩
theorem aeO:Sd 195 ad4:=sf (F:=adM) (ek ⟨VA,V0,trivial⟩) Tryz.func195 λ a=>by kernel_rfl
def F96:=fe [(21,aC),(64,YS),(141,Mj),(36,aJ),(81,pc),(10,nZ),(168,om),(83,AW),(195,ad4)] []
def adk:PF:=⟨[R (.pair .i64 .i64),R q1,R .i64,R q4,R .i64],[q1,.bool],.uniq,ac7⟩
theorem s96:Sd 96 adk:=sf (F:=F96) (ek ⟨ga,Jq,qe,gj,Cs,BB,BM,Xj,aeO,trivial⟩) Tryz.func96 λ a=>by kernel_rfl
def adR:=fe [(144,wO)] []
def ad8:PF:=⟨[R q5,(.cap,q5)],[.bool],.uniq,acB⟩
theorem aeU:Sd 268 ad8:=sf (F:=adR) (ek ⟨Vq,trivial⟩) Tryz.func268 λ a=>by kernel_rfl
def adQ:=fe [(268,ad8)] [(2,[.slot 8 .i64 (.imm false)])]
def ad7:PF:=⟨[R (.sl 64 q5),((.clo 268),q5)],[.i64],.uniq,acp⟩
theorem aeT:Sd 267 ad7:=sf (F:=adQ) (ek ⟨aeU,trivial⟩) Tryz.func267 λ a=>by kernel_rfl
def adN:=fe [(267,ad7),(108,wC),(269,Uu),(66,AR)] []
def ad5:PF:=⟨[R (.sl 64 q5),R q5],[(.sl 64 q5),.bool],.uniq,acl⟩
theorem aeP:Sd 196 ad5:=sf (F:=adN) (ek ⟨aeT,Ve,abV,Xf,trivial⟩) Tryz.func196 λ a=>by kernel_rfl
def F97:=fe [(36,aJ),(21,aC),(196,ad5)] []
def adl:PF:=⟨[R (.pair .i64 .i64),R q1,R q5],[q1,.bool],.uniq,ach⟩
theorem s97:Sd 97 adl:=sf (F:=F97) (ek ⟨gj,ga,aeP,trivial⟩) Tryz.func97 λ a=>by kernel_rfl
def F98:=fe [(166,az)] [(3,[.slot 5 (.sl 62 q4) (.own true),.slot 10 .i64 (.imm false)])]
def adn:PF:=⟨[R (.sl 62 q4),R .i64],[(.sl 62 q4)],.uniq,ac2⟩
theorem s98:Sd 98 adn:=sf (F:=F98) (ek ⟨f7,trivial⟩) Tryz.func98 λ a=>by kernel_rfl
def F99:=fe [(130,acE)] [(3,[.slot 5 (.sl 64 q5) (.own true),.slot 12 .i64 (.imm false)])]
def ado:PF:=⟨[R (.sl 64 q5),R q8],[(.sl 64 q5)],.uniq,abM⟩
theorem s99:Sd 99 ado:=sf (F:=F99) (ek ⟨ads,trivial⟩) Tryz.func99 λ a=>by kernel_rfl
def F32:=fe [(69,AS),(36,aJ),(28,Ab),(95,adj),(96,adk),(97,adl),(98,adn),(16,ad2),(99,ado)] []
def adc:PF:=⟨[R (.pair .i64 .i64),R q1,R q2],[q1,.bool],.uniq,abY⟩
theorem s32:Sd 32 adc:=sf (F:=F32) (ek ⟨Xg,gj,s28,s95,s96,s97,s98,s16,s99,trivial⟩) Tryz.func32 λ a=>by kernel_rfl
def af8:=fe [(6,AQ),(31,adb),(32,adc),(33,aI)] []
def pf5:PF:=⟨[R (.sl 5 .u8)],[.bool],.uniq,laws_FnHeardTwice⟩
theorem s5:Sd 5 pf5:=sf (F:=af8) (ek ⟨s6,s31,s32,gi,trivial⟩) Tryz.func5 λ a=>by kernel_rfl
end
end G448
