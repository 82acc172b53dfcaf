/- That the printed functions are what the evaluator reckons. (Printed by our own program.) -/
import Derived.Test.YtppjgjdlnikigaaGreatDoorProg
import Derived.Test.YtppjgjdlnikigaaGreatDoorAcFns
import Derived.Test.YtppjgjdlnikigaaGreatDoorSh
import Derived.KernelRfl
set_option linter.unusedSimpArgs false
set_option linter.unusedVariables false
namespace G448
open Ev Go Go.Proofs
set_option maxRecDepth 100000
noncomputable section
abbrev q1:Ty:=(.pair .i64 (.pair .i64 (.pair .i64 (.pair (.pair .i64 (.pair .i64 (.pair (.pair .i64 (.pair .str (.sl 3 .i64))) .str))) (.pair (.sl 60 (.pair .i64 (.pair .i64 (.pair .i64 .i64)))) (.pair (.sl 58 (.pair .i64 (.pair .str (.sl 3 .i64)))) (.pair (.pair (.sl 5 .u8) .i64) (.sl 102 (.pair .i64 (.pair .i64 (.pair .i64 (.pair (.pair .str (.pair .i64 (.pair .str (.sl 3 .i64)))) (.pair (.pair .i64 (.pair .str (.sl 3 .i64))) (.pair (.pair .i64 (.pair .str (.sl 3 .i64))) (.pair .i64 (.pair .i64 (.pair .i64 (.pair .i64 .i64))))))))))))))))))
abbrev q2:Ty:=(.pair .i64 (.pair .i64 (.pair (.pair .str (.pair .i64 (.pair .str (.sl 3 .i64)))) (.pair (.pair .i64 (.pair .str (.sl 3 .i64))) (.pair (.pair .i64 (.pair .str (.sl 3 .i64))) (.pair .i64 (.pair .i64 (.pair .i64 (.pair .i64 .i64)))))))))
abbrev q3:Ty:=(.pair (.pair .i64 .i64) (.pair (.sl 3 .i64) (.pair (.sl 37 q1) (.pair (.sl 282 (.pair .i64 (.sl 5 .u8))) (.sl 284 (.pair .i64 (.pair .str .i64)))))))
abbrev q4:Ty:=(.pair .i64 (.pair .str (.sl 3 .i64)))
abbrev q5:Ty:=(.pair .i64 (.pair .i64 (.pair .i64 .i64)))
abbrev q6:Ty:=(.pair (.sl 5 .u8) (.pair .i64 .i64))
abbrev q7:Ty:=(.pair .i64 (.pair .i64 (.pair q4 .str)))
abbrev q8:Ty:=(.pair (.sl 3 .i64) (.sl 3 .i64))
abbrev q9:Ty:=(.pair .i64 (.pair .i64 (.pair .i64 q2)))
abbrev Zp:Ty:=(.pair (.sl 5 .u8) .i64)
abbrev JX:Ty:=(.pair (.sl 5 .u8) (.pair .i64 .bool))
abbrev Kz:Ty:=(.sl 102 (.pair .i64 q2))
abbrev aU:Ty:=(.pair .i64 (.pair .str (.sl 0 .i64)))
abbrev fO:Ty:=(.sl 284 (.pair .i64 (.pair .str .i64)))
abbrev fP:Ty:=(.sl 140 (.pair .i64 (.sl 60 q5)))
def TYS:List (Nat×TD):=[(3,⟨.i64,8,[],none⟩),(4,⟨.bool,1,[],none⟩),(5,⟨.u8,1,[],none⟩),(9,⟨.str,16,[],none⟩),(22,⟨(.sl 5 .u8),24,[],none⟩),(25,⟨(.pair .i64 .i64),16,[(0,3),(1,3)],none⟩),(26,⟨(.sl 3 .i64),24,[],none⟩),(28,⟨(.pair .i64 (.pair .str (.sl 3 .i64))),48,[(0,3),(1,9),(2,26)],none⟩),(30,⟨(.pair .i64 (.pair .i64 (.pair (.pair .i64 (.pair .str (.sl 3 .i64))) .str))),80,[(0,3),(1,3),(2,28),(5,9)],none⟩),(31,⟨(.sl 60 (.pair .i64 (.pair .i64 (.pair .i64 .i64)))),24,[],none⟩),(32,⟨(.sl 58 (.pair .i64 (.pair .str (.sl 3 .i64)))),24,[],none⟩),(34,⟨(.pair (.sl 5 .u8) .i64),32,[(0,22),(1,3)],none⟩),(35,⟨(.sl 102 (.pair .i64 (.pair .i64 (.pair .i64 (.pair (.pair .str (.pair .i64 (.pair .str (.sl 3 .i64)))) (.pair (.pair .i64 (.pair .str (.sl 3 .i64))) (.pair (.pair .i64 (.pair .str (.sl 3 .i64))) (.pair .i64 (.pair .i64 (.pair .i64 (.pair .i64 .i64))))))))))),24,[],none⟩),(37,⟨(.pair .i64 (.pair .i64 (.pair .i64 (.pair (.pair .i64 (.pair .i64 (.pair (.pair .i64 (.pair .str (.sl 3 .i64))) .str))) (.pair (.sl 60 (.pair .i64 (.pair .i64 (.pair .i64 .i64)))) (.pair (.sl 58 (.pair .i64 (.pair .str (.sl 3 .i64)))) (.pair (.pair (.sl 5 .u8) .i64) (.sl 102 (.pair .i64 (.pair .i64 (.pair .i64 (.pair (.pair .str (.pair .i64 (.pair .str (.sl 3 .i64)))) (.pair (.pair .i64 (.pair .str (.sl 3 .i64))) (.pair (.pair .i64 (.pair .str (.sl 3 .i64))) (.pair .i64 (.pair .i64 (.pair .i64 (.pair .i64 .i64)))))))))))))))))),208,[(0,3),(1,3),(2,3),(3,30),(9,31),(10,32),(11,34),(13,35)],none⟩),(49,⟨(.pair (.sl 3 .i64) (.sl 3 .i64)),48,[(0,26),(1,26)],none⟩),(57,⟨(.pair .str (.pair .i64 (.pair .str (.sl 3 .i64)))),64,[(0,9),(1,28)],none⟩),(58,⟨(.pair .i64 (.pair .str (.sl 3 .i64))),48,[(0,3),(1,9),(2,26)],none⟩),(60,⟨(.pair .i64 (.pair .i64 (.pair .i64 .i64))),32,[(0,3),(1,3),(2,3),(3,3)],none⟩),(62,⟨(.pair .i64 (.pair .i64 (.pair (.pair .str (.pair .i64 (.pair .str (.sl 3 .i64)))) (.pair (.pair .i64 (.pair .str (.sl 3 .i64))) (.pair (.pair .i64 (.pair .str (.sl 3 .i64))) (.pair .i64 (.pair .i64 (.pair .i64 (.pair .i64 .i64))))))))),216,[(0,3),(1,3),(2,57),(6,58),(9,28),(12,3),(13,60)],none⟩),(102,⟨(.pair .i64 (.pair .i64 (.pair .i64 (.pair (.pair .str (.pair .i64 (.pair .str (.sl 3 .i64)))) (.pair (.pair .i64 (.pair .str (.sl 3 .i64))) (.pair (.pair .i64 (.pair .str (.sl 3 .i64))) (.pair .i64 (.pair .i64 (.pair .i64 (.pair .i64 .i64)))))))))),224,[(0,3),(1,62)],none⟩),(136,⟨(.sl 140 (.pair .i64 (.sl 60 (.pair .i64 (.pair .i64 (.pair .i64 .i64)))))),24,[],none⟩),(140,⟨(.pair .i64 (.sl 60 (.pair .i64 (.pair .i64 (.pair .i64 .i64))))),32,[(0,3),(1,31)],none⟩),(146,⟨(.pair (.sl 5 .u8) (.pair .i64 .i64)),40,[(0,22),(1,3),(2,3)],none⟩),(183,⟨(.sl 9 .str),24,[],none⟩),(191,⟨(.sl 37 (.pair .i64 (.pair .i64 (.pair .i64 (.pair (.pair .i64 (.pair .i64 (.pair (.pair .i64 (.pair .str (.sl 3 .i64))) .str))) (.pair (.sl 60 (.pair .i64 (.pair .i64 (.pair .i64 .i64)))) (.pair (.sl 58 (.pair .i64 (.pair .str (.sl 3 .i64)))) (.pair (.pair (.sl 5 .u8) .i64) (.sl 102 (.pair .i64 (.pair .i64 (.pair .i64 (.pair (.pair .str (.pair .i64 (.pair .str (.sl 3 .i64)))) (.pair (.pair .i64 (.pair .str (.sl 3 .i64))) (.pair (.pair .i64 (.pair .str (.sl 3 .i64))) (.pair .i64 (.pair .i64 (.pair .i64 (.pair .i64 .i64))))))))))))))))))),24,[],none⟩),(192,⟨(.sl 282 (.pair .i64 (.sl 5 .u8))),24,[],none⟩),(193,⟨(.sl 284 (.pair .i64 (.pair .str .i64))),24,[],none⟩),(195,⟨(.pair (.pair .i64 .i64) (.pair (.sl 3 .i64) (.pair (.sl 37 (.pair .i64 (.pair .i64 (.pair .i64 (.pair (.pair .i64 (.pair .i64 (.pair (.pair .i64 (.pair .str (.sl 3 .i64))) .str))) (.pair (.sl 60 (.pair .i64 (.pair .i64 (.pair .i64 .i64)))) (.pair (.sl 58 (.pair .i64 (.pair .str (.sl 3 .i64)))) (.pair (.pair (.sl 5 .u8) .i64) (.sl 102 (.pair .i64 (.pair .i64 (.pair .i64 (.pair (.pair .str (.pair .i64 (.pair .str (.sl 3 .i64)))) (.pair (.pair .i64 (.pair .str (.sl 3 .i64))) (.pair (.pair .i64 (.pair .str (.sl 3 .i64))) (.pair .i64 (.pair .i64 (.pair .i64 (.pair .i64 .i64))))))))))))))))))) (.pair (.sl 282 (.pair .i64 (.sl 5 .u8))) (.sl 284 (.pair .i64 (.pair .str .i64))))))),112,[(0,25),(2,26),(3,191),(4,192),(5,193)],none⟩),(201,⟨(.pair (.sl 5 .u8) (.pair .i64 .bool)),40,[(0,22),(1,3),(2,4)],none⟩),(218,⟨(.pair (.sl 5 .u8) (.pair .i64 .bool)),40,[(0,22),(1,3),(2,4)],none⟩),(237,⟨(.pair .i64 (.pair .i64 (.pair .i64 (.pair .i64 (.pair .i64 (.pair (.pair .str (.pair .i64 (.pair .str (.sl 3 .i64)))) (.pair (.pair .i64 (.pair .str (.sl 3 .i64))) (.pair (.pair .i64 (.pair .str (.sl 3 .i64))) (.pair .i64 (.pair .i64 (.pair .i64 (.pair .i64 .i64)))))))))))),240,[(0,3),(1,3),(2,3),(3,62)],none⟩),(250,⟨(.sl 3 .i64),32,[],some 4⟩),(282,⟨(.pair .i64 (.sl 5 .u8)),32,[(0,3),(1,22)],none⟩),(284,⟨(.pair .i64 (.pair .str .i64)),32,[(0,3),(1,9),(2,3)],none⟩)]
def EQS:List Nat:=[60]
theorem tysOK:ym Tryz.prog TYS=true:=by kernel_rfl
theorem RT:EQS.all (LV Tryz.prog TYS)=true:=by kernel_rfl
theorem Uw:Tryz.prog.follows .mixedOrders=true:=by kernel_rfl
theorem JK {fns:List (Nat×PF)} {news:List (Nat×NF)} {muts:List (Nat×MF)} {frz hold:Bool} {conds joins alts:List (Nat×PF)} {thaws:List (Nat×Nat)} (h:AllS Tryz.prog GLB fns) (h2:AllN Tryz.prog GLB news) (h3:AllM Tryz.prog GLB muts) (h4:AllC Tryz.prog GLB conds) (h5:AllJ Tryz.prog GLB joins) (h6:AllS Tryz.prog GLB alts):Ze Tryz.prog GLB ⟨TYS,fns,EQS,news,muts,frz,conds,joins,alts,hold,thaws⟩:=RS Uw tysOK RT h h2 h3 h4 h5 h6
def fe (fns:List (Nat×PF)) (ls:List (Nat×List Ev.Item)):yR:=⟨⟨TYS,fns,EQS,[],[],false,[],[],[],false,[]⟩,ls⟩
theorem ek {fns:List (Nat×PF)} {frz hold:Bool} {thaws:List (Nat×Nat)} (h:AllS Tryz.prog GLB fns):Ze Tryz.prog GLB ⟨TYS,fns,EQS,[],[],frz,[],[],[],hold,thaws⟩:=JK h trivial trivial trivial trivial trivial
abbrev R (t:Ty):PK×Ty:=(.rd,t)
abbrev Sd (f:Nat) (pf:PF):Prop:=Sound Tryz.prog GLB f pf
theorem sf {F:yR} {f:FuncId} {fn:Func} {pf:PF} (hE:Ze Tryz.prog GLB F.E) (hf:Tryz.prog.funcs[f]?=some fn) (he:∀ a,Qp F fn pf.params pf.rets pf.rk a=pf.fn a) (hn:(fn.name == "runtime.NumGoroutine")=false:=by kernel_rfl) (ht:F.E.thaws=[]:=by rfl):Sd f pf:=Dr hE hf hn (λ a o h=>(he a).trans h) (.inl ht)
def oP (pf:PF) (v:zR pf.params pf.rets):PF:={pf with fn:=λ _=>some v}
def LF:Code->Code | .seq a _=>a|c=>c
def Jz:Code->Code | .seq _ b=>b|c=>c
def uc:Code->Code | .cond _ a _=>a|c=>c
def rn (F:yR) (c:Code) (st:St):St:=match jC F c st (λ _ s=>some s) with|some s=>s|none=>st
def rgo (F:yR) (c:Code) (lo hi:Nat) (st:St):St:=match c with | .region _ ops _=>(match evReg F.E ops.toList ((ops.toList.take hi).drop lo) st some with|some s=>s|none=>st)|_=>st
def en (fn:Func) (ps:List (PK×Ty)) (args:z7 ps):St:=match y7 ps args 0 with|some (avs,es,j)=>{ slots:=avs++List.replicate (fn.ntmps - avs.length) (.tup []),tab:=es,nxt:=j,lvl:=0 }|none=>⟨[],[],0,0⟩
def Qo (F:yR) (fn:Func) (ps:List (PK×Ty)) (rets:List Ty) (rk:RK) (args:z7 ps) (c:Code) (st:St):Option (zR ps rets):=jC F c st λ x st=>match x with | .exit _=>none | .normal=>Nn F fn ps rets rk args st | .ret=>Nn F fn ps rets rk args st
theorem bc {α β:Type} {x:Option α} {f g:α->Option β} (h:∀ y,f y=g y):x.bind f=x.bind g:=by rw[funext h]
theorem cc {α:Type} {c:Bool} {x y z t:α} (h:x=z) (k:y=t):(bif c then x else y)=bif c then z else t:=by rw[h,k]
def F5:=fe [] []
def A1:PF:=⟨[R (.sl 5 .u8)],[.bool],.uniq,nD⟩
theorem s5:Sd 5 A1:=sf (F:=F5) (ek trivial) Tryz.func5 λ a=>by kernel_rfl
def tq:=fe [] [(3,[.slot 3 .i64 (.imm false),.slot 4 .i64 (.imm false)])]
def aK:NF:=⟨[(.rd,(.sl 5 .u8))],q6,LC⟩
theorem RI (a:z7 [(.rd,(.sl 5 .u8))]):mz tq Tryz.f48 [(.rd,(.sl 5 .u8))] q6 a=LC a:=by kernel_rfl
theorem gn:KV Tryz.prog GLB 48 aK:=aax (F:=tq) (ek trivial) Tryz.func48 (by kernel_rfl) (λ a o h=>(RI a).trans h)
def FJ:=fe [] []
def xj:PF:=⟨[(.ptr,q6)],[.i64],.uniq,LB⟩
theorem Wc:Sd 144 xj:=sf (F:=FJ) (ek trivial) Tryz.func144 λ a=>by kernel_rfl
def ON:=fe [(144,xj)] []
def yw:PF:=⟨[(.ptr,q6),R .i64],[.i64],.uniq,zk⟩
theorem yA:Sd 60 yw:=sf (F:=ON) (ek ⟨Wc,trivial⟩) Tryz.func60 λ a=>by kernel_rfl
def Fk:=fe [(60,yw)] []
def Yl:PF:=⟨[(.ptr,q6),R (.sl 3 .i64)],[.i64],.uniq,jo⟩
theorem YT:Sd 121 Yl:=sf (F:=Fk) (ek ⟨yA,trivial⟩) Tryz.func121 λ a=>by kernel_rfl
def OF:=fe [(60,yw)] []
def pf51:PF:=⟨[(.ptr,q6),R .i64],[.bool],.uniq,ZK⟩
theorem YV:Sd 51 pf51:=sf (F:=OF) (ek ⟨yA,trivial⟩) Tryz.func51 λ a=>by kernel_rfl
def Pb:=fe [] []
def jT:PF:=⟨[R .i64,R .i64,R .i64],[.bool],.uniq,yo⟩
theorem j3:Sd 84 jT:=sf (F:=Pb) (ek trivial) Tryz.func84 λ a=>by kernel_rfl
def Pa:=fe [(84,jT)] []
def Yn:PF:=⟨[R (.pair .i64 .i64)],[.bool],.uniq,ZW⟩
theorem YW:Sd 83 Yn:=sf (F:=Pa) (ek ⟨j3,trivial⟩) Tryz.func83 λ a=>by kernel_rfl
def Ie:=fe [] [(4,[.slot 5 (.sl 9 .str) (.own true),.slot 6 .i64 (.imm false),.slot 7 .i64 (.imm false)])]
def oO:PF:=⟨[R .str,R .u8],[(.sl 9 .str)],.uniq,bQ⟩
theorem Cq:Sd 231 oO:=sf (F:=Ie) (ek trivial) Tryz.func231 λ a=>by kernel_rfl
def If:=fe [] [(2,[.slot 7 .i64 (.imm false)])]
def oQ:PF:=⟨[R .str,R .u8],[.str,.str,.bool],.uniq,LD⟩
theorem Cr:Sd 232 oQ:=sf (F:=If) (ek trivial) Tryz.func232 λ a=>by kernel_rfl
def GW:=fe [] [(5,[.slot 0 .i64 (.imm false),.slot 4 .str (.imm false)])]
def aE:PF:=⟨[R .i64],[.str],.uniq,Jx⟩
theorem ge:Sd 215 aE:=sf (F:=GW) (ek trivial) Tryz.func215 λ a=>by kernel_rfl
def Ig:=fe [(215,aE)] [(5,[.slot 4 .i64 (.imm false),.slot 5 .i64 (.imm false)])]
def oR:PF:=⟨[R .str],[.i64,.bool],.uniq,Lw⟩
theorem Cs:Sd 233 oR:=sf (F:=Ig) (ek ⟨ge,trivial⟩) Tryz.func233 λ a=>by kernel_rfl
def Gc:=fe [(84,jT)] []
def Me:PF:=⟨[R q5],[.bool],.uniq,KK⟩
theorem N6:Sd 165 Me:=sf (F:=Gc) (ek ⟨j3,trivial⟩) Tryz.func165 λ a=>by kernel_rfl
def IT:=fe [(165,Me),(215,aE)] []
def oW:PF:=⟨[R q5],[.str],.uniq,qF⟩
theorem Cx:Sd 281 oW:=sf (F:=IT) (ek ⟨N6,ge,trivial⟩) Tryz.func281 λ a=>by kernel_rfl
def IQ:=fe [(232,oQ),(233,oR),(281,oW)] []
def Ax:PF:=⟨[R .str],[q5,.bool],.uniq,bU⟩
theorem Xe:Sd 278 Ax:=sf (F:=IQ) (ek ⟨Cr,Cs,Cx,trivial⟩) Tryz.func278 λ a=>by kernel_rfl
def Ih:=fe [(231,oO),(278,Ax)] [(6,[.slot 4 (.sl 60 q5) (.own true),.slot 6 .i64 (.imm false)])]
def xY:PF:=⟨[R .str],[(.sl 60 q5),.bool],.uniq,kp⟩
theorem WN:Sd 234 xY:=sf (F:=Ih) (ek ⟨Cq,Xe,trivial⟩) Tryz.func234 λ a=>by kernel_rfl
def FW:=fe [(231,oO),(232,oQ),(233,oR),(234,xY)] [(10,[.slot 5 fP (.own true),.slot 7 .i64 (.imm false),.slot 8 .i64 (.imm false)])]
def az:PF:=⟨[R .str],[fP,.bool],.uniq,MC⟩
theorem f8:Sd 156 az:=sf (F:=FW) (ek ⟨Cq,Cr,Cs,WN,trivial⟩) Tryz.func156 λ a=>by kernel_rfl
def Gb:=fe [(156,az)] []
def Kt:PF:=⟨[R .str],[.bool],.uniq,Y3⟩
theorem Lo:Sd 164 Kt:=sf (F:=Gb) (ek ⟨f8,trivial⟩) Tryz.func164 λ a=>by kernel_rfl
def GC:=fe [(156,az)] []
def Ym:PF:=⟨[R .str],[.i64],.uniq,ZI⟩
theorem YU:Sd 195 Ym:=sf (F:=GC) (ek ⟨f8,trivial⟩) Tryz.func195 λ a=>by kernel_rfl
def Il:=fe [] [(2,[.slot 5 .i64 (.imm false)])]
def fB:PF:=⟨[R .i64,R (.sl 3 .i64)],[.bool],.uniq,qB⟩
theorem rz:Sd 238 fB:=sf (F:=Il) (ek trivial) Tryz.func238 λ a=>by kernel_rfl
def E9:=fe [(83,Yn)] []
def eX:PF:=⟨[R (.pair .i64 .i64)],[.i64],.uniq,qw⟩
theorem ra:Sd 110 eX:=sf (F:=E9) (ek ⟨YW,trivial⟩) Tryz.func110 λ a=>by kernel_rfl
def Ga:=fe [(83,Yn),(164,Kt),(195,Ym),(238,fB),(110,eX)] []
def pf163:PF:=⟨[R (.pair .i64 .i64),R q4],[.bool],.uniq,Y4⟩
theorem Ln:Sd 163 pf163:=sf (F:=Ga) (ek ⟨YW,Lo,YU,rz,ra,trivial⟩) Tryz.func163 λ a=>by kernel_rfl
def Pc:=fe [(84,jT),(163,pf163),(164,Kt)] []
def Mi:PF:=⟨[R (.pair .i64 .i64),R q7],[.bool],.uniq,KJ⟩
theorem qa:Sd 85 Mi:=sf (F:=Pc) (ek ⟨j3,Ln,Lo,trivial⟩) Tryz.func85 λ a=>by kernel_rfl
def Gd:=fe [] []
def om:PF:=⟨[R q5,R q5],[.bool],.uniq,cm⟩
theorem B4:Sd 166 om:=sf (F:=Gd) (ek trivial) Tryz.func166 λ a=>by kernel_rfl
def Pd:=fe [(165,Me),(166,om)] [(2,[.slot 3 .i64 (.imm false)])]
def pn:PF:=⟨[R (.sl 60 q5)],[.bool],.uniq,My⟩
theorem CS:Sd 86 pn:=sf (F:=Pd) (ek ⟨N6,B4,trivial⟩) Tryz.func86 λ a=>by kernel_rfl
def Ge:=fe [(83,Yn),(84,jT),(238,fB),(164,Kt),(195,Ym)] []
def aA:PF:=⟨[R (.pair .i64 .i64),R q4],[.bool],.uniq,KH⟩
theorem f9:Sd 167 aA:=sf (F:=Ge) (ek ⟨YW,j3,rz,Lo,YU,trivial⟩) Tryz.func167 λ a=>by kernel_rfl
def Gf:=fe [] []
def oo:PF:=⟨[R q4,R q4],[.bool],.uniq,bY⟩
theorem B5:Sd 168 oo:=sf (F:=Gf) (ek trivial) Tryz.func168 λ a=>by kernel_rfl
def Pe:=fe [(167,aA),(168,oo)] [(2,[.slot 5 .i64 (.imm false)])]
def po:PF:=⟨[R (.pair .i64 .i64),R (.sl 58 q4)],[.bool],.uniq,MD⟩
theorem CT:Sd 87 po:=sf (F:=Pe) (ek ⟨f9,B5,trivial⟩) Tryz.func87 λ a=>by kernel_rfl
def Pf:=fe [(84,jT)] []
def aL:PF:=⟨[R Zp],[.bool],.uniq,Lu⟩
theorem gq:Sd 88 aL:=sf (F:=Pf) (ek ⟨j3,trivial⟩) Tryz.func88 λ a=>by kernel_rfl
def G8:=fe [] [(2,[.slot 5 .i64 (.imm false)])]
def oM:PF:=⟨[R (.sl 3 .i64),R (.sl 3 .i64)],[.bool],.uniq,co⟩
theorem Co:Sd 226 oM:=sf (F:=G8) (ek trivial) Tryz.func226 λ a=>by kernel_rfl
def FM:=fe [(226,oM)] []
def fg:PF:=⟨[R q4,R q4],[.bool],.uniq,qv⟩
theorem rh:Sd 147 fg:=sf (F:=FM) (ek ⟨Co,trivial⟩) Tryz.func147 λ a=>by kernel_rfl
def FO:=fe [(147,fg)] []
def xn:PF:=⟨[R (.pair .str q4),R (.pair .str q4)],[.bool],.uniq,gH⟩
theorem Wf:Sd 149 xn:=sf (F:=FO) (ek ⟨rh,trivial⟩) Tryz.func149 λ a=>by kernel_rfl
def FQ:=fe [(226,oM)] []
def xt:PF:=⟨[R q4,R q4],[.bool],.uniq,kE⟩
theorem Wh:Sd 150 xt:=sf (F:=FQ) (ek ⟨Co,trivial⟩) Tryz.func150 λ a=>by kernel_rfl
def OV:=fe [(149,xn),(150,xt),(147,fg)] []
def pd:PF:=⟨[R q2,R q2],[.bool],.uniq,KF⟩
theorem CL:Sd 68 pd:=sf (F:=OV) (ek ⟨Wf,Wh,rh,trivial⟩) Tryz.func68 λ a=>by kernel_rfl
def Gg:=fe [(68,pd)] []
def xB:PF:=⟨[R q2],[.bool],.uniq,kF⟩
theorem Wo:Sd 169 xB:=sf (F:=Gg) (ek ⟨CL,trivial⟩) Tryz.func169 λ a=>by kernel_rfl
def OY:=fe [] []
def Ku:PF:=⟨[R .i64,R .i64],[.i64],.uniq,y6⟩
theorem Lp:Sd 71 Ku:=sf (F:=OY) (ek trivial) Tryz.func71 λ a=>by kernel_rfl
def Im:=fe [(164,Kt),(71,Ku)] [(4,[.slot 3 .i64 (.imm false)])]
def aG:PF:=⟨[R .str],[.str],.uniq,Lz⟩
theorem gh:Sd 239 aG:=sf (F:=Im) (ek ⟨Lo,Lp,trivial⟩) Tryz.func239 λ a=>by kernel_rfl
def Gi:=fe [(163,pf163),(164,Kt),(239,aG)] []
def aB:PF:=⟨[R (.pair .i64 .i64),R (.pair .str q4)],[.bool],.uniq,Mu⟩
theorem ga:Sd 170 aB:=sf (F:=Gi) (ek ⟨Ln,Lo,gh,trivial⟩) Tryz.func170 λ a=>by kernel_rfl
def Pg:=fe [(83,Yn),(169,xB),(170,aB),(167,aA),(84,jT),(163,pf163),(165,Me)] []
def Mj:PF:=⟨[R (.pair .i64 .i64),R q2],[.bool],.uniq,Yd⟩
theorem qb:Sd 89 Mj:=sf (F:=Pg) (ek ⟨YW,Wo,ga,f9,j3,Ln,N6,trivial⟩) Tryz.func89 λ a=>by kernel_rfl
def GQ:=fe [(83,Yn),(84,jT),(85,Mi),(86,pn),(87,po),(88,aL),(89,Mj)] [(4,[.slot 5 .i64 (.imm false)])]
def Zb:PF:=⟨[R (.pair .i64 .i64),R q1],[.bool],.uniq,jV⟩
theorem Zr:Sd 21 Zb:=sf (F:=GQ) (ek ⟨YW,j3,qa,CS,CT,gq,qb,trivial⟩) Tryz.func21 λ a=>by kernel_rfl
def Ft:=fe [(21,Zb)] []
def oa:PF:=⟨[R (.pair .i64 .i64),R .i64],[q1,.bool],.uniq,bM⟩
theorem s13:Sd 13 oa:=sf (F:=Ft) (ek ⟨Zr,trivial⟩) Tryz.func13 λ a=>by kernel_rfl
def I5:=fe [(83,Yn)] []
def AI:PF:=⟨[R (.pair .i64 .i64)],[.i64],.uniq,gP⟩
theorem Xs:Sd 327 AI:=sf (F:=I5) (ek ⟨YW,trivial⟩) Tryz.func327 λ a=>by kernel_rfl
def FS:=fe [] [(3,[.slot 7 .i64 (.imm false),.slot 8 .i64 (.imm false)])]
def fh:PF:=⟨[R (.sl 5 .u8),R .i64],[.i64,.i64,.bool],.uniq,qk⟩
theorem ri:Sd 152 fh:=sf (F:=FS) (ek trivial) Tryz.func152 λ a=>by kernel_rfl
def G9:=fe [(152,fh)] []
def aF:PF:=⟨[(.ptr,JX)],[.i64],.uniq,ZJ⟩
theorem gg:Sd 227 aF:=sf (F:=G9) (ek ⟨ri,trivial⟩) Tryz.func227 λ a=>by kernel_rfl
def IP:=fe [(152,fh)] []
def Aw:PF:=⟨[R (.sl 5 .u8),R .i64],[.str,.i64,.bool],.uniq,gQ⟩
theorem Xd:Sd 277 Aw:=sf (F:=IP) (ek ⟨ri,trivial⟩) Tryz.func277 λ a=>by kernel_rfl
def Ib:=fe [(277,Aw)] []
def fA:PF:=⟨[(.ptr,JX)],[.str],.uniq,MH⟩
theorem ry:Sd 229 fA:=sf (F:=Ib) (ek ⟨Xd,trivial⟩) Tryz.func229 λ a=>by kernel_rfl
def IO:=fe [(227,aF)] [(4,[.slot 3 (.sl 3 .i64) (.own true),.slot 5 .i64 (.imm false),.keep 0 JX [2,0,0]])]
def oV:PF:=⟨[(.ptr,JX)],[(.sl 3 .i64)],.uniq,ca⟩
theorem Cw:Sd 276 oV:=sf (F:=IO) (ek ⟨gg,trivial⟩) Tryz.func276 λ a=>by kernel_rfl
def Ia:=fe [(227,aF),(229,fA),(276,oV)] []
def oN:PF:=⟨[(.ptr,JX)],[q4],.uniq,qM⟩
theorem Cp:Sd 228 oN:=sf (F:=Ia) (ek ⟨gg,ry,Cw,trivial⟩) Tryz.func228 λ a=>by kernel_rfl
def I6:=fe [(227,aF),(229,fA),(228,oN),(276,oV),(89,Mj)] []
def fG:PF:=⟨[R (.pair .i64 .i64),R (.sl 5 .u8)],[q2,.bool],.uniq,qo⟩
theorem rE:Sd 328 fG:=sf (F:=I6) (ek ⟨gg,ry,Cp,Cw,qb,trivial⟩) Tryz.func328 λ a=>by kernel_rfl
def IY:=fe [(83,Yn),(238,fB),(327,AI),(21,Zb),(328,fG),(84,jT),(164,Kt),(195,Ym)] [(4,[.slot 3 .i64 (.imm false)]),(9,[.slot 4 .i64 (.imm false)]),(15,[.slot 7 .i64 (.imm false)])]
def AE:PF:=⟨[R q3],[.bool],.uniq,qJ⟩
theorem Xm:Sd 310 AE:=sf (F:=IY) (ek ⟨YW,rz,Xs,Zr,rE,j3,Lo,YU,trivial⟩) Tryz.func310 λ a=>by kernel_rfl
def IV:=fe [(83,Yn),(13,oa),(310,AE)] [(3,[.slot 7 .i64 (.imm false),.box 5 q3 (.own true)])]
def AC:PF:=⟨[R (.pair .i64 .i64),R (.sl 3 .i64)],[q3,.bool],.uniq,bW⟩
theorem Xj:Sd 291 AC:=sf (F:=IV) (ek ⟨YW,s13,Xm,trivial⟩) Tryz.func291 λ a=>by kernel_rfl
def IB:=fe [(121,Yl),(60,yw),(51,pf51),(291,AC)] []
def An:PF:=⟨[(.ptr,q6)],[q3],.uniq,kS⟩
theorem W4:Sd 263 An:=sf (F:=IB) (ek ⟨YT,yA,YV,Xj,trivial⟩) Tryz.func263 λ a=>by kernel_rfl
def E5:=fe [(83,Yn)] []
def Lg:PF:=⟨[R (.pair .i64 .i64),R .i64],[.i64],.uniq,jN⟩
theorem Mp:Sd 104 Lg:=sf (F:=E5) (ek ⟨YW,trivial⟩) Tryz.func104 λ a=>by kernel_rfl
def Gz:=fe [] []
def NS:PF:=⟨[R q4],[q4],.uniq,J1⟩
theorem bm:Sd 191 NS:=sf (F:=Gz) (ek trivial) Tryz.func191 λ a=>by kernel_rfl
def E7:=fe [(191,NS)] [(2,[.slot 7 .i64 (.imm false),.box 1 q4 (.own true)])]
def eW:PF:=⟨[R (.sl 58 q4),R .i64,R .str],[q4],.uniq,qE⟩
theorem pZ:Sd 109 eW:=sf (F:=E7) (ek ⟨bm,trivial⟩) Tryz.func109 λ a=>by kernel_rfl
def O1:=fe [] [(3,[.slot 2 .i64 (.imm false),.box 2 q8 (.own true)])]
def pj:PF:=⟨[],[q8],.uniq,qn⟩
theorem CP:Sd 74 pj:=sf (F:=O1) (ek trivial) Tryz.func74 λ a=>by kernel_rfl
def O2:=fe [(156,az)] [(4,[.slot 3 (.sl 60 q5) (.own true),.slot 6 .i64 (.imm false)])]
def pk:PF:=⟨[R .str],[(.sl 60 q5)],.uniq,qG⟩
theorem CQ:Sd 75 pk:=sf (F:=O2) (ek ⟨f8,trivial⟩) Tryz.func75 λ a=>by kernel_rfl
def FU:=fe [] []
def fi:PF:=⟨[R q8],[q8],.uniq,MK⟩
theorem rj:Sd 154 fi:=sf (F:=FU) (ek trivial) Tryz.func154 λ a=>by kernel_rfl
def Id:=fe [(84,jT)] [(4,[.slot 3 .i64 (.imm false)])]
def xX:PF:=⟨[R q8],[.bool],.uniq,bF⟩
theorem WM:Sd 230 xX:=sf (F:=Id) (ek ⟨j3,trivial⟩) Tryz.func230 λ a=>by kernel_rfl
def FV:=fe [(154,fi),(230,xX),(165,Me)] []
def fj:PF:=⟨[R q8,R q5],[q8,.i64],.uniq,Mx⟩
theorem rm:Sd 155 fj:=sf (F:=FV) (ek ⟨rj,WM,N6,trivial⟩) Tryz.func155 λ a=>by kernel_rfl
def O0:=fe [(154,fi),(155,fj)] [(4,[.slot 7 (.sl 3 .i64) (.own true),.slot 8 .i64 (.imm false),.box 7 q8 (.own true)])]
def pi:PF:=⟨[R q8,R (.sl 60 q5)],[q8,(.sl 3 .i64)],.uniq,qs⟩
theorem CO:Sd 73 pi:=sf (F:=O0) (ek ⟨rj,rm,trivial⟩) Tryz.func73 λ a=>by kernel_rfl
def Fb:=fe [(154,fi),(155,fj)] [(4,[.slot 5 (.sl 60 q5) (.own true),.slot 7 .i64 (.imm false),.box 7 q8 (.own true)])]
def wS:PF:=⟨[R (.sl 60 q5),R q8],[(.sl 60 q5)],.uniq,bL⟩
theorem VR:Sd 112 wS:=sf (F:=Fb) (ek ⟨rj,rm,trivial⟩) Tryz.func112 λ a=>by kernel_rfl
def Ip:=fe [(165,Me),(281,oW)] [(3,[.slot 3 .str (.imm false),.slot 4 .i64 (.imm false)])]
def Ae:PF:=⟨[R (.sl 60 q5)],[.str],.uniq,kq⟩
theorem WT:Sd 241 Ae:=sf (F:=Ip) (ek ⟨N6,Cx,trivial⟩) Tryz.func241 λ a=>by kernel_rfl
def Gs:=fe [(165,Me),(215,aE),(241,Ae),(164,Kt)] [(2,[.slot 7 .i64 (.imm false)])]
def aC:PF:=⟨[R .str,R .i64,R (.sl 60 q5)],[.str],.uniq,Lv⟩
theorem gc:Sd 179 aC:=sf (F:=Gs) (ek ⟨N6,ge,WT,Lo,trivial⟩) Tryz.func179 λ a=>by kernel_rfl
def Fw:=fe [] []
def Md:PF:=⟨[R q4],[q4],.uniq,Jy⟩
theorem N5:Sd 132 Md:=sf (F:=Fw) (ek trivial) Tryz.func132 λ a=>by kernel_rfl
def Fa:=fe [(179,aC),(132,Md),(170,aB),(195,Ym)] []
def eY:PF:=⟨[R (.pair .i64 .i64),R q4,R .i64,R (.sl 60 q5)],[(.pair .str q4),.bool],.uniq,yh⟩
theorem rb:Sd 111 eY:=sf (F:=Fa) (ek ⟨gc,N5,ga,YU,trivial⟩) Tryz.func111 λ a=>by kernel_rfl
def Oy:=fe [(21,Zb),(104,Lg),(109,eW),(110,eX),(74,pj),(75,pk),(73,pi),(112,wS),(111,eY)] []
def fI:PF:=⟨[R (.pair .i64 .i64),R q1],[(.pair .str q4),.bool],.uniq,KD⟩
theorem rG:Sd 40 fI:=sf (F:=Oy) (ek ⟨Zr,Mp,pZ,ra,CP,CQ,CO,VR,rb,trivial⟩) Tryz.func40 λ a=>by kernel_rfl
def Is:=fe [] [(2,[.slot 5 .i64 (.imm false)])]
def Z6:PF:=⟨[R (.sl 3 .i64),R .i64],[.bool],.uniq,jD⟩
theorem Ys:Sd 248 Z6:=sf (F:=Is) (ek trivial) Tryz.func248 λ a=>by kernel_rfl
def Gr:=fe [(60,yw),(121,Yl)] []
def Lh:PF:=⟨[(.ptr,q6)],[q5],.uniq,yb⟩
theorem Mq:Sd 178 Lh:=sf (F:=Gr) (ek ⟨yA,YT,trivial⟩) Tryz.func178 λ a=>by kernel_rfl
def OX:=fe [] []
def Mg:PF:=⟨[R .i64,R .i64],[.i64],.uniq,yj⟩
theorem N8:Sd 70 Mg:=sf (F:=OX) (ek trivial) Tryz.func70 λ a=>by kernel_rfl
def IE:=fe [(248,Z6)] [(4,[.slot 5 .i64 (.imm false)])]
def aH:PF:=⟨[R (.sl 3 .i64),R .i64],[(.sl 3 .i64)],.uniq,Ye⟩
theorem gi:Sd 266 aH:=sf (F:=IE) (ek ⟨Ys,trivial⟩) Tryz.func266 λ a=>by kernel_rfl
def I3:=fe [(60,yw),(179,aC),(70,Mg),(51,pf51),(239,aG),(266,aH)] [(11,[.slot 7 (.sl 3 .i64) (.own true),.slot 9 .i64 (.imm false)])]
def pf315:PF:=⟨[(.ptr,q6),R q3],[q2],.uniq,cj⟩
theorem Xq:Sd 315 pf315:=sf (F:=I3) (ek ⟨yA,gc,N8,YV,gh,gi,trivial⟩) Tryz.func315 λ a=>by kernel_rfl
def I4:=fe [] []
def pf316:PF:=⟨[],[q4],.uniq,g9⟩
theorem Xr:Sd 316 pf316:=sf (F:=I4) (ek trivial) Tryz.func316 λ a=>by kernel_rfl
def Yz:=fe [(315,pf315),(163,pf163),(316,pf316),(51,pf51),(60,yw),(132,Md),(70,Mg),(104,Lg),(178,Lh),(111,eY)] [(17,[.slot 8 .i64 (.imm false),.slot 9 .i64 (.imm false)])]
def pf293:PF:=⟨[(.ptr,q6),R q3],[q2],.uniq,qQ⟩
def eh:Code:=match Tryz.f293.body with|some b=>b|none=>.skip
def nn:Code:=LF eh
def np:Code:=LF (Jz eh)
def nq:Code:=LF (Jz (Jz eh))
def nt:Code:=Jz (Jz (Jz eh))
def nr:Code:=LF (LF nt)
def nl:Code:=Jz (LF nt)
def NE:Code:=Jz nt
def nk:Code:=uc nl
def TX:Code:=LF nk
def ns:Code:=LF (Jz nk)
def vM:Code:=uc (Jz (Jz nk))
def nu (a:z7 pf293.params) (r0:zR pf315.params pf315.rets) (r1:zR pf163.params pf163.rets):St:=rn (fe [(315,oP pf315 r0),(163,oP pf163 r1)] []) (.seq nn (.seq np (.seq nq nr))) (en Tryz.f293 pf293.params a)
def vN (a:z7 pf293.params) (r0:zR pf315.params pf315.rets) (r1:zR pf163.params pf163.rets) (r2:zR pf316.params pf316.rets):St:=rgo (fe [(316,oP pf316 r2)] []) ns 0 5 (rn (fe [(316,oP pf316 r2)] []) TX (nu a r0 r1))
def vO (a:z7 pf293.params) (r0:zR pf315.params pf315.rets) (r1:zR pf163.params pf163.rets) (r2:zR pf316.params pf316.rets):St:=rgo (fe [] []) ns 5 8 ((vN a r0 r1 r2).put (some 35) (.v (.one (.b false))))
def ei (a:z7 pf293.params) (r0:zR pf315.params pf315.rets) (r1:zR pf163.params pf163.rets) (r2:zR pf316.params pf316.rets) (r3:zR pf51.params pf51.rets):St:=rgo (fe [(51,oP pf51 r3)] []) ns 5 8 ((vN a r0 r1 r2).put (some 35) (.v (.one (.b true))))
theorem T3 (rest:Code) (a:z7 pf293.params) {β:Type} (k:X->St->Option β):jC Yz (.seq nn (.seq np (.seq nq (.seq (.seq nr nl) rest)))) (en Tryz.f293 pf293.params a) k=((cj (a.1,(a.2.1,()))).bind λ r0=>((Y4 (a.2.1.1,(r0.2.1.2.2.2.1,()))).bind λ r1=>(bif (!r1.1) then ((g9 ()).bind λ r2=>(bif (decide ((((List.length a.2.1.2.2.1):Nat):Int)>0)) then ((ZK ((a.1.1,r0.1.2),(2,()))).bind λ r3=>(bif r3.2.1 then (jC Yz (.seq vM rest) (ei a r0 r1 r2 r3) k) else (jC Yz rest (ei a r0 r1 r2 r3) k))) else (jC Yz rest (vO a r0 r1 r2) k))) else (jC Yz rest (nu a r0 r1) k)))):=by kernel_rfl
theorem TY (a:z7 pf293.params) (r0:zR pf315.params pf315.rets) (r1:zR pf163.params pf163.rets) (r2:zR pf316.params pf316.rets) (r3:zR pf51.params pf51.rets):Qo Yz Tryz.f293 pf293.params pf293.rets pf293.rk a (.seq vM NE) (ei a r0 r1 r2 r3)=((zk ((a.1.1,r3.1.2),((((List.length a.2.1.2.2.1):Nat):Int),()))).bind λ r4=>(if ((0<=r4.2.1)/\(r4.2.1<(((List.length a.2.1.2.2.1):Nat):Int))) then ((Jy ((rd (.pair .i64 (.pair .i64 (.pair .i64 (.pair (.pair .i64 (.pair .i64 (.pair aU .str))) (.pair (.sl 0 q5) (.pair (.sl 0 aU) (.pair (.pair (.sl 0 .u8) .i64) (.sl 0 (.pair .i64 (.pair .i64 (.pair .i64 (.pair (.pair .str aU) (.pair aU (.pair aU (.pair .i64 q5))))))))))))))) a.2.1.2.2.1 (Int.toNat r4.2.1)).2.2.2.1.2.2.1,())).bind λ r5=>(sC (a,(r0,(r4,r5))))) else none)):=by kernel_rfl
theorem TW (a:z7 pf293.params) (r0:zR pf315.params pf315.rets) (r1:zR pf163.params pf163.rets) (r2:zR pf316.params pf316.rets) (r3:zR pf51.params pf51.rets):Qo Yz Tryz.f293 pf293.params pf293.rets pf293.rk a NE (ei a r0 r1 r2 r3)=sB (a,(r0,(r2,r3))):=by kernel_rfl
theorem TZ (a:z7 pf293.params) (r0:zR pf315.params pf315.rets) (r1:zR pf163.params pf163.rets) (r2:zR pf316.params pf316.rets):Qo Yz Tryz.f293 pf293.params pf293.rets pf293.rk a NE (vO a r0 r1 r2)=sD (a,(r0,r2)):=by kernel_rfl
theorem TV (a:z7 pf293.params) (r0:zR pf315.params pf315.rets) (r1:zR pf163.params pf163.rets):Qo Yz Tryz.f293 pf293.params pf293.rets pf293.rk a NE (nu a r0 r1)=sA (a,r0):=by kernel_rfl
theorem T1 (a:z7 pf293.params):Qp Yz Tryz.f293 pf293.params pf293.rets pf293.rk a=Qo Yz Tryz.f293 pf293.params pf293.rets pf293.rk a (.seq nn (.seq np (.seq nq (.seq (.seq nr nl) NE)))) (en Tryz.f293 pf293.params a):=by kernel_rfl
theorem Xl:Sd 293 pf293:=sf (F:=Yz) (ek ⟨Xq,Ln,Xr,YV,yA,N5,N8,Mp,Mq,rb,trivial⟩) Tryz.func293 λ a=>(T1 a).trans ((T3 NE a _).trans (bc λ r0=>bc λ r1=>cc (bc λ r2=>cc (bc λ r3=>cc (TY a r0 r1 r2 r3) (TW a r0 r1 r2 r3)) (TZ a r0 r1 r2)) (TV a r0 r1)))
def ID:=fe [(71,Ku),(60,yw),(40,fI),(248,Z6),(51,pf51),(121,Yl),(178,Lh),(293,pf293),(70,Mg)] [(8,[.slot 7 .i64 (.imm false),.box 7 q9 (.own true)]),(19,[.slot 10 .i64 (.imm false),.box 7 q9 (.own true)])]
def Ap:PF:=⟨[(.ptr,q6),R q3],[q9],.uniq,kQ⟩
theorem W6:Sd 265 Ap:=sf (F:=ID) (ek ⟨Lp,yA,rG,Ys,YV,YT,Mq,Xl,N8,trivial⟩) Tryz.func265 λ a=>by kernel_rfl
def OG:=fe [(132,Md)] []
def NT:PF:=⟨[R q7],[q7],.uniq,LA⟩
theorem bn:Sd 52 NT:=sf (F:=OG) (ek ⟨N5,trivial⟩) Tryz.func52 λ a=>by kernel_rfl
def FD:=fe [(191,NS)] [(3,[.slot 3 (.sl 58 q4) (.own true),.slot 4 .i64 (.imm false)])]
def od:PF:=⟨[R (.sl 58 q4)],[(.sl 58 q4)],.uniq,J2⟩
theorem B0:Sd 139 od:=sf (F:=FD) (ek ⟨bm,trivial⟩) Tryz.func139 λ a=>by kernel_rfl
def FF:=fe [] []
def ay:PF:=⟨[R Zp],[Zp],.uniq,KL⟩
theorem f7:Sd 140 ay:=sf (F:=FF) (ek trivial) Tryz.func140 λ a=>by kernel_rfl
def Io:=fe [(132,Md)] []
def Ad:PF:=⟨[R (.pair .str q4)],[(.pair .str q4)],.uniq,ln⟩
theorem WS:Sd 240 Ad:=sf (F:=Io) (ek ⟨N5,trivial⟩) Tryz.func240 λ a=>by kernel_rfl
def Gq:=fe [(240,Ad),(191,NS),(132,Md)] []
def oy:PF:=⟨[R q2],[q2],.uniq,cd⟩
theorem Ca:Sd 177 oy:=sf (F:=Gq) (ek ⟨WS,bm,N5,trivial⟩) Tryz.func177 λ a=>by kernel_rfl
def Fd:=fe [(177,oy)] [(3,[.slot 3 Kz (.own true),.slot 4 .i64 (.imm false)])]
def n8:PF:=⟨[R Kz],[Kz],.uniq,ce⟩
theorem BW:Sd 115 n8:=sf (F:=Fd) (ek ⟨Ca,trivial⟩) Tryz.func115 λ a=>by kernel_rfl
def OL:=fe [(52,NT),(139,od),(140,ay),(115,n8)] []
def Zc:PF:=⟨[R q1],[q1],.uniq,yv⟩
theorem Zs:Sd 57 Zc:=sf (F:=OL) (ek ⟨bn,B0,f7,BW,trivial⟩) Tryz.func57 λ a=>by kernel_rfl
def IG:=fe [(132,Md)] []
def Ar:PF:=⟨[R q4,R q4],[q4],.uniq,ka⟩
theorem W8:Sd 268 Ar:=sf (F:=IG) (ek ⟨N5,trivial⟩) Tryz.func268 λ a=>by kernel_rfl
def IH:=fe [(156,az),(239,aG)] []
def As:PF:=⟨[R .str],[.str,.bool],.uniq,kj⟩
theorem W9:Sd 269 As:=sf (F:=IH) (ek ⟨f8,gh,trivial⟩) Tryz.func269 λ a=>by kernel_rfl
def II:=fe [(164,Kt)] []
def At:PF:=⟨[R .str,R .str],[.bool],.uniq,gO⟩
theorem Xa:Sd 270 At:=sf (F:=II) (ek ⟨Lo,trivial⟩) Tryz.func270 λ a=>by kernel_rfl
def GU:=fe [(52,NT),(85,Mi),(163,pf163),(268,Ar),(239,aG),(195,Ym),(71,Ku),(269,As),(270,At)] []
def aD:PF:=⟨[R (.pair .i64 .i64),R q7,R q4],[q7],.uniq,MB⟩
theorem gd:Sd 213 aD:=sf (F:=GU) (ek ⟨bn,qa,Ln,W8,gh,YU,Lp,W9,Xa,trivial⟩) Tryz.func213 λ a=>by kernel_rfl
def IJ:=fe [(85,Mi),(170,aB),(195,Ym)] []
def oT:PF:=⟨[R (.pair .i64 .i64),R q7,R (.pair .str q4)],[.bool],.uniq,bH⟩
theorem Cu:Sd 271 oT:=sf (F:=IJ) (ek ⟨qa,ga,YU,trivial⟩) Tryz.func271 λ a=>by kernel_rfl
def GV:=fe [(52,NT),(271,oT),(195,Ym)] []
def oI:PF:=⟨[R (.pair .i64 .i64),R q7,R (.pair .str q4)],[q7,.bool],.uniq,qI⟩
theorem Ck:Sd 214 oI:=sf (F:=GV) (ek ⟨bn,Cu,YU,trivial⟩) Tryz.func214 λ a=>by kernel_rfl
def OR:=fe [(147,fg)] []
def fJ:PF:=⟨[R q7,R q7],[.bool],.uniq,qz⟩
theorem rI:Sd 64 fJ:=sf (F:=OR) (ek ⟨rh,trivial⟩) Tryz.func64 λ a=>by kernel_rfl
def G6:=fe [(84,jT)] [(4,[.slot 0 .i64 (.imm false),.slot 3 (.sl 5 .u8) (.own true)])]
def Li:PF:=⟨[R .i64],[(.sl 5 .u8)],.uniq,Zu⟩
theorem Mr:Sd 224 Li:=sf (F:=G6) (ek ⟨j3,trivial⟩) Tryz.func224 λ a=>by kernel_rfl
def IM:=fe [(224,Li)] []
def fE:PF:=⟨[R .str],[(.sl 5 .u8)],.uniq,Mz⟩
theorem rC:Sd 274 fE:=sf (F:=IM) (ek ⟨Mr,trivial⟩) Tryz.func274 λ a=>by kernel_rfl
def IL:=fe [(163,pf163),(224,Li),(274,fE)] [(6,[.slot 5 (.sl 5 .u8) (.own true),.slot 6 .i64 (.imm false)])]
def oU:PF:=⟨[R (.pair .i64 .i64),R q4],[(.sl 5 .u8)],.uniq,qu⟩
theorem Cv:Sd 273 oU:=sf (F:=IL) (ek ⟨Ln,Mr,rC,trivial⟩) Tryz.func273 λ a=>by kernel_rfl
def G5:=fe [(85,Mi),(224,Li),(273,oU),(274,fE)] []
def xU:PF:=⟨[R (.pair .i64 .i64),R q7],[(.sl 5 .u8)],.uniq,kc⟩
theorem WJ:Sd 223 xU:=sf (F:=G5) (ek ⟨qa,Mr,Cv,rC,trivial⟩) Tryz.func223 λ a=>by kernel_rfl
def FH:=fe [(223,xU),(224,Li)] []
def xh:PF:=⟨[R (.pair .i64 .i64),R q7],[(.sl 5 .u8)],.uniq,gX⟩
theorem Wa:Sd 142 xh:=sf (F:=FH) (ek ⟨WJ,Mr,trivial⟩) Tryz.func142 λ a=>by kernel_rfl
def FG:=fe [(140,ay),(88,aL)] []
def xg:PF:=⟨[R Zp,R (.sl 5 .u8)],[Zp,.bool],.uniq,gF⟩
theorem V9:Sd 141 xg:=sf (F:=FG) (ek ⟨f7,gq,trivial⟩) Tryz.func141 λ a=>by kernel_rfl
def tr:=fe [(64,fJ),(142,xh),(141,xg),(85,Mi),(52,NT)] []
def pf58:PF:=⟨[R (.pair .i64 .i64),(.own,q1),R q7],[q1,.bool],.own,Yf⟩
theorem RJ (a:z7 pf58.params):my tr Tryz.f58 pf58.params pf58.rets pf58.rk a=pf58.fn a:=by kernel_rfl
theorem go:KT Tryz.prog GLB 58 pf58:=aaw (F:=tr) (ek ⟨rI,Wa,V9,qa,bn,trivial⟩) Tryz.func58 (by kernel_rfl) (by rfl) (λ a o h=>(RJ a).trans h)
def Ix:=fe [(266,aH)] [(3,[.slot 5 (.sl 3 .i64) (.own true),.slot 6 .i64 (.imm false)]),(7,[.slot 5 (.sl 3 .i64) (.own true),.slot 7 .i64 (.imm false)])]
def Aj:PF:=⟨[R (.sl 3 .i64),R (.sl 3 .i64)],[(.sl 3 .i64)],.uniq,kh⟩
theorem WY:Sd 255 Aj:=sf (F:=Ix) (ek ⟨gi,trivial⟩) Tryz.func255 λ a=>by kernel_rfl
def GA:=fe [(255,Aj)] []
def xI:PF:=⟨[R q4,R q4],[q4,.bool],.uniq,gY⟩
theorem Wv:Sd 192 xI:=sf (F:=GA) (ek ⟨WY,trivial⟩) Tryz.func192 λ a=>by kernel_rfl
def E6:=fe [(191,NS),(168,oo),(192,xI),(87,po),(167,aA),(139,od)] [(4,[.slot 8 (.sl 58 q4) (.own true),.slot 9 .bool (.imm false),.slot 10 .i64 (.imm false)])]
def NO:PF:=⟨[R (.pair .i64 .i64),R (.sl 58 q4),R q4],[(.sl 58 q4),.bool],.uniq,Ly⟩
theorem bh:Sd 105 NO:=sf (F:=E6) (ek ⟨bm,B5,Wv,CT,f9,B0,trivial⟩) Tryz.func105 λ a=>by kernel_rfl
def Iq:=fe [(163,pf163)] []
def Af:PF:=⟨[R (.pair .i64 .i64),R q4],[q4,.bool],.uniq,gZ⟩
theorem WU:Sd 246 Af:=sf (F:=Iq) (ek ⟨Ln,trivial⟩) Tryz.func246 λ a=>by kernel_rfl
def Pk:=fe [(89,Mj),(84,jT),(177,oy)] []
def aN:PF:=⟨[R (.pair .i64 .i64),(.own,q1),R .i64,R q2],[q1,.bool],.own,KM⟩
theorem gt:Sd 93 aN:=sf (F:=Pk) (ek ⟨qb,j3,Ca,trivial⟩) Tryz.func93 λ a=>by kernel_rfl
def Gu:yR:=⟨⟨TYS,[(246,Af),(213,aD),(71,Ku),(104,Lg),(93,aN)],EQS,[],[],false,[(58,pf58)],[],[],false,[]⟩,[]⟩
def xF:PF:=⟨[R (.pair .i64 .i64),(.own,q1),R q4],[q1,.bool],.own,kI⟩
theorem Ws:Sd 185 xF:=sf (F:=Gu) (JK ⟨WU,gd,Lp,Mp,gt,trivial⟩ trivial trivial go trivial trivial) Tryz.func185 λ a=>by kernel_rfl
def Ir:=fe [(83,Yn),(84,jT)] []
def fC:PF:=⟨[R (.pair .i64 .i64),R .i64,R .i64],[.i64],.uniq,qA⟩
theorem rA:Sd 247 fC:=sf (F:=Ir) (ek ⟨YW,j3,trivial⟩) Tryz.func247 λ a=>by kernel_rfl
def Iw:=fe [(83,Yn),(84,jT)] []
def Ai:PF:=⟨[R (.pair .i64 .i64),R .i64,R .i64],[.i64],.uniq,kl⟩
theorem WX:Sd 251 Ai:=sf (F:=Iw) (ek ⟨YW,j3,trivial⟩) Tryz.func251 λ a=>by kernel_rfl
def Gx:=fe [(247,fC),(251,Ai)] []
def oz:PF:=⟨[R (.pair .i64 .i64),R .i64,R .i64],[.i64],.uniq,qH⟩
theorem Cb:Sd 188 oz:=sf (F:=Gx) (ek ⟨rA,WX,trivial⟩) Tryz.func188 λ a=>by kernel_rfl
def It:=fe [(247,fC),(188,oz)] [(2,[.slot 2 .i64 (.imm false),.slot 7 (.sl 3 .i64) (.own true)])]
def Ag:PF:=⟨[R (.pair .i64 .i64),R .i64,R .i64],[(.sl 3 .i64)],.uniq,ks⟩
theorem WV:Sd 249 Ag:=sf (F:=It) (ek ⟨rA,Cb,trivial⟩) Tryz.func249 λ a=>by kernel_rfl
def Gv:=fe [(83,Yn),(247,fC),(249,Ag),(248,Z6)] [(5,[.slot 7 (.sl 3 .i64) (.own true),.slot 8 .i64 (.imm false)])]
def xG:PF:=⟨[R (.pair .i64 .i64),R .i64,R .i64],[(.sl 3 .i64)],.uniq,kr⟩
theorem Wt:Sd 186 xG:=sf (F:=Gv) (ek ⟨YW,rA,WV,Ys,trivial⟩) Tryz.func186 λ a=>by kernel_rfl
def Iv:=fe [] []
def Ah:PF:=⟨[R .bool],[.i64],.uniq,sy⟩
theorem WW:Sd 250 Ah:=sf (F:=Iv) (ek trivial) Tryz.func250 λ a=>by kernel_rfl
def Gw:=fe [(248,Z6),(250,Ah)] [(3,[.slot 5 .i64 (.imm false),.slot 6 .i64 (.imm false)])]
def xH:PF:=⟨[R (.sl 3 .i64),R (.sl 3 .i64)],[.i64],.uniq,gI⟩
theorem Wu:Sd 187 xH:=sf (F:=Gw) (ek ⟨Ys,WW,trivial⟩) Tryz.func187 λ a=>by kernel_rfl
def E4:=fe [(109,eW),(104,Lg),(185,xF),(186,xG),(187,xH),(188,oz),(93,aN)] []
def eV:PF:=⟨[R (.pair .i64 .i64),(.own,q1),R .i64,R .str,R .bool],[q1,.bool],.own,qP⟩
theorem pY:Sd 102 eV:=sf (F:=E4) (ek ⟨pZ,Mp,Ws,Wt,Wu,Cb,gt,trivial⟩) Tryz.func102 λ a=>by kernel_rfl
def Ou:=fe [(195,Ym),(105,NO),(57,Zc),(102,eV)] []
def AW:PF:=⟨[R (.pair .i64 .i64),R q1,R .str],[q1,.bool],.shared,MJ⟩
theorem XF:Sd 362 AW:=sf (F:=Ou) (ek ⟨YU,bh,Zs,pY,trivial⟩) Tryz.func362 λ a=>by kernel_rfl
def Ok:yR:=⟨⟨TYS,[(57,Zc),(21,Zb),(170,aB),(213,aD),(195,Ym),(271,oT),(214,oI),(362,AW)],EQS,[],[],false,[(58,pf58)],[],[],false,[]⟩,[]⟩
def fH:PF:=⟨[R (.pair .i64 .i64),R q1,R (.pair .str q4)],[q1,.bool],.shared,ql⟩
theorem rF:Sd 349 fH:=sf (F:=Ok) (JK ⟨Zs,Zr,ga,gd,YU,Cu,Ck,XF,trivial⟩ trivial trivial go trivial trivial) Tryz.func349 λ a=>by kernel_rfl
def Om:=fe [(57,Zc),(21,Zb),(167,aA),(105,NO),(102,eV)] []
def AR:PF:=⟨[R (.pair .i64 .i64),R q1,R q4],[q1,.bool],.own,gR⟩
theorem XB:Sd 357 AR:=sf (F:=Om) (ek ⟨Zs,Zr,f9,bh,pY,trivial⟩) Tryz.func357 λ a=>by kernel_rfl
def On:yR:=⟨⟨TYS,[(57,Zc),(21,Zb),(84,jT),(163,pf163),(213,aD),(104,Lg),(105,NO),(109,eW),(110,eX),(71,Ku),(70,Mg)],EQS,[],[],false,[(58,pf58)],[],[],false,[]⟩,[]⟩
def AS:PF:=⟨[R (.pair .i64 .i64),R q1,R .i64,R q4,R .i64],[q1,.bool],.own,gT⟩
theorem XC:Sd 358 AS:=sf (F:=On) (JK ⟨Zs,Zr,j3,Ln,gd,Mp,bh,pZ,ra,Lp,N8,trivial⟩ trivial trivial go trivial trivial) Tryz.func358 λ a=>by kernel_rfl
def GL:=fe [(166,om),(86,pn)] [(2,[.slot 6 .i64 (.imm false)])]
def fl:PF:=⟨[R (.sl 60 q5),R q5],[(.sl 60 q5),.bool],.uniq,qt⟩
theorem rq:Sd 205 fl:=sf (F:=GL) (ek ⟨B4,CS,trivial⟩) Tryz.func205 λ a=>by kernel_rfl
def Oo:=fe [(57,Zc),(21,Zb),(205,fl)] []
def AT:PF:=⟨[R (.pair .i64 .i64),R q1,R q5],[q1,.bool],.uniq,gS⟩
theorem XD:Sd 359 AT:=sf (F:=Oo) (ek ⟨Zs,Zr,rq,trivial⟩) Tryz.func359 λ a=>by kernel_rfl
def Of:=fe [(349,fH),(357,AR),(358,AS),(359,AT)] []
def AM:PF:=⟨[R (.pair .i64 .i64),R q1,R q2],[q1,.bool],.shared,kJ⟩
theorem Xw:Sd 344 AM:=sf (F:=Of) (ek ⟨rF,XB,XC,XD,trivial⟩) Tryz.func344 λ a=>by kernel_rfl
def Og:=fe [(191,NS)] [(3,[.slot 5 (.sl 58 q4) (.own true),.slot 6 .i64 (.imm false)])]
def AN:PF:=⟨[R (.sl 58 q4),R .i64],[(.sl 58 q4)],.uniq,ko⟩
theorem Xx:Sd 345 AN:=sf (F:=Og) (ek ⟨bm,trivial⟩) Tryz.func345 λ a=>by kernel_rfl
def Gy:=fe [(21,Zb),(74,pj),(75,pk),(73,pi)] []
def oA:PF:=⟨[R (.pair .i64 .i64),R q1],[q8],.uniq,qD⟩
theorem s19:Sd 19 oA:=sf (F:=Gy) (ek ⟨Zr,CP,CQ,CO,trivial⟩) Tryz.func19 λ a=>by kernel_rfl
def Oh:=fe [(155,fj)] [(3,[.slot 5 (.sl 60 q5) (.own true),.slot 6 .i64 (.imm false)])]
def AO:PF:=⟨[R (.sl 60 q5),R q8],[(.sl 60 q5)],.uniq,bK⟩
theorem Xy:Sd 346 AO:=sf (F:=Oh) (ek ⟨rm,trivial⟩) Tryz.func346 λ a=>by kernel_rfl
def I7:=fe [(21,Zb),(89,Mj),(57,Zc),(344,AM),(345,AN),(19,oA),(346,AO)] []
def aI:PF:=⟨[R (.pair .i64 .i64),R q1,R q2],[q1,.bool],.shared,KE⟩
theorem gj:Sd 329 aI:=sf (F:=I7) (ek ⟨Zr,qb,Zs,Xw,Xx,s19,Xy,trivial⟩) Tryz.func329 λ a=>by kernel_rfl
def IZ:yR:=⟨⟨TYS,[(84,jT),(248,Z6),(328,fG),(329,aI)],EQS,[],[],true,[],[],[],false,[]⟩,[]⟩
def AF:PF:=⟨[(.own,q3),R q9],[q3,.i64],.own,qR⟩
theorem Xn:Sd 311 AF:=sf (F:=IZ) (ek ⟨j3,Ys,rE,gj,trivial⟩) Tryz.func311 λ a=>by kernel_rfl
def EV:=fe [(84,jT),(248,Z6),(328,fG),(329,aI)] []
def wL:PF:=⟨[R q3,R q9],[q3,.i64],.shared,qS⟩
theorem VK:Sd 311 wL:=sf (F:=EV) (ek ⟨j3,Ys,rE,gj,trivial⟩) Tryz.func311 λ a=>by kernel_rfl
def Oq:=fe [] [(2,[.slot 9 .i64 (.imm false)])]
def o5:PF:=⟨[R fO,R .i64,R .str,R .i64],[.bool],.uniq,cg⟩
theorem CD:Sd 360 o5:=sf (F:=Oq) (ek trivial) Tryz.func360 λ a=>by kernel_rfl
def Oi:=fe [(248,Z6),(360,o5)] [(2,[.slot 11 .i64 (.imm false)])]
def AP:PF:=⟨[R (.sl 3 .i64),R fO,R .i64,R .str,R (.sl 3 .i64)],[.bool],.uniq,qC⟩
theorem Xz:Sd 347 AP:=sf (F:=Oi) (ek ⟨Ys,CD,trivial⟩) Tryz.func347 λ a=>by kernel_rfl
def I8:=fe [(89,Mj),(195,Ym),(104,Lg),(248,Z6),(347,AP)] []
def oY:PF:=⟨[R (.pair .i64 .i64),R (.sl 3 .i64),R fO,R q2],[.bool],.uniq,bG⟩
theorem Cz:Sd 330 oY:=sf (F:=I8) (ek ⟨qb,YU,Mp,Ys,Xz,trivial⟩) Tryz.func330 λ a=>by kernel_rfl
def Ot:=fe [(224,Li)] [(3,[.slot 3 (.sl 5 .u8) (.own true),.slot 4 .i64 (.imm false)])]
def AU:PF:=⟨[R (.sl 3 .i64)],[(.sl 5 .u8)],.uniq,qN⟩
theorem XE:Sd 361 AU:=sf (F:=Ot) (ek ⟨Mr,trivial⟩) Tryz.func361 λ a=>by kernel_rfl
def Oj:=fe [(89,Mj),(224,Li),(274,fE),(273,oU),(361,AU)] []
def AQ:PF:=⟨[R (.pair .i64 .i64),R q2],[(.sl 5 .u8)],.uniq,gW⟩
theorem XA:Sd 348 AQ:=sf (F:=Oj) (ek ⟨qb,Mr,rC,Cv,XE,trivial⟩) Tryz.func348 λ a=>by kernel_rfl
def I9:=fe [(348,AQ),(84,jT)] [(2,[.slot 5 .i64 (.imm false),.box 5 q3 (.own false)])]
def aJ:PF:=⟨[(.own,q3),R Kz],[q3],.own,ci⟩
theorem gk:Sd 331 aJ:=sf (F:=I9) (ek ⟨XA,j3,trivial⟩) Tryz.func331 λ a=>by kernel_rfl
def I0:=fe [(84,jT),(330,oY),(331,aJ)] []
def AG:PF:=⟨[(.own,q3),R q9],[q3,.i64],.own,kT⟩
theorem Xo:Sd 312 AG:=sf (F:=I0) (ek ⟨j3,Cz,gk,trivial⟩) Tryz.func312 λ a=>by kernel_rfl
def EW:=fe [(84,jT),(330,oY),(331,aJ)] []
def wM:PF:=⟨[R q3,R q9],[q3,.i64],.shared,kU⟩
theorem VL:Sd 312 wM:=sf (F:=EW) (ek ⟨j3,Cz,gk,trivial⟩) Tryz.func312 λ a=>by kernel_rfl
def I1:=fe [(248,Z6)] [(3,[.slot 3 (.sl 3 .i64) (.own true),.slot 4 .i64 (.imm false)])]
def fF:PF:=⟨[R q3],[(.sl 3 .i64)],.uniq,qm⟩
theorem rD:Sd 313 fF:=sf (F:=I1) (ek ⟨Ys,trivial⟩) Tryz.func313 λ a=>by kernel_rfl
def IX:=fe [(57,Zc),(21,Zb),(93,aN)] [(5,[.slot 9 .i64 (.imm false),.box 11 q1 (.own true),.box 17 q1 (.own false)])]
def oX:PF:=⟨[R (.pair .i64 .i64),R q1,R q2],[q1,.bool],.own,bT⟩
theorem Cy:Sd 31 oX:=sf (F:=IX) (ek ⟨Zs,Zr,gt,trivial⟩) Tryz.func31 λ a=>by kernel_rfl
def Oa:=fe [(40,fI),(57,Zc),(31,oX),(349,fH)] []
def AJ:PF:=⟨[(.own,q3),R .i64],[q3,.i64],.own,kO⟩
theorem Xt:Sd 332 AJ:=sf (F:=Oa) (ek ⟨rG,Zs,Cy,rF,trivial⟩) Tryz.func332 λ a=>by kernel_rfl
def EY:=fe [(40,fI),(57,Zc),(31,oX),(349,fH)] []
def wO:PF:=⟨[R q3,R .i64],[q3,.i64],.shared,kP⟩
theorem VN:Sd 332 wO:=sf (F:=EY) (ek ⟨rG,Zs,Cy,rF,trivial⟩) Tryz.func332 λ a=>by kernel_rfl
def Fc:=fe [(140,ay),(88,aL)] []
def wT:PF:=⟨[R Zp],[Zp],.uniq,kn⟩
theorem VS:Sd 114 wT:=sf (F:=Fc) (ek ⟨f7,gq,trivial⟩) Tryz.func114 λ a=>by kernel_rfl
def OA:=fe [(57,Zc),(21,Zb),(114,wT),(115,n8)] []
def o7:PF:=⟨[R (.pair .i64 .i64),R q1],[q1,Kz],.uniq,bR⟩
theorem CF:Sd 44 o7:=sf (F:=OA) (ek ⟨Zs,Zr,VS,BW,trivial⟩) Tryz.func44 λ a=>by kernel_rfl
def Ov:=fe [(57,Zc)] [(3,[.slot 4 .i64 (.imm false),.box 10 q3 (.own true)]),(7,[.slot 5 .i64 (.imm false),.box 10 q3 (.own true)])]
def AX:PF:=⟨[R q3],[q3],.uniq,kK⟩
theorem XG:Sd 363 AX:=sf (F:=Ov) (ek ⟨Zs,trivial⟩) Tryz.func363 λ a=>by kernel_rfl
def Ow:=fe [(248,Z6)] []
def AY:PF:=⟨[R .i64,R q2],[fO],.uniq,kf⟩
theorem XH:Sd 364 AY:=sf (F:=Ow) (ek ⟨Ys,trivial⟩) Tryz.func364 λ a=>by kernel_rfl
def Ol:=fe [(363,AX),(313,fF),(248,Z6),(364,AY),(360,o5)] [(5,[.slot 8 .i64 (.imm false),.box 11 q3 (.own true)]),(9,[.slot 10 .i64 (.imm false),.box 11 q3 (.own true)])]
def o4:PF:=⟨[R q3,R .i64,R Kz],[q3],.uniq,gV⟩
theorem CC:Sd 350 o4:=sf (F:=Ol) (ek ⟨XG,rD,Ys,XH,CD,trivial⟩) Tryz.func350 λ a=>by kernel_rfl
def Ob:=fe [(44,o7),(350,o4),(331,aJ)] []
def AK:PF:=⟨[(.own,q3),R .i64],[q3,.i64],.own,ld⟩
theorem Xu:Sd 333 AK:=sf (F:=Ob) (ek ⟨CF,CC,gk,trivial⟩) Tryz.func333 λ a=>by kernel_rfl
def EZ:=fe [(44,o7),(350,o4),(331,aJ)] []
def wP:PF:=⟨[R q3,R .i64],[q3,.i64],.shared,lf⟩
theorem VO:Sd 333 wP:=sf (F:=EZ) (ek ⟨CF,CC,gk,trivial⟩) Tryz.func333 λ a=>by kernel_rfl
def Oe:=fe [(21,Zb),(57,Zc),(102,eV)] []
def o0:PF:=⟨[R (.pair .i64 .i64),R q1,R .i64,R .str,R .bool],[q1,.bool],.own,bC⟩
theorem CB:Sd 34 o0:=sf (F:=Oe) (ek ⟨Zr,Zs,pY,trivial⟩) Tryz.func34 λ a=>by kernel_rfl
def Oc:=fe [(34,o0)] [(3,[.slot 7 .i64 (.imm false),.box 4 q3 (.own false),.box 5 q3 (.own true)])]
def AL:PF:=⟨[(.own,q3),R .i64],[q3,.i64],.own,kZ⟩
theorem Xv:Sd 334 AL:=sf (F:=Oc) (ek ⟨CB,trivial⟩) Tryz.func334 λ a=>by kernel_rfl
def E3:=fe [(34,o0)] [(3,[.slot 7 .i64 (.imm false),.box 4 q3 (.imm false),.box 5 q3 (.own true)])]
def wQ:PF:=⟨[R q3,R .i64],[q3,.i64],.shared,lc⟩
theorem VP:Sd 334 wQ:=sf (F:=E3) (ek ⟨CB,trivial⟩) Tryz.func334 λ a=>by kernel_rfl
def Od:=fe [(140,ay),(88,aL),(70,Mg),(71,Ku)] []
def oZ:PF:=⟨[R Zp,R .i64],[Zp],.uniq,bD⟩
theorem CA:Sd 335 oZ:=sf (F:=Od) (ek ⟨f7,gq,N8,Lp,trivial⟩) Tryz.func335 λ a=>by kernel_rfl
def FR:=fe [] []
def og:PF:=⟨[],[q7],.uniq,bN⟩
theorem B2:Sd 151 og:=sf (F:=FR) (ek trivial) Tryz.func151 λ a=>by kernel_rfl
def FT:=fe [(227,aF),(228,oN),(229,fA),(85,Mi)] []
def xu:PF:=⟨[R (.pair .i64 .i64),R (.sl 5 .u8)],[q7,.bool],.uniq,ke⟩
theorem Wi:Sd 153 xu:=sf (F:=FT) (ek ⟨gg,Cp,ry,qa,trivial⟩) Tryz.func153 λ a=>by kernel_rfl
def OW:=fe [(151,og),(152,fh),(153,xu)] [(3,[.slot 7 .i64 (.imm false),.box 2 q7 (.own true),.box 4 q7 (.own true)])]
def pg:PF:=⟨[R (.pair .i64 .i64),R (.sl 5 .u8)],[q7,.i64],.uniq,bE⟩
theorem s69:Sd 69 pg:=sf (F:=OW) (ek ⟨B2,ri,Wi,trivial⟩) Tryz.func69 λ a=>by kernel_rfl
def Gh:=fe [(21,Zb),(57,Zc),(69,pg),(71,Ku),(70,Mg)] []
def fk:PF:=⟨[R (.pair .i64 .i64),R q1],[q1],.uniq,qx⟩
theorem ro:Sd 17 fk:=sf (F:=Gh) (ek ⟨Zr,Zs,s69,Lp,N8,trivial⟩) Tryz.func17 λ a=>by kernel_rfl
def Ox:=fe [(57,Zc),(21,Zb),(104,Lg),(105,NO),(93,aN)] []
def o6:PF:=⟨[R (.pair .i64 .i64),R q1],[q1,.bool],.own,Mw⟩
theorem CE:Sd 37 o6:=sf (F:=Ox) (ek ⟨Zs,Zr,Mp,bh,gt,trivial⟩) Tryz.func37 λ a=>by kernel_rfl
def I2:=fe [(332,AJ),(333,AK),(334,AL),(57,Zc),(335,oZ),(17,fk),(37,o6),(329,aI)] []
def AH:PF:=⟨[(.own,q3),R q9],[q3,.i64],.own,kW⟩
theorem Xp:Sd 314 AH:=sf (F:=I2) (ek ⟨Xt,Xu,Xv,Zs,CA,ro,CE,gj,trivial⟩) Tryz.func314 λ a=>by kernel_rfl
def EX:=fe [(332,wO),(333,wP),(334,wQ),(57,Zc),(335,oZ),(17,fk),(37,o6),(329,aI)] []
def wN:PF:=⟨[R q3,R q9],[q3,.i64],.shared,kX⟩
theorem VM:Sd 314 wN:=sf (F:=EX) (ek ⟨VN,VO,VP,Zs,CA,ro,CE,gj,trivial⟩) Tryz.func314 λ a=>by kernel_rfl
def IW:=fe [(311,AF),(312,AG),(313,fF),(248,Z6),(314,AH)] []
def AD:PF:=⟨[(.own,q3),R q9],[q3,.i64],.own,kV⟩
theorem Xk:Sd 292 AD:=sf (F:=IW) (ek ⟨Xn,Xo,rD,Ys,Xp,trivial⟩) Tryz.func292 λ a=>by kernel_rfl
def EU:=fe [(311,wL),(312,wM),(313,fF),(248,Z6),(314,wN)] []
def wK:PF:=⟨[R q3,R q9],[q3,.i64],.shared,ck⟩
theorem VJ:Sd 292 wK:=sf (F:=EU) (ek ⟨VK,VL,rD,Ys,VM,trivial⟩) Tryz.func292 λ a=>by kernel_rfl
def IC:yR:=⟨⟨TYS,[(292,AD)],EQS,[],[],false,[],[],[(292,wK)],false,[]⟩,[]⟩
def Ao:PF:=⟨[(.own,q3),R q9],[q3],.own,kY⟩
theorem W5:Sd 264 Ao:=sf (F:=IC) (JK ⟨Xk,trivial⟩ trivial trivial trivial trivial ⟨VJ,trivial⟩) Tryz.func264 λ a=>by kernel_rfl
def GJ:=fe [(263,An),(60,yw),(265,Ap),(264,Ao)] [(4,[.slot 5 .i64 (.imm false),.keep 0 q6 [2,0,0],.box 7 q3 (.own false)])]
def xN:PF:=⟨[(.ptr,q6)],[q3],.own,kR⟩
theorem WA:Sd 203 xN:=sf (F:=GJ) (ek ⟨W4,yA,W6,W5,trivial⟩) Tryz.func203 λ a=>by kernel_rfl
def Fj:=fe [(203,xN),(60,yw)] []
def wW:PF:=⟨[(.ptr,q6)],[(.pair .i64 .i64),q1],.shared,kG⟩
theorem VV:Sd 120 wW:=sf (F:=Fj) (ek ⟨WA,yA,trivial⟩) Tryz.func120 λ a=>by kernel_rfl
def Pl:=fe [(60,yw),(178,Lh),(179,aC)] [(4,[.slot 3 .str (.imm false),.slot 4 .i64 (.imm false),.slot 5 .i64 (.imm false),.keep 0 q6 [2,0,0]]),(9,[.slot 6 (.sl 60 q5) (.own true),.slot 7 .i64 (.imm false),.keep 0 q6 [2,0,0]])]
def NU:PF:=⟨[(.ptr,q6)],[.str],.uniq,LE⟩
theorem bo:Sd 94 NU:=sf (F:=Pl) (ek ⟨yA,Mq,gc,trivial⟩) Tryz.func94 λ a=>by kernel_rfl
def GY:yR:=⟨⟨TYS,[(195,Ym),(51,pf51),(60,yw)],EQS,[],[],true,[],[],[],false,[]⟩,[(5,[.slot 8 .i64 (.imm false),.box 4 q4 (.own true)])]⟩
def fx:PF:=⟨[(.ptr,q6),R (.pair .i64 .i64),R .str],[q4],.uniq,qU⟩
theorem rv:Sd 217 fx:=sf (F:=GY) (ek ⟨YU,YV,yA,trivial⟩) Tryz.func217 λ a=>by kernel_rfl
def GT:=fe [(94,NU),(217,fx),(60,yw),(178,Lh),(111,eY)] [(4,[.slot 6 (.sl 60 q5) (.own true),.slot 7 .i64 (.imm false),.keep 0 q6 [2,0,0]])]
def oH:PF:=⟨[(.ptr,q6),R (.pair .i64 .i64)],[(.pair .str q4)],.uniq,cp⟩
theorem Cj:Sd 212 oH:=sf (F:=GT) (ek ⟨bo,rv,yA,Mq,rb,trivial⟩) Tryz.func212 λ a=>by kernel_rfl
def Fx:=fe [(151,og),(60,yw),(212,oH),(213,aD),(51,pf51),(214,oI)] [(3,[.slot 6 .i64 (.imm false),.keep 0 q6 [2,0,0],.box 5 q7 (.own true)])]
def xc:PF:=⟨[(.ptr,q6),R (.pair .i64 .i64)],[q7],.uniq,kx⟩
theorem V5:Sd 133 xc:=sf (F:=Fx) (ek ⟨B2,yA,Cj,gd,YV,Ck,trivial⟩) Tryz.func133 λ a=>by kernel_rfl
def IK:=fe [(60,yw)] []
def Au:PF:=⟨[(.ptr,q6),R (.sl 9 .str)],[.str],.uniq,kN⟩
theorem Xb:Sd 272 Au:=sf (F:=IK) (ek ⟨yA,trivial⟩) Tryz.func272 λ a=>by kernel_rfl
def GX:=fe [(60,yw),(272,Au)] []
def xR:PF:=⟨[(.ptr,q6),R .str],[.str],.uniq,lg⟩
theorem WF:Sd 216 xR:=sf (F:=GX) (ek ⟨yA,Xb,trivial⟩) Tryz.func216 λ a=>by kernel_rfl
def Fy:=fe [(51,pf51),(60,yw),(215,aE),(94,NU),(216,xR)] [(4,[.slot 3 .str (.imm false),.slot 4 .i64 (.imm false),.keep 0 q6 [2,0,0]])]
def e9:PF:=⟨[(.ptr,q6)],[.str],.uniq,qT⟩
theorem rf:Sd 134 e9:=sf (F:=Fy) (ek ⟨YV,yA,ge,bo,WF,trivial⟩) Tryz.func134 λ a=>by kernel_rfl
def GZ:=fe [(60,yw),(266,aH),(51,pf51),(121,Yl)] [(3,[.slot 5 (.sl 3 .i64) (.own true),.slot 6 .i64 (.imm false),.keep 0 q6 [2,0,0]])]
def oJ:PF:=⟨[(.ptr,q6),R .i64],[(.sl 3 .i64)],.uniq,cn⟩
theorem Cl:Sd 218 oJ:=sf (F:=GZ) (ek ⟨yA,gi,YV,YT,trivial⟩) Tryz.func218 λ a=>by kernel_rfl
def Fz:=fe [(94,NU),(217,fx),(60,yw),(218,oJ),(134,e9)] []
def xd:PF:=⟨[(.ptr,q6),R (.pair .i64 .i64)],[q4],.uniq,lj⟩
theorem V6:Sd 135 xd:=sf (F:=Fz) (ek ⟨bo,rv,yA,Cl,rf,trivial⟩) Tryz.func135 λ a=>by kernel_rfl
def OH:=fe [(133,xc),(60,yw),(121,Yl),(134,e9),(135,xd)] []
def pb:PF:=⟨[(.ptr,q6),R (.pair .i64 .i64)],[q7],.uniq,b9⟩
theorem s53:Sd 53 pb:=sf (F:=OH) (ek ⟨V5,yA,YT,rf,V6,trivial⟩) Tryz.func53 λ a=>by kernel_rfl
def GK:=fe [(60,yw),(178,Lh),(205,fl)] [(3,[.slot 3 (.sl 60 q5) (.own true),.slot 4 .i64 (.imm false),.keep 0 q6 [2,0,0]])]
def xO:PF:=⟨[(.ptr,q6)],[(.sl 60 q5)],.uniq,li⟩
theorem WC:Sd 204 xO:=sf (F:=GK) (ek ⟨yA,Mq,rq,trivial⟩) Tryz.func204 λ a=>by kernel_rfl
def Gm:=fe [(178,Lh),(60,yw),(121,Yl)] []
def ou:PF:=⟨[(.ptr,q6)],[q5],.uniq,cl⟩
theorem B8:Sd 174 ou:=sf (F:=Gm) (ek ⟨Mq,yA,YT,trivial⟩) Tryz.func174 λ a=>by kernel_rfl
def Fl:=fe [(204,xO),(60,yw),(174,ou),(205,fl)] [(7,[.slot 3 (.sl 60 q5) (.own true),.slot 4 .i64 (.imm false)]),(10,[.slot 3 (.sl 60 q5) (.own true),.slot 5 .i64 (.imm false)])]
def wX:PF:=⟨[(.ptr,q6)],[(.sl 60 q5)],.uniq,lh⟩
theorem VW:Sd 122 wX:=sf (F:=Fl) (ek ⟨WC,yA,B8,rq,trivial⟩) Tryz.func122 λ a=>by kernel_rfl
def GM:=fe [(94,NU),(195,Ym),(51,pf51),(60,yw),(71,Ku),(266,aH)] [(6,[.slot 7 .i64 (.imm false),.keep 0 q6 [2,0,0],.box 4 q4 (.own true)])]
def fu:PF:=⟨[(.ptr,q6),R (.pair .i64 .i64)],[q4],.uniq,qK⟩
theorem rt:Sd 206 fu:=sf (F:=GM) (ek ⟨bo,YU,YV,yA,Lp,gi,trivial⟩) Tryz.func206 λ a=>by kernel_rfl
def Gl:=fe [(206,fu),(60,yw),(121,Yl),(218,oJ),(134,e9)] []
def ot:PF:=⟨[(.ptr,q6),R (.pair .i64 .i64)],[q4],.uniq,bZ⟩
theorem B7:Sd 173 ot:=sf (F:=Gl) (ek ⟨rt,yA,YT,Cl,rf,trivial⟩) Tryz.func173 λ a=>by kernel_rfl
def Fm:=fe [(60,yw),(206,fu),(105,NO),(51,pf51),(173,ot)] [(3,[.slot 5 (.sl 58 q4) (.own true),.slot 6 .i64 (.imm false),.keep 0 q6 [2,0,0]])]
def wY:PF:=⟨[(.ptr,q6),R (.pair .i64 .i64)],[(.sl 58 q4)],.uniq,kv⟩
theorem VX:Sd 123 wY:=sf (F:=Fm) (ek ⟨yA,rt,bh,YV,B7,trivial⟩) Tryz.func123 λ a=>by kernel_rfl
def GN:=fe [(60,yw),(121,Yl),(224,Li),(51,pf51)] [(3,[.slot 3 (.sl 5 .u8) (.own true),.slot 4 .i64 (.imm false),.keep 0 q6 [2,0,0]])]
def xP:PF:=⟨[(.ptr,q6)],[(.sl 5 .u8)],.uniq,kL⟩
theorem WD:Sd 207 xP:=sf (F:=GN) (ek ⟨yA,YT,Mr,YV,trivial⟩) Tryz.func207 λ a=>by kernel_rfl
def Fn:=fe [(207,xP),(60,yw),(121,Yl)] []
def wZ:PF:=⟨[(.ptr,q6)],[Zp],.uniq,kz⟩
theorem VY:Sd 124 wZ:=sf (F:=Fn) (ek ⟨WD,yA,YT,trivial⟩) Tryz.func124 λ a=>by kernel_rfl
def Gk:=fe [(60,yw),(212,oH),(206,fu),(179,aC),(94,NU),(217,fx),(178,Lh)] []
def xC:PF:=⟨[(.ptr,q6),R (.pair .i64 .i64)],[q2],.uniq,kD⟩
theorem Wp:Sd 172 xC:=sf (F:=Gk) (ek ⟨yA,Cj,rt,gc,bo,rv,Mq,trivial⟩) Tryz.func172 λ a=>by kernel_rfl
def Pi:=fe [(172,xC),(60,yw),(121,Yl),(173,ot),(174,ou)] []
def Bi:PF:=⟨[(.ptr,q6),R (.pair .i64 .i64)],[q2],.uniq,kC⟩
theorem XW:Sd 91 Bi:=sf (F:=Pi) (ek ⟨Wp,yA,YT,B7,B8,trivial⟩) Tryz.func91 λ a=>by kernel_rfl
def lL:yR:=⟨⟨TYS,[(120,wW),(60,yw),(121,Yl),(53,pb),(122,wX),(123,wY),(124,wZ),(91,Bi)],EQS,[],[],false,[],[],[],false,[(120,102)]⟩,[]⟩
def pf47:PF:=⟨[(.ptr,q6)],[(.pair .i64 .i64),q1],.shared,MI⟩
theorem rH:Sd 47 pf47:=Dr (F:=lL) (ek ⟨VV,yA,YT,s53,VW,VX,VY,XW,trivial⟩) Tryz.func47 (by kernel_rfl) (λ a o h=>(show Qp lL Tryz.f47 pf47.params pf47.rets pf47.rk a=pf47.fn a by kernel_rfl).trans h) (.inr ⟨by kernel_rfl,λ x hx=>by simp only[lL,amA] at hx; rw[hx]; rfl⟩)
def O4:=fe [] []
def YP:PF:=⟨[R .i64,R .i64,R .i64],[.bool],.uniq,jl⟩
theorem Jv:Sd 77 YP:=sf (F:=O4) (ek trivial) Tryz.func77 λ a=>by kernel_rfl
def O3:=fe [(77,YP)] []
def Mh:PF:=⟨[R (.pair .i64 .i64)],[.bool],.uniq,Kd⟩
theorem N9:Sd 76 Mh:=sf (F:=O3) (ek ⟨Jv,trivial⟩) Tryz.func76 λ a=>by kernel_rfl
def GD:=fe [] []
def xK:PF:=⟨[],[q4],.uniq,mP⟩
theorem Wx:Sd 196 xK:=sf (F:=GD) (ek trivial) Tryz.func196 λ a=>by kernel_rfl
def Gj:=fe [] [(4,[.slot 13 .i64 (.imm false)])]
def oq:PF:=⟨[R (.sl 3 .i64),R (.sl 3 .i64)],[.bool],.uniq,bA⟩
theorem B6:Sd 171 oq:=sf (F:=Gj) (ek trivial) Tryz.func171 λ a=>by kernel_rfl
def Ph:=fe [(171,oq)] []
def aM:PF:=⟨[R q4,R q4],[.bool],.uniq,L5⟩
theorem gr:Sd 90 aM:=sf (F:=Ph) (ek ⟨B6,trivial⟩) Tryz.func90 λ a=>by kernel_rfl
def GF:=fe [(260,Al)] []
def oC:PF:=⟨[R .str,R .u8],[(.sl 9 .str)],.uniq,QM⟩
theorem Ce:Sd 199 oC:=sf (F:=GF) (ek ⟨W2,trivial⟩) Tryz.func199 λ a=>by kernel_rfl
def Iz:=fe [(286,AA)] []
def oS:PF:=⟨[R .i64],[.str],.uniq,Ke⟩
theorem Ct:Sd 257 oS:=sf (F:=Iz) (ek ⟨Xh,trivial⟩) Tryz.func257 λ a=>by kernel_rfl
def GH:=fe [(257,oS)] [(5,[.slot 4 .i64 (.imm false),.slot 5 .i64 (.imm false)])]
def oE:PF:=⟨[R .str],[.i64,.bool],.uniq,QH⟩
theorem Cg:Sd 201 oE:=sf (F:=GH) (ek ⟨Ct,trivial⟩) Tryz.func201 λ a=>by kernel_rfl
def FX:=fe [(77,YP)] []
def NR:PF:=⟨[R q5],[.bool],.uniq,Kg⟩
theorem bl:Sd 157 NR:=sf (F:=FX) (ek ⟨Jv,trivial⟩) Tryz.func157 λ a=>by kernel_rfl
def IU:=fe [(157,NR),(257,oS)] []
def AB:PF:=⟨[R q5],[.str],.uniq,QP⟩
theorem Xi:Sd 287 AB:=sf (F:=IU) (ek ⟨bl,Ct,trivial⟩) Tryz.func287 λ a=>by kernel_rfl
def IA:=fe [(200,oD),(201,oE),(157,NR),(287,AB)] [(6,[.slot 40 .i64 (.imm false),.row 1 3 .i64 (.own true)])]
def Am:PF:=⟨[R .str],[q5,.bool],.uniq,QO⟩
theorem W3:Sd 262 Am:=sf (F:=IA) (ek ⟨Cf,Cg,bl,Xi,trivial⟩) Tryz.func262 λ a=>by kernel_rfl
def GI:=fe [(199,oC),(262,Am)] [(5,[.slot 4 (.sl 60 q5) (.own true),.slot 14 .i64 (.imm false)])]
def xM:PF:=⟨[R .str],[(.sl 60 q5),.bool],.uniq,dI⟩
theorem Wz:Sd 202 xM:=sf (F:=GI) (ek ⟨Ce,W3,trivial⟩) Tryz.func202 λ a=>by kernel_rfl
def Fh:=fe [(199,oC),(200,oD),(201,oE),(202,xM),(77,YP)] [(9,[.slot 5 fP (.own true),.slot 6 .i64 (.imm false),.slot 33 .i64 (.imm false)])]
def eZ:PF:=⟨[R .str],[fP,.bool],.uniq,Ny⟩
theorem re:Sd 119 eZ:=sf (F:=Fh) (ek ⟨Ce,Cf,Cg,Wz,Jv,trivial⟩) Tryz.func119 λ a=>by kernel_rfl
def Ff:=fe [(119,eZ)] []
def NP:PF:=⟨[R .str],[.bool],.uniq,Lc⟩
theorem bi:Sd 117 NP:=sf (F:=Ff) (ek ⟨re,trivial⟩) Tryz.func117 λ a=>by kernel_rfl
def OC:=fe [(119,eZ)] []
def o8:PF:=⟨[R .str],[.i64],.uniq,QQ⟩
theorem CG:Sd 46 o8:=sf (F:=OC) (ek ⟨re,trivial⟩) Tryz.func46 λ a=>by kernel_rfl
def GE:=fe [] [(2,[.slot 9 .i64 (.imm false)])]
def oB:PF:=⟨[R .i64,R (.sl 3 .i64)],[.bool],.uniq,Nx⟩
theorem Cd:Sd 197 oB:=sf (F:=GE) (ek trivial) Tryz.func197 λ a=>by kernel_rfl
def Iy:=fe [(76,Mh)] []
def Ak:PF:=⟨[R (.pair .i64 .i64)],[.i64],.uniq,mN⟩
theorem WZ:Sd 256 Ak:=sf (F:=Iy) (ek ⟨N9,trivial⟩) Tryz.func256 λ a=>by kernel_rfl
def GB:=fe [(76,Mh),(256,Ak)] []
def xJ:PF:=⟨[R (.pair .i64 .i64)],[.i64],.uniq,dz⟩
theorem Ww:Sd 193 xJ:=sf (F:=GB) (ek ⟨N9,WZ,trivial⟩) Tryz.func193 λ a=>by kernel_rfl
def Fe:=fe [(76,Mh),(196,xK),(90,aM),(117,NP),(46,o8),(197,oB),(193,xJ)] []
def ax:PF:=⟨[R (.pair .i64 .i64),R q4],[.bool],.uniq,L4⟩
theorem f6:Sd 116 ax:=sf (F:=Fe) (ek ⟨N9,Wx,gr,bi,CG,Cd,Ww,trivial⟩) Tryz.func116 λ a=>by kernel_rfl
def O5:=fe [(77,YP),(116,ax),(117,NP)] []
def fK:PF:=⟨[R (.pair .i64 .i64),R q7],[.bool],.uniq,Nw⟩
theorem rJ:Sd 78 fK:=sf (F:=O5) (ek ⟨Jv,f6,bi,trivial⟩) Tryz.func78 λ a=>by kernel_rfl
def FY:=fe [] []
def xw:PF:=⟨[R q5,R q5],[.bool],.uniq,dL⟩
theorem Wj:Sd 158 xw:=sf (F:=FY) (ek trivial) Tryz.func158 λ a=>by kernel_rfl
def O6:=fe [(157,NR),(158,xw)] [(2,[.slot 7 .i64 (.imm false)])]
def Bd:PF:=⟨[R (.sl 60 q5)],[.bool],.uniq,du⟩
theorem s79:Sd 79 Bd:=sf (F:=O6) (ek ⟨bl,Wj,trivial⟩) Tryz.func79 λ a=>by kernel_rfl
def FZ:=fe [(76,Mh),(77,YP),(117,NP),(46,o8),(197,oB)] []
def oh:PF:=⟨[R (.pair .i64 .i64),R q4],[.bool],.uniq,QI⟩
theorem B3:Sd 159 oh:=sf (F:=FZ) (ek ⟨N9,Jv,bi,CG,Cd,trivial⟩) Tryz.func159 λ a=>by kernel_rfl
def IR:=fe [] []
def Ay:PF:=⟨[R .i64],[.bool],.uniq,cP⟩
theorem Xf:Sd 279 Ay:=sf (F:=IR) (ek trivial) Tryz.func279 λ a=>by kernel_rfl
def Ii:=fe [(279,Ay)] []
def xZ:PF:=⟨[R .i64,R .i64],[.i64],.uniq,mi⟩
theorem WO:Sd 235 xZ:=sf (F:=Ii) (ek ⟨Xf,trivial⟩) Tryz.func235 λ a=>by kernel_rfl
def IS:=fe [] []
def Az:PF:=⟨[R .str],[.bool],.uniq,cQ⟩
theorem Xg:Sd 280 Az:=sf (F:=IS) (ek trivial) Tryz.func280 λ a=>by kernel_rfl
def Ij:=fe [(280,Az)] []
def Aa:PF:=⟨[R .str,R .str],[.i64],.uniq,mj⟩
theorem WP:Sd 236 Aa:=sf (F:=Ij) (ek ⟨Xg,trivial⟩) Tryz.func236 λ a=>by kernel_rfl
def F1:=fe [(235,xZ),(236,Aa)] []
def xy:PF:=⟨[R q4,R q4],[.i64],.uniq,dM⟩
theorem Wl:Sd 160 xy:=sf (F:=F1) (ek ⟨WO,WP,trivial⟩) Tryz.func160 λ a=>by kernel_rfl
def O7:=fe [(159,oh),(160,xy)] [(2,[.slot 9 .i64 (.imm false)])]
def Bf:PF:=⟨[R (.pair .i64 .i64),R (.sl 58 q4)],[.bool],.uniq,dG⟩
theorem XU:Sd 80 Bf:=sf (F:=O7) (ek ⟨B3,Wl,trivial⟩) Tryz.func80 λ a=>by kernel_rfl
def O8:=fe [(77,YP)] []
def pm:PF:=⟨[R Zp],[.bool],.uniq,QB⟩
theorem CR:Sd 81 pm:=sf (F:=O8) (ek ⟨Jv,trivial⟩) Tryz.func81 λ a=>by kernel_rfl
def F4:=fe [] []
def xA:PF:=⟨[R q2],[q2],.shared,dU⟩
theorem Wn:Sd 162 xA:=sf (F:=F4) (ek trivial) Tryz.func162 λ a=>by kernel_rfl
def Oz:=fe [(90,aM)] []
def AZ:PF:=⟨[R (.pair .str q4),R (.pair .str q4)],[.bool],.uniq,dj⟩
theorem XI:Sd 41 AZ:=sf (F:=Oz) (ek ⟨gr,trivial⟩) Tryz.func41 λ a=>by kernel_rfl
def Ik:=fe [(171,oq)] []
def Ab:PF:=⟨[R q4,R q4],[.bool],.uniq,dV⟩
theorem WQ:Sd 237 Ab:=sf (F:=Ik) (ek ⟨B6,trivial⟩) Tryz.func237 λ a=>by kernel_rfl
def F2:=fe [(41,AZ),(237,Ab),(90,aM)] []
def xz:PF:=⟨[R q2,R q2],[.bool],.uniq,dq⟩
theorem Wm:Sd 161 xz:=sf (F:=F2) (ek ⟨XI,WQ,gr,trivial⟩) Tryz.func161 λ a=>by kernel_rfl
def Fg:=fe [(117,NP),(198,xL)] []
def wU:PF:=⟨[R .str],[.str],.uniq,dJ⟩
theorem VT:Sd 118 wU:=sf (F:=Fg) (ek ⟨bi,Wy,trivial⟩) Tryz.func118 λ a=>by kernel_rfl
def OB:=fe [(116,ax),(117,NP),(118,wU)] []
def A0:PF:=⟨[R (.pair .i64 .i64),R (.pair .str q4)],[.bool],.uniq,di⟩
theorem XJ:Sd 45 A0:=sf (F:=OB) (ek ⟨f6,bi,VT,trivial⟩) Tryz.func45 λ a=>by kernel_rfl
def O9:=fe [(76,Mh),(162,xA),(161,xz),(45,A0),(159,oh),(77,YP),(116,ax),(157,NR)] []
def Bg:PF:=⟨[R (.pair .i64 .i64),R q2],[.bool],.uniq,dp⟩
theorem s82:Sd 82 Bg:=sf (F:=O9) (ek ⟨N9,Wn,Wm,XJ,B3,Jv,f6,bl,trivial⟩) Tryz.func82 λ a=>by kernel_rfl
def GG:=fe [(76,Mh),(77,YP),(78,fK),(79,Bd),(80,Bf),(81,pm),(82,Bg)] [(4,[.slot 66 .i64 (.imm false)])]
def Mf:PF:=⟨[R (.pair .i64 .i64),R q1],[.bool],.uniq,yX⟩
theorem N7:Sd 20 Mf:=sf (F:=GG) (ek ⟨N9,Jv,rJ,s79,XU,CR,s82,trivial⟩) Tryz.func20 λ a=>by kernel_rfl
def G4:=fe [] []
def fz:PF:=⟨[R (.sl 3 .i64)],[(.sl 3 .i64)],.uniq,L6⟩
theorem rx:Sd 222 fz:=sf (F:=G4) (ek trivial) Tryz.func222 λ a=>by kernel_rfl
def FC:=fe [(222,fz)] []
def fc:PF:=⟨[R q4],[q4],.uniq,NB⟩
theorem rg:Sd 138 fc:=sf (F:=FC) (ek ⟨rx,trivial⟩) Tryz.func138 λ a=>by kernel_rfl
def OK:=fe [(138,fc)] []
def pc:PF:=⟨[R q7],[q7],.uniq,QU⟩
theorem CK:Sd 56 pc:=sf (F:=OK) (ek ⟨rg,trivial⟩) Tryz.func56 λ a=>by kernel_rfl
def Fo:=fe [] []
def w6:PF:=⟨[R (.sl 60 q5)],[(.sl 60 q5)],.uniq,dS⟩
theorem VZ:Sd 125 w6:=sf (F:=Fo) (ek trivial) Tryz.func125 λ a=>by kernel_rfl
def Gp:=fe [(222,fz)] []
def ox:PF:=⟨[R q4],[q4],.uniq,QT⟩
theorem B9:Sd 176 ox:=sf (F:=Gp) (ek ⟨rx,trivial⟩) Tryz.func176 λ a=>by kernel_rfl
def Fp:=fe [(176,ox)] [(3,[.slot 3 (.sl 58 q4) (.own true),.slot 8 .i64 (.imm false)])]
def w7:PF:=⟨[R (.sl 58 q4)],[(.sl 58 q4)],.uniq,dR⟩
theorem V0:Sd 126 w7:=sf (F:=Fp) (ek ⟨B9,trivial⟩) Tryz.func126 λ a=>by kernel_rfl
def Fq:=fe [] []
def n9:PF:=⟨[R Zp],[Zp],.uniq,QS⟩
theorem BX:Sd 127 n9:=sf (F:=Fq) (ek trivial) Tryz.func127 λ a=>by kernel_rfl
def Gn:=fe [(138,fc)] []
def xD:PF:=⟨[R (.pair .str q4)],[(.pair .str q4)],.uniq,dN⟩
theorem Wq:Sd 175 xD:=sf (F:=Gn) (ek ⟨rg,trivial⟩) Tryz.func175 λ a=>by kernel_rfl
def Pj:=fe [(175,xD),(176,ox),(138,fc)] []
def Bj:PF:=⟨[R q2],[q2],.uniq,dP⟩
theorem XX:Sd 92 Bj:=sf (F:=Pj) (ek ⟨Wq,B9,rg,trivial⟩) Tryz.func92 λ a=>by kernel_rfl
def Fr:=fe [(92,Bj)] [(3,[.slot 3 Kz (.own true),.slot 8 .i64 (.imm false)])]
def w8:PF:=⟨[R Kz],[Kz],.uniq,dQ⟩
theorem V2:Sd 128 w8:=sf (F:=Fr) (ek ⟨XX,trivial⟩) Tryz.func128 λ a=>by kernel_rfl
def OD:=fe [(56,pc),(125,w6),(126,w7),(127,n9),(128,w8)] []
def o9:PF:=⟨[R q1],[q1],.uniq,L7⟩
theorem CH:Sd 49 o9:=sf (F:=OD) (ek ⟨CK,VZ,V0,BX,V2,trivial⟩) Tryz.func49 λ a=>by kernel_rfl
def Fs:=fe [] []
def w9:PF:=⟨[],[q7],.uniq,mQ⟩
theorem V3:Sd 129 w9:=sf (F:=Fs) (ek trivial) Tryz.func129 λ a=>by kernel_rfl
def FB:=fe [(77,YP)] [(4,[.slot 0 .i64 (.imm false),.slot 3 (.sl 5 .u8) (.own true)])]
def NQ:PF:=⟨[R .i64],[(.sl 5 .u8)],.uniq,JQ⟩
theorem bj:Sd 137 NQ:=sf (F:=FB) (ek ⟨Jv,trivial⟩) Tryz.func137 λ a=>by kernel_rfl
def GO:=fe [(77,YP),(137,NQ)] [(5,[.slot 7 .i64 (.imm false),.slot 8 .i64 (.imm false)])]
def oF:PF:=⟨[R (.sl 5 .u8),R .i64],[.i64,.i64,.bool],.uniq,QC⟩
theorem Ch:Sd 208 oF:=sf (F:=GO) (ek ⟨Jv,bj,trivial⟩) Tryz.func208 λ a=>by kernel_rfl
def Fu:=fe [(208,oF)] []
def oc:PF:=⟨[R (.sl 5 .u8),R .i64],[.str,.i64,.bool],.uniq,QD⟩
theorem BZ:Sd 130 oc:=sf (F:=Fu) (ek ⟨Ch,trivial⟩) Tryz.func130 λ a=>by kernel_rfl
def GP:=fe [(208,oF)] []
def fw:PF:=⟨[(.ptr,JX)],[.i64],.uniq,Ld⟩
theorem ru:Sd 209 fw:=sf (F:=GP) (ek ⟨Ch,trivial⟩) Tryz.func209 λ a=>by kernel_rfl
def GS:=fe [(130,oc)] []
def oG:PF:=⟨[(.ptr,JX)],[.str],.uniq,QX⟩
theorem Ci:Sd 211 oG:=sf (F:=GS) (ek ⟨BZ,trivial⟩) Tryz.func211 λ a=>by kernel_rfl
def IF:=fe [(209,fw)] [(4,[.slot 3 (.sl 3 .i64) (.own true),.slot 5 .i64 (.imm false),.keep 0 JX [2,0,0]])]
def Aq:PF:=⟨[(.ptr,JX)],[(.sl 3 .i64)],.uniq,dW⟩
theorem W7:Sd 267 Aq:=sf (F:=IF) (ek ⟨ru,trivial⟩) Tryz.func267 λ a=>by kernel_rfl
def GR:=fe [(209,fw),(211,oG),(267,Aq)] []
def xQ:PF:=⟨[(.ptr,JX)],[q4],.uniq,dX⟩
theorem WE:Sd 210 xQ:=sf (F:=GR) (ek ⟨ru,Ci,W7,trivial⟩) Tryz.func210 λ a=>by kernel_rfl
def Fv:=fe [(209,fw),(210,xQ),(211,oG),(78,fK)] []
def xa:PF:=⟨[R (.pair .i64 .i64),R (.sl 5 .u8)],[q7,.bool],.uniq,dD⟩
theorem V4:Sd 131 xa:=sf (F:=Fv) (ek ⟨ru,WE,Ci,rJ,trivial⟩) Tryz.func131 λ a=>by kernel_rfl
def OE:=fe [(129,w9),(130,oc),(131,xa)] [(3,[.slot 7 .i64 (.imm false),.box 2 q7 (.own true),.box 4 q7 (.own true)])]
def pa:PF:=⟨[R (.pair .i64 .i64),R (.sl 5 .u8)],[q7,.i64],.uniq,QE⟩
theorem s50:Sd 50 pa:=sf (F:=OE) (ek ⟨V3,BZ,V4,trivial⟩) Tryz.func50 λ a=>by kernel_rfl
def Iu:=fe [(90,aM)] []
def fD:PF:=⟨[R q7,R q7],[.bool],.uniq,j8⟩
theorem rB:Sd 25 fD:=sf (F:=Iu) (ek ⟨gr,trivial⟩) Tryz.func25 λ a=>by kernel_rfl
def G0:=fe [(137,NQ)] [(3,[.slot 3 (.sl 5 .u8) (.own true),.slot 8 .i64 (.imm false)])]
def oK:PF:=⟨[R (.sl 3 .i64)],[(.sl 5 .u8)],.uniq,QV⟩
theorem Cm:Sd 219 oK:=sf (F:=G0) (ek ⟨bj,trivial⟩) Tryz.func219 λ a=>by kernel_rfl
def G3:=fe [(137,NQ)] []
def oL:PF:=⟨[R .str],[(.sl 5 .u8)],.uniq,QL⟩
theorem Cn:Sd 221 oL:=sf (F:=G3) (ek ⟨bj,trivial⟩) Tryz.func221 λ a=>by kernel_rfl
def G2:=fe [(116,ax),(137,NQ),(221,oL),(219,oK)] []
def xT:PF:=⟨[R (.pair .i64 .i64),R q4],[(.sl 5 .u8)],.uniq,dw⟩
theorem WH:Sd 220 xT:=sf (F:=G2) (ek ⟨f6,bj,Cn,Cm,trivial⟩) Tryz.func220 λ a=>by kernel_rfl
def FA:=fe [(78,fK),(219,oK),(220,xT),(221,oL)] []
def xe:PF:=⟨[R (.pair .i64 .i64),R q7],[(.sl 5 .u8)],.uniq,dC⟩
theorem V7:Sd 136 xe:=sf (F:=FA) (ek ⟨rJ,Cm,WH,Cn,trivial⟩) Tryz.func136 λ a=>by kernel_rfl
def OJ:=fe [(136,xe),(137,NQ)] []
def A3:PF:=⟨[R (.pair .i64 .i64),R q7],[(.sl 5 .u8)],.uniq,dr⟩
theorem s55:Sd 55 A3:=sf (F:=OJ) (ek ⟨V7,bj,trivial⟩) Tryz.func55 λ a=>by kernel_rfl
def OI:=fe [(127,n9),(81,pm)] []
def A2:PF:=⟨[R Zp,R (.sl 5 .u8)],[Zp,.bool],.uniq,dh⟩
theorem s54:Sd 54 A2:=sf (F:=OI) (ek ⟨BX,CR,trivial⟩) Tryz.func54 λ a=>by kernel_rfl
def F9:=fe [(49,o9),(20,Mf),(25,fD),(55,A3),(54,A2),(56,pc)] []
def Bh:PF:=⟨[R (.pair .i64 .i64),R q1,R q7],[q1,.bool],.uniq,dK⟩
theorem s9:Sd 9 Bh:=sf (F:=F9) (ek ⟨CH,N7,rB,s55,s54,CK,trivial⟩) Tryz.func9 λ a=>by kernel_rfl
def OP:=fe [] [(3,[.slot 2 .i64 (.imm false),.box 2 q8 (.own true)])]
def A7:PF:=⟨[],[q8],.uniq,dn⟩
theorem s62:Sd 62 A7:=sf (F:=OP) (ek trivial) Tryz.func62 λ a=>by kernel_rfl
def OQ:=fe [(119,eZ)] [(4,[.slot 5 (.sl 60 q5) (.own true),.slot 15 .i64 (.imm false)])]
def A8:PF:=⟨[R .str],[(.sl 60 q5)],.uniq,dH⟩
theorem s63:Sd 63 A8:=sf (F:=OQ) (ek ⟨re,trivial⟩) Tryz.func63 λ a=>by kernel_rfl
def FK:=fe [(222,fz)] []
def oe:PF:=⟨[R q8],[q8],.uniq,NA⟩
theorem B1:Sd 145 oe:=sf (F:=FK) (ek ⟨rx,trivial⟩) Tryz.func145 λ a=>by kernel_rfl
def IN:=fe [(77,YP)] [(2,[.slot 11 .i64 (.imm false)])]
def Av:PF:=⟨[R (.sl 3 .i64),R .i64,R .i64],[.bool],.uniq,QR⟩
theorem Xc:Sd 275 Av:=sf (F:=IN) (ek ⟨Jv,trivial⟩) Tryz.func275 λ a=>by kernel_rfl
def G7:=fe [(275,Av)] []
def xV:PF:=⟨[R q8],[.bool],.uniq,QF⟩
theorem WK:Sd 225 xV:=sf (F:=G7) (ek ⟨Xc,trivial⟩) Tryz.func225 λ a=>by kernel_rfl
def FL:=fe [(145,oe),(225,xV),(157,NR)] []
def xk:PF:=⟨[R q8,R q5],[q8,.i64],.uniq,QJ⟩
theorem Wd:Sd 146 xk:=sf (F:=FL) (ek ⟨B1,WK,bl,trivial⟩) Tryz.func146 λ a=>by kernel_rfl
def OO:=fe [(145,oe),(146,xk)] [(4,[.slot 7 (.sl 3 .i64) (.own true),.slot 16 .i64 (.imm false),.box 7 q8 (.own true)])]
def A6:PF:=⟨[R q8,R (.sl 60 q5)],[q8,(.sl 3 .i64)],.uniq,dt⟩
theorem s61:Sd 61 A6:=sf (F:=OO) (ek ⟨B1,Wd,trivial⟩) Tryz.func61 λ a=>by kernel_rfl
def OS:=fe [] [(4,[.slot 5 .i64 (.imm false)])]
def A9:PF:=⟨[R (.sl 60 q5),R (.sl 60 q5)],[.bool],.uniq,ew⟩
theorem s65:Sd 65 A9:=sf (F:=OS) (ek trivial) Tryz.func65 λ a=>by kernel_rfl
def OZ:=fe [] [(4,[.slot 5 .i64 (.imm false)])]
def ph:PF:=⟨[R (.sl 3 .i64),R (.sl 3 .i64)],[.bool],.uniq,NH⟩
theorem s72:Sd 72 ph:=sf (F:=OZ) (ek trivial) Tryz.func72 λ a=>by kernel_rfl
def FN:=fe [(72,ph)] []
def xm:PF:=⟨[R q4,R q4],[.bool],.uniq,eu⟩
theorem We:Sd 148 xm:=sf (F:=FN) (ek ⟨s72,trivial⟩) Tryz.func148 λ a=>by kernel_rfl
def OT:=fe [(148,xm)] [(4,[.slot 5 .i64 (.imm false)])]
def Ba:PF:=⟨[R (.sl 58 q4),R (.sl 58 q4)],[.bool],.uniq,ev⟩
theorem s66:Sd 66 Ba:=sf (F:=OT) (ek ⟨We,trivial⟩) Tryz.func66 λ a=>by kernel_rfl
def OU:=fe [] []
def Bb:PF:=⟨[R Zp,R Zp],[.bool],.uniq,eq⟩
theorem s67:Sd 67 Bb:=sf (F:=OU) (ek trivial) Tryz.func67 λ a=>by kernel_rfl
def F0:=fe [(64,fJ),(65,A9),(66,Ba),(67,Bb),(68,pd)] [(4,[.slot 5 .i64 (.imm false)])]
def xx:PF:=⟨[R q1,R q1],[.bool],.uniq,NI⟩
theorem s16:Sd 16 xx:=sf (F:=F0) (ek ⟨rI,s65,s66,s67,CL,trivial⟩) Tryz.func16 λ a=>by kernel_rfl
def G1:=fe [(50,pa),(20,Mf),(25,fD)] []
def xS:PF:=⟨[R (.pair .i64 .i64),R q1],[.bool],.uniq,ja⟩
theorem s22:Sd 22 xS:=sf (F:=G1) (ek ⟨s50,N7,rB,trivial⟩) Tryz.func22 λ a=>by kernel_rfl
def F26:yR:=⟨⟨TYS,[(47,pf47),(60,yw),(91,Bi)],EQS,[(48,aK)],[],false,[],[],[],false,[]⟩,[]⟩
def aer:PF:=⟨[R (.sl 5 .u8)],[(.pair .i64 .i64),q1,.i64,q2],.shared,adt⟩
theorem s26:Sd 26 aer:=sf (F:=F26) (JK ⟨rH,yA,XW,trivial⟩ ⟨gn,trivial⟩ trivial trivial trivial trivial) Tryz.func26 λ a=>by kernel_rfl
def F27:=fe [(49,o9),(92,Bj),(20,Mf)] []
def F8:PF:=⟨[R (.pair .i64 .i64),R q1,R .i64,R q2],[q1,.bool],.uniq,s6⟩
theorem s27:Sd 27 F8:=sf (F:=F27) (ek ⟨CH,XX,N7,trivial⟩) Tryz.func27 λ a=>by kernel_rfl
def F28:=fe [(21,Zb),(57,Zc),(93,aN)] []
def aes:PF:=⟨[R (.pair .i64 .i64),R q1,R .i64,R q2],[q1,.bool],.own,adw⟩
theorem s28:Sd 28 aes:=sf (F:=F28) (ek ⟨Zr,Zs,gt,trivial⟩) Tryz.func28 λ a=>by kernel_rfl
def F29:yR:=⟨⟨TYS,[(47,pf47),(91,Bi)],EQS,[(48,aK)],[],false,[],[],[],false,[]⟩,[]⟩
def aex:PF:=⟨[R (.sl 5 .u8)],[(.pair .i64 .i64),q1,q2],.shared,adv⟩
theorem s29:Sd 29 aex:=sf (F:=F29) (JK ⟨rH,XW,trivial⟩ ⟨gn,trivial⟩ trivial trivial trivial trivial) Tryz.func29 λ a=>by kernel_rfl
def F30:=fe [(49,o9),(20,Mf),(27,F8)] [(5,[.slot 9 .i64 (.imm false),.box 11 q1 (.own true),.box 17 q1 (.own true)])]
def aeC:PF:=⟨[R (.pair .i64 .i64),R q1,R q2],[q1,.bool],.uniq,adb⟩
theorem s30:Sd 30 aeC:=sf (F:=F30) (ek ⟨CH,N7,s27,trivial⟩) Tryz.func30 λ a=>by kernel_rfl
def F32:yR:=⟨⟨TYS,[(47,pf47),(51,pf51),(60,yw),(94,NU)],EQS,[(48,aK)],[],false,[],[],[],false,[]⟩,[]⟩
def aeF:PF:=⟨[R (.sl 5 .u8)],[(.pair .i64 .i64),q1,.i64,.str,.bool],.shared,adq⟩
theorem s32:Sd 32 aeF:=sf (F:=F32) (JK ⟨rH,YV,yA,bo,trivial⟩ ⟨gn,trivial⟩ trivial trivial trivial trivial) Tryz.func32 λ a=>by kernel_rfl
def F95:=fe [(176,ox)] [(2,[.slot 11 .i64 (.imm false),.box 1 q4 (.own true)])]
def adJ:PF:=⟨[R (.sl 58 q4),R .i64,R .str],[q4],.uniq,acG⟩
theorem s95:Sd 95 adJ:=sf (F:=F95) (ek ⟨B9,trivial⟩) Tryz.func95 λ a=>by kernel_rfl
def F96:=fe [(76,Mh)] []
def acJ:PF:=⟨[R (.pair .i64 .i64),R .i64],[.i64],.uniq,s7⟩
theorem s96:Sd 96 acJ:=sf (F:=F96) (ek ⟨N9,trivial⟩) Tryz.func96 λ a=>by kernel_rfl
def F97:=fe [(138,fc),(116,ax)] []
def aeU:PF:=⟨[R (.pair .i64 .i64),R q4],[q4,.bool],.uniq,acV⟩
theorem s97:Sd 97 aeU:=sf (F:=F97) (ek ⟨rg,f6,trivial⟩) Tryz.func97 λ a=>by kernel_rfl
def aft:=fe [(138,fc)] []
def aek:PF:=⟨[R q4,R q4],[q4],.uniq,acX⟩
theorem ahp:Sd 242 aek:=sf (F:=aft) (ek ⟨rg,trivial⟩) Tryz.func242 λ a=>by kernel_rfl
def afv:=fe [(119,eZ),(118,wU)] []
def aem:PF:=⟨[R .str],[.str,.bool],.uniq,ad3⟩
theorem ahq:Sd 243 aem:=sf (F:=afv) (ek ⟨re,VT,trivial⟩) Tryz.func243 λ a=>by kernel_rfl
def afM:=fe [] []
def aey:PF:=⟨[R .str,R .str],[.bool],.uniq,adG⟩
theorem ahC:Sd 294 aey:=sf (F:=afM) (ek trivial) Tryz.func294 λ a=>by kernel_rfl
def afH:=fe [(294,aey)] []
def aet:PF:=⟨[R .str,R .str],[.bool],.uniq,adN⟩
theorem ahz:Sd 282 aet:=sf (F:=afH) (ek ⟨ahC,trivial⟩) Tryz.func282 λ a=>by kernel_rfl
def afx:=fe [(117,NP),(282,aet)] []
def aen:PF:=⟨[R .str,R .str],[.bool],.uniq,acR⟩
theorem ahs:Sd 244 aen:=sf (F:=afx) (ek ⟨bi,ahz,trivial⟩) Tryz.func244 λ a=>by kernel_rfl
def afj:=fe [(56,pc),(78,fK),(116,ax),(242,aek),(118,wU),(46,o8),(243,aem),(244,aen)] []
def aed:PF:=⟨[R (.pair .i64 .i64),R q7,R q4],[q7],.uniq,ad1⟩
theorem ahg:Sd 180 aed:=sf (F:=afj) (ek ⟨CK,rJ,f6,ahp,VT,CG,ahq,ahs,trivial⟩) Tryz.func180 λ a=>by kernel_rfl
def F98:=fe [(180,aed),(9,Bh),(96,acJ),(27,F8)] []
def pf98:PF:=⟨[R (.pair .i64 .i64),R q1,R q4],[q1,.bool],.uniq,adi⟩
theorem e98 (a:z7 pf98.params):my F98 Tryz.f98 pf98.params pf98.rets pf98.rk a=pf98.fn a:=by kernel_rfl
theorem s98:KT Tryz.prog GLB 98 pf98:=aaw (F:=F98) (ek ⟨ahg,s9,s96,s27,trivial⟩) Tryz.func98 (by kernel_rfl) (by rfl) (λ a o h=>(e98 a).trans h)
def afl:=fe [(76,Mh),(77,YP)] []
def adj:PF:=⟨[R (.pair .i64 .i64),R .i64,R .i64],[.i64],.uniq,s8⟩
theorem adK:Sd 181 adj:=sf (F:=afl) (ek ⟨N9,Jv,trivial⟩) Tryz.func181 λ a=>by kernel_rfl
def afo:=fe [(76,Mh),(77,YP)] []
def aeg:PF:=⟨[R (.pair .i64 .i64),R .i64,R .i64],[.i64],.uniq,ad6⟩
theorem ahk:Sd 184 aeg:=sf (F:=afo) (ek ⟨N9,Jv,trivial⟩) Tryz.func184 λ a=>by kernel_rfl
def afb:=fe [(181,adj),(184,aeg)] []
def adI:PF:=⟨[R (.pair .i64 .i64),R .i64,R .i64],[.i64],.uniq,F7⟩
theorem aeX:Sd 101 adI:=sf (F:=afb) (ek ⟨adK,ahk,trivial⟩) Tryz.func101 λ a=>by kernel_rfl
def afn:=fe [(181,adj),(101,adI)] [(2,[.slot 2 .i64 (.imm false),.slot 7 (.sl 3 .i64) (.own true)])]
def aee:PF:=⟨[R (.pair .i64 .i64),R .i64,R .i64],[(.sl 3 .i64)],.uniq,adf⟩
theorem ahh:Sd 183 aee:=sf (F:=afn) (ek ⟨adK,aeX,trivial⟩) Tryz.func183 λ a=>by kernel_rfl
def afI:=fe [] [(2,[.slot 8 .i64 (.imm false)])]
def aeu:PF:=⟨[R (.sl 3 .i64),R .i64],[.i64],.uniq,adM⟩
theorem ahA:Sd 283 aeu:=sf (F:=afI) (ek trivial) Tryz.func283 λ a=>by kernel_rfl
def afB:=fe [(283,aeu)] []
def aeo:PF:=⟨[R (.sl 3 .i64),R .i64],[.bool],.uniq,adn⟩
theorem aht:Sd 245 aeo:=sf (F:=afB) (ek ⟨ahA,trivial⟩) Tryz.func245 λ a=>by kernel_rfl
def afm:=fe [(245,aeo)] []
def adk:PF:=⟨[R (.sl 3 .i64),R .i64],[.bool],.uniq,F6⟩
theorem adL:Sd 182 adk:=sf (F:=afm) (ek ⟨aht,trivial⟩) Tryz.func182 λ a=>by kernel_rfl
def F99:=fe [(181,adj),(183,aee),(182,adk)] [(3,[.slot 7 (.sl 3 .i64) (.own true),.slot 8 .i64 (.imm false)])]
def aeV:PF:=⟨[R (.pair .i64 .i64),R .i64,R .i64],[(.sl 3 .i64)],.uniq,ade⟩
theorem s99:Sd 99 aeV:=sf (F:=F99) (ek ⟨adK,ahh,adL,trivial⟩) Tryz.func99 λ a=>by kernel_rfl
def af9:=fe [(182,adk)] [(3,[.slot 5 .i64 (.imm false),.slot 10 .i64 (.imm false)])]
def ae3:PF:=⟨[R (.sl 3 .i64),R (.sl 3 .i64)],[.i64],.uniq,acQ⟩
theorem ah6:Sd 100 ae3:=sf (F:=af9) (ek ⟨adL,trivial⟩) Tryz.func100 λ a=>by kernel_rfl
def F33:yR:=⟨⟨TYS,[(95,adJ),(20,Mf),(49,o9),(96,acJ),(97,aeU),(99,aeV),(100,ae3),(101,adI),(27,F8)],EQS,[],[],false,[(98,pf98)],[],[],false,[]⟩,[]⟩
def aeG:PF:=⟨[R (.pair .i64 .i64),R q1,R .i64,R .str,R .bool],[q1,.bool],.uniq,acO⟩
theorem s33:Sd 33 aeG:=sf (F:=F33) (JK ⟨s95,N7,CH,s96,s97,s99,ah6,aeX,s27,trivial⟩ trivial trivial s98 trivial trivial) Tryz.func33 λ a=>by kernel_rfl
def F35:yR:=⟨⟨TYS,[(47,pf47)],EQS,[(48,aK)],[],false,[],[],[],false,[]⟩,[]⟩
def aeH:PF:=⟨[R (.sl 5 .u8)],[(.pair .i64 .i64),q1],.shared,adr⟩
theorem s35:Sd 35 aeH:=sf (F:=F35) (JK ⟨rH,trivial⟩ ⟨gn,trivial⟩ trivial trivial trivial trivial) Tryz.func35 λ a=>by kernel_rfl
def afO:=fe [] []
def aeB:PF:=⟨[R .i64,(.cap,.i64)],[.bool],.uniq,adC⟩
theorem ahG:Sd 296 aeB:=sf (F:=afO) (ek trivial) Tryz.func296 λ a=>by kernel_rfl
def afN:=fe [(296,aeB)] [(2,[.slot 8 .i64 (.imm false)])]
def aeA:PF:=⟨[R (.sl 3 .i64),((.clo 296),.i64)],[.i64],.uniq,ado⟩
theorem ahF:Sd 295 aeA:=sf (F:=afN) (ek ⟨ahG,trivial⟩) Tryz.func295 λ a=>by kernel_rfl
def afJ:=fe [(182,adk),(222,fz),(295,aeA),(297,U8)] []
def aev:PF:=⟨[R (.sl 3 .i64),R .i64],[(.sl 3 .i64)],.uniq,acF⟩
theorem ahB:Sd 284 aev:=sf (F:=afJ) (ek ⟨adL,rx,ahF,acz,trivial⟩) Tryz.func284 λ a=>by kernel_rfl
def afC:=fe [(284,aev)] [(3,[.slot 5 (.sl 3 .i64) (.own true),.slot 12 .i64 (.imm false)]),(8,[.slot 5 (.sl 3 .i64) (.own true),.slot 22 .i64 (.imm false)])]
def aep:PF:=⟨[R (.sl 3 .i64),R (.sl 3 .i64)],[(.sl 3 .i64)],.uniq,ad2⟩
theorem ahu:Sd 252 aep:=sf (F:=afC) (ek ⟨ahB,trivial⟩) Tryz.func252 λ a=>by kernel_rfl
def afp:=fe [(252,aep)] []
def aeh:PF:=⟨[R q4,R q4],[q4,.bool],.uniq,acA⟩
theorem ahl:Sd 189 aeh:=sf (F:=afp) (ek ⟨ahu,trivial⟩) Tryz.func189 λ a=>by kernel_rfl
def afe:yR:=⟨⟨TYS,[(159,oh),(126,w7),(160,xy),(189,aeh),(176,ox),(80,Bf)],EQS,[],[],false,[],[(190,U6)],[],false,[]⟩,[(5,[.slot 9 .i64 (.imm false)])]⟩
def ae4:PF:=⟨[R (.pair .i64 .i64),R (.sl 58 q4),R q4],[(.sl 58 q4),.bool],.uniq,ada⟩
theorem ah7:Sd 103 ae4:=sf (F:=afe) (JK ⟨B3,V0,Wl,ahl,B9,XU,trivial⟩ trivial trivial trivial acx trivial) Tryz.func103 λ a=>by kernel_rfl
def F36:=fe [(20,Mf),(49,o9),(96,acJ),(103,ae4),(27,F8)] []
def aeM:PF:=⟨[R (.pair .i64 .i64),R q1],[q1,.bool],.uniq,acS⟩
theorem s36:Sd 36 aeM:=sf (F:=F36) (ek ⟨N7,CH,s96,ah7,s27,trivial⟩) Tryz.func36 λ a=>by kernel_rfl
def F38:yR:=⟨⟨TYS,[(47,pf47)],EQS,[(48,aK)],[],false,[],[],[],false,[]⟩,[]⟩
def aeO:PF:=⟨[R (.sl 5 .u8)],[(.pair .i64 .i64),q1],.shared,adp⟩
theorem s38:Sd 38 aeO:=sf (F:=F38) (JK ⟨rH,trivial⟩ ⟨gn,trivial⟩ trivial trivial trivial trivial) Tryz.func38 λ a=>by kernel_rfl
def aff:=fe [(95,adJ),(193,xJ)] []
def ae5:PF:=⟨[R (.pair .i64 .i64),R q1,R .i64],[.bool],.uniq,adF⟩
theorem ah8:Sd 106 ae5:=sf (F:=aff) (ek ⟨s95,Ww,trivial⟩) Tryz.func106 λ a=>by kernel_rfl
def afh:=fe [(146,xk)] [(3,[.slot 5 (.sl 60 q5) (.own true),.slot 12 .i64 (.imm false),.box 3 q8 (.own false)])]
def ae8:PF:=⟨[R (.sl 60 q5),(.own,q8)],[(.sl 60 q5)],.uniq,acC⟩
theorem ahe:Sd 108 ae8:=sf (F:=afh) (ek ⟨Wd,trivial⟩) Tryz.func108 λ a=>by kernel_rfl
def afD:=fe [(157,NR),(287,AB),(288,U7)] [(3,[.slot 3 (.sl 9 .str) (.own true),.slot 8 .i64 (.imm false)])]
def aeq:PF:=⟨[R (.sl 60 q5)],[.str],.uniq,adc⟩
theorem ahy:Sd 258 aeq:=sf (F:=afD) (ek ⟨bl,Xi,acy,trivial⟩) Tryz.func258 λ a=>by kernel_rfl
def afs:=fe [(157,NR),(257,oS),(258,aeq),(117,NP)] [(2,[.slot 12 .i64 (.imm false)])]
def aej:PF:=⟨[R .str,R .i64,R (.sl 60 q5)],[.str],.uniq,acU⟩
theorem aho:Sd 194 aej:=sf (F:=afs) (ek ⟨bl,Ct,ahy,bi,trivial⟩) Tryz.func194 λ a=>by kernel_rfl
def afg:=fe [(194,aej),(138,fc),(45,A0),(46,o8)] []
def ae7:PF:=⟨[R (.pair .i64 .i64),R q4,R .i64,R (.sl 60 q5)],[(.pair .str q4),.bool],.uniq,acm⟩
theorem ahd:Sd 107 ae7:=sf (F:=afg) (ek ⟨aho,rg,XJ,CG,trivial⟩) Tryz.func107 λ a=>by kernel_rfl
def F39:=fe [(20,Mf),(96,acJ),(106,ae5),(62,A7),(63,A8),(61,A6),(108,ae8),(107,ae7)] []
def aeP:PF:=⟨[R (.pair .i64 .i64),R q1],[(.pair .str q4),.bool],.uniq,acN⟩
theorem s39:Sd 39 aeP:=sf (F:=F39) (ek ⟨N7,s96,ah8,s62,s63,s61,ahe,ahd,trivial⟩) Tryz.func39 λ a=>by kernel_rfl
def F42:yR:=⟨⟨TYS,[(47,pf47)],EQS,[(48,aK)],[],false,[],[],[],false,[]⟩,[]⟩
def aeR:PF:=⟨[R (.sl 5 .u8)],[(.pair .i64 .i64),q1],.shared,ads⟩
theorem s42:Sd 42 aeR:=sf (F:=F42) (JK ⟨rH,trivial⟩ ⟨gn,trivial⟩ trivial trivial trivial trivial) Tryz.func42 λ a=>by kernel_rfl
def afi:=fe [(127,n9),(81,pm)] []
def aeb:PF:=⟨[R Zp],[Zp],.uniq,ad9⟩
theorem ahf:Sd 113 aeb:=sf (F:=afi) (ek ⟨BX,CR,trivial⟩) Tryz.func113 λ a=>by kernel_rfl
def F43:=fe [(49,o9),(20,Mf),(113,aeb)] []
def aeT:PF:=⟨[R (.pair .i64 .i64),R q1],[q1,Kz],.uniq,ad8⟩
theorem s43:Sd 43 aeT:=sf (F:=F43) (ek ⟨CH,N7,ahf,trivial⟩) Tryz.func43 λ a=>by kernel_rfl
end
end G448
