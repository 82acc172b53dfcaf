/- That the printed functions are what the evaluator reckons. (Printed by our own program.) -/
import Derived.Test.YthcbhmiocejpjaaGreatDoorProg
import Derived.Test.YthcbhmiocejpjaaGreatDoorCeFns
import Derived.Test.YthcbhmiocejpjaaGreatDoorSh
import Derived.KernelRfl
set_option linter.unusedSimpArgs false
set_option linter.unusedVariables false
namespace G448
open Ev Go Go.Proofs
set_option maxRecDepth 100000
noncomputable section
abbrev q1:Ty:=(.pair .i64 (.pair .i64 (.pair .i64 (.pair (.pair .i64 (.pair .i64 (.pair (.pair .i64 (.pair .str (.sl 3 .i64))) .str))) (.pair (.sl 63 (.pair .i64 (.pair .i64 (.pair .i64 .i64)))) (.pair (.sl 61 (.pair .i64 (.pair .str (.sl 3 .i64)))) (.pair (.pair (.sl 5 .u8) .i64) (.sl 137 (.pair .i64 (.pair .i64 (.pair .i64 (.pair (.pair .str (.pair .i64 (.pair .str (.sl 3 .i64)))) (.pair (.pair .i64 (.pair .str (.sl 3 .i64))) (.pair (.pair .i64 (.pair .str (.sl 3 .i64))) (.pair .i64 (.pair .i64 (.pair .i64 (.pair .i64 .i64))))))))))))))))))
abbrev q2:Ty:=(.pair .i64 (.pair .i64 (.pair (.pair .str (.pair .i64 (.pair .str (.sl 3 .i64)))) (.pair (.pair .i64 (.pair .str (.sl 3 .i64))) (.pair (.pair .i64 (.pair .str (.sl 3 .i64))) (.pair .i64 (.pair .i64 (.pair .i64 (.pair .i64 .i64)))))))))
abbrev q3:Ty:=(.pair (.pair .i64 .i64) (.pair (.sl 3 .i64) (.pair (.sl 50 q1) (.pair (.sl 93 (.pair .i64 (.sl 5 .u8))) (.sl 86 (.pair .i64 (.pair .str .i64)))))))
abbrev q4:Ty:=(.pair .i64 (.pair .str (.sl 3 .i64)))
abbrev q5:Ty:=(.pair .i64 (.pair .i64 (.pair .i64 .i64)))
abbrev q6:Ty:=(.pair .i64 (.pair .i64 (.pair q4 .str)))
abbrev q7:Ty:=(.pair (.sl 3 .i64) (.sl 3 .i64))
abbrev q8:Ty:=(.pair .i64 (.pair .i64 (.pair .i64 q2)))
abbrev q9:Ty:=(.pair (.sl 5 .u8) (.pair .i64 .i64))
abbrev Zu:Ty:=(.pair (.sl 5 .u8) .i64)
abbrev KN:Ty:=(.pair (.sl 5 .u8) (.pair .i64 .bool))
abbrev LB:Ty:=(.sl 86 (.pair .i64 (.pair .str .i64)))
abbrev JL:Ty:=(.sl 137 (.pair .i64 q2))
abbrev dm:Ty:=(.pair .i64 (.pair .str (.sl 0 .i64)))
abbrev lW:Ty:=(.sl 114 (.pair .i64 (.sl 63 q5)))
def TYS:List (Nat×TD):=[(3,⟨.i64,8,[],none⟩),(4,⟨.bool,1,[],none⟩),(5,⟨.u8,1,[],none⟩),(9,⟨.str,16,[],none⟩),(22,⟨(.sl 5 .u8),24,[],none⟩),(25,⟨(.pair .i64 .i64),16,[(0,3),(1,3)],none⟩),(26,⟨(.sl 3 .i64),24,[],none⟩),(27,⟨(.sl 50 (.pair .i64 (.pair .i64 (.pair .i64 (.pair (.pair .i64 (.pair .i64 (.pair (.pair .i64 (.pair .str (.sl 3 .i64))) .str))) (.pair (.sl 63 (.pair .i64 (.pair .i64 (.pair .i64 .i64)))) (.pair (.sl 61 (.pair .i64 (.pair .str (.sl 3 .i64)))) (.pair (.pair (.sl 5 .u8) .i64) (.sl 137 (.pair .i64 (.pair .i64 (.pair .i64 (.pair (.pair .str (.pair .i64 (.pair .str (.sl 3 .i64)))) (.pair (.pair .i64 (.pair .str (.sl 3 .i64))) (.pair (.pair .i64 (.pair .str (.sl 3 .i64))) (.pair .i64 (.pair .i64 (.pair .i64 (.pair .i64 .i64))))))))))))))))))),24,[],none⟩),(28,⟨(.sl 93 (.pair .i64 (.sl 5 .u8))),24,[],none⟩),(29,⟨(.sl 86 (.pair .i64 (.pair .str .i64))),24,[],none⟩),(31,⟨(.pair (.pair .i64 .i64) (.pair (.sl 3 .i64) (.pair (.sl 50 (.pair .i64 (.pair .i64 (.pair .i64 (.pair (.pair .i64 (.pair .i64 (.pair (.pair .i64 (.pair .str (.sl 3 .i64))) .str))) (.pair (.sl 63 (.pair .i64 (.pair .i64 (.pair .i64 .i64)))) (.pair (.sl 61 (.pair .i64 (.pair .str (.sl 3 .i64)))) (.pair (.pair (.sl 5 .u8) .i64) (.sl 137 (.pair .i64 (.pair .i64 (.pair .i64 (.pair (.pair .str (.pair .i64 (.pair .str (.sl 3 .i64)))) (.pair (.pair .i64 (.pair .str (.sl 3 .i64))) (.pair (.pair .i64 (.pair .str (.sl 3 .i64))) (.pair .i64 (.pair .i64 (.pair .i64 (.pair .i64 .i64))))))))))))))))))) (.pair (.sl 93 (.pair .i64 (.sl 5 .u8))) (.sl 86 (.pair .i64 (.pair .str .i64))))))),112,[(0,25),(2,26),(3,27),(4,28),(5,29)],none⟩),(32,⟨(.sl 67 (.pair .i64 (.pair .i64 (.pair .i64 (.pair .i64 (.pair .i64 (.pair (.pair .str (.pair .i64 (.pair .str (.sl 3 .i64)))) (.pair (.pair .i64 (.pair .str (.sl 3 .i64))) (.pair (.pair .i64 (.pair .str (.sl 3 .i64))) (.pair .i64 (.pair .i64 (.pair .i64 (.pair .i64 .i64))))))))))))),24,[],none⟩),(41,⟨(.pair .i64 (.pair .str (.sl 3 .i64))),48,[(0,3),(1,9),(2,26)],none⟩),(43,⟨(.pair .i64 (.pair .i64 (.pair (.pair .i64 (.pair .str (.sl 3 .i64))) .str))),80,[(0,3),(1,3),(2,41),(5,9)],none⟩),(44,⟨(.sl 63 (.pair .i64 (.pair .i64 (.pair .i64 .i64)))),24,[],none⟩),(45,⟨(.sl 61 (.pair .i64 (.pair .str (.sl 3 .i64)))),24,[],none⟩),(47,⟨(.pair (.sl 5 .u8) .i64),32,[(0,22),(1,3)],none⟩),(48,⟨(.sl 137 (.pair .i64 (.pair .i64 (.pair .i64 (.pair (.pair .str (.pair .i64 (.pair .str (.sl 3 .i64)))) (.pair (.pair .i64 (.pair .str (.sl 3 .i64))) (.pair (.pair .i64 (.pair .str (.sl 3 .i64))) (.pair .i64 (.pair .i64 (.pair .i64 (.pair .i64 .i64))))))))))),24,[],none⟩),(50,⟨(.pair .i64 (.pair .i64 (.pair .i64 (.pair (.pair .i64 (.pair .i64 (.pair (.pair .i64 (.pair .str (.sl 3 .i64))) .str))) (.pair (.sl 63 (.pair .i64 (.pair .i64 (.pair .i64 .i64)))) (.pair (.sl 61 (.pair .i64 (.pair .str (.sl 3 .i64)))) (.pair (.pair (.sl 5 .u8) .i64) (.sl 137 (.pair .i64 (.pair .i64 (.pair .i64 (.pair (.pair .str (.pair .i64 (.pair .str (.sl 3 .i64)))) (.pair (.pair .i64 (.pair .str (.sl 3 .i64))) (.pair (.pair .i64 (.pair .str (.sl 3 .i64))) (.pair .i64 (.pair .i64 (.pair .i64 (.pair .i64 .i64)))))))))))))))))),208,[(0,3),(1,3),(2,3),(3,43),(9,44),(10,45),(11,47),(13,48)],none⟩),(60,⟨(.pair .str (.pair .i64 (.pair .str (.sl 3 .i64)))),64,[(0,9),(1,41)],none⟩),(61,⟨(.pair .i64 (.pair .str (.sl 3 .i64))),48,[(0,3),(1,9),(2,26)],none⟩),(63,⟨(.pair .i64 (.pair .i64 (.pair .i64 .i64))),32,[(0,3),(1,3),(2,3),(3,3)],none⟩),(65,⟨(.pair .i64 (.pair .i64 (.pair (.pair .str (.pair .i64 (.pair .str (.sl 3 .i64)))) (.pair (.pair .i64 (.pair .str (.sl 3 .i64))) (.pair (.pair .i64 (.pair .str (.sl 3 .i64))) (.pair .i64 (.pair .i64 (.pair .i64 (.pair .i64 .i64))))))))),216,[(0,3),(1,3),(2,60),(6,61),(9,41),(12,3),(13,63)],none⟩),(67,⟨(.pair .i64 (.pair .i64 (.pair .i64 (.pair .i64 (.pair .i64 (.pair (.pair .str (.pair .i64 (.pair .str (.sl 3 .i64)))) (.pair (.pair .i64 (.pair .str (.sl 3 .i64))) (.pair (.pair .i64 (.pair .str (.sl 3 .i64))) (.pair .i64 (.pair .i64 (.pair .i64 (.pair .i64 .i64)))))))))))),240,[(0,3),(1,3),(2,3),(3,65)],none⟩),(86,⟨(.pair .i64 (.pair .str .i64)),32,[(0,3),(1,9),(2,3)],none⟩),(88,⟨(.pair (.sl 5 .u8) (.pair .i64 .i64)),40,[(0,22),(1,3),(2,3)],none⟩),(93,⟨(.pair .i64 (.sl 5 .u8)),32,[(0,3),(1,22)],none⟩),(110,⟨(.sl 114 (.pair .i64 (.sl 63 (.pair .i64 (.pair .i64 (.pair .i64 .i64)))))),24,[],none⟩),(114,⟨(.pair .i64 (.sl 63 (.pair .i64 (.pair .i64 (.pair .i64 .i64))))),32,[(0,3),(1,44)],none⟩),(124,⟨(.pair (.sl 3 .i64) (.sl 3 .i64)),48,[(0,26),(1,26)],none⟩),(137,⟨(.pair .i64 (.pair .i64 (.pair .i64 (.pair (.pair .str (.pair .i64 (.pair .str (.sl 3 .i64)))) (.pair (.pair .i64 (.pair .str (.sl 3 .i64))) (.pair (.pair .i64 (.pair .str (.sl 3 .i64))) (.pair .i64 (.pair .i64 (.pair .i64 (.pair .i64 .i64)))))))))),224,[(0,3),(1,65)],none⟩),(141,⟨(.pair (.sl 5 .u8) (.pair .i64 .bool)),40,[(0,22),(1,3),(2,4)],none⟩),(147,⟨(.pair (.sl 5 .u8) (.pair .i64 .bool)),40,[(0,22),(1,3),(2,4)],none⟩),(167,⟨(.sl 9 .str),24,[],none⟩),(239,⟨(.sl 3 .i64),32,[],some 4⟩)]
def EQS:List Nat:=[63,86]
theorem tysOK:yA Tryz.prog TYS=true:=by kernel_rfl
theorem Wm:EQS.all (Na Tryz.prog TYS)=true:=by kernel_rfl
theorem aaP:Tryz.prog.follows .mixedOrders=true:=by kernel_rfl
theorem K8 {fns:List (Nat×PF)} {news:List (Nat×NF)} {muts:List (Nat×MF)} {frz hold:Bool} {conds joins alts:List (Nat×PF)} {thaws:List (Nat×Nat)} (h:AllS Tryz.prog GLB fns) (h2:AllN Tryz.prog GLB news) (h3:AllM Tryz.prog GLB muts) (h4:AllC Tryz.prog GLB conds) (h5:AllJ Tryz.prog GLB joins) (h6:AllS Tryz.prog GLB alts):Zx Tryz.prog GLB ⟨TYS,fns,EQS,news,muts,frz,conds,joins,alts,hold,thaws⟩:=Wl aaP tysOK Wm h h2 h3 h4 h5 h6
def fe (fns:List (Nat×PF)) (ls:List (Nat×List Ev.Item)):jv:=⟨⟨TYS,fns,EQS,[],[],false,[],[],[],false,[]⟩,ls⟩
theorem ek {fns:List (Nat×PF)} {frz hold:Bool} {thaws:List (Nat×Nat)} (h:AllS Tryz.prog GLB fns):Zx Tryz.prog GLB ⟨TYS,fns,EQS,[],[],frz,[],[],[],hold,thaws⟩:=K8 h trivial trivial trivial trivial trivial
abbrev R (t:Ty):PK×Ty:=(.rd,t)
abbrev Sd (f:Nat) (pf:PF):Prop:=Sound Tryz.prog GLB f pf
theorem sf {F:jv} {f:FuncId} {fn:Func} {pf:PF} (hE:Zx Tryz.prog GLB F.E) (hf:Tryz.prog.funcs[f]?=some fn) (he:∀ a,fM F fn pf.params pf.rets pf.rk a=pf.fn a) (hn:(fn.name == "runtime.NumGoroutine")=false:=by kernel_rfl) (ht:F.E.thaws=[]:=by rfl):Sd f pf:=af7 hE hf hn (λ a o h=>(he a).trans h) (.inl ht)
def oP (pf:PF) (v:zW pf.params pf.rets):PF:={pf with fn:=λ _=>some v}
def MV:Code->Code | .seq a _=>a|c=>c
def Kn:Code->Code | .seq _ b=>b|c=>c
def xf:Code->Code | .cond _ a _=>a|c=>c
def rn (F:jv) (c:Code) (st:St):St:=match jT F c st (λ _ s=>some s) with|some s=>s|none=>st
def rgo (F:jv) (c:Code) (lo hi:Nat) (st:St):St:=match c with | .region _ ops _=>(match evReg F.E ops.toList ((ops.toList.take hi).drop lo) st some with|some s=>s|none=>st)|_=>st
def en (fn:Func) (ps:List (PK×Ty)) (args:yc ps):St:=match jo ps args 0 with|some (avs,es,j)=>{ slots:=avs++List.replicate (fn.ntmps - avs.length) (.tup []),tab:=es,nxt:=j,lvl:=0 }|none=>⟨[],[],0,0⟩
def bE (F:jv) (fn:Func) (ps:List (PK×Ty)) (rets:List Ty) (rk:RK) (args:yc ps) (c:Code) (st:St):Option (zW ps rets):=jT F c st λ x st=>match x with | .exit _=>none | .normal=>qS F fn ps rets rk args st | .ret=>qS F fn ps rets rk args st
theorem bc {α β:Type} {x:Option α} {f g:α->Option β} (h:∀ y,f y=g y):x.bind f=x.bind g:=by rw[funext h]
theorem cc {α:Type} {c:Bool} {x y z t:α} (h:x=z) (k:y=t):(bif c then x else y)=bif c then z else t:=by rw[h,k]
def F4:=fe [] []
def Er:PF:=⟨[R (.sl 5 .u8)],[.bool],.uniq,rE⟩
theorem s4:Sd 4 Er:=sf (F:=F4) (ek trivial) Tryz.func4 λ a=>by kernel_rfl
def wx:=fe [] [(3,[.slot 3 .i64 (.imm false),.slot 4 .i64 (.imm false)])]
def Cn:NF:=⟨[(.rd,(.sl 5 .u8))],q9,eA⟩
theorem Wb (a:yc [(.rd,(.sl 5 .u8))]):pm wx Tryz.f12 [(.rd,(.sl 5 .u8))] q9 a=eA a:=by kernel_rfl
theorem s12:LZ Tryz.prog GLB 12 Cn:=af8 (F:=wx) (ek trivial) Tryz.func12 (by kernel_rfl) (λ a o h=>(Wb a).trans h)
def TA:=fe [] []
def Ep:PF:=⟨[(.ptr,q9)],[.i64],.uniq,MS⟩
theorem s39:Sd 39 Ep:=sf (F:=TA) (ek trivial) Tryz.func39 λ a=>by kernel_rfl
def Px:=fe [(39,Ep)] []
def Lt:PF:=⟨[(.ptr,q9),R .i64],[.i64],.uniq,zN⟩
theorem MD:Sd 15 Lt:=sf (F:=Px) (ek ⟨s39,trivial⟩) Tryz.func15 λ a=>by kernel_rfl
def Tw:=fe [(15,Lt)] []
def lL:PF:=⟨[(.ptr,q9),R (.sl 3 .i64)],[.i64],.uniq,aX⟩
theorem uS:Sd 36 lL:=sf (F:=Tw) (ek ⟨MD,trivial⟩) Tryz.func36 λ a=>by kernel_rfl
def Tx:=fe [(15,Lt)] []
def pf37:PF:=⟨[(.ptr,q9),R .i64],[.bool],.uniq,MT⟩
theorem mE:Sd 37 pf37:=sf (F:=Tx) (ek ⟨MD,trivial⟩) Tryz.func37 λ a=>by kernel_rfl
def TM:=fe [] []
def Zd:PF:=⟨[R .i64,R .i64,R .i64],[.bool],.uniq,yC⟩
theorem Zl:Sd 51 Zd:=sf (F:=TM) (ek trivial) Tryz.func51 λ a=>by kernel_rfl
def R1:=fe [(51,Zd)] []
def Y8:PF:=⟨[R (.pair .i64 .i64)],[.bool],.uniq,Yz⟩
theorem JO:Sd 23 Y8:=sf (F:=R1) (ek ⟨Zl,trivial⟩) Tryz.func23 λ a=>by kernel_rfl
def PO:=fe [] [(4,[.slot 5 (.sl 9 .str) (.own true),.slot 6 .i64 (.imm false),.slot 7 .i64 (.imm false)])]
def sQ:PF:=⟨[R .str,R .u8],[(.sl 9 .str)],.uniq,d6⟩
theorem FP:Sd 163 sQ:=sf (F:=PO) (ek trivial) Tryz.func163 λ a=>by kernel_rfl
def PP:=fe [] [(2,[.slot 7 .i64 (.imm false)])]
def sR:PF:=⟨[R .str,R .u8],[.str,.str,.bool],.uniq,MU⟩
theorem FQ:Sd 164 sR:=sf (F:=PP) (ek trivial) Tryz.func164 λ a=>by kernel_rfl
def Ro:=fe [] [(5,[.slot 0 .i64 (.imm false),.slot 4 .str (.imm false)])]
def lr:PF:=⟨[R .i64],[.str],.uniq,KS⟩
theorem uD:Sd 195 lr:=sf (F:=Ro) (ek trivial) Tryz.func195 λ a=>by kernel_rfl
def PQ:=fe [(195,lr)] [(5,[.slot 4 .i64 (.imm false),.slot 5 .i64 (.imm false)])]
def sU:PF:=⟨[R .str],[.i64,.bool],.uniq,MO⟩
theorem FR:Sd 165 sU:=sf (F:=PQ) (ek ⟨uD,trivial⟩) Tryz.func165 λ a=>by kernel_rfl
def PE:=fe [(51,Zd)] []
def NK:PF:=⟨[R q5],[.bool],.uniq,LO⟩
theorem QX:Sd 156 NK:=sf (F:=PE) (ek ⟨Zl,trivial⟩) Tryz.func156 λ a=>by kernel_rfl
def Sc:=fe [(156,NK),(195,lr)] []
def tl:PF:=⟨[R q5],[.str],.uniq,aN⟩
theorem Gd:Sd 244 tl:=sf (F:=Sc) (ek ⟨QX,uD,trivial⟩) Tryz.func244 λ a=>by kernel_rfl
def RN:=fe [(164,sR),(165,sU),(244,tl)] []
def Db:PF:=⟨[R .str],[q5,.bool],.uniq,ec⟩
theorem acP:Sd 217 Db:=sf (F:=RN) (ek ⟨FQ,FR,Gd,trivial⟩) Tryz.func217 λ a=>by kernel_rfl
def PR:=fe [(163,sQ),(217,Db)] [(6,[.slot 4 (.sl 63 q5) (.own true),.slot 6 .i64 (.imm false)])]
def CF:PF:=⟨[R .str],[(.sl 63 q5),.bool],.uniq,nJ⟩
theorem ack:Sd 166 CF:=sf (F:=PR) (ek ⟨FP,acP,trivial⟩) Tryz.func166 λ a=>by kernel_rfl
def OO:=fe [(163,sQ),(164,sR),(165,sU),(166,CF)] [(10,[.slot 5 lW (.own true),.slot 7 .i64 (.imm false),.slot 8 .i64 (.imm false)])]
def cK:PF:=⟨[R .str],[lW,.bool],.uniq,qa⟩
theorem ml:Sd 106 cK:=sf (F:=OO) (ek ⟨FP,FQ,FR,ack,trivial⟩) Tryz.func106 λ a=>by kernel_rfl
def TR:=fe [(106,cK)] []
def Lv:PF:=⟨[R .str],[.bool],.uniq,JT⟩
theorem MG:Sd 56 Lv:=sf (F:=TR) (ek ⟨ml,trivial⟩) Tryz.func56 λ a=>by kernel_rfl
def TS:=fe [(106,cK)] []
def Kf:PF:=⟨[R .str],[.i64],.uniq,YX⟩
theorem KR:Sd 57 Kf:=sf (F:=TS) (ek ⟨ml,trivial⟩) Tryz.func57 λ a=>by kernel_rfl
def TO:=fe [] [(2,[.slot 5 .i64 (.imm false)])]
def lN:PF:=⟨[R .i64,R (.sl 3 .i64)],[.bool],.uniq,aK⟩
theorem uU:Sd 53 lN:=sf (F:=TO) (ek trivial) Tryz.func53 λ a=>by kernel_rfl
def Uc:=fe [(23,Y8)] []
def lQ:PF:=⟨[R (.pair .i64 .i64)],[.i64],.uniq,aG⟩
theorem uX:Sd 74 lQ:=sf (F:=Uc) (ek ⟨JO,trivial⟩) Tryz.func74 λ a=>by kernel_rfl
def Uj:=fe [(23,Y8),(56,Lv),(57,Kf),(53,lN),(74,lQ)] []
def pf81:PF:=⟨[R (.pair .i64 .i64),R q4],[.bool],.uniq,JU⟩
theorem MH:Sd 81 pf81:=sf (F:=Uj) (ek ⟨JO,MG,KR,uU,uX,trivial⟩) Tryz.func81 λ a=>by kernel_rfl
def Uz:=fe [(51,Zd),(81,pf81),(56,Lv)] []
def NS:PF:=⟨[R (.pair .i64 .i64),R q6],[.bool],.uniq,LM⟩
theorem ag:Sd 97 NS:=sf (F:=Uz) (ek ⟨Zl,MH,MG,trivial⟩) Tryz.func97 λ a=>by kernel_rfl
def PG:=fe [] []
def sO:PF:=⟨[R q5,R q5],[.bool],.uniq,eD⟩
theorem FN:Sd 157 sO:=sf (F:=PG) (ek trivial) Tryz.func157 λ a=>by kernel_rfl
def UA:=fe [(156,NK),(157,sO)] [(2,[.slot 3 .i64 (.imm false)])]
def tT:PF:=⟨[R (.sl 63 q5)],[.bool],.uniq,N7⟩
theorem GC:Sd 98 tT:=sf (F:=UA) (ek ⟨QX,FN,trivial⟩) Tryz.func98 λ a=>by kernel_rfl
def PH:=fe [(23,Y8),(51,Zd),(53,lN),(56,Lv),(57,Kf)] []
def cT:PF:=⟨[R (.pair .i64 .i64),R q4],[.bool],.uniq,LL⟩
theorem my:Sd 158 cT:=sf (F:=PH) (ek ⟨JO,Zl,uU,MG,KR,trivial⟩) Tryz.func158 λ a=>by kernel_rfl
def PI:=fe [] []
def sP:PF:=⟨[R q4,R q4],[.bool],.uniq,eq⟩
theorem FO:Sd 159 sP:=sf (F:=PI) (ek trivial) Tryz.func159 λ a=>by kernel_rfl
def UB:=fe [(158,cT),(159,sP)] [(2,[.slot 5 .i64 (.imm false)])]
def tU:PF:=⟨[R (.pair .i64 .i64),R (.sl 61 q4)],[.bool],.uniq,qc⟩
theorem GD:Sd 99 tU:=sf (F:=UB) (ek ⟨my,FO,trivial⟩) Tryz.func99 λ a=>by kernel_rfl
def OB:=fe [(51,Zd)] []
def cI:PF:=⟨[R Zu],[.bool],.uniq,MM⟩
theorem mi:Sd 100 cI:=sf (F:=OB) (ek ⟨Zl,trivial⟩) Tryz.func100 λ a=>by kernel_rfl
def Tc:=fe [] [(2,[.slot 5 .i64 (.imm false)])]
def tz:PF:=⟨[R (.sl 3 .i64),R (.sl 3 .i64)],[.bool],.uniq,eE⟩
theorem Gk:Sd 310 tz:=sf (F:=Tc) (ek trivial) Tryz.func310 λ a=>by kernel_rfl
def SE:=fe [(310,tz)] []
def lG:PF:=⟨[R q4,R q4],[.bool],.uniq,aF⟩
theorem uN:Sd 269 lG:=sf (F:=SE) (ek ⟨Gk,trivial⟩) Tryz.func269 λ a=>by kernel_rfl
def SC:=fe [(269,lG)] []
def DF:PF:=⟨[R (.pair .str q4),R (.pair .str q4)],[.bool],.uniq,mZ⟩
theorem adl:Sd 267 DF:=sf (F:=SC) (ek ⟨uN,trivial⟩) Tryz.func267 λ a=>by kernel_rfl
def SD:=fe [(310,tz)] []
def DG:PF:=⟨[R q4,R q4],[.bool],.uniq,nP⟩
theorem adm:Sd 268 DG:=sf (F:=SD) (ek ⟨Gk,trivial⟩) Tryz.func268 λ a=>by kernel_rfl
def RM:=fe [(267,DF),(268,DG),(269,lG)] []
def Da:PF:=⟨[R q2,R q2],[.bool],.uniq,MN⟩
theorem acO:Sd 216 Da:=sf (F:=RM) (ek ⟨adl,adm,uN,trivial⟩) Tryz.func216 λ a=>by kernel_rfl
def PL:=fe [(216,Da)] []
def CD:PF:=⟨[R q2],[.bool],.uniq,nQ⟩
theorem aci:Sd 160 CD:=sf (F:=PL) (ek ⟨acO,trivial⟩) Tryz.func160 λ a=>by kernel_rfl
def TB:=fe [] []
def Mu:PF:=⟨[R .i64,R .i64],[.i64],.uniq,jP⟩
theorem NY:Sd 40 Mu:=sf (F:=TB) (ek trivial) Tryz.func40 λ a=>by kernel_rfl
def Pi:=fe [(56,Lv),(40,Mu)] [(4,[.slot 3 .i64 (.imm false)])]
def cO:PF:=⟨[R .str],[.str],.uniq,MR⟩
theorem mr:Sd 136 cO:=sf (F:=Pi) (ek ⟨MG,NY,trivial⟩) Tryz.func136 λ a=>by kernel_rfl
def Ph:=fe [(81,pf81),(56,Lv),(136,cO)] []
def cN:PF:=⟨[R (.pair .i64 .i64),R (.pair .str q4)],[.bool],.uniq,N4⟩
theorem mq:Sd 135 cN:=sf (F:=Ph) (ek ⟨MH,MG,mr,trivial⟩) Tryz.func135 λ a=>by kernel_rfl
def OJ:=fe [(23,Y8),(160,CD),(135,cN),(158,cT),(51,Zd),(81,pf81),(156,NK)] []
def NJ:PF:=⟨[R (.pair .i64 .i64),R q2],[.bool],.uniq,YV⟩
theorem QW:Sd 101 NJ:=sf (F:=OJ) (ek ⟨JO,aci,mq,my,Zl,MH,QX,trivial⟩) Tryz.func101 λ a=>by kernel_rfl
def TN:=fe [(23,Y8),(51,Zd),(97,NS),(98,tT),(99,tU),(100,cI),(101,NJ)] [(4,[.slot 5 .i64 (.imm false)])]
def Yr:PF:=⟨[R (.pair .i64 .i64),R q1],[.bool],.uniq,ZM⟩
theorem YR:Sd 52 Yr:=sf (F:=TN) (ek ⟨JO,Zl,ag,GC,GD,mi,QW,trivial⟩) Tryz.func52 λ a=>by kernel_rfl
def Sa:=fe [(52,Yr)] []
def Do:PF:=⟨[R (.pair .i64 .i64),R .i64],[q1,.bool],.uniq,nw⟩
theorem s24:Sd 24 Do:=sf (F:=Sa) (ek ⟨YR,trivial⟩) Tryz.func24 λ a=>by kernel_rfl
def TP:=fe [(23,Y8)] []
def Eu:PF:=⟨[R (.pair .i64 .i64)],[.i64],.uniq,na⟩
theorem s54:Sd 54 Eu:=sf (F:=TP) (ek ⟨JO,trivial⟩) Tryz.func54 λ a=>by kernel_rfl
def PM:=fe [] [(3,[.slot 7 .i64 (.imm false),.slot 8 .i64 (.imm false)])]
def ll:PF:=⟨[R (.sl 5 .u8),R .i64],[.i64,.i64,.bool],.uniq,aw⟩
theorem uy:Sd 161 ll:=sf (F:=PM) (ek trivial) Tryz.func161 λ a=>by kernel_rfl
def OK:=fe [(161,ll)] []
def cJ:PF:=⟨[(.ptr,KN)],[.i64],.uniq,Yc⟩
theorem mj:Sd 102 cJ:=sf (F:=OK) (ek ⟨uy,trivial⟩) Tryz.func102 λ a=>by kernel_rfl
def PN:=fe [(161,ll)] []
def CE:PF:=⟨[R (.sl 5 .u8),R .i64],[.str,.i64,.bool],.uniq,ne⟩
theorem acj:Sd 162 CE:=sf (F:=PN) (ek ⟨uy,trivial⟩) Tryz.func162 λ a=>by kernel_rfl
def OL:=fe [(162,CE)] []
def lh:PF:=⟨[(.ptr,KN)],[.str],.uniq,qh⟩
theorem uv:Sd 103 lh:=sf (F:=OL) (ek ⟨acj,trivial⟩) Tryz.func103 λ a=>by kernel_rfl
def ON:=fe [(102,cJ)] [(4,[.slot 3 (.sl 3 .i64) (.own true),.slot 5 .i64 (.imm false),.keep 0 KN [2,0,0]])]
def sn:PF:=⟨[(.ptr,KN)],[(.sl 3 .i64)],.uniq,er⟩
theorem Fq:Sd 105 sn:=sf (F:=ON) (ek ⟨mj,trivial⟩) Tryz.func105 λ a=>by kernel_rfl
def OM:=fe [(102,cJ),(103,lh),(105,sn)] []
def sh:PF:=⟨[(.ptr,KN)],[q4],.uniq,aU⟩
theorem Fp:Sd 104 sh:=sf (F:=OM) (ek ⟨mj,uv,Fq,trivial⟩) Tryz.func104 λ a=>by kernel_rfl
def TQ:=fe [(102,cJ),(103,lh),(104,sh),(105,sn),(101,NJ)] []
def lO:PF:=⟨[R (.pair .i64 .i64),R (.sl 5 .u8)],[q2,.bool],.uniq,aA⟩
theorem uV:Sd 55 lO:=sf (F:=TQ) (ek ⟨mj,uv,Fp,Fq,QW,trivial⟩) Tryz.func55 λ a=>by kernel_rfl
def Sk:=fe [(23,Y8),(53,lN),(54,Eu),(52,Yr),(55,lO),(51,Zd),(56,Lv),(57,Kf)] [(4,[.slot 3 .i64 (.imm false)]),(9,[.slot 4 .i64 (.imm false)]),(15,[.slot 7 .i64 (.imm false)])]
def Dt:PF:=⟨[R q3],[.bool],.uniq,aR⟩
theorem s25:Sd 25 Dt:=sf (F:=Sk) (ek ⟨JO,uU,s54,YR,uV,Zl,MG,KR,trivial⟩) Tryz.func25 λ a=>by kernel_rfl
def F7:=fe [(23,Y8),(24,Do),(25,Dt)] [(3,[.slot 7 .i64 (.imm false),.box 5 q3 (.own true)])]
def tJ:PF:=⟨[R (.pair .i64 .i64),R (.sl 3 .i64)],[q3,.bool],.uniq,aQ⟩
theorem s7:Sd 7 tJ:=sf (F:=F7) (ek ⟨JO,s24,s25,trivial⟩) Tryz.func7 λ a=>by kernel_rfl
def Pb:=fe [(36,lL),(15,Lt),(37,pf37),(7,tJ)] []
def Cw:PF:=⟨[(.ptr,q9)],[q3],.uniq,nZ⟩
theorem s13:Sd 13 Cw:=sf (F:=Pb) (ek ⟨uS,MD,mE,s7,trivial⟩) Tryz.func13 λ a=>by kernel_rfl
def Ul:=fe [] []
def NR:PF:=⟨[R q4],[q4],.uniq,Km⟩
theorem af:Sd 83 NR:=sf (F:=Ul) (ek trivial) Tryz.func83 λ a=>by kernel_rfl
def T6:=fe [(83,NR)] []
def c6:PF:=⟨[R q6],[q6],.uniq,qg⟩
theorem mG:Sd 68 c6:=sf (F:=T6) (ek ⟨af,trivial⟩) Tryz.func68 λ a=>by kernel_rfl
def Pc:=fe [] []
def QI:PF:=⟨[R q4],[q4],.uniq,KU⟩
theorem dz:Sd 130 QI:=sf (F:=Pc) (ek trivial) Tryz.func130 λ a=>by kernel_rfl
def T7:=fe [(130,QI)] [(3,[.slot 3 (.sl 61 q4) (.own true),.slot 4 .i64 (.imm false)])]
def tI:PF:=⟨[R (.sl 61 q4)],[(.sl 61 q4)],.uniq,KV⟩
theorem Gs:Sd 69 tI:=sf (F:=T7) (ek ⟨dz,trivial⟩) Tryz.func69 λ a=>by kernel_rfl
def T8:=fe [] []
def c7:PF:=⟨[R Zu],[Zu],.uniq,LP⟩
theorem mH:Sd 70 c7:=sf (F:=T8) (ek trivial) Tryz.func70 λ a=>by kernel_rfl
def Rm:=fe [(83,NR)] []
def CV:PF:=⟨[R (.pair .str q4)],[(.pair .str q4)],.uniq,om⟩
theorem acz:Sd 193 CV:=sf (F:=Rm) (ek ⟨af,trivial⟩) Tryz.func193 λ a=>by kernel_rfl
def Pd:=fe [(193,CV),(130,QI),(83,NR)] []
def sC:PF:=⟨[R q2],[q2],.uniq,eu⟩
theorem FA:Sd 131 sC:=sf (F:=Pd) (ek ⟨acz,dz,af,trivial⟩) Tryz.func131 λ a=>by kernel_rfl
def T9:=fe [(131,sC)] [(3,[.slot 3 JL (.own true),.slot 4 .i64 (.imm false)])]
def tK:PF:=⟨[R JL],[JL],.uniq,ev⟩
theorem Gt:Sd 71 tK:=sf (F:=T9) (ek ⟨FA,trivial⟩) Tryz.func71 λ a=>by kernel_rfl
def Tz:=fe [(68,c6),(69,tI),(70,c7),(71,tK)] []
def ZJ:PF:=⟨[R q1],[q1],.uniq,yW⟩
theorem Z9:Sd 38 ZJ:=sf (F:=Tz) (ek ⟨mG,Gs,mH,Gt,trivial⟩) Tryz.func38 λ a=>by kernel_rfl
def Pm:=fe [(38,ZJ)] [(3,[.slot 4 .i64 (.imm false),.box 10 q3 (.own true)]),(7,[.slot 5 .i64 (.imm false),.box 10 q3 (.own true)])]
def sG:PF:=⟨[R q3],[q3],.uniq,ey⟩
theorem FE:Sd 14 sG:=sf (F:=Pm) (ek ⟨Z9,trivial⟩) Tryz.func14 λ a=>by kernel_rfl
def PJ:=fe [] []
def CC:PF:=⟨[R (.sl 5 .u8),R .i64,R .i64],[.i64],.uniq,nV⟩
theorem s16:Sd 16 CC:=sf (F:=PJ) (ek trivial) Tryz.func16 λ a=>by kernel_rfl
def Ua:=fe [(23,Y8)] []
def Mv:PF:=⟨[R (.pair .i64 .i64),R .i64],[.i64],.uniq,j8⟩
theorem NZ:Sd 72 Mv:=sf (F:=Ua) (ek ⟨JO,trivial⟩) Tryz.func72 λ a=>by kernel_rfl
def Ub:=fe [(130,QI)] [(2,[.slot 7 .i64 (.imm false),.box 1 q4 (.own true)])]
def lP:PF:=⟨[R (.sl 61 q4),R .i64,R .str],[q4],.uniq,aM⟩
theorem uW:Sd 73 lP:=sf (F:=Ub) (ek ⟨dz,trivial⟩) Tryz.func73 λ a=>by kernel_rfl
def Ue:=fe [] [(3,[.slot 2 .i64 (.imm false),.box 2 q7 (.own true)])]
def tM:PF:=⟨[],[q7],.uniq,az⟩
theorem Gv:Sd 76 tM:=sf (F:=Ue) (ek trivial) Tryz.func76 λ a=>by kernel_rfl
def Uf:=fe [(106,cK)] [(4,[.slot 3 (.sl 63 q5) (.own true),.slot 6 .i64 (.imm false)])]
def tN:PF:=⟨[R .str],[(.sl 63 q5)],.uniq,aO⟩
theorem Gw:Sd 77 tN:=sf (F:=Uf) (ek ⟨ml,trivial⟩) Tryz.func77 λ a=>by kernel_rfl
def Pe:=fe [] []
def li:PF:=⟨[R q7],[q7],.uniq,qj⟩
theorem uw:Sd 132 li:=sf (F:=Pe) (ek trivial) Tryz.func132 λ a=>by kernel_rfl
def Rn:=fe [(51,Zd)] [(4,[.slot 3 .i64 (.imm false)])]
def CW:PF:=⟨[R q7],[.bool],.uniq,dR⟩
theorem acA:Sd 194 CW:=sf (F:=Rn) (ek ⟨Zl,trivial⟩) Tryz.func194 λ a=>by kernel_rfl
def Pf:=fe [(132,li),(194,CW),(156,NK)] []
def lj:PF:=⟨[R q7,R q5],[q7,.i64],.uniq,N6⟩
theorem ux:Sd 133 lj:=sf (F:=Pf) (ek ⟨uw,acA,QX,trivial⟩) Tryz.func133 λ a=>by kernel_rfl
def Ud:=fe [(132,li),(133,lj)] [(4,[.slot 7 (.sl 3 .i64) (.own true),.slot 8 .i64 (.imm false),.box 7 q7 (.own true)])]
def tL:PF:=⟨[R q7,R (.sl 63 q5)],[q7,(.sl 3 .i64)],.uniq,aD⟩
theorem Gu:Sd 75 tL:=sf (F:=Ud) (ek ⟨uw,ux,trivial⟩) Tryz.func75 λ a=>by kernel_rfl
def Uh:=fe [(132,li),(133,lj)] [(4,[.slot 5 (.sl 63 q5) (.own true),.slot 7 .i64 (.imm false),.box 7 q7 (.own true)])]
def ED:PF:=⟨[R (.sl 63 q5),R q7],[(.sl 63 q5)],.uniq,dY⟩
theorem s79:Sd 79 ED:=sf (F:=Uh) (ek ⟨uw,ux,trivial⟩) Tryz.func79 λ a=>by kernel_rfl
def Rp:=fe [(156,NK),(244,tl)] [(3,[.slot 3 .str (.imm false),.slot 4 .i64 (.imm false)])]
def CX:PF:=⟨[R (.sl 63 q5)],[.str],.uniq,nK⟩
theorem acB:Sd 196 CX:=sf (F:=Rp) (ek ⟨QX,Gd,trivial⟩) Tryz.func196 λ a=>by kernel_rfl
def Pg:=fe [(156,NK),(195,lr),(196,CX),(56,Lv)] [(2,[.slot 7 .i64 (.imm false)])]
def sD:PF:=⟨[R .str,R .i64,R (.sl 63 q5)],[.str],.uniq,aC⟩
theorem FB:Sd 134 sD:=sf (F:=Pg) (ek ⟨QX,uD,acB,MG,trivial⟩) Tryz.func134 λ a=>by kernel_rfl
def Ug:=fe [(134,sD),(83,NR),(135,cN),(57,Kf)] []
def tO:PF:=⟨[R (.pair .i64 .i64),R q4,R .i64,R (.sl 63 q5)],[(.pair .str q4),.bool],.uniq,yr⟩
theorem Gx:Sd 78 tO:=sf (F:=Ug) (ek ⟨FB,af,mq,KR,trivial⟩) Tryz.func78 λ a=>by kernel_rfl
def TC:=fe [(52,Yr),(72,Mv),(73,lP),(74,lQ),(76,tM),(77,tN),(75,tL),(79,ED),(78,tO)] []
def lM:PF:=⟨[R (.pair .i64 .i64),R q1],[(.pair .str q4),.bool],.uniq,LI⟩
theorem uT:Sd 41 lM:=sf (F:=TC) (ek ⟨YR,NZ,uW,uX,Gv,Gw,Gu,s79,Gx,trivial⟩) Tryz.func41 λ a=>by kernel_rfl
def TE:=fe [] [(2,[.slot 5 .i64 (.imm false)])]
def YK:PF:=⟨[R (.sl 3 .i64),R .i64],[.bool],.uniq,jW⟩
theorem Je:Sd 42 YK:=sf (F:=TE) (ek trivial) Tryz.func42 λ a=>by kernel_rfl
def TF:=fe [(15,Lt),(36,lL)] []
def tD:PF:=⟨[(.ptr,q9)],[q5],.uniq,yz⟩
theorem Gm:Sd 43 tD:=sf (F:=TF) (ek ⟨MD,uS,trivial⟩) Tryz.func43 λ a=>by kernel_rfl
def TG:=fe [] []
def NQ:PF:=⟨[R .i64,R .i64],[.i64],.uniq,yt⟩
theorem ae:Sd 45 NQ:=sf (F:=TG) (ek trivial) Tryz.func45 λ a=>by kernel_rfl
def Pj:=fe [(42,YK)] [(4,[.slot 5 .i64 (.imm false)])]
def sE:PF:=⟨[R (.sl 3 .i64),R .i64],[(.sl 3 .i64)],.uniq,LN⟩
theorem FC:Sd 137 sE:=sf (F:=Pj) (ek ⟨Je,trivial⟩) Tryz.func137 λ a=>by kernel_rfl
def Ui:=fe [(15,Lt),(134,sD),(45,NQ),(37,pf37),(136,cO),(137,sE)] [(11,[.slot 7 (.sl 3 .i64) (.own true),.slot 9 .i64 (.imm false)])]
def pf80:PF:=⟨[(.ptr,q9),R q3],[q2],.uniq,eB⟩
theorem s80:Sd 80 pf80:=sf (F:=Ui) (ek ⟨MD,FB,ae,mE,mr,FC,trivial⟩) Tryz.func80 λ a=>by kernel_rfl
def Uk:=fe [] []
def pf82:PF:=⟨[],[q4],.uniq,nt⟩
theorem s82:Sd 82 pf82:=sf (F:=Uk) (ek trivial) Tryz.func82 λ a=>by kernel_rfl
def Jn:=fe [(80,pf80),(81,pf81),(82,pf82),(37,pf37),(15,Lt),(83,NR),(45,NQ),(72,Mv),(43,tD),(78,tO)] [(17,[.slot 8 .i64 (.imm false),.slot 9 .i64 (.imm false)])]
def pf44:PF:=⟨[(.ptr,q9),R q3],[q2],.uniq,aY⟩
def kG:Code:=match Tryz.f44.body with|some b=>b|none=>.skip
def rq:Code:=MV kG
def rt:Code:=MV (Kn kG)
def ru:Code:=MV (Kn (Kn kG))
def ry:Code:=Kn (Kn (Kn kG))
def rv:Code:=MV (MV ry)
def ro:Code:=Kn (MV ry)
def Qz:Code:=Kn ry
def rm:Code:=xf ro
def aam:Code:=MV rm
def rx:Code:=MV (Kn rm)
def Bf:Code:=xf (Kn (Kn rm))
def rz (a:yc pf44.params) (r0:zW pf80.params pf80.rets) (r1:zW pf81.params pf81.rets):St:=rn (fe [(80,oP pf80 r0),(81,oP pf81 r1)] []) (.seq rq (.seq rt (.seq ru rv))) (en Tryz.f44 pf44.params a)
def Bg (a:yc pf44.params) (r0:zW pf80.params pf80.rets) (r1:zW pf81.params pf81.rets) (r2:zW pf82.params pf82.rets):St:=rgo (fe [(82,oP pf82 r2)] []) rx 0 5 (rn (fe [(82,oP pf82 r2)] []) aam (rz a r0 r1))
def Bh (a:yc pf44.params) (r0:zW pf80.params pf80.rets) (r1:zW pf81.params pf81.rets) (r2:zW pf82.params pf82.rets):St:=rgo (fe [] []) rx 5 8 ((Bg a r0 r1 r2).put (some 35) (.v (.one (.b false))))
def kH (a:yc pf44.params) (r0:zW pf80.params pf80.rets) (r1:zW pf81.params pf81.rets) (r2:zW pf82.params pf82.rets) (r3:zW pf37.params pf37.rets):St:=rgo (fe [(37,oP pf37 r3)] []) rx 5 8 ((Bg a r0 r1 r2).put (some 35) (.v (.one (.b true))))
theorem aaq (rest:Code) (a:yc pf44.params) {β:Type} (k:X->St->Option β):jT Jn (.seq rq (.seq rt (.seq ru (.seq (.seq rv ro) rest)))) (en Tryz.f44 pf44.params a) k=((eB (a.1,(a.2.1,()))).bind λ r0=>((JU (a.2.1.1,(r0.2.1.2.2.2.1,()))).bind λ r1=>(bif (!r1.1) then ((nt ()).bind λ r2=>(bif (decide ((((List.length a.2.1.2.2.1):Nat):Int)>0)) then ((MT ((a.1.1,r0.1.2),(2,()))).bind λ r3=>(bif r3.2.1 then (jT Jn (.seq Bf rest) (kH a r0 r1 r2 r3) k) else (jT Jn rest (kH a r0 r1 r2 r3) k))) else (jT Jn rest (Bh a r0 r1 r2) k))) else (jT Jn rest (rz a r0 r1) k)))):=by kernel_rfl
theorem aan (a:yc pf44.params) (r0:zW pf80.params pf80.rets) (r1:zW pf81.params pf81.rets) (r2:zW pf82.params pf82.rets) (r3:zW pf37.params pf37.rets):bE Jn Tryz.f44 pf44.params pf44.rets pf44.rk a (.seq Bf Qz) (kH a r0 r1 r2 r3)=((zN ((a.1.1,r3.1.2),((((List.length a.2.1.2.2.1):Nat):Int),()))).bind λ r4=>(if ((0<=r4.2.1)/\(r4.2.1<(((List.length a.2.1.2.2.1):Nat):Int))) then ((Km ((rd (.pair .i64 (.pair .i64 (.pair .i64 (.pair (.pair .i64 (.pair .i64 (.pair dm .str))) (.pair (.sl 0 q5) (.pair (.sl 0 dm) (.pair (.pair (.sl 0 .u8) .i64) (.sl 0 (.pair .i64 (.pair .i64 (.pair .i64 (.pair (.pair .str dm) (.pair dm (.pair dm (.pair .i64 q5))))))))))))))) a.2.1.2.2.1 (Int.toNat r4.2.1)).2.2.2.1.2.2.1,())).bind λ r5=>(vR (a,(r0,(r4,r5))))) else none)):=by kernel_rfl
theorem aal (a:yc pf44.params) (r0:zW pf80.params pf80.rets) (r1:zW pf81.params pf81.rets) (r2:zW pf82.params pf82.rets) (r3:zW pf37.params pf37.rets):bE Jn Tryz.f44 pf44.params pf44.rets pf44.rk a Qz (kH a r0 r1 r2 r3)=vQ (a,(r0,(r2,r3))):=by kernel_rfl
theorem aao (a:yc pf44.params) (r0:zW pf80.params pf80.rets) (r1:zW pf81.params pf81.rets) (r2:zW pf82.params pf82.rets):bE Jn Tryz.f44 pf44.params pf44.rets pf44.rk a Qz (Bh a r0 r1 r2)=vS (a,(r0,r2)):=by kernel_rfl
theorem aak (a:yc pf44.params) (r0:zW pf80.params pf80.rets) (r1:zW pf81.params pf81.rets):bE Jn Tryz.f44 pf44.params pf44.rets pf44.rk a Qz (rz a r0 r1)=vP (a,r0):=by kernel_rfl
theorem aap (a:yc pf44.params):fM Jn Tryz.f44 pf44.params pf44.rets pf44.rk a=bE Jn Tryz.f44 pf44.params pf44.rets pf44.rk a (.seq rq (.seq rt (.seq ru (.seq (.seq rv ro) Qz)))) (en Tryz.f44 pf44.params a):=by kernel_rfl
theorem s44:Sd 44 pf44:=sf (F:=Jn) (ek ⟨s80,MH,s82,mE,MD,af,ae,NZ,Gm,Gx,trivial⟩) Tryz.func44 λ a=>(aap a).trans ((aaq Qz a _).trans (bc λ r0=>bc λ r1=>cc (bc λ r2=>cc (bc λ r3=>cc (aan a r0 r1 r2 r3) (aal a r0 r1 r2 r3)) (aao a r0 r1 r2)) (aak a r0 r1)))
def PV:=fe [(40,Mu),(15,Lt),(41,lM),(42,YK),(37,pf37),(36,lL),(43,tD),(44,pf44),(45,NQ)] [(8,[.slot 7 .i64 (.imm false),.box 7 q8 (.own true)]),(19,[.slot 10 .i64 (.imm false),.box 7 q8 (.own true)])]
def CG:PF:=⟨[(.ptr,q9),R q3],[q8],.uniq,nY⟩
theorem s17:Sd 17 CG:=sf (F:=PV) (ek ⟨NY,MD,uT,Je,mE,uS,Gm,s44,ae,trivial⟩) Tryz.func17 λ a=>by kernel_rfl
def SZ:=fe [(83,NR)] []
def DY:PF:=⟨[R q4,R q4],[q4],.uniq,nu⟩
theorem adE:Sd 298 DY:=sf (F:=SZ) (ek ⟨af,trivial⟩) Tryz.func298 λ a=>by kernel_rfl
def S0:=fe [(106,cK),(136,cO)] []
def DZ:PF:=⟨[R .str],[.str,.bool],.uniq,nD⟩
theorem adF:Sd 299 DZ:=sf (F:=S0) (ek ⟨ml,mr,trivial⟩) Tryz.func299 λ a=>by kernel_rfl
def S2:=fe [(56,Lv)] []
def D0:PF:=⟨[R .str,R .str],[.bool],.uniq,m9⟩
theorem adG:Sd 300 D0:=sf (F:=S2) (ek ⟨MG,trivial⟩) Tryz.func300 λ a=>by kernel_rfl
def So:=fe [(68,c6),(97,NS),(81,pf81),(298,DY),(136,cO),(57,Kf),(40,Mu),(299,DZ),(300,D0)] []
def lE:PF:=⟨[R (.pair .i64 .i64),R q6,R q4],[q6],.uniq,aJ⟩
theorem uK:Sd 253 lE:=sf (F:=So) (ek ⟨mG,ag,MH,adE,mr,KR,NY,adF,adG,trivial⟩) Tryz.func253 λ a=>by kernel_rfl
def Sp:=fe [(97,NS),(135,cN),(57,Kf)] []
def tr:PF:=⟨[R (.pair .i64 .i64),R q6,R (.pair .str q4)],[.bool],.uniq,dU⟩
theorem Gg:Sd 254 tr:=sf (F:=Sp) (ek ⟨ag,mq,KR,trivial⟩) Tryz.func254 λ a=>by kernel_rfl
def Sq:=fe [(68,c6),(254,tr),(57,Kf)] []
def Dv:PF:=⟨[R (.pair .i64 .i64),R q6,R (.pair .str q4)],[q6,.bool],.uniq,eh⟩
theorem ada:Sd 255 Dv:=sf (F:=Sq) (ek ⟨mG,Gg,KR,trivial⟩) Tryz.func255 λ a=>by kernel_rfl
def S3:=fe [(269,lG)] []
def D3:PF:=⟨[R q6,R q6],[.bool],.uniq,nA⟩
theorem adH:Sd 301 D3:=sf (F:=S3) (ek ⟨uN,trivial⟩) Tryz.func301 λ a=>by kernel_rfl
def Sj:=fe [(51,Zd)] [(4,[.slot 0 .i64 (.imm false),.slot 3 (.sl 5 .u8) (.own true)])]
def NP:PF:=⟨[R .i64],[(.sl 5 .u8)],.uniq,Yb⟩
theorem ac:Sd 249 NP:=sf (F:=Sj) (ek ⟨Zl,trivial⟩) Tryz.func249 λ a=>by kernel_rfl
def Sl:=fe [(249,NP)] []
def lD:PF:=⟨[R .str],[(.sl 5 .u8)],.uniq,N8⟩
theorem uJ:Sd 250 lD:=sf (F:=Sl) (ek ⟨ac,trivial⟩) Tryz.func250 λ a=>by kernel_rfl
def Sm:=fe [(81,pf81),(249,NP),(250,lD)] [(6,[.slot 5 (.sl 5 .u8) (.own true),.slot 6 .i64 (.imm false)])]
def tq:PF:=⟨[R (.pair .i64 .i64),R q4],[(.sl 5 .u8)],.uniq,aE⟩
theorem Gf:Sd 251 tq:=sf (F:=Sm) (ek ⟨MH,ac,uJ,trivial⟩) Tryz.func251 λ a=>by kernel_rfl
def Tj:=fe [(97,NS),(249,NP),(251,tq),(250,lD)] []
def Ef:PF:=⟨[R (.pair .i64 .i64),R q6],[(.sl 5 .u8)],.uniq,ny⟩
theorem adT:Sd 325 Ef:=sf (F:=Tj) (ek ⟨ag,ac,Gf,uJ,trivial⟩) Tryz.func325 λ a=>by kernel_rfl
def S5:=fe [(325,Ef),(249,NP)] []
def D5:PF:=⟨[R (.pair .i64 .i64),R q6],[(.sl 5 .u8)],.uniq,nn⟩
theorem adJ:Sd 303 D5:=sf (F:=S5) (ek ⟨adT,ac,trivial⟩) Tryz.func303 λ a=>by kernel_rfl
def S4:=fe [(70,c7),(100,cI)] []
def D4:PF:=⟨[R Zu,R (.sl 5 .u8)],[Zu,.bool],.uniq,mX⟩
theorem adI:Sd 302 D4:=sf (F:=S4) (ek ⟨mH,mi,trivial⟩) Tryz.func302 λ a=>by kernel_rfl
def wz:=fe [(301,D3),(303,D5),(302,D4),(97,NS),(68,c6)] []
def pf256:PF:=⟨[R (.pair .i64 .i64),(.own,q1),R q6],[q1,.bool],.own,Jj⟩
theorem Wd (a:yc pf256.params):fN wz Tryz.f256 pf256.params pf256.rets pf256.rk a=pf256.fn a:=by kernel_rfl
theorem uL:K4 Tryz.prog GLB 256 pf256:=If (F:=wz) (ek ⟨adH,adJ,adI,ag,mG,trivial⟩) Tryz.func256 (by kernel_rfl) (by rfl) (λ a o h=>(Wd a).trans h)
def Ta:=fe [(137,sE)] [(3,[.slot 5 (.sl 3 .i64) (.own true),.slot 6 .i64 (.imm false)]),(7,[.slot 5 (.sl 3 .i64) (.own true),.slot 7 .i64 (.imm false)])]
def D9:PF:=⟨[R (.sl 3 .i64),R (.sl 3 .i64)],[(.sl 3 .i64)],.uniq,nC⟩
theorem adN:Sd 308 D9:=sf (F:=Ta) (ek ⟨FC,trivial⟩) Tryz.func308 λ a=>by kernel_rfl
def Sz:=fe [(308,D9)] []
def DB:PF:=⟨[R q4,R q4],[q4,.bool],.uniq,np⟩
theorem adh:Sd 263 DB:=sf (F:=Sz) (ek ⟨adN,trivial⟩) Tryz.func263 λ a=>by kernel_rfl
def RD:=fe [(130,QI),(159,sP),(263,DB),(99,tU),(158,cT),(69,tI)] [(4,[.slot 8 (.sl 61 q4) (.own true),.slot 9 .bool (.imm false),.slot 10 .i64 (.imm false)])]
def cW:PF:=⟨[R (.pair .i64 .i64),R (.sl 61 q4),R q4],[(.sl 61 q4),.bool],.uniq,qb⟩
theorem mB:Sd 209 cW:=sf (F:=RD) (ek ⟨dz,FO,adh,GD,my,Gs,trivial⟩) Tryz.func209 λ a=>by kernel_rfl
def Tk:=fe [(81,pf81)] []
def Eg:PF:=⟨[R (.pair .i64 .i64),R q4],[q4,.bool],.uniq,nq⟩
theorem adU:Sd 326 Eg:=sf (F:=Tk) (ek ⟨MH,trivial⟩) Tryz.func326 λ a=>by kernel_rfl
def RF:=fe [(101,NJ),(51,Zd),(131,sC)] []
def cX:PF:=⟨[R (.pair .i64 .i64),(.own,q1),R .i64,R q2],[q1,.bool],.own,LQ⟩
theorem mC:Sd 210 cX:=sf (F:=RF) (ek ⟨QW,Zl,FA,trivial⟩) Tryz.func210 λ a=>by kernel_rfl
def S6:jv:=⟨⟨TYS,[(326,Eg),(253,lE),(40,Mu),(72,Mv),(210,cX)],EQS,[],[],false,[(256,pf256)],[],[],false,[]⟩,[]⟩
def D6:PF:=⟨[R (.pair .i64 .i64),(.own,q1),R q4],[q1,.bool],.own,nS⟩
theorem adK:Sd 304 D6:=sf (F:=S6) (K8 ⟨adU,uK,NY,NZ,mC,trivial⟩ trivial trivial uL trivial trivial) Tryz.func304 λ a=>by kernel_rfl
def Tl:=fe [(23,Y8),(51,Zd)] []
def lI:PF:=⟨[R (.pair .i64 .i64),R .i64,R .i64],[.i64],.uniq,aI⟩
theorem uP:Sd 327 lI:=sf (F:=Tl) (ek ⟨JO,Zl,trivial⟩) Tryz.func327 λ a=>by kernel_rfl
def Tp:=fe [(23,Y8),(51,Zd)] []
def Ej:PF:=⟨[R (.pair .i64 .i64),R .i64,R .i64],[.i64],.uniq,nE⟩
theorem adX:Sd 330 Ej:=sf (F:=Tp) (ek ⟨JO,Zl,trivial⟩) Tryz.func330 λ a=>by kernel_rfl
def S9:=fe [(327,lI),(330,Ej)] []
def tw:PF:=⟨[R (.pair .i64 .i64),R .i64,R .i64],[.i64],.uniq,aP⟩
theorem Gj:Sd 307 tw:=sf (F:=S9) (ek ⟨uP,adX,trivial⟩) Tryz.func307 λ a=>by kernel_rfl
def Tm:=fe [(327,lI),(307,tw)] [(2,[.slot 2 .i64 (.imm false),.slot 7 (.sl 3 .i64) (.own true)])]
def Eh:PF:=⟨[R (.pair .i64 .i64),R .i64,R .i64],[(.sl 3 .i64)],.uniq,nM⟩
theorem adV:Sd 328 Eh:=sf (F:=Tm) (ek ⟨uP,Gj,trivial⟩) Tryz.func328 λ a=>by kernel_rfl
def S7:=fe [(23,Y8),(327,lI),(328,Eh),(42,YK)] [(5,[.slot 7 (.sl 3 .i64) (.own true),.slot 8 .i64 (.imm false)])]
def D7:PF:=⟨[R (.pair .i64 .i64),R .i64,R .i64],[(.sl 3 .i64)],.uniq,nL⟩
theorem adL:Sd 305 D7:=sf (F:=S7) (ek ⟨JO,uP,adV,Je,trivial⟩) Tryz.func305 λ a=>by kernel_rfl
def Tn:=fe [] []
def Ei:PF:=⟨[R .bool],[.i64],.uniq,vO⟩
theorem adW:Sd 329 Ei:=sf (F:=Tn) (ek trivial) Tryz.func329 λ a=>by kernel_rfl
def S8:=fe [(42,YK),(329,Ei)] [(3,[.slot 5 .i64 (.imm false),.slot 6 .i64 (.imm false)])]
def D8:PF:=⟨[R (.sl 3 .i64),R (.sl 3 .i64)],[.i64],.uniq,m0⟩
theorem adM:Sd 306 D8:=sf (F:=S8) (ek ⟨Je,adW,trivial⟩) Tryz.func306 λ a=>by kernel_rfl
def Sw:=fe [(73,lP),(72,Mv),(304,D6),(305,D7),(306,D8),(307,tw),(210,cX)] []
def lF:PF:=⟨[R (.pair .i64 .i64),(.own,q1),R .i64,R .str,R .bool],[q1,.bool],.own,aW⟩
theorem uM:Sd 260 lF:=sf (F:=Sw) (ek ⟨uW,NZ,adK,adL,adM,Gj,mC,trivial⟩) Tryz.func260 λ a=>by kernel_rfl
def Sr:=fe [(57,Kf),(209,cW),(38,ZJ),(260,lF)] []
def Dw:PF:=⟨[R (.pair .i64 .i64),R q1,R .str],[q1,.bool],.shared,qi⟩
theorem adb:Sd 257 Dw:=sf (F:=Sr) (ek ⟨KR,mB,Z9,uM,trivial⟩) Tryz.func257 λ a=>by kernel_rfl
def Ry:jv:=⟨⟨TYS,[(38,ZJ),(52,Yr),(135,cN),(253,lE),(57,Kf),(254,tr),(255,Dv),(257,Dw)],EQS,[],[],false,[(256,pf256)],[],[],false,[]⟩,[]⟩
def lw:PF:=⟨[R (.pair .i64 .i64),R q1,R (.pair .str q4)],[q1,.bool],.shared,ax⟩
theorem uE:Sd 204 lw:=sf (F:=Ry) (K8 ⟨Z9,YR,mq,uK,KR,Gg,ada,adb,trivial⟩ trivial trivial uL trivial trivial) Tryz.func204 λ a=>by kernel_rfl
def Se:=fe [(38,ZJ),(52,Yr),(158,cT),(209,cW),(260,lF)] []
def Dq:PF:=⟨[R (.pair .i64 .i64),R q1,R q4],[q1,.bool],.own,ng⟩
theorem ad5:Sd 245 Dq:=sf (F:=Se) (ek ⟨Z9,YR,my,mB,uM,trivial⟩) Tryz.func245 λ a=>by kernel_rfl
def Sf:jv:=⟨⟨TYS,[(38,ZJ),(52,Yr),(51,Zd),(81,pf81),(253,lE),(72,Mv),(209,cW),(73,lP),(74,lQ),(40,Mu),(45,NQ)],EQS,[],[],false,[(256,pf256)],[],[],false,[]⟩,[]⟩
def Dr:PF:=⟨[R (.pair .i64 .i64),R q1,R .i64,R q4,R .i64],[q1,.bool],.own,ni⟩
theorem ad6:Sd 246 Dr:=sf (F:=Sf) (K8 ⟨Z9,YR,Zl,MH,uK,NZ,mB,uW,uX,NY,ae,trivial⟩ trivial trivial uL trivial trivial) Tryz.func246 λ a=>by kernel_rfl
def SY:=fe [(157,sO),(98,tT)] [(2,[.slot 6 .i64 (.imm false)])]
def DX:PF:=⟨[R (.sl 63 q5),R q5],[(.sl 63 q5),.bool],.uniq,nr⟩
theorem adD:Sd 297 DX:=sf (F:=SY) (ek ⟨FN,GC,trivial⟩) Tryz.func297 λ a=>by kernel_rfl
def Sh:=fe [(38,ZJ),(52,Yr),(297,DX)] []
def Ds:PF:=⟨[R (.pair .i64 .i64),R q1,R q5],[q1,.bool],.uniq,nh⟩
theorem ad7:Sd 247 Ds:=sf (F:=Sh) (ek ⟨Z9,YR,adD,trivial⟩) Tryz.func247 λ a=>by kernel_rfl
def Rq:=fe [(204,lw),(245,Dq),(246,Dr),(247,Ds)] []
def CY:PF:=⟨[R (.pair .i64 .i64),R q1,R q2],[q1,.bool],.shared,nT⟩
theorem acC:Sd 197 CY:=sf (F:=Rq) (ek ⟨uE,ad5,ad6,ad7,trivial⟩) Tryz.func197 λ a=>by kernel_rfl
def Rr:=fe [(130,QI)] [(3,[.slot 5 (.sl 61 q4) (.own true),.slot 6 .i64 (.imm false)])]
def CZ:PF:=⟨[R (.sl 61 q4),R .i64],[(.sl 61 q4)],.uniq,nI⟩
theorem acD:Sd 198 CZ:=sf (F:=Rr) (ek ⟨dz,trivial⟩) Tryz.func198 λ a=>by kernel_rfl
def Ru:=fe [(52,Yr),(76,tM),(77,tN),(75,tL)] []
def C1:PF:=⟨[R (.pair .i64 .i64),R q1],[q7],.uniq,d7⟩
theorem acF:Sd 200 C1:=sf (F:=Ru) (ek ⟨YR,Gv,Gw,Gu,trivial⟩) Tryz.func200 λ a=>by kernel_rfl
def Rs:=fe [(133,lj)] [(3,[.slot 5 (.sl 63 q5) (.own true),.slot 6 .i64 (.imm false)])]
def C0:PF:=⟨[R (.sl 63 q5),R q7],[(.sl 63 q5)],.uniq,dX⟩
theorem acE:Sd 199 C0:=sf (F:=Rs) (ek ⟨ux,trivial⟩) Tryz.func199 λ a=>by kernel_rfl
def Pk:=fe [(52,Yr),(101,NJ),(38,ZJ),(197,CY),(198,CZ),(200,C1),(199,C0)] []
def cP:PF:=⟨[R (.pair .i64 .i64),R q1,R q2],[q1,.bool],.shared,LJ⟩
theorem mt:Sd 138 cP:=sf (F:=Pk) (ek ⟨YR,QW,Z9,acC,acD,acF,acE,trivial⟩) Tryz.func138 λ a=>by kernel_rfl
def Um:jv:=⟨⟨TYS,[(51,Zd),(42,YK),(55,lO),(138,cP)],EQS,[],[],true,[],[],[],false,[]⟩,[]⟩
def EG:PF:=⟨[(.own,q3),R q8],[q3,.i64],.own,aZ⟩
theorem s84:Sd 84 EG:=sf (F:=Um) (ek ⟨Zl,Je,uV,mt,trivial⟩) Tryz.func84 λ a=>by kernel_rfl
def OD:=fe [(51,Zd),(42,YK),(55,lO),(138,cP)] []
def Cb:PF:=⟨[R q3,R q8],[q3,.i64],.shared,ba⟩
theorem abQ:Sd 84 Cb:=sf (F:=OD) (ek ⟨Zl,Je,uV,mt,trivial⟩) Tryz.func84 λ a=>by kernel_rfl
def Si:=fe [] [(2,[.slot 9 .i64 (.imm false)])]
def tn:PF:=⟨[R LB,R .i64,R .str,R .i64],[.bool],.uniq,ex⟩
theorem Ge:Sd 248 tn:=sf (F:=Si) (ek trivial) Tryz.func248 λ a=>by kernel_rfl
def Rv:=fe [(42,YK),(248,tn)] [(2,[.slot 11 .i64 (.imm false)])]
def C2:PF:=⟨[R (.sl 3 .i64),R LB,R .i64,R .str,R (.sl 3 .i64)],[.bool],.uniq,aL⟩
theorem acG:Sd 201 C2:=sf (F:=Rv) (ek ⟨Je,Ge,trivial⟩) Tryz.func201 λ a=>by kernel_rfl
def Pl:=fe [(101,NJ),(57,Kf),(72,Mv),(42,YK),(201,C2)] []
def sF:PF:=⟨[R (.pair .i64 .i64),R (.sl 3 .i64),R LB,R q2],[.bool],.uniq,dS⟩
theorem FD:Sd 139 sF:=sf (F:=Pl) (ek ⟨QW,KR,NZ,Je,acG,trivial⟩) Tryz.func139 λ a=>by kernel_rfl
def Sn:=fe [(249,NP)] [(3,[.slot 3 (.sl 5 .u8) (.own true),.slot 4 .i64 (.imm false)])]
def Du:PF:=⟨[R (.sl 3 .i64)],[(.sl 5 .u8)],.uniq,aV⟩
theorem ad9:Sd 252 Du:=sf (F:=Sn) (ek ⟨ac,trivial⟩) Tryz.func252 λ a=>by kernel_rfl
def Rw:=fe [(101,NJ),(249,NP),(250,lD),(251,tq),(252,Du)] []
def C3:PF:=⟨[R (.pair .i64 .i64),R q2],[(.sl 5 .u8)],.uniq,nl⟩
theorem acH:Sd 202 C3:=sf (F:=Rw) (ek ⟨QW,ac,uJ,Gf,ad9,trivial⟩) Tryz.func202 λ a=>by kernel_rfl
def Pn:=fe [(202,C3),(51,Zd)] [(2,[.slot 5 .i64 (.imm false),.box 5 q3 (.own false)])]
def cQ:PF:=⟨[(.own,q3),R JL],[q3],.own,ez⟩
theorem mu:Sd 140 cQ:=sf (F:=Pn) (ek ⟨acH,Zl,trivial⟩) Tryz.func140 λ a=>by kernel_rfl
def Un:=fe [(51,Zd),(139,sF),(140,cQ)] []
def EH:PF:=⟨[(.own,q3),R q8],[q3,.i64],.own,n6⟩
theorem s85:Sd 85 EH:=sf (F:=Un) (ek ⟨Zl,FD,mu,trivial⟩) Tryz.func85 λ a=>by kernel_rfl
def OE:=fe [(51,Zd),(139,sF),(140,cQ)] []
def Cc:PF:=⟨[R q3,R q8],[q3,.i64],.shared,n7⟩
theorem abR:Sd 85 Cc:=sf (F:=OE) (ek ⟨Zl,FD,mu,trivial⟩) Tryz.func85 λ a=>by kernel_rfl
def Uo:=fe [(42,YK)] [(3,[.slot 3 (.sl 3 .i64) (.own true),.slot 4 .i64 (.imm false)])]
def lR:PF:=⟨[R q3],[(.sl 3 .i64)],.uniq,ay⟩
theorem uY:Sd 86 lR:=sf (F:=Uo) (ek ⟨Je,trivial⟩) Tryz.func86 λ a=>by kernel_rfl
def Rx:=fe [(38,ZJ),(52,Yr),(210,cX)] [(5,[.slot 9 .i64 (.imm false),.box 11 q1 (.own true),.box 17 q1 (.own false)])]
def sY:PF:=⟨[R (.pair .i64 .i64),R q1,R q2],[q1,.bool],.own,d9⟩
theorem FV:Sd 203 sY:=sf (F:=Rx) (ek ⟨Z9,YR,mC,trivial⟩) Tryz.func203 λ a=>by kernel_rfl
def Po:=fe [(41,lM),(38,ZJ),(203,sY),(204,lw)] []
def Cx:PF:=⟨[(.own,q3),R .i64],[q3,.i64],.own,nW⟩
theorem acb:Sd 141 Cx:=sf (F:=Po) (ek ⟨uT,Z9,FV,uE,trivial⟩) Tryz.func141 λ a=>by kernel_rfl
def OG:=fe [(41,lM),(38,ZJ),(203,sY),(204,lw)] []
def Ce:PF:=⟨[R q3,R .i64],[q3,.i64],.shared,nX⟩
theorem abT:Sd 141 Ce:=sf (F:=OG) (ek ⟨uT,Z9,FV,uE,trivial⟩) Tryz.func141 λ a=>by kernel_rfl
def Ss:=fe [(70,c7),(100,cI)] []
def Dx:PF:=⟨[R Zu],[Zu],.uniq,nG⟩
theorem adc:Sd 258 Dx:=sf (F:=Ss) (ek ⟨mH,mi,trivial⟩) Tryz.func258 λ a=>by kernel_rfl
def Rz:=fe [(38,ZJ),(52,Yr),(258,Dx),(71,tK)] []
def sZ:PF:=⟨[R (.pair .i64 .i64),R q1],[q1,JL],.uniq,d8⟩
theorem FW:Sd 205 sZ:=sf (F:=Rz) (ek ⟨Z9,YR,adc,Gt,trivial⟩) Tryz.func205 λ a=>by kernel_rfl
def Su:=fe [(42,YK)] []
def Dy:PF:=⟨[R .i64,R q2],[LB],.uniq,nB⟩
theorem ade:Sd 259 Dy:=sf (F:=Su) (ek ⟨Je,trivial⟩) Tryz.func259 λ a=>by kernel_rfl
def RA:=fe [(14,sG),(86,lR),(42,YK),(259,Dy),(248,tn)] [(5,[.slot 8 .i64 (.imm false),.box 11 q3 (.own true)]),(9,[.slot 10 .i64 (.imm false),.box 11 q3 (.own true)])]
def ta:PF:=⟨[R q3,R .i64,R JL],[q3],.uniq,nk⟩
theorem FX:Sd 206 ta:=sf (F:=RA) (ek ⟨FE,uY,Je,ade,Ge,trivial⟩) Tryz.func206 λ a=>by kernel_rfl
def Pp:=fe [(205,sZ),(206,ta),(140,cQ)] []
def Cy:PF:=⟨[(.own,q3),R .i64],[q3,.i64],.own,og⟩
theorem acd:Sd 142 Cy:=sf (F:=Pp) (ek ⟨FW,FX,mu,trivial⟩) Tryz.func142 λ a=>by kernel_rfl
def OH:=fe [(205,sZ),(206,ta),(140,cQ)] []
def Cf:PF:=⟨[R q3,R .i64],[q3,.i64],.shared,oh⟩
theorem abU:Sd 142 Cf:=sf (F:=OH) (ek ⟨FW,FX,mu,trivial⟩) Tryz.func142 λ a=>by kernel_rfl
def RB:=fe [(52,Yr),(38,ZJ),(260,lF)] []
def tb:PF:=⟨[R (.pair .i64 .i64),R q1,R .i64,R .str,R .bool],[q1,.bool],.own,dP⟩
theorem FY:Sd 207 tb:=sf (F:=RB) (ek ⟨YR,Z9,uM,trivial⟩) Tryz.func207 λ a=>by kernel_rfl
def Pq:=fe [(207,tb)] [(3,[.slot 7 .i64 (.imm false),.box 4 q3 (.own false),.box 5 q3 (.own true)])]
def Cz:PF:=⟨[(.own,q3),R .i64],[q3,.i64],.own,od⟩
theorem ace:Sd 143 Cz:=sf (F:=Pq) (ek ⟨FY,trivial⟩) Tryz.func143 λ a=>by kernel_rfl
def OI:=fe [(207,tb)] [(3,[.slot 7 .i64 (.imm false),.box 4 q3 (.imm false),.box 5 q3 (.own true)])]
def Cg:PF:=⟨[R q3,R .i64],[q3,.i64],.shared,oe⟩
theorem abV:Sd 143 Cg:=sf (F:=OI) (ek ⟨FY,trivial⟩) Tryz.func143 λ a=>by kernel_rfl
def Pr:=fe [(70,c7),(100,cI),(45,NQ),(40,Mu)] []
def sH:PF:=⟨[R Zu,R .i64],[Zu],.uniq,dQ⟩
theorem FF:Sd 144 sH:=sf (F:=Pr) (ek ⟨mH,mi,ae,NY,trivial⟩) Tryz.func144 λ a=>by kernel_rfl
def Sx:=fe [] []
def Dz:PF:=⟨[],[q6],.uniq,vE⟩
theorem adf:Sd 261 Dz:=sf (F:=Sx) (ek trivial) Tryz.func261 λ a=>by kernel_rfl
def Sy:=fe [(102,cJ),(104,sh),(103,lh),(97,NS)] []
def DA:PF:=⟨[R (.pair .i64 .i64),R (.sl 5 .u8)],[q6,.bool],.uniq,nz⟩
theorem adg:Sd 262 DA:=sf (F:=Sy) (ek ⟨mj,Fp,uv,ag,trivial⟩) Tryz.func262 λ a=>by kernel_rfl
def RC:=fe [(261,Dz),(161,ll),(262,DA)] [(3,[.slot 7 .i64 (.imm false),.box 2 q6 (.own true),.box 4 q6 (.own true)])]
def C4:PF:=⟨[R (.pair .i64 .i64),R (.sl 5 .u8)],[q6,.i64],.uniq,nj⟩
theorem acI:Sd 208 C4:=sf (F:=RC) (ek ⟨adf,uy,adg,trivial⟩) Tryz.func208 λ a=>by kernel_rfl
def Ps:=fe [(52,Yr),(38,ZJ),(208,C4),(40,Mu),(45,NQ)] []
def sI:PF:=⟨[R (.pair .i64 .i64),R q1],[q1],.uniq,dZ⟩
theorem FH:Sd 145 sI:=sf (F:=Ps) (ek ⟨YR,Z9,acI,NY,ae,trivial⟩) Tryz.func145 λ a=>by kernel_rfl
def Pt:=fe [(38,ZJ),(52,Yr),(72,Mv),(209,cW),(210,cX)] []
def sJ:PF:=⟨[R (.pair .i64 .i64),R q1],[q1,.bool],.own,N5⟩
theorem FI:Sd 146 sJ:=sf (F:=Pt) (ek ⟨Z9,YR,NZ,mB,mC,trivial⟩) Tryz.func146 λ a=>by kernel_rfl
def Up:=fe [(141,Cx),(142,Cy),(143,Cz),(38,ZJ),(144,sH),(145,sI),(146,sJ),(138,cP)] []
def EI:PF:=⟨[(.own,q3),R q8],[q3,.i64],.own,n9⟩
theorem s87:Sd 87 EI:=sf (F:=Up) (ek ⟨acb,acd,ace,Z9,FF,FH,FI,mt,trivial⟩) Tryz.func87 λ a=>by kernel_rfl
def OF:=fe [(141,Ce),(142,Cf),(143,Cg),(38,ZJ),(144,sH),(145,sI),(146,sJ),(138,cP)] []
def Cd:PF:=⟨[R q3,R q8],[q3,.i64],.shared,oa⟩
theorem abS:Sd 87 Cd:=sf (F:=OF) (ek ⟨abT,abU,abV,Z9,FF,FH,FI,mt,trivial⟩) Tryz.func87 λ a=>by kernel_rfl
def TH:=fe [(84,EG),(85,EH),(86,lR),(42,YK),(87,EI)] []
def Es:PF:=⟨[(.own,q3),R q8],[q3,.i64],.own,n8⟩
theorem s46:Sd 46 Es:=sf (F:=TH) (ek ⟨s84,s85,uY,Je,s87,trivial⟩) Tryz.func46 λ a=>by kernel_rfl
def OC:=fe [(84,Cb),(85,Cc),(86,lR),(42,YK),(87,Cd)] []
def Ca:PF:=⟨[R q3,R q8],[q3,.i64],.shared,eC⟩
theorem abP:Sd 46 Ca:=sf (F:=OC) (ek ⟨abQ,abR,uY,Je,abS,trivial⟩) Tryz.func46 λ a=>by kernel_rfl
def P8:jv:=⟨⟨TYS,[(46,Es)],EQS,[],[],false,[],[],[(46,Ca)],false,[]⟩,[]⟩
def CP:PF:=⟨[(.own,q3),R q8],[q3],.own,oc⟩
theorem s18:Sd 18 CP:=sf (F:=P8) (K8 ⟨s46,trivial⟩ trivial trivial trivial trivial ⟨abP,trivial⟩) Tryz.func18 λ a=>by kernel_rfl
def F5:jv:=⟨⟨TYS,[(13,Cw),(14,sG),(16,CC),(15,Lt),(17,CG),(18,CP)],EQS,[(12,Cn)],[],false,[],[],[],true,[]⟩,[(7,[.slot 7 (.sl 67 q8) (.own false),.slot 9 .i64 (.imm false),.keep 2 q9 [4,0,0],.box 13 q3 (.own false)])]⟩
def Et:PF:=⟨[R (.sl 5 .u8)],[q3,(.sl 67 q8)],.own,m8⟩
theorem s5:Sd 5 Et:=sf (F:=F5) (K8 ⟨s13,FE,s16,MD,s17,s18,trivial⟩ ⟨s12,trivial⟩ trivial trivial trivial trivial) Tryz.func5 λ a=>by kernel_rfl
def Rj:=fe [] []
def NO:PF:=⟨[R (.sl 3 .i64)],[(.sl 3 .i64)],.uniq,JD⟩
theorem aa:Sd 19 NO:=sf (F:=Rj) (ek trivial) Tryz.func19 λ a=>by kernel_rfl
def TI:=fe [] []
def Zj:PF:=⟨[R .i64,R .i64,R .i64],[.bool],.uniq,yx⟩
theorem Zv:Sd 47 Zj:=sf (F:=TI) (ek trivial) Tryz.func47 λ a=>by kernel_rfl
def Rt:=fe [(47,Zj)] []
def JI:PF:=⟨[R (.pair .i64 .i64)],[.bool],.uniq,YI⟩
theorem Kj:Sd 20 JI:=sf (F:=Rt) (ek ⟨Zv,trivial⟩) Tryz.func20 λ a=>by kernel_rfl
def S1:=fe [] []
def tv:PF:=⟨[],[q4],.uniq,Qh⟩
theorem Gi:Sd 30 tv:=sf (F:=S1) (ek trivial) Tryz.func30 λ a=>by kernel_rfl
def T3:=fe [] [(4,[.slot 13 .i64 (.imm false)])]
def tH:PF:=⟨[R (.sl 3 .i64),R (.sl 3 .i64)],[.bool],.uniq,dM⟩
theorem Gr:Sd 65 tH:=sf (F:=T3) (ek trivial) Tryz.func65 λ a=>by kernel_rfl
def SX:=fe [(65,tH)] []
def QL:PF:=⟨[R q4,R q4],[.bool],.uniq,Ld⟩
theorem dC:Sd 29 QL:=sf (F:=SX) (ek ⟨Gr,trivial⟩) Tryz.func29 λ a=>by kernel_rfl
def O8:=fe [(189,CT)] []
def sy:PF:=⟨[R .str,R .u8],[(.sl 9 .str)],.uniq,cd⟩
theorem Fx:Sd 126 sy:=sf (F:=O8) (ek ⟨acx,trivial⟩) Tryz.func126 λ a=>by kernel_rfl
def Rk:=fe [(242,Dp)] []
def lq:PF:=⟨[R .i64],[.str],.uniq,KD⟩
theorem uC:Sd 191 lq:=sf (F:=Rk) (ek ⟨ad4,trivial⟩) Tryz.func191 λ a=>by kernel_rfl
def O9:=fe [(191,lq)] [(5,[.slot 4 .i64 (.imm false),.slot 5 .i64 (.imm false)])]
def sB:PF:=⟨[R .str],[.i64,.bool],.uniq,bV⟩
theorem Fz:Sd 128 sB:=sf (F:=O9) (ek ⟨uC,trivial⟩) Tryz.func128 λ a=>by kernel_rfl
def Pu:=fe [(47,Zj)] []
def Mt:PF:=⟨[R q5],[.bool],.uniq,J8⟩
theorem NX:Sd 147 Mt:=sf (F:=Pu) (ek ⟨Zv,trivial⟩) Tryz.func147 λ a=>by kernel_rfl
def Sb:=fe [(147,Mt),(191,lq)] []
def tk:PF:=⟨[R q5],[.str],.uniq,Qn⟩
theorem Gc:Sd 243 tk:=sf (F:=Sb) (ek ⟨NX,uC,trivial⟩) Tryz.func243 λ a=>by kernel_rfl
def Rl:=fe [(127,sA),(128,sB),(147,Mt),(243,tk)] [(6,[.slot 40 .i64 (.imm false),.row 1 3 .i64 (.own true)])]
def CU:PF:=⟨[R .str],[q5,.bool],.uniq,cg⟩
theorem acy:Sd 192 CU:=sf (F:=Rl) (ek ⟨Fy,Fz,NX,Gc,trivial⟩) Tryz.func192 λ a=>by kernel_rfl
def Pa:=fe [(126,sy),(192,CU)] [(5,[.slot 4 (.sl 63 q5) (.own true),.slot 14 .i64 (.imm false)])]
def Cv:PF:=⟨[R .str],[(.sl 63 q5),.bool],.uniq,gV⟩
theorem ac9:Sd 129 Cv:=sf (F:=Pa) (ek ⟨Fx,acy,trivial⟩) Tryz.func129 λ a=>by kernel_rfl
def T4:=fe [(126,sy),(127,sA),(128,sB),(129,Cv),(47,Zj)] [(9,[.slot 5 lW (.own true),.slot 6 .i64 (.imm false),.slot 33 .i64 (.imm false)])]
def cZ:PF:=⟨[R .str],[lW,.bool],.uniq,Ns⟩
theorem mF:Sd 66 cZ:=sf (F:=T4) (ek ⟨Fx,Fy,Fz,ac9,Zv,trivial⟩) Tryz.func66 λ a=>by kernel_rfl
def Tb:=fe [(66,cZ)] []
def Lu:PF:=⟨[R .str],[.bool],.uniq,JA⟩
theorem ME:Sd 31 Lu:=sf (F:=Tb) (ek ⟨mF,trivial⟩) Tryz.func31 λ a=>by kernel_rfl
def Ti:=fe [(66,cZ)] []
def KK:PF:=⟨[R .str],[.i64],.uniq,JC⟩
theorem LF:Sd 32 KK:=sf (F:=Ti) (ek ⟨mF,trivial⟩) Tryz.func32 λ a=>by kernel_rfl
def To:=fe [] [(2,[.slot 9 .i64 (.imm false)])]
def lJ:PF:=⟨[R .i64,R (.sl 3 .i64)],[.bool],.uniq,Nq⟩
theorem uQ:Sd 33 lJ:=sf (F:=To) (ek trivial) Tryz.func33 λ a=>by kernel_rfl
def TK:=fe [(20,JI)] []
def tE:PF:=⟨[R (.pair .i64 .i64)],[.i64],.uniq,Qc⟩
theorem Gn:Sd 49 tE:=sf (F:=TK) (ek ⟨Kj,trivial⟩) Tryz.func49 λ a=>by kernel_rfl
def Tu:=fe [(20,JI),(49,tE)] []
def tC:PF:=⟨[R (.pair .i64 .i64)],[.i64],.uniq,bZ⟩
theorem Gl:Sd 34 tC:=sf (F:=Tu) (ek ⟨Kj,Gn,trivial⟩) Tryz.func34 λ a=>by kernel_rfl
def OA:=fe [(20,JI),(30,tv),(29,QL),(31,Lu),(32,KK),(33,lJ),(34,tC)] []
def Ls:PF:=⟨[R (.pair .i64 .i64),R q4],[.bool],.uniq,J6⟩
theorem MC:Sd 10 Ls:=sf (F:=OA) (ek ⟨Kj,Gi,dC,ME,LF,uQ,Gl,trivial⟩) Tryz.func10 λ a=>by kernel_rfl
def Uq:=fe [(47,Zj),(10,Ls),(31,Lu)] []
def QM:PF:=⟨[R (.pair .i64 .i64),R q6],[.bool],.uniq,Mj⟩
theorem dD:Sd 88 QM:=sf (F:=Uq) (ek ⟨Zv,MC,ME,trivial⟩) Tryz.func88 λ a=>by kernel_rfl
def Pv:=fe [] []
def sK:PF:=⟨[R q5,R q5],[.bool],.uniq,ck⟩
theorem FJ:Sd 148 sK:=sf (F:=Pv) (ek trivial) Tryz.func148 λ a=>by kernel_rfl
def Ur:=fe [(147,Mt),(148,sK)] [(2,[.slot 7 .i64 (.imm false)])]
def tP:PF:=⟨[R (.sl 63 q5)],[.bool],.uniq,No⟩
theorem Gy:Sd 89 tP:=sf (F:=Ur) (ek ⟨NX,FJ,trivial⟩) Tryz.func89 λ a=>by kernel_rfl
def Pw:=fe [(20,JI),(47,Zj),(31,Lu),(32,KK),(33,lJ)] []
def cR:PF:=⟨[R (.pair .i64 .i64),R q4],[.bool],.uniq,Nm⟩
theorem mv:Sd 149 cR:=sf (F:=Pw) (ek ⟨Kj,Zv,ME,LF,uQ,trivial⟩) Tryz.func149 λ a=>by kernel_rfl
def SA:=fe [] []
def DC:PF:=⟨[R .i64],[.bool],.uniq,fC⟩
theorem adi:Sd 264 DC:=sf (F:=SA) (ek trivial) Tryz.func264 λ a=>by kernel_rfl
def RG:=fe [(264,DC)] []
def C6:PF:=⟨[R .i64,R .i64],[.i64],.uniq,o7⟩
theorem acK:Sd 211 C6:=sf (F:=RG) (ek ⟨adi,trivial⟩) Tryz.func211 λ a=>by kernel_rfl
def SB:=fe [] []
def DD:PF:=⟨[R .str],[.bool],.uniq,fD⟩
theorem adj:Sd 265 DD:=sf (F:=SB) (ek trivial) Tryz.func265 λ a=>by kernel_rfl
def RH:=fe [(265,DD)] []
def C7:PF:=⟨[R .str,R .str],[.i64],.uniq,o8⟩
theorem acL:Sd 212 C7:=sf (F:=RH) (ek ⟨adj,trivial⟩) Tryz.func212 λ a=>by kernel_rfl
def Py:=fe [(211,C6),(212,C7)] []
def sL:PF:=⟨[R q4,R q4],[.i64],.uniq,Nv⟩
theorem FK:Sd 150 sL:=sf (F:=Py) (ek ⟨acK,acL,trivial⟩) Tryz.func150 λ a=>by kernel_rfl
def Us:=fe [(149,cR),(150,sL)] [(2,[.slot 9 .i64 (.imm false)])]
def tQ:PF:=⟨[R (.pair .i64 .i64),R (.sl 61 q4)],[.bool],.uniq,J7⟩
theorem Gz:Sd 90 tQ:=sf (F:=Us) (ek ⟨mv,FK,trivial⟩) Tryz.func90 λ a=>by kernel_rfl
def Ut:=fe [(47,Zj)] []
def c9:PF:=⟨[R Zu],[.bool],.uniq,Nk⟩
theorem mI:Sd 91 c9:=sf (F:=Ut) (ek ⟨Zv,trivial⟩) Tryz.func91 λ a=>by kernel_rfl
def PA:=fe [] []
def CB:PF:=⟨[R q2],[q2],.shared,km⟩
theorem acg:Sd 152 CB:=sf (F:=PA) (ek trivial) Tryz.func152 λ a=>by kernel_rfl
def RI:=fe [(29,QL)] []
def C8:PF:=⟨[R (.pair .str q4),R (.pair .str q4)],[.bool],.uniq,f8⟩
theorem acM:Sd 213 C8:=sf (F:=RI) (ek ⟨dC,trivial⟩) Tryz.func213 λ a=>by kernel_rfl
def RJ:=fe [(65,tH)] []
def C9:PF:=⟨[R q4,R q4],[.bool],.uniq,kn⟩
theorem acN:Sd 214 C9:=sf (F:=RJ) (ek ⟨Gr,trivial⟩) Tryz.func214 λ a=>by kernel_rfl
def Pz:=fe [(213,C8),(214,C9),(29,QL)] []
def CA:PF:=⟨[R q2,R q2],[.bool],.uniq,gx⟩
theorem acf:Sd 151 CA:=sf (F:=Pz) (ek ⟨acM,acN,dC,trivial⟩) Tryz.func151 λ a=>by kernel_rfl
def RL:=fe [(31,Lu),(266,DE)] []
def lz:PF:=⟨[R .str],[.str],.uniq,Nu⟩
theorem uF:Sd 215 lz:=sf (F:=RL) (ek ⟨ME,adk,trivial⟩) Tryz.func215 λ a=>by kernel_rfl
def PB:=fe [(10,Ls),(31,Lu),(215,lz)] []
def cS:PF:=⟨[R (.pair .i64 .i64),R (.pair .str q4)],[.bool],.uniq,Nj⟩
theorem mw:Sd 153 cS:=sf (F:=PB) (ek ⟨MC,ME,uF,trivial⟩) Tryz.func153 λ a=>by kernel_rfl
def Uu:=fe [(20,JI),(152,CB),(151,CA),(153,cS),(149,cR),(47,Zj),(10,Ls),(147,Mt)] []
def QN:PF:=⟨[R (.pair .i64 .i64),R q2],[.bool],.uniq,Y5⟩
theorem dE:Sd 92 QN:=sf (F:=Uu) (ek ⟨Kj,acg,acf,mw,mv,Zv,MC,NX,trivial⟩) Tryz.func92 λ a=>by kernel_rfl
def TJ:=fe [(20,JI),(47,Zj),(88,QM),(89,tP),(90,tQ),(91,c9),(92,QN)] [(4,[.slot 66 .i64 (.imm false)])]
def Z5:PF:=⟨[R (.pair .i64 .i64),R q1],[.bool],.uniq,Zh⟩
theorem Yw:Sd 48 Z5:=sf (F:=TJ) (ek ⟨Kj,Zv,dD,Gy,Gz,mI,dE,trivial⟩) Tryz.func48 λ a=>by kernel_rfl
def RE:=fe [(48,Z5)] []
def C5:PF:=⟨[R (.pair .i64 .i64),R .i64],[q1,.bool],.uniq,gE⟩
theorem s21:Sd 21 C5:=sf (F:=RE) (ek ⟨Yw,trivial⟩) Tryz.func21 λ a=>by kernel_rfl
def P7:=fe [(47,Zj)] [(4,[.slot 0 .i64 (.imm false),.slot 3 (.sl 5 .u8) (.own true)])]
def NN:PF:=⟨[R .i64],[(.sl 5 .u8)],.uniq,Y6⟩
theorem Q0:Sd 179 NN:=sf (F:=P7) (ek ⟨Zv,trivial⟩) Tryz.func179 λ a=>by kernel_rfl
def PC:=fe [(47,Zj),(179,NN)] [(5,[.slot 7 .i64 (.imm false),.slot 8 .i64 (.imm false)])]
def sM:PF:=⟨[R (.sl 5 .u8),R .i64],[.i64,.i64,.bool],.uniq,bN⟩
theorem FL:Sd 154 sM:=sf (F:=PC) (ek ⟨Zv,Q0,trivial⟩) Tryz.func154 λ a=>by kernel_rfl
def Uv:=fe [(154,sM)] []
def da:PF:=⟨[(.ptr,KN)],[.i64],.uniq,ZE⟩
theorem mJ:Sd 93 da:=sf (F:=Uv) (ek ⟨FL,trivial⟩) Tryz.func93 λ a=>by kernel_rfl
def PD:=fe [(154,sM)] []
def sN:PF:=⟨[R (.sl 5 .u8),R .i64],[.str,.i64,.bool],.uniq,bO⟩
theorem FM:Sd 155 sN:=sf (F:=PD) (ek ⟨FL,trivial⟩) Tryz.func155 λ a=>by kernel_rfl
def Uw:=fe [(155,sN)] []
def lS:PF:=⟨[(.ptr,KN)],[.str],.uniq,NB⟩
theorem uZ:Sd 94 lS:=sf (F:=Uw) (ek ⟨FM,trivial⟩) Tryz.func94 λ a=>by kernel_rfl
def Uy:=fe [(93,da)] [(4,[.slot 3 (.sl 3 .i64) (.own true),.slot 5 .i64 (.imm false),.keep 0 KN [2,0,0]])]
def tS:PF:=⟨[(.ptr,KN)],[(.sl 3 .i64)],.uniq,cp⟩
theorem GB:Sd 96 tS:=sf (F:=Uy) (ek ⟨mJ,trivial⟩) Tryz.func96 λ a=>by kernel_rfl
def Ux:=fe [(93,da),(94,lS),(96,tS)] []
def tR:PF:=⟨[(.ptr,KN)],[q4],.uniq,Qt⟩
theorem GA:Sd 95 tR:=sf (F:=Ux) (ek ⟨mJ,uZ,GB,trivial⟩) Tryz.func95 λ a=>by kernel_rfl
def TL:=fe [(93,da),(94,lS),(95,tR),(96,tS),(92,QN)] []
def tF:PF:=⟨[R (.pair .i64 .i64),R (.sl 5 .u8)],[q2,.bool],.uniq,bT⟩
theorem Gp:Sd 50 tF:=sf (F:=TL) (ek ⟨mJ,uZ,GA,GB,dE,trivial⟩) Tryz.func50 λ a=>by kernel_rfl
def RQ:=fe [(20,JI),(33,lJ),(49,tE),(48,Z5),(50,tF),(47,Zj),(31,Lu),(32,KK)] [(5,[.slot 56 .i64 (.imm false)]),(11,[.slot 75 .i64 (.imm false)]),(18,[.slot 101 .i64 (.imm false)])]
def cY:PF:=⟨[R q3],[.bool],.uniq,ZD⟩
theorem mD:Sd 22 cY:=sf (F:=RQ) (ek ⟨Kj,uQ,Gn,Yw,Gp,Zv,ME,LF,trivial⟩) Tryz.func22 λ a=>by kernel_rfl
def F6:=fe [(19,NO),(20,JI),(21,C5),(22,cY)] [(3,[.slot 7 .i64 (.imm false),.box 4 q3 (.own true)])]
def Ew:PF:=⟨[R (.pair .i64 .i64),R (.sl 3 .i64)],[q3,.bool],.uniq,g9⟩
theorem s6:Sd 6 Ew:=sf (F:=F6) (ek ⟨aa,Kj,s21,mD,trivial⟩) Tryz.func6 λ a=>by kernel_rfl
def PS:=fe [(19,NO)] []
def NL:PF:=⟨[R q4],[q4],.uniq,KE⟩
theorem QY:Sd 167 NL:=sf (F:=PS) (ek ⟨aa,trivial⟩) Tryz.func167 λ a=>by kernel_rfl
def OP:=fe [(167,NL)] []
def cL:PF:=⟨[R q6],[q6],.uniq,Nz⟩
theorem mo:Sd 107 cL:=sf (F:=OP) (ek ⟨QY,trivial⟩) Tryz.func107 λ a=>by kernel_rfl
def OQ:=fe [] []
def sr:PF:=⟨[R (.sl 63 q5)],[(.sl 63 q5)],.uniq,KF⟩
theorem Fr:Sd 108 sr:=sf (F:=OQ) (ek trivial) Tryz.func108 λ a=>by kernel_rfl
def PT:=fe [(19,NO)] []
def QJ:PF:=⟨[R q4],[q4],.uniq,J9⟩
theorem dA:Sd 168 QJ:=sf (F:=PT) (ek ⟨aa,trivial⟩) Tryz.func168 λ a=>by kernel_rfl
def OR:=fe [(168,QJ)] [(3,[.slot 3 (.sl 61 q4) (.own true),.slot 8 .i64 (.imm false)])]
def ss:PF:=⟨[R (.sl 61 q4)],[(.sl 61 q4)],.uniq,JE⟩
theorem Fs:Sd 109 ss:=sf (F:=OR) (ek ⟨dA,trivial⟩) Tryz.func109 λ a=>by kernel_rfl
def OT:=fe [] []
def cM:PF:=⟨[R Zu],[Zu],.uniq,Nw⟩
theorem mp:Sd 110 cM:=sf (F:=OT) (ek trivial) Tryz.func110 λ a=>by kernel_rfl
def RO:=fe [(167,NL)] []
def Dc:PF:=⟨[R (.pair .str q4)],[(.pair .str q4)],.uniq,ke⟩
theorem acQ:Sd 218 Dc:=sf (F:=RO) (ek ⟨QY,trivial⟩) Tryz.func218 λ a=>by kernel_rfl
def PU:=fe [(218,Dc),(168,QJ),(167,NL)] []
def sV:PF:=⟨[R q2],[q2],.uniq,cl⟩
theorem FS:Sd 169 sV:=sf (F:=PU) (ek ⟨acQ,dA,QY,trivial⟩) Tryz.func169 λ a=>by kernel_rfl
def OU:=fe [(169,sV)] [(3,[.slot 3 JL (.own true),.slot 8 .i64 (.imm false)])]
def Ch:PF:=⟨[R JL],[JL],.uniq,kg⟩
theorem abW:Sd 111 Ch:=sf (F:=OU) (ek ⟨FS,trivial⟩) Tryz.func111 λ a=>by kernel_rfl
def TU:=fe [(107,cL),(108,sr),(109,ss),(110,cM),(111,Ch)] []
def Z6:PF:=⟨[R q1],[q1],.uniq,zO⟩
theorem Yx:Sd 58 Z6:=sf (F:=TU) (ek ⟨mo,Fr,Fs,mp,abW,trivial⟩) Tryz.func58 λ a=>by kernel_rfl
def TV:=fe [] []
def tG:PF:=⟨[R (.pair .i64 (.sl 5 .u8))],[(.pair .i64 (.sl 5 .u8))],.uniq,cm⟩
theorem Gq:Sd 59 tG:=sf (F:=TV) (ek trivial) Tryz.func59 λ a=>by kernel_rfl
def Sv:=fe [(19,NO),(58,Z6),(59,tG)] [(3,[.slot 20 .i64 (.imm false),.box 8 q3 (.own true)]),(8,[.slot 35 .i64 (.imm false),.box 8 q3 (.own true)])]
def QK:PF:=⟨[R q3],[q3],.uniq,yS⟩
theorem dB:Sd 26 QK:=sf (F:=Sv) (ek ⟨aa,Yx,Gq,trivial⟩) Tryz.func26 λ a=>by kernel_rfl
def O7:=fe [] [(2,[.slot 8 .i64 (.imm false)])]
def Cu:PF:=⟨[R (.sl 3 .i64),R .i64],[.i64],.uniq,vw⟩
theorem ac8:Sd 125 Cu:=sf (F:=O7) (ek trivial) Tryz.func125 λ a=>by kernel_rfl
def T1:=fe [(125,Cu)] []
def EB:PF:=⟨[R (.sl 3 .i64),R .i64],[.bool],.uniq,mT⟩
theorem s64:Sd 64 EB:=sf (F:=T1) (ek ⟨ac8,trivial⟩) Tryz.func64 λ a=>by kernel_rfl
def SP:=fe [(64,EB)] []
def Ke:PF:=⟨[R (.sl 3 .i64),R .i64],[.bool],.uniq,ZV⟩
theorem KQ:Sd 28 Ke:=sf (F:=SP) (ek ⟨s64,trivial⟩) Tryz.func28 λ a=>by kernel_rfl
def F9:=fe [(28,Ke)] [(3,[.slot 3 (.sl 3 .i64) (.own true),.slot 8 .i64 (.imm false)])]
def c8:PF:=⟨[R q3],[(.sl 3 .i64)],.uniq,Nl⟩
theorem s9:Sd 9 c8:=sf (F:=F9) (ek ⟨KQ,trivial⟩) Tryz.func9 λ a=>by kernel_rfl
def TW:=fe [(47,Zj),(9,c8),(28,Ke)] []
def Ex:PF:=⟨[R q3,R q8],[.bool],.uniq,kl⟩
theorem s60:Sd 60 Ex:=sf (F:=TW) (ek ⟨Zv,s9,KQ,trivial⟩) Tryz.func60 λ a=>by kernel_rfl
def PW:=fe [(110,cM),(91,c9)] []
def CH:PF:=⟨[R Zu],[Zu],.uniq,gR⟩
theorem acm:Sd 170 CH:=sf (F:=PW) (ek ⟨mp,mI,trivial⟩) Tryz.func170 λ a=>by kernel_rfl
def OV:=fe [(58,Z6),(48,Z5),(170,CH)] []
def Ci:PF:=⟨[R (.pair .i64 .i64),R q1],[q1,JL],.uniq,gQ⟩
theorem abX:Sd 112 Ci:=sf (F:=OV) (ek ⟨Yx,Yw,acm,trivial⟩) Tryz.func112 λ a=>by kernel_rfl
def OX:=fe [(28,Ke)] []
def sv:PF:=⟨[R .i64,R q2],[LB],.uniq,b9⟩
theorem Fu:Sd 114 sv:=sf (F:=OX) (ek ⟨KQ,trivial⟩) Tryz.func114 λ a=>by kernel_rfl
def T5:=fe [] [(2,[.slot 8 .i64 (.imm false)])]
def EC:PF:=⟨[R LB,R (.pair .i64 (.pair .str .i64))],[.i64],.uniq,vv⟩
theorem s67:Sd 67 EC:=sf (F:=T5) (ek trivial) Tryz.func67 λ a=>by kernel_rfl
def Tv:=fe [(67,EC)] []
def lK:PF:=⟨[R LB,R (.pair .i64 (.pair .str .i64))],[.bool],.uniq,an⟩
theorem uR:Sd 35 lK:=sf (F:=Tv) (ek ⟨s67,trivial⟩) Tryz.func35 λ a=>by kernel_rfl
def OW:=fe [(26,QK),(9,c8),(28,Ke),(114,sv),(35,lK)] [(5,[.slot 22 .i64 (.imm false),.box 11 q3 (.own true)]),(8,[.slot 31 .i64 (.imm false),.box 11 q3 (.own true)])]
def Cj:PF:=⟨[R q3,R .i64,R JL],[q3],.uniq,gu⟩
theorem abY:Sd 113 Cj:=sf (F:=OW) (ek ⟨dB,s9,KQ,Fu,uR,trivial⟩) Tryz.func113 λ a=>by kernel_rfl
def P9:=fe [(179,NN)] []
def lm:PF:=⟨[R .str],[(.sl 5 .u8)],.uniq,Np⟩
theorem uz:Sd 180 lm:=sf (F:=P9) (ek ⟨Q0,trivial⟩) Tryz.func180 λ a=>by kernel_rfl
def Rb:=fe [(179,NN)] [(3,[.slot 3 (.sl 5 .u8) (.own true),.slot 8 .i64 (.imm false)])]
def ln:PF:=⟨[R (.sl 3 .i64)],[(.sl 5 .u8)],.uniq,Mo⟩
theorem uA:Sd 182 ln:=sf (F:=Rb) (ek ⟨Q0,trivial⟩) Tryz.func182 λ a=>by kernel_rfl
def Ra:=fe [(10,Ls),(179,NN),(180,lm),(182,ln)] []
def sX:PF:=⟨[R (.pair .i64 .i64),R q4],[(.sl 5 .u8)],.uniq,Qg⟩
theorem FU:Sd 181 sX:=sf (F:=Ra) (ek ⟨MC,Q0,uz,uA,trivial⟩) Tryz.func181 λ a=>by kernel_rfl
def O1:=fe [(92,QN),(179,NN),(180,lm),(181,sX),(182,ln)] []
def sx:PF:=⟨[R (.pair .i64 .i64),R q2],[(.sl 5 .u8)],.uniq,bS⟩
theorem Fw:Sd 119 sx:=sf (F:=O1) (ek ⟨dE,Q0,uz,FU,uA,trivial⟩) Tryz.func119 λ a=>by kernel_rfl
def OY:=fe [(26,QK),(22,cY),(119,sx),(47,Zj)] [(5,[.slot 17 .i64 (.imm false),.box 11 q3 (.own true)])]
def Ck:PF:=⟨[R q3,R JL],[q3],.uniq,gK⟩
theorem abZ:Sd 115 Ck:=sf (F:=OY) (ek ⟨dB,mD,Fw,Zv,trivial⟩) Tryz.func115 λ a=>by kernel_rfl
def TX:=fe [(112,Ci),(113,Cj),(114,sv),(35,lK),(115,Ck)] [(4,[.slot 30 .i64 (.imm false),.box 5 q3 (.own true)]),(7,[.slot 39 .i64 (.imm false),.box 5 q3 (.own true)])]
def Ey:PF:=⟨[R q3,R .i64],[q3,.i64],.shared,kq⟩
theorem s61:Sd 61 Ey:=sf (F:=TX) (ek ⟨abX,abY,Fu,uR,abZ,trivial⟩) Tryz.func61 λ a=>by kernel_rfl
def SG:=fe [(167,NL)] []
def DI:PF:=⟨[R q4,R q4],[q4],.uniq,gD⟩
theorem ado:Sd 270 DI:=sf (F:=SG) (ek ⟨QY,trivial⟩) Tryz.func270 λ a=>by kernel_rfl
def SH:=fe [(66,cZ),(215,lz)] []
def DJ:PF:=⟨[R .str],[.str,.bool],.uniq,gM⟩
theorem adp:Sd 271 DJ:=sf (F:=SH) (ek ⟨mF,uF,trivial⟩) Tryz.func271 λ a=>by kernel_rfl
def Tq:=fe [] []
def Ek:PF:=⟨[R .str,R .str],[.bool],.uniq,pU⟩
theorem adY:Sd 331 Ek:=sf (F:=Tq) (ek trivial) Tryz.func331 λ a=>by kernel_rfl
def Td:=fe [(331,Ek)] []
def Ea:PF:=⟨[R .str,R .str],[.bool],.uniq,vX⟩
theorem adO:Sd 311 Ea:=sf (F:=Td) (ek ⟨adY,trivial⟩) Tryz.func311 λ a=>by kernel_rfl
def SI:=fe [(31,Lu),(311,Ea)] []
def DK:PF:=⟨[R .str,R .str],[.bool],.uniq,gg⟩
theorem adq:Sd 272 DK:=sf (F:=SI) (ek ⟨ME,adO,trivial⟩) Tryz.func272 λ a=>by kernel_rfl
def RP:=fe [(107,cL),(88,QM),(10,Ls),(270,DI),(215,lz),(32,KK),(271,DJ),(272,DK)] []
def lA:PF:=⟨[R (.pair .i64 .i64),R q6,R q4],[q6],.uniq,Qm⟩
theorem uG:Sd 219 lA:=sf (F:=RP) (ek ⟨mo,dD,MC,ado,uF,LF,adp,adq,trivial⟩) Tryz.func219 λ a=>by kernel_rfl
def SJ:=fe [(88,QM),(153,cS),(32,KK)] []
def DL:PF:=⟨[R (.pair .i64 .i64),R q6,R (.pair .str q4)],[.bool],.uniq,gw⟩
theorem adr:Sd 273 DL:=sf (F:=SJ) (ek ⟨dD,mw,LF,trivial⟩) Tryz.func273 λ a=>by kernel_rfl
def RR:=fe [(107,cL),(273,DL),(32,KK)] []
def Dd:PF:=⟨[R (.pair .i64 .i64),R q6,R (.pair .str q4)],[q6,.bool],.uniq,gZ⟩
theorem acR:Sd 220 Dd:=sf (F:=RR) (ek ⟨mo,adr,LF,trivial⟩) Tryz.func220 λ a=>by kernel_rfl
def SK:=fe [(29,QL)] []
def DM:PF:=⟨[R q6,R q6],[.bool],.uniq,gJ⟩
theorem ads:Sd 274 DM:=sf (F:=SK) (ek ⟨dC,trivial⟩) Tryz.func274 λ a=>by kernel_rfl
def Te:=fe [(88,QM),(182,ln),(181,sX),(180,lm)] []
def Eb:PF:=⟨[R (.pair .i64 .i64),R q6],[(.sl 5 .u8)],.uniq,gG⟩
theorem adP:Sd 312 Eb:=sf (F:=Te) (ek ⟨dD,uA,FU,uz,trivial⟩) Tryz.func312 λ a=>by kernel_rfl
def SM:=fe [(312,Eb),(179,NN)] []
def DO:PF:=⟨[R (.pair .i64 .i64),R q6],[(.sl 5 .u8)],.uniq,gz⟩
theorem adu:Sd 276 DO:=sf (F:=SM) (ek ⟨adP,Q0,trivial⟩) Tryz.func276 λ a=>by kernel_rfl
def SL:=fe [(110,cM),(91,c9)] []
def DN:PF:=⟨[R Zu,R (.sl 5 .u8)],[Zu,.bool],.uniq,f0⟩
theorem adt:Sd 275 DN:=sf (F:=SL) (ek ⟨mp,mI,trivial⟩) Tryz.func275 λ a=>by kernel_rfl
def RS:=fe [(58,Z6),(48,Z5),(274,DM),(276,DO),(275,DN),(107,cL)] []
def lB:PF:=⟨[R (.pair .i64 .i64),R q1,R q6],[q1,.bool],.uniq,Mm⟩
theorem uH:Sd 221 lB:=sf (F:=RS) (ek ⟨Yx,Yw,ads,adu,adt,mo,trivial⟩) Tryz.func221 λ a=>by kernel_rfl
def Ts:=fe [] []
def En:PF:=⟨[R .i64,(.cap,.i64)],[.bool],.uniq,pP⟩
theorem ae1:Sd 335 En:=sf (F:=Ts) (ek trivial) Tryz.func335 λ a=>by kernel_rfl
def Tr:=fe [(335,En)] [(2,[.slot 8 .i64 (.imm false)])]
def Em:PF:=⟨[R (.sl 3 .i64),((.clo 335),.i64)],[.i64],.uniq,mV⟩
theorem ae0:Sd 334 Em:=sf (F:=Tr) (ek ⟨ae1,trivial⟩) Tryz.func334 λ a=>by kernel_rfl
def Th:=fe [(28,Ke),(19,NO),(334,Em),(336,Eo)] []
def Ee:PF:=⟨[R (.sl 3 .i64),R .i64],[(.sl 3 .i64)],.uniq,ca⟩
theorem adS:Sd 317 Ee:=sf (F:=Th) (ek ⟨KQ,aa,ae0,ae2,trivial⟩) Tryz.func317 λ a=>by kernel_rfl
def SW:=fe [(317,Ee)] [(3,[.slot 5 (.sl 3 .i64) (.own true),.slot 12 .i64 (.imm false)]),(8,[.slot 5 (.sl 3 .i64) (.own true),.slot 22 .i64 (.imm false)])]
def DW:PF:=⟨[R (.sl 3 .i64),R (.sl 3 .i64)],[(.sl 3 .i64)],.uniq,gL⟩
theorem adC:Sd 286 DW:=sf (F:=SW) (ek ⟨adS,trivial⟩) Tryz.func286 λ a=>by kernel_rfl
def R7:=fe [(286,DW)] []
def Dk:PF:=⟨[R q4,R q4],[q4,.bool],.uniq,bW⟩
theorem acZ:Sd 236 Dk:=sf (F:=R7) (ek ⟨adC,trivial⟩) Tryz.func236 λ a=>by kernel_rfl
def Rg:jv:=⟨⟨TYS,[(149,cR),(109,ss),(150,sL),(236,Dk),(168,QJ),(90,tQ)],EQS,[],[],false,[],[(237,Dl)],[],false,[]⟩,[(5,[.slot 9 .i64 (.imm false)])]⟩
def cU:PF:=⟨[R (.pair .i64 .i64),R (.sl 61 q4),R q4],[(.sl 61 q4),.bool],.uniq,Nt⟩
theorem mz:Sd 186 cU:=sf (F:=Rg) (K8 ⟨mv,Fs,FK,acZ,dA,Gz,trivial⟩ trivial trivial trivial ad0 trivial) Tryz.func186 λ a=>by kernel_rfl
def R2:=fe [(168,QJ)] [(2,[.slot 11 .i64 (.imm false),.box 1 q4 (.own true)])]
def ti:PF:=⟨[R (.sl 61 q4),R .i64,R .str],[q4],.uniq,ce⟩
theorem Ga:Sd 230 ti:=sf (F:=R2) (ek ⟨dA,trivial⟩) Tryz.func230 λ a=>by kernel_rfl
def P6:=fe [(20,JI)] []
def NM:PF:=⟨[R (.pair .i64 .i64),R .i64],[.i64],.uniq,Le⟩
theorem QZ:Sd 178 NM:=sf (F:=P6) (ek ⟨Kj,trivial⟩) Tryz.func178 λ a=>by kernel_rfl
def R3:=fe [(167,NL),(10,Ls)] []
def Dh:PF:=⟨[R (.pair .i64 .i64),R q4],[q4,.bool],.uniq,gA⟩
theorem acV:Sd 231 Dh:=sf (F:=R3) (ek ⟨QY,MC,trivial⟩) Tryz.func231 λ a=>by kernel_rfl
def Rh:=fe [(58,Z6),(169,sV),(48,Z5)] []
def cV:PF:=⟨[R (.pair .i64 .i64),R q1,R .i64,R q2],[q1,.bool],.uniq,Lg⟩
theorem mA:Sd 187 cV:=sf (F:=Rh) (ek ⟨Yx,FS,Yw,trivial⟩) Tryz.func187 λ a=>by kernel_rfl
def wy:=fe [(219,lA),(221,lB),(178,NM),(187,cV)] []
def pf232:PF:=⟨[R (.pair .i64 .i64),R q1,R q4],[q1,.bool],.uniq,kj⟩
theorem Wc (a:yc pf232.params):fN wy Tryz.f232 pf232.params pf232.rets pf232.rk a=pf232.fn a:=by kernel_rfl
theorem acW:K4 Tryz.prog GLB 232 pf232:=If (F:=wy) (ek ⟨uG,uH,QZ,mA,trivial⟩) Tryz.func232 (by kernel_rfl) (by rfl) (λ a o h=>(Wc a).trans h)
def ST:=fe [(20,JI),(47,Zj)] []
def lH:PF:=⟨[R (.pair .i64 .i64),R .i64,R .i64],[.i64],.uniq,Qk⟩
theorem uO:Sd 283 lH:=sf (F:=ST) (ek ⟨Kj,Zv,trivial⟩) Tryz.func283 λ a=>by kernel_rfl
def SV:=fe [(20,JI),(47,Zj)] []
def DV:PF:=⟨[R (.pair .i64 .i64),R .i64,R .i64],[.i64],.uniq,gO⟩
theorem adB:Sd 285 DV:=sf (F:=SV) (ek ⟨Kj,Zv,trivial⟩) Tryz.func285 λ a=>by kernel_rfl
def R6:=fe [(283,lH),(285,DV)] []
def tj:PF:=⟨[R (.pair .i64 .i64),R .i64,R .i64],[.i64],.uniq,Qp⟩
theorem Gb:Sd 235 tj:=sf (F:=R6) (ek ⟨uO,adB,trivial⟩) Tryz.func235 λ a=>by kernel_rfl
def SU:=fe [(283,lH),(235,tj)] [(2,[.slot 2 .i64 (.imm false),.slot 7 (.sl 3 .i64) (.own true)])]
def DU:PF:=⟨[R (.pair .i64 .i64),R .i64,R .i64],[(.sl 3 .i64)],.uniq,g8⟩
theorem adA:Sd 284 DU:=sf (F:=SU) (ek ⟨uO,Gb,trivial⟩) Tryz.func284 λ a=>by kernel_rfl
def R4:=fe [(283,lH),(284,DU),(28,Ke)] [(3,[.slot 7 (.sl 3 .i64) (.own true),.slot 8 .i64 (.imm false)])]
def Di:PF:=⟨[R (.pair .i64 .i64),R .i64,R .i64],[(.sl 3 .i64)],.uniq,gX⟩
theorem acX:Sd 233 Di:=sf (F:=R4) (ek ⟨uO,adA,KQ,trivial⟩) Tryz.func233 λ a=>by kernel_rfl
def R5:=fe [(28,Ke)] [(3,[.slot 5 .i64 (.imm false),.slot 10 .i64 (.imm false)])]
def Dj:PF:=⟨[R (.sl 3 .i64),R (.sl 3 .i64)],[.i64],.uniq,f9⟩
theorem acY:Sd 234 Dj:=sf (F:=R5) (ek ⟨KQ,trivial⟩) Tryz.func234 λ a=>by kernel_rfl
def Rf:jv:=⟨⟨TYS,[(230,ti),(48,Z5),(58,Z6),(178,NM),(231,Dh),(233,Di),(234,Dj),(235,tj),(187,cV)],EQS,[],[],false,[(232,pf232)],[],[],false,[]⟩,[]⟩
def lp:PF:=⟨[R (.pair .i64 .i64),R q1,R .i64,R .str,R .bool],[q1,.bool],.uniq,Mh⟩
theorem uB:Sd 185 lp:=sf (F:=Rf) (K8 ⟨Ga,Yw,Yx,QZ,acV,acX,acY,Gb,mA,trivial⟩ trivial trivial acW trivial trivial) Tryz.func185 λ a=>by kernel_rfl
def PX:=fe [(48,Z5),(153,cS),(58,Z6),(32,KK),(219,lA),(220,Dd),(221,lB),(186,cU),(185,lp)] []
def sW:PF:=⟨[R (.pair .i64 .i64),R q1,R (.pair .str q4)],[q1,.bool],.uniq,bQ⟩
theorem FT:Sd 171 sW:=sf (F:=PX) (ek ⟨Yw,mw,Yx,LF,uG,acR,uH,mz,uB,trivial⟩) Tryz.func171 λ a=>by kernel_rfl
def PY:=fe [(48,Z5),(149,cR),(58,Z6),(186,cU),(185,lp)] []
def CJ:PF:=⟨[R (.pair .i64 .i64),R q1,R q4],[q1,.bool],.uniq,gi⟩
theorem acn:Sd 172 CJ:=sf (F:=PY) (ek ⟨Yw,mv,Yx,mz,uB,trivial⟩) Tryz.func172 λ a=>by kernel_rfl
def RT:=fe [(230,ti),(34,tC)] []
def tc:PF:=⟨[R (.pair .i64 .i64),R q1,R .i64],[.bool],.uniq,Li⟩
theorem FZ:Sd 222 tc:=sf (F:=RT) (ek ⟨Ga,Gl,trivial⟩) Tryz.func222 λ a=>by kernel_rfl
def PZ:=fe [(48,Z5),(47,Zj),(10,Ls),(58,Z6),(219,lA),(221,lB),(178,NM),(186,cU),(222,tc)] []
def CK:PF:=⟨[R (.pair .i64 .i64),R q1,R .i64,R q4,R .i64],[q1,.bool],.uniq,gk⟩
theorem aco:Sd 173 CK:=sf (F:=PZ) (ek ⟨Yw,Zv,MC,Yx,uG,uH,QZ,mz,FZ,trivial⟩) Tryz.func173 λ a=>by kernel_rfl
def SO:=fe [(148,sK)] []
def DQ:PF:=⟨[R q5,(.cap,q5)],[.bool],.uniq,pK⟩
theorem adw:Sd 278 DQ:=sf (F:=SO) (ek ⟨FJ,trivial⟩) Tryz.func278 λ a=>by kernel_rfl
def SN:=fe [(278,DQ)] [(2,[.slot 8 .i64 (.imm false)])]
def DP:PF:=⟨[R (.sl 63 q5),((.clo 278),q5)],[.i64],.uniq,mU⟩
theorem adv:Sd 277 DP:=sf (F:=SN) (ek ⟨adw,trivial⟩) Tryz.func277 λ a=>by kernel_rfl
def RU:=fe [(277,DP),(108,sr),(279,DR),(89,tP)] []
def De:PF:=⟨[R (.sl 63 q5),R q5],[(.sl 63 q5),.bool],.uniq,gB⟩
theorem acS:Sd 223 De:=sf (F:=RU) (ek ⟨adv,Fr,adx,Gy,trivial⟩) Tryz.func223 λ a=>by kernel_rfl
def P0:=fe [(58,Z6),(48,Z5),(223,De)] []
def CL:PF:=⟨[R (.pair .i64 .i64),R q1,R q5],[q1,.bool],.uniq,gj⟩
theorem acp:Sd 174 CL:=sf (F:=P0) (ek ⟨Yx,Yw,acS,trivial⟩) Tryz.func174 λ a=>by kernel_rfl
def P3:=fe [(168,QJ)] [(3,[.slot 5 (.sl 61 q4) (.own true),.slot 10 .i64 (.imm false)])]
def CM:PF:=⟨[R (.sl 61 q4),R .i64],[(.sl 61 q4)],.uniq,Mk⟩
theorem acq:Sd 175 CM:=sf (F:=P3) (ek ⟨dA,trivial⟩) Tryz.func175 λ a=>by kernel_rfl
def RX:=fe [] [(3,[.slot 2 .i64 (.imm false),.box 2 q7 (.own true)])]
def tf:PF:=⟨[],[q7],.uniq,Qd⟩
theorem F1:Sd 226 tf:=sf (F:=RX) (ek trivial) Tryz.func226 λ a=>by kernel_rfl
def RY:=fe [(66,cZ)] [(4,[.slot 5 (.sl 63 q5) (.own true),.slot 15 .i64 (.imm false)])]
def th:PF:=⟨[R .str],[(.sl 63 q5)],.uniq,Qo⟩
theorem F2:Sd 227 th:=sf (F:=RY) (ek ⟨mF,trivial⟩) Tryz.func227 λ a=>by kernel_rfl
def SQ:=fe [(19,NO)] []
def tu:PF:=⟨[R q7],[q7],.uniq,Qq⟩
theorem Gh:Sd 280 tu:=sf (F:=SQ) (ek ⟨aa,trivial⟩) Tryz.func280 λ a=>by kernel_rfl
def Tf:=fe [(47,Zj)] [(2,[.slot 11 .i64 (.imm false)])]
def Ec:PF:=⟨[R (.sl 3 .i64),R .i64,R .i64],[.bool],.uniq,cj⟩
theorem adQ:Sd 315 Ec:=sf (F:=Tf) (ek ⟨Zv,trivial⟩) Tryz.func315 λ a=>by kernel_rfl
def SR:=fe [(315,Ec)] []
def DS:PF:=⟨[R q7],[.bool],.uniq,bR⟩
theorem ady:Sd 281 DS:=sf (F:=SR) (ek ⟨adQ,trivial⟩) Tryz.func281 λ a=>by kernel_rfl
def RV:=fe [(280,tu),(281,DS),(147,Mt)] []
def lC:PF:=⟨[R q7,R q5],[q7,.i64],.uniq,Nn⟩
theorem uI:Sd 224 lC:=sf (F:=RV) (ek ⟨Gh,ady,NX,trivial⟩) Tryz.func224 λ a=>by kernel_rfl
def RW:=fe [(280,tu),(224,lC)] [(4,[.slot 7 (.sl 3 .i64) (.own true),.slot 16 .i64 (.imm false),.box 7 q7 (.own true)])]
def te:PF:=⟨[R q7,R (.sl 63 q5)],[q7,(.sl 3 .i64)],.uniq,Qe⟩
theorem F0:Sd 225 te:=sf (F:=RW) (ek ⟨Gh,uI,trivial⟩) Tryz.func225 λ a=>by kernel_rfl
def P5:=fe [(48,Z5),(226,tf),(227,th),(225,te)] []
def CO:PF:=⟨[R (.pair .i64 .i64),R q1],[q7],.uniq,Lf⟩
theorem acs:Sd 177 CO:=sf (F:=P5) (ek ⟨Yw,F1,F2,F0,trivial⟩) Tryz.func177 λ a=>by kernel_rfl
def P4:=fe [(224,lC)] [(3,[.slot 5 (.sl 63 q5) (.own true),.slot 12 .i64 (.imm false)])]
def CN:PF:=⟨[R (.sl 63 q5),R q7],[(.sl 63 q5)],.uniq,Lc⟩
theorem acr:Sd 176 CN:=sf (F:=P4) (ek ⟨uI,trivial⟩) Tryz.func176 λ a=>by kernel_rfl
def OZ:=fe [(92,QN),(58,Z6),(171,sW),(172,CJ),(173,CK),(174,CL),(175,CM),(177,CO),(176,CN)] []
def sw:PF:=⟨[R (.pair .i64 .i64),R q1,R q2],[q1,.bool],.uniq,bP⟩
theorem Fv:Sd 117 sw:=sf (F:=OZ) (ek ⟨dE,Yx,FT,acn,aco,acp,acq,acs,acr,trivial⟩) Tryz.func117 λ a=>by kernel_rfl
def OS:=fe [(28,Ke),(35,lK)] [(2,[.slot 15 .i64 (.imm false)])]
def su:PF:=⟨[R (.sl 3 .i64),R LB,R .i64,R .str,R (.sl 3 .i64)],[.bool],.uniq,Nr⟩
theorem Ft:Sd 11 su:=sf (F:=OS) (ek ⟨KQ,uR,trivial⟩) Tryz.func11 λ a=>by kernel_rfl
def O0:=fe [(92,QN),(11,su),(32,KK),(178,NM),(28,Ke),(30,tv),(29,QL)] []
def Cm:PF:=⟨[R (.pair .i64 .i64),R (.sl 3 .i64),R LB,R q2],[.bool],.uniq,gv⟩
theorem ac1:Sd 118 Cm:=sf (F:=O0) (ek ⟨dE,Ft,LF,QZ,KQ,Gi,dC,trivial⟩) Tryz.func118 λ a=>by kernel_rfl
def TY:jv:=⟨⟨TYS,[(26,QK),(50,tF),(9,c8),(28,Ke),(117,sw),(59,tG),(118,Cm),(119,sx)],EQS,[],[],false,[],[(116,Cl)],[],false,[]⟩,[]⟩
def Ez:PF:=⟨[R q3,R q8],[q3,.i64],.shared,Mn⟩
theorem s62:Sd 62 Ez:=sf (F:=TY) (K8 ⟨dB,Gp,s9,KQ,Fv,Gq,ac1,Fw,trivial⟩ trivial trivial trivial ac0 trivial) Tryz.func62 λ a=>by kernel_rfl
def R0:=fe [(224,lC)] [(3,[.slot 5 (.sl 63 q5) (.own true),.slot 12 .i64 (.imm false),.box 3 q7 (.own false)])]
def Dg:PF:=⟨[R (.sl 63 q5),(.own,q7)],[(.sl 63 q5)],.uniq,bY⟩
theorem acU:Sd 229 Dg:=sf (F:=R0) (ek ⟨uI,trivial⟩) Tryz.func229 λ a=>by kernel_rfl
def Tg:=fe [(147,Mt),(243,tk),(333,El)] [(3,[.slot 3 (.sl 9 .str) (.own true),.slot 8 .i64 (.imm false)])]
def Ed:PF:=⟨[R (.sl 63 q5)],[.str],.uniq,gW⟩
theorem adR:Sd 316 Ed:=sf (F:=Tg) (ek ⟨NX,Gc,adZ,trivial⟩) Tryz.func316 λ a=>by kernel_rfl
def SS:=fe [(147,Mt),(191,lq),(316,Ed),(31,Lu)] [(2,[.slot 12 .i64 (.imm false)])]
def DT:PF:=⟨[R .str,R .i64,R (.sl 63 q5)],[.str],.uniq,gy⟩
theorem adz:Sd 282 DT:=sf (F:=SS) (ek ⟨NX,uC,adR,ME,trivial⟩) Tryz.func282 λ a=>by kernel_rfl
def RZ:=fe [(282,DT),(167,NL),(153,cS),(32,KK)] []
def Df:PF:=⟨[R (.pair .i64 .i64),R q4,R .i64,R (.sl 63 q5)],[(.pair .str q4),.bool],.uniq,bM⟩
theorem acT:Sd 228 Df:=sf (F:=RZ) (ek ⟨adz,QY,mw,LF,trivial⟩) Tryz.func228 λ a=>by kernel_rfl
def Rc:=fe [(48,Z5),(178,NM),(222,tc),(226,tf),(227,th),(225,te),(229,Dg),(228,Df)] []
def CQ:PF:=⟨[R (.pair .i64 .i64),R q1],[(.pair .str q4),.bool],.uniq,f6⟩
theorem acu:Sd 183 CQ:=sf (F:=Rc) (ek ⟨Yw,QZ,FZ,F1,F2,F0,acU,acT,trivial⟩) Tryz.func183 λ a=>by kernel_rfl
def Re:=fe [(58,Z6),(48,Z5),(187,cV)] [(5,[.slot 9 .i64 (.imm false),.box 11 q1 (.own true),.box 17 q1 (.own true)])]
def CR:PF:=⟨[R (.pair .i64 .i64),R q1,R q2],[q1,.bool],.uniq,gT⟩
theorem acv:Sd 184 CR:=sf (F:=Re) (ek ⟨Yx,Yw,mA,trivial⟩) Tryz.func184 λ a=>by kernel_rfl
def O2:=fe [(183,CQ),(58,Z6),(184,CR),(171,sW)] []
def Co:PF:=⟨[R (.pair .i64 .i64),R q1],[q1,.i64],.shared,kc⟩
theorem ac3:Sd 120 Co:=sf (F:=O2) (ek ⟨acu,Yx,acv,FT,trivial⟩) Tryz.func120 λ a=>by kernel_rfl
def O3:=fe [(185,lp)] [(2,[.slot 6 .i64 (.imm false),.box 7 q1 (.own true)])]
def Cp:PF:=⟨[R (.pair .i64 .i64),R q1],[q1,.i64],.shared,ko⟩
theorem ac4:Sd 121 Cp:=sf (F:=O3) (ek ⟨uB,trivial⟩) Tryz.func121 λ a=>by kernel_rfl
def O4:=fe [(48,Z5),(58,Z6),(178,NM),(186,cU),(187,cV)] []
def Cq:PF:=⟨[R (.pair .i64 .i64),R q1],[q1,.bool],.uniq,gt⟩
theorem ac5:Sd 122 Cq:=sf (F:=O4) (ek ⟨Yw,Yx,QZ,mz,mA,trivial⟩) Tryz.func122 λ a=>by kernel_rfl
def O5:=fe [(110,cM),(91,c9)] []
def Cs:PF:=⟨[R Zu,R .i64],[Zu],.uniq,gh⟩
theorem ac6:Sd 123 Cs:=sf (F:=O5) (ek ⟨mp,mI,trivial⟩) Tryz.func123 λ a=>by kernel_rfl
def R8:=fe [] []
def Dm:PF:=⟨[],[q6],.uniq,pN⟩
theorem ad1:Sd 238 Dm:=sf (F:=R8) (ek trivial) Tryz.func238 λ a=>by kernel_rfl
def R9:=fe [(93,da),(95,tR),(94,lS),(88,QM)] []
def Dn:PF:=⟨[R (.pair .i64 .i64),R (.sl 5 .u8)],[q6,.bool],.uniq,gH⟩
theorem ad2:Sd 239 Dn:=sf (F:=R9) (ek ⟨mJ,GA,uZ,dD,trivial⟩) Tryz.func239 λ a=>by kernel_rfl
def Ri:=fe [(238,Dm),(155,sN),(239,Dn)] [(3,[.slot 7 .i64 (.imm false),.box 2 q6 (.own true),.box 4 q6 (.own true)])]
def CS:PF:=⟨[R (.pair .i64 .i64),R (.sl 5 .u8)],[q6,.i64],.uniq,gq⟩
theorem acw:Sd 188 CS:=sf (F:=Ri) (ek ⟨ad1,FM,ad2,trivial⟩) Tryz.func188 λ a=>by kernel_rfl
def O6:=fe [(48,Z5),(58,Z6),(188,CS)] []
def Ct:PF:=⟨[R (.pair .i64 .i64),R q1],[q1],.uniq,gF⟩
theorem ac7:Sd 124 Ct:=sf (F:=O6) (ek ⟨Yw,Yx,acw,trivial⟩) Tryz.func124 λ a=>by kernel_rfl
def TZ:=fe [(58,Z6),(120,Co),(121,Cp),(122,Cq),(123,Cs),(124,Ct),(117,sw)] []
def EA:PF:=⟨[R (.pair .i64 .i64),R q1,R q8],[q1,.i64],.shared,kp⟩
theorem s63:Sd 63 EA:=sf (F:=TZ) (ek ⟨Yx,ac3,ac4,ac5,ac6,ac7,Fv,trivial⟩) Tryz.func63 λ a=>by kernel_rfl
def SF:=fe [(22,cY),(47,Zj),(60,Ex),(26,QK),(61,Ey),(62,Ez),(63,EA)] []
def DH:PF:=⟨[R q3,R q8],[q3,.i64],.shared,gd⟩
theorem s27:Sd 27 DH:=sf (F:=SF) (ek ⟨mD,Zv,s60,dB,s61,s62,s63,trivial⟩) Tryz.func27 λ a=>by kernel_rfl
def F8:=fe [(26,QK),(22,cY),(27,DH)] [(6,[.slot 7 (.sl 3 .i64) (.own true),.slot 25 .i64 (.imm false),.box 11 q3 (.imm false)])]
def EF:PF:=⟨[R q3,R (.sl 67 q8)],[q3,(.sl 3 .i64)],.shared,ge⟩
theorem s8:Sd 8 EF:=sf (F:=F8) (ek ⟨dB,mD,s27,trivial⟩) Tryz.func8 λ a=>by kernel_rfl
def F3:=fe [(4,Er),(5,Et),(6,Ew),(7,tJ),(8,EF),(9,c8),(10,Ls),(11,su)] [(13,[.slot 12 .i64 (.imm false)]),(18,[.slot 14 (.sl 3 .i64) (.own true),.slot 15 .i64 (.imm false)])]
def pf3:PF:=⟨[R (.sl 5 .u8)],[.bool],.uniq,laws_FnCertified⟩
theorem s3:Sd 3 pf3:=sf (F:=F3) (ek ⟨s4,s5,s6,s7,s8,s9,MC,Ft,trivial⟩) Tryz.func3 λ a=>by kernel_rfl
end
end G448
