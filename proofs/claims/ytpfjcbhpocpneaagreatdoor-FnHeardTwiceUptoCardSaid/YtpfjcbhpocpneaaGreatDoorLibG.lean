/- The evaluator of the own library, part 7: its words, its soundness. Conditions: none of its own. -/
import Derived.Test.YtpfjcbhpocpneaaGreatDoorLibF
import Derived.Deep.Slices
import Derived.Carry
import Derived.ProofKit
import Derived.OpenShut
import Derived.JoinedCond
set_option linter.unusedSimpArgs false
set_option linter.unusedVariables false
namespace Ev
open Go
variable {H:Type} {enc:TypeId×Value->H} {P:Program} {w:World} {tys:List (Nat×TD)}
structure Meas (μ:DataW H->Nat):Prop where
 str:∀ b,b.length<=μ (.lit (.string b))
 sl:∀ el sp,el.length<=μ (.slice el sp)
 slp:∀ el sp,∀ d∈el,μ d<=μ (.slice el sp)
 agg:∀ ps,∀ d∈ps,μ d<=μ (.agg ps)
theorem TOk.cells {t:Nat} {d:TD} (h:TOk P tys t d) (ha:d.arr=none):P.cellsOf t=d.ty.size:=by
 obtain⟨i,hi,hc⟩:=h.info;unfold Md at hc;rw[ha] at hc;simp only[akK] at hc;simp only[Go.Program.cellsOf,hi,alo,ali];exact (zM _ _).1 hc.2.1
theorem Bg [Tags] {e:Ty} {arr:Array Value} {o len:Nat} (h:∀ i<len,∃ cs,(arr.toList.drop (o+i*e.size)).take e.size=cs/\∃ (v:den e) (fp:List Nat),Rd w e v cs fp):
  ∀ k,k<=len->∃ (xs:List (den e)) (fp:List Nat),xs.length=k/\RdL (Rd w e) xs (arr.toList.drop (o+(len - k)*e.size)) fp
 | 0,_=>⟨[],[],rfl,rfl⟩
 | k+1,hk=>by
  obtain⟨xs,fp,h1,h2⟩:=Bg h k (by omega);obtain⟨cs,hcs,v,fv,hv⟩:=h (len - (k+1)) (by omega);refine⟨v::xs,fv++fp,by simp[h1],cs,_,fv,fp,?_,rfl,hv,h2⟩;rw[←hcs];have e1:o+(len - k)*e.size=(o+(len - (k+1))*e.size)+e.size:=by
   have:len - k=(len - (k+1))+1:=by omega
   rw[this,alf]; omega
  rw[e1];generalize o+(len - (k+1))*e.size=m;rw[←alD,amf]
theorem Pi {a:Addr} {n:Nat} {cs:List Value} (h:w.cells? 0 a n=some cs) (hn:0<n):∃ arr T fr,w.heap[a.block]?=some (.cells arr T fr)/\a.spot=none:=by
 obtain⟨_,h1,h2⟩:=World.cells?_some h;have h3:=h2 0 hn;have:a.add 0=a:=by simp[Addr.add]
 rw[this] at h3;unfold World.cell? at h3;split at h3
 ·next arr T fr hb=>
  split at h3
  ·rw[alz (by omega)] at h3; cases h3
  ·next hs=>exact⟨arr,T,fr,hb,by simpa using hs⟩
 ·rw[alz (by omega)] at h3; cases h3
theorem Pj {a:Addr} {n i sz:Nat} {cs:List Value} {arr:Array Value} {T:TypeId} {fr:Nat×Nat} (h:w.cells? 0 (a.add i) sz=some cs) (hb:w.heap[a.block]?=some (.cells arr T fr)) (hs:a.spot=none) (hsz:0<sz):
  (arr.toList.drop (a.off+i)).take sz=cs:=by
 obtain⟨_,h1,h2⟩:=World.cells?_some h;have key:∀ j<sz,arr[a.off+i+j]?=cs[j]?:=by
  intro j hj;have h3:=h2 j hj;rw[Deep.add_add] at h3;unfold World.cell? at h3;have e1:(a.add (i+j)).block=a.block:=by unfold Addr.add; split<;>rfl
  have e2:(a.add (i+j)).spot=none:=by unfold Addr.add; split<;>simp[hs]
  have e3:(a.add (i+j)).off=a.off+(i+j):=by unfold Addr.add; split<;>simp_all
  rw[e1,hb] at h3;simp only[e2,e3,amw,al6,if_false] at h3;rw[←h3];congr 1;omega
 apply List.ext_getElem?;intro j;by_cases hj:j<sz
 ·rw[amG hj,am0,←key j hj,alF]
 ·rw[alb (by simp; omega),alb (by omega)]
def ah (P:Program) (fits:TypeId->Bool):Nat->TypeId->Bool
 | 0,_=>true
 | d+1,e => !fits e && (match P.underlying e with
  | some (.struct fs)=>fs.all λ f=>ah P fits d f.type
  | some (.array _ e')=>ah P fits d e'
  | _=>true)
theorem pL {fits:TypeId->Bool}:∀ (d e count off n:Nat),ah P fits d e=true->rowAt P fits d e count off n=false
 | 0,_,_,_,_,_=>rfl
 | d+1,e,count,off,n,h=>by
  simp only[ah,akK,ale] at h;obtain⟨h1,h2⟩:=h;unfold rowAt;simp only;split
  ·rfl
  ·simp only[h1,alC,ame,amM];right;split
   ·next fs hu=>
    rw[hu] at h2;simp only[amM];right;rw[Array.any_eq_false];intro i hi;have:=(Array.all_eq_true.1 h2) i hi;simp[pL d _ 1 _ n this]
   ·next m e' hu=>
    rw[hu] at h2;exact pL d e' m _ n h2
   ·rfl
def l6 (P:Program) (T E:Nat):Bool:=ah P (sameLayout P P.depth · E) P.depth T && (match P.underlying E with|some (.array _ _)=>false|_=>true)
theorem TM [Tags] {T E:Nat} (h:l6 P T E=true) (d c off n:Nat):liesAt P d T c off E n=false:=by
 simp only[l6,akK] at h;cases d with
 | zero=>rfl
 | succ d=>
  simp only[liesAt,pL _ _ _ _ _ h.1,ame];have:=h.2;split
  ·next hu=>rw[hu] at this; cases this
  ·rfl
end Ev
namespace Ev
open Go Go.ChangeShapes Go.WideShapes Go.RowKit
variable {H:Type} {enc:TypeId×Value->H} {P:Program} {w w':World} {tys:List (Nat×TD)}
theorem Ph {f:FuncId} {fn:Func} {args:Array Value} {R:Value->World->Prop} (hf:P.funcs[f]?=some fn) (hb:fn.body.isSome=true) (hn:(fn.name == "runtime.NumGoroutine")=false) (h:CallsTo P f args w R):
  Calls P f args w λ e w'=>∃ v,e=.returned v/\R v w':=by
 obtain⟨body,adm⟩:=Option.isSome_iff_exists.1 hb;have hcf:(callFunc f args).run P w=.ok (.enter f args) w:=by
  have hn':¬ fn.name = "runtime.NumGoroutine" := by simpa using hn
  simp[callFunc,hf,hn',adm]
 unfold CallsTo at h;rw[hcf] at h;refine Calls.mono h λ e w'' he => ?_;cases e with
 | returned v=>exact⟨v,rfl,he⟩
 | panicked _=>exact he.elim
 | outgrown=>exact he.elim
theorem UO [Tags] {n:Nat} {rr xo pt:List Nat} {v:Value} {b:Bool} (h:J8 w' n .uniq rr xo pt [.bool] v (b,())):v=.bool b:=by
 obtain⟨css,xs,fs,h1,h2,_⟩:=h;obtain⟨cs,css',x1,x2,f1,f2,rfl,_,_,h3,h4⟩:=h1;obtain⟨rfl,_,_⟩:=h4;have h5:RdO w' .bool b cs x1 f1:=h3;obtain⟨⟨rfl,_⟩,_,_⟩:=h5;rw[h2];rfl
theorem O3 [Tags] (hT:yj P tys=true) {μ:DataW H->Nat} (hμ:Meas μ) {r:Reach} {b0:Nat} {t:Nat} {d:TD} {v:Value} {dd:DataW H} {ps:List MemPlace} (hd:lk tys t=some d) {E:Nat} (hty:d.ty=.sl E .u8) (ha:d.arr=none)
  (hval:Value.okWide P w r b0 t v) (h:DataW.Trod enc P w 0 (λ _=>true) true t v dd ps) (hb:μ dd<=1048576) (hap:l6 P Tags.post E=true):
  ∃ (x:den d.ty) (cs:List Value) (fp:List Nat),v=yl d.ty cs/\Rd w d.ty x cs fp:=by
 have hne:E≠Tags.post:=λ k=>absurd ((Ls hT hd).1 hty k) (by decide);have ht:=z7 hT hd;obtain⟨hu,de,hde,hdt,hda⟩:=ht.slice hty ha;rw[hty];obtain⟨n,hn⟩:=h;obtain⟨a,l,c,rfl⟩:=okWide_slice hu hval;have hcs:(Value.slice a l c).cells.toList=[.slice a l c]:=rfl;rw[hcs] at hn;cases n with
 | zero=>simp[DataW.trod] at hn
 | succ n=>
  rcases DataW.trod_slice hu hn with⟨h1,hx⟩|⟨a',len,cap,elems,rest,n',hn',h1,hx,hb0,hl,hm,ac1,hel,_⟩
  ·exact⟨[],[.slice a l c],[],rfl,_,_,_,rfl,by simp at h1; exact h1.2.1,by simp at h1; omega,by simp at h1; omega,.inl ⟨rfl,rfl,λ k=>absurd k hne⟩⟩
  ·cases hn';simp only[alc,Value.slice.injEq,and_true] at h1;obtain⟨rfl,rfl,rfl⟩:=h1;have hdd:=congrArg Prod.fst hx;simp only at hdd;rw[hdd] at hb;have hlb:=hμ.sl (elems.map (·.1)) (rest.map (·.1));rw[alA,ac1] at hlb;rcases Nat.eq_zero_or_pos l with h0|aft
   ·subst h0;exact⟨[],_,[],rfl,_,_,_,rfl,rfl,hl,by simp,.inl ⟨rfl,rfl,λ k=>absurd k hne⟩⟩
   ·have hsz:P.cellsOf E=1:=by rw[(z7 hT hde).cells hda,hdt]; rfl
    have aeb:∀ i<l,∃ cs',w.cells? 0 (a'.add (i*P.cellsOf E)) (P.cellsOf E)=some cs'/\∃ y,DataW.trod enc P w 0 (λ _=>true) true n E cs'=some y:=by
     intro i hi;have:=hel i hi;rw[alz (by omega)] at this;obtain⟨cs',h1,h2⟩:=Option.bind_eq_some_iff.1 this;exact⟨cs',h1,_,h2⟩
    obtain⟨cs0,hc0,_⟩:=aeb 0 aft;rw[Nat.zero_mul,show a'.add 0=a' by simp[Addr.add]] at hc0;obtain⟨arr,T,fr,ae7,ah0⟩:=Pi hc0 (by omega);have hE:∀ i<l,∃ cs,(arr.toList.drop (a'.off+i*Ty.u8.size)).take Ty.u8.size=cs/\∃ (v:den .u8) (fp:List Nat),Rd w .u8 v cs fp:=by
     intro i hi;obtain⟨cs',h1,y,h2⟩:=aeb i hi;rw[hsz] at h1;refine⟨cs',Pj (n:=0) h1 ae7 ah0 (by decide),?_⟩;cases n with
     | zero=>simp[DataW.trod] at h2
     | succ n=>
      obtain⟨m,hm1,hm2,hw⟩:=DataW.trod_int ((z7 hT hde).u8 hdt hda) h2;have hm:0<=m/\m<=255:=by simpa[Lit.wf,IntKind.min,IntKind.max,IntKind.signed,IntKind.bits] using hw
      refine⟨UInt8.ofNat m.toNat,[],?_,rfl⟩;have:((UInt8.ofNat m.toNat).toNat:Int)=m:=by
       rw[UInt8.toNat_ofNat',aml (by simp; omega)]
       omega
      rw[this];exact hm1
    obtain⟨xs,fp,hx1,hx2⟩:=Bg hE l (Nat.le_refl _);rw[Nat.sub_self,ama,alJ] at hx2;obtain⟨ab,ao,asp⟩:=a';simp only at ah0 ae7 hx2;subst ah0;have hT':T≠Tags.post:=by
     intro k;have h3:Cell.ok P w r b0 t (.slice (some ⟨ab,ao,none⟩) l c):=by
      simp only[Value.okWide,Cell.okWide,hu] at hval;exact hval
     simp only[Cell.ok,hu] at h3;obtain⟨_,_,_,_,row,cells,h4,h5⟩:=h3;simp only[World.shape?,ae7,akL,akS] at h4;rw[←h4.1,k,TM hap] at h5;cases h5
    exact⟨xs,_,ab::fp,rfl,some ⟨ab,ao,none⟩,l,c,rfl,hx1.symm,hl,by omega,.inr ⟨ab,ao,arr,T,fr,fp,rfl,ae7,rfl,hx2,⟨λ k=>absurd k hT',λ k=>absurd k hne⟩,λ k=>absurd k hne⟩⟩
theorem SK {may:MemPlace->Prop} (h:Below w.heap.size w w'):w.keptBut w' may:=by
 refine⟨h.os,h.output,λ i hi => ?_⟩;rw[h.block i hi];split
 ·next h1 h2=>rw[h1] at h2; cases h2; exact⟨rfl,rfl,rfl,λ _ _=>rfl⟩
 ·next h1 h2=>rw[h1] at h2; cases h2; exact .inr ⟨rfl,rfl⟩
 ·rfl
theorem UA [Tags] {f:Func} {s:ChangeSpec} {args:Array Value} {v:Value} {ds:List (DataW H)} {before:List MemPlace} (hsv:s.vars=[])
  (hW:DataW.Whole enc P f.params.toList s.vars false w args.toList ds [] before)
  (ae1:∀ (b:Nat) (sp:Nat->Bool),DataW.TrodAll enc P w' b sp false f.resultTypes.toList (v.resultList f.resultTypes.size) (s.fn H (ds++[])).results [])
  (hargs:DataW.TrodAll enc P w' 0 (λ b=>decide (b<w.heap.size)) true f.params.toList args.toList (s.fn H (ds++[])).args before)
  (hv:(s.fn H (ds++[])).vars=[]) (hk:Below w.heap.size w w'):s.post enc P f false true false false w args v w':=by
 refine⟨ds,[],before,[],before,[],hW,ae1 _ _,hargs,?_,SK hk,λ h=>by cases h⟩;rw[hsv,hv];rfl
end Ev
namespace Ev
open Go
variable {P:Program} {gl:Glob}
def AllS [Tags] (P:Program) (gl:Glob):List (Nat×PF)->Prop
 | []=>True
 | [x]=>Sound P gl x.1 x.2/\True
 | x::y::r=>Sound P gl x.1 x.2/\AllS P gl (y::r)
def AllN [Tags] (P:Program) (gl:Glob):List (Nat×NF)->Prop
 | []=>True
 | [x]=>KY P gl x.1 x.2/\True
 | x::y::r=>KY P gl x.1 x.2/\AllN P gl (y::r)
theorem AllS.mem [Tags]:∀ {l:List (Nat×PF)},AllS P gl l->∀ x∈l,Sound P gl x.1 x.2
 | [],_,_,hx=>by simp at hx
 | [x],h,y,hy=>by
  have:y=x:=by simpa using hy
  subst this;exact h.1
 | x::z::r,h,y,hy=>by
  rcases List.mem_cons.1 hy with rfl|hy
  ·exact h.1
  ·exact AllS.mem h.2 y hy
theorem AllN.mem [Tags]:∀ {l:List (Nat×NF)},AllN P gl l->∀ x∈l,KY P gl x.1 x.2
 | [],_,_,hx=>by simp at hx
 | [x],h,y,hy=>by
  have:y=x:=by simpa using hy
  subst this;exact h.1
 | x::z::r,h,y,hy=>by
  rcases List.mem_cons.1 hy with rfl|hy
  ·exact h.1
  ·exact AllN.mem h.2 y hy
def AllM [Tags] (P:Program) (gl:Glob):List (Nat×MF)->Prop
 | []=>True
 | [x]=>cF P gl x.1 x.2
 | x::r=>cF P gl x.1 x.2/\AllM P gl r
theorem AllM.mem [Tags]:∀ {l:List (Nat×MF)},AllM P gl l->∀ x∈l,cF P gl x.1 x.2
 | [],_,_,hx=>by simp at hx
 | [x],h,y,hy=>by
  have:y=x:=by simpa using hy
  subst this;exact h
 | x::z::r,h,y,hy=>by
  rcases List.mem_cons.1 hy with rfl|hy
  ·exact h.1
  ·exact AllM.mem h.2 y hy
def AllC [Tags] (P:Program) (gl:Glob):List (Nat×PF)->Prop
 | []=>True
 | [x]=>J9 P gl x.1 x.2
 | x::r=>J9 P gl x.1 x.2/\AllC P gl r
theorem AllC.mem [Tags]:∀ {l:List (Nat×PF)},AllC P gl l->∀ x∈l,J9 P gl x.1 x.2
 | [],_,_,hx=>by simp at hx
 | [x],h,y,hy=>by
  have:y=x:=by simpa using hy
  subst this;exact h
 | x::z::r,h,y,hy=>by
  rcases List.mem_cons.1 hy with rfl|hy
  ·exact h.1
  ·exact AllC.mem h.2 y hy
def AllJ [Tags] (P:Program) (gl:Glob):List (Nat×PF)->Prop
 | []=>True
 | [x]=>KX P gl x.1 x.2
 | x::r=>KX P gl x.1 x.2/\AllJ P gl r
theorem AllJ.mem [Tags]:∀ {l:List (Nat×PF)},AllJ P gl l->∀ x∈l,KX P gl x.1 x.2
 | [],_,_,hx=>by simp at hx
 | [x],h,y,hy=>by
  have:y=x:=by simpa using hy
  subst this;exact h
 | x::z::r,h,y,hy=>by
  rcases List.mem_cons.1 hy with rfl|hy
  ·exact h.1
  ·exact AllJ.mem h.2 y hy
theorem Rm [Tags] {tys:List (Nat×TD)} {eqs:List Nat} {fns:List (Nat×PF)} {news:List (Nat×NF)} {muts:List (Nat×MF)} {frz hold:Bool} {conds joins alts:List (Nat×PF)} {thaws:List (Nat×Nat)} (hm:P.follows .mixedOrders=true) (hT:yj P tys=true) (hQ:eqs.all (LX P tys)=true)
  (h:AllS P gl fns) (h2:AllN P gl news) (h3:AllM P gl muts) (h4:AllC P gl conds) (h5:AllJ P gl joins) (h6:AllS P gl alts):jY P gl ⟨tys,fns,eqs,news,muts,frz,conds,joins,alts,hold,thaws⟩:=
 ⟨hm,hT,hQ,λ f pf hl=>h.mem _ (Km hl),λ f nf hl=>h2.mem _ (Km hl),λ f mf hl=>h3.mem _ (Km hl),λ f cf hl=>h4.mem _ (Km hl),λ f cf hl=>h5.mem _ (Km hl),λ f qf hl=>h6.mem _ (Km hl)⟩
noncomputable section
def ZM:List (Nat×Ent)->List Nat
 | []=>[]
 | (id,.arr (.own _) _ _ _ _)::r=>id::ZM r
 | _::r=>ZM r
def fO (lend:List Nat) (lvl id:Nat):Option Ent->Option Ent
 | some (.box l c)=>some (.box l c)
 | some (.arr (.own true) l E e xs)=>some (.arr (.own true) l E e xs)
 | some (.arr (.imm false) l E e xs)=>match lend.elem id with
  | true=>some (.arr (.own false) lvl E e xs)
  | false=>none
 | _=>none
def N9 (lend:List Nat) (lvl:Nat) (tab:List (Nat×Ent)):List (Nat×Ent)->List (Nat×Ent)
 | []=>[]
 | (id,_)::r=>match fO lend lvl id (look tab id) with
  | some e=>(id,e)::N9 lend lvl tab r
  | none=>N9 lend lvl tab r
def pD (lend:List Nat) (st:St):St:={ st with tab:=N9 lend st.lvl st.tab st.tab }
def NY (rets:List Ty):(ps:List (PK×Ty))->dens rets->Option (zN ps rets)
 | [],v=>some v
 | (.rd,_)::ps,v=>NY rets ps v
 | (.own,_)::ps,v=>NY rets ps v
 | (.ptr,_)::_,_=>none
 | (.cap,_)::_,_=>none
 | (.clo _,_)::_,_=>none
def cX (F:yZ) (fn:Func) (ps:List (PK×Ty)) (rets:List Ty) (rk:RK) (lend:List Nat) (st:St):Option (zN ps rets):=
 match YU F.E st rets fn.results.toList with
 | none=>none
 | some (rs,_)=>match ZJ rets rs with
  | none=>none
  | some b=>bif b
   then (match YU F.E (pD lend st) rets fn.results.toList with
    | none=>none
    | some (rs2,ls)=>match qb (pD lend st) ls rk && !(match rk with | .shared=>true|_=>false) with
     | true=>NY rets ps rs2
     | false=>none)
   else NY rets ps rs
def UQ:Ent->Bool
 | .arr (.imm false) _ _ _ _=>true
 | .arr (.own false) lvl _ _ _=>Nat.beq lvl 0
 | _=>false
def TI:Option Ent->Bool
 | some (.arr (.own false) lvl _ _ _)=>Nat.beq lvl 0
 | _=>false
def Bq (es:List (Nat×Ent)):Bool:=es.all (λ p=>UQ p.2) && (ZM es).all (λ id=>TI (look es id))
def cU (F:yZ) (fn:Func) (ps:List (PK×Ty)) (rets:List Ty) (rk:RK) (args:zW ps):Option (zN ps rets):=
 match fn.body,y0 ps args 0 with
 | some body,some (avs,es,j)=>match Bq es with
  | false=>none
  | true=>jv F body { slots:=avs++List.replicate (fn.ntmps - avs.length) (.tup []),tab:=ZZ (ZM es) es,nxt:=j,lvl:=1 } λ x st=>
   match x with
   | .exit _=>none
   | .normal=>cX F fn ps rets rk (ZM es) st
   | .ret=>cX F fn ps rets rk (ZM es) st
 | _,_=>none
end
variable {P:Program} {a:Act} {w w':World} {E:Env} {B:Nat} {X:List Nat} {A:Ctx} {w0:World} {γ:Nat->Own} {loc:Nat->Value} {st:St}
theorem wh:∀ {es:List (Nat×Ent)} {id:Nat} {u:Bool} {lvl E:Nat} {e:Ty} {xs:List (den e)},look es id=some (.arr (.own u) lvl E e xs)->id∈ZM es
 | [],id,u,lvl,E,e,xs,h=>by simp[look] at h
 | (i,x)::r,id,u,lvl,E,e,xs,h=>by
  rw[yO] at h;split at h
  ·next hi=>
   cases h;subst hi;simp[ZM]
  ·have:=wh h;cases x with
   | box l c=>exact this
   | cst c=>exact this
   | arr k l E' e' xs'=>cases k<;>simp[ZM,this]
theorem nC {tab:List (Nat×Ent)} {i:Nat} {u:Bool} {l E:Nat} {e:Ty} {xs:List (den e)} (h:look tab i=some (.arr (.own u) l E e xs)) (id:Nat):
  look (ym tab i (.arr (.imm false) l E e xs)) id=if id=i then some (.arr (.imm false) l E e xs) else look tab id:=by
 rw[Zr];split
 ·rw[h]; rfl
 ·rfl
theorem ae [Tags]:∀ (l:List Nat) (tab:List (Nat×Ent)) (id:Nat) (e:Ent),look (ZZ l tab) id=some e->
  (look tab id=some e/\(id∈l->∀ u lvl E e' xs,e ≠ .arr (.own u) lvl E e' xs))∨(id∈l/\∃ u lvl E e' xs,look tab id=some (.arr (.own u) lvl E e' xs)/\e=.arr (.imm false) lvl E e' xs)
 | [],tab,id,e,h=>.inl ⟨h,by simp⟩
 | i::r,tab,id,e,h=>by
  simp only[ZZ] at h;split at h
  ·next u lvl E e' xs hl=>
   rcases ae r _ id e h with⟨h1,h2⟩|⟨h1,u',lvl',E',e'',xs',h2,h3⟩
   ·rw[nC hl] at h1;split at h1
    ·next hi=>
     cases h1;subst hi;exact .inr ⟨by simp,u,lvl,E,e',xs,hl,rfl⟩
    ·next hi=>
     refine .inl ⟨h1,λ hm => ?_⟩;rcases List.mem_cons.1 hm with rfl|hm
     ·exact absurd rfl hi
     ·exact h2 hm
   ·rw[nC hl] at h2;split at h2
    ·cases h2
    ·exact .inr ⟨by simp[h1],u',lvl',E',e'',xs',h2,h3⟩
  ·next hno=>
   rcases ae r _ id e h with⟨h1,h2⟩|⟨h1,u',lvl',E',e'',xs',h2,h3⟩
   ·refine .inl ⟨h1,λ hm => ?_⟩;rcases List.mem_cons.1 hm with rfl|hm
    ·intro u lvl E e' xs he;subst he;exact hno u lvl E e' xs h1
    ·exact h2 hm
   ·exact .inr ⟨by simp[h1],u',lvl',E',e'',xs',h2,h3⟩
theorem mH [Tags]:∀ (l:List Nat) (tab:List (Nat×Ent)) (id:Nat),(look (ZZ l tab) id).isSome=(look tab id).isSome
 | [],tab,id=>rfl
 | i::r,tab,id=>by
  simp only[ZZ];split
  ·next u lvl E e' xs hl=>
   rw[mH r,nC hl];split
   ·next hi=>subst hi; rw[hl]; rfl
   ·rfl
  ·exact mH r tab id
theorem eB (lend:List Nat) (lvl:Nat) (tab:List (Nat×Ent)):∀ (keys:List (Nat×Ent)) (id:Nat) (e:Ent),look (N9 lend lvl tab keys) id=some e->fO lend lvl id (look tab id)=some e
 | [],id,e,h=>by simp[N9,look] at h
 | (i,x)::r,id,e,h=>by
  simp only[N9] at h;split at h
  ·next e' he=>
   rw[yO] at h;split at h
   ·next hi=>cases h; subst hi; exact he
   ·exact eB lend lvl tab r id e h
  ·exact eB lend lvl tab r id e h
theorem l9 [Tags]:∀ {ps:List (PK×Ty)} {vs:zW ps} {vals:List Value} {r rp rc xo xp:List Nat},ArgsOk w ps vs vals r rp rc xo xp->(ps.all λ p=>p.1.isRo)=true->rp=[]/\rc=[]/\xp=[]
 | [],vs,vals,r,rp,rc,xo,xp,h,_=>⟨h.2.2.1,h.2.2.2.1,h.2.2.2.2.2⟩
 | (.rd,t)::ps,vs,vals,r,rp,rc,xo,xp,h,hp=>by
  simp only[alg,akK] at hp;obtain⟨cs,vs',fp,r',_,_,_,h'⟩:=h;exact l9 h' hp.2
 | (.own,t)::ps,vs,vals,r,rp,rc,xo,xp,h,hp=>by
  simp only[alg,akK] at hp;obtain⟨cs,vs',xs,fs,r',xo',_,_,_,_,h'⟩:=h;exact l9 h' hp.2
 | (.ptr,t)::ps,vs,vals,r,rp,rc,xo,xp,h,hp=>by simp[PK.isRo] at hp
 | (.cap,t)::ps,vs,vals,r,rp,rc,xo,xp,h,hp=>by simp[PK.isRo] at hp
 | (.clo f,t)::ps,vs,vals,r,rp,rc,xo,xp,h,hp=>by simp[PK.isRo] at hp
theorem eS {rets:List Ty}:∀ {ps:List (PK×Ty)} {v:dens rets} {o:zN ps rets},NY rets ps v=some o->jO rets ps o=v
 | [],v,o,h=>by
  have h:v=o:=Option.some.inj h;rw[←h]; rfl
 | (.rd,_)::ps,v,o,h=>eS (ps:=ps) h
 | (.own,_)::ps,v,o,h=>eS (ps:=ps) h
 | (.ptr,_)::ps,v,o,h=>by cases h
 | (.cap,_)::ps,v,o,h=>by cases h
 | (.clo _,_)::ps,v,o,h=>by cases h
theorem nU [Tags] {w0 w:World} {n:Nat} {rk:RK} {rr xo pt:List Nat} {rets:List Ty} {v:Value}:∀ {ps:List (PK×Ty)} {x:dens rets} {o:zN ps rets},NY rets ps x=some o->J8 w n rk rr xo pt rets v x->OutOk w0 w n rk rr xo pt rets v ps o []
 | [],x,o,h,hR=>by
  have h:x=o:=Option.some.inj h;subst h;exact⟨rfl,hR⟩
 | (.rd,_)::ps,x,o,h,hR=>nU (ps:=ps) h hR
 | (.own,_)::ps,x,o,h,hR=>nU (ps:=ps) h hR
 | (.ptr,_)::ps,x,o,h,hR=>by cases h
 | (.cap,_)::ps,x,o,h,hR=>by cases h
 | (.clo _,_)::ps,x,o,h,hR=>by cases h
theorem nw [Tags] {w:World}:∀ {ts:List Ty} {v:dens ts} {css:List (List Value)} {fs:List Nat} {b:Bool},RetL w .shared ts v css [] fs->ZJ ts v=some b->Nd b ts css
 | [],v,css,fs,b,h,hb=>by simp[ZJ] at hb
 | [t],v,css,fs,b,h,hb=>by
  obtain⟨cs,css',x1,x2,f1,f2,rfl,hx,rfl,h1,h2⟩:=h;cases t with
  | bool=>
   simp only[ZJ,akL] at hb;have hc:cs=[.bool v.1]:=h1.2.1;rw[h2.1];show yl .bool cs=.bool b;rw[hc,←hb];rfl
  | _=>simp[ZJ] at hb
 | t::u::ts,v,css,fs,b,h,hb=>by
  obtain⟨cs,css',x1,x2,f1,f2,rfl,hx,rfl,h1,h2⟩:=h;have hb':ZJ (u::ts) v.2=some b:=by
   cases t<;>exact hb
  have hx2:x2=[]:=(List.append_eq_nil_iff.1 hx.symm).2;subst hx2;exact⟨h1.2.len,h1.2.one,nw h2 hb'⟩
theorem vD:∀ {ts:List Ty} {v:dens ts} {b:Bool},ZJ ts v=some b->∀ v':dens ts,∃ b',ZJ ts v'=some b'
 | [],v,b,h,v'=>by simp[ZJ] at h
 | [t],v,b,h,v'=>by
  cases t with
  | bool=>exact⟨v'.1,rfl⟩
  | _=>simp[ZJ] at h
 | t::u::ts,v,b,h,v'=>by
  have hb':ZJ (u::ts) v.2=some b:=by
   cases t<;>exact h
  obtain⟨b',h'⟩:=vD hb' v'.2;exact⟨b',by cases t<;>exact h'⟩
theorem pH [Tags] {rk:RK} (hrk:rk ≠ .shared):∀ {ts:List Ty} {v:dens ts} {css:List (List Value)} {xs fs:List Nat},RetL w rk ts v css xs fs->∃ fs',RetL w .shared ts v css [] fs'
 | [],v,css,xs,fs,h=>⟨[],h.1,rfl,rfl⟩
 | t::ts,v,css,xs,fs,h=>by
  obtain⟨cs,css',x1,x2,f1,f2,rfl,rfl,rfl,h1,h2⟩:=h;obtain⟨fs',h2'⟩:=pH hrk h2;have h1':RdO w t v.1 cs x1 f1:=by
   cases rk with
   | shared=>exact absurd rfl hrk
   | own=>exact h1
   | uniq=>exact h1
  obtain⟨fp,hrd,_⟩:=h1'.rd;exact⟨fp++fs',cs,css',[],[],fp,fs',rfl,rfl,rfl,⟨rfl,hrd⟩,h2'⟩
theorem UM {fn:List ResultVar} {tmps:Array Value}:∀ {us vs:List Value},All2 (λ x v=>(YV tmps x).run P w=.ok v w) fn us->All2 (λ x v=>(YV tmps x).run P w=.ok v w) fn vs->us=vs:=by
 induction fn with
 | nil=>intro us vs h1 h2; cases us<;>cases vs<;>first|rfl|exact h1.elim|exact h2.elim
 | cons x r ih=>
  intro us vs h1 h2
  match us,vs,h1,h2 with
  | u::us,v::vs,h1,h2=>
   have e:=h1.1.symm.trans h2.1;cases e;rw[ih h1.2 h2.2]
theorem CY [Tags] {F:yZ} {gl:Glob} (hE:jY P gl F.E) {f:FuncId} {fn:Func} (hf:P.funcs[f]?=some fn) (hn:(fn.name == "runtime.NumGoroutine")=false) {pf:PF} (hro:(pf.params.all λ p=>p.1.isRo)=true)
  (hev:∀ args outs,pf.fn args=some outs->cU F fn pf.params pf.rets pf.rk args=some outs) (hTw:F.E.thaws=[]:=by rfl):J9 P gl f pf:=by
 constructor;intro w args vals r rp rc xo xp outs hA hnd ad0 hG hgb hout;have hout:=hev _ _ hout;obtain⟨rfl,rfl,rfl⟩:=l9 hA hro;unfold cU at hout;split at hout
 ·next body avs es j adm adv=>
  split at hout
  ·cases hout
  ·next htab=>
  have hcf:(callFunc f vals.toArray).run P w=.ok (.enter f vals.toArray) w:=by
   have hn':¬ fn.name = "runtime.NumGoroutine" := by simpa using hn
   simp[callFunc,hf,hn',adm]
  unfold CallsTo;rw[hcf];simp only;refine calls_of_wp hf adm ?_;unfold Bq at htab;rw[akK,List.all_eq_true,List.all_eq_true] at htab;obtain⟨ajW,ajX⟩:=htab;have ahB:∀ {id},id∈ZM es->∃ E e xs,look es id=some (.arr (.own false) 0 E e xs):=by
   intro id hid;have h:=ajX id hid;cases he:look es id with
   | none=>rw[he] at h; cases h
   | some x=>
    rw[he] at h
    match x,h with
    | .arr (.own false) lvl E e xs,h=>
     have:lvl=0:=Nat.eq_of_beq_eq_true h;subst this;exact⟨E,e,xs,rfl⟩
  let γ0:Nat->Own:=λ b=>open Classical in if b∈r∨b∈([]:List Nat)∨b∈([]:List Nat) then .persist else .alien
  obtain⟨loc,γ,hEn⟩:=K7 pf.params args 0 vals r [] [] xo [] avs es j (λ _=>undef) γ0 hA adv hnd ad0 (λ b hb=>by simp only[γ0,if_pos hb]) (λ b hb=>by
   have:=ad0 b (by rcases hb with h|h; exact List.mem_append_left _ h; simp at h)
   simp only[γ0,this.1,this.2.1,or_self,if_false])
  have ai8:∀ b∈xo,b<w.heap.size:=λ b hb=>by
   have:=hA.lt;first|exact this.2.2.2.1 b hb|exact this.2.2.1 b hb|exact this.2.1 b hb|exact this.1 b hb
  have akB:∀ b∈r,b<w.heap.size:=λ b hb=>by
   have:=hA.lt;first|exact this.1 b hb|exact this.2.1 b hb
  have hg0:∀ b,b∉xo->γ b=.persist/\b∈r∨γ b=.alien/\b∉r:=by
   intro b hb;rw[hEn.own b hb (by simp)];by_cases hm:b∈r
   ·left; simp[γ0,hm]
   ·right; simp[γ0,hm]
  have ai5:∀ b i,γ b=.top i->b∈xo:=by
   intro b i h;by_cases hb:b∈xo
   ·exact hb
   ·rcases hg0 b hb with⟨e,_⟩|⟨e,_⟩<;>rw[e] at h<;>cases h
  let γr:Nat->Own:=λ b=>open Classical in if b∈xo then .persist else γ b
  let A:Ctx:={ rds:=xo++r,pins:=(List.range j).map λ i=>(i,loc i),gl:=gl }
  have acu:Rel w.heap.size [] A w { slots:=avs++List.replicate (fn.ntmps - avs.length) (.tup []),tab:=ZZ (ZM es) es,nxt:=j,lvl:=1 }
    { tmps:=vals.toArray++Array.replicate (fn.ntmps - vals.toArray.size) undef,defers:=[]} w:=by
   refine⟨γr,loc,?_⟩;have ahV:∀ b,γ b=.persist->γr b=.persist:=λ b hb=>by
    by_cases h:b∈xo<;>simp[γr,h,hb]
   exact {
    defers:=rfl
    keeps:=KeepsW.refl _ _ _
    unf:=λ b hb=>by
     by_cases h1:b∈xo
     ·simp[γr,h1,owned] at hb
     ·rcases hg0 b h1 with⟨e,_⟩|⟨e,_⟩<;>simp[γr,h1,e,owned] at hb
    old:=λ b hb hx=>by
     by_cases h1:b∈xo
     ·right; simp[γr,h1,A]
     ·rcases hg0 b h1 with⟨e,hm⟩|⟨e,hm⟩
      ·right; simp[γr,h1,e,A,hm]
      ·left; simp[γr,h1,e]
    Ble:=Nat.le_refl _
    size:=by have:=hEn.vals.len; simp[this]
    slots:=λ t v hv=>(Nr hEn.vals hEn.lts t v hv).1
    ents:=λ id e he=>by
     rcases ae _ _ _ _ he with⟨h1,h2⟩|⟨h1,u,lvl,E,e',xs,h2,rfl⟩
     ·have hro:=ajW _ (nD h1);have hok:=(hEn.ents id e h1).1
      match e,hro,h1,h2,hok with
      | .arr (.imm false) _ E e xs,_,_,_,hok=>
       obtain⟨fp,k1,k2⟩:=hok;refine⟨fp,k1,λ b hb=>.inl (ahV b ?_)⟩;rcases k2 b hb with h|⟨h,_⟩
       ·exact h
       ·cases h
      | .arr (.own false) lvl E e xs,_,h1,h2,_=>exact absurd rfl (h2 (wh h1) false lvl E e xs)
     ·have hok:=(hEn.ents id _ h2).1;obtain⟨E0,e0,x0,h3⟩:=ahB h1;rw[h3] at h2;cases h2;obtain⟨ys,fs,k1,k2,k3⟩:=hok;obtain⟨fp,k4,k5⟩:=k1.rd;refine⟨fp,k4,λ b hb=>.inl ?_⟩;rcases k5 b hb with h|h
      ·have:=ai5 b _ (k2 b h);simp[γr,this]
      ·exact ahV b (k3 b h)
    slt:=λ t v hv=>(Nr hEn.vals hEn.lts t v hv).2
    elt:=λ id e he=>by
     rcases ae _ _ _ _ he with⟨h1,h2⟩|⟨h1,u,lvl,E,e',xs,h2,rfl⟩
     ·exact⟨(hEn.ents id e h1).2.2.2,(hEn.ents id e h1).2.2.1⟩
     ·exact⟨trivial,(hEn.ents id _ h2).2.2.1⟩
    pins:=λ p hp=>by
     obtain⟨i,hi,rfl⟩:=List.mem_map.1 hp;exact⟨List.mem_range.1 hi,rfl⟩
    dlab:=by simp[A]
    glob:=⟨hG,λ b hb=>⟨(hgb b hb).1,by simp⟩,Nat.le_refl _,by simp⟩
    rtag:=by intro h; cases h
    dpc:=by simp[A]}
  refine KF hE ⟨rfl,rfl⟩ (.inl hTw) body _ _ _ w _ hout acu ?_;intro x st' hk hp a' w' hr';have adE:cX F fn pf.params pf.rets pf.rk (ZM es) st'=some outs->a'.defers=[]/\∃ v,(results fn a'.tmps).run P w'=.ok v w'/\(KeepsW w.heap.size [] w w'/\∃ css b,v=Z7 (Zm pf.rets css)/\Nd b pf.rets css/\
    ZJ pf.rets (jO pf.rets pf.params outs)=some b/\(b=true->∃ pt,OutOk w w' w.heap.size pf.rk (r++[]++[]) xo pt pf.rets v pf.params outs [])):=by
   intro hk;obtain⟨γ',loc',hr'⟩:=hr';unfold cX at hk;split at hk
   ·cases hk
   ·next rs ls0 ae1=>
    split at hk
    ·cases hk
    ·next b aeA=>
     refine⟨hr'.defers,?_⟩;obtain⟨css,fs0,k1,k2,_⟩:=pF hE.tys hr' _ _ _ _ ae1;have afy:=nw k1 aeA;refine⟨_,bg k2,hr'.keeps,css,b,rfl,afy,?_⟩;cases b with
     | false=>
      simp only[akI] at hk;exact⟨by rw[eS hk]; exact aeA,λ h=>by cases h⟩
     | true=>
      simp only[akJ] at hk;split at hk
      ·cases hk
      ·next rs2 ls ai1=>
       split at hk
       ·next hok=>
        rw[akK] at hok
        let γ2:Nat->Own:=λ b=>open Classical in if b∈xo then γ b else if b<w.heap.size/\b∈r then .persist else γ' b
        have hold:∀ b,b<w.heap.size->γ' b=.alien∨(γ' b=.persist/\(b∈xo∨b∈r)):=λ b hb=>by
         rcases hr'.old b hb (by simp) with h|⟨h1,h2⟩
         ·exact .inl h
         ·exact .inr ⟨h1,by simpa[A] using h2⟩
        have acy:∀ b,(∃ i,γ' b=.top i)∨(∃ i,γ' b=.deep i)->γ2 b=γ' b/\w.heap.size<=b:=by
         intro b hb;have hge:w.heap.size<=b:=by
          rcases Nat.lt_or_ge b w.heap.size with h|h
          ·exfalso;rcases hold b h with e|⟨e,_⟩<;>rcases hb with⟨i,e'⟩|⟨i,e'⟩<;>rw[e] at e'<;>cases e'
          ·exact h
         have h1:b∉xo:=λ h=>by have:=ai8 b h; omega
         refine⟨?_,hge⟩;simp only[γ2,if_neg h1];rw[if_neg (by omega)]
        have ae7:∀ b,b<w.heap.size->w'.heap[b]?=w.heap[b]?:=λ b hb=>hr'.keeps.block b hb (by simp);have hr2:Rel0 w.heap.size xo { rds:=r,pins:=[],gl:=gl } w γ2 loc' (pD (ZM es) st') a' w':={
         defers:=hr'.defers
         keeps:=⟨hr'.keeps.os,hr'.keeps.tape,hr'.keeps.output,hr'.keeps.size,λ k hk _=>hr'.keeps.block k hk (by simp),hr'.keeps.free,hr'.keeps.shape⟩
         unf:=λ b hb=>by
          by_cases h1:b∈xo
          ·exact (hA.unfr b (by simp[h1])).congr (ae7 b (ai8 b h1))
          ·by_cases h2:b<w.heap.size/\b∈r
           ·simp[γ2,h1,h2,owned] at hb
           ·simp only[γ2,if_neg h1,if_neg h2] at hb;exact hr'.unf b hb
         old:=λ b hb hx=>by
          by_cases h2:b∈r
          ·right; simp[γ2,hx,hb,h2]
          ·simp only[γ2,if_neg hx,h2,and_false,if_false];rcases hold b hb with h|⟨h,h3⟩
           ·exact .inl h
           ·rcases h3 with h3|h3
            ·exact absurd h3 hx
            ·exact absurd h3 h2
         Ble:=hr'.Ble
         size:=hr'.size
         slots:=hr'.slots
         ents:=λ id e he=>by
          have he:=eB _ _ _ _ _ _ he;cases hl:look st'.tab id with
          | none=>rw[hl] at he; cases he
          | some x=>
           have aeY:=hr'.ents id x hl;rw[hl] at he
           match x,he,hl,aeY with
           | .box l c,he,hl,aeY=>
            cases he;obtain⟨b,arr,T,fr,g1,g2,g3,g4,g5⟩:=aeY;exact⟨b,arr,T,fr,g1,g2,g3,by rw[(acy b (.inl ⟨_,g4⟩)).1]; exact g4,g5⟩
           | .arr (.own true) l E e xs,he,hl,aeY=>
            cases he;obtain⟨ys,fs,g1,g2,g3,g4⟩:=aeY;exact⟨ys,fs,g1,λ b hb=>by rw[(acy b (.inl ⟨_,g2 b hb⟩)).1]; exact g2 b hb,g3,λ b hb=>by rw[(acy b (.inr ⟨_,g4 b hb⟩)).1]; exact g4 b hb⟩
           | .arr (.imm false) l E e xs,he,hl,aeY=>
            simp only[fO] at he;split at he
            ·next hel=>
             cases he;have hid:id∈ZM es:=List.elem_iff.1 hel;obtain⟨E0,e0,x0,h3⟩:=ahB hid;have ajQ:(look (ZZ (ZM es) es) id).isSome:=by rw[mH,h3]; rfl
             obtain⟨y,hy⟩:=Option.isSome_iff_exists.1 ajQ;rcases ae _ _ _ _ hy with⟨h1,h2⟩|⟨h1,u,lvl,E1,e1,x1,h2,rfl⟩
             ·rw[h3] at h1;cases h1;exact absurd rfl (h2 hid false 0 E0 e0 x0)
             ·rw[h3] at h2;cases h2;have hkeep:=hp.tab id _ hy (by show (0:Nat)≠1; omega)
              rw[hl] at hkeep;cases hkeep;obtain⟨aiH,_,agy,_⟩:=hEn.ents id _ h3;obtain⟨ys,fs,g1,g2,g3⟩:=aiH;have ack:loc' id=loc id:=(hr'.pins (id,loc id) (List.mem_map.2 ⟨id,List.mem_range.2 agy,rfl⟩)).2;have glt:=g1.lt;refine⟨ys,fs,?_,λ b hb => ?_,λ b hb => ?_⟩
              ·rw[ack];exact g1.frame (λ b hb=>ae7 b (glt.1 b hb)) (λ b hb=>ae7 b (glt.2 b hb))
              ·have:=ai5 b _ (g2 b hb);simp only[γ2,if_pos this];exact g2 b hb
              ·have hb':=g3 b hb;by_cases h1:b∈xo
               ·simp only[γ2,if_pos h1]; exact hb'
               ·rcases hg0 b h1 with⟨_,hm⟩|⟨e,_⟩
                ·simp[γ2,h1,hm,glt.2 b hb]
                ·rw[e] at hb'; cases hb'
            ·cases he
         slt:=hr'.slt
         elt:=λ id e he=>by
          have he:=eB _ _ _ _ _ _ he;cases hl:look st'.tab id with
          | none=>rw[hl] at he; cases he
          | some x=>
           have hlt:=hr'.elt id x hl;rw[hl] at he
           match x,he,hlt with
           | .box l c,he,hlt=>cases he; exact hlt
           | .arr (.own true) l E e xs,he,hlt=>cases he; exact hlt
           | .arr (.imm false) l E e xs,he,hlt=>
            simp only[fO] at he;split at he
            ·cases he; exact⟨trivial,hlt.2⟩
            ·cases he
         pins:=by simp
         dlab:=by simp
         glob:=⟨hG,λ b hb=>⟨(hgb b hb).1,λ h=>(hgb b hb).2 (by simp[h])⟩,Nat.le_refl _,λ b hb=>hA.unfr b (by simp[hb])⟩
         rtag:=by intro h; cases h
         dpc:=by simp }
        have aeD:∀ b,((∃ i,γ2 b=.top i)∨∃ i,γ2 b=.deep i)->w.heap.size<=b∨b∈xo:=by
         intro b hb;by_cases h1:b∈xo
         ·exact .inr h1
         ·left;rcases Nat.lt_or_ge b w.heap.size with hlt|hlt
          ·exfalso;rcases hr2.old b hlt h1 with h|⟨h,_⟩<;>rcases hb with⟨i',e'⟩|⟨i',e'⟩<;>rw[h] at e'<;>cases e'
          ·exact hlt
        have ae9:∀ b,γ2 b ≠ .alien->From w.heap.size (r++[]++[]) xo b:=by
         intro b hb;by_cases h1:b∈xo
         ·exact .inr (.inr h1)
         ·rcases Nat.lt_or_ge b w.heap.size with hlt|hlt
          ·rcases hr2.old b hlt h1 with h|⟨_,h⟩
           ·exact absurd h hb
           ·exact .inr (.inl (by simpa using h))
          ·exact .inl hlt
        have acF:pf.rk ≠ .shared/\∃ css2,J8 w' w.heap.size pf.rk (r++[]++[]) xo [] pf.rets (Z7 (Zm pf.rets css2)) rs2/\All2 (λ x v=>(YV a'.tmps x).run P w'=.ok v w') fn.results.toList (Zm pf.rets css2)/\
          ∃ fs',RetL w' .shared pf.rets rs2 css2 [] fs':=by
         cases hrk:pf.rk with
         | shared=>rw[hrk] at hok; exact absurd hok.2 (by simp)
         | uniq=>
          refine⟨by simp,?_⟩;have adp:=hok.1;rw[hrk] at adp;simp only[qb] at adp;obtain⟨ids,aed⟩:=Option.isSome_iff_exists.1 adp;obtain⟨g1,g2⟩:=YI aed;obtain⟨css2,xb,fs,q1,q2,q3,q4,q5,q6⟩:=bd hE.tys hr2 .uniq (by simp) _ _ _ _ _ ai1 g1;obtain⟨n1,n2⟩:=q6 g2;refine⟨css2,⟨css2,xb,fs,q1,rfl,⟨Zu q3 n1 ?_,?_⟩,λ _ b hb=>by obtain⟨i,_,e⟩:=n2 b hb; exact hr2.unf b (by rw[e]; trivial)⟩,q2,pH (by simp) q1⟩
          ·intro b hb hb';obtain⟨i,_,e⟩:=q4 b hb;obtain⟨i',_,e'⟩:=n2 b hb';rw[e] at e'; cases e'
          ·intro b hb;refine⟨?_,by simp⟩;rcases List.mem_append.1 hb with hb|hb
           ·obtain⟨i,hi,e⟩:=q4 b hb;exact aeD b (.inl ⟨i,e⟩)
           ·obtain⟨i,hi,e⟩:=n2 b hb;exact aeD b (.inr ⟨i,e⟩)
         | own=>
          refine⟨by simp,?_⟩;have adp:=hok.1;rw[hrk] at adp;simp only[qb] at adp;obtain⟨ids,g1⟩:=Option.isSome_iff_exists.1 adp;obtain⟨css2,xb,fs,q1,q2,q3,q4,q5,q6⟩:=bd hE.tys hr2 .own (by simp) _ _ _ _ _ ai1 g1;refine⟨css2,⟨css2,xb,fs,q1,rfl,⟨q3,?_,?_,?_⟩,λ h=>by cases h⟩,q2,pH (by simp) q1⟩
          ·intro b hb;obtain⟨i,hi,e⟩:=q4 b hb;exact⟨aeD b (.inl ⟨i,e⟩),by simp⟩
          ·intro b hb hb';obtain⟨i,_,e⟩:=q4 b hb;rcases q5 b hb' with e'|⟨i',_,e'⟩<;>rw[e] at e'<;>cases e'
          ·intro b hb;rcases q5 b hb with e|⟨i,_,e⟩
           ·exact ae9 b (by simp[e])
           ·exact ae9 b (by simp[e])
        obtain⟨_,css2,hR,q2,fs',q3⟩:=acF;have hv:=UM k2 q2;obtain⟨b2,ahA⟩:=vD aeA rs2;have ajO:=nw q3 ahA;obtain⟨us1,e1,_⟩:=gA afy;obtain⟨us2,e2,_⟩:=gA ajO;have hb2:b2=true:=by
         rw[e1,e2] at hv;have:=List.append_inj_right' hv rfl;simpa using this.symm
        subst hb2;exact⟨by rw[eS hk]; exact ahA,λ _=>⟨[],nU hk (by rw[hv]; exact hR)⟩⟩
       ·cases hk
  cases x with
  | exit id=>cases hk
  | normal=>exact adE hk
  | ret=>exact adE hk
 ·cases hout
end Ev
