/- The evaluator of the own library, part 7: its words, its soundness. Conditions: none of its own. -/
import Derived.Test.YthcbhmiocejpjaaGreatDoorLibF
import Derived.Deep.Slices
import Derived.Carry
import Derived.ProofKit
import Derived.OpenShut
import Derived.JoinedCond
set_option linter.unusedSimpArgs false
set_option linter.unusedVariables false
namespace Ev
open Go
variable {H:Type} {enc:TypeId×Value->H} {P:Program} {w:World} {tys:List (Nat×TD)}
structure Meas (μ:DataW H->Nat):Prop where
 str:∀ b,b.length<=μ (.lit (.string b))
 sl:∀ el sp,el.length<=μ (.slice el sp)
 slp:∀ el sp,∀ d∈el,μ d<=μ (.slice el sp)
 agg:∀ ps,∀ d∈ps,μ d<=μ (.agg ps)
theorem TOk.cells {t:Nat} {d:TD} (h:TOk P tys t d) (ha:d.arr=none):P.cellsOf t=d.ty.size:=by
 obtain⟨i,hi,hc⟩:=h.info;unfold NC at hc;rw[ha] at hc;simp only[aqF] at hc;simp only[Go.Program.cellsOf,hi,art,arq];exact (zV _ _).1 hc.2.1
theorem E4 [Tags] {e:Ty} {arr:Array Value} {o len:Nat} (h:∀ i<len,∃ cs,(arr.toList.drop (o+i*e.size)).take e.size=cs/\∃ (v:den e) (fp:List Nat),Rd w e v cs fp):
  ∀ k,k<=len->∃ (xs:List (den e)) (fp:List Nat),xs.length=k/\RdL (Rd w e) xs (arr.toList.drop (o+(len - k)*e.size)) fp
 | 0,_=>⟨[],[],rfl,rfl⟩
 | k+1,hk=>by
  obtain⟨xs,fp,h1,h2⟩:=E4 h k (by omega);obtain⟨cs,hcs,v,fv,hv⟩:=h (len - (k+1)) (by omega);refine⟨v::xs,fv++fp,by simp[h1],cs,_,fv,fp,?_,rfl,hv,h2⟩;rw[←hcs];have e1:o+(len - k)*e.size=(o+(len - (k+1))*e.size)+e.size:=by
   have:len - k=(len - (k+1))+1:=by omega
   rw[this,are]; omega
  rw[e1];generalize o+(len - (k+1))*e.size=m;rw[←ark,as0]
theorem U4 {a:Addr} {n:Nat} {cs:List Value} (h:w.cells? 0 a n=some cs) (hn:0<n):∃ arr T fr,w.heap[a.block]?=some (.cells arr T fr)/\a.spot=none:=by
 obtain⟨_,h1,h2⟩:=World.cells?_some h;have h3:=h2 0 hn;have:a.add 0=a:=by simp[Addr.add]
 rw[this] at h3;unfold World.cell? at h3;split at h3
 ·next arr T fr hb=>
  split at h3
  ·rw[arf (by omega)] at h3; cases h3
  ·next hs=>exact⟨arr,T,fr,hb,by simpa using hs⟩
 ·rw[arf (by omega)] at h3; cases h3
theorem U5 {a:Addr} {n i sz:Nat} {cs:List Value} {arr:Array Value} {T:TypeId} {fr:Nat×Nat} (h:w.cells? 0 (a.add i) sz=some cs) (hb:w.heap[a.block]?=some (.cells arr T fr)) (hs:a.spot=none) (hsz:0<sz):
  (arr.toList.drop (a.off+i)).take sz=cs:=by
 obtain⟨_,h1,h2⟩:=World.cells?_some h;have key:∀ j<sz,arr[a.off+i+j]?=cs[j]?:=by
  intro j hj;have h3:=h2 j hj;rw[Deep.add_add] at h3;unfold World.cell? at h3;have e1:(a.add (i+j)).block=a.block:=by unfold Addr.add; split<;>rfl
  have e2:(a.add (i+j)).spot=none:=by unfold Addr.add; split<;>simp[hs]
  have e3:(a.add (i+j)).off=a.off+(i+j):=by unfold Addr.add; split<;>simp_all
  rw[e1,hb] at h3;simp only[e2,e3,asC,ar3,if_false] at h3;rw[←h3];congr 1;omega
 apply List.ext_getElem?;intro j;by_cases hj:j<sz
 ·rw[asP hj,arH,←key j hj,arJ]
 ·rw[ar9 (by simp; omega),ar9 (by omega)]
def cE (P:Program) (fits:TypeId->Bool):Nat->TypeId->Bool
 | 0,_=>true
 | d+1,e => !fits e && (match P.underlying e with
  | some (.struct fs)=>fs.all λ f=>cE P fits d f.type
  | some (.array _ e')=>cE P fits d e'
  | _=>true)
theorem uo {fits:TypeId->Bool}:∀ (d e count off n:Nat),cE P fits d e=true->rowAt P fits d e count off n=false
 | 0,_,_,_,_,_=>rfl
 | d+1,e,count,off,n,h=>by
  simp only[cE,aqF,arc] at h;obtain⟨h1,h2⟩:=h;unfold rowAt;simp only;split
  ·rfl
  ·simp only[h1,arB,asl,asW];right;split
   ·next fs hu=>
    rw[hu] at h2;simp only[asW];right;rw[Array.any_eq_false];intro i hi;have:=(Array.all_eq_true.1 h2) i hi;simp[uo d _ 1 _ n this]
   ·next m e' hu=>
    rw[hu] at h2;exact uo d e' m _ n h2
   ·rfl
def oU (P:Program) (T E:Nat):Bool:=cE P (sameLayout P P.depth · E) P.depth T && (match P.underlying E with|some (.array _ _)=>false|_=>true)
theorem aaE [Tags] {T E:Nat} (h:oU P T E=true) (d c off n:Nat):liesAt P d T c off E n=false:=by
 simp only[oU,aqF] at h;cases d with
 | zero=>rfl
 | succ d=>
  simp only[liesAt,uo _ _ _ _ _ h.1,asl];have:=h.2;split
  ·next hu=>rw[hu] at this; cases this
  ·rfl
end Ev
namespace Ev
open Go Go.ChangeShapes Go.WideShapes Go.RowKit
variable {H:Type} {enc:TypeId×Value->H} {P:Program} {w w':World} {tys:List (Nat×TD)}
theorem U3 {f:FuncId} {fn:Func} {args:Array Value} {R:Value->World->Prop} (hf:P.funcs[f]?=some fn) (hb:fn.body.isSome=true) (hn:(fn.name == "runtime.NumGoroutine")=false) (h:CallsTo P f args w R):
  Calls P f args w λ e w'=>∃ v,e=.returned v/\R v w':=by
 obtain⟨body,ait⟩:=Option.isSome_iff_exists.1 hb;have hcf:(callFunc f args).run P w=.ok (.enter f args) w:=by
  have hn':¬ fn.name = "runtime.NumGoroutine" := by simpa using hn
  simp[callFunc,hf,hn',ait]
 unfold CallsTo at h;rw[hcf] at h;refine Calls.mono h λ e w'' he => ?_;cases e with
 | returned v=>exact⟨v,rfl,he⟩
 | panicked _=>exact he.elim
 | outgrown=>exact he.elim
theorem abC [Tags] {n:Nat} {rr xo pt:List Nat} {v:Value} {b:Bool} (h:K3 w' n .uniq rr xo pt [.bool] v (b,())):v=.bool b:=by
 obtain⟨css,xs,fs,h1,h2,_⟩:=h;obtain⟨cs,css',x1,x2,f1,f2,rfl,_,_,h3,h4⟩:=h1;obtain⟨rfl,_,_⟩:=h4;have h5:RdO w' .bool b cs x1 f1:=h3;obtain⟨⟨rfl,_⟩,_,_⟩:=h5;rw[h2];rfl
theorem UN [Tags] (hT:yA P tys=true) {μ:DataW H->Nat} (hμ:Meas μ) {r:Reach} {b0:Nat} {t:Nat} {d:TD} {v:Value} {dd:DataW H} {ps:List MemPlace} (hd:lk tys t=some d) {E:Nat} (hty:d.ty=.sl E .u8) (ha:d.arr=none)
  (hval:Value.okWide P w r b0 t v) (h:DataW.Trod enc P w 0 (λ _=>true) true t v dd ps) (hb:μ dd<=1048576) (hap:oU P Tags.post E=true):
  ∃ (x:den d.ty) (cs:List Value) (fp:List Nat),v=yD d.ty cs/\Rd w d.ty x cs fp:=by
 have hne:E≠Tags.post:=λ k=>absurd ((Mw hT hd).1 hty k) (by decide);have ht:=yh hT hd;obtain⟨hu,de,hde,hdt,hda⟩:=ht.slice hty ha;rw[hty];obtain⟨n,hn⟩:=h;obtain⟨a,l,c,rfl⟩:=okWide_slice hu hval;have hcs:(Value.slice a l c).cells.toList=[.slice a l c]:=rfl;rw[hcs] at hn;cases n with
 | zero=>simp[DataW.trod] at hn
 | succ n=>
  rcases DataW.trod_slice hu hn with⟨h1,hx⟩|⟨a',len,cap,elems,rest,n',hn',h1,hx,hb0,hl,hm,hlen,hel,_⟩
  ·exact⟨[],[.slice a l c],[],rfl,_,_,_,rfl,by simp at h1; exact h1.2.1,by simp at h1; omega,by simp at h1; omega,.inl ⟨rfl,rfl,λ k=>absurd k hne⟩⟩
  ·cases hn';simp only[ara,Value.slice.injEq,and_true] at h1;obtain⟨rfl,rfl,rfl⟩:=h1;have hdd:=congrArg Prod.fst hx;simp only at hdd;rw[hdd] at hb;have hlb:=hμ.sl (elems.map (·.1)) (rest.map (·.1));rw[arg,hlen] at hlb;rcases Nat.eq_zero_or_pos l with h0|ajZ
   ·subst h0;exact⟨[],_,[],rfl,_,_,_,rfl,rfl,hl,by simp,.inl ⟨rfl,rfl,λ k=>absurd k hne⟩⟩
   ·have hsz:P.cellsOf E=1:=by rw[(yh hT hde).cells hda,hdt]; rfl
    have ajr:∀ i<l,∃ cs',w.cells? 0 (a'.add (i*P.cellsOf E)) (P.cellsOf E)=some cs'/\∃ y,DataW.trod enc P w 0 (λ _=>true) true n E cs'=some y:=by
     intro i hi;have:=hel i hi;rw[arf (by omega)] at this;obtain⟨cs',h1,h2⟩:=Option.bind_eq_some_iff.1 this;exact⟨cs',h1,_,h2⟩
    obtain⟨cs0,hc0,_⟩:=ajr 0 ajZ;rw[Nat.zero_mul,show a'.add 0=a' by simp[Addr.add]] at hc0;obtain⟨arr,T,fr,ajm,amu⟩:=U4 hc0 (by omega);have hE:∀ i<l,∃ cs,(arr.toList.drop (a'.off+i*Ty.u8.size)).take Ty.u8.size=cs/\∃ (v:den .u8) (fp:List Nat),Rd w .u8 v cs fp:=by
     intro i hi;obtain⟨cs',h1,y,h2⟩:=ajr i hi;rw[hsz] at h1;refine⟨cs',U5 (n:=0) h1 ajm amu (by decide),?_⟩;cases n with
     | zero=>simp[DataW.trod] at h2
     | succ n=>
      obtain⟨m,hm1,hm2,hw⟩:=DataW.trod_int ((yh hT hde).u8 hdt hda) h2;have hm:0<=m/\m<=255:=by simpa[Lit.wf,IntKind.min,IntKind.max,IntKind.signed,IntKind.bits] using hw
      refine⟨UInt8.ofNat m.toNat,[],?_,rfl⟩;have:((UInt8.ofNat m.toNat).toNat:Int)=m:=by
       rw[UInt8.toNat_ofNat',asu (by simp; omega)]
       omega
      rw[this];exact hm1
    obtain⟨xs,fp,hx1,hx2⟩:=E4 hE l (Nat.le_refl _);rw[Nat.sub_self,as6,arx] at hx2;obtain⟨ab,ao,asp⟩:=a';simp only at amu ajm hx2;subst amu;have hT':T≠Tags.post:=by
     intro k;have h3:Cell.ok P w r b0 t (.slice (some ⟨ab,ao,none⟩) l c):=by
      simp only[Value.okWide,Cell.okWide,hu] at hval;exact hval
     simp only[Cell.ok,hu] at h3;obtain⟨_,_,_,_,row,cells,h4,h5⟩:=h3;simp only[World.shape?,ajm,aqK,aqO] at h4;rw[←h4.1,k,aaE hap] at h5;cases h5
    exact⟨xs,_,ab::fp,rfl,some ⟨ab,ao,none⟩,l,c,rfl,hx1.symm,hl,by omega,.inr ⟨ab,ao,arr,T,fr,fp,rfl,ajm,rfl,hx2,⟨λ k=>absurd k hT',λ k=>absurd k hne⟩,λ k=>absurd k hne⟩⟩
theorem X8 {may:MemPlace->Prop} (h:Below w.heap.size w w'):w.keptBut w' may:=by
 refine⟨h.os,h.output,λ i hi => ?_⟩;rw[h.block i hi];split
 ·next h1 h2=>rw[h1] at h2; cases h2; exact⟨rfl,rfl,rfl,λ _ _=>rfl⟩
 ·next h1 h2=>rw[h1] at h2; cases h2; exact .inr ⟨rfl,rfl⟩
 ·rfl
theorem abn [Tags] {f:Func} {s:ChangeSpec} {args:Array Value} {v:Value} {ds:List (DataW H)} {before:List MemPlace} (hsv:s.vars=[])
  (hW:DataW.Whole enc P f.params.toList s.vars false w args.toList ds [] before)
  (ajd:∀ (b:Nat) (sp:Nat->Bool),DataW.TrodAll enc P w' b sp false f.resultTypes.toList (v.resultList f.resultTypes.size) (s.fn H (ds++[])).results [])
  (hargs:DataW.TrodAll enc P w' 0 (λ b=>decide (b<w.heap.size)) true f.params.toList args.toList (s.fn H (ds++[])).args before)
  (hv:(s.fn H (ds++[])).vars=[]) (hk:Below w.heap.size w w'):s.post enc P f false true false false w args v w':=by
 refine⟨ds,[],before,[],before,[],hW,ajd _ _,hargs,?_,X8 hk,λ h=>by cases h⟩;rw[hsv,hv];rfl
end Ev
namespace Ev
open Go
variable {P:Program} {gl:Glob}
def AllS [Tags] (P:Program) (gl:Glob):List (Nat×PF)->Prop
 | []=>True
 | [x]=>Sound P gl x.1 x.2/\True
 | x::y::r=>Sound P gl x.1 x.2/\AllS P gl (y::r)
def AllN [Tags] (P:Program) (gl:Glob):List (Nat×NF)->Prop
 | []=>True
 | [x]=>LZ P gl x.1 x.2/\True
 | x::y::r=>LZ P gl x.1 x.2/\AllN P gl (y::r)
theorem AllS.mem [Tags]:∀ {l:List (Nat×PF)},AllS P gl l->∀ x∈l,Sound P gl x.1 x.2
 | [],_,_,hx=>by simp at hx
 | [x],h,y,hy=>by
  have:y=x:=by simpa using hy
  subst this;exact h.1
 | x::z::r,h,y,hy=>by
  rcases List.mem_cons.1 hy with rfl|hy
  ·exact h.1
  ·exact AllS.mem h.2 y hy
theorem AllN.mem [Tags]:∀ {l:List (Nat×NF)},AllN P gl l->∀ x∈l,LZ P gl x.1 x.2
 | [],_,_,hx=>by simp at hx
 | [x],h,y,hy=>by
  have:y=x:=by simpa using hy
  subst this;exact h.1
 | x::z::r,h,y,hy=>by
  rcases List.mem_cons.1 hy with rfl|hy
  ·exact h.1
  ·exact AllN.mem h.2 y hy
def AllM [Tags] (P:Program) (gl:Glob):List (Nat×MF)->Prop
 | []=>True
 | [x]=>fl P gl x.1 x.2
 | x::r=>fl P gl x.1 x.2/\AllM P gl r
theorem AllM.mem [Tags]:∀ {l:List (Nat×MF)},AllM P gl l->∀ x∈l,fl P gl x.1 x.2
 | [],_,_,hx=>by simp at hx
 | [x],h,y,hy=>by
  have:y=x:=by simpa using hy
  subst this;exact h
 | x::z::r,h,y,hy=>by
  rcases List.mem_cons.1 hy with rfl|hy
  ·exact h.1
  ·exact AllM.mem h.2 y hy
def AllC [Tags] (P:Program) (gl:Glob):List (Nat×PF)->Prop
 | []=>True
 | [x]=>K4 P gl x.1 x.2
 | x::r=>K4 P gl x.1 x.2/\AllC P gl r
theorem AllC.mem [Tags]:∀ {l:List (Nat×PF)},AllC P gl l->∀ x∈l,K4 P gl x.1 x.2
 | [],_,_,hx=>by simp at hx
 | [x],h,y,hy=>by
  have:y=x:=by simpa using hy
  subst this;exact h
 | x::z::r,h,y,hy=>by
  rcases List.mem_cons.1 hy with rfl|hy
  ·exact h.1
  ·exact AllC.mem h.2 y hy
def AllJ [Tags] (P:Program) (gl:Glob):List (Nat×PF)->Prop
 | []=>True
 | [x]=>Kx P gl x.1 x.2
 | x::r=>Kx P gl x.1 x.2/\AllJ P gl r
theorem AllJ.mem [Tags]:∀ {l:List (Nat×PF)},AllJ P gl l->∀ x∈l,Kx P gl x.1 x.2
 | [],_,_,hx=>by simp at hx
 | [x],h,y,hy=>by
  have:y=x:=by simpa using hy
  subst this;exact h
 | x::z::r,h,y,hy=>by
  rcases List.mem_cons.1 hy with rfl|hy
  ·exact h.1
  ·exact AllJ.mem h.2 y hy
theorem Wl [Tags] {tys:List (Nat×TD)} {eqs:List Nat} {fns:List (Nat×PF)} {news:List (Nat×NF)} {muts:List (Nat×MF)} {frz hold:Bool} {conds joins alts:List (Nat×PF)} {thaws:List (Nat×Nat)} (hm:P.follows .mixedOrders=true) (hT:yA P tys=true) (hQ:eqs.all (Na P tys)=true)
  (h:AllS P gl fns) (h2:AllN P gl news) (h3:AllM P gl muts) (h4:AllC P gl conds) (h5:AllJ P gl joins) (h6:AllS P gl alts):Zx P gl ⟨tys,fns,eqs,news,muts,frz,conds,joins,alts,hold,thaws⟩:=
 ⟨hm,hT,hQ,λ f pf hl=>h.mem _ (Ll hl),λ f nf hl=>h2.mem _ (Ll hl),λ f mf hl=>h3.mem _ (Ll hl),λ f cf hl=>h4.mem _ (Ll hl),λ f cf hl=>h5.mem _ (Ll hl),λ f qf hl=>h6.mem _ (Ll hl)⟩
noncomputable section
def Yq:List (Nat×Ent)->List Nat
 | []=>[]
 | (id,.arr (.own _) _ _ _ _)::r=>id::Yq r
 | _::r=>Yq r
def l9 (lend:List Nat) (lvl id:Nat):Option Ent->Option Ent
 | some (.box l c)=>some (.box l c)
 | some (.arr (.own true) l E e xs)=>some (.arr (.own true) l E e xs)
 | some (.arr (.imm false) l E e xs)=>match lend.elem id with
  | true=>some (.arr (.own false) lvl E e xs)
  | false=>none
 | _=>none
def QQ (lend:List Nat) (lvl:Nat) (tab:List (Nat×Ent)):List (Nat×Ent)->List (Nat×Ent)
 | []=>[]
 | (id,_)::r=>match l9 lend lvl id (look tab id) with
  | some e=>(id,e)::QQ lend lvl tab r
  | none=>QQ lend lvl tab r
def uh (lend:List Nat) (st:St):St:={ st with tab:=QQ lend st.lvl st.tab st.tab }
def QG (rets:List Ty):(ps:List (PK×Ty))->dens rets->Option (zW ps rets)
 | [],v=>some v
 | (.rd,_)::ps,v=>QG rets ps v
 | (.own,_)::ps,v=>QG rets ps v
 | (.ptr,_)::_,_=>none
 | (.cap,_)::_,_=>none
 | (.clo _,_)::_,_=>none
def fR (F:jv) (fn:Func) (ps:List (PK×Ty)) (rets:List Ty) (rk:RK) (lend:List Nat) (st:St):Option (zW ps rets):=
 match JM F.E st rets fn.results.toList with
 | none=>none
 | some (rs,_)=>match Yn rets rs with
  | none=>none
  | some b=>bif b
   then (match JM F.E (uh lend st) rets fn.results.toList with
    | none=>none
    | some (rs2,ls)=>match QT (uh lend st) ls rk && !(match rk with | .shared=>true|_=>false) with
     | true=>QG rets ps rs2
     | false=>none)
   else QG rets ps rs
def roE:Ent->Bool
 | .arr (.imm false) _ _ _ _=>true
 | .arr (.own false) lvl _ _ _=>Nat.beq lvl 0
 | _=>false
def aaz:Option Ent->Bool
 | some (.arr (.own false) lvl _ _ _)=>Nat.beq lvl 0
 | _=>false
def Fe (es:List (Nat×Ent)):Bool:=es.all (λ p=>roE p.2) && (Yq es).all (λ id=>aaz (look es id))
def fN (F:jv) (fn:Func) (ps:List (PK×Ty)) (rets:List Ty) (rk:RK) (args:yc ps):Option (zW ps rets):=
 match fn.body,jo ps args 0 with
 | some body,some (avs,es,j)=>match Fe es with
  | false=>none
  | true=>jT F body { slots:=avs++List.replicate (fn.ntmps - avs.length) (.tup []),tab:=YF (Yq es) es,nxt:=j,lvl:=1 } λ x st=>
   match x with
   | .exit _=>none
   | .normal=>fR F fn ps rets rk (Yq es) st
   | .ret=>fR F fn ps rets rk (Yq es) st
 | _,_=>none
end
variable {P:Program} {a:Act} {w w':World} {E:Env} {B:Nat} {X:List Nat} {A:Ctx} {w0:World} {γ:Nat->Own} {loc:Nat->Value} {st:St}
theorem B5:∀ {es:List (Nat×Ent)} {id:Nat} {u:Bool} {lvl E:Nat} {e:Ty} {xs:List (den e)},look es id=some (.arr (.own u) lvl E e xs)->id∈Yq es
 | [],id,u,lvl,E,e,xs,h=>by simp[look] at h
 | (i,x)::r,id,u,lvl,E,e,xs,h=>by
  rw[jf] at h;split at h
  ·next hi=>
   cases h;subst hi;simp[Yq]
  ·have:=B5 h;cases x with
   | box l c=>exact this
   | cst c=>exact this
   | arr k l E' e' xs'=>cases k<;>simp[Yq,this]
theorem rI {tab:List (Nat×Ent)} {i:Nat} {u:Bool} {l E:Nat} {e:Ty} {xs:List (den e)} (h:look tab i=some (.arr (.own u) l E e xs)) (id:Nat):
  look (yE tab i (.arr (.imm false) l E e xs)) id=if id=i then some (.arr (.imm false) l E e xs) else look tab id:=by
 rw[ZZ];split
 ·rw[h]; rfl
 ·rfl
theorem cC [Tags]:∀ (l:List Nat) (tab:List (Nat×Ent)) (id:Nat) (e:Ent),look (YF l tab) id=some e->
  (look tab id=some e/\(id∈l->∀ u lvl E e' xs,e ≠ .arr (.own u) lvl E e' xs))∨(id∈l/\∃ u lvl E e' xs,look tab id=some (.arr (.own u) lvl E e' xs)/\e=.arr (.imm false) lvl E e' xs)
 | [],tab,id,e,h=>.inl ⟨h,by simp⟩
 | i::r,tab,id,e,h=>by
  simp only[YF] at h;split at h
  ·next u lvl E e' xs hl=>
   rcases cC r _ id e h with⟨h1,h2⟩|⟨h1,u',lvl',E',e'',xs',h2,h3⟩
   ·rw[rI hl] at h1;split at h1
    ·next hi=>
     cases h1;subst hi;exact .inr ⟨by simp,u,lvl,E,e',xs,hl,rfl⟩
    ·next hi=>
     refine .inl ⟨h1,λ hm => ?_⟩;rcases List.mem_cons.1 hm with rfl|hm
     ·exact absurd rfl hi
     ·exact h2 hm
   ·rw[rI hl] at h2;split at h2
    ·cases h2
    ·exact .inr ⟨by simp[h1],u',lvl',E',e'',xs',h2,h3⟩
  ·next hno=>
   rcases cC r _ id e h with⟨h1,h2⟩|⟨h1,u',lvl',E',e'',xs',h2,h3⟩
   ·refine .inl ⟨h1,λ hm => ?_⟩;rcases List.mem_cons.1 hm with rfl|hm
    ·intro u lvl E e' xs he;subst he;exact hno u lvl E e' xs h1
    ·exact h2 hm
   ·exact .inr ⟨by simp[h1],u',lvl',E',e'',xs',h2,h3⟩
theorem pz [Tags]:∀ (l:List Nat) (tab:List (Nat×Ent)) (id:Nat),(look (YF l tab) id).isSome=(look tab id).isSome
 | [],tab,id=>rfl
 | i::r,tab,id=>by
  simp only[YF];split
  ·next u lvl E e' xs hl=>
   rw[pz r,rI hl];split
   ·next hi=>subst hi; rw[hl]; rfl
   ·rfl
  ·exact pz r tab id
theorem kM (lend:List Nat) (lvl:Nat) (tab:List (Nat×Ent)):∀ (keys:List (Nat×Ent)) (id:Nat) (e:Ent),look (QQ lend lvl tab keys) id=some e->l9 lend lvl id (look tab id)=some e
 | [],id,e,h=>by simp[QQ,look] at h
 | (i,x)::r,id,e,h=>by
  simp only[QQ] at h;split at h
  ·next e' he=>
   rw[jf] at h;split at h
   ·next hi=>cases h; subst hi; exact he
   ·exact kM lend lvl tab r id e h
  ·exact kM lend lvl tab r id e h
theorem oX [Tags]:∀ {ps:List (PK×Ty)} {vs:yc ps} {vals:List Value} {r rp rc xo xp:List Nat},ArgsOk w ps vs vals r rp rc xo xp->(ps.all λ p=>p.1.isRo)=true->rp=[]/\rc=[]/\xp=[]
 | [],vs,vals,r,rp,rc,xo,xp,h,_=>⟨h.2.2.1,h.2.2.2.1,h.2.2.2.2.2⟩
 | (.rd,t)::ps,vs,vals,r,rp,rc,xo,xp,h,hp=>by
  simp only[ard,aqF] at hp;obtain⟨cs,vs',fp,r',_,_,_,h'⟩:=h;exact oX h' hp.2
 | (.own,t)::ps,vs,vals,r,rp,rc,xo,xp,h,hp=>by
  simp only[ard,aqF] at hp;obtain⟨cs,vs',xs,fs,r',xo',_,_,_,_,h'⟩:=h;exact oX h' hp.2
 | (.ptr,t)::ps,vs,vals,r,rp,rc,xo,xp,h,hp=>by simp[PK.isRo] at hp
 | (.cap,t)::ps,vs,vals,r,rp,rc,xo,xp,h,hp=>by simp[PK.isRo] at hp
 | (.clo f,t)::ps,vs,vals,r,rp,rc,xo,xp,h,hp=>by simp[PK.isRo] at hp
theorem kZ {rets:List Ty}:∀ {ps:List (PK×Ty)} {v:dens rets} {o:zW ps rets},QG rets ps v=some o->Zk rets ps o=v
 | [],v,o,h=>by
  have h:v=o:=Option.some.inj h;rw[←h]; rfl
 | (.rd,_)::ps,v,o,h=>kZ (ps:=ps) h
 | (.own,_)::ps,v,o,h=>kZ (ps:=ps) h
 | (.ptr,_)::ps,v,o,h=>by cases h
 | (.cap,_)::ps,v,o,h=>by cases h
 | (.clo _,_)::ps,v,o,h=>by cases h
theorem sb [Tags] {w0 w:World} {n:Nat} {rk:RK} {rr xo pt:List Nat} {rets:List Ty} {v:Value}:∀ {ps:List (PK×Ty)} {x:dens rets} {o:zW ps rets},QG rets ps x=some o->K3 w n rk rr xo pt rets v x->OutOk w0 w n rk rr xo pt rets v ps o []
 | [],x,o,h,hR=>by
  have h:x=o:=Option.some.inj h;subst h;exact⟨rfl,hR⟩
 | (.rd,_)::ps,x,o,h,hR=>sb (ps:=ps) h hR
 | (.own,_)::ps,x,o,h,hR=>sb (ps:=ps) h hR
 | (.ptr,_)::ps,x,o,h,hR=>by cases h
 | (.cap,_)::ps,x,o,h,hR=>by cases h
 | (.clo _,_)::ps,x,o,h,hR=>by cases h
theorem rB [Tags] {w:World}:∀ {ts:List Ty} {v:dens ts} {css:List (List Value)} {fs:List Nat} {b:Bool},RetL w .shared ts v css [] fs->Yn ts v=some b->qz b ts css
 | [],v,css,fs,b,h,hb=>by simp[Yn] at hb
 | [t],v,css,fs,b,h,hb=>by
  obtain⟨cs,css',x1,x2,f1,f2,rfl,hx,rfl,h1,h2⟩:=h;cases t with
  | bool=>
   simp only[Yn,aqK] at hb;have hc:cs=[.bool v.1]:=h1.2.1;rw[h2.1];show yD .bool cs=.bool b;rw[hc,←hb];rfl
  | _=>simp[Yn] at hb
 | t::u::ts,v,css,fs,b,h,hb=>by
  obtain⟨cs,css',x1,x2,f1,f2,rfl,hx,rfl,h1,h2⟩:=h;have hb':Yn (u::ts) v.2=some b:=by
   cases t<;>exact hb
  have hx2:x2=[]:=(List.append_eq_nil_iff.1 hx.symm).2;subst hx2;exact⟨h1.2.len,h1.2.one,rB h2 hb'⟩
theorem Bk:∀ {ts:List Ty} {v:dens ts} {b:Bool},Yn ts v=some b->∀ v':dens ts,∃ b',Yn ts v'=some b'
 | [],v,b,h,v'=>by simp[Yn] at h
 | [t],v,b,h,v'=>by
  cases t with
  | bool=>exact⟨v'.1,rfl⟩
  | _=>simp[Yn] at h
 | t::u::ts,v,b,h,v'=>by
  have hb':Yn (u::ts) v.2=some b:=by
   cases t<;>exact h
  obtain⟨b',h'⟩:=Bk hb' v'.2;exact⟨b',by cases t<;>exact h'⟩
theorem uk [Tags] {rk:RK} (hrk:rk ≠ .shared):∀ {ts:List Ty} {v:dens ts} {css:List (List Value)} {xs fs:List Nat},RetL w rk ts v css xs fs->∃ fs',RetL w .shared ts v css [] fs'
 | [],v,css,xs,fs,h=>⟨[],h.1,rfl,rfl⟩
 | t::ts,v,css,xs,fs,h=>by
  obtain⟨cs,css',x1,x2,f1,f2,rfl,rfl,rfl,h1,h2⟩:=h;obtain⟨fs',h2'⟩:=uk hrk h2;have h1':RdO w t v.1 cs x1 f1:=by
   cases rk with
   | shared=>exact absurd rfl hrk
   | own=>exact h1
   | uniq=>exact h1
  obtain⟨fp,hrd,_⟩:=h1'.rd;exact⟨fp++fs',cs,css',[],[],fp,fs',rfl,rfl,rfl,⟨rfl,hrd⟩,h2'⟩
theorem abA {fn:List ResultVar} {tmps:Array Value}:∀ {us vs:List Value},All2 (λ x v=>(JN tmps x).run P w=.ok v w) fn us->All2 (λ x v=>(JN tmps x).run P w=.ok v w) fn vs->us=vs:=by
 induction fn with
 | nil=>intro us vs h1 h2; cases us<;>cases vs<;>first|rfl|exact h1.elim|exact h2.elim
 | cons x r ih=>
  intro us vs h1 h2
  match us,vs,h1,h2 with
  | u::us,v::vs,h1,h2=>
   have e:=h1.1.symm.trans h2.1;cases e;rw[ih h1.2 h2.2]
theorem If [Tags] {F:jv} {gl:Glob} (hE:Zx P gl F.E) {f:FuncId} {fn:Func} (hf:P.funcs[f]?=some fn) (hn:(fn.name == "runtime.NumGoroutine")=false) {pf:PF} (hro:(pf.params.all λ p=>p.1.isRo)=true)
  (hev:∀ args outs,pf.fn args=some outs->fN F fn pf.params pf.rets pf.rk args=some outs) (hTw:F.E.thaws=[]:=by rfl):K4 P gl f pf:=by
 constructor;intro w args vals r rp rc xo xp outs hA hnd ai0 hG hgb hout;have hout:=hev _ _ hout;obtain⟨rfl,rfl,rfl⟩:=oX hA hro;unfold fN at hout;split at hout
 ·next body avs es j ait aiB=>
  split at hout
  ·cases hout
  ·next htab=>
  have hcf:(callFunc f vals.toArray).run P w=.ok (.enter f vals.toArray) w:=by
   have hn':¬ fn.name = "runtime.NumGoroutine" := by simpa using hn
   simp[callFunc,hf,hn',ait]
  unfold CallsTo;rw[hcf];simp only;refine calls_of_wp hf ait ?_;unfold Fe at htab;rw[aqF,List.all_eq_true,List.all_eq_true] at htab;obtain⟨apM,apN⟩:=htab;have ane:∀ {id},id∈Yq es->∃ E e xs,look es id=some (.arr (.own false) 0 E e xs):=by
   intro id hid;have h:=apN id hid;cases he:look es id with
   | none=>rw[he] at h; cases h
   | some x=>
    rw[he] at h
    match x,h with
    | .arr (.own false) lvl E e xs,h=>
     have:lvl=0:=Nat.eq_of_beq_eq_true h;subst this;exact⟨E,e,xs,rfl⟩
  let γ0:Nat->Own:=λ b=>open Classical in if b∈r∨b∈([]:List Nat)∨b∈([]:List Nat) then .persist else .alien
  obtain⟨loc,γ,hEn⟩:=L7 pf.params args 0 vals r [] [] xo [] avs es j (λ _=>undef) γ0 hA aiB hnd ai0 (λ b hb=>by simp only[γ0,if_pos hb]) (λ b hb=>by
   have:=ai0 b (by rcases hb with h|h; exact List.mem_append_left _ h; simp at h)
   simp only[γ0,this.1,this.2.1,or_self,if_false])
  have anR:∀ b∈xo,b<w.heap.size:=λ b hb=>by
   have:=hA.lt;first|exact this.2.2.2.1 b hb|exact this.2.2.1 b hb|exact this.2.1 b hb|exact this.1 b hb
  have aqw:∀ b∈r,b<w.heap.size:=λ b hb=>by
   have:=hA.lt;first|exact this.1 b hb|exact this.2.1 b hb
  have hg0:∀ b,b∉xo->γ b=.persist/\b∈r∨γ b=.alien/\b∉r:=by
   intro b hb;rw[hEn.own b hb (by simp)];by_cases hm:b∈r
   ·left; simp[γ0,hm]
   ·right; simp[γ0,hm]
  have anM:∀ b i,γ b=.top i->b∈xo:=by
   intro b i h;by_cases hb:b∈xo
   ·exact hb
   ·rcases hg0 b hb with⟨e,_⟩|⟨e,_⟩<;>rw[e] at h<;>cases h
  let γr:Nat->Own:=λ b=>open Classical in if b∈xo then .persist else γ b
  let A:Ctx:={ rds:=xo++r,pins:=(List.range j).map λ i=>(i,loc i),gl:=gl }
  have ahB:Rel w.heap.size [] A w { slots:=avs++List.replicate (fn.ntmps - avs.length) (.tup []),tab:=YF (Yq es) es,nxt:=j,lvl:=1 }
    { tmps:=vals.toArray++Array.replicate (fn.ntmps - vals.toArray.size) undef,defers:=[]} w:=by
   refine⟨γr,loc,?_⟩;have anA:∀ b,γ b=.persist->γr b=.persist:=λ b hb=>by
    by_cases h:b∈xo<;>simp[γr,h,hb]
   exact {
    defers:=rfl
    keeps:=KeepsW.refl _ _ _
    unf:=λ b hb=>by
     by_cases h1:b∈xo
     ·simp[γr,h1,owned] at hb
     ·rcases hg0 b h1 with⟨e,_⟩|⟨e,_⟩<;>simp[γr,h1,e,owned] at hb
    old:=λ b hb hx=>by
     by_cases h1:b∈xo
     ·right; simp[γr,h1,A]
     ·rcases hg0 b h1 with⟨e,hm⟩|⟨e,hm⟩
      ·right; simp[γr,h1,e,A,hm]
      ·left; simp[γr,h1,e]
    Ble:=Nat.le_refl _
    size:=by have:=hEn.vals.len; simp[this]
    slots:=λ t v hv=>(qL hEn.vals hEn.lts t v hv).1
    ents:=λ id e he=>by
     rcases cC _ _ _ _ he with⟨h1,h2⟩|⟨h1,u,lvl,E,e',xs,h2,rfl⟩
     ·have hro:=apM _ (rJ h1);have hok:=(hEn.ents id e h1).1
      match e,hro,h1,h2,hok with
      | .arr (.imm false) _ E e xs,_,_,_,hok=>
       obtain⟨fp,k1,k2⟩:=hok;refine⟨fp,k1,λ b hb=>.inl (anA b ?_)⟩;rcases k2 b hb with h|⟨h,_⟩
       ·exact h
       ·cases h
      | .arr (.own false) lvl E e xs,_,h1,h2,_=>exact absurd rfl (h2 (B5 h1) false lvl E e xs)
     ·have hok:=(hEn.ents id _ h2).1;obtain⟨E0,e0,x0,h3⟩:=ane h1;rw[h3] at h2;cases h2;obtain⟨ys,fs,k1,k2,k3⟩:=hok;obtain⟨fp,k4,k5⟩:=k1.rd;refine⟨fp,k4,λ b hb=>.inl ?_⟩;rcases k5 b hb with h|h
      ·have:=anM b _ (k2 b h);simp[γr,this]
      ·exact anA b (k3 b h)
    slt:=λ t v hv=>(qL hEn.vals hEn.lts t v hv).2
    elt:=λ id e he=>by
     rcases cC _ _ _ _ he with⟨h1,h2⟩|⟨h1,u,lvl,E,e',xs,h2,rfl⟩
     ·exact⟨(hEn.ents id e h1).2.2.2,(hEn.ents id e h1).2.2.1⟩
     ·exact⟨trivial,(hEn.ents id _ h2).2.2.1⟩
    pins:=λ p hp=>by
     obtain⟨i,hi,rfl⟩:=List.mem_map.1 hp;exact⟨List.mem_range.1 hi,rfl⟩
    dlab:=by simp[A]
    glob:=⟨hG,λ b hb=>⟨(hgb b hb).1,by simp⟩,Nat.le_refl _,by simp⟩
    rtag:=by intro h; cases h
    dpc:=by simp[A]}
  refine LH hE ⟨rfl,rfl⟩ (.inl hTw) body _ _ _ w _ hout ahB ?_;intro x st' hk hp a' w' hr';have aiP:fR F fn pf.params pf.rets pf.rk (Yq es) st'=some outs->a'.defers=[]/\∃ v,(results fn a'.tmps).run P w'=.ok v w'/\(KeepsW w.heap.size [] w w'/\∃ css b,v=YP (ZP pf.rets css)/\qz b pf.rets css/\
    Yn pf.rets (Zk pf.rets pf.params outs)=some b/\(b=true->∃ pt,OutOk w w' w.heap.size pf.rk (r++[]++[]) xo pt pf.rets v pf.params outs [])):=by
   intro hk;obtain⟨γ',loc',hr'⟩:=hr';unfold fR at hk;split at hk
   ·cases hk
   ·next rs ls0 ajd=>
    split at hk
    ·cases hk
    ·next b aiO=>
     refine⟨hr'.defers,?_⟩;obtain⟨css,fs0,k1,k2,_⟩:=ui hE.tys hr' _ _ _ _ ajd;have akQ:=rB k1 aiO;refine⟨_,dx k2,hr'.keeps,css,b,rfl,akQ,?_⟩;cases b with
     | false=>
      simp only[aqD] at hk;exact⟨by rw[kZ hk]; exact aiO,λ h=>by cases h⟩
     | true=>
      simp only[aqE] at hk;split at hk
      ·cases hk
      ·next rs2 ls anH=>
       split at hk
       ·next hok=>
        rw[aqF] at hok
        let γ2:Nat->Own:=λ b=>open Classical in if b∈xo then γ b else if b<w.heap.size/\b∈r then .persist else γ' b
        have hold:∀ b,b<w.heap.size->γ' b=.alien∨(γ' b=.persist/\(b∈xo∨b∈r)):=λ b hb=>by
         rcases hr'.old b hb (by simp) with h|⟨h1,h2⟩
         ·exact .inl h
         ·exact .inr ⟨h1,by simpa[A] using h2⟩
        have ahy:∀ b,(∃ i,γ' b=.top i)∨(∃ i,γ' b=.deep i)->γ2 b=γ' b/\w.heap.size<=b:=by
         intro b hb;have hge:w.heap.size<=b:=by
          rcases Nat.lt_or_ge b w.heap.size with h|h
          ·exfalso;rcases hold b h with e|⟨e,_⟩<;>rcases hb with⟨i,e'⟩|⟨i,e'⟩<;>rw[e] at e'<;>cases e'
          ·exact h
         have h1:b∉xo:=λ h=>by have:=anR b h; omega
         refine⟨?_,hge⟩;simp only[γ2,if_neg h1];rw[if_neg (by omega)]
        have ajm:∀ b,b<w.heap.size->w'.heap[b]?=w.heap[b]?:=λ b hb=>hr'.keeps.block b hb (by simp);have hr2:Rel0 w.heap.size xo { rds:=r,pins:=[],gl:=gl } w γ2 loc' (uh (Yq es) st') a' w':={
         defers:=hr'.defers
         keeps:=⟨hr'.keeps.os,hr'.keeps.tape,hr'.keeps.output,hr'.keeps.size,λ k hk _=>hr'.keeps.block k hk (by simp),hr'.keeps.free,hr'.keeps.shape⟩
         unf:=λ b hb=>by
          by_cases h1:b∈xo
          ·exact (hA.unfr b (by simp[h1])).congr (ajm b (anR b h1))
          ·by_cases h2:b<w.heap.size/\b∈r
           ·simp[γ2,h1,h2,owned] at hb
           ·simp only[γ2,if_neg h1,if_neg h2] at hb;exact hr'.unf b hb
         old:=λ b hb hx=>by
          by_cases h2:b∈r
          ·right; simp[γ2,hx,hb,h2]
          ·simp only[γ2,if_neg hx,h2,and_false,if_false];rcases hold b hb with h|⟨h,h3⟩
           ·exact .inl h
           ·rcases h3 with h3|h3
            ·exact absurd h3 hx
            ·exact absurd h3 h2
         Ble:=hr'.Ble
         size:=hr'.size
         slots:=hr'.slots
         ents:=λ id e he=>by
          have he:=kM _ _ _ _ _ _ he;cases hl:look st'.tab id with
          | none=>rw[hl] at he; cases he
          | some x=>
           have ajV:=hr'.ents id x hl;rw[hl] at he
           match x,he,hl,ajV with
           | .box l c,he,hl,ajV=>
            cases he;obtain⟨b,arr,T,fr,g1,g2,g3,g4,g5⟩:=ajV;exact⟨b,arr,T,fr,g1,g2,g3,by rw[(ahy b (.inl ⟨_,g4⟩)).1]; exact g4,g5⟩
           | .arr (.own true) l E e xs,he,hl,ajV=>
            cases he;obtain⟨ys,fs,g1,g2,g3,g4⟩:=ajV;exact⟨ys,fs,g1,λ b hb=>by rw[(ahy b (.inl ⟨_,g2 b hb⟩)).1]; exact g2 b hb,g3,λ b hb=>by rw[(ahy b (.inr ⟨_,g4 b hb⟩)).1]; exact g4 b hb⟩
           | .arr (.imm false) l E e xs,he,hl,ajV=>
            simp only[l9] at he;split at he
            ·next hel=>
             cases he;have hid:id∈Yq es:=List.elem_iff.1 hel;obtain⟨E0,e0,x0,h3⟩:=ane hid;have akj:(look (YF (Yq es) es) id).isSome:=by rw[pz,h3]; rfl
             obtain⟨y,hy⟩:=Option.isSome_iff_exists.1 akj;rcases cC _ _ _ _ hy with⟨h1,h2⟩|⟨h1,u,lvl,E1,e1,x1,h2,rfl⟩
             ·rw[h3] at h1;cases h1;exact absurd rfl (h2 hid false 0 E0 e0 x0)
             ·rw[h3] at h2;cases h2;have hkeep:=hp.tab id _ hy (by show (0:Nat)≠1; omega)
              rw[hl] at hkeep;cases hkeep;obtain⟨aoA,_,alX,_⟩:=hEn.ents id _ h3;obtain⟨ys,fs,g1,g2,g3⟩:=aoA;have ahn:loc' id=loc id:=(hr'.pins (id,loc id) (List.mem_map.2 ⟨id,List.mem_range.2 alX,rfl⟩)).2;have glt:=g1.lt;refine⟨ys,fs,?_,λ b hb => ?_,λ b hb => ?_⟩
              ·rw[ahn];exact g1.frame (λ b hb=>ajm b (glt.1 b hb)) (λ b hb=>ajm b (glt.2 b hb))
              ·have:=anM b _ (g2 b hb);simp only[γ2,if_pos this];exact g2 b hb
              ·have hb':=g3 b hb;by_cases h1:b∈xo
               ·simp only[γ2,if_pos h1]; exact hb'
               ·rcases hg0 b h1 with⟨_,hm⟩|⟨e,_⟩
                ·simp[γ2,h1,hm,glt.2 b hb]
                ·rw[e] at hb'; cases hb'
            ·cases he
         slt:=hr'.slt
         elt:=λ id e he=>by
          have he:=kM _ _ _ _ _ _ he;cases hl:look st'.tab id with
          | none=>rw[hl] at he; cases he
          | some x=>
           have hlt:=hr'.elt id x hl;rw[hl] at he
           match x,he,hlt with
           | .box l c,he,hlt=>cases he; exact hlt
           | .arr (.own true) l E e xs,he,hlt=>cases he; exact hlt
           | .arr (.imm false) l E e xs,he,hlt=>
            simp only[l9] at he;split at he
            ·cases he; exact⟨trivial,hlt.2⟩
            ·cases he
         pins:=by simp
         dlab:=by simp
         glob:=⟨hG,λ b hb=>⟨(hgb b hb).1,λ h=>(hgb b hb).2 (by simp[h])⟩,Nat.le_refl _,λ b hb=>hA.unfr b (by simp[hb])⟩
         rtag:=by intro h; cases h
         dpc:=by simp }
        have ajT:∀ b,((∃ i,γ2 b=.top i)∨∃ i,γ2 b=.deep i)->w.heap.size<=b∨b∈xo:=by
         intro b hb;by_cases h1:b∈xo
         ·exact .inr h1
         ·left;rcases Nat.lt_or_ge b w.heap.size with hlt|hlt
          ·exfalso;rcases hr2.old b hlt h1 with h|⟨h,_⟩<;>rcases hb with⟨i',e'⟩|⟨i',e'⟩<;>rw[h] at e'<;>cases e'
          ·exact hlt
        have ajp:∀ b,γ2 b ≠ .alien->From w.heap.size (r++[]++[]) xo b:=by
         intro b hb;by_cases h1:b∈xo
         ·exact .inr (.inr h1)
         ·rcases Nat.lt_or_ge b w.heap.size with hlt|hlt
          ·rcases hr2.old b hlt h1 with h|⟨_,h⟩
           ·exact absurd h hb
           ·exact .inr (.inl (by simpa using h))
          ·exact .inl hlt
        have ahO:pf.rk ≠ .shared/\∃ css2,K3 w' w.heap.size pf.rk (r++[]++[]) xo [] pf.rets (YP (ZP pf.rets css2)) rs2/\All2 (λ x v=>(JN a'.tmps x).run P w'=.ok v w') fn.results.toList (ZP pf.rets css2)/\
          ∃ fs',RetL w' .shared pf.rets rs2 css2 [] fs':=by
         cases hrk:pf.rk with
         | shared=>rw[hrk] at hok; exact absurd hok.2 (by simp)
         | uniq=>
          refine⟨by simp,?_⟩;have aiv:=hok.1;rw[hrk] at aiv;simp only[QT] at aiv;obtain⟨ids,aju⟩:=Option.isSome_iff_exists.1 aiv;obtain⟨g1,g2⟩:=Jx aju;obtain⟨css2,xb,fs,q1,q2,q3,q4,q5,q6⟩:=du hE.tys hr2 .uniq (by simp) _ _ _ _ _ anH g1;obtain⟨n1,n2⟩:=q6 g2;refine⟨css2,⟨css2,xb,fs,q1,rfl,⟨Z3 q3 n1 ?_,?_⟩,λ _ b hb=>by obtain⟨i,_,e⟩:=n2 b hb; exact hr2.unf b (by rw[e]; trivial)⟩,q2,uk (by simp) q1⟩
          ·intro b hb hb';obtain⟨i,_,e⟩:=q4 b hb;obtain⟨i',_,e'⟩:=n2 b hb';rw[e] at e'; cases e'
          ·intro b hb;refine⟨?_,by simp⟩;rcases List.mem_append.1 hb with hb|hb
           ·obtain⟨i,hi,e⟩:=q4 b hb;exact ajT b (.inl ⟨i,e⟩)
           ·obtain⟨i,hi,e⟩:=n2 b hb;exact ajT b (.inr ⟨i,e⟩)
         | own=>
          refine⟨by simp,?_⟩;have aiv:=hok.1;rw[hrk] at aiv;simp only[QT] at aiv;obtain⟨ids,g1⟩:=Option.isSome_iff_exists.1 aiv;obtain⟨css2,xb,fs,q1,q2,q3,q4,q5,q6⟩:=du hE.tys hr2 .own (by simp) _ _ _ _ _ anH g1;refine⟨css2,⟨css2,xb,fs,q1,rfl,⟨q3,?_,?_,?_⟩,λ h=>by cases h⟩,q2,uk (by simp) q1⟩
          ·intro b hb;obtain⟨i,hi,e⟩:=q4 b hb;exact⟨ajT b (.inl ⟨i,e⟩),by simp⟩
          ·intro b hb hb';obtain⟨i,_,e⟩:=q4 b hb;rcases q5 b hb' with e'|⟨i',_,e'⟩<;>rw[e] at e'<;>cases e'
          ·intro b hb;rcases q5 b hb with e|⟨i,_,e⟩
           ·exact ajp b (by simp[e])
           ·exact ajp b (by simp[e])
        obtain⟨_,css2,hR,q2,fs',q3⟩:=ahO;have hv:=abA k2 q2;obtain⟨b2,anb⟩:=Bk aiO rs2;have apG:=rB q3 anb;obtain⟨us1,e1,_⟩:=mQ akQ;obtain⟨us2,e2,_⟩:=mQ apG;have hb2:b2=true:=by
         rw[e1,e2] at hv;have:=List.append_inj_right' hv rfl;simpa using this.symm
        subst hb2;exact⟨by rw[kZ hk]; exact anb,λ _=>⟨[],sb hk (by rw[hv]; exact hR)⟩⟩
       ·cases hk
  cases x with
  | exit id=>cases hk
  | normal=>exact aiP hk
  | ret=>exact aiP hk
 ·cases hout
end Ev
