/- The evaluator of the own library, part 7: its words, its soundness. Conditions: none of its own. -/
import Derived.Test.YtbpajdecanoolaaGreatDoorLibF
import Derived.Deep.Slices
import Derived.Carry
import Derived.ProofKit
import Derived.OpenShut
import Derived.JoinedCond
set_option linter.unusedSimpArgs false
set_option linter.unusedVariables false
namespace Ev
open Go
variable {H:Type} {enc:TypeId×Value->H} {P:Program} {w:World} {tys:List (Nat×TD)}
def tile (tys:List (Nat×TD)):List (Nat×Nat)->Ty->Nat->Bool
 | [(off,ft)],ty,o=>Nat.beq off o && (match lk tys ft with|some d=>decide (d.ty=ty) && d.arr.isNone|none=>false)
 | (off,ft)::g::r,.pair a b,o=>(Nat.beq off o && (match lk tys ft with|some d=>decide (d.ty=a) && d.arr.isNone|none=>false)) && tile tys (g::r) b (o+a.size)
 | _,_,_=>false
def vw (tys:List (Nat×TD)):Bool:=tys.all λ x => !x.2.ty.isPair || tile tys x.2.flds x.2.ty 0
structure Meas (μ:DataW H->Nat):Prop where
 str:∀ b,b.length<=μ (.lit (.string b))
 sl:∀ el sp,el.length<=μ (.slice el sp)
 slp:∀ el sp,∀ d∈el,μ d<=μ (.slice el sp)
 agg:∀ ps,∀ d∈ps,μ d<=μ (.agg ps)
theorem TOk.cells {t:Nat} {d:TD} (h:TOk P tys t d) (ha:d.arr=none):P.cellsOf t=d.ty.size:=by
 obtain⟨i,hi,hc⟩:=h.info;unfold Nt at hc;rw[ha] at hc;simp only[apO] at hc;simp only[Go.Program.cellsOf,hi,aqz,aqw];exact (zJ _ _).1 hc.2.1
theorem If {ft:Nat} {ty:Ty} (h:(match lk tys ft with|some d=>decide (d.ty=ty) && d.arr.isNone|none=>false)=true):∃ d,lk tys ft=some d/\d.ty=ty/\d.arr=none:=by
 cases hl:lk tys ft with
 | none=>rw[hl] at h; cases h
 | some d=>
  rw[hl] at h;simp only[apO,apY,aqI] at h;exact⟨d,rfl,h.1,h.2⟩
theorem El (hT:yg P tys=true) {n M N:Nat} {μ:DataW H->Nat}
  (ih:∀ (t:Nat) (d:TD) (cs:List Value) (x:DataW H×List MemPlace),lk tys t=some d->d.arr=none->DataW.trod enc P w 0 (λ _=>true) true n t cs=some x->μ x.1<=M->∃ (v:den d.ty) (fp:List Nat),Rd w d.ty v cs fp):
  ∀ (fl:List (Nat×Nat)) (fs:List Field) (ty:Ty) (o:Nat) (cs:List Value),tile tys fl ty o=true->Yw tys N fs fl=true->
   (∀ f∈fs,∃ x,DataW.trod enc P w 0 (λ _=>true) true n f.type ((cs.drop f.offset).take (P.cellsOf f.type))=some x/\μ x.1<=M)->
   ∃ (v:den ty) (fp:List Nat),Rd w ty v ((cs.drop o).take ty.size) fp
 | [],fs,ty,o,cs,h,_,_=>by simp[tile] at h
 | [(off,ft)],fs,ty,o,cs,h,hf,hx=>by
  simp only[tile,apO] at h;obtain⟨d,hd,hty,ha⟩:=If h.2;have ho:=(zJ _ _).1 h.1
  match fs,hf with
  | f::fs',hf=>
   simp only[Yw,apO] at hf;have h1:=(zJ _ _).1 hf.1.1.1;have h2:=(zJ _ _).1 hf.1.1.2;obtain⟨x,hx1,hx2⟩:=hx f (by simp);rw[h2] at hx1;have hc:=(z6 hT hd).cells ha;obtain⟨v,fp,hr⟩:=ih ft d _ x hd ha hx1 hx2;subst hty;rw[hc,h1,ho] at hr;exact⟨v,fp,hr⟩
 | (off,ft)::g::r,fs,.pair a b,o,cs,h,hf,hx=>by
  simp only[tile,apO] at h;obtain⟨d,hd,hty,ha⟩:=If h.1.2;have ho:=(zJ _ _).1 h.1.1
  match fs,hf with
  | f::fs',hf=>
   simp only[Yw,apO] at hf;have h1:=(zJ _ _).1 hf.1.1.1;have h2:=(zJ _ _).1 hf.1.1.2;obtain⟨x,hx1,hx2⟩:=hx f (by simp);rw[h2] at hx1;have hc:=(z6 hT hd).cells ha;obtain⟨v,fp,hr⟩:=ih ft d _ x hd ha hx1 hx2;subst hty;rw[hc,h1,ho] at hr;obtain⟨v2,fp2,hr2⟩:=El hT ih (g::r) fs' b (o+d.ty.size) cs h.2 hf.2 (λ f' hf'=>hx f' (by simp[hf']));refine⟨(v,v2),fp++fp2,_,_,_,_,?_,rfl,hr,hr2⟩;rw[Ty.size,List.take_add,aqy]
 | (off,ft)::g::r,fs,.i64,o,cs,h,_,_=>by simp[tile] at h
 | (off,ft)::g::r,fs,.u8,o,cs,h,_,_=>by simp[tile] at h
 | (off,ft)::g::r,fs,.bool,o,cs,h,_,_=>by simp[tile] at h
 | (off,ft)::g::r,fs,.str,o,cs,h,_,_=>by simp[tile] at h
 | (off,ft)::g::r,fs,.sl _ _,o,cs,h,_,_=>by simp[tile] at h
theorem Ek {e:Ty} {arr:Array Value} {o len:Nat} (h:∀ i<len,∃ cs,(arr.toList.drop (o+i*e.size)).take e.size=cs/\∃ (v:den e) (fp:List Nat),Rd w e v cs fp):
  ∀ k,k<=len->∃ (xs:List (den e)) (fp:List Nat),xs.length=k/\RdL (Rd w e) xs (arr.toList.drop (o+(len - k)*e.size)) fp
 | 0,_=>⟨[],[],rfl,rfl⟩
 | k+1,hk=>by
  obtain⟨xs,fp,h1,h2⟩:=Ek h k (by omega);obtain⟨cs,hcs,v,fv,hv⟩:=h (len - (k+1)) (by omega);refine⟨v::xs,fv++fp,by simp[h1],cs,_,fv,fp,?_,rfl,hv,h2⟩;rw[←hcs];have e1:o+(len - k)*e.size=(o+(len - (k+1))*e.size)+e.size:=by
   have:len - k=(len - (k+1))+1:=by omega
   rw[this,aqk]; omega
  rw[e1];generalize o+(len - (k+1))*e.size=m;rw[←aqy,arj]
theorem Um {a:Addr} {n:Nat} {cs:List Value} (h:w.cells? 0 a n=some cs) (hn:0<n):∃ arr T fr,w.heap[a.block]?=some (.cells arr T fr)/\a.spot=none:=by
 obtain⟨_,h1,h2⟩:=World.cells?_some h;have h3:=h2 0 hn;have:a.add 0=a:=by simp[Addr.add]
 rw[this] at h3;unfold World.cell? at h3;split at h3
 ·next arr T fr hb=>
  split at h3
  ·rw[aqC (by omega)] at h3; cases h3
  ·next hs=>exact⟨arr,T,fr,hb,by simpa using hs⟩
 ·rw[aqC (by omega)] at h3; cases h3
theorem Un {a:Addr} {n i sz:Nat} {cs:List Value} {arr:Array Value} {T:TypeId} {fr:Nat×Nat} (h:w.cells? 0 (a.add i) sz=some cs) (hb:w.heap[a.block]?=some (.cells arr T fr)) (hs:a.spot=none) (hsz:0<sz):
  (arr.toList.drop (a.off+i)).take sz=cs:=by
 obtain⟨_,h1,h2⟩:=World.cells?_some h;have key:∀ j<sz,arr[a.off+i+j]?=cs[j]?:=by
  intro j hj;have h3:=h2 j hj;rw[Deep.add_add] at h3;unfold World.cell? at h3;have e1:(a.add (i+j)).block=a.block:=by unfold Addr.add; split<;>rfl
  have e2:(a.add (i+j)).spot=none:=by unfold Addr.add; split<;>simp[hs]
  have e3:(a.add (i+j)).off=a.off+(i+j):=by unfold Addr.add; split<;>simp_all
  rw[e1,hb] at h3;simp only[e2,e3,arH,aqc,if_false] at h3;rw[←h3];congr 1;omega
 apply List.ext_getElem?;intro j;by_cases hj:j<sz
 ·rw[arT hj,ar4,←key j hj,aqK]
 ·rw[aqh (by simp; omega),aqh (by omega)]
theorem aaw (hT:yg P tys=true) (hTi:vw tys=true) {μ:DataW H->Nat} (hμ:Meas μ):∀ (n:Nat) (t:Nat) (d:TD) (cs:List Value) (x:DataW H×List MemPlace),lk tys t=some d->d.arr=none->
  DataW.trod enc P w 0 (λ _=>true) true n t cs=some x->μ x.1<=1048576->∃ (v:den d.ty) (fp:List Nat),Rd w d.ty v cs fp:=by
 intro n;induction n with
 | zero=>intro t d cs x _ _ h; simp[DataW.trod] at h
 | succ n ih=>
  intro t d cs x hd ha h hb;have ht:=z6 hT hd;have hti:=List.all_eq_true.1 hTi _ (Ll hd);obtain⟨ty,bytes,flds,arr⟩:=d;simp only at ha hti;subst ha;cases ty with
  | i64=>
   obtain⟨m,rfl,rfl,hw⟩:=DataW.trod_int (ht.i64 rfl rfl) h;refine⟨m,[],rfl,rfl,?_⟩;rw[K3];simpa[Lit.wf,IntKind.min,IntKind.max,IntKind.signed,IntKind.bits] using hw
  | u8=>
   obtain⟨m,rfl,rfl,hw⟩:=DataW.trod_int (ht.u8 rfl rfl) h;have hm:0<=m/\m<=255:=by simpa[Lit.wf,IntKind.min,IntKind.max,IntKind.signed,IntKind.bits] using hw
   refine⟨UInt8.ofNat m.toNat,[],?_,rfl⟩;have:((UInt8.ofNat m.toNat).toNat:Int)=m:=by
    rw[UInt8.toNat_ofNat',arA (by simp; omega)]
    omega
   rw[this]
  | bool=>
   obtain⟨m,rfl,rfl⟩:=DataW.trod_bool (ht.bool rfl) h;exact⟨m,[],rfl,rfl⟩
  | str=>
   obtain⟨s,rfl,rfl,hw⟩:=DataW.trod_string (ht.str rfl rfl) h;refine⟨s.data.toList,[],rfl,rfl,?_⟩;have:=hμ.str s.data.toList;simp only[Bnd];simp only at hb;omega
  | sl E e=>
   obtain⟨hu,de,hde,hty,hda⟩:=ht.slice rfl rfl;rcases DataW.trod_slice hu h with⟨rfl,rfl⟩|⟨a,len,cap,elems,rest,n',hn',rfl,rfl,hb0,hl,hm,hlen,hel,_⟩
   ·exact⟨[],[],none,0,0,rfl,rfl,Nat.le_refl _,by simp,.inl ⟨rfl,rfl⟩⟩
   ·cases hn';simp only at hb;have hlb:=hμ.sl (elems.map (·.1)) (rest.map (·.1));rw[aqu,hlen] at hlb;rcases Nat.eq_zero_or_pos len with h0|aiV
    ·subst h0;exact⟨[],[],some a,0,cap,rfl,rfl,hl,by simp,.inl ⟨rfl,rfl⟩⟩
    ·have hsz:P.cellsOf E=de.ty.size:=(z6 hT hde).cells hda;have hsp:=de.ty.size_pos;have ahP:∀ i<len,∃ cs',w.cells? 0 (a.add (i*P.cellsOf E)) (P.cellsOf E)=some cs'/\∃ y,elems[i]?=some y/\DataW.trod enc P w 0 (λ _=>true) true n E cs'=some y:=by
      intro i hi;have:=hel i hi;rw[aqC (by omega)] at this;obtain⟨cs',h1,h2⟩:=Option.bind_eq_some_iff.1 this;exact⟨cs',h1,_,List.getElem?_eq_getElem (by omega),h2⟩
     obtain⟨cs0,hc0,_⟩:=ahP 0 aiV;rw[Nat.zero_mul,show a.add 0=a by simp[Addr.add]] at hc0;obtain⟨arr,T,fr,aiE,alB⟩:=Um hc0 (by omega);have hE:∀ i<len,∃ cs,(arr.toList.drop (a.off+i*de.ty.size)).take de.ty.size=cs/\∃ (v:den de.ty) (fp:List Nat),Rd w de.ty v cs fp:=by
      intro i hi;obtain⟨cs',h1,y,hy,h2⟩:=ahP i hi;rw[hsz] at h1;refine⟨cs',Un (n:=0) h1 aiE alB hsp,ih E de cs' y hde hda h2 ?_⟩;have:=hμ.slp (elems.map (·.1)) (rest.map (·.1)) y.1 (List.mem_map_of_mem (List.mem_of_getElem? hy));omega
     obtain⟨xs,fp,hx1,hx2⟩:=Ek hE len (Nat.le_refl _);rw[Nat.sub_self,ar8,aqJ] at hx2;subst hty;obtain⟨ab,ao,asp⟩:=a;simp only at alB aiE hx2;subst alB;exact⟨xs,ab::fp,some ⟨ab,ao,none⟩,len,cap,rfl,hx1.symm,hl,by omega,.inr ⟨ab,ao,arr,T,fr,fp,rfl,aiE,rfl,hx2⟩⟩
  | pair a b=>
   obtain⟨fs,hu,hf⟩:=ht.struct rfl rfl;obtain⟨xs,n',hn',rfl,hlen,hxl,ahP⟩:=DataW.trod_struct hu h;cases hn';have hsz:P.cellsOf t=(Ty.pair a b).size:=ht.cells rfl;simp only[Ty.isPair,apT,arK] at hti;have hF:=El hT (n:=n) (M:=1048576) (N:=(Ty.pair a b).size) (μ:=μ) ih flds fs.toList (Ty.pair a b) 0 cs hti hf (λ f hf'=>by
    obtain⟨i,hi⟩:=List.mem_iff_getElem?.1 hf';have hi':fs[i]?=some f:=by rw[←aqK]; exact hi
    have hlt:i<xs.length:=by
     rw[hxl,←aqt];rcases Nat.lt_or_ge i fs.toList.length with h|h
     ·exact h
     ·rw[aqh h] at hi; cases hi
    have:=ahP i f hi';rw[aqC hlt] at this;refine⟨xs[i],this,?_⟩;have h2:=hμ.agg (xs.map (·.1)) xs[i].1 (List.mem_map_of_mem (List.getElem_mem hlt));simp only at hb;omega)
   rw[aq8,ar6 (by omega)] at hF;exact hF
end Ev
namespace Ev
open Go Go.ChangeShapes Go.WideShapes Go.RowKit
variable {H:Type} {enc:TypeId×Value->H} {P:Program} {w w':World} {tys:List (Nat×TD)}
theorem Ul {f:FuncId} {fn:Func} {args:Array Value} {R:Value->World->Prop} (hf:P.funcs[f]?=some fn) (hb:fn.body.isSome=true) (hn:(fn.name == "runtime.NumGoroutine")=false) (h:CallsTo P f args w R):
  Calls P f args w λ e w'=>∃ v,e=.returned v/\R v w':=by
 obtain⟨body,ahs⟩:=Option.isSome_iff_exists.1 hb;have hcf:(callFunc f args).run P w=.ok (.enter f args) w:=by
  have hn':¬ fn.name = "runtime.NumGoroutine" := by simpa using hn
  simp[callFunc,hf,hn',ahs]
 unfold CallsTo at h;rw[hcf] at h;refine Calls.mono h λ e w'' he => ?_;cases e with
 | returned v=>exact⟨v,rfl,he⟩
 | panicked _=>exact he.elim
 | outgrown=>exact he.elim
theorem aaE {n:Nat} {rr xo pt:List Nat} {v:Value} {b:Bool} (h:KZ w' n .uniq rr xo pt [.bool] v (b,())):v=.bool b:=by
 obtain⟨css,xs,fs,h1,h2,_⟩:=h;obtain⟨cs,css',x1,x2,f1,f2,rfl,_,_,h3,h4⟩:=h1;obtain⟨rfl,_,_⟩:=h4;have h5:RdO w' .bool b cs x1 f1:=h3;obtain⟨⟨rfl,_⟩,_,_⟩:=h5;rw[h2];rfl
theorem T4 (hT:yg P tys=true) (hTi:vw tys=true) {μ:DataW H->Nat} (hμ:Meas μ) {r:Reach} {b0:Nat} {t:Nat} {d:TD} {v:Value} {dd:DataW H} {ps:List MemPlace} (hd:lk tys t=some d) (ha:d.arr=none)
  (hval:Value.okWide P w r b0 t v) (h:DataW.Trod enc P w 0 (λ _=>true) true t v dd ps) (hb:μ dd<=1048576):∃ (x:den d.ty) (cs:List Value) (fp:List Nat),v=zU d.ty cs/\Rd w d.ty x cs fp:=by
 obtain⟨n,hn⟩:=h;obtain⟨x,fp,hx⟩:=aaw hT hTi hμ n t d v.cells.toList (dd,ps) hd ha hn hb;refine⟨x,v.cells.toList,fp,?_,hx⟩;have ht:=z6 hT hd;cases hty:d.ty with
 | i64=>
  obtain⟨m,rfl⟩:=okWide_int (ht.i64 hty ha) hval;rfl
 | u8=>
  obtain⟨m,rfl⟩:=okWide_int (ht.u8 hty ha) hval;rfl
 | bool=>
  obtain⟨m,rfl⟩:=okWide_bool (ht.bool hty) hval;rfl
 | str=>
  obtain⟨m,rfl⟩:=okWide_string (ht.str hty ha) hval;rfl
 | sl E e=>
  obtain⟨hu,_⟩:=ht.slice hty ha;obtain⟨a,l,c,rfl⟩:=okWide_slice hu hval;rfl
 | pair a b=>
  obtain⟨fs,hu,_⟩:=ht.struct (by rw[hty]; rfl) ha
  obtain⟨cs,rfl,_⟩:=okWide_struct hu hval;simp[zU,Ty.isPair,Value.cells]
theorem W9 {may:MemPlace->Prop} (h:Below w.heap.size w w'):w.keptBut w' may:=by
 refine⟨h.os,h.output,λ i hi => ?_⟩;rw[h.block i hi];split
 ·next h1 h2=>rw[h1] at h2; cases h2; exact⟨rfl,rfl,rfl,λ _ _=>rfl⟩
 ·next h1 h2=>rw[h1] at h2; cases h2; exact .inr ⟨rfl,rfl⟩
 ·rfl
theorem aan {f:Func} {s:ChangeSpec} {args:Array Value} {v:Value} {ds:List (DataW H)} {before:List MemPlace} (hsv:s.vars=[])
  (hW:DataW.Whole enc P f.params.toList s.vars false w args.toList ds [] before)
  (aib:∀ (b:Nat) (sp:Nat->Bool),DataW.TrodAll enc P w' b sp false f.resultTypes.toList (v.resultList f.resultTypes.size) (s.fn H (ds++[])).results [])
  (hargs:DataW.TrodAll enc P w' 0 (λ b=>decide (b<w.heap.size)) true f.params.toList args.toList (s.fn H (ds++[])).args before)
  (hv:(s.fn H (ds++[])).vars=[]) (hk:Below w.heap.size w w'):s.post enc P f false true false false w args v w':=by
 refine⟨ds,[],before,[],before,[],hW,aib _ _,hargs,?_,W9 hk,λ h=>by cases h⟩;rw[hsv,hv];rfl
end Ev
namespace Ev
open Go
variable {P:Program} {gl:Glob}
def AllS (P:Program) (gl:Glob):List (Nat×PF)->Prop
 | []=>True
 | [x]=>Sound P gl x.1 x.2/\True
 | x::y::r=>Sound P gl x.1 x.2/\AllS P gl (y::r)
def AllN (P:Program) (gl:Glob):List (Nat×NF)->Prop
 | []=>True
 | [x]=>LT P gl x.1 x.2/\True
 | x::y::r=>LT P gl x.1 x.2/\AllN P gl (y::r)
theorem AllS.mem:∀ {l:List (Nat×PF)},AllS P gl l->∀ x∈l,Sound P gl x.1 x.2
 | [],_,_,hx=>by simp at hx
 | [x],h,y,hy=>by
  have:y=x:=by simpa using hy
  subst this;exact h.1
 | x::z::r,h,y,hy=>by
  rcases List.mem_cons.1 hy with rfl|hy
  ·exact h.1
  ·exact AllS.mem h.2 y hy
theorem AllN.mem:∀ {l:List (Nat×NF)},AllN P gl l->∀ x∈l,LT P gl x.1 x.2
 | [],_,_,hx=>by simp at hx
 | [x],h,y,hy=>by
  have:y=x:=by simpa using hy
  subst this;exact h.1
 | x::z::r,h,y,hy=>by
  rcases List.mem_cons.1 hy with rfl|hy
  ·exact h.1
  ·exact AllN.mem h.2 y hy
def AllM (P:Program) (gl:Glob):List (Nat×MF)->Prop
 | []=>True
 | [x]=>qy P gl x.1 x.2
 | x::r=>qy P gl x.1 x.2/\AllM P gl r
theorem AllM.mem:∀ {l:List (Nat×MF)},AllM P gl l->∀ x∈l,qy P gl x.1 x.2
 | [],_,_,hx=>by simp at hx
 | [x],h,y,hy=>by
  have:y=x:=by simpa using hy
  subst this;exact h
 | x::z::r,h,y,hy=>by
  rcases List.mem_cons.1 hy with rfl|hy
  ·exact h.1
  ·exact AllM.mem h.2 y hy
def AllC (P:Program) (gl:Glob):List (Nat×PF)->Prop
 | []=>True
 | [x]=>K0 P gl x.1 x.2
 | x::r=>K0 P gl x.1 x.2/\AllC P gl r
theorem AllC.mem:∀ {l:List (Nat×PF)},AllC P gl l->∀ x∈l,K0 P gl x.1 x.2
 | [],_,_,hx=>by simp at hx
 | [x],h,y,hy=>by
  have:y=x:=by simpa using hy
  subst this;exact h
 | x::z::r,h,y,hy=>by
  rcases List.mem_cons.1 hy with rfl|hy
  ·exact h.1
  ·exact AllC.mem h.2 y hy
def AllJ (P:Program) (gl:Glob):List (Nat×PF)->Prop
 | []=>True
 | [x]=>Kt P gl x.1 x.2
 | x::r=>Kt P gl x.1 x.2/\AllJ P gl r
theorem AllJ.mem:∀ {l:List (Nat×PF)},AllJ P gl l->∀ x∈l,Kt P gl x.1 x.2
 | [],_,_,hx=>by simp at hx
 | [x],h,y,hy=>by
  have:y=x:=by simpa using hy
  subst this;exact h
 | x::z::r,h,y,hy=>by
  rcases List.mem_cons.1 hy with rfl|hy
  ·exact h.1
  ·exact AllJ.mem h.2 y hy
theorem Vl {tys:List (Nat×TD)} {eqs:List Nat} {fns:List (Nat×PF)} {news:List (Nat×NF)} {muts:List (Nat×MF)} {frz hold:Bool} {conds joins alts:List (Nat×PF)} (hm:P.follows .mixedOrders=true) (hT:yg P tys=true) (hQ:eqs.all (MZ P tys)=true)
  (h:AllS P gl fns) (h2:AllN P gl news) (h3:AllM P gl muts) (h4:AllC P gl conds) (h5:AllJ P gl joins) (h6:AllS P gl alts):Zt P gl ⟨tys,fns,eqs,news,muts,frz,conds,joins,alts,hold⟩:=
 ⟨hm,hT,hQ,λ f pf hl=>h.mem _ (Ll hl),λ f nf hl=>h2.mem _ (Ll hl),λ f mf hl=>h3.mem _ (Ll hl),λ f cf hl=>h4.mem _ (Ll hl),λ f cf hl=>h5.mem _ (Ll hl),λ f qf hl=>h6.mem _ (Ll hl)⟩
noncomputable section
def Yg:List (Nat×Ent)->List Nat
 | []=>[]
 | (id,.arr (.own _) _ _ _ _)::r=>id::Yg r
 | _::r=>Yg r
def lK (lend:List Nat) (lvl id:Nat):Option Ent->Option Ent
 | some (.box l c)=>some (.box l c)
 | some (.arr (.own true) l E e xs)=>some (.arr (.own true) l E e xs)
 | some (.arr (.imm false) l E e xs)=>match lend.elem id with
  | true=>some (.arr (.own false) lvl E e xs)
  | false=>none
 | _=>none
def QR (lend:List Nat) (lvl:Nat) (tab:List (Nat×Ent)):List (Nat×Ent)->List (Nat×Ent)
 | []=>[]
 | (id,_)::r=>match lK lend lvl id (look tab id) with
  | some e=>(id,e)::QR lend lvl tab r
  | none=>QR lend lvl tab r
def tF (lend:List Nat) (st:St):St:={ st with tab:=QR lend st.lvl st.tab st.tab }
def QF (rets:List Ty):(ps:List (PK×Ty))->dens rets->Option (zQ ps rets)
 | [],v=>some v
 | (.rd,_)::ps,v=>QF rets ps v
 | (.own,_)::ps,v=>QF rets ps v
 | (.ptr,_)::_,_=>none
 | (.cap,_)::_,_=>none
 | (.clo _,_)::_,_=>none
def fA (F:jk) (fn:Func) (ps:List (PK×Ty)) (rets:List Ty) (rk:RK) (lend:List Nat) (st:St):Option (zQ ps rets):=
 match JG F.E st rets fn.results.toList with
 | none=>none
 | some (rs,_)=>match Ye rets rs with
  | none=>none
  | some b=>bif b
   then (match JG F.E (tF lend st) rets fn.results.toList with
    | none=>none
    | some (rs2,ls)=>match QU (tF lend st) ls rk && !(match rk with | .shared=>true|_=>false) with
     | true=>QF rets ps rs2
     | false=>none)
   else QF rets ps rs
def roE:Ent->Bool
 | .arr (.imm false) _ _ _ _=>true
 | .arr (.own false) lvl _ _ _=>Nat.beq lvl 0
 | _=>false
def XK:Option Ent->Bool
 | some (.arr (.own false) lvl _ _ _)=>Nat.beq lvl 0
 | _=>false
def Ew (es:List (Nat×Ent)):Bool:=es.all (λ p=>roE p.2) && (Yg es).all (λ id=>XK (look es id))
def fu (F:jk) (fn:Func) (ps:List (PK×Ty)) (rets:List Ty) (rk:RK) (args:yc ps):Option (zQ ps rets):=
 match fn.body,jg ps args 0 with
 | some body,some (avs,es,j)=>match Ew es with
  | false=>none
  | true=>jJ F body { slots:=avs++List.replicate (fn.ntmps - avs.length) (.tup []),tab:=Yx (Yg es) es,nxt:=j,lvl:=1 } λ x st=>
   match x with
   | .exit _=>none
   | .normal=>fA F fn ps rets rk (Yg es) st
   | .ret=>fA F fn ps rets rk (Yg es) st
 | _,_=>none
end
variable {P:Program} {a:Act} {w w':World} {E:Env} {B:Nat} {X:List Nat} {A:Ctx} {w0:World} {γ:Nat->Own} {loc:Nat->Value} {st:St}
theorem Bw:∀ {es:List (Nat×Ent)} {id:Nat} {u:Bool} {lvl E:Nat} {e:Ty} {xs:List (den e)},look es id=some (.arr (.own u) lvl E e xs)->id∈Yg es
 | [],id,u,lvl,E,e,xs,h=>by simp[look] at h
 | (i,x)::r,id,u,lvl,E,e,xs,h=>by
  rw[yR] at h;split at h
  ·next hi=>
   cases h;subst hi;simp[Yg]
  ·have:=Bw h;cases x with
   | box l c=>exact this
   | cst c=>exact this
   | arr k l E' e' xs'=>cases k<;>simp[Yg,this]
theorem pX {tab:List (Nat×Ent)} {i:Nat} {u:Bool} {l E:Nat} {e:Ty} {xs:List (den e)} (h:look tab i=some (.arr (.own u) l E e xs)) (id:Nat):
  look (yx tab i (.arr (.imm false) l E e xs)) id=if id=i then some (.arr (.imm false) l E e xs) else look tab id:=by
 rw[ZW];split
 ·rw[h]; rfl
 ·rfl
theorem cC:∀ (l:List Nat) (tab:List (Nat×Ent)) (id:Nat) (e:Ent),look (Yx l tab) id=some e->
  (look tab id=some e/\(id∈l->∀ u lvl E e' xs,e ≠ .arr (.own u) lvl E e' xs))∨(id∈l/\∃ u lvl E e' xs,look tab id=some (.arr (.own u) lvl E e' xs)/\e=.arr (.imm false) lvl E e' xs)
 | [],tab,id,e,h=>.inl ⟨h,by simp⟩
 | i::r,tab,id,e,h=>by
  simp only[Yx] at h;split at h
  ·next u lvl E e' xs hl=>
   rcases cC r _ id e h with⟨h1,h2⟩|⟨h1,u',lvl',E',e'',xs',h2,h3⟩
   ·rw[pX hl] at h1;split at h1
    ·next hi=>
     cases h1;subst hi;exact .inr ⟨by simp,u,lvl,E,e',xs,hl,rfl⟩
    ·next hi=>
     refine .inl ⟨h1,λ hm => ?_⟩;rcases List.mem_cons.1 hm with rfl|hm
     ·exact absurd rfl hi
     ·exact h2 hm
   ·rw[pX hl] at h2;split at h2
    ·cases h2
    ·exact .inr ⟨by simp[h1],u',lvl',E',e'',xs',h2,h3⟩
  ·next hno=>
   rcases cC r _ id e h with⟨h1,h2⟩|⟨h1,u',lvl',E',e'',xs',h2,h3⟩
   ·refine .inl ⟨h1,λ hm => ?_⟩;rcases List.mem_cons.1 hm with rfl|hm
    ·intro u lvl E e' xs he;subst he;exact hno u lvl E e' xs h1
    ·exact h2 hm
   ·exact .inr ⟨by simp[h1],u',lvl',E',e'',xs',h2,h3⟩
theorem o5:∀ (l:List Nat) (tab:List (Nat×Ent)) (id:Nat),(look (Yx l tab) id).isSome=(look tab id).isSome
 | [],tab,id=>rfl
 | i::r,tab,id=>by
  simp only[Yx];split
  ·next u lvl E e' xs hl=>
   rw[o5 r,pX hl];split
   ·next hi=>subst hi; rw[hl]; rfl
   ·rfl
  ·exact o5 r tab id
theorem ko (lend:List Nat) (lvl:Nat) (tab:List (Nat×Ent)):∀ (keys:List (Nat×Ent)) (id:Nat) (e:Ent),look (QR lend lvl tab keys) id=some e->lK lend lvl id (look tab id)=some e
 | [],id,e,h=>by simp[QR,look] at h
 | (i,x)::r,id,e,h=>by
  simp only[QR] at h;split at h
  ·next e' he=>
   rw[yR] at h;split at h
   ·next hi=>cases h; subst hi; exact he
   ·exact ko lend lvl tab r id e h
  ·exact ko lend lvl tab r id e h
theorem oB:∀ {ps:List (PK×Ty)} {vs:yc ps} {vals:List Value} {r rp rc xo xp:List Nat},ArgsOk w ps vs vals r rp rc xo xp->(ps.all λ p=>p.1.isRo)=true->rp=[]/\rc=[]/\xp=[]
 | [],vs,vals,r,rp,rc,xo,xp,h,_=>⟨h.2.2.1,h.2.2.2.1,h.2.2.2.2.2⟩
 | (.rd,t)::ps,vs,vals,r,rp,rc,xo,xp,h,hp=>by
  simp only[aqm,apO] at hp;obtain⟨cs,vs',fp,r',_,_,_,h'⟩:=h;exact oB h' hp.2
 | (.own,t)::ps,vs,vals,r,rp,rc,xo,xp,h,hp=>by
  simp only[aqm,apO] at hp;obtain⟨cs,vs',xs,fs,r',xo',_,_,_,_,h'⟩:=h;exact oB h' hp.2
 | (.ptr,t)::ps,vs,vals,r,rp,rc,xo,xp,h,hp=>by simp[PK.isRo] at hp
 | (.cap,t)::ps,vs,vals,r,rp,rc,xo,xp,h,hp=>by simp[PK.isRo] at hp
 | (.clo f,t)::ps,vs,vals,r,rp,rc,xo,xp,h,hp=>by simp[PK.isRo] at hp
theorem kF {rets:List Ty}:∀ {ps:List (PK×Ty)} {v:dens rets} {o:zQ ps rets},QF rets ps v=some o->Zc rets ps o=v
 | [],v,o,h=>by
  have h:v=o:=Option.some.inj h;rw[←h]; rfl
 | (.rd,_)::ps,v,o,h=>kF (ps:=ps) h
 | (.own,_)::ps,v,o,h=>kF (ps:=ps) h
 | (.ptr,_)::ps,v,o,h=>by cases h
 | (.cap,_)::ps,v,o,h=>by cases h
 | (.clo _,_)::ps,v,o,h=>by cases h
theorem rA {w0 w:World} {n:Nat} {rk:RK} {rr xo pt:List Nat} {rets:List Ty} {v:Value}:∀ {ps:List (PK×Ty)} {x:dens rets} {o:zQ ps rets},QF rets ps x=some o->KZ w n rk rr xo pt rets v x->OutOk w0 w n rk rr xo pt rets v ps o []
 | [],x,o,h,hR=>by
  have h:x=o:=Option.some.inj h;subst h;exact⟨rfl,hR⟩
 | (.rd,_)::ps,x,o,h,hR=>rA (ps:=ps) h hR
 | (.own,_)::ps,x,o,h,hR=>rA (ps:=ps) h hR
 | (.ptr,_)::ps,x,o,h,hR=>by cases h
 | (.cap,_)::ps,x,o,h,hR=>by cases h
 | (.clo _,_)::ps,x,o,h,hR=>by cases h
theorem pP {w:World}:∀ {ts:List Ty} {v:dens ts} {css:List (List Value)} {fs:List Nat} {b:Bool},RetL w .shared ts v css [] fs->Ye ts v=some b->qx b ts css
 | [],v,css,fs,b,h,hb=>by simp[Ye] at hb
 | [t],v,css,fs,b,h,hb=>by
  obtain⟨cs,css',x1,x2,f1,f2,rfl,hx,rfl,h1,h2⟩:=h;cases t with
  | bool=>
   simp only[Ye,apP] at hb;have hc:cs=[.bool v.1]:=h1.2.1;rw[h2.1];show zU .bool cs=.bool b;rw[hc,←hb];rfl
  | _=>simp[Ye] at hb
 | t::u::ts,v,css,fs,b,h,hb=>by
  obtain⟨cs,css',x1,x2,f1,f2,rfl,hx,rfl,h1,h2⟩:=h;have hb':Ye (u::ts) v.2=some b:=by
   cases t<;>exact hb
  have hx2:x2=[]:=(List.append_eq_nil_iff.1 hx.symm).2;subst hx2;exact⟨h1.2.len,h1.2.one,pP h2 hb'⟩
theorem AS:∀ {ts:List Ty} {v:dens ts} {b:Bool},Ye ts v=some b->∀ v':dens ts,∃ b',Ye ts v'=some b'
 | [],v,b,h,v'=>by simp[Ye] at h
 | [t],v,b,h,v'=>by
  cases t with
  | bool=>exact⟨v'.1,rfl⟩
  | _=>simp[Ye] at h
 | t::u::ts,v,b,h,v'=>by
  have hb':Ye (u::ts) v.2=some b:=by
   cases t<;>exact h
  obtain⟨b',h'⟩:=AS hb' v'.2;exact⟨b',by cases t<;>exact h'⟩
theorem tI {rk:RK} (hrk:rk ≠ .shared):∀ {ts:List Ty} {v:dens ts} {css:List (List Value)} {xs fs:List Nat},RetL w rk ts v css xs fs->∃ fs',RetL w .shared ts v css [] fs'
 | [],v,css,xs,fs,h=>⟨[],h.1,rfl,rfl⟩
 | t::ts,v,css,xs,fs,h=>by
  obtain⟨cs,css',x1,x2,f1,f2,rfl,rfl,rfl,h1,h2⟩:=h;obtain⟨fs',h2'⟩:=tI hrk h2;have h1':RdO w t v.1 cs x1 f1:=by
   cases rk with
   | shared=>exact absurd rfl hrk
   | own=>exact h1
   | uniq=>exact h1
  obtain⟨fp,hrd,_⟩:=h1'.rd;exact⟨fp++fs',cs,css',[],[],fp,fs',rfl,rfl,rfl,⟨rfl,hrd⟩,h2'⟩
theorem aaC {fn:List ResultVar} {tmps:Array Value}:∀ {us vs:List Value},All2 (λ x v=>(JH tmps x).run P w=.ok v w) fn us->All2 (λ x v=>(JH tmps x).run P w=.ok v w) fn vs->us=vs:=by
 induction fn with
 | nil=>intro us vs h1 h2; cases us<;>cases vs<;>first|rfl|exact h1.elim|exact h2.elim
 | cons x r ih=>
  intro us vs h1 h2
  match us,vs,h1,h2 with
  | u::us,v::vs,h1,h2=>
   have e:=h1.1.symm.trans h2.1;cases e;rw[ih h1.2 h2.2]
theorem Gv {F:jk} {gl:Glob} (hE:Zt P gl F.E) {f:FuncId} {fn:Func} (hf:P.funcs[f]?=some fn) (hn:(fn.name == "runtime.NumGoroutine")=false) {pf:PF} (hro:(pf.params.all λ p=>p.1.isRo)=true)
  (hev:∀ args outs,pf.fn args=some outs->fu F fn pf.params pf.rets pf.rk args=some outs):K0 P gl f pf:=by
 constructor;intro w args vals r rp rc xo xp outs hA hnd agU hG hgb hout;have hout:=hev _ _ hout;obtain⟨rfl,rfl,rfl⟩:=oB hA hro;unfold fu at hout;split at hout
 ·next body avs es j ahs ahc=>
  split at hout
  ·cases hout
  ·next htab=>
  have hcf:(callFunc f vals.toArray).run P w=.ok (.enter f vals.toArray) w:=by
   have hn':¬ fn.name = "runtime.NumGoroutine" := by simpa using hn
   simp[callFunc,hf,hn',ahs]
  unfold CallsTo;rw[hcf];simp only;refine calls_of_wp hf ahs ?_;unfold Ew at htab;rw[apO,List.all_eq_true,List.all_eq_true] at htab;obtain⟨aoU,aoV⟩:=htab;have amj:∀ {id},id∈Yg es->∃ E e xs,look es id=some (.arr (.own false) 0 E e xs):=by
   intro id hid;have h:=aoV id hid;cases he:look es id with
   | none=>rw[he] at h; cases h
   | some x=>
    rw[he] at h
    match x,h with
    | .arr (.own false) lvl E e xs,h=>
     have:lvl=0:=Nat.eq_of_beq_eq_true h;subst this;exact⟨E,e,xs,rfl⟩
  let γ0:Nat->Own:=λ b=>open Classical in if b∈r∨b∈([]:List Nat)∨b∈([]:List Nat) then .persist else .alien
  obtain⟨loc,γ,hEn⟩:=L0 pf.params args 0 vals r [] [] xo [] avs es j (λ _=>undef) γ0 hA ahc hnd agU (λ b hb=>by simp only[γ0,if_pos hb]) (λ b hb=>by
   have:=agU b (by rcases hb with h|h; exact List.mem_append_left _ h; simp at h)
   simp only[γ0,this.1,this.2.1,or_self,if_false])
  have amS:∀ b∈xo,b<w.heap.size:=λ b hb=>by
   have:=hA.lt;first|exact this.2.2.2.1 b hb|exact this.2.2.1 b hb|exact this.2.1 b hb|exact this.1 b hb
  have apE:∀ b∈r,b<w.heap.size:=λ b hb=>by
   have:=hA.lt;first|exact this.1 b hb|exact this.2.1 b hb
  have hg0:∀ b,b∉xo->γ b=.persist/\b∈r∨γ b=.alien/\b∉r:=by
   intro b hb;rw[hEn.own b hb (by simp)];by_cases hm:b∈r
   ·left; simp[γ0,hm]
   ·right; simp[γ0,hm]
  have amP:∀ b i,γ b=.top i->b∈xo:=by
   intro b i h;by_cases hb:b∈xo
   ·exact hb
   ·rcases hg0 b hb with⟨e,_⟩|⟨e,_⟩<;>rw[e] at h<;>cases h
  let γr:Nat->Own:=λ b=>open Classical in if b∈xo then .persist else γ b
  let A:Ctx:={ rds:=xo++r,pins:=(List.range j).map λ i=>(i,loc i),gl:=gl }
  have ago:Rel w.heap.size [] A w { slots:=avs++List.replicate (fn.ntmps - avs.length) (.tup []),tab:=Yx (Yg es) es,nxt:=j,lvl:=1 }
    { tmps:=vals.toArray++Array.replicate (fn.ntmps - vals.toArray.size) undef,defers:=[]} w:=by
   refine⟨γr,loc,?_⟩;have amF:∀ b,γ b=.persist->γr b=.persist:=λ b hb=>by
    by_cases h:b∈xo<;>simp[γr,h,hb]
   exact {
    defers:=rfl
    keeps:=KeepsW.refl _ _ _
    unf:=λ b hb=>by
     by_cases h1:b∈xo
     ·simp[γr,h1,owned] at hb
     ·rcases hg0 b h1 with⟨e,_⟩|⟨e,_⟩<;>simp[γr,h1,e,owned] at hb
    old:=λ b hb hx=>by
     by_cases h1:b∈xo
     ·right; simp[γr,h1,A]
     ·rcases hg0 b h1 with⟨e,hm⟩|⟨e,hm⟩
      ·right; simp[γr,h1,e,A,hm]
      ·left; simp[γr,h1,e]
    Ble:=Nat.le_refl _
    size:=by have:=hEn.vals.len; simp[this]
    slots:=λ t v hv=>(qL hEn.vals hEn.lts t v hv).1
    ents:=λ id e he=>by
     rcases cC _ _ _ _ he with⟨h1,h2⟩|⟨h1,u,lvl,E,e',xs,h2,rfl⟩
     ·have hro:=aoU _ (pY h1);have hok:=(hEn.ents id e h1).1
      match e,hro,h1,h2,hok with
      | .arr (.imm false) _ E e xs,_,_,_,hok=>
       obtain⟨fp,k1,k2⟩:=hok;refine⟨fp,k1,λ b hb=>.inl (amF b ?_)⟩;rcases k2 b hb with h|⟨h,_⟩
       ·exact h
       ·cases h
      | .arr (.own false) lvl E e xs,_,h1,h2,_=>exact absurd rfl (h2 (Bw h1) false lvl E e xs)
     ·have hok:=(hEn.ents id _ h2).1;obtain⟨E0,e0,x0,h3⟩:=amj h1;rw[h3] at h2;cases h2;obtain⟨ys,fs,k1,k2,k3⟩:=hok;obtain⟨fp,k4,k5⟩:=k1.rd;refine⟨fp,k4,λ b hb=>.inl ?_⟩;rcases k5 b hb with h|h
      ·have:=amP b _ (k2 b h);simp[γr,this]
      ·exact amF b (k3 b h)
    slt:=λ t v hv=>(qL hEn.vals hEn.lts t v hv).2
    elt:=λ id e he=>by
     rcases cC _ _ _ _ he with⟨h1,h2⟩|⟨h1,u,lvl,E,e',xs,h2,rfl⟩
     ·exact⟨(hEn.ents id e h1).2.2.2,(hEn.ents id e h1).2.2.1⟩
     ·exact⟨trivial,(hEn.ents id _ h2).2.2.1⟩
    pins:=λ p hp=>by
     obtain⟨i,hi,rfl⟩:=List.mem_map.1 hp;exact⟨List.mem_range.1 hi,rfl⟩
    dlab:=by simp[A]
    glob:=⟨hG,λ b hb=>⟨(hgb b hb).1,by simp⟩,Nat.le_refl _,by simp⟩
    dpc:=by simp[A]}
  refine LC hE ⟨rfl,rfl⟩ body _ _ _ w _ hout ago ?_;intro x st' hk hp a' w' hr';have ahS:fA F fn pf.params pf.rets pf.rk (Yg es) st'=some outs->a'.defers=[]/\∃ v,(results fn a'.tmps).run P w'=.ok v w'/\(KeepsW w.heap.size [] w w'/\∃ css b,v=YG (ZM pf.rets css)/\qx b pf.rets css/\
    Ye pf.rets (Zc pf.rets pf.params outs)=some b/\(b=true->∃ pt,OutOk w w' w.heap.size pf.rk (r++[]++[]) xo pt pf.rets v pf.params outs [])):=by
   intro hk;obtain⟨γ',loc',hr'⟩:=hr';unfold fA at hk;split at hk
   ·cases hk
   ·next rs ls0 aib=>
    split at hk
    ·cases hk
    ·next b ahR=>
     refine⟨hr'.defers,?_⟩;obtain⟨css,fs0,k1,k2,_⟩:=tG hE.tys hr' _ _ _ _ aib;have ajU:=pP k1 ahR;refine⟨_,dp k2,hr'.keeps,css,b,rfl,ajU,?_⟩;cases b with
     | false=>
      simp only[apM] at hk;exact⟨by rw[kF hk]; exact ahR,λ h=>by cases h⟩
     | true=>
      simp only[apN] at hk;split at hk
      ·cases hk
      ·next rs2 ls amL=>
       split at hk
       ·next hok=>
        rw[apO] at hok
        let γ2:Nat->Own:=λ b=>open Classical in if b∈xo then γ b else if b<w.heap.size/\b∈r then .persist else γ' b
        have hold:∀ b,b<w.heap.size->γ' b=.alien∨(γ' b=.persist/\(b∈xo∨b∈r)):=λ b hb=>by
         rcases hr'.old b hb (by simp) with h|⟨h1,h2⟩
         ·exact .inl h
         ·exact .inr ⟨h1,by simpa[A] using h2⟩
        have agx:∀ b,(∃ i,γ' b=.top i)∨(∃ i,γ' b=.deep i)->γ2 b=γ' b/\w.heap.size<=b:=by
         intro b hb;have hge:w.heap.size<=b:=by
          rcases Nat.lt_or_ge b w.heap.size with h|h
          ·exfalso;rcases hold b h with e|⟨e,_⟩<;>rcases hb with⟨i,e'⟩|⟨i,e'⟩<;>rw[e] at e'<;>cases e'
          ·exact h
         have h1:b∉xo:=λ h=>by have:=amS b h; omega
         refine⟨?_,hge⟩;simp only[γ2,if_neg h1];rw[if_neg (by omega)]
        have aiE:∀ b,b<w.heap.size->w'.heap[b]?=w.heap[b]?:=λ b hb=>hr'.keeps.block b hb (by simp);have hr2:Rel0 w.heap.size xo { rds:=r,pins:=[],gl:=gl } w γ2 loc' (tF (Yg es) st') a' w':={
         defers:=hr'.defers
         keeps:=⟨hr'.keeps.os,hr'.keeps.tape,hr'.keeps.output,hr'.keeps.size,λ k hk _=>hr'.keeps.block k hk (by simp),hr'.keeps.free,hr'.keeps.shape⟩
         unf:=λ b hb=>by
          by_cases h1:b∈xo
          ·exact (hA.unfr b (by simp[h1])).congr (aiE b (amS b h1))
          ·by_cases h2:b<w.heap.size/\b∈r
           ·simp[γ2,h1,h2,owned] at hb
           ·simp only[γ2,if_neg h1,if_neg h2] at hb;exact hr'.unf b hb
         old:=λ b hb hx=>by
          by_cases h2:b∈r
          ·right; simp[γ2,hx,hb,h2]
          ·simp only[γ2,if_neg hx,h2,and_false,if_false];rcases hold b hb with h|⟨h,h3⟩
           ·exact .inl h
           ·rcases h3 with h3|h3
            ·exact absurd h3 hx
            ·exact absurd h3 h2
         Ble:=hr'.Ble
         size:=hr'.size
         slots:=hr'.slots
         ents:=λ id e he=>by
          have he:=ko _ _ _ _ _ _ he;cases hl:look st'.tab id with
          | none=>rw[hl] at he; cases he
          | some x=>
           have aiS:=hr'.ents id x hl;rw[hl] at he
           match x,he,hl,aiS with
           | .box l c,he,hl,aiS=>
            cases he;obtain⟨b,arr,T,fr,g1,g2,g3,g4,g5⟩:=aiS;exact⟨b,arr,T,fr,g1,g2,g3,by rw[(agx b (.inl ⟨_,g4⟩)).1]; exact g4,g5⟩
           | .arr (.own true) l E e xs,he,hl,aiS=>
            cases he;obtain⟨ys,fs,g1,g2,g3,g4⟩:=aiS;exact⟨ys,fs,g1,λ b hb=>by rw[(agx b (.inl ⟨_,g2 b hb⟩)).1]; exact g2 b hb,g3,λ b hb=>by rw[(agx b (.inr ⟨_,g4 b hb⟩)).1]; exact g4 b hb⟩
           | .arr (.imm false) l E e xs,he,hl,aiS=>
            simp only[lK] at he;split at he
            ·next hel=>
             cases he;have hid:id∈Yg es:=List.elem_iff.1 hel;obtain⟨E0,e0,x0,h3⟩:=amj hid;have ajk:(look (Yx (Yg es) es) id).isSome:=by rw[o5,h3]; rfl
             obtain⟨y,hy⟩:=Option.isSome_iff_exists.1 ajk;rcases cC _ _ _ _ hy with⟨h1,h2⟩|⟨h1,u,lvl,E1,e1,x1,h2,rfl⟩
             ·rw[h3] at h1;cases h1;exact absurd rfl (h2 hid false 0 E0 e0 x0)
             ·rw[h3] at h2;cases h2;have hkeep:=hp.tab id _ hy (by show (0:Nat)≠1; omega)
              rw[hl] at hkeep;cases hkeep;obtain⟨anD,_,al0,_⟩:=hEn.ents id _ h3;obtain⟨ys,fs,g1,g2,g3⟩:=anD;have aga:loc' id=loc id:=(hr'.pins (id,loc id) (List.mem_map.2 ⟨id,List.mem_range.2 al0,rfl⟩)).2;have glt:=g1.lt;refine⟨ys,fs,?_,λ b hb => ?_,λ b hb => ?_⟩
              ·rw[aga];exact g1.frame (λ b hb=>aiE b (glt.1 b hb)) (λ b hb=>aiE b (glt.2 b hb))
              ·have:=amP b _ (g2 b hb);simp only[γ2,if_pos this];exact g2 b hb
              ·have hb':=g3 b hb;by_cases h1:b∈xo
               ·simp only[γ2,if_pos h1]; exact hb'
               ·rcases hg0 b h1 with⟨_,hm⟩|⟨e,_⟩
                ·simp[γ2,h1,hm,glt.2 b hb]
                ·rw[e] at hb'; cases hb'
            ·cases he
         slt:=hr'.slt
         elt:=λ id e he=>by
          have he:=ko _ _ _ _ _ _ he;cases hl:look st'.tab id with
          | none=>rw[hl] at he; cases he
          | some x=>
           have hlt:=hr'.elt id x hl;rw[hl] at he
           match x,he,hlt with
           | .box l c,he,hlt=>cases he; exact hlt
           | .arr (.own true) l E e xs,he,hlt=>cases he; exact hlt
           | .arr (.imm false) l E e xs,he,hlt=>
            simp only[lK] at he;split at he
            ·cases he; exact⟨trivial,hlt.2⟩
            ·cases he
         pins:=by simp
         dlab:=by simp
         glob:=⟨hG,λ b hb=>⟨(hgb b hb).1,λ h=>(hgb b hb).2 (by simp[h])⟩,Nat.le_refl _,λ b hb=>hA.unfr b (by simp[hb])⟩
         dpc:=by simp }
        have aiO:∀ b,((∃ i,γ2 b=.top i)∨∃ i,γ2 b=.deep i)->w.heap.size<=b∨b∈xo:=by
         intro b hb;by_cases h1:b∈xo
         ·exact .inr h1
         ·left;rcases Nat.lt_or_ge b w.heap.size with hlt|hlt
          ·exfalso;rcases hr2.old b hlt h1 with h|⟨h,_⟩<;>rcases hb with⟨i',e'⟩|⟨i',e'⟩<;>rw[h] at e'<;>cases e'
          ·exact hlt
        have ail:∀ b,γ2 b ≠ .alien->From w.heap.size (r++[]++[]) xo b:=by
         intro b hb;by_cases h1:b∈xo
         ·exact .inr (.inr h1)
         ·rcases Nat.lt_or_ge b w.heap.size with hlt|hlt
          ·rcases hr2.old b hlt h1 with h|⟨_,h⟩
           ·exact absurd h hb
           ·exact .inr (.inl (by simpa using h))
          ·exact .inl hlt
        have agL:pf.rk ≠ .shared/\∃ css2,KZ w' w.heap.size pf.rk (r++[]++[]) xo [] pf.rets (YG (ZM pf.rets css2)) rs2/\All2 (λ x v=>(JH a'.tmps x).run P w'=.ok v w') fn.results.toList (ZM pf.rets css2)/\
          ∃ fs',RetL w' .shared pf.rets rs2 css2 [] fs':=by
         cases hrk:pf.rk with
         | shared=>rw[hrk] at hok; exact absurd hok.2 (by simp)
         | uniq=>
          refine⟨by simp,?_⟩;have ahu:=hok.1;rw[hrk] at ahu;simp only[QU] at ahu;obtain⟨ids,aht⟩:=Option.isSome_iff_exists.1 ahu;obtain⟨g1,g2⟩:=Jn aht;obtain⟨css2,xb,fs,q1,q2,q3,q4,q5,q6⟩:=dm hE.tys hr2 .uniq (by simp) _ _ _ _ _ amL g1;obtain⟨n1,n2⟩:=q6 g2;refine⟨css2,⟨css2,xb,fs,q1,rfl,⟨ZY q3 n1 ?_,?_⟩,λ _ b hb=>by obtain⟨i,_,e⟩:=n2 b hb; exact hr2.unf b (by rw[e]; trivial)⟩,q2,tI (by simp) q1⟩
          ·intro b hb hb';obtain⟨i,_,e⟩:=q4 b hb;obtain⟨i',_,e'⟩:=n2 b hb';rw[e] at e'; cases e'
          ·intro b hb;refine⟨?_,by simp⟩;rcases List.mem_append.1 hb with hb|hb
           ·obtain⟨i,hi,e⟩:=q4 b hb;exact aiO b (.inl ⟨i,e⟩)
           ·obtain⟨i,hi,e⟩:=n2 b hb;exact aiO b (.inr ⟨i,e⟩)
         | own=>
          refine⟨by simp,?_⟩;have ahu:=hok.1;rw[hrk] at ahu;simp only[QU] at ahu;obtain⟨ids,g1⟩:=Option.isSome_iff_exists.1 ahu;obtain⟨css2,xb,fs,q1,q2,q3,q4,q5,q6⟩:=dm hE.tys hr2 .own (by simp) _ _ _ _ _ amL g1;refine⟨css2,⟨css2,xb,fs,q1,rfl,⟨q3,?_,?_,?_⟩,λ h=>by cases h⟩,q2,tI (by simp) q1⟩
          ·intro b hb;obtain⟨i,hi,e⟩:=q4 b hb;exact⟨aiO b (.inl ⟨i,e⟩),by simp⟩
          ·intro b hb hb';obtain⟨i,_,e⟩:=q4 b hb;rcases q5 b hb' with e'|⟨i',_,e'⟩<;>rw[e] at e'<;>cases e'
          ·intro b hb;rcases q5 b hb with e|⟨i,_,e⟩
           ·exact ail b (by simp[e])
           ·exact ail b (by simp[e])
        obtain⟨_,css2,hR,q2,fs',q3⟩:=agL;have hv:=aaC k2 q2;obtain⟨b2,ami⟩:=AS ahR rs2;have aoP:=pP q3 ami;obtain⟨us1,e1,_⟩:=mu ajU;obtain⟨us2,e2,_⟩:=mu aoP;have hb2:b2=true:=by
         rw[e1,e2] at hv;have:=List.append_inj_right' hv rfl;simpa using this.symm
        subst hb2;exact⟨by rw[kF hk]; exact ami,λ _=>⟨[],rA hk (by rw[hv]; exact hR)⟩⟩
       ·cases hk
  cases x with
  | exit id=>cases hk
  | normal=>exact ahS hk
  | ret=>exact ahS hk
 ·cases hout
end Ev
