/- The evaluator of the own library, part 2: its words, its soundness. Conditions: none of its own. -/
import Derived.Test.YtppjgjdlnikigaaGreatDoorLibA
import Derived.Room.Entries
set_option linter.unusedSimpArgs false
set_option linter.unusedVariables false
namespace Ev
open Go
variable {P:Program} {o:Oper} {a:Act} {w w':World} {next:Act->World->Prop} {Q:Exit->Act->World->Prop}
variable {B:Nat} {X:List Nat} {A:Ctx} {w0:World} {γ γ':Nat->Own} {loc loc':Nat->Value} {st st1:St} {R:Type} {k:St->Option R} {r:R} {E:Env}
theorem uI [Tags] (off:Nat):∀ (vs:List Value) (j:Nat) (cells:Array Value),off+j+vs.length<=cells.size->
  (vs.zipIdx j).foldl (λ cs (x:Value×Nat)=>cs.setIfInBounds (off+x.2) x.1) cells=(setAt cells.toList (off+j) vs).toArray
 | [],j,cells,_=>by simp[rT]
 | v::vs,j,cells,h=>by
  simp only[List.zipIdx_cons,ama];rw[uI off vs (j+1) _ (by simp at h ⊢; omega),an1,show off+(j+1)=off+j+1 by omega,rU _ _ _ _ (by simp at h ⊢; omega)]
theorem cY [Tags] {place:Nat->Option (Nat×Nat)} {cells:Array Value} {i off size:Nat} {v:Value} {rest:List (Nat×Value)} (hp:place i=some (off,size))
  (hs:v.cells.size=size) (hl:off+v.cells.size<=cells.size):Instr.fill place cells ((i,v)::rest)=Instr.fill place (setAt cells.toList off v.cells.toList).toArray rest:=by
 have h1:(decide (v.cells.size≠size) || decide (off+v.cells.size>cells.size))=false:=by
  simp[hs]; omega
 simp only[Instr.fill,hp];rw[if_neg (by simp[hs]; omega)]
 congr 1;have:=uI off v.cells.toList 0 cells (by simpa using hl);rw[amf] at this;rw[←this,←Array.foldl_toList];simp
theorem mE {tys:List (Nat×TD)} {n:Nat}:∀ {fs:List Field} {flds:List (Nat×Nat)},Jh tys n fs flds=true->∀ {i off ft:Nat},flds[i]?=some (off,ft)->
  ∃ f,fs[i]?=some f/\f.offset=off/\f.type=ft/\∃ d,lk tys ft=some d/\d.arr=none/\off+d.ty.size<=n
 | [],[],_,i,off,ft,h=>by simp at h
 | f::fs,(o1,t1)::r,h,i,off,ft,hi=>by
  simp only[Jh,alp] at h;obtain⟨⟨⟨h1,h2⟩,h3⟩,h4⟩:=h;cases i with
  | zero=>
   simp at hi;obtain⟨rfl,rfl⟩:=hi;refine⟨f,by simp,(zQ _ _).1 h1,(zQ _ _).1 h2,?_⟩;split at h3
   ·next d hd=>
    simp only[alp,amo] at h3;exact⟨d,hd,h3.1,Nat.le_of_ble_eq_true h3.2⟩
   ·cases h3
  | succ i=>
   simp at hi;obtain⟨f',g1,g2⟩:=mE h4 hi;exact⟨f',by simpa using g1,g2⟩
 | [],_::_,h,_,_,_,_=>by simp[Jh] at h
 | _::_,[],h,_,_,_,_=>by simp[Jh] at h
theorem TOk.struct {tys:List (Nat×TD)} {t:Nat} {d:TD} (h:TOk P tys t d) (hp:d.ty.isPair=true) (ha:d.arr=none):
  ∃ fs,P.underlying t=some (.struct fs)/\Jh tys d.ty.size fs.toList d.flds=true:=by
 obtain⟨u,hu,hc⟩:=h.und;unfold J5 at hc;split at hc
 ·simp only[alp,alz] at hc; rw[hc.1] at hp; cases hp
 ·simp only[alp,alz] at hc; rw[hc.1] at hp; cases hp
 ·simp only[alp,alz] at hc; rw[hc.1] at hp; cases hp
 ·simp only[alp,alz] at hc; rw[hc.1] at hp; cases hp
 ·simp only[alp] at hc;split at hc
  ·next heq=>rw[heq] at hp; cases hp
  ·simp at hc
 ·rw[ha] at hc; simp at hc
 ·next fs=>simp only[alp] at hc; exact⟨fs,hu,hc.2⟩
 ·cases hc
theorem wj [Tags] {tys:List (Nat×TD)} (hT:ym P tys=true) {n:Nat} (w:World):∀ {fs:List Field} {flds:List (Nat×Nat)},Jh tys n fs flds=true->
  ∃ ps:List (Nat×Nat),(fs.mapM λ f=>(do pure (f.offset,←Go.sizeOf f.type):Sem (Nat×Nat))).run P w=.ok ps w/\
   ∀ (i off ft:Nat),flds[i]?=some (off,ft)->∃ d,lk tys ft=some d/\ps[i]?=some (off,d.ty.size)/\off+d.ty.size<=n
 | [],[],_=>⟨[],by simp,by simp⟩
 | f::fs,(o1,t1)::r,h=>by
  simp only[Jh,alp] at h;obtain⟨⟨⟨h1,h2⟩,h3⟩,h4⟩:=h;obtain⟨ps,g1,g2⟩:=wj hT w h4;split at h3
  ·next d hd=>
   simp only[alp,amo] at h3;have e1:=(zQ _ _).1 h1;have e2:=(zQ _ _).1 h2;refine⟨(f.offset,d.ty.size)::ps,?_,?_⟩
   ·have:=(yc hT hd).size h3.1 w;simp only[List.mapM_cons,alC,e2,this,alA,alB,g1]
   ·intro i off ft hi;cases i with
    | zero=>
     simp at hi;obtain⟨rfl,rfl⟩:=hi;exact⟨d,hd,by simp[e1],Nat.le_of_ble_eq_true h3.2⟩
    | succ i=>simp at hi; simpa using g2 i off ft hi
  ·cases h3
 | [],_::_,h=>by simp[Jh] at h
 | _::_,[],h=>by simp[Jh] at h
theorem uy [Tags] (hr:Rel0 B X A w0 γ loc st a w) {flds:List (Nat×Nat)} {ps:List (Nat×Nat)} {n:Nat}
  (hps:∀ (i off ft:Nat),flds[i]?=some (off,ft)->∃ d,lk E.tys ft=some d/\ps[i]?=some (off,d.ty.size)/\off+d.ty.size<=n):
  ∀ (parts:List (Nat×Operand)) (ls ls':List Leaf) (cells:Array Value),Nm E flds st parts ls=some ls'->All2 (LeafOk loc) ls cells.toList->cells.size=n->(∀ l∈ls,l.lt st.nxt)->
   ∃ cells':Array Value,Instr.fill (ps[·]?) cells (parts.map λ x=>(x.1,a.eval x.2))=some cells'/\All2 (LeafOk loc) ls' cells'.toList/\(∀ l∈ls',l.lt st.nxt)
 | [],ls,ls',cells,h,ha,hn,hl=>by simp only[Nm,alq] at h; subst h; exact⟨cells,rfl,ha,hl⟩
 | (i,x)::parts,ls,ls',cells,h,ha,hn,hl=>by
  simp only[Nm] at h;split at h
  ·next off ft hf=>
   split at h
   ·next d xs hd hx=>
    split at h
    ·next hc=>
     simp only[alp] at hc;have hxl:=(zQ _ _).1 hc.1;obtain⟨d',hd',hp,hle⟩:=hps i off ft hf;rw[hd] at hd';cases hd';obtain⟨x1,x2⟩:=NK hr hx;have xl:=x1.len;have hsz:(a.eval x).cells.size=d.ty.size:=by rw[←hxl,xl]; simp
     obtain⟨cells',q1,q2,q3⟩:=uy hr hps parts (gA ls off xs) ls' (setAt cells.toList off (a.eval x).cells.toList).toArray h
      (by rw[Da]; simpa using ha.setAt off x1) (by simp; rw[YZ (by simp; omega)]; simpa using hn)
      (λ l hm=>(wk hm).elim (hl l) (x2 l))
     refine⟨cells',?_,q2,q3⟩;simp only[alG];rw[cY hp hsz (by omega)];exact q1
    ·cases h
   ·cases h
  ·cases h
theorem aan [Tags] (hT:ym P E.tys=true) {T:TypeId} {ps:Array (Nat×Operand)} (ho:o.op=.build T ps) {d:TD} (hd:lk E.tys T=some d) (acE:d.arr=none) (ais:d.ty.isPair=true)
  {ls:List Leaf} (hf:Nm E d.flds st ps.toList (ZN d.ty)=some ls) (hr:Rel0 B X A w0 γ loc st a w) (hk:k (st.put o.dst (.v (.agg ls)))=some r)
  (hn:yd B X A w0 k r o.dst.toList st next):o.wp P a w next Q:=by
 have ht:=yc hT hd;obtain⟨fs,hu,hfs⟩:=ht.struct ais acE;obtain⟨pl,h1,h2⟩:=wj (P:=P) hT w hfs;have hz:(yp d.ty (zZ d.ty)).cells=(zZ d.ty).toArray:=by simp[yp,ais,Value.cells]
 obtain⟨cells',q1,q2,q3⟩:=uy hr h2 ps.toList (ZN d.ty) ls (zZ d.ty).toArray hf (Qg loc d.ty) (by simp[KQ]) (lI _ _);have hm:(fs.mapM λ f=>(do pure (f.offset,←Go.sizeOf f.type):Sem (Nat×Nat))).run P w=.ok pl.toArray w:=by
  have e:(fs.mapM λ f=>(do pure (f.offset,←Go.sizeOf f.type):Sem (Nat×Nat)))=List.toArray <$> (fs.toList.mapM λ f=>(do pure (f.offset,←Go.sizeOf f.type):Sem (Nat×Nat))):=by
   rw[Array.mapM_eq_mapM_toList]
  rw[e,Sem.run_map,h1]; rfl
 refine jY (x:=.v (.agg ls)) (v:=.agg cells') hn ?_ hr (Pres.refl _ _) ⟨cells'.toList,by simp,q2⟩ q3 hk;have hpl:(λ x:Nat=>pl.toArray[x]?)=(λ x:Nat=>pl[x]?):=by funext x; simp
 have hpp:(ps.map λ x=>(x.1,a.eval x.2)).toList=ps.toList.map λ x=>(x.1,a.eval x.2):=by simp
 simp only[execOp,ho,Instr.build,alC,ht.zero acE,alA,hz,yl hu,hm,hpl,hpp,q1,alB]
def Zo (u:Bool) (id:Nat):Own:=if u then .deep id else .persist
theorem nX (u:Bool) (id:Nat):Zo u id=.persist∨∃ j,Zo u id=.deep j:=by
 cases u with
 | true=>exact .inr ⟨id,rfl⟩
 | false=>exact .inl rfl
theorem Pres.newTab [Tags] {tab:List (Nat×Ent)} {ids:List Nat} (hi:∀ (id:Nat) (e:Ent),look st.tab id=some e->id<st.nxt) (ad0:∀ j,look tab j=if j∈ids then none else look st.tab j)
  (acL:∀ i∈ids,jA st i) (e:Ent):Pres [] st { st with tab:=(st.nxt,e)::tab,nxt:=st.nxt+1 }:=
 ⟨rfl,by simp,λ id e' he hp=>by
  have:=hi id e' he;simp only[yS];rw[if_neg (by omega),ad0,if_neg (λ hm=>NN (acL id hm) _ he hp)];exact he,λ _ _=>rfl,rfl⟩
theorem Rel0.newOwn [Tags] (hr:Rel0 B X A w0 γ loc st a w) {tab:List (Nat×Ent)} {ids:List Nat} (ad0:∀ j,look tab j=if j∈ids then none else look st.tab j) (acL:∀ i∈ids,jA st i)
  (u:Bool) (lvl ET:Nat) {e:Ty} {xs:List (den e)} {arr:Array Value} {T:TypeId} {fr:Nat×Nat} {cap:Nat} {fp:List Nat}
  (hrd:RdL (Rd w e) xs arr.toList fp) (hsz:arr.size=cap*e.size) (hcap:xs.length<=cap) (adR:xs.length<=140737488355328) (hfr:frees fr arr.size) (afk:KW ET T/\(ET=Tags.post->e.size=18))
  (hfp:YH (relab ids (Zo u st.nxt) γ) (.own u) st.nxt fp):
  Rel0 B X A w0 (λ b=>if b=w.heap.size then .top st.nxt else relab ids (Zo u st.nxt) γ b)
   (λ i=>if i=st.nxt then .slice (some ⟨w.heap.size,0,none⟩) xs.length cap else loc i)
   { st with tab:=(st.nxt,.arr (.own u) lvl ET e xs)::tab,nxt:=st.nxt+1 } a (jv w (.cells arr T fr)):=by
 refine hr.upd (M:=λ i=>i∈ids∨False) rfl (by simp) (vG B X hr.Ble _ (whole hfr)) (λ b hb ho=>Mo (by simpa[show b≠w.heap.size by omega] using ho)) ?_ ?_
  ((Moves.relab (nX u st.nxt) γ w).trans (Moves.push (.top st.nxt) (.cells arr T fr)) (Nat.le_refl _)) (λ i hi=>hi.elim (λ h=>by obtain⟨u,lvl,E',e,xs,h',_⟩:=acL i h; exact⟨_,h'⟩) (λ h=>h.elim)) ?_
 ·intro b hb hx;have:=hr.Ble;simp only[show b≠w.heap.size by omega,if_false];exact Mn hr.old b hb hx
 ·intro i hi; simp[show i≠st.nxt by omega]
 ·intro i e' hi;rw[yS] at hi;split at hi
  ·rename_i hii;cases hi;subst hii;have hlt:=hrd.lt;refine .inr ⟨⟨⟨[w.heap.size],fp,?_,by simp,?_⟩,trivial,by simp⟩,.inl (Nat.le_refl _)⟩
   ·refine .inr ⟨w.heap.size,cap,arr,T,fr,by simp,aP _ _,hfr,hsz,hcap,adR,hrd.frame (λ b hb=>Kx (hlt b hb)),rfl,afk⟩
   ·have same:∀ b∈fp,(if b=w.heap.size then Own.top st.nxt else relab ids (Zo u st.nxt) γ b)=relab ids (Zo u st.nxt) γ b:=by
     intro b hb;have:=hlt b hb;rw[if_neg (by omega)]
    cases u with
    | true=>exact⟨hfp.1,λ b hb=>(same b hb).trans (hfp.2 b hb)⟩
    | false=>exact λ b hb=>(same b hb).trans (hfp b hb)
  ·rw[ad0] at hi;split at hi
   ·cases hi
   ·rename_i hni; exact .inl ⟨hi,λ h=>h.elim hni id⟩
theorem eJ (st:St) (w:World) (loc:Nat->Value) (n cap:Nat):
  AVOk (λ i=>if i=st.nxt then Value.slice (some ⟨w.heap.size,0,none⟩) n cap else loc i) (.v (.one (.sl st.nxt))) (.slice (some ⟨w.heap.size,0,none⟩) n cap):=
 ⟨by simp,_,_,_,rfl⟩
theorem TOk.slice {tys:List (Nat×TD)} {t:Nat} {d:TD} {ET:Nat} {e:Ty} (h:TOk P tys t d) (hd:d.ty=.sl ET e) (ha:d.arr=none):
  P.underlying t=some (.slice ET)/\∃ de,lk tys ET=some de/\de.ty=e/\de.arr=none:=by
 obtain⟨u,hu,hc⟩:=h.und;unfold J5 at hc;split at hc
 ·simp only[alp,alz] at hc; rw[hc.1] at hd; cases hd
 ·simp only[alp,alz] at hc; rw[hc.1] at hd; cases hd
 ·simp only[alp,alz] at hc; rw[hc.1] at hd; cases hd
 ·simp only[alp,alz] at hc; rw[hc.1] at hd; cases hd
 ·next EE=>
  simp only[alp] at hc;rw[hd] at hc;simp only[alp] at hc;obtain⟨_,h1,h2⟩:=hc;have h1:=(zQ _ _).1 h1;subst h1;split at h2
  ·next de hde=>
   simp only[alp,alz,amo] at h2;exact⟨hu,de,hde,h2.1,h2.2⟩
  ·cases h2
 ·rw[ha] at hc; simp at hc
 ·simp only[alp] at hc; rw[hd] at hc; simp[Ty.isPair] at hc
 ·cases hc
theorem TOk.array {tys:List (Nat×TD)} {t:Nat} {d:TD} {ET n:Nat} {e:Ty} (h:TOk P tys t d) (hd:d.ty=.sl ET e) (ha:d.arr=some n):
  P.underlying t=some (.array n ET)/\∃ de,lk tys ET=some de/\de.ty=e/\de.arr=none:=by
 obtain⟨u,hu,hc⟩:=h.und;unfold J5 at hc;split at hc
 ·simp[ha] at hc
 ·simp[ha] at hc
 ·simp[ha] at hc
 ·simp[ha] at hc
 ·simp[ha] at hc
 ·next m EE=>
  rw[ha,hd] at hc;simp only[alp] at hc;obtain⟨⟨h0,h1⟩,h2⟩:=hc;have h0:=(zQ _ _).1 h0;have h1:=(zQ _ _).1 h1;subst h0; subst h1
  split at h2
  ·next de hde=>
   simp only[alp,alz,amo] at h2;exact⟨hu,de,hde,h2.1,h2.2⟩
  ·cases h2
 ·simp[ha] at hc
 ·cases hc
theorem EM [Tags] {z:List Value}:∀ {n:Nat} {cs:List Value},lJ n z cs=true->cs=(List.replicate n z).flatten
 | 0,[],_=>rfl
 | 0,_::_,h=>by cases h
 | n+1,cs,h=>by
  simp only[lJ,alp] at h;have h1:=mW h.1;have h2:=EM h.2;have h3:=List.take_append_drop z.length cs;rw[h1,h2] at h3;rw[an5,amI];exact h3.symm
theorem pH [Tags] (w:World):∀ t:Ty,Rd w t (dflt t) (zZ t) []
 | .i64=>⟨rfl,rfl,by constructor<;>decide⟩
 | .u8=>⟨rfl,rfl⟩
 | .bool=>⟨rfl,rfl⟩
 | .str=>⟨rfl,rfl,by simp[Bnd,dflt]⟩
 | .sl _ _=>⟨none,0,0,rfl,rfl,Nat.le_refl _,by simp,.inl ⟨rfl,rfl,λ _=>⟨rfl,rfl⟩⟩⟩
 | .pair a b=>⟨zZ a,zZ b,[],[],rfl,rfl,pH w a,pH w b⟩
theorem pJ [Tags] (w:World) (e:Ty):∀ (n:Nat) (more:List Value),RdL (Rd w e) (List.replicate n (dflt e)) ((List.replicate n (zZ e)).flatten++more) []
 | 0,more=>rfl
 | n+1,more=>⟨zZ e,(List.replicate n (zZ e)).flatten++more,[],[],by simp[an5],rfl,pH w e,pJ w e n more⟩
theorem EL [Tags] (e:Ty) (n:Nat):((List.replicate n (zZ e)).flatten).length=n*e.size:=by
 induction n with
 | zero=>simp
 | succ n ih=>rw[an5,amI,alv,ih,KQ,alV,Nat.add_comm]
theorem Bv (z:List Value) (hz:0<z.length) (n:Nat):((Array.range (n*z.length)).map λ i=>z.toArray[i % z.toArray.size]!).toList=(List.replicate n z).flatten:=by
 simp only[Array.toList_map,Array.toList_range,alR];induction n with
 | zero=>simp
 | succ n ih=>
  rw[alV,List.range_add,an6,ih,List.map_map];rw[List.replicate_succ',List.flatten_append,List.flatten_singleton];congr 1;apply List.ext_getElem?;intro j;simp only[amU,anw];by_cases hj:j<z.length
  ·have:(n*z.length+j) % z.length=j:=by rw[Nat.add_comm,Nat.add_mul_mod_self_right,an2 hj]
   simp[hj,this]
  ·simp[hj,alO (Nat.le_of_not_lt hj)]
theorem Jm (tab:List (Nat×Ent)) (j:Nat):look tab j=if j∈([]:List Nat) then none else look tab j:=by simp
theorem mH (γ:Nat->Own) (u:Bool) (id:Nat):YH γ (.own u) id []:=by
 cases u with
 | true=>exact⟨List.nodup_nil,by simp⟩
 | false=>intro b hb; simp at hb
theorem aai [Tags] (hT:ym P E.tys=true) {T:TypeId} (ho:o.op=.alloc T) {d:TD} {ET n:Nat} {e:Ty} (hd:lk E.tys T=some d) (hty:d.ty=.sl ET e) (acE:d.arr=some n)
  (hn0:n<=140737488355328) (hr:Rel0 B X A w0 γ loc st a w)
  (hk:k (St.put { st with tab:=(st.nxt,.arr (.own true) st.lvl ET e (List.replicate n (dflt e)))::st.tab,nxt:=st.nxt+1 } o.dst (.v (.one (.ap st.nxt))))=some r)
  (hn:yd B X A w0 k r o.dst.toList st next):o.wp P a w next Q:=by
 have htp:=(Lj hT hd).2 hty acE;have ht:=yc hT hd;obtain⟨i,hi,hc⟩:=ht.info;simp only[L8,acE,hty,alp] at hc;obtain⟨_,hc⟩:=hc;split at hc
 ·next ET' e' cs ajj hz=>
  cases ajj;simp only[alp] at hc;have hzs:=EM hc.2;have hzl:=EL e n;have hsz:cs.size=n*e.size:=by rw[←hzl,←hzs]; simp
  have ad4:=hr.newOwn (Jm st.tab) (by simp) true st.lvl ET (xs:=List.replicate n (dflt e)) (arr:=cs) (T:=T) (fr:=(0,0)) (cap:=n) (fp:=[])
   (by rw[hzs]; have:=pJ w e n []; simpa using this) hsz (by simp) (by simpa using hn0) (JO _) ⟨⟨λ k=>absurd k htp.2,λ k=>absurd k htp.1⟩,λ k=>absurd k htp.1⟩ (mH _ _ _)
  refine jY (x:=.v (.one (.ap st.nxt))) (v:=.pointer (some ⟨w.heap.size,0,none⟩)) hn ?_ ad4
   (Pres.newTab (ids_lt hr) (Jm st.tab) (by simp) _) ⟨w.heap.size,n,n,by simp,rfl⟩ (by simp[AV.lt,V1.lt,Leaf.lt]) hk
  simp only[execOp,ho,Instr.alloc,alC,BV hi hz,alA,pV,alB,Value.cells]
 ·cases hc
def YE (a:Act) (x:Operand):List Value:=(a.eval x).cells.toList
theorem uo [Tags] (hr:Rel0 B X A w0 γ loc st a w) {e:Ty}:∀ (n:Nat) (parts:List (Nat×Operand)) (vs:List (den e)) (ls:List Leaf),YG st e n parts=some (vs,ls)->
  vs.length=parts.length/\∀ (j:Nat) (p:Nat×Operand),parts[j]?=some p->p.1=n+j/\(YE a p.2).length=e.size
 | n,[],vs,ls,h=>by simp only[YG,alq,alw] at h; simp[←h.1]
 | n,(i,x)::r,vs,ls,h=>by
  simp only[YG] at h;split at h
  ·next l1 hi hx=>
   split at h
   ·next v hv=>
    split at h
    ·next vs' ls' ag3=>
     simp only[alq,alw] at h;obtain⟨rfl,rfl⟩:=h;obtain⟨g1,g2⟩:=uo hr (n+1) r vs' ls' ag3;refine⟨by simp[g1],?_⟩;intro j p hj;cases j with
     | zero=>
      simp at hj;subst hj;obtain⟨x1,x2⟩:=NK hr hx;obtain⟨fp,q1,_⟩:=YF hr hv x1;exact⟨(zQ _ _).1 hi,q1.len⟩
     | succ j=>
      simp at hj;obtain⟨k1,k2⟩:=g2 j p hj;exact⟨by omega,k2⟩
    ·cases h
   ·cases h
  ·cases h
theorem JA {st:St}:∀ {l1 l2:List Leaf},yr st (l1++l2)=true->yr st l1=true/\yr st l2=true
 | [],l2,h=>⟨rfl,h⟩
 | x::l,l2,h=>by
  cases x with
  | sl id=>
   simp only[amj,yr] at h ⊢;split at h
   ·next hl=>exact JA h
   ·cases h
  | i n=>exact JA (l1:=l) h
  | u n=>exact JA (l1:=l) h
  | b n=>exact JA (l1:=l) h
  | s n=>exact JA (l1:=l) h
  | nil=>exact JA (l1:=l) h
  | ptr _ _=>simp[yr] at h
  | ep _ _ _ _=>simp[yr] at h
  | fn _ _=>simp[yr] at h
  | any=>simp[yr] at h
  | ap _=>simp[yr] at h
theorem uq [Tags] (hr:Rel0 B X A w0 γ loc st a w) {e:Ty}:∀ (n:Nat) (parts:List (Nat×Operand)) (vs:List (den e)) (ls:List Leaf),YG st e n parts=some (vs,ls)->yr st ls=true->
  ∃ fp,RdL (Rd w e) vs ((parts.map λ p=>YE a p.2).flatten) fp/\∀ b∈fp,γ b=.persist
 | n,[],vs,ls,h,_=>by simp only[YG,alq,alw] at h; exact⟨[],by rw[←h.1]; rfl,by simp⟩
 | n,(i,x)::r,vs,ls,h,hs=>by
  simp only[YG] at h;split at h
  ·next l1 hi hx=>
   split at h
   ·next v hv=>
    split at h
    ·next vs' ls' ag3=>
     simp only[alq,alw] at h;obtain⟨rfl,rfl⟩:=h;obtain⟨s1,s2⟩:=JA hs;obtain⟨fp,g1,g2⟩:=uq hr (n+1) r vs' ls' ag3 s2;obtain⟨x1,x2⟩:=NK hr hx;obtain⟨f,q1,q2,q3⟩:=YF hr hv x1;refine⟨f++fp,⟨YE a x,_,f,fp,by simp,rfl,q1,g1⟩,?_⟩;intro b hb;rcases List.mem_append.1 hb with hb|hb
     ·exact q3 s1 b hb
     ·exact g2 b hb
    ·cases h
   ·cases h
  ·cases h
theorem ur [Tags] (hr:Rel0 B X A w0 γ loc st a w) {e:Ty}:∀ (n:Nat) (parts:List (Nat×Operand)) (vs:List (den e)) (ls:List Leaf) (ids:List Nat),YG st e n parts=some (vs,ls)->
  yk st ls=some ids->(∀ i∈ids,KR st i)->
  ∃ fp,RdL (Rd w e) vs ((parts.map λ p=>YE a p.2).flatten) fp/\fp.Nodup/\∀ b∈fp,∃ i∈ids,γ b=.top i∨γ b=.deep i
 | n,[],vs,ls,ids,h,_,_=>by simp only[YG,alq,alw] at h; exact⟨[],by rw[←h.1]; rfl,List.nodup_nil,by simp⟩
 | n,(i,x)::r,vs,ls,ids,h,hg,hu=>by
  simp only[YG] at h;split at h
  ·next l1 hi hx=>
   split at h
   ·next v hv=>
    split at h
    ·next vs' ls' ag3=>
     simp only[alq,alw] at h;obtain⟨rfl,rfl⟩:=h;obtain⟨i1,i2,g1,g2,g3,g4⟩:=Jj hg;subst g3;obtain⟨fp,k1,k2,k3⟩:=ur hr (n+1) r vs' ls' i2 ag3 g2 (λ i hi=>hu i (by simp[hi]));obtain⟨x1,x2⟩:=NK hr hx;obtain⟨xs,fs,h3,h4,h5,h6,h7⟩:=Na hr hv x1 g1;obtain⟨n1,n2⟩:=h7 (λ i hi=>hu i (by simp[hi]));obtain⟨f,q1,q2,q3⟩:=h3.rdN;have own:∀ b∈f,∃ i∈i1,γ b=.top i∨γ b=.deep i:=by
      intro b hb;rcases q2 b hb with h|h
      ·obtain⟨i,hi,e⟩:=h5 b h; exact⟨i,hi,.inl e⟩
      ·obtain⟨i,hi,e⟩:=n2 b h; exact⟨i,hi,.inr e⟩
     refine⟨f++fp,⟨YE a x,_,f,fp,by simp,rfl,q1,k1⟩,ZG (q3 h4 n1 ?_) k2 ?_,?_⟩
     ·intro b hb hb';obtain⟨i,_,e1⟩:=h5 b hb;obtain⟨j,_,e2⟩:=n2 b hb';rw[e1] at e2; cases e2
     ·intro b hb hb';obtain⟨i,hi,e1⟩:=own b hb;obtain⟨j,hj,e2⟩:=k3 b hb';rcases e1 with e1|e1<;>rcases e2 with e2|e2<;>rw[e1] at e2<;>cases e2
      ·exact g4 i hi hj
      ·exact g4 i hi hj
     ·intro b hb;rcases List.mem_append.1 hb with hb|hb
      ·obtain⟨i,hi,e⟩:=own b hb; exact⟨i,by simp[hi],e⟩
      ·obtain⟨i,hi,e⟩:=k3 b hb; exact⟨i,by simp[hi],e⟩
    ·cases h
   ·cases h
  ·cases h
theorem uz [Tags] (a:Act) (size:Nat):∀ (parts:List (Nat×Operand)) (n:Nat) (cells:Array Value) (pre rest:List Value),cells.toList=pre++rest->pre.length=n*size->rest.length=parts.length*size->
  (∀ (j:Nat) (p:Nat×Operand),parts[j]?=some p->p.1=n+j/\(YE a p.2).length=size)->
  ∃ c:Array Value,Instr.fill (λ i=>some (i*size,size)) cells (parts.map λ x=>(x.1,a.eval x.2))=some c/\c.toList=pre++(parts.map λ p=>YE a p.2).flatten
 | [],n,cells,pre,rest,h,_,hl,_=>⟨cells,rfl,by simp at hl; simp[h,hl]⟩
 | (i,x)::parts,n,cells,pre,rest,h,hp,hl,hs=>by
  obtain⟨h1,h2⟩:=hs 0 (i,x) rfl;simp only[amf] at h1;subst h1;rw[alr,alV] at hl;have hsz:(a.eval x).cells.size=size:=by rw[←h2]; simp[YE]
  have hcs:cells.size=i*size+(parts.length*size+size):=by rw[←amb,h,alv,hp,hl]
  have e1:setAt cells.toList (i*size) (YE a x)=(pre++YE a x)++rest.drop size:=by
   rw[h,rS (by omega),hp,Nat.sub_self];unfold setAt;simp[h2]
  obtain⟨c,q1,q2⟩:=uz a size parts (i+1) (setAt cells.toList (i*size) (YE a x)).toArray (pre++YE a x) (rest.drop size) (by simpa using e1)
   (by rw[alv,hp,h2,alV]) (by rw[alF]; omega) (λ j p hj=>by
    have:=hs (j+1) p (by simpa using hj); exact⟨by omega,this.2⟩)
  refine⟨c,?_,by simpa using q2⟩;simp only[alG];rw[cY rfl hsz (by omega)];exact q1
theorem uE {α:Type} (s:Nat):∀ (l:List (List α)),(∀ x∈l,x.length=s)->l.flatten.length=l.length*s
 | [],_=>by simp
 | x::l,h=>by
  rw[List.flatten_cons,List.length_append,h x (by simp),uE s l (λ y hy=>h y (by simp[hy])),List.length_cons,Nat.succ_mul,Nat.add_comm]
theorem mg [Tags] (e:Ty):(yp e (zZ e)).cells=(zZ e).toArray:=by
 apply Array.ext';rw[Eu (KQ e) (cL (Qg (λ _=>undef) e))]
theorem aao [Tags] (hT:ym P E.tys=true) {T n:Nat} {ps:Array (Nat×Operand)} (ho:o.op=.buildSlice T n ps) {d:TD} {ET:Nat} {e:Ty} (hd:lk E.tys T=some d) (hty:d.ty=.sl ET e)
  (acE:d.arr=none) {vs:List (den e)} {ls:List Leaf} (hel:YG st e 0 ps.toList=some (vs,ls)) (hn1:ps.toList.length=n) (hn2:n*e.size<=16777216)
  {u u':Bool} {tab:List (Nat×Ent)} (ae2:qX st u ls=some (u',tab)) (hr:Rel0 B X A w0 γ loc st a w)
  (hk:k (St.put { st with tab:=(st.nxt,.arr (.own u') st.lvl ET e vs)::tab,nxt:=st.nxt+1 } o.dst (.v (.one (.sl st.nxt))))=some r)
  (hn:yd B X A w0 k r o.dst.toList st next):o.wp P a w next Q:=by
 have ht:=yc hT hd;obtain⟨hu,de,hde,hdt,hda⟩:=ht.slice hty acE;have hte:=yc hT hde;subst hdt;obtain⟨g1,g2⟩:=uo hr 0 ps.toList vs ls hel;have afZ:=de.ty.size_pos;have hzl:(zZ de.ty).length=de.ty.size:=KQ _;have hz:=hte.zero hda w;have hzr:((Array.range (n*de.ty.size)).map λ i=>(zZ de.ty).toArray[i % (zZ de.ty).toArray.size]!).toList.length=n*de.ty.size:=by simp
 obtain⟨c,c1,c2⟩:=uz a de.ty.size ps.toList 0 ((Array.range (n*de.ty.size)).map λ i=>(zZ de.ty).toArray[i % (zZ de.ty).toArray.size]!) [] _ rfl (by simp)
  (by rw[hzr,hn1]) g2
 have htk:=Ed hr ae2;have hlen:vs.length=n:=by rw[g1,hn1]
 have aei:∃ ids fp,(∀ j,look tab j=if j∈ids then none else look st.tab j)/\(∀ i∈ids,jA st i)/\RdL (Rd w de.ty) vs c.toList fp/\YH (relab ids (Zo u' st.nxt) γ) (.own u') st.nxt fp:=by
  obtain⟨rfl,_⟩:=htk;unfold qX at ae2;cases u' with
  | true=>
   simp only at ae2;split at ae2
   ·next ids hg=>
    cases ae2;obtain⟨q1,q2⟩:=YJ hg;obtain⟨fp,k1,k2,k3⟩:=ur hr 0 ps.toList vs ls ids hel q1 q2;refine⟨ids,fp,λ j=>YO ids st.tab j,YI q1,by rw[c2]; simpa using k1,k2,?_⟩
    intro b hb;obtain⟨i,hi,h|h⟩:=k3 b hb
    ·rw[JZ h,if_pos hi]; rfl
    ·rw[Yq h,if_pos hi]; rfl
   ·cases ae2
  | false=>
   simp only at ae2;split at ae2
   ·next hs=>
    cases ae2;obtain⟨fp,k1,k2⟩:=uq hr 0 ps.toList vs ls hel hs;exact⟨[],fp,Jm st.tab,by simp,by rw[c2]; simpa using k1,λ b hb=>ZU (k2 b hb)⟩
   ·cases ae2
 obtain⟨ids,fp,m1,m2,m3,m4⟩:=aei;have ajc:c.size=n*de.ty.size:=by
  rw[←amb,c2,alL,uE de.ty.size,amc,hn1];intro x hx;obtain⟨p,hp,rfl⟩:=List.mem_map.1 hx;obtain⟨j,hj⟩:=List.mem_iff_getElem?.1 hp;exact (g2 j p hj).2
 have ad4:=hr.newOwn m1 m2 u' st.lvl ET (T:=ET) (fr:=(0,0)) (cap:=n) m3 ajc (by omega) (by
  have:n<=n*de.ty.size:=Nat.le_mul_of_pos_right _ afZ;omega) (JO _) ⟨Iff.rfl,(Lj hT hd).1 hty⟩ m4
 rw[hlen] at ad4;refine jY (x:=.v (.one (.sl st.nxt))) (v:=.slice (some ⟨w.heap.size,0,none⟩) n n) hn ?_ ad4 (Pres.newTab (ids_lt hr) m1 m2 _) (eJ st w loc n n) (by simp[AV.lt,V1.lt,Leaf.lt]) hk;have hpp:(ps.map λ x=>(x.1,a.eval x.2)).toList=ps.toList.map λ x=>(x.1,a.eval x.2):=by simp
 have hng:¬ n*de.ty.size>2 ^ 24:=by omega
 by_cases hn0:n*de.ty.size=0
 ·have hr0:∀ f:Nat->Value,(Array.range (n*de.ty.size)).map f = #[]:=λ f=>by rw[hn0]; simp
  rw[hr0] at c1;simp only[execOp,ho,Instr.buildSlice,alC,yl hu,hte.size hda,alA,hng,if_false,hn0,if_true,alB,hpp];simp only[show (0:Nat)>2 ^ 24↔False by simp,if_false,pure_bind];rw[show (Array.map (λ x:Nat=>(#[]:Array Value)[x % (#[]:Array Value).size]!) (Array.range 0)) = #[] by simp,c1];simp[newRow,jv]
 ·simp only[execOp,ho,Instr.buildSlice,alC,yl hu,hte.size hda,alA,hng,if_false,hn0,hz,alB,mg,hpp,c1];simp[newRow,jv]
def jt (w:World):World:={ w with drawn:=w.drawn+1 }
theorem Rel0.drew [Tags] (h:Rel0 B X A w0 γ loc st a w):Rel0 B X A w0 γ loc st a (jt w):=
 h.upd (M:=λ _=>False) rfl (Nat.le_refl _) ⟨rfl,rfl,rfl,Nat.le_refl _,λ _ _ _=>rfl,λ _ h=>h,λ _=>Shape.same rfl⟩ (λ _ _ h=>h) h.old (λ _ _=>rfl)
  ⟨λ _ _ h=>⟨h,rfl⟩,λ _ _ _ h _=>⟨h,rfl⟩,λ _ i _ h=>⟨rfl,λ _=>h,λ _=>.inr ⟨i,h⟩⟩⟩ (λ _ h=>h.elim) (λ _ _ h=>.inl ⟨h,λ h=>h⟩)
theorem Rd.drew [Tags] {w:World} {t:Ty} {v:den t} {cs fp} (h:Rd w t v cs fp):Rd (jt w) t v cs fp:=h.frame (λ _ _=>rfl)
theorem Rd.one [Tags] {w:World}:∀ {t:Ty} {v:den t} {cs fp},Rd w t v cs fp->∀ c∈cs,c.oneCell'=true
 | .i64,_,_,_,h=>by rw[h.1]; simp[Value.oneCell']
 | .u8,_,_,_,h=>by rw[h.1]; simp[Value.oneCell']
 | .bool,_,_,_,h=>by rw[h.1]; simp[Value.oneCell']
 | .str,_,_,_,h=>by rw[h.1]; simp[Value.oneCell']
 | .sl _ _,_,_,_,h=>by obtain⟨a,n,c,h,_⟩:=h; rw[h]; simp[Value.oneCell']
 | .pair a b,_,_,_,h=>by
  obtain⟨c1,c2,f1,f2,h1,_,h3,h4⟩:=h;intro c hc;rw[h1] at hc;rcases List.mem_append.1 hc with hc|hc
  ·exact h3.one c hc
  ·exact h4.one c hc
theorem RdL.one [Tags] {w:World} {e:Ty}:∀ {xs:List (den e)} {cs fp},RdL (Rd w e) xs cs fp->∀ c∈cs.take (xs.length*e.size),c.oneCell'=true
 | [],_,_,_=>by simp
 | x::xs,cs,fp,⟨c,rest,f1,f2,h1,h2,h3,h4⟩=>by
  have l1:=h3.len;intro d hd;rw[h1,alr,alV,amQ,amr (by omega),l1] at hd;rcases List.mem_append.1 hd with hd|hd
  ·exact h3.one d hd
  ·refine RdL.one h4 d ?_
   rwa [show xs.length*e.size+e.size - e.size=xs.length*e.size by omega] at hd
structure AppOk [Tags] (P:Program) (B:Nat) (w:World) (γ:Nat->Own) (st:St) (e:Ty) (v:Value) (ys:List (den e)) (u':Bool) (tab:List (Nat×Ent)) (ids:List Nat) (cs:List Value) (fy:List Nat):Prop where
 len:(Builtin.lenOf v).run P w=.ok ys.length w
 cells:∀ w',w'.heap=w.heap->(Builtin.firstCells e.size ys.length v).run P w'=.ok cs.toArray w'
 size:cs.length=ys.length*e.size
 rd:RdL (Rd w e) ys cs fy
 look:∀ j,look tab j=if j∈ids then none else look st.tab j
 own:∀ i∈ids,jA st i
 max:ys.length<=140737488355328
 uniq:u'=true->fy.Nodup/\∀ b∈fy,∃ i∈ids,γ b=.deep i
 held:u'=false->∀ b∈fy,γ b=.persist∨∃ i∈ids,γ b=.deep i
theorem uC [Tags] {w:World} {e:Ty} {ys:List (den e)} {v:Value} {fp:List Nat} {EE:Nat} (h:Rd w (.sl EE e) ys [v] fp):
  ∃ cs fy,(Builtin.lenOf v).run P w=.ok ys.length w/\(∀ w',w'.heap=w.heap->(Builtin.firstCells e.size ys.length v).run P w'=.ok cs.toArray w')/\cs.length=ys.length*e.size/\RdL (Rd w e) ys cs fy/\
   ys.length<=140737488355328/\(∀ b∈fy,b∈fp)/\(fp=[]∨∃ b,fp=b::fy):=by
 obtain⟨a1,n,c,h1,h2,h3,h4,h5⟩:=h;simp only[alQ,and_true] at h1;subst h1;rcases h5 with⟨h5,h6,_⟩|⟨b,ob,arr,T,fr,fp',ha,hb,hfp,hl,_⟩
 ·refine⟨[],[],by simp[Builtin.lenOf,h2],?_,by simp[h5],by rw[h5]; rfl,by omega,by simp,.inl h6⟩
  rw[h5];intro w' hw';cases a1 with
  | none=>simp[Builtin.firstCells]
  | some a1=>simp[Builtin.firstCells,loadCells,loadCellsFrom]
 ·have hle:=hl.le;have afQ:ob+ys.length*e.size<=arr.size∨ys.length*e.size=0:=by
   simp at hle; omega
  refine⟨(arr.toList.drop ob).take (ys.length*e.size),fp',by simp[Builtin.lenOf,h2],?_,?_,hl.cut,by omega,λ c hc=>by rw[hfp]; exact List.mem_cons_of_mem _ hc,.inr ⟨b,hfp⟩⟩
  ·rw[ha];intro w' hw';simp only[Builtin.firstCells];rcases afQ with afQ|hz
   ·exact be (by rw[hw']; exact hb) afQ
   ·rw[hz]; simp[loadCells,loadCellsFrom]
  ·rw[alE]; omega
theorem wF [Tags] {w:World} {e:Ty} {ys:List (den e)} {v:Value} {EE:Nat} {xb fs:List Nat} (h:RdO w (.sl EE e) ys [v] xb fs):
  ∃ cs fy,(Builtin.lenOf v).run P w=.ok ys.length w/\(∀ w',w'.heap=w.heap->(Builtin.firstCells e.size ys.length v).run P w'=.ok cs.toArray w')/\cs.length=ys.length*e.size/\RdL (Rd w e) ys cs fy/\
   ys.length<=140737488355328/\fy=fs:=by
 rcases h with⟨h1,h2,h3,h4⟩|⟨b,cap,arr,T,fr,h1,h2,h3,h4,h5,h6,h7,h8⟩
 ·simp only[alQ,and_true] at h2;subst h1; subst h2; subst h4
  exact⟨[],[],by simp[Builtin.lenOf],by simp[Builtin.firstCells],by simp,rfl,by simp,rfl⟩
 ·simp only[alQ,and_true] at h1;subst h1;have hle:=h7.le;refine⟨(arr.toList.drop 0).take (ys.length*e.size),fs,by simp[Builtin.lenOf],?_,?_,by simpa using h7.cut,h6,rfl⟩
  ·intro w' hw';simp only[Builtin.firstCells];exact be (by rw[hw']; exact h2) (by simp at hle; omega)
  ·rw[alE]; simp at hle ⊢; omega
theorem PN (l:List UInt8):((⟨⟨l⟩⟩:ByteArray).extract 0 l.length).data.toList=l:=by
 simp[ByteArray.extract,ByteArray.copySlice]
theorem pI [Tags] (w:World):∀ (l:List UInt8),RdL (Rd w .u8) l (l.map λ b=>Value.int .u8 (b.toNat:Int)) []
 | []=>rfl
 | x::l=>⟨[.int .u8 (x.toNat:Int)],_,[],[],rfl,rfl,⟨rfl,rfl⟩,pI w l⟩
theorem tO [Tags] (hr:Rel0 B X A w0 γ loc st a w) {e:Ty} {u u':Bool} {x:Leaf} {v:Value} (hx:LeafOk loc x v) {ys:List (den e)} {tab:List (Nat×Ent)}
  (h:M4 st e u x=some (ys,u',tab)):∃ ids cs fy,AppOk P B w γ st e v ys u' tab ids cs fy/\(∀ i∈ids,zV [x]=[i]):=by
 unfold M4 at h;split at h
 ·cases h;rw[show v=_ from hx];exact⟨[],[],[],⟨by simp[Builtin.lenOf],by simp[Builtin.firstCells],by simp,rfl,Jm _,by simp,by simp,λ _=>⟨List.nodup_nil,by simp⟩,by simp⟩,by simp⟩
 ·next l=>
  obtain⟨hv,hb⟩:=hx;split at h
  ·cases h;subst hv;refine⟨[],l.map (λ b=>Value.int .u8 (b.toNat:Int)),[],⟨?_,?_,by simp[Ty.size],pI w l,Jm _,by simp,hb,λ _=>⟨List.nodup_nil,by simp⟩,by simp⟩,by simp⟩
   ·simp only[Builtin.lenOf,alB]; rfl
   ·intro w' hw';simp only[Builtin.firstCells,alB];congr 1;apply Array.ext';have:=PN l;rw[Array.toList_map,this]
  ·cases h
 ·next id=>
  obtain⟨hv,_⟩:=hx;split at h
  ·next kd lvl EE e' xs hl=>
   split at h
   ·cases h
   ·next ys' hc=>
    obtain⟨he,hys⟩:=md hc;subst he;simp only at hys;subst hys;have hE:=hr.ents id _ hl;split at h
    ·next hns=>
     simp only[alq,alw] at h;obtain⟨rfl,rfl,rfl⟩:=h;have:∃ fp,Rd w (.sl EE e') ys' [v] fp:=by
      rw[hv];cases kd with
      | imm t=>obtain⟨fp,h1,_⟩:=hE; exact⟨fp,h1⟩
      | lent=>obtain⟨fp,h1,_⟩:=hE; exact⟨fp,h1⟩
      | own u=>obtain⟨xb,fs,h1,_⟩:=hE; obtain⟨fp,h2,_⟩:=h1.rd; exact⟨fp,h2⟩
     obtain⟨fp,h1⟩:=this;obtain⟨cs,fy,g1,g2,g3,g4,g5,g6,g7⟩:=uC (P:=P) h1;have hfy:=g4.noSl hns;subst hfy;exact⟨[],cs,[],⟨g1,g2,g3,g4,Jm _,by simp,g5,λ _=>⟨List.nodup_nil,by simp⟩,by simp⟩,by simp⟩
    ·next hns=>
     split at h
     ·split at h
      ·next hlv=>
       simp only[alq,alw] at h;obtain⟨rfl,rfl,rfl⟩:=h;obtain⟨xb,fs,h1,h2,h3⟩:=hE;rw[←hv] at h1;obtain⟨cs,fy,g1,g2,g3,g4,g5,g6⟩:=wF (P:=P) h1;subst g6;refine⟨[id],cs,fy,⟨g1,g2,g3,g4,?_,?_,g5,λ _=>⟨h3.1,λ b hb=>⟨id,by simp,h3.2 b hb⟩⟩,λ _ b hb=>.inr ⟨id,by simp,h3.2 b hb⟩⟩,by simp[zV]⟩
       ·intro j; rw[ah]; simp
       ·intro i hi;have:i=id:=by simpa using hi
        subst this;exact⟨true,lvl,EE,e',_,hl,(zQ _ _).1 hlv⟩
      ·cases h
     ·simp only[alq,alw] at h;obtain⟨rfl,rfl,rfl⟩:=h;obtain⟨fp,h1,h2⟩:=hE;rw[←hv] at h1;obtain⟨cs,fy,g1,g2,g3,g4,g5,g6,g7⟩:=uC (P:=P) h1;refine⟨[],cs,fy,⟨g1,g2,g3,g4,Jm _,by simp,g5,(λ h=>by cases h),λ _ b hb => ?_⟩,by simp⟩;rcases h2 b (g6 b hb) with h|⟨h,_⟩
      ·exact .inl h
      ·cases h
     ·simp only[alq,alw] at h;obtain⟨rfl,rfl,rfl⟩:=h;obtain⟨xb,fs,h1,h2,h3⟩:=hE;rw[←hv] at h1;obtain⟨cs,fy,g1,g2,g3,g4,g5,g6⟩:=wF (P:=P) h1;subst g6;exact⟨[],cs,fy,⟨g1,g2,g3,g4,Jm _,by simp,g5,(λ h=>by cases h),λ _ b hb=>.inl (h3 b hb)⟩,by simp⟩
     ·cases h
     ·cases h
  ·cases h
 ·cases h
theorem Ka {α:Type} {x:Array α} {l:List α} (h:x.toList=l):x=l.toArray:=by rw[←h]
theorem BO [Tags] {c:Call} (hc:o.op=.call c) (hb:c.callee=.builtin .append) {s x:Operand} (hargs:c.args.toList=[s,x]) {T T2:TypeId} (hty:c.argTypes.toList=[T,T2]):
  (execOp a.eval o).run P w=((Builtin.append_ #[T,T2] o.type #[a.eval s,a.eval x]).run P w).andThen λ v w'=>.ok (.value v) w':=by
 have e1:=Ka hargs;have e2:=Ka hty;simp only[execOp,hc,resolve,hb,e1,e2,invoke,builtin,alC,alB,alA];simp only[amJ,alG,am8]
theorem Pu [Tags] (hT:ym P E.tys=true) {T:Nat} (h:LT E T=true):∃ u,P.underlying T=some u/\((∃ EE,u=.slice EE)∨u=.string):=by
 unfold LT at h;split at h
 ·next ET e b f hl=>
  obtain⟨hu,_⟩:=(yc hT hl).slice rfl rfl;exact⟨_,hu,.inl ⟨ET,rfl⟩⟩
 ·next b f ar hl=>
  obtain⟨u,hu,hc⟩:=(yc hT hl).und;refine⟨u,hu,?_⟩;unfold J5 at hc;split at hc<;>first|exact .inr rfl|(simp at hc; done)|(simp[Ty.isPair] at hc; done)
 ·cases h
theorem BN [Tags] (hT:ym P E.tys=true) {T T2 ET:Nat} {d:TD} {e:Ty} (hd:lk E.tys T=some d) (hty:d.ty=.sl ET e) (acE:d.arr=none) (hT2:LT E T2=true)
  {base:Option Addr} {n cap m:Nat} {v:Value} {cs:List Value} {ty:TypeId} (hlen:(Builtin.lenOf v).run P w=.ok m w) (hcells:(Builtin.firstCells e.size m v).run P w=.ok cs.toArray w)
  (acY:(n+m)*Ya E ET<=70368744177664):
  (n+m<=cap->∀ w1,(match base with|some b=>(storeCells (b.add (n*e.size)) cs).run P w=.ok () w1|none=>w1=w)->
   (Builtin.append_ #[T,T2] ty #[.slice base n cap,v]).run P w=.ok (.slice base (n+m) cap) w1)/\
  (cap<n+m->∀ old,(Builtin.firstCells e.size n (.slice base n cap)).run P (jt w)=.ok old (jt w)->(Builtin.firstCells e.size m v).run P (jt w)=.ok cs.toArray (jt w)->
   ∃ nc,n+m<=nc/\(Builtin.append_ #[T,T2] ty #[.slice base n cap,v]).run P w=
    .ok (.slice (some ⟨w.heap.size,0,none⟩) (n+m) nc) (jv (jt w) (.cells (old++cs.toArray++(List.replicate (nc - (n+m)) (zZ e)).flatten.toArray) ET))):=by
 have ht:=yc hT hd;obtain⟨hu,de,hde,hdt,hda⟩:=ht.slice hty acE;subst hdt;have hte:=yc hT hde;obtain⟨u2,hu2,hni⟩:=Pu hT hT2;obtain⟨i,hi,hib,hb1⟩:=hte.bytes;have hrm:Ya E ET=de.bytes:=by simp[Ya,hde]
 rw[hrm] at acY;constructor
 ·intro hle w1 hst;unfold Builtin.append_;simp only[an8,List.getElem?_cons_zero,anp,alC,yl hu,hte.size hda,alA,yl hu2];rcases hni with⟨EE,rfl⟩|rfl
  all_goals
   simp only[alB,alA,alM,if_false,hlen,Sem.run_ite,hle,if_true,alP,alC,hcells];cases base with
   | none=>subst hst; simp
   | some b=>simp[hst]
 ·intro hgt old hold aj4;have hle:¬ n+m<=cap:=by omega
  have hcap:=Room.nextslicecap_le' hgt;have ad5:¬ Builtin.nextslicecap (n+m) cap*de.bytes>2 ^ 48:=by
   have:Builtin.nextslicecap (n+m) cap*de.bytes<=2*(n+m)*de.bytes:=Nat.mul_le_mul_right _ hcap;rw[Nat.mul_assoc] at this;omega
  have hnm:n+m<=70368744177664:=by
   have:n+m<=(n+m)*de.bytes:=Nat.le_mul_of_pos_right _ hb1;omega
  have adR:¬ (((n+m:Nat):Int)>IntKind.i64.max):=by
   simp[IntKind.max,IntKind.signed,IntKind.bits]; omega
  refine⟨n+m+(w.tape w.drawn (.appendCap (n+m) cap ET)) % (2 ^ 63 - (n+m)),by omega,?_⟩;have hzr:=Bv (zZ de.ty) (by rw[KQ]; exact de.ty.size_pos)
  have hzc:∀ k,Builtin.zeroCells (yp de.ty (zZ de.ty)).cells k=(List.replicate k (zZ de.ty)).flatten.toArray:=by
   intro k;apply Array.ext';rw[mg];have:=hzr k;simpa[Builtin.zeroCells] using this
  unfold Builtin.append_;simp only[an8,List.getElem?_cons_zero,anp,alC,yl hu,hte.size hda,alA,yl hu2];rcases hni with⟨EE,rfl⟩|rfl
  all_goals
   simp only[alB,alA,alM,if_false,hlen,Sem.run_ite,hle,alP,if_true,alC,f0 hi,alA,hib,adR,false_and,ad5,run_choose,Question.forced,alM,Question.cut,
   run_askRoom,alB]
   have hd':({ heap:=w.heap,tape:=w.tape,drawn:=w.drawn+1,os:=w.os,output:=w.output }:World)=jt w:=rfl;simp only[hd',hold,aj4,alA,hte.zero hda,hzc];simp[newRow,jv,jt]
theorem Rel0.grow [Tags] (hr:Rel0 B X A w0 γ loc st a w) {tab:List (Nat×Ent)} {ids:List Nat} (ad0:∀ j,look tab j=if j∈ids then none else look st.tab j) (acL:∀ i∈ids,jA st i)
  (u:Bool) (lvl ET:Nat) {e:Ty} {xs:List (den e)} {b cap:Nat} {arr arr':Array Value} {T:TypeId} {fr:Nat×Nat} {fp:List Nat} {id:Nat} (hid:id∈ids) (hb:γ b=.top id)
  (hh:w.heap[b]?=some (.cells arr T fr)) (hrd:RdL (Rd w e) xs arr'.toList fp) (hsz:arr'.size=cap*e.size) (hcap:xs.length<=cap) (adR:xs.length<=140737488355328) (hfr:frees fr arr'.size) (hss:arr'.size=arr.size) (afk:KW ET T/\(ET=Tags.post->e.size=18))
  (hfp:YH (relab ids (Zo u st.nxt) γ) (.own u) st.nxt fp) (hnb:b∉fp):
  Rel0 B X A w0 (λ c=>if c=b then .top st.nxt else relab ids (Zo u st.nxt) γ c) (λ i=>if i=st.nxt then .slice (some ⟨b,0,none⟩) xs.length cap else loc i)
   { st with tab:=(st.nxt,.arr (.own u) lvl ET e xs)::tab,nxt:=st.nxt+1 } a (yZ w b (.cells arr' T fr)):=by
 refine hr.upd (M:=λ i=>i∈ids) rfl (by simp) (mZ hr.old hb _ (whole hfr) (pO hh hss)) (λ c _ ho=>by
  by_cases e:c=b
  ·subst e; rw[hb]; trivial
  ·exact Mo (by simpa[e] using ho)) ?_ ?_ ⟨?_,?_,?_⟩ (λ i h=>by obtain⟨u,lvl,E',e,xs,h',_⟩:=acL i h; exact⟨_,h'⟩) ?_
 ·intro c hc hx;have hne:c≠b:=by
   intro h;subst h;rcases hr.old _ hc hx with h|⟨h,_⟩<;>rw[hb] at h<;>cases h
  simp only[hne,if_false];exact Mn hr.old c hc hx
 ·intro i hi; simp[show i≠st.nxt by omega]
 ·intro c hc h;have hne:c≠b:=by intro e; subst e; rw[hb] at h; cases h
  simp only[hne,if_false];exact⟨ZU h,Z8 hne⟩
 ·intro c i hc h hi;have hne:c≠b:=by intro e; subst e; rw[hb] at h; cases h; exact hi hid
  simp only[hne,if_false];exact⟨by rw[JZ h,if_neg hi],Z8 hne⟩
 ·intro c i hc h;have hne:c≠b:=by intro e; subst e; rw[hb] at h; cases h
  simp only[hne,if_false];exact⟨Z8 hne,λ hi=>by rw[Yq h,if_neg hi],λ hi=>by rw[Yq h,if_pos hi]; exact nX u st.nxt⟩
 ·intro i e' hi;rw[yS] at hi;split at hi
  ·rename_i hii;cases hi;subst hii;refine .inr ⟨⟨⟨[b],fp,?_,by simp,?_⟩,trivial,by simp⟩,.inl (Nat.le_refl _)⟩
   ·exact .inr ⟨b,cap,arr',T,fr,by simp,Yp hh,hfr,hsz,hcap,adR,hrd.frame (λ c hc=>Z8 (λ e=>by subst e; exact hnb hc)),rfl,afk⟩
   ·have same:∀ c∈fp,(if c=b then Own.top st.nxt else relab ids (Zo u st.nxt) γ c)=relab ids (Zo u st.nxt) γ c:=by
     intro c hc;rw[if_neg (λ e=>by subst e; exact hnb hc)]
    cases u with
    | true=>exact⟨hfp.1,λ c hc=>(same c hc).trans (hfp.2 c hc)⟩
    | false=>exact λ c hc=>(same c hc).trans (hfp c hc)
  ·rw[ad0] at hi;split at hi
   ·cases hi
   ·rename_i hni; exact .inl ⟨hi,hni⟩
theorem Rel0.nilOwn [Tags] (hr:Rel0 B X A w0 γ loc st a w) {tab:List (Nat×Ent)} {ids:List Nat} (ad0:∀ j,look tab j=if j∈ids then none else look st.tab j) (acL:∀ i∈ids,jA st i) (u:Bool) (lvl ET:Nat) (e:Ty):
  Rel0 B X A w0 (relab ids (Zo u st.nxt) γ) (λ i=>if i=st.nxt then .slice none 0 0 else loc i)
   { st with tab:=(st.nxt,.arr (.own u) lvl ET e [])::tab,nxt:=st.nxt+1 } a w:=by
 refine hr.upd (M:=λ i=>i∈ids) rfl (by simp) (Keeps.refl _ _ _) (λ _ _ h=>Mo h) (Mn hr.old) ?_ (Moves.relab (nX u st.nxt) γ w) (λ i h=>by obtain⟨u,lvl,E',e,xs,h',_⟩:=acL i h; exact⟨_,h'⟩) ?_
 ·intro i hi; simp[show i≠st.nxt by omega]
 ·intro i e' hi;rw[yS] at hi;split at hi
  ·rename_i hii;cases hi;subst hii;exact .inr ⟨⟨⟨[],[],.inl ⟨rfl,by simp,rfl,rfl⟩,by simp,mH _ _ _⟩,trivial,by simp⟩,.inl (Nat.le_refl _)⟩
  ·rw[ad0] at hi;split at hi
   ·cases hi
   ·rename_i hni; exact .inl ⟨hi,hni⟩
theorem wt (st:St) (loc:Nat->Value):AVOk (λ i=>if i=st.nxt then Value.slice none 0 0 else loc i) (.v (.one (.sl st.nxt))) (.slice none 0 0):=
 ⟨by simp,_,_,_,rfl⟩
theorem Vp [Tags] {ids:List Nat} {ow:Own} {γ:Nat->Own} {b i:Nat} (h:γ b=.top i) (hi:i∈ids):relab ids ow γ b=ow:=by rw[JZ h,if_pos hi]
theorem Lm [Tags] {ids:List Nat} {ow:Own} {γ:Nat->Own} {b i:Nat} (h:γ b=.deep i) (hi:i∈ids):relab ids ow γ b=ow:=by rw[Yq h,if_pos hi]
theorem tk [Tags] (e:Ty) (n:Nat):((List.replicate n (zZ e)).flatten.toArray).size=n*e.size:=by
 rw[alR,EL]
theorem tN [Tags] (hT:ym P E.tys=true) {T T2 ET:Nat} {d:TD} {e:Ty} (hd:lk E.tys T=some d) (hty:d.ty=.sl ET e) (acE:d.arr=none) (hT2:LT E T2=true)
  {c:Call} (hc:o.op=.call c) (hb:c.callee=.builtin .append) {s x:Operand} (hargs:c.args.toList=[s,x]) (aec:c.argTypes.toList=[T,T2])
  (hs:a.eval s=.slice none 0 0) (hr:Rel0 B X A w0 γ loc st a w) {ys:List (den e)} {u:Bool} {tab:List (Nat×Ent)} {ids:List Nat} {cs:List Value} {fy:List Nat}
  (hlen:(Builtin.lenOf (a.eval x)).run P w=.ok ys.length w) (hcells:∀ w',w'.heap=w.heap->(Builtin.firstCells e.size ys.length (a.eval x)).run P w'=.ok cs.toArray w')
  (hsz:cs.length=ys.length*e.size) (hrd:RdL (Rd w e) ys cs fy) (adR:ys.length<=140737488355328) (ad0:∀ j,look tab j=if j∈ids then none else look st.tab j) (acL:∀ i∈ids,jA st i)
  (hfp:YH (relab ids (Zo u st.nxt) γ) (.own u) st.nxt fy) (acY:ys.length*Ya E ET<=70368744177664)
  (hk:k (St.put { st with tab:=(st.nxt,.arr (.own u) st.lvl ET e ys)::tab,nxt:=st.nxt+1 } o.dst (.v (.one (.sl st.nxt))))=some r)
  (hn:yd B X A w0 k r o.dst.toList st next):o.wp P a w next Q:=by
 obtain⟨g1,g2⟩:=BN (P:=P) (w:=w) (ty:=o.type) hT hd hty acE hT2 (base:=none) (n:=0) (cap:=0) hlen (hcells w rfl) (by simpa using acY);have hex:=BO (P:=P) (a:=a) (w:=w) hc hb hargs aec;rw[hs] at hex;by_cases h0:ys.length=0
 ·have hys:ys=[]:=List.length_eq_zero_iff.1 h0;subst hys;have h1:=g1 (by simp) w rfl;rw[h1] at hex;refine jY (x:=.v (.one (.sl st.nxt))) (v:=.slice none 0 0) hn (by simpa using hex) (hr.nilOwn ad0 acL u st.lvl ET e) (Pres.newTab (ids_lt hr) ad0 acL _) (wt st loc) (by simp[AV.lt,V1.lt,Leaf.lt]) hk
 ·obtain⟨nc,h1,h2⟩:=g2 (by omega) #[] (by simp[Builtin.firstCells]) (hcells _ rfl);rw[h2] at hex;simp only[amg,Array.empty_append] at hex h1;have ad4:=hr.drew.newOwn ad0 acL u st.lvl ET (T:=ET) (fr:=(0,0)) (cap:=nc) (arr:=cs.toArray++(List.replicate (nc - ys.length) (zZ e)).flatten.toArray) (xs:=ys) (fp:=fy)
   (by have:=(hrd.frame (w':=jt w) (λ _ _=>rfl)).more ((List.replicate (nc - ys.length) (zZ e)).flatten); simpa using this)
   (by rw[ams,tk,alR,hsz,←am3]; congr 1; omega) h1 adR (JO _) ⟨Iff.rfl,(Lj hT hd).1 hty⟩ hfp
  exact jY (x:=.v (.one (.sl st.nxt))) hn hex ad4 (Pres.newTab (ids_lt hr) ad0 acL _) (eJ st (jt w) loc ys.length nc) (by simp[AV.lt,V1.lt,Leaf.lt]) hk
theorem Pv [Tags] (hT:ym P E.tys=true) {T T2 ET:Nat} {d:TD} {e:Ty} (hd:lk E.tys T=some d) (hty:d.ty=.sl ET e) (acE:d.arr=none) (hT2:LT E T2=true)
  {c:Call} (hc:o.op=.call c) (hb:c.callee=.builtin .append) {s x:Operand} (hargs:c.args.toList=[s,x]) (aec:c.argTypes.toList=[T,T2])
  {b cap:Nat} {xs:List (den e)} (hs:a.eval s=.slice (some ⟨b,0,none⟩) xs.length cap) (hr:Rel0 B X A w0 γ loc st a w)
  {arr:Array Value} {T':TypeId} {fr:Nat×Nat} {fs:List Nat} {id:Nat}
  (hh:w.heap[b]?=some (.cells arr T' fr)) (hfr:frees fr arr.size) (ahM:arr.size=cap*e.size) (hxc:xs.length<=cap) (agH:RdL (Rd w e) xs arr.toList fs) (hbo:γ b=.top id) (afk:KW ET T')
  {ys:List (den e)} {u:Bool} {tab:List (Nat×Ent)} {ids:List Nat} {cs:List Value} {fy:List Nat}
  (hlen:(Builtin.lenOf (a.eval x)).run P w=.ok ys.length w) (hcells:∀ w',w'.heap=w.heap->(Builtin.firstCells e.size ys.length (a.eval x)).run P w'=.ok cs.toArray w')
  (hsz:cs.length=ys.length*e.size) (hrd:RdL (Rd w e) ys cs fy) (ad0:∀ j,look tab j=if j∈ids then none else look st.tab j) (acL:∀ i∈ids,jA st i) (hid:id∈ids)
  (hfp:YH (relab ids (Zo u st.nxt) γ) (.own u) st.nxt (fs++fy)) (hnb:b∉fs++fy) (acY:(xs.length+ys.length)*Ya E ET<=70368744177664)
  (adR:xs.length+ys.length<=140737488355328)
  (hk:k (St.put { st with tab:=(st.nxt,.arr (.own u) st.lvl ET e (xs++ys))::tab,nxt:=st.nxt+1 } o.dst (.v (.one (.sl st.nxt))))=some r)
  (hn:yd B X A w0 k r o.dst.toList st next):o.wp P a w next Q:=by
 obtain⟨g1,g2⟩:=BN (P:=P) (w:=w) (ty:=o.type) hT hd hty acE hT2 (base:=some ⟨b,0,none⟩) (n:=xs.length) (cap:=cap) hlen (hcells w rfl) acY;have hex:=BO (P:=P) (a:=a) (w:=w) hc hb hargs aec;rw[hs] at hex;have hlx:(xs++ys).length=xs.length+ys.length:=by simp
 by_cases h0:xs.length+ys.length<=cap
 ·have ajU:(xs.length+ys.length)*e.size<=cap*e.size:=Nat.mul_le_mul_right _ h0;rw[am3] at ajU;have hst:=pX (P:=P) b (0+xs.length*e.size) T' fr cs 0 arr w hh hfr (by omega) (by
   have:=hrd.one;rw[←hsz,amq] at this;exact this)
  have h1:=g1 h0 _ (by
   show (storeCells ((⟨b,0,none⟩:Addr).add (xs.length*e.size)) cs).run P w=_;rw[LR];exact hst)
  rw[h1] at hex;simp only[amg,amf,alA] at hex;have hle:xs.length*e.size+cs.length<=arr.toList.length:=by
   have h2:arr.toList.length=arr.size:=Array.length_toList;omega
  have hl2:=YZ hle;have htl:(arr.toList.take (xs.length*e.size)).length=xs.length*e.size:=by
   have:=agH.le;rw[alE]; omega
  have q:RdL (Rd w e) (xs++ys) ((setAt arr.toList (xs.length*e.size) cs).toArray).toList (fs++fy):=
   RdL.more (arr.toList.drop (xs.length*e.size+cs.length)) (RdL.app agH.cut htl hrd)
  have ad4:=hr.grow ad0 acL u st.lvl ET (xs:=xs++ys) (cap:=cap) (arr':=(setAt arr.toList (xs.length*e.size) cs).toArray) (fp:=fs++fy) hid hbo hh
   q
   (by rw[alR,hl2]; simpa using ahM) (by omega) (by omega) (by rw[alR,hl2]; simpa using hfr) (by rw[alR,hl2]; simp) ⟨afk,(Lj hT hd).1 hty⟩ hfp hnb
  rw[hlx] at ad4;exact jY (x:=.v (.one (.sl st.nxt))) (v:=.slice (some ⟨b,0,none⟩) (xs.length+ys.length) cap) hn hex ad4 (Pres.newTab (ids_lt hr) ad0 acL _) ⟨by simp,_,_,_,rfl⟩ (by simp[AV.lt,V1.lt,Leaf.lt]) hk
 ·have hx0:=agH.le;have hold:(Builtin.firstCells e.size xs.length (.slice (some ⟨b,0,none⟩) xs.length cap)).run P (jt w)=.ok ((arr.toList.drop 0).take (xs.length*e.size)).toArray (jt w):=by
   simp only[Builtin.firstCells];exact be (w:=jt w) hh (by simp at hx0; omega)
  obtain⟨nc,h1,h2⟩:=g2 (by omega) _ hold (hcells _ rfl);rw[h2] at hex;simp only[alA,alN] at hex;have htl:(arr.toList.take (xs.length*e.size)).length=xs.length*e.size:=by rw[alE]; omega
  have ad4:=hr.drew.newOwn ad0 acL u st.lvl ET (T:=ET) (fr:=(0,0)) (cap:=nc)
   (arr:=(arr.toList.take (xs.length*e.size)).toArray++cs.toArray++(List.replicate (nc - (xs.length+ys.length)) (zZ e)).flatten.toArray) (xs:=xs++ys) (fp:=fs++fy)
   (by
    have q1:=agH.cut.frame (w':=jt w) (λ _ _=>rfl);have q2:=hrd.frame (w':=jt w) (λ _ _=>rfl);have:=(RdL.app q1 htl q2).more ((List.replicate (nc - (xs.length+ys.length)) (zZ e)).flatten);simpa using this)
   (by
    rw[ams,ams,tk,alR,alR,hsz,htl,←am3,←am3]; congr 1; omega) (by omega) (by omega) (JO _) ⟨Iff.rfl,(Lj hT hd).1 hty⟩ hfp
  rw[hlx] at ad4;exact jY (x:=.v (.one (.sl st.nxt))) hn hex ad4 (Pres.newTab (ids_lt hr) ad0 acL _) (eJ st (jt w) loc (xs.length+ys.length) nc) (by simp[AV.lt,V1.lt,Leaf.lt]) hk
theorem Pw {e:Ty} {u u':Bool} {x:Leaf} {ys:List (den e)} {tab:List (Nat×Ent)} (h:M4 st e u x=some (ys,u',tab)):u'=true->u=true:=by
 unfold M4 at h;repeat' split at h
 all_goals first
  | (cases h; done)
  | (simp only[alq,alw] at h; obtain⟨_,rfl,_⟩:=h; simp; done)
  | (simp only[alq,alw] at h; obtain⟨_,h,_⟩:=h; intro hu; rw[←h] at hu; exact hu)
theorem AppOk.fp [Tags] {e:Ty} {v:Value} {ys:List (den e)} {u:Bool} {tab:List (Nat×Ent)} {ids:List Nat} {cs:List Value} {fy:List Nat} (h:AppOk P B w γ st e v ys u tab ids cs fy):
  YH (relab ids (Zo u st.nxt) γ) (.own u) st.nxt fy:=by
 cases u with
 | true=>
  obtain⟨h1,h2⟩:=h.uniq rfl;exact⟨h1,λ b hb=>by obtain⟨i,hi,e⟩:=h2 b hb; rw[Lm e hi]; rfl⟩
 | false=>
  intro b hb;rcases h.held rfl b hb with h|⟨i,hi,e⟩
  ·exact ZU h
  ·rw[Lm e hi]; rfl
theorem BM [Tags] (hT:ym P E.tys=true) {T ET n:Nat} {d:TD} {e:Ty} (hd:lk E.tys T=some d) (hty:d.ty=.sl ET e) (acE:d.arr=none) (h:n*Ya E ET<=70368744177664):n<=70368744177664:=by
 obtain⟨hu,de,hde,hdt,hda⟩:=(yc hT hd).slice hty acE;obtain⟨i,_,_,hb⟩:=(yc hT hde).bytes;have:Ya E ET=de.bytes:=by simp[Ya,hde]
 rw[this] at h;have:=Nat.le_mul_of_pos_right n hb;omega
theorem aak [Tags] (hT:ym P E.tys=true) {T T2:Nat} (hT2:LT E T2=true) {c:Call} (hc:o.op=.call c) (hb:c.callee=.builtin .append) {s x:Operand} (hargs:c.args.toList=[s,x])
  (aec:c.argTypes.toList=[T,T2]) {ls lx:Leaf} (hs:zy st s=some ls) (hx:zy st x=some lx) (hr:Rel0 B X A w0 γ loc st a w) (hk:K6 E T ls lx o.dst st k=some r)
  (hn:yd B X A w0 k r o.dst.toList st next):o.wp P a w next Q:=by
 obtain⟨hs1,hs2⟩:=yF hr hs;obtain⟨hx1,hx2⟩:=yF hr hx;unfold K6 at hk;split at hk
 ·next ET e bb ff hd=>
  split at hk
  ·-- nothing yet
   split at hk
   ·next ys u tab aeI=>
    split at hk
    ·next acY=>
     obtain⟨ids,cs,fy,hA,_⟩:=tO (P:=P) hr hx1 aeI;exact tN hT hd rfl rfl hT2 hc hb hargs aec hs1 hr hA.len hA.cells hA.size hA.rd hA.max hA.look hA.own hA.fp acY hk hn
    ·cases hk
   ·cases hk
  ·next id=>
   split at hk
   ·next u0 lvl EE e' xs0 hl=>
    split at hk
    ·next xs agV hlv=>
     obtain⟨hEE,he,hxs⟩:=mc agV;subst hEE;subst he;simp only at hxs;subst hxs;split at hk
     ·next ys u tab aeI=>
      split at hk
      ·next e0 hl0 _=>
       split at hk
       ·next acY=>
        obtain⟨ids,cs,fy,hA,_⟩:=tO (P:=P) hr hx1 aeI;have huu:=Pw aeI;have hid:id∉ids:=by
         intro hm;rw[hA.look,if_pos hm] at hl0;cases hl0
        have ad0:∀ j,look (erase tab id) j=if j∈id::ids then none else look st.tab j:=by
         intro j;rw[ah,hA.look];by_cases h1:j=id<;>by_cases h2:j∈ids<;>simp[h1,h2]
        have acL:∀ i∈id::ids,jA st i:=by
         intro i hi;rcases List.mem_cons.1 hi with rfl|hi
         ·exact⟨u0,lvl,EE,e',_,hl,(zQ _ _).1 hlv⟩
         ·exact hA.own i hi
        obtain⟨xb,fs,q1,q2,q3⟩:=hr.ents id _ hl;have adR:=BM hT hd rfl rfl acY;have hsv:a.eval s=loc id:=hs1.1
-- owners of all that the new row leads to
        have ai1:∀ b∈fy,γ b=.persist∨∃ i∈ids,γ b=.deep i:=by
         intro b hb;cases u with
         | true=>exact .inr ((hA.uniq rfl).2 b hb)
         | false=>exact hA.held rfl b hb
        have hfp:YH (relab (id::ids) (Zo u st.nxt) γ) (.own u) st.nxt (fs++fy):=by
         cases u with
         | true=>
          have:=huu rfl;subst this;obtain⟨n1,d1⟩:=q3;obtain⟨n2,d2⟩:=hA.uniq rfl;refine⟨ZG n1 n2 ?_,?_⟩
          ·intro b hb hb';obtain⟨i,hi,e⟩:=d2 b hb';rw[d1 b hb] at e; cases e
           exact hid hi
          ·intro b hb;rcases List.mem_append.1 hb with hb|hb
           ·rw[Lm (d1 b hb) (by simp)]; rfl
           ·obtain⟨i,hi,e⟩:=d2 b hb;rw[Lm e (by simp[hi])]; rfl
         | false=>
          intro b hb;rcases List.mem_append.1 hb with hb|hb
          ·cases u0 with
           | true=>rw[Lm (q3.2 b hb) (by simp)]; rfl
           | false=>exact ZU (q3 b hb)
          ·rcases ai1 b hb with h|⟨i,hi,e⟩
           ·exact ZU h
           ·rw[Lm e (by simp[hi])]; rfl
        rcases q1 with⟨h1,h2,h3,h4⟩|⟨b,cap,arr,T',fr,h1,h2,h3,h4,h5,h6,h7,h8,h9⟩
        ·simp only[alQ,and_true] at h2;subst h1; subst h4
         simp only[alL] at hk hfp;simp only[als,amg] at acY adR;exact tN hT hd rfl rfl hT2 hc hb hargs aec (by rw[hsv,h2]) hr hA.len hA.cells hA.size hA.rd (by omega) ad0 acL hfp acY hk hn
        ·simp only[alQ,and_true] at h1;have hbo:γ b=.top id:=q2 b (by simp[h8]);have hnb:b∉fs++fy:=by
          intro hm;rcases List.mem_append.1 hm with hm|hm
          ·cases u0 with
           | true=>have:=q3.2 b hm; rw[hbo] at this; cases this
           | false=>have:=q3 b hm; rw[hbo] at this; cases this
          ·rcases ai1 b hm with h|⟨i,_,h⟩<;>rw[hbo] at h<;>cases h
         exact Pv hT hd rfl rfl hT2 hc hb hargs aec (by rw[hsv,h1]) hr h2 h3 h4 h5 h7 hbo h9.1 hA.len hA.cells hA.size hA.rd ad0 acL (by simp) hfp hnb acY (by omega) hk hn
       ·cases hk
      ·cases hk
     ·cases hk
    ·cases hk
   ·cases hk
  ·cases hk
 ·cases hk
end Ev
