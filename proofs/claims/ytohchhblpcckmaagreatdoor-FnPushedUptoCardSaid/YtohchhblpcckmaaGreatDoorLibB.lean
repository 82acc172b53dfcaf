/- The evaluator of the own library, part 2: its words, its soundness. Conditions: none of its own. -/
import Derived.Test.YtohchhblpcckmaaGreatDoorLibA
import Derived.Room.Entries
set_option linter.unusedSimpArgs false
set_option linter.unusedVariables false
namespace Ev
open Go
variable {P:Program} {o:Oper} {a:Act} {w w':World} {next:Act->World->Prop} {Q:Exit->Act->World->Prop}
variable {B:Nat} {X:List Nat} {A:Ctx} {w0:World} {γ γ':Nat->Own} {loc loc':Nat->Value} {st st1:St} {R:Type} {k:St->Option R} {r:R} {E:Env}
theorem sF [Tags] (off:Nat):∀ (vs:List Value) (j:Nat) (cells:Array Value),off+j+vs.length<=cells.size->
  (vs.zipIdx j).foldl (λ cs (x:Value×Nat)=>cs.setIfInBounds (off+x.2) x.1) cells=(setAt cells.toList (off+j) vs).toArray
 | [],j,cells,_=>by simp[o5]
 | v::vs,j,cells,h=>by
  simp only[List.zipIdx_cons,ajf];rw[sF off vs (j+1) _ (by simp at h ⊢; omega),ak4,show off+(j+1)=off+j+1 by omega,o6 _ _ _ _ (by simp at h ⊢; omega)]
theorem cg [Tags] {place:Nat->Option (Nat×Nat)} {cells:Array Value} {i off size:Nat} {v:Value} {rest:List (Nat×Value)} (hp:place i=some (off,size))
  (hs:v.cells.size=size) (hl:off+v.cells.size<=cells.size):Instr.fill place cells ((i,v)::rest)=Instr.fill place (setAt cells.toList off v.cells.toList).toArray rest:=by
 have h1:(decide (v.cells.size≠size) || decide (off+v.cells.size>cells.size))=false:=by
  simp[hs]; omega
 simp only[Instr.fill,hp];rw[if_neg (by simp[hs]; omega)]
 congr 1;have:=sF off v.cells.toList 0 cells (by simpa using hl);rw[ajF] at this;rw[←this,←Array.foldl_toList];simp
theorem ld {tys:List (Nat×TD)} {n:Nat}:∀ {fs:List Field} {flds:List (Nat×Nat)},YX tys n fs flds=true->∀ {i off ft:Nat},flds[i]?=some (off,ft)->
  ∃ f,fs[i]?=some f/\f.offset=off/\f.type=ft/\∃ d,lk tys ft=some d/\d.arr=none/\off+d.ty.size<=n
 | [],[],_,i,off,ft,h=>by simp at h
 | f::fs,(o1,t1)::r,h,i,off,ft,hi=>by
  simp only[YX,aix] at h;obtain⟨⟨⟨h1,h2⟩,h3⟩,h4⟩:=h;cases i with
  | zero=>
   simp at hi;obtain⟨rfl,rfl⟩:=hi;refine⟨f,by simp,(zL _ _).1 h1,(zL _ _).1 h2,?_⟩;split at h3
   ·next d hd=>
    simp only[aix,ajs] at h3;exact⟨d,hd,h3.1,Nat.le_of_ble_eq_true h3.2⟩
   ·cases h3
  | succ i=>
   simp at hi;obtain⟨f',g1,g2⟩:=ld h4 hi;exact⟨f',by simpa using g1,g2⟩
 | [],_::_,h,_,_,_,_=>by simp[YX] at h
 | _::_,[],h,_,_,_,_=>by simp[YX] at h
theorem TOk.struct {tys:List (Nat×TD)} {t:Nat} {d:TD} (h:TOk P tys t d) (hp:d.ty.isPair=true) (ha:d.arr=none):
  ∃ fs,P.underlying t=some (.struct fs)/\YX tys d.ty.size fs.toList d.flds=true:=by
 obtain⟨u,hu,hc⟩:=h.und;unfold JQ at hc;split at hc
 ·simp only[aix,aiI] at hc; rw[hc.1] at hp; cases hp
 ·simp only[aix,aiI] at hc; rw[hc.1] at hp; cases hp
 ·simp only[aix,aiI] at hc; rw[hc.1] at hp; cases hp
 ·simp only[aix,aiI] at hc; rw[hc.1] at hp; cases hp
 ·simp only[aix] at hc;split at hc
  ·next heq=>rw[heq] at hp; cases hp
  ·simp at hc
 ·rw[ha] at hc; simp at hc
 ·next fs=>simp only[aix] at hc; exact⟨fs,hu,hc.2⟩
 ·cases hc
theorem ug [Tags] {tys:List (Nat×TD)} (hT:yi P tys=true) {n:Nat} (w:World):∀ {fs:List Field} {flds:List (Nat×Nat)},YX tys n fs flds=true->
  ∃ ps:List (Nat×Nat),(fs.mapM λ f=>(do pure (f.offset,←Go.sizeOf f.type):Sem (Nat×Nat))).run P w=.ok ps w/\
   ∀ (i off ft:Nat),flds[i]?=some (off,ft)->∃ d,lk tys ft=some d/\ps[i]?=some (off,d.ty.size)/\off+d.ty.size<=n
 | [],[],_=>⟨[],by simp,by simp⟩
 | f::fs,(o1,t1)::r,h=>by
  simp only[YX,aix] at h;obtain⟨⟨⟨h1,h2⟩,h3⟩,h4⟩:=h;obtain⟨ps,g1,g2⟩:=ug hT w h4;split at h3
  ·next d hd=>
   simp only[aix,ajs] at h3;have e1:=(zL _ _).1 h1;have e2:=(zL _ _).1 h2;refine⟨(f.offset,d.ty.size)::ps,?_,?_⟩
   ·have:=(zY hT hd).size h3.1 w;simp only[List.mapM_cons,aiK,e2,this,aiH,aiJ,g1]
   ·intro i off ft hi;cases i with
    | zero=>
     simp at hi;obtain⟨rfl,rfl⟩:=hi;exact⟨d,hd,by simp[e1],Nat.le_of_ble_eq_true h3.2⟩
    | succ i=>simp at hi; simpa using g2 i off ft hi
  ·cases h3
 | [],_::_,h=>by simp[YX] at h
 | _::_,[],h=>by simp[YX] at h
theorem sv [Tags] (hr:Rel0 B X A w0 γ loc st a w) {flds:List (Nat×Nat)} {ps:List (Nat×Nat)} {n:Nat}
  (hps:∀ (i off ft:Nat),flds[i]?=some (off,ft)->∃ d,lk E.tys ft=some d/\ps[i]?=some (off,d.ty.size)/\off+d.ty.size<=n):
  ∀ (parts:List (Nat×Operand)) (ls ls':List Leaf) (cells:Array Value),M5 E flds st parts ls=some ls'->All2 (LeafOk loc) ls cells.toList->cells.size=n->(∀ l∈ls,l.lt st.nxt)->
   ∃ cells':Array Value,Instr.fill (ps[·]?) cells (parts.map λ x=>(x.1,a.eval x.2))=some cells'/\All2 (LeafOk loc) ls' cells'.toList/\(∀ l∈ls',l.lt st.nxt)
 | [],ls,ls',cells,h,ha,hn,hl=>by simp only[M5,aiy] at h; subst h; exact⟨cells,rfl,ha,hl⟩
 | (i,x)::parts,ls,ls',cells,h,ha,hn,hl=>by
  simp only[M5] at h;split at h
  ·next off ft hf=>
   split at h
   ·next d xs hd hx=>
    split at h
    ·next hc=>
     simp only[aix] at hc;have hxl:=(zL _ _).1 hc.1;obtain⟨d',hd',hp,hle⟩:=hps i off ft hf;rw[hd] at hd';cases hd';obtain⟨x1,x2⟩:=Np hr hx;have xl:=x1.len;have X1:(a.eval x).cells.size=d.ty.size:=by rw[←hxl,xl]; simp
     obtain⟨cells',q1,q2,q3⟩:=sv hr hps parts (e9 ls off xs) ls' (setAt cells.toList off (a.eval x).cells.toList).toArray h
      (by rw[A8]; simpa using ha.setAt off x1) (by simp; rw[YK (by simp; omega)]; simpa using hn)
      (λ l hm=>(uh hm).elim (hl l) (x2 l))
     refine⟨cells',?_,q2,q3⟩;simp only[aiO];rw[cg hp X1 (by omega)];exact q1
    ·cases h
   ·cases h
  ·cases h
theorem VE [Tags] (hT:yi P E.tys=true) {T:TypeId} {ps:Array (Nat×Operand)} (ho:o.op=.build T ps) {d:TD} (hd:lk E.tys T=some d) (XZ:d.arr=none) (afD:d.ty.isPair=true)
  {ls:List Leaf} (hf:M5 E d.flds st ps.toList (Zr d.ty)=some ls) (hr:Rel0 B X A w0 γ loc st a w) (hk:k (st.put o.dst (.v (.agg ls)))=some r)
  (hn:zZ B X A w0 k r o.dst.toList st next):o.wp P a w next Q:=by
 have ht:=zY hT hd;obtain⟨fs,hu,hfs⟩:=ht.struct afD XZ;obtain⟨pl,h1,h2⟩:=ug (P:=P) hT w hfs;have hz:(ym d.ty (zV d.ty)).cells=(zV d.ty).toArray:=by simp[ym,afD,Value.cells]
 obtain⟨cells',q1,q2,q3⟩:=sv hr h2 ps.toList (Zr d.ty) ls (zV d.ty).toArray hf (qF loc d.ty) (by simp[KD]) (kf _ _);have hm:(fs.mapM λ f=>(do pure (f.offset,←Go.sizeOf f.type):Sem (Nat×Nat))).run P w=.ok pl.toArray w:=by
  have e:(fs.mapM λ f=>(do pure (f.offset,←Go.sizeOf f.type):Sem (Nat×Nat)))=List.toArray <$> (fs.toList.mapM λ f=>(do pure (f.offset,←Go.sizeOf f.type):Sem (Nat×Nat))):=by
   rw[Array.mapM_eq_mapM_toList]
  rw[e,Sem.run_map,h1]; rfl
 refine jH (x:=.v (.agg ls)) (v:=.agg cells') hn ?_ hr (Pres.refl _ _) ⟨cells'.toList,by simp,q2⟩ q3 hk;have hpl:(λ x:Nat=>pl.toArray[x]?)=(λ x:Nat=>pl[x]?):=by funext x; simp
 have hpp:(ps.map λ x=>(x.1,a.eval x.2)).toList=ps.toList.map λ x=>(x.1,a.eval x.2):=by simp
 simp only[execOp,ho,Instr.build,aiK,ht.zero XZ,aiH,hz,yh hu,hm,hpl,hpp,q1,aiJ]
def j5 (u:Bool) (id:Nat):Own:=if u then .deep id else .persist
theorem mC (u:Bool) (id:Nat):j5 u id=.persist∨∃ j,j5 u id=.deep j:=by
 cases u with
 | true=>exact .inr ⟨id,rfl⟩
 | false=>exact .inl rfl
theorem Pres.newTab [Tags] {tab:List (Nat×Ent)} {ids:List Nat} (hi:∀ (id:Nat) (e:Ent),look st.tab id=some e->id<st.nxt) (aac:∀ j,look tab j=if j∈ids then none else look st.tab j)
  (X7:∀ i∈ids,jo st i) (e:Ent):Pres [] st { st with tab:=(st.nxt,e)::tab,nxt:=st.nxt+1 }:=
 ⟨rfl,by simp,λ id e' he hp=>by
  have:=hi id e' he;simp only[yK];rw[if_neg (by omega),aac,if_neg (λ hm=>Ns (X7 id hm) _ he hp)];exact he,λ _ _=>rfl,rfl⟩
theorem Rel0.newOwn [Tags] (hr:Rel0 B X A w0 γ loc st a w) {tab:List (Nat×Ent)} {ids:List Nat} (aac:∀ j,look tab j=if j∈ids then none else look st.tab j) (X7:∀ i∈ids,jo st i)
  (u:Bool) (lvl ET:Nat) {e:Ty} {xs:List (den e)} {arr:Array Value} {T:TypeId} {fr:Nat×Nat} {cap:Nat} {fp:List Nat}
  (X5:RdL (Rd w e) xs arr.toList fp) (X1:arr.size=cap*e.size) (abA:xs.length<=cap) (ab2:xs.length<=140737488355328) (hfr:frees fr arr.size) (acy:KJ ET T/\(ET=Tags.post->e.size=18))
  (X6:Yt (relab ids (j5 u st.nxt) γ) (.own u) st.nxt fp):
  Rel0 B X A w0 (λ b=>if b=w.heap.size then .top st.nxt else relab ids (j5 u st.nxt) γ b)
   (λ i=>if i=st.nxt then .slice (some ⟨w.heap.size,0,none⟩) xs.length cap else loc i)
   { st with tab:=(st.nxt,.arr (.own u) lvl ET e xs)::tab,nxt:=st.nxt+1 } a (jj w (.cells arr T fr)):=by
 refine hr.upd (M:=λ i=>i∈ids∨False) rfl (by simp) (tE B X hr.Ble _ (whole hfr)) (λ b hb ho=>L9 (by simpa[show b≠w.heap.size by omega] using ho)) ?_ ?_
  ((Moves.relab (mC u st.nxt) γ w).trans (Moves.push (.top st.nxt) (.cells arr T fr)) (Nat.le_refl _)) (λ i hi=>hi.elim (λ h=>by obtain⟨u,lvl,E',e,xs,h',_⟩:=X7 i h; exact⟨_,h'⟩) (λ h=>h.elim)) ?_
 ·intro b hb hx;have:=hr.Ble;simp only[show b≠w.heap.size by omega,if_false];exact L8 hr.old b hb hx
 ·intro i hi; simp[show i≠st.nxt by omega]
 ·intro i e' hi;rw[yK] at hi;split at hi
  ·rename_i hii;cases hi;subst hii;have hlt:=X5.lt;refine .inr ⟨⟨⟨[w.heap.size],fp,?_,by simp,?_⟩,trivial,by simp⟩,.inl (Nat.le_refl _)⟩
   ·refine .inr ⟨w.heap.size,cap,arr,T,fr,by simp,QV _ _,hfr,X1,abA,ab2,X5.frame (λ b hb=>Ki (hlt b hb)),rfl,acy⟩
   ·have same:∀ b∈fp,(if b=w.heap.size then Own.top st.nxt else relab ids (j5 u st.nxt) γ b)=relab ids (j5 u st.nxt) γ b:=by
     intro b hb;have:=hlt b hb;rw[if_neg (by omega)]
    cases u with
    | true=>exact⟨X6.1,λ b hb=>(same b hb).trans (X6.2 b hb)⟩
    | false=>exact λ b hb=>(same b hb).trans (X6 b hb)
  ·rw[aac] at hi;split at hi
   ·cases hi
   ·rename_i hni; exact .inl ⟨hi,λ h=>h.elim hni id⟩
theorem dB (st:St) (w:World) (loc:Nat->Value) (n cap:Nat):
  AVOk (λ i=>if i=st.nxt then Value.slice (some ⟨w.heap.size,0,none⟩) n cap else loc i) (.v (.one (.sl st.nxt))) (.slice (some ⟨w.heap.size,0,none⟩) n cap):=
 ⟨by simp,_,_,_,rfl⟩
theorem TOk.slice {tys:List (Nat×TD)} {t:Nat} {d:TD} {ET:Nat} {e:Ty} (h:TOk P tys t d) (hd:d.ty=.sl ET e) (ha:d.arr=none):
  P.underlying t=some (.slice ET)/\∃ de,lk tys ET=some de/\de.ty=e/\de.arr=none:=by
 obtain⟨u,hu,hc⟩:=h.und;unfold JQ at hc;split at hc
 ·simp only[aix,aiI] at hc; rw[hc.1] at hd; cases hd
 ·simp only[aix,aiI] at hc; rw[hc.1] at hd; cases hd
 ·simp only[aix,aiI] at hc; rw[hc.1] at hd; cases hd
 ·simp only[aix,aiI] at hc; rw[hc.1] at hd; cases hd
 ·next EE=>
  simp only[aix] at hc;rw[hd] at hc;simp only[aix] at hc;obtain⟨_,h1,h2⟩:=hc;have h1:=(zL _ _).1 h1;subst h1;split at h2
  ·next de hde=>
   simp only[aix,aiI,ajs] at h2;exact⟨hu,de,hde,h2.1,h2.2⟩
  ·cases h2
 ·rw[ha] at hc; simp at hc
 ·simp only[aix] at hc; rw[hd] at hc; simp[Ty.isPair] at hc
 ·cases hc
theorem TOk.array {tys:List (Nat×TD)} {t:Nat} {d:TD} {ET n:Nat} {e:Ty} (h:TOk P tys t d) (hd:d.ty=.sl ET e) (ha:d.arr=some n):
  P.underlying t=some (.array n ET)/\∃ de,lk tys ET=some de/\de.ty=e/\de.arr=none:=by
 obtain⟨u,hu,hc⟩:=h.und;unfold JQ at hc;split at hc
 ·simp[ha] at hc
 ·simp[ha] at hc
 ·simp[ha] at hc
 ·simp[ha] at hc
 ·simp[ha] at hc
 ·next m EE=>
  rw[ha,hd] at hc;simp only[aix] at hc;obtain⟨⟨h0,h1⟩,h2⟩:=hc;have h0:=(zL _ _).1 h0;have h1:=(zL _ _).1 h1;subst h0; subst h1
  split at h2
  ·next de hde=>
   simp only[aix,aiI,ajs] at h2;exact⟨hu,de,hde,h2.1,h2.2⟩
  ·cases h2
 ·simp[ha] at hc
 ·cases hc
theorem CA [Tags] {z:List Value}:∀ {n:Nat} {cs:List Value},kg n z cs=true->cs=(List.replicate n z).flatten
 | 0,[],_=>rfl
 | 0,_::_,h=>by cases h
 | n+1,cs,h=>by
  simp only[kg,aix] at h;have h1:=lG h.1;have h2:=CA h.2;have h3:=List.take_append_drop z.length cs;rw[h1,h2] at h3;rw[akb,ajN];exact h3.symm
theorem nW [Tags] (w:World):∀ t:Ty,Rd w t (dflt t) (zV t) []
 | .i64=>⟨rfl,rfl,by constructor<;>decide⟩
 | .u8=>⟨rfl,rfl⟩
 | .bool=>⟨rfl,rfl⟩
 | .str=>⟨rfl,rfl,by simp[Bnd,dflt]⟩
 | .sl _ _=>⟨none,0,0,rfl,rfl,Nat.le_refl _,by simp,.inl ⟨rfl,rfl,λ _=>⟨rfl,rfl⟩⟩⟩
 | .pair a b=>⟨zV a,zV b,[],[],rfl,rfl,nW w a,nW w b⟩
theorem nY [Tags] (w:World) (e:Ty):∀ (n:Nat) (more:List Value),RdL (Rd w e) (List.replicate n (dflt e)) ((List.replicate n (zV e)).flatten++more) []
 | 0,more=>rfl
 | n+1,more=>⟨zV e,(List.replicate n (zV e)).flatten++more,[],[],by simp[akb],rfl,nW w e,nY w e n more⟩
theorem Cz [Tags] (e:Ty) (n:Nat):((List.replicate n (zV e)).flatten).length=n*e.size:=by
 induction n with
 | zero=>simp
 | succ n ih=>rw[akb,ajN,aiE,ih,KD,aj2,Nat.add_comm]
theorem xw (z:List Value) (hz:0<z.length) (n:Nat):((Array.range (n*z.length)).map λ i=>z.toArray[i % z.toArray.size]!).toList=(List.replicate n z).flatten:=by
 simp only[Array.toList_map,Array.toList_range,aj0];induction n with
 | zero=>simp
 | succ n ih=>
  rw[aj2,List.range_add,akc,ih,List.map_map];rw[List.replicate_succ',List.flatten_append,List.flatten_singleton];congr 1;apply List.ext_getElem?;intro j;simp only[ajY,akv];by_cases hj:j<z.length
  ·have:(n*z.length+j) % z.length=j:=by rw[Nat.add_comm,Nat.add_mul_mod_self_right,ak5 hj]
   simp[hj,this]
  ·simp[hj,aiX (Nat.le_of_not_lt hj)]
theorem Y4 (tab:List (Nat×Ent)) (j:Nat):look tab j=if j∈([]:List Nat) then none else look tab j:=by simp
theorem li (γ:Nat->Own) (u:Bool) (id:Nat):Yt γ (.own u) id []:=by
 cases u with
 | true=>exact⟨List.nodup_nil,by simp⟩
 | false=>intro b hb; simp at hb
theorem Vz [Tags] (hT:yi P E.tys=true) {T:TypeId} (ho:o.op=.alloc T) {d:TD} {ET n:Nat} {e:Ty} (hd:lk E.tys T=some d) (X3:d.ty=.sl ET e) (XZ:d.arr=some n)
  (hn0:n<=140737488355328) (hr:Rel0 B X A w0 γ loc st a w)
  (hk:k (St.put { st with tab:=(st.nxt,.arr (.own true) st.lvl ET e (List.replicate n (dflt e)))::st.tab,nxt:=st.nxt+1 } o.dst (.v (.one (.ap st.nxt))))=some r)
  (hn:zZ B X A w0 k r o.dst.toList st next):o.wp P a w next Q:=by
 have htp:=(K9 hT hd).2 X3 XZ;have ht:=zY hT hd;obtain⟨i,hi,hc⟩:=ht.info;simp only[LW,XZ,X3,aix] at hc;obtain⟨_,hc⟩:=hc;split at hc
 ·next ET' e' cs agv hz=>
  cases agv;simp only[aix] at hc;have hzs:=CA hc.2;have hzl:=Cz e n;have X1:cs.size=n*e.size:=by rw[←hzl,←hzs]; simp
  have aag:=hr.newOwn (Y4 st.tab) (by simp) true st.lvl ET (xs:=List.replicate n (dflt e)) (arr:=cs) (T:=T) (fr:=(0,0)) (cap:=n) (fp:=[])
   (by rw[hzs]; have:=nY w e n []; simpa using this) X1 (by simp) (by simpa using hn0) (Jx _) ⟨⟨λ k=>absurd k htp.2,λ k=>absurd k htp.1⟩,λ k=>absurd k htp.1⟩ (li _ _ _)
  refine jH (x:=.v (.one (.ap st.nxt))) (v:=.pointer (some ⟨w.heap.size,0,none⟩)) hn ?_ aag
   (Pres.newTab (ids_lt hr) (Y4 st.tab) (by simp) _) ⟨w.heap.size,n,n,by simp,rfl⟩ (by simp[AV.lt,V1.lt,Leaf.lt]) hk
  simp only[execOp,ho,Instr.alloc,aiK,xU hi hz,aiH,om,aiJ,Value.cells]
 ·cases hc
def Yq (a:Act) (x:Operand):List Value:=(a.eval x).cells.toList
theorem se [Tags] (hr:Rel0 B X A w0 γ loc st a w) {e:Ty}:∀ (n:Nat) (parts:List (Nat×Operand)) (vs:List (den e)) (ls:List Leaf),Ys st e n parts=some (vs,ls)->
  vs.length=parts.length/\∀ (j:Nat) (p:Nat×Operand),parts[j]?=some p->p.1=n+j/\(Yq a p.2).length=e.size
 | n,[],vs,ls,h=>by simp only[Ys,aiy,aiF] at h; simp[←h.1]
 | n,(i,x)::r,vs,ls,h=>by
  simp only[Ys] at h;split at h
  ·next l1 hi hx=>
   split at h
   ·next v hv=>
    split at h
    ·next vs' ls' adh=>
     simp only[aiy,aiF] at h;obtain⟨rfl,rfl⟩:=h;obtain⟨g1,g2⟩:=se hr (n+1) r vs' ls' adh;refine⟨by simp[g1],?_⟩;intro j p hj;cases j with
     | zero=>
      simp at hj;subst hj;obtain⟨x1,x2⟩:=Np hr hx;obtain⟨fp,q1,_⟩:=Yr hr hv x1;exact⟨(zL _ _).1 hi,q1.len⟩
     | succ j=>
      simp at hj;obtain⟨k1,k2⟩:=g2 j p hj;exact⟨by omega,k2⟩
    ·cases h
   ·cases h
  ·cases h
theorem Jj {st:St}:∀ {l1 l2:List Leaf},yp st (l1++l2)=true->yp st l1=true/\yp st l2=true
 | [],l2,h=>⟨rfl,h⟩
 | x::l,l2,h=>by
  cases x with
  | sl id=>
   simp only[ajA,yp] at h ⊢;split at h
   ·next hl=>exact Jj h
   ·cases h
  | i n=>exact Jj (l1:=l) h
  | u n=>exact Jj (l1:=l) h
  | b n=>exact Jj (l1:=l) h
  | s n=>exact Jj (l1:=l) h
  | nil=>exact Jj (l1:=l) h
  | ptr _ _=>simp[yp] at h
  | ep _ _ _ _=>simp[yp] at h
  | fn _ _=>simp[yp] at h
  | any=>simp[yp] at h
  | ap _=>simp[yp] at h
theorem sg [Tags] (hr:Rel0 B X A w0 γ loc st a w) {e:Ty}:∀ (n:Nat) (parts:List (Nat×Operand)) (vs:List (den e)) (ls:List Leaf),Ys st e n parts=some (vs,ls)->yp st ls=true->
  ∃ fp,RdL (Rd w e) vs ((parts.map λ p=>Yq a p.2).flatten) fp/\∀ b∈fp,γ b=.persist
 | n,[],vs,ls,h,_=>by simp only[Ys,aiy,aiF] at h; exact⟨[],by rw[←h.1]; rfl,by simp⟩
 | n,(i,x)::r,vs,ls,h,hs=>by
  simp only[Ys] at h;split at h
  ·next l1 hi hx=>
   split at h
   ·next v hv=>
    split at h
    ·next vs' ls' adh=>
     simp only[aiy,aiF] at h;obtain⟨rfl,rfl⟩:=h;obtain⟨s1,s2⟩:=Jj hs;obtain⟨fp,g1,g2⟩:=sg hr (n+1) r vs' ls' adh s2;obtain⟨x1,x2⟩:=Np hr hx;obtain⟨f,q1,q2,q3⟩:=Yr hr hv x1;refine⟨f++fp,⟨Yq a x,_,f,fp,by simp,rfl,q1,g1⟩,?_⟩;intro b hb;rcases List.mem_append.1 hb with hb|hb
     ·exact q3 s1 b hb
     ·exact g2 b hb
    ·cases h
   ·cases h
  ·cases h
theorem sh [Tags] (hr:Rel0 B X A w0 γ loc st a w) {e:Ty}:∀ (n:Nat) (parts:List (Nat×Operand)) (vs:List (den e)) (ls:List Leaf) (ids:List Nat),Ys st e n parts=some (vs,ls)->
  yf st ls=some ids->(∀ i∈ids,KE st i)->
  ∃ fp,RdL (Rd w e) vs ((parts.map λ p=>Yq a p.2).flatten) fp/\fp.Nodup/\∀ b∈fp,∃ i∈ids,γ b=.top i∨γ b=.deep i
 | n,[],vs,ls,ids,h,_,_=>by simp only[Ys,aiy,aiF] at h; exact⟨[],by rw[←h.1]; rfl,List.nodup_nil,by simp⟩
 | n,(i,x)::r,vs,ls,ids,h,hg,hu=>by
  simp only[Ys] at h;split at h
  ·next l1 hi hx=>
   split at h
   ·next v hv=>
    split at h
    ·next vs' ls' adh=>
     simp only[aiy,aiF] at h;obtain⟨rfl,rfl⟩:=h;obtain⟨i1,i2,g1,g2,g3,g4⟩:=YZ hg;subst g3;obtain⟨fp,k1,k2,k3⟩:=sh hr (n+1) r vs' ls' i2 adh g2 (λ i hi=>hu i (by simp[hi]));obtain⟨x1,x2⟩:=Np hr hx;obtain⟨xs,fs,h3,h4,h5,h6,h7⟩:=MU hr hv x1 g1;obtain⟨n1,n2⟩:=h7 (λ i hi=>hu i (by simp[hi]));obtain⟨f,q1,q2,q3⟩:=h3.rdN;have own:∀ b∈f,∃ i∈i1,γ b=.top i∨γ b=.deep i:=by
      intro b hb;rcases q2 b hb with h|h
      ·obtain⟨i,hi,e⟩:=h5 b h; exact⟨i,hi,.inl e⟩
      ·obtain⟨i,hi,e⟩:=n2 b h; exact⟨i,hi,.inr e⟩
     refine⟨f++fp,⟨Yq a x,_,f,fp,by simp,rfl,q1,k1⟩,Zj (q3 h4 n1 ?_) k2 ?_,?_⟩
     ·intro b hb hb';obtain⟨i,_,e1⟩:=h5 b hb;obtain⟨j,_,e2⟩:=n2 b hb';rw[e1] at e2; cases e2
     ·intro b hb hb';obtain⟨i,hi,e1⟩:=own b hb;obtain⟨j,hj,e2⟩:=k3 b hb';rcases e1 with e1|e1<;>rcases e2 with e2|e2<;>rw[e1] at e2<;>cases e2
      ·exact g4 i hi hj
      ·exact g4 i hi hj
     ·intro b hb;rcases List.mem_append.1 hb with hb|hb
      ·obtain⟨i,hi,e⟩:=own b hb; exact⟨i,by simp[hi],e⟩
      ·obtain⟨i,hi,e⟩:=k3 b hb; exact⟨i,by simp[hi],e⟩
    ·cases h
   ·cases h
  ·cases h
theorem sw [Tags] (a:Act) (size:Nat):∀ (parts:List (Nat×Operand)) (n:Nat) (cells:Array Value) (pre rest:List Value),cells.toList=pre++rest->pre.length=n*size->rest.length=parts.length*size->
  (∀ (j:Nat) (p:Nat×Operand),parts[j]?=some p->p.1=n+j/\(Yq a p.2).length=size)->
  ∃ c:Array Value,Instr.fill (λ i=>some (i*size,size)) cells (parts.map λ x=>(x.1,a.eval x.2))=some c/\c.toList=pre++(parts.map λ p=>Yq a p.2).flatten
 | [],n,cells,pre,rest,h,_,hl,_=>⟨cells,rfl,by simp at hl; simp[h,hl]⟩
 | (i,x)::parts,n,cells,pre,rest,h,hp,hl,hs=>by
  obtain⟨h1,h2⟩:=hs 0 (i,x) rfl;simp only[ajF] at h1;subst h1;rw[aiA,aj2] at hl;have X1:(a.eval x).cells.size=size:=by rw[←h2]; simp[Yq]
  have hcs:cells.size=i*size+(parts.length*size+size):=by rw[←aji,h,aiE,hp,hl]
  have e1:setAt cells.toList (i*size) (Yq a x)=(pre++Yq a x)++rest.drop size:=by
   rw[h,o4 (by omega),hp,Nat.sub_self];unfold setAt;simp[h2]
  obtain⟨c,q1,q2⟩:=sw a size parts (i+1) (setAt cells.toList (i*size) (Yq a x)).toArray (pre++Yq a x) (rest.drop size) (by simpa using e1)
   (by rw[aiE,hp,h2,aj2]) (by rw[aiR]; omega) (λ j p hj=>by
    have:=hs (j+1) p (by simpa using hj); exact⟨by omega,this.2⟩)
  refine⟨c,?_,by simpa using q2⟩;simp only[aiO];rw[cg rfl X1 (by omega)];exact q1
theorem sC {α:Type} (s:Nat):∀ (l:List (List α)),(∀ x∈l,x.length=s)->l.flatten.length=l.length*s
 | [],_=>by simp
 | x::l,h=>by
  rw[List.flatten_cons,List.length_append,h x (by simp),sC s l (λ y hy=>h y (by simp[hy])),List.length_cons,Nat.succ_mul,Nat.add_comm]
theorem kJ [Tags] (e:Ty):(ym e (zV e)).cells=(zV e).toArray:=by
 apply Array.ext';rw[Cn (KD e) (bS (qF (λ _=>undef) e))]
theorem VF [Tags] (hT:yi P E.tys=true) {T n:Nat} {ps:Array (Nat×Operand)} (ho:o.op=.buildSlice T n ps) {d:TD} {ET:Nat} {e:Ty} (hd:lk E.tys T=some d) (X3:d.ty=.sl ET e)
  (XZ:d.arr=none) {vs:List (den e)} {ls:List Leaf} (hel:Ys st e 0 ps.toList=some (vs,ls)) (hn1:ps.toList.length=n) (hn2:n*e.size<=16777216)
  {u u':Bool} {tab:List (Nat×Ent)} (abc:qv st u ls=some (u',tab)) (hr:Rel0 B X A w0 γ loc st a w)
  (hk:k (St.put { st with tab:=(st.nxt,.arr (.own u') st.lvl ET e vs)::tab,nxt:=st.nxt+1 } o.dst (.v (.one (.sl st.nxt))))=some r)
  (hn:zZ B X A w0 k r o.dst.toList st next):o.wp P a w next Q:=by
 have ht:=zY hT hd;obtain⟨hu,de,hde,hdt,hda⟩:=ht.slice X3 XZ;have hte:=zY hT hde;subst hdt;obtain⟨g1,g2⟩:=se hr 0 ps.toList vs ls hel;have ade:=de.ty.size_pos;have hzl:(zV de.ty).length=de.ty.size:=KD _;have hz:=hte.zero hda w;have hzr:((Array.range (n*de.ty.size)).map λ i=>(zV de.ty).toArray[i % (zV de.ty).toArray.size]!).toList.length=n*de.ty.size:=by simp
 obtain⟨c,c1,c2⟩:=sw a de.ty.size ps.toList 0 ((Array.range (n*de.ty.size)).map λ i=>(zV de.ty).toArray[i % (zV de.ty).toArray.size]!) [] _ rfl (by simp)
  (by rw[hzr,hn1]) g2
 have htk:=B7 hr abc;have X0:vs.length=n:=by rw[g1,hn1]
 have abq:∃ ids fp,(∀ j,look tab j=if j∈ids then none else look st.tab j)/\(∀ i∈ids,jo st i)/\RdL (Rd w de.ty) vs c.toList fp/\Yt (relab ids (j5 u' st.nxt) γ) (.own u') st.nxt fp:=by
  obtain⟨rfl,_⟩:=htk;unfold qv at abc;cases u' with
  | true=>
   simp only at abc;split at abc
   ·next ids hg=>
    cases abc;obtain⟨q1,q2⟩:=Yv hg;obtain⟨fp,k1,k2,k3⟩:=sh hr 0 ps.toList vs ls ids hel q1 q2;refine⟨ids,fp,λ j=>YB ids st.tab j,Yu q1,by rw[c2]; simpa using k1,k2,?_⟩
    intro b hb;obtain⟨i,hi,h|h⟩:=k3 b hb
    ·rw[JK h,if_pos hi]; rfl
    ·rw[Yb h,if_pos hi]; rfl
   ·cases abc
  | false=>
   simp only at abc;split at abc
   ·next hs=>
    cases abc;obtain⟨fp,k1,k2⟩:=sg hr 0 ps.toList vs ls hel hs;exact⟨[],fp,Y4 st.tab,by simp,by rw[c2]; simpa using k1,λ b hb=>ZD (k2 b hb)⟩
   ·cases abc
 obtain⟨ids,fp,m1,m2,m3,m4⟩:=abq;have ago:c.size=n*de.ty.size:=by
  rw[←aji,c2,aiU,sC de.ty.size,ajl,hn1];intro x hx;obtain⟨p,hp,rfl⟩:=List.mem_map.1 hx;obtain⟨j,hj⟩:=List.mem_iff_getElem?.1 hp;exact (g2 j p hj).2
 have aag:=hr.newOwn m1 m2 u' st.lvl ET (T:=ET) (fr:=(0,0)) (cap:=n) m3 ago (by omega) (by
  have:n<=n*de.ty.size:=Nat.le_mul_of_pos_right _ ade;omega) (Jx _) ⟨Iff.rfl,(K9 hT hd).1 X3⟩ m4
 rw[X0] at aag;refine jH (x:=.v (.one (.sl st.nxt))) (v:=.slice (some ⟨w.heap.size,0,none⟩) n n) hn ?_ aag (Pres.newTab (ids_lt hr) m1 m2 _) (dB st w loc n n) (by simp[AV.lt,V1.lt,Leaf.lt]) hk;have hpp:(ps.map λ x=>(x.1,a.eval x.2)).toList=ps.toList.map λ x=>(x.1,a.eval x.2):=by simp
 have hng:¬ n*de.ty.size>2 ^ 24:=by omega
 by_cases hn0:n*de.ty.size=0
 ·have hr0:∀ f:Nat->Value,(Array.range (n*de.ty.size)).map f = #[]:=λ f=>by rw[hn0]; simp
  rw[hr0] at c1;simp only[execOp,ho,Instr.buildSlice,aiK,yh hu,hte.size hda,aiH,hng,if_false,hn0,if_true,aiJ,hpp];simp only[show (0:Nat)>2 ^ 24↔False by simp,if_false,pure_bind];rw[show (Array.map (λ x:Nat=>(#[]:Array Value)[x % (#[]:Array Value).size]!) (Array.range 0)) = #[] by simp,c1];simp[newRow,jj]
 ·simp only[execOp,ho,Instr.buildSlice,aiK,yh hu,hte.size hda,aiH,hng,if_false,hn0,hz,aiJ,kJ,hpp,c1];simp[newRow,jj]
def jh (w:World):World:={ w with drawn:=w.drawn+1 }
theorem Rel0.drew [Tags] (h:Rel0 B X A w0 γ loc st a w):Rel0 B X A w0 γ loc st a (jh w):=
 h.upd (M:=λ _=>False) rfl (Nat.le_refl _) ⟨rfl,rfl,rfl,Nat.le_refl _,λ _ _ _=>rfl,λ _ h=>h,λ _=>Shape.same rfl⟩ (λ _ _ h=>h) h.old (λ _ _=>rfl)
  ⟨λ _ _ h=>⟨h,rfl⟩,λ _ _ _ h _=>⟨h,rfl⟩,λ _ i _ h=>⟨rfl,λ _=>h,λ _=>.inr ⟨i,h⟩⟩⟩ (λ _ h=>h.elim) (λ _ _ h=>.inl ⟨h,λ h=>h⟩)
theorem Rd.drew [Tags] {w:World} {t:Ty} {v:den t} {cs fp} (h:Rd w t v cs fp):Rd (jh w) t v cs fp:=h.frame (λ _ _=>rfl)
theorem Rd.one [Tags] {w:World}:∀ {t:Ty} {v:den t} {cs fp},Rd w t v cs fp->∀ c∈cs,c.oneCell'=true
 | .i64,_,_,_,h=>by rw[h.1]; simp[Value.oneCell']
 | .u8,_,_,_,h=>by rw[h.1]; simp[Value.oneCell']
 | .bool,_,_,_,h=>by rw[h.1]; simp[Value.oneCell']
 | .str,_,_,_,h=>by rw[h.1]; simp[Value.oneCell']
 | .sl _ _,_,_,_,h=>by obtain⟨a,n,c,h,_⟩:=h; rw[h]; simp[Value.oneCell']
 | .pair a b,_,_,_,h=>by
  obtain⟨c1,c2,f1,f2,h1,_,h3,h4⟩:=h;intro c hc;rw[h1] at hc;rcases List.mem_append.1 hc with hc|hc
  ·exact h3.one c hc
  ·exact h4.one c hc
theorem RdL.one [Tags] {w:World} {e:Ty}:∀ {xs:List (den e)} {cs fp},RdL (Rd w e) xs cs fp->∀ c∈cs.take (xs.length*e.size),c.oneCell'=true
 | [],_,_,_=>by simp
 | x::xs,cs,fp,⟨c,rest,f1,f2,h1,h2,h3,h4⟩=>by
  have l1:=h3.len;intro d hd;rw[h1,aiA,aj2,ak8,ajM (by omega),l1] at hd;rcases List.mem_append.1 hd with hd|hd
  ·exact h3.one d hd
  ·refine RdL.one h4 d ?_
   rwa [show xs.length*e.size+e.size - e.size=xs.length*e.size by omega] at hd
structure AppOk [Tags] (P:Program) (B:Nat) (w:World) (γ:Nat->Own) (st:St) (e:Ty) (v:Value) (ys:List (den e)) (u':Bool) (tab:List (Nat×Ent)) (ids:List Nat) (cs:List Value) (fy:List Nat):Prop where
 len:(Builtin.lenOf v).run P w=.ok ys.length w
 cells:∀ w',w'.heap=w.heap->(Builtin.firstCells e.size ys.length v).run P w'=.ok cs.toArray w'
 size:cs.length=ys.length*e.size
 rd:RdL (Rd w e) ys cs fy
 look:∀ j,look tab j=if j∈ids then none else look st.tab j
 own:∀ i∈ids,jo st i
 max:ys.length<=140737488355328
 uniq:u'=true->fy.Nodup/\∀ b∈fy,∃ i∈ids,γ b=.deep i
 held:u'=false->∀ b∈fy,γ b=.persist∨∃ i∈ids,γ b=.deep i
theorem sA [Tags] {w:World} {e:Ty} {ys:List (den e)} {v:Value} {fp:List Nat} {EE:Nat} (h:Rd w (.sl EE e) ys [v] fp):
  ∃ cs fy,(Builtin.lenOf v).run P w=.ok ys.length w/\(∀ w',w'.heap=w.heap->(Builtin.firstCells e.size ys.length v).run P w'=.ok cs.toArray w')/\cs.length=ys.length*e.size/\RdL (Rd w e) ys cs fy/\
   ys.length<=140737488355328/\(∀ b∈fy,b∈fp)/\(fp=[]∨∃ b,fp=b::fy):=by
 obtain⟨a1,n,c,h1,h2,h3,h4,h5⟩:=h;simp only[aiZ,and_true] at h1;subst h1;rcases h5 with⟨h5,h6,_⟩|⟨b,ob,arr,T,fr,fp',ha,hb,X6,hl,_⟩
 ·refine⟨[],[],by simp[Builtin.lenOf,h2],?_,by simp[h5],by rw[h5]; rfl,by omega,by simp,.inl h6⟩
  rw[h5];intro w' hw';cases a1 with
  | none=>simp[Builtin.firstCells]
  | some a1=>simp[Builtin.firstCells,loadCells,loadCellsFrom]
 ·have hle:=hl.le;have ad4:ob+ys.length*e.size<=arr.size∨ys.length*e.size=0:=by
   simp at hle; omega
  refine⟨(arr.toList.drop ob).take (ys.length*e.size),fp',by simp[Builtin.lenOf,h2],?_,?_,hl.cut,by omega,λ c hc=>by rw[X6]; exact List.mem_cons_of_mem _ hc,.inr ⟨b,X6⟩⟩
  ·rw[ha];intro w' hw';simp only[Builtin.firstCells];rcases ad4 with ad4|hz
   ·exact af (by rw[hw']; exact hb) ad4
   ·rw[hz]; simp[loadCells,loadCellsFrom]
  ·rw[aiM]; omega
theorem uA [Tags] {w:World} {e:Ty} {ys:List (den e)} {v:Value} {EE:Nat} {xb fs:List Nat} (h:RdO w (.sl EE e) ys [v] xb fs):
  ∃ cs fy,(Builtin.lenOf v).run P w=.ok ys.length w/\(∀ w',w'.heap=w.heap->(Builtin.firstCells e.size ys.length v).run P w'=.ok cs.toArray w')/\cs.length=ys.length*e.size/\RdL (Rd w e) ys cs fy/\
   ys.length<=140737488355328/\fy=fs:=by
 rcases h with⟨h1,h2,h3,h4⟩|⟨b,cap,arr,T,fr,h1,h2,h3,h4,h5,h6,h7,h8⟩
 ·simp only[aiZ,and_true] at h2;subst h1; subst h2; subst h4
  exact⟨[],[],by simp[Builtin.lenOf],by simp[Builtin.firstCells],by simp,rfl,by simp,rfl⟩
 ·simp only[aiZ,and_true] at h1;subst h1;have hle:=h7.le;refine⟨(arr.toList.drop 0).take (ys.length*e.size),fs,by simp[Builtin.lenOf],?_,?_,by simpa using h7.cut,h6,rfl⟩
  ·intro w' hw';simp only[Builtin.firstCells];exact af (by rw[hw']; exact h2) (by simp at hle; omega)
  ·rw[aiM]; simp at hle ⊢; omega
theorem Ic (l:List UInt8):((⟨⟨l⟩⟩:ByteArray).extract 0 l.length).data.toList=l:=by
 simp[ByteArray.extract,ByteArray.copySlice]
theorem nX [Tags] (w:World):∀ (l:List UInt8),RdL (Rd w .u8) l (l.map λ b=>Value.int .u8 (b.toNat:Int)) []
 | []=>rfl
 | x::l=>⟨[.int .u8 (x.toNat:Int)],_,[],[],rfl,rfl,⟨rfl,rfl⟩,nX w l⟩
theorem rA [Tags] (hr:Rel0 B X A w0 γ loc st a w) {e:Ty} {u u':Bool} {x:Leaf} {v:Value} (hx:LeafOk loc x v) {ys:List (den e)} {tab:List (Nat×Ent)}
  (h:MO st e u x=some (ys,u',tab)):∃ ids cs fy,AppOk P B w γ st e v ys u' tab ids cs fy/\(∀ i∈ids,zT [x]=[i]):=by
 unfold MO at h;split at h
 ·cases h;rw[show v=_ from hx];exact⟨[],[],[],⟨by simp[Builtin.lenOf],by simp[Builtin.firstCells],by simp,rfl,Y4 _,by simp,by simp,λ _=>⟨List.nodup_nil,by simp⟩,by simp⟩,by simp⟩
 ·next l=>
  obtain⟨hv,hb⟩:=hx;split at h
  ·cases h;subst hv;refine⟨[],l.map (λ b=>Value.int .u8 (b.toNat:Int)),[],⟨?_,?_,by simp[Ty.size],nX w l,Y4 _,by simp,hb,λ _=>⟨List.nodup_nil,by simp⟩,by simp⟩,by simp⟩
   ·simp only[Builtin.lenOf,aiJ]; rfl
   ·intro w' hw';simp only[Builtin.firstCells,aiJ];congr 1;apply Array.ext';have:=Ic l;rw[Array.toList_map,this]
  ·cases h
 ·next id=>
  obtain⟨hv,_⟩:=hx;split at h
  ·next kd lvl EE e' xs hl=>
   split at h
   ·cases h
   ·next ys' hc=>
    obtain⟨he,hys⟩:=kI hc;subst he;simp only at hys;subst hys;have hE:=hr.ents id _ hl;split at h
    ·next hns=>
     simp only[aiy,aiF] at h;obtain⟨rfl,rfl,rfl⟩:=h;have:∃ fp,Rd w (.sl EE e') ys' [v] fp:=by
      rw[hv];cases kd with
      | imm t=>obtain⟨fp,h1,_⟩:=hE; exact⟨fp,h1⟩
      | lent=>obtain⟨fp,h1,_⟩:=hE; exact⟨fp,h1⟩
      | own u=>obtain⟨xb,fs,h1,_⟩:=hE; obtain⟨fp,h2,_⟩:=h1.rd; exact⟨fp,h2⟩
     obtain⟨fp,h1⟩:=this;obtain⟨cs,fy,g1,g2,g3,g4,g5,g6,g7⟩:=sA (P:=P) h1;have hfy:=g4.noSl hns;subst hfy;exact⟨[],cs,[],⟨g1,g2,g3,g4,Y4 _,by simp,g5,λ _=>⟨List.nodup_nil,by simp⟩,by simp⟩,by simp⟩
    ·next hns=>
     split at h
     ·split at h
      ·next X4=>
       simp only[aiy,aiF] at h;obtain⟨rfl,rfl,rfl⟩:=h;obtain⟨xb,fs,h1,h2,h3⟩:=hE;rw[←hv] at h1;obtain⟨cs,fy,g1,g2,g3,g4,g5,g6⟩:=uA (P:=P) h1;subst g6;refine⟨[id],cs,fy,⟨g1,g2,g3,g4,?_,?_,g5,λ _=>⟨h3.1,λ b hb=>⟨id,by simp,h3.2 b hb⟩⟩,λ _ b hb=>.inr ⟨id,by simp,h3.2 b hb⟩⟩,by simp[zT]⟩
       ·intro j; rw[Qt]; simp
       ·intro i hi;have:i=id:=by simpa using hi
        subst this;exact⟨true,lvl,EE,e',_,hl,(zL _ _).1 X4⟩
      ·cases h
     ·simp only[aiy,aiF] at h;obtain⟨rfl,rfl,rfl⟩:=h;obtain⟨fp,h1,h2⟩:=hE;rw[←hv] at h1;obtain⟨cs,fy,g1,g2,g3,g4,g5,g6,g7⟩:=sA (P:=P) h1;refine⟨[],cs,fy,⟨g1,g2,g3,g4,Y4 _,by simp,g5,(λ h=>by cases h),λ _ b hb => ?_⟩,by simp⟩;rcases h2 b (g6 b hb) with h|⟨h,_⟩
      ·exact .inl h
      ·cases h
     ·simp only[aiy,aiF] at h;obtain⟨rfl,rfl,rfl⟩:=h;obtain⟨xb,fs,h1,h2,h3⟩:=hE;rw[←hv] at h1;obtain⟨cs,fy,g1,g2,g3,g4,g5,g6⟩:=uA (P:=P) h1;subst g6;exact⟨[],cs,fy,⟨g1,g2,g3,g4,Y4 _,by simp,g5,(λ h=>by cases h),λ _ b hb=>.inl (h3 b hb)⟩,by simp⟩
     ·cases h
     ·cases h
  ·cases h
 ·cases h
theorem JY {α:Type} {x:Array α} {l:List α} (h:x.toList=l):x=l.toArray:=by rw[←h]
theorem xN [Tags] {c:Call} (hc:o.op=.call c) (hb:c.callee=.builtin .append) {s x:Operand} (hargs:c.args.toList=[s,x]) {T T2:TypeId} (X3:c.argTypes.toList=[T,T2]):
  (execOp a.eval o).run P w=((Builtin.append_ #[T,T2] o.type #[a.eval s,a.eval x]).run P w).andThen λ v w'=>.ok (.value v) w':=by
 have e1:=JY hargs;have e2:=JY X3;simp only[execOp,hc,resolve,hb,e1,e2,invoke,builtin,aiK,aiJ,aiH];simp only[ajO,aiO,ajc]
theorem GU [Tags] (hT:yi P E.tys=true) {T:Nat} (h:LI E T=true):∃ u,P.underlying T=some u/\((∃ EE,u=.slice EE)∨u=.string):=by
 unfold LI at h;split at h
 ·next ET e b f hl=>
  obtain⟨hu,_⟩:=(zY hT hl).slice rfl rfl;exact⟨_,hu,.inl ⟨ET,rfl⟩⟩
 ·next b f ar hl=>
  obtain⟨u,hu,hc⟩:=(zY hT hl).und;refine⟨u,hu,?_⟩;unfold JQ at hc;split at hc<;>first|exact .inr rfl|(simp at hc; done)|(simp[Ty.isPair] at hc; done)
 ·cases h
theorem xM [Tags] (hT:yi P E.tys=true) {T T2 ET:Nat} {d:TD} {e:Ty} (hd:lk E.tys T=some d) (X3:d.ty=.sl ET e) (XZ:d.arr=none) (hT2:LI E T2=true)
  {base:Option Addr} {n cap m:Nat} {v:Value} {cs:List Value} {ty:TypeId} (X0:(Builtin.lenOf v).run P w=.ok m w) (aci:(Builtin.firstCells e.size m v).run P w=.ok cs.toArray w)
  (aaa:(n+m)*ZV E ET<=70368744177664):
  (n+m<=cap->∀ w1,(match base with|some b=>(storeCells (b.add (n*e.size)) cs).run P w=.ok () w1|none=>w1=w)->
   (Builtin.append_ #[T,T2] ty #[.slice base n cap,v]).run P w=.ok (.slice base (n+m) cap) w1)/\
  (cap<n+m->∀ old,(Builtin.firstCells e.size n (.slice base n cap)).run P (jh w)=.ok old (jh w)->(Builtin.firstCells e.size m v).run P (jh w)=.ok cs.toArray (jh w)->
   ∃ nc,n+m<=nc/\(Builtin.append_ #[T,T2] ty #[.slice base n cap,v]).run P w=
    .ok (.slice (some ⟨w.heap.size,0,none⟩) (n+m) nc) (jj (jh w) (.cells (old++cs.toArray++(List.replicate (nc - (n+m)) (zV e)).flatten.toArray) ET))):=by
 have ht:=zY hT hd;obtain⟨hu,de,hde,hdt,hda⟩:=ht.slice X3 XZ;subst hdt;have hte:=zY hT hde;obtain⟨u2,hu2,hni⟩:=GU hT hT2;obtain⟨i,hi,hib,hb1⟩:=hte.bytes;have hrm:ZV E ET=de.bytes:=by simp[ZV,hde]
 rw[hrm] at aaa;constructor
 ·intro hle w1 X2;unfold Builtin.append_;simp only[ake,List.getElem?_cons_zero,akr,aiK,yh hu,hte.size hda,aiH,yh hu2];rcases hni with⟨EE,rfl⟩|rfl
  all_goals
   simp only[aiJ,aiH,aiT,if_false,X0,Sem.run_ite,hle,if_true,aiV,aiK,aci];cases base with
   | none=>subst X2; simp
   | some b=>simp[X2]
 ·intro hgt old hold agf;have hle:¬ n+m<=cap:=by omega
  have abA:=Room.nextslicecap_le' hgt;have aal:¬ Builtin.nextslicecap (n+m) cap*de.bytes>2 ^ 48:=by
   have:Builtin.nextslicecap (n+m) cap*de.bytes<=2*(n+m)*de.bytes:=Nat.mul_le_mul_right _ abA;rw[Nat.mul_assoc] at this;omega
  have hnm:n+m<=70368744177664:=by
   have:n+m<=(n+m)*de.bytes:=Nat.le_mul_of_pos_right _ hb1;omega
  have ab2:¬ (((n+m:Nat):Int)>IntKind.i64.max):=by
   simp[IntKind.max,IntKind.signed,IntKind.bits]; omega
  refine⟨n+m+(w.tape w.drawn (.appendCap (n+m) cap ET)) % (2 ^ 63 - (n+m)),by omega,?_⟩;have hzr:=xw (zV de.ty) (by rw[KD]; exact de.ty.size_pos)
  have hzc:∀ k,Builtin.zeroCells (ym de.ty (zV de.ty)).cells k=(List.replicate k (zV de.ty)).flatten.toArray:=by
   intro k;apply Array.ext';rw[kJ];have:=hzr k;simpa[Builtin.zeroCells] using this
  unfold Builtin.append_;simp only[ake,List.getElem?_cons_zero,akr,aiK,yh hu,hte.size hda,aiH,yh hu2];rcases hni with⟨EE,rfl⟩|rfl
  all_goals
   simp only[aiJ,aiH,aiT,if_false,X0,Sem.run_ite,hle,aiV,if_true,aiK,eD hi,aiH,hib,ab2,false_and,aal,run_choose,Question.forced,aiT,Question.cut,
   run_askRoom,aiJ]
   have hd':({ heap:=w.heap,tape:=w.tape,drawn:=w.drawn+1,os:=w.os,output:=w.output }:World)=jh w:=rfl;simp only[hd',hold,agf,aiH,hte.zero hda,hzc];simp[newRow,jj,jh]
theorem Rel0.grow [Tags] (hr:Rel0 B X A w0 γ loc st a w) {tab:List (Nat×Ent)} {ids:List Nat} (aac:∀ j,look tab j=if j∈ids then none else look st.tab j) (X7:∀ i∈ids,jo st i)
  (u:Bool) (lvl ET:Nat) {e:Ty} {xs:List (den e)} {b cap:Nat} {arr arr':Array Value} {T:TypeId} {fr:Nat×Nat} {fp:List Nat} {id:Nat} (XV:id∈ids) (hb:γ b=.top id)
  (hh:w.heap[b]?=some (.cells arr T fr)) (X5:RdL (Rd w e) xs arr'.toList fp) (X1:arr'.size=cap*e.size) (abA:xs.length<=cap) (ab2:xs.length<=140737488355328) (hfr:frees fr arr'.size) (hss:arr'.size=arr.size) (acy:KJ ET T/\(ET=Tags.post->e.size=18))
  (X6:Yt (relab ids (j5 u st.nxt) γ) (.own u) st.nxt fp) (hnb:b∉fp):
  Rel0 B X A w0 (λ c=>if c=b then .top st.nxt else relab ids (j5 u st.nxt) γ c) (λ i=>if i=st.nxt then .slice (some ⟨b,0,none⟩) xs.length cap else loc i)
   { st with tab:=(st.nxt,.arr (.own u) lvl ET e xs)::tab,nxt:=st.nxt+1 } a (yS w b (.cells arr' T fr)):=by
 refine hr.upd (M:=λ i=>i∈ids) rfl (by simp) (lI hr.old hb _ (whole hfr) (n9 hh hss)) (λ c _ ho=>by
  by_cases e:c=b
  ·subst e; rw[hb]; trivial
  ·exact L9 (by simpa[e] using ho)) ?_ ?_ ⟨?_,?_,?_⟩ (λ i h=>by obtain⟨u,lvl,E',e,xs,h',_⟩:=X7 i h; exact⟨_,h'⟩) ?_
 ·intro c hc hx;have hne:c≠b:=by
   intro h;subst h;rcases hr.old _ hc hx with h|⟨h,_⟩<;>rw[hb] at h<;>cases h
  simp only[hne,if_false];exact L8 hr.old c hc hx
 ·intro i hi; simp[show i≠st.nxt by omega]
 ·intro c hc h;have hne:c≠b:=by intro e; subst e; rw[hb] at h; cases h
  simp only[hne,if_false];exact⟨ZD h,ZS hne⟩
 ·intro c i hc h hi;have hne:c≠b:=by intro e; subst e; rw[hb] at h; cases h; exact hi XV
  simp only[hne,if_false];exact⟨by rw[JK h,if_neg hi],ZS hne⟩
 ·intro c i hc h;have hne:c≠b:=by intro e; subst e; rw[hb] at h; cases h
  simp only[hne,if_false];exact⟨ZS hne,λ hi=>by rw[Yb h,if_neg hi],λ hi=>by rw[Yb h,if_pos hi]; exact mC u st.nxt⟩
 ·intro i e' hi;rw[yK] at hi;split at hi
  ·rename_i hii;cases hi;subst hii;refine .inr ⟨⟨⟨[b],fp,?_,by simp,?_⟩,trivial,by simp⟩,.inl (Nat.le_refl _)⟩
   ·exact .inr ⟨b,cap,arr',T,fr,by simp,Ya hh,hfr,X1,abA,ab2,X5.frame (λ c hc=>ZS (λ e=>by subst e; exact hnb hc)),rfl,acy⟩
   ·have same:∀ c∈fp,(if c=b then Own.top st.nxt else relab ids (j5 u st.nxt) γ c)=relab ids (j5 u st.nxt) γ c:=by
     intro c hc;rw[if_neg (λ e=>by subst e; exact hnb hc)]
    cases u with
    | true=>exact⟨X6.1,λ c hc=>(same c hc).trans (X6.2 c hc)⟩
    | false=>exact λ c hc=>(same c hc).trans (X6 c hc)
  ·rw[aac] at hi;split at hi
   ·cases hi
   ·rename_i hni; exact .inl ⟨hi,hni⟩
theorem Rel0.nilOwn [Tags] (hr:Rel0 B X A w0 γ loc st a w) {tab:List (Nat×Ent)} {ids:List Nat} (aac:∀ j,look tab j=if j∈ids then none else look st.tab j) (X7:∀ i∈ids,jo st i) (u:Bool) (lvl ET:Nat) (e:Ty):
  Rel0 B X A w0 (relab ids (j5 u st.nxt) γ) (λ i=>if i=st.nxt then .slice none 0 0 else loc i)
   { st with tab:=(st.nxt,.arr (.own u) lvl ET e [])::tab,nxt:=st.nxt+1 } a w:=by
 refine hr.upd (M:=λ i=>i∈ids) rfl (by simp) (Keeps.refl _ _ _) (λ _ _ h=>L9 h) (L8 hr.old) ?_ (Moves.relab (mC u st.nxt) γ w) (λ i h=>by obtain⟨u,lvl,E',e,xs,h',_⟩:=X7 i h; exact⟨_,h'⟩) ?_
 ·intro i hi; simp[show i≠st.nxt by omega]
 ·intro i e' hi;rw[yK] at hi;split at hi
  ·rename_i hii;cases hi;subst hii;exact .inr ⟨⟨⟨[],[],.inl ⟨rfl,by simp,rfl,rfl⟩,by simp,li _ _ _⟩,trivial,by simp⟩,.inl (Nat.le_refl _)⟩
  ·rw[aac] at hi;split at hi
   ·cases hi
   ·rename_i hni; exact .inl ⟨hi,hni⟩
theorem uo (st:St) (loc:Nat->Value):AVOk (λ i=>if i=st.nxt then Value.slice none 0 0 else loc i) (.v (.one (.sl st.nxt))) (.slice none 0 0):=
 ⟨by simp,_,_,_,rfl⟩
theorem Sy [Tags] {ids:List Nat} {ow:Own} {γ:Nat->Own} {b i:Nat} (h:γ b=.top i) (hi:i∈ids):relab ids ow γ b=ow:=by rw[JK h,if_pos hi]
theorem Ld [Tags] {ids:List Nat} {ow:Own} {γ:Nat->Own} {b i:Nat} (h:γ b=.deep i) (hi:i∈ids):relab ids ow γ b=ow:=by rw[Yb h,if_pos hi]
theorem pY [Tags] (e:Ty) (n:Nat):((List.replicate n (zV e)).flatten.toArray).size=n*e.size:=by
 rw[aj0,Cz]
theorem rz [Tags] (hT:yi P E.tys=true) {T T2 ET:Nat} {d:TD} {e:Ty} (hd:lk E.tys T=some d) (X3:d.ty=.sl ET e) (XZ:d.arr=none) (hT2:LI E T2=true)
  {c:Call} (hc:o.op=.call c) (hb:c.callee=.builtin .append) {s x:Operand} (hargs:c.args.toList=[s,x]) (abl:c.argTypes.toList=[T,T2])
  (hs:a.eval s=.slice none 0 0) (hr:Rel0 B X A w0 γ loc st a w) {ys:List (den e)} {u:Bool} {tab:List (Nat×Ent)} {ids:List Nat} {cs:List Value} {fy:List Nat}
  (X0:(Builtin.lenOf (a.eval x)).run P w=.ok ys.length w) (aci:∀ w',w'.heap=w.heap->(Builtin.firstCells e.size ys.length (a.eval x)).run P w'=.ok cs.toArray w')
  (X1:cs.length=ys.length*e.size) (X5:RdL (Rd w e) ys cs fy) (ab2:ys.length<=140737488355328) (aac:∀ j,look tab j=if j∈ids then none else look st.tab j) (X7:∀ i∈ids,jo st i)
  (X6:Yt (relab ids (j5 u st.nxt) γ) (.own u) st.nxt fy) (aaa:ys.length*ZV E ET<=70368744177664)
  (hk:k (St.put { st with tab:=(st.nxt,.arr (.own u) st.lvl ET e ys)::tab,nxt:=st.nxt+1 } o.dst (.v (.one (.sl st.nxt))))=some r)
  (hn:zZ B X A w0 k r o.dst.toList st next):o.wp P a w next Q:=by
 obtain⟨g1,g2⟩:=xM (P:=P) (w:=w) (ty:=o.type) hT hd X3 XZ hT2 (base:=none) (n:=0) (cap:=0) X0 (aci w rfl) (by simpa using aaa);have hex:=xN (P:=P) (a:=a) (w:=w) hc hb hargs abl;rw[hs] at hex;by_cases h0:ys.length=0
 ·have hys:ys=[]:=List.length_eq_zero_iff.1 h0;subst hys;have h1:=g1 (by simp) w rfl;rw[h1] at hex;refine jH (x:=.v (.one (.sl st.nxt))) (v:=.slice none 0 0) hn (by simpa using hex) (hr.nilOwn aac X7 u st.lvl ET e) (Pres.newTab (ids_lt hr) aac X7 _) (uo st loc) (by simp[AV.lt,V1.lt,Leaf.lt]) hk
 ·obtain⟨nc,h1,h2⟩:=g2 (by omega) #[] (by simp[Builtin.firstCells]) (aci _ rfl);rw[h2] at hex;simp only[ajp,Array.empty_append] at hex h1;have aag:=hr.drew.newOwn aac X7 u st.lvl ET (T:=ET) (fr:=(0,0)) (cap:=nc) (arr:=cs.toArray++(List.replicate (nc - ys.length) (zV e)).flatten.toArray) (xs:=ys) (fp:=fy)
   (by have:=(X5.frame (w':=jh w) (λ _ _=>rfl)).more ((List.replicate (nc - ys.length) (zV e)).flatten); simpa using this)
   (by rw[aju,pY,aj0,X1,←ajg]; congr 1; omega) h1 ab2 (Jx _) ⟨Iff.rfl,(K9 hT hd).1 X3⟩ X6
  exact jH (x:=.v (.one (.sl st.nxt))) hn hex aag (Pres.newTab (ids_lt hr) aac X7 _) (dB st (jh w) loc ys.length nc) (by simp[AV.lt,V1.lt,Leaf.lt]) hk
theorem GW [Tags] (hT:yi P E.tys=true) {T T2 ET:Nat} {d:TD} {e:Ty} (hd:lk E.tys T=some d) (X3:d.ty=.sl ET e) (XZ:d.arr=none) (hT2:LI E T2=true)
  {c:Call} (hc:o.op=.call c) (hb:c.callee=.builtin .append) {s x:Operand} (hargs:c.args.toList=[s,x]) (abl:c.argTypes.toList=[T,T2])
  {b cap:Nat} {xs:List (den e)} (hs:a.eval s=.slice (some ⟨b,0,none⟩) xs.length cap) (hr:Rel0 B X A w0 γ loc st a w)
  {arr:Array Value} {T':TypeId} {fr:Nat×Nat} {fs:List Nat} {id:Nat}
  (hh:w.heap[b]?=some (.cells arr T' fr)) (hfr:frees fr arr.size) (aeW:arr.size=cap*e.size) (hxc:xs.length<=cap) (adU:RdL (Rd w e) xs arr.toList fs) (hbo:γ b=.top id) (acy:KJ ET T')
  {ys:List (den e)} {u:Bool} {tab:List (Nat×Ent)} {ids:List Nat} {cs:List Value} {fy:List Nat}
  (X0:(Builtin.lenOf (a.eval x)).run P w=.ok ys.length w) (aci:∀ w',w'.heap=w.heap->(Builtin.firstCells e.size ys.length (a.eval x)).run P w'=.ok cs.toArray w')
  (X1:cs.length=ys.length*e.size) (X5:RdL (Rd w e) ys cs fy) (aac:∀ j,look tab j=if j∈ids then none else look st.tab j) (X7:∀ i∈ids,jo st i) (XV:id∈ids)
  (X6:Yt (relab ids (j5 u st.nxt) γ) (.own u) st.nxt (fs++fy)) (hnb:b∉fs++fy) (aaa:(xs.length+ys.length)*ZV E ET<=70368744177664)
  (ab2:xs.length+ys.length<=140737488355328)
  (hk:k (St.put { st with tab:=(st.nxt,.arr (.own u) st.lvl ET e (xs++ys))::tab,nxt:=st.nxt+1 } o.dst (.v (.one (.sl st.nxt))))=some r)
  (hn:zZ B X A w0 k r o.dst.toList st next):o.wp P a w next Q:=by
 obtain⟨g1,g2⟩:=xM (P:=P) (w:=w) (ty:=o.type) hT hd X3 XZ hT2 (base:=some ⟨b,0,none⟩) (n:=xs.length) (cap:=cap) X0 (aci w rfl) aaa;have hex:=xN (P:=P) (a:=a) (w:=w) hc hb hargs abl;rw[hs] at hex;have hlx:(xs++ys).length=xs.length+ys.length:=by simp
 by_cases h0:xs.length+ys.length<=cap
 ·have ah7:(xs.length+ys.length)*e.size<=cap*e.size:=Nat.mul_le_mul_right _ h0;rw[ajg] at ah7;have X2:=oq (P:=P) b (0+xs.length*e.size) T' fr cs 0 arr w hh hfr (by omega) (by
   have:=X5.one;rw[←X1,ajt] at this;exact this)
  have h1:=g1 h0 _ (by
   show (storeCells ((⟨b,0,none⟩:Addr).add (xs.length*e.size)) cs).run P w=_;rw[LG];exact X2)
  rw[h1] at hex;simp only[ajp,ajF,aiH] at hex;have hle:xs.length*e.size+cs.length<=arr.toList.length:=by
   have h2:arr.toList.length=arr.size:=Array.length_toList;omega
  have hl2:=YK hle;have htl:(arr.toList.take (xs.length*e.size)).length=xs.length*e.size:=by
   have:=adU.le;rw[aiM]; omega
  have q:RdL (Rd w e) (xs++ys) ((setAt arr.toList (xs.length*e.size) cs).toArray).toList (fs++fy):=
   RdL.more (arr.toList.drop (xs.length*e.size+cs.length)) (RdL.app adU.cut htl X5)
  have aag:=hr.grow aac X7 u st.lvl ET (xs:=xs++ys) (cap:=cap) (arr':=(setAt arr.toList (xs.length*e.size) cs).toArray) (fp:=fs++fy) XV hbo hh
   q
   (by rw[aj0,hl2]; simpa using aeW) (by omega) (by omega) (by rw[aj0,hl2]; simpa using hfr) (by rw[aj0,hl2]; simp) ⟨acy,(K9 hT hd).1 X3⟩ X6 hnb
  rw[hlx] at aag;exact jH (x:=.v (.one (.sl st.nxt))) (v:=.slice (some ⟨b,0,none⟩) (xs.length+ys.length) cap) hn hex aag (Pres.newTab (ids_lt hr) aac X7 _) ⟨by simp,_,_,_,rfl⟩ (by simp[AV.lt,V1.lt,Leaf.lt]) hk
 ·have hx0:=adU.le;have hold:(Builtin.firstCells e.size xs.length (.slice (some ⟨b,0,none⟩) xs.length cap)).run P (jh w)=.ok ((arr.toList.drop 0).take (xs.length*e.size)).toArray (jh w):=by
   simp only[Builtin.firstCells];exact af (w:=jh w) hh (by simp at hx0; omega)
  obtain⟨nc,h1,h2⟩:=g2 (by omega) _ hold (aci _ rfl);rw[h2] at hex;simp only[aiH,aiW] at hex;have htl:(arr.toList.take (xs.length*e.size)).length=xs.length*e.size:=by rw[aiM]; omega
  have aag:=hr.drew.newOwn aac X7 u st.lvl ET (T:=ET) (fr:=(0,0)) (cap:=nc)
   (arr:=(arr.toList.take (xs.length*e.size)).toArray++cs.toArray++(List.replicate (nc - (xs.length+ys.length)) (zV e)).flatten.toArray) (xs:=xs++ys) (fp:=fs++fy)
   (by
    have q1:=adU.cut.frame (w':=jh w) (λ _ _=>rfl);have q2:=X5.frame (w':=jh w) (λ _ _=>rfl);have:=(RdL.app q1 htl q2).more ((List.replicate (nc - (xs.length+ys.length)) (zV e)).flatten);simpa using this)
   (by
    rw[aju,aju,pY,aj0,aj0,X1,htl,←ajg,←ajg]; congr 1; omega) (by omega) (by omega) (Jx _) ⟨Iff.rfl,(K9 hT hd).1 X3⟩ X6
  rw[hlx] at aag;exact jH (x:=.v (.one (.sl st.nxt))) hn hex aag (Pres.newTab (ids_lt hr) aac X7 _) (dB st (jh w) loc (xs.length+ys.length) nc) (by simp[AV.lt,V1.lt,Leaf.lt]) hk
theorem GX {e:Ty} {u u':Bool} {x:Leaf} {ys:List (den e)} {tab:List (Nat×Ent)} (h:MO st e u x=some (ys,u',tab)):u'=true->u=true:=by
 unfold MO at h;repeat' split at h
 all_goals first
  | (cases h; done)
  | (simp only[aiy,aiF] at h; obtain⟨_,rfl,_⟩:=h; simp; done)
  | (simp only[aiy,aiF] at h; obtain⟨_,h,_⟩:=h; intro hu; rw[←h] at hu; exact hu)
theorem AppOk.fp [Tags] {e:Ty} {v:Value} {ys:List (den e)} {u:Bool} {tab:List (Nat×Ent)} {ids:List Nat} {cs:List Value} {fy:List Nat} (h:AppOk P B w γ st e v ys u tab ids cs fy):
  Yt (relab ids (j5 u st.nxt) γ) (.own u) st.nxt fy:=by
 cases u with
 | true=>
  obtain⟨h1,h2⟩:=h.uniq rfl;exact⟨h1,λ b hb=>by obtain⟨i,hi,e⟩:=h2 b hb; rw[Ld e hi]; rfl⟩
 | false=>
  intro b hb;rcases h.held rfl b hb with h|⟨i,hi,e⟩
  ·exact ZD h
  ·rw[Ld e hi]; rfl
theorem xL [Tags] (hT:yi P E.tys=true) {T ET n:Nat} {d:TD} {e:Ty} (hd:lk E.tys T=some d) (X3:d.ty=.sl ET e) (XZ:d.arr=none) (h:n*ZV E ET<=70368744177664):n<=70368744177664:=by
 obtain⟨hu,de,hde,hdt,hda⟩:=(zY hT hd).slice X3 XZ;obtain⟨i,_,_,hb⟩:=(zY hT hde).bytes;have:ZV E ET=de.bytes:=by simp[ZV,hde]
 rw[this] at h;have:=Nat.le_mul_of_pos_right n hb;omega
theorem VB [Tags] (hT:yi P E.tys=true) {T T2:Nat} (hT2:LI E T2=true) {c:Call} (hc:o.op=.call c) (hb:c.callee=.builtin .append) {s x:Operand} (hargs:c.args.toList=[s,x])
  (abl:c.argTypes.toList=[T,T2]) {ls lx:Leaf} (hs:zu st s=some ls) (hx:zu st x=some lx) (hr:Rel0 B X A w0 γ loc st a w) (hk:KT E T ls lx o.dst st k=some r)
  (hn:zZ B X A w0 k r o.dst.toList st next):o.wp P a w next Q:=by
 obtain⟨hs1,hs2⟩:=yy hr hs;obtain⟨hx1,hx2⟩:=yy hr hx;unfold KT at hk;split at hk
 ·next ET e bb ff hd=>
  split at hk
  ·-- nothing yet
   split at hk
   ·next ys u tab abT=>
    split at hk
    ·next aaa=>
     obtain⟨ids,cs,fy,hA,_⟩:=rA (P:=P) hr hx1 abT;exact rz hT hd rfl rfl hT2 hc hb hargs abl hs1 hr hA.len hA.cells hA.size hA.rd hA.max hA.look hA.own hA.fp aaa hk hn
    ·cases hk
   ·cases hk
  ·next id=>
   split at hk
   ·next u0 lvl EE e' xs0 hl=>
    split at hk
    ·next xs ae8 X4=>
     obtain⟨hEE,he,hxs⟩:=kH ae8;subst hEE;subst he;simp only at hxs;subst hxs;split at hk
     ·next ys u tab abT=>
      split at hk
      ·next e0 hl0 _=>
       split at hk
       ·next aaa=>
        obtain⟨ids,cs,fy,hA,_⟩:=rA (P:=P) hr hx1 abT;have huu:=GX abT;have XV:id∉ids:=by
         intro hm;rw[hA.look,if_pos hm] at hl0;cases hl0
        have aac:∀ j,look (erase tab id) j=if j∈id::ids then none else look st.tab j:=by
         intro j;rw[Qt,hA.look];by_cases h1:j=id<;>by_cases h2:j∈ids<;>simp[h1,h2]
        have X7:∀ i∈id::ids,jo st i:=by
         intro i hi;rcases List.mem_cons.1 hi with rfl|hi
         ·exact⟨u0,lvl,EE,e',_,hl,(zL _ _).1 X4⟩
         ·exact hA.own i hi
        obtain⟨xb,fs,q1,q2,q3⟩:=hr.ents id _ hl;have ab2:=xL hT hd rfl rfl aaa;have hsv:a.eval s=loc id:=hs1.1
-- owners of all that the new row leads to
        have afc:∀ b∈fy,γ b=.persist∨∃ i∈ids,γ b=.deep i:=by
         intro b hb;cases u with
         | true=>exact .inr ((hA.uniq rfl).2 b hb)
         | false=>exact hA.held rfl b hb
        have X6:Yt (relab (id::ids) (j5 u st.nxt) γ) (.own u) st.nxt (fs++fy):=by
         cases u with
         | true=>
          have:=huu rfl;subst this;obtain⟨n1,d1⟩:=q3;obtain⟨n2,d2⟩:=hA.uniq rfl;refine⟨Zj n1 n2 ?_,?_⟩
          ·intro b hb hb';obtain⟨i,hi,e⟩:=d2 b hb';rw[d1 b hb] at e; cases e
           exact XV hi
          ·intro b hb;rcases List.mem_append.1 hb with hb|hb
           ·rw[Ld (d1 b hb) (by simp)]; rfl
           ·obtain⟨i,hi,e⟩:=d2 b hb;rw[Ld e (by simp[hi])]; rfl
         | false=>
          intro b hb;rcases List.mem_append.1 hb with hb|hb
          ·cases u0 with
           | true=>rw[Ld (q3.2 b hb) (by simp)]; rfl
           | false=>exact ZD (q3 b hb)
          ·rcases afc b hb with h|⟨i,hi,e⟩
           ·exact ZD h
           ·rw[Ld e (by simp[hi])]; rfl
        rcases q1 with⟨h1,h2,h3,h4⟩|⟨b,cap,arr,T',fr,h1,h2,h3,h4,h5,h6,h7,h8,h9⟩
        ·simp only[aiZ,and_true] at h2;subst h1; subst h4
         simp only[aiU] at hk X6;simp only[aiz,ajp] at aaa ab2;exact rz hT hd rfl rfl hT2 hc hb hargs abl (by rw[hsv,h2]) hr hA.len hA.cells hA.size hA.rd (by omega) aac X7 X6 aaa hk hn
        ·simp only[aiZ,and_true] at h1;have hbo:γ b=.top id:=q2 b (by simp[h8]);have hnb:b∉fs++fy:=by
          intro hm;rcases List.mem_append.1 hm with hm|hm
          ·cases u0 with
           | true=>have:=q3.2 b hm; rw[hbo] at this; cases this
           | false=>have:=q3 b hm; rw[hbo] at this; cases this
          ·rcases afc b hm with h|⟨i,_,h⟩<;>rw[hbo] at h<;>cases h
         exact GW hT hd rfl rfl hT2 hc hb hargs abl (by rw[hsv,h1]) hr h2 h3 h4 h5 h7 hbo h9.1 hA.len hA.cells hA.size hA.rd aac X7 (by simp) X6 hnb aaa (by omega) hk hn
       ·cases hk
      ·cases hk
     ·cases hk
    ·cases hk
   ·cases hk
  ·cases hk
 ·cases hk
end Ev
