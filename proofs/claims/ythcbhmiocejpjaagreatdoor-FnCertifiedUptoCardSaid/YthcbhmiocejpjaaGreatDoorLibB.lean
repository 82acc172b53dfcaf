/- The evaluator of the own library, part 2: its words, its soundness. Conditions: none of its own. -/
import Derived.Test.YthcbhmiocejpjaaGreatDoorLibA
import Derived.Room.Entries
set_option linter.unusedSimpArgs false
set_option linter.unusedVariables false
namespace Ev
open Go
variable {P:Program} {o:Oper} {a:Act} {w w':World} {next:Act->World->Prop} {Q:Exit->Act->World->Prop}
variable {B:Nat} {X:List Nat} {A:Ctx} {w0:World} {γ γ':Nat->Own} {loc loc':Nat->Value} {st st1:St} {R:Type} {k:St->Option R} {r:R} {E:Env}
theorem xW [Tags] (off:Nat):∀ (vs:List Value) (j:Nat) (cells:Array Value),off+j+vs.length<=cells.size->
  (vs.zipIdx j).foldl (λ cs (x:Value×Nat)=>cs.setIfInBounds (off+x.2) x.1) cells=(setAt cells.toList (off+j) vs).toArray
 | [],j,cells,_=>by simp[vj]
 | v::vs,j,cells,h=>by
  simp only[List.zipIdx_cons,arA];rw[xW off vs (j+1) _ (by simp at h ⊢; omega),ast,show off+(j+1)=off+j+1 by omega,vk _ _ _ _ (by simp at h ⊢; omega)]
theorem fP [Tags] {place:Nat->Option (Nat×Nat)} {cells:Array Value} {i off size:Nat} {v:Value} {rest:List (Nat×Value)} (hp:place i=some (off,size))
  (hs:v.cells.size=size) (hl:off+v.cells.size<=cells.size):Instr.fill place cells ((i,v)::rest)=Instr.fill place (setAt cells.toList off v.cells.toList).toArray rest:=by
 have h1:(decide (v.cells.size≠size) || decide (off+v.cells.size>cells.size))=false:=by
  simp[hs]; omega
 simp only[Instr.fill,hp];rw[if_neg (by simp[hs]; omega)]
 congr 1;have:=xW off v.cells.toList 0 cells (by simpa using hl);rw[arx] at this;rw[←this,←Array.foldl_toList];simp
theorem pu {tys:List (Nat×TD)} {n:Nat}:∀ {fs:List Field} {flds:List (Nat×Nat)},J2 tys n fs flds=true->∀ {i off ft:Nat},flds[i]?=some (off,ft)->
  ∃ f,fs[i]?=some f/\f.offset=off/\f.type=ft/\∃ d,lk tys ft=some d/\d.arr=none/\off+d.ty.size<=n
 | [],[],_,i,off,ft,h=>by simp at h
 | f::fs,(o1,t1)::r,h,i,off,ft,hi=>by
  simp only[J2,aqF] at h;obtain⟨⟨⟨h1,h2⟩,h3⟩,h4⟩:=h;cases i with
  | zero=>
   simp at hi;obtain⟨rfl,rfl⟩:=hi;refine⟨f,by simp,(zV _ _).1 h1,(zV _ _).1 h2,?_⟩;split at h3
   ·next d hd=>
    simp only[aqF,arL] at h3;exact⟨d,hd,h3.1,Nat.le_of_ble_eq_true h3.2⟩
   ·cases h3
  | succ i=>
   simp at hi;obtain⟨f',g1,g2⟩:=pu h4 hi;exact⟨f',by simpa using g1,g2⟩
 | [],_::_,h,_,_,_,_=>by simp[J2] at h
 | _::_,[],h,_,_,_,_=>by simp[J2] at h
theorem TOk.struct {tys:List (Nat×TD)} {t:Nat} {d:TD} (h:TOk P tys t d) (hp:d.ty.isPair=true) (ha:d.arr=none):
  ∃ fs,P.underlying t=some (.struct fs)/\J2 tys d.ty.size fs.toList d.flds=true:=by
 obtain⟨u,hu,hc⟩:=h.und;unfold KX at hc;split at hc
 ·simp only[aqF,aqP] at hc; rw[hc.1] at hp; cases hp
 ·simp only[aqF,aqP] at hc; rw[hc.1] at hp; cases hp
 ·simp only[aqF,aqP] at hc; rw[hc.1] at hp; cases hp
 ·simp only[aqF,aqP] at hc; rw[hc.1] at hp; cases hp
 ·simp only[aqF] at hc;split at hc
  ·next heq=>rw[heq] at hp; cases hp
  ·simp at hc
 ·rw[ha] at hc; simp at hc
 ·next fs=>simp only[aqF] at hc; exact⟨fs,hu,hc.2⟩
 ·cases hc
theorem BB [Tags] {tys:List (Nat×TD)} (hT:yA P tys=true) {n:Nat} (w:World):∀ {fs:List Field} {flds:List (Nat×Nat)},J2 tys n fs flds=true->
  ∃ ps:List (Nat×Nat),(fs.mapM λ f=>(do pure (f.offset,←Go.sizeOf f.type):Sem (Nat×Nat))).run P w=.ok ps w/\
   ∀ (i off ft:Nat),flds[i]?=some (off,ft)->∃ d,lk tys ft=some d/\ps[i]?=some (off,d.ty.size)/\off+d.ty.size<=n
 | [],[],_=>⟨[],by simp,by simp⟩
 | f::fs,(o1,t1)::r,h=>by
  simp only[J2,aqF] at h;obtain⟨⟨⟨h1,h2⟩,h3⟩,h4⟩:=h;obtain⟨ps,g1,g2⟩:=BB hT w h4;split at h3
  ·next d hd=>
   simp only[aqF,arL] at h3;have e1:=(zV _ _).1 h1;have e2:=(zV _ _).1 h2;refine⟨(f.offset,d.ty.size)::ps,?_,?_⟩
   ·have:=(yh hT hd).size h3.1 w;simp only[List.mapM_cons,aqT,e2,this,aqQ,aqR,g1]
   ·intro i off ft hi;cases i with
    | zero=>
     simp at hi;obtain⟨rfl,rfl⟩:=hi;exact⟨d,hd,by simp[e1],Nat.le_of_ble_eq_true h3.2⟩
    | succ i=>simp at hi; simpa using g2 i off ft hi
  ·cases h3
 | [],_::_,h=>by simp[J2] at h
 | _::_,[],h=>by simp[J2] at h
theorem xL [Tags] (hr:Rel0 B X A w0 γ loc st a w) {flds:List (Nat×Nat)} {ps:List (Nat×Nat)} {n:Nat}
  (hps:∀ (i off ft:Nat),flds[i]?=some (off,ft)->∃ d,lk E.tys ft=some d/\ps[i]?=some (off,d.ty.size)/\off+d.ty.size<=n):
  ∀ (parts:List (Nat×Operand)) (ls ls':List Leaf) (cells:Array Value),qR E flds st parts ls=some ls'->All2 (LeafOk loc) ls cells.toList->cells.size=n->(∀ l∈ls,l.lt st.nxt)->
   ∃ cells':Array Value,Instr.fill (ps[·]?) cells (parts.map λ x=>(x.1,a.eval x.2))=some cells'/\All2 (LeafOk loc) ls' cells'.toList/\(∀ l∈ls',l.lt st.nxt)
 | [],ls,ls',cells,h,ha,hn,hl=>by simp only[qR,aqK] at h; subst h; exact⟨cells,rfl,ha,hl⟩
 | (i,x)::parts,ls,ls',cells,h,ha,hn,hl=>by
  simp only[qR] at h;split at h
  ·next off ft hf=>
   split at h
   ·next d xs hd hx=>
    split at h
    ·next hc=>
     simp only[aqF] at hc;have hxl:=(zV _ _).1 hc.1;obtain⟨d',hd',hp,hle⟩:=hps i off ft hf;rw[hd] at hd';cases hd';obtain⟨x1,x2⟩:=QE hr hx;have xl:=x1.len;have hsz:(a.eval x).cells.size=d.ty.size:=by rw[←hxl,xl]; simp
     obtain⟨cells',q1,q2,q3⟩:=xL hr hps parts (mO ls off xs) ls' (setAt cells.toList off (a.eval x).cells.toList).toArray h
      (by rw[GV]; simpa using ha.setAt off x1) (by simp; rw[YS (by simp; omega)]; simpa using hn)
      (λ l hm=>(BC hm).elim (hl l) (x2 l))
     refine⟨cells',?_,q2,q3⟩;simp only[aqZ];rw[fP hp hsz (by omega)];exact q1
    ·cases h
   ·cases h
  ·cases h
theorem aeY [Tags] (hT:yA P E.tys=true) {T:TypeId} {ps:Array (Nat×Operand)} (ho:o.op=.build T ps) {d:TD} (hd:lk E.tys T=some d) (ah5:d.arr=none) (anx:d.ty.isPair=true)
  {ls:List Leaf} (hf:qR E d.flds st ps.toList (Yi d.ty)=some ls) (hr:Rel0 B X A w0 γ loc st a w) (hk:k (st.put o.dst (.v (.agg ls)))=some r)
  (hn:yi B X A w0 k r o.dst.toList st next):o.wp P a w next Q:=by
 have ht:=yh hT hd;obtain⟨fs,hu,hfs⟩:=ht.struct anx ah5;obtain⟨pl,h1,h2⟩:=BB (P:=P) hT w hfs;have hz:(yD d.ty (yd d.ty)).cells=(yd d.ty).toArray:=by simp[yD,anx,Value.cells]
 obtain⟨cells',q1,q2,q3⟩:=xL hr h2 ps.toList (Yi d.ty) ls (yd d.ty).toArray hf (bt loc d.ty) (by simp[LV]) (oE _ _);have hm:(fs.mapM λ f=>(do pure (f.offset,←Go.sizeOf f.type):Sem (Nat×Nat))).run P w=.ok pl.toArray w:=by
  have e:(fs.mapM λ f=>(do pure (f.offset,←Go.sizeOf f.type):Sem (Nat×Nat)))=List.toArray <$> (fs.toList.mapM λ f=>(do pure (f.offset,←Go.sizeOf f.type):Sem (Nat×Nat))):=by
   rw[Array.mapM_eq_mapM_toList]
  rw[e,Sem.run_map,h1]; rfl
 refine Zg (x:=.v (.agg ls)) (v:=.agg cells') hn ?_ hr (Pres.refl _ _) ⟨cells'.toList,by simp,q2⟩ q3 hk;have hpl:(λ x:Nat=>pl.toArray[x]?)=(λ x:Nat=>pl[x]?):=by funext x; simp
 have hpp:(ps.map λ x=>(x.1,a.eval x.2)).toList=ps.toList.map λ x=>(x.1,a.eval x.2):=by simp
 simp only[execOp,ho,Instr.build,aqT,ht.zero ah5,aqQ,hz,yy hu,hm,hpl,hpp,q1,aqR]
def ZI (u:Bool) (id:Nat):Own:=if u then .deep id else .persist
theorem se (u:Bool) (id:Nat):ZI u id=.persist∨∃ j,ZI u id=.deep j:=by
 cases u with
 | true=>exact .inr ⟨id,rfl⟩
 | false=>exact .inl rfl
theorem Pres.newTab [Tags] {tab:List (Nat×Ent)} {ids:List Nat} (hi:∀ (id:Nat) (e:Ent),look st.tab id=some e->id<st.nxt) (ahq:∀ j,look tab j=if j∈ids then none else look st.tab j)
  (ahd:∀ i∈ids,jS st i) (e:Ent):Pres [] st { st with tab:=(st.nxt,e)::tab,nxt:=st.nxt+1 }:=
 ⟨rfl,by simp,λ id e' he hp=>by
  have:=hi id e' he;simp only[jf];rw[if_neg (by omega),ahq,if_neg (λ hm=>QH (ahd id hm) _ he hp)];exact he,λ _ _=>rfl,rfl⟩
theorem Rel0.newOwn [Tags] (hr:Rel0 B X A w0 γ loc st a w) {tab:List (Nat×Ent)} {ids:List Nat} (ahq:∀ j,look tab j=if j∈ids then none else look st.tab j) (ahd:∀ i∈ids,jS st i)
  (u:Bool) (lvl ET:Nat) {e:Ty} {xs:List (den e)} {arr:Array Value} {T:TypeId} {fr:Nat×Nat} {cap:Nat} {fp:List Nat}
  (hrd:RdL (Rd w e) xs arr.toList fp) (hsz:arr.size=cap*e.size) (hcap:xs.length<=cap) (aim:xs.length<=140737488355328) (hfr:frees fr arr.size) (ak2:L0 ET T/\(ET=Tags.post->e.size=18))
  (hfp:Jv (relab ids (ZI u st.nxt) γ) (.own u) st.nxt fp):
  Rel0 B X A w0 (λ b=>if b=w.heap.size then .top st.nxt else relab ids (ZI u st.nxt) γ b)
   (λ i=>if i=st.nxt then .slice (some ⟨w.heap.size,0,none⟩) xs.length cap else loc i)
   { st with tab:=(st.nxt,.arr (.own u) lvl ET e xs)::tab,nxt:=st.nxt+1 } a (jN w (.cells arr T fr)):=by
 refine hr.upd (M:=λ i=>i∈ids∨False) rfl (by simp) (A5 B X hr.Ble _ (whole hfr)) (λ b hb ho=>NW (by simpa[show b≠w.heap.size by omega] using ho)) ?_ ?_
  ((Moves.relab (se u st.nxt) γ w).trans (Moves.push (.top st.nxt) (.cells arr T fr)) (Nat.le_refl _)) (λ i hi=>hi.elim (λ h=>by obtain⟨u,lvl,E',e,xs,h',_⟩:=ahd i h; exact⟨_,h'⟩) (λ h=>h.elim)) ?_
 ·intro b hb hx;have:=hr.Ble;simp only[show b≠w.heap.size by omega,if_false];exact NV hr.old b hb hx
 ·intro i hi; simp[show i≠st.nxt by omega]
 ·intro i e' hi;rw[jf] at hi;split at hi
  ·rename_i hii;cases hi;subst hii;have hlt:=hrd.lt;refine .inr ⟨⟨⟨[w.heap.size],fp,?_,by simp,?_⟩,trivial,by simp⟩,.inl (Nat.le_refl _)⟩
   ·refine .inr ⟨w.heap.size,cap,arr,T,fr,by simp,dg _ _,hfr,hsz,hcap,aim,hrd.frame (λ b hb=>Lz (hlt b hb)),rfl,ak2⟩
   ·have same:∀ b∈fp,(if b=w.heap.size then Own.top st.nxt else relab ids (ZI u st.nxt) γ b)=relab ids (ZI u st.nxt) γ b:=by
     intro b hb;have:=hlt b hb;rw[if_neg (by omega)]
    cases u with
    | true=>exact⟨hfp.1,λ b hb=>(same b hb).trans (hfp.2 b hb)⟩
    | false=>exact λ b hb=>(same b hb).trans (hfp b hb)
  ·rw[ahq] at hi;split at hi
   ·cases hi
   ·rename_i hni; exact .inl ⟨hi,λ h=>h.elim hni id⟩
theorem kT (st:St) (w:World) (loc:Nat->Value) (n cap:Nat):
  AVOk (λ i=>if i=st.nxt then Value.slice (some ⟨w.heap.size,0,none⟩) n cap else loc i) (.v (.one (.sl st.nxt))) (.slice (some ⟨w.heap.size,0,none⟩) n cap):=
 ⟨by simp,_,_,_,rfl⟩
theorem TOk.slice {tys:List (Nat×TD)} {t:Nat} {d:TD} {ET:Nat} {e:Ty} (h:TOk P tys t d) (hd:d.ty=.sl ET e) (ha:d.arr=none):
  P.underlying t=some (.slice ET)/\∃ de,lk tys ET=some de/\de.ty=e/\de.arr=none:=by
 obtain⟨u,hu,hc⟩:=h.und;unfold KX at hc;split at hc
 ·simp only[aqF,aqP] at hc; rw[hc.1] at hd; cases hd
 ·simp only[aqF,aqP] at hc; rw[hc.1] at hd; cases hd
 ·simp only[aqF,aqP] at hc; rw[hc.1] at hd; cases hd
 ·simp only[aqF,aqP] at hc; rw[hc.1] at hd; cases hd
 ·next EE=>
  simp only[aqF] at hc;rw[hd] at hc;simp only[aqF] at hc;obtain⟨_,h1,h2⟩:=hc;have h1:=(zV _ _).1 h1;subst h1;split at h2
  ·next de hde=>
   simp only[aqF,aqP,arL] at h2;exact⟨hu,de,hde,h2.1,h2.2⟩
  ·cases h2
 ·rw[ha] at hc; simp at hc
 ·simp only[aqF] at hc; rw[hd] at hc; simp[Ty.isPair] at hc
 ·cases hc
theorem TOk.array {tys:List (Nat×TD)} {t:Nat} {d:TD} {ET n:Nat} {e:Ty} (h:TOk P tys t d) (hd:d.ty=.sl ET e) (ha:d.arr=some n):
  P.underlying t=some (.array n ET)/\∃ de,lk tys ET=some de/\de.ty=e/\de.arr=none:=by
 obtain⟨u,hu,hc⟩:=h.und;unfold KX at hc;split at hc
 ·simp[ha] at hc
 ·simp[ha] at hc
 ·simp[ha] at hc
 ·simp[ha] at hc
 ·simp[ha] at hc
 ·next m EE=>
  rw[ha,hd] at hc;simp only[aqF] at hc;obtain⟨⟨h0,h1⟩,h2⟩:=hc;have h0:=(zV _ _).1 h0;have h1:=(zV _ _).1 h1;subst h0; subst h1
  split at h2
  ·next de hde=>
   simp only[aqF,aqP,arL] at h2;exact⟨hu,de,hde,h2.1,h2.2⟩
  ·cases h2
 ·simp[ha] at hc
 ·cases hc
theorem Ow [Tags] {z:List Value}:∀ {n:Nat} {cs:List Value},oF n z cs=true->cs=(List.replicate n z).flatten
 | 0,[],_=>rfl
 | 0,_::_,h=>by cases h
 | n+1,cs,h=>by
  simp only[oF,aqF] at h;have h1:=pX h.1;have h2:=Ow h.2;have h3:=List.take_append_drop z.length cs;rw[h1,h2] at h3;rw[asy,as7];exact h3.symm
theorem ud [Tags] (w:World):∀ t:Ty,Rd w t (dflt t) (yd t) []
 | .i64=>⟨rfl,rfl,by constructor<;>decide⟩
 | .u8=>⟨rfl,rfl⟩
 | .bool=>⟨rfl,rfl⟩
 | .str=>⟨rfl,rfl,by simp[Bnd,dflt]⟩
 | .sl _ _=>⟨none,0,0,rfl,rfl,Nat.le_refl _,by simp,.inl ⟨rfl,rfl,λ _=>⟨rfl,rfl⟩⟩⟩
 | .pair a b=>⟨yd a,yd b,[],[],rfl,rfl,ud w a,ud w b⟩
theorem uf [Tags] (w:World) (e:Ty):∀ (n:Nat) (more:List Value),RdL (Rd w e) (List.replicate n (dflt e)) ((List.replicate n (yd e)).flatten++more) []
 | 0,more=>rfl
 | n+1,more=>⟨yd e,(List.replicate n (yd e)).flatten++more,[],[],by simp[asy],rfl,ud w e,uf w e n more⟩
theorem Ov [Tags] (e:Ty) (n:Nat):((List.replicate n (yd e)).flatten).length=n*e.size:=by
 induction n with
 | zero=>simp
 | succ n ih=>rw[asy,as7,aqM,ih,LV,are,Nat.add_comm]
theorem EV (z:List Value) (hz:0<z.length) (n:Nat):((Array.range (n*z.length)).map λ i=>z.toArray[i % z.toArray.size]!).toList=(List.replicate n z).flatten:=by
 simp only[asz,Array.toList_range,ar8];induction n with
 | zero=>simp
 | succ n ih=>
  rw[are,List.range_add,arW,ih,List.map_map];rw[List.replicate_succ',List.flatten_append,List.flatten_singleton];congr 1;apply List.ext_getElem?;intro j;simp only[ash,asU];by_cases hj:j<z.length
  ·have:(n*z.length+j) % z.length=j:=by rw[Nat.add_comm,Nat.add_mul_mod_self_right,asu hj]
   simp[hj,this]
  ·simp[hj,ar9 (Nat.le_of_not_lt hj)]
theorem Kb (tab:List (Nat×Ent)) (j:Nat):look tab j=if j∈([]:List Nat) then none else look tab j:=by simp
theorem py (γ:Nat->Own) (u:Bool) (id:Nat):Jv γ (.own u) id []:=by
 cases u with
 | true=>exact⟨List.nodup_nil,by simp⟩
 | false=>intro b hb; simp at hb
theorem aeT [Tags] (hT:yA P E.tys=true) {T:TypeId} (ho:o.op=.alloc T) {d:TD} {ET n:Nat} {e:Ty} (hd:lk E.tys T=some d) (hty:d.ty=.sl ET e) (ah5:d.arr=some n)
  (hn0:n<=140737488355328) (hr:Rel0 B X A w0 γ loc st a w)
  (hk:k (St.put { st with tab:=(st.nxt,.arr (.own true) st.lvl ET e (List.replicate n (dflt e)))::st.tab,nxt:=st.nxt+1 } o.dst (.v (.one (.ap st.nxt))))=some r)
  (hn:yi B X A w0 k r o.dst.toList st next):o.wp P a w next Q:=by
 have htp:=(Mw hT hd).2 hty ah5;have ht:=yh hT hd;obtain⟨i,hi,hc⟩:=ht.info;simp only[NC,ah5,hty,aqF] at hc;obtain⟨_,hc⟩:=hc;split at hc
 ·next ET' e' cs aoB hz=>
  cases aoB;simp only[aqF] at hc;have hzs:=Ow hc.2;have hzl:=Ov e n;have hsz:cs.size=n*e.size:=by rw[←hzl,←hzs]; simp
  have ahw:=hr.newOwn (Kb st.tab) (by simp) true st.lvl ET (xs:=List.replicate n (dflt e)) (arr:=cs) (T:=T) (fr:=(0,0)) (cap:=n) (fp:=[])
   (by rw[hzs]; have:=uf w e n []; simpa using this) hsz (by simp) (by simpa using hn0) (KA _) ⟨⟨λ k=>absurd k htp.2,λ k=>absurd k htp.1⟩,λ k=>absurd k htp.1⟩ (py _ _ _)
  refine Zg (x:=.v (.one (.ap st.nxt))) (v:=.pointer (some ⟨w.heap.size,0,none⟩)) hn ?_ ahw
   (Pres.newTab (ids_lt hr) (Kb st.tab) (by simp) _) ⟨w.heap.size,n,n,by simp,rfl⟩ (by simp[AV.lt,V1.lt,Leaf.lt]) hk
  simp only[execOp,ho,Instr.alloc,aqT,Fo hi hz,aqQ,ur,aqR,Value.cells]
 ·cases hc
def Jr (a:Act) (x:Operand):List Value:=(a.eval x).cells.toList
theorem xD [Tags] (hr:Rel0 B X A w0 γ loc st a w) {e:Ty}:∀ (n:Nat) (parts:List (Nat×Operand)) (vs:List (den e)) (ls:List Leaf),Ju st e n parts=some (vs,ls)->
  vs.length=parts.length/\∀ (j:Nat) (p:Nat×Operand),parts[j]?=some p->p.1=n+j/\(Jr a p.2).length=e.size
 | n,[],vs,ls,h=>by simp only[Ju,aqK,aqO] at h; simp[←h.1]
 | n,(i,x)::r,vs,ls,h=>by
  simp only[Ju] at h;split at h
  ·next l1 hi hx=>
   split at h
   ·next v hv=>
    split at h
    ·next vs' ls' aje=>
     simp only[aqK,aqO] at h;obtain⟨rfl,rfl⟩:=h;obtain⟨g1,g2⟩:=xD hr (n+1) r vs' ls' aje;refine⟨by simp[g1],?_⟩;intro j p hj;cases j with
     | zero=>
      simp at hj;subst hj;obtain⟨x1,x2⟩:=QE hr hx;obtain⟨fp,q1,_⟩:=Js hr hv x1;exact⟨(zV _ _).1 hi,q1.len⟩
     | succ j=>
      simp at hj;obtain⟨k1,k2⟩:=g2 j p hj;exact⟨by omega,k2⟩
    ·cases h
   ·cases h
  ·cases h
theorem Ko {st:St}:∀ {l1 l2:List Leaf},yF st (l1++l2)=true->yF st l1=true/\yF st l2=true
 | [],l2,h=>⟨rfl,h⟩
 | x::l,l2,h=>by
  cases x with
  | sl id=>
   simp only[arE,yF] at h ⊢;split at h
   ·next hl=>exact Ko h
   ·cases h
  | i n=>exact Ko (l1:=l) h
  | u n=>exact Ko (l1:=l) h
  | b n=>exact Ko (l1:=l) h
  | s n=>exact Ko (l1:=l) h
  | nil=>exact Ko (l1:=l) h
  | ptr _ _=>simp[yF] at h
  | ep _ _ _ _=>simp[yF] at h
  | fn _ _=>simp[yF] at h
  | any=>simp[yF] at h
  | ap _=>simp[yF] at h
theorem xE [Tags] (hr:Rel0 B X A w0 γ loc st a w) {e:Ty}:∀ (n:Nat) (parts:List (Nat×Operand)) (vs:List (den e)) (ls:List Leaf),Ju st e n parts=some (vs,ls)->yF st ls=true->
  ∃ fp,RdL (Rd w e) vs ((parts.map λ p=>Jr a p.2).flatten) fp/\∀ b∈fp,γ b=.persist
 | n,[],vs,ls,h,_=>by simp only[Ju,aqK,aqO] at h; exact⟨[],by rw[←h.1]; rfl,by simp⟩
 | n,(i,x)::r,vs,ls,h,hs=>by
  simp only[Ju] at h;split at h
  ·next l1 hi hx=>
   split at h
   ·next v hv=>
    split at h
    ·next vs' ls' aje=>
     simp only[aqK,aqO] at h;obtain⟨rfl,rfl⟩:=h;obtain⟨s1,s2⟩:=Ko hs;obtain⟨fp,g1,g2⟩:=xE hr (n+1) r vs' ls' aje s2;obtain⟨x1,x2⟩:=QE hr hx;obtain⟨f,q1,q2,q3⟩:=Js hr hv x1;refine⟨f++fp,⟨Jr a x,_,f,fp,by simp,rfl,q1,g1⟩,?_⟩;intro b hb;rcases List.mem_append.1 hb with hb|hb
     ·exact q3 s1 b hb
     ·exact g2 b hb
    ·cases h
   ·cases h
  ·cases h
theorem xF [Tags] (hr:Rel0 B X A w0 γ loc st a w) {e:Ty}:∀ (n:Nat) (parts:List (Nat×Operand)) (vs:List (den e)) (ls:List Leaf) (ids:List Nat),Ju st e n parts=some (vs,ls)->
  yw st ls=some ids->(∀ i∈ids,LX st i)->
  ∃ fp,RdL (Rd w e) vs ((parts.map λ p=>Jr a p.2).flatten) fp/\fp.Nodup/\∀ b∈fp,∃ i∈ids,γ b=.top i∨γ b=.deep i
 | n,[],vs,ls,ids,h,_,_=>by simp only[Ju,aqK,aqO] at h; exact⟨[],by rw[←h.1]; rfl,List.nodup_nil,by simp⟩
 | n,(i,x)::r,vs,ls,ids,h,hg,hu=>by
  simp only[Ju] at h;split at h
  ·next l1 hi hx=>
   split at h
   ·next v hv=>
    split at h
    ·next vs' ls' aje=>
     simp only[aqK,aqO] at h;obtain⟨rfl,rfl⟩:=h;obtain⟨i1,i2,g1,g2,g3,g4⟩:=J3 hg;subst g3;obtain⟨fp,k1,k2,k3⟩:=xF hr (n+1) r vs' ls' i2 aje g2 (λ i hi=>hu i (by simp[hi]));obtain⟨x1,x2⟩:=QE hr hx;obtain⟨xs,fs,h3,h4,h5,h6,h7⟩:=qG hr hv x1 g1;obtain⟨n1,n2⟩:=h7 (λ i hi=>hu i (by simp[hi]));obtain⟨f,q1,q2,q3⟩:=h3.rdN;have own:∀ b∈f,∃ i∈i1,γ b=.top i∨γ b=.deep i:=by
      intro b hb;rcases q2 b hb with h|h
      ·obtain⟨i,hi,e⟩:=h5 b h; exact⟨i,hi,.inl e⟩
      ·obtain⟨i,hi,e⟩:=n2 b h; exact⟨i,hi,.inr e⟩
     refine⟨f++fp,⟨Jr a x,_,f,fp,by simp,rfl,q1,k1⟩,Z3 (q3 h4 n1 ?_) k2 ?_,?_⟩
     ·intro b hb hb';obtain⟨i,_,e1⟩:=h5 b hb;obtain⟨j,_,e2⟩:=n2 b hb';rw[e1] at e2; cases e2
     ·intro b hb hb';obtain⟨i,hi,e1⟩:=own b hb;obtain⟨j,hj,e2⟩:=k3 b hb';rcases e1 with e1|e1<;>rcases e2 with e2|e2<;>rw[e1] at e2<;>cases e2
      ·exact g4 i hi hj
      ·exact g4 i hi hj
     ·intro b hb;rcases List.mem_append.1 hb with hb|hb
      ·obtain⟨i,hi,e⟩:=own b hb; exact⟨i,by simp[hi],e⟩
      ·obtain⟨i,hi,e⟩:=k3 b hb; exact⟨i,by simp[hi],e⟩
    ·cases h
   ·cases h
  ·cases h
theorem xM [Tags] (a:Act) (size:Nat):∀ (parts:List (Nat×Operand)) (n:Nat) (cells:Array Value) (pre rest:List Value),cells.toList=pre++rest->pre.length=n*size->rest.length=parts.length*size->
  (∀ (j:Nat) (p:Nat×Operand),parts[j]?=some p->p.1=n+j/\(Jr a p.2).length=size)->
  ∃ c:Array Value,Instr.fill (λ i=>some (i*size,size)) cells (parts.map λ x=>(x.1,a.eval x.2))=some c/\c.toList=pre++(parts.map λ p=>Jr a p.2).flatten
 | [],n,cells,pre,rest,h,_,hl,_=>⟨cells,rfl,by simp at hl; simp[h,hl]⟩
 | (i,x)::parts,n,cells,pre,rest,h,hp,hl,hs=>by
  obtain⟨h1,h2⟩:=hs 0 (i,x) rfl;simp only[arx] at h1;subst h1;rw[aqG,are] at hl;have hsz:(a.eval x).cells.size=size:=by rw[←h2]; simp[Jr]
  have hcs:cells.size=i*size+(parts.length*size+size):=by rw[←ary,h,aqM,hp,hl]
  have e1:setAt cells.toList (i*size) (Jr a x)=(pre++Jr a x)++rest.drop size:=by
   rw[h,vi (by omega),hp,Nat.sub_self];unfold setAt;simp[h2]
  obtain⟨c,q1,q2⟩:=xM a size parts (i+1) (setAt cells.toList (i*size) (Jr a x)).toArray (pre++Jr a x) (rest.drop size) (by simpa using e1)
   (by rw[aqM,hp,h2,are]) (by rw[ar2]; omega) (λ j p hj=>by
    have:=hs (j+1) p (by simpa using hj); exact⟨by omega,this.2⟩)
  refine⟨c,?_,by simpa using q2⟩;simp only[aqZ];rw[fP rfl hsz (by omega)];exact q1
theorem xS {α:Type} (s:Nat):∀ (l:List (List α)),(∀ x∈l,x.length=s)->l.flatten.length=l.length*s
 | [],_=>by simp
 | x::l,h=>by
  rw[List.flatten_cons,List.length_append,h x (by simp),xS s l (λ y hy=>h y (by simp[hy])),List.length_cons,Nat.succ_mul,Nat.add_comm]
theorem o4 [Tags] (e:Ty):(yD e (yd e)).cells=(yd e).toArray:=by
 apply Array.ext';rw[Oa (LV e) (fw (bt (λ _=>undef) e))]
theorem aeZ [Tags] (hT:yA P E.tys=true) {T n:Nat} {ps:Array (Nat×Operand)} (ho:o.op=.buildSlice T n ps) {d:TD} {ET:Nat} {e:Ty} (hd:lk E.tys T=some d) (hty:d.ty=.sl ET e)
  (ah5:d.arr=none) {vs:List (den e)} {ls:List Leaf} (hel:Ju st e 0 ps.toList=some (vs,ls)) (hn1:ps.toList.length=n) (hn2:n*e.size<=16777216)
  {u u':Bool} {tab:List (Nat×Ent)} (aiw:bg st u ls=some (u',tab)) (hr:Rel0 B X A w0 γ loc st a w)
  (hk:k (St.put { st with tab:=(st.nxt,.arr (.own u') st.lvl ET e vs)::tab,nxt:=st.nxt+1 } o.dst (.v (.one (.sl st.nxt))))=some r)
  (hn:yi B X A w0 k r o.dst.toList st next):o.wp P a w next Q:=by
 have ht:=yh hT hd;obtain⟨hu,de,hde,hdt,hda⟩:=ht.slice hty ah5;have hte:=yh hT hde;subst hdt;obtain⟨g1,g2⟩:=xD hr 0 ps.toList vs ls hel;have ajZ:=de.ty.size_pos;have hzl:(yd de.ty).length=de.ty.size:=LV _;have hz:=hte.zero hda w;have hzr:((Array.range (n*de.ty.size)).map λ i=>(yd de.ty).toArray[i % (yd de.ty).toArray.size]!).toList.length=n*de.ty.size:=by simp
 obtain⟨c,c1,c2⟩:=xM a de.ty.size ps.toList 0 ((Array.range (n*de.ty.size)).map λ i=>(yd de.ty).toArray[i % (yd de.ty).toArray.size]!) [] _ rfl (by simp)
  (by rw[hzr,hn1]) g2
 have htk:=IW hr aiw;have hlen:vs.length=n:=by rw[g1,hn1]
 have aiP:∃ ids fp,(∀ j,look tab j=if j∈ids then none else look st.tab j)/\(∀ i∈ids,jS st i)/\RdL (Rd w de.ty) vs c.toList fp/\Jv (relab ids (ZI u' st.nxt) γ) (.own u') st.nxt fp:=by
  obtain⟨rfl,_⟩:=htk;unfold bg at aiw;cases u' with
  | true=>
   simp only at aiw;split at aiw
   ·next ids hg=>
    cases aiw;obtain⟨q1,q2⟩:=Jx hg;obtain⟨fp,k1,k2,k3⟩:=xF hr 0 ps.toList vs ls ids hel q1 q2;refine⟨ids,fp,λ j=>JG ids st.tab j,Jw q1,by rw[c2]; simpa using k1,k2,?_⟩
    intro b hb;obtain⟨i,hi,h|h⟩:=k3 b hb
    ·rw[KO h,if_pos hi]; rfl
    ·rw[Jc h,if_pos hi]; rfl
   ·cases aiw
  | false=>
   simp only at aiw;split at aiw
   ·next hs=>
    cases aiw;obtain⟨fp,k1,k2⟩:=xE hr 0 ps.toList vs ls hel hs;exact⟨[],fp,Kb st.tab,by simp,by rw[c2]; simpa using k1,λ b hb=>Yv (k2 b hb)⟩
   ·cases aiw
 obtain⟨ids,fp,m1,m2,m3,m4⟩:=aiP;have aos:c.size=n*de.ty.size:=by
  rw[←ary,c2,ar6,xS de.ty.size,arg,hn1];intro x hx;obtain⟨p,hp,rfl⟩:=List.mem_map.1 hx;obtain⟨j,hj⟩:=List.mem_iff_getElem?.1 hp;exact (g2 j p hj).2
 have ahw:=hr.newOwn m1 m2 u' st.lvl ET (T:=ET) (fr:=(0,0)) (cap:=n) m3 aos (by omega) (by
  have:n<=n*de.ty.size:=Nat.le_mul_of_pos_right _ ajZ;omega) (KA _) ⟨Iff.rfl,(Mw hT hd).1 hty⟩ m4
 rw[hlen] at ahw;refine Zg (x:=.v (.one (.sl st.nxt))) (v:=.slice (some ⟨w.heap.size,0,none⟩) n n) hn ?_ ahw (Pres.newTab (ids_lt hr) m1 m2 _) (kT st w loc n n) (by simp[AV.lt,V1.lt,Leaf.lt]) hk;have hpp:(ps.map λ x=>(x.1,a.eval x.2)).toList=ps.toList.map λ x=>(x.1,a.eval x.2):=by simp
 have hng:¬ n*de.ty.size>2 ^ 24:=by omega
 by_cases hn0:n*de.ty.size=0
 ·have hr0:∀ f:Nat->Value,(Array.range (n*de.ty.size)).map f = #[]:=λ f=>by rw[hn0]; simp
  rw[hr0] at c1;simp only[execOp,ho,Instr.buildSlice,aqT,yy hu,hte.size hda,aqQ,hng,if_false,hn0,if_true,aqR,hpp];simp only[show (0:Nat)>2 ^ 24↔False by simp,if_false,pure_bind];rw[show (Array.map (λ x:Nat=>(#[]:Array Value)[x % (#[]:Array Value).size]!) (Array.range 0)) = #[] by simp,c1];simp[newRow,jN]
 ·simp only[execOp,ho,Instr.buildSlice,aqT,yy hu,hte.size hda,aqQ,hng,if_false,hn0,hz,aqR,o4,hpp,c1];simp[newRow,jN]
def jK (w:World):World:={ w with drawn:=w.drawn+1 }
theorem Rel0.drew [Tags] (h:Rel0 B X A w0 γ loc st a w):Rel0 B X A w0 γ loc st a (jK w):=
 h.upd (M:=λ _=>False) rfl (Nat.le_refl _) ⟨rfl,rfl,rfl,Nat.le_refl _,λ _ _ _=>rfl,λ _ h=>h,λ _=>Shape.same rfl⟩ (λ _ _ h=>h) h.old (λ _ _=>rfl)
  ⟨λ _ _ h=>⟨h,rfl⟩,λ _ _ _ h _=>⟨h,rfl⟩,λ _ i _ h=>⟨rfl,λ _=>h,λ _=>.inr ⟨i,h⟩⟩⟩ (λ _ h=>h.elim) (λ _ _ h=>.inl ⟨h,λ h=>h⟩)
theorem Rd.drew [Tags] {w:World} {t:Ty} {v:den t} {cs fp} (h:Rd w t v cs fp):Rd (jK w) t v cs fp:=h.frame (λ _ _=>rfl)
theorem Rd.one [Tags] {w:World}:∀ {t:Ty} {v:den t} {cs fp},Rd w t v cs fp->∀ c∈cs,c.oneCell'=true
 | .i64,_,_,_,h=>by rw[h.1]; simp[Value.oneCell']
 | .u8,_,_,_,h=>by rw[h.1]; simp[Value.oneCell']
 | .bool,_,_,_,h=>by rw[h.1]; simp[Value.oneCell']
 | .str,_,_,_,h=>by rw[h.1]; simp[Value.oneCell']
 | .sl _ _,_,_,_,h=>by obtain⟨a,n,c,h,_⟩:=h; rw[h]; simp[Value.oneCell']
 | .pair a b,_,_,_,h=>by
  obtain⟨c1,c2,f1,f2,h1,_,h3,h4⟩:=h;intro c hc;rw[h1] at hc;rcases List.mem_append.1 hc with hc|hc
  ·exact h3.one c hc
  ·exact h4.one c hc
theorem RdL.one [Tags] {w:World} {e:Ty}:∀ {xs:List (den e)} {cs fp},RdL (Rd w e) xs cs fp->∀ c∈cs.take (xs.length*e.size),c.oneCell'=true
 | [],_,_,_=>by simp
 | x::xs,cs,fp,⟨c,rest,f1,f2,h1,h2,h3,h4⟩=>by
  have l1:=h3.len;intro d hd;rw[h1,aqG,are,as5,arI (by omega),l1] at hd;rcases List.mem_append.1 hd with hd|hd
  ·exact h3.one d hd
  ·refine RdL.one h4 d ?_
   rwa [show xs.length*e.size+e.size - e.size=xs.length*e.size by omega] at hd
structure AppOk [Tags] (P:Program) (B:Nat) (w:World) (γ:Nat->Own) (st:St) (e:Ty) (v:Value) (ys:List (den e)) (u':Bool) (tab:List (Nat×Ent)) (ids:List Nat) (cs:List Value) (fy:List Nat):Prop where
 len:(Builtin.lenOf v).run P w=.ok ys.length w
 cells:∀ w',w'.heap=w.heap->(Builtin.firstCells e.size ys.length v).run P w'=.ok cs.toArray w'
 size:cs.length=ys.length*e.size
 rd:RdL (Rd w e) ys cs fy
 look:∀ j,look tab j=if j∈ids then none else look st.tab j
 own:∀ i∈ids,jS st i
 max:ys.length<=140737488355328
 uniq:u'=true->fy.Nodup/\∀ b∈fy,∃ i∈ids,γ b=.deep i
 held:u'=false->∀ b∈fy,γ b=.persist∨∃ i∈ids,γ b=.deep i
theorem xQ [Tags] {w:World} {e:Ty} {ys:List (den e)} {v:Value} {fp:List Nat} {EE:Nat} (h:Rd w (.sl EE e) ys [v] fp):
  ∃ cs fy,(Builtin.lenOf v).run P w=.ok ys.length w/\(∀ w',w'.heap=w.heap->(Builtin.firstCells e.size ys.length v).run P w'=.ok cs.toArray w')/\cs.length=ys.length*e.size/\RdL (Rd w e) ys cs fy/\
   ys.length<=140737488355328/\(∀ b∈fy,b∈fp)/\(fp=[]∨∃ b,fp=b::fy):=by
 obtain⟨a1,n,c,h1,h2,h3,h4,h5⟩:=h;simp only[ara,and_true] at h1;subst h1;rcases h5 with⟨h5,h6,_⟩|⟨b,ob,arr,T,fr,fp',ha,hb,hfp,hl,_⟩
 ·refine⟨[],[],by simp[Builtin.lenOf,h2],?_,by simp[h5],by rw[h5]; rfl,by omega,by simp,.inl h6⟩
  rw[h5];intro w' hw';cases a1 with
  | none=>simp[Builtin.firstCells]
  | some a1=>simp[Builtin.firstCells,loadCells,loadCellsFrom]
 ·have hle:=hl.le;have akE:ob+ys.length*e.size<=arr.size∨ys.length*e.size=0:=by
   simp at hle; omega
  refine⟨(arr.toList.drop ob).take (ys.length*e.size),fp',by simp[Builtin.lenOf,h2],?_,?_,hl.cut,by omega,λ c hc=>by rw[hfp]; exact List.mem_cons_of_mem _ hc,.inr ⟨b,hfp⟩⟩
  ·rw[ha];intro w' hw';simp only[Builtin.firstCells];rcases akE with akE|hz
   ·exact dw (by rw[hw']; exact hb) akE
   ·rw[hz]; simp[loadCells,loadCellsFrom]
  ·rw[aqV]; omega
theorem B6 [Tags] {w:World} {e:Ty} {ys:List (den e)} {v:Value} {EE:Nat} {xb fs:List Nat} (h:RdO w (.sl EE e) ys [v] xb fs):
  ∃ cs fy,(Builtin.lenOf v).run P w=.ok ys.length w/\(∀ w',w'.heap=w.heap->(Builtin.firstCells e.size ys.length v).run P w'=.ok cs.toArray w')/\cs.length=ys.length*e.size/\RdL (Rd w e) ys cs fy/\
   ys.length<=140737488355328/\fy=fs:=by
 rcases h with⟨h1,h2,h3,h4⟩|⟨b,cap,arr,T,fr,h1,h2,h3,h4,h5,h6,h7,h8⟩
 ·simp only[ara,and_true] at h2;subst h1; subst h2; subst h4
  exact⟨[],[],by simp[Builtin.lenOf],by simp[Builtin.firstCells],by simp,rfl,by simp,rfl⟩
 ·simp only[ara,and_true] at h1;subst h1;have hle:=h7.le;refine⟨(arr.toList.drop 0).take (ys.length*e.size),fs,by simp[Builtin.lenOf],?_,?_,by simpa using h7.cut,h6,rfl⟩
  ·intro w' hw';simp only[Builtin.firstCells];exact dw (by rw[hw']; exact h2) (by simp at hle; omega)
  ·rw[aqV]; simp at hle ⊢; omega
theorem U2 (l:List UInt8):((⟨⟨l⟩⟩:ByteArray).extract 0 l.length).data.toList=l:=by
 simp[ByteArray.extract,ByteArray.copySlice]
theorem ue [Tags] (w:World):∀ (l:List UInt8),RdL (Rd w .u8) l (l.map λ b=>Value.int .u8 (b.toNat:Int)) []
 | []=>rfl
 | x::l=>⟨[.int .u8 (x.toNat:Int)],_,[],[],rfl,rfl,⟨rfl,rfl⟩,ue w l⟩
theorem wR [Tags] (hr:Rel0 B X A w0 γ loc st a w) {e:Ty} {u u':Bool} {x:Leaf} {v:Value} (hx:LeafOk loc x v) {ys:List (den e)} {tab:List (Nat×Ent)}
  (h:qB st e u x=some (ys,u',tab)):∃ ids cs fy,AppOk P B w γ st e v ys u' tab ids cs fy/\(∀ i∈ids,yb [x]=[i]):=by
 unfold qB at h;split at h
 ·cases h;rw[show v=_ from hx];exact⟨[],[],[],⟨by simp[Builtin.lenOf],by simp[Builtin.firstCells],by simp,rfl,Kb _,by simp,by simp,λ _=>⟨List.nodup_nil,by simp⟩,by simp⟩,by simp⟩
 ·next l=>
  obtain⟨hv,hb⟩:=hx;split at h
  ·cases h;subst hv;refine⟨[],l.map (λ b=>Value.int .u8 (b.toNat:Int)),[],⟨?_,?_,by simp[Ty.size],ue w l,Kb _,by simp,hb,λ _=>⟨List.nodup_nil,by simp⟩,by simp⟩,by simp⟩
   ·simp only[Builtin.lenOf,aqR]; rfl
   ·intro w' hw';simp only[Builtin.firstCells,aqR];congr 1;apply Array.ext';have:=U2 l;rw[asz,this]
  ·cases h
 ·next id=>
  obtain⟨hv,_⟩:=hx;split at h
  ·next kd lvl EE e' xs hl=>
   split at h
   ·cases h
   ·next ys' hc=>
    obtain⟨he,hys⟩:=o0 hc;subst he;simp only at hys;subst hys;have hE:=hr.ents id _ hl;split at h
    ·next hns=>
     simp only[aqK,aqO] at h;obtain⟨rfl,rfl,rfl⟩:=h;have:∃ fp,Rd w (.sl EE e') ys' [v] fp:=by
      rw[hv];cases kd with
      | imm t=>obtain⟨fp,h1,_⟩:=hE; exact⟨fp,h1⟩
      | lent=>obtain⟨fp,h1,_⟩:=hE; exact⟨fp,h1⟩
      | own u=>obtain⟨xb,fs,h1,_⟩:=hE; obtain⟨fp,h2,_⟩:=h1.rd; exact⟨fp,h2⟩
     obtain⟨fp,h1⟩:=this;obtain⟨cs,fy,g1,g2,g3,g4,g5,g6,g7⟩:=xQ (P:=P) h1;have hfy:=g4.noSl hns;subst hfy;exact⟨[],cs,[],⟨g1,g2,g3,g4,Kb _,by simp,g5,λ _=>⟨List.nodup_nil,by simp⟩,by simp⟩,by simp⟩
    ·next hns=>
     split at h
     ·split at h
      ·next hlv=>
       simp only[aqK,aqO] at h;obtain⟨rfl,rfl,rfl⟩:=h;obtain⟨xb,fs,h1,h2,h3⟩:=hE;rw[←hv] at h1;obtain⟨cs,fy,g1,g2,g3,g4,g5,g6⟩:=B6 (P:=P) h1;subst g6;refine⟨[id],cs,fy,⟨g1,g2,g3,g4,?_,?_,g5,λ _=>⟨h3.1,λ b hb=>⟨id,by simp,h3.2 b hb⟩⟩,λ _ b hb=>.inr ⟨id,by simp,h3.2 b hb⟩⟩,by simp[yb]⟩
       ·intro j; rw[cB]; simp
       ·intro i hi;have:i=id:=by simpa using hi
        subst this;exact⟨true,lvl,EE,e',_,hl,(zV _ _).1 hlv⟩
      ·cases h
     ·simp only[aqK,aqO] at h;obtain⟨rfl,rfl,rfl⟩:=h;obtain⟨fp,h1,h2⟩:=hE;rw[←hv] at h1;obtain⟨cs,fy,g1,g2,g3,g4,g5,g6,g7⟩:=xQ (P:=P) h1;refine⟨[],cs,fy,⟨g1,g2,g3,g4,Kb _,by simp,g5,(λ h=>by cases h),λ _ b hb => ?_⟩,by simp⟩;rcases h2 b (g6 b hb) with h|⟨h,_⟩
      ·exact .inl h
      ·cases h
     ·simp only[aqK,aqO] at h;obtain⟨rfl,rfl,rfl⟩:=h;obtain⟨xb,fs,h1,h2,h3⟩:=hE;rw[←hv] at h1;obtain⟨cs,fy,g1,g2,g3,g4,g5,g6⟩:=B6 (P:=P) h1;subst g6;exact⟨[],cs,fy,⟨g1,g2,g3,g4,Kb _,by simp,g5,(λ h=>by cases h),λ _ b hb=>.inl (h3 b hb)⟩,by simp⟩
     ·cases h
     ·cases h
  ·cases h
 ·cases h
theorem K6 {α:Type} {x:Array α} {l:List α} (h:x.toList=l):x=l.toArray:=by rw[←h]
theorem Fh [Tags] {c:Call} (hc:o.op=.call c) (hb:c.callee=.builtin .append) {s x:Operand} (hargs:c.args.toList=[s,x]) {T T2:TypeId} (hty:c.argTypes.toList=[T,T2]):
  (execOp a.eval o).run P w=((Builtin.append_ #[T,T2] o.type #[a.eval s,a.eval x]).run P w).andThen λ v w'=>.ok (.value v) w':=by
 have e1:=K6 hargs;have e2:=K6 hty;simp only[execOp,hc,resolve,hb,e1,e2,invoke,builtin,aqT,aqR,aqQ];simp only[as8,aqZ,arn]
theorem UJ [Tags] (hT:yA P E.tys=true) {T:Nat} (h:M6 E T=true):∃ u,P.underlying T=some u/\((∃ EE,u=.slice EE)∨u=.string):=by
 unfold M6 at h;split at h
 ·next ET e b f hl=>
  obtain⟨hu,_⟩:=(yh hT hl).slice rfl rfl;exact⟨_,hu,.inl ⟨ET,rfl⟩⟩
 ·next b f ar hl=>
  obtain⟨u,hu,hc⟩:=(yh hT hl).und;refine⟨u,hu,?_⟩;unfold KX at hc;split at hc<;>first|exact .inr rfl|(simp at hc; done)|(simp[Ty.isPair] at hc; done)
 ·cases h
theorem Fg [Tags] (hT:yA P E.tys=true) {T T2 ET:Nat} {d:TD} {e:Ty} (hd:lk E.tys T=some d) (hty:d.ty=.sl ET e) (ah5:d.arr=none) (hT2:M6 E T2=true)
  {base:Option Addr} {n cap m:Nat} {v:Value} {cs:List Value} {ty:TypeId} (hlen:(Builtin.lenOf v).run P w=.ok m w) (hcells:(Builtin.firstCells e.size m v).run P w=.ok cs.toArray w)
  (ahp:(n+m)*YQ E ET<=70368744177664):
  (n+m<=cap->∀ w1,(match base with|some b=>(storeCells (b.add (n*e.size)) cs).run P w=.ok () w1|none=>w1=w)->
   (Builtin.append_ #[T,T2] ty #[.slice base n cap,v]).run P w=.ok (.slice base (n+m) cap) w1)/\
  (cap<n+m->∀ old,(Builtin.firstCells e.size n (.slice base n cap)).run P (jK w)=.ok old (jK w)->(Builtin.firstCells e.size m v).run P (jK w)=.ok cs.toArray (jK w)->
   ∃ nc,n+m<=nc/\(Builtin.append_ #[T,T2] ty #[.slice base n cap,v]).run P w=
    .ok (.slice (some ⟨w.heap.size,0,none⟩) (n+m) nc) (jN (jK w) (.cells (old++cs.toArray++(List.replicate (nc - (n+m)) (yd e)).flatten.toArray) ET))):=by
 have ht:=yh hT hd;obtain⟨hu,de,hde,hdt,hda⟩:=ht.slice hty ah5;subst hdt;have hte:=yh hT hde;obtain⟨u2,hu2,hni⟩:=UJ hT hT2;obtain⟨i,hi,hib,hb1⟩:=hte.bytes;have hrm:YQ E ET=de.bytes:=by simp[YQ,hde]
 rw[hrm] at ahp;constructor
 ·intro hle w1 hst;unfold Builtin.append_;simp only[asB,List.getElem?_cons_zero,asQ,aqT,yy hu,hte.size hda,aqQ,yy hu2];rcases hni with⟨EE,rfl⟩|rfl
  all_goals
   simp only[aqR,aqQ,ar3,if_false,hlen,Sem.run_ite,hle,if_true,ar1,aqT,hcells];cases base with
   | none=>subst hst; simp
   | some b=>simp[hst]
 ·intro hgt old hold aok;have hle:¬ n+m<=cap:=by omega
  have hcap:=Room.nextslicecap_le' hgt;have ahy:¬ Builtin.nextslicecap (n+m) cap*de.bytes>2 ^ 48:=by
   have:Builtin.nextslicecap (n+m) cap*de.bytes<=2*(n+m)*de.bytes:=Nat.mul_le_mul_right _ hcap;rw[Nat.mul_assoc] at this;omega
  have hnm:n+m<=70368744177664:=by
   have:n+m<=(n+m)*de.bytes:=Nat.le_mul_of_pos_right _ hb1;omega
  have aim:¬ (((n+m:Nat):Int)>IntKind.i64.max):=by
   simp[IntKind.max,IntKind.signed,IntKind.bits]; omega
  refine⟨n+m+(w.tape w.drawn (.appendCap (n+m) cap ET)) % (2 ^ 63 - (n+m)),by omega,?_⟩;have hzr:=EV (yd de.ty) (by rw[LV]; exact de.ty.size_pos)
  have hzc:∀ k,Builtin.zeroCells (yD de.ty (yd de.ty)).cells k=(List.replicate k (yd de.ty)).flatten.toArray:=by
   intro k;apply Array.ext';rw[o4];have:=hzr k;simpa[Builtin.zeroCells] using this
  unfold Builtin.append_;simp only[asB,List.getElem?_cons_zero,asQ,aqT,yy hu,hte.size hda,aqQ,yy hu2];rcases hni with⟨EE,rfl⟩|rfl
  all_goals
   simp only[aqR,aqQ,ar3,if_false,hlen,Sem.run_ite,hle,ar1,if_true,aqT,mh hi,aqQ,hib,aim,false_and,ahy,run_choose,Question.forced,ar3,Question.cut,
   run_askRoom,aqR]
   have hd':({ heap:=w.heap,tape:=w.tape,drawn:=w.drawn+1,os:=w.os,output:=w.output }:World)=jK w:=rfl;simp only[hd',hold,aok,aqQ,hte.zero hda,hzc];simp[newRow,jN,jK]
theorem Rel0.grow [Tags] (hr:Rel0 B X A w0 γ loc st a w) {tab:List (Nat×Ent)} {ids:List Nat} (ahq:∀ j,look tab j=if j∈ids then none else look st.tab j) (ahd:∀ i∈ids,jS st i)
  (u:Bool) (lvl ET:Nat) {e:Ty} {xs:List (den e)} {b cap:Nat} {arr arr':Array Value} {T:TypeId} {fr:Nat×Nat} {fp:List Nat} {id:Nat} (hid:id∈ids) (hb:γ b=.top id)
  (hh:w.heap[b]?=some (.cells arr T fr)) (hrd:RdL (Rd w e) xs arr'.toList fp) (hsz:arr'.size=cap*e.size) (hcap:xs.length<=cap) (aim:xs.length<=140737488355328) (hfr:frees fr arr'.size) (hss:arr'.size=arr.size) (ak2:L0 ET T/\(ET=Tags.post->e.size=18))
  (hfp:Jv (relab ids (ZI u st.nxt) γ) (.own u) st.nxt fp) (hnb:b∉fp):
  Rel0 B X A w0 (λ c=>if c=b then .top st.nxt else relab ids (ZI u st.nxt) γ c) (λ i=>if i=st.nxt then .slice (some ⟨b,0,none⟩) xs.length cap else loc i)
   { st with tab:=(st.nxt,.arr (.own u) lvl ET e xs)::tab,nxt:=st.nxt+1 } a (y6 w b (.cells arr' T fr)):=by
 refine hr.upd (M:=λ i=>i∈ids) rfl (by simp) (ra hr.old hb _ (whole hfr) (uj hh hss)) (λ c _ ho=>by
  by_cases e:c=b
  ·subst e; rw[hb]; trivial
  ·exact NW (by simpa[e] using ho)) ?_ ?_ ⟨?_,?_,?_⟩ (λ i h=>by obtain⟨u,lvl,E',e,xs,h',_⟩:=ahd i h; exact⟨_,h'⟩) ?_
 ·intro c hc hx;have hne:c≠b:=by
   intro h;subst h;rcases hr.old _ hc hx with h|⟨h,_⟩<;>rw[hb] at h<;>cases h
  simp only[hne,if_false];exact NV hr.old c hc hx
 ·intro i hi; simp[show i≠st.nxt by omega]
 ·intro c hc h;have hne:c≠b:=by intro e; subst e; rw[hb] at h; cases h
  simp only[hne,if_false];exact⟨Yv h,YM hne⟩
 ·intro c i hc h hi;have hne:c≠b:=by intro e; subst e; rw[hb] at h; cases h; exact hi hid
  simp only[hne,if_false];exact⟨by rw[KO h,if_neg hi],YM hne⟩
 ·intro c i hc h;have hne:c≠b:=by intro e; subst e; rw[hb] at h; cases h
  simp only[hne,if_false];exact⟨YM hne,λ hi=>by rw[Jc h,if_neg hi],λ hi=>by rw[Jc h,if_pos hi]; exact se u st.nxt⟩
 ·intro i e' hi;rw[jf] at hi;split at hi
  ·rename_i hii;cases hi;subst hii;refine .inr ⟨⟨⟨[b],fp,?_,by simp,?_⟩,trivial,by simp⟩,.inl (Nat.le_refl _)⟩
   ·exact .inr ⟨b,cap,arr',T,fr,by simp,Yu hh,hfr,hsz,hcap,aim,hrd.frame (λ c hc=>YM (λ e=>by subst e; exact hnb hc)),rfl,ak2⟩
   ·have same:∀ c∈fp,(if c=b then Own.top st.nxt else relab ids (ZI u st.nxt) γ c)=relab ids (ZI u st.nxt) γ c:=by
     intro c hc;rw[if_neg (λ e=>by subst e; exact hnb hc)]
    cases u with
    | true=>exact⟨hfp.1,λ c hc=>(same c hc).trans (hfp.2 c hc)⟩
    | false=>exact λ c hc=>(same c hc).trans (hfp c hc)
  ·rw[ahq] at hi;split at hi
   ·cases hi
   ·rename_i hni; exact .inl ⟨hi,hni⟩
theorem Rel0.nilOwn [Tags] (hr:Rel0 B X A w0 γ loc st a w) {tab:List (Nat×Ent)} {ids:List Nat} (ahq:∀ j,look tab j=if j∈ids then none else look st.tab j) (ahd:∀ i∈ids,jS st i) (u:Bool) (lvl ET:Nat) (e:Ty):
  Rel0 B X A w0 (relab ids (ZI u st.nxt) γ) (λ i=>if i=st.nxt then .slice none 0 0 else loc i)
   { st with tab:=(st.nxt,.arr (.own u) lvl ET e [])::tab,nxt:=st.nxt+1 } a w:=by
 refine hr.upd (M:=λ i=>i∈ids) rfl (by simp) (Keeps.refl _ _ _) (λ _ _ h=>NW h) (NV hr.old) ?_ (Moves.relab (se u st.nxt) γ w) (λ i h=>by obtain⟨u,lvl,E',e,xs,h',_⟩:=ahd i h; exact⟨_,h'⟩) ?_
 ·intro i hi; simp[show i≠st.nxt by omega]
 ·intro i e' hi;rw[jf] at hi;split at hi
  ·rename_i hii;cases hi;subst hii;exact .inr ⟨⟨⟨[],[],.inl ⟨rfl,by simp,rfl,rfl⟩,by simp,py _ _ _⟩,trivial,by simp⟩,.inl (Nat.le_refl _)⟩
  ·rw[ahq] at hi;split at hi
   ·cases hi
   ·rename_i hni; exact .inl ⟨hi,hni⟩
theorem BQ (st:St) (loc:Nat->Value):AVOk (λ i=>if i=st.nxt then Value.slice none 0 0 else loc i) (.v (.one (.sl st.nxt))) (.slice none 0 0):=
 ⟨by simp,_,_,_,rfl⟩
theorem abx [Tags] {ids:List Nat} {ow:Own} {γ:Nat->Own} {b i:Nat} (h:γ b=.top i) (hi:i∈ids):relab ids ow γ b=ow:=by rw[KO h,if_pos hi]
theorem MB [Tags] {ids:List Nat} {ow:Own} {γ:Nat->Own} {b i:Nat} (h:γ b=.deep i) (hi:i∈ids):relab ids ow γ b=ow:=by rw[Jc h,if_pos hi]
theorem wv [Tags] (e:Ty) (n:Nat):((List.replicate n (yd e)).flatten.toArray).size=n*e.size:=by
 rw[ar8,Ov]
theorem wQ [Tags] (hT:yA P E.tys=true) {T T2 ET:Nat} {d:TD} {e:Ty} (hd:lk E.tys T=some d) (hty:d.ty=.sl ET e) (ah5:d.arr=none) (hT2:M6 E T2=true)
  {c:Call} (hc:o.op=.call c) (hb:c.callee=.builtin .append) {s x:Operand} (hargs:c.args.toList=[s,x]) (aiJ:c.argTypes.toList=[T,T2])
  (hs:a.eval s=.slice none 0 0) (hr:Rel0 B X A w0 γ loc st a w) {ys:List (den e)} {u:Bool} {tab:List (Nat×Ent)} {ids:List Nat} {cs:List Value} {fy:List Nat}
  (hlen:(Builtin.lenOf (a.eval x)).run P w=.ok ys.length w) (hcells:∀ w',w'.heap=w.heap->(Builtin.firstCells e.size ys.length (a.eval x)).run P w'=.ok cs.toArray w')
  (hsz:cs.length=ys.length*e.size) (hrd:RdL (Rd w e) ys cs fy) (aim:ys.length<=140737488355328) (ahq:∀ j,look tab j=if j∈ids then none else look st.tab j) (ahd:∀ i∈ids,jS st i)
  (hfp:Jv (relab ids (ZI u st.nxt) γ) (.own u) st.nxt fy) (ahp:ys.length*YQ E ET<=70368744177664)
  (hk:k (St.put { st with tab:=(st.nxt,.arr (.own u) st.lvl ET e ys)::tab,nxt:=st.nxt+1 } o.dst (.v (.one (.sl st.nxt))))=some r)
  (hn:yi B X A w0 k r o.dst.toList st next):o.wp P a w next Q:=by
 obtain⟨g1,g2⟩:=Fg (P:=P) (w:=w) (ty:=o.type) hT hd hty ah5 hT2 (base:=none) (n:=0) (cap:=0) hlen (hcells w rfl) (by simpa using ahp);have hex:=Fh (P:=P) (a:=a) (w:=w) hc hb hargs aiJ;rw[hs] at hex;by_cases h0:ys.length=0
 ·have hys:ys=[]:=List.length_eq_zero_iff.1 h0;subst hys;have h1:=g1 (by simp) w rfl;rw[h1] at hex;refine Zg (x:=.v (.one (.sl st.nxt))) (v:=.slice none 0 0) hn (by simpa using hex) (hr.nilOwn ahq ahd u st.lvl ET e) (Pres.newTab (ids_lt hr) ahq ahd _) (BQ st loc) (by simp[AV.lt,V1.lt,Leaf.lt]) hk
 ·obtain⟨nc,h1,h2⟩:=g2 (by omega) #[] (by simp[Builtin.firstCells]) (hcells _ rfl);rw[h2] at hex;simp only[arv,Array.empty_append] at hex h1;have ahw:=hr.drew.newOwn ahq ahd u st.lvl ET (T:=ET) (fr:=(0,0)) (cap:=nc) (arr:=cs.toArray++(List.replicate (nc - ys.length) (yd e)).flatten.toArray) (xs:=ys) (fp:=fy)
   (by have:=(hrd.frame (w':=jK w) (λ _ _=>rfl)).more ((List.replicate (nc - ys.length) (yd e)).flatten); simpa using this)
   (by rw[arO,wv,ar8,hsz,←arl]; congr 1; omega) h1 aim (KA _) ⟨Iff.rfl,(Mw hT hd).1 hty⟩ hfp
  exact Zg (x:=.v (.one (.sl st.nxt))) hn hex ahw (Pres.newTab (ids_lt hr) ahq ahd _) (kT st (jK w) loc ys.length nc) (by simp[AV.lt,V1.lt,Leaf.lt]) hk
theorem UL [Tags] (hT:yA P E.tys=true) {T T2 ET:Nat} {d:TD} {e:Ty} (hd:lk E.tys T=some d) (hty:d.ty=.sl ET e) (ah5:d.arr=none) (hT2:M6 E T2=true)
  {c:Call} (hc:o.op=.call c) (hb:c.callee=.builtin .append) {s x:Operand} (hargs:c.args.toList=[s,x]) (aiJ:c.argTypes.toList=[T,T2])
  {b cap:Nat} {xs:List (den e)} (hs:a.eval s=.slice (some ⟨b,0,none⟩) xs.length cap) (hr:Rel0 B X A w0 γ loc st a w)
  {arr:Array Value} {T':TypeId} {fr:Nat×Nat} {fs:List Nat} {id:Nat}
  (hh:w.heap[b]?=some (.cells arr T' fr)) (hfr:frees fr arr.size) (ak6:arr.size=cap*e.size) (hxc:xs.length<=cap) (aly:RdL (Rd w e) xs arr.toList fs) (hbo:γ b=.top id) (ak2:L0 ET T')
  {ys:List (den e)} {u:Bool} {tab:List (Nat×Ent)} {ids:List Nat} {cs:List Value} {fy:List Nat}
  (hlen:(Builtin.lenOf (a.eval x)).run P w=.ok ys.length w) (hcells:∀ w',w'.heap=w.heap->(Builtin.firstCells e.size ys.length (a.eval x)).run P w'=.ok cs.toArray w')
  (hsz:cs.length=ys.length*e.size) (hrd:RdL (Rd w e) ys cs fy) (ahq:∀ j,look tab j=if j∈ids then none else look st.tab j) (ahd:∀ i∈ids,jS st i) (hid:id∈ids)
  (hfp:Jv (relab ids (ZI u st.nxt) γ) (.own u) st.nxt (fs++fy)) (hnb:b∉fs++fy) (ahp:(xs.length+ys.length)*YQ E ET<=70368744177664)
  (aim:xs.length+ys.length<=140737488355328)
  (hk:k (St.put { st with tab:=(st.nxt,.arr (.own u) st.lvl ET e (xs++ys))::tab,nxt:=st.nxt+1 } o.dst (.v (.one (.sl st.nxt))))=some r)
  (hn:yi B X A w0 k r o.dst.toList st next):o.wp P a w next Q:=by
 obtain⟨g1,g2⟩:=Fg (P:=P) (w:=w) (ty:=o.type) hT hd hty ah5 hT2 (base:=some ⟨b,0,none⟩) (n:=xs.length) (cap:=cap) hlen (hcells w rfl) ahp;have hex:=Fh (P:=P) (a:=a) (w:=w) hc hb hargs aiJ;rw[hs] at hex;have hlx:(xs++ys).length=xs.length+ys.length:=by simp
 by_cases h0:xs.length+ys.length<=cap
 ·have apc:(xs.length+ys.length)*e.size<=cap*e.size:=Nat.mul_le_mul_right _ h0;rw[arl] at apc;have hst:=uu (P:=P) b (0+xs.length*e.size) T' fr cs 0 arr w hh hfr (by omega) (by
   have:=hrd.one;rw[←hsz,arF] at this;exact this)
  have h1:=g1 h0 _ (by
   show (storeCells ((⟨b,0,none⟩:Addr).add (xs.length*e.size)) cs).run P w=_;rw[M4];exact hst)
  rw[h1] at hex;simp only[arv,arx,aqQ] at hex;have hle:xs.length*e.size+cs.length<=arr.toList.length:=by
   have h2:arr.toList.length=arr.size:=Array.length_toList;omega
  have hl2:=YS hle;have htl:(arr.toList.take (xs.length*e.size)).length=xs.length*e.size:=by
   have:=aly.le;rw[aqV]; omega
  have q:RdL (Rd w e) (xs++ys) ((setAt arr.toList (xs.length*e.size) cs).toArray).toList (fs++fy):=
   RdL.more (arr.toList.drop (xs.length*e.size+cs.length)) (RdL.app aly.cut htl hrd)
  have ahw:=hr.grow ahq ahd u st.lvl ET (xs:=xs++ys) (cap:=cap) (arr':=(setAt arr.toList (xs.length*e.size) cs).toArray) (fp:=fs++fy) hid hbo hh
   q
   (by rw[ar8,hl2]; simpa using ak6) (by omega) (by omega) (by rw[ar8,hl2]; simpa using hfr) (by rw[ar8,hl2]; simp) ⟨ak2,(Mw hT hd).1 hty⟩ hfp hnb
  rw[hlx] at ahw;exact Zg (x:=.v (.one (.sl st.nxt))) (v:=.slice (some ⟨b,0,none⟩) (xs.length+ys.length) cap) hn hex ahw (Pres.newTab (ids_lt hr) ahq ahd _) ⟨by simp,_,_,_,rfl⟩ (by simp[AV.lt,V1.lt,Leaf.lt]) hk
 ·have hx0:=aly.le;have hold:(Builtin.firstCells e.size xs.length (.slice (some ⟨b,0,none⟩) xs.length cap)).run P (jK w)=.ok ((arr.toList.drop 0).take (xs.length*e.size)).toArray (jK w):=by
   simp only[Builtin.firstCells];exact dw (w:=jK w) hh (by simp at hx0; omega)
  obtain⟨nc,h1,h2⟩:=g2 (by omega) _ hold (hcells _ rfl);rw[h2] at hex;simp only[aqQ,ar4] at hex;have htl:(arr.toList.take (xs.length*e.size)).length=xs.length*e.size:=by rw[aqV]; omega
  have ahw:=hr.drew.newOwn ahq ahd u st.lvl ET (T:=ET) (fr:=(0,0)) (cap:=nc)
   (arr:=(arr.toList.take (xs.length*e.size)).toArray++cs.toArray++(List.replicate (nc - (xs.length+ys.length)) (yd e)).flatten.toArray) (xs:=xs++ys) (fp:=fs++fy)
   (by
    have q1:=aly.cut.frame (w':=jK w) (λ _ _=>rfl);have q2:=hrd.frame (w':=jK w) (λ _ _=>rfl);have:=(RdL.app q1 htl q2).more ((List.replicate (nc - (xs.length+ys.length)) (yd e)).flatten);simpa using this)
   (by
    rw[arO,arO,wv,ar8,ar8,hsz,htl,←arl,←arl]; congr 1; omega) (by omega) (by omega) (KA _) ⟨Iff.rfl,(Mw hT hd).1 hty⟩ hfp
  rw[hlx] at ahw;exact Zg (x:=.v (.one (.sl st.nxt))) hn hex ahw (Pres.newTab (ids_lt hr) ahq ahd _) (kT st (jK w) loc (xs.length+ys.length) nc) (by simp[AV.lt,V1.lt,Leaf.lt]) hk
theorem UM {e:Ty} {u u':Bool} {x:Leaf} {ys:List (den e)} {tab:List (Nat×Ent)} (h:qB st e u x=some (ys,u',tab)):u'=true->u=true:=by
 unfold qB at h;repeat' split at h
 all_goals first
  | (cases h; done)
  | (simp only[aqK,aqO] at h; obtain⟨_,rfl,_⟩:=h; simp; done)
  | (simp only[aqK,aqO] at h; obtain⟨_,h,_⟩:=h; intro hu; rw[←h] at hu; exact hu)
theorem AppOk.fp [Tags] {e:Ty} {v:Value} {ys:List (den e)} {u:Bool} {tab:List (Nat×Ent)} {ids:List Nat} {cs:List Value} {fy:List Nat} (h:AppOk P B w γ st e v ys u tab ids cs fy):
  Jv (relab ids (ZI u st.nxt) γ) (.own u) st.nxt fy:=by
 cases u with
 | true=>
  obtain⟨h1,h2⟩:=h.uniq rfl;exact⟨h1,λ b hb=>by obtain⟨i,hi,e⟩:=h2 b hb; rw[MB e hi]; rfl⟩
 | false=>
  intro b hb;rcases h.held rfl b hb with h|⟨i,hi,e⟩
  ·exact Yv h
  ·rw[MB e hi]; rfl
theorem Ff [Tags] (hT:yA P E.tys=true) {T ET n:Nat} {d:TD} {e:Ty} (hd:lk E.tys T=some d) (hty:d.ty=.sl ET e) (ah5:d.arr=none) (h:n*YQ E ET<=70368744177664):n<=70368744177664:=by
 obtain⟨hu,de,hde,hdt,hda⟩:=(yh hT hd).slice hty ah5;obtain⟨i,_,_,hb⟩:=(yh hT hde).bytes;have:YQ E ET=de.bytes:=by simp[YQ,hde]
 rw[this] at h;have:=Nat.le_mul_of_pos_right n hb;omega
theorem aeV [Tags] (hT:yA P E.tys=true) {T T2:Nat} (hT2:M6 E T2=true) {c:Call} (hc:o.op=.call c) (hb:c.callee=.builtin .append) {s x:Operand} (hargs:c.args.toList=[s,x])
  (aiJ:c.argTypes.toList=[T,T2]) {ls lx:Leaf} (hs:zC st s=some ls) (hx:zC st x=some lx) (hr:Rel0 B X A w0 γ loc st a w) (hk:L8 E T ls lx o.dst st k=some r)
  (hn:yi B X A w0 k r o.dst.toList st next):o.wp P a w next Q:=by
 obtain⟨hs1,hs2⟩:=y0 hr hs;obtain⟨hx1,hx2⟩:=y0 hr hx;unfold L8 at hk;split at hk
 ·next ET e bb ff hd=>
  split at hk
  ·-- nothing yet
   split at hk
   ·next ys u tab ajl=>
    split at hk
    ·next ahp=>
     obtain⟨ids,cs,fy,hA,_⟩:=wR (P:=P) hr hx1 ajl;exact wQ hT hd rfl rfl hT2 hc hb hargs aiJ hs1 hr hA.len hA.cells hA.size hA.rd hA.max hA.look hA.own hA.fp ahp hk hn
    ·cases hk
   ·cases hk
  ·next id=>
   split at hk
   ·next u0 lvl EE e' xs0 hl=>
    split at hk
    ·next xs alO hlv=>
     obtain⟨hEE,he,hxs⟩:=oZ alO;subst hEE;subst he;simp only at hxs;subst hxs;split at hk
     ·next ys u tab ajl=>
      split at hk
      ·next e0 hl0 _=>
       split at hk
       ·next ahp=>
        obtain⟨ids,cs,fy,hA,_⟩:=wR (P:=P) hr hx1 ajl;have huu:=UM ajl;have hid:id∉ids:=by
         intro hm;rw[hA.look,if_pos hm] at hl0;cases hl0
        have ahq:∀ j,look (erase tab id) j=if j∈id::ids then none else look st.tab j:=by
         intro j;rw[cB,hA.look];by_cases h1:j=id<;>by_cases h2:j∈ids<;>simp[h1,h2]
        have ahd:∀ i∈id::ids,jS st i:=by
         intro i hi;rcases List.mem_cons.1 hi with rfl|hi
         ·exact⟨u0,lvl,EE,e',_,hl,(zV _ _).1 hlv⟩
         ·exact hA.own i hi
        obtain⟨xb,fs,q1,q2,q3⟩:=hr.ents id _ hl;have aim:=Ff hT hd rfl rfl ahp;have hsv:a.eval s=loc id:=hs1.1
-- owners of all that the new row leads to
        have amZ:∀ b∈fy,γ b=.persist∨∃ i∈ids,γ b=.deep i:=by
         intro b hb;cases u with
         | true=>exact .inr ((hA.uniq rfl).2 b hb)
         | false=>exact hA.held rfl b hb
        have hfp:Jv (relab (id::ids) (ZI u st.nxt) γ) (.own u) st.nxt (fs++fy):=by
         cases u with
         | true=>
          have:=huu rfl;subst this;obtain⟨n1,d1⟩:=q3;obtain⟨n2,d2⟩:=hA.uniq rfl;refine⟨Z3 n1 n2 ?_,?_⟩
          ·intro b hb hb';obtain⟨i,hi,e⟩:=d2 b hb';rw[d1 b hb] at e; cases e
           exact hid hi
          ·intro b hb;rcases List.mem_append.1 hb with hb|hb
           ·rw[MB (d1 b hb) (by simp)]; rfl
           ·obtain⟨i,hi,e⟩:=d2 b hb;rw[MB e (by simp[hi])]; rfl
         | false=>
          intro b hb;rcases List.mem_append.1 hb with hb|hb
          ·cases u0 with
           | true=>rw[MB (q3.2 b hb) (by simp)]; rfl
           | false=>exact Yv (q3 b hb)
          ·rcases amZ b hb with h|⟨i,hi,e⟩
           ·exact Yv h
           ·rw[MB e (by simp[hi])]; rfl
        rcases q1 with⟨h1,h2,h3,h4⟩|⟨b,cap,arr,T',fr,h1,h2,h3,h4,h5,h6,h7,h8,h9⟩
        ·simp only[ara,and_true] at h2;subst h1; subst h4
         simp only[ar6] at hk hfp;simp only[aqJ,arv] at ahp aim;exact wQ hT hd rfl rfl hT2 hc hb hargs aiJ (by rw[hsv,h2]) hr hA.len hA.cells hA.size hA.rd (by omega) ahq ahd hfp ahp hk hn
        ·simp only[ara,and_true] at h1;have hbo:γ b=.top id:=q2 b (by simp[h8]);have hnb:b∉fs++fy:=by
          intro hm;rcases List.mem_append.1 hm with hm|hm
          ·cases u0 with
           | true=>have:=q3.2 b hm; rw[hbo] at this; cases this
           | false=>have:=q3 b hm; rw[hbo] at this; cases this
          ·rcases amZ b hm with h|⟨i,_,h⟩<;>rw[hbo] at h<;>cases h
         exact UL hT hd rfl rfl hT2 hc hb hargs aiJ (by rw[hsv,h1]) hr h2 h3 h4 h5 h7 hbo h9.1 hA.len hA.cells hA.size hA.rd ahq ahd (by simp) hfp hnb ahp (by omega) hk hn
       ·cases hk
      ·cases hk
     ·cases hk
    ·cases hk
   ·cases hk
  ·cases hk
 ·cases hk
end Ev
