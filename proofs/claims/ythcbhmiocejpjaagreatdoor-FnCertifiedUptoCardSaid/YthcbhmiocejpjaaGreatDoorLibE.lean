/- The evaluator of the own library, part 5: its words, its soundness. Conditions: none of its own. -/
import Derived.Test.YthcbhmiocejpjaaGreatDoorLibD
set_option linter.unusedSimpArgs false
set_option linter.unusedVariables false
namespace Ev
open Go
variable {P:Program} {a:Act} {w:World} {Q:Exit->Act->World->Prop}
variable {E:Env} {B:Nat} {X:List Nat} {A:Ctx} {w0:World} {st:St} {R:Type} {r:R}
def JZ (l:List Oper):List Nat:=l.filterMap (·.dst)
theorem Ot {ops:Array Oper} {tmps:Array Value} {j d:Nat} (hd:(ops.toList[j]?).bind (·.dst)=some d) {b:Bool} (hlt:d<tmps.size) (hv:tmps.getD d undef=.bool b):yielded ops tmps j=some b:=by
 have h1:(ops[j]?).bind (·.dst)=some d:=by rw[←arJ]; exact hd
 have h2:tmps[d]?=some (.bool b):=by
  rw[arm] at hv;rw[ars hlt] at hv ⊢;simpa using hv
 simp[yielded,h1,h2]
theorem Ou {ops:Array Oper} {tmps:Array Value} {j d:Nat} (hd:(ops.toList[j]?).bind (·.dst)=some d) (hlt:d<tmps.size) (hv:tmps.getD d undef=undef):yielded ops tmps j=none:=by
 have h1:(ops[j]?).bind (·.dst)=some d:=by rw[←arJ]; exact hd
 have h2:tmps[d]?=some undef:=by
  rw[arm] at hv;rw[ars hlt] at hv ⊢;simpa using hv
 simp[yielded,h1,h2,undef]
theorem Rel.reput [Tags] {d:Nat} {x:AV} (h:Rel B X A w0 st a w) (hx:∀ γ loc,Rel0 B X A w0 γ loc st a w->AVOk loc x (a.tmps.getD d undef)/\x.lt st.nxt):Rel B X A w0 (st.put (some d) x) a w:=by
 obtain⟨γ,loc,hr⟩:=h;obtain⟨h1,h2⟩:=hx γ loc hr;refine⟨γ,loc,{ hr with size:=by simp[St.put,hr.size],slots := ?_,slt := ?_,ents:=hr.ents,elt:=hr.elt,pins:=hr.pins,dlab:=hr.dlab,glob:=hr.glob,rtag:=hr.rtag,dpc:=hr.dpc }⟩
 ·intro t y hy;rcases getElem?_set_ok hy with⟨rfl,rfl⟩|hy
  ·exact h1
  ·exact hr.slots t y hy
 ·intro t y hy;rcases getElem?_set_ok hy with⟨rfl,rfl⟩|hy
  ·exact h2
  ·exact hr.slt t y hy
theorem Rel.putUndef [Tags] {dst:Option Nat} (h:Rel B X A w0 st a w):Rel B X A w0 (st.put dst (.tup [])) (a.put dst undef) w:=by
 obtain⟨γ,loc,hr⟩:=h;exact⟨γ,loc,hr.put dst (ou loc) (by simp[AV.lt])⟩
theorem Pres.cat [Tags] {D1 D2 D:List Nat} {s1 s2 s3:St} (h1:Pres D1 s1 s2) (h2:Pres D2 s2 s3) (hD1:∀ t∈D1,t∈D) (hD2:∀ t∈D2,t∈D):Pres D s1 s3:=
 (h1.trans h2).mono λ t ht=>(List.mem_append.1 ht).elim (hD1 t) (hD2 t)
theorem mW [Tags] (h:Rel B X A w0 st a w) {d:Nat} {x:AV} (hx:st.slots[d]?=some x):d<a.tmps.size:=by
 obtain⟨γ,loc,hr⟩:=h;have:d<st.slots.length:=by
  rcases Nat.lt_or_ge d st.slots.length with h|h
  ·exact h
  ·simp[ar9 h] at hx
 rw[hr.size] at this;exact this
theorem Ib [Tags] (h:Rel B X A w0 st a w) {d:Nat} {x:Bool} (hx:st.slots[d]?=some (.v (.one (.b x)))):a.tmps.getD d undef=.bool x:=by
 obtain⟨γ,loc,hr⟩:=h;exact hr.slots d _ hx
theorem Ia [Tags] (h:Rel B X A w0 st a w) {d:Nat} (hx:st.slots[d]?=some (.tup [])):a.tmps.getD d undef=undef:=by
 obtain⟨γ,loc,hr⟩:=h;obtain⟨vs,e,h2⟩:=hr.slots d _ hx;cases vs with
 | nil=>exact e
 | cons _ _=>exact h2.elim
theorem Rd.tags [Tags] {w:World}:∀ {t:Ty} {v:den t} {cs fp},Rd w t v cs fp->ZG Tags.post t=false->∀ b∈fp,∀ arr fr,w.heap[b]?≠some (.cells arr Tags.post fr)
 | .i64,_,_,_,h,_=>by simp[h.2.1]
 | .u8,_,_,_,h,_=>by simp[h.2]
 | .bool,_,_,_,h,_=>by simp[h.2]
 | .str,_,_,_,h,_=>by simp[h.2.1]
 | .sl E e,xs,cs,fp,h,hm=>by
  obtain⟨a,n,c,h1,h2,h3,h3',h4⟩:=h;simp only[ZG,arV] at hm;rcases h4 with h4|⟨b,o,arr,T,fr,fp',ha,hb,hfp,hl,ht,_⟩
  ·simp[h4.2.1]
  ·intro c hc;rw[hfp] at hc;rcases List.mem_cons.1 hc with rfl|hc
   ·intro arr' fr' h';rw[hb] at h';cases h';exact (ZR _ _).1 hm.1 (ht.1 rfl)
   ·obtain⟨x,cs',f,hR,hcf⟩:=RdL.mem hl c hc;exact Rd.tags hR hm.2 c hcf
 | .pair a b,v,cs,fp,h,hm=>by
  obtain⟨c1,c2,f1,f2,h1,h2,h3,h4⟩:=h;simp only[ZG,arV] at hm;intro c hc;rw[h2] at hc;rcases List.mem_append.1 hc with hc|hc
  ·exact h3.tags hm.1 c hc
  ·exact h4.tags hm.2 c hc
theorem RdL.tags [Tags] {w:World} {e:Ty} {xs:List (den e)} {cs fp} (h:RdL (Rd w e) xs cs fp) (hm:ZG Tags.post e=false):∀ b∈fp,∀ arr fr,w.heap[b]?≠some (.cells arr Tags.post fr):=by
 intro b hb;obtain⟨x,cs',f,hR,hcf⟩:=RdL.mem h b hb;exact hR.tags hm b hcf
theorem RdO.tags [Tags] {w:World}:∀ {t:Ty} {v:den t} {cs xs fs},RdO w t v cs xs fs->ZG Tags.post t=false->∀ b∈fs,∀ arr fr,w.heap[b]?≠some (.cells arr Tags.post fr)
 | .i64,_,_,_,_,h,_=>by simp[h.2.2]
 | .u8,_,_,_,_,h,_=>by simp[h.2.2]
 | .bool,_,_,_,_,h,_=>by simp[h.2.2]
 | .str,_,_,_,_,h,_=>by simp[h.2.2]
 | .sl E e,v,cs,xs,fs,h,hm=>by
  simp only[ZG,arV] at hm;rcases h with⟨h1,h2,h3,h4⟩|⟨b,cap,arr,T,fr,h1,h2,h3,h4,h5,h6,h7,h8⟩
  ·simp[h4]
  ·exact h7.tags hm.2
 | .pair a b,v,cs,xs,fs,h,hm=>by
  obtain⟨c1,c2,x1,x2,f1,f2,h1,h2,h3,h4,h5⟩:=h;simp only[ZG,arV] at hm;intro c hc;rw[h3] at hc;rcases List.mem_append.1 hc with hc|hc
  ·exact h4.tags hm.1 c hc
  ·exact h5.tags hm.2 c hc
theorem xd {p h:Nat}:∀ {tab:List (Nat×Ent)},fB p h tab=true->∀ {i:Nat} {e:Ent},look tab i=some e->i≠h->o6 p e=true
 | (k,e0)::r,hc,i,e,hl,hi=>by
  simp only[fB,aqF,arj] at hc;simp only[look] at hl;split at hl
  ·next hk=>
   cases hl;have:=(zV _ _).1 hk;subst this;rcases hc.1 with hh|hh
   ·exact absurd ((zV _ _).1 hh) hi
   ·exact hh
  ·exact xd hc.2 hl hi
 | [],_,i,e,hl,_=>by cases hl
theorem Rel.thaw [Tags] {p:Nat} (hp:p=Tags.post) (hA:A.dl=[]/\A.dps=[]) (htg:A.tg=true) (h:Rel B X A w0 st a w) {st':St} (ht:wa p st=some st'):Rel B X A w0 st' a w/\Pres [] st st':=by
 obtain⟨γ,loc,hr⟩:=h;unfold wa at ht;split at ht
 ·cases ht
 next hid aqk=>
 split at ht
 ·next lvl E e xs hl=>
  split at ht
  ·next hc=>
   cases ht;simp only[aqF,arc] at hc;obtain⟨⟨⟨c1,c2⟩,c3⟩,c4⟩:=hc;have c1:=(zV _ _).1 c1;have c3:=(zV _ _).1 c3;subst c1;subst hp;have hp:Pres [] st { st with tab:=yE st.tab hid (.arr (.own false) lvl Tags.post e xs)}:=by
    refine⟨rfl,Nat.le_refl _,λ id e' he hpr => ?_,λ _ _=>rfl,rfl⟩;simp only[ZZ];split
    ·next hi=>subst hi; rw[hl] at he; cases he; exact absurd c3 hpr
    ·exact he
   refine⟨?_,hp⟩;obtain⟨fp,hrd,hf⟩:=hr.ents hid _ hl;have hlk:∀ {i:Nat} {e':Ent},look (yE st.tab hid (.arr (.own false) lvl Tags.post e xs)) i=some e'->(i=hid/\e'=.arr (.own false) lvl Tags.post e xs)∨(i≠hid/\look st.tab i=some e'):=by
    intro i e' hi;rw[ZZ] at hi;split at hi
    ·next h=>subst h; rw[hl] at hi; cases hi; exact .inl ⟨rfl,rfl⟩
    ·next h=>exact .inr ⟨h,hi⟩
   have ajo:∀ (i:Nat) (e':Ent),look (yE st.tab hid (.arr (.own false) lvl Tags.post e xs)) i=some e'->e'.lt st.nxt/\i<st.nxt:=by
    intro i e' hi;rcases hlk hi with⟨rfl,rfl⟩|⟨_,hi⟩
    ·exact⟨trivial,(hr.elt i _ hl).2⟩
    ·exact hr.elt i e' hi
   have hpf:∀ b∈fp,γ b=.persist:=λ b hb=>(hf b hb).resolve_right λ h=>by cases h.1
   obtain⟨ad,n,c,h1,h2,h3,h3',h4⟩:=hrd;simp only[ara,and_true] at h1;rcases h4 with⟨h4,h5,h6⟩|⟨b,o,arr,T,fr,fp',ha,hb,hfp,hrl,apO,apP⟩
   ·obtain⟨rfl,rfl⟩:=h6 rfl;refine⟨γ,loc,{ hr with ents := ?_,elt:=ajo,dlab:=λ q hq=>by rw[hA.1] at hq; simp at hq }⟩
    intro i e' hi;rcases hlk hi with⟨rfl,rfl⟩|⟨_,hi⟩
    ·exact⟨[],[],.inl ⟨h4,by rw[h1,h2,h4]; rfl,rfl,rfl⟩,by simp,λ b hb=>by simp at hb⟩
    ·exact hr.ents i e' hi
   ·obtain⟨hsz,rfl,hcap,hfr⟩:=apP rfl;have hT:T=Tags.post:=apO.2 rfl;subst hT;have hgb:γ b=.persist:=hpf b (by simp[hfp]);have hne:∀ c',(∀ arr fr,w.heap[c']?≠some (.cells arr Tags.post fr))->c'≠b:=λ c' h e=>by subst e; exact h _ _ hb
    have hold:∀ b',b'<B->b'∉X->b'≠b:=by
     rintro b' h1 h2 rfl;rcases hr.old b' h1 h2 with h|⟨_,h⟩
     ·rw[hgb] at h; cases h
     ·have:=hr.rtag htg b' h arr fr;rw[←hr.keeps.block b' h1 h2] at this;exact this hb
    let γ':Nat->Own:=λ b'=>if b'=b then .top hid else γ b'
    have hg:∀ {b'},b'≠b->γ' b'=γ b':=λ h=>by simp[γ',h]
    have hgo:∀ {b':Nat} {x:Own},γ b'=x->x ≠ .persist->γ' b'=x:=by
     intro b' x h hx;rw[hg (λ e=>by subst e; rw[hgb] at h; exact hx h.symm)]
     exact h
    refine⟨γ',loc,{ hr with ents := ?_,elt:=ajo,dlab:=λ q hq=>by rw[hA.1] at hq; simp at hq,unf := ?_,old := ?_,dpc:=λ q hq=>by rw[hA.2] at hq; simp at hq }⟩
    ·intro b' hb';by_cases e:b'=b
     ·subst e; exact Unfr.of hb hfr
     ·rw[hg e] at hb'; exact hr.unf b' hb'
    ·intro b' h1 h2;rw[hg (hold b' h1 h2)];exact hr.old b' h1 h2
    ·intro i e' hi;rcases hlk hi with⟨rfl,rfl⟩|⟨hih,hi⟩
     ·refine⟨[b],fp',.inr ⟨b,c,arr,Tags.post,fr,by rw[h1,h2,ha],hb,hfr,hcap,by omega,by omega,by simpa using hrl,rfl,Iff.rfl,λ _=>hsz⟩,by simp[γ'],λ b' hb' => ?_⟩;rw[hg (hne b' (hrl.tags c2 b' hb'))];exact hpf b' (by simp[hfp,hb'])
     ·have hcl:=xd c4 hi hih;have hE:=hr.ents i e' hi;cases e' with
      | box l0 cells=>
       obtain⟨b0,arr0,T0,fr0,k1,k2,k3,k4,k5⟩:=hE;exact⟨b0,arr0,T0,fr0,k1,k2,k3,hgo k4 (by simp),k5⟩
      | cst cells=>cases hcl
      | arr kd l0 E0 e0 ys=>
       simp only[o6,aqF,arc] at hcl;have hm:ZG Tags.post (.sl E0 e0)=false:=by simp[ZG,hcl.1,hcl.2]
       cases kd with
       | imm t=>
        obtain⟨fq,k1,k2⟩:=hE;exact⟨fq,k1,λ b' hb'=>by rw[hg (hne b' (k1.tags hm b' hb'))]; exact k2 b' hb'⟩
       | lent=>
        obtain⟨fq,k1,k2,k3⟩:=hE;exact⟨fq,k1,k2,λ b' hb'=>hgo (k3 b' hb') (by simp)⟩
       | own u=>
        obtain⟨xq,fq,k1,k2,k3⟩:=hE;refine⟨xq,fq,k1,λ b' hb'=>hgo (k2 b' hb') (by simp),?_⟩;cases u with
        | true=>exact⟨k3.1,λ b' hb'=>hgo (k3.2 b' hb') (by simp)⟩
        | false=>exact λ b' hb'=>by rw[hg (hne b' (k1.tags hm b' hb'))]; exact k3 b' hb'
  ·cases ht
 ·cases ht
theorem afq [Tags] {o:Oper} {next:Act->World->Prop} {k:St->Option R} (hE:Zx P A.gl E) (hA:A.dl=[]/\A.dps=[]) (hTw:E.thaws=[]∨(A.tg=true/\∀ x∈E.thaws,x.2=Tags.post)) (ahB:Rel B X A w0 st a w) (hk:pn E o st k=some r)
  (hn:yi B X A w0 k r o.dst.toList st next):o.wp P a w next Q:=by
 unfold pn at hk;split at hk
 ·exact dO hE ahB hk hn
 ·next p hp=>
  have hp':A.tg=true/\p=Tags.post:=by
   rcases hTw with h|⟨h1,h2⟩
   ·simp[v8,h] at hp
   ·refine⟨h1,?_⟩;unfold v8 at hp;split at hp
    ·cases hp
    ·next f p' r' he=>
     have:=h2 (f,p') (by rw[he]; simp)
     repeat' split at hp
     all_goals first|(cases hp; exact this)|cases hp
  refine dO hE ahB hk ?_;intro st' hk' hpr a' w' hr';obtain⟨s2,h1,h2⟩:=Option.bind_eq_some_iff.1 hk';obtain⟨hr2,hp2⟩:=hr'.thaw hp'.2 hA hp'.1 h1;exact hn s2 h2 (hpr.cat hp2 (λ _ h=>h) (λ _ h=>by simp at h)) a' w' hr2
theorem xA (o:Oper) (l:List Oper):JZ (o::l)=o.dst.toList++JZ l:=by
 simp only[JZ,arY];cases o.dst<;>rfl
theorem Ij [Tags] (hE:Zx P A.gl E) (hA:A.dl=[]/\A.dps=[]) (hTw:E.thaws=[]∨(A.tg=true/\∀ x∈E.thaws,x.2=Tags.post)) {ops:Array Oper}:∀ (l:List Nat) (os:List Oper) (st:St) (k:St->Option R) (a:Act) (w:World) (D:List Nat),os=l.filterMap (ops[·]?)->(∀ i∈l,i<ops.size)->
  evReg E ops.toList os st k=some r->Rel B X A w0 st a w->
  (∀ t∈JZ os,t∈D)->(∀ o∈os,∀ j want d,o.guard=some (j,want)->(ops.toList[j]?).bind (·.dst)=some d->d∈D)->
  (∀ st',k st'=some r->Pres D st st'->∀ a' w',Rel B X A w0 st' a' w'->Q .normal a' w')->wpOps P ops Q l a w
 | [],os,st,k,a,w,D,hos,hl,hk,hr,hD,hG,hQ=>by
  simp at hos;subst hos;exact hQ st hk (Pres.refl _ _) a w hr
 | i::l,os,st,k,a,w,D,hos,hl,hk,hr,hD,hG,hQ=>by
  have hi:i<ops.size:=hl i (by simp);have ajr:ops[i]?=some ops[i]:=Array.getElem?_eq_getElem hi;rw[arY,ajr] at hos;simp only at hos;generalize hoo:ops[i]=o at ajr hos;subst hos;have ak8:∀ t∈o.dst.toList,t∈D:=λ t ht=>hD t (by rw[xA]; exact List.mem_append_left _ ht)
  have hD':∀ t∈JZ (l.filterMap (ops[·]?)),t∈D:=λ t ht=>hD t (by rw[xA]; exact List.mem_append_right _ ht)
  have hG':∀ o'∈l.filterMap (ops[·]?),∀ j want d,o'.guard=some (j,want)->(ops.toList[j]?).bind (·.dst)=some d->d∈D:=λ o' ho'=>hG o' (by simp[ho']);have ah3:∀ (st1:St),Pres D st st1->∀ a1 w1,Rel B X A w0 st1 a1 w1->evReg E ops.toList (l.filterMap (ops[·]?)) st1 k=some r->wpOps P ops Q l a1 w1:=by
   intro st1 hp a1 w1 hr1 hk1;exact Ij hE hA hTw l _ st1 k a1 w1 D rfl (λ j hj=>hl j (by simp[hj])) hk1 hr1 hD' hG' (λ st' hk' hp'=>hQ st' hk' (hp.cat hp' (λ _ h=>h) (λ _ h=>h)))
  simp only[wpOps,ajr];rw[evReg.eq_def] at hk;simp only at hk;split at hk
  ·next hg=>
   have hw:Region.wanted o (yielded ops a.tmps)=true:=by simp[Region.wanted,hg]
   rw[if_pos hw];refine .inl (afq hE hA hTw hr hk ?_);intro st' hk' hp a' w' hr';exact ah3 st' (hp.mono ak8) a' w' hr' hk'
  ·next j want hg=>
   split at hk
   ·cases hk
   ·next d hd=>
    have hdD:d∈D:=hG o (by simp) j want d hg hd;split at hk
    ·next x hx=>
     have hlt:=mW hr hx;have hy:yielded ops a.tmps j=some x:=Ot hd hlt (Ib hr hx);have hre:∀ y,y=x->Rel B X A w0 (st.put (some d) (.v (.one (.b y)))) a w:=by
      rintro y rfl;exact hr.reput (λ γ loc h=>⟨h.slots d _ hx,trivial⟩)
     have hpr:∀ y:Bool,Pres D st (st.put (some d) (.v (.one (.b y)))):=λ y=>(Pres.put st (some d) _).mono (by simpa using hdD);cases x with
     | true=>
      simp only[aqE] at hk;cases want with
      | true=>
       have hw:Region.wanted o (yielded ops a.tmps)=true:=by simp[Region.wanted,hg,hy]
       simp only[hw,if_true];refine .inl (dO hE (hre true rfl) hk ?_);intro st' hk' hp a' w' hr';exact ah3 st' ((hpr true).cat hp (λ _ h=>h) ak8) a' w' hr' hk'
      | false=>
       have hw:Region.wanted o (yielded ops a.tmps)=false:=by simp[Region.wanted,hg,hy]
       simp only[hw,ar3,if_false];exact ah3 _ ((hpr true).cat (Pres.put _ o.dst _) (λ _ h=>h) ak8) _ _ (hre true rfl).putUndef hk
     | false=>
      simp only[aqD] at hk;cases want with
      | true=>
       have hw:Region.wanted o (yielded ops a.tmps)=false:=by simp[Region.wanted,hg,hy]
       simp only[hw,ar3,if_false];exact ah3 _ ((hpr false).cat (Pres.put _ o.dst _) (λ _ h=>h) ak8) _ _ (hre false rfl).putUndef hk
      | false=>
       have hw:Region.wanted o (yielded ops a.tmps)=true:=by simp[Region.wanted,hg,hy]
       simp only[hw,if_true];refine .inl (dO hE (hre false rfl) hk ?_);intro st' hk' hp a' w' hr';exact ah3 st' ((hpr false).cat hp (λ _ h=>h) ak8) a' w' hr' hk'
    ·next hx=>
     have hlt:=mW hr hx;have hy:yielded ops a.tmps j=none:=Ou hd hlt (Ia hr hx);have hw:Region.wanted o (yielded ops a.tmps)=false:=by simp[Region.wanted,hg,hy]
     simp only[hw,ar3,if_false];exact ah3 _ ((Pres.put st o.dst _).mono ak8) _ _ hr.putUndef hk
    ·cases hk
termination_by l=>l.length
theorem EU (ops:Array Oper):∀ n,n<=ops.size->(List.range n).filterMap (ops[·]?)=ops.toList.take n
 | 0,_=>by simp
 | n+1,h=>by
  have hn:n<ops.size:=h;rw[asE,List.filterMap_append,EU ops n (by omega),asa];simp[ars hn]
theorem abu [Tags] (ops:Array Oper):(List.range ops.size).filterMap (ops[·]?)=ops.toList:=by
 rw[EU ops ops.size (arp _),←ary,arF]
theorem afr [Tags] (hE:Zx P A.gl E) (hA:A.dl=[]/\A.dps=[]) (hTw:E.thaws=[]∨(A.tg=true/\∀ x∈E.thaws,x.2=Tags.post)) {id:Nat} {ops:Array Oper} {k:St->Option R} (hk:evReg E ops.toList ops.toList st k=some r) (hr:Rel B X A w0 st a w)
  (hQ:∀ st',k st'=some r->Pres (JZ ops.toList) st st'->∀ a' w',Rel B X A w0 st' a' w'->Q .normal a' w'):(Code.region id ops false).wp P Q a w:=by
 refine wp_region (Ij hE hA hTw (List.range ops.size) ops.toList st k a w (JZ ops.toList) (abu ops).symm (λ i hi=>List.mem_range.1 hi) hk hr (λ _ h=>h) ?_ hQ);intro o _ j want d _ hd;cases hj:ops.toList[j]? with
 | none=>rw[hj] at hd; cases hd
 | some o'=>
  rw[hj] at hd;exact List.mem_filterMap.2 ⟨o',List.mem_of_getElem? hj,hd⟩
theorem kL (st:St) (lo:Nat) (id:Nat):look (lower st lo).tab id=(look st.tab id).map (j4 st.lvl lo):=by
 unfold lower;simp only;generalize st.tab=t;induction t with
 | nil=>rfl
 | cons x t ih=>
  obtain⟨k,e⟩:=x;simp only[aqZ,look];cases Nat.beq k id with
  | true=>rfl
  | false=>exact ih
theorem xG [Tags] {γ:Nat->Own} {loc:Nat->Value} {w:World} {id hi lo:Nat} {e:Ent} (h:EntOk γ loc w id e):EntOk γ loc w id (j4 hi lo e):=by
 cases e with
 | box lvl cs=>simp only[j4]; split<;>exact h
 | cst cs=>exact h
 | arr k lvl E e xs=>simp only[j4]; split<;>(cases k<;>exact h)
theorem BA {n hi lo:Nat} {e:Ent} (h:e.lt n):(j4 hi lo e).lt n:=by
 cases e with
 | box lvl cs=>simp only[j4]; split<;>exact h
 | cst cs=>exact h
 | arr k lvl E e xs=>simp only[j4]; split<;>trivial
variable {E:Env} {st:St} {R:Type} {k:St->Option R} {r:R}
theorem Wu {t:Ty} {p:Leaf} {f:V1->St->Option R} (h:K9 t p st f=some r):∃ x s,(∀ {R':Type} (f':V1->St->Option R'),K9 t p st f'=f' x s)/\f x s=some r:=by
 unfold K9 at h;split at h
 ·next id off=>
  split at h
  ·next hl=>
   split at h
   ·next x h1 h2=>exact⟨x,st,λ f'=>by simp only[K9,hl,h1,h2],h⟩
   ·cases h
  ·next hl=>
   split at h
   ·next x h1 h2=>exact⟨x,st,λ f'=>by simp only[K9,hl,h1,h2],h⟩
   ·cases h
  ·cases h
 ·next id ix esz off=>
  split at h
  ·next kd lvl EE e xs hl=>
   split at h
   ·next v h1 h2=>
    split at h;next ls es j hsp=>
     split at h
     ·next xv hmk=>exact⟨xv,_,λ f'=>by simp only[K9,hl,h1,h2,hsp,hmk],h⟩
     ·cases h
   ·cases h
  ·cases h
 ·cases h
theorem Wx {T:Ty} {x:Leaf} {lo hi:Option Leaf} {f:Leaf->St->Option R} (h:J1 T x lo hi st f=some r):∃ l s,(∀ {R':Type} (f':Leaf->St->Option R'),J1 T x lo hi st f'=f' l s)/\f l s=some r:=by
 unfold J1 at h;split at h
 ·next l0 n hn0=>
  split at h
  ·next m hm=>
   split at h
   ·next hb=>exact⟨_,_,λ f'=>by simp only[J1,hn0,hm,if_pos hb],h⟩
   ·cases h
  ·cases h
 ·next ET e n hn0=>
  split at h
  ·next m hm=>
   split at h
   ·next hb=>exact⟨_,_,λ f'=>by simp only[J1,hn0,hm,if_pos hb],h⟩
   ·cases h
  ·cases h
 ·next id ET e' n hn0=>
  split at h
  ·next kd lvl EE e xs hl=>
   split at h
   ·next m hm he=>
    split at h
    ·next hb=>
     split at h
     ·split at h
      ·cases h
      ·next hlv=>exact⟨_,_,λ f'=>by simp only[J1,hn0,hl,hm,he,if_pos hb,hlv],h⟩
     ·split at h
      ·next hlv=>exact⟨_,_,λ f'=>by simp only[J1,hn0,hl,hm,he,if_pos hb,hlv],h⟩
      ·cases h
     ·split at h
      ·next hlv=>exact⟨_,_,λ f'=>by simp only[J1,hn0,hl,hm,he,if_pos hb,hlv],h⟩
      ·cases h
     ·cases h
    ·cases h
   ·cases h
  ·cases h
 ·cases h
theorem Ws {td ts:Ty} {x:Leaf} {f:Leaf->List (Nat×Ent)->Nat->Option R} (h:Nc td ts st x f=some r):
  ∃ l t j,(∀ {R':Type} (f':Leaf->List (Nat×Ent)->Nat->Option R'),Nc td ts st x f'=f' l t j)/\f l t j=some r:=by
 unfold Nc at h;split at h
 ·exact⟨_,_,_,λ f'=>rfl,h⟩
 ·exact⟨_,_,_,λ f'=>rfl,h⟩
 ·exact⟨_,_,_,λ f'=>rfl,h⟩
 ·exact⟨_,_,_,λ f'=>rfl,h⟩
 ·exact⟨_,_,_,λ f'=>rfl,h⟩
 ·exact⟨_,_,_,λ f'=>rfl,h⟩
 ·exact⟨_,_,_,λ f'=>rfl,h⟩
 ·split at h
  ·next hl=>exact⟨_,_,_,λ f'=>by simp only[Nc,hl],h⟩
  ·cases h
 ·cases h
theorem Wr {cf:PF} {args:List AV} {dst:Option Nat} (h:qO cf args dst st k=some r):∃ s,qO cf args dst st some=some s/\k s=some r:=by
 unfold qO at h ⊢;split at h
 ·cases h
 ·next g hg=>
  split at h
  ·cases h
  ·next oids ho=>
   split at h
   ·cases h
   ·next hm=>
    obtain⟨outs,ahQ,h⟩:=Option.bind_eq_some_iff.1 h;split at h
    ·cases h
    ·next b hb=>
     cases b with
     | false=>
      simp only[aqD] at h;exact⟨_,by simp only[hg,ho,hm,ahQ,aqC,hb,aqD],h⟩
     | true=>
      simp only[aqE] at h;split at h
      ·cases h
      ·next tab j rs aia=>
       split at h
       ·cases h
       ·next xs es j' ahO=>exact⟨_,by simp only[hg,ho,hm,ahQ,aqC,hb,aqE,aia,ahO],h⟩
theorem Wt {cf:PF} {args:List AV} {dst:Option Nat} (h:qQ cf args dst st k=some r):∃ s,qQ cf args dst st some=some s/\k s=some r:=by
 unfold qQ at h ⊢;split at h
 ·cases h
 ·next g hg=>
  split at h
  ·cases h
  ·next oids ho=>
   split at h
   ·cases h
   ·next hm=>
    obtain⟨outs,ahQ,h⟩:=Option.bind_eq_some_iff.1 h;split at h
    ·cases h
    ·next xs es j' ahO=>exact⟨_,by simp only[hg,ho,hm,ahQ,aqC,ahO],h⟩
theorem pj {pf:PF} {args:List AV} {dst:Option Nat} (h:Nb pf args dst st k=some r):∃ s,Nb pf args dst st some=some s/\k s=some r:=by
 unfold Nb at h ⊢;split at h
 ·cases h
 ·next g hg=>
  split at h
  ·cases h
  ·next oids aiE=>
   split at h
   ·cases h
   ·next aj7=>
    obtain⟨outs,ahQ,h⟩:=Option.bind_eq_some_iff.1 h;split at h
    ·cases h
    ·next tab j rs aia=>
     split at h
     ·cases h
     ·next xs es j' ahO=>exact⟨_,by simp only[hg,aiE,aj7,ahQ,aqC,aia,ahO],h⟩
theorem Wq [Tags] {f:Nat} {args:List AV} {dst:Option Nat} (h:qN E f args dst st k=some r):∃ s,qN E f args dst st some=some s/\k s=some r:=by
 unfold qN at h ⊢;split at h
 ·next hn=>
  split at h
  ·next hnn=>
   split at h
   ·next hcn=>
    split at h
    ·cases h
    ·next cf hcf=>
     obtain⟨s,e1,e2⟩:=Wt h;exact⟨s,by simp only[hnn,hcn,hcf,e1],e2⟩
   ·next cf hcf=>
    obtain⟨s,e1,e2⟩:=Wr h;exact⟨s,by simp only[hnn,hcf,e1],e2⟩
  ·next nf hnf=>
   unfold fO at h ⊢;split at h
   ·cases h
   ·next g hg=>
    split at h
    ·cases h
    ·next hck=>
     obtain⟨v,hv,h⟩:=Option.bind_eq_some_iff.1 h;split at h;next ls es j hsp=>exact⟨_,by simp only[hnf,hg,hck,hv,aqC,hsp],h⟩
 ·next pf hpf=>
  split at h
  ·next ha=>
   obtain⟨s,e1,e2⟩:=pj h;exact⟨s,by simp only[ha,e1],e2⟩
  ·next qf hqf=>
   unfold fL at h ⊢;split at h
   ·cases h
   ·next g hg=>
    split at h
    ·cases h
    ·next hrd=>
     cases ahQ:qf.fn g.vs with
     | none=>
      rw[ahQ] at h;obtain⟨s,e1,e2⟩:=pj h;exact⟨s,by simp only[hqf,hg,hrd,ahQ,Me,aqD,e1],e2⟩
     | some outs=>
      rw[ahQ] at h;simp only[Me,aqC] at h;cases hgo:oS qf.rets (Zk qf.rets qf.params outs) with
      | false=>
       rw[hgo] at h;obtain⟨s,e1,e2⟩:=pj h;exact⟨s,by simp only[hqf,hg,hrd,ahQ,Me,hgo,aqD,e1],e2⟩
      | true=>
      rw[hgo] at h;simp only[aqE] at h;split at h
      ·cases h
      ·next x hx=>exact⟨_,by simp only[hqf,hg,hrd,ahQ,aqC,Me,hgo,aqE,hx],h⟩
theorem Wo {T:Nat} {s x:Leaf} {dst:Option Nat} (h:L8 E T s x dst st k=some r):∃ s',L8 E T s x dst st some=some s'/\k s'=some r:=by
 unfold L8 at h;split at h
 ·next ET e bb ff hd=>
  split at h
  ·split at h
   ·next ys u tab ajl=>
    split at h
    ·next ahp=>exact⟨_,by unfold L8; simp only[hd,ajl,if_pos ahp],h⟩
    ·cases h
   ·cases h
  ·next id=>
   split at h
   ·next u0 lvl EE e' xs0 hl=>
    split at h
    ·next xs alO hlv=>
     split at h
     ·next ys u tab ajl=>
      split at h
      ·next e0 hl0 hne=>
       split at h
       ·next ahp=>exact⟨_,by unfold L8; simp only[hd,hl,alO,hlv,ajl,hl0,hne,if_pos ahp],h⟩
       ·cases h
      ·cases h
     ·cases h
    ·cases h
   ·cases h
  ·cases h
 ·cases h
theorem Wp {op:BinOp} {x y:AV} {l:Leaf} (h:jp (R:=Leaf) op x y some=some l) {R':Type} (f:Leaf->Option R'):jp op x y f=f l:=by
 unfold jp at h ⊢;split at h
 ·cases op<;>first|(simp only[aqK] at h; rw[h]; done)|(cases h; done)|(simp only at h ⊢; split at h<;>first|(cases h; done)|(rename_i hz; simp only[aqK] at h; rw[if_neg hz,h]))
 ·cases op<;>first|(simp only[aqK] at h; rw[h]; done)|(cases h; done)
 ·cases op<;>first|(simp only[aqK] at h; rw[h]; done)|(cases h; done)
 ·cases op<;>first|(simp only[aqK] at h; rw[h]; done)|(cases h; done)|(simp only at h ⊢; split at h<;>first|(cases h; done)|(rename_i hz; simp only[aqK] at h; rw[if_pos hz,h]))
 ·split at h
  ·next h1=>first|(simp only[aqK] at h; rw[h]; done)|(rw[h1]; simp only[aqK] at h; rw[h])
  ·next h1=>first|(simp only[aqK] at h; rw[h]; done)|(rw[h1]; simp only[aqK] at h; rw[h])
  ·cases h
 ·cases h
theorem Wv [Tags] {o:Oper} (h:yk E o st k=some r):∃ s,yk E o st some=some s/\k s=some r:=by
 unfold yk at h;split at h
 ·next x ho=>
  split at h
  ·next v hv=>exact⟨_,by unfold yk; simp only[ho,hv],h⟩
  ·cases h
 ·next x ho=>
  split at h
  ·next v hv=>exact⟨_,by unfold yk; simp only[ho,hv],h⟩
  ·cases h
 ·next c x y ho=>
  split at h
  ·next z hz=>
   cases z with
   | true=>
    simp only[aqE] at h;split at h
    ·next v hv=>exact⟨_,by unfold yk; simp only[ho,hz,aqE,hv],h⟩
    ·cases h
   | false=>
    simp only[aqD] at h;split at h
    ·next v hv=>exact⟨_,by unfold yk; simp only[ho,hz,aqD,hv],h⟩
    ·cases h
  ·cases h
 ·next T ho=>
  split at h
  ·next ET e b f n hd=>
   split at h
   ·next hn0=>exact⟨_,by unfold yk; simp only[ho,hd,hn0],h⟩
   ·cases h
  ·next d hd=>
   split at h
   ·cases h
   ·next hne ah5=>
    refine⟨_,?_,h⟩;unfold yk;simp only[ho,hd]
    try simp only[ah5]
  ·cases h
 ·next T x ho=>
  split at h
  ·next d ls hd hx=>exact⟨_,by unfold yk; simp only[ho,hd,hx],h⟩
  ·cases h
 ·next T ps ho=>
  split at h
  ·next d hd=>
   split at h
   ·next ls hp hf=>exact⟨_,by unfold yk; simp only[ho,hd,hp,hf],h⟩
   ·cases h
  ·cases h
 ·next T n ps ho=>
  split at h
  ·next ET e b f hd=>
   split at h
   ·next vs ls hel hc=>
    split at h
    ·next u tab ht=>exact⟨_,by unfold yk; simp only[ho,hd,hel,hc,ht],h⟩
    ·cases h
   ·cases h
  ·cases h
 ·next T x ho=>
  split at h
  ·next d p hd hp=>
   split at h
   ·next ah5=>
    obtain⟨x',s,e1,e2⟩:=Wu h;exact⟨_,by unfold yk; simp only[ho,hd,hp,ah5,e1],e2⟩
   ·cases h
  ·cases h
 ·next T x y ho=>
  split at h
  ·next d p ls hd hp hl=>
   split at h
   ·next st' ah5 hs=>exact⟨_,by unfold yk; simp only[ho,hd,hp,hl,ah5,hs],h⟩
   ·cases h
  ·cases h
 ·next x ho=>
  split at h
  ·next hx=>exact⟨_,by unfold yk; simp only[ho,hx],h⟩
  ·next hx=>exact⟨_,by unfold yk; simp only[ho,hx],h⟩
  ·next hx=>exact⟨_,by unfold yk; simp only[ho,hx],h⟩
  ·cases h
 ·next op T x y yT ho=>
  split at h
  ·next n hn0=>
   split at h
   ·next m hx=>exact⟨_,by unfold yk; simp only[ho,hn0,hx],h⟩
   ·cases h
  ·next hn0=>
   split at h
   ·next u v hx hy=>
    split at h
    ·next hq=>
     obtain⟨l,e1,e2⟩:=xI h;refine⟨_,?_,e2⟩;unfold yk;simp only[ho,hn0,hx,hy,hq];exact Wp e1 _
    ·cases h
   ·cases h
 ·next op T x ho=>
  split at h
  ·next z hx=>exact⟨_,by unfold yk; simp only[ho,hx],h⟩
  ·next n hx=>exact⟨_,by unfold yk; simp only[ho,hx],h⟩
  ·cases h
 ·next S D x ho=>
  split at h
  ·next ds dd l hs hd hx=>
   split at h
   ·next has had=>
    obtain⟨l',t',j',e1,e2⟩:=Ws h;exact⟨_,by unfold yk; simp only[ho,hs,hd,hx,has,had,e1],e2⟩
   ·cases h
  ·cases h
 ·next fn first caps ho=>
  split at h
  ·next f id alV ak7=>exact⟨_,by unfold yk; simp only[ho,alV,ak7],h⟩
  ·cases h
 ·next T x y ho=>
  split at h
  ·next ET e b f n m hd hx hy=>
   split at h
   ·next hnm=>
    split at h
    ·next hc=>exact⟨_,by unfold yk; simp only[ho,hd,hx,hy,if_pos hnm,if_pos hc],h⟩
    ·cases h
   ·cases h
  ·cases h
 ·next T x lo hi ho=>
  split at h
  ·next d l la lb hd hx hlo hhi=>
   split at h
   ·next ah5=>
    obtain⟨l',s',e1,e2⟩:=Wx h;exact⟨_,by unfold yk; simp only[ho,hd,hx,hlo,hhi,ah5,e1],e2⟩
   ·cases h
  ·cases h
 ·next T x f ho=>
  split at h
  ·next d id off hd hx=>
   split at h
   ·next fo ft hf=>exact⟨_,by unfold yk; simp only[ho,hd,hx,hf],h⟩
   ·cases h
  ·next d id ix esz off hd hx=>
   split at h
   ·next fo ft hf=>exact⟨_,by unfold yk; simp only[ho,hd,hx,hf],h⟩
   ·cases h
  ·cases h
 ·next T x f ho=>
  split at h
  ·next d ls hd hx=>
   split at h
   ·next fo ft hf=>
    split at h
    ·next fd hfd=>
     split at h
     ·next xv hle hmk=>exact⟨_,by unfold yk; simp only[ho,hd,hx,hf,hfd,hle,hmk],h⟩
     ·cases h
    ·cases h
   ·cases h
  ·cases h
 ·next T x y ho=>
  split at h
  ·next ET e b f m id n hd hx hy=>
   split at h
   ·next kd lvl EE e' xs hl=>
    split at h
    ·next hc=>
     split at h
     ·next hm=>
      split at h
      ·next hb=>exact⟨_,by unfold yk; simp only[ho,hd,hx,hy,hl,hc,if_pos hm,if_pos hb],h⟩
      ·cases h
     ·cases h
    ·cases h
   ·cases h
  ·next ET e b f id n hd hx hy=>
   split at h
   ·next kd lvl EE e' xs hl=>
    split at h
    ·next hc=>
     split at h
     ·next hb=>exact⟨_,by unfold yk; simp only[ho,hd,hx,hy,hl,hc,if_pos hb],h⟩
     ·cases h
    ·cases h
   ·cases h
  ·cases h
 ·next T x y ho=>
  split at h
  ·next b f l n hd hx hy=>
   split at h
   ·next hb=>exact⟨_,by unfold yk; simp only[ho,hd,hx,hy,if_pos hb],h⟩
   ·cases h
  ·cases h
 ·next t i ho=>
  split at h
  ·next xs hx=>
   split at h
   ·next x hi=>exact⟨_,by unfold yk; simp only[ho,hx,hi],h⟩
   ·cases h
  ·cases h
 ·next c ho=>
  split at h
  ·next fo hf=>
   split at h
   ·next f caps as h1 h2=>
    obtain⟨s,e1,e2⟩:=Wq h;exact⟨s,by unfold yk; simp only[ho,hf,h1,h2,e1],e2⟩
   ·cases h
  ·next hb=>
   split at h
   ·next x T hargs hty=>
    split at h
    ·next l hx=>
     split at h
     ·next n hlt hlen=>exact⟨_,by unfold yk; simp only[ho,hb,hargs,hty,hx,hlt,hlen],h⟩
     ·cases h
    ·cases h
   ·cases h
  ·next hb=>
   split at h
   ·next s x T T2 hargs aiJ=>
    split at h
    ·next ls lx hs hx hT2=>
     obtain⟨s',e1,e2⟩:=Wo h;exact⟨s',by unfold yk; simp only[ho,hb,hargs,aiJ,hs,hx,hT2,e1],e2⟩
    ·cases h
   ·cases h
  ·next hb=>
   split at h
   ·next x y hargs=>
    split at h
    ·next m n hx hy=>exact⟨_,by unfold yk; simp only[ho,hb,hargs,hx,hy],h⟩
    ·cases h
   ·next x y z hargs=>
    split at h
    ·next m n l hx hy hz=>exact⟨_,by unfold yk; simp only[ho,hb,hargs,hx,hy,hz],h⟩
    ·cases h
   ·cases h
  ·next hb=>
   split at h
   ·next x y hargs=>
    split at h
    ·next m n hx hy=>exact⟨_,by unfold yk; simp only[ho,hb,hargs,hx,hy],h⟩
    ·cases h
   ·cases h
  ·cases h
 ·cases h
theorem Ww [Tags] {o:Oper} (h:Kz E o st k=some r):∃ s,Kz E o st some=some s/\k s=some r:=Wv h
variable {P:Program} {o:Oper} {a:Act} {w w':World} {next:Act->World->Prop} {Q:Exit->Act->World->Prop}
variable {E:Env} {B:Nat} {X:List Nat} {A:Ctx} {w0:World} {γ:Nat->Own} {loc:Nat->Value}
theorem Oper.wp_put (hd:a.defers=[]) (h:o.wp P a w (λ a' w'=>(a'.defers=[]->∃ v,a'=a.put o.dst v)->next a' w') Q):o.wp P a w next Q:=by
 unfold Oper.wp at *;generalize (execOp a.eval o).run P w=r at *;have aia:∀ v:Value,(a.put o.dst v).defers=[]->∃ u,a.put o.dst v=a.put o.dst u:=λ v _=>⟨v,rfl⟩
 cases r with
 | ok n w'=>
  cases n<;>simp only[Oper.upon] at h ⊢ <;>
   first
    | exact h (aia _)
    | exact h (λ hx=>by cases ho:o.dst<;>simp[Act.put,ho] at hx)
    | exact Calls.mono h (λ e w'' he=>by cases e<;>first|exact he (aia _)|exact he)
    | exact Rows.mono h (λ _ _ he=>he (aia _))
 | halt x w'=>cases x<;>simp only[Oper.upon] at h ⊢ <;> exact h
theorem LeafOk.locI {loc loc':Nat->Value} {l:Leaf} {v:Value} (h:LeafOk loc l v) (he:∀ i∈l.ids,loc' i=loc i):LeafOk loc' l v:=by
 cases l with
 | sl id=>simp only[LeafOk] at *; rw[he id (by simp[Leaf.ids])]; exact h
 | ptr id off=>simp only[LeafOk] at *; rw[he id (by simp[Leaf.ids])]; exact h
 | ep id ix esz off=>simp only[LeafOk] at *; rw[he id (by simp[Leaf.ids])]; exact h
 | ap id=>simp only[LeafOk] at *; rw[he id (by simp[Leaf.ids])]; exact h
 | fn f caps=>
  simp only[LeafOk] at *;refine⟨?_,λ c hc=>by rw[he c hc]; exact h.2 c hc⟩
  rw[h.1];congr 2;exact List.map_congr_left (λ c hc=>(he c hc).symm)
 | _=>exact h
theorem kJ [Tags] {loc loc':Nat->Value}:∀ {ls:List Leaf} {vs:List Value},All2 (LeafOk loc) ls vs->(∀ i∈Jy ls,loc' i=loc i)->All2 (LeafOk loc') ls vs
 | [],[],_,_=>trivial
 | l::ls,v::vs,h,he=>⟨h.1.locI (λ i hi=>he i (by simp[Jy,hi])),kJ h.2 (λ i hi=>he i (by simp[Jy,hi]))⟩
 | [],_::_,h,_=>h.elim
 | _::_,[],h,_=>h.elim
theorem V1Ok.locI [Tags] {loc loc':Nat->Value} {x:V1} {v:Value} (h:V1Ok loc x v) (he:∀ i∈x.ids,loc' i=loc i):V1Ok loc' x v:=by
 cases x with
 | one l=>exact LeafOk.locI h he
 | agg ls=>obtain⟨vs,h1,h2⟩:=h; exact⟨vs,h1,kJ h2 he⟩
 | any=>trivial
theorem Ob [Tags] {loc loc':Nat->Value}:∀ {xs:List V1} {vs:List Value},All2 (V1Ok loc) xs vs->(∀ i∈J4 xs,loc' i=loc i)->All2 (V1Ok loc') xs vs
 | [],[],_,_=>trivial
 | l::ls,v::vs,h,he=>⟨h.1.locI (λ i hi=>he i (by simp[J4,hi])),Ob h.2 (λ i hi=>he i (by simp[J4,hi]))⟩
 | [],_::_,h,_=>h.elim
 | _::_,[],h,_=>h.elim
theorem AVOk.locI [Tags] {loc loc':Nat->Value} {x:AV} {v:Value} (h:AVOk loc x v) (he:∀ i∈x.ids,loc' i=loc i):AVOk loc' x v:=by
 cases x with
 | top=>trivial
 | v x=>exact V1Ok.locI h he
 | tup xs=>obtain⟨vs,h1,h2⟩:=h; exact⟨vs,h1,Ob h2 he⟩
theorem EntOk.locI [Tags] {γ:Nat->Own} {loc loc':Nat->Value} {w:World} {id:Nat} {e:Ent} (h:EntOk γ loc w id e) (hi:loc' id=loc id) (he:∀ i∈e.ids,loc' i=loc i):EntOk γ loc' w id e:=by
 cases e with
 | box lvl cs=>obtain⟨b,arr,T,fr,h1,h2,h3,h4,h5⟩:=h; exact⟨b,arr,T,fr,by rw[hi]; exact h1,h2,h3,h4,kJ h5 he⟩
 | cst cs=>obtain⟨b,arr,T,fr,h1,h2,h4,h5⟩:=h; exact⟨b,arr,T,fr,by rw[hi]; exact h1,h2,h4,kJ h5 he⟩
 | arr k lvl E e xs=>exact h.arrLoc hi
theorem We [Tags] {γ:Nat->Own} {loc:Nat->Value} {w:World} {id hi lo:Nat} {e:Ent} (h:EntOk γ loc w id (j4 hi lo e)):EntOk γ loc w id e:=by
 cases e with
 | box lvl cs=>simp only[j4] at h; split at h<;>exact h
 | cst cs=>exact h
 | arr k lvl E e xs=>simp only[j4] at h; split at h<;>(cases k<;>exact h)
theorem WD [Tags] (hE:Zx P A.gl E) {s s' p p':St} {C:List Nat} {lo hi:Nat} (hr:Rel0 B X A w0 γ loc s a w) (hA:A.dl=[]/\A.dps=[]) (ap9:p.lvl=s.lvl) (hnx:p.nxt=lo) (hhi:p'.nxt=hi) (hle:hi<=s.nxt)
  (hlen:p.slots.length=s.slots.length) (hps:∀ (t:Nat) (v:AV),p.slots[t]?=some v->v=.top∨((∃ v0,s.slots[t]?=some v0/\∀ loc x,AVOk loc v0 x->AVOk loc v x)/\v.lt lo))
  (hpe:∀ (id:Nat) (e:Ent),look p.tab id=some e->id<lo/\e.lt lo/\((id∈C/\look s.tab id=some e)∨(id∉C/\∃ e0,look s.tab id=some e0/\e0.upto s.lvl=true/\e=j4 s.lvl (s.lvl+1) e0)))
  (hC:∀ id∈C,∃ e,look p.tab id=some e)
  (hss:∀ (t:Nat) (v:AV),s.slots[t]?=some v->∀ i∈v.ids,i<lo∨hi<=i) (hse:∀ (id:Nat) (e:Ent),look s.tab id=some e->(id<lo∨hi<=id)/\∀ i∈e.ids,i<lo∨hi<=i)
  (hap:∀ q∈A.pins,q.1<lo∨hi<=q.1) (hop:Kz E o p some=some p')
  (s1:s'.lvl=s.lvl) (s2:s'.nxt=s.nxt) (s3:s'.slots.length=s.slots.length) (s4:∀ (t:Nat) (v:AV),s'.slots[t]?=some v->(o.dst=some t/\p'.slots[t]?=some v)∨(o.dst≠some t/\s.slots[t]?=some v))
  (s5:∀ (id:Nat) (e:Ent),look s'.tab id=some e->((id∈C∨(lo<=id/\id<hi))/\look p'.tab id=some e)∨(id∉C/\¬ (lo<=id/\id<hi)/\look s.tab id=some e))
  (hn:Pres o.dst.toList p p'->∀ a' w',Rel B X A w0 s' a' w'->next a' w'):o.wp P a w next Q:=by
 classical
-- what is in sight
 let vis:Nat->Prop:=λ i=>∃ e,look p.tab i=some e
 let γp:Nat->Own:=λ b=>match γ b with
  | .top i=>if vis i then .top i else .alien
  | x=>x
 have gtop:∀ b i,γ b=.top i->γp b=if vis i then .top i else .alien:=λ b i h=>by simp only[γp,h]
 have gdeep:∀ b i,γ b=.deep i->γp b=.deep i:=λ b i h=>by simp only[γp,h]
 have gper:∀ b,γ b=.persist->γp b=.persist:=λ b h=>by simp only[γp,h]
 have gal:∀ b,γ b=.alien->γp b=.alien:=λ b h=>by simp only[γp,h]
 let n:=w.heap.size
 let X':List Nat:=(List.range n).filter λ b=>decide ((∃ i,γp b=.top i)∨∃ i,γp b=.deep i)
 let A':Ctx:={
  rds:=(List.range n).filter λ b=>decide (γ b=.persist)
  pins:=(List.range lo).map λ i=>(i,loc i)
  dl:=((List.range n).filterMap λ b=>match γ b with
   | .deep j=>if ¬ vis j/\∃ e,look s.tab j=some e then some (b,j) else none
   | _=>none)
  dps:=(List.range n).filter λ b=>decide (γ b=.persist∨∃ j,γ b=.deep j)
  hi:=hi
  gl:=A.gl }
 have hX':∀ b,b∈X'↔b<n/\((∃ i,γp b=.top i)∨∃ i,γp b=.deep i):=λ b=>by simp[X']
 have hm0:Moves (λ i=>¬ vis i) γ γp w w:=by
  constructor
  ·intro b _ h; exact⟨gper b h,rfl⟩
  ·intro b i _ h hv; exact⟨by rw[gtop b i h,if_pos (by simpa using hv)],rfl⟩
  ·intro b i _ h; exact⟨rfl,λ _=>gdeep b i h,λ _=>.inr ⟨i,gdeep b i h⟩⟩
 have ap2:∀ {id:Nat} {e:Ent},look p.tab id=some e->EntOk γp loc w id e:=by
  intro id e he;have hv:¬ ¬ vis id:=λ h=>h ⟨e,he⟩;obtain⟨h1,h2,h3|⟨h3,e0,h4,h5,rfl⟩⟩:=hpe id e he
  ·exact EntOk.moves hm0 hv (hr.elt id e h3.2).1 (hr.elt id e h3.2).2 (λ _ _=>rfl) (hr.ents id e h3.2)
  ·exact xG (EntOk.moves hm0 hv (hr.elt id e0 h4).1 (hr.elt id e0 h4).2 (λ _ _=>rfl) (hr.ents id e0 h4))
 have ahB:Rel n X' A' w p a w:=by
  refine⟨γp,loc,?_⟩;exact {
   defers:=hr.defers
   keeps:=KeepsW.refl _ _ _
   unf:=λ b hb=>hr.unf b (by
    cases hg:γ b with
    | alien=>rw[gal b hg] at hb; exact hb
    | persist=>rw[gper b hg] at hb; exact hb
    | top i=>trivial
    | deep i=>trivial)
   old:=λ b hb hx=>by
    have hx:¬ ((∃ i,γp b=.top i)∨∃ i,γp b=.deep i):=λ h=>hx ((hX' b).2 ⟨hb,h⟩);cases hg:γ b with
    | persist=>exact .inr ⟨gper b hg,by simp[A',hg]; exact hb⟩
    | alien=>exact .inl (gal b hg)
    | top i=>
     by_cases hv:vis i
     ·exact absurd (.inl ⟨i,by rw[gtop b i hg,if_pos hv]⟩) hx
     ·exact .inl (by rw[gtop b i hg,if_neg hv])
    | deep i=>exact absurd (.inr ⟨i,gdeep b i hg⟩) hx
   Ble:=Nat.le_refl _
   size:=by rw[hlen]; exact hr.size
   slots:=λ t v hv=>by
    rcases hps t v hv with rfl|⟨⟨v0,h,hw⟩,_⟩
    ·trivial
    ·exact hw _ _ (hr.slots t v0 h)
   ents:=λ id e he=>ap2 he
   slt:=λ t v hv=>by
    rw[hnx];rcases hps t v hv with rfl|⟨_,h⟩
    ·trivial
    ·exact h
   elt:=λ id e he=>by rw[hnx]; exact⟨(hpe id e he).2.1,(hpe id e he).1⟩
   pins:=λ q hq=>by
    simp only[A',asj,arQ] at hq;obtain⟨i,hi',rfl⟩:=hq;exact⟨by rw[hnx]; exact hi',rfl⟩
   dlab:=λ q hq _=>by
    simp only[A',List.mem_filterMap,arQ] at hq;obtain⟨b,hb,hq⟩:=hq;split at hq
    ·next j hg=>
     split at hq
     ·next hc=>
      cases hq;obtain⟨e,he⟩:=hc.2;refine⟨gdeep b j hg,?_,?_,hb⟩
      ·rw[hnx]; exact (hse j e he).1
      ·cases hl:look p.tab j with
       | none=>rfl
       | some e'=>exact absurd ⟨e',hl⟩ hc.1
     ·cases hq
    ·cases hq
   glob:=⟨hr.globAt,(λ b hb=>by
    obtain⟨g1,g2⟩:=hr.globApart hb;refine⟨g1,λ hm => ?_⟩;rcases ((hX' b).1 hm).2 with⟨i,h⟩|⟨i,h⟩<;>rcases g2 with g2|g2
    ·rw[gal b g2] at h; cases h
    ·rw[gper b g2] at h; cases h
    ·rw[gal b g2] at h; cases h
    ·rw[gper b g2] at h; cases h),Nat.le_refl _,λ b hm=>by
    refine hr.unfr (λ g2 => ?_) (λ g2 => ?_)
    ·rcases ((hX' b).1 hm).2 with⟨i,h⟩|⟨i,h⟩<;>rw[gal b g2] at h<;>cases h
    ·rcases ((hX' b).1 hm).2 with⟨i,h⟩|⟨i,h⟩<;>rw[gper b g2] at h<;>cases h⟩
   rtag:=by intro h; cases h
   dpc:=λ b hb=>by
    simp only[A',asb,arQ,aqP] at hb;refine⟨hb.1,?_,rfl⟩;rcases hb.2 with h|⟨j,h⟩
    ·exact .inl (gper b h)
    ·exact .inr ⟨j,gdeep b j h⟩}
 refine Oper.wp_put hr.defers (dO (A:=A') (r:=p') (k:=some) hE ahB hop ?_);intro st' apI ai7 a' w' hr' aia;cases apI;obtain⟨γ',loc',hr'⟩:=hr';obtain⟨u,rfl⟩:=aia hr'.defers;refine hn ai7 _ _ ?_;have hk:=hr'.keeps;have hsz:n<=w'.heap.size:=hk.size
-- the places
 let loc2:Nat->Value:=λ i=>if lo<=i/\i<hi then loc' i else loc i
 have hl1:∀ i,(i<lo∨hi<=i)->loc2 i=loc i:=λ i hi'=>by simp only[loc2]; rw[if_neg (by omega)]
 have hl2:∀ i<hi,loc2 i=loc' i:=by
  intro i hi';simp only[loc2];split
  ·rfl
  ·next h=>
   have hlt:i<lo:=by omega
   exact ((hr'.pins (i,loc i) (by simp only[A',asj,arQ]; exact⟨i,hlt,rfl⟩)).2).symm
-- the division
 let hid:Nat->Prop:=λ b=>b<n/\∃ i,γ b=.top i/\¬ vis i
 let γ2:Nat->Own:=λ b=>if hid b then γ b else γ' b
 have hnh:∀ b,¬ hid b->γ2 b=γ' b:=λ b h=>by simp only[γ2,if_neg h]
 have hhd:∀ b,hid b->γ2 b=γ b:=λ b h=>by simp only[γ2,if_pos h]
 have hout:∀ b,b<n->b∉X'->w'.heap[b]?=w.heap[b]?:=λ b hb hx=>hk.block b hb hx;have an6:∀ b,hid b->b∉X'/\γ' b=.alien:=by
  rintro b ⟨hb,i,h1,h2⟩;have e:γp b=.alien:=by rw[gtop b i h1,if_neg h2]
  have hx:b∉X':=λ h=>by rcases ((hX' b).1 h).2 with⟨j,h⟩|⟨j,h⟩<;>rw[e] at h<;>cases h
  refine⟨hx,?_⟩;rcases hr'.old b hb hx with h|⟨_,h⟩
  ·exact h
  ·simp[A',h1] at h
 have ami:∀ b,b<n->γ b=.persist->γ2 b=.persist/\w'.heap[b]?=w.heap[b]?:=by
  intro b hb h;have hx:b∉X':=λ hm=>by rcases ((hX' b).1 hm).2 with⟨j,h'⟩|⟨j,h'⟩<;>rw[gper b h] at h'<;>cases h'
  have hd:=hr'.dpc b (by simp only[A',asb,arQ,aqP]; exact⟨hb,.inl h⟩)
  refine⟨?_,hout b hb hx⟩;rw[hnh b (λ hh=>by obtain⟨_,i,h',_⟩:=hh; rw[h] at h'; cases h')]
  rcases hr'.old b hb hx with h'|⟨h',_⟩
  ·rcases hd.2.1 with h''|⟨j,h''⟩<;>rw[h'] at h''<;>cases h''
  ·exact h'
 have aox:∀ b j,b<n->γ b=.deep j->w'.heap[b]?=w.heap[b]?/\(γ2 b=.persist∨∃ i,γ2 b=.deep i)/\((¬ vis j/\∃ e,look s.tab j=some e)->γ2 b=.deep j):=by
  intro b j hb h;have hd:=hr'.dpc b (by simp only[A',asb,arQ,aqP]; exact⟨hb,.inr ⟨j,h⟩⟩)
  have e:γ2 b=γ' b:=hnh b (λ hh=>by obtain⟨_,i,h',_⟩:=hh; rw[h] at h'; cases h')
  refine⟨hd.2.2,by rw[e]; exact hd.2.1,?_⟩
  intro hc;rw[e];exact (hr'.dlab (b,j) (by
   simp only[A',List.mem_filterMap,arQ];exact⟨b,hb,by simp only[h]; exact if_pos hc⟩) (by rw[hhi]; exact Nat.le_refl _)).1
-- what was in sight, or is new
 have hm2:Moves (λ _=>False) γ' γ2 w' w':=by
  have key:∀ b,γ' b ≠ .alien->γ2 b=γ' b:=λ b h=>hnh b (λ hh=>h (an6 b hh).2);constructor
  ·intro b _ h; exact⟨by rw[key b (by simp[h])]; exact h,rfl⟩
  ·intro b i _ h _; exact⟨by rw[key b (by simp[h])]; exact h,rfl⟩
  ·intro b i _ h; exact⟨rfl,λ _=>by rw[key b (by simp[h])]; exact h,λ h=>h.elim⟩
 have ahw:∀ (id:Nat) (e:Ent),look p'.tab id=some e->EntOk γ2 loc2 w' id e:=by
  intro id e he;obtain⟨h1,h2⟩:=hr'.elt id e he;rw[hhi] at h1 h2;exact EntOk.moves hm2 (λ h=>h) h1 h2 hl2 (hr'.ents id e he)
-- what was out of sight
 have hm3:Moves (λ i=>vis i∨look s.tab i=none) γ γ2 w w':=by
  constructor
  ·intro b hb h; exact ami b hb h
  ·intro b i hb h hi';simp only[not_or] at hi';have hh:hid b:=⟨hb,i,h,hi'.1⟩
   exact⟨by rw[hhd b hh]; exact h,hout b hb (an6 b hh).1⟩
  ·intro b j hb h;obtain⟨c1,c2,c3⟩:=aox b j hb h;refine⟨c1,λ hj => ?_,λ _=>c2⟩;simp only[not_or] at hj;refine c3 ⟨hj.1,?_⟩;cases hl:look s.tab j with
   | none=>exact absurd hl hj.2
   | some e=>exact⟨e,rfl⟩
 have amU:∀ (id:Nat) (e:Ent),look s'.tab id=some e->EntOk γ2 loc2 w' id e/\e.lt s.nxt/\id<s.nxt:=by
  intro id e he;rcases s5 id e he with⟨hc,h⟩|⟨hc1,hc2,h⟩
  ·obtain⟨h1,h2⟩:=hr'.elt id e h;rw[hhi] at h1 h2;exact⟨ahw id e h,Ent.lt_mono hle h1,by omega⟩
  ·obtain⟨h1,h2⟩:=hr.elt id e h;refine⟨?_,h1,h2⟩;obtain⟨q1,q2⟩:=hse id e h;by_cases hv:vis id
   ·obtain⟨e',he'⟩:=hv;obtain⟨z1,z2,z3|⟨z3,e0,z4,z5,rfl⟩⟩:=hpe id e' he'
    ·exact absurd z3.1 hc1
    ·rw[h] at z4;cases z4;have hpr:(j4 s.lvl (s.lvl+1) e).prot p.lvl:=by
      rw[ap9];cases e with
      | box lvl cs=>
       simp only[j4];split
       ·simp only[Ent.prot]; omega
       ·next hb=>simp only[Ent.prot]; exact (ZR _ _).1 hb
      | cst cs=>trivial
      | arr kd lvl EE ee xs=>
       simp only[j4];split
       ·simp only[Ent.prot]; omega
       ·next hb=>simp only[Ent.prot]; exact (ZR _ _).1 hb
     exact We (ahw id _ (ai7.tab id _ he' hpr))
   ·have:EntOk γ2 loc w' id e:=EntOk.moves hm3 (by simp[hv,h]) h1 h2 (λ _ _=>rfl) (hr.ents id e h);exact this.locI (hl1 id q1) (λ i hi'=>hl1 i (q2 i hi'))
 refine⟨γ2,loc2,?_⟩;exact {
  defers:=hr'.defers
  keeps:=hr.keeps.trans ⟨hk.os,hk.tape,hk.output,hk.size,λ b hb hx=>by
   have hbn:b<n:=Nat.lt_of_lt_of_le hb hr.Ble;rcases hr.old b hb hx with h|⟨h,_⟩
   ·exact hout b hbn (λ hm=>by rcases ((hX' b).1 hm).2 with⟨j,h'⟩|⟨j,h'⟩<;>rw[gal b h] at h'<;>cases h')
   ·exact (ami b hbn h).2,hk.free,hk.shape⟩
  unf:=λ b hb=>by
   by_cases hh:hid b
   ·obtain⟨hbn,i,h1,h2⟩:=hh;exact hk.free b hbn (hr.unf b (by rw[h1]; trivial))
   ·rw[hnh b hh] at hb;exact hr'.unf b hb
  old:=λ b hb hx=>by
   have hbn:b<n:=Nat.lt_of_lt_of_le hb hr.Ble;rcases hr.old b hb hx with h|⟨h,h'⟩
   ·left;rw[hnh b (λ hh=>by obtain⟨_,i,h',_⟩:=hh; rw[h] at h'; cases h')]
    rcases hr'.old b hbn (λ hm=>by rcases ((hX' b).1 hm).2 with⟨j,h'⟩|⟨j,h'⟩<;>rw[gal b h] at h'<;>cases h') with h'|⟨_,h'⟩
    ·exact h'
    ·simp[A',h] at h'
   ·exact .inr ⟨(ami b hbn h).1,h'⟩
  Ble:=Nat.le_trans hr.Ble hsz
  size:=by
   have:=hr.size;rw[s3,this];cases o.dst<;>simp[Act.put]
  slots:=λ t v hv=>by
   rcases s4 t v hv with⟨h1,h2⟩|⟨h1,h2⟩
   ·have hlt:=hr'.slt t v h2;rw[hhi] at hlt;exact (hr'.slots t v h2).loc hlt hl2
   ·have hold:=(hr.slots t v h2).locI (loc':=loc2) (λ i hi'=>hl1 i (hss t v h2 i hi'));cases ho:o.dst with
    | none=>simpa[Act.put] using hold
    | some d=>
     have hne:d≠t:=λ e=>h1 (by rw[ho,e]);simpa[Act.put,arm,asN hne] using hold
  ents:=λ id e he=>(amU id e he).1
  slt:=λ t v hv=>by
   rw[s2];rcases s4 t v hv with⟨h1,h2⟩|⟨h1,h2⟩
   ·have hlt:=hr'.slt t v h2;rw[hhi] at hlt;exact AV.lt_mono hle hlt
   ·exact hr.slt t v h2
  elt:=λ id e he=>by rw[s2]; exact (amU id e he).2
  pins:=λ q hq=>by
   rw[s2];exact⟨(hr.pins q hq).1,by rw[hl1 q.1 (hap q hq)]; exact (hr.pins q hq).2⟩
  dlab:=λ q hq=>by rw[hA.1] at hq; simp at hq
  glob:=hr.glob
  rtag:=hr.rtag
  dpc:=λ q hq=>by rw[hA.2] at hq; simp at hq }
structure Stp where
 run:Bool
 p:St
 p':St
 rc:Rec
def N2 (E:Env) (ops:List Oper) (all:List (List Nat)) (i:Nat) (anc:List Nat) (g:St) (o:Oper):St×List Nat×List Nat:=
 let p0:St:={ g with slots:=Lp o.op (YL g.slots (YH all i anc ops 0) o.op.operands.toList)}
 let l:=Mg p0 o.op.operands.toList
 let m:=bJ g.tab l
 let wr:=wt E p0 o
 ({ p0 with tab:=Ly g wr (L5 o.op wr l m)},l++m,wr)
def GI (E:Env) (ops:List Oper) (all:List (List Nat)) (i:Nat) (anc:List Nat) (g:St) (o:Oper):List Nat:=
 let p0:St:={ g with slots:=Lp o.op (YL g.slots (YH all i anc ops 0) o.op.operands.toList)}
 let l:=Mg p0 o.op.operands.toList
 L5 o.op (wt E p0 o) l (bJ g.tab l)
structure wF (E:Env) (ops:List Oper) (all:List (List Nat)) (anc:List Nat) (recs:List Rec) (g:St) (o:Oper) (s:Stp) (g':St):Prop where
 p:s.p=(N2 E ops all recs.length anc g o).1
 seen:dG g s.rc.reach s.rc.wr=true
 clear:clear anc s.rc.reach s.rc.wr s.rc.cf recs 0=true
 op:Kz E o s.p some=some s.p'
 out:NI s.rc.reach s.rc.wr g.nxt o.dst s.p'=true
 rc:s.rc=⟨(N2 E ops all recs.length anc g o).2.1,(N2 E ops all recs.length anc g o).2.2,g.nxt,s.p'.nxt,GI E ops all recs.length anc g o⟩
 g':g'=merge g s.p' s.rc.wr g.nxt o.dst
structure UF (g:St) (o:Oper) (s:Stp) (g':St):Prop where
 rc:s.rc=⟨[],[],g.nxt,g.nxt,[]⟩
 g':g'=g.put o.dst (.tup [])
structure fu (E:Env) (ops:List Oper) (all:List (List Nat)) (anc:List Nat) (recs:List Rec) (g:St) (o:Oper) (s:Stp) (g':St):Prop where
 guard:match o.guard with
  | none=>s.run=true
  | some (j,want)=>j∈anc/\∃ d,(ops[j]?).bind (·.dst)=some d/\((∃ x,g.slots[d]?=some (.v (.one (.b x)))/\s.run=(x==want))∨(g.slots[d]?=some (.tup [])/\s.run=false))
 run:s.run=true->wF E ops all anc recs g o s g'
 skip:s.run=false->UF g o s g'
def Trace (E:Env) (ops:List Oper) (all:List (List Nat)):List Oper->List (List Nat)->List Rec->St->List Stp->St->Prop
 | [],_,_,g,ts,gf=>ts=[]/\gf=g
 | o::r,ancs,recs,g,ts,gf=>∃ s ts' g',ts=s::ts'/\fu E ops all (jI ancs o.after.toList) recs g o s g'/\
   Trace E ops all r (ancs++[jI ancs o.after.toList]) (recs++[s.rc]) g' ts' gf
theorem V5 [Tags] {ops:List Oper} {all:List (List Nat)} {anc:List Nat} {recs:List Rec} {g:St} {o:Oper} {k:Rec->St->Option R} (h:qP E ops all anc recs g o k=some r):
  ∃ s g',s.run=true/\wF E ops all anc recs g o s g'/\k s.rc g'=some r:=by
 unfold qP at h;simp only at h;split at h
 ·cases h
 ·next hck=>
  simp only[aqF] at hck;obtain⟨p',h1,h2⟩:=Ww h;split at h2
  ·next hout=>
   exact⟨⟨true,(N2 E ops all recs.length anc g o).1,p',⟨(N2 E ops all recs.length anc g o).2.1,(N2 E ops all recs.length anc g o).2.2,g.nxt,p'.nxt,GI E ops all recs.length anc g o⟩⟩,_,rfl,⟨rfl,hck.1,hck.2,h1,hout,rfl,rfl⟩,h2⟩
  ·cases h2
theorem dj {g:St} {d:Nat} {x:AV} (h:g.slots[d]?=some x):g.put (some d) x=g:=by
 have:g.slots.set d x=g.slots:=by
  apply List.ext_getElem?;intro i;rw[arT];split
  ·next e=>
   subst e;split
   ·exact h.symm
   ·next hn=>rw[ar9 (by omega)]
  ·rfl
 simp only[St.put,this]
theorem we [Tags] {ops:List Oper} {all:List (List Nat)}:∀ (l:List Oper) (ancs:List (List Nat)) (recs:List Rec) (g:St) (k:St->Option R),J0 E ops all l ancs recs g k=some r->
  ∃ ts gf,Trace E ops all l ancs recs g ts gf/\k gf=some r
 | [],ancs,recs,g,k,h=>⟨[],g,⟨rfl,rfl⟩,h⟩
 | o::l,ancs,recs,g,k,h=>by
  have ah4:∀ g1,g1=g->(match o.guard with
    | none=>True
    | some (j,want)=>j∈jI ancs o.after.toList/\∃ d,(ops[j]?).bind (·.dst)=some d/\((∃ x,g.slots[d]?=some (.v (.one (.b x)))/\true=(x==want))∨(g.slots[d]?=some (.tup [])/\true=false)))->
    qP E ops all (jI ancs o.after.toList) recs g1 o (λ c g'=>J0 E ops all l (ancs++[jI ancs o.after.toList]) (recs++[c]) g' k)=some r->∃ ts gf,Trace E ops all (o::l) ancs recs g ts gf/\k gf=some r:=by
   rintro g1 rfl hg h;obtain⟨s,g',e1,e2,e3⟩:=V5 h;obtain⟨ts,gf,t1,t2⟩:=we l _ _ g' k e3;refine⟨s::ts,gf,⟨s,ts,g',rfl,⟨?_,λ _=>e2,λ h=>by rw[e1] at h; cases h⟩,t1⟩,t2⟩
   split at hg
   ·next hh=>exact e1
   ·next j want hh=>rw[e1]; exact hg
  have ams:∀ g1,g1=g->(match o.guard with
    | none=>False
    | some (j,want)=>j∈jI ancs o.after.toList/\∃ d,(ops[j]?).bind (·.dst)=some d/\((∃ x,g.slots[d]?=some (.v (.one (.b x)))/\false=(x==want))∨(g.slots[d]?=some (.tup [])/\false=false)))->
    J0 E ops all l (ancs++[jI ancs o.after.toList]) (recs++[⟨[],[],g1.nxt,g1.nxt,[]⟩]) (g1.put o.dst (.tup [])) k=some r->∃ ts gf,Trace E ops all (o::l) ancs recs g ts gf/\k gf=some r:=by
   rintro g1 rfl hg h;obtain⟨ts,gf,t1,t2⟩:=we l _ _ _ k h;refine⟨⟨false,g1,g1,⟨[],[],g1.nxt,g1.nxt,[]⟩⟩::ts,gf,⟨_,ts,_,rfl,⟨?_,λ h=>by (cases h),λ _=>⟨rfl,rfl⟩⟩,t1⟩,t2⟩;split at hg
   ·exact hg.elim
   ·next j want hh=>exact hg
  unfold J0 at h;simp only at h;split at h
  ·next hg=>exact ah4 g rfl (by rw[hg]; trivial) h
  ·next j want hg=>
   split at h
   ·next d hj hd=>
    have hj':j∈jI ancs o.after.toList:=List.mem_of_elem_eq_true hj;split at h
    ·next x hx=>
     cases x with
     | true=>
      simp only[aqE] at h;cases want with
      | true=>exact ah4 _ (dj hx) (by rw[hg]; exact⟨hj',d,hd,.inl ⟨true,hx,rfl⟩⟩) h
      | false=>exact ams _ (dj hx) (by rw[hg]; exact⟨hj',d,hd,.inl ⟨true,hx,rfl⟩⟩) h
     | false=>
      simp only[aqD] at h;cases want with
      | true=>exact ams _ (dj hx) (by rw[hg]; exact⟨hj',d,hd,.inl ⟨false,hx,rfl⟩⟩) h
      | false=>exact ah4 _ (dj hx) (by rw[hg]; exact⟨hj',d,hd,.inl ⟨false,hx,rfl⟩⟩) h
    ·next hx=>exact ams g rfl (by rw[hg]; exact⟨hj',d,hd,.inr ⟨hx,rfl⟩⟩) h
    ·cases h
   ·cases h
structure TraceI (E:Env) (ops:List Oper) (all:List (List Nat)) (st:St) (ts:List Stp) (gf:St) (gs:Nat->St) (anc:Nat->List Nat):Prop where
 len:ts.length=ops.length
 first:gs 0=st
 last:gs ops.length=gf
 stp:∀ (i:Nat) (o:Oper) (s:Stp),ops[i]?=some o->ts[i]?=some s->fu E ops all (anc i) ((ts.take i).map (·.rc)) (gs i) o s (gs (i+1))
 anc:∀ (i:Nat) (o:Oper),ops[i]?=some o->anc i=jI ((List.range i).map anc) o.after.toList
theorem I0 {ops:List Oper} {all:List (List Nat)} {st:St}:∀ (l pre:List Oper) (tp:List Stp) (gs:Nat->St) (anc:Nat->List Nat) (g:St) (ts:List Stp) (gf:St),ops=pre++l->tp.length=pre.length->gs 0=st->gs pre.length=g->
  (∀ (i:Nat) (o:Oper) (s:Stp),pre[i]?=some o->tp[i]?=some s->fu E ops all (anc i) ((tp.take i).map (·.rc)) (gs i) o s (gs (i+1)))->
  (∀ (i:Nat) (o:Oper),pre[i]?=some o->anc i=jI ((List.range i).map anc) o.after.toList)->
  Trace E ops all l ((List.range pre.length).map anc) (tp.map (·.rc)) g ts gf->∃ gs' anc',TraceI E ops all st (tp++ts) gf gs' anc'
 | [],pre,tp,gs,anc,g,ts,gf,aiF,hlen,h0,hg,hs,ha,ht=>by
  obtain⟨rfl,rfl⟩:=ht;simp at aiF;subst aiF;exact⟨gs,anc,by simpa using hlen,h0,hg,by simpa using hs,ha⟩
 | o::l,pre,tp,gs,anc,g,ts,gf,aiF,hlen,h0,hg,hs,ha,ht=>by
  obtain⟨s,ts',g',rfl,h1,h2⟩:=ht
  let m:=pre.length
  let gs':Nat->St:=λ i=>if i=m+1 then g' else gs i
  let anc':Nat->List Nat:=λ i=>if i=m then jI ((List.range m).map anc) o.after.toList else anc i
  have hgs:∀ i,i<=m->gs' i=gs i:=λ i hi=>if_neg (show ¬ i=m+1 by omega);have hgm:gs' (m+1)=g':=if_pos rfl;have ham:anc' m=jI ((List.range m).map anc) o.after.toList:=if_pos rfl;have han:∀ i,i≠m->anc' i=anc i:=λ i hi=>if_neg hi;have alJ:∀ i,i<=m->(List.range i).map anc'=(List.range i).map anc:=by
   intro i hi;refine List.map_congr_left λ j hj => ?_;have:=List.mem_range.1 hj;exact han j (by omega)
  have:=I0 (ops:=ops) (all:=all) (st:=st) l (pre++[o]) (tp++[s]) gs' anc' g' ts' gf (by simp[aiF]) (by simp[hlen]) (by rw[hgs 0 (by omega)]; exact h0) (by simpa using hgm) ?_ ?_ ?_
  ·obtain⟨gs2,anc2,hT⟩:=this;exact⟨gs2,anc2,by simpa using hT⟩
  ·intro i o' s' ho hs';by_cases hi:i<m
   ·rw[arU hi] at ho;rw[arU (by omega)] at hs';have:=hs i o' s' ho hs';rw[arN (by omega)];rw[han i (by omega)];rw[hgs i (by omega),hgs (i+1) (by omega)];exact this
   ·have hlt:i<(pre++[o]).length:=by
     rcases Nat.lt_or_ge i (pre++[o]).length with h|h
     ·exact h
     ·rw[ar9 h] at ho; cases ho
    have hi':i=m:=by simp at hlt; omega
    subst hi';have ho':o=o':=by simpa[m] using ho
    have hs'':s=s':=by
     rw[ass (by omega)] at hs';simpa[hlen,m] using hs'
    subst ho'; subst hs''
    have e1:(tp++[s]).take m=tp:=by rw[arN (by omega)]; exact List.take_of_length_le (by omega)
    rw[e1];rw[ham,hgs m (by omega),hgm,show gs m=g from hg];exact h1
  ·intro i o' ho;by_cases hi:i<m
   ·rw[arU hi] at ho;rw[alJ i (by omega)];rw[han i (by omega)];exact ha i o' ho
   ·have hlt:i<(pre++[o]).length:=by
     rcases Nat.lt_or_ge i (pre++[o]).length with h|h
     ·exact h
     ·rw[ar9 h] at ho; cases ho
    have hi':i=m:=by simp at hlt; omega
    subst hi';have ho':o=o':=by simpa[m] using ho
    subst ho';rw[alJ m (by omega),ham]
  ·have e:(List.range (pre++[o]).length).map anc'=(List.range m).map anc++[jI ((List.range m).map anc) o.after.toList]:=by
    simp only[aqM,asX,asE,arW,aqZ,arn];rw[alJ pre.length (by omega)];rw[show anc' pre.length=_ from ham]
   rw[e];simpa using h2
def Stp.touch (s:Stp) (id:Nat):Prop:=id∈s.rc.wr∨(s.rc.lo<=id/\id<s.rc.hi)
open Classical in
noncomputable def yY (ts:List Stp) (S:Nat->Prop) (st:St):Nat->Nat->Option Ent
 | 0,id=>look st.tab id
 | i+1,id=>match ts[i]? with
  | some s=>if S i/\s.touch id then look s.p'.tab id else yY ts S st i id
  | none=>yY ts S st i id
open Classical in
noncomputable def yV (ops:List Oper) (ts:List Stp) (S:Nat->Prop) (st:St):Nat->Nat->Option AV
 | 0,t=>st.slots[t]?
 | i+1,t=>match ops[i]?,ts[i]? with
  | some o,some s=>if S i/\o.dst=some t/\t<st.slots.length then (if s.run=true then s.p'.slots[t]? else some (.tup [])) else yV ops ts S st i t
  | _,_=>yV ops ts S st i t
theorem aaG {tab:List (Nat×Ent)} {q:Nat->Bool} (id:Nat):look (tab.filter λ x=>q x.1) id=if q id=true then look tab id else none:=by
 induction tab with
 | nil=>simp[look]
 | cons x t ih=>
  obtain⟨k,e⟩:=x;simp only[arZ];split
  ·next hq=>
   rw[jf,jf,ih];split
   ·next h=>subst h; rw[if_pos hq]
   ·rfl
  ·next hq=>
   rw[ih,jf];split
   ·next h=>
    split
    ·next h2=>subst h2; exact absurd h hq
    ·rfl
   ·rfl
theorem Bz [Tags] {g p:St} {wr:List Nat} {lo:Nat} {dst:Option Nat} (id:Nat):look (merge g p wr lo dst).tab id=
  (if (Nat.ble lo id || wr.elem id)=true then look p.tab id else none).or (if id∈wr then none else look g.tab id):=by
 unfold merge;simp only;rw[ZY,aaG (q:=λ i=>Nat.ble lo i || wr.elem i),JG]
theorem Ai [Tags] {ops:List Oper} {all:List (List Nat)} {st:St} {ts:List Stp} {gf:St} {gs:Nat->St} {anc:Nat->List Nat} (hT:TraceI E ops all st ts gf gs anc) (hlt:∀ (id:Nat) (e:Ent),look st.tab id=some e->id<st.nxt)
  (hpn:∀ (i:Nat) (s:Stp),ts[i]?=some s->s.run=true->∀ (id:Nat) (e:Ent),look s.p'.tab id=some e->id<s.p'.nxt):
  ∀ i,i<=ops.length->(∀ id,look (gs i).tab id=yY ts (λ _=>True) st i id)/\∀ (id:Nat) (e:Ent),look (gs i).tab id=some e->id<(gs i).nxt
 | 0,_=>⟨λ id=>by rw[hT.first]; rfl,λ id e he=>by rw[hT.first] at *; exact hlt id e he⟩
 | i+1,h=>by
  obtain⟨ih1,ih2⟩:=Ai hT hlt hpn i (by omega);have hi:i<ops.length:=h;obtain⟨o,ho⟩:∃ o,ops[i]?=some o:=⟨ops[i],List.getElem?_eq_getElem hi⟩
  obtain⟨s,hs⟩:∃ s,ts[i]?=some s:=⟨ts[i]'(by rw[hT.len]; exact hi),List.getElem?_eq_getElem _⟩
  have hst:=hT.stp i o s ho hs;cases ah4:s.run with
  | false=>
   have hsk:=hst.skip ah4;have e1:(gs (i+1)).tab=(gs i).tab/\(gs (i+1)).nxt=(gs i).nxt:=by rw[hsk.g']; cases o.dst<;>exact⟨rfl,rfl⟩
   have hnt:∀ id,¬ s.touch id:=λ id ht=>by
    simp only[Stp.touch,hsk.rc] at ht;rcases ht with h|⟨h1,h2⟩
    ·simp at h
    ·omega
   refine⟨λ id => ?_,λ id e he=>by rw[e1.1] at he; rw[e1.2]; exact ih2 id e he⟩
   rw[e1.1,ih1 id];simp only[yY,hs,hnt id,and_false,if_false]
  | true=>
   have hr:=hst.run ah4;have hout:=hr.out;have hle:(gs i).nxt<=s.p'.nxt:=by
    simp only[NI,aqF] at hout;exact Nat.le_of_ble_eq_true hout.1.1
   have hlo:s.rc.lo=(gs i).nxt/\s.rc.hi=s.p'.nxt:=by rw[hr.rc]; exact⟨rfl,rfl⟩
   have hlk:∀ id,look (gs (i+1)).tab id=yY ts (λ _=>True) st (i+1) id:=by
    intro id;rw[hr.g',Bz,ih1 id];simp only[yY,hs,true_and];by_cases hw:id∈s.rc.wr
    ·have:s.touch id:=.inl hw;simp[hw,this]
    ·simp only[hw,if_false];by_cases hge:(gs i).nxt<=id
     ·have hb:Nat.ble (gs i).nxt id=true:=Nat.ble_eq_true_of_le hge;have apg:yY ts (λ _=>True) st i id=none:=by
       rw[←ih1 id];cases hl:look (gs i).tab id with
       | none=>rfl
       | some e=>have:=ih2 id e hl; omega
      simp only[hb,Bool.true_or,if_true,apg,Option.or_none];by_cases am6:id<s.p'.nxt
      ·have:s.touch id:=.inr ⟨by rw[hlo.1]; exact hge,by rw[hlo.2]; exact am6⟩
       rw[if_pos ⟨trivial,this⟩]
      ·have hnt:¬ s.touch id:=by
        rintro (h|⟨_,h⟩)
        ·exact hw h
        ·rw[hlo.2] at h; exact am6 h
       rw[if_neg (λ h=>hnt h.2)];cases hl:look s.p'.tab id with
       | none=>rfl
       | some e=>exact absurd (hpn i s hs ah4 id e hl) am6
     ·have hb:Nat.ble (gs i).nxt id=false:=by
       cases h:Nat.ble (gs i).nxt id with
       | false=>rfl
       | true=>exact absurd (Nat.le_of_ble_eq_true h) hge
      have hnt:¬ s.touch id:=by
       rintro (h|⟨h,_⟩)
       ·exact hw h
       ·rw[hlo.1] at h; exact hge h
      simp[hb,hw,hnt]
   refine⟨hlk,?_⟩;intro id e he;have hnx:(gs (i+1)).nxt=s.p'.nxt:=by rw[hr.g']; rfl
   rw[hnx];rw[hr.g',Bz] at he;split at he
   ·cases hl:look s.p'.tab id with
    | some e'=>exact hpn i s hs ah4 id e' hl
    | none=>
     rw[hl] at he;simp only[arP] at he;split at he
     ·cases he
     ·have:=ih2 id e he; omega
   ·simp only[arP] at he;split at he
    ·cases he
    ·have:=ih2 id e he; omega
theorem qW {ops:List Oper} {all:List (List Nat)} {st:St} {ts:List Stp} {gf:St} {gs:Nat->St} {anc:Nat->List Nat} (hT:TraceI E ops all st ts gf gs anc):
  ∀ i,i<=ops.length->(∀ t,(gs i).slots[t]?=yV ops ts (λ _=>True) st i t)/\(gs i).slots.length=st.slots.length/\(gs i).lvl=st.lvl
 | 0,_=>⟨λ t=>by rw[hT.first]; rfl,by rw[hT.first],by rw[hT.first]⟩
 | i+1,h=>by
  obtain⟨ih1,ih2,ih3⟩:=qW hT i (by omega);have hi:i<ops.length:=h;obtain⟨o,ho⟩:∃ o,ops[i]?=some o:=⟨ops[i],List.getElem?_eq_getElem hi⟩
  obtain⟨s,hs⟩:∃ s,ts[i]?=some s:=⟨ts[i]'(by rw[hT.len]; exact hi),List.getElem?_eq_getElem _⟩
  have hst:=hT.stp i o s ho hs;cases ah4:s.run with
  | false=>
   have hsk:=hst.skip ah4;cases hd:o.dst with
   | none=>
    have e1:gs (i+1)=gs i:=by rw[hsk.g',hd]; rfl
    refine⟨λ t => ?_,by rw[e1]; exact ih2,by rw[e1]; exact ih3⟩
    rw[e1,ih1 t];simp[yV,ho,hs,hd]
   | some d=>
    have e1:(gs (i+1)).slots=(gs i).slots.set d (.tup [])/\(gs (i+1)).lvl=(gs i).lvl:=by rw[hsk.g',hd]; exact⟨rfl,rfl⟩
    refine⟨λ t => ?_,by rw[e1.1]; simpa using ih2,by rw[e1.2]; exact ih3⟩
    rw[e1.1,arT,ih2];simp only[yV,ho,hs,hd,true_and,aqK,ah4,ar3,if_false];by_cases hdt:d=t
    ·subst hdt;by_cases hlt:d<st.slots.length
     ·simp[hlt]
     ·have hge:(gs i).slots.length<=d:=by rw[ih2]; exact Nat.le_of_not_lt hlt
      simp only[if_true,hlt,if_false,and_false];rw[←ih1 d,ar9 hge]
    ·simp[hdt,ih1 t]
  | true=>
   have hr:=hst.run ah4;have hout:=hr.out;have hlv:(gs (i+1)).lvl=st.lvl:=by rw[hr.g']; exact ih3
   cases hd:o.dst with
   | none=>
    have e1:(gs (i+1)).slots=(gs i).slots:=by rw[hr.g',hd]; rfl
    refine⟨λ t => ?_,by rw[e1]; exact ih2,hlv⟩
    rw[e1,ih1 t];simp[yV,ho,hs,hd]
   | some d=>
    simp only[NI,hd,aqF] at hout;cases hv:s.p'.slots[d]? with
    | none=>rw[hv] at hout; simp at hout
    | some v=>
     have e1:(gs (i+1)).slots=(gs i).slots.set d v:=by rw[hr.g',hd]; simp only[merge,hv]
     refine⟨λ t => ?_,by rw[e1]; simpa using ih2,hlv⟩
     rw[e1,arT,ih2];simp only[yV,ho,hs,hd,true_and,aqK,ah4,if_true];by_cases hdt:d=t
     ·subst hdt;by_cases hlt:d<st.slots.length
      ·simp[hlt,hv]
      ·have hge:(gs i).slots.length<=d:=by rw[ih2]; exact Nat.le_of_not_lt hlt
       simp only[if_true,hlt,if_false,and_false];rw[←ih1 d,ar9 hge]
     ·simp[hdt,ih1 t]
theorem aaH [Tags] (N:Nat) (f:Nat->Option Ent) (id:Nat):look ((List.range N).filterMap λ i=>(f i).map λ e=>(i,e)) id=if id<N then f id else none:=by
 induction N with
 | zero=>simp[look]
 | succ N ih=>
  rw[asE,List.filterMap_append,ZY,ih];by_cases h:id<N
  ·rw[if_pos h,if_pos (by omega)];cases hf:f id with
   | some e=>rfl
   | none=>
    simp only[arY,List.filterMap_nil,arP];cases hN:f N with
    | none=>simp[look]
    | some e=>
     simp only[art,jf,look];rw[if_neg (by omega)]
  ·rw[if_neg h];simp only[arY,List.filterMap_nil,arP];by_cases h2:id=N
   ·subst h2;rw[if_pos (by omega)];cases hN:f id with
    | none=>simp[look]
    | some e=>simp[jf]
   ·rw[if_neg (by omega)];cases hN:f N with
    | none=>simp[look]
    | some e=>
     simp only[art,jf,look];rw[if_neg h2]
noncomputable def sS (ops:List Oper) (ts:List Stp) (st:St) (N:Nat) (S:Nat->Prop):St:=
 {slots:=(List.range st.slots.length).map λ t=>(yV ops ts S st ops.length t).getD .top
  tab:=(List.range N).filterMap λ i=>(yY ts S st ops.length i).map λ e=>(i,e)
  nxt:=N
  lvl:=st.lvl }
theorem xc [Tags] {anc R wr cf:List Nat}:∀ {recs:List Rec} {k:Nat},clear anc R wr cf recs k=true->∀ (j:Nat) (c:Rec),recs[j]?=some c->k+j∉anc->
  (∀ x∈c.wr,x∉cf)/\(∀ x∈wr,x∉c.cf)/\∀ id∈R,id<c.lo∨c.hi<=id
 | [],k,_,j,c,hc,_=>by simp at hc
 | c0::r,k,h,j,c,hc,hj=>by
  simp only[clear,aqF,arj] at h;cases j with
  | zero=>
   simp at hc;subst hc;rcases h.1 with h'|h'
   ·exact absurd (List.mem_of_elem_eq_true h') hj
   ·obtain⟨⟨h1,h2⟩,h3⟩:=h';refine⟨qH h1,qH h2,λ id hid => ?_⟩;have:=List.all_eq_true.1 h3 id hid;simp only[arj] at this;rcases this with h'|h'
    ·exact .inl (Nat.le_of_ble_eq_true h')
    ·exact .inr (Nat.le_of_ble_eq_true h')
  | succ j=>
   simp at hc;exact xc h.2 j c hc (by rw[show k+1+j=k+(j+1) by omega]; exact hj)
variable {ops:List Oper} {all:List (List Nat)} {st:St} {ts:List Stp} {gf:St} {gs:Nat->St} {anc:Nat->List Nat}
theorem TraceI.get (hT:TraceI E ops all st ts gf gs anc) {i:Nat} (hi:i<ops.length):∃ o s,ops[i]?=some o/\ts[i]?=some s/\fu E ops all (anc i) ((ts.take i).map (·.rc)) (gs i) o s (gs (i+1)):=by
 have h2:i<ts.length:=by rw[hT.len]; exact hi
 exact⟨ops[i],ts[i],List.getElem?_eq_getElem hi,List.getElem?_eq_getElem h2,hT.stp i _ _ (List.getElem?_eq_getElem hi) (List.getElem?_eq_getElem h2)⟩
theorem TraceI.nums [Tags] (hT:TraceI E ops all st ts gf gs anc) {i:Nat} {s:Stp} (hs:ts[i]?=some s):
  s.rc.lo=(gs i).nxt/\s.rc.hi=(gs (i+1)).nxt/\s.rc.lo<=s.rc.hi/\(∀ id∈s.rc.reach,id<s.rc.lo)/\∀ id∈s.rc.wr,id∈s.rc.reach:=by
 have hlt:i<ops.length:=by
  rw[←hT.len];rcases Nat.lt_or_ge i ts.length with h|h
  ·exact h
  ·rw[ar9 h] at hs; cases hs
 obtain⟨o,s',ho,hs',hst⟩:=hT.get hlt;rw[hs] at hs';cases hs';cases ah4:s.run with
 | false=>
  have hsk:=hst.skip ah4;have e:(gs (i+1)).nxt=(gs i).nxt:=by rw[hsk.g']; cases o.dst<;>rfl
  rw[hsk.rc,e];exact⟨rfl,rfl,Nat.le_refl _,by simp,by simp⟩
 | true=>
  have hr:=hst.run ah4;have e:(gs (i+1)).nxt=s.p'.nxt:=by rw[hr.g']; rfl
  have e1:s.rc.lo=(gs i).nxt/\s.rc.hi=s.p'.nxt:=by rw[hr.rc]; exact⟨rfl,rfl⟩
  have hout:=hr.out;simp only[NI,aqF] at hout;have aki:=hr.seen;simp only[dG,aqF] at aki;refine⟨e1.1,by rw[e]; exact e1.2,by rw[e1.1,e1.2]; exact Nat.le_of_ble_eq_true hout.1.1,?_,?_⟩
  ·intro id hid;have:=List.all_eq_true.1 aki.1 id hid;simp only[aqF] at this;rw[e1.1];exact Nat.le_of_ble_eq_true this.1
  ·intro id hid;have:=List.all_eq_true.1 aki.2 id hid;simp only[aqF] at this;exact List.mem_of_elem_eq_true this.1
theorem U6 {op:Op} {wr l m:List Nat} (h:∀ id∈wr,id∈l++m):(∀ id∈L5 op wr l m,id∈l++m)/\∀ id∈wr,id∈L5 op wr l m:=by
 unfold L5;split
 ·exact⟨by simp,by simp⟩
 ·exact⟨by simp,by simp⟩
 ·exact⟨by simp,by simp⟩
 ·exact⟨λ _ h=>List.mem_append_left _ h,by simp⟩
 ·exact⟨λ _ h=>h,h⟩
theorem TraceI.cfs [Tags] (hT:TraceI E ops all st ts gf gs anc) {i:Nat} {s:Stp} (hs:ts[i]?=some s):(∀ id∈s.rc.cf,id∈s.rc.reach)/\∀ id∈s.rc.wr,id∈s.rc.cf:=by
 have hlt:i<ops.length:=by
  rw[←hT.len];rcases Nat.lt_or_ge i ts.length with h|h
  ·exact h
  ·rw[ar9 h] at hs; cases hs
 obtain⟨o,s',ho,hs',hst⟩:=hT.get hlt;have hn:=(hT.nums hs).2.2.2.2;rw[hs] at hs';cases hs';cases ah4:s.run with
 | false=>
  have hsk:=hst.skip ah4;rw[hsk.rc];exact⟨by simp,by simp⟩
 | true=>
  have hr:=hst.run ah4;rw[hr.rc] at hn ⊢;exact U6 hn
theorem TraceI.mono [Tags] (hT:TraceI E ops all st ts gf gs anc) {i:Nat}:∀ {j:Nat},i<=j->j<=ops.length->(gs i).nxt<=(gs j).nxt
 | 0,h,_=>by rw[show i=0 by omega]; exact Nat.le_refl _
 | j+1,h,hj=>by
  by_cases he:i=j+1
  ·rw[he]; exact Nat.le_refl _
  ·have:=hT.mono (i:=i) (j:=j) (by omega) (by omega);obtain⟨o,s,_,hs,_⟩:=hT.get (show j<ops.length by omega);obtain⟨a1,a2,a3,_⟩:=hT.nums hs;omega
theorem TraceI.apart [Tags] (hT:TraceI E ops all st ts gf gs anc) {k i:Nat} {sk si:Stp} (hk:ts[k]?=some sk) (hi:ts[i]?=some si) (hlt:k<i) (hna:k∉anc i):
  (∀ x∈sk.rc.wr,x∉si.rc.cf)/\(∀ x∈si.rc.wr,x∉sk.rc.cf)/\∀ id∈si.rc.reach,id<sk.rc.lo∨sk.rc.hi<=id:=by
 have ap6:i<ops.length:=by
  rw[←hT.len];rcases Nat.lt_or_ge i ts.length with h|h
  ·exact h
  ·rw[ar9 h] at hi; cases hi
 obtain⟨o,s',ho,hs',hst⟩:=hT.get ap6;rw[hi] at hs';cases hs';cases ah4:si.run with
 | false=>
  have hsk:=hst.skip ah4;rw[hsk.rc];simp
 | true=>
  have hr:=hst.run ah4;have hc:((ts.take i).map (·.rc))[k]?=some sk.rc:=by
   rw[ash,asP hlt,hk];rfl
  exact xc hr.clear k sk.rc hc (by simpa using hna)
variable {E:Env} {ops:List Oper} {all:List (List Nat)} {st:St} {ts:List Stp} {gf:St} {gs:Nat->St} {anc:Nat->List Nat} {S:Nat->Prop} {i:Nat}
theorem ab3 [Tags] (hT:TraceI E ops all st ts gf gs anc) {k m:Nat} {sk sm:Stp} (hk:ts[k]?=some sk) (hm:ts[m]?=some sm) (hlt:k<m) (hna:k∉anc m) {id:Nat} (h1:sk.touch id) (h2:sm.touch id):False:=by
 obtain⟨a1,a2,a3,a4,a5⟩:=hT.nums hk;obtain⟨b1,b2,b3,b4,b5⟩:=hT.nums hm;obtain⟨c1,c2,c3⟩:=hT.apart hk hm hlt hna;have hmn:m<ops.length:=by
  rw[←hT.len];rcases Nat.lt_or_ge m ts.length with h|h
  ·exact h
  ·rw[ar9 h] at hm; cases hm
 have alg:=hT.mono (i:=k+1) (j:=m) hlt (by omega);rcases h2 with h2|⟨h2,h2'⟩
 ·have hr:=b5 id h2;rcases h1 with h1|⟨h1,h1'⟩
  ·exact c1 id h1 ((hT.cfs hm).2 id h2)
  ·have:=c3 id hr; omega
 ·rcases h1 with h1|⟨h1,h1'⟩
  ·have:=a4 id (a5 id h1); omega
  ·omega
theorem xk [Tags] (hT:TraceI E ops all st ts gf gs anc) (hD:∀ j,S j->i∉anc j) (hi:¬ S i) {si:Stp} (hsi:ts[i]?=some si) (id:Nat) [Decidable (si.touch id)]:
  ∀ m,m<=ops.length->yY ts (λ j=>S j∨j=i) st m id=if i<m/\si.touch id then look si.p'.tab id else yY ts S st m id
 | 0,_=>by simp[yY]
 | m+1,h=>by
  have ih:=xk hT hD hi hsi id m (by omega);obtain⟨o,s,_,hs,_⟩:=hT.get (show m<ops.length by omega);simp only[yY,hs];by_cases hmi:m=i
  ·subst hmi;rw[hs] at hsi;cases hsi;simp only[or_true,true_and,Nat.lt_succ_self,hi,false_and,if_false];by_cases ht:si.touch id
   ·simp[ht]
   ·simp only[ht,if_false];rw[ih];simp
  ·by_cases hc:S m/\s.touch id
   ·have hc':(S m∨m=i)/\s.touch id:=⟨.inl hc.1,hc.2⟩
    rw[if_pos hc',if_pos hc];by_cases hlt:i<m
    ·have:¬ si.touch id:=λ ht=>ab3 hT hsi hs hlt (hD m hc.1) ht hc.2;simp[this]
    ·rw[if_neg (by omega)]
   ·have hc':¬ ((S m∨m=i)/\s.touch id):=λ h=>hc ⟨h.1.resolve_right hmi,h.2⟩;rw[if_neg hc',if_neg hc,ih];by_cases hlt:i<m
    ·simp[hlt,Nat.lt_succ_of_lt hlt]
    ·have:¬ i<m+1:=by omega
     simp[hlt,this]
theorem rV:∀ {l:List Oper},(l.filterMap (·.dst)).Nodup->∀ {j k:Nat} {a b:Oper} {t:Nat},l[j]?=some a->l[k]?=some b->a.dst=some t->b.dst=some t->j=k
 | [],_,j,k,a,b,t,hj,_,_,_=>by simp at hj
 | o::l,h,j,k,a,b,t,hj,hk,ha,hb=>by
  have hin:∀ {m:Nat} {c:Oper},l[m]?=some c->c.dst=some t->t∈l.filterMap (·.dst):=λ hm hc=>List.mem_filterMap.2 ⟨_,List.mem_of_getElem? hm,hc⟩;cases j with
  | zero=>
   simp at hj;subst hj;cases k with
   | zero=>rfl
   | succ k=>
    simp at hk;rw[arY,ha] at h;exact absurd (hin hk hb) (List.nodup_cons.1 h).1
  | succ j=>
   simp at hj;cases k with
   | zero=>
    simp at hk;subst hk;rw[arY,hb] at h;exact absurd (hin hj ha) (List.nodup_cons.1 h).1
   | succ k=>
    simp at hk;have h':(l.filterMap (·.dst)).Nodup:=by
     rw[arY] at h;split at h
     ·exact h
     ·exact (List.nodup_cons.1 h).2
    rw[rV h' hj hk ha hb]
def Stp.out (s:Stp) (t:Nat):Option AV:=if s.run=true then s.p'.slots[t]? else some (.tup [])
theorem G4 [Tags] (hT:TraceI E ops all st ts gf gs anc) (hN:(ops.filterMap (·.dst)).Nodup) (hi:¬ S i) {oi:Oper} {si:Stp} (hoi:ops[i]?=some oi) (hsi:ts[i]?=some si) (t:Nat):
  ∀ m,m<=ops.length->yV ops ts (λ j=>S j∨j=i) st m t=if i<m/\oi.dst=some t/\t<st.slots.length then si.out t else yV ops ts S st m t
 | 0,_=>by simp[yV]
 | m+1,h=>by
  have ih:=G4 hT hN hi hoi hsi t m (by omega);obtain⟨o,s,ho,hs,_⟩:=hT.get (show m<ops.length by omega);simp only[yV,ho,hs];by_cases hmi:m=i
  ·subst hmi;rw[hs] at hsi;rw[ho] at hoi;cases hsi;cases hoi;simp only[or_true,true_and,Nat.lt_succ_self,hi,false_and,if_false,Stp.out];by_cases hc:oi.dst=some t/\t<st.slots.length
   ·rw[if_pos hc,if_pos hc]
   ·rw[if_neg hc,if_neg hc,ih];simp
  ·by_cases hc:S m/\o.dst=some t/\t<st.slots.length
   ·have hc':(S m∨m=i)/\o.dst=some t/\t<st.slots.length:=⟨.inl hc.1,hc.2⟩
    rw[if_pos hc',if_pos hc];have hne:¬ (i<m+1/\oi.dst=some t/\t<st.slots.length):=λ h=>hmi (rV hN ho hoi hc.2.1 h.2.1);rw[if_neg hne]
   ·have hc':¬ ((S m∨m=i)/\o.dst=some t/\t<st.slots.length):=λ h=>hc ⟨h.1.resolve_right hmi,h.2⟩;rw[if_neg hc',if_neg hc,ih];by_cases hlt:i<m
    ·simp[hlt,Nat.lt_succ_of_lt hlt]
    ·have:¬ i<m+1:=by omega
     simp[hlt,this]
theorem agE [Tags] (hT:TraceI E ops all st ts gf gs anc) {k:Nat} {sk si:Stp} (hk:ts[k]?=some sk) (hi:ts[i]?=some si) {id:Nat} (hid:id∈si.rc.cf) (ht:sk.touch id) (hki:k<i):k∈anc i:=by
 by_cases h:k∈anc i
 ·exact h
 ·exfalso;obtain⟨c1,c2,c3⟩:=hT.apart hk hi hki h;rcases ht with ht|⟨h1,h2⟩
  ·exact c1 id ht hid
  ·have:=c3 id ((hT.cfs hi).1 id hid); omega
theorem agD [Tags] (hT:TraceI E ops all st ts gf gs anc) {k:Nat} {sk si:Stp} (hk:ts[k]?=some sk) (hi:ts[i]?=some si) {id:Nat} (hid:id∈si.rc.cf) (ht:sk.touch id) (hik:i<k):i∈anc k:=by
 by_cases h:i∈anc k
 ·exact h
 ·exfalso;obtain⟨c1,c2,c3⟩:=hT.apart hi hk hik h;obtain⟨a1,a2,a3,a4,a5⟩:=hT.nums hi;obtain⟨b1,b2,b3,b4,b5⟩:=hT.nums hk;have hkn:k<ops.length:=by
   rw[←hT.len];rcases Nat.lt_or_ge k ts.length with h|h
   ·exact h
   ·rw[ar9 h] at hk; cases hk
  have alg:=hT.mono (i:=i+1) (j:=k) hik (by omega);rcases ht with ht|⟨h1,h2⟩
  ·exact c2 id ht hid
  ·have:=a4 id ((hT.cfs hi).1 id hid); omega
theorem xm [Tags] (hT:TraceI E ops all st ts gf gs anc) (hA:∀ k∈anc i,S k) (hD:∀ j,S j->i∉anc j) (hi:¬ S i) {si:Stp} (hsi:ts[i]?=some si) {id:Nat} (hid:id∈si.rc.cf):
  ∀ m,m<=ops.length->(m<=i->yY ts S st m id=yY ts (λ _=>True) st m id)/\(i<=m->yY ts S st m id=yY ts (λ _=>True) st i id)
 | 0,_=>⟨λ _=>rfl,λ h=>by rw[show i=0 by omega]; rfl⟩
 | m+1,h=>by
  obtain⟨ih1,ih2⟩:=xm hT hA hD hi hsi hid m (by omega);obtain⟨o,s,ho,hs,_⟩:=hT.get (show m<ops.length by omega);have akx:m+1<=i->yY ts S st (m+1) id=yY ts (λ _=>True) st (m+1) id:=by
   intro hm;simp only[yY,hs,true_and];by_cases ht:s.touch id
   ·have hS:S m:=hA m (agE hT hs hsi hid ht (by omega));rw[if_pos ⟨hS,ht⟩,if_pos ⟨trivial,ht⟩]
   ·rw[if_neg (λ h=>ht h.2),if_neg (λ h=>ht h.2)];exact ih1 (by omega)
  refine⟨akx,λ hm => ?_⟩;by_cases he:i=m+1
  ·rw[akx (by omega),he]
  ·simp only[yY,hs];have hno:¬ (S m/\s.touch id):=by
    rintro⟨h1,h2⟩;by_cases hmi:m=i
    ·exact hi (hmi▸h1)
    ·exact hD m h1 (agD hT hs hsi hid h2 (by omega))
   rw[if_neg hno];exact ih2 (by omega)
theorem G6 [Tags] (hT:TraceI E ops all st ts gf gs anc) (hA:∀ k∈anc i,S k) (hi:¬ S i) (hlt:∀ k∈anc i,k<i) {t:Nat} (hgt:∀ k,k<ops.length->∀ j∈anc k,j<k) (hD:∀ j,S j->i∉anc j) (ajD:∀ (k:Nat) (o:Oper),ops[k]?=some o->o.dst=some t->k∈anc i∨i∈anc k):
  ∀ m,m<=ops.length->(m<=i->yV ops ts S st m t=yV ops ts (λ _=>True) st m t)/\(i<=m->yV ops ts S st m t=yV ops ts (λ _=>True) st i t)
 | 0,_=>⟨λ _=>rfl,λ h=>by rw[show i=0 by omega]; rfl⟩
 | m+1,h=>by
  obtain⟨ih1,ih2⟩:=G6 hT hA hi hlt hgt hD ajD m (by omega);obtain⟨o,s,ho,hs,_⟩:=hT.get (show m<ops.length by omega);have akx:m+1<=i->yV ops ts S st (m+1) t=yV ops ts (λ _=>True) st (m+1) t:=by
   intro hm;simp only[yV,ho,hs];by_cases hc:o.dst=some t/\t<st.slots.length
   ·have hS:S m:=(ajD m o ho hc.1).elim (hA m) λ h=>by
     have:=hgt m (by omega) i h;omega
    have e1:S m/\o.dst=some t/\t<st.slots.length:=⟨hS,hc⟩
    have e2:True/\o.dst=some t/\t<st.slots.length:=⟨trivial,hc⟩
    rw[if_pos e1,if_pos e2]
   ·have e1:¬ (S m/\o.dst=some t/\t<st.slots.length):=λ h=>hc h.2;have e2:¬ (True/\o.dst=some t/\t<st.slots.length):=λ h=>hc h.2;rw[if_neg e1,if_neg e2];exact ih1 (by omega)
  refine⟨akx,λ hm => ?_⟩;by_cases he:i=m+1
  ·rw[akx (by omega),he]
  ·simp only[yV,ho,hs];have hno:¬ (S m/\o.dst=some t/\t<st.slots.length):=by
    rintro⟨h1,h2,_⟩;rcases ajD m o ho h2 with h|h
    ·have:=hlt m h;omega
    ·exact hD m h1 h
   rw[if_neg hno];exact ih2 (by omega)
theorem Leaf.lt_of_ids {l:Leaf} {n:Nat} (h:∀ i∈l.ids,i<n):l.lt n:=by
 cases l with
 | sl id=>exact h id (by simp[Leaf.ids])
 | ptr id off=>exact h id (by simp[Leaf.ids])
 | ep id ix esz off=>exact h id (by simp[Leaf.ids])
 | ap id=>exact h id (by simp[Leaf.ids])
 | fn f caps=>exact λ c hc=>h c hc
 | _=>trivial
theorem fY [Tags] {n:Nat}:∀ {ls:List Leaf},(∀ i∈Jy ls,i<n)->∀ l∈ls,l.lt n
 | [],_=>by simp
 | l::ls,h=>by
  intro x hx;rcases List.mem_cons.1 hx with rfl|hx
  ·exact Leaf.lt_of_ids λ i hi=>h i (by simp[Jy,hi])
  ·exact fY (λ i hi=>h i (by simp[Jy,hi])) x hx
theorem V1.lt_of_ids [Tags] {x:V1} {n:Nat} (h:∀ i∈x.ids,i<n):x.lt n:=by
 cases x with
 | one l=>exact Leaf.lt_of_ids h
 | agg ls=>exact fY h
 | any=>trivial
theorem Ao [Tags] {n:Nat}:∀ {ls:List V1},(∀ i∈J4 ls,i<n)->∀ l∈ls,l.lt n
 | [],_=>by simp
 | l::ls,h=>by
  intro x hx;rcases List.mem_cons.1 hx with rfl|hx
  ·exact V1.lt_of_ids λ i hi=>h i (by simp[J4,hi])
  ·exact Ao (λ i hi=>h i (by simp[J4,hi])) x hx
theorem AV.lt_of_ids [Tags] {x:AV} {n:Nat} (h:∀ i∈x.ids,i<n):x.lt n:=by
 cases x with
 | top=>trivial
 | v x=>exact V1.lt_of_ids h
 | tup xs=>exact Ao h
theorem Ent.lt_of_ids [Tags] {x:Ent} {n:Nat} (h:∀ i∈x.ids,i<n):x.lt n:=by
 cases x with
 | box lvl cs=>exact fY h
 | cst cs=>exact fY h
 | arr k lvl E e xs=>trivial
theorem Leaf.ids_lt {l:Leaf} {n:Nat} (h:l.lt n):∀ i∈l.ids,i<n:=by
 cases l with
 | sl id=>intro i hi; simp[Leaf.ids] at hi; subst hi; exact h
 | ptr id off=>intro i hi; simp[Leaf.ids] at hi; subst hi; exact h
 | ep id ix esz off=>intro i hi; simp[Leaf.ids] at hi; subst hi; exact h
 | ap id=>intro i hi; simp[Leaf.ids] at hi; subst hi; exact h
 | fn f caps=>exact h
 | _=>intro i hi; simp[Leaf.ids] at hi
theorem fZ [Tags] {n:Nat}:∀ {ls:List Leaf},(∀ l∈ls,l.lt n)->∀ i∈Jy ls,i<n
 | [],_=>by simp[Jy]
 | l::ls,h=>by
  intro i hi;rcases List.mem_append.1 hi with hi|hi
  ·exact Leaf.ids_lt (h l (by simp)) i hi
  ·exact fZ (λ x hx=>h x (by simp[hx])) i hi
theorem V1.ids_lt [Tags] {x:V1} {n:Nat} (h:x.lt n):∀ i∈x.ids,i<n:=by
 cases x with
 | one l=>exact Leaf.ids_lt h
 | agg ls=>exact fZ h
 | any=>intro i hi; simp[V1.ids] at hi
theorem Ap [Tags] {n:Nat}:∀ {ls:List V1},(∀ l∈ls,l.lt n)->∀ i∈J4 ls,i<n
 | [],_=>by simp[J4]
 | l::ls,h=>by
  intro i hi;rcases List.mem_append.1 hi with hi|hi
  ·exact V1.ids_lt (h l (by simp)) i hi
  ·exact Ap (λ x hx=>h x (by simp[hx])) i hi
theorem AV.ids_lt [Tags] {x:AV} {n:Nat} (h:x.lt n):∀ i∈x.ids,i<n:=by
 cases x with
 | top=>intro i hi; simp[AV.ids] at hi
 | v x=>exact V1.ids_lt h
 | tup xs=>exact Ap h
theorem Ent.ids_lt [Tags] {x:Ent} {n:Nat} (h:x.lt n):∀ i∈x.ids,i<n:=by
 cases x with
 | box lvl cs=>exact fZ h
 | cst cs=>exact fZ h
 | arr k lvl E e xs=>intro i hi; simp[Ent.ids] at hi
theorem EM [Tags] (g:List AV) (hid:List Nat):∀ (xs:List Operand),(YL g hid xs).length=g.length/\
  ∀ (t:Nat) (v:AV),(YL g hid xs)[t]?=some v->v=.top∨(g[t]?=some v/\t∉hid/\Operand.tmp t∈xs)
 | []=>by
  refine⟨by simp[YL],λ t v h => ?_⟩;simp only[YL,ash,Option.map_eq_some_iff] at h;obtain⟨_,_,h⟩:=h;exact .inl h.symm
 | x::xs=>by
  obtain⟨ih1,ih2⟩:=EM g hid xs;have ih2':∀ (t:Nat) (v:AV),(YL g hid xs)[t]?=some v->v=.top∨(g[t]?=some v/\t∉hid/\Operand.tmp t∈x::xs):=by
   intro t v h;rcases ih2 t v h with h|⟨h1,h2,h3⟩
   ·exact .inl h
   ·exact .inr ⟨h1,h2,by simp[h3]⟩
  cases x with
  | tmp t=>
   simp only[YL];split
   ·next v hh hv=>
    refine⟨by simpa using ih1,λ t' v' h => ?_⟩;rcases getElem?_set_ok h with⟨rfl,rfl⟩|h
    ·refine .inr ⟨hv,λ hm => ?_,by simp⟩;rw[arX hm] at hh;cases hh
    ·exact ih2' t' v' h
   ·exact⟨ih1,ih2'⟩
  | const c=>exact⟨ih1,ih2'⟩
  | global c=>exact⟨ih1,ih2'⟩
  | func c=>exact⟨ih1,ih2'⟩
theorem wK {loc:Nat->Value}:∀ {xs:List V1} {vs:List Value},All2 (V1Ok loc) xs vs->All2 (V1Ok loc) (xs.map λ _=>V1.any) vs
 | [],[],_=>trivial
 | _::_,_::_,h=>⟨trivial,wK h.2⟩
 | [],_::_,h=>h.elim
 | _::_,[],h=>h.elim
theorem B2 [Tags] {loc:Nat->Value}:∀ (i:Nat) {xs:List V1} {vs:List Value},All2 (V1Ok loc) xs vs->All2 (V1Ok loc) (kY i xs) vs
 | _,[],[],_=>by cases ‹Nat› <;> trivial
 | 0,_::_,_::_,h=>⟨h.1,wK h.2⟩
 | i+1,_::_,_::_,h=>⟨trivial,B2 i h.2⟩
 | _,[],_::_,h=>h.elim
 | _,_::_,[],h=>h.elim
theorem aaW (op:Op) (sl:List AV):(Lp op sl).length=sl.length:=by
 unfold Lp;split
 ·split<;>simp
 ·rfl
theorem aaX [Tags] {op:Op} {sl:List AV} {t:Nat} {v:AV} (h:(Lp op sl)[t]?=some v):sl[t]?=some v∨∃ xs i,sl[t]?=some (.tup xs)/\v=.tup (kY i xs):=by
 unfold Lp at h;split at h
 ·split at h
  ·next t' i hop xs hx=>
   rcases getElem?_set_ok h with⟨rfl,rfl⟩|h
   ·exact .inr ⟨_,_,hx,rfl⟩
   ·exact .inl h
  ·exact .inl h
 ·exact .inl h
theorem An {st:St} {t:Nat} {v:AV} (hv:st.slots[t]?=some v):∀ {xs:List Operand},Operand.tmp t∈xs->∀ i∈v.ids,i∈Mg st xs
 | [],h=>by simp at h
 | x::xs,h=>by
  intro i hi;rcases List.mem_cons.1 h with rfl|h
  ·simp only[Mg,opnd,hv];simp[hi]
  ·have:=An hv h i hi;simp only[Mg];split
   ·simp[this]
   ·exact this
theorem rK (g:St) (wr:List Nat) (id:Nat):∀ (R:List Nat),look (Ly g wr R) id=
  if id∈R then (look g.tab id).map (λ e=>match wr.elem id with|true=>e|false=>j4 g.lvl (g.lvl+1) e) else none
 | []=>by simp[Ly,look]
 | x::R=>by
  have ih:=rK g wr id R;simp only[Ly];split
  ·next e he=>
   rw[jf,ih];by_cases h:id=x
   ·subst h; rw[if_pos rfl,if_pos (by simp),he]; rfl
   ·simp[h]
  ·next he=>
   rw[ih];by_cases h:id=x
   ·subst h; simp[he]
   ·simp[h]
theorem aes {g:St} {R wr:List Nat} (h:dG g R wr=true):(∀ id∈R,id<g.nxt/\∀ e,look g.tab id=some e->e.upto g.lvl=true/\∀ i∈e.ids,i∈R)/\
  ∀ id∈wr,id∈R/\∃ e,look g.tab id=some e:=by
 simp only[dG,aqF] at h;refine⟨λ id hid => ?_,λ id hid => ?_⟩
 ·have:=List.all_eq_true.1 h.1 id hid;simp only[aqF] at this;refine⟨Nat.le_of_ble_eq_true this.1,λ e he => ?_⟩;have h2:=this.2;rw[he] at h2;simp only[aqF] at h2;exact⟨h2.1,λ i hi=>List.mem_of_elem_eq_true (List.all_eq_true.1 h2.2 i hi)⟩
 ·have:=List.all_eq_true.1 h.2 id hid;simp only[aqF] at this;exact⟨List.mem_of_elem_eq_true this.1,Option.isSome_iff_exists.1 this.2⟩
theorem rJ:∀ {tab:List (Nat×Ent)} {id:Nat} {e:Ent},look tab id=some e->(id,e)∈tab
 | [],id,e,h=>by cases h
 | (k,x)::t,id,e,h=>by
  rw[jf] at h;split at h
  ·next hh=>cases h; subst hh; simp
  ·exact List.mem_cons_of_mem _ (rJ h)
theorem cG [Tags] {R wr:List Nat} {lo:Nat} {dst:Option Nat} {p:St} (h:NI R wr lo dst p=true):lo<=p.nxt/\
  (∀ d,dst=some d->∃ v,p.slots[d]?=some v/\∀ i∈v.ids,i∈R∨(lo<=i/\i<p.nxt))/\
  ∀ (id:Nat) (e:Ent),look p.tab id=some e->id<p.nxt/\((lo<=id∨id∈wr)->∀ i∈e.ids,i∈R∨(lo<=i/\i<p.nxt)):=by
 simp only[NI,aqF] at h;obtain⟨⟨h1,h2⟩,h3⟩:=h;have hok:∀ l:List Nat,(l.all λ i=>R.elem i || (Nat.ble lo i && Nat.blt i p.nxt))=true->∀ i∈l,i∈R∨(lo<=i/\i<p.nxt):=by
  intro l hl i hi;have:=List.all_eq_true.1 hl i hi;simp only[arj,aqF] at this;rcases this with h|⟨h,h'⟩
  ·exact .inl (List.mem_of_elem_eq_true h)
  ·exact .inr ⟨Nat.le_of_ble_eq_true h,Nat.le_of_ble_eq_true h'⟩
 refine⟨Nat.le_of_ble_eq_true h1,?_,?_⟩
 ·intro d hd;subst hd;simp only at h2;split at h2
  ·next v hv=>exact⟨v,hv,hok _ h2⟩
  ·cases h2
 ·intro id e he;have:=List.all_eq_true.1 h3 (id,e) (rJ he);simp only[aqF] at this;refine⟨Nat.le_of_ble_eq_true this.1,λ hid => ?_⟩;have h4:=this.2;split at h4
  ·exact hok _ h4
  ·next hf=>
   simp only[arV] at hf;rcases hid with hid|hid
   ·rw[Nat.ble_eq_true_of_le hid] at hf; cases hf.1
   ·rw[arX hid] at hf; cases hf.2
theorem Aj {i:Nat} {anc:List Nat} {t:Nat}:∀ {l:List Oper} {j:Nat},t∉YH all i anc l j->∀ (k:Nat) (o:Oper),l[k]?=some o->o.dst=some t->j+k∈anc∨oz all (j+k) i=true
 | [],j,h,k,o,ho,hd=>by simp at ho
 | x::l,j,h,k,o,ho,hd=>by
  cases k with
  | zero=>
   simp at ho;subst ho;simp only[YH,hd] at h;split at h
   ·next ha=>
    rcases (Bool.or_eq_true _ _).mp ha with ha|ha
    ·exact .inl (List.mem_of_elem_eq_true ha)
    ·exact .inr ha
   ·simp at h
  | succ k=>
   simp at ho;have h':t∉YH all i anc l (j+1):=by
    simp only[YH] at h;split at h
    ·split at h
     ·exact h
     ·exact λ hm=>h (List.mem_cons_of_mem _ hm)
    ·exact h
   have:=Aj h' k o ho hd
   rwa [show j+1+k=j+(k+1) by omega] at this
theorem oN:∀ {l acc:List Nat} {k:Nat},k∈bz l acc->k∈l∨k∈acc
 | [],acc,k,h=>.inr h
 | x::r,acc,k,h=>by
  simp only[bz] at h;split at h
  ·rcases oN h with h|h
   ·exact .inl (List.mem_cons_of_mem _ h)
   ·exact .inr h
  ·rcases oN h with h|h
   ·exact .inl (List.mem_cons_of_mem _ h)
   ·rcases List.mem_cons.1 h with rfl|h
    ·exact .inl List.mem_cons_self
    ·exact .inr h
theorem bA [Tags] {ancs:List (List Nat)}:∀ {es:List Edge} {k:Nat},k∈jI ancs es->∃ e∈es,Region.binds .any e=true/\∃ l,ancs[e.on]?=some l/\(k=e.on∨k∈l)
 | [],k,h=>by simp[jI] at h
 | e::es,k,h=>by
  simp only[jI] at h;split at h
  ·next hb=>
   split at h
   ·next l hl=>
    rcases oN h with h|h
    ·rcases List.mem_cons.1 h with rfl|h
     ·exact⟨e,by simp,hb,l,hl,.inl rfl⟩
     ·exact⟨e,by simp,hb,l,hl,.inr h⟩
    ·obtain⟨e',h1,h2⟩:=bA h;exact⟨e',List.mem_cons_of_mem _ h1,h2⟩
   ·obtain⟨e',h1,h2⟩:=bA h;exact⟨e',List.mem_cons_of_mem _ h1,h2⟩
  ·obtain⟨e',h1,h2⟩:=bA h;exact⟨e',List.mem_cons_of_mem _ h1,h2⟩
theorem oT {anc:Nat->List Nat} {i j:Nat} {l:List Nat} (h:((List.range i).map anc)[j]?=some l):j<i/\l=anc j:=by
 have hj:j<i:=by
  rcases Nat.lt_or_ge j i with h'|h'
  ·exact h'
  ·rw[ar9 (by simpa using h')] at h; cases h
 refine⟨hj,?_⟩;rw[ash,asU hj] at h;simpa using h.symm
theorem TraceI.anc_lt [Tags] (hT:TraceI E ops all st ts gf gs anc):∀ i,i<ops.length->∀ k∈anc i,k<i:=by
 intro i;induction i using Nat.strongRecOn with
 | ind i ih=>
  intro hi k hk;rw[hT.anc i _ (arf hi)] at hk;obtain⟨e,he,hb,l,hl,hkl⟩:=bA hk;obtain⟨h1,rfl⟩:=oT hl;rcases hkl with rfl|hkl
  ·exact h1
  ·exact Nat.lt_trans (ih e.on h1 (by omega) k hkl) h1
theorem TraceI.anc_in [Tags] (hT:TraceI E ops all st ts gf gs anc) (hD:∀ j,S j->∀ k∈anc j,S k) {i:Nat} {o:Oper} (ho:ops[i]?=some o) (he:∀ e∈o.after.toList,Region.binds .any e=true->S e.on):∀ k∈anc i,S k:=by
 intro k hk;rw[hT.anc i o ho] at hk;obtain⟨e,he',hb,l,hl,hkl⟩:=bA hk;obtain⟨h1,rfl⟩:=oT hl;rcases hkl with rfl|hkl
 ·exact he e he' hb
 ·exact hD e.on (he e he' hb) k hkl
theorem xB:∀ {l:List Oper} {j:Nat},qK l j=true->∀ (k:Nat) (o:Oper),l[k]?=some o->∀ e∈o.after.toList,Region.binds .any e=true->e.on<j+k
 | [],j,h,k,o,ho,e,he,hb=>by simp at ho
 | x::l,j,h,k,o,ho,e,he,hb=>by
  simp only[qK,aqF] at h;cases k with
  | zero=>
   simp at ho;subst ho;have:=List.all_eq_true.1 h.1 e he;simp only[hb,aqI,asl] at this;exact Nat.le_of_ble_eq_true this
  | succ k=>
   simp at ho;have:=xB h.2 k o ho e he hb;omega
theorem wJ {anc:Nat->List Nat}:∀ (l pre:List Oper),(∀ (i:Nat) (o:Oper),(pre++l)[i]?=some o->anc i=jI ((List.range i).map anc) o.after.toList)->
  L1 l ((List.range pre.length).map anc)=(List.range (pre++l).length).map anc
 | [],pre,_=>by simp[L1]
 | o::l,pre,h=>by
  have h0:=h pre.length o (by simp);have apt:(List.range (pre++[o]).length).map anc=(List.range pre.length).map anc++[jI ((List.range pre.length).map anc) o.after.toList]:=by
   rw[←h0];simp[asE]
  have:=wJ l (pre++[o]) (by simpa using h);rw[apt] at this;simp only[L1];rw[this];simp
theorem TraceI.waits [Tags] (hT:TraceI E ops all st ts gf gs anc) (hall:all=L1 ops []) {k i:Nat} (h:oz all k i=true):i∈anc k:=by
 have h1:=wJ (anc:=anc) ops [] (by simpa using hT.anc);simp only[aqJ,List.range_zero,arn,ar6] at h1;rw[hall,h1] at h;unfold oz at h;split at h
 ·next l hl=>
  obtain⟨_,rfl⟩:=oT hl;exact List.mem_of_elem_eq_true h
 ·cases h
end Ev
