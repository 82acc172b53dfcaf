/- The evaluator of the own library, part 4: its words, its soundness. Conditions: none of its own. -/
import Derived.Test.YtbpajdecanoolaaGreatDoorLibC
set_option linter.unusedSimpArgs false
set_option linter.unusedVariables false
namespace Ev
open Go
variable {P:Program} {o:Oper} {a:Act} {w w':World} {next:Act->World->Prop} {Q:Exit->Act->World->Prop}
variable {E:Env} {B:Nat} {X:List Nat} {A:Ctx} {w0:World} {γ γ':Nat->Own} {loc loc':Nat->Value} {st st1:St} {R:Type} {k:St->Option R} {r:R}
theorem Er {k:Kind} {lvl:Nat} {t:Ty} {ts:List Ty} {v:dens (t::ts)} {j j':Nat} {out:List V1} {es:List (Nat×Ent)} (h:ZF k lvl (t::ts) v j=some (out,es,j')):
  ∃ x xs es2,Yf t (zd k lvl t v.1 j).1=some x/\ZF k lvl ts v.2 (zd k lvl t v.1 j).2.2=some (xs,es2,j')/\out=x::xs/\es=(zd k lvl t v.1 j).2.1++es2:=by
 unfold ZF at h;cases hs:zd k lvl t v.1 j with
 | mk ls rest=>
  obtain⟨es1,j1⟩:=rest;rw[hs] at h;simp only at h;split at h
  ·next x xs es2 j2 h1 h2=>
   simp only[apP,apV] at h;obtain⟨rfl,rfl,rfl⟩:=h;exact⟨x,xs,es2,h1,h2,rfl,rfl⟩
  ·cases h
theorem Es {w:World} (lvl:Nat):∀ (ts:List Ty) (v:dens ts) (j:Nat) (css:List (List Value)) (fs:List Nat) (loc:Nat->Value) (out:List V1) (es:List (Nat×Ent)) (j':Nat),
  ZF (.imm false) lvl ts v j=some (out,es,j')->∀ xs,RetL w .shared ts v css xs fs->(∀ b∈fs,γ b=.persist)->
  ∃ loc',(∀ i,(i<j∨j'<=i)->loc' i=loc i)/\j<=j'/\All2 (V1Ok loc') out (ZM ts css)/\(∀ x∈out,x.lt j')/\
   (∀ (id:Nat) (e:Ent),look es id=some e->EntOk γ loc' w id e/\j<=id/\id<j'/\e.lt j')
 | [],v,j,css,fs,loc,out,es,j',h,xs,hR,hf=>by
  simp only[ZF,apP,apV] at h;obtain⟨rfl,rfl,rfl⟩:=h;obtain⟨rfl,_,_⟩:=hR;exact⟨loc,λ _ _=>rfl,Nat.le_refl _,trivial,by simp,by simp[look]⟩
 | t::ts,v,j,css,fs,loc,out,es,j',h,xs,hR,hf=>by
  obtain⟨x,ys,es2,hmk,afU,rfl,rfl⟩:=Er h;obtain⟨cs,css',x1,x2,f1,f2,rfl,rfl,rfl,h1,h2⟩:=hR;obtain⟨loc1,a1,a2,a3⟩:=KS (γ:=γ) (taint:=false) lvl t v.1 j cs f1 loc h1.2 (λ b hb=>.inl (hf b (by simp[hb])));have so:=jo (.imm false) lvl t v.1 j;obtain⟨loc2,b1,b0,b2,b3,b4⟩:=Es lvl ts v.2 _ css' f2 loc1 ys es2 j' afU x2 h2 (λ b hb=>hf b (by simp[hb]));obtain⟨m1,m2⟩:=Lm hmk a2 so.lt;have hle:=so.le;refine⟨loc2,?_,by omega,⟨m1.loc m2 (λ i hi=>b1 i (.inl hi)),b2⟩,?_,?_⟩
  ·intro i hi;rw[b1 i (by omega),a1 i (by omega)]
  ·intro y hy;rcases List.mem_cons.1 hy with rfl|hy
   ·exact V1.lt_mono b0 m2
   ·exact b3 y hy
  ·intro id e hid;rw[ZV] at hid;cases hh:look (zd (.imm false) lvl t v.1 j).2.1 id with
   | some e'=>
    rw[hh] at hid;simp at hid;subst hid;obtain⟨g1,g2,E',et,xs,rfl⟩:=so.keys id _ hh;exact⟨(a3 id _ hh).arrLoc (b1 id (.inl g2)),g1,by omega,trivial⟩
   | none=>
    rw[hh] at hid;simp at hid;obtain⟨c1,c2,c3,c4⟩:=b4 id e hid;exact⟨c1,by omega,c3,c4⟩
theorem Eu {w:World} (rk:RK) (hrk:rk ≠ .shared) (u:Bool) (lvl:Nat):∀ (ts:List Ty) (v:dens ts) (j:Nat) (css:List (List Value)) (xs fs:List Nat) (loc:Nat->Value) (γ:Nat->Own) (out:List V1) (es:List (Nat×Ent)) (j':Nat),
  ZF (.own u) lvl ts v j=some (out,es,j')->RetL w rk ts v css xs fs->xs.Nodup->(∀ b∈xs,b∉fs)->(u=true->fs.Nodup)->(u=false->∀ b∈fs,γ b=.persist)->
  ∃ (loc':Nat->Value) (γ':Nat->Own),(∀ i,(i<j∨j'<=i)->loc' i=loc i)/\j<=j'/\All2 (V1Ok loc') out (ZM ts css)/\(∀ x∈out,x.lt j')/\
   (∀ b,b∉xs->b∉fs->γ' b=γ b)/\(u=false->∀ b,b∉xs->γ' b=γ b)/\
   (∀ (id:Nat) (e:Ent),look es id=some e->EntOk γ' loc' w id e/\j<=id/\id<j'/\e.lt j')
 | [],v,j,css,xs,fs,loc,γ,out,es,j',h,hR,_,_,_,_=>by
  simp only[ZF,apP,apV] at h;obtain⟨rfl,rfl,rfl⟩:=h;obtain⟨rfl,_,_⟩:=hR;exact⟨loc,γ,λ _ _=>rfl,Nat.le_refl _,trivial,by simp,by simp,by simp,by simp[look]⟩
 | t::ts,v,j,css,xs,fs,loc,γ,out,es,j',h,hR,hx,hxf,hfu,hfp=>by
  obtain⟨x,ys,es2,hmk,afU,rfl,rfl⟩:=Er h;obtain⟨cs,css',x1,x2,f1,f2,rfl,rfl,rfl,h1,h2⟩:=hR;have h1:RdO w t v.1 cs x1 f1:=by
   cases rk with
   | shared=>exact absurd rfl hrk
   | own=>exact h1
   | uniq=>exact h1
  obtain⟨nx1,nx2,nx3⟩:=List.nodup_append.1 hx;obtain⟨loc1,γ1,a1,a2,a3,a4,a5,a6,a7⟩:=ev u lvl t v.1 j cs x1 f1 loc γ h1 nx1 (λ b hb hb'=>hxf b (by simp[hb]) (by simp[hb']))
   (λ hu=>(List.nodup_append.1 (hfu hu)).1) (λ hu b hb=>hfp hu b (by simp[hb]))
  have so:=jo (.own u) lvl t v.1 j;obtain⟨loc2,γ2,b1,b0,b2,b3,b4,b5,b6⟩:=Eu rk hrk u lvl ts v.2 _ css' x2 f2 loc1 γ1 ys es2 j' afU h2 nx2 (λ b hb hb'=>hxf b (by simp[hb]) (by simp[hb']))
   (λ hu=>(List.nodup_append.1 (hfu hu)).2.1) (λ hu b hb=>by
    rw[a4 hu b (λ hb'=>hxf b (by simp[hb']) (by simp[hb]))];exact hfp hu b (by simp[hb]))
  obtain⟨m1,m2⟩:=Lm hmk a2 so.lt;have hle:=so.le;refine⟨loc2,γ2,?_,by omega,⟨m1.loc m2 (λ i hi=>b1 i (.inl hi)),b2⟩,?_,?_,?_,?_⟩
  ·intro i hi;rw[b1 i (by omega),a1 i (by omega)]
  ·intro y hy;rcases List.mem_cons.1 hy with rfl|hy
   ·exact V1.lt_mono b0 m2
   ·exact b3 y hy
  ·intro b hb hb';simp only[aqd,not_or] at hb hb';rw[b4 b hb.2 hb'.2,a3 b hb.1 hb'.1]
  ·intro hu b hb;simp only[aqd,not_or] at hb;rw[b5 hu b hb.2,a4 hu b hb.1]
  ·intro id e hid;rw[ZV] at hid;cases hh:look (zd (.own u) lvl t v.1 j).2.1 id with
   | some e'=>
    rw[hh] at hid;simp at hid;subst hid;obtain⟨g1,g2,E',et,zs,rfl⟩:=so.keys id _ hh;refine⟨(a7 γ2 ?_ ?_ id _ hh).arrLoc (b1 id (.inl g2)),g1,by omega,trivial⟩
    ·intro b hb;exact b4 b (λ hb'=>nx3 b hb b hb' rfl) (λ hb'=>hxf b (by simp[hb]) (by simp[hb']))
    ·intro b hb;have hn2:b∉x2:=λ hb'=>hxf b (by simp[hb']) (by simp[hb]);cases u with
     | false=>exact b5 rfl b hn2
     | true=>exact b4 b hn2 (λ hb'=>(List.nodup_append.1 (hfu rfl)).2.2 b hb b hb' rfl)
   | none=>
    rw[hh] at hid;simp at hid;obtain⟨c1,c2,c3,c4⟩:=b6 id e hid;exact⟨c1,by omega,c3,c4⟩
theorem Ea {rets:List Ty} {lvl:Nat} {t:Ty} {ps:List (PK×Ty)} {pids:List Nat} {v:zQ ((.ptr,t)::ps) rets} {tab:List (Nat×Ent)} {j:Nat} {x:List (Nat×Ent)×Nat×dens rets}
  (h:Yk rets lvl ((.ptr,t)::ps) pids v tab j=some x):
  ∃ id ids l0 cells,pids=id::ids/\look tab id=some (.box l0 cells)/\Yk rets lvl ps ids v.2 (yx tab id (.box lvl (mixLs t v.1 cells).1)) j=some x:=by
 unfold Yk at h;split at h
 ·next id ids=>
  split at h
  ·next l0 cells hl=>exact⟨id,ids,l0,cells,rfl,hl,h⟩
  ·cases h
 ·cases h
theorem rf {loc:Nat->Value}:∀ (t:Ty) (v:den t) (ls:List Leaf) (c1 c2 d1:List Value),All2 (LeafOk loc) ls (c1++c2)->qq t v c1 d1->
  All2 (LeafOk loc) (mixLs t v ls).1 d1/\All2 (LeafOk loc) (mixLs t v ls).2 c2/\(∀ l∈(mixLs t v ls).1,(∀ n,l.lt n)∨l∈ls)/\∀ l∈(mixLs t v ls).2,l∈ls
 | .i64,v,ls,c1,c2,d1,h,hk=>by
  obtain⟨h1,rfl,h3⟩:=hk
  match c1,h1,ls,h with
  | [c],_,l::r,h=>exact⟨⟨⟨rfl,h3⟩,trivial⟩,h.2,by simp[mixLs,Leaf.lt],by simp +contextual [mixLs]⟩
 | .u8,v,ls,c1,c2,d1,h,hk=>by
  obtain⟨h1,rfl⟩:=hk
  match c1,h1,ls,h with
  | [c],_,l::r,h=>exact⟨⟨rfl,trivial⟩,h.2,by simp[mixLs,Leaf.lt],by simp +contextual [mixLs]⟩
 | .bool,v,ls,c1,c2,d1,h,hk=>by
  obtain⟨h1,rfl⟩:=hk
  match c1,h1,ls,h with
  | [c],_,l::r,h=>exact⟨⟨rfl,trivial⟩,h.2,by simp[mixLs,Leaf.lt],by simp +contextual [mixLs]⟩
 | .str,v,ls,c1,c2,d1,h,hk=>by
  obtain⟨h1,rfl,h3⟩:=hk
  match c1,h1,ls,h with
  | [c],_,l::r,h=>exact⟨⟨⟨rfl,h3⟩,trivial⟩,h.2,by simp[mixLs,Leaf.lt],by simp +contextual [mixLs]⟩
 | .sl _ _,v,ls,c1,c2,d1,h,hk=>by
  obtain⟨h1,rfl⟩:=hk
  match d1,h1,ls,h with
  | [c],_,l::r,h=>exact⟨⟨h.1,trivial⟩,h.2,by simp[mixLs],by simp +contextual [mixLs]⟩
 | .pair a b,v,ls,c1,c2,d1,h,hk=>by
  obtain⟨e1,e2,f1,f2,rfl,rfl,h3,h4⟩:=hk;rw[aqj] at h;obtain⟨a1,a2,a3,a4⟩:=rf a v.1 ls e1 (e2++c2) f1 h h3;obtain⟨b1,b2,b3,b4⟩:=rf b v.2 (mixLs a v.1 ls).2 e2 c2 f2 a2 h4;refine⟨a1.append b1,b2,?_,λ l hl=>a4 l (b4 l hl)⟩;intro l hl;have hl:l∈(mixLs a v.1 ls).1++(mixLs b v.2 (mixLs a v.1 ls).2).1:=hl;rcases List.mem_append.1 hl with hl|hl
  ·exact a3 l hl
  ·exact (b3 l hl).imp id (a4 l)
theorem XU {loc:Nat->Value} {n:Nat} {t:Ty} {v:den t} {ls:List Leaf} {cs ds:List Value} (h:All2 (LeafOk loc) ls cs) (hk:qq t v cs ds) (hlt:∀ l∈ls,l.lt n):
  All2 (LeafOk loc) (mixLs t v ls).1 ds/\∀ l∈(mixLs t v ls).1,l.lt n:=by
 obtain⟨h1,_,h3,_⟩:=rf t v ls cs [] ds (by simpa using h) hk;exact⟨h1,λ l hl=>(h3 l hl).elim (λ h=>h n) (hlt l)⟩
theorem QO {w1:World} {n:Nat} {rk:RK} {rr xo pt:List Nat} {rets:List Ty} {v:Value} {lvl:Nat}:
  ∀ (ps:List (PK×Ty)) (pids:List Nat) (outs:zQ ps rets) (xp:List Nat) (tab:List (Nat×Ent)) (j:Nat) (loc:Nat->Value) (tab':List (Nat×Ent)) (j':Nat) (rs:dens rets),pids.Nodup->
   Yk rets lvl ps pids outs tab j=some (tab',j',rs)->OutOk w1 w' n rk rr xo pt rets v ps outs xp->
   All2 (λ i b=>loc i=.pointer (some ⟨b,0,none⟩)/\γ b=.top i) pids xp->(∀ i∈pids,i<j)->
   (∀ i∈pids,∀ l0 cells b arr T fr,look tab i=some (.box l0 cells)->loc i=.pointer (some ⟨b,0,none⟩)->w1.heap[b]?=some (.cells arr T fr)->All2 (LeafOk loc) cells arr.toList/\∀ l∈cells,l.lt j)->
   (∀ (id:Nat) (e:Ent),look tab id=some e->id∈pids∨(EntOk γ loc w' id e/\e.lt j/\id<j))->
   j'=j/\KZ w' n rk rr xo pt rets v rs/\
    (∀ (id:Nat) (e:Ent),look tab' id=some e->EntOk γ loc w' id e/\e.lt j'/\id<j')/\(∀ id,id∉pids->look tab' id=look tab id)
 | [],pids,outs,xp,tab,j,loc,tab',j',rs,hnd,h,hO,hp,hlt,hold,hI=>by
  simp only[Yk,apP,apV] at h;obtain⟨rfl,rfl,rfl⟩:=h;obtain⟨rfl,hR⟩:=hO;cases pids with
  | cons _ _=>exact hp.elim
  | nil=>exact⟨rfl,hR,λ id e he=>(hI id e he).resolve_left (by simp),λ _ _=>rfl⟩
 | (.rd,t)::ps,pids,outs,xp,tab,j,loc,tab',j',rs,hnd,h,hO,hp,hlt,hold,hI=>QO ps pids outs xp tab j loc tab' j' rs hnd h hO hp hlt hold hI
 | (.own,t)::ps,pids,outs,xp,tab,j,loc,tab',j',rs,hnd,h,hO,hp,hlt,hold,hI=>QO ps pids outs xp tab j loc tab' j' rs hnd h hO hp hlt hold hI
 | (.cap,t)::ps,pids,outs,xp,tab,j,loc,tab',j',rs,hnd,h,hO,hp,hlt,hold,hI=>QO ps pids outs xp tab j loc tab' j' rs hnd h hO hp hlt hold hI
 | (.clo f,t)::ps,pids,outs,xp,tab,j,loc,tab',j',rs,hnd,h,hO,hp,hlt,hold,hI=>QO ps pids outs xp tab j loc tab' j' rs hnd h hO hp hlt hold hI
 | (.ptr,t)::ps,pids,outs,xp,tab,j,loc,tab',j',rs,hnd,h,hO,hp,hlt,hold,hI=>by
  obtain⟨id,ids,l0,cells,rfl,hl,h⟩:=Ea h;obtain⟨b,xp',arr0,T0,fr0,arr,T,fr,rfl,h0,h1,h2,h3,h5⟩:=hO;obtain⟨⟨p1,p2⟩,p3⟩:=hp;obtain⟨n1,n2⟩:=List.nodup_cons.1 hnd;have al0:=hlt id (by simp);obtain⟨o1,o2⟩:=hold id (by simp) l0 cells b arr0 T0 fr0 hl p1 h0;obtain⟨m1,m2⟩:=XU o1 h3 o2;have hI':∀ (i:Nat) (e:Ent),look (yx tab id (.box lvl (mixLs t outs.1 cells).1)) i=some e->i∈ids∨(EntOk γ loc w' i e/\e.lt j/\i<j):=by
   intro i e he;rw[ZW] at he;split at he
   ·next hi=>
    subst hi;rw[hl] at he;simp only[aqz,apP] at he;subst he;exact .inr ⟨⟨b,arr,T,fr,p1,h1,h2,p2,m1⟩,m2,al0⟩
   ·next hi=>
    rcases hI i e he with hm|hm
    ·left;rcases List.mem_cons.1 hm with hm|hm
     ·exact absurd hm hi
     ·exact hm
    ·exact .inr hm
  obtain⟨b1,b2,b3,b4⟩:=QO ps ids outs.2 xp' (yx tab id (.box lvl (mixLs t outs.1 cells).1)) j loc tab' j' rs n2 h h5 p3 (λ i hi=>hlt i (by simp[hi]))
   (λ i hi l0 cells b arr T fr he=>by
    rw[ZW,if_neg (λ e:i=id=>n1 (e▸hi))] at he;exact hold i (by simp[hi]) l0 cells b arr T fr he) hI'
  refine⟨b1,b2,b3,?_⟩;intro i hni;simp only[aqb,not_or] at hni;rw[b4 i hni.2,ZW,if_neg hni.1]
theorem Bu (hr:Rel0 B X A w0 γ loc st a w):∀ {xs:List Operand} {as:List AV},opnds st xs=some as->All2 (AVOk loc) as (xs.map a.eval)
 | [],as,h=>by simp only[opnds,apP] at h; subst h; trivial
 | x::xs,as,h=>by
  simp only[opnds] at h;split at h
  ·next y ys h1 h2=>cases h; exact⟨(Jz hr h1).1,Bu hr h2⟩
  ·cases h
theorem ArgsOk.lt {w:World}:∀ {ps:List (PK×Ty)} {vs:yc ps} {vals:List Value} {r rp rc xo xp:List Nat},ArgsOk w ps vs vals r rp rc xo xp->
  (∀ b∈r,b<w.heap.size)/\(∀ b∈rp,b<w.heap.size)/\(∀ b∈rc,b<w.heap.size)/\(∀ b∈xo,b<w.heap.size)/\(∀ b∈xp,b<w.heap.size)
 | [],vs,vals,r,rp,rc,xo,xp,h=>by obtain⟨_,rfl,rfl,rfl,rfl,rfl⟩:=h; simp
 | (.rd,t)::ps,vs,vals,r,rp,rc,xo,xp,h=>by
  obtain⟨cs,vs',fp,r',_,h1,rfl,h2⟩:=h;obtain⟨k1,k2,k3,k4,k5⟩:=h2.lt;exact⟨λ b hb=>(List.mem_append.1 hb).elim (h1.lt b) (k1 b),k2,k3,k4,k5⟩
 | (.own,t)::ps,vs,vals,r,rp,rc,xo,xp,h=>by
  obtain⟨cs,vs',xs,fs,r',xo',_,h1,rfl,rfl,h2⟩:=h;obtain⟨k1,k2,k3,k4,k5⟩:=h2.lt;exact⟨λ b hb=>(List.mem_append.1 hb).elim (h1.lt.2 b) (k1 b),k2,k3,λ b hb=>(List.mem_append.1 hb).elim (h1.lt.1 b) (k4 b),k5⟩
 | (.ptr,t)::ps,vs,vals,r,rp,rc,xo,xp,h=>by
  obtain⟨b0,vs',arr,T,fr,fp,rp',xp',_,hb,_,h1,rfl,rfl,h2⟩:=h;obtain⟨k1,k2,k3,k4,k5⟩:=h2.lt;exact⟨k1,λ b hb=>(List.mem_append.1 hb).elim (h1.lt b) (k2 b),k3,k4,λ b hb'=>(List.mem_cons.1 hb').elim (λ e=>e▸j9 hb) (k5 b)⟩
 | (.cap,t)::ps,vs,vals,r,rp,rc,xo,xp,h=>by
  obtain⟨b0,vs',arr,T,fr,fp,r',rc',_,hb,h1,rfl,rfl,h2⟩:=h;obtain⟨k1,k2,k3,k4,k5⟩:=h2.lt;exact⟨λ b hb=>(List.mem_append.1 hb).elim (h1.lt b) (k1 b),k2,λ b hb'=>(List.mem_cons.1 hb').elim (λ e=>e▸j9 hb) (k3 b),k4,k5⟩
 | (.clo f,t)::ps,vs,vals,r,rp,rc,xo,xp,h=>by
  obtain⟨b0,vs',arr,T,fr,fp,r',rc',_,hb,h1,rfl,rfl,h2⟩:=h;obtain⟨k1,k2,k3,k4,k5⟩:=h2.lt;exact⟨λ b hb=>(List.mem_append.1 hb).elim (h1.lt b) (k1 b),k2,λ b hb'=>(List.mem_cons.1 hb').elim (λ e=>e▸j9 hb) (k3 b),k4,k5⟩
theorem OutOk.rets {w1 w:World} {n:Nat} {rk:RK} {rr xo pt:List Nat} {rets:List Ty} {v:Value} {lvl:Nat}:∀ (ps:List (PK×Ty)) (pids:List Nat) (outs:zQ ps rets) (xp:List Nat) (tab:List (Nat×Ent)) (j:Nat)
  (x:List (Nat×Ent)×Nat×dens rets),Yk rets lvl ps pids outs tab j=some x->OutOk w1 w n rk rr xo pt rets v ps outs xp->KZ w n rk rr xo pt rets v x.2.2
 | [],pids,outs,xp,tab,j,x,h,hO=>by simp only[Yk,apP] at h; subst h; exact hO.2
 | (.rd,t)::ps,pids,outs,xp,tab,j,x,h,hO=>OutOk.rets ps pids outs xp tab j x h hO
 | (.own,t)::ps,pids,outs,xp,tab,j,x,h,hO=>OutOk.rets ps pids outs xp tab j x h hO
 | (.cap,t)::ps,pids,outs,xp,tab,j,x,h,hO=>OutOk.rets ps pids outs xp tab j x h hO
 | (.clo f,t)::ps,pids,outs,xp,tab,j,x,h,hO=>OutOk.rets ps pids outs xp tab j x h hO
 | (.ptr,t)::ps,pids,outs,xp,tab,j,x,h,hO=>by
  obtain⟨id,ids,l0,cells,rfl,hl,h⟩:=Ea h;obtain⟨b,xp',arr0,T0,fr0,arr,T,fr,rfl,h0,h1,h2,h3,h5⟩:=hO;exact OutOk.rets ps ids outs.2 xp' _ _ x h h5
theorem tL {xs:List V1} {vs:List Value} (h:All2 (V1Ok loc) xs vs):AVOk loc (QT xs) (YG vs):=by
 match xs,vs,h with
 | [],[],h=>exact⟨[],rfl,trivial⟩
 | [x],[v],h=>exact h.1
 | x::y::xs,u::v::vs,h=>exact⟨u::v::vs,rfl,h⟩
theorem tK {xs:List V1} {n:Nat} (h:∀ x∈xs,x.lt n):AV.lt n (QT xs):=by
 match xs,h with
 | [],h=>exact h
 | [x],h=>exact h x (by simp)
 | x::y::xs,h=>exact h
def MS (st:St) (i:Nat):Prop:=∃ k lvl E e xs,look st.tab i=some (.arr k lvl E e xs)
theorem oH:∀ (t:Ty) (ls:List Leaf) (v:den t) (r:List Leaf),zE st.tab t ls=some (v,r)->∀ i∈zZ ls,MS st i∨i∈zZ r
 | .i64,ls,v,r,h=>by
  match ls,h with
  | .i n::r',h=>simp only[zE,apP,apV] at h; intro i hi; right; rw[←h.2]; exact hi
 | .u8,ls,v,r,h=>by
  match ls,h with
  | .u n::r',h=>simp only[zE,apP,apV] at h; intro i hi; right; rw[←h.2]; exact hi
 | .bool,ls,v,r,h=>by
  match ls,h with
  | .b n::r',h=>simp only[zE,apP,apV] at h; intro i hi; right; rw[←h.2]; exact hi
 | .str,ls,v,r,h=>by
  match ls,h with
  | .s n::r',h=>simp only[zE,apP,apV] at h; intro i hi; right; rw[←h.2]; exact hi
 | .sl E e,ls,v,r,h=>by
  match ls,h with
  | .nil::r',h=>simp only[zE,apP,apV] at h; intro i hi; right; rw[←h.2]; exact hi
  | .sl id::r',h=>
   simp only[zE] at h;split at h
   ·next k lvl E' e' xs hl=>
    split at h
    ·next ys hc=>
     simp only[apP,apV] at h;intro i hi;simp only[zZ,aqb] at hi;rcases hi with rfl|hi
     ·exact .inl ⟨k,lvl,E',e',xs,hl⟩
     ·right; rw[←h.2]; exact hi
    ·cases h
   ·cases h
 | .pair a b,ls,v,r,h=>by
  simp only[zE] at h;split at h
  ·next x r1 h1=>
   split at h
   ·next y r2 h2=>
    simp only[apP,apV] at h;intro i hi;rcases oH a ls x r1 h1 i hi with h'|h'
    ·exact .inl h'
    ·have:=oH b r1 y r2 h2 i h';rw[h.2] at this;exact this
   ·cases h
  ·cases h
theorem fc {t:Ty} {ls:List Leaf} {v:den t} (h:jm st.tab t ls=some v):∀ i∈zZ ls,MS st i:=by
 intro i hi;rcases oH t ls v [] (qF h) i hi with h|h
 ·exact h
 ·simp[zZ] at h
theorem qC:∀ (ps:List (PK×Ty)) (xs:List AV) (g:Given ps),zP st ps xs=some g->(∀ i∈zZ g.rl,MS st i)/\∀ i∈g.cids,(cellsOf st i).isSome
 | [],[],g,h=>by simp only[zP,apP] at h; subst h; simp[zZ]
 | (.rd,t)::ps,x::xs,g,h=>by
  simp only[zP] at h;split at h
  ·next ls hls=>
   split at h
   ·next u g' hc afU=>
    cases h;obtain⟨k1,k2⟩:=qC ps xs g' afU;exact⟨by simp only[an]; exact λ i hi=>(List.mem_append.1 hi).elim (fc hc i) (k1 i),k2⟩
   ·cases h
  ·cases h
 | (.own,t)::ps,x::xs,g,h=>by
  simp only[zP] at h;split at h
  ·next ls hls=>
   split at h
   ·next u g' hc afU=>cases h; exact qC ps xs g' afU
   ·cases h
  ·cases h
 | (.ptr,t)::ps,x::xs,g,h=>by
  simp only[zP] at h;split at h
  ·split at h
   ·split at h
    ·next u g' hlv hc afU=>cases h; exact qC ps xs g' afU
    ·cases h
   ·cases h
  ·cases h
 | (.cap,t)::ps,x::xs,g,h=>by
  simp only[zP] at h;split at h
  ·split at h
   ·next cells ahO=>
    split at h
    ·next u g' hc afU=>
     cases h;obtain⟨k1,k2⟩:=qC ps xs g' afU;exact⟨by simp only[an]; exact λ i hi=>(List.mem_append.1 hi).elim (fc hc i) (k1 i),
      λ i hi=>(List.mem_cons.1 hi).elim (λ e=>by subst e; simp[ahO]) (k2 i)⟩
    ·cases h
   ·cases h
  ·cases h
 | (.clo f,t)::ps,x::xs,g,h=>by
  simp only[zP] at h;split at h
  ·split at h
   ·next cells ahO=>
    split at h
    ·next u g' hff hc afU=>
     cases h;obtain⟨k1,k2⟩:=qC ps xs g' afU;exact⟨by simp only[an]; exact λ i hi=>(List.mem_append.1 hi).elim (fc hc i) (k1 i),
      λ i hi=>(List.mem_cons.1 hi).elim (λ e=>by subst e; simp[ahO]) (k2 i)⟩
    ·cases h
   ·cases h
  ·cases h
 | [],_::_,g,h=>by simp[zP] at h
 | (.rd,_)::_,[],g,h=>by simp[zP] at h
 | (.own,_)::_,[],g,h=>by simp[zP] at h
 | (.ptr,_)::_,[],g,h=>by simp[zP] at h
 | (.cap,_)::_,[],g,h=>by simp[zP] at h
 | (.clo _,_)::_,[],g,h=>by simp[zP] at h
theorem RetL.unfr {w:World} {rk:RK} (hrk:rk ≠ .shared):∀ {ts:List Ty} {v:dens ts} {css:List (List Value)} {xs fs:List Nat},RetL w rk ts v css xs fs->∀ b∈xs,Unfr w b
 | [],_,_,_,_,h=>by rw[h.2.1]; simp
 | t::ts,v,css,xs,fs,h=>by
  obtain⟨cs,css',x1,x2,f1,f2,_,rfl,_,h1,h2⟩:=h;intro b hb;rcases List.mem_append.1 hb with hb|hb
  ·have h1':RdO w t v.1 cs x1 f1:=by
    cases rk with
    | shared=>exact absurd rfl hrk
    | own=>exact h1
    | uniq=>exact h1
   exact h1'.unfr b hb
  ·exact RetL.unfr hrk h2 b hb
theorem tJ {w:World}:∀ {ts:List Ty} {v:dens ts} {css:List (List Value)} {xs fs:List Nat},RetL w .shared ts v css xs fs->xs=[]
 | [],_,_,_,_,h=>h.2.1
 | t::ts,v,css,xs,fs,h=>by
  obtain⟨cs,css',x1,x2,f1,f2,_,rfl,_,h1,h2⟩:=h;rw[h1.1,tJ h2];rfl
theorem All2.mem2 {α β:Type} {R:α->β->Prop}:∀ {xs:List α} {ys:List β},All2 R xs ys->All2 (λ x y=>R x y/\y∈ys) xs ys
 | [],[],_=>trivial
 | x::xs,y::ys,h=>⟨⟨h.1,by simp⟩,(All2.mem2 h.2).mono λ _ _ _ hy=>⟨hy.1,List.mem_cons_of_mem _ hy.2⟩⟩
 | [],_::_,h=>h.elim
 | _::_,[],h=>h.elim
theorem oz:∀ {ps:List (PK×Ty)} {xs:List AV} {g:Given ps},zP st ps xs=some g->(ps.all λ p=>p.1.isRd)=true->g.ol=[]/\g.pl=[]/\g.pids=[]/\g.cids=[]
 | [],[],g,h,_=>by simp only[zP,apP] at h; subst h; exact⟨rfl,rfl,rfl,rfl⟩
 | [],_::_,g,h,_=>by simp[zP] at h
 | (.rd,t)::ps,[],g,h,_=>by simp[zP] at h
 | (.rd,t)::ps,x::xs,g,h,hp=>by
  simp only[aqm,apO] at hp;simp only[zP] at h;split at h
  ·split at h
   ·next v g' _ hg'=>
    obtain⟨h1,h2,h3,h4⟩:=oz hg' hp.2;cases h;exact⟨h1,h2,h3,h4⟩
   ·cases h
  ·cases h
 | (.own,t)::ps,xs,g,h,hp=>by simp[PK.isRd] at hp
 | (.ptr,t)::ps,xs,g,h,hp=>by simp[PK.isRd] at hp
 | (.cap,t)::ps,xs,g,h,hp=>by simp[PK.isRd] at hp
 | (.clo f,t)::ps,xs,g,h,hp=>by simp[PK.isRd] at hp
theorem oA:∀ {ps:List (PK×Ty)} {vs:yc ps} {vals:List Value} {r rp rc xo xp:List Nat},ArgsOk w ps vs vals r rp rc xo xp->(ps.all λ p=>p.1.isRd)=true->rp=[]/\rc=[]/\xo=[]/\xp=[]
 | [],vs,vals,r,rp,rc,xo,xp,h,_=>⟨h.2.2.1,h.2.2.2.1,h.2.2.2.2.1,h.2.2.2.2.2⟩
 | (.rd,t)::ps,vs,vals,r,rp,rc,xo,xp,h,hp=>by
  simp only[aqm,apO] at hp;obtain⟨cs,vs',fp,r',_,_,_,h'⟩:=h;exact oA h' hp.2
 | (.own,t)::ps,vs,vals,r,rp,rc,xo,xp,h,hp=>by simp[PK.isRd] at hp
 | (.ptr,t)::ps,vs,vals,r,rp,rc,xo,xp,h,hp=>by simp[PK.isRd] at hp
 | (.cap,t)::ps,vs,vals,r,rp,rc,xo,xp,h,hp=>by simp[PK.isRd] at hp
 | (.clo f,t)::ps,vs,vals,r,rp,rc,xo,xp,h,hp=>by simp[PK.isRd] at hp
theorem aef {f:Nat} {nf:NF} (hS:LT P A.gl f nf) {args:List AV} {vals:List Value} (ah2:All2 (AVOk loc) args vals) (afV:(execOp a.eval o).run P w=(callFunc f vals.toArray).run P w)
  (hr:Rel0 B X A w0 γ loc st a w) (hk:fw nf args o.dst st k=some r) (hn:zY B X A w0 k r o.dst.toList st next):o.wp P a w next Q:=by
 unfold fw at hk;split at hk
 ·cases hk
 ·next g hg=>
  split at hk
  ·cases hk
  ·next hck=>
   simp only[apO] at hck;obtain⟨hrd,hst⟩:=hck;obtain⟨v,hv,hk⟩:=Option.bind_eq_some_iff.1 hk;split at hk;next ls es j hsp=>
    obtain⟨e1,e2,e3,e4⟩:=oz hg hrd;obtain⟨rr,rp,rc,xo,xp,k1,k2,k3,k4,k5,k6,k7,k8,k9⟩:=LW hr nf.params _ g _ [] hg ah2 (by rw[e1]; rfl) (by rw[e2]; rfl)
    obtain⟨rfl,rfl,rfl,rfl⟩:=oA k1 hrd;obtain⟨l1,l2,l3,l4,l5⟩:=k1.lt;have hcall:=hS.run w g.vs _ rr v k1 hr.globAt (λ b hb=>(hr.globApart hb).1) hv;unfold Oper.wp;rw[afV];refine hcall.upon λ u w' ahf => ?_;obtain⟨hkeep,nb,arr,T,fr,fs,hu,hnb,ahO,hfr,aoI,hfs⟩:=ahf
    let γ1:Nat->Own:=λ b=>if b=nb then .top st.nxt else if b<w.heap.size then γ b else .persist
    let loc0:Nat->Value:=λ i=>if i=st.nxt then .pointer (some ⟨nb,0,none⟩) else loc i
    have hg1:∀ b,b<w.heap.size->γ1 b=γ b:=λ b hb=>by simp[γ1,hb,show b≠nb by omega]
    have hpf:∀ b∈fs,γ1 b=.persist∨(false=true/\∃ i,γ1 b=.deep i):=by
     intro b hb;left;obtain⟨h1,h2⟩:=hfs b hb;by_cases hlt:b<w.heap.size
     ·rw[hg1 b hlt];rcases h2 with h2|h2
      ·omega
      ·rcases k3 hst b h2 with h|⟨i,hi,_⟩
       ·exact h
       ·simp at hi
     ·simp[γ1,h1,hlt]
    obtain⟨loc',b1,b2,b3⟩:=KS (γ:=γ1) (taint:=false) st.lvl nf.ret v (st.nxt+1) arr.toList fs loc0 aoI hpf;have so:=jo (.imm false) st.lvl nf.ret v (st.nxt+1);rw[hsp] at b1 b2 b3;have sle:=so.le;have slt:=so.lt;have skeys:=so.keys;rw[hsp] at sle slt skeys;simp only at b1 b2 b3 sle slt skeys;have hl0:loc' st.nxt=.pointer (some ⟨nb,0,none⟩):=by rw[b1 st.nxt (.inl (by omega))]; simp[loc0]
    have hlo:∀ i<st.nxt,loc' i=loc i:=λ i hi=>by rw[b1 i (.inl (by omega))]; simp[loc0,show i≠st.nxt by omega]
    have hB:=hr.Ble;have hR:Rel0 B X A w0 γ1 loc' { st with tab:=es++(st.nxt,.box st.lvl ls)::st.tab,nxt:=j } a w':=by
     refine hr.updW (M:=λ _=>False) rfl (by simp only; omega) ⟨hkeep.os,hkeep.tape,hkeep.output,hkeep.size,λ b hb hx=>hkeep.block b (by omega) (by simp),hkeep.free,hkeep.shape⟩ (λ b hb=>by
      by_cases e:b=nb
      ·subst e; exact Unfr.of ahO hfr
      ·by_cases hlt:b<w.heap.size
       ·exact hkeep.free b hlt (hr.unf b (by rw[hg1 b hlt] at hb; exact hb))
       ·simp[γ1,e,hlt,owned] at hb) ?_ hlo ?_ (λ _ h=>h.elim) ?_
     ·intro b hb hx; rw[hg1 b (by omega)]; exact hr.old b hb hx
     ·refine⟨λ b hb h=>⟨by rw[hg1 b hb]; exact h,hkeep.block b hb (by simp)⟩,λ b i hb h _=>⟨by rw[hg1 b hb]; exact h,hkeep.block b hb (by simp)⟩,λ b i hb h=>⟨hkeep.block b hb (by simp),λ _=>by rw[hg1 b hb]; exact h,λ h=>h.elim⟩⟩
     ·intro id e he;rw[ZV] at he;cases hh:look es id with
      | some e'=>
       rw[hh] at he;simp at he;subst he;obtain⟨c1,c2,c3⟩:=skeys id _ hh;refine .inr ⟨⟨b3 id _ hh,?_,c2⟩,.inl (by omega)⟩;obtain⟨E',e0,xs,rfl⟩:=c3;trivial
      | none=>
       rw[hh] at he;simp only[aqY,yR] at he;split at he
       ·next hid=>
        cases he;subst hid;exact .inr ⟨⟨⟨nb,arr,T,fr,hl0,ahO,hfr,by simp[γ1],b2⟩,slt,by simp only; omega⟩,.inl (Nat.le_refl _)⟩
       ·exact .inl ⟨he,λ h=>h⟩
    have ah6:Pres [] st { st with tab:=es++(st.nxt,.box st.lvl ls)::st.tab,nxt:=j }:=by
     refine⟨rfl,by simp only; omega,?_,λ _ _=>rfl,rfl⟩
     intro id e he _;have:=(hr.elt id e he).2;rw[ZV];cases hh:look es id with
     | some e'=>obtain⟨c1,_,_⟩:=skeys id _ hh; omega
     | none=>
      simp only[aqY,yR];rw[if_neg (by omega)];exact he
    rw[hu];exact hn _ hk (ah6.putAfter o.dst _) _ _ ⟨γ1,loc',hR.put o.dst (x:=.v (.one (.ptr st.nxt 0))) ⟨nb,hl0,rfl⟩ (show st.nxt<j by omega)⟩
theorem wu (hr:Rel0 B X A w0 γ loc st a w) {pf:PF} {args:List AV} {vals:List Value} {g:Given pf.params} {oids:List Nat} (hg:zP st pf.params args=some g) (ah2:All2 (AVOk loc) args vals)
  (ahF:yn st g.ol=some oids) (ai7:kr st g pf.rk oids=true):∃ rr rp rc xo xp,ArgsOk w pf.params g.vs vals rr rp rc xo xp/\(xo++xp).Nodup/\(∀ b∈xo++xp,b∉rr/\b∉rp/\b∉rc)/\(∀ b∈A.gl.gb,b<w.heap.size/\b∉xo++xp)/\
   ∀ {outs:zQ pf.params pf.rets} {tab:List (Nat×Ent)} {j:Nat} {rs:dens pf.rets} {xs:List V1} {es:List (Nat×Ent)} {j':Nat} {v:Value} {w':World},
    Yk pf.rets st.lvl pf.params g.pids outs (Zw st.tab oids) st.nxt=some (tab,j,rs)->ZF pf.rk.kind st.lvl pf.rets rs j=some (xs,es,j')->KeepsW w.heap.size (xo++xp) w w'->
    (∃ pt,OutOk w w' w.heap.size pf.rk (rr++rp++rc) xo pt pf.rets v pf.params outs xp)->∃ γ2 loc2,Rel0 B X A w0 γ2 loc2 { st with tab:=es++tab,nxt:=j' } a w'/\Pres [] st { st with tab:=es++tab,nxt:=j' }/\∃ vs,v=YG vs/\All2 (V1Ok loc2) xs vs/\∀ x∈xs,x.lt j':=by
 simp only[kr,apO,aqE,List.isEmpty_iff] at ai7;obtain⟨⟨⟨⟨m1,m2⟩,m3⟩,m4⟩,m5⟩:=ai7;obtain⟨rr,rp,rc,xo,xp,k1,k2,k3,k4,k5,k6,k7,k8,k9⟩:=LW hr pf.params _ g _ oids hg ah2 ahF m1;obtain⟨p1,p2⟩:=D5 k8 (kz m2);have m3:=qH m3;have m4:=qH m4;obtain⟨l1,l2,l3,l4,l5⟩:=k1.lt;have ag4:=Jm ahF;have hpo:∀ i∈g.pids,i∉oids:=by
  intro i hi ho;obtain⟨lvl,cells,hl,_⟩:=k9 i hi;obtain⟨u,lvl',E',e,ys,hl',_⟩:=ag4 i ho;rw[hl] at hl'; cases hl'
 have hxx:∀ b∈xo,b∉xp:=by
  intro b hb hb';obtain⟨i,hi,e1⟩:=k7 b hb;obtain⟨i',hi',e2⟩:=p2 b hb';rw[e1] at e2; cases e2
  exact hpo i hi' hi
 obtain⟨ia,ic⟩:=qC _ _ g hg;have hsl:∀ i∈g.pids,∀ b∈rr,γ b ≠ .top i:=by
  intro i hi b hb e;obtain⟨lvl,cells,hl,_⟩:=k9 i hi;obtain⟨_,_,_,_,_,hl'⟩:=ia i ((k2 b hb).2 i e);rw[hl] at hl'; cases hl'
 have hoc:∀ i∈oids,i∉g.cids:=by
  intro i hi hi';obtain⟨u,lvl',E',e,ys,hl',_⟩:=ag4 i hi;have:=ic i hi';simp[cellsOf,hl'] at this
 have agU:∀ b∈xo++xp,b∉rr/\b∉rp/\b∉rc:=by
  intro b hb;rcases List.mem_append.1 hb with hb|hb
  ·obtain⟨i,hi,e⟩:=k7 b hb;refine⟨λ h=>m3 i hi ((k2 b h).2 i e),⟨λ h=>(by rw[k4 b h] at e; cases e),λ h => ?_⟩⟩
   rcases k5 b h with h'|⟨i',hi',h'⟩
   ·rw[h'] at e; cases e
   ·rw[h'] at e; cases e
    exact hoc _ hi hi'
  ·obtain⟨i,hi,e⟩:=p2 b hb;refine⟨λ h=>hsl i hi b h e,⟨λ h=>(by rw[k4 b h] at e; cases e),λ h => ?_⟩⟩
   rcases k5 b h with h'|⟨i',hi',h'⟩
   ·rw[h'] at e; cases e
   ·rw[h'] at e; cases e
    exact m4 _ hi hi'
 have anR:∀ b∈A.gl.gb,b<w.heap.size/\b∉xo++xp:=by
  intro b hb;obtain⟨g1,g2⟩:=hr.globApart hb;refine⟨g1,λ hm => ?_⟩;rcases List.mem_append.1 hm with hm|hm
  ·obtain⟨i,_,e⟩:=k7 b hm;rcases g2 with g2|g2<;>rw[e] at g2<;>cases g2
  ·obtain⟨i,_,e⟩:=p2 b hm;rcases g2 with g2|g2<;>rw[e] at g2<;>cases g2
 refine⟨rr,rp,rc,xo,xp,k1,ZY k6 p1 hxx,agU,anR,?_⟩;intro outs tab j rs xs es j' v w' ah0 agL hkeep hpt;obtain⟨pt,hout⟩:=hpt;have aoM:=OutOk.rets pf.params g.pids outs xp _ _ _ ah0 hout;obtain⟨css,xb,fs,q1,q2,q3,q4⟩:=aoM
-- memory's division, but for the results
 have hxb:∀ b∈xb,w.heap.size<=b∨b∈xo:=by
  intro b hb;cases hrk:pf.rk with
  | uniq=>rw[hrk] at q3; exact (q3.2 b (by simp[hb])).1
  | own=>rw[hrk] at q3; exact (q3.2.1 b hb).1
  | shared=>rw[hrk] at q1; rw[tJ q1] at hb; simp at hb
 let al:Nat->Prop:=λ b=>b∈xb∨(pf.rk=.uniq/\b∈fs)
 have hal:∀ b,al b->w.heap.size<=b∨b∈xo:=by
  intro b hb;rcases hb with hb|⟨hrk,hb⟩
  ·exact hxb b hb
  ·rw[hrk] at q3; exact (q3.2 b (by simp[hb])).1
 let γ1:Nat->Own:=λ b=>open Classical in if al b then .alien else if b<w.heap.size then relab oids .persist γ b else .persist
 have hg1:∀ b,b<w.heap.size->b∉xo->γ1 b=relab oids .persist γ b:=by
  intro b hb hx;have:¬ al b:=λ h=>(hal b h).elim (λ h=>by omega) hx;simp[γ1,this,hb]
 have hnx:∀ b,(∀ i∈oids,γ b ≠ .top i)->b∉xo:=λ b h hb=>by obtain⟨i,hi,e⟩:=k7 b hb; exact h i hi e
 have hmv:Moves (λ i=>i∈oids∨i∈g.pids) γ γ1 w w':=by
  constructor
  ·intro b hb hp;have h1:b∉xo:=hnx b (by simp[hp]);have h2:b∉xp:=λ h=>by obtain⟨i,hi,e⟩:=p2 b h; rw[hp] at e; cases e
   exact⟨by rw[hg1 b hb h1,Yl hp],hkeep.block b hb (by simp[h1,h2])⟩
  ·intro b i hb hp hi;simp only[not_or] at hi;have h1:b∉xo:=hnx b (by rw[hp]; intro i' hi' e; cases e; exact hi.1 hi')
   have h2:b∉xp:=λ h=>by obtain⟨i',hi',e⟩:=p2 b h; rw[hp] at e; cases e; exact hi.2 hi'
   exact⟨by rw[hg1 b hb h1,KJ hp,if_neg hi.1],hkeep.block b hb (by simp[h1,h2])⟩
  ·intro b i hb hp;have h1:b∉xo:=hnx b (by simp[hp]);have h2:b∉xp:=λ h=>by obtain⟨i',hi',e⟩:=p2 b h; rw[hp] at e; cases e
   refine⟨hkeep.block b hb (by simp[h1,h2]),λ hi => ?_,λ hi => ?_⟩
   ·simp only[not_or] at hi;rw[hg1 b hb h1,Y4 hp,if_neg hi.1]
   ·rw[hg1 b hb h1,Y4 hp];by_cases hio:i∈oids
    ·exact .inl (by rw[if_pos hio])
    ·exact .inr ⟨i,by rw[if_neg hio]⟩
 have hB:=hr.Ble;have hoX:∀ b,b<B->b∉X->b∉xo:=by
  intro b hb hx;refine hnx b ?_;intro i _ e;rcases hr.old b hb hx with h|⟨h,_⟩<;>rw[h] at e<;>cases e
 have hpX:∀ b,b<B->b∉X->b∉xp:=by
  intro b hb hx hm;obtain⟨i,_,e⟩:=p2 b hm;rcases hr.old b hb hx with h|⟨h,_⟩<;>rw[h] at e<;>cases e
 have amx:∀ b,b<B->b∉X->γ1 b=.alien∨(γ1 b=.persist/\b∈A.rds):=by
  intro b hb hx;rw[hg1 b (by omega) (hoX b hb hx)];exact NO hr.old b hb hx
 have hkX:KeepsW B X w w':=⟨hkeep.os,hkeep.tape,hkeep.output,hkeep.size,λ b hb hx=>hkeep.block b (by omega) (by simp[hoX b hb hx,hpX b hb hx]),hkeep.free,hkeep.shape⟩
 have ail:yz st g.rl=true/\g.cids=[]->∀ b,¬ al b->From w.heap.size (rr++rp++rc) xo b->γ1 b=.persist:=by
  intro hst b amq hf;by_cases hlt:b<w.heap.size
  ·have e0:γ1 b=relab oids .persist γ b:=by simp[γ1,amq,hlt]
   rw[e0];rcases hf with h|h|h
   ·omega
   ·rcases List.mem_append.1 h with h|h
    ·rcases List.mem_append.1 h with h|h
     ·rcases k3 hst.1 b h with h|⟨i,hi,h⟩
      ·exact Yl h
      ·rw[Y4 h,if_pos hi]
     ·exact Yl (k4 b h)
    ·rcases k5 b h with h|⟨i,hi,h⟩
     ·exact Yl h
     ·rw[hst.2] at hi; simp at hi
   ·obtain⟨i,hi,h⟩:=k7 b h;rw[KJ h,if_pos hi]
  ·simp[γ1,amq,hlt]
 have hpp:All2 (λ i b=>loc i=.pointer (some ⟨b,0,none⟩)/\γ1 b=.top i) g.pids xp:=by
  have hps:∀ b∈xp,b∉xo:=λ b hb hb'=>hxx b hb' hb;have:=All2.mem2 k8;refine this.mono λ i hi b hib=>⟨hib.1.1,?_⟩
  rw[hg1 b (l5 b hib.2) (hps b hib.2),KJ hib.1.2,if_neg (hpo i hi)]
 have hI:∀ (id:Nat) (e:Ent),look (Zw st.tab oids) id=some e->id∈g.pids∨(EntOk γ1 loc w' id e/\e.lt st.nxt/\id<st.nxt):=by
  intro id e he;rw[Jx] at he;split at he
  ·cases he
  ·next hno=>
   by_cases hip:id∈g.pids
   ·exact .inl hip
   ·obtain⟨e1,e2⟩:=hr.elt id e he;exact .inr ⟨EntOk.moves hmv (by simp[hno,hip]) e1 e2 (λ _ _=>rfl) (hr.ents id e he),e1,e2⟩
 have aoB:∀ i∈g.pids,i<st.nxt:=λ i hi=>by obtain⟨lvl,cells,hl,_⟩:=k9 i hi; exact (hr.elt i _ hl).2
 have aos:∀ i∈g.pids,∀ l0 cells b arr T fr,look (Zw st.tab oids) i=some (.box l0 cells)->loc i=.pointer (some ⟨b,0,none⟩)->w.heap[b]?=some (.cells arr T fr)->All2 (LeafOk loc) cells arr.toList/\∀ l∈cells,l.lt st.nxt:=by
  intro i hi l0 cells b arr T fr hl hb1 hb2;rw[Jx,if_neg (hpo i hi)] at hl;obtain⟨b',arr',T',fr',g1,g2,g3,g4,g5⟩:=hr.ents i _ hl;rw[hb1] at g1;simp only[Value.pointer.injEq,apP,Addr.mk.injEq,and_true] at g1;subst g1;rw[hb2] at g2;cases g2;exact⟨g5,(hr.elt i _ hl).1⟩
 obtain⟨a0,a3,a4,a5'⟩:=QO (w1:=w) pf.params g.pids outs xp _ _ loc _ _ _ (kz m2) ah0 hout hpp aoB aos hI;have a2:st.nxt<=j:=by omega
 have a5:∀ id<st.nxt,id∉g.pids->look tab id=look (Zw st.tab oids) id:=λ id _ h=>a5' id h
 let loc1:=loc
 have a1:∀ i<st.nxt,loc1 i=loc i:=λ _ _=>rfl;have hR1:Rel0 B X A w0 γ1 loc1 { st with tab:=tab,nxt:=j } a w':=
  hr.updW (M:=λ i=>i∈oids∨i∈g.pids) rfl a2 hkX (λ b hb=>by
   by_cases ha:al b
   ·simp[γ1,ha,owned] at hb
   ·by_cases hlt:b<w.heap.size
    ·simp only[γ1,ha,hlt,if_true,if_false] at hb;exact hkeep.free b hlt (hr.unf b (NP hb))
    ·simp[γ1,ha,hlt,owned] at hb) amx a1 hmv (λ i hi=>hi.elim (λ h=>by obtain⟨u,lvl,E',e,xs,h',_⟩:=ag4 i h; exact⟨_,h'⟩) (λ h=>by obtain⟨lvl,cells,h',_⟩:=k9 i h; exact⟨_,h'⟩)) (λ id e he=>.inr ⟨a4 id e he,by
   by_cases hlt:id<st.nxt
   ·by_cases hip:id∈g.pids
    ·obtain⟨lvl,cells,h',_⟩:=k9 id hip; exact .inr ⟨_,h'⟩
    ·rw[a5 id hlt hip,Jx] at he;split at he
     ·cases he
     ·exact .inr ⟨_,he⟩
   ·exact .inl (by omega)⟩)
 have ao9:∀ (id:Nat) (e:Ent),look st.tab id=some e->e.prot st.lvl->look tab id=some e:=by
  intro id e he hp;have hlt:=(hr.elt id e he).2;have hnp:id∉g.pids:=λ hm=>by
   obtain⟨lvl,cells,hl,hlv⟩:=k9 id hm;rw[hl] at he; cases he
   exact hp hlv
  have hno:id∉oids:=λ hm=>QG (ag4 id hm) _ he hp;rw[a5 id hlt hnp,Jx,if_neg hno];exact he
-- the results
 have agD:∀ γ2 loc2,(∀ i<j,loc2 i=loc1 i)->j<=j'->All2 (V1Ok loc2) xs (ZM pf.rets css)->(∀ x∈xs,x.lt j')->Moves (λ _=>False) γ1 γ2 w' w'->(∀ b,b<B->b∉X->γ2 b=γ1 b)->(∀ b,owned (γ2 b)->Unfr w' b)->
   (∀ (id:Nat) (e:Ent),look es id=some e->EntOk γ2 loc2 w' id e/\j<=id/\id<j'/\e.lt j')->∃ γ2 loc2,Rel0 B X A w0 γ2 loc2 { st with tab:=es++tab,nxt:=j' } a w'/\Pres [] st { st with tab:=es++tab,nxt:=j' }/\∃ vs,v=YG vs/\All2 (V1Ok loc2) xs vs/\∀ x∈xs,x.lt j':=by
  intro γ2 loc2 b1 b0 b2 b3 b4 b5 b7 b6;have hR2:Rel0 B X A w0 γ2 loc2 { st with tab:=es++tab,nxt:=j' } a w':=by
   refine hR1.updW (M:=λ _=>False) rfl b0 (KeepsW.refl _ _ _) b7 ?_ b1 b4 (λ _ h=>h.elim) ?_
   ·intro b hb hx; rw[b5 b hb hx]; exact amx b hb hx
   ·intro id e he;rw[ZV] at he;cases hh:look es id with
    | some e'=>
     rw[hh] at he;simp at he;subst he;obtain⟨c1,c2,c3,c4⟩:=b6 id _ hh;exact .inr ⟨⟨c1,c4,c3⟩,.inl c2⟩
    | none=>rw[hh] at he; simp at he; exact .inl ⟨he,λ h=>h⟩
  have ah6:Pres [] st { st with tab:=es++tab,nxt:=j' }:=by
   refine⟨rfl,by simp only; omega,?_,λ _ _=>rfl,rfl⟩
   intro id e he hp;simp only[ZV];cases hh:look es id with
   | some e'=>
    obtain⟨_,c2,_,_⟩:=b6 id _ hh;have:=(hr.elt id e he).2;omega
   | none=>simpa using ao9 id e he hp
  exact⟨γ2,loc2,hR2,ah6,_,q2,b2,b3⟩
 have amB:∀ u,pf.rk ≠ .shared->ZF (.own u) st.lvl pf.rets rs j=some (xs,es,j')->xb.Nodup->(∀ b∈xb,b∉fs)->(u=true->fs.Nodup)->(u=false->∀ b∈fs,γ1 b=.persist)->
   (u=true->pf.rk=.uniq)->∃ γ2 loc2,Rel0 B X A w0 γ2 loc2 { st with tab:=es++tab,nxt:=j' } a w'/\Pres [] st { st with tab:=es++tab,nxt:=j' }/\∃ vs,v=YG vs/\All2 (V1Ok loc2) xs vs/\∀ x∈xs,x.lt j':=by
  intro u hns agL n1 n2 n3 n4 n5;obtain⟨loc2,γ2,b1,b0,b2,b3,b4,b5,b6⟩:=Eu pf.rk hns u st.lvl pf.rets rs j css xb fs loc1 γ1 xs es j' agL q1 n1 n2 n3 n4;have ah1:∀ b,¬ al b->γ2 b=γ1 b:=by
   intro b hb;simp only[al,not_or,not_and] at hb;cases u with
   | false=>exact b5 rfl b hb.1
   | true=>exact b4 b hb.1 (hb.2 (n5 rfl))
  have hna:∀ b,γ1 b ≠ .alien->¬ al b:=λ b h ha=>h (by simp[γ1,ha]);refine agD γ2 loc2 (λ i hi=>b1 i (.inl hi)) b0 b2 b3 ⟨?_,?_,?_⟩ ?_ (λ b hb=>by
   by_cases ha:al b
   ·rcases ha with ha|⟨h1,h2⟩
    ·exact q1.unfr hns b ha
    ·exact q4 h1 b h2
   ·rw[ah1 b ha] at hb;exact hR1.unf b hb) b6
  ·intro b hb hp; exact⟨by rw[ah1 b (hna b (by simp[hp]))]; exact hp,rfl⟩
  ·intro b i hb hp _; exact⟨by rw[ah1 b (hna b (by simp[hp]))]; exact hp,rfl⟩
  ·intro b i hb hp; exact⟨rfl,λ _=>by rw[ah1 b (hna b (by simp[hp]))]; exact hp,λ h=>h.elim⟩
  ·intro b hb hx;exact ah1 b (λ h=>(hal b h).elim (λ h=>by omega) (hoX b hb hx))
 have air:pf.rk ≠ .uniq->(∀ b∈fs,b∉xb)->(∀ b∈fs,From w.heap.size (rr++rp++rc) xo b)->∀ b∈fs,γ1 b=.persist:=by
  intro hnu apb hfs b hb;have hst:yz st g.rl=true/\g.cids=[]:=by
   rcases m5 with h|h
   ·exact absurd (by cases h':pf.rk<;>simp_all [RK.isUniq]) hnu
   ·exact h
  exact ail hst b (by
   rintro (h|⟨h,_⟩)
   ·exact apb b hb h
   ·exact hnu h) (hfs b hb)
 cases hrk:pf.rk with
 | uniq=>
  rw[hrk] at agL q3;obtain⟨n1,n2,n3⟩:=List.nodup_append.1 q3.1;exact amB true (by simp[hrk]) agL n1 (λ b hb hb'=>n3 b hb b hb' rfl) (λ _=>n2) (by simp) (λ _=>hrk)
 | own=>
  rw[hrk] at agL;rw[hrk] at q3;obtain⟨n1,n2,n3,n4⟩:=q3;exact amB false (by simp[hrk]) agL n1 n3 (by simp) (λ _=>air (by simp[hrk]) (λ b hb hb'=>n3 b hb' hb) n4) (by simp)
 | shared=>
  rw[hrk] at agL q1 q3;have hxe:=tJ q1;have hp:=air (by simp[hrk]) (by simp[hxe]) q3;obtain⟨loc2,b1,b0,b2,b3,b6⟩:=Es (γ:=γ1) st.lvl pf.rets rs j css fs loc1 xs es j' agL _ q1 hp;exact agD γ1 loc2 (λ i hi=>b1 i (.inl hi)) b0 b2 b3 (Moves.refl _ _ _) (λ _ _ _=>rfl) (λ b hb=>hR1.unf b hb) b6
theorem W6 {t:Ty} {ps:List (PK×Ty)} (h:J7 ((.rd,t)::ps)=true):t.hasSl=false/\J7 ps=true:=by
 simpa[J7] using h
theorem oC (hr:Rel0 B X A w0 γ loc st a w):∀ (ps:List (PK×Ty)) (xs:List AV) (g:Given ps) (vals:List Value) (oids:List Nat),zP st ps xs=some g->All2 (AVOk loc) xs vals->
  yn st g.ol=some oids->(∀ i∈oids,LR st i)->J7 ps=true->
  ∃ r xo,ArgsOk w ps g.vs vals r [] [] xo []/\r.Nodup/\(∀ b∈r,∃ i∈oids,γ b=.deep i)/\xo.Nodup/\∀ b∈xo,∃ i∈oids,γ b=.top i
 | [],[],g,vals,oids,h,ha,hg,hu,hj=>by
  cases vals with
  | cons _ _=>exact ha.elim
  | nil=>
   simp only[zP,apP] at h;subst h;exact⟨[],[],⟨rfl,rfl,rfl,rfl,rfl,rfl⟩,by simp,by simp,by simp,by simp⟩
 | (.rd,t)::ps,x::xs,g,vals,oids,h,ha,hg,hu,hj=>by
  match vals,ha with
  | v::vs,ha=>
   obtain⟨j1,j2⟩:=W6 hj;simp only[zP] at h;split at h
   ·next ls hls=>
    split at h
    ·next u g' hc afU=>
     cases h;obtain⟨cs,e1,e2⟩:=MW hls ha.1;obtain⟨fp,q1,q2,q3⟩:=YT hr hc e2;obtain⟨r,xo,k1,k2,k3,k4,k5⟩:=oC hr ps xs g' vs oids afU ha.2 hg hu j2;have hf:=q1.noSl j1;subst hf;exact⟨r,xo,⟨cs,vs,[],r,by rw[e1],q1,rfl,k1⟩,k2,k3,k4,k5⟩
    ·cases h
   ·cases h
 | (.own,t)::ps,x::xs,g,vals,oids,h,ha,hg,hu,hj=>by
  match vals,ha with
  | v::vs,ha=>
   simp only[zP] at h;split at h
   ·next ls hls=>
    split at h
    ·next u g' hc afU=>
     cases h;obtain⟨cs,e1,e2⟩:=MW hls ha.1;obtain⟨i1,i2,g1,g2,g3,g4⟩:=JZ hg;obtain⟨xb,fs,q1,q2,q3,q4,q5⟩:=qG hr hc e2 g1;subst g3;obtain⟨n1,n2⟩:=q5 λ i hi=>hu i (by simp[hi]);obtain⟨r,xo,k1,k2,k3,k4,k5⟩:=oC hr ps xs g' vs i2 afU ha.2 g2 (λ i hi=>hu i (by simp[hi])) (by simpa[J7] using hj);refine⟨fs++r,xb++xo,⟨cs,vs,xb,fs,r,xo,by rw[e1],q1,rfl,rfl,k1⟩,ZY n1 k2 ?_,?_,ZY q2 k4 ?_,?_⟩
     ·intro b hb hb';obtain⟨i,hi,e⟩:=n2 b hb;obtain⟨j,hj,e'⟩:=k3 b hb';rw[e] at e';cases e';exact g4 i hi hj
     ·intro b hb;rcases List.mem_append.1 hb with hb|hb
      ·obtain⟨i,hi,h⟩:=n2 b hb; exact⟨i,by simp[hi],h⟩
      ·obtain⟨i,hi,h⟩:=k3 b hb; exact⟨i,by simp[hi],h⟩
     ·intro b hb hb';obtain⟨i,hi,e⟩:=q3 b hb;obtain⟨j,hj,e'⟩:=k5 b hb';rw[e] at e';cases e';exact g4 i hi hj
     ·intro b hb;rcases List.mem_append.1 hb with hb|hb
      ·obtain⟨i,hi,h⟩:=q3 b hb; exact⟨i,by simp[hi],h⟩
      ·obtain⟨i,hi,h⟩:=k5 b hb; exact⟨i,by simp[hi],h⟩
    ·cases h
   ·cases h
 | (.ptr,_)::_,_,_,_,_,_,_,_,_,hj=>by simp[J7] at hj
 | (.cap,_)::_,_,_,_,_,_,_,_,_,hj=>by simp[J7] at hj
 | (.clo _,_)::_,_,_,_,_,_,_,_,_,hj=>by simp[J7] at hj
 | [],_::_,g,vals,oids,h,ha,hg,hu,hj=>by simp[zP] at h
 | (.rd,_)::_,[],g,vals,oids,h,ha,hg,hu,hj=>by simp[zP] at h
 | (.own,_)::_,[],g,vals,oids,h,ha,hg,hu,hj=>by simp[zP] at h
theorem aa9 {ts:List Ty} (h:rz ts=true):∃ E e,ts=[.sl E e]:=by
 unfold rz at h;split at h
 ·exact⟨_,_,rfl⟩
 ·cases h
theorem ae5 {f:Nat} {cf:PF} (hS:Kt P A.gl f cf) {args:List AV} {vals:List Value} (ah2:All2 (AVOk loc) args vals) (afV:(execOp a.eval o).run P w=(callFunc f vals.toArray).run P w)
  (hr:Rel0 B X A w0 γ loc st a w) (hk:qQ cf args o.dst st k=some r) (hn:zY B X A w0 k r o.dst.toList st next):o.wp P a w next Q:=by
 obtain⟨params,rets,rk,fn⟩:=cf;unfold qQ at hk;split at hk
 ·cases hk
 ·next g hg=>
  split at hk
  ·cases hk
  ·next oids anT=>
   split at hk
   ·cases hk
   ·next hck=>
    simp only[apO] at hck;obtain⟨hps,ajd⟩:=hck;obtain⟨ET,e,rfl⟩:=aa9 ajd;obtain⟨outs,agP,hk⟩:=Option.bind_eq_some_iff.1 hk;obtain⟨ahF,ap1⟩:=Jn anT;have ag4:=Jm ahF;obtain⟨rr,xo,k1,k2,k3,k4,k5⟩:=oC hr params _ g _ oids hg ah2 ahF ap1 hps;obtain⟨l1,-,-,l4,-⟩:=k1.lt;have hxr:∀ b∈xo,b∉rr:=by
     intro b hb hb';obtain⟨i,_,e1⟩:=k5 b hb;obtain⟨j,_,e2⟩:=k3 b hb';rw[e1] at e2; cases e2
    have hga:∀ b∈A.gl.gb,b<w.heap.size/\b∉xo:=by
     intro b hb;obtain⟨g1,g2⟩:=hr.globApart hb;refine⟨g1,λ hm => ?_⟩;obtain⟨i,_,e⟩:=k5 b hm;rcases g2 with g2|g2<;>rw[e] at g2<;>cases g2
    have hcall:=hS.run w g.vs _ rr xo outs k1 k4 k2 hxr hr.globAt hga agP;unfold Oper.wp;rw[afV];refine hcall.upon λ v w' ahf => ?_;obtain⟨hkeep,css,xs,fs,hR,hv,hnd,hxs,hfs⟩:=ahf;simp only[ZF,zd,Yf,Ty.isPair] at hk;obtain⟨cs,css',x1,x2,f1,f2,rfl,rfl,rfl,hR1,hc',hx2,hf2⟩:=hR;subst hc' hx2 hf2;simp only[aqL] at hnd hxs hfs;have hR1:RdO w' (.sl ET e) (Zc [.sl ET e] params outs).1 cs x1 f1:=hR1;have hc:∃ c,cs=[c]/\∃ a n k,c=.slice a n k:=by
     rcases hR1 with⟨_,h,_⟩|⟨b,cap,arr,T,fr,h,_⟩<;>exact⟨_,h,_,_,_,rfl⟩
    obtain⟨c,rfl,hsl⟩:=hc;have hv:v=c:=hv;subst hv;obtain⟨n1,n2,n3⟩:=List.nodup_append.1 hnd
    classical
    let γ2:Nat->Own:=λ b=>if b∈x1 then .top st.nxt else if b∈f1 then .deep st.nxt else if b<w.heap.size then relab oids .persist γ b else .persist
    let loc2:Nat->Value:=λ i=>if i=st.nxt then v else loc i
    have hnx:∀ b,b<w.heap.size->(∀ i∈oids,γ b ≠ .top i)->b∉x1/\b∉xo:=by
     intro b hb h;have h1:b∉xo:=λ hm=>by obtain⟨i,hi,e⟩:=k5 b hm; exact h i hi e
     exact⟨λ hm=>(hxs b hm).elim (λ h=>by omega) h1,h1⟩
    have hnf:∀ b,(∀ i∈oids,γ b ≠ .deep i)->b∉f1:=λ b h hm=>by obtain⟨i,hi,e⟩:=k3 b (hfs b hm); exact h i hi e
    have hB:=hr.Ble;have hoX:∀ b,b<B->b∉X->b∉x1/\b∉xo:=by
     intro b hb hx;refine hnx b (by omega) ?_;intro i _ e;rcases hr.old b hb hx with h|⟨h,_⟩<;>rw[h] at e<;>cases e
    have hfX:∀ b,b<B->b∉X->b∉f1:=by
     intro b hb hx;refine hnf b ?_;intro i _ e;rcases hr.old b hb hx with h|⟨h,_⟩<;>rw[h] at e<;>cases e
    have hR2:Rel0 B X A w0 γ2 loc2 { st with tab:=(st.nxt,.arr (.own true) st.lvl ET e (Zc [.sl ET e] params outs).1)::Zw st.tab oids,nxt:=st.nxt+1 } a w':=by
     refine hr.updW (M:=λ i=>i∈oids) rfl (by simp) ⟨hkeep.os,hkeep.tape,hkeep.output,hkeep.size,λ b hb hx=>hkeep.block b (by omega) (hoX b hb hx).2,hkeep.free,hkeep.shape⟩ ?_ ?_ (λ i hi=>by simp[loc2,show i≠st.nxt by omega]) ⟨?_,?_,?_⟩
      (λ i hi=>by obtain⟨u,lvl,E',e,xs,h',_⟩:=ag4 i hi; exact⟨_,h'⟩) ?_
     ·intro b hb;by_cases h1:b∈x1
      ·exact hR1.unfr b h1
      ·by_cases h2:b∈f1
       ·obtain⟨i,_,e⟩:=k3 b (hfs b h2);exact hkeep.free b (l1 b (hfs b h2)) (hr.unf b (by rw[e]; trivial))
       ·by_cases h3:b<w.heap.size
        ·simp only[γ2,h1,h2,h3,if_true,if_false] at hb;exact hkeep.free b h3 (hr.unf b (NP hb))
        ·simp[γ2,h1,h2,h3,owned] at hb
     ·intro b hb hx;have e:γ2 b=relab oids .persist γ b:=by simp[γ2,(hoX b hb hx).1,hfX b hb hx,show b<w.heap.size by omega]
      rw[e];exact NO hr.old b hb hx
     ·intro b hb hp;obtain⟨h1,h2⟩:=hnx b hb (by simp[hp]);refine⟨?_,hkeep.block b hb h2⟩;simp only[γ2,h1,hnf b (by simp[hp]),hb,if_true,if_false];exact Yl hp
     ·intro b i hb hp hi;obtain⟨h1,h2⟩:=hnx b hb (by rw[hp]; intro i' hi' e; cases e; exact hi hi')
      refine⟨?_,hkeep.block b hb h2⟩;simp only[γ2,h1,hnf b (by simp[hp]),hb,if_true,if_false];rw[KJ hp,if_neg hi]
     ·intro b i hb hp;obtain⟨h1,h2⟩:=hnx b hb (by simp[hp]);refine⟨hkeep.block b hb h2,λ hi => ?_,λ hi => ?_⟩
      ·simp only[γ2,h1,hnf b (by rw[hp]; intro i' hi' e; cases e; exact hi hi'),hb,if_true,if_false]
       rw[Y4 hp,if_neg hi]
      ·by_cases h3:b∈f1
       ·exact .inr ⟨st.nxt,by simp[γ2,h1,h3]⟩
       ·left;simp only[γ2,h1,h3,hb,if_true,if_false];rw[Y4 hp,if_pos hi]
     ·intro i e' he;simp only[yR] at he;split at he
      ·next hid=>
       cases he;subst hid;refine .inr ⟨⟨⟨x1,f1,by simpa[loc2] using hR1,λ b hb=>by simp[γ2,hb],n2,λ b hb => ?_⟩,trivial,by simp⟩,.inl (Nat.le_refl _)⟩;have:b∉x1:=λ h=>n3 b h b hb rfl;simp[γ2,this,hb]
      ·rw[Jx] at he;split at he
       ·cases he
       ·next hi=>exact .inl ⟨he,hi⟩
    have ah6:Pres [] st { st with tab:=(st.nxt,.arr (.own true) st.lvl ET e (Zc [.sl ET e] params outs).1)::Zw st.tab oids,nxt:=st.nxt+1 }:=by
     refine⟨rfl,by simp,?_,λ _ _=>rfl,rfl⟩;intro id e' he hp;have hlt:=(hr.elt id e' he).2;simp only[yR];rw[if_neg (by omega),Jx,if_neg (λ hm=>QG (ag4 id hm) _ he hp)];exact he
    exact hn _ hk (ah6.putAfter o.dst _) _ _ ⟨γ2,loc2,hR2.put o.dst (x:=.v (.one (.sl st.nxt))) ⟨by simp[loc2],hsl⟩ (show st.nxt<st.nxt+1 by omega)⟩
theorem aaD {l m:List Value} (hl:l.length=m.length) (h:YG l=YG m):l=m:=by
 match l,m,hl,h with
 | [],[],_,_=>rfl
 | [x],[y],_,h=>exact congrArg (λ v=>[v]) h
 | x::y::l,u::v::m,_,h=>
  have h:Value.tuple (x::y::l).toArray=Value.tuple (u::v::m).toArray:=h;simpa using h
theorem Et {k:Kind} {lvl:Nat}:∀ {ts:List Ty} {v:dens ts} {j:Nat} {xs:List V1} {es:List (Nat×Ent)} {j':Nat},ZF k lvl ts v j=some (xs,es,j')->xs.length=ts.length
 | [],v,j,xs,es,j',h=>by simp only[ZF,apP,apV] at h; rw[←h.1]; rfl
 | t::ts,v,j,xs,es,j',h=>by
  unfold ZF at h;simp only at h;split at h
  ·next x ys es' j'' h1 h2=>
   cases h;have:=Et h2;simp[this]
  ·cases h
theorem Gc {b:Bool}:∀ {xs:List V1} {vs:List Value},All2 (V1Ok loc) xs (vs++[.bool b])->All2 (V1Ok loc) (ak b xs) (vs++[.bool b])
 | [],[],h=>h
 | [],_::_,h=>h
 | [x],[],h=>⟨rfl,trivial⟩
 | [x],[v],h=>h.2.elim
 | [x],v::u::vs,h=>h.2.elim
 | x::y::xs,[],h=>h.2.elim
 | x::y::xs,v::vs,h=>⟨h.1,Gc (xs:=y::xs) h.2⟩
theorem Gb {b:Bool} {n:Nat}:∀ {xs:List V1},(∀ x∈xs,x.lt n)->∀ x∈ak b xs,x.lt n
 | [],h=>h
 | [x],h=>by intro y hy; simp only[ak,arg] at hy; subst hy; trivial
 | x::y::xs,h=>by
  intro z hz;simp only[ak,aqb] at hz;rcases hz with rfl|hz
  ·exact h z (by simp)
  ·exact Gb (xs:=y::xs) (λ u hu=>h u (by simp[hu])) z hz
theorem v8:∀ {cs:List Value} {n:Nat},cs.length=n->(∀ c∈cs,c.oneCell'=true)->All2 (LeafOk loc) (List.replicate n .any) cs
 | [],n,h,_=>by simp at h; subst h; trivial
 | c::cs,n,h,h1=>by
  obtain⟨m,rfl⟩:∃ m,n=m+1:=⟨cs.length,by simp at h; omega⟩
  exact⟨h1 c (by simp),v8 (by simpa using h) λ x hx=>h1 x (by simp[hx])⟩
theorem wh {t:Ty} {cs:List Value} (hl:cs.length=t.size) (h1:∀ c∈cs,c.oneCell'=true):V1Ok loc (qA t) (zU t cs):=by
 unfold qA zU;cases hp:t.isPair with
 | true=>
  simp only[if_true];exact⟨cs,rfl,v8 hl h1⟩
 | false=>
  simp only[aqc,if_false];have hs:t.size=1:=by cases t<;>simp_all [Ty.isPair,Ty.size]
  rw[hs] at hl
  match cs,hl with
  | [c],_=>exact h1 c (by simp)
theorem wg {t:Ty} {n:Nat}:(qA t).lt n:=by
 unfold qA;split
 ·intro l hl;rw[List.eq_of_mem_replicate hl];trivial
 ·trivial
theorem we {b:Bool}:∀ {ts:List Ty} {css:List (List Value)},qx b ts css->All2 (V1Ok loc) (MT b ts) (ZM ts css)
 | [],css,h=>by cases css<;>exact h.elim
 | [t],[],h=>h.elim
 | [t],[cs],h=>⟨h,trivial⟩
 | [t],_::_::_,h=>h.elim
 | t::u::ts,[],h=>h.elim
 | t::u::ts,cs::css,h=>⟨wh h.1 h.2.1,we (ts:=u::ts) h.2.2⟩
theorem wd {b:Bool} {n:Nat}:∀ {ts:List Ty},∀ x∈MT b ts,x.lt n
 | [],x,h=>by simp[MT] at h
 | [t],x,h=>by simp only[MT,arg] at h; subst h; trivial
 | t::u::ts,x,h=>by
  simp only[MT,aqb] at h;rcases h with rfl|h
  ·exact wg
  ·exact wd (ts:=u::ts) x h
theorem mu {b:Bool}:∀ {ts:List Ty} {css:List (List Value)},qx b ts css->∃ vs,ZM ts css=vs++[.bool b]/\vs.length+1=ts.length
 | [],css,h=>by cases css<;>exact h.elim
 | [t],[],h=>h.elim
 | [t],[cs],h=>⟨[],by simp only[ZM,aqf,h.symm],rfl⟩
 | [t],_::_::_,h=>h.elim
 | t::u::ts,[],h=>h.elim
 | t::u::ts,cs::css,h=>by
  obtain⟨vs,e1,e2⟩:=mu (ts:=u::ts) h.2.2;exact⟨zU t cs::vs,by simp only[ZM,e1,aqV],by simp at e2 ⊢; omega⟩
theorem adS {f:Nat} {cf:PF} (hS:K0 P A.gl f cf) {args:List AV} {vals:List Value} (ah2:All2 (AVOk loc) args vals) (afV:(execOp a.eval o).run P w=(callFunc f vals.toArray).run P w)
  (hr:Rel0 B X A w0 γ loc st a w) (hk:qO cf args o.dst st k=some r) (hn:zY B X A w0 k r o.dst.toList st next):o.wp P a w next Q:=by
 unfold qO at hk;split at hk
 ·cases hk
 ·next g hg=>
  split at hk
  ·cases hk
  ·next oids ahF=>
   split at hk
   ·cases hk
   ·next ai7=>
    rw[apO] at ai7;obtain⟨outs,agP,hk⟩:=Option.bind_eq_some_iff.1 hk;obtain⟨rr,rp,rc,xo,xp,k1,k2,k3,k4,k5⟩:=wu hr hg ah2 ahF ai7.1;have hcall:=hS.run w g.vs _ rr rp rc xo xp outs k1 k2 k3 hr.globAt k4 agP;unfold Oper.wp;rw[afV];refine hcall.upon λ v w' ahf => ?_;obtain⟨hkeep,css,b,rfl,ajU,ahR,aoY⟩:=ahf;rw[ahR] at hk;cases b with
    | false=>
     simp only[apM] at hk;have hR:=hr.still hkeep;exact hn _ hk ((Pres.refl [] st).putAfter o.dst _) _ _ ⟨_,loc,hR.put o.dst (tL (we ajU)) (tK wd)⟩
    | true=>
     simp only[apN] at hk;split at hk
     ·cases hk
     ·next tab j rs ah0=>
      split at hk
      ·cases hk
      ·next xs es j' agL=>
       obtain⟨γ2,loc2,hR2,ah6,vs',hv,b2,b3⟩:=k5 ah0 agL ⟨hkeep.os,hkeep.tape,hkeep.output,hkeep.size,λ b hb _=>hkeep.block b hb (by simp),hkeep.free,hkeep.shape⟩ (aoY rfl);obtain⟨vs,hvs,hlen⟩:=mu ajU;rw[hvs] at hv ⊢;have e1:=b2.len;have e2:=Et agL;have e3:vs++[Value.bool true]=vs':=aaD (by simp; omega) hv
       subst e3;exact hn _ hk (ah6.putAfter o.dst _) _ _ ⟨γ2,loc2,hR2.put o.dst (tL (Gc b2)) (tK (Gb b3))⟩
theorem Gt {f:Nat} {pf:PF} (hS:Sound P A.gl f pf) {args:List AV} {vals:List Value} (ah2:All2 (AVOk loc) args vals) (afV:(execOp a.eval o).run P w=(callFunc f vals.toArray).run P w)
  (hr:Rel0 B X A w0 γ loc st a w) (hk:M0 pf args o.dst st k=some r) (hn:zY B X A w0 k r o.dst.toList st next):o.wp P a w next Q:=by
 unfold M0 at hk;split at hk
 ·cases hk
 ·next g hg=>
  split at hk
  ·cases hk
  ·next oids ahF=>
   split at hk
   ·cases hk
   ·next ai7=>
    obtain⟨outs,agP,hk⟩:=Option.bind_eq_some_iff.1 hk;split at hk
    ·cases hk
    ·next tab j rs ah0=>
     split at hk
     ·cases hk
     ·next xs es j' agL=>
      obtain⟨rr,rp,rc,xo,xp,k1,k2,k3,k4,k5⟩:=wu hr hg ah2 ahF ai7;have hcall:=hS.run w g.vs _ rr rp rc xo xp outs k1 k2 k3 hr.globAt k4 agP;unfold Oper.wp;rw[afV];refine hcall.upon λ v w' ahf => ?_;obtain⟨γ2,loc2,hR2,ah6,vs,rfl,b2,b3⟩:=k5 ah0 agL ahf.1 ahf.2;exact hn _ hk (ah6.putAfter o.dst _) _ _ ⟨γ2,loc2,hR2.put o.dst (tL b2) (tK b3)⟩
theorem Rd.cell1 {w:World}:∀ {t:Ty} {v:den t} {cs:List Value} {fp:List Nat},Rd w t v cs fp->∀ c∈cs,c.oneCell'=true
 | .i64,_,_,_,h=>by obtain⟨rfl,_⟩:=h; simp[Value.oneCell']
 | .u8,_,_,_,h=>by obtain⟨rfl,_⟩:=h; simp[Value.oneCell']
 | .bool,_,_,_,h=>by obtain⟨rfl,_⟩:=h; simp[Value.oneCell']
 | .str,_,_,_,h=>by obtain⟨rfl,_⟩:=h; simp[Value.oneCell']
 | .sl _ _,_,_,_,h=>by
  obtain⟨a,n,k,rfl,_⟩:=h;intro c hc;simp only[arg] at hc;subst hc;rfl
 | .pair _ _,_,_,_,h=>by
  obtain⟨c1,c2,f1,f2,rfl,_,h1,h2⟩:=h;intro c hc;rcases List.mem_append.1 hc with hc|hc
  ·exact Rd.cell1 h1 c hc
  ·exact Rd.cell1 h2 c hc
theorem TX {w:World} {rk:RK} {ts:List Ty} {v:dens ts} {css:List (List Value)} {xs fs:List Nat} {x:AV} (h:ou ts v=some x) (hR:RetL w rk ts v css xs fs):AVOk loc x (YG (ZM ts css))/\∀ n,x.lt n:=by
 unfold ou at h;split at h
 ·next t v=>
  cases h;obtain⟨cs,css',x1,x2,f1,f2,rfl,rfl,rfl,h1,cs2,css2,y1,y2,g1,g2,rfl,rfl,rfl,h2,rfl,rfl,rfl⟩:=hR;have e1:∃ fp,Rd w t v.1 cs fp:=by
   cases rk with
   | shared=>exact⟨_,h1.2⟩
   | own=>obtain⟨fp,h,_⟩:=RdO.rd h1; exact⟨fp,h⟩
   | uniq=>obtain⟨fp,h,_⟩:=RdO.rd h1; exact⟨fp,h⟩
  have e2:∃ fp,Rd w .i64 v.2.1 cs2 fp:=by
   cases rk with
   | shared=>exact⟨_,h2.2⟩
   | own=>obtain⟨fp,h,_⟩:=RdO.rd h2; exact⟨fp,h⟩
   | uniq=>obtain⟨fp,h,_⟩:=RdO.rd h2; exact⟨fp,h⟩
  obtain⟨fp1,e1⟩:=e1;obtain⟨fp2,rfl,_,hb⟩:=e2;refine⟨⟨_,rfl,wh e1.len e1.cell1,⟨rfl,hb⟩,trivial⟩,λ n => ?_⟩;intro y hy;simp only[aqb,aqM,or_false] at hy;rcases hy with rfl|rfl
  ·exact wg
  ·trivial
 ·cases h
theorem OutOk.rd_rets {w1 w:World} {n:Nat} {rk:RK} {rr xo pt:List Nat} {rets:List Ty} {v:Value}:∀ {ps:List (PK×Ty)} {outs:zQ ps rets} {xp:List Nat},OutOk w1 w n rk rr xo pt rets v ps outs xp->(ps.all λ p=>p.1.isRd)=true->KZ w n rk rr xo pt rets v (Zc rets ps outs)
 | [],_,_,h,_=>h.2
 | (.rd,t)::ps,outs,xp,h,hp=>by
  simp only[aqm,apO] at hp;exact OutOk.rd_rets (ps:=ps) h hp.2
 | (.own,t)::ps,_,_,_,hp=>by simp[PK.isRd] at hp
 | (.ptr,t)::ps,_,_,_,hp=>by simp[PK.isRd] at hp
 | (.cap,t)::ps,_,_,_,hp=>by simp[PK.isRd] at hp
 | (.clo f,t)::ps,_,_,_,hp=>by simp[PK.isRd] at hp
theorem adL {f:Nat} {qf:PF} (hS:Sound P A.gl f qf) {oth:Option R} {args:List AV} {vals:List Value} (ah2:All2 (AVOk loc) args vals) (afV:(execOp a.eval o).run P w=(callFunc f vals.toArray).run P w)
  (hr:Rel0 B X A w0 γ loc st a w) (hk:fk qf args o.dst st k oth=some r) (amA:oth=some r->o.wp P a w next Q) (hn:zY B X A w0 k r o.dst.toList st next):o.wp P a w next Q:=by
 unfold fk at hk;split at hk
 ·cases hk
 ·next g hg=>
  split at hk
  ·cases hk
  ·next hrd=>
   cases agP:qf.fn g.vs with
   | none=>
    rw[agP] at hk;exact amA hk
   | some outs=>
    rw[agP] at hk;simp only[L7,apL] at hk;cases hgo:ox qf.rets (Zc qf.rets qf.params outs) with
    | false=>rw[hgo] at hk; exact amA hk
    | true=>
    rw[hgo] at hk;simp only[apN] at hk;split at hk
    ·cases hk
    ·next x hx=>
     obtain⟨e1,e2,e3,e4⟩:=oz hg hrd;obtain⟨rr,rp,rc,xo,xp,k1,k2,k3,k4,k5,k6,k7,k8,k9⟩:=LW hr qf.params _ g _ [] hg ah2 (by rw[e1]; rfl) (by rw[e2]; rfl)
     obtain⟨rfl,rfl,rfl,rfl⟩:=oA k1 hrd;have hcall:=hS.run w g.vs _ rr [] [] [] [] outs k1 (by simp) (by simp) hr.globAt (λ b hb=>⟨(hr.globApart hb).1,by simp⟩) agP;unfold Oper.wp;rw[afV];refine hcall.upon λ v w' ahf => ?_;obtain⟨hkeep,pt,hout⟩:=ahf;obtain⟨css,xs,fs,q1,rfl,_,_⟩:=hout.rd_rets hrd;obtain⟨x1,x2⟩:=TX (loc:=loc) hx q1;have hR:=hr.still (by simpa using hkeep);exact hn _ hk ((Pres.refl [] st).putAfter o.dst _) _ _ ⟨_,loc,hR.put o.dst x1 (x2 _)⟩
theorem adR (hL:∀ f qf,lk E.alts f=some qf->Sound P A.gl f qf) (hJ:∀ f cf,lk E.joins f=some cf->Kt P A.gl f cf) (hC:∀ f cf,lk E.conds f=some cf->K0 P A.gl f cf) (hN:∀ f nf,lk E.news f=some nf->LT P A.gl f nf) (hS:∀ f pf,lk E.fns f=some pf->Sound P A.gl f pf) {c:Call} (hc:o.op=.call c) {fo:Operand} (hf:c.callee=.value fo) {f:Nat} {caps:List Nat} (hfo:zv st fo=some (.fn f caps))
  {as:List AV} (has:opnds st c.args.toList=some as) (hr:Rel0 B X A w0 γ loc st a w) (hk:qN E f (as++caps.map λ id=>.v (.one (.ptr id 0))) o.dst st k=some r)
  (hn:zY B X A w0 k r o.dst.toList st next):o.wp P a w next Q:=by
 obtain⟨⟨hv,aj2⟩,hcl⟩:=yD hr hfo;have ah2:All2 (AVOk loc) (as++caps.map λ id=>.v (.one (.ptr id 0))) (c.args.toList.map a.eval++caps.map loc):=by
  refine (Bu hr has).append ?_;clear hv hk hfo hcl;induction caps with
  | nil=>trivial
  | cons i is ih=>
   obtain⟨b,hb⟩:=aj2 i (by simp);exact⟨⟨b,hb,hb⟩,ih (λ c hc=>aj2 c (by simp[hc]))⟩
 unfold qN at hk;split at hk
 ·split at hk
  ·split at hk
   ·split at hk
    ·cases hk
    ·next cf hcf=>exact ae5 (hJ f cf hcf) ah2 (by rw[QX (first:=[]) hc hf (by simpa using hv)]; simp) hr hk hn
   ·next cf hcf=>exact adS (hC f cf hcf) ah2 (by rw[QX (first:=[]) hc hf (by simpa using hv)]; simp) hr hk hn
  ·next nf hnf=>exact aef (hN f nf hnf) ah2 (by rw[QX (first:=[]) hc hf (by simpa using hv)]; simp) hr hk hn
 ·next pf hpf=>
  have afV:(execOp a.eval o).run P w=(callFunc f (c.args.toList.map a.eval++caps.map loc).toArray).run P w:=by rw[QX (first:=[]) hc hf (by simpa using hv)]; simp
  split at hk
  ·exact Gt (hS f pf hpf) ah2 afV hr hk hn
  ·next qf hqf=>exact adL (hL f qf hqf) ah2 afV hr hk (λ h=>Gt (hS f pf hpf) ah2 afV hr h hn) hn
structure Zt (P:Program) (gl:Glob) (E:Env):Prop where
 mixed:P.follows .mixedOrders=true
 tys:yg P E.tys=true
 eqs:E.eqs.all (MZ P E.tys)=true
 fns:∀ f pf,lk E.fns f=some pf->Sound P gl f pf
 news:∀ f nf,lk E.news f=some nf->LT P gl f nf
 muts:∀ f mf,lk E.muts f=some mf->qy P gl f mf
 conds:∀ f cf,lk E.conds f=some cf->K0 P gl f cf
 joins:∀ f cf,lk E.joins f=some cf->Kt P gl f cf
 alts:∀ f qf,lk E.alts f=some qf->Sound P gl f qf
theorem TOk.pair_arr {tys:List (Nat×TD)} {t:Nat} {d:TD} (h:TOk P tys t d) (hp:d.ty.isPair=true):d.arr=none:=by
 obtain⟨u,hu,hc⟩:=h.und;unfold KT at hc;split at hc
 ·simp only[apO,apY] at hc; rw[hc.1] at hp; cases hp
 ·simp only[apO,apY] at hc; rw[hc.1] at hp; cases hp
 ·simp only[apO,apY] at hc; rw[hc.1] at hp; cases hp
 ·simp only[apO,apY] at hc; rw[hc.1] at hp; cases hp
 ·simp only[apO,aqI] at hc; exact hc.1
 ·split at hc
  ·next heq=>rw[heq] at hp; cases hp
  ·simp at hc
 ·simp only[apO,aqI] at hc; exact hc.1.1
 ·cases hc
theorem aeg (hE:Zt P A.gl E) (ago:Rel B X A w0 st a w) (hk:yf E o st k=some r) (hn:zY B X A w0 k r o.dst.toList st next):o.wp P a w next Q:=by
 obtain⟨γ,loc,hr⟩:=ago;obtain⟨_,hT,hQ,hS,hN,_,hC,hJ,hL⟩:=hE;unfold yf at hk;split at hk
 ·next x ho=>
  split at hk
  ·next v hv=>exact Gx (.inl ho) hv hr hk hn
  ·cases hk
 ·next x ho=>
  split at hk
  ·next v hv=>exact Gx (.inr ho) hv hr hk hn
  ·cases hk
 ·next c x y ho=>
  split at hk
  ·next z hz=>
   cases z with
   | true=>
    simp only[apN] at hk;split at hk
    ·next v hv=>exact Gy (z:=true) ho hz hv hr hk hn
    ·cases hk
   | false=>
    simp only[apM] at hk;split at hk
    ·next v hv=>exact Gy (z:=false) ho hz hv hr hk hn
    ·cases hk
  ·cases hk
 ·next T ho=>
  split at hk
  ·next ET e b f n hd=>
   split at hk
   ·next hn0=>exact adK hT ho hd rfl rfl (Nat.le_of_ble_eq_true hn0) hr hk hn
   ·cases hk
  ·next d hd=>
   split at hk
   ·cases hk
   ·next afX=>exact adJ hT ho hd afX hr hk hn
  ·cases hk
 ·next T x ho=>
  split at hk
  ·next d ls hd hx=>exact adO ho hx hr hk hn
  ·cases hk
 ·next T ps ho=>
  split at hk
  ·next d hd=>
   split at hk
   ·next ls hp hf=>exact adP hT ho hd ((z6 hT hd).pair_arr hp) hp hf hr hk hn
   ·cases hk
  ·cases hk
 ·next T n ps ho=>
  split at hk
  ·next ET e b f hd=>
   split at hk
   ·next vs ls hel hc=>
    simp only[apO] at hc;split at hk
    ·next u tab ht=>exact adQ hT ho hd rfl rfl hel ((zJ _ _).1 hc.1) (Nat.le_of_ble_eq_true hc.2) ht hr hk hn
    ·cases hk
   ·cases hk
  ·cases hk
 ·next T x ho=>
  split at hk
  ·next d p hd hp=>
   split at hk
   ·next afX=>exact ae8 hT ho hd afX hp hr hk hn
   ·cases hk
  ·cases hk
 ·next T x y ho=>
  split at hk
  ·next d p ls hd hp hl=>
   split at hk
   ·next st' afX hs=>exact aem hT ho hd afX hp hl hr hs hk hn
   ·cases hk
  ·cases hk
 ·next x ho=>
  split at hk
  ·next id off hx=>exact uO ho hx (λ v hv=>by obtain⟨b,_,h⟩:=hv; exact⟨_,h⟩) hr hk hn
  ·next id ix esz off hx=>exact uO ho hx (λ v hv=>by obtain⟨b,ob,n,c,_,_,h⟩:=hv; exact⟨_,h⟩) hr hk hn
  ·next id hx=>exact uO ho hx (λ v hv=>by obtain⟨b,n,c,_,h⟩:=hv; exact⟨_,h⟩) hr hk hn
  ·cases hk
 ·next op T x y yT ho=>
  split at hk
  ·next n hn0=>
   split at hk
   ·next m hx=>exact aej ho hn0 hx hr hk hn
   ·cases hk
  ·split at hk
   ·next u v hx hy=>
    split at hk
    ·next hq=>exact adN hT hQ ho hx hy hq hr hk hn
    ·cases hk
   ·cases hk
 ·next op T x ho=>
  split at hk
  ·next z hx=>exact Gz ho hx hr (.inl ⟨rfl,z,rfl,rfl⟩) hk hn
  ·next n hx=>exact Gz ho hx hr (.inr ⟨rfl,n,rfl,rfl⟩) hk hn
  ·cases hk
 ·next S D x ho=>
  split at hk
  ·next ds dd l hs hd hx=>
   split at hk
   ·next has had=>exact adT hT ho hs hd has had hx hr hk hn
   ·cases hk
  ·cases hk
 ·next fn first caps ho=>
  split at hk
  ·next f id akX aj2=>
   have hc1:∃ y,caps.toList=[y]/\opnd st y=some (.v (.one (.ptr id 0))):=by
    match hl:caps.toList,aj2 with
    | [],h=>simp[opnds,hl] at h
    | [y],h=>
     simp only[opnds] at h;split at h
     ·next u us h1 h2=>simp only[apP,aqe] at h; exact⟨y,rfl,by rw[h1,h.1]⟩
     ·cases h
    | y::z::l,h=>
     simp only[opnds] at h;split at h
     ·next u us h1 h2=>
      split at h2
      ·simp only[apP] at h2;subst h2;simp at h
      ·cases h2
     ·cases h
   obtain⟨y,hy1,hy2⟩:=hc1;exact aea ho akX hy1 hy2 hr hk hn
  ·cases hk
 ·next T x y ho=>
  split at hk
  ·next ET e b f n m hd hx hy=>
   split at hk
   ·next hnm=>
    subst hnm;split at hk
    ·next hc=>exact aeb hT ho hd rfl rfl hx hy hc.1 hc.2 hr hk hn
    ·cases hk
   ·cases hk
  ·cases hk
 ·next T x lo hi ho=>
  split at hk
  ·next d l la lb hd hx hlo hhi=>
   split at hk
   ·next afX=>exact aek hT ho hd afX hx hlo hhi hr hk hn
   ·cases hk
  ·cases hk
 ·next T x f ho=>
  split at hk
  ·next d id off hd hx=>
   split at hk
   ·next fo ft hf=>
    refine Gu (l':=.ptr id (off+fo)) hT ho hd hx hf ?_ (λ h=>h) hr hk hn;rintro v ⟨b,h1,h2⟩;exact⟨_,h2,b,h1,by simp[Addr.add]⟩
   ·cases hk
  ·next d id ix esz off hd hx=>
   split at hk
   ·next fo ft hf=>
    refine Gu (l':=.ep id ix esz (off+fo)) hT ho hd hx hf ?_ (λ h=>h) hr hk hn;rintro v ⟨b,ob,n,c,h1,h2,h3⟩;exact⟨_,h3,b,ob,n,c,h1,h2,by simp[Addr.add,aqB]⟩
   ·cases hk
  ·cases hk
 ·next T x f ho=>
  split at hk
  ·next d ls hd hx=>
   split at hk
   ·next fo ft hf=>
    split at hk
    ·next fd hfd=>
     split at hk
     ·next xv hle hmk=>exact adX hT ho hd hx hf hfd (Nat.le_of_ble_eq_true hle) hmk hr hk hn
     ·cases hk
    ·cases hk
   ·cases hk
  ·cases hk
 ·next T x y ho=>
  split at hk
  ·next ET e b f m id n hd hx hy=>
   split at hk
   ·next kd lvl EE e' xs hl=>
    split at hk
    ·next hc=>
     simp only[apY] at hc;subst hc;split at hk
     ·next hm=>
      split at hk
      ·next hb=>exact ae1 hT ho hd rfl rfl hx hy hl hm.symm (by rw[hm]; exact hb) hr hk hn
      ·cases hk
     ·cases hk
    ·cases hk
   ·cases hk
  ·next ET e b f id n hd hx hy=>
   split at hk
   ·next kd lvl EE e' xs hl=>
    split at hk
    ·next hc=>
     simp only[apY] at hc;subst hc;split at hk
     ·next hb=>exact ae2 hT ho hd rfl rfl hx hy hl hb hr hk hn
     ·cases hk
    ·cases hk
   ·cases hk
  ·cases hk
 ·next T x y ho=>
  split at hk
  ·next b f l n hd hx hy=>
   split at hk
   ·next hb=>exact ae3 hT ho hd rfl rfl hx hy hb hr hk hn
   ·cases hk
  ·cases hk
 ·next t i ho=>
  split at hk
  ·next xs hx=>
   split at hk
   ·next x hi=>exact adW ho hx hi hr hk hn
   ·cases hk
  ·cases hk
 ·next c ho=>
  split at hk
  ·next fo hf=>
   split at hk
   ·next f caps as h1 h2=>exact adR hL hJ hC hN hS ho hf h1 h2 hr hk hn
   ·cases hk
  ·next hb=>
   split at hk
   ·next x T hargs hty=>
    split at hk
    ·next l hx=>
     split at hk
     ·next n hlt hlen=>exact ae7 hT ho hb hargs hty hx hlt hlen hr hk hn
     ·cases hk
    ·cases hk
   ·cases hk
  ·next hb=>
   split at hk
   ·next s x T T2 hargs ahK=>
    split at hk
    ·next ls lx hs hx hT2=>exact adM hT hT2 ho hb hargs ahK hs hx hr hk hn
    ·cases hk
   ·cases hk
  ·next hb=>
   split at hk
   ·next x y hargs=>
    split at hk
    ·next m n hx hy=>exact aec ho hb hargs hx hy hr hk hn
    ·cases hk
   ·next x y z hargs=>
    split at hk
    ·next m n l hx hy hz=>exact aed ho hb hargs hx hy hz hr hk hn
    ·cases hk
   ·cases hk
  ·next hb=>
   split at hk
   ·next x y hargs=>
    split at hk
    ·next m n hx hy=>exact aee ho hb hargs hx hy hr hk hn
    ·cases hk
   ·cases hk
  ·cases hk
 ·cases hk
def stays (id:Nat) (t:Bool) (γ:Nat->Own) (b:Nat):Own:=
 match γ b with
 | .top i=>if i=id/\t=true then .persist else .top i
 | .deep i=>if i=id then .persist else .deep i
 | x=>x
theorem vo {id:Nat} {t:Bool} {γ:Nat->Own} {b:Nat} (h:γ b=.alien∨γ b=.persist):stays id t γ b=γ b:=by
 unfold stays;rcases h with h|h<;>rw[h]
theorem afh {id:Nat} {t:Bool} {γ:Nat->Own} {b:Nat} (h:owned (stays id t γ b)):owned (γ b):=by
 unfold stays at h;split at h
 ·next i he=>rw[he]; trivial
 ·next i he=>rw[he]; trivial
 ·exact h
theorem afg (id:Nat) (t:Bool) (γ:Nat->Own) (w:World):Moves (λ i=>i=id) γ (stays id t γ) w w where
 persist:=λ b _ h=>⟨by rw[vo (.inr h)]; exact h,rfl⟩
 top:=λ b i _ h hi=>⟨by unfold stays; rw[h]; simp only; rw[if_neg (λ hh=>hi hh.1)],rfl⟩
 deep:=λ b i _ h=>⟨rfl,λ hi=>by unfold stays; rw[h]; simp only; rw[if_neg hi],λ hi=>by unfold stays; rw[h]; simp only; rw[if_pos hi]; exact .inl rfl⟩
theorem Rel0.stays1 (hr:Rel0 B X A w0 γ loc st a w) {id:Nat} {u:Bool} {lvl E':Nat} {e:Ty} {xs:List (den e)} (hl:look st.tab id=some (.arr (.own u) lvl E' e xs)) (t:Bool) (k:Kind)
  (hk:EntOk (stays id t γ) loc w id (.arr k lvl E' e xs)):Rel0 B X A w0 (stays id t γ) loc { st with tab:=yx st.tab id (.arr k lvl E' e xs)} a w:=by
 refine hr.updW (M:=λ i=>i=id) rfl (Nat.le_refl _) (KeepsW.refl B X w) (λ b hb=>hr.unf b (afh hb)) ?_ (λ _ _=>rfl) (afg id t γ w) (λ i (hi:i=id)=>by rw[hi]; exact⟨_,hl⟩) ?_
 ·intro b hb hx;have:=hr.old b hb hx;rw[vo (this.imp (λ h=>h) And.left)]; exact this
 ·intro i e' he;simp only[ZW] at he;split at he
  ·next h=>
   subst h;rw[hl] at he;simp only[aqz,apP] at he;subst he;exact .inr ⟨⟨hk,(hr.elt i _ hl).1,(hr.elt i _ hl).2⟩,.inr ⟨_,hl⟩⟩
  ·next h=>exact .inl ⟨he,h⟩
theorem Rel0.frz1 (hr:Rel0 B X A w0 γ loc st a w) {id:Nat} {u:Bool} {lvl E':Nat} {e:Ty} {xs:List (den e)} (hl:look st.tab id=some (.arr (.own u) lvl E' e xs)):
  Rel0 B X A w0 (stays id true γ) loc { st with tab:=yx st.tab id (.arr (.imm false) lvl E' e xs)} a w:=by
 refine hr.stays1 hl true (.imm false) ?_;obtain⟨xs',fs,h1,h2,h3⟩:=hr.ents id _ hl;obtain⟨fp,g1,g2⟩:=h1.rd;refine⟨fp,g1,λ b hb=>.inl ?_⟩;rcases g2 b hb with hb|hb
 ·unfold stays; rw[h2 b hb]; simp
 ·cases u with
  | true=>unfold stays; rw[h3.2 b hb]; simp
  | false=>rw[vo (.inr (h3 b hb))]; exact h3 b hb
theorem Rel0.loose1 (hr:Rel0 B X A w0 γ loc st a w) {id:Nat} {lvl E':Nat} {e:Ty} {xs:List (den e)} (hl:look st.tab id=some (.arr (.own true) lvl E' e xs)):
  Rel0 B X A w0 (stays id false γ) loc { st with tab:=yx st.tab id (.arr (.own false) lvl E' e xs)} a w:=by
 refine hr.stays1 hl false (.own false) ?_;obtain⟨xs',fs,h1,h2,h3⟩:=hr.ents id _ hl;refine⟨xs',fs,h1,λ b hb => ?_,λ b hb => ?_⟩
 ·unfold stays; rw[h2 b hb]; simp
 ·unfold stays; rw[h3.2 b hb]; simp
theorem Rel.frz:∀ (l:List Nat) (tab:List (Nat×Ent)),Rel B X A w0 { st with tab:=tab } a w->Rel B X A w0 { st with tab:=Yx l tab } a w
 | [],tab,h=>h
 | id::r,tab,h=>by
  simp only[Yx];split
  ·next u lvl E' e xs hl=>
   obtain⟨γ,loc,hr⟩:=h;exact Rel.frz r _ ⟨_,_,hr.frz1 (st:={ st with tab:=tab }) hl⟩
  ·exact Rel.frz r tab h
theorem Rel.loose:∀ (l:List Nat) (tab:List (Nat×Ent)),Rel B X A w0 { st with tab:=tab } a w->Rel B X A w0 { st with tab:=Nw l tab } a w
 | [],tab,h=>h
 | id::r,tab,h=>by
  simp only[Nw];split
  ·next lvl E' e xs hl=>
   obtain⟨γ,loc,hr⟩:=h;exact Rel.loose r _ ⟨_,_,hr.loose1 (st:={ st with tab:=tab }) hl⟩
  ·exact Rel.loose r tab h
theorem fD:∀ (l:List Nat) (tab:List (Nat×Ent)) (id:Nat) (e:Ent),id∉l->look tab id=some e->look (Yx l tab) id=some e
 | [],tab,id,e,_,h=>h
 | i::r,tab,id,e,hi,h=>by
  simp only[aqb,not_or] at hi;simp only[Yx];split
  ·exact fD r _ id e hi.2 (by rw[ZW,if_neg hi.1]; exact h)
  ·exact fD r tab id e hi.2 h
theorem kp:∀ (l:List Nat) (tab:List (Nat×Ent)) (id:Nat) (e:Ent),id∉l->look tab id=some e->look (Nw l tab) id=some e
 | [],tab,id,e,_,h=>h
 | i::r,tab,id,e,hi,h=>by
  simp only[aqb,not_or] at hi;simp only[Nw];split
  ·exact kp r _ id e hi.2 (by rw[ZW,if_neg hi.1]; exact h)
  ·exact kp r tab id e hi.2 h
theorem gY {id:Nat} {e:Ent} (h:Yd st id=true) (he:look st.tab id=some e):¬ e.prot st.lvl:=by
 unfold Yd at h;rw[he] at h;split at h
 ·next hh=>cases hh; exact λ hp=>hp ((zJ _ _).1 h)
 ·cases h
theorem afv {E:Env} {o:Oper}:(∀ i∈(ql E st o).1,Yd st i=true)/\∀ i∈(ql E st o).2,Yd st i=true:=by
 unfold ql;repeat' split
 all_goals simp
theorem aaq {E:Env} {o:Oper}:Pres [] st (KH st (ql E st o)):=by
 obtain⟨h1,h2⟩:=afv (E:=E) (o:=o) (st:=st);generalize ql E st o=f at *;obtain⟨x,y⟩:=f;unfold KH;split
 ·exact Pres.refl _ _
 ·next x' y' hne he=>
  cases he;refine⟨rfl,Nat.le_refl _,?_,λ _ _=>rfl,rfl⟩;intro id e he hp;exact kp _ _ _ _ (λ hm=>gY (h2 id hm) he hp) (fD _ _ _ _ (λ hm=>gY (h1 id hm) he hp) he)
theorem D9 {f:List Nat×List Nat} (h1:∀ i∈f.1,Yd st i=true) (h2:∀ i∈f.2,Yd st i=true):Pres [] st (KH st f):=by
 obtain⟨x,y⟩:=f;unfold KH;split
 ·exact Pres.refl _ _
 ·next x' y' hne he=>
  cases he;refine⟨rfl,Nat.le_refl _,?_,λ _ _=>rfl,rfl⟩;intro id e he hp;exact kp _ _ _ _ (λ hm=>gY (h2 id hm) he hp) (fD _ _ _ _ (λ hm=>gY (h1 id hm) he hp) he)
theorem aao {E:Env} {ops:List Oper}:Pres [] st (preDraw E ops st):=by
 unfold preDraw;split
 ·exact D9 (λ i hi=>(List.mem_filter.1 hi).2) (by simp)
 ·exact Pres.refl _ _
theorem xK:∀ (its:List Item),∀ i∈bN st its,Yd st i=true
 | [],i,h=>by simp[bN] at h
 | it::r,i,h=>by
  simp only[bN,aqd] at h;rcases h with h|h
  ·split at h
   ·exact (List.mem_filter.1 h).2
   ·simp at h
  ·exact xK r i h
theorem aap {its:List Item}:Pres [] st (preLoop its st):=D9 (xK its) (by simp)
theorem Rel.pre {f:List Nat×List Nat} (h:Rel B X A w0 st a w):Rel B X A w0 (KH st f) a w:=by
 unfold KH;split
 ·exact h
 ·exact Rel.loose (st:=st) _ _ (Rel.frz (st:=st) _ _ h)
theorem Rel.preDraw {E:Env} {ops:List Oper} (h:Rel B X A w0 st a w):Rel B X A w0 (preDraw E ops st) a w:=by
 unfold Ev.preDraw;split
 ·exact h.pre
 ·exact h
theorem Rel.preLoop {its:List Item} (h:Rel B X A w0 st a w):Rel B X A w0 (preLoop its st) a w:=h.pre
theorem NZ (hE:Zt P A.gl E) (ago:Rel B X A w0 st a w) (hk:Jj E o st k=some r) (hn:zY B X A w0 k r o.dst.toList st next):o.wp P a w next Q:=
 aeg hE ago.pre hk λ st' h1 h2=>hn st' h1 (by simpa using Pres.trans (aaq (E:=E) (o:=o)) h2)
theorem Kh {ls:List Leaf} (h:ZI [] ls=true):ls=[]:=by
 cases ls with
 | nil=>rfl
 | cons x r=>cases x<;>simp[ZI] at h
theorem JK {x:Leaf} {r ls:List Leaf} (h:ZI (x::r) ls=true):∃ y s,ls=y::s/\(x=y∨(x.isSl=false/\y.isSl=false))/\ZI r s=true:=by
 cases ls with
 | nil=>cases x<;>simp[ZI] at h
 | cons y s=>
  refine⟨y,s,rfl,?_⟩;unfold ZI at h;split at h
  ·next h1 _=>cases h1
  ·next i r' j s' h1 h2=>
   cases h1; cases h2
   simp only[apO] at h;have:=(zJ _ _).1 h.1;subst this;exact⟨.inl rfl,h.2⟩
  ·next r' s' h1 h2=>cases h1; cases h2; exact⟨.inl rfl,h⟩
  ·next x' r' y' s' h1 h2 h3 h4=>
   cases h3; cases h4
   simp only[apO,aqD] at h;exact⟨.inr ⟨h.1.1,h.1.2⟩,h.2⟩
  ·cases h
theorem Gi:∀ {tm ls:List Leaf},ZI tm ls=true->zZ tm=zZ ls
 | [],ls,h=>by rw[Kh h]
 | x::r,ls,h=>by
  obtain⟨y,s,rfl,h1,h2⟩:=JK h;have ih:=Gi h2;rcases h1 with rfl|⟨h3,h4⟩
  ·cases x<;>simp[zZ,ih]
  ·cases x<;>cases y<;>simp_all [zZ,Leaf.isSl]
theorem rb {tab:List (Nat×Ent)}:∀ (t:Ty) (ls:List Leaf) (v:den t) (r tm:List Leaf),zE tab t ls=some (v,r)->ZI tm ls=true->ls=(mixLs t v tm).1++r/\ZI (mixLs t v tm).2 r=true
 | .i64,ls,v,r,tm,h,hs=>by
  match ls,h with
  | .i n::r',h=>
   simp only[zE,apP,apV] at h;obtain⟨rfl,rfl⟩:=h;cases tm with
   | nil=>cases Kh hs
   | cons x s=>obtain⟨y,s',e,_,h2⟩:=JK hs; cases e; exact⟨rfl,h2⟩
 | .u8,ls,v,r,tm,h,hs=>by
  match ls,h with
  | .u n::r',h=>
   simp only[zE,apP,apV] at h;obtain⟨rfl,rfl⟩:=h;cases tm with
   | nil=>cases Kh hs
   | cons x s=>obtain⟨y,s',e,_,h2⟩:=JK hs; cases e; exact⟨rfl,h2⟩
 | .bool,ls,v,r,tm,h,hs=>by
  match ls,h with
  | .b n::r',h=>
   simp only[zE,apP,apV] at h;obtain⟨rfl,rfl⟩:=h;cases tm with
   | nil=>cases Kh hs
   | cons x s=>obtain⟨y,s',e,_,h2⟩:=JK hs; cases e; exact⟨rfl,h2⟩
 | .str,ls,v,r,tm,h,hs=>by
  match ls,h with
  | .s n::r',h=>
   simp only[zE,apP,apV] at h;obtain⟨rfl,rfl⟩:=h;cases tm with
   | nil=>cases Kh hs
   | cons x s=>obtain⟨y,s',e,_,h2⟩:=JK hs; cases e; exact⟨rfl,h2⟩
 | .sl E e,ls,v,r,tm,h,hs=>by
  have key:∃ l,ls=l::r/\l.isSl=true:=by
   match ls,h with
   | .nil::r',h=>
    simp only[zE,apP,apV] at h;exact⟨.nil,by rw[h.2],rfl⟩
   | .sl id::r',h=>
    simp only[zE] at h;split at h
    ·split at h
     ·simp only[apP,apV] at h;exact⟨.sl id,by rw[h.2],rfl⟩
     ·cases h
    ·cases h
  obtain⟨l,rfl,hl⟩:=key;cases tm with
  | nil=>cases Kh hs
  | cons x s=>
   obtain⟨y,s',e,h1,h2⟩:=JK hs;cases e;rcases h1 with rfl|⟨_,h4⟩
   ·exact⟨rfl,h2⟩
   ·rw[hl] at h4; cases h4
 | .pair a b,ls,v,r,tm,h,hs=>by
  simp only[zE] at h;split at h
  ·next x r1 h1=>
   split at h
   ·next y r2 h2=>
    simp only[apP,apV] at h;obtain⟨rfl,rfl⟩:=h;obtain⟨a1,a2⟩:=rb a ls x r1 tm h1 hs;obtain⟨b1,b2⟩:=rb b r1 y r2 _ h2 a2;refine⟨?_,b2⟩;show ls=((mixLs a x tm).1++(mixLs b y (mixLs a x tm).2).1)++r2;rw[aqj,←b1];exact a1
   ·cases h
  ·cases h
theorem re:∀ (t:Ty) (v:den t) (ls:List Leaf),(∀ l∈(mixLs t v ls).1,(∀ n,l.lt n)∨l∈ls)/\∀ l∈(mixLs t v ls).2,l∈ls
 | .i64,v,[] | .u8,v,[] | .bool,v,[] | .str,v,[] | .sl _ _,v,[]=>by simp[mixLs]
 | .i64,v,x::r | .u8,v,x::r | .bool,v,x::r | .str,v,x::r=>by simp +contextual [mixLs,Leaf.lt]
 | .sl _ _,v,x::r=>by simp +contextual [mixLs]
 | .pair a b,v,ls=>by
  obtain⟨a1,a2⟩:=re a v.1 ls;obtain⟨b1,b2⟩:=re b v.2 (mixLs a v.1 ls).2;have e:mixLs (.pair a b) v ls=((mixLs a v.1 ls).1++(mixLs b v.2 (mixLs a v.1 ls).2).1,(mixLs b v.2 (mixLs a v.1 ls).2).2):=by
   conv=>lhs; rw[mixLs.eq_def]
  rw[e];refine⟨λ l hl => ?_,λ l hl=>a2 l (b2 l hl)⟩;rcases List.mem_append.1 hl with hl|hl
  ·exact a1 l hl
  ·exact (b1 l hl).imp id (a2 l)
theorem vy {n:Nat}:∀ {tm:List Nat},(∀ i∈zZ (yY tm),i<n)->∀ l∈yY tm,l.lt n
 | [],_,l,hl=>by simp[yY] at hl
 | 0::r,h,l,hl=>by
  simp only[yY,aqb] at hl;rcases hl with rfl|hl
  ·trivial
  ·exact vy (tm:=r) (λ i hi=>h i (by simpa[yY,zZ] using hi)) l hl
 | (m+1)::r,h,l,hl=>by
  simp only[yY,aqb] at hl;rcases hl with rfl|hl
  ·exact h m (by simp[yY,zZ])
  ·exact vy (tm:=r) (λ i hi=>h i (by simp[yY,zZ,hi])) l hl
theorem XV {n:Nat} {t:Ty} {v:den t} {tm:List Nat} (h:∀ i∈zZ (yY tm),i<n):∀ l∈(mixLs t v (yY tm)).1,l.lt n:=λ l hl=>
 ((re t v (yY tm)).1 l hl).elim (λ h=>h n) (vy h l)
def Lk:List Item->List Nat
 | []=>[]
 | .keep _ _ tm::r=>zZ (yY tm)++Lk r
 | _::r=>Lk r
def pp:Kind->Bool
 | .own true=>true
 | _=>false
def vU (γ:Nat->Own) (loc:Nat->Value) (a:Act) (w:World) (it:Item) (cs:List Value):Prop:=
 match it with
  | .slot t ty _=>a.tmps.getD t undef=zU ty cs
  | .row _ _ _ _=>False
  | .keep _ _ _=>False
  | .box id _ _=>∃ b arr T fr,loc id=.pointer (some ⟨b,0,none⟩)/\w.heap[b]?=some (.cells arr T fr)/\frees fr arr.size/\γ b=.top id/\arr.toList=cs
structure od (γ:Nat->Own) (loc:Nat->Value) (a:Act) (w:World) (it:Item) (v:den it.ty) (ids:List Nat) (cs:List Value) (xs fs:List Nat):Prop where
 place:vU γ loc a w it cs
 rd:match ZU it with
  | .imm t=>t=false/\xs=[]/\ids=[]/\Rd w it.ty v cs fs/\∀ b∈fs,γ b=.persist
  | .own u=>RdO w it.ty v cs xs fs/\xs.Nodup/\(∀ b∈xs,∃ i∈ids,γ b=.top i)/\(∀ b∈fs,γ b=.persist∨∃ i∈ids,γ b=.deep i)/\
    (u=true->fs.Nodup/\∀ b∈fs,∃ i∈ids,γ b=.deep i)
  | .lent=>False
def oh (k:Kind):Prop:=(∃ u,k=.own u)∨k=.lent
theorem EntOk.atLvl {γ:Nat->Own} {loc:Nat->Value} {w:World} {id:Nat} {k:Kind} {lvl lvl' E:Nat} {e:Ty} {xs:List (den e)} (h:EntOk γ loc w id (.arr k lvl E e xs)):EntOk γ loc w id (.arr k lvl' E e xs):=by
 cases k<;>exact h
def ItsRd (γ:Nat->Own) (loc:Nat->Value) (a:Act) (w:World):(its:List Item)->dens (its.map Item.ty)->(all us:List Nat)->Prop
 | [],_,all,us=>all=[]/\us=[]
 | .row id E e k::r,v,all,us=>oh k/\EntOk γ loc w id (.arr k 0 E e v.1)/\id∉all/\ItsRd γ loc a w r v.2 all us
 | .keep id ty tm::r,v,all,us=>EntOk γ loc w id (.box 0 (mixLs ty v.1 (yY tm)).1)/\id∉all/\ItsRd γ loc a w r v.2 all us
 | it::r,v,all,us=>∃ ids all' us' cs xs fs,od γ loc a w it v.1 ids cs xs fs/\all=ids++all'/\(∀ i∈ids,i∉all')/\us=(if pp (ZU it) then ids else [])++us'/\ItsRd γ loc a w r v.2 all' us'
theorem ItsRd.sub:∀ {its:List Item} {v:dens (its.map Item.ty)} {all us:List Nat},ItsRd γ loc a w its v all us->∀ i∈us,i∈all
 | [],_,_,_,h=>by obtain⟨_,rfl⟩:=h; simp
 | .row id E e k::r,v,_,_,h=>ItsRd.sub h.2.2.2
 | .keep id ty tm::r,v,_,_,h=>ItsRd.sub h.2.2
 | .slot _ _ _::r,v,_,_,h=>by
  obtain⟨ids,all',us',cs,xs,fs,h1,rfl,h3,rfl,h5⟩:=h;intro i hi;rcases List.mem_append.1 hi with hi|hi
  ·split at hi
   ·exact List.mem_append_left _ hi
   ·simp at hi
  ·exact List.mem_append_right _ (h5.sub i hi)
 | .box _ _ _::r,v,_,_,h=>by
  obtain⟨ids,all',us',cs,xs,fs,h1,rfl,h3,rfl,h5⟩:=h;intro i hi;rcases List.mem_append.1 hi with hi|hi
  ·split at hi
   ·exact List.mem_append_left _ hi
   ·simp at hi
  ·exact List.mem_append_right _ (h5.sub i hi)
theorem Ax (hr:Rel0 B X A w0 γ loc st a w) {it:Item} {ls:List Leaf} {v:den it.ty} {ids:List Nat} (h1:Lj st it=some ls) (h2:jm st.tab it.ty ls=some v) (h3:fits st (ZU it) ls=some ids):
  (∃ cs xs fs,od γ loc a w it v ids cs xs fs)/\∀ i∈ids,jH st i:=by
 have hp:∃ cs,vU γ loc a w it cs/\All2 (LeafOk loc) ls cs:=by
  cases it with
  | slot t ty k=>
   simp only[Lj] at h1;split at h1
   ·next x hx=>
    obtain⟨cs,e1,e2⟩:=MW h1 (hr.slots t x hx);exact⟨cs,e1,e2⟩
   ·cases h1
  | box id ty k=>
   simp only[Lj] at h1;split at h1
   ·next lvl cells hl=>
    split at h1
    ·cases h1;obtain⟨b,arr,T,fr,g1,g2,g3,g4,g5⟩:=hr.ents id _ hl;exact⟨arr.toList,⟨b,arr,T,fr,g1,g2,g3,g4,rfl⟩,g5⟩
    ·cases h1
   ·cases h1
  | row id E e k=>cases h1
  | keep id ty tm=>cases h1
 obtain⟨cs,hp,ha⟩:=hp;cases hk:ZU it with
 | imm t=>
  rw[hk] at h3;cases t with
  | true=>simp[fits] at h3
  | false=>
   simp only[fits] at h3;split at h3
   ·next hs=>
    cases h3;obtain⟨fp,q1,q2,q3⟩:=YT hr h2 ha;exact⟨⟨cs,[],fp,hp,by rw[hk]; exact⟨rfl,rfl,rfl,q1,q3 hs⟩⟩,by simp⟩
   ·cases h3
 | lent=>
  rw[hk] at h3;cases h3
 | own u=>
  rw[hk] at h3;have hg:yn st ls=some ids/\(u=true->∀ i∈ids,LR st i):=by
   cases u with
   | true=>obtain⟨g1,g2⟩:=Jn h3; exact⟨g1,λ _=>g2⟩
   | false=>exact⟨h3,by simp⟩
  obtain⟨xs,fs,q1,q2,q3,q4,q5⟩:=qG hr h2 ha hg.1;exact⟨⟨cs,xs,fs,hp,by rw[hk]; exact⟨q1,q2,q3,q4,λ hu=>q5 (hg.2 hu)⟩⟩,Jm hg.1⟩
theorem adt {k k':Kind} (h:ux k k'=true):k'=k/\oh k:=by
 unfold ux at h;split at h
 ·exact⟨rfl,.inl ⟨_,rfl⟩⟩
 ·exact⟨rfl,.inl ⟨_,rfl⟩⟩
 ·exact⟨rfl,.inr rfl⟩
 ·cases h
theorem lJ {id E:Nat} {e:Ty} {k:Kind} {r:List Item} {vs:dens ((Item.row id E e k::r).map Item.ty)} {ids:List Nat} (h:jE st (.row id E e k::r)=some (vs,ids)):
  ∃ (lvl:Nat) (xs:List (den e)) (vs':dens (r.map Item.ty)),look st.tab id=some (.arr k lvl E e xs)/\lvl=st.lvl/\oh k/\jE st r=some (vs',ids)/\id∉ids/\vs=(xs,vs'):=by
 simp only[jE] at h;split at h
 ·next k' lvl E' e' xs0 hl=>
  split at h
  ·next v vs' ids' hc hck afU=>
   split at h
   ·next hel=>
    simp only[apP,apV] at h;obtain⟨rfl,rfl⟩:=h;simp only[apO] at hck;obtain⟨⟨hlv,hk⟩,hE⟩:=hck;obtain⟨he,hv⟩:=qE hc;subst he;simp only at hv;subst hv;obtain⟨rfl,hrk⟩:=adt hk;have:=(zJ _ _).1 hE;subst this;refine⟨lvl,_,vs',hl,(zJ _ _).1 hlv,hrk,afU,λ hm => ?_,rfl⟩;rw[aqT hm] at hel;cases hel
   ·cases h
  ·cases h
 ·cases h
theorem lI {id:Nat} {ty:Ty} {tm:List Nat} {r:List Item} {vs:dens ((Item.keep id ty tm::r).map Item.ty)} {ids:List Nat} (h:jE st (.keep id ty tm::r)=some (vs,ids)):
  ∃ (v:den ty) (vs':dens (r.map Item.ty)),look st.tab id=some (.box st.lvl (mixLs ty v (yY tm)).1)/\zZ (yY tm)=zZ (mixLs ty v (yY tm)).1/\jE st r=some (vs',ids)/\id∉ids/\vs=(v,vs'):=by
 simp only[jE] at h;split at h
 ·next lvl cells hl=>
  split at h
  ·next v vs' ids' hc hck afU=>
   split at h
   ·next hel=>
    simp only[apP,apV] at h;obtain⟨rfl,rfl⟩:=h;simp only[apO] at hck;obtain⟨h1,h2⟩:=rb ty cells v [] (yY tm) (qF hc) hck.2;rw[aqL] at h1;have h3:=(zJ _ _).1 hck.1;subst h3;have h4:=Gi hck.2;rw[h1] at hl h4;refine⟨v,vs',hl,h4,afU,λ hm => ?_,rfl⟩;rw[aqT hm] at hel;cases hel
   ·cases h
  ·cases h
 ·cases h
theorem Mq {it:Item} (hit:(∀ id E e k,it ≠ .row id E e k)/\∀ id ty tm,it ≠ .keep id ty tm) {r:List Item} {vs:dens ((it::r).map Item.ty)} {ids:List Nat} (h:jE st (it::r)=some (vs,ids)):
  ∃ (ls:List Leaf) (v:den it.ty) (i1:List Nat) (vs':dens (r.map Item.ty)) (i2:List Nat),Lj st it=some ls/\jm st.tab it.ty ls=some v/\fits st (ZU it) ls=some i1/\jE st r=some (vs',i2)/\
   (∀ x∈i1,x∉i2)/\(∀ x∈i1,x∉Ke r)/\vs=(v,vs')/\ids=i1++i2:=by
 have main:(match Lj st it with
  | none=>none
  | some ls=>match jm st.tab it.ty ls,fits st (ZU it) ls,jE st r with
   | some v,some ids,some (vs,ids')=>match disj ids ids' && disj ids (Ke r) with
    | true=>some ((v,vs),ids++ids')
    | false=>none
   | _,_,_=>none)=some (vs,ids):=by
  cases it with
  | slot t ty k=>exact h
  | box t ty k=>exact h
  | row id E e k=>exact absurd rfl (hit.1 id E e k)
  | keep id ty tm=>exact absurd rfl (hit.2 id ty tm)
 split at main
 ·cases main
 ·next ls hls=>
  split at main
  ·next v i1 vs' i2 hc hf afU=>
   split at main
   ·next hd=>
    simp only[apP,apV] at main;obtain⟨rfl,rfl⟩:=main;simp only[apO] at hd;exact⟨ls,v,i1,vs',i2,hls,hc,hf,afU,qH hd.1,qH hd.2,rfl,rfl⟩
   ·cases main
  ·cases main
theorem Ly (hr:Rel0 B X A w0 γ loc st a w):∀ {its:List Item} {vs:dens (its.map Item.ty)} {ids:List Nat},jE st its=some (vs,ids)->
  (∃ us,ItsRd γ loc a w its vs ids us)/\∀ i∈ids,jH st i
 | [],vs,ids,h=>by simp only[jE,apP,apV] at h; exact⟨⟨[],h.2.symm,rfl⟩,by simp[←h.2]⟩
 | .row id E e k::r,vs,ids,h=>by
  obtain⟨lvl,xs,vs',hl,hlv,hrk,afU,hn,rfl⟩:=lJ h;obtain⟨⟨us,k3⟩,k4⟩:=Ly hr afU;exact⟨⟨us,hrk,(hr.ents id _ hl).atLvl,hn,k3⟩,k4⟩
 | .keep id ty tm::r,vs,ids,h=>by
  obtain⟨v,vs',hl,_,afU,hn,rfl⟩:=lI h;obtain⟨⟨us,k3⟩,k4⟩:=Ly hr afU;exact⟨⟨us,(show EntOk γ loc w id (.box 0 (mixLs ty v (yY tm)).1) from (hr.ents id (.box st.lvl _) hl:EntOk γ loc w id (.box st.lvl _))),hn,k3⟩,k4⟩
 | .slot t ty k::r,vs,ids,h=>by
  obtain⟨ls,v,i1,vs',i2,hls,hc,hf,afU,hd,_,rfl,rfl⟩:=Mq (it:=.slot t ty k) (by simp) h;obtain⟨⟨cs,xs,fs,k1⟩,k2⟩:=Ax hr hls hc hf;obtain⟨⟨us,k3⟩,k4⟩:=Ly hr afU;exact⟨⟨_,i1,i2,us,cs,xs,fs,k1,rfl,hd,rfl,k3⟩,λ i hi=>(List.mem_append.1 hi).elim (k2 i) (k4 i)⟩
 | .box t ty k::r,vs,ids,h=>by
  obtain⟨ls,v,i1,vs',i2,hls,hc,hf,afU,hd,_,rfl,rfl⟩:=Mq (it:=.box t ty k) (by simp) h;obtain⟨⟨cs,xs,fs,k1⟩,k2⟩:=Ax hr hls hc hf;obtain⟨⟨us,k3⟩,k4⟩:=Ly hr afU;exact⟨⟨_,i1,i2,us,cs,xs,fs,k1,rfl,hd,rfl,k3⟩,λ i hi=>(List.mem_append.1 hi).elim (k2 i) (k4 i)⟩
def yA:List Item->List Nat
 | []=>[]
 | .slot _ _ _::r=>yA r
 | .box id _ _::r=>id::yA r
 | .row id _ _ _::r=>id::yA r
 | .keep id _ _::r=>id::yA r
def aside (all us:List Nat) (J:Nat) (γ:Nat->Own) (b:Nat):Own:=
 match γ b with
 | .top i=>if i∈all then .alien else .top i
 | .deep i=>if i∈us then .deep (i+J) else if i∈all then .persist else .deep i
 | x=>x
theorem T5 (all us:List Nat) (hus:∀ i∈us,i∈all) (J:Nat) (γ:Nat->Own) (w:World):Moves (λ i=>i∈all) γ (aside all us J γ) w w where
 persist b _ h:=⟨by simp[aside,h],rfl⟩
 top b i _ h hi:=⟨by simp[aside,h,hi],rfl⟩
 deep b i _ h:=⟨rfl,λ hi=>(by
  have hu:i∉us:=λ hu=>hi (hus i hu);simp[aside,h,hi,hu]),λ hi=>by
  by_cases hu:i∈us
  ·exact .inr ⟨i+J,by simp[aside,h,hu]⟩
  ·exact .inl (by simp[aside,h,hu,hi])⟩
theorem getElem?_set_ok {sl:List AV} {t:Nat} {x:AV} {t':Nat} {v:AV} (h:(sl.set t x)[t']?=some v):(t'=t/\v=x)∨sl[t']?=some v:=by
 rw[ar2] at h;split at h
 ·next e=>
  split at h
  ·cases h; exact .inl ⟨e.symm,rfl⟩
  ·cases h
 ·exact .inr h
theorem AR {lvl J:Nat} {all us done:List Nat} {γx γc:Nat->Own} {locx locc:Nat->Value} {it:Item} {v:den it.ty} {ids:List Nat} {cs:List Value} {xs fs:List Nat} {j:Nat}
  (h:od γx locx a w it v ids cs xs fs) (hall:∀ i∈ids,i∈all) (hus:∀ i∈us,i∈all) (hu1:pp (ZU it)=true->∀ i∈ids,i∈us) (hu2:pp (ZU it)=false->∀ i∈ids,i∉us)
  (ajx:∀ i∈ids,i∉done) (hI:∀ b,(∀ i∈done,γx b ≠ .top i/\γx b ≠ .deep i)->γc b=aside all us J γx b):
  ∃ loc' γ',(∀ i,(i<j∨(zd (ZU it) lvl it.ty v j).2.2<=i)->loc' i=locc i)/\All2 (LeafOk loc') (zd (ZU it) lvl it.ty v j).1 cs/\Moves (λ i=>J<=i) γc γ' w w/\
   (∀ b,(∀ i∈done++ids,γx b ≠ .top i/\γx b ≠ .deep i)->γ' b=aside all us J γx b)/\
   (∀ (id:Nat) (e:Ent),look (zd (ZU it) lvl it.ty v j).2.1 id=some e->EntOk γ' loc' w id e):=by
 have hnd:∀ b,γx b=.persist->γc b=.persist:=λ b hb=>by rw[hI b (by simp[hb])]; simp[aside,hb]
 have hrd:=h.rd;cases hk:ZU it with
 | imm t=>
  rw[hk] at hrd;obtain⟨rfl,rfl,rfl,h1,h2⟩:=hrd;obtain⟨loc1,a1,a2,a3⟩:=KS (γ:=γc) (taint:=false) lvl it.ty v j cs fs locc h1 (λ b hb=>.inl (hnd b (h2 b hb)));exact⟨loc1,γc,a1,a2,Moves.refl _ _ _,λ b hb=>hI b (λ i hi=>hb i (by simp[hi])),a3⟩
 | lent=>
  rw[hk] at hrd;exact hrd.elim
 | own u=>
  rw[hk] at hrd hu1 hu2;obtain⟨h1,h2,h3,h4,h5⟩:=hrd;have ltop:∀ b i,i∈ids->γx b=.top i->γc b=.alien:=by
   intro b i hi hb;rw[hI b (λ i' hi'=>⟨λ e=>by rw[hb] at e; cases e; exact ajx i hi hi',by simp[hb]⟩)]
   simp[aside,hb,hall i hi]
  have ldeep:∀ b i,i∈ids->γx b=.deep i->γc b=if u=true then .deep (i+J) else .persist:=by
   intro b i hi hb;rw[hI b (λ i' hi'=>⟨by simp[hb],λ e=>by rw[hb] at e; cases e; exact ajx i hi hi'⟩)]
   cases u with
   | true=>simp[aside,hb,hu1 rfl i hi]
   | false=>simp[aside,hb,hu2 rfl i hi,hall i hi]
  have hxf:∀ b∈xs,b∉fs:=by
   intro b hb hb';obtain⟨i,hi,e⟩:=h3 b hb;rcases h4 b hb' with e'|⟨i',hi',e'⟩<;>rw[e] at e'<;>cases e'
  have alI:∀ b∈xs,γc b=.alien:=λ b hb=>by obtain⟨i,hi,e⟩:=h3 b hb; exact ltop b i hi e
  obtain⟨loc1,γ1,a1,a2,a3,a4,a5,a6,a7⟩:=ev u lvl it.ty v j cs xs fs locc γc h1 h2 hxf (λ hu=>(h5 hu).1) (λ hu b hb=>by
   rcases h4 b hb with e|⟨i,hi,e⟩
   ·exact hnd b e
   ·rw[ldeep b i hi e,hu]; simp)
  refine⟨loc1,γ1,a1,a2,⟨?_,?_,?_⟩,?_,a7 γ1 (λ _ _=>rfl) (λ _ _=>rfl)⟩
  ·intro b _ hb;refine⟨?_,rfl⟩;have hnx:b∉xs:=λ hx=>by rw[alI b hx] at hb; cases hb
   cases u with
   | false=>rw[a4 rfl b hnx]; exact hb
   | true=>
    have hnf:b∉fs:=λ hf=>by
     obtain⟨i,hi,e⟩:=(h5 rfl).2 b hf;rw[ldeep b i hi e] at hb;simp at hb
    rw[a3 b hnx hnf]; exact hb
  ·intro b i _ hb _;refine⟨?_,rfl⟩;have hnx:b∉xs:=λ hx=>by rw[alI b hx] at hb; cases hb
   cases u with
   | false=>rw[a4 rfl b hnx]; exact hb
   | true=>
    have hnf:b∉fs:=λ hf=>by
     obtain⟨i,hi,e⟩:=(h5 rfl).2 b hf;rw[ldeep b i hi e] at hb;simp at hb
    rw[a3 b hnx hnf]; exact hb
  ·intro b i _ hb;have hnx:b∉xs:=λ hx=>by rw[alI b hx] at hb; cases hb
   refine⟨rfl,?_,?_⟩
   ·intro hi;cases u with
    | false=>rw[a4 rfl b hnx]; exact hb
    | true=>
     have hnf:b∉fs:=λ hf=>by
      obtain⟨i',hi',e⟩:=(h5 rfl).2 b hf;rw[ldeep b i' hi' e] at hb;simp at hb;omega
     rw[a3 b hnx hnf]; exact hb
   ·intro hi;cases u with
    | false=>exact .inr ⟨i,by rw[a4 rfl b hnx]; exact hb⟩
    | true=>
     by_cases hf:b∈fs
     ·obtain⟨id,_,_,e⟩:=a6 rfl b hf;exact .inr ⟨id,e⟩
     ·exact .inr ⟨i,by rw[a3 b hnx hf]; exact hb⟩
  ·intro b hb;have hnx:b∉xs:=λ hx=>by obtain⟨i,hi,e⟩:=h3 b hx; exact (hb i (by simp[hi])).1 e
   have:γ1 b=γc b:=by
    cases u with
    | false=>exact a4 rfl b hnx
    | true=>
     have hnf:b∉fs:=λ hf=>by obtain⟨i,hi,e⟩:=(h5 rfl).2 b hf; exact (hb i (by simp[hi])).2 e
     exact a3 b hnx hnf
   rw[this];exact hI b (λ i hi=>hb i (by simp[hi]))
theorem KB {lvl:Nat}:∀ {its:List Item} {v:dens (its.map Item.ty)} {sl sl':List AV} {tab tab':List (Nat×Ent)} {j j':Nat},jA lvl its v sl tab j=some (sl',tab',j')->j<=j'
 | [],v,sl,sl',tab,tab',j,j',h=>by simp only[jA,apP,apV] at h; omega
 | .slot t ty k::r,v,sl,sl',tab,tab',j,j',h=>by
  simp only[jA] at h;split at h
  ·exact Nat.le_trans (jo k lvl ty v.1 j).le (KB h)
  ·cases h
 | .box id ty k::r,v,sl,sl',tab,tab',j,j',h=>by
  simp only[jA] at h;exact Nat.le_trans (jo k lvl ty v.1 j).le (KB h)
 | .row id E e k::r,v,sl,sl',tab,tab',j,j',h=>KB (its:=r) h
 | .keep id ty tm::r,v,sl,sl',tab,tab',j,j',h=>KB (its:=r) h
theorem laid {lvl J n0:Nat} {all us:List Nat} {γx:Nat->Own} {locx:Nat->Value} (hus:∀ i∈us,i∈all):
  ∀ (its:List Item) (v:dens (its.map Item.ty)) (sl sl':List AV) (tab tab':List (Nat×Ent)) (j j':Nat) (done rall rus:List Nat) (γc:Nat->Own) (locc:Nat->Value),
   jA lvl its v sl tab j=some (sl',tab',j')->ItsRd γx locx a w its v rall rus->j'<=J->n0<=j->(∀ i<n0,locc i=locx i)->(∀ i∈rall,i∈all)->(∀ i∈rall,i∈us->i∈rus)->(∀ i∈rus,i∈us)->
   (∀ i∈rall,i∉done)->(∀ i∈done,i∈all)->(∀ i∈yA its,i<n0/\i∉all)->(∀ i∈Lk its,i<n0)->
   (∀ b,(∀ i∈done,γx b ≠ .top i/\γx b ≠ .deep i)->γc b=aside all us J γx b)->
   (∀ (t:Nat) (x:AV),sl[t]?=some x->AVOk locc x (a.tmps.getD t undef)/\x.lt j)->
   (∀ (id:Nat) (e:Ent),look tab id=some e->id∈yA its∨(EntOk γc locc w id e/\e.lt j/\id<j))->
   ∃ loc' γ',(∀ i<n0,loc' i=locx i)/\(∀ b,(∀ i∈all,γx b ≠ .top i/\γx b ≠ .deep i)->γ' b=aside all us J γx b)/\
    (∀ (t:Nat) (x:AV),sl'[t]?=some x->AVOk loc' x (a.tmps.getD t undef)/\x.lt j')/\sl'.length=sl.length/\
    (∀ (id:Nat) (e:Ent),look tab' id=some e->EntOk γ' loc' w id e/\e.lt j'/\id<j')
 | [],v,sl,sl',tab,tab',j,j',done,rall,rus,γc,locc,h,hR,hJ,hn,aga,ha,hau,hru,hrd,hda,hb,hkp,hI,hS,hE=>by
  simp only[jA,apP,apV] at h;obtain⟨rfl,rfl,rfl⟩:=h;exact⟨locc,γc,aga,λ b hb'=>hI b (λ i hi=>hb' i (hda i hi)),hS,rfl,λ id e he=>(hE id e he).resolve_left (by simp[yA])⟩
 | .slot t ty k::r,v,sl,sl',tab,tab',j,j',done,rall,rus,γc,locc,h,hR,hJ,hn,aga,ha,hau,hru,hrd,hda,hb,hkp,hI,hS,hE=>by
  obtain⟨ids,all',us',cs,xs,fs,h1,rfl,h3,rfl,h5⟩:=hR;simp only[jA] at h;split at h
  ·next x hmk=>
   have so:=jo k lvl ty v.1 j;have hle:=so.le;have h:jA lvl r v.2 (sl.set t (.v x)) ((zd k lvl ty v.1 j).2.1++tab) (zd k lvl ty v.1 j).2.2=some (sl',tab',j'):=h;have aja:=KB h;have agv:=h5.sub;obtain⟨loc1,γ1,a1,a2,a3,a4,a5⟩:=AR (it:=.slot t ty k) (lvl:=lvl) (J:=J) (all:=all) (us:=us) (done:=done) (γc:=γc) (locc:=locc) (j:=j) h1 (λ i hi=>ha i (by simp[hi])) hus
    (λ hu i hi=>hru i (by simp[hu,hi])) (λ hu i hi hiu=>by
     have:=hau i (by simp[hi]) hiu;simp only[hu,aqc,if_false,aqf] at this;exact h3 i hi (agv i this)) (λ i hi=>hrd i (by simp[hi])) hI
   simp only[ZU,Item.ty] at a1 a2 a5;obtain⟨m1,m2⟩:=Lm hmk a2 so.lt;have aoA:a.tmps.getD t undef=zU ty cs:=h1.place;have hS1:∀ (t':Nat) (x':AV),(sl.set t (.v x))[t']?=some x'->AVOk loc1 x' (a.tmps.getD t' undef)/\x'.lt (zd k lvl ty v.1 j).2.2:=by
    intro t' x' hx';rcases getElem?_set_ok hx' with⟨rfl,rfl⟩|hx'
    ·exact⟨by rw[aoA]; exact m1,m2⟩
    ·obtain⟨c1,c2⟩:=hS t' x' hx';exact⟨c1.loc c2 (λ i hi=>a1 i (.inl hi)),AV.lt_mono hle c2⟩
   have hE1:∀ (id:Nat) (e:Ent),look ((zd k lvl ty v.1 j).2.1++tab) id=some e->id∈yA r∨(EntOk γ1 loc1 w id e/\e.lt (zd k lvl ty v.1 j).2.2/\id<(zd k lvl ty v.1 j).2.2):=by
    intro id e he;rw[ZV] at he;cases hh:look (zd k lvl ty v.1 j).2.1 id with
    | some e'=>
     rw[hh] at he;simp at he;subst he;obtain⟨g1,g2,E',et,zs,rfl⟩:=so.keys id _ hh;exact .inr ⟨a5 id _ hh,trivial,g2⟩
    | none=>
     rw[hh] at he;simp only[aqY] at he;rcases hE id e he with h'|⟨e1,e2,e3⟩
     ·exact .inl h'
     ·exact .inr ⟨EntOk.moves a3 (by omega) e2 e3 (λ i hi=>a1 i (.inl hi)) e1,Ent.lt_mono hle e2,by omega⟩
   obtain⟨loc2,γ2,b1,b2,b3,b4,b5⟩:=laid (lvl:=lvl) (J:=J) (n0:=n0) hus r v.2 (sl.set t (.v x)) sl' ((zd k lvl ty v.1 j).2.1++tab) tab' (zd k lvl ty v.1 j).2.2 j' (done++ids) all' us' γ1 loc1 h h5 hJ (by omega)
    (λ i hi=>by rw[a1 i (.inl (by omega))]; exact aga i hi) (λ i hi=>ha i (by simp[hi]))
    (λ i hi hiu=>by
     have:=hau i (by simp[hi]) hiu;rcases List.mem_append.1 this with h'|h'
     ·split at h'
      ·exact absurd hi (h3 i h')
      ·simp at h'
     ·exact h')
    (λ i hi=>hru i (by simp[hi])) (λ i hi hd=>by
     rcases List.mem_append.1 hd with hd|hd
     ·exact hrd i (by simp[hi]) hd
     ·exact h3 i hd hi)
    (λ i hi=>(List.mem_append.1 hi).elim (hda i) (λ h=>ha i (by simp[h]))) (λ i hi=>hb i hi) (λ i hi=>hkp i hi) a4 hS1 hE1
   exact⟨loc2,γ2,b1,b2,b3,by rw[b4]; simp,b5⟩
  ·cases h
 | .box id0 ty k::r,v,sl,sl',tab,tab',j,j',done,rall,rus,γc,locc,h,hR,hJ,hn,aga,ha,hau,hru,hrd,hda,hb,hkp,hI,hS,hE=>by
  obtain⟨ids,all',us',cs,xs,fs,h1,rfl,h3,rfl,h5⟩:=hR;simp only[jA] at h;have so:=jo k lvl ty v.1 j;have hle:=so.le;have h:jA lvl r v.2 sl ((zd k lvl ty v.1 j).2.1++yx tab id0 (.box lvl (zd k lvl ty v.1 j).1)) (zd k lvl ty v.1 j).2.2=some (sl',tab',j'):=h;have aja:=KB h;have agv:=h5.sub;obtain⟨loc1,γ1,a1,a2,a3,a4,a5⟩:=AR (it:=.box id0 ty k) (lvl:=lvl) (J:=J) (all:=all) (us:=us) (done:=done) (γc:=γc) (locc:=locc) (j:=j) h1 (λ i hi=>ha i (by simp[hi])) hus
   (λ hu i hi=>hru i (by simp[hu,hi])) (λ hu i hi hiu=>by
    have:=hau i (by simp[hi]) hiu;simp only[hu,aqc,if_false,aqf] at this;exact h3 i hi (agv i this)) (λ i hi=>hrd i (by simp[hi])) hI
  simp only[ZU,Item.ty] at a1 a2 a5;obtain⟨b,arr,T,fr,p1,p2,p3,p4,p5⟩:=h1.place;obtain⟨hb0,hb1⟩:=hb id0 (by simp[yA]);have hI':∀ (id:Nat) (e:Ent),look ((zd k lvl ty v.1 j).2.1++yx tab id0 (.box lvl (zd k lvl ty v.1 j).1)) id=some e->
    id∈yA r∨(EntOk γ1 loc1 w id e/\e.lt (zd k lvl ty v.1 j).2.2/\id<(zd k lvl ty v.1 j).2.2):=by
   intro id e he;rw[ZV] at he;cases hh:look (zd k lvl ty v.1 j).2.1 id with
   | some e'=>
    rw[hh] at he;simp at he;subst he;obtain⟨g1,g2,E',et,zs,rfl⟩:=so.keys id _ hh;exact .inr ⟨a5 id _ hh,trivial,g2⟩
   | none=>
    rw[hh] at he;simp only[aqY] at he;rw[ZW] at he;split at he
    ·next hi=>
     subst hi;cases hl:look tab id with
     | none=>rw[hl] at he; cases he
     | some e0=>
      rw[hl] at he;simp only[aqz,apP] at he;subst he;right;have hγ:γ1 b=.top id:=by
       have hc:γc b=.top id:=by
        rw[hI b (λ i hi=>⟨λ e=>by rw[p4] at e; cases e; exact hb1 (hda _ hi),by simp[p4]⟩)]
        simp[aside,p4,hb1]
       exact (a3.top b id (j9 p2) hc (by omega)).1
      refine⟨⟨b,arr,T,fr,?_,p2,p3,hγ,by rw[p5]; exact a2⟩,so.lt,by omega⟩
      rw[a1 id (.inl (by omega)),aga id hb0];exact p1
    ·next hi=>
     rcases hE id e he with h'|⟨e1,e2,e3⟩
     ·left;rcases List.mem_cons.1 h' with h'|h'
      ·exact absurd h' hi
      ·exact h'
     ·exact .inr ⟨EntOk.moves a3 (by omega) e2 e3 (λ i hi=>a1 i (.inl hi)) e1,Ent.lt_mono hle e2,by omega⟩
  obtain⟨loc2,γ2,b1,b2,b3,b4,b5⟩:=laid (lvl:=lvl) (J:=J) (n0:=n0) hus r v.2 sl sl' ((zd k lvl ty v.1 j).2.1++yx tab id0 (.box lvl (zd k lvl ty v.1 j).1)) tab' (zd k lvl ty v.1 j).2.2 j' (done++ids) all' us' γ1 loc1 h h5 hJ (by omega)
   (λ i hi=>by rw[a1 i (.inl (by omega))]; exact aga i hi) (λ i hi=>ha i (by simp[hi]))
   (λ i hi hiu=>by
    have:=hau i (by simp[hi]) hiu;rcases List.mem_append.1 this with h'|h'
    ·split at h'
     ·exact absurd hi (h3 i h')
     ·simp at h'
    ·exact h')
   (λ i hi=>hru i (by simp[hi])) (λ i hi hd=>by
    rcases List.mem_append.1 hd with hd|hd
    ·exact hrd i (by simp[hi]) hd
    ·exact h3 i hd hi)
   (λ i hi=>(List.mem_append.1 hi).elim (hda i) (λ h=>ha i (by simp[h]))) (λ i hi=>hb i (by simp[yA,hi])) (λ i hi=>hkp i hi) a4
   (λ t' x' hx'=>by
    obtain⟨c1,c2⟩:=hS t' x' hx';exact⟨c1.loc c2 (λ i hi=>a1 i (.inl hi)),AV.lt_mono hle c2⟩) hI'
  exact⟨loc2,γ2,b1,b2,b3,b4,b5⟩
 | .row id0 E e k::r,v,sl,sl',tab,tab',j,j',done,rall,rus,γc,locc,h,hR,hJ,hn,aga,ha,hau,hru,hrd,hda,hb,hkp,hI,hS,hE=>by
  obtain⟨hrk,h1,hnr,h5⟩:=hR;have h:jA lvl r v.2 sl (yx tab id0 (.arr k lvl E e v.1)) j=some (sl',tab',j'):=h;have aja:=KB h;obtain⟨hb0,hb1⟩:=hb id0 (by simp[yA]);have hE1:EntOk γc locc w id0 (.arr k lvl E e v.1):=by
   have h2:EntOk γc locx w id0 (.arr k lvl E e v.1):=by
    have hp:∀ b,γx b=.persist->γc b=.persist:=λ b hb=>by rw[hI b (by simp[hb])]; simp[aside,hb]
    have ht:∀ b,γx b=.top id0->γc b=.top id0:=λ b hb=>by
     rw[hI b (λ i hi=>⟨λ e=>by rw[hb] at e; cases e; exact hb1 (hda _ hi),by simp[hb]⟩)]
     simp[aside,hb,hb1]
    have hd:∀ b,γx b=.deep id0->γc b=.deep id0:=λ b hb=>by
     rw[hI b (λ i hi=>⟨by simp[hb],λ e=>by rw[hb] at e; cases e; exact hb1 (hda _ hi)⟩)]
     have:id0∉us:=λ h=>hb1 (hus _ h);simp[aside,hb,hb1,this]
    rcases hrk with⟨u,rfl⟩|rfl
    ·obtain⟨xs,fs,g1,g2,g3⟩:=h1;refine⟨xs,fs,g1,λ b hb=>ht b (g2 b hb),?_⟩;cases u with
     | true=>exact⟨g3.1,λ b hb=>hd b (g3.2 b hb)⟩
     | false=>exact λ b hb=>hp b (g3 b hb)
    ·obtain⟨fp,g1,g2⟩:=h1;exact⟨fp,g1,g2.1,λ b hb=>hd b (g2.2 b hb)⟩
   exact h2.arrLoc (aga id0 hb0)
  have hI':∀ (id:Nat) (e':Ent),look (yx tab id0 (.arr k lvl E e v.1)) id=some e'->id∈yA r∨(EntOk γc locc w id e'/\e'.lt j/\id<j):=by
   intro id e' he;rw[ZW] at he;split at he
   ·next hi=>
    subst hi;cases hl:look tab id with
    | none=>rw[hl] at he; cases he
    | some e0=>
     rw[hl] at he;simp only[aqz,apP] at he;subst he;exact .inr ⟨hE1,trivial,by omega⟩
   ·next hi=>
    rcases hE id e' he with h'|h'
    ·left;rcases List.mem_cons.1 h' with h'|h'
     ·exact absurd h' hi
     ·exact h'
    ·exact .inr h'
  exact laid (lvl:=lvl) (J:=J) (n0:=n0) hus r v.2 sl sl' (yx tab id0 (.arr k lvl E e v.1)) tab' j j' done rall rus γc locc h h5 hJ hn aga ha hau hru hrd hda (λ i hi=>hb i (by simp[yA,hi])) (λ i hi=>hkp i hi) hI hS hI'
 | .keep id0 ty tm::r,v,sl,sl',tab,tab',j,j',done,rall,rus,γc,locc,h,hR,hJ,hn,aga,ha,hau,hru,hrd,hda,hb,hkp,hI,hS,hE=>by
  obtain⟨h1,hnr,h5⟩:=hR;have h:jA lvl r v.2 sl (yx tab id0 (.box lvl (mixLs ty v.1 (yY tm)).1)) j=some (sl',tab',j'):=h;have aja:=KB h;obtain⟨hb0,hb1⟩:=hb id0 (by simp[yA]);have hlt:∀ l∈(mixLs ty v.1 (yY tm)).1,l.lt n0:=XV (λ i hi=>hkp i (by simp[Lk,hi]));have hE1:EntOk γc locc w id0 (.box lvl (mixLs ty v.1 (yY tm)).1):=by
   obtain⟨b,arr,T,fr,g1,g2,g3,g4,g5⟩:=h1;refine⟨b,arr,T,fr,by rw[aga id0 hb0]; exact g1,g2,g3,?_,g5.leafLoc hlt aga⟩
   rw[hI b (λ i hi=>⟨λ e=>by rw[g4] at e; cases e; exact hb1 (hda _ hi),by simp[g4]⟩)]
   simp[aside,g4,hb1]
  have hI':∀ (id:Nat) (e':Ent),look (yx tab id0 (.box lvl (mixLs ty v.1 (yY tm)).1)) id=some e'->id∈yA r∨(EntOk γc locc w id e'/\e'.lt j/\id<j):=by
   intro id e' he;rw[ZW] at he;split at he
   ·next hi=>
    subst hi;cases hl:look tab id with
    | none=>rw[hl] at he; cases he
    | some e0=>
     rw[hl] at he;simp only[aqz,apP] at he;subst he;exact .inr ⟨hE1,λ l hl=>Leaf.lt_mono hn (hlt l hl),by omega⟩
   ·next hi=>
    rcases hE id e' he with h'|h'
    ·left;rcases List.mem_cons.1 h' with h'|h'
     ·exact absurd h' hi
     ·exact h'
    ·exact .inr h'
  exact laid (lvl:=lvl) (J:=J) (n0:=n0) hus r v.2 sl sl' (yx tab id0 (.box lvl (mixLs ty v.1 (yY tm)).1)) tab' j j' done rall rus γc locc h h5 hJ hn aga ha hau hru hrd hda (λ i hi=>hb i (by simp[yA,hi])) (λ i hi=>hkp i (by simp[Lk,hi])) hI hS hI'
theorem xr:∀ {D:List Nat} {sl:List AV} {t:Nat} {v:AV},(L5 sl D)[t]?=some v->v=.top∨(t∉D/\sl[t]?=some v)
 | [],sl,t,v,h=>.inr ⟨by simp,h⟩
 | d::D,sl,t,v,h=>by
  rcases xr (D:=D) h with h|⟨h1,h2⟩
  ·exact .inl h
  ·rcases getElem?_set_ok h2 with⟨rfl,rfl⟩|h3
   ·exact .inl rfl
   ·by_cases hd:t=d
    ·subst hd;rw[ar2] at h2;simp only[if_true] at h2;split at h2
     ·cases h2; exact .inl rfl
     ·cases h2
    ·exact .inr ⟨by simp[hd,h1],h3⟩
theorem o0:∀ {D:List Nat} {sl:List AV},(L5 sl D).length=sl.length
 | [],sl=>rfl
 | d::D,sl=>by rw[L5,o0]; simp
theorem VK {stx h:St} {body:Code} {its:List Item} {ids ids2:List Nat} {vs:dens (its.map Item.ty)} (hx:Rel0 B X A w0 γ loc stx a w) (hn:st.nxt<=stx.nxt) (hlen:stx.slots.length=st.slots.length)
  (hsl:∀ t,t∉Zm body->stx.slots[t]?=st.slots[t]?) (alA:∀ (t:Nat) (v:AV),st.slots[t]?=some v->v.lt st.nxt)
  (ahc:∀ (id:Nat) (e:Ent),look st.tab id=some e->id∉ids->id∉yA its->look stx.tab id=some e/\id∉ids2/\e.lt st.nxt/\id<st.nxt)
  (aka:∀ id∈yA its,id<st.nxt/\id∉ids2) (hkeep:∀ id∈Lk its,id<st.nxt) (ajg:jE stx its=some (vs,ids2)) (aks:∀ p∈A.pins,p.1<st.nxt) (hA:A.dl=[]/\A.dps=[])
  (hh:qY st body its ids vs=some h):Rel B X A w0 h a w:=by
 unfold qY at hh;split at hh
 ·next sl tab j ajH=>
  cases hh;obtain⟨⟨us,k1⟩,k2⟩:=Ly hx ajg;have hus:=k1.sub;have hm:=T5 ids2 us hus j γ w;have hS1:∀ (t:Nat) (x:AV),(L5 st.slots (Zm body))[t]?=some x->AVOk loc x (a.tmps.getD t undef)/\x.lt st.nxt:=by
   intro t x hx';rcases xr hx' with rfl|⟨h1,h2⟩
   ·exact⟨trivial,trivial⟩
   ·exact⟨hx.slots t x (by rw[hsl t h1]; exact h2),alA t x h2⟩
  have hE1:∀ (id:Nat) (e:Ent),look (Zw st.tab ids) id=some e->id∈yA its∨(EntOk (aside ids2 us j γ) loc w id e/\e.lt st.nxt/\id<st.nxt):=by
   intro id e he;rw[Jx] at he;split at he
   ·cases he
   ·next hni=>
    by_cases hb:id∈yA its
    ·exact .inl hb
    ·obtain⟨c1,c2,c3,c4⟩:=ahc id e he hni hb;exact .inr ⟨EntOk.moves hm c2 (hx.elt id e c1).1 (hx.elt id e c1).2 (λ _ _=>rfl) (hx.ents id e c1),c3,c4⟩
  obtain⟨loc',γ',b1,b2,b3,b4,b5⟩:=laid (lvl:=st.lvl+1) (J:=j) (n0:=st.nxt) hus its vs _ sl _ tab st.nxt j [] ids2 us (aside ids2 us j γ) loc ajH k1 (Nat.le_refl _) (Nat.le_refl _) (λ _ _=>rfl)
   (λ _ h=>h) (λ _ _ h=>h) (λ _ h=>h) (by simp) (by simp) aka hkeep (λ _ _=>rfl) hS1 hE1
  exact⟨γ',loc',{
    defers:=hx.defers
    keeps:=hx.keeps
    unf:=λ b hb=>hx.unf b (by
     by_cases hh:∀ i∈ids2,γ b ≠ .top i/\γ b ≠ .deep i
     ·rw[b2 b hh] at hb;unfold aside at hb;cases hg:γ b with
      | alien=>rw[hg] at hb; exact hb
      | persist=>rw[hg] at hb; exact hb
      | top i=>trivial
      | deep i=>trivial
     ·cases hg:γ b with
      | alien=>exact absurd (λ i _=>by simp[hg]) hh
      | persist=>exact absurd (λ i _=>by simp[hg]) hh
      | top i=>trivial
      | deep i=>trivial)
    old:=λ b hb hbx=>by
     have ho:=hx.old b hb hbx;have e:γ' b=aside ids2 us j γ b:=b2 b (by rcases ho with h|⟨h,_⟩<;>simp[h])
     rcases ho with h|⟨h,h'⟩
     ·left; rw[e]; simp[aside,h]
     ·right; exact⟨by rw[e]; simp[aside,h],h'⟩
    Ble:=hx.Ble
    size:=by rw[b4,o0,←hlen]; exact hx.size
    slots:=λ t v hv=>(b3 t v hv).1
    ents:=λ id e he=>(b5 id e he).1
    slt:=λ t v hv=>(b3 t v hv).2
    elt:=λ id e he=>(b5 id e he).2
    pins:=λ p hp=>⟨Nat.lt_of_lt_of_le (aks p hp) (KB ajH),by rw[b1 p.1 (aks p hp)]; exact (hx.pins p hp).2⟩
    dlab:=λ p hp=>by rw[hA.1] at hp; simp at hp
    glob:=hx.glob
    dpc:=λ p hp=>by rw[hA.2] at hp; simp at hp }⟩
 ·cases hh
theorem aaf {w:World}:∀ (e:Ty) (v:den e) (off:Nat) (t:Ty) (v':den t) (cs:List Value) (fp:List Nat),part e v off t=some v'->Rd w e v cs fp->
  ∃ f1 fm f2,fp=f1++fm++f2/\Rd w t v' ((cs.drop off).take t.size) fm/\off+t.size<=e.size/\
   ∀ (w':World) (x:den t) (y:den e) (fv:List Nat),(∀ b∈f1++f2,w'.heap[b]?=w.heap[b]?)->Rd w' t x ((cs.drop off).take t.size) fv->Zf e v off t x=some y->Rd w' e y cs (f1++fv++f2):=by
 intro e;induction e with
 | pair a b iha ihb=>
  intro v off t v' cs fp h hr;simp only[part] at h;split at h
  ·rename_i hh;obtain⟨h0,ht⟩:=hh;subst h0; subst ht
   simp only[apP] at h;subst h;have hl:=hr.len;refine⟨[],fp,[],by simp,?_,by simp,?_⟩
   ·rw[aq8,←hl,aqq]; exact hr
   ·intro w' x y fv _ hx hs;rw[aq8,←hl,aqq] at hx;simp only[Zf,apZ,dite_true,apP] at hs;subst hs;simpa using hx
  ·rename_i hne;have ams:¬ (off=0/\t=.pair a b):=λ h=>hne ⟨h.1,h.2.symm⟩;obtain⟨c1,c2,f1,f2,h1,h2,h3,h4⟩:=hr;have l1:=h3.len;have l2:=h4.len;split at h
   ·rename_i hlt;obtain⟨g1,gm,g2,e1,e2,e3,e4⟩:=iha v.1 off t v' c1 f1 h h3;have hcs:(cs.drop off).take t.size=(c1.drop off).take t.size:=by
     rw[h1,arY (by omega),aqR (by simp; omega)]
    refine⟨g1,gm,g2++f2,by rw[h2,e1]; simp,by rw[hcs]; exact e2,by simp[Ty.size]; omega,?_⟩
    intro w' x y fv hf hx hs;rw[hcs] at hx;simp only[Zf,dif_neg ams,if_pos hlt] at hs;split at hs
    ·next y1 hy1=>
     cases hs;refine⟨c1,c2,g1++fv++g2,f2,h1,by simp,e4 w' x y1 fv (λ b hb=>hf b (by simp at hb ⊢; rcases hb with h|h<;>simp[h])) hx hy1,h4.frame (λ b hb=>hf b (by simp[hb]))⟩
    ·cases hs
   ·rename_i hge;obtain⟨g1,gm,g2,e1,e2,e3,e4⟩:=ihb v.2 (off - a.size) t v' c2 f2 h h4;have hcs:(cs.drop off).take t.size=(c2.drop (off - a.size)).take t.size:=by
     rw[h1,arl,ar5 (by omega),aqf,l1]
    refine⟨f1++g1,gm,g2,by rw[h2,e1]; simp,by rw[hcs]; exact e2,by simp[Ty.size]; omega,?_⟩
    intro w' x y fv hf hx hs;rw[hcs] at hx;simp only[Zf,dif_neg ams,if_neg hge] at hs;split at hs
    ·next y1 hy1=>
     cases hs;refine⟨c1,c2,f1,g1++fv++g2,h1,by simp,h3.frame (λ b hb=>hf b (by simp[hb])),e4 w' x y1 fv (λ b hb=>hf b (by simp at hb ⊢; rcases hb with h|h<;>simp[h])) hx hy1⟩
    ·cases hs
 | i64|u8|bool|str=>
  intro v off t v' cs fp h hr;simp only[part] at h;split at h
  ·rename_i hh;obtain⟨h0,ht⟩:=hh;subst h0; subst ht
   simp only[apP] at h;subst h;have hl:=hr.len;refine⟨[],fp,[],by simp,?_,by simp,?_⟩
   ·rw[aq8,←hl,aqq]; exact hr
   ·intro w' x y fv _ hx hs;rw[aq8,←hl,aqq] at hx;simp only[Zf,apZ,dite_true,apP] at hs;subst hs;simpa using hx
  ·cases h
 | sl E e ih=>
  intro v off t v' cs fp h hr;simp only[part] at h;split at h
  ·rename_i hh;obtain⟨h0,ht⟩:=hh;subst h0; subst ht
   simp only[apP] at h;subst h;have hl:=hr.len;refine⟨[],fp,[],by simp,?_,by simp,?_⟩
   ·rw[aq8,←hl,aqq]; exact hr
   ·intro w' x y fv _ hx hs;rw[aq8,←hl,aqq] at hx;simp only[Zf,apZ,dite_true,apP] at hs;subst hs;simpa using hx
  ·cases h
theorem RdL.turn {w:World} {e:Ty}:∀ {xs:List (den e)} {cs:List Value} {fp:List Nat} {i:Nat},RdL (Rd w e) xs cs fp->i<xs.length->
  ∃ f1 f f2,fp=f1++f++f2/\Rd w e (rd e xs i) ((cs.drop (i*e.size)).take e.size) f/\(i+1)*e.size<=cs.length/\
   ∀ (w':World) (y:den e) (fy:List Nat),(∀ b∈f1++f2,w'.heap[b]?=w.heap[b]?)->Rd w' e y ((cs.drop (i*e.size)).take e.size) fy->RdL (Rd w' e) (xs.set i y) cs (f1++fy++f2)
 | [],_,_,_,_,h=>by simp at h
 | x::xs,cs,fp,i,⟨c,rest,f1,f2,h1,h2,h3,h4⟩,hi=>by
  have l1:=h3.len;cases i with
  | zero=>
   have hcs:(cs.drop (0*e.size)).take e.size=c:=by
    simp only[ar8,aq8];rw[h1,aqR (by omega),←l1,aqq]
   refine⟨[],f1,f2,by simp[h2],by rw[hcs]; exact h3,by rw[h1]; simp; omega,?_⟩
   intro w' y fy hf hy;rw[hcs] at hy;exact⟨c,rest,fy,f2,h1,by simp,hy,h4.frame (λ b hb=>hf b (by simp[hb]))⟩
  | succ i=>
   obtain⟨g1,f,g2,e1,e2,e4,e3⟩:=RdL.turn h4 (by simpa using hi:i<xs.length);have hcs:(cs.drop ((i+1)*e.size)).take e.size=(rest.drop (i*e.size)).take e.size:=by rw[h1,fi _ _ _ _ l1]
   refine⟨f1++g1,f,g2,by rw[h2,e1]; simp,by rw[hcs]; exact e2,by rw[h1,apX,l1,aqk]; omega,?_⟩
   intro w' y fy hf hy;rw[hcs] at hy;exact⟨c,rest,f1,g1++fy++g2,h1,by simp,h3.frame (λ b hb=>hf b (by simp[hb])),e3 w' y fy (λ b hb=>hf b (by simp at hb ⊢; rcases hb with h|h<;>simp[h])) hy⟩
structure vV (M:Nat->Prop) (γ γ':Nat->Own) (w w':World):Prop where
 persist:∀ b,b<w.heap.size->γ b=.persist->γ' b=.persist/\w'.heap[b]?=w.heap[b]?
 top:∀ b i,b<w.heap.size->γ b=.top i->¬ M i->γ' b=.top i/\w'.heap[b]?=w.heap[b]?
 deep:∀ b i,b<w.heap.size->γ b=.deep i->¬ M i->γ' b=.deep i/\w'.heap[b]?=w.heap[b]?
theorem EntOk.turn {M:Nat->Prop} {γ γ':Nat->Own} {loc:Nat->Value} {w w':World} {id:Nat} {e:Ent} (hm:vV M γ γ' w w') (hid:¬ M id) (ht:e.tainted=false)
  (h:EntOk γ loc w id e):EntOk γ' loc w' id e:=by
 cases e with
 | box lvl cells=>
  obtain⟨b,arr,T,fr,h1,h2,h3,h4,h5⟩:=h;obtain⟨g1,g2⟩:=hm.top b id (j9 h2) h4 hid;exact⟨b,arr,T,fr,h1,by rw[g2]; exact h2,h3,g1,h5⟩
 | cst cells=>
  obtain⟨b,arr,T,fr,h1,h2,h4,h5⟩:=h;obtain⟨g1,g2⟩:=hm.persist b (j9 h2) h4;exact⟨b,arr,T,fr,h1,by rw[g2]; exact h2,g1,h5⟩
 | arr k lvl E e xs=>
  cases k with
  | imm taint=>
   cases taint with
   | true=>cases ht
   | false=>
    obtain⟨fp,h1,h2⟩:=h;have hp:∀ b∈fp,γ b=.persist:=λ b hb=>(h2 b hb).elim (λ h=>h) (λ h=>by cases h.1);exact⟨fp,h1.frame λ b hb=>(hm.persist b (h1.lt b hb) (hp b hb)).2,λ b hb=>.inl (hm.persist b (h1.lt b hb) (hp b hb)).1⟩
  | lent=>
   obtain⟨fp,h1,h2⟩:=h;exact⟨fp,h1.frame λ b hb=>(hm.deep b id (h1.lt b hb) (h2.2 b hb) hid).2,h2.1,λ b hb=>(hm.deep b id (h1.lt b hb) (h2.2 b hb) hid).1⟩
  | own u=>
   obtain⟨xb,fs,h1,h2,h3⟩:=h;have hlt:=h1.lt;refine⟨xb,fs,h1.frame (λ b hb=>(hm.top b id (hlt.1 b hb) (h2 b hb) hid).2) (λ b hb => ?_),λ b hb=>(hm.top b id (hlt.1 b hb) (h2 b hb) hid).1,?_⟩
   ·cases u with
    | true=>exact (hm.deep b id (hlt.2 b hb) (h3.2 b hb) hid).2
    | false=>exact (hm.persist b (hlt.2 b hb) (h3 b hb)).2
   ·cases u with
    | true=>exact⟨h3.1,λ b hb=>(hm.deep b id (hlt.2 b hb) (h3.2 b hb) hid).1⟩
    | false=>exact λ b hb=>(hm.persist b (hlt.2 b hb) (h3 b hb)).1
variable {B:Nat} {X:List Nat} {A:Ctx} {w0:World} {γ γ':Nat->Own} {loc:Nat->Value} {st st':St} {a:Act} {w w':World}
theorem Rel0.turn {M:Nat->Prop} (h:Rel0 B X A w0 γ loc st a w) (hA:A.dl=[]/\A.dps=[]) (hs:st'.slots=st.slots) (hn:st'.nxt=st.nxt) (hk:KeepsW B X w w') (hu:∀ b,owned (γ' b)->Unfr w' b)
  (ho:∀ b,b<B->b∉X->γ' b=.alien∨(γ' b=.persist/\b∈A.rds)) (hm:vV M γ γ' w w')
  (ht:∀ (id:Nat) (e:Ent),look st'.tab id=some e->(look st.tab id=some e/\¬ M id/\e.tainted=false)∨(EntOk γ' loc w' id e/\e.lt st.nxt/\id<st.nxt)):
  Rel0 B X A w0 γ' loc st' a w' where
 defers:=h.defers
 keeps:=h.keeps.trans hk
 unf:=hu
 old:=ho
 Ble:=Nat.le_trans h.Ble hk.size
 size:=by rw[hs]; exact h.size
 slots:=λ t v ht=>by rw[hs] at ht; exact h.slots t v ht
 ents:=λ id e hid=>by
  rcases ht id e hid with⟨h1,h2,h3⟩|h1
  ·exact (h.ents id e h1).turn hm h2 h3
  ·exact h1.1
 slt:=λ t v ht=>by rw[hs] at ht; rw[hn]; exact h.slt t v ht
 elt:=λ id e hid=>by
  rw[hn];rcases ht id e hid with⟨h1,h2⟩|h1
  ·exact h.elt id e h1
  ·exact h1.2
 pins:=λ p hp=>by rw[hn]; exact h.pins p hp
 dlab:=by rw[hA.1]; simp
 glob:=h.glob
 dpc:=by rw[hA.2]; simp
theorem Qz:∀ (t:List (Nat×Ent)) (i:Nat) {e:Ent},look (dropT t) i=some e↔(look t i=some e/\e.tainted=false)
 | [],i,e=>by simp[dropT,look]
 | (k,e0)::r,i,e=>by
  simp only[dropT];cases ht:e0.tainted with
  | true=>
   simp only[QA,yR];by_cases hi:i=k
   ·subst hi;simp only[if_true,apP];constructor
    ·intro h; cases h
    ·rintro⟨rfl,h⟩; rw[ht] at h; cases h
   ·simp only[hi,if_false];exact Qz r i
  | false=>
   simp only[yR];by_cases hi:i=k
   ·subst hi;simp only[if_true,apP];constructor
    ·rintro rfl; exact⟨rfl,ht⟩
    ·exact λ h=>h.1
   ·simp only[hi,if_false];exact Qz r i
theorem afl (h:qj st=true) {id lvl E:Nat} {e:Ty} {xs:List (den e)} (hl:look st.tab id=some (.arr (.imm true) lvl E e xs)):lvl=st.lvl:=by
 unfold qj at h;have hm:∀ {t:List (Nat×Ent)} {i:Nat} {e:Ent},look t i=some e->(i,e)∈t:=by
  intro t;induction t with
  | nil=>intro i e h; cases h
  | cons x r ih=>
   obtain⟨k,e0⟩:=x;intro i e h;rw[yR] at h;split at h
   ·next hi=>cases h; simp[hi]
   ·simp[ih h]
 have:=List.all_eq_true.1 h _ (hm hl);exact (zJ _ _).1 this
theorem Pres.dropT {tab:List (Nat×Ent)} (h:qj st=true) (ht:∀ (id:Nat) (e:Ent),look st.tab id=some e->e.prot st.lvl->look tab id=some e):Pres [] st { st with tab:=dropT tab }:=by
 refine⟨rfl,Nat.le_refl _,?_,λ _ _=>rfl,rfl⟩;intro id e he hp;refine (Qz _ _).2 ⟨ht id e he hp,?_⟩;cases htt:e.tainted with
 | false=>rfl
 | true=>
  cases e with
  | box _ _=>cases htt
  | cst _=>cases htt
  | arr k lvl E t xs=>
   cases k with
   | imm u=>
    cases u with
    | true=>exact absurd (afl h he) hp
    | false=>cases htt
   | own u=>cases htt
   | lent=>cases htt
def oc (loc:Nat->Value) (id b:Nat):Prop:=∃ o n c,loc id=.slice (some ⟨b,o,none⟩) n c
def Nu (st:St) (id:Nat):Prop:=∃ lvl E e xs,look st.tab id=some (.arr (.own true) lvl E e xs)
open Classical in
noncomputable def lab (st:St) (loc:Nat->Value) (id b:Nat):Own:=if Nu st id/\oc loc id b then .top id else .deep id
theorem AQ {id b:Nat} (h1:Nu st id) (h2:oc loc id b):lab st loc id b=.top id:=by simp[lab,h1,h2]
theorem kj {id b:Nat} (h:¬ (Nu st id/\oc loc id b)):lab st loc id b=.deep id:=by simp only[lab]; rw[if_neg h]
theorem pN {id i b:Nat} (h:lab st loc id b=.top i∨lab st loc id b=.deep i):i=id:=by
 unfold lab at h;split at h<;>rcases h with h|h<;>cases h<;>rfl
theorem vC {k:Kind} (h:k.turns=true):k=.own true∨k=.lent:=by
 cases k with
 | imm t=>cases h
 | own u=>cases u with
  | true=>exact .inl rfl
  | false=>cases h
 | lent=>exact .inr rfl
theorem XG (hr:Rel0 B X A w0 γ loc st a w) {id:Nat} {k:Kind} {lvl E:Nat} {e:Ty} {xs:List (den e)} (hl:look st.tab id=some (.arr k lvl E e xs)) (hk:k.turns=true):
  ∃ fp,Rd w (.sl E e) xs [loc id] fp/\fp.Nodup/\(∀ b∈fp,γ b=lab st loc id b)/\(xs=[]->fp=[]):=by
 have hE:=hr.ents id _ hl;rcases vC hk with rfl|rfl
 ·have ho:Nu st id:=⟨lvl,E,e,xs,hl⟩
  obtain⟨xb,fs,g1,g2,g3⟩:=hE;rcases g1 with⟨h1,h2,h3,h4⟩|⟨b,cap,arr,T,fr,h1,h2,h3,h4,h5,h6,h7,h8⟩
  ·exact⟨[],⟨none,0,0,h2,by simp[h1],Nat.le_refl _,by simp,.inl ⟨h1,rfl⟩⟩,List.nodup_nil,by simp,λ _=>rfl⟩
  ·by_cases hx:xs=[]
   ·exact⟨[],⟨_,_,_,h1,rfl,h5,h6,.inl ⟨hx,rfl⟩⟩,List.nodup_nil,by simp,λ _=>rfl⟩
   ·have hh:loc id=.slice (some ⟨b,0,none⟩) xs.length cap:=by simpa using h1
    have hgb:γ b=.top id:=g2 b (by simp[h8]);refine⟨b::fs,⟨_,_,_,h1,rfl,h5,h6,.inr ⟨b,0,arr,T,fr,fs,rfl,h2,rfl,by simpa using h7⟩⟩,?_,?_,λ h=>absurd h hx⟩
    ·refine List.nodup_cons.2 ⟨λ hm => ?_,g3.1⟩;have:=g3.2 b hm;rw[hgb] at this; cases this
    ·intro c hc;rcases List.mem_cons.1 hc with rfl|hc
     ·rw[AQ ho ⟨_,_,_,hh⟩]; exact hgb
     ·rw[kj]
      ·exact g3.2 c hc
      ·rintro⟨_,o,n,c',hh'⟩;rw[hh] at hh';simp only[Value.slice.injEq,apP,Addr.mk.injEq,and_true] at hh';obtain⟨⟨rfl,_⟩,_⟩:=hh';have:=g3.2 _ hc;rw[hgb] at this; cases this
 ·have ho:¬ Nu st id:=by
   rintro⟨_,_,_,_,h⟩;rw[hl] at h; cases h
  obtain⟨fp,h1,h2,h3⟩:=hE;by_cases hx:xs=[]
  ·obtain⟨a1,n,c,q1,q2,q3,q4,q5⟩:=h1;exact⟨[],⟨a1,n,c,q1,q2,q3,q4,.inl ⟨hx,rfl⟩⟩,List.nodup_nil,by simp,λ _=>rfl⟩
  ·exact⟨fp,h1,h2,λ b hb=>by rw[kj (λ h=>ho h.1)]; exact h3 b hb,λ h=>absurd h hx⟩
theorem XH (hr:Rel0 B X A w0 γ loc st a w) {id:Nat} {k:Kind} {lvl E:Nat} {e:Ty} {xs xs':List (den e)} (hl:look st.tab id=some (.arr k lvl E e xs)) (hk:k.turns=true)
  {B':Nat} {X':List Nat} (hkeep:KeepsW B' X' w w') {fp':List Nat} (hrd:Rd w' (.sl E e) xs' [loc id] fp') (hnd:fp'.Nodup) (aj9:∀ b∈fp',γ' b=lab st loc id b)
  (h0:xs=[]->∀ b,b<w.heap.size->γ b=.top id->γ' b=.top id/\w'.heap[b]?=w.heap[b]?):EntOk γ' loc w' id (.arr k lvl E e xs'):=by
 have hE:=hr.ents id _ hl;rcases vC hk with rfl|rfl
 ·have ho:Nu st id:=⟨lvl,E,e,xs,hl⟩
  obtain⟨xb,fs,g1,g2,g3⟩:=hE;obtain⟨a1,n,c,q1,q2,q3,q4,q5⟩:=hrd;rcases g1 with⟨h1,h2,h3,h4⟩|⟨b,cap,arr,T,fr,h1,h2,h3,h4,h5,h6,h7,h8⟩
  ·rw[h2] at q1;simp only[aqe,Value.slice.injEq,and_true] at q1;obtain⟨rfl,rfl,rfl⟩:=q1;have hx':xs'=[]:=by cases xs' with
    | nil=>rfl
    | cons _ _=>simp at q2
   subst hx';exact⟨[],[],.inl ⟨rfl,h2,rfl,rfl⟩,by simp,List.nodup_nil,by simp⟩
  ·have hgb:γ b=.top id:=g2 b (by simp[h8]);have hh:loc id=.slice (some ⟨b,0,none⟩) xs.length cap:=by simpa using h1
   rw[h1] at q1;simp only[aqe,Value.slice.injEq,and_true] at q1;obtain⟨rfl,rfl,rfl⟩:=q1;have hxl:xs'.length=xs.length:=q2.symm;by_cases hx:xs=[]
   ·obtain⟨k1,k2⟩:=h0 hx b (j9 h2) hgb;have hx':xs'=[]:=by cases xs' with
     | nil=>rfl
     | cons _ _=>rw[hx] at hxl; simp at hxl
    subst hx';refine⟨[b],[],.inr ⟨b,cap,arr,T,fr,by rw[h1,←hxl],by rw[k2]; exact h2,h3,h4,by simp,by simp,rfl,rfl⟩,by simpa using k1,List.nodup_nil,by simp⟩
   ·rcases q5 with⟨hx',_⟩|⟨b',o',arr',T',fr',fp2,ha,hb,hfp,hl'⟩
    ·rw[hx'] at hxl;cases xs with
     | nil=>exact absurd rfl hx
     | cons _ _=>simp at hxl
    ·simp only[apP,Addr.mk.injEq,and_true] at ha;obtain⟨rfl,rfl⟩:=ha;obtain⟨arr2,k1,k2⟩:=hkeep.shape b arr T fr h2;rw[hb] at k1;cases k1;have anL:frees fr arr'.size:=by rw[k2]; exact h3
     have hb':b∈fp':=by simp[hfp]
     refine⟨[b],fp2,.inr ⟨b,cap,arr',T,fr,by rw[h1,←hxl],hb,anL,by rw[k2]; exact h4,by omega,by omega,by simpa using hl',rfl⟩,?_,?_,?_⟩
     ·intro c hc;have:c=b:=by simpa using hc
      subst this;rw[aj9 c hb',AQ ho ⟨_,_,_,hh⟩]
     ·rw[hfp] at hnd; exact (List.nodup_cons.1 hnd).2
     ·intro c hc;rw[aj9 c (by rw[hfp]; simp[hc]),kj]
      rintro⟨_,o,n,c',hh'⟩;rw[hh] at hh';simp only[Value.slice.injEq,apP,Addr.mk.injEq,and_true] at hh';obtain⟨⟨rfl,_⟩,_⟩:=hh';rw[hfp] at hnd;exact (List.nodup_cons.1 hnd).1 hc
 ·have ho:¬ Nu st id:=by
   rintro⟨_,_,_,_,h⟩;rw[hl] at h; cases h
  exact⟨fp',hrd,hnd,λ b hb=>by rw[aj9 b hb,kj (λ h=>ho h.1)]⟩
def LvRd (γ:Nat->Own) (loc:Nat->Value) (w:World) (st:St):(t:Ty)->den t->List Leaf->List Value->List (Nat×List Nat)->Prop
 | .sl E e,v,ls,cs,as=>(ls=[.nil]/\cs=[.slice none 0 0]/\v=[]/\as=[])∨
   ∃ id k lvl E' fp,ls=[.sl id]/\cs=[loc id]/\look st.tab id=some (.arr k lvl E' e v)/\k.turns=true/\lvl=st.lvl/\as=[(id,fp)]/\Rd w (.sl E' e) v [loc id] fp/\fp.Nodup/\
    (∀ b∈fp,γ b=lab st loc id b)/\(v=[]->fp=[])
 | .pair a b,v,ls,cs,as=>∃ l1 l2 c1 c2 a1 a2,ls=l1++l2/\cs=c1++c2/\as=a1++a2/\LvRd γ loc w st a v.1 l1 c1 a1/\LvRd γ loc w st b v.2 l2 c2 a2
 | .i64,v,ls,cs,as=>(∃ n,ls=[.i n])/\as=[]/\Rd w .i64 v cs []
 | .u8,v,ls,cs,as=>(∃ n,ls=[.u n])/\as=[]/\Rd w .u8 v cs []
 | .bool,v,ls,cs,as=>(∃ n,ls=[.b n])/\as=[]/\Rd w .bool v cs []
 | .str,v,ls,cs,as=>(∃ n,ls=[.s n])/\as=[]/\Rd w .str v cs []
theorem p9 (hr:Rel0 B X A w0 γ loc st a w):∀ (t:Ty) (ls:List Leaf) (cs:List Value) (v:den t) (r:List Leaf) (ids:List Nat),zE st.tab t ls=some (v,r)->All2 (LeafOk loc) ls cs->LN st ls=some ids->
  ∃ ls1 cs1 cs2 as ids2,ls=ls1++r/\cs=cs1++cs2/\All2 (LeafOk loc) r cs2/\LvRd γ loc w st t v ls1 cs1 as/\LN st r=some ids2/\ids=as.map (·.1)++ids2
 | .i64,ls,cs,v,r,ids,h,ha,ht=>by
  match ls,cs,h,ha with
  | .i n::r',c::cs',h,ha=>
   simp only[zE,apP,apV] at h;obtain⟨rfl,rfl⟩:=h;exact⟨[.i _],[c],cs',[],ids,rfl,rfl,ha.2,⟨⟨_,rfl⟩,rfl,⟨by rw[ha.1.1],rfl,ha.1.2⟩⟩,ht,rfl⟩
 | .u8,ls,cs,v,r,ids,h,ha,ht=>by
  match ls,cs,h,ha with
  | .u n::r',c::cs',h,ha=>
   simp only[zE,apP,apV] at h;obtain⟨rfl,rfl⟩:=h;exact⟨[.u _],[c],cs',[],ids,rfl,rfl,ha.2,⟨⟨_,rfl⟩,rfl,⟨by rw[show c=_ from ha.1],rfl⟩⟩,ht,rfl⟩
 | .bool,ls,cs,v,r,ids,h,ha,ht=>by
  match ls,cs,h,ha with
  | .b n::r',c::cs',h,ha=>
   simp only[zE,apP,apV] at h;obtain⟨rfl,rfl⟩:=h;exact⟨[.b _],[c],cs',[],ids,rfl,rfl,ha.2,⟨⟨_,rfl⟩,rfl,⟨by rw[show c=_ from ha.1],rfl⟩⟩,ht,rfl⟩
 | .str,ls,cs,v,r,ids,h,ha,ht=>by
  match ls,cs,h,ha with
  | .s n::r',c::cs',h,ha=>
   simp only[zE,apP,apV] at h;obtain⟨rfl,rfl⟩:=h;exact⟨[.s _],[c],cs',[],ids,rfl,rfl,ha.2,⟨⟨_,rfl⟩,rfl,⟨by rw[ha.1.1],rfl,ha.1.2⟩⟩,ht,rfl⟩
 | .sl E e,ls,cs,v,r,ids,h,ha,ht=>by
  match ls,cs,h,ha with
  | .nil::r',c::cs',h,ha=>
   simp only[zE,apP,apV] at h;obtain⟨rfl,rfl⟩:=h;exact⟨[.nil],[c],cs',[],ids,rfl,rfl,ha.2,.inl ⟨rfl,by rw[show c=_ from ha.1],rfl,rfl⟩,ht,rfl⟩
  | .sl id::r',c::cs',h,ha=>
   simp only[zE] at h;split at h
   ·next k lvl E' e' xs hl=>
    split at h
    ·next ys hc=>
     simp only[apP,apV] at h;obtain⟨rfl,rfl⟩:=h;obtain⟨he,hys⟩:=qE hc;subst he;simp only at hys;subst hys;simp only[LN,hl] at ht;split at ht
     ·next ids' hk afU=>
      simp only[apO] at hk;split at ht
      ·cases ht
      ·cases ht;obtain⟨fp,g1,g2,g3,g4⟩:=XG hr hl hk.1;exact⟨[.sl id],[c],cs',[(id,fp)],ids',rfl,rfl,ha.2,.inr ⟨id,k,lvl,E',fp,rfl,by rw[show c=_ from ha.1.1],hl,hk.1,(zJ _ _).1 hk.2,rfl,g1,g2,g3,g4⟩,afU,rfl⟩
     ·cases ht
    ·cases h
   ·cases h
 | .pair x y,ls,cs,v,r,ids,h,ha,ht=>by
  simp only[zE] at h;split at h
  ·rename_i v1 r1 h1;split at h
   ·rename_i v2 r2 h2;simp only[apP,apV] at h;obtain⟨rfl,rfl⟩:=h;obtain⟨l1,c1,c2,a1,i2,p1,p2,p3,p4,p5,p6⟩:=p9 hr x ls cs v1 r1 ids h1 ha ht;obtain⟨l2,c3,c4,a2,i3,q1,q2,q3,q4,q5,q6⟩:=p9 hr y r1 c2 v2 _ i2 h2 p3 p5;exact⟨l1++l2,c1++c3,c4,a1++a2,i3,by simp[p1,q1],by simp[p2,q2],q3,⟨l1,l2,c1,c3,a1,a2,rfl,rfl,rfl,p4,q4⟩,q5,by simp[p6,q6]⟩
   ·cases h
  ·cases h
theorem qm:∀ {ls:List Leaf} {ids:List Nat},LN st ls=some ids->ids.Nodup
 | [],ids,h=>by cases h; exact List.nodup_nil
 | l::r,ids,h=>by
  cases l with
  | sl id=>
   simp only[LN] at h;split at h
   ·split at h
    ·next afU=>
     split at h
     ·cases h
     ·next hel=>
      cases h;refine List.nodup_cons.2 ⟨λ hm => ?_,qm afU⟩;rw[aqT hm] at hel; cases hel
    ·cases h
   ·cases h
  | i n=>exact qm (ls:=r) h
  | u n=>exact qm (ls:=r) h
  | b n=>exact qm (ls:=r) h
  | s n=>exact qm (ls:=r) h
  | nil=>exact qm (ls:=r) h
  | ptr _ _=>cases h
  | ep _ _ _ _=>cases h
  | fn _ _=>cases h
  | any=>cases h
  | ap _=>cases h
def blks (as:List (Nat×List Nat)):List Nat:=as.flatMap (·.2)
theorem LvRd.rd:∀ {t:Ty} {v:den t} {ls:List Leaf} {cs:List Value} {as:List (Nat×List Nat)},LvRd γ loc w st t v ls cs as->Rd w t v cs (blks as)
 | .i64,v,ls,cs,as,h=>by obtain⟨_,rfl,h⟩:=h; exact h
 | .u8,v,ls,cs,as,h=>by obtain⟨_,rfl,h⟩:=h; exact h
 | .bool,v,ls,cs,as,h=>by obtain⟨_,rfl,h⟩:=h; exact h
 | .str,v,ls,cs,as,h=>by obtain⟨_,rfl,h⟩:=h; exact h
 | .sl E e,v,ls,cs,as,h=>by
  rcases h with⟨_,rfl,rfl,rfl⟩|⟨id,k,lvl,E',fp,_,rfl,_,_,_,rfl,h,_⟩
  ·exact⟨none,0,0,rfl,rfl,Nat.le_refl _,by simp,.inl ⟨rfl,rfl⟩⟩
  ·have:blks [(id,fp)]=fp:=by simp[blks]
   rw[this]; exact h
 | .pair x y,v,ls,cs,as,h=>by
  obtain⟨l1,l2,c1,c2,a1,a2,rfl,rfl,rfl,h1,h2⟩:=h;exact⟨c1,c2,blks a1,blks a2,rfl,by simp[blks],h1.rd,h2.rd⟩
theorem LvRd.labs:∀ {t:Ty} {v:den t} {ls:List Leaf} {cs:List Value} {as:List (Nat×List Nat)},LvRd γ loc w st t v ls cs as->
  ∀ p∈as,p.2.Nodup/\(∀ b∈p.2,γ b=lab st loc p.1 b)/\∃ k lvl E e xs,look st.tab p.1=some (.arr k lvl E e xs)/\k.turns=true/\lvl=st.lvl/\(xs=[]->p.2=[])
 | .i64,v,ls,cs,as,h=>by obtain⟨_,rfl,h⟩:=h; simp
 | .u8,v,ls,cs,as,h=>by obtain⟨_,rfl,h⟩:=h; simp
 | .bool,v,ls,cs,as,h=>by obtain⟨_,rfl,h⟩:=h; simp
 | .str,v,ls,cs,as,h=>by obtain⟨_,rfl,h⟩:=h; simp
 | .sl E e,v,ls,cs,as,h=>by
  rcases h with⟨_,_,_,rfl⟩|⟨id,k,lvl,E',fp,_,_,h1,h2,h3,rfl,h4,h5,h6,h7⟩
  ·simp
  ·intro p hp;have:p=(id,fp):=by simpa using hp
   subst this;exact⟨h5,h6,k,lvl,E',e,v,h1,h2,h3,h7⟩
 | .pair x y,v,ls,cs,as,h=>by
  obtain⟨l1,l2,c1,c2,a1,a2,rfl,rfl,rfl,h1,h2⟩:=h;intro p hp;rcases List.mem_append.1 hp with hp|hp
  ·exact h1.labs p hp
  ·exact h2.labs p hp
theorem wo:∀ {as:List (Nat×List Nat)},(as.map (·.1)).Nodup->(∀ p∈as,p.2.Nodup/\∀ b∈p.2,γ b=lab st loc p.1 b)->(blks as).Nodup
 | [],_,_=>List.nodup_nil
 | p::as,hn,h=>by
  simp only[aq5,List.nodup_cons] at hn;have ih:=wo (as:=as) hn.2 (λ q hq=>h q (by simp[hq]));show (p.2++blks as).Nodup;refine List.nodup_append.2 ⟨(h p (by simp)).1,ih,?_⟩;intro b hb c hc e;subst e;obtain⟨q,hq,hbq⟩:=List.mem_flatMap.1 hc;have e1:=(h p (by simp)).2 b hb;have e2:=(h q (by simp[hq])).2 b hbq;have:p.1=q.1:=by
   have h3:lab st loc q.1 b=.top p.1∨lab st loc q.1 b=.deep p.1:=by
    rw[←e2,e1];unfold lab;split
    ·exact .inl rfl
    ·exact .inr rfl
   exact pN h3
  exact hn.1 (by rw[this]; exact List.mem_map.2 ⟨q,hq,rfl⟩)
theorem ra:∀ {t:Ty} {v:den t} {ls:List Leaf} {cs:List Value} {as:List (Nat×List Nat)},LvRd γ loc w st t v ls cs as->∀ (v':den t) (fp':List Nat),Rd w' t v' cs fp'->
  ∀ (tab0:List (Nat×Ent)),(∀ p∈as,look tab0 p.1=look st.tab p.1)->(as.map (·.1)).Nodup->∀ (rest:List Leaf) (tab':List (Nat×Ent)) (r':List Leaf),Kc t v' (ls++rest) tab0=some (tab',r')->
   r'=rest/\(∃ as':List (Nat×List Nat),as'.map (·.1)=as.map (·.1)/\fp'=blks as'/\
    ∀ p∈as',∃ k lvl E e xs xs',look st.tab p.1=some (.arr k lvl E e xs)/\k.turns=true/\lvl=st.lvl/\look tab' p.1=some (.arr k lvl E e xs')/\Rd w' (.sl E e) xs' [loc p.1] p.2)/\
   ∀ i,i∉as.map (·.1)->look tab' i=look tab0 i
 | .i64,v,ls,cs,as,h,v',fp',hr,tab0,h0,hn,rest,tab',r',hp=>by
  obtain⟨⟨n,rfl⟩,rfl,_⟩:=h;simp only[aqZ,Kc,apP,apV] at hp;obtain⟨rfl,rfl⟩:=hp;exact⟨rfl,⟨[],rfl,hr.2.1,by simp⟩,λ _ _=>rfl⟩
 | .u8,v,ls,cs,as,h,v',fp',hr,tab0,h0,hn,rest,tab',r',hp=>by
  obtain⟨⟨n,rfl⟩,rfl,_⟩:=h;simp only[aqZ,Kc,apP,apV] at hp;obtain⟨rfl,rfl⟩:=hp;exact⟨rfl,⟨[],rfl,hr.2,by simp⟩,λ _ _=>rfl⟩
 | .bool,v,ls,cs,as,h,v',fp',hr,tab0,h0,hn,rest,tab',r',hp=>by
  obtain⟨⟨n,rfl⟩,rfl,_⟩:=h;simp only[aqZ,Kc,apP,apV] at hp;obtain⟨rfl,rfl⟩:=hp;exact⟨rfl,⟨[],rfl,hr.2,by simp⟩,λ _ _=>rfl⟩
 | .str,v,ls,cs,as,h,v',fp',hr,tab0,h0,hn,rest,tab',r',hp=>by
  obtain⟨⟨n,rfl⟩,rfl,_⟩:=h;simp only[aqZ,Kc,apP,apV] at hp;obtain⟨rfl,rfl⟩:=hp;exact⟨rfl,⟨[],rfl,hr.2.1,by simp⟩,λ _ _=>rfl⟩
 | .sl E e,v,ls,cs,as,h,v',fp',hr,tab0,h0,hn,rest,tab',r',hp=>by
  rcases h with⟨rfl,rfl,rfl,rfl⟩|⟨id,k,lvl,E',fp,rfl,rfl,hl,hk,hlv,rfl,h4,h5,h6,h7⟩
  ·simp only[aqZ,Kc,apP,apV] at hp;obtain⟨rfl,rfl⟩:=hp;refine⟨rfl,⟨[],rfl,?_,by simp⟩,λ _ _=>rfl⟩;obtain⟨a1,n,c,q1,q2,q3,q4,q5⟩:=hr;simp only[aqe,Value.slice.injEq,and_true] at q1;obtain⟨rfl,rfl,rfl⟩:=q1;rcases q5 with⟨_,h⟩|⟨b,o,arr,T,fr,f,h,_⟩
   ·exact h
   ·cases h
  ·have hl0:look tab0 id=some (.arr k lvl E' e v):=by rw[h0 (id,fp) (by simp)]; exact hl
   simp only[aqZ,Kc,hl0] at hp;have hc:K4 e e v'=some v':=by simp[K4]
   rw[hc] at hp;simp only[apP,apV] at hp;obtain⟨rfl,rfl⟩:=hp;refine⟨rfl,⟨[(id,fp')],rfl,by simp[blks],?_⟩,?_⟩
   ·intro p hp;have:p=(id,fp'):=by simpa using hp
    subst this;exact⟨k,lvl,E',e,v,v',hl,hk,hlv,by rw[ZW]; simp[hl0],hr⟩
   ·intro i hi;have:i≠id:=by simpa using hi
    rw[ZW,if_neg this]
 | .pair x y,v,ls,cs,as,h,v',fp',hr,tab0,h0,hn,rest,tab',r',hp=>by
  obtain⟨l1,l2,c1,c2,a1,a2,rfl,rfl,rfl,h1,h2⟩:=h;obtain⟨d1,d2,f1,f2,e1,rfl,k1,k2⟩:=hr;have hlen:c1.length=d1.length:=by rw[h1.rd.len,k1.len]
  obtain⟨rfl,rfl⟩:=List.append_inj e1 hlen;simp only[Kc,aqj] at hp;rw[aqS,List.nodup_append] at hn;split at hp
  ·next tab1 r1 hp1=>
   obtain⟨rfl,⟨as1,m1,m2,m3⟩,m4⟩:=ra h1 v'.1 f1 k1 tab0 (λ p hp=>h0 p (by simp[hp])) hn.1 (l2++rest) tab1 r1 hp1;have agU:∀ p∈a2,p.1∉a1.map (·.1):=λ p hp hm=>hn.2.2 _ hm _ (List.mem_map.2 ⟨p,hp,rfl⟩) rfl;obtain⟨rfl,⟨as2,n1,n2,n3⟩,n4⟩:=ra h2 v'.2 f2 k2 tab1 (λ p hp=>by rw[m4 _ (agU p hp)]; exact h0 p (by simp[hp])) hn.2.1 rest tab' r' hp
   refine⟨rfl,⟨as1++as2,by simp[m1,n1],by simp[m2,n2,blks],?_⟩,?_⟩
   ·intro p hp;rcases List.mem_append.1 hp with hp|hp
    ·obtain⟨k,lvl,E,e,xs,xs',q1,q2,q3,q4,q5⟩:=m3 p hp;refine⟨k,lvl,E,e,xs,xs',q1,q2,q3,?_,q5⟩;rw[n4,q4];intro hm;have:p.1∈a1.map (·.1):=by rw[←m1]; exact List.mem_map.2 ⟨p,hp,rfl⟩
     exact hn.2.2 _ this _ hm rfl
    ·exact n3 p hp
   ·intro i hi;simp only[aqS,aqd,not_or] at hi;rw[n4 i hi.2,m4 i hi.1]
  ·cases hp
theorem xd:∀ {as:List (Nat×List Nat)},(blks as).Nodup->∀ {p:Nat×List Nat},p∈as->∀ {b:Nat},b∈p.2->as.find? (λ q=>q.2.elem b)=some p
 | [],_,p,hp,b,hb=>by simp at hp
 | q::as,hn,p,hp,b,hb=>by
  have hn':(q.2++blks as).Nodup:=hn;obtain⟨h1,h2,h3⟩:=List.nodup_append.1 hn';rw[List.find?_cons];rcases List.mem_cons.1 hp with rfl|hp
  ·rw[aqT hb]
  ·have hq:q.2.elem b=false:=by
    cases he:q.2.elem b with
    | false=>rfl
    | true=>exact absurd rfl (h3 b (List.mem_of_elem_eq_true he) b (List.mem_flatMap.2 ⟨p,hp,hb⟩))
   rw[hq];exact xd h2 hp hb
theorem xe {as:List (Nat×List Nat)} {b:Nat} (h:b∉blks as):as.find? (λ q=>q.2.elem b)=none:=by
 rw[List.find?_eq_none];intro q hq he;exact h (List.mem_flatMap.2 ⟨q,hq,List.mem_of_elem_eq_true he⟩)
noncomputable def cy (n:Nat) (st:St) (loc:Nat->Value) (γ:Nat->Own) (as:List (Nat×List Nat)) (b:Nat):Own:=
 match as.find? (λ q=>q.2.elem b) with
 | some p=>lab st loc p.1 b
 | none=>if b<n then γ b else .alien
theorem Rel0.turned (hr:Rel0 B X A w0 γ loc st a w) (hA:A.dl=[]/\A.dps=[]) {as as':List (Nat×List Nat)} (aht:(as.map (·.1)).Nodup)
  (aio:∀ p∈as,p.2.Nodup/\(∀ b∈p.2,γ b=lab st loc p.1 b)/\∃ k lvl E e xs,look st.tab p.1=some (.arr k lvl E e xs)/\k.turns=true/\lvl=st.lvl/\(xs=[]->p.2=[]))
  (hkeep:KeepsW w.heap.size (blks as) w w') (hm:as'.map (·.1)=as.map (·.1)) (hnd:(blks as').Nodup) (agv:∀ b∈blks as',b∈blks as∨w.heap.size<=b) (ap0:∀ b∈blks as',Unfr w' b) {tab':List (Nat×Ent)}
  (ahc:∀ p∈as',∃ k lvl E e xs xs',look st.tab p.1=some (.arr k lvl E e xs)/\k.turns=true/\lvl=st.lvl/\look tab' p.1=some (.arr k lvl E e xs')/\Rd w' (.sl E e) xs' [loc p.1] p.2)
  (ahv:∀ i,i∉as.map (·.1)->look tab' i=look st.tab i) (aiY:qj st=true):
  Rel0 B X A w0 (cy w.heap.size st loc γ as') loc { st with tab:=dropT tab' } a w'/\Pres [] st { st with tab:=dropT tab' }:=by
 have hin:∀ b∈blks as,∃ p∈as,γ b=lab st loc p.1 b:=by
  intro b hb;obtain⟨p,hp,hbp⟩:=List.mem_flatMap.1 hb;exact⟨p,hp,(aio p hp).2.1 b hbp⟩
 have hout:∀ b,b<w.heap.size->b∉blks as->cy w.heap.size st loc γ as' b=γ b/\w'.heap[b]?=w.heap[b]?:=by
  intro b hb hn;refine⟨?_,hkeep.block b hb hn⟩;unfold cy;rw[xe (λ h=>(agv b h).elim hn (λ h=>by omega))];simp only[hb,if_true]
 have hnp:∀ b,γ b=.persist->b∉blks as:=by
  intro b h hm;obtain⟨p,_,e⟩:=hin b hm;rw[h] at e;unfold lab at e;split at e<;>cases e
 have hna:∀ b,γ b=.alien->b∉blks as:=by
  intro b h hm;obtain⟨p,_,e⟩:=hin b hm;rw[h] at e;unfold lab at e;split at e<;>cases e
 have hno:∀ b i,(γ b=.top i∨γ b=.deep i)->i∉as.map (·.1)->b∉blks as:=by
  intro b i h hi hm;obtain⟨p,hp,e⟩:=hin b hm;have:=pN (st:=st) (loc:=loc) (id:=p.1) (i:=i) (b:=b) (by rw[←e]; exact h)
  exact hi (by rw[this]; exact List.mem_map.2 ⟨p,hp,rfl⟩)
 have amV:=hr.Ble;have amy:∀ b,b<B->b∉X->b∉blks as:=λ b hb hx=>(hr.old b hb hx).elim (hna b) (λ h=>hnp b h.1);refine⟨hr.turn (M:=λ i=>i∈as.map (·.1)) hA rfl rfl ⟨hkeep.os,hkeep.tape,hkeep.output,hkeep.size,λ b hb hx=>hkeep.block b (by omega) (amy b hb hx),hkeep.free,hkeep.shape⟩ (λ b hb=>by
  by_cases hm':b∈blks as'
  ·exact ap0 b hm'
  ·unfold cy at hb;rw[xe hm'] at hb;by_cases hlt:b<w.heap.size
   ·simp only[hlt,if_true] at hb;exact hkeep.free b hlt (hr.unf b hb)
   ·simp[hlt,owned] at hb) ?_ ⟨?_,?_,?_⟩ ?_,?_⟩
 ·intro b hb hx;rw[(hout b (by omega) (amy b hb hx)).1];exact hr.old b hb hx
 ·intro b hb h;obtain⟨h1,h2⟩:=hout b hb (hnp b h);exact⟨by rw[h1]; exact h,h2⟩
 ·intro b i hb h hi;obtain⟨h1,h2⟩:=hout b hb (hno b i (.inl h) hi);exact⟨by rw[h1]; exact h,h2⟩
 ·intro b i hb h hi;obtain⟨h1,h2⟩:=hout b hb (hno b i (.inr h) hi);exact⟨by rw[h1]; exact h,h2⟩
 ·intro id e he;obtain⟨he,het⟩:=(Qz _ _).1 he;by_cases hi:id∈as.map (·.1)
  ·right;rw[←hm] at hi;obtain⟨p,hp,rfl⟩:=List.mem_map.1 hi;obtain⟨k,lvl,EE,t,xs,xs',q1,q2,q3,q4,q5⟩:=ahc p hp;rw[q4] at he;cases he;refine⟨XH hr q1 q2 hkeep q5 ?_ ?_ ?_,trivial,(hr.elt _ _ q1).2⟩
   ·obtain⟨l1,l2,e1⟩:=List.append_of_mem hp;rw[e1] at hnd;simp only[blks,List.flatMap_append,List.flatMap_cons] at hnd;exact (List.nodup_append.1 (List.nodup_append.1 hnd).2.1).1
   ·intro b hb;unfold cy;rw[xd hnd hp hb]
   ·intro hx b hb hgb;have hbn:b∉blks as:=by
     intro hmm;obtain⟨q,hq,hbq⟩:=List.mem_flatMap.1 hmm;obtain⟨_,g2,k',lvl',E',e',ys,g3,_,_,g4⟩:=aio q hq;have:=pN (st:=st) (loc:=loc) (id:=q.1) (i:=p.1) (b:=b) (by rw[←g2 b hbq]; exact .inl hgb)
     rw[this] at q1;rw[q1] at g3;cases g3;rw[g4 hx] at hbq;simp at hbq
    obtain⟨h1,h2⟩:=hout b hb hbn;exact⟨by rw[h1]; exact hgb,h2⟩
  ·left;rw[ahv id hi] at he;exact⟨he,hi,het⟩
 ·refine Pres.dropT aiY ?_;intro id e he hp;by_cases hi:id∈as.map (·.1)
  ·obtain⟨p,hp',rfl⟩:=List.mem_map.1 hi;obtain⟨_,_,k,lvl,EE,t,xs,q1,q2,q3,_⟩:=aio p hp';rw[q1] at he;cases he;exact absurd q3 hp
  ·rw[ahv id hi]; exact he
theorem Ub (hr:Rel0 B X A w0 γ loc st a w) {as:List (Nat×List Nat)} (h:∀ p∈as,∀ b∈p.2,γ b=lab st loc p.1 b):∀ b∈blks as,Unfr w b/\γ b ≠ .alien/\γ b ≠ .persist:=by
 intro b hb;obtain⟨p,hp,hbp⟩:=List.mem_flatMap.1 hb;have e:=h p hp b hbp;have h1:γ b ≠ .alien:=by rw[e]; unfold lab; split<;>simp
 have h2:γ b ≠ .persist:=by rw[e]; unfold lab; split<;>simp
 exact⟨hr.unfr h1 h2,h1,h2⟩
theorem aeo {f:Nat} {mf:MF} (hS:qy P A.gl f mf) (hA:A.dl=[]/\A.dps=[]) {c:Call} (ho:o.op=.call c) (hf:c.callee=.value (.func f)) {x y:Operand} (hargs:c.args.toList=[x,y])
  (hr:Rel0 B X A w0 γ loc st a w) (hk:oU mf x y o.dst st k=some r) (hn:zY B X A w0 k r o.dst.toList st next):o.wp P a w next Q:=by
 unfold oU at hk;split at hk
 ·next vx n hx hy=>
  split at hk
  ·cases hk
  ·next ls hls=>
   split at hk
   ·next ids v aht ajv aiY=>
    obtain⟨rr,hfn,hk⟩:=Option.bind_eq_some_iff.1 hk;split at hk
    ·next tab' ah0=>
     obtain⟨cs,hcs,hall⟩:=MW hls (Jz hr hx).1;have hyv:a.eval y=.int .i64 n/\Bnd .i64 n:=(yD hr hy).1;obtain⟨ls1,cs1,cs2,as,ids2,e1,e2,e3,hlv,e4,e5⟩:=p9 hr mf.ty ls cs v [] ids (qF ajv) hall aht;simp only[aqL] at e1;subst e1;have hc2:cs2=[]:=by
      cases cs2 with
      | nil=>rfl
      | cons _ _=>exact e3.elim
     subst hc2;simp only[aqL] at e2;subst e2;have hi2:ids2=[]:=by simp only[LN,apP] at e4; exact e4.symm
     subst hi2;simp only[aqL] at e5;have al1:(as.map (·.1)).Nodup:=by rw[←e5]; exact qm aht
     have aio:=hlv.labs;have hbn:=wo al1 (λ p hp=>⟨(aio p hp).1,(aio p hp).2.1⟩);have hun:=Ub hr (λ p hp=>(aio p hp).2.1);have hcall:=hS.run w v n cs (blks as) rr hlv.rd hyv.2 hbn (λ b hb=>(hun b hb).1) hr.globAt (λ b hb=>by
      obtain⟨g1,g2⟩:=hr.globApart hb;exact⟨g1,λ hm=>g2.elim (hun b hm).2.1 (hun b hm).2.2⟩) hfn
     have afV:=QX (P:=P) (a:=a) (w:=w) (o:=o) (c:=c) ho hf (f:=f) (first:=[]) (caps:=[]) (by simp[Act.eval]);have afX:([]++c.args.toList.map a.eval++[]:List Value).toArray = #[zU mf.ty cs,.int .i64 n]:=by
      rw[hargs]; simp[hcs,hyv.1]
     rw[afX] at afV;unfold Oper.wp;rw[afV];refine hcall.upon λ u w' ahf => ?_;obtain⟨hkeep,hu,hub,fp',als,alg,agv⟩:=ahf;obtain⟨_,⟨as',m1,m2,m3⟩,m4⟩:=ra hlv rr.1 fp' als st.tab (λ _ _=>rfl) al1 [] tab' [] (by rw[aqL]; exact ah0)
     subst m2;obtain⟨hR,hP⟩:=hr.turned hA al1 aio hkeep m1 alg (λ b hb=>(agv b hb).1) (λ b hb=>(agv b hb).2) m3 m4 aiY;subst hu;exact hn _ hk (hP.putAfter o.dst _) _ _ ⟨_,loc,hR.put o.dst (x:=.v (.one (.i rr.2.1))) ⟨rfl,hub⟩ trivial⟩
    ·cases hk
   ·cases hk
 ·cases hk
theorem wY (hr:Rel0 B X A w0 γ loc st a w) {id:Nat} {kd:Kind} {lvl EE:Nat} {e:Ty} {xs:List (den e)} (hl:look st.tab id=some (.arr kd lvl EE e xs)) (hk:kd.turns=true)
  {b ob n c:Nat} (aga:loc id=.slice (some ⟨b,ob,none⟩) n c) (hn:0<n):
  ∃ arr T fr fs,n=xs.length/\w.heap[b]?=some (.cells arr T fr)/\frees fr arr.size/\RdL (Rd w e) xs (arr.toList.drop ob) fs/\fs.Nodup/\(∀ c∈fs,γ c=.deep id)/\b∉fs/\(γ b=.top id∨γ b=.deep id)/\
   ∀ (γ':Nat->Own) (w':World) (arr':Array Value) (xs':List (den e)) (fs':List Nat),w'.heap[b]?=some (.cells arr' T fr)->arr'.size=arr.size->xs'.length=xs.length->
    RdL (Rd w' e) xs' (arr'.toList.drop ob) fs'->fs'.Nodup->(∀ c∈fs',γ' c=.deep id)->b∉fs'->γ' b=γ b->EntOk γ' loc w' id (.arr kd lvl EE e xs'):=by
 have hE:=hr.ents id _ hl;rcases vC hk with rfl|rfl
 ·obtain⟨xb,fs,g1,g2,g3⟩:=hE;rcases g1 with⟨h1,h2,h3,h4⟩|⟨b',cap,arr,T,fr,h1,h2,h3,h4,h5,h6,h7,h8⟩
  ·rw[aga] at h2; simp at h2
  ·rw[aga] at h1;simp only[aqe,Value.slice.injEq,and_true,apP,Addr.mk.injEq] at h1;obtain⟨⟨rfl,rfl⟩,rfl,rfl⟩:=h1;have hgb:γ b=.top id:=g2 b (by simp[h8]);refine⟨arr,T,fr,fs,rfl,h2,h3,by simpa using h7,g3.1,g3.2,λ hm => ?_,.inl hgb,?_⟩
   ·have:=g3.2 b hm;rw[hgb] at this; cases this
   ·intro γ' w' arr' xs' fs' k1 k2 k3 k4 k5 k6 k7 k8;exact⟨[b],fs',.inr ⟨b,c,arr',T,fr,by rw[aga,k3],k1,by rw[k2]; exact h3,by rw[k2]; exact h4,by omega,by omega,by simpa using k4,rfl⟩,
     by
       intro x hx; have:x=b:=by simpa using hx
       rw[this,k8]; exact hgb,k5,k6⟩
 ·obtain⟨fp,⟨a1,n1,c1,h1,h2,h3,h3',h4⟩,hnd,hd⟩:=hE;rw[aga] at h1;simp only[aqe,Value.slice.injEq,and_true] at h1;obtain⟨rfl,rfl,rfl⟩:=h1;rcases h4 with⟨h4,_⟩|⟨b',o',arr,T,fr,fp',ha,hb,hfp,hl'⟩
  ·rw[h4] at h2; simp at h2; omega
  ·simp only[apP,Addr.mk.injEq,and_true] at ha;obtain⟨rfl,rfl⟩:=ha;subst hfp;have hgb:γ b=.deep id:=hd b (by simp);have hu:Unfr w b:=hr.unfr (by rw[hgb]; simp) (by rw[hgb]; simp)
   obtain⟨n1,n2⟩:=List.nodup_cons.1 hnd;refine⟨arr,T,fr,fp',h2,hb,hu _ _ _ hb,hl',n2,λ x hx=>hd x (by simp[hx]),n1,.inr hgb,?_⟩;intro γ' w' arr' xs' fs' k1 k2 k3 k4 k5 k6 k7 k8;refine⟨b::fs',⟨_,n,c,by rw[aga],by omega,h3,h3',.inr ⟨b,ob,arr',T,fr,fs',rfl,k1,rfl,k4⟩⟩,List.nodup_cons.2 ⟨k7,k5⟩,?_⟩;intro x hx;rcases List.mem_cons.1 hx with rfl|hx
   ·rw[k8]; exact hgb
   ·exact k6 x hx
theorem adz {α:Type} (l vs:List α) (p q:Nat) (h:p+q+vs.length<=l.length):(setAt l (p+q) vs).drop p=setAt (l.drop p) q vs:=by
 apply List.ext_getElem?;intro j;rw[List.getElem?_drop,NX _ _ _ (by omega),NX _ _ _ (by rw[aqa]; omega),List.getElem?_drop]
 by_cases h1:j<q
 ·rw[if_pos h1,if_pos (by omega)]
 ·rw[if_neg h1,if_neg (by omega)];by_cases h2:j<q+vs.length
  ·rw[if_pos h2,if_pos (by omega)];congr 1; omega
  ·rw[if_neg h2,if_neg (by omega)]
theorem aen (hT:yg P E.tys=true) (hA:A.dl=[]/\A.dps=[]) {T:TypeId} {x y:Operand} (ho:o.op=.store T x y) {d:TD} (hd:lk E.tys T=some d) (afX:d.arr=none) {p:Leaf} (hp:zv st x=some p)
  {ls:List Leaf} (hy:YZ st y=some ls) (hr:Rel0 B X A w0 γ loc st a w) {st':St} (hs:oT d.ty p ls st=some st') (hk:k (st'.put o.dst (.tup []))=some r)
  (hn:zY B X A w0 k r o.dst.toList st next):o.wp P a w next Q:=by
 obtain⟨hp1,hp2⟩:=yD hr hp;obtain⟨hy1,hy2⟩:=Ny hr hy;have ajd:=bB hy1;unfold oT at hs;split at hs
 ·next id ix esz off=>
  obtain⟨b,ob,n,c,hb1,hix,hb2⟩:=hp1;split at hs
  ·next lvl EE e xs hl=>
   split at hs
   ·next v hc ajv=>
    simp only[apO,aqD] at hc;obtain⟨⟨⟨hlv,hsz⟩,hns⟩,aiY⟩:=hc;have hlv:=(zJ _ _).1 hlv;have hsz:=(zJ _ _).1 hsz;subst hsz;split at hs
    ·next F hF=>
     obtain⟨z,agh,hFx⟩:=uC hF xs ix v;rw[hFx] at hs;cases hs;obtain⟨fv,v1,_,_⟩:=YT hr ajv hy1;have hfv:=v1.noSl hns;subst hfv;obtain⟨arr,T',fr,fs,hnx,h2,h3,h7,hnd,hdp,hbn,hgb,akM⟩:=wY hr hl rfl hb1 (by omega);obtain⟨f1,f,f2,p1,p2,p3,p4⟩:=h7.setAt' (i:=ix) (by omega);obtain⟨m1,mm,m2,s1,s2,s3⟩:=Gd e _ off d.ty v z _ _ f [] agh p2 v1;have z3:=p4 _ _ _ s2;have hvl:(a.eval y).cells.toList.length=d.ty.size:=v1.len;rw[aqk] at p3;have aiV:=e.size_pos;have p3':ob+(ix*e.size+e.size)<=arr.size:=by
      have:(arr.toList.drop ob).length=arr.size - ob:=by simp
      omega
     rw[F0 _ _ _ _ _ p3 (by omega)] at z3;have ahM:ob+(ix*e.size+off)+d.ty.size<=arr.size:=by omega
     have ajr:a.eval x=.pointer (some ⟨b,ob+(ix*e.size+off),none⟩):=by rw[hb2]; congr 3; omega
     have afV:=tO (o:=o) (a:=a) hT hd afX ho ajr h2 h3 ahM hvl ajd;have agR:(setAt arr.toList (ob+(ix*e.size+off)) (a.eval y).cells.toList).length=arr.size:=by rw[Yp (by rw[hvl,aqt]; exact ahM)]; simp
     rw[←adz _ _ _ _ (by rw[hvl,aqt]; exact ahM)] at z3
     have hsl:(f1++(m1++[]++m2)++f2).Sublist fs:=by
      rw[p1,s1];simp only[aqL];refine List.Sublist.append (List.Sublist.append (List.Sublist.refl _) ?_) (List.Sublist.refl _);exact List.Sublist.append (List.sublist_append_left _ _) (List.Sublist.refl _)
     have hpc:∀ c,γ c=.persist->c≠b:=λ c h e=>by subst e; rcases hgb with h'|h'<;>rw[h'] at h<;>cases h
     have aj9:∀ c i,(γ c=.top i∨γ c=.deep i)->¬ i=id->c≠b:=by
      intro c i h hi e;subst e;rcases hgb with h'|h'<;>rw[h'] at h<;>rcases h with h|h<;>cases h<;>exact hi rfl
     have aot:∀ c,c<B->c∉X->c≠b:=by
      intro c hc hx e;subst e;rcases hr.old c hc hx with h|⟨h,_⟩<;>rcases hgb with h'|h'<;>rw[h'] at h<;>cases h
     have am5:∀ c,Unfr w c->Unfr (yK w b (.cells (setAt arr.toList (ob+(ix*e.size+off)) (a.eval y).cells.toList).toArray T' fr)) c:=by
      intro c hc arr0 T0 fr0 h';by_cases e:c=b
      ·subst e;rw[Zo h2] at h';cases h';simpa[agR] using h3
      ·rw[jT e] at h'; exact hc _ _ _ h'
     refine oW (γ':=γ) (loc':=loc) hn afV ?_ ?_ hk
     ·refine hr.turn (M:=λ i=>i=id) hA rfl rfl ⟨rfl,rfl,rfl,by simp[yK],λ c hc hx=>jT (aot c hc hx),λ c _=>am5 c,?_⟩ (λ c hc=>am5 c (hr.unf c hc)) hr.old ⟨λ c _ h=>⟨h,jT (hpc c h)⟩,λ c i _ h hi=>⟨h,jT (aj9 c i (.inl h) hi)⟩,λ c i _ h hi=>⟨h,jT (aj9 c i (.inr h) hi)⟩⟩ ?_
      ·intro c arr0 T0 fr0 h0;by_cases e:c=b
       ·subst e;rw[h2] at h0;cases h0;exact⟨_,Zo h2,by simpa using agR⟩
       ·exact⟨arr0,by rw[jT e]; exact h0,rfl⟩
      ·intro i e' hi;obtain⟨hi,hit⟩:=(Qz _ _).1 hi;rw[MA hl] at hi;split at hi
       ·next hii=>
        cases hi;subst hii;refine .inr ⟨akM γ _ _ _ _ (Zo h2) (by simpa using agR) (by simp) (z3.frame λ c hc=>jT (λ e=>hbn (by rw[←e]; exact hsl.subset hc))) (hsl.nodup hnd) (λ c hc=>hdp c (hsl.subset hc)) (λ hm=>hbn (hsl.subset hm)) rfl,trivial,(hr.elt _ _ hl).2⟩
       ·next hii=>exact .inl ⟨hi,hii,hit⟩
     ·refine Pres.dropT aiY ?_;intro i e' he hpr;rw[MA hl];split
      ·next hii=>
       subst hii;rw[hl] at he;cases he;exact absurd hlv hpr
      ·exact he
    ·cases hs
   ·cases hs
  ·cases hs
 ·cases hs
variable {P:Program} {o o2 o3:Oper} {next next1 next2:Act->World->Prop} {Q:Exit->Act->World->Prop} {R:Type} {k:St->Option R} {r:R} {E:Env}
theorem xu {T d:Nat} {y:Operand} {d2:Nat} {mf:MF} {p:Leaf} (h:fE E st o o2 o3=some (T,d,y,d2,mf,p)):
  ∃ x c f id ix esz off,o.op=.load T x/\o.dst=some d/\o2.op=.move y/\o2.dst=some d2/\o3.op=.call c/\c.callee=.value (.func f)/\c.args.toList=[.tmp d,.tmp d2]/\zv st x=some p/\
   p=.ep id ix esz off/\o2.guard=none/\o3.guard=none/\lk E.muts f=some mf/\d≠d2:=by
 unfold fE at h;split at h
 ·next T' x d' y' d2' c h1 h2 h3 h4 h5=>
  split at h
  ·next f e1 e2 id ix esz off k1 k2 k3 k4 k5=>
   split at h
   ·next mf' m1 m2=>
    simp only[apP,apV] at h;obtain⟨rfl,rfl,rfl,rfl,rfl,rfl⟩:=h;simp only[apO,aqD] at m2;obtain⟨⟨n1,n2⟩,n3⟩:=m2;have n1:=(zJ _ _).1 n1;have n2:=(zJ _ _).1 n2;have n3:=(JS _ _).1 n3;subst n1; subst n2
    exact⟨x,c,f,id,ix,esz,off,h1,h2,h3,h4,h5,k1,k2,k3,rfl,k4,k5,m1,n3⟩
   ·cases h
  ·cases h
 ·cases h
theorem aa5 {l1 m m' l2:List Nat} {N:Nat} (h:(l1++m++l2).Nodup) (hm:m'.Nodup) (hs:∀ b∈m',b∈m∨N<=b) (hl:∀ b∈l1++l2,b<N):(l1++m'++l2).Nodup:=by
 obtain⟨h1,h2,h3⟩:=List.nodup_append.1 h;obtain⟨h4,h5,h6⟩:=List.nodup_append.1 h1;refine List.nodup_append.2 ⟨List.nodup_append.2 ⟨h4,hm,?_⟩,h2,?_⟩
 ·intro x hx z hz e;subst e;rcases hs x hz with hz|hz
  ·exact h6 x hx x hz rfl
  ·have:=hl x (by simp[hx]); omega
 ·intro x hx z hz e;subst e;rcases List.mem_append.1 hx with hx|hx
  ·exact h3 x (by simp[hx]) x hz rfl
  ·rcases hs x hx with hx|hx
   ·exact h3 x (by simp[hx]) x hz rfl
   ·have:=hl x (by simp[hz]); omega
theorem ae0 (hT:yg P E.tys=true) (hM:∀ f mf,lk E.muts f=some mf->qy P A.gl f mf) (hA:A.dl=[]/\A.dps=[]) {T d:Nat} {y:Operand} {d2:Nat} {mf:MF} {p:Leaf}
  (hfu:fE E st o o2 o3=some (T,d,y,d2,mf,p)) (hr:Rel0 B X A w0 γ loc st a w) (hk:oQ E T d y d2 mf p o3.dst st k=some r)
  (hn:zY B X A w0 k r (o.dst.toList++o2.dst.toList++o3.dst.toList) st next) (hn1:∀ a1 w1,o2.wp P a1 w1 next2 Q->next1 a1 w1) (hn2:∀ a1 w1,o3.wp P a1 w1 next Q->next2 a1 w1):o.wp P a w next1 Q:=by
 classical
 obtain⟨x,c,f,id,ix,esz,off,ho,hod,ho2,amw,ho3,anl,hargs,hx,rfl,_,_,hmf,hdd⟩:=xu hfu;have hS:=hM f mf hmf;obtain⟨b,ob,n0,c0,hb1,hix,hb2⟩:=(yD hr hx).1;simp only[oQ] at hk;split at hk
 ·next kd lvl EE e xs td n hl htd hy=>
  split at hk
  ·next v hc alm=>
   simp only[apO,apY,aqI] at hc;obtain⟨⟨⟨⟨⟨⟨⟨hkt,hlv⟩,hsz⟩,aiY⟩,hty⟩,afX⟩,hdl⟩,alX⟩:=hc;have hlv:=(zJ _ _).1 hlv;have hsz:=(zJ _ _).1 hsz;subst hsz;obtain⟨rr,hfn,hk⟩:=Option.bind_eq_some_iff.1 hk;split at hk
   ·next F hF=>
    obtain⟨z,agh,hFx⟩:=uC hF xs ix rr.1;rw[hFx] at hk;obtain⟨arr,T',fr,fs,hnx,h2,h3,h7,hnd,hdp,hbn,hgb,akM⟩:=wY hr hl hkt hb1 (by omega);obtain⟨f1,fe,f2,p1,p2,p3,p4⟩:=RdL.turn h7 (i:=ix) (by omega);obtain⟨g1,fm,g2,q1,q2,q3,q4⟩:=aaf e _ off mf.ty v _ fe alm p2;rw[aqk] at p3;have aiV:=e.size_pos;have hlen:(arr.toList.drop ob).length=arr.size - ob:=by simp
    have ahM:ob+(ix*e.size+off)+td.ty.size<=arr.size:=by rw[hty]; omega
    have ajr:a.eval x=.pointer (some ⟨b,ob+(ix*e.size+off),none⟩):=by rw[hb2]; congr 3; omega
    have alx:=lO (P:=P) (o:=o) (a:=a) hT htd afX ho ajr h2 ahM;have hcs:((((arr.toList.drop ob).drop (ix*e.size)).take e.size).drop off).take mf.ty.size=(arr.toList.drop (ob+(ix*e.size+off))).take td.ty.size:=by
     rw[Id _ _ _ _ _ q3,aqy,hty]
    rw[hcs] at q2 q4;generalize aps:(arr.toList.drop (ob+(ix*e.size+off))).take td.ty.size=cs at alx q2 q4;rw[hty] at alx;refine vL alx (hn1 _ _ ?_);rw[hod];have hr1:=hr.put (some d) (x:=.top) (v:=zU mf.ty cs) trivial trivial;have hyv:(a.put (some d) (zU mf.ty cs)).eval y=.int .i64 n/\Bnd .i64 n:=(yD hr1 hy).1;have hr2:=hr1.put (some d2) (x:=.v (.one (.i n))) (v:=.int .i64 n) ⟨rfl,hyv.2⟩ trivial;have aoN:(execOp (a.put (some d) (zU mf.ty cs)).eval o2).run P w=.ok (.value (.int .i64 n)) w:=by
     simp only[execOp,ho2,aq1,hyv.1]
    refine vL aoN (hn2 _ _ ?_);rw[amw];have apH:=hr.size;have hdl:=Nat.le_of_ble_eq_true hdl;have alX:=Nat.le_of_ble_eq_true alX;have hv1:((a.put (some d) (zU mf.ty cs)).put (some d2) (.int .i64 n)).eval (.tmp d)=zU mf.ty cs:=by
     simp only[Act.put,Act.eval,aqn];rw[arx (λ h=>hdd h.symm),asc (by omega)];rfl
    have hv2:((a.put (some d) (zU mf.ty cs)).put (some d2) (.int .i64 n)).eval (.tmp d2)=.int .i64 n:=by
     simp only[Act.put,Act.eval,aqn];rw[Array.getElem?_setIfInBounds_self_of_lt (by simp only[Array.size_setIfInBounds]; omega)]
     rfl
    have aik:∀ c∈fm,γ c=.deep id:=λ c hc=>hdp c (by rw[p1,q1]; simp[hc])
    have aj5:fs=(f1++g1)++fm++(g2++f2):=by rw[p1,q1]; simp
    have anK:fm.Nodup:=by
     rw[aj5] at hnd;exact (List.nodup_append.1 (List.nodup_append.1 hnd).1).2.1
    have akd:∀ c∈fs,c<w.heap.size:=h7.lt;have hcall:=hS.run w v n cs fm rr q2 hyv.2 anK (λ c hc=>hr.unfr (by rw[aik c hc]; simp) (by rw[aik c hc]; simp)) hr.globAt (λ c hc=>by
     obtain⟨k1,k2⟩:=hr.globApart hc;exact⟨k1,λ hm=>by rcases k2 with h|h<;>rw[aik c hm] at h<;>cases h⟩) hfn
    have amM:=QX (P:=P) (a:=(a.put (some d) (zU mf.ty cs)).put (some d2) (.int .i64 n)) (w:=w) (o:=o3) (c:=c) ho3 anl (f:=f) (first:=[]) (caps:=[]) (by simp[Act.eval]);have ang:([]++c.args.toList.map ((a.put (some d) (zU mf.ty cs)).put (some d2) (.int .i64 n)).eval++[]:List Value).toArray = #[zU mf.ty cs,.int .i64 n]:=by
     rw[hargs];simp only[aq5,aqr,hv1,hv2];rfl
    rw[ang] at amM;unfold Oper.wp;rw[amM];refine hcall.upon λ u w' ahf => ?_;obtain⟨hkeep,rfl,hub,fv,als,alg,agv⟩:=ahf;have ajs:=j9 h2
    let γ':Nat->Own:=λ c=>if c<w.heap.size then γ c else if c∈fv then .deep id else .alien
    have hg1:∀ c,c<w.heap.size->γ' c=γ c:=λ c hc=>by simp only[γ']; rw[if_pos hc]
    have am3:b∉fm:=λ hm=>hbn (by rw[aj5]; simp[hm])
    have ajj:∀ c∈f1++g1++(g2++f2),c∉fm/\c∈fs:=by
     intro c hc;have hin:c∈fs:=by rw[aj5]; simp at hc ⊢; rcases hc with h|h|h|h<;>simp[h]
     refine⟨λ hm => ?_,hin⟩;rw[aj5] at hnd;obtain⟨j1,j2,j3⟩:=List.nodup_append.1 hnd;obtain⟨j4,j5,j6⟩:=List.nodup_append.1 j1;rcases List.mem_append.1 hc with hc|hc
     ·exact j6 c hc c hm rfl
     ·exact j3 c (by simp[hm]) c hc rfl
    have ah1:∀ c∈f1++g1++(g2++f2),w'.heap[c]?=w.heap[c]?:=λ c hc=>hkeep.block c (akd c (ajj c hc).2) (ajj c hc).1;have hout:∀ c,c<w.heap.size->c∉fm->γ' c=γ c/\w'.heap[c]?=w.heap[c]?:=λ c hc hm=>⟨hg1 c hc,hkeep.block c hc hm⟩
    have agq:RdL (Rd w' e) (xs.set ix z) (arr.toList.drop ob) (f1++(g1++fv++g2)++f2):=
     p4 w' z _ (λ c hc=>ah1 c (by simp at hc ⊢; rcases hc with h|h<;>simp[h])) (q4 w' rr.1 z fv (λ c hc=>ah1 c (by simp at hc ⊢; rcases hc with h|h<;>simp[h])) als agh)
    have hnn:(f1++(g1++fv++g2)++f2).Nodup:=by
     have:=aa5 (m':=fv) (N:=w.heap.size) (by rw[←aj5]; exact hnd) alg (λ c hc=>(agv c hc).1) (λ c hc=>akd c (ajj c hc).2)
     simpa[aqj] using this
    have ahD:∀ c∈f1++(g1++fv++g2)++f2,c∈fv∨c∈f1++g1++(g2++f2):=by
     intro c hc;simp at hc ⊢;rcases hc with h|h|h|h|h<;>simp[h]
    have ahc:EntOk γ' loc w' id (.arr kd lvl EE e (xs.set ix z)):=by
     refine akM γ' w' arr _ _ (by rw[(hout b ajs am3).2]; exact h2) rfl (by simp) agq hnn ?_ ?_ (hg1 b ajs)
     ·intro c hc;rcases ahD c hc with h|h
      ·rcases (agv c h).1 with h'|h'
       ·rw[hg1 c (akd c (by rw[aj5]; simp[h']))]; exact aik c h'
       ·simp only[γ']; rw[if_neg (by omega),if_pos h]
      ·rw[hg1 c (akd c (ajj c h).2)]; exact hdp c (ajj c h).2
     ·intro hm;rcases ahD b hm with h|h
      ·rcases (agv b h).1 with h'|h'
       ·exact am3 h'
       ·omega
      ·exact hbn (ajj b h).2
    have amV:=hr.Ble;have aou:∀ c,c<B->c∉X->c∉fm:=by
     intro c hc hx hm;rcases hr.old c hc hx with h|⟨h,_⟩<;>rw[aik c hm] at h<;>cases h
    have hR:Rel0 B X A w0 γ' loc { (st.put (some d) .top).put (some d2) (.v (.one (.i n))) with tab:=dropT (yx st.tab id (.arr kd lvl EE e (xs.set ix z)))} ((a.put (some d) (zU mf.ty cs)).put (some d2) (.int .i64 n)) w':=by
     refine hr2.turn (M:=λ i=>i=id) hA rfl rfl ⟨hkeep.os,hkeep.tape,hkeep.output,hkeep.size,λ c hc hx=>hkeep.block c (by omega) (aou c hc hx),hkeep.free,hkeep.shape⟩ (λ c hc=>by
      by_cases hlt:c<w.heap.size
      ·rw[hg1 c hlt] at hc;exact hkeep.free c hlt (hr.unf c hc)
      ·by_cases hm:c∈fv
       ·exact (agv c hm).2
       ·simp[γ',hlt,hm,owned] at hc) ?_ ⟨?_,?_,?_⟩ ?_
     ·intro c hc hx;rw[hg1 c (by omega)];exact hr.old c hc hx
     ·intro c hc h;have hm:c∉fm:=λ hm=>by rw[aik c hm] at h; cases h
      obtain⟨k1,k2⟩:=hout c hc hm;exact⟨by rw[k1]; exact h,k2⟩
     ·intro c i hc h hi;have hm:c∉fm:=λ hm=>by rw[aik c hm] at h; cases h
      obtain⟨k1,k2⟩:=hout c hc hm;exact⟨by rw[k1]; exact h,k2⟩
     ·intro c i hc h hi;have hm:c∉fm:=λ hm=>by rw[aik c hm] at h; cases h; exact hi rfl
      obtain⟨k1,k2⟩:=hout c hc hm;exact⟨by rw[k1]; exact h,k2⟩
     ·intro i e' hi;obtain⟨hi,hit⟩:=(Qz _ _).1 hi;rw[MA hl] at hi;split at hi
      ·next hii=>
       cases hi;subst hii;exact .inr ⟨ahc,trivial,(hr.elt _ _ hl).2⟩
      ·next hii=>exact .inl ⟨hi,hii,hit⟩
    have hP:Pres [] st { st with tab:=dropT (yx st.tab id (.arr kd lvl EE e (xs.set ix z)))}:=by
     refine Pres.dropT aiY ?_;intro i e' he hpr;rw[MA hl];split
     ·next hii=>
      subst hii;rw[hl] at he;cases he;exact absurd hlv hpr
     ·exact he
    have hP3:=(((hP.trans (Pres.put _ (some d) .top)).trans (Pres.put _ (some d2) (.v (.one (.i n))))).trans (Pres.put _ o3.dst (.v (.one (.i rr.2.1)))))
    refine hn _ hk (hP3.mono ?_) _ _ ⟨γ',loc,hR.put o3.dst (x:=.v (.one (.i rr.2.1))) ⟨rfl,hub⟩ trivial⟩;intro t ht;rw[hod,amw];simpa using ht
   ·cases hk
  ·cases hk
 ·cases hk
end Ev
