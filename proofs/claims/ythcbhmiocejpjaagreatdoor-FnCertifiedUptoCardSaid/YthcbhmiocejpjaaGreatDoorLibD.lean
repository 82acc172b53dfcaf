/- The evaluator of the own library, part 4: its words, its soundness. Conditions: none of its own. -/
import Derived.Test.YthcbhmiocejpjaaGreatDoorLibC
set_option linter.unusedSimpArgs false
set_option linter.unusedVariables false
namespace Ev
open Go
variable {P:Program} {o:Oper} {a:Act} {w w':World} {next:Act->World->Prop} {Q:Exit->Act->World->Prop}
variable {E:Env} {B:Nat} {X:List Nat} {A:Ctx} {w0:World} {γ γ':Nat->Own} {loc loc':Nat->Value} {st st1:St} {R:Type} {k:St->Option R} {r:R}
theorem Fa {k:Kind} {lvl:Nat} {t:Ty} {ts:List Ty} {v:dens (t::ts)} {j j':Nat} {out:List V1} {es:List (Nat×Ent)} (h:ZK k lvl (t::ts) v j=some (out,es,j')):
  ∃ x xs es2,Yo t (ze k lvl t v.1 j).1=some x/\ZK k lvl ts v.2 (ze k lvl t v.1 j).2.2=some (xs,es2,j')/\out=x::xs/\es=(ze k lvl t v.1 j).2.1++es2:=by
 unfold ZK at h;cases hs:ze k lvl t v.1 j with
 | mk ls rest=>
  obtain⟨es1,j1⟩:=rest;rw[hs] at h;simp only at h;split at h
  ·next x xs es2 j2 h1 h2=>
   simp only[aqK,aqO] at h;obtain⟨rfl,rfl,rfl⟩:=h;exact⟨x,xs,es2,h1,h2,rfl,rfl⟩
  ·cases h
theorem Fb [Tags] {w:World} (lvl:Nat):∀ (ts:List Ty) (v:dens ts) (j:Nat) (css:List (List Value)) (fs:List Nat) (loc:Nat->Value) (out:List V1) (es:List (Nat×Ent)) (j':Nat),
  ZK (.imm false) lvl ts v j=some (out,es,j')->∀ xs,RetL w .shared ts v css xs fs->(∀ b∈fs,γ b=.persist)->
  ∃ loc',(∀ i,(i<j∨j'<=i)->loc' i=loc i)/\j<=j'/\All2 (V1Ok loc') out (ZP ts css)/\(∀ x∈out,x.lt j')/\
   (∀ (id:Nat) (e:Ent),look es id=some e->EntOk γ loc' w id e/\j<=id/\id<j'/\e.lt j')
 | [],v,j,css,fs,loc,out,es,j',h,xs,hR,hf=>by
  simp only[ZK,aqK,aqO] at h;obtain⟨rfl,rfl,rfl⟩:=h;obtain⟨rfl,_,_⟩:=hR;exact⟨loc,λ _ _=>rfl,Nat.le_refl _,trivial,by simp,by simp[look]⟩
 | t::ts,v,j,css,fs,loc,out,es,j',h,xs,hR,hf=>by
  obtain⟨x,ys,es2,hmk,ah3,rfl,rfl⟩:=Fa h;obtain⟨cs,css',x1,x2,f1,f2,rfl,rfl,rfl,h1,h2⟩:=hR;obtain⟨loc1,a1,a2,a3⟩:=KW (γ:=γ) (taint:=false) lvl t v.1 j cs f1 loc h1.2 (λ b hb=>.inl (hf b (by simp[hb])));have so:=jB (.imm false) lvl t v.1 j;obtain⟨loc2,b1,b0,b2,b3,b4⟩:=Fb lvl ts v.2 _ css' f2 loc1 ys es2 j' ah3 x2 h2 (λ b hb=>hf b (by simp[hb]));obtain⟨m1,m2⟩:=Ln hmk a2 so.lt;have hle:=so.le;refine⟨loc2,?_,by omega,⟨m1.loc m2 (λ i hi=>b1 i (.inl hi)),b2⟩,?_,?_⟩
  ·intro i hi;rw[b1 i (by omega),a1 i (by omega)]
  ·intro y hy;rcases List.mem_cons.1 hy with rfl|hy
   ·exact V1.lt_mono b0 m2
   ·exact b3 y hy
  ·intro id e hid;rw[ZY] at hid;cases hh:look (ze (.imm false) lvl t v.1 j).2.1 id with
   | some e'=>
    rw[hh] at hid;simp at hid;subst hid;obtain⟨g1,g2,E',et,xs,rfl⟩:=so.keys id _ hh;exact⟨(a3 id _ hh).arrLoc (b1 id (.inl g2)),g1,by omega,trivial⟩
   | none=>
    rw[hh] at hid;simp at hid;obtain⟨c1,c2,c3,c4⟩:=b4 id e hid;exact⟨c1,by omega,c3,c4⟩
theorem Fd [Tags] {w:World} (rk:RK) (hrk:rk ≠ .shared) (u:Bool) (lvl:Nat):∀ (ts:List Ty) (v:dens ts) (j:Nat) (css:List (List Value)) (xs fs:List Nat) (loc:Nat->Value) (γ:Nat->Own) (out:List V1) (es:List (Nat×Ent)) (j':Nat),
  ZK (.own u) lvl ts v j=some (out,es,j')->RetL w rk ts v css xs fs->xs.Nodup->(∀ b∈xs,b∉fs)->(u=true->fs.Nodup)->(u=false->∀ b∈fs,γ b=.persist)->
  ∃ (loc':Nat->Value) (γ':Nat->Own),(∀ i,(i<j∨j'<=i)->loc' i=loc i)/\j<=j'/\All2 (V1Ok loc') out (ZP ts css)/\(∀ x∈out,x.lt j')/\
   (∀ b,b∉xs->b∉fs->γ' b=γ b)/\(u=false->∀ b,b∉xs->γ' b=γ b)/\
   (∀ (id:Nat) (e:Ent),look es id=some e->EntOk γ' loc' w id e/\j<=id/\id<j'/\e.lt j')
 | [],v,j,css,xs,fs,loc,γ,out,es,j',h,hR,_,_,_,_=>by
  simp only[ZK,aqK,aqO] at h;obtain⟨rfl,rfl,rfl⟩:=h;obtain⟨rfl,_,_⟩:=hR;exact⟨loc,γ,λ _ _=>rfl,Nat.le_refl _,trivial,by simp,by simp,by simp,by simp[look]⟩
 | t::ts,v,j,css,xs,fs,loc,γ,out,es,j',h,hR,hx,hxf,hfu,hfp=>by
  obtain⟨x,ys,es2,hmk,ah3,rfl,rfl⟩:=Fa h;obtain⟨cs,css',x1,x2,f1,f2,rfl,rfl,rfl,h1,h2⟩:=hR;have h1:RdO w t v.1 cs x1 f1:=by
   cases rk with
   | shared=>exact absurd rfl hrk
   | own=>exact h1
   | uniq=>exact h1
  obtain⟨nx1,nx2,nx3⟩:=List.nodup_append.1 hx;obtain⟨loc1,γ1,a1,a2,a3,a4,a5,a6,a7⟩:=eG u lvl t v.1 j cs x1 f1 loc γ h1 nx1 (λ b hb hb'=>hxf b (by simp[hb]) (by simp[hb']))
   (λ hu=>(List.nodup_append.1 (hfu hu)).1) (λ hu b hb=>hfp hu b (by simp[hb]))
  have so:=jB (.own u) lvl t v.1 j;obtain⟨loc2,γ2,b1,b0,b2,b3,b4,b5,b6⟩:=Fd rk hrk u lvl ts v.2 _ css' x2 f2 loc1 γ1 ys es2 j' ah3 h2 nx2 (λ b hb hb'=>hxf b (by simp[hb]) (by simp[hb']))
   (λ hu=>(List.nodup_append.1 (hfu hu)).2.1) (λ hu b hb=>by
    rw[a4 hu b (λ hb'=>hxf b (by simp[hb']) (by simp[hb]))];exact hfp hu b (by simp[hb]))
  obtain⟨m1,m2⟩:=Ln hmk a2 so.lt;have hle:=so.le;refine⟨loc2,γ2,?_,by omega,⟨m1.loc m2 (λ i hi=>b1 i (.inl hi)),b2⟩,?_,?_,?_,?_⟩
  ·intro i hi;rw[b1 i (by omega),a1 i (by omega)]
  ·intro y hy;rcases List.mem_cons.1 hy with rfl|hy
   ·exact V1.lt_mono b0 m2
   ·exact b3 y hy
  ·intro b hb hb';simp only[ar0,not_or] at hb hb';rw[b4 b hb.2 hb'.2,a3 b hb.1 hb'.1]
  ·intro hu b hb;simp only[ar0,not_or] at hb;rw[b5 hu b hb.2,a4 hu b hb.1]
  ·intro id e hid;rw[ZY] at hid;cases hh:look (ze (.own u) lvl t v.1 j).2.1 id with
   | some e'=>
    rw[hh] at hid;simp at hid;subst hid;obtain⟨g1,g2,E',et,zs,rfl⟩:=so.keys id _ hh;refine⟨(a7 γ2 ?_ ?_ id _ hh).arrLoc (b1 id (.inl g2)),g1,by omega,trivial⟩
    ·intro b hb;exact b4 b (λ hb'=>nx3 b hb b hb' rfl) (λ hb'=>hxf b (by simp[hb]) (by simp[hb']))
    ·intro b hb;have hn2:b∉x2:=λ hb'=>hxf b (by simp[hb']) (by simp[hb]);cases u with
     | false=>exact b5 rfl b hn2
     | true=>exact b4 b hn2 (λ hb'=>(List.nodup_append.1 (hfu rfl)).2.2 b hb b hb' rfl)
   | none=>
    rw[hh] at hid;simp at hid;obtain⟨c1,c2,c3,c4⟩:=b6 id e hid;exact⟨c1,by omega,c3,c4⟩
theorem EP {rets:List Ty} {lvl:Nat} {t:Ty} {ps:List (PK×Ty)} {pids:List Nat} {v:zW ((.ptr,t)::ps) rets} {tab:List (Nat×Ent)} {j:Nat} {x:List (Nat×Ent)×Nat×dens rets}
  (h:Yt rets lvl ((.ptr,t)::ps) pids v tab j=some x):
  ∃ id ids l0 cells,pids=id::ids/\look tab id=some (.box l0 cells)/\Yt rets lvl ps ids v.2 (yE tab id (.box lvl (mixLs t v.1 cells).1)) j=some x:=by
 unfold Yt at h;split at h
 ·next id ids=>
  split at h
  ·next l0 cells hl=>exact⟨id,ids,l0,cells,rfl,hl,h⟩
  ·cases h
 ·cases h
theorem rO {loc:Nat->Value}:∀ (t:Ty) (v:den t) (ls:List Leaf) (c1 c2 d1:List Value),All2 (LeafOk loc) ls (c1++c2)->qt t v c1 d1->
  All2 (LeafOk loc) (mixLs t v ls).1 d1/\All2 (LeafOk loc) (mixLs t v ls).2 c2/\(∀ l∈(mixLs t v ls).1,(∀ n,l.lt n)∨l∈ls)/\∀ l∈(mixLs t v ls).2,l∈ls
 | .i64,v,ls,c1,c2,d1,h,hk=>by
  obtain⟨h1,rfl,h3⟩:=hk
  match c1,h1,ls,h with
  | [c],_,l::r,h=>exact⟨⟨⟨rfl,h3⟩,trivial⟩,h.2,by simp[mixLs,Leaf.lt],by simp +contextual [mixLs]⟩
 | .u8,v,ls,c1,c2,d1,h,hk=>by
  obtain⟨h1,rfl⟩:=hk
  match c1,h1,ls,h with
  | [c],_,l::r,h=>exact⟨⟨rfl,trivial⟩,h.2,by simp[mixLs,Leaf.lt],by simp +contextual [mixLs]⟩
 | .bool,v,ls,c1,c2,d1,h,hk=>by
  obtain⟨h1,rfl⟩:=hk
  match c1,h1,ls,h with
  | [c],_,l::r,h=>exact⟨⟨rfl,trivial⟩,h.2,by simp[mixLs,Leaf.lt],by simp +contextual [mixLs]⟩
 | .str,v,ls,c1,c2,d1,h,hk=>by
  obtain⟨h1,rfl,h3⟩:=hk
  match c1,h1,ls,h with
  | [c],_,l::r,h=>exact⟨⟨⟨rfl,h3⟩,trivial⟩,h.2,by simp[mixLs,Leaf.lt],by simp +contextual [mixLs]⟩
 | .sl _ _,v,ls,c1,c2,d1,h,hk=>by
  obtain⟨h1,rfl⟩:=hk
  match d1,h1,ls,h with
  | [c],_,l::r,h=>exact⟨⟨h.1,trivial⟩,h.2,by simp[mixLs],by simp +contextual [mixLs]⟩
 | .pair a b,v,ls,c1,c2,d1,h,hk=>by
  obtain⟨e1,e2,f1,f2,rfl,rfl,h3,h4⟩:=hk;rw[ar7] at h;obtain⟨a1,a2,a3,a4⟩:=rO a v.1 ls e1 (e2++c2) f1 h h3;obtain⟨b1,b2,b3,b4⟩:=rO b v.2 (mixLs a v.1 ls).2 e2 c2 f2 a2 h4;refine⟨a1.append b1,b2,?_,λ l hl=>a4 l (b4 l hl)⟩;intro l hl;have hl:l∈(mixLs a v.1 ls).1++(mixLs b v.2 (mixLs a v.1 ls).2).1:=hl;rcases List.mem_append.1 hl with hl|hl
  ·exact a3 l hl
  ·exact (b3 l hl).imp id (a4 l)
theorem aaN [Tags] {loc:Nat->Value} {n:Nat} {t:Ty} {v:den t} {ls:List Leaf} {cs ds:List Value} (h:All2 (LeafOk loc) ls cs) (hk:qt t v cs ds) (hlt:∀ l∈ls,l.lt n):
  All2 (LeafOk loc) (mixLs t v ls).1 ds/\∀ l∈(mixLs t v ls).1,l.lt n:=by
 obtain⟨h1,_,h3,_⟩:=rO t v ls cs [] ds (by simpa using h) hk;exact⟨h1,λ l hl=>(h3 l hl).elim (λ h=>h n) (hlt l)⟩
theorem QP [Tags] {w1:World} {n:Nat} {rk:RK} {rr xo pt:List Nat} {rets:List Ty} {v:Value} {lvl:Nat}:
  ∀ (ps:List (PK×Ty)) (pids:List Nat) (outs:zW ps rets) (xp:List Nat) (tab:List (Nat×Ent)) (j:Nat) (loc:Nat->Value) (tab':List (Nat×Ent)) (j':Nat) (rs:dens rets),pids.Nodup->
   Yt rets lvl ps pids outs tab j=some (tab',j',rs)->OutOk w1 w' n rk rr xo pt rets v ps outs xp->
   All2 (λ i b=>loc i=.pointer (some ⟨b,0,none⟩)/\γ b=.top i) pids xp->(∀ i∈pids,i<j)->
   (∀ i∈pids,∀ l0 cells b arr T fr,look tab i=some (.box l0 cells)->loc i=.pointer (some ⟨b,0,none⟩)->w1.heap[b]?=some (.cells arr T fr)->All2 (LeafOk loc) cells arr.toList/\∀ l∈cells,l.lt j)->
   (∀ (id:Nat) (e:Ent),look tab id=some e->id∈pids∨(EntOk γ loc w' id e/\e.lt j/\id<j))->
   j'=j/\K3 w' n rk rr xo pt rets v rs/\
    (∀ (id:Nat) (e:Ent),look tab' id=some e->EntOk γ loc w' id e/\e.lt j'/\id<j')/\(∀ id,id∉pids->look tab' id=look tab id)
 | [],pids,outs,xp,tab,j,loc,tab',j',rs,hnd,h,hO,hp,hlt,hold,hI=>by
  simp only[Yt,aqK,aqO] at h;obtain⟨rfl,rfl,rfl⟩:=h;obtain⟨rfl,hR⟩:=hO;cases pids with
  | cons _ _=>exact hp.elim
  | nil=>exact⟨rfl,hR,λ id e he=>(hI id e he).resolve_left (by simp),λ _ _=>rfl⟩
 | (.rd,t)::ps,pids,outs,xp,tab,j,loc,tab',j',rs,hnd,h,hO,hp,hlt,hold,hI=>QP ps pids outs xp tab j loc tab' j' rs hnd h hO hp hlt hold hI
 | (.own,t)::ps,pids,outs,xp,tab,j,loc,tab',j',rs,hnd,h,hO,hp,hlt,hold,hI=>QP ps pids outs xp tab j loc tab' j' rs hnd h hO hp hlt hold hI
 | (.cap,t)::ps,pids,outs,xp,tab,j,loc,tab',j',rs,hnd,h,hO,hp,hlt,hold,hI=>QP ps pids outs xp tab j loc tab' j' rs hnd h hO hp hlt hold hI
 | (.clo f,t)::ps,pids,outs,xp,tab,j,loc,tab',j',rs,hnd,h,hO,hp,hlt,hold,hI=>QP ps pids outs xp tab j loc tab' j' rs hnd h hO hp hlt hold hI
 | (.ptr,t)::ps,pids,outs,xp,tab,j,loc,tab',j',rs,hnd,h,hO,hp,hlt,hold,hI=>by
  obtain⟨id,ids,l0,cells,rfl,hl,h⟩:=EP h;obtain⟨b,xp',arr0,T0,fr0,arr,T,fr,rfl,h0,h1,h2,h3,h5⟩:=hO;obtain⟨⟨p1,p2⟩,p3⟩:=hp;obtain⟨n1,n2⟩:=List.nodup_cons.1 hnd;have alX:=hlt id (by simp);obtain⟨o1,o2⟩:=hold id (by simp) l0 cells b arr0 T0 fr0 hl p1 h0;obtain⟨m1,m2⟩:=aaN o1 h3 o2;have hI':∀ (i:Nat) (e:Ent),look (yE tab id (.box lvl (mixLs t outs.1 cells).1)) i=some e->i∈ids∨(EntOk γ loc w' i e/\e.lt j/\i<j):=by
   intro i e he;rw[ZZ] at he;split at he
   ·next hi=>
    subst hi;rw[hl] at he;simp only[art,aqK] at he;subst he;exact .inr ⟨⟨b,arr,T,fr,p1,h1,h2,p2,m1⟩,m2,alX⟩
   ·next hi=>
    rcases hI i e he with hm|hm
    ·left;rcases List.mem_cons.1 hm with hm|hm
     ·exact absurd hm hi
     ·exact hm
    ·exact .inr hm
  obtain⟨b1,b2,b3,b4⟩:=QP ps ids outs.2 xp' (yE tab id (.box lvl (mixLs t outs.1 cells).1)) j loc tab' j' rs n2 h h5 p3 (λ i hi=>hlt i (by simp[hi]))
   (λ i hi l0 cells b arr T fr he=>by
    rw[ZZ,if_neg (λ e:i=id=>n1 (e▸hi))] at he;exact hold i (by simp[hi]) l0 cells b arr T fr he) hI'
  refine⟨b1,b2,b3,?_⟩;intro i hni;simp only[aqW,not_or] at hni;rw[b4 i hni.2,ZZ,if_neg hni.1]
theorem B3 [Tags] (hr:Rel0 B X A w0 γ loc st a w):∀ {xs:List Operand} {as:List AV},opnds st xs=some as->All2 (AVOk loc) as (xs.map a.eval)
 | [],as,h=>by simp only[opnds,aqK] at h; subst h; trivial
 | x::xs,as,h=>by
  simp only[opnds] at h;split at h
  ·next y ys h1 h2=>cases h; exact⟨(Kd hr h1).1,B3 hr h2⟩
  ·cases h
theorem ArgsOk.lt [Tags] {w:World}:∀ {ps:List (PK×Ty)} {vs:yc ps} {vals:List Value} {r rp rc xo xp:List Nat},ArgsOk w ps vs vals r rp rc xo xp->
  (∀ b∈r,b<w.heap.size)/\(∀ b∈rp,b<w.heap.size)/\(∀ b∈rc,b<w.heap.size)/\(∀ b∈xo,b<w.heap.size)/\(∀ b∈xp,b<w.heap.size)
 | [],vs,vals,r,rp,rc,xo,xp,h=>by obtain⟨_,rfl,rfl,rfl,rfl,rfl⟩:=h; simp
 | (.rd,t)::ps,vs,vals,r,rp,rc,xo,xp,h=>by
  obtain⟨cs,vs',fp,r',_,h1,rfl,h2⟩:=h;obtain⟨k1,k2,k3,k4,k5⟩:=h2.lt;exact⟨λ b hb=>(List.mem_append.1 hb).elim (h1.lt b) (k1 b),k2,k3,k4,k5⟩
 | (.own,t)::ps,vs,vals,r,rp,rc,xo,xp,h=>by
  obtain⟨cs,vs',xs,fs,r',xo',_,h1,rfl,rfl,h2⟩:=h;obtain⟨k1,k2,k3,k4,k5⟩:=h2.lt;exact⟨λ b hb=>(List.mem_append.1 hb).elim (h1.lt.2 b) (k1 b),k2,k3,λ b hb=>(List.mem_append.1 hb).elim (h1.lt.1 b) (k4 b),k5⟩
 | (.ptr,t)::ps,vs,vals,r,rp,rc,xo,xp,h=>by
  obtain⟨b0,vs',arr,T,fr,fp,rp',xp',_,hb,_,h1,rfl,rfl,h2⟩:=h;obtain⟨k1,k2,k3,k4,k5⟩:=h2.lt;exact⟨k1,λ b hb=>(List.mem_append.1 hb).elim (h1.lt b) (k2 b),k3,k4,λ b hb'=>(List.mem_cons.1 hb').elim (λ e=>e▸Z0 hb) (k5 b)⟩
 | (.cap,t)::ps,vs,vals,r,rp,rc,xo,xp,h=>by
  obtain⟨b0,vs',arr,T,fr,fp,r',rc',_,hb,h1,rfl,rfl,h2⟩:=h;obtain⟨k1,k2,k3,k4,k5⟩:=h2.lt;exact⟨λ b hb=>(List.mem_append.1 hb).elim (h1.lt b) (k1 b),k2,λ b hb'=>(List.mem_cons.1 hb').elim (λ e=>e▸Z0 hb) (k3 b),k4,k5⟩
 | (.clo f,t)::ps,vs,vals,r,rp,rc,xo,xp,h=>by
  obtain⟨b0,vs',arr,T,fr,fp,r',rc',_,hb,h1,rfl,rfl,h2⟩:=h;obtain⟨k1,k2,k3,k4,k5⟩:=h2.lt;exact⟨λ b hb=>(List.mem_append.1 hb).elim (h1.lt b) (k1 b),k2,λ b hb'=>(List.mem_cons.1 hb').elim (λ e=>e▸Z0 hb) (k3 b),k4,k5⟩
theorem OutOk.rets [Tags] {w1 w:World} {n:Nat} {rk:RK} {rr xo pt:List Nat} {rets:List Ty} {v:Value} {lvl:Nat}:∀ (ps:List (PK×Ty)) (pids:List Nat) (outs:zW ps rets) (xp:List Nat) (tab:List (Nat×Ent)) (j:Nat)
  (x:List (Nat×Ent)×Nat×dens rets),Yt rets lvl ps pids outs tab j=some x->OutOk w1 w n rk rr xo pt rets v ps outs xp->K3 w n rk rr xo pt rets v x.2.2
 | [],pids,outs,xp,tab,j,x,h,hO=>by simp only[Yt,aqK] at h; subst h; exact hO.2
 | (.rd,t)::ps,pids,outs,xp,tab,j,x,h,hO=>OutOk.rets ps pids outs xp tab j x h hO
 | (.own,t)::ps,pids,outs,xp,tab,j,x,h,hO=>OutOk.rets ps pids outs xp tab j x h hO
 | (.cap,t)::ps,pids,outs,xp,tab,j,x,h,hO=>OutOk.rets ps pids outs xp tab j x h hO
 | (.clo f,t)::ps,pids,outs,xp,tab,j,x,h,hO=>OutOk.rets ps pids outs xp tab j x h hO
 | (.ptr,t)::ps,pids,outs,xp,tab,j,x,h,hO=>by
  obtain⟨id,ids,l0,cells,rfl,hl,h⟩:=EP h;obtain⟨b,xp',arr0,T0,fr0,arr,T,fr,rfl,h0,h1,h2,h3,h5⟩:=hO;exact OutOk.rets ps ids outs.2 xp' _ _ x h h5
theorem un {xs:List V1} {vs:List Value} (h:All2 (V1Ok loc) xs vs):AVOk loc (QS xs) (YP vs):=by
 match xs,vs,h with
 | [],[],h=>exact⟨[],rfl,trivial⟩
 | [x],[v],h=>exact h.1
 | x::y::xs,u::v::vs,h=>exact⟨u::v::vs,rfl,h⟩
theorem um {xs:List V1} {n:Nat} (h:∀ x∈xs,x.lt n):AV.lt n (QS xs):=by
 match xs,h with
 | [],h=>exact h
 | [x],h=>exact h x (by simp)
 | x::y::xs,h=>exact h
def M2 (st:St) (i:Nat):Prop:=∃ k lvl E e xs,look st.tab i=some (.arr k lvl E e xs)
theorem o9:∀ (t:Ty) (ls:List Leaf) (v:den t) (r:List Leaf),zQ st.tab t ls=some (v,r)->∀ i∈yb ls,M2 st i∨i∈yb r
 | .i64,ls,v,r,h=>by
  match ls,h with
  | .i n::r',h=>simp only[zQ,aqK,aqO] at h; intro i hi; right; rw[←h.2]; exact hi
 | .u8,ls,v,r,h=>by
  match ls,h with
  | .u n::r',h=>simp only[zQ,aqK,aqO] at h; intro i hi; right; rw[←h.2]; exact hi
 | .bool,ls,v,r,h=>by
  match ls,h with
  | .b n::r',h=>simp only[zQ,aqK,aqO] at h; intro i hi; right; rw[←h.2]; exact hi
 | .str,ls,v,r,h=>by
  match ls,h with
  | .s n::r',h=>simp only[zQ,aqK,aqO] at h; intro i hi; right; rw[←h.2]; exact hi
 | .sl E e,ls,v,r,h=>by
  match ls,h with
  | .nil::r',h=>simp only[zQ,aqK,aqO] at h; intro i hi; right; rw[←h.2]; exact hi
  | .sl id::r',h=>
   simp only[zQ] at h;split at h
   ·next k lvl E' e' xs hl=>
    split at h
    ·next ys hc=>
     simp only[aqK,aqO] at h;intro i hi;simp only[yb,aqW] at hi;rcases hi with rfl|hi
     ·exact .inl ⟨k,lvl,E',e',xs,hl⟩
     ·right; rw[←h.2]; exact hi
    ·cases h
   ·cases h
 | .pair a b,ls,v,r,h=>by
  simp only[zQ] at h;split at h
  ·next x r1 h1=>
   split at h
   ·next y r2 h2=>
    simp only[aqK,aqO] at h;intro i hi;rcases o9 a ls x r1 h1 i hi with h'|h'
    ·exact .inl h'
    ·have:=o9 b r1 y r2 h2 i h';rw[h.2] at this;exact this
   ·cases h
  ·cases h
theorem fE [Tags] {t:Ty} {ls:List Leaf} {v:den t} (h:jJ st.tab t ls=some v):∀ i∈yb ls,M2 st i:=by
 intro i hi;rcases o9 t ls v [] (bC h) i hi with h|h
 ·exact h
 ·simp[yb] at h
theorem qC [Tags]:∀ (ps:List (PK×Ty)) (xs:List AV) (g:Given ps),zU st ps xs=some g->(∀ i∈yb g.rl,M2 st i)/\∀ i∈g.cids,(cellsOf st i).isSome
 | [],[],g,h=>by simp only[zU,aqK] at h; subst h; simp[yb]
 | (.rd,t)::ps,x::xs,g,h=>by
  simp only[zU] at h;split at h
  ·next ls hls=>
   split at h
   ·next u g' hc ah3=>
    cases h;obtain⟨k1,k2⟩:=qC ps xs g' ah3;exact⟨by simp only[am]; exact λ i hi=>(List.mem_append.1 hi).elim (fE hc i) (k1 i),k2⟩
   ·cases h
  ·cases h
 | (.own,t)::ps,x::xs,g,h=>by
  simp only[zU] at h;split at h
  ·next ls hls=>
   split at h
   ·next u g' hc ah3=>cases h; exact qC ps xs g' ah3
   ·cases h
  ·cases h
 | (.ptr,t)::ps,x::xs,g,h=>by
  simp only[zU] at h;split at h
  ·split at h
   ·split at h
    ·next u g' hlv hc ah3=>cases h; exact qC ps xs g' ah3
    ·cases h
   ·cases h
  ·cases h
 | (.cap,t)::ps,x::xs,g,h=>by
  simp only[zU] at h;split at h
  ·split at h
   ·next cells aiL=>
    split at h
    ·next u g' hc ah3=>
     cases h;obtain⟨k1,k2⟩:=qC ps xs g' ah3;exact⟨by simp only[am]; exact λ i hi=>(List.mem_append.1 hi).elim (fE hc i) (k1 i),
      λ i hi=>(List.mem_cons.1 hi).elim (λ e=>by subst e; simp[aiL]) (k2 i)⟩
    ·cases h
   ·cases h
  ·cases h
 | (.clo f,t)::ps,x::xs,g,h=>by
  simp only[zU] at h;split at h
  ·split at h
   ·next cells aiL=>
    split at h
    ·next u g' hff hc ah3=>
     cases h;obtain⟨k1,k2⟩:=qC ps xs g' ah3;exact⟨by simp only[am]; exact λ i hi=>(List.mem_append.1 hi).elim (fE hc i) (k1 i),
      λ i hi=>(List.mem_cons.1 hi).elim (λ e=>by subst e; simp[aiL]) (k2 i)⟩
    ·cases h
   ·cases h
  ·cases h
 | [],_::_,g,h=>by simp[zU] at h
 | (.rd,_)::_,[],g,h=>by simp[zU] at h
 | (.own,_)::_,[],g,h=>by simp[zU] at h
 | (.ptr,_)::_,[],g,h=>by simp[zU] at h
 | (.cap,_)::_,[],g,h=>by simp[zU] at h
 | (.clo _,_)::_,[],g,h=>by simp[zU] at h
theorem RetL.unfr [Tags] {w:World} {rk:RK} (hrk:rk ≠ .shared):∀ {ts:List Ty} {v:dens ts} {css:List (List Value)} {xs fs:List Nat},RetL w rk ts v css xs fs->∀ b∈xs,Unfr w b
 | [],_,_,_,_,h=>by rw[h.2.1]; simp
 | t::ts,v,css,xs,fs,h=>by
  obtain⟨cs,css',x1,x2,f1,f2,_,rfl,_,h1,h2⟩:=h;intro b hb;rcases List.mem_append.1 hb with hb|hb
  ·have h1':RdO w t v.1 cs x1 f1:=by
    cases rk with
    | shared=>exact absurd rfl hrk
    | own=>exact h1
    | uniq=>exact h1
   exact h1'.unfr b hb
  ·exact RetL.unfr hrk h2 b hb
theorem ul [Tags] {w:World}:∀ {ts:List Ty} {v:dens ts} {css:List (List Value)} {xs fs:List Nat},RetL w .shared ts v css xs fs->xs=[]
 | [],_,_,_,_,h=>h.2.1
 | t::ts,v,css,xs,fs,h=>by
  obtain⟨cs,css',x1,x2,f1,f2,_,rfl,_,h1,h2⟩:=h;rw[h1.1,ul h2];rfl
theorem All2.mem2 {α β:Type} {R:α->β->Prop}:∀ {xs:List α} {ys:List β},All2 R xs ys->All2 (λ x y=>R x y/\y∈ys) xs ys
 | [],[],_=>trivial
 | x::xs,y::ys,h=>⟨⟨h.1,by simp⟩,(All2.mem2 h.2).mono λ _ _ _ hy=>⟨hy.1,List.mem_cons_of_mem _ hy.2⟩⟩
 | [],_::_,h=>h.elim
 | _::_,[],h=>h.elim
theorem oV:∀ {ps:List (PK×Ty)} {xs:List AV} {g:Given ps},zU st ps xs=some g->(ps.all λ p=>p.1.isRd)=true->g.ol=[]/\g.pl=[]/\g.pids=[]/\g.cids=[]
 | [],[],g,h,_=>by simp only[zU,aqK] at h; subst h; exact⟨rfl,rfl,rfl,rfl⟩
 | [],_::_,g,h,_=>by simp[zU] at h
 | (.rd,t)::ps,[],g,h,_=>by simp[zU] at h
 | (.rd,t)::ps,x::xs,g,h,hp=>by
  simp only[ard,aqF] at hp;simp only[zU] at h;split at h
  ·split at h
   ·next v g' _ hg'=>
    obtain⟨h1,h2,h3,h4⟩:=oV hg' hp.2;cases h;exact⟨h1,h2,h3,h4⟩
   ·cases h
  ·cases h
 | (.own,t)::ps,xs,g,h,hp=>by simp[PK.isRd] at hp
 | (.ptr,t)::ps,xs,g,h,hp=>by simp[PK.isRd] at hp
 | (.cap,t)::ps,xs,g,h,hp=>by simp[PK.isRd] at hp
 | (.clo f,t)::ps,xs,g,h,hp=>by simp[PK.isRd] at hp
theorem oW [Tags]:∀ {ps:List (PK×Ty)} {vs:yc ps} {vals:List Value} {r rp rc xo xp:List Nat},ArgsOk w ps vs vals r rp rc xo xp->(ps.all λ p=>p.1.isRd)=true->rp=[]/\rc=[]/\xo=[]/\xp=[]
 | [],vs,vals,r,rp,rc,xo,xp,h,_=>⟨h.2.2.1,h.2.2.2.1,h.2.2.2.2.1,h.2.2.2.2.2⟩
 | (.rd,t)::ps,vs,vals,r,rp,rc,xo,xp,h,hp=>by
  simp only[ard,aqF] at hp;obtain⟨cs,vs',fp,r',_,_,_,h'⟩:=h;exact oW h' hp.2
 | (.own,t)::ps,vs,vals,r,rp,rc,xo,xp,h,hp=>by simp[PK.isRd] at hp
 | (.ptr,t)::ps,vs,vals,r,rp,rc,xo,xp,h,hp=>by simp[PK.isRd] at hp
 | (.cap,t)::ps,vs,vals,r,rp,rc,xo,xp,h,hp=>by simp[PK.isRd] at hp
 | (.clo f,t)::ps,vs,vals,r,rp,rc,xo,xp,h,hp=>by simp[PK.isRd] at hp
theorem afo [Tags] {f:Nat} {nf:NF} (hS:LZ P A.gl f nf) {args:List AV} {vals:List Value} (ai4:All2 (AVOk loc) args vals) (ah4:(execOp a.eval o).run P w=(callFunc f vals.toArray).run P w)
  (hr:Rel0 B X A w0 γ loc st a w) (hk:fO nf args o.dst st k=some r) (hn:yi B X A w0 k r o.dst.toList st next):o.wp P a w next Q:=by
 unfold fO at hk;split at hk
 ·cases hk
 ·next g hg=>
  split at hk
  ·cases hk
  ·next hck=>
   simp only[aqF] at hck;obtain⟨hrd,hst⟩:=hck;obtain⟨v,hv,hk⟩:=Option.bind_eq_some_iff.1 hk;split at hk;next ls es j hsp=>
    obtain⟨e1,e2,e3,e4⟩:=oV hg hrd;obtain⟨rr,rp,rc,xo,xp,k1,k2,k3,k4,k5,k6,k7,k8,k9⟩:=L2 hr nf.params _ g _ [] hg ai4 (by rw[e1]; rfl) (by rw[e2]; rfl)
    obtain⟨rfl,rfl,rfl,rfl⟩:=oW k1 hrd;obtain⟨l1,l2,l3,l4,l5⟩:=k1.lt;have hcall:=hS.run w g.vs _ rr v k1 hr.globAt (λ b hb=>(hr.globApart hb).1) hv;unfold Oper.wp;rw[ah4];refine hcall.upon λ u w' aiU => ?_;obtain⟨hkeep,nb,arr,T,fr,fs,hu,hnb,aiL,hfr,apz,hfs⟩:=aiU
    let γ1:Nat->Own:=λ b=>if b=nb then .top st.nxt else if b<w.heap.size then γ b else .persist
    let loc0:Nat->Value:=λ i=>if i=st.nxt then .pointer (some ⟨nb,0,none⟩) else loc i
    have hg1:∀ b,b<w.heap.size->γ1 b=γ b:=λ b hb=>by simp[γ1,hb,show b≠nb by omega]
    have hpf:∀ b∈fs,γ1 b=.persist∨(false=true/\∃ i,γ1 b=.deep i):=by
     intro b hb;left;obtain⟨h1,h2⟩:=hfs b hb;by_cases hlt:b<w.heap.size
     ·rw[hg1 b hlt];rcases h2 with h2|h2
      ·omega
      ·rcases k3 hst b h2 with h|⟨i,hi,_⟩
       ·exact h
       ·simp at hi
     ·simp[γ1,h1,hlt]
    obtain⟨loc',b1,b2,b3⟩:=KW (γ:=γ1) (taint:=false) st.lvl nf.ret v (st.nxt+1) arr.toList fs loc0 apz hpf;have so:=jB (.imm false) st.lvl nf.ret v (st.nxt+1);rw[hsp] at b1 b2 b3;have sle:=so.le;have slt:=so.lt;have skeys:=so.keys;rw[hsp] at sle slt skeys;simp only at b1 b2 b3 sle slt skeys;have hl0:loc' st.nxt=.pointer (some ⟨nb,0,none⟩):=by rw[b1 st.nxt (.inl (by omega))]; simp[loc0]
    have hlo:∀ i<st.nxt,loc' i=loc i:=λ i hi=>by rw[b1 i (.inl (by omega))]; simp[loc0,show i≠st.nxt by omega]
    have hB:=hr.Ble;have hR:Rel0 B X A w0 γ1 loc' { st with tab:=es++(st.nxt,.box st.lvl ls)::st.tab,nxt:=j } a w':=by
     refine hr.updW (M:=λ _=>False) rfl (by simp only; omega) ⟨hkeep.os,hkeep.tape,hkeep.output,hkeep.size,λ b hb hx=>hkeep.block b (by omega) (by simp),hkeep.free,hkeep.shape⟩ (λ b hb=>by
      by_cases e:b=nb
      ·subst e; exact Unfr.of aiL hfr
      ·by_cases hlt:b<w.heap.size
       ·exact hkeep.free b hlt (hr.unf b (by rw[hg1 b hlt] at hb; exact hb))
       ·simp[γ1,e,hlt,owned] at hb) ?_ hlo ?_ (λ _ h=>h.elim) ?_
     ·intro b hb hx; rw[hg1 b (by omega)]; exact hr.old b hb hx
     ·refine⟨λ b hb h=>⟨by rw[hg1 b hb]; exact h,hkeep.block b hb (by simp)⟩,λ b i hb h _=>⟨by rw[hg1 b hb]; exact h,hkeep.block b hb (by simp)⟩,λ b i hb h=>⟨hkeep.block b hb (by simp),λ _=>by rw[hg1 b hb]; exact h,λ h=>h.elim⟩⟩
     ·intro id e he;rw[ZY] at he;cases hh:look es id with
      | some e'=>
       rw[hh] at he;simp at he;subst he;obtain⟨c1,c2,c3⟩:=skeys id _ hh;refine .inr ⟨⟨b3 id _ hh,?_,c2⟩,.inl (by omega)⟩;obtain⟨E',e0,xs,rfl⟩:=c3;trivial
      | none=>
       rw[hh] at he;simp only[arP,jf] at he;split at he
       ·next hid=>
        cases he;subst hid;exact .inr ⟨⟨⟨nb,arr,T,fr,hl0,aiL,hfr,by simp[γ1],b2⟩,slt,by simp only; omega⟩,.inl (Nat.le_refl _)⟩
       ·exact .inl ⟨he,λ h=>h⟩
    have ai7:Pres [] st { st with tab:=es++(st.nxt,.box st.lvl ls)::st.tab,nxt:=j }:=by
     refine⟨rfl,by simp only; omega,?_,λ _ _=>rfl,rfl⟩
     intro id e he _;have:=(hr.elt id e he).2;rw[ZY];cases hh:look es id with
     | some e'=>obtain⟨c1,_,_⟩:=skeys id _ hh; omega
     | none=>
      simp only[arP,jf];rw[if_neg (by omega)];exact he
    rw[hu];exact hn _ hk (ai7.putAfter o.dst _) _ _ ⟨γ1,loc',hR.put o.dst (x:=.v (.one (.ptr st.nxt 0))) ⟨nb,hl0,rfl⟩ (show st.nxt<j by omega)⟩
theorem wX [Tags] (hr:Rel0 B X A w0 γ loc st a w) {pf:PF} {args:List AV} {vals:List Value} {g:Given pf.params} {oids:List Nat} (hg:zU st pf.params args=some g) (ai4:All2 (AVOk loc) args vals)
  (aiE:yw st g.ol=some oids) (aj7:kP st g pf.rk oids=true):∃ rr rp rc xo xp,ArgsOk w pf.params g.vs vals rr rp rc xo xp/\(xo++xp).Nodup/\(∀ b∈xo++xp,b∉rr/\b∉rp/\b∉rc)/\(∀ b∈A.gl.gb,b<w.heap.size/\b∉xo++xp)/\
   ∀ {outs:zW pf.params pf.rets} {tab:List (Nat×Ent)} {j:Nat} {rs:dens pf.rets} {xs:List V1} {es:List (Nat×Ent)} {j':Nat} {v:Value} {w':World},
    Yt pf.rets st.lvl pf.params g.pids outs (ZB st.tab oids) st.nxt=some (tab,j,rs)->ZK pf.rk.kind st.lvl pf.rets rs j=some (xs,es,j')->KeepsW w.heap.size (xo++xp) w w'->
    (∃ pt,OutOk w w' w.heap.size pf.rk (rr++rp++rc) xo pt pf.rets v pf.params outs xp)->∃ γ2 loc2,Rel0 B X A w0 γ2 loc2 { st with tab:=es++tab,nxt:=j' } a w'/\Pres [] st { st with tab:=es++tab,nxt:=j' }/\∃ vs,v=YP vs/\All2 (V1Ok loc2) xs vs/\∀ x∈xs,x.lt j':=by
 simp only[kP,aqF,arj,List.isEmpty_iff] at aj7;obtain⟨⟨⟨⟨m1,m2⟩,m3⟩,m4⟩,m5⟩:=aj7;obtain⟨rr,rp,rc,xo,xp,k1,k2,k3,k4,k5,k6,k7,k8,k9⟩:=L2 hr pf.params _ g _ oids hg ai4 aiE m1;obtain⟨p1,p2⟩:=EJ k8 (kU m2);have m3:=qH m3;have m4:=qH m4;obtain⟨l1,l2,l3,l4,l5⟩:=k1.lt;have ahd:=Jw aiE;have hpo:∀ i∈g.pids,i∉oids:=by
  intro i hi ho;obtain⟨lvl,cells,hl,_⟩:=k9 i hi;obtain⟨u,lvl',E',e,ys,hl',_⟩:=ahd i ho;rw[hl] at hl'; cases hl'
 have hxx:∀ b∈xo,b∉xp:=by
  intro b hb hb';obtain⟨i,hi,e1⟩:=k7 b hb;obtain⟨i',hi',e2⟩:=p2 b hb';rw[e1] at e2; cases e2
  exact hpo i hi' hi
 obtain⟨ia,ic⟩:=qC _ _ g hg;have hsl:∀ i∈g.pids,∀ b∈rr,γ b ≠ .top i:=by
  intro i hi b hb e;obtain⟨lvl,cells,hl,_⟩:=k9 i hi;obtain⟨_,_,_,_,_,hl'⟩:=ia i ((k2 b hb).2 i e);rw[hl] at hl'; cases hl'
 have hoc:∀ i∈oids,i∉g.cids:=by
  intro i hi hi';obtain⟨u,lvl',E',e,ys,hl',_⟩:=ahd i hi;have:=ic i hi';simp[cellsOf,hl'] at this
 have ai0:∀ b∈xo++xp,b∉rr/\b∉rp/\b∉rc:=by
  intro b hb;rcases List.mem_append.1 hb with hb|hb
  ·obtain⟨i,hi,e⟩:=k7 b hb;refine⟨λ h=>m3 i hi ((k2 b h).2 i e),⟨λ h=>(by rw[k4 b h] at e; cases e),λ h => ?_⟩⟩
   rcases k5 b h with h'|⟨i',hi',h'⟩
   ·rw[h'] at e; cases e
   ·rw[h'] at e; cases e
    exact hoc _ hi hi'
  ·obtain⟨i,hi,e⟩:=p2 b hb;refine⟨λ h=>hsl i hi b h e,⟨λ h=>(by rw[k4 b h] at e; cases e),λ h => ?_⟩⟩
   rcases k5 b h with h'|⟨i',hi',h'⟩
   ·rw[h'] at e; cases e
   ·rw[h'] at e; cases e
    exact m4 _ hi hi'
 have aoJ:∀ b∈A.gl.gb,b<w.heap.size/\b∉xo++xp:=by
  intro b hb;obtain⟨g1,g2⟩:=hr.globApart hb;refine⟨g1,λ hm => ?_⟩;rcases List.mem_append.1 hm with hm|hm
  ·obtain⟨i,_,e⟩:=k7 b hm;rcases g2 with g2|g2<;>rw[e] at g2<;>cases g2
  ·obtain⟨i,_,e⟩:=p2 b hm;rcases g2 with g2|g2<;>rw[e] at g2<;>cases g2
 refine⟨rr,rp,rc,xo,xp,k1,Z3 k6 p1 hxx,ai0,aoJ,?_⟩;intro outs tab j rs xs es j' v w' aia ahO hkeep hpt;obtain⟨pt,hout⟩:=hpt;have apC:=OutOk.rets pf.params g.pids outs xp _ _ _ aia hout;obtain⟨css,xb,fs,q1,q2,q3,q4⟩:=apC
-- memory's division, but for the results
 have hxb:∀ b∈xb,w.heap.size<=b∨b∈xo:=by
  intro b hb;cases hrk:pf.rk with
  | uniq=>rw[hrk] at q3; exact (q3.2 b (by simp[hb])).1
  | own=>rw[hrk] at q3; exact (q3.2.1 b hb).1
  | shared=>rw[hrk] at q1; rw[ul q1] at hb; simp at hb
 let al:Nat->Prop:=λ b=>b∈xb∨(pf.rk=.uniq/\b∈fs)
 have hal:∀ b,al b->w.heap.size<=b∨b∈xo:=by
  intro b hb;rcases hb with hb|⟨hrk,hb⟩
  ·exact hxb b hb
  ·rw[hrk] at q3; exact (q3.2 b (by simp[hb])).1
 let γ1:Nat->Own:=λ b=>open Classical in if al b then .alien else if b<w.heap.size then relab oids .persist γ b else .persist
 have hg1:∀ b,b<w.heap.size->b∉xo->γ1 b=relab oids .persist γ b:=by
  intro b hb hx;have:¬ al b:=λ h=>(hal b h).elim (λ h=>by omega) hx;simp[γ1,this,hb]
 have hnx:∀ b,(∀ i∈oids,γ b ≠ .top i)->b∉xo:=λ b h hb=>by obtain⟨i,hi,e⟩:=k7 b hb; exact h i hi e
 have hmv:Moves (λ i=>i∈oids∨i∈g.pids) γ γ1 w w':=by
  constructor
  ·intro b hb hp;have h1:b∉xo:=hnx b (by simp[hp]);have h2:b∉xp:=λ h=>by obtain⟨i,hi,e⟩:=p2 b h; rw[hp] at e; cases e
   exact⟨by rw[hg1 b hb h1,Yv hp],hkeep.block b hb (by simp[h1,h2])⟩
  ·intro b i hb hp hi;simp only[not_or] at hi;have h1:b∉xo:=hnx b (by rw[hp]; intro i' hi' e; cases e; exact hi.1 hi')
   have h2:b∉xp:=λ h=>by obtain⟨i',hi',e⟩:=p2 b h; rw[hp] at e; cases e; exact hi.2 hi'
   exact⟨by rw[hg1 b hb h1,KO hp,if_neg hi.1],hkeep.block b hb (by simp[h1,h2])⟩
  ·intro b i hb hp;have h1:b∉xo:=hnx b (by simp[hp]);have h2:b∉xp:=λ h=>by obtain⟨i',hi',e⟩:=p2 b h; rw[hp] at e; cases e
   refine⟨hkeep.block b hb (by simp[h1,h2]),λ hi => ?_,λ hi => ?_⟩
   ·simp only[not_or] at hi;rw[hg1 b hb h1,Jc hp,if_neg hi.1]
   ·rw[hg1 b hb h1,Jc hp];by_cases hio:i∈oids
    ·exact .inl (by rw[if_pos hio])
    ·exact .inr ⟨i,by rw[if_neg hio]⟩
 have hB:=hr.Ble;have hoX:∀ b,b<B->b∉X->b∉xo:=by
  intro b hb hx;refine hnx b ?_;intro i _ e;rcases hr.old b hb hx with h|⟨h,_⟩<;>rw[h] at e<;>cases e
 have hpX:∀ b,b<B->b∉X->b∉xp:=by
  intro b hb hx hm;obtain⟨i,_,e⟩:=p2 b hm;rcases hr.old b hb hx with h|⟨h,_⟩<;>rw[h] at e<;>cases e
 have ant:∀ b,b<B->b∉X->γ1 b=.alien∨(γ1 b=.persist/\b∈A.rds):=by
  intro b hb hx;rw[hg1 b (by omega) (hoX b hb hx)];exact NV hr.old b hb hx
 have hkX:KeepsW B X w w':=⟨hkeep.os,hkeep.tape,hkeep.output,hkeep.size,λ b hb hx=>hkeep.block b (by omega) (by simp[hoX b hb hx,hpX b hb hx]),hkeep.free,hkeep.shape⟩
 have ajp:yF st g.rl=true/\g.cids=[]->∀ b,¬ al b->From w.heap.size (rr++rp++rc) xo b->γ1 b=.persist:=by
  intro hst b ann hf;by_cases hlt:b<w.heap.size
  ·have e0:γ1 b=relab oids .persist γ b:=by simp[γ1,ann,hlt]
   rw[e0];rcases hf with h|h|h
   ·omega
   ·rcases List.mem_append.1 h with h|h
    ·rcases List.mem_append.1 h with h|h
     ·rcases k3 hst.1 b h with h|⟨i,hi,h⟩
      ·exact Yv h
      ·rw[Jc h,if_pos hi]
     ·exact Yv (k4 b h)
    ·rcases k5 b h with h|⟨i,hi,h⟩
     ·exact Yv h
     ·rw[hst.2] at hi; simp at hi
   ·obtain⟨i,hi,h⟩:=k7 b h;rw[KO h,if_pos hi]
  ·simp[γ1,ann,hlt]
 have hpp:All2 (λ i b=>loc i=.pointer (some ⟨b,0,none⟩)/\γ1 b=.top i) g.pids xp:=by
  have hps:∀ b∈xp,b∉xo:=λ b hb hb'=>hxx b hb' hb;have:=All2.mem2 k8;refine this.mono λ i hi b hib=>⟨hib.1.1,?_⟩
  rw[hg1 b (l5 b hib.2) (hps b hib.2),KO hib.1.2,if_neg (hpo i hi)]
 have hI:∀ (id:Nat) (e:Ent),look (ZB st.tab oids) id=some e->id∈g.pids∨(EntOk γ1 loc w' id e/\e.lt st.nxt/\id<st.nxt):=by
  intro id e he;rw[JG] at he;split at he
  ·cases he
  ·next hno=>
   by_cases hip:id∈g.pids
   ·exact .inl hip
   ·obtain⟨e1,e2⟩:=hr.elt id e he;exact .inr ⟨EntOk.moves hmv (by simp[hno,hip]) e1 e2 (λ _ _=>rfl) (hr.ents id e he),e1,e2⟩
 have aps:∀ i∈g.pids,i<st.nxt:=λ i hi=>by obtain⟨lvl,cells,hl,_⟩:=k9 i hi; exact (hr.elt i _ hl).2
 have apk:∀ i∈g.pids,∀ l0 cells b arr T fr,look (ZB st.tab oids) i=some (.box l0 cells)->loc i=.pointer (some ⟨b,0,none⟩)->w.heap[b]?=some (.cells arr T fr)->All2 (LeafOk loc) cells arr.toList/\∀ l∈cells,l.lt st.nxt:=by
  intro i hi l0 cells b arr T fr hl hb1 hb2;rw[JG,if_neg (hpo i hi)] at hl;obtain⟨b',arr',T',fr',g1,g2,g3,g4,g5⟩:=hr.ents i _ hl;rw[hb1] at g1;simp only[Value.pointer.injEq,aqK,Addr.mk.injEq,and_true] at g1;subst g1;rw[hb2] at g2;cases g2;exact⟨g5,(hr.elt i _ hl).1⟩
 obtain⟨a0,a3,a4,a5'⟩:=QP (w1:=w) pf.params g.pids outs xp _ _ loc _ _ _ (kU m2) aia hout hpp aps apk hI;have a2:st.nxt<=j:=by omega
 have a5:∀ id<st.nxt,id∉g.pids->look tab id=look (ZB st.tab oids) id:=λ id _ h=>a5' id h
 let loc1:=loc
 have a1:∀ i<st.nxt,loc1 i=loc i:=λ _ _=>rfl;have hR1:Rel0 B X A w0 γ1 loc1 { st with tab:=tab,nxt:=j } a w':=
  hr.updW (M:=λ i=>i∈oids∨i∈g.pids) rfl a2 hkX (λ b hb=>by
   by_cases ha:al b
   ·simp[γ1,ha,owned] at hb
   ·by_cases hlt:b<w.heap.size
    ·simp only[γ1,ha,hlt,if_true,if_false] at hb;exact hkeep.free b hlt (hr.unf b (NW hb))
    ·simp[γ1,ha,hlt,owned] at hb) ant a1 hmv (λ i hi=>hi.elim (λ h=>by obtain⟨u,lvl,E',e,xs,h',_⟩:=ahd i h; exact⟨_,h'⟩) (λ h=>by obtain⟨lvl,cells,h',_⟩:=k9 i h; exact⟨_,h'⟩)) (λ id e he=>.inr ⟨a4 id e he,by
   by_cases hlt:id<st.nxt
   ·by_cases hip:id∈g.pids
    ·obtain⟨lvl,cells,h',_⟩:=k9 id hip; exact .inr ⟨_,h'⟩
    ·rw[a5 id hlt hip,JG] at he;split at he
     ·cases he
     ·exact .inr ⟨_,he⟩
   ·exact .inl (by omega)⟩)
 have ap4:∀ (id:Nat) (e:Ent),look st.tab id=some e->e.prot st.lvl->look tab id=some e:=by
  intro id e he hp;have hlt:=(hr.elt id e he).2;have hnp:id∉g.pids:=λ hm=>by
   obtain⟨lvl,cells,hl,hlv⟩:=k9 id hm;rw[hl] at he; cases he
   exact hp hlv
  have hno:id∉oids:=λ hm=>QH (ahd id hm) _ he hp;rw[a5 id hlt hnp,JG,if_neg hno];exact he
-- the results
 have ahG:∀ γ2 loc2,(∀ i<j,loc2 i=loc1 i)->j<=j'->All2 (V1Ok loc2) xs (ZP pf.rets css)->(∀ x∈xs,x.lt j')->Moves (λ _=>False) γ1 γ2 w' w'->(∀ b,b<B->b∉X->γ2 b=γ1 b)->(∀ b,owned (γ2 b)->Unfr w' b)->
   (∀ (id:Nat) (e:Ent),look es id=some e->EntOk γ2 loc2 w' id e/\j<=id/\id<j'/\e.lt j')->∃ γ2 loc2,Rel0 B X A w0 γ2 loc2 { st with tab:=es++tab,nxt:=j' } a w'/\Pres [] st { st with tab:=es++tab,nxt:=j' }/\∃ vs,v=YP vs/\All2 (V1Ok loc2) xs vs/\∀ x∈xs,x.lt j':=by
  intro γ2 loc2 b1 b0 b2 b3 b4 b5 b7 b6;have hR2:Rel0 B X A w0 γ2 loc2 { st with tab:=es++tab,nxt:=j' } a w':=by
   refine hR1.updW (M:=λ _=>False) rfl b0 (KeepsW.refl _ _ _) b7 ?_ b1 b4 (λ _ h=>h.elim) ?_
   ·intro b hb hx; rw[b5 b hb hx]; exact ant b hb hx
   ·intro id e he;rw[ZY] at he;cases hh:look es id with
    | some e'=>
     rw[hh] at he;simp at he;subst he;obtain⟨c1,c2,c3,c4⟩:=b6 id _ hh;exact .inr ⟨⟨c1,c4,c3⟩,.inl c2⟩
    | none=>rw[hh] at he; simp at he; exact .inl ⟨he,λ h=>h⟩
  have ai7:Pres [] st { st with tab:=es++tab,nxt:=j' }:=by
   refine⟨rfl,by simp only; omega,?_,λ _ _=>rfl,rfl⟩
   intro id e he hp;simp only[ZY];cases hh:look es id with
   | some e'=>
    obtain⟨_,c2,_,_⟩:=b6 id _ hh;have:=(hr.elt id e he).2;omega
   | none=>simpa using ap4 id e he hp
  exact⟨γ2,loc2,hR2,ai7,_,q2,b2,b3⟩
 have anw:∀ u,pf.rk ≠ .shared->ZK (.own u) st.lvl pf.rets rs j=some (xs,es,j')->xb.Nodup->(∀ b∈xb,b∉fs)->(u=true->fs.Nodup)->(u=false->∀ b∈fs,γ1 b=.persist)->
   (u=true->pf.rk=.uniq)->∃ γ2 loc2,Rel0 B X A w0 γ2 loc2 { st with tab:=es++tab,nxt:=j' } a w'/\Pres [] st { st with tab:=es++tab,nxt:=j' }/\∃ vs,v=YP vs/\All2 (V1Ok loc2) xs vs/\∀ x∈xs,x.lt j':=by
  intro u hns ahO n1 n2 n3 n4 n5;obtain⟨loc2,γ2,b1,b0,b2,b3,b4,b5,b6⟩:=Fd pf.rk hns u st.lvl pf.rets rs j css xb fs loc1 γ1 xs es j' ahO q1 n1 n2 n3 n4;have aig:∀ b,¬ al b->γ2 b=γ1 b:=by
   intro b hb;simp only[al,not_or,not_and] at hb;cases u with
   | false=>exact b5 rfl b hb.1
   | true=>exact b4 b hb.1 (hb.2 (n5 rfl))
  have hna:∀ b,γ1 b ≠ .alien->¬ al b:=λ b h ha=>h (by simp[γ1,ha]);refine ahG γ2 loc2 (λ i hi=>b1 i (.inl hi)) b0 b2 b3 ⟨?_,?_,?_⟩ ?_ (λ b hb=>by
   by_cases ha:al b
   ·rcases ha with ha|⟨h1,h2⟩
    ·exact q1.unfr hns b ha
    ·exact q4 h1 b h2
   ·rw[aig b ha] at hb;exact hR1.unf b hb) b6
  ·intro b hb hp; exact⟨by rw[aig b (hna b (by simp[hp]))]; exact hp,rfl⟩
  ·intro b i hb hp _; exact⟨by rw[aig b (hna b (by simp[hp]))]; exact hp,rfl⟩
  ·intro b i hb hp; exact⟨rfl,λ _=>by rw[aig b (hna b (by simp[hp]))]; exact hp,λ h=>h.elim⟩
  ·intro b hb hx;exact aig b (λ h=>(hal b h).elim (λ h=>by omega) (hoX b hb hx))
 have ajw:pf.rk ≠ .uniq->(∀ b∈fs,b∉xb)->(∀ b∈fs,From w.heap.size (rr++rp++rc) xo b)->∀ b∈fs,γ1 b=.persist:=by
  intro hnu aq4 hfs b hb;have hst:yF st g.rl=true/\g.cids=[]:=by
   rcases m5 with h|h
   ·exact absurd (by cases h':pf.rk<;>simp_all [RK.isUniq]) hnu
   ·exact h
  exact ajp hst b (by
   rintro (h|⟨h,_⟩)
   ·exact aq4 b hb h
   ·exact hnu h) (hfs b hb)
 cases hrk:pf.rk with
 | uniq=>
  rw[hrk] at ahO q3;obtain⟨n1,n2,n3⟩:=List.nodup_append.1 q3.1;exact anw true (by simp[hrk]) ahO n1 (λ b hb hb'=>n3 b hb b hb' rfl) (λ _=>n2) (by simp) (λ _=>hrk)
 | own=>
  rw[hrk] at ahO;rw[hrk] at q3;obtain⟨n1,n2,n3,n4⟩:=q3;exact anw false (by simp[hrk]) ahO n1 n3 (by simp) (λ _=>ajw (by simp[hrk]) (λ b hb hb'=>n3 b hb' hb) n4) (by simp)
 | shared=>
  rw[hrk] at ahO q1 q3;have hxe:=ul q1;have hp:=ajw (by simp[hrk]) (by simp[hxe]) q3;obtain⟨loc2,b1,b0,b2,b3,b6⟩:=Fb (γ:=γ1) st.lvl pf.rets rs j css fs loc1 xs es j' ahO _ q1 hp;exact ahG γ1 loc2 (λ i hi=>b1 i (.inl hi)) b0 b2 b3 (Moves.refl _ _ _) (λ _ _ _=>rfl) (λ b hb=>hR1.unf b hb) b6
theorem X5 {t:Ty} {ps:List (PK×Ty)} (h:Ka ((.rd,t)::ps)=true):t.hasSl=false/\Ka ps=true:=by
 simpa[Ka] using h
theorem oY [Tags] (hr:Rel0 B X A w0 γ loc st a w):∀ (ps:List (PK×Ty)) (xs:List AV) (g:Given ps) (vals:List Value) (oids:List Nat),zU st ps xs=some g->All2 (AVOk loc) xs vals->
  yw st g.ol=some oids->(∀ i∈oids,LX st i)->Ka ps=true->
  ∃ r xo,ArgsOk w ps g.vs vals r [] [] xo []/\r.Nodup/\(∀ b∈r,∃ i∈oids,γ b=.deep i)/\xo.Nodup/\∀ b∈xo,∃ i∈oids,γ b=.top i
 | [],[],g,vals,oids,h,ha,hg,hu,hj=>by
  cases vals with
  | cons _ _=>exact ha.elim
  | nil=>
   simp only[zU,aqK] at h;subst h;exact⟨[],[],⟨rfl,rfl,rfl,rfl,rfl,rfl⟩,by simp,by simp,by simp,by simp⟩
 | (.rd,t)::ps,x::xs,g,vals,oids,h,ha,hg,hu,hj=>by
  match vals,ha with
  | v::vs,ha=>
   obtain⟨j1,j2⟩:=X5 hj;simp only[zU] at h;split at h
   ·next ls hls=>
    split at h
    ·next u g' hc ah3=>
     cases h;obtain⟨cs,e1,e2⟩:=qE hls ha.1;obtain⟨fp,q1,q2,q3⟩:=Js hr hc e2;obtain⟨r,xo,k1,k2,k3,k4,k5⟩:=oY hr ps xs g' vs oids ah3 ha.2 hg hu j2;have hf:=q1.noSl j1;subst hf;exact⟨r,xo,⟨cs,vs,[],r,by rw[e1],q1,rfl,k1⟩,k2,k3,k4,k5⟩
    ·cases h
   ·cases h
 | (.own,t)::ps,x::xs,g,vals,oids,h,ha,hg,hu,hj=>by
  match vals,ha with
  | v::vs,ha=>
   simp only[zU] at h;split at h
   ·next ls hls=>
    split at h
    ·next u g' hc ah3=>
     cases h;obtain⟨cs,e1,e2⟩:=qE hls ha.1;obtain⟨i1,i2,g1,g2,g3,g4⟩:=J3 hg;obtain⟨xb,fs,q1,q2,q3,q4,q5⟩:=qG hr hc e2 g1;subst g3;obtain⟨n1,n2⟩:=q5 λ i hi=>hu i (by simp[hi]);obtain⟨r,xo,k1,k2,k3,k4,k5⟩:=oY hr ps xs g' vs i2 ah3 ha.2 g2 (λ i hi=>hu i (by simp[hi])) (by simpa[Ka] using hj);refine⟨fs++r,xb++xo,⟨cs,vs,xb,fs,r,xo,by rw[e1],q1,rfl,rfl,k1⟩,Z3 n1 k2 ?_,?_,Z3 q2 k4 ?_,?_⟩
     ·intro b hb hb';obtain⟨i,hi,e⟩:=n2 b hb;obtain⟨j,hj,e'⟩:=k3 b hb';rw[e] at e';cases e';exact g4 i hi hj
     ·intro b hb;rcases List.mem_append.1 hb with hb|hb
      ·obtain⟨i,hi,h⟩:=n2 b hb; exact⟨i,by simp[hi],h⟩
      ·obtain⟨i,hi,h⟩:=k3 b hb; exact⟨i,by simp[hi],h⟩
     ·intro b hb hb';obtain⟨i,hi,e⟩:=q3 b hb;obtain⟨j,hj,e'⟩:=k5 b hb';rw[e] at e';cases e';exact g4 i hi hj
     ·intro b hb;rcases List.mem_append.1 hb with hb|hb
      ·obtain⟨i,hi,h⟩:=q3 b hb; exact⟨i,by simp[hi],h⟩
      ·obtain⟨i,hi,h⟩:=k5 b hb; exact⟨i,by simp[hi],h⟩
    ·cases h
   ·cases h
 | (.ptr,_)::_,_,_,_,_,_,_,_,_,hj=>by simp[Ka] at hj
 | (.cap,_)::_,_,_,_,_,_,_,_,_,hj=>by simp[Ka] at hj
 | (.clo _,_)::_,_,_,_,_,_,_,_,_,hj=>by simp[Ka] at hj
 | [],_::_,g,vals,oids,h,ha,hg,hu,hj=>by simp[zU] at h
 | (.rd,_)::_,[],g,vals,oids,h,ha,hg,hu,hj=>by simp[zU] at h
 | (.own,_)::_,[],g,vals,oids,h,ha,hg,hu,hj=>by simp[zU] at h
theorem aba {ts:List Ty} (h:sa ts=true):∃ E e,ts=[.sl E e]:=by
 unfold sa at h;split at h
 ·exact⟨_,_,rfl⟩
 ·cases h
theorem afe [Tags] {f:Nat} {cf:PF} (hS:Kx P A.gl f cf) {args:List AV} {vals:List Value} (ai4:All2 (AVOk loc) args vals) (ah4:(execOp a.eval o).run P w=(callFunc f vals.toArray).run P w)
  (hr:Rel0 B X A w0 γ loc st a w) (hk:qQ cf args o.dst st k=some r) (hn:yi B X A w0 k r o.dst.toList st next):o.wp P a w next Q:=by
 obtain⟨params,rets,rk,fn⟩:=cf;unfold qQ at hk;split at hk
 ·cases hk
 ·next g hg=>
  split at hk
  ·cases hk
  ·next oids aoL=>
   split at hk
   ·cases hk
   ·next hck=>
    simp only[aqF] at hck;obtain⟨hps,alm⟩:=hck;obtain⟨ET,e,rfl⟩:=aba alm;obtain⟨outs,ahQ,hk⟩:=Option.bind_eq_some_iff.1 hk;obtain⟨aiE,apU⟩:=Jx aoL;have ahd:=Jw aiE;obtain⟨rr,xo,k1,k2,k3,k4,k5⟩:=oY hr params _ g _ oids hg ai4 aiE apU hps;obtain⟨l1,-,-,l4,-⟩:=k1.lt;have hxr:∀ b∈xo,b∉rr:=by
     intro b hb hb';obtain⟨i,_,e1⟩:=k5 b hb;obtain⟨j,_,e2⟩:=k3 b hb';rw[e1] at e2; cases e2
    have hga:∀ b∈A.gl.gb,b<w.heap.size/\b∉xo:=by
     intro b hb;obtain⟨g1,g2⟩:=hr.globApart hb;refine⟨g1,λ hm => ?_⟩;obtain⟨i,_,e⟩:=k5 b hm;rcases g2 with g2|g2<;>rw[e] at g2<;>cases g2
    have hcall:=hS.run w g.vs _ rr xo outs k1 k4 k2 hxr hr.globAt hga ahQ;unfold Oper.wp;rw[ah4];refine hcall.upon λ v w' aiU => ?_;obtain⟨hkeep,css,xs,fs,hR,hv,hnd,hxs,hfs⟩:=aiU;simp only[ZK,ze,Yo,Ty.isPair] at hk;obtain⟨cs,css',x1,x2,f1,f2,rfl,rfl,rfl,hR1,hc',hx2,hf2⟩:=hR;subst hc' hx2 hf2;simp only[arz] at hnd hxs hfs;have hR1:RdO w' (.sl ET e) (Zk [.sl ET e] params outs).1 cs x1 f1:=hR1;have hc:∃ c,cs=[c]/\∃ a n k,c=.slice a n k:=by
     rcases hR1 with⟨_,h,_⟩|⟨b,cap,arr,T,fr,h,_⟩<;>exact⟨_,h,_,_,_,rfl⟩
    obtain⟨c,rfl,hsl⟩:=hc;have hv:v=c:=hv;subst hv;obtain⟨n1,n2,n3⟩:=List.nodup_append.1 hnd
    classical
    let γ2:Nat->Own:=λ b=>if b∈x1 then .top st.nxt else if b∈f1 then .deep st.nxt else if b<w.heap.size then relab oids .persist γ b else .persist
    let loc2:Nat->Value:=λ i=>if i=st.nxt then v else loc i
    have hnx:∀ b,b<w.heap.size->(∀ i∈oids,γ b ≠ .top i)->b∉x1/\b∉xo:=by
     intro b hb h;have h1:b∉xo:=λ hm=>by obtain⟨i,hi,e⟩:=k5 b hm; exact h i hi e
     exact⟨λ hm=>(hxs b hm).elim (λ h=>by omega) h1,h1⟩
    have hnf:∀ b,(∀ i∈oids,γ b ≠ .deep i)->b∉f1:=λ b h hm=>by obtain⟨i,hi,e⟩:=k3 b (hfs b hm); exact h i hi e
    have hB:=hr.Ble;have hoX:∀ b,b<B->b∉X->b∉x1/\b∉xo:=by
     intro b hb hx;refine hnx b (by omega) ?_;intro i _ e;rcases hr.old b hb hx with h|⟨h,_⟩<;>rw[h] at e<;>cases e
    have hfX:∀ b,b<B->b∉X->b∉f1:=by
     intro b hb hx;refine hnf b ?_;intro i _ e;rcases hr.old b hb hx with h|⟨h,_⟩<;>rw[h] at e<;>cases e
    have hR2:Rel0 B X A w0 γ2 loc2 { st with tab:=(st.nxt,.arr (.own true) st.lvl ET e (Zk [.sl ET e] params outs).1)::ZB st.tab oids,nxt:=st.nxt+1 } a w':=by
     refine hr.updW (M:=λ i=>i∈oids) rfl (by simp) ⟨hkeep.os,hkeep.tape,hkeep.output,hkeep.size,λ b hb hx=>hkeep.block b (by omega) (hoX b hb hx).2,hkeep.free,hkeep.shape⟩ ?_ ?_ (λ i hi=>by simp[loc2,show i≠st.nxt by omega]) ⟨?_,?_,?_⟩
      (λ i hi=>by obtain⟨u,lvl,E',e,xs,h',_⟩:=ahd i hi; exact⟨_,h'⟩) ?_
     ·intro b hb;by_cases h1:b∈x1
      ·exact hR1.unfr b h1
      ·by_cases h2:b∈f1
       ·obtain⟨i,_,e⟩:=k3 b (hfs b h2);exact hkeep.free b (l1 b (hfs b h2)) (hr.unf b (by rw[e]; trivial))
       ·by_cases h3:b<w.heap.size
        ·simp only[γ2,h1,h2,h3,if_true,if_false] at hb;exact hkeep.free b h3 (hr.unf b (NW hb))
        ·simp[γ2,h1,h2,h3,owned] at hb
     ·intro b hb hx;have e:γ2 b=relab oids .persist γ b:=by simp[γ2,(hoX b hb hx).1,hfX b hb hx,show b<w.heap.size by omega]
      rw[e];exact NV hr.old b hb hx
     ·intro b hb hp;obtain⟨h1,h2⟩:=hnx b hb (by simp[hp]);refine⟨?_,hkeep.block b hb h2⟩;simp only[γ2,h1,hnf b (by simp[hp]),hb,if_true,if_false];exact Yv hp
     ·intro b i hb hp hi;obtain⟨h1,h2⟩:=hnx b hb (by rw[hp]; intro i' hi' e; cases e; exact hi hi')
      refine⟨?_,hkeep.block b hb h2⟩;simp only[γ2,h1,hnf b (by simp[hp]),hb,if_true,if_false];rw[KO hp,if_neg hi]
     ·intro b i hb hp;obtain⟨h1,h2⟩:=hnx b hb (by simp[hp]);refine⟨hkeep.block b hb h2,λ hi => ?_,λ hi => ?_⟩
      ·simp only[γ2,h1,hnf b (by rw[hp]; intro i' hi' e; cases e; exact hi hi'),hb,if_true,if_false]
       rw[Jc hp,if_neg hi]
      ·by_cases h3:b∈f1
       ·exact .inr ⟨st.nxt,by simp[γ2,h1,h3]⟩
       ·left;simp only[γ2,h1,h3,hb,if_true,if_false];rw[Jc hp,if_pos hi]
     ·intro i e' he;simp only[jf] at he;split at he
      ·next hid=>
       cases he;subst hid;refine .inr ⟨⟨⟨x1,f1,by simpa[loc2] using hR1,λ b hb=>by simp[γ2,hb],n2,λ b hb => ?_⟩,trivial,by simp⟩,.inl (Nat.le_refl _)⟩;have:b∉x1:=λ h=>n3 b h b hb rfl;simp[γ2,this,hb]
      ·rw[JG] at he;split at he
       ·cases he
       ·next hi=>exact .inl ⟨he,hi⟩
    have ai7:Pres [] st { st with tab:=(st.nxt,.arr (.own true) st.lvl ET e (Zk [.sl ET e] params outs).1)::ZB st.tab oids,nxt:=st.nxt+1 }:=by
     refine⟨rfl,by simp,?_,λ _ _=>rfl,rfl⟩;intro id e' he hp;have hlt:=(hr.elt id e' he).2;simp only[jf];rw[if_neg (by omega),JG,if_neg (λ hm=>QH (ahd id hm) _ he hp)];exact he
    exact hn _ hk (ai7.putAfter o.dst _) _ _ ⟨γ2,loc2,hR2.put o.dst (x:=.v (.one (.sl st.nxt))) ⟨by simp[loc2],hsl⟩ (show st.nxt<st.nxt+1 by omega)⟩
theorem abB {l m:List Value} (hl:l.length=m.length) (h:YP l=YP m):l=m:=by
 match l,m,hl,h with
 | [],[],_,_=>rfl
 | [x],[y],_,h=>exact congrArg (λ v=>[v]) h
 | x::y::l,u::v::m,_,h=>
  have h:Value.tuple (x::y::l).toArray=Value.tuple (u::v::m).toArray:=h;simpa using h
theorem Fc {k:Kind} {lvl:Nat}:∀ {ts:List Ty} {v:dens ts} {j:Nat} {xs:List V1} {es:List (Nat×Ent)} {j':Nat},ZK k lvl ts v j=some (xs,es,j')->xs.length=ts.length
 | [],v,j,xs,es,j',h=>by simp only[ZK,aqK,aqO] at h; rw[←h.1]; rfl
 | t::ts,v,j,xs,es,j',h=>by
  unfold ZK at h;simp only at h;split at h
  ·next x ys es' j'' h1 h2=>
   cases h;have:=Fc h2;simp[this]
  ·cases h
theorem GU {b:Bool}:∀ {xs:List V1} {vs:List Value},All2 (V1Ok loc) xs (vs++[.bool b])->All2 (V1Ok loc) (aj b xs) (vs++[.bool b])
 | [],[],h=>h
 | [],_::_,h=>h
 | [x],[],h=>⟨rfl,trivial⟩
 | [x],[v],h=>h.2.elim
 | [x],v::u::vs,h=>h.2.elim
 | x::y::xs,[],h=>h.2.elim
 | x::y::xs,v::vs,h=>⟨h.1,GU (xs:=y::xs) h.2⟩
theorem GT {b:Bool} {n:Nat}:∀ {xs:List V1},(∀ x∈xs,x.lt n)->∀ x∈aj b xs,x.lt n
 | [],h=>h
 | [x],h=>by intro y hy; simp only[aj,as9] at hy; subst hy; trivial
 | x::y::xs,h=>by
  intro z hz;simp only[aj,aqW] at hz;rcases hz with rfl|hz
  ·exact h z (by simp)
  ·exact GT (xs:=y::xs) (λ u hu=>h u (by simp[hu])) z hz
theorem wH:∀ {cs:List Value} {n:Nat},cs.length=n->(∀ c∈cs,c.oneCell'=true)->All2 (LeafOk loc) (List.replicate n .any) cs
 | [],n,h,_=>by simp at h; subst h; trivial
 | c::cs,n,h,h1=>by
  obtain⟨m,rfl⟩:∃ m,n=m+1:=⟨cs.length,by simp at h; omega⟩
  exact⟨h1 c (by simp),wH (by simpa using h) λ x hx=>h1 x (by simp[hx])⟩
theorem wO [Tags] {t:Ty} {cs:List Value} (hl:cs.length=t.size) (h1:∀ c∈cs,c.oneCell'=true):V1Ok loc (qA t) (yD t cs):=by
 unfold qA yD;cases hp:t.isPair with
 | true=>
  simp only[if_true];exact⟨cs,rfl,wH hl h1⟩
 | false=>
  simp only[ar3,if_false];have hs:t.size=1:=by cases t<;>simp_all [Ty.isPair,Ty.size]
  rw[hs] at hl
  match cs,hl with
  | [c],_=>exact h1 c (by simp)
theorem wN {t:Ty} {n:Nat}:(qA t).lt n:=by
 unfold qA;split
 ·intro l hl;rw[List.eq_of_mem_replicate hl];trivial
 ·trivial
theorem wM [Tags] {b:Bool}:∀ {ts:List Ty} {css:List (List Value)},qz b ts css->All2 (V1Ok loc) (M5 b ts) (ZP ts css)
 | [],css,h=>by cases css<;>exact h.elim
 | [t],[],h=>h.elim
 | [t],[cs],h=>⟨h,trivial⟩
 | [t],_::_::_,h=>h.elim
 | t::u::ts,[],h=>h.elim
 | t::u::ts,cs::css,h=>⟨wO h.1 h.2.1,wM (ts:=u::ts) h.2.2⟩
theorem wL [Tags] {b:Bool} {n:Nat}:∀ {ts:List Ty},∀ x∈M5 b ts,x.lt n
 | [],x,h=>by simp[M5] at h
 | [t],x,h=>by simp only[M5,as9] at h; subst h; trivial
 | t::u::ts,x,h=>by
  simp only[M5,aqW] at h;rcases h with rfl|h
  ·exact wN
  ·exact wL (ts:=u::ts) x h
theorem mQ {b:Bool}:∀ {ts:List Ty} {css:List (List Value)},qz b ts css->∃ vs,ZP ts css=vs++[.bool b]/\vs.length+1=ts.length
 | [],css,h=>by cases css<;>exact h.elim
 | [t],[],h=>h.elim
 | [t],[cs],h=>⟨[],by simp only[ZP,ar6,h.symm],rfl⟩
 | [t],_::_::_,h=>h.elim
 | t::u::ts,[],h=>h.elim
 | t::u::ts,cs::css,h=>by
  obtain⟨vs,e1,e2⟩:=mQ (ts:=u::ts) h.2.2;exact⟨yD t cs::vs,by simp only[ZP,e1,arE],by simp at e2 ⊢; omega⟩
theorem af1 [Tags] {f:Nat} {cf:PF} (hS:K4 P A.gl f cf) {args:List AV} {vals:List Value} (ai4:All2 (AVOk loc) args vals) (ah4:(execOp a.eval o).run P w=(callFunc f vals.toArray).run P w)
  (hr:Rel0 B X A w0 γ loc st a w) (hk:qO cf args o.dst st k=some r) (hn:yi B X A w0 k r o.dst.toList st next):o.wp P a w next Q:=by
 unfold qO at hk;split at hk
 ·cases hk
 ·next g hg=>
  split at hk
  ·cases hk
  ·next oids aiE=>
   split at hk
   ·cases hk
   ·next aj7=>
    rw[aqF] at aj7;obtain⟨outs,ahQ,hk⟩:=Option.bind_eq_some_iff.1 hk;obtain⟨rr,rp,rc,xo,xp,k1,k2,k3,k4,k5⟩:=wX hr hg ai4 aiE aj7.1;have hcall:=hS.run w g.vs _ rr rp rc xo xp outs k1 k2 k3 hr.globAt k4 ahQ;unfold Oper.wp;rw[ah4];refine hcall.upon λ v w' aiU => ?_;obtain⟨hkeep,css,b,rfl,akQ,aiO,apS⟩:=aiU;rw[aiO] at hk;cases b with
    | false=>
     simp only[aqD] at hk;have hR:=hr.still hkeep;exact hn _ hk ((Pres.refl [] st).putAfter o.dst _) _ _ ⟨_,loc,hR.put o.dst (un (wM akQ)) (um wL)⟩
    | true=>
     simp only[aqE] at hk;split at hk
     ·cases hk
     ·next tab j rs aia=>
      split at hk
      ·cases hk
      ·next xs es j' ahO=>
       obtain⟨γ2,loc2,hR2,ai7,vs',hv,b2,b3⟩:=k5 aia ahO ⟨hkeep.os,hkeep.tape,hkeep.output,hkeep.size,λ b hb _=>hkeep.block b hb (by simp),hkeep.free,hkeep.shape⟩ (apS rfl);obtain⟨vs,hvs,hlen⟩:=mQ akQ;rw[hvs] at hv ⊢;have e1:=b2.len;have e2:=Fc ahO;have e3:vs++[Value.bool true]=vs':=abB (by simp; omega) hv
       subst e3;exact hn _ hk (ai7.putAfter o.dst _) _ _ ⟨γ2,loc2,hR2.put o.dst (un (GU b2)) (um (GT b3))⟩
theorem Id [Tags] {f:Nat} {pf:PF} (hS:Sound P A.gl f pf) {args:List AV} {vals:List Value} (ai4:All2 (AVOk loc) args vals) (ah4:(execOp a.eval o).run P w=(callFunc f vals.toArray).run P w)
  (hr:Rel0 B X A w0 γ loc st a w) (hk:Nb pf args o.dst st k=some r) (hn:yi B X A w0 k r o.dst.toList st next):o.wp P a w next Q:=by
 unfold Nb at hk;split at hk
 ·cases hk
 ·next g hg=>
  split at hk
  ·cases hk
  ·next oids aiE=>
   split at hk
   ·cases hk
   ·next aj7=>
    obtain⟨outs,ahQ,hk⟩:=Option.bind_eq_some_iff.1 hk;split at hk
    ·cases hk
    ·next tab j rs aia=>
     split at hk
     ·cases hk
     ·next xs es j' ahO=>
      obtain⟨rr,rp,rc,xo,xp,k1,k2,k3,k4,k5⟩:=wX hr hg ai4 aiE aj7;have hcall:=hS.run w g.vs _ rr rp rc xo xp outs k1 k2 k3 hr.globAt k4 ahQ;unfold Oper.wp;rw[ah4];refine hcall.upon λ v w' aiU => ?_;obtain⟨γ2,loc2,hR2,ai7,vs,rfl,b2,b3⟩:=k5 aia ahO aiU.1 aiU.2;exact hn _ hk (ai7.putAfter o.dst _) _ _ ⟨γ2,loc2,hR2.put o.dst (un b2) (um b3)⟩
theorem Rd.cell1 [Tags] {w:World}:∀ {t:Ty} {v:den t} {cs:List Value} {fp:List Nat},Rd w t v cs fp->∀ c∈cs,c.oneCell'=true
 | .i64,_,_,_,h=>by obtain⟨rfl,_⟩:=h; simp[Value.oneCell']
 | .u8,_,_,_,h=>by obtain⟨rfl,_⟩:=h; simp[Value.oneCell']
 | .bool,_,_,_,h=>by obtain⟨rfl,_⟩:=h; simp[Value.oneCell']
 | .str,_,_,_,h=>by obtain⟨rfl,_⟩:=h; simp[Value.oneCell']
 | .sl _ _,_,_,_,h=>by
  obtain⟨a,n,k,rfl,_⟩:=h;intro c hc;simp only[as9] at hc;subst hc;rfl
 | .pair _ _,_,_,_,h=>by
  obtain⟨c1,c2,f1,f2,rfl,_,h1,h2⟩:=h;intro c hc;rcases List.mem_append.1 hc with hc|hc
  ·exact Rd.cell1 h1 c hc
  ·exact Rd.cell1 h2 c hc
theorem UI [Tags] {w:World} {rk:RK} {ts:List Ty} {v:dens ts} {css:List (List Value)} {xs fs:List Nat} {x:AV} (h:oR ts v=some x) (hR:RetL w rk ts v css xs fs):AVOk loc x (YP (ZP ts css))/\∀ n,x.lt n:=by
 unfold oR at h;split at h
 ·next t v=>
  cases h;obtain⟨cs,css',x1,x2,f1,f2,rfl,rfl,rfl,h1,cs2,css2,y1,y2,g1,g2,rfl,rfl,rfl,h2,rfl,rfl,rfl⟩:=hR;have e1:∃ fp,Rd w t v.1 cs fp:=by
   cases rk with
   | shared=>exact⟨_,h1.2⟩
   | own=>obtain⟨fp,h,_⟩:=RdO.rd h1; exact⟨fp,h⟩
   | uniq=>obtain⟨fp,h,_⟩:=RdO.rd h1; exact⟨fp,h⟩
  have e2:∃ fp,Rd w .i64 v.2.1 cs2 fp:=by
   cases rk with
   | shared=>exact⟨_,h2.2⟩
   | own=>obtain⟨fp,h,_⟩:=RdO.rd h2; exact⟨fp,h⟩
   | uniq=>obtain⟨fp,h,_⟩:=RdO.rd h2; exact⟨fp,h⟩
  obtain⟨fp1,e1⟩:=e1;obtain⟨fp2,rfl,_,hb⟩:=e2;refine⟨⟨_,rfl,wO e1.len e1.cell1,⟨rfl,hb⟩,trivial⟩,λ n => ?_⟩;intro y hy;simp only[aqW,aro,or_false] at hy;rcases hy with rfl|rfl
  ·exact wN
  ·trivial
 ·cases h
theorem OutOk.rd_rets [Tags] {w1 w:World} {n:Nat} {rk:RK} {rr xo pt:List Nat} {rets:List Ty} {v:Value}:∀ {ps:List (PK×Ty)} {outs:zW ps rets} {xp:List Nat},OutOk w1 w n rk rr xo pt rets v ps outs xp->(ps.all λ p=>p.1.isRd)=true->K3 w n rk rr xo pt rets v (Zk rets ps outs)
 | [],_,_,h,_=>h.2
 | (.rd,t)::ps,outs,xp,h,hp=>by
  simp only[ard,aqF] at hp;exact OutOk.rd_rets (ps:=ps) h hp.2
 | (.own,t)::ps,_,_,_,hp=>by simp[PK.isRd] at hp
 | (.ptr,t)::ps,_,_,_,hp=>by simp[PK.isRd] at hp
 | (.cap,t)::ps,_,_,_,hp=>by simp[PK.isRd] at hp
 | (.clo f,t)::ps,_,_,_,hp=>by simp[PK.isRd] at hp
theorem aeU [Tags] {f:Nat} {qf:PF} (hS:Sound P A.gl f qf) {oth:Option R} {args:List AV} {vals:List Value} (ai4:All2 (AVOk loc) args vals) (ah4:(execOp a.eval o).run P w=(callFunc f vals.toArray).run P w)
  (hr:Rel0 B X A w0 γ loc st a w) (hk:fL qf args o.dst st k oth=some r) (anv:oth=some r->o.wp P a w next Q) (hn:yi B X A w0 k r o.dst.toList st next):o.wp P a w next Q:=by
 unfold fL at hk;split at hk
 ·cases hk
 ·next g hg=>
  split at hk
  ·cases hk
  ·next hrd=>
   cases ahQ:qf.fn g.vs with
   | none=>
    rw[ahQ] at hk;exact anv hk
   | some outs=>
    rw[ahQ] at hk;simp only[Me,aqC] at hk;cases hgo:oS qf.rets (Zk qf.rets qf.params outs) with
    | false=>rw[hgo] at hk; exact anv hk
    | true=>
    rw[hgo] at hk;simp only[aqE] at hk;split at hk
    ·cases hk
    ·next x hx=>
     obtain⟨e1,e2,e3,e4⟩:=oV hg hrd;obtain⟨rr,rp,rc,xo,xp,k1,k2,k3,k4,k5,k6,k7,k8,k9⟩:=L2 hr qf.params _ g _ [] hg ai4 (by rw[e1]; rfl) (by rw[e2]; rfl)
     obtain⟨rfl,rfl,rfl,rfl⟩:=oW k1 hrd;have hcall:=hS.run w g.vs _ rr [] [] [] [] outs k1 (by simp) (by simp) hr.globAt (λ b hb=>⟨(hr.globApart hb).1,by simp⟩) ahQ;unfold Oper.wp;rw[ah4];refine hcall.upon λ v w' aiU => ?_;obtain⟨hkeep,pt,hout⟩:=aiU;obtain⟨css,xs,fs,q1,rfl,_,_⟩:=hout.rd_rets hrd;obtain⟨x1,x2⟩:=UI (loc:=loc) hx q1;have hR:=hr.still (by simpa using hkeep);exact hn _ hk ((Pres.refl [] st).putAfter o.dst _) _ _ ⟨_,loc,hR.put o.dst x1 (x2 _)⟩
theorem af0 [Tags] (hL:∀ f qf,lk E.alts f=some qf->Sound P A.gl f qf) (hJ:∀ f cf,lk E.joins f=some cf->Kx P A.gl f cf) (hC:∀ f cf,lk E.conds f=some cf->K4 P A.gl f cf) (hN:∀ f nf,lk E.news f=some nf->LZ P A.gl f nf) (hS:∀ f pf,lk E.fns f=some pf->Sound P A.gl f pf) {c:Call} (hc:o.op=.call c) {fo:Operand} (hf:c.callee=.value fo) {f:Nat} {caps:List Nat} (hfo:zC st fo=some (.fn f caps))
  {as:List AV} (has:opnds st c.args.toList=some as) (hr:Rel0 B X A w0 γ loc st a w) (hk:qN E f (as++caps.map λ id=>.v (.one (.ptr id 0))) o.dst st k=some r)
  (hn:yi B X A w0 k r o.dst.toList st next):o.wp P a w next Q:=by
 obtain⟨⟨hv,ak7⟩,hcl⟩:=y0 hr hfo;have ai4:All2 (AVOk loc) (as++caps.map λ id=>.v (.one (.ptr id 0))) (c.args.toList.map a.eval++caps.map loc):=by
  refine (B3 hr has).append ?_;clear hv hk hfo hcl;induction caps with
  | nil=>trivial
  | cons i is ih=>
   obtain⟨b,hb⟩:=ak7 i (by simp);exact⟨⟨b,hb,hb⟩,ih (λ c hc=>ak7 c (by simp[hc]))⟩
 unfold qN at hk;split at hk
 ·split at hk
  ·split at hk
   ·split at hk
    ·cases hk
    ·next cf hcf=>exact afe (hJ f cf hcf) ai4 (by rw[mb (first:=[]) hc hf (by simpa using hv)]; simp) hr hk hn
   ·next cf hcf=>exact af1 (hC f cf hcf) ai4 (by rw[mb (first:=[]) hc hf (by simpa using hv)]; simp) hr hk hn
  ·next nf hnf=>exact afo (hN f nf hnf) ai4 (by rw[mb (first:=[]) hc hf (by simpa using hv)]; simp) hr hk hn
 ·next pf hpf=>
  have ah4:(execOp a.eval o).run P w=(callFunc f (c.args.toList.map a.eval++caps.map loc).toArray).run P w:=by rw[mb (first:=[]) hc hf (by simpa using hv)]; simp
  split at hk
  ·exact Id (hS f pf hpf) ai4 ah4 hr hk hn
  ·next qf hqf=>exact aeU (hL f qf hqf) ai4 ah4 hr hk (λ h=>Id (hS f pf hpf) ai4 ah4 hr h hn) hn
structure Zx [Tags] (P:Program) (gl:Glob) (E:Env):Prop where
 mixed:P.follows .mixedOrders=true
 tys:yA P E.tys=true
 eqs:E.eqs.all (Na P E.tys)=true
 fns:∀ f pf,lk E.fns f=some pf->Sound P gl f pf
 news:∀ f nf,lk E.news f=some nf->LZ P gl f nf
 muts:∀ f mf,lk E.muts f=some mf->fl P gl f mf
 conds:∀ f cf,lk E.conds f=some cf->K4 P gl f cf
 joins:∀ f cf,lk E.joins f=some cf->Kx P gl f cf
 alts:∀ f qf,lk E.alts f=some qf->Sound P gl f qf
theorem TOk.pair_arr {tys:List (Nat×TD)} {t:Nat} {d:TD} (h:TOk P tys t d) (hp:d.ty.isPair=true):d.arr=none:=by
 obtain⟨u,hu,hc⟩:=h.und;unfold KX at hc;split at hc
 ·simp only[aqF,aqP] at hc; rw[hc.1] at hp; cases hp
 ·simp only[aqF,aqP] at hc; rw[hc.1] at hp; cases hp
 ·simp only[aqF,aqP] at hc; rw[hc.1] at hp; cases hp
 ·simp only[aqF,aqP] at hc; rw[hc.1] at hp; cases hp
 ·simp only[aqF,arL] at hc; exact hc.1
 ·split at hc
  ·next heq=>rw[heq] at hp; cases hp
  ·simp at hc
 ·simp only[aqF,arL] at hc; exact hc.1.1
 ·cases hc
theorem afp [Tags] (hE:Zx P A.gl E) (ahB:Rel B X A w0 st a w) (hk:yk E o st k=some r) (hn:yi B X A w0 k r o.dst.toList st next):o.wp P a w next Q:=by
 obtain⟨γ,loc,hr⟩:=ahB;obtain⟨_,hT,hQ,hS,hN,_,hC,hJ,hL⟩:=hE;unfold yk at hk;split at hk
 ·next x ho=>
  split at hk
  ·next v hv=>exact Ih (.inl ho) hv hr hk hn
  ·cases hk
 ·next x ho=>
  split at hk
  ·next v hv=>exact Ih (.inr ho) hv hr hk hn
  ·cases hk
 ·next c x y ho=>
  split at hk
  ·next z hz=>
   cases z with
   | true=>
    simp only[aqE] at hk;split at hk
    ·next v hv=>exact Ii (z:=true) ho hz hv hr hk hn
    ·cases hk
   | false=>
    simp only[aqD] at hk;split at hk
    ·next v hv=>exact Ii (z:=false) ho hz hv hr hk hn
    ·cases hk
  ·cases hk
 ·next T ho=>
  split at hk
  ·next ET e b f n hd=>
   split at hk
   ·next hn0=>exact aeT hT ho hd rfl rfl (Nat.le_of_ble_eq_true hn0) hr hk hn
   ·cases hk
  ·next d hd=>
   split at hk
   ·cases hk
   ·next ah5=>exact aeS hT ho hd ah5 hr hk hn
  ·cases hk
 ·next T x ho=>
  split at hk
  ·next d ls hd hx=>exact aeX ho hx hr hk hn
  ·cases hk
 ·next T ps ho=>
  split at hk
  ·next d hd=>
   split at hk
   ·next ls hp hf=>exact aeY hT ho hd ((yh hT hd).pair_arr hp) hp hf hr hk hn
   ·cases hk
  ·cases hk
 ·next T n ps ho=>
  split at hk
  ·next ET e b f hd=>
   split at hk
   ·next vs ls hel hc=>
    simp only[aqF] at hc;split at hk
    ·next u tab ht=>exact aeZ hT ho hd rfl rfl hel ((zV _ _).1 hc.1) (Nat.le_of_ble_eq_true hc.2) ht hr hk hn
    ·cases hk
   ·cases hk
  ·cases hk
 ·next T x ho=>
  split at hk
  ·next d p hd hp=>
   split at hk
   ·next ah5=>exact afh hT ho hd ah5 hp hr hk hn
   ·cases hk
  ·cases hk
 ·next T x y ho=>
  split at hk
  ·next d p ls hd hp hl=>
   split at hk
   ·next st' ah5 hs=>exact afv hT ho hd ah5 hp hl hr hs hk hn
   ·cases hk
  ·cases hk
 ·next x ho=>
  split at hk
  ·next id off hx=>exact vx ho hx (λ v hv=>by obtain⟨b,_,h⟩:=hv; exact⟨_,h⟩) hr hk hn
  ·next id ix esz off hx=>exact vx ho hx (λ v hv=>by obtain⟨b,ob,n,c,_,_,h⟩:=hv; exact⟨_,h⟩) hr hk hn
  ·next id hx=>exact vx ho hx (λ v hv=>by obtain⟨b,n,c,_,h⟩:=hv; exact⟨_,h⟩) hr hk hn
  ·cases hk
 ·next op T x y yT ho=>
  split at hk
  ·next n hn0=>
   split at hk
   ·next m hx=>exact afs ho hn0 hx hr hk hn
   ·cases hk
  ·split at hk
   ·next u v hx hy=>
    split at hk
    ·next hq=>exact aeW hT hQ ho hx hy hq hr hk hn
    ·cases hk
   ·cases hk
 ·next op T x ho=>
  split at hk
  ·next z hx=>exact Ik ho hx hr (.inl ⟨rfl,z,rfl,rfl⟩) hk hn
  ·next n hx=>exact Ik ho hx hr (.inr ⟨rfl,n,rfl,rfl⟩) hk hn
  ·cases hk
 ·next S D x ho=>
  split at hk
  ·next ds dd l hs hd hx=>
   split at hk
   ·next has had=>exact af2 hT ho hs hd has had hx hr hk hn
   ·cases hk
  ·cases hk
 ·next fn first caps ho=>
  split at hk
  ·next f id alV ak7=>
   have hc1:∃ y,caps.toList=[y]/\opnd st y=some (.v (.one (.ptr id 0))):=by
    match hl:caps.toList,ak7 with
    | [],h=>simp[opnds,hl] at h
    | [y],h=>
     simp only[opnds] at h;split at h
     ·next u us h1 h2=>simp only[aqK,ara] at h; exact⟨y,rfl,by rw[h1,h.1]⟩
     ·cases h
    | y::z::l,h=>
     simp only[opnds] at h;split at h
     ·next u us h1 h2=>
      split at h2
      ·simp only[aqK] at h2;subst h2;simp at h
      ·cases h2
     ·cases h
   obtain⟨y,hy1,hy2⟩:=hc1;exact afj ho alV hy1 hy2 hr hk hn
  ·cases hk
 ·next T x y ho=>
  split at hk
  ·next ET e b f n m hd hx hy=>
   split at hk
   ·next hnm=>
    subst hnm;split at hk
    ·next hc=>exact afk hT ho hd rfl rfl hx hy hc.1 hc.2 hr hk hn
    ·cases hk
   ·cases hk
  ·cases hk
 ·next T x lo hi ho=>
  split at hk
  ·next d l la lb hd hx hlo hhi=>
   split at hk
   ·next ah5=>exact aft hT ho hd ah5 hx hlo hhi hr hk hn
   ·cases hk
  ·cases hk
 ·next T x f ho=>
  split at hk
  ·next d id off hd hx=>
   split at hk
   ·next fo ft hf=>
    refine Ie (l':=.ptr id (off+fo)) hT ho hd hx hf ?_ (λ h=>h) hr hk hn;rintro v ⟨b,h1,h2⟩;exact⟨_,h2,b,h1,by simp[Addr.add]⟩
   ·cases hk
  ·next d id ix esz off hd hx=>
   split at hk
   ·next fo ft hf=>
    refine Ie (l':=.ep id ix esz (off+fo)) hT ho hd hx hf ?_ (λ h=>h) hr hk hn;rintro v ⟨b,ob,n,c,h1,h2,h3⟩;exact⟨_,h3,b,ob,n,c,h1,h2,by simp[Addr.add,aru]⟩
   ·cases hk
  ·cases hk
 ·next T x f ho=>
  split at hk
  ·next d ls hd hx=>
   split at hk
   ·next fo ft hf=>
    split at hk
    ·next fd hfd=>
     split at hk
     ·next xv hle hmk=>exact af6 hT ho hd hx hf hfd (Nat.le_of_ble_eq_true hle) hmk hr hk hn
     ·cases hk
    ·cases hk
   ·cases hk
  ·cases hk
 ·next T x y ho=>
  split at hk
  ·next ET e b f m id n hd hx hy=>
   split at hk
   ·next kd lvl EE e' xs hl=>
    split at hk
    ·next hc=>
     simp only[aqP] at hc;subst hc;split at hk
     ·next hm=>
      split at hk
      ·next hb=>exact af9 hT ho hd rfl rfl hx hy hl hm.symm (by rw[hm]; exact hb) hr hk hn
      ·cases hk
     ·cases hk
    ·cases hk
   ·cases hk
  ·next ET e b f id n hd hx hy=>
   split at hk
   ·next kd lvl EE e' xs hl=>
    split at hk
    ·next hc=>
     simp only[aqP] at hc;subst hc;split at hk
     ·next hb=>exact afa hT ho hd rfl rfl hx hy hl hb hr hk hn
     ·cases hk
    ·cases hk
   ·cases hk
  ·cases hk
 ·next T x y ho=>
  split at hk
  ·next b f l n hd hx hy=>
   split at hk
   ·next hb=>exact afb hT ho hd rfl rfl hx hy hb hr hk hn
   ·cases hk
  ·cases hk
 ·next t i ho=>
  split at hk
  ·next xs hx=>
   split at hk
   ·next x hi=>exact af5 ho hx hi hr hk hn
   ·cases hk
  ·cases hk
 ·next c ho=>
  split at hk
  ·next fo hf=>
   split at hk
   ·next f caps as h1 h2=>exact af0 hL hJ hC hN hS ho hf h1 h2 hr hk hn
   ·cases hk
  ·next hb=>
   split at hk
   ·next x T hargs hty=>
    split at hk
    ·next l hx=>
     split at hk
     ·next n hlt hlen=>exact afg hT ho hb hargs hty hx hlt hlen hr hk hn
     ·cases hk
    ·cases hk
   ·cases hk
  ·next hb=>
   split at hk
   ·next s x T T2 hargs aiJ=>
    split at hk
    ·next ls lx hs hx hT2=>exact aeV hT hT2 ho hb hargs aiJ hs hx hr hk hn
    ·cases hk
   ·cases hk
  ·next hb=>
   split at hk
   ·next x y hargs=>
    split at hk
    ·next m n hx hy=>exact afl ho hb hargs hx hy hr hk hn
    ·cases hk
   ·next x y z hargs=>
    split at hk
    ·next m n l hx hy hz=>exact afm ho hb hargs hx hy hz hr hk hn
    ·cases hk
   ·cases hk
  ·next hb=>
   split at hk
   ·next x y hargs=>
    split at hk
    ·next m n hx hy=>exact afn ho hb hargs hx hy hr hk hn
    ·cases hk
   ·cases hk
  ·cases hk
 ·cases hk
def stays (id:Nat) (t:Bool) (γ:Nat->Own) (b:Nat):Own:=
 match γ b with
 | .top i=>if i=id/\t=true then .persist else .top i
 | .deep i=>if i=id then .persist else .deep i
 | x=>x
theorem vW {id:Nat} {t:Bool} {γ:Nat->Own} {b:Nat} (h:γ b=.alien∨γ b=.persist):stays id t γ b=γ b:=by
 unfold stays;rcases h with h|h<;>rw[h]
theorem agp {id:Nat} {t:Bool} {γ:Nat->Own} {b:Nat} (h:owned (stays id t γ b)):owned (γ b):=by
 unfold stays at h;split at h
 ·next i he=>rw[he]; trivial
 ·next i he=>rw[he]; trivial
 ·exact h
theorem ago [Tags] (id:Nat) (t:Bool) (γ:Nat->Own) (w:World):Moves (λ i=>i=id) γ (stays id t γ) w w where
 persist:=λ b _ h=>⟨by rw[vW (.inr h)]; exact h,rfl⟩
 top:=λ b i _ h hi=>⟨by unfold stays; rw[h]; simp only; rw[if_neg (λ hh=>hi hh.1)],rfl⟩
 deep:=λ b i _ h=>⟨rfl,λ hi=>by unfold stays; rw[h]; simp only; rw[if_neg hi],λ hi=>by unfold stays; rw[h]; simp only; rw[if_pos hi]; exact .inl rfl⟩
theorem Rel0.stays1 [Tags] (hr:Rel0 B X A w0 γ loc st a w) {id:Nat} {u:Bool} {lvl E':Nat} {e:Ty} {xs:List (den e)} (hl:look st.tab id=some (.arr (.own u) lvl E' e xs)) (t:Bool) (k:Kind)
  (hk:EntOk (stays id t γ) loc w id (.arr k lvl E' e xs)):Rel0 B X A w0 (stays id t γ) loc { st with tab:=yE st.tab id (.arr k lvl E' e xs)} a w:=by
 refine hr.updW (M:=λ i=>i=id) rfl (Nat.le_refl _) (KeepsW.refl B X w) (λ b hb=>hr.unf b (agp hb)) ?_ (λ _ _=>rfl) (ago id t γ w) (λ i (hi:i=id)=>by rw[hi]; exact⟨_,hl⟩) ?_
 ·intro b hb hx;have:=hr.old b hb hx;rw[vW (this.imp (λ h=>h) And.left)]; exact this
 ·intro i e' he;simp only[ZZ] at he;split at he
  ·next h=>
   subst h;rw[hl] at he;simp only[art,aqK] at he;subst he;exact .inr ⟨⟨hk,(hr.elt i _ hl).1,(hr.elt i _ hl).2⟩,.inr ⟨_,hl⟩⟩
  ·next h=>exact .inl ⟨he,h⟩
theorem Rel0.frz1 [Tags] (hr:Rel0 B X A w0 γ loc st a w) {id:Nat} {u:Bool} {lvl E':Nat} {e:Ty} {xs:List (den e)} (hl:look st.tab id=some (.arr (.own u) lvl E' e xs)):
  Rel0 B X A w0 (stays id true γ) loc { st with tab:=yE st.tab id (.arr (.imm false) lvl E' e xs)} a w:=by
 refine hr.stays1 hl true (.imm false) ?_;obtain⟨xs',fs,h1,h2,h3⟩:=hr.ents id _ hl;obtain⟨fp,g1,g2⟩:=h1.rd;refine⟨fp,g1,λ b hb=>.inl ?_⟩;rcases g2 b hb with hb|hb
 ·unfold stays; rw[h2 b hb]; simp
 ·cases u with
  | true=>unfold stays; rw[h3.2 b hb]; simp
  | false=>rw[vW (.inr (h3 b hb))]; exact h3 b hb
theorem Rel0.loose1 [Tags] (hr:Rel0 B X A w0 γ loc st a w) {id:Nat} {lvl E':Nat} {e:Ty} {xs:List (den e)} (hl:look st.tab id=some (.arr (.own true) lvl E' e xs)):
  Rel0 B X A w0 (stays id false γ) loc { st with tab:=yE st.tab id (.arr (.own false) lvl E' e xs)} a w:=by
 refine hr.stays1 hl false (.own false) ?_;obtain⟨xs',fs,h1,h2,h3⟩:=hr.ents id _ hl;refine⟨xs',fs,h1,λ b hb => ?_,λ b hb => ?_⟩
 ·unfold stays; rw[h2 b hb]; simp
 ·unfold stays; rw[h3.2 b hb]; simp
theorem Rel.frz [Tags]:∀ (l:List Nat) (tab:List (Nat×Ent)),Rel B X A w0 { st with tab:=tab } a w->Rel B X A w0 { st with tab:=YF l tab } a w
 | [],tab,h=>h
 | id::r,tab,h=>by
  simp only[YF];split
  ·next u lvl E' e xs hl=>
   obtain⟨γ,loc,hr⟩:=h;exact Rel.frz r _ ⟨_,_,hr.frz1 (st:={ st with tab:=tab }) hl⟩
  ·exact Rel.frz r tab h
theorem Rel.loose [Tags]:∀ (l:List Nat) (tab:List (Nat×Ent)),Rel B X A w0 { st with tab:=tab } a w->Rel B X A w0 { st with tab:=NE l tab } a w
 | [],tab,h=>h
 | id::r,tab,h=>by
  simp only[NE];split
  ·next lvl E' e xs hl=>
   obtain⟨γ,loc,hr⟩:=h;exact Rel.loose r _ ⟨_,_,hr.loose1 (st:={ st with tab:=tab }) hl⟩
  ·exact Rel.loose r tab h
theorem fV:∀ (l:List Nat) (tab:List (Nat×Ent)) (id:Nat) (e:Ent),id∉l->look tab id=some e->look (YF l tab) id=some e
 | [],tab,id,e,_,h=>h
 | i::r,tab,id,e,hi,h=>by
  simp only[aqW,not_or] at hi;simp only[YF];split
  ·exact fV r _ id e hi.2 (by rw[ZZ,if_neg hi.1]; exact h)
  ·exact fV r tab id e hi.2 h
theorem kN:∀ (l:List Nat) (tab:List (Nat×Ent)) (id:Nat) (e:Ent),id∉l->look tab id=some e->look (NE l tab) id=some e
 | [],tab,id,e,_,h=>h
 | i::r,tab,id,e,hi,h=>by
  simp only[aqW,not_or] at hi;simp only[NE];split
  ·exact kN r _ id e hi.2 (by rw[ZZ,if_neg hi.1]; exact h)
  ·exact kN r tab id e hi.2 h
theorem kv {id:Nat} {e:Ent} (h:Ym st id=true) (he:look st.tab id=some e):¬ e.prot st.lvl:=by
 unfold Ym at h;rw[he] at h;split at h
 ·next hh=>cases hh; exact λ hp=>hp ((zV _ _).1 h)
 ·cases h
theorem agC {E:Env} {o:Oper}:(∀ i∈(qo E st o).1,Ym st i=true)/\∀ i∈(qo E st o).2,Ym st i=true:=by
 unfold qo;repeat' split
 all_goals simp
theorem abq [Tags] {E:Env} {o:Oper}:Pres [] st (KM st (qo E st o)):=by
 obtain⟨h1,h2⟩:=agC (E:=E) (o:=o) (st:=st);generalize qo E st o=f at *;obtain⟨x,y⟩:=f;unfold KM;split
 ·exact Pres.refl _ _
 ·next x' y' hne he=>
  cases he;refine⟨rfl,Nat.le_refl _,?_,λ _ _=>rfl,rfl⟩;intro id e he hp;exact kN _ _ _ _ (λ hm=>kv (h2 id hm) he hp) (fV _ _ _ _ (λ hm=>kv (h1 id hm) he hp) he)
theorem EO [Tags] {f:List Nat×List Nat} (h1:∀ i∈f.1,Ym st i=true) (h2:∀ i∈f.2,Ym st i=true):Pres [] st (KM st f):=by
 obtain⟨x,y⟩:=f;unfold KM;split
 ·exact Pres.refl _ _
 ·next x' y' hne he=>
  cases he;refine⟨rfl,Nat.le_refl _,?_,λ _ _=>rfl,rfl⟩;intro id e he hp;exact kN _ _ _ _ (λ hm=>kv (h2 id hm) he hp) (fV _ _ _ _ (λ hm=>kv (h1 id hm) he hp) he)
theorem abo [Tags] {E:Env} {ops:List Oper}:Pres [] st (preDraw E ops st):=by
 unfold preDraw;split
 ·exact EO (λ i hi=>(List.mem_filter.1 hi).2) (by simp)
 ·exact Pres.refl _ _
theorem Aq:∀ (its:List Item),∀ i∈bL st its,Ym st i=true
 | [],i,h=>by simp[bL] at h
 | it::r,i,h=>by
  simp only[bL,ar0] at h;rcases h with h|h
  ·split at h
   ·exact (List.mem_filter.1 h).2
   ·simp at h
  ·exact Aq r i h
theorem abp [Tags] {its:List Item}:Pres [] st (preLoop its st):=EO (Aq its) (by simp)
theorem Rel.pre [Tags] {f:List Nat×List Nat} (h:Rel B X A w0 st a w):Rel B X A w0 (KM st f) a w:=by
 unfold KM;split
 ·exact h
 ·exact Rel.loose (st:=st) _ _ (Rel.frz (st:=st) _ _ h)
theorem Rel.preDraw [Tags] {E:Env} {ops:List Oper} (h:Rel B X A w0 st a w):Rel B X A w0 (preDraw E ops st) a w:=by
 unfold Ev.preDraw;split
 ·exact h.pre
 ·exact h
theorem Rel.preLoop [Tags] {its:List Item} (h:Rel B X A w0 st a w):Rel B X A w0 (preLoop its st) a w:=h.pre
theorem dO [Tags] (hE:Zx P A.gl E) (ahB:Rel B X A w0 st a w) (hk:Kz E o st k=some r) (hn:yi B X A w0 k r o.dst.toList st next):o.wp P a w next Q:=
 afp hE ahB.pre hk λ st' h1 h2=>hn st' h1 (by simpa using Pres.trans (abq (E:=E) (o:=o)) h2)
theorem Kl {ls:List Leaf} (h:ZL [] ls=true):ls=[]:=by
 cases ls with
 | nil=>rfl
 | cons x r=>cases x<;>simp[ZL] at h
theorem JR {x:Leaf} {r ls:List Leaf} (h:ZL (x::r) ls=true):∃ y s,ls=y::s/\(x=y∨(x.isSl=false/\y.isSl=false))/\ZL r s=true:=by
 cases ls with
 | nil=>cases x<;>simp[ZL] at h
 | cons y s=>
  refine⟨y,s,rfl,?_⟩;unfold ZL at h;split at h
  ·next h1 _=>cases h1
  ·next i r' j s' h1 h2=>
   cases h1; cases h2
   simp only[aqF] at h;have:=(zV _ _).1 h.1;subst this;exact⟨.inl rfl,h.2⟩
  ·next r' s' h1 h2=>cases h1; cases h2; exact⟨.inl rfl,h⟩
  ·next x' r' y' s' h1 h2 h3 h4=>
   cases h3; cases h4
   simp only[aqF,arc] at h;exact⟨.inr ⟨h.1.1,h.1.2⟩,h.2⟩
  ·cases h
theorem G3 [Tags]:∀ {tm ls:List Leaf},ZL tm ls=true->yb tm=yb ls
 | [],ls,h=>by rw[Kl h]
 | x::r,ls,h=>by
  obtain⟨y,s,rfl,h1,h2⟩:=JR h;have ih:=G3 h2;rcases h1 with rfl|⟨h3,h4⟩
  ·cases x<;>simp[yb,ih]
  ·cases x<;>cases y<;>simp_all [yb,Leaf.isSl]
theorem rM [Tags] {tab:List (Nat×Ent)}:∀ (t:Ty) (ls:List Leaf) (v:den t) (r tm:List Leaf),zQ tab t ls=some (v,r)->ZL tm ls=true->ls=(mixLs t v tm).1++r/\ZL (mixLs t v tm).2 r=true
 | .i64,ls,v,r,tm,h,hs=>by
  match ls,h with
  | .i n::r',h=>
   simp only[zQ,aqK,aqO] at h;obtain⟨rfl,rfl⟩:=h;cases tm with
   | nil=>cases Kl hs
   | cons x s=>obtain⟨y,s',e,_,h2⟩:=JR hs; cases e; exact⟨rfl,h2⟩
 | .u8,ls,v,r,tm,h,hs=>by
  match ls,h with
  | .u n::r',h=>
   simp only[zQ,aqK,aqO] at h;obtain⟨rfl,rfl⟩:=h;cases tm with
   | nil=>cases Kl hs
   | cons x s=>obtain⟨y,s',e,_,h2⟩:=JR hs; cases e; exact⟨rfl,h2⟩
 | .bool,ls,v,r,tm,h,hs=>by
  match ls,h with
  | .b n::r',h=>
   simp only[zQ,aqK,aqO] at h;obtain⟨rfl,rfl⟩:=h;cases tm with
   | nil=>cases Kl hs
   | cons x s=>obtain⟨y,s',e,_,h2⟩:=JR hs; cases e; exact⟨rfl,h2⟩
 | .str,ls,v,r,tm,h,hs=>by
  match ls,h with
  | .s n::r',h=>
   simp only[zQ,aqK,aqO] at h;obtain⟨rfl,rfl⟩:=h;cases tm with
   | nil=>cases Kl hs
   | cons x s=>obtain⟨y,s',e,_,h2⟩:=JR hs; cases e; exact⟨rfl,h2⟩
 | .sl E e,ls,v,r,tm,h,hs=>by
  have key:∃ l,ls=l::r/\l.isSl=true:=by
   match ls,h with
   | .nil::r',h=>
    simp only[zQ,aqK,aqO] at h;exact⟨.nil,by rw[h.2],rfl⟩
   | .sl id::r',h=>
    simp only[zQ] at h;split at h
    ·split at h
     ·simp only[aqK,aqO] at h;exact⟨.sl id,by rw[h.2],rfl⟩
     ·cases h
    ·cases h
  obtain⟨l,rfl,hl⟩:=key;cases tm with
  | nil=>cases Kl hs
  | cons x s=>
   obtain⟨y,s',e,h1,h2⟩:=JR hs;cases e;rcases h1 with rfl|⟨_,h4⟩
   ·exact⟨rfl,h2⟩
   ·rw[hl] at h4; cases h4
 | .pair a b,ls,v,r,tm,h,hs=>by
  simp only[zQ] at h;split at h
  ·next x r1 h1=>
   split at h
   ·next y r2 h2=>
    simp only[aqK,aqO] at h;obtain⟨rfl,rfl⟩:=h;obtain⟨a1,a2⟩:=rM a ls x r1 tm h1 hs;obtain⟨b1,b2⟩:=rM b r1 y r2 _ h2 a2;refine⟨?_,b2⟩;show ls=((mixLs a x tm).1++(mixLs b y (mixLs a x tm).2).1)++r2;rw[ar7,←b1];exact a1
   ·cases h
  ·cases h
theorem rN:∀ (t:Ty) (v:den t) (ls:List Leaf),(∀ l∈(mixLs t v ls).1,(∀ n,l.lt n)∨l∈ls)/\∀ l∈(mixLs t v ls).2,l∈ls
 | .i64,v,[] | .u8,v,[] | .bool,v,[] | .str,v,[] | .sl _ _,v,[]=>by simp[mixLs]
 | .i64,v,x::r | .u8,v,x::r | .bool,v,x::r | .str,v,x::r=>by simp +contextual [mixLs,Leaf.lt]
 | .sl _ _,v,x::r=>by simp +contextual [mixLs]
 | .pair a b,v,ls=>by
  obtain⟨a1,a2⟩:=rN a v.1 ls;obtain⟨b1,b2⟩:=rN b v.2 (mixLs a v.1 ls).2;have e:mixLs (.pair a b) v ls=((mixLs a v.1 ls).1++(mixLs b v.2 (mixLs a v.1 ls).2).1,(mixLs b v.2 (mixLs a v.1 ls).2).2):=by
   conv=>lhs; rw[mixLs.eq_def]
  rw[e];refine⟨λ l hl => ?_,λ l hl=>a2 l (b2 l hl)⟩;rcases List.mem_append.1 hl with hl|hl
  ·exact a1 l hl
  ·exact (b1 l hl).imp id (a2 l)
theorem wb {n:Nat}:∀ {tm:List Nat},(∀ i∈yb (y7 tm),i<n)->∀ l∈y7 tm,l.lt n
 | [],_,l,hl=>by simp[y7] at hl
 | 0::r,h,l,hl=>by
  simp only[y7,aqW] at hl;rcases hl with rfl|hl
  ·trivial
  ·exact wb (tm:=r) (λ i hi=>h i (by simpa[y7,yb] using hi)) l hl
 | (m+1)::r,h,l,hl=>by
  simp only[y7,aqW] at hl;rcases hl with rfl|hl
  ·exact h m (by simp[y7,yb])
  ·exact wb (tm:=r) (λ i hi=>h i (by simp[y7,yb,hi])) l hl
theorem aaO [Tags] {n:Nat} {t:Ty} {v:den t} {tm:List Nat} (h:∀ i∈yb (y7 tm),i<n):∀ l∈(mixLs t v (y7 tm)).1,l.lt n:=λ l hl=>
 ((rN t v (y7 tm)).1 l hl).elim (λ h=>h n) (wb h l)
def Lk:List Item->List Nat
 | []=>[]
 | .keep _ _ tm::r=>yb (y7 tm)++Lk r
 | _::r=>Lk r
def pV:Kind->Bool
 | .own true=>true
 | _=>false
def wA (γ:Nat->Own) (loc:Nat->Value) (a:Act) (w:World) (it:Item) (cs:List Value):Prop:=
 match it with
  | .slot t ty _=>a.tmps.getD t undef=yD ty cs
  | .row _ _ _ _=>False
  | .keep _ _ _=>False
  | .box id _ _=>∃ b arr T fr,loc id=.pointer (some ⟨b,0,none⟩)/\w.heap[b]?=some (.cells arr T fr)/\frees fr arr.size/\γ b=.top id/\arr.toList=cs
structure oI [Tags] (γ:Nat->Own) (loc:Nat->Value) (a:Act) (w:World) (it:Item) (v:den it.ty) (ids:List Nat) (cs:List Value) (xs fs:List Nat):Prop where
 place:wA γ loc a w it cs
 rd:match ZX it with
  | .imm t=>t=false/\xs=[]/\ids=[]/\Rd w it.ty v cs fs/\∀ b∈fs,γ b=.persist
  | .own u=>RdO w it.ty v cs xs fs/\xs.Nodup/\(∀ b∈xs,∃ i∈ids,γ b=.top i)/\(∀ b∈fs,γ b=.persist∨∃ i∈ids,γ b=.deep i)/\
    (u=true->fs.Nodup/\∀ b∈fs,∃ i∈ids,γ b=.deep i)
  | .lent=>False
def oL (k:Kind):Prop:=(∃ u,k=.own u)∨k=.lent
theorem EntOk.atLvl [Tags] {γ:Nat->Own} {loc:Nat->Value} {w:World} {id:Nat} {k:Kind} {lvl lvl' E:Nat} {e:Ty} {xs:List (den e)} (h:EntOk γ loc w id (.arr k lvl E e xs)):EntOk γ loc w id (.arr k lvl' E e xs):=by
 cases k<;>exact h
def ItsRd [Tags] (γ:Nat->Own) (loc:Nat->Value) (a:Act) (w:World):(its:List Item)->dens (its.map Item.ty)->(all us:List Nat)->Prop
 | [],_,all,us=>all=[]/\us=[]
 | .row id E e k::r,v,all,us=>oL k/\EntOk γ loc w id (.arr k 0 E e v.1)/\id∉all/\ItsRd γ loc a w r v.2 all us
 | .keep id ty tm::r,v,all,us=>EntOk γ loc w id (.box 0 (mixLs ty v.1 (y7 tm)).1)/\id∉all/\ItsRd γ loc a w r v.2 all us
 | it::r,v,all,us=>∃ ids all' us' cs xs fs,oI γ loc a w it v.1 ids cs xs fs/\all=ids++all'/\(∀ i∈ids,i∉all')/\us=(if pV (ZX it) then ids else [])++us'/\ItsRd γ loc a w r v.2 all' us'
theorem ItsRd.sub [Tags]:∀ {its:List Item} {v:dens (its.map Item.ty)} {all us:List Nat},ItsRd γ loc a w its v all us->∀ i∈us,i∈all
 | [],_,_,_,h=>by obtain⟨_,rfl⟩:=h; simp
 | .row id E e k::r,v,_,_,h=>ItsRd.sub h.2.2.2
 | .keep id ty tm::r,v,_,_,h=>ItsRd.sub h.2.2
 | .slot _ _ _::r,v,_,_,h=>by
  obtain⟨ids,all',us',cs,xs,fs,h1,rfl,h3,rfl,h5⟩:=h;intro i hi;rcases List.mem_append.1 hi with hi|hi
  ·split at hi
   ·exact List.mem_append_left _ hi
   ·simp at hi
  ·exact List.mem_append_right _ (h5.sub i hi)
 | .box _ _ _::r,v,_,_,h=>by
  obtain⟨ids,all',us',cs,xs,fs,h1,rfl,h3,rfl,h5⟩:=h;intro i hi;rcases List.mem_append.1 hi with hi|hi
  ·split at hi
   ·exact List.mem_append_left _ hi
   ·simp at hi
  ·exact List.mem_append_right _ (h5.sub i hi)
theorem A1 [Tags] (hr:Rel0 B X A w0 γ loc st a w) {it:Item} {ls:List Leaf} {v:den it.ty} {ids:List Nat} (h1:Lj st it=some ls) (h2:jJ st.tab it.ty ls=some v) (h3:fits st (ZX it) ls=some ids):
  (∃ cs xs fs,oI γ loc a w it v ids cs xs fs)/\∀ i∈ids,jS st i:=by
 have hp:∃ cs,wA γ loc a w it cs/\All2 (LeafOk loc) ls cs:=by
  cases it with
  | slot t ty k=>
   simp only[Lj] at h1;split at h1
   ·next x hx=>
    obtain⟨cs,e1,e2⟩:=qE h1 (hr.slots t x hx);exact⟨cs,e1,e2⟩
   ·cases h1
  | box id ty k=>
   simp only[Lj] at h1;split at h1
   ·next lvl cells hl=>
    split at h1
    ·cases h1;obtain⟨b,arr,T,fr,g1,g2,g3,g4,g5⟩:=hr.ents id _ hl;exact⟨arr.toList,⟨b,arr,T,fr,g1,g2,g3,g4,rfl⟩,g5⟩
    ·cases h1
   ·cases h1
  | row id E e k=>cases h1
  | keep id ty tm=>cases h1
 obtain⟨cs,hp,ha⟩:=hp;cases hk:ZX it with
 | imm t=>
  rw[hk] at h3;cases t with
  | true=>simp[fits] at h3
  | false=>
   simp only[fits] at h3;split at h3
   ·next hs=>
    cases h3;obtain⟨fp,q1,q2,q3⟩:=Js hr h2 ha;exact⟨⟨cs,[],fp,hp,by rw[hk]; exact⟨rfl,rfl,rfl,q1,q3 hs⟩⟩,by simp⟩
   ·cases h3
 | lent=>
  rw[hk] at h3;cases h3
 | own u=>
  rw[hk] at h3;have hg:yw st ls=some ids/\(u=true->∀ i∈ids,LX st i):=by
   cases u with
   | true=>obtain⟨g1,g2⟩:=Jx h3; exact⟨g1,λ _=>g2⟩
   | false=>exact⟨h3,by simp⟩
  obtain⟨xs,fs,q1,q2,q3,q4,q5⟩:=qG hr h2 ha hg.1;exact⟨⟨cs,xs,fs,hp,by rw[hk]; exact⟨q1,q2,q3,q4,λ hu=>q5 (hg.2 hu)⟩⟩,Jw hg.1⟩
theorem aeq {k k':Kind} (h:u7 k k'=true):k'=k/\oL k:=by
 unfold u7 at h;split at h
 ·exact⟨rfl,.inl ⟨_,rfl⟩⟩
 ·exact⟨rfl,.inl ⟨_,rfl⟩⟩
 ·exact⟨rfl,.inr rfl⟩
 ·cases h
theorem l8 [Tags] {id E:Nat} {e:Ty} {k:Kind} {r:List Item} {vs:dens ((Item.row id E e k::r).map Item.ty)} {ids:List Nat} (h:jO st (.row id E e k::r)=some (vs,ids)):
  ∃ (lvl:Nat) (xs:List (den e)) (vs':dens (r.map Item.ty)),look st.tab id=some (.arr k lvl E e xs)/\lvl=st.lvl/\oL k/\jO st r=some (vs',ids)/\id∉ids/\vs=(xs,vs'):=by
 simp only[jO] at h;split at h
 ·next k' lvl E' e' xs0 hl=>
  split at h
  ·next v vs' ids' hc hck ah3=>
   split at h
   ·next hel=>
    simp only[aqK,aqO] at h;obtain⟨rfl,rfl⟩:=h;simp only[aqF] at hck;obtain⟨⟨hlv,hk⟩,hE⟩:=hck;obtain⟨he,hv⟩:=o0 hc;subst he;simp only at hv;subst hv;obtain⟨rfl,hrk⟩:=aeq hk;have:=(zV _ _).1 hE;subst this;refine⟨lvl,_,vs',hl,(zV _ _).1 hlv,hrk,ah3,λ hm => ?_,rfl⟩;rw[arX hm] at hel;cases hel
   ·cases h
  ·cases h
 ·cases h
theorem l7 [Tags] {id:Nat} {ty:Ty} {tm:List Nat} {r:List Item} {vs:dens ((Item.keep id ty tm::r).map Item.ty)} {ids:List Nat} (h:jO st (.keep id ty tm::r)=some (vs,ids)):
  ∃ (v:den ty) (vs':dens (r.map Item.ty)),look st.tab id=some (.box st.lvl (mixLs ty v (y7 tm)).1)/\yb (y7 tm)=yb (mixLs ty v (y7 tm)).1/\jO st r=some (vs',ids)/\id∉ids/\vs=(v,vs'):=by
 simp only[jO] at h;split at h
 ·next lvl cells hl=>
  split at h
  ·next v vs' ids' hc hck ah3=>
   split at h
   ·next hel=>
    simp only[aqK,aqO] at h;obtain⟨rfl,rfl⟩:=h;simp only[aqF] at hck;obtain⟨h1,h2⟩:=rM ty cells v [] (y7 tm) (bC hc) hck.2;rw[arz] at h1;have h3:=(zV _ _).1 hck.1;subst h3;have h4:=G3 hck.2;rw[h1] at hl h4;refine⟨v,vs',hl,h4,ah3,λ hm => ?_,rfl⟩;rw[arX hm] at hel;cases hel
   ·cases h
  ·cases h
 ·cases h
theorem MA [Tags] {it:Item} (hit:(∀ id E e k,it ≠ .row id E e k)/\∀ id ty tm,it ≠ .keep id ty tm) {r:List Item} {vs:dens ((it::r).map Item.ty)} {ids:List Nat} (h:jO st (it::r)=some (vs,ids)):
  ∃ (ls:List Leaf) (v:den it.ty) (i1:List Nat) (vs':dens (r.map Item.ty)) (i2:List Nat),Lj st it=some ls/\jJ st.tab it.ty ls=some v/\fits st (ZX it) ls=some i1/\jO st r=some (vs',i2)/\
   (∀ x∈i1,x∉i2)/\(∀ x∈i1,x∉Ki r)/\vs=(v,vs')/\ids=i1++i2:=by
 have main:(match Lj st it with
  | none=>none
  | some ls=>match jJ st.tab it.ty ls,fits st (ZX it) ls,jO st r with
   | some v,some ids,some (vs,ids')=>match disj ids ids' && disj ids (Ki r) with
    | true=>some ((v,vs),ids++ids')
    | false=>none
   | _,_,_=>none)=some (vs,ids):=by
  cases it with
  | slot t ty k=>exact h
  | box t ty k=>exact h
  | row id E e k=>exact absurd rfl (hit.1 id E e k)
  | keep id ty tm=>exact absurd rfl (hit.2 id ty tm)
 split at main
 ·cases main
 ·next ls hls=>
  split at main
  ·next v i1 vs' i2 hc hf ah3=>
   split at main
   ·next hd=>
    simp only[aqK,aqO] at main;obtain⟨rfl,rfl⟩:=main;simp only[aqF] at hd;exact⟨ls,v,i1,vs',i2,hls,hc,hf,ah3,qH hd.1,qH hd.2,rfl,rfl⟩
   ·cases main
  ·cases main
theorem LD [Tags] (hr:Rel0 B X A w0 γ loc st a w):∀ {its:List Item} {vs:dens (its.map Item.ty)} {ids:List Nat},jO st its=some (vs,ids)->
  (∃ us,ItsRd γ loc a w its vs ids us)/\∀ i∈ids,jS st i
 | [],vs,ids,h=>by simp only[jO,aqK,aqO] at h; exact⟨⟨[],h.2.symm,rfl⟩,by simp[←h.2]⟩
 | .row id E e k::r,vs,ids,h=>by
  obtain⟨lvl,xs,vs',hl,hlv,hrk,ah3,hn,rfl⟩:=l8 h;obtain⟨⟨us,k3⟩,k4⟩:=LD hr ah3;exact⟨⟨us,hrk,(hr.ents id _ hl).atLvl,hn,k3⟩,k4⟩
 | .keep id ty tm::r,vs,ids,h=>by
  obtain⟨v,vs',hl,_,ah3,hn,rfl⟩:=l7 h;obtain⟨⟨us,k3⟩,k4⟩:=LD hr ah3;exact⟨⟨us,(show EntOk γ loc w id (.box 0 (mixLs ty v (y7 tm)).1) from (hr.ents id (.box st.lvl _) hl:EntOk γ loc w id (.box st.lvl _))),hn,k3⟩,k4⟩
 | .slot t ty k::r,vs,ids,h=>by
  obtain⟨ls,v,i1,vs',i2,hls,hc,hf,ah3,hd,_,rfl,rfl⟩:=MA (it:=.slot t ty k) (by simp) h;obtain⟨⟨cs,xs,fs,k1⟩,k2⟩:=A1 hr hls hc hf;obtain⟨⟨us,k3⟩,k4⟩:=LD hr ah3;exact⟨⟨_,i1,i2,us,cs,xs,fs,k1,rfl,hd,rfl,k3⟩,λ i hi=>(List.mem_append.1 hi).elim (k2 i) (k4 i)⟩
 | .box t ty k::r,vs,ids,h=>by
  obtain⟨ls,v,i1,vs',i2,hls,hc,hf,ah3,hd,_,rfl,rfl⟩:=MA (it:=.box t ty k) (by simp) h;obtain⟨⟨cs,xs,fs,k1⟩,k2⟩:=A1 hr hls hc hf;obtain⟨⟨us,k3⟩,k4⟩:=LD hr ah3;exact⟨⟨_,i1,i2,us,cs,xs,fs,k1,rfl,hd,rfl,k3⟩,λ i hi=>(List.mem_append.1 hi).elim (k2 i) (k4 i)⟩
def yG:List Item->List Nat
 | []=>[]
 | .slot _ _ _::r=>yG r
 | .box id _ _::r=>id::yG r
 | .row id _ _ _::r=>id::yG r
 | .keep id _ _::r=>id::yG r
def aside (all us:List Nat) (J:Nat) (γ:Nat->Own) (b:Nat):Own:=
 match γ b with
 | .top i=>if i∈all then .alien else .top i
 | .deep i=>if i∈us then .deep (i+J) else if i∈all then .persist else .deep i
 | x=>x
theorem UO (all us:List Nat) (hus:∀ i∈us,i∈all) (J:Nat) (γ:Nat->Own) (w:World):Moves (λ i=>i∈all) γ (aside all us J γ) w w where
 persist b _ h:=⟨by simp[aside,h],rfl⟩
 top b i _ h hi:=⟨by simp[aside,h,hi],rfl⟩
 deep b i _ h:=⟨rfl,λ hi=>(by
  have hu:i∉us:=λ hu=>hi (hus i hu);simp[aside,h,hi,hu]),λ hi=>by
  by_cases hu:i∈us
  ·exact .inr ⟨i+J,by simp[aside,h,hu]⟩
  ·exact .inl (by simp[aside,h,hu,hi])⟩
theorem getElem?_set_ok {sl:List AV} {t:Nat} {x:AV} {t':Nat} {v:AV} (h:(sl.set t x)[t']?=some v):(t'=t/\v=x)∨sl[t']?=some v:=by
 rw[arT] at h;split at h
 ·next e=>
  split at h
  ·cases h; exact .inl ⟨e.symm,rfl⟩
  ·cases h
 ·exact .inr h
theorem Bj [Tags] {lvl J:Nat} {all us done:List Nat} {γx γc:Nat->Own} {locx locc:Nat->Value} {it:Item} {v:den it.ty} {ids:List Nat} {cs:List Value} {xs fs:List Nat} {j:Nat}
  (h:oI γx locx a w it v ids cs xs fs) (hall:∀ i∈ids,i∈all) (hus:∀ i∈us,i∈all) (hu1:pV (ZX it)=true->∀ i∈ids,i∈us) (hu2:pV (ZX it)=false->∀ i∈ids,i∉us)
  (akt:∀ i∈ids,i∉done) (hI:∀ b,(∀ i∈done,γx b ≠ .top i/\γx b ≠ .deep i)->γc b=aside all us J γx b):
  ∃ loc' γ',(∀ i,(i<j∨(ze (ZX it) lvl it.ty v j).2.2<=i)->loc' i=locc i)/\All2 (LeafOk loc') (ze (ZX it) lvl it.ty v j).1 cs/\Moves (λ i=>J<=i) γc γ' w w/\
   (∀ b,(∀ i∈done++ids,γx b ≠ .top i/\γx b ≠ .deep i)->γ' b=aside all us J γx b)/\
   (∀ (id:Nat) (e:Ent),look (ze (ZX it) lvl it.ty v j).2.1 id=some e->EntOk γ' loc' w id e):=by
 have hnd:∀ b,γx b=.persist->γc b=.persist:=λ b hb=>by rw[hI b (by simp[hb])]; simp[aside,hb]
 have hrd:=h.rd;cases hk:ZX it with
 | imm t=>
  rw[hk] at hrd;obtain⟨rfl,rfl,rfl,h1,h2⟩:=hrd;obtain⟨loc1,a1,a2,a3⟩:=KW (γ:=γc) (taint:=false) lvl it.ty v j cs fs locc h1 (λ b hb=>.inl (hnd b (h2 b hb)));exact⟨loc1,γc,a1,a2,Moves.refl _ _ _,λ b hb=>hI b (λ i hi=>hb i (by simp[hi])),a3⟩
 | lent=>
  rw[hk] at hrd;exact hrd.elim
 | own u=>
  rw[hk] at hrd hu1 hu2;obtain⟨h1,h2,h3,h4,h5⟩:=hrd;have ltop:∀ b i,i∈ids->γx b=.top i->γc b=.alien:=by
   intro b i hi hb;rw[hI b (λ i' hi'=>⟨λ e=>by rw[hb] at e; cases e; exact akt i hi hi',by simp[hb]⟩)]
   simp[aside,hb,hall i hi]
  have ldeep:∀ b i,i∈ids->γx b=.deep i->γc b=if u=true then .deep (i+J) else .persist:=by
   intro b i hi hb;rw[hI b (λ i' hi'=>⟨by simp[hb],λ e=>by rw[hb] at e; cases e; exact akt i hi hi'⟩)]
   cases u with
   | true=>simp[aside,hb,hu1 rfl i hi]
   | false=>simp[aside,hb,hu2 rfl i hi,hall i hi]
  have hxf:∀ b∈xs,b∉fs:=by
   intro b hb hb';obtain⟨i,hi,e⟩:=h3 b hb;rcases h4 b hb' with e'|⟨i',hi',e'⟩<;>rw[e] at e'<;>cases e'
  have amA:∀ b∈xs,γc b=.alien:=λ b hb=>by obtain⟨i,hi,e⟩:=h3 b hb; exact ltop b i hi e
  obtain⟨loc1,γ1,a1,a2,a3,a4,a5,a6,a7⟩:=eG u lvl it.ty v j cs xs fs locc γc h1 h2 hxf (λ hu=>(h5 hu).1) (λ hu b hb=>by
   rcases h4 b hb with e|⟨i,hi,e⟩
   ·exact hnd b e
   ·rw[ldeep b i hi e,hu]; simp)
  refine⟨loc1,γ1,a1,a2,⟨?_,?_,?_⟩,?_,a7 γ1 (λ _ _=>rfl) (λ _ _=>rfl)⟩
  ·intro b _ hb;refine⟨?_,rfl⟩;have hnx:b∉xs:=λ hx=>by rw[amA b hx] at hb; cases hb
   cases u with
   | false=>rw[a4 rfl b hnx]; exact hb
   | true=>
    have hnf:b∉fs:=λ hf=>by
     obtain⟨i,hi,e⟩:=(h5 rfl).2 b hf;rw[ldeep b i hi e] at hb;simp at hb
    rw[a3 b hnx hnf]; exact hb
  ·intro b i _ hb _;refine⟨?_,rfl⟩;have hnx:b∉xs:=λ hx=>by rw[amA b hx] at hb; cases hb
   cases u with
   | false=>rw[a4 rfl b hnx]; exact hb
   | true=>
    have hnf:b∉fs:=λ hf=>by
     obtain⟨i,hi,e⟩:=(h5 rfl).2 b hf;rw[ldeep b i hi e] at hb;simp at hb
    rw[a3 b hnx hnf]; exact hb
  ·intro b i _ hb;have hnx:b∉xs:=λ hx=>by rw[amA b hx] at hb; cases hb
   refine⟨rfl,?_,?_⟩
   ·intro hi;cases u with
    | false=>rw[a4 rfl b hnx]; exact hb
    | true=>
     have hnf:b∉fs:=λ hf=>by
      obtain⟨i',hi',e⟩:=(h5 rfl).2 b hf;rw[ldeep b i' hi' e] at hb;simp at hb;omega
     rw[a3 b hnx hnf]; exact hb
   ·intro hi;cases u with
    | false=>exact .inr ⟨i,by rw[a4 rfl b hnx]; exact hb⟩
    | true=>
     by_cases hf:b∈fs
     ·obtain⟨id,_,_,e⟩:=a6 rfl b hf;exact .inr ⟨id,e⟩
     ·exact .inr ⟨i,by rw[a3 b hnx hf]; exact hb⟩
  ·intro b hb;have hnx:b∉xs:=λ hx=>by obtain⟨i,hi,e⟩:=h3 b hx; exact (hb i (by simp[hi])).1 e
   have:γ1 b=γc b:=by
    cases u with
    | false=>exact a4 rfl b hnx
    | true=>
     have hnf:b∉fs:=λ hf=>by obtain⟨i,hi,e⟩:=(h5 rfl).2 b hf; exact (hb i (by simp[hi])).2 e
     exact a3 b hnx hnf
   rw[this];exact hI b (λ i hi=>hb i (by simp[hi]))
theorem KG [Tags] {lvl:Nat}:∀ {its:List Item} {v:dens (its.map Item.ty)} {sl sl':List AV} {tab tab':List (Nat×Ent)} {j j':Nat},jM lvl its v sl tab j=some (sl',tab',j')->j<=j'
 | [],v,sl,sl',tab,tab',j,j',h=>by simp only[jM,aqK,aqO] at h; omega
 | .slot t ty k::r,v,sl,sl',tab,tab',j,j',h=>by
  simp only[jM] at h;split at h
  ·exact Nat.le_trans (jB k lvl ty v.1 j).le (KG h)
  ·cases h
 | .box id ty k::r,v,sl,sl',tab,tab',j,j',h=>by
  simp only[jM] at h;exact Nat.le_trans (jB k lvl ty v.1 j).le (KG h)
 | .row id E e k::r,v,sl,sl',tab,tab',j,j',h=>KG (its:=r) h
 | .keep id ty tm::r,v,sl,sl',tab,tab',j,j',h=>KG (its:=r) h
theorem laid [Tags] {lvl J n0:Nat} {all us:List Nat} {γx:Nat->Own} {locx:Nat->Value} (hus:∀ i∈us,i∈all):
  ∀ (its:List Item) (v:dens (its.map Item.ty)) (sl sl':List AV) (tab tab':List (Nat×Ent)) (j j':Nat) (done rall rus:List Nat) (γc:Nat->Own) (locc:Nat->Value),
   jM lvl its v sl tab j=some (sl',tab',j')->ItsRd γx locx a w its v rall rus->j'<=J->n0<=j->(∀ i<n0,locc i=locx i)->(∀ i∈rall,i∈all)->(∀ i∈rall,i∈us->i∈rus)->(∀ i∈rus,i∈us)->
   (∀ i∈rall,i∉done)->(∀ i∈done,i∈all)->(∀ i∈yG its,i<n0/\i∉all)->(∀ i∈Lk its,i<n0)->
   (∀ b,(∀ i∈done,γx b ≠ .top i/\γx b ≠ .deep i)->γc b=aside all us J γx b)->
   (∀ (t:Nat) (x:AV),sl[t]?=some x->AVOk locc x (a.tmps.getD t undef)/\x.lt j)->
   (∀ (id:Nat) (e:Ent),look tab id=some e->id∈yG its∨(EntOk γc locc w id e/\e.lt j/\id<j))->
   ∃ loc' γ',(∀ i<n0,loc' i=locx i)/\(∀ b,(∀ i∈all,γx b ≠ .top i/\γx b ≠ .deep i)->γ' b=aside all us J γx b)/\
    (∀ (t:Nat) (x:AV),sl'[t]?=some x->AVOk loc' x (a.tmps.getD t undef)/\x.lt j')/\sl'.length=sl.length/\
    (∀ (id:Nat) (e:Ent),look tab' id=some e->EntOk γ' loc' w id e/\e.lt j'/\id<j')
 | [],v,sl,sl',tab,tab',j,j',done,rall,rus,γc,locc,h,hR,hJ,hn,ahn,ha,hau,hru,hrd,hda,hb,hkp,hI,hS,hE=>by
  simp only[jM,aqK,aqO] at h;obtain⟨rfl,rfl,rfl⟩:=h;exact⟨locc,γc,ahn,λ b hb'=>hI b (λ i hi=>hb' i (hda i hi)),hS,rfl,λ id e he=>(hE id e he).resolve_left (by simp[yG])⟩
 | .slot t ty k::r,v,sl,sl',tab,tab',j,j',done,rall,rus,γc,locc,h,hR,hJ,hn,ahn,ha,hau,hru,hrd,hda,hb,hkp,hI,hS,hE=>by
  obtain⟨ids,all',us',cs,xs,fs,h1,rfl,h3,rfl,h5⟩:=hR;simp only[jM] at h;split at h
  ·next x hmk=>
   have so:=jB k lvl ty v.1 j;have hle:=so.le;have h:jM lvl r v.2 (sl.set t (.v x)) ((ze k lvl ty v.1 j).2.1++tab) (ze k lvl ty v.1 j).2.2=some (sl',tab',j'):=h;have akb:=KG h;have ai2:=h5.sub;obtain⟨loc1,γ1,a1,a2,a3,a4,a5⟩:=Bj (it:=.slot t ty k) (lvl:=lvl) (J:=J) (all:=all) (us:=us) (done:=done) (γc:=γc) (locc:=locc) (j:=j) h1 (λ i hi=>ha i (by simp[hi])) hus
    (λ hu i hi=>hru i (by simp[hu,hi])) (λ hu i hi hiu=>by
     have:=hau i (by simp[hi]) hiu;simp only[hu,ar3,if_false,ar6] at this;exact h3 i hi (ai2 i this)) (λ i hi=>hrd i (by simp[hi])) hI
   simp only[ZX,Item.ty] at a1 a2 a5;obtain⟨m1,m2⟩:=Ln hmk a2 so.lt;have apr:a.tmps.getD t undef=yD ty cs:=h1.place;have hS1:∀ (t':Nat) (x':AV),(sl.set t (.v x))[t']?=some x'->AVOk loc1 x' (a.tmps.getD t' undef)/\x'.lt (ze k lvl ty v.1 j).2.2:=by
    intro t' x' hx';rcases getElem?_set_ok hx' with⟨rfl,rfl⟩|hx'
    ·exact⟨by rw[apr]; exact m1,m2⟩
    ·obtain⟨c1,c2⟩:=hS t' x' hx';exact⟨c1.loc c2 (λ i hi=>a1 i (.inl hi)),AV.lt_mono hle c2⟩
   have hE1:∀ (id:Nat) (e:Ent),look ((ze k lvl ty v.1 j).2.1++tab) id=some e->id∈yG r∨(EntOk γ1 loc1 w id e/\e.lt (ze k lvl ty v.1 j).2.2/\id<(ze k lvl ty v.1 j).2.2):=by
    intro id e he;rw[ZY] at he;cases hh:look (ze k lvl ty v.1 j).2.1 id with
    | some e'=>
     rw[hh] at he;simp at he;subst he;obtain⟨g1,g2,E',et,zs,rfl⟩:=so.keys id _ hh;exact .inr ⟨a5 id _ hh,trivial,g2⟩
    | none=>
     rw[hh] at he;simp only[arP] at he;rcases hE id e he with h'|⟨e1,e2,e3⟩
     ·exact .inl h'
     ·exact .inr ⟨EntOk.moves a3 (by omega) e2 e3 (λ i hi=>a1 i (.inl hi)) e1,Ent.lt_mono hle e2,by omega⟩
   obtain⟨loc2,γ2,b1,b2,b3,b4,b5⟩:=laid (lvl:=lvl) (J:=J) (n0:=n0) hus r v.2 (sl.set t (.v x)) sl' ((ze k lvl ty v.1 j).2.1++tab) tab' (ze k lvl ty v.1 j).2.2 j' (done++ids) all' us' γ1 loc1 h h5 hJ (by omega)
    (λ i hi=>by rw[a1 i (.inl (by omega))]; exact ahn i hi) (λ i hi=>ha i (by simp[hi]))
    (λ i hi hiu=>by
     have:=hau i (by simp[hi]) hiu;rcases List.mem_append.1 this with h'|h'
     ·split at h'
      ·exact absurd hi (h3 i h')
      ·simp at h'
     ·exact h')
    (λ i hi=>hru i (by simp[hi])) (λ i hi hd=>by
     rcases List.mem_append.1 hd with hd|hd
     ·exact hrd i (by simp[hi]) hd
     ·exact h3 i hd hi)
    (λ i hi=>(List.mem_append.1 hi).elim (hda i) (λ h=>ha i (by simp[h]))) (λ i hi=>hb i hi) (λ i hi=>hkp i hi) a4 hS1 hE1
   exact⟨loc2,γ2,b1,b2,b3,by rw[b4]; simp,b5⟩
  ·cases h
 | .box id0 ty k::r,v,sl,sl',tab,tab',j,j',done,rall,rus,γc,locc,h,hR,hJ,hn,ahn,ha,hau,hru,hrd,hda,hb,hkp,hI,hS,hE=>by
  obtain⟨ids,all',us',cs,xs,fs,h1,rfl,h3,rfl,h5⟩:=hR;simp only[jM] at h;have so:=jB k lvl ty v.1 j;have hle:=so.le;have h:jM lvl r v.2 sl ((ze k lvl ty v.1 j).2.1++yE tab id0 (.box lvl (ze k lvl ty v.1 j).1)) (ze k lvl ty v.1 j).2.2=some (sl',tab',j'):=h;have akb:=KG h;have ai2:=h5.sub;obtain⟨loc1,γ1,a1,a2,a3,a4,a5⟩:=Bj (it:=.box id0 ty k) (lvl:=lvl) (J:=J) (all:=all) (us:=us) (done:=done) (γc:=γc) (locc:=locc) (j:=j) h1 (λ i hi=>ha i (by simp[hi])) hus
   (λ hu i hi=>hru i (by simp[hu,hi])) (λ hu i hi hiu=>by
    have:=hau i (by simp[hi]) hiu;simp only[hu,ar3,if_false,ar6] at this;exact h3 i hi (ai2 i this)) (λ i hi=>hrd i (by simp[hi])) hI
  simp only[ZX,Item.ty] at a1 a2 a5;obtain⟨b,arr,T,fr,p1,p2,p3,p4,p5⟩:=h1.place;obtain⟨hb0,hb1⟩:=hb id0 (by simp[yG]);have hI':∀ (id:Nat) (e:Ent),look ((ze k lvl ty v.1 j).2.1++yE tab id0 (.box lvl (ze k lvl ty v.1 j).1)) id=some e->
    id∈yG r∨(EntOk γ1 loc1 w id e/\e.lt (ze k lvl ty v.1 j).2.2/\id<(ze k lvl ty v.1 j).2.2):=by
   intro id e he;rw[ZY] at he;cases hh:look (ze k lvl ty v.1 j).2.1 id with
   | some e'=>
    rw[hh] at he;simp at he;subst he;obtain⟨g1,g2,E',et,zs,rfl⟩:=so.keys id _ hh;exact .inr ⟨a5 id _ hh,trivial,g2⟩
   | none=>
    rw[hh] at he;simp only[arP] at he;rw[ZZ] at he;split at he
    ·next hi=>
     subst hi;cases hl:look tab id with
     | none=>rw[hl] at he; cases he
     | some e0=>
      rw[hl] at he;simp only[art,aqK] at he;subst he;right;have hγ:γ1 b=.top id:=by
       have hc:γc b=.top id:=by
        rw[hI b (λ i hi=>⟨λ e=>by rw[p4] at e; cases e; exact hb1 (hda _ hi),by simp[p4]⟩)]
        simp[aside,p4,hb1]
       exact (a3.top b id (Z0 p2) hc (by omega)).1
      refine⟨⟨b,arr,T,fr,?_,p2,p3,hγ,by rw[p5]; exact a2⟩,so.lt,by omega⟩
      rw[a1 id (.inl (by omega)),ahn id hb0];exact p1
    ·next hi=>
     rcases hE id e he with h'|⟨e1,e2,e3⟩
     ·left;rcases List.mem_cons.1 h' with h'|h'
      ·exact absurd h' hi
      ·exact h'
     ·exact .inr ⟨EntOk.moves a3 (by omega) e2 e3 (λ i hi=>a1 i (.inl hi)) e1,Ent.lt_mono hle e2,by omega⟩
  obtain⟨loc2,γ2,b1,b2,b3,b4,b5⟩:=laid (lvl:=lvl) (J:=J) (n0:=n0) hus r v.2 sl sl' ((ze k lvl ty v.1 j).2.1++yE tab id0 (.box lvl (ze k lvl ty v.1 j).1)) tab' (ze k lvl ty v.1 j).2.2 j' (done++ids) all' us' γ1 loc1 h h5 hJ (by omega)
   (λ i hi=>by rw[a1 i (.inl (by omega))]; exact ahn i hi) (λ i hi=>ha i (by simp[hi]))
   (λ i hi hiu=>by
    have:=hau i (by simp[hi]) hiu;rcases List.mem_append.1 this with h'|h'
    ·split at h'
     ·exact absurd hi (h3 i h')
     ·simp at h'
    ·exact h')
   (λ i hi=>hru i (by simp[hi])) (λ i hi hd=>by
    rcases List.mem_append.1 hd with hd|hd
    ·exact hrd i (by simp[hi]) hd
    ·exact h3 i hd hi)
   (λ i hi=>(List.mem_append.1 hi).elim (hda i) (λ h=>ha i (by simp[h]))) (λ i hi=>hb i (by simp[yG,hi])) (λ i hi=>hkp i hi) a4
   (λ t' x' hx'=>by
    obtain⟨c1,c2⟩:=hS t' x' hx';exact⟨c1.loc c2 (λ i hi=>a1 i (.inl hi)),AV.lt_mono hle c2⟩) hI'
  exact⟨loc2,γ2,b1,b2,b3,b4,b5⟩
 | .row id0 E e k::r,v,sl,sl',tab,tab',j,j',done,rall,rus,γc,locc,h,hR,hJ,hn,ahn,ha,hau,hru,hrd,hda,hb,hkp,hI,hS,hE=>by
  obtain⟨hrk,h1,hnr,h5⟩:=hR;have h:jM lvl r v.2 sl (yE tab id0 (.arr k lvl E e v.1)) j=some (sl',tab',j'):=h;have akb:=KG h;obtain⟨hb0,hb1⟩:=hb id0 (by simp[yG]);have hE1:EntOk γc locc w id0 (.arr k lvl E e v.1):=by
   have h2:EntOk γc locx w id0 (.arr k lvl E e v.1):=by
    have hp:∀ b,γx b=.persist->γc b=.persist:=λ b hb=>by rw[hI b (by simp[hb])]; simp[aside,hb]
    have ht:∀ b,γx b=.top id0->γc b=.top id0:=λ b hb=>by
     rw[hI b (λ i hi=>⟨λ e=>by rw[hb] at e; cases e; exact hb1 (hda _ hi),by simp[hb]⟩)]
     simp[aside,hb,hb1]
    have hd:∀ b,γx b=.deep id0->γc b=.deep id0:=λ b hb=>by
     rw[hI b (λ i hi=>⟨by simp[hb],λ e=>by rw[hb] at e; cases e; exact hb1 (hda _ hi)⟩)]
     have:id0∉us:=λ h=>hb1 (hus _ h);simp[aside,hb,hb1,this]
    rcases hrk with⟨u,rfl⟩|rfl
    ·obtain⟨xs,fs,g1,g2,g3⟩:=h1;refine⟨xs,fs,g1,λ b hb=>ht b (g2 b hb),?_⟩;cases u with
     | true=>exact⟨g3.1,λ b hb=>hd b (g3.2 b hb)⟩
     | false=>exact λ b hb=>hp b (g3 b hb)
    ·obtain⟨fp,g1,g2⟩:=h1;exact⟨fp,g1,g2.1,λ b hb=>hd b (g2.2 b hb)⟩
   exact h2.arrLoc (ahn id0 hb0)
  have hI':∀ (id:Nat) (e':Ent),look (yE tab id0 (.arr k lvl E e v.1)) id=some e'->id∈yG r∨(EntOk γc locc w id e'/\e'.lt j/\id<j):=by
   intro id e' he;rw[ZZ] at he;split at he
   ·next hi=>
    subst hi;cases hl:look tab id with
    | none=>rw[hl] at he; cases he
    | some e0=>
     rw[hl] at he;simp only[art,aqK] at he;subst he;exact .inr ⟨hE1,trivial,by omega⟩
   ·next hi=>
    rcases hE id e' he with h'|h'
    ·left;rcases List.mem_cons.1 h' with h'|h'
     ·exact absurd h' hi
     ·exact h'
    ·exact .inr h'
  exact laid (lvl:=lvl) (J:=J) (n0:=n0) hus r v.2 sl sl' (yE tab id0 (.arr k lvl E e v.1)) tab' j j' done rall rus γc locc h h5 hJ hn ahn ha hau hru hrd hda (λ i hi=>hb i (by simp[yG,hi])) (λ i hi=>hkp i hi) hI hS hI'
 | .keep id0 ty tm::r,v,sl,sl',tab,tab',j,j',done,rall,rus,γc,locc,h,hR,hJ,hn,ahn,ha,hau,hru,hrd,hda,hb,hkp,hI,hS,hE=>by
  obtain⟨h1,hnr,h5⟩:=hR;have h:jM lvl r v.2 sl (yE tab id0 (.box lvl (mixLs ty v.1 (y7 tm)).1)) j=some (sl',tab',j'):=h;have akb:=KG h;obtain⟨hb0,hb1⟩:=hb id0 (by simp[yG]);have hlt:∀ l∈(mixLs ty v.1 (y7 tm)).1,l.lt n0:=aaO (λ i hi=>hkp i (by simp[Lk,hi]));have hE1:EntOk γc locc w id0 (.box lvl (mixLs ty v.1 (y7 tm)).1):=by
   obtain⟨b,arr,T,fr,g1,g2,g3,g4,g5⟩:=h1;refine⟨b,arr,T,fr,by rw[ahn id0 hb0]; exact g1,g2,g3,?_,g5.leafLoc hlt ahn⟩
   rw[hI b (λ i hi=>⟨λ e=>by rw[g4] at e; cases e; exact hb1 (hda _ hi),by simp[g4]⟩)]
   simp[aside,g4,hb1]
  have hI':∀ (id:Nat) (e':Ent),look (yE tab id0 (.box lvl (mixLs ty v.1 (y7 tm)).1)) id=some e'->id∈yG r∨(EntOk γc locc w id e'/\e'.lt j/\id<j):=by
   intro id e' he;rw[ZZ] at he;split at he
   ·next hi=>
    subst hi;cases hl:look tab id with
    | none=>rw[hl] at he; cases he
    | some e0=>
     rw[hl] at he;simp only[art,aqK] at he;subst he;exact .inr ⟨hE1,λ l hl=>Leaf.lt_mono hn (hlt l hl),by omega⟩
   ·next hi=>
    rcases hE id e' he with h'|h'
    ·left;rcases List.mem_cons.1 h' with h'|h'
     ·exact absurd h' hi
     ·exact h'
    ·exact .inr h'
  exact laid (lvl:=lvl) (J:=J) (n0:=n0) hus r v.2 sl sl' (yE tab id0 (.box lvl (mixLs ty v.1 (y7 tm)).1)) tab' j j' done rall rus γc locc h h5 hJ hn ahn ha hau hru hrd hda (λ i hi=>hb i (by simp[yG,hi])) (λ i hi=>hkp i (by simp[Lk,hi])) hI hS hI'
theorem xY [Tags]:∀ {D:List Nat} {sl:List AV} {t:Nat} {v:AV},(Mc sl D)[t]?=some v->v=.top∨(t∉D/\sl[t]?=some v)
 | [],sl,t,v,h=>.inr ⟨by simp,h⟩
 | d::D,sl,t,v,h=>by
  rcases xY (D:=D) h with h|⟨h1,h2⟩
  ·exact .inl h
  ·rcases getElem?_set_ok h2 with⟨rfl,rfl⟩|h3
   ·exact .inl rfl
   ·by_cases hd:t=d
    ·subst hd;rw[arT] at h2;simp only[if_true] at h2;split at h2
     ·cases h2; exact .inl rfl
     ·cases h2
    ·exact .inr ⟨by simp[hd,h1],h3⟩
theorem px:∀ {D:List Nat} {sl:List AV},(Mc sl D).length=sl.length
 | [],sl=>rfl
 | d::D,sl=>by rw[Mc,px]; simp
theorem WM [Tags] {stx h:St} {body:Code} {its:List Item} {ids ids2:List Nat} {vs:dens (its.map Item.ty)} (hx:Rel0 B X A w0 γ loc stx a w) (hn:st.nxt<=stx.nxt) (hlen:stx.slots.length=st.slots.length)
  (hsl:∀ t,t∉Zr body->stx.slots[t]?=st.slots[t]?) (amt:∀ (t:Nat) (v:AV),st.slots[t]?=some v->v.lt st.nxt)
  (aiB:∀ (id:Nat) (e:Ent),look st.tab id=some e->id∉ids->id∉yG its->look stx.tab id=some e/\id∉ids2/\e.lt st.nxt/\id<st.nxt)
  (al7:∀ id∈yG its,id<st.nxt/\id∉ids2) (hkeep:∀ id∈Lk its,id<st.nxt) (akg:jO stx its=some (vs,ids2)) (alo:∀ p∈A.pins,p.1<st.nxt) (hA:A.dl=[]/\A.dps=[])
  (hh:qY st body its ids vs=some h):Rel B X A w0 h a w:=by
 unfold qY at hh;split at hh
 ·next sl tab j akD=>
  cases hh;obtain⟨⟨us,k1⟩,k2⟩:=LD hx akg;have hus:=k1.sub;have hm:=UO ids2 us hus j γ w;have hS1:∀ (t:Nat) (x:AV),(Mc st.slots (Zr body))[t]?=some x->AVOk loc x (a.tmps.getD t undef)/\x.lt st.nxt:=by
   intro t x hx';rcases xY hx' with rfl|⟨h1,h2⟩
   ·exact⟨trivial,trivial⟩
   ·exact⟨hx.slots t x (by rw[hsl t h1]; exact h2),amt t x h2⟩
  have hE1:∀ (id:Nat) (e:Ent),look (ZB st.tab ids) id=some e->id∈yG its∨(EntOk (aside ids2 us j γ) loc w id e/\e.lt st.nxt/\id<st.nxt):=by
   intro id e he;rw[JG] at he;split at he
   ·cases he
   ·next hni=>
    by_cases hb:id∈yG its
    ·exact .inl hb
    ·obtain⟨c1,c2,c3,c4⟩:=aiB id e he hni hb;exact .inr ⟨EntOk.moves hm c2 (hx.elt id e c1).1 (hx.elt id e c1).2 (λ _ _=>rfl) (hx.ents id e c1),c3,c4⟩
  obtain⟨loc',γ',b1,b2,b3,b4,b5⟩:=laid (lvl:=st.lvl+1) (J:=j) (n0:=st.nxt) hus its vs _ sl _ tab st.nxt j [] ids2 us (aside ids2 us j γ) loc akD k1 (Nat.le_refl _) (Nat.le_refl _) (λ _ _=>rfl)
   (λ _ h=>h) (λ _ _ h=>h) (λ _ h=>h) (by simp) (by simp) al7 hkeep (λ _ _=>rfl) hS1 hE1
  exact⟨γ',loc',{
    defers:=hx.defers
    keeps:=hx.keeps
    unf:=λ b hb=>hx.unf b (by
     by_cases hh:∀ i∈ids2,γ b ≠ .top i/\γ b ≠ .deep i
     ·rw[b2 b hh] at hb;unfold aside at hb;cases hg:γ b with
      | alien=>rw[hg] at hb; exact hb
      | persist=>rw[hg] at hb; exact hb
      | top i=>trivial
      | deep i=>trivial
     ·cases hg:γ b with
      | alien=>exact absurd (λ i _=>by simp[hg]) hh
      | persist=>exact absurd (λ i _=>by simp[hg]) hh
      | top i=>trivial
      | deep i=>trivial)
    old:=λ b hb hbx=>by
     have ho:=hx.old b hb hbx;have e:γ' b=aside ids2 us j γ b:=b2 b (by rcases ho with h|⟨h,_⟩<;>simp[h])
     rcases ho with h|⟨h,h'⟩
     ·left; rw[e]; simp[aside,h]
     ·right; exact⟨by rw[e]; simp[aside,h],h'⟩
    Ble:=hx.Ble
    size:=by rw[b4,px,←hlen]; exact hx.size
    slots:=λ t v hv=>(b3 t v hv).1
    ents:=λ id e he=>(b5 id e he).1
    slt:=λ t v hv=>(b3 t v hv).2
    elt:=λ id e he=>(b5 id e he).2
    pins:=λ p hp=>⟨Nat.lt_of_lt_of_le (alo p hp) (KG akD),by rw[b1 p.1 (alo p hp)]; exact (hx.pins p hp).2⟩
    dlab:=λ p hp=>by rw[hA.1] at hp; simp at hp
    glob:=hx.glob
    rtag:=hx.rtag
    dpc:=λ p hp=>by rw[hA.2] at hp; simp at hp }⟩
 ·cases hh
end Ev
