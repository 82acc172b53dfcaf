/- The evaluator of the own library, part 6: its words, its soundness. Conditions: none of its own. -/
import Derived.Test.YtppjgjdlnikigaaGreatDoorLibE
import Derived.Orders
set_option linter.unusedSimpArgs false
set_option linter.unusedVariables false
namespace Ev
open Go
variable {P:Program} {a:Act} {w:World} {next:Act->World->Prop} {Q:Exit->Act->World->Prop}
variable {B:Nat} {X:List Nat} {A:Ctx} {w0:World} {γ:Nat->Own} {loc:Nat->Value}
variable {E:Env} {ops:List Oper} {all:List (List Nat)} {st:St} {ts:List Stp} {gf:St} {gs:Nat->St} {anc:Nat->List Nat} {S:Nat->Prop} {i:Nat}
theorem Rel0.same [Tags] {s1 s2:St} (h:Rel0 B X A w0 γ loc s1 a w) (hA:A.dl=[]/\A.dps=[]) (h1:s2.slots.length=s1.slots.length) (hs:∀ (t:Nat) (v:AV),s2.slots[t]?=some v->s1.slots[t]?=some v)
  (ht:∀ (id:Nat) (e:Ent),look s2.tab id=some e->look s1.tab id=some e) (hn:s1.nxt<=s2.nxt):Rel0 B X A w0 γ loc s2 a w where
 defers:=h.defers
 keeps:=h.keeps
 unf:=h.unf
 old:=h.old
 Ble:=h.Ble
 size:=h1.trans h.size
 slots:=λ t v hv=>h.slots t v (hs t v hv)
 ents:=λ id e he=>h.ents id e (ht id e he)
 slt:=λ t v hv=>AV.lt_mono hn (h.slt t v (hs t v hv))
 elt:=λ id e he=>⟨Ent.lt_mono hn (h.elt id e (ht id e he)).1,Nat.lt_of_lt_of_le (h.elt id e (ht id e he)).2 hn⟩
 pins:=λ p hp=>⟨Nat.lt_of_lt_of_le (h.pins p hp).1 hn,(h.pins p hp).2⟩
 dlab:=λ p hp=>by rw[hA.1] at hp; simp at hp
 glob:=h.glob
 rtag:=h.rtag
 dpc:=h.dpc
theorem Lr {N:Nat} (t:Nat):(sS ops ts st N S).slots[t]?=if t<st.slots.length then some ((yC ops ts S st ops.length t).getD .top) else none:=by
 simp only[sS,amU];split
 ·next h=>rw[anw h]; rfl
 ·next h=>rw[alO (by simpa using Nat.le_of_not_lt h)]; rfl
theorem Ms {N:Nat}:(sS ops ts st N S).slots.length=st.slots.length:=by simp[sS]
theorem Lq [Tags] {N:Nat} (id:Nat):look (sS ops ts st N S).tab id=if id<N then yD ts S st ops.length id else none:=Ur N _ id
structure DrawAt (E:Env) (ops:List Oper) (all:List (List Nat)) (st:St) (ts:List Stp) (gf:St) (gs:Nat->St) (anc:Nat->List Nat):Prop where
 T:TraceI E ops all st ts gf gs anc
 N:(ops.filterMap (·.dst)).Nodup
 edges:Nf ops 0=true
 hall:all=KX ops []
 slt:∀ (t:Nat) (v:AV),st.slots[t]?=some v->v.lt st.nxt
 elt:∀ (id:Nat) (e:Ent),look st.tab id=some e->e.lt st.nxt/\id<st.nxt
theorem DrawAt.hpn [Tags] (C:DrawAt E ops all st ts gf gs anc) {i:Nat} {s:Stp} (hs:ts[i]?=some s) (acD:s.run=true):∀ (id:Nat) (e:Ent),look s.p'.tab id=some e->id<s.p'.nxt:=by
 have hlt:i<ops.length:=by
  rw[←C.T.len];rcases Nat.lt_or_ge i ts.length with h|h
  ·exact h
  ·rw[alO h] at hs; cases hs
 obtain⟨o,s',ho,hs',hst⟩:=C.T.get hlt;rw[hs] at hs';cases hs';exact λ id e he=>((au (hst.run acD).out).2.2 id e he).1
theorem DrawAt.tabs [Tags] (C:DrawAt E ops all st ts gf gs anc) {i:Nat} (hi:i<=ops.length):(∀ id,look (gs i).tab id=yD ts (λ _=>True) st i id)/\∀ (id:Nat) (e:Ent),look (gs i).tab id=some e->id<(gs i).nxt:=
 uU C.T (λ id e he=>(C.elt id e he).2) (λ i s hs acD=>C.hpn hs acD) i hi
theorem TraceI.lt_of (hT:TraceI E ops all st ts gf gs anc) {i:Nat} {s:Stp} (hs:ts[i]?=some s):i<ops.length:=by
 rw[←hT.len];rcases Nat.lt_or_ge i ts.length with h|h
 ·exact h
 ·rw[alO h] at hs; cases hs
def Met (S:Nat->Prop) (st:St) (ts:List Stp) (id:Nat):Prop:=id<st.nxt∨∃ (j:Nat) (s:Stp),S j/\ts[j]?=some s/\(id∈s.rc.reach∨(s.rc.lo<=id/\id<s.rc.hi))
theorem eG [Tags] (hT:TraceI E ops all st ts gf gs anc) (hD:∀ j,S j->∀ k∈anc j,S k) (hi:¬ S i) {si:Stp} (hsi:ts[i]?=some si) {id:Nat} (h:Met S st ts id):id<si.rc.lo∨si.rc.hi<=id:=by
 obtain⟨a1,a2,a3,a4,a5⟩:=hT.nums hsi;have hin:=hT.lt_of hsi;rcases h with h|⟨j,s,hj,hs,h⟩
 ·left;have:=hT.mono (i:=0) (j:=i) (by omega) (by omega);rw[hT.first] at this;omega
 ·obtain⟨b1,b2,b3,b4,b5⟩:=hT.nums hs;have hjn:=hT.lt_of hs;rcases Nat.lt_trichotomy j i with hlt|rfl|hlt
  ·left;have:=hT.mono (i:=j+1) (j:=i) hlt (by omega);rcases h with h|h
   ·have:=b4 id h; omega
   ·omega
  ·exact absurd hj hi
  ·have hna:i∉anc j:=λ h=>hi (hD j hj i h);obtain⟨c1,c2,c3⟩:=hT.apart hsi hs hlt hna;rcases h with h|h
   ·exact c3 id h
   ·right;have:=hT.mono (i:=i+1) (j:=j) hlt (by omega);omega
theorem Dl [Tags] (C:DrawAt E ops all st ts gf gs anc) {t:Nat}:∀ m,m<=ops.length->∀ v,yC ops ts S st m t=some v->∀ id∈v.ids,Met S st ts id
 | 0,_,v,h,id,hid=>.inl (AV.ids_lt (C.slt t v h) id hid)
 | m+1,hm,v,h,id,hid=>by
  obtain⟨o,s,ho,hs,hst⟩:=C.T.get (show m<ops.length by omega);simp only[yC,ho,hs] at h;split at h
  ·next hc=>
   split at h
   ·next acD=>
    have hr:=hst.run acD;obtain⟨q1,q2,q3⟩:=au hr.out;obtain⟨v',hv',hok⟩:=q2 t hc.2.1;rw[h] at hv';cases hv';refine .inr ⟨m,s,hc.1,hs,?_⟩;rcases hok id hid with h'|h'
    ·exact .inl h'
    ·right; rw[hr.rc]; exact h'
   ·cases h; simp[AV.ids,Jk] at hid
  ·exact Dl C m (by omega) v h id hid
theorem ug [Tags] (C:DrawAt E ops all st ts gf gs anc) {id:Nat}:∀ m,m<=ops.length->∀ e,yD ts S st m id=some e->Met S st ts id/\∀ x∈e.ids,Met S st ts x
 | 0,_,e,h=>⟨.inl (C.elt id e h).2,λ x hx=>.inl (Ent.ids_lt (C.elt id e h).1 x hx)⟩
 | m+1,hm,e,h=>by
  obtain⟨o,s,ho,hs,hst⟩:=C.T.get (show m<ops.length by omega);obtain⟨b1,b2,b3,b4,b5⟩:=C.T.nums hs;simp only[yD,hs] at h;split at h
  ·next hc=>
   cases acD:s.run with
   | false=>
    have hsk:=hst.skip acD;have ht:=hc.2;simp only[Stp.touch,hsk.rc] at ht;rcases ht with ht|ht
    ·simp at ht
    ·omega
   | true=>
    have hr:=hst.run acD;obtain⟨q1,q2,q3⟩:=au hr.out;have ht:id∈s.rc.wr∨(s.rc.lo<=id/\id<s.rc.hi):=hc.2;refine⟨.inr ⟨m,s,hc.1,hs,ht.imp (b5 id) (λ h=>h)⟩,λ x hx=>.inr ⟨m,s,hc.1,hs,?_⟩⟩;have hlo:s.rc.lo=(gs m).nxt:=by rw[hr.rc]
    have:=(q3 id e h).2 (by
                 rcases ht with ht|ht; · exact .inr ht
                 ·exact .inl (by rw[←hlo]; exact ht.1)) x hx
    rcases this with h'|h'
    ·exact .inl h'
    ·right; rw[hr.rc]; exact h'
  ·exact ug C m (by omega) e h
theorem Dj [Tags] (C:DrawAt E ops all st ts gf gs anc) {t:Nat} (ht:t<st.slots.length):∀ m,m<=ops.length->∃ v,yC ops ts S st m t=some v
 | 0,_=>⟨st.slots[t],List.getElem?_eq_getElem ht⟩
 | m+1,hm=>by
  obtain⟨o,s,ho,hs,hst⟩:=C.T.get (show m<ops.length by omega);simp only[yC,ho,hs];split
  ·next hc=>
   split
   ·next acD=>
    obtain⟨v',hv',hok⟩:=(au (hst.run acD).out).2.1 t hc.2.1;exact⟨v',hv'⟩
   ·exact⟨_,rfl⟩
  ·exact Dj C ht m (by omega)
theorem rQ [Tags] (C:DrawAt E ops all st ts gf gs anc) (hAi:∀ k∈anc i,S k) (hi:¬ S i) (hNd:∀ j,S j->i∉anc j) (hin:i<ops.length) {N t:Nat} {v:AV} (aeW:∀ (k:Nat) (o:Oper),ops[k]?=some o->o.dst=some t->k∈anc i∨i∈anc k)
  (hv:(gs i).slots[t]?=some v):(sS ops ts st N S).slots[t]?=some v:=by
 obtain⟨g1,g2,g3⟩:=Nr C.T i (by omega);have hlt:t<st.slots.length:=by
  rw[←g2];rcases Nat.lt_or_ge t (gs i).slots.length with h|h
  ·exact h
  ·rw[alO h] at hv; cases hv
 rw[Lr,if_pos hlt,(Di C.T hAi hi (C.T.anc_lt i hin) (λ k hk=>C.T.anc_lt k hk) hNd aeW ops.length (amm _)).2 (by omega),←g1 t,hv];rfl
theorem RE [Tags] (hE:Ze P A.gl E) (hA:A.dl=[]/\A.dps=[]) (C:DrawAt E ops all st ts gf gs anc) {opsA:Array Oper} (aea:opsA.toList=ops) {o:Oper} {si:Stp} (ho:ops[i]?=some o) (hsi:ts[i]?=some si)
  (hD:∀ j,S j->∀ k∈anc j,S k) (hAi:∀ k∈anc i,S k) (hi:¬ S i) (ahn:∀ q∈A.pins,q.1<st.nxt) (hr:Rel0 B X A w0 γ loc (sS ops ts st gf.nxt S) a w)
  (hn:(si.run=true->Pres o.dst.toList si.p si.p')->∀ a' w',Rel B X A w0 (sS ops ts st gf.nxt (λ j=>S j∨j=i)) a' w'->next a' w'):
  if Region.wanted o (yielded opsA a.tmps) then o.wp P a w next Q else next (a.put o.dst undef) w:=by
 classical
 have hin:=C.T.lt_of hsi;obtain⟨o',s',ho',hs',hst⟩:=C.T.get hin;rw[ho] at ho'; rw[hsi] at hs'
 cases ho'; cases hs'
 obtain⟨a1,a2,a3,a4,a5⟩:=C.T.nums hsi;obtain⟨cf1,cf2⟩:=C.T.cfs hsi;obtain⟨g1,g2,g3⟩:=Nr C.T i (by omega);obtain⟨t1,t2⟩:=C.tabs (i:=i) (by omega);have hNd:∀ j,S j->i∉anc j:=λ j hj h=>hi (hD j hj i h);have aih:=λ id=>ue C.T hNd hi hsi id ops.length (Nat.le_refl _);have hsl:=λ t=>Dg C.T C.N hi ho hsi t ops.length (Nat.le_refl _);have afa:(gs (i+1)).nxt<=gf.nxt:=by rw[←C.T.last]; exact C.T.mono (by omega) (Nat.le_refl _)
-- the guard
 have hw:Region.wanted o (yielded opsA a.tmps)=si.run:=by
  have hg:=hst.guard;unfold Region.wanted;split at hg
  ·next h=>rw[h,hg]
  ·next j want h=>
   rw[h];simp only;obtain⟨hj,d,hd,hg⟩:=hg;have aeW:∀ (k:Nat) (o:Oper),ops[k]?=some o->o.dst=some d->k∈anc i∨i∈anc k:=by
    intro k ok hk hkd;left;obtain⟨oj,hoj,hdj⟩:=Option.bind_eq_some_iff.1 hd;rw[nS C.N hk hoj hkd hdj];exact hj
   have hd':(opsA.toList[j]?).bind (·.dst)=some d:=by rw[aea]; exact hd
   have ad7:Rel B X A w0 (sS ops ts st gf.nxt S) a w:=⟨γ,loc,hr⟩
   rcases hg with⟨x,hx,acD⟩|⟨hx,acD⟩
   ·have hx':=rQ (S:=S) (N:=gf.nxt) C hAi hi hNd hin aeW hx;rw[EJ hd' (gE ad7 hx') (Dn ad7 hx'),acD];cases x<;>cases want<;>rfl
   ·have hx':=rQ (S:=S) (N:=gf.nxt) C hAi hi hNd hin aeW hx;rw[EK hd' (gE ad7 hx') (Dm ad7 hx'),acD];rfl
 rw[hw];cases acD:si.run with
 | false=>
  simp only[alM,if_false];have hsk:=hst.skip acD;refine hn (λ h=>by rw[acD] at h; cases h) _ _ ?_
  obtain⟨γ',loc',hr'⟩:=(show Rel B X A w0 (sS ops ts st gf.nxt S) a w from⟨γ,loc,hr⟩).putUndef (dst:=o.dst);refine⟨γ',loc',hr'.same hA ?_ ?_ ?_ (by cases o.dst<;>exact Nat.le_refl _)⟩
  ·cases o.dst<;>simp[St.put,Ms]
  ·intro t v hv;rw[Lr,hsl t] at hv;split at hv
   ·next hlt=>
    split at hv
    ·next hc=>
     simp only[Stp.out,acD] at hv;simp at hv;subst hv;rw[hc.2.1];simp only[St.put];rw[List.getElem?_set_self (by rw[Ms]; exact hlt)]
    ·next hc=>
     have hne:o.dst≠some t:=λ h=>hc ⟨hin,h,hlt⟩;have:(sS ops ts st gf.nxt S).slots[t]?=some v:=by rw[Lr,if_pos hlt]; exact hv
     cases hod:o.dst with
     | none=>simpa[St.put] using this
     | some d=>
      simp only[St.put];rw[List.getElem?_set_ne (λ h=>hne (by rw[hod,h]))];exact this
   ·cases hv
  ·intro id e he;have e1:(St.put (sS ops ts st gf.nxt S) o.dst (.tup [])).tab=(sS ops ts st gf.nxt S).tab:=by cases o.dst<;>rfl
   rw[e1,Lq];rw[Lq,aih id] at he;have hnt:¬ si.touch id:=λ ht=>by
    simp only[Stp.touch,hsk.rc] at ht;rcases ht with h|⟨h1,h2⟩
    ·simp at h
    ·omega
   rw[if_neg (λ h:i<ops.length/\si.touch id=>hnt h.2)] at he;exact he
 | true=>
  simp only[if_true];have hR:=hst.run acD;obtain⟨q1,q2,q3⟩:=au hR.out;obtain⟨n1,n2⟩:=aa3 hR.seen;have hrc:=hR.rc;have hlo:si.rc.lo=(gs i).nxt:=by rw[hrc]
  have hhi:si.rc.hi=si.p'.nxt:=by rw[hrc]
  have hp:=hR.p;have aiv:si.p.slots=Ko o.op (Z7 (gs i).slots (Z4 all ((ts.take i).map (·.rc)).length (anc i) ops 0) o.op.operands.toList):=by rw[hp]; rfl
  obtain⟨pl1,pl2⟩:=Bn (gs i).slots (Z4 all ((ts.take i).map (·.rc)).length (anc i) ops 0) o.op.operands.toList;have aiw:∀ id,look si.p.tab id=if id∈si.rc.cf then (look (gs i).tab id).map (λ e=>match si.rc.wr.elem id with|true=>e|false=>jK (gs i).lvl ((gs i).lvl+1) e) else none:=by
   intro id;have e1:si.p.tab=Kw (gs i) si.rc.wr si.rc.cf:=by rw[hp,hrc]; rfl
   rw[e1];exact nI (gs i) si.rc.wr id si.rc.cf
  have ajd:∀ id∈si.rc.cf,look (sS ops ts st gf.nxt S).tab id=look (gs i).tab id:=by
   intro id hid;have ajA:id<gf.nxt:=by have:=(n1 id (cf1 id hid)).1; have:=C.T.mono (i:=i) (j:=i+1) (by omega) (by omega); omega
   rw[Lq,if_pos ajA,(uf C.T hAi hNd hi hsi hid ops.length (amm _)).2 (by omega),t1 id]
  refine Sa (C:=si.rc.wr) (lo:=si.rc.lo) (hi:=si.rc.hi) (s':=sS ops ts st gf.nxt (λ j=>S j∨j=i)) hE hr hA ?_ ?_ hhi.symm ?_ ?_ ?_ ?_ ?_ ?_ ?_ ?_ hR.op rfl rfl (by rw[Ms,Ms]) ?_ ?_ (λ adB=>hn (λ _=>adB))
  ·rw[hp]; exact g3
  ·rw[hp,hlo]; rfl
  ·rw[a2]; exact afa
  ·rw[aiv,UG,pl1,g2,Ms]
  ·intro t v hv;rw[aiv] at hv;have aeQ:Operand.tmp t∈o.op.operands.toList->v.lt si.rc.lo:=by
    intro h3;refine AV.lt_of_ids λ x hx=>a4 x ?_;rw[hrc];have hx':=uW (st:={ (gs i) with slots:=Ko o.op (Z7 (gs i).slots (Z4 all ((ts.take i).map (·.rc)).length (anc i) ops 0) o.op.operands.toList)}) (t:=t) (v:=v) hv h3 x hx;simp only[Mt];exact List.mem_append_left _ hx'
   have afA:∀ {v0:AV},(gs i).slots[t]?=some v0->t∉Z4 all ((ts.take i).map (·.rc)).length (anc i) ops 0->(sS ops ts st gf.nxt S).slots[t]?=some v0:=by
    intro v0 h1 h2;exact rQ C hAi hi hNd hin (λ k ok hk hkd=>by
     have hlen:((ts.take i).map (·.rc)).length=i:=by simp; have:=C.T.len; omega
     rw[hlen] at h2;rcases uV h2 k ok hk hkd with h|h
     ·left; simpa using h
     ·right; exact C.T.waits C.hall (by simpa using h)) h1
   rcases UH hv with hv'|⟨xs,j,hv',rfl⟩
   ·rcases pl2 t v hv' with h|⟨h1,h2,h3⟩
    ·exact .inl h
    ·exact .inr ⟨⟨v,afA h1 h2,λ _ _ h=>h⟩,aeQ h3⟩
   ·rcases pl2 t _ hv' with h|⟨h1,h2,h3⟩
    ·cases h
    ·exact .inr ⟨⟨_,afA h1 h2,λ loc x h=>by obtain⟨vs,e1,e2⟩:=h; exact⟨vs,e1,wB j e2⟩⟩,aeQ h3⟩
  ·intro id e he;rw[aiw id] at he;split at he
   ·next hid=>
    obtain⟨e0,he0,hee⟩:=Option.map_eq_some_iff.1 he;obtain⟨m1,m2⟩:=n1 id (cf1 id hid);obtain⟨m3,m4⟩:=m2 e0 he0;have aib:e0.lt si.rc.lo:=Ent.lt_of_ids λ x hx=>a4 x (m4 x hx);have hs0:look (sS ops ts st gf.nxt S).tab id=some e0:=by rw[ajd id hid]; exact he0
    by_cases hw:id∈si.rc.wr
    ·rw[amB hw] at hee;simp only at hee;subst hee;exact⟨a4 id (cf1 id hid),aib,.inl ⟨hw,hs0⟩⟩
    ·have:si.rc.wr.elem id=false:=by
      cases h:si.rc.wr.elem id with
      | false=>rfl
      | true=>exact absurd (List.mem_of_elem_eq_true h) hw
     rw[this] at hee;simp only at hee;subst hee;refine⟨a4 id (cf1 id hid),wi aib,.inr ⟨hw,e0,hs0,?_,?_⟩⟩
     ·rw[g3] at m3; exact m3
     ·rw[g3]; rfl
   ·cases he
  ·intro id hid;obtain⟨m1,e,m2⟩:=n2 id hid;exact⟨e,by rw[aiw id,if_pos (cf2 id hid),m2,amB hid]; rfl⟩
  ·intro t v hv x hx;rw[Lr] at hv;split at hv
   ·next hlt=>
    obtain⟨v',hv'⟩:=Dj (S:=S) C hlt ops.length (Nat.le_refl _);rw[hv'] at hv;simp only[alZ,alq] at hv;subst hv;exact eG C.T hD hi hsi (Dl C ops.length (Nat.le_refl _) _ hv' x hx)
   ·cases hv
  ·intro id e he;rw[Lq] at he;split at he
   ·obtain⟨k1,k2⟩:=ug C ops.length (Nat.le_refl _) e he;exact⟨eG C.T hD hi hsi k1,λ x hx=>eG C.T hD hi hsi (k2 x hx)⟩
   ·cases he
  ·intro q hq;exact eG C.T hD hi hsi (.inl (ahn q hq))
  ·intro t v hv;rw[Lr,hsl t] at hv;split at hv
   ·next hlt=>
    split at hv
    ·next hc=>
     simp only[Stp.out,acD,if_true] at hv;obtain⟨v',hv',_⟩:=q2 t hc.2.1;rw[hv'] at hv;simp only[alZ,alq] at hv;subst hv;exact .inl ⟨hc.2.1,hv'⟩
    ·next hc=>exact .inr ⟨λ h=>hc ⟨hin,h,hlt⟩,by rw[Lr,if_pos hlt]; exact hv⟩
   ·cases hv
  ·intro id e he;rw[Lq,aih id] at he;split at he
   ·next hlt=>
    split at he
    ·next hc=>
     have ht:id∈si.rc.wr∨(si.rc.lo<=id/\id<si.rc.hi):=hc.2;exact .inl ⟨ht,he⟩
    ·next hc=>
     have hnt:¬ (id∈si.rc.wr∨(si.rc.lo<=id/\id<si.rc.hi)):=λ h=>hc ⟨hin,h⟩;exact .inr ⟨λ h=>hnt (.inl h),λ h=>hnt (.inr h),by rw[Lq,if_pos hlt]; exact he⟩
   ·cases he
variable {B:Nat} {X:List Nat} {A:Ctx} {w0:World} {γ:Nat->Own} {loc:Nat->Value} {R:Type} {r:R}
theorem Dh [Tags] (hT:TraceI E ops all st ts gf gs anc) {t:Nat} (ht:t∉Je ops):∀ m,m<=ops.length->yC ops ts S st m t=st.slots[t]?
 | 0,_=>rfl
 | m+1,hm=>by
  obtain⟨o,s,ho,hs,hst⟩:=hT.get (show m<ops.length by omega);simp only[yC,ho,hs];rw[if_neg,Dh hT ht m (by omega)];exact λ h=>ht (List.mem_filterMap.2 ⟨o,List.mem_of_getElem? ho,h.2.1⟩)
theorem RD [Tags] (C:DrawAt E ops all st ts gf gs anc) (hP:∀ (j:Nat) (o:Oper) (s:Stp),ops[j]?=some o->ts[j]?=some s->s.run=true->Pres o.dst.toList s.p s.p'):Pres (Je ops) st gf:=by
 obtain⟨g1,g2,g3⟩:=Nr C.T ops.length (Nat.le_refl _);obtain⟨t1,t2⟩:=C.tabs (Nat.le_refl ops.length);have hnx:=C.T.mono (i:=0) (j:=ops.length) (by omega) (Nat.le_refl _);rw[C.T.last] at g1 g2 g3 t1 t2 hnx;rw[C.T.first] at hnx;refine⟨g3,hnx,?_,λ t ht=>by rw[g1 t,Dh C.T ht _ (amm _)],g2⟩;intro id e he hpr;have hid:id<st.nxt:=(C.elt id e he).2;rw[t1 id];have key:∀ m,m<=ops.length->yD ts (λ _=>True) st m id=some e:=by
  intro m;induction m with
  | zero=>intro _; exact he
  | succ m ih=>
   intro hm;have ih:=ih (by omega);obtain⟨o,s,ho,hs,hst⟩:=C.T.get (show m<ops.length by omega);obtain⟨b1,b2,b3,b4,b5⟩:=C.T.nums hs;simp only[yD,hs];split
   ·next hc=>
    have h0:=C.T.mono (i:=0) (j:=m) (by omega) (by omega);rw[C.T.first] at h0;have ht:id∈s.rc.wr∨(s.rc.lo<=id/\id<s.rc.hi):=hc.2;rcases ht with ht|ht
    ·cases acD:s.run with
     | false=>
      rw[(hst.skip acD).rc] at ht;simp at ht
     | true=>
      have hR:=hst.run acD;obtain⟨_,_,gl⟩:=Nr C.T m (by omega);have hpt:look s.p.tab id=some e:=by
       have e1:s.p.tab=Kw (gs m) s.rc.wr s.rc.cf:=by rw[hR.p,hR.rc]; rfl
       rw[e1,nI,if_pos ((C.T.cfs hs).2 id ht),(C.tabs (i:=m) (by omega)).1 id,ih,amB ht];rfl
      have hlv:s.p.lvl=st.lvl:=by rw[hR.p]; exact gl
      exact (hP m o s ho hs acD).tab id e hpt (by rw[hlv]; exact hpr)
    ·omega
   ·exact ih
 exact key ops.length (Nat.le_refl _)
theorem Ry {n:Nat} (h:∀ j<n,S j) (id:Nat):yD ts S st n id=yD ts (λ _=>True) st n id:=by
 induction n with
 | zero=>rfl
 | succ n ih=>
  have hS:=h n (by omega);have ih:=ih (λ j hj=>h j (by omega));unfold yD;cases ts[n]? with
  | none=>exact ih
  | some s=>
   simp only;by_cases ht:s.touch id
   ·rw[if_pos ⟨hS,ht⟩,if_pos ⟨trivial,ht⟩]
   ·rw[if_neg (λ h=>ht h.2),if_neg (λ h=>ht h.2)]; exact ih
theorem aac {n:Nat} (h:∀ j<n,S j) (t:Nat):yC ops ts S st n t=yC ops ts (λ _=>True) st n t:=by
 induction n with
 | zero=>rfl
 | succ n ih=>
  have hS:=h n (by omega);have ih:=ih (λ j hj=>h j (by omega));unfold yC;split
  ·next o s ho hs=>
   by_cases ht:o.dst=some t/\t<st.slots.length
   ·have e1:S n/\o.dst=some t/\t<st.slots.length:=⟨hS,ht⟩
    have e2:True/\o.dst=some t/\t<st.slots.length:=⟨trivial,ht⟩
    rw[if_pos e1,if_pos e2]
   ·have e1:¬ (S n/\o.dst=some t/\t<st.slots.length):=λ h=>ht h.2;have e2:¬ (True/\o.dst=some t/\t<st.slots.length):=λ h=>ht h.2;rw[if_neg e1,if_neg e2]; exact ih
  ·exact ih
theorem pK {opsA:Array Oper} {listed:Array Bool} (hsz:listed.size=opsA.size) {i:Nat}:i∈Region.ready .any opsA listed↔
  ∃ o,opsA.toList[i]?=some o/\listed.getD i false=false/\∀ e∈o.after.toList,Region.binds .any e=true->listed.getD e.on false=true:=by
 unfold Region.ready;rw[anf,amu];constructor
 ·rintro⟨h1,h2⟩;simp only[alp,alU] at h2;rw[am2 h1] at h2;refine⟨opsA[i],by rw[amk,am2 h1],?_,?_⟩
  ·have:=h2.1;simp only[am0] at *;rw[am2 (by omega)] at *;simpa using this
  ·intro e he hb;have h3:=h2.2;simp only[am4,alZ,ao1] at h3;have:=h3 e (Array.mem_toList_iff.1 he);simpa[hb] using this
 ·rintro⟨o,ho,h1,h2⟩;rw[amk] at ho;have hlt:i<opsA.size:=by
   rcases Nat.lt_or_ge i opsA.size with h|h
   ·exact h
   ·rw[amE h] at ho; cases ho
  refine⟨hlt,?_⟩;simp only[alp,alU,ho,am4,alZ,ao1];refine⟨?_,?_⟩
  ·simp only[am0] at *;rw[am2 (by omega)] at *;simpa using h1
  ·intro e he;cases hb:Region.binds .any e with
   | false=>rfl
   | true=>rw[h2 e (Array.mem_toList_iff.2 he) hb]; rfl
theorem Ps [Tags] {opsA:Array Oper} {listed:Array Bool} (hsz:listed.size=opsA.size) (hed:Nf opsA.toList 0=true) (hr:Region.ready .any opsA listed=[]):∀ j<opsA.size,listed.getD j false=true:=by
 intro j;induction j using Nat.strongRecOn with
 | ind j ih=>
  intro hj;cases h:listed.getD j false with
  | true=>rfl
  | false=>
   have hm:j∈Region.ready .any opsA listed:=by
    have ho:opsA.toList[j]?=some opsA[j]:=by rw[amk,am2 hj]
    refine (pK hsz).2 ⟨opsA[j],ho,h,λ e he hb => ?_⟩;have hlt:=um hed j _ ho e he hb;exact ih e.on (by omega) (by omega)
   rw[hr] at hm;simp at hm
theorem Up {listed:Array Bool} {i j:Nat} (hi:i<listed.size):((listed.setIfInBounds i true).getD j false=true)=(listed.getD j false=true∨j=i):=by
 rw[am0,am0,anq];by_cases h:i=j
 ·subst h; simp[hi]
 ·have:¬ j=i:=λ e=>h e.symm;simp[h,this]
theorem count_set {listed:Array Bool} {i n:Nat} (hi:i<listed.size) (hf:listed.getD i false=false) (h:listed.toList.count false<=n+1):(listed.setIfInBounds i true).toList.count false<=n:=by
 have hl:i<listed.toList.length:=by simpa using hi
 rw[an1,List.count_set hl];have:listed.toList[i]=false:=by
  rw[am0,am2 hi] at hf;simpa using hf
 rw[this];have e1:(false==false)=true:=rfl;have e2:(true==false)=false:=rfl;rw[e1,e2];simp only[if_true,alM,if_false];omega
theorem Rx {listed:Array Bool} (h:listed.toList.count false<=0):∀ j<listed.size,listed.getD j false=true:=by
 intro j hj;have h0:listed.toList.count false=0:=by omega
 have:=List.count_eq_zero.1 h0;rw[am0,am2 hj];simp only[alZ];cases hb:listed[j] with
 | true=>rfl
 | false=>exact absurd (by rw[←hb]; simp) this
theorem RF [Tags] (hE:Ze P A.gl E) (hA:A.dl=[]/\A.dps=[]) (C:DrawAt E ops all st ts gf gs anc) {opsA:Array Oper} (aea:opsA.toList=ops) (ahn:∀ q∈A.pins,q.1<st.nxt)
  (hQ:Pres (Je ops) st gf->∀ a' w',Rel B X A w0 gf a' w'->Q .normal a' w'):
  ∀ (fuel:Nat) (listed:Array Bool) (a:Act) (w:World),listed.size=opsA.size->listed.toList.count false<=fuel->(∀ j,listed.getD j false=true->∀ k∈anc j,listed.getD k false=true)->
   (∀ (j:Nat) (o:Oper) (s:Stp),listed.getD j false=true->ops[j]?=some o->ts[j]?=some s->s.run=true->Pres o.dst.toList s.p s.p')->
   Rel B X A w0 (sS ops ts st gf.nxt (λ j=>listed.getD j false=true)) a w->wpAny P .any opsA Q fuel listed a w:=by
 have hlen:opsA.size=ops.length:=by rw[←aea,amb]
 have adu:∀ (listed:Array Bool) (a:Act) (w:World),(∀ j<opsA.size,listed.getD j false=true)->
   (∀ (j:Nat) (o:Oper) (s:Stp),listed.getD j false=true->ops[j]?=some o->ts[j]?=some s->s.run=true->Pres o.dst.toList s.p s.p')->
   Rel B X A w0 (sS ops ts st gf.nxt (λ j=>listed.getD j false=true)) a w->Q .normal a w:=by
  intro listed a w hall hP ad7;have agO:∀ j<ops.length,listed.getD j false=true:=λ j hj=>hall j (by omega);refine hQ (RD C λ j o s ho hs acD=>hP j o s (agO j (C.T.lt_of hs)) ho hs acD) a w ?_;obtain⟨γ,loc,hr⟩:=ad7;obtain⟨g1,g2,g3⟩:=Nr C.T ops.length (Nat.le_refl _);obtain⟨t1,t2⟩:=C.tabs (Nat.le_refl ops.length);rw[C.T.last] at g1 g2 g3 t1 t2;refine⟨γ,loc,hr.same hA (by rw[g2,Ms]) ?_ ?_ (Nat.le_refl _)⟩
  ·intro t v hv;have hlt:t<st.slots.length:=by
    rw[←g2];rcases Nat.lt_or_ge t gf.slots.length with h|h
    ·exact h
    ·rw[alO h] at hv; cases hv
   rw[Lr,if_pos hlt,aac agO t,←g1 t,hv];rfl
  ·intro id e he;rw[Lq,if_pos (t2 id e he),Ry agO id,←t1 id,he]
 intro fuel;induction fuel with
 | zero=>
  intro listed a w hsz hc hD hP ad7;have hall:=Rx hc;refine⟨?_,adu listed a w (λ j hj=>hall j (by omega)) hP ad7⟩;apply List.eq_nil_iff_forall_not_mem.2;intro i hi;obtain⟨o,ho,hf,_⟩:=(pK hsz).1 hi;have hlt:i<opsA.size:=by
   rw[←amb];rcases Nat.lt_or_ge i opsA.toList.length with h|h
   ·exact h
   ·rw[alO h] at ho; cases ho
  rw[hall i (by omega)] at hf;cases hf
 | succ fuel ih=>
  intro listed a w hsz hc hD hP ad7;refine⟨λ hr=>adu listed a w (Ps hsz (by rw[aea]; exact C.edges) hr) hP ad7,?_⟩
  intro i hi;obtain⟨o,ho,hf,hed⟩:=(pK hsz).1 hi;have hlt:i<opsA.size:=by
   rw[←amb];rcases Nat.lt_or_ge i opsA.toList.length with h|h
   ·exact h
   ·rw[alO h] at ho; cases ho
  have hoA:opsA[i]?=some o:=by rw[←amk]; exact ho
  rw[aea] at ho;obtain⟨o',si,ho',hsi,hst⟩:=C.T.get (show i<ops.length by omega);rw[ho] at ho';cases ho';have hAi:=C.T.anc_in (S:=λ j=>listed.getD j false=true) hD ho hed;have adh:∀ j,((listed.setIfInBounds i true).getD j false=true)=(listed.getD j false=true∨j=i):=λ j=>Up (by omega);obtain⟨γ,loc,hr⟩:=ad7;unfold wpOp;rw[hoA];simp only;have acP:=RE (P:=P) (Q:=Q) (next:=wpAny P .any opsA Q fuel (listed.setIfInBounds i true)) (S:=λ j=>listed.getD j false=true) hE hA C aea ho hsi hD hAi (by simp[hf]) ahn hr ?_
  ·split at acP
   ·next hw=>rw[if_pos hw]; exact .inl acP
   ·next hw=>rw[if_neg hw]; exact acP
  ·intro hpr a' w' akk;refine ih _ a' w' (by simpa using hsz) (count_set (by omega) hf hc) ?_ ?_ ?_
   ·intro j hj k hk;rw[adh] at hj ⊢;rcases hj with hj|rfl
    ·exact .inl (hD j hj k hk)
    ·exact .inl (hAi k hk)
   ·intro j oj sj hj hoj hsj acD;rw[adh] at hj;rcases hj with hj|rfl
    ·exact hP j oj sj hj hoj hsj acD
    ·rw[ho] at hoj; rw[hsi] at hsj
     cases hoj; cases hsj
     exact hpr acD
   ·have e:(λ j=>(listed.setIfInBounds i true).getD j false=true)=λ j=>listed.getD j false=true∨j=i:=funext adh;rw[e];exact akk
theorem aat [Tags] (hE:Ze P A.gl E) (hA:A.dl=[]/\A.dps=[]) {id:Nat} {ops:Array Oper} {k:St->Option R} (hk:mw E ops.toList st k=some r) (hr:Rel B X A w0 st a w)
  (hQ:∀ st',k st'=some r->Pres (Je ops.toList) st st'->∀ a' w',Rel B X A w0 st' a' w'->Q .normal a' w'):(Code.region id ops true).wp P Q a w:=by
 unfold mw at hk;split at hk
 ·next hck=>
  simp only[alp] at hck;obtain⟨⟨hed,hnd⟩,hlv⟩:=hck;obtain⟨ts,gf,hT,hgf⟩:=sR ops.toList [] [] st k hk;obtain⟨gs,anc,hTI⟩:=Ei (ops:=ops.toList) (st:=st) (E:=E) ops.toList [] [] (λ _=>st) (λ _=>[]) st ts gf rfl rfl rfl rfl (by simp) (by simp) hT;simp only[alL] at hTI;obtain⟨γ,loc,hr0⟩:=hr;have C:DrawAt E ops.toList (KX ops.toList []) st ts gf gs anc:=⟨hTI,eN hnd,hed,rfl,hr0.slt,hr0.elt⟩
  refine wp_region_any hE.mixed ?_;refine RF hE hA C rfl (λ q hq=>(hr0.pins q hq).1) (λ hp a' w' ad7=>hQ gf hgf hp a' w' ad7) ops.size _ a _ (by simp) (by simp) ?_ ?_ ?_
  ·intro j hj;simp[am0,anh] at hj;split at hj<;>simp at hj
  ·intro j o s hj;simp[am0,anh] at hj;split at hj<;>simp at hj
  ·have hno:∀ j,¬ ((Array.replicate ops.size false).getD j false=true):=by
    intro j hj;simp[am0,anh] at hj;split at hj<;>simp at hj
   have hnx:=hTI.mono (i:=0) (j:=ops.toList.length) (by omega) (Nat.le_refl _);rw[hTI.first,hTI.last] at hnx;refine⟨γ,loc,(hr0.drew).same hA Ms ?_ ?_ hnx⟩
   ·intro t v hv;rw[Lr] at hv;split at hv
    ·next hlt=>
     have key:∀ m,m<=ops.toList.length->yC ops.toList ts (λ j=>(Array.replicate ops.size false).getD j false=true) st m t=st.slots[t]?:=by
      intro m;induction m with
      | zero=>intro _; rfl
      | succ m ih=>
       intro hm;obtain⟨o,s,ho,hs,hst⟩:=hTI.get (show m<ops.toList.length by omega);simp only[yC,ho,hs];rw[if_neg (λ h=>hno m h.1)];exact ih (by omega)
     rw[key _ (amm _),am5 hlt] at hv;rw[am5 hlt];simpa using hv
    ·cases hv
   ·intro id e he;rw[Lq] at he;split at he
    ·have key:∀ m,m<=ops.toList.length->yD ts (λ j=>(Array.replicate ops.size false).getD j false=true) st m id=look st.tab id:=by
      intro m;induction m with
      | zero=>intro _; rfl
      | succ m ih=>
       intro hm;obtain⟨o,s,ho,hs,hst⟩:=hTI.get (show m<ops.toList.length by omega);simp only[yD,hs];rw[if_neg (λ h=>hno m h.1)];exact ih (by omega)
     rw[key _ (amm _)] at he;exact he
    ·cases he
 ·cases hk
def MO:Ev.X->Exit
 | .normal=>.normal
 | .exit id=>.exit id
 | .ret=>.ret
theorem Rel.lower [Tags] (h:Rel B X A w0 st a w) (lo:Nat):Rel B X A w0 (lower st lo) a w:=by
 obtain⟨γ,loc,hr⟩:=h;refine⟨γ,loc,{ hr with size:=hr.size,slots:=hr.slots,slt:=hr.slt,ents := ?_,elt := ?_,pins:=hr.pins,dlab := ?_,glob:=hr.glob,rtag:=hr.rtag,dpc:=hr.dpc }⟩
 ·intro id e he;rw[eA] at he;obtain⟨e0,h1,rfl⟩:=Option.map_eq_some_iff.1 he;exact ut (hr.ents id e0 h1)
 ·intro id e he;rw[eA] at he;obtain⟨e0,h1,rfl⟩:=Option.map_eq_some_iff.1 he;exact⟨wi (hr.elt id e0 h1).1,(hr.elt id e0 h1).2⟩
 ·intro p hp hhi;obtain⟨k1,k2,k3,k4⟩:=hr.dlab p hp hhi;exact⟨k1,k2,by rw[eA,k3]; rfl,k4⟩
theorem af [Tags] {lvl:Nat} {D:List Nat}:∀ {its:List Item} {v:dens (its.map Item.ty)} {sl sl':List AV} {tab tab':List (Nat×Ent)} {j j':Nat},ju lvl its v sl tab j=some (sl',tab',j')->
  its.all (λ it=>it.within D)=true->(∀ id<j,id∉yu its->look tab' id=look tab id)/\sl'.length=sl.length/\∀ t,t∉D->sl'[t]?=sl[t]?
 | [],v,sl,sl',tab,tab',j,j',h,_=>by
  simp only[ju,alq,alw] at h;obtain⟨rfl,rfl,rfl⟩:=h;exact⟨λ _ _ _=>rfl,rfl,λ _ _=>rfl⟩
 | .slot t ty k::r,v,sl,sl',tab,tab',j,j',h,hw=>by
  simp only[alX,alp] at hw;simp only[ju] at h;split at h
  ·next x hmk=>
   obtain⟨h1,h2,h3⟩:=af h hw.2;have hle:=(ji k lvl ty v.1 j).le;refine⟨?_,by rw[h2]; simp,?_⟩
   ·intro id hid hb;rw[h1 id (Nat.lt_of_lt_of_le hid hle) hb];exact nF hid
   ·intro t' ht';rw[h3 t' ht',amP];intro e;subst e;have:t∈D:=by simpa[Item.within] using hw.1
    exact ht' this
  ·cases h
 | .box id0 ty k::r,v,sl,sl',tab,tab',j,j',h,hw=>by
  simp only[alX,alp] at hw;simp only[ju] at h;obtain⟨h1,h2,h3⟩:=af h hw.2;have hle:=(ji k lvl ty v.1 j).le;refine⟨?_,h2,h3⟩;intro id hid hb;simp only[yu,alH,not_or] at hb;rw[h1 id (Nat.lt_of_lt_of_le hid hle) hb.2,nF hid,ZD,if_neg hb.1]
 | .row id0 E e k::r,v,sl,sl',tab,tab',j,j',h,hw=>by
  simp only[alX,alp] at hw;have h:ju lvl r v.2 sl (yq tab id0 (.arr k lvl E e v.1)) j=some (sl',tab',j'):=h;obtain⟨h1,h2,h3⟩:=af h hw.2;refine⟨?_,h2,h3⟩;intro id hid hb;simp only[yu,alH,not_or] at hb;rw[h1 id hid hb.2,ZD,if_neg hb.1]
 | .keep id0 ty tm::r,v,sl,sl',tab,tab',j,j',h,hw=>by
  simp only[alX,alp] at hw;have h:ju lvl r v.2 sl (yq tab id0 (.box lvl (mixLs ty v.1 (yH tm)).1)) j=some (sl',tab',j'):=h;obtain⟨h1,h2,h3⟩:=af h hw.2;refine⟨?_,h2,h3⟩;intro id hid hb;simp only[yu,alH,not_or] at hb;rw[h1 id hid hb.2,ZD,if_neg hb.1]
theorem uL:∀ {D:List Nat} {sl:List AV} {t:Nat},t∉D->(K9 sl D)[t]?=sl[t]?
 | [],sl,t,_=>rfl
 | d::D,sl,t,h=>by
  simp only[alH,not_or] at h;rw[K9,uL h.2,amP (λ e=>h.1 e.symm)]
def Pn (st:St) (ids:List Nat) (id:Nat):Prop:=(∃ e,look st.tab id=some e/\¬ e.prot st.lvl)/\id∉ids
theorem U0 {st:St} {id:Nat} {ids:List Nat} (h:∀ i∈ids,jA st i) (hb:cA st id):id∉ids:=λ hm=>by
 obtain⟨lvl,cells,hl,_⟩:=hb;obtain⟨u,lvl',E',e,xs,hl',_⟩:=h id hm;rw[hl] at hl'; cases hl'
theorem N4:∀ {its:List Item} {id:Nat},id∈yu its->id∈Ju its∨∃ ty k,Item.box id ty k∈its
 | [],id,h=>by simp[yu] at h
 | .slot t ty k::r,id,h=>by
  rcases N4 (its:=r) h with h|⟨ty,k,h⟩
  ·exact .inl h
  ·exact .inr ⟨ty,k,by simp[h]⟩
 | .box id0 ty k::r,id,h=>by
  rcases List.mem_cons.1 h with rfl|h
  ·exact .inr ⟨ty,k,by simp⟩
  ·rcases N4 (its:=r) h with h|⟨ty,k,h⟩
   ·exact .inl h
   ·exact .inr ⟨ty,k,by simp[h]⟩
 | .row id0 E e k::r,id,h=>by
  rcases List.mem_cons.1 h with rfl|h
  ·exact .inl (by simp[Ju])
  ·rcases N4 (its:=r) h with h|⟨ty,k,h⟩
   ·exact .inl (by simp[Ju,h])
   ·exact .inr ⟨ty,k,by simp[h]⟩
 | .keep id0 ty0 tm::r,id,h=>by
  rcases List.mem_cons.1 h with rfl|h
  ·exact .inl (by simp[Ju])
  ·rcases N4 (its:=r) h with h|⟨ty,k,h⟩
   ·exact .inl (by simp[Ju,h])
   ·exact .inr ⟨ty,k,by simp[h]⟩
theorem M8 [Tags] {st:St}:∀ {its:List Item} {vs:dens (its.map Item.ty)} {ids:List Nat} {id:Nat} {ty:Ty} {k:Kind},jw st its=some (vs,ids)->Item.box id ty k∈its->cA st id
 | [],vs,ids,id,ty,k,h,hm=>by simp at hm
 | .row id0 E e k0::r,vs,ids,id,ty,k,h,hm=>by
  obtain⟨lvl,xs,vs',hl,hlv,hrk,acB,hn,rfl⟩:=fT h;rcases List.mem_cons.1 hm with hm|hm
  ·cases hm
  ·exact M8 acB hm
 | .keep id0 ty0 tm::r,vs,ids,id,ty,k,h,hm=>by
  obtain⟨v,vs',hl,_,acB,hn,rfl⟩:=fS h;rcases List.mem_cons.1 hm with hm|hm
  ·cases hm
  ·exact M8 acB hm
 | .slot t ty0 k0::r,vs,ids,id,ty,k,h,hm=>by
  obtain⟨ls,v,i1,vs',i2,hls,hc,hf,acB,hd,hdr,rfl,rfl⟩:=Ll (it:=.slot t ty0 k0) (by simp) h;rcases List.mem_cons.1 hm with hm|hm
  ·cases hm
  ·exact M8 acB hm
 | .box id0 ty0 k0::r,vs,ids,id,ty,k,h,hm=>by
  obtain⟨ls,v,i1,vs',i2,hls,hc,hf,acB,hd,hdr,rfl,rfl⟩:=Ll (it:=.box id0 ty0 k0) (by simp) h;rcases List.mem_cons.1 hm with hm|hm
  ·cases hm;simp only[Kh] at hls;split at hls
   ·next lvl cells hl=>
    split at hls
    ·next hlv=>exact⟨lvl,cells,hl,(zQ _ _).1 hlv⟩
    ·cases hls
   ·cases hls
  ·exact M8 acB hm
theorem Mm [Tags] (acL:∀ {its:List Item} {vs:dens (its.map Item.ty)} {ids:List Nat},jw st its=some (vs,ids)->∀ i∈ids,jA st i):
  ∀ {its:List Item} {vs:dens (its.map Item.ty)} {ids:List Nat},jw st its=some (vs,ids)->∀ id∈yu its,Pn st ids id
 | [],vs,ids,h=>by simp[yu]
 | .row id0 E e k::r,vs,ids,h=>by
  obtain⟨lvl,xs,vs',hl,hlv,hrk,acB,hn,rfl⟩:=fT h;intro id hid;rcases List.mem_cons.1 hid with rfl|hid
  ·exact⟨⟨_,hl,λ hp=>hp hlv⟩,hn⟩
  ·exact Mm acL acB id hid
 | .keep id0 ty0 tm::r,vs,ids,h=>by
  obtain⟨v,vs',hl,_,acB,hn,rfl⟩:=fS h;intro id hid;rcases List.mem_cons.1 hid with rfl|hid
  ·exact⟨⟨_,hl,λ hp=>hp rfl⟩,hn⟩
  ·exact Mm acL acB id hid
 | .slot t ty k::r,vs,ids,h=>by
  have ho:=acL h;obtain⟨ls,v,i1,vs',i2,hls,hc,hf,acB,hd,hdr,rfl,rfl⟩:=Ll (it:=.slot t ty k) (by simp) h;intro id hid;obtain⟨h1,h2⟩:=Mm acL acB id hid;refine⟨h1,λ hm => ?_⟩;rcases List.mem_append.1 hm with hm|hm
  ·rcases N4 (its:=r) hid with hr|⟨ty',k',hr⟩
   ·exact hdr id hm hr
   ·obtain⟨⟨e,he,_⟩,_⟩:=Mm acL acB id hid;obtain⟨u,lvl',E',e',xs,hl',_⟩:=ho id (List.mem_append_left _ hm);obtain⟨lvl,cells,hl,_⟩:=M8 acB hr;rw[hl] at hl'; cases hl'
  ·exact h2 hm
 | .box id0 ty k::r,vs,ids,h=>by
  have ho:=acL h;obtain⟨ls,v,i1,vs',i2,hls,hc,hf,acB,hd,hdr,rfl,rfl⟩:=Ll (it:=.box id0 ty k) (by simp) h;have hb0:cA st id0:=by
   simp only[Kh] at hls;split at hls
   ·next lvl cells hl=>
    split at hls
    ·next hlv=>exact⟨lvl,cells,hl,(zQ _ _).1 hlv⟩
    ·cases hls
   ·cases hls
  intro id hid;rcases List.mem_cons.1 hid with rfl|hid
  ·refine⟨?_,U0 ho hb0⟩;obtain⟨lvl,cells,hl,hlv⟩:=hb0;exact⟨_,hl,λ hp=>hp hlv⟩
  ·obtain⟨h1,h2⟩:=Mm acL acB id hid;refine⟨h1,λ hm => ?_⟩;rcases List.mem_append.1 hm with hm|hm
   ·rcases N4 (its:=r) hid with hr|⟨ty',k',hr⟩
    ·exact hdr id hm hr
    ·obtain⟨u,lvl',E',e',xs,hl',_⟩:=ho id (List.mem_append_left _ hm);obtain⟨lvl,cells,hl,_⟩:=M8 acB hr;rw[hl] at hl'; cases hl'
   ·exact h2 hm
theorem aY [Tags] {st:St} (hlt:∀ (id:Nat) (e:Ent),look st.tab id=some e->e.lt st.nxt):∀ {its:List Item} {vs:dens (its.map Item.ty)} {ids:List Nat},jw st its=some (vs,ids)->∀ i∈Ki its,i<st.nxt
 | [],vs,ids,h=>by simp[Ki]
 | .row id0 E e k::r,vs,ids,h=>by
  obtain⟨lvl,xs,vs',hl,hlv,hrk,acB,hn,rfl⟩:=fT h;exact λ i hi=>aY (its:=r) hlt acB i hi
 | .slot t ty0 k0::r,vs,ids,h=>by
  obtain⟨ls,v,i1,vs',i2,hls,hc,hf,acB,hd,hdr,rfl,rfl⟩:=Ll (it:=.slot t ty0 k0) (by simp) h;exact λ i hi=>aY (its:=r) hlt acB i hi
 | .box id0 ty0 k0::r,vs,ids,h=>by
  obtain⟨ls,v,i1,vs',i2,hls,hc,hf,acB,hd,hdr,rfl,rfl⟩:=Ll (it:=.box id0 ty0 k0) (by simp) h;exact λ i hi=>aY (its:=r) hlt acB i hi
 | .keep id0 ty0 tm::r,vs,ids,h=>by
  obtain⟨v,vs',hl,he,acB,hn,rfl⟩:=fS h;intro i hi;rcases List.mem_append.1 hi with hi|hi
  ·have h1:=hlt _ _ hl;rw[he] at hi;clear he hl;have h1:∀ l∈(mixLs ty0 v (yH tm)).1,l.lt st.nxt:=h1;generalize (mixLs ty0 v (yH tm)).1=ls at h1 hi;induction ls with
   | nil=>simp[zV] at hi
   | cons l r ih=>
    have hr:=ih (λ l hl=>h1 l (by simp[hl]));cases l with
    | sl m=>
     simp only[zV,alH] at hi;rcases hi with rfl|hi
     ·exact h1 (.sl i) List.mem_cons_self
     ·exact hr hi
    | _=>exact hr (by simpa[zV] using hi)
  ·exact aY hlt acB i hi
theorem sX {st:St} (h:eD st=true) {id:Nat} {e:Ent} (he:look st.tab id=some e):e.upto st.lvl=true:=by
 unfold eD at h;generalize st.tab=t at *;induction t with
 | nil=>cases he
 | cons x t ih=>
  obtain⟨k,e0⟩:=x;simp only[alX,alp] at h;simp only[look] at he;split at he
  ·cases he; exact h.1
  ·exact ih h.2 he
theorem Et {e:Ent} {n:Nat} (h:e.upto n=true):e.prot (n+1):=by
 cases e with
 | box lvl cs=>have:=Nat.le_of_ble_eq_true h; simp only[Ent.prot]; omega
 | cst cs=>trivial
 | arr k lvl E e xs=>have:=Nat.le_of_ble_eq_true h; simp only[Ent.prot]; omega
theorem Us {e:Ent} {n lo:Nat} (h:e.upto n=true):jK (n+1) lo e=e:=by
 cases e with
 | box lvl cs=>
  have:=Nat.le_of_ble_eq_true h;simp only[jK];rw[(ZA lvl (n+1)).2 (by omega)]
 | cst cs=>rfl
 | arr k lvl E e xs=>
  have:=Nat.le_of_ble_eq_true h;simp only[jK];rw[(ZA lvl (n+1)).2 (by omega)]
structure tw (A:Ctx) (st:St) (body:Code) (its:List Item) (ids:List Nat) (stx:St) (vs:dens (its.map Item.ty)) (ids2:List Nat):Prop where
 nxt:st.nxt<=stx.nxt
 len:stx.slots.length=st.slots.length
 slots:∀ t,t∉j7 body->stx.slots[t]?=st.slots[t]?
 ents:∀ (id:Nat) (e:Ent),look st.tab id=some e->id∉ids->id∉yu its->look stx.tab id=some e/\id∉ids2/\e.lt st.nxt/\id<st.nxt
 boxes:∀ id∈yu its,id<st.nxt/\id∉ids2
 kept:∀ id∈Ki its,id<st.nxt
 read:jw stx its=some (vs,ids2)
theorem Sk [Tags] {body:Code} {its:List Item} {ids:List Nat} {vs:dens (its.map Item.ty)} {h:St} (hh:Ns st body its ids vs=some h) (hw:its.all (λ it=>it.within (j7 body))=true)
  (hlt:∀ (id:Nat) (e:Ent),look st.tab id=some e->id<st.nxt):
  h.lvl=st.lvl+1/\st.nxt<=h.nxt/\h.slots.length=st.slots.length/\(∀ t,t∉j7 body->h.slots[t]?=st.slots[t]?)/\
   ∀ (id:Nat) (e:Ent),look st.tab id=some e->id∉ids->id∉yu its->look h.tab id=some e:=by
 unfold Ns at hh;split at hh
 ·next sl tab j afP=>
  cases hh;obtain⟨k1,k2,k3⟩:=af afP hw;refine⟨rfl,JS afP,by rw[k2,mG],λ t ht=>by rw[k3 t ht,uL ht],?_⟩;intro id e he hi hb;rw[k1 id (hlt id e he) hb,YO,if_neg hi];exact he
 ·cases hh
theorem aaI [Tags] {F:yR} (hA:A.dl=[]/\A.dps=[]) {body:Code} (ih:∀ (st:St) (k:Ev.X->St->Option R) (a:Act) (w:World) (Q:Exit->Act->World->Prop),jC F body st k=some r->Rel B X A w0 st a w->
   (∀ x st',k x st'=some r->Pres (j7 body) st st'->∀ a' w',Rel B X A w0 st' a' w'->Q (MO x) a' w')->body.wp P Q a w)
  {k:Ev.X->St->Option R} (hk:jC F (.loop body) st k=some r) (hr:Rel B X A w0 st a w)
  (hQ:∀ x st',k x st'=some r->Pres (j7 body) st st'->∀ a' w',Rel B X A w0 st' a' w'->Q (MO x) a' w'):(Code.loop body).wp P Q a w:=by
 unfold jC at hk;split at hk
 ·cases hk
 ·next its al5=>
  have hr2:=hr.preLoop (its:=its);have hQ2:∀ x st',k x st'=some r->Pres (j7 body) (preLoop its st) st'->∀ a' w',Rel B X A w0 st' a' w'->Q (MO x) a' w':=λ x st' h hp=>hQ x st' h ((Pres.trans Vf hp).mono λ t ht=>ht);clear hQ hr;revert hk hr2 hQ2;generalize preLoop its st=st;intro hk hr hQ;split at hk
  ·next vs ids afz hck=>
   simp only[alp] at hck;obtain⟨hlv,hwi⟩:=hck;have ahw:∀ (t:Nat) (v:AV),st.slots[t]?=some v->v.lt st.nxt:=by obtain⟨γ,loc,h⟩:=hr; exact h.slt
   have aeK:∀ (id:Nat) (e:Ent),look st.tab id=some e->e.lt st.nxt/\id<st.nxt:=by obtain⟨γ,loc,h⟩:=hr; exact h.elt
   have agw:∀ p∈A.pins,p.1<st.nxt:=by obtain⟨γ,loc,h⟩:=hr; exact λ p hp=>(h.pins p hp).1
   have aeQ:∀ i∈ids,jA st i:=by obtain⟨γ,loc,h⟩:=hr; exact (KA h afz).2
   have hbx:=Mm (st:=st) (λ h'=>by obtain⟨γ,loc,h⟩:=hr; exact (KA h h').2) afz
   have ahN:∀ id∈yu its,id<st.nxt:=λ id hid=>by obtain⟨⟨e,hl,_⟩,_⟩:=hbx id hid; exact (aeK id _ hl).2
   have h0:tw A st body its ids st vs ids:=by
    refine⟨Nat.le_refl _,rfl,λ _ _=>rfl,λ id e he hi _=>⟨he,hi,aeK id e he⟩,λ id hid=>⟨ahN id hid,(hbx id hid).2⟩,aY (λ id e he=>(aeK id e he).1) afz,afz⟩
   intro fr kk cs;have key:∀ (n:Nat) (vs:dens (its.map Item.ty)) (ids2:List Nat) (stx:St) (a:Act) (w:World),
     iter (λ rec vs=>match Ns st body its ids vs with
      | none=>none
      | some h=>jC F body h λ x st'=>match x with
       | .normal=>match jw st' its with
        | some (vs',_)=>rec vs'
        | none=>none
       | y=>k y (lower st' st.lvl)) n vs=some r->tw A st body its ids stx vs ids2->Rel B X A w0 stx a w->
     ∃ e a' w',Q e a' w'/\Arrives P (lone (fr.at a (.code body :: .inLoop body::kk)) cs w) fr kk cs e a' w':=by
    intro n;induction n with
    | zero=>intro vs ids2 stx a w hit; cases hit
    | succ n ihn=>
     intro vs ids2 stx a w hit hR hx;simp only[iter] at hit;split at hit
     ·cases hit
     ·next h hh=>
      have ajx:Rel B X A w0 h a w:=by
       obtain⟨γ,loc,hx0⟩:=hx;exact Sl hx0 hR.nxt hR.len hR.slots ahw hR.ents hR.boxes hR.kept hR.read agw hA hh
      obtain⟨f1,f2,f3,f4,f5⟩:=Sk hh hwi (λ id e he=>(aeK id e he).2);have adZ:=ih h _ a w (Exit.then (λ a' w'=>∃ e a'' w'',Q e a'' w''/\Arrives P (lone (fr.at a' (.code body :: .inLoop body::kk)) cs w') fr kk cs e a'' w'') Q) hit ajx ?_
      ·obtain⟨e,a₁,w₁,hq,acE⟩:=adZ fr (.inLoop body::kk) cs;cases e with
       | normal=>
        obtain⟨e₂,a₂,w₂,hq₂,harr₂⟩:=hq;exact⟨e₂,a₂,w₂,hq₂,.of_steps (Steps.trans acE (.one step_inLoop)) harr₂⟩
       | exit id=>exact⟨_,a₁,w₁,hq,.pass (x:=.inLoop body) rfl (λ _ _=>.inl (by simp)) acE⟩
       | goto l=>exact⟨_,a₁,w₁,hq,.pass (x:=.inLoop body) rfl (λ _ _=>.inl (by simp)) acE⟩
       | ret=>exact⟨_,a₁,w₁,hq,.pass (x:=.inLoop body) rfl (λ _ _=>.inl (by simp)) acE⟩
       | panic ch=>exact⟨_,a₁,w₁,hq,.pass (x:=.inLoop body) rfl (λ _ _=>.inl (by simp)) acE⟩
       | outgrown=>exact⟨_,a₁,w₁,hq,.pass (x:=.inLoop body) rfl (λ _ _=>.inl (by simp)) acE⟩
      ·intro x st' hkx hp a' w' hr';have hl':st'.lvl=st.lvl+1:=by rw[hp.lvl,f1]
       have hkeep:∀ (id:Nat) (e:Ent),look st.tab id=some e->id∉ids->id∉yu its->look st'.tab id=some e:=λ id e he hi hb=>
        hp.tab id e (f5 id e he hi hb) (by rw[f1]; exact Et (sX hlv he))
       have ahZ:∀ y:Ev.X,k y (lower st' st.lvl)=some r->Q (MO y) a' w':=by
        intro y hy;refine hQ y _ hy ?_ a' w' (hr'.lower st.lvl);refine⟨rfl,Nat.le_trans f2 hp.nxt,?_,λ t ht=>by rw[←f4 t ht]; exact hp.slots t ht,by rw[←f3]; exact hp.len⟩
        intro id e he hpr;have hi:id∉ids:=λ hm=>NN (aeQ id hm) _ he hpr;have hb:id∉yu its:=λ hm=>by
         obtain⟨⟨e',hl,hlv⟩,_⟩:=hbx id hm;rw[hl] at he; cases he
         exact hlv hpr
        rw[eA,hkeep id e he hi hb,hl'];simp only[am4,alq];exact Us (sX hlv he)
       cases x with
       | normal=>
        simp only at hkx;split at hkx
        ·next vs' ids' ahr=>
         have ak7:∀ i∈ids',jA st' i:=by obtain⟨γ,loc,h'⟩:=hr'; exact (KA h' ahr).2
         refine ihn vs' ids' st' a' w' hkx ?_ hr';refine⟨Nat.le_trans f2 hp.nxt,by rw[hp.len,f3],λ t ht=>by rw[hp.slots t ht,f4 t ht],?_,?_,hR.kept,ahr⟩
         ·intro id e he hi hb;refine⟨hkeep id e he hi hb,?_,aeK id e he⟩;intro hm;exact NN (ak7 id hm) e (hkeep id e he hi hb) (by rw[hl']; exact Et (sX hlv he))
         ·intro id hid;exact⟨ahN id hid,(Mm (st:=st') (λ h2=>by obtain⟨γ,loc,h'⟩:=hr'; exact (KA h' h2).2) ahr id hid).2⟩
        ·cases hkx
       | exit id=>exact ahZ (.exit id) hkx
       | ret=>exact ahZ .ret hkx
   obtain⟨e,a',w',hq,acE⟩:=key fuel vs ids st a w hk h0 hr;exact⟨e,a',w',hq,.of_steps (.one step_loop) acE⟩
  ·cases hk
theorem Ti [Tags] {c:Operand} {a:Code} {st:St} (h:zy st c=some (.b true)):m7 c a st=st:=by
 unfold m7;split
 ·next t=>
  unfold zy at h;split at h
  ·next l hl=>
   cases h;exact aS hl
  ·cases h
 ·rfl
theorem KC [Tags] {F:yR} (hE:Ze P A.gl F.E) (hA:A.dl=[]/\A.dps=[]) (hTw:F.E.thaws=[]∨(A.tg=true/\∀ x∈F.E.thaws,x.2=Tags.post)):∀ (c:Code) (st:St) (k:Ev.X->St->Option R) (a:Act) (w:World) (Q:Exit->Act->World->Prop),jC F c st k=some r->Rel B X A w0 st a w->
  (∀ x st',k x st'=some r->Pres (j7 c) st st'->∀ a' w',Rel B X A w0 st' a' w'->Q (MO x) a' w')->c.wp P Q a w
 | .skip,st,k,a,w,Q,hk,hr,hQ=>wp_skip (hQ .normal st hk (Pres.refl _ _) a w hr)
 | .label _,st,k,a,w,Q,hk,hr,hQ=>wp_label (hQ .normal st hk (Pres.refl _ _) a w hr)
 | .region id ops false,st,k,a,w,Q,hk,hr,hQ=>aaR hE hA hTw hk hr (λ st' hk' hp a' w' hr'=>hQ .normal st' hk' hp a' w' hr')
 | .region id ops true,st,k,a,w,Q,hk,hr,hQ=>aat hE hA hk hr.preDraw (λ st' hk' hp a' w' hr'=>hQ .normal st' hk' ((Pres.trans Ve hp).mono λ t ht=>ht) a' w' hr')
 | .seq x y,st,k,a,w,Q,hk,hr,hQ=>by
  refine wp_seq (KC hE hA hTw x st _ a w _ hk hr ?_);intro z st' hkz hp a' w' hr';cases z with
  | normal=>exact KC hE hA hTw y st' k a' w' Q hkz hr' (λ z st'' hk'' hp' a'' w'' hr''=>hQ z st'' hk'' (hp.trans hp') a'' w'' hr'')
  | exit id=>exact hQ (.exit id) st' hkz (hp.mono (λ t ht=>List.mem_append_left _ ht)) a' w' hr'
  | ret=>exact hQ .ret st' hkz (hp.mono (λ t ht=>List.mem_append_left _ ht)) a' w' hr'
 | .cond c x y,st,k,a,w,Q,hk,hr,hQ=>by
  unfold jC at hk;split at hk
  ·next b hb=>
   have hv:a.eval c=.bool b:=by obtain⟨γ,loc,h⟩:=hr; exact (yF h hb).1
   cases b with
   | true=>
    rw[alo,Ti hb] at hk;exact wp_cond_true hv (KC hE hA hTw x st k a w Q hk hr (λ z st' hk' hp a' w' hr'=>hQ z st' hk' (hp.mono (λ t ht=>List.mem_append_left _ ht)) a' w' hr'))
   | false=>exact wp_cond_false hv (KC hE hA hTw y st k a w Q hk hr (λ z st' hk' hp a' w' hr'=>hQ z st' hk' (hp.mono (λ t ht=>List.mem_append_right _ ht)) a' w' hr'))
  ·cases hk
 | .block id x,st,k,a,w,Q,hk,hr,hQ=>by
  refine wp_block (KC hE hA hTw x st _ a w _ hk hr ?_);intro z st' hkz hp a' w' hr';cases z with
  | normal=>exact hQ .normal st' hkz hp a' w' hr'
  | ret=>exact hQ .ret st' hkz hp a' w' hr'
  | exit j=>
   simp only at hkz;split at hkz
   ·next h=>
    have:=(zQ _ _).1 h;simp only[MO,Exit.inBlock,this,if_true];exact hQ .normal st' hkz hp a' w' hr'
   ·next h=>
    have:=(ZA _ _).1 h;simp only[MO,Exit.inBlock,this,if_false];exact hQ (.exit j) st' hkz hp a' w' hr'
 | .loop x,st,k,a,w,Q,hk,hr,hQ=>aaI hA (λ st k a w Q h1 h2 h3=>KC hE hA hTw x st k a w Q h1 h2 h3) hk hr hQ
 | .exit id,st,k,a,w,Q,hk,hr,hQ=>wp_exit (hQ (.exit id) st hk (Pres.refl _ _) a w hr)
 | .ret,st,k,a,w,Q,hk,hr,hQ=>wp_ret (hQ .ret st hk (Pres.refl _ _) a w hr)
 | .goto _,st,k,a,w,Q,hk,hr,hQ=>by cases hk
 | .scope _,st,k,a,w,Q,hk,hr,hQ=>by cases hk
 | .rangeFunc _ _ _ _,st,k,a,w,Q,hk,hr,hQ=>by cases hk
 | .refuse _,st,k,a,w,Q,hk,hr,hQ=>by cases hk
variable {P:Program} {a:Act} {w w':World} {Q:Exit->Act->World->Prop}
def NJ (w:World) (b:Nat):List Value:=match w.heap[b]? with
 | some (.cells arr _ _)=>arr.toList
 | _=>[]
def Yc:List Leaf->List Value->List (Nat×Value)
 | .sl id::r,c::cs=>(id,c)::Yc r cs
 | _::r,_::cs=>Yc r cs
 | _,_=>[]
theorem Dk:∀ {ls:List Leaf} {cs:List Value} {n:Nat},All2 (LeafOk loc) ls cs->(∀ l∈ls,l.lt n)->∀ p∈Yc ls cs,p.1<n/\loc p.1=p.2
 | [],_,n,h,hl,p,hp=>by simp[Yc] at hp
 | _::_,[],n,h,hl,p,hp=>h.elim
 | l::r,c::cs,n,h,hl,p,hp=>by
  have ih:=Dk (n:=n) h.2 (λ l hm=>hl l (by simp[hm])) p;cases l with
  | sl id=>
   simp only[Yc,alH] at hp;rcases hp with rfl|hp
   ·exact⟨hl (.sl id) (by simp),h.1.1.symm⟩
   ·exact ih hp
  | _=>exact ih (by simpa[Yc] using hp)
def ZH (w:World):(ps:List (PK×Ty))->z7 ps->Nat->List Nat->List (Nat×Value)
 | [],_,_,_=>[]
 | (.rd,t)::ps,v,j,xp=>ZH w ps v.2 (zd (.imm false) 0 t v.1 j).2.2 xp
 | (.own,t)::ps,v,j,xp=>ZH w ps v.2 (zd (.own false) 0 t v.1 j).2.2 xp
 | (.cap,t)::ps,v,j,xp=>ZH w ps v.2 (zd (.imm false) 0 t v.1 (j+1)).2.2 xp
 | (.clo _,t)::ps,v,j,xp=>ZH w ps v.2 (zd (.imm false) 0 t v.1 (j+1)).2.2 xp
 | (.ptr,t)::ps,v,j,xp=>match xp with
  | b::xp'=>((j,.pointer (some ⟨b,0,none⟩))::Yc (zd (.imm false) 0 t v.1 (j+1)).1 (NJ w b))++ZH w ps v.2 (zd (.imm false) 0 t v.1 (j+1)).2.2 xp'
  | []=>[]
theorem RR {t:Ty} {ps:List (PK×Ty)} {v:z7 ((.rd,t)::ps)} {j:Nat} {x:List AV×List (Nat×Ent)×Nat} (h:y7 ((.rd,t)::ps) v j=some x):
  ∃ y xs es j',ZR t (zd (.imm false) 0 t v.1 j).1=some y/\y7 ps v.2 (zd (.imm false) 0 t v.1 j).2.2=some (xs,es,j')/\x=(.v y::xs,es++(zd (.imm false) 0 t v.1 j).2.1,j'):=by
 unfold y7 at h;simp only at h;split at h
 ·next y xs es j' h1 h2=>cases h; exact⟨y,xs,es,j',h1,h2,rfl⟩
 ·cases h
theorem RP {t:Ty} {ps:List (PK×Ty)} {v:z7 ((.own,t)::ps)} {j:Nat} {x:List AV×List (Nat×Ent)×Nat} (h:y7 ((.own,t)::ps) v j=some x):
  ∃ y xs es j',ZR t (zd (.own false) 0 t v.1 j).1=some y/\y7 ps v.2 (zd (.own false) 0 t v.1 j).2.2=some (xs,es,j')/\x=(.v y::xs,es++(zd (.own false) 0 t v.1 j).2.1,j'):=by
 unfold y7 at h;simp only at h;split at h
 ·next y xs es j' h1 h2=>cases h; exact⟨y,xs,es,j',h1,h2,rfl⟩
 ·cases h
theorem RQ {t:Ty} {ps:List (PK×Ty)} {v:z7 ((.ptr,t)::ps)} {j:Nat} {x:List AV×List (Nat×Ent)×Nat} (h:y7 ((.ptr,t)::ps) v j=some x):
  ∃ xs es j',y7 ps v.2 (zd (.imm false) 0 t v.1 (j+1)).2.2=some (xs,es,j')/\
   x=(.v (.one (.ptr j 0))::xs,es++((j,.box 0 (zd (.imm false) 0 t v.1 (j+1)).1)::(zd (.imm false) 0 t v.1 (j+1)).2.1),j'):=by
 unfold y7 at h;simp only at h;split at h
 ·next xs es j' h2=>cases h; exact⟨xs,es,j',h2,rfl⟩
 ·cases h
theorem RN {t:Ty} {ps:List (PK×Ty)} {v:z7 ((.cap,t)::ps)} {j:Nat} {x:List AV×List (Nat×Ent)×Nat} (h:y7 ((.cap,t)::ps) v j=some x):
  ∃ xs es j',y7 ps v.2 (zd (.imm false) 0 t v.1 (j+1)).2.2=some (xs,es,j')/\
   x=(.v (.one (.ptr j 0))::xs,es++((j,.cst (zd (.imm false) 0 t v.1 (j+1)).1)::(zd (.imm false) 0 t v.1 (j+1)).2.1),j'):=by
 unfold y7 at h;simp only at h;split at h
 ·next xs es j' h2=>cases h; exact⟨xs,es,j',h2,rfl⟩
 ·cases h
theorem RO {f:Nat} {t:Ty} {ps:List (PK×Ty)} {v:z7 ((.clo f,t)::ps)} {j:Nat} {x:List AV×List (Nat×Ent)×Nat} (h:y7 ((.clo f,t)::ps) v j=some x):
  ∃ xs es j',y7 ps v.2 (zd (.imm false) 0 t v.1 (j+1)).2.2=some (xs,es,j')/\
   x=(.v (.one (.fn f [j]))::xs,es++((j,.cst (zd (.imm false) 0 t v.1 (j+1)).1)::(zd (.imm false) 0 t v.1 (j+1)).2.1),j'):=by
 unfold y7 at h;simp only at h;split at h
 ·next xs es j' h2=>cases h; exact⟨xs,es,j',h2,rfl⟩
 ·cases h
structure Entered [Tags] (w:World) (γ:Nat->Own) (loc:Nat->Value) (j:Nat) (vals:List Value) (xo xp:List Nat) (avs:List AV) (es:List (Nat×Ent)) (j':Nat) (pins:List (Nat×Value)) (loc':Nat->Value) (γ':Nat->Own):Prop where
 locs:∀ i,(i<j∨j'<=i)->loc' i=loc i
 le:j<=j'
 vals:All2 (AVOk loc') avs vals
 lts:∀ x∈avs,x.lt j'
 own:∀ b,b∉xo->b∉xp->γ' b=γ b
 ents:∀ (id:Nat) (e:Ent),look es id=some e->EntOk γ' loc' w id e/\j<=id/\id<j'/\e.lt j'
 pins:∀ p∈pins,p.1<j'/\loc' p.1=p.2
theorem Entered.more [Tags] {γ γ1 γ2:Nat->Own} {loc loc1 loc2:Nat->Value} {j j1 j':Nat} {v:Value} {vals:List Value} {x1 xo x2 xp:List Nat} {av:AV} {avs:List AV} {es1 es:List (Nat×Ent)} {p1 pins:List (Nat×Value)}
  (h:Entered w γ1 loc1 j1 vals xo xp avs es j' pins loc2 γ2) (hle:j<=j1) (acW:∀ i,(i<j∨j1<=i)->loc1 i=loc i) (hv:AVOk loc1 av v) (hlt:av.lt j1)
  (acL:∀ b,b∉x1->b∉x2->γ1 b=γ b) (hal:∀ b,(b∈xo∨b∈xp)->γ1 b=.alien)
  (he:∀ (id:Nat) (e:Ent),look es1 id=some e->EntOk γ1 loc1 w id e/\j<=id/\id<j1/\e.lt j1) (hp:∀ p∈p1,p.1<j1/\loc1 p.1=p.2):
  Entered w γ loc j (v::vals) (x1++xo) (x2++xp) (av::avs) (es++es1) j' (p1++pins) loc2 γ2:=by
 have hl2:∀ i<j1,loc2 i=loc1 i:=λ i hi=>h.locs i (.inl hi);have hm:Moves (λ _=>False) γ1 γ2 w w:=by
  have key:∀ b,γ1 b ≠ .alien->γ2 b=γ1 b:=λ b hb=>h.own b (λ hx=>hb (hal b (.inl hx))) (λ hx=>hb (hal b (.inr hx)));constructor
  ·intro b _ hb; exact⟨by rw[key b (by simp[hb])]; exact hb,rfl⟩
  ·intro b i _ hb _; exact⟨by rw[key b (by simp[hb])]; exact hb,rfl⟩
  ·intro b i _ hb; exact⟨rfl,λ _=>by rw[key b (by simp[hb])]; exact hb,λ h=>h.elim⟩
 have afu:=h.le;refine⟨?_,by omega,⟨hv.loc hlt hl2,h.vals⟩,?_,?_,?_,?_⟩
 ·intro i hi;rw[h.locs i (by omega),acW i (by omega)]
 ·intro x hx;rcases List.mem_cons.1 hx with rfl|hx
  ·exact AV.lt_mono afu hlt
  ·exact h.lts x hx
 ·intro b hb hb';simp only[alK,not_or] at hb hb';rw[h.own b hb.2 hb'.2,acL b hb.1 hb'.1]
 ·intro id e hid;rw[ZC] at hid;cases hh:look es id with
  | some e'=>
   rw[hh] at hid;simp at hid;subst hid;obtain⟨c1,c2,c3,c4⟩:=h.ents id _ hh;exact⟨c1,by omega,c3,c4⟩
  | none=>
   rw[hh] at hid;simp at hid;obtain⟨c1,c2,c3,c4⟩:=he id e hid;exact⟨EntOk.moves hm (λ h=>h) c4 c3 hl2 c1,c2,by omega,Ent.lt_mono afu c4⟩
 ·intro p hp';rcases List.mem_append.1 hp' with hp'|hp'
  ·obtain⟨c1,c2⟩:=hp p hp';exact⟨by omega,by rw[hl2 _ c1]; exact c2⟩
  ·exact h.pins p hp'
theorem cq [Tags] {t:Ty} {v:den t} {k:Kind} {lvl j:Nat} {γ:Nat->Own} {loc:Nat->Value} (h:∀ (id:Nat) (e:Ent),look (zd k lvl t v j).2.1 id=some e->EntOk γ loc w id e):
  ∀ (id:Nat) (e:Ent),look (zd k lvl t v j).2.1 id=some e->EntOk γ loc w id e/\j<=id/\id<(zd k lvl t v j).2.2/\e.lt (zd k lvl t v j).2.2:=by
 intro id e he;obtain⟨g1,g2,E',et,zs,rfl⟩:=(ji k lvl t v j).keys id e he;exact⟨h id _ he,g1,g2,trivial⟩
theorem K5 [Tags]:∀ (ps:List (PK×Ty)) (vs:z7 ps) (j:Nat) (vals:List Value) (r rp rc xo xp:List Nat) (avs:List AV) (es:List (Nat×Ent)) (j':Nat) (loc:Nat->Value) (γ:Nat->Own),
  ArgsOk w ps vs vals r rp rc xo xp->y7 ps vs j=some (avs,es,j')->(xo++xp).Nodup->(∀ b∈xo++xp,b∉r/\b∉rp/\b∉rc)->(∀ b,(b∈r∨b∈rp∨b∈rc)->γ b=.persist)->(∀ b,(b∈xo∨b∈xp)->γ b=.alien)->
  ∃ loc' γ',Entered w γ loc j vals xo xp avs es j' (ZH w ps vs j xp) loc' γ'
 | [],vs,j,vals,r,rp,rc,xo,xp,avs,es,j',loc,γ,h,he,hn,hd,hp,ha=>by
  simp only[y7,alq,alw] at he;obtain⟨rfl,rfl,rfl⟩:=he;obtain⟨rfl,_⟩:=h;exact⟨loc,γ,λ _ _=>rfl,Nat.le_refl _,trivial,by simp,λ _ _ _=>rfl,by simp[look],by simp[ZH]⟩
 | (.rd,t)::ps,vs,j,vals,r,rp,rc,xo,xp,avs,es,j',loc,γ,h,he,hn,hd,hp,ha=>by
  obtain⟨y,xs,es',j'',hmk,acB,hx⟩:=RR he;simp only[alw] at hx;obtain⟨rfl,rfl,rfl⟩:=hx;obtain⟨cs,vs',fp,r',rfl,h1,rfl,h2⟩:=h;obtain⟨loc1,a1,a2,a3⟩:=J3 (γ:=γ) (taint:=false) 0 t vs.1 j cs fp loc h1 (λ b hb=>.inl (hp b (by simp[hb])));have so:=ji (.imm false) 0 t vs.1 j;obtain⟨m1,m2⟩:=Km hmk a2 so.lt;obtain⟨loc2,γ2,hE⟩:=K5 ps vs.2 _ vs' r' rp rc xo xp xs es' _ loc1 γ h2 acB hn (λ b hb=>⟨λ h=>(hd b hb).1 (by simp[h]),(hd b hb).2⟩)
   (λ b hb=>hp b (by rcases hb with h|h|h<;>simp[h])) ha
  exact⟨loc2,γ2,hE.more (x1:=[]) (x2:=[]) (p1:=[]) so.le a1 m1 m2 (λ _ _ _=>rfl) ha (cq a3) (by simp)⟩
 | (.own,t)::ps,vs,j,vals,r,rp,rc,xo,xp,avs,es,j',loc,γ,h,he,hn,hd,hp,ha=>by
  obtain⟨y,xs,es',j'',hmk,acB,hx⟩:=RP he;simp only[alw] at hx;obtain⟨rfl,rfl,rfl⟩:=hx;obtain⟨cs,vs',xb,fs,r',xo',rfl,h1,rfl,rfl,h2⟩:=h;rw[alW] at hn;obtain⟨n1,n2,n3⟩:=List.nodup_append.1 hn;have hxf:∀ b∈xb,b∉fs:=λ b hb hf=>(hd b (by simp[hb])).1 (by simp[hf]);obtain⟨loc1,γ1,a1,a2,a3,a4,a5,a6,a7⟩:=cr false 0 t vs.1 j cs xb fs loc γ h1 n1 hxf (by simp) (λ _ b hb=>hp b (by simp[hb]));have so:=ji (.own false) 0 t vs.1 j;obtain⟨m1,m2⟩:=Km hmk a2 so.lt;have hal:∀ b,(b∈xo'∨b∈xp)->γ1 b=.alien:=by
   intro b hb;rw[a4 rfl b (λ h=>n3 b h b (by simpa using hb) rfl)];exact ha b (by rcases hb with h|h<;>simp[h])
  obtain⟨loc2,γ2,hE⟩:=K5 ps vs.2 _ vs' r' rp rc xo' xp xs es' _ loc1 γ1 h2 acB n2 (λ b hb=>⟨λ h=>(hd b (by rcases List.mem_append.1 hb with h|h<;>simp[h])).1 (by simp[h]),(hd b (by rcases List.mem_append.1 hb with h|h<;>simp[h])).2⟩)
   (λ b hb=>by
    have hb':b∈fs++r'∨b∈rp∨b∈rc:=by rcases hb with h|h|h<;>simp[h]
    rw[a4 rfl b (λ h=>by
     have:=hd b (by simp[h]);rcases hb' with h'|h'|h'
     ·exact this.1 h'
     ·exact this.2.1 h'
     ·exact this.2.2 h')]
    exact hp b hb') hal
  exact⟨loc2,γ2,hE.more (x1:=xb) (x2:=[]) (p1:=[]) so.le a1 m1 m2 (λ b hb _=>a4 rfl b hb) hal (cq (a7 γ1 (λ _ _=>rfl) (λ _ _=>rfl))) (by simp)⟩
 | (.ptr,t)::ps,vs,j,vals,r,rp,rc,xo,xp,avs,es,j',loc,γ,h,he,hn,hd,hp,ha=>by
  obtain⟨xs,es',j'',acB,hx⟩:=RQ he;simp only[alw] at hx;obtain⟨rfl,rfl,rfl⟩:=hx;obtain⟨b,vs',arr,T,fr,fp,rp',xp',rfl,h1,h2,h3,rfl,rfl,h4⟩:=h;obtain⟨loc1,a1,a2,a3⟩:=J3 (γ:=λ c=>if c=b then .top j else γ c) (taint:=false) 0 t vs.1 (j+1) _ fp (λ i=>if i=j then .pointer (some ⟨b,0,none⟩) else loc i) h3
   (λ c hc=>.inl (by
    have hcb:c≠b:=λ e=>(hd b (by simp)).2.1 (by rw[←e]; simp[hc])
    simp only[if_neg hcb];exact hp c (by simp[hc])))
  have so:=ji (.imm false) 0 t vs.1 (j+1);have hle:=so.le;have hj:loc1 j=.pointer (some ⟨b,0,none⟩):=by rw[a1 j (.inl (by omega))]; simp
  obtain⟨n1,n2,n3⟩:=List.nodup_append.1 hn;obtain⟨n4,n5⟩:=List.nodup_cons.1 n2;have hbo:b∉xo:=λ h=>n3 b h b (by simp) rfl;have hal:∀ c,(c∈xo∨c∈xp')->(if c=b then .top j else γ c)=.alien:=by
   intro c hc;have:c≠b:=by
    rintro rfl;rcases hc with h|h
    ·exact hbo h
    ·exact n4 h
   rw[if_neg this];exact ha c (by rcases hc with h|h<;>simp[h])
  obtain⟨loc2,γ2,hE⟩:=K5 ps vs.2 _ vs' r rp' rc xo xp' xs es' _ loc1 (λ c=>if c=b then .top j else γ c) h4 acB (ZG n1 n5 (λ c hc hc'=>n3 c hc c (by simp[hc']) rfl))
   (λ c hc=>⟨(hd c (by rcases List.mem_append.1 hc with h|h<;>simp[h])).1,λ h=>(hd c (by rcases List.mem_append.1 hc with h|h<;>simp[h])).2.1 (by simp[h]),(hd c (by rcases List.mem_append.1 hc with h|h<;>simp[h])).2.2⟩)
   (λ c hc=>by
    have hc':c∈r∨c∈fp++rp'∨c∈rc:=by rcases hc with h|h|h<;>simp[h]
    have:c≠b:=by
     rintro rfl;have:=hd c (by simp);rcases hc' with h|h|h
     ·exact this.1 h
     ·exact this.2.1 h
     ·exact this.2.2 h
    simp only[if_neg this];exact hp c hc') hal
  refine⟨loc2,γ2,hE.more (x1:=[]) (x2:=[b]) (p1:=(j,.pointer (some ⟨b,0,none⟩))::Yc (zd (.imm false) 0 t vs.1 (j+1)).1 (NJ w b)) (j:=j) (loc:=loc) (by omega) ?_ ⟨b,hj,rfl⟩ (by simp only[AV.lt,V1.lt,Leaf.lt]; omega) ?_ hal ?_ ?_⟩
  ·intro i hi;rw[a1 i (by omega),if_neg (by omega)]
  ·intro c _ hc; simp only[amA] at hc; simp[hc]
  ·intro id e hid;rw[yS] at hid;split at hid
   ·next hi=>
    cases hid;subst hi;exact⟨⟨b,arr,T,fr,hj,h1,h2,by simp,a2⟩,Nat.le_refl _,by omega,so.lt⟩
   ·obtain⟨c1,c2,c3,c4⟩:=cq a3 id e hid;exact⟨c1,by omega,c3,c4⟩
  ·intro p hp';rcases List.mem_cons.1 hp' with rfl|hp'
   ·exact⟨by simp only; omega,hj⟩
   ·have hca:NJ w b=arr.toList:=by simp[NJ,h1]
    rw[hca] at hp';exact Dk a2 so.lt p hp'
 | (.cap,t)::ps,vs,j,vals,r,rp,rc,xo,xp,avs,es,j',loc,γ,h,he,hn,hd,hp,ha=>by
  obtain⟨xs,es',j'',acB,hx⟩:=RN he;simp only[alw] at hx;obtain⟨rfl,rfl,rfl⟩:=hx;obtain⟨b,vs',arr,T,fr,fp,r',rc',rfl,h1,h3,rfl,rfl,h4⟩:=h;obtain⟨loc1,a1,a2,a3⟩:=J3 (γ:=γ) (taint:=false) 0 t vs.1 (j+1) _ fp (λ i=>if i=j then .pointer (some ⟨b,0,none⟩) else loc i) h3 (λ c hc=>.inl (hp c (by simp[hc])));have so:=ji (.imm false) 0 t vs.1 (j+1);have hle:=so.le;have hj:loc1 j=.pointer (some ⟨b,0,none⟩):=by rw[a1 j (.inl (by omega))]; simp
  obtain⟨loc2,γ2,hE⟩:=K5 ps vs.2 _ vs' r' rp rc' xo xp xs es' _ loc1 γ h4 acB hn (λ c hc=>⟨λ h=>(hd c hc).1 (by simp[h]),(hd c hc).2.1,λ h=>(hd c hc).2.2 (by simp[h])⟩)
   (λ c hc=>hp c (by rcases hc with h|h|h<;>simp[h])) ha
  refine⟨loc2,γ2,hE.more (x1:=[]) (x2:=[]) (p1:=[]) (j:=j) (loc:=loc) (by omega) ?_ ⟨b,hj,rfl⟩ (by simp only[AV.lt,V1.lt,Leaf.lt]; omega) (λ _ _ _=>rfl) ha ?_ (by simp)⟩
  ·intro i hi;rw[a1 i (by omega),if_neg (by omega)]
  ·intro id e hid;rw[yS] at hid;split at hid
   ·next hi=>
    cases hid;subst hi;exact⟨⟨b,arr,T,fr,hj,h1,hp b (by simp),a2⟩,Nat.le_refl _,by omega,so.lt⟩
   ·obtain⟨c1,c2,c3,c4⟩:=cq a3 id e hid;exact⟨c1,by omega,c3,c4⟩
 | (.clo f,t)::ps,vs,j,vals,r,rp,rc,xo,xp,avs,es,j',loc,γ,h,he,hn,hd,hp,ha=>by
  obtain⟨xs,es',j'',acB,hx⟩:=RO he;simp only[alw] at hx;obtain⟨rfl,rfl,rfl⟩:=hx;obtain⟨b,vs',arr,T,fr,fp,r',rc',rfl,h1,h3,rfl,rfl,h4⟩:=h;obtain⟨loc1,a1,a2,a3⟩:=J3 (γ:=γ) (taint:=false) 0 t vs.1 (j+1) _ fp (λ i=>if i=j then .pointer (some ⟨b,0,none⟩) else loc i) h3 (λ c hc=>.inl (hp c (by simp[hc])));have so:=ji (.imm false) 0 t vs.1 (j+1);have hle:=so.le;have hj:loc1 j=.pointer (some ⟨b,0,none⟩):=by rw[a1 j (.inl (by omega))]; simp
  obtain⟨loc2,γ2,hE⟩:=K5 ps vs.2 _ vs' r' rp rc' xo xp xs es' _ loc1 γ h4 acB hn (λ c hc=>⟨λ h=>(hd c hc).1 (by simp[h]),(hd c hc).2.1,λ h=>(hd c hc).2.2 (by simp[h])⟩)
   (λ c hc=>hp c (by rcases hc with h|h|h<;>simp[h])) ha
  refine⟨loc2,γ2,hE.more (x1:=[]) (x2:=[]) (p1:=[]) (j:=j) (loc:=loc) (by omega) ?_ ⟨by simp[hj],λ c hc=>by simp at hc; subst hc; exact⟨b,hj⟩⟩ (by intro c hc; simp at hc; subst hc; omega) (λ _ _ _=>rfl) ha ?_ (by simp)⟩
  ·intro i hi;rw[a1 i (by omega),if_neg (by omega)]
  ·intro id e hid;rw[yS] at hid;split at hid
   ·next hi=>
    cases hid;subst hi;exact⟨⟨b,arr,T,fr,hj,h1,hp b (by simp),a2⟩,Nat.le_refl _,by omega,so.lt⟩
   ·obtain⟨c1,c2,c3,c4⟩:=cq a3 id e hid;exact⟨c1,by omega,c3,c4⟩
def YS (tmps:Array Value):ResultVar->Sem Value
 | .tmp t=>pure (tmps.getD t undef)
 | .cell a t=>do loadVar t (←asAddr (tmps.getD a undef))
theorem BT {α β:Type} {f:α->Sem β} {w:World}:∀ {xs:List α} {ys:List β},All2 (λ x y=>(f x).run P w=.ok y w) xs ys->(xs.mapM f).run P w=.ok ys w
 | [],[],_=>by simp
 | x::xs,y::ys,h=>by simp only[List.mapM_cons,alC,h.1,alA,BT h.2,alB]
 | [],_::_,h=>h.elim
 | _::_,[],h=>h.elim
theorem bf [Tags] {fn:Func} {tmps:Array Value} {w:World} {vs:List Value} (h:All2 (λ x v=>(YS tmps x).run P w=.ok v w) fn.results.toList vs):(results fn tmps).run P w=.ok (Z9 vs) w:=by
 have h1:=BT h;have h2:(fn.results.mapM (YS tmps)).run P w=.ok vs.toArray w:=by
  rw[Array.mapM_eq_mapM_toList];simp only[map_eq_pure_bind,alC,h1,alA,alB]
 have h3:results fn tmps=(do let vs ←fn.results.mapM (YS tmps); pure (if h:vs.size=1 then vs[0] else .tuple vs)):=by
  unfold results;rfl
 rw[h3];simp only[alC,h2,alA,alB];congr 1
 match vs with
 | []=>rfl
 | [v]=>rfl
 | _::_::_=>rfl
theorem BG [Tags] (hT:ym P E.tys=true) (hr:Rel0 B X A w0 γ loc st a w) {t:Ty} {x:ResultVar} {ls:List Leaf} (h:fV E st t x=some ls) {v:den t} (hc:js st.tab t ls=some v):
  ∃ cs,(YS a.tmps x).run P w=.ok (yp t cs) w/\All2 (LeafOk loc) ls cs:=by
 cases x with
 | tmp s=>
  simp only[fV] at h;split at h
  ·next y hy=>
   obtain⟨cs,e1,e2⟩:=M7 h (hr.slots s y hy);exact⟨cs,by simp only[YS,alB,e1],e2⟩
  ·cases h
 | cell s T=>
  simp only[fV] at h;split at h
  ·next id d hs hd=>
   split at h
   ·next lvl cells hl hck=>
    cases h;simp only[alp,alz,amo] at hck;obtain⟨hty,acE⟩:=hck;subst hty;obtain⟨b,e1,e2⟩:=hr.slots s _ hs;obtain⟨b',arr,T',fr,g1,g2,g3,g4,g5⟩:=hr.ents id _ hl;rw[g1] at e1;simp only[Value.pointer.injEq,alq,Addr.mk.injEq,and_true] at e1;subst e1;obtain⟨fp,q1,_⟩:=YF hr hc g5;have hlen:=q1.len;have hsz:arr.size=d.ty.size:=by simpa using hlen
    refine⟨arr.toList,?_,g5⟩;simp only[YS,e2,asAddr,pure_bind,BS (yc hT hd) acE g2 (show 0+d.ty.size<=arr.size by omega)];simp only[alN];rw[←hsz,←amb,amq]
   ·cases h
  ·cases h
theorem pN [Tags] (hT:ym P E.tys=true) (hr:Rel0 B X A w0 γ loc st a w):∀ (ts:List Ty) (xs:List ResultVar) (vs:dens ts) (ls:List Leaf),YR E st ts xs=some (vs,ls)->
  ∃ css fs,RetL w .shared ts vs css [] fs/\All2 (λ x v=>(YS a.tmps x).run P w=.ok v w) xs (Zy ts css)/\(∀ b∈fs,γ b ≠ .alien/\∀ i,γ b=.top i->LN st i)
 | [],[],vs,ls,h=>⟨[],[],⟨rfl,rfl,rfl⟩,trivial,by simp⟩
 | t::ts,x::xs,vs,ls,h=>by
  simp only[YR] at h;split at h
  ·cases h
  ·next l1 hl=>
   split at h
   ·next v vs' ls' hc acB=>
    simp only[alq,alw] at h;obtain⟨rfl,rfl⟩:=h;obtain⟨cs,e1,e2⟩:=BG hT hr hl hc;obtain⟨fp,q1,q2,_⟩:=YF hr hc e2;obtain⟨css,fs,k1,k2,k3⟩:=pN hT hr ts xs vs' ls' acB;refine⟨cs::css,fp++fs,⟨cs,css,[],[],fp,fs,rfl,rfl,rfl,⟨rfl,q1⟩,k1⟩,⟨e1,k2⟩,?_⟩;intro b hb;rcases List.mem_append.1 hb with hb|hb
    ·exact⟨(q2 b hb).1,λ i hi=>cR hc i ((q2 b hb).2 i hi)⟩
    ·exact k3 b hb
   ·cases h
 | [],_::_,vs,ls,h=>by simp[YR] at h
 | _::_,[],vs,ls,h=>by simp[YR] at h
theorem bd [Tags] (hT:ym P E.tys=true) (hr:Rel0 B X A w0 γ loc st a w) (rk:RK) (hrk:rk ≠ .shared):∀ (ts:List Ty) (xs:List ResultVar) (vs:dens ts) (ls:List Leaf) (ids:List Nat),YR E st ts xs=some (vs,ls)->
  yk st ls=some ids->
  ∃ css xb fs,RetL w rk ts vs css xb fs/\All2 (λ x v=>(YS a.tmps x).run P w=.ok v w) xs (Zy ts css)/\xb.Nodup/\(∀ b∈xb,∃ i∈ids,γ b=.top i)/\(∀ b∈fs,γ b=.persist∨∃ i∈ids,γ b=.deep i)/\
   ((∀ i∈ids,KR st i)->fs.Nodup/\∀ b∈fs,∃ i∈ids,γ b=.deep i)
 | [],[],vs,ls,ids,h,hg=>⟨[],[],[],⟨rfl,rfl,rfl⟩,trivial,by simp,by simp,by simp,by simp⟩
 | t::ts,x::xs,vs,ls,ids,h,hg=>by
  simp only[YR] at h;split at h
  ·cases h
  ·next l1 hl=>
   split at h
   ·next v vs' ls' hc acB=>
    simp only[alq,alw] at h;obtain⟨rfl,rfl⟩:=h;obtain⟨i1,i2,g1,g2,rfl,g4⟩:=Jj hg;obtain⟨cs,e1,e2⟩:=BG hT hr hl hc;obtain⟨x1,f1,q1,q2,q3,q4,q5⟩:=Na hr hc e2 g1;obtain⟨css,x2,f2,k1,k2,k3,k4,k5,k6⟩:=bd hT hr rk hrk ts xs vs' ls' i2 acB g2;have hR1:tv w rk t v cs x1 f1:=by
     cases rk with
     | shared=>exact absurd rfl hrk
     | own=>exact q1
     | uniq=>exact q1
    refine⟨cs::css,x1++x2,f1++f2,⟨cs,css,x1,x2,f1,f2,rfl,rfl,rfl,hR1,k1⟩,⟨e1,k2⟩,?_,?_,?_,?_⟩
    ·refine ZG q2 k3 ?_;intro b hb hb';obtain⟨i,hi,e⟩:=q3 b hb;obtain⟨j,hj,e'⟩:=k4 b hb';rw[e] at e'; cases e'
     exact g4 _ hi hj
    ·intro b hb;rcases List.mem_append.1 hb with hb|hb
     ·obtain⟨i,hi,h⟩:=q3 b hb; exact⟨i,by simp[hi],h⟩
     ·obtain⟨i,hi,h⟩:=k4 b hb; exact⟨i,by simp[hi],h⟩
    ·intro b hb;rcases List.mem_append.1 hb with hb|hb
     ·rcases q4 b hb with h|⟨i,hi,h⟩
      ·exact .inl h
      ·exact .inr ⟨i,by simp[hi],h⟩
     ·rcases k5 b hb with h|⟨i,hi,h⟩
      ·exact .inl h
      ·exact .inr ⟨i,by simp[hi],h⟩
    ·intro hu;obtain⟨n1,d1⟩:=q5 (λ i hi=>hu i (by simp[hi]));obtain⟨n2,d2⟩:=k6 (λ i hi=>hu i (by simp[hi]));refine⟨ZG n1 n2 ?_,?_⟩
     ·intro b hb hb';obtain⟨i,hi,e⟩:=d1 b hb;obtain⟨j,hj,e'⟩:=d2 b hb';rw[e] at e'; cases e'
      exact g4 _ hi hj
     ·intro b hb;rcases List.mem_append.1 hb with hb|hb
      ·obtain⟨i,hi,h⟩:=d1 b hb; exact⟨i,by simp[hi],h⟩
      ·obtain⟨i,hi,h⟩:=d2 b hb; exact⟨i,by simp[hi],h⟩
   ·cases h
 | [],_::_,vs,ls,ids,h,hg=>by simp[YR] at h
 | _::_,[],vs,ls,ids,h,hg=>by simp[YR] at h
theorem sF (k:Kind) (lvl:Nat):∀ (t:Ty) (v:den t) (j:Nat),(zd k lvl t v j).1.length=t.size/\∀ l∈(zd k lvl t v j).1,l ≠ .nil
 | .i64,v,j | .u8,v,j | .bool,v,j | .str,v,j | .sl _ _,v,j=>by simp[zd,Ty.size]
 | .pair a b,v,j=>by
  obtain⟨a1,a2⟩:=sF k lvl a v.1 j;obtain⟨b1,b2⟩:=sF k lvl b v.2 (zd k lvl a v.1 j).2.2;have e:(zd k lvl (.pair a b) v j).1=(zd k lvl a v.1 j).1++(zd k lvl b v.2 (zd k lvl a v.1 j).2.2).1:=rfl;rw[e];refine⟨by simp[a1,b1,Ty.size],λ l hl => ?_⟩;rcases List.mem_append.1 hl with hl|hl
  ·exact a2 l hl
  ·exact b2 l hl
theorem bz {x:Leaf} {r:List Leaf} {c:Value} {cs:List Value}:∀ p∈Yc r cs,p∈Yc (x::r) (c::cs):=by
 intro p hp;cases x<;>simp[Yc,hp]
theorem m0 [Tags] {tab:List (Nat×Ent)}:∀ (t:Ty) (ls0 ls:List Leaf) (c0 cs:List Value) (v:den t) (r:List Leaf),zK tab t ls=some (v,r)->Zt ls0 ls=true->All2 (LeafOk loc) ls cs->c0.length=ls0.length->
  (∀ l∈ls0,l ≠ .nil)->(∀ p∈Yc ls0 c0,loc p.1=p.2)->
  ∃ c1 c2 d1 d2 r0,c0=c1++c2/\cs=d1++d2/\MZ t v c1 d1/\c2.length=r0.length/\Zt r0 r=true/\All2 (LeafOk loc) r d2/\(∀ l∈r0,l ≠ .nil)/\(∀ p∈Yc r0 c2,loc p.1=p.2)
 | .i64,ls0,ls,c0,cs,v,r,h,hs,ha,hl,hn,hp=>by
  match ls,h with
  | .i n::r',h=>
   simp only[zK,alq,alw] at h;obtain⟨rfl,rfl⟩:=h
   match ls0,cs,c0,hl,ha with
   | [],_,_,_,_=>cases Jw hs
   | x::s,d::ds,c::c0,hl,ha=>
    obtain⟨y,s',e,_,h2⟩:=Y1 hs;cases e;exact⟨[c],c0,[d],ds,s,rfl,rfl,⟨rfl,by rw[ha.1.1],ha.1.2⟩,by simpa using hl,h2,ha.2,λ l hl=>hn l (by simp[hl]),λ p hp'=>hp p (bz p hp')⟩
 | .u8,ls0,ls,c0,cs,v,r,h,hs,ha,hl,hn,hp=>by
  match ls,h with
  | .u n::r',h=>
   simp only[zK,alq,alw] at h;obtain⟨rfl,rfl⟩:=h
   match ls0,cs,c0,hl,ha with
   | [],_,_,_,_=>cases Jw hs
   | x::s,d::ds,c::c0,hl,ha=>
    obtain⟨y,s',e,_,h2⟩:=Y1 hs;cases e;have hd:d=_:=ha.1;exact⟨[c],c0,[d],ds,s,rfl,rfl,⟨rfl,by rw[hd]⟩,by simpa using hl,h2,ha.2,λ l hl=>hn l (by simp[hl]),λ p hp'=>hp p (bz p hp')⟩
 | .bool,ls0,ls,c0,cs,v,r,h,hs,ha,hl,hn,hp=>by
  match ls,h with
  | .b n::r',h=>
   simp only[zK,alq,alw] at h;obtain⟨rfl,rfl⟩:=h
   match ls0,cs,c0,hl,ha with
   | [],_,_,_,_=>cases Jw hs
   | x::s,d::ds,c::c0,hl,ha=>
    obtain⟨y,s',e,_,h2⟩:=Y1 hs;cases e;have hd:d=_:=ha.1;exact⟨[c],c0,[d],ds,s,rfl,rfl,⟨rfl,by rw[hd]⟩,by simpa using hl,h2,ha.2,λ l hl=>hn l (by simp[hl]),λ p hp'=>hp p (bz p hp')⟩
 | .str,ls0,ls,c0,cs,v,r,h,hs,ha,hl,hn,hp=>by
  match ls,h with
  | .s n::r',h=>
   simp only[zK,alq,alw] at h;obtain⟨rfl,rfl⟩:=h
   match ls0,cs,c0,hl,ha with
   | [],_,_,_,_=>cases Jw hs
   | x::s,d::ds,c::c0,hl,ha=>
    obtain⟨y,s',e,_,h2⟩:=Y1 hs;cases e;exact⟨[c],c0,[d],ds,s,rfl,rfl,⟨rfl,by rw[ha.1.1],ha.1.2⟩,by simpa using hl,h2,ha.2,λ l hl=>hn l (by simp[hl]),λ p hp'=>hp p (bz p hp')⟩
 | .sl E e,ls0,ls,c0,cs,v,r,h,hs,ha,hl,hn,hp=>by
  have key:∃ l,ls=l::r/\l.isSl=true:=by
   match ls,h with
   | .nil::r',h=>
    simp only[zK,alq,alw] at h;exact⟨.nil,by rw[h.2],rfl⟩
   | .sl id::r',h=>
    simp only[zK] at h;split at h
    ·split at h
     ·simp only[alq,alw] at h;exact⟨.sl id,by rw[h.2],rfl⟩
     ·cases h
    ·cases h
  obtain⟨l,rfl,hl1⟩:=key
  match ls0,cs,c0,hl,ha with
  | [],_,_,_,_=>cases Jw hs
  | x::s,d::ds,c::c0,hl,ha=>
   obtain⟨y,s',e,h1,h2⟩:=Y1 hs;cases e;rcases h1 with rfl|⟨_,h4⟩
   ·refine⟨[c],c0,[d],ds,s,rfl,rfl,⟨rfl,?_⟩,by simpa using hl,h2,ha.2,λ l hl=>hn l (by simp[hl]),λ p hp'=>hp p (bz p hp')⟩;have hx:=hn x (by simp);cases x with
    | sl id=>
     have:=hp (id,c) (by simp[Yc]);simp only at this;rw[ha.1.1,this]
    | nil=>exact absurd rfl hx
    | _=>cases hl1
   ·rw[hl1] at h4; cases h4
 | .pair a b,ls0,ls,c0,cs,v,r,h,hs,ha,hl,hn,hp=>by
  simp only[zK] at h;split at h
  ·next x r1 h1=>
   split at h
   ·next y r2 h2=>
    simp only[alq,alw] at h;obtain⟨rfl,rfl⟩:=h;obtain⟨c1,c2,d1,d2,r0,rfl,rfl,k1,k2,k3,k4,k5,k6⟩:=m0 a ls0 ls c0 cs x r1 h1 hs ha hl hn hp;obtain⟨c3,c4,d3,d4,r3,rfl,rfl,m1,m2,m3,m4,m5,m6⟩:=m0 b r0 r1 c2 d2 y r2 h2 k3 k4 k2 k5 k6;exact⟨c1++c3,c4,d1++d3,d4,r3,by simp,by simp,⟨c1,c3,d1,d3,rfl,rfl,k1,m1⟩,m2,m3,m4,m5,m6⟩
   ·cases h
  ·cases h
theorem Es {rets:List Ty} {rs:dens rets} {t:Ty} {ps:List (PK×Ty)} {v:z7 ((.ptr,t)::ps)} {j:Nat} {out:zR ((.ptr,t)::ps) rets} (h:JC st rets rs ((.ptr,t)::ps) v j=some out):
  ∃ lvl cells x r,look st.tab j=some (.box lvl cells)/\Zt (zd (.imm false) 0 t v.1 (j+1)).1 cells=true/\js st.tab t cells=some x/\JC st rets rs ps v.2 (zd (.imm false) 0 t v.1 (j+1)).2.2=some r/\out=(x,r):=by
 unfold JC at h;simp only at h;split at h
 ·next lvl cells hl=>
  split at h
  ·next x r h1 h2 h3=>cases h; exact⟨lvl,cells,x,r,hl,h1,h2,h3,rfl⟩
  ·cases h
 ·cases h
theorem Qa [Tags] (hr:Rel0 B X A w0 γ loc st a w) {n:Nat} {rk:RK} {rr xo pt:List Nat} {rets:List Ty} {v:Value} {rs:dens rets} (hR:J8 w n rk rr xo pt rets v rs) {w1:World}:
  ∀ (ps:List (PK×Ty)) (vs:z7 ps) (j:Nat) (xp:List Nat) (outs:zR ps rets) (vals:List Value) (r rp rc xo':List Nat),JC st rets rs ps vs j=some outs->ArgsOk w1 ps vs vals r rp rc xo' xp->
   (∀ p∈ZH w1 ps vs j xp,loc p.1=p.2)->OutOk w1 w n rk rr xo pt rets v ps outs xp
 | [],vs,j,xp,outs,vals,r,rp,rc,xo',h,hA,hp=>by
  have h:rs=outs:=Option.some.inj h;subst h;obtain⟨_,_,_,_,_,rfl⟩:=hA;exact⟨rfl,hR⟩
 | (.rd,t)::ps,vs,j,xp,outs,vals,r,rp,rc,xo',h,hA,hp=>by
  obtain⟨cs,vs',fp,r',_,_,_,h2⟩:=hA;exact Qa hr hR ps vs.2 _ xp outs vs' r' rp rc xo' h h2 hp
 | (.own,t)::ps,vs,j,xp,outs,vals,r,rp,rc,xo',h,hA,hp=>by
  obtain⟨cs,vs',xs,fs,r',xo'',_,_,_,_,h2⟩:=hA;exact Qa hr hR ps vs.2 _ xp outs vs' r' rp rc xo'' h h2 hp
 | (.cap,t)::ps,vs,j,xp,outs,vals,r,rp,rc,xo',h,hA,hp=>by
  obtain⟨b,vs',arr,T,fr,fp,r',rc',_,_,_,_,_,h2⟩:=hA;exact Qa hr hR ps vs.2 _ xp outs vs' r' rp rc' xo' h h2 hp
 | (.clo f,t)::ps,vs,j,xp,outs,vals,r,rp,rc,xo',h,hA,hp=>by
  obtain⟨b,vs',arr,T,fr,fp,r',rc',_,_,_,_,_,h2⟩:=hA;exact Qa hr hR ps vs.2 _ xp outs vs' r' rp rc' xo' h h2 hp
 | (.ptr,t)::ps,vs,j,xp,outs,vals,r,rp,rc,xo',h,hA,hp=>by
  obtain⟨lvl,cells,x,r1,hl,hst,hc,acB,rfl⟩:=Es h;obtain⟨b,vs',arr0,T0,fr0,fp0,rp',xp',_,q0,_,qr,_,rfl,h2⟩:=hA;obtain⟨b',arr,T,fr,g1,g2,g3,g4,g5⟩:=hr.ents j _ hl;have hj:=hp (j,.pointer (some ⟨b,0,none⟩)) (by simp[ZH]);simp only at hj;rw[hj] at g1;simp only[Value.pointer.injEq,alq,Addr.mk.injEq,and_true] at g1;subst g1;have hca:NJ w1 b=arr0.toList:=by simp[NJ,q0]
  obtain⟨z1,z2⟩:=sF (.imm false) 0 t vs.1 (j+1);obtain⟨c1,c2,d1,d2,r0,e1,e2,k1,k2,k3,k4,_,_⟩:=m0 t _ cells arr0.toList arr.toList x [] (Qm hc) hst g5 (by rw[qr.len,z1]) z2 (λ p hp'=>hp p (by simp only[ZH,hca]; simp[hp']))
  have hr0:r0=[]:=by
   cases r0 with
   | nil=>rfl
   | cons y s=>obtain⟨_,_,e,_⟩:=Y1 k3; cases e
  subst hr0;have hc2:c2=[]:=by simpa using k2
  have hd2:d2=[]:=by
   cases d2 with
   | nil=>rfl
   | cons _ _=>exact k4.elim
  subst hc2 hd2;simp only[anb] at e1 e2;exact⟨b,xp',arr0,T0,fr0,arr,T,fr,rfl,q0,g2,g3,by rw[e1,e2]; exact k1,Qa hr hR ps vs.2 _ xp' r1 vs' r rp' rc xo' acB h2 (λ p hp'=>hp p (by simp[ZH,hp']))⟩
theorem NV [Tags] {rets:List Ty} {rs:dens rets}:∀ (ps:List (PK×Ty)) (vs:z7 ps) (j:Nat) (xp:List Nat) (outs:zR ps rets) (vals:List Value) (r rp rc xo':List Nat) (w1:World),JC st rets rs ps vs j=some outs->ArgsOk w1 ps vs vals r rp rc xo' xp->
  ∀ b∈xp,∃ i,(i,Value.pointer (some ⟨b,0,none⟩))∈ZH w1 ps vs j xp/\∃ lvl cells,look st.tab i=some (.box lvl cells)
 | [],vs,j,xp,outs,vals,r,rp,rc,xo',w1,h,hA=>by obtain⟨_,_,_,_,_,rfl⟩:=hA; simp
 | (.rd,t)::ps,vs,j,xp,outs,vals,r,rp,rc,xo',w1,h,hA=>by
  obtain⟨cs,vs',fp,r',_,_,_,h2⟩:=hA;exact NV ps vs.2 _ xp outs vs' r' rp rc xo' w1 h h2
 | (.own,t)::ps,vs,j,xp,outs,vals,r,rp,rc,xo',w1,h,hA=>by
  obtain⟨cs,vs',xs,fs,r',xo'',_,_,_,_,h2⟩:=hA;exact NV ps vs.2 _ xp outs vs' r' rp rc xo'' w1 h h2
 | (.cap,t)::ps,vs,j,xp,outs,vals,r,rp,rc,xo',w1,h,hA=>by
  obtain⟨b,vs',arr,T,fr,fp,r',rc',_,_,_,_,_,h2⟩:=hA;exact NV ps vs.2 _ xp outs vs' r' rp rc' xo' w1 h h2
 | (.clo f,t)::ps,vs,j,xp,outs,vals,r,rp,rc,xo',w1,h,hA=>by
  obtain⟨b,vs',arr,T,fr,fp,r',rc',_,_,_,_,_,h2⟩:=hA;exact NV ps vs.2 _ xp outs vs' r' rp rc' xo' w1 h h2
 | (.ptr,t)::ps,vs,j,xp,outs,vals,r,rp,rc,xo',w1,h,hA=>by
  obtain⟨lvl,cells,x,r1,hl,hst,hc,acB,rfl⟩:=Es h;obtain⟨b,vs',arr0,T0,fr0,fp0,rp',xp',_,_,_,_,_,rfl,h2⟩:=hA;intro c hc';rcases List.mem_cons.1 hc' with rfl|hc'
  ·exact⟨j,by simp[ZH],lvl,cells,hl⟩
  ·obtain⟨i,k1,k2⟩:=NV ps vs.2 _ xp' r1 vs' r rp' rc xo' w1 acB h2 c hc';exact⟨i,by simp[ZH,k1],k2⟩
theorem Ng [Tags] {avs:List AV} {vals:List Value} {n j:Nat} (h:All2 (AVOk loc) avs vals) (hl:∀ x∈avs,x.lt j) (t:Nat) (v:AV) (ht:(avs++List.replicate (n - avs.length) (.tup []))[t]?=some v):
  AVOk loc v ((vals.toArray++Array.replicate (n - vals.toArray.size) undef).getD t undef)/\v.lt j:=by
 have hlen:=h.len;rw[am0];by_cases hlt:t<avs.length
 ·rw[amx hlt] at ht;obtain⟨y,hy,hv⟩:=h.get ht;have ajN:t<vals.length:=by omega
  have ajO:t<vals.toArray.size:=by simpa using ajN
  rw[Array.getElem?_append_left ajO];simp only[an8,hy,alZ];exact⟨hv,hl v (List.mem_of_getElem? ht)⟩
 ·rw[an0 (by omega),List.getElem?_replicate] at ht;split at ht
  ·cases ht;have hge:vals.toArray.size<=t:=by simp; omega
   rw[Array.getElem?_append_right hge,anh];refine⟨?_,by simp[AV.lt]⟩;split
   ·exact lC loc
   ·exact lC loc
  ·cases ht
def KO (p:Nat):List (PK×Ty)->Bool
 | []=>true
 | (.rd,t)::r => !Zk p t && KO p r
 | (.own,t)::r => !Zk p t && KO p r
 | (.ptr,t)::r => !Zk p t && KO p r
 | _=>false
theorem ArgsOk.tags [Tags] {w:World}:∀ {ps:List (PK×Ty)} {vs:z7 ps} {vals:List Value} {r rp rc xo xp:List Nat},ArgsOk w ps vs vals r rp rc xo xp->KO Tags.post ps=true->
  ∀ b,(b∈r∨b∈rp∨b∈rc)->∀ arr fr,w.heap[b]?≠some (.cells arr Tags.post fr)
 | [],_,_,_,_,_,_,_,h,_=>by obtain⟨_,rfl,rfl,rfl,_,_⟩:=h; simp
 | (.rd,t)::ps,v,_,_,_,_,_,_,h,ht=>by
  simp only[KO,alp,alU] at ht;obtain⟨cs,vs,fp,r',_,h1,rfl,h'⟩:=h;intro b hb;simp only[alK] at hb;rcases hb with (hb|hb)|hb
  ·exact h1.tags ht.1 b hb
  ·exact h'.tags ht.2 b (.inl hb)
  ·exact h'.tags ht.2 b (.inr hb)
 | (.own,t)::ps,v,_,_,_,_,_,_,h,ht=>by
  simp only[KO,alp,alU] at ht;obtain⟨cs,vs,xs,fs,r',xo',_,h1,rfl,_,h'⟩:=h;intro b hb;simp only[alK] at hb;rcases hb with (hb|hb)|hb
  ·exact h1.tags ht.1 b hb
  ·exact h'.tags ht.2 b (.inl hb)
  ·exact h'.tags ht.2 b (.inr hb)
 | (.ptr,t)::ps,v,_,_,_,_,_,_,h,ht=>by
  simp only[KO,alp,alU] at ht;obtain⟨c,vs,arr,T,fr,fp,rp',xp',_,_,_,h1,rfl,_,h'⟩:=h;intro b hb;simp only[alK] at hb;rcases hb with hb|(hb|hb)|hb
  ·exact h'.tags ht.2 b (.inl hb)
  ·exact h1.tags ht.1 b hb
  ·exact h'.tags ht.2 b (.inr (.inl hb))
  ·exact h'.tags ht.2 b (.inr (.inr hb))
theorem Dr [Tags] {F:yR} {gl:Glob} (hE:Ze P gl F.E) {f:FuncId} {fn:Func} (hf:P.funcs[f]?=some fn) (hn:(fn.name == "runtime.NumGoroutine")=false) {pf:PF}
  (hev:∀ args outs,pf.fn args=some outs->Qp F fn pf.params pf.rets pf.rk args=some outs)
  (hTw:F.E.thaws=[]∨(KO Tags.post pf.params=true/\∀ x∈F.E.thaws,x.2=Tags.post):=by exact .inl rfl):Sound P gl f pf:=by
 constructor;intro w args vals r rp rc xo xp outs hA hnd adE hG hgb hout;have hout:=hev _ _ hout;unfold Qp at hout;split at hout
 ·next body avs es j adZ ae6=>
  have hcf:(callFunc f vals.toArray).run P w=.ok (.enter f vals.toArray) w:=by
   have hn':¬ fn.name = "runtime.NumGoroutine" := by simpa using hn
   simp[callFunc,hf,hn',adZ]
  unfold CallsTo;rw[hcf];simp only;refine calls_of_wp hf adZ ?_
  let γ0:Nat->Own:=λ b=>open Classical in if b∈r∨b∈rp∨b∈rc then .persist else .alien
  obtain⟨loc,γ,hEn⟩:=K5 pf.params args 0 vals r rp rc xo xp avs es j (λ _=>undef) γ0 hA ae6 hnd adE (λ b hb=>by simp only[γ0,if_pos hb]) (λ b hb=>by
   have:=adE b (by rcases hb with h|h<;>simp[h])
   simp only[γ0,this.1,this.2.1,this.2.2,or_self,if_false])
  let A:Ctx:={ rds:=r++rp++rc,pins:=ZH w pf.params args 0 xp,gl:=gl,tg:=KO Tags.post pf.params }
  have ad7:Rel w.heap.size (xo++xp) A w { slots:=avs++List.replicate (fn.ntmps - avs.length) (.tup []),tab:=es,nxt:=j,lvl:=0 }
    { tmps:=vals.toArray++Array.replicate (fn.ntmps - vals.toArray.size) undef,defers:=[]} w:=by
   refine⟨γ,loc,?_⟩;exact {
    defers:=rfl
    keeps:=KeepsW.refl _ _ _
    unf:=λ b hb=>by
     by_cases h1:b∈xo++xp
     ·exact hA.unfr b h1
     ·simp only[alK,not_or] at h1;rw[hEn.own b h1.1 h1.2] at hb;by_cases hm:b∈r∨b∈rp∨b∈rc
      ·simp[γ0,if_pos hm,owned] at hb
      ·simp[γ0,if_neg hm,owned] at hb
    old:=λ b hb hx=>by
     simp only[alK,not_or] at hx;rw[hEn.own b hx.1 hx.2];by_cases hm:b∈r∨b∈rp∨b∈rc
     ·right;simp only[γ0,if_pos hm,A,alK,true_and];rcases hm with h|h|h<;>simp[h]
     ·left; simp only[γ0,if_neg hm]
    Ble:=Nat.le_refl _
    size:=by have:=hEn.vals.len; simp[this]
    slots:=λ t v hv=>(Ng hEn.vals hEn.lts t v hv).1
    ents:=λ id e he=>(hEn.ents id e he).1
    slt:=λ t v hv=>(Ng hEn.vals hEn.lts t v hv).2
    elt:=λ id e he=>⟨(hEn.ents id e he).2.2.2,(hEn.ents id e he).2.2.1⟩
    pins:=hEn.pins
    dlab:=by simp[A]
    glob:=⟨hG,hgb,Nat.le_refl _,hA.unfr⟩
    rtag:=λ h b hb=>hA.tags h b (by simpa[A,or_assoc] using hb)
    dpc:=by simp[A]}
  refine KC hE ⟨rfl,rfl⟩ hTw body _ _ _ w _ hout ad7 ?_;intro x st' hk hp a' w' hr';have aei:Nn F fn pf.params pf.rets pf.rk args st'=some outs->a'.defers=[]/\∃ v,(results fn a'.tmps).run P w'=.ok v w'/\(KeepsW w.heap.size (xo++xp) w w'/\∃ pt,OutOk w w' w.heap.size pf.rk (r++rp++rc) xo pt pf.rets v pf.params outs xp):=by
   intro hk;obtain⟨γ',loc',hr'⟩:=hr';unfold Nn at hk;split at hk
   ·next rs ls aeD=>
    split at hk
    ·next hok=>
     refine⟨hr'.defers,?_⟩;have agi:∀ b∈xp,∃ i,γ' b=.top i/\∃ lvl cells,look st'.tab i=some (.box lvl cells):=by
      intro b hb;obtain⟨i,h1,lvl,cells,h2⟩:=NV pf.params args 0 xp outs vals r rp rc xo w hk hA b hb;obtain⟨b',arr,T,fr,g1,g2,g3,g4,g5⟩:=hr'.ents i _ h2;have:=(hr'.pins _ h1).2;simp only at this;rw[this] at g1;simp only[Value.pointer.injEq,alq,Addr.mk.injEq,and_true] at g1;subst g1;exact⟨i,g4,lvl,cells,h2⟩
     have aeL:∀ b,γ' b ≠ .alien->(∀ i,γ' b=.top i->LN st' i)->From w.heap.size (r++rp++rc) xo b:=by
      intro b hb ha;by_cases hlt:b<w.heap.size
      ·by_cases hx:b∈xo++xp
       ·rcases List.mem_append.1 hx with hx|hx
        ·exact .inr (.inr hx)
        ·obtain⟨i,e,lvl,cells,hl⟩:=agi b hx;obtain⟨k,lvl',E',e',xs,hl'⟩:=ha i e;rw[hl] at hl'; cases hl'
       ·rcases hr'.old b hlt hx with h|⟨_,h⟩
        ·exact absurd h hb
        ·exact .inr (.inl h)
      ·exact .inl (by omega)
     have afc:∀ b,((∃ i,γ' b=.top i/\LN st' i)∨∃ i,γ' b=.deep i)->w.heap.size<=b∨b∈xo:=by
      intro b hb;by_cases hlt:b<w.heap.size
      ·by_cases hx:b∈xo++xp
       ·rcases List.mem_append.1 hx with hx|hx
        ·exact .inr hx
        ·obtain⟨i,e,lvl,cells,hl⟩:=agi b hx;rcases hb with⟨i',e',k,lvl',E',e'',xs,hl'⟩|⟨i',e'⟩
         ·rw[e] at e'; cases e'; rw[hl] at hl'; cases hl'
         ·rw[e] at e'; cases e'
       ·exfalso;rcases hr'.old b hlt hx with h|⟨h,_⟩<;>rcases hb with⟨i',e',_⟩|⟨i',e'⟩<;>rw[h] at e'<;>cases e'
      ·exact .inl (by omega)
     let pt:List Nat:=[]
     have ahi:∀ b,γ' b ≠ .persist->b∉pt:=λ b hb=>by simp[pt]
     have acE:∀ {ids:List Nat},yk st' ls=some ids->∀ i∈ids,LN st' i:=λ hg i hi=>by
      obtain⟨u,lvl,E',e,xs,hl,_⟩:=YI hg i hi;exact⟨_,lvl,E',e,xs,hl⟩
     have adg:∃ v,(results fn a'.tmps).run P w'=.ok v w'/\J8 w' w.heap.size pf.rk (r++rp++rc) xo pt pf.rets v rs:=by
      cases hrk:pf.rk with
      | shared=>
       obtain⟨css,fs,k1,k2,k3⟩:=pN hE.tys hr' _ _ _ _ aeD;exact⟨_,bf k2,css,[],fs,k1,rfl,(λ b hb=>aeL b (k3 b hb).1 (k3 b hb).2),λ h=>by cases h⟩
      | uniq=>
       rw[hrk] at hok;simp only[N2] at hok;obtain⟨ids,aeQ⟩:=Option.isSome_iff_exists.1 hok;obtain⟨g1,g2⟩:=YJ aeQ;obtain⟨css,xb,fs,k1,k2,k3,k4,k5,k6⟩:=bd hE.tys hr' .uniq (by simp) _ _ _ _ _ aeD g1;obtain⟨n1,n2⟩:=k6 g2;refine⟨_,bf k2,css,xb,fs,k1,rfl,⟨ZG k3 n1 ?_,?_⟩,λ _ b hb=>by obtain⟨i,_,e⟩:=n2 b hb; exact hr'.unf b (by rw[e]; trivial)⟩
       ·intro b hb hb';obtain⟨i,_,e⟩:=k4 b hb;obtain⟨i',_,e'⟩:=n2 b hb';rw[e] at e'; cases e'
       ·intro b hb;rcases List.mem_append.1 hb with hb|hb
        ·obtain⟨i,hi,e⟩:=k4 b hb;exact⟨afc b (.inl ⟨i,e,acE g1 i hi⟩),ahi b (by simp[e])⟩
        ·obtain⟨i,hi,e⟩:=n2 b hb;exact⟨afc b (.inr ⟨i,e⟩),ahi b (by simp[e])⟩
      | own=>
       rw[hrk] at hok;simp only[N2] at hok;obtain⟨ids,g1⟩:=Option.isSome_iff_exists.1 hok;obtain⟨css,xb,fs,k1,k2,k3,k4,k5,k6⟩:=bd hE.tys hr' .own (by simp) _ _ _ _ _ aeD g1;refine⟨_,bf k2,css,xb,fs,k1,rfl,⟨k3,?_,?_,?_⟩,λ h=>by cases h⟩
       ·intro b hb;obtain⟨i,hi,e⟩:=k4 b hb;exact⟨afc b (.inl ⟨i,e,acE g1 i hi⟩),ahi b (by simp[e])⟩
       ·intro b hb hb';obtain⟨i,_,e⟩:=k4 b hb;rcases k5 b hb' with e'|⟨i',_,e'⟩<;>rw[e] at e'<;>cases e'
       ·intro b hb;rcases k5 b hb with e|⟨i,_,e⟩
        ·exact aeL b (by simp[e]) (by simp[e])
        ·exact aeL b (by simp[e]) (by simp[e])
     obtain⟨v,hv1,hv2⟩:=adg;exact⟨v,hv1,hr'.keeps,pt,Qa hr' hv2 pf.params args 0 xp outs vals r rp rc xo hk hA (λ p hp'=>(hr'.pins p hp').2)⟩
    ·cases hk
   ·cases hk
  cases x with
  | exit id=>cases hk
  | normal=>exact aei hk
  | ret=>exact aei hk
 ·cases hout
def c6 (fn:Func) (ret:Ty) (st:St):Option (den ret):=match fn.results.toList with
 | [.tmp s]=>match st.slots[s]? with
  | some (.v (.one (.ptr id 0)))=>match look st.tab id with
   | some (.box _ cells)=>match yr st cells with
    | true=>js st.tab ret cells
    | false=>none
   | _=>none
  | _=>none
 | _=>none
noncomputable def mz (F:yR) (fn:Func) (ps:List (PK×Ty)) (ret:Ty) (args:z7 ps):Option (den ret):=
 match fn.body,y7 ps args 0 with
 | some body,some (avs,es,j)=>
  jC F body { slots:=avs++List.replicate (fn.ntmps - avs.length) (.tup []),tab:=es,nxt:=j,lvl:=0 } λ x st=>
   match x with
   | .exit _=>none
   | .normal=>c6 fn ret st
   | .ret=>c6 fn ret st
 | _,_=>none
theorem aax [Tags] {F:yR} {gl:Glob} (hE:Ze P gl F.E) {f:FuncId} {fn:Func} (hf:P.funcs[f]?=some fn) (hn:(fn.name == "runtime.NumGoroutine")=false) {nf:NF}
  (hev:∀ args v,nf.fn args=some v->mz F fn nf.params nf.ret args=some v) (hTw:F.E.thaws=[]:=by rfl):KV P gl f nf:=by
 constructor;intro w args vals r out hA hG hgb hout;have hout:=hev _ _ hout;unfold mz at hout;split at hout
 ·next body avs es j adZ ae6=>
  have hcf:(callFunc f vals.toArray).run P w=.ok (.enter f vals.toArray) w:=by
   have hn':¬ fn.name = "runtime.NumGoroutine" := by simpa using hn
   simp[callFunc,hf,hn',adZ]
  unfold CallsTo;rw[hcf];simp only;refine calls_of_wp hf adZ ?_
  let γ0:Nat->Own:=λ b=>open Classical in if b∈r then .persist else .alien
  obtain⟨loc,γ,hEn⟩:=K5 nf.params args 0 vals r [] [] [] [] avs es j (λ _=>undef) γ0 hA ae6 (by simp) (by simp) (λ b hb=>by
   rcases hb with hb|hb|hb
   ·simp only[γ0,if_pos hb]
   ·simp at hb
   ·simp at hb) (λ b hb=>by rcases hb with h|h<;>simp at h)
  let A:Ctx:={ rds:=r,pins:=ZH w nf.params args 0 [],gl:=gl }
  have ad7:Rel w.heap.size [] A w { slots:=avs++List.replicate (fn.ntmps - avs.length) (.tup []),tab:=es,nxt:=j,lvl:=0 }
    { tmps:=vals.toArray++Array.replicate (fn.ntmps - vals.toArray.size) undef,defers:=[]} w:=by
   refine⟨γ,loc,?_⟩;exact {
    defers:=rfl
    keeps:=KeepsW.refl _ _ _
    unf:=λ b hb=>by
     rw[hEn.own b (by simp) (by simp)] at hb;by_cases hm:b∈r
     ·simp[γ0,if_pos hm,owned] at hb
     ·simp[γ0,if_neg hm,owned] at hb
    old:=λ b hb hx=>by
     rw[hEn.own b (by simp) (by simp)];by_cases hm:b∈r
     ·right; simp only[γ0,if_pos hm,A,true_and]; exact hm
     ·left; simp only[γ0,if_neg hm]
    Ble:=Nat.le_refl _
    size:=by have:=hEn.vals.len; simp[this]
    slots:=λ t v hv=>(Ng hEn.vals hEn.lts t v hv).1
    ents:=λ id e he=>(hEn.ents id e he).1
    slt:=λ t v hv=>(Ng hEn.vals hEn.lts t v hv).2
    elt:=λ id e he=>⟨(hEn.ents id e he).2.2.2,(hEn.ents id e he).2.2.1⟩
    pins:=hEn.pins
    dlab:=by simp[A]
    glob:=⟨hG,λ b hb=>⟨hgb b hb,by simp⟩,Nat.le_refl _,by simp⟩
    rtag:=by intro h; cases h
    dpc:=by simp[A]}
  refine KC hE ⟨rfl,rfl⟩ (.inl hTw) body _ _ _ w _ hout ad7 ?_;intro x st' hk hp a' w' hr';have aei:c6 fn nf.ret st'=some out->a'.defers=[]/\∃ u,(results fn a'.tmps).run P w'=.ok u w'/\(KeepsW w.heap.size [] w w'/\∃ b arr T fr fs,u=.pointer (some ⟨b,0,none⟩)/\w.heap.size<=b/\
    w'.heap[b]?=some (.cells arr T fr)/\frees fr arr.size/\Rd w' nf.ret out arr.toList fs/\∀ c∈fs,c≠b/\(w.heap.size<=c∨c∈r)):=by
   intro hk;obtain⟨γ',loc',hr'⟩:=hr';refine⟨hr'.defers,?_⟩;unfold c6 at hk;split at hk
   ·next s aeD=>
    split at hk
    ·next id hs=>
     split at hk
     ·next lvl cells hl=>
      split at hk
      ·next hst=>
       obtain⟨b0,hb0,hv0⟩:=hr'.slots s _ hs;obtain⟨b,arr,T,fr,h1,h2,h3,h4,h5⟩:=hr'.ents id _ hl;rw[h1] at hb0;simp only[Value.pointer.injEq,alq,Addr.mk.injEq,and_true] at hb0;subst hb0;obtain⟨fp,q1,q2,q3⟩:=YF hr' hk h5;have hrr:(results fn a'.tmps).run P w'=.ok (Z9 [a'.tmps.getD s undef]) w':=by
        refine bf ?_;rw[aeD];exact⟨by simp[YS],trivial⟩
       refine⟨_,hrr,hr'.keeps,b,arr,T,fr,fp,hv0,?_,h2,h3,q1,?_⟩
       ·rcases Nat.lt_or_ge b w.heap.size with hlt|hge
        ·rcases hr'.old b hlt (by simp) with h|⟨h,_⟩<;>rw[h4] at h<;>cases h
        ·exact hge
       ·intro c hc;have aeS:=q3 hst c hc;refine⟨λ e=>(by rw[e,h4] at aeS; cases aeS),?_⟩
        rcases Nat.lt_or_ge c w.heap.size with hlt|hge
        ·right;rcases hr'.old c hlt (by simp) with h|⟨_,h⟩
         ·rw[aeS] at h; cases h
         ·exact h
        ·exact .inl hge
      ·cases hk
     ·cases hk
    ·cases hk
   ·cases hk
  cases x with
  | exit id=>cases hk
  | normal=>exact aei hk
  | ret=>exact aei hk
 ·cases hout
end Ev
