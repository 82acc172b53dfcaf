/- The evaluator of the own library, part 6: its words, its soundness. Conditions: none of its own. -/
import Derived.Test.YthcbhmiocejpjaaGreatDoorLibE
import Derived.Orders
set_option linter.unusedSimpArgs false
set_option linter.unusedVariables false
namespace Ev
open Go
variable {P:Program} {a:Act} {w:World} {next:Act->World->Prop} {Q:Exit->Act->World->Prop}
variable {B:Nat} {X:List Nat} {A:Ctx} {w0:World} {γ:Nat->Own} {loc:Nat->Value}
variable {E:Env} {ops:List Oper} {all:List (List Nat)} {st:St} {ts:List Stp} {gf:St} {gs:Nat->St} {anc:Nat->List Nat} {S:Nat->Prop} {i:Nat}
theorem Rel0.same [Tags] {s1 s2:St} (h:Rel0 B X A w0 γ loc s1 a w) (hA:A.dl=[]/\A.dps=[]) (h1:s2.slots.length=s1.slots.length) (hs:∀ (t:Nat) (v:AV),s2.slots[t]?=some v->s1.slots[t]?=some v)
  (ht:∀ (id:Nat) (e:Ent),look s2.tab id=some e->look s1.tab id=some e) (hn:s1.nxt<=s2.nxt):Rel0 B X A w0 γ loc s2 a w where
 defers:=h.defers
 keeps:=h.keeps
 unf:=h.unf
 old:=h.old
 Ble:=h.Ble
 size:=h1.trans h.size
 slots:=λ t v hv=>h.slots t v (hs t v hv)
 ents:=λ id e he=>h.ents id e (ht id e he)
 slt:=λ t v hv=>AV.lt_mono hn (h.slt t v (hs t v hv))
 elt:=λ id e he=>⟨Ent.lt_mono hn (h.elt id e (ht id e he)).1,Nat.lt_of_lt_of_le (h.elt id e (ht id e he)).2 hn⟩
 pins:=λ p hp=>⟨Nat.lt_of_lt_of_le (h.pins p hp).1 hn,(h.pins p hp).2⟩
 dlab:=λ p hp=>by rw[hA.1] at hp; simp at hp
 glob:=h.glob
 rtag:=h.rtag
 dpc:=h.dpc
theorem MJ {N:Nat} (t:Nat):(sS ops ts st N S).slots[t]?=if t<st.slots.length then some ((yV ops ts S st ops.length t).getD .top) else none:=by
 simp only[sS,ash];split
 ·next h=>rw[asU h]; rfl
 ·next h=>rw[ar9 (by simpa using Nat.le_of_not_lt h)]; rfl
theorem N0 {N:Nat}:(sS ops ts st N S).slots.length=st.slots.length:=by simp[sS]
theorem MI [Tags] {N:Nat} (id:Nat):look (sS ops ts st N S).tab id=if id<N then yY ts S st ops.length id else none:=aaH N _ id
structure DrawAt (E:Env) (ops:List Oper) (all:List (List Nat)) (st:St) (ts:List Stp) (gf:St) (gs:Nat->St) (anc:Nat->List Nat):Prop where
 T:TraceI E ops all st ts gf gs anc
 N:(ops.filterMap (·.dst)).Nodup
 edges:qK ops 0=true
 hall:all=L1 ops []
 slt:∀ (t:Nat) (v:AV),st.slots[t]?=some v->v.lt st.nxt
 elt:∀ (id:Nat) (e:Ent),look st.tab id=some e->e.lt st.nxt/\id<st.nxt
theorem DrawAt.hpn [Tags] (C:DrawAt E ops all st ts gf gs anc) {i:Nat} {s:Stp} (hs:ts[i]?=some s) (ah4:s.run=true):∀ (id:Nat) (e:Ent),look s.p'.tab id=some e->id<s.p'.nxt:=by
 have hlt:i<ops.length:=by
  rw[←C.T.len];rcases Nat.lt_or_ge i ts.length with h|h
  ·exact h
  ·rw[ar9 h] at hs; cases hs
 obtain⟨o,s',ho,hs',hst⟩:=C.T.get hlt;rw[hs] at hs';cases hs';exact λ id e he=>((cG (hst.run ah4).out).2.2 id e he).1
theorem DrawAt.tabs [Tags] (C:DrawAt E ops all st ts gf gs anc) {i:Nat} (hi:i<=ops.length):(∀ id,look (gs i).tab id=yY ts (λ _=>True) st i id)/\∀ (id:Nat) (e:Ent),look (gs i).tab id=some e->id<(gs i).nxt:=
 Ai C.T (λ id e he=>(C.elt id e he).2) (λ i s hs ah4=>C.hpn hs ah4) i hi
theorem TraceI.lt_of (hT:TraceI E ops all st ts gf gs anc) {i:Nat} {s:Stp} (hs:ts[i]?=some s):i<ops.length:=by
 rw[←hT.len];rcases Nat.lt_or_ge i ts.length with h|h
 ·exact h
 ·rw[ar9 h] at hs; cases hs
def Met (S:Nat->Prop) (st:St) (ts:List Stp) (id:Nat):Prop:=id<st.nxt∨∃ (j:Nat) (s:Stp),S j/\ts[j]?=some s/\(id∈s.rc.reach∨(s.rc.lo<=id/\id<s.rc.hi))
theorem kQ [Tags] (hT:TraceI E ops all st ts gf gs anc) (hD:∀ j,S j->∀ k∈anc j,S k) (hi:¬ S i) {si:Stp} (hsi:ts[i]?=some si) {id:Nat} (h:Met S st ts id):id<si.rc.lo∨si.rc.hi<=id:=by
 obtain⟨a1,a2,a3,a4,a5⟩:=hT.nums hsi;have hin:=hT.lt_of hsi;rcases h with h|⟨j,s,hj,hs,h⟩
 ·left;have:=hT.mono (i:=0) (j:=i) (by omega) (by omega);rw[hT.first] at this;omega
 ·obtain⟨b1,b2,b3,b4,b5⟩:=hT.nums hs;have hjn:=hT.lt_of hs;rcases Nat.lt_trichotomy j i with hlt|rfl|hlt
  ·left;have:=hT.mono (i:=j+1) (j:=i) hlt (by omega);rcases h with h|h
   ·have:=b4 id h; omega
   ·omega
  ·exact absurd hj hi
  ·have hna:i∉anc j:=λ h=>hi (hD j hj i h);obtain⟨c1,c2,c3⟩:=hT.apart hsi hs hlt hna;rcases h with h|h
   ·exact c3 id h
   ·right;have:=hT.mono (i:=i+1) (j:=j) hlt (by omega);omega
theorem G9 [Tags] (C:DrawAt E ops all st ts gf gs anc) {t:Nat}:∀ m,m<=ops.length->∀ v,yV ops ts S st m t=some v->∀ id∈v.ids,Met S st ts id
 | 0,_,v,h,id,hid=>.inl (AV.ids_lt (C.slt t v h) id hid)
 | m+1,hm,v,h,id,hid=>by
  obtain⟨o,s,ho,hs,hst⟩:=C.T.get (show m<ops.length by omega);simp only[yV,ho,hs] at h;split at h
  ·next hc=>
   split at h
   ·next ah4=>
    have hr:=hst.run ah4;obtain⟨q1,q2,q3⟩:=cG hr.out;obtain⟨v',hv',hok⟩:=q2 t hc.2.1;rw[h] at hv';cases hv';refine .inr ⟨m,s,hc.1,hs,?_⟩;rcases hok id hid with h'|h'
    ·exact .inl h'
    ·right; rw[hr.rc]; exact h'
   ·cases h; simp[AV.ids,J4] at hid
  ·exact G9 C m (by omega) v h id hid
theorem xn [Tags] (C:DrawAt E ops all st ts gf gs anc) {id:Nat}:∀ m,m<=ops.length->∀ e,yY ts S st m id=some e->Met S st ts id/\∀ x∈e.ids,Met S st ts x
 | 0,_,e,h=>⟨.inl (C.elt id e h).2,λ x hx=>.inl (Ent.ids_lt (C.elt id e h).1 x hx)⟩
 | m+1,hm,e,h=>by
  obtain⟨o,s,ho,hs,hst⟩:=C.T.get (show m<ops.length by omega);obtain⟨b1,b2,b3,b4,b5⟩:=C.T.nums hs;simp only[yY,hs] at h;split at h
  ·next hc=>
   cases ah4:s.run with
   | false=>
    have hsk:=hst.skip ah4;have ht:=hc.2;simp only[Stp.touch,hsk.rc] at ht;rcases ht with ht|ht
    ·simp at ht
    ·omega
   | true=>
    have hr:=hst.run ah4;obtain⟨q1,q2,q3⟩:=cG hr.out;have ht:id∈s.rc.wr∨(s.rc.lo<=id/\id<s.rc.hi):=hc.2;refine⟨.inr ⟨m,s,hc.1,hs,ht.imp (b5 id) (λ h=>h)⟩,λ x hx=>.inr ⟨m,s,hc.1,hs,?_⟩⟩;have hlo:s.rc.lo=(gs m).nxt:=by rw[hr.rc]
    have:=(q3 id e h).2 (by
                 rcases ht with ht|ht; · exact .inr ht
                 ·exact .inl (by rw[←hlo]; exact ht.1)) x hx
    rcases this with h'|h'
    ·exact .inl h'
    ·right; rw[hr.rc]; exact h'
  ·exact xn C m (by omega) e h
theorem G7 [Tags] (C:DrawAt E ops all st ts gf gs anc) {t:Nat} (ht:t<st.slots.length):∀ m,m<=ops.length->∃ v,yV ops ts S st m t=some v
 | 0,_=>⟨st.slots[t],List.getElem?_eq_getElem ht⟩
 | m+1,hm=>by
  obtain⟨o,s,ho,hs,hst⟩:=C.T.get (show m<ops.length by omega);simp only[yV,ho,hs];split
  ·next hc=>
   split
   ·next ah4=>
    obtain⟨v',hv',hok⟩:=(cG (hst.run ah4).out).2.1 t hc.2.1;exact⟨v',hv'⟩
   ·exact⟨_,rfl⟩
  ·exact G7 C ht m (by omega)
theorem vd [Tags] (C:DrawAt E ops all st ts gf gs anc) (hAi:∀ k∈anc i,S k) (hi:¬ S i) (hNd:∀ j,S j->i∉anc j) (hin:i<ops.length) {N t:Nat} {v:AV} (ajD:∀ (k:Nat) (o:Oper),ops[k]?=some o->o.dst=some t->k∈anc i∨i∈anc k)
  (hv:(gs i).slots[t]?=some v):(sS ops ts st N S).slots[t]?=some v:=by
 obtain⟨g1,g2,g3⟩:=qW C.T i (by omega);have hlt:t<st.slots.length:=by
  rw[←g2];rcases Nat.lt_or_ge t (gs i).slots.length with h|h
  ·exact h
  ·rw[ar9 h] at hv; cases hv
 rw[MJ,if_pos hlt,(G6 C.T hAi hi (C.T.anc_lt i hin) (λ k hk=>C.T.anc_lt k hk) hNd ajD ops.length (arp _)).2 (by omega),←g1 t,hv];rfl
theorem V7 [Tags] (hE:Zx P A.gl E) (hA:A.dl=[]/\A.dps=[]) (C:DrawAt E ops all st ts gf gs anc) {opsA:Array Oper} (aiF:opsA.toList=ops) {o:Oper} {si:Stp} (ho:ops[i]?=some o) (hsi:ts[i]?=some si)
  (hD:∀ j,S j->∀ k∈anc j,S k) (hAi:∀ k∈anc i,S k) (hi:¬ S i) (amj:∀ q∈A.pins,q.1<st.nxt) (hr:Rel0 B X A w0 γ loc (sS ops ts st gf.nxt S) a w)
  (hn:(si.run=true->Pres o.dst.toList si.p si.p')->∀ a' w',Rel B X A w0 (sS ops ts st gf.nxt (λ j=>S j∨j=i)) a' w'->next a' w'):
  if Region.wanted o (yielded opsA a.tmps) then o.wp P a w next Q else next (a.put o.dst undef) w:=by
 classical
 have hin:=C.T.lt_of hsi;obtain⟨o',s',ho',hs',hst⟩:=C.T.get hin;rw[ho] at ho'; rw[hsi] at hs'
 cases ho'; cases hs'
 obtain⟨a1,a2,a3,a4,a5⟩:=C.T.nums hsi;obtain⟨cf1,cf2⟩:=C.T.cfs hsi;obtain⟨g1,g2,g3⟩:=qW C.T i (by omega);obtain⟨t1,t2⟩:=C.tabs (i:=i) (by omega);have hNd:∀ j,S j->i∉anc j:=λ j hj h=>hi (hD j hj i h);have anl:=λ id=>xk C.T hNd hi hsi id ops.length (Nat.le_refl _);have hsl:=λ t=>G4 C.T C.N hi ho hsi t ops.length (Nat.le_refl _);have aiO:(gs (i+1)).nxt<=gf.nxt:=by rw[←C.T.last]; exact C.T.mono (by omega) (Nat.le_refl _)
-- the guard
 have hw:Region.wanted o (yielded opsA a.tmps)=si.run:=by
  have hg:=hst.guard;unfold Region.wanted;split at hg
  ·next h=>rw[h,hg]
  ·next j want h=>
   rw[h];simp only;obtain⟨hj,d,hd,hg⟩:=hg;have ajD:∀ (k:Nat) (o:Oper),ops[k]?=some o->o.dst=some d->k∈anc i∨i∈anc k:=by
    intro k ok hk hkd;left;obtain⟨oj,hoj,hdj⟩:=Option.bind_eq_some_iff.1 hd;rw[rV C.N hk hoj hkd hdj];exact hj
   have hd':(opsA.toList[j]?).bind (·.dst)=some d:=by rw[aiF]; exact hd
   have ahB:Rel B X A w0 (sS ops ts st gf.nxt S) a w:=⟨γ,loc,hr⟩
   rcases hg with⟨x,hx,ah4⟩|⟨hx,ah4⟩
   ·have hx':=vd (S:=S) (N:=gf.nxt) C hAi hi hNd hin ajD hx;rw[Ot hd' (mW ahB hx') (Ib ahB hx'),ah4];cases x<;>cases want<;>rfl
   ·have hx':=vd (S:=S) (N:=gf.nxt) C hAi hi hNd hin ajD hx;rw[Ou hd' (mW ahB hx') (Ia ahB hx'),ah4];rfl
 rw[hw];cases ah4:si.run with
 | false=>
  simp only[ar3,if_false];have hsk:=hst.skip ah4;refine hn (λ h=>by rw[ah4] at h; cases h) _ _ ?_
  obtain⟨γ',loc',hr'⟩:=(show Rel B X A w0 (sS ops ts st gf.nxt S) a w from⟨γ,loc,hr⟩).putUndef (dst:=o.dst);refine⟨γ',loc',hr'.same hA ?_ ?_ ?_ (by cases o.dst<;>exact Nat.le_refl _)⟩
  ·cases o.dst<;>simp[St.put,N0]
  ·intro t v hv;rw[MJ,hsl t] at hv;split at hv
   ·next hlt=>
    split at hv
    ·next hc=>
     simp only[Stp.out,ah4] at hv;simp at hv;subst hv;rw[hc.2.1];simp only[St.put];rw[List.getElem?_set_self (by rw[N0]; exact hlt)]
    ·next hc=>
     have hne:o.dst≠some t:=λ h=>hc ⟨hin,h,hlt⟩;have:(sS ops ts st gf.nxt S).slots[t]?=some v:=by rw[MJ,if_pos hlt]; exact hv
     cases hod:o.dst with
     | none=>simpa[St.put] using this
     | some d=>
      simp only[St.put];rw[List.getElem?_set_ne (λ h=>hne (by rw[hod,h]))];exact this
   ·cases hv
  ·intro id e he;have e1:(St.put (sS ops ts st gf.nxt S) o.dst (.tup [])).tab=(sS ops ts st gf.nxt S).tab:=by cases o.dst<;>rfl
   rw[e1,MI];rw[MI,anl id] at he;have hnt:¬ si.touch id:=λ ht=>by
    simp only[Stp.touch,hsk.rc] at ht;rcases ht with h|⟨h1,h2⟩
    ·simp at h
    ·omega
   rw[if_neg (λ h:i<ops.length/\si.touch id=>hnt h.2)] at he;exact he
 | true=>
  simp only[if_true];have hR:=hst.run ah4;obtain⟨q1,q2,q3⟩:=cG hR.out;obtain⟨n1,n2⟩:=aes hR.seen;have hrc:=hR.rc;have hlo:si.rc.lo=(gs i).nxt:=by rw[hrc]
  have hhi:si.rc.hi=si.p'.nxt:=by rw[hrc]
  have hp:=hR.p;have anC:si.p.slots=Lp o.op (YL (gs i).slots (YH all ((ts.take i).map (·.rc)).length (anc i) ops 0) o.op.operands.toList):=by rw[hp]; rfl
  obtain⟨pl1,pl2⟩:=EM (gs i).slots (YH all ((ts.take i).map (·.rc)).length (anc i) ops 0) o.op.operands.toList;have anD:∀ id,look si.p.tab id=if id∈si.rc.cf then (look (gs i).tab id).map (λ e=>match si.rc.wr.elem id with|true=>e|false=>j4 (gs i).lvl ((gs i).lvl+1) e) else none:=by
   intro id;have e1:si.p.tab=Ly (gs i) si.rc.wr si.rc.cf:=by rw[hp,hrc]; rfl
   rw[e1];exact rK (gs i) si.rc.wr id si.rc.cf
  have aot:∀ id∈si.rc.cf,look (sS ops ts st gf.nxt S).tab id=look (gs i).tab id:=by
   intro id hid;have aoQ:id<gf.nxt:=by have:=(n1 id (cf1 id hid)).1; have:=C.T.mono (i:=i) (j:=i+1) (by omega) (by omega); omega
   rw[MI,if_pos aoQ,(xm C.T hAi hNd hi hsi hid ops.length (arp _)).2 (by omega),t1 id]
  refine WD (C:=si.rc.wr) (lo:=si.rc.lo) (hi:=si.rc.hi) (s':=sS ops ts st gf.nxt (λ j=>S j∨j=i)) hE hr hA ?_ ?_ hhi.symm ?_ ?_ ?_ ?_ ?_ ?_ ?_ ?_ hR.op rfl rfl (by rw[N0,N0]) ?_ ?_ (λ ai7=>hn (λ _=>ai7))
  ·rw[hp]; exact g3
  ·rw[hp,hlo]; rfl
  ·rw[a2]; exact aiO
  ·rw[anC,aaW,pl1,g2,N0]
  ·intro t v hv;rw[anC] at hv;have aju:Operand.tmp t∈o.op.operands.toList->v.lt si.rc.lo:=by
    intro h3;refine AV.lt_of_ids λ x hx=>a4 x ?_;rw[hrc];have hx':=An (st:={ (gs i) with slots:=Lp o.op (YL (gs i).slots (YH all ((ts.take i).map (·.rc)).length (anc i) ops 0) o.op.operands.toList)}) (t:=t) (v:=v) hv h3 x hx;simp only[N2];exact List.mem_append_left _ hx'
   have aki:∀ {v0:AV},(gs i).slots[t]?=some v0->t∉YH all ((ts.take i).map (·.rc)).length (anc i) ops 0->(sS ops ts st gf.nxt S).slots[t]?=some v0:=by
    intro v0 h1 h2;exact vd C hAi hi hNd hin (λ k ok hk hkd=>by
     have hlen:((ts.take i).map (·.rc)).length=i:=by simp; have:=C.T.len; omega
     rw[hlen] at h2;rcases Aj h2 k ok hk hkd with h|h
     ·left; simpa using h
     ·right; exact C.T.waits C.hall (by simpa using h)) h1
   rcases aaX hv with hv'|⟨xs,j,hv',rfl⟩
   ·rcases pl2 t v hv' with h|⟨h1,h2,h3⟩
    ·exact .inl h
    ·exact .inr ⟨⟨v,aki h1 h2,λ _ _ h=>h⟩,aju h3⟩
   ·rcases pl2 t _ hv' with h|⟨h1,h2,h3⟩
    ·cases h
    ·exact .inr ⟨⟨_,aki h1 h2,λ loc x h=>by obtain⟨vs,e1,e2⟩:=h; exact⟨vs,e1,B2 j e2⟩⟩,aju h3⟩
  ·intro id e he;rw[anD id] at he;split at he
   ·next hid=>
    obtain⟨e0,he0,hee⟩:=Option.map_eq_some_iff.1 he;obtain⟨m1,m2⟩:=n1 id (cf1 id hid);obtain⟨m3,m4⟩:=m2 e0 he0;have anf:e0.lt si.rc.lo:=Ent.lt_of_ids λ x hx=>a4 x (m4 x hx);have hs0:look (sS ops ts st gf.nxt S).tab id=some e0:=by rw[aot id hid]; exact he0
    by_cases hw:id∈si.rc.wr
    ·rw[arX hw] at hee;simp only at hee;subst hee;exact⟨a4 id (cf1 id hid),anf,.inl ⟨hw,hs0⟩⟩
    ·have:si.rc.wr.elem id=false:=by
      cases h:si.rc.wr.elem id with
      | false=>rfl
      | true=>exact absurd (List.mem_of_elem_eq_true h) hw
     rw[this] at hee;simp only at hee;subst hee;refine⟨a4 id (cf1 id hid),BA anf,.inr ⟨hw,e0,hs0,?_,?_⟩⟩
     ·rw[g3] at m3; exact m3
     ·rw[g3]; rfl
   ·cases he
  ·intro id hid;obtain⟨m1,e,m2⟩:=n2 id hid;exact⟨e,by rw[anD id,if_pos (cf2 id hid),m2,arX hid]; rfl⟩
  ·intro t v hv x hx;rw[MJ] at hv;split at hv
   ·next hlt=>
    obtain⟨v',hv'⟩:=G7 (S:=S) C hlt ops.length (Nat.le_refl _);rw[hv'] at hv;simp only[arq,aqK] at hv;subst hv;exact kQ C.T hD hi hsi (G9 C ops.length (Nat.le_refl _) _ hv' x hx)
   ·cases hv
  ·intro id e he;rw[MI] at he;split at he
   ·obtain⟨k1,k2⟩:=xn C ops.length (Nat.le_refl _) e he;exact⟨kQ C.T hD hi hsi k1,λ x hx=>kQ C.T hD hi hsi (k2 x hx)⟩
   ·cases he
  ·intro q hq;exact kQ C.T hD hi hsi (.inl (amj q hq))
  ·intro t v hv;rw[MJ,hsl t] at hv;split at hv
   ·next hlt=>
    split at hv
    ·next hc=>
     simp only[Stp.out,ah4,if_true] at hv;obtain⟨v',hv',_⟩:=q2 t hc.2.1;rw[hv'] at hv;simp only[arq,aqK] at hv;subst hv;exact .inl ⟨hc.2.1,hv'⟩
    ·next hc=>exact .inr ⟨λ h=>hc ⟨hin,h,hlt⟩,by rw[MJ,if_pos hlt]; exact hv⟩
   ·cases hv
  ·intro id e he;rw[MI,anl id] at he;split at he
   ·next hlt=>
    split at he
    ·next hc=>
     have ht:id∈si.rc.wr∨(si.rc.lo<=id/\id<si.rc.hi):=hc.2;exact .inl ⟨ht,he⟩
    ·next hc=>
     have hnt:¬ (id∈si.rc.wr∨(si.rc.lo<=id/\id<si.rc.hi)):=λ h=>hc ⟨hin,h⟩;exact .inr ⟨λ h=>hnt (.inl h),λ h=>hnt (.inr h),by rw[MI,if_pos hlt]; exact he⟩
   ·cases he
variable {B:Nat} {X:List Nat} {A:Ctx} {w0:World} {γ:Nat->Own} {loc:Nat->Value} {R:Type} {r:R}
theorem G5 [Tags] (hT:TraceI E ops all st ts gf gs anc) {t:Nat} (ht:t∉JZ ops):∀ m,m<=ops.length->yV ops ts S st m t=st.slots[t]?
 | 0,_=>rfl
 | m+1,hm=>by
  obtain⟨o,s,ho,hs,hst⟩:=hT.get (show m<ops.length by omega);simp only[yV,ho,hs];rw[if_neg,G5 hT ht m (by omega)];exact λ h=>ht (List.mem_filterMap.2 ⟨o,List.mem_of_getElem? ho,h.2.1⟩)
theorem V6 [Tags] (C:DrawAt E ops all st ts gf gs anc) (hP:∀ (j:Nat) (o:Oper) (s:Stp),ops[j]?=some o->ts[j]?=some s->s.run=true->Pres o.dst.toList s.p s.p'):Pres (JZ ops) st gf:=by
 obtain⟨g1,g2,g3⟩:=qW C.T ops.length (Nat.le_refl _);obtain⟨t1,t2⟩:=C.tabs (Nat.le_refl ops.length);have hnx:=C.T.mono (i:=0) (j:=ops.length) (by omega) (Nat.le_refl _);rw[C.T.last] at g1 g2 g3 t1 t2 hnx;rw[C.T.first] at hnx;refine⟨g3,hnx,?_,λ t ht=>by rw[g1 t,G5 C.T ht _ (arp _)],g2⟩;intro id e he hpr;have hid:id<st.nxt:=(C.elt id e he).2;rw[t1 id];have key:∀ m,m<=ops.length->yY ts (λ _=>True) st m id=some e:=by
  intro m;induction m with
  | zero=>intro _; exact he
  | succ m ih=>
   intro hm;have ih:=ih (by omega);obtain⟨o,s,ho,hs,hst⟩:=C.T.get (show m<ops.length by omega);obtain⟨b1,b2,b3,b4,b5⟩:=C.T.nums hs;simp only[yY,hs];split
   ·next hc=>
    have h0:=C.T.mono (i:=0) (j:=m) (by omega) (by omega);rw[C.T.first] at h0;have ht:id∈s.rc.wr∨(s.rc.lo<=id/\id<s.rc.hi):=hc.2;rcases ht with ht|ht
    ·cases ah4:s.run with
     | false=>
      rw[(hst.skip ah4).rc] at ht;simp at ht
     | true=>
      have hR:=hst.run ah4;obtain⟨_,_,gl⟩:=qW C.T m (by omega);have hpt:look s.p.tab id=some e:=by
       have e1:s.p.tab=Ly (gs m) s.rc.wr s.rc.cf:=by rw[hR.p,hR.rc]; rfl
       rw[e1,rK,if_pos ((C.T.cfs hs).2 id ht),(C.tabs (i:=m) (by omega)).1 id,ih,arX ht];rfl
      have hlv:s.p.lvl=st.lvl:=by rw[hR.p]; exact gl
      exact (hP m o s ho hs ah4).tab id e hpt (by rw[hlv]; exact hpr)
    ·omega
   ·exact ih
 exact key ops.length (Nat.le_refl _)
theorem VU {n:Nat} (h:∀ j<n,S j) (id:Nat):yY ts S st n id=yY ts (λ _=>True) st n id:=by
 induction n with
 | zero=>rfl
 | succ n ih=>
  have hS:=h n (by omega);have ih:=ih (λ j hj=>h j (by omega));unfold yY;cases ts[n]? with
  | none=>exact ih
  | some s=>
   simp only;by_cases ht:s.touch id
   ·rw[if_pos ⟨hS,ht⟩,if_pos ⟨trivial,ht⟩]
   ·rw[if_neg (λ h=>ht h.2),if_neg (λ h=>ht h.2)]; exact ih
theorem aeL {n:Nat} (h:∀ j<n,S j) (t:Nat):yV ops ts S st n t=yV ops ts (λ _=>True) st n t:=by
 induction n with
 | zero=>rfl
 | succ n ih=>
  have hS:=h n (by omega);have ih:=ih (λ j hj=>h j (by omega));unfold yV;split
  ·next o s ho hs=>
   by_cases ht:o.dst=some t/\t<st.slots.length
   ·have e1:S n/\o.dst=some t/\t<st.slots.length:=⟨hS,ht⟩
    have e2:True/\o.dst=some t/\t<st.slots.length:=⟨trivial,ht⟩
    rw[if_pos e1,if_pos e2]
   ·have e1:¬ (S n/\o.dst=some t/\t<st.slots.length):=λ h=>ht h.2;have e2:¬ (True/\o.dst=some t/\t<st.slots.length):=λ h=>ht h.2;rw[if_neg e1,if_neg e2]; exact ih
  ·exact ih
theorem ug {opsA:Array Oper} {listed:Array Bool} (hsz:listed.size=opsA.size) {i:Nat}:i∈Region.ready .any opsA listed↔
  ∃ o,opsA.toList[i]?=some o/\listed.getD i false=false/\∀ e∈o.after.toList,Region.binds .any e=true->listed.getD e.on false=true:=by
 unfold Region.ready;rw[asb,arQ];constructor
 ·rintro⟨h1,h2⟩;simp only[aqF,arc] at h2;rw[ars h1] at h2;refine⟨opsA[i],by rw[arJ,ars h1],?_,?_⟩
  ·have:=h2.1;simp only[arm] at *;rw[ars (by omega)] at *;simpa using this
  ·intro e he hb;have h3:=h2.2;simp only[art,arq,atk] at h3;have:=h3 e (Array.mem_toList_iff.1 he);simpa[hb] using this
 ·rintro⟨o,ho,h1,h2⟩;rw[arJ] at ho;have hlt:i<opsA.size:=by
   rcases Nat.lt_or_ge i opsA.size with h|h
   ·exact h
   ·rw[as3 h] at ho; cases ho
  refine⟨hlt,?_⟩;simp only[aqF,arc,ho,art,arq,atk];refine⟨?_,?_⟩
  ·simp only[arm] at *;rw[ars (by omega)] at *;simpa using h1
  ·intro e he;cases hb:Region.binds .any e with
   | false=>rfl
   | true=>rw[h2 e (Array.mem_toList_iff.2 he) hb]; rfl
theorem UH [Tags] {opsA:Array Oper} {listed:Array Bool} (hsz:listed.size=opsA.size) (hed:qK opsA.toList 0=true) (hr:Region.ready .any opsA listed=[]):∀ j<opsA.size,listed.getD j false=true:=by
 intro j;induction j using Nat.strongRecOn with
 | ind j ih=>
  intro hj;cases h:listed.getD j false with
  | true=>rfl
  | false=>
   have hm:j∈Region.ready .any opsA listed:=by
    have ho:opsA.toList[j]?=some opsA[j]:=by rw[arJ,ars hj]
    refine (ug hsz).2 ⟨opsA[j],ho,h,λ e he hb => ?_⟩;have hlt:=xB hed j _ ho e he hb;exact ih e.on (by omega) (by omega)
   rw[hr] at hm;simp at hm
theorem aaF {listed:Array Bool} {i j:Nat} (hi:i<listed.size):((listed.setIfInBounds i true).getD j false=true)=(listed.getD j false=true∨j=i):=by
 rw[arm,arm,asR];by_cases h:i=j
 ·subst h; simp[hi]
 ·have:¬ j=i:=λ e=>h e.symm;simp[h,this]
theorem count_set {listed:Array Bool} {i n:Nat} (hi:i<listed.size) (hf:listed.getD i false=false) (h:listed.toList.count false<=n+1):(listed.setIfInBounds i true).toList.count false<=n:=by
 have hl:i<listed.toList.length:=by simpa using hi
 rw[ast,List.count_set hl];have:listed.toList[i]=false:=by
  rw[arm,ars hi] at hf;simpa using hf
 rw[this];have e1:(false==false)=true:=rfl;have e2:(true==false)=false:=rfl;rw[e1,e2];simp only[if_true,ar3,if_false];omega
theorem VI {listed:Array Bool} (h:listed.toList.count false<=0):∀ j<listed.size,listed.getD j false=true:=by
 intro j hj;have h0:listed.toList.count false=0:=by omega
 have:=List.count_eq_zero.1 h0;rw[arm,ars hj];simp only[arq];cases hb:listed[j] with
 | true=>rfl
 | false=>exact absurd (by rw[←hb]; simp) this
theorem V8 [Tags] (hE:Zx P A.gl E) (hA:A.dl=[]/\A.dps=[]) (C:DrawAt E ops all st ts gf gs anc) {opsA:Array Oper} (aiF:opsA.toList=ops) (amj:∀ q∈A.pins,q.1<st.nxt)
  (hQ:Pres (JZ ops) st gf->∀ a' w',Rel B X A w0 gf a' w'->Q .normal a' w'):
  ∀ (fuel:Nat) (listed:Array Bool) (a:Act) (w:World),listed.size=opsA.size->listed.toList.count false<=fuel->(∀ j,listed.getD j false=true->∀ k∈anc j,listed.getD k false=true)->
   (∀ (j:Nat) (o:Oper) (s:Stp),listed.getD j false=true->ops[j]?=some o->ts[j]?=some s->s.run=true->Pres o.dst.toList s.p s.p')->
   Rel B X A w0 (sS ops ts st gf.nxt (λ j=>listed.getD j false=true)) a w->wpAny P .any opsA Q fuel listed a w:=by
 have hlen:opsA.size=ops.length:=by rw[←aiF,ary]
 have ahG:∀ (listed:Array Bool) (a:Act) (w:World),(∀ j<opsA.size,listed.getD j false=true)->
   (∀ (j:Nat) (o:Oper) (s:Stp),listed.getD j false=true->ops[j]?=some o->ts[j]?=some s->s.run=true->Pres o.dst.toList s.p s.p')->
   Rel B X A w0 (sS ops ts st gf.nxt (λ j=>listed.getD j false=true)) a w->Q .normal a w:=by
  intro listed a w hall hP ahB;have alG:∀ j<ops.length,listed.getD j false=true:=λ j hj=>hall j (by omega);refine hQ (V6 C λ j o s ho hs ah4=>hP j o s (alG j (C.T.lt_of hs)) ho hs ah4) a w ?_;obtain⟨γ,loc,hr⟩:=ahB;obtain⟨g1,g2,g3⟩:=qW C.T ops.length (Nat.le_refl _);obtain⟨t1,t2⟩:=C.tabs (Nat.le_refl ops.length);rw[C.T.last] at g1 g2 g3 t1 t2;refine⟨γ,loc,hr.same hA (by rw[g2,N0]) ?_ ?_ (Nat.le_refl _)⟩
  ·intro t v hv;have hlt:t<st.slots.length:=by
    rw[←g2];rcases Nat.lt_or_ge t gf.slots.length with h|h
    ·exact h
    ·rw[ar9 h] at hv; cases hv
   rw[MJ,if_pos hlt,aeL alG t,←g1 t,hv];rfl
  ·intro id e he;rw[MI,if_pos (t2 id e he),VU alG id,←t1 id,he]
 intro fuel;induction fuel with
 | zero=>
  intro listed a w hsz hc hD hP ahB;have hall:=VI hc;refine⟨?_,ahG listed a w (λ j hj=>hall j (by omega)) hP ahB⟩;apply List.eq_nil_iff_forall_not_mem.2;intro i hi;obtain⟨o,ho,hf,_⟩:=(ug hsz).1 hi;have hlt:i<opsA.size:=by
   rw[←ary];rcases Nat.lt_or_ge i opsA.toList.length with h|h
   ·exact h
   ·rw[ar9 h] at ho; cases ho
  rw[hall i (by omega)] at hf;cases hf
 | succ fuel ih=>
  intro listed a w hsz hc hD hP ahB;refine⟨λ hr=>ahG listed a w (UH hsz (by rw[aiF]; exact C.edges) hr) hP ahB,?_⟩
  intro i hi;obtain⟨o,ho,hf,hed⟩:=(ug hsz).1 hi;have hlt:i<opsA.size:=by
   rw[←ary];rcases Nat.lt_or_ge i opsA.toList.length with h|h
   ·exact h
   ·rw[ar9 h] at ho; cases ho
  have hoA:opsA[i]?=some o:=by rw[←arJ]; exact ho
  rw[aiF] at ho;obtain⟨o',si,ho',hsi,hst⟩:=C.T.get (show i<ops.length by omega);rw[ho] at ho';cases ho';have hAi:=C.T.anc_in (S:=λ j=>listed.getD j false=true) hD ho hed;have ahr:∀ j,((listed.setIfInBounds i true).getD j false=true)=(listed.getD j false=true∨j=i):=λ j=>aaF (by omega);obtain⟨γ,loc,hr⟩:=ahB;unfold wpOp;rw[hoA];simp only;have ahg:=V7 (P:=P) (Q:=Q) (next:=wpAny P .any opsA Q fuel (listed.setIfInBounds i true)) (S:=λ j=>listed.getD j false=true) hE hA C aiF ho hsi hD hAi (by simp[hf]) amj hr ?_
  ·split at ahg
   ·next hw=>rw[if_pos hw]; exact .inl ahg
   ·next hw=>rw[if_neg hw]; exact ahg
  ·intro hpr a' w' apB;refine ih _ a' w' (by simpa using hsz) (count_set (by omega) hf hc) ?_ ?_ ?_
   ·intro j hj k hk;rw[ahr] at hj ⊢;rcases hj with hj|rfl
    ·exact .inl (hD j hj k hk)
    ·exact .inl (hAi k hk)
   ·intro j oj sj hj hoj hsj ah4;rw[ahr] at hj;rcases hj with hj|rfl
    ·exact hP j oj sj hj hoj hsj ah4
    ·rw[ho] at hoj; rw[hsi] at hsj
     cases hoj; cases hsj
     exact hpr ah4
   ·have e:(λ j=>(listed.setIfInBounds i true).getD j false=true)=λ j=>listed.getD j false=true∨j=i:=funext ahr;rw[e];exact apB
theorem af4 [Tags] (hE:Zx P A.gl E) (hA:A.dl=[]/\A.dps=[]) {id:Nat} {ops:Array Oper} {k:St->Option R} (hk:pk E ops.toList st k=some r) (hr:Rel B X A w0 st a w)
  (hQ:∀ st',k st'=some r->Pres (JZ ops.toList) st st'->∀ a' w',Rel B X A w0 st' a' w'->Q .normal a' w'):(Code.region id ops true).wp P Q a w:=by
 unfold pk at hk;split at hk
 ·next hck=>
  simp only[aqF] at hck;obtain⟨⟨hed,hnd⟩,hlv⟩:=hck;obtain⟨ts,gf,hT,hgf⟩:=we ops.toList [] [] st k hk;obtain⟨gs,anc,hTI⟩:=I0 (ops:=ops.toList) (st:=st) (E:=E) ops.toList [] [] (λ _=>st) (λ _=>[]) st ts gf rfl rfl rfl rfl (by simp) (by simp) hT;simp only[ar6] at hTI;obtain⟨γ,loc,hr0⟩:=hr;have C:DrawAt E ops.toList (L1 ops.toList []) st ts gf gs anc:=⟨hTI,kU hnd,hed,rfl,hr0.slt,hr0.elt⟩
  refine wp_region_any hE.mixed ?_;refine V8 hE hA C rfl (λ q hq=>(hr0.pins q hq).1) (λ hp a' w' ahB=>hQ gf hgf hp a' w' ahB) ops.size _ a _ (by simp) (by simp) ?_ ?_ ?_
  ·intro j hj;simp[arm,asF] at hj;split at hj<;>simp at hj
  ·intro j o s hj;simp[arm,asF] at hj;split at hj<;>simp at hj
  ·have hno:∀ j,¬ ((Array.replicate ops.size false).getD j false=true):=by
    intro j hj;simp[arm,asF] at hj;split at hj<;>simp at hj
   have hnx:=hTI.mono (i:=0) (j:=ops.toList.length) (by omega) (Nat.le_refl _);rw[hTI.first,hTI.last] at hnx;refine⟨γ,loc,(hr0.drew).same hA N0 ?_ ?_ hnx⟩
   ·intro t v hv;rw[MJ] at hv;split at hv
    ·next hlt=>
     have key:∀ m,m<=ops.toList.length->yV ops.toList ts (λ j=>(Array.replicate ops.size false).getD j false=true) st m t=st.slots[t]?:=by
      intro m;induction m with
      | zero=>intro _; rfl
      | succ m ih=>
       intro hm;obtain⟨o,s,ho,hs,hst⟩:=hTI.get (show m<ops.toList.length by omega);simp only[yV,ho,hs];rw[if_neg (λ h=>hno m h.1)];exact ih (by omega)
     rw[key _ (arp _),arf hlt] at hv;rw[arf hlt];simpa using hv
    ·cases hv
   ·intro id e he;rw[MI] at he;split at he
    ·have key:∀ m,m<=ops.toList.length->yY ts (λ j=>(Array.replicate ops.size false).getD j false=true) st m id=look st.tab id:=by
      intro m;induction m with
      | zero=>intro _; rfl
      | succ m ih=>
       intro hm;obtain⟨o,s,ho,hs,hst⟩:=hTI.get (show m<ops.toList.length by omega);simp only[yY,hs];rw[if_neg (λ h=>hno m h.1)];exact ih (by omega)
     rw[key _ (arp _)] at he;exact he
    ·cases he
 ·cases hk
def qn:Ev.X->Exit
 | .normal=>.normal
 | .exit id=>.exit id
 | .ret=>.ret
theorem Rel.lower [Tags] (h:Rel B X A w0 st a w) (lo:Nat):Rel B X A w0 (lower st lo) a w:=by
 obtain⟨γ,loc,hr⟩:=h;refine⟨γ,loc,{ hr with size:=hr.size,slots:=hr.slots,slt:=hr.slt,ents := ?_,elt := ?_,pins:=hr.pins,dlab := ?_,glob:=hr.glob,rtag:=hr.rtag,dpc:=hr.dpc }⟩
 ·intro id e he;rw[kL] at he;obtain⟨e0,h1,rfl⟩:=Option.map_eq_some_iff.1 he;exact xG (hr.ents id e0 h1)
 ·intro id e he;rw[kL] at he;obtain⟨e0,h1,rfl⟩:=Option.map_eq_some_iff.1 he;exact⟨BA (hr.elt id e0 h1).1,(hr.elt id e0 h1).2⟩
 ·intro p hp hhi;obtain⟨k1,k2,k3,k4⟩:=hr.dlab p hp hhi;exact⟨k1,k2,by rw[kL,k3]; rfl,k4⟩
theorem cz [Tags] {lvl:Nat} {D:List Nat}:∀ {its:List Item} {v:dens (its.map Item.ty)} {sl sl':List AV} {tab tab':List (Nat×Ent)} {j j':Nat},jM lvl its v sl tab j=some (sl',tab',j')->
  its.all (λ it=>it.within D)=true->(∀ id<j,id∉yG its->look tab' id=look tab id)/\sl'.length=sl.length/\∀ t,t∉D->sl'[t]?=sl[t]?
 | [],v,sl,sl',tab,tab',j,j',h,_=>by
  simp only[jM,aqK,aqO] at h;obtain⟨rfl,rfl,rfl⟩:=h;exact⟨λ _ _ _=>rfl,rfl,λ _ _=>rfl⟩
 | .slot t ty k::r,v,sl,sl',tab,tab',j,j',h,hw=>by
  simp only[ard,aqF] at hw;simp only[jM] at h;split at h
  ·next x hmk=>
   obtain⟨h1,h2,h3⟩:=cz h hw.2;have hle:=(jB k lvl ty v.1 j).le;refine⟨?_,by rw[h2]; simp,?_⟩
   ·intro id hid hb;rw[h1 id (Nat.lt_of_lt_of_le hid hle) hb];exact rH hid
   ·intro t' ht';rw[h3 t' ht',asc];intro e;subst e;have:t∈D:=by simpa[Item.within] using hw.1
    exact ht' this
  ·cases h
 | .box id0 ty k::r,v,sl,sl',tab,tab',j,j',h,hw=>by
  simp only[ard,aqF] at hw;simp only[jM] at h;obtain⟨h1,h2,h3⟩:=cz h hw.2;have hle:=(jB k lvl ty v.1 j).le;refine⟨?_,h2,h3⟩;intro id hid hb;simp only[yG,aqW,not_or] at hb;rw[h1 id (Nat.lt_of_lt_of_le hid hle) hb.2,rH hid,ZZ,if_neg hb.1]
 | .row id0 E e k::r,v,sl,sl',tab,tab',j,j',h,hw=>by
  simp only[ard,aqF] at hw;have h:jM lvl r v.2 sl (yE tab id0 (.arr k lvl E e v.1)) j=some (sl',tab',j'):=h;obtain⟨h1,h2,h3⟩:=cz h hw.2;refine⟨?_,h2,h3⟩;intro id hid hb;simp only[yG,aqW,not_or] at hb;rw[h1 id hid hb.2,ZZ,if_neg hb.1]
 | .keep id0 ty tm::r,v,sl,sl',tab,tab',j,j',h,hw=>by
  simp only[ard,aqF] at hw;have h:jM lvl r v.2 sl (yE tab id0 (.box lvl (mixLs ty v.1 (y7 tm)).1)) j=some (sl',tab',j'):=h;obtain⟨h1,h2,h3⟩:=cz h hw.2;refine⟨?_,h2,h3⟩;intro id hid hb;simp only[yG,aqW,not_or] at hb;rw[h1 id hid hb.2,ZZ,if_neg hb.1]
theorem xZ:∀ {D:List Nat} {sl:List AV} {t:Nat},t∉D->(Mc sl D)[t]?=sl[t]?
 | [],sl,t,_=>rfl
 | d::D,sl,t,h=>by
  simp only[aqW,not_or] at h;rw[Mc,xZ h.2,asc (λ e=>h.1 e.symm)]
def UD (st:St) (ids:List Nat) (id:Nat):Prop:=(∃ e,look st.tab id=some e/\¬ e.prot st.lvl)/\id∉ids
theorem abd {st:St} {id:Nat} {ids:List Nat} (h:∀ i∈ids,jS st i) (hb:eW st id):id∉ids:=λ hm=>by
 obtain⟨lvl,cells,hl,_⟩:=hb;obtain⟨u,lvl',E',e,xs,hl',_⟩:=h id hm;rw[hl] at hl'; cases hl'
theorem QV:∀ {its:List Item} {id:Nat},id∈yG its->id∈Ki its∨∃ ty k,Item.box id ty k∈its
 | [],id,h=>by simp[yG] at h
 | .slot t ty k::r,id,h=>by
  rcases QV (its:=r) h with h|⟨ty,k,h⟩
  ·exact .inl h
  ·exact .inr ⟨ty,k,by simp[h]⟩
 | .box id0 ty k::r,id,h=>by
  rcases List.mem_cons.1 h with rfl|h
  ·exact .inr ⟨ty,k,by simp⟩
  ·rcases QV (its:=r) h with h|⟨ty,k,h⟩
   ·exact .inl h
   ·exact .inr ⟨ty,k,by simp[h]⟩
 | .row id0 E e k::r,id,h=>by
  rcases List.mem_cons.1 h with rfl|h
  ·exact .inl (by simp[Ki])
  ·rcases QV (its:=r) h with h|⟨ty,k,h⟩
   ·exact .inl (by simp[Ki,h])
   ·exact .inr ⟨ty,k,by simp[h]⟩
 | .keep id0 ty0 tm::r,id,h=>by
  rcases List.mem_cons.1 h with rfl|h
  ·exact .inl (by simp[Ki])
  ·rcases QV (its:=r) h with h|⟨ty,k,h⟩
   ·exact .inl (by simp[Ki,h])
   ·exact .inr ⟨ty,k,by simp[h]⟩
theorem qF [Tags] {st:St}:∀ {its:List Item} {vs:dens (its.map Item.ty)} {ids:List Nat} {id:Nat} {ty:Ty} {k:Kind},jO st its=some (vs,ids)->Item.box id ty k∈its->eW st id
 | [],vs,ids,id,ty,k,h,hm=>by simp at hm
 | .row id0 E e k0::r,vs,ids,id,ty,k,h,hm=>by
  obtain⟨lvl,xs,vs',hl,hlv,hrk,ah3,hn,rfl⟩:=l8 h;rcases List.mem_cons.1 hm with hm|hm
  ·cases hm
  ·exact qF ah3 hm
 | .keep id0 ty0 tm::r,vs,ids,id,ty,k,h,hm=>by
  obtain⟨v,vs',hl,_,ah3,hn,rfl⟩:=l7 h;rcases List.mem_cons.1 hm with hm|hm
  ·cases hm
  ·exact qF ah3 hm
 | .slot t ty0 k0::r,vs,ids,id,ty,k,h,hm=>by
  obtain⟨ls,v,i1,vs',i2,hls,hc,hf,ah3,hd,hdr,rfl,rfl⟩:=MA (it:=.slot t ty0 k0) (by simp) h;rcases List.mem_cons.1 hm with hm|hm
  ·cases hm
  ·exact qF ah3 hm
 | .box id0 ty0 k0::r,vs,ids,id,ty,k,h,hm=>by
  obtain⟨ls,v,i1,vs',i2,hls,hc,hf,ah3,hd,hdr,rfl,rfl⟩:=MA (it:=.box id0 ty0 k0) (by simp) h;rcases List.mem_cons.1 hm with hm|hm
  ·cases hm;simp only[Lj] at hls;split at hls
   ·next lvl cells hl=>
    split at hls
    ·next hlv=>exact⟨lvl,cells,hl,(zV _ _).1 hlv⟩
    ·cases hls
   ·cases hls
  ·exact qF ah3 hm
theorem NU [Tags] (ahd:∀ {its:List Item} {vs:dens (its.map Item.ty)} {ids:List Nat},jO st its=some (vs,ids)->∀ i∈ids,jS st i):
  ∀ {its:List Item} {vs:dens (its.map Item.ty)} {ids:List Nat},jO st its=some (vs,ids)->∀ id∈yG its,UD st ids id
 | [],vs,ids,h=>by simp[yG]
 | .row id0 E e k::r,vs,ids,h=>by
  obtain⟨lvl,xs,vs',hl,hlv,hrk,ah3,hn,rfl⟩:=l8 h;intro id hid;rcases List.mem_cons.1 hid with rfl|hid
  ·exact⟨⟨_,hl,λ hp=>hp hlv⟩,hn⟩
  ·exact NU ahd ah3 id hid
 | .keep id0 ty0 tm::r,vs,ids,h=>by
  obtain⟨v,vs',hl,_,ah3,hn,rfl⟩:=l7 h;intro id hid;rcases List.mem_cons.1 hid with rfl|hid
  ·exact⟨⟨_,hl,λ hp=>hp rfl⟩,hn⟩
  ·exact NU ahd ah3 id hid
 | .slot t ty k::r,vs,ids,h=>by
  have ho:=ahd h;obtain⟨ls,v,i1,vs',i2,hls,hc,hf,ah3,hd,hdr,rfl,rfl⟩:=MA (it:=.slot t ty k) (by simp) h;intro id hid;obtain⟨h1,h2⟩:=NU ahd ah3 id hid;refine⟨h1,λ hm => ?_⟩;rcases List.mem_append.1 hm with hm|hm
  ·rcases QV (its:=r) hid with hr|⟨ty',k',hr⟩
   ·exact hdr id hm hr
   ·obtain⟨⟨e,he,_⟩,_⟩:=NU ahd ah3 id hid;obtain⟨u,lvl',E',e',xs,hl',_⟩:=ho id (List.mem_append_left _ hm);obtain⟨lvl,cells,hl,_⟩:=qF ah3 hr;rw[hl] at hl'; cases hl'
  ·exact h2 hm
 | .box id0 ty k::r,vs,ids,h=>by
  have ho:=ahd h;obtain⟨ls,v,i1,vs',i2,hls,hc,hf,ah3,hd,hdr,rfl,rfl⟩:=MA (it:=.box id0 ty k) (by simp) h;have hb0:eW st id0:=by
   simp only[Lj] at hls;split at hls
   ·next lvl cells hl=>
    split at hls
    ·next hlv=>exact⟨lvl,cells,hl,(zV _ _).1 hlv⟩
    ·cases hls
   ·cases hls
  intro id hid;rcases List.mem_cons.1 hid with rfl|hid
  ·refine⟨?_,abd ho hb0⟩;obtain⟨lvl,cells,hl,hlv⟩:=hb0;exact⟨_,hl,λ hp=>hp hlv⟩
  ·obtain⟨h1,h2⟩:=NU ahd ah3 id hid;refine⟨h1,λ hm => ?_⟩;rcases List.mem_append.1 hm with hm|hm
   ·rcases QV (its:=r) hid with hr|⟨ty',k',hr⟩
    ·exact hdr id hm hr
    ·obtain⟨u,lvl',E',e',xs,hl',_⟩:=ho id (List.mem_append_left _ hm);obtain⟨lvl,cells,hl,_⟩:=qF ah3 hr;rw[hl] at hl'; cases hl'
   ·exact h2 hm
theorem dt [Tags] {st:St} (hlt:∀ (id:Nat) (e:Ent),look st.tab id=some e->e.lt st.nxt):∀ {its:List Item} {vs:dens (its.map Item.ty)} {ids:List Nat},jO st its=some (vs,ids)->∀ i∈Lk its,i<st.nxt
 | [],vs,ids,h=>by simp[Lk]
 | .row id0 E e k::r,vs,ids,h=>by
  obtain⟨lvl,xs,vs',hl,hlv,hrk,ah3,hn,rfl⟩:=l8 h;exact λ i hi=>dt (its:=r) hlt ah3 i hi
 | .slot t ty0 k0::r,vs,ids,h=>by
  obtain⟨ls,v,i1,vs',i2,hls,hc,hf,ah3,hd,hdr,rfl,rfl⟩:=MA (it:=.slot t ty0 k0) (by simp) h;exact λ i hi=>dt (its:=r) hlt ah3 i hi
 | .box id0 ty0 k0::r,vs,ids,h=>by
  obtain⟨ls,v,i1,vs',i2,hls,hc,hf,ah3,hd,hdr,rfl,rfl⟩:=MA (it:=.box id0 ty0 k0) (by simp) h;exact λ i hi=>dt (its:=r) hlt ah3 i hi
 | .keep id0 ty0 tm::r,vs,ids,h=>by
  obtain⟨v,vs',hl,he,ah3,hn,rfl⟩:=l7 h;intro i hi;rcases List.mem_append.1 hi with hi|hi
  ·have h1:=hlt _ _ hl;rw[he] at hi;clear he hl;have h1:∀ l∈(mixLs ty0 v (y7 tm)).1,l.lt st.nxt:=h1;generalize (mixLs ty0 v (y7 tm)).1=ls at h1 hi;induction ls with
   | nil=>simp[yb] at hi
   | cons l r ih=>
    have hr:=ih (λ l hl=>h1 l (by simp[hl]));cases l with
    | sl m=>
     simp only[yb,aqW] at hi;rcases hi with rfl|hi
     ·exact h1 (.sl i) List.mem_cons_self
     ·exact hr hi
    | _=>exact hr (by simpa[yb] using hi)
  ·exact dt hlt ah3 i hi
theorem wl {st:St} (h:kO st=true) {id:Nat} {e:Ent} (he:look st.tab id=some e):e.upto st.lvl=true:=by
 unfold kO at h;generalize st.tab=t at *;induction t with
 | nil=>cases he
 | cons x t ih=>
  obtain⟨k,e0⟩:=x;simp only[ard,aqF] at h;simp only[look] at he;split at he
  ·cases he; exact h.1
  ·exact ih h.2 he
theorem I9 {e:Ent} {n:Nat} (h:e.upto n=true):e.prot (n+1):=by
 cases e with
 | box lvl cs=>have:=Nat.le_of_ble_eq_true h; simp only[Ent.prot]; omega
 | cst cs=>trivial
 | arr k lvl E e xs=>have:=Nat.le_of_ble_eq_true h; simp only[Ent.prot]; omega
theorem aaI {e:Ent} {n lo:Nat} (h:e.upto n=true):j4 (n+1) lo e=e:=by
 cases e with
 | box lvl cs=>
  have:=Nat.le_of_ble_eq_true h;simp only[j4];rw[(ZR lvl (n+1)).2 (by omega)]
 | cst cs=>rfl
 | arr k lvl E e xs=>
  have:=Nat.le_of_ble_eq_true h;simp only[j4];rw[(ZR lvl (n+1)).2 (by omega)]
structure wE (A:Ctx) (st:St) (body:Code) (its:List Item) (ids:List Nat) (stx:St) (vs:dens (its.map Item.ty)) (ids2:List Nat):Prop where
 nxt:st.nxt<=stx.nxt
 len:stx.slots.length=st.slots.length
 slots:∀ t,t∉Zr body->stx.slots[t]?=st.slots[t]?
 ents:∀ (id:Nat) (e:Ent),look st.tab id=some e->id∉ids->id∉yG its->look stx.tab id=some e/\id∉ids2/\e.lt st.nxt/\id<st.nxt
 boxes:∀ id∈yG its,id<st.nxt/\id∉ids2
 kept:∀ id∈Lk its,id<st.nxt
 read:jO stx its=some (vs,ids2)
theorem WL [Tags] {body:Code} {its:List Item} {ids:List Nat} {vs:dens (its.map Item.ty)} {h:St} (hh:qY st body its ids vs=some h) (hw:its.all (λ it=>it.within (Zr body))=true)
  (hlt:∀ (id:Nat) (e:Ent),look st.tab id=some e->id<st.nxt):
  h.lvl=st.lvl+1/\st.nxt<=h.nxt/\h.slots.length=st.slots.length/\(∀ t,t∉Zr body->h.slots[t]?=st.slots[t]?)/\
   ∀ (id:Nat) (e:Ent),look st.tab id=some e->id∉ids->id∉yG its->look h.tab id=some e:=by
 unfold qY at hh;split at hh
 ·next sl tab j akD=>
  cases hh;obtain⟨k1,k2,k3⟩:=cz akD hw;refine⟨rfl,KG akD,by rw[k2,px],λ t ht=>by rw[k3 t ht,xZ ht],?_⟩;intro id e he hi hb;rw[k1 id (hlt id e he) hb,JG,if_neg hi];exact he
 ·cases hh
theorem afi [Tags] {F:jv} (hA:A.dl=[]/\A.dps=[]) {body:Code} (ih:∀ (st:St) (k:Ev.X->St->Option R) (a:Act) (w:World) (Q:Exit->Act->World->Prop),jT F body st k=some r->Rel B X A w0 st a w->
   (∀ x st',k x st'=some r->Pres (Zr body) st st'->∀ a' w',Rel B X A w0 st' a' w'->Q (qn x) a' w')->body.wp P Q a w)
  {k:Ev.X->St->Option R} (hk:jT F (.loop body) st k=some r) (hr:Rel B X A w0 st a w)
  (hQ:∀ x st',k x st'=some r->Pres (Zr body) st st'->∀ a' w',Rel B X A w0 st' a' w'->Q (qn x) a' w'):(Code.loop body).wp P Q a w:=by
 unfold jT at hk;split at hk
 ·cases hk
 ·next its aqp=>
  have hr2:=hr.preLoop (its:=its);have hQ2:∀ x st',k x st'=some r->Pres (Zr body) (preLoop its st) st'->∀ a' w',Rel B X A w0 st' a' w'->Q (qn x) a' w':=λ x st' h hp=>hQ x st' h ((Pres.trans abp hp).mono λ t ht=>ht);clear hQ hr;revert hk hr2 hQ2;generalize preLoop its st=st;intro hk hr hQ;split at hk
  ·next vs ids akg hck=>
   simp only[aqF] at hck;obtain⟨hlv,hwi⟩:=hck;have amt:∀ (t:Nat) (v:AV),st.slots[t]?=some v->v.lt st.nxt:=by obtain⟨γ,loc,h⟩:=hr; exact h.slt
   have ajo:∀ (id:Nat) (e:Ent),look st.tab id=some e->e.lt st.nxt/\id<st.nxt:=by obtain⟨γ,loc,h⟩:=hr; exact h.elt
   have alo:∀ p∈A.pins,p.1<st.nxt:=by obtain⟨γ,loc,h⟩:=hr; exact λ p hp=>(h.pins p hp).1
   have aju:∀ i∈ids,jS st i:=by obtain⟨γ,loc,h⟩:=hr; exact (LD h akg).2
   have hbx:=NU (st:=st) (λ h'=>by obtain⟨γ,loc,h⟩:=hr; exact (LD h h').2) akg
   have amL:∀ id∈yG its,id<st.nxt:=λ id hid=>by obtain⟨⟨e,hl,_⟩,_⟩:=hbx id hid; exact (ajo id _ hl).2
   have h0:wE A st body its ids st vs ids:=by
    refine⟨Nat.le_refl _,rfl,λ _ _=>rfl,λ id e he hi _=>⟨he,hi,ajo id e he⟩,λ id hid=>⟨amL id hid,(hbx id hid).2⟩,dt (λ id e he=>(ajo id e he).1) akg,akg⟩
   intro fr kk cs;have key:∀ (n:Nat) (vs:dens (its.map Item.ty)) (ids2:List Nat) (stx:St) (a:Act) (w:World),
     iter (λ rec vs=>match qY st body its ids vs with
      | none=>none
      | some h=>jT F body h λ x st'=>match x with
       | .normal=>match jO st' its with
        | some (vs',_)=>rec vs'
        | none=>none
       | y=>k y (lower st' st.lvl)) n vs=some r->wE A st body its ids stx vs ids2->Rel B X A w0 stx a w->
     ∃ e a' w',Q e a' w'/\Arrives P (lone (fr.at a (.code body :: .inLoop body::kk)) cs w) fr kk cs e a' w':=by
    intro n;induction n with
    | zero=>intro vs ids2 stx a w hit; cases hit
    | succ n ihn=>
     intro vs ids2 stx a w hit hR hx;simp only[iter] at hit;split at hit
     ·cases hit
     ·next h hh=>
      have aoN:Rel B X A w0 h a w:=by
       obtain⟨γ,loc,hx0⟩:=hx;exact WM hx0 hR.nxt hR.len hR.slots amt hR.ents hR.boxes hR.kept hR.read alo hA hh
      obtain⟨f1,f2,f3,f4,f5⟩:=WL hh hwi (λ id e he=>(ajo id e he).2);have ait:=ih h _ a w (Exit.then (λ a' w'=>∃ e a'' w'',Q e a'' w''/\Arrives P (lone (fr.at a' (.code body :: .inLoop body::kk)) cs w') fr kk cs e a'' w'') Q) hit aoN ?_
      ·obtain⟨e,a₁,w₁,hq,ah5⟩:=ait fr (.inLoop body::kk) cs;cases e with
       | normal=>
        obtain⟨e₂,a₂,w₂,hq₂,harr₂⟩:=hq;exact⟨e₂,a₂,w₂,hq₂,.of_steps (Steps.trans ah5 (.one step_inLoop)) harr₂⟩
       | exit id=>exact⟨_,a₁,w₁,hq,.pass (x:=.inLoop body) rfl (λ _ _=>.inl (by simp)) ah5⟩
       | goto l=>exact⟨_,a₁,w₁,hq,.pass (x:=.inLoop body) rfl (λ _ _=>.inl (by simp)) ah5⟩
       | ret=>exact⟨_,a₁,w₁,hq,.pass (x:=.inLoop body) rfl (λ _ _=>.inl (by simp)) ah5⟩
       | panic ch=>exact⟨_,a₁,w₁,hq,.pass (x:=.inLoop body) rfl (λ _ _=>.inl (by simp)) ah5⟩
       | outgrown=>exact⟨_,a₁,w₁,hq,.pass (x:=.inLoop body) rfl (λ _ _=>.inl (by simp)) ah5⟩
      ·intro x st' hkx hp a' w' hr';have hl':st'.lvl=st.lvl+1:=by rw[hp.lvl,f1]
       have hkeep:∀ (id:Nat) (e:Ent),look st.tab id=some e->id∉ids->id∉yG its->look st'.tab id=some e:=λ id e he hi hb=>
        hp.tab id e (f5 id e he hi hb) (by rw[f1]; exact I9 (wl hlv he))
       have amV:∀ y:Ev.X,k y (lower st' st.lvl)=some r->Q (qn y) a' w':=by
        intro y hy;refine hQ y _ hy ?_ a' w' (hr'.lower st.lvl);refine⟨rfl,Nat.le_trans f2 hp.nxt,?_,λ t ht=>by rw[←f4 t ht]; exact hp.slots t ht,by rw[←f3]; exact hp.len⟩
        intro id e he hpr;have hi:id∉ids:=λ hm=>QH (aju id hm) _ he hpr;have hb:id∉yG its:=λ hm=>by
         obtain⟨⟨e',hl,hlv⟩,_⟩:=hbx id hm;rw[hl] at he; cases he
         exact hlv hpr
        rw[kL,hkeep id e he hi hb,hl'];simp only[art,aqK];exact aaI (wl hlv he)
       cases x with
       | normal=>
        simp only at hkx;split at hkx
        ·next vs' ids' amn=>
         have apn:∀ i∈ids',jS st' i:=by obtain⟨γ,loc,h'⟩:=hr'; exact (LD h' amn).2
         refine ihn vs' ids' st' a' w' hkx ?_ hr';refine⟨Nat.le_trans f2 hp.nxt,by rw[hp.len,f3],λ t ht=>by rw[hp.slots t ht,f4 t ht],?_,?_,hR.kept,amn⟩
         ·intro id e he hi hb;refine⟨hkeep id e he hi hb,?_,ajo id e he⟩;intro hm;exact QH (apn id hm) e (hkeep id e he hi hb) (by rw[hl']; exact I9 (wl hlv he))
         ·intro id hid;exact⟨amL id hid,(NU (st:=st') (λ h2=>by obtain⟨γ,loc,h'⟩:=hr'; exact (LD h' h2).2) amn id hid).2⟩
        ·cases hkx
       | exit id=>exact amV (.exit id) hkx
       | ret=>exact amV .ret hkx
   obtain⟨e,a',w',hq,ah5⟩:=key fuel vs ids st a w hk h0 hr;exact⟨e,a',w',hq,.of_steps (.one step_loop) ah5⟩
  ·cases hk
theorem aa0 [Tags] {c:Operand} {a:Code} {st:St} (h:zC st c=some (.b true)):re c a st=st:=by
 unfold re;split
 ·next t=>
  unfold zC at h;split at h
  ·next l hl=>
   cases h;exact dj hl
  ·cases h
 ·rfl
theorem LH [Tags] {F:jv} (hE:Zx P A.gl F.E) (hA:A.dl=[]/\A.dps=[]) (hTw:F.E.thaws=[]∨(A.tg=true/\∀ x∈F.E.thaws,x.2=Tags.post)):∀ (c:Code) (st:St) (k:Ev.X->St->Option R) (a:Act) (w:World) (Q:Exit->Act->World->Prop),jT F c st k=some r->Rel B X A w0 st a w->
  (∀ x st',k x st'=some r->Pres (Zr c) st st'->∀ a' w',Rel B X A w0 st' a' w'->Q (qn x) a' w')->c.wp P Q a w
 | .skip,st,k,a,w,Q,hk,hr,hQ=>wp_skip (hQ .normal st hk (Pres.refl _ _) a w hr)
 | .label _,st,k,a,w,Q,hk,hr,hQ=>wp_label (hQ .normal st hk (Pres.refl _ _) a w hr)
 | .region id ops false,st,k,a,w,Q,hk,hr,hQ=>afr hE hA hTw hk hr (λ st' hk' hp a' w' hr'=>hQ .normal st' hk' hp a' w' hr')
 | .region id ops true,st,k,a,w,Q,hk,hr,hQ=>af4 hE hA hk hr.preDraw (λ st' hk' hp a' w' hr'=>hQ .normal st' hk' ((Pres.trans abo hp).mono λ t ht=>ht) a' w' hr')
 | .seq x y,st,k,a,w,Q,hk,hr,hQ=>by
  refine wp_seq (LH hE hA hTw x st _ a w _ hk hr ?_);intro z st' hkz hp a' w' hr';cases z with
  | normal=>exact LH hE hA hTw y st' k a' w' Q hkz hr' (λ z st'' hk'' hp' a'' w'' hr''=>hQ z st'' hk'' (hp.trans hp') a'' w'' hr'')
  | exit id=>exact hQ (.exit id) st' hkz (hp.mono (λ t ht=>List.mem_append_left _ ht)) a' w' hr'
  | ret=>exact hQ .ret st' hkz (hp.mono (λ t ht=>List.mem_append_left _ ht)) a' w' hr'
 | .cond c x y,st,k,a,w,Q,hk,hr,hQ=>by
  unfold jT at hk;split at hk
  ·next b hb=>
   have hv:a.eval c=.bool b:=by obtain⟨γ,loc,h⟩:=hr; exact (y0 h hb).1
   cases b with
   | true=>
    rw[aqE,aa0 hb] at hk;exact wp_cond_true hv (LH hE hA hTw x st k a w Q hk hr (λ z st' hk' hp a' w' hr'=>hQ z st' hk' (hp.mono (λ t ht=>List.mem_append_left _ ht)) a' w' hr'))
   | false=>exact wp_cond_false hv (LH hE hA hTw y st k a w Q hk hr (λ z st' hk' hp a' w' hr'=>hQ z st' hk' (hp.mono (λ t ht=>List.mem_append_right _ ht)) a' w' hr'))
  ·cases hk
 | .block id x,st,k,a,w,Q,hk,hr,hQ=>by
  refine wp_block (LH hE hA hTw x st _ a w _ hk hr ?_);intro z st' hkz hp a' w' hr';cases z with
  | normal=>exact hQ .normal st' hkz hp a' w' hr'
  | ret=>exact hQ .ret st' hkz hp a' w' hr'
  | exit j=>
   simp only at hkz;split at hkz
   ·next h=>
    have:=(zV _ _).1 h;simp only[qn,Exit.inBlock,this,if_true];exact hQ .normal st' hkz hp a' w' hr'
   ·next h=>
    have:=(ZR _ _).1 h;simp only[qn,Exit.inBlock,this,if_false];exact hQ (.exit j) st' hkz hp a' w' hr'
 | .loop x,st,k,a,w,Q,hk,hr,hQ=>afi hA (λ st k a w Q h1 h2 h3=>LH hE hA hTw x st k a w Q h1 h2 h3) hk hr hQ
 | .exit id,st,k,a,w,Q,hk,hr,hQ=>wp_exit (hQ (.exit id) st hk (Pres.refl _ _) a w hr)
 | .ret,st,k,a,w,Q,hk,hr,hQ=>wp_ret (hQ .ret st hk (Pres.refl _ _) a w hr)
 | .goto _,st,k,a,w,Q,hk,hr,hQ=>by cases hk
 | .scope _,st,k,a,w,Q,hk,hr,hQ=>by cases hk
 | .rangeFunc _ _ _ _,st,k,a,w,Q,hk,hr,hQ=>by cases hk
 | .refuse _,st,k,a,w,Q,hk,hr,hQ=>by cases hk
variable {P:Program} {a:Act} {w w':World} {Q:Exit->Act->World->Prop}
def QB (w:World) (b:Nat):List Value:=match w.heap[b]? with
 | some (.cells arr _ _)=>arr.toList
 | _=>[]
def YU:List Leaf->List Value->List (Nat×Value)
 | .sl id::r,c::cs=>(id,c)::YU r cs
 | _::r,_::cs=>YU r cs
 | _,_=>[]
theorem G8:∀ {ls:List Leaf} {cs:List Value} {n:Nat},All2 (LeafOk loc) ls cs->(∀ l∈ls,l.lt n)->∀ p∈YU ls cs,p.1<n/\loc p.1=p.2
 | [],_,n,h,hl,p,hp=>by simp[YU] at hp
 | _::_,[],n,h,hl,p,hp=>h.elim
 | l::r,c::cs,n,h,hl,p,hp=>by
  have ih:=G8 (n:=n) h.2 (λ l hm=>hl l (by simp[hm])) p;cases l with
  | sl id=>
   simp only[YU,aqW] at hp;rcases hp with rfl|hp
   ·exact⟨hl (.sl id) (by simp),h.1.1.symm⟩
   ·exact ih hp
  | _=>exact ih (by simpa[YU] using hp)
def Z7 (w:World):(ps:List (PK×Ty))->yc ps->Nat->List Nat->List (Nat×Value)
 | [],_,_,_=>[]
 | (.rd,t)::ps,v,j,xp=>Z7 w ps v.2 (ze (.imm false) 0 t v.1 j).2.2 xp
 | (.own,t)::ps,v,j,xp=>Z7 w ps v.2 (ze (.own false) 0 t v.1 j).2.2 xp
 | (.cap,t)::ps,v,j,xp=>Z7 w ps v.2 (ze (.imm false) 0 t v.1 (j+1)).2.2 xp
 | (.clo _,t)::ps,v,j,xp=>Z7 w ps v.2 (ze (.imm false) 0 t v.1 (j+1)).2.2 xp
 | (.ptr,t)::ps,v,j,xp=>match xp with
  | b::xp'=>((j,.pointer (some ⟨b,0,none⟩))::YU (ze (.imm false) 0 t v.1 (j+1)).1 (QB w b))++Z7 w ps v.2 (ze (.imm false) 0 t v.1 (j+1)).2.2 xp'
  | []=>[]
theorem Wk {t:Ty} {ps:List (PK×Ty)} {v:yc ((.rd,t)::ps)} {j:Nat} {x:List AV×List (Nat×Ent)×Nat} (h:jo ((.rd,t)::ps) v j=some x):
  ∃ y xs es j',Yo t (ze (.imm false) 0 t v.1 j).1=some y/\jo ps v.2 (ze (.imm false) 0 t v.1 j).2.2=some (xs,es,j')/\x=(.v y::xs,es++(ze (.imm false) 0 t v.1 j).2.1,j'):=by
 unfold jo at h;simp only at h;split at h
 ·next y xs es j' h1 h2=>cases h; exact⟨y,xs,es,j',h1,h2,rfl⟩
 ·cases h
theorem Wi {t:Ty} {ps:List (PK×Ty)} {v:yc ((.own,t)::ps)} {j:Nat} {x:List AV×List (Nat×Ent)×Nat} (h:jo ((.own,t)::ps) v j=some x):
  ∃ y xs es j',Yo t (ze (.own false) 0 t v.1 j).1=some y/\jo ps v.2 (ze (.own false) 0 t v.1 j).2.2=some (xs,es,j')/\x=(.v y::xs,es++(ze (.own false) 0 t v.1 j).2.1,j'):=by
 unfold jo at h;simp only at h;split at h
 ·next y xs es j' h1 h2=>cases h; exact⟨y,xs,es,j',h1,h2,rfl⟩
 ·cases h
theorem Wj {t:Ty} {ps:List (PK×Ty)} {v:yc ((.ptr,t)::ps)} {j:Nat} {x:List AV×List (Nat×Ent)×Nat} (h:jo ((.ptr,t)::ps) v j=some x):
  ∃ xs es j',jo ps v.2 (ze (.imm false) 0 t v.1 (j+1)).2.2=some (xs,es,j')/\
   x=(.v (.one (.ptr j 0))::xs,es++((j,.box 0 (ze (.imm false) 0 t v.1 (j+1)).1)::(ze (.imm false) 0 t v.1 (j+1)).2.1),j'):=by
 unfold jo at h;simp only at h;split at h
 ·next xs es j' h2=>cases h; exact⟨xs,es,j',h2,rfl⟩
 ·cases h
theorem Wg {t:Ty} {ps:List (PK×Ty)} {v:yc ((.cap,t)::ps)} {j:Nat} {x:List AV×List (Nat×Ent)×Nat} (h:jo ((.cap,t)::ps) v j=some x):
  ∃ xs es j',jo ps v.2 (ze (.imm false) 0 t v.1 (j+1)).2.2=some (xs,es,j')/\
   x=(.v (.one (.ptr j 0))::xs,es++((j,.cst (ze (.imm false) 0 t v.1 (j+1)).1)::(ze (.imm false) 0 t v.1 (j+1)).2.1),j'):=by
 unfold jo at h;simp only at h;split at h
 ·next xs es j' h2=>cases h; exact⟨xs,es,j',h2,rfl⟩
 ·cases h
theorem Wh {f:Nat} {t:Ty} {ps:List (PK×Ty)} {v:yc ((.clo f,t)::ps)} {j:Nat} {x:List AV×List (Nat×Ent)×Nat} (h:jo ((.clo f,t)::ps) v j=some x):
  ∃ xs es j',jo ps v.2 (ze (.imm false) 0 t v.1 (j+1)).2.2=some (xs,es,j')/\
   x=(.v (.one (.fn f [j]))::xs,es++((j,.cst (ze (.imm false) 0 t v.1 (j+1)).1)::(ze (.imm false) 0 t v.1 (j+1)).2.1),j'):=by
 unfold jo at h;simp only at h;split at h
 ·next xs es j' h2=>cases h; exact⟨xs,es,j',h2,rfl⟩
 ·cases h
structure Entered [Tags] (w:World) (γ:Nat->Own) (loc:Nat->Value) (j:Nat) (vals:List Value) (xo xp:List Nat) (avs:List AV) (es:List (Nat×Ent)) (j':Nat) (pins:List (Nat×Value)) (loc':Nat->Value) (γ':Nat->Own):Prop where
 locs:∀ i,(i<j∨j'<=i)->loc' i=loc i
 le:j<=j'
 vals:All2 (AVOk loc') avs vals
 lts:∀ x∈avs,x.lt j'
 own:∀ b,b∉xo->b∉xp->γ' b=γ b
 ents:∀ (id:Nat) (e:Ent),look es id=some e->EntOk γ' loc' w id e/\j<=id/\id<j'/\e.lt j'
 pins:∀ p∈pins,p.1<j'/\loc' p.1=p.2
theorem Entered.more [Tags] {γ γ1 γ2:Nat->Own} {loc loc1 loc2:Nat->Value} {j j1 j':Nat} {v:Value} {vals:List Value} {x1 xo x2 xp:List Nat} {av:AV} {avs:List AV} {es1 es:List (Nat×Ent)} {p1 pins:List (Nat×Value)}
  (h:Entered w γ1 loc1 j1 vals xo xp avs es j' pins loc2 γ2) (hle:j<=j1) (ahn:∀ i,(i<j∨j1<=i)->loc1 i=loc i) (hv:AVOk loc1 av v) (hlt:av.lt j1)
  (ahd:∀ b,b∉x1->b∉x2->γ1 b=γ b) (hal:∀ b,(b∈xo∨b∈xp)->γ1 b=.alien)
  (he:∀ (id:Nat) (e:Ent),look es1 id=some e->EntOk γ1 loc1 w id e/\j<=id/\id<j1/\e.lt j1) (hp:∀ p∈p1,p.1<j1/\loc1 p.1=p.2):
  Entered w γ loc j (v::vals) (x1++xo) (x2++xp) (av::avs) (es++es1) j' (p1++pins) loc2 γ2:=by
 have hl2:∀ i<j1,loc2 i=loc1 i:=λ i hi=>h.locs i (.inl hi);have hm:Moves (λ _=>False) γ1 γ2 w w:=by
  have key:∀ b,γ1 b ≠ .alien->γ2 b=γ1 b:=λ b hb=>h.own b (λ hx=>hb (hal b (.inl hx))) (λ hx=>hb (hal b (.inr hx)));constructor
  ·intro b _ hb; exact⟨by rw[key b (by simp[hb])]; exact hb,rfl⟩
  ·intro b i _ hb _; exact⟨by rw[key b (by simp[hb])]; exact hb,rfl⟩
  ·intro b i _ hb; exact⟨rfl,λ _=>by rw[key b (by simp[hb])]; exact hb,λ h=>h.elim⟩
 have akb:=h.le;refine⟨?_,by omega,⟨hv.loc hlt hl2,h.vals⟩,?_,?_,?_,?_⟩
 ·intro i hi;rw[h.locs i (by omega),ahn i (by omega)]
 ·intro x hx;rcases List.mem_cons.1 hx with rfl|hx
  ·exact AV.lt_mono akb hlt
  ·exact h.lts x hx
 ·intro b hb hb';simp only[ar0,not_or] at hb hb';rw[h.own b hb.2 hb'.2,ahd b hb.1 hb'.1]
 ·intro id e hid;rw[ZY] at hid;cases hh:look es id with
  | some e'=>
   rw[hh] at hid;simp at hid;subst hid;obtain⟨c1,c2,c3,c4⟩:=h.ents id _ hh;exact⟨c1,by omega,c3,c4⟩
  | none=>
   rw[hh] at hid;simp at hid;obtain⟨c1,c2,c3,c4⟩:=he id e hid;exact⟨EntOk.moves hm (λ h=>h) c4 c3 hl2 c1,c2,by omega,Ent.lt_mono akb c4⟩
 ·intro p hp';rcases List.mem_append.1 hp' with hp'|hp'
  ·obtain⟨c1,c2⟩:=hp p hp';exact⟨by omega,by rw[hl2 _ c1]; exact c2⟩
  ·exact h.pins p hp'
theorem eF [Tags] {t:Ty} {v:den t} {k:Kind} {lvl j:Nat} {γ:Nat->Own} {loc:Nat->Value} (h:∀ (id:Nat) (e:Ent),look (ze k lvl t v j).2.1 id=some e->EntOk γ loc w id e):
  ∀ (id:Nat) (e:Ent),look (ze k lvl t v j).2.1 id=some e->EntOk γ loc w id e/\j<=id/\id<(ze k lvl t v j).2.2/\e.lt (ze k lvl t v j).2.2:=by
 intro id e he;obtain⟨g1,g2,E',et,zs,rfl⟩:=(jB k lvl t v j).keys id e he;exact⟨h id _ he,g1,g2,trivial⟩
theorem L7 [Tags]:∀ (ps:List (PK×Ty)) (vs:yc ps) (j:Nat) (vals:List Value) (r rp rc xo xp:List Nat) (avs:List AV) (es:List (Nat×Ent)) (j':Nat) (loc:Nat->Value) (γ:Nat->Own),
  ArgsOk w ps vs vals r rp rc xo xp->jo ps vs j=some (avs,es,j')->(xo++xp).Nodup->(∀ b∈xo++xp,b∉r/\b∉rp/\b∉rc)->(∀ b,(b∈r∨b∈rp∨b∈rc)->γ b=.persist)->(∀ b,(b∈xo∨b∈xp)->γ b=.alien)->
  ∃ loc' γ',Entered w γ loc j vals xo xp avs es j' (Z7 w ps vs j xp) loc' γ'
 | [],vs,j,vals,r,rp,rc,xo,xp,avs,es,j',loc,γ,h,he,hn,hd,hp,ha=>by
  simp only[jo,aqK,aqO] at he;obtain⟨rfl,rfl,rfl⟩:=he;obtain⟨rfl,_⟩:=h;exact⟨loc,γ,λ _ _=>rfl,Nat.le_refl _,trivial,by simp,λ _ _ _=>rfl,by simp[look],by simp[Z7]⟩
 | (.rd,t)::ps,vs,j,vals,r,rp,rc,xo,xp,avs,es,j',loc,γ,h,he,hn,hd,hp,ha=>by
  obtain⟨y,xs,es',j'',hmk,ah3,hx⟩:=Wk he;simp only[aqO] at hx;obtain⟨rfl,rfl,rfl⟩:=hx;obtain⟨cs,vs',fp,r',rfl,h1,rfl,h2⟩:=h;obtain⟨loc1,a1,a2,a3⟩:=KW (γ:=γ) (taint:=false) 0 t vs.1 j cs fp loc h1 (λ b hb=>.inl (hp b (by simp[hb])));have so:=jB (.imm false) 0 t vs.1 j;obtain⟨m1,m2⟩:=Ln hmk a2 so.lt;obtain⟨loc2,γ2,hE⟩:=L7 ps vs.2 _ vs' r' rp rc xo xp xs es' _ loc1 γ h2 ah3 hn (λ b hb=>⟨λ h=>(hd b hb).1 (by simp[h]),(hd b hb).2⟩)
   (λ b hb=>hp b (by rcases hb with h|h|h<;>simp[h])) ha
  exact⟨loc2,γ2,hE.more (x1:=[]) (x2:=[]) (p1:=[]) so.le a1 m1 m2 (λ _ _ _=>rfl) ha (eF a3) (by simp)⟩
 | (.own,t)::ps,vs,j,vals,r,rp,rc,xo,xp,avs,es,j',loc,γ,h,he,hn,hd,hp,ha=>by
  obtain⟨y,xs,es',j'',hmk,ah3,hx⟩:=Wi he;simp only[aqO] at hx;obtain⟨rfl,rfl,rfl⟩:=hx;obtain⟨cs,vs',xb,fs,r',xo',rfl,h1,rfl,rfl,h2⟩:=h;rw[ar7] at hn;obtain⟨n1,n2,n3⟩:=List.nodup_append.1 hn;have hxf:∀ b∈xb,b∉fs:=λ b hb hf=>(hd b (by simp[hb])).1 (by simp[hf]);obtain⟨loc1,γ1,a1,a2,a3,a4,a5,a6,a7⟩:=eG false 0 t vs.1 j cs xb fs loc γ h1 n1 hxf (by simp) (λ _ b hb=>hp b (by simp[hb]));have so:=jB (.own false) 0 t vs.1 j;obtain⟨m1,m2⟩:=Ln hmk a2 so.lt;have hal:∀ b,(b∈xo'∨b∈xp)->γ1 b=.alien:=by
   intro b hb;rw[a4 rfl b (λ h=>n3 b h b (by simpa using hb) rfl)];exact ha b (by rcases hb with h|h<;>simp[h])
  obtain⟨loc2,γ2,hE⟩:=L7 ps vs.2 _ vs' r' rp rc xo' xp xs es' _ loc1 γ1 h2 ah3 n2 (λ b hb=>⟨λ h=>(hd b (by rcases List.mem_append.1 hb with h|h<;>simp[h])).1 (by simp[h]),(hd b (by rcases List.mem_append.1 hb with h|h<;>simp[h])).2⟩)
   (λ b hb=>by
    have hb':b∈fs++r'∨b∈rp∨b∈rc:=by rcases hb with h|h|h<;>simp[h]
    rw[a4 rfl b (λ h=>by
     have:=hd b (by simp[h]);rcases hb' with h'|h'|h'
     ·exact this.1 h'
     ·exact this.2.1 h'
     ·exact this.2.2 h')]
    exact hp b hb') hal
  exact⟨loc2,γ2,hE.more (x1:=xb) (x2:=[]) (p1:=[]) so.le a1 m1 m2 (λ b hb _=>a4 rfl b hb) hal (eF (a7 γ1 (λ _ _=>rfl) (λ _ _=>rfl))) (by simp)⟩
 | (.ptr,t)::ps,vs,j,vals,r,rp,rc,xo,xp,avs,es,j',loc,γ,h,he,hn,hd,hp,ha=>by
  obtain⟨xs,es',j'',ah3,hx⟩:=Wj he;simp only[aqO] at hx;obtain⟨rfl,rfl,rfl⟩:=hx;obtain⟨b,vs',arr,T,fr,fp,rp',xp',rfl,h1,h2,h3,rfl,rfl,h4⟩:=h;obtain⟨loc1,a1,a2,a3⟩:=KW (γ:=λ c=>if c=b then .top j else γ c) (taint:=false) 0 t vs.1 (j+1) _ fp (λ i=>if i=j then .pointer (some ⟨b,0,none⟩) else loc i) h3
   (λ c hc=>.inl (by
    have hcb:c≠b:=λ e=>(hd b (by simp)).2.1 (by rw[←e]; simp[hc])
    simp only[if_neg hcb];exact hp c (by simp[hc])))
  have so:=jB (.imm false) 0 t vs.1 (j+1);have hle:=so.le;have hj:loc1 j=.pointer (some ⟨b,0,none⟩):=by rw[a1 j (.inl (by omega))]; simp
  obtain⟨n1,n2,n3⟩:=List.nodup_append.1 hn;obtain⟨n4,n5⟩:=List.nodup_cons.1 n2;have hbo:b∉xo:=λ h=>n3 b h b (by simp) rfl;have hal:∀ c,(c∈xo∨c∈xp')->(if c=b then .top j else γ c)=.alien:=by
   intro c hc;have:c≠b:=by
    rintro rfl;rcases hc with h|h
    ·exact hbo h
    ·exact n4 h
   rw[if_neg this];exact ha c (by rcases hc with h|h<;>simp[h])
  obtain⟨loc2,γ2,hE⟩:=L7 ps vs.2 _ vs' r rp' rc xo xp' xs es' _ loc1 (λ c=>if c=b then .top j else γ c) h4 ah3 (Z3 n1 n5 (λ c hc hc'=>n3 c hc c (by simp[hc']) rfl))
   (λ c hc=>⟨(hd c (by rcases List.mem_append.1 hc with h|h<;>simp[h])).1,λ h=>(hd c (by rcases List.mem_append.1 hc with h|h<;>simp[h])).2.1 (by simp[h]),(hd c (by rcases List.mem_append.1 hc with h|h<;>simp[h])).2.2⟩)
   (λ c hc=>by
    have hc':c∈r∨c∈fp++rp'∨c∈rc:=by rcases hc with h|h|h<;>simp[h]
    have:c≠b:=by
     rintro rfl;have:=hd c (by simp);rcases hc' with h|h|h
     ·exact this.1 h
     ·exact this.2.1 h
     ·exact this.2.2 h
    simp only[if_neg this];exact hp c hc') hal
  refine⟨loc2,γ2,hE.more (x1:=[]) (x2:=[b]) (p1:=(j,.pointer (some ⟨b,0,none⟩))::YU (ze (.imm false) 0 t vs.1 (j+1)).1 (QB w b)) (j:=j) (loc:=loc) (by omega) ?_ ⟨b,hj,rfl⟩ (by simp only[AV.lt,V1.lt,Leaf.lt]; omega) ?_ hal ?_ ?_⟩
  ·intro i hi;rw[a1 i (by omega),if_neg (by omega)]
  ·intro c _ hc; simp only[as9] at hc; simp[hc]
  ·intro id e hid;rw[jf] at hid;split at hid
   ·next hi=>
    cases hid;subst hi;exact⟨⟨b,arr,T,fr,hj,h1,h2,by simp,a2⟩,Nat.le_refl _,by omega,so.lt⟩
   ·obtain⟨c1,c2,c3,c4⟩:=eF a3 id e hid;exact⟨c1,by omega,c3,c4⟩
  ·intro p hp';rcases List.mem_cons.1 hp' with rfl|hp'
   ·exact⟨by simp only; omega,hj⟩
   ·have hca:QB w b=arr.toList:=by simp[QB,h1]
    rw[hca] at hp';exact G8 a2 so.lt p hp'
 | (.cap,t)::ps,vs,j,vals,r,rp,rc,xo,xp,avs,es,j',loc,γ,h,he,hn,hd,hp,ha=>by
  obtain⟨xs,es',j'',ah3,hx⟩:=Wg he;simp only[aqO] at hx;obtain⟨rfl,rfl,rfl⟩:=hx;obtain⟨b,vs',arr,T,fr,fp,r',rc',rfl,h1,h3,rfl,rfl,h4⟩:=h;obtain⟨loc1,a1,a2,a3⟩:=KW (γ:=γ) (taint:=false) 0 t vs.1 (j+1) _ fp (λ i=>if i=j then .pointer (some ⟨b,0,none⟩) else loc i) h3 (λ c hc=>.inl (hp c (by simp[hc])));have so:=jB (.imm false) 0 t vs.1 (j+1);have hle:=so.le;have hj:loc1 j=.pointer (some ⟨b,0,none⟩):=by rw[a1 j (.inl (by omega))]; simp
  obtain⟨loc2,γ2,hE⟩:=L7 ps vs.2 _ vs' r' rp rc' xo xp xs es' _ loc1 γ h4 ah3 hn (λ c hc=>⟨λ h=>(hd c hc).1 (by simp[h]),(hd c hc).2.1,λ h=>(hd c hc).2.2 (by simp[h])⟩)
   (λ c hc=>hp c (by rcases hc with h|h|h<;>simp[h])) ha
  refine⟨loc2,γ2,hE.more (x1:=[]) (x2:=[]) (p1:=[]) (j:=j) (loc:=loc) (by omega) ?_ ⟨b,hj,rfl⟩ (by simp only[AV.lt,V1.lt,Leaf.lt]; omega) (λ _ _ _=>rfl) ha ?_ (by simp)⟩
  ·intro i hi;rw[a1 i (by omega),if_neg (by omega)]
  ·intro id e hid;rw[jf] at hid;split at hid
   ·next hi=>
    cases hid;subst hi;exact⟨⟨b,arr,T,fr,hj,h1,hp b (by simp),a2⟩,Nat.le_refl _,by omega,so.lt⟩
   ·obtain⟨c1,c2,c3,c4⟩:=eF a3 id e hid;exact⟨c1,by omega,c3,c4⟩
 | (.clo f,t)::ps,vs,j,vals,r,rp,rc,xo,xp,avs,es,j',loc,γ,h,he,hn,hd,hp,ha=>by
  obtain⟨xs,es',j'',ah3,hx⟩:=Wh he;simp only[aqO] at hx;obtain⟨rfl,rfl,rfl⟩:=hx;obtain⟨b,vs',arr,T,fr,fp,r',rc',rfl,h1,h3,rfl,rfl,h4⟩:=h;obtain⟨loc1,a1,a2,a3⟩:=KW (γ:=γ) (taint:=false) 0 t vs.1 (j+1) _ fp (λ i=>if i=j then .pointer (some ⟨b,0,none⟩) else loc i) h3 (λ c hc=>.inl (hp c (by simp[hc])));have so:=jB (.imm false) 0 t vs.1 (j+1);have hle:=so.le;have hj:loc1 j=.pointer (some ⟨b,0,none⟩):=by rw[a1 j (.inl (by omega))]; simp
  obtain⟨loc2,γ2,hE⟩:=L7 ps vs.2 _ vs' r' rp rc' xo xp xs es' _ loc1 γ h4 ah3 hn (λ c hc=>⟨λ h=>(hd c hc).1 (by simp[h]),(hd c hc).2.1,λ h=>(hd c hc).2.2 (by simp[h])⟩)
   (λ c hc=>hp c (by rcases hc with h|h|h<;>simp[h])) ha
  refine⟨loc2,γ2,hE.more (x1:=[]) (x2:=[]) (p1:=[]) (j:=j) (loc:=loc) (by omega) ?_ ⟨by simp[hj],λ c hc=>by simp at hc; subst hc; exact⟨b,hj⟩⟩ (by intro c hc; simp at hc; subst hc; omega) (λ _ _ _=>rfl) ha ?_ (by simp)⟩
  ·intro i hi;rw[a1 i (by omega),if_neg (by omega)]
  ·intro id e hid;rw[jf] at hid;split at hid
   ·next hi=>
    cases hid;subst hi;exact⟨⟨b,arr,T,fr,hj,h1,hp b (by simp),a2⟩,Nat.le_refl _,by omega,so.lt⟩
   ·obtain⟨c1,c2,c3,c4⟩:=eF a3 id e hid;exact⟨c1,by omega,c3,c4⟩
def JN (tmps:Array Value):ResultVar->Sem Value
 | .tmp t=>pure (tmps.getD t undef)
 | .cell a t=>do loadVar t (←asAddr (tmps.getD a undef))
theorem Fm {α β:Type} {f:α->Sem β} {w:World}:∀ {xs:List α} {ys:List β},All2 (λ x y=>(f x).run P w=.ok y w) xs ys->(xs.mapM f).run P w=.ok ys w
 | [],[],_=>by simp
 | x::xs,y::ys,h=>by simp only[List.mapM_cons,aqT,h.1,aqQ,Fm h.2,aqR]
 | [],_::_,h=>h.elim
 | _::_,[],h=>h.elim
theorem dx [Tags] {fn:Func} {tmps:Array Value} {w:World} {vs:List Value} (h:All2 (λ x v=>(JN tmps x).run P w=.ok v w) fn.results.toList vs):(results fn tmps).run P w=.ok (YP vs) w:=by
 have h1:=Fm h;have h2:(fn.results.mapM (JN tmps)).run P w=.ok vs.toArray w:=by
  rw[Array.mapM_eq_mapM_toList];simp only[map_eq_pure_bind,aqT,h1,aqQ,aqR]
 have h3:results fn tmps=(do let vs ←fn.results.mapM (JN tmps); pure (if h:vs.size=1 then vs[0] else .tuple vs)):=by
  unfold results;rfl
 rw[h3];simp only[aqT,h2,aqQ,aqR];congr 1
 match vs with
 | []=>rfl
 | [v]=>rfl
 | _::_::_=>rfl
theorem E9 [Tags] (hT:yA P E.tys=true) (hr:Rel0 B X A w0 γ loc st a w) {t:Ty} {x:ResultVar} {ls:List Leaf} (h:ma E st t x=some ls) {v:den t} (hc:jJ st.tab t ls=some v):
  ∃ cs,(JN a.tmps x).run P w=.ok (yD t cs) w/\All2 (LeafOk loc) ls cs:=by
 cases x with
 | tmp s=>
  simp only[ma] at h;split at h
  ·next y hy=>
   obtain⟨cs,e1,e2⟩:=qE h (hr.slots s y hy);exact⟨cs,by simp only[JN,aqR,e1],e2⟩
  ·cases h
 | cell s T=>
  simp only[ma] at h;split at h
  ·next id d hs hd=>
   split at h
   ·next lvl cells hl hck=>
    cases h;simp only[aqF,aqP,arL] at hck;obtain⟨hty,ah5⟩:=hck;subst hty;obtain⟨b,e1,e2⟩:=hr.slots s _ hs;obtain⟨b',arr,T',fr,g1,g2,g3,g4,g5⟩:=hr.ents id _ hl;rw[g1] at e1;simp only[Value.pointer.injEq,aqK,Addr.mk.injEq,and_true] at e1;subst e1;obtain⟨fp,q1,_⟩:=Js hr hc g5;have hlen:=q1.len;have hsz:arr.size=d.ty.size:=by simpa using hlen
    refine⟨arr.toList,?_,g5⟩;simp only[JN,e2,asAddr,pure_bind,Fl (yh hT hd) ah5 g2 (show 0+d.ty.size<=arr.size by omega)];simp only[ar4];rw[←hsz,←ary,arF]
   ·cases h
  ·cases h
theorem ui [Tags] (hT:yA P E.tys=true) (hr:Rel0 B X A w0 γ loc st a w):∀ (ts:List Ty) (xs:List ResultVar) (vs:dens ts) (ls:List Leaf),JM E st ts xs=some (vs,ls)->
  ∃ css fs,RetL w .shared ts vs css [] fs/\All2 (λ x v=>(JN a.tmps x).run P w=.ok v w) xs (ZP ts css)/\(∀ b∈fs,γ b ≠ .alien/\∀ i,γ b=.top i->M2 st i)
 | [],[],vs,ls,h=>⟨[],[],⟨rfl,rfl,rfl⟩,trivial,by simp⟩
 | t::ts,x::xs,vs,ls,h=>by
  simp only[JM] at h;split at h
  ·cases h
  ·next l1 hl=>
   split at h
   ·next v vs' ls' hc ah3=>
    simp only[aqK,aqO] at h;obtain⟨rfl,rfl⟩:=h;obtain⟨cs,e1,e2⟩:=E9 hT hr hl hc;obtain⟨fp,q1,q2,_⟩:=Js hr hc e2;obtain⟨css,fs,k1,k2,k3⟩:=ui hT hr ts xs vs' ls' ah3;refine⟨cs::css,fp++fs,⟨cs,css,[],[],fp,fs,rfl,rfl,rfl,⟨rfl,q1⟩,k1⟩,⟨e1,k2⟩,?_⟩;intro b hb;rcases List.mem_append.1 hb with hb|hb
    ·exact⟨(q2 b hb).1,λ i hi=>fE hc i ((q2 b hb).2 i hi)⟩
    ·exact k3 b hb
   ·cases h
 | [],_::_,vs,ls,h=>by simp[JM] at h
 | _::_,[],vs,ls,h=>by simp[JM] at h
theorem du [Tags] (hT:yA P E.tys=true) (hr:Rel0 B X A w0 γ loc st a w) (rk:RK) (hrk:rk ≠ .shared):∀ (ts:List Ty) (xs:List ResultVar) (vs:dens ts) (ls:List Leaf) (ids:List Nat),JM E st ts xs=some (vs,ls)->
  yw st ls=some ids->
  ∃ css xb fs,RetL w rk ts vs css xb fs/\All2 (λ x v=>(JN a.tmps x).run P w=.ok v w) xs (ZP ts css)/\xb.Nodup/\(∀ b∈xb,∃ i∈ids,γ b=.top i)/\(∀ b∈fs,γ b=.persist∨∃ i∈ids,γ b=.deep i)/\
   ((∀ i∈ids,LX st i)->fs.Nodup/\∀ b∈fs,∃ i∈ids,γ b=.deep i)
 | [],[],vs,ls,ids,h,hg=>⟨[],[],[],⟨rfl,rfl,rfl⟩,trivial,by simp,by simp,by simp,by simp⟩
 | t::ts,x::xs,vs,ls,ids,h,hg=>by
  simp only[JM] at h;split at h
  ·cases h
  ·next l1 hl=>
   split at h
   ·next v vs' ls' hc ah3=>
    simp only[aqK,aqO] at h;obtain⟨rfl,rfl⟩:=h;obtain⟨i1,i2,g1,g2,rfl,g4⟩:=J3 hg;obtain⟨cs,e1,e2⟩:=E9 hT hr hl hc;obtain⟨x1,f1,q1,q2,q3,q4,q5⟩:=qG hr hc e2 g1;obtain⟨css,x2,f2,k1,k2,k3,k4,k5,k6⟩:=du hT hr rk hrk ts xs vs' ls' i2 ah3 g2;have hR1:wD w rk t v cs x1 f1:=by
     cases rk with
     | shared=>exact absurd rfl hrk
     | own=>exact q1
     | uniq=>exact q1
    refine⟨cs::css,x1++x2,f1++f2,⟨cs,css,x1,x2,f1,f2,rfl,rfl,rfl,hR1,k1⟩,⟨e1,k2⟩,?_,?_,?_,?_⟩
    ·refine Z3 q2 k3 ?_;intro b hb hb';obtain⟨i,hi,e⟩:=q3 b hb;obtain⟨j,hj,e'⟩:=k4 b hb';rw[e] at e'; cases e'
     exact g4 _ hi hj
    ·intro b hb;rcases List.mem_append.1 hb with hb|hb
     ·obtain⟨i,hi,h⟩:=q3 b hb; exact⟨i,by simp[hi],h⟩
     ·obtain⟨i,hi,h⟩:=k4 b hb; exact⟨i,by simp[hi],h⟩
    ·intro b hb;rcases List.mem_append.1 hb with hb|hb
     ·rcases q4 b hb with h|⟨i,hi,h⟩
      ·exact .inl h
      ·exact .inr ⟨i,by simp[hi],h⟩
     ·rcases k5 b hb with h|⟨i,hi,h⟩
      ·exact .inl h
      ·exact .inr ⟨i,by simp[hi],h⟩
    ·intro hu;obtain⟨n1,d1⟩:=q5 (λ i hi=>hu i (by simp[hi]));obtain⟨n2,d2⟩:=k6 (λ i hi=>hu i (by simp[hi]));refine⟨Z3 n1 n2 ?_,?_⟩
     ·intro b hb hb';obtain⟨i,hi,e⟩:=d1 b hb;obtain⟨j,hj,e'⟩:=d2 b hb';rw[e] at e'; cases e'
      exact g4 _ hi hj
     ·intro b hb;rcases List.mem_append.1 hb with hb|hb
      ·obtain⟨i,hi,h⟩:=d1 b hb; exact⟨i,by simp[hi],h⟩
      ·obtain⟨i,hi,h⟩:=d2 b hb; exact⟨i,by simp[hi],h⟩
   ·cases h
 | [],_::_,vs,ls,ids,h,hg=>by simp[JM] at h
 | _::_,[],vs,ls,ids,h,hg=>by simp[JM] at h
theorem vV (k:Kind) (lvl:Nat):∀ (t:Ty) (v:den t) (j:Nat),(ze k lvl t v j).1.length=t.size/\∀ l∈(ze k lvl t v j).1,l ≠ .nil
 | .i64,v,j | .u8,v,j | .bool,v,j | .str,v,j | .sl _ _,v,j=>by simp[ze,Ty.size]
 | .pair a b,v,j=>by
  obtain⟨a1,a2⟩:=vV k lvl a v.1 j;obtain⟨b1,b2⟩:=vV k lvl b v.2 (ze k lvl a v.1 j).2.2;have e:(ze k lvl (.pair a b) v j).1=(ze k lvl a v.1 j).1++(ze k lvl b v.2 (ze k lvl a v.1 j).2.2).1:=rfl;rw[e];refine⟨by simp[a1,b1,Ty.size],λ l hl => ?_⟩;rcases List.mem_append.1 hl with hl|hl
  ·exact a2 l hl
  ·exact b2 l hl
theorem dK {x:Leaf} {r:List Leaf} {c:Value} {cs:List Value}:∀ p∈YU r cs,p∈YU (x::r) (c::cs):=by
 intro p hp;cases x<;>simp[YU,hp]
theorem rb [Tags] {tab:List (Nat×Ent)}:∀ (t:Ty) (ls0 ls:List Leaf) (c0 cs:List Value) (v:den t) (r:List Leaf),zQ tab t ls=some (v,r)->ZL ls0 ls=true->All2 (LeafOk loc) ls cs->c0.length=ls0.length->
  (∀ l∈ls0,l ≠ .nil)->(∀ p∈YU ls0 c0,loc p.1=p.2)->
  ∃ c1 c2 d1 d2 r0,c0=c1++c2/\cs=d1++d2/\qt t v c1 d1/\c2.length=r0.length/\ZL r0 r=true/\All2 (LeafOk loc) r d2/\(∀ l∈r0,l ≠ .nil)/\(∀ p∈YU r0 c2,loc p.1=p.2)
 | .i64,ls0,ls,c0,cs,v,r,h,hs,ha,hl,hn,hp=>by
  match ls,h with
  | .i n::r',h=>
   simp only[zQ,aqK,aqO] at h;obtain⟨rfl,rfl⟩:=h
   match ls0,cs,c0,hl,ha with
   | [],_,_,_,_=>cases Kl hs
   | x::s,d::ds,c::c0,hl,ha=>
    obtain⟨y,s',e,_,h2⟩:=JR hs;cases e;exact⟨[c],c0,[d],ds,s,rfl,rfl,⟨rfl,by rw[ha.1.1],ha.1.2⟩,by simpa using hl,h2,ha.2,λ l hl=>hn l (by simp[hl]),λ p hp'=>hp p (dK p hp')⟩
 | .u8,ls0,ls,c0,cs,v,r,h,hs,ha,hl,hn,hp=>by
  match ls,h with
  | .u n::r',h=>
   simp only[zQ,aqK,aqO] at h;obtain⟨rfl,rfl⟩:=h
   match ls0,cs,c0,hl,ha with
   | [],_,_,_,_=>cases Kl hs
   | x::s,d::ds,c::c0,hl,ha=>
    obtain⟨y,s',e,_,h2⟩:=JR hs;cases e;have hd:d=_:=ha.1;exact⟨[c],c0,[d],ds,s,rfl,rfl,⟨rfl,by rw[hd]⟩,by simpa using hl,h2,ha.2,λ l hl=>hn l (by simp[hl]),λ p hp'=>hp p (dK p hp')⟩
 | .bool,ls0,ls,c0,cs,v,r,h,hs,ha,hl,hn,hp=>by
  match ls,h with
  | .b n::r',h=>
   simp only[zQ,aqK,aqO] at h;obtain⟨rfl,rfl⟩:=h
   match ls0,cs,c0,hl,ha with
   | [],_,_,_,_=>cases Kl hs
   | x::s,d::ds,c::c0,hl,ha=>
    obtain⟨y,s',e,_,h2⟩:=JR hs;cases e;have hd:d=_:=ha.1;exact⟨[c],c0,[d],ds,s,rfl,rfl,⟨rfl,by rw[hd]⟩,by simpa using hl,h2,ha.2,λ l hl=>hn l (by simp[hl]),λ p hp'=>hp p (dK p hp')⟩
 | .str,ls0,ls,c0,cs,v,r,h,hs,ha,hl,hn,hp=>by
  match ls,h with
  | .s n::r',h=>
   simp only[zQ,aqK,aqO] at h;obtain⟨rfl,rfl⟩:=h
   match ls0,cs,c0,hl,ha with
   | [],_,_,_,_=>cases Kl hs
   | x::s,d::ds,c::c0,hl,ha=>
    obtain⟨y,s',e,_,h2⟩:=JR hs;cases e;exact⟨[c],c0,[d],ds,s,rfl,rfl,⟨rfl,by rw[ha.1.1],ha.1.2⟩,by simpa using hl,h2,ha.2,λ l hl=>hn l (by simp[hl]),λ p hp'=>hp p (dK p hp')⟩
 | .sl E e,ls0,ls,c0,cs,v,r,h,hs,ha,hl,hn,hp=>by
  have key:∃ l,ls=l::r/\l.isSl=true:=by
   match ls,h with
   | .nil::r',h=>
    simp only[zQ,aqK,aqO] at h;exact⟨.nil,by rw[h.2],rfl⟩
   | .sl id::r',h=>
    simp only[zQ] at h;split at h
    ·split at h
     ·simp only[aqK,aqO] at h;exact⟨.sl id,by rw[h.2],rfl⟩
     ·cases h
    ·cases h
  obtain⟨l,rfl,hl1⟩:=key
  match ls0,cs,c0,hl,ha with
  | [],_,_,_,_=>cases Kl hs
  | x::s,d::ds,c::c0,hl,ha=>
   obtain⟨y,s',e,h1,h2⟩:=JR hs;cases e;rcases h1 with rfl|⟨_,h4⟩
   ·refine⟨[c],c0,[d],ds,s,rfl,rfl,⟨rfl,?_⟩,by simpa using hl,h2,ha.2,λ l hl=>hn l (by simp[hl]),λ p hp'=>hp p (dK p hp')⟩;have hx:=hn x (by simp);cases x with
    | sl id=>
     have:=hp (id,c) (by simp[YU]);simp only at this;rw[ha.1.1,this]
    | nil=>exact absurd rfl hx
    | _=>cases hl1
   ·rw[hl1] at h4; cases h4
 | .pair a b,ls0,ls,c0,cs,v,r,h,hs,ha,hl,hn,hp=>by
  simp only[zQ] at h;split at h
  ·next x r1 h1=>
   split at h
   ·next y r2 h2=>
    simp only[aqK,aqO] at h;obtain⟨rfl,rfl⟩:=h;obtain⟨c1,c2,d1,d2,r0,rfl,rfl,k1,k2,k3,k4,k5,k6⟩:=rb a ls0 ls c0 cs x r1 h1 hs ha hl hn hp;obtain⟨c3,c4,d3,d4,r3,rfl,rfl,m1,m2,m3,m4,m5,m6⟩:=rb b r0 r1 c2 d2 y r2 h2 k3 k4 k2 k5 k6;exact⟨c1++c3,c4,d1++d3,d4,r3,by simp,by simp,⟨c1,c3,d1,d3,rfl,rfl,k1,m1⟩,m2,m3,m4,m5,m6⟩
   ·cases h
  ·cases h
theorem I8 {rets:List Ty} {rs:dens rets} {t:Ty} {ps:List (PK×Ty)} {v:yc ((.ptr,t)::ps)} {j:Nat} {out:zW ((.ptr,t)::ps) rets} (h:Ks st rets rs ((.ptr,t)::ps) v j=some out):
  ∃ lvl cells x r,look st.tab j=some (.box lvl cells)/\ZL (ze (.imm false) 0 t v.1 (j+1)).1 cells=true/\jJ st.tab t cells=some x/\Ks st rets rs ps v.2 (ze (.imm false) 0 t v.1 (j+1)).2.2=some r/\out=(x,r):=by
 unfold Ks at h;simp only at h;split at h
 ·next lvl cells hl=>
  split at h
  ·next x r h1 h2 h3=>cases h; exact⟨lvl,cells,x,r,hl,h1,h2,h3,rfl⟩
  ·cases h
 ·cases h
theorem bi [Tags] (hr:Rel0 B X A w0 γ loc st a w) {n:Nat} {rk:RK} {rr xo pt:List Nat} {rets:List Ty} {v:Value} {rs:dens rets} (hR:K3 w n rk rr xo pt rets v rs) {w1:World}:
  ∀ (ps:List (PK×Ty)) (vs:yc ps) (j:Nat) (xp:List Nat) (outs:zW ps rets) (vals:List Value) (r rp rc xo':List Nat),Ks st rets rs ps vs j=some outs->ArgsOk w1 ps vs vals r rp rc xo' xp->
   (∀ p∈Z7 w1 ps vs j xp,loc p.1=p.2)->OutOk w1 w n rk rr xo pt rets v ps outs xp
 | [],vs,j,xp,outs,vals,r,rp,rc,xo',h,hA,hp=>by
  have h:rs=outs:=Option.some.inj h;subst h;obtain⟨_,_,_,_,_,rfl⟩:=hA;exact⟨rfl,hR⟩
 | (.rd,t)::ps,vs,j,xp,outs,vals,r,rp,rc,xo',h,hA,hp=>by
  obtain⟨cs,vs',fp,r',_,_,_,h2⟩:=hA;exact bi hr hR ps vs.2 _ xp outs vs' r' rp rc xo' h h2 hp
 | (.own,t)::ps,vs,j,xp,outs,vals,r,rp,rc,xo',h,hA,hp=>by
  obtain⟨cs,vs',xs,fs,r',xo'',_,_,_,_,h2⟩:=hA;exact bi hr hR ps vs.2 _ xp outs vs' r' rp rc xo'' h h2 hp
 | (.cap,t)::ps,vs,j,xp,outs,vals,r,rp,rc,xo',h,hA,hp=>by
  obtain⟨b,vs',arr,T,fr,fp,r',rc',_,_,_,_,_,h2⟩:=hA;exact bi hr hR ps vs.2 _ xp outs vs' r' rp rc' xo' h h2 hp
 | (.clo f,t)::ps,vs,j,xp,outs,vals,r,rp,rc,xo',h,hA,hp=>by
  obtain⟨b,vs',arr,T,fr,fp,r',rc',_,_,_,_,_,h2⟩:=hA;exact bi hr hR ps vs.2 _ xp outs vs' r' rp rc' xo' h h2 hp
 | (.ptr,t)::ps,vs,j,xp,outs,vals,r,rp,rc,xo',h,hA,hp=>by
  obtain⟨lvl,cells,x,r1,hl,hst,hc,ah3,rfl⟩:=I8 h;obtain⟨b,vs',arr0,T0,fr0,fp0,rp',xp',_,q0,_,qr,_,rfl,h2⟩:=hA;obtain⟨b',arr,T,fr,g1,g2,g3,g4,g5⟩:=hr.ents j _ hl;have hj:=hp (j,.pointer (some ⟨b,0,none⟩)) (by simp[Z7]);simp only at hj;rw[hj] at g1;simp only[Value.pointer.injEq,aqK,Addr.mk.injEq,and_true] at g1;subst g1;have hca:QB w1 b=arr0.toList:=by simp[QB,q0]
  obtain⟨z1,z2⟩:=vV (.imm false) 0 t vs.1 (j+1);obtain⟨c1,c2,d1,d2,r0,e1,e2,k1,k2,k3,k4,_,_⟩:=rb t _ cells arr0.toList arr.toList x [] (bC hc) hst g5 (by rw[qr.len,z1]) z2 (λ p hp'=>hp p (by simp only[Z7,hca]; simp[hp']))
  have hr0:r0=[]:=by
   cases r0 with
   | nil=>rfl
   | cons y s=>obtain⟨_,_,e,_⟩:=JR k3; cases e
  subst hr0;have hc2:c2=[]:=by simpa using k2
  have hd2:d2=[]:=by
   cases d2 with
   | nil=>rfl
   | cons _ _=>exact k4.elim
  subst hc2 hd2;simp only[arz] at e1 e2;exact⟨b,xp',arr0,T0,fr0,arr,T,fr,rfl,q0,g2,g3,by rw[e1,e2]; exact k1,bi hr hR ps vs.2 _ xp' r1 vs' r rp' rc xo' ah3 h2 (λ p hp'=>hp p (by simp[Z7,hp']))⟩
theorem QO [Tags] {rets:List Ty} {rs:dens rets}:∀ (ps:List (PK×Ty)) (vs:yc ps) (j:Nat) (xp:List Nat) (outs:zW ps rets) (vals:List Value) (r rp rc xo':List Nat) (w1:World),Ks st rets rs ps vs j=some outs->ArgsOk w1 ps vs vals r rp rc xo' xp->
  ∀ b∈xp,∃ i,(i,Value.pointer (some ⟨b,0,none⟩))∈Z7 w1 ps vs j xp/\∃ lvl cells,look st.tab i=some (.box lvl cells)
 | [],vs,j,xp,outs,vals,r,rp,rc,xo',w1,h,hA=>by obtain⟨_,_,_,_,_,rfl⟩:=hA; simp
 | (.rd,t)::ps,vs,j,xp,outs,vals,r,rp,rc,xo',w1,h,hA=>by
  obtain⟨cs,vs',fp,r',_,_,_,h2⟩:=hA;exact QO ps vs.2 _ xp outs vs' r' rp rc xo' w1 h h2
 | (.own,t)::ps,vs,j,xp,outs,vals,r,rp,rc,xo',w1,h,hA=>by
  obtain⟨cs,vs',xs,fs,r',xo'',_,_,_,_,h2⟩:=hA;exact QO ps vs.2 _ xp outs vs' r' rp rc xo'' w1 h h2
 | (.cap,t)::ps,vs,j,xp,outs,vals,r,rp,rc,xo',w1,h,hA=>by
  obtain⟨b,vs',arr,T,fr,fp,r',rc',_,_,_,_,_,h2⟩:=hA;exact QO ps vs.2 _ xp outs vs' r' rp rc' xo' w1 h h2
 | (.clo f,t)::ps,vs,j,xp,outs,vals,r,rp,rc,xo',w1,h,hA=>by
  obtain⟨b,vs',arr,T,fr,fp,r',rc',_,_,_,_,_,h2⟩:=hA;exact QO ps vs.2 _ xp outs vs' r' rp rc' xo' w1 h h2
 | (.ptr,t)::ps,vs,j,xp,outs,vals,r,rp,rc,xo',w1,h,hA=>by
  obtain⟨lvl,cells,x,r1,hl,hst,hc,ah3,rfl⟩:=I8 h;obtain⟨b,vs',arr0,T0,fr0,fp0,rp',xp',_,_,_,_,_,rfl,h2⟩:=hA;intro c hc';rcases List.mem_cons.1 hc' with rfl|hc'
  ·exact⟨j,by simp[Z7],lvl,cells,hl⟩
  ·obtain⟨i,k1,k2⟩:=QO ps vs.2 _ xp' r1 vs' r rp' rc xo' w1 ah3 h2 c hc';exact⟨i,by simp[Z7,k1],k2⟩
theorem qL [Tags] {avs:List AV} {vals:List Value} {n j:Nat} (h:All2 (AVOk loc) avs vals) (hl:∀ x∈avs,x.lt j) (t:Nat) (v:AV) (ht:(avs++List.replicate (n - avs.length) (.tup []))[t]?=some v):
  AVOk loc v ((vals.toArray++Array.replicate (n - vals.toArray.size) undef).getD t undef)/\v.lt j:=by
 have hlen:=h.len;rw[arm];by_cases hlt:t<avs.length
 ·rw[arU hlt] at ht;obtain⟨y,hy,hv⟩:=h.get ht;have ap7:t<vals.length:=by omega
  have ap8:t<vals.toArray.size:=by simpa using ap7
  rw[Array.getElem?_append_left ap8];simp only[asB,hy,arq];exact⟨hv,hl v (List.mem_of_getElem? ht)⟩
 ·rw[ass (by omega),List.getElem?_replicate] at ht;split at ht
  ·cases ht;have hge:vals.toArray.size<=t:=by simp; omega
   rw[Array.getElem?_append_right hge,asF];refine⟨?_,by simp[AV.lt]⟩;split
   ·exact ou loc
   ·exact ou loc
  ·cases ht
def LS (p:Nat):List (PK×Ty)->Bool
 | []=>true
 | (.rd,t)::r => !ZG p t && LS p r
 | (.own,t)::r => !ZG p t && LS p r
 | (.ptr,t)::r => !ZG p t && LS p r
 | _=>false
theorem ArgsOk.tags [Tags] {w:World}:∀ {ps:List (PK×Ty)} {vs:yc ps} {vals:List Value} {r rp rc xo xp:List Nat},ArgsOk w ps vs vals r rp rc xo xp->LS Tags.post ps=true->
  ∀ b,(b∈r∨b∈rp∨b∈rc)->∀ arr fr,w.heap[b]?≠some (.cells arr Tags.post fr)
 | [],_,_,_,_,_,_,_,h,_=>by obtain⟨_,rfl,rfl,rfl,_,_⟩:=h; simp
 | (.rd,t)::ps,v,_,_,_,_,_,_,h,ht=>by
  simp only[LS,aqF,arc] at ht;obtain⟨cs,vs,fp,r',_,h1,rfl,h'⟩:=h;intro b hb;simp only[ar0] at hb;rcases hb with (hb|hb)|hb
  ·exact h1.tags ht.1 b hb
  ·exact h'.tags ht.2 b (.inl hb)
  ·exact h'.tags ht.2 b (.inr hb)
 | (.own,t)::ps,v,_,_,_,_,_,_,h,ht=>by
  simp only[LS,aqF,arc] at ht;obtain⟨cs,vs,xs,fs,r',xo',_,h1,rfl,_,h'⟩:=h;intro b hb;simp only[ar0] at hb;rcases hb with (hb|hb)|hb
  ·exact h1.tags ht.1 b hb
  ·exact h'.tags ht.2 b (.inl hb)
  ·exact h'.tags ht.2 b (.inr hb)
 | (.ptr,t)::ps,v,_,_,_,_,_,_,h,ht=>by
  simp only[LS,aqF,arc] at ht;obtain⟨c,vs,arr,T,fr,fp,rp',xp',_,_,_,h1,rfl,_,h'⟩:=h;intro b hb;simp only[ar0] at hb;rcases hb with hb|(hb|hb)|hb
  ·exact h'.tags ht.2 b (.inl hb)
  ·exact h1.tags ht.1 b hb
  ·exact h'.tags ht.2 b (.inr (.inl hb))
  ·exact h'.tags ht.2 b (.inr (.inr hb))
theorem af7 [Tags] {F:jv} {gl:Glob} (hE:Zx P gl F.E) {f:FuncId} {fn:Func} (hf:P.funcs[f]?=some fn) (hn:(fn.name == "runtime.NumGoroutine")=false) {pf:PF}
  (hev:∀ args outs,pf.fn args=some outs->fM F fn pf.params pf.rets pf.rk args=some outs)
  (hTw:F.E.thaws=[]∨(LS Tags.post pf.params=true/\∀ x∈F.E.thaws,x.2=Tags.post):=by exact .inl rfl):Sound P gl f pf:=by
 constructor;intro w args vals r rp rc xo xp outs hA hnd ai0 hG hgb hout;have hout:=hev _ _ hout;unfold fM at hout;split at hout
 ·next body avs es j ait aiB=>
  have hcf:(callFunc f vals.toArray).run P w=.ok (.enter f vals.toArray) w:=by
   have hn':¬ fn.name = "runtime.NumGoroutine" := by simpa using hn
   simp[callFunc,hf,hn',ait]
  unfold CallsTo;rw[hcf];simp only;refine calls_of_wp hf ait ?_
  let γ0:Nat->Own:=λ b=>open Classical in if b∈r∨b∈rp∨b∈rc then .persist else .alien
  obtain⟨loc,γ,hEn⟩:=L7 pf.params args 0 vals r rp rc xo xp avs es j (λ _=>undef) γ0 hA aiB hnd ai0 (λ b hb=>by simp only[γ0,if_pos hb]) (λ b hb=>by
   have:=ai0 b (by rcases hb with h|h<;>simp[h])
   simp only[γ0,this.1,this.2.1,this.2.2,or_self,if_false])
  let A:Ctx:={ rds:=r++rp++rc,pins:=Z7 w pf.params args 0 xp,gl:=gl,tg:=LS Tags.post pf.params }
  have ahB:Rel w.heap.size (xo++xp) A w { slots:=avs++List.replicate (fn.ntmps - avs.length) (.tup []),tab:=es,nxt:=j,lvl:=0 }
    { tmps:=vals.toArray++Array.replicate (fn.ntmps - vals.toArray.size) undef,defers:=[]} w:=by
   refine⟨γ,loc,?_⟩;exact {
    defers:=rfl
    keeps:=KeepsW.refl _ _ _
    unf:=λ b hb=>by
     by_cases h1:b∈xo++xp
     ·exact hA.unfr b h1
     ·simp only[ar0,not_or] at h1;rw[hEn.own b h1.1 h1.2] at hb;by_cases hm:b∈r∨b∈rp∨b∈rc
      ·simp[γ0,if_pos hm,owned] at hb
      ·simp[γ0,if_neg hm,owned] at hb
    old:=λ b hb hx=>by
     simp only[ar0,not_or] at hx;rw[hEn.own b hx.1 hx.2];by_cases hm:b∈r∨b∈rp∨b∈rc
     ·right;simp only[γ0,if_pos hm,A,ar0,true_and];rcases hm with h|h|h<;>simp[h]
     ·left; simp only[γ0,if_neg hm]
    Ble:=Nat.le_refl _
    size:=by have:=hEn.vals.len; simp[this]
    slots:=λ t v hv=>(qL hEn.vals hEn.lts t v hv).1
    ents:=λ id e he=>(hEn.ents id e he).1
    slt:=λ t v hv=>(qL hEn.vals hEn.lts t v hv).2
    elt:=λ id e he=>⟨(hEn.ents id e he).2.2.2,(hEn.ents id e he).2.2.1⟩
    pins:=hEn.pins
    dlab:=by simp[A]
    glob:=⟨hG,hgb,Nat.le_refl _,hA.unfr⟩
    rtag:=λ h b hb=>hA.tags h b (by simpa[A,or_assoc] using hb)
    dpc:=by simp[A]}
  refine LH hE ⟨rfl,rfl⟩ hTw body _ _ _ w _ hout ahB ?_;intro x st' hk hp a' w' hr';have aiP:qS F fn pf.params pf.rets pf.rk args st'=some outs->a'.defers=[]/\∃ v,(results fn a'.tmps).run P w'=.ok v w'/\(KeepsW w.heap.size (xo++xp) w w'/\∃ pt,OutOk w w' w.heap.size pf.rk (r++rp++rc) xo pt pf.rets v pf.params outs xp):=by
   intro hk;obtain⟨γ',loc',hr'⟩:=hr';unfold qS at hk;split at hk
   ·next rs ls ajd=>
    split at hk
    ·next hok=>
     refine⟨hr'.defers,?_⟩;have al7:∀ b∈xp,∃ i,γ' b=.top i/\∃ lvl cells,look st'.tab i=some (.box lvl cells):=by
      intro b hb;obtain⟨i,h1,lvl,cells,h2⟩:=QO pf.params args 0 xp outs vals r rp rc xo w hk hA b hb;obtain⟨b',arr,T,fr,g1,g2,g3,g4,g5⟩:=hr'.ents i _ h2;have:=(hr'.pins _ h1).2;simp only at this;rw[this] at g1;simp only[Value.pointer.injEq,aqK,Addr.mk.injEq,and_true] at g1;subst g1;exact⟨i,g4,lvl,cells,h2⟩
     have ajp:∀ b,γ' b ≠ .alien->(∀ i,γ' b=.top i->M2 st' i)->From w.heap.size (r++rp++rc) xo b:=by
      intro b hb ha;by_cases hlt:b<w.heap.size
      ·by_cases hx:b∈xo++xp
       ·rcases List.mem_append.1 hx with hx|hx
        ·exact .inr (.inr hx)
        ·obtain⟨i,e,lvl,cells,hl⟩:=al7 b hx;obtain⟨k,lvl',E',e',xs,hl'⟩:=ha i e;rw[hl] at hl'; cases hl'
       ·rcases hr'.old b hlt hx with h|⟨_,h⟩
        ·exact absurd h hb
        ·exact .inr (.inl h)
      ·exact .inl (by omega)
     have ajT:∀ b,((∃ i,γ' b=.top i/\M2 st' i)∨∃ i,γ' b=.deep i)->w.heap.size<=b∨b∈xo:=by
      intro b hb;by_cases hlt:b<w.heap.size
      ·by_cases hx:b∈xo++xp
       ·rcases List.mem_append.1 hx with hx|hx
        ·exact .inr hx
        ·obtain⟨i,e,lvl,cells,hl⟩:=al7 b hx;rcases hb with⟨i',e',k,lvl',E',e'',xs,hl'⟩|⟨i',e'⟩
         ·rw[e] at e'; cases e'; rw[hl] at hl'; cases hl'
         ·rw[e] at e'; cases e'
       ·exfalso;rcases hr'.old b hlt hx with h|⟨h,_⟩<;>rcases hb with⟨i',e',_⟩|⟨i',e'⟩<;>rw[h] at e'<;>cases e'
      ·exact .inl (by omega)
     let pt:List Nat:=[]
     have ame:∀ b,γ' b ≠ .persist->b∉pt:=λ b hb=>by simp[pt]
     have ah5:∀ {ids:List Nat},yw st' ls=some ids->∀ i∈ids,M2 st' i:=λ hg i hi=>by
      obtain⟨u,lvl,E',e,xs,hl,_⟩:=Jw hg i hi;exact⟨_,lvl,E',e,xs,hl⟩
     have ahO:∃ v,(results fn a'.tmps).run P w'=.ok v w'/\K3 w' w.heap.size pf.rk (r++rp++rc) xo pt pf.rets v rs:=by
      cases hrk:pf.rk with
      | shared=>
       obtain⟨css,fs,k1,k2,k3⟩:=ui hE.tys hr' _ _ _ _ ajd;exact⟨_,dx k2,css,[],fs,k1,rfl,(λ b hb=>ajp b (k3 b hb).1 (k3 b hb).2),λ h=>by cases h⟩
      | uniq=>
       rw[hrk] at hok;simp only[QT] at hok;obtain⟨ids,aju⟩:=Option.isSome_iff_exists.1 hok;obtain⟨g1,g2⟩:=Jx aju;obtain⟨css,xb,fs,k1,k2,k3,k4,k5,k6⟩:=du hE.tys hr' .uniq (by simp) _ _ _ _ _ ajd g1;obtain⟨n1,n2⟩:=k6 g2;refine⟨_,dx k2,css,xb,fs,k1,rfl,⟨Z3 k3 n1 ?_,?_⟩,λ _ b hb=>by obtain⟨i,_,e⟩:=n2 b hb; exact hr'.unf b (by rw[e]; trivial)⟩
       ·intro b hb hb';obtain⟨i,_,e⟩:=k4 b hb;obtain⟨i',_,e'⟩:=n2 b hb';rw[e] at e'; cases e'
       ·intro b hb;rcases List.mem_append.1 hb with hb|hb
        ·obtain⟨i,hi,e⟩:=k4 b hb;exact⟨ajT b (.inl ⟨i,e,ah5 g1 i hi⟩),ame b (by simp[e])⟩
        ·obtain⟨i,hi,e⟩:=n2 b hb;exact⟨ajT b (.inr ⟨i,e⟩),ame b (by simp[e])⟩
      | own=>
       rw[hrk] at hok;simp only[QT] at hok;obtain⟨ids,g1⟩:=Option.isSome_iff_exists.1 hok;obtain⟨css,xb,fs,k1,k2,k3,k4,k5,k6⟩:=du hE.tys hr' .own (by simp) _ _ _ _ _ ajd g1;refine⟨_,dx k2,css,xb,fs,k1,rfl,⟨k3,?_,?_,?_⟩,λ h=>by cases h⟩
       ·intro b hb;obtain⟨i,hi,e⟩:=k4 b hb;exact⟨ajT b (.inl ⟨i,e,ah5 g1 i hi⟩),ame b (by simp[e])⟩
       ·intro b hb hb';obtain⟨i,_,e⟩:=k4 b hb;rcases k5 b hb' with e'|⟨i',_,e'⟩<;>rw[e] at e'<;>cases e'
       ·intro b hb;rcases k5 b hb with e|⟨i,_,e⟩
        ·exact ajp b (by simp[e]) (by simp[e])
        ·exact ajp b (by simp[e]) (by simp[e])
     obtain⟨v,hv1,hv2⟩:=ahO;exact⟨v,hv1,hr'.keeps,pt,bi hr' hv2 pf.params args 0 xp outs vals r rp rc xo hk hA (λ p hp'=>(hr'.pins p hp').2)⟩
    ·cases hk
   ·cases hk
  cases x with
  | exit id=>cases hk
  | normal=>exact aiP hk
  | ret=>exact aiP hk
 ·cases hout
def fT (fn:Func) (ret:Ty) (st:St):Option (den ret):=match fn.results.toList with
 | [.tmp s]=>match st.slots[s]? with
  | some (.v (.one (.ptr id 0)))=>match look st.tab id with
   | some (.box _ cells)=>match yF st cells with
    | true=>jJ st.tab ret cells
    | false=>none
   | _=>none
  | _=>none
 | _=>none
noncomputable def pm (F:jv) (fn:Func) (ps:List (PK×Ty)) (ret:Ty) (args:yc ps):Option (den ret):=
 match fn.body,jo ps args 0 with
 | some body,some (avs,es,j)=>
  jT F body { slots:=avs++List.replicate (fn.ntmps - avs.length) (.tup []),tab:=es,nxt:=j,lvl:=0 } λ x st=>
   match x with
   | .exit _=>none
   | .normal=>fT fn ret st
   | .ret=>fT fn ret st
 | _,_=>none
theorem af8 [Tags] {F:jv} {gl:Glob} (hE:Zx P gl F.E) {f:FuncId} {fn:Func} (hf:P.funcs[f]?=some fn) (hn:(fn.name == "runtime.NumGoroutine")=false) {nf:NF}
  (hev:∀ args v,nf.fn args=some v->pm F fn nf.params nf.ret args=some v) (hTw:F.E.thaws=[]:=by rfl):LZ P gl f nf:=by
 constructor;intro w args vals r out hA hG hgb hout;have hout:=hev _ _ hout;unfold pm at hout;split at hout
 ·next body avs es j ait aiB=>
  have hcf:(callFunc f vals.toArray).run P w=.ok (.enter f vals.toArray) w:=by
   have hn':¬ fn.name = "runtime.NumGoroutine" := by simpa using hn
   simp[callFunc,hf,hn',ait]
  unfold CallsTo;rw[hcf];simp only;refine calls_of_wp hf ait ?_
  let γ0:Nat->Own:=λ b=>open Classical in if b∈r then .persist else .alien
  obtain⟨loc,γ,hEn⟩:=L7 nf.params args 0 vals r [] [] [] [] avs es j (λ _=>undef) γ0 hA aiB (by simp) (by simp) (λ b hb=>by
   rcases hb with hb|hb|hb
   ·simp only[γ0,if_pos hb]
   ·simp at hb
   ·simp at hb) (λ b hb=>by rcases hb with h|h<;>simp at h)
  let A:Ctx:={ rds:=r,pins:=Z7 w nf.params args 0 [],gl:=gl }
  have ahB:Rel w.heap.size [] A w { slots:=avs++List.replicate (fn.ntmps - avs.length) (.tup []),tab:=es,nxt:=j,lvl:=0 }
    { tmps:=vals.toArray++Array.replicate (fn.ntmps - vals.toArray.size) undef,defers:=[]} w:=by
   refine⟨γ,loc,?_⟩;exact {
    defers:=rfl
    keeps:=KeepsW.refl _ _ _
    unf:=λ b hb=>by
     rw[hEn.own b (by simp) (by simp)] at hb;by_cases hm:b∈r
     ·simp[γ0,if_pos hm,owned] at hb
     ·simp[γ0,if_neg hm,owned] at hb
    old:=λ b hb hx=>by
     rw[hEn.own b (by simp) (by simp)];by_cases hm:b∈r
     ·right; simp only[γ0,if_pos hm,A,true_and]; exact hm
     ·left; simp only[γ0,if_neg hm]
    Ble:=Nat.le_refl _
    size:=by have:=hEn.vals.len; simp[this]
    slots:=λ t v hv=>(qL hEn.vals hEn.lts t v hv).1
    ents:=λ id e he=>(hEn.ents id e he).1
    slt:=λ t v hv=>(qL hEn.vals hEn.lts t v hv).2
    elt:=λ id e he=>⟨(hEn.ents id e he).2.2.2,(hEn.ents id e he).2.2.1⟩
    pins:=hEn.pins
    dlab:=by simp[A]
    glob:=⟨hG,λ b hb=>⟨hgb b hb,by simp⟩,Nat.le_refl _,by simp⟩
    rtag:=by intro h; cases h
    dpc:=by simp[A]}
  refine LH hE ⟨rfl,rfl⟩ (.inl hTw) body _ _ _ w _ hout ahB ?_;intro x st' hk hp a' w' hr';have aiP:fT fn nf.ret st'=some out->a'.defers=[]/\∃ u,(results fn a'.tmps).run P w'=.ok u w'/\(KeepsW w.heap.size [] w w'/\∃ b arr T fr fs,u=.pointer (some ⟨b,0,none⟩)/\w.heap.size<=b/\
    w'.heap[b]?=some (.cells arr T fr)/\frees fr arr.size/\Rd w' nf.ret out arr.toList fs/\∀ c∈fs,c≠b/\(w.heap.size<=c∨c∈r)):=by
   intro hk;obtain⟨γ',loc',hr'⟩:=hr';refine⟨hr'.defers,?_⟩;unfold fT at hk;split at hk
   ·next s ajd=>
    split at hk
    ·next id hs=>
     split at hk
     ·next lvl cells hl=>
      split at hk
      ·next hst=>
       obtain⟨b0,hb0,hv0⟩:=hr'.slots s _ hs;obtain⟨b,arr,T,fr,h1,h2,h3,h4,h5⟩:=hr'.ents id _ hl;rw[h1] at hb0;simp only[Value.pointer.injEq,aqK,Addr.mk.injEq,and_true] at hb0;subst hb0;obtain⟨fp,q1,q2,q3⟩:=Js hr' hk h5;have hrr:(results fn a'.tmps).run P w'=.ok (YP [a'.tmps.getD s undef]) w':=by
        refine dx ?_;rw[ajd];exact⟨by simp[JN],trivial⟩
       refine⟨_,hrr,hr'.keeps,b,arr,T,fr,fp,hv0,?_,h2,h3,q1,?_⟩
       ·rcases Nat.lt_or_ge b w.heap.size with hlt|hge
        ·rcases hr'.old b hlt (by simp) with h|⟨h,_⟩<;>rw[h4] at h<;>cases h
        ·exact hge
       ·intro c hc;have ajw:=q3 hst c hc;refine⟨λ e=>(by rw[e,h4] at ajw; cases ajw),?_⟩
        rcases Nat.lt_or_ge c w.heap.size with hlt|hge
        ·right;rcases hr'.old c hlt (by simp) with h|⟨_,h⟩
         ·rw[ajw] at h; cases h
         ·exact h
        ·exact .inl hge
      ·cases hk
     ·cases hk
    ·cases hk
   ·cases hk
  cases x with
  | exit id=>cases hk
  | normal=>exact aiP hk
  | ret=>exact aiP hk
 ·cases hout
end Ev
