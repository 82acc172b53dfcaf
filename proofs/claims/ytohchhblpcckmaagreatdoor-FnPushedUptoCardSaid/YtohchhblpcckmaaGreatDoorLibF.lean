/- The evaluator of the own library, part 6: its words, its soundness. Conditions: none of its own. -/
import Derived.Test.YtohchhblpcckmaaGreatDoorLibE
import Derived.Orders
set_option linter.unusedSimpArgs false
set_option linter.unusedVariables false
namespace Ev
open Go
variable {P:Program} {a:Act} {w:World} {next:Act->World->Prop} {Q:Exit->Act->World->Prop}
variable {B:Nat} {X:List Nat} {A:Ctx} {w0:World} {γ:Nat->Own} {loc:Nat->Value}
variable {E:Env} {ops:List Oper} {all:List (List Nat)} {st:St} {ts:List Stp} {gf:St} {gs:Nat->St} {anc:Nat->List Nat} {S:Nat->Prop} {i:Nat}
theorem Rel0.same [Tags] {s1 s2:St} (h:Rel0 B X A w0 γ loc s1 a w) (hA:A.dl=[]/\A.dps=[]) (h1:s2.slots.length=s1.slots.length) (hs:∀ (t:Nat) (v:AV),s2.slots[t]?=some v->s1.slots[t]?=some v)
  (ht:∀ (id:Nat) (e:Ent),look s2.tab id=some e->look s1.tab id=some e) (hn:s1.nxt<=s2.nxt):Rel0 B X A w0 γ loc s2 a w where
 defers:=h.defers
 keeps:=h.keeps
 unf:=h.unf
 old:=h.old
 Ble:=h.Ble
 size:=h1.trans h.size
 slots:=λ t v hv=>h.slots t v (hs t v hv)
 ents:=λ id e he=>h.ents id e (ht id e he)
 slt:=λ t v hv=>AV.lt_mono hn (h.slt t v (hs t v hv))
 elt:=λ id e he=>⟨Ent.lt_mono hn (h.elt id e (ht id e he)).1,Nat.lt_of_lt_of_le (h.elt id e (ht id e he)).2 hn⟩
 pins:=λ p hp=>⟨Nat.lt_of_lt_of_le (h.pins p hp).1 hn,(h.pins p hp).2⟩
 dlab:=λ p hp=>by rw[hA.1] at hp; simp at hp
 glob:=h.glob
 rtag:=h.rtag
 dpc:=h.dpc
theorem Lj {N:Nat} (t:Nat):(sS ops ts st N S).slots[t]?=if t<st.slots.length then some ((yt ops ts S st ops.length t).getD .top) else none:=by
 simp only[sS,ajY];split
 ·next h=>rw[akv h]; rfl
 ·next h=>rw[aiX (by simpa using Nat.le_of_not_lt h)]; rfl
theorem Mf {N:Nat}:(sS ops ts st N S).slots.length=st.slots.length:=by simp[sS]
theorem Li [Tags] {N:Nat} (id:Nat):look (sS ops ts st N S).tab id=if id<N then yv ts S st ops.length id else none:=RB N _ id
structure DrawAt (E:Env) (ops:List Oper) (all:List (List Nat)) (st:St) (ts:List Stp) (gf:St) (gs:Nat->St) (anc:Nat->List Nat):Prop where
 T:TraceI E ops all st ts gf gs anc
 N:(ops.filterMap (·.dst)).Nodup
 edges:MY ops 0=true
 hall:all=KK ops []
 slt:∀ (t:Nat) (v:AV),st.slots[t]?=some v->v.lt st.nxt
 elt:∀ (id:Nat) (e:Ent),look st.tab id=some e->e.lt st.nxt/\id<st.nxt
theorem DrawAt.hpn [Tags] (C:DrawAt E ops all st ts gf gs anc) {i:Nat} {s:Stp} (hs:ts[i]?=some s) (XY:s.run=true):∀ (id:Nat) (e:Ent),look s.p'.tab id=some e->id<s.p'.nxt:=by
 have hlt:i<ops.length:=by
  rw[←C.T.len];rcases Nat.lt_or_ge i ts.length with h|h
  ·exact h
  ·rw[aiX h] at hs; cases hs
 obtain⟨o,s',ho,hs',X2⟩:=C.T.get hlt;rw[hs] at hs';cases hs';exact λ id e he=>((QA (X2.run XY).out).2.2 id e he).1
theorem DrawAt.tabs [Tags] (C:DrawAt E ops all st ts gf gs anc) {i:Nat} (hi:i<=ops.length):(∀ id,look (gs i).tab id=yv ts (λ _=>True) st i id)/\∀ (id:Nat) (e:Ent),look (gs i).tab id=some e->id<(gs i).nxt:=
 sN C.T (λ id e he=>(C.elt id e he).2) (λ i s hs XY=>C.hpn hs XY) i hi
theorem TraceI.lt_of (hT:TraceI E ops all st ts gf gs anc) {i:Nat} {s:Stp} (hs:ts[i]?=some s):i<ops.length:=by
 rw[←hT.len];rcases Nat.lt_or_ge i ts.length with h|h
 ·exact h
 ·rw[aiX h] at hs; cases hs
def Met (S:Nat->Prop) (st:St) (ts:List Stp) (id:Nat):Prop:=id<st.nxt∨∃ (j:Nat) (s:Stp),S j/\ts[j]?=some s/\(id∈s.rc.reach∨(s.rc.lo<=id/\id<s.rc.hi))
theorem dy [Tags] (hT:TraceI E ops all st ts gf gs anc) (hD:∀ j,S j->∀ k∈anc j,S k) (hi:¬ S i) {si:Stp} (hsi:ts[i]?=some si) {id:Nat} (h:Met S st ts id):id<si.rc.lo∨si.rc.hi<=id:=by
 obtain⟨a1,a2,a3,a4,a5⟩:=hT.nums hsi;have hin:=hT.lt_of hsi;rcases h with h|⟨j,s,hj,hs,h⟩
 ·left;have:=hT.mono (i:=0) (j:=i) (by omega) (by omega);rw[hT.first] at this;omega
 ·obtain⟨b1,b2,b3,b4,b5⟩:=hT.nums hs;have hjn:=hT.lt_of hs;rcases Nat.lt_trichotomy j i with hlt|rfl|hlt
  ·left;have:=hT.mono (i:=j+1) (j:=i) hlt (by omega);rcases h with h|h
   ·have:=b4 id h; omega
   ·omega
  ·exact absurd hj hi
  ·have hna:i∉anc j:=λ h=>hi (hD j hj i h);obtain⟨c1,c2,c3⟩:=hT.apart hsi hs hlt hna;rcases h with h|h
   ·exact c3 id h
   ·right;have:=hT.mono (i:=i+1) (j:=j) hlt (by omega);omega
theorem Bi [Tags] (C:DrawAt E ops all st ts gf gs anc) {t:Nat}:∀ m,m<=ops.length->∀ v,yt ops ts S st m t=some v->∀ id∈v.ids,Met S st ts id
 | 0,_,v,h,id,XV=>.inl (AV.ids_lt (C.slt t v h) id XV)
 | m+1,hm,v,h,id,XV=>by
  obtain⟨o,s,ho,hs,X2⟩:=C.T.get (show m<ops.length by omega);simp only[yt,ho,hs] at h;split at h
  ·next hc=>
   split at h
   ·next XY=>
    have hr:=X2.run XY;obtain⟨q1,q2,q3⟩:=QA hr.out;obtain⟨v',hv',XX⟩:=q2 t hc.2.1;rw[h] at hv';cases hv';refine .inr ⟨m,s,hc.1,hs,?_⟩;rcases XX id XV with h'|h'
    ·exact .inl h'
    ·right; rw[hr.rc]; exact h'
   ·cases h; simp[AV.ids,Y0] at XV
  ·exact Bi C m (by omega) v h id XV
theorem rU [Tags] (C:DrawAt E ops all st ts gf gs anc) {id:Nat}:∀ m,m<=ops.length->∀ e,yv ts S st m id=some e->Met S st ts id/\∀ x∈e.ids,Met S st ts x
 | 0,_,e,h=>⟨.inl (C.elt id e h).2,λ x hx=>.inl (Ent.ids_lt (C.elt id e h).1 x hx)⟩
 | m+1,hm,e,h=>by
  obtain⟨o,s,ho,hs,X2⟩:=C.T.get (show m<ops.length by omega);obtain⟨b1,b2,b3,b4,b5⟩:=C.T.nums hs;simp only[yv,hs] at h;split at h
  ·next hc=>
   cases XY:s.run with
   | false=>
    have hsk:=X2.skip XY;have ht:=hc.2;simp only[Stp.touch,hsk.rc] at ht;rcases ht with ht|ht
    ·simp at ht
    ·omega
   | true=>
    have hr:=X2.run XY;obtain⟨q1,q2,q3⟩:=QA hr.out;have ht:id∈s.rc.wr∨(s.rc.lo<=id/\id<s.rc.hi):=hc.2;refine⟨.inr ⟨m,s,hc.1,hs,ht.imp (b5 id) (λ h=>h)⟩,λ x hx=>.inr ⟨m,s,hc.1,hs,?_⟩⟩;have hlo:s.rc.lo=(gs m).nxt:=by rw[hr.rc]
    have:=(q3 id e h).2 (by
                 rcases ht with ht|ht; · exact .inr ht
                 ·exact .inl (by rw[←hlo]; exact ht.1)) x hx
    rcases this with h'|h'
    ·exact .inl h'
    ·right; rw[hr.rc]; exact h'
  ·exact rU C m (by omega) e h
theorem Bg [Tags] (C:DrawAt E ops all st ts gf gs anc) {t:Nat} (ht:t<st.slots.length):∀ m,m<=ops.length->∃ v,yt ops ts S st m t=some v
 | 0,_=>⟨st.slots[t],List.getElem?_eq_getElem ht⟩
 | m+1,hm=>by
  obtain⟨o,s,ho,hs,X2⟩:=C.T.get (show m<ops.length by omega);simp only[yt,ho,hs];split
  ·next hc=>
   split
   ·next XY=>
    obtain⟨v',hv',XX⟩:=(QA (X2.run XY).out).2.1 t hc.2.1;exact⟨v',hv'⟩
   ·exact⟨_,rfl⟩
  ·exact Bg C ht m (by omega)
theorem oZ [Tags] (C:DrawAt E ops all st ts gf gs anc) (hAi:∀ k∈anc i,S k) (hi:¬ S i) (hNd:∀ j,S j->i∉anc j) (hin:i<ops.length) {N t:Nat} {v:AV} (ac6:∀ (k:Nat) (o:Oper),ops[k]?=some o->o.dst=some t->k∈anc i∨i∈anc k)
  (hv:(gs i).slots[t]?=some v):(sS ops ts st N S).slots[t]?=some v:=by
 obtain⟨g1,g2,g3⟩:=Nb C.T i (by omega);have hlt:t<st.slots.length:=by
  rw[←g2];rcases Nat.lt_or_ge t (gs i).slots.length with h|h
  ·exact h
  ·rw[aiX h] at hv; cases hv
 rw[Lj,if_pos hlt,(Bf C.T hAi hi (C.T.anc_lt i hin) (λ k hk=>C.T.anc_lt k hk) hNd ac6 ops.length (ajj _)).2 (by omega),←g1 t,hv];rfl
theorem I0 [Tags] (hE:jR P A.gl E) (hA:A.dl=[]/\A.dps=[]) (C:DrawAt E ops all st ts gf gs anc) {opsA:Array Oper} (abk:opsA.toList=ops) {o:Oper} {si:Stp} (ho:ops[i]?=some o) (hsi:ts[i]?=some si)
  (hD:∀ j,S j->∀ k∈anc j,S k) (hAi:∀ k∈anc i,S k) (hi:¬ S i) (aex:∀ q∈A.pins,q.1<st.nxt) (hr:Rel0 B X A w0 γ loc (sS ops ts st gf.nxt S) a w)
  (hn:(si.run=true->Pres o.dst.toList si.p si.p')->∀ a' w',Rel B X A w0 (sS ops ts st gf.nxt (λ j=>S j∨j=i)) a' w'->next a' w'):
  if Region.wanted o (yielded opsA a.tmps) then o.wp P a w next Q else next (a.put o.dst undef) w:=by
 classical
 have hin:=C.T.lt_of hsi;obtain⟨o',s',ho',hs',X2⟩:=C.T.get hin;rw[ho] at ho'; rw[hsi] at hs'
 cases ho'; cases hs'
 obtain⟨a1,a2,a3,a4,a5⟩:=C.T.nums hsi;obtain⟨cf1,cf2⟩:=C.T.cfs hsi;obtain⟨g1,g2,g3⟩:=Nb C.T i (by omega);obtain⟨t1,t2⟩:=C.tabs (i:=i) (by omega);have hNd:∀ j,S j->i∉anc j:=λ j hj h=>hi (hD j hj i h);have afs:=λ id=>rS C.T hNd hi hsi id ops.length (Nat.le_refl _);have hsl:=λ t=>Bd C.T C.N hi ho hsi t ops.length (Nat.le_refl _);have acn:(gs (i+1)).nxt<=gf.nxt:=by rw[←C.T.last]; exact C.T.mono (by omega) (Nat.le_refl _)
-- the guard
 have hw:Region.wanted o (yielded opsA a.tmps)=si.run:=by
  have hg:=X2.guard;unfold Region.wanted;split at hg
  ·next h=>rw[h,hg]
  ·next j want h=>
   rw[h];simp only;obtain⟨hj,d,hd,hg⟩:=hg;have ac6:∀ (k:Nat) (o:Oper),ops[k]?=some o->o.dst=some d->k∈anc i∨i∈anc k:=by
    intro k ok hk hkd;left;obtain⟨oj,hoj,hdj⟩:=Option.bind_eq_some_iff.1 hd;rw[my C.N hk hoj hkd hdj];exact hj
   have hd':(opsA.toList[j]?).bind (·.dst)=some d:=by rw[abk]; exact hd
   have aai:Rel B X A w0 (sS ops ts st gf.nxt S) a w:=⟨γ,loc,hr⟩
   rcases hg with⟨x,hx,XY⟩|⟨hx,XY⟩
   ·have hx':=oZ (S:=S) (N:=gf.nxt) C hAi hi hNd hin ac6 hx;rw[Cx hd' (fk aai hx') (Bk aai hx'),XY];cases x<;>cases want<;>rfl
   ·have hx':=oZ (S:=S) (N:=gf.nxt) C hAi hi hNd hin ac6 hx;rw[Cy hd' (fk aai hx') (Bj aai hx'),XY];rfl
 rw[hw];cases XY:si.run with
 | false=>
  simp only[aiT,if_false];have hsk:=X2.skip XY;refine hn (λ h=>by rw[XY] at h; cases h) _ _ ?_
  obtain⟨γ',loc',hr'⟩:=(show Rel B X A w0 (sS ops ts st gf.nxt S) a w from⟨γ,loc,hr⟩).putUndef (dst:=o.dst);refine⟨γ',loc',hr'.same hA ?_ ?_ ?_ (by cases o.dst<;>exact Nat.le_refl _)⟩
  ·cases o.dst<;>simp[St.put,Mf]
  ·intro t v hv;rw[Lj,hsl t] at hv;split at hv
   ·next hlt=>
    split at hv
    ·next hc=>
     simp only[Stp.out,XY] at hv;simp at hv;subst hv;rw[hc.2.1];simp only[St.put];rw[List.getElem?_set_self (by rw[Mf]; exact hlt)]
    ·next hc=>
     have hne:o.dst≠some t:=λ h=>hc ⟨hin,h,hlt⟩;have:(sS ops ts st gf.nxt S).slots[t]?=some v:=by rw[Lj,if_pos hlt]; exact hv
     cases hod:o.dst with
     | none=>simpa[St.put] using this
     | some d=>
      simp only[St.put];rw[List.getElem?_set_ne (λ h=>hne (by rw[hod,h]))];exact this
   ·cases hv
  ·intro id e he;have e1:(St.put (sS ops ts st gf.nxt S) o.dst (.tup [])).tab=(sS ops ts st gf.nxt S).tab:=by cases o.dst<;>rfl
   rw[e1,Li];rw[Li,afs id] at he;have hnt:¬ si.touch id:=λ ht=>by
    simp only[Stp.touch,hsk.rc] at ht;rcases ht with h|⟨h1,h2⟩
    ·simp at h
    ·omega
   rw[if_neg (λ h:i<ops.length/\si.touch id=>hnt h.2)] at he;exact he
 | true=>
  simp only[if_true];have hR:=X2.run XY;obtain⟨q1,q2,q3⟩:=QA hR.out;obtain⟨n1,n2⟩:=Vk hR.seen;have hrc:=hR.rc;have hlo:si.rc.lo=(gs i).nxt:=by rw[hrc]
  have hhi:si.rc.hi=si.p'.nxt:=by rw[hrc]
  have hp:=hR.p;have afG:si.p.slots=Ka o.op (ZR (gs i).slots (ZO all ((ts.take i).map (·.rc)).length (anc i) ops 0) o.op.operands.toList):=by rw[hp]; rfl
  obtain⟨pl1,pl2⟩:=xi (gs i).slots (ZO all ((ts.take i).map (·.rc)).length (anc i) ops 0) o.op.operands.toList;have afH:∀ id,look si.p.tab id=if id∈si.rc.cf then (look (gs i).tab id).map (λ e=>match si.rc.wr.elem id with|true=>e|false=>jA (gs i).lvl ((gs i).lvl+1) e) else none:=by
   intro id;have e1:si.p.tab=Kh (gs i) si.rc.wr si.rc.cf:=by rw[hp,hrc]; rfl
   rw[e1];exact mj (gs i) si.rc.wr id si.rc.cf
  have agp:∀ id∈si.rc.cf,look (sS ops ts st gf.nxt S).tab id=look (gs i).tab id:=by
   intro id XV;have agM:id<gf.nxt:=by have:=(n1 id (cf1 id XV)).1; have:=C.T.mono (i:=i) (j:=i+1) (by omega) (by omega); omega
   rw[Li,if_pos agM,(rT C.T hAi hNd hi hsi XV ops.length (ajj _)).2 (by omega),t1 id]
  refine Ox (C:=si.rc.wr) (lo:=si.rc.lo) (hi:=si.rc.hi) (s':=sS ops ts st gf.nxt (λ j=>S j∨j=i)) hE hr hA ?_ ?_ hhi.symm ?_ ?_ ?_ ?_ ?_ ?_ ?_ ?_ hR.op rfl rfl (by rw[Mf,Mf]) ?_ ?_ (λ aaL=>hn (λ _=>aaL))
  ·rw[hp]; exact g3
  ·rw[hp,hlo]; rfl
  ·rw[a2]; exact acn
  ·rw[afG,RT,pl1,g2,Mf]
  ·intro t v hv;rw[afG] at hv;have ac0:Operand.tmp t∈o.op.operands.toList->v.lt si.rc.lo:=by
    intro h3;refine AV.lt_of_ids λ x hx=>a4 x ?_;rw[hrc];have hx':=sQ (st:={ (gs i) with slots:=Ka o.op (ZR (gs i).slots (ZO all ((ts.take i).map (·.rc)).length (anc i) ops 0) o.op.operands.toList)}) (t:=t) (v:=v) hv h3 x hx;simp only[Mg];exact List.mem_append_left _ hx'
   have acO:∀ {v0:AV},(gs i).slots[t]?=some v0->t∉ZO all ((ts.take i).map (·.rc)).length (anc i) ops 0->(sS ops ts st gf.nxt S).slots[t]?=some v0:=by
    intro v0 h1 h2;exact oZ C hAi hi hNd hin (λ k ok hk hkd=>by
     have X0:((ts.take i).map (·.rc)).length=i:=by simp; have:=C.T.len; omega
     rw[X0] at h2;rcases sO h2 k ok hk hkd with h|h
     ·left; simpa using h
     ·right; exact C.T.waits C.hall (by simpa using h)) h1
   rcases RU hv with hv'|⟨xs,j,hv',rfl⟩
   ·rcases pl2 t v hv' with h|⟨h1,h2,h3⟩
    ·exact .inl h
    ·exact .inr ⟨⟨v,acO h1 h2,λ _ _ h=>h⟩,ac0 h3⟩
   ·rcases pl2 t _ hv' with h|⟨h1,h2,h3⟩
    ·cases h
    ·exact .inr ⟨⟨_,acO h1 h2,λ loc x h=>by obtain⟨vs,e1,e2⟩:=h; exact⟨vs,e1,uw j e2⟩⟩,ac0 h3⟩
  ·intro id e he;rw[afH id] at he;split at he
   ·next XV=>
    obtain⟨e0,he0,hee⟩:=Option.map_eq_some_iff.1 he;obtain⟨m1,m2⟩:=n1 id (cf1 id XV);obtain⟨m3,m4⟩:=m2 e0 he0;have afm:e0.lt si.rc.lo:=Ent.lt_of_ids λ x hx=>a4 x (m4 x hx);have hs0:look (sS ops ts st gf.nxt S).tab id=some e0:=by rw[agp id XV]; exact he0
    by_cases hw:id∈si.rc.wr
    ·rw[ajH hw] at hee;simp only at hee;subst hee;exact⟨a4 id (cf1 id XV),afm,.inl ⟨hw,hs0⟩⟩
    ·have:si.rc.wr.elem id=false:=by
      cases h:si.rc.wr.elem id with
      | false=>rfl
      | true=>exact absurd (List.mem_of_elem_eq_true h) hw
     rw[this] at hee;simp only at hee;subst hee;refine⟨a4 id (cf1 id XV),uf afm,.inr ⟨hw,e0,hs0,?_,?_⟩⟩
     ·rw[g3] at m3; exact m3
     ·rw[g3]; rfl
   ·cases he
  ·intro id XV;obtain⟨m1,e,m2⟩:=n2 id XV;exact⟨e,by rw[afH id,if_pos (cf2 id XV),m2,ajH XV]; rfl⟩
  ·intro t v hv x hx;rw[Lj] at hv;split at hv
   ·next hlt=>
    obtain⟨v',hv'⟩:=Bg (S:=S) C hlt ops.length (Nat.le_refl _);rw[hv'] at hv;simp only[aj4,aiy] at hv;subst hv;exact dy C.T hD hi hsi (Bi C ops.length (Nat.le_refl _) _ hv' x hx)
   ·cases hv
  ·intro id e he;rw[Li] at he;split at he
   ·obtain⟨k1,k2⟩:=rU C ops.length (Nat.le_refl _) e he;exact⟨dy C.T hD hi hsi k1,λ x hx=>dy C.T hD hi hsi (k2 x hx)⟩
   ·cases he
  ·intro q hq;exact dy C.T hD hi hsi (.inl (aex q hq))
  ·intro t v hv;rw[Lj,hsl t] at hv;split at hv
   ·next hlt=>
    split at hv
    ·next hc=>
     simp only[Stp.out,XY,if_true] at hv;obtain⟨v',hv',_⟩:=q2 t hc.2.1;rw[hv'] at hv;simp only[aj4,aiy] at hv;subst hv;exact .inl ⟨hc.2.1,hv'⟩
    ·next hc=>exact .inr ⟨λ h=>hc ⟨hin,h,hlt⟩,by rw[Lj,if_pos hlt]; exact hv⟩
   ·cases hv
  ·intro id e he;rw[Li,afs id] at he;split at he
   ·next hlt=>
    split at he
    ·next hc=>
     have ht:id∈si.rc.wr∨(si.rc.lo<=id/\id<si.rc.hi):=hc.2;exact .inl ⟨ht,he⟩
    ·next hc=>
     have hnt:¬ (id∈si.rc.wr∨(si.rc.lo<=id/\id<si.rc.hi)):=λ h=>hc ⟨hin,h⟩;exact .inr ⟨λ h=>hnt (.inl h),λ h=>hnt (.inr h),by rw[Li,if_pos hlt]; exact he⟩
   ·cases he
variable {B:Nat} {X:List Nat} {A:Ctx} {w0:World} {γ:Nat->Own} {loc:Nat->Value} {R:Type} {r:R}
theorem Be [Tags] (hT:TraceI E ops all st ts gf gs anc) {t:Nat} (ht:t∉YU ops):∀ m,m<=ops.length->yt ops ts S st m t=st.slots[t]?
 | 0,_=>rfl
 | m+1,hm=>by
  obtain⟨o,s,ho,hs,X2⟩:=hT.get (show m<ops.length by omega);simp only[yt,ho,hs];rw[if_neg,Be hT ht m (by omega)];exact λ h=>ht (List.mem_filterMap.2 ⟨o,List.mem_of_getElem? ho,h.2.1⟩)
theorem IZ [Tags] (C:DrawAt E ops all st ts gf gs anc) (hP:∀ (j:Nat) (o:Oper) (s:Stp),ops[j]?=some o->ts[j]?=some s->s.run=true->Pres o.dst.toList s.p s.p'):Pres (YU ops) st gf:=by
 obtain⟨g1,g2,g3⟩:=Nb C.T ops.length (Nat.le_refl _);obtain⟨t1,t2⟩:=C.tabs (Nat.le_refl ops.length);have hnx:=C.T.mono (i:=0) (j:=ops.length) (by omega) (Nat.le_refl _);rw[C.T.last] at g1 g2 g3 t1 t2 hnx;rw[C.T.first] at hnx;refine⟨g3,hnx,?_,λ t ht=>by rw[g1 t,Be C.T ht _ (ajj _)],g2⟩;intro id e he hpr;have XV:id<st.nxt:=(C.elt id e he).2;rw[t1 id];have key:∀ m,m<=ops.length->yv ts (λ _=>True) st m id=some e:=by
  intro m;induction m with
  | zero=>intro _; exact he
  | succ m ih=>
   intro hm;have ih:=ih (by omega);obtain⟨o,s,ho,hs,X2⟩:=C.T.get (show m<ops.length by omega);obtain⟨b1,b2,b3,b4,b5⟩:=C.T.nums hs;simp only[yv,hs];split
   ·next hc=>
    have h0:=C.T.mono (i:=0) (j:=m) (by omega) (by omega);rw[C.T.first] at h0;have ht:id∈s.rc.wr∨(s.rc.lo<=id/\id<s.rc.hi):=hc.2;rcases ht with ht|ht
    ·cases XY:s.run with
     | false=>
      rw[(X2.skip XY).rc] at ht;simp at ht
     | true=>
      have hR:=X2.run XY;obtain⟨_,_,gl⟩:=Nb C.T m (by omega);have hpt:look s.p.tab id=some e:=by
       have e1:s.p.tab=Kh (gs m) s.rc.wr s.rc.cf:=by rw[hR.p,hR.rc]; rfl
       rw[e1,mj,if_pos ((C.T.cfs hs).2 id ht),(C.tabs (i:=m) (by omega)).1 id,ih,ajH ht];rfl
      have X4:s.p.lvl=st.lvl:=by rw[hR.p]; exact gl
      exact (hP m o s ho hs XY).tab id e hpt (by rw[X4]; exact hpr)
    ·omega
   ·exact ih
 exact key ops.length (Nat.le_refl _)
theorem IU {n:Nat} (h:∀ j<n,S j) (id:Nat):yv ts S st n id=yv ts (λ _=>True) st n id:=by
 induction n with
 | zero=>rfl
 | succ n ih=>
  have hS:=h n (by omega);have ih:=ih (λ j hj=>h j (by omega));unfold yv;cases ts[n]? with
  | none=>exact ih
  | some s=>
   simp only;by_cases ht:s.touch id
   ·rw[if_pos ⟨hS,ht⟩,if_pos ⟨trivial,ht⟩]
   ·rw[if_neg (λ h=>ht h.2),if_neg (λ h=>ht h.2)]; exact ih
theorem Vv {n:Nat} (h:∀ j<n,S j) (t:Nat):yt ops ts S st n t=yt ops ts (λ _=>True) st n t:=by
 induction n with
 | zero=>rfl
 | succ n ih=>
  have hS:=h n (by omega);have ih:=ih (λ j hj=>h j (by omega));unfold yt;split
  ·next o s ho hs=>
   by_cases ht:o.dst=some t/\t<st.slots.length
   ·have e1:S n/\o.dst=some t/\t<st.slots.length:=⟨hS,ht⟩
    have e2:True/\o.dst=some t/\t<st.slots.length:=⟨trivial,ht⟩
    rw[if_pos e1,if_pos e2]
   ·have e1:¬ (S n/\o.dst=some t/\t<st.slots.length):=λ h=>ht h.2;have e2:¬ (True/\o.dst=some t/\t<st.slots.length):=λ h=>ht h.2;rw[if_neg e1,if_neg e2]; exact ih
  ·exact ih
theorem nZ {opsA:Array Oper} {listed:Array Bool} (X1:listed.size=opsA.size) {i:Nat}:i∈Region.ready .any opsA listed↔
  ∃ o,opsA.toList[i]?=some o/\listed.getD i false=false/\∀ e∈o.after.toList,Region.binds .any e=true->listed.getD e.on false=true:=by
 unfold Region.ready;rw[aki,ajx];constructor
 ·rintro⟨h1,h2⟩;simp only[aix,aj1] at h2;rw[aj8 h1] at h2;refine⟨opsA[i],by rw[ajq,aj8 h1],?_,?_⟩
  ·have:=h2.1;simp only[aj7] at *;rw[aj8 (by omega)] at *;simpa using this
  ·intro e he hb;have h3:=h2.2;simp only[aj9,aj4,al1] at h3;have:=h3 e (Array.mem_toList_iff.1 he);simpa[hb] using this
 ·rintro⟨o,ho,h1,h2⟩;rw[ajq] at ho;have hlt:i<opsA.size:=by
   rcases Nat.lt_or_ge i opsA.size with h|h
   ·exact h
   ·rw[ajK h] at ho; cases ho
  refine⟨hlt,?_⟩;simp only[aix,aj1,ho,aj9,aj4,al1];refine⟨?_,?_⟩
  ·simp only[aj7] at *;rw[aj8 (by omega)] at *;simpa using h1
  ·intro e he;cases hb:Region.binds .any e with
   | false=>rfl
   | true=>rw[h2 e (Array.mem_toList_iff.2 he) hb]; rfl
theorem GS [Tags] {opsA:Array Oper} {listed:Array Bool} (X1:listed.size=opsA.size) (hed:MY opsA.toList 0=true) (hr:Region.ready .any opsA listed=[]):∀ j<opsA.size,listed.getD j false=true:=by
 intro j;induction j using Nat.strongRecOn with
 | ind j ih=>
  intro hj;cases h:listed.getD j false with
  | true=>rfl
  | false=>
   have hm:j∈Region.ready .any opsA listed:=by
    have ho:opsA.toList[j]?=some opsA[j]:=by rw[ajq,aj8 hj]
    refine (nZ X1).2 ⟨opsA[j],ho,h,λ e he hb => ?_⟩;have hlt:=sa hed j _ ho e he hb;exact ih e.on (by omega) (by omega)
   rw[hr] at hm;simp at hm
theorem Rz {listed:Array Bool} {i j:Nat} (hi:i<listed.size):((listed.setIfInBounds i true).getD j false=true)=(listed.getD j false=true∨j=i):=by
 rw[aj7,aj7,aks];by_cases h:i=j
 ·subst h; simp[hi]
 ·have:¬ j=i:=λ e=>h e.symm;simp[h,this]
theorem count_set {listed:Array Bool} {i n:Nat} (hi:i<listed.size) (hf:listed.getD i false=false) (h:listed.toList.count false<=n+1):(listed.setIfInBounds i true).toList.count false<=n:=by
 have hl:i<listed.toList.length:=by simpa using hi
 rw[ak4,List.count_set hl];have:listed.toList[i]=false:=by
  rw[aj7,aj8 hi] at hf;simpa using hf
 rw[this];have e1:(false==false)=true:=rfl;have e2:(true==false)=false:=rfl;rw[e1,e2];simp only[if_true,aiT,if_false];omega
theorem IT {listed:Array Bool} (h:listed.toList.count false<=0):∀ j<listed.size,listed.getD j false=true:=by
 intro j hj;have h0:listed.toList.count false=0:=by omega
 have:=List.count_eq_zero.1 h0;rw[aj7,aj8 hj];simp only[aj4];cases hb:listed[j] with
 | true=>rfl
 | false=>exact absurd (by rw[←hb]; simp) this
theorem I1 [Tags] (hE:jR P A.gl E) (hA:A.dl=[]/\A.dps=[]) (C:DrawAt E ops all st ts gf gs anc) {opsA:Array Oper} (abk:opsA.toList=ops) (aex:∀ q∈A.pins,q.1<st.nxt)
  (hQ:Pres (YU ops) st gf->∀ a' w',Rel B X A w0 gf a' w'->Q .normal a' w'):
  ∀ (fuel:Nat) (listed:Array Bool) (a:Act) (w:World),listed.size=opsA.size->listed.toList.count false<=fuel->(∀ j,listed.getD j false=true->∀ k∈anc j,listed.getD k false=true)->
   (∀ (j:Nat) (o:Oper) (s:Stp),listed.getD j false=true->ops[j]?=some o->ts[j]?=some s->s.run=true->Pres o.dst.toList s.p s.p')->
   Rel B X A w0 (sS ops ts st gf.nxt (λ j=>listed.getD j false=true)) a w->wpAny P .any opsA Q fuel listed a w:=by
 have X0:opsA.size=ops.length:=by rw[←abk,aji]
 have aao:∀ (listed:Array Bool) (a:Act) (w:World),(∀ j<opsA.size,listed.getD j false=true)->
   (∀ (j:Nat) (o:Oper) (s:Stp),listed.getD j false=true->ops[j]?=some o->ts[j]?=some s->s.run=true->Pres o.dst.toList s.p s.p')->
   Rel B X A w0 (sS ops ts st gf.nxt (λ j=>listed.getD j false=true)) a w->Q .normal a w:=by
  intro listed a w hall hP aai;have ae1:∀ j<ops.length,listed.getD j false=true:=λ j hj=>hall j (by omega);refine hQ (IZ C λ j o s ho hs XY=>hP j o s (ae1 j (C.T.lt_of hs)) ho hs XY) a w ?_;obtain⟨γ,loc,hr⟩:=aai;obtain⟨g1,g2,g3⟩:=Nb C.T ops.length (Nat.le_refl _);obtain⟨t1,t2⟩:=C.tabs (Nat.le_refl ops.length);rw[C.T.last] at g1 g2 g3 t1 t2;refine⟨γ,loc,hr.same hA (by rw[g2,Mf]) ?_ ?_ (Nat.le_refl _)⟩
  ·intro t v hv;have hlt:t<st.slots.length:=by
    rw[←g2];rcases Nat.lt_or_ge t gf.slots.length with h|h
    ·exact h
    ·rw[aiX h] at hv; cases hv
   rw[Lj,if_pos hlt,Vv ae1 t,←g1 t,hv];rfl
  ·intro id e he;rw[Li,if_pos (t2 id e he),IU ae1 id,←t1 id,he]
 intro fuel;induction fuel with
 | zero=>
  intro listed a w X1 hc hD hP aai;have hall:=IT hc;refine⟨?_,aao listed a w (λ j hj=>hall j (by omega)) hP aai⟩;apply List.eq_nil_iff_forall_not_mem.2;intro i hi;obtain⟨o,ho,hf,_⟩:=(nZ X1).1 hi;have hlt:i<opsA.size:=by
   rw[←aji];rcases Nat.lt_or_ge i opsA.toList.length with h|h
   ·exact h
   ·rw[aiX h] at ho; cases ho
  rw[hall i (by omega)] at hf;cases hf
 | succ fuel ih=>
  intro listed a w X1 hc hD hP aai;refine⟨λ hr=>aao listed a w (GS X1 (by rw[abk]; exact C.edges) hr) hP aai,?_⟩
  intro i hi;obtain⟨o,ho,hf,hed⟩:=(nZ X1).1 hi;have hlt:i<opsA.size:=by
   rw[←aji];rcases Nat.lt_or_ge i opsA.toList.length with h|h
   ·exact h
   ·rw[aiX h] at ho; cases ho
  have hoA:opsA[i]?=some o:=by rw[←ajq]; exact ho
  rw[abk] at ho;obtain⟨o',si,ho',hsi,X2⟩:=C.T.get (show i<ops.length by omega);rw[ho] at ho';cases ho';have hAi:=C.T.anc_in (S:=λ j=>listed.getD j false=true) hD ho hed;have aas:∀ j,((listed.setIfInBounds i true).getD j false=true)=(listed.getD j false=true∨j=i):=λ j=>Rz (by omega);obtain⟨γ,loc,hr⟩:=aai;unfold wpOp;rw[hoA];simp only;have X8:=I0 (P:=P) (Q:=Q) (next:=wpAny P .any opsA Q fuel (listed.setIfInBounds i true)) (S:=λ j=>listed.getD j false=true) hE hA C abk ho hsi hD hAi (by simp[hf]) aex hr ?_
  ·split at X8
   ·next hw=>rw[if_pos hw]; exact .inl X8
   ·next hw=>rw[if_neg hw]; exact X8
  ·intro hpr a' w' ahx;refine ih _ a' w' (by simpa using X1) (count_set (by omega) hf hc) ?_ ?_ ?_
   ·intro j hj k hk;rw[aas] at hj ⊢;rcases hj with hj|rfl
    ·exact .inl (hD j hj k hk)
    ·exact .inl (hAi k hk)
   ·intro j oj sj hj hoj hsj XY;rw[aas] at hj;rcases hj with hj|rfl
    ·exact hP j oj sj hj hoj hsj XY
    ·rw[ho] at hoj; rw[hsi] at hsj
     cases hoj; cases hsj
     exact hpr XY
   ·have e:(λ j=>(listed.setIfInBounds i true).getD j false=true)=λ j=>listed.getD j false=true∨j=i:=funext aas;rw[e];exact ahx
theorem VK [Tags] (hE:jR P A.gl E) (hA:A.dl=[]/\A.dps=[]) {id:Nat} {ops:Array Oper} {k:St->Option R} (hk:kV E ops.toList st k=some r) (hr:Rel B X A w0 st a w)
  (hQ:∀ st',k st'=some r->Pres (YU ops.toList) st st'->∀ a' w',Rel B X A w0 st' a' w'->Q .normal a' w'):(Code.region id ops true).wp P Q a w:=by
 unfold kV at hk;split at hk
 ·next hck=>
  simp only[aix] at hck;obtain⟨⟨hed,hnd⟩,X4⟩:=hck;obtain⟨ts,gf,hT,hgf⟩:=pK ops.toList [] [] st k hk;obtain⟨gs,anc,hTI⟩:=Cc (ops:=ops.toList) (st:=st) (E:=E) ops.toList [] [] (λ _=>st) (λ _=>[]) st ts gf rfl rfl rfl rfl (by simp) (by simp) hT;simp only[aiU] at hTI;obtain⟨γ,loc,hr0⟩:=hr;have C:DrawAt E ops.toList (KK ops.toList []) st ts gf gs anc:=⟨hTI,dD hnd,hed,rfl,hr0.slt,hr0.elt⟩
  refine wp_region_any hE.mixed ?_;refine I1 hE hA C rfl (λ q hq=>(hr0.pins q hq).1) (λ hp a' w' aai=>hQ gf hgf hp a' w' aai) ops.size _ a _ (by simp) (by simp) ?_ ?_ ?_
  ·intro j hj;simp[aj7,akk] at hj;split at hj<;>simp at hj
  ·intro j o s hj;simp[aj7,akk] at hj;split at hj<;>simp at hj
  ·have hno:∀ j,¬ ((Array.replicate ops.size false).getD j false=true):=by
    intro j hj;simp[aj7,akk] at hj;split at hj<;>simp at hj
   have hnx:=hTI.mono (i:=0) (j:=ops.toList.length) (by omega) (Nat.le_refl _);rw[hTI.first,hTI.last] at hnx;refine⟨γ,loc,(hr0.drew).same hA Mf ?_ ?_ hnx⟩
   ·intro t v hv;rw[Lj] at hv;split at hv
    ·next hlt=>
     have key:∀ m,m<=ops.toList.length->yt ops.toList ts (λ j=>(Array.replicate ops.size false).getD j false=true) st m t=st.slots[t]?:=by
      intro m;induction m with
      | zero=>intro _; rfl
      | succ m ih=>
       intro hm;obtain⟨o,s,ho,hs,X2⟩:=hTI.get (show m<ops.toList.length by omega);simp only[yt,ho,hs];rw[if_neg (λ h=>hno m h.1)];exact ih (by omega)
     rw[key _ (ajj _),ajk hlt] at hv;rw[ajk hlt];simpa using hv
    ·cases hv
   ·intro id e he;rw[Li] at he;split at he
    ·have key:∀ m,m<=ops.toList.length->yv ts (λ j=>(Array.replicate ops.size false).getD j false=true) st m id=look st.tab id:=by
      intro m;induction m with
      | zero=>intro _; rfl
      | succ m ih=>
       intro hm;obtain⟨o,s,ho,hs,X2⟩:=hTI.get (show m<ops.toList.length by omega);simp only[yv,hs];rw[if_neg (λ h=>hno m h.1)];exact ih (by omega)
     rw[key _ (ajj _)] at he;exact he
    ·cases he
 ·cases hk
def MA:Ev.X->Exit
 | .normal=>.normal
 | .exit id=>.exit id
 | .ret=>.ret
theorem Rel.lower [Tags] (h:Rel B X A w0 st a w) (lo:Nat):Rel B X A w0 (lower st lo) a w:=by
 obtain⟨γ,loc,hr⟩:=h;refine⟨γ,loc,{ hr with size:=hr.size,slots:=hr.slots,slt:=hr.slt,ents := ?_,elt := ?_,pins:=hr.pins,dlab := ?_,glob:=hr.glob,rtag:=hr.rtag,dpc:=hr.dpc }⟩
 ·intro id e he;rw[dq] at he;obtain⟨e0,h1,rfl⟩:=Option.map_eq_some_iff.1 he;exact sn (hr.ents id e0 h1)
 ·intro id e he;rw[dq] at he;obtain⟨e0,h1,rfl⟩:=Option.map_eq_some_iff.1 he;exact⟨uf (hr.elt id e0 h1).1,(hr.elt id e0 h1).2⟩
 ·intro p hp hhi;obtain⟨k1,k2,k3,k4⟩:=hr.dlab p hp hhi;exact⟨k1,k2,by rw[dq,k3]; rfl,k4⟩
theorem Qr [Tags] {lvl:Nat} {D:List Nat}:∀ {its:List Item} {v:dens (its.map Item.ty)} {sl sl':List AV} {tab tab':List (Nat×Ent)} {j j':Nat},ji lvl its v sl tab j=some (sl',tab',j')->
  its.all (λ it=>it.within D)=true->(∀ id<j,id∉yq its->look tab' id=look tab id)/\sl'.length=sl.length/\∀ t,t∉D->sl'[t]?=sl[t]?
 | [],v,sl,sl',tab,tab',j,j',h,_=>by
  simp only[ji,aiy,aiF] at h;obtain⟨rfl,rfl,rfl⟩:=h;exact⟨λ _ _ _=>rfl,rfl,λ _ _=>rfl⟩
 | .slot t ty k::r,v,sl,sl',tab,tab',j,j',h,hw=>by
  simp only[aj3,aix] at hw;simp only[ji] at h;split at h
  ·next x hmk=>
   obtain⟨h1,h2,h3⟩:=Qr h hw.2;have hle:=(y8 k lvl ty v.1 j).le;refine⟨?_,by rw[h2]; simp,?_⟩
   ·intro id XV hb;rw[h1 id (Nat.lt_of_lt_of_le XV hle) hb];exact mg XV
   ·intro t' ht';rw[h3 t' ht',ajU];intro e;subst e;have:t∈D:=by simpa[Item.within] using hw.1
    exact ht' this
  ·cases h
 | .box id0 ty k::r,v,sl,sl',tab,tab',j,j',h,hw=>by
  simp only[aj3,aix] at hw;simp only[ji] at h;obtain⟨h1,h2,h3⟩:=Qr h hw.2;have hle:=(y8 k lvl ty v.1 j).le;refine⟨?_,h2,h3⟩;intro id XV hb;simp only[yq,aiP,not_or] at hb;rw[h1 id (Nat.lt_of_lt_of_le XV hle) hb.2,mg XV,Zh,if_neg hb.1]
 | .row id0 E e k::r,v,sl,sl',tab,tab',j,j',h,hw=>by
  simp only[aj3,aix] at hw;have h:ji lvl r v.2 sl (yo tab id0 (.arr k lvl E e v.1)) j=some (sl',tab',j'):=h;obtain⟨h1,h2,h3⟩:=Qr h hw.2;refine⟨?_,h2,h3⟩;intro id XV hb;simp only[yq,aiP,not_or] at hb;rw[h1 id XV hb.2,Zh,if_neg hb.1]
 | .keep id0 ty tm::r,v,sl,sl',tab,tab',j,j',h,hw=>by
  simp only[aj3,aix] at hw;have h:ji lvl r v.2 sl (yo tab id0 (.box lvl (mixLs ty v.1 (yA tm)).1)) j=some (sl',tab',j'):=h;obtain⟨h1,h2,h3⟩:=Qr h hw.2;refine⟨?_,h2,h3⟩;intro id XV hb;simp only[yq,aiP,not_or] at hb;rw[h1 id XV hb.2,Zh,if_neg hb.1]
theorem sI:∀ {D:List Nat} {sl:List AV} {t:Nat},t∉D->(KW sl D)[t]?=sl[t]?
 | [],sl,t,_=>rfl
 | d::D,sl,t,h=>by
  simp only[aiP,not_or] at h;rw[KW,sI h.2,ajU (λ e=>h.1 e.symm)]
def GN (st:St) (ids:List Nat) (id:Nat):Prop:=(∃ e,look st.tab id=some e/\¬ e.prot st.lvl)/\id∉ids
theorem Sc {st:St} {id:Nat} {ids:List Nat} (h:∀ i∈ids,jo st i) (hb:bH st id):id∉ids:=λ hm=>by
 obtain⟨lvl,cells,hl,_⟩:=hb;obtain⟨u,lvl',E',e,xs,hl',_⟩:=h id hm;rw[hl] at hl'; cases hl'
theorem NG:∀ {its:List Item} {id:Nat},id∈yq its->id∈Jb its∨∃ ty k,Item.box id ty k∈its
 | [],id,h=>by simp[yq] at h
 | .slot t ty k::r,id,h=>by
  rcases NG (its:=r) h with h|⟨ty,k,h⟩
  ·exact .inl h
  ·exact .inr ⟨ty,k,by simp[h]⟩
 | .box id0 ty k::r,id,h=>by
  rcases List.mem_cons.1 h with rfl|h
  ·exact .inr ⟨ty,k,by simp⟩
  ·rcases NG (its:=r) h with h|⟨ty,k,h⟩
   ·exact .inl h
   ·exact .inr ⟨ty,k,by simp[h]⟩
 | .row id0 E e k::r,id,h=>by
  rcases List.mem_cons.1 h with rfl|h
  ·exact .inl (by simp[Jb])
  ·rcases NG (its:=r) h with h|⟨ty,k,h⟩
   ·exact .inl (by simp[Jb,h])
   ·exact .inr ⟨ty,k,by simp[h]⟩
 | .keep id0 ty0 tm::r,id,h=>by
  rcases List.mem_cons.1 h with rfl|h
  ·exact .inl (by simp[Jb])
  ·rcases NG (its:=r) h with h|⟨ty,k,h⟩
   ·exact .inl (by simp[Jb,h])
   ·exact .inr ⟨ty,k,by simp[h]⟩
theorem MS [Tags] {st:St}:∀ {its:List Item} {vs:dens (its.map Item.ty)} {ids:List Nat} {id:Nat} {ty:Ty} {k:Kind},jl st its=some (vs,ids)->Item.box id ty k∈its->bH st id
 | [],vs,ids,id,ty,k,h,hm=>by simp at hm
 | .row id0 E e k0::r,vs,ids,id,ty,k,h,hm=>by
  obtain⟨lvl,xs,vs',hl,X4,X9,XW,hn,rfl⟩:=ew h;rcases List.mem_cons.1 hm with hm|hm
  ·cases hm
  ·exact MS XW hm
 | .keep id0 ty0 tm::r,vs,ids,id,ty,k,h,hm=>by
  obtain⟨v,vs',hl,_,XW,hn,rfl⟩:=ev h;rcases List.mem_cons.1 hm with hm|hm
  ·cases hm
  ·exact MS XW hm
 | .slot t ty0 k0::r,vs,ids,id,ty,k,h,hm=>by
  obtain⟨ls,v,i1,vs',i2,hls,hc,hf,XW,hd,hdr,rfl,rfl⟩:=Lc (it:=.slot t ty0 k0) (by simp) h;rcases List.mem_cons.1 hm with hm|hm
  ·cases hm
  ·exact MS XW hm
 | .box id0 ty0 k0::r,vs,ids,id,ty,k,h,hm=>by
  obtain⟨ls,v,i1,vs',i2,hls,hc,hf,XW,hd,hdr,rfl,rfl⟩:=Lc (it:=.box id0 ty0 k0) (by simp) h;rcases List.mem_cons.1 hm with hm|hm
  ·cases hm;simp only[J3] at hls;split at hls
   ·next lvl cells hl=>
    split at hls
    ·next X4=>exact⟨lvl,cells,hl,(zL _ _).1 X4⟩
    ·cases hls
   ·cases hls
  ·exact MS XW hm
theorem L7 [Tags] (X7:∀ {its:List Item} {vs:dens (its.map Item.ty)} {ids:List Nat},jl st its=some (vs,ids)->∀ i∈ids,jo st i):
  ∀ {its:List Item} {vs:dens (its.map Item.ty)} {ids:List Nat},jl st its=some (vs,ids)->∀ id∈yq its,GN st ids id
 | [],vs,ids,h=>by simp[yq]
 | .row id0 E e k::r,vs,ids,h=>by
  obtain⟨lvl,xs,vs',hl,X4,X9,XW,hn,rfl⟩:=ew h;intro id XV;rcases List.mem_cons.1 XV with rfl|XV
  ·exact⟨⟨_,hl,λ hp=>hp X4⟩,hn⟩
  ·exact L7 X7 XW id XV
 | .keep id0 ty0 tm::r,vs,ids,h=>by
  obtain⟨v,vs',hl,_,XW,hn,rfl⟩:=ev h;intro id XV;rcases List.mem_cons.1 XV with rfl|XV
  ·exact⟨⟨_,hl,λ hp=>hp rfl⟩,hn⟩
  ·exact L7 X7 XW id XV
 | .slot t ty k::r,vs,ids,h=>by
  have ho:=X7 h;obtain⟨ls,v,i1,vs',i2,hls,hc,hf,XW,hd,hdr,rfl,rfl⟩:=Lc (it:=.slot t ty k) (by simp) h;intro id XV;obtain⟨h1,h2⟩:=L7 X7 XW id XV;refine⟨h1,λ hm => ?_⟩;rcases List.mem_append.1 hm with hm|hm
  ·rcases NG (its:=r) XV with hr|⟨ty',k',hr⟩
   ·exact hdr id hm hr
   ·obtain⟨⟨e,he,_⟩,_⟩:=L7 X7 XW id XV;obtain⟨u,lvl',E',e',xs,hl',_⟩:=ho id (List.mem_append_left _ hm);obtain⟨lvl,cells,hl,_⟩:=MS XW hr;rw[hl] at hl'; cases hl'
  ·exact h2 hm
 | .box id0 ty k::r,vs,ids,h=>by
  have ho:=X7 h;obtain⟨ls,v,i1,vs',i2,hls,hc,hf,XW,hd,hdr,rfl,rfl⟩:=Lc (it:=.box id0 ty k) (by simp) h;have hb0:bH st id0:=by
   simp only[J3] at hls;split at hls
   ·next lvl cells hl=>
    split at hls
    ·next X4=>exact⟨lvl,cells,hl,(zL _ _).1 X4⟩
    ·cases hls
   ·cases hls
  intro id XV;rcases List.mem_cons.1 XV with rfl|XV
  ·refine⟨?_,Sc ho hb0⟩;obtain⟨lvl,cells,hl,X4⟩:=hb0;exact⟨_,hl,λ hp=>hp X4⟩
  ·obtain⟨h1,h2⟩:=L7 X7 XW id XV;refine⟨h1,λ hm => ?_⟩;rcases List.mem_append.1 hm with hm|hm
   ·rcases NG (its:=r) XV with hr|⟨ty',k',hr⟩
    ·exact hdr id hm hr
    ·obtain⟨u,lvl',E',e',xs,hl',_⟩:=ho id (List.mem_append_left _ hm);obtain⟨lvl,cells,hl,_⟩:=MS XW hr;rw[hl] at hl'; cases hl'
   ·exact h2 hm
theorem QZ [Tags] {st:St} (hlt:∀ (id:Nat) (e:Ent),look st.tab id=some e->e.lt st.nxt):∀ {its:List Item} {vs:dens (its.map Item.ty)} {ids:List Nat},jl st its=some (vs,ids)->∀ i∈J4 its,i<st.nxt
 | [],vs,ids,h=>by simp[J4]
 | .row id0 E e k::r,vs,ids,h=>by
  obtain⟨lvl,xs,vs',hl,X4,X9,XW,hn,rfl⟩:=ew h;exact λ i hi=>QZ (its:=r) hlt XW i hi
 | .slot t ty0 k0::r,vs,ids,h=>by
  obtain⟨ls,v,i1,vs',i2,hls,hc,hf,XW,hd,hdr,rfl,rfl⟩:=Lc (it:=.slot t ty0 k0) (by simp) h;exact λ i hi=>QZ (its:=r) hlt XW i hi
 | .box id0 ty0 k0::r,vs,ids,h=>by
  obtain⟨ls,v,i1,vs',i2,hls,hc,hf,XW,hd,hdr,rfl,rfl⟩:=Lc (it:=.box id0 ty0 k0) (by simp) h;exact λ i hi=>QZ (its:=r) hlt XW i hi
 | .keep id0 ty0 tm::r,vs,ids,h=>by
  obtain⟨v,vs',hl,he,XW,hn,rfl⟩:=ev h;intro i hi;rcases List.mem_append.1 hi with hi|hi
  ·have h1:=hlt _ _ hl;rw[he] at hi;clear he hl;have h1:∀ l∈(mixLs ty0 v (yA tm)).1,l.lt st.nxt:=h1;generalize (mixLs ty0 v (yA tm)).1=ls at h1 hi;induction ls with
   | nil=>simp[zT] at hi
   | cons l r ih=>
    have hr:=ih (λ l hl=>h1 l (by simp[hl]));cases l with
    | sl m=>
     simp only[zT,aiP] at hi;rcases hi with rfl|hi
     ·exact h1 (.sl i) List.mem_cons_self
     ·exact hr hi
    | _=>exact hr (by simpa[zT] using hi)
  ·exact QZ hlt XW i hi
theorem pN {st:St} (h:du st=true) {id:Nat} {e:Ent} (he:look st.tab id=some e):e.upto st.lvl=true:=by
 unfold du at h;generalize st.tab=t at *;induction t with
 | nil=>cases he
 | cons x t ih=>
  obtain⟨k,e0⟩:=x;simp only[aj3,aix] at h;simp only[look] at he;split at he
  ·cases he; exact h.1
  ·exact ih h.2 he
theorem Cm {e:Ent} {n:Nat} (h:e.upto n=true):e.prot (n+1):=by
 cases e with
 | box lvl cs=>have:=Nat.le_of_ble_eq_true h; simp only[Ent.prot]; omega
 | cst cs=>trivial
 | arr k lvl E e xs=>have:=Nat.le_of_ble_eq_true h; simp only[Ent.prot]; omega
theorem RC {e:Ent} {n lo:Nat} (h:e.upto n=true):jA (n+1) lo e=e:=by
 cases e with
 | box lvl cs=>
  have:=Nat.le_of_ble_eq_true h;simp only[jA];rw[(Ze lvl (n+1)).2 (by omega)]
 | cst cs=>rfl
 | arr k lvl E e xs=>
  have:=Nat.le_of_ble_eq_true h;simp only[jA];rw[(Ze lvl (n+1)).2 (by omega)]
structure rh (A:Ctx) (st:St) (body:Code) (its:List Item) (ids:List Nat) (stx:St) (vs:dens (its.map Item.ty)) (ids2:List Nat):Prop where
 nxt:st.nxt<=stx.nxt
 len:stx.slots.length=st.slots.length
 slots:∀ t,t∉jO body->stx.slots[t]?=st.slots[t]?
 ents:∀ (id:Nat) (e:Ent),look st.tab id=some e->id∉ids->id∉yq its->look stx.tab id=some e/\id∉ids2/\e.lt st.nxt/\id<st.nxt
 boxes:∀ id∈yq its,id<st.nxt/\id∉ids2
 kept:∀ id∈J4 its,id<st.nxt
 read:jl stx its=some (vs,ids2)
theorem OD [Tags] {body:Code} {its:List Item} {ids:List Nat} {vs:dens (its.map Item.ty)} {h:St} (hh:Nc st body its ids vs=some h) (hw:its.all (λ it=>it.within (jO body))=true)
  (hlt:∀ (id:Nat) (e:Ent),look st.tab id=some e->id<st.nxt):
  h.lvl=st.lvl+1/\st.nxt<=h.nxt/\h.slots.length=st.slots.length/\(∀ t,t∉jO body->h.slots[t]?=st.slots[t]?)/\
   ∀ (id:Nat) (e:Ent),look st.tab id=some e->id∉ids->id∉yq its->look h.tab id=some e:=by
 unfold Nc at hh;split at hh
 ·next sl tab j ad3=>
  cases hh;obtain⟨k1,k2,k3⟩:=Qr ad3 hw;refine⟨rfl,JE ad3,by rw[k2,lh],λ t ht=>by rw[k3 t ht,sI ht],?_⟩;intro id e he hi hb;rw[k1 id (hlt id e he) hb,YB,if_neg hi];exact he
 ·cases hh
theorem VY [Tags] {F:y6} (hA:A.dl=[]/\A.dps=[]) {body:Code} (ih:∀ (st:St) (k:Ev.X->St->Option R) (a:Act) (w:World) (Q:Exit->Act->World->Prop),jr F body st k=some r->Rel B X A w0 st a w->
   (∀ x st',k x st'=some r->Pres (jO body) st st'->∀ a' w',Rel B X A w0 st' a' w'->Q (MA x) a' w')->body.wp P Q a w)
  {k:Ev.X->St->Option R} (hk:jr F (.loop body) st k=some r) (hr:Rel B X A w0 st a w)
  (hQ:∀ x st',k x st'=some r->Pres (jO body) st st'->∀ a' w',Rel B X A w0 st' a' w'->Q (MA x) a' w'):(Code.loop body).wp P Q a w:=by
 unfold jr at hk;split at hk
 ·cases hk
 ·next its aig=>
  have hr2:=hr.preLoop (its:=its);have hQ2:∀ x st',k x st'=some r->Pres (jO body) (preLoop its st) st'->∀ a' w',Rel B X A w0 st' a' w'->Q (MA x) a' w':=λ x st' h hp=>hQ x st' h ((Pres.trans Sr hp).mono λ t ht=>ht);clear hQ hr;revert hk hr2 hQ2;generalize preLoop its st=st;intro hk hr hQ;split at hk
  ·next vs ids acN hck=>
   simp only[aix] at hck;obtain⟨X4,hwi⟩:=hck;have aeG:∀ (t:Nat) (v:AV),st.slots[t]?=some v->v.lt st.nxt:=by obtain⟨γ,loc,h⟩:=hr; exact h.slt
   have abV:∀ (id:Nat) (e:Ent),look st.tab id=some e->e.lt st.nxt/\id<st.nxt:=by obtain⟨γ,loc,h⟩:=hr; exact h.elt
   have adJ:∀ p∈A.pins,p.1<st.nxt:=by obtain⟨γ,loc,h⟩:=hr; exact λ p hp=>(h.pins p hp).1
   have ac0:∀ i∈ids,jo st i:=by obtain⟨γ,loc,h⟩:=hr; exact (Kk h acN).2
   have hbx:=L7 (st:=st) (λ h'=>by obtain⟨γ,loc,h⟩:=hr; exact (Kk h h').2) acN
   have aeX:∀ id∈yq its,id<st.nxt:=λ id XV=>by obtain⟨⟨e,hl,_⟩,_⟩:=hbx id XV; exact (abV id _ hl).2
   have h0:rh A st body its ids st vs ids:=by
    refine⟨Nat.le_refl _,rfl,λ _ _=>rfl,λ id e he hi _=>⟨he,hi,abV id e he⟩,λ id XV=>⟨aeX id XV,(hbx id XV).2⟩,QZ (λ id e he=>(abV id e he).1) acN,acN⟩
   intro fr kk cs;have key:∀ (n:Nat) (vs:dens (its.map Item.ty)) (ids2:List Nat) (stx:St) (a:Act) (w:World),
     iter (λ rec vs=>match Nc st body its ids vs with
      | none=>none
      | some h=>jr F body h λ x st'=>match x with
       | .normal=>match jl st' its with
        | some (vs',_)=>rec vs'
        | none=>none
       | y=>k y (lower st' st.lvl)) n vs=some r->rh A st body its ids stx vs ids2->Rel B X A w0 stx a w->
     ∃ e a' w',Q e a' w'/\Arrives P (lone (fr.at a (.code body :: .inLoop body::kk)) cs w) fr kk cs e a' w':=by
    intro n;induction n with
    | zero=>intro vs ids2 stx a w hit; cases hit
    | succ n ihn=>
     intro vs ids2 stx a w hit hR hx;simp only[iter] at hit;split at hit
     ·cases hit
     ·next h hh=>
      have agI:Rel B X A w0 h a w:=by
       obtain⟨γ,loc,hx0⟩:=hx;exact OE hx0 hR.nxt hR.len hR.slots aeG hR.ents hR.boxes hR.kept hR.read adJ hA hh
      obtain⟨f1,f2,f3,f4,f5⟩:=OD hh hwi (λ id e he=>(abV id e he).2);have ab9:=ih h _ a w (Exit.then (λ a' w'=>∃ e a'' w'',Q e a'' w''/\Arrives P (lone (fr.at a' (.code body :: .inLoop body::kk)) cs w') fr kk cs e a'' w'') Q) hit agI ?_
      ·obtain⟨e,a₁,w₁,hq,XZ⟩:=ab9 fr (.inLoop body::kk) cs;cases e with
       | normal=>
        obtain⟨e₂,a₂,w₂,hq₂,harr₂⟩:=hq;exact⟨e₂,a₂,w₂,hq₂,.of_steps (Steps.trans XZ (.one step_inLoop)) harr₂⟩
       | exit id=>exact⟨_,a₁,w₁,hq,.pass (x:=.inLoop body) rfl (λ _ _=>.inl (by simp)) XZ⟩
       | goto l=>exact⟨_,a₁,w₁,hq,.pass (x:=.inLoop body) rfl (λ _ _=>.inl (by simp)) XZ⟩
       | ret=>exact⟨_,a₁,w₁,hq,.pass (x:=.inLoop body) rfl (λ _ _=>.inl (by simp)) XZ⟩
       | panic ch=>exact⟨_,a₁,w₁,hq,.pass (x:=.inLoop body) rfl (λ _ _=>.inl (by simp)) XZ⟩
       | outgrown=>exact⟨_,a₁,w₁,hq,.pass (x:=.inLoop body) rfl (λ _ _=>.inl (by simp)) XZ⟩
      ·intro x st' hkx hp a' w' hr';have hl':st'.lvl=st.lvl+1:=by rw[hp.lvl,f1]
       have hkeep:∀ (id:Nat) (e:Ent),look st.tab id=some e->id∉ids->id∉yq its->look st'.tab id=some e:=λ id e he hi hb=>
        hp.tab id e (f5 id e he hi hb) (by rw[f1]; exact Cm (pN X4 he))
       have afa:∀ y:Ev.X,k y (lower st' st.lvl)=some r->Q (MA y) a' w':=by
        intro y hy;refine hQ y _ hy ?_ a' w' (hr'.lower st.lvl);refine⟨rfl,Nat.le_trans f2 hp.nxt,?_,λ t ht=>by rw[←f4 t ht]; exact hp.slots t ht,by rw[←f3]; exact hp.len⟩
        intro id e he hpr;have hi:id∉ids:=λ hm=>Ns (ac0 id hm) _ he hpr;have hb:id∉yq its:=λ hm=>by
         obtain⟨⟨e',hl,X4⟩,_⟩:=hbx id hm;rw[hl] at he; cases he
         exact X4 hpr
        rw[dq,hkeep id e he hi hb,hl'];simp only[aj9,aiy];exact RC (pN X4 he)
       cases x with
       | normal=>
        simp only at hkx;split at hkx
        ·next vs' ids' aeB=>
         have ahk:∀ i∈ids',jo st' i:=by obtain⟨γ,loc,h'⟩:=hr'; exact (Kk h' aeB).2
         refine ihn vs' ids' st' a' w' hkx ?_ hr';refine⟨Nat.le_trans f2 hp.nxt,by rw[hp.len,f3],λ t ht=>by rw[hp.slots t ht,f4 t ht],?_,?_,hR.kept,aeB⟩
         ·intro id e he hi hb;refine⟨hkeep id e he hi hb,?_,abV id e he⟩;intro hm;exact Ns (ahk id hm) e (hkeep id e he hi hb) (by rw[hl']; exact Cm (pN X4 he))
         ·intro id XV;exact⟨aeX id XV,(L7 (st:=st') (λ h2=>by obtain⟨γ,loc,h'⟩:=hr'; exact (Kk h' h2).2) aeB id XV).2⟩
        ·cases hkx
       | exit id=>exact afa (.exit id) hkx
       | ret=>exact afa .ret hkx
   obtain⟨e,a',w',hq,XZ⟩:=key fuel vs ids st a w hk h0 hr;exact⟨e,a',w',hq,.of_steps (.one step_loop) XZ⟩
  ·cases hk
theorem Pr [Tags] {c:Operand} {a:Code} {st:St} (h:zu st c=some (.b true)):lK c a st=st:=by
 unfold lK;split
 ·next t=>
  unfold zu at h;split at h
  ·next l hl=>
   cases h;exact QW hl
  ·cases h
 ·rfl
theorem Kn [Tags] {F:y6} (hE:jR P A.gl F.E) (hA:A.dl=[]/\A.dps=[]) (hTw:F.E.thaws=[]∨(A.tg=true/\∀ x∈F.E.thaws,x.2=Tags.post)):∀ (c:Code) (st:St) (k:Ev.X->St->Option R) (a:Act) (w:World) (Q:Exit->Act->World->Prop),jr F c st k=some r->Rel B X A w0 st a w->
  (∀ x st',k x st'=some r->Pres (jO c) st st'->∀ a' w',Rel B X A w0 st' a' w'->Q (MA x) a' w')->c.wp P Q a w
 | .skip,st,k,a,w,Q,hk,hr,hQ=>wp_skip (hQ .normal st hk (Pres.refl _ _) a w hr)
 | .label _,st,k,a,w,Q,hk,hr,hQ=>wp_label (hQ .normal st hk (Pres.refl _ _) a w hr)
 | .region id ops false,st,k,a,w,Q,hk,hr,hQ=>V8 hE hA hTw hk hr (λ st' hk' hp a' w' hr'=>hQ .normal st' hk' hp a' w' hr')
 | .region id ops true,st,k,a,w,Q,hk,hr,hQ=>VK hE hA hk hr.preDraw (λ st' hk' hp a' w' hr'=>hQ .normal st' hk' ((Pres.trans Sq hp).mono λ t ht=>ht) a' w' hr')
 | .seq x y,st,k,a,w,Q,hk,hr,hQ=>by
  refine wp_seq (Kn hE hA hTw x st _ a w _ hk hr ?_);intro z st' hkz hp a' w' hr';cases z with
  | normal=>exact Kn hE hA hTw y st' k a' w' Q hkz hr' (λ z st'' hk'' hp' a'' w'' hr''=>hQ z st'' hk'' (hp.trans hp') a'' w'' hr'')
  | exit id=>exact hQ (.exit id) st' hkz (hp.mono (λ t ht=>List.mem_append_left _ ht)) a' w' hr'
  | ret=>exact hQ .ret st' hkz (hp.mono (λ t ht=>List.mem_append_left _ ht)) a' w' hr'
 | .cond c x y,st,k,a,w,Q,hk,hr,hQ=>by
  unfold jr at hk;split at hk
  ·next b hb=>
   have hv:a.eval c=.bool b:=by obtain⟨γ,loc,h⟩:=hr; exact (yy h hb).1
   cases b with
   | true=>
    rw[aiw,Pr hb] at hk;exact wp_cond_true hv (Kn hE hA hTw x st k a w Q hk hr (λ z st' hk' hp a' w' hr'=>hQ z st' hk' (hp.mono (λ t ht=>List.mem_append_left _ ht)) a' w' hr'))
   | false=>exact wp_cond_false hv (Kn hE hA hTw y st k a w Q hk hr (λ z st' hk' hp a' w' hr'=>hQ z st' hk' (hp.mono (λ t ht=>List.mem_append_right _ ht)) a' w' hr'))
  ·cases hk
 | .block id x,st,k,a,w,Q,hk,hr,hQ=>by
  refine wp_block (Kn hE hA hTw x st _ a w _ hk hr ?_);intro z st' hkz hp a' w' hr';cases z with
  | normal=>exact hQ .normal st' hkz hp a' w' hr'
  | ret=>exact hQ .ret st' hkz hp a' w' hr'
  | exit j=>
   simp only at hkz;split at hkz
   ·next h=>
    have:=(zL _ _).1 h;simp only[MA,Exit.inBlock,this,if_true];exact hQ .normal st' hkz hp a' w' hr'
   ·next h=>
    have:=(Ze _ _).1 h;simp only[MA,Exit.inBlock,this,if_false];exact hQ (.exit j) st' hkz hp a' w' hr'
 | .loop x,st,k,a,w,Q,hk,hr,hQ=>VY hA (λ st k a w Q h1 h2 h3=>Kn hE hA hTw x st k a w Q h1 h2 h3) hk hr hQ
 | .exit id,st,k,a,w,Q,hk,hr,hQ=>wp_exit (hQ (.exit id) st hk (Pres.refl _ _) a w hr)
 | .ret,st,k,a,w,Q,hk,hr,hQ=>wp_ret (hQ .ret st hk (Pres.refl _ _) a w hr)
 | .goto _,st,k,a,w,Q,hk,hr,hQ=>by cases hk
 | .scope _,st,k,a,w,Q,hk,hr,hQ=>by cases hk
 | .rangeFunc _ _ _ _,st,k,a,w,Q,hk,hr,hQ=>by cases hk
 | .refuse _,st,k,a,w,Q,hk,hr,hQ=>by cases hk
variable {P:Program} {a:Act} {w w':World} {Q:Exit->Act->World->Prop}
def No (w:World) (b:Nat):List Value:=match w.heap[b]? with
 | some (.cells arr _ _)=>arr.toList
 | _=>[]
def ZY:List Leaf->List Value->List (Nat×Value)
 | .sl id::r,c::cs=>(id,c)::ZY r cs
 | _::r,_::cs=>ZY r cs
 | _,_=>[]
theorem Bh:∀ {ls:List Leaf} {cs:List Value} {n:Nat},All2 (LeafOk loc) ls cs->(∀ l∈ls,l.lt n)->∀ p∈ZY ls cs,p.1<n/\loc p.1=p.2
 | [],_,n,h,hl,p,hp=>by simp[ZY] at hp
 | _::_,[],n,h,hl,p,hp=>h.elim
 | l::r,c::cs,n,h,hl,p,hp=>by
  have ih:=Bh (n:=n) h.2 (λ l hm=>hl l (by simp[hm])) p;cases l with
  | sl id=>
   simp only[ZY,aiP] at hp;rcases hp with rfl|hp
   ·exact⟨hl (.sl id) (by simp),h.1.1.symm⟩
   ·exact ih hp
  | _=>exact ih (by simpa[ZY] using hp)
def Zl (w:World):(ps:List (PK×Ty))->zW ps->Nat->List Nat->List (Nat×Value)
 | [],_,_,_=>[]
 | (.rd,t)::ps,v,j,xp=>Zl w ps v.2 (zd (.imm false) 0 t v.1 j).2.2 xp
 | (.own,t)::ps,v,j,xp=>Zl w ps v.2 (zd (.own false) 0 t v.1 j).2.2 xp
 | (.cap,t)::ps,v,j,xp=>Zl w ps v.2 (zd (.imm false) 0 t v.1 (j+1)).2.2 xp
 | (.clo _,t)::ps,v,j,xp=>Zl w ps v.2 (zd (.imm false) 0 t v.1 (j+1)).2.2 xp
 | (.ptr,t)::ps,v,j,xp=>match xp with
  | b::xp'=>((j,.pointer (some ⟨b,0,none⟩))::ZY (zd (.imm false) 0 t v.1 (j+1)).1 (No w b))++Zl w ps v.2 (zd (.imm false) 0 t v.1 (j+1)).2.2 xp'
  | []=>[]
theorem Ob {t:Ty} {ps:List (PK×Ty)} {v:zW ((.rd,t)::ps)} {j:Nat} {x:List AV×List (Nat×Ent)×Nat} (h:yW ((.rd,t)::ps) v j=some x):
  ∃ y xs es j',Zx t (zd (.imm false) 0 t v.1 j).1=some y/\yW ps v.2 (zd (.imm false) 0 t v.1 j).2.2=some (xs,es,j')/\x=(.v y::xs,es++(zd (.imm false) 0 t v.1 j).2.1,j'):=by
 unfold yW at h;simp only at h;split at h
 ·next y xs es j' h1 h2=>cases h; exact⟨y,xs,es,j',h1,h2,rfl⟩
 ·cases h
theorem I9 {t:Ty} {ps:List (PK×Ty)} {v:zW ((.own,t)::ps)} {j:Nat} {x:List AV×List (Nat×Ent)×Nat} (h:yW ((.own,t)::ps) v j=some x):
  ∃ y xs es j',Zx t (zd (.own false) 0 t v.1 j).1=some y/\yW ps v.2 (zd (.own false) 0 t v.1 j).2.2=some (xs,es,j')/\x=(.v y::xs,es++(zd (.own false) 0 t v.1 j).2.1,j'):=by
 unfold yW at h;simp only at h;split at h
 ·next y xs es j' h1 h2=>cases h; exact⟨y,xs,es,j',h1,h2,rfl⟩
 ·cases h
theorem Oa {t:Ty} {ps:List (PK×Ty)} {v:zW ((.ptr,t)::ps)} {j:Nat} {x:List AV×List (Nat×Ent)×Nat} (h:yW ((.ptr,t)::ps) v j=some x):
  ∃ xs es j',yW ps v.2 (zd (.imm false) 0 t v.1 (j+1)).2.2=some (xs,es,j')/\
   x=(.v (.one (.ptr j 0))::xs,es++((j,.box 0 (zd (.imm false) 0 t v.1 (j+1)).1)::(zd (.imm false) 0 t v.1 (j+1)).2.1),j'):=by
 unfold yW at h;simp only at h;split at h
 ·next xs es j' h2=>cases h; exact⟨xs,es,j',h2,rfl⟩
 ·cases h
theorem I7 {t:Ty} {ps:List (PK×Ty)} {v:zW ((.cap,t)::ps)} {j:Nat} {x:List AV×List (Nat×Ent)×Nat} (h:yW ((.cap,t)::ps) v j=some x):
  ∃ xs es j',yW ps v.2 (zd (.imm false) 0 t v.1 (j+1)).2.2=some (xs,es,j')/\
   x=(.v (.one (.ptr j 0))::xs,es++((j,.cst (zd (.imm false) 0 t v.1 (j+1)).1)::(zd (.imm false) 0 t v.1 (j+1)).2.1),j'):=by
 unfold yW at h;simp only at h;split at h
 ·next xs es j' h2=>cases h; exact⟨xs,es,j',h2,rfl⟩
 ·cases h
theorem I8 {f:Nat} {t:Ty} {ps:List (PK×Ty)} {v:zW ((.clo f,t)::ps)} {j:Nat} {x:List AV×List (Nat×Ent)×Nat} (h:yW ((.clo f,t)::ps) v j=some x):
  ∃ xs es j',yW ps v.2 (zd (.imm false) 0 t v.1 (j+1)).2.2=some (xs,es,j')/\
   x=(.v (.one (.fn f [j]))::xs,es++((j,.cst (zd (.imm false) 0 t v.1 (j+1)).1)::(zd (.imm false) 0 t v.1 (j+1)).2.1),j'):=by
 unfold yW at h;simp only at h;split at h
 ·next xs es j' h2=>cases h; exact⟨xs,es,j',h2,rfl⟩
 ·cases h
structure Entered [Tags] (w:World) (γ:Nat->Own) (loc:Nat->Value) (j:Nat) (vals:List Value) (xo xp:List Nat) (avs:List AV) (es:List (Nat×Ent)) (j':Nat) (pins:List (Nat×Value)) (loc':Nat->Value) (γ':Nat->Own):Prop where
 locs:∀ i,(i<j∨j'<=i)->loc' i=loc i
 le:j<=j'
 vals:All2 (AVOk loc') avs vals
 lts:∀ x∈avs,x.lt j'
 own:∀ b,b∉xo->b∉xp->γ' b=γ b
 ents:∀ (id:Nat) (e:Ent),look es id=some e->EntOk γ' loc' w id e/\j<=id/\id<j'/\e.lt j'
 pins:∀ p∈pins,p.1<j'/\loc' p.1=p.2
theorem Entered.more [Tags] {γ γ1 γ2:Nat->Own} {loc loc1 loc2:Nat->Value} {j j1 j':Nat} {v:Value} {vals:List Value} {x1 xo x2 xp:List Nat} {av:AV} {avs:List AV} {es1 es:List (Nat×Ent)} {p1 pins:List (Nat×Value)}
  (h:Entered w γ1 loc1 j1 vals xo xp avs es j' pins loc2 γ2) (hle:j<=j1) (aa8:∀ i,(i<j∨j1<=i)->loc1 i=loc i) (hv:AVOk loc1 av v) (hlt:av.lt j1)
  (X7:∀ b,b∉x1->b∉x2->γ1 b=γ b) (hal:∀ b,(b∈xo∨b∈xp)->γ1 b=.alien)
  (he:∀ (id:Nat) (e:Ent),look es1 id=some e->EntOk γ1 loc1 w id e/\j<=id/\id<j1/\e.lt j1) (hp:∀ p∈p1,p.1<j1/\loc1 p.1=p.2):
  Entered w γ loc j (v::vals) (x1++xo) (x2++xp) (av::avs) (es++es1) j' (p1++pins) loc2 γ2:=by
 have hl2:∀ i<j1,loc2 i=loc1 i:=λ i hi=>h.locs i (.inl hi);have hm:Moves (λ _=>False) γ1 γ2 w w:=by
  have key:∀ b,γ1 b ≠ .alien->γ2 b=γ1 b:=λ b hb=>h.own b (λ hx=>hb (hal b (.inl hx))) (λ hx=>hb (hal b (.inr hx)));constructor
  ·intro b _ hb; exact⟨by rw[key b (by simp[hb])]; exact hb,rfl⟩
  ·intro b i _ hb _; exact⟨by rw[key b (by simp[hb])]; exact hb,rfl⟩
  ·intro b i _ hb; exact⟨rfl,λ _=>by rw[key b (by simp[hb])]; exact hb,λ h=>h.elim⟩
 have acI:=h.le;refine⟨?_,by omega,⟨hv.loc hlt hl2,h.vals⟩,?_,?_,?_,?_⟩
 ·intro i hi;rw[h.locs i (by omega),aa8 i (by omega)]
 ·intro x hx;rcases List.mem_cons.1 hx with rfl|hx
  ·exact AV.lt_mono acI hlt
  ·exact h.lts x hx
 ·intro b hb hb';simp only[aiQ,not_or] at hb hb';rw[h.own b hb.2 hb'.2,X7 b hb.1 hb'.1]
 ·intro id e XV;rw[Zg] at XV;cases hh:look es id with
  | some e'=>
   rw[hh] at XV;simp at XV;subst XV;obtain⟨c1,c2,c3,c4⟩:=h.ents id _ hh;exact⟨c1,by omega,c3,c4⟩
  | none=>
   rw[hh] at XV;simp at XV;obtain⟨c1,c2,c3,c4⟩:=he id e XV;exact⟨EntOk.moves hm (λ h=>h) c4 c3 hl2 c1,c2,by omega,Ent.lt_mono acI c4⟩
 ·intro p hp';rcases List.mem_append.1 hp' with hp'|hp'
  ·obtain⟨c1,c2⟩:=hp p hp';exact⟨by omega,by rw[hl2 _ c1]; exact c2⟩
  ·exact h.pins p hp'
theorem bv [Tags] {t:Ty} {v:den t} {k:Kind} {lvl j:Nat} {γ:Nat->Own} {loc:Nat->Value} (h:∀ (id:Nat) (e:Ent),look (zd k lvl t v j).2.1 id=some e->EntOk γ loc w id e):
  ∀ (id:Nat) (e:Ent),look (zd k lvl t v j).2.1 id=some e->EntOk γ loc w id e/\j<=id/\id<(zd k lvl t v j).2.2/\e.lt (zd k lvl t v j).2.2:=by
 intro id e he;obtain⟨g1,g2,E',et,zs,rfl⟩:=(y8 k lvl t v j).keys id e he;exact⟨h id _ he,g1,g2,trivial⟩
theorem KS [Tags]:∀ (ps:List (PK×Ty)) (vs:zW ps) (j:Nat) (vals:List Value) (r rp rc xo xp:List Nat) (avs:List AV) (es:List (Nat×Ent)) (j':Nat) (loc:Nat->Value) (γ:Nat->Own),
  ArgsOk w ps vs vals r rp rc xo xp->yW ps vs j=some (avs,es,j')->(xo++xp).Nodup->(∀ b∈xo++xp,b∉r/\b∉rp/\b∉rc)->(∀ b,(b∈r∨b∈rp∨b∈rc)->γ b=.persist)->(∀ b,(b∈xo∨b∈xp)->γ b=.alien)->
  ∃ loc' γ',Entered w γ loc j vals xo xp avs es j' (Zl w ps vs j xp) loc' γ'
 | [],vs,j,vals,r,rp,rc,xo,xp,avs,es,j',loc,γ,h,he,hn,hd,hp,ha=>by
  simp only[yW,aiy,aiF] at he;obtain⟨rfl,rfl,rfl⟩:=he;obtain⟨rfl,_⟩:=h;exact⟨loc,γ,λ _ _=>rfl,Nat.le_refl _,trivial,by simp,λ _ _ _=>rfl,by simp[look],by simp[Zl]⟩
 | (.rd,t)::ps,vs,j,vals,r,rp,rc,xo,xp,avs,es,j',loc,γ,h,he,hn,hd,hp,ha=>by
  obtain⟨y,xs,es',j'',hmk,XW,hx⟩:=Ob he;simp only[aiF] at hx;obtain⟨rfl,rfl,rfl⟩:=hx;obtain⟨cs,vs',fp,r',rfl,h1,rfl,h2⟩:=h;obtain⟨loc1,a1,a2,a3⟩:=JP (γ:=γ) (taint:=false) 0 t vs.1 j cs fp loc h1 (λ b hb=>.inl (hp b (by simp[hb])));have so:=y8 (.imm false) 0 t vs.1 j;obtain⟨m1,m2⟩:=J8 hmk a2 so.lt;obtain⟨loc2,γ2,hE⟩:=KS ps vs.2 _ vs' r' rp rc xo xp xs es' _ loc1 γ h2 XW hn (λ b hb=>⟨λ h=>(hd b hb).1 (by simp[h]),(hd b hb).2⟩)
   (λ b hb=>hp b (by rcases hb with h|h|h<;>simp[h])) ha
  exact⟨loc2,γ2,hE.more (x1:=[]) (x2:=[]) (p1:=[]) so.le a1 m1 m2 (λ _ _ _=>rfl) ha (bv a3) (by simp)⟩
 | (.own,t)::ps,vs,j,vals,r,rp,rc,xo,xp,avs,es,j',loc,γ,h,he,hn,hd,hp,ha=>by
  obtain⟨y,xs,es',j'',hmk,XW,hx⟩:=I9 he;simp only[aiF] at hx;obtain⟨rfl,rfl,rfl⟩:=hx;obtain⟨cs,vs',xb,fs,r',xo',rfl,h1,rfl,rfl,h2⟩:=h;rw[ajd] at hn;obtain⟨n1,n2,n3⟩:=List.nodup_append.1 hn;have hxf:∀ b∈xb,b∉fs:=λ b hb hf=>(hd b (by simp[hb])).1 (by simp[hf]);obtain⟨loc1,γ1,a1,a2,a3,a4,a5,a6,a7⟩:=bw false 0 t vs.1 j cs xb fs loc γ h1 n1 hxf (by simp) (λ _ b hb=>hp b (by simp[hb]));have so:=y8 (.own false) 0 t vs.1 j;obtain⟨m1,m2⟩:=J8 hmk a2 so.lt;have hal:∀ b,(b∈xo'∨b∈xp)->γ1 b=.alien:=by
   intro b hb;rw[a4 rfl b (λ h=>n3 b h b (by simpa using hb) rfl)];exact ha b (by rcases hb with h|h<;>simp[h])
  obtain⟨loc2,γ2,hE⟩:=KS ps vs.2 _ vs' r' rp rc xo' xp xs es' _ loc1 γ1 h2 XW n2 (λ b hb=>⟨λ h=>(hd b (by rcases List.mem_append.1 hb with h|h<;>simp[h])).1 (by simp[h]),(hd b (by rcases List.mem_append.1 hb with h|h<;>simp[h])).2⟩)
   (λ b hb=>by
    have hb':b∈fs++r'∨b∈rp∨b∈rc:=by rcases hb with h|h|h<;>simp[h]
    rw[a4 rfl b (λ h=>by
     have:=hd b (by simp[h]);rcases hb' with h'|h'|h'
     ·exact this.1 h'
     ·exact this.2.1 h'
     ·exact this.2.2 h')]
    exact hp b hb') hal
  exact⟨loc2,γ2,hE.more (x1:=xb) (x2:=[]) (p1:=[]) so.le a1 m1 m2 (λ b hb _=>a4 rfl b hb) hal (bv (a7 γ1 (λ _ _=>rfl) (λ _ _=>rfl))) (by simp)⟩
 | (.ptr,t)::ps,vs,j,vals,r,rp,rc,xo,xp,avs,es,j',loc,γ,h,he,hn,hd,hp,ha=>by
  obtain⟨xs,es',j'',XW,hx⟩:=Oa he;simp only[aiF] at hx;obtain⟨rfl,rfl,rfl⟩:=hx;obtain⟨b,vs',arr,T,fr,fp,rp',xp',rfl,h1,h2,h3,rfl,rfl,h4⟩:=h;obtain⟨loc1,a1,a2,a3⟩:=JP (γ:=λ c=>if c=b then .top j else γ c) (taint:=false) 0 t vs.1 (j+1) _ fp (λ i=>if i=j then .pointer (some ⟨b,0,none⟩) else loc i) h3
   (λ c hc=>.inl (by
    have hcb:c≠b:=λ e=>(hd b (by simp)).2.1 (by rw[←e]; simp[hc])
    simp only[if_neg hcb];exact hp c (by simp[hc])))
  have so:=y8 (.imm false) 0 t vs.1 (j+1);have hle:=so.le;have hj:loc1 j=.pointer (some ⟨b,0,none⟩):=by rw[a1 j (.inl (by omega))]; simp
  obtain⟨n1,n2,n3⟩:=List.nodup_append.1 hn;obtain⟨n4,n5⟩:=List.nodup_cons.1 n2;have hbo:b∉xo:=λ h=>n3 b h b (by simp) rfl;have hal:∀ c,(c∈xo∨c∈xp')->(if c=b then .top j else γ c)=.alien:=by
   intro c hc;have:c≠b:=by
    rintro rfl;rcases hc with h|h
    ·exact hbo h
    ·exact n4 h
   rw[if_neg this];exact ha c (by rcases hc with h|h<;>simp[h])
  obtain⟨loc2,γ2,hE⟩:=KS ps vs.2 _ vs' r rp' rc xo xp' xs es' _ loc1 (λ c=>if c=b then .top j else γ c) h4 XW (Zj n1 n5 (λ c hc hc'=>n3 c hc c (by simp[hc']) rfl))
   (λ c hc=>⟨(hd c (by rcases List.mem_append.1 hc with h|h<;>simp[h])).1,λ h=>(hd c (by rcases List.mem_append.1 hc with h|h<;>simp[h])).2.1 (by simp[h]),(hd c (by rcases List.mem_append.1 hc with h|h<;>simp[h])).2.2⟩)
   (λ c hc=>by
    have hc':c∈r∨c∈fp++rp'∨c∈rc:=by rcases hc with h|h|h<;>simp[h]
    have:c≠b:=by
     rintro rfl;have:=hd c (by simp);rcases hc' with h|h|h
     ·exact this.1 h
     ·exact this.2.1 h
     ·exact this.2.2 h
    simp only[if_neg this];exact hp c hc') hal
  refine⟨loc2,γ2,hE.more (x1:=[]) (x2:=[b]) (p1:=(j,.pointer (some ⟨b,0,none⟩))::ZY (zd (.imm false) 0 t vs.1 (j+1)).1 (No w b)) (j:=j) (loc:=loc) (by omega) ?_ ⟨b,hj,rfl⟩ (by simp only[AV.lt,V1.lt,Leaf.lt]; omega) ?_ hal ?_ ?_⟩
  ·intro i hi;rw[a1 i (by omega),if_neg (by omega)]
  ·intro c _ hc; simp only[ajG] at hc; simp[hc]
  ·intro id e XV;rw[yK] at XV;split at XV
   ·next hi=>
    cases XV;subst hi;exact⟨⟨b,arr,T,fr,hj,h1,h2,by simp,a2⟩,Nat.le_refl _,by omega,so.lt⟩
   ·obtain⟨c1,c2,c3,c4⟩:=bv a3 id e XV;exact⟨c1,by omega,c3,c4⟩
  ·intro p hp';rcases List.mem_cons.1 hp' with rfl|hp'
   ·exact⟨by simp only; omega,hj⟩
   ·have hca:No w b=arr.toList:=by simp[No,h1]
    rw[hca] at hp';exact Bh a2 so.lt p hp'
 | (.cap,t)::ps,vs,j,vals,r,rp,rc,xo,xp,avs,es,j',loc,γ,h,he,hn,hd,hp,ha=>by
  obtain⟨xs,es',j'',XW,hx⟩:=I7 he;simp only[aiF] at hx;obtain⟨rfl,rfl,rfl⟩:=hx;obtain⟨b,vs',arr,T,fr,fp,r',rc',rfl,h1,h3,rfl,rfl,h4⟩:=h;obtain⟨loc1,a1,a2,a3⟩:=JP (γ:=γ) (taint:=false) 0 t vs.1 (j+1) _ fp (λ i=>if i=j then .pointer (some ⟨b,0,none⟩) else loc i) h3 (λ c hc=>.inl (hp c (by simp[hc])));have so:=y8 (.imm false) 0 t vs.1 (j+1);have hle:=so.le;have hj:loc1 j=.pointer (some ⟨b,0,none⟩):=by rw[a1 j (.inl (by omega))]; simp
  obtain⟨loc2,γ2,hE⟩:=KS ps vs.2 _ vs' r' rp rc' xo xp xs es' _ loc1 γ h4 XW hn (λ c hc=>⟨λ h=>(hd c hc).1 (by simp[h]),(hd c hc).2.1,λ h=>(hd c hc).2.2 (by simp[h])⟩)
   (λ c hc=>hp c (by rcases hc with h|h|h<;>simp[h])) ha
  refine⟨loc2,γ2,hE.more (x1:=[]) (x2:=[]) (p1:=[]) (j:=j) (loc:=loc) (by omega) ?_ ⟨b,hj,rfl⟩ (by simp only[AV.lt,V1.lt,Leaf.lt]; omega) (λ _ _ _=>rfl) ha ?_ (by simp)⟩
  ·intro i hi;rw[a1 i (by omega),if_neg (by omega)]
  ·intro id e XV;rw[yK] at XV;split at XV
   ·next hi=>
    cases XV;subst hi;exact⟨⟨b,arr,T,fr,hj,h1,hp b (by simp),a2⟩,Nat.le_refl _,by omega,so.lt⟩
   ·obtain⟨c1,c2,c3,c4⟩:=bv a3 id e XV;exact⟨c1,by omega,c3,c4⟩
 | (.clo f,t)::ps,vs,j,vals,r,rp,rc,xo,xp,avs,es,j',loc,γ,h,he,hn,hd,hp,ha=>by
  obtain⟨xs,es',j'',XW,hx⟩:=I8 he;simp only[aiF] at hx;obtain⟨rfl,rfl,rfl⟩:=hx;obtain⟨b,vs',arr,T,fr,fp,r',rc',rfl,h1,h3,rfl,rfl,h4⟩:=h;obtain⟨loc1,a1,a2,a3⟩:=JP (γ:=γ) (taint:=false) 0 t vs.1 (j+1) _ fp (λ i=>if i=j then .pointer (some ⟨b,0,none⟩) else loc i) h3 (λ c hc=>.inl (hp c (by simp[hc])));have so:=y8 (.imm false) 0 t vs.1 (j+1);have hle:=so.le;have hj:loc1 j=.pointer (some ⟨b,0,none⟩):=by rw[a1 j (.inl (by omega))]; simp
  obtain⟨loc2,γ2,hE⟩:=KS ps vs.2 _ vs' r' rp rc' xo xp xs es' _ loc1 γ h4 XW hn (λ c hc=>⟨λ h=>(hd c hc).1 (by simp[h]),(hd c hc).2.1,λ h=>(hd c hc).2.2 (by simp[h])⟩)
   (λ c hc=>hp c (by rcases hc with h|h|h<;>simp[h])) ha
  refine⟨loc2,γ2,hE.more (x1:=[]) (x2:=[]) (p1:=[]) (j:=j) (loc:=loc) (by omega) ?_ ⟨by simp[hj],λ c hc=>by simp at hc; subst hc; exact⟨b,hj⟩⟩ (by intro c hc; simp at hc; subst hc; omega) (λ _ _ _=>rfl) ha ?_ (by simp)⟩
  ·intro i hi;rw[a1 i (by omega),if_neg (by omega)]
  ·intro id e XV;rw[yK] at XV;split at XV
   ·next hi=>
    cases XV;subst hi;exact⟨⟨b,arr,T,fr,hj,h1,hp b (by simp),a2⟩,Nat.le_refl _,by omega,so.lt⟩
   ·obtain⟨c1,c2,c3,c4⟩:=bv a3 id e XV;exact⟨c1,by omega,c3,c4⟩
def YF (tmps:Array Value):ResultVar->Sem Value
 | .tmp t=>pure (tmps.getD t undef)
 | .cell a t=>do loadVar t (←asAddr (tmps.getD a undef))
theorem xS {α β:Type} {f:α->Sem β} {w:World}:∀ {xs:List α} {ys:List β},All2 (λ x y=>(f x).run P w=.ok y w) xs ys->(xs.mapM f).run P w=.ok ys w
 | [],[],_=>by simp
 | x::xs,y::ys,h=>by simp only[List.mapM_cons,aiK,h.1,aiH,xS h.2,aiJ]
 | [],_::_,h=>h.elim
 | _::_,[],h=>h.elim
theorem ag [Tags] {fn:Func} {tmps:Array Value} {w:World} {vs:List Value} (h:All2 (λ x v=>(YF tmps x).run P w=.ok v w) fn.results.toList vs):(results fn tmps).run P w=.ok (ZU vs) w:=by
 have h1:=xS h;have h2:(fn.results.mapM (YF tmps)).run P w=.ok vs.toArray w:=by
  rw[Array.mapM_eq_mapM_toList];simp only[map_eq_pure_bind,aiK,h1,aiH,aiJ]
 have h3:results fn tmps=(do let vs ←fn.results.mapM (YF tmps); pure (if h:vs.size=1 then vs[0] else .tuple vs)):=by
  unfold results;rfl
 rw[h3];simp only[aiK,h2,aiH,aiJ];congr 1
 match vs with
 | []=>rfl
 | [v]=>rfl
 | _::_::_=>rfl
theorem xF [Tags] (hT:yi P E.tys=true) (hr:Rel0 B X A w0 γ loc st a w) {t:Ty} {x:ResultVar} {ls:List Leaf} (h:ey E st t x=some ls) {v:den t} (hc:jg st.tab t ls=some v):
  ∃ cs,(YF a.tmps x).run P w=.ok (ym t cs) w/\All2 (LeafOk loc) ls cs:=by
 cases x with
 | tmp s=>
  simp only[ey] at h;split at h
  ·next y hy=>
   obtain⟨cs,e1,e2⟩:=MR h (hr.slots s y hy);exact⟨cs,by simp only[YF,aiJ,e1],e2⟩
  ·cases h
 | cell s T=>
  simp only[ey] at h;split at h
  ·next id d hs hd=>
   split at h
   ·next lvl cells hl hck=>
    cases h;simp only[aix,aiI,ajs] at hck;obtain⟨X3,XZ⟩:=hck;subst X3;obtain⟨b,e1,e2⟩:=hr.slots s _ hs;obtain⟨b',arr,T',fr,g1,g2,g3,g4,g5⟩:=hr.ents id _ hl;rw[g1] at e1;simp only[Value.pointer.injEq,aiy,Addr.mk.injEq,and_true] at e1;subst e1;obtain⟨fp,q1,_⟩:=Yr hr hc g5;have X0:=q1.len;have X1:arr.size=d.ty.size:=by simpa using X0
    refine⟨arr.toList,?_,g5⟩;simp only[YF,e2,asAddr,pure_bind,xR (zY hT hd) XZ g2 (show 0+d.ty.size<=arr.size by omega)];simp only[aiW];rw[←X1,←aji,ajt]
   ·cases h
  ·cases h
theorem n8 [Tags] (hT:yi P E.tys=true) (hr:Rel0 B X A w0 γ loc st a w):∀ (ts:List Ty) (xs:List ResultVar) (vs:dens ts) (ls:List Leaf),YE E st ts xs=some (vs,ls)->
  ∃ css fs,RetL w .shared ts vs css [] fs/\All2 (λ x v=>(YF a.tmps x).run P w=.ok v w) xs (Zc ts css)/\(∀ b∈fs,γ b ≠ .alien/\∀ i,γ b=.top i->LC st i)
 | [],[],vs,ls,h=>⟨[],[],⟨rfl,rfl,rfl⟩,trivial,by simp⟩
 | t::ts,x::xs,vs,ls,h=>by
  simp only[YE] at h;split at h
  ·cases h
  ·next l1 hl=>
   split at h
   ·next v vs' ls' hc XW=>
    simp only[aiy,aiF] at h;obtain⟨rfl,rfl⟩:=h;obtain⟨cs,e1,e2⟩:=xF hT hr hl hc;obtain⟨fp,q1,q2,_⟩:=Yr hr hc e2;obtain⟨css,fs,k1,k2,k3⟩:=n8 hT hr ts xs vs' ls' XW;refine⟨cs::css,fp++fs,⟨cs,css,[],[],fp,fs,rfl,rfl,rfl,⟨rfl,q1⟩,k1⟩,⟨e1,k2⟩,?_⟩;intro b hb;rcases List.mem_append.1 hb with hb|hb
    ·exact⟨(q2 b hb).1,λ i hi=>bY hc i ((q2 b hb).2 i hi)⟩
    ·exact k3 b hb
   ·cases h
 | [],_::_,vs,ls,h=>by simp[YE] at h
 | _::_,[],vs,ls,h=>by simp[YE] at h
theorem ac [Tags] (hT:yi P E.tys=true) (hr:Rel0 B X A w0 γ loc st a w) (rk:RK) (X9:rk ≠ .shared):∀ (ts:List Ty) (xs:List ResultVar) (vs:dens ts) (ls:List Leaf) (ids:List Nat),YE E st ts xs=some (vs,ls)->
  yf st ls=some ids->
  ∃ css xb fs,RetL w rk ts vs css xb fs/\All2 (λ x v=>(YF a.tmps x).run P w=.ok v w) xs (Zc ts css)/\xb.Nodup/\(∀ b∈xb,∃ i∈ids,γ b=.top i)/\(∀ b∈fs,γ b=.persist∨∃ i∈ids,γ b=.deep i)/\
   ((∀ i∈ids,KE st i)->fs.Nodup/\∀ b∈fs,∃ i∈ids,γ b=.deep i)
 | [],[],vs,ls,ids,h,hg=>⟨[],[],[],⟨rfl,rfl,rfl⟩,trivial,by simp,by simp,by simp,by simp⟩
 | t::ts,x::xs,vs,ls,ids,h,hg=>by
  simp only[YE] at h;split at h
  ·cases h
  ·next l1 hl=>
   split at h
   ·next v vs' ls' hc XW=>
    simp only[aiy,aiF] at h;obtain⟨rfl,rfl⟩:=h;obtain⟨i1,i2,g1,g2,rfl,g4⟩:=YZ hg;obtain⟨cs,e1,e2⟩:=xF hT hr hl hc;obtain⟨x1,f1,q1,q2,q3,q4,q5⟩:=MU hr hc e2 g1;obtain⟨css,x2,f2,k1,k2,k3,k4,k5,k6⟩:=ac hT hr rk X9 ts xs vs' ls' i2 XW g2;have hR1:rg w rk t v cs x1 f1:=by
     cases rk with
     | shared=>exact absurd rfl X9
     | own=>exact q1
     | uniq=>exact q1
    refine⟨cs::css,x1++x2,f1++f2,⟨cs,css,x1,x2,f1,f2,rfl,rfl,rfl,hR1,k1⟩,⟨e1,k2⟩,?_,?_,?_,?_⟩
    ·refine Zj q2 k3 ?_;intro b hb hb';obtain⟨i,hi,e⟩:=q3 b hb;obtain⟨j,hj,e'⟩:=k4 b hb';rw[e] at e'; cases e'
     exact g4 _ hi hj
    ·intro b hb;rcases List.mem_append.1 hb with hb|hb
     ·obtain⟨i,hi,h⟩:=q3 b hb; exact⟨i,by simp[hi],h⟩
     ·obtain⟨i,hi,h⟩:=k4 b hb; exact⟨i,by simp[hi],h⟩
    ·intro b hb;rcases List.mem_append.1 hb with hb|hb
     ·rcases q4 b hb with h|⟨i,hi,h⟩
      ·exact .inl h
      ·exact .inr ⟨i,by simp[hi],h⟩
     ·rcases k5 b hb with h|⟨i,hi,h⟩
      ·exact .inl h
      ·exact .inr ⟨i,by simp[hi],h⟩
    ·intro hu;obtain⟨n1,d1⟩:=q5 (λ i hi=>hu i (by simp[hi]));obtain⟨n2,d2⟩:=k6 (λ i hi=>hu i (by simp[hi]));refine⟨Zj n1 n2 ?_,?_⟩
     ·intro b hb hb';obtain⟨i,hi,e⟩:=d1 b hb;obtain⟨j,hj,e'⟩:=d2 b hb';rw[e] at e'; cases e'
      exact g4 _ hi hj
     ·intro b hb;rcases List.mem_append.1 hb with hb|hb
      ·obtain⟨i,hi,h⟩:=d1 b hb; exact⟨i,by simp[hi],h⟩
      ·obtain⟨i,hi,h⟩:=d2 b hb; exact⟨i,by simp[hi],h⟩
   ·cases h
 | [],_::_,vs,ls,ids,h,hg=>by simp[YE] at h
 | _::_,[],vs,ls,ids,h,hg=>by simp[YE] at h
theorem pB (k:Kind) (lvl:Nat):∀ (t:Ty) (v:den t) (j:Nat),(zd k lvl t v j).1.length=t.size/\∀ l∈(zd k lvl t v j).1,l ≠ .nil
 | .i64,v,j | .u8,v,j | .bool,v,j | .str,v,j | .sl _ _,v,j=>by simp[zd,Ty.size]
 | .pair a b,v,j=>by
  obtain⟨a1,a2⟩:=pB k lvl a v.1 j;obtain⟨b1,b2⟩:=pB k lvl b v.2 (zd k lvl a v.1 j).2.2;have e:(zd k lvl (.pair a b) v j).1=(zd k lvl a v.1 j).1++(zd k lvl b v.2 (zd k lvl a v.1 j).2.2).1:=rfl;rw[e];refine⟨by simp[a1,b1,Ty.size],λ l hl => ?_⟩;rcases List.mem_append.1 hl with hl|hl
  ·exact a2 l hl
  ·exact b2 l hl
theorem ay {x:Leaf} {r:List Leaf} {c:Value} {cs:List Value}:∀ p∈ZY r cs,p∈ZY (x::r) (c::cs):=by
 intro p hp;cases x<;>simp[ZY,hp]
theorem lJ [Tags] {tab:List (Nat×Ent)}:∀ (t:Ty) (ls0 ls:List Leaf) (c0 cs:List Value) (v:den t) (r:List Leaf),zH tab t ls=some (v,r)->j8 ls0 ls=true->All2 (LeafOk loc) ls cs->c0.length=ls0.length->
  (∀ l∈ls0,l ≠ .nil)->(∀ p∈ZY ls0 c0,loc p.1=p.2)->
  ∃ c1 c2 d1 d2 r0,c0=c1++c2/\cs=d1++d2/\MK t v c1 d1/\c2.length=r0.length/\j8 r0 r=true/\All2 (LeafOk loc) r d2/\(∀ l∈r0,l ≠ .nil)/\(∀ p∈ZY r0 c2,loc p.1=p.2)
 | .i64,ls0,ls,c0,cs,v,r,h,hs,ha,hl,hn,hp=>by
  match ls,h with
  | .i n::r',h=>
   simp only[zH,aiy,aiF] at h;obtain⟨rfl,rfl⟩:=h
   match ls0,cs,c0,hl,ha with
   | [],_,_,_,_=>cases Jf hs
   | x::s,d::ds,c::c0,hl,ha=>
    obtain⟨y,s',e,_,h2⟩:=YM hs;cases e;exact⟨[c],c0,[d],ds,s,rfl,rfl,⟨rfl,by rw[ha.1.1],ha.1.2⟩,by simpa using hl,h2,ha.2,λ l hl=>hn l (by simp[hl]),λ p hp'=>hp p (ay p hp')⟩
 | .u8,ls0,ls,c0,cs,v,r,h,hs,ha,hl,hn,hp=>by
  match ls,h with
  | .u n::r',h=>
   simp only[zH,aiy,aiF] at h;obtain⟨rfl,rfl⟩:=h
   match ls0,cs,c0,hl,ha with
   | [],_,_,_,_=>cases Jf hs
   | x::s,d::ds,c::c0,hl,ha=>
    obtain⟨y,s',e,_,h2⟩:=YM hs;cases e;have hd:d=_:=ha.1;exact⟨[c],c0,[d],ds,s,rfl,rfl,⟨rfl,by rw[hd]⟩,by simpa using hl,h2,ha.2,λ l hl=>hn l (by simp[hl]),λ p hp'=>hp p (ay p hp')⟩
 | .bool,ls0,ls,c0,cs,v,r,h,hs,ha,hl,hn,hp=>by
  match ls,h with
  | .b n::r',h=>
   simp only[zH,aiy,aiF] at h;obtain⟨rfl,rfl⟩:=h
   match ls0,cs,c0,hl,ha with
   | [],_,_,_,_=>cases Jf hs
   | x::s,d::ds,c::c0,hl,ha=>
    obtain⟨y,s',e,_,h2⟩:=YM hs;cases e;have hd:d=_:=ha.1;exact⟨[c],c0,[d],ds,s,rfl,rfl,⟨rfl,by rw[hd]⟩,by simpa using hl,h2,ha.2,λ l hl=>hn l (by simp[hl]),λ p hp'=>hp p (ay p hp')⟩
 | .str,ls0,ls,c0,cs,v,r,h,hs,ha,hl,hn,hp=>by
  match ls,h with
  | .s n::r',h=>
   simp only[zH,aiy,aiF] at h;obtain⟨rfl,rfl⟩:=h
   match ls0,cs,c0,hl,ha with
   | [],_,_,_,_=>cases Jf hs
   | x::s,d::ds,c::c0,hl,ha=>
    obtain⟨y,s',e,_,h2⟩:=YM hs;cases e;exact⟨[c],c0,[d],ds,s,rfl,rfl,⟨rfl,by rw[ha.1.1],ha.1.2⟩,by simpa using hl,h2,ha.2,λ l hl=>hn l (by simp[hl]),λ p hp'=>hp p (ay p hp')⟩
 | .sl E e,ls0,ls,c0,cs,v,r,h,hs,ha,hl,hn,hp=>by
  have key:∃ l,ls=l::r/\l.isSl=true:=by
   match ls,h with
   | .nil::r',h=>
    simp only[zH,aiy,aiF] at h;exact⟨.nil,by rw[h.2],rfl⟩
   | .sl id::r',h=>
    simp only[zH] at h;split at h
    ·split at h
     ·simp only[aiy,aiF] at h;exact⟨.sl id,by rw[h.2],rfl⟩
     ·cases h
    ·cases h
  obtain⟨l,rfl,hl1⟩:=key
  match ls0,cs,c0,hl,ha with
  | [],_,_,_,_=>cases Jf hs
  | x::s,d::ds,c::c0,hl,ha=>
   obtain⟨y,s',e,h1,h2⟩:=YM hs;cases e;rcases h1 with rfl|⟨_,h4⟩
   ·refine⟨[c],c0,[d],ds,s,rfl,rfl,⟨rfl,?_⟩,by simpa using hl,h2,ha.2,λ l hl=>hn l (by simp[hl]),λ p hp'=>hp p (ay p hp')⟩;have hx:=hn x (by simp);cases x with
    | sl id=>
     have:=hp (id,c) (by simp[ZY]);simp only at this;rw[ha.1.1,this]
    | nil=>exact absurd rfl hx
    | _=>cases hl1
   ·rw[hl1] at h4; cases h4
 | .pair a b,ls0,ls,c0,cs,v,r,h,hs,ha,hl,hn,hp=>by
  simp only[zH] at h;split at h
  ·next x r1 h1=>
   split at h
   ·next y r2 h2=>
    simp only[aiy,aiF] at h;obtain⟨rfl,rfl⟩:=h;obtain⟨c1,c2,d1,d2,r0,rfl,rfl,k1,k2,k3,k4,k5,k6⟩:=lJ a ls0 ls c0 cs x r1 h1 hs ha hl hn hp;obtain⟨c3,c4,d3,d4,r3,rfl,rfl,m1,m2,m3,m4,m5,m6⟩:=lJ b r0 r1 c2 d2 y r2 h2 k3 k4 k2 k5 k6;exact⟨c1++c3,c4,d1++d3,d4,r3,by simp,by simp,⟨c1,c3,d1,d3,rfl,rfl,k1,m1⟩,m2,m3,m4,m5,m6⟩
   ·cases h
  ·cases h
theorem Cl {rets:List Ty} {rs:dens rets} {t:Ty} {ps:List (PK×Ty)} {v:zW ((.ptr,t)::ps)} {j:Nat} {out:zM ((.ptr,t)::ps) rets} (h:Jl st rets rs ((.ptr,t)::ps) v j=some out):
  ∃ lvl cells x r,look st.tab j=some (.box lvl cells)/\j8 (zd (.imm false) 0 t v.1 (j+1)).1 cells=true/\jg st.tab t cells=some x/\Jl st rets rs ps v.2 (zd (.imm false) 0 t v.1 (j+1)).2.2=some r/\out=(x,r):=by
 unfold Jl at h;simp only at h;split at h
 ·next lvl cells hl=>
  split at h
  ·next x r h1 h2 h3=>cases h; exact⟨lvl,cells,x,r,hl,h1,h2,h3,rfl⟩
  ·cases h
 ·cases h
theorem qz [Tags] (hr:Rel0 B X A w0 γ loc st a w) {n:Nat} {rk:RK} {rr xo pt:List Nat} {rets:List Ty} {v:Value} {rs:dens rets} (hR:JW w n rk rr xo pt rets v rs) {w1:World}:
  ∀ (ps:List (PK×Ty)) (vs:zW ps) (j:Nat) (xp:List Nat) (outs:zM ps rets) (vals:List Value) (r rp rc xo':List Nat),Jl st rets rs ps vs j=some outs->ArgsOk w1 ps vs vals r rp rc xo' xp->
   (∀ p∈Zl w1 ps vs j xp,loc p.1=p.2)->OutOk w1 w n rk rr xo pt rets v ps outs xp
 | [],vs,j,xp,outs,vals,r,rp,rc,xo',h,hA,hp=>by
  have h:rs=outs:=Option.some.inj h;subst h;obtain⟨_,_,_,_,_,rfl⟩:=hA;exact⟨rfl,hR⟩
 | (.rd,t)::ps,vs,j,xp,outs,vals,r,rp,rc,xo',h,hA,hp=>by
  obtain⟨cs,vs',fp,r',_,_,_,h2⟩:=hA;exact qz hr hR ps vs.2 _ xp outs vs' r' rp rc xo' h h2 hp
 | (.own,t)::ps,vs,j,xp,outs,vals,r,rp,rc,xo',h,hA,hp=>by
  obtain⟨cs,vs',xs,fs,r',xo'',_,_,_,_,h2⟩:=hA;exact qz hr hR ps vs.2 _ xp outs vs' r' rp rc xo'' h h2 hp
 | (.cap,t)::ps,vs,j,xp,outs,vals,r,rp,rc,xo',h,hA,hp=>by
  obtain⟨b,vs',arr,T,fr,fp,r',rc',_,_,_,_,_,h2⟩:=hA;exact qz hr hR ps vs.2 _ xp outs vs' r' rp rc' xo' h h2 hp
 | (.clo f,t)::ps,vs,j,xp,outs,vals,r,rp,rc,xo',h,hA,hp=>by
  obtain⟨b,vs',arr,T,fr,fp,r',rc',_,_,_,_,_,h2⟩:=hA;exact qz hr hR ps vs.2 _ xp outs vs' r' rp rc' xo' h h2 hp
 | (.ptr,t)::ps,vs,j,xp,outs,vals,r,rp,rc,xo',h,hA,hp=>by
  obtain⟨lvl,cells,x,r1,hl,X2,hc,XW,rfl⟩:=Cl h;obtain⟨b,vs',arr0,T0,fr0,fp0,rp',xp',_,q0,_,qr,_,rfl,h2⟩:=hA;obtain⟨b',arr,T,fr,g1,g2,g3,g4,g5⟩:=hr.ents j _ hl;have hj:=hp (j,.pointer (some ⟨b,0,none⟩)) (by simp[Zl]);simp only at hj;rw[hj] at g1;simp only[Value.pointer.injEq,aiy,Addr.mk.injEq,and_true] at g1;subst g1;have hca:No w1 b=arr0.toList:=by simp[No,q0]
  obtain⟨z1,z2⟩:=pB (.imm false) 0 t vs.1 (j+1);obtain⟨c1,c2,d1,d2,r0,e1,e2,k1,k2,k3,k4,_,_⟩:=lJ t _ cells arr0.toList arr.toList x [] (qK hc) X2 g5 (by rw[qr.len,z1]) z2 (λ p hp'=>hp p (by simp only[Zl,hca]; simp[hp']))
  have hr0:r0=[]:=by
   cases r0 with
   | nil=>rfl
   | cons y s=>obtain⟨_,_,e,_⟩:=YM k3; cases e
  subst hr0;have hc2:c2=[]:=by simpa using k2
  have hd2:d2=[]:=by
   cases d2 with
   | nil=>rfl
   | cons _ _=>exact k4.elim
  subst hc2 hd2;simp only[List.append_nil] at e1 e2;exact⟨b,xp',arr0,T0,fr0,arr,T,fr,rfl,q0,g2,g3,by rw[e1,e2]; exact k1,qz hr hR ps vs.2 _ xp' r1 vs' r rp' rc xo' XW h2 (λ p hp'=>hp p (by simp[Zl,hp']))⟩
theorem Nx [Tags] {rets:List Ty} {rs:dens rets}:∀ (ps:List (PK×Ty)) (vs:zW ps) (j:Nat) (xp:List Nat) (outs:zM ps rets) (vals:List Value) (r rp rc xo':List Nat) (w1:World),Jl st rets rs ps vs j=some outs->ArgsOk w1 ps vs vals r rp rc xo' xp->
  ∀ b∈xp,∃ i,(i,Value.pointer (some ⟨b,0,none⟩))∈Zl w1 ps vs j xp/\∃ lvl cells,look st.tab i=some (.box lvl cells)
 | [],vs,j,xp,outs,vals,r,rp,rc,xo',w1,h,hA=>by obtain⟨_,_,_,_,_,rfl⟩:=hA; simp
 | (.rd,t)::ps,vs,j,xp,outs,vals,r,rp,rc,xo',w1,h,hA=>by
  obtain⟨cs,vs',fp,r',_,_,_,h2⟩:=hA;exact Nx ps vs.2 _ xp outs vs' r' rp rc xo' w1 h h2
 | (.own,t)::ps,vs,j,xp,outs,vals,r,rp,rc,xo',w1,h,hA=>by
  obtain⟨cs,vs',xs,fs,r',xo'',_,_,_,_,h2⟩:=hA;exact Nx ps vs.2 _ xp outs vs' r' rp rc xo'' w1 h h2
 | (.cap,t)::ps,vs,j,xp,outs,vals,r,rp,rc,xo',w1,h,hA=>by
  obtain⟨b,vs',arr,T,fr,fp,r',rc',_,_,_,_,_,h2⟩:=hA;exact Nx ps vs.2 _ xp outs vs' r' rp rc' xo' w1 h h2
 | (.clo f,t)::ps,vs,j,xp,outs,vals,r,rp,rc,xo',w1,h,hA=>by
  obtain⟨b,vs',arr,T,fr,fp,r',rc',_,_,_,_,_,h2⟩:=hA;exact Nx ps vs.2 _ xp outs vs' r' rp rc' xo' w1 h h2
 | (.ptr,t)::ps,vs,j,xp,outs,vals,r,rp,rc,xo',w1,h,hA=>by
  obtain⟨lvl,cells,x,r1,hl,X2,hc,XW,rfl⟩:=Cl h;obtain⟨b,vs',arr0,T0,fr0,fp0,rp',xp',_,_,_,_,_,rfl,h2⟩:=hA;intro c hc';rcases List.mem_cons.1 hc' with rfl|hc'
  ·exact⟨j,by simp[Zl],lvl,cells,hl⟩
  ·obtain⟨i,k1,k2⟩:=Nx ps vs.2 _ xp' r1 vs' r rp' rc xo' w1 XW h2 c hc';exact⟨i,by simp[Zl,k1],k2⟩
theorem MZ [Tags] {avs:List AV} {vals:List Value} {n j:Nat} (h:All2 (AVOk loc) avs vals) (hl:∀ x∈avs,x.lt j) (t:Nat) (v:AV) (ht:(avs++List.replicate (n - avs.length) (.tup []))[t]?=some v):
  AVOk loc v ((vals.toArray++Array.replicate (n - vals.toArray.size) undef).getD t undef)/\v.lt j:=by
 have X0:=h.len;rw[aj7];by_cases hlt:t<avs.length
 ·rw[ajB hlt] at ht;obtain⟨y,hy,hv⟩:=h.get ht;have ah0:t<vals.length:=by omega
  have ah1:t<vals.toArray.size:=by simpa using ah0
  rw[Array.getElem?_append_left ah1];simp only[ake,hy,aj4];exact⟨hv,hl v (List.mem_of_getElem? ht)⟩
 ·rw[ak3 (by omega),List.getElem?_replicate] at ht;split at ht
  ·cases ht;have hge:vals.toArray.size<=t:=by simp; omega
   rw[Array.getElem?_append_right hge,akk];refine⟨?_,by simp[AV.lt]⟩;split
   ·exact gX loc
   ·exact gX loc
  ·cases ht
def KA (p:Nat):List (PK×Ty)->Bool
 | []=>true
 | (.rd,t)::r => !jZ p t && KA p r
 | (.own,t)::r => !jZ p t && KA p r
 | (.ptr,t)::r => !jZ p t && KA p r
 | _=>false
theorem ArgsOk.tags [Tags] {w:World}:∀ {ps:List (PK×Ty)} {vs:zW ps} {vals:List Value} {r rp rc xo xp:List Nat},ArgsOk w ps vs vals r rp rc xo xp->KA Tags.post ps=true->
  ∀ b,(b∈r∨b∈rp∨b∈rc)->∀ arr fr,w.heap[b]?≠some (.cells arr Tags.post fr)
 | [],_,_,_,_,_,_,_,h,_=>by obtain⟨_,rfl,rfl,rfl,_,_⟩:=h; simp
 | (.rd,t)::ps,v,_,_,_,_,_,_,h,ht=>by
  simp only[KA,aix,aj1] at ht;obtain⟨cs,vs,fp,r',_,h1,rfl,h'⟩:=h;intro b hb;simp only[aiQ] at hb;rcases hb with (hb|hb)|hb
  ·exact h1.tags ht.1 b hb
  ·exact h'.tags ht.2 b (.inl hb)
  ·exact h'.tags ht.2 b (.inr hb)
 | (.own,t)::ps,v,_,_,_,_,_,_,h,ht=>by
  simp only[KA,aix,aj1] at ht;obtain⟨cs,vs,xs,fs,r',xo',_,h1,rfl,_,h'⟩:=h;intro b hb;simp only[aiQ] at hb;rcases hb with (hb|hb)|hb
  ·exact h1.tags ht.1 b hb
  ·exact h'.tags ht.2 b (.inl hb)
  ·exact h'.tags ht.2 b (.inr hb)
 | (.ptr,t)::ps,v,_,_,_,_,_,_,h,ht=>by
  simp only[KA,aix,aj1] at ht;obtain⟨c,vs,arr,T,fr,fp,rp',xp',_,_,_,h1,rfl,_,h'⟩:=h;intro b hb;simp only[aiQ] at hb;rcases hb with hb|(hb|hb)|hb
  ·exact h'.tags ht.2 b (.inl hb)
  ·exact h1.tags ht.1 b hb
  ·exact h'.tags ht.2 b (.inr (.inl hb))
  ·exact h'.tags ht.2 b (.inr (.inr hb))
theorem Bo [Tags] {F:y6} {gl:Glob} (hE:jR P gl F.E) {f:FuncId} {fn:Func} (hf:P.funcs[f]?=some fn) (hn:(fn.name == "runtime.NumGoroutine")=false) {pf:PF}
  (hev:∀ args outs,pf.fn args=some outs->qN F fn pf.params pf.rets pf.rk args=some outs)
  (hTw:F.E.thaws=[]∨(KA Tags.post pf.params=true/\∀ x∈F.E.thaws,x.2=Tags.post):=by exact .inl rfl):Sound P gl f pf:=by
 constructor;intro w args vals r rp rc xo xp outs hA hnd aaO hG hgb hout;have hout:=hev _ _ hout;unfold qN at hout;split at hout
 ·next body avs es j ab9 abh=>
  have hcf:(callFunc f vals.toArray).run P w=.ok (.enter f vals.toArray) w:=by
   have hn':¬ fn.name = "runtime.NumGoroutine" := by simpa using hn
   simp[callFunc,hf,hn',ab9]
  unfold CallsTo;rw[hcf];simp only;refine calls_of_wp hf ab9 ?_
  let γ0:Nat->Own:=λ b=>open Classical in if b∈r∨b∈rp∨b∈rc then .persist else .alien
  obtain⟨loc,γ,hEn⟩:=KS pf.params args 0 vals r rp rc xo xp avs es j (λ _=>undef) γ0 hA abh hnd aaO (λ b hb=>by simp only[γ0,if_pos hb]) (λ b hb=>by
   have:=aaO b (by rcases hb with h|h<;>simp[h])
   simp only[γ0,this.1,this.2.1,this.2.2,or_self,if_false])
  let A:Ctx:={ rds:=r++rp++rc,pins:=Zl w pf.params args 0 xp,gl:=gl,tg:=KA Tags.post pf.params }
  have aai:Rel w.heap.size (xo++xp) A w { slots:=avs++List.replicate (fn.ntmps - avs.length) (.tup []),tab:=es,nxt:=j,lvl:=0 }
    { tmps:=vals.toArray++Array.replicate (fn.ntmps - vals.toArray.size) undef,defers:=[]} w:=by
   refine⟨γ,loc,?_⟩;exact {
    defers:=rfl
    keeps:=KeepsW.refl _ _ _
    unf:=λ b hb=>by
     by_cases h1:b∈xo++xp
     ·exact hA.unfr b h1
     ·simp only[aiQ,not_or] at h1;rw[hEn.own b h1.1 h1.2] at hb;by_cases hm:b∈r∨b∈rp∨b∈rc
      ·simp[γ0,if_pos hm,owned] at hb
      ·simp[γ0,if_neg hm,owned] at hb
    old:=λ b hb hx=>by
     simp only[aiQ,not_or] at hx;rw[hEn.own b hx.1 hx.2];by_cases hm:b∈r∨b∈rp∨b∈rc
     ·right;simp only[γ0,if_pos hm,A,aiQ,true_and];rcases hm with h|h|h<;>simp[h]
     ·left; simp only[γ0,if_neg hm]
    Ble:=Nat.le_refl _
    size:=by have:=hEn.vals.len; simp[this]
    slots:=λ t v hv=>(MZ hEn.vals hEn.lts t v hv).1
    ents:=λ id e he=>(hEn.ents id e he).1
    slt:=λ t v hv=>(MZ hEn.vals hEn.lts t v hv).2
    elt:=λ id e he=>⟨(hEn.ents id e he).2.2.2,(hEn.ents id e he).2.2.1⟩
    pins:=hEn.pins
    dlab:=by simp[A]
    glob:=⟨hG,hgb,Nat.le_refl _,hA.unfr⟩
    rtag:=λ h b hb=>hA.tags h b (by simpa[A,or_assoc] using hb)
    dpc:=by simp[A]}
  refine Kn hE ⟨rfl,rfl⟩ hTw body _ _ _ w _ hout aai ?_;intro x st' hk hp a' w' hr';have abq:M6 F fn pf.params pf.rets pf.rk args st'=some outs->a'.defers=[]/\∃ v,(results fn a'.tmps).run P w'=.ok v w'/\(KeepsW w.heap.size (xo++xp) w w'/\∃ pt,OutOk w w' w.heap.size pf.rk (r++rp++rc) xo pt pf.rets v pf.params outs xp):=by
   intro hk;obtain⟨γ',loc',hr'⟩:=hr';unfold M6 at hk;split at hk
   ·next rs ls abO=>
    split at hk
    ·next XX=>
     refine⟨hr'.defers,?_⟩;have adv:∀ b∈xp,∃ i,γ' b=.top i/\∃ lvl cells,look st'.tab i=some (.box lvl cells):=by
      intro b hb;obtain⟨i,h1,lvl,cells,h2⟩:=Nx pf.params args 0 xp outs vals r rp rc xo w hk hA b hb;obtain⟨b',arr,T,fr,g1,g2,g3,g4,g5⟩:=hr'.ents i _ h2;have:=(hr'.pins _ h1).2;simp only at this;rw[this] at g1;simp only[Value.pointer.injEq,aiy,Addr.mk.injEq,and_true] at g1;subst g1;exact⟨i,g4,lvl,cells,h2⟩
     have abW:∀ b,γ' b ≠ .alien->(∀ i,γ' b=.top i->LC st' i)->From w.heap.size (r++rp++rc) xo b:=by
      intro b hb ha;by_cases hlt:b<w.heap.size
      ·by_cases hx:b∈xo++xp
       ·rcases List.mem_append.1 hx with hx|hx
        ·exact .inr (.inr hx)
        ·obtain⟨i,e,lvl,cells,hl⟩:=adv b hx;obtain⟨k,lvl',E',e',xs,hl'⟩:=ha i e;rw[hl] at hl'; cases hl'
       ·rcases hr'.old b hlt hx with h|⟨_,h⟩
        ·exact absurd h hb
        ·exact .inr (.inl h)
      ·exact .inl (by omega)
     have acq:∀ b,((∃ i,γ' b=.top i/\LC st' i)∨∃ i,γ' b=.deep i)->w.heap.size<=b∨b∈xo:=by
      intro b hb;by_cases hlt:b<w.heap.size
      ·by_cases hx:b∈xo++xp
       ·rcases List.mem_append.1 hx with hx|hx
        ·exact .inr hx
        ·obtain⟨i,e,lvl,cells,hl⟩:=adv b hx;rcases hb with⟨i',e',k,lvl',E',e'',xs,hl'⟩|⟨i',e'⟩
         ·rw[e] at e'; cases e'; rw[hl] at hl'; cases hl'
         ·rw[e] at e'; cases e'
       ·exfalso;rcases hr'.old b hlt hx with h|⟨h,_⟩<;>rcases hb with⟨i',e',_⟩|⟨i',e'⟩<;>rw[h] at e'<;>cases e'
      ·exact .inl (by omega)
     let pt:List Nat:=[]
     have aet:∀ b,γ' b ≠ .persist->b∉pt:=λ b hb=>by simp[pt]
     have XZ:∀ {ids:List Nat},yf st' ls=some ids->∀ i∈ids,LC st' i:=λ hg i hi=>by
      obtain⟨u,lvl,E',e,xs,hl,_⟩:=Yu hg i hi;exact⟨_,lvl,E',e,xs,hl⟩
     have aar:∃ v,(results fn a'.tmps).run P w'=.ok v w'/\JW w' w.heap.size pf.rk (r++rp++rc) xo pt pf.rets v rs:=by
      cases X9:pf.rk with
      | shared=>
       obtain⟨css,fs,k1,k2,k3⟩:=n8 hE.tys hr' _ _ _ _ abO;exact⟨_,ag k2,css,[],fs,k1,rfl,(λ b hb=>abW b (k3 b hb).1 (k3 b hb).2),λ h=>by cases h⟩
      | uniq=>
       rw[X9] at XX;simp only[NE] at XX;obtain⟨ids,ac0⟩:=Option.isSome_iff_exists.1 XX;obtain⟨g1,g2⟩:=Yv ac0;obtain⟨css,xb,fs,k1,k2,k3,k4,k5,k6⟩:=ac hE.tys hr' .uniq (by simp) _ _ _ _ _ abO g1;obtain⟨n1,n2⟩:=k6 g2;refine⟨_,ag k2,css,xb,fs,k1,rfl,⟨Zj k3 n1 ?_,?_⟩,λ _ b hb=>by obtain⟨i,_,e⟩:=n2 b hb; exact hr'.unf b (by rw[e]; trivial)⟩
       ·intro b hb hb';obtain⟨i,_,e⟩:=k4 b hb;obtain⟨i',_,e'⟩:=n2 b hb';rw[e] at e'; cases e'
       ·intro b hb;rcases List.mem_append.1 hb with hb|hb
        ·obtain⟨i,hi,e⟩:=k4 b hb;exact⟨acq b (.inl ⟨i,e,XZ g1 i hi⟩),aet b (by simp[e])⟩
        ·obtain⟨i,hi,e⟩:=n2 b hb;exact⟨acq b (.inr ⟨i,e⟩),aet b (by simp[e])⟩
      | own=>
       rw[X9] at XX;simp only[NE] at XX;obtain⟨ids,g1⟩:=Option.isSome_iff_exists.1 XX;obtain⟨css,xb,fs,k1,k2,k3,k4,k5,k6⟩:=ac hE.tys hr' .own (by simp) _ _ _ _ _ abO g1;refine⟨_,ag k2,css,xb,fs,k1,rfl,⟨k3,?_,?_,?_⟩,λ h=>by cases h⟩
       ·intro b hb;obtain⟨i,hi,e⟩:=k4 b hb;exact⟨acq b (.inl ⟨i,e,XZ g1 i hi⟩),aet b (by simp[e])⟩
       ·intro b hb hb';obtain⟨i,_,e⟩:=k4 b hb;rcases k5 b hb' with e'|⟨i',_,e'⟩<;>rw[e] at e'<;>cases e'
       ·intro b hb;rcases k5 b hb with e|⟨i,_,e⟩
        ·exact abW b (by simp[e]) (by simp[e])
        ·exact abW b (by simp[e]) (by simp[e])
     obtain⟨v,hv1,hv2⟩:=aar;exact⟨v,hv1,hr'.keeps,pt,qz hr' hv2 pf.params args 0 xp outs vals r rp rc xo hk hA (λ p hp'=>(hr'.pins p hp').2)⟩
    ·cases hk
   ·cases hk
  cases x with
  | exit id=>cases hk
  | normal=>exact abq hk
  | ret=>exact abq hk
 ·cases hout
def cj (fn:Func) (ret:Ty) (st:St):Option (den ret):=match fn.results.toList with
 | [.tmp s]=>match st.slots[s]? with
  | some (.v (.one (.ptr id 0)))=>match look st.tab id with
   | some (.box _ cells)=>match yp st cells with
    | true=>jg st.tab ret cells
    | false=>none
   | _=>none
  | _=>none
 | _=>none
noncomputable def kX (F:y6) (fn:Func) (ps:List (PK×Ty)) (ret:Ty) (args:zW ps):Option (den ret):=
 match fn.body,yW ps args 0 with
 | some body,some (avs,es,j)=>
  jr F body { slots:=avs++List.replicate (fn.ntmps - avs.length) (.tup []),tab:=es,nxt:=j,lvl:=0 } λ x st=>
   match x with
   | .exit _=>none
   | .normal=>cj fn ret st
   | .ret=>cj fn ret st
 | _,_=>none
theorem VO [Tags] {F:y6} {gl:Glob} (hE:jR P gl F.E) {f:FuncId} {fn:Func} (hf:P.funcs[f]?=some fn) (hn:(fn.name == "runtime.NumGoroutine")=false) {nf:NF}
  (hev:∀ args v,nf.fn args=some v->kX F fn nf.params nf.ret args=some v) (hTw:F.E.thaws=[]:=by rfl):KI P gl f nf:=by
 constructor;intro w args vals r out hA hG hgb hout;have hout:=hev _ _ hout;unfold kX at hout;split at hout
 ·next body avs es j ab9 abh=>
  have hcf:(callFunc f vals.toArray).run P w=.ok (.enter f vals.toArray) w:=by
   have hn':¬ fn.name = "runtime.NumGoroutine" := by simpa using hn
   simp[callFunc,hf,hn',ab9]
  unfold CallsTo;rw[hcf];simp only;refine calls_of_wp hf ab9 ?_
  let γ0:Nat->Own:=λ b=>open Classical in if b∈r then .persist else .alien
  obtain⟨loc,γ,hEn⟩:=KS nf.params args 0 vals r [] [] [] [] avs es j (λ _=>undef) γ0 hA abh (by simp) (by simp) (λ b hb=>by
   rcases hb with hb|hb|hb
   ·simp only[γ0,if_pos hb]
   ·simp at hb
   ·simp at hb) (λ b hb=>by rcases hb with h|h<;>simp at h)
  let A:Ctx:={ rds:=r,pins:=Zl w nf.params args 0 [],gl:=gl }
  have aai:Rel w.heap.size [] A w { slots:=avs++List.replicate (fn.ntmps - avs.length) (.tup []),tab:=es,nxt:=j,lvl:=0 }
    { tmps:=vals.toArray++Array.replicate (fn.ntmps - vals.toArray.size) undef,defers:=[]} w:=by
   refine⟨γ,loc,?_⟩;exact {
    defers:=rfl
    keeps:=KeepsW.refl _ _ _
    unf:=λ b hb=>by
     rw[hEn.own b (by simp) (by simp)] at hb;by_cases hm:b∈r
     ·simp[γ0,if_pos hm,owned] at hb
     ·simp[γ0,if_neg hm,owned] at hb
    old:=λ b hb hx=>by
     rw[hEn.own b (by simp) (by simp)];by_cases hm:b∈r
     ·right; simp only[γ0,if_pos hm,A,true_and]; exact hm
     ·left; simp only[γ0,if_neg hm]
    Ble:=Nat.le_refl _
    size:=by have:=hEn.vals.len; simp[this]
    slots:=λ t v hv=>(MZ hEn.vals hEn.lts t v hv).1
    ents:=λ id e he=>(hEn.ents id e he).1
    slt:=λ t v hv=>(MZ hEn.vals hEn.lts t v hv).2
    elt:=λ id e he=>⟨(hEn.ents id e he).2.2.2,(hEn.ents id e he).2.2.1⟩
    pins:=hEn.pins
    dlab:=by simp[A]
    glob:=⟨hG,λ b hb=>⟨hgb b hb,by simp⟩,Nat.le_refl _,by simp⟩
    rtag:=by intro h; cases h
    dpc:=by simp[A]}
  refine Kn hE ⟨rfl,rfl⟩ (.inl hTw) body _ _ _ w _ hout aai ?_;intro x st' hk hp a' w' hr';have abq:cj fn nf.ret st'=some out->a'.defers=[]/\∃ u,(results fn a'.tmps).run P w'=.ok u w'/\(KeepsW w.heap.size [] w w'/\∃ b arr T fr fs,u=.pointer (some ⟨b,0,none⟩)/\w.heap.size<=b/\
    w'.heap[b]?=some (.cells arr T fr)/\frees fr arr.size/\Rd w' nf.ret out arr.toList fs/\∀ c∈fs,c≠b/\(w.heap.size<=c∨c∈r)):=by
   intro hk;obtain⟨γ',loc',hr'⟩:=hr';refine⟨hr'.defers,?_⟩;unfold cj at hk;split at hk
   ·next s abO=>
    split at hk
    ·next id hs=>
     split at hk
     ·next lvl cells hl=>
      split at hk
      ·next X2=>
       obtain⟨b0,hb0,hv0⟩:=hr'.slots s _ hs;obtain⟨b,arr,T,fr,h1,h2,h3,h4,h5⟩:=hr'.ents id _ hl;rw[h1] at hb0;simp only[Value.pointer.injEq,aiy,Addr.mk.injEq,and_true] at hb0;subst hb0;obtain⟨fp,q1,q2,q3⟩:=Yr hr' hk h5;have hrr:(results fn a'.tmps).run P w'=.ok (ZU [a'.tmps.getD s undef]) w':=by
        refine ag ?_;rw[abO];exact⟨by simp[YF],trivial⟩
       refine⟨_,hrr,hr'.keeps,b,arr,T,fr,fp,hv0,?_,h2,h3,q1,?_⟩
       ·rcases Nat.lt_or_ge b w.heap.size with hlt|hge
        ·rcases hr'.old b hlt (by simp) with h|⟨h,_⟩<;>rw[h4] at h<;>cases h
        ·exact hge
       ·intro c hc;have ac2:=q3 X2 c hc;refine⟨λ e=>(by rw[e,h4] at ac2; cases ac2),?_⟩
        rcases Nat.lt_or_ge c w.heap.size with hlt|hge
        ·right;rcases hr'.old c hlt (by simp) with h|⟨_,h⟩
         ·rw[ac2] at h; cases h
         ·exact h
        ·exact .inl hge
      ·cases hk
     ·cases hk
    ·cases hk
   ·cases hk
  cases x with
  | exit id=>cases hk
  | normal=>exact abq hk
  | ret=>exact abq hk
 ·cases hout
end Ev
