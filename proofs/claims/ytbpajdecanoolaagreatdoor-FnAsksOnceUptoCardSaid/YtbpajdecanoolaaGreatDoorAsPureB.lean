/- Plain laws, part 2: what the functions compute. No program in sight. -/
import Derived.Test.YtbpajdecanoolaaGreatDoorAsPureA
set_option linter.unusedSimpArgs false
set_option linter.unusedVariables false
namespace G448
open Ev Go
def y7 (l:yb) (v:Int) (name:List UInt8):zO:=match l.find? (λ p=>p.1==v && p.2.1==name) with|some p=>p|none=>(v,name,[])
theorem u6 (l:yb) (v:Int) (name:List UInt8) (hw:zG l<=137438953472):aN (l,v,name,())=some (y7 l v name,()):=by
 have hl:l.length<=137438953472:=by unfold zG at hw; omega
 unfold aN y7;refine (walk l.length (λ i (z:zO)=>(i,z,())) (λ _ _=>True) (λ i _=>some ((match (l.drop i).find? (λ p=>p.1==v && p.2.1==name) with|some p=>p|none=>(v,name,[])),())) (by omega) ?_ ?_ (s0:=(0,[],[])) trivial).trans (by simp only[aq8])
 ·intro rec s _;rw[aql];simp only[aq6,apU,apM,List.find?_nil]
 ·intro rec i s hi _;have hx:l[i]?=some l[i]:=List.getElem?_eq_getElem hi;have hy:=KV hw hx;rw[aq7 hi];simp only[zr hi,decide_true,cond_true,and_self,if_true,Int.toNat_natCast,zm (e:=Ys) hx,qa l[i] hy,Option.bind_some,zo (show i<4611686018427387904 by omega),List.find?_cons];by_cases h1:l[i].1=v
  ·have e1:(l[i].1==v)=true:=beq_iff_eq.2 h1;by_cases h2:l[i].2.1=name
   ·have e2:(l[i].2.1==name)=true:=beq_iff_eq.2 h2;left; simp only[e1,e2,apN,aqH]
   ·have e2:(l[i].2.1==name)=false:=beq_eq_false_iff_ne.2 h2;right; exact⟨s,trivial,by simp only[e1,e2,apN,apM],by simp only[e1,e2,aqQ]⟩
  ·have e1:(l[i].1==v)=false:=beq_eq_false_iff_ne.2 h1;right; exact⟨s,trivial,by simp only[e1,apM],by simp only[e1,aqp]⟩
theorem pk (l:yb) (v:Int) (name:List UInt8) (hw:zG l<=137438953472):ci (l,v,name,())=some (y7 l v name,()):=by
 have hl:l.length<=137438953472:=by unfold zG at hw; omega
 unfold ci y7;refine (walk l.length (λ i (z:zO)=>(i,z,())) (λ _ _=>True) (λ i _=>some ((match (l.drop i).find? (λ p=>p.1==v && p.2.1==name) with|some p=>p|none=>(v,name,[])),())) (by omega) ?_ ?_ (s0:=(0,[],[])) trivial).trans (by simp only[aq8])
 ·intro rec s _;rw[aql];simp only[aq6,apU,apM,List.find?_nil]
 ·intro rec i s hi _;have hx:l[i]?=some l[i]:=List.getElem?_eq_getElem hi;have hy:=KV hw hx;rw[aq7 hi];simp only[zr hi,decide_true,cond_true,and_self,if_true,Int.toNat_natCast,zm (e:=Ys) hx,Qs l[i] hy,Option.bind_some,zo (show i<4611686018427387904 by omega),List.find?_cons];by_cases h1:l[i].1=v
  ·have e1:(l[i].1==v)=true:=beq_iff_eq.2 h1;by_cases h2:l[i].2.1=name
   ·have e2:(l[i].2.1==name)=true:=beq_iff_eq.2 h2;left; simp only[e1,e2,apN,aqH]
   ·have e2:(l[i].2.1==name)=false:=beq_eq_false_iff_ne.2 h2;right; exact⟨s,trivial,by simp only[e1,e2,apN,apM],by simp only[e1,e2,aqQ]⟩
  ·have e1:(l[i].1==v)=false:=beq_eq_false_iff_ne.2 h1;right; exact⟨s,trivial,by simp only[e1,apM],by simp only[e1,aqp]⟩
noncomputable def Kl:zw->zw->zV->zw
 | [],out,_=>out
 | x::xs,out,l=>if out.length=2 then out else if (pay l x).2=0∨(pay l x).2=4 then Kl xs (out++[x]) (pay l x).1 else Kl xs out l
noncomputable def Lt (p:zw) (l:zV):zw:=Kl p [] l
theorem ez:∀ (xs out:zw) (l:zV),out.length<=2->(Kl xs out l).length<=2
 | [],out,l,h=>h
 | x::xs,out,l,h=>by
  simp only[Kl];split
  ·exact h
  ·split
   ·exact ez xs _ _ (by simp; omega)
   ·exact ez xs _ _ h
theorem aag (l:zV) (x:zI):(pay l x).2=0∨(pay l x).2=4∨(pay l x).1=l:=by
 unfold pay;dsimp only;repeat' split
 all_goals simp
theorem aeL (p:zw) (l:zV) (hp:p.length<=137438953472) (h1:l.1.length<=137438953472) (h2:l.2.length<=137438953472):dO (p,l,())=some (Lt p l,()):=by
 unfold dO Lt;dsimp only;rw[vm l h1 h2,apL];refine (walk p.length (λ i (s:zw×zV)=>(s.1,i,s.2,())) (λ _ s=>s.1.length<=2/\s.2.1.length<=137438953472/\s.2.2.length<=137438953472) (λ i s=>some (Kl (p.drop i) s.1 s.2,())) (by omega) ?_ ?_ (s0:=([],l)) ⟨by simp,h1,h2⟩).trans (by simp only[aq8])
 ·intro rec s _;rw[aql];simp only[aq6,apU,apM,Kl]
 ·intro rec i s hi hs;obtain⟨k1,k2,k3⟩:=hs;obtain⟨p1,p2⟩:=kJ s.2 p[i];have hx:p[i]?=some p[i]:=List.getElem?_eq_getElem hi;rw[aq7 hi];simp only[zr hi,decide_true,cond_true,and_self,if_true,Int.toNat_natCast,zm (e:=jO) hx,uS s.2 p[i] k2 k3,Option.bind_some,zo (show i<4611686018427387904 by omega),Kl,List.length_cons,List.length_nil];by_cases hf:s.1.length=2
  ·left;have:decide ((s.1.length:Int)<2)=false:=by simp; omega
   rw[if_pos hf];simp only[this,apM]
  ·have:decide ((s.1.length:Int)<2)=true:=by simp; omega
   simp only[this,apN,hf,if_false];rw[if_pos (by omega)];by_cases c0:(pay s.2 p[i]).2=0
   ·right;refine⟨(s.1++[p[i]],(pay s.2 p[i]).1),⟨by simp; omega,by simp only; omega,by simp only; omega⟩,?_,?_⟩
    ·simp only[c0,beq_self_eq_true,apN]
    ·rw[if_pos (.inl c0)]
   ·have e0:((pay s.2 p[i]).2==0)=false:=beq_eq_false_iff_ne.2 c0;by_cases c4:(pay s.2 p[i]).2=4
    ·right;refine⟨(s.1++[p[i]],(pay s.2 p[i]).1),⟨by simp; omega,by simp only; omega,by simp only; omega⟩,?_,?_⟩
     ·simp only[c4,beq_self_eq_true,apN,show ((4:Int)==0)=false from rfl,apM]
     ·rw[if_pos (.inr c4)]
    ·have e4:((pay s.2 p[i]).2==4)=false:=beq_eq_false_iff_ne.2 c4;right;refine⟨s,⟨k1,k2,k3⟩,?_,?_⟩
     ·simp only[e0,e4,apM]
     ·rw[if_neg (by rintro (h|h); exact c0 h; exact c4 h)]
theorem Wh (p:zw) (l:zV) (hp:p.length<=137438953472) (h1:l.1.length<=137438953472) (h2:l.2.length<=137438953472):b8 (p,l,())=some (Lt p l,()):=by
 unfold b8 Lt;dsimp only;refine (walk p.length (λ i (s:zw×zV)=>(s.1,i,s.2,())) (λ _ s=>s.1.length<=2/\s.2.1.length<=137438953472/\s.2.2.length<=137438953472) (λ i s=>some (Kl (p.drop i) s.1 s.2,())) (by omega) ?_ ?_ (s0:=([],l)) ⟨by simp,h1,h2⟩).trans (by simp only[aq8])
 ·intro rec s _;rw[aql];simp only[aq6,apU,apM,Kl]
 ·intro rec i s hi hs;obtain⟨k1,k2,k3⟩:=hs;obtain⟨p1,p2⟩:=kJ s.2 p[i];have hx:p[i]?=some p[i]:=List.getElem?_eq_getElem hi;rw[aq7 hi];simp only[zr hi,decide_true,cond_true,and_self,if_true,Int.toNat_natCast,zm (e:=jO) hx,o9 s.2 p[i] k2 k3,Option.bind_some,zo (show i<4611686018427387904 by omega),Kl,List.length_cons,List.length_nil];by_cases hf:s.1.length=2
  ·left;have:((s.1.length:Int)==2)=true:=beq_iff_eq.2 (by omega);rw[if_pos hf];simp only[this,apN]
  ·have:((s.1.length:Int)==2)=false:=beq_eq_false_iff_ne.2 (by omega);simp only[this,apM,hf,if_false];rw[if_pos (by omega)];by_cases c0:(pay s.2 p[i]).2=0
   ·right;refine⟨(s.1++[p[i]],(pay s.2 p[i]).1),⟨by simp; omega,by simp only; omega,by simp only; omega⟩,?_,?_⟩
    ·simp only[c0,beq_self_eq_true,apN]
    ·rw[if_pos (.inl c0)]
   ·have e0:((pay s.2 p[i]).2==0)=false:=beq_eq_false_iff_ne.2 c0;by_cases c4:(pay s.2 p[i]).2=4
    ·right;refine⟨(s.1++[p[i]],(pay s.2 p[i]).1),⟨by simp; omega,by simp only; omega,by simp only; omega⟩,?_,?_⟩
     ·simp only[c4,beq_self_eq_true,apN,show ((4:Int)==0)=false from rfl,apM]
     ·rw[if_pos (.inr c4)]
    ·have e4:((pay s.2 p[i]).2==4)=false:=beq_eq_false_iff_ne.2 c4;right;refine⟨s,⟨k1,k2,k3⟩,?_,?_⟩
     ·have hs1:(pay s.2 p[i]).1=s.2:=by
       rcases aag s.2 p[i] with h|h|h
       ·exact absurd h c0
       ·exact absurd h c4
       ·exact h
      simp only[e0,e4,apM,hs1]
     ·rw[if_neg (by rintro (h|h); exact c0 h; exact c4 h)]
def MO (l:zw):List UInt8:=(l.map λ x=>44::yF x).flatten
def JP:zw->List UInt8
 | []=>[]
 | x::r=>yF x++MO r
def LO (l:zw):List UInt8:=bif l.all zF then JP l else []
def qi (i:Nat) (l:zw):List UInt8:=if i=0 then JP l else MO l
theorem vD:∀ l:zw,(MO l).length<=28*l.length
 | []=>by simp[MO]
 | x::l=>by
  have h1:=eB x;have h2:=vD l;simp only[MO,aq5,are,apX,apQ] at *;omega
theorem vE (l:zw):(LO l).length<=28*l.length:=by
 unfold LO;cases l.all zF
 ·simp
 ·cases l with
  | nil=>simp[JP]
  | cons x r=>
   have h1:=eB x;have h2:=vD r;simp only[apN,JP,apX,apQ];omega
theorem af3 (l:zw) (hl:l.length<=1000000):nl (l,())=some (LO l,()):=by
 unfold nl LO;refine (walk l.length (λ i (o:List UInt8)=>(o,i,())) (λ i o=>o.length<=28*i) (λ i o=>some ((bif (l.drop i).all zF then o++qi i (l.drop i) else []),())) (by omega) ?_ ?_ (s0:=[]) (by simp)).trans (by simp[qi])
 ·intro rec o _;rw[aql];simp only[aq6,apU,apM,arv,apN,qi];split<;>simp[JP,MO]
 ·intro rec i o hi ho;have hx:l[i]?=some l[i]:=List.getElem?_eq_getElem hi;have htl:=eB l[i];rw[aq7 hi];simp only[zr hi,apR,apN,apZ,if_true,apW,zm (e:=jO) hx,N9,GN,apL,zo (show i<4611686018427387904 by omega),aqm,apX,apQ,apS];cases hk:zF l[i]
  ·left; simp only[aq9,apN,aqp,apM]
  ·right;by_cases h0:i=0
   ·subst h0;refine⟨o++yF l[0],by rw[apX]; omega,?_,?_⟩
    ·simp only[apT,apM,show ¬ (((0:Nat):Int)>0) by omega,apU];rw[if_pos (by omega)]
    ·simp[qi,JP]
   ·refine⟨o++[44]++yF l[i],by simp only[apX,apQ,apS]; omega,?_,?_⟩
    ·simp only[apT,apM,show ((i:Int)>0) by omega,apR,apN];rw[if_pos (by omega),if_pos (by omega)]
    ·have e:o++qi i (l[i]::List.drop (i+1) l)=(o++[44]++yF l[i])++qi (i+1) (List.drop (i+1) l):=by
      unfold qi;rw[if_neg h0,if_neg (by omega)];simp only[MO,aq5,are,aqj,aqV,aqf]
     rw[e];simp only[aq3]
theorem W7 (l:zw):Lib.join (l.map yF) [44]=JP l:=by
 cases l with
 | nil=>rfl
 | cons x r=>
  rw[aq5,Lib.join_cons];simp[JP,Lib.joinTail,MO,Function.comp_def]
theorem afD (l:zw):(JP l).length<=28*l.length:=by
 cases l with
 | nil=>simp[JP]
 | cons x r=>
  have h1:=eB x;have h2:=vD r;simp only[JP,apX,apQ];omega
theorem Wz (l:zw) (hl:l.length<=1000000):gB (l,())=some (LO l,()):=by
 have hbl:=afD l;unfold gB LO;refine (walk l.length (λ i (o:List (List UInt8))=>(o,i,())) (λ i o=>o=(l.take i).map yF) (λ i o=>some ((bif (l.drop i).all zF then JP l else []),())) (by omega) ?_ ?_ (s0:=[]) rfl).trans (by simp)
 ·rintro rec o rfl;rw[aql];simp only[aq6,apU,apM,arv,apN,aqq];unfold strings_Join;dsimp only;rw[W7,if_pos (by omega),apL]
 ·rintro rec i o hi rfl;have hx:l[i]?=some l[i]:=List.getElem?_eq_getElem hi;rw[aq7 hi];simp only[zr hi,apR,apN,apZ,if_true,apW,zm (e:=jO) hx,Mc,Aa,apL,zo (show i<4611686018427387904 by omega),aqm,apQ,apS,aqu,aq4];cases hk:zF l[i]
  ·left; simp only[aq9,apN,aqp,apM]
  ·right;refine⟨_,rfl,?_,by simp only[aq3]⟩;have e:(l.take (i+1)).map yF=(l.take i).map yF++[yF l[i]]:=by
    rw[arh,hx,aqS]; rfl
   rw[e];simp only[apT,apM];rw[if_pos (by omega)]
def ZX (up:List UInt8) (view:Int) (list:zw):List UInt8:=(((up++[47])++Lib.decDigits view.toNat)++[124])++LO list
def jB (up:List UInt8) (view:Int) (list:zw):List UInt8:=bif list.all zF && zB (ZX up view list) then ZX up view list else []
theorem rj (up:List UInt8) (view:Int) (list:zw) (h:view<1000000):(ZX up view list).length<=up.length+8+28*list.length:=by
 have h1:=vE list;have h2:=dl view.toNat (by omega);unfold ZX;simp only[apX,apQ,apS];omega
theorem Bs (l:zw) (K:Option (List UInt8×Unit)) {G:(Int×Unit->Option (List UInt8×Unit))->Int×Unit->Option (List UInt8×Unit)} (hl:l.length<=1152921504606846976)
  (ag7:∀ rec,G rec ((l.length:Int),())=K)
  (ag5:∀ rec (i:Nat) x,l[i]?=some x->i<l.length->G rec ((i:Int),())=bif zF x then rec ((i:Int)+1,()) else some ([],())):
  iter G fuel (0,())=bif l.all zF then K else some ([],()):=by
 refine (walk l.length (λ i (_:Unit)=>(i,())) (λ _ _=>True) (λ i _=>bif (l.drop i).all zF then K else some ([],())) hl ?_ ?_ (s0:=()) trivial).trans (by simp only[aq8])
 ·intro rec s _; rw[ag7,aql]; rfl
 ·intro rec i s hi _;rw[ag5 rec i l[i] (List.getElem?_eq_getElem hi) hi,List.drop_eq_getElem_cons hi];simp only[aqm];cases zF l[i]
  ·left; rfl
  ·right; exact⟨(),trivial,rfl,rfl⟩
theorem uR (up:List UInt8) (view:Int) (list:zw) (hu:up.length<=1073741824) (hv:0<=view/\view<1000000) (hl:list.length<=1000000):aD (up,view,list,())=some (jB up view list,()):=by
 have h1:=vE list;have h2:=dl view.toNat (by omega);have d:=aw view.toNat (by omega);rw[arp hv.1] at d;have hn:=rj up view list hv.2;unfold aD jB;refine (Bs list (bif zB (ZX up view list) then some (ZX up view list,()) else some ([],())) (by omega) ?_ ?_).trans ?_
 ·intro rec;simp only[aq6,apU,apM,d,af3 list hl,apL,apX,apQ,apS];rw[if_pos (by omega),if_pos (by omega),if_pos (by omega),if_pos (by omega)];have e:(((up++[47])++Lib.decDigits view.toNat)++[124])++LO list=ZX up view list:=rfl;rw[e,LF _ (by omega),apL];cases zB (ZX up view list)<;>rfl
 ·intro rec i x hx hi;simp only[zr hi,apR,apN,apZ,if_true,apW,zm (e:=jO) hx,N9,apL,zo (show i<4611686018427387904 by omega)];cases zF x<;>rfl
 ·cases list.all zF<;>cases zB (ZX up view list)<;>rfl
theorem Wb (up:List UInt8) (view:Int) (list:zw) (hu:up.length<=1000000000) (hv:0<=view/\view<1000000) (hl:list.length<=2):f7 (up,view,list,())=some (jB up view list,()):=by
 have h1:=vE list;have h2:=dl view.toNat (by omega);have d:=Qb view.toNat;rw[arp hv.1] at d;have hn:=rj up view list hv.2;unfold f7 jB;refine (Bs list (bif zB (ZX up view list) then some (ZX up view list,()) else some ([],())) (by omega) ?_ ?_).trans ?_
 ·intro rec;have h3:decide ((list.length:Int)>2)=false:=by simp; omega
  simp only[aq6,apU,apM,d,Wz list (by omega),apL,apX,apQ,apS,h3];rw[if_pos (by omega),if_pos (by omega),if_pos (by omega),if_pos (by omega)];have e:(((up++[47])++Lib.decDigits view.toNat)++[124])++LO list=ZX up view list:=rfl;rw[e,La _ (by omega),apL];cases zB (ZX up view list)<;>rfl
 ·intro rec i x hx hi;simp only[zr hi,apR,apN,apZ,if_true,apW,zm (e:=jO) hx,Mc,apL,zo (show i<4611686018427387904 by omega)];cases zF x<;>rfl
 ·cases list.all zF<;>cases zB (ZX up view list)<;>rfl
theorem ri (up:List UInt8) (view:Int) (list:zw) (h:view<1000000):(jB up view list).length<=up.length+8+28*list.length:=by
 have:=rj up view list h;unfold jB;cases (list.all zF && zB (ZX up view list))
 ·simp
 ·exact this
def eG:jd:=([],0,[],[])
def JT (c:za) (q:zH) (view:Int) (list:zw):jd×Bool:=
 bif js c (jB q.2.1 view list,q) && zl (jB q.2.1 view list)==view then ((jB q.2.1 view list,q),true) else (eG,false)
theorem GB (c:za) (q:zH) (view:Int) (list:zw) (hq:zj q<=500000000) (hv:0<=view/\view<1000000) (hl:list.length<=2):yk (c,q,view,list,())=some ((JT c q view list).1,(JT c q view list).2,()):=by
 have hu:q.2.1.length<=500000000:=by simp only[zj] at hq; omega
 have hn:=ri q.2.1 view list hv.2;unfold yk JT;simp only[uR q.2.1 view list (by omega) hv (by omega),qg q (by omega),mD c (jB q.2.1 view list,q) (by simp only[zx]; omega),KP (jB q.2.1 view list) (by omega),Option.bind_some,KC]
 cases js c (jB q.2.1 view list,q)<;>cases (zl (jB q.2.1 view list)==view)<;>rfl
theorem VP (c:za) (q:zH) (view:Int) (list:zw) (hq:zj q<=500000000) (hv:0<=view/\view<1000000) (hl:list.length<=2):bO (c,q,view,list,())=some ((JT c q view list).1,(JT c q view list).2,()):=by
 have hu:q.2.1.length<=500000000:=by simp only[zj] at hq; omega
 have hn:=ri q.2.1 view list hv.2;unfold bO JT;simp only[Wb q.2.1 view list (by omega) hv (by omega),No q (by omega),fL c (jB q.2.1 view list,q) (by simp only[zx]; omega),Lg (jB q.2.1 view list) (by omega),Option.bind_some,KC]
 cases js c (jB q.2.1 view list,q)<;>cases (zl (jB q.2.1 view list)==view)<;>rfl
theorem Ud (c:za) (q:zH) (view:Int) (list:zw) (h:view<1000000):zx (JT c q view list).1<=2*zj q+8+28*list.length:=by
 have hn:=ri q.2.1 view list h;unfold JT;cases (js c (jB q.2.1 view list,q) && zl (jB q.2.1 view list)==view)
 ·simp[eG,zx,zj,zq]
 ·simp only[apN,zx];have:q.2.1.length<=zj q:=by simp only[zj]; omega
  omega
noncomputable def eX (c:za) (r:zb):jd×Bool:=JT c r.2.2.2.1.2.2.1 r.2.1 (Lt r.2.2.2.2.1 (ju je (y8 r.2.2.2.1.2.2.1.2.1)).2)
noncomputable def ask (c:za) (r:zb):jd×Bool:=
 bif zf c r && (yw c r.2.1==r.1 && (!decide (r.2.2.1≥r.2.1) && (r.2.2.2.1.2.2.1.1==wr (r.2.1 - 1) || decide (((y7 r.2.2.2.2.2.1 r.2.1 []).2.2.length:Int)≥JE c)))) then eX c r else (eG,false)
theorem KK {c:za} {r:zb} (h:zf c r=true):1<=r.2.1/\r.2.1<=60:=by
 unfold zf at h;simp only[apO,apY] at h;exact h.2.2.1
theorem XT (a b:Int):decide (a<b) = !decide (a≥b):=by
 by_cases h:a<b
 ·have:¬ a≥b:=by omega
  simp[h,this]
 ·have:a≥b:=by omega
  simp[h,this]
theorem GA (c:za) (r:zb) (hw:ze r<=500000000):LD (c,r,())=some ((ask c r).1,(ask c r).2,()):=by
 have hs:=bp hw;have hq:zj r.2.2.2.1.2.2.1<=500000000:=by simp only[zy] at hs; omega
 have hu:r.2.2.2.1.2.2.1.2.1.length<=500000000:=by simp only[zj] at hq; omega
 have ht:zG r.2.2.2.2.2.1<=500000000:=by simp only[ze] at hw; omega
 have hp:=nV hw;have hx:=nR r.2.2.2.1.2.2.1.2.1;obtain⟨l1,l2,_⟩:=kI (y8 r.2.2.2.1.2.2.1.2.1) ([],je);have m1:(ju je (y8 r.2.2.2.1.2.2.1.2.1)).2.1.length=4:=l1;have m2:(ju je (y8 r.2.2.2.1.2.2.1.2.1)).2.2.length=4:=l2;have hk:=ez r.2.2.2.2.1 [] (ju je (y8 r.2.2.2.1.2.2.1.2.1)).2 (by simp);unfold LD ask eX;dsimp only;rw[YN c r (by omega),apL];cases hr:zf c r
 ·rfl
 ·have hv:=KK hr;simp only[apT,apM,N5,u6 _ _ _ (show zG r.2.2.2.2.2.1<=137438953472 by omega),uV,GF,GO r.2.2.2.1.2.2.1.2.1 (by omega),GJ je _ (by decide) (by decide) (show (y8 r.2.2.2.1.2.2.1.2.1).length<=137438953472 by omega),
   aeL r.2.2.2.2.1 _ (by omega) (show (ju je (y8 r.2.2.2.1.2.2.1.2.1)).2.1.length<=137438953472 by omega) (show (ju je (y8 r.2.2.2.1.2.2.1.2.1)).2.2.length<=137438953472 by omega),
   GB c r.2.2.2.1.2.2.1 r.2.1 (Lt r.2.2.2.2.1 (ju je (y8 r.2.2.2.1.2.2.1.2.1)).2) hq (by omega) hk,apL,KC,XT,aq3]
  cases (yw c r.2.1==r.1)
  ·rfl
  cases decide (r.2.2.1≥r.2.1)
  ·cases (r.2.2.2.1.2.2.1.1==wr (r.2.1 - 1))
   ·cases decide (((y7 r.2.2.2.2.2.1 r.2.1 []).2.2.length:Int)≥JE c)<;>rfl
   ·rfl
  ·rfl
theorem VO (c:za) (r:zb) (hw:ze r<=500000000):fK (c,r,())=some ((ask c r).1,(ask c r).2,()):=by
 have hs:=bp hw;have hq:zj r.2.2.2.1.2.2.1<=500000000:=by simp only[zy] at hs; omega
 have hu:r.2.2.2.1.2.2.1.2.1.length<=500000000:=by simp only[zj] at hq; omega
 have ht:zG r.2.2.2.2.2.1<=500000000:=by simp only[ze] at hw; omega
 have hp:=nV hw;have hx:=nR r.2.2.2.1.2.2.1.2.1;obtain⟨l1,l2,_⟩:=kI (y8 r.2.2.2.1.2.2.1.2.1) ([],je);have m1:(ju je (y8 r.2.2.2.1.2.2.1.2.1)).2.1.length=4:=l1;have m2:(ju je (y8 r.2.2.2.1.2.2.1.2.1)).2.2.length=4:=l2;have hk:=ez r.2.2.2.2.1 [] (ju je (y8 r.2.2.2.1.2.2.1.2.1)).2 (by simp);unfold fK Lh ask eX;dsimp only;rw[ZP c r (by omega),apL];cases hr:zf c r
 ·rfl
 ·have hv:=KK hr;simp only[apT,apM,Qi,pk _ _ _ (show zG r.2.2.2.2.2.1<=137438953472 by omega),pc,xQ,Ab r.2.2.2.1.2.2.1.2.1 (by omega),xU je _ (by decide) (by decide) (show (y8 r.2.2.2.1.2.2.1.2.1).length<=137438953472 by omega),
   Wh r.2.2.2.2.1 _ (by omega) (show (ju je (y8 r.2.2.2.1.2.2.1.2.1)).2.1.length<=137438953472 by omega) (show (ju je (y8 r.2.2.2.1.2.2.1.2.1)).2.2.length<=137438953472 by omega),
   VP c r.2.2.2.1.2.2.1 r.2.1 (Lt r.2.2.2.2.1 (ju je (y8 r.2.2.2.1.2.2.1.2.1)).2) hq (by omega) hk,apL,KC,aq3]
  cases (yw c r.2.1==r.1)
  ·rfl
  cases decide (r.2.2.1≥r.2.1)
  ·cases (r.2.2.2.1.2.2.1.1==wr (r.2.1 - 1))
   ·cases decide (((y7 r.2.2.2.2.2.1 r.2.1 []).2.2.length:Int)≥JE c)<;>rfl
   ·rfl
  ·rfl
theorem wm (c:za) (r:zb):zx (ask c r).1<=2*ze r+100:=by
 have hz:zx eG=0:=rfl;unfold ask;cases hr:zf c r
 ·simp only[aqp,apM,hz]; omega
 ·have hv:=KK hr;have hk:=ez r.2.2.2.2.1 [] (ju je (y8 r.2.2.2.1.2.2.1.2.1)).2 (by simp);have hb:=Ud c r.2.2.2.1.2.2.1 r.2.1 (Lt r.2.2.2.2.1 (ju je (y8 r.2.2.2.1.2.2.1.2.1)).2) (by omega);have hq:zj r.2.2.2.1.2.2.1<=ze r:=by simp only[ze,zy]; omega
  have hk2:(Lt r.2.2.2.2.1 (ju je (y8 r.2.2.2.1.2.2.1.2.1)).2).length<=2:=hk;simp only[aq3];generalize (yw c r.2.1==r.1 && (!decide (r.2.2.1≥r.2.1) && (r.2.2.2.1.2.2.1.1==wr (r.2.1 - 1) || decide (((y7 r.2.2.2.2.2.1 r.2.1 []).2.2.length:Int)≥JE c))))=b;cases b
  ·simp only[apM,hz]; omega
  ·simp only[apN,eX]; omega
def M5 (r:zb) (to:Int) (m:zt):zb:=(r.1,r.2.1,r.2.2.1,r.2.2.2.1,r.2.2.2.2.1,r.2.2.2.2.2.1,r.2.2.2.2.2.2.1,r.2.2.2.2.2.2.2++[(to,m)])
noncomputable def jG (c:za) (r:zb) (to:Int) (m:zt):zb×Bool:=
 bif !decide ((r.2.2.2.2.2.2.2.length:Int)≥30) && ZO c r.1 (to,m) then (M5 r to m,true) else (r,false)
noncomputable def tell (c:za) (r:zb) (to:Int) (m:zt):zb×Bool:=bif zf c r then jG c r to m else (r,false)
theorem nu (c:za) (r:zb) (to:Int) (m:zt) (hc:zz c=true) (hr:ze r<=137438953471) (hm:zh m<=137438953471):LL (c,r,to,m,())=some ((jG c r to m).1,(jG c r to m).2,()):=by
 obtain⟨hc1,hc2⟩:=zR hc;have hl:r.2.2.2.2.2.2.2.length<=137438953471:=by simp only[ze,ym] at hr; omega
 have e1:wr (c.1 - 1)=c.1 - 1:=zg (by omega) (by omega);unfold LL jG ZO;simp only[aC c m (by omega),Y9,GU m (by omega),e1,apL,apQ,apS];rw[if_pos (by omega)];cases decide ((r.2.2.2.2.2.2.2.length:Int)≥30)<;>cases z7 c m<;>cases (decide (to≥0) && decide (to<=c.1 - 1))<;>cases (to==r.1)<;>rfl
theorem QS {c:za} {r:zb} (h:zf c r=true):zz c=true:=by
 unfold zf at h;rw[apO] at h;exact h.1
theorem xD (c:za) (r:zb) (to:Int) (m:zt):zf c (M5 r to m)=(zf c r && (!decide ((r.2.2.2.2.2.2.2.length:Int)≥30) && ZO c r.1 (to,m))):=by
 unfold zf M5;simp only[List.all_append,aqm,arv,art,apX,apQ,apS];by_cases h:(r.2.2.2.2.2.2.2.length:Int)≥30
 ·have e1:decide (((r.2.2.2.2.2.2.2.length+(0+1):Nat):Int)<=30)=false:=by simp; omega
  rw[e1];simp[h]
 ·have e1:decide (((r.2.2.2.2.2.2.2.length+(0+1):Nat):Int)<=30)=true:=by simp; omega
  have e2:decide ((r.2.2.2.2.2.2.2.length:Int)<=30)=true:=by simp; omega
  have e3:decide ((r.2.2.2.2.2.2.2.length:Int)≥30)=false:=by simp; omega
  rw[e1,e2,e3];simp only[aq3,aq9,Bool.and_assoc]
theorem xE (r:zb) (to:Int) (m:zt):ze (M5 r to m)=ze r+(1+zh m):=by
 simp only[M5,ze,ym,Z7,apX,aqS,arQ,apQ,apS,aq5,aqr,aqo,aru];omega
theorem gz (c:za) (r:zb) (to:Int) (m:zt) (hr:ze r<=500000000) (hm:zh m<=500000000):Lf (c,r,to,m,())=some ((tell c r to m).1,(tell c r to m).2,()):=by
 have hl:r.2.2.2.2.2.2.2.length<=500000000:=by simp only[ze,ym] at hr; omega
 have hw:=xE r to m;have hk:=ZP c (M5 r to m) (by omega);unfold Lf tell jG;simp only[ZS r (by omega),Ag m (by omega),apL,apQ,apS];rw[if_pos (by omega)];have e:(r.1,r.2.1,r.2.2.1,r.2.2.2.1,r.2.2.2.2.1,r.2.2.2.2.2.1,r.2.2.2.2.2.2.1,r.2.2.2.2.2.2.2++[(to,m)])=M5 r to m:=rfl;rw[e,hk,xD,apL];cases zf c r<;>cases (!decide ((r.2.2.2.2.2.2.2.length:Int)≥30) && ZO c r.1 (to,m))<;>rfl
theorem afp (c:za) (r:zb) (to:Int) (m:zt):ze (tell c r to m).1<=ze r+(1+zh m):=by
 have hw:=xE r to m;unfold tell jG;cases zf c r
 ·simp only[apM]; omega
 ·cases (!decide ((r.2.2.2.2.2.2.2.length:Int)≥30) && ZO c r.1 (to,m))
  ·simp only[apN,apM]; omega
  ·simp only[apN]; omega
theorem vu {c:za} {r:zb} {to:Int} {m:zt} (h:(tell c r to m).2=true):zf c (tell c r to m).1=true/\(tell c r to m).1.1=r.1:=by
 have hk:=xD c r to m;unfold tell jG at h ⊢;cases hr:zf c r
 ·rw[hr] at h; cases h
 ·rw[hr] at h hk;cases hb:(!decide ((r.2.2.2.2.2.2.2.length:Int)≥30) && ZO c r.1 (to,m))
  ·rw[hb] at h; cases h
  ·rw[hb] at hk;simp only[apN];exact⟨hk,rfl⟩
theorem eA {c:za} {r:zb} (to:Int) (m:zt) (h:zf c r=true):jG c r to m=tell c r to m:=by
 unfold tell; rw[h]; rfl
noncomputable def Km (c:za) (r:zb) (m:zt):Nat->Nat->zb->zb×Bool
 | 0,_,out=>(out,true)
 | n+1,i,out=>bif ((i:Int)==r.1) then Km c r m n (i+1) out else bif (tell c out i m).2 then Km c r m n (i+1) (tell c out i m).1 else (r,false)
noncomputable def JO (c:za) (r:zb) (m:zt):zb×Bool:=bif zf c r then Km c r m c.1.toNat 0 r else (r,false)
theorem Ie (c:za) (r:zb) (m:zt) (z:zb) (hc:4<=c.1/\c.1<=7) (hok:zf c r=true) {G:(Int×zb×zb×Unit->Option (zb×Bool×Unit))->Int×zb×zb×Unit->Option (zb×Bool×Unit)}
  (hG:∀ rec (i:Nat) (out:zb),i<7->zf c out=true->ze out<=ze r+i*(1+zh m)->G rec ((i:Int),z,out,())=bif decide ((i:Int)<c.1) then (bif ((i:Int)==r.1) then rec ((i:Int)+1,z,out,()) else
   bif (tell c out i m).2 then rec ((i:Int)+1,z,(tell c out i m).1,()) else some (r,false,())) else some (out,true,()))
  (hE:∀ rec (out:zb),G rec (c.1,z,out,())=some (out,true,())):
  iter G fuel (0,z,r,())=some ((Km c r m c.1.toNat 0 r).1,(Km c r m c.1.toNat 0 r).2,()):=by
 obtain⟨n,hn⟩:∃ n:Nat,c.1=(n:Int):=⟨c.1.toNat,by omega⟩
 refine (walk n (λ i (out:zb)=>(i,z,out,())) (λ i out=>zf c out=true/\ze out<=ze r+i*(1+zh m)) (λ i out=>some ((Km c r m (n - i) i out).1,(Km c r m (n - i) i out).2,())) (by omega) ?_ ?_ (s0:=r) ⟨hok,by omega⟩).trans (by rw[hn]; simp)
 ·intro rec out ho;rw[←hn,hE]; simp[Km]
 ·intro rec i out hi ho;rw[hG rec i out (by omega) ho.1 ho.2,show n - i=(n - (i+1))+1 by omega];simp only[show ((i:Int)<c.1) by omega,apR,apN,Km];cases he:((i:Int)==r.1)
  ·cases ht:(tell c out i m).2
   ·left; rfl
   ·right;have:=afp c out i m;refine⟨(tell c out i m).1,⟨(vu ht).1,?_⟩,rfl,rfl⟩;rw[aqv]; omega
  ·right;exact⟨out,⟨ho.1,by rw[aqv]; omega⟩,rfl,rfl⟩
theorem seven {i N:Nat} (h:i<7):i*N<=7*N:=Nat.mul_le_mul (by omega) (Nat.le_refl _)
theorem af0 (c:za) (r:zb) (m:zt) (hr:ze r<=100000000) (hm:zh m<=10000000):dV (c,r,m,())=some ((JO c r m).1,(JO c r m).2,()):=by
 unfold dV JO;dsimp only;rw[Z5 r (by omega),apL,YN c r (by omega),apL];cases hok:zf c r
 ·rfl
 ·obtain⟨h1,h2⟩:=zR (QS hok);simp only[apT,apM,apN];refine Ie c r m _ ⟨h1,h2⟩ hok ?_ ?_
  ·intro rec i out hi ho hwo;have:=seven (N:=1+zh m) hi;simp only[nu c out i m (QS hok) (by omega) (by omega),eA _ _ ho,Z5 r (by omega),apL,zo (show i<4611686018427387904 by omega)];cases decide ((i:Int)<c.1)<;>cases ((i:Int)==r.1)<;>cases (tell c out i m).2<;>rfl
  ·intro rec out;simp only[aq6,apU,apM]
theorem Ww (c:za) (r:zb) (m:zt) (hr:ze r<=100000000) (hm:zh m<=10000000):gy (c,r,m,())=some ((JO c r m).1,(JO c r m).2,()):=by
 unfold gy JO;dsimp only;rw[ZS r (by omega),apL,ZP c r (by omega),apL];cases hok:zf c r
 ·rfl
 ·obtain⟨h1,h2⟩:=zR (QS hok);simp only[apT,apM,apN];refine Ie c r m _ ⟨h1,h2⟩ hok ?_ ?_
  ·intro rec i out hi ho hwo;have:=seven (N:=1+zh m) hi;simp only[gz c out i m (by omega) (by omega),ZS r (by omega),apL,zo (show i<4611686018427387904 by omega)];cases decide ((i:Int)<c.1)<;>cases ((i:Int)==r.1)<;>cases (tell c out i m).2<;>rfl
  ·intro rec out;simp only[aq6,apU,apM]
noncomputable def Yo (c:za) (s:zD):List UInt8:=bif ye c s then ((yp s.1++yp s.2.1)++Kd c s.2.2.1)++Y2 s.2.2.2 else []
theorem uw (c:za) (s:zD):(Yo c s).length<=30+5*zy s:=by
 unfold Yo;have h1:=y6 s.1;have h2:=y6 s.2.1;have h3:=Lx c s.2.2.1;have h4:=JC s.2.2.2;cases ye c s
 ·simp
 ·simp only[apN,apX,zy]; omega
theorem aeP (c:za) (s:zD) (hw:zy s<=10000000000):mZ (c,s,())=some (Yo c s,()):=by
 have h1:=y6 s.1;have h2:=y6 s.2.1;have h3:=Lx c s.2.2.1;have h4:=JC s.2.2.2;have hq:zj s.2.2.1<=10000000000:=by simp only[zy] at hw; omega
 have hn:s.2.2.2.length<=10000000000:=by simp only[zy] at hw; omega
 unfold mZ Yo;simp only[aI c s (by omega),ME,uT c s.2.2.1 (by omega),mV s.2.2.2 (by omega),apL,apX];rw[if_pos (by omega),if_pos (by omega),if_pos (by omega)];cases ye c s<;>rfl
theorem aa8 (a b:Int):nums [a,b]=yp a++yp b:=by simp[nums]
theorem Wl (c:za) (s:zD) (hw:zy s<=1073741824):gi (c,s,())=some (Yo c s,()):=by
 have h1:=y6 s.1;have h2:=y6 s.2.1;have h3:=Lx c s.2.2.1;have h4:=JC s.2.2.2;have hq:zj s.2.2.1<=1073741824:=by simp only[zy] at hw; omega
 have hn:s.2.2.2.length<=1073741824:=by simp only[zy] at hw; omega
 unfold gi Yo;simp only[ca c s (by omega),cp [s.1,s.2.1] (by simp),aa8,pb c s.2.2.1 (by omega),gd s.2.2.2 (by omega),Option.bind_some,List.length_append];rw[if_pos (by omega),if_pos (by omega)];cases ye c s<;>rfl
noncomputable def jt (c:za) (s:zD):List UInt8:=bif (((Yo c s).length:Int)==0) then [] else (yp ((Yo c s).length:Int)++Yo c s)++[UInt8.ofNat (Int.toNat 10)]
theorem ru (c:za) (s:zD):(jt c s).length<=40+5*zy s:=by
 unfold jt;have h1:=uw c s;have h2:=y6 ((Yo c s).length:Int);cases (((Yo c s).length:Int)==0)
 ·simp only[apM,apX,apQ,apS]; omega
 ·simp
theorem aeG (c:za) (s:zD) (hw:zy s<=10000000000):mR (c,s,())=some (jt c s,()):=by
 have h1:=uw c s;have h2:=y6 ((Yo c s).length:Int);unfold mR jt;simp only[aeP c s hw,ME,apL,apX,apQ,apS];rw[if_pos (by omega),if_pos (by omega)];cases (((Yo c s).length:Int)==0)<;>rfl
theorem Wc (c:za) (s:zD) (hw:zy s<=1073741824):f8 (c,s,())=some (jt c s,()):=by
 have h1:=uw c s;have h2:=y6 ((Yo c s).length:Int);unfold f8 jt;simp only[Wl c s hw,Qe,apL,apX,apQ,apS];rw[if_pos (by omega),if_pos (by omega)];cases (((Yo c s).length:Int)==0)<;>rfl
theorem FS (a b:zD):YJ a b=decide (a=b):=by
 obtain⟨a1,a2,a3,a4⟩:=a;obtain⟨b1,b2,b3,b4⟩:=b;unfold YJ;simp only[lG];rw[arw];simp[Prod.ext_iff]
def bq (r:zb) (s:zD) (d:yV):zb:=(r.1,r.2.1,r.2.2.1,s,r.2.2.2.2.1,r.2.2.2.2.2.1,d,r.2.2.2.2.2.2.2)
noncomputable def zu (c:za) (r:zb) (s:zD):zb×Bool:=
 bif YJ r.2.2.2.1 s then (r,true) else bif (jl r.2.2.2.2.2.2.1 (jt c s)).2 && ye c s then (bq r s (jl r.2.2.2.2.2.2.1 (jt c s)).1,true) else (r,false)
noncomputable def write (c:za) (r:zb) (s:zD):zb×Bool:=bif zf c r then zu c r s else (r,false)
theorem afO {c:za} {r:zb} {s:zD} (h:(zu c r s).2=false):(zu c r s).1=r:=by
 unfold zu at *;cases h1:YJ r.2.2.2.1 s
 ·rw[h1] at h;cases h2:((jl r.2.2.2.2.2.2.1 (jt c s)).2 && ye c s)
  ·rfl
  ·rw[h2] at h; cases h
 ·rw[h1] at h; cases h
theorem d9 (c:za) (r:zb) (s:zD) (hr:ze r<=10000000000) (hs:zy s<=10000000000):Ja (c,r,s,())=some ((zu c r s).1,(zu c r s).2,()):=by
 have h1:=bo hr;have h2:=ru c s;have h3:=bp hr;unfold Ja zu;simp only[aeR r.2.2.2.1 s (by omega),aeG c s hs,aep r.2.2.2.2.2.2.1 (jt c s) (by omega) (by omega),aI c s (by omega),nq s (by omega),apL];cases YJ r.2.2.2.1 s<;>cases (jl r.2.2.2.2.2.2.1 (jt c s)).2<;>cases ye c s<;>rfl
theorem wi {d:yV} {b:List UInt8} (h:(jl d b).2=true):yC (jl d b).1=true:=by
 unfold jl at *;split at h
 ·next hc=>
  rw[if_pos hc];have:=JV.1 hc.1;refine JV.2 ⟨?_,this.2.1,?_⟩
  ·simp only[apX]; omega
  ·simp only[apX]; omega
 ·cases h
theorem IC {c:za} {r:zb} {s:zD} {d:yV} (hr:zf c r=true) (hd:yC d=true):zf c (bq r s d)=ye c s:=by
 obtain⟨a,v,k,sf,pool,tab,dk,held⟩:=r;show zf c (a,v,k,s,pool,tab,d,held)=_;unfold zf at hr ⊢;simp only[apO] at hr;obtain⟨a1,a2,a3,a4,a5,a6,a7,a8,a9,a10⟩:=hr;simp only at a1 a2 a3 a4 a5 a6 a7 a8 a9 a10 ⊢;rw[a1,a2.1,a2.2,a3.1,a3.2,a4.1,a4.2,a6,a7,hd,a9,a10];simp
theorem ID (r:zb) (s:zD) (d:yV):ze (bq r s d)<=ze r+zy s+d.1.length:=by
 simp only[bq,ze,KU]; omega
theorem gH (c:za) (r:zb) (s:zD) (hr:ze r<=100000000) (hs:zy s<=100000000):Md (c,r,s,())=some ((write c r s).1,(write c r s).2,()):=by
 have h1:=bo hr;have h2:=ru c s;have h3:=bp hr;have h4:=TZ r.2.2.2.2.2.2.1 (jt c s);have h5:=ID r s (jl r.2.2.2.2.2.2.1 (jt c s)).1;have hk:=ZP c (bq r s (jl r.2.2.2.2.2.2.1 (jt c s)).1) (by omega);unfold Md write zu;have e:(r.1,r.2.1,r.2.2.1,s,r.2.2.2.2.1,r.2.2.2.2.2.1,(jl r.2.2.2.2.2.2.1 (jt c s)).1,r.2.2.2.2.2.2.2)=bq r s (jl r.2.2.2.2.2.2.1 (jt c s)).1:=rfl;simp only[ZS r (by omega),ZP c r (by omega),Wn s r.2.2.2.1 (by omega),Wc c s (by omega),VN r.2.2.2.2.2.2.1 (jt c s) (by omega) (by omega),gN s (by omega),apL,e,hk];have es:YJ s r.2.2.2.1=YJ r.2.2.2.1 s:=by rw[FS,FS]; exact decide_eq_decide.2 ⟨λ h=>h.symm,λ h=>h.symm⟩
 rw[es];cases hok:zf c r
 ·rfl
 ·cases YJ r.2.2.2.1 s
  ·cases ha:(jl r.2.2.2.2.2.2.1 (jt c s)).2
   ·rfl
   ·rw[IC hok (wi ha)];cases ye c s<;>rfl
  ·rfl
end G448
namespace G448
open Ev
set_option maxRecDepth 100000
noncomputable def Kg (c:za) (ws:y9) (p:K1):y9:=
 bif decide (((jS c p.2).length:Int)>0) then (bif (decide (p.1≥0) && decide (p.1<=wr (c.1 - 1))) then (bif decide ((ws.length:Int)<60) then ws++[(p.1,jS c p.2)] else ws) else ws) else ws
noncomputable def KN (c:za) (ws:y9) (ps:jI):y9:=ps.foldl (Kg c) ws
noncomputable def send (w:zp) (ps:jI):zp:=bif jf w then (w.1,w.2.1,w.2.2.1,KN w.1 w.2.2.2.1 ps,w.2.2.2.2) else w
theorem adx (c:za) (ws:y9) (p:K1):Z9 (Kg c ws p)<=Z9 ws+61+5*Z7 p:=by
 have h:=kv c p.2;unfold Kg;cases decide (((jS c p.2).length:Int)>0)
 ·simp only[apM]; omega
 ·cases (decide (p.1≥0) && decide (p.1<=wr (c.1 - 1)))
  ·simp only[apM,apN]; omega
  ·cases decide ((ws.length:Int)<60)
   ·simp only[apM,apN]; omega
   ·simp only[apN,Z9,Z8,bl,Z7,apX,aqS,arQ,aq5,aqr,aqo,aru,apQ,apS] at *;omega
theorem FW (c:za):∀ (ps:jI) (ws:y9),Z9 (KN c ws ps)<=Z9 ws+61*ym ps
 | [],ws=>by simp[KN]
 | p::ps,ws=>by
  have h1:=adx c ws p;have h2:=FW c ps (Kg c ws p);have e:KN c ws (p::ps)=KN c (Kg c ws p) ps:=rfl;rw[e];simp only[ym,apQ,aq5,aqo] at *;omega
theorem ady (w:zp) (ps:jI):yu (send w ps)<=yu w+61*ym ps:=by
 have h:=FW w.1 ps w.2.2.2.1;unfold send;cases jf w
 ·simp only[apM]; omega
 ·simp only[apN,yu] at *; omega
theorem FY (c:za) (l:yZ) (rs:Yc) (sd:yJ) (ps:jI) (ws:y9) {G:(Int×zp×Unit->Option (zp×Unit))->Int×zp×Unit->Option (zp×Unit)} (hn:ps.length<=1073741824)
  (ag5:∀ (rec:Int×zp×Unit->Option (zp×Unit)) (i:Nat) (s:y9) (h:i<ps.length),G rec ((i:Int),(c,l,rs,s,sd),())=rec ((i:Int)+1,(c,l,rs,Kg c s ps[i],sd),()))
  (ag7:∀ (rec:Int×zp×Unit->Option (zp×Unit)) (s:y9),G rec ((ps.length:Int),(c,l,rs,s,sd),())=some ((c,l,rs,s,sd),())):
  iter G fuel (0,(c,l,rs,ws,sd),())=some ((c,l,rs,KN c ws ps,sd),()):=by
 refine (walk ps.length (λ i (s:y9)=>(i,(c,l,rs,s,sd),())) (λ _ _=>True) (λ i s=>some ((c,l,rs,KN c s (ps.drop i),sd),())) (by omega) ?_ ?_ (s0:=ws) trivial).trans (by simp only[aq8])
 ·intro rec s _;rw[ag7,aql];rfl
 ·intro rec i s hi _;exact .inr ⟨Kg c s ps[i],trivial,ag5 rec i s hi,by rw[aq7 hi]; rfl⟩
theorem GY (w:zp) (ps:jI) (hp:ym ps<=1073741824):eh (w,ps,())=some ((w.1,w.2.1,w.2.2.1,KN w.1 w.2.2.2.1 ps,w.2.2.2.2),()):=by
 have hl:ps.length<=1073741824:=by simp only[ym] at hp; omega
 unfold eh;refine FY w.1 w.2.1 w.2.2.1 w.2.2.2.2 ps w.2.2.2.1 hl ?_ ?_
 ·intro rec i s hi;have hx:ps[i]?=some ps[i]:=List.getElem?_eq_getElem hi;have hm:=nU (Nat.le_refl (ym ps)) hx;have hlt:decide ((i:Int)<(ps.length:Int))=true:=by simp; omega
  simp only[hlt,cond_true,show (0:Int)<=(i:Int)/\(i:Int)<(ps.length:Int) from⟨by omega,by omega⟩,and_self,if_true,Int.toNat_natCast,zm (e:=bv) hx,aeF w.1 ps[i].2 (by omega),Option.bind_some,nz,zo (show i<4611686018427387904 by omega),Kg];by_cases h60:(s.length:Int)<60
  ·simp only[h60,apR,apN];rw[if_pos (by simp only[apQ,apS]; omega)]
   cases decide (((jS w.1 ps[i].2).length:Int)>0)<;>cases (decide (ps[i].1≥0) && decide (ps[i].1<=wr (w.1.1 - 1)))<;>rfl
  ·simp only[h60,apU,apM];cases decide (((jS w.1 ps[i].2).length:Int)>0)<;>cases (decide (ps[i].1≥0) && decide (ps[i].1<=wr (w.1.1 - 1)))<;>rfl
 ·intro rec s;simp only[aq6,apU,apM]
theorem Wo (w:zp) (ps:jI) (hw:yu w<=1073741824) (hp:ym ps<=1073741824):gn (w,ps,())=some (send w ps,()):=by
 have hl:ps.length<=1073741824:=by simp only[ym] at hp; omega
 unfold gn send;dsimp only;rw[Nq w (by omega),apL,Qq w (WB.of hw (aqs _)),apL];cases jf w
 ·rfl
 ·simp only[apT,apM,apN];refine FY w.1 w.2.1 w.2.2.1 w.2.2.2.2 ps w.2.2.2.1 hl ?_ ?_
  ·intro rec i s hi;have hx:ps[i]?=some ps[i]:=List.getElem?_eq_getElem hi;have hm:=nU (Nat.le_refl (ym ps)) hx;have hlt:decide ((i:Int)<(ps.length:Int))=true:=by simp; omega
   simp only[hlt,cond_true,show (0:Int)<=(i:Int)/\(i:Int)<(ps.length:Int) from⟨by omega,by omega⟩,and_self,if_true,Int.toNat_natCast,zm (e:=bv) hx,xR w.1 ps[i].2 (by omega),Option.bind_some,pn,zo (show i<4611686018427387904 by omega),Kg];by_cases h60:(s.length:Int)<60
   ·simp only[h60,apR,apN];rw[if_pos (by simp only[apQ,apS]; omega)]
    cases decide (((jS w.1 ps[i].2).length:Int)>0)<;>cases (decide (ps[i].1≥0) && decide (ps[i].1<=wr (w.1.1 - 1)))<;>rfl
   ·simp only[h60,apU,apM];cases decide (((jS w.1 ps[i].2).length:Int)>0)<;>cases (decide (ps[i].1≥0) && decide (ps[i].1<=wr (w.1.1 - 1)))<;>rfl
  ·intro rec s;simp only[aq6,apU,apM]
end G448
namespace G448
open Ev Go
set_option maxRecDepth 100000
abbrev IN:Ty:=.pair .i64 (.sl 0 (.pair .i64 (.pair .i64 (.pair .i64 .i64))))
def n6:zH:=(0,[],[])
noncomputable def Yh (c:za) (p:zO):zH×Bool:=bif p.2.1==[] then (n6,false) else bif zW c p then (p,true) else (n6,false)
theorem aat {c:za} {q:zH} (h:zW c q=true):(q.1==0)=(q.2.1==[]):=by
 unfold zW at h;simp only[apO,aqi] at h;obtain⟨_,hn,hv,_⟩:=h;by_cases h0:q.2.1=[]
 ·have:=rm.2;rw[←h0,hv] at this;rw[this,h0]; rfl
 ·have:=(Nx hn h0).1;have e1:(q.2.1==[])=false:=beq_eq_false_iff_ne.2 h0;have e2:(q.1==0)=false:=beq_eq_false_iff_ne.2 (by omega);rw[e1,e2]
theorem aeI (c:za) (p:zO) (hw:zn p<=137438953472):mT (c,p,())=some ((Yh c p).1,(Yh c p).2,()):=by
 have h1:p.2.2.length<=137438953472:=by simp only[zn,zq] at hw; omega
 have h2:zj p<=137438953472:=hw;unfold mT Yh n6;dsimp only;rw[if_pos (by omega)];simp only[aqf];rw[MG c (p.1,p.2.1,p.2.2) h2,apL];show _=some ((bif p.2.1==[] then ((0,[],[]),false) else bif zW c (p.1,p.2.1,p.2.2) then (p,true) else ((0,[],[]),false)).1,_,());cases (p.2.1==([]:List UInt8))
 ·cases zW c (p.1,p.2.1,p.2.2)<;>rfl
 ·rfl
theorem We (c:za) (p:zO) (hw:zn p<=1073741824):f9 (c,p,())=some ((Yh c p).1,(Yh c p).2,()):=by
 have h2:zj p<=1073741824:=hw;unfold f9 Yh n6;dsimp only;rw[No p (by omega),apL,Ng c p h2,apL];cases h:zW c p
 ·cases (p.2.1==([]:List UInt8))<;>rfl
 ·have e:=aat h;dsimp only;rw[e];cases (p.2.1==([]:List UInt8))<;>rfl
theorem Bz {c:za} {p:zO} (h:(Yh c p).2=true):(Yh c p).1=p/\zW c p=true:=by
 unfold Yh at *;cases h1:(p.2.1==([]:List UInt8))
 ·rw[h1] at h;cases h2:zW c p
  ·rw[h2] at h; cases h
  ·exact⟨rfl,rfl⟩
 ·rw[h1] at h; cases h
def QQ (a b:zH):zH:=bif decide (a.1>b.1) then a else b
theorem aeM (a b:zH) (ha:zj a<=137438953472) (hb:zj b<=137438953472):mX (a,b,())=some (QQ a b,()):=by
 unfold mX QQ;dsimp only;rw[qg a ha,qg b hb];cases decide (a.1>b.1)<;>rfl
theorem Wi (a b:zH) (ha:zj a<=137438953472) (hb:zj b<=137438953472):ge (a,b,())=some (QQ a b,()):=by
 unfold ge QQ;dsimp only;rw[No a ha,No b hb];cases decide (a.1>b.1)<;>rfl
theorem qp (s:List UInt8):(Z6 s).length<=s.length:=by
 unfold Z6;split
 ·split
  ·rw[aq4]; omega
  ·simp
 ·simp
noncomputable def jv (l:List Yt) (k:Int):Int:=(rd IN l (Int.toNat (wr ((l.length:Int) - k)))).1
noncomputable def Zg (s:List UInt8):List UInt8×Bool:=
 bif decide (((steps s).1.length:Int)<3) then ([],false) else
 bif jv (steps s).1 1 != wr (jv (steps s).1 2+1) then ([],false) else
 bif jv (steps s).1 2 != wr (jv (steps s).1 3+1) then ([],false) else (Z6 (Z6 s),true)
theorem Mg {l:List Yt} (h:¬ ((l.length:Int)<3)) (h2:l.length<=30) (k:Int) (hk:1<=k/\k<=3):0<=wr ((l.length:Int) - k)/\wr ((l.length:Int) - k)<(l.length:Int):=by
 rw[zg (by omega) (by omega)];omega
theorem aeU (s:List UInt8) (hs:s.length<=137438953472):na (s,())=some ((Zg s).1,(Zg s).2,()):=by
 have hu:=qp s;obtain⟨p1,p2⟩:=bf s;unfold na Zg;dsimp only;rw[ng s hs,apL];cases h:(steps s).2
 ·rw[p1 h]; rfl
 ·dsimp only;by_cases h3:((steps s).1.length:Int)<3
  ·simp only[h3,apR,apN,apT,apM]
  ·simp only[h3,apU,apM,apT];rw[if_pos (Mg h3 p2 1 (by decide)),if_pos (Mg h3 p2 2 (by decide)),if_pos (Mg h3 p2 2 (by decide)),if_pos (Mg h3 p2 3 (by decide)),dX s hs,apL,dX (Z6 s) (by omega),apL];show (bif jv (steps s).1 1 != wr (jv (steps s).1 2+1) then _ else bif jv (steps s).1 2 != wr (jv (steps s).1 3+1) then _ else _)=_;cases (jv (steps s).1 1 != wr (jv (steps s).1 2+1))<;>cases (jv (steps s).1 2 != wr (jv (steps s).1 3+1))<;>rfl
theorem Wq (s:List UInt8) (hs:s.length<=1073741824):gq (s,())=some ((Zg s).1,(Zg s).2,()):=by
 have hu:=qp s;obtain⟨p1,p2⟩:=bf s;unfold gq Zg;dsimp only;rw[gu s hs,apL];dsimp only;by_cases h3:((steps s).1.length:Int)<3
 ·simp only[h3,apR,apN]
 ·simp only[h3,apU,apM];rw[if_pos (Mg h3 p2 1 (by decide)),if_pos (Mg h3 p2 2 (by decide)),if_pos (Mg h3 p2 2 (by decide)),if_pos (Mg h3 p2 3 (by decide)),gD s hs,apL,gD (Z6 s) (by omega),apL];show (bif jv (steps s).1 1 != wr (jv (steps s).1 2+1) then _ else bif jv (steps s).1 2 != wr (jv (steps s).1 3+1) then _ else _)=_;cases (jv (steps s).1 1 != wr (jv (steps s).1 2+1))<;>cases (jv (steps s).1 2 != wr (jv (steps s).1 3+1))<;>rfl
theorem uK (s:List UInt8):(Zg s).1.length<=s.length:=by
 have h1:=qp s;have h2:=qp (Z6 s);unfold Zg;cases decide (((steps s).1.length:Int)<3)
 ·cases (jv (steps s).1 1 != wr (jv (steps s).1 2+1))
  ·cases (jv (steps s).1 2 != wr (jv (steps s).1 3+1))
   ·simp only[apM]; omega
   ·simp
  ·simp
 ·simp
noncomputable def L2 (a b:List UInt8):Bool:=
 zB a && (zB b && (!decide ((b.length:Int)>(a.length:Int)) && (a.take b.length==b && ((a.length:Int)==(b.length:Int) || a.getD b.length 0==UInt8.ofNat (Int.toNat 47)))))
theorem aet (a b:List UInt8) (ha:a.length<=137438953472) (hb:b.length<=137438953472):mI (a,b,())=some (L2 a b,()):=by
 unfold mI L2;dsimp only;rw[LF a ha,apL,LF b hb,apL];cases zB a
 ·rfl
 cases zB b
 ·rfl
 by_cases hl:(b.length:Int)>(a.length:Int)
 ·simp only[hl,apR,apN,apT,apM,aqp,aqQ,aq3]
 ·simp only[hl,apU,apM,apT,aq9,aq3];rw[if_pos (by omega)];simp only[apW,show Int.toNat 0=0 from rfl,aqU,aq8,bne];cases a.take b.length==b
  ·rfl
  ·simp only[apT,apM,aq3];cases he:((a.length:Int)==(b.length:Int))
   ·have:(a.length:Int)≠(b.length:Int):=by simpa using he
    simp only[apM,arK];rw[if_pos (by omega)]
   ·rfl
theorem VW (a b:List UInt8) (ha:a.length<=1073741824) (hb:b.length<=1073741824):fQ (a,b,())=some (L2 a b,()):=by
 unfold fQ L2 vp po;dsimp only;rw[La a ha,apL,La b hb,apL];cases zB a
 ·rfl
 cases zB b
 ·rfl
 by_cases hl:(b.length:Int)>(a.length:Int)
 ·have:¬ ((a.length:Int)≥(b.length:Int)):=by omega
  simp only[hl,this,apR,apU,apN,apT,apM,aqp,aqQ,aq3,apL]
 ·have:(a.length:Int)≥(b.length:Int):=by omega
  simp only[hl,this,apR,apU,apN,apM,apT,aq9,aq3];rw[if_pos (show (0:Int)<=0/\(0:Int)<=(b.length:Int)/\True from⟨by omega,by omega,trivial⟩)];simp only[apW,show Int.toNat 0=0 from rfl,aqU,aq8,apL];cases a.take b.length==b
  ·rfl
  ·simp only[apN,aq3];cases he:((a.length:Int)==(b.length:Int))
   ·have:(a.length:Int)≠(b.length:Int):=by simpa using he
    simp only[apM,arK];rw[if_pos (by omega)]
   ·rfl
noncomputable def see (c:za) (s:zD) (q:zH):zD:=
 bif !ye c s then s else bif !zW c q then s else (s.1,max s.2.1 (zl (Z6 q.2.1)),QQ q s.2.2.1,bif (Zg q.2.1).2 && L2 (Zg q.2.1).1 s.2.2.2 then (Zg q.2.1).1 else s.2.2.2)
theorem Be (a b:Int):mx a b=max a b:=by rw[Mj]; omega
theorem uX (c:za) (s:zD) (q:zH) (hs:zy s<=10000000000) (hq:zj q<=10000000000):aK (c,s,q,())=some (see c s q,()):=by
 have h1:q.2.1.length<=10000000000:=by simp only[zj] at hq; omega
 have h2:=qp q.2.1;have h3:=uK q.2.1;have h4:zj s.2.2.1<=10000000000/\s.2.2.2.length<=10000000000:=by simp only[zy] at hs; omega
 unfold aK see;dsimp only;rw[nq s (by omega),apL,aI c s (by omega),apL,MG c q (by omega),apL,aeM q s.2.2.1 (by omega) (by omega),apL,dX q.2.1 (by omega),apL,KP (Z6 q.2.1) (by omega),apL,be,apL,
  aeU q.2.1 (by omega),apL,aet (Zg q.2.1).1 s.2.2.2 (by omega) (by omega),apL]
 cases ye c s
 ·rfl
 cases zW c q
 ·rfl
 cases (Zg q.2.1).2
 ·rfl
 cases L2 (Zg q.2.1).1 s.2.2.2<;>rfl
theorem pg (c:za) (s:zD) (q:zH) (hs:zy s<=1073741824) (hq:zj q<=1073741824):Ql (c,s,q,())=some (see c s q,()):=by
 have h1:q.2.1.length<=1073741824:=by simp only[zj] at hq; omega
 have h2:=qp q.2.1;have h3:=uK q.2.1;have h4:zj s.2.2.1<=1073741824/\s.2.2.2.length<=1073741824:=by simp only[zy] at hs; omega
 unfold Ql see;dsimp only;rw[gN s (by omega),apL,ca c s (by omega),apL,Ng c q (by omega),apL,Wi q s.2.2.1 (by omega) (by omega),apL,gD q.2.1 (by omega),apL,Lg (Z6 q.2.1) (by omega),apL,
  Wq q.2.1 (by omega),apL,VW (Zg q.2.1).1 s.2.2.2 (by omega) (by omega),apL]
 simp only[Be];cases ye c s
 ·rfl
 cases zW c q
 ·rfl
 cases (Zg q.2.1).2
 ·rfl
 cases L2 (Zg q.2.1).1 s.2.2.2<;>rfl
theorem NV (c:za) (s:zD) (q:zH):zy (see c s q)<=zy s+2*zj q:=by
 have h3:=uK q.2.1;unfold see QQ;cases ye c s
 ·simp only[aq9,apN]; omega
 cases zW c q
 ·simp only[aq9,apN,apT,apM]; omega
 simp only[apT,apM,zy];have h5:q.2.1.length<=zj q:=by simp only[zj]; omega
 cases decide (q.1>s.2.2.1.1)<;>cases ((Zg q.2.1).2 && L2 (Zg q.2.1).1 s.2.2.2)<;>simp only[apN,apM]<;>omega
noncomputable def seat (c:za) (v i:Int):Int:=bif zz c && (!decide (v<0) && (decide (i≥0) && decide (i<=c.1 - 1))) then (i+c.1 - v % c.1) % c.1 else -1
noncomputable def sits (c:za) (v p:Int):Int:=bif zz c && (!decide (v<0) && (decide (p≥0) && decide (p<=c.1 - 1))) then (v % c.1+p) % c.1 else -1
theorem MN {a n:Int} (h:0<=a):Int.tmod a n=a % n:=Int.tmod_eq_emod_of_nonneg h
theorem dQ (c:za) (v i:Int):aJ (c,v,i,())=some (seat c v i,()):=by
 unfold aJ seat;dsimp only;rw[JL,apL];cases h:zz c
 ·rfl
 obtain⟨h1,h2⟩:=zR h;have e1:wr (c.1 - 1)=c.1 - 1:=zg (by omega) (by omega);by_cases hv:v<0
 ·simp only[hv,apR,apN,apT,apM,aqp,aqQ,aq3]
 simp only[hv,apU,apM,apT,aq9,aq3,nz,apL,e1];by_cases hi:i≥0/\i<=c.1 - 1
 ·have a1:0<=v % c.1:=Int.emod_nonneg _ (by omega);have a2:v % c.1<c.1:=Int.emod_lt_of_pos _ (by omega);simp only[hi.1,hi.2,apR,aqH,apT,apM,apN];rw[if_neg (by omega),if_neg (by omega),MN (show 0<=v by omega),zg (show -9223372036854775808<=i+c.1 by omega) (by omega),zg (by omega) (by omega),MN (by omega)]
 ·have:(decide (i≥0) && decide (i<=c.1 - 1))=false:=by
   rw[arR]; intro h; simp only[apO,apY] at h; exact hi h
  simp only[this,aq9,apN,apM]
theorem Qk (c:za) (v i:Int):Qj (c,v,i,())=some (seat c v i,()):=by
 unfold Qj seat;dsimp only;rw[J3,apL];cases h:zz c
 ·rfl
 obtain⟨h1,h2⟩:=zR h;have e1:wr (c.1 - 1)=c.1 - 1:=zg (by omega) (by omega);by_cases hv:v<0
 ·simp only[hv,apR,apN,apT,apM,aqp,aqQ,aq3]
 simp only[hv,apU,apM,apT,aq9,aq3,pn,apL,e1];by_cases hi:i≥0/\i<=c.1 - 1
 ·have a1:0<=v % c.1:=Int.emod_nonneg _ (by omega);have a2:v % c.1<c.1:=Int.emod_lt_of_pos _ (by omega);simp only[hi.1,hi.2,apR,aqH,apT,apM,apN];rw[if_neg (by omega),if_neg (by omega),MN (show 0<=v by omega),zg (show -9223372036854775808<=i - v % c.1 by omega) (by omega),zg (by omega) (by omega),MN (by omega),show i - v % c.1+c.1=i+c.1 - v % c.1 by omega]
 ·have:(decide (i≥0) && decide (i<=c.1 - 1))=false:=by
   rw[arR]; intro h; simp only[apO,apY] at h; exact hi h
  simp only[this,aq9,apN,apM]
theorem aeV (c:za) (v p:Int):ne (c,v,p,())=some (sits c v p,()):=by
 unfold ne sits;dsimp only;rw[JL,apL];cases h:zz c
 ·rfl
 obtain⟨h1,h2⟩:=zR h;have e1:wr (c.1 - 1)=c.1 - 1:=zg (by omega) (by omega);by_cases hv:v<0
 ·simp only[hv,apR,apN,apT,apM,aqp,aqQ,aq3]
 simp only[hv,apU,apM,apT,aq9,aq3,nz,apL,e1];by_cases hi:p≥0/\p<=c.1 - 1
 ·have a1:0<=v % c.1:=Int.emod_nonneg _ (by omega);have a2:v % c.1<c.1:=Int.emod_lt_of_pos _ (by omega);simp only[hi.1,hi.2,apR,aqH,apT,apM,apN];rw[if_neg (by omega),if_neg (by omega),MN (show 0<=v by omega),zg (by omega) (by omega),MN (by omega)]
 ·have:(decide (p≥0) && decide (p<=c.1 - 1))=false:=by
   rw[arR]; intro h; simp only[apO,apY] at h; exact hi h
  simp only[this,aq9,apN,apM]
theorem Wr (c:za) (v p:Int):gt (c,v,p,())=some (sits c v p,()):=by
 unfold gt sits;dsimp only;rw[J3,apL];cases h:zz c
 ·rfl
 obtain⟨h1,h2⟩:=zR h;have e1:wr (c.1 - 1)=c.1 - 1:=zg (by omega) (by omega);by_cases hv:v<0
 ·simp only[hv,apR,apN,apT,apM,aqp,aqQ,aq3]
 simp only[hv,apU,apM,apT,aq9,aq3,pn,apL,e1];by_cases hi:p≥0/\p<=c.1 - 1
 ·have a1:0<=v % c.1:=Int.emod_nonneg _ (by omega);have a2:v % c.1<c.1:=Int.emod_lt_of_pos _ (by omega);simp only[hi.1,hi.2,apR,aqH,apT,apM,apN];rw[if_neg (by omega),if_neg (by omega),MN (show 0<=v by omega),zg (by omega) (by omega),MN (by omega)]
 ·have:(decide (p≥0) && decide (p<=c.1 - 1))=false:=by
   rw[arR]; intro h; simp only[apO,apY] at h; exact hi h
  simp only[this,aq9,apN,apM]
theorem LB {c:za} {v i:Int} (h:0<=seat c v i):zz c=true/\0<=v/\0<=i/\i<=c.1 - 1/\seat c v i=(i+c.1 - v % c.1) % c.1:=by
 unfold seat at *;cases hc:(zz c && (!decide (v<0) && (decide (i≥0) && decide (i<=c.1 - 1))))
 ·rw[hc] at h; simp only[apM] at h; omega
 ·simp only[apO,aqD,ara,apY] at hc;exact⟨hc.1,by omega,hc.2.2.1,hc.2.2.2,rfl⟩
noncomputable def up (c:za) (v i:Int):Int:=bif decide (seat c v i<=0) then -1 else sits c v ((seat c v i - 1) / c.2)
theorem uy {c:za} {v i:Int} (h:0<=seat c v i):seat c v i<c.1:=by
 obtain⟨h1,_,_,_,h5⟩:=LB h;have:=zR h1;rw[h5];exact Int.emod_lt_of_pos _ (by omega)
theorem vG {c:za} {v i:Int} (h:¬ seat c v i<=0):wr (Int.tdiv (wr (seat c v i - 1)) c.2)=(seat c v i - 1) / c.2/\¬ c.2=0/\0<=(seat c v i - 1) / c.2/\(seat c v i - 1) / c.2<=seat c v i - 1:=by
 obtain⟨h1,_⟩:=LB (c:=c) (v:=v) (i:=i) (by omega);have hlt:=uy (c:=c) (v:=v) (i:=i) (by omega);obtain⟨c1,c2⟩:=zR h1;have hf:1<=c.2/\c.2<=6:=by
  unfold zz at h1;simp only[apO,apY] at h1;exact h1.2
 have hd0:0<=(seat c v i - 1) / c.2:=Int.ediv_nonneg (by omega) (by omega);have hd1:(seat c v i - 1) / c.2<=seat c v i - 1:=Int.ediv_le_self _ (by omega);refine⟨?_,by omega,hd0,hd1⟩;rw[zg (show -9223372036854775808<=seat c v i - 1 by omega) (by omega),Int.tdiv_eq_ediv_of_nonneg (by omega),zg (by omega) (by omega)]
theorem GP (c:za) (v i:Int):aQ (c,v,i,())=some (up c v i,()):=by
 unfold aQ up;dsimp only;rw[dQ,apL];by_cases h:seat c v i<=0
 ·simp only[h,apR,apN]
 ·obtain⟨e1,e2,_⟩:=vG h;simp only[h,apU,apM,e1];rw[if_neg e2,aeV,apL]
theorem Ac (c:za) (v i:Int):Qp (c,v,i,())=some (up c v i,()):=by
 unfold Qp up;dsimp only;rw[Qk,apL];by_cases h:seat c v i<=0
 ·have h':seat c v i<1:=by omega
  simp only[h,h',apR,apN]
 ·have h':¬ seat c v i<1:=by omega
  obtain⟨e1,e2,_⟩:=vG h;simp only[h,h',apU,apM,e1];rw[if_neg e2,Wr,apL]
theorem aaF {n a p:Int} (hn:4<=n/\n<=7) (ha:0<=a/\a<n) (hp:0<=p/\p<n):((a+p) % n+n - a) % n=p:=by
 have h:n=4∨n=5∨n=6∨n=7:=by omega
 rcases h with rfl|rfl|rfl|rfl<;>omega
theorem uz {c:za} {v i:Int} (h:0<=seat c v i):seat c v (up c v i)<seat c v i /\ -1<=seat c v (up c v i):=by
 obtain⟨h1,h2,h3,h4,h5⟩:=LB h;have hlt:=uy h;obtain⟨c1,c2⟩:=zR h1;by_cases h0:seat c v i<=0
 ·have e:up c v i = -1:=by unfold up; simp only[h0,apR,apN]
  rw[e];have e2:seat c v (-1) = -1:=by unfold seat; simp
  rw[e2]; omega
 ·obtain⟨_,_,d0,d1⟩:=vG h0;obtain⟨p,hp⟩:∃ p,p=(seat c v i - 1) / c.2:=⟨_,rfl⟩
  rw[←hp] at d0 d1;have a1:0<=v % c.1:=Int.emod_nonneg _ (by omega);have a2:v % c.1<c.1:=Int.emod_lt_of_pos _ (by omega);have e:up c v i=(v % c.1+p) % c.1:=by
   unfold up sits;have k1:decide (v<0)=false:=decide_eq_false (by omega);have k2:decide (p≥0)=true:=decide_eq_true (by omega);have k3:decide (p<=c.1 - 1)=true:=decide_eq_true (by omega);simp only[h0,apU,apM,←hp,h1,k1,k2,k3,aq9,aqH,apN]
  have b1:0<=(v % c.1+p) % c.1:=Int.emod_nonneg _ (by omega);have b2:(v % c.1+p) % c.1<c.1:=Int.emod_lt_of_pos _ (by omega);have e2:seat c v (up c v i)=((v % c.1+p) % c.1+c.1 - v % c.1) % c.1:=by
   rw[e];have k1:decide (v<0)=false:=decide_eq_false (by omega);have k2:decide ((v % c.1+p) % c.1≥0)=true:=decide_eq_true (by omega);have k3:decide ((v % c.1+p) % c.1<=c.1 - 1)=true:=decide_eq_true (by omega);unfold seat;simp only[h1,k1,k2,k3,aq9,aqH,apN]
  have e3:((v % c.1+p) % c.1+c.1 - v % c.1) % c.1=p:=aaF ⟨c1,c2⟩ ⟨a1,a2⟩ ⟨d0,by omega⟩;rw[e2,e3];omega
noncomputable def Kq (c:za) (v:Int):Nat->Int->List Int
 | 0,_=>[]
 | k+1,x=>bif decide (seat c v x≥0) then x::Kq c v k (up c v x) else []
noncomputable def jq (c:za) (v x:Int):Nat:=(seat c v x+1).toNat
noncomputable def way (c:za) (v x:Int):List Int:=Kq c v (jq c v x) x
theorem vK (c:za) (v:Int):∀ (k:Nat) (x:Int),jq c v x<=k->Kq c v k x=way c v x
 | 0,x,h=>by
  unfold way;have:jq c v x=0:=by omega
  rw[this]
 | k+1,x,h=>by
  unfold way;by_cases hs:seat c v x≥0
  ·have hm:jq c v x=(seat c v x).toNat+1:=by unfold jq; omega
   obtain⟨u1,u2⟩:=uz hs;have hu:jq c v (up c v x)<=(seat c v x).toNat:=by unfold jq; omega
   rw[hm];simp only[Kq,hs,apR,apN];rw[vK c v k _ (by omega),vK c v _ _ hu]
  ·have hm:jq c v x=0:=by unfold jq; omega
   rw[hm];simp only[Kq,hs,apU,apM]
theorem afI {c:za} {v x:Int} (h:seat c v x≥0):way c v x=x::way c v (up c v x):=by
 obtain⟨u1,u2⟩:=uz h;have hm:jq c v x=(seat c v x).toNat+1:=by unfold jq; omega
 have hu:jq c v (up c v x)<=(seat c v x).toNat:=by unfold jq; omega
 show Kq c v (jq c v x) x=_;rw[hm];simp only[Kq,h,apR,apN];rw[vK c v _ _ hu]
theorem afJ {c:za} {v x:Int} (h:¬ seat c v x≥0):way c v x=[]:=by
 have hm:jq c v x=0:=by unfold jq; omega
 show Kq c v (jq c v x) x=_;rw[hm]; rfl
theorem Ix (c:za) (v:Int):∀ (k:Nat) (x:Int),(Kq c v k x).length<=k
 | 0,x=>by simp[Kq]
 | k+1,x=>by
  simp only[Kq];cases decide (seat c v x≥0)
  ·simp
  ·have:=Ix c v k (up c v x);simp only[apN,apQ]; omega
theorem vJ (c:za) (v x:Int):jq c v x<=7:=by
 unfold jq;by_cases h:0<=seat c v x
 ·have h1:=uy h;have:=zR (LB h).1;omega
 ·omega
theorem Iy (c:za) (v x:Int):(way c v x).length<=7:=Nat.le_trans (Ix c v _ x) (vJ c v x)
theorem Iz (c:za) (v x:Int) {G:(Int×List Int×Unit->Option (List Int×Unit))->Int×List Int×Unit->Option (List Int×Unit)}
  (hon:∀ rec y out,seat c v y≥0->out.length<=7->G rec (y,out,())=rec (up c v y,out++[y],())) (aiR:∀ rec y out,¬ seat c v y≥0->G rec (y,out,())=some (out,())):
  iter G fuel (x,[],())=some (way c v x,()):=by
 refine (Qv (λ y:Int×List Int×Unit=>some (y.2.1++way c v y.1,())) (λ y=>jq c v y.1) (λ y=>y.2.1.length+jq c v y.1<=7) ?_ fuel (x,[],()) (by simp only[apS]; have:=vJ c v x; omega)
  (by show jq c v x<fuel; have:=vJ c v x; have:=YU (n:=7) (by decide); omega)).trans (by simp)
 rintro rec ⟨y,out,⟨⟩⟩ hI afU;simp only at hI ⊢;by_cases h:seat c v y≥0
 ·obtain⟨u1,u2⟩:=uz h;have hm:jq c v (up c v y)<jq c v y:=by unfold jq; omega
  rw[hon rec y out h (by omega),afU (up c v y,out++[y],()) (by simp only[apX,apQ,apS]; omega) hm,afI h]
  simp
 ·rw[aiR rec y out h,afJ h]; simp
theorem af6 (c:za) (v x:Int):np (c,v,x,())=some (way c v x,()):=by
 unfold np;refine Iz c v x ?_ ?_
 ·intro rec y out h hl;simp only[dQ,apL,h,apR,apN,GP];rw[if_pos (by simp only[apQ,apS]; omega)]
 ·intro rec y out h;simp only[dQ,apL,h,apU,apM]
theorem WD (c:za) (v x:Int):gF (c,v,x,())=some (way c v x,()):=by
 unfold gF;refine Iz c v x ?_ ?_
 ·intro rec y out h hl;simp only[Qk,apL,h,apR,apN,Ac];rw[if_pos (by simp only[apQ,apS]; omega)]
 ·intro rec y out h;simp only[Qk,apL,h,apU,apM]
noncomputable def qo (c:za) (v i:Int):Nat->Nat->List Int->List Int
 | 0,_,out=>out
 | k+1,j,out=>qo c v i k (j+1) (bif (way c v (j:Int)).any (· == i) then out++[(j:Int)] else out)
noncomputable def under (c:za) (v i:Int):List Int:=bif decide (seat c v i≥0) then qo c v i c.1.toNat 0 [] else []
theorem In (c:za) (v i:Int):∀ (k j:Nat) (out:List Int),(qo c v i k j out).length<=out.length+k
 | 0,_,out=>by simp[qo]
 | k+1,j,out=>by
  simp only[qo];have:=In c v i k (j+1) (bif (way c v (j:Int)).any (· == i) then out++[(j:Int)] else out);cases h:(way c v (j:Int)).any (· == i)
  ·rw[h] at this; simp only[apM] at this ⊢; omega
  ·rw[h] at this; simp only[apN,apX,apQ,apS] at this ⊢; omega
theorem Io (c:za) (v i:Int):(under c v i).length<=7:=by
 unfold under;by_cases h:seat c v i≥0
 ·have h1:=zR (LB h).1;have:=In c v i c.1.toNat 0 [];simp only[h,apR,apN,apS] at this ⊢;omega
 ·simp only[h,apU,apM,apS]; omega
theorem Ip (c:za) (v i:Int) (hs:seat c v i≥0) {G:(List Int×Int×Unit->Option (List Int×Unit))->List Int×Int×Unit->Option (List Int×Unit)}
  (hon:∀ (rec:List Int×Int×Unit->Option (List Int×Unit)) (j:Nat) out,(j:Int)<c.1->out.length<=7->G rec (out,(j:Int),())=rec ((bif (way c v (j:Int)).any (· == i) then out++[(j:Int)] else out),(j:Int)+1,()))
  (aiR:∀ (rec:List Int×Int×Unit->Option (List Int×Unit)) out,G rec (out,c.1,())=some (out,())):
  iter G fuel ([],0,())=some (under c v i,()):=by
 obtain⟨c1,c2⟩:=zR (LB hs).1;obtain⟨n,hn⟩:∃ n:Nat,c.1=(n:Int):=⟨c.1.toNat,by omega⟩
 have e:under c v i=qo c v i n 0 []:=by
  unfold under;simp only[hs,apR,apN,hn,apW]
 rw[e];refine (walk n (λ j (out:List Int)=>(out,j,())) (λ j out=>out.length<=j) (λ j out=>some (qo c v i (n - j) j out,())) (by omega) ?_ ?_ (s0:=[]) (by simp)).trans (by simp)
 ·intro rec out _;have:=aiR rec out;rw[hn] at this;rw[this,Nat.sub_self];rfl
 ·intro rec j out hj hI;refine .inr ⟨_,?_,hon rec j out (by omega) (by omega),?_⟩
  ·cases (way c v (j:Int)).any (· == i)
   ·simp only[apM]; omega
   ·simp only[apN,apX,apQ,apS]; omega
  ·rw[show n - j=(n - (j+1))+1 by omega]; rfl
theorem af4 (c:za) (v i:Int):nn (c,v,i,())=some (under c v i,()):=by
 unfold nn;dsimp only;rw[JL,apL];by_cases hs:seat c v i≥0
 ·rw[(LB hs).1];simp only[apT,apM];obtain⟨c1,c2⟩:=zR (LB hs).1;refine Ip c v i hs ?_ ?_
  ·intro rec j out hj hl;have hw:=Iy c v (j:Int);simp only[hj,apR,apN,dQ,apL,hs,af6,Y8 _ i (show (way c v (j:Int)).length<=1152921504606846976 by omega),zo (show j<4611686018427387904 by omega)];cases (way c v (j:Int)).any (· == i)
   ·rfl
   ·simp only[apN];rw[if_pos (by simp only[apQ,apS]; omega)]
  ·intro rec out;simp only[aq6,apU,apM]
 ·have e:under c v i=[]:=by unfold under; simp only[hs,apU,apM]
  rw[e];cases h:zz c
  ·rfl
  ·simp only[apT,apM];obtain⟨c1,c2⟩:=zR h;obtain⟨m,hm⟩:∃ m,fuel=m+1:=⟨fuel - 1,by have:=YU (n:=7) (by decide); omega⟩
   rw[hm];simp only[iter,show (0:Int)<c.1 by omega,apR,apN,dQ,apL,hs,apU,apM]
theorem WA (c:za) (v i:Int):gC (c,v,i,())=some (under c v i,()):=by
 unfold gC;by_cases hs:seat c v i≥0
 ·obtain⟨c1,c2⟩:=zR (LB hs).1;refine Ip c v i hs ?_ ?_
  ·intro rec j out hj hl;have hw:=Iy c v (j:Int);simp only[hj,apR,apN,Qk,apL,hs,WD,Js _ i (show (way c v (j:Int)).length<=1152921504606846976 by omega),zo (show j<4611686018427387904 by omega)];cases (way c v (j:Int)).any (· == i)
   ·rfl
   ·simp only[apN];rw[if_pos (by simp only[apQ,apS]; omega)]
  ·intro rec out;simp only[Qk,apL,hs,apR,apN,aq6,apU,apM]
 ·have e:under c v i=[]:=by unfold under; simp only[hs,apU,apM]
  rw[e];obtain⟨m,hm⟩:∃ m,fuel=m+1:=⟨fuel - 1,by have:=YU (n:=7) (by decide); omega⟩
  rw[hm];simp only[iter,Qk,apL,hs,apU,apM]
def JU (a b:List Int):Nat:=a.countP λ x=>b.any (· == x)
theorem wG (a b:List Int) (ha:a.length<=1152921504606846976) {G:(Int×Int×Unit->Option (Int×Unit))->Int×Int×Unit->Option (Int×Unit)}
  (hon:∀ (rec:Int×Int×Unit->Option (Int×Unit)) (j k:Nat) (h:j<a.length),k<=j->G rec ((k:Int),(j:Int),())=rec (((k+(if b.any (· == a[j]) then 1 else 0):Nat):Int),(j:Int)+1,()))
  (aiR:∀ (rec:Int×Int×Unit->Option (Int×Unit)) (k:Nat),G rec ((k:Int),(a.length:Int),())=some ((k:Int),())):
  iter G fuel (0,0,())=some ((JU a b:Int),()):=by
 refine (walk a.length (λ j (k:Nat)=>((k:Int),j,())) (λ j k=>k<=j) (λ j k=>some (((k+JU (a.drop j) b:Nat):Int),())) (by omega) ?_ ?_ (s0:=0) (Nat.le_refl _)).trans (by simp)
 ·intro rec k _;rw[aiR rec k,aql];simp[JU]
 ·intro rec j k hj hI;refine .inr ⟨k+(if b.any (· == a[j]) then 1 else 0),by split<;>omega,hon rec j k hj hI,?_⟩
  rw[aq7 hj];simp only[JU,List.countP_cons];congr 3;omega
theorem aes (a b:List Int) (ha:a.length<=1073741824) (hb:b.length<=1073741824):mF (a,b,())=some ((JU a b:Int),()):=by
 unfold mF;refine wG a b (by omega) ?_ ?_
 ·intro rec j k hj hk;have hx:a[j]?=some a[j]:=List.getElem?_eq_getElem hj;simp only[zr hj,decide_true,cond_true,and_self,if_true,Int.toNat_natCast,zm (e:=.i64) hx,Y8 b a[j] (by omega),Option.bind_some,zo (show j<4611686018427387904 by omega),ve];cases b.any (· == a[j])
  ·simp only[apM,apL,Int.add_zero,aqc,if_false,aqJ];rw[zg (by omega) (by omega)]
  ·simp only[apN,apL,if_true];rw[zo (show k<4611686018427387904 by omega)];rfl
 ·intro rec k;simp only[aq6,apU,apM]
theorem VR (a b:List Int) (ha:a.length<=1073741824) (hb:b.length<=1073741824):fN (a,b,())=some ((JU a b:Int),()):=by
 unfold fN;refine wG a b (by omega) ?_ ?_
 ·intro rec j k hj hk;have hx:a[j]?=some a[j]:=List.getElem?_eq_getElem hj;simp only[zr hj,decide_true,cond_true,and_self,if_true,Int.toNat_natCast,zm (e:=.i64) hx,Js b a[j] (by omega),Option.bind_some,zo (show j<4611686018427387904 by omega)];cases b.any (· == a[j])
  ·simp only[apM,aqc,if_false,aqJ]
  ·simp only[apN,if_true];rw[zo (show k<4611686018427387904 by omega)];rfl
 ·intro rec k;simp only[aq6,apU,apM]
def zM (r:zb) (v:Int):zb:=(r.1,v,r.2.2)
theorem cr {c:za} {r:zb} {v:Int} (h:zf c r=true) (hv:1<=v/\v<=60):zf c (zM r v)=true:=by
 obtain⟨a,v0,k,sf,pool,tab,dk,held⟩:=r;show zf c (a,v,k,sf,pool,tab,dk,held)=true;unfold zf at h ⊢;simp only[apO,apY] at h ⊢;exact⟨h.1,h.2.1,hv,h.2.2.2⟩
noncomputable def top (c:za) (r:zb) (q:zH):zb×Bool:=
 bif !(zu c r (see c r.2.2.2.1 q)).2 then (r,false) else
 bif decide (q.1+1>60) then ((zu c r (see c r.2.2.2.1 q)).1,true) else
 bif yw c (q.1+1)==r.1 then (zM (zu c r (see c r.2.2.2.1 q)).1 (max (zu c r (see c r.2.2.2.1 q)).1.2.1 (q.1+1)),true) else
 jG c (zM (zu c r (see c r.2.2.2.1 q)).1 (max (zu c r (see c r.2.2.2.1 q)).1.2.1 (q.1+1))) (yw c (q.1+1)) (3,q.1+1,([],0,[],[]),(0,[],[]),q,r.1,0,0,0,0)
theorem eF {c:za} {r:zb} {s:zD} (hr:zf c r=true) (h:(zu c r s).2=true):zf c (zu c r s).1=true/\(zu c r s).1.1=r.1/\(zu c r s).1.2.1=r.2.1:=by
 unfold zu at *;cases h1:YJ r.2.2.2.1 s
 ·rw[h1] at h;cases h2:(jl r.2.2.2.2.2.2.1 (jt c s)).2
  ·rw[h2] at h; cases h
  ·cases h3:ye c s
   ·rw[h2,h3] at h; cases h
   ·simp only[apM,aqH,apN];exact⟨by rw[IC hr (wi h2),h3],rfl,rfl⟩
 ·exact⟨hr,rfl,rfl⟩
theorem Ee {c:za} {q:zH} (h:zW c q=true):0<=q.1/\q.1<=60:=by
 unfold zW at h;simp only[apO,aqi] at h;obtain⟨_,hn,hv,_⟩:=h;by_cases h0:q.2.1=[]
 ·have:=rm.2;rw[←h0,hv] at this;omega
 ·have:=Nx hn h0;omega
theorem ku (q:zH) (v me:Int):zh (3,v,([],0,[],[]),(0,[],[]),q,me,0,0,0,0)=zj q:=by
 simp[zh,zx,zn,zj,zq]
theorem afG (c:za) (r:zb) (s:zD):ze (zu c r s).1<=ze r+zy s+(r.2.2.2.2.2.2.1.1.length+(jt c s).length):=by
 unfold zu;cases YJ r.2.2.2.1 s
 ·cases h2:((jl r.2.2.2.2.2.2.1 (jt c s)).2 && ye c s)
  ·simp only[apM]; omega
  ·simp only[apM,apN];have:=ID r s (jl r.2.2.2.2.2.2.1 (jt c s)).1;have h3:(jl r.2.2.2.2.2.2.1 (jt c s)).1.1.length<=r.2.2.2.2.2.2.1.1.length+(jt c s).length:=by
    unfold jl;split
    ·simp
    ·simp
   omega
 ·simp only[apN]; omega
theorem kG (c:za) (r:zb) (s:zD):ze (zu c r s).1<=40+2*ze r+6*zy s:=by
 have h1:=afG c r s;have h3:=ru c s;have h4:r.2.2.2.2.2.2.1.1.length<=ze r:=by simp only[ze,KU]; omega
 omega
theorem IG (c:za) (r:zb) (q:zH):ze (zu c r (see c r.2.2.2.1 q)).1<=40+8*ze r+12*zj q:=by
 have h1:=kG c r (see c r.2.2.2.1 q);have h2:=NV c r.2.2.2.1 q;have h4:zy r.2.2.2.1<=ze r:=by simp only[ze]; omega
 omega
theorem afa (c:za) (r:zb) (p:zO) (hok:zf c r=true) (hr:ze r<=20000000) (hp:zn p<=20000000):
  nw (c,r,p,())=some ((bif (Yh c p).2 then top c r p else (r,false)).1,(bif (Yh c p).2 then top c r p else (r,false)).2,()):=by
 have hs:zy r.2.2.2.1<=20000000:=by simp only[ze] at hr; omega
 have hpq:zj p<=20000000:=hp;unfold nw;dsimp only;rw[aeI c p (by omega),apL];cases h:(Yh c p).2
 ·rfl
 ·obtain⟨e,hq⟩:=Bz h;have hv:=Ee hq;have ajT:=NV c r.2.2.2.1 p;have hww:=IG c r p;dsimp only;simp only[apT,apM,apN];rw[e,uX c r.2.2.2.1 p (by omega) (by omega),apL,d9 c r (see c r.2.2.2.1 p) (by omega) (by omega),apL,zg (show -9223372036854775808<=p.1+1 by omega) (by omega)];unfold top;cases hw:(zu c r (see c r.2.2.2.1 p)).2
  ·rfl
  ·obtain⟨o1,o2,o3⟩:=eF hok hw;simp only[apT,apM,apN,be,N5,apL];cases decide (p.1+1>60)
   ·simp only[apM];cases (yw c (p.1+1)==r.1)
    ·simp only[apM];have hm:=ku p (p.1+1) r.1;rw[nu c _ _ _ (QS hok) (by show ze (zM (zu c r (see c r.2.2.2.1 p)).1 _)<=_; simp only[zM,ze] at hww hr ⊢; omega) (by omega),Option.bind_some]
     rfl
    ·rfl
   ·rfl
theorem WJ (c:za) (r:zb) (p:zH) (hok:zf c r=true) (hq:zW c p=true) (hr:ze r<=20000000) (hp:zj p<=20000000):
  gO (c,r,p,())=some ((top c r p).1,(top c r p).2,()):=by
 have hs:zy r.2.2.2.1<=20000000:=by simp only[ze] at hr; omega
 have hv:=Ee hq;have ajT:=NV c r.2.2.2.1 p;have hww:=IG c r p;have hwe:write c r (see c r.2.2.2.1 p)=zu c r (see c r.2.2.2.1 p):=by unfold write; rw[hok]; rfl
 unfold gO;dsimp only;rw[pg c r.2.2.2.1 p (by omega) (by omega),apL,gH c r (see c r.2.2.2.1 p) (by omega) (by omega),apL,zg (show -9223372036854775808<=p.1+1 by omega) (by omega),hwe];unfold top;cases hw:(zu c r (see c r.2.2.2.1 p)).2
 ·rfl
 ·obtain⟨o1,o2,o3⟩:=eF hok hw;simp only[apT,apM,apN,Be,Qi,apL];by_cases h60:p.1+1>60
  ·simp only[h60,apR,apN]
  ·simp only[h60,apU,apM,bne];cases (yw c (p.1+1)==r.1)
   ·simp only[apM,apN,aq9];have hm:=ku p (p.1+1) r.1;have hrv:=KK hok;have hk:=cr (v:=max (zu c r (see c r.2.2.2.1 p)).1.2.1 (p.1+1)) o1 (by rw[o3]; omega)
    rw[gz c _ _ _ (by show ze (zM (zu c r (see c r.2.2.2.1 p)).1 _)<=_; simp only[zM,ze] at hww hr ⊢; omega) (by omega),Option.bind_some]
    show (bif (tell c (zM (zu c r (see c r.2.2.2.1 p)).1 (max (zu c r (see c r.2.2.2.1 p)).1.2.1 (p.1+1))) _ _).2 then some ((tell c (zM _ _) _ _).1,(tell c (zM _ _) _ _).2,()) else some ((tell c (zM _ _) _ _).1,(tell c (zM _ _) _ _).2,()))=_;rw[←eA _ _ hk];cases (jG c (zM (zu c r (see c r.2.2.2.1 p)).1 (max (zu c r (see c r.2.2.2.1 p)).1.2.1 (p.1+1))) (yw c (p.1+1)) (3,p.1+1,([],0,[],[]),(0,[],[]),p,r.1,0,0,0,0)).2<;>rfl
   ·rfl
noncomputable def Jh (c:za) (r:zb) (v:Int) (name:List UInt8) (force:Bool):zb×Bool:=
 bif (((y7 r.2.2.2.2.2.1 v name).2.2.length:Int)==0) then (r,false) else bif name==[] then (r,false) else
 bif yw c v==r.1 then (bif (Yh c (y7 r.2.2.2.2.2.1 v name)).2 then top c r (y7 r.2.2.2.2.2.1 v name) else (r,false)) else
 bif !force && decide ((JU (under c v r.1) (y7 r.2.2.2.2.2.1 v name).2.2:Int)<((under c v r.1).length:Int)) then (r,false) else
 jG c r (up c v r.1) (2,0,([],0,[],[]),y7 r.2.2.2.2.2.1 v name,(0,[],[]),0,0,0,0,0)
noncomputable def climb (c:za) (r:zb) (v:Int) (name:List UInt8) (force:Bool):zb×Bool:=
 bif zf c r && (Jh c r v name force).2 then ((Jh c r v name force).1,true) else (r,false)
theorem Ib (l:yb) (v:Int) (name:List UInt8):zn (y7 l v name)<=zG l+name.length:=by
 unfold y7;cases h:l.find? (λ p=>p.1==v && p.2.1==name) with
 | none=>simp[zn,zq]
 | some p=>
  have:=ZK zn (List.mem_of_find?_eq_some h);simp only[zG]; omega
theorem Bb (p:zO):zh (2,0,([],0,[],[]),p,(0,[],[]),0,0,0,0,0)=zn p:=by
 simp[zh,zx,zn,zj,zq]
theorem vd (c:za) (r:zb) (v:Int) (name:List UInt8) (force:Bool) (hok:zf c r=true) (hr:ze r<=15000000) (hn:name.length<=5000000):
  aX (c,r,v,name,force,())=some ((Jh c r v name force).1,(Jh c r v name force).2,()):=by
 have ht:zG r.2.2.2.2.2.1<=15000000:=by simp only[ze] at hr; omega
 have hg:=Ib r.2.2.2.2.2.1 v name;have hl:(y7 r.2.2.2.2.2.1 v name).2.2.length<=20000000:=by
  have:(y7 r.2.2.2.2.2.1 v name).2.2.length<=zn (y7 r.2.2.2.2.2.1 v name):=by simp only[zn,zq]; omega
  omega
 have hu:=Io c v r.1;unfold aX Jh;dsimp only;rw[u6 _ v name (by omega),apL];generalize hP:y7 r.2.2.2.2.2.1 v name=p at *;dsimp only;cases ((p.2.2.length:Int)==0)
 ·simp only[apM];cases (name==([]:List UInt8))
  ·simp only[apM,N5,apL];cases (yw c v==r.1)
   ·simp only[apM,af4,apL,aes _ p.2.2 (show (under c v r.1).length<=1073741824 by omega) (by omega),GP];have hm:=Bb p;rw[nu c r _ _ (QS hok) (by omega) (by omega)];cases force
    ·simp only[aq9,apN,aq3];cases decide ((JU (under c v r.1) p.2.2:Int)<((under c v r.1).length:Int))<;>rfl
    ·rfl
   ·simp only[apN];rw[afa c r p hok (by omega) (by omega),apL]
  ·rfl
 ·rfl
theorem aer (c:za) (r:zb) (v:Int) (name:List UInt8) (force:Bool) (hr:ze r<=15000000) (hn:name.length<=5000000):
  dG (c,r,v,name,force,())=some ((climb c r v name force).1,(climb c r v name force).2,()):=by
 unfold dG climb;dsimp only;rw[YN c r (by omega),apL,Z5 r (by omega),apL,apL];cases hok:zf c r
 ·rfl
 ·simp only[apT,apM,aq3];rw[vd c r v name force hok hr hn,apL];cases (Jh c r v name force).2<;>rfl
theorem afo {c:za} {r:zb} {to:Int} {m:zt} (h:(jG c r to m).2=false):(jG c r to m).1=r:=by
 unfold jG at *;cases hc:(!decide ((r.2.2.2.2.2.2.2.length:Int)≥30) && ZO c r.1 (to,m))
 ·rfl
 ·rw[hc] at h; cases h
theorem o8 (c:za) (r:zb) (v:Int) (name:List UInt8) (force:Bool) (hr:ze r<=15000000) (hn:name.length<=5000000):
  L9 (c,r,v,name,force,())=some ((climb c r v name force).1,(climb c r v name force).2,()):=by
 have ht:zG r.2.2.2.2.2.1<=15000000:=by simp only[ze] at hr; omega
 have hg:=Ib r.2.2.2.2.2.1 v name;have hl:(y7 r.2.2.2.2.2.1 v name).2.2.length<=20000000:=by
  have:(y7 r.2.2.2.2.2.1 v name).2.2.length<=zn (y7 r.2.2.2.2.2.1 v name):=by simp only[zn,zq]; omega
  omega
 have hu:=Io c v r.1;unfold L9 climb Jh;dsimp only;rw[pk _ v name (by omega),apL];generalize hP:y7 r.2.2.2.2.2.1 v name=p at *;dsimp only;rw[ZS r (by omega),ZP c r (by omega),apL,apL];cases ((p.2.2.length:Int)==0)
 ·cases hok:zf c r
  ·rfl
  ·simp only[apM,apT,aq3];cases (name==([]:List UInt8))
   ·simp only[apM,Qi,apL];cases (yw c v==r.1)
    ·simp only[apM,WA,apL,VR _ p.2.2 (show (under c v r.1).length<=1073741824 by omega) (by omega),Ac];have hm:=Bb p;rw[gz c r _ _ (by omega) (by omega),←eA _ _ hok,apL];cases ht2:(jG c r (up c v r.1) (2,0,([],0,[],[]),p,(0,[],[]),0,0,0,0,0)).2
     ·have hno:=afo ht2;cases force
      ·simp only[aq9,apN,aq3];cases decide ((JU (under c v r.1) p.2.2:Int)<((under c v r.1).length:Int))
       ·simp only[apM,hno,ht2]
       ·rfl
      ·simp only[apT,aqp,apM,hno,ht2]
     ·cases force
      ·simp only[aq9,apN,aq3];cases decide ((JU (under c v r.1) p.2.2:Int)<((under c v r.1).length:Int))
       ·simp only[apM,ht2,apN]
       ·rfl
      ·simp only[apT,aqp,apM,ht2,apN]
    ·simp only[apN];rw[We c p (by omega),apL];cases h:(Yh c p).2
     ·rfl
     ·obtain⟨e,hq⟩:=Bz h;have hpq:zj p<=20000000:=(by omega:zn p<=20000000)
      dsimp only;simp only[apT,apM,apN];rw[e,WJ c r p hok hq (by omega) hpq,apL];cases (top c r p).2<;>rfl
   ·rfl
 ·cases zf c r<;>rfl
theorem Ga (l:List Int) (x:Int) (i:Nat) (hi:i<=l.length) (hl:l.length<=137438953472):
  ((if (((0:Int)<=0)/\((0<=(i:Int))/\((i:Int)<=(((List.length l):Nat):Int)))) then (if (((0+(List.length (List.take ((Int.toNat (i:Int)) - (Int.toNat 0)) (List.drop (Int.toNat 0) l))))*8)<=70368744177664) then (if ((((List.length ([]++(List.take ((Int.toNat (i:Int)) - (Int.toNat 0)) (List.drop (Int.toNat 0) l))))+(List.length (x::[])))*8)<=70368744177664) then (if ((0<=(i:Int))/\(((i:Int)<=(((List.length l):Nat):Int))/\((((List.length l):Nat):Int)<=(((List.length l):Nat):Int)))) then (if ((((List.length (([]++(List.take ((Int.toNat (i:Int)) - (Int.toNat 0)) (List.drop (Int.toNat 0) l)))++(x::[])))+(List.length (List.take ((Int.toNat (((List.length l):Nat):Int)) - (Int.toNat (i:Int))) (List.drop (Int.toNat (i:Int)) l))))*8)<=70368744177664) then some (((([]++(List.take ((Int.toNat (i:Int)) - (Int.toNat 0)) (List.drop (Int.toNat 0) l)))++(x::[]))++(List.take ((Int.toNat (((List.length l):Nat):Int)) - (Int.toNat (i:Int))) (List.drop (Int.toNat (i:Int)) l))),()) else none) else none) else none) else none) else none):Option (List Int×Unit))=some (l.take i++x::l.drop i,()):=by
 have h1:(l.take i).length=i:=by rw[aq4]; omega
 have h2:(l.drop i).length=l.length - i:=List.length_drop;have h3:(l.drop i).take (l.length - i)=l.drop i:=List.take_of_length_le (by rw[h2]; exact Nat.le_refl _)
 simp only[apW,show Int.toNat 0=0 from rfl,aqU,aq8,aqf,h3,apX,h1,h2,apQ,apS];rw[if_pos ⟨by omega,by omega,by omega⟩,if_pos (by omega),if_pos (by omega),if_pos ⟨by omega,by omega,by omega⟩,if_pos (by omega)];simp
noncomputable def Y7 (l:List Int) (x:Int):Nat:=yh (λ y=>decide (y≥x)) 0 l
noncomputable def ZH (l:List Int) (x:Int):List Int:=bif l.any (· == x) then l else l.take (Y7 l x)++x::l.drop (Y7 l x)
theorem uY (l:List Int) (x:Int) (hl:l.length<=137438953472):LI (l,x,())=some (ZH l x,()):=by
 unfold LI ZH;dsimp only;rw[Y8 l x (by omega),apL];dsimp only;cases l.any (· == x)
 ·simp only[apM];unfold Y7;refine (walk l.length (λ i (_:Unit)=>(i,())) (λ _ _=>True) (λ i _=>some (l.take (yh (λ y=>decide (y≥x)) i (l.drop i))++x::l.drop (yh (λ y=>decide (y≥x)) i (l.drop i)),())) (by omega) ?_ ?_ (s0:=()) trivial).trans (by simp only[aq8])
  ·intro rec s _;have e:=Ga l x l.length (Nat.le_refl _) hl;rw[aql] at e ⊢;simp only[aq6,apU,apM,yh];rw[aql];exact e
  ·intro rec i s hi _;have hx:l[i]?=some l[i]:=List.getElem?_eq_getElem hi;have e:=Ga l x i (Nat.le_of_lt hi) hl;have hd0:decide ((i:Int)<((l.length:Nat):Int))=true:=decide_eq_true (by omega);have hr:rd .i64 l (Int.toNat (i:Int))=l[i]:=zm (e:=.i64) hx;dsimp only;by_cases hlt:l[i]<x
   ·right;have hd:decide (l[i]≥x)=false:=decide_eq_false (by omega);refine⟨(),trivial,?_,?_⟩
    ·rw[hd0,apN,if_pos (zr hi),hr,decide_eq_true hlt,apN,zo (show i<4611686018427387904 by omega)]
    ·rw[aq7 hi];simp only[yh,hd,apM]
   ·left;have hd:decide (l[i]≥x)=true:=decide_eq_true (by omega);rw[hd0,apN,if_pos (zr hi),hr,decide_eq_false hlt,apM];refine e.trans ?_;rw[show yh (λ y=>decide (y≥x)) i (l.drop i)=i by rw[aq7 hi]; simp only[yh,hd,apN]]
 ·simp only[apN,aqf];rw[if_pos (by omega)]
theorem V3 (l:List Int) (x:Int) (hl:l.length<=137438953472):mA (l,x,())=some ((if Y7 l x<l.length then ((Y7 l x:Nat):Int) else -1),()):=by
 unfold mA Y7;refine (walk l.length (λ i (_:Unit)=>(i,())) (λ _ _=>True) (λ i _=>some ((if yh (λ y=>decide (y≥x)) i (l.drop i)<l.length then ((yh (λ y=>decide (y≥x)) i (l.drop i):Nat):Int) else -1),())) (by omega) ?_ ?_ (s0:=()) trivial).trans (by simp only[aq8])
 ·intro rec s _;rw[aql];simp only[aq6,apU,apM,yh,Nat.lt_irrefl,if_false]
 ·intro rec i s hi _;have hx:l[i]?=some l[i]:=List.getElem?_eq_getElem hi;rw[aq7 hi];unfold ph;simp only[zr hi,apR,apN,apZ,if_true,apW,zm (e:=.i64) hx,apL,zo (show i<4611686018427387904 by omega),yh];by_cases hb:l[i]≥x
  ·left;simp only[hb,apR,apN,hi,if_true]
  ·right;exact⟨(),trivial,by simp only[hb,apU,apM],by simp only[hb,apU,apM]⟩
theorem Au (l:List Int) (x:Int) (k:Nat) (hk:k<=l.length) (hl:l.length<=137438953472):dF (l,(k:Int),[x],())=some (l.take k++x::l.drop k,()):=by
 unfold dF Qu;dsimp only;simp only[apQ,apS];rw[if_pos (by omega),apW];simp
theorem xX (l:List Int) (x:Int) (hl:l.length<=137438953472):ce (l,x,())=some (ZH l x,()):=by
 have hle:Y7 l x<=l.length:=by have:=(qU (λ y=>decide (y≥x)) l 0).2; unfold Y7; omega
 unfold ce ZH;dsimp only;rw[Js l x (by omega),apL,Nn l hl,V3 l x hl];simp only[apL];cases l.any (· == x)
 ·simp only[apM];by_cases hlt:Y7 l x<l.length
  ·rw[if_pos hlt];have:decide (((Y7 l x:Nat):Int)<0)=false:=decide_eq_false (by omega);rw[this,apM,Au l x _ hle hl,apL]
  ·rw[if_neg hlt];have:decide ((-1:Int)<0)=true:=rfl;rw[this,apN,Au l x l.length (aqs _) hl,apL,show Y7 l x=l.length by omega]
 ·rfl
theorem uB (l:List Int) (x:Int):(ZH l x).length<=l.length+1:=by
 have hle:Y7 l x<=l.length:=by have:=(qU (λ y=>decide (y≥x)) l 0).2; unfold Y7; omega
 unfold ZH;cases l.any (· == x)
 ·simp only[apM,apX,apQ,aq4,aqa]; omega
 ·simp only[apN]; omega
noncomputable def dB (a b:List Int):List Int:=b.foldl ZH (a.foldl ZH [])
theorem uG:∀ (l s:List Int),(l.foldl ZH s).length<=s.length+l.length
 | [],s=>by simp
 | x::l,s=>by
  have h1:=uB s x;have h2:=uG l (ZH s x);simp only[aqF,apQ]; omega
theorem adD (a b:List Int):(dB a b).length<=a.length+b.length:=by
 have h1:=uG a [];have h2:=uG b (a.foldl ZH []);simp only[dB,apS] at *; omega
theorem gZ {K:List Int->Option (List Int×Unit)} (l s0:List Int) (hl:l.length<=1152921504606846976) {G:(List Int×Int×Unit->Option (List Int×Unit))->List Int×Int×Unit->Option (List Int×Unit)}
  (hon:∀ (rec:List Int×Int×Unit->Option (List Int×Unit)) (i:Nat) (s:List Int) (h:i<l.length),s.length<=s0.length+i->G rec (s,(i:Int),())=rec (ZH s l[i],(i:Int)+1,()))
  (aiR:∀ (rec:List Int×Int×Unit->Option (List Int×Unit)) (s:List Int),s.length<=s0.length+l.length->G rec (s,(l.length:Int),())=K s):
  iter G fuel (s0,0,())=K (l.foldl ZH s0):=by
 refine (walk l.length (λ i (s:List Int)=>(s,i,())) (λ i s=>s.length<=s0.length+i) (λ i s=>K ((l.drop i).foldl ZH s)) hl ?_ ?_ (s0:=s0) (by simp)).trans (by simp only[aq8])
 ·intro rec s hI;rw[aiR rec s hI,aql];rfl
 ·intro rec i s hi hI;have:=uB s l[i];exact .inr ⟨ZH s l[i],by omega,hon rec i s hi hI,by rw[aq7 hi]; rfl⟩
theorem aeT (a b:List Int) (ha:a.length<=1073741824) (hb:b.length<=1073741824):m9 (a,b,())=some (dB a b,()):=by
 unfold m9;refine gZ (K:=λ s=>some (b.foldl ZH s,())) a [] (by omega) ?_ ?_
 ·intro rec i s hi hI;have hx:a[i]?=some a[i]:=List.getElem?_eq_getElem hi;simp only[apS] at hI;simp only[zr hi,decide_true,cond_true,and_self,if_true,Int.toNat_natCast,zm (e:=.i64) hx,uY s a[i] (by omega),Option.bind_some,zo (show i<4611686018427387904 by omega)]
 ·intro rec s hI;simp only[apS] at hI;simp only[aq6,apU,apM];refine gZ (K:=λ s=>some (s,())) b s (by omega) ?_ ?_
  ·intro rec i s2 hi hI2;have hx:b[i]?=some b[i]:=List.getElem?_eq_getElem hi;simp only[zr hi,decide_true,cond_true,and_self,if_true,Int.toNat_natCast,zm (e:=.i64) hx,uY s2 b[i] (by omega),Option.bind_some,zo (show i<4611686018427387904 by omega)]
  ·intro rec s2 _;simp only[aq6,apU,apM]
theorem Wp (a b:List Int) (ha:a.length<=1073741824) (hb:b.length<=1073741824):go (a,b,())=some (dB a b,()):=by
 unfold go;refine gZ (K:=λ s=>some (b.foldl ZH s,())) a [] (by omega) ?_ ?_
 ·intro rec i s hi hI;have hx:a[i]?=some a[i]:=List.getElem?_eq_getElem hi;simp only[apS] at hI;simp only[zr hi,decide_true,cond_true,and_self,if_true,Int.toNat_natCast,zm (e:=.i64) hx,xX s a[i] (by omega),Option.bind_some,zo (show i<4611686018427387904 by omega)]
 ·intro rec s hI;simp only[apS] at hI;simp only[aq6,apU,apM];refine gZ (K:=λ s=>some (s,())) b s (by omega) ?_ ?_
  ·intro rec i s2 hi hI2;have hx:b[i]?=some b[i]:=List.getElem?_eq_getElem hi;simp only[zr hi,decide_true,cond_true,and_self,if_true,Int.toNat_natCast,zm (e:=.i64) hx,xX s2 b[i] (by omega),Option.bind_some,zo (show i<4611686018427387904 by omega)]
  ·intro rec s2 _;simp only[aq6,apU,apM]
noncomputable def ZC (a b:zO):zO×Bool:=bif a.1==b.1 && a.2.1==b.2.1 then ((a.1,a.2.1,dB a.2.2 b.2.2),true) else ((0,[],[]),false)
theorem aeH (a b:zO) (ha:zn a<=1073741824) (hb:zn b<=1073741824):mS (a,b,())=some ((ZC a b).1,(ZC a b).2,()):=by
 have h1:a.2.2.length<=1073741824/\b.2.2.length<=1073741824:=by simp only[zn,zq] at ha hb; omega
 unfold mS ZC;dsimp only;rw[aeT _ _ h1.1 h1.2,apL];simp only[bne];cases (a.1==b.1)<;>cases (a.2.1==b.2.1)<;>rfl
theorem Wd (a b:zO) (ha:zn a<=1073741824) (hb:zn b<=1073741824):bY (a,b,())=some ((ZC a b).1,(ZC a b).2,()):=by
 have h1:a.2.2.length<=1073741824/\b.2.2.length<=1073741824:=by simp only[zn,zq] at ha hb; omega
 unfold bY ZC;dsimp only;rw[Wp _ _ h1.1 h1.2,apL];simp only[bne];cases (a.1==b.1)<;>cases (a.2.1==b.2.1)<;>rfl
theorem aad (a b:zO):zn (ZC a b).1<=zn a+zn b:=by
 have h:=adD a.2.2 b.2.2;unfold ZC;cases (a.1==b.1 && a.2.1==b.2.1)
 ·simp[zn,zq]
 ·simp only[apN,zn,zq]; omega
noncomputable def Zh (p:zO):yb->yb
 | []=>[p]
 | q::r=>bif jW q p then q::Zh p r else bif (ZC q p).2 then (ZC q p).1::r else p::q::r
theorem ew (p:zO):∀ (l:yb),zG (Zh p l)<=zG l+zn p+1
 | []=>by simp[Zh,zG]; omega
 | q::r=>by
  have h:=ew p r;have h2:=aad q p;simp only[Zh];cases jW q p
  ·cases (ZC q p).2
   ·simp only[apM,zG,apQ,aq5,aqo]; omega
   ·simp only[apM,apN,zG,apQ,aq5,aqo]; omega
  ·simp only[apN,zG,apQ,aq5,aqo] at h ⊢; omega
noncomputable def zC (c:za) (l:yb) (p:zO):yb×Bool:=bif ji c p && jN c (Zh p l) then (Zh p l,true) else (l,false)
theorem afH (a b:yb):zG (a++b)=zG a+zG b:=by
 simp only[zG,apX,aqS,arQ]; omega
theorem bn (a:yb):a.length<=zG a:=by unfold zG; omega
def TabI (l:yb) (p:zO) (i:Nat) (s:yb×Bool):Prop:=
 (s.2=true/\s.1++l.drop i=Zh p l)∨(s.2=false/\s.1++Zh p (l.drop i)=Zh p l)
theorem TabI.w {l:yb} {p:zO} {i:Nat} {s:yb×Bool} (h:TabI l p i s):zG s.1<=zG l+zn p+1:=by
 have h0:=ew p l;rcases h with⟨_,h⟩|⟨_,h⟩<;>rw[←h,afH] at h0<;>omega
theorem ni (c:za) (l:yb) (p:zO) (hl:zG l<=100000000) (hp:zn p<=100000000):N7 (c,l,p,())=some ((zC c l p).1,(zC c l p).2,()):=by
 have hll:=bn l;have htw:=ew p l;have agD:∀ out:yb,out=Zh p l->((N8 (c,out,())).bind λ r10=>(bif (!r10.1) then ((KR (l,())).bind λ r11=>some (r11.1,(false,()))) else ((LG (c,(p,()))).bind λ r12=>(bif (!r12.1) then ((KR (l,())).bind λ r13=>some (r13.1,(false,()))) else some (out,(true,()))))))=some ((zC c l p).1,(zC c l p).2,()):=by
  intro out ho;subst ho;rw[GM c _ (by omega),apL,GR l (by omega),dM c p (by omega)];unfold zC;cases jN c (Zh p l)<;>cases ji c p<;>rfl
 unfold N7;dsimp only;refine walk l.length (λ i (s:yb×Bool)=>(s.1,s.2,i,())) (λ i s=>TabI l p i s) (λ _ _=>some ((zC c l p).1,(zC c l p).2,())) (by omega) ?_ ?_ (s0:=([],false)) (.inr ⟨rfl,rfl⟩)
 ·rintro rec ⟨out,put⟩ hI;have hw:=hI.w;have hol:=bn out;unfold TabI at hI;rw[aql] at hI;simp only[aq6,apU,apM];cases put
  ·rcases hI with⟨h,_⟩|⟨_,h⟩
   ·cases h
   ·simp only[aq9,apN];rw[qa p (by omega),Option.bind_some,if_pos (by simp only[apQ,apS]; simp only at hw hol; omega)]
    exact agD (out++[p]) h
  ·rcases hI with⟨_,h⟩|⟨h,_⟩
   ·simp only[apT,apM];exact agD out (by simpa using h)
   ·cases h
 ·rintro rec i ⟨out,put⟩ hi hI;have hx:l[i]?=some l[i]:=List.getElem?_eq_getElem hi;have hpw:zn l[i]<=100000000:=KV hl hx;have hw:=hI.w;have hol:=bn out;simp only at hw hol;unfold TabI at hI;rw[aq7 hi] at hI;right;simp only[zr hi,decide_true,cond_true,and_self,if_true,Int.toNat_natCast,zm (e:=Ys) hx,qa l[i] (by omega),Option.bind_some,zo (show i<4611686018427387904 by omega)];cases put
  ·rcases hI with⟨h,_⟩|⟨_,h⟩
   ·cases h
   ·simp only[aq9,apN,GQ,apL];simp only[Zh] at h;cases hb:jW l[i] p
    ·rw[hb] at h;simp only[apM] at h;simp only[Bool.not_false,cond_true,aeH l[i] p (by omega) (by omega),Option.bind_some,qa p (show zn p<=137438953472 by omega)];cases hj:(ZC l[i] p).2
     ·rw[hj] at h;simp only[apM] at h ⊢;rw[if_pos (by simp only[apQ,apS]; omega),if_pos (by simp only[apX,apQ,apS]; omega)]
      exact⟨(out++[p]++[l[i]],true),.inl ⟨rfl,by simpa using h⟩,rfl,trivial⟩
     ·rw[hj] at h;simp only[apN] at h ⊢;rw[if_pos (by simp only[apQ,apS]; omega)]
      exact⟨(out++[(ZC l[i] p).1],true),.inl ⟨rfl,by simpa using h⟩,rfl,trivial⟩
    ·rw[hb] at h;simp only[apN] at h;simp only[apT,apM];rw[if_pos (by simp only[apQ,apS]; omega)]
     exact⟨(out++[l[i]],false),.inr ⟨rfl,by simpa using h⟩,rfl,trivial⟩
  ·rcases hI with⟨_,h⟩|⟨h,_⟩
   ·simp only[apT,apM];rw[if_pos (by simp only[apQ,apS]; omega)]
    exact⟨(out++[l[i]],true),.inl ⟨rfl,by simpa using h⟩,rfl,trivial⟩
   ·cases h
theorem aah (a b:zO):decide (KG a b<0)=jW a b:=by
 have h:=D7 a b;by_cases hp:KG a b<0
 ·have:¬ KG a b≥0:=by omega
  simp only[this,apU] at h;simp only[hp,apR];cases hb:jW a b
  ·rw[hb] at h; cases h
  ·rfl
 ·have:KG a b≥0:=by omega
  simp only[this,apR] at h;simp only[hp,apU];cases hb:jW a b
  ·rfl
  ·rw[hb] at h; cases h
theorem aai {a b:zO} (h:jW a b=false):(KG a b==0)=(ZC a b).2:=by
 have hj:(ZC a b).2=(a.1==b.1 && a.2.1==b.2.1):=by unfold ZC; cases (a.1==b.1 && a.2.1==b.2.1)<;>rfl
 rw[hj];unfold jW at h;unfold KG;by_cases h1:a.1<b.1
 ·simp[h1] at h
 ·by_cases h2:a.1>b.1
  ·have:¬ a.1=b.1:=by omega
   simp[h1,h2,this]
  ·have he:a.1=b.1:=by omega
   simp only[he,apY,arZ,beq_self_eq_true,aq3] at h;have h3:=h.2;simp only[he,aq6,if_false,h3,aqc,beq_self_eq_true,aq3,gt_iff_lt];by_cases h4:a.2.1=b.2.1
   ·simp[h4]
   ·simp[h4]
theorem Av (l:yb) (x:zO) (k:Nat) (hk:k<=l.length) (hl:l.length<=137438953471):NY (l,(k:Int),[x],())=some (l.take k++x::l.drop k,()):=by
 unfold NY Qu;dsimp only;simp only[apQ,apS];rw[if_pos (by omega),apW];simp
theorem gx (c:za) (l:yb) (p:zO) (hl:zG l<=100000000) (hp:zn p<=100000000):Nj (c,l,p,())=some ((zC c l p).1,(zC c l p).2,()):=by
 have hll:=bn l;have htw:=ew p l;unfold Nj;dsimp only;rw[bZ c p (by omega),apL,Ah l (by omega),apL,apL];cases hpo:ji c p
 ·simp only[aq9,apN];unfold zC;rw[hpo];rfl
 ·simp only[apT,apM];have agD:∀ out:yb,out=Zh p l->((J4 (c,out,())).bind λ r7=>(bif (!r7.1) then some (l,(false,())) else some (out,(true,()))))=some ((zC c l p).1,(zC c l p).2,()):=by
   intro out ho;subst ho;rw[xZ c _ (by omega),apL];unfold zC;rw[hpo];cases jN c (Zh p l)<;>rfl
  refine walk l.length (λ i (_:Unit)=>(i,())) (λ i _=>l.take i++Zh p (l.drop i)=Zh p l) (λ _ _=>some ((zC c l p).1,(zC c l p).2,())) (by omega) ?_ ?_ (s0:=()) (by simp)
  ·intro rec s hI;rw[aql] at hI;simp only[aq6,apU,apM];rw[Qs p (by omega),apL,Av l p l.length (aqs _) (by omega),apL,aql];exact agD _ hI
  ·intro rec i s hi hI;have hx:l[i]?=some l[i]:=List.getElem?_eq_getElem hi;have hpw:zn l[i]<=100000000:=KV hl hx;rw[aq7 hi] at hI;simp only[Zh] at hI;simp only[zr hi,apR,apN,apZ,if_true,apW,zm (e:=Ys) hx,Ae,apL,aah,zo (show i<4611686018427387904 by omega)];cases hb:jW l[i] p
   ·left;rw[hb] at hI;simp only[apM] at hI ⊢;rw[aai hb];cases hj:(ZC l[i] p).2
    ·rw[hj] at hI;simp only[apM] at hI ⊢;rw[Qs p (by omega),apL,Av l p i (Nat.le_of_lt hi) (by omega),apL,aq7 hi];exact agD _ hI
    ·rw[hj] at hI;simp only[apN] at hI ⊢;rw[Wd l[i] p (by omega) (by omega),Option.bind_some];dsimp only;rw[List.set_eq_take_append_cons_drop,if_pos hi];exact agD _ hI
   ·right;rw[hb] at hI;simp only[apN] at hI;have e:l.take (i+1)=l.take i++[l[i]]:=by rw[arh,hx]; rfl
    refine⟨(),?_,by simp only[apN],trivial⟩;rw[e,aqj];exact hI
def yv (r:zb) (t:yb):zb:=(r.1,r.2.1,r.2.2.1,r.2.2.2.1,r.2.2.2.2.1,t,r.2.2.2.2.2.2)
theorem nX {c:za} {r:zb} {t:yb} (h:zf c r=true) (ht:jN c t=true):zf c (yv r t)=true:=by
 obtain⟨a,v,k,sf,pool,tab,dk,held⟩:=r;show zf c (a,v,k,sf,pool,t,dk,held)=true;unfold zf at h ⊢;simp only[apO] at h ⊢;obtain⟨a1,a2,a3,a4,a5,a6,a7,a8⟩:=h;exact⟨a1,a2,a3,a4,a5,a6,ht,a8⟩
theorem qh {c:za} {l:yb} {p:zO} (h:(zC c l p).2=true):jN c (zC c l p).1=true:=by
 unfold zC at *;cases h1:(ji c p && jN c (Zh p l))
 ·rw[h1] at h; cases h
 ·simp only[apO] at h1;exact h1.2
theorem ex (c:za) (l:yb) (p:zO):zG (zC c l p).1<=zG l+zn p+1:=by
 have h:=ew p l;unfold zC;cases (ji c p && jN c (Zh p l))
 ·simp only[apM]; omega
 ·exact h
noncomputable def J0 (c:za) (r:zb) (p:zO):zb×Bool:=
 bif !zf c r then (r,false) else bif !ji c p then (r,false) else bif p.2.1==[] then (r,false) else bif decide (p.1<r.2.1) then (r,false) else
 bif !(zC c r.2.2.2.2.2.1 p).2 then (r,false) else ((climb c (yv r (zC c r.2.2.2.2.2.1 p).1) p.1 p.2.1 false).1,true)
theorem aex (c:za) (r:zb) (p:zO) (hr:ze r<=2000000) (hp:zn p<=2000000):mL (c,r,p,())=some ((J0 c r p).1,(J0 c r p).2,()):=by
 have ht:zG r.2.2.2.2.2.1<=2000000:=by simp only[ze] at hr; omega
 have hw:=ex c r.2.2.2.2.2.1 p;have hn:p.2.1.length<=2000000:=by simp only[zn] at hp; omega
 have hwr:ze (yv r (zC c r.2.2.2.2.2.1 p).1)<=15000000:=by simp only[yv,ze] at *; omega
 unfold mL J0;dsimp only;rw[Z5 r (by omega),apL,YN c r (by omega),apL,dM c p (by omega),apL,apL,ni c r.2.2.2.2.2.1 p (by omega) (by omega),apL];cases hok:zf c r
 ·rfl
 cases ji c p
 ·rfl
 cases (p.2.1==([]:List UInt8))
 ·cases decide (p.1<r.2.1)
  ·cases hta:(zC c r.2.2.2.2.2.1 p).2
   ·rfl
   ·have ajP:=nX (t:=(zC c r.2.2.2.2.2.1 p).1) hok (qh hta);simp only[apT,apM];show ((yO (yv r (zC c r.2.2.2.2.2.1 p).1,())).bind _)=_;rw[Z5 _ (by omega),apL];dsimp only;rw[vd c _ p.1 p.2.1 false ajP hwr (by omega),apL];unfold climb;rw[ajP];cases (Jh c (yv r (zC c r.2.2.2.2.2.1 p).1) p.1 p.2.1 false).2<;>rfl
  ·rfl
 ·rfl
theorem VY (c:za) (r:zb) (p:zO) (hr:ze r<=2000000) (hp:zn p<=2000000):fS (c,r,p,())=some ((J0 c r p).1,(J0 c r p).2,()):=by
 have ht:zG r.2.2.2.2.2.1<=2000000:=by simp only[ze] at hr; omega
 have hw:=ex c r.2.2.2.2.2.1 p;have hn:p.2.1.length<=2000000:=by simp only[zn] at hp; omega
 have hwr:ze (yv r (zC c r.2.2.2.2.2.1 p).1)<=15000000:=by simp only[yv,ze] at *; omega
 unfold fS J0;dsimp only;rw[ZS r (by omega),ZP c r (by omega),apL,bZ c p (by omega),gx c r.2.2.2.2.2.1 p (by omega) (by omega)];simp only[apL];cases hok:zf c r
 ·rfl
 cases ji c p
 ·rfl
 cases (p.2.1==([]:List UInt8))
 ·cases decide (p.1<r.2.1)
  ·cases hta:(zC c r.2.2.2.2.2.1 p).2
   ·rfl
   ·simp only[apT,apM];show ((L9 (c,yv r (zC c r.2.2.2.2.2.1 p).1,p.1,p.2.1,false,())).bind _)=_;rw[o8 c _ p.1 p.2.1 false hwr (by omega),apL]
  ·rfl
 ·rfl
noncomputable def YA (c:za) (s:zD) (b:jd):Bool:=ye c s && (js c b && (decide (zl b.1>s.1) && decide (b.2.1≥s.2.1)))
theorem GG (c:za) (s:zD) (b:jd) (hs:zy s<=137438953472) (hb:zx b<=137438953472):dK (c,s,b,())=some (YA c s b,()):=by
 have h1:b.1.length<=137438953472:=by simp only[zx] at hb; omega
 unfold dK YA;dsimp only;rw[aI c s hs,apL,mD c b hb,apL,KP b.1 h1,apL];cases ye c s<;>cases js c b<;>cases decide (zl b.1>s.1)<;>rfl
theorem V9 (c:za) (s:zD) (b:jd) (hs:zy s<=1073741824) (hb:zx b<=1073741824):f0 (c,s,b,())=some (YA c s b,()):=by
 have h1:b.1.length<=1073741824:=by simp only[zx] at hb; omega
 unfold f0 YA;dsimp only;rw[ca c s hs,apL,fL c b hb,apL,Lg b.1 h1,apL];cases ye c s<;>cases js c b<;>cases decide (zl b.1>s.1)<;>rfl
noncomputable def vote (c:za) (s:zD) (b:jd):zD:=bif YA c s b then (zl b.1,s.2) else s
theorem af5 (c:za) (s:zD) (b:jd) (hs:zy s<=137438953472) (hb:zx b<=137438953472):dY (c,s,b,())=some (vote c s b,YA c s b,()):=by
 have h1:b.1.length<=137438953472:=by simp only[zx] at hb; omega
 unfold dY vote;dsimp only;rw[nq s hs,apL,GG c s b hs hb,apL,KP b.1 h1,apL];cases YA c s b<;>rfl
theorem WC (c:za) (s:zD) (b:jd) (hs:zy s<=1073741824) (hb:zx b<=1073741824):gE (c,s,b,())=some (vote c s b,YA c s b,()):=by
 have h1:b.1.length<=1073741824:=by simp only[zx] at hb; omega
 unfold gE vote;dsimp only;rw[gN s (by omega),apL,V9 c s b hs hb,apL,Lg b.1 h1,apL];cases YA c s b<;>rfl
theorem Iv (c:za) (s:zD) (b:jd):zy (vote c s b)<=zy s:=by
 unfold vote;cases YA c s b
 ·exact Nat.le_refl _
 ·exact Nat.le_refl _
noncomputable def voted (c:za) (r0 w:zb) (name:List UInt8):zb×Bool:=
 bif !(zC c w.2.2.2.2.2.1 (zl name,name,[w.1])).2 then (r0,false) else ((climb c (yv w (zC c w.2.2.2.2.2.1 (zl name,name,[w.1])).1) (zl name) name false).1,true)
noncomputable def Jo (c:za) (r:zb) (b:jd):zb×Bool:=
 bif !zf c r then (r,false) else bif !js c b then (r,false) else
 bif decide (zl b.1≥r.2.1) then
  (bif !(zu c (zM r (zl b.1)) (vote c (see c r.2.2.2.1 b.2) b)).2 then (r,false) else
   bif !YA c (see c r.2.2.2.1 b.2) b then ((zu c (zM r (zl b.1)) (vote c (see c r.2.2.2.1 b.2) b)).1,true) else
   voted c r (zu c (zM r (zl b.1)) (vote c (see c r.2.2.2.1 b.2) b)).1 b.1)
 else (bif !(zu c r (see c r.2.2.2.1 b.2)).2 then (r,false) else ((zu c r (see c r.2.2.2.1 b.2)).1,true))
theorem bm (v me:Int) (name:List UInt8):zn (v,name,[me])=name.length+1:=by simp[zn,zq]
theorem afc (c:za) (w:zb) (name:List UInt8) (hok:zf c w=true) (hw:ze w<=13000000) (hn:name.length<=1100000):
  qd (c,w,name,())=some ((voted c w w name).1,(voted c w w name).2,()):=by
 have ht:zG w.2.2.2.2.2.1<=13000000:=by simp only[ze] at hw; omega
 have hp:=bm (zl name) w.1 name;have hta:=ex c w.2.2.2.2.2.1 (zl name,name,[w.1]);have hwr:ze (yv w (zC c w.2.2.2.2.2.1 (zl name,name,[w.1])).1)<=15000000:=by simp only[yv,ze] at *; omega
 unfold qd voted;dsimp only;rw[KP name (by omega),apL];dsimp only;rw[ni c w.2.2.2.2.2.1 (zl name,name,[w.1]) (by omega) (by omega),Option.bind_some];cases h:(zC c w.2.2.2.2.2.1 (zl name,name,[w.1])).2
 ·rfl
 ·have ajP:=nX (t:=(zC c w.2.2.2.2.2.1 (zl name,name,[w.1])).1) hok (qh h);simp only[apT,apM];show ((yO (yv w (zC c w.2.2.2.2.2.1 (zl name,name,[w.1])).1,())).bind _)=_;rw[Z5 _ (by omega),apL,apL];dsimp only;rw[vd c _ (zl name) name false ajP hwr (by omega),apL];unfold climb;rw[ajP];cases (Jh c (yv w (zC c w.2.2.2.2.2.1 (zl name,name,[w.1])).1) (zl name) name false).2<;>rfl
theorem afF (c:za) (r0 w:zb) (name:List UInt8):(voted c r0 w name).2=(zC c w.2.2.2.2.2.1 (zl name,name,[w.1])).2/\((voted c r0 w name).2=true->(voted c w w name).1=(voted c r0 w name).1)/\((voted c r0 w name).2=false->(voted c r0 w name).1=r0)/\(voted c w w name).2=(voted c r0 w name).2:=by
 unfold voted;cases (zC c w.2.2.2.2.2.1 (zl name,name,[w.1])).2
 ·exact⟨rfl,λ h=>(by cases h),λ _=>rfl,rfl⟩
 ·exact⟨rfl,λ _=>rfl,λ h=>(by cases h),rfl⟩
theorem GC (c:za) (r:zb) (b:jd) (hrb:ze r+zx b<=1048576):ay (c,r,b,())=some ((Jo c r b).1,(Jo c r b).2,()):=by
 have hs:zy r.2.2.2.1<=ze r:=by simp only[ze]; omega
 have hq:zj b.2<=zx b/\b.1.length<=zx b:=by simp only[zx]; omega
 have ajT:=NV c r.2.2.2.1 b.2;have ap4:=Iv c (see c r.2.2.2.1 b.2) b;have hiv:ze (zM r (zl b.1))=ze r:=rfl;unfold ay Jo;dsimp only;rw[Z5 r (by omega),apL,YN c r (by omega),apL,mD c b (by omega),apL,apL,uX c r.2.2.2.1 b.2 (by omega) (by omega),apL,KP b.1 (by omega),apL,GG c (see c r.2.2.2.1 b.2) b (by omega) (by omega),apL,af5 c (see c r.2.2.2.1 b.2) b (by omega) (by omega)];simp only[apL];cases hok:zf c r
 ·rfl
 cases hbo:js c b
 ·rfl
 by_cases hv:zl b.1≥r.2.1
 ·have hn:zB b.1=true/\b.1≠[]:=by
   unfold js at hbo;simp only[apO,bne_iff_ne,ne_eq] at hbo;exact⟨hbo.2.1,hbo.2.2.1⟩
  have hnv:=Nx hn.1 hn.2;have ahu:=cr (v:=zl b.1) hok hnv;simp only[hv,apR,apN,apT,apM];cases hm:YA c (see c r.2.2.2.1 b.2) b
  ·have e:vote c (see c r.2.2.2.1 b.2) b=see c r.2.2.2.1 b.2:=by unfold vote; rw[hm]; rfl
   simp only[apM,aq9,apN,e];show ((Ja (c,zM r (zl b.1),see c r.2.2.2.1 b.2,())).bind _)=_;rw[d9 c (zM r (zl b.1)) (see c r.2.2.2.1 b.2) (by omega) (by omega),apL];cases (zu c (zM r (zl b.1)) (see c r.2.2.2.1 b.2)).2<;>rfl
  ·simp only[apN,apT,apM];have hww:=kG c (zM r (zl b.1)) (vote c (see c r.2.2.2.1 b.2) b);show ((Ja (c,zM r (zl b.1),vote c (see c r.2.2.2.1 b.2) b,())).bind _)=_;rw[d9 c (zM r (zl b.1)) (vote c (see c r.2.2.2.1 b.2) b) (by omega) (by omega),apL];cases hw:(zu c (zM r (zl b.1)) (vote c (see c r.2.2.2.1 b.2) b)).2
   ·rfl
   ·obtain⟨o1,o2,o3⟩:=eF ahu hw;obtain⟨f1,f2,f3,f4⟩:=afF c r (zu c (zM r (zl b.1)) (vote c (see c r.2.2.2.1 b.2) b)).1 b.1;simp only[apN,apT,apM];rw[afc c _ b.1 o1 (by omega) (by omega),apL];dsimp only;rw[f4];cases hf:(voted c r (zu c (zM r (zl b.1)) (vote c (see c r.2.2.2.1 b.2) b)).1 b.1).2
    ·simp only[aq9,apN,f3 hf]
    ·simp only[apT,apM,f2 hf]
 ·simp only[hv,apU,apM,apT];rw[d9 c r (see c r.2.2.2.1 b.2) (by omega) (by omega),apL];cases (zu c r (see c r.2.2.2.1 b.2)).2<;>rfl
theorem xO (c:za) (r:zb) (b:jd) (hrb:ze r+zx b<=1048576):bS (c,r,b,())=some ((Jo c r b).1,(Jo c r b).2,()):=by
 have hs:zy r.2.2.2.1<=ze r:=by simp only[ze]; omega
 have hq:zj b.2<=zx b/\b.1.length<=zx b:=by simp only[zx]; omega
 have ajT:=NV c r.2.2.2.1 b.2;have ap4:=Iv c (see c r.2.2.2.1 b.2) b;have hiv:ze (zM r (zl b.1))=ze r:=rfl;unfold bS Jo;dsimp only;rw[ZS r (by omega),ZP c r (by omega),apL,fL c b (by omega),pg c r.2.2.2.1 b.2 (by omega) (by omega),Lg b.1 (by omega)];simp only[apL];rw[WC c (see c r.2.2.2.1 b.2) b (by omega) (by omega)];simp only[apL];cases hok:zf c r
 ·rfl
 cases hbo:js c b
 ·rfl
 by_cases hv:zl b.1≥r.2.1
 ·have hn:zB b.1=true/\b.1≠[]:=by
   unfold js at hbo;simp only[apO,bne_iff_ne,ne_eq] at hbo;exact⟨hbo.2.1,hbo.2.2.1⟩
  have hnv:=Nx hn.1 hn.2;have ahu:=cr (v:=zl b.1) hok hnv;have hww:=kG c (zM r (zl b.1)) (vote c (see c r.2.2.2.1 b.2) b);have hwe:write c (zM r (zl b.1)) (vote c (see c r.2.2.2.1 b.2) b)=zu c (zM r (zl b.1)) (vote c (see c r.2.2.2.1 b.2) b):=by unfold write; rw[ahu]; rfl
  simp only[hv,apR,apN,apT,apM];show ((Md (c,zM r (zl b.1),vote c (see c r.2.2.2.1 b.2) b,())).bind _)=_;rw[gH c (zM r (zl b.1)) (vote c (see c r.2.2.2.1 b.2) b) (by omega) (by omega),apL,hwe];cases hw:(zu c (zM r (zl b.1)) (vote c (see c r.2.2.2.1 b.2) b)).2
  ·rfl
  ·obtain⟨o1,o2,o3⟩:=eF ahu hw;have o2:(zu c (zM r (zl b.1)) (vote c (see c r.2.2.2.1 b.2) b)).1.1=r.1:=o2;cases hm:YA c (see c r.2.2.2.1 b.2) b
   ·rfl
   ·simp only[apT,apM];unfold voted;rw[←o2];generalize (zu c (zM r (zl b.1)) (vote c (see c r.2.2.2.1 b.2) b)).1=w at *;have ht:zG w.2.2.2.2.2.1<=ze w:=by simp only[ze]; omega
    have hp:=bm (zl b.1) w.1 b.1;have hta:=ex c w.2.2.2.2.2.1 (zl b.1,b.1,[w.1]);have hwr:ze (yv w (zC c w.2.2.2.2.2.1 (zl b.1,b.1,[w.1])).1)<=ze w+b.1.length+2:=by simp only[yv,ze] at *; omega
    rw[gx c w.2.2.2.2.2.1 (zl b.1,b.1,[w.1]) (by omega) (by omega),Option.bind_some];cases h:(zC c w.2.2.2.2.2.1 (zl b.1,b.1,[w.1])).2
    ·rfl
    ·simp only[apT,apM];show ((L9 (c,yv w (zC c w.2.2.2.2.2.1 (zl b.1,b.1,[w.1])).1,zl b.1,b.1,false,())).bind _)=_;rw[o8 c _ (zl b.1) b.1 false (by omega) (by omega),apL]
 ·have hwe:write c r (see c r.2.2.2.1 b.2)=zu c r (see c r.2.2.2.1 b.2):=by unfold write; rw[hok]; rfl
  simp only[hv,apU,apM,apT];rw[gH c r (see c r.2.2.2.1 b.2) (by omega) (by omega),apL,hwe];cases (zu c r (see c r.2.2.2.1 b.2)).2<;>rfl
noncomputable def late (c:za) (r:zb):zb×Bool:=
 bif !zf c r then (r,false) else bif decide (r.2.1≥60) then (r,false) else
 bif yw c (r.2.1+1)==r.1 then
  (bif !(zC c r.2.2.2.2.2.1 (r.2.1+1,[],[r.1])).2 then (r,false) else (yv (zM r (r.2.1+1)) (zC c r.2.2.2.2.2.1 (r.2.1+1,[],[r.1])).1,true))
 else
  (bif !(jG c (zM r (r.2.1+1)) (yw c (r.2.1+1)) (3,r.2.1+1,([],0,[],[]),(0,[],[]),r.2.2.2.1.2.2.1,r.1,0,0,0,0)).2 then (r,false) else
   ((jG c (zM r (r.2.1+1)) (yw c (r.2.1+1)) (3,r.2.1+1,([],0,[],[]),(0,[],[]),r.2.2.2.1.2.2.1,r.1,0,0,0,0)).1,true))
theorem aeB (c:za) (r:zb) (hr:ze r<=2000000):N1 (c,r,())=some ((late c r).1,(late c r).2,()):=by
 have ht:zG r.2.2.2.2.2.1<=2000000:=by simp only[ze] at hr; omega
 have hq:zj r.2.2.2.1.2.2.1<=2000000:=by simp only[ze,zy] at hr; omega
 unfold N1 late;dsimp only;rw[Z5 r (by omega),apL,YN c r (by omega),apL];cases hok:zf c r
 ·rfl
 ·have hv:=KK hok;have hp:=bm (r.2.1+1) r.1 [];have hm:=ku r.2.2.2.1.2.2.1 (r.2.1+1) r.1;simp only[apT,apM,zg (show -9223372036854775808<=r.2.1+1 by omega) (show r.2.1+1<=9223372036854775807 by omega),N5,apL];cases decide (r.2.1≥60)
  ·simp only[apM];cases (yw c (r.2.1+1)==r.1)
   ·simp only[apM];show ((LL (c,zM r (r.2.1+1),yw c (r.2.1+1),(3,r.2.1+1,([],0,[],[]),(0,[],[]),r.2.2.2.1.2.2.1,r.1,0,0,0,0),())).bind _)=_;rw[nu c (zM r (r.2.1+1)) _ _ (QS hok) (by show ze r<=_; omega) (by omega),apL]
    cases (jG c (zM r (r.2.1+1)) (yw c (r.2.1+1)) (3,r.2.1+1,([],0,[],[]),(0,[],[]),r.2.2.2.1.2.2.1,r.1,0,0,0,0)).2<;>rfl
   ·simp only[apN];rw[ni c r.2.2.2.2.2.1 (r.2.1+1,[],[r.1]) (by omega) (by simp only[apS] at hp; omega),Option.bind_some]
    cases (zC c r.2.2.2.2.2.1 (r.2.1+1,[],[r.1])).2<;>rfl
  ·rfl
theorem V5 (c:za) (r:zb) (hr:ze r<=2000000):fX (c,r,())=some ((late c r).1,(late c r).2,()):=by
 have ht:zG r.2.2.2.2.2.1<=2000000:=by simp only[ze] at hr; omega
 have hq:zj r.2.2.2.1.2.2.1<=2000000:=by simp only[ze,zy] at hr; omega
 unfold fX late;dsimp only;rw[ZS r (by omega),ZP c r (by omega),apL,apL];cases hok:zf c r
 ·rfl
 ·have hv:=KK hok;have hp:=bm (r.2.1+1) r.1 [];have hm:=ku r.2.2.2.1.2.2.1 (r.2.1+1) r.1;simp only[apT,apM,zg (show -9223372036854775808<=r.2.1+1 by omega) (show r.2.1+1<=9223372036854775807 by omega),Qi,apL];by_cases h60:r.2.1≥60
  ·have e:(r.2.1==60)=true:=by rw[aqi]; omega
   simp only[h60,apR,apN,e]
  ·have e:(r.2.1==60)=false:=beq_eq_false_iff_ne.2 (by omega);have hk:=cr (v:=r.2.1+1) hok (by omega);simp only[h60,apU,apM,e];cases (yw c (r.2.1+1)==r.1)
   ·simp only[apM];show ((Lf (c,zM r (r.2.1+1),yw c (r.2.1+1),(3,r.2.1+1,([],0,[],[]),(0,[],[]),r.2.2.2.1.2.2.1,r.1,0,0,0,0),())).bind _)=_;rw[gz c (zM r (r.2.1+1)) _ _ (by show ze r<=_; omega) (by omega),←eA _ _ hk,apL]
    cases (jG c (zM r (r.2.1+1)) (yw c (r.2.1+1)) (3,r.2.1+1,([],0,[],[]),(0,[],[]),r.2.2.2.1.2.2.1,r.1,0,0,0,0)).2<;>rfl
   ·simp only[apN];rw[gx c r.2.2.2.2.2.1 (r.2.1+1,[],[r.1]) (by omega) (by simp only[apS] at hp; omega),Option.bind_some]
    cases (zC c r.2.2.2.2.2.1 (r.2.1+1,[],[r.1])).2<;>rfl
theorem ti (c:UInt8):∀ s:List UInt8,s.length+1=((zS c s).map λ p=>p.length+1).sum
 | []=>by simp[zS]
 | x::l=>by
  have ih:=ti c l;simp only[zS];split
  ·simp only[aq5,aqo,apS,apQ]; omega
  ·cases h:zS c l with
   | nil=>exact absurd h (JB _ _)
   | cons p r=>
    rw[h] at ih;simp only[glue,aq5,aqo,apX,apQ,apS] at ih ⊢;omega
theorem afz {s:List UInt8} (h:(ZL s).2=true):s.length<=27:=by
 unfold ZL at h;split at h
 ·next hh=>rw[←hh.2]; exact eB _
 ·cases h
theorem Ik:∀ (ps:List (List UInt8)) (out:List zI),(Jb ps out).2=true->(Jb ps out).1.length=out.length+ps.length/\(ps.map λ p=>p.length+1).sum<=28*ps.length
 | [],out,_=>by simp[Jb]
 | p::ps,out,h=>by
  simp only[Jb] at h ⊢;split at h
  ·next hp=>
   have h1:=afz hp;obtain⟨h2,h3⟩:=Ik ps _ h;rw[if_pos hp];simp only[apX,apQ,apS,aq5,aqo] at h2 ⊢;omega
  ·cases h
theorem afE {s:List UInt8} (h:(jp s).2=true):s.length<=28*(jp s).1.length:=by
 unfold jp at h ⊢;split at h
 ·next e=>subst e; simp
 ·next e=>
  rw[if_neg e];obtain⟨h1,h2⟩:=Ik _ _ h;have:=ti 44 s;simp only[apS,aqA] at h1;omega
theorem aa7 {s:List UInt8} (h:(zA s).2=true):s.length<=6:=by
 unfold zA at h;split at h
 ·next hh=>exact hh.2.1
 ·cases h
theorem G5:∀ (ps:List (List UInt8)) (prev:Int) (out:List Yt),(jM ps prev out).2=true->(ps.map λ p=>p.length+1).sum<=64*ps.length
 | [],_,_,_=>by simp
 | p::ps,prev,out,h=>by
  simp only[jM] at h;cases hq:y0 124 p with
  | none=>rw[hq] at h; cases h
  | some q=>
   rw[hq] at h;simp only at h;split at h
   ·next hs=>
    unfold ja at hs;simp only[apO,apY] at hs;obtain⟨a1,a2,-,-,a5⟩:=hs;have b1:=aa7 a1;have b2:=afE a2;obtain⟨q1,q2⟩:=q;have b3:=(oL 124 hq).1;have ih:=G5 ps _ _ h;simp only[aq5,aqo,apQ] at ih ⊢;simp only at b1 b2 a5;omega
   ·cases h
theorem Mk {s:List UInt8} (h:zB s=true):s.length<=1920:=by
 unfold zB steps at h;split at h
 ·next e=>subst e; simp
 ·have hs:=ti 47 s;cases hp:zS 47 s with
  | nil=>exact absurd hp (JB _ _)
  | cons p ps=>
   rw[hp] at h hs;simp only at h;split at h
   ·next hh=>
    obtain⟨rfl,h30⟩:=hh;have:=G5 ps _ _ h;simp only[aq5,aqo,apS] at hs;omega
   ·cases h
theorem F2 (n:Int):∀ (l:List Int) (p:Int),YK n (some p) l=true->p<n->(l.length:Int)<=n - 1 - p
 | [],p,_,hp=>by simp; omega
 | x::l,p,h,hp=>by
  simp only[YK,apO,aqD,ara] at h;obtain⟨h1,h2,h3,h4⟩:=h;have:=F2 n l x h4 (by omega);simp only[apQ];omega
theorem uH {n:Int} {l:List Int} (h:jK n l=true) (hn:0<=n):(l.length:Int)<=n:=by
 unfold jK at h;cases l with
 | nil=>simpa using hn
 | cons x l=>
  simp only[YK,apO,aqD,ara] at h;obtain⟨h1,h2,h3,h4⟩:=h;have:=F2 n l x h4 (by omega);simp only[apQ];omega
theorem F3 (n:Int):∀ (l:List Int) (p:Option Int),YK n p l=true->∀ x∈l,0<=x/\x<n
 | [],_,_,x,hx=>by cases hx
 | y::l,p,h,x,hx=>by
  simp only[YK,apO,aqD,ara] at h;obtain⟨h1,h2,h3,h4⟩:=h;rcases List.mem_cons.1 hx with rfl|hx
  ·omega
  ·exact F3 n l _ h4 x hx
theorem uI {n:Int} {l:List Int} (h:jK n l=true):∀ x∈l,0<=x/\x<n:=F3 n l none h
theorem lF {c:za} {q:zH} (h:zW c q=true):zj q<=1927:=by
 unfold zW at h;simp only[apO] at h;obtain⟨h1,h2,h3,h4⟩:=h;have hc:=zR h1;have hn:=Mk h2;simp only[zj,zq];cases he:(q.2.1==([]:List UInt8))<;>rw[he] at h4
 ·simp only[apM,apO] at h4;have:=uH h4.1 (by omega);omega
 ·simp only[apN,aqi] at h4;omega
theorem By {c:za} {p:zO} (h:ji c p=true):zn p<=1927:=by
 unfold ji at h;simp only[apO,aqE] at h;obtain⟨h1,h2,h3,h4,h5⟩:=h;have hc:=zR h1;have:=uH h3 (by omega);simp only[zn,zq];rcases h5 with h5|h5
 ·simp only[aqi] at h5;rw[h5];simp only[apS];omega
 ·have hn:=Mk h5.1;omega
theorem wq {c:za} {b:jd} (h:js c b=true):zx b<=3847:=by
 unfold js at h;simp only[apO] at h;have h1:=lF h.1;have h2:=Mk h.2.1;simp only[zx];omega
theorem tr {a b:zH} (h:jj a b=true):a=b:=by
 unfold jj at h;simp only[apO,aqi,apY] at h;obtain⟨a1,a2,a3⟩:=a;obtain⟨b1,b2,b3⟩:=b;simp only at h;simp[h.1,h.2.1,h.2.2]
theorem X4 {a b:zt} (h:YB a b=true):a=b:=by
 unfold YB Ku bi at h;simp only[apO,aqi] at h;obtain⟨a1,a2,⟨a3,a3'⟩,a4,a5,a6,a7⟩:=a;obtain⟨b1,b2,⟨b3,b3'⟩,b4,b5,b6,b7⟩:=b;simp only at h;obtain⟨h1,h2,⟨h3,h3'⟩,h4,h5,h6,h7⟩:=h;have e1:=tr h3';have e2:a4=b4:=tr h4;have e3:=tr h5;subst h1 h2 h3 e1 e2 e3 h6;obtain⟨x1,x2,x3,x4⟩:=a7;obtain⟨y1,y2,y3,y4⟩:=b7;simp only at h7;obtain⟨k1,k2,k3,k4,-⟩:=h7;subst k1 k2 k3 k4;rfl
theorem QD {c:za} {m:zt} (h:z7 c m=true):zh m<=3847:=by
 unfold z7 at h;simp only[apO] at h;obtain⟨h1,h2,h3⟩:=h;have e:=X4 h2;rw[←e];unfold canon;cases k1:(m.1==1)
 ·cases k2:(m.1==2)
  ·cases k3:(m.1==3)
   ·cases k4:(m.1==4)
    ·simp[zh,zx,zj,zn,zq]
    ·simp[zh,zx,zj,zn,zq]
   ·rw[k1,k2,k3] at h3;simp only[apM,apN,apO] at h3;have:=lF h3.2.1;simp only[apM,apN,zh,zx,zn,zq,apS];simp only[zj,zq,apS] at this ⊢;omega
  ·rw[k1,k2] at h3;simp only[apM,apN,apO] at h3;have:=By h3.1;simp only[apM,apN,zh,zx,zj,zq,apS];simp only[zn,zq] at this ⊢;omega
 ·rw[k1] at h3;simp only[apN] at h3;have:=wq h3;simp only[apN,zh,zj,zn,zq,apS];simp only[zx,zj,zq] at this ⊢;omega
theorem ado {c:za} {s:zD} (h:ye c s=true):zy s<=3847:=by
 unfold ye at h;simp only[apO] at h;have h1:=lF h.2.2.1;have h2:=Mk h.2.2.2;simp only[zy];omega
theorem bg {α:Type} (f:α->Nat) (k:Nat):∀ (l:List α),(∀ x∈l,f x<=k)->(l.map f).sum<=k*l.length
 | [],_=>by simp
 | x::l,h=>by
  have h1:=h x (by simp);have h2:=bg f k l λ y hy=>h y (by simp[hy]);simp only[aq5,aqo,apQ,Nat.mul_add,Nat.mul_one];omega
theorem wy {α:Type} {ok:α->Bool} {lt:α->α->Bool}:∀ {l:List α} {p:Option α},yB ok lt p l=true->∀ x∈l,ok x=true
 | [],_,_,x,hx=>by cases hx
 | y::l,p,h,x,hx=>by
  simp only[yB,apO] at h;rcases List.mem_cons.1 hx with rfl|hx
  ·exact h.1
  ·exact wy h.2.2 x hx
theorem ey {c:za} {l:yb} (h:jN c l=true):zG l<=38560:=by
 unfold jN at h;simp only[apO,apY] at h;have h1:=bg zn 1927 l λ x hx=>By (wy h.1 x hx);simp only[zG];omega
theorem JF {c:za} {r:zb} (h:zf c r=true):zz c=true/\(0<=r.1/\r.1<=c.1 - 1)/\(1<=r.2.1/\r.2.1<=60)/\(0<=r.2.2.1/\r.2.2.1<=60)/\ye c r.2.2.2.1=true/\jn r.2.2.2.2.1=true/\
  jN c r.2.2.2.2.2.1=true/\yC r.2.2.2.2.2.2.1=true/\r.2.2.2.2.2.2.2.length<=30/\∀ x∈r.2.2.2.2.2.2.2,ZO c r.1 x=true:=by
 unfold zf at h;simp only[apO,apY,List.all_eq_true] at h;obtain⟨h1,h2,h3,h4,h5,h6,h7,h8,h9,h10⟩:=h;exact⟨h1,h2,h3,h4,h5,h6,h7,h8,by omega,h10⟩
theorem Zb {c:za} {r:zb} (h:zf c r=true):ze r<=260000:=by
 obtain⟨h1,h2,h3,h4,h5,h6,h7,h8,h9,h10⟩:=JF h;have a5:=ado h5;have a7:=ey h7;unfold jn at h6;unfold yC at h8;simp only[apO,apY] at h6 h8;have a10:=bg Z7 3847 r.2.2.2.2.2.2.2 λ x hx=>by
  have:=h10 x hx;unfold ZO at this;simp only[apO] at this;exact QD this.1
 simp only[ze,Ko,KU,ym];omega
theorem Bg:zB []=true:=by unfold zB steps; simp
theorem Bf (up:List UInt8) (view:Int) (list:zw):zB (jB up view list)=true:=by
 unfold jB;cases h:(list.all zF && zB (ZX up view list))
 ·exact Bg
 ·simp only[apO] at h;exact h.2
theorem Iu:zl []=0:=by unfold zl steps; simp
theorem bk {s:List UInt8} (h:zB s=true):0<=zl s/\zl s<=60:=by
 by_cases e:s=[]
 ·subst e; rw[Iu]; omega
 ·have:=Nx h e; omega
theorem AL (c:jV) (hc:Zs c):Ens (yt (c,())) λ r=>0<=r.1.2.1/\zF r.2.1=true:=by
 unfold yt;refine (j8 c 4 hc).bind λ r0 h0 => ?_;refine (j8 (c.1,r0.1.2) 4 ⟨hc.1,h0.1⟩).bind λ r1 h1 => ?_;refine (pD (c.1,r1.1.2) _ ⟨hc.1,h1.1⟩ (by simp)).bind λ r2 h2 => ?_;refine (j8 (c.1,r2.1.2) 3 ⟨hc.1,h2.1⟩).bind λ r3 h3 => ?_;refine Ens.some ⟨h3.1,?_⟩;have a0:=h0.2.2 (by decide);have a1:=h1.2.2 (by decide);have a3:=h3.2.2 (by decide);have a2:=h2.2;simp only[aqb,aqM,or_false] at a2;rw[qn];dsimp only;omega
theorem afu {n:Nat} (h:n<256):(jb (n:Int)).toNat=n:=by
 rw[vz];have e:((n:Int) % 256).toNat=n:=by omega
 rw[e];simp[UInt8.toNat_ofNat'];omega
theorem Ih (b:UInt8):jb (b.toNat:Int)=b:=by
 apply UInt8.toNat_inj.1;exact afu (UInt8.toNat_lt b)
theorem xw:∀ (l:List UInt8) (v k m:Nat) {p:Nat×Nat},Zx l v k m=some p->∃ n post,l=ZE n++post/\p.1=v+n*128 ^ k/\p.2=k+(ZE n).length/\(k>0->n>0)
 | [],v,k,m,p,h=>by rw[bJ] at h; cases h
 | b::l,v,k,0,p,h=>by cases h
 | b::l,v,k,m+1,p,h=>by
  simp only[Zx] at h;split at h
  ·next hb=>
   split at h
   ·cases h
   ·next hc=>
    cases h;refine⟨b.toNat,l,?_,rfl,?_,?_⟩
    ·rw[NM (by omega),Ih]; rfl
    ·rw[NM (by omega)]; rfl
    ·intro hk;rcases Nat.eq_zero_or_pos b.toNat with h0|h0
     ·exact absurd (.inl ⟨hk,h0⟩) hc
     ·exact h0
  ·next hb=>
   obtain⟨n',post,e1,e2,e3,e4⟩:=xw l _ _ m h;have hn':=e4 (by omega);have hlt:=UInt8.toNat_lt b;have hn:n'*128+b.toNat % 128>127:=by omega
   have ed:(n'*128+b.toNat % 128) / 128=n':=by omega
   have em:(n'*128+b.toNat % 128) % 128+128=b.toNat:=by omega
   refine⟨n'*128+b.toNat % 128,post,?_,?_,?_,λ _=>by omega⟩
   ·rw[QP hn,ed,em,Ih,e1]; rfl
   ·rw[e2,aqO,aqv,←Nat.mul_assoc,Nat.mul_right_comm n' (128 ^ k) 128];omega
   ·rw[QP hn,ed,apQ,e3]; omega
theorem aar {n:Nat} (h:n<=2147483647):yp (n:Int)=ZE n:=by
 unfold yp;rw[if_pos (by omega)];rfl
theorem xy {s:List UInt8} {at_:Int} (h:(zi s at_).2.2=true):(zi s at_).2.1=at_+((yp (zi s at_).1).length:Int)/\s.drop at_.toNat=yp (zi s at_).1++s.drop (zi s at_).2.1.toNat:=by
 have hb:=K9 s at_ h;unfold zi at h hb ⊢;split at h
 ·simp at h
 ·next ha=>
  rw[if_neg ha] at hb ⊢;cases hg:Zx (s.drop at_.toNat) 0 0 5 with
  | none=>rw[hg] at h; simp at h
  | some p=>
   rw[hg] at hb;obtain⟨n,post,e1,e2,e3,_⟩:=xw _ _ _ _ hg;simp only[Nat.pow_zero,Nat.mul_one,aqA] at e2 e3;simp only at hb ⊢;rw[e2,aar (by omega),e3];refine⟨rfl,?_⟩;have:(at_+((ZE n).length:Int)).toNat=at_.toNat+(ZE n).length:=by omega
   rw[this,←aqy,e1];simp
def Rds (s:List UInt8) (r r':ya) (bs:List UInt8):Prop:=r.2=true/\0<=r.1/\r'=(r.1+(bs.length:Int),true)/\s.drop r.1.toNat=bs++s.drop r'.1.toNat
theorem Rds.app {s:List UInt8} {r r1 r2:ya} {a b:List UInt8} (h1:Rds s r r1 a) (h2:Rds s r1 r2 b):Rds s r r2 (a++b):=by
 obtain⟨a1,a2,a3,a4⟩:=h1;obtain⟨b1,b2,b3,b4⟩:=h2;refine⟨a1,a2,?_,?_⟩
 ·rw[b3,a3,apX]; simp only[apV,and_true]; omega
 ·rw[a4,b4,aqj]
theorem Rds.all {s:List UInt8} {r':ya} {bs:List UInt8} (h:Rds s (0,true) r' bs) (hl:r'.1=(s.length:Int)):s=bs:=by
 obtain⟨_,_,_,h4⟩:=h;rw[hl] at h4;simpa using h4
theorem YE {s:List UInt8} {r:ya} (h:(zk s r).1.2=true):Rds s r (zk s r).1 (yp (zk s r).2):=by
 have h1:=Y3 h;unfold zk at h h1 ⊢;split at h
 ·next hc=>
  rw[if_pos hc];obtain⟨e1,e2⟩:=xy hc.1;exact⟨hc.2,h1.2.1,by rw[e1],e2⟩
 ·simp at h
theorem tw {s:List UInt8} {r:ya} (h:(yq s r).1.2=true):Rds s r (yq s r).1 (Y2 (yq s r).2):=by
 have h1:=Mp h;unfold yq at h h1 ⊢;split at h
 ·next hc=>
  rw[if_pos hc];have hg:=hc.1;unfold zK at hg ⊢;split at hg
  ·next hh=>
   rw[if_pos hh];have hok:=K9 s r.1 hh.1;obtain⟨e1,e2⟩:=xy hh.1;have hle:=hh.2;have hl:((s.drop (zi s r.1).2.1.toNat).take (zi s r.1).1.toNat).length=(zi s r.1).1.toNat:=by
    simp only[aq4,aqa]; omega
   unfold Y2;simp only;rw[hl,show (((zi s r.1).1.toNat:Nat):Int)=(zi s r.1).1 by omega];refine⟨hc.2,hok.1,?_,?_⟩
   ·rw[apX,hl];simp only[apV,and_true];omega
   ·rw[e2,aqj];congr 1;have:((zi s r.1).2.1+(zi s r.1).1).toNat=(zi s r.1).2.1.toNat+(zi s r.1).1.toNat:=by omega
    rw[this,←aqy,arj]
  ·simp at hg
 ·simp at h
theorem rx (x:Int) (l:List Int):nums (x::l)=yp x++nums l:=by unfold nums; simp
theorem IA {s:List UInt8}:∀ (n:Nat) (r:ya) (out:List Int),r.2=true->(yU s n r out).1.2=true->∃ l,(yU s n r out).2=out++l/\l.length=n/\(0<=r.1->Rds s r (yU s n r out).1 (nums l))
 | 0,r,out,hr,h=>⟨[],by simp[yU],rfl,λ h0=>⟨hr,h0,by obtain⟨a,b⟩:=r; simp only at hr; subst hr; simp[yU,nums],by simp[yU,nums]⟩⟩
 | n+1,r,out,hr,h=>by
  simp only[yU] at h ⊢;rw[if_pos hr] at h ⊢;cases hr1:(zk s r).1.2 with
  | false=>
   exfalso;have:∀ m o,(yU s m (zk s r).1 o).1.2=false:=by
    intro m o;cases m with
    | zero=>exact hr1
    | succ m=>simp only[yU]; rw[if_neg (by rw[hr1]; decide)]; exact hr1
   rw[this] at h;cases h
  | true=>
   obtain⟨l,e1,e2,e3⟩:=IA n (zk s r).1 (out++[(zk s r).2]) hr1 h;have hb:=YE hr1;have hk:=Y3 hr1;refine⟨(zk s r).2::l,by rw[e1]; simp,by simp[e2],λ h0 => ?_⟩
   rw[rx];exact hb.app (e3 (by omega))
theorem Ej {s:List UInt8} {r:ya} (h:(jD s r).1.2=true):Rds s r (jD s r).1 (yp ((jD s r).2.length:Int)++nums (jD s r).2):=by
 unfold jD at h ⊢;cases hr1:(zk s r).1.2 with
 | false=>
  exfalso;have:∀ m o,(yU s m (zk s r).1 o).1.2=false:=by
   intro m o;cases m with
   | zero=>exact hr1
   | succ m=>simp only[yU]; rw[if_neg (by rw[hr1]; decide)]; exact hr1
  rw[this] at h;cases h
 | true=>
  obtain⟨l,e1,e2,e3⟩:=IA _ _ _ hr1 h;have hb:=YE hr1;have hk:=Y3 hr1;have hnb:=tu s r;rw[e1];simp only[aqf];rw[e2,show (((zk s r).2.toNat:Nat):Int)=(zk s r).2 by omega];exact hb.app (e3 (by omega))
noncomputable def tq (q:zH):List UInt8:=yp q.1++(Y2 q.2.1++(yp (q.2.2.length:Int)++nums q.2.2))
theorem Ed {c:za} {q:zH} (h:zW c q=true):Kd c q=tq q:=by
 unfold Kd tq;rw[h];simp only[apN,aqj]
theorem Ei {s:List UInt8} {r:ya} (h:(yL s r).1.2=true):Rds s r (yL s r).1 (tq (yL s r).2):=by
 unfold yL at h ⊢;have h3:=lH h;have h2:=Mp h3.1;exact (YE h2.1).app ((tw h3.1).app (Ej h))
theorem Bq:nums []=[]:=by unfold nums; simp
theorem bG {c:za} {s:List UInt8} {r:ya} {m:zt} (h:(ZN c s r m).2=true):r.2=true/\r.1=(s.length:Int)/\z7 c m=true/\(ZN c s r m).1=m:=by
 unfold ZN at h ⊢;cases hc:(r.2 && (r.1==(s.length:Int) && z7 c m))
 ·rw[hc] at h; cases h
 ·simp only[apO,aqi] at hc;exact⟨hc.1,hc.2.1,hc.2.2,rfl⟩
theorem X0 {c:za} {m:zt} (h:z7 c m=true) (k:(m.1==1)=true):zW c m.2.2.1.2=true/\zB m.2.2.1.1=true:=by
 unfold z7 at h;rw[k] at h;simp only[apO,apN] at h;have:=h.2.2;unfold js at this;simp only[apO] at this;exact⟨this.1,this.2.1⟩
theorem X1 {c:za} {m:zt} (h:z7 c m=true) (k1:(m.1==1)=false) (k2:(m.1==2)=false) (k:(m.1==3)=true):zW c m.2.2.2.2.1=true/\(1<=m.2.1/\m.2.1<=60)/\(0<=m.2.2.2.2.2.1/\m.2.2.2.2.2.1<=7):=by
 unfold z7 at h;rw[k,k1,k2] at h;simp only[apO,apN,apM,apY] at h;obtain⟨h1,_,h3,h4,h5⟩:=h;have hc:=zR h1;rw[zg (n:=c.1 - 1) (by omega) (by omega)] at h5;exact⟨h4,h3,by omega⟩
theorem X2 {c:za} {m:zt} (h:z7 c m=true) (k1:(m.1==1)=false) (k2:(m.1==2)=false) (k3:(m.1==3)=false):m.1=4/\zF m.2.2.2.2.2.2=true:=by
 unfold z7 at h;rw[k1,k2,k3] at h;simp only[apO,apM] at h;have:=h.2.2;cases k4:(m.1==4)<;>rw[k4] at this
 ·cases this
 ·exact⟨by simpa using k4,this⟩
theorem XY {c:za} {s:List UInt8} (h:(jY c s).2=true):jS c (jY c s).1=s:=by
 unfold jY at h ⊢;simp only at h ⊢;cases k1:((zk s (0,true)).2==1)<;>rw[k1] at h
 ·cases k2:((zk s (0,true)).2==2)<;>rw[k2] at h
  ·cases k3:((zk s (0,true)).2==3)<;>rw[k3] at h
   ·cases k4:((zk s (0,true)).2==4)<;>rw[k4] at h
    ·simp only[apM] at h ⊢;obtain⟨g1,g2,g3,g4⟩:=bG h;obtain⟨q1,q2⟩:=X2 g3 k1 k2 k3;simp only at q1;rw[q1] at k4;cases k4
    ·simp only[apM,apN] at h ⊢;obtain⟨g1,g2,g3,g4⟩:=bG h;rw[g4];have n4:=Y3 g1;have n3:=Y3 n4.1;have n2:=Y3 n3.1;have n1:=Y3 n2.1;have hb:=(YE n1.1).app ((YE n2.1).app ((YE n3.1).app ((YE n4.1).app (YE g1))));have hs:=hb.all g2;unfold jS;rw[g3];simp only[apN];rw[k1,k2,k3];simp only[apM,rx,Bq,aqL];exact hs.symm
   ·simp only[apM,apN] at h ⊢;obtain⟨g1,g2,g3,g4⟩:=bG h;rw[g4];obtain⟨q1,q2,q3⟩:=X1 g3 k1 k2 k3;have n4:=di g1;have n3:=Y3 n4.1;have n2:=Y3 n3.1;have hb:=(YE n2.1).app ((YE n3.1).app ((YE n4.1).app (Ei g1)));have hs:=hb.all g2;unfold jS;rw[g3];simp only[apN];rw[k1,k2,k3];simp only[apM,apN,rx,Bq,aqL];rw[Ed q1];simp only[aqj];exact hs.symm
  ·simp only[apM,apN] at h ⊢;obtain⟨g1,g2,g3,g4⟩:=bG h;rw[g4];have n4:=lH g1;have n3:=Mp n4.1;have n2:=Y3 n3.1;have hb:=(YE n2.1).app ((YE n3.1).app ((tw n4.1).app (Ej g1)));have hs:=hb.all g2;unfold jS;rw[g3];simp only[apN];rw[k1,k2];simp only[apM,apN,aqj];exact hs.symm
 ·simp only[apN] at h ⊢;obtain⟨g1,g2,g3,g4⟩:=bG h;rw[g4];obtain⟨q1,q2⟩:=X0 g3 k1;have n3:=di g1;have n2:=Mp n3.1;have hb:=(YE n2.1).app ((tw n3.1).app (Ei g1));have hs:=hb.all g2;unfold jS;rw[g3];simp only[apN];rw[k1];simp only[apN];rw[Ed q1,aqj];exact hs.symm
def Kp (c:za) (r r':zb):Prop:=zf c r'=true/\r'.1=r.1
theorem Kp.refl {c:za} {r:zb} (h:zf c r=true):Kp c r r:=⟨h,rfl⟩
theorem Kp.trans {c:za} {a b d:zb} (h1:Kp c a b) (h2:Kp c b d):Kp c a d:=⟨h2.1,h2.2.trans h1.2⟩
theorem pA {c:za} {r:zb} (h:zf c r=true) (to:Int) (m:zt):Kp c r (jG c r to m).1:=by
 have e:=eA to m h;cases hf:(jG c r to m).2 with
 | true=>
  rw[e] at hf ⊢;exact vu hf
 | false=>
  unfold jG at hf ⊢;cases hc:(!decide ((r.2.2.2.2.2.2.2.length:Int)≥30) && ZO c r.1 (to,m))
  ·exact Kp.refl h
  ·rw[hc] at hf; cases hf
theorem cw {c:za} {r:zb} (h:zf c r=true) (s:zD):Kp c r (zu c r s).1/\(zu c r s).1.2.1=r.2.1:=by
 cases hf:(zu c r s).2 with
 | true=>obtain⟨a,b,d⟩:=eF h hf; exact⟨⟨a,b⟩,d⟩
 | false=>rw[afO hf]; exact⟨Kp.refl h,rfl⟩
theorem Qx {c:za} {r:zb} {v:Int} (h:zf c r=true) (hv:1<=v/\v<=60):Kp c r (zM r v):=⟨cr h hv,rfl⟩
theorem Xe {c:za} {r:zb} (h:zf c r=true) (q:zH):Kp c r (top c r q).1:=by
 obtain⟨k1,k2⟩:=cw h (see c r.2.2.2.1 q);have hv:=KK h;unfold top;cases (zu c r (see c r.2.2.2.1 q)).2
 ·exact Kp.refl h
 ·simp only[apT,apM];by_cases h60:q.1+1>60
  ·simp only[h60,apR,apN]; exact k1
  ·have k3:Kp c r (zM (zu c r (see c r.2.2.2.1 q)).1 (max (zu c r (see c r.2.2.2.1 q)).1.2.1 (q.1+1))):=k1.trans (Qx k1.1 (by rw[k2]; omega))
   simp only[h60,apU,apM];cases (yw c (q.1+1)==r.1)
   ·exact k3.trans (pA k3.1 _ _)
   ·exact k3
theorem Xc {c:za} {r:zb} (h:zf c r=true) (v:Int) (name:List UInt8) (force:Bool):Kp c r (Jh c r v name force).1:=by
 unfold Jh;cases (((y7 r.2.2.2.2.2.1 v name).2.2.length:Int)==0)
 ·cases (name==([]:List UInt8))
  ·simp only[apM];cases (yw c v==r.1)
   ·simp only[apM];cases (!force && decide ((JU (under c v r.1) (y7 r.2.2.2.2.2.1 v name).2.2:Int)<((under c v r.1).length:Int)))
    ·exact pA h _ _
    ·exact Kp.refl h
   ·simp only[apN];cases (Yh c (y7 r.2.2.2.2.2.1 v name)).2
    ·exact Kp.refl h
    ·exact Xe h _
  ·exact Kp.refl h
 ·exact Kp.refl h
theorem g9 {c:za} {r:zb} (h:zf c r=true) (v:Int) (name:List UInt8) (force:Bool):Kp c r (climb c r v name force).1:=by
 unfold climb;cases (zf c r && (Jh c r v name force).2)
 ·exact Kp.refl h
 ·exact Xc h v name force
theorem Nv {c:za} {r:zb} {t:yb} (h:zf c r=true) (ht:jN c t=true):Kp c r (yv r t):=⟨nX h ht,rfl⟩
theorem Xf {c:za} {r0 w:zb} (h0:zf c r0=true) (h:zf c w=true) (e:w.1=r0.1) (name:List UInt8):Kp c r0 (voted c r0 w name).1:=by
 unfold voted;cases ht:(zC c w.2.2.2.2.2.1 (zl name,name,[w.1])).2
 ·exact Kp.refl h0
 ·have k:=Nv (t:=(zC c w.2.2.2.2.2.1 (zl name,name,[w.1])).1) h (qh ht);have k2:=k.trans (g9 k.1 (zl name) name false);exact⟨k2.1,k2.2.trans e⟩
theorem ka {c:za} {r:zb} (h:zf c r=true) (b:jd):Kp c r (Jo c r b).1:=by
 unfold Jo;rw[h];simp only[apT,apM];cases hbo:js c b
 ·exact Kp.refl h
 ·simp only[apT,apM];have hn:zB b.1=true/\b.1≠[]:=by
   unfold js at hbo;simp only[apO,bne_iff_ne,ne_eq] at hbo;exact⟨hbo.2.1,hbo.2.2.1⟩
  have hnv:=Nx hn.1 hn.2;cases decide (zl b.1≥r.2.1)
  ·simp only[apM];obtain⟨k1,_⟩:=cw h (see c r.2.2.2.1 b.2);cases (zu c r (see c r.2.2.2.1 b.2)).2
   ·exact Kp.refl h
   ·exact k1
  ·simp only[apN];have ki:=Qx (v:=zl b.1) h hnv;obtain⟨k1,_⟩:=cw ki.1 (vote c (see c r.2.2.2.1 b.2) b);have k1:=ki.trans k1;cases (zu c (zM r (zl b.1)) (vote c (see c r.2.2.2.1 b.2) b)).2
   ·exact Kp.refl h
   ·simp only[apT,apM];cases YA c (see c r.2.2.2.1 b.2) b
    ·exact k1
    ·exact Xf h k1.1 k1.2 b.1
theorem AE {c:za} {r:zb} (h:zf c r=true) (p:zO):Kp c r (J0 c r p).1:=by
 unfold J0;rw[h];simp only[apT,apM];cases ji c p
 ·exact Kp.refl h
 cases (p.2.1==([]:List UInt8))
 ·cases decide (p.1<r.2.1)
  ·simp only[apT,apM];cases ht:(zC c r.2.2.2.2.2.1 p).2
   ·exact Kp.refl h
   ·have k:=Nv (t:=(zC c r.2.2.2.2.2.1 p).1) h (qh ht);exact k.trans (g9 k.1 p.1 p.2.1 false)
  ·exact Kp.refl h
 ·exact Kp.refl h
theorem AH {c:za} {r:zb} (h:zf c r=true):Kp c r (late c r).1:=by
 have hv:=KK h;unfold late;rw[h];simp only[apT,apM];by_cases h60:r.2.1≥60
 ·simp only[h60,apR,apN]; exact Kp.refl h
 ·have ki:=Qx (v:=r.2.1+1) h (by omega);simp only[h60,apU,apM];cases (yw c (r.2.1+1)==r.1)
  ·simp only[apM];have k:=ki.trans (pA ki.1 (yw c (r.2.1+1)) (3,r.2.1+1,([],0,[],[]),(0,[],[]),r.2.2.2.1.2.2.1,r.1,0,0,0,0));cases (jG c (zM r (r.2.1+1)) (yw c (r.2.1+1)) (3,r.2.1+1,([],0,[],[]),(0,[],[]),r.2.2.2.1.2.2.1,r.1,0,0,0,0)).2
   ·exact Kp.refl h
   ·exact k
  ·simp only[apN];cases ht:(zC c r.2.2.2.2.2.1 (r.2.1+1,[],[r.1])).2
   ·exact Kp.refl h
   ·exact ki.trans (Nv ki.1 (qh ht))
theorem pz {c:za} {r:zb} (hr:zf c r=true) (m:zt):∀ (n i:Nat) (out:zb),Kp c r out->Kp c r (Km c r m n i out).1
 | 0,_,out,h=>h
 | n+1,i,out,h=>by
  simp only[Km];cases ((i:Int)==r.1)
  ·simp only[apM];cases ht:(tell c out i m).2
   ·exact Kp.refl hr
   ·exact pz hr m n (i+1) _ (h.trans (vu ht))
  ·exact pz hr m n (i+1) out h
theorem AK {c:za} {r:zb} (h:zf c r=true) (m:zt):Kp c r (JO c r m).1:=by
 unfold JO;rw[h];exact pz h m _ 0 r (Kp.refl h)
theorem aak {p:zw} {x:zI} (hp:jn p=true):jn (Yj p x).1=true:=by
 unfold Yj Y1;generalize yh (λ y => !yd y x) 0 p=k;cases h:jn (p.take k++x::p.drop k)
 ·exact hp
 ·exact h
theorem En {c:za} {a v k:Int} {sf:zD} {p p':zw} {rest:yb×yV×jI} (h:zf c (a,v,k,sf,p,rest)=true) (hp:jn p'=true):zf c (a,v,k,sf,p',rest)=true:=by
 unfold zf at h ⊢;simp only[apO] at h ⊢;obtain⟨a1,a2,a3,a4,a5,a6,a7⟩:=h;exact⟨a1,a2,a3,a4,a5,hp,a7⟩
theorem AG {c:za} {r:zb} (h:zf c r=true) (x:zI):Kp c r (J1 c r x).1:=by
 obtain⟨a,v,k,sf,p,rest⟩:=r;have hp:=(JF h).2.2.2.2.2.1;unfold J1;rw[h];exact⟨En h (aak hp),rfl⟩
theorem FR {c:za} (h:zz c=true):ye c Ya=true:=by
 unfold ye Ya zW;simp[h,Bg,Iu]
theorem adl {c:za} {s:List UInt8} (h:(ZG c s).2=true):ye c (ZG c s).1=true:=by
 unfold ZG at h ⊢;cases hc:((yM s).1.2 && ((yM s).1.1==(s.length:Int) && ye c (yM s).2))
 ·rw[hc] at h; cases h
 ·simp only[apO] at hc;exact hc.2.2
theorem AU (c:za) (s:List UInt8):∀ (n at_:Nat) (old:zD),ye c old=true->ye c (jQ c s n at_ old).1=true
 | 0,_,_,h=>h
 | n+1,at_,old,h=>by
  simp only[jQ];cases hc:((zK s at_).2.2 && (decide ((zK s at_).2.1<(s.length:Int)) && (s.getD (zK s at_).2.1.toNat 0==10 && (ZG c (zK s at_).1).2)))
  ·exact h
  ·simp only[apO] at hc;exact AU c s n _ _ (adl hc.2.2.2)
theorem XE {c:za} (h:zz c=true) (s:List UInt8):ye c (YX c s).1=true:=AU c s _ 0 Ya (FR h)
theorem adn {c:za} {s:zD} (h:ye c s=true):(0<=s.1/\s.1<=60)/\(0<=s.2.2.1.1/\s.2.2.1.1<=60):=by
 unfold ye at h;simp only[apO,apY] at h;refine⟨h.1,?_⟩;have hq:=h.2.2.1;unfold zW at hq;simp only[apO,aqi] at hq;have:=bk hq.2.1;omega
theorem kc {c:za} {r:zb} (h:zf c r=true):Kp c r (rise c r):=by
 obtain⟨h1,h2,h3,h4,h5,h6,h7,h8,h9,h10⟩:=JF h;unfold rise;rw[h];simp only[apN];refine⟨?_,rfl⟩;have hs:=XE h1 r.2.2.2.2.2.2.1.1;obtain⟨b1,b2,b3⟩:=pR c r.2.2.2.2.2.2.1.1;obtain⟨s1,s2⟩:=adn hs;unfold yC at h8;simp only[apO,apY] at h8;unfold zf;simp only[apO,apY];have hv:1<=QV (YX c r.2.2.2.2.2.2.1.1).1/\QV (YX c r.2.2.2.2.2.2.1.1).1<=60:=by
  unfold QV;rw[zg (by omega) (by omega)];omega
 refine⟨h1,h2,hv,by omega,hs,rfl,rfl,?_,by simp,by simp⟩;unfold yC;simp only[apO,apY,aq4];omega
theorem AI {c:za} {r:zb} (h:zf c r=true):Kp c r (yH c r).1:=by
 obtain⟨h1,h2,h3,h4,h5,h6,h7,h8,h9,h10⟩:=JF h;unfold yH;rw[h];simp only[apN];refine⟨?_,rfl⟩;unfold zf;simp only[apO,apY];refine⟨h1,h2,h3,h4,h5,h6,h7,?_,by simp,by simp⟩;unfold MM;rw[if_pos h8];unfold yC at h8 ⊢;simp only[apO,apY] at h8 ⊢;omega
noncomputable def eC (q:zH) (w:zb) (v:Int):zb:=zM w (max v (min (q.1+1) 60))
noncomputable def qZ (c:za) (r:zb) (v:Int) (q:zH) (who:Int):zb×Bool:=
 bif !zf c r then (r,false) else bif !(decide (v≥1) && decide (v<=60)) then (r,false) else bif !zW c q then (r,false) else bif !(decide (who≥0) && decide (who<=wr (c.1 - 1))) then (r,false) else
 bif (zu c r (see c r.2.2.2.1 q)).2 then
  (bif yw c v==r.1 then
   (bif decide (v≥r.2.1) then
    (bif !(zC c (zu c r (see c r.2.2.2.1 q)).1.2.2.2.2.2.1 (v,[],[who])).2 then (r,false) else
     bif decide (((y7 (zC c (zu c r (see c r.2.2.2.1 q)).1.2.2.2.2.2.1 (v,[],[who])).1 v []).2.2.length:Int)≥JE c) then
      (eC q (yv (zu c r (see c r.2.2.2.1 q)).1 (zC c (zu c r (see c r.2.2.2.1 q)).1.2.2.2.2.2.1 (v,[],[who])).1) (max (zu c r (see c r.2.2.2.1 q)).1.2.1 v),true)
     else (eC q (yv (zu c r (see c r.2.2.2.1 q)).1 (zC c (zu c r (see c r.2.2.2.1 q)).1.2.2.2.2.2.1 (v,[],[who])).1) (zu c r (see c r.2.2.2.1 q)).1.2.1,true))
    else (eC q (zu c r (see c r.2.2.2.1 q)).1 (zu c r (see c r.2.2.2.1 q)).1.2.1,true))
   else (eC q (zu c r (see c r.2.2.2.1 q)).1 (zu c r (see c r.2.2.2.1 q)).1.2.1,true))
 else (r,false)
theorem aff (a b:Int):yl (a,b,())=some (min a b,()):=by
 rw[pC];congr 2;split<;>omega
theorem aez (c:za) (r:zb) (v:Int) (q:zH) (who:Int) (hr:ze r<=2000000) (hq:zj q<=2000000):mN (c,r,v,q,who,())=some ((qZ c r v q who).1,(qZ c r v q who).2,()):=by
 have hs:zy r.2.2.2.1<=2000000:=by simp only[ze] at hr; omega
 have ajT:=NV c r.2.2.2.1 q;have hww:=kG c r (see c r.2.2.2.1 q);have hwt:zG (zu c r (see c r.2.2.2.1 q)).1.2.2.2.2.2.1<=100000000:=by simp only[ze] at *; omega
 have hp:=bm v who [];simp only[apS] at hp;have hta:=ex c (zu c r (see c r.2.2.2.1 q)).1.2.2.2.2.2.1 (v,[],[who]);unfold mN qZ;dsimp only;rw[Z5 r (by omega),Option.bind_some,YN c r (by omega),Option.bind_some,Y9,Option.bind_some,MG c q (by omega),Option.bind_some,Y9,Option.bind_some,Option.bind_some,uX c r.2.2.2.1 q (by omega) (by omega),Option.bind_some,d9 c r (see c r.2.2.2.1 q) (by omega) (by omega),Option.bind_some,N5,Option.bind_some,
  ni c (zu c r (see c r.2.2.2.1 q)).1.2.2.2.2.2.1 (v,[],[who]) hwt (by omega),Option.bind_some,u6 (zC c (zu c r (see c r.2.2.2.1 q)).1.2.2.2.2.2.1 (v,[],[who])).1 v [] (by omega),Option.bind_some,uV,Option.bind_some]
 cases hok:zf c r
 ·rfl
 cases (decide (v≥1) && decide (v<=60))
 ·rfl
 cases hqo:zW c q
 ·rfl
 cases (decide (who≥0) && decide (who<=wr (c.1 - 1)))
 ·rfl
 have hqv:0<=q.1/\q.1<=60:=by
  unfold zW at hqo;simp only[apO,aqi] at hqo;have:=bk hqo.2.1;omega
 have e1:wr (q.1+1)=q.1+1:=zg (by omega) (by omega);simp only[apT,apM,e1,aff,be,apL];cases (zu c r (see c r.2.2.2.1 q)).2
 ·rfl
 cases (yw c v==r.1)
 ·rfl
 cases decide (v≥r.2.1)
 ·rfl
 cases (zC c (zu c r (see c r.2.2.2.1 q)).1.2.2.2.2.2.1 (v,[],[who])).2
 ·rfl
 cases decide (((y7 (zC c (zu c r (see c r.2.2.2.1 q)).1.2.2.2.2.2.1 (v,[],[who])).1 v []).2.2.length:Int)≥JE c)<;>rfl
theorem pB {c:za} {w:zb} {q:zH} {v:Int} (h:zf c w=true) (hq:0<=q.1) (hv:1<=v/\v<=60):Kp c w (eC q w v):=Qx h (by omega)
theorem Xd {c:za} {r:zb} (h:zf c r=true) (v:Int) (q:zH) (who:Int):Kp c r (qZ c r v q who).1:=by
 have hv:=KK h;obtain⟨k1,k2⟩:=cw h (see c r.2.2.2.1 q);unfold qZ;rw[h];simp only[apT,apM];cases hvv:(decide (v≥1) && decide (v<=60))
 ·exact Kp.refl h
 simp only[apO,apY] at hvv;cases hqo:zW c q
 ·exact Kp.refl h
 have hqv:0<=q.1/\q.1<=60:=by
  unfold zW at hqo;simp only[apO,aqi] at hqo;have:=bk hqo.2.1;omega
 cases (decide (who≥0) && decide (who<=wr (c.1 - 1)))
 ·exact Kp.refl h
 simp only[apT,apM];cases (zu c r (see c r.2.2.2.1 q)).2
 ·exact Kp.refl h
 simp only[apN];have kw:=k1.trans (pB (q:=q) (v:=(zu c r (see c r.2.2.2.1 q)).1.2.1) k1.1 hqv.1 (by rw[k2]; exact hv))
 cases (yw c v==r.1)
 ·exact kw
 cases decide (v≥r.2.1)
 ·exact kw
 simp only[apN];cases ht:(zC c (zu c r (see c r.2.2.2.1 q)).1.2.2.2.2.2.1 (v,[],[who])).2
 ·exact Kp.refl h
 have kt:=k1.trans (Nv k1.1 (qh ht));simp only[apT,apM];cases decide (((y7 (zC c (zu c r (see c r.2.2.2.1 q)).1.2.2.2.2.2.1 (v,[],[who])).1 v []).2.2.length:Int)≥JE c)
 ·exact kt.trans (pB kt.1 hqv.1 (by rw[k2]; exact hv))
 ·exact kt.trans (pB kt.1 hqv.1 (by rw[k2]; omega))
def Zi (l:yb) (v:Int):yb:=l.filter λ p=>decide (p.1≥v)
noncomputable def Ls (p:zw) (l:zV):zw:=p.filter λ x=>(pay l x).2 != 2
theorem fz {α:Type} (q:α->Bool) {l:List α} {i:Nat} (hi:i<l.length):(l.drop i).filter q=(if q l[i]=true then [l[i]] else [])++(l.drop (i+1)).filter q:=by
 rw[aq7 hi,ar9];split<;>rfl
theorem aeZ (l:yb) (v:Int) (hl:zG l<=137438953472):nj (l,v,())=some (Zi l v,()):=by
 have hll:=bn l;unfold nj Zi;dsimp only;refine (walk l.length (λ i (s:yb)=>(s,i,())) (λ i s=>s.length<=i) (λ i s=>some (s++(l.drop i).filter (λ p=>decide (p.1≥v)),())) (by omega) ?_ ?_ (s0:=[]) (Nat.le_refl _)).trans (by simp)
 ·intro rec s hs;simp
 ·intro rec i s hi hs;have hx:l[i]?=some l[i]:=List.getElem?_eq_getElem hi;have hw:zn l[i]<=137438953472:=KV hl hx;right;simp only[zr hi,decide_true,cond_true,and_self,if_true,Int.toNat_natCast,zm (e:=Ys) hx,qa l[i] hw,Option.bind_some,zo (show i<4611686018427387904 by omega),fz (λ p:zO=>decide (p.1≥v)) hi];by_cases hq:l[i].1≥v
  ·simp only[hq,apR,apN,if_true];rw[if_pos (by simp only[apQ,apS]; omega)]
   exact⟨s++[l[i]],by simp only[apX,apQ,apS]; omega,rfl,by simp⟩
  ·simp only[hq,apU,apM,aqc,if_false];exact⟨s,by omega,rfl,by simp⟩
theorem aeK (p:zw) (l:zV) (hp:p.length<=137438953472) (h1:l.1.length<=137438953472) (h2:l.2.length<=137438953472):dN (p,l,())=some (Ls p l,()):=by
 unfold dN Ls;dsimp only;refine (walk p.length (λ i (s:zw)=>(s,i,())) (λ i s=>s.length<=i) (λ i s=>some (s++(p.drop i).filter (λ x=>(pay l x).2 != 2),())) (by omega) ?_ ?_ (s0:=[]) (Nat.le_refl _)).trans (by simp)
 ·intro rec s hs;simp
 ·intro rec i s hi hs;have hx:p[i]?=some p[i]:=List.getElem?_eq_getElem hi;right;simp only[zr hi,decide_true,cond_true,and_self,if_true,Int.toNat_natCast,zm (e:=jO) hx,uS l p[i] h1 h2,Option.bind_some,zo (show i<4611686018427387904 by omega),fz (λ x:zI=>(pay l x).2 != 2) hi];cases hq:((pay l p[i]).2 != 2)
  ·simp only[apM,aqc,if_false];exact⟨s,by omega,rfl,by simp⟩
  ·simp only[apN,if_true];rw[if_pos (by simp only[apQ,apS]; omega)]
   exact⟨s++[p[i]],by simp only[apX,apQ,apS]; omega,rfl,by simp⟩
theorem Up {α:Type} {ok:α->Bool} {lt:α->α->Bool} (ht:∀ a b d,lt a b=true->lt b d=true->lt a d=true):∀ {l:List α} {x y:α},yB ok lt (some y) l=true->lt x y=true->yB ok lt (some x) l=true
 | [],_,_,_,_=>rfl
 | z::l,x,y,h,hxy=>by
  simp only[yB,apO] at h ⊢;exact⟨h.1,ht _ _ _ hxy h.2.1,h.2.2⟩
theorem wz {α:Type} {ok:α->Bool} {lt:α->α->Bool}:∀ {l:List α} {p:Option α},yB ok lt p l=true->yB ok lt none l=true
 | [],_,_=>rfl
 | z::l,p,h=>by
  simp only[yB,apO] at h ⊢;exact⟨h.1,trivial,h.2.2⟩
theorem wx {α:Type} {ok:α->Bool} {lt:α->α->Bool} (ht:∀ a b d,lt a b=true->lt b d=true->lt a d=true) (q:α->Bool):∀ {l:List α} {p:Option α},yB ok lt p l=true->yB ok lt p (l.filter q)=true
 | [],_,_=>rfl
 | z::l,p,h=>by
  simp only[yB,apO] at h;have ih:=wx ht q h.2.2;rw[ar9];split
  ·simp only[yB,apO];exact⟨h.1,h.2.1,ih⟩
  ·cases p with
   | none=>exact wz ih
   | some y=>exact Up ht ih h.2.1
theorem wA {α:Type} {ok:α->Bool} {lt:α->α->Bool} (key:α->Int) (hk:∀ a b,lt a b=true->key a<=key b) (v:Int):∀ {l:List α} {p:Option α},yB ok lt p l=true->(∃ y,p=some y/\key y≥v)->l.filter (λ x=>decide (key x≥v))=l
 | [],_,_,_=>rfl
 | z::l,p,h,hp=>by
  obtain⟨y,rfl,hy⟩:=hp;simp only[yB,apO] at h;have:=hk _ _ h.2.1;have hz:key z≥v:=by omega
  rw[ar9,if_pos (by simpa using hz),wA key hk v h.2.2 ⟨z,rfl,hz⟩]
theorem ww {α:Type} {ok:α->Bool} {lt:α->α->Bool} (key:α->Int) (hk:∀ a b,lt a b=true->key a<=key b) (v:Int):∀ {l:List α} {p:Option α},yB ok lt p l=true->yB ok lt none (l.filter (λ x=>decide (key x≥v)))=true
 | [],_,_=>rfl
 | z::l,p,h=>by
  have h':=h;simp only[yB,apO] at h;rw[ar9];split
  ·next hz=>
   have hz:key z≥v:=by simpa using hz
   rw[wA key hk v h.2.2 ⟨z,rfl,hz⟩];exact wz h'
  ·exact ww key hk v h.2.2
theorem T6 (a b:zO) (h:jW a b=true):a.1<=b.1:=by
 unfold jW at h;simp only[aqE,apO,apY,aqi] at h;omega
theorem vq {c:za} {l:yb} (h:jN c l=true) (v:Int):jN c (Zi l v)=true:=by
 unfold jN Zi at *;simp only[apO,apY] at h ⊢;have hl:=List.length_filter_le (λ p:zO=>decide (p.1≥v)) l;exact⟨ww (λ p:zO=>p.1) T6 v h.1,by omega⟩
theorem T9 (a b d:zI) (h1:yd a b=true) (h2:yd b d=true):yd a d=true:=by
 unfold yd at *;simp only[aqE,apO,apY,aqi] at *;omega
theorem aam {p:zw} (h:jn p=true) (l:zV):jn (Ls p l)=true:=by
 unfold jn Ls at *;simp only[apO,apY] at h ⊢;have hl:=List.length_filter_le (λ x=>(pay l x).2 != 2) p;exact⟨wx T9 _ h.1,by omega⟩
noncomputable def y5 (c:za) (r:zb) (m:zt):zb×Bool:=
 bif m.1==1 then Jo c r m.2.2.1 else bif m.1==2 then J0 c r m.2.2.2.1 else bif m.1==3 then qZ c r m.2.1 m.2.2.2.2.1 m.2.2.2.2.2.1 else J1 c r m.2.2.2.2.2.2
noncomputable def swept (c:za) (r:zb):zb:=
 (r.1,r.2.1,r.2.2.1,r.2.2.2.1,Ls r.2.2.2.2.1 (state c (yv r (Zi r.2.2.2.2.2.1 (r.2.1 - 1)))),Zi r.2.2.2.2.2.1 (r.2.1 - 1),r.2.2.2.2.2.2)
noncomputable def M4 (c:za) (r:zb) (m:zt):zb×Bool:=
 bif !zf c r then (r,false) else bif !z7 c m then (r,false) else bif !(y5 c r m).2 then (r,false) else (swept c (y5 c r m).1,true)
theorem AD {c:za} {r:zb} (h:zf c r=true) (m:zt):Kp c r (y5 c r m).1:=by
 unfold y5;cases (m.1==1)
 ·cases (m.1==2)
  ·cases (m.1==3)
   ·exact AG h _
   ·exact Xd h _ _ _
  ·exact AE h _
 ·exact ka h _
theorem AJ {c:za} {r:zb} (h:zf c r=true):Kp c r (swept c r):=by
 obtain⟨h1,h2,h3,h4,h5,h6,h7,h8,h9,h10⟩:=JF h;have k:=nX h (vq h7 (r.2.1 - 1));unfold swept;generalize state c (yv r (Zi r.2.2.2.2.2.1 (r.2.1 - 1)))=l;exact⟨En (p:=r.2.2.2.2.1) k (aam h6 l),rfl⟩
theorem AF {c:za} {r:zb} (h:zf c r=true) (m:zt):Kp c r (M4 c r m).1:=by
 have k:=AD h m;unfold M4;rw[h];simp only[apT,apM];cases z7 c m
 ·exact Kp.refl h
 ·simp only[apT,apM];cases (y5 c r m).2
  ·exact Kp.refl h
  ·exact k.trans (AJ k.1)
theorem afb {c:za} {r:zb} {m:zt} (hr:zf c r=true) (hm:z7 c m=true):ny (c,r,m,())=some ((y5 c r m).1,(y5 c r m).2,()):=by
 have hw:=Zb hr;have hmw:=QD hm;have w1:zx m.2.2.1<=3847:=by simp only[zh] at hmw; omega
 have w2:zn m.2.2.2.1<=3847:=by simp only[zh] at hmw; omega
 have w3:zj m.2.2.2.2.1<=3847:=by simp only[zh] at hmw; omega
 unfold ny y5;dsimp only;rw[GC c r m.2.2.1 (by omega),aex c r m.2.2.2.1 (by omega) (by omega),aez c r m.2.1 m.2.2.2.2.1 m.2.2.2.2.2.1 (by omega) (by omega),aey c r m.2.2.2.2.2.2 (by omega)];cases (m.1==1)<;>cases (m.1==2)<;>cases (m.1==3)<;>rfl
theorem GD (c:za) (r:zb) (m:zt) (hr:ze r<=137438953472) (hm:zh m<=137438953472):LE (c,r,m,())=some ((M4 c r m).1,(M4 c r m).2,()):=by
 unfold LE M4;dsimp only;rw[YN c r hr,apL,Z5 r hr,aC c m hm,apL,apL];cases hok:zf c r
 ·rfl
 cases hmo:z7 c m
 ·rfl
 simp only[apT,apM];rw[afb hok hmo,apL];dsimp only;cases (y5 c r m).2
 ·rfl
 have k:=(AD hok m).1;obtain⟨h1,h2,h3,h4,h5,h6,h7,h8,h9,h10⟩:=JF k;have hw:=Zb k;have hkt:=Nv k (vq h7 ((y5 c r m).1.2.1 - 1));have hw2:=Zb hkt.1;have hsw:=G3 c (yv (y5 c r m).1 (Zi (y5 c r m).1.2.2.2.2.2.1 ((y5 c r m).1.2.1 - 1)));have ht:=ey h7;simp only[eD,zq] at hsw;have hpl:(y5 c r m).1.2.2.2.2.1.length<=260000:=by simp only[ze,Ko] at hw; omega
 simp only[apT,apM];rw[zg (n:=(y5 c r m).1.2.1 - 1) (by omega) (by omega),aeZ _ _ (by omega),apL];dsimp only;have es:dS (c,yv (y5 c r m).1 (Zi (y5 c r m).1.2.2.2.2.2.1 ((y5 c r m).1.2.1 - 1)),())=some (state c (yv (y5 c r m).1 (Zi (y5 c r m).1.2.2.2.2.2.1 ((y5 c r m).1.2.1 - 1))),()):=aeW c _ (by omega);have ep:dN ((y5 c r m).1.2.2.2.2.1,state c (yv (y5 c r m).1 (Zi (y5 c r m).1.2.2.2.2.2.1 ((y5 c r m).1.2.1 - 1))),())=some (Ls (y5 c r m).1.2.2.2.2.1 (state c (yv (y5 c r m).1 (Zi (y5 c r m).1.2.2.2.2.2.1 ((y5 c r m).1.2.1 - 1)))),()):=aeK _ _ (by omega) (by omega) (by omega);unfold yv at es ep;rw[es,apL,ep,apL];rfl
theorem ro {c:za} {i:Int} (h:zz c=true) (h0:0<=i) (h1:i<c.1):zf c (YY i)=true:=by
 unfold zf YY;simp only[h,FR h,jn,jN,yB,yC,apS,arv,art,aq3,apO,apY];omega
theorem bM {α:Type} (p:Nat->α->Bool):∀ (l:List α) (k:Nat),jz p k l=true↔∀ i (h:i<l.length),p (k+i) l[i]=true
 | [],k=>by simp[jz]
 | x::l,k=>by
  unfold jz;simp only[apO,bM p l (k+1)];constructor
  ·rintro⟨a,b⟩ i h;cases i with
   | zero=>exact a
   | succ i=>have:=b i (by simpa using h); simp only[List.getElem_cons_succ]; rw[show k+(i+1)=k+1+i by omega]; exact this
  ·intro hh;refine⟨hh 0 (by simp),λ i h => ?_⟩;have:=hh (i+1) (by simpa using h);simp only[List.getElem_cons_succ] at this;rw[show k+1+i=k+(i+1) by omega]; exact this
theorem aaA {c:za} {i:Int} (h:zz c=true) (h0:0<=i) (h1:i<c.1):YF c i=(YY i,true):=by
 unfold YF;rw[ro h h0 h1]; rfl
structure WI (w:zp):Prop where
 conf:zz w.1=true
 liars:w.2.1.length<=7/\∀ x∈w.2.1,0<=x/\x<w.1.1
 len:(w.2.2.1.length:Int)=w.1.1
 reps:∀ i (h:i<w.2.2.1.length),zf w.1 w.2.2.1[i]=true/\(w.2.2.1[i]).1=(i:Int)
 net:w.2.2.2.1.length<=60/\∀ x∈w.2.2.2.1,(0<=x.1/\x.1<w.1.1)/\x.2.length<=1000000
 said:w.2.2.2.2.length<=300/\∀ s∈w.2.2.2.2,(zB s.2.1=true/\zl s.2.1=s.1)/\(0<=s.2.2/\s.2.2<w.1.1)
theorem ky {c:za} (h:zz c=true):KD c=(List.range c.1.toNat).map (λ (i:Nat)=>YY (i:Int)):=by
 have hb:=zR h;unfold KD;rw[if_pos h];refine List.map_congr_left λ i hi => ?_;have:=List.mem_range.1 hi;rw[aaA h (by omega) (by omega)]
theorem aa1 {c:za} {liars:yZ} (h:zz c=true) (hl:liars.length<=7) (hm:∀ x∈liars,0<=x/\x<c.1):WI (yS c liars):=by
 have hb:=zR h;refine⟨h,⟨hl,hm⟩,?_,?_,⟨by simp[yS],by simp[yS]⟩,⟨by simp[yS],by simp[yS]⟩⟩
 ·simp only[yS,ky h,aqu,arc]; omega
 ·intro i hi;simp only[yS,ky h,aqu,arc] at hi;simp only[yS,ky h,List.getElem_map,List.getElem_range];exact⟨ro h (by omega) (by omega),rfl⟩
theorem WI.setRep {c:za} {l:yZ} {reps:Yc} {rest:y9×yJ} (h:WI (c,l,reps,rest)) {i:Nat} (hi:i<reps.length) {r:zb} (k:Kp c reps[i] r):WI (c,l,reps.set i r,rest):=by
 obtain⟨h1,h2,h3,h4,h5,h6⟩:=h;refine⟨h1,h2,?_,?_,h5,h6⟩
 ·dsimp only at h3 ⊢;rw[arn]; exact h3
 ·intro j hj;dsimp only at hj h4 ⊢;rw[arn] at hj;rw[List.getElem_set];by_cases e:i=j
  ·subst e;rw[if_pos rfl];exact⟨k.1,k.2.trans (h4 i hi).2⟩
  ·rw[if_neg e];exact h4 j hj
def Step (w:zp) (o o':Option (zp×Int×Unit)):Prop:=
 (∃ w',o=some (w',0,())/\WI w'/\has o'=false)∨(∃ n:Int,n≠0/\o=some (w,n,())/\o'=some (w,n,()))
theorem Step.same {w:zp} {n:Int} (hn:n≠0):Step w (some (w,n,())) (some (w,n,())):=.inr ⟨n,hn,rfl,rfl⟩
theorem Step.next {w w':zp} {o':Option (zp×Int×Unit)} (h:WI w') (ho:has o'=false):Step w (some (w',0,())) o':=.inl ⟨w',rfl,h,ho⟩
theorem Step.wrap {w:zp} {o o':Option (zp×Int×Unit)} (h:Step w o o'):Step w (o.bind λ r=>some (r.1,r.2.1,())) (o'.bind λ r=>some (r.1,r.2.1,())):=by
 rcases h with⟨w',rfl,h,k⟩|⟨n,hn,rfl,rfl⟩
 ·refine .inl ⟨w',rfl,h,?_⟩;cases o' with
  | none=>rfl
  | some r=>exact k
 ·exact .inr ⟨n,hn,rfl,rfl⟩
theorem WI.rep {c:za} {l:yZ} {reps:Yc} {rest:y9×yJ} (h:WI (c,l,reps,rest)) {i:Int} (h0:0<=i) (h1:i<(reps.length:Int)):∃ r,reps[i.toNat]?=some r/\zf c r=true/\ze r<=260000/\∀ r',Kp c r r'->WI (c,l,reps.set i.toNat r',rest):=by
 have hi:i.toNat<reps.length:=by omega
 have k:=(h.reps i.toNat hi).1;exact⟨reps[i.toNat],List.getElem?_eq_getElem hi,k,Zb k,λ r' kk=>h.setRep hi kk⟩
theorem g8 {c:za} {r:zb} (h:zf c r=true):Kp c r (r.1,r.2.1,r.2.1,r.2.2.2):=by
 refine⟨?_,rfl⟩;unfold zf at h ⊢;simp only[apO,apY] at h ⊢;exact⟨h.1,h.2.1,h.2.2.1,⟨by have:=h.2.2.1; omega,by have:=h.2.2.1; omega⟩,h.2.2.2.2⟩
theorem Xj {w:zp} (h:WI w) (i:Int) (h0:0<=i) (h1:i<(w.2.2.1.length:Int)):Step w (nB (w,i,())) (nC (w,i,())):=by
 obtain⟨c,l,reps,rest⟩:=w;obtain⟨r,hr,hok,hw,agh⟩:=h.rep h0 h1;have ha:=wm c r;have kt:=(g8 hok).trans (AK (g8 hok).1 (1,0,(ask c r).1,(0,[],[]),(0,[],[]),0,0,0,0,0));have hw2:=Zb kt.1;have hw1:=Zb (g8 hok).1;have kb:=kt.trans (ka kt.1 (ask c r).1);dsimp only at h1;unfold nB nC;simp only[h0,h1,apZ,if_true,zm (e:=YQ) hr,GA c r (by omega),apL];cases (ask c r).2
 ·exact Step.same (show (_:Int)≠0 from by first|exact (by decide:(3:Int)≠0)|exact (by decide:(4:Int)≠0))
 have e1:=af0 c (r.1,r.2.1,r.2.1,r.2.2.2) (1,0,(ask c r).1,(0,[],[]),(0,[],[]),0,0,0,0,0) (by omega) (by simp only[zh,zn,zj,zq,apS]; omega)
 have e2:=GC c (JO c (r.1,r.2.1,r.2.1,r.2.2.2) (1,0,(ask c r).1,(0,[],[]),(0,[],[]),0,0,0,0,0)).1 (ask c r).1 (by omega);simp only[apT,apM,Z5 r (by omega),apL,e1,e2];cases (JO c (r.1,r.2.1,r.2.1,r.2.2.2) (1,0,(ask c r).1,(0,[],[]),(0,[],[]),0,0,0,0,0)).2
 ·exact Step.same (show (_:Int)≠0 from by first|exact (by decide:(3:Int)≠0)|exact (by decide:(4:Int)≠0))
 cases (Jo c (JO c (r.1,r.2.1,r.2.1,r.2.2.2) (1,0,(ask c r).1,(0,[],[]),(0,[],[]),0,0,0,0,0)).1 (ask c r).1).2
 ·exact Step.same (show (_:Int)≠0 from by first|exact (by decide:(3:Int)≠0)|exact (by decide:(4:Int)≠0))
 exact Step.next (agh _ kb) rfl
end G448
namespace G448
open Ev
def bK (l:yJ) (v:YS):Bool:=l.any (λ x=>x.1==v.1 && (x.2.1==v.2.1 && x.2.2==v.2.2))
def J8 (acc:yJ) (x:YS):yJ:=bif decide ((acc.length:Int)<300) && !bK acc x then acc++[x] else acc
def cA (id:Int) (acc:yJ) (p:K1):yJ:=(Ze id p.2).foldl J8 acc
def learn (w:zp) (id:Int) (sent:jI):zp:=
 bif (yW w).any (· == id) then (w.1,w.2.1,w.2.2.1,w.2.2.2.1,sent.foldl (cA id) w.2.2.2.2) else w
theorem pU (acc:yJ) (x:YS) (h:acc.length<=137438953472):(J8 acc x).length<=137438953472:=by
 unfold J8;by_cases hc:(acc.length:Int)<300
 ·cases bK acc x<;>simp[hc]<;>omega
 ·simp[hc]; omega
theorem A0 (id:Int) (p:K1) (acc:yJ) (h:acc.length<=137438953472):(cA id acc p).length<=137438953472:=
 VB (Ze id p.2) J8 (λ _ s=>s.length<=137438953472) (λ _ s x _ _ hs=>pU s x hs) h
theorem aeC (w:zp) (id:Int) (sent:jI) (hw:yu w<=137438953472) (hs:ym sent<=137438953472):mP (w,id,sent,())=some (learn w id sent,()):=by
 have h1:w.2.1.length<=137438953472:=by simp only[yu,zq] at hw; omega
 have h2:w.2.2.1.length<=137438953472:=by simp only[yu,JQ] at hw; omega
 have h3:w.2.2.2.2.length<=137438953472:=by simp only[yu,JR] at hw; omega
 have h4:=xF w;have hl:sent.length<=137438953472:=by simp only[ym] at hs; omega
 unfold mP learn;simp only[GX w hw,GE w h1 h2,Y8 (yW w) id (by omega),apL];cases (yW w).any (· == id)
 ·rfl
 simp only[apT,apM,apN];refine (L4 (λ i (s:yJ)=>(i,(w.1,w.2.1,w.2.2.1,w.2.2.2.1,s),())) sent (cA id) (λ s=>some ((w.1,w.2.1,w.2.2.1,w.2.2.2.1,s),())) (by omega) (λ _ s=>s.length<=137438953472) ?_ ?_ h3)
 ·intro rec s hs'; simp
 ·intro rec i s p hx hi hs';refine⟨A0 id p s hs',?_⟩;have hp:zh p.2<=137438953472:=by have:=ZK Z7 (List.mem_of_getElem? hx); simp only[Z7] at this; unfold ym at hs; omega
  have hso:=FT id p.2;have hsl:(Ze id p.2).length<=137438953473:=by simp only[JR] at hso; omega
  simp only[apW,zr hi,apR,apN,if_true,apZ,zm (e:=(.pair .i64 (.pair .i64 (.pair .i64 (.pair (.pair .str (.pair .i64 (.pair .str (.sl 0 .i64)))) (.pair (.pair .i64 (.pair .str (.sl 0 .i64))) (.pair (.pair .i64 (.pair .str (.sl 0 .i64))) (.pair .i64 (.pair .i64 (.pair .i64 (.pair .i64 .i64))))))))))) hx,
   aeS id p.2 (MsgW.of (by omega)),apL,zo (show i<4611686018427387904 by omega)]
  refine L4 (λ j (s:yJ)=>(j,(w.1,w.2.1,w.2.2.1,w.2.2.2.1,s),())) (Ze id p.2) J8 (λ s=>rec ((i:Int)+1,(w.1,w.2.1,w.2.2.1,w.2.2.2.1,s),())) (by omega) (λ _ s=>s.length<=137438953472) ?_ ?_ hs'
  ·intro rec2 t ht; simp
  ·intro rec2 j t x hy hj ht;refine⟨pU t x ht,?_⟩;simp only[apW,zr hj,apR,apN,if_true,apZ,zm (e:=(.pair .i64 (.pair .str .i64))) hy,GW t x.1 x.2.1 x.2.2 (by omega),apL,zo (show j<4611686018427387904 by omega),apQ,apS];unfold J8 bK;by_cases hc:(t.length:Int)<300
   ·simp only[hc,apR,apN,aq3];cases t.any (λ y=>y.1==x.1 && (y.2.1==x.2.1 && y.2.2==x.2.2))
    ·simp only[aq9,apN];rw[if_pos (by omega)]
    ·rfl
   ·simp only[hc,apU,apM,aqp]
theorem V6 (w:zp) (id:Int) (sent:jI) (hw:yu w<=137438953472) (hs:ym sent<=137438953472):fY (w,id,sent,())=some (learn w id sent,()):=by
 have h1:w.2.1.length<=137438953472:=by simp only[yu,zq] at hw; omega
 have h2:w.2.2.1.length<=137438953472:=by simp only[yu,JQ] at hw; omega
 have h3:w.2.2.2.2.length<=137438953472:=by simp only[yu,JR] at hw; omega
 have h4:=xF w;have hl:sent.length<=137438953472:=by simp only[ym] at hs; omega
 unfold fY learn;simp only[Nq w hw,fV w h1 h2,Js (yW w) id (by omega),apL];cases (yW w).any (· == id)
 ·rfl
 simp only[apT,apM,apN];refine (L4 (λ i (s:yJ)=>(i,(w.1,w.2.1,w.2.2.1,w.2.2.2.1,s),())) sent (cA id) (λ s=>some ((w.1,w.2.1,w.2.2.1,w.2.2.2.1,s),())) (by omega) (λ _ s=>s.length<=137438953472) ?_ ?_ h3)
 ·intro rec s hs'; simp
 ·intro rec i s p hx hi hs';refine⟨A0 id p s hs',?_⟩;have hp:zh p.2<=137438953472:=by have:=ZK Z7 (List.mem_of_getElem? hx); simp only[Z7] at this; unfold ym at hs; omega
  have hso:=FT id p.2;have hsl:(Ze id p.2).length<=137438953473:=by simp only[JR] at hso; omega
  simp only[apW,zr hi,apR,apN,if_true,apZ,zm (e:=(.pair .i64 (.pair .i64 (.pair .i64 (.pair (.pair .str (.pair .i64 (.pair .str (.sl 0 .i64)))) (.pair (.pair .i64 (.pair .str (.sl 0 .i64))) (.pair (.pair .i64 (.pair .str (.sl 0 .i64))) (.pair .i64 (.pair .i64 (.pair .i64 (.pair .i64 .i64))))))))))) hx,
   xW id p.2 (MsgW.of (by omega)),apL,zo (show i<4611686018427387904 by omega)]
  refine L4 (λ j (s:yJ)=>(j,(w.1,w.2.1,w.2.2.1,w.2.2.2.1,s),())) (Ze id p.2) J8 (λ s=>rec ((i:Int)+1,(w.1,w.2.1,w.2.2.1,w.2.2.2.1,s),())) (by omega) (λ _ s=>s.length<=137438953472) ?_ ?_ hs'
  ·intro rec2 t ht; simp
  ·intro rec2 j t x hy hj ht;refine⟨pU t x ht,?_⟩;simp only[apW,zr hj,apR,apN,if_true,apZ,zm (e:=(.pair .i64 (.pair .str .i64))) hy,n9 t x (by omega),apL,zo (show j<4611686018427387904 by omega),apQ,apS];unfold J8 bK;cases t.any (λ y=>y.1==x.1 && (y.2.1==x.2.1 && y.2.2==x.2.2))
   ·simp only[aq9,apN,art];by_cases hc:(t.length:Int)<300
    ·simp only[hc,apR,apN];rw[if_pos (by omega)]
    ·simp only[hc,apU,apM]
   ·simp only[apT,apM,aqQ]
end G448
namespace G448
open Ev Go
set_option maxRecDepth 100000
theorem XF {c:za} {l:yZ} {reps:Yc} {rest:y9×yJ} {i:Int} {r:zb} (hok:zf c r=true) (hw:ze r<=260000) (agh:∀ r',Kp c r r'->WI (c,l,reps.set i.toNat r',rest)):
  Step (c,l,reps,rest) ((N1 (c,r,())).bind λ r6=>bif !r6.2.1 then some ((c,l,reps,rest),3,()) else some ((c,l,reps.set i.toNat r6.1,rest),0,())) ((N1 (c,r,())).bind λ r6=>bif !r6.2.1 then some ((c,l,reps,rest),3,()) else none):=by
 rw[aeB c r (by omega),apL,apL];dsimp only;cases (late c r).2
 ·exact Step.same (show (3:Int)≠0 by decide)
 ·exact Step.next (agh _ (AH hok)) rfl
theorem Vy {c:za} {l:yZ} {reps:Yc} {rest:y9×yJ} {i:Int} {r:zb} (keep:Int) (hok:zf c r=true) (hf:yC (Jk r.2.2.2.2.2.2.1 keep)=true) (agh:∀ r',Kp c r r'->WI (c,l,reps.set i.toNat r',rest)):
  WI (c,l,reps.set i.toNat (rise c (r.1,r.2.1,r.2.2.1,r.2.2.2.1,r.2.2.2.2.1,r.2.2.2.2.2.1,Jk r.2.2.2.2.2.2.1 keep,r.2.2.2.2.2.2.2)),rest):=by
 refine agh _ ?_;have h:zf c (r.1,r.2.1,r.2.2.1,r.2.2.2.1,r.2.2.2.2.1,r.2.2.2.2.2.1,Jk r.2.2.2.2.2.2.1 keep,r.2.2.2.2.2.2.2)=true:=by
  unfold zf at hok ⊢;simp only[apO] at hok ⊢;obtain⟨a1,a2,a3,a4,a5,a6,a7,a8,a9⟩:=hok;exact⟨a1,a2,a3,a4,a5,a6,a7,hf,a9⟩
 exact⟨(kc h).1,(kc h).2⟩
theorem VL {c:za} {l:yZ} {reps:Yc} {rest:y9×yJ} {i:Int} {r:zb} {m:zt} (hok:zf c r=true) (hw:ze r<=260000) (hm:zh m<=137438953472) (agh:∀ r',Kp c r r'->WI (c,l,reps.set i.toNat r',rest)):
  Step (c,l,reps,rest) ((LE (c,r,m,())).bind λ r7=>bif !r7.2.1 then some ((c,l,reps,rest),3,()) else bif m.1 != 4 then some ((c,l,reps,rest),3,()) else some ((c,l,reps.set i.toNat r7.1,rest),0,())) ((LE (c,r,m,())).bind λ r7=>bif !r7.2.1 then some ((c,l,reps,rest),3,()) else bif m.1 != 4 then some ((c,l,reps,rest),3,()) else none):=by
 rw[GD c r m (by omega) hm,apL,apL];dsimp only;cases (M4 c r m).2
 ·exact Step.same (show (3:Int)≠0 by decide)
 cases (m.1 != 4)
 ·exact Step.next (agh _ (AF hok m)) rfl
 ·exact Step.same (show (3:Int)≠0 by decide)
theorem w7 {d:yV} (h:yC d=true) (keep:Int):yC (Jk d keep)=true:=by
 have hb:=oV h keep;have h':=JV.1 h;unfold Jk;rw[if_pos h];refine JV.2 ?_;dsimp only;rw[aq4];omega
theorem BA {r:zb} (hw:ze r<=260000) {p:zO} (hp:p∈r.2.2.2.2.2.1):p.2.1.length<=260000:=by
 have h:=ZK zn hp;simp only[ze,zG] at hw;simp only[zn] at h;omega
theorem step_loop {w:zp} {G G':(Int×zp×zp×Unit->Option (zp×Int×Unit))->Int×zp×zp×Unit->Option (zp×Int×Unit)} {z:zp} (n0:Nat)
  (h0:∀ rec rec',Step w (G rec (-1,w,z,())) (G' rec' (-1,w,z,())))
  (hs:∀ rec rec' (j:Nat),j<n0->(Step w (rec ((j:Int) - 1,w,z,())) (rec' ((j:Int) - 1,w,z,())))->Step w (G rec ((j:Int),w,z,())) (G' rec' ((j:Int),w,z,()))):
  ∀ (n m:Nat),m<=n0->m<n->Step w (iter G n ((m:Int) - 1,w,z,())) (iter G' n ((m:Int) - 1,w,z,()))
 | 0,m,_,h=>by omega
 | n+1,0,_,_=>h0 _ _
 | n+1,m+1,hm,h=>by
  have e:(((m+1:Nat):Int) - 1)=(m:Int):=by omega
  rw[e];exact hs _ _ m (by omega) (step_loop n0 h0 hs n m (by omega) (by omega))
theorem Xt {w:zp} (h:WI w) (i:Int) (h0:0<=i) (h1:i<(w.2.2.1.length:Int)):Step w (nL (w,i,())) (nM (w,i,())):=by
 obtain⟨c,l,reps,rest⟩:=w;obtain⟨r,hr,hok,hw,agh⟩:=h.rep h0 h1;dsimp only at h1;have ht:(r.2.2.2.2.2.1.length:Int)<=260000:=by simp only[ze,zG] at hw; omega
 unfold nL nM;simp only[h0,h1,apZ,if_true,zm (e:=YQ) hr];rw[zg (n:=(r.2.2.2.2.2.1.length:Int) - 1) (by omega) (by omega)];refine step_loop r.2.2.2.2.2.1.length ?_ ?_ fuel _ (Nat.le_refl _) (by rw[Zn]; omega)
 ·intro rec rec';exact Step.same (show (3:Int)≠0 by decide)
 ·intro rec rec' j hj afU;have hx:=List.getElem?_eq_getElem hj;have hj':(j:Int)<(r.2.2.2.2.2.1.length:Int):=by omega
  have hn:=BA hw (List.getElem_mem hj);simp only[zr,hj',Int.natCast_nonneg,ge_iff_le,apR,apN,apZ,if_true,apW,zm (e:=Ys) hx];cases ((r.2.2.2.2.2.1[j]).2.1==[])
  ·simp only[cond_false,aer c r _ _ true (show ze r<=15000000 by omega) (show (r.2.2.2.2.2.1[j]).2.1.length<=5000000 by omega),Option.bind_some,h0,h1,and_self,if_true];cases (climb c r (r.2.2.2.2.2.1[j]).1 (r.2.2.2.2.2.1[j]).2.1 true).2
   ·exact Step.same (show (3:Int)≠0 by decide)
   ·exact Step.next (agh _ (g9 hok _ _ _)) rfl
  ·simp only[apN];rw[zg (n:=(j:Int) - 1) (by omega) (by omega)];exact afU
def qw (n:Int) (l:yJ):Prop:=l.length<=300/\∀ s∈l,(zB s.2.1=true/\zl s.2.1=s.1)/\(0<=s.2.2/\s.2.2<n)
theorem XI {n:Int} {acc:yJ} {x:YS} (h:qw n acc) (hx:(zB x.2.1=true/\zl x.2.1=x.1)/\(0<=x.2.2/\x.2.2<n)):qw n (J8 acc x):=by
 unfold J8;cases hc:decide ((acc.length:Int)<300) && !bK acc x
 ·exact h
 ·simp only[apO,apY] at hc;refine⟨by simp only[apN,apX,apQ,apS]; omega,λ s hs => ?_⟩
  simp only[apN,aqd,aqb,aqM,or_false] at hs;rcases hs with hs|rfl
  ·exact h.2 s hs
  ·exact hx
theorem adq {id:Int} {m:zt}:∀ s∈Ze id m,s.2.2=id:=by
 unfold Ze;repeat' split
 all_goals simp
theorem lE {c:za} {q:zH} (h:zW c q=true):zB q.2.1=true/\zl q.2.1=q.1:=by
 unfold zW at h;simp only[apO,aqi] at h;exact⟨h.2.1,h.2.2.1⟩
theorem adr {c:za} {m:zt} (hm:z7 c m=true) (h4:¬ m.1=4) (h:¬ (Y6 m).2.1=[]):zB (Y6 m).2.1=true/\zl (Y6 m).2.1=(Y6 m).1:=by
 unfold z7 at hm;unfold Y6 at h ⊢;simp only[apO] at hm;have k:=hm.2.2;clear hm;by_cases e2:m.1=2
 ·have e1:(m.1==1)=false:=by rw[e2]; rfl
  have e22:(m.1==2)=true:=by rw[e2]; rfl
  rw[e1,e22] at k;rw[if_pos e2] at h ⊢;simp only[apN,apM,apO,ji,aqE,aqi] at k;rcases k.1.2.2.2.2 with e|e
  ·exact absurd e h
  ·exact e
 by_cases e1:m.1=1
 ·have e11:(m.1==1)=true:=by rw[e1]; rfl
  rw[e11] at k;rw[if_neg e2,if_pos e1] at h ⊢;simp only[apN,js,apO] at k;exact lE k.1
 rw[if_neg e2,if_neg e1] at h ⊢;have e11:(m.1==1)=false:=by simp[e1]
 have e22:(m.1==2)=false:=by simp[e2]
 have e44:(m.1==4)=false:=by simp[h4]
 rw[e11,e22,e44] at k;cases e33:(m.1==3)
 ·rw[e33] at k; simp at k
 ·rw[e33] at k;simp only[apN,apM,apO] at k;exact lE k.2.1
theorem adp {c:za} {id:Int} {m:zt} (hm:z7 c m=true):∀ s∈Ze id m,zB s.2.1=true/\zl s.2.1=s.1:=by
 unfold Ze;by_cases h4:m.1=4
 ·simp[h4]
 rw[if_neg h4];by_cases h:(Y6 m).2.1=[]
 ·simp[h]
 rw[if_neg h];have k:=adr hm h4 h;split
 ·intro s hs;simp only[aqb,aqM,or_false] at hs;rw[hs]; exact k
 ·simp
theorem AZ {n:Int}:∀ (l:yJ) {acc:yJ},qw n acc->(∀ x∈l,(zB x.2.1=true/\zl x.2.1=x.1)/\(0<=x.2.2/\x.2.2<n))->qw n (l.foldl J8 acc)
 | [],_,h,_=>h
 | x::l,_,h,hl=>AZ l (XI h (hl x (by simp))) λ y hy=>hl y (by simp[hy])
theorem A1 {c:za} {n:Int} {id:Int} (hid:0<=id/\id<n):∀ (ps:jI) {acc:yJ},qw n acc->(∀ p∈ps,z7 c p.2=true)->qw n (ps.foldl (cA id) acc)
 | [],_,h,_=>h
 | p::ps,_,h,hp=>by
  refine A1 hid ps ?_ λ q hq=>hp q (by simp[hq]);refine AZ _ h λ x hx=>⟨adp (hp p (by simp)) x hx,?_⟩
  rw[adq x hx]; exact hid
theorem A2 {w:zp} (h:WI w) {id:Int} (hid:0<=id/\id<w.1.1) {ps:jI} (hp:∀ p∈ps,z7 w.1 p.2=true):WI (learn w id ps):=by
 unfold learn;cases (yW w).any (· == id)
 ·exact h
 ·exact⟨h.conf,h.liars,h.len,h.reps,h.net,A1 hid ps h.said hp⟩
def Je (n:Int) (l:y9):Prop:=l.length<=60/\∀ x∈l,(0<=x.1/\x.1<n)/\x.2.length<=1000000
theorem adw {c:za} (hc:zz c=true) {ws:y9} {p:K1} (h:Je c.1 ws) (hp:zh p.2<=100000):Je c.1 (Kg c ws p):=by
 have hb:=zR hc;have hl:=kv c p.2;unfold Kg;rw[zg (n:=c.1 - 1) (by omega) (by omega)];cases decide (((jS c p.2).length:Int)>0)
 ·exact h
 cases hr:decide (p.1≥0) && decide (p.1<=c.1 - 1)
 ·exact h
 cases hs:decide ((ws.length:Int)<60)
 ·exact h
 simp only[apO,apY] at hr hs;refine⟨by simp only[apN,apX,apQ,apS]; omega,λ x hx => ?_⟩
 simp only[apN,aqd,aqb,aqM,or_false] at hx;rcases hx with hx|rfl
 ·exact h.2 x hx
 ·exact⟨⟨by omega,by dsimp only; omega⟩,by dsimp only; omega⟩
theorem FV {c:za} (hc:zz c=true):∀ (ps:jI) {ws:y9},Je c.1 ws->(∀ p∈ps,zh p.2<=100000)->Je c.1 (KN c ws ps)
 | [],_,h,_=>h
 | p::ps,_,h,hp=>FV hc ps (adw hc h (hp p (by simp))) λ q hq=>hp q (by simp[hq])
theorem FX {w:zp} (h:WI w) {ps:jI} (hp:∀ p∈ps,zh p.2<=100000):WI (w.1,w.2.1,w.2.2.1,KN w.1 w.2.2.2.1 ps,w.2.2.2.2):=
 ⟨h.conf,h.liars,h.len,h.reps,FV h.conf ps h.net hp,h.said⟩
theorem Ia {c:za} {r:zb} (hok:zf c r=true):((∀ p∈(yH c r).2,zh p.2<=100000)/\∀ p∈(yH c r).2,z7 c p.2=true)/\(yH c r).2.length<=30/\ym (yH c r).2<=260000:=by
 obtain⟨h1,h2,h3,h4,h5,h6,h7,h8,h9,h10⟩:=JF hok;have hw:=Zb hok;have hs:=(afj c r).2;refine⟨?_,?_,by omega⟩
 ·unfold yH;rw[hok];have key:∀ p∈r.2.2.2.2.2.2.2,z7 c p.2=true:=λ p hp=>by
   have hk:=h10 p hp;unfold ZO at hk;simp only[apO] at hk;exact hk.1
  exact⟨λ p hp=>by have:=QD (key p hp); omega,key⟩
 ·unfold yH;rw[hok]; exact h9
theorem WI.w_le {w:zp} (h:WI w):yu w<=137438953472:=by
 have hb:=zR h.conf;have key:∀ {α:Type} (f:α->Nat) (N:Nat) (l:List α),(∀ x∈l,f x<=N)->(l.map f).sum<=l.length*N:=by
  intro α f N l;induction l with
  | nil=>intro _; simp
  | cons x l ih=>
   intro hx;have a:=hx x (by simp);have b:=ih λ y hy=>hx y (by simp[hy]);simp only[aq5,aqo,apQ,aqk];omega
 have hl:=h.len;have r1:=key ze 260000 w.2.2.1 λ x hx=>by
  obtain⟨i,hi,rfl⟩:=List.getElem_of_mem hx;exact Zb (h.reps i hi).1
 have r2:=key Z8 1000000 w.2.2.2.1 λ x hx=>(h.net.2 x hx).2;have r3:=key MP 1000000 w.2.2.2.2 λ x hx=>by have:=Mk (h.said.2 x hx).1.1; simp only[MP]; omega
 have e1:w.2.2.1.length*260000<=7*260000:=Nat.mul_le_mul_right _ (by omega);have e2:w.2.2.2.1.length*1000000<=60*1000000:=Nat.mul_le_mul_right _ h.net.1;have e3:w.2.2.2.2.length*1000000<=300*1000000:=Nat.mul_le_mul_right _ h.said.1;have:=h.liars.1; have:=h.net.1; have:=h.said.1
 simp only[yu,zq,JQ,Z9,JR];omega
theorem Xu {w:zp} (h:WI w) (i:Int) (h0:0<=i) (h1:i<(w.2.2.1.length:Int)):Step w (nN (w,i,())) (nO (w,i,())):=by
 obtain⟨c,l,reps,net,said⟩:=w;obtain⟨r,hr,hok,hw,agh⟩:=h.rep h0 h1;obtain⟨p1,p2,p3⟩:=Ia hok;have hn:=h.net.1;have hd:=h.said.1;have hlen:=h.len;dsimp only at h1 hn hd hlen;have hW:=agh _ (AI hok);have hL:=A2 hW (id:=i) (by dsimp only; omega) (ps:=(yH c r).2) p1.2
 have hS:=FX hL (ps:=(yH c r).2) p1.1;unfold nN nO;simp only[h0,h1,apZ,if_true,zm (e:=YQ) hr,aeX c r (by omega),apL];cases decide (wr ((net.length:Int)+((yH c r).2.length:Int))>60);case true=>exact Step.same (show (4:Int)≠0 by decide)
 cases decide (wr ((said.length:Int)+((yH c r).2.length:Int))>300);case true=>exact Step.same (show (4:Int)≠0 by decide)
 simp only[apM,h0,h1,apZ,if_true];rw[aeC _ i _ hW.w_le (by omega),apL];dsimp only;rw[GY _ _ (by omega),apL];exact Step.next hS rfl
theorem Xr {w:zp} (h:WI w) (d:Zl) (h0:0<=d.2.1) (h1:d.2.1<(w.2.2.1.length:Int)) (hm:zh d.2.2.2<=137438953472):Step w (nI (w,d,())) (nJ (w,d,())):=by
 have hA:=Xj h d.2.1 h0 h1;have hB:=Xu h d.2.1 h0 h1;have hC:=Xt h d.2.1 h0 h1;obtain⟨c,l,reps,rest⟩:=w;obtain⟨r,hr,hok,hw,agh⟩:=h.rep h0 h1;have ajw:=(JF hok).2.2.2.2.2.2.2.1;have hf:=w7 ajw d.2.2.1;have hW:=Vy (i:=d.2.1) d.2.2.1 hok hf agh;dsimp only at h1;unfold nI nJ;simp only[h0,h1,apZ,if_true,zm (e:=YQ) hr];cases d.1==1;case true=>exact hA.wrap
 cases d.1==2;case true=>exact hB.wrap
 cases d.1==6;case true=>exact hC.wrap
 simp only[apM];cases d.1==8;case true=>
  have hd:=JV.1 ajw;have hd2:=JV.1 hf;have hwr:ze (r.1,r.2.1,r.2.2.1,r.2.2.2.1,r.2.2.2.2.1,r.2.2.2.2.2.1,Jk r.2.2.2.2.2.2.1 d.2.2.1,r.2.2.2.2.2.2.2)<=1073741824:=by
   simp only[ze,KU] at hw ⊢;omega
  simp only[apN,Z5 r (by omega),aeu _ _ (show r.2.2.2.2.2.2.1.1.length<=17592186044416 by omega),apL,aeO c _ hwr];exact Step.next hW rfl
 simp only[apM];cases d.1==7;case true=>exact XF hok hw agh
 exact VL hok hw hm agh
theorem Xo {w:zp} (h:WI w) (d:Zl) (hm:zh d.2.2.2<=137438953472):Step w (nF (w,d,())) (nG (w,d,())):=by
 have hl:=h.liars.1;have hs:=h.said.1;unfold nF nG;simp only[Y9,apL,aeE w.1 w.2.1 w.2.2.2.2 d.2.2.2 (show zh d.2.2.2<=137438953472 by omega) (by omega) (by omega)];cases (decide (d.2.1≥0) && decide (d.2.1<=wr (w.1.1 - 1)))
 ·exact Step.same (show (2:Int)≠0 by decide)
 cases hml:QB w.1 w.2.1 w.2.2.2.2 d.2.2.2
 ·exact Step.same (show (5:Int)≠0 by decide)
 have hk:zh d.2.2.2<=3847:=by
  unfold QB at hml;simp only[apO] at hml;exact QD hml.1
 have hS:=FX h (ps:=[(d.2.1,d.2.2.2)]) λ p hp=>by
  simp only[aqb,aqM,or_false] at hp;rw[hp]; dsimp only; omega
 cases decide ((w.2.2.2.1.length:Int)≥60);case true=>exact Step.same (show (4:Int)≠0 by decide)
 simp only[apT,apM];rw[GY w _ (show ym [(d.2.1,d.2.2.2)]<=1073741824 by simp only[ym,Z7,aq5,aqr,aqo,aru,apQ,apS]; omega),Option.bind_some]
 exact Step.next hS rfl
theorem U1 {n:Int} {net:y9} (h:Je n net) (i:Nat) (hi:i<net.length):Je n ([]++(net.drop 0).take i++(net.drop (i+1)).take (net.length - (i+1))):=by
 refine⟨?_,λ x hx => ?_⟩
 ·have:=h.1;simp only[aqf,aq8,apX,aq4,aqa];omega
 ·simp only[aqf,aq8,aqd] at hx;rcases hx with hx|hx
  ·exact h.2 x (List.mem_of_mem_take hx)
  ·exact h.2 x (List.mem_of_mem_drop (List.mem_of_mem_take hx))
theorem Va {n:Int} {net:y9} (h:Je n net) (hl:net.length<60) {x:qz} (hx:x∈net):Je n (net++[(x.1,[]++x.2)]):=by
 refine⟨by simp only[apX,apQ,apS]; omega,λ y hy => ?_⟩
 simp only[aqd,aqb,aqM,or_false] at hy;rcases hy with hy|rfl
 ·exact h.2 y hy
 ·exact h.2 x hx
theorem WI.withNet {c:za} {l:yZ} {reps:Yc} {net net':y9} {said:yJ} (h:WI (c,l,reps,net,said)) (hn:Je c.1 net'):WI (c,l,reps,net',said):=
 ⟨h.conf,h.liars,h.len,h.reps,hn,h.said⟩
theorem xG {w:zp} (hl:(w.2.2.1.length:Int)=w.1.1) {x:Int} (hx:(yW w).any (· == x)=true):0<=x/\x<(w.2.2.1.length:Int):=by
 unfold yW at hx;simp at hx;omega
theorem Xp {w:zp} (h:WI w) (d:Zl):Step w (ba (w,d,())) (bd (w,d,())):=by
 obtain⟨c,l,reps,net,said⟩:=w;have hn:=h.net;have hlen:=h.len;have hl:=h.liars.1;have hb:=zR h.conf;dsimp only at hn hlen hl hb;unfold ba bd;dsimp only;rw[zg (n:=(net.length:Int) - 1) (by omega) (by omega),Y9];simp only[apL];cases hin:decide (d.2.1≥0) && decide (d.2.1<=(net.length:Int) - 1)
 ·exact Step.same (show (2:Int)≠0 by decide)
 simp only[apO,apY] at hin;have h0:0<=d.2.1:=hin.1;have h1:d.2.1<(net.length:Int):=by omega
 have hi:d.2.1.toNat<net.length:=by omega
 have hx:=List.getElem?_eq_getElem hi;have ahD:=List.getElem_mem hi;generalize net[d.2.1.toNat]=x at hx ahD;have hxb:=hn.2 x ahD;have h2:d.2.1<=(net.length:Int):=by omega
 simp only[apT,apM,h0,h1,apZ,if_true,zm (e:=bw) hx];cases d.1==5;case true=>
  simp only[apN];cases h60:decide ((net.length:Int)≥60);case true=>exact Step.same (show (4:Int)≠0 by decide)
  simp only[ara] at h60;have e1:(0+x.2.length)*1<=70368744177664:=by omega
  have e2:(net.length+List.length [(x.1,[]++x.2)])*32<=70368744177664:=by simp only[apQ,apS]; omega
  simp only[apM,e1,e2,if_true];exact Step.next (h.withNet (Va hn (by omega) ahD)) rfl
 have alV:=U1 hn d.2.1.toNat hi;have hw1:wr (d.2.1+1)=d.2.1+1:=zg (by omega) (by omega);have et:(d.2.1+1).toNat=d.2.1.toNat+1:=by omega
 have e3:0<=d.2.1+1/\d.2.1+1<=(net.length:Int)/\(net.length:Int)<=(net.length:Int):=⟨by omega,by omega,Int.le_refl _⟩
 have e4:(0+List.length (List.take (d.2.1.toNat - Int.toNat 0) (List.drop (Int.toNat 0) net)))*32<=70368744177664:=by
  have:=List.length_take_le (d.2.1.toNat - Int.toNat 0) (List.drop (Int.toNat 0) net); omega
 have e5:(List.length ([]++List.take (d.2.1.toNat - Int.toNat 0) (List.drop (Int.toNat 0) net))+List.length (List.take (Int.toNat (net.length:Int) - (d.2.1.toNat+1)) (List.drop (d.2.1.toNat+1) net)))*32<=70368744177664:=by
  have a1:=List.length_take_le (d.2.1.toNat - Int.toNat 0) (List.drop (Int.toNat 0) net);have a2:=List.length_take_le (Int.toNat (net.length:Int) - (d.2.1.toNat+1)) (List.drop (d.2.1.toNat+1) net);simp only[aqf];omega
 simp only[apM,hw1,et,e4,e5,h0,h2,e3,arb,apZ,if_true,true_and];have alW:Je c.1 ([]++List.take (d.2.1.toNat - Int.toNat 0) (List.drop (Int.toNat 0) net)++List.take (Int.toNat (net.length:Int) - (d.2.1.toNat+1)) (List.drop (d.2.1.toNat+1) net)):=alV;clear alV;generalize []++List.take (d.2.1.toNat - Int.toNat 0) (List.drop (Int.toNat 0) net)++List.take (Int.toNat (net.length:Int) - (d.2.1.toNat+1)) (List.drop (d.2.1.toNat+1) net)=net' at alW;have hW:=h.withNet alW;cases d.1==3
 ·exact Step.next hW rfl
 rw[Y8 l x.1 (by omega),apL,apL];dsimp only;cases l.any (· == x.1);case true=>exact Step.next hW rfl
 have x0:0<=x.1:=hxb.1.1;have x1:x.1<(reps.length:Int):=by omega
 obtain⟨r,hr,hok,hw,agh⟩:=hW.rep x0 x1;have hm:=Bc c x.2 (by omega);simp only[apN,aq9,GH c x.2 (by omega),apL,x0,x1,apZ,if_true,zm (e:=YQ) hr,GD c r (jY c x.2).1 (by omega) (show zh (jY c x.2).1<=137438953472 by omega)];cases (M4 c r (jY c x.2).1).2
 ·exact Step.next hW rfl
 ·exact Step.next (agh _ (AF hok _)) rfl
theorem Xq {w:zp} (h:WI w) (d:Zl) (hm:zh d.2.2.2<=137438953472):Step w (nH (w,d,())) (eo (w,d,())):=by
 have hN:=Xp h d;have hL:=Xo h d hm;have hl:=h.liars.1;have hlen:=h.len;have hb:=zR h.conf;have hhl:(yW w).length<=w.2.2.1.length:=by
  unfold yW;rw[aqu];have:=List.length_filter_le (λ (i:Nat) => !(w.2.1.any (· == (i:Int)))) (List.range w.2.2.1.length);rw[arc] at this;exact this
 unfold nH eo;dsimp only;cases d.1==3;case true=>exact hN.wrap
 cases d.1==4;case true=>exact hN.wrap
 cases d.1==5;case true=>exact hN.wrap
 cases d.1==10;case true=>exact hL.wrap
 simp only[apM];rw[GE w (by omega) (by omega),apL,apL];dsimp only;rw[Y8 (yW w) d.2.1 (by omega),apL,apL];dsimp only;cases hh:(yW w).any (· == d.2.1)
 ·exact Step.same (show (2:Int)≠0 by decide)
 have hr:=xG hlen hh;exact (Xr h d hr.1 hr.2 hm).wrap
theorem Xs {w:zp} (h:WI w) (d:Zl) (hm:zh d.2.2.2<=137438953472):Ens (nK (w,d,())) λ r=>WI r.1:=by
 unfold nK;dsimp only;rcases Xq h d hm with⟨w',e,k,e'⟩|⟨n,hn,e,e'⟩
 ·rw[e',e];exact Ens.some k
 ·rw[e',e];have:(n != 0)=true:=by simp[hn]
  simp only[has,L7,apL,this,apN];exact Ens.some h
theorem aa2 {c:za} {liars:yZ} (h:zz c=true) (hl:jK c.1 liars=true) (hf:(liars.length:Int)<=Yv c):jf (yS c liars)=true:=by
 have hb:=zR h;unfold jf yS;simp only[h,hl,hf,ky h,aqu,arc,apS,jz,apO,apY,aqi,and_true,true_and];refine⟨by omega,by omega,by omega,(bM _ _ 0).2 λ i hi => ?_⟩;simp only[aqu,arc] at hi;simp only[List.getElem_map,List.getElem_range,Lz,apO,aqi];refine⟨ro h (by omega) (by omega),?_⟩;simp only[YY,aqA]
theorem G2 {c:za} {liars:yZ} (h:zz c=true) (hl:jK c.1 liars=true) (hf:(liars.length:Int)<=Yv c):(Zr c liars).1=yS c liars/\WI (yS c liars):=by
 have hb:=zR h;refine⟨?_,aa1 h ?_ (uI hl)⟩
 ·unfold Zr;rw[aa2 h hl hf]; rfl
 ·have:Yv c<=7:=by
   unfold Yv;rw[if_pos h]; omega
  omega
theorem Xm (c:jV) (hc:Zs c):Ens (nE (c,())) λ r=>0<=r.1.2.1/\WI r.2.1:=by
 unfold nE;refine (pD c _ hc (by simp)).bind λ r0 h0 => ?_;refine (j8 (c.1,r0.1.2) 3 ⟨hc.1,h0.1⟩).bind λ r1 h1 => ?_;refine (ke (c.1,r1.1.2) 3 ⟨hc.1,h1.1⟩).bind λ r2 h2 => ?_;have a1:=h1.2.2 (by decide);have hN:4<=r0.2.1/\r0.2.1<=7:=by
  have:=h0.2;simp only[aqb,aqM,or_false] at this;omega
 rw[zg (n:=1+r1.2.1) (by omega) (by omega)];have akR:zz (r0.2.1,1+r1.2.1)=true:=by
  unfold zz;simp only[apO,apY];omega
 have hfa:(1:Int)<=Yv (r0.2.1,1+r1.2.1):=by
  unfold Yv;rw[if_pos akR];dsimp only; omega
 refine Ens.cond (λ _ => ?_) λ _ => ?_
 ·refine (j8 (c.1,r2.1.2) r0.2.1 ⟨hc.1,h2⟩).bind λ r3 h3 => ?_;have a3:=h3.2.2 (by omega);have hs:jK (r0.2.1,1+r1.2.1).1 [r3.2.1]=true:=by
   unfold jK;simp only[YK,art,apO,aqD,ara];omega
  have k:=G2 akR hs (by simpa using hfa);rw[u7 _ _ (by simp),apL,k.1];exact Ens.some ⟨h3.1,k.2⟩
 ·have k:=G2 (liars:=[]) akR rfl (by simp only[apS]; omega)
  rw[u7 _ _ (by simp),apL,k.1];exact Ens.some ⟨h2,k.2⟩
def om (r:jV×zt×Unit):Prop:=0<=r.1.2.1/\zh r.2.1<=4000/\(0<=r.2.1.2.2.2.1.1/\r.2.1.2.2.2.1.1<=60)/\zB r.2.1.2.2.2.1.2.1=true/\r.2.1.2.2.2.1.2.2.length<=400
theorem vI (cur:jV) (liars:yZ) (said:yJ) (view:Int) (name:List UInt8) (hc:0<=cur.2.1) (hl:liars.length<=7) (hs:said.length<=300) (hv:0<=view/\view<=60) (hn:zB name=true):
  Ens (iter (λ rec7 (x7:List Int×Int×Unit)=>bif decide (x7.2.1<(said.length:Int)) then if 0<=x7.2.1/\x7.2.1<(said.length:Int) then bif (rd MR said x7.2.1.toNat).1==view then if 0<=x7.2.1/\x7.2.1<(said.length:Int) then bif (rd MR said x7.2.1.toNat).2.1==name then if 0<=x7.2.1/\x7.2.1<(said.length:Int) then (LI (x7.1,(rd MR said x7.2.1.toNat).2.2,())).bind λ r8=>rec7 (r8.1,wr (x7.2.1+1),()) else none else rec7 (x7.1,wr (x7.2.1+1),()) else none else rec7 (x7.1,wr (x7.2.1+1),()) else none else some ((cur,((2,0,([],0,[],[]),(view,name,x7.1),(0,[],[]),0,0,0,0,0):zt),()):jV×zt×Unit)) fuel ([]++liars,0,())) om:=by
 refine Ens.loop (λ x=>(0<=x.2.1/\x.2.1<=(said.length:Int))/\(x.1.length:Int)<=7+x.2.1) (λ x=>((said.length:Int) - x.2.1).toNat) ?_ ⟨by simp,by simp; omega⟩ (by dsimp only; rw[Zn]; omega)
 intro rec x hx afU;obtain⟨x1,x2⟩:=hx;refine Ens.cond (λ h => ?_) λ h => ?_
 ·have h:x.2.1<(said.length:Int):=by simpa using h
  have e1:wr (x.2.1+1)=x.2.1+1:=zg (by omega) (by omega);rw[e1];have hno:Ens (rec (x.1,x.2.1+1,())) om:=afU _ ⟨⟨by dsimp only; omega,by dsimp only; omega⟩,by dsimp only; omega⟩ (by dsimp only; omega)
  refine Ens.ite ⟨x1.1,h⟩ (Ens.cond (λ _ => ?_) λ _=>hno);refine Ens.ite ⟨x1.1,h⟩ (Ens.cond (λ _ => ?_) λ _=>hno);refine Ens.ite ⟨x1.1,h⟩ ?_;have hl:=uB x.1 (rd MR said x.2.1.toNat).2.2;rw[uY x.1 _ (by omega),apL];exact afU _ ⟨⟨by dsimp only; omega,by dsimp only; omega⟩,by dsimp only; omega⟩ (by dsimp only; omega)
 ·have hnl:=Mk hn;refine Ens.some ⟨hc,?_,hv,hn,by dsimp only; omega⟩
  simp only[zh,zx,zj,zn,zq,apS];omega
theorem Xn (c:jV) {w:zp} (hc:Zs c) (h:WI w):Ens (ej (c,w,())) om:=by
 have hl:=h.liars.1;have hs:=h.said.1;unfold ej;dsimp only;refine (j8 c 4 hc).bind λ r0 h0 => ?_;have a0:=h0.2.2 (by decide);rw[zg (n:=1+r0.2.1) (by omega) (by omega),uR [] _ [] (by simp) (by omega) (by simp),Option.bind_some];refine Ens.ite (by omega) (Ens.cond (λ hp => ?_) λ _=>vI (c.1,r0.1.2) w.2.1 w.2.2.2.2 _ _ h0.1 hl hs (by omega) (Bf _ _ _));have hp:(w.2.2.2.2.length:Int)>0:=by simpa using hp
 have ajJ:yl ((w.2.2.2.2.length:Int),8,())=some (if (w.2.2.2.2.length:Int)<8 then (w.2.2.2.2.length:Int) else 8,()):=by
  unfold yl;by_cases e:(w.2.2.2.2.length:Int)<8<;>simp[e]
 rw[ajJ,apL];have hmb:0<(if (w.2.2.2.2.length:Int)<8 then (w.2.2.2.2.length:Int) else 8)/\(if (w.2.2.2.2.length:Int)<8 then (w.2.2.2.2.length:Int) else 8)<=(w.2.2.2.2.length:Int):=by
  split<;>omega
 generalize (if (w.2.2.2.2.length:Int)<8 then (w.2.2.2.2.length:Int) else 8)=n at hmb;refine (j8 (c.1,r0.1.2) n ⟨hc.1,h0.1⟩).bind λ r3 h3 => ?_;have a3:=h3.2.2 hmb.1;have e1:wr ((w.2.2.2.2.length:Int) - 1)=(w.2.2.2.2.length:Int) - 1:=zg (by omega) (by omega);have e2:wr ((w.2.2.2.2.length:Int) - 1 - r3.2.1)=(w.2.2.2.2.length:Int) - 1 - r3.2.1:=zg (by omega) (by omega);rw[e1,e2];refine Ens.ite (by omega) ?_;have hi:((w.2.2.2.2.length:Int) - 1 - r3.2.1).toNat<w.2.2.2.2.length:=by omega
 have hx:=List.getElem?_eq_getElem hi;have ahD:=List.getElem_mem hi;generalize w.2.2.2.2[((w.2.2.2.2.length:Int) - 1 - r3.2.1).toNat]=x at hx ahD;have hxb:=(h.said.2 x ahD).1;have hvb:=bk hxb.1;have hxl:=Mk hxb.1;rw[hxb.2] at hvb;rw[zm (e:=MR) hx];refine (ke (c.1,r3.1.2) 3 ⟨hc.1,h3.1⟩).bind λ r4 h4 => ?_;refine Ens.cond (λ _ => ?_) λ _=>vI (c.1,r4.1.2) w.2.1 w.2.2.2.2 _ _ h4 hl hs hvb hxb.1;have hu:=qp x.2.1;rw[dX x.2.1 (by omega),apL,uR (Z6 x.2.1) x.1 _ (by omega) (by omega) (by simp),apL];exact vI (c.1,r4.1.2) w.2.1 w.2.2.2.2 _ _ h4 hl hs hvb (Bf _ _ _)
def eI (r:jV×zt×Unit):Prop:=0<=r.1.2.1/\zh r.2.1<=8000
theorem Uc (c:za) (q:zH) (v:Int) (l:zw):zx (JT c q v l).1<=3847:=by
 unfold JT;cases hb:js c (jB q.2.1 v l,q) && zl (jB q.2.1 v l)==v
 ·simp[eG,zx,zj,zq]
 ·simp only[apO] at hb;exact wq hb.1
theorem XO (code:List UInt8) (p:Int×Int) (c:za) (q:zH) (v:Int) (hc:Zs (code,p)) (hq:zj q<=5000) (hv:0<=v/\v<=61):Ens ((yt ((code,p),())).bind λ r25=>(yk (c,q,v,[r25.2.1],())).bind λ r26=>some ((code,r25.1.2),(1,0,r26.1,(0,[],[]),(0,[],[]),0,0,0,0,0),())) eI:=by
 refine (AL (code,p) hc).bind λ r hr => ?_;rw[GB c q v [r.2.1] (by omega) (by omega) (by simp),Option.bind_some];have:=Uc c q v [r.2.1];refine Ens.some ⟨hr.1,?_⟩;simp only[zh,zj,zn,zq,apS];omega
theorem A6 (code:List UInt8) (p:Int×Int) (w:zp) (m:zt) (q:zH) (who:Int) (hc:Zs (code,p)) (hm:zh m<=4000) (hq:zj q<=5000) (hq1:0<=q.1/\q.1<=60):
  Ens ((zL ((code,p),4,())).bind λ r18=>bif r18.2.1==0 then some (((code,r18.1.2),m,()):jV×zt×Unit) else bif r18.2.1==1 then (zL ((code,r18.1.2),2,())).bind λ r19=>(yl (wr (wr (q.1+1)+r19.2.1),60,())).bind λ r20=>some ((code,r19.1.2),(3,r20.1,([],0,[],[]),(0,[],[]),q,who,0,0,0,0),()) else iter (λ rec21 (x21:Int×Int×Unit)=>bif decide (x21.2.1<7) then bif decide (x21.1<60) then (jU (w.1,x21.1,())).bind λ r22=>bif r22.1 != who then rec21 (wr (x21.1+1),wr (x21.2.1+1),()) else (yt ((code,r18.1.2),())).bind λ r23=>(yk (w.1,q,x21.1,[r23.2.1],())).bind λ r24=>some ((code,r23.1.2),(1,0,r24.1,(0,[],[]),(0,[],[]),0,0,0,0,0),()) else (yt ((code,r18.1.2),())).bind λ r25=>(yk (w.1,q,x21.1,[r25.2.1],())).bind λ r26=>some ((code,r25.1.2),(1,0,r26.1,(0,[],[]),(0,[],[]),0,0,0,0,0),()) else (yt ((code,r18.1.2),())).bind λ r27=>(yk (w.1,q,x21.1,[r27.2.1],())).bind λ r28=>some ((code,r27.1.2),(1,0,r28.1,(0,[],[]),(0,[],[]),0,0,0,0,0),())) fuel (wr (q.1+1),0,())) eI:=by
 refine (j8 (code,p) 4 hc).bind λ r0 h0 => ?_;refine Ens.cond (λ _=>Ens.some ⟨h0.1,by dsimp only; omega⟩) λ _ => ?_
 have e1:wr (q.1+1)=q.1+1:=zg (by omega) (by omega);rw[e1];refine Ens.cond (λ _ => ?_) λ _ => ?_
 ·refine (j8 (code,r0.1.2) 2 ⟨hc.1,h0.1⟩).bind λ r1 h1 => ?_;have ajJ:∀ a b:Int,yl (a,b,())=some (if a<b then a else b,()):=by
   intro a b;unfold yl;by_cases e:a<b<;>simp[e]
  rw[ajJ,apL];refine Ens.some ⟨h1.1,?_⟩;simp only[zh,zx,zj,zn,zq,apS] at hq ⊢;omega
 ·refine Ens.loop (λ x=>(0<=x.2.1/\x.2.1<=7)/\(0<=x.1/\x.1<=61)) (λ x=>(8 - x.2.1).toNat) ?_ ⟨by simp,by dsimp only; omega⟩ (by dsimp only; rw[Zn]; omega)
  intro rec x hx afU;obtain⟨x1,x2⟩:=hx;have hb:=XO code r0.1.2 w.1 q x.1 ⟨hc.1,h0.1⟩ hq x2;refine Ens.cond (λ h => ?_) λ _=>hb;have h:x.2.1<7:=by simpa using h
  refine Ens.cond (λ h' => ?_) λ _=>hb;have h':x.1<60:=by simpa using h'
  rw[N5,apL];refine Ens.cond (λ _ => ?_) λ _=>hb;rw[zg (n:=x.1+1) (by omega) (by omega),zg (n:=x.2.1+1) (by omega) (by omega)];exact afU _ ⟨by dsimp only; omega,by dsimp only; omega⟩ (by dsimp only; omega)
theorem km (code:List UInt8) (p:Int×Int) (w:zp) (m:zt) (q:zH) (hc:Zs (code,p)) (hm:zh m<=4000) (hq:zj q<=5000) (hq1:0<=q.1/\q.1<=60):
  Ens (bif decide ((w.2.1.length:Int)>0) then (zL ((code,p),(w.2.1.length:Int),())).bind λ r6=>if 0<=r6.2.1/\r6.2.1<(w.2.1.length:Int) then (zL ((code,r6.1.2),4,())).bind λ r7=>bif r7.2.1==0 then some (((code,r7.1.2),m,()):jV×zt×Unit) else bif r7.2.1==1 then (zL ((code,r7.1.2),2,())).bind λ r8=>(yl (wr (wr (q.1+1)+r8.2.1),60,())).bind λ r9=>some ((code,r8.1.2),(3,r9.1,([],0,[],[]),(0,[],[]),q,rd .i64 w.2.1 r6.2.1.toNat,0,0,0,0),()) else iter (λ rec10 (x10:Int×Int×Unit)=>bif decide (x10.2.1<7) then bif decide (x10.1<60) then (jU (w.1,x10.1,())).bind λ r11=>bif r11.1 != rd .i64 w.2.1 r6.2.1.toNat then rec10 (wr (x10.1+1),wr (x10.2.1+1),()) else (yt ((code,r7.1.2),())).bind λ r12=>(yk (w.1,q,x10.1,[r12.2.1],())).bind λ r13=>some ((code,r12.1.2),(1,0,r13.1,(0,[],[]),(0,[],[]),0,0,0,0,0),()) else (yt ((code,r7.1.2),())).bind λ r14=>(yk (w.1,q,x10.1,[r14.2.1],())).bind λ r15=>some ((code,r14.1.2),(1,0,r15.1,(0,[],[]),(0,[],[]),0,0,0,0,0),()) else (yt ((code,r7.1.2),())).bind λ r16=>(yk (w.1,q,x10.1,[r16.2.1],())).bind λ r17=>some ((code,r16.1.2),(1,0,r17.1,(0,[],[]),(0,[],[]),0,0,0,0,0),())) fuel (wr (q.1+1),0,()) else none else (zL ((code,p),4,())).bind λ r18=>bif r18.2.1==0 then some ((code,r18.1.2),m,()) else bif r18.2.1==1 then (zL ((code,r18.1.2),2,())).bind λ r19=>(yl (wr (wr (q.1+1)+r19.2.1),60,())).bind λ r20=>some ((code,r19.1.2),(3,r20.1,([],0,[],[]),(0,[],[]),q,0,0,0,0,0),()) else iter (λ rec21 (x21:Int×Int×Unit)=>bif decide (x21.2.1<7) then bif decide (x21.1<60) then (jU (w.1,x21.1,())).bind λ r22=>bif r22.1 != 0 then rec21 (wr (x21.1+1),wr (x21.2.1+1),()) else (yt ((code,r18.1.2),())).bind λ r23=>(yk (w.1,q,x21.1,[r23.2.1],())).bind λ r24=>some ((code,r23.1.2),(1,0,r24.1,(0,[],[]),(0,[],[]),0,0,0,0,0),()) else (yt ((code,r18.1.2),())).bind λ r25=>(yk (w.1,q,x21.1,[r25.2.1],())).bind λ r26=>some ((code,r25.1.2),(1,0,r26.1,(0,[],[]),(0,[],[]),0,0,0,0,0),()) else (yt ((code,r18.1.2),())).bind λ r27=>(yk (w.1,q,x21.1,[r27.2.1],())).bind λ r28=>some ((code,r27.1.2),(1,0,r28.1,(0,[],[]),(0,[],[]),0,0,0,0,0),())) fuel (wr (q.1+1),0,())) eI:=by
 refine Ens.cond (λ h => ?_) λ _=>A6 code p w m q 0 hc hm hq hq1;have h:(w.2.1.length:Int)>0:=by simpa using h
 refine (j8 (code,p) _ hc).bind λ r1 h1 => ?_;have a1:=h1.2.2 h;exact Ens.ite ⟨h1.2.1,a1⟩ (A6 code r1.1.2 w m q _ ⟨hc.1,h1.1⟩ hm hq hq1)
theorem Xl (c:jV) {w:zp} (hc:Zs c) (h:WI w):Ens (aZ (c,w,())) eI:=by
 unfold aZ vj vi vk vg;refine (Xn c hc h).bind λ r0 h0 => ?_;obtain⟨k1,k2,k3,k4,k5⟩:=h0;have hq:zj r0.2.1.2.2.2.1<=4000:=by
  simp only[zh,zn] at k2;simp only[zj]; omega
 rw[MG w.1 r0.2.1.2.2.2.1 (by omega),apL];refine Ens.cond (λ _ => ?_) λ _=>km c.1 r0.1.2 w r0.2.1 r0.2.1.2.2.2.1 ⟨hc.1,k1⟩ k2 (by omega) k3;have hf:mW ()=some ((0,[],[]),()):=rfl;have hz:zj ((0,[],[]):zH)<=5000:=by simp[zj,zq]
 rw[hf,apL];refine Ens.cond (λ hp => ?_) λ _=>km c.1 r0.1.2 w r0.2.1 (0,[],[]) ⟨hc.1,k1⟩ k2 hz (by dsimp only; omega)
 have hp:(w.2.2.1.length:Int)>0:=by simpa using hp
 refine (ke (c.1,r0.1.2) 2 ⟨hc.1,k1⟩).bind λ r3 h3 => ?_;refine Ens.cond (λ _ => ?_) λ _=>km c.1 r3.1.2 w r0.2.1 (0,[],[]) ⟨hc.1,h3⟩ k2 hz (by dsimp only; omega)
 refine (j8 (c.1,r3.1.2) _ ⟨hc.1,h3⟩).bind λ r4 h4 => ?_;have a4:=h4.2.2 hp;refine Ens.ite ⟨h4.2.1,a4⟩ ?_;obtain⟨r,hr,hok,hw,-⟩:=WI.rep (c:=w.1) (l:=w.2.1) (reps:=w.2.2.1) (rest:=w.2.2.2) h h4.2.1 a4;rw[zm (e:=YQ) hr];have hs:=(JF hok).2.2.2.2.1;have hqk:zW w.1 r.2.2.2.1.2.2.1=true:=by
  unfold ye at hs;simp only[apO] at hs;exact hs.2.2.1
 have hqw:=lF hqk;have hqn:=lE hqk;have hqv:=bk hqn.1;rw[hqn.2] at hqv;rw[qg r.2.2.2.1.2.2.1 (by omega),apL];exact km c.1 r4.1.2 w r0.2.1 r.2.2.2.1.2.2.1 ⟨hc.1,h4.1⟩ k2 (by omega) hqv
def MQ (r:jV×Zl×Unit):Prop:=0<=r.1.2.1/\zh r.2.1.2.2.2<=10000
theorem K5 (code:List UInt8) (p:Int×Int) (k i j:Int) (h:0<=p.1):MQ ((code,p),(k,i,j,0,0,([],0,[],[]),(0,[],[]),(0,[],[]),0,0,0,0,0),()):=
 ⟨h,by simp[zh,zx,zj,zn,zq]⟩
theorem wP (code:List UInt8) (p:Int×Int) (w:zp) (k:Int) (hc:Zs (code,p)):Ens (bif (w.2.2.2.1.length:Int)==0 then some (((code,p),(2,k,0,0,0,([],0,[],[]),(0,[],[]),(0,[],[]),0,0,0,0,0),()):jV×Zl×Unit) else (yl ((w.2.2.2.1.length:Int),4,())).bind λ r13=>(zL ((code,p),r13.1,())).bind λ r14=>some ((code,r14.1.2),(3,r14.2.1,0,0,0,([],0,[],[]),(0,[],[]),(0,[],[]),0,0,0,0,0),())) MQ:=by
 refine Ens.cond (λ _=>Ens.some (K5 _ _ _ _ _ hc.2)) λ _ => ?_;have ajJ:∀ a b:Int,yl (a,b,())=some (if a<b then a else b,()):=by
  intro a b;unfold yl;by_cases e:a<b<;>simp[e]
 rw[ajJ,apL];exact (j8 (code,p) _ hc).bind λ r1 h1=>Ens.some (K5 _ _ _ _ _ h1.1)
theorem Eo {w:zp} (h:WI w) {i:Int} (h0:0<=i) (h1:i<(w.2.2.1.length:Int)):∃ r,w.2.2.1[i.toNat]?=some r/\zf w.1 r=true/\ze r<=260000:=by
 obtain⟨r,hr,hok,hw,-⟩:=WI.rep (c:=w.1) (l:=w.2.1) (reps:=w.2.2.1) (rest:=w.2.2.2) h h0 h1;exact⟨r,hr,hok,hw⟩
theorem U2 (code:List UInt8) (p:Int×Int) (w:zp) (k:Int) (hc:Zs (code,p)) (h:WI w) (hk:0<=k/\k<=8):Ens (α:=jV×Zl×Unit) (iter (λ rec3 (x3:Int×Zl×Unit)=>bif decide (x3.1<(w.2.2.1.length:Int)) then if (w.2.2.1.length:Int)=0 then none else if 0<=Int.tmod (wr (k+x3.1)) (w.2.2.1.length:Int)/\Int.tmod (wr (k+x3.1)) (w.2.2.1.length:Int)<(w.2.2.1.length:Int) then (LD (w.1,rd (.pair .i64 (.pair .i64 (.pair .i64 (.pair (.pair .i64 (.pair .i64 (.pair (.pair .i64 (.pair .str (.sl 0 .i64))) .str))) (.pair (.sl 0 (.pair .i64 (.pair .i64 (.pair .i64 .i64)))) (.pair (.sl 0 (.pair .i64 (.pair .str (.sl 0 .i64)))) (.pair (.pair (.sl 0 .u8) .i64) (.sl 0 (.pair .i64 (.pair .i64 (.pair .i64 (.pair (.pair .str (.pair .i64 (.pair .str (.sl 0 .i64)))) (.pair (.pair .i64 (.pair .str (.sl 0 .i64))) (.pair (.pair .i64 (.pair .str (.sl 0 .i64))) (.pair .i64 (.pair .i64 (.pair .i64 (.pair .i64 .i64)))))))))))))))))) w.2.2.1 (Int.toNat (Int.tmod (wr (k+x3.1)) (w.2.2.1.length:Int))),())).bind λ r4=>bif r4.2.1 then if (w.2.2.1.length:Int)=0 then none else (jL (w.2.1,Int.tmod (wr (k+x3.1)) (w.2.2.1.length:Int),())).bind λ r5=>bif !r5.1 then if (w.2.2.1.length:Int)=0 then none else some ((code,p),(1,Int.tmod (wr (k+x3.1)) (w.2.2.1.length:Int),0,0,0,([],0,[],[]),(0,[],[]),(0,[],[]),0,0,0,0,0),()) else rec3 (wr (x3.1+1),x3.2.1,()) else rec3 (wr (x3.1+1),x3.2.1,()) else none else some ((code,p),(7,k,0,0,0,([],0,[],[]),(0,[],[]),(0,[],[]),0,0,0,0,0),())) fuel (0,(0,0,0,0,0,([],0,[],[]),(0,[],[]),(0,[],[]),0,0,0,0,0),())) MQ:=by
 have hb:=zR h.conf;have hlen:=h.len;have hl:=h.liars.1;refine Ens.loop (λ x=>(0<=x.1/\x.1<=8)) (λ x=>(9 - x.1).toNat) ?_ (by simp) (by dsimp only; rw[Zn]; omega)
 intro rec x hx afU;have hn:¬ (w.2.2.1.length:Int)=0:=by omega
 refine Ens.cond (λ hh => ?_) λ hh=>Ens.some (K5 _ _ _ _ _ hc.2);have hh:x.1<(w.2.2.1.length:Int):=by simpa using hh
 rw[if_neg hn,zg (n:=k+x.1) (by omega) (by omega),zg (n:=x.1+1) (by omega) (by omega)];have hno:Ens (rec (x.1+1,x.2.1,())) MQ:=afU _ (by dsimp only; omega) (by dsimp only; omega)
 have t0:0<=Int.tmod (k+x.1) (w.2.2.1.length:Int):=Int.tmod_nonneg _ (by omega);have t1:Int.tmod (k+x.1) (w.2.2.1.length:Int)<(w.2.2.1.length:Int):=Int.tmod_lt_of_pos _ (by omega);refine Ens.ite ⟨t0,t1⟩ ?_;obtain⟨r,hr,hok,hw⟩:=Eo h t0 t1;rw[zm (e:=YQ) hr,GA w.1 r (by omega),apL];refine Ens.cond (λ _ => ?_) λ _=>hno;rw[if_neg hn,Y8 w.2.1 _ (by omega),apL];refine Ens.cond (λ _ => ?_) λ _=>hno;rw[if_neg hn];exact Ens.some (K5 _ _ _ _ _ hc.2)
theorem U3 (code:List UInt8) (p:Int×Int) (w:zp) (k:Int) (hc:Zs (code,p)) (h:WI w) (hk:0<=k/\k<=8):Ens (α:=jV×Zl×Unit) (iter (λ rec12 (x12:Int×Zl×Unit)=>bif decide (x12.1<(w.2.2.1.length:Int)) then if (w.2.2.1.length:Int)=0 then none else if 0<=Int.tmod (wr (k+x12.1)) (w.2.2.1.length:Int)/\Int.tmod (wr (k+x12.1)) (w.2.2.1.length:Int)<(w.2.2.1.length:Int) then bif decide ((List.length (rd (.pair .i64 (.pair .i64 (.pair .i64 (.pair (.pair .i64 (.pair .i64 (.pair (.pair .i64 (.pair .str (.sl 0 .i64))) .str))) (.pair (.sl 0 (.pair .i64 (.pair .i64 (.pair .i64 .i64)))) (.pair (.sl 0 (.pair .i64 (.pair .str (.sl 0 .i64)))) (.pair (.pair (.sl 0 .u8) .i64) (.sl 0 (.pair .i64 (.pair .i64 (.pair .i64 (.pair (.pair .str (.pair .i64 (.pair .str (.sl 0 .i64)))) (.pair (.pair .i64 (.pair .str (.sl 0 .i64))) (.pair (.pair .i64 (.pair .str (.sl 0 .i64))) (.pair .i64 (.pair .i64 (.pair .i64 (.pair .i64 .i64)))))))))))))))))) w.2.2.1 (Int.toNat (Int.tmod (wr (k+x12.1)) (w.2.2.1.length:Int)))).2.2.2.2.2.2.2:Int)>0) then if (w.2.2.1.length:Int)=0 then none else some ((code,p),(2,Int.tmod (wr (k+x12.1)) (w.2.2.1.length:Int),0,0,0,([],0,[],[]),(0,[],[]),(0,[],[]),0,0,0,0,0),()) else rec12 (wr (x12.1+1),x12.2.1,()) else none else bif (w.2.2.2.1.length:Int)==0 then some ((code,p),(2,k,0,0,0,([],0,[],[]),(0,[],[]),(0,[],[]),0,0,0,0,0),()) else (yl ((w.2.2.2.1.length:Int),4,())).bind λ r13=>(zL ((code,p),r13.1,())).bind λ r14=>some ((code,r14.1.2),(3,r14.2.1,0,0,0,([],0,[],[]),(0,[],[]),(0,[],[]),0,0,0,0,0),())) fuel (0,(0,0,0,0,0,([],0,[],[]),(0,[],[]),(0,[],[]),0,0,0,0,0),())) MQ:=by
 have hb:=zR h.conf;have hlen:=h.len;have hl:=h.liars.1;refine Ens.loop (λ x=>(0<=x.1/\x.1<=8)) (λ x=>(9 - x.1).toNat) ?_ (by simp) (by dsimp only; rw[Zn]; omega)
 intro rec x hx afU;have hn:¬ (w.2.2.1.length:Int)=0:=by omega
 refine Ens.cond (λ hh => ?_) λ hh=>wP code p w k hc;have hh:x.1<(w.2.2.1.length:Int):=by simpa using hh
 rw[if_neg hn,zg (n:=k+x.1) (by omega) (by omega),zg (n:=x.1+1) (by omega) (by omega)];have hno:Ens (rec (x.1+1,x.2.1,())) MQ:=afU _ (by dsimp only; omega) (by dsimp only; omega)
 have t0:0<=Int.tmod (k+x.1) (w.2.2.1.length:Int):=Int.tmod_nonneg _ (by omega);have t1:Int.tmod (k+x.1) (w.2.2.1.length:Int)<(w.2.2.1.length:Int):=Int.tmod_lt_of_pos _ (by omega);refine Ens.ite ⟨t0,t1⟩ ?_;obtain⟨r,hr,hok,hw⟩:=Eo h t0 t1;rw[zm (e:=YQ) hr];refine Ens.cond (λ _ => ?_) λ _=>hno;rw[if_neg hn];exact Ens.some (K5 _ _ _ _ _ hc.2)
theorem Xk (c:jV) {w:zp} (hc:Zs c) (h:WI w):Ens (nD (c,w,())) MQ:=by
 have hb:=zR h.conf;have hlen:=h.len;unfold nD;have ahj:jF ((w.2.2.1.length:Int),1,())=some ((w.2.2.1.length:Int),()):=by
  unfold jF;have:(w.2.2.1.length:Int)>1:=by omega
  simp[this]
 dsimp only;rw[ahj,apL];refine (j8 c _ hc).bind λ r1 h1 => ?_;have a1:=h1.2.2 (by dsimp only; omega)
 dsimp only at a1;refine (j8 (c.1,r1.1.2) 20 ⟨hc.1,h1.1⟩).bind λ r2 h2 => ?_;have c2:Zs (c.1,r2.1.2):=⟨hc.1,h2.1⟩
 have hk:0<=r1.2.1/\r1.2.1<=8:=⟨h1.2.1,by omega⟩
 have A:=U2 c.1 r2.1.2 w r1.2.1 c2 h hk;have S:=U3 c.1 r2.1.2 w r1.2.1 c2 h hk;have G:=wP c.1 r2.1.2 w r1.2.1 c2;have L:=Xl (c.1,r2.1.2) c2 h;refine Ens.cond (λ _=>A) λ _ => ?_;refine Ens.cond (λ _=>A) λ _ => ?_;refine Ens.cond (λ _=>A) λ _ => ?_;refine Ens.cond (λ _=>S) λ _ => ?_;refine Ens.cond (λ _=>S) λ _ => ?_;refine Ens.cond (λ _=>S) λ _ => ?_;refine Ens.cond (λ _=>S) λ _ => ?_;refine Ens.cond (λ _=>Ens.some (K5 _ _ _ _ _ h2.1)) λ _ => ?_;refine Ens.cond (λ _=>Ens.some (K5 _ _ _ _ _ h2.1)) λ _ => ?_;refine Ens.cond (λ _ => ?_) λ _ => ?_
 ·refine (ke (c.1,r2.1.2) 2 c2).bind λ r3 h3 => ?_;refine Ens.cond (λ _ => ?_) λ _ => ?_
  ·exact (pD (c.1,r3.1.2) _ ⟨hc.1,h3⟩ (by simp)).bind λ r4 h4=>Ens.some (K5 _ _ _ _ _ h4.1)
  ·refine (j8 (c.1,r3.1.2) 2 ⟨hc.1,h3⟩).bind λ r4 h4 => ?_;have alc:∃ n,jF ((w.2.2.2.1.length:Int),1,())=some (n,()):=by
    unfold jF;cases decide ((w.2.2.2.1.length:Int)>1)<;>exact⟨_,rfl⟩
   obtain⟨n,alc⟩:=alc;rw[alc,apL];exact (j8 (c.1,r4.1.2) _ ⟨hc.1,h4.1⟩).bind λ r5 h5=>Ens.some (K5 _ _ _ _ _ h5.1)
 refine Ens.cond (λ _ => ?_) λ _ => ?_
 ·refine (AL (c.1,r2.1.2) c2).bind λ r3 h3=>Ens.some ⟨h3.1,?_⟩;simp[zh,zx,zj,zn,zq]
 refine Ens.cond (λ _ => ?_) λ _ => ?_
 ·exact Ens.cond (λ _=>L.bind λ r3 h3=>Ens.some ⟨h3.1,by have:=h3.2; dsimp only; omega⟩) λ _=>G
 refine Ens.cond (λ _ => ?_) λ _ => ?_
 ·exact Ens.cond (λ _=>L.bind λ r3 h3=>Ens.some ⟨h3.1,by have:=h3.2; dsimp only; omega⟩) λ _=>G
 refine Ens.cond (λ _ => ?_) λ _=>G
 ·exact Ens.cond (λ _=>L.bind λ r3 h3=>Ens.some ⟨h3.1,by have:=h3.2; dsimp only; omega⟩) λ _=>G
theorem Wv (l:yb) (v:Int) (hl:zG l<=137438953472):Mb (l,v,())=some (Zi l v,()):=by
 have hll:=bn l;unfold Mb Zi;dsimp only;refine (walk l.length (λ i (s:yb)=>(s,i,())) (λ i s=>s.length<=i) (λ i s=>some (s++(l.drop i).filter (λ p=>decide (p.1≥v)),())) (by omega) ?_ ?_ (s0:=[]) (Nat.le_refl _)).trans (by simp)
 ·intro rec s hs;simp
 ·intro rec i s hi hs;have hx:l[i]?=some l[i]:=List.getElem?_eq_getElem hi;have hw:zn l[i]<=137438953472:=KV hl hx;right;simp only[zr hi,decide_true,cond_true,and_self,if_true,Int.toNat_natCast,zm (e:=Ys) hx,Qs l[i] hw,Option.bind_some,zo (show i<4611686018427387904 by omega),fz (λ p:zO=>decide (p.1≥v)) hi];by_cases hq:l[i].1≥v
  ·simp only[hq,apR,apN,if_true];rw[if_pos (by simp only[apQ,apS]; omega)]
   exact⟨s++[l[i]],by simp only[apX,apQ,apS]; omega,rfl,by simp⟩
  ·simp only[hq,apU,apM,aqc,if_false];exact⟨s,by omega,rfl,by simp⟩
theorem Wg (p:zw) (l:zV) (hp:p.length<=137438953472) (h1:l.1.length<=137438953472) (h2:l.2.length<=137438953472):Lb (p,l,())=some (Ls p l,()):=by
 unfold Lb Ls;dsimp only;refine (walk p.length (λ i (s:zw)=>(s,i,())) (λ i s=>s.length<=i) (λ i s=>some (s++(p.drop i).filter (λ x=>(pay l x).2 != 2),())) (by omega) ?_ ?_ (s0:=[]) (Nat.le_refl _)).trans (by simp)
 ·intro rec s hs;simp
 ·intro rec i s hi hs;have hx:p[i]?=some p[i]:=List.getElem?_eq_getElem hi;right;simp only[zr hi,decide_true,cond_true,and_self,if_true,Int.toNat_natCast,zm (e:=jO) hx,o9 l p[i] h1 h2,Option.bind_some,zo (show i<4611686018427387904 by omega),fz (λ x:zI=>(pay l x).2 != 2) hi];cases hq:((pay l p[i]).2 != 2)
  ·simp only[apM,aqc,if_false];exact⟨s,by omega,rfl,by simp⟩
  ·simp only[apN,if_true];rw[if_pos (by simp only[apQ,apS]; omega)]
   exact⟨s++[p[i]],by simp only[apX,apQ,apS]; omega,rfl,by simp⟩
theorem WK (c:za) (r:zb) (v:Int) (hw:zG r.2.2.2.2.2.1<=137438953472):∃ b,Lh (c,r,v,())=some (b,()):=by
 unfold Lh;dsimp only;rw[pk _ _ _ hw,apL,pc,apL];exact⟨_,rfl⟩
theorem V0 {c:za} {r:zb} (h:zf c r=true) (v:Int) (q:zH) (who:Int) (hq:zj q<=4000):Ens (fU (c,r,v,q,who,())) λ o=>Kp c r o.1:=by
 have hw:=Zb h;have hv:=KK h;have hs:zy r.2.2.2.1<=260000:=by simp only[ze] at hw; omega
 have ajT:=NV c r.2.2.2.1 q;obtain⟨k1,k2⟩:=cw h (see c r.2.2.2.1 q);have hwr:write c r (see c r.2.2.2.1 q)=zu c r (see c r.2.2.2.1 q):=by unfold write; rw[h]; rfl
 have ah1:Ens ((zN (r,())).bind λ r1=>some (r1.1,false,())) λ o=>Kp c r o.1:=by
  rw[ZS r (by omega),apL]; exact Ens.some (Kp.refl h)
 unfold fU;dsimp only;rw[ZP c r (by omega),apL,h];refine Ens.cond (λ _=>ah1) λ _ => ?_;rw[ZT,apL];refine Ens.cond (λ _=>ah1) λ hvv => ?_;have hvv:1<=v/\v<=60:=by simpa using hvv
 rw[Ng c q (by omega),apL];refine Ens.cond (λ _=>ah1) λ hqo => ?_;have hqo:zW c q=true:=by simpa using hqo
 have hqv:0<=q.1/\q.1<=60:=by
  have h1:=lE hqo;have:=bk h1.1;omega
 rw[ZT,apL];refine Ens.cond (λ _=>ah1) λ _ => ?_;rw[pg c r.2.2.2.1 q (by omega) (by omega),apL,gH c r (see c r.2.2.2.1 q) (by omega) (by omega),apL,hwr];dsimp only;generalize hg:zu c r (see c r.2.2.2.1 q)=g at k1 k2;have hgw:=Zb k1.1;have hgt:=(JF k1.1).2.2.2.2.2.2.1;have apt:=ey hgt;refine Ens.cond (λ _=>ah1) λ _ => ?_;rw[Qi,apL,zg (n:=q.1+1) (by omega) (by omega)];have m1:1<=mx g.1.2.1 (mn (q.1+1) 60)/\mx g.1.2.1 (mn (q.1+1) 60)<=60:=by
  rw[Mj,cD];split<;>split<;>omega
 generalize mx g.1.2.1 (mn (q.1+1) 60)=v1 at m1;have m2:1<=mx v1 v/\mx v1 v<=60:=by
  rw[Mj]; split<;>omega
 generalize mx v1 v=v2 at m2;have ag7:∀ {w:zb} {x:zb},Kp c r w->zG x.2.2.2.2.2.1<=137438953472->Ens ((Lh (c,x,v,())).bind λ r15=>bif r15.1 then some (zM w v2,true,()) else some (zM w v1,true,())) λ o=>Kp c r o.1:=by
  intro w x kw hx;obtain⟨b,hb⟩:=WK c x v hx;rw[hb,apL];exact Ens.cond (λ _=>Ens.some (kw.trans (Qx kw.1 m2))) λ _=>Ens.some (kw.trans (Qx kw.1 m1))
 have ahR:=ag7 (x:=zM g.1 v1) k1 (by simp only[zM]; omega)
 refine Ens.cond (λ _ => ?_) λ _=>ahR;refine Ens.cond (λ _ => ?_) λ _=>ahR;have hp:=bm v who [];simp only[apS] at hp;rw[gx c g.1.2.2.2.2.2.1 (v,[],[who]) (by omega) (by omega),Option.bind_some];refine Ens.cond (λ _=>ah1) λ ht => ?_;have ht:(zC c g.1.2.2.2.2.2.1 (v,[],[who])).2=true:=by simpa using ht
 have hok:=qh ht;have htw:=ey hok;exact ag7 (w:=yv g.1 (zC c g.1.2.2.2.2.2.1 (v,[],[who])).1) (x:=zM (yv g.1 (zC c g.1.2.2.2.2.2.1 (v,[],[who])).1) v1) (k1.trans (Nv k1.1 hok)) (by simp only[zM,yv]; omega)
theorem xP {c:za} {r:zb} (h:zf c r=true) (m:zt) (hm:zh m<=1073741824):Ens (bR (c,r,m,())) λ o=>Kp c r o.1:=by
 have hw:=Zb h;have ah1:Ens ((zN (r,())).bind λ r1=>some (r1.1,false,())) λ o=>Kp c r o.1:=by
  rw[ZS r (by omega),apL]; exact Ens.some (Kp.refl h)
 have ag7:∀ (x:zb×Bool×Unit),Kp c r x.1->Ens (bif !x.2.1 then (zN (r,())).bind λ r3=>some (r3.1,false,()) else (Mb (x.1.2.2.2.2.2.1,wr (x.1.2.1 - 1),())).bind λ r4=>
   (Le (c,(x.1.1,x.1.2.1,x.1.2.2.1,x.1.2.2.2.1,x.1.2.2.2.2.1,r4.1,x.1.2.2.2.2.2.2),())).bind λ r5=>(Lb (x.1.2.2.2.2.1,r5.1,())).bind λ r6=>some (((x.1.1,x.1.2.1,x.1.2.2.1,x.1.2.2.2.1,r6.1,r4.1,x.1.2.2.2.2.2.2):zb),true,())) λ o=>Kp c r o.1:=by
  intro x k;refine Ens.cond (λ _=>ah1) λ _ => ?_;obtain⟨h1,h2,h3,h4,h5,h6,h7,h8,h9,h10⟩:=JF k.1;have hw:=Zb k.1;have hkt:=Nv k.1 (vq h7 (x.1.2.1 - 1));have hw2:=Zb hkt.1;have hsw:=G3 c (yv x.1 (Zi x.1.2.2.2.2.2.1 (x.1.2.1 - 1)));have ht:=ey h7;simp only[eD,zq] at hsw;have hpl:x.1.2.2.2.2.1.length<=260000:=by simp only[ze,Ko] at hw; omega
  rw[zg (n:=x.1.2.1 - 1) (by omega) (by omega),Wv _ _ (by omega),apL];dsimp only;have es:Le (c,yv x.1 (Zi x.1.2.2.2.2.2.1 (x.1.2.1 - 1)),())=some (state c (yv x.1 (Zi x.1.2.2.2.2.2.1 (x.1.2.1 - 1))),()):=Ws c _ (by omega);have ep:Lb (x.1.2.2.2.2.1,state c (yv x.1 (Zi x.1.2.2.2.2.2.1 (x.1.2.1 - 1))),())=some (Ls x.1.2.2.2.2.1 (state c (yv x.1 (Zi x.1.2.2.2.2.2.1 (x.1.2.1 - 1)))),()):=Wg _ _ (by omega) (by omega) (by omega);unfold yv at es ep;rw[es,apL,ep,apL];exact Ens.some (k.trans (AJ k.1))
 unfold bR;dsimp only;rw[bW c m (by omega),apL];refine Ens.cond (λ _=>ah1) λ hmo => ?_;have hmo:z7 c m=true:=by simpa using hmo
 have hmw:=QD hmo;have w1:zx m.2.2.1<=3847:=by simp only[zh] at hmw; omega
 have w2:zn m.2.2.2.1<=3847:=by simp only[zh] at hmw; omega
 have w3:zj m.2.2.2.2.1<=3847:=by simp only[zh] at hmw; omega
 refine Ens.cond (λ _ => ?_) λ _ => ?_
 ·rw[xO c r m.2.2.1 (by omega),apL];exact ag7 ((Jo c r m.2.2.1).1,(Jo c r m.2.2.1).2,()) (ka h _)
 refine Ens.cond (λ _ => ?_) λ _ => ?_
 ·rw[VY c r m.2.2.2.1 (by omega) (by omega),apL];exact ag7 ((J0 c r m.2.2.2.1).1,(J0 c r m.2.2.2.1).2,()) (AE h _)
 refine Ens.cond (λ _ => ?_) λ _ => ?_
 ·exact (V0 h m.2.1 m.2.2.2.2.1 m.2.2.2.2.2.1 (by omega)).bind λ x hx=>ag7 x hx
 ·rw[VZ c r m.2.2.2.2.2.2 (by omega),apL];exact ag7 ((J1 c r m.2.2.2.2.2.2).1,(J1 c r m.2.2.2.2.2.2).2,()) (AG h _)
theorem eE {w:zp} (h:jf w=true):WI w:=by
 unfold jf at h;simp only[apO,apY,aqi] at h;obtain⟨h1,h2,h3,h4,h5,h6,h7,h8,h9⟩:=h;have hb:=zR h1;have hl:=uH h2 (by omega);refine⟨h1,⟨by omega,uI h2⟩,h4,?_,⟨by omega,?_⟩,⟨by omega,?_⟩⟩
 ·intro i hi;have k:=(bM _ _ 0).1 h7 i hi;simp only[Lz,apO,aqi,aqA] at k;exact k
 ·intro x hx;obtain⟨i,hi,rfl⟩:=List.getElem_of_mem hx;have k:=(bM _ _ 0).1 h8 i hi;simp only[KW,apO,apY] at k;refine⟨by omega,?_⟩;have e:=XY k.1;rw[←e];have hl:=kv w.1 (jY w.1 (w.2.2.2.1[i]).2).1;cases hm:z7 w.1 (jY w.1 (w.2.2.2.1[i]).2).1
  ·unfold jS; rw[hm]; simp
  ·have:=QD hm;omega
 ·intro x hx;obtain⟨i,hi,rfl⟩:=List.getElem_of_mem hx;have k:=(bM _ _ 0).1 h9 i hi;simp only[JJ,apO,apY,aqi] at k;exact⟨k.2,by omega⟩
theorem WI.w_le2 {w:zp} (h:WI w):yu w<=100000000:=by
 have hb:=zR h.conf;have hl:=h.len;have r1:=bg ze 260000 w.2.2.1 λ x hx=>by
  obtain⟨i,hi,rfl⟩:=List.getElem_of_mem hx;exact Zb (h.reps i hi).1
 have r2:=bg Z8 1000000 w.2.2.2.1 λ x hx=>(h.net.2 x hx).2;have r3:=bg MP 1920 w.2.2.2.2 λ x hx=>by have:=Mk (h.said.2 x hx).1.1; simp only[MP]; omega
 have:=h.liars.1; have:=h.net.1; have:=h.said.1
 simp only[yu,zq,JQ,Z9,JR];omega
def Li (w:zp) (d:Zl):Bool:=
 bif (d.1==3) || ((d.1==4) || (d.1==5)) then decide (d.2.1≥0) && decide (d.2.1<=(w.2.2.2.1.length:Int) - 1) else
  bif d.1==10 then decide (d.2.1≥0) && decide (d.2.1<=w.1.1 - 1) else (yW w).any (· == d.2.1)
theorem o7 (w:zp):(yW w).length<=w.2.2.1.length:=by
 unfold yW;rw[aqu];have:=List.length_filter_le (λ (i:Nat) => !(w.2.1.any (· == (i:Int)))) (List.range w.2.2.1.length);rw[arc] at this;exact this
theorem Ak {w:zp} (h:WI w) (d:Zl):gP (w,d,())=some (Li w d,()):=by
 have hb:=zR h.conf;have hl:=h.liars.1;have hlen:=h.len;have hn:=h.net.1;have hh:=o7 w;unfold gP Li;dsimp only;rw[zg (n:=(w.2.2.2.1.length:Int) - 1) (by omega) (by omega),zg (n:=w.1.1 - 1) (by omega) (by omega),fV w (by omega) (by omega),apL];simp only[ZT,Js (yW w) d.2.1 (by omega),apL];cases h3:(d.1==3)
 ·cases h4:(d.1==4)
  ·cases h5:(d.1==5)
   ·cases h10:(d.1==10)<;>rfl
   ·rfl
  ·rfl
 ·rfl
theorem abD (c:za) (r:zb) (s:zD):(zu c r s).1.2.2.1=r.2.2.1:=by
 unfold zu;cases YJ r.2.2.2.1 s
 ·cases ((jl r.2.2.2.2.2.2.1 (jt c s)).2 && ye c s)<;>rfl
 ·rfl
theorem G9 (c:za) (r:zb) (to:Int) (m:zt):(jG c r to m).1.2.2.1=r.2.2.1:=by
 unfold jG;cases (!decide ((r.2.2.2.2.2.2.2.length:Int)≥30) && ZO c r.1 (to,m))<;>rfl
theorem ad3 (c:za) (r:zb) (q:zH):(top c r q).1.2.2.1=r.2.2.1:=by
 have h:=abD c r (see c r.2.2.2.1 q);unfold top;cases (zu c r (see c r.2.2.2.1 q)).2
 ·rfl
 cases decide (q.1+1>60)
 ·cases (yw c (q.1+1)==r.1)
  ·exact (G9 _ _ _ _).trans h
  ·exact h
 ·exact h
theorem acW (c:za) (r:zb) (v:Int) (name:List UInt8) (force:Bool):(Jh c r v name force).1.2.2.1=r.2.2.1:=by
 unfold Jh;cases (((y7 r.2.2.2.2.2.1 v name).2.2.length:Int)==0)
 ·cases (name==[])
  ·cases (yw c v==r.1)
   ·cases (!force && decide ((JU (under c v r.1) (y7 r.2.2.2.2.2.1 v name).2.2:Int)<((under c v r.1).length:Int)))
    ·exact G9 _ _ _ _
    ·rfl
   ·cases (Yh c (y7 r.2.2.2.2.2.1 v name)).2
    ·rfl
    ·exact ad3 _ _ _
  ·rfl
 ·rfl
theorem acX (c:za) (r:zb) (v:Int) (name:List UInt8) (force:Bool):(climb c r v name force).1.2.2.1=r.2.2.1:=by
 unfold climb;cases (zf c r && (Jh c r v name force).2)
 ·rfl
 ·exact acW _ _ _ _ _
theorem ad4 {c:za} {r0 w:zb} (h:w.2.2.1=r0.2.2.1) (name:List UInt8):(voted c r0 w name).1.2.2.1=r0.2.2.1:=by
 unfold voted;cases (zC c w.2.2.2.2.2.1 (zl name,name,[w.1])).2
 ·rfl
 ·exact (acX _ _ _ _ _).trans h
theorem acY (c:za) (r:zb) (b:jd):(Jo c r b).1.2.2.1=r.2.2.1:=by
 have h1:=abD c (zM r (zl b.1)) (vote c (see c r.2.2.2.1 b.2) b);have h2:=abD c r (see c r.2.2.2.1 b.2);unfold Jo;cases zf c r
 ·rfl
 cases js c b
 ·rfl
 cases decide (zl b.1≥r.2.1)
 ·cases (zu c r (see c r.2.2.2.1 b.2)).2
  ·rfl
  ·exact h2
 ·cases (zu c (zM r (zl b.1)) (vote c (see c r.2.2.2.1 b.2) b)).2
  ·rfl
  cases YA c (see c r.2.2.2.1 b.2) b
  ·exact h1
  ·exact ad4 (r0:=r) (show _=r.2.2.1 from h1) _
theorem ad2 (c:za) (r:zb) (to:Int) (m:zt):(tell c r to m).1.2.2.1=r.2.2.1:=by
 unfold tell;cases zf c r
 ·rfl
 ·exact G9 _ _ _ _
theorem F5 (c:za) (r:zb) (m:zt):∀ (n i:Nat) (out:zb),out.2.2.1=r.2.2.1->(Km c r m n i out).1.2.2.1=r.2.2.1
 | 0,_,_,h=>h
 | n+1,i,out,h=>by
  unfold Km;cases ((i:Int)==r.1)
  ·cases (tell c out i m).2
   ·rfl
   ·exact F5 c r m n (i+1) _ ((ad2 _ _ _ _).trans h)
  ·exact F5 c r m n (i+1) out h
theorem ad1 (c:za) (r:zb) (m:zt):(JO c r m).1.2.2.1=r.2.2.1:=by
 unfold JO;cases zf c r
 ·rfl
 ·exact F5 c r m _ 0 r rfl
theorem ac9 {c:za} {r:zb} (h:zf c r=true):Ens (gJ (c,r,())) λ o=>Kp c r o.1/\(o.2.1=0->o.1.2.2.1=r.2.1):=by
 have hw:=Zb h;have ha:=wm c r;have k0:=g8 h;have kt:=k0.trans (AK k0.1 (1,0,(ask c r).1,(0,[],[]),(0,[],[]),0,0,0,0,0));have hw1:=Zb k0.1;have hw2:=Zb kt.1;have kb:=kt.trans (ka kt.1 (ask c r).1);have e3:=(acY c (JO c (r.1,r.2.1,r.2.1,r.2.2.2) (1,0,(ask c r).1,(0,[],[]),(0,[],[]),0,0,0,0,0)).1 (ask c r).1).trans (ad1 c (r.1,r.2.1,r.2.1,r.2.2.2) (1,0,(ask c r).1,(0,[],[]),(0,[],[]),0,0,0,0,0));unfold gJ;dsimp only;rw[VO c r (by omega),apL];refine Ens.cond (λ _=>Ens.some ⟨Kp.refl h,λ h=>absurd h (show ¬ (3:Int)=0 by decide)⟩) λ _ => ?_;rw[ZS r (by omega),apL];have e1:=Ww c (r.1,r.2.1,r.2.1,r.2.2.2) (1,0,(ask c r).1,(0,[],[]),(0,[],[]),0,0,0,0,0) (by omega) (by simp only[zh,zn,zj,zq,apS]; omega)
 have e2:=xO c (JO c (r.1,r.2.1,r.2.1,r.2.2.2) (1,0,(ask c r).1,(0,[],[]),(0,[],[]),0,0,0,0,0)).1 (ask c r).1 (by omega);rw[e1,apL];refine Ens.cond (λ _=>Ens.some ⟨Kp.refl h,λ h=>absurd h (show ¬ (4:Int)=0 by decide)⟩) λ _ => ?_;rw[e2,apL];exact Ens.cond (λ _=>Ens.some ⟨Kp.refl h,λ h=>absurd h (show ¬ (4:Int)=0 by decide)⟩) λ _=>Ens.some ⟨kb,λ _=>e3⟩
theorem WF {c:za} {r:zb} (h:zf c r=true):Ens (gJ (c,r,())) λ o=>Kp c r o.1:=(ac9 h).mono λ _ h=>h.1
theorem WO {c:za} {r:zb} (h:zf c r=true):Ens (gS (c,r,())) λ o=>Kp c r o.1:=by
 have hw:=Zb h;have ht:(r.2.2.2.2.2.1.length:Int)<=260000:=by simp only[ze,zG] at hw; omega
 unfold gS;dsimp only;rw[zg (n:=(r.2.2.2.2.2.1.length:Int) - 1) (by omega) (by omega)];refine Ens.loop (λ x => -1<=x.1/\x.1<(r.2.2.2.2.2.1.length:Int)) (λ x=>(x.1+1).toNat) ?_ ⟨by dsimp only; omega,by dsimp only; omega⟩ (by dsimp only; rw[Zn]; omega)
 intro rec x hx afU;refine Ens.cond (λ h0 => ?_) λ _=>Ens.some (Kp.refl h);have h0:x.1≥0:=by simpa using h0
 refine Ens.ite ⟨h0,hx.2⟩ ?_;have hi:x.1.toNat<r.2.2.2.2.2.1.length:=by omega
 have hg:=List.getElem?_eq_getElem hi;have hn:=BA hw (List.getElem_mem hi);rw[zm (e:=Ys) hg];refine Ens.cond (λ _ => ?_) λ _ => ?_
 ·rw[o8 c r _ _ true (show ze r<=15000000 by omega) (show (r.2.2.2.2.2.1[x.1.toNat]).2.1.length<=5000000 by omega),Option.bind_some];exact Ens.cond (λ _=>Ens.some (Kp.refl h)) λ _=>Ens.some (g9 h _ _ _)
 ·rw[zg (n:=x.1 - 1) (by omega) (by omega)];exact afU _ ⟨by dsimp only; omega,by dsimp only; omega⟩ (by dsimp only; omega)
theorem WP {c:za} {r:zb} (h:zf c r=true) (d:Zl) (hm:zh d.2.2.2<=100000000):Ens (gT (c,r,d,())) λ o=>Kp c r o.1:=by
 have hw:=Zb h;have ajw:=(JF h).2.2.2.2.2.2.2.1;have hf:=w7 ajw d.2.2.1;unfold gT;dsimp only;rw[ZS r (by omega),apL];refine Ens.cond (λ _=>(WF h).bind λ o ho=>Ens.some ho) λ _ => ?_;refine Ens.cond (λ _=>(WO h).bind λ o ho=>Ens.some ho) λ _ => ?_;refine Ens.cond (λ _ => ?_) λ _ => ?_
 ·rw[V5 c r (by omega),apL];exact Ens.cond (λ _=>Ens.some (Kp.refl h)) λ _=>Ens.some (AH h)
 refine Ens.cond (λ _ => ?_) λ _ => ?_
 ·have hd:=JV.1 ajw;have hd2:=JV.1 hf;have hwr:ze (r.1,r.2.1,r.2.2.1,r.2.2.2.1,r.2.2.2.2.1,r.2.2.2.2.2.1,Jk r.2.2.2.2.2.2.1 d.2.2.1,r.2.2.2.2.2.2.2)<=1073741824:=by
   simp only[ze,KU] at hw ⊢;omega
  rw[VX _ _ (show r.2.2.2.2.2.2.1.1.length<=17592186044416 by omega),apL];dsimp only;rw[Wk c _ hwr,apL];have h':zf c (r.1,r.2.1,r.2.2.1,r.2.2.2.1,r.2.2.2.2.1,r.2.2.2.2.2.1,Jk r.2.2.2.2.2.2.1 d.2.2.1,r.2.2.2.2.2.2.2)=true:=by
   unfold zf at h ⊢;simp only[apO] at h ⊢;obtain⟨a1,a2,a3,a4,a5,a6,a7,a8,a9⟩:=h;exact⟨a1,a2,a3,a4,a5,a6,a7,hf,a9⟩
  exact Ens.some ⟨(kc h').1,(kc h').2⟩
 refine (xP h d.2.2.2 (by omega)).bind λ o ho => ?_;exact Ens.cond (λ _=>Ens.cond (λ _=>Ens.some (Kp.refl h)) λ _=>Ens.some ho) λ _=>Ens.some (Kp.refl h)
end G448
