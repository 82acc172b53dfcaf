/- Plain laws, part 2: what the functions compute. No program in sight. -/
import Derived.Test.YthcbhmiocejpjaaGreatDoorCePureA
set_option linter.unusedSimpArgs false
set_option linter.unusedVariables false
namespace G448
open Ev Go
def yJ (l:z6) (v:Int) (name:List UInt8):zJ:=match l.find? (λ p=>p.1==v && p.2.1==name) with|some p=>p|none=>(v,name,[])
theorem vJ (l:z6) (v:Int) (name:List UInt8) (hw:zL l<=137438953472):aM (l,v,name,())=some (yJ l v name,()):=by
 have hl:l.length<=137438953472:=by unfold zL at hw; omega
 unfold aM yJ;refine (walk l.length (λ i (z:zJ)=>(i,z,())) (λ _ _=>True) (λ i _=>some ((match (l.drop i).find? (λ p=>p.1==v && p.2.1==name) with|some p=>p|none=>(v,name,[])),())) (by omega) ?_ ?_ (s0:=(0,[],[])) trivial).trans (by simp only[ar4])
 ·intro rec s _;rw[arb];simp only[aqY,aqL,aqD,List.find?_nil]
 ·intro rec i s hi _;have hx:l[i]?=some l[i]:=List.getElem?_eq_getElem hi;have hy:=KZ hw hx;rw[aqX hi];simp only[zv hi,decide_true,cond_true,and_self,if_true,Int.toNat_natCast,zm (e:=YA) hx,qe l[i] hy,Option.bind_some,zq (show i<4611686018427387904 by omega),List.find?_cons];by_cases h1:l[i].1=v
  ·have e1:(l[i].1==v)=true:=beq_iff_eq.2 h1;by_cases h2:l[i].2.1=name
   ·have e2:(l[i].2.1==name)=true:=beq_iff_eq.2 h2;left; simp only[e1,e2,aqE,arD]
   ·have e2:(l[i].2.1==name)=false:=beq_eq_false_iff_ne.2 h2;right; exact⟨s,trivial,by simp only[e1,e2,aqE,aqD],by simp only[e1,e2,arB]⟩
  ·have e1:(l[i].1==v)=false:=beq_eq_false_iff_ne.2 h1;right; exact⟨s,trivial,by simp only[e1,aqD],by simp only[e1,ari]⟩
theorem pR (l:z6) (v:Int) (name:List UInt8) (hw:zL l<=137438953472):ce (l,v,name,())=some (yJ l v name,()):=by
 have hl:l.length<=137438953472:=by unfold zL at hw; omega
 unfold ce yJ;refine (walk l.length (λ i (z:zJ)=>(i,z,())) (λ _ _=>True) (λ i _=>some ((match (l.drop i).find? (λ p=>p.1==v && p.2.1==name) with|some p=>p|none=>(v,name,[])),())) (by omega) ?_ ?_ (s0:=(0,[],[])) trivial).trans (by simp only[ar4])
 ·intro rec s _;rw[arb];simp only[aqY,aqL,aqD,List.find?_nil]
 ·intro rec i s hi _;have hx:l[i]?=some l[i]:=List.getElem?_eq_getElem hi;have hy:=KZ hw hx;rw[aqX hi];simp only[zv hi,decide_true,cond_true,and_self,if_true,Int.toNat_natCast,zm (e:=YA) hx,Qr l[i] hy,Option.bind_some,zq (show i<4611686018427387904 by omega),List.find?_cons];by_cases h1:l[i].1=v
  ·have e1:(l[i].1==v)=true:=beq_iff_eq.2 h1;by_cases h2:l[i].2.1=name
   ·have e2:(l[i].2.1==name)=true:=beq_iff_eq.2 h2;left; simp only[e1,e2,aqE,arD]
   ·have e2:(l[i].2.1==name)=false:=beq_eq_false_iff_ne.2 h2;right; exact⟨s,trivial,by simp only[e1,e2,aqE,aqD],by simp only[e1,e2,arB]⟩
  ·have e1:(l[i].1==v)=false:=beq_eq_false_iff_ne.2 h1;right; exact⟨s,trivial,by simp only[e1,aqD],by simp only[e1,ari]⟩
noncomputable def Kr:zy->zy->zZ->zy
 | [],out,_=>out
 | x::xs,out,l=>if out.length=2 then out else if (pay l x).2=0∨(pay l x).2=4 then Kr xs (out++[x]) (pay l x).1 else Kr xs out l
noncomputable def Lx (p:zy) (l:zZ):zy:=Kr p [] l
theorem eK:∀ (xs out:zy) (l:zZ),out.length<=2->(Kr xs out l).length<=2
 | [],out,l,h=>h
 | x::xs,out,l,h=>by
  simp only[Kr];split
  ·exact h
  ·split
   ·exact eK xs _ _ (by simp; omega)
   ·exact eK xs _ _ h
theorem abg (l:zZ) (x:zK):(pay l x).2=0∨(pay l x).2=4∨(pay l x).1=l:=by
 unfold pay;dsimp only;repeat' split
 all_goals simp
theorem afS (p:zy) (l:zZ) (hp:p.length<=137438953472) (h1:l.1.length<=137438953472) (h2:l.2.length<=137438953472):dY (p,l,())=some (Lx p l,()):=by
 unfold dY Lx;dsimp only;rw[vU l h1 h2,aqC];refine (walk p.length (λ i (s:zy×zZ)=>(s.1,i,s.2,())) (λ _ s=>s.1.length<=2/\s.2.1.length<=137438953472/\s.2.2.length<=137438953472) (λ i s=>some (Kr (p.drop i) s.1 s.2,())) (by omega) ?_ ?_ (s0:=([],l)) ⟨by simp,h1,h2⟩).trans (by simp only[ar4])
 ·intro rec s _;rw[arb];simp only[aqY,aqL,aqD,Kr]
 ·intro rec i s hi hs;obtain⟨k1,k2,k3⟩:=hs;obtain⟨p1,p2⟩:=lg s.2 p[i];have hx:p[i]?=some p[i]:=List.getElem?_eq_getElem hi;rw[aqX hi];simp only[zv hi,decide_true,cond_true,and_self,if_true,Int.toNat_natCast,zm (e:=jZ) hx,vA s.2 p[i] k2 k3,Option.bind_some,zq (show i<4611686018427387904 by omega),Kr,List.length_cons,List.length_nil];by_cases hf:s.1.length=2
  ·left;have:decide ((s.1.length:Int)<2)=false:=by simp; omega
   rw[if_pos hf];simp only[this,aqD]
  ·have:decide ((s.1.length:Int)<2)=true:=by simp; omega
   simp only[this,aqE,hf,if_false];rw[if_pos (by omega)];by_cases c0:(pay s.2 p[i]).2=0
   ·right;refine⟨(s.1++[p[i]],(pay s.2 p[i]).1),⟨by simp; omega,by simp only; omega,by simp only; omega⟩,?_,?_⟩
    ·simp only[c0,beq_self_eq_true,aqE]
    ·rw[if_pos (.inl c0)]
   ·have e0:((pay s.2 p[i]).2==0)=false:=beq_eq_false_iff_ne.2 c0;by_cases c4:(pay s.2 p[i]).2=4
    ·right;refine⟨(s.1++[p[i]],(pay s.2 p[i]).1),⟨by simp; omega,by simp only; omega,by simp only; omega⟩,?_,?_⟩
     ·simp only[c4,beq_self_eq_true,aqE,show ((4:Int)==0)=false from rfl,aqD]
     ·rw[if_pos (.inr c4)]
    ·have e4:((pay s.2 p[i]).2==4)=false:=beq_eq_false_iff_ne.2 c4;right;refine⟨s,⟨k1,k2,k3⟩,?_,?_⟩
     ·simp only[e0,e4,aqD]
     ·rw[if_neg (by rintro (h|h); exact c0 h; exact c4 h)]
theorem Xk (p:zy) (l:zZ) (hp:p.length<=137438953472) (h1:l.1.length<=137438953472) (h2:l.2.length<=137438953472):bY (p,l,())=some (Lx p l,()):=by
 unfold bY Lx;dsimp only;refine (walk p.length (λ i (s:zy×zZ)=>(s.1,i,s.2,())) (λ _ s=>s.1.length<=2/\s.2.1.length<=137438953472/\s.2.2.length<=137438953472) (λ i s=>some (Kr (p.drop i) s.1 s.2,())) (by omega) ?_ ?_ (s0:=([],l)) ⟨by simp,h1,h2⟩).trans (by simp only[ar4])
 ·intro rec s _;rw[arb];simp only[aqY,aqL,aqD,Kr]
 ·intro rec i s hi hs;obtain⟨k1,k2,k3⟩:=hs;obtain⟨p1,p2⟩:=lg s.2 p[i];have hx:p[i]?=some p[i]:=List.getElem?_eq_getElem hi;rw[aqX hi];simp only[zv hi,decide_true,cond_true,and_self,if_true,Int.toNat_natCast,zm (e:=jZ) hx,pJ s.2 p[i] k2 k3,Option.bind_some,zq (show i<4611686018427387904 by omega),Kr,List.length_cons,List.length_nil];by_cases hf:s.1.length=2
  ·left;have:((s.1.length:Int)==2)=true:=beq_iff_eq.2 (by omega);rw[if_pos hf];simp only[this,aqE]
  ·have:((s.1.length:Int)==2)=false:=beq_eq_false_iff_ne.2 (by omega);simp only[this,aqD,hf,if_false];rw[if_pos (by omega)];by_cases c0:(pay s.2 p[i]).2=0
   ·right;refine⟨(s.1++[p[i]],(pay s.2 p[i]).1),⟨by simp; omega,by simp only; omega,by simp only; omega⟩,?_,?_⟩
    ·simp only[c0,beq_self_eq_true,aqE]
    ·rw[if_pos (.inl c0)]
   ·have e0:((pay s.2 p[i]).2==0)=false:=beq_eq_false_iff_ne.2 c0;by_cases c4:(pay s.2 p[i]).2=4
    ·right;refine⟨(s.1++[p[i]],(pay s.2 p[i]).1),⟨by simp; omega,by simp only; omega,by simp only; omega⟩,?_,?_⟩
     ·simp only[c4,beq_self_eq_true,aqE,show ((4:Int)==0)=false from rfl,aqD]
     ·rw[if_pos (.inr c4)]
    ·have e4:((pay s.2 p[i]).2==4)=false:=beq_eq_false_iff_ne.2 c4;right;refine⟨s,⟨k1,k2,k3⟩,?_,?_⟩
     ·have hs1:(pay s.2 p[i]).1=s.2:=by
       rcases abg s.2 p[i] with h|h|h
       ·exact absurd h c0
       ·exact absurd h c4
       ·exact h
      simp only[e0,e4,aqD,hs1]
     ·rw[if_neg (by rintro (h|h); exact c0 h; exact c4 h)]
def MY (l:zy):List UInt8:=(l.map λ x=>44::yO x).flatten
def JV:zy->List UInt8
 | []=>[]
 | x::r=>yO x++MY r
def LT (l:zy):List UInt8:=bif l.all zI then JV l else []
def qm (i:Nat) (l:zy):List UInt8:=if i=0 then JV l else MY l
theorem wh:∀ l:zy,(MY l).length<=28*l.length
 | []=>by simp[MY]
 | x::l=>by
  have h1:=eO x;have h2:=wh l;simp only[MY,aqZ,as7,aqM,aqG] at *;omega
theorem wi (l:zy):(LT l).length<=28*l.length:=by
 unfold LT;cases l.all zI
 ·simp
 ·cases l with
  | nil=>simp[JV]
  | cons x r=>
   have h1:=eO x;have h2:=wh r;simp only[aqE,JV,aqM,aqG];omega
theorem aga (l:zy) (hl:l.length<=1000000):nK (l,())=some (LT l,()):=by
 unfold nK LT;refine (walk l.length (λ i (o:List UInt8)=>(o,i,())) (λ i o=>o.length<=28*i) (λ i o=>some ((bif (l.drop i).all zI then o++qm i (l.drop i) else []),())) (by omega) ?_ ?_ (s0:=[]) (by simp)).trans (by simp[qm])
 ·intro rec o _;rw[arb];simp only[aqY,aqL,aqD,asq,aqE,qm];split<;>simp[JV,MY]
 ·intro rec i o hi ho;have hx:l[i]?=some l[i]:=List.getElem?_eq_getElem hi;have htl:=eO l[i];rw[aqX hi];simp only[zv hi,aqH,aqE,aqS,if_true,aqN,zm (e:=jZ) hx,qd,Iy,aqC,zq (show i<4611686018427387904 by omega),ard,aqM,aqG,aqJ];cases hk:zI l[i]
  ·left; simp only[ar1,aqE,ari,aqD]
  ·right;by_cases h0:i=0
   ·subst h0;refine⟨o++yO l[0],by rw[aqM]; omega,?_,?_⟩
    ·simp only[aqI,aqD,show ¬ (((0:Nat):Int)>0) by omega,aqL];rw[if_pos (by omega)]
    ·simp[qm,JV]
   ·refine⟨o++[44]++yO l[i],by simp only[aqM,aqG,aqJ]; omega,?_,?_⟩
    ·simp only[aqI,aqD,show ((i:Int)>0) by omega,aqH,aqE];rw[if_pos (by omega),if_pos (by omega)]
    ·have e:o++qm i (l[i]::List.drop (i+1) l)=(o++[44]++yO l[i])++qm (i+1) (List.drop (i+1) l):=by
      unfold qm;rw[if_neg h0,if_neg (by omega)];simp only[MY,aqZ,as7,ar7,arE,ar6]
     rw[e];simp only[aqU]
theorem X6 (l:zy):Lib.join (l.map yO) [44]=JV l:=by
 cases l with
 | nil=>rfl
 | cons x r=>
  rw[aqZ,Lib.join_cons];simp[JV,Lib.joinTail,MY,Function.comp_def]
theorem agK (l:zy):(JV l).length<=28*l.length:=by
 cases l with
 | nil=>simp[JV]
 | cons x r=>
  have h1:=eO x;have h2:=wh r;simp only[JV,aqM,aqG];omega
theorem XC (l:zy) (hl:l.length<=1000000):gW (l,())=some (LT l,()):=by
 have hbl:=agK l;unfold gW LT;refine (walk l.length (λ i (o:List (List UInt8))=>(o,i,())) (λ i o=>o=(l.take i).map yO) (λ i o=>some ((bif (l.drop i).all zI then JV l else []),())) (by omega) ?_ ?_ (s0:=[]) rfl).trans (by simp)
 ·rintro rec o rfl;rw[arb];simp only[aqY,aqL,aqD,asq,aqE,arF];unfold strings_Join;dsimp only;rw[X6,if_pos (by omega),aqC]
 ·rintro rec i o hi rfl;have hx:l[i]?=some l[i]:=List.getElem?_eq_getElem hi;rw[aqX hi];simp only[zv hi,aqH,aqE,aqS,if_true,aqN,zm (e:=jZ) hx,Ml,AE,aqC,zq (show i<4611686018427387904 by omega),ard,aqG,aqJ,arg,aqV];cases hk:zI l[i]
  ·left; simp only[ar1,aqE,ari,aqD]
  ·right;refine⟨_,rfl,?_,by simp only[aqU]⟩;have e:(l.take (i+1)).map yO=(l.take i).map yO++[yO l[i]]:=by
    rw[asa,hx,arW]; rfl
   rw[e];simp only[aqI,aqD];rw[if_pos (by omega)]
def Z2 (up:List UInt8) (view:Int) (list:zy):List UInt8:=(((up++[47])++Lib.decDigits view.toNat)++[124])++LT list
def jy (up:List UInt8) (view:Int) (list:zy):List UInt8:=bif list.all zI && zG (Z2 up view list) then Z2 up view list else []
theorem rS (up:List UInt8) (view:Int) (list:zy) (h:view<1000000):(Z2 up view list).length<=up.length+8+28*list.length:=by
 have h1:=wi list;have h2:=dl view.toNat (by omega);unfold Z2;simp only[aqM,aqG,aqJ];omega
theorem B1 (l:zy) (K:Option (List UInt8×Unit)) {G:(Int×Unit->Option (List UInt8×Unit))->Int×Unit->Option (List UInt8×Unit)} (hl:l.length<=1152921504606846976)
  (ahe:∀ rec,G rec ((l.length:Int),())=K)
  (ahg:∀ rec (i:Nat) x,l[i]?=some x->i<l.length->G rec ((i:Int),())=bif zI x then rec ((i:Int)+1,()) else some ([],())):
  iter G fuel (0,())=bif l.all zI then K else some ([],()):=by
 refine (walk l.length (λ i (_:Unit)=>(i,())) (λ _ _=>True) (λ i _=>bif (l.drop i).all zI then K else some ([],())) hl ?_ ?_ (s0:=()) trivial).trans (by simp only[ar4])
 ·intro rec s _; rw[ahe,arb]; rfl
 ·intro rec i s hi _;rw[ahg rec i l[i] (List.getElem?_eq_getElem hi) hi,List.drop_eq_getElem_cons hi];simp only[ard];cases zI l[i]
  ·left; rfl
  ·right; exact⟨(),trivial,rfl,rfl⟩
theorem vz (up:List UInt8) (view:Int) (list:zy) (hu:up.length<=1073741824) (hv:0<=view/\view<1000000) (hl:list.length<=1000000):aC (up,view,list,())=some (jy up view list,()):=by
 have h1:=wi list;have h2:=dl view.toNat (by omega);have d:=au view.toNat (by omega);rw[asi hv.1] at d;have hn:=rS up view list hv.2;unfold aC jy;refine (B1 list (bif zG (Z2 up view list) then some (Z2 up view list,()) else some ([],())) (by omega) ?_ ?_).trans ?_
 ·intro rec;simp only[aqY,aqL,aqD,d,aga list hl,aqC,aqM,aqG,aqJ];rw[if_pos (by omega),if_pos (by omega),if_pos (by omega),if_pos (by omega)];have e:(((up++[47])++Lib.decDigits view.toNat)++[124])++LT list=Z2 up view list:=rfl;rw[e,LK _ (by omega),aqC];cases zG (Z2 up view list)<;>rfl
 ·intro rec i x hx hi;simp only[zv hi,aqH,aqE,aqS,if_true,aqN,zm (e:=jZ) hx,qd,aqC,zq (show i<4611686018427387904 by omega)];cases zI x<;>rfl
 ·cases list.all zI<;>cases zG (Z2 up view list)<;>rfl
theorem Xe (up:List UInt8) (view:Int) (list:zy) (hu:up.length<=1000000000) (hv:0<=view/\view<1000000) (hl:list.length<=2):gy (up,view,list,())=some (jy up view list,()):=by
 have h1:=wi list;have h2:=dl view.toNat (by omega);have d:=Qb view.toNat;rw[asi hv.1] at d;have hn:=rS up view list hv.2;unfold gy jy;refine (B1 list (bif zG (Z2 up view list) then some (Z2 up view list,()) else some ([],())) (by omega) ?_ ?_).trans ?_
 ·intro rec;have h3:decide ((list.length:Int)>2)=false:=by simp; omega
  simp only[aqY,aqL,aqD,d,XC list (by omega),aqC,aqM,aqG,aqJ,h3];rw[if_pos (by omega),if_pos (by omega),if_pos (by omega),if_pos (by omega)];have e:(((up++[47])++Lib.decDigits view.toNat)++[124])++LT list=Z2 up view list:=rfl;rw[e,Lb _ (by omega),aqC];cases zG (Z2 up view list)<;>rfl
 ·intro rec i x hx hi;simp only[zv hi,aqH,aqE,aqS,if_true,aqN,zm (e:=jZ) hx,Ml,aqC,zq (show i<4611686018427387904 by omega)];cases zI x<;>rfl
 ·cases list.all zI<;>cases zG (Z2 up view list)<;>rfl
theorem rR (up:List UInt8) (view:Int) (list:zy) (h:view<1000000):(jy up view list).length<=up.length+8+28*list.length:=by
 have:=rS up view list h;unfold jy;cases (list.all zI && zG (Z2 up view list))
 ·simp
 ·exact this
def eV:y9:=([],0,[],[])
def Y1 (c:za) (q:zF) (view:Int) (list:zy):y9×Bool:=
 bif jn c (jy q.2.1 view list,q) && zl (jy q.2.1 view list)==view then ((jy q.2.1 view list,q),true) else (eV,false)
theorem Im (c:za) (q:zF) (view:Int) (list:zy) (hq:zj q<=500000000) (hv:0<=view/\view<1000000) (hl:list.length<=2):yr (c,q,view,list,())=some ((Y1 c q view list).1,(Y1 c q view list).2,()):=by
 have hu:q.2.1.length<=500000000:=by simp only[zj] at hq; omega
 have hn:=rR q.2.1 view list hv.2;unfold yr Y1;simp only[vz q.2.1 view list (by omega) hv (by omega),qk q (by omega),mY c (jy q.2.1 view list,q) (by simp only[zA]; omega),KT (jy q.2.1 view list) (by omega),Option.bind_some,KH]
 cases jn c (jy q.2.1 view list,q)<;>cases (zl (jy q.2.1 view list)==view)<;>rfl
theorem WR (c:za) (q:zF) (view:Int) (list:zy) (hq:zj q<=500000000) (hv:0<=view/\view<1000000) (hl:list.length<=2):bM (c,q,view,list,())=some ((Y1 c q view list).1,(Y1 c q view list).2,()):=by
 have hu:q.2.1.length<=500000000:=by simp only[zj] at hq; omega
 have hn:=rR q.2.1 view list hv.2;unfold bM Y1;simp only[Xe q.2.1 view list (by omega) hv (by omega),Ny q (by omega),f7 c (jy q.2.1 view list,q) (by simp only[zA]; omega),Lh (jy q.2.1 view list) (by omega),Option.bind_some,KH]
 cases jn c (jy q.2.1 view list,q)<;>cases (zl (jy q.2.1 view list)==view)<;>rfl
theorem UV (c:za) (q:zF) (view:Int) (list:zy) (h:view<1000000):zA (Y1 c q view list).1<=2*zj q+8+28*list.length:=by
 have hn:=rR q.2.1 view list h;unfold Y1;cases (jn c (jy q.2.1 view list,q) && zl (jy q.2.1 view list)==view)
 ·simp[eV,zA,zj,zu]
 ·simp only[aqE,zA];have:q.2.1.length<=zj q:=by simp only[zj]; omega
  omega
noncomputable def fx (c:za) (r:zb):y9×Bool:=Y1 c r.2.2.2.1.2.2.1 r.2.1 (Lx r.2.2.2.2.1 (jF jl (je r.2.2.2.1.2.2.1.2.1)).2)
noncomputable def ask (c:za) (r:zb):y9×Bool:=
 bif zd c r && (yg c r.2.1==r.1 && (!decide (r.2.2.1≥r.2.1) && (r.2.2.2.1.2.2.1.1==wr (r.2.1 - 1) || decide (((yJ r.2.2.2.2.2.1 r.2.1 []).2.2.length:Int)≥Ja c)))) then fx c r else (eV,false)
theorem KP {c:za} {r:zb} (h:zd c r=true):1<=r.2.1/\r.2.1<=60:=by
 unfold zd at h;simp only[aqF,aqP] at h;exact h.2.2.1
theorem aaJ (a b:Int):decide (a<b) = !decide (a≥b):=by
 by_cases h:a<b
 ·have:¬ a≥b:=by omega
  simp[h,this]
 ·have:a≥b:=by omega
  simp[h,this]
theorem Il (c:za) (r:zb) (hw:zf r<=500000000):LI (c,r,())=some ((ask c r).1,(ask c r).2,()):=by
 have hs:=bo hw;have hq:zj r.2.2.2.1.2.2.1<=500000000:=by simp only[zz] at hs; omega
 have hu:r.2.2.2.1.2.2.1.2.1.length<=500000000:=by simp only[zj] at hq; omega
 have ht:zL r.2.2.2.2.2.1<=500000000:=by simp only[zf] at hw; omega
 have hp:=oy hw;have hx:=oq r.2.2.2.1.2.2.1.2.1;obtain⟨l1,l2,_⟩:=lf (je r.2.2.2.1.2.2.1.2.1) ([],jl);have m1:(jF jl (je r.2.2.2.1.2.2.1.2.1)).2.1.length=4:=l1;have m2:(jF jl (je r.2.2.2.1.2.2.1.2.1)).2.2.length=4:=l2;have hk:=eK r.2.2.2.2.1 [] (jF jl (je r.2.2.2.1.2.2.1.2.1)).2 (by simp);unfold LI ask fx;dsimp only;rw[YW c r (by omega),aqC];cases hr:zd c r
 ·rfl
 ·have hv:=KP hr;simp only[aqI,aqD,N9,vJ _ _ _ (show zL r.2.2.2.2.2.1<=137438953472 by omega),vD,Iq,Iz r.2.2.2.1.2.2.1.2.1 (by omega),Iu jl _ (by decide) (by decide) (show (je r.2.2.2.1.2.2.1.2.1).length<=137438953472 by omega),
   afS r.2.2.2.2.1 _ (by omega) (show (jF jl (je r.2.2.2.1.2.2.1.2.1)).2.1.length<=137438953472 by omega) (show (jF jl (je r.2.2.2.1.2.2.1.2.1)).2.2.length<=137438953472 by omega),
   Im c r.2.2.2.1.2.2.1 r.2.1 (Lx r.2.2.2.2.1 (jF jl (je r.2.2.2.1.2.2.1.2.1)).2) hq (by omega) hk,aqC,KH,aaJ,aqU]
  cases (yg c r.2.1==r.1)
  ·rfl
  cases decide (r.2.2.1≥r.2.1)
  ·cases (r.2.2.2.1.2.2.1.1==wr (r.2.1 - 1))
   ·cases decide (((yJ r.2.2.2.2.2.1 r.2.1 []).2.2.length:Int)≥Ja c)<;>rfl
   ·rfl
  ·rfl
theorem WQ (c:za) (r:zb) (hw:zf r<=500000000):f6 (c,r,())=some ((ask c r).1,(ask c r).2,()):=by
 have hs:=bo hw;have hq:zj r.2.2.2.1.2.2.1<=500000000:=by simp only[zz] at hs; omega
 have hu:r.2.2.2.1.2.2.1.2.1.length<=500000000:=by simp only[zj] at hq; omega
 have ht:zL r.2.2.2.2.2.1<=500000000:=by simp only[zf] at hw; omega
 have hp:=oy hw;have hx:=oq r.2.2.2.1.2.2.1.2.1;obtain⟨l1,l2,_⟩:=lf (je r.2.2.2.1.2.2.1.2.1) ([],jl);have m1:(jF jl (je r.2.2.2.1.2.2.1.2.1)).2.1.length=4:=l1;have m2:(jF jl (je r.2.2.2.1.2.2.1.2.1)).2.2.length=4:=l2;have hk:=eK r.2.2.2.2.1 [] (jF jl (je r.2.2.2.1.2.2.1.2.1)).2 (by simp);unfold f6 Li ask fx;dsimp only;rw[ZU c r (by omega),aqC];cases hr:zd c r
 ·rfl
 ·have hv:=KP hr;simp only[aqI,aqD,Qj,pR _ _ _ (show zL r.2.2.2.2.2.1<=137438953472 by omega),pM,Au,AF r.2.2.2.1.2.2.1.2.1 (by omega),Ay jl _ (by decide) (by decide) (show (je r.2.2.2.1.2.2.1.2.1).length<=137438953472 by omega),
   Xk r.2.2.2.2.1 _ (by omega) (show (jF jl (je r.2.2.2.1.2.2.1.2.1)).2.1.length<=137438953472 by omega) (show (jF jl (je r.2.2.2.1.2.2.1.2.1)).2.2.length<=137438953472 by omega),
   WR c r.2.2.2.1.2.2.1 r.2.1 (Lx r.2.2.2.2.1 (jF jl (je r.2.2.2.1.2.2.1.2.1)).2) hq (by omega) hk,aqC,KH,aqU]
  cases (yg c r.2.1==r.1)
  ·rfl
  cases decide (r.2.2.1≥r.2.1)
  ·cases (r.2.2.2.1.2.2.1.1==wr (r.2.1 - 1))
   ·cases decide (((yJ r.2.2.2.2.2.1 r.2.1 []).2.2.length:Int)≥Ja c)<;>rfl
   ·rfl
  ·rfl
theorem wT (c:za) (r:zb):zA (ask c r).1<=2*zf r+100:=by
 have hz:zA eV=0:=rfl;unfold ask;cases hr:zd c r
 ·simp only[ari,aqD,hz]; omega
 ·have hv:=KP hr;have hk:=eK r.2.2.2.2.1 [] (jF jl (je r.2.2.2.1.2.2.1.2.1)).2 (by simp);have hb:=UV c r.2.2.2.1.2.2.1 r.2.1 (Lx r.2.2.2.2.1 (jF jl (je r.2.2.2.1.2.2.1.2.1)).2) (by omega);have hq:zj r.2.2.2.1.2.2.1<=zf r:=by simp only[zf,zz]; omega
  have hk2:(Lx r.2.2.2.2.1 (jF jl (je r.2.2.2.1.2.2.1.2.1)).2).length<=2:=hk;simp only[aqU];generalize (yg c r.2.1==r.1 && (!decide (r.2.2.1≥r.2.1) && (r.2.2.2.1.2.2.1.1==wr (r.2.1 - 1) || decide (((yJ r.2.2.2.2.2.1 r.2.1 []).2.2.length:Int)≥Ja c))))=b;cases b
  ·simp only[aqD,hz]; omega
  ·simp only[aqE,fx]; omega
def Mf (r:zb) (to:Int) (m:zo):zb:=(r.1,r.2.1,r.2.2.1,r.2.2.2.1,r.2.2.2.2.1,r.2.2.2.2.2.1,r.2.2.2.2.2.2.1,r.2.2.2.2.2.2.2++[(to,m)])
noncomputable def ju (c:za) (r:zb) (to:Int) (m:zo):zb×Bool:=
 bif !decide ((r.2.2.2.2.2.2.2.length:Int)≥30) && ZC c r.1 (to,m) then (Mf r to m,true) else (r,false)
noncomputable def tell (c:za) (r:zb) (to:Int) (m:zo):zb×Bool:=bif zd c r then ju c r to m else (r,false)
theorem nR (c:za) (r:zb) (to:Int) (m:zo) (hc:zB c=true) (hr:zf r<=137438953471) (hm:zh m<=137438953471):LQ (c,r,to,m,())=some ((ju c r to m).1,(ju c r to m).2,()):=by
 obtain⟨hc1,hc2⟩:=zS hc;have hl:r.2.2.2.2.2.2.2.length<=137438953471:=by simp only[zf,yu] at hr; omega
 have e1:wr (c.1 - 1)=c.1 - 1:=zg (by omega) (by omega);unfold LQ ju ZC;simp only[aB c m (by omega),Ji,IF m (by omega),e1,aqC,aqG,aqJ];rw[if_pos (by omega)];cases decide ((r.2.2.2.2.2.2.2.length:Int)≥30)<;>cases zR c m<;>cases (decide (to≥0) && decide (to<=c.1 - 1))<;>cases (to==r.1)<;>rfl
theorem QR {c:za} {r:zb} (h:zd c r=true):zB c=true:=by
 unfold zd at h;rw[aqF] at h;exact h.1
theorem Ak (c:za) (r:zb) (to:Int) (m:zo):zd c (Mf r to m)=(zd c r && (!decide ((r.2.2.2.2.2.2.2.length:Int)≥30) && ZC c r.1 (to,m))):=by
 unfold zd Mf;simp only[List.all_append,ard,asq,asn,aqM,aqG,aqJ];by_cases h:(r.2.2.2.2.2.2.2.length:Int)≥30
 ·have e1:decide (((r.2.2.2.2.2.2.2.length+(0+1):Nat):Int)<=30)=false:=by simp; omega
  rw[e1];simp[h]
 ·have e1:decide (((r.2.2.2.2.2.2.2.length+(0+1):Nat):Int)<=30)=true:=by simp; omega
  have e2:decide ((r.2.2.2.2.2.2.2.length:Int)<=30)=true:=by simp; omega
  have e3:decide ((r.2.2.2.2.2.2.2.length:Int)≥30)=false:=by simp; omega
  rw[e1,e2,e3];simp only[aqU,ar1,Bool.and_assoc]
theorem Al (r:zb) (to:Int) (m:zo):zf (Mf r to m)=zf r+(1+zh m):=by
 simp only[Mf,zf,yu,Yf,aqM,arW,asK,aqG,aqJ,aqZ,arn,arh,aso];omega
theorem gU (c:za) (r:zb) (to:Int) (m:zo) (hr:zf r<=500000000) (hm:zh m<=500000000):Lg (c,r,to,m,())=some ((tell c r to m).1,(tell c r to m).2,()):=by
 have hl:r.2.2.2.2.2.2.2.length<=500000000:=by simp only[zf,yu] at hr; omega
 have hw:=Al r to m;have hk:=ZU c (Mf r to m) (by omega);unfold Lg tell ju;simp only[ZW r (by omega),AK m (by omega),aqC,aqG,aqJ];rw[if_pos (by omega)];have e:(r.1,r.2.1,r.2.2.1,r.2.2.2.1,r.2.2.2.2.1,r.2.2.2.2.2.1,r.2.2.2.2.2.2.1,r.2.2.2.2.2.2.2++[(to,m)])=Mf r to m:=rfl;rw[e,hk,Ak,aqC];cases zd c r<;>cases (!decide ((r.2.2.2.2.2.2.2.length:Int)≥30) && ZC c r.1 (to,m))<;>rfl
theorem agx (c:za) (r:zb) (to:Int) (m:zo):zf (tell c r to m).1<=zf r+(1+zh m):=by
 have hw:=Al r to m;unfold tell ju;cases zd c r
 ·simp only[aqD]; omega
 ·cases (!decide ((r.2.2.2.2.2.2.2.length:Int)≥30) && ZC c r.1 (to,m))
  ·simp only[aqE,aqD]; omega
  ·simp only[aqE]; omega
theorem v6 {c:za} {r:zb} {to:Int} {m:zo} (h:(tell c r to m).2=true):zd c (tell c r to m).1=true/\(tell c r to m).1.1=r.1:=by
 have hk:=Ak c r to m;unfold tell ju at h ⊢;cases hr:zd c r
 ·rw[hr] at h; cases h
 ·rw[hr] at h hk;cases hb:(!decide ((r.2.2.2.2.2.2.2.length:Int)≥30) && ZC c r.1 (to,m))
  ·rw[hb] at h; cases h
  ·rw[hb] at hk;simp only[aqE];exact⟨hk,rfl⟩
theorem eN {c:za} {r:zb} (to:Int) (m:zo) (h:zd c r=true):ju c r to m=tell c r to m:=by
 unfold tell; rw[h]; rfl
noncomputable def Jk (c:za) (r:zb) (m:zo):Nat->Nat->zb->zb×Bool
 | 0,_,out=>(out,true)
 | n+1,i,out=>bif ((i:Int)==r.1) then Jk c r m n (i+1) out else bif (tell c out i m).2 then Jk c r m n (i+1) (tell c out i m).1 else (r,false)
noncomputable def YY (c:za) (r:zb) (m:zo):zb×Bool:=bif zd c r then Jk c r m c.1.toNat 0 r else (r,false)
theorem IX (c:za) (r:zb) (m:zo) (z:zb) (hc:4<=c.1/\c.1<=7) (hok:zd c r=true) {G:(Int×zb×zb×Unit->Option (zb×Bool×Unit))->Int×zb×zb×Unit->Option (zb×Bool×Unit)}
  (hG:∀ rec (i:Nat) (out:zb),i<7->zd c out=true->zf out<=zf r+i*(1+zh m)->G rec ((i:Int),z,out,())=bif decide ((i:Int)<c.1) then (bif ((i:Int)==r.1) then rec ((i:Int)+1,z,out,()) else
   bif (tell c out i m).2 then rec ((i:Int)+1,z,(tell c out i m).1,()) else some (r,false,())) else some (out,true,()))
  (hE:∀ rec (out:zb),G rec (c.1,z,out,())=some (out,true,())):
  iter G fuel (0,z,r,())=some ((Jk c r m c.1.toNat 0 r).1,(Jk c r m c.1.toNat 0 r).2,()):=by
 obtain⟨n,hn⟩:∃ n:Nat,c.1=(n:Int):=⟨c.1.toNat,by omega⟩
 refine (walk n (λ i (out:zb)=>(i,z,out,())) (λ i out=>zd c out=true/\zf out<=zf r+i*(1+zh m)) (λ i out=>some ((Jk c r m (n - i) i out).1,(Jk c r m (n - i) i out).2,())) (by omega) ?_ ?_ (s0:=r) ⟨hok,by omega⟩).trans (by rw[hn]; simp)
 ·intro rec out ho;rw[←hn,hE]; simp[Jk]
 ·intro rec i out hi ho;rw[hG rec i out (by omega) ho.1 ho.2,show n - i=(n - (i+1))+1 by omega];simp only[show ((i:Int)<c.1) by omega,aqH,aqE,Jk];cases he:((i:Int)==r.1)
  ·cases ht:(tell c out i m).2
   ·left; rfl
   ·right;have:=agx c out i m;refine⟨(tell c out i m).1,⟨(v6 ht).1,?_⟩,rfl,rfl⟩;rw[arl]; omega
  ·right;exact⟨out,⟨ho.1,by rw[arl]; omega⟩,rfl,rfl⟩
theorem seven {i N:Nat} (h:i<7):i*N<=7*N:=Nat.mul_le_mul (by omega) (Nat.le_refl _)
theorem ag7 (c:za) (r:zb) (m:zo) (hr:zf r<=100000000) (hm:zh m<=10000000):d9 (c,r,m,())=some ((YY c r m).1,(YY c r m).2,()):=by
 unfold d9 YY;dsimp only;rw[Yd r (by omega),aqC,YW c r (by omega),aqC];cases hok:zd c r
 ·rfl
 ·obtain⟨h1,h2⟩:=zS (QR hok);simp only[aqI,aqD,aqE];refine IX c r m _ ⟨h1,h2⟩ hok ?_ ?_
  ·intro rec i out hi ho hwo;have:=seven (N:=1+zh m) hi;simp only[nR c out i m (QR hok) (by omega) (by omega),eN _ _ ho,Yd r (by omega),aqC,zq (show i<4611686018427387904 by omega)];cases decide ((i:Int)<c.1)<;>cases ((i:Int)==r.1)<;>cases (tell c out i m).2<;>rfl
  ·intro rec out;simp only[aqY,aqL,aqD]
theorem Xz (c:za) (r:zb) (m:zo) (hr:zf r<=100000000) (hm:zh m<=10000000):gT (c,r,m,())=some ((YY c r m).1,(YY c r m).2,()):=by
 unfold gT YY;dsimp only;rw[ZW r (by omega),aqC,ZU c r (by omega),aqC];cases hok:zd c r
 ·rfl
 ·obtain⟨h1,h2⟩:=zS (QR hok);simp only[aqI,aqD,aqE];refine IX c r m _ ⟨h1,h2⟩ hok ?_ ?_
  ·intro rec i out hi ho hwo;have:=seven (N:=1+zh m) hi;simp only[gU c out i m (by omega) (by omega),ZW r (by omega),aqC,zq (show i<4611686018427387904 by omega)];cases decide ((i:Int)<c.1)<;>cases ((i:Int)==r.1)<;>cases (tell c out i m).2<;>rfl
  ·intro rec out;simp only[aqY,aqL,aqD]
noncomputable def jt (c:za) (s:zx):List UInt8:=bif zT c s then ((zn s.1++zn s.2.1)++Kg c s.2.2.1)++z8 s.2.2.2 else []
theorem dF (c:za) (s:zx):(jt c s).length<=30+5*zz s:=by
 unfold jt;have h1:=jd s.1;have h2:=jd s.2.1;have h3:=LC c s.2.2.1;have h4:=JK s.2.2.2;cases zT c s
 ·simp
 ·simp only[aqE,aqM,zz]; omega
theorem afW (c:za) (s:zx) (hw:zz s<=10000000000):ny (c,s,())=some (jt c s,()):=by
 have h1:=jd s.1;have h2:=jd s.2.1;have h3:=LC c s.2.2.1;have h4:=JK s.2.2.2;have hq:zj s.2.2.1<=10000000000:=by simp only[zz] at hw; omega
 have hn:s.2.2.2.length<=10000000000:=by simp only[zz] at hw; omega
 unfold ny jt;simp only[aH c s (by omega),MP,vB c s.2.2.1 (by omega),ns s.2.2.2 (by omega),aqC,aqM];rw[if_pos (by omega),if_pos (by omega),if_pos (by omega)];cases zT c s<;>rfl
theorem ab9 (a b:Int):nums [a,b]=zn a++zn b:=by simp[nums]
theorem Xo (c:za) (s:zx) (hw:zz s<=1073741824):gG (c,s,())=some (jt c s,()):=by
 have h1:=jd s.1;have h2:=jd s.2.1;have h3:=LC c s.2.2.1;have h4:=JK s.2.2.2;have hq:zj s.2.2.1<=1073741824:=by simp only[zz] at hw; omega
 have hn:s.2.2.2.length<=1073741824:=by simp only[zz] at hw; omega
 unfold gG jt;simp only[b8 c s (by omega),co [s.1,s.2.1] (by simp),ab9,pL c s.2.2.1 (by omega),gC s.2.2.2 (by omega),Option.bind_some,List.length_append];rw[if_pos (by omega),if_pos (by omega)];cases zT c s<;>rfl
noncomputable def ye (c:za) (s:zx):List UInt8:=bif (((jt c s).length:Int)==0) then [] else (zn ((jt c s).length:Int)++jt c s)++[UInt8.ofNat (Int.toNat 10)]
theorem rX (c:za) (s:zx):(ye c s).length<=40+5*zz s:=by
 unfold ye;have h1:=dF c s;have h2:=jd ((jt c s).length:Int);cases (((jt c s).length:Int)==0)
 ·simp only[aqD,aqM,aqG,aqJ]; omega
 ·simp
theorem afN (c:za) (s:zx) (hw:zz s<=10000000000):nn (c,s,())=some (ye c s,()):=by
 have h1:=dF c s;have h2:=jd ((jt c s).length:Int);unfold nn ye;simp only[afW c s hw,MP,aqC,aqM,aqG,aqJ];rw[if_pos (by omega),if_pos (by omega)];cases (((jt c s).length:Int)==0)<;>rfl
theorem Xf (c:za) (s:zx) (hw:zz s<=1073741824):gz (c,s,())=some (ye c s,()):=by
 have h1:=dF c s;have h2:=jd ((jt c s).length:Int);unfold gz ye;simp only[Xo c s hw,Qf,aqC,aqM,aqG,aqJ];rw[if_pos (by omega),if_pos (by omega)];cases (((jt c s).length:Int)==0)<;>rfl
theorem GF (a b:zx):Ya a b=decide (a=b):=by
 obtain⟨a1,a2,a3,a4⟩:=a;obtain⟨b1,b2,b3,b4⟩:=b;unfold Ya;simp only[lY];rw[asr];simp[Prod.ext_iff]
def bp (r:zb) (s:zx) (d:yZ):zb:=(r.1,r.2.1,r.2.2.1,s,r.2.2.2.2.1,r.2.2.2.2.2.1,d,r.2.2.2.2.2.2.2)
noncomputable def zt (c:za) (r:zb) (s:zx):zb×Bool:=
 bif Ya r.2.2.2.1 s then (r,true) else bif (ja r.2.2.2.2.2.2.1 (ye c s)).2 && zT c s then (bp r s (ja r.2.2.2.2.2.2.1 (ye c s)).1,true) else (r,false)
noncomputable def write (c:za) (r:zb) (s:zx):zb×Bool:=bif zd c r then zt c r s else (r,false)
theorem agX {c:za} {r:zb} {s:zx} (h:(zt c r s).2=false):(zt c r s).1=r:=by
 unfold zt at *;cases h1:Ya r.2.2.2.1 s
 ·rw[h1] at h;cases h2:((ja r.2.2.2.2.2.2.1 (ye c s)).2 && zT c s)
  ·rfl
  ·rw[h2] at h; cases h
 ·rw[h1] at h; cases h
theorem ew (c:za) (r:zb) (s:zx) (hr:zf r<=10000000000) (hs:zz s<=10000000000):Jj (c,r,s,())=some ((zt c r s).1,(zt c r s).2,()):=by
 have h1:=bn hr;have h2:=rX c s;have h3:=bo hr;unfold Jj zt;simp only[afY r.2.2.2.1 s (by omega),afN c s hs,afw r.2.2.2.2.2.2.1 (ye c s) (by omega) (by omega),aH c s (by omega),nN s (by omega),aqC];cases Ya r.2.2.2.1 s<;>cases (ja r.2.2.2.2.2.2.1 (ye c s)).2<;>cases zT c s<;>rfl
theorem wP {d:yZ} {b:List UInt8} (h:(ja d b).2=true):yK (ja d b).1=true:=by
 unfold ja at *;split at h
 ·next hc=>
  rw[if_pos hc];have:=JY.1 hc.1;refine JY.2 ⟨?_,this.2.1,?_⟩
  ·simp only[aqM]; omega
  ·simp only[aqM]; omega
 ·cases h
theorem Ol {c:za} {r:zb} {s:zx} {d:yZ} (hr:zd c r=true) (hd:yK d=true):zd c (bp r s d)=zT c s:=by
 obtain⟨a,v,k,sf,pool,tab,dk,held⟩:=r;show zd c (a,v,k,s,pool,tab,d,held)=_;unfold zd at hr ⊢;simp only[aqF] at hr;obtain⟨a1,a2,a3,a4,a5,a6,a7,a8,a9,a10⟩:=hr;simp only at a1 a2 a3 a4 a5 a6 a7 a8 a9 a10 ⊢;rw[a1,a2.1,a2.2,a3.1,a3.2,a4.1,a4.2,a6,a7,hd,a9,a10];simp
theorem Om (r:zb) (s:zx) (d:yZ):zf (bp r s d)<=zf r+zz s+d.1.length:=by
 simp only[bp,zf,KY]; omega
theorem ka (c:za) (r:zb) (s:zx) (hr:zf r<=100000000) (hs:zz s<=100000000):Mm (c,r,s,())=some ((write c r s).1,(write c r s).2,()):=by
 have h1:=bn hr;have h2:=rX c s;have h3:=bo hr;have h4:=UK r.2.2.2.2.2.2.1 (ye c s);have h5:=Om r s (ja r.2.2.2.2.2.2.1 (ye c s)).1;have hk:=ZU c (bp r s (ja r.2.2.2.2.2.2.1 (ye c s)).1) (by omega);unfold Mm write zt;have e:(r.1,r.2.1,r.2.2.1,s,r.2.2.2.2.1,r.2.2.2.2.2.1,(ja r.2.2.2.2.2.2.1 (ye c s)).1,r.2.2.2.2.2.2.2)=bp r s (ja r.2.2.2.2.2.2.1 (ye c s)).1:=rfl;simp only[ZW r (by omega),ZU c r (by omega),Xq s r.2.2.2.1 (by omega),Xf c s (by omega),WP r.2.2.2.2.2.2.1 (ye c s) (by omega) (by omega),kh s (by omega),aqC,e,hk];have es:Ya s r.2.2.2.1=Ya r.2.2.2.1 s:=by rw[GF,GF]; exact decide_eq_decide.2 ⟨λ h=>h.symm,λ h=>h.symm⟩
 rw[es];cases hok:zd c r
 ·rfl
 ·cases Ya r.2.2.2.1 s
  ·cases ha:(ja r.2.2.2.2.2.2.1 (ye c s)).2
   ·rfl
   ·rw[Ol hok (wP ha)];cases zT c s<;>rfl
  ·rfl
end G448
namespace G448
open Ev
set_option maxRecDepth 100000
noncomputable def JQ (c:za) (ws:yQ) (p:K5):yQ:=
 bif decide (((jx c p.2).length:Int)>0) then (bif (decide (p.1≥0) && decide (p.1<=wr (c.1 - 1))) then (bif decide ((ws.length:Int)<60) then ws++[(p.1,jx c p.2)] else ws) else ws) else ws
noncomputable def Kk (c:za) (ws:yQ) (ps:jw):yQ:=ps.foldl (JQ c) ws
noncomputable def send (w:zr) (ps:jw):zr:=bif ji w then (w.1,w.2.1,w.2.2.1,Kk w.1 w.2.2.2.1 ps,w.2.2.2.2) else w
theorem aeu (c:za) (ws:yQ) (p:K5):Yh (JQ c ws p)<=Yh ws+61+5*Yf p:=by
 have h:=kS c p.2;unfold JQ;cases decide (((jx c p.2).length:Int)>0)
 ·simp only[aqD]; omega
 ·cases (decide (p.1≥0) && decide (p.1<=wr (c.1 - 1)))
  ·simp only[aqD,aqE]; omega
  ·cases decide ((ws.length:Int)<60)
   ·simp only[aqD,aqE]; omega
   ·simp only[aqE,Yh,Yg,bj,Yf,aqM,arW,asK,aqZ,arn,arh,aso,aqG,aqJ] at *;omega
theorem GK (c:za):∀ (ps:jw) (ws:yQ),Yh (Kk c ws ps)<=Yh ws+61*yu ps
 | [],ws=>by simp[Kk]
 | p::ps,ws=>by
  have h1:=aeu c ws p;have h2:=GK c ps (JQ c ws p);have e:Kk c ws (p::ps)=Kk c (JQ c ws p) ps:=rfl;rw[e];simp only[yu,aqG,aqZ,arh] at *;omega
theorem aev (w:zr) (ps:jw):yl (send w ps)<=yl w+61*yu ps:=by
 have h:=GK w.1 ps w.2.2.2.1;unfold send;cases ji w
 ·simp only[aqD]; omega
 ·simp only[aqE,yl] at *; omega
theorem GM (c:za) (l:ym) (rs:Zf) (sd:ya) (ps:jw) (ws:yQ) {G:(Int×zr×Unit->Option (zr×Unit))->Int×zr×Unit->Option (zr×Unit)} (hn:ps.length<=1073741824)
  (ahg:∀ (rec:Int×zr×Unit->Option (zr×Unit)) (i:Nat) (s:yQ) (h:i<ps.length),G rec ((i:Int),(c,l,rs,s,sd),())=rec ((i:Int)+1,(c,l,rs,JQ c s ps[i],sd),()))
  (ahe:∀ (rec:Int×zr×Unit->Option (zr×Unit)) (s:yQ),G rec ((ps.length:Int),(c,l,rs,s,sd),())=some ((c,l,rs,s,sd),())):
  iter G fuel (0,(c,l,rs,ws,sd),())=some ((c,l,rs,Kk c ws ps,sd),()):=by
 refine (walk ps.length (λ i (s:yQ)=>(i,(c,l,rs,s,sd),())) (λ _ _=>True) (λ i s=>some ((c,l,rs,Kk c s (ps.drop i),sd),())) (by omega) ?_ ?_ (s0:=ws) trivial).trans (by simp only[ar4])
 ·intro rec s _;rw[ahe,arb];rfl
 ·intro rec i s hi _;exact .inr ⟨JQ c s ps[i],trivial,ahg rec i s hi,by rw[aqX hi]; rfl⟩
theorem IJ (w:zr) (ps:jw) (hp:yu ps<=1073741824):ez (w,ps,())=some ((w.1,w.2.1,w.2.2.1,Kk w.1 w.2.2.2.1 ps,w.2.2.2.2),()):=by
 have hl:ps.length<=1073741824:=by simp only[yu] at hp; omega
 unfold ez;refine GM w.1 w.2.1 w.2.2.1 w.2.2.2.2 ps w.2.2.2.1 hl ?_ ?_
 ·intro rec i s hi;have hx:ps[i]?=some ps[i]:=List.getElem?_eq_getElem hi;have hm:=ox (Nat.le_refl (yu ps)) hx;have hlt:decide ((i:Int)<(ps.length:Int))=true:=by simp; omega
  simp only[hlt,cond_true,show (0:Int)<=(i:Int)/\(i:Int)<(ps.length:Int) from⟨by omega,by omega⟩,and_self,if_true,Int.toNat_natCast,zm (e:=bu) hx,afM w.1 ps[i].2 (by omega),Option.bind_some,nU,zq (show i<4611686018427387904 by omega),JQ];by_cases h60:(s.length:Int)<60
  ·simp only[h60,aqH,aqE];rw[if_pos (by simp only[aqG,aqJ]; omega)]
   cases decide (((jx w.1 ps[i].2).length:Int)>0)<;>cases (decide (ps[i].1≥0) && decide (ps[i].1<=wr (w.1.1 - 1)))<;>rfl
  ·simp only[h60,aqL,aqD];cases decide (((jx w.1 ps[i].2).length:Int)>0)<;>cases (decide (ps[i].1≥0) && decide (ps[i].1<=wr (w.1.1 - 1)))<;>rfl
 ·intro rec s;simp only[aqY,aqL,aqD]
theorem Xr (w:zr) (ps:jw) (hw:yl w<=1073741824) (hp:yu ps<=1073741824):gK (w,ps,())=some (send w ps,()):=by
 have hl:ps.length<=1073741824:=by simp only[yu] at hp; omega
 unfold gK send;dsimp only;rw[Qs w (by omega),aqC,ci w (WB.of hw (arp _)),aqC];cases ji w
 ·rfl
 ·simp only[aqI,aqD,aqE];refine GM w.1 w.2.1 w.2.2.1 w.2.2.2.2 ps w.2.2.2.1 hl ?_ ?_
  ·intro rec i s hi;have hx:ps[i]?=some ps[i]:=List.getElem?_eq_getElem hi;have hm:=ox (Nat.le_refl (yu ps)) hx;have hlt:decide ((i:Int)<(ps.length:Int))=true:=by simp; omega
   simp only[hlt,cond_true,show (0:Int)<=(i:Int)/\(i:Int)<(ps.length:Int) from⟨by omega,by omega⟩,and_self,if_true,Int.toNat_natCast,zm (e:=bu) hx,Av w.1 ps[i].2 (by omega),Option.bind_some,pT,zq (show i<4611686018427387904 by omega),JQ];by_cases h60:(s.length:Int)<60
   ·simp only[h60,aqH,aqE];rw[if_pos (by simp only[aqG,aqJ]; omega)]
    cases decide (((jx w.1 ps[i].2).length:Int)>0)<;>cases (decide (ps[i].1≥0) && decide (ps[i].1<=wr (w.1.1 - 1)))<;>rfl
   ·simp only[h60,aqL,aqD];cases decide (((jx w.1 ps[i].2).length:Int)>0)<;>cases (decide (ps[i].1≥0) && decide (ps[i].1<=wr (w.1.1 - 1)))<;>rfl
  ·intro rec s;simp only[aqY,aqL,aqD]
end G448
namespace G448
open Ev Go
set_option maxRecDepth 100000
abbrev Oz:Ty:=.pair .i64 (.sl 0 (.pair .i64 (.pair .i64 (.pair .i64 .i64))))
def oD:zF:=(0,[],[])
noncomputable def Z4 (c:za) (p:zJ):zF×Bool:=bif p.2.1==[] then (oD,false) else bif zP c p then (p,true) else (oD,false)
theorem abt {c:za} {q:zF} (h:zP c q=true):(q.1==0)=(q.2.1==[]):=by
 unfold zP at h;simp only[aqF,ar5] at h;obtain⟨_,hn,hv,_⟩:=h;by_cases h0:q.2.1=[]
 ·have:=rT.2;rw[←h0,hv] at this;rw[this,h0]; rfl
 ·have:=(NG hn h0).1;have e1:(q.2.1==[])=false:=beq_eq_false_iff_ne.2 h0;have e2:(q.1==0)=false:=beq_eq_false_iff_ne.2 (by omega);rw[e1,e2]
theorem afP (c:za) (p:zJ) (hw:zp p<=137438953472):nq (c,p,())=some ((Z4 c p).1,(Z4 c p).2,()):=by
 have h1:p.2.2.length<=137438953472:=by simp only[zp,zu] at hw; omega
 have h2:zj p<=137438953472:=hw;unfold nq Z4 oD;dsimp only;rw[if_pos (by omega)];simp only[ar6];rw[MQ c (p.1,p.2.1,p.2.2) h2,aqC];show _=some ((bif p.2.1==[] then ((0,[],[]),false) else bif zP c (p.1,p.2.1,p.2.2) then (p,true) else ((0,[],[]),false)).1,_,());cases (p.2.1==([]:List UInt8))
 ·cases zP c (p.1,p.2.1,p.2.2)<;>rfl
 ·rfl
theorem Xh (c:za) (p:zJ) (hw:zp p<=1073741824):gA (c,p,())=some ((Z4 c p).1,(Z4 c p).2,()):=by
 have h2:zj p<=1073741824:=hw;unfold gA Z4 oD;dsimp only;rw[Ny p (by omega),aqC,Mi c p h2,aqC];cases h:zP c p
 ·cases (p.2.1==([]:List UInt8))<;>rfl
 ·have e:=abt h;dsimp only;rw[e];cases (p.2.1==([]:List UInt8))<;>rfl
theorem B7 {c:za} {p:zJ} (h:(Z4 c p).2=true):(Z4 c p).1=p/\zP c p=true:=by
 unfold Z4 at *;cases h1:(p.2.1==([]:List UInt8))
 ·rw[h1] at h;cases h2:zP c p
  ·rw[h2] at h; cases h
  ·exact⟨rfl,rfl⟩
 ·rw[h1] at h; cases h
def My (a b:zF):zF:=bif decide (a.1>b.1) then a else b
theorem afT (a b:zF) (ha:zj a<=137438953472) (hb:zj b<=137438953472):nu (a,b,())=some (My a b,()):=by
 unfold nu My;dsimp only;rw[qk a ha,qk b hb];cases decide (a.1>b.1)<;>rfl
theorem Xl (a b:zF) (ha:zj a<=137438953472) (hb:zj b<=137438953472):gD (a,b,())=some (My a b,()):=by
 unfold gD My;dsimp only;rw[Ny a ha,Ny b hb];cases decide (a.1>b.1)<;>rfl
theorem qq (s:List UInt8):(Ye s).length<=s.length:=by
 unfold Ye;split
 ·split
  ·rw[aqV]; omega
  ·simp
 ·simp
noncomputable def jG (l:List YD) (k:Int):Int:=(rd Oz l (Int.toNat (wr ((l.length:Int) - k)))).1
noncomputable def Zm (s:List UInt8):List UInt8×Bool:=
 bif decide (((steps s).1.length:Int)<3) then ([],false) else
 bif jG (steps s).1 1 != wr (jG (steps s).1 2+1) then ([],false) else
 bif jG (steps s).1 2 != wr (jG (steps s).1 3+1) then ([],false) else (Ye (Ye s),true)
theorem Mp {l:List YD} (h:¬ ((l.length:Int)<3)) (h2:l.length<=30) (k:Int) (hk:1<=k/\k<=3):0<=wr ((l.length:Int) - k)/\wr ((l.length:Int) - k)<(l.length:Int):=by
 rw[zg (by omega) (by omega)];omega
theorem ag1 (s:List UInt8) (hs:s.length<=137438953472):nD (s,())=some ((Zm s).1,(Zm s).2,()):=by
 have hu:=qq s;obtain⟨p1,p2⟩:=be s;unfold nD Zm;dsimp only;rw[nF s hs,aqC];cases h:(steps s).2
 ·rw[p1 h]; rfl
 ·dsimp only;by_cases h3:((steps s).1.length:Int)<3
  ·simp only[h3,aqH,aqE,aqI,aqD]
  ·simp only[h3,aqL,aqD,aqI];rw[if_pos (Mp h3 p2 1 (by decide)),if_pos (Mp h3 p2 2 (by decide)),if_pos (Mp h3 p2 2 (by decide)),if_pos (Mp h3 p2 3 (by decide)),eg s hs,aqC,eg (Ye s) (by omega),aqC];show (bif jG (steps s).1 1 != wr (jG (steps s).1 2+1) then _ else bif jG (steps s).1 2 != wr (jG (steps s).1 3+1) then _ else _)=_;cases (jG (steps s).1 1 != wr (jG (steps s).1 2+1))<;>cases (jG (steps s).1 2 != wr (jG (steps s).1 3+1))<;>rfl
theorem Xt (s:List UInt8) (hs:s.length<=1073741824):gM (s,())=some ((Zm s).1,(Zm s).2,()):=by
 have hu:=qq s;obtain⟨p1,p2⟩:=be s;unfold gM Zm;dsimp only;rw[gP s hs,aqC];dsimp only;by_cases h3:((steps s).1.length:Int)<3
 ·simp only[h3,aqH,aqE]
 ·simp only[h3,aqL,aqD];rw[if_pos (Mp h3 p2 1 (by decide)),if_pos (Mp h3 p2 2 (by decide)),if_pos (Mp h3 p2 2 (by decide)),if_pos (Mp h3 p2 3 (by decide)),gY s hs,aqC,gY (Ye s) (by omega),aqC];show (bif jG (steps s).1 1 != wr (jG (steps s).1 2+1) then _ else bif jG (steps s).1 2 != wr (jG (steps s).1 3+1) then _ else _)=_;cases (jG (steps s).1 1 != wr (jG (steps s).1 2+1))<;>cases (jG (steps s).1 2 != wr (jG (steps s).1 3+1))<;>rfl
theorem vp (s:List UInt8):(Zm s).1.length<=s.length:=by
 have h1:=qq s;have h2:=qq (Ye s);unfold Zm;cases decide (((steps s).1.length:Int)<3)
 ·cases (jG (steps s).1 1 != wr (jG (steps s).1 2+1))
  ·cases (jG (steps s).1 2 != wr (jG (steps s).1 3+1))
   ·simp only[aqD]; omega
   ·simp
  ·simp
 ·simp
noncomputable def L9 (a b:List UInt8):Bool:=
 zG a && (zG b && (!decide ((b.length:Int)>(a.length:Int)) && (a.take b.length==b && ((a.length:Int)==(b.length:Int) || a.getD b.length 0==UInt8.ofNat (Int.toNat 47)))))
theorem afA (a b:List UInt8) (ha:a.length<=137438953472) (hb:b.length<=137438953472):m9 (a,b,())=some (L9 a b,()):=by
 unfold m9 L9;dsimp only;rw[LK a ha,aqC,LK b hb,aqC];cases zG a
 ·rfl
 cases zG b
 ·rfl
 by_cases hl:(b.length:Int)>(a.length:Int)
 ·simp only[hl,aqH,aqE,aqI,aqD,ari,arB,aqU]
 ·simp only[hl,aqL,aqD,aqI,ar1,aqU];rw[if_pos (by omega)];simp only[aqN,show Int.toNat 0=0 from rfl,arK,ar4,bne];cases a.take b.length==b
  ·rfl
  ·simp only[aqI,aqD,aqU];cases he:((a.length:Int)==(b.length:Int))
   ·have:(a.length:Int)≠(b.length:Int):=by simpa using he
    simp only[aqD,asl];rw[if_pos (by omega)]
   ·rfl
theorem WX (a b:List UInt8) (ha:a.length<=1073741824) (hb:b.length<=1073741824):gg (a,b,())=some (L9 a b,()):=by
 unfold gg L9 vX pU;dsimp only;rw[Lb a ha,aqC,Lb b hb,aqC];cases zG a
 ·rfl
 cases zG b
 ·rfl
 by_cases hl:(b.length:Int)>(a.length:Int)
 ·have:¬ ((a.length:Int)≥(b.length:Int)):=by omega
  simp only[hl,this,aqH,aqL,aqE,aqI,aqD,ari,arB,aqU,aqC]
 ·have:(a.length:Int)≥(b.length:Int):=by omega
  simp only[hl,this,aqH,aqL,aqE,aqD,aqI,ar1,aqU];rw[if_pos (show (0:Int)<=0/\(0:Int)<=(b.length:Int)/\True from⟨by omega,by omega,trivial⟩)];simp only[aqN,show Int.toNat 0=0 from rfl,arK,ar4,aqC];cases a.take b.length==b
  ·rfl
  ·simp only[aqE,aqU];cases he:((a.length:Int)==(b.length:Int))
   ·have:(a.length:Int)≠(b.length:Int):=by simpa using he
    simp only[aqD,asl];rw[if_pos (by omega)]
   ·rfl
noncomputable def see (c:za) (s:zx) (q:zF):zx:=
 bif !zT c s then s else bif !zP c q then s else (s.1,max s.2.1 (zl (Ye q.2.1)),My q s.2.2.1,bif (Zm q.2.1).2 && L9 (Zm q.2.1).1 s.2.2.2 then (Zm q.2.1).1 else s.2.2.2)
theorem BM (a b:Int):mx a b=max a b:=by rw[Ms]; omega
theorem vF (c:za) (s:zx) (q:zF) (hs:zz s<=10000000000) (hq:zj q<=10000000000):aJ (c,s,q,())=some (see c s q,()):=by
 have h1:q.2.1.length<=10000000000:=by simp only[zj] at hq; omega
 have h2:=qq q.2.1;have h3:=vp q.2.1;have h4:zj s.2.2.1<=10000000000/\s.2.2.2.length<=10000000000:=by simp only[zz] at hs; omega
 unfold aJ see;dsimp only;rw[nN s (by omega),aqC,aH c s (by omega),aqC,MQ c q (by omega),aqC,afT q s.2.2.1 (by omega) (by omega),aqC,eg q.2.1 (by omega),aqC,KT (Ye q.2.1) (by omega),aqC,bd,aqC,
  ag1 q.2.1 (by omega),aqC,afA (Zm q.2.1).1 s.2.2.2 (by omega) (by omega),aqC]
 cases zT c s
 ·rfl
 cases zP c q
 ·rfl
 cases (Zm q.2.1).2
 ·rfl
 cases L9 (Zm q.2.1).1 s.2.2.2<;>rfl
theorem pO (c:za) (s:zx) (q:zF) (hs:zz s<=1073741824) (hq:zj q<=1073741824):Qm (c,s,q,())=some (see c s q,()):=by
 have h1:q.2.1.length<=1073741824:=by simp only[zj] at hq; omega
 have h2:=qq q.2.1;have h3:=vp q.2.1;have h4:zj s.2.2.1<=1073741824/\s.2.2.2.length<=1073741824:=by simp only[zz] at hs; omega
 unfold Qm see;dsimp only;rw[kh s (by omega),aqC,b8 c s (by omega),aqC,Mi c q (by omega),aqC,Xl q s.2.2.1 (by omega) (by omega),aqC,gY q.2.1 (by omega),aqC,Lh (Ye q.2.1) (by omega),aqC,
  Xt q.2.1 (by omega),aqC,WX (Zm q.2.1).1 s.2.2.2 (by omega) (by omega),aqC]
 simp only[BM];cases zT c s
 ·rfl
 cases zP c q
 ·rfl
 cases (Zm q.2.1).2
 ·rfl
 cases L9 (Zm q.2.1).1 s.2.2.2<;>rfl
theorem N1 (c:za) (s:zx) (q:zF):zz (see c s q)<=zz s+2*zj q:=by
 have h3:=vp q.2.1;unfold see My;cases zT c s
 ·simp only[ar1,aqE]; omega
 cases zP c q
 ·simp only[ar1,aqE,aqI,aqD]; omega
 simp only[aqI,aqD,zz];have h5:q.2.1.length<=zj q:=by simp only[zj]; omega
 cases decide (q.1>s.2.2.1.1)<;>cases ((Zm q.2.1).2 && L9 (Zm q.2.1).1 s.2.2.2)<;>simp only[aqE,aqD]<;>omega
noncomputable def seat (c:za) (v i:Int):Int:=bif zB c && (!decide (v<0) && (decide (i≥0) && decide (i<=c.1 - 1))) then (i+c.1 - v % c.1) % c.1 else -1
noncomputable def sits (c:za) (v p:Int):Int:=bif zB c && (!decide (v<0) && (decide (p≥0) && decide (p<=c.1 - 1))) then (v % c.1+p) % c.1 else -1
theorem MW {a n:Int} (h:0<=a):Int.tmod a n=a % n:=Int.tmod_eq_emod_of_nonneg h
theorem d5 (c:za) (v i:Int):aI (c,v,i,())=some (seat c v i,()):=by
 unfold aI seat;dsimp only;rw[JS,aqC];cases h:zB c
 ·rfl
 obtain⟨h1,h2⟩:=zS h;have e1:wr (c.1 - 1)=c.1 - 1:=zg (by omega) (by omega);by_cases hv:v<0
 ·simp only[hv,aqH,aqE,aqI,aqD,ari,arB,aqU]
 simp only[hv,aqL,aqD,aqI,ar1,aqU,nU,aqC,e1];by_cases hi:i≥0/\i<=c.1 - 1
 ·have a1:0<=v % c.1:=Int.emod_nonneg _ (by omega);have a2:v % c.1<c.1:=Int.emod_lt_of_pos _ (by omega);simp only[hi.1,hi.2,aqH,arD,aqI,aqD,aqE];rw[if_neg (by omega),if_neg (by omega),MW (show 0<=v by omega),zg (show -9223372036854775808<=i+c.1 by omega) (by omega),zg (by omega) (by omega),MW (by omega)]
 ·have:(decide (i≥0) && decide (i<=c.1 - 1))=false:=by
   rw[asL]; intro h; simp only[aqF,aqP] at h; exact hi h
  simp only[this,ar1,aqE,aqD]
theorem Ql (c:za) (v i:Int):Qk (c,v,i,())=some (seat c v i,()):=by
 unfold Qk seat;dsimp only;rw[J5,aqC];cases h:zB c
 ·rfl
 obtain⟨h1,h2⟩:=zS h;have e1:wr (c.1 - 1)=c.1 - 1:=zg (by omega) (by omega);by_cases hv:v<0
 ·simp only[hv,aqH,aqE,aqI,aqD,ari,arB,aqU]
 simp only[hv,aqL,aqD,aqI,ar1,aqU,pT,aqC,e1];by_cases hi:i≥0/\i<=c.1 - 1
 ·have a1:0<=v % c.1:=Int.emod_nonneg _ (by omega);have a2:v % c.1<c.1:=Int.emod_lt_of_pos _ (by omega);simp only[hi.1,hi.2,aqH,arD,aqI,aqD,aqE];rw[if_neg (by omega),if_neg (by omega),MW (show 0<=v by omega),zg (show -9223372036854775808<=i - v % c.1 by omega) (by omega),zg (by omega) (by omega),MW (by omega),show i - v % c.1+c.1=i+c.1 - v % c.1 by omega]
 ·have:(decide (i≥0) && decide (i<=c.1 - 1))=false:=by
   rw[asL]; intro h; simp only[aqF,aqP] at h; exact hi h
  simp only[this,ar1,aqE,aqD]
theorem ag2 (c:za) (v p:Int):nE (c,v,p,())=some (sits c v p,()):=by
 unfold nE sits;dsimp only;rw[JS,aqC];cases h:zB c
 ·rfl
 obtain⟨h1,h2⟩:=zS h;have e1:wr (c.1 - 1)=c.1 - 1:=zg (by omega) (by omega);by_cases hv:v<0
 ·simp only[hv,aqH,aqE,aqI,aqD,ari,arB,aqU]
 simp only[hv,aqL,aqD,aqI,ar1,aqU,nU,aqC,e1];by_cases hi:p≥0/\p<=c.1 - 1
 ·have a1:0<=v % c.1:=Int.emod_nonneg _ (by omega);have a2:v % c.1<c.1:=Int.emod_lt_of_pos _ (by omega);simp only[hi.1,hi.2,aqH,arD,aqI,aqD,aqE];rw[if_neg (by omega),if_neg (by omega),MW (show 0<=v by omega),zg (by omega) (by omega),MW (by omega)]
 ·have:(decide (p≥0) && decide (p<=c.1 - 1))=false:=by
   rw[asL]; intro h; simp only[aqF,aqP] at h; exact hi h
  simp only[this,ar1,aqE,aqD]
theorem Xu (c:za) (v p:Int):gO (c,v,p,())=some (sits c v p,()):=by
 unfold gO sits;dsimp only;rw[J5,aqC];cases h:zB c
 ·rfl
 obtain⟨h1,h2⟩:=zS h;have e1:wr (c.1 - 1)=c.1 - 1:=zg (by omega) (by omega);by_cases hv:v<0
 ·simp only[hv,aqH,aqE,aqI,aqD,ari,arB,aqU]
 simp only[hv,aqL,aqD,aqI,ar1,aqU,pT,aqC,e1];by_cases hi:p≥0/\p<=c.1 - 1
 ·have a1:0<=v % c.1:=Int.emod_nonneg _ (by omega);have a2:v % c.1<c.1:=Int.emod_lt_of_pos _ (by omega);simp only[hi.1,hi.2,aqH,arD,aqI,aqD,aqE];rw[if_neg (by omega),if_neg (by omega),MW (show 0<=v by omega),zg (by omega) (by omega),MW (by omega)]
 ·have:(decide (p≥0) && decide (p<=c.1 - 1))=false:=by
   rw[asL]; intro h; simp only[aqF,aqP] at h; exact hi h
  simp only[this,ar1,aqE,aqD]
theorem LG {c:za} {v i:Int} (h:0<=seat c v i):zB c=true/\0<=v/\0<=i/\i<=c.1 - 1/\seat c v i=(i+c.1 - v % c.1) % c.1:=by
 unfold seat at *;cases hc:(zB c && (!decide (v<0) && (decide (i≥0) && decide (i<=c.1 - 1))))
 ·rw[hc] at h; simp only[aqD] at h; omega
 ·simp only[aqF,arc,as1,aqP] at hc;exact⟨hc.1,by omega,hc.2.2.1,hc.2.2.2,rfl⟩
noncomputable def up (c:za) (v i:Int):Int:=bif decide (seat c v i<=0) then -1 else sits c v ((seat c v i - 1) / c.2)
theorem u9 {c:za} {v i:Int} (h:0<=seat c v i):seat c v i<c.1:=by
 obtain⟨h1,_,_,_,h5⟩:=LG h;have:=zS h1;rw[h5];exact Int.emod_lt_of_pos _ (by omega)
theorem wk {c:za} {v i:Int} (h:¬ seat c v i<=0):wr (Int.tdiv (wr (seat c v i - 1)) c.2)=(seat c v i - 1) / c.2/\¬ c.2=0/\0<=(seat c v i - 1) / c.2/\(seat c v i - 1) / c.2<=seat c v i - 1:=by
 obtain⟨h1,_⟩:=LG (c:=c) (v:=v) (i:=i) (by omega);have hlt:=u9 (c:=c) (v:=v) (i:=i) (by omega);obtain⟨c1,c2⟩:=zS h1;have hf:1<=c.2/\c.2<=6:=by
  unfold zB at h1;simp only[aqF,aqP] at h1;exact h1.2
 have hd0:0<=(seat c v i - 1) / c.2:=Int.ediv_nonneg (by omega) (by omega);have hd1:(seat c v i - 1) / c.2<=seat c v i - 1:=Int.ediv_le_self _ (by omega);refine⟨?_,by omega,hd0,hd1⟩;rw[zg (show -9223372036854775808<=seat c v i - 1 by omega) (by omega),Int.tdiv_eq_ediv_of_nonneg (by omega),zg (by omega) (by omega)]
theorem IA (c:za) (v i:Int):aP (c,v,i,())=some (up c v i,()):=by
 unfold aP up;dsimp only;rw[d5,aqC];by_cases h:seat c v i<=0
 ·simp only[h,aqH,aqE]
 ·obtain⟨e1,e2,_⟩:=wk h;simp only[h,aqL,aqD,e1];rw[if_neg e2,ag2,aqC]
theorem AG (c:za) (v i:Int):Qp (c,v,i,())=some (up c v i,()):=by
 unfold Qp up;dsimp only;rw[Ql,aqC];by_cases h:seat c v i<=0
 ·have h':seat c v i<1:=by omega
  simp only[h,h',aqH,aqE]
 ·have h':¬ seat c v i<1:=by omega
  obtain⟨e1,e2,_⟩:=wk h;simp only[h,h',aqL,aqD,e1];rw[if_neg e2,Xu,aqC]
theorem abD {n a p:Int} (hn:4<=n/\n<=7) (ha:0<=a/\a<n) (hp:0<=p/\p<n):((a+p) % n+n - a) % n=p:=by
 have h:n=4∨n=5∨n=6∨n=7:=by omega
 rcases h with rfl|rfl|rfl|rfl<;>omega
theorem va {c:za} {v i:Int} (h:0<=seat c v i):seat c v (up c v i)<seat c v i /\ -1<=seat c v (up c v i):=by
 obtain⟨h1,h2,h3,h4,h5⟩:=LG h;have hlt:=u9 h;obtain⟨c1,c2⟩:=zS h1;by_cases h0:seat c v i<=0
 ·have e:up c v i = -1:=by unfold up; simp only[h0,aqH,aqE]
  rw[e];have e2:seat c v (-1) = -1:=by unfold seat; simp
  rw[e2]; omega
 ·obtain⟨_,_,d0,d1⟩:=wk h0;obtain⟨p,hp⟩:∃ p,p=(seat c v i - 1) / c.2:=⟨_,rfl⟩
  rw[←hp] at d0 d1;have a1:0<=v % c.1:=Int.emod_nonneg _ (by omega);have a2:v % c.1<c.1:=Int.emod_lt_of_pos _ (by omega);have e:up c v i=(v % c.1+p) % c.1:=by
   unfold up sits;have k1:decide (v<0)=false:=decide_eq_false (by omega);have k2:decide (p≥0)=true:=decide_eq_true (by omega);have k3:decide (p<=c.1 - 1)=true:=decide_eq_true (by omega);simp only[h0,aqL,aqD,←hp,h1,k1,k2,k3,ar1,arD,aqE]
  have b1:0<=(v % c.1+p) % c.1:=Int.emod_nonneg _ (by omega);have b2:(v % c.1+p) % c.1<c.1:=Int.emod_lt_of_pos _ (by omega);have e2:seat c v (up c v i)=((v % c.1+p) % c.1+c.1 - v % c.1) % c.1:=by
   rw[e];have k1:decide (v<0)=false:=decide_eq_false (by omega);have k2:decide ((v % c.1+p) % c.1≥0)=true:=decide_eq_true (by omega);have k3:decide ((v % c.1+p) % c.1<=c.1 - 1)=true:=decide_eq_true (by omega);unfold seat;simp only[h1,k1,k2,k3,ar1,arD,aqE]
  have e3:((v % c.1+p) % c.1+c.1 - v % c.1) % c.1=p:=abD ⟨c1,c2⟩ ⟨a1,a2⟩ ⟨d0,by omega⟩;rw[e2,e3];omega
noncomputable def Ku (c:za) (v:Int):Nat->Int->List Int
 | 0,_=>[]
 | k+1,x=>bif decide (seat c v x≥0) then x::Ku c v k (up c v x) else []
noncomputable def jD (c:za) (v x:Int):Nat:=(seat c v x+1).toNat
noncomputable def way (c:za) (v x:Int):List Int:=Ku c v (jD c v x) x
theorem wq (c:za) (v:Int):∀ (k:Nat) (x:Int),jD c v x<=k->Ku c v k x=way c v x
 | 0,x,h=>by
  unfold way;have:jD c v x=0:=by omega
  rw[this]
 | k+1,x,h=>by
  unfold way;by_cases hs:seat c v x≥0
  ·have hm:jD c v x=(seat c v x).toNat+1:=by unfold jD; omega
   obtain⟨u1,u2⟩:=va hs;have hu:jD c v (up c v x)<=(seat c v x).toNat:=by unfold jD; omega
   rw[hm];simp only[Ku,hs,aqH,aqE];rw[wq c v k _ (by omega),wq c v _ _ hu]
  ·have hm:jD c v x=0:=by unfold jD; omega
   rw[hm];simp only[Ku,hs,aqL,aqD]
theorem agP {c:za} {v x:Int} (h:seat c v x≥0):way c v x=x::way c v (up c v x):=by
 obtain⟨u1,u2⟩:=va h;have hm:jD c v x=(seat c v x).toNat+1:=by unfold jD; omega
 have hu:jD c v (up c v x)<=(seat c v x).toNat:=by unfold jD; omega
 show Ku c v (jD c v x) x=_;rw[hm];simp only[Ku,h,aqH,aqE];rw[wq c v _ _ hu]
theorem agQ {c:za} {v x:Int} (h:¬ seat c v x≥0):way c v x=[]:=by
 have hm:jD c v x=0:=by unfold jD; omega
 show Ku c v (jD c v x) x=_;rw[hm]; rfl
theorem Of (c:za) (v:Int):∀ (k:Nat) (x:Int),(Ku c v k x).length<=k
 | 0,x=>by simp[Ku]
 | k+1,x=>by
  simp only[Ku];cases decide (seat c v x≥0)
  ·simp
  ·have:=Of c v k (up c v x);simp only[aqE,aqG]; omega
theorem wo (c:za) (v x:Int):jD c v x<=7:=by
 unfold jD;by_cases h:0<=seat c v x
 ·have h1:=u9 h;have:=zS (LG h).1;omega
 ·omega
theorem Og (c:za) (v x:Int):(way c v x).length<=7:=Nat.le_trans (Of c v _ x) (wo c v x)
theorem Oh (c:za) (v x:Int) {G:(Int×List Int×Unit->Option (List Int×Unit))->Int×List Int×Unit->Option (List Int×Unit)}
  (hon:∀ rec y out,seat c v y≥0->out.length<=7->G rec (y,out,())=rec (up c v y,out++[y],())) (ajU:∀ rec y out,¬ seat c v y≥0->G rec (y,out,())=some (out,())):
  iter G fuel (x,[],())=some (way c v x,()):=by
 refine (Qw (λ y:Int×List Int×Unit=>some (y.2.1++way c v y.1,())) (λ y=>jD c v y.1) (λ y=>y.2.1.length+jD c v y.1<=7) ?_ fuel (x,[],()) (by simp only[aqJ]; have:=wo c v x; omega)
  (by show jD c v x<fuel; have:=wo c v x; have:=Y2 (n:=7) (by decide); omega)).trans (by simp)
 rintro rec ⟨y,out,⟨⟩⟩ hI ah3;simp only at hI ⊢;by_cases h:seat c v y≥0
 ·obtain⟨u1,u2⟩:=va h;have hm:jD c v (up c v y)<jD c v y:=by unfold jD; omega
  rw[hon rec y out h (by omega),ah3 (up c v y,out++[y],()) (by simp only[aqM,aqG,aqJ]; omega) hm,agP h]
  simp
 ·rw[ajU rec y out h,agQ h]; simp
theorem agd (c:za) (v x:Int):nM (c,v,x,())=some (way c v x,()):=by
 unfold nM;refine Oh c v x ?_ ?_
 ·intro rec y out h hl;simp only[d5,aqC,h,aqH,aqE,IA];rw[if_pos (by simp only[aqG,aqJ]; omega)]
 ·intro rec y out h;simp only[d5,aqC,h,aqL,aqD]
theorem XF (c:za) (v x:Int):g8 (c,v,x,())=some (way c v x,()):=by
 unfold g8;refine Oh c v x ?_ ?_
 ·intro rec y out h hl;simp only[Ql,aqC,h,aqH,aqE,AG];rw[if_pos (by simp only[aqG,aqJ]; omega)]
 ·intro rec y out h;simp only[Ql,aqC,h,aqL,aqD]
noncomputable def qp (c:za) (v i:Int):Nat->Nat->List Int->List Int
 | 0,_,out=>out
 | k+1,j,out=>qp c v i k (j+1) (bif (way c v (j:Int)).any (· == i) then out++[(j:Int)] else out)
noncomputable def under (c:za) (v i:Int):List Int:=bif decide (seat c v i≥0) then qp c v i c.1.toNat 0 [] else []
theorem I5 (c:za) (v i:Int):∀ (k j:Nat) (out:List Int),(qp c v i k j out).length<=out.length+k
 | 0,_,out=>by simp[qp]
 | k+1,j,out=>by
  simp only[qp];have:=I5 c v i k (j+1) (bif (way c v (j:Int)).any (· == i) then out++[(j:Int)] else out);cases h:(way c v (j:Int)).any (· == i)
  ·rw[h] at this; simp only[aqD] at this ⊢; omega
  ·rw[h] at this; simp only[aqE,aqM,aqG,aqJ] at this ⊢; omega
theorem I6 (c:za) (v i:Int):(under c v i).length<=7:=by
 unfold under;by_cases h:seat c v i≥0
 ·have h1:=zS (LG h).1;have:=I5 c v i c.1.toNat 0 [];simp only[h,aqH,aqE,aqJ] at this ⊢;omega
 ·simp only[h,aqL,aqD,aqJ]; omega
theorem I7 (c:za) (v i:Int) (hs:seat c v i≥0) {G:(List Int×Int×Unit->Option (List Int×Unit))->List Int×Int×Unit->Option (List Int×Unit)}
  (hon:∀ (rec:List Int×Int×Unit->Option (List Int×Unit)) (j:Nat) out,(j:Int)<c.1->out.length<=7->G rec (out,(j:Int),())=rec ((bif (way c v (j:Int)).any (· == i) then out++[(j:Int)] else out),(j:Int)+1,()))
  (ajU:∀ (rec:List Int×Int×Unit->Option (List Int×Unit)) out,G rec (out,c.1,())=some (out,())):
  iter G fuel ([],0,())=some (under c v i,()):=by
 obtain⟨c1,c2⟩:=zS (LG hs).1;obtain⟨n,hn⟩:∃ n:Nat,c.1=(n:Int):=⟨c.1.toNat,by omega⟩
 have e:under c v i=qp c v i n 0 []:=by
  unfold under;simp only[hs,aqH,aqE,hn,aqN]
 rw[e];refine (walk n (λ j (out:List Int)=>(out,j,())) (λ j out=>out.length<=j) (λ j out=>some (qp c v i (n - j) j out,())) (by omega) ?_ ?_ (s0:=[]) (by simp)).trans (by simp)
 ·intro rec out _;have:=ajU rec out;rw[hn] at this;rw[this,Nat.sub_self];rfl
 ·intro rec j out hj hI;refine .inr ⟨_,?_,hon rec j out (by omega) (by omega),?_⟩
  ·cases (way c v (j:Int)).any (· == i)
   ·simp only[aqD]; omega
   ·simp only[aqE,aqM,aqG,aqJ]; omega
  ·rw[show n - j=(n - (j+1))+1 by omega]; rfl
theorem agb (c:za) (v i:Int):nL (c,v,i,())=some (under c v i,()):=by
 unfold nL;dsimp only;rw[JS,aqC];by_cases hs:seat c v i≥0
 ·rw[(LG hs).1];simp only[aqI,aqD];obtain⟨c1,c2⟩:=zS (LG hs).1;refine I7 c v i hs ?_ ?_
  ·intro rec j out hj hl;have hw:=Og c v (j:Int);simp only[hj,aqH,aqE,d5,aqC,hs,agd,Jh _ i (show (way c v (j:Int)).length<=1152921504606846976 by omega),zq (show j<4611686018427387904 by omega)];cases (way c v (j:Int)).any (· == i)
   ·rfl
   ·simp only[aqE];rw[if_pos (by simp only[aqG,aqJ]; omega)]
  ·intro rec out;simp only[aqY,aqL,aqD]
 ·have e:under c v i=[]:=by unfold under; simp only[hs,aqL,aqD]
  rw[e];cases h:zB c
  ·rfl
  ·simp only[aqI,aqD];obtain⟨c1,c2⟩:=zS h;obtain⟨m,hm⟩:∃ m,fuel=m+1:=⟨fuel - 1,by have:=Y2 (n:=7) (by decide); omega⟩
   rw[hm];simp only[iter,show (0:Int)<c.1 by omega,aqH,aqE,d5,aqC,hs,aqL,aqD]
theorem XD (c:za) (v i:Int):gX (c,v,i,())=some (under c v i,()):=by
 unfold gX;by_cases hs:seat c v i≥0
 ·obtain⟨c1,c2⟩:=zS (LG hs).1;refine I7 c v i hs ?_ ?_
  ·intro rec j out hj hl;have hw:=Og c v (j:Int);simp only[hj,aqH,aqE,Ql,aqC,hs,XF,JB _ i (show (way c v (j:Int)).length<=1152921504606846976 by omega),zq (show j<4611686018427387904 by omega)];cases (way c v (j:Int)).any (· == i)
   ·rfl
   ·simp only[aqE];rw[if_pos (by simp only[aqG,aqJ]; omega)]
  ·intro rec out;simp only[Ql,aqC,hs,aqH,aqE,aqY,aqL,aqD]
 ·have e:under c v i=[]:=by unfold under; simp only[hs,aqL,aqD]
  rw[e];obtain⟨m,hm⟩:∃ m,fuel=m+1:=⟨fuel - 1,by have:=Y2 (n:=7) (by decide); omega⟩
  rw[hm];simp only[iter,Ql,aqC,hs,aqL,aqD]
def Jt (a b:List Int):Nat:=a.countP λ x=>b.any (· == x)
theorem xh (a b:List Int) (ha:a.length<=1152921504606846976) {G:(Int×Int×Unit->Option (Int×Unit))->Int×Int×Unit->Option (Int×Unit)}
  (hon:∀ (rec:Int×Int×Unit->Option (Int×Unit)) (j k:Nat) (h:j<a.length),k<=j->G rec ((k:Int),(j:Int),())=rec (((k+(if b.any (· == a[j]) then 1 else 0):Nat):Int),(j:Int)+1,()))
  (ajU:∀ (rec:Int×Int×Unit->Option (Int×Unit)) (k:Nat),G rec ((k:Int),(a.length:Int),())=some ((k:Int),())):
  iter G fuel (0,0,())=some ((Jt a b:Int),()):=by
 refine (walk a.length (λ j (k:Nat)=>((k:Int),j,())) (λ j k=>k<=j) (λ j k=>some (((k+Jt (a.drop j) b:Nat):Int),())) (by omega) ?_ ?_ (s0:=0) (Nat.le_refl _)).trans (by simp)
 ·intro rec k _;rw[ajU rec k,arb];simp[Jt]
 ·intro rec j k hj hI;refine .inr ⟨k+(if b.any (· == a[j]) then 1 else 0),by split<;>omega,hon rec j k hj hI,?_⟩
  rw[aqX hj];simp only[Jt,List.countP_cons];congr 3;omega
theorem afz (a b:List Int) (ha:a.length<=1073741824) (hb:b.length<=1073741824):m0 (a,b,())=some ((Jt a b:Int),()):=by
 unfold m0;refine xh a b (by omega) ?_ ?_
 ·intro rec j k hj hk;have hx:a[j]?=some a[j]:=List.getElem?_eq_getElem hj;simp only[zv hj,decide_true,cond_true,and_self,if_true,Int.toNat_natCast,zm (e:=.i64) hx,Jh b a[j] (by omega),Option.bind_some,zq (show j<4611686018427387904 by omega),vO];cases b.any (· == a[j])
  ·simp only[aqD,aqC,Int.add_zero,ar3,if_false,arx];rw[zg (by omega) (by omega)]
  ·simp only[aqE,aqC,if_true];rw[zq (show k<4611686018427387904 by omega)];rfl
 ·intro rec k;simp only[aqY,aqL,aqD]
theorem WT (a b:List Int) (ha:a.length<=1073741824) (hb:b.length<=1073741824):f9 (a,b,())=some ((Jt a b:Int),()):=by
 unfold f9;refine xh a b (by omega) ?_ ?_
 ·intro rec j k hj hk;have hx:a[j]?=some a[j]:=List.getElem?_eq_getElem hj;simp only[zv hj,decide_true,cond_true,and_self,if_true,Int.toNat_natCast,zm (e:=.i64) hx,JB b a[j] (by omega),Option.bind_some,zq (show j<4611686018427387904 by omega)];cases b.any (· == a[j])
  ·simp only[aqD,ar3,if_false,arx]
  ·simp only[aqE,if_true];rw[zq (show k<4611686018427387904 by omega)];rfl
 ·intro rec k;simp only[aqY,aqL,aqD]
def zH (r:zb) (v:Int):zb:=(r.1,v,r.2.2)
theorem cq {c:za} {r:zb} {v:Int} (h:zd c r=true) (hv:1<=v/\v<=60):zd c (zH r v)=true:=by
 obtain⟨a,v0,k,sf,pool,tab,dk,held⟩:=r;show zd c (a,v,k,sf,pool,tab,dk,held)=true;unfold zd at h ⊢;simp only[aqF,aqP] at h ⊢;exact⟨h.1,h.2.1,hv,h.2.2.2⟩
noncomputable def top (c:za) (r:zb) (q:zF):zb×Bool:=
 bif !(zt c r (see c r.2.2.2.1 q)).2 then (r,false) else
 bif decide (q.1+1>60) then ((zt c r (see c r.2.2.2.1 q)).1,true) else
 bif yg c (q.1+1)==r.1 then (zH (zt c r (see c r.2.2.2.1 q)).1 (max (zt c r (see c r.2.2.2.1 q)).1.2.1 (q.1+1)),true) else
 ju c (zH (zt c r (see c r.2.2.2.1 q)).1 (max (zt c r (see c r.2.2.2.1 q)).1.2.1 (q.1+1))) (yg c (q.1+1)) (3,q.1+1,([],0,[],[]),(0,[],[]),q,r.1,0,0,0,0)
theorem eU {c:za} {r:zb} {s:zx} (hr:zd c r=true) (h:(zt c r s).2=true):zd c (zt c r s).1=true/\(zt c r s).1.1=r.1/\(zt c r s).1.2.1=r.2.1:=by
 unfold zt at *;cases h1:Ya r.2.2.2.1 s
 ·rw[h1] at h;cases h2:(ja r.2.2.2.2.2.2.1 (ye c s)).2
  ·rw[h2] at h; cases h
  ·cases h3:zT c s
   ·rw[h2,h3] at h; cases h
   ·simp only[aqD,arD,aqE];exact⟨by rw[Ol hr (wP h2),h3],rfl,rfl⟩
 ·exact⟨hr,rfl,rfl⟩
theorem ES {c:za} {q:zF} (h:zP c q=true):0<=q.1/\q.1<=60:=by
 unfold zP at h;simp only[aqF,ar5] at h;obtain⟨_,hn,hv,_⟩:=h;by_cases h0:q.2.1=[]
 ·have:=rT.2;rw[←h0,hv] at this;omega
 ·have:=NG hn h0;omega
theorem kR (q:zF) (v me:Int):zh (3,v,([],0,[],[]),(0,[],[]),q,me,0,0,0,0)=zj q:=by
 simp[zh,zA,zp,zj,zu]
theorem agN (c:za) (r:zb) (s:zx):zf (zt c r s).1<=zf r+zz s+(r.2.2.2.2.2.2.1.1.length+(ye c s).length):=by
 unfold zt;cases Ya r.2.2.2.1 s
 ·cases h2:((ja r.2.2.2.2.2.2.1 (ye c s)).2 && zT c s)
  ·simp only[aqD]; omega
  ·simp only[aqD,aqE];have:=Om r s (ja r.2.2.2.2.2.2.1 (ye c s)).1;have h3:(ja r.2.2.2.2.2.2.1 (ye c s)).1.1.length<=r.2.2.2.2.2.2.1.1.length+(ye c s).length:=by
    unfold ja;split
    ·simp
    ·simp
   omega
 ·simp only[aqE]; omega
theorem lc (c:za) (r:zb) (s:zx):zf (zt c r s).1<=40+2*zf r+6*zz s:=by
 have h1:=agN c r s;have h3:=rX c s;have h4:r.2.2.2.2.2.2.1.1.length<=zf r:=by simp only[zf,KY]; omega
 omega
theorem Oq (c:za) (r:zb) (q:zF):zf (zt c r (see c r.2.2.2.1 q)).1<=40+8*zf r+12*zj q:=by
 have h1:=lc c r (see c r.2.2.2.1 q);have h2:=N1 c r.2.2.2.1 q;have h4:zz r.2.2.2.1<=zf r:=by simp only[zf]; omega
 omega
theorem agi (c:za) (r:zb) (p:zJ) (hok:zd c r=true) (hr:zf r<=20000000) (hp:zp p<=20000000):
  nS (c,r,p,())=some ((bif (Z4 c p).2 then top c r p else (r,false)).1,(bif (Z4 c p).2 then top c r p else (r,false)).2,()):=by
 have hs:zz r.2.2.2.1<=20000000:=by simp only[zf] at hr; omega
 have hpq:zj p<=20000000:=hp;unfold nS;dsimp only;rw[afP c p (by omega),aqC];cases h:(Z4 c p).2
 ·rfl
 ·obtain⟨e,hq⟩:=B7 h;have hv:=ES hq;have akP:=N1 c r.2.2.2.1 p;have hww:=Oq c r p;dsimp only;simp only[aqI,aqD,aqE];rw[e,vF c r.2.2.2.1 p (by omega) (by omega),aqC,ew c r (see c r.2.2.2.1 p) (by omega) (by omega),aqC,zg (show -9223372036854775808<=p.1+1 by omega) (by omega)];unfold top;cases hw:(zt c r (see c r.2.2.2.1 p)).2
  ·rfl
  ·obtain⟨o1,o2,o3⟩:=eU hok hw;simp only[aqI,aqD,aqE,bd,N9,aqC];cases decide (p.1+1>60)
   ·simp only[aqD];cases (yg c (p.1+1)==r.1)
    ·simp only[aqD];have hm:=kR p (p.1+1) r.1;rw[nR c _ _ _ (QR hok) (by show zf (zH (zt c r (see c r.2.2.2.1 p)).1 _)<=_; simp only[zH,zf] at hww hr ⊢; omega) (by omega),Option.bind_some]
     rfl
    ·rfl
   ·rfl
theorem XK (c:za) (r:zb) (p:zF) (hok:zd c r=true) (hq:zP c p=true) (hr:zf r<=20000000) (hp:zj p<=20000000):
  kj (c,r,p,())=some ((top c r p).1,(top c r p).2,()):=by
 have hs:zz r.2.2.2.1<=20000000:=by simp only[zf] at hr; omega
 have hv:=ES hq;have akP:=N1 c r.2.2.2.1 p;have hww:=Oq c r p;have hwe:write c r (see c r.2.2.2.1 p)=zt c r (see c r.2.2.2.1 p):=by unfold write; rw[hok]; rfl
 unfold kj;dsimp only;rw[pO c r.2.2.2.1 p (by omega) (by omega),aqC,ka c r (see c r.2.2.2.1 p) (by omega) (by omega),aqC,zg (show -9223372036854775808<=p.1+1 by omega) (by omega),hwe];unfold top;cases hw:(zt c r (see c r.2.2.2.1 p)).2
 ·rfl
 ·obtain⟨o1,o2,o3⟩:=eU hok hw;simp only[aqI,aqD,aqE,BM,Qj,aqC];by_cases h60:p.1+1>60
  ·simp only[h60,aqH,aqE]
  ·simp only[h60,aqL,aqD,bne];cases (yg c (p.1+1)==r.1)
   ·simp only[aqD,aqE,ar1];have hm:=kR p (p.1+1) r.1;have hrv:=KP hok;have hk:=cq (v:=max (zt c r (see c r.2.2.2.1 p)).1.2.1 (p.1+1)) o1 (by rw[o3]; omega)
    rw[gU c _ _ _ (by show zf (zH (zt c r (see c r.2.2.2.1 p)).1 _)<=_; simp only[zH,zf] at hww hr ⊢; omega) (by omega),Option.bind_some]
    show (bif (tell c (zH (zt c r (see c r.2.2.2.1 p)).1 (max (zt c r (see c r.2.2.2.1 p)).1.2.1 (p.1+1))) _ _).2 then some ((tell c (zH _ _) _ _).1,(tell c (zH _ _) _ _).2,()) else some ((tell c (zH _ _) _ _).1,(tell c (zH _ _) _ _).2,()))=_;rw[←eN _ _ hk];cases (ju c (zH (zt c r (see c r.2.2.2.1 p)).1 (max (zt c r (see c r.2.2.2.1 p)).1.2.1 (p.1+1))) (yg c (p.1+1)) (3,p.1+1,([],0,[],[]),(0,[],[]),p,r.1,0,0,0,0)).2<;>rfl
   ·rfl
noncomputable def Yj (c:za) (r:zb) (v:Int) (name:List UInt8) (force:Bool):zb×Bool:=
 bif (((yJ r.2.2.2.2.2.1 v name).2.2.length:Int)==0) then (r,false) else bif name==[] then (r,false) else
 bif yg c v==r.1 then (bif (Z4 c (yJ r.2.2.2.2.2.1 v name)).2 then top c r (yJ r.2.2.2.2.2.1 v name) else (r,false)) else
 bif !force && decide ((Jt (under c v r.1) (yJ r.2.2.2.2.2.1 v name).2.2:Int)<((under c v r.1).length:Int)) then (r,false) else
 ju c r (up c v r.1) (2,0,([],0,[],[]),yJ r.2.2.2.2.2.1 v name,(0,[],[]),0,0,0,0,0)
noncomputable def climb (c:za) (r:zb) (v:Int) (name:List UInt8) (force:Bool):zb×Bool:=
 bif zd c r && (Yj c r v name force).2 then ((Yj c r v name force).1,true) else (r,false)
theorem IV (l:z6) (v:Int) (name:List UInt8):zp (yJ l v name)<=zL l+name.length:=by
 unfold yJ;cases h:l.find? (λ p=>p.1==v && p.2.1==name) with
 | none=>simp[zp,zu]
 | some p=>
  have:=ZN zp (List.mem_of_find?_eq_some h);simp only[zL]; omega
theorem BD (p:zJ):zh (2,0,([],0,[],[]),p,(0,[],[]),0,0,0,0,0)=zp p:=by
 simp[zh,zA,zp,zj,zu]
theorem vN (c:za) (r:zb) (v:Int) (name:List UInt8) (force:Bool) (hok:zd c r=true) (hr:zf r<=15000000) (hn:name.length<=5000000):
  aW (c,r,v,name,force,())=some ((Yj c r v name force).1,(Yj c r v name force).2,()):=by
 have ht:zL r.2.2.2.2.2.1<=15000000:=by simp only[zf] at hr; omega
 have hg:=IV r.2.2.2.2.2.1 v name;have hl:(yJ r.2.2.2.2.2.1 v name).2.2.length<=20000000:=by
  have:(yJ r.2.2.2.2.2.1 v name).2.2.length<=zp (yJ r.2.2.2.2.2.1 v name):=by simp only[zp,zu]; omega
  omega
 have hu:=I6 c v r.1;unfold aW Yj;dsimp only;rw[vJ _ v name (by omega),aqC];generalize hP:yJ r.2.2.2.2.2.1 v name=p at *;dsimp only;cases ((p.2.2.length:Int)==0)
 ·simp only[aqD];cases (name==([]:List UInt8))
  ·simp only[aqD,N9,aqC];cases (yg c v==r.1)
   ·simp only[aqD,agb,aqC,afz _ p.2.2 (show (under c v r.1).length<=1073741824 by omega) (by omega),IA];have hm:=BD p;rw[nR c r _ _ (QR hok) (by omega) (by omega)];cases force
    ·simp only[ar1,aqE,aqU];cases decide ((Jt (under c v r.1) p.2.2:Int)<((under c v r.1).length:Int))<;>rfl
    ·rfl
   ·simp only[aqE];rw[agi c r p hok (by omega) (by omega),aqC]
  ·rfl
 ·rfl
theorem afy (c:za) (r:zb) (v:Int) (name:List UInt8) (force:Bool) (hr:zf r<=15000000) (hn:name.length<=5000000):
  dP (c,r,v,name,force,())=some ((climb c r v name force).1,(climb c r v name force).2,()):=by
 unfold dP climb;dsimp only;rw[YW c r (by omega),aqC,Yd r (by omega),aqC,aqC];cases hok:zd c r
 ·rfl
 ·simp only[aqI,aqD,aqU];rw[vN c r v name force hok hr hn,aqC];cases (Yj c r v name force).2<;>rfl
theorem agw {c:za} {r:zb} {to:Int} {m:zo} (h:(ju c r to m).2=false):(ju c r to m).1=r:=by
 unfold ju at *;cases hc:(!decide ((r.2.2.2.2.2.2.2.length:Int)≥30) && ZC c r.1 (to,m))
 ·rfl
 ·rw[hc] at h; cases h
theorem pH (c:za) (r:zb) (v:Int) (name:List UInt8) (force:Bool) (hr:zf r<=15000000) (hn:name.length<=5000000):
  Mh (c,r,v,name,force,())=some ((climb c r v name force).1,(climb c r v name force).2,()):=by
 have ht:zL r.2.2.2.2.2.1<=15000000:=by simp only[zf] at hr; omega
 have hg:=IV r.2.2.2.2.2.1 v name;have hl:(yJ r.2.2.2.2.2.1 v name).2.2.length<=20000000:=by
  have:(yJ r.2.2.2.2.2.1 v name).2.2.length<=zp (yJ r.2.2.2.2.2.1 v name):=by simp only[zp,zu]; omega
  omega
 have hu:=I6 c v r.1;unfold Mh climb Yj;dsimp only;rw[pR _ v name (by omega),aqC];generalize hP:yJ r.2.2.2.2.2.1 v name=p at *;dsimp only;rw[ZW r (by omega),ZU c r (by omega),aqC,aqC];cases ((p.2.2.length:Int)==0)
 ·cases hok:zd c r
  ·rfl
  ·simp only[aqD,aqI,aqU];cases (name==([]:List UInt8))
   ·simp only[aqD,Qj,aqC];cases (yg c v==r.1)
    ·simp only[aqD,XD,aqC,WT _ p.2.2 (show (under c v r.1).length<=1073741824 by omega) (by omega),AG];have hm:=BD p;rw[gU c r _ _ (by omega) (by omega),←eN _ _ hok,aqC];cases ht2:(ju c r (up c v r.1) (2,0,([],0,[],[]),p,(0,[],[]),0,0,0,0,0)).2
     ·have hno:=agw ht2;cases force
      ·simp only[ar1,aqE,aqU];cases decide ((Jt (under c v r.1) p.2.2:Int)<((under c v r.1).length:Int))
       ·simp only[aqD,hno,ht2]
       ·rfl
      ·simp only[aqI,ari,aqD,hno,ht2]
     ·cases force
      ·simp only[ar1,aqE,aqU];cases decide ((Jt (under c v r.1) p.2.2:Int)<((under c v r.1).length:Int))
       ·simp only[aqD,ht2,aqE]
       ·rfl
      ·simp only[aqI,ari,aqD,ht2,aqE]
    ·simp only[aqE];rw[Xh c p (by omega),aqC];cases h:(Z4 c p).2
     ·rfl
     ·obtain⟨e,hq⟩:=B7 h;have hpq:zj p<=20000000:=(by omega:zp p<=20000000)
      dsimp only;simp only[aqI,aqD,aqE];rw[e,XK c r p hok hq (by omega) hpq,aqC];cases (top c r p).2<;>rfl
   ·rfl
 ·cases zd c r<;>rfl
theorem GS (l:List Int) (x:Int) (i:Nat) (hi:i<=l.length) (hl:l.length<=137438953472):
  ((if (((0:Int)<=0)/\((0<=(i:Int))/\((i:Int)<=(((List.length l):Nat):Int)))) then (if (((0+(List.length (List.take ((Int.toNat (i:Int)) - (Int.toNat 0)) (List.drop (Int.toNat 0) l))))*8)<=70368744177664) then (if ((((List.length ([]++(List.take ((Int.toNat (i:Int)) - (Int.toNat 0)) (List.drop (Int.toNat 0) l))))+(List.length (x::[])))*8)<=70368744177664) then (if ((0<=(i:Int))/\(((i:Int)<=(((List.length l):Nat):Int))/\((((List.length l):Nat):Int)<=(((List.length l):Nat):Int)))) then (if ((((List.length (([]++(List.take ((Int.toNat (i:Int)) - (Int.toNat 0)) (List.drop (Int.toNat 0) l)))++(x::[])))+(List.length (List.take ((Int.toNat (((List.length l):Nat):Int)) - (Int.toNat (i:Int))) (List.drop (Int.toNat (i:Int)) l))))*8)<=70368744177664) then some (((([]++(List.take ((Int.toNat (i:Int)) - (Int.toNat 0)) (List.drop (Int.toNat 0) l)))++(x::[]))++(List.take ((Int.toNat (((List.length l):Nat):Int)) - (Int.toNat (i:Int))) (List.drop (Int.toNat (i:Int)) l))),()) else none) else none) else none) else none) else none):Option (List Int×Unit))=some (l.take i++x::l.drop i,()):=by
 have h1:(l.take i).length=i:=by rw[aqV]; omega
 have h2:(l.drop i).length=l.length - i:=List.length_drop;have h3:(l.drop i).take (l.length - i)=l.drop i:=List.take_of_length_le (by rw[h2]; exact Nat.le_refl _)
 simp only[aqN,show Int.toNat 0=0 from rfl,arK,ar4,ar6,h3,aqM,h1,h2,aqG,aqJ];rw[if_pos ⟨by omega,by omega,by omega⟩,if_pos (by omega),if_pos (by omega),if_pos ⟨by omega,by omega,by omega⟩,if_pos (by omega)];simp
noncomputable def Jf (l:List Int) (x:Int):Nat:=yn (λ y=>decide (y≥x)) 0 l
noncomputable def j7 (l:List Int) (x:Int):List Int:=bif l.any (· == x) then l else l.take (Jf l x)++x::l.drop (Jf l x)
theorem vG (l:List Int) (x:Int) (hl:l.length<=137438953472):LN (l,x,())=some (j7 l x,()):=by
 unfold LN j7;dsimp only;rw[Jh l x (by omega),aqC];dsimp only;cases l.any (· == x)
 ·simp only[aqD];unfold Jf;refine (walk l.length (λ i (_:Unit)=>(i,())) (λ _ _=>True) (λ i _=>some (l.take (yn (λ y=>decide (y≥x)) i (l.drop i))++x::l.drop (yn (λ y=>decide (y≥x)) i (l.drop i)),())) (by omega) ?_ ?_ (s0:=()) trivial).trans (by simp only[ar4])
  ·intro rec s _;have e:=GS l x l.length (Nat.le_refl _) hl;rw[arb] at e ⊢;simp only[aqY,aqL,aqD,yn];rw[arb];exact e
  ·intro rec i s hi _;have hx:l[i]?=some l[i]:=List.getElem?_eq_getElem hi;have e:=GS l x i (Nat.le_of_lt hi) hl;have hd0:decide ((i:Int)<((l.length:Nat):Int))=true:=decide_eq_true (by omega);have hr:rd .i64 l (Int.toNat (i:Int))=l[i]:=zm (e:=.i64) hx;dsimp only;by_cases hlt:l[i]<x
   ·right;have hd:decide (l[i]≥x)=false:=decide_eq_false (by omega);refine⟨(),trivial,?_,?_⟩
    ·rw[hd0,aqE,if_pos (zv hi),hr,decide_eq_true hlt,aqE,zq (show i<4611686018427387904 by omega)]
    ·rw[aqX hi];simp only[yn,hd,aqD]
   ·left;have hd:decide (l[i]≥x)=true:=decide_eq_true (by omega);rw[hd0,aqE,if_pos (zv hi),hr,decide_eq_false hlt,aqD];refine e.trans ?_;rw[show yn (λ y=>decide (y≥x)) i (l.drop i)=i by rw[aqX hi]; simp only[yn,hd,aqE]]
 ·simp only[aqE,ar6];rw[if_pos (by omega)]
theorem W6 (l:List Int) (x:Int) (hl:l.length<=137438953472):mV (l,x,())=some ((if Jf l x<l.length then ((Jf l x:Nat):Int) else -1),()):=by
 unfold mV Jf;refine (walk l.length (λ i (_:Unit)=>(i,())) (λ _ _=>True) (λ i _=>some ((if yn (λ y=>decide (y≥x)) i (l.drop i)<l.length then ((yn (λ y=>decide (y≥x)) i (l.drop i):Nat):Int) else -1),())) (by omega) ?_ ?_ (s0:=()) trivial).trans (by simp only[ar4])
 ·intro rec s _;rw[arb];simp only[aqY,aqL,aqD,yn,Nat.lt_irrefl,if_false]
 ·intro rec i s hi _;have hx:l[i]?=some l[i]:=List.getElem?_eq_getElem hi;rw[aqX hi];unfold pP;simp only[zv hi,aqH,aqE,aqS,if_true,aqN,zm (e:=.i64) hx,aqC,zq (show i<4611686018427387904 by omega),yn];by_cases hb:l[i]≥x
  ·left;simp only[hb,aqH,aqE,hi,if_true]
  ·right;exact⟨(),trivial,by simp only[hb,aqL,aqD],by simp only[hb,aqL,aqD]⟩
theorem AY (l:List Int) (x:Int) (k:Nat) (hk:k<=l.length) (hl:l.length<=137438953472):dN (l,(k:Int),[x],())=some (l.take k++x::l.drop k,()):=by
 unfold dN Qu;dsimp only;simp only[aqG,aqJ];rw[if_pos (by omega),aqN];simp
theorem AB (l:List Int) (x:Int) (hl:l.length<=137438953472):ca (l,x,())=some (j7 l x,()):=by
 have hle:Jf l x<=l.length:=by have:=(qT (λ y=>decide (y≥x)) l 0).2; unfold Jf; omega
 unfold ca j7;dsimp only;rw[JB l x (by omega),aqC,Nx l hl,W6 l x hl];simp only[aqC];cases l.any (· == x)
 ·simp only[aqD];by_cases hlt:Jf l x<l.length
  ·rw[if_pos hlt];have:decide (((Jf l x:Nat):Int)<0)=false:=decide_eq_false (by omega);rw[this,aqD,AY l x _ hle hl,aqC]
  ·rw[if_neg hlt];have:decide ((-1:Int)<0)=true:=rfl;rw[this,aqE,AY l x l.length (arp _) hl,aqC,show Jf l x=l.length by omega]
 ·rfl
theorem ve (l:List Int) (x:Int):(j7 l x).length<=l.length+1:=by
 have hle:Jf l x<=l.length:=by have:=(qT (λ y=>decide (y≥x)) l 0).2; unfold Jf; omega
 unfold j7;cases l.any (· == x)
 ·simp only[aqD,aqM,aqG,aqV,ar2]; omega
 ·simp only[aqE]; omega
noncomputable def ai (a b:List Int):List Int:=b.foldl j7 (a.foldl j7 [])
theorem vm:∀ (l s:List Int),(l.foldl j7 s).length<=s.length+l.length
 | [],s=>by simp
 | x::l,s=>by
  have h1:=ve s x;have h2:=vm l (j7 s x);simp only[arA,aqG]; omega
theorem aeB (a b:List Int):(ai a b).length<=a.length+b.length:=by
 have h1:=vm a [];have h2:=vm b (a.foldl j7 []);simp only[ai,aqJ] at *; omega
theorem kx {K:List Int->Option (List Int×Unit)} (l s0:List Int) (hl:l.length<=1152921504606846976) {G:(List Int×Int×Unit->Option (List Int×Unit))->List Int×Int×Unit->Option (List Int×Unit)}
  (hon:∀ (rec:List Int×Int×Unit->Option (List Int×Unit)) (i:Nat) (s:List Int) (h:i<l.length),s.length<=s0.length+i->G rec (s,(i:Int),())=rec (j7 s l[i],(i:Int)+1,()))
  (ajU:∀ (rec:List Int×Int×Unit->Option (List Int×Unit)) (s:List Int),s.length<=s0.length+l.length->G rec (s,(l.length:Int),())=K s):
  iter G fuel (s0,0,())=K (l.foldl j7 s0):=by
 refine (walk l.length (λ i (s:List Int)=>(s,i,())) (λ i s=>s.length<=s0.length+i) (λ i s=>K ((l.drop i).foldl j7 s)) hl ?_ ?_ (s0:=s0) (by simp)).trans (by simp only[ar4])
 ·intro rec s hI;rw[ajU rec s hI,arb];rfl
 ·intro rec i s hi hI;have:=ve s l[i];exact .inr ⟨j7 s l[i],by omega,hon rec i s hi hI,by rw[aqX hi]; rfl⟩
theorem ag0 (a b:List Int) (ha:a.length<=1073741824) (hb:b.length<=1073741824):nC (a,b,())=some (ai a b,()):=by
 unfold nC;refine kx (K:=λ s=>some (b.foldl j7 s,())) a [] (by omega) ?_ ?_
 ·intro rec i s hi hI;have hx:a[i]?=some a[i]:=List.getElem?_eq_getElem hi;simp only[aqJ] at hI;simp only[zv hi,decide_true,cond_true,and_self,if_true,Int.toNat_natCast,zm (e:=.i64) hx,vG s a[i] (by omega),Option.bind_some,zq (show i<4611686018427387904 by omega)]
 ·intro rec s hI;simp only[aqJ] at hI;simp only[aqY,aqL,aqD];refine kx (K:=λ s=>some (s,())) b s (by omega) ?_ ?_
  ·intro rec i s2 hi hI2;have hx:b[i]?=some b[i]:=List.getElem?_eq_getElem hi;simp only[zv hi,decide_true,cond_true,and_self,if_true,Int.toNat_natCast,zm (e:=.i64) hx,vG s2 b[i] (by omega),Option.bind_some,zq (show i<4611686018427387904 by omega)]
  ·intro rec s2 _;simp only[aqY,aqL,aqD]
theorem Xs (a b:List Int) (ha:a.length<=1073741824) (hb:b.length<=1073741824):gL (a,b,())=some (ai a b,()):=by
 unfold gL;refine kx (K:=λ s=>some (b.foldl j7 s,())) a [] (by omega) ?_ ?_
 ·intro rec i s hi hI;have hx:a[i]?=some a[i]:=List.getElem?_eq_getElem hi;simp only[aqJ] at hI;simp only[zv hi,decide_true,cond_true,and_self,if_true,Int.toNat_natCast,zm (e:=.i64) hx,AB s a[i] (by omega),Option.bind_some,zq (show i<4611686018427387904 by omega)]
 ·intro rec s hI;simp only[aqJ] at hI;simp only[aqY,aqL,aqD];refine kx (K:=λ s=>some (s,())) b s (by omega) ?_ ?_
  ·intro rec i s2 hi hI2;have hx:b[i]?=some b[i]:=List.getElem?_eq_getElem hi;simp only[zv hi,decide_true,cond_true,and_self,if_true,Int.toNat_natCast,zm (e:=.i64) hx,AB s2 b[i] (by omega),Option.bind_some,zq (show i<4611686018427387904 by omega)]
  ·intro rec s2 _;simp only[aqY,aqL,aqD]
noncomputable def j5 (a b:zJ):zJ×Bool:=bif a.1==b.1 && a.2.1==b.2.1 then ((a.1,a.2.1,ai a.2.2 b.2.2),true) else ((0,[],[]),false)
theorem afO (a b:zJ) (ha:zp a<=1073741824) (hb:zp b<=1073741824):np (a,b,())=some ((j5 a b).1,(j5 a b).2,()):=by
 have h1:a.2.2.length<=1073741824/\b.2.2.length<=1073741824:=by simp only[zp,zu] at ha hb; omega
 unfold np j5;dsimp only;rw[ag0 _ _ h1.1 h1.2,aqC];simp only[bne];cases (a.1==b.1)<;>cases (a.2.1==b.2.1)<;>rfl
theorem Xg (a b:zJ) (ha:zp a<=1073741824) (hb:zp b<=1073741824):bW (a,b,())=some ((j5 a b).1,(j5 a b).2,()):=by
 have h1:a.2.2.length<=1073741824/\b.2.2.length<=1073741824:=by simp only[zp,zu] at ha hb; omega
 unfold bW j5;dsimp only;rw[Xs _ _ h1.1 h1.2,aqC];simp only[bne];cases (a.1==b.1)<;>cases (a.2.1==b.2.1)<;>rfl
theorem abe (a b:zJ):zp (j5 a b).1<=zp a+zp b:=by
 have h:=aeB a.2.2 b.2.2;unfold j5;cases (a.1==b.1 && a.2.1==b.2.1)
 ·simp[zp,zu]
 ·simp only[aqE,zp,zu]; omega
noncomputable def jQ (p:zJ):z6->z6
 | []=>[p]
 | q::r=>bif j3 q p then q::jQ p r else bif (j5 q p).2 then (j5 q p).1::r else p::q::r
theorem eH (p:zJ):∀ (l:z6),zL (jQ p l)<=zL l+zp p+1
 | []=>by simp[jQ,zL]; omega
 | q::r=>by
  have h:=eH p r;have h2:=abe q p;simp only[jQ];cases j3 q p
  ·cases (j5 q p).2
   ·simp only[aqD,zL,aqG,aqZ,arh]; omega
   ·simp only[aqD,aqE,zL,aqG,aqZ,arh]; omega
  ·simp only[aqE,zL,aqG,aqZ,arh] at h ⊢; omega
noncomputable def zD (c:za) (l:z6) (p:zJ):z6×Bool:=bif y5 c p && jR c (jQ p l) then (jQ p l,true) else (l,false)
theorem agO (a b:z6):zL (a++b)=zL a+zL b:=by
 simp only[zL,aqM,arW,asK]; omega
theorem bm (a:z6):a.length<=zL a:=by unfold zL; omega
def TabI (l:z6) (p:zJ) (i:Nat) (s:z6×Bool):Prop:=
 (s.2=true/\s.1++l.drop i=jQ p l)∨(s.2=false/\s.1++jQ p (l.drop i)=jQ p l)
theorem TabI.w {l:z6} {p:zJ} {i:Nat} {s:z6×Bool} (h:TabI l p i s):zL s.1<=zL l+zp p+1:=by
 have h0:=eH p l;rcases h with⟨_,h⟩|⟨_,h⟩<;>rw[←h,agO] at h0<;>omega
theorem nH (c:za) (l:z6) (p:zJ) (hl:zL l<=100000000) (hp:zp p<=100000000):qb (c,l,p,())=some ((zD c l p).1,(zD c l p).2,()):=by
 have hll:=bm l;have htw:=eH p l;have ahG:∀ out:z6,out=jQ p l->((qc (c,out,())).bind λ r10=>(bif (!r10.1) then ((KV (l,())).bind λ r11=>some (r11.1,(false,()))) else ((LL (c,(p,()))).bind λ r12=>(bif (!r12.1) then ((KV (l,())).bind λ r13=>some (r13.1,(false,()))) else some (out,(true,()))))))=some ((zD c l p).1,(zD c l p).2,()):=by
  intro out ho;subst ho;rw[Ix c _ (by omega),aqC,IC l (by omega),dW c p (by omega)];unfold zD;cases jR c (jQ p l)<;>cases y5 c p<;>rfl
 unfold qb;dsimp only;refine walk l.length (λ i (s:z6×Bool)=>(s.1,s.2,i,())) (λ i s=>TabI l p i s) (λ _ _=>some ((zD c l p).1,(zD c l p).2,())) (by omega) ?_ ?_ (s0:=([],false)) (.inr ⟨rfl,rfl⟩)
 ·rintro rec ⟨out,put⟩ hI;have hw:=hI.w;have hol:=bm out;unfold TabI at hI;rw[arb] at hI;simp only[aqY,aqL,aqD];cases put
  ·rcases hI with⟨h,_⟩|⟨_,h⟩
   ·cases h
   ·simp only[ar1,aqE];rw[qe p (by omega),Option.bind_some,if_pos (by simp only[aqG,aqJ]; simp only at hw hol; omega)]
    exact ahG (out++[p]) h
  ·rcases hI with⟨_,h⟩|⟨h,_⟩
   ·simp only[aqI,aqD];exact ahG out (by simpa using h)
   ·cases h
 ·rintro rec i ⟨out,put⟩ hi hI;have hx:l[i]?=some l[i]:=List.getElem?_eq_getElem hi;have hpw:zp l[i]<=100000000:=KZ hl hx;have hw:=hI.w;have hol:=bm out;simp only at hw hol;unfold TabI at hI;rw[aqX hi] at hI;right;simp only[zv hi,decide_true,cond_true,and_self,if_true,Int.toNat_natCast,zm (e:=YA) hx,qe l[i] (by omega),Option.bind_some,zq (show i<4611686018427387904 by omega)];cases put
  ·rcases hI with⟨h,_⟩|⟨_,h⟩
   ·cases h
   ·simp only[ar1,aqE,IB,aqC];simp only[jQ] at h;cases hb:j3 l[i] p
    ·rw[hb] at h;simp only[aqD] at h;simp only[Bool.not_false,cond_true,afO l[i] p (by omega) (by omega),Option.bind_some,qe p (show zp p<=137438953472 by omega)];cases hj:(j5 l[i] p).2
     ·rw[hj] at h;simp only[aqD] at h ⊢;rw[if_pos (by simp only[aqG,aqJ]; omega),if_pos (by simp only[aqM,aqG,aqJ]; omega)]
      exact⟨(out++[p]++[l[i]],true),.inl ⟨rfl,by simpa using h⟩,rfl,trivial⟩
     ·rw[hj] at h;simp only[aqE] at h ⊢;rw[if_pos (by simp only[aqG,aqJ]; omega)]
      exact⟨(out++[(j5 l[i] p).1],true),.inl ⟨rfl,by simpa using h⟩,rfl,trivial⟩
    ·rw[hb] at h;simp only[aqE] at h;simp only[aqI,aqD];rw[if_pos (by simp only[aqG,aqJ]; omega)]
     exact⟨(out++[l[i]],false),.inr ⟨rfl,by simpa using h⟩,rfl,trivial⟩
  ·rcases hI with⟨_,h⟩|⟨h,_⟩
   ·simp only[aqI,aqD];rw[if_pos (by simp only[aqG,aqJ]; omega)]
    exact⟨(out++[l[i]],true),.inl ⟨rfl,by simpa using h⟩,rfl,trivial⟩
   ·cases h
theorem abh (a b:zJ):decide (KL a b<0)=j3 a b:=by
 have h:=EL a b;by_cases hp:KL a b<0
 ·have:¬ KL a b≥0:=by omega
  simp only[this,aqL] at h;simp only[hp,aqH];cases hb:j3 a b
  ·rw[hb] at h; cases h
  ·rfl
 ·have:KL a b≥0:=by omega
  simp only[this,aqH] at h;simp only[hp,aqL];cases hb:j3 a b
  ·rfl
  ·rw[hb] at h; cases h
theorem abi {a b:zJ} (h:j3 a b=false):(KL a b==0)=(j5 a b).2:=by
 have hj:(j5 a b).2=(a.1==b.1 && a.2.1==b.2.1):=by unfold j5; cases (a.1==b.1 && a.2.1==b.2.1)<;>rfl
 rw[hj];unfold j3 at h;unfold KL;by_cases h1:a.1<b.1
 ·simp[h1] at h
 ·by_cases h2:a.1>b.1
  ·have:¬ a.1=b.1:=by omega
   simp[h1,h2,this]
  ·have he:a.1=b.1:=by omega
   simp only[he,aqP,arV,beq_self_eq_true,aqU] at h;have h3:=h.2;simp only[he,aqY,if_false,h3,ar3,beq_self_eq_true,aqU,gt_iff_lt];by_cases h4:a.2.1=b.2.1
   ·simp[h4]
   ·simp[h4]
theorem AZ (l:z6) (x:zJ) (k:Nat) (hk:k<=l.length) (hl:l.length<=137438953471):N3 (l,(k:Int),[x],())=some (l.take k++x::l.drop k,()):=by
 unfold N3 Qu;dsimp only;simp only[aqG,aqJ];rw[if_pos (by omega),aqN];simp
theorem gS (c:za) (l:z6) (p:zJ) (hl:zL l<=100000000) (hp:zp p<=100000000):Nt (c,l,p,())=some ((zD c l p).1,(zD c l p).2,()):=by
 have hll:=bm l;have htw:=eH p l;unfold Nt;dsimp only;rw[bX c p (by omega),aqC,AL l (by omega),aqC,aqC];cases hpo:y5 c p
 ·simp only[ar1,aqE];unfold zD;rw[hpo];rfl
 ·simp only[aqI,aqD];have ahG:∀ out:z6,out=jQ p l->((J7 (c,out,())).bind λ r7=>(bif (!r7.1) then some (l,(false,())) else some (out,(true,()))))=some ((zD c l p).1,(zD c l p).2,()):=by
   intro out ho;subst ho;rw[AD c _ (by omega),aqC];unfold zD;rw[hpo];cases jR c (jQ p l)<;>rfl
  refine walk l.length (λ i (_:Unit)=>(i,())) (λ i _=>l.take i++jQ p (l.drop i)=jQ p l) (λ _ _=>some ((zD c l p).1,(zD c l p).2,())) (by omega) ?_ ?_ (s0:=()) (by simp)
  ·intro rec s hI;rw[arb] at hI;simp only[aqY,aqL,aqD];rw[Qr p (by omega),aqC,AZ l p l.length (arp _) (by omega),aqC,arb];exact ahG _ hI
  ·intro rec i s hi hI;have hx:l[i]?=some l[i]:=List.getElem?_eq_getElem hi;have hpw:zp l[i]<=100000000:=KZ hl hx;rw[aqX hi] at hI;simp only[jQ] at hI;simp only[zv hi,aqH,aqE,aqS,if_true,aqN,zm (e:=YA) hx,AI,aqC,abh,zq (show i<4611686018427387904 by omega)];cases hb:j3 l[i] p
   ·left;rw[hb] at hI;simp only[aqD] at hI ⊢;rw[abi hb];cases hj:(j5 l[i] p).2
    ·rw[hj] at hI;simp only[aqD] at hI ⊢;rw[Qr p (by omega),aqC,AZ l p i (Nat.le_of_lt hi) (by omega),aqC,aqX hi];exact ahG _ hI
    ·rw[hj] at hI;simp only[aqE] at hI ⊢;rw[Xg l[i] p (by omega) (by omega),Option.bind_some];dsimp only;rw[List.set_eq_take_append_cons_drop,if_pos hi];exact ahG _ hI
   ·right;rw[hb] at hI;simp only[aqE] at hI;have e:l.take (i+1)=l.take i++[l[i]]:=by rw[asa,hx]; rfl
    refine⟨(),?_,by simp only[aqE],trivial⟩;rw[e,ar7];exact hI
def yv (r:zb) (t:z6):zb:=(r.1,r.2.1,r.2.2.1,r.2.2.2.1,r.2.2.2.2.1,t,r.2.2.2.2.2.2)
theorem oA {c:za} {r:zb} {t:z6} (h:zd c r=true) (ht:jR c t=true):zd c (yv r t)=true:=by
 obtain⟨a,v,k,sf,pool,tab,dk,held⟩:=r;show zd c (a,v,k,sf,pool,t,dk,held)=true;unfold zd at h ⊢;simp only[aqF] at h ⊢;obtain⟨a1,a2,a3,a4,a5,a6,a7,a8⟩:=h;exact⟨a1,a2,a3,a4,a5,a6,ht,a8⟩
theorem ql {c:za} {l:z6} {p:zJ} (h:(zD c l p).2=true):jR c (zD c l p).1=true:=by
 unfold zD at *;cases h1:(y5 c p && jR c (jQ p l))
 ·rw[h1] at h; cases h
 ·simp only[aqF] at h1;exact h1.2
theorem eI (c:za) (l:z6) (p:zJ):zL (zD c l p).1<=zL l+zp p+1:=by
 have h:=eH p l;unfold zD;cases (y5 c p && jR c (jQ p l))
 ·simp only[aqD]; omega
 ·exact h
noncomputable def Y3 (c:za) (r:zb) (p:zJ):zb×Bool:=
 bif !zd c r then (r,false) else bif !y5 c p then (r,false) else bif p.2.1==[] then (r,false) else bif decide (p.1<r.2.1) then (r,false) else
 bif !(zD c r.2.2.2.2.2.1 p).2 then (r,false) else ((climb c (yv r (zD c r.2.2.2.2.2.1 p).1) p.1 p.2.1 false).1,true)
theorem afE (c:za) (r:zb) (p:zJ) (hr:zf r<=2000000) (hp:zp p<=2000000):ng (c,r,p,())=some ((Y3 c r p).1,(Y3 c r p).2,()):=by
 have ht:zL r.2.2.2.2.2.1<=2000000:=by simp only[zf] at hr; omega
 have hw:=eI c r.2.2.2.2.2.1 p;have hn:p.2.1.length<=2000000:=by simp only[zp] at hp; omega
 have hwr:zf (yv r (zD c r.2.2.2.2.2.1 p).1)<=15000000:=by simp only[yv,zf] at *; omega
 unfold ng Y3;dsimp only;rw[Yd r (by omega),aqC,YW c r (by omega),aqC,dW c p (by omega),aqC,aqC,nH c r.2.2.2.2.2.1 p (by omega) (by omega),aqC];cases hok:zd c r
 ·rfl
 cases y5 c p
 ·rfl
 cases (p.2.1==([]:List UInt8))
 ·cases decide (p.1<r.2.1)
  ·cases hta:(zD c r.2.2.2.2.2.1 p).2
   ·rfl
   ·have akM:=oA (t:=(zD c r.2.2.2.2.2.1 p).1) hok (ql hta);simp only[aqI,aqD];show ((yW (yv r (zD c r.2.2.2.2.2.1 p).1,())).bind _)=_;rw[Yd _ (by omega),aqC];dsimp only;rw[vN c _ p.1 p.2.1 false akM hwr (by omega),aqC];unfold climb;rw[akM];cases (Yj c (yv r (zD c r.2.2.2.2.2.1 p).1) p.1 p.2.1 false).2<;>rfl
  ·rfl
 ·rfl
theorem W2 (c:za) (r:zb) (p:zJ) (hr:zf r<=2000000) (hp:zp p<=2000000):gi (c,r,p,())=some ((Y3 c r p).1,(Y3 c r p).2,()):=by
 have ht:zL r.2.2.2.2.2.1<=2000000:=by simp only[zf] at hr; omega
 have hw:=eI c r.2.2.2.2.2.1 p;have hn:p.2.1.length<=2000000:=by simp only[zp] at hp; omega
 have hwr:zf (yv r (zD c r.2.2.2.2.2.1 p).1)<=15000000:=by simp only[yv,zf] at *; omega
 unfold gi Y3;dsimp only;rw[ZW r (by omega),ZU c r (by omega),aqC,bX c p (by omega),gS c r.2.2.2.2.2.1 p (by omega) (by omega)];simp only[aqC];cases hok:zd c r
 ·rfl
 cases y5 c p
 ·rfl
 cases (p.2.1==([]:List UInt8))
 ·cases decide (p.1<r.2.1)
  ·cases hta:(zD c r.2.2.2.2.2.1 p).2
   ·rfl
   ·simp only[aqI,aqD];show ((Mh (c,yv r (zD c r.2.2.2.2.2.1 p).1,p.1,p.2.1,false,())).bind _)=_;rw[pH c _ p.1 p.2.1 false hwr (by omega),aqC]
  ·rfl
 ·rfl
noncomputable def Z1 (c:za) (s:zx) (b:y9):Bool:=zT c s && (jn c b && (decide (zl b.1>s.1) && decide (b.2.1≥s.2.1)))
theorem Ir (c:za) (s:zx) (b:y9) (hs:zz s<=137438953472) (hb:zA b<=137438953472):dU (c,s,b,())=some (Z1 c s b,()):=by
 have h1:b.1.length<=137438953472:=by simp only[zA] at hb; omega
 unfold dU Z1;dsimp only;rw[aH c s hs,aqC,mY c b hb,aqC,KT b.1 h1,aqC];cases zT c s<;>cases jn c b<;>cases decide (zl b.1>s.1)<;>rfl
theorem Xc (c:za) (s:zx) (b:y9) (hs:zz s<=1073741824) (hb:zA b<=1073741824):gw (c,s,b,())=some (Z1 c s b,()):=by
 have h1:b.1.length<=1073741824:=by simp only[zA] at hb; omega
 unfold gw Z1;dsimp only;rw[b8 c s hs,aqC,f7 c b hb,aqC,Lh b.1 h1,aqC];cases zT c s<;>cases jn c b<;>cases decide (zl b.1>s.1)<;>rfl
noncomputable def vote (c:za) (s:zx) (b:y9):zx:=bif Z1 c s b then (zl b.1,s.2) else s
theorem agc (c:za) (s:zx) (b:y9) (hs:zz s<=137438953472) (hb:zA b<=137438953472):eh (c,s,b,())=some (vote c s b,Z1 c s b,()):=by
 have h1:b.1.length<=137438953472:=by simp only[zA] at hb; omega
 unfold eh vote;dsimp only;rw[nN s hs,aqC,Ir c s b hs hb,aqC,KT b.1 h1,aqC];cases Z1 c s b<;>rfl
theorem XE (c:za) (s:zx) (b:y9) (hs:zz s<=1073741824) (hb:zA b<=1073741824):gZ (c,s,b,())=some (vote c s b,Z1 c s b,()):=by
 have h1:b.1.length<=1073741824:=by simp only[zA] at hb; omega
 unfold gZ vote;dsimp only;rw[kh s (by omega),aqC,Xc c s b hs hb,aqC,Lh b.1 h1,aqC];cases Z1 c s b<;>rfl
theorem Od (c:za) (s:zx) (b:y9):zz (vote c s b)<=zz s:=by
 unfold vote;cases Z1 c s b
 ·exact Nat.le_refl _
 ·exact Nat.le_refl _
noncomputable def voted (c:za) (r0 w:zb) (name:List UInt8):zb×Bool:=
 bif !(zD c w.2.2.2.2.2.1 (zl name,name,[w.1])).2 then (r0,false) else ((climb c (yv w (zD c w.2.2.2.2.2.1 (zl name,name,[w.1])).1) (zl name) name false).1,true)
noncomputable def YG (c:za) (r:zb) (b:y9):zb×Bool:=
 bif !zd c r then (r,false) else bif !jn c b then (r,false) else
 bif decide (zl b.1≥r.2.1) then
  (bif !(zt c (zH r (zl b.1)) (vote c (see c r.2.2.2.1 b.2) b)).2 then (r,false) else
   bif !Z1 c (see c r.2.2.2.1 b.2) b then ((zt c (zH r (zl b.1)) (vote c (see c r.2.2.2.1 b.2) b)).1,true) else
   voted c r (zt c (zH r (zl b.1)) (vote c (see c r.2.2.2.1 b.2) b)).1 b.1)
 else (bif !(zt c r (see c r.2.2.2.1 b.2)).2 then (r,false) else ((zt c r (see c r.2.2.2.1 b.2)).1,true))
theorem bl (v me:Int) (name:List UInt8):zp (v,name,[me])=name.length+1:=by simp[zp,zu]
theorem agk (c:za) (w:zb) (name:List UInt8) (hok:zd c w=true) (hw:zf w<=13000000) (hn:name.length<=1100000):
  qi (c,w,name,())=some ((voted c w w name).1,(voted c w w name).2,()):=by
 have ht:zL w.2.2.2.2.2.1<=13000000:=by simp only[zf] at hw; omega
 have hp:=bl (zl name) w.1 name;have hta:=eI c w.2.2.2.2.2.1 (zl name,name,[w.1]);have hwr:zf (yv w (zD c w.2.2.2.2.2.1 (zl name,name,[w.1])).1)<=15000000:=by simp only[yv,zf] at *; omega
 unfold qi voted;dsimp only;rw[KT name (by omega),aqC];dsimp only;rw[nH c w.2.2.2.2.2.1 (zl name,name,[w.1]) (by omega) (by omega),Option.bind_some];cases h:(zD c w.2.2.2.2.2.1 (zl name,name,[w.1])).2
 ·rfl
 ·have akM:=oA (t:=(zD c w.2.2.2.2.2.1 (zl name,name,[w.1])).1) hok (ql h);simp only[aqI,aqD];show ((yW (yv w (zD c w.2.2.2.2.2.1 (zl name,name,[w.1])).1,())).bind _)=_;rw[Yd _ (by omega),aqC,aqC];dsimp only;rw[vN c _ (zl name) name false akM hwr (by omega),aqC];unfold climb;rw[akM];cases (Yj c (yv w (zD c w.2.2.2.2.2.1 (zl name,name,[w.1])).1) (zl name) name false).2<;>rfl
theorem agM (c:za) (r0 w:zb) (name:List UInt8):(voted c r0 w name).2=(zD c w.2.2.2.2.2.1 (zl name,name,[w.1])).2/\((voted c r0 w name).2=true->(voted c w w name).1=(voted c r0 w name).1)/\((voted c r0 w name).2=false->(voted c r0 w name).1=r0)/\(voted c w w name).2=(voted c r0 w name).2:=by
 unfold voted;cases (zD c w.2.2.2.2.2.1 (zl name,name,[w.1])).2
 ·exact⟨rfl,λ h=>(by cases h),λ _=>rfl,rfl⟩
 ·exact⟨rfl,λ _=>rfl,λ h=>(by cases h),rfl⟩
theorem In (c:za) (r:zb) (b:y9) (hrb:zf r+zA b<=1048576):ax (c,r,b,())=some ((YG c r b).1,(YG c r b).2,()):=by
 have hs:zz r.2.2.2.1<=zf r:=by simp only[zf]; omega
 have hq:zj b.2<=zA b/\b.1.length<=zA b:=by simp only[zA]; omega
 have akP:=N1 c r.2.2.2.1 b.2;have apY:=Od c (see c r.2.2.2.1 b.2) b;have hiv:zf (zH r (zl b.1))=zf r:=rfl;unfold ax YG;dsimp only;rw[Yd r (by omega),aqC,YW c r (by omega),aqC,mY c b (by omega),aqC,aqC,vF c r.2.2.2.1 b.2 (by omega) (by omega),aqC,KT b.1 (by omega),aqC,Ir c (see c r.2.2.2.1 b.2) b (by omega) (by omega),aqC,agc c (see c r.2.2.2.1 b.2) b (by omega) (by omega)];simp only[aqC];cases hok:zd c r
 ·rfl
 cases hbo:jn c b
 ·rfl
 by_cases hv:zl b.1≥r.2.1
 ·have hn:zG b.1=true/\b.1≠[]:=by
   unfold jn at hbo;simp only[aqF,bne_iff_ne,ne_eq] at hbo;exact⟨hbo.2.1,hbo.2.2.1⟩
  have hnv:=NG hn.1 hn.2;have aiv:=cq (v:=zl b.1) hok hnv;simp only[hv,aqH,aqE,aqI,aqD];cases hm:Z1 c (see c r.2.2.2.1 b.2) b
  ·have e:vote c (see c r.2.2.2.1 b.2) b=see c r.2.2.2.1 b.2:=by unfold vote; rw[hm]; rfl
   simp only[aqD,ar1,aqE,e];show ((Jj (c,zH r (zl b.1),see c r.2.2.2.1 b.2,())).bind _)=_;rw[ew c (zH r (zl b.1)) (see c r.2.2.2.1 b.2) (by omega) (by omega),aqC];cases (zt c (zH r (zl b.1)) (see c r.2.2.2.1 b.2)).2<;>rfl
  ·simp only[aqE,aqI,aqD];have hww:=lc c (zH r (zl b.1)) (vote c (see c r.2.2.2.1 b.2) b);show ((Jj (c,zH r (zl b.1),vote c (see c r.2.2.2.1 b.2) b,())).bind _)=_;rw[ew c (zH r (zl b.1)) (vote c (see c r.2.2.2.1 b.2) b) (by omega) (by omega),aqC];cases hw:(zt c (zH r (zl b.1)) (vote c (see c r.2.2.2.1 b.2) b)).2
   ·rfl
   ·obtain⟨o1,o2,o3⟩:=eU aiv hw;obtain⟨f1,f2,f3,f4⟩:=agM c r (zt c (zH r (zl b.1)) (vote c (see c r.2.2.2.1 b.2) b)).1 b.1;simp only[aqE,aqI,aqD];rw[agk c _ b.1 o1 (by omega) (by omega),aqC];dsimp only;rw[f4];cases hf:(voted c r (zt c (zH r (zl b.1)) (vote c (see c r.2.2.2.1 b.2) b)).1 b.1).2
    ·simp only[ar1,aqE,f3 hf]
    ·simp only[aqI,aqD,f2 hf]
 ·simp only[hv,aqL,aqD,aqI];rw[ew c r (see c r.2.2.2.1 b.2) (by omega) (by omega),aqC];cases (zt c r (see c r.2.2.2.1 b.2)).2<;>rfl
theorem At (c:za) (r:zb) (b:y9) (hrb:zf r+zA b<=1048576):bQ (c,r,b,())=some ((YG c r b).1,(YG c r b).2,()):=by
 have hs:zz r.2.2.2.1<=zf r:=by simp only[zf]; omega
 have hq:zj b.2<=zA b/\b.1.length<=zA b:=by simp only[zA]; omega
 have akP:=N1 c r.2.2.2.1 b.2;have apY:=Od c (see c r.2.2.2.1 b.2) b;have hiv:zf (zH r (zl b.1))=zf r:=rfl;unfold bQ YG;dsimp only;rw[ZW r (by omega),ZU c r (by omega),aqC,f7 c b (by omega),pO c r.2.2.2.1 b.2 (by omega) (by omega),Lh b.1 (by omega)];simp only[aqC];rw[XE c (see c r.2.2.2.1 b.2) b (by omega) (by omega)];simp only[aqC];cases hok:zd c r
 ·rfl
 cases hbo:jn c b
 ·rfl
 by_cases hv:zl b.1≥r.2.1
 ·have hn:zG b.1=true/\b.1≠[]:=by
   unfold jn at hbo;simp only[aqF,bne_iff_ne,ne_eq] at hbo;exact⟨hbo.2.1,hbo.2.2.1⟩
  have hnv:=NG hn.1 hn.2;have aiv:=cq (v:=zl b.1) hok hnv;have hww:=lc c (zH r (zl b.1)) (vote c (see c r.2.2.2.1 b.2) b);have hwe:write c (zH r (zl b.1)) (vote c (see c r.2.2.2.1 b.2) b)=zt c (zH r (zl b.1)) (vote c (see c r.2.2.2.1 b.2) b):=by unfold write; rw[aiv]; rfl
  simp only[hv,aqH,aqE,aqI,aqD];show ((Mm (c,zH r (zl b.1),vote c (see c r.2.2.2.1 b.2) b,())).bind _)=_;rw[ka c (zH r (zl b.1)) (vote c (see c r.2.2.2.1 b.2) b) (by omega) (by omega),aqC,hwe];cases hw:(zt c (zH r (zl b.1)) (vote c (see c r.2.2.2.1 b.2) b)).2
  ·rfl
  ·obtain⟨o1,o2,o3⟩:=eU aiv hw;have o2:(zt c (zH r (zl b.1)) (vote c (see c r.2.2.2.1 b.2) b)).1.1=r.1:=o2;cases hm:Z1 c (see c r.2.2.2.1 b.2) b
   ·rfl
   ·simp only[aqI,aqD];unfold voted;rw[←o2];generalize (zt c (zH r (zl b.1)) (vote c (see c r.2.2.2.1 b.2) b)).1=w at *;have ht:zL w.2.2.2.2.2.1<=zf w:=by simp only[zf]; omega
    have hp:=bl (zl b.1) w.1 b.1;have hta:=eI c w.2.2.2.2.2.1 (zl b.1,b.1,[w.1]);have hwr:zf (yv w (zD c w.2.2.2.2.2.1 (zl b.1,b.1,[w.1])).1)<=zf w+b.1.length+2:=by simp only[yv,zf] at *; omega
    rw[gS c w.2.2.2.2.2.1 (zl b.1,b.1,[w.1]) (by omega) (by omega),Option.bind_some];cases h:(zD c w.2.2.2.2.2.1 (zl b.1,b.1,[w.1])).2
    ·rfl
    ·simp only[aqI,aqD];show ((Mh (c,yv w (zD c w.2.2.2.2.2.1 (zl b.1,b.1,[w.1])).1,zl b.1,b.1,false,())).bind _)=_;rw[pH c _ (zl b.1) b.1 false (by omega) (by omega),aqC]
 ·have hwe:write c r (see c r.2.2.2.1 b.2)=zt c r (see c r.2.2.2.1 b.2):=by unfold write; rw[hok]; rfl
  simp only[hv,aqL,aqD,aqI];rw[ka c r (see c r.2.2.2.1 b.2) (by omega) (by omega),aqC,hwe];cases (zt c r (see c r.2.2.2.1 b.2)).2<;>rfl
noncomputable def late (c:za) (r:zb):zb×Bool:=
 bif !zd c r then (r,false) else bif decide (r.2.1≥60) then (r,false) else
 bif yg c (r.2.1+1)==r.1 then
  (bif !(zD c r.2.2.2.2.2.1 (r.2.1+1,[],[r.1])).2 then (r,false) else (yv (zH r (r.2.1+1)) (zD c r.2.2.2.2.2.1 (r.2.1+1,[],[r.1])).1,true))
 else
  (bif !(ju c (zH r (r.2.1+1)) (yg c (r.2.1+1)) (3,r.2.1+1,([],0,[],[]),(0,[],[]),r.2.2.2.1.2.2.1,r.1,0,0,0,0)).2 then (r,false) else
   ((ju c (zH r (r.2.1+1)) (yg c (r.2.1+1)) (3,r.2.1+1,([],0,[],[]),(0,[],[]),r.2.2.2.1.2.2.1,r.1,0,0,0,0)).1,true))
theorem afI (c:za) (r:zb) (hr:zf r<=2000000):N5 (c,r,())=some ((late c r).1,(late c r).2,()):=by
 have ht:zL r.2.2.2.2.2.1<=2000000:=by simp only[zf] at hr; omega
 have hq:zj r.2.2.2.1.2.2.1<=2000000:=by simp only[zf,zz] at hr; omega
 unfold N5 late;dsimp only;rw[Yd r (by omega),aqC,YW c r (by omega),aqC];cases hok:zd c r
 ·rfl
 ·have hv:=KP hok;have hp:=bl (r.2.1+1) r.1 [];have hm:=kR r.2.2.2.1.2.2.1 (r.2.1+1) r.1;simp only[aqI,aqD,zg (show -9223372036854775808<=r.2.1+1 by omega) (show r.2.1+1<=9223372036854775807 by omega),N9,aqC];cases decide (r.2.1≥60)
  ·simp only[aqD];cases (yg c (r.2.1+1)==r.1)
   ·simp only[aqD];show ((LQ (c,zH r (r.2.1+1),yg c (r.2.1+1),(3,r.2.1+1,([],0,[],[]),(0,[],[]),r.2.2.2.1.2.2.1,r.1,0,0,0,0),())).bind _)=_;rw[nR c (zH r (r.2.1+1)) _ _ (QR hok) (by show zf r<=_; omega) (by omega),aqC]
    cases (ju c (zH r (r.2.1+1)) (yg c (r.2.1+1)) (3,r.2.1+1,([],0,[],[]),(0,[],[]),r.2.2.2.1.2.2.1,r.1,0,0,0,0)).2<;>rfl
   ·simp only[aqE];rw[nH c r.2.2.2.2.2.1 (r.2.1+1,[],[r.1]) (by omega) (by simp only[aqJ] at hp; omega),Option.bind_some]
    cases (zD c r.2.2.2.2.2.1 (r.2.1+1,[],[r.1])).2<;>rfl
  ·rfl
theorem W8 (c:za) (r:zb) (hr:zf r<=2000000):gt (c,r,())=some ((late c r).1,(late c r).2,()):=by
 have ht:zL r.2.2.2.2.2.1<=2000000:=by simp only[zf] at hr; omega
 have hq:zj r.2.2.2.1.2.2.1<=2000000:=by simp only[zf,zz] at hr; omega
 unfold gt late;dsimp only;rw[ZW r (by omega),ZU c r (by omega),aqC,aqC];cases hok:zd c r
 ·rfl
 ·have hv:=KP hok;have hp:=bl (r.2.1+1) r.1 [];have hm:=kR r.2.2.2.1.2.2.1 (r.2.1+1) r.1;simp only[aqI,aqD,zg (show -9223372036854775808<=r.2.1+1 by omega) (show r.2.1+1<=9223372036854775807 by omega),Qj,aqC];by_cases h60:r.2.1≥60
  ·have e:(r.2.1==60)=true:=by rw[ar5]; omega
   simp only[h60,aqH,aqE,e]
  ·have e:(r.2.1==60)=false:=beq_eq_false_iff_ne.2 (by omega);have hk:=cq (v:=r.2.1+1) hok (by omega);simp only[h60,aqL,aqD,e];cases (yg c (r.2.1+1)==r.1)
   ·simp only[aqD];show ((Lg (c,zH r (r.2.1+1),yg c (r.2.1+1),(3,r.2.1+1,([],0,[],[]),(0,[],[]),r.2.2.2.1.2.2.1,r.1,0,0,0,0),())).bind _)=_;rw[gU c (zH r (r.2.1+1)) _ _ (by show zf r<=_; omega) (by omega),←eN _ _ hk,aqC]
    cases (ju c (zH r (r.2.1+1)) (yg c (r.2.1+1)) (3,r.2.1+1,([],0,[],[]),(0,[],[]),r.2.2.2.1.2.2.1,r.1,0,0,0,0)).2<;>rfl
   ·simp only[aqE];rw[gS c r.2.2.2.2.2.1 (r.2.1+1,[],[r.1]) (by omega) (by simp only[aqJ] at hp; omega),Option.bind_some]
    cases (zD c r.2.2.2.2.2.1 (r.2.1+1,[],[r.1])).2<;>rfl
theorem tW (c:UInt8):∀ s:List UInt8,s.length+1=((zY c s).map λ p=>p.length+1).sum
 | []=>by simp[zY]
 | x::l=>by
  have ih:=tW c l;simp only[zY];split
  ·simp only[aqZ,arh,aqJ,aqG]; omega
  ·cases h:zY c l with
   | nil=>exact absurd h (JJ _ _)
   | cons p r=>
    rw[h] at ih;simp only[glue,aqZ,arh,aqM,aqG,aqJ] at ih ⊢;omega
theorem agG {s:List UInt8} (h:(ZO s).2=true):s.length<=27:=by
 unfold ZO at h;split at h
 ·next hh=>rw[←hh.2]; exact eO _
 ·cases h
theorem I2:∀ (ps:List (List UInt8)) (out:List zK),(Jl ps out).2=true->(Jl ps out).1.length=out.length+ps.length/\(ps.map λ p=>p.length+1).sum<=28*ps.length
 | [],out,_=>by simp[Jl]
 | p::ps,out,h=>by
  simp only[Jl] at h ⊢;split at h
  ·next hp=>
   have h1:=agG hp;obtain⟨h2,h3⟩:=I2 ps _ h;rw[if_pos hp];simp only[aqM,aqG,aqJ,aqZ,arh] at h2 ⊢;omega
  ·cases h
theorem agL {s:List UInt8} (h:(jC s).2=true):s.length<=28*(jC s).1.length:=by
 unfold jC at h ⊢;split at h
 ·next e=>subst e; simp
 ·next e=>
  rw[if_neg e];obtain⟨h1,h2⟩:=I2 _ _ h;have:=tW 44 s;simp only[aqJ,arv] at h1;omega
theorem ab8 {s:List UInt8} (h:(zE s).2=true):s.length<=6:=by
 unfold zE at h;split at h
 ·next hh=>exact hh.2.1
 ·cases h
theorem IQ:∀ (ps:List (List UInt8)) (prev:Int) (out:List YD),(jX ps prev out).2=true->(ps.map λ p=>p.length+1).sum<=64*ps.length
 | [],_,_,_=>by simp
 | p::ps,prev,out,h=>by
  simp only[jX] at h;cases hq:jb 124 p with
  | none=>rw[hq] at h; cases h
  | some q=>
   rw[hq] at h;simp only at h;split at h
   ·next hs=>
    unfold jh at hs;simp only[aqF,aqP] at hs;obtain⟨a1,a2,-,-,a5⟩:=hs;have b1:=ab8 a1;have b2:=agL a2;obtain⟨q1,q2⟩:=q;have b3:=(pg 124 hq).1;have ih:=IQ ps _ _ h;simp only[aqZ,arh,aqG] at ih ⊢;simp only at b1 b2 a5;omega
   ·cases h
theorem Lo {s:List UInt8} (h:zG s=true):s.length<=1920:=by
 unfold zG steps at h;split at h
 ·next e=>subst e; simp
 ·have hs:=tW 47 s;cases hp:zY 47 s with
  | nil=>exact absurd hp (JJ _ _)
  | cons p ps=>
   rw[hp] at h hs;simp only at h;split at h
   ·next hh=>
    obtain⟨rfl,h30⟩:=hh;have:=IQ ps _ _ h;simp only[aqZ,arh,aqJ] at hs;omega
   ·cases h
theorem GP (n:Int):∀ (l:List Int) (p:Int),YT n (some p) l=true->p<n->(l.length:Int)<=n - 1 - p
 | [],p,_,hp=>by simp; omega
 | x::l,p,h,hp=>by
  simp only[YT,aqF,arc,as1] at h;obtain⟨h1,h2,h3,h4⟩:=h;have:=GP n l x h4 (by omega);simp only[aqG];omega
theorem vn {n:Int} {l:List Int} (h:jV n l=true) (hn:0<=n):(l.length:Int)<=n:=by
 unfold jV at h;cases l with
 | nil=>simpa using hn
 | cons x l=>
  simp only[YT,aqF,arc,as1] at h;obtain⟨h1,h2,h3,h4⟩:=h;have:=GP n l x h4 (by omega);simp only[aqG];omega
theorem GQ (n:Int):∀ (l:List Int) (p:Option Int),YT n p l=true->∀ x∈l,0<=x/\x<n
 | [],_,_,x,hx=>by cases hx
 | y::l,p,h,x,hx=>by
  simp only[YT,aqF,arc,as1] at h;obtain⟨h1,h2,h3,h4⟩:=h;rcases List.mem_cons.1 hx with rfl|hx
  ·omega
  ·exact GQ n l _ h4 x hx
theorem dI {n:Int} {l:List Int} (h:jV n l=true):∀ x∈l,0<=x/\x<n:=GQ n l none h
theorem dp {c:za} {q:zF} (h:zP c q=true):zj q<=1927:=by
 unfold zP at h;simp only[aqF] at h;obtain⟨h1,h2,h3,h4⟩:=h;have hc:=zS h1;have hn:=Lo h2;simp only[zj,zu];cases he:(q.2.1==([]:List UInt8))<;>rw[he] at h4
 ·simp only[aqD,aqF] at h4;have:=vn h4.1 (by omega);omega
 ·simp only[aqE,ar5] at h4;omega
theorem sg {c:za} {p:zJ} (h:y5 c p=true):zp p<=1927:=by
 unfold y5 at h;simp only[aqF,arj] at h;obtain⟨h1,h2,h3,h4,h5⟩:=h;have hc:=zS h1;have:=vn h3 (by omega);simp only[zp,zu];rcases h5 with h5|h5
 ·simp only[ar5] at h5;rw[h5];simp only[aqJ];omega
 ·have hn:=Lo h5.1;omega
theorem wV {c:za} {b:y9} (h:jn c b=true):zA b<=3847:=by
 unfold jn at h;simp only[aqF] at h;have h1:=dp h.1;have h2:=Lo h.2.1;simp only[zA];omega
theorem t8 {a b:zF} (h:js a b=true):a=b:=by
 unfold js at h;simp only[aqF,ar5,aqP] at h;obtain⟨a1,a2,a3⟩:=a;obtain⟨b1,b2,b3⟩:=b;simp only at h;simp[h.1,h.2.1,h.2.2]
theorem BK {a b:zo} (h:YJ a b=true):a=b:=by
 unfold YJ Ky bh at h;simp only[aqF,ar5] at h;obtain⟨a1,a2,⟨a3,a3'⟩,a4,a5,a6,a7⟩:=a;obtain⟨b1,b2,⟨b3,b3'⟩,b4,b5,b6,b7⟩:=b;simp only at h;obtain⟨h1,h2,⟨h3,h3'⟩,h4,h5,h6,h7⟩:=h;have e1:=t8 h3';have e2:a4=b4:=t8 h4;have e3:=t8 h5;subst h1 h2 h3 e1 e2 e3 h6;obtain⟨x1,x2,x3,x4⟩:=a7;obtain⟨y1,y2,y3,y4⟩:=b7;simp only at h7;obtain⟨k1,k2,k3,k4,-⟩:=h7;subst k1 k2 k3 k4;rfl
theorem QC {c:za} {m:zo} (h:zR c m=true):zh m<=3847:=by
 unfold zR at h;simp only[aqF] at h;obtain⟨h1,h2,h3⟩:=h;have e:=BK h2;rw[←e];unfold canon;cases k1:(m.1==1)
 ·cases k2:(m.1==2)
  ·cases k3:(m.1==3)
   ·cases k4:(m.1==4)
    ·simp[zh,zA,zj,zp,zu]
    ·simp[zh,zA,zj,zp,zu]
   ·rw[k1,k2,k3] at h3;simp only[aqD,aqE,aqF] at h3;have:=dp h3.2.1;simp only[aqD,aqE,zh,zA,zp,zu,aqJ];simp only[zj,zu,aqJ] at this ⊢;omega
  ·rw[k1,k2] at h3;simp only[aqD,aqE,aqF] at h3;have:=sg h3.1;simp only[aqD,aqE,zh,zA,zj,zu,aqJ];simp only[zp,zu] at this ⊢;omega
 ·rw[k1] at h3;simp only[aqE] at h3;have:=wV h3;simp only[aqE,zh,zj,zp,zu,aqJ];simp only[zA,zj,zu] at this ⊢;omega
theorem mK {c:za} {s:zx} (h:zT c s=true):zz s<=3847:=by
 unfold zT at h;simp only[aqF] at h;have h1:=dp h.2.2.1;have h2:=Lo h.2.2.2;simp only[zz];omega
theorem bf {α:Type} (f:α->Nat) (k:Nat):∀ (l:List α),(∀ x∈l,f x<=k)->(l.map f).sum<=k*l.length
 | [],_=>by simp
 | x::l,h=>by
  have h1:=h x (by simp);have h2:=bf f k l λ y hy=>h y (by simp[hy]);simp only[aqZ,arh,aqG,Nat.mul_add,Nat.mul_one];omega
theorem w7 {α:Type} {ok:α->Bool} {lt:α->α->Bool}:∀ {l:List α} {p:Option α},yH ok lt p l=true->∀ x∈l,ok x=true
 | [],_,_,x,hx=>by cases hx
 | y::l,p,h,x,hx=>by
  simp only[yH,aqF] at h;rcases List.mem_cons.1 hx with rfl|hx
  ·exact h.1
  ·exact w7 h.2.2 x hx
theorem eJ {c:za} {l:z6} (h:jR c l=true):zL l<=38560:=by
 unfold jR at h;simp only[aqF,aqP] at h;have h1:=bf zp 1927 l λ x hx=>sg (w7 h.1 x hx);simp only[zL];omega
theorem Jd {c:za} {r:zb} (h:zd c r=true):zB c=true/\(0<=r.1/\r.1<=c.1 - 1)/\(1<=r.2.1/\r.2.1<=60)/\(0<=r.2.2.1/\r.2.2.1<=60)/\zT c r.2.2.2.1=true/\jz r.2.2.2.2.1=true/\
  jR c r.2.2.2.2.2.1=true/\yK r.2.2.2.2.2.2.1=true/\r.2.2.2.2.2.2.2.length<=30/\∀ x∈r.2.2.2.2.2.2.2,ZC c r.1 x=true:=by
 unfold zd at h;simp only[aqF,aqP,List.all_eq_true] at h;obtain⟨h1,h2,h3,h4,h5,h6,h7,h8,h9,h10⟩:=h;exact⟨h1,h2,h3,h4,h5,h6,h7,h8,by omega,h10⟩
theorem Ze {c:za} {r:zb} (h:zd c r=true):zf r<=260000:=by
 obtain⟨h1,h2,h3,h4,h5,h6,h7,h8,h9,h10⟩:=Jd h;have a5:=mK h5;have a7:=eJ h7;unfold jz at h6;unfold yK at h8;simp only[aqF,aqP] at h6 h8;have a10:=bf Yf 3847 r.2.2.2.2.2.2.2 λ x hx=>by
  have:=h10 x hx;unfold ZC at this;simp only[aqF] at this;exact QC this.1
 simp only[zf,Kt,KY,yu];omega
theorem BO:zG []=true:=by unfold zG steps; simp
theorem BN (up:List UInt8) (view:Int) (list:zy):zG (jy up view list)=true:=by
 unfold jy;cases h:(list.all zI && zG (Z2 up view list))
 ·exact BO
 ·simp only[aqF] at h;exact h.2
theorem Oc:zl []=0:=by unfold zl steps; simp
theorem qs {s:List UInt8} (h:zG s=true):0<=zl s/\zl s<=60:=by
 by_cases e:s=[]
 ·subst e; rw[Oc]; omega
 ·have:=NG h e; omega
theorem Be (c:j9) (hc:Zw c):Ens (yz (c,())) λ r=>0<=r.1.2.1/\zI r.2.1=true:=by
 unfold yz;refine (Zi c 4 hc).bind λ r0 h0 => ?_;refine (Zi (c.1,r0.1.2) 4 ⟨hc.1,h0.1⟩).bind λ r1 h1 => ?_;refine (rj (c.1,r1.1.2) _ ⟨hc.1,h1.1⟩ (by simp)).bind λ r2 h2 => ?_;refine (Zi (c.1,r2.1.2) 3 ⟨hc.1,h2.1⟩).bind λ r3 h3 => ?_;refine Ens.some ⟨h3.1,?_⟩;have a0:=h0.2.2 (by decide);have a1:=h1.2.2 (by decide);have a3:=h3.2.2 (by decide);have a2:=h2.2;simp only[aqW,aro,or_false] at a2;rw[MX];dsimp only;omega
theorem wd {n:Nat} (h:n<256):(y8 (n:Int)).toNat=n:=by
 rw[wc];have e:((n:Int) % 256).toNat=n:=by omega
 rw[e];simp[UInt8.toNat_ofNat'];omega
theorem IZ (b:UInt8):y8 (b.toNat:Int)=b:=by
 apply UInt8.toNat_inj.1;exact wd (UInt8.toNat_lt b)
theorem lV {n:Nat}:1<=(j6 n).length:=by
 by_cases h:n>127
 ·rw[Mx h]; simp
 ·rw[LA h]; simp
theorem Ab:∀ (m n v k:Nat) (post:List UInt8),(j6 n).length<=m->(k>0->n>0)->v+n*128 ^ k<=2147483647->Za (j6 n++post) v k m=some (v+n*128 ^ k,k+(j6 n).length)
 | 0,n,v,k,post,h,_,_=>by have:=lV (n:=n); omega
 | m+1,n,v,k,post,h,hk,hv=>by
  by_cases hn:n>127
  ·rw[Mx hn] at h ⊢;have hb:(y8 ((n % 128+128:Nat):Int)).toNat=n % 128+128:=wd (by omega);simp only[arE,Za,hb];rw[if_neg (by omega),show (n % 128+128) % 128=n % 128 by omega];have e:v+n % 128*128 ^ k+n / 128*128 ^ (k+1)=v+n*128 ^ k:=by
    rw[arC,←Nat.mul_assoc,Nat.mul_right_comm,aru,←arl];congr 2;omega
   rw[Ab m (n / 128) _ (k+1) post (by simp at h; omega) (by omega) (by rw[e]; exact hv),e]
   simp;omega
  ·rw[LA hn] at h ⊢;have hb:(y8 (n:Int)).toNat=n:=wd (by omega);simp only[arE,Za,hb,ar6];rw[if_pos (by omega),if_neg (by omega)];simp
theorem Aa:∀ (l:List UInt8) (v k m:Nat) {p:Nat×Nat},Za l v k m=some p->∃ n post,l=j6 n++post/\p.1=v+n*128 ^ k/\p.2=k+(j6 n).length/\(k>0->n>0)
 | [],v,k,m,p,h=>by rw[bI] at h; cases h
 | b::l,v,k,0,p,h=>by cases h
 | b::l,v,k,m+1,p,h=>by
  simp only[Za] at h;split at h
  ·next hb=>
   split at h
   ·cases h
   ·next hc=>
    cases h;refine⟨b.toNat,l,?_,rfl,?_,?_⟩
    ·rw[LA (by omega),IZ]; rfl
    ·rw[LA (by omega)]; rfl
    ·intro hk;rcases Nat.eq_zero_or_pos b.toNat with h0|h0
     ·exact absurd (.inl ⟨hk,h0⟩) hc
     ·exact h0
  ·next hb=>
   obtain⟨n',post,e1,e2,e3,e4⟩:=Aa l _ _ m h;have hn':=e4 (by omega);have hlt:=UInt8.toNat_lt b;have hn:n'*128+b.toNat % 128>127:=by omega
   have ed:(n'*128+b.toNat % 128) / 128=n':=by omega
   have em:(n'*128+b.toNat % 128) % 128+128=b.toNat:=by omega
   refine⟨n'*128+b.toNat % 128,post,?_,?_,?_,λ _=>by omega⟩
   ·rw[Mx hn,ed,em,IZ,e1]; rfl
   ·rw[e2,arC,arl,←Nat.mul_assoc,Nat.mul_right_comm n' (128 ^ k) 128];omega
   ·rw[Mx hn,ed,aqG,e3]; omega
theorem di {n:Nat} (h:n<=2147483647):zn (n:Int)=j6 n:=by
 unfold zn;rw[if_pos (by omega)];rfl
theorem Ae {s:List UInt8} {at_:Int} {n:Int} {post:List UInt8} (h0:0<=at_) (hn:0<=n/\n<=2147483647) (hs:s.drop at_.toNat=zn n++post):zi s at_=(n,at_+((zn n).length:Int),true):=by
 obtain⟨k,rfl⟩:=Int.eq_ofNat_of_zero_le hn.1;have hk:k<=2147483647:=by omega
 rw[di hk] at hs ⊢;unfold zi;have hl:=dh 5 k (by omega);rw[if_neg (by omega),hs,Ab 5 k 0 0 post (by simpa using hl) (by omega) (by simpa using hk)];simp
theorem Ad {s:List UInt8} {at_:Int} (h:(zi s at_).2.2=true):(zi s at_).2.1=at_+((zn (zi s at_).1).length:Int)/\s.drop at_.toNat=zn (zi s at_).1++s.drop (zi s at_).2.1.toNat:=by
 have hb:=KB s at_ h;unfold zi at h hb ⊢;split at h
 ·simp at h
 ·next ha=>
  rw[if_neg ha] at hb ⊢;cases hg:Za (s.drop at_.toNat) 0 0 5 with
  | none=>rw[hg] at h; simp at h
  | some p=>
   rw[hg] at hb;obtain⟨n,post,e1,e2,e3,_⟩:=Aa _ _ _ _ hg;simp only[Nat.pow_zero,Nat.mul_one,arv] at e2 e3;simp only at hb ⊢;rw[e2,di (by omega),e3];refine⟨rfl,?_⟩;have:(at_+((j6 n).length:Int)).toNat=at_.toNat+(j6 n).length:=by omega
   rw[this,←ark,e1];simp
def Rds (s:List UInt8) (r r':zX) (bs:List UInt8):Prop:=r.2=true/\0<=r.1/\r'=(r.1+(bs.length:Int),true)/\s.drop r.1.toNat=bs++s.drop r'.1.toNat
theorem Rds.app {s:List UInt8} {r r1 r2:zX} {a b:List UInt8} (h1:Rds s r r1 a) (h2:Rds s r1 r2 b):Rds s r r2 (a++b):=by
 obtain⟨a1,a2,a3,a4⟩:=h1;obtain⟨b1,b2,b3,b4⟩:=h2;refine⟨a1,a2,?_,?_⟩
 ·rw[b3,a3,aqM]; simp only[aqO,and_true]; omega
 ·rw[a4,b4,ar7]
theorem Rds.all {s:List UInt8} {r':zX} {bs:List UInt8} (h:Rds s (0,true) r' bs) (hl:r'.1=(s.length:Int)):s=bs:=by
 obtain⟨_,_,_,h4⟩:=h;rw[hl] at h4;simpa using h4
theorem Z8 {s:List UInt8} {r:zX} {n:Int} {post:List UInt8} (hr:r.2=true) (h0:0<=r.1) (hn:0<=n/\n<=2147483647) (hs:s.drop r.1.toNat=zn n++post):zk s r=((r.1+((zn n).length:Int),true),n)/\s.drop (r.1+((zn n).length:Int)).toNat=post:=by
 unfold zk;rw[Ae h0 hn hs,if_pos ⟨rfl,hr⟩];refine⟨rfl,?_⟩;have:(r.1+((zn n).length:Int)).toNat=r.1.toNat+(zn n).length:=by omega
 rw[this,←ark,hs];simp
theorem YN {s:List UInt8} {r:zX} (h:(zk s r).1.2=true):Rds s r (zk s r).1 (zn (zk s r).2):=by
 have h1:=Jb h;unfold zk at h h1 ⊢;split at h
 ·next hc=>
  rw[if_pos hc];obtain⟨e1,e2⟩:=Ad hc.1;exact⟨hc.2,h1.2.1,by rw[e1],e2⟩
 ·simp at h
theorem dr {s:List UInt8} {r:zX} {t post:List UInt8} (hr:r.2=true) (h0:0<=r.1) (ht:t.length<=2147483647) (hs:s.drop r.1.toNat=z8 t++post):yf s r=((r.1+((z8 t).length:Int),true),t)/\s.drop (r.1+((z8 t).length:Int)).toNat=post:=by
 unfold z8 at hs ⊢;rw[ar7] at hs;have hg:=Ae h0 (n:=(t.length:Int)) (by omega) hs;have e1:(r.1+((zn (t.length:Int)).length:Int)).toNat=r.1.toNat+(zn (t.length:Int)).length:=by omega
 have e2:s.drop (r.1+((zn (t.length:Int)).length:Int)).toNat=t++post:=by
  rw[e1,←ark,hs]; simp
 have hlen:r.1.toNat+(zn (t.length:Int)).length+t.length<=s.length:=by
  have:=congrArg List.length hs;simp only[ar2,aqM] at this;have:=lV (n:=t.length);rw[di ht] at *;omega
 have hgt:zw s r.1=(t,r.1+((zn (t.length:Int)).length:Int)+(t.length:Int),true):=by
  unfold zw;rw[hg];simp only;rw[if_pos ⟨trivial,by omega⟩,e2];simp
 unfold yf;rw[hgt,if_pos ⟨rfl,hr⟩];simp only[aqM];refine⟨by simp only[aqO,and_true]; omega,?_⟩
 have e3:(r.1+(((zn (t.length:Int)).length+t.length:Nat):Int)).toNat=(r.1+((zn (t.length:Int)).length:Int)).toNat+t.length:=by omega
 rw[e3,←ark,e2];simp
theorem lZ {s:List UInt8} {r:zX} (h:(yf s r).1.2=true):Rds s r (yf s r).1 (z8 (yf s r).2):=by
 have h1:=Mz h;unfold yf at h h1 ⊢;split at h
 ·next hc=>
  rw[if_pos hc];have hg:=hc.1;unfold zw at hg ⊢;split at hg
  ·next hh=>
   rw[if_pos hh];have hok:=KB s r.1 hh.1;obtain⟨e1,e2⟩:=Ad hh.1;have hle:=hh.2;have hl:((s.drop (zi s r.1).2.1.toNat).take (zi s r.1).1.toNat).length=(zi s r.1).1.toNat:=by
    simp only[aqV,ar2]; omega
   unfold z8;simp only;rw[hl,show (((zi s r.1).1.toNat:Nat):Int)=(zi s r.1).1 by omega];refine⟨hc.2,hok.1,?_,?_⟩
   ·rw[aqM,hl];simp only[aqO,and_true];omega
   ·rw[e2,ar7];congr 1;have:((zi s r.1).2.1+(zi s r.1).1).toNat=(zi s r.1).2.1.toNat+(zi s r.1).1.toNat:=by omega
    rw[this,←ark,as0]
  ·simp at hg
 ·simp at h
theorem NH (x:Int) (l:List Int):nums (x::l)=zn x++nums l:=by unfold nums; simp
theorem Oj {s:List UInt8}:∀ (l:List Int) (r:zX) (out:List Int) (post:List UInt8),r.2=true->0<=r.1->(∀ x∈l,0<=x/\x<=2147483647)->s.drop r.1.toNat=nums l++post->
  yP s l.length r out=((r.1+((nums l).length:Int),true),out++l)/\s.drop (r.1+((nums l).length:Int)).toNat=post
 | [],r,out,post,hr,h0,_,hs=>by
  obtain⟨a,b⟩:=r;simp only at hr;subst hr;refine⟨by simp[yP,nums],?_⟩;simpa[nums] using hs
 | x::l,r,out,post,hr,h0,hx,hs=>by
  rw[NH,ar7] at hs;obtain⟨e1,e2⟩:=Z8 hr h0 (hx x (by simp)) hs;obtain⟨k1,k2⟩:=Oj l (r.1+((zn x).length:Int),true) (out++[x]) post rfl (by simp only; omega) (λ y hy=>hx y (by simp[hy])) e2
  simp only[aqG,yP];rw[if_pos hr,e1];simp only;have e3:r.1+((zn x).length:Int)+((nums l).length:Int)=r.1+((nums (x::l)).length:Int):=by rw[NH,aqM]; omega
  rw[e3] at k1 k2;exact⟨by rw[k1]; simp,k2⟩
theorem Oi {s:List UInt8}:∀ (n:Nat) (r:zX) (out:List Int),r.2=true->(yP s n r out).1.2=true->∃ l,(yP s n r out).2=out++l/\l.length=n/\(0<=r.1->Rds s r (yP s n r out).1 (nums l))
 | 0,r,out,hr,h=>⟨[],by simp[yP],rfl,λ h0=>⟨hr,h0,by obtain⟨a,b⟩:=r; simp only at hr; subst hr; simp[yP,nums],by simp[yP,nums]⟩⟩
 | n+1,r,out,hr,h=>by
  simp only[yP] at h ⊢;rw[if_pos hr] at h ⊢;cases hr1:(zk s r).1.2 with
  | false=>
   exfalso;have:∀ m o,(yP s m (zk s r).1 o).1.2=false:=by
    intro m o;cases m with
    | zero=>exact hr1
    | succ m=>simp only[yP]; rw[if_neg (by rw[hr1]; decide)]; exact hr1
   rw[this] at h;cases h
  | true=>
   obtain⟨l,e1,e2,e3⟩:=Oi n (zk s r).1 (out++[(zk s r).2]) hr1 h;have hb:=YN hr1;have hk:=Jb hr1;refine⟨(zk s r).2::l,by rw[e1]; simp,by simp[e2],λ h0 => ?_⟩
   rw[NH];exact hb.app (e3 (by omega))
theorem E3 {s:List UInt8} {r:zX} {l:List Int} {post:List UInt8} (hr:r.2=true) (h0:0<=r.1) (hl:l.length<=2147483647) (hx:∀ x∈l,0<=x/\x<=2147483647) (hs:s.drop r.1.toNat=zn (l.length:Int)++(nums l++post)):
  jA s r=((r.1+(((zn (l.length:Int))++nums l).length:Int),true),l)/\s.drop (r.1+(((zn (l.length:Int))++nums l).length:Int)).toNat=post:=by
 obtain⟨e1,e2⟩:=Z8 hr h0 (n:=(l.length:Int)) (by omega) hs;unfold jA;rw[e1];simp only[aqN];obtain⟨k1,k2⟩:=Oj l (r.1+((zn (l.length:Int)).length:Int),true) [] post rfl (by simp only; omega) hx e2
 have e3:r.1+((zn (l.length:Int)).length:Int)+((nums l).length:Int)=r.1+(((zn (l.length:Int))++nums l).length:Int):=by rw[aqM]; omega
 simp only at k1 k2;rw[e3] at k1 k2;exact⟨by rw[k1]; simp,k2⟩
theorem EZ {s:List UInt8} {r:zX} (h:(jA s r).1.2=true):Rds s r (jA s r).1 (zn ((jA s r).2.length:Int)++nums (jA s r).2):=by
 unfold jA at h ⊢;cases hr1:(zk s r).1.2 with
 | false=>
  exfalso;have:∀ m o,(yP s m (zk s r).1 o).1.2=false:=by
   intro m o;cases m with
   | zero=>exact hr1
   | succ m=>simp only[yP]; rw[if_neg (by rw[hr1]; decide)]; exact hr1
  rw[this] at h;cases h
 | true=>
  obtain⟨l,e1,e2,e3⟩:=Oi _ _ _ hr1 h;have hb:=YN hr1;have hk:=Jb hr1;have hnb:=ua s r;rw[e1];simp only[ar6];rw[e2,show (((zk s r).2.toNat:Nat):Int)=(zk s r).2 by omega];exact hb.app (e3 (by omega))
noncomputable def Kh (q:zF):List UInt8:=zn q.1++(z8 q.2.1++(zn (q.2.2.length:Int)++nums q.2.2))
theorem dn {c:za} {q:zF} (h:zP c q=true):Kg c q=Kh q:=by
 unfold Kg Kh;rw[h];simp only[aqE,ar7]
theorem ub {s:List UInt8} {r:zX} {q:zF} {post:List UInt8} (hr:r.2=true) (h0:0<=r.1) (hv:0<=q.1/\q.1<=2147483647) (hn:q.2.1.length<=2147483647) (hl:q.2.2.length<=2147483647) (hx:∀ x∈q.2.2,0<=x/\x<=2147483647)
  (hs:s.drop r.1.toNat=Kh q++post):yL s r=((r.1+((Kh q).length:Int),true),q)/\s.drop (r.1+((Kh q).length:Int)).toNat=post:=by
 unfold Kh at hs ⊢;simp only[ar7] at hs;obtain⟨a1,a2⟩:=Z8 hr h0 hv hs;obtain⟨b1,b2⟩:=dr (r:=(r.1+((zn q.1).length:Int),true)) rfl (by simp only; omega) hn a2
 obtain⟨d1,d2⟩:=E3 (r:=(r.1+((zn q.1).length:Int)+((z8 q.2.1).length:Int),true)) rfl (by simp only; omega) hl hx b2
 unfold yL;rw[a1];simp only;rw[b1];simp only;rw[d1];simp only at d2;have e:r.1+((zn q.1).length:Int)+((z8 q.2.1).length:Int)+(((zn (q.2.2.length:Int))++nums q.2.2).length:Int)=r.1+((zn q.1++(z8 q.2.1++(zn (q.2.2.length:Int)++nums q.2.2))).length:Int):=by
  simp only[aqM]; omega
 rw[e] at d2;rw[e];exact⟨rfl,d2⟩
theorem EY {s:List UInt8} {r:zX} (h:(yL s r).1.2=true):Rds s r (yL s r).1 (Kh (yL s r).2):=by
 unfold yL at h ⊢;have h3:=l6 h;have h2:=Mz h3.1;exact (YN h2.1).app ((lZ h3.1).app (EZ h))
theorem kX:nums []=[]:=by unfold nums; simp
theorem bF {c:za} {s:List UInt8} {r:zX} {m:zo} (h:(Zs c s r m).2=true):r.2=true/\r.1=(s.length:Int)/\zR c m=true/\(Zs c s r m).1=m:=by
 unfold Zs at h ⊢;cases hc:(r.2 && (r.1==(s.length:Int) && zR c m))
 ·rw[hc] at h; cases h
 ·simp only[aqF,ar5] at hc;exact⟨hc.1,hc.2.1,hc.2.2,rfl⟩
theorem fS {c:za} {s:List UInt8} {r:zX} {m:zo} (h1:r.2=true) (h2:r.1=(s.length:Int)) (h3:zR c m=true):Zs c s r m=(m,true):=by
 unfold Zs;rw[h1,h2,h3];simp
theorem BH {c:za} {m:zo} (h:zR c m=true) (k:(m.1==1)=true):zP c m.2.2.1.2=true/\zG m.2.2.1.1=true:=by
 unfold zR at h;rw[k] at h;simp only[aqF,aqE] at h;have:=h.2.2;unfold jn at this;simp only[aqF] at this;exact⟨this.1,this.2.1⟩
theorem BI {c:za} {m:zo} (h:zR c m=true) (k1:(m.1==1)=false) (k2:(m.1==2)=false) (k:(m.1==3)=true):zP c m.2.2.2.2.1=true/\(1<=m.2.1/\m.2.1<=60)/\(0<=m.2.2.2.2.2.1/\m.2.2.2.2.2.1<=7):=by
 unfold zR at h;rw[k,k1,k2] at h;simp only[aqF,aqE,aqD,aqP] at h;obtain⟨h1,_,h3,h4,h5⟩:=h;have hc:=zS h1;rw[zg (n:=c.1 - 1) (by omega) (by omega)] at h5;exact⟨h4,h3,by omega⟩
theorem aaS {c:za} {m:zo} (h:zR c m=true) (k1:(m.1==1)=false) (k:(m.1==2)=true):y5 c m.2.2.2.1=true:=by
 unfold zR at h;rw[k,k1] at h;simp only[aqF,aqE,aqD] at h;exact h.2.2.1
theorem BJ {c:za} {m:zo} (h:zR c m=true) (k1:(m.1==1)=false) (k2:(m.1==2)=false) (k3:(m.1==3)=false):m.1=4/\zI m.2.2.2.2.2.2=true:=by
 unfold zR at h;rw[k1,k2,k3] at h;simp only[aqF,aqD] at h;have:=h.2.2;cases k4:(m.1==4)<;>rw[k4] at this
 ·cases this
 ·exact⟨by simpa using k4,this⟩
theorem aaR {c:za} {s:List UInt8} (h:(jr c s).2=true):jx c (jr c s).1=s:=by
 unfold jr at h ⊢;simp only at h ⊢;cases k1:((zk s (0,true)).2==1)<;>rw[k1] at h
 ·cases k2:((zk s (0,true)).2==2)<;>rw[k2] at h
  ·cases k3:((zk s (0,true)).2==3)<;>rw[k3] at h
   ·cases k4:((zk s (0,true)).2==4)<;>rw[k4] at h
    ·simp only[aqD] at h ⊢;obtain⟨g1,g2,g3,g4⟩:=bF h;obtain⟨q1,q2⟩:=BJ g3 k1 k2 k3;simp only at q1;rw[q1] at k4;cases k4
    ·simp only[aqD,aqE] at h ⊢;obtain⟨g1,g2,g3,g4⟩:=bF h;rw[g4];have n4:=Jb g1;have n3:=Jb n4.1;have n2:=Jb n3.1;have n1:=Jb n2.1;have hb:=(YN n1.1).app ((YN n2.1).app ((YN n3.1).app ((YN n4.1).app (YN g1))));have hs:=hb.all g2;unfold jx;rw[g3];simp only[aqE];rw[k1,k2,k3];simp only[aqD,NH,kX,arz];exact hs.symm
   ·simp only[aqD,aqE] at h ⊢;obtain⟨g1,g2,g3,g4⟩:=bF h;rw[g4];obtain⟨q1,q2,q3⟩:=BI g3 k1 k2 k3;have n4:=dq g1;have n3:=Jb n4.1;have n2:=Jb n3.1;have hb:=(YN n2.1).app ((YN n3.1).app ((YN n4.1).app (EY g1)));have hs:=hb.all g2;unfold jx;rw[g3];simp only[aqE];rw[k1,k2,k3];simp only[aqD,aqE,NH,kX,arz];rw[dn q1];simp only[ar7];exact hs.symm
  ·simp only[aqD,aqE] at h ⊢;obtain⟨g1,g2,g3,g4⟩:=bF h;rw[g4];have n4:=l6 g1;have n3:=Mz n4.1;have n2:=Jb n3.1;have hb:=(YN n2.1).app ((YN n3.1).app ((lZ n4.1).app (EZ g1)));have hs:=hb.all g2;unfold jx;rw[g3];simp only[aqE];rw[k1,k2];simp only[aqD,aqE,ar7];exact hs.symm
 ·simp only[aqE] at h ⊢;obtain⟨g1,g2,g3,g4⟩:=bF h;rw[g4];obtain⟨q1,q2⟩:=BH g3 k1;have n3:=dq g1;have n2:=Mz n3.1;have hb:=(YN n2.1).app ((lZ n3.1).app (EY g1));have hs:=hb.all g2;unfold jx;rw[g3];simp only[aqE];rw[k1];simp only[aqE];rw[dn q1,ar7];exact hs.symm
theorem wm {c:za} {q:zF} (h:zP c q=true):(0<=q.1/\q.1<=2147483647)/\q.2.1.length<=2147483647/\q.2.2.length<=2147483647/\∀ x∈q.2.2,0<=x/\x<=2147483647:=by
 have hw:=dp h;unfold zP at h;simp only[aqF,ar5] at h;obtain⟨h1,h2,h3,h4⟩:=h;have hc:=zS h1;have hv:=qs h2;simp only[zj,zu] at hw;refine⟨by omega,by omega,by omega,?_⟩;cases he:(q.2.1==([]:List UInt8))<;>rw[he] at h4
 ·simp only[aqD,aqF] at h4;intro x hx;have:=dI h4.1 x hx;omega
 ·simp only[aqE,ar5] at h4;intro x hx;have:q.2.2=[]:=List.length_eq_zero_iff.1 (by omega);rw[this] at hx;cases hx
theorem BE {c:za} {m:zo} (h:zR c m=true):jr c (jx c m)=(m,true):=by
 have ail:canon m=m:=by
  have h':=h;unfold zR at h';simp only[aqF] at h';exact BK h'.2.1
 generalize hs:jx c m=s;unfold jx at hs;rw[h] at hs;simp only[aqE] at hs;unfold jr;simp only;unfold canon at ail;cases k1:(m.1==1)<;>rw[k1] at hs ail
 ·cases k2:(m.1==2)<;>rw[k2] at hs ail
  ·cases k3:(m.1==3)<;>rw[k3] at hs ail
   ·obtain⟨q1,q2⟩:=BJ h k1 k2 k3;have q2:=(MX _).1 q2;rw[show (m.1==4)=true by rw[q1]; rfl] at ail
    simp only[aqD,aqE,NH,kX,arz] at hs ail;obtain⟨a1,a2⟩:=Z8 (s:=s) (r:=(0,true)) (n:=m.1) (post:=_) rfl (Int.le_refl _) (by omega) (by rw[←hs]; rfl)
    simp only[Int.zero_add] at a1 a2;obtain⟨b1,b2⟩:=Z8 (r:=(((zn m.1).length:Int),true)) rfl (by simp only; omega) (show 0<=m.2.2.2.2.2.2.1/\_ by omega) a2
    obtain⟨d1,d2⟩:=Z8 (r:=(((zn m.1).length:Int)+((zn m.2.2.2.2.2.2.1).length:Int),true)) rfl (by simp only; omega) (show 0<=m.2.2.2.2.2.2.2.1/\_ by omega) b2
    obtain⟨e1,e2⟩:=Z8 (r:=(((zn m.1).length:Int)+((zn m.2.2.2.2.2.2.1).length:Int)+((zn m.2.2.2.2.2.2.2.1).length:Int),true)) rfl (by simp only; omega) (show 0<=m.2.2.2.2.2.2.2.2.1/\_ by omega) d2
    obtain⟨f1,f2⟩:=Z8 (r:=(((zn m.1).length:Int)+((zn m.2.2.2.2.2.2.1).length:Int)+((zn m.2.2.2.2.2.2.2.1).length:Int)+((zn m.2.2.2.2.2.2.2.2.1).length:Int),true)) (post:=[]) rfl (by simp only; omega) (show 0<=m.2.2.2.2.2.2.2.2.2/\_ by omega) (by rw[arz]; exact e2)
    rw[a1];simp only;rw[b1];simp only;rw[d1];simp only;rw[e1];simp only;rw[f1];simp only;rw[k1,k2,k3,show (m.1==4)=true by rw[q1]; rfl]
    simp only[aqD,aqE];have hl:=congrArg List.length hs;simp only[aqM] at hl;rw[show (m.1,0,(([]:List UInt8),0,[],[]),(0,[],[]),(0,[],[]),0,m.2.2.2.2.2.2.1,m.2.2.2.2.2.2.2.1,m.2.2.2.2.2.2.2.2.1,m.2.2.2.2.2.2.2.2.2)=m from ail];exact fS rfl (by simp only; omega) h
   ·obtain⟨q1,q2,q3⟩:=BI h k1 k2 k3;obtain⟨v1,v2,v3,v4⟩:=wm q1;have q0:m.1=3:=by simpa using k3
    simp only[aqD,aqE,NH,kX,arz] at hs ail;rw[dn q1] at hs;simp only[ar7] at hs;obtain⟨a1,a2⟩:=Z8 (s:=s) (r:=(0,true)) (n:=m.1) (post:=_) rfl (Int.le_refl _) (by omega) (by rw[←hs]; rfl)
    simp only[Int.zero_add] at a1 a2;obtain⟨b1,b2⟩:=Z8 (r:=(((zn m.1).length:Int),true)) rfl (by simp only; omega) (show 0<=m.2.1/\_ by omega) a2
    obtain⟨d1,d2⟩:=Z8 (r:=(((zn m.1).length:Int)+((zn m.2.1).length:Int),true)) rfl (by simp only; omega) (show 0<=m.2.2.2.2.2.1/\_ by omega) b2
    obtain⟨e1,e2⟩:=ub (r:=(((zn m.1).length:Int)+((zn m.2.1).length:Int)+((zn m.2.2.2.2.2.1).length:Int),true)) (post:=[]) rfl (by simp only; omega) v1 v2 v3 v4 (by rw[arz]; exact d2)
    rw[a1];simp only;rw[b1];simp only;rw[d1];simp only;rw[e1];simp only;rw[k1,k2,k3];simp only[aqD,aqE];have hl:=congrArg List.length hs;simp only[aqM] at hl;rw[show (m.1,m.2.1,(([]:List UInt8),0,[],[]),(0,[],[]),m.2.2.2.2.1,m.2.2.2.2.2.1,0,0,0,0)=m from ail];exact fS rfl (by simp only; omega) h
  ·have q1:=aaS h k1 k2;have hw:=sg q1;unfold y5 at q1;simp only[aqF,aqP] at q1;obtain⟨p1,p2,p3,p4,p5⟩:=q1;have hc:=zS p1;have q0:m.1=2:=by simpa using k2
   simp only[zp,zu] at hw;simp only[aqD,aqE] at hs ail;simp only[ar7] at hs;obtain⟨a1,a2⟩:=Z8 (s:=s) (r:=(0,true)) (n:=m.1) (post:=_) rfl (Int.le_refl _) (by omega) (by rw[←hs]; rfl)
   simp only[Int.zero_add] at a1 a2;obtain⟨b1,b2⟩:=Z8 (r:=(((zn m.1).length:Int),true)) rfl (by simp only; omega) (show 0<=m.2.2.2.1.1/\_ by omega) a2
   obtain⟨d1,d2⟩:=dr (r:=(((zn m.1).length:Int)+((zn m.2.2.2.1.1).length:Int),true)) rfl (by simp only; omega) (show m.2.2.2.1.2.1.length<=_ by omega) b2
   obtain⟨e1,e2⟩:=E3 (r:=(((zn m.1).length:Int)+((zn m.2.2.2.1.1).length:Int)+((z8 m.2.2.2.1.2.1).length:Int),true)) (post:=[]) rfl (by simp only; omega) (show m.2.2.2.1.2.2.length<=_ by omega) (λ x hx=>by have:=dI p3 x hx; omega) (by rw[arz]; exact d2)
   rw[a1];simp only;rw[b1];simp only;rw[d1];simp only;rw[e1];simp only;rw[k1,k2];simp only[aqD,aqE];have hl:=congrArg List.length hs;simp only[aqM] at hl;rw[show (m.1,0,(([]:List UInt8),0,[],[]),(m.2.2.2.1.1,m.2.2.2.1.2.1,m.2.2.2.1.2.2),(0,[],[]),0,0,0,0,0)=m from ail];exact fS rfl (by simp only[aqM]; omega) h
 ·obtain⟨q1,q2⟩:=BH h k1;obtain⟨v1,v2,v3,v4⟩:=wm q1;have hn:=Lo q2;have q0:m.1=1:=by simpa using k1
  simp only[aqE] at hs ail;rw[dn q1] at hs;simp only[ar7] at hs;obtain⟨a1,a2⟩:=Z8 (s:=s) (r:=(0,true)) (n:=m.1) (post:=_) rfl (Int.le_refl _) (by omega) (by rw[←hs]; rfl)
  simp only[Int.zero_add] at a1 a2;obtain⟨b1,b2⟩:=dr (r:=(((zn m.1).length:Int),true)) rfl (by simp only; omega) (show m.2.2.1.1.length<=_ by omega) a2
  obtain⟨d1,d2⟩:=ub (r:=(((zn m.1).length:Int)+((z8 m.2.2.1.1).length:Int),true)) (post:=[]) rfl (by simp only; omega) v1 v2 v3 v4 (by rw[arz]; exact b2)
  rw[a1];simp only;rw[b1];simp only;rw[d1];simp only;rw[k1];simp only[aqE];have hl:=congrArg List.length hs;simp only[aqM] at hl;rw[show (m.1,0,(m.2.2.1.1,m.2.2.1.2),(0,[],[]),(0,[],[]),0,0,0,0,0)=m from ail];exact fS rfl (by simp only; omega) h
def Kp (c:za) (r r':zb):Prop:=zd c r'=true/\r'.1=r.1
theorem Kp.refl {c:za} {r:zb} (h:zd c r=true):Kp c r r:=⟨h,rfl⟩
theorem Kp.trans {c:za} {a b d:zb} (h1:Kp c a b) (h2:Kp c b d):Kp c a d:=⟨h2.1,h2.2.trans h1.2⟩
theorem rg {c:za} {r:zb} (h:zd c r=true) (to:Int) (m:zo):Kp c r (ju c r to m).1:=by
 have e:=eN to m h;cases hf:(ju c r to m).2 with
 | true=>
  rw[e] at hf ⊢;exact v6 hf
 | false=>
  unfold ju at hf ⊢;cases hc:(!decide ((r.2.2.2.2.2.2.2.length:Int)≥30) && ZC c r.1 (to,m))
  ·exact Kp.refl h
  ·rw[hc] at hf; cases hf
theorem cw {c:za} {r:zb} (h:zd c r=true) (s:zx):Kp c r (zt c r s).1/\(zt c r s).1.2.1=r.2.1:=by
 cases hf:(zt c r s).2 with
 | true=>obtain⟨a,b,d⟩:=eU h hf; exact⟨⟨a,b⟩,d⟩
 | false=>rw[agX hf]; exact⟨Kp.refl h,rfl⟩
theorem Qy {c:za} {r:zb} {v:Int} (h:zd c r=true) (hv:1<=v/\v<=60):Kp c r (zH r v):=⟨cq h hv,rfl⟩
theorem aa3 {c:za} {r:zb} (h:zd c r=true) (q:zF):Kp c r (top c r q).1:=by
 obtain⟨k1,k2⟩:=cw h (see c r.2.2.2.1 q);have hv:=KP h;unfold top;cases (zt c r (see c r.2.2.2.1 q)).2
 ·exact Kp.refl h
 ·simp only[aqI,aqD];by_cases h60:q.1+1>60
  ·simp only[h60,aqH,aqE]; exact k1
  ·have k3:Kp c r (zH (zt c r (see c r.2.2.2.1 q)).1 (max (zt c r (see c r.2.2.2.1 q)).1.2.1 (q.1+1))):=k1.trans (Qy k1.1 (by rw[k2]; omega))
   simp only[h60,aqL,aqD];cases (yg c (q.1+1)==r.1)
   ·exact k3.trans (rg k3.1 _ _)
   ·exact k3
theorem aa1 {c:za} {r:zb} (h:zd c r=true) (v:Int) (name:List UInt8) (force:Bool):Kp c r (Yj c r v name force).1:=by
 unfold Yj;cases (((yJ r.2.2.2.2.2.1 v name).2.2.length:Int)==0)
 ·cases (name==([]:List UInt8))
  ·simp only[aqD];cases (yg c v==r.1)
   ·simp only[aqD];cases (!force && decide ((Jt (under c v r.1) (yJ r.2.2.2.2.2.1 v name).2.2:Int)<((under c v r.1).length:Int)))
    ·exact rg h _ _
    ·exact Kp.refl h
   ·simp only[aqE];cases (Z4 c (yJ r.2.2.2.2.2.1 v name)).2
    ·exact Kp.refl h
    ·exact aa3 h _
  ·exact Kp.refl h
 ·exact Kp.refl h
theorem kz {c:za} {r:zb} (h:zd c r=true) (v:Int) (name:List UInt8) (force:Bool):Kp c r (climb c r v name force).1:=by
 unfold climb;cases (zd c r && (Yj c r v name force).2)
 ·exact Kp.refl h
 ·exact aa1 h v name force
theorem ND {c:za} {r:zb} {t:z6} (h:zd c r=true) (ht:jR c t=true):Kp c r (yv r t):=⟨oA h ht,rfl⟩
theorem aa4 {c:za} {r0 w:zb} (h0:zd c r0=true) (h:zd c w=true) (e:w.1=r0.1) (name:List UInt8):Kp c r0 (voted c r0 w name).1:=by
 unfold voted;cases ht:(zD c w.2.2.2.2.2.1 (zl name,name,[w.1])).2
 ·exact Kp.refl h0
 ·have k:=ND (t:=(zD c w.2.2.2.2.2.1 (zl name,name,[w.1])).1) h (ql ht);have k2:=k.trans (kz k.1 (zl name) name false);exact⟨k2.1,k2.2.trans e⟩
theorem kC {c:za} {r:zb} (h:zd c r=true) (b:y9):Kp c r (YG c r b).1:=by
 unfold YG;rw[h];simp only[aqI,aqD];cases hbo:jn c b
 ·exact Kp.refl h
 ·simp only[aqI,aqD];have hn:zG b.1=true/\b.1≠[]:=by
   unfold jn at hbo;simp only[aqF,bne_iff_ne,ne_eq] at hbo;exact⟨hbo.2.1,hbo.2.2.1⟩
  have hnv:=NG hn.1 hn.2;cases decide (zl b.1≥r.2.1)
  ·simp only[aqD];obtain⟨k1,_⟩:=cw h (see c r.2.2.2.1 b.2);cases (zt c r (see c r.2.2.2.1 b.2)).2
   ·exact Kp.refl h
   ·exact k1
  ·simp only[aqE];have ki:=Qy (v:=zl b.1) h hnv;obtain⟨k1,_⟩:=cw ki.1 (vote c (see c r.2.2.2.1 b.2) b);have k1:=ki.trans k1;cases (zt c (zH r (zl b.1)) (vote c (see c r.2.2.2.1 b.2) b)).2
   ·exact Kp.refl h
   ·simp only[aqI,aqD];cases Z1 c (see c r.2.2.2.1 b.2) b
    ·exact k1
    ·exact aa4 h k1.1 k1.2 b.1
theorem A7 {c:za} {r:zb} (h:zd c r=true) (p:zJ):Kp c r (Y3 c r p).1:=by
 unfold Y3;rw[h];simp only[aqI,aqD];cases y5 c p
 ·exact Kp.refl h
 cases (p.2.1==([]:List UInt8))
 ·cases decide (p.1<r.2.1)
  ·simp only[aqI,aqD];cases ht:(zD c r.2.2.2.2.2.1 p).2
   ·exact Kp.refl h
   ·have k:=ND (t:=(zD c r.2.2.2.2.2.1 p).1) h (ql ht);exact k.trans (kz k.1 p.1 p.2.1 false)
  ·exact Kp.refl h
 ·exact Kp.refl h
theorem Ba {c:za} {r:zb} (h:zd c r=true):Kp c r (late c r).1:=by
 have hv:=KP h;unfold late;rw[h];simp only[aqI,aqD];by_cases h60:r.2.1≥60
 ·simp only[h60,aqH,aqE]; exact Kp.refl h
 ·have ki:=Qy (v:=r.2.1+1) h (by omega);simp only[h60,aqL,aqD];cases (yg c (r.2.1+1)==r.1)
  ·simp only[aqD];have k:=ki.trans (rg ki.1 (yg c (r.2.1+1)) (3,r.2.1+1,([],0,[],[]),(0,[],[]),r.2.2.2.1.2.2.1,r.1,0,0,0,0));cases (ju c (zH r (r.2.1+1)) (yg c (r.2.1+1)) (3,r.2.1+1,([],0,[],[]),(0,[],[]),r.2.2.2.1.2.2.1,r.1,0,0,0,0)).2
   ·exact Kp.refl h
   ·exact k
  ·simp only[aqE];cases ht:(zD c r.2.2.2.2.2.1 (r.2.1+1,[],[r.1])).2
   ·exact Kp.refl h
   ·exact ki.trans (ND ki.1 (ql ht))
theorem rf {c:za} {r:zb} (hr:zd c r=true) (m:zo):∀ (n i:Nat) (out:zb),Kp c r out->Kp c r (Jk c r m n i out).1
 | 0,_,out,h=>h
 | n+1,i,out,h=>by
  simp only[Jk];cases ((i:Int)==r.1)
  ·simp only[aqD];cases ht:(tell c out i m).2
   ·exact Kp.refl hr
   ·exact rf hr m n (i+1) _ (h.trans (v6 ht))
  ·exact rf hr m n (i+1) out h
theorem Bd {c:za} {r:zb} (h:zd c r=true) (m:zo):Kp c r (YY c r m).1:=by
 unfold YY;rw[h];exact rf h m _ 0 r (Kp.refl h)
theorem abk {p:zy} {x:zK} (hp:jz p=true):jz (Ys p x).1=true:=by
 unfold Ys Y9;generalize yn (λ y => !yj y x) 0 p=k;cases h:jz (p.take k++x::p.drop k)
 ·exact hp
 ·exact h
theorem E7 {c:za} {a v k:Int} {sf:zx} {p p':zy} {rest:z6×yZ×jw} (h:zd c (a,v,k,sf,p,rest)=true) (hp:jz p'=true):zd c (a,v,k,sf,p',rest)=true:=by
 unfold zd at h ⊢;simp only[aqF] at h ⊢;obtain⟨a1,a2,a3,a4,a5,a6,a7⟩:=h;exact⟨a1,a2,a3,a4,a5,hp,a7⟩
theorem A9 {c:za} {r:zb} (h:zd c r=true) (x:zK):Kp c r (Y4 c r x).1:=by
 obtain⟨a,v,k,sf,p,rest⟩:=r;have hp:=(Jd h).2.2.2.2.2.1;unfold Y4;rw[h];exact⟨E7 h (abk hp),rfl⟩
theorem GE {c:za} (h:zB c=true):zT c jY=true:=by
 unfold zT jY zP;simp[h,BO,Oc]
theorem aej {c:za} {s:List UInt8} (h:(jm c s).2=true):zT c (jm c s).1=true:=by
 unfold jm at h ⊢;cases hc:((yM s).1.2 && ((yM s).1.1==(s.length:Int) && zT c (yM s).2))
 ·rw[hc] at h; cases h
 ·simp only[aqF] at hc;exact hc.2.2
theorem Bm (c:za) (s:List UInt8):∀ (n at_:Nat) (old:zx),zT c old=true->zT c (jq c s n at_ old).1=true
 | 0,_,_,h=>h
 | n+1,at_,old,h=>by
  simp only[jq];cases hc:((zw s at_).2.2 && (decide ((zw s at_).2.1<(s.length:Int)) && (s.getD (zw s at_).2.1.toNat 0==10 && (jm c (zw s at_).1).2)))
  ·exact h
  ·simp only[aqF] at hc;exact Bm c s n _ _ (aej hc.2.2.2)
theorem aau {c:za} (h:zB c=true) (s:List UInt8):zT c (jk c s).1=true:=Bm c s _ 0 jY (GE h)
theorem ael {c:za} {s:zx} (h:zT c s=true):(0<=s.1/\s.1<=60)/\(0<=s.2.2.1.1/\s.2.2.1.1<=60):=by
 unfold zT at h;simp only[aqF,aqP] at h;refine⟨h.1,?_⟩;have hq:=h.2.2.1;unfold zP at hq;simp only[aqF,ar5] at hq;have:=qs hq.2.1;omega
theorem kD {c:za} {r:zb} (h:zd c r=true):Kp c r (rise c r):=by
 obtain⟨h1,h2,h3,h4,h5,h6,h7,h8,h9,h10⟩:=Jd h;unfold rise;rw[h];simp only[aqE];refine⟨?_,rfl⟩;have hs:=aau h1 r.2.2.2.2.2.2.1.1;obtain⟨b1,b2,b3⟩:=rC c r.2.2.2.2.2.2.1.1;obtain⟨s1,s2⟩:=ael hs;unfold yK at h8;simp only[aqF,aqP] at h8;unfold zd;simp only[aqF,aqP];have hv:1<=QU (jk c r.2.2.2.2.2.2.1.1).1/\QU (jk c r.2.2.2.2.2.2.1.1).1<=60:=by
  unfold QU;rw[zg (by omega) (by omega)];omega
 refine⟨h1,h2,hv,by omega,hs,rfl,rfl,?_,by simp,by simp⟩;unfold yK;simp only[aqF,aqP,aqV];omega
theorem Bb {c:za} {r:zb} (h:zd c r=true):Kp c r (yo c r).1:=by
 obtain⟨h1,h2,h3,h4,h5,h6,h7,h8,h9,h10⟩:=Jd h;unfold yo;rw[h];simp only[aqE];refine⟨?_,rfl⟩;unfold zd;simp only[aqF,aqP];refine⟨h1,h2,h3,h4,h5,h6,h7,?_,by simp,by simp⟩;unfold Kq;rw[if_pos h8];unfold yK at h8 ⊢;simp only[aqF,aqP] at h8 ⊢;omega
noncomputable def eP (q:zF) (w:zb) (v:Int):zb:=zH w (max v (min (q.1+1) 60))
noncomputable def qZ (c:za) (r:zb) (v:Int) (q:zF) (who:Int):zb×Bool:=
 bif !zd c r then (r,false) else bif !(decide (v≥1) && decide (v<=60)) then (r,false) else bif !zP c q then (r,false) else bif !(decide (who≥0) && decide (who<=wr (c.1 - 1))) then (r,false) else
 bif (zt c r (see c r.2.2.2.1 q)).2 then
  (bif yg c v==r.1 then
   (bif decide (v≥r.2.1) then
    (bif !(zD c (zt c r (see c r.2.2.2.1 q)).1.2.2.2.2.2.1 (v,[],[who])).2 then (r,false) else
     bif decide (((yJ (zD c (zt c r (see c r.2.2.2.1 q)).1.2.2.2.2.2.1 (v,[],[who])).1 v []).2.2.length:Int)≥Ja c) then
      (eP q (yv (zt c r (see c r.2.2.2.1 q)).1 (zD c (zt c r (see c r.2.2.2.1 q)).1.2.2.2.2.2.1 (v,[],[who])).1) (max (zt c r (see c r.2.2.2.1 q)).1.2.1 v),true)
     else (eP q (yv (zt c r (see c r.2.2.2.1 q)).1 (zD c (zt c r (see c r.2.2.2.1 q)).1.2.2.2.2.2.1 (v,[],[who])).1) (zt c r (see c r.2.2.2.1 q)).1.2.1,true))
    else (eP q (zt c r (see c r.2.2.2.1 q)).1 (zt c r (see c r.2.2.2.1 q)).1.2.1,true))
   else (eP q (zt c r (see c r.2.2.2.1 q)).1 (zt c r (see c r.2.2.2.1 q)).1.2.1,true))
 else (r,false)
theorem agn (a b:Int):yt (a,b,())=some (min a b,()):=by
 rw[ri];congr 2;split<;>omega
theorem afG (c:za) (r:zb) (v:Int) (q:zF) (who:Int) (hr:zf r<=2000000) (hq:zj q<=2000000):ni (c,r,v,q,who,())=some ((qZ c r v q who).1,(qZ c r v q who).2,()):=by
 have hs:zz r.2.2.2.1<=2000000:=by simp only[zf] at hr; omega
 have akP:=N1 c r.2.2.2.1 q;have hww:=lc c r (see c r.2.2.2.1 q);have hwt:zL (zt c r (see c r.2.2.2.1 q)).1.2.2.2.2.2.1<=100000000:=by simp only[zf] at *; omega
 have hp:=bl v who [];simp only[aqJ] at hp;have hta:=eI c (zt c r (see c r.2.2.2.1 q)).1.2.2.2.2.2.1 (v,[],[who]);unfold ni qZ;dsimp only;rw[Yd r (by omega),Option.bind_some,YW c r (by omega),Option.bind_some,Ji,Option.bind_some,MQ c q (by omega),Option.bind_some,Ji,Option.bind_some,Option.bind_some,vF c r.2.2.2.1 q (by omega) (by omega),Option.bind_some,ew c r (see c r.2.2.2.1 q) (by omega) (by omega),Option.bind_some,N9,Option.bind_some,
  nH c (zt c r (see c r.2.2.2.1 q)).1.2.2.2.2.2.1 (v,[],[who]) hwt (by omega),Option.bind_some,vJ (zD c (zt c r (see c r.2.2.2.1 q)).1.2.2.2.2.2.1 (v,[],[who])).1 v [] (by omega),Option.bind_some,vD,Option.bind_some]
 cases hok:zd c r
 ·rfl
 cases (decide (v≥1) && decide (v<=60))
 ·rfl
 cases hqo:zP c q
 ·rfl
 cases (decide (who≥0) && decide (who<=wr (c.1 - 1)))
 ·rfl
 have hqv:0<=q.1/\q.1<=60:=by
  unfold zP at hqo;simp only[aqF,ar5] at hqo;have:=qs hqo.2.1;omega
 have e1:wr (q.1+1)=q.1+1:=zg (by omega) (by omega);simp only[aqI,aqD,e1,agn,bd,aqC];cases (zt c r (see c r.2.2.2.1 q)).2
 ·rfl
 cases (yg c v==r.1)
 ·rfl
 cases decide (v≥r.2.1)
 ·rfl
 cases (zD c (zt c r (see c r.2.2.2.1 q)).1.2.2.2.2.2.1 (v,[],[who])).2
 ·rfl
 cases decide (((yJ (zD c (zt c r (see c r.2.2.2.1 q)).1.2.2.2.2.2.1 (v,[],[who])).1 v []).2.2.length:Int)≥Ja c)<;>rfl
theorem rh {c:za} {w:zb} {q:zF} {v:Int} (h:zd c w=true) (hq:0<=q.1) (hv:1<=v/\v<=60):Kp c w (eP q w v):=Qy h (by omega)
theorem aa2 {c:za} {r:zb} (h:zd c r=true) (v:Int) (q:zF) (who:Int):Kp c r (qZ c r v q who).1:=by
 have hv:=KP h;obtain⟨k1,k2⟩:=cw h (see c r.2.2.2.1 q);unfold qZ;rw[h];simp only[aqI,aqD];cases hvv:(decide (v≥1) && decide (v<=60))
 ·exact Kp.refl h
 simp only[aqF,aqP] at hvv;cases hqo:zP c q
 ·exact Kp.refl h
 have hqv:0<=q.1/\q.1<=60:=by
  unfold zP at hqo;simp only[aqF,ar5] at hqo;have:=qs hqo.2.1;omega
 cases (decide (who≥0) && decide (who<=wr (c.1 - 1)))
 ·exact Kp.refl h
 simp only[aqI,aqD];cases (zt c r (see c r.2.2.2.1 q)).2
 ·exact Kp.refl h
 simp only[aqE];have kw:=k1.trans (rh (q:=q) (v:=(zt c r (see c r.2.2.2.1 q)).1.2.1) k1.1 hqv.1 (by rw[k2]; exact hv))
 cases (yg c v==r.1)
 ·exact kw
 cases decide (v≥r.2.1)
 ·exact kw
 simp only[aqE];cases ht:(zD c (zt c r (see c r.2.2.2.1 q)).1.2.2.2.2.2.1 (v,[],[who])).2
 ·exact Kp.refl h
 have kt:=k1.trans (ND k1.1 (ql ht));simp only[aqI,aqD];cases decide (((yJ (zD c (zt c r (see c r.2.2.2.1 q)).1.2.2.2.2.2.1 (v,[],[who])).1 v []).2.2.length:Int)≥Ja c)
 ·exact kt.trans (rh kt.1 hqv.1 (by rw[k2]; exact hv))
 ·exact kt.trans (rh kt.1 hqv.1 (by rw[k2]; omega))
def Zn (l:z6) (v:Int):z6:=l.filter λ p=>decide (p.1≥v)
noncomputable def Lw (p:zy) (l:zZ):zy:=p.filter λ x=>(pay l x).2 != 2
theorem fQ {α:Type} (q:α->Bool) {l:List α} {i:Nat} (hi:i<l.length):(l.drop i).filter q=(if q l[i]=true then [l[i]] else [])++(l.drop (i+1)).filter q:=by
 rw[aqX hi,arZ];split<;>rfl
theorem ag6 (l:z6) (v:Int) (hl:zL l<=137438953472):nI (l,v,())=some (Zn l v,()):=by
 have hll:=bm l;unfold nI Zn;dsimp only;refine (walk l.length (λ i (s:z6)=>(s,i,())) (λ i s=>s.length<=i) (λ i s=>some (s++(l.drop i).filter (λ p=>decide (p.1≥v)),())) (by omega) ?_ ?_ (s0:=[]) (Nat.le_refl _)).trans (by simp)
 ·intro rec s hs;simp
 ·intro rec i s hi hs;have hx:l[i]?=some l[i]:=List.getElem?_eq_getElem hi;have hw:zp l[i]<=137438953472:=KZ hl hx;right;simp only[zv hi,decide_true,cond_true,and_self,if_true,Int.toNat_natCast,zm (e:=YA) hx,qe l[i] hw,Option.bind_some,zq (show i<4611686018427387904 by omega),fQ (λ p:zJ=>decide (p.1≥v)) hi];by_cases hq:l[i].1≥v
  ·simp only[hq,aqH,aqE,if_true];rw[if_pos (by simp only[aqG,aqJ]; omega)]
   exact⟨s++[l[i]],by simp only[aqM,aqG,aqJ]; omega,rfl,by simp⟩
  ·simp only[hq,aqL,aqD,ar3,if_false];exact⟨s,by omega,rfl,by simp⟩
theorem afR (p:zy) (l:zZ) (hp:p.length<=137438953472) (h1:l.1.length<=137438953472) (h2:l.2.length<=137438953472):dX (p,l,())=some (Lw p l,()):=by
 unfold dX Lw;dsimp only;refine (walk p.length (λ i (s:zy)=>(s,i,())) (λ i s=>s.length<=i) (λ i s=>some (s++(p.drop i).filter (λ x=>(pay l x).2 != 2),())) (by omega) ?_ ?_ (s0:=[]) (Nat.le_refl _)).trans (by simp)
 ·intro rec s hs;simp
 ·intro rec i s hi hs;have hx:p[i]?=some p[i]:=List.getElem?_eq_getElem hi;right;simp only[zv hi,decide_true,cond_true,and_self,if_true,Int.toNat_natCast,zm (e:=jZ) hx,vA l p[i] h1 h2,Option.bind_some,zq (show i<4611686018427387904 by omega),fQ (λ x:zK=>(pay l x).2 != 2) hi];cases hq:((pay l p[i]).2 != 2)
  ·simp only[aqD,ar3,if_false];exact⟨s,by omega,rfl,by simp⟩
  ·simp only[aqE,if_true];rw[if_pos (by simp only[aqG,aqJ]; omega)]
   exact⟨s++[p[i]],by simp only[aqM,aqG,aqJ]; omega,rfl,by simp⟩
theorem U7 {α:Type} {ok:α->Bool} {lt:α->α->Bool} (ht:∀ a b d,lt a b=true->lt b d=true->lt a d=true):∀ {l:List α} {x y:α},yH ok lt (some y) l=true->lt x y=true->yH ok lt (some x) l=true
 | [],_,_,_,_=>rfl
 | z::l,x,y,h,hxy=>by
  simp only[yH,aqF] at h ⊢;exact⟨h.1,ht _ _ _ hxy h.2.1,h.2.2⟩
theorem w8 {α:Type} {ok:α->Bool} {lt:α->α->Bool}:∀ {l:List α} {p:Option α},yH ok lt p l=true->yH ok lt none l=true
 | [],_,_=>rfl
 | z::l,p,h=>by
  simp only[yH,aqF] at h ⊢;exact⟨h.1,trivial,h.2.2⟩
theorem w6 {α:Type} {ok:α->Bool} {lt:α->α->Bool} (ht:∀ a b d,lt a b=true->lt b d=true->lt a d=true) (q:α->Bool):∀ {l:List α} {p:Option α},yH ok lt p l=true->yH ok lt p (l.filter q)=true
 | [],_,_=>rfl
 | z::l,p,h=>by
  simp only[yH,aqF] at h;have ih:=w6 ht q h.2.2;rw[arZ];split
  ·simp only[yH,aqF];exact⟨h.1,h.2.1,ih⟩
  ·cases p with
   | none=>exact w8 ih
   | some y=>exact U7 ht ih h.2.1
theorem w9 {α:Type} {ok:α->Bool} {lt:α->α->Bool} (key:α->Int) (hk:∀ a b,lt a b=true->key a<=key b) (v:Int):∀ {l:List α} {p:Option α},yH ok lt p l=true->(∃ y,p=some y/\key y≥v)->l.filter (λ x=>decide (key x≥v))=l
 | [],_,_,_=>rfl
 | z::l,p,h,hp=>by
  obtain⟨y,rfl,hy⟩:=hp;simp only[yH,aqF] at h;have:=hk _ _ h.2.1;have hz:key z≥v:=by omega
  rw[arZ,if_pos (by simpa using hz),w9 key hk v h.2.2 ⟨z,rfl,hz⟩]
theorem wZ {α:Type} {ok:α->Bool} {lt:α->α->Bool} (key:α->Int) (hk:∀ a b,lt a b=true->key a<=key b) (v:Int):∀ {l:List α} {p:Option α},yH ok lt p l=true->yH ok lt none (l.filter (λ x=>decide (key x≥v)))=true
 | [],_,_=>rfl
 | z::l,p,h=>by
  have h':=h;simp only[yH,aqF] at h;rw[arZ];split
  ·next hz=>
   have hz:key z≥v:=by simpa using hz
   rw[w9 key hk v h.2.2 ⟨z,rfl,hz⟩];exact w8 h'
  ·exact wZ key hk v h.2.2
theorem UP (a b:zJ) (h:j3 a b=true):a.1<=b.1:=by
 unfold j3 at h;simp only[arj,aqF,aqP,ar5] at h;omega
theorem vY {c:za} {l:z6} (h:jR c l=true) (v:Int):jR c (Zn l v)=true:=by
 unfold jR Zn at *;simp only[aqF,aqP] at h ⊢;have hl:=List.length_filter_le (λ p:zJ=>decide (p.1≥v)) l;exact⟨wZ (λ p:zJ=>p.1) UP v h.1,by omega⟩
theorem US (a b d:zK) (h1:yj a b=true) (h2:yj b d=true):yj a d=true:=by
 unfold yj at *;simp only[arj,aqF,aqP,ar5] at *;omega
theorem abm {p:zy} (h:jz p=true) (l:zZ):jz (Lw p l)=true:=by
 unfold jz Lw at *;simp only[aqF,aqP] at h ⊢;have hl:=List.length_filter_le (λ x=>(pay l x).2 != 2) p;exact⟨w6 US _ h.1,by omega⟩
noncomputable def jc (c:za) (r:zb) (m:zo):zb×Bool:=
 bif m.1==1 then YG c r m.2.2.1 else bif m.1==2 then Y3 c r m.2.2.2.1 else bif m.1==3 then qZ c r m.2.1 m.2.2.2.2.1 m.2.2.2.2.2.1 else Y4 c r m.2.2.2.2.2.2
noncomputable def swept (c:za) (r:zb):zb:=
 (r.1,r.2.1,r.2.2.1,r.2.2.2.1,Lw r.2.2.2.2.1 (state c (yv r (Zn r.2.2.2.2.2.1 (r.2.1 - 1)))),Zn r.2.2.2.2.2.1 (r.2.1 - 1),r.2.2.2.2.2.2)
noncomputable def Ni (c:za) (r:zb) (m:zo):zb×Bool:=
 bif !zd c r then (r,false) else bif !zR c m then (r,false) else bif !(jc c r m).2 then (r,false) else (swept c (jc c r m).1,true)
theorem A6 {c:za} {r:zb} (h:zd c r=true) (m:zo):Kp c r (jc c r m).1:=by
 unfold jc;cases (m.1==1)
 ·cases (m.1==2)
  ·cases (m.1==3)
   ·exact A9 h _
   ·exact aa2 h _ _ _
  ·exact A7 h _
 ·exact kC h _
theorem Bc {c:za} {r:zb} (h:zd c r=true):Kp c r (swept c r):=by
 obtain⟨h1,h2,h3,h4,h5,h6,h7,h8,h9,h10⟩:=Jd h;have k:=oA h (vY h7 (r.2.1 - 1));unfold swept;generalize state c (yv r (Zn r.2.2.2.2.2.1 (r.2.1 - 1)))=l;exact⟨E7 (p:=r.2.2.2.2.1) k (abm h6 l),rfl⟩
theorem A8 {c:za} {r:zb} (h:zd c r=true) (m:zo):Kp c r (Ni c r m).1:=by
 have k:=A6 h m;unfold Ni;rw[h];simp only[aqI,aqD];cases zR c m
 ·exact Kp.refl h
 ·simp only[aqI,aqD];cases (jc c r m).2
  ·exact Kp.refl h
  ·exact k.trans (Bc k.1)
theorem agj {c:za} {r:zb} {m:zo} (hr:zd c r=true) (hm:zR c m=true):nT (c,r,m,())=some ((jc c r m).1,(jc c r m).2,()):=by
 have hw:=Ze hr;have hmw:=QC hm;have w1:zA m.2.2.1<=3847:=by simp only[zh] at hmw; omega
 have w2:zp m.2.2.2.1<=3847:=by simp only[zh] at hmw; omega
 have w3:zj m.2.2.2.2.1<=3847:=by simp only[zh] at hmw; omega
 unfold nT jc;dsimp only;rw[In c r m.2.2.1 (by omega),afE c r m.2.2.2.1 (by omega) (by omega),afG c r m.2.1 m.2.2.2.2.1 m.2.2.2.2.2.1 (by omega) (by omega),afF c r m.2.2.2.2.2.2 (by omega)];cases (m.1==1)<;>cases (m.1==2)<;>cases (m.1==3)<;>rfl
theorem Io (c:za) (r:zb) (m:zo) (hr:zf r<=137438953472) (hm:zh m<=137438953472):LJ (c,r,m,())=some ((Ni c r m).1,(Ni c r m).2,()):=by
 unfold LJ Ni;dsimp only;rw[YW c r hr,aqC,Yd r hr,aB c m hm,aqC,aqC];cases hok:zd c r
 ·rfl
 cases hmo:zR c m
 ·rfl
 simp only[aqI,aqD];rw[agj hok hmo,aqC];dsimp only;cases (jc c r m).2
 ·rfl
 have k:=(A6 hok m).1;obtain⟨h1,h2,h3,h4,h5,h6,h7,h8,h9,h10⟩:=Jd k;have hw:=Ze k;have hkt:=ND k (vY h7 ((jc c r m).1.2.1 - 1));have hw2:=Ze hkt.1;have hsw:=IO c (yv (jc c r m).1 (Zn (jc c r m).1.2.2.2.2.2.1 ((jc c r m).1.2.1 - 1)));have ht:=eJ h7;simp only[eQ,zu] at hsw;have hpl:(jc c r m).1.2.2.2.2.1.length<=260000:=by simp only[zf,Kt] at hw; omega
 simp only[aqI,aqD];rw[zg (n:=(jc c r m).1.2.1 - 1) (by omega) (by omega),ag6 _ _ (by omega),aqC];dsimp only;have es:d7 (c,yv (jc c r m).1 (Zn (jc c r m).1.2.2.2.2.2.1 ((jc c r m).1.2.1 - 1)),())=some (state c (yv (jc c r m).1 (Zn (jc c r m).1.2.2.2.2.2.1 ((jc c r m).1.2.1 - 1))),()):=ag3 c _ (by omega);have ep:dX ((jc c r m).1.2.2.2.2.1,state c (yv (jc c r m).1 (Zn (jc c r m).1.2.2.2.2.2.1 ((jc c r m).1.2.1 - 1))),())=some (Lw (jc c r m).1.2.2.2.2.1 (state c (yv (jc c r m).1 (Zn (jc c r m).1.2.2.2.2.2.1 ((jc c r m).1.2.1 - 1)))),()):=afR _ _ (by omega) (by omega) (by omega);unfold yv at es ep;rw[es,aqC,ep,aqC];rfl
theorem rU {c:za} {i:Int} (h:zB c=true) (h0:0<=i) (h1:i<c.1):zd c (Yp i)=true:=by
 unfold zd Yp;simp only[h,GE h,jz,jR,yH,yK,aqJ,asq,asn,aqU,aqF,aqP];omega
theorem bK {α:Type} (p:Nat->α->Bool):∀ (l:List α) (k:Nat),jL p k l=true↔∀ i (h:i<l.length),p (k+i) l[i]=true
 | [],k=>by simp[jL]
 | x::l,k=>by
  unfold jL;simp only[aqF,bK p l (k+1)];constructor
  ·rintro⟨a,b⟩ i h;cases i with
   | zero=>exact a
   | succ i=>have:=b i (by simpa using h); simp only[List.getElem_cons_succ]; rw[show k+(i+1)=k+1+i by omega]; exact this
  ·intro hh;refine⟨hh 0 (by simp),λ i h => ?_⟩;have:=hh (i+1) (by simpa using h);simp only[List.getElem_cons_succ] at this;rw[show k+1+i=k+(i+1) by omega]; exact this
theorem aby {c:za} {i:Int} (h:zB c=true) (h0:0<=i) (h1:i<c.1):YO c i=(Yp i,true):=by
 unfold YO;rw[rU h h0 h1]; rfl
structure WI (w:zr):Prop where
 conf:zB w.1=true
 liars:w.2.1.length<=7/\∀ x∈w.2.1,0<=x/\x<w.1.1
 len:(w.2.2.1.length:Int)=w.1.1
 reps:∀ i (h:i<w.2.2.1.length),zd w.1 w.2.2.1[i]=true/\(w.2.2.1[i]).1=(i:Int)
 net:w.2.2.2.1.length<=60/\∀ x∈w.2.2.2.1,(0<=x.1/\x.1<w.1.1)/\x.2.length<=1000000
 said:w.2.2.2.2.length<=300/\∀ s∈w.2.2.2.2,(zG s.2.1=true/\zl s.2.1=s.1)/\(0<=s.2.2/\s.2.2<w.1.1)
theorem QD {c:za} (h:zB c=true):KI c=(List.range c.1.toNat).map (λ (i:Nat)=>Yp (i:Int)):=by
 have hb:=zS h;unfold KI;rw[if_pos h];refine List.map_congr_left λ i hi => ?_;have:=List.mem_range.1 hi;rw[aby h (by omega) (by omega)]
theorem ab1 {c:za} {liars:ym} (h:zB c=true) (hl:liars.length<=7) (hm:∀ x∈liars,0<=x/\x<c.1):WI (yI c liars):=by
 have hb:=zS h;refine⟨h,⟨hl,hm⟩,?_,?_,⟨by simp[yI],by simp[yI]⟩,⟨by simp[yI],by simp[yI]⟩⟩
 ·simp only[yI,QD h,arg,arS]; omega
 ·intro i hi;simp only[yI,QD h,arg,arS] at hi;simp only[yI,QD h,List.getElem_map,at3];exact⟨rU h (by omega) (by omega),rfl⟩
theorem WI.setRep {c:za} {l:ym} {reps:Zf} {rest:yQ×ya} (h:WI (c,l,reps,rest)) {i:Nat} (hi:i<reps.length) {r:zb} (k:Kp c reps[i] r):WI (c,l,reps.set i r,rest):=by
 obtain⟨h1,h2,h3,h4,h5,h6⟩:=h;refine⟨h1,h2,?_,?_,h5,h6⟩
 ·dsimp only at h3 ⊢;rw[asg]; exact h3
 ·intro j hj;dsimp only at hj h4 ⊢;rw[asg] at hj;rw[List.getElem_set];by_cases e:i=j
  ·subst e;rw[if_pos rfl];exact⟨k.1,k.2.trans (h4 i hi).2⟩
  ·rw[if_neg e];exact h4 j hj
def Step (w:zr) (o o':Option (zr×Int×Unit)):Prop:=
 (∃ w',o=some (w',0,())/\WI w'/\has o'=false)∨(∃ n:Int,n≠0/\o=some (w,n,())/\o'=some (w,n,()))
theorem Step.same {w:zr} {n:Int} (hn:n≠0):Step w (some (w,n,())) (some (w,n,())):=.inr ⟨n,hn,rfl,rfl⟩
theorem Step.next {w w':zr} {o':Option (zr×Int×Unit)} (h:WI w') (ho:has o'=false):Step w (some (w',0,())) o':=.inl ⟨w',rfl,h,ho⟩
theorem Step.wrap {w:zr} {o o':Option (zr×Int×Unit)} (h:Step w o o'):Step w (o.bind λ r=>some (r.1,r.2.1,())) (o'.bind λ r=>some (r.1,r.2.1,())):=by
 rcases h with⟨w',rfl,h,k⟩|⟨n,hn,rfl,rfl⟩
 ·refine .inl ⟨w',rfl,h,?_⟩;cases o' with
  | none=>rfl
  | some r=>exact k
 ·exact .inr ⟨n,hn,rfl,rfl⟩
theorem WI.rep {c:za} {l:ym} {reps:Zf} {rest:yQ×ya} (h:WI (c,l,reps,rest)) {i:Int} (h0:0<=i) (h1:i<(reps.length:Int)):∃ r,reps[i.toNat]?=some r/\zd c r=true/\zf r<=260000/\∀ r',Kp c r r'->WI (c,l,reps.set i.toNat r',rest):=by
 have hi:i.toNat<reps.length:=by omega
 have k:=(h.reps i.toNat hi).1;exact⟨reps[i.toNat],List.getElem?_eq_getElem hi,k,Ze k,λ r' kk=>h.setRep hi kk⟩
theorem ky {c:za} {r:zb} (h:zd c r=true):Kp c r (r.1,r.2.1,r.2.1,r.2.2.2):=by
 refine⟨?_,rfl⟩;unfold zd at h ⊢;simp only[aqF,aqP] at h ⊢;exact⟨h.1,h.2.1,h.2.2.1,⟨by have:=h.2.2.1; omega,by have:=h.2.2.1; omega⟩,h.2.2.2.2⟩
theorem aa8 {w:zr} (h:WI w) (i:Int) (h0:0<=i) (h1:i<(w.2.2.1.length:Int)):Step w (nW (w,i,())) (nX (w,i,())):=by
 obtain⟨c,l,reps,rest⟩:=w;obtain⟨r,hr,hok,hw,ahr⟩:=h.rep h0 h1;have ha:=wT c r;have kt:=(ky hok).trans (Bd (ky hok).1 (1,0,(ask c r).1,(0,[],[]),(0,[],[]),0,0,0,0,0));have hw2:=Ze kt.1;have hw1:=Ze (ky hok).1;have kb:=kt.trans (kC kt.1 (ask c r).1);dsimp only at h1;unfold nW nX;simp only[h0,h1,aqS,if_true,zm (e:=YB) hr,Il c r (by omega),aqC];cases (ask c r).2
 ·exact Step.same (show (_:Int)≠0 from by first|exact (by decide:(3:Int)≠0)|exact (by decide:(4:Int)≠0))
 have e1:=ag7 c (r.1,r.2.1,r.2.1,r.2.2.2) (1,0,(ask c r).1,(0,[],[]),(0,[],[]),0,0,0,0,0) (by omega) (by simp only[zh,zp,zj,zu,aqJ]; omega)
 have e2:=In c (YY c (r.1,r.2.1,r.2.1,r.2.2.2) (1,0,(ask c r).1,(0,[],[]),(0,[],[]),0,0,0,0,0)).1 (ask c r).1 (by omega);simp only[aqI,aqD,Yd r (by omega),aqC,e1,e2];cases (YY c (r.1,r.2.1,r.2.1,r.2.2.2) (1,0,(ask c r).1,(0,[],[]),(0,[],[]),0,0,0,0,0)).2
 ·exact Step.same (show (_:Int)≠0 from by first|exact (by decide:(3:Int)≠0)|exact (by decide:(4:Int)≠0))
 cases (YG c (YY c (r.1,r.2.1,r.2.1,r.2.2.2) (1,0,(ask c r).1,(0,[],[]),(0,[],[]),0,0,0,0,0)).1 (ask c r).1).2
 ·exact Step.same (show (_:Int)≠0 from by first|exact (by decide:(3:Int)≠0)|exact (by decide:(4:Int)≠0))
 exact Step.next (ahr _ kb) rfl
end G448
namespace G448
open Ev
def qX (l:ya) (v:ZQ):Bool:=l.any (λ x=>x.1==v.1 && (x.2.1==v.2.1 && x.2.2==v.2.2))
def Y7 (acc:ya) (x:ZQ):ya:=bif decide ((acc.length:Int)<300) && !qX acc x then acc++[x] else acc
def QA (id:Int) (acc:ya) (p:K5):ya:=(jU id p.2).foldl Y7 acc
def learn (w:zr) (id:Int) (sent:jw):zr:=
 bif (yB w).any (· == id) then (w.1,w.2.1,w.2.2.1,w.2.2.2.1,sent.foldl (QA id) w.2.2.2.2) else w
theorem rF (acc:ya) (x:ZQ) (h:acc.length<=137438953472):(Y7 acc x).length<=137438953472:=by
 unfold Y7;by_cases hc:(acc.length:Int)<300
 ·cases qX acc x<;>simp[hc]<;>omega
 ·simp[hc]; omega
theorem Bs (id:Int) (p:K5) (acc:ya) (h:acc.length<=137438953472):(QA id acc p).length<=137438953472:=
 WA (jU id p.2) Y7 (λ _ s=>s.length<=137438953472) (λ _ s x _ _ hs=>rF s x hs) h
theorem afJ (w:zr) (id:Int) (sent:jw) (hw:yl w<=137438953472) (hs:yu sent<=137438953472):nk (w,id,sent,())=some (learn w id sent,()):=by
 have h1:w.2.1.length<=137438953472:=by simp only[yl,zu] at hw; omega
 have h2:w.2.2.1.length<=137438953472:=by simp only[yl,JW] at hw; omega
 have h3:w.2.2.2.2.length<=137438953472:=by simp only[yl,JX] at hw; omega
 have h4:=Am w;have hl:sent.length<=137438953472:=by simp only[yu] at hs; omega
 unfold nk learn;simp only[II w hw,Ip w h1 h2,Jh (yB w) id (by omega),aqC];cases (yB w).any (· == id)
 ·rfl
 simp only[aqI,aqD,aqE];refine (Mb (λ i (s:ya)=>(i,(w.1,w.2.1,w.2.2.1,w.2.2.2.1,s),())) sent (QA id) (λ s=>some ((w.1,w.2.1,w.2.2.1,w.2.2.2.1,s),())) (by omega) (λ _ s=>s.length<=137438953472) ?_ ?_ h3)
 ·intro rec s hs'; simp
 ·intro rec i s p hx hi hs';refine⟨Bs id p s hs',?_⟩;have hp:zh p.2<=137438953472:=by have:=ZN Yf (List.mem_of_getElem? hx); simp only[Yf] at this; unfold yu at hs; omega
  have hso:=GG id p.2;have hsl:(jU id p.2).length<=137438953473:=by simp only[JX] at hso; omega
  simp only[aqN,zv hi,aqH,aqE,if_true,aqS,zm (e:=(.pair .i64 (.pair .i64 (.pair .i64 (.pair (.pair .str (.pair .i64 (.pair .str (.sl 0 .i64)))) (.pair (.pair .i64 (.pair .str (.sl 0 .i64))) (.pair (.pair .i64 (.pair .str (.sl 0 .i64))) (.pair .i64 (.pair .i64 (.pair .i64 (.pair .i64 .i64))))))))))) hx,
   afZ id p.2 (MsgW.of (by omega)),aqC,zq (show i<4611686018427387904 by omega)]
  refine Mb (λ j (s:ya)=>(j,(w.1,w.2.1,w.2.2.1,w.2.2.2.1,s),())) (jU id p.2) Y7 (λ s=>rec ((i:Int)+1,(w.1,w.2.1,w.2.2.1,w.2.2.2.1,s),())) (by omega) (λ _ s=>s.length<=137438953472) ?_ ?_ hs'
  ·intro rec2 t ht; simp
  ·intro rec2 j t x hy hj ht;refine⟨rF t x ht,?_⟩;simp only[aqN,zv hj,aqH,aqE,if_true,aqS,zm (e:=(.pair .i64 (.pair .str .i64))) hy,IH t x.1 x.2.1 x.2.2 (by omega),aqC,zq (show j<4611686018427387904 by omega),aqG,aqJ];unfold Y7 qX;by_cases hc:(t.length:Int)<300
   ·simp only[hc,aqH,aqE,aqU];cases t.any (λ y=>y.1==x.1 && (y.2.1==x.2.1 && y.2.2==x.2.2))
    ·simp only[ar1,aqE];rw[if_pos (by omega)]
    ·rfl
   ·simp only[hc,aqL,aqD,ari]
theorem W9 (w:zr) (id:Int) (sent:jw) (hw:yl w<=137438953472) (hs:yu sent<=137438953472):gu (w,id,sent,())=some (learn w id sent,()):=by
 have h1:w.2.1.length<=137438953472:=by simp only[yl,zu] at hw; omega
 have h2:w.2.2.1.length<=137438953472:=by simp only[yl,JW] at hw; omega
 have h3:w.2.2.2.2.length<=137438953472:=by simp only[yl,JX] at hw; omega
 have h4:=Am w;have hl:sent.length<=137438953472:=by simp only[yu] at hs; omega
 unfold gu learn;simp only[Qs w hw,gn w h1 h2,JB (yB w) id (by omega),aqC];cases (yB w).any (· == id)
 ·rfl
 simp only[aqI,aqD,aqE];refine (Mb (λ i (s:ya)=>(i,(w.1,w.2.1,w.2.2.1,w.2.2.2.1,s),())) sent (QA id) (λ s=>some ((w.1,w.2.1,w.2.2.1,w.2.2.2.1,s),())) (by omega) (λ _ s=>s.length<=137438953472) ?_ ?_ h3)
 ·intro rec s hs'; simp
 ·intro rec i s p hx hi hs';refine⟨Bs id p s hs',?_⟩;have hp:zh p.2<=137438953472:=by have:=ZN Yf (List.mem_of_getElem? hx); simp only[Yf] at this; unfold yu at hs; omega
  have hso:=GG id p.2;have hsl:(jU id p.2).length<=137438953473:=by simp only[JX] at hso; omega
  simp only[aqN,zv hi,aqH,aqE,if_true,aqS,zm (e:=(.pair .i64 (.pair .i64 (.pair .i64 (.pair (.pair .str (.pair .i64 (.pair .str (.sl 0 .i64)))) (.pair (.pair .i64 (.pair .str (.sl 0 .i64))) (.pair (.pair .i64 (.pair .str (.sl 0 .i64))) (.pair .i64 (.pair .i64 (.pair .i64 (.pair .i64 .i64))))))))))) hx,
   AA id p.2 (MsgW.of (by omega)),aqC,zq (show i<4611686018427387904 by omega)]
  refine Mb (λ j (s:ya)=>(j,(w.1,w.2.1,w.2.2.1,w.2.2.2.1,s),())) (jU id p.2) Y7 (λ s=>rec ((i:Int)+1,(w.1,w.2.1,w.2.2.1,w.2.2.2.1,s),())) (by omega) (λ _ s=>s.length<=137438953472) ?_ ?_ hs'
  ·intro rec2 t ht; simp
  ·intro rec2 j t x hy hj ht;refine⟨rF t x ht,?_⟩;simp only[aqN,zv hj,aqH,aqE,if_true,aqS,zm (e:=(.pair .i64 (.pair .str .i64))) hy,oG t x (by omega),aqC,zq (show j<4611686018427387904 by omega),aqG,aqJ];unfold Y7 qX;cases t.any (λ y=>y.1==x.1 && (y.2.1==x.2.1 && y.2.2==x.2.2))
   ·simp only[ar1,aqE,asn];by_cases hc:(t.length:Int)<300
    ·simp only[hc,aqH,aqE];rw[if_pos (by omega)]
    ·simp only[hc,aqL,aqD]
   ·simp only[aqI,aqD,arB]
end G448
namespace G448
open Ev Go
set_option maxRecDepth 100000
theorem aaw {c:za} {l:ym} {reps:Zf} {rest:yQ×ya} {i:Int} {r:zb} (hok:zd c r=true) (hw:zf r<=260000) (ahr:∀ r',Kp c r r'->WI (c,l,reps.set i.toNat r',rest)):
  Step (c,l,reps,rest) ((N5 (c,r,())).bind λ r6=>bif !r6.2.1 then some ((c,l,reps,rest),3,()) else some ((c,l,reps.set i.toNat r6.1,rest),0,())) ((N5 (c,r,())).bind λ r6=>bif !r6.2.1 then some ((c,l,reps,rest),3,()) else none):=by
 rw[afI c r (by omega),aqC,aqC];dsimp only;cases (late c r).2
 ·exact Step.same (show (3:Int)≠0 by decide)
 ·exact Step.next (ahr _ (Ba hok)) rfl
theorem Wy {c:za} {l:ym} {reps:Zf} {rest:yQ×ya} {i:Int} {r:zb} (keep:Int) (hok:zd c r=true) (hf:yK (ZS r.2.2.2.2.2.2.1 keep)=true) (ahr:∀ r',Kp c r r'->WI (c,l,reps.set i.toNat r',rest)):
  WI (c,l,reps.set i.toNat (rise c (r.1,r.2.1,r.2.2.1,r.2.2.2.1,r.2.2.2.2.1,r.2.2.2.2.2.1,ZS r.2.2.2.2.2.2.1 keep,r.2.2.2.2.2.2.2)),rest):=by
 refine ahr _ ?_;have h:zd c (r.1,r.2.1,r.2.2.1,r.2.2.2.1,r.2.2.2.2.1,r.2.2.2.2.2.1,ZS r.2.2.2.2.2.2.1 keep,r.2.2.2.2.2.2.2)=true:=by
  unfold zd at hok ⊢;simp only[aqF] at hok ⊢;obtain⟨a1,a2,a3,a4,a5,a6,a7,a8,a9⟩:=hok;exact⟨a1,a2,a3,a4,a5,a6,a7,hf,a9⟩
 exact⟨(kD h).1,(kD h).2⟩
theorem WN {c:za} {l:ym} {reps:Zf} {rest:yQ×ya} {i:Int} {r:zb} {m:zo} (hok:zd c r=true) (hw:zf r<=260000) (hm:zh m<=137438953472) (ahr:∀ r',Kp c r r'->WI (c,l,reps.set i.toNat r',rest)):
  Step (c,l,reps,rest) ((LJ (c,r,m,())).bind λ r7=>bif !r7.2.1 then some ((c,l,reps,rest),3,()) else bif m.1 != 4 then some ((c,l,reps,rest),3,()) else some ((c,l,reps.set i.toNat r7.1,rest),0,())) ((LJ (c,r,m,())).bind λ r7=>bif !r7.2.1 then some ((c,l,reps,rest),3,()) else bif m.1 != 4 then some ((c,l,reps,rest),3,()) else none):=by
 rw[Io c r m (by omega) hm,aqC,aqC];dsimp only;cases (Ni c r m).2
 ·exact Step.same (show (3:Int)≠0 by decide)
 cases (m.1 != 4)
 ·exact Step.next (ahr _ (A8 hok m)) rfl
 ·exact Step.same (show (3:Int)≠0 by decide)
theorem xJ {d:yZ} (h:yK d=true) (keep:Int):yK (ZS d keep)=true:=by
 have hb:=pp h keep;have h':=JY.1 h;unfold ZS;rw[if_pos h];refine JY.2 ?_;dsimp only;rw[aqV];omega
theorem B8 {r:zb} (hw:zf r<=260000) {p:zJ} (hp:p∈r.2.2.2.2.2.1):p.2.1.length<=260000:=by
 have h:=ZN zp hp;simp only[zf,zL] at hw;simp only[zp] at h;omega
theorem step_loop {w:zr} {G G':(Int×zr×zr×Unit->Option (zr×Int×Unit))->Int×zr×zr×Unit->Option (zr×Int×Unit)} {z:zr} (n0:Nat)
  (h0:∀ rec rec',Step w (G rec (-1,w,z,())) (G' rec' (-1,w,z,())))
  (hs:∀ rec rec' (j:Nat),j<n0->(Step w (rec ((j:Int) - 1,w,z,())) (rec' ((j:Int) - 1,w,z,())))->Step w (G rec ((j:Int),w,z,())) (G' rec' ((j:Int),w,z,()))):
  ∀ (n m:Nat),m<=n0->m<n->Step w (iter G n ((m:Int) - 1,w,z,())) (iter G' n ((m:Int) - 1,w,z,()))
 | 0,m,_,h=>by omega
 | n+1,0,_,_=>h0 _ _
 | n+1,m+1,hm,h=>by
  have e:(((m+1:Nat):Int) - 1)=(m:Int):=by omega
  rw[e];exact hs _ _ m (by omega) (step_loop n0 h0 hs n m (by omega) (by omega))
theorem aai {w:zr} (h:WI w) (i:Int) (h0:0<=i) (h1:i<(w.2.2.1.length:Int)):Step w (od (w,i,())) (oe (w,i,())):=by
 obtain⟨c,l,reps,rest⟩:=w;obtain⟨r,hr,hok,hw,ahr⟩:=h.rep h0 h1;dsimp only at h1;have ht:(r.2.2.2.2.2.1.length:Int)<=260000:=by simp only[zf,zL] at hw; omega
 unfold od oe;simp only[h0,h1,aqS,if_true,zm (e:=YB) hr];rw[zg (n:=(r.2.2.2.2.2.1.length:Int) - 1) (by omega) (by omega)];refine step_loop r.2.2.2.2.2.1.length ?_ ?_ fuel _ (Nat.le_refl _) (by rw[Zt]; omega)
 ·intro rec rec';exact Step.same (show (3:Int)≠0 by decide)
 ·intro rec rec' j hj ah3;have hx:=List.getElem?_eq_getElem hj;have hj':(j:Int)<(r.2.2.2.2.2.1.length:Int):=by omega
  have hn:=B8 hw (List.getElem_mem hj);simp only[zv,hj',Int.natCast_nonneg,ge_iff_le,aqH,aqE,aqS,if_true,aqN,zm (e:=YA) hx];cases ((r.2.2.2.2.2.1[j]).2.1==[])
  ·simp only[cond_false,afy c r _ _ true (show zf r<=15000000 by omega) (show (r.2.2.2.2.2.1[j]).2.1.length<=5000000 by omega),Option.bind_some,h0,h1,and_self,if_true];cases (climb c r (r.2.2.2.2.2.1[j]).1 (r.2.2.2.2.2.1[j]).2.1 true).2
   ·exact Step.same (show (3:Int)≠0 by decide)
   ·exact Step.next (ahr _ (kz hok _ _ _)) rfl
  ·simp only[aqE];rw[zg (n:=(j:Int) - 1) (by omega) (by omega)];exact ah3
def qy (n:Int) (l:ya):Prop:=l.length<=300/\∀ s∈l,(zG s.2.1=true/\zl s.2.1=s.1)/\(0<=s.2.2/\s.2.2<n)
theorem aax {n:Int} {acc:ya} {x:ZQ} (h:qy n acc) (hx:(zG x.2.1=true/\zl x.2.1=x.1)/\(0<=x.2.2/\x.2.2<n)):qy n (Y7 acc x):=by
 unfold Y7;cases hc:decide ((acc.length:Int)<300) && !qX acc x
 ·exact h
 ·simp only[aqF,aqP] at hc;refine⟨by simp only[aqE,aqM,aqG,aqJ]; omega,λ s hs => ?_⟩
  simp only[aqE,ar0,aqW,aro,or_false] at hs;rcases hs with hs|rfl
  ·exact h.2 s hs
  ·exact hx
theorem aen {id:Int} {m:zo}:∀ s∈jU id m,s.2.2=id:=by
 unfold jU;repeat' split
 all_goals simp
theorem lX {c:za} {q:zF} (h:zP c q=true):zG q.2.1=true/\zl q.2.1=q.1:=by
 unfold zP at h;simp only[aqF,ar5] at h;exact⟨h.2.1,h.2.2.1⟩
theorem aeo {c:za} {m:zo} (hm:zR c m=true) (h4:¬ m.1=4) (h:¬ (jg m).2.1=[]):zG (jg m).2.1=true/\zl (jg m).2.1=(jg m).1:=by
 unfold zR at hm;unfold jg at h ⊢;simp only[aqF] at hm;have k:=hm.2.2;clear hm;by_cases e2:m.1=2
 ·have e1:(m.1==1)=false:=by rw[e2]; rfl
  have e22:(m.1==2)=true:=by rw[e2]; rfl
  rw[e1,e22] at k;rw[if_pos e2] at h ⊢;simp only[aqE,aqD,aqF,y5,arj,ar5] at k;rcases k.1.2.2.2.2 with e|e
  ·exact absurd e h
  ·exact e
 by_cases e1:m.1=1
 ·have e11:(m.1==1)=true:=by rw[e1]; rfl
  rw[e11] at k;rw[if_neg e2,if_pos e1] at h ⊢;simp only[aqE,jn,aqF] at k;exact lX k.1
 rw[if_neg e2,if_neg e1] at h ⊢;have e11:(m.1==1)=false:=by simp[e1]
 have e22:(m.1==2)=false:=by simp[e2]
 have e44:(m.1==4)=false:=by simp[h4]
 rw[e11,e22,e44] at k;cases e33:(m.1==3)
 ·rw[e33] at k; simp at k
 ·rw[e33] at k;simp only[aqE,aqD,aqF] at k;exact lX k.2.1
theorem aem {c:za} {id:Int} {m:zo} (hm:zR c m=true):∀ s∈jU id m,zG s.2.1=true/\zl s.2.1=s.1:=by
 unfold jU;by_cases h4:m.1=4
 ·simp[h4]
 rw[if_neg h4];by_cases h:(jg m).2.1=[]
 ·simp[h]
 rw[if_neg h];have k:=aeo hm h4 h;split
 ·intro s hs;simp only[aqW,aro,or_false] at hs;rw[hs]; exact k
 ·simp
theorem Br {n:Int}:∀ (l:ya) {acc:ya},qy n acc->(∀ x∈l,(zG x.2.1=true/\zl x.2.1=x.1)/\(0<=x.2.2/\x.2.2<n))->qy n (l.foldl Y7 acc)
 | [],_,h,_=>h
 | x::l,_,h,hl=>Br l (aax h (hl x (by simp))) λ y hy=>hl y (by simp[hy])
theorem Bt {c:za} {n:Int} {id:Int} (hid:0<=id/\id<n):∀ (ps:jw) {acc:ya},qy n acc->(∀ p∈ps,zR c p.2=true)->qy n (ps.foldl (QA id) acc)
 | [],_,h,_=>h
 | p::ps,_,h,hp=>by
  refine Bt hid ps ?_ λ q hq=>hp q (by simp[hq]);refine Br _ h λ x hx=>⟨aem (hp p (by simp)) x hx,?_⟩
  rw[aen x hx]; exact hid
theorem Bu {w:zr} (h:WI w) {id:Int} (hid:0<=id/\id<w.1.1) {ps:jw} (hp:∀ p∈ps,zR w.1 p.2=true):WI (learn w id ps):=by
 unfold learn;cases (yB w).any (· == id)
 ·exact h
 ·exact⟨h.conf,h.liars,h.len,h.reps,h.net,Bt hid ps h.said hp⟩
def Jo (n:Int) (l:yQ):Prop:=l.length<=60/\∀ x∈l,(0<=x.1/\x.1<n)/\x.2.length<=1000000
theorem aet {c:za} (hc:zB c=true) {ws:yQ} {p:K5} (h:Jo c.1 ws) (hp:zh p.2<=100000):Jo c.1 (JQ c ws p):=by
 have hb:=zS hc;have hl:=kS c p.2;unfold JQ;rw[zg (n:=c.1 - 1) (by omega) (by omega)];cases decide (((jx c p.2).length:Int)>0)
 ·exact h
 cases hr:decide (p.1≥0) && decide (p.1<=c.1 - 1)
 ·exact h
 cases hs:decide ((ws.length:Int)<60)
 ·exact h
 simp only[aqF,aqP] at hr hs;refine⟨by simp only[aqE,aqM,aqG,aqJ]; omega,λ x hx => ?_⟩
 simp only[aqE,ar0,aqW,aro,or_false] at hx;rcases hx with hx|rfl
 ·exact h.2 x hx
 ·exact⟨⟨by omega,by dsimp only; omega⟩,by dsimp only; omega⟩
theorem GJ {c:za} (hc:zB c=true):∀ (ps:jw) {ws:yQ},Jo c.1 ws->(∀ p∈ps,zh p.2<=100000)->Jo c.1 (Kk c ws ps)
 | [],_,h,_=>h
 | p::ps,_,h,hp=>GJ hc ps (aet hc h (hp p (by simp))) λ q hq=>hp q (by simp[hq])
theorem GL {w:zr} (h:WI w) {ps:jw} (hp:∀ p∈ps,zh p.2<=100000):WI (w.1,w.2.1,w.2.2.1,Kk w.1 w.2.2.2.1 ps,w.2.2.2.2):=
 ⟨h.conf,h.liars,h.len,h.reps,GJ h.conf ps h.net hp,h.said⟩
theorem IU {c:za} {r:zb} (hok:zd c r=true):((∀ p∈(yo c r).2,zh p.2<=100000)/\∀ p∈(yo c r).2,zR c p.2=true)/\(yo c r).2.length<=30/\yu (yo c r).2<=260000:=by
 obtain⟨h1,h2,h3,h4,h5,h6,h7,h8,h9,h10⟩:=Jd hok;have hw:=Ze hok;have hs:=(agr c r).2;refine⟨?_,?_,by omega⟩
 ·unfold yo;rw[hok];have key:∀ p∈r.2.2.2.2.2.2.2,zR c p.2=true:=λ p hp=>by
   have hk:=h10 p hp;unfold ZC at hk;simp only[aqF] at hk;exact hk.1
  exact⟨λ p hp=>by have:=QC (key p hp); omega,key⟩
 ·unfold yo;rw[hok]; exact h9
theorem WI.w_leS {w:zr} (h:WI w):yl w<=500000000:=by
 have hb:=zS h.conf;have key:∀ {α:Type} (f:α->Nat) (N:Nat) (l:List α),(∀ x∈l,f x<=N)->(l.map f).sum<=l.length*N:=by
  intro α f N l;induction l with
  | nil=>intro _; simp
  | cons x l ih=>
   intro hx;have a:=hx x (by simp);have b:=ih λ y hy=>hx y (by simp[hy]);simp only[aqZ,arh,aqG,are];omega
 have hl:=h.len;have r1:=key zf 260000 w.2.2.1 λ x hx=>by
  obtain⟨i,hi,rfl⟩:=List.getElem_of_mem hx;exact Ze (h.reps i hi).1
 have r2:=key Yg 1000000 w.2.2.2.1 λ x hx=>(h.net.2 x hx).2;have r3:=key MZ 1000000 w.2.2.2.2 λ x hx=>by have:=Lo (h.said.2 x hx).1.1; simp only[MZ]; omega
 have e1:w.2.2.1.length*260000<=7*260000:=Nat.mul_le_mul_right _ (by omega);have e2:w.2.2.2.1.length*1000000<=60*1000000:=Nat.mul_le_mul_right _ h.net.1;have e3:w.2.2.2.2.length*1000000<=300*1000000:=Nat.mul_le_mul_right _ h.said.1;have:=h.liars.1; have:=h.net.1; have:=h.said.1
 simp only[yl,zu,JW,Yh,JX];omega
theorem WI.w_le {w:zr} (h:WI w):yl w<=137438953472:=Nat.le_trans h.w_leS (by decide)
theorem aaj {w:zr} (h:WI w) (i:Int) (h0:0<=i) (h1:i<(w.2.2.1.length:Int)):Step w (og (w,i,())) (oh (w,i,())):=by
 obtain⟨c,l,reps,net,said⟩:=w;obtain⟨r,hr,hok,hw,ahr⟩:=h.rep h0 h1;obtain⟨p1,p2,p3⟩:=IU hok;have hn:=h.net.1;have hd:=h.said.1;have hlen:=h.len;dsimp only at h1 hn hd hlen;have hW:=ahr _ (Bb hok);have hL:=Bu hW (id:=i) (by dsimp only; omega) (ps:=(yo c r).2) p1.2
 have hS:=GL hL (ps:=(yo c r).2) p1.1;unfold og oh;simp only[h0,h1,aqS,if_true,zm (e:=YB) hr,ag4 c r (by omega),aqC];cases decide (wr ((net.length:Int)+((yo c r).2.length:Int))>60);case true=>exact Step.same (show (4:Int)≠0 by decide)
 cases decide (wr ((said.length:Int)+((yo c r).2.length:Int))>300);case true=>exact Step.same (show (4:Int)≠0 by decide)
 simp only[aqD,h0,h1,aqS,if_true];rw[afJ _ i _ hW.w_le (by omega),aqC];dsimp only;rw[IJ _ _ (by omega),aqC];exact Step.next hS rfl
theorem aag {w:zr} (h:WI w) (d:ZA) (h0:0<=d.2.1) (h1:d.2.1<(w.2.2.1.length:Int)) (hm:zh d.2.2.2<=137438953472):Step w (n9 (w,d,())) (oa (w,d,())):=by
 have hA:=aa8 h d.2.1 h0 h1;have hB:=aaj h d.2.1 h0 h1;have hC:=aai h d.2.1 h0 h1;obtain⟨c,l,reps,rest⟩:=w;obtain⟨r,hr,hok,hw,ahr⟩:=h.rep h0 h1;have akr:=(Jd hok).2.2.2.2.2.2.2.1;have hf:=xJ akr d.2.2.1;have hW:=Wy (i:=d.2.1) d.2.2.1 hok hf ahr;dsimp only at h1;unfold n9 oa;simp only[h0,h1,aqS,if_true,zm (e:=YB) hr];cases d.1==1;case true=>exact hA.wrap
 cases d.1==2;case true=>exact hB.wrap
 cases d.1==6;case true=>exact hC.wrap
 simp only[aqD];cases d.1==8;case true=>
  have hd:=JY.1 akr;have hd2:=JY.1 hf;have hwr:zf (r.1,r.2.1,r.2.2.1,r.2.2.2.1,r.2.2.2.2.1,r.2.2.2.2.2.1,ZS r.2.2.2.2.2.2.1 d.2.2.1,r.2.2.2.2.2.2.2)<=1073741824:=by
   simp only[zf,KY] at hw ⊢;omega
  simp only[aqE,Yd r (by omega),afB _ _ (show r.2.2.2.2.2.2.1.1.length<=17592186044416 by omega),aqC,afV c _ hwr];exact Step.next hW rfl
 simp only[aqD];cases d.1==7;case true=>exact aaw hok hw ahr
 exact WN hok hw hm ahr
theorem aad {w:zr} (h:WI w) (d:ZA) (hm:zh d.2.2.2<=137438953472):Step w (n6 (w,d,())) (n7 (w,d,())):=by
 have hl:=h.liars.1;have hs:=h.said.1;unfold n6 n7;simp only[Ji,aqC,afL w.1 w.2.1 w.2.2.2.2 d.2.2.2 (show zh d.2.2.2<=137438953472 by omega) (by omega) (by omega)];cases (decide (d.2.1≥0) && decide (d.2.1<=wr (w.1.1 - 1)))
 ·exact Step.same (show (2:Int)≠0 by decide)
 cases hml:Lm w.1 w.2.1 w.2.2.2.2 d.2.2.2
 ·exact Step.same (show (5:Int)≠0 by decide)
 have hk:zh d.2.2.2<=3847:=by
  unfold Lm at hml;simp only[aqF] at hml;exact QC hml.1
 have hS:=GL h (ps:=[(d.2.1,d.2.2.2)]) λ p hp=>by
  simp only[aqW,aro,or_false] at hp;rw[hp]; dsimp only; omega
 cases decide ((w.2.2.2.1.length:Int)≥60);case true=>exact Step.same (show (4:Int)≠0 by decide)
 simp only[aqI,aqD];rw[IJ w _ (show yu [(d.2.1,d.2.2.2)]<=1073741824 by simp only[yu,Yf,aqZ,arn,arh,aso,aqG,aqJ]; omega),Option.bind_some]
 exact Step.next hS rfl
theorem VV {n:Int} {net:yQ} (h:Jo n net) (i:Nat) (hi:i<net.length):Jo n ([]++(net.drop 0).take i++(net.drop (i+1)).take (net.length - (i+1))):=by
 refine⟨?_,λ x hx => ?_⟩
 ·have:=h.1;simp only[ar6,ar4,aqM,aqV,ar2];omega
 ·simp only[ar6,ar4,ar0] at hx;rcases hx with hx|hx
  ·exact h.2 x (List.mem_of_mem_take hx)
  ·exact h.2 x (List.mem_of_mem_drop (List.mem_of_mem_take hx))
theorem Wa {n:Int} {net:yQ} (h:Jo n net) (hl:net.length<60) {x:M3} (hx:x∈net):Jo n (net++[(x.1,[]++x.2)]):=by
 refine⟨by simp only[aqM,aqG,aqJ]; omega,λ y hy => ?_⟩
 simp only[ar0,aqW,aro,or_false] at hy;rcases hy with hy|rfl
 ·exact h.2 y hy
 ·exact h.2 x hx
theorem WI.withNet {c:za} {l:ym} {reps:Zf} {net net':yQ} {said:ya} (h:WI (c,l,reps,net,said)) (hn:Jo c.1 net'):WI (c,l,reps,net',said):=
 ⟨h.conf,h.liars,h.len,h.reps,hn,h.said⟩
theorem pG {w:zr} (hl:(w.2.2.1.length:Int)=w.1.1) {x:Int} (hx:(yB w).any (· == x)=true):0<=x/\x<(w.2.2.1.length:Int):=by
 unfold yB at hx;simp at hx;omega
theorem aae {w:zr} (h:WI w) (d:ZA):Step w (aZ (w,d,())) (ba (w,d,())):=by
 obtain⟨c,l,reps,net,said⟩:=w;have hn:=h.net;have hlen:=h.len;have hl:=h.liars.1;have hb:=zS h.conf;dsimp only at hn hlen hl hb;unfold aZ ba;dsimp only;rw[zg (n:=(net.length:Int) - 1) (by omega) (by omega),Ji];simp only[aqC];cases hin:decide (d.2.1≥0) && decide (d.2.1<=(net.length:Int) - 1)
 ·exact Step.same (show (2:Int)≠0 by decide)
 simp only[aqF,aqP] at hin;have h0:0<=d.2.1:=hin.1;have h1:d.2.1<(net.length:Int):=by omega
 have hi:d.2.1.toNat<net.length:=by omega
 have hx:=List.getElem?_eq_getElem hi;have aj8:=List.getElem_mem hi;generalize net[d.2.1.toNat]=x at hx aj8;have hxb:=hn.2 x aj8;have h2:d.2.1<=(net.length:Int):=by omega
 simp only[aqI,aqD,h0,h1,aqS,if_true,zm (e:=bv) hx];cases d.1==5;case true=>
  simp only[aqE];cases h60:decide ((net.length:Int)≥60);case true=>exact Step.same (show (4:Int)≠0 by decide)
  simp only[as1] at h60;have e1:(0+x.2.length)*1<=70368744177664:=by omega
  have e2:(net.length+List.length [(x.1,[]++x.2)])*32<=70368744177664:=by simp only[aqG,aqJ]; omega
  simp only[aqD,e1,e2,if_true];exact Step.next (h.withNet (Wa hn (by omega) aj8)) rfl
 have amP:=VV hn d.2.1.toNat hi;have hw1:wr (d.2.1+1)=d.2.1+1:=zg (by omega) (by omega);have et:(d.2.1+1).toNat=d.2.1.toNat+1:=by omega
 have e3:0<=d.2.1+1/\d.2.1+1<=(net.length:Int)/\(net.length:Int)<=(net.length:Int):=⟨by omega,by omega,Int.le_refl _⟩
 have e4:(0+List.length (List.take (d.2.1.toNat - Int.toNat 0) (List.drop (Int.toNat 0) net)))*32<=70368744177664:=by
  have:=List.length_take_le (d.2.1.toNat - Int.toNat 0) (List.drop (Int.toNat 0) net); omega
 have e5:(List.length ([]++List.take (d.2.1.toNat - Int.toNat 0) (List.drop (Int.toNat 0) net))+List.length (List.take (Int.toNat (net.length:Int) - (d.2.1.toNat+1)) (List.drop (d.2.1.toNat+1) net)))*32<=70368744177664:=by
  have a1:=List.length_take_le (d.2.1.toNat - Int.toNat 0) (List.drop (Int.toNat 0) net);have a2:=List.length_take_le (Int.toNat (net.length:Int) - (d.2.1.toNat+1)) (List.drop (d.2.1.toNat+1) net);simp only[ar6];omega
 simp only[aqD,hw1,et,e4,e5,h0,h2,e3,as2,aqS,if_true,true_and];have amQ:Jo c.1 ([]++List.take (d.2.1.toNat - Int.toNat 0) (List.drop (Int.toNat 0) net)++List.take (Int.toNat (net.length:Int) - (d.2.1.toNat+1)) (List.drop (d.2.1.toNat+1) net)):=amP;clear amP;generalize []++List.take (d.2.1.toNat - Int.toNat 0) (List.drop (Int.toNat 0) net)++List.take (Int.toNat (net.length:Int) - (d.2.1.toNat+1)) (List.drop (d.2.1.toNat+1) net)=net' at amQ;have hW:=h.withNet amQ;cases d.1==3
 ·exact Step.next hW rfl
 rw[Jh l x.1 (by omega),aqC,aqC];dsimp only;cases l.any (· == x.1);case true=>exact Step.next hW rfl
 have x0:0<=x.1:=hxb.1.1;have x1:x.1<(reps.length:Int):=by omega
 obtain⟨r,hr,hok,hw,ahr⟩:=hW.rep x0 x1;have hm:=BF c x.2 (by omega);simp only[aqE,ar1,Is c x.2 (by omega),aqC,x0,x1,aqS,if_true,zm (e:=YB) hr,Io c r (jr c x.2).1 (by omega) (show zh (jr c x.2).1<=137438953472 by omega)];cases (Ni c r (jr c x.2).1).2
 ·exact Step.next hW rfl
 ·exact Step.next (ahr _ (A8 hok _)) rfl
theorem aaf {w:zr} (h:WI w) (d:ZA) (hm:zh d.2.2.2<=137438953472):Step w (n8 (w,d,())) (eC (w,d,())):=by
 have hN:=aae h d;have hL:=aad h d hm;have hl:=h.liars.1;have hlen:=h.len;have hb:=zS h.conf;have hhl:(yB w).length<=w.2.2.1.length:=by
  unfold yB;rw[arg];have:=List.length_filter_le (λ (i:Nat) => !(w.2.1.any (· == (i:Int)))) (List.range w.2.2.1.length);rw[arS] at this;exact this
 unfold n8 eC;dsimp only;cases d.1==3;case true=>exact hN.wrap
 cases d.1==4;case true=>exact hN.wrap
 cases d.1==5;case true=>exact hN.wrap
 cases d.1==10;case true=>exact hL.wrap
 simp only[aqD];rw[Ip w (by omega) (by omega),aqC,aqC];dsimp only;rw[Jh (yB w) d.2.1 (by omega),aqC,aqC];dsimp only;cases hh:(yB w).any (· == d.2.1)
 ·exact Step.same (show (2:Int)≠0 by decide)
 have hr:=pG hlen hh;exact (aag h d hr.1 hr.2 hm).wrap
theorem aah {w:zr} (h:WI w) (d:ZA) (hm:zh d.2.2.2<=137438953472):Ens (oc (w,d,())) λ r=>WI r.1:=by
 unfold oc;dsimp only;rcases aaf h d hm with⟨w',e,k,e'⟩|⟨n,hn,e,e'⟩
 ·rw[e',e];exact Ens.some k
 ·rw[e',e];have:(n != 0)=true:=by simp[hn]
  simp only[has,Me,aqC,this,aqE];exact Ens.some h
theorem ab2 {c:za} {liars:ym} (h:zB c=true) (hl:jV c.1 liars=true) (hf:(liars.length:Int)<=ZT c):ji (yI c liars)=true:=by
 have hb:=zS h;unfold ji yI;simp only[h,hl,hf,QD h,arg,arS,aqJ,jL,aqF,aqP,ar5,and_true,true_and];refine⟨by omega,by omega,by omega,(bK _ _ 0).2 λ i hi => ?_⟩;simp only[arg,arS] at hi;simp only[List.getElem_map,at3,LE,aqF,ar5];refine⟨rU h (by omega) (by omega),?_⟩;simp only[Yp,arv]
theorem IN {c:za} {liars:ym} (h:zB c=true) (hl:jV c.1 liars=true) (hf:(liars.length:Int)<=ZT c):(Zo c liars).1=yI c liars/\WI (yI c liars):=by
 have hb:=zS h;refine⟨?_,ab1 h ?_ (dI hl)⟩
 ·unfold Zo;rw[ab2 h hl hf]; rfl
 ·have:ZT c<=7:=by
   unfold ZT;rw[if_pos h]; omega
  omega
theorem aab (c:j9) (hc:Zw c):Ens (nZ (c,())) λ r=>0<=r.1.2.1/\WI r.2.1:=by
 unfold nZ;refine (rj c _ hc (by simp)).bind λ r0 h0 => ?_;refine (Zi (c.1,r0.1.2) 3 ⟨hc.1,h0.1⟩).bind λ r1 h1 => ?_;refine (kE (c.1,r1.1.2) 3 ⟨hc.1,h1.1⟩).bind λ r2 h2 => ?_;have a1:=h1.2.2 (by decide);have hN:4<=r0.2.1/\r0.2.1<=7:=by
  have:=h0.2;simp only[aqW,aro,or_false] at this;omega
 rw[zg (n:=1+r1.2.1) (by omega) (by omega)];have alP:zB (r0.2.1,1+r1.2.1)=true:=by
  unfold zB;simp only[aqF,aqP];omega
 have hfa:(1:Int)<=ZT (r0.2.1,1+r1.2.1):=by
  unfold ZT;rw[if_pos alP];dsimp only; omega
 refine Ens.cond (λ _ => ?_) λ _ => ?_
 ·refine (Zi (c.1,r2.1.2) r0.2.1 ⟨hc.1,h2⟩).bind λ r3 h3 => ?_;have a3:=h3.2.2 (by omega);have hs:jV (r0.2.1,1+r1.2.1).1 [r3.2.1]=true:=by
   unfold jV;simp only[YT,asn,aqF,arc,as1];omega
  have k:=IN alP hs (by simpa using hfa);rw[vK _ _ (by simp),aqC,k.1];exact Ens.some ⟨h3.1,k.2⟩
 ·have k:=IN (liars:=[]) alP rfl (by simp only[aqJ]; omega)
  rw[vK _ _ (by simp),aqC,k.1];exact Ens.some ⟨h2,k.2⟩
def oM (r:j9×zo×Unit):Prop:=0<=r.1.2.1/\zh r.2.1<=4000/\(0<=r.2.1.2.2.2.1.1/\r.2.1.2.2.2.1.1<=60)/\zG r.2.1.2.2.2.1.2.1=true/\r.2.1.2.2.2.1.2.2.length<=400
theorem wn (cur:j9) (liars:ym) (said:ya) (view:Int) (name:List UInt8) (hc:0<=cur.2.1) (hl:liars.length<=7) (hs:said.length<=300) (hv:0<=view/\view<=60) (hn:zG name=true):
  Ens (iter (λ rec7 (x7:List Int×Int×Unit)=>bif decide (x7.2.1<(said.length:Int)) then if 0<=x7.2.1/\x7.2.1<(said.length:Int) then bif (rd LW said x7.2.1.toNat).1==view then if 0<=x7.2.1/\x7.2.1<(said.length:Int) then bif (rd LW said x7.2.1.toNat).2.1==name then if 0<=x7.2.1/\x7.2.1<(said.length:Int) then (LN (x7.1,(rd LW said x7.2.1.toNat).2.2,())).bind λ r8=>rec7 (r8.1,wr (x7.2.1+1),()) else none else rec7 (x7.1,wr (x7.2.1+1),()) else none else rec7 (x7.1,wr (x7.2.1+1),()) else none else some ((cur,((2,0,([],0,[],[]),(view,name,x7.1),(0,[],[]),0,0,0,0,0):zo),()):j9×zo×Unit)) fuel ([]++liars,0,())) oM:=by
 refine Ens.loop (λ x=>(0<=x.2.1/\x.2.1<=(said.length:Int))/\(x.1.length:Int)<=7+x.2.1) (λ x=>((said.length:Int) - x.2.1).toNat) ?_ ⟨by simp,by simp; omega⟩ (by dsimp only; rw[Zt]; omega)
 intro rec x hx ah3;obtain⟨x1,x2⟩:=hx;refine Ens.cond (λ h => ?_) λ h => ?_
 ·have h:x.2.1<(said.length:Int):=by simpa using h
  have e1:wr (x.2.1+1)=x.2.1+1:=zg (by omega) (by omega);rw[e1];have hno:Ens (rec (x.1,x.2.1+1,())) oM:=ah3 _ ⟨⟨by dsimp only; omega,by dsimp only; omega⟩,by dsimp only; omega⟩ (by dsimp only; omega)
  refine Ens.ite ⟨x1.1,h⟩ (Ens.cond (λ _ => ?_) λ _=>hno);refine Ens.ite ⟨x1.1,h⟩ (Ens.cond (λ _ => ?_) λ _=>hno);refine Ens.ite ⟨x1.1,h⟩ ?_;have hl:=ve x.1 (rd LW said x.2.1.toNat).2.2;rw[vG x.1 _ (by omega),aqC];exact ah3 _ ⟨⟨by dsimp only; omega,by dsimp only; omega⟩,by dsimp only; omega⟩ (by dsimp only; omega)
 ·have hnl:=Lo hn;refine Ens.some ⟨hc,?_,hv,hn,by dsimp only; omega⟩
  simp only[zh,zA,zj,zp,zu,aqJ];omega
theorem aac (c:j9) {w:zr} (hc:Zw c) (h:WI w):Ens (eB (c,w,())) oM:=by
 have hl:=h.liars.1;have hs:=h.said.1;unfold eB;dsimp only;refine (Zi c 4 hc).bind λ r0 h0 => ?_;have a0:=h0.2.2 (by decide);rw[zg (n:=1+r0.2.1) (by omega) (by omega),vz [] _ [] (by simp) (by omega) (by simp),Option.bind_some];refine Ens.ite (by omega) (Ens.cond (λ hp => ?_) λ _=>wn (c.1,r0.1.2) w.2.1 w.2.2.2.2 _ _ h0.1 hl hs (by omega) (BN _ _ _));have hp:(w.2.2.2.2.length:Int)>0:=by simpa using hp
 have akG:yt ((w.2.2.2.2.length:Int),8,())=some (if (w.2.2.2.2.length:Int)<8 then (w.2.2.2.2.length:Int) else 8,()):=by
  unfold yt;by_cases e:(w.2.2.2.2.length:Int)<8<;>simp[e]
 rw[akG,aqC];have hmb:0<(if (w.2.2.2.2.length:Int)<8 then (w.2.2.2.2.length:Int) else 8)/\(if (w.2.2.2.2.length:Int)<8 then (w.2.2.2.2.length:Int) else 8)<=(w.2.2.2.2.length:Int):=by
  split<;>omega
 generalize (if (w.2.2.2.2.length:Int)<8 then (w.2.2.2.2.length:Int) else 8)=n at hmb;refine (Zi (c.1,r0.1.2) n ⟨hc.1,h0.1⟩).bind λ r3 h3 => ?_;have a3:=h3.2.2 hmb.1;have e1:wr ((w.2.2.2.2.length:Int) - 1)=(w.2.2.2.2.length:Int) - 1:=zg (by omega) (by omega);have e2:wr ((w.2.2.2.2.length:Int) - 1 - r3.2.1)=(w.2.2.2.2.length:Int) - 1 - r3.2.1:=zg (by omega) (by omega);rw[e1,e2];refine Ens.ite (by omega) ?_;have hi:((w.2.2.2.2.length:Int) - 1 - r3.2.1).toNat<w.2.2.2.2.length:=by omega
 have hx:=List.getElem?_eq_getElem hi;have aj8:=List.getElem_mem hi;generalize w.2.2.2.2[((w.2.2.2.2.length:Int) - 1 - r3.2.1).toNat]=x at hx aj8;have hxb:=(h.said.2 x aj8).1;have hvb:=qs hxb.1;have hxl:=Lo hxb.1;rw[hxb.2] at hvb;rw[zm (e:=LW) hx];refine (kE (c.1,r3.1.2) 3 ⟨hc.1,h3.1⟩).bind λ r4 h4 => ?_;refine Ens.cond (λ _ => ?_) λ _=>wn (c.1,r4.1.2) w.2.1 w.2.2.2.2 _ _ h4 hl hs hvb hxb.1;have hu:=qq x.2.1;rw[eg x.2.1 (by omega),aqC,vz (Ye x.2.1) x.1 _ (by omega) (by omega) (by simp),aqC];exact wn (c.1,r4.1.2) w.2.1 w.2.2.2.2 _ _ h4 hl hs hvb (BN _ _ _)
def eX (r:j9×zo×Unit):Prop:=0<=r.1.2.1/\zh r.2.1<=8000
theorem UU (c:za) (q:zF) (v:Int) (l:zy):zA (Y1 c q v l).1<=3847:=by
 unfold Y1;cases hb:jn c (jy q.2.1 v l,q) && zl (jy q.2.1 v l)==v
 ·simp[eV,zA,zj,zu]
 ·simp only[aqF] at hb;exact wV hb.1
theorem aaD (code:List UInt8) (p:Int×Int) (c:za) (q:zF) (v:Int) (hc:Zw (code,p)) (hq:zj q<=5000) (hv:0<=v/\v<=61):Ens ((yz ((code,p),())).bind λ r25=>(yr (c,q,v,[r25.2.1],())).bind λ r26=>some ((code,r25.1.2),(1,0,r26.1,(0,[],[]),(0,[],[]),0,0,0,0,0),())) eX:=by
 refine (Be (code,p) hc).bind λ r hr => ?_;rw[Im c q v [r.2.1] (by omega) (by omega) (by simp),Option.bind_some];have:=UU c q v [r.2.1];refine Ens.some ⟨hr.1,?_⟩;simp only[zh,zj,zp,zu,aqJ];omega
theorem By (code:List UInt8) (p:Int×Int) (w:zr) (m:zo) (q:zF) (who:Int) (hc:Zw (code,p)) (hm:zh m<=4000) (hq:zj q<=5000) (hq1:0<=q.1/\q.1<=60):
  Ens ((zN ((code,p),4,())).bind λ r18=>bif r18.2.1==0 then some (((code,r18.1.2),m,()):j9×zo×Unit) else bif r18.2.1==1 then (zN ((code,r18.1.2),2,())).bind λ r19=>(yt (wr (wr (q.1+1)+r19.2.1),60,())).bind λ r20=>some ((code,r19.1.2),(3,r20.1,([],0,[],[]),(0,[],[]),q,who,0,0,0,0),()) else iter (λ rec21 (x21:Int×Int×Unit)=>bif decide (x21.2.1<7) then bif decide (x21.1<60) then (j8 (w.1,x21.1,())).bind λ r22=>bif r22.1 != who then rec21 (wr (x21.1+1),wr (x21.2.1+1),()) else (yz ((code,r18.1.2),())).bind λ r23=>(yr (w.1,q,x21.1,[r23.2.1],())).bind λ r24=>some ((code,r23.1.2),(1,0,r24.1,(0,[],[]),(0,[],[]),0,0,0,0,0),()) else (yz ((code,r18.1.2),())).bind λ r25=>(yr (w.1,q,x21.1,[r25.2.1],())).bind λ r26=>some ((code,r25.1.2),(1,0,r26.1,(0,[],[]),(0,[],[]),0,0,0,0,0),()) else (yz ((code,r18.1.2),())).bind λ r27=>(yr (w.1,q,x21.1,[r27.2.1],())).bind λ r28=>some ((code,r27.1.2),(1,0,r28.1,(0,[],[]),(0,[],[]),0,0,0,0,0),())) fuel (wr (q.1+1),0,())) eX:=by
 refine (Zi (code,p) 4 hc).bind λ r0 h0 => ?_;refine Ens.cond (λ _=>Ens.some ⟨h0.1,by dsimp only; omega⟩) λ _ => ?_
 have e1:wr (q.1+1)=q.1+1:=zg (by omega) (by omega);rw[e1];refine Ens.cond (λ _ => ?_) λ _ => ?_
 ·refine (Zi (code,r0.1.2) 2 ⟨hc.1,h0.1⟩).bind λ r1 h1 => ?_;have akG:∀ a b:Int,yt (a,b,())=some (if a<b then a else b,()):=by
   intro a b;unfold yt;by_cases e:a<b<;>simp[e]
  rw[akG,aqC];refine Ens.some ⟨h1.1,?_⟩;simp only[zh,zA,zj,zp,zu,aqJ] at hq ⊢;omega
 ·refine Ens.loop (λ x=>(0<=x.2.1/\x.2.1<=7)/\(0<=x.1/\x.1<=61)) (λ x=>(8 - x.2.1).toNat) ?_ ⟨by simp,by dsimp only; omega⟩ (by dsimp only; rw[Zt]; omega)
  intro rec x hx ah3;obtain⟨x1,x2⟩:=hx;have hb:=aaD code r0.1.2 w.1 q x.1 ⟨hc.1,h0.1⟩ hq x2;refine Ens.cond (λ h => ?_) λ _=>hb;have h:x.2.1<7:=by simpa using h
  refine Ens.cond (λ h' => ?_) λ _=>hb;have h':x.1<60:=by simpa using h'
  rw[N9,aqC];refine Ens.cond (λ _ => ?_) λ _=>hb;rw[zg (n:=x.1+1) (by omega) (by omega),zg (n:=x.2.1+1) (by omega) (by omega)];exact ah3 _ ⟨by dsimp only; omega,by dsimp only; omega⟩ (by dsimp only; omega)
theorem kK (code:List UInt8) (p:Int×Int) (w:zr) (m:zo) (q:zF) (hc:Zw (code,p)) (hm:zh m<=4000) (hq:zj q<=5000) (hq1:0<=q.1/\q.1<=60):
  Ens (bif decide ((w.2.1.length:Int)>0) then (zN ((code,p),(w.2.1.length:Int),())).bind λ r6=>if 0<=r6.2.1/\r6.2.1<(w.2.1.length:Int) then (zN ((code,r6.1.2),4,())).bind λ r7=>bif r7.2.1==0 then some (((code,r7.1.2),m,()):j9×zo×Unit) else bif r7.2.1==1 then (zN ((code,r7.1.2),2,())).bind λ r8=>(yt (wr (wr (q.1+1)+r8.2.1),60,())).bind λ r9=>some ((code,r8.1.2),(3,r9.1,([],0,[],[]),(0,[],[]),q,rd .i64 w.2.1 r6.2.1.toNat,0,0,0,0),()) else iter (λ rec10 (x10:Int×Int×Unit)=>bif decide (x10.2.1<7) then bif decide (x10.1<60) then (j8 (w.1,x10.1,())).bind λ r11=>bif r11.1 != rd .i64 w.2.1 r6.2.1.toNat then rec10 (wr (x10.1+1),wr (x10.2.1+1),()) else (yz ((code,r7.1.2),())).bind λ r12=>(yr (w.1,q,x10.1,[r12.2.1],())).bind λ r13=>some ((code,r12.1.2),(1,0,r13.1,(0,[],[]),(0,[],[]),0,0,0,0,0),()) else (yz ((code,r7.1.2),())).bind λ r14=>(yr (w.1,q,x10.1,[r14.2.1],())).bind λ r15=>some ((code,r14.1.2),(1,0,r15.1,(0,[],[]),(0,[],[]),0,0,0,0,0),()) else (yz ((code,r7.1.2),())).bind λ r16=>(yr (w.1,q,x10.1,[r16.2.1],())).bind λ r17=>some ((code,r16.1.2),(1,0,r17.1,(0,[],[]),(0,[],[]),0,0,0,0,0),())) fuel (wr (q.1+1),0,()) else none else (zN ((code,p),4,())).bind λ r18=>bif r18.2.1==0 then some ((code,r18.1.2),m,()) else bif r18.2.1==1 then (zN ((code,r18.1.2),2,())).bind λ r19=>(yt (wr (wr (q.1+1)+r19.2.1),60,())).bind λ r20=>some ((code,r19.1.2),(3,r20.1,([],0,[],[]),(0,[],[]),q,0,0,0,0,0),()) else iter (λ rec21 (x21:Int×Int×Unit)=>bif decide (x21.2.1<7) then bif decide (x21.1<60) then (j8 (w.1,x21.1,())).bind λ r22=>bif r22.1 != 0 then rec21 (wr (x21.1+1),wr (x21.2.1+1),()) else (yz ((code,r18.1.2),())).bind λ r23=>(yr (w.1,q,x21.1,[r23.2.1],())).bind λ r24=>some ((code,r23.1.2),(1,0,r24.1,(0,[],[]),(0,[],[]),0,0,0,0,0),()) else (yz ((code,r18.1.2),())).bind λ r25=>(yr (w.1,q,x21.1,[r25.2.1],())).bind λ r26=>some ((code,r25.1.2),(1,0,r26.1,(0,[],[]),(0,[],[]),0,0,0,0,0),()) else (yz ((code,r18.1.2),())).bind λ r27=>(yr (w.1,q,x21.1,[r27.2.1],())).bind λ r28=>some ((code,r27.1.2),(1,0,r28.1,(0,[],[]),(0,[],[]),0,0,0,0,0),())) fuel (wr (q.1+1),0,())) eX:=by
 refine Ens.cond (λ h => ?_) λ _=>By code p w m q 0 hc hm hq hq1;have h:(w.2.1.length:Int)>0:=by simpa using h
 refine (Zi (code,p) _ hc).bind λ r1 h1 => ?_;have a1:=h1.2.2 h;exact Ens.ite ⟨h1.2.1,a1⟩ (By code r1.1.2 w m q _ ⟨hc.1,h1.1⟩ hm hq hq1)
theorem aaa (c:j9) {w:zr} (hc:Zw c) (h:WI w):Ens (aY (c,w,())) eX:=by
 unfold aY vR vQ vS vP;refine (aac c hc h).bind λ r0 h0 => ?_;obtain⟨k1,k2,k3,k4,k5⟩:=h0;have hq:zj r0.2.1.2.2.2.1<=4000:=by
  simp only[zh,zp] at k2;simp only[zj]; omega
 rw[MQ w.1 r0.2.1.2.2.2.1 (by omega),aqC];refine Ens.cond (λ _ => ?_) λ _=>kK c.1 r0.1.2 w r0.2.1 r0.2.1.2.2.2.1 ⟨hc.1,k1⟩ k2 (by omega) k3;have hf:nt ()=some ((0,[],[]),()):=rfl;have hz:zj ((0,[],[]):zF)<=5000:=by simp[zj,zu]
 rw[hf,aqC];refine Ens.cond (λ hp => ?_) λ _=>kK c.1 r0.1.2 w r0.2.1 (0,[],[]) ⟨hc.1,k1⟩ k2 hz (by dsimp only; omega)
 have hp:(w.2.2.1.length:Int)>0:=by simpa using hp
 refine (kE (c.1,r0.1.2) 2 ⟨hc.1,k1⟩).bind λ r3 h3 => ?_;refine Ens.cond (λ _ => ?_) λ _=>kK c.1 r3.1.2 w r0.2.1 (0,[],[]) ⟨hc.1,h3⟩ k2 hz (by dsimp only; omega)
 refine (Zi (c.1,r3.1.2) _ ⟨hc.1,h3⟩).bind λ r4 h4 => ?_;have a4:=h4.2.2 hp;refine Ens.ite ⟨h4.2.1,a4⟩ ?_;obtain⟨r,hr,hok,hw,-⟩:=WI.rep (c:=w.1) (l:=w.2.1) (reps:=w.2.2.1) (rest:=w.2.2.2) h h4.2.1 a4;rw[zm (e:=YB) hr];have hs:=(Jd hok).2.2.2.2.1;have hqk:zP w.1 r.2.2.2.1.2.2.1=true:=by
  unfold zT at hs;simp only[aqF] at hs;exact hs.2.2.1
 have hqw:=dp hqk;have hqn:=lX hqk;have hqv:=qs hqn.1;rw[hqn.2] at hqv;rw[qk r.2.2.2.1.2.2.1 (by omega),aqC];exact kK c.1 r4.1.2 w r0.2.1 r.2.2.2.1.2.2.1 ⟨hc.1,h4.1⟩ k2 (by omega) hqv
def M0 (r:j9×ZA×Unit):Prop:=0<=r.1.2.1/\zh r.2.1.2.2.2<=10000
theorem K7 (code:List UInt8) (p:Int×Int) (k i j:Int) (h:0<=p.1):M0 ((code,p),(k,i,j,0,0,([],0,[],[]),(0,[],[]),(0,[],[]),0,0,0,0,0),()):=
 ⟨h,by simp[zh,zA,zj,zp,zu]⟩
theorem xx (code:List UInt8) (p:Int×Int) (w:zr) (k:Int) (hc:Zw (code,p)):Ens (bif (w.2.2.2.1.length:Int)==0 then some (((code,p),(2,k,0,0,0,([],0,[],[]),(0,[],[]),(0,[],[]),0,0,0,0,0),()):j9×ZA×Unit) else (yt ((w.2.2.2.1.length:Int),4,())).bind λ r13=>(zN ((code,p),r13.1,())).bind λ r14=>some ((code,r14.1.2),(3,r14.2.1,0,0,0,([],0,[],[]),(0,[],[]),(0,[],[]),0,0,0,0,0),())) M0:=by
 refine Ens.cond (λ _=>Ens.some (K7 _ _ _ _ _ hc.2)) λ _ => ?_;have akG:∀ a b:Int,yt (a,b,())=some (if a<b then a else b,()):=by
  intro a b;unfold yt;by_cases e:a<b<;>simp[e]
 rw[akG,aqC];exact (Zi (code,p) _ hc).bind λ r1 h1=>Ens.some (K7 _ _ _ _ _ h1.1)
theorem E8 {w:zr} (h:WI w) {i:Int} (h0:0<=i) (h1:i<(w.2.2.1.length:Int)):∃ r,w.2.2.1[i.toNat]?=some r/\zd w.1 r=true/\zf r<=260000:=by
 obtain⟨r,hr,hok,hw,-⟩:=WI.rep (c:=w.1) (l:=w.2.1) (reps:=w.2.2.1) (rest:=w.2.2.2) h h0 h1;exact⟨r,hr,hok,hw⟩
theorem VW (code:List UInt8) (p:Int×Int) (w:zr) (k:Int) (hc:Zw (code,p)) (h:WI w) (hk:0<=k/\k<=8):Ens (α:=j9×ZA×Unit) (iter (λ rec3 (x3:Int×ZA×Unit)=>bif decide (x3.1<(w.2.2.1.length:Int)) then if (w.2.2.1.length:Int)=0 then none else if 0<=Int.tmod (wr (k+x3.1)) (w.2.2.1.length:Int)/\Int.tmod (wr (k+x3.1)) (w.2.2.1.length:Int)<(w.2.2.1.length:Int) then (LI (w.1,rd (.pair .i64 (.pair .i64 (.pair .i64 (.pair (.pair .i64 (.pair .i64 (.pair (.pair .i64 (.pair .str (.sl 0 .i64))) .str))) (.pair (.sl 0 (.pair .i64 (.pair .i64 (.pair .i64 .i64)))) (.pair (.sl 0 (.pair .i64 (.pair .str (.sl 0 .i64)))) (.pair (.pair (.sl 0 .u8) .i64) (.sl 0 (.pair .i64 (.pair .i64 (.pair .i64 (.pair (.pair .str (.pair .i64 (.pair .str (.sl 0 .i64)))) (.pair (.pair .i64 (.pair .str (.sl 0 .i64))) (.pair (.pair .i64 (.pair .str (.sl 0 .i64))) (.pair .i64 (.pair .i64 (.pair .i64 (.pair .i64 .i64)))))))))))))))))) w.2.2.1 (Int.toNat (Int.tmod (wr (k+x3.1)) (w.2.2.1.length:Int))),())).bind λ r4=>bif r4.2.1 then if (w.2.2.1.length:Int)=0 then none else (jW (w.2.1,Int.tmod (wr (k+x3.1)) (w.2.2.1.length:Int),())).bind λ r5=>bif !r5.1 then if (w.2.2.1.length:Int)=0 then none else some ((code,p),(1,Int.tmod (wr (k+x3.1)) (w.2.2.1.length:Int),0,0,0,([],0,[],[]),(0,[],[]),(0,[],[]),0,0,0,0,0),()) else rec3 (wr (x3.1+1),x3.2.1,()) else rec3 (wr (x3.1+1),x3.2.1,()) else none else some ((code,p),(7,k,0,0,0,([],0,[],[]),(0,[],[]),(0,[],[]),0,0,0,0,0),())) fuel (0,(0,0,0,0,0,([],0,[],[]),(0,[],[]),(0,[],[]),0,0,0,0,0),())) M0:=by
 have hb:=zS h.conf;have hlen:=h.len;have hl:=h.liars.1;refine Ens.loop (λ x=>(0<=x.1/\x.1<=8)) (λ x=>(9 - x.1).toNat) ?_ (by simp) (by dsimp only; rw[Zt]; omega)
 intro rec x hx ah3;have hn:¬ (w.2.2.1.length:Int)=0:=by omega
 refine Ens.cond (λ hh => ?_) λ hh=>Ens.some (K7 _ _ _ _ _ hc.2);have hh:x.1<(w.2.2.1.length:Int):=by simpa using hh
 rw[if_neg hn,zg (n:=k+x.1) (by omega) (by omega),zg (n:=x.1+1) (by omega) (by omega)];have hno:Ens (rec (x.1+1,x.2.1,())) M0:=ah3 _ (by dsimp only; omega) (by dsimp only; omega)
 have t0:0<=Int.tmod (k+x.1) (w.2.2.1.length:Int):=Int.tmod_nonneg _ (by omega);have t1:Int.tmod (k+x.1) (w.2.2.1.length:Int)<(w.2.2.1.length:Int):=Int.tmod_lt_of_pos _ (by omega);refine Ens.ite ⟨t0,t1⟩ ?_;obtain⟨r,hr,hok,hw⟩:=E8 h t0 t1;rw[zm (e:=YB) hr,Il w.1 r (by omega),aqC];refine Ens.cond (λ _ => ?_) λ _=>hno;rw[if_neg hn,Jh w.2.1 _ (by omega),aqC];refine Ens.cond (λ _ => ?_) λ _=>hno;rw[if_neg hn];exact Ens.some (K7 _ _ _ _ _ hc.2)
theorem VX (code:List UInt8) (p:Int×Int) (w:zr) (k:Int) (hc:Zw (code,p)) (h:WI w) (hk:0<=k/\k<=8):Ens (α:=j9×ZA×Unit) (iter (λ rec12 (x12:Int×ZA×Unit)=>bif decide (x12.1<(w.2.2.1.length:Int)) then if (w.2.2.1.length:Int)=0 then none else if 0<=Int.tmod (wr (k+x12.1)) (w.2.2.1.length:Int)/\Int.tmod (wr (k+x12.1)) (w.2.2.1.length:Int)<(w.2.2.1.length:Int) then bif decide ((List.length (rd (.pair .i64 (.pair .i64 (.pair .i64 (.pair (.pair .i64 (.pair .i64 (.pair (.pair .i64 (.pair .str (.sl 0 .i64))) .str))) (.pair (.sl 0 (.pair .i64 (.pair .i64 (.pair .i64 .i64)))) (.pair (.sl 0 (.pair .i64 (.pair .str (.sl 0 .i64)))) (.pair (.pair (.sl 0 .u8) .i64) (.sl 0 (.pair .i64 (.pair .i64 (.pair .i64 (.pair (.pair .str (.pair .i64 (.pair .str (.sl 0 .i64)))) (.pair (.pair .i64 (.pair .str (.sl 0 .i64))) (.pair (.pair .i64 (.pair .str (.sl 0 .i64))) (.pair .i64 (.pair .i64 (.pair .i64 (.pair .i64 .i64)))))))))))))))))) w.2.2.1 (Int.toNat (Int.tmod (wr (k+x12.1)) (w.2.2.1.length:Int)))).2.2.2.2.2.2.2:Int)>0) then if (w.2.2.1.length:Int)=0 then none else some ((code,p),(2,Int.tmod (wr (k+x12.1)) (w.2.2.1.length:Int),0,0,0,([],0,[],[]),(0,[],[]),(0,[],[]),0,0,0,0,0),()) else rec12 (wr (x12.1+1),x12.2.1,()) else none else bif (w.2.2.2.1.length:Int)==0 then some ((code,p),(2,k,0,0,0,([],0,[],[]),(0,[],[]),(0,[],[]),0,0,0,0,0),()) else (yt ((w.2.2.2.1.length:Int),4,())).bind λ r13=>(zN ((code,p),r13.1,())).bind λ r14=>some ((code,r14.1.2),(3,r14.2.1,0,0,0,([],0,[],[]),(0,[],[]),(0,[],[]),0,0,0,0,0),())) fuel (0,(0,0,0,0,0,([],0,[],[]),(0,[],[]),(0,[],[]),0,0,0,0,0),())) M0:=by
 have hb:=zS h.conf;have hlen:=h.len;have hl:=h.liars.1;refine Ens.loop (λ x=>(0<=x.1/\x.1<=8)) (λ x=>(9 - x.1).toNat) ?_ (by simp) (by dsimp only; rw[Zt]; omega)
 intro rec x hx ah3;have hn:¬ (w.2.2.1.length:Int)=0:=by omega
 refine Ens.cond (λ hh => ?_) λ hh=>xx code p w k hc;have hh:x.1<(w.2.2.1.length:Int):=by simpa using hh
 rw[if_neg hn,zg (n:=k+x.1) (by omega) (by omega),zg (n:=x.1+1) (by omega) (by omega)];have hno:Ens (rec (x.1+1,x.2.1,())) M0:=ah3 _ (by dsimp only; omega) (by dsimp only; omega)
 have t0:0<=Int.tmod (k+x.1) (w.2.2.1.length:Int):=Int.tmod_nonneg _ (by omega);have t1:Int.tmod (k+x.1) (w.2.2.1.length:Int)<(w.2.2.1.length:Int):=Int.tmod_lt_of_pos _ (by omega);refine Ens.ite ⟨t0,t1⟩ ?_;obtain⟨r,hr,hok,hw⟩:=E8 h t0 t1;rw[zm (e:=YB) hr];refine Ens.cond (λ _ => ?_) λ _=>hno;rw[if_neg hn];exact Ens.some (K7 _ _ _ _ _ hc.2)
theorem aa9 (c:j9) {w:zr} (hc:Zw c) (h:WI w):Ens (nY (c,w,())) M0:=by
 have hb:=zS h.conf;have hlen:=h.len;unfold nY;have aim:jP ((w.2.2.1.length:Int),1,())=some ((w.2.2.1.length:Int),()):=by
  unfold jP;have:(w.2.2.1.length:Int)>1:=by omega
  simp[this]
 dsimp only;rw[aim,aqC];refine (Zi c _ hc).bind λ r1 h1 => ?_;have a1:=h1.2.2 (by dsimp only; omega)
 dsimp only at a1;refine (Zi (c.1,r1.1.2) 20 ⟨hc.1,h1.1⟩).bind λ r2 h2 => ?_;have c2:Zw (c.1,r2.1.2):=⟨hc.1,h2.1⟩
 have hk:0<=r1.2.1/\r1.2.1<=8:=⟨h1.2.1,by omega⟩
 have A:=VW c.1 r2.1.2 w r1.2.1 c2 h hk;have S:=VX c.1 r2.1.2 w r1.2.1 c2 h hk;have G:=xx c.1 r2.1.2 w r1.2.1 c2;have L:=aaa (c.1,r2.1.2) c2 h;refine Ens.cond (λ _=>A) λ _ => ?_;refine Ens.cond (λ _=>A) λ _ => ?_;refine Ens.cond (λ _=>A) λ _ => ?_;refine Ens.cond (λ _=>S) λ _ => ?_;refine Ens.cond (λ _=>S) λ _ => ?_;refine Ens.cond (λ _=>S) λ _ => ?_;refine Ens.cond (λ _=>S) λ _ => ?_;refine Ens.cond (λ _=>Ens.some (K7 _ _ _ _ _ h2.1)) λ _ => ?_;refine Ens.cond (λ _=>Ens.some (K7 _ _ _ _ _ h2.1)) λ _ => ?_;refine Ens.cond (λ _ => ?_) λ _ => ?_
 ·refine (kE (c.1,r2.1.2) 2 c2).bind λ r3 h3 => ?_;refine Ens.cond (λ _ => ?_) λ _ => ?_
  ·exact (rj (c.1,r3.1.2) _ ⟨hc.1,h3⟩ (by simp)).bind λ r4 h4=>Ens.some (K7 _ _ _ _ _ h4.1)
  ·refine (Zi (c.1,r3.1.2) 2 ⟨hc.1,h3⟩).bind λ r4 h4 => ?_;have am7:∃ n,jP ((w.2.2.2.1.length:Int),1,())=some (n,()):=by
    unfold jP;cases decide ((w.2.2.2.1.length:Int)>1)<;>exact⟨_,rfl⟩
   obtain⟨n,am7⟩:=am7;rw[am7,aqC];exact (Zi (c.1,r4.1.2) _ ⟨hc.1,h4.1⟩).bind λ r5 h5=>Ens.some (K7 _ _ _ _ _ h5.1)
 refine Ens.cond (λ _ => ?_) λ _ => ?_
 ·refine (Be (c.1,r2.1.2) c2).bind λ r3 h3=>Ens.some ⟨h3.1,?_⟩;simp[zh,zA,zj,zp,zu]
 refine Ens.cond (λ _ => ?_) λ _ => ?_
 ·exact Ens.cond (λ _=>L.bind λ r3 h3=>Ens.some ⟨h3.1,by have:=h3.2; dsimp only; omega⟩) λ _=>G
 refine Ens.cond (λ _ => ?_) λ _ => ?_
 ·exact Ens.cond (λ _=>L.bind λ r3 h3=>Ens.some ⟨h3.1,by have:=h3.2; dsimp only; omega⟩) λ _=>G
 refine Ens.cond (λ _ => ?_) λ _=>G
 ·exact Ens.cond (λ _=>L.bind λ r3 h3=>Ens.some ⟨h3.1,by have:=h3.2; dsimp only; omega⟩) λ _=>G
theorem rW:∀ (l m:List Int),l.Nodup->(∀ x∈l,x∈m)->l.length<=m.length
 | [],_,_,_=>Nat.zero_le _
 | x::l,m,hn,hs=>by
  rw[List.nodup_cons] at hn;have hx:x∈m:=hs x (by simp);have h:=rW l (m.erase x) hn.2 λ y hy=>by
   have hne:y≠x:=by rintro rfl; exact hn.1 hy
   exact (List.mem_erase_of_ne hne).2 (hs y (by simp[hy]))
  rw[List.length_erase_of_mem hx] at h;have:=List.length_pos_of_mem hx;simp only[aqG];omega
theorem GR (n:Int):∀ (l:List Int) (p:Option Int),YT n p l=true->l.Nodup/\∀ y,p=some y->∀ x∈l,y<x
 | [],_,_=>⟨List.nodup_nil,λ _ _ x hx=>by cases hx⟩
 | z::l,p,h=>by
  simp only[YT,aqF] at h;have k:=GR n l (some z) h.2.2.2;refine⟨List.nodup_cons.2 ⟨λ hz=>by have:=k.2 z rfl z hz; omega,k.1⟩,λ y hy x hx => ?_⟩
  subst hy;have hyz:y<z:=by have:=h.2.2.1; simp at this; omega
  rcases List.mem_cons.1 hx with rfl|hx
  ·exact hyz
  ·have:=k.2 z rfl x hx; omega
theorem aeC {n:Int} {l:List Int} (h:jV n l=true):l.Nodup:=(GR n l none h).1
theorem Xy (l:z6) (v:Int) (hl:zL l<=137438953472):Mk (l,v,())=some (Zn l v,()):=by
 have hll:=bm l;unfold Mk Zn;dsimp only;refine (walk l.length (λ i (s:z6)=>(s,i,())) (λ i s=>s.length<=i) (λ i s=>some (s++(l.drop i).filter (λ p=>decide (p.1≥v)),())) (by omega) ?_ ?_ (s0:=[]) (Nat.le_refl _)).trans (by simp)
 ·intro rec s hs;simp
 ·intro rec i s hi hs;have hx:l[i]?=some l[i]:=List.getElem?_eq_getElem hi;have hw:zp l[i]<=137438953472:=KZ hl hx;right;simp only[zv hi,decide_true,cond_true,and_self,if_true,Int.toNat_natCast,zm (e:=YA) hx,Qr l[i] hw,Option.bind_some,zq (show i<4611686018427387904 by omega),fQ (λ p:zJ=>decide (p.1≥v)) hi];by_cases hq:l[i].1≥v
  ·simp only[hq,aqH,aqE,if_true];rw[if_pos (by simp only[aqG,aqJ]; omega)]
   exact⟨s++[l[i]],by simp only[aqM,aqG,aqJ]; omega,rfl,by simp⟩
  ·simp only[hq,aqL,aqD,ar3,if_false];exact⟨s,by omega,rfl,by simp⟩
theorem Xj (p:zy) (l:zZ) (hp:p.length<=137438953472) (h1:l.1.length<=137438953472) (h2:l.2.length<=137438953472):Lc (p,l,())=some (Lw p l,()):=by
 unfold Lc Lw;dsimp only;refine (walk p.length (λ i (s:zy)=>(s,i,())) (λ i s=>s.length<=i) (λ i s=>some (s++(p.drop i).filter (λ x=>(pay l x).2 != 2),())) (by omega) ?_ ?_ (s0:=[]) (Nat.le_refl _)).trans (by simp)
 ·intro rec s hs;simp
 ·intro rec i s hi hs;have hx:p[i]?=some p[i]:=List.getElem?_eq_getElem hi;right;simp only[zv hi,decide_true,cond_true,and_self,if_true,Int.toNat_natCast,zm (e:=jZ) hx,pJ l p[i] h1 h2,Option.bind_some,zq (show i<4611686018427387904 by omega),fQ (λ x:zK=>(pay l x).2 != 2) hi];cases hq:((pay l p[i]).2 != 2)
  ·simp only[aqD,ar3,if_false];exact⟨s,by omega,rfl,by simp⟩
  ·simp only[aqE,if_true];rw[if_pos (by simp only[aqG,aqJ]; omega)]
   exact⟨s++[p[i]],by simp only[aqM,aqG,aqJ]; omega,rfl,by simp⟩
theorem XM (c:za) (r:zb) (v:Int) (hw:zL r.2.2.2.2.2.1<=137438953472):∃ b,Li (c,r,v,())=some (b,()):=by
 unfold Li;dsimp only;rw[pR _ _ _ hw,aqC,pM,aqC];exact⟨_,rfl⟩
theorem eT {w:zr} (h:ji w=true):WI w:=by
 unfold ji at h;simp only[aqF,aqP,ar5] at h;obtain⟨h1,h2,h3,h4,h5,h6,h7,h8,h9⟩:=h;have hb:=zS h1;have hl:=vn h2 (by omega);refine⟨h1,⟨by omega,dI h2⟩,h4,?_,⟨by omega,?_⟩,⟨by omega,?_⟩⟩
 ·intro i hi;have k:=(bK _ _ 0).1 h7 i hi;simp only[LE,aqF,ar5,arv] at k;exact k
 ·intro x hx;obtain⟨i,hi,rfl⟩:=List.getElem_of_mem hx;have k:=(bK _ _ 0).1 h8 i hi;simp only[K0,aqF,aqP] at k;refine⟨by omega,?_⟩;have e:=aaR k.1;rw[←e];have hl:=kS w.1 (jr w.1 (w.2.2.2.1[i]).2).1;cases hm:zR w.1 (jr w.1 (w.2.2.2.1[i]).2).1
  ·unfold jx; rw[hm]; simp
  ·have:=QC hm;omega
 ·intro x hx;obtain⟨i,hi,rfl⟩:=List.getElem_of_mem hx;have k:=(bK _ _ 0).1 h9 i hi;simp only[JP,aqF,aqP,ar5] at k;exact⟨k.2,by omega⟩
theorem WI.w_le2 {w:zr} (h:WI w):yl w<=100000000:=by
 have hb:=zS h.conf;have hl:=h.len;have r1:=bf zf 260000 w.2.2.1 λ x hx=>by
  obtain⟨i,hi,rfl⟩:=List.getElem_of_mem hx;exact Ze (h.reps i hi).1
 have r2:=bf Yg 1000000 w.2.2.2.1 λ x hx=>(h.net.2 x hx).2;have r3:=bf MZ 1920 w.2.2.2.2 λ x hx=>by have:=Lo (h.said.2 x hx).1.1; simp only[MZ]; omega
 have:=h.liars.1; have:=h.net.1; have:=h.said.1
 simp only[yl,zu,JW,Yh,JX];omega
def Qv (w:zr) (d:ZA):Bool:=
 bif (d.1==3) || ((d.1==4) || (d.1==5)) then decide (d.2.1≥0) && decide (d.2.1<=(w.2.2.2.1.length:Int) - 1) else
  bif d.1==10 then decide (d.2.1≥0) && decide (d.2.1<=w.1.1 - 1) else (yB w).any (· == d.2.1)
theorem pE (w:zr):(yB w).length<=w.2.2.1.length:=by
 unfold yB;rw[arg];have:=List.length_filter_le (λ (i:Nat) => !(w.2.1.any (· == (i:Int)))) (List.range w.2.2.1.length);rw[arS] at this;exact this
theorem XL {w:zr} (h:WI w) (d:ZA):kl (w,d,())=some (Qv w d,()):=by
 have hb:=zS h.conf;have hl:=h.liars.1;have hlen:=h.len;have hn:=h.net.1;have hh:=pE w;unfold kl Qv;dsimp only;rw[zg (n:=(w.2.2.2.1.length:Int) - 1) (by omega) (by omega),zg (n:=w.1.1 - 1) (by omega) (by omega),gn w (by omega) (by omega),aqC];simp only[Yl,JB (yB w) d.2.1 (by omega),aqC];cases h3:(d.1==3)
 ·cases h4:(d.1==4)
  ·cases h5:(d.1==5)
   ·cases h10:(d.1==10)<;>rfl
   ·rfl
  ·rfl
 ·rfl
theorem xt {n:Int} {net:yQ} (h:Jo n net) (i:Nat) (hi:i<net.length):Jo n (net.take i++net.drop (i+1)):=by
 refine⟨?_,λ x hx => ?_⟩
 ·have:=h.1;simp only[aqM,aqV,ar2];omega
 ·simp only[ar0] at hx;rcases hx with hx|hx
  ·exact h.2 x (List.mem_of_mem_take hx)
  ·exact h.2 x (List.mem_of_mem_drop hx)
theorem xz (net:yQ) (i:Int) (h0:0<=i) (h1:i<(net.length:Int)):dL (net,i,i+1,())=some (net.take i.toNat++net.drop (i.toNat+1),()):=by
 unfold dL delAt;dsimp only;rw[if_pos ⟨h0,by omega,by omega⟩,show (i+1).toNat=i.toNat+1 by omega]
theorem On (c:za) (l:ym) (reps:Zf) (net:yQ) (x:M3) (said:ya):yl (c,l,reps,net++[x],said)=yl (c,l,reps,net,said)+1+Yg x:=by
 simp only[yl,Yh,arW,asK,aqM,aqZ,arn,arh,aso,aqG,aqJ];omega
theorem V4 {w x:zr} (n:Int) (hw:yl w<=1000000000) (hx:yl x<=1000000000):
  Ens (bif n==0 then (ZD (x,())).bind λ r6=>bif !r6.1 then (yS (w,())).bind λ r7=>some (r7.1,(4:Int),()) else bif n != 0 then (yS (w,())).bind λ r8=>some (r8.1,n,()) else some (x,0,())
   else bif n != 0 then (yS (w,())).bind λ r9=>some (r9.1,n,()) else some (x,0,())) λ o=>o.2.1=0->n=0/\o.1=x/\ji x=true:=by
 have hc:=Qs w (by omega);refine Ens.cond (λ hn => ?_) λ hn => ?_
 ·have h1:n=0:=by simpa using hn
  rw[ci x (WB.of (Nat.le_trans hx (by decide)) (arp _)),aqC,hc];refine Ens.cond (λ _=>Ens.some λ h4 => ?_) λ hok => ?_
  ·exact absurd h4 (show ¬ (4:Int)=0 by decide)
  have hok:ji x=true:=by simpa using hok
  refine Ens.cond (λ h => ?_) λ _=>Ens.some λ _=>⟨h1,rfl,hok⟩
  have h2:n≠0:=by simpa using h
  exact absurd h1 h2
 ·have h1:n≠0:=by simpa using hn
  refine Ens.cond (λ _ => ?_) λ h => ?_
  ·rw[hc]; exact Ens.some λ h=>absurd h h1
  ·have h2:n=0:=by simpa using h
   exact absurd h2 h1
end G448
