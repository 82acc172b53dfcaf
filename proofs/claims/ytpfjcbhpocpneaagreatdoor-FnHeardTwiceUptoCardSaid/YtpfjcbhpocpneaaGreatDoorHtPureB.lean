/- Plain laws, part 2: what the functions compute. No program in sight. -/
import Derived.Test.YtpfjcbhpocpneaaGreatDoorHtPureA
set_option linter.unusedSimpArgs false
set_option linter.unusedVariables false
namespace G448
open Ev Go
set_option maxRecDepth 100000
abbrev Ej:Ty:=.pair .i64 (.sl 0 (.pair .i64 (.pair .i64 (.pair .i64 .i64))))
def lJ:zH:=(0,[],[])
noncomputable def Zv (c:za) (p:zG):zH×Bool:=bif p.2.1==[] then (lJ,false) else bif zT c p then (p,true) else (lJ,false)
theorem UF {c:za} {q:zH} (h:zT c q=true):(q.1==0)=(q.2.1==[]):=by
 unfold zT at h;simp only[akK,alk] at h;obtain⟨_,hn,hv,_⟩:=h;by_cases h0:q.2.1=[]
 ·have:=nN.2;rw[←h0,hv] at this;rw[this,h0]; rfl
 ·have:=(Mg hn h0).1;have e1:(q.2.1==[])=false:=beq_eq_false_iff_ne.2 h0;have e2:(q.1==0)=false:=beq_eq_false_iff_ne.2 (by omega);rw[e1,e2]
theorem aaH (c:za) (p:zG) (hw:zk p<=137438953472):gY (c,p,())=some ((Zv c p).1,(Zv c p).2,()):=by
 have h1:p.2.2.length<=137438953472:=by simp only[zk,zn] at hw; omega
 have h2:zi p<=137438953472:=hw;unfold gY Zv lJ;dsimp only;rw[if_pos (by omega)];simp only[al9];rw[LD c (p.1,p.2.1,p.2.2) h2,akH];show _=some ((bif p.2.1==[] then ((0,[],[]),false) else bif zT c (p.1,p.2.1,p.2.2) then (p,true) else ((0,[],[]),false)).1,_,());cases (p.2.1==([]:List UInt8))
 ·cases zT c (p.1,p.2.1,p.2.2)<;>rfl
 ·rfl
theorem R4 (c:za) (p:zG) (hw:zk p<=1073741824):du (c,p,())=some ((Zv c p).1,(Zv c p).2,()):=by
 have h2:zi p<=1073741824:=hw;unfold du Zv lJ;dsimp only;rw[NS p (by omega),akH,NK c p h2,akH];cases h:zT c p
 ·cases (p.2.1==([]:List UInt8))<;>rfl
 ·have e:=UF h;dsimp only;rw[e];cases (p.2.1==([]:List UInt8))<;>rfl
theorem wk {c:za} {p:zG} (h:(Zv c p).2=true):(Zv c p).1=p/\zT c p=true:=by
 unfold Zv at *;cases h1:(p.2.1==([]:List UInt8))
 ·rw[h1] at h;cases h2:zT c p
  ·rw[h2] at h; cases h
  ·exact⟨rfl,rfl⟩
 ·rw[h1] at h; cases h
def N8 (a b:zH):zH:=bif decide (a.1>b.1) then a else b
theorem aaK (a b:zH) (ha:zi a<=137438953472) (hb:zi b<=137438953472):g9 (a,b,())=some (N8 a b,()):=by
 unfold g9 N8;dsimp only;rw[MW a ha,MW b hb];cases decide (a.1>b.1)<;>rfl
theorem R7 (a b:zH) (ha:zi a<=137438953472) (hb:zi b<=137438953472):dz (a,b,())=some (N8 a b,()):=by
 unfold dz N8;dsimp only;rw[NS a ha,NS b hb];cases decide (a.1>b.1)<;>rfl
theorem M5 (s:List UInt8):(ZE s).length<=s.length:=by
 unfold ZE;split
 ·split
  ·rw[al0]; omega
  ·simp
 ·simp
noncomputable def jj (l:List ZW) (k:Int):Int:=(rd Ej l (Int.toNat (wr ((l.length:Int) - k)))).1
noncomputable def jR (s:List UInt8):List UInt8×Bool:=
 bif decide (((steps s).1.length:Int)<3) then ([],false) else
 bif jj (steps s).1 1 != wr (jj (steps s).1 2+1) then ([],false) else
 bif jj (steps s).1 2 != wr (jj (steps s).1 3+1) then ([],false) else (ZE (ZE s),true)
theorem Ll {l:List ZW} (h:¬ ((l.length:Int)<3)) (h2:l.length<=30) (k:Int) (hk:1<=k/\k<=3):0<=wr ((l.length:Int) - k)/\wr ((l.length:Int) - k)<(l.length:Int):=by
 rw[zh (by omega) (by omega)];omega
theorem aaR (s:List UInt8) (hs:s.length<=137438953472):kj (s,())=some ((jR s).1,(jR s).2,()):=by
 have hu:=M5 s;obtain⟨p1,p2⟩:=qY s;unfold kj jR;dsimp only;rw[km s hs,akH];cases h:(steps s).2
 ·rw[p1 h]; rfl
 ·dsimp only;by_cases h3:((steps s).1.length:Int)<3
  ·simp only[h3,akP,akJ,akO,akI]
  ·simp only[h3,akQ,akI,akO];rw[if_pos (Ll h3 p2 1 (by decide)),if_pos (Ll h3 p2 2 (by decide)),if_pos (Ll h3 p2 2 (by decide)),if_pos (Ll h3 p2 3 (by decide)),bT s hs,akH,bT (ZE s) (by omega),akH];show (bif jj (steps s).1 1 != wr (jj (steps s).1 2+1) then _ else bif jj (steps s).1 2 != wr (jj (steps s).1 3+1) then _ else _)=_;cases (jj (steps s).1 1 != wr (jj (steps s).1 2+1))<;>cases (jj (steps s).1 2 != wr (jj (steps s).1 3+1))<;>rfl
theorem Sc (s:List UInt8) (hs:s.length<=1073741824):dG (s,())=some ((jR s).1,(jR s).2,()):=by
 have hu:=M5 s;obtain⟨p1,p2⟩:=qY s;unfold dG jR;dsimp only;rw[mP s hs,akH];dsimp only;by_cases h3:((steps s).1.length:Int)<3
 ·simp only[h3,akP,akJ]
 ·simp only[h3,akQ,akI];rw[if_pos (Ll h3 p2 1 (by decide)),if_pos (Ll h3 p2 2 (by decide)),if_pos (Ll h3 p2 2 (by decide)),if_pos (Ll h3 p2 3 (by decide)),dM s hs,akH,dM (ZE s) (by omega),akH];show (bif jj (steps s).1 1 != wr (jj (steps s).1 2+1) then _ else bif jj (steps s).1 2 != wr (jj (steps s).1 3+1) then _ else _)=_;cases (jj (steps s).1 1 != wr (jj (steps s).1 2+1))<;>cases (jj (steps s).1 2 != wr (jj (steps s).1 3+1))<;>rfl
theorem rK (s:List UInt8):(jR s).1.length<=s.length:=by
 have h1:=M5 s;have h2:=M5 (ZE s);unfold jR;cases decide (((steps s).1.length:Int)<3)
 ·cases (jj (steps s).1 1 != wr (jj (steps s).1 2+1))
  ·cases (jj (steps s).1 2 != wr (jj (steps s).1 3+1))
   ·simp only[akI]; omega
   ·simp
  ·simp
 ·simp
noncomputable def La (a b:List UInt8):Bool:=
 zC a && (zC b && (!decide ((b.length:Int)>(a.length:Int)) && (a.take b.length==b && ((a.length:Int)==(b.length:Int) || a.getD b.length 0==UInt8.ofNat (Int.toNat 47)))))
theorem aas (a b:List UInt8) (ha:a.length<=137438953472) (hb:b.length<=137438953472):gN (a,b,())=some (La a b,()):=by
 unfold gN La;dsimp only;rw[KJ a ha,akH,KJ b hb,akH];cases zC a
 ·rfl
 cases zC b
 ·rfl
 by_cases hl:(b.length:Int)>(a.length:Int)
 ·simp only[hl,akP,akJ,akO,akI,alj,alC,akZ]
 ·simp only[hl,akQ,akI,akO,al2,akZ];rw[if_pos (by omega)];simp only[akT,show Int.toNat 0=0 from rfl,alY,al8,bne];cases a.take b.length==b
  ·rfl
  ·simp only[akO,akI,akZ];cases he:((a.length:Int)==(b.length:Int))
   ·have:(a.length:Int)≠(b.length:Int):=by simpa using he
    simp only[akI,ame];rw[if_pos (by omega)]
   ·rfl
theorem RW (a b:List UInt8) (ha:a.length<=1073741824) (hb:b.length<=1073741824):dj (a,b,())=some (La a b,()):=by
 unfold dj La su mS;dsimp only;rw[L5 a ha,akH,L5 b hb,akH];cases zC a
 ·rfl
 cases zC b
 ·rfl
 by_cases hl:(b.length:Int)>(a.length:Int)
 ·have:¬ ((a.length:Int)≥(b.length:Int)):=by omega
  simp only[hl,this,akP,akQ,akJ,akO,akI,alj,alC,akZ,akH]
 ·have:(a.length:Int)≥(b.length:Int):=by omega
  simp only[hl,this,akP,akQ,akJ,akI,akO,al2,akZ];rw[if_pos (show (0:Int)<=0/\(0:Int)<=(b.length:Int)/\True from⟨by omega,by omega,trivial⟩)];simp only[akT,show Int.toNat 0=0 from rfl,alY,al8,akH];cases a.take b.length==b
  ·rfl
  ·simp only[akJ,akZ];cases he:((a.length:Int)==(b.length:Int))
   ·have:(a.length:Int)≠(b.length:Int):=by simpa using he
    simp only[akI,ame];rw[if_pos (by omega)]
   ·rfl
noncomputable def see (c:za) (s:zB) (q:zH):zB:=
 bif !zX c s then s else bif !zT c q then s else (s.1,max s.2.1 (zg (ZE q.2.1)),N8 q s.2.2.1,bif (jR q.2.1).2 && La (jR q.2.1).1 s.2.2.2 then (jR q.2.1).1 else s.2.2.2)
theorem vZ (a b:Int):mx a b=max a b:=by rw[eI]; omega
theorem kg (c:za) (s:zB) (q:zH) (hs:zu s<=10000000000) (hq:zi q<=10000000000):MM (c,s,q,())=some (see c s q,()):=by
 have h1:q.2.1.length<=10000000000:=by simp only[zi] at hq; omega
 have h2:=M5 q.2.1;have h3:=rK q.2.1;have h4:zi s.2.2.1<=10000000000/\s.2.2.2.length<=10000000000:=by simp only[zu] at hs; omega
 unfold MM see;dsimp only;rw[kv s (by omega),akH,qE c s (by omega),akH,LD c q (by omega),akH,aaK q s.2.2.1 (by omega) (by omega),akH,bT q.2.1 (by omega),akH,Y5 (ZE q.2.1) (by omega),akH,MY,akH,
  aaR q.2.1 (by omega),akH,aas (jR q.2.1).1 s.2.2.2 (by omega) (by omega),akH]
 cases zX c s
 ·rfl
 cases zT c q
 ·rfl
 cases (jR q.2.1).2
 ·rfl
 cases La (jR q.2.1).1 s.2.2.2<;>rfl
theorem uL (c:za) (s:zB) (q:zH) (hs:zu s<=1073741824) (hq:zi q<=1073741824):QJ (c,s,q,())=some (see c s q,()):=by
 have h1:q.2.1.length<=1073741824:=by simp only[zi] at hq; omega
 have h2:=M5 q.2.1;have h3:=rK q.2.1;have h4:zi s.2.2.1<=1073741824/\s.2.2.2.length<=1073741824:=by simp only[zu] at hs; omega
 unfold QJ see;dsimp only;rw[dU s (by omega),akH,dD c s (by omega),akH,NK c q (by omega),akH,R7 q s.2.2.1 (by omega) (by omega),akH,dM q.2.1 (by omega),akH,L9 (ZE q.2.1) (by omega),akH,
  Sc q.2.1 (by omega),akH,RW (jR q.2.1).1 s.2.2.2 (by omega) (by omega),akH]
 simp only[vZ];cases zX c s
 ·rfl
 cases zT c q
 ·rfl
 cases (jR q.2.1).2
 ·rfl
 cases La (jR q.2.1).1 s.2.2.2<;>rfl
theorem MA (c:za) (s:zB) (q:zH):zu (see c s q)<=zu s+2*zi q:=by
 have h3:=rK q.2.1;unfold see N8;cases zX c s
 ·simp only[al2,akJ]; omega
 cases zT c q
 ·simp only[al2,akJ,akO,akI]; omega
 simp only[akO,akI,zu];have h5:q.2.1.length<=zi q:=by simp only[zi]; omega
 cases decide (q.1>s.2.2.1.1)<;>cases ((jR q.2.1).2 && La (jR q.2.1).1 s.2.2.2)<;>simp only[akJ,akI]<;>omega
noncomputable def seat (c:za) (v i:Int):Int:=bif zz c && (!decide (v<0) && (decide (i≥0) && decide (i<=c.1 - 1))) then (i+c.1 - v % c.1) % c.1 else -1
noncomputable def sits (c:za) (v p:Int):Int:=bif zz c && (!decide (v<0) && (decide (p≥0) && decide (p<=c.1 - 1))) then (v % c.1+p) % c.1 else -1
theorem LM {a n:Int} (h:0<=a):Int.tmod a n=a % n:=Int.tmod_eq_emod_of_nonneg h
theorem bL (c:za) (v i:Int):qF (c,v,i,())=some (seat c v i,()):=by
 unfold qF seat;dsimp only;rw[Yq,akH];cases h:zz c
 ·rfl
 obtain⟨h1,h2⟩:=yb h;have e1:wr (c.1 - 1)=c.1 - 1:=zh (by omega) (by omega);by_cases hv:v<0
 ·simp only[hv,akP,akJ,akO,akI,alj,alC,akZ]
 simp only[hv,akQ,akI,akO,al2,akZ,kO,akH,e1];by_cases hi:i≥0/\i<=c.1 - 1
 ·have a1:0<=v % c.1:=Int.emod_nonneg _ (by omega);have a2:v % c.1<c.1:=Int.emod_lt_of_pos _ (by omega);simp only[hi.1,hi.2,akP,alv,akO,akI,akJ];rw[if_neg (by omega),if_neg (by omega),LM (show 0<=v by omega),zh (show -9223372036854775808<=i+c.1 by omega) (by omega),zh (by omega) (by omega),LM (by omega)]
 ·have:(decide (i≥0) && decide (i<=c.1 - 1))=false:=by
   rw[amD]; intro h; simp only[akK,akV] at h; exact hi h
  simp only[this,al2,akJ,akI]
theorem NM (c:za) (v i:Int):NL (c,v,i,())=some (seat c v i,()):=by
 unfold NL seat;dsimp only;rw[Lg,akH];cases h:zz c
 ·rfl
 obtain⟨h1,h2⟩:=yb h;have e1:wr (c.1 - 1)=c.1 - 1:=zh (by omega) (by omega);by_cases hv:v<0
 ·simp only[hv,akP,akJ,akO,akI,alj,alC,akZ]
 simp only[hv,akQ,akI,akO,al2,akZ,uX,akH,e1];by_cases hi:i≥0/\i<=c.1 - 1
 ·have a1:0<=v % c.1:=Int.emod_nonneg _ (by omega);have a2:v % c.1<c.1:=Int.emod_lt_of_pos _ (by omega);simp only[hi.1,hi.2,akP,alv,akO,akI,akJ];rw[if_neg (by omega),if_neg (by omega),LM (show 0<=v by omega),zh (show -9223372036854775808<=i - v % c.1 by omega) (by omega),zh (by omega) (by omega),LM (by omega),show i - v % c.1+c.1=i+c.1 - v % c.1 by omega]
 ·have:(decide (i≥0) && decide (i<=c.1 - 1))=false:=by
   rw[amD]; intro h; simp only[akK,akV] at h; exact hi h
  simp only[this,al2,akJ,akI]
theorem aaS (c:za) (v p:Int):kl (c,v,p,())=some (sits c v p,()):=by
 unfold kl sits;dsimp only;rw[Yq,akH];cases h:zz c
 ·rfl
 obtain⟨h1,h2⟩:=yb h;have e1:wr (c.1 - 1)=c.1 - 1:=zh (by omega) (by omega);by_cases hv:v<0
 ·simp only[hv,akP,akJ,akO,akI,alj,alC,akZ]
 simp only[hv,akQ,akI,akO,al2,akZ,kO,akH,e1];by_cases hi:p≥0/\p<=c.1 - 1
 ·have a1:0<=v % c.1:=Int.emod_nonneg _ (by omega);have a2:v % c.1<c.1:=Int.emod_lt_of_pos _ (by omega);simp only[hi.1,hi.2,akP,alv,akO,akI,akJ];rw[if_neg (by omega),if_neg (by omega),LM (show 0<=v by omega),zh (by omega) (by omega),LM (by omega)]
 ·have:(decide (p≥0) && decide (p<=c.1 - 1))=false:=by
   rw[amD]; intro h; simp only[akK,akV] at h; exact hi h
  simp only[this,al2,akJ,akI]
theorem Se (c:za) (v p:Int):dH (c,v,p,())=some (sits c v p,()):=by
 unfold dH sits;dsimp only;rw[Lg,akH];cases h:zz c
 ·rfl
 obtain⟨h1,h2⟩:=yb h;have e1:wr (c.1 - 1)=c.1 - 1:=zh (by omega) (by omega);by_cases hv:v<0
 ·simp only[hv,akP,akJ,akO,akI,alj,alC,akZ]
 simp only[hv,akQ,akI,akO,al2,akZ,uX,akH,e1];by_cases hi:p≥0/\p<=c.1 - 1
 ·have a1:0<=v % c.1:=Int.emod_nonneg _ (by omega);have a2:v % c.1<c.1:=Int.emod_lt_of_pos _ (by omega);simp only[hi.1,hi.2,akP,alv,akO,akI,akJ];rw[if_neg (by omega),if_neg (by omega),LM (show 0<=v by omega),zh (by omega) (by omega),LM (by omega)]
 ·have:(decide (p≥0) && decide (p<=c.1 - 1))=false:=by
   rw[amD]; intro h; simp only[akK,akV] at h; exact hi h
  simp only[this,al2,akJ,akI]
theorem KE {c:za} {v i:Int} (h:0<=seat c v i):zz c=true/\0<=v/\0<=i/\i<=c.1 - 1/\seat c v i=(i+c.1 - v % c.1) % c.1:=by
 unfold seat at *;cases hc:(zz c && (!decide (v<0) && (decide (i≥0) && decide (i<=c.1 - 1))))
 ·rw[hc] at h; simp only[akI] at h; omega
 ·simp only[akK,ale,alX,akV] at hc;exact⟨hc.1,by omega,hc.2.2.1,hc.2.2.2,rfl⟩
noncomputable def up (c:za) (v i:Int):Int:=bif decide (seat c v i<=0) then -1 else sits c v ((seat c v i - 1) / c.2)
theorem rB {c:za} {v i:Int} (h:0<=seat c v i):seat c v i<c.1:=by
 obtain⟨h1,_,_,_,h5⟩:=KE h;have:=yb h1;rw[h5];exact Int.emod_lt_of_pos _ (by omega)
theorem sF {c:za} {v i:Int} (h:¬ seat c v i<=0):wr (Int.tdiv (wr (seat c v i - 1)) c.2)=(seat c v i - 1) / c.2/\¬ c.2=0/\0<=(seat c v i - 1) / c.2/\(seat c v i - 1) / c.2<=seat c v i - 1:=by
 obtain⟨h1,_⟩:=KE (c:=c) (v:=v) (i:=i) (by omega);have hlt:=rB (c:=c) (v:=v) (i:=i) (by omega);obtain⟨c1,c2⟩:=yb h1;have hf:1<=c.2/\c.2<=6:=by
  unfold zz at h1;simp only[akK,akV] at h1;exact h1.2
 have hd0:0<=(seat c v i - 1) / c.2:=Int.ediv_nonneg (by omega) (by omega);have hd1:(seat c v i - 1) / c.2<=seat c v i - 1:=Int.ediv_le_self _ (by omega);refine⟨?_,by omega,hd0,hd1⟩;rw[zh (show -9223372036854775808<=seat c v i - 1 by omega) (by omega),amT (by omega),zh (by omega) (by omega)]
theorem Di (c:za) (v i:Int):qL (c,v,i,())=some (up c v i,()):=by
 unfold qL up;dsimp only;rw[bL,akH];by_cases h:seat c v i<=0
 ·simp only[h,akP,akJ]
 ·obtain⟨e1,e2,_⟩:=sF h;simp only[h,akQ,akI,e1];rw[if_neg e2,aaS,akH]
theorem uR (c:za) (v i:Int):NR (c,v,i,())=some (up c v i,()):=by
 unfold NR up;dsimp only;rw[NM,akH];by_cases h:seat c v i<=0
 ·have h':seat c v i<1:=by omega
  simp only[h,h',akP,akJ]
 ·have h':¬ seat c v i<1:=by omega
  obtain⟨e1,e2,_⟩:=sF h;simp only[h,h',akQ,akI,e1];rw[if_neg e2,Se,akH]
theorem UP {n a p:Int} (hn:4<=n/\n<=7) (ha:0<=a/\a<n) (hp:0<=p/\p<n):((a+p) % n+n - a) % n=p:=by
 have h:n=4∨n=5∨n=6∨n=7:=by omega
 rcases h with rfl|rfl|rfl|rfl<;>omega
theorem rC {c:za} {v i:Int} (h:0<=seat c v i):seat c v (up c v i)<seat c v i /\ -1<=seat c v (up c v i):=by
 obtain⟨h1,h2,h3,h4,h5⟩:=KE h;have hlt:=rB h;obtain⟨c1,c2⟩:=yb h1;by_cases h0:seat c v i<=0
 ·have e:up c v i = -1:=by unfold up; simp only[h0,akP,akJ]
  rw[e];have e2:seat c v (-1) = -1:=by unfold seat; simp
  rw[e2]; omega
 ·obtain⟨_,_,d0,d1⟩:=sF h0;obtain⟨p,hp⟩:∃ p,p=(seat c v i - 1) / c.2:=⟨_,rfl⟩
  rw[←hp] at d0 d1;have a1:0<=v % c.1:=Int.emod_nonneg _ (by omega);have a2:v % c.1<c.1:=Int.emod_lt_of_pos _ (by omega);have e:up c v i=(v % c.1+p) % c.1:=by
   unfold up sits;have k1:decide (v<0)=false:=decide_eq_false (by omega);have k2:decide (p≥0)=true:=decide_eq_true (by omega);have k3:decide (p<=c.1 - 1)=true:=decide_eq_true (by omega);simp only[h0,akQ,akI,←hp,h1,k1,k2,k3,al2,alv,akJ]
  have b1:0<=(v % c.1+p) % c.1:=Int.emod_nonneg _ (by omega);have b2:(v % c.1+p) % c.1<c.1:=Int.emod_lt_of_pos _ (by omega);have e2:seat c v (up c v i)=((v % c.1+p) % c.1+c.1 - v % c.1) % c.1:=by
   rw[e];have k1:decide (v<0)=false:=decide_eq_false (by omega);have k2:decide ((v % c.1+p) % c.1≥0)=true:=decide_eq_true (by omega);have k3:decide ((v % c.1+p) % c.1<=c.1 - 1)=true:=decide_eq_true (by omega);unfold seat;simp only[h1,k1,k2,k3,al2,alv,akJ]
  have e3:((v % c.1+p) % c.1+c.1 - v % c.1) % c.1=p:=UP ⟨c1,c2⟩ ⟨a1,a2⟩ ⟨d0,by omega⟩;rw[e2,e3];omega
noncomputable def Jz (c:za) (v:Int):Nat->Int->List Int
 | 0,_=>[]
 | k+1,x=>bif decide (seat c v x≥0) then x::Jz c v k (up c v x) else []
noncomputable def jg (c:za) (v x:Int):Nat:=(seat c v x+1).toNat
noncomputable def way (c:za) (v x:Int):List Int:=Jz c v (jg c v x) x
theorem sL (c:za) (v:Int):∀ (k:Nat) (x:Int),jg c v x<=k->Jz c v k x=way c v x
 | 0,x,h=>by
  unfold way;have:jg c v x=0:=by omega
  rw[this]
 | k+1,x,h=>by
  unfold way;by_cases hs:seat c v x≥0
  ·have hm:jg c v x=(seat c v x).toNat+1:=by unfold jg; omega
   obtain⟨u1,u2⟩:=rC hs;have hu:jg c v (up c v x)<=(seat c v x).toNat:=by unfold jg; omega
   rw[hm];simp only[Jz,hs,akP,akJ];rw[sL c v k _ (by omega),sL c v _ _ hu]
  ·have hm:jg c v x=0:=by unfold jg; omega
   rw[hm];simp only[Jz,hs,akQ,akI]
theorem abK {c:za} {v x:Int} (h:seat c v x≥0):way c v x=x::way c v (up c v x):=by
 obtain⟨u1,u2⟩:=rC h;have hm:jg c v x=(seat c v x).toNat+1:=by unfold jg; omega
 have hu:jg c v (up c v x)<=(seat c v x).toNat:=by unfold jg; omega
 show Jz c v (jg c v x) x=_;rw[hm];simp only[Jz,h,akP,akJ];rw[sL c v _ _ hu]
theorem abL {c:za} {v x:Int} (h:¬ seat c v x≥0):way c v x=[]:=by
 have hm:jg c v x=0:=by unfold jg; omega
 show Jz c v (jg c v x) x=_;rw[hm]; rfl
theorem D5 (c:za) (v:Int):∀ (k:Nat) (x:Int),(Jz c v k x).length<=k
 | 0,x=>by simp[Jz]
 | k+1,x=>by
  simp only[Jz];cases decide (seat c v x≥0)
  ·simp
  ·have:=D5 c v k (up c v x);simp only[akJ,akN]; omega
theorem sK (c:za) (v x:Int):jg c v x<=7:=by
 unfold jg;by_cases h:0<=seat c v x
 ·have h1:=rB h;have:=yb (KE h).1;omega
 ·omega
theorem D6 (c:za) (v x:Int):(way c v x).length<=7:=Nat.le_trans (D5 c v _ x) (sK c v x)
theorem D7 (c:za) (v x:Int) {G:(Int×List Int×Unit->Option (List Int×Unit))->Int×List Int×Unit->Option (List Int×Unit)}
  (hon:∀ rec y out,seat c v y≥0->out.length<=7->G rec (y,out,())=rec (up c v y,out++[y],())) (aeE:∀ rec y out,¬ seat c v y≥0->G rec (y,out,())=some (out,())):
  iter G fuel (x,[],())=some (way c v x,()):=by
 refine (QW (λ y:Int×List Int×Unit=>some (y.2.1++way c v y.1,())) (λ y=>jg c v y.1) (λ y=>y.2.1.length+jg c v y.1<=7) ?_ fuel (x,[],()) (by simp only[akM]; have:=sK c v x; omega)
  (by show jg c v x<fuel; have:=sK c v x; have:=YG (n:=7) (by decide); omega)).trans (by simp)
 rintro rec ⟨y,out,⟨⟩⟩ hI abX;simp only at hI ⊢;by_cases h:seat c v y≥0
 ·obtain⟨u1,u2⟩:=rC h;have hm:jg c v (up c v y)<jg c v y:=by unfold jg; omega
  rw[hon rec y out h (by omega),abX (up c v y,out++[y],()) (by simp only[akR,akN,akM]; omega) hm,abK h]
  simp
 ·rw[aeE rec y out h,abL h]; simp
theorem ab2 (c:za) (v x:Int):ks (c,v,x,())=some (way c v x,()):=by
 unfold ks;refine D7 c v x ?_ ?_
 ·intro rec y out h hl;simp only[bL,akH,h,akP,akJ,Di];rw[if_pos (by simp only[akN,akM]; omega)]
 ·intro rec y out h;simp only[bL,akH,h,akQ,akI]
theorem Sm (c:za) (v x:Int):dO (c,v,x,())=some (way c v x,()):=by
 unfold dO;refine D7 c v x ?_ ?_
 ·intro rec y out h hl;simp only[NM,akH,h,akP,akJ,uR];rw[if_pos (by simp only[akN,akM]; omega)]
 ·intro rec y out h;simp only[NM,akH,h,akQ,akI]
noncomputable def M4 (c:za) (v i:Int):Nat->Nat->List Int->List Int
 | 0,_,out=>out
 | k+1,j,out=>M4 c v i k (j+1) (bif (way c v (j:Int)).any (· == i) then out++[(j:Int)] else out)
noncomputable def under (c:za) (v i:Int):List Int:=bif decide (seat c v i≥0) then M4 c v i c.1.toNat 0 [] else []
theorem DS (c:za) (v i:Int):∀ (k j:Nat) (out:List Int),(M4 c v i k j out).length<=out.length+k
 | 0,_,out=>by simp[M4]
 | k+1,j,out=>by
  simp only[M4];have:=DS c v i k (j+1) (bif (way c v (j:Int)).any (· == i) then out++[(j:Int)] else out);cases h:(way c v (j:Int)).any (· == i)
  ·rw[h] at this; simp only[akI] at this ⊢; omega
  ·rw[h] at this; simp only[akJ,akR,akN,akM] at this ⊢; omega
theorem DT (c:za) (v i:Int):(under c v i).length<=7:=by
 unfold under;by_cases h:seat c v i≥0
 ·have h1:=yb (KE h).1;have:=DS c v i c.1.toNat 0 [];simp only[h,akP,akJ,akM] at this ⊢;omega
 ·simp only[h,akQ,akI,akM]; omega
theorem DU (c:za) (v i:Int) (hs:seat c v i≥0) {G:(List Int×Int×Unit->Option (List Int×Unit))->List Int×Int×Unit->Option (List Int×Unit)}
  (hon:∀ (rec:List Int×Int×Unit->Option (List Int×Unit)) (j:Nat) out,(j:Int)<c.1->out.length<=7->G rec (out,(j:Int),())=rec ((bif (way c v (j:Int)).any (· == i) then out++[(j:Int)] else out),(j:Int)+1,()))
  (aeE:∀ (rec:List Int×Int×Unit->Option (List Int×Unit)) out,G rec (out,c.1,())=some (out,())):
  iter G fuel ([],0,())=some (under c v i,()):=by
 obtain⟨c1,c2⟩:=yb (KE hs).1;obtain⟨n,hn⟩:∃ n:Nat,c.1=(n:Int):=⟨c.1.toNat,by omega⟩
 have e:under c v i=M4 c v i n 0 []:=by
  unfold under;simp only[hs,akP,akJ,hn,akT]
 rw[e];refine (walk n (λ j (out:List Int)=>(out,j,())) (λ j out=>out.length<=j) (λ j out=>some (M4 c v i (n - j) j out,())) (by omega) ?_ ?_ (s0:=[]) (by simp)).trans (by simp)
 ·intro rec out _;have:=aeE rec out;rw[hn] at this;rw[this,Nat.sub_self];rfl
 ·intro rec j out hj hI;refine .inr ⟨_,?_,hon rec j out (by omega) (by omega),?_⟩
  ·cases (way c v (j:Int)).any (· == i)
   ·simp only[akI]; omega
   ·simp only[akJ,akR,akN,akM]; omega
  ·rw[show n - j=(n - (j+1))+1 by omega]; rfl
theorem ab1 (c:za) (v i:Int):kr (c,v,i,())=some (under c v i,()):=by
 unfold kr;dsimp only;rw[Yq,akH];by_cases hs:seat c v i≥0
 ·rw[(KE hs).1];simp only[akO,akI];obtain⟨c1,c2⟩:=yb (KE hs).1;refine DU c v i hs ?_ ?_
  ·intro rec j out hj hl;have hw:=D6 c v (j:Int);simp only[hj,akP,akJ,bL,akH,hs,ab2,Yr _ i (show (way c v (j:Int)).length<=1152921504606846976 by omega),zq (show j<4611686018427387904 by omega)];cases (way c v (j:Int)).any (· == i)
   ·rfl
   ·simp only[akJ];rw[if_pos (by simp only[akN,akM]; omega)]
  ·intro rec out;simp only[ala,akQ,akI]
 ·have e:under c v i=[]:=by unfold under; simp only[hs,akQ,akI]
  rw[e];cases h:zz c
  ·rfl
  ·simp only[akO,akI];obtain⟨c1,c2⟩:=yb h;obtain⟨m,hm⟩:∃ m,fuel=m+1:=⟨fuel - 1,by have:=YG (n:=7) (by decide); omega⟩
   rw[hm];simp only[iter,show (0:Int)<c.1 by omega,akP,akJ,bL,akH,hs,akQ,akI]
theorem Sk (c:za) (v i:Int):dL (c,v,i,())=some (under c v i,()):=by
 unfold dL;by_cases hs:seat c v i≥0
 ·obtain⟨c1,c2⟩:=yb (KE hs).1;refine DU c v i hs ?_ ?_
  ·intro rec j out hj hl;have hw:=D6 c v (j:Int);simp only[hj,akP,akJ,NM,akH,hs,Sm,mO _ i (show (way c v (j:Int)).length<=1152921504606846976 by omega),zq (show j<4611686018427387904 by omega)];cases (way c v (j:Int)).any (· == i)
   ·rfl
   ·simp only[akJ];rw[if_pos (by simp only[akN,akM]; omega)]
  ·intro rec out;simp only[NM,akH,hs,akP,akJ,ala,akQ,akI]
 ·have e:under c v i=[]:=by unfold under; simp only[hs,akQ,akI]
  rw[e];obtain⟨m,hm⟩:∃ m,fuel=m+1:=⟨fuel - 1,by have:=YG (n:=7) (by decide); omega⟩
  rw[hm];simp only[iter,NM,akH,hs,akQ,akI]
def YD (a b:List Int):Nat:=a.countP λ x=>b.any (· == x)
theorem tM (a b:List Int) (ha:a.length<=1152921504606846976) {G:(Int×Int×Unit->Option (Int×Unit))->Int×Int×Unit->Option (Int×Unit)}
  (hon:∀ (rec:Int×Int×Unit->Option (Int×Unit)) (j k:Nat) (h:j<a.length),k<=j->G rec ((k:Int),(j:Int),())=rec (((k+(if b.any (· == a[j]) then 1 else 0):Nat):Int),(j:Int)+1,()))
  (aeE:∀ (rec:Int×Int×Unit->Option (Int×Unit)) (k:Nat),G rec ((k:Int),(a.length:Int),())=some ((k:Int),())):
  iter G fuel (0,0,())=some ((YD a b:Int),()):=by
 refine (walk a.length (λ j (k:Nat)=>((k:Int),j,())) (λ j k=>k<=j) (λ j k=>some (((k+YD (a.drop j) b:Nat):Int),())) (by omega) ?_ ?_ (s0:=0) (Nat.le_refl _)).trans (by simp)
 ·intro rec k _;rw[aeE rec k,alh];simp[YD]
 ·intro rec j k hj hI;refine .inr ⟨k+(if b.any (· == a[j]) then 1 else 0),by split<;>omega,hon rec j k hj hI,?_⟩
  rw[al1 hj];simp only[YD,List.countP_cons];congr 3;omega
theorem aar (a b:List Int) (ha:a.length<=1073741824) (hb:b.length<=1073741824):gK (a,b,())=some ((YD a b:Int),()):=by
 unfold gK;refine tM a b (by omega) ?_ ?_
 ·intro rec j k hj hk;have hx:a[j]?=some a[j]:=List.getElem?_eq_getElem hj;simp only[zw hj,decide_true,cond_true,and_self,if_true,Int.toNat_natCast,zt (e:=.i64) hx,Yr b a[j] (by omega),Option.bind_some,zq (show j<4611686018427387904 by omega),sb];cases b.any (· == a[j])
  ·simp only[akI,akH,Int.add_zero,al6,if_false,alJ];rw[zh (by omega) (by omega)]
  ·simp only[akJ,akH,if_true];rw[zq (show k<4611686018427387904 by omega)];rfl
 ·intro rec k;simp only[ala,akQ,akI]
theorem RU (a b:List Int) (ha:a.length<=1073741824) (hb:b.length<=1073741824):di (a,b,())=some ((YD a b:Int),()):=by
 unfold di;refine tM a b (by omega) ?_ ?_
 ·intro rec j k hj hk;have hx:a[j]?=some a[j]:=List.getElem?_eq_getElem hj;simp only[zw hj,decide_true,cond_true,and_self,if_true,Int.toNat_natCast,zt (e:=.i64) hx,mO b a[j] (by omega),Option.bind_some,zq (show j<4611686018427387904 by omega)];cases b.any (· == a[j])
  ·simp only[akI,al6,if_false,alJ]
  ·simp only[akJ,if_true];rw[zq (show k<4611686018427387904 by omega)];rfl
 ·intro rec k;simp only[ala,akQ,akI]
def zJ (r:zb) (v:Int):zb:=(r.1,v,r.2.2)
theorem dZ {c:za} {r:zb} {v:Int} (h:zf c r=true) (hv:1<=v/\v<=60):zf c (zJ r v)=true:=by
 obtain⟨a,v0,k,sf,pool,tab,dk,held⟩:=r;show zf c (a,v,k,sf,pool,tab,dk,held)=true;unfold zf at h ⊢;simp only[akK,akV] at h ⊢;exact⟨h.1,h.2.1,hv,h.2.2.2⟩
noncomputable def top (c:za) (r:zb) (q:zH):zb×Bool:=
 bif !(zm c r (see c r.2.2.2.1 q)).2 then (r,false) else
 bif decide (q.1+1>60) then ((zm c r (see c r.2.2.2.1 q)).1,true) else
 bif yr c (q.1+1)==r.1 then (zJ (zm c r (see c r.2.2.2.1 q)).1 (max (zm c r (see c r.2.2.2.1 q)).1.2.1 (q.1+1)),true) else
 jk c (zJ (zm c r (see c r.2.2.2.1 q)).1 (max (zm c r (see c r.2.2.2.1 q)).1.2.1 (q.1+1))) (yr c (q.1+1)) (3,q.1+1,([],0,[],[]),(0,[],[]),q,r.1,0,0,0,0)
theorem cv {c:za} {r:zb} {s:zB} (hr:zf c r=true) (h:(zm c r s).2=true):zf c (zm c r s).1=true/\(zm c r s).1.1=r.1/\(zm c r s).1.2.1=r.2.1:=by
 unfold zm at *;cases h1:jW r.2.2.2.1 s
 ·rw[h1] at h;cases h2:(yW r.2.2.2.2.2.2.1 (y8 c s)).2
  ·rw[h2] at h; cases h
  ·cases h3:zX c s
   ·rw[h2,h3] at h; cases h
   ·simp only[akI,alv,akJ];exact⟨by rw[D9 hr (tj h2),h3],rfl,rfl⟩
 ·exact⟨hr,rfl,rfl⟩
theorem A9 {c:za} {q:zH} (h:zT c q=true):0<=q.1/\q.1<=60:=by
 unfold zT at h;simp only[akK,alk] at h;obtain⟨_,hn,hv,_⟩:=h;by_cases h0:q.2.1=[]
 ·have:=nN.2;rw[←h0,hv] at this;omega
 ·have:=Mg hn h0;omega
theorem nI (q:zH) (v me:Int):zj (3,v,([],0,[],[]),(0,[],[]),q,me,0,0,0,0)=zi q:=by
 simp[zj,zp,zk,zi,zn]
theorem abG (c:za) (r:zb) (s:zB):ze (zm c r s).1<=ze r+zu s+(r.2.2.2.2.2.2.1.1.length+(y8 c s).length):=by
 unfold zm;cases jW r.2.2.2.1 s
 ·cases h2:((yW r.2.2.2.2.2.2.1 (y8 c s)).2 && zX c s)
  ·simp only[akI]; omega
  ·simp only[akI,akJ];have:=Ea r s (yW r.2.2.2.2.2.2.1 (y8 c s)).1;have h3:(yW r.2.2.2.2.2.2.1 (y8 c s)).1.1.length<=r.2.2.2.2.2.2.1.1.length+(y8 c s).length:=by
    unfold yW;split
    ·simp
    ·simp
   omega
 ·simp only[akJ]; omega
theorem eT (c:za) (r:zb) (s:zB):ze (zm c r s).1<=40+2*ze r+6*zu s:=by
 have h1:=abG c r s;have h3:=nQ c s;have h4:r.2.2.2.2.2.2.1.1.length<=ze r:=by simp only[ze,J5]; omega
 omega
theorem Ec (c:za) (r:zb) (q:zH):ze (zm c r (see c r.2.2.2.1 q)).1<=40+8*ze r+12*zi q:=by
 have h1:=eT c r (see c r.2.2.2.1 q);have h2:=MA c r.2.2.2.1 q;have h4:zu r.2.2.2.1<=ze r:=by simp only[ze]; omega
 omega
theorem ab6 (c:za) (r:zb) (p:zG) (hok:zf c r=true) (hr:ze r<=20000000) (hp:zk p<=20000000):
  kK (c,r,p,())=some ((bif (Zv c p).2 then top c r p else (r,false)).1,(bif (Zv c p).2 then top c r p else (r,false)).2,()):=by
 have hs:zu r.2.2.2.1<=20000000:=by simp only[ze] at hr; omega
 have hpq:zi p<=20000000:=hp;unfold kK;dsimp only;rw[aaH c p (by omega),akH];cases h:(Zv c p).2
 ·rfl
 ·obtain⟨e,hq⟩:=wk h;have hv:=A9 hq;have ag4:=MA c r.2.2.2.1 p;have hww:=Ec c r p;dsimp only;simp only[akO,akI,akJ];rw[e,kg c r.2.2.2.1 p (by omega) (by omega),akH,b9 c r (see c r.2.2.2.1 p) (by omega) (by omega),akH,zh (show -9223372036854775808<=p.1+1 by omega) (by omega)];unfold top;cases hw:(zm c r (see c r.2.2.2.1 p)).2
  ·rfl
  ·obtain⟨o1,o2,o3⟩:=cv hok hw;simp only[akO,akI,akJ,MY,ML,akH];cases decide (p.1+1>60)
   ·simp only[akI];cases (yr c (p.1+1)==r.1)
    ·simp only[akI];have hm:=nI p (p.1+1) r.1;rw[kJ c _ _ _ (ba hok) (by show ze (zJ (zm c r (see c r.2.2.2.1 p)).1 _)<=_; simp only[zJ,ze] at hww hr ⊢; omega) (by omega),Option.bind_some]
     rfl
    ·rfl
   ·rfl
theorem Sr (c:za) (r:zb) (p:zH) (hok:zf c r=true) (hq:zT c p=true) (hr:ze r<=20000000) (hp:zi p<=20000000):
  dW (c,r,p,())=some ((top c r p).1,(top c r p).2,()):=by
 have hs:zu r.2.2.2.1<=20000000:=by simp only[ze] at hr; omega
 have hv:=A9 hq;have ag4:=MA c r.2.2.2.1 p;have hww:=Ec c r p;have hwe:write c r (see c r.2.2.2.1 p)=zm c r (see c r.2.2.2.1 p):=by unfold write; rw[hok]; rfl
 unfold dW;dsimp only;rw[uL c r.2.2.2.1 p (by omega) (by omega),akH,mQ c r (see c r.2.2.2.1 p) (by omega) (by omega),akH,zh (show -9223372036854775808<=p.1+1 by omega) (by omega),hwe];unfold top;cases hw:(zm c r (see c r.2.2.2.1 p)).2
 ·rfl
 ·obtain⟨o1,o2,o3⟩:=cv hok hw;simp only[akO,akI,akJ,vZ,uK,akH];by_cases h60:p.1+1>60
  ·simp only[h60,akP,akJ]
  ·simp only[h60,akQ,akI,bne];cases (yr c (p.1+1)==r.1)
   ·simp only[akI,akJ,al2];have hm:=nI p (p.1+1) r.1;have hrv:=Mu hok;have hk:=dZ (v:=max (zm c r (see c r.2.2.2.1 p)).1.2.1 (p.1+1)) o1 (by rw[o3]; omega)
    rw[uQ c _ _ _ (by show ze (zJ (zm c r (see c r.2.2.2.1 p)).1 _)<=_; simp only[zJ,ze] at hww hr ⊢; omega) (by omega),Option.bind_some]
    show (bif (tell c (zJ (zm c r (see c r.2.2.2.1 p)).1 (max (zm c r (see c r.2.2.2.1 p)).1.2.1 (p.1+1))) _ _).2 then some ((tell c (zJ _ _) _ _).1,(tell c (zJ _ _) _ _).2,()) else some ((tell c (zJ _ _) _ _).1,(tell c (zJ _ _) _ _).2,()))=_;rw[←lq _ _ hk];cases (jk c (zJ (zm c r (see c r.2.2.2.1 p)).1 (max (zm c r (see c r.2.2.2.1 p)).1.2.1 (p.1+1))) (yr c (p.1+1)) (3,p.1+1,([],0,[],[]),(0,[],[]),p,r.1,0,0,0,0)).2<;>rfl
   ·rfl
noncomputable def ZX (c:za) (r:zb) (v:Int) (name:List UInt8) (force:Bool):zb×Bool:=
 bif (((yz r.2.2.2.2.2.1 v name).2.2.length:Int)==0) then (r,false) else bif name==[] then (r,false) else
 bif yr c v==r.1 then (bif (Zv c (yz r.2.2.2.2.2.1 v name)).2 then top c r (yz r.2.2.2.2.2.1 v name) else (r,false)) else
 bif !force && decide ((YD (under c v r.1) (yz r.2.2.2.2.2.1 v name).2.2:Int)<((under c v r.1).length:Int)) then (r,false) else
 jk c r (up c v r.1) (2,0,([],0,[],[]),yz r.2.2.2.2.2.1 v name,(0,[],[]),0,0,0,0,0)
noncomputable def climb (c:za) (r:zb) (v:Int) (name:List UInt8) (force:Bool):zb×Bool:=
 bif zf c r && (ZX c r v name force).2 then ((ZX c r v name force).1,true) else (r,false)
theorem DD (l:zV) (v:Int) (name:List UInt8):zk (yz l v name)<=zE l+name.length:=by
 unfold yz;cases h:l.find? (λ p=>p.1==v && p.2.1==name) with
 | none=>simp[zk,zn]
 | some p=>
  have:=ZS zk (List.mem_of_find?_eq_some h);simp only[zE]; omega
theorem vX (p:zG):zj (2,0,([],0,[],[]),p,(0,[],[]),0,0,0,0,0)=zk p:=by
 simp[zj,zp,zk,zi,zn]
theorem sa (c:za) (r:zb) (v:Int) (name:List UInt8) (force:Bool) (hok:zf c r=true) (hr:ze r<=15000000) (hn:name.length<=5000000):
  qS (c,r,v,name,force,())=some ((ZX c r v name force).1,(ZX c r v name force).2,()):=by
 have ht:zE r.2.2.2.2.2.1<=15000000:=by simp only[ze] at hr; omega
 have hg:=DD r.2.2.2.2.2.1 v name;have hl:(yz r.2.2.2.2.2.1 v name).2.2.length<=20000000:=by
  have:(yz r.2.2.2.2.2.1 v name).2.2.length<=zk (yz r.2.2.2.2.2.1 v name):=by simp only[zk,zn]; omega
  omega
 have hu:=DT c v r.1;unfold qS ZX;dsimp only;rw[rX _ v name (by omega),akH];generalize hP:yz r.2.2.2.2.2.1 v name=p at *;dsimp only;cases ((p.2.2.length:Int)==0)
 ·simp only[akI];cases (name==([]:List UInt8))
  ·simp only[akI,ML,akH];cases (yr c v==r.1)
   ·simp only[akI,ab1,akH,aar _ p.2.2 (show (under c v r.1).length<=1073741824 by omega) (by omega),Di];have hm:=vX p;rw[kJ c r _ _ (ba hok) (by omega) (by omega)];cases force
    ·simp only[al2,akJ,akZ];cases decide ((YD (under c v r.1) p.2.2:Int)<((under c v r.1).length:Int))<;>rfl
    ·rfl
   ·simp only[akJ];rw[ab6 c r p hok (by omega) (by omega),akH]
  ·rfl
 ·rfl
theorem aaq (c:za) (r:zb) (v:Int) (name:List UInt8) (force:Bool) (hr:ze r<=15000000) (hn:name.length<=5000000):
  bz (c,r,v,name,force,())=some ((climb c r v name force).1,(climb c r v name force).2,()):=by
 unfold bz climb;dsimp only;rw[Yc c r (by omega),akH,ZC r (by omega),akH,akH];cases hok:zf c r
 ·rfl
 ·simp only[akO,akI,akZ];rw[sa c r v name force hok hr hn,akH];cases (ZX c r v name force).2<;>rfl
theorem abo {c:za} {r:zb} {to:Int} {m:zv} (h:(jk c r to m).2=false):(jk c r to m).1=r:=by
 unfold jk at *;cases hc:(!decide ((r.2.2.2.2.2.2.2.length:Int)≥30) && j4 c r.1 (to,m))
 ·rfl
 ·rw[hc] at h; cases h
theorem RT (c:za) (r:zb) (v:Int) (name:List UInt8) (force:Bool) (hr:ze r<=15000000) (hn:name.length<=5000000):
  QB (c,r,v,name,force,())=some ((climb c r v name force).1,(climb c r v name force).2,()):=by
 have ht:zE r.2.2.2.2.2.1<=15000000:=by simp only[ze] at hr; omega
 have hg:=DD r.2.2.2.2.2.1 v name;have hl:(yz r.2.2.2.2.2.1 v name).2.2.length<=20000000:=by
  have:(yz r.2.2.2.2.2.1 v name).2.2.length<=zk (yz r.2.2.2.2.2.1 v name):=by simp only[zk,zn]; omega
  omega
 have hu:=DT c v r.1;unfold QB climb ZX;dsimp only;rw[Sg _ v name (by omega),akH];generalize hP:yz r.2.2.2.2.2.1 v name=p at *;dsimp only;rw[dS r (by omega),QH c r (by omega),akH,akH];cases ((p.2.2.length:Int)==0)
 ·cases hok:zf c r
  ·rfl
  ·simp only[akI,akO,akZ];cases (name==([]:List UInt8))
   ·simp only[akI,uK,akH];cases (yr c v==r.1)
    ·simp only[akI,Sk,akH,RU _ p.2.2 (show (under c v r.1).length<=1073741824 by omega) (by omega),uR];have hm:=vX p;rw[uQ c r _ _ (by omega) (by omega),←lq _ _ hok,akH];cases ht2:(jk c r (up c v r.1) (2,0,([],0,[],[]),p,(0,[],[]),0,0,0,0,0)).2
     ·have hno:=abo ht2;cases force
      ·simp only[al2,akJ,akZ];cases decide ((YD (under c v r.1) p.2.2:Int)<((under c v r.1).length:Int))
       ·simp only[akI,hno,ht2]
       ·rfl
      ·simp only[akO,alj,akI,hno,ht2]
     ·cases force
      ·simp only[al2,akJ,akZ];cases decide ((YD (under c v r.1) p.2.2:Int)<((under c v r.1).length:Int))
       ·simp only[akI,ht2,akJ]
       ·rfl
      ·simp only[akO,alj,akI,ht2,akJ]
    ·simp only[akJ];rw[R4 c p (by omega),akH];cases h:(Zv c p).2
     ·rfl
     ·obtain⟨e,hq⟩:=wk h;have hpq:zi p<=20000000:=(by omega:zk p<=20000000)
      dsimp only;simp only[akO,akI,akJ];rw[e,Sr c r p hok hq (by omega) hpq,akH];cases (top c r p).2<;>rfl
   ·rfl
 ·cases zf c r<;>rfl
theorem CE (l:List Int) (x:Int) (i:Nat) (hi:i<=l.length) (hl:l.length<=137438953472):
  ((if (((0:Int)<=0)/\((0<=(i:Int))/\((i:Int)<=(((List.length l):Nat):Int)))) then (if (((0+(List.length (List.take ((Int.toNat (i:Int)) - (Int.toNat 0)) (List.drop (Int.toNat 0) l))))*8)<=70368744177664) then (if ((((List.length ([]++(List.take ((Int.toNat (i:Int)) - (Int.toNat 0)) (List.drop (Int.toNat 0) l))))+(List.length (x::[])))*8)<=70368744177664) then (if ((0<=(i:Int))/\(((i:Int)<=(((List.length l):Nat):Int))/\((((List.length l):Nat):Int)<=(((List.length l):Nat):Int)))) then (if ((((List.length (([]++(List.take ((Int.toNat (i:Int)) - (Int.toNat 0)) (List.drop (Int.toNat 0) l)))++(x::[])))+(List.length (List.take ((Int.toNat (((List.length l):Nat):Int)) - (Int.toNat (i:Int))) (List.drop (Int.toNat (i:Int)) l))))*8)<=70368744177664) then some (((([]++(List.take ((Int.toNat (i:Int)) - (Int.toNat 0)) (List.drop (Int.toNat 0) l)))++(x::[]))++(List.take ((Int.toNat (((List.length l):Nat):Int)) - (Int.toNat (i:Int))) (List.drop (Int.toNat (i:Int)) l))),()) else none) else none) else none) else none) else none):Option (List Int×Unit))=some (l.take i++x::l.drop i,()):=by
 have h1:(l.take i).length=i:=by rw[al0]; omega
 have h2:(l.drop i).length=l.length - i:=List.length_drop;have h3:(l.drop i).take (l.length - i)=l.drop i:=List.take_of_length_le (by rw[h2]; exact Nat.le_refl _)
 simp only[akT,show Int.toNat 0=0 from rfl,alY,al8,al9,h3,akR,h1,h2,akN,akM];rw[if_pos ⟨by omega,by omega,by omega⟩,if_pos (by omega),if_pos (by omega),if_pos ⟨by omega,by omega,by omega⟩,if_pos (by omega)];simp
noncomputable def Yo (l:List Int) (x:Int):Nat:=ji (λ y=>decide (y≥x)) 0 l
noncomputable def Zh (l:List Int) (x:Int):List Int:=bif l.any (· == x) then l else l.take (Yo l x)++x::l.drop (Yo l x)
theorem bM (l:List Int) (x:Int) (hl:l.length<=137438953472):Yd (l,x,())=some (Zh l x,()):=by
 unfold Yd Zh;dsimp only;rw[Yr l x (by omega),akH];dsimp only;cases l.any (· == x)
 ·simp only[akI];unfold Yo;refine (walk l.length (λ i (_:Unit)=>(i,())) (λ _ _=>True) (λ i _=>some (l.take (ji (λ y=>decide (y≥x)) i (l.drop i))++x::l.drop (ji (λ y=>decide (y≥x)) i (l.drop i)),())) (by omega) ?_ ?_ (s0:=()) trivial).trans (by simp only[al8])
  ·intro rec s _;have e:=CE l x l.length (Nat.le_refl _) hl;rw[alh] at e ⊢;simp only[ala,akQ,akI,ji];rw[alh];exact e
  ·intro rec i s hi _;have hx:l[i]?=some l[i]:=List.getElem?_eq_getElem hi;have e:=CE l x i (Nat.le_of_lt hi) hl;have hd0:decide ((i:Int)<((l.length:Nat):Int))=true:=decide_eq_true (by omega);have hr:rd .i64 l (Int.toNat (i:Int))=l[i]:=zt (e:=.i64) hx;dsimp only;by_cases hlt:l[i]<x
   ·right;have hd:decide (l[i]≥x)=false:=decide_eq_false (by omega);refine⟨(),trivial,?_,?_⟩
    ·rw[hd0,akJ,if_pos (zw hi),hr,decide_eq_true hlt,akJ,zq (show i<4611686018427387904 by omega)]
    ·rw[al1 hi];simp only[ji,hd,akI]
   ·left;have hd:decide (l[i]≥x)=true:=decide_eq_true (by omega);rw[hd0,akJ,if_pos (zw hi),hr,decide_eq_false hlt,akI];refine e.trans ?_;rw[show ji (λ y=>decide (y≥x)) i (l.drop i)=i by rw[al1 hi]; simp only[ji,hd,akJ]]
 ·simp only[akJ,al9];rw[if_pos (by omega)]
theorem RY (l:List Int) (x:Int) (hl:l.length<=137438953472):gE (l,x,())=some ((if Yo l x<l.length then ((Yo l x:Nat):Int) else -1),()):=by
 unfold gE Yo;refine (walk l.length (λ i (_:Unit)=>(i,())) (λ _ _=>True) (λ i _=>some ((if ji (λ y=>decide (y≥x)) i (l.drop i)<l.length then ((ji (λ y=>decide (y≥x)) i (l.drop i):Nat):Int) else -1),())) (by omega) ?_ ?_ (s0:=()) trivial).trans (by simp only[al8])
 ·intro rec s _;rw[alh];simp only[ala,akQ,akI,ji,Nat.lt_irrefl,if_false]
 ·intro rec i s hi _;have hx:l[i]?=some l[i]:=List.getElem?_eq_getElem hi;rw[al1 hi];unfold mN;simp only[zw hi,akP,akJ,akY,if_true,akT,zt (e:=.i64) hx,akH,zq (show i<4611686018427387904 by omega),ji];by_cases hb:l[i]≥x
  ·left;simp only[hb,akP,akJ,hi,if_true]
  ·right;exact⟨(),trivial,by simp only[hb,akQ,akI],by simp only[hb,akQ,akI]⟩
theorem va (l:List Int) (x:Int) (k:Nat) (hk:k<=l.length) (hl:l.length<=137438953472):bv (l,(k:Int),[x],())=some (l.take k++x::l.drop k,()):=by
 unfold bv QT;dsimp only;simp only[akN,akM];rw[if_pos (by omega),akT];simp
theorem uM (l:List Int) (x:Int) (hl:l.length<=137438953472):QK (l,x,())=some (Zh l x,()):=by
 have hle:Yo l x<=l.length:=by have:=(cZ (λ y=>decide (y≥x)) l 0).2; unfold Yo; omega
 unfold QK Zh;dsimp only;rw[mO l x (by omega),akH,mR l hl,RY l x hl];simp only[akH];cases l.any (· == x)
 ·simp only[akI];by_cases hlt:Yo l x<l.length
  ·rw[if_pos hlt];have:decide (((Yo l x:Nat):Int)<0)=false:=decide_eq_false (by omega);rw[this,akI,va l x _ hle hl,akH]
  ·rw[if_neg hlt];have:decide ((-1:Int)<0)=true:=rfl;rw[this,akJ,va l x l.length (aly _) hl,akH,show Yo l x=l.length by omega]
 ·rfl
theorem bo (l:List Int) (x:Int):(Zh l x).length<=l.length+1:=by
 have hle:Yo l x<=l.length:=by have:=(cZ (λ y=>decide (y≥x)) l 0).2; unfold Yo; omega
 unfold Zh;cases l.any (· == x)
 ·simp only[akI,akR,akN,al0,al7]; omega
 ·simp only[akJ]; omega
noncomputable def bq (a b:List Int):List Int:=b.foldl Zh (a.foldl Zh [])
theorem rI:∀ (l s:List Int),(l.foldl Zh s).length<=s.length+l.length
 | [],s=>by simp
 | x::l,s=>by
  have h1:=bo s x;have h2:=rI l (Zh s x);simp only[alx,akN]; omega
theorem XO (a b:List Int):(bq a b).length<=a.length+b.length:=by
 have h1:=rI a [];have h2:=rI b (a.foldl Zh []);simp only[bq,akM] at *; omega
theorem d9 {K:List Int->Option (List Int×Unit)} (l s0:List Int) (hl:l.length<=1152921504606846976) {G:(List Int×Int×Unit->Option (List Int×Unit))->List Int×Int×Unit->Option (List Int×Unit)}
  (hon:∀ (rec:List Int×Int×Unit->Option (List Int×Unit)) (i:Nat) (s:List Int) (h:i<l.length),s.length<=s0.length+i->G rec (s,(i:Int),())=rec (Zh s l[i],(i:Int)+1,()))
  (aeE:∀ (rec:List Int×Int×Unit->Option (List Int×Unit)) (s:List Int),s.length<=s0.length+l.length->G rec (s,(l.length:Int),())=K s):
  iter G fuel (s0,0,())=K (l.foldl Zh s0):=by
 refine (walk l.length (λ i (s:List Int)=>(s,i,())) (λ i s=>s.length<=s0.length+i) (λ i s=>K ((l.drop i).foldl Zh s)) hl ?_ ?_ (s0:=s0) (by simp)).trans (by simp only[al8])
 ·intro rec s hI;rw[aeE rec s hI,alh];rfl
 ·intro rec i s hi hI;have:=bo s l[i];exact .inr ⟨Zh s l[i],by omega,hon rec i s hi hI,by rw[al1 hi]; rfl⟩
theorem aaQ (a b:List Int) (ha:a.length<=1073741824) (hb:b.length<=1073741824):kh (a,b,())=some (bq a b,()):=by
 unfold kh;refine d9 (K:=λ s=>some (b.foldl Zh s,())) a [] (by omega) ?_ ?_
 ·intro rec i s hi hI;have hx:a[i]?=some a[i]:=List.getElem?_eq_getElem hi;simp only[akM] at hI;simp only[zw hi,decide_true,cond_true,and_self,if_true,Int.toNat_natCast,zt (e:=.i64) hx,bM s a[i] (by omega),Option.bind_some,zq (show i<4611686018427387904 by omega)]
 ·intro rec s hI;simp only[akM] at hI;simp only[ala,akQ,akI];refine d9 (K:=λ s=>some (s,())) b s (by omega) ?_ ?_
  ·intro rec i s2 hi hI2;have hx:b[i]?=some b[i]:=List.getElem?_eq_getElem hi;simp only[zw hi,decide_true,cond_true,and_self,if_true,Int.toNat_natCast,zt (e:=.i64) hx,bM s2 b[i] (by omega),Option.bind_some,zq (show i<4611686018427387904 by omega)]
  ·intro rec s2 _;simp only[ala,akQ,akI]
theorem Sb (a b:List Int) (ha:a.length<=1073741824) (hb:b.length<=1073741824):dF (a,b,())=some (bq a b,()):=by
 unfold dF;refine d9 (K:=λ s=>some (b.foldl Zh s,())) a [] (by omega) ?_ ?_
 ·intro rec i s hi hI;have hx:a[i]?=some a[i]:=List.getElem?_eq_getElem hi;simp only[akM] at hI;simp only[zw hi,decide_true,cond_true,and_self,if_true,Int.toNat_natCast,zt (e:=.i64) hx,uM s a[i] (by omega),Option.bind_some,zq (show i<4611686018427387904 by omega)]
 ·intro rec s hI;simp only[akM] at hI;simp only[ala,akQ,akI];refine d9 (K:=λ s=>some (s,())) b s (by omega) ?_ ?_
  ·intro rec i s2 hi hI2;have hx:b[i]?=some b[i]:=List.getElem?_eq_getElem hi;simp only[zw hi,decide_true,cond_true,and_self,if_true,Int.toNat_natCast,zt (e:=.i64) hx,uM s2 b[i] (by omega),Option.bind_some,zq (show i<4611686018427387904 by omega)]
  ·intro rec s2 _;simp only[ala,akQ,akI]
noncomputable def Zd (a b:zG):zG×Bool:=bif a.1==b.1 && a.2.1==b.2.1 then ((a.1,a.2.1,bq a.2.2 b.2.2),true) else ((0,[],[]),false)
theorem aaG (a b:zG) (ha:zk a<=1073741824) (hb:zk b<=1073741824):gX (a,b,())=some ((Zd a b).1,(Zd a b).2,()):=by
 have h1:a.2.2.length<=1073741824/\b.2.2.length<=1073741824:=by simp only[zk,zn] at ha hb; omega
 unfold gX Zd;dsimp only;rw[aaQ _ _ h1.1 h1.2,akH];simp only[bne];cases (a.1==b.1)<;>cases (a.2.1==b.2.1)<;>rfl
theorem R3 (a b:zG) (ha:zk a<=1073741824) (hb:zk b<=1073741824):QF (a,b,())=some ((Zd a b).1,(Zd a b).2,()):=by
 have h1:a.2.2.length<=1073741824/\b.2.2.length<=1073741824:=by simp only[zk,zn] at ha hb; omega
 unfold QF Zd;dsimp only;rw[Sb _ _ h1.1 h1.2,akH];simp only[bne];cases (a.1==b.1)<;>cases (a.2.1==b.2.1)<;>rfl
theorem Uq (a b:zG):zk (Zd a b).1<=zk a+zk b:=by
 have h:=XO a.2.2 b.2.2;unfold Zd;cases (a.1==b.1 && a.2.1==b.2.1)
 ·simp[zk,zn]
 ·simp only[akJ,zk,zn]; omega
noncomputable def jS (p:zG):zV->zV
 | []=>[p]
 | q::r=>bif jI q p then q::jS p r else bif (Zd q p).2 then (Zd q p).1::r else p::q::r
theorem cq (p:zG):∀ (l:zV),zE (jS p l)<=zE l+zk p+1
 | []=>by simp[jS,zE]; omega
 | q::r=>by
  have h:=cq p r;have h2:=Uq q p;simp only[jS];cases jI q p
  ·cases (Zd q p).2
   ·simp only[akI,zE,akN,al3,alp]; omega
   ·simp only[akI,akJ,zE,akN,al3,alp]; omega
  ·simp only[akJ,zE,akN,al3,alp] at h ⊢; omega
noncomputable def zD (c:za) (l:zV) (p:zG):zV×Bool:=bif jb c p && jA c (jS p l) then (jS p l,true) else (l,false)
theorem D0 (a b:zV):zE (a++b)=zE a+zE b:=by
 simp only[zE,akR,ams,List.sum_append]; omega
theorem M6 (a:zV):a.length<=zE a:=by unfold zE; omega
def TabI (l:zV) (p:zG) (i:Nat) (s:zV×Bool):Prop:=
 (s.2=true/\s.1++l.drop i=jS p l)∨(s.2=false/\s.1++jS p (l.drop i)=jS p l)
theorem TabI.w {l:zV} {p:zG} {i:Nat} {s:zV×Bool} (h:TabI l p i s):zE s.1<=zE l+zk p+1:=by
 have h0:=cq p l;rcases h with⟨_,h⟩|⟨_,h⟩<;>rw[←h,D0] at h0<;>omega
theorem bQ (c:za) (l:zV) (p:zG) (hl:zE l<=100000000) (hp:zk p<=100000000):LE (c,l,p,())=some ((zD c l p).1,(zD c l p).2,()):=by
 have hll:=M6 l;have htw:=cq p l;have acC:∀ out:zV,out=jS p l->((MO (c,out,())).bind λ r10=>(bif (!r10.1) then ((J2 (l,())).bind λ r11=>some (r11.1,(false,()))) else ((KK (c,(p,()))).bind λ r12=>(bif (!r12.1) then ((J2 (l,())).bind λ r13=>some (r13.1,(false,()))) else some (out,(true,()))))))=some ((zD c l p).1,(zD c l p).2,()):=by
  intro out ho;subst ho;rw[Df c _ (by omega),akH,Dm l (by omega),bF c p (by omega)];unfold zD;cases jA c (jS p l)<;>cases jb c p<;>rfl
 unfold LE;dsimp only;refine walk l.length (λ i (s:zV×Bool)=>(s.1,s.2,i,())) (λ i s=>TabI l p i s) (λ _ _=>some ((zD c l p).1,(zD c l p).2,())) (by omega) ?_ ?_ (s0:=([],false)) (.inr ⟨rfl,rfl⟩)
 ·rintro rec ⟨out,put⟩ hI;have hw:=hI.w;have hol:=M6 out;unfold TabI at hI;rw[alh] at hI;simp only[ala,akQ,akI];cases put
  ·rcases hI with⟨h,_⟩|⟨_,h⟩
   ·cases h
   ·simp only[al2,akJ];rw[MQ p (by omega),Option.bind_some,if_pos (by simp only[akN,akM]; simp only at hw hol; omega)]
    exact acC (out++[p]) h
  ·rcases hI with⟨_,h⟩|⟨h,_⟩
   ·simp only[akO,akI];exact acC out (by simpa using h)
   ·cases h
 ·rintro rec i ⟨out,put⟩ hi hI;have hx:l[i]?=some l[i]:=List.getElem?_eq_getElem hi;have hpw:zk l[i]<=100000000:=KS hl hx;have hw:=hI.w;have hol:=M6 out;simp only at hw hol;unfold TabI at hI;rw[al1 hi] at hI;right;simp only[zw hi,decide_true,cond_true,and_self,if_true,Int.toNat_natCast,zt (e:=Yw) hx,MQ l[i] (by omega),Option.bind_some,zq (show i<4611686018427387904 by omega)];cases put
  ·rcases hI with⟨h,_⟩|⟨_,h⟩
   ·cases h
   ·simp only[al2,akJ,Dl,akH];simp only[jS] at h;cases hb:jI l[i] p
    ·rw[hb] at h;simp only[akI] at h;simp only[Bool.not_false,cond_true,aaG l[i] p (by omega) (by omega),Option.bind_some,MQ p (show zk p<=137438953472 by omega)];cases hj:(Zd l[i] p).2
     ·rw[hj] at h;simp only[akI] at h ⊢;rw[if_pos (by simp only[akN,akM]; omega),if_pos (by simp only[akR,akN,akM]; omega)]
      exact⟨(out++[p]++[l[i]],true),.inl ⟨rfl,by simpa using h⟩,rfl,trivial⟩
     ·rw[hj] at h;simp only[akJ] at h ⊢;rw[if_pos (by simp only[akN,akM]; omega)]
      exact⟨(out++[(Zd l[i] p).1],true),.inl ⟨rfl,by simpa using h⟩,rfl,trivial⟩
    ·rw[hb] at h;simp only[akJ] at h;simp only[akO,akI];rw[if_pos (by simp only[akN,akM]; omega)]
     exact⟨(out++[l[i]],false),.inr ⟨rfl,by simpa using h⟩,rfl,trivial⟩
  ·rcases hI with⟨_,h⟩|⟨h,_⟩
   ·simp only[akO,akI];rw[if_pos (by simp only[akN,akM]; omega)]
    exact⟨(out++[l[i]],true),.inl ⟨rfl,by simpa using h⟩,rfl,trivial⟩
   ·cases h
theorem Uv (a b:zG):decide (JT a b<0)=jI a b:=by
 have h:=A3 a b;by_cases hp:JT a b<0
 ·have:¬ JT a b≥0:=by omega
  simp only[this,akQ] at h;simp only[hp,akP];cases hb:jI a b
  ·rw[hb] at h; cases h
  ·rfl
 ·have:JT a b≥0:=by omega
  simp only[this,akP] at h;simp only[hp,akQ];cases hb:jI a b
  ·rfl
  ·rw[hb] at h; cases h
theorem Uw {a b:zG} (h:jI a b=false):(JT a b==0)=(Zd a b).2:=by
 have hj:(Zd a b).2=(a.1==b.1 && a.2.1==b.2.1):=by unfold Zd; cases (a.1==b.1 && a.2.1==b.2.1)<;>rfl
 rw[hj];unfold jI at h;unfold JT;by_cases h1:a.1<b.1
 ·simp[h1] at h
 ·by_cases h2:a.1>b.1
  ·have:¬ a.1=b.1:=by omega
   simp[h1,h2,this]
  ·have he:a.1=b.1:=by omega
   simp only[he,akV,alT,beq_self_eq_true,akZ] at h;have h3:=h.2;simp only[he,ala,if_false,h3,al6,beq_self_eq_true,akZ,gt_iff_lt];by_cases h4:a.2.1=b.2.1
   ·simp[h4]
   ·simp[h4]
theorem vd (l:zV) (x:zG) (k:Nat) (hk:k<=l.length) (hl:l.length<=137438953471):MC (l,(k:Int),[x],())=some (l.take k++x::l.drop k,()):=by
 unfold MC QT;dsimp only;simp only[akN,akM];rw[if_pos (by omega),akT];simp
theorem Sf (c:za) (l:zV) (p:zG) (hl:zE l<=100000000) (hp:zk p<=100000000):dI (c,l,p,())=some ((zD c l p).1,(zD c l p).2,()):=by
 have hll:=M6 l;have htw:=cq p l;unfold dI;dsimp only;rw[dt c p (by omega),akH,uV l (by omega),akH,akH];cases hpo:jb c p
 ·simp only[al2,akJ];unfold zD;rw[hpo];rfl
 ·simp only[akO,akI];have acC:∀ out:zV,out=jS p l->((Jf (c,out,())).bind λ r7=>(bif (!r7.1) then some (l,(false,())) else some (out,(true,()))))=some ((zD c l p).1,(zD c l p).2,()):=by
   intro out ho;subst ho;rw[uP c _ (by omega),akH];unfold zD;rw[hpo];cases jA c (jS p l)<;>rfl
  refine walk l.length (λ i (_:Unit)=>(i,())) (λ i _=>l.take i++jS p (l.drop i)=jS p l) (λ _ _=>some ((zD c l p).1,(zD c l p).2,())) (by omega) ?_ ?_ (s0:=()) (by simp)
  ·intro rec s hI;rw[alh] at hI;simp only[ala,akQ,akI];rw[QR p (by omega),akH,vd l p l.length (aly _) (by omega),akH,alh];exact acC _ hI
  ·intro rec i s hi hI;have hx:l[i]?=some l[i]:=List.getElem?_eq_getElem hi;have hpw:zk l[i]<=100000000:=KS hl hx;rw[al1 hi] at hI;simp only[jS] at hI;simp only[zw hi,akP,akJ,akY,if_true,akT,zt (e:=Yw) hx,uS,akH,Uv,zq (show i<4611686018427387904 by omega)];cases hb:jI l[i] p
   ·left;rw[hb] at hI;simp only[akI] at hI ⊢;rw[Uw hb];cases hj:(Zd l[i] p).2
    ·rw[hj] at hI;simp only[akI] at hI ⊢;rw[QR p (by omega),akH,vd l p i (Nat.le_of_lt hi) (by omega),akH,al1 hi];exact acC _ hI
    ·rw[hj] at hI;simp only[akJ] at hI ⊢;rw[R3 l[i] p (by omega) (by omega),Option.bind_some];dsimp only;rw[List.set_eq_take_append_cons_drop,if_pos hi];exact acC _ hI
   ·right;rw[hb] at hI;simp only[akJ] at hI;have e:l.take (i+1)=l.take i++[l[i]]:=by rw[amc,hx]; rfl
    refine⟨(),?_,by simp only[akJ],trivial⟩;rw[e,alr];exact hI
def yU (r:zb) (t:zV):zb:=(r.1,r.2.1,r.2.2.1,r.2.2.2.1,r.2.2.2.2.1,t,r.2.2.2.2.2.2)
theorem lG {c:za} {r:zb} {t:zV} (h:zf c r=true) (ht:jA c t=true):zf c (yU r t)=true:=by
 obtain⟨a,v,k,sf,pool,tab,dk,held⟩:=r;show zf c (a,v,k,sf,pool,t,dk,held)=true;unfold zf at h ⊢;simp only[akK] at h ⊢;obtain⟨a1,a2,a3,a4,a5,a6,a7,a8⟩:=h;exact⟨a1,a2,a3,a4,a5,a6,ht,a8⟩
theorem Qa {c:za} {l:zV} {p:zG} (h:(zD c l p).2=true):jA c (zD c l p).1=true:=by
 unfold zD at *;cases h1:(jb c p && jA c (jS p l))
 ·rw[h1] at h; cases h
 ·simp only[akK] at h1;exact h1.2
theorem cr (c:za) (l:zV) (p:zG):zE (zD c l p).1<=zE l+zk p+1:=by
 have h:=cq p l;unfold zD;cases (jb c p && jA c (jS p l))
 ·simp only[akI]; omega
 ·exact h
noncomputable def NE (c:za) (r:zb) (p:zG):zb×Bool:=
 bif !zf c r then (r,false) else bif !jb c p then (r,false) else bif p.2.1==[] then (r,false) else bif decide (p.1<r.2.1) then (r,false) else
 bif !(zD c r.2.2.2.2.2.1 p).2 then (r,false) else ((climb c (yU r (zD c r.2.2.2.2.2.1 p).1) p.1 p.2.1 false).1,true)
theorem aaw (c:za) (r:zb) (p:zG) (hr:ze r<=2000000) (hp:zk p<=2000000):gQ (c,r,p,())=some ((NE c r p).1,(NE c r p).2,()):=by
 have ht:zE r.2.2.2.2.2.1<=2000000:=by simp only[ze] at hr; omega
 have hw:=cr c r.2.2.2.2.2.1 p;have hn:p.2.1.length<=2000000:=by simp only[zk] at hp; omega
 have hwr:ze (yU r (zD c r.2.2.2.2.2.1 p).1)<=15000000:=by simp only[yU,ze] at *; omega
 unfold gQ NE;dsimp only;rw[ZC r (by omega),akH,Yc c r (by omega),akH,bF c p (by omega),akH,akH,bQ c r.2.2.2.2.2.1 p (by omega) (by omega),akH];cases hok:zf c r
 ·rfl
 cases jb c p
 ·rfl
 cases (p.2.1==([]:List UInt8))
 ·cases decide (p.1<r.2.1)
  ·cases hta:(zD c r.2.2.2.2.2.1 p).2
   ·rfl
   ·have afq:=lG (t:=(zD c r.2.2.2.2.2.1 p).1) hok (Qa hta);simp only[akO,akI];show ((yw (yU r (zD c r.2.2.2.2.2.1 p).1,())).bind _)=_;rw[ZC _ (by omega),akH];dsimp only;rw[sa c _ p.1 p.2.1 false afq hwr (by omega),akH];unfold climb;rw[afq];cases (ZX c (yU r (zD c r.2.2.2.2.2.1 p).1) p.1 p.2.1 false).2<;>rfl
  ·rfl
 ·rfl
theorem acR (c:za) (r:zb) (p:zG) (hr:ze r<=2000000) (hp:zk p<=2000000):acg (c,r,p,())=some ((NE c r p).1,(NE c r p).2,()):=by
 have ht:zE r.2.2.2.2.2.1<=2000000:=by simp only[ze] at hr; omega
 have hw:=cr c r.2.2.2.2.2.1 p;have hn:p.2.1.length<=2000000:=by simp only[zk] at hp; omega
 have hwr:ze (yU r (zD c r.2.2.2.2.2.1 p).1)<=15000000:=by simp only[yU,ze] at *; omega
 unfold acg NE;dsimp only;rw[dS r (by omega),QH c r (by omega),akH,dt c p (by omega),Sf c r.2.2.2.2.2.1 p (by omega) (by omega)];simp only[akH];cases hok:zf c r
 ·rfl
 cases jb c p
 ·rfl
 cases (p.2.1==([]:List UInt8))
 ·cases decide (p.1<r.2.1)
  ·cases hta:(zD c r.2.2.2.2.2.1 p).2
   ·rfl
   ·simp only[akO,akI];show ((QB (c,yU r (zD c r.2.2.2.2.2.1 p).1,p.1,p.2.1,false,())).bind _)=_;rw[RT c _ p.1 p.2.1 false hwr (by omega),akH]
  ·rfl
 ·rfl
noncomputable def Zs (c:za) (s:zB) (b:yE):Bool:=zX c s && (jm c b && (decide (zg b.1>s.1) && decide (b.2.1≥s.2.1)))
theorem C8 (c:za) (s:zB) (b:yE) (hs:zu s<=137438953472) (hb:zp b<=137438953472):bD (c,s,b,())=some (Zs c s b,()):=by
 have h1:b.1.length<=137438953472:=by simp only[zp] at hb; omega
 unfold bD Zs;dsimp only;rw[qE c s hs,akH,gI c b hb,akH,Y5 b.1 h1,akH];cases zX c s<;>cases jm c b<;>cases decide (zg b.1>s.1)<;>rfl
theorem RZ (c:za) (s:zB) (b:yE) (hs:zu s<=1073741824) (hb:zp b<=1073741824):dn (c,s,b,())=some (Zs c s b,()):=by
 have h1:b.1.length<=1073741824:=by simp only[zp] at hb; omega
 unfold dn Zs;dsimp only;rw[dD c s hs,akH,mK c b hb,akH,L9 b.1 h1,akH];cases zX c s<;>cases jm c b<;>cases decide (zg b.1>s.1)<;>rfl
noncomputable def vote (c:za) (s:zB) (b:yE):zB:=bif Zs c s b then (zg b.1,s.2) else s
theorem Dj (c:za) (s:zB) (b:yE) (hs:zu s<=137438953472) (hb:zp b<=137438953472):qM (c,s,b,())=some (vote c s b,Zs c s b,()):=by
 have h1:b.1.length<=137438953472:=by simp only[zp] at hb; omega
 unfold qM vote;dsimp only;rw[kv s hs,akH,C8 c s b hs hb,akH,Y5 b.1 h1,akH];cases Zs c s b<;>rfl
theorem Sl (c:za) (s:zB) (b:yE) (hs:zu s<=1073741824) (hb:zp b<=1073741824):dN (c,s,b,())=some (vote c s b,Zs c s b,()):=by
 have h1:b.1.length<=1073741824:=by simp only[zp] at hb; omega
 unfold dN vote;dsimp only;rw[dU s (by omega),akH,RZ c s b hs hb,akH,L9 b.1 h1,akH];cases Zs c s b<;>rfl
theorem sH (c:za) (s:zB) (b:yE):zu (vote c s b)<=zu s:=by
 unfold vote;cases Zs c s b
 ·exact Nat.le_refl _
 ·exact Nat.le_refl _
noncomputable def voted (c:za) (r0 w:zb) (name:List UInt8):zb×Bool:=
 bif !(zD c w.2.2.2.2.2.1 (zg name,name,[w.1])).2 then (r0,false) else ((climb c (yU w (zD c w.2.2.2.2.2.1 (zg name,name,[w.1])).1) (zg name) name false).1,true)
noncomputable def jM (c:za) (r:zb) (b:yE):zb×Bool:=
 bif !zf c r then (r,false) else bif !jm c b then (r,false) else
 bif decide (zg b.1≥r.2.1) then
  (bif !(zm c (zJ r (zg b.1)) (vote c (see c r.2.2.2.1 b.2) b)).2 then (r,false) else
   bif !Zs c (see c r.2.2.2.1 b.2) b then ((zm c (zJ r (zg b.1)) (vote c (see c r.2.2.2.1 b.2) b)).1,true) else
   voted c r (zm c (zJ r (zg b.1)) (vote c (see c r.2.2.2.1 b.2) b)).1 b.1)
 else (bif !(zm c r (see c r.2.2.2.1 b.2)).2 then (r,false) else ((zm c r (see c r.2.2.2.1 b.2)).1,true))
theorem lB (v me:Int) (name:List UInt8):zk (v,name,[me])=name.length+1:=by simp[zk,zn]
theorem ab8 (c:za) (w:zb) (name:List UInt8) (hok:zf c w=true) (hw:ze w<=13000000) (hn:name.length<=1100000):
  MT (c,w,name,())=some ((voted c w w name).1,(voted c w w name).2,()):=by
 have ht:zE w.2.2.2.2.2.1<=13000000:=by simp only[ze] at hw; omega
 have hp:=lB (zg name) w.1 name;have hta:=cr c w.2.2.2.2.2.1 (zg name,name,[w.1]);have hwr:ze (yU w (zD c w.2.2.2.2.2.1 (zg name,name,[w.1])).1)<=15000000:=by simp only[yU,ze] at *; omega
 unfold MT voted;dsimp only;rw[Y5 name (by omega),akH];dsimp only;rw[bQ c w.2.2.2.2.2.1 (zg name,name,[w.1]) (by omega) (by omega),Option.bind_some];cases h:(zD c w.2.2.2.2.2.1 (zg name,name,[w.1])).2
 ·rfl
 ·have afq:=lG (t:=(zD c w.2.2.2.2.2.1 (zg name,name,[w.1])).1) hok (Qa h);simp only[akO,akI];show ((yw (yU w (zD c w.2.2.2.2.2.1 (zg name,name,[w.1])).1,())).bind _)=_;rw[ZC _ (by omega),akH,akH];dsimp only;rw[sa c _ (zg name) name false afq hwr (by omega),akH];unfold climb;rw[afq];cases (ZX c (yU w (zD c w.2.2.2.2.2.1 (zg name,name,[w.1])).1) (zg name) name false).2<;>rfl
theorem abF (c:za) (r0 w:zb) (name:List UInt8):(voted c r0 w name).2=(zD c w.2.2.2.2.2.1 (zg name,name,[w.1])).2/\((voted c r0 w name).2=true->(voted c w w name).1=(voted c r0 w name).1)/\((voted c r0 w name).2=false->(voted c r0 w name).1=r0)/\(voted c w w name).2=(voted c r0 w name).2:=by
 unfold voted;cases (zD c w.2.2.2.2.2.1 (zg name,name,[w.1])).2
 ·exact⟨rfl,λ h=>(by cases h),λ _=>rfl,rfl⟩
 ·exact⟨rfl,λ _=>rfl,λ h=>(by cases h),rfl⟩
theorem rP (c:za) (r:zb) (b:yE) (hrb:ze r+zp b<=1048576):MG (c,r,b,())=some ((jM c r b).1,(jM c r b).2,()):=by
 have hs:zu r.2.2.2.1<=ze r:=by simp only[ze]; omega
 have hq:zi b.2<=zp b/\b.1.length<=zp b:=by simp only[zp]; omega
 have ag4:=MA c r.2.2.2.1 b.2;have ak9:=sH c (see c r.2.2.2.1 b.2) b;have hiv:ze (zJ r (zg b.1))=ze r:=rfl;unfold MG jM;dsimp only;rw[ZC r (by omega),akH,Yc c r (by omega),akH,gI c b (by omega),akH,akH,kg c r.2.2.2.1 b.2 (by omega) (by omega),akH,Y5 b.1 (by omega),akH,C8 c (see c r.2.2.2.1 b.2) b (by omega) (by omega),akH,Dj c (see c r.2.2.2.1 b.2) b (by omega) (by omega)];simp only[akH];cases hok:zf c r
 ·rfl
 cases hbo:jm c b
 ·rfl
 by_cases hv:zg b.1≥r.2.1
 ·have hn:zC b.1=true/\b.1≠[]:=by
   unfold jm at hbo;simp only[akK,bne_iff_ne,ne_eq] at hbo;exact⟨hbo.2.1,hbo.2.2.1⟩
  have hnv:=Mg hn.1 hn.2;have adp:=dZ (v:=zg b.1) hok hnv;simp only[hv,akP,akJ,akO,akI];cases hm:Zs c (see c r.2.2.2.1 b.2) b
  ·have e:vote c (see c r.2.2.2.1 b.2) b=see c r.2.2.2.1 b.2:=by unfold vote; rw[hm]; rfl
   simp only[akI,al2,akJ,e];show ((Yt (c,zJ r (zg b.1),see c r.2.2.2.1 b.2,())).bind _)=_;rw[b9 c (zJ r (zg b.1)) (see c r.2.2.2.1 b.2) (by omega) (by omega),akH];cases (zm c (zJ r (zg b.1)) (see c r.2.2.2.1 b.2)).2<;>rfl
  ·simp only[akJ,akO,akI];have hww:=eT c (zJ r (zg b.1)) (vote c (see c r.2.2.2.1 b.2) b);show ((Yt (c,zJ r (zg b.1),vote c (see c r.2.2.2.1 b.2) b,())).bind _)=_;rw[b9 c (zJ r (zg b.1)) (vote c (see c r.2.2.2.1 b.2) b) (by omega) (by omega),akH];cases hw:(zm c (zJ r (zg b.1)) (vote c (see c r.2.2.2.1 b.2) b)).2
   ·rfl
   ·obtain⟨o1,o2,o3⟩:=cv adp hw;obtain⟨f1,f2,f3,f4⟩:=abF c r (zm c (zJ r (zg b.1)) (vote c (see c r.2.2.2.1 b.2) b)).1 b.1;simp only[akJ,akO,akI];rw[ab8 c _ b.1 o1 (by omega) (by omega),akH];dsimp only;rw[f4];cases hf:(voted c r (zm c (zJ r (zg b.1)) (vote c (see c r.2.2.2.1 b.2) b)).1 b.1).2
    ·simp only[al2,akJ,f3 hf]
    ·simp only[akO,akI,f2 hf]
 ·simp only[hv,akQ,akI,akO];rw[b9 c r (see c r.2.2.2.1 b.2) (by omega) (by omega),akH];cases (zm c r (see c r.2.2.2.1 b.2)).2<;>rfl
theorem RX (c:za) (r:zb) (b:yE) (hrb:ze r+zp b<=1048576):dm (c,r,b,())=some ((jM c r b).1,(jM c r b).2,()):=by
 have hs:zu r.2.2.2.1<=ze r:=by simp only[ze]; omega
 have hq:zi b.2<=zp b/\b.1.length<=zp b:=by simp only[zp]; omega
 have ag4:=MA c r.2.2.2.1 b.2;have ak9:=sH c (see c r.2.2.2.1 b.2) b;have hiv:ze (zJ r (zg b.1))=ze r:=rfl;unfold dm jM;dsimp only;rw[dS r (by omega),QH c r (by omega),akH,mK c b (by omega),uL c r.2.2.2.1 b.2 (by omega) (by omega),L9 b.1 (by omega)];simp only[akH];rw[Sl c (see c r.2.2.2.1 b.2) b (by omega) (by omega)];simp only[akH];cases hok:zf c r
 ·rfl
 cases hbo:jm c b
 ·rfl
 by_cases hv:zg b.1≥r.2.1
 ·have hn:zC b.1=true/\b.1≠[]:=by
   unfold jm at hbo;simp only[akK,bne_iff_ne,ne_eq] at hbo;exact⟨hbo.2.1,hbo.2.2.1⟩
  have hnv:=Mg hn.1 hn.2;have adp:=dZ (v:=zg b.1) hok hnv;have hww:=eT c (zJ r (zg b.1)) (vote c (see c r.2.2.2.1 b.2) b);have hwe:write c (zJ r (zg b.1)) (vote c (see c r.2.2.2.1 b.2) b)=zm c (zJ r (zg b.1)) (vote c (see c r.2.2.2.1 b.2) b):=by unfold write; rw[adp]; rfl
  simp only[hv,akP,akJ,akO,akI];show ((Ma (c,zJ r (zg b.1),vote c (see c r.2.2.2.1 b.2) b,())).bind _)=_;rw[mQ c (zJ r (zg b.1)) (vote c (see c r.2.2.2.1 b.2) b) (by omega) (by omega),akH,hwe];cases hw:(zm c (zJ r (zg b.1)) (vote c (see c r.2.2.2.1 b.2) b)).2
  ·rfl
  ·obtain⟨o1,o2,o3⟩:=cv adp hw;have o2:(zm c (zJ r (zg b.1)) (vote c (see c r.2.2.2.1 b.2) b)).1.1=r.1:=o2;cases hm:Zs c (see c r.2.2.2.1 b.2) b
   ·rfl
   ·simp only[akO,akI];unfold voted;rw[←o2];generalize (zm c (zJ r (zg b.1)) (vote c (see c r.2.2.2.1 b.2) b)).1=w at *;have ht:zE w.2.2.2.2.2.1<=ze w:=by simp only[ze]; omega
    have hp:=lB (zg b.1) w.1 b.1;have hta:=cr c w.2.2.2.2.2.1 (zg b.1,b.1,[w.1]);have hwr:ze (yU w (zD c w.2.2.2.2.2.1 (zg b.1,b.1,[w.1])).1)<=ze w+b.1.length+2:=by simp only[yU,ze] at *; omega
    rw[Sf c w.2.2.2.2.2.1 (zg b.1,b.1,[w.1]) (by omega) (by omega),Option.bind_some];cases h:(zD c w.2.2.2.2.2.1 (zg b.1,b.1,[w.1])).2
    ·rfl
    ·simp only[akO,akI];show ((QB (c,yU w (zD c w.2.2.2.2.2.1 (zg b.1,b.1,[w.1])).1,zg b.1,b.1,false,())).bind _)=_;rw[RT c _ (zg b.1) b.1 false (by omega) (by omega),akH]
 ·have hwe:write c r (see c r.2.2.2.1 b.2)=zm c r (see c r.2.2.2.1 b.2):=by unfold write; rw[hok]; rfl
  simp only[hv,akQ,akI,akO];rw[mQ c r (see c r.2.2.2.1 b.2) (by omega) (by omega),akH,hwe];cases (zm c r (see c r.2.2.2.1 b.2)).2<;>rfl
noncomputable def late (c:za) (r:zb):zb×Bool:=
 bif !zf c r then (r,false) else bif decide (r.2.1≥60) then (r,false) else
 bif yr c (r.2.1+1)==r.1 then
  (bif !(zD c r.2.2.2.2.2.1 (r.2.1+1,[],[r.1])).2 then (r,false) else (yU (zJ r (r.2.1+1)) (zD c r.2.2.2.2.2.1 (r.2.1+1,[],[r.1])).1,true))
 else
  (bif !(jk c (zJ r (r.2.1+1)) (yr c (r.2.1+1)) (3,r.2.1+1,([],0,[],[]),(0,[],[]),r.2.2.2.1.2.2.1,r.1,0,0,0,0)).2 then (r,false) else
   ((jk c (zJ r (r.2.1+1)) (yr c (r.2.1+1)) (3,r.2.1+1,([],0,[],[]),(0,[],[]),r.2.2.2.1.2.2.1,r.1,0,0,0,0)).1,true))
theorem aaA (c:za) (r:zb) (hr:ze r<=2000000):MH (c,r,())=some ((late c r).1,(late c r).2,()):=by
 have ht:zE r.2.2.2.2.2.1<=2000000:=by simp only[ze] at hr; omega
 have hq:zi r.2.2.2.1.2.2.1<=2000000:=by simp only[ze,zu] at hr; omega
 unfold MH late;dsimp only;rw[ZC r (by omega),akH,Yc c r (by omega),akH];cases hok:zf c r
 ·rfl
 ·have hv:=Mu hok;have hp:=lB (r.2.1+1) r.1 [];have hm:=nI r.2.2.2.1.2.2.1 (r.2.1+1) r.1;simp only[akO,akI,zh (show -9223372036854775808<=r.2.1+1 by omega) (show r.2.1+1<=9223372036854775807 by omega),ML,akH];cases decide (r.2.1≥60)
  ·simp only[akI];cases (yr c (r.2.1+1)==r.1)
   ·simp only[akI];show ((KP (c,zJ r (r.2.1+1),yr c (r.2.1+1),(3,r.2.1+1,([],0,[],[]),(0,[],[]),r.2.2.2.1.2.2.1,r.1,0,0,0,0),())).bind _)=_;rw[kJ c (zJ r (r.2.1+1)) _ _ (ba hok) (by show ze r<=_; omega) (by omega),akH]
    cases (jk c (zJ r (r.2.1+1)) (yr c (r.2.1+1)) (3,r.2.1+1,([],0,[],[]),(0,[],[]),r.2.2.2.1.2.2.1,r.1,0,0,0,0)).2<;>rfl
   ·simp only[akJ];rw[bQ c r.2.2.2.2.2.1 (r.2.1+1,[],[r.1]) (by omega) (by simp only[akM] at hp; omega),Option.bind_some]
    cases (zD c r.2.2.2.2.2.1 (r.2.1+1,[],[r.1])).2<;>rfl
  ·rfl
theorem pi (c:UInt8):∀ s:List UInt8,s.length+1=((zQ c s).map λ p=>p.length+1).sum
 | []=>by simp[zQ]
 | x::l=>by
  have ih:=pi c l;simp only[zQ];split
  ·simp only[al3,alp,akM,akN]; omega
  ·cases h:zQ c l with
   | nil=>exact absurd h (YT _ _)
   | cons p r=>
    rw[h] at ih;simp only[glue,al3,alp,akR,akN,akM] at ih ⊢;omega
theorem abz {s:List UInt8} (h:(Zl s).2=true):s.length<=27:=by
 unfold Zl at h;split at h
 ·next hh=>rw[←hh.2]; exact lr _
 ·cases h
theorem DN:∀ (ps:List (List UInt8)) (out:List zP),(Yu ps out).2=true->(Yu ps out).1.length=out.length+ps.length/\(ps.map λ p=>p.length+1).sum<=28*ps.length
 | [],out,_=>by simp[Yu]
 | p::ps,out,h=>by
  simp only[Yu] at h ⊢;split at h
  ·next hp=>
   have h1:=abz hp;obtain⟨h2,h3⟩:=DN ps _ h;rw[if_pos hp];simp only[akR,akN,akM,al3,alp] at h2 ⊢;omega
  ·cases h
theorem abD {s:List UInt8} (h:(jf s).2=true):s.length<=28*(jf s).1.length:=by
 unfold jf at h ⊢;split at h
 ·next e=>subst e; simp
 ·next e=>
  rw[if_neg e];obtain⟨h1,h2⟩:=DN _ _ h;have:=pi 44 s;simp only[akM,alE] at h1;omega
theorem Ui {s:List UInt8} (h:(zy s).2=true):s.length<=6:=by
 unfold zy at h;split at h
 ·next hh=>exact hh.2.1
 ·cases h
theorem Dy:∀ (ps:List (List UInt8)) (prev:Int) (out:List ZW),(jz ps prev out).2=true->(ps.map λ p=>p.length+1).sum<=64*ps.length
 | [],_,_,_=>by simp
 | p::ps,prev,out,h=>by
  simp only[jz] at h;cases hq:yH 124 p with
  | none=>rw[hq] at h; cases h
  | some q=>
   rw[hq] at h;simp only at h;split at h
   ·next hs=>
    unfold yR at hs;simp only[akK,akV] at hs;obtain⟨a1,a2,-,-,a5⟩:=hs;have b1:=Ui a1;have b2:=abD a2;obtain⟨q1,q2⟩:=q;have b3:=(mr 124 hq).1;have ih:=Dy ps _ _ h;simp only[al3,alp,akN] at ih ⊢;simp only at b1 b2 a5;omega
   ·cases h
theorem Za {s:List UInt8} (h:zC s=true):s.length<=1920:=by
 unfold zC steps at h;split at h
 ·next e=>subst e; simp
 ·have hs:=pi 47 s;cases hp:zQ 47 s with
  | nil=>exact absurd hp (YT _ _)
  | cons p ps=>
   rw[hp] at h hs;simp only at h;split at h
   ·next hh=>
    obtain⟨rfl,h30⟩:=hh;have:=Dy ps _ _ h;simp only[al3,alp,akM] at hs;omega
   ·cases h
theorem CC (n:Int):∀ (l:List Int) (p:Int),Y1 n (some p) l=true->p<n->(l.length:Int)<=n - 1 - p
 | [],p,_,hp=>by simp; omega
 | x::l,p,h,hp=>by
  simp only[Y1,akK,ale,alX] at h;obtain⟨h1,h2,h3,h4⟩:=h;have:=CC n l x h4 (by omega);simp only[akN];omega
theorem CH {n:Int} {l:List Int} (h:jQ n l=true) (hn:0<=n):(l.length:Int)<=n:=by
 unfold jQ at h;cases l with
 | nil=>simpa using hn
 | cons x l=>
  simp only[Y1,akK,ale,alX] at h;obtain⟨h1,h2,h3,h4⟩:=h;have:=CC n l x h4 (by omega);simp only[akN];omega
theorem CD (n:Int):∀ (l:List Int) (p:Option Int),Y1 n p l=true->∀ x∈l,0<=x/\x<n
 | [],_,_,x,hx=>by cases hx
 | y::l,p,h,x,hx=>by
  simp only[Y1,akK,ale,alX] at h;obtain⟨h1,h2,h3,h4⟩:=h;rcases List.mem_cons.1 hx with rfl|hx
  ·omega
  ·exact CD n l _ h4 x hx
theorem XP {n:Int} {l:List Int} (h:jQ n l=true):∀ x∈l,0<=x/\x<n:=CD n l none h
theorem fK {c:za} {q:zH} (h:zT c q=true):zi q<=1927:=by
 unfold zT at h;simp only[akK] at h;obtain⟨h1,h2,h3,h4⟩:=h;have hc:=yb h1;have hn:=Za h2;simp only[zi,zn];cases he:(q.2.1==([]:List UInt8))<;>rw[he] at h4
 ·simp only[akI,akK] at h4;have:=CH h4.1 (by omega);omega
 ·simp only[akJ,alk] at h4;omega
theorem wj {c:za} {p:zG} (h:jb c p=true):zk p<=1927:=by
 unfold jb at h;simp only[akK,alt] at h;obtain⟨h1,h2,h3,h4,h5⟩:=h;have hc:=yb h1;have:=CH h3 (by omega);simp only[zk,zn];rcases h5 with h5|h5
 ·simp only[alk] at h5;rw[h5];simp only[akM];omega
 ·have hn:=Za h5.1;omega
theorem tv {c:za} {b:yE} (h:jm c b=true):zp b<=3847:=by
 unfold jm at h;simp only[akK] at h;have h1:=fK h.1;have h2:=Za h.2.1;simp only[zp];omega
theorem pr {a b:zH} (h:jd a b=true):a=b:=by
 unfold jd at h;simp only[akK,alk,akV] at h;obtain⟨a1,a2,a3⟩:=a;obtain⟨b1,b2,b3⟩:=b;simp only at h;simp[h.1,h.2.1,h.2.2]
theorem TZ {a b:zv} (h:Zt a b=true):a=b:=by
 unfold Zt YA M2 at h;simp only[akK,alk] at h;obtain⟨a1,a2,⟨a3,a3'⟩,a4,a5,a6,a7⟩:=a;obtain⟨b1,b2,⟨b3,b3'⟩,b4,b5,b6,b7⟩:=b;simp only at h;obtain⟨h1,h2,⟨h3,h3'⟩,h4,h5,h6,h7⟩:=h;have e1:=pr h3';have e2:a4=b4:=pr h4;have e3:=pr h5;subst h1 h2 h3 e1 e2 e3 h6;obtain⟨x1,x2,x3,x4⟩:=a7;obtain⟨y1,y2,y3,y4⟩:=b7;simp only at h7;obtain⟨k1,k2,k3,k4,-⟩:=h7;subst k1 k2 k3 k4;rfl
theorem eH {c:za} {m:zv} (h:yJ c m=true):zj m<=3847:=by
 unfold yJ at h;simp only[akK] at h;obtain⟨h1,h2,h3⟩:=h;have e:=TZ h2;rw[←e];unfold canon;cases k1:(m.1==1)
 ·cases k2:(m.1==2)
  ·cases k3:(m.1==3)
   ·cases k4:(m.1==4)
    ·simp[zj,zp,zi,zk,zn]
    ·simp[zj,zp,zi,zk,zn]
   ·rw[k1,k2,k3] at h3;simp only[akI,akJ,akK] at h3;have:=fK h3.2.1;simp only[akI,akJ,zj,zp,zk,zn,akM];simp only[zi,zn,akM] at this ⊢;omega
  ·rw[k1,k2] at h3;simp only[akI,akJ,akK] at h3;have:=wj h3.1;simp only[akI,akJ,zj,zp,zi,zn,akM];simp only[zk,zn] at this ⊢;omega
 ·rw[k1] at h3;simp only[akJ] at h3;have:=tv h3;simp only[akJ,zj,zi,zk,zn,akM];simp only[zp,zi,zn] at this ⊢;omega
theorem Xr {c:za} {s:zB} (h:zX c s=true):zu s<=3847:=by
 unfold zX at h;simp only[akK] at h;have h1:=fK h.2.2.1;have h2:=Za h.2.2.2;simp only[zu];omega
theorem sv {α:Type} (f:α->Nat) (k:Nat):∀ (l:List α),(∀ x∈l,f x<=k)->(l.map f).sum<=k*l.length
 | [],_=>by simp
 | x::l,h=>by
  have h1:=h x (by simp);have h2:=sv f k l λ y hy=>h y (by simp[hy]);simp only[al3,alp,akN,Nat.mul_add,Nat.mul_one];omega
theorem tF {α:Type} {ok:α->Bool} {lt:α->α->Bool}:∀ {l:List α} {p:Option α},yG ok lt p l=true->∀ x∈l,ok x=true
 | [],_,_,x,hx=>by cases hx
 | y::l,p,h,x,hx=>by
  simp only[yG,akK] at h;rcases List.mem_cons.1 hx with rfl|hx
  ·exact h.1
  ·exact tF h.2.2 x hx
theorem DE {c:za} {l:zV} (h:jA c l=true):zE l<=38560:=by
 unfold jA at h;simp only[akK,akV] at h;have h1:=sv zk 1927 l λ x hx=>wj (tF h.1 x hx);simp only[zE];omega
theorem J0 {c:za} {r:zb} (h:zf c r=true):zz c=true/\(0<=r.1/\r.1<=c.1 - 1)/\(1<=r.2.1/\r.2.1<=60)/\(0<=r.2.2.1/\r.2.2.1<=60)/\zX c r.2.2.2.1=true/\jE r.2.2.2.2.1=true/\
  jA c r.2.2.2.2.2.1=true/\yt r.2.2.2.2.2.2.1=true/\r.2.2.2.2.2.2.2.length<=30/\∀ x∈r.2.2.2.2.2.2.2,j4 c r.1 x=true:=by
 unfold zf at h;simp only[akK,akV,List.all_eq_true] at h;obtain⟨h1,h2,h3,h4,h5,h6,h7,h8,h9,h10⟩:=h;exact⟨h1,h2,h3,h4,h5,h6,h7,h8,by omega,h10⟩
theorem KB {c:za} {r:zb} (h:zf c r=true):ze r<=260000:=by
 obtain⟨h1,h2,h3,h4,h5,h6,h7,h8,h9,h10⟩:=J0 h;have a5:=Xr h5;have a7:=DE h7;unfold jE at h6;unfold yt at h8;simp only[akK,akV] at h6 h8;have a10:=sv Ye 3847 r.2.2.2.2.2.2.2 λ x hx=>by
  have:=h10 x hx;unfold j4 at this;simp only[akK] at this;exact eH this.1
 simp only[ze,Jy,J5,yo];omega
theorem af:zC []=true:=by unfold zC steps; simp
theorem nM (up:List UInt8) (view:Int) (list:zF):zC (j9 up view list)=true:=by
 unfold j9;cases h:(list.all zO && zC (Jj up view list))
 ·exact af
 ·simp only[akK] at h;exact h.2
theorem DZ:zg []=0:=by unfold zg steps; simp
theorem Qg {s:List UInt8} (h:zC s=true):0<=zg s/\zg s<=60:=by
 by_cases e:s=[]
 ·subst e; rw[DZ]; omega
 ·have:=Mg h e; omega
theorem Me (c:zR) (hc:ya c):Ens (z6 (c,())) λ r=>0<=r.1.2.1/\zO r.2.1=true:=by
 unfold z6;refine (zI c 4 hc).bind λ r0 h0 => ?_;refine (zI (c.1,r0.1.2) 4 ⟨hc.1,h0.1⟩).bind λ r1 h1 => ?_;refine (jN (c.1,r1.1.2) _ ⟨hc.1,h1.1⟩ (by simp)).bind λ r2 h2 => ?_;refine (zI (c.1,r2.1.2) 3 ⟨hc.1,h2.1⟩).bind λ r3 h3 => ?_;refine Ens.some ⟨h3.1,?_⟩;have a0:=h0.2.2 (by decide);have a1:=h1.2.2 (by decide);have a3:=h3.2.2 (by decide);have a2:=h2.2;simp only[al4,alB,or_false] at a2;rw[Qc];dsimp only;omega
theorem vy (c:zR) (hc:ya c):Ens (cj (c,())) λ r=>0<=r.1.2.1:=by
 unfold cj;refine (Me c hc).bind λ r0 h0 => ?_;refine (zI (c.1,r0.1.2) 12 ⟨hc.1,h0.1⟩).bind λ r1 h1 => ?_;refine Ens.cond (λ _ => ?_) λ _ => ?_
 ·exact (jN (c.1,r1.1.2) _ ⟨hc.1,h1.1⟩ (by simp)).bind λ r2 h2=>Ens.some h2.1
 refine Ens.cond (λ _ => ?_) λ _ => ?_
 ·exact (jN (c.1,r1.1.2) _ ⟨hc.1,h1.1⟩ (by simp)).bind λ r2 h2=>Ens.some h2.1
 refine Ens.cond (λ _ => ?_) λ _ => ?_
 ·exact (jN (c.1,r1.1.2) _ ⟨hc.1,h1.1⟩ (by simp)).bind λ r2 h2=>Ens.some h2.1
 refine Ens.cond (λ _ => ?_) λ _ => ?_
 ·exact (jN (c.1,r1.1.2) _ ⟨hc.1,h1.1⟩ (by simp)).bind λ r2 h2=>Ens.some h2.1
 exact Ens.some h1.1
theorem DG {a:Int} (h0:0<=a) (h1:a<4):0<=Int.tdiv a 3/\Int.tdiv a 3<=1:=by
 rw[amT h0];omega
theorem QZ (c:zR) (hc:ya c):Ens (LI (c,())) λ r=>0<=r.1.2.1/\zC r.2.1=true:=by
 unfold LI;refine Ens.loop (λ x=>zC x.1=true/\(0<=x.2.1/\x.2.1<=2*x.2.2.1)/\(0<=x.2.2.1/\x.2.2.1<=5)/\0<=x.2.2.2.1.2.1) (λ x=>(6 - x.2.2.1).toNat) ?_ ⟨af,by simp,by simp,hc.2⟩ (by dsimp only; rw[ja]; omega)
 intro rec x hx abX;obtain⟨x1,x2,x3,x4⟩:=hx;refine (zI (c.1,x.2.2.2.1.2) 6 ⟨hc.1,x4⟩).bind λ r1 h1 => ?_;have a1:=h1.2.2 (by decide);refine Ens.cond (λ h => ?_) λ h=>Ens.some ⟨h1.1,x1⟩;have h:x.2.2.1<r1.2.1:=by simpa using h
 refine (zI (c.1,r1.1.2) 4 ⟨hc.1,h1.1⟩).bind λ r2 h2 => ?_;have a2:=h2.2.2 (by decide);have b2:=DG h2.2.1 a2;refine Ens.loop (λ y=>(0<=y.2.1/\y.2.1<=2)/\(y.1.length:Int)<=y.2.1/\0<=y.2.2.1.2.1) (λ y=>(3 - y.2.1).toNat) ?_ ⟨by simp,by simp,h2.1⟩ (by dsimp only; rw[ja]; omega)
 intro rec3 y hy ajJ;obtain⟨y1,y2,y3⟩:=hy;refine (zI (c.1,y.2.2.1.2) 3 ⟨hc.1,y3⟩).bind λ r4 h4 => ?_;have a4:=h4.2.2 (by decide);refine Ens.cond (λ h' => ?_) λ h' => ?_
 ·have h':y.2.1<r4.2.1:=by simpa using h'
  refine (Me (c.1,r4.1.2) ⟨hc.1,h4.1⟩).bind λ r5 h5 => ?_;refine Ens.ite (by simp only[akN,akM]; omega) ?_
  rw[zh (n:=y.2.1+1) (by omega) (by omega)];exact ajJ _ ⟨⟨by dsimp only; omega,by dsimp only; omega⟩,by simp only[akR,akN,akM]; omega,h5.1⟩ (by dsimp only; omega)
 ·have e1:wr (x.2.1+1)=x.2.1+1:=zh (by omega) (by omega);have e2:wr (Int.tdiv r2.2.1 3)=Int.tdiv r2.2.1 3:=zh (by omega) (by omega);have e3:wr (x.2.1+1+Int.tdiv r2.2.1 3)=x.2.1+1+Int.tdiv r2.2.1 3:=zh (by omega) (by omega);have ac1:=Za x1;rw[e1,e2,e3,bE x.1 _ y.1 (by omega) (by omega) (by omega),akH,zh (n:=x.2.2.1+1) (by omega) (by omega)];exact abX _ ⟨nM _ _ _,⟨by dsimp only; omega,by dsimp only; omega⟩,⟨by dsimp only; omega,by dsimp only; omega⟩,h4.1⟩ (by dsimp only; omega)
theorem vz (c:zR) (n:Int) (hc:ya c) (hn:0<n):Ens (cl (c,n,())) λ r=>0<=r.1.2.1/\r.2.1.length<=8:=by
 unfold cl;refine Ens.loop (λ x=>(0<=x.2.1/\x.2.1<=7)/\(x.1.length:Int)<=x.2.1/\0<=x.2.2.1.2.1) (λ x=>(8 - x.2.1).toNat) ?_ ⟨by simp,by simp,hc.2⟩ (by dsimp only; rw[ja]; omega)
 intro rec x hx abX;obtain⟨x1,x2,x3⟩:=hx;refine (zI (c.1,x.2.2.1.2) 8 ⟨hc.1,x3⟩).bind λ r1 h1 => ?_;have a1:=h1.2.2 (by decide);refine Ens.cond (λ h => ?_) λ h => ?_
 ·have h:x.2.1<r1.2.1:=by simpa using h
  refine (zI (c.1,r1.1.2) n ⟨hc.1,h1.1⟩).bind λ r2 h2 => ?_;have hl:=bo x.1 r2.2.1;rw[bM x.1 _ (by omega),akH,zh (n:=x.2.1+1) (by omega) (by omega)];exact abX _ ⟨⟨by dsimp only; omega,by dsimp only; omega⟩,by dsimp only; omega,h2.1⟩ (by dsimp only; omega)
 ·refine (YN (c.1,r1.1.2) 12 ⟨hc.1,h1.1⟩).bind λ r4 h4 => ?_;refine Ens.cond (λ _ => ?_) λ _=>Ens.some ⟨h4,by dsimp only; omega⟩
  refine (jN (c.1,r4.1.2) _ ⟨hc.1,h4⟩ (by simp)).bind λ r5 h5 => ?_;refine Ens.ite (by simp only[akN,akM]; omega) (Ens.some ⟨h5.1,?_⟩)
  simp only[akR,akN,akM];omega
theorem ns (c:zR) (conf:za) (name:List UInt8) (hc:ya c) (hN:conf.1<=8) (hn:zC name=true):
  Ens (qW (c,conf,name,())) λ r=>0<=r.1.2.1/\r.2.1.1=zg name/\r.2.1.2.1=name/\r.2.1.2.2.length<=8:=by
 have hl:=Za hn;unfold qW;dsimp only;rw[Y5 name (by omega),akH];refine Ens.cond (λ _=>Ens.some ⟨hc.2,rfl,rfl,by simp⟩) λ _ => ?_;refine Ens.loop (λ x=>(0<=x.1/\x.1<=8)/\(x.2.1.2.2.length:Int)<=x.1/\x.2.1.1=zg name/\x.2.1.2.1=name) (λ x=>(9 - x.1).toNat) ?_ ⟨by simp,by simp,rfl,rfl⟩ (by dsimp only; rw[ja]; omega)
 intro rec x hx abX;obtain⟨x1,x2,x3,x4⟩:=hx;refine Ens.cond (λ h => ?_) λ h => ?_
 ·have h:x.1<conf.1:=by simpa using h
  refine Ens.ite (by simp only[akN,akM]; omega) ?_
  rw[zh (n:=x.1+1) (by omega) (by omega)];exact abX _ ⟨⟨by dsimp only; omega,by dsimp only; omega⟩,by simp only[akR,akN,akM]; omega,x3,x4⟩ (by dsimp only; omega)
 ·refine (YN c 2 hc).bind λ r2 h2 => ?_;refine Ens.cond (λ _ => ?_) λ _=>Ens.some ⟨h2,x3,x4,by dsimp only; omega⟩
  refine Ens.cond (λ h0 => ?_) λ _=>Ens.some ⟨h2,x3,x4,by dsimp only; omega⟩
  have h0:(x.2.1.2.2.length:Int)>0:=by simpa using h0
  refine (zI (c.1,r2.1.2) _ ⟨hc.1,h2⟩).bind λ r3 h3 => ?_;have a3:=h3.2.2 h0;have b3:=h3.2.1;have e1:wr (r3.2.1+1)=r3.2.1+1:=zh (by omega) (by omega);refine Ens.ite (by omega) ?_;refine Ens.ite (by simp only[al0,al7]; omega) ?_
  refine Ens.ite (by rw[e1]; omega) ?_
  refine Ens.ite (by simp only[akR,al0,al7,akM]; omega) ?_
  refine Ens.some ⟨h3.1,x3,x4,?_⟩;rw[e1];simp only[akR,al0,al7,akM];omega
theorem Ba {q:zH} {name:List UInt8} (h1:q.2.1=name) (h2:q.2.2.length<=8) (hn:name.length<=1920):zi q<=1928:=by
 simp only[zi,zn,h1]; omega
theorem nt (c:zR) (conf:za) (hc:ya c) (hN:conf.1<=8):Ens (qX (c,conf,())) λ r=>0<=r.1.2.1/\zp r.2.1<=4000:=by
 unfold qX;refine (QZ c hc).bind λ r0 h0 => ?_;have hl:=Za h0.2;have hv:=Qg h0.2;refine (ns (c.1,r0.1.2) conf r0.2.1 ⟨hc.1,h0.1⟩ hN h0.2).bind λ r1 h1 => ?_;obtain⟨k1,k2,k3,k4⟩:=h1;have hw:=Ba k3 k4 hl;refine Ens.loop (λ y=>(0<=y.2.1/\y.2.1<=2)/\(y.1.length:Int)<=y.2.1/\0<=y.2.2.1.2.1) (λ y=>(3 - y.2.1).toNat) ?_ ⟨by simp,by simp,k1⟩ (by dsimp only; rw[ja]; omega)
 intro rec y hy abX;obtain⟨y1,y2,y3⟩:=hy;refine (zI (c.1,y.2.2.1.2) 3 ⟨hc.1,y3⟩).bind λ r3 h3 => ?_;have a3:=h3.2.2 (by decide);refine Ens.cond (λ h' => ?_) λ h' => ?_
 ·have h':y.2.1<r3.2.1:=by simpa using h'
  refine (Me (c.1,r3.1.2) ⟨hc.1,h3.1⟩).bind λ r4 h4 => ?_;refine Ens.ite (by simp only[akN,akM]; omega) ?_
  rw[zh (n:=y.2.1+1) (by omega) (by omega)];exact abX _ ⟨⟨by dsimp only; omega,by dsimp only; omega⟩,by simp only[akR,akN,akM]; omega,h4.1⟩ (by dsimp only; omega)
 ·refine (zI (c.1,r3.1.2) 4 ⟨hc.1,h3.1⟩).bind λ r5 h5 => ?_;have a5:=h5.2.2 (by decide);have b5:=DG h5.2.1 a5;have e1:wr (r1.2.1.1+1)=r1.2.1.1+1:=zh (by omega) (by omega);have e2:wr (Int.tdiv r5.2.1 3)=Int.tdiv r5.2.1 3:=zh (by omega) (by omega);have e3:wr (r1.2.1.1+1+Int.tdiv r5.2.1 3)=r1.2.1.1+1+Int.tdiv r5.2.1 3:=zh (by omega) (by omega);have hb:=tu conf r1.2.1 (r1.2.1.1+1+Int.tdiv r5.2.1 3) y.1 (by omega);rw[e1,e2,e3,gH conf r1.2.1 _ y.1 (by omega) (by omega) (by omega),akH];exact Ens.some ⟨h5.1,by dsimp only; omega⟩
theorem nW {G:(Int×zR×zG×Unit->Option (zR×zG×Unit))->Int×zR×zG×Unit->Option (zR×zG×Unit)} (b:List UInt8) (n:Int) (hb:b.length<=big) (nm:List UInt8) (p:zG) (i h:Int) (hi:0<=i) (hp:p.2.1=nm) (hp2:p.2.2=[])
  (hG:∀ rec x,G rec x=(zl ((b,x.2.1.2),7,())).bind λ r5=>bif decide (x.1<wr (1+r5.2.1)) then (yQ (n,4,())).bind λ r6=>(zl ((b,r5.1.2),r6.1,())).bind λ r7=>(Yd (x.2.2.1.2.2,r7.2.1,())).bind λ r8=>rec (wr (x.1+1),(b,r7.1.2),(x.2.2.1.1,x.2.2.1.2.1,r8.1),()) else some ((b,r5.1.2),x.2.2.1,())):
  Ens (iter G fuel (0,(b,i,h),p,())) λ r=>0<=r.1.2.1/\r.2.1.2.1=nm/\r.2.1.2.2.length<=7:=by
 refine Ens.loop (λ x=>(0<=x.1/\x.1<=7)/\0<=x.2.1.2.1/\x.2.2.1.2.1=nm/\(x.2.2.1.2.2.length:Int)<=x.1) (λ x=>(8 - x.1).toNat) ?_ ⟨by simp,hi,hp,by simp[hp2]⟩ (by dsimp only; rw[ja]; omega)
 intro rec x hx abX;obtain⟨x1,x2,x3,x4⟩:=hx;rw[hG];refine (zI (b,x.2.1.2) 7 ⟨hb,x2⟩).bind λ r5 h5 => ?_;have a5:=h5.2.2 (by decide);have b5:=h5.2.1;rw[zh (n:=1+r5.2.1) (by omega) (by omega)];refine Ens.cond (λ h => ?_) λ h=>Ens.some ⟨h5.1,x3,by dsimp only; omega⟩
 have h:x.1<1+r5.2.1:=by simpa using h
 rw[MY,akH];refine (zI (b,r5.1.2) _ ⟨hb,h5.1⟩).bind λ r7 h7 => ?_;have hl:=bo x.2.2.1.2.2 r7.2.1;rw[bM _ _ (by omega),akH,zh (n:=x.1+1) (by omega) (by omega)];exact abX _ ⟨⟨by dsimp only; omega,by dsimp only; omega⟩,h7.1,x3,by dsimp only; omega⟩ (by dsimp only; omega)
theorem ne (c:zR) (conf:za) (hc:ya c):Ens (qO (c,conf,())) λ r=>0<=r.1.2.1/\zC r.2.1.2.1=true/\r.2.1.2.2.length<=7:=by
 unfold qO;refine (QZ c hc).bind λ r0 h0 => ?_;have hl:=Za h0.2;dsimp only;rw[Y5 r0.2.1 (by omega),akH];refine (YN (c.1,r0.1.2) 4 ⟨hc.1,h0.1⟩).bind λ r2 h2 => ?_;refine Ens.cond (λ _ => ?_) λ _ => ?_
 ·refine (zI (c.1,r2.1.2) 4 ⟨hc.1,h2⟩).bind λ r3 h3 => ?_;refine (nW c.1 conf.1 hc.1 [] _ r3.1.2.1 r3.1.2.2 h3.1 rfl rfl (λ _ _=>rfl)).mono λ r hr=>⟨hr.1,by rw[hr.2.1]; exact af,hr.2.2⟩
 ·refine Ens.cond (λ _ => ?_) λ _ => ?_
  ·refine (zI (c.1,r2.1.2) 4 ⟨hc.1,h2⟩).bind λ r3 h3 => ?_;refine (nW c.1 conf.1 hc.1 [] _ r3.1.2.1 r3.1.2.2 h3.1 rfl rfl (λ _ _=>rfl)).mono λ r hr=>⟨hr.1,by rw[hr.2.1]; exact af,hr.2.2⟩
  ·refine (nW c.1 conf.1 hc.1 r0.2.1 _ r2.1.2.1 r2.1.2.2 h2 rfl rfl (λ _ _=>rfl)).mono λ r hr=>⟨hr.1,by rw[hr.2.1]; exact h0.2,hr.2.2⟩
theorem S8 (c:zR) (l:List (List UInt8)) (hc:ya c) (hl:0<l.length):Ens (kP (c,l,())) λ r=>0<=r.1.2.1/\r.2.1∈l:=by
 unfold kP;refine (zI c _ hc).bind λ r hr => ?_;have h:r.2.1<(l.length:Int):=hr.2.2 (show (0:Int)<(l.length:Int) by omega);have h0:0<=r.2.1:=hr.2.1;refine Ens.ite ⟨h0,h⟩ (Ens.some ⟨hr.1,Bh (e:=.str) ?_⟩);show r.2.1.toNat<l.length;omega
theorem Tu (c:zR) (s:List UInt8) (hc:ya c) (hs:s.length<=100000):Ens (li (c,s,())) λ r=>0<=r.1.2.1/\r.2.1.length<=s.length+1:=by
 unfold li;dsimp only;have e0:wr ((s.length:Int)+1)=(s.length:Int)+1:=zh (by omega) (by omega);rw[e0];refine (zI c _ hc).bind λ r0 h0 => ?_;have a0:=h0.2.2 (by omega);have b0:=h0.2.1;refine (zI (c.1,r0.1.2) 5 ⟨hc.1,h0.1⟩).bind λ r1 h1 => ?_;refine Ens.cond (λ _ => ?_) λ _ => ?_
 ·refine Ens.ite (by omega) (Ens.some ⟨h1.1,?_⟩);simp only[al0,al7];omega
 ·refine Ens.cond (λ _ => ?_) λ _=>Ens.some ⟨h1.1,by dsimp only; omega⟩
  refine Ens.ite (by omega) ?_;refine (S8 (c.1,r1.1.2) _ ⟨hc.1,h1.1⟩ (by simp)).bind λ r2 h2 => ?_;have hp:r2.2.1.length=1:=by
   have:=h2.2;simp only[al4,alB,or_false] at this;rcases this with h|h|h|h|h|h|h<;>rw[h]<;>rfl
  refine Ens.ite (by simp only[al0,al7]; omega) ?_
  refine Ens.ite (by omega) ?_;refine Ens.ite (by simp only[akR,al0,al7]; omega) (Ens.some ⟨h2.1,?_⟩)
  simp only[akR,al0,al7];omega
theorem em (c:zR) (hc:ya c):Ens (MV (c,())) λ r=>0<=r.1.2.1/\r.2.1.length<=1930:=by
 unfold MV;refine (YN c 20 hc).bind λ r0 h0 => ?_;refine Ens.cond (λ _ => ?_) λ _ => ?_
 ·refine Ens.loop (λ x=>(1<=x.2.1/\x.2.1<=32)/\(x.1.length:Int)<=8*x.2.1/\0<=x.2.2.1.2.1) (λ x=>(33 - x.2.1).toNat) ?_ ⟨by simp,by simp,h0⟩ (by dsimp only; rw[ja]; omega)
  intro rec x hx abX;obtain⟨x1,x2,x3⟩:=hx;refine (zI (c.1,x.2.2.1.2) 2 ⟨hc.1,x3⟩).bind λ r2 h2 => ?_;have a2:=h2.2.2 (by decide);have b2:=h2.2.1;rw[zh (n:=30+r2.2.1) (by omega) (by omega)];refine Ens.cond (λ h => ?_) λ h=>Ens.some ⟨h2.1,by dsimp only; omega⟩
  have h:x.2.1<=30+r2.2.1:=by simpa using h
  refine Ens.ite (by simp only[akN,akM]; omega) ?_
  obtain⟨u,hu⟩:∃ u:Nat,x.2.1=(u:Int):=⟨x.2.1.toNat,by omega⟩
  have hd:=dl u (by omega);rw[hu,ME u (by omega),akH];refine Ens.ite (by simp only[akR,akN,akM]; omega) ?_
  refine Ens.ite (by simp only[akR,akN,akM]; omega) ?_
  rw[←hu,zh (n:=x.2.1+1) (by omega) (by omega)];exact abX _ ⟨⟨by dsimp only; omega,by dsimp only; omega⟩,by simp only[akR,akN,akM]; omega,h2.1⟩ (by dsimp only; omega)
 ·refine (QZ (c.1,r0.1.2) ⟨hc.1,h0⟩).bind λ r4 h4 => ?_;have hl:=Za h4.2;exact (Tu (c.1,r4.1.2) r4.2.1 ⟨hc.1,h4.1⟩ (by omega)).bind λ r5 h5=>Ens.some ⟨h5.1,by have:=h5.2; dsimp only; omega⟩
theorem vt (c:zR) (conf:za) (hc:ya c):Ens (bX (c,conf,())) λ r=>0<=r.1.2.1/\r.2.1.2.1.length<=1930/\r.2.1.2.2.length<=8:=by
 unfold bX;refine (ne c conf hc).bind λ r0 h0 => ?_;have hl:=Za h0.2.1;have hw:=h0.2.2;refine (zI (c.1,r0.1.2) 10 ⟨hc.1,h0.1⟩).bind λ r1 h1 => ?_;refine Ens.cond (λ _ => ?_) λ _ => ?_
 ·exact (jN (c.1,r1.1.2) _ ⟨hc.1,h1.1⟩ (by simp)).bind λ r2 h2=>Ens.some ⟨h2.1,by dsimp only; omega,by dsimp only; omega⟩
 refine Ens.cond (λ _ => ?_) λ _ => ?_
 ·exact (vz (c.1,r1.1.2) 7 ⟨hc.1,h1.1⟩ (by decide)).bind λ r2 h2=>Ens.some ⟨h2.1,by dsimp only; omega,h2.2⟩
 refine Ens.cond (λ _ => ?_) λ _ => ?_
 ·exact (em (c.1,r1.1.2) ⟨hc.1,h1.1⟩).bind λ r2 h2=>Ens.some ⟨h2.1,h2.2,by dsimp only; omega⟩
 exact Ens.some ⟨h1.1,by dsimp only; omega,by dsimp only; omega⟩
theorem S1 (c:zR) (conf:za) (hc:ya c) (hN:conf.1<=8):Ens (kE (c,conf,())) λ r=>0<=r.1.2.1/\zj r.2.1<=4000:=by
 unfold kE;refine (zI c 4 hc).bind λ r0 h0 => ?_;refine Ens.cond (λ _ => ?_) λ _ => ?_
 ·refine (nt (c.1,r0.1.2) conf ⟨hc.1,h0.1⟩ hN).bind λ r1 h1=>Ens.some ⟨h1.1,?_⟩;have:=h1.2;simp only[zj,zk,zi,zn,akM];omega
 refine Ens.cond (λ _ => ?_) λ _ => ?_
 ·refine (ne (c.1,r0.1.2) conf ⟨hc.1,h0.1⟩).bind λ r2 h2 => ?_;have hl:=Za h2.2.1;have hw:=h2.2.2;refine Ens.cond (λ _ => ?_) λ _ => ?_
  ·have hn:=nL [] 1 [] (by decide);rw[bE [] 1 [] (by simp) (by decide) (by simp),Option.bind_some];refine Ens.some ⟨h2.1,?_⟩;simp only[zj,zk,zp,zi,zn,akM] at hn ⊢;omega
  ·refine Ens.some ⟨h2.1,?_⟩;simp only[zj,zk,zp,zi,zn,akM];omega
 refine Ens.cond (λ _ => ?_) λ _ => ?_
 ·refine (zI (c.1,r0.1.2) 6 ⟨hc.1,h0.1⟩).bind λ r4 h4 => ?_;refine (QZ (c.1,r4.1.2) ⟨hc.1,h4.1⟩).bind λ r5 h5 => ?_;have hl:=Za h5.2;refine (ns (c.1,r5.1.2) conf r5.2.1 ⟨hc.1,h5.1⟩ hN h5.2).bind λ r6 h6 => ?_;obtain⟨k1,k2,k3,k4⟩:=h6;have hw:=Ba k3 k4 hl;refine (zI (c.1,r6.1.2) _ ⟨hc.1,k1⟩).bind λ r7 h7=>Ens.some ⟨h7.1,?_⟩;simp only[zj,zk,zp,zn,akM];simp only[zi,zn,akM] at hw ⊢;omega
 ·exact (Me (c.1,r0.1.2) ⟨hc.1,h0.1⟩).bind λ r8 h8=>Ens.some ⟨h8.1,by simp[zj,zk,zp,zi,zn]⟩
theorem S2 (c:zR) (conf:za) (hc:ya c) (hN:conf.1<=8):Ens (kD (c,conf,())) λ r=>0<=r.1.2.1/\zj r.2.1<=8000:=by
 unfold kD;refine (S1 c conf hc hN).bind λ r0 h0 => ?_;have hw:=h0.2;refine (zI (c.1,r0.1.2) 12 ⟨hc.1,h0.1⟩).bind λ r1 h1 => ?_;refine Ens.cond (λ _ => ?_) λ _ => ?_
 ·exact (zI (c.1,r1.1.2) 7 ⟨hc.1,h1.1⟩).bind λ r2 h2=>Ens.some ⟨h2.1,by simp only[zj] at hw ⊢; omega⟩
 refine Ens.cond (λ _ => ?_) λ _ => ?_
 ·exact (jN (c.1,r1.1.2) _ ⟨hc.1,h1.1⟩ (by simp)).bind λ r2 h2=>Ens.some ⟨h2.1,by simp only[zj] at hw ⊢; omega⟩
 refine Ens.cond (λ _ => ?_) λ _ => ?_
 ·exact (jN (c.1,r1.1.2) _ ⟨hc.1,h1.1⟩ (by simp)).bind λ r2 h2=>Ens.some ⟨h2.1,by simp only[zj] at hw ⊢; omega⟩
 refine Ens.cond (λ _ => ?_) λ _ => ?_
 ·refine (vt (c.1,r1.1.2) conf ⟨hc.1,h1.1⟩).bind λ r2 h2=>Ens.some ⟨h2.1,?_⟩;have:=h2.2;simp only[zj,zk,zn] at hw ⊢;omega
 refine Ens.cond (λ _ => ?_) λ _ => ?_
 ·exact (vy (c.1,r1.1.2) ⟨hc.1,h1.1⟩).bind λ r2 h2=>Ens.some ⟨h2,by simp only[zj] at hw ⊢; omega⟩
 exact Ens.some ⟨h1.1,by dsimp only; omega⟩
def Kp (c:za) (r r':zb):Prop:=zf c r'=true/\r'.1=r.1
theorem Kp.refl {c:za} {r:zb} (h:zf c r=true):Kp c r r:=⟨h,rfl⟩
theorem Kp.trans {c:za} {a b d:zb} (h1:Kp c a b) (h2:Kp c b d):Kp c a d:=⟨h2.1,h2.2.trans h1.2⟩
theorem m9 {c:za} {r:zb} (h:zf c r=true) (to:Int) (m:zv):Kp c r (jk c r to m).1:=by
 have e:=lq to m h;cases hf:(jk c r to m).2 with
 | true=>
  rw[e] at hf ⊢;exact sx hf
 | false=>
  unfold jk at hf ⊢;cases hc:(!decide ((r.2.2.2.2.2.2.2.length:Int)≥30) && j4 c r.1 (to,m))
  ·exact Kp.refl h
  ·rw[hc] at hf; cases hf
theorem eg {c:za} {r:zb} (h:zf c r=true) (s:zB):Kp c r (zm c r s).1/\(zm c r s).1.2.1=r.2.1:=by
 cases hf:(zm c r s).2 with
 | true=>obtain⟨a,b,d⟩:=cv h hf; exact⟨⟨a,b⟩,d⟩
 | false=>rw[abR hf]; exact⟨Kp.refl h,rfl⟩
theorem ed {c:za} {r:zb} {v:Int} (h:zf c r=true) (hv:1<=v/\v<=60):Kp c r (zJ r v):=⟨dZ h hv,rfl⟩
theorem SV {c:za} {r:zb} (h:zf c r=true) (q:zH):Kp c r (top c r q).1:=by
 obtain⟨k1,k2⟩:=eg h (see c r.2.2.2.1 q);have hv:=Mu h;unfold top;cases (zm c r (see c r.2.2.2.1 q)).2
 ·exact Kp.refl h
 ·simp only[akO,akI];by_cases h60:q.1+1>60
  ·simp only[h60,akP,akJ]; exact k1
  ·have k3:Kp c r (zJ (zm c r (see c r.2.2.2.1 q)).1 (max (zm c r (see c r.2.2.2.1 q)).1.2.1 (q.1+1))):=k1.trans (ed k1.1 (by rw[k2]; omega))
   simp only[h60,akQ,akI];cases (yr c (q.1+1)==r.1)
   ·exact k3.trans (m9 k3.1 _ _)
   ·exact k3
theorem SN {c:za} {r:zb} (h:zf c r=true) (v:Int) (name:List UInt8) (force:Bool):Kp c r (ZX c r v name force).1:=by
 unfold ZX;cases (((yz r.2.2.2.2.2.1 v name).2.2.length:Int)==0)
 ·cases (name==([]:List UInt8))
  ·simp only[akI];cases (yr c v==r.1)
   ·simp only[akI];cases (!force && decide ((YD (under c v r.1) (yz r.2.2.2.2.2.1 v name).2.2:Int)<((under c v r.1).length:Int)))
    ·exact m9 h _ _
    ·exact Kp.refl h
   ·simp only[akJ];cases (Zv c (yz r.2.2.2.2.2.1 v name)).2
    ·exact Kp.refl h
    ·exact SV h _
  ·exact Kp.refl h
 ·exact Kp.refl h
theorem m7 {c:za} {r:zb} (h:zf c r=true) (v:Int) (name:List UInt8) (force:Bool):Kp c r (climb c r v name force).1:=by
 unfold climb;cases (zf c r && (ZX c r v name force).2)
 ·exact Kp.refl h
 ·exact SN h v name force
theorem QX {c:za} {r:zb} {t:zV} (h:zf c r=true) (ht:jA c t=true):Kp c r (yU r t):=⟨lG h ht,rfl⟩
theorem SW {c:za} {r0 w:zb} (h0:zf c r0=true) (h:zf c w=true) (e:w.1=r0.1) (name:List UInt8):Kp c r0 (voted c r0 w name).1:=by
 unfold voted;cases ht:(zD c w.2.2.2.2.2.1 (zg name,name,[w.1])).2
 ·exact Kp.refl h0
 ·have k:=QX (t:=(zD c w.2.2.2.2.2.1 (zg name,name,[w.1])).1) h (Qa ht);have k2:=k.trans (m7 k.1 (zg name) name false);exact⟨k2.1,k2.2.trans e⟩
theorem vn {c:za} {r:zb} (h:zf c r=true) (b:yE):Kp c r (jM c r b).1:=by
 unfold jM;rw[h];simp only[akO,akI];cases hbo:jm c b
 ·exact Kp.refl h
 ·simp only[akO,akI];have hn:zC b.1=true/\b.1≠[]:=by
   unfold jm at hbo;simp only[akK,bne_iff_ne,ne_eq] at hbo;exact⟨hbo.2.1,hbo.2.2.1⟩
  have hnv:=Mg hn.1 hn.2;cases decide (zg b.1≥r.2.1)
  ·simp only[akI];obtain⟨k1,_⟩:=eg h (see c r.2.2.2.1 b.2);cases (zm c r (see c r.2.2.2.1 b.2)).2
   ·exact Kp.refl h
   ·exact k1
  ·simp only[akJ];have ki:=ed (v:=zg b.1) h hnv;obtain⟨k1,_⟩:=eg ki.1 (vote c (see c r.2.2.2.1 b.2) b);have k1:=ki.trans k1;cases (zm c (zJ r (zg b.1)) (vote c (see c r.2.2.2.1 b.2) b)).2
   ·exact Kp.refl h
   ·simp only[akO,akI];cases Zs c (see c r.2.2.2.1 b.2) b
    ·exact k1
    ·exact SW h k1.1 k1.2 b.1
theorem SO {c:za} {r:zb} (h:zf c r=true) (p:zG):Kp c r (NE c r p).1:=by
 unfold NE;rw[h];simp only[akO,akI];cases jb c p
 ·exact Kp.refl h
 cases (p.2.1==([]:List UInt8))
 ·cases decide (p.1<r.2.1)
  ·simp only[akO,akI];cases ht:(zD c r.2.2.2.2.2.1 p).2
   ·exact Kp.refl h
   ·have k:=QX (t:=(zD c r.2.2.2.2.2.1 p).1) h (Qa ht);exact k.trans (m7 k.1 p.1 p.2.1 false)
  ·exact Kp.refl h
 ·exact Kp.refl h
theorem SR {c:za} {r:zb} (h:zf c r=true):Kp c r (late c r).1:=by
 have hv:=Mu h;unfold late;rw[h];simp only[akO,akI];by_cases h60:r.2.1≥60
 ·simp only[h60,akP,akJ]; exact Kp.refl h
 ·have ki:=ed (v:=r.2.1+1) h (by omega);simp only[h60,akQ,akI];cases (yr c (r.2.1+1)==r.1)
  ·simp only[akI];have k:=ki.trans (m9 ki.1 (yr c (r.2.1+1)) (3,r.2.1+1,([],0,[],[]),(0,[],[]),r.2.2.2.1.2.2.1,r.1,0,0,0,0));cases (jk c (zJ r (r.2.1+1)) (yr c (r.2.1+1)) (3,r.2.1+1,([],0,[],[]),(0,[],[]),r.2.2.2.1.2.2.1,r.1,0,0,0,0)).2
   ·exact Kp.refl h
   ·exact k
  ·simp only[akJ];cases ht:(zD c r.2.2.2.2.2.1 (r.2.1+1,[],[r.1])).2
   ·exact Kp.refl h
   ·exact ki.trans (QX ki.1 (Qa ht))
theorem m8 {c:za} {r:zb} (hr:zf c r=true) (m:zv):∀ (n i:Nat) (out:zb),Kp c r out->Kp c r (Jw c r m n i out).1
 | 0,_,out,h=>h
 | n+1,i,out,h=>by
  simp only[Jw];cases ((i:Int)==r.1)
  ·simp only[akI];cases ht:(tell c out i m).2
   ·exact Kp.refl hr
   ·exact m8 hr m n (i+1) _ (h.trans (sx ht))
  ·exact m8 hr m n (i+1) out h
theorem SU {c:za} {r:zb} (h:zf c r=true) (m:zv):Kp c r (LL c r m).1:=by
 unfold LL;rw[h];exact m8 h m _ 0 r (Kp.refl h)
theorem Uy {p:zF} {x:zP} (hp:jE p=true):jE (Yi p x).1=true:=by
 unfold Yi Kv;generalize ji (λ y => !jC y x) 0 p=k;cases h:jE (p.take k++x::p.drop k)
 ·exact hp
 ·exact h
theorem Bk {c:za} {a v k:Int} {sf:zB} {p p':zF} {rest:zV×yF×j0} (h:zf c (a,v,k,sf,p,rest)=true) (hp:jE p'=true):zf c (a,v,k,sf,p',rest)=true:=by
 unfold zf at h ⊢;simp only[akK] at h ⊢;obtain⟨a1,a2,a3,a4,a5,a6,a7⟩:=h;exact⟨a1,a2,a3,a4,a5,hp,a7⟩
theorem SP {c:za} {r:zb} (h:zf c r=true) (x:zP):Kp c r (NG c r x).1:=by
 obtain⟨a,v,k,sf,p,rest⟩:=r;have hp:=(J0 h).2.2.2.2.2.1;unfold NG;rw[h];exact⟨Bk h (Uy hp),rfl⟩
theorem Cv {c:za} (h:zz c=true):zX c Yg=true:=by
 unfold zX Yg zT;simp[h,af,DZ]
theorem Xo {c:za} {s:List UInt8} (h:(Yn c s).2=true):zX c (Yn c s).1=true:=by
 unfold Yn at h ⊢;cases hc:((jr s).1.2 && ((jr s).1.1==(s.length:Int) && zX c (jr s).2))
 ·rw[hc] at h; cases h
 ·simp only[akK] at hc;exact hc.2.2
theorem vF (c:za) (s:List UInt8):∀ (n at_:Nat) (old:zB),zX c old=true->zX c (jV c s n at_ old).1=true
 | 0,_,_,h=>h
 | n+1,at_,old,h=>by
  simp only[jV];cases hc:((yg s at_).2.2 && (decide ((yg s at_).2.1<(s.length:Int)) && (s.getD (yg s at_).2.1.toNat 0==10 && (Yn c (yg s at_).1).2)))
  ·exact h
  ·simp only[akK] at hc;exact vF c s n _ _ (Xo hc.2.2.2)
theorem TB {c:za} (h:zz c=true) (s:List UInt8):zX c (JN c s).1=true:=vF c s _ 0 Yg (Cv h)
theorem Xq {c:za} {s:zB} (h:zX c s=true):(0<=s.1/\s.1<=60)/\(0<=s.2.2.1.1/\s.2.2.1.1<=60):=by
 unfold zX at h;simp only[akK,akV] at h;refine⟨h.1,?_⟩;have hq:=h.2.2.1;unfold zT at hq;simp only[akK,alk] at hq;have:=Qg hq.2.1;omega
theorem vq {c:za} {r:zb} (h:zf c r=true):Kp c r (rise c r):=by
 obtain⟨h1,h2,h3,h4,h5,h6,h7,h8,h9,h10⟩:=J0 h;unfold rise;rw[h];simp only[akJ];refine⟨?_,rfl⟩;have hs:=TB h1 r.2.2.2.2.2.2.1.1;obtain⟨b1,b2,b3⟩:=vJ c r.2.2.2.2.2.2.1.1;obtain⟨s1,s2⟩:=Xq hs;unfold yt at h8;simp only[akK,akV] at h8;unfold zf;simp only[akK,akV];have hv:1<=be (JN c r.2.2.2.2.2.2.1.1).1/\be (JN c r.2.2.2.2.2.2.1.1).1<=60:=by
  unfold be;rw[zh (by omega) (by omega)];omega
 refine⟨h1,h2,hv,by omega,hs,rfl,rfl,?_,by simp,by simp⟩;unfold yt;simp only[akK,akV,al0];omega
theorem SS {c:za} {r:zb} (h:zf c r=true):Kp c r (jX c r).1:=by
 obtain⟨h1,h2,h3,h4,h5,h6,h7,h8,h9,h10⟩:=J0 h;unfold jX;rw[h];simp only[akJ];refine⟨?_,rfl⟩;unfold zf;simp only[akK,akV];refine⟨h1,h2,h3,h4,h5,h6,h7,?_,by simp,by simp⟩;unfold qZ;rw[if_pos h8];unfold yt at h8 ⊢;simp only[akK,akV] at h8 ⊢;omega
noncomputable def ct (q:zH) (w:zb) (v:Int):zb:=zJ w (max v (min (q.1+1) 60))
noncomputable def NH (c:za) (r:zb) (v:Int) (q:zH) (who:Int):zb×Bool:=
 bif !zf c r then (r,false) else bif !(decide (v≥1) && decide (v<=60)) then (r,false) else bif !zT c q then (r,false) else bif !(decide (who≥0) && decide (who<=wr (c.1 - 1))) then (r,false) else
 bif (zm c r (see c r.2.2.2.1 q)).2 then
  (bif yr c v==r.1 then
   (bif decide (v≥r.2.1) then
    (bif !(zD c (zm c r (see c r.2.2.2.1 q)).1.2.2.2.2.2.1 (v,[],[who])).2 then (r,false) else
     bif decide (((yz (zD c (zm c r (see c r.2.2.2.1 q)).1.2.2.2.2.2.1 (v,[],[who])).1 v []).2.2.length:Int)≥Jn c) then
      (ct q (yU (zm c r (see c r.2.2.2.1 q)).1 (zD c (zm c r (see c r.2.2.2.1 q)).1.2.2.2.2.2.1 (v,[],[who])).1) (max (zm c r (see c r.2.2.2.1 q)).1.2.1 v),true)
     else (ct q (yU (zm c r (see c r.2.2.2.1 q)).1 (zD c (zm c r (see c r.2.2.2.1 q)).1.2.2.2.2.2.1 (v,[],[who])).1) (zm c r (see c r.2.2.2.1 q)).1.2.1,true))
    else (ct q (zm c r (see c r.2.2.2.1 q)).1 (zm c r (see c r.2.2.2.1 q)).1.2.1,true))
   else (ct q (zm c r (see c r.2.2.2.1 q)).1 (zm c r (see c r.2.2.2.1 q)).1.2.1,true))
 else (r,false)
theorem abc (a b:Int):yf (a,b,())=some (min a b,()):=by
 rw[ng];congr 2;split<;>omega
theorem aay (c:za) (r:zb) (v:Int) (q:zH) (who:Int) (hr:ze r<=2000000) (hq:zi q<=2000000):gS (c,r,v,q,who,())=some ((NH c r v q who).1,(NH c r v q who).2,()):=by
 have hs:zu r.2.2.2.1<=2000000:=by simp only[ze] at hr; omega
 have ag4:=MA c r.2.2.2.1 q;have hww:=eT c r (see c r.2.2.2.1 q);have hwt:zE (zm c r (see c r.2.2.2.1 q)).1.2.2.2.2.2.1<=100000000:=by simp only[ze] at *; omega
 have hp:=lB v who [];simp only[akM] at hp;have hta:=cr c (zm c r (see c r.2.2.2.1 q)).1.2.2.2.2.2.1 (v,[],[who]);unfold gS NH;dsimp only;rw[ZC r (by omega),Option.bind_some,Yc c r (by omega),Option.bind_some,Ys,Option.bind_some,LD c q (by omega),Option.bind_some,Ys,Option.bind_some,Option.bind_some,kg c r.2.2.2.1 q (by omega) (by omega),Option.bind_some,b9 c r (see c r.2.2.2.1 q) (by omega) (by omega),Option.bind_some,ML,Option.bind_some,
  bQ c (zm c r (see c r.2.2.2.1 q)).1.2.2.2.2.2.1 (v,[],[who]) hwt (by omega),Option.bind_some,rX (zD c (zm c r (see c r.2.2.2.1 q)).1.2.2.2.2.2.1 (v,[],[who])).1 v [] (by omega),Option.bind_some,rU,Option.bind_some]
 cases hok:zf c r
 ·rfl
 cases (decide (v≥1) && decide (v<=60))
 ·rfl
 cases hqo:zT c q
 ·rfl
 cases (decide (who≥0) && decide (who<=wr (c.1 - 1)))
 ·rfl
 have hqv:0<=q.1/\q.1<=60:=by
  unfold zT at hqo;simp only[akK,alk] at hqo;have:=Qg hqo.2.1;omega
 have e1:wr (q.1+1)=q.1+1:=zh (by omega) (by omega);simp only[akO,akI,e1,abc,MY,akH];cases (zm c r (see c r.2.2.2.1 q)).2
 ·rfl
 cases (yr c v==r.1)
 ·rfl
 cases decide (v≥r.2.1)
 ·rfl
 cases (zD c (zm c r (see c r.2.2.2.1 q)).1.2.2.2.2.2.1 (v,[],[who])).2
 ·rfl
 cases decide (((yz (zD c (zm c r (see c r.2.2.2.1 q)).1.2.2.2.2.2.1 (v,[],[who])).1 v []).2.2.length:Int)≥Jn c)<;>rfl
theorem na {c:za} {w:zb} {q:zH} {v:Int} (h:zf c w=true) (hq:0<=q.1) (hv:1<=v/\v<=60):Kp c w (ct q w v):=ed h (by omega)
theorem SQ {c:za} {r:zb} (h:zf c r=true) (v:Int) (q:zH) (who:Int):Kp c r (NH c r v q who).1:=by
 have hv:=Mu h;obtain⟨k1,k2⟩:=eg h (see c r.2.2.2.1 q);unfold NH;rw[h];simp only[akO,akI];cases hvv:(decide (v≥1) && decide (v<=60))
 ·exact Kp.refl h
 simp only[akK,akV] at hvv;cases hqo:zT c q
 ·exact Kp.refl h
 have hqv:0<=q.1/\q.1<=60:=by
  unfold zT at hqo;simp only[akK,alk] at hqo;have:=Qg hqo.2.1;omega
 cases (decide (who≥0) && decide (who<=wr (c.1 - 1)))
 ·exact Kp.refl h
 simp only[akO,akI];cases (zm c r (see c r.2.2.2.1 q)).2
 ·exact Kp.refl h
 simp only[akJ];have kw:=k1.trans (na (q:=q) (v:=(zm c r (see c r.2.2.2.1 q)).1.2.1) k1.1 hqv.1 (by rw[k2]; exact hv))
 cases (yr c v==r.1)
 ·exact kw
 cases decide (v≥r.2.1)
 ·exact kw
 simp only[akJ];cases ht:(zD c (zm c r (see c r.2.2.2.1 q)).1.2.2.2.2.2.1 (v,[],[who])).2
 ·exact Kp.refl h
 have kt:=k1.trans (QX k1.1 (Qa ht));simp only[akO,akI];cases decide (((yz (zD c (zm c r (see c r.2.2.2.1 q)).1.2.2.2.2.2.1 (v,[],[who])).1 v []).2.2.length:Int)≥Jn c)
 ·exact kt.trans (na kt.1 hqv.1 (by rw[k2]; exact hv))
 ·exact kt.trans (na kt.1 hqv.1 (by rw[k2]; omega))
def Y6 (l:zV) (v:Int):zV:=l.filter λ p=>decide (p.1≥v)
noncomputable def N5 (p:zF) (l:ye):zF:=p.filter λ x=>(pay l x).2 != 2
theorem ug {α:Type} (q:α->Bool) {l:List α} {i:Nat} (hi:i<l.length):(l.drop i).filter q=(if q l[i]=true then [l[i]] else [])++(l.drop (i+1)).filter q:=by
 rw[al1 hi,amd];split<;>rfl
theorem aaW (l:zV) (v:Int) (hl:zE l<=137438953472):ko (l,v,())=some (Y6 l v,()):=by
 have hll:=M6 l;unfold ko Y6;dsimp only;refine (walk l.length (λ i (s:zV)=>(s,i,())) (λ i s=>s.length<=i) (λ i s=>some (s++(l.drop i).filter (λ p=>decide (p.1≥v)),())) (by omega) ?_ ?_ (s0:=[]) (Nat.le_refl _)).trans (by simp)
 ·intro rec s hs;simp
 ·intro rec i s hi hs;have hx:l[i]?=some l[i]:=List.getElem?_eq_getElem hi;have hw:zk l[i]<=137438953472:=KS hl hx;right;simp only[zw hi,decide_true,cond_true,and_self,if_true,Int.toNat_natCast,zt (e:=Yw) hx,MQ l[i] hw,Option.bind_some,zq (show i<4611686018427387904 by omega),ug (λ p:zG=>decide (p.1≥v)) hi];by_cases hq:l[i].1≥v
  ·simp only[hq,akP,akJ,if_true];rw[if_pos (by simp only[akN,akM]; omega)]
   exact⟨s++[l[i]],by simp only[akR,akN,akM]; omega,rfl,by simp⟩
  ·simp only[hq,akQ,akI,al6,if_false];exact⟨s,by omega,rfl,by simp⟩
theorem aaI (p:zF) (l:ye) (hp:p.length<=137438953472) (h1:l.1.length<=137438953472) (h2:l.2.length<=137438953472):bG (p,l,())=some (N5 p l,()):=by
 unfold bG N5;dsimp only;refine (walk p.length (λ i (s:zF)=>(s,i,())) (λ i s=>s.length<=i) (λ i s=>some (s++(p.drop i).filter (λ x=>(pay l x).2 != 2),())) (by omega) ?_ ?_ (s0:=[]) (Nat.le_refl _)).trans (by simp)
 ·intro rec s hs;simp
 ·intro rec i s hi hs;have hx:p[i]?=some p[i]:=List.getElem?_eq_getElem hi;right;simp only[zw hi,decide_true,cond_true,and_self,if_true,Int.toNat_natCast,zt (e:=Zn) hx,rQ l p[i] h1 h2,Option.bind_some,zq (show i<4611686018427387904 by omega),ug (λ x:zP=>(pay l x).2 != 2) hi];cases hq:((pay l p[i]).2 != 2)
  ·simp only[akI,al6,if_false];exact⟨s,by omega,rfl,by simp⟩
  ·simp only[akJ,if_true];rw[if_pos (by simp only[akN,akM]; omega)]
   exact⟨s++[p[i]],by simp only[akR,akN,akM]; omega,rfl,by simp⟩
theorem Pl {α:Type} {ok:α->Bool} {lt:α->α->Bool} (ht:∀ a b d,lt a b=true->lt b d=true->lt a d=true):∀ {l:List α} {x y:α},yG ok lt (some y) l=true->lt x y=true->yG ok lt (some x) l=true
 | [],_,_,_,_=>rfl
 | z::l,x,y,h,hxy=>by
  simp only[yG,akK] at h ⊢;exact⟨h.1,ht _ _ _ hxy h.2.1,h.2.2⟩
theorem tG {α:Type} {ok:α->Bool} {lt:α->α->Bool}:∀ {l:List α} {p:Option α},yG ok lt p l=true->yG ok lt none l=true
 | [],_,_=>rfl
 | z::l,p,h=>by
  simp only[yG,akK] at h ⊢;exact⟨h.1,trivial,h.2.2⟩
theorem tE {α:Type} {ok:α->Bool} {lt:α->α->Bool} (ht:∀ a b d,lt a b=true->lt b d=true->lt a d=true) (q:α->Bool):∀ {l:List α} {p:Option α},yG ok lt p l=true->yG ok lt p (l.filter q)=true
 | [],_,_=>rfl
 | z::l,p,h=>by
  simp only[yG,akK] at h;have ih:=tE ht q h.2.2;rw[amd];split
  ·simp only[yG,akK];exact⟨h.1,h.2.1,ih⟩
  ·cases p with
   | none=>exact tG ih
   | some y=>exact Pl ht ih h.2.1
theorem tH {α:Type} {ok:α->Bool} {lt:α->α->Bool} (key:α->Int) (hk:∀ a b,lt a b=true->key a<=key b) (v:Int):∀ {l:List α} {p:Option α},yG ok lt p l=true->(∃ y,p=some y/\key y≥v)->l.filter (λ x=>decide (key x≥v))=l
 | [],_,_,_=>rfl
 | z::l,p,h,hp=>by
  obtain⟨y,rfl,hy⟩:=hp;simp only[yG,akK] at h;have:=hk _ _ h.2.1;have hz:key z≥v:=by omega
  rw[amd,if_pos (by simpa using hz),tH key hk v h.2.2 ⟨z,rfl,hz⟩]
theorem tD {α:Type} {ok:α->Bool} {lt:α->α->Bool} (key:α->Int) (hk:∀ a b,lt a b=true->key a<=key b) (v:Int):∀ {l:List α} {p:Option α},yG ok lt p l=true->yG ok lt none (l.filter (λ x=>decide (key x≥v)))=true
 | [],_,_=>rfl
 | z::l,p,h=>by
  have h':=h;simp only[yG,akK] at h;rw[amd];split
  ·next hz=>
   have hz:key z≥v:=by simpa using hz
   rw[tH key hk v h.2.2 ⟨z,rfl,hz⟩];exact tG h'
  ·exact tD key hk v h.2.2
theorem O6 (a b:zG) (h:jI a b=true):a.1<=b.1:=by
 unfold jI at h;simp only[alt,akK,akV,alk] at h;omega
theorem DC {c:za} {l:zV} (h:jA c l=true) (v:Int):jA c (Y6 l v)=true:=by
 unfold jA Y6 at *;simp only[akK,akV] at h ⊢;have hl:=List.length_filter_le (λ p:zG=>decide (p.1≥v)) l;exact⟨tD (λ p:zG=>p.1) O6 v h.1,by omega⟩
theorem O7 (a b d:zP) (h1:jC a b=true) (h2:jC b d=true):jC a d=true:=by
 unfold jC at *;simp only[alt,akK,akV,alk] at *;omega
theorem Uz {p:zF} (h:jE p=true) (l:ye):jE (N5 p l)=true:=by
 unfold jE N5 at *;simp only[akK,akV] at h ⊢;have hl:=List.length_filter_le (λ x=>(pay l x).2 != 2) p;exact⟨tE O7 _ h.1,by omega⟩
noncomputable def yI (c:za) (r:zb) (m:zv):zb×Bool:=
 bif m.1==1 then jM c r m.2.2.1 else bif m.1==2 then NE c r m.2.2.2.1 else bif m.1==3 then NH c r m.2.1 m.2.2.2.2.1 m.2.2.2.2.2.1 else NG c r m.2.2.2.2.2.2
noncomputable def swept (c:za) (r:zb):zb:=
 (r.1,r.2.1,r.2.2.1,r.2.2.2.1,N5 r.2.2.2.2.1 (state c (yU r (Y6 r.2.2.2.2.2.1 (r.2.1 - 1)))),Y6 r.2.2.2.2.2.1 (r.2.1 - 1),r.2.2.2.2.2.2)
noncomputable def L3 (c:za) (r:zb) (m:zv):zb×Bool:=
 bif !zf c r then (r,false) else bif !yJ c m then (r,false) else bif !(yI c r m).2 then (r,false) else (swept c (yI c r m).1,true)
theorem vo {c:za} {r:zb} (h:zf c r=true) (m:zv):Kp c r (yI c r m).1:=by
 unfold yI;cases (m.1==1)
 ·cases (m.1==2)
  ·cases (m.1==3)
   ·exact SP h _
   ·exact SQ h _ _ _
  ·exact SO h _
 ·exact vn h _
theorem ST {c:za} {r:zb} (h:zf c r=true):Kp c r (swept c r):=by
 obtain⟨h1,h2,h3,h4,h5,h6,h7,h8,h9,h10⟩:=J0 h;have k:=lG h (DC h7 (r.2.1 - 1));unfold swept;generalize state c (yU r (Y6 r.2.2.2.2.2.1 (r.2.1 - 1)))=l;exact⟨Bk (p:=r.2.2.2.2.1) k (Uz h6 l),rfl⟩
theorem vp {c:za} {r:zb} (h:zf c r=true) (m:zv):Kp c r (L3 c r m).1:=by
 have k:=vo h m;unfold L3;rw[h];simp only[akO,akI];cases yJ c m
 ·exact Kp.refl h
 ·simp only[akO,akI];cases (yI c r m).2
  ·exact Kp.refl h
  ·exact k.trans (ST k.1)
theorem ab7 {c:za} {r:zb} {m:zv} (hr:zf c r=true) (hm:yJ c m=true):kL (c,r,m,())=some ((yI c r m).1,(yI c r m).2,()):=by
 have hw:=KB hr;have hmw:=eH hm;have w1:zp m.2.2.1<=3847:=by simp only[zj] at hmw; omega
 have w2:zk m.2.2.2.1<=3847:=by simp only[zj] at hmw; omega
 have w3:zi m.2.2.2.2.1<=3847:=by simp only[zj] at hmw; omega
 unfold kL yI;dsimp only;rw[rP c r m.2.2.1 (by omega),aaw c r m.2.2.2.1 (by omega) (by omega),aay c r m.2.1 m.2.2.2.2.1 m.2.2.2.2.2.1 (by omega) (by omega),aax c r m.2.2.2.2.2.2 (by omega)];cases (m.1==1)<;>cases (m.1==2)<;>cases (m.1==3)<;>rfl
theorem C5 (c:za) (r:zb) (m:zv) (hr:ze r<=137438953472) (hm:zj m<=137438953472):KH (c,r,m,())=some ((L3 c r m).1,(L3 c r m).2,()):=by
 unfold KH L3;dsimp only;rw[Yc c r hr,akH,ZC r hr,qx c m hm,akH,akH];cases hok:zf c r
 ·rfl
 cases hmo:yJ c m
 ·rfl
 simp only[akO,akI];rw[ab7 hok hmo,akH];dsimp only;cases (yI c r m).2
 ·rfl
 have k:=(vo hok m).1;obtain⟨h1,h2,h3,h4,h5,h6,h7,h8,h9,h10⟩:=J0 k;have hw:=KB k;have hkt:=QX k (DC h7 ((yI c r m).1.2.1 - 1));have hw2:=KB hkt.1;have hsw:=abd c (yU (yI c r m).1 (Y6 (yI c r m).1.2.2.2.2.2.1 ((yI c r m).1.2.1 - 1)));have ht:=DE h7;simp only[lA,zn] at hsw;have hpl:(yI c r m).1.2.2.2.2.1.length<=260000:=by simp only[ze,Jy] at hw; omega
 simp only[akO,akI];rw[zh (n:=(yI c r m).1.2.1 - 1) (by omega) (by omega),aaW _ _ (by omega),akH];dsimp only;have es:bO (c,yU (yI c r m).1 (Y6 (yI c r m).1.2.2.2.2.2.1 ((yI c r m).1.2.1 - 1)),())=some (state c (yU (yI c r m).1 (Y6 (yI c r m).1.2.2.2.2.2.1 ((yI c r m).1.2.1 - 1))),()):=aaT c _ (by omega);have ep:bG ((yI c r m).1.2.2.2.2.1,state c (yU (yI c r m).1 (Y6 (yI c r m).1.2.2.2.2.2.1 ((yI c r m).1.2.1 - 1))),())=some (N5 (yI c r m).1.2.2.2.2.1 (state c (yU (yI c r m).1 (Y6 (yI c r m).1.2.2.2.2.2.1 ((yI c r m).1.2.1 - 1)))),()):=aaI _ _ (by omega) (by omega) (by omega);unfold yU at es ep;rw[es,akH,ep,akH];rfl
theorem nO {c:za} {i:Int} (h:zz c=true) (h0:0<=i) (h1:i<c.1):zf c (Jk i)=true:=by
 unfold zf Jk;simp only[h,Cv h,jE,jA,yG,yt,akM,List.all_nil,Bool.and_true,akZ,akK,akV];omega
theorem uF {α:Type} (p:Nat->α->Bool):∀ (l:List α) (k:Nat),j5 p k l=true↔∀ i (h:i<l.length),p (k+i) l[i]=true
 | [],k=>by simp[j5]
 | x::l,k=>by
  unfold j5;simp only[akK,uF p l (k+1)];constructor
  ·rintro⟨a,b⟩ i h;cases i with
   | zero=>exact a
   | succ i=>have:=b i (by simpa using h); simp only[List.getElem_cons_succ]; rw[show k+(i+1)=k+1+i by omega]; exact this
  ·intro hh;refine⟨hh 0 (by simp),λ i h => ?_⟩;have:=hh (i+1) (by simpa using h);simp only[List.getElem_cons_succ] at this;rw[show k+1+i=k+(i+1) by omega]; exact this
theorem UK {c:za} {i:Int} (h:zz c=true) (h0:0<=i) (h1:i<c.1):JZ c i=(Jk i,true):=by
 unfold JZ;rw[nO h h0 h1]; rfl
structure WI (w:zA):Prop where
 conf:zz w.1=true
 liars:w.2.1.length<=7/\∀ x∈w.2.1,0<=x/\x<w.1.1
 len:(w.2.2.1.length:Int)=w.1.1
 reps:∀ i (h:i<w.2.2.1.length),zf w.1 w.2.2.1[i]=true/\(w.2.2.1[i]).1=(i:Int)
 net:w.2.2.2.1.length<=60/\∀ x∈w.2.2.2.1,(0<=x.1/\x.1<w.1.1)/\x.2.length<=1000000
 said:w.2.2.2.2.length<=300/\∀ s∈w.2.2.2.2,(zC s.2.1=true/\zg s.2.1=s.1)/\(0<=s.2.2/\s.2.2<w.1.1)
theorem eK {c:za} (h:zz c=true):Kr c=(List.range c.1.toNat).map (λ (i:Nat)=>Jk (i:Int)):=by
 have hb:=yb h;unfold Kr;rw[if_pos h];refine List.map_congr_left λ i hi => ?_;have:=List.mem_range.1 hi;rw[UK h (by omega) (by omega)]
theorem Ub {c:za} {liars:y9} (h:zz c=true) (hl:liars.length<=7) (hm:∀ x∈liars,0<=x/\x<c.1):WI (y7 c liars):=by
 have hb:=yb h;refine⟨h,⟨hl,hm⟩,?_,?_,⟨by simp[y7],by simp[y7]⟩,⟨by simp[y7],by simp[y7]⟩⟩
 ·simp only[y7,eK h,alA,ami]; omega
 ·intro i hi;simp only[y7,eK h,alA,ami] at hi;simp only[y7,eK h,List.getElem_map,List.getElem_range];exact⟨nO h (by omega) (by omega),rfl⟩
theorem WI.setRep {c:za} {l:y9} {reps:Yz} {rest:ju×yV} (h:WI (c,l,reps,rest)) {i:Nat} (hi:i<reps.length) {r:zb} (k:Kp c reps[i] r):WI (c,l,reps.set i r,rest):=by
 obtain⟨h1,h2,h3,h4,h5,h6⟩:=h;refine⟨h1,h2,?_,?_,h5,h6⟩
 ·dsimp only at h3 ⊢;rw[amq]; exact h3
 ·intro j hj;dsimp only at hj h4 ⊢;rw[amq] at hj;rw[List.getElem_set];by_cases e:i=j
  ·subst e;rw[if_pos rfl];exact⟨k.1,k.2.trans (h4 i hi).2⟩
  ·rw[if_neg e];exact h4 j hj
def Step (w:zA) (o o':Option (zA×Int×Unit)):Prop:=
 (∃ w',o=some (w',0,())/\WI w'/\has o'=false)∨(∃ n:Int,n≠0/\o=some (w,n,())/\o'=some (w,n,()))
theorem Step.same {w:zA} {n:Int} (hn:n≠0):Step w (some (w,n,())) (some (w,n,())):=.inr ⟨n,hn,rfl,rfl⟩
theorem Step.next {w w':zA} {o':Option (zA×Int×Unit)} (h:WI w') (ho:has o'=false):Step w (some (w',0,())) o':=.inl ⟨w',rfl,h,ho⟩
theorem Step.wrap {w:zA} {o o':Option (zA×Int×Unit)} (h:Step w o o'):Step w (o.bind λ r=>some (r.1,r.2.1,())) (o'.bind λ r=>some (r.1,r.2.1,())):=by
 rcases h with⟨w',rfl,h,k⟩|⟨n,hn,rfl,rfl⟩
 ·refine .inl ⟨w',rfl,h,?_⟩;cases o' with
  | none=>rfl
  | some r=>exact k
 ·exact .inr ⟨n,hn,rfl,rfl⟩
theorem WI.rep {c:za} {l:y9} {reps:Yz} {rest:ju×yV} (h:WI (c,l,reps,rest)) {i:Int} (h0:0<=i) (h1:i<(reps.length:Int)):∃ r,reps[i.toNat]?=some r/\zf c r=true/\ze r<=260000/\∀ r',Kp c r r'->WI (c,l,reps.set i.toNat r',rest):=by
 have hi:i.toNat<reps.length:=by omega
 have k:=(h.reps i.toNat hi).1;exact⟨reps[i.toNat],List.getElem?_eq_getElem hi,k,KB k,λ r' kk=>h.setRep hi kk⟩
theorem m0 {c:za} {r:zb} (h:zf c r=true):Kp c r (r.1,r.2.1,r.2.1,r.2.2.2):=by
 refine⟨?_,rfl⟩;unfold zf at h ⊢;simp only[akK,akV] at h ⊢;exact⟨h.1,h.2.1,h.2.2.1,⟨by have:=h.2.2.1; omega,by have:=h.2.2.1; omega⟩,h.2.2.2.2⟩
theorem S9 {w:zA} (h:WI w) (i:Int) (h0:0<=i) (h1:i<(w.2.2.1.length:Int)):Step w (kQ (w,i,())) (kR (w,i,())):=by
 obtain⟨c,l,reps,rest⟩:=w;obtain⟨r,hr,hok,hw,acG⟩:=h.rep h0 h1;have ha:=O5 c r;have kt:=(m0 hok).trans (SU (m0 hok).1 (1,0,(ask c r).1,(0,[],[]),(0,[],[]),0,0,0,0,0));have hw2:=KB kt.1;have hw1:=KB (m0 hok).1;have kb:=kt.trans (vn kt.1 (ask c r).1);dsimp only at h1;unfold kQ kR;simp only[h0,h1,akY,if_true,zt (e:=JA) hr,C4 c r (by omega),akH];cases (ask c r).2
 ·exact Step.same (show (_:Int)≠0 from by first|exact (by decide:(3:Int)≠0)|exact (by decide:(4:Int)≠0))
 have e1:=aaX c (r.1,r.2.1,r.2.1,r.2.2.2) (1,0,(ask c r).1,(0,[],[]),(0,[],[]),0,0,0,0,0) (by omega) (by simp only[zj,zk,zi,zn,akM]; omega)
 have e2:=rP c (LL c (r.1,r.2.1,r.2.1,r.2.2.2) (1,0,(ask c r).1,(0,[],[]),(0,[],[]),0,0,0,0,0)).1 (ask c r).1 (by omega);simp only[akO,akI,ZC r (by omega),akH,e1,e2];cases (LL c (r.1,r.2.1,r.2.1,r.2.2.2) (1,0,(ask c r).1,(0,[],[]),(0,[],[]),0,0,0,0,0)).2
 ·exact Step.same (show (_:Int)≠0 from by first|exact (by decide:(3:Int)≠0)|exact (by decide:(4:Int)≠0))
 cases (jM c (LL c (r.1,r.2.1,r.2.1,r.2.2.2) (1,0,(ask c r).1,(0,[],[]),(0,[],[]),0,0,0,0,0)).1 (ask c r).1).2
 ·exact Step.same (show (_:Int)≠0 from by first|exact (by decide:(3:Int)≠0)|exact (by decide:(4:Int)≠0))
 exact Step.next (acG _ kb) rfl
end G448
namespace G448
open Ev
def c9 (l:yV) (v:JF):Bool:=l.any (λ x=>x.1==v.1 && (x.2.1==v.2.1 && x.2.2==v.2.2))
def Kl (acc:yV) (x:JF):yV:=bif decide ((acc.length:Int)<300) && !c9 acc x then acc++[x] else acc
def ex (id:Int) (acc:yV) (p:Ka):yV:=(YY id p.2).foldl Kl acc
def learn (w:zA) (id:Int) (sent:j0):zA:=
 bif (Z1 w).any (· == id) then (w.1,w.2.1,w.2.2.1,w.2.2.2.1,sent.foldl (ex id) w.2.2.2.2) else w
theorem vM (acc:yV) (x:JF) (h:acc.length<=137438953472):(Kl acc x).length<=137438953472:=by
 unfold Kl;by_cases hc:(acc.length:Int)<300
 ·cases c9 acc x<;>simp[hc]<;>omega
 ·simp[hc]; omega
theorem TF (id:Int) (p:Ka) (acc:yV) (h:acc.length<=137438953472):(ex id acc p).length<=137438953472:=
 RC (YY id p.2) Kl (λ _ s=>s.length<=137438953472) (λ _ s x _ _ hs=>vM s x hs) h
theorem aaB (w:zA) (id:Int) (sent:j0) (hw:Yf w<=137438953472) (hs:yo sent<=137438953472):gU (w,id,sent,())=some (learn w id sent,()):=by
 have h1:w.2.1.length<=137438953472:=by simp only[Yf,zn] at hw; omega
 have h2:w.2.2.1.length<=137438953472:=by simp only[Yf,M7] at hw; omega
 have h3:w.2.2.2.2.length<=137438953472:=by simp only[Yf,LN] at hw; omega
 have h4:=RP w;have hl:sent.length<=137438953472:=by simp only[yo] at hs; omega
 unfold gU learn;simp only[ab9 w hw,C6 w h1 h2,Yr (Z1 w) id (by omega),akH];cases (Z1 w).any (· == id)
 ·rfl
 simp only[akO,akI,akJ];refine (NA (λ i (s:yV)=>(i,(w.1,w.2.1,w.2.2.1,w.2.2.2.1,s),())) sent (ex id) (λ s=>some ((w.1,w.2.1,w.2.2.1,w.2.2.2.1,s),())) (by omega) (λ _ s=>s.length<=137438953472) ?_ ?_ h3)
 ·intro rec s hs'; simp
 ·intro rec i s p hx hi hs';refine⟨TF id p s hs',?_⟩;have hp:zj p.2<=137438953472:=by have:=ZS Ye (List.mem_of_getElem? hx); simp only[Ye] at this; unfold yo at hs; omega
  have hso:=Xu id p.2;have hsl:(YY id p.2).length<=137438953473:=by simp only[LN] at hso; omega
  simp only[akT,zw hi,akP,akJ,if_true,akY,zt (e:=(.pair .i64 (.pair .i64 (.pair .i64 (.pair (.pair .str (.pair .i64 (.pair .str (.sl 0 .i64)))) (.pair (.pair .i64 (.pair .str (.sl 0 .i64))) (.pair (.pair .i64 (.pair .str (.sl 0 .i64))) (.pair .i64 (.pair .i64 (.pair .i64 (.pair .i64 .i64))))))))))) hx,
   aaP id p.2 (MsgW.of (by omega)),akH,zq (show i<4611686018427387904 by omega)]
  refine NA (λ j (s:yV)=>(j,(w.1,w.2.1,w.2.2.1,w.2.2.2.1,s),())) (YY id p.2) Kl (λ s=>rec ((i:Int)+1,(w.1,w.2.1,w.2.2.1,w.2.2.2.1,s),())) (by omega) (λ _ s=>s.length<=137438953472) ?_ ?_ hs'
  ·intro rec2 t ht; simp
  ·intro rec2 j t x hy hj ht;refine⟨vM t x ht,?_⟩;simp only[akT,zw hj,akP,akJ,if_true,akY,zt (e:=(.pair .i64 (.pair .str .i64))) hy,Dr t x.1 x.2.1 x.2.2 (by omega),akH,zq (show j<4611686018427387904 by omega),akN,akM];unfold Kl c9;by_cases hc:(t.length:Int)<300
   ·simp only[hc,akP,akJ,akZ];cases t.any (λ y=>y.1==x.1 && (y.2.1==x.2.1 && y.2.2==x.2.2))
    ·simp only[al2,akJ];rw[if_pos (by omega)]
    ·rfl
   ·simp only[hc,akQ,akI,alj]
end G448
namespace G448
open Ev Go
set_option maxRecDepth 100000
theorem TC {c:za} {l:y9} {reps:Yz} {rest:ju×yV} {i:Int} {r:zb} (hok:zf c r=true) (hw:ze r<=260000) (acG:∀ r',Kp c r r'->WI (c,l,reps.set i.toNat r',rest)):
  Step (c,l,reps,rest) ((MH (c,r,())).bind λ r6=>bif !r6.2.1 then some ((c,l,reps,rest),3,()) else some ((c,l,reps.set i.toNat r6.1,rest),0,())) ((MH (c,r,())).bind λ r6=>bif !r6.2.1 then some ((c,l,reps,rest),3,()) else none):=by
 rw[aaA c r (by omega),akH,akH];dsimp only;cases (late c r).2
 ·exact Step.same (show (3:Int)≠0 by decide)
 ·exact Step.next (acG _ (SR hok)) rfl
theorem RA {c:za} {l:y9} {reps:Yz} {rest:ju×yV} {i:Int} {r:zb} (keep:Int) (hok:zf c r=true) (hf:yt (Lb r.2.2.2.2.2.2.1 keep)=true) (acG:∀ r',Kp c r r'->WI (c,l,reps.set i.toNat r',rest)):
  WI (c,l,reps.set i.toNat (rise c (r.1,r.2.1,r.2.2.1,r.2.2.2.1,r.2.2.2.2.1,r.2.2.2.2.2.1,Lb r.2.2.2.2.2.2.1 keep,r.2.2.2.2.2.2.2)),rest):=by
 refine acG _ ?_;have h:zf c (r.1,r.2.1,r.2.2.1,r.2.2.2.1,r.2.2.2.2.1,r.2.2.2.2.2.1,Lb r.2.2.2.2.2.2.1 keep,r.2.2.2.2.2.2.2)=true:=by
  unfold zf at hok ⊢;simp only[akK] at hok ⊢;obtain⟨a1,a2,a3,a4,a5,a6,a7,a8,a9⟩:=hok;exact⟨a1,a2,a3,a4,a5,a6,a7,hf,a9⟩
 exact⟨(vq h).1,(vq h).2⟩
theorem RO {c:za} {l:y9} {reps:Yz} {rest:ju×yV} {i:Int} {r:zb} {m:zv} (hok:zf c r=true) (hw:ze r<=260000) (hm:zj m<=137438953472) (acG:∀ r',Kp c r r'->WI (c,l,reps.set i.toNat r',rest)):
  Step (c,l,reps,rest) ((KH (c,r,m,())).bind λ r7=>bif !r7.2.1 then some ((c,l,reps,rest),3,()) else bif m.1 != 4 then some ((c,l,reps,rest),3,()) else some ((c,l,reps.set i.toNat r7.1,rest),0,())) ((KH (c,r,m,())).bind λ r7=>bif !r7.2.1 then some ((c,l,reps,rest),3,()) else bif m.1 != 4 then some ((c,l,reps,rest),3,()) else none):=by
 rw[C5 c r m (by omega) hm,akH,akH];dsimp only;cases (L3 c r m).2
 ·exact Step.same (show (3:Int)≠0 by decide)
 cases (m.1 != 4)
 ·exact Step.next (acG _ (vp hok m)) rfl
 ·exact Step.same (show (3:Int)≠0 by decide)
theorem Rz {d:yF} (h:yt d=true) (keep:Int):yt (Lb d keep)=true:=by
 have hb:=uc h keep;have h':=K6.1 h;unfold Lb;rw[if_pos h];refine K6.2 ?_;dsimp only;rw[al0];omega
theorem Ur {r:zb} (hw:ze r<=260000) {p:zG} (hp:p∈r.2.2.2.2.2.1):p.2.1.length<=260000:=by
 have h:=ZS zk hp;simp only[ze,zE] at hw;simp only[zk] at h;omega
theorem step_loop {w:zA} {G G':(Int×zA×zA×Unit->Option (zA×Int×Unit))->Int×zA×zA×Unit->Option (zA×Int×Unit)} {z:zA} (n0:Nat)
  (h0:∀ rec rec',Step w (G rec (-1,w,z,())) (G' rec' (-1,w,z,())))
  (hs:∀ rec rec' (j:Nat),j<n0->(Step w (rec ((j:Int) - 1,w,z,())) (rec' ((j:Int) - 1,w,z,())))->Step w (G rec ((j:Int),w,z,())) (G' rec' ((j:Int),w,z,()))):
  ∀ (n m:Nat),m<=n0->m<n->Step w (iter G n ((m:Int) - 1,w,z,())) (iter G' n ((m:Int) - 1,w,z,()))
 | 0,m,_,h=>by omega
 | n+1,0,_,_=>h0 _ _
 | n+1,m+1,hm,h=>by
  have e:(((m+1:Nat):Int) - 1)=(m:Int):=by omega
  rw[e];exact hs _ _ m (by omega) (step_loop n0 h0 hs n m (by omega) (by omega))
theorem Tk {w:zA} (h:WI w) (i:Int) (h0:0<=i) (h1:i<(w.2.2.1.length:Int)):Step w (ld (w,i,())) (lf (w,i,())):=by
 obtain⟨c,l,reps,rest⟩:=w;obtain⟨r,hr,hok,hw,acG⟩:=h.rep h0 h1;dsimp only at h1;have ht:(r.2.2.2.2.2.1.length:Int)<=260000:=by simp only[ze,zE] at hw; omega
 unfold ld lf;simp only[h0,h1,akY,if_true,zt (e:=JA) hr];rw[zh (n:=(r.2.2.2.2.2.1.length:Int) - 1) (by omega) (by omega)];refine step_loop r.2.2.2.2.2.1.length ?_ ?_ fuel _ (Nat.le_refl _) (by rw[ja]; omega)
 ·intro rec rec';exact Step.same (show (3:Int)≠0 by decide)
 ·intro rec rec' j hj abX;have hx:=List.getElem?_eq_getElem hj;have hj':(j:Int)<(r.2.2.2.2.2.1.length:Int):=by omega
  have hn:=Ur hw (List.getElem_mem hj);simp only[zw,hj',Int.natCast_nonneg,ge_iff_le,akP,akJ,akY,if_true,akT,zt (e:=Yw) hx];cases ((r.2.2.2.2.2.1[j]).2.1==[])
  ·simp only[cond_false,aaq c r _ _ true (show ze r<=15000000 by omega) (show (r.2.2.2.2.2.1[j]).2.1.length<=5000000 by omega),Option.bind_some,h0,h1,and_self,if_true];cases (climb c r (r.2.2.2.2.2.1[j]).1 (r.2.2.2.2.2.1[j]).2.1 true).2
   ·exact Step.same (show (3:Int)≠0 by decide)
   ·exact Step.next (acG _ (m7 hok _ _ _)) rfl
  ·simp only[akJ];rw[zh (n:=(j:Int) - 1) (by omega) (by omega)];exact abX
def Nc (n:Int) (l:yV):Prop:=l.length<=300/\∀ s∈l,(zC s.2.1=true/\zg s.2.1=s.1)/\(0<=s.2.2/\s.2.2<n)
theorem TE {n:Int} {acc:yV} {x:JF} (h:Nc n acc) (hx:(zC x.2.1=true/\zg x.2.1=x.1)/\(0<=x.2.2/\x.2.2<n)):Nc n (Kl acc x):=by
 unfold Kl;cases hc:decide ((acc.length:Int)<300) && !c9 acc x
 ·exact h
 ·simp only[akK,akV] at hc;refine⟨by simp only[akJ,akR,akN,akM]; omega,λ s hs => ?_⟩
  simp only[akJ,al5,al4,alB,or_false] at hs;rcases hs with hs|rfl
  ·exact h.2 s hs
  ·exact hx
theorem Xv {id:Int} {m:zv}:∀ s∈YY id m,s.2.2=id:=by
 unfold YY;repeat' split
 all_goals simp
theorem pq {c:za} {q:zH} (h:zT c q=true):zC q.2.1=true/\zg q.2.1=q.1:=by
 unfold zT at h;simp only[akK,alk] at h;exact⟨h.2.1,h.2.2.1⟩
theorem Xw {c:za} {m:zv} (hm:yJ c m=true) (h4:¬ m.1=4) (h:¬ (YZ m).2.1=[]):zC (YZ m).2.1=true/\zg (YZ m).2.1=(YZ m).1:=by
 unfold yJ at hm;unfold YZ at h ⊢;simp only[akK] at hm;have k:=hm.2.2;clear hm;by_cases e2:m.1=2
 ·have e1:(m.1==1)=false:=by rw[e2]; rfl
  have e22:(m.1==2)=true:=by rw[e2]; rfl
  rw[e1,e22] at k;rw[if_pos e2] at h ⊢;simp only[akJ,akI,akK,jb,alt,alk] at k;rcases k.1.2.2.2.2 with e|e
  ·exact absurd e h
  ·exact e
 by_cases e1:m.1=1
 ·have e11:(m.1==1)=true:=by rw[e1]; rfl
  rw[e11] at k;rw[if_neg e2,if_pos e1] at h ⊢;simp only[akJ,jm,akK] at k;exact pq k.1
 rw[if_neg e2,if_neg e1] at h ⊢;have e11:(m.1==1)=false:=by simp[e1]
 have e22:(m.1==2)=false:=by simp[e2]
 have e44:(m.1==4)=false:=by simp[h4]
 rw[e11,e22,e44] at k;cases e33:(m.1==3)
 ·rw[e33] at k; simp at k
 ·rw[e33] at k;simp only[akJ,akI,akK] at k;exact pq k.2.1
theorem Xt {c:za} {id:Int} {m:zv} (hm:yJ c m=true):∀ s∈YY id m,zC s.2.1=true/\zg s.2.1=s.1:=by
 unfold YY;by_cases h4:m.1=4
 ·simp[h4]
 rw[if_neg h4];by_cases h:(YZ m).2.1=[]
 ·simp[h]
 rw[if_neg h];have k:=Xw hm h4 h;split
 ·intro s hs;simp only[al4,alB,or_false] at hs;rw[hs]; exact k
 ·simp
theorem vL {n:Int}:∀ (l:yV) {acc:yV},Nc n acc->(∀ x∈l,(zC x.2.1=true/\zg x.2.1=x.1)/\(0<=x.2.2/\x.2.2<n))->Nc n (l.foldl Kl acc)
 | [],_,h,_=>h
 | x::l,_,h,hl=>vL l (TE h (hl x (by simp))) λ y hy=>hl y (by simp[hy])
theorem vN {c:za} {n:Int} {id:Int} (hid:0<=id/\id<n):∀ (ps:j0) {acc:yV},Nc n acc->(∀ p∈ps,yJ c p.2=true)->Nc n (ps.foldl (ex id) acc)
 | [],_,h,_=>h
 | p::ps,_,h,hp=>by
  refine vN hid ps ?_ λ q hq=>hp q (by simp[hq]);refine vL _ h λ x hx=>⟨Xt (hp p (by simp)) x hx,?_⟩
  rw[Xv x hx]; exact hid
theorem TG {w:zA} (h:WI w) {id:Int} (hid:0<=id/\id<w.1.1) {ps:j0} (hp:∀ p∈ps,yJ w.1 p.2=true):WI (learn w id ps):=by
 unfold learn;cases (Z1 w).any (· == id)
 ·exact h
 ·exact⟨h.conf,h.liars,h.len,h.reps,h.net,vN hid ps h.said hp⟩
def JC (n:Int) (l:ju):Prop:=l.length<=60/\∀ x∈l,(0<=x.1/\x.1<n)/\x.2.length<=1000000
theorem XI {c:za} (hc:zz c=true) {ws:ju} {p:Ka} (h:JC c.1 ws) (hp:zj p.2<=100000):JC c.1 (qn c ws p):=by
 have hb:=yb hc;have hl:=TW c p.2;unfold qn;rw[zh (n:=c.1 - 1) (by omega) (by omega)];cases decide (((Ko c p.2).length:Int)>0)
 ·exact h
 cases hr:decide (p.1≥0) && decide (p.1<=c.1 - 1)
 ·exact h
 cases hs:decide ((ws.length:Int)<60)
 ·exact h
 simp only[akK,akV] at hr hs;refine⟨by simp only[akJ,akR,akN,akM]; omega,λ x hx => ?_⟩
 simp only[akJ,al5,al4,alB,or_false] at hx;rcases hx with hx|rfl
 ·exact h.2 x hx
 ·exact⟨⟨by omega,by dsimp only; omega⟩,by dsimp only; omega⟩
theorem Cy {c:za} (hc:zz c=true):∀ (ps:j0) {ws:ju},JC c.1 ws->(∀ p∈ps,zj p.2<=100000)->JC c.1 (bn c ws ps)
 | [],_,h,_=>h
 | p::ps,_,h,hp=>Cy hc ps (XI hc h (hp p (by simp))) λ q hq=>hp q (by simp[hq])
theorem Cz {w:zA} (h:WI w) {ps:j0} (hp:∀ p∈ps,zj p.2<=100000):WI (w.1,w.2.1,w.2.2.1,bn w.1 w.2.2.2.1 ps,w.2.2.2.2):=
 ⟨h.conf,h.liars,h.len,h.reps,Cy h.conf ps h.net hp,h.said⟩
theorem abi {c:za} {r:zb} (hok:zf c r=true):((∀ p∈(jX c r).2,zj p.2<=100000)/\∀ p∈(jX c r).2,yJ c p.2=true)/\(jX c r).2.length<=30/\yo (jX c r).2<=260000:=by
 obtain⟨h1,h2,h3,h4,h5,h6,h7,h8,h9,h10⟩:=J0 hok;have hw:=KB hok;have hs:=(abh c r).2;refine⟨?_,?_,by omega⟩
 ·unfold jX;rw[hok];have key:∀ p∈r.2.2.2.2.2.2.2,yJ c p.2=true:=λ p hp=>by
   have hk:=h10 p hp;unfold j4 at hk;simp only[akK] at hk;exact hk.1
  exact⟨λ p hp=>by have:=eH (key p hp); omega,key⟩
 ·unfold jX;rw[hok]; exact h9
theorem WI.w_leS {w:zA} (h:WI w):Yf w<=500000000:=by
 have hb:=yb h.conf;have key:∀ {α:Type} (f:α->Nat) (N:Nat) (l:List α),(∀ x∈l,f x<=N)->(l.map f).sum<=l.length*N:=by
  intro α f N l;induction l with
  | nil=>intro _; simp
  | cons x l ih=>
   intro hx;have a:=hx x (by simp);have b:=ih λ y hy=>hx y (by simp[hy]);simp only[al3,alp,akN,alf];omega
 have hl:=h.len;have r1:=key ze 260000 w.2.2.1 λ x hx=>by
  obtain⟨i,hi,rfl⟩:=List.getElem_of_mem hx;exact KB (h.reps i hi).1
 have r2:=key M8 1000000 w.2.2.2.1 λ x hx=>(h.net.2 x hx).2;have r3:=key Qh 1000000 w.2.2.2.2 λ x hx=>by have:=Za (h.said.2 x hx).1.1; simp only[Qh]; omega
 have e1:w.2.2.1.length*260000<=7*260000:=Nat.mul_le_mul_right _ (by omega);have e2:w.2.2.2.1.length*1000000<=60*1000000:=Nat.mul_le_mul_right _ h.net.1;have e3:w.2.2.2.2.length*1000000<=300*1000000:=Nat.mul_le_mul_right _ h.said.1;have:=h.liars.1; have:=h.net.1; have:=h.said.1
 simp only[Yf,zn,M7,Qi,LN];omega
theorem WI.w_le {w:zA} (h:WI w):Yf w<=137438953472:=Nat.le_trans h.w_leS (by decide)
theorem Tl {w:zA} (h:WI w) (i:Int) (h0:0<=i) (h1:i<(w.2.2.1.length:Int)):Step w (lg (w,i,())) (lh (w,i,())):=by
 obtain⟨c,l,reps,net,said⟩:=w;obtain⟨r,hr,hok,hw,acG⟩:=h.rep h0 h1;obtain⟨p1,p2,p3⟩:=abi hok;have hn:=h.net.1;have hd:=h.said.1;have ac1:=h.len;dsimp only at h1 hn hd ac1;have hW:=acG _ (SS hok);have hL:=TG hW (id:=i) (by dsimp only; omega) (ps:=(jX c r).2) p1.2
 have hS:=Cz hL (ps:=(jX c r).2) p1.1;unfold lg lh;simp only[h0,h1,akY,if_true,zt (e:=JA) hr,aaU c r (by omega),akH];cases decide (wr ((net.length:Int)+((jX c r).2.length:Int))>60);case true=>exact Step.same (show (4:Int)≠0 by decide)
 cases decide (wr ((said.length:Int)+((jX c r).2.length:Int))>300);case true=>exact Step.same (show (4:Int)≠0 by decide)
 simp only[akI,h0,h1,akY,if_true];rw[aaB _ i _ hW.w_le (by omega),akH];dsimp only;rw[Ds _ _ (by omega),akH];exact Step.next hS rfl
theorem Ti {w:zA} (h:WI w) (d:Y8) (h0:0<=d.2.1) (h1:d.2.1<(w.2.2.1.length:Int)) (hm:zj d.2.2.2<=137438953472):Step w (kY (w,d,())) (kZ (w,d,())):=by
 have hA:=S9 h d.2.1 h0 h1;have hB:=Tl h d.2.1 h0 h1;have hC:=Tk h d.2.1 h0 h1;obtain⟨c,l,reps,rest⟩:=w;obtain⟨r,hr,hok,hw,acG⟩:=h.rep h0 h1;have ahn:=(J0 hok).2.2.2.2.2.2.2.1;have hf:=Rz ahn d.2.2.1;have hW:=RA (i:=d.2.1) d.2.2.1 hok hf acG;dsimp only at h1;unfold kY kZ;simp only[h0,h1,akY,if_true,zt (e:=JA) hr];cases d.1==1;case true=>exact hA.wrap
 cases d.1==2;case true=>exact hB.wrap
 cases d.1==6;case true=>exact hC.wrap
 simp only[akI];cases d.1==8;case true=>
  have hd:=K6.1 ahn;have hd2:=K6.1 hf;have hwr:ze (r.1,r.2.1,r.2.2.1,r.2.2.2.1,r.2.2.2.2.1,r.2.2.2.2.2.1,Lb r.2.2.2.2.2.2.1 d.2.2.1,r.2.2.2.2.2.2.2)<=1073741824:=by
   simp only[ze,J5] at hw ⊢;omega
  simp only[akJ,ZC r (by omega),aat _ _ (show r.2.2.2.2.2.2.1.1.length<=17592186044416 by omega),akH,aaM c _ hwr];exact Step.next hW rfl
 simp only[akI];cases d.1==7;case true=>exact TC hok hw acG
 exact RO hok hw hm acG
theorem Tf {w:zA} (h:WI w) (d:Y8) (hm:zj d.2.2.2<=137438953472):Step w (kV (w,d,())) (kW (w,d,())):=by
 have hl:=h.liars.1;have hs:=h.said.1;unfold kV kW;simp only[Ys,akH,aaD w.1 w.2.1 w.2.2.2.2 d.2.2.2 (show zj d.2.2.2<=137438953472 by omega) (by omega) (by omega)];cases (decide (d.2.1≥0) && decide (d.2.1<=wr (w.1.1 - 1)))
 ·exact Step.same (show (2:Int)≠0 by decide)
 cases hml:eF w.1 w.2.1 w.2.2.2.2 d.2.2.2
 ·exact Step.same (show (5:Int)≠0 by decide)
 have hk:zj d.2.2.2<=3847:=by
  unfold eF at hml;simp only[akK] at hml;exact eH hml.1
 have hS:=Cz h (ps:=[(d.2.1,d.2.2.2)]) λ p hp=>by
  simp only[al4,alB,or_false] at hp;rw[hp]; dsimp only; omega
 cases decide ((w.2.2.2.1.length:Int)≥60);case true=>exact Step.same (show (4:Int)≠0 by decide)
 simp only[akO,akI];rw[Ds w _ (show yo [(d.2.1,d.2.2.2)]<=1073741824 by simp only[yo,Ye,al3,alq,alp,List.sum_nil,akN,akM]; omega),Option.bind_some]
 exact Step.next hS rfl
theorem P3 {n:Int} {net:ju} (h:JC n net) (i:Nat) (hi:i<net.length):JC n ([]++(net.drop 0).take i++(net.drop (i+1)).take (net.length - (i+1))):=by
 refine⟨?_,λ x hx => ?_⟩
 ·have:=h.1;simp only[al9,al8,akR,al0,al7];omega
 ·simp only[al9,al8,al5] at hx;rcases hx with hx|hx
  ·exact h.2 x (List.mem_of_mem_take hx)
  ·exact h.2 x (List.mem_of_mem_drop (List.mem_of_mem_take hx))
theorem Ra {n:Int} {net:ju} (h:JC n net) (hl:net.length<60) {x:cH} (hx:x∈net):JC n (net++[(x.1,[]++x.2)]):=by
 refine⟨by simp only[akR,akN,akM]; omega,λ y hy => ?_⟩
 simp only[al5,al4,alB,or_false] at hy;rcases hy with hy|rfl
 ·exact h.2 y hy
 ·exact h.2 x hx
theorem WI.withNet {c:za} {l:y9} {reps:Yz} {net net':ju} {said:yV} (h:WI (c,l,reps,net,said)) (hn:JC c.1 net'):WI (c,l,reps,net',said):=
 ⟨h.conf,h.liars,h.len,h.reps,hn,h.said⟩
theorem RQ {w:zA} (hl:(w.2.2.1.length:Int)=w.1.1) {x:Int} (hx:(Z1 w).any (· == x)=true):0<=x/\x<(w.2.2.1.length:Int):=by
 unfold Z1 at hx;simp at hx;omega
theorem Tg {w:zA} (h:WI w) (d:Y8):Step w (qU (w,d,())) (qV (w,d,())):=by
 obtain⟨c,l,reps,net,said⟩:=w;have hn:=h.net;have ac1:=h.len;have hl:=h.liars.1;have hb:=yb h.conf;dsimp only at hn ac1 hl hb;unfold qU qV;dsimp only;rw[zh (n:=(net.length:Int) - 1) (by omega) (by omega),Ys];simp only[akH];cases hin:decide (d.2.1≥0) && decide (d.2.1<=(net.length:Int) - 1)
 ·exact Step.same (show (2:Int)≠0 by decide)
 simp only[akK,akV] at hin;have h0:0<=d.2.1:=hin.1;have h1:d.2.1<(net.length:Int):=by omega
 have hi:d.2.1.toNat<net.length:=by omega
 have hx:=List.getElem?_eq_getElem hi;have aeW:=List.getElem_mem hi;generalize net[d.2.1.toNat]=x at hx aeW;have hxb:=hn.2 x aeW;have h2:d.2.1<=(net.length:Int):=by omega
 simp only[akO,akI,h0,h1,akY,if_true,zt (e:=sQ) hx];cases d.1==5;case true=>
  simp only[akJ];cases h60:decide ((net.length:Int)≥60);case true=>exact Step.same (show (4:Int)≠0 by decide)
  simp only[alX] at h60;have e1:(0+x.2.length)*1<=70368744177664:=by omega
  have e2:(net.length+List.length [(x.1,[]++x.2)])*32<=70368744177664:=by simp only[akN,akM]; omega
  simp only[akI,e1,e2,if_true];exact Step.next (h.withNet (Ra hn (by omega) aeW)) rfl
 have ahj:=P3 hn d.2.1.toNat hi;have hw1:wr (d.2.1+1)=d.2.1+1:=zh (by omega) (by omega);have et:(d.2.1+1).toNat=d.2.1.toNat+1:=by omega
 have e3:0<=d.2.1+1/\d.2.1+1<=(net.length:Int)/\(net.length:Int)<=(net.length:Int):=⟨by omega,by omega,Int.le_refl _⟩
 have e4:(0+List.length (List.take (d.2.1.toNat - Int.toNat 0) (List.drop (Int.toNat 0) net)))*32<=70368744177664:=by
  have:=List.length_take_le (d.2.1.toNat - Int.toNat 0) (List.drop (Int.toNat 0) net); omega
 have e5:(List.length ([]++List.take (d.2.1.toNat - Int.toNat 0) (List.drop (Int.toNat 0) net))+List.length (List.take (Int.toNat (net.length:Int) - (d.2.1.toNat+1)) (List.drop (d.2.1.toNat+1) net)))*32<=70368744177664:=by
  have a1:=List.length_take_le (d.2.1.toNat - Int.toNat 0) (List.drop (Int.toNat 0) net);have a2:=List.length_take_le (Int.toNat (net.length:Int) - (d.2.1.toNat+1)) (List.drop (d.2.1.toNat+1) net);simp only[al9];omega
 simp only[akI,hw1,et,e4,e5,h0,h2,e3,am6,akY,if_true,true_and];have ahk:JC c.1 ([]++List.take (d.2.1.toNat - Int.toNat 0) (List.drop (Int.toNat 0) net)++List.take (Int.toNat (net.length:Int) - (d.2.1.toNat+1)) (List.drop (d.2.1.toNat+1) net)):=ahj;clear ahj;generalize []++List.take (d.2.1.toNat - Int.toNat 0) (List.drop (Int.toNat 0) net)++List.take (Int.toNat (net.length:Int) - (d.2.1.toNat+1)) (List.drop (d.2.1.toNat+1) net)=net' at ahk;have hW:=h.withNet ahk;cases d.1==3
 ·exact Step.next hW rfl
 rw[Yr l x.1 (by omega),akH,akH];dsimp only;cases l.any (· == x.1);case true=>exact Step.next hW rfl
 have x0:0<=x.1:=hxb.1.1;have x1:x.1<(reps.length:Int):=by omega
 obtain⟨r,hr,hok,hw,acG⟩:=hW.rep x0 x1;have hm:=TX c x.2 (by omega);simp only[akJ,al2,C9 c x.2 (by omega),akH,x0,x1,akY,if_true,zt (e:=JA) hr,C5 c r (JP c x.2).1 (by omega) (show zj (JP c x.2).1<=137438953472 by omega)];cases (L3 c r (JP c x.2).1).2
 ·exact Step.next hW rfl
 ·exact Step.next (acG _ (vp hok _)) rfl
theorem Th {w:zA} (h:WI w) (d:Y8) (hm:zj d.2.2.2<=137438953472):Step w (kX (w,d,())) (ci (w,d,())):=by
 have hN:=Tg h d;have hL:=Tf h d hm;have hl:=h.liars.1;have ac1:=h.len;have hb:=yb h.conf;have hhl:(Z1 w).length<=w.2.2.1.length:=by
  unfold Z1;rw[alA];have:=List.length_filter_le (λ (i:Nat) => !(w.2.1.any (· == (i:Int)))) (List.range w.2.2.1.length);rw[ami] at this;exact this
 unfold kX ci;dsimp only;cases d.1==3;case true=>exact hN.wrap
 cases d.1==4;case true=>exact hN.wrap
 cases d.1==5;case true=>exact hN.wrap
 cases d.1==10;case true=>exact hL.wrap
 simp only[akI];rw[C6 w (by omega) (by omega),akH,akH];dsimp only;rw[Yr (Z1 w) d.2.1 (by omega),akH,akH];dsimp only;cases hh:(Z1 w).any (· == d.2.1)
 ·exact Step.same (show (2:Int)≠0 by decide)
 have hr:=RQ ac1 hh;exact (Ti h d hr.1 hr.2 hm).wrap
theorem Tj {w:zA} (h:WI w) (d:Y8) (hm:zj d.2.2.2<=137438953472):Ens (lc (w,d,())) λ r=>WI r.1:=by
 unfold lc;dsimp only;rcases Th h d hm with⟨w',e,k,e'⟩|⟨n,hn,e,e'⟩
 ·rw[e',e];exact Ens.some k
 ·rw[e',e];have:(n != 0)=true:=by simp[hn]
  simp only[has,Le,akH,this,akJ];exact Ens.some h
theorem Uc {c:za} {liars:y9} (h:zz c=true) (hl:jQ c.1 liars=true) (hf:(liars.length:Int)<=JH c):Qk (y7 c liars)=true:=by
 have hb:=yb h;unfold Qk y7;simp only[h,hl,hf,eK h,alA,ami,akM,j5,akK,akV,alk,and_true,true_and];refine⟨by omega,by omega,by omega,(uF _ _ 0).2 λ i hi => ?_⟩;simp only[alA,ami] at hi;simp only[List.getElem_map,List.getElem_range,aZ,akK,alk];refine⟨nO h (by omega) (by omega),?_⟩;simp only[Jk,alE]
theorem Dw {c:za} {liars:y9} (h:zz c=true) (hl:jQ c.1 liars=true) (hf:(liars.length:Int)<=JH c):(KT c liars).1=y7 c liars/\WI (y7 c liars):=by
 have hb:=yb h;refine⟨?_,Ub h ?_ (XP hl)⟩
 ·unfold KT;rw[Uc h hl hf]; rfl
 ·have:JH c<=7:=by
   unfold JH;rw[if_pos h]; omega
  omega
theorem Td (c:zR) (hc:ya c):Ens (kU (c,())) λ r=>0<=r.1.2.1/\WI r.2.1:=by
 unfold kU;refine (jN c _ hc (by simp)).bind λ r0 h0 => ?_;refine (zI (c.1,r0.1.2) 3 ⟨hc.1,h0.1⟩).bind λ r1 h1 => ?_;refine (YN (c.1,r1.1.2) 3 ⟨hc.1,h1.1⟩).bind λ r2 h2 => ?_;have a1:=h1.2.2 (by decide);have hN:4<=r0.2.1/\r0.2.1<=7:=by
  have:=h0.2;simp only[al4,alB,or_false] at this;omega
 rw[zh (n:=1+r1.2.1) (by omega) (by omega)];have ags:zz (r0.2.1,1+r1.2.1)=true:=by
  unfold zz;simp only[akK,akV];omega
 have hfa:(1:Int)<=JH (r0.2.1,1+r1.2.1):=by
  unfold JH;rw[if_pos ags];dsimp only; omega
 refine Ens.cond (λ _ => ?_) λ _ => ?_
 ·refine (zI (c.1,r2.1.2) r0.2.1 ⟨hc.1,h2⟩).bind λ r3 h3 => ?_;have a3:=h3.2.2 (by omega);have hs:jQ (r0.2.1,1+r1.2.1).1 [r3.2.1]=true:=by
   unfold jQ;simp only[Y1,Bool.and_true,akK,ale,alX];omega
  have k:=Dw ags hs (by simpa using hfa);rw[Dk _ _ (by simp),akH,k.1];exact Ens.some ⟨h3.1,k.2⟩
 ·have k:=Dw (liars:=[]) ags rfl (by simp only[akM]; omega)
  rw[Dk _ _ (by simp),akH,k.1];exact Ens.some ⟨h2,k.2⟩
def lU (r:zR×zv×Unit):Prop:=0<=r.1.2.1/\zj r.2.1<=4000/\(0<=r.2.1.2.2.2.1.1/\r.2.1.2.2.2.1.1<=60)/\zC r.2.1.2.2.2.1.2.1=true/\r.2.1.2.2.2.1.2.2.length<=400
theorem sI (cur:zR) (liars:y9) (said:yV) (view:Int) (name:List UInt8) (hc:0<=cur.2.1) (hl:liars.length<=7) (hs:said.length<=300) (hv:0<=view/\view<=60) (hn:zC name=true):
  Ens (iter (λ rec7 (x7:List Int×Int×Unit)=>bif decide (x7.2.1<(said.length:Int)) then if 0<=x7.2.1/\x7.2.1<(said.length:Int) then bif (rd M9 said x7.2.1.toNat).1==view then if 0<=x7.2.1/\x7.2.1<(said.length:Int) then bif (rd M9 said x7.2.1.toNat).2.1==name then if 0<=x7.2.1/\x7.2.1<(said.length:Int) then (Yd (x7.1,(rd M9 said x7.2.1.toNat).2.2,())).bind λ r8=>rec7 (r8.1,wr (x7.2.1+1),()) else none else rec7 (x7.1,wr (x7.2.1+1),()) else none else rec7 (x7.1,wr (x7.2.1+1),()) else none else some ((cur,((2,0,([],0,[],[]),(view,name,x7.1),(0,[],[]),0,0,0,0,0):zv),()):zR×zv×Unit)) fuel ([]++liars,0,())) lU:=by
 refine Ens.loop (λ x=>(0<=x.2.1/\x.2.1<=(said.length:Int))/\(x.1.length:Int)<=7+x.2.1) (λ x=>((said.length:Int) - x.2.1).toNat) ?_ ⟨by simp,by simp; omega⟩ (by dsimp only; rw[ja]; omega)
 intro rec x hx abX;obtain⟨x1,x2⟩:=hx;refine Ens.cond (λ h => ?_) λ h => ?_
 ·have h:x.2.1<(said.length:Int):=by simpa using h
  have e1:wr (x.2.1+1)=x.2.1+1:=zh (by omega) (by omega);rw[e1];have hno:Ens (rec (x.1,x.2.1+1,())) lU:=abX _ ⟨⟨by dsimp only; omega,by dsimp only; omega⟩,by dsimp only; omega⟩ (by dsimp only; omega)
  refine Ens.ite ⟨x1.1,h⟩ (Ens.cond (λ _ => ?_) λ _=>hno);refine Ens.ite ⟨x1.1,h⟩ (Ens.cond (λ _ => ?_) λ _=>hno);refine Ens.ite ⟨x1.1,h⟩ ?_;have hl:=bo x.1 (rd M9 said x.2.1.toNat).2.2;rw[bM x.1 _ (by omega),akH];exact abX _ ⟨⟨by dsimp only; omega,by dsimp only; omega⟩,by dsimp only; omega⟩ (by dsimp only; omega)
 ·have hnl:=Za hn;refine Ens.some ⟨hc,?_,hv,hn,by dsimp only; omega⟩
  simp only[zj,zp,zi,zk,zn,akM];omega
theorem Te (c:zR) {w:zA} (hc:ya c) (h:WI w):Ens (cg (c,w,())) lU:=by
 have hl:=h.liars.1;have hs:=h.said.1;unfold cg;dsimp only;refine (zI c 4 hc).bind λ r0 h0 => ?_;have a0:=h0.2.2 (by decide);rw[zh (n:=1+r0.2.1) (by omega) (by omega),bE [] _ [] (by simp) (by omega) (by simp),Option.bind_some];refine Ens.ite (by omega) (Ens.cond (λ hp => ?_) λ _=>sI (c.1,r0.1.2) w.2.1 w.2.2.2.2 _ _ h0.1 hl hs (by omega) (nM _ _ _));have hp:(w.2.2.2.2.length:Int)>0:=by simpa using hp
 have afl:yf ((w.2.2.2.2.length:Int),8,())=some (if (w.2.2.2.2.length:Int)<8 then (w.2.2.2.2.length:Int) else 8,()):=by
  unfold yf;by_cases e:(w.2.2.2.2.length:Int)<8<;>simp[e]
 rw[afl,akH];have hmb:0<(if (w.2.2.2.2.length:Int)<8 then (w.2.2.2.2.length:Int) else 8)/\(if (w.2.2.2.2.length:Int)<8 then (w.2.2.2.2.length:Int) else 8)<=(w.2.2.2.2.length:Int):=by
  split<;>omega
 generalize (if (w.2.2.2.2.length:Int)<8 then (w.2.2.2.2.length:Int) else 8)=n at hmb;refine (zI (c.1,r0.1.2) n ⟨hc.1,h0.1⟩).bind λ r3 h3 => ?_;have a3:=h3.2.2 hmb.1;have e1:wr ((w.2.2.2.2.length:Int) - 1)=(w.2.2.2.2.length:Int) - 1:=zh (by omega) (by omega);have e2:wr ((w.2.2.2.2.length:Int) - 1 - r3.2.1)=(w.2.2.2.2.length:Int) - 1 - r3.2.1:=zh (by omega) (by omega);rw[e1,e2];refine Ens.ite (by omega) ?_;have hi:((w.2.2.2.2.length:Int) - 1 - r3.2.1).toNat<w.2.2.2.2.length:=by omega
 have hx:=List.getElem?_eq_getElem hi;have aeW:=List.getElem_mem hi;generalize w.2.2.2.2[((w.2.2.2.2.length:Int) - 1 - r3.2.1).toNat]=x at hx aeW;have hxb:=(h.said.2 x aeW).1;have hvb:=Qg hxb.1;have hxl:=Za hxb.1;rw[hxb.2] at hvb;rw[zt (e:=M9) hx];refine (YN (c.1,r3.1.2) 3 ⟨hc.1,h3.1⟩).bind λ r4 h4 => ?_;refine Ens.cond (λ _ => ?_) λ _=>sI (c.1,r4.1.2) w.2.1 w.2.2.2.2 _ _ h4 hl hs hvb hxb.1;have hu:=M5 x.2.1;rw[bT x.2.1 (by omega),akH,bE (ZE x.2.1) x.1 _ (by omega) (by omega) (by simp),akH];exact sI (c.1,r4.1.2) w.2.1 w.2.2.2.2 _ _ h4 hl hs hvb (nM _ _ _)
def cz (r:zR×zv×Unit):Prop:=0<=r.1.2.1/\zj r.2.1<=8000
theorem tr (c:za) (q:zH) (v:Int) (l:zF):zp (K2 c q v l).1<=3847:=by
 unfold K2;cases hb:jm c (j9 q.2.1 v l,q) && zg (j9 q.2.1 v l)==v
 ·simp[cw,zp,zi,zn]
 ·simp only[akK] at hb;exact tv hb.1
theorem TL (code:List UInt8) (p:Int×Int) (c:za) (q:zH) (v:Int) (hc:ya (code,p)) (hq:zi q<=5000) (hv:0<=v/\v<=61):Ens ((z6 ((code,p),())).bind λ r25=>(yd (c,q,v,[r25.2.1],())).bind λ r26=>some ((code,r25.1.2),(1,0,r26.1,(0,[],[]),(0,[],[]),0,0,0,0,0),())) cz:=by
 refine (Me (code,p) hc).bind λ r hr => ?_;rw[gH c q v [r.2.1] (by omega) (by omega) (by simp),Option.bind_some];have:=tr c q v [r.2.1];refine Ens.some ⟨hr.1,?_⟩;simp only[zj,zi,zk,zn,akM];omega
theorem vQ (code:List UInt8) (p:Int×Int) (w:zA) (m:zv) (q:zH) (who:Int) (hc:ya (code,p)) (hm:zj m<=4000) (hq:zi q<=5000) (hq1:0<=q.1/\q.1<=60):
  Ens ((zl ((code,p),4,())).bind λ r18=>bif r18.2.1==0 then some (((code,r18.1.2),m,()):zR×zv×Unit) else bif r18.2.1==1 then (zl ((code,r18.1.2),2,())).bind λ r19=>(yf (wr (wr (q.1+1)+r19.2.1),60,())).bind λ r20=>some ((code,r19.1.2),(3,r20.1,([],0,[],[]),(0,[],[]),q,who,0,0,0,0),()) else iter (λ rec21 (x21:Int×Int×Unit)=>bif decide (x21.2.1<7) then bif decide (x21.1<60) then (jF (w.1,x21.1,())).bind λ r22=>bif r22.1 != who then rec21 (wr (x21.1+1),wr (x21.2.1+1),()) else (z6 ((code,r18.1.2),())).bind λ r23=>(yd (w.1,q,x21.1,[r23.2.1],())).bind λ r24=>some ((code,r23.1.2),(1,0,r24.1,(0,[],[]),(0,[],[]),0,0,0,0,0),()) else (z6 ((code,r18.1.2),())).bind λ r25=>(yd (w.1,q,x21.1,[r25.2.1],())).bind λ r26=>some ((code,r25.1.2),(1,0,r26.1,(0,[],[]),(0,[],[]),0,0,0,0,0),()) else (z6 ((code,r18.1.2),())).bind λ r27=>(yd (w.1,q,x21.1,[r27.2.1],())).bind λ r28=>some ((code,r27.1.2),(1,0,r28.1,(0,[],[]),(0,[],[]),0,0,0,0,0),())) fuel (wr (q.1+1),0,())) cz:=by
 refine (zI (code,p) 4 hc).bind λ r0 h0 => ?_;refine Ens.cond (λ _=>Ens.some ⟨h0.1,by dsimp only; omega⟩) λ _ => ?_
 have e1:wr (q.1+1)=q.1+1:=zh (by omega) (by omega);rw[e1];refine Ens.cond (λ _ => ?_) λ _ => ?_
 ·refine (zI (code,r0.1.2) 2 ⟨hc.1,h0.1⟩).bind λ r1 h1 => ?_;have afl:∀ a b:Int,yf (a,b,())=some (if a<b then a else b,()):=by
   intro a b;unfold yf;by_cases e:a<b<;>simp[e]
  rw[afl,akH];refine Ens.some ⟨h1.1,?_⟩;simp only[zj,zp,zi,zk,zn,akM] at hq ⊢;omega
 ·refine Ens.loop (λ x=>(0<=x.2.1/\x.2.1<=7)/\(0<=x.1/\x.1<=61)) (λ x=>(8 - x.2.1).toNat) ?_ ⟨by simp,by dsimp only; omega⟩ (by dsimp only; rw[ja]; omega)
  intro rec x hx abX;obtain⟨x1,x2⟩:=hx;have hb:=TL code r0.1.2 w.1 q x.1 ⟨hc.1,h0.1⟩ hq x2;refine Ens.cond (λ h => ?_) λ _=>hb;have h:x.2.1<7:=by simpa using h
  refine Ens.cond (λ h' => ?_) λ _=>hb;have h':x.1<60:=by simpa using h'
  rw[ML,akH];refine Ens.cond (λ _ => ?_) λ _=>hb;rw[zh (n:=x.1+1) (by omega) (by omega),zh (n:=x.2.1+1) (by omega) (by omega)];exact abX _ ⟨by dsimp only; omega,by dsimp only; omega⟩ (by dsimp only; omega)
theorem ez (code:List UInt8) (p:Int×Int) (w:zA) (m:zv) (q:zH) (hc:ya (code,p)) (hm:zj m<=4000) (hq:zi q<=5000) (hq1:0<=q.1/\q.1<=60):
  Ens (bif decide ((w.2.1.length:Int)>0) then (zl ((code,p),(w.2.1.length:Int),())).bind λ r6=>if 0<=r6.2.1/\r6.2.1<(w.2.1.length:Int) then (zl ((code,r6.1.2),4,())).bind λ r7=>bif r7.2.1==0 then some (((code,r7.1.2),m,()):zR×zv×Unit) else bif r7.2.1==1 then (zl ((code,r7.1.2),2,())).bind λ r8=>(yf (wr (wr (q.1+1)+r8.2.1),60,())).bind λ r9=>some ((code,r8.1.2),(3,r9.1,([],0,[],[]),(0,[],[]),q,rd .i64 w.2.1 r6.2.1.toNat,0,0,0,0),()) else iter (λ rec10 (x10:Int×Int×Unit)=>bif decide (x10.2.1<7) then bif decide (x10.1<60) then (jF (w.1,x10.1,())).bind λ r11=>bif r11.1 != rd .i64 w.2.1 r6.2.1.toNat then rec10 (wr (x10.1+1),wr (x10.2.1+1),()) else (z6 ((code,r7.1.2),())).bind λ r12=>(yd (w.1,q,x10.1,[r12.2.1],())).bind λ r13=>some ((code,r12.1.2),(1,0,r13.1,(0,[],[]),(0,[],[]),0,0,0,0,0),()) else (z6 ((code,r7.1.2),())).bind λ r14=>(yd (w.1,q,x10.1,[r14.2.1],())).bind λ r15=>some ((code,r14.1.2),(1,0,r15.1,(0,[],[]),(0,[],[]),0,0,0,0,0),()) else (z6 ((code,r7.1.2),())).bind λ r16=>(yd (w.1,q,x10.1,[r16.2.1],())).bind λ r17=>some ((code,r16.1.2),(1,0,r17.1,(0,[],[]),(0,[],[]),0,0,0,0,0),())) fuel (wr (q.1+1),0,()) else none else (zl ((code,p),4,())).bind λ r18=>bif r18.2.1==0 then some ((code,r18.1.2),m,()) else bif r18.2.1==1 then (zl ((code,r18.1.2),2,())).bind λ r19=>(yf (wr (wr (q.1+1)+r19.2.1),60,())).bind λ r20=>some ((code,r19.1.2),(3,r20.1,([],0,[],[]),(0,[],[]),q,0,0,0,0,0),()) else iter (λ rec21 (x21:Int×Int×Unit)=>bif decide (x21.2.1<7) then bif decide (x21.1<60) then (jF (w.1,x21.1,())).bind λ r22=>bif r22.1 != 0 then rec21 (wr (x21.1+1),wr (x21.2.1+1),()) else (z6 ((code,r18.1.2),())).bind λ r23=>(yd (w.1,q,x21.1,[r23.2.1],())).bind λ r24=>some ((code,r23.1.2),(1,0,r24.1,(0,[],[]),(0,[],[]),0,0,0,0,0),()) else (z6 ((code,r18.1.2),())).bind λ r25=>(yd (w.1,q,x21.1,[r25.2.1],())).bind λ r26=>some ((code,r25.1.2),(1,0,r26.1,(0,[],[]),(0,[],[]),0,0,0,0,0),()) else (z6 ((code,r18.1.2),())).bind λ r27=>(yd (w.1,q,x21.1,[r27.2.1],())).bind λ r28=>some ((code,r27.1.2),(1,0,r28.1,(0,[],[]),(0,[],[]),0,0,0,0,0),())) fuel (wr (q.1+1),0,())) cz:=by
 refine Ens.cond (λ h => ?_) λ _=>vQ code p w m q 0 hc hm hq hq1;have h:(w.2.1.length:Int)>0:=by simpa using h
 refine (zI (code,p) _ hc).bind λ r1 h1 => ?_;have a1:=h1.2.2 h;exact Ens.ite ⟨h1.2.1,a1⟩ (vQ code r1.1.2 w m q _ ⟨hc.1,h1.1⟩ hm hq hq1)
theorem Tb (c:zR) {w:zA} (hc:ya c) (h:WI w):Ens (qT (c,w,())) cz:=by
 unfold qT sh sg sn se;refine (Te c hc h).bind λ r0 h0 => ?_;obtain⟨k1,k2,k3,k4,k5⟩:=h0;have hq:zi r0.2.1.2.2.2.1<=4000:=by
  simp only[zj,zk] at k2;simp only[zi]; omega
 rw[LD w.1 r0.2.1.2.2.2.1 (by omega),akH];refine Ens.cond (λ _ => ?_) λ _=>ez c.1 r0.1.2 w r0.2.1 r0.2.1.2.2.2.1 ⟨hc.1,k1⟩ k2 (by omega) k3;have hf:g8 ()=some ((0,[],[]),()):=rfl;have hz:zi ((0,[],[]):zH)<=5000:=by simp[zi,zn]
 rw[hf,akH];refine Ens.cond (λ hp => ?_) λ _=>ez c.1 r0.1.2 w r0.2.1 (0,[],[]) ⟨hc.1,k1⟩ k2 hz (by dsimp only; omega)
 have hp:(w.2.2.1.length:Int)>0:=by simpa using hp
 refine (YN (c.1,r0.1.2) 2 ⟨hc.1,k1⟩).bind λ r3 h3 => ?_;refine Ens.cond (λ _ => ?_) λ _=>ez c.1 r3.1.2 w r0.2.1 (0,[],[]) ⟨hc.1,h3⟩ k2 hz (by dsimp only; omega)
 refine (zI (c.1,r3.1.2) _ ⟨hc.1,h3⟩).bind λ r4 h4 => ?_;have a4:=h4.2.2 hp;refine Ens.ite ⟨h4.2.1,a4⟩ ?_;obtain⟨r,hr,hok,hw,-⟩:=WI.rep (c:=w.1) (l:=w.2.1) (reps:=w.2.2.1) (rest:=w.2.2.2) h h4.2.1 a4;rw[zt (e:=JA) hr];have hs:=(J0 hok).2.2.2.2.1;have hqk:zT w.1 r.2.2.2.1.2.2.1=true:=by
  unfold zX at hs;simp only[akK] at hs;exact hs.2.2.1
 have hqw:=fK hqk;have hqn:=pq hqk;have hqv:=Qg hqn.1;rw[hqn.2] at hqv;rw[MW r.2.2.2.1.2.2.1 (by omega),akH];exact ez c.1 r4.1.2 w r0.2.1 r.2.2.2.1.2.2.1 ⟨hc.1,h4.1⟩ k2 (by omega) hqv
def LO (r:zR×Y8×Unit):Prop:=0<=r.1.2.1/\zj r.2.1.2.2.2<=10000
theorem Kd (code:List UInt8) (p:Int×Int) (k i j:Int) (h:0<=p.1):LO ((code,p),(k,i,j,0,0,([],0,[],[]),(0,[],[]),(0,[],[]),0,0,0,0,0),()):=
 ⟨h,by simp[zj,zp,zi,zk,zn]⟩
theorem tU (code:List UInt8) (p:Int×Int) (w:zA) (k:Int) (hc:ya (code,p)):Ens (bif (w.2.2.2.1.length:Int)==0 then some (((code,p),(2,k,0,0,0,([],0,[],[]),(0,[],[]),(0,[],[]),0,0,0,0,0),()):zR×Y8×Unit) else (yf ((w.2.2.2.1.length:Int),4,())).bind λ r13=>(zl ((code,p),r13.1,())).bind λ r14=>some ((code,r14.1.2),(3,r14.2.1,0,0,0,([],0,[],[]),(0,[],[]),(0,[],[]),0,0,0,0,0),())) LO:=by
 refine Ens.cond (λ _=>Ens.some (Kd _ _ _ _ _ hc.2)) λ _ => ?_;have afl:∀ a b:Int,yf (a,b,())=some (if a<b then a else b,()):=by
  intro a b;unfold yf;by_cases e:a<b<;>simp[e]
 rw[afl,akH];exact (zI (code,p) _ hc).bind λ r1 h1=>Ens.some (Kd _ _ _ _ _ h1.1)
theorem pE {w:zA} (h:WI w) {i:Int} (h0:0<=i) (h1:i<(w.2.2.1.length:Int)):∃ r,w.2.2.1[i.toNat]?=some r/\zf w.1 r=true/\ze r<=260000:=by
 obtain⟨r,hr,hok,hw,-⟩:=WI.rep (c:=w.1) (l:=w.2.1) (reps:=w.2.2.1) (rest:=w.2.2.2) h h0 h1;exact⟨r,hr,hok,hw⟩
theorem P4 (code:List UInt8) (p:Int×Int) (w:zA) (k:Int) (hc:ya (code,p)) (h:WI w) (hk:0<=k/\k<=8):Ens (α:=zR×Y8×Unit) (iter (λ rec3 (x3:Int×Y8×Unit)=>bif decide (x3.1<(w.2.2.1.length:Int)) then if (w.2.2.1.length:Int)=0 then none else if 0<=Int.tmod (wr (k+x3.1)) (w.2.2.1.length:Int)/\Int.tmod (wr (k+x3.1)) (w.2.2.1.length:Int)<(w.2.2.1.length:Int) then (KG (w.1,rd (.pair .i64 (.pair .i64 (.pair .i64 (.pair (.pair .i64 (.pair .i64 (.pair (.pair .i64 (.pair .str (.sl 0 .i64))) .str))) (.pair (.sl 0 (.pair .i64 (.pair .i64 (.pair .i64 .i64)))) (.pair (.sl 0 (.pair .i64 (.pair .str (.sl 0 .i64)))) (.pair (.pair (.sl 0 .u8) .i64) (.sl 0 (.pair .i64 (.pair .i64 (.pair .i64 (.pair (.pair .str (.pair .i64 (.pair .str (.sl 0 .i64)))) (.pair (.pair .i64 (.pair .str (.sl 0 .i64))) (.pair (.pair .i64 (.pair .str (.sl 0 .i64))) (.pair .i64 (.pair .i64 (.pair .i64 (.pair .i64 .i64)))))))))))))))))) w.2.2.1 (Int.toNat (Int.tmod (wr (k+x3.1)) (w.2.2.1.length:Int))),())).bind λ r4=>bif r4.2.1 then if (w.2.2.1.length:Int)=0 then none else (jx (w.2.1,Int.tmod (wr (k+x3.1)) (w.2.2.1.length:Int),())).bind λ r5=>bif !r5.1 then if (w.2.2.1.length:Int)=0 then none else some ((code,p),(1,Int.tmod (wr (k+x3.1)) (w.2.2.1.length:Int),0,0,0,([],0,[],[]),(0,[],[]),(0,[],[]),0,0,0,0,0),()) else rec3 (wr (x3.1+1),x3.2.1,()) else rec3 (wr (x3.1+1),x3.2.1,()) else none else some ((code,p),(7,k,0,0,0,([],0,[],[]),(0,[],[]),(0,[],[]),0,0,0,0,0),())) fuel (0,(0,0,0,0,0,([],0,[],[]),(0,[],[]),(0,[],[]),0,0,0,0,0),())) LO:=by
 have hb:=yb h.conf;have ac1:=h.len;have hl:=h.liars.1;refine Ens.loop (λ x=>(0<=x.1/\x.1<=8)) (λ x=>(9 - x.1).toNat) ?_ (by simp) (by dsimp only; rw[ja]; omega)
 intro rec x hx abX;have hn:¬ (w.2.2.1.length:Int)=0:=by omega
 refine Ens.cond (λ hh => ?_) λ hh=>Ens.some (Kd _ _ _ _ _ hc.2);have hh:x.1<(w.2.2.1.length:Int):=by simpa using hh
 rw[if_neg hn,zh (n:=k+x.1) (by omega) (by omega),zh (n:=x.1+1) (by omega) (by omega)];have hno:Ens (rec (x.1+1,x.2.1,())) LO:=abX _ (by dsimp only; omega) (by dsimp only; omega)
 have t0:0<=Int.tmod (k+x.1) (w.2.2.1.length:Int):=Int.tmod_nonneg _ (by omega);have t1:Int.tmod (k+x.1) (w.2.2.1.length:Int)<(w.2.2.1.length:Int):=Int.tmod_lt_of_pos _ (by omega);refine Ens.ite ⟨t0,t1⟩ ?_;obtain⟨r,hr,hok,hw⟩:=pE h t0 t1;rw[zt (e:=JA) hr,C4 w.1 r (by omega),akH];refine Ens.cond (λ _ => ?_) λ _=>hno;rw[if_neg hn,Yr w.2.1 _ (by omega),akH];refine Ens.cond (λ _ => ?_) λ _=>hno;rw[if_neg hn];exact Ens.some (Kd _ _ _ _ _ hc.2)
theorem P5 (code:List UInt8) (p:Int×Int) (w:zA) (k:Int) (hc:ya (code,p)) (h:WI w) (hk:0<=k/\k<=8):Ens (α:=zR×Y8×Unit) (iter (λ rec12 (x12:Int×Y8×Unit)=>bif decide (x12.1<(w.2.2.1.length:Int)) then if (w.2.2.1.length:Int)=0 then none else if 0<=Int.tmod (wr (k+x12.1)) (w.2.2.1.length:Int)/\Int.tmod (wr (k+x12.1)) (w.2.2.1.length:Int)<(w.2.2.1.length:Int) then bif decide ((List.length (rd (.pair .i64 (.pair .i64 (.pair .i64 (.pair (.pair .i64 (.pair .i64 (.pair (.pair .i64 (.pair .str (.sl 0 .i64))) .str))) (.pair (.sl 0 (.pair .i64 (.pair .i64 (.pair .i64 .i64)))) (.pair (.sl 0 (.pair .i64 (.pair .str (.sl 0 .i64)))) (.pair (.pair (.sl 0 .u8) .i64) (.sl 0 (.pair .i64 (.pair .i64 (.pair .i64 (.pair (.pair .str (.pair .i64 (.pair .str (.sl 0 .i64)))) (.pair (.pair .i64 (.pair .str (.sl 0 .i64))) (.pair (.pair .i64 (.pair .str (.sl 0 .i64))) (.pair .i64 (.pair .i64 (.pair .i64 (.pair .i64 .i64)))))))))))))))))) w.2.2.1 (Int.toNat (Int.tmod (wr (k+x12.1)) (w.2.2.1.length:Int)))).2.2.2.2.2.2.2:Int)>0) then if (w.2.2.1.length:Int)=0 then none else some ((code,p),(2,Int.tmod (wr (k+x12.1)) (w.2.2.1.length:Int),0,0,0,([],0,[],[]),(0,[],[]),(0,[],[]),0,0,0,0,0),()) else rec12 (wr (x12.1+1),x12.2.1,()) else none else bif (w.2.2.2.1.length:Int)==0 then some ((code,p),(2,k,0,0,0,([],0,[],[]),(0,[],[]),(0,[],[]),0,0,0,0,0),()) else (yf ((w.2.2.2.1.length:Int),4,())).bind λ r13=>(zl ((code,p),r13.1,())).bind λ r14=>some ((code,r14.1.2),(3,r14.2.1,0,0,0,([],0,[],[]),(0,[],[]),(0,[],[]),0,0,0,0,0),())) fuel (0,(0,0,0,0,0,([],0,[],[]),(0,[],[]),(0,[],[]),0,0,0,0,0),())) LO:=by
 have hb:=yb h.conf;have ac1:=h.len;have hl:=h.liars.1;refine Ens.loop (λ x=>(0<=x.1/\x.1<=8)) (λ x=>(9 - x.1).toNat) ?_ (by simp) (by dsimp only; rw[ja]; omega)
 intro rec x hx abX;have hn:¬ (w.2.2.1.length:Int)=0:=by omega
 refine Ens.cond (λ hh => ?_) λ hh=>tU code p w k hc;have hh:x.1<(w.2.2.1.length:Int):=by simpa using hh
 rw[if_neg hn,zh (n:=k+x.1) (by omega) (by omega),zh (n:=x.1+1) (by omega) (by omega)];have hno:Ens (rec (x.1+1,x.2.1,())) LO:=abX _ (by dsimp only; omega) (by dsimp only; omega)
 have t0:0<=Int.tmod (k+x.1) (w.2.2.1.length:Int):=Int.tmod_nonneg _ (by omega);have t1:Int.tmod (k+x.1) (w.2.2.1.length:Int)<(w.2.2.1.length:Int):=Int.tmod_lt_of_pos _ (by omega);refine Ens.ite ⟨t0,t1⟩ ?_;obtain⟨r,hr,hok,hw⟩:=pE h t0 t1;rw[zt (e:=JA) hr];refine Ens.cond (λ _ => ?_) λ _=>hno;rw[if_neg hn];exact Ens.some (Kd _ _ _ _ _ hc.2)
theorem Ta (c:zR) {w:zA} (hc:ya c) (h:WI w):Ens (kS (c,w,())) LO:=by
 have hb:=yb h.conf;have ac1:=h.len;unfold kS;have adf:yQ ((w.2.2.1.length:Int),1,())=some ((w.2.2.1.length:Int),()):=by
  unfold yQ;have:(w.2.2.1.length:Int)>1:=by omega
  simp[this]
 dsimp only;rw[adf,akH];refine (zI c _ hc).bind λ r1 h1 => ?_;have a1:=h1.2.2 (by dsimp only; omega)
 dsimp only at a1;refine (zI (c.1,r1.1.2) 20 ⟨hc.1,h1.1⟩).bind λ r2 h2 => ?_;have c2:ya (c.1,r2.1.2):=⟨hc.1,h2.1⟩
 have hk:0<=r1.2.1/\r1.2.1<=8:=⟨h1.2.1,by omega⟩
 have A:=P4 c.1 r2.1.2 w r1.2.1 c2 h hk;have S:=P5 c.1 r2.1.2 w r1.2.1 c2 h hk;have G:=tU c.1 r2.1.2 w r1.2.1 c2;have L:=Tb (c.1,r2.1.2) c2 h;refine Ens.cond (λ _=>A) λ _ => ?_;refine Ens.cond (λ _=>A) λ _ => ?_;refine Ens.cond (λ _=>A) λ _ => ?_;refine Ens.cond (λ _=>S) λ _ => ?_;refine Ens.cond (λ _=>S) λ _ => ?_;refine Ens.cond (λ _=>S) λ _ => ?_;refine Ens.cond (λ _=>S) λ _ => ?_;refine Ens.cond (λ _=>Ens.some (Kd _ _ _ _ _ h2.1)) λ _ => ?_;refine Ens.cond (λ _=>Ens.some (Kd _ _ _ _ _ h2.1)) λ _ => ?_;refine Ens.cond (λ _ => ?_) λ _ => ?_
 ·refine (YN (c.1,r2.1.2) 2 c2).bind λ r3 h3 => ?_;refine Ens.cond (λ _ => ?_) λ _ => ?_
  ·exact (jN (c.1,r3.1.2) _ ⟨hc.1,h3⟩ (by simp)).bind λ r4 h4=>Ens.some (Kd _ _ _ _ _ h4.1)
  ·refine (zI (c.1,r3.1.2) 2 ⟨hc.1,h3⟩).bind λ r4 h4 => ?_;have agI:∃ n,yQ ((w.2.2.2.1.length:Int),1,())=some (n,()):=by
    unfold yQ;cases decide ((w.2.2.2.1.length:Int)>1)<;>exact⟨_,rfl⟩
   obtain⟨n,agI⟩:=agI;rw[agI,akH];exact (zI (c.1,r4.1.2) _ ⟨hc.1,h4.1⟩).bind λ r5 h5=>Ens.some (Kd _ _ _ _ _ h5.1)
 refine Ens.cond (λ _ => ?_) λ _ => ?_
 ·refine (Me (c.1,r2.1.2) c2).bind λ r3 h3=>Ens.some ⟨h3.1,?_⟩;simp[zj,zp,zi,zk,zn]
 refine Ens.cond (λ _ => ?_) λ _ => ?_
 ·exact Ens.cond (λ _=>L.bind λ r3 h3=>Ens.some ⟨h3.1,by have:=h3.2; dsimp only; omega⟩) λ _=>G
 refine Ens.cond (λ _ => ?_) λ _ => ?_
 ·exact Ens.cond (λ _=>L.bind λ r3 h3=>Ens.some ⟨h3.1,by have:=h3.2; dsimp only; omega⟩) λ _=>G
 refine Ens.cond (λ _ => ?_) λ _=>G
 ·exact Ens.cond (λ _=>L.bind λ r3 h3=>Ens.some ⟨h3.1,by have:=h3.2; dsimp only; omega⟩) λ _=>G
theorem Tc (c:zR) (hc:ya c):Ens (kT (c,())) λ r=>0<=r.1.2.1/\WI r.2.1:=by
 unfold kT;refine (Td c hc).bind λ r0 h0 => ?_;refine (zI (c.1,r0.1.2) 45 ⟨hc.1,h0.1⟩).bind λ r1 h1 => ?_;have a1:=h1.2.2 (by decide);refine Ens.loop (λ x=>(0<=x.1/\x.1<=45)/\0<=x.2.1.2.1/\WI x.2.2.1) (λ x=>(46 - x.1).toNat) ?_ ⟨by simp,h1.1,h0.2⟩ (by dsimp only; rw[ja]; omega)
 intro rec x hx abX;obtain⟨x1,x2,x3⟩:=hx;refine Ens.cond (λ h => ?_) λ _=>Ens.some ⟨x2,x3⟩;have h:x.1<r1.2.1:=by simpa using h
 refine (Ta (c.1,x.2.1.2) ⟨hc.1,x2⟩ x3).bind λ r3 h3 => ?_;refine (Tj x3 r3.2.1 (by have:=h3.2; omega)).bind λ r4 h4 => ?_
 rw[zh (n:=x.1+1) (by omega) (by omega)];exact abX _ ⟨⟨by dsimp only; omega,by dsimp only; omega⟩,h3.1,h4⟩ (by dsimp only; omega)
theorem adC (n:Int):∀ (l:List Int) (p:Option Int),Y1 n p l=true->l.Nodup/\∀ y,p=some y->∀ x∈l,y<x
 | [],_,_=>⟨List.nodup_nil,λ _ _ x hx=>by cases hx⟩
 | z::l,p,h=>by
  simp only[Y1,akK] at h;have k:=adC n l (some z) h.2.2.2;refine⟨List.nodup_cons.2 ⟨λ hz=>by have:=k.2 z rfl z hz; omega,k.1⟩,λ y hy x hx => ?_⟩
  subst hy;have hyz:y<z:=by have:=h.2.2.1; simp at this; omega
  rcases List.mem_cons.1 hx with rfl|hx
  ·exact hyz
  ·have:=k.2 z rfl x hx; omega
theorem vA (c:zR) (conf:za) (hc:ya c) (hN:conf.1<=8):Ens (cm (c,conf,())) λ r=>0<=r.1.2.1/\zi r.2.1<=4000:=by
 unfold cm;refine (QZ c hc).bind λ r0 h0 => ?_;refine (ns (c.1,r0.1.2) conf r0.2.1 ⟨hc.1,h0.1⟩ hN h0.2).bind λ r1 h1 => ?_;have hw:zi r1.2.1<=2000:=by
  have h4:=Za h0.2;have h5:=h1.2.2.2;have h6:=h1.2.2.1;simp only[zi,zn];rw[h6];omega
 refine (zI (c.1,r1.1.2) 12 ⟨hc.1,h1.1⟩).bind λ r2 h2 => ?_;refine Ens.cond (λ _=>Ens.some ⟨h2.1,by simp only[zi] at hw ⊢; omega⟩) λ _ => ?_
 refine Ens.cond (λ _ => ?_) λ _ => ?_
 ·refine (vz (c.1,r2.1.2) 7 ⟨hc.1,h2.1⟩ (by decide)).bind λ r3 h3=>Ens.some ⟨h3.1,?_⟩;have:=h3.2;simp only[zi,zn] at hw ⊢; omega
 refine Ens.cond (λ _ => ?_) λ _=>Ens.some ⟨h2.1,by dsimp only; omega⟩
 refine (em (c.1,r2.1.2) ⟨hc.1,h2.1⟩).bind λ r4 h4=>Ens.some ⟨h4.1,?_⟩;have:=h4.2;simp only[zi] at hw ⊢; omega
theorem SY (c:zR) (conf:za) (hc:ya c) (hN:conf.1<=8):Ens (ky (c,conf,())) λ r=>0<=r.1.2.1/\zu r.2.1<=60000:=by
 unfold ky bJ;rw[akH];refine Ens.loop (λ x=>(0<=x.1/\x.1<=5)/\0<=x.2.1.2.1/\(zu x.2.2.1:Int)<=10000*(x.1+1)) (λ x=>(6 - x.1).toNat) ?_ ⟨by simp,hc.2,by simp[zu,zi,zn]⟩ (by dsimp only; rw[ja]; omega)
 intro rec x hx abX;obtain⟨x1,x2,x3⟩:=hx;refine (zI (c.1,x.2.1.2) 5 ⟨hc.1,x2⟩).bind λ r2 h2 => ?_;have a2:=h2.2.2 (by decide);refine Ens.cond (λ h => ?_) λ _=>Ens.some ⟨h2.1,by dsimp only; omega⟩
 have h:x.1<r2.2.1:=by simpa using h
 refine (nt (c.1,r2.1.2) conf ⟨hc.1,h2.1⟩ hN).bind λ r3 h3 => ?_;have hb:=h3.2;have hq:zi r3.2.1.2<=4000:=by simp only[zp] at hb; omega
 rw[kg _ _ _ (by omega) (by omega),akH];have hs:=MA conf x.2.2.1 r3.2.1.2;refine (YN (c.1,r3.1.2) 3 ⟨hc.1,h3.1⟩).bind λ r5 h5 => ?_;rw[zh (n:=x.1+1) (by omega) (by omega)];refine Ens.cond (λ _ => ?_) λ _ => ?_
 ·dsimp only;rw[Dj conf (see conf x.2.2.1 r3.2.1.2) r3.2.1 (by omega) (by omega),akH];have hv:=sH conf (see conf x.2.2.1 r3.2.1.2) r3.2.1;exact abX _ ⟨⟨by dsimp only; omega,by dsimp only; omega⟩,h5,by dsimp only; omega⟩ (by dsimp only; omega)
 ·exact abX _ ⟨⟨by dsimp only; omega,by dsimp only; omega⟩,h5,by dsimp only; omega⟩ (by dsimp only; omega)
theorem SZ (c:zR) (conf:za) (hc:ya c) (hN:conf.1<=8):Ens (kx (c,conf,())) λ r=>0<=r.1.2.1/\zu r.2.1<=70000:=by
 unfold kx;refine (SY c conf hc hN).bind λ r0 h0 => ?_;have hw:=h0.2;refine (zI (c.1,r0.1.2) 10 ⟨hc.1,h0.1⟩).bind λ r1 h1 => ?_;refine Ens.cond (λ _ => ?_) λ _ => ?_
 ·exact (jN (c.1,r1.1.2) _ ⟨hc.1,h1.1⟩ (by simp)).bind λ r2 h2=>Ens.some ⟨h2.1,by simp only[zu] at hw ⊢; omega⟩
 refine Ens.cond (λ _ => ?_) λ _ => ?_
 ·exact (jN (c.1,r1.1.2) _ ⟨hc.1,h1.1⟩ (by simp)).bind λ r2 h2=>Ens.some ⟨h2.1,by simp only[zu] at hw ⊢; omega⟩
 refine Ens.cond (λ _ => ?_) λ _ => ?_
 ·exact (em (c.1,r1.1.2) ⟨hc.1,h1.1⟩).bind λ r2 h2=>Ens.some ⟨h2.1,by have:=h2.2; simp only[zu] at hw ⊢; omega⟩
 refine Ens.cond (λ _ => ?_) λ _=>Ens.some ⟨h1.1,by dsimp only; omega⟩
 exact (vA (c.1,r1.1.2) conf ⟨hc.1,h1.1⟩ hN).bind λ r2 h2=>Ens.some ⟨h2.1,by have:=h2.2; simp only[zu] at hw ⊢; omega⟩
theorem Tv (c:zR) (hc:ya c):Ens (ll (c,())) λ r=>0<=r.1.2.1/\r.2.1.length<=9:=by
 unfold ll;refine Ens.loop (λ x=>(0<=x.2.1/\x.2.1<=9)/\0<=x.2.2.1.2.1/\(x.1.length:Int)<=x.2.1) (λ x=>(10 - x.2.1).toNat) ?_ ⟨by simp,hc.2,by simp⟩ (by dsimp only; rw[ja]; omega)
 intro rec x hx abX;obtain⟨x1,x2,x3⟩:=hx;refine (zI (c.1,x.2.2.1.2) 9 ⟨hc.1,x2⟩).bind λ r1 h1 => ?_;have a1:=h1.2.2 (by decide);refine Ens.cond (λ h => ?_) λ _=>Ens.some ⟨h1.1,by dsimp only; omega⟩
 have h:x.2.1<r1.2.1:=by simpa using h
 refine (Me (c.1,r1.1.2) ⟨hc.1,h1.1⟩).bind λ r2 h2 => ?_;rw[rR _ _ (by omega),akH,zh (n:=x.2.1+1) (by omega) (by omega)];have hl:=A4 x.1 r2.2.1;exact abX _ ⟨⟨by dsimp only; omega,by dsimp only; omega⟩,h2.1,by dsimp only; omega⟩ (by dsimp only; omega)
theorem Tw (c:zR) (hc:ya c):Ens (lj (c,())) λ r=>0<=r.1.2.1/\r.2.1.length<=40:=by
 unfold lj;refine (Tv c hc).bind λ r0 h0 => ?_;have hw:=h0.2;refine (zI (c.1,r0.1.2) 8 ⟨hc.1,h0.1⟩).bind λ r1 h1 => ?_;refine Ens.cond (λ _ => ?_) λ _ => ?_
 ·refine (vy (c.1,r1.1.2) ⟨hc.1,h1.1⟩).bind λ r2 h2=>Ens.ite (by simp only[akN,akM]; omega) (Ens.some ⟨h2,?_⟩)
  simp only[akR,akN,akM]; omega
 refine Ens.cond (λ _ => ?_) λ _=>Ens.some ⟨h1.1,by dsimp only; omega⟩
 refine Ens.loop (λ x=>(0<=x.2.1/\x.2.1<=4)/\(x.1.length:Int)<=9+4*x.2.1) (λ x=>(5 - x.2.1).toNat) ?_ ⟨by simp,by dsimp only; omega⟩ (by dsimp only; rw[ja]; omega)
 intro rec x hx abX;obtain⟨x1,x3⟩:=hx;refine Ens.cond (λ h => ?_) λ _=>Ens.some ⟨h1.1,by dsimp only; omega⟩
 have h:x.2.1<4:=by simpa using h
 refine Ens.loop (λ y=>(0<=y.2.1/\y.2.1<=4)/\(y.1.length:Int)<=9+4*x.2.1+y.2.1) (λ y=>(5 - y.2.1).toNat) ?_ ⟨by simp,by dsimp only; omega⟩ (by dsimp only; rw[ja]; omega)
 intro rec2 y hy ajI;obtain⟨y1,y3⟩:=hy;refine Ens.cond (λ h => ?_) λ hn => ?_
 ·have h:y.2.1<4:=by simpa using h
  rw[rR _ _ (by omega),akH,zh (n:=y.2.1+1) (by omega) (by omega)];have hl:=A4 y.1 (x.2.1,0,0,y.2.1);exact ajI _ ⟨⟨by dsimp only; omega,by dsimp only; omega⟩,by dsimp only; omega⟩ (by dsimp only; omega)
 ·have hn:¬ y.2.1<4:=by simpa using hn
  rw[zh (n:=x.2.1+1) (by omega) (by omega)];exact abX _ ⟨⟨by dsimp only; omega,by dsimp only; omega⟩,by dsimp only; omega⟩ (by dsimp only; omega)
theorem abH (l:zV) (p:zG):zE (l++[p])=zE l+(1+zk p):=by
 rw[D0]; simp[zE]
theorem SX (c:zR) (conf:za) (hc:ya c):Ens (ku (c,conf,())) λ r=>0<=r.1.2.1/\zE r.2.1<=30000:=by
 unfold ku;refine Ens.loop (λ x=>(0<=x.2.1/\x.2.1<=5)/\0<=x.2.2.1.2.1/\(zE x.1:Int)<=2000*x.2.1) (λ x=>(6 - x.2.1).toNat) ?_ ⟨by simp,hc.2,by simp[zE]⟩ (by dsimp only; rw[ja]; omega)
 intro rec x hx abX;obtain⟨x1,x2,x3⟩:=hx;refine (zI (c.1,x.2.2.1.2) 5 ⟨hc.1,x2⟩).bind λ r1 h1 => ?_;have a1:=h1.2.2 (by decide);refine Ens.cond (λ h => ?_) λ _ => ?_
 ·have h:x.2.1<r1.2.1:=by simpa using h
  refine (ne (c.1,r1.1.2) conf ⟨hc.1,h1.1⟩).bind λ r2 h2 => ?_;have hn:=Za h2.2.1;have hp:zk r2.2.1<=1940:=by have:=h2.2.2; simp only[zk,zn]; omega
  rw[bQ _ _ _ (by omega) (by omega),akH,zh (n:=x.2.1+1) (by omega) (by omega)];have hl:=cr conf x.1 r2.2.1;exact abX _ ⟨⟨by dsimp only; omega,by dsimp only; omega⟩,h2.1,by dsimp only; omega⟩ (by dsimp only; omega)
 ·refine (YN (c.1,r1.1.2) 8 ⟨hc.1,h1.1⟩).bind λ r4 h4 => ?_;refine Ens.cond (λ _ => ?_) λ _=>Ens.some ⟨h4,by dsimp only; omega⟩
  refine (vt (c.1,r4.1.2) conf ⟨hc.1,h4⟩).bind λ r5 h5 => ?_;have hl:=M6 x.1;refine Ens.ite (by simp only[akN,akM]; omega) (Ens.some ⟨h5.1,?_⟩)
  dsimp only;rw[abH];have:=h5.2;simp only[zk,zn];omega
theorem S3 (c:zR) (hc:ya c):Ens (kI (c,())) λ r=>0<=r.1.2.1/\zz r.2.1=true/\zf r.2.1 r.2.2.1=true:=by
 unfold kI;refine (Tc c hc).bind λ r0 h0 => ?_;obtain⟨h0,h⟩:=h0;have hl:=h.len;have hb:=yb h.conf;refine (zI (c.1,r0.1.2) _ ⟨hc.1,h0⟩).bind λ r1 h1 => ?_;have a1:=h1.2.2 (by omega);refine Ens.ite ⟨h1.2.1,a1⟩ ?_;obtain⟨r,hr,hok,-⟩:=pE h h1.2.1 a1;rw[zt (e:=JA) hr];exact Ens.some ⟨h1.1,h.conf,hok⟩
theorem abJ (l:j0) (p:Ka):yo (l++[p])=yo l+(1+Ye p):=by
 simp[yo]; omega
theorem S4 (c:zR) (hc:ya c):Ens (kH (c,())) λ r=>0<=r.1.2.1/\zz r.2.1=true/\ze r.2.2.1<=600000/\(0<=r.2.2.1.2.1/\r.2.2.1.2.1<=61):=by
 unfold kH;refine (S3 c hc).bind λ r0 h0 => ?_;obtain⟨h0,hcf,hok⟩:=h0;have hb:=yb hcf;have hw:=KB hok;obtain⟨-,-,hv,-⟩:=J0 hok;refine (zI (c.1,r0.1.2) 16 ⟨hc.1,h0⟩).bind λ r1 h1 => ?_;refine Ens.cond (λ _ => ?_) λ _ => ?_
 ·exact (jN (c.1,r1.1.2) _ ⟨hc.1,h1.1⟩ (by simp)).bind λ r2 h2=>Ens.some ⟨h2.1,hcf,by simp only[ze] at hw ⊢; omega,by dsimp only; omega⟩
 refine Ens.cond (λ _ => ?_) λ _ => ?_
 ·refine (jN (c.1,r1.1.2) _ ⟨hc.1,h1.1⟩ (by simp)).bind λ r2 h2=>Ens.some ⟨h2.1,hcf,by simp only[ze] at hw ⊢; omega,?_⟩
  have:=h2.2;simp only[al4,alB,or_false] at this;dsimp only; omega
 refine Ens.cond (λ _ => ?_) λ _ => ?_
 ·exact (jN (c.1,r1.1.2) _ ⟨hc.1,h1.1⟩ (by simp)).bind λ r2 h2=>Ens.some ⟨h2.1,hcf,by simp only[ze] at hw ⊢; omega,by dsimp only; omega⟩
 refine Ens.cond (λ _ => ?_) λ _ => ?_
 ·exact (SZ (c.1,r1.1.2) r0.2.1 ⟨hc.1,h1.1⟩ (by omega)).bind λ r2 h2=>Ens.some ⟨h2.1,hcf,by have:=h2.2; simp only[ze] at hw ⊢; omega,by dsimp only; omega⟩
 refine Ens.cond (λ _ => ?_) λ _ => ?_
 ·exact (Tw (c.1,r1.1.2) ⟨hc.1,h1.1⟩).bind λ r2 h2=>Ens.some ⟨h2.1,hcf,by have:=h2.2; simp only[ze,Jy] at hw ⊢; omega,by dsimp only; omega⟩
 refine Ens.cond (λ _ => ?_) λ _ => ?_
 ·exact (SX (c.1,r1.1.2) r0.2.1 ⟨hc.1,h1.1⟩).bind λ r2 h2=>Ens.some ⟨h2.1,hcf,by have:=h2.2; simp only[ze] at hw ⊢; omega,by dsimp only; omega⟩
 refine Ens.cond (λ _ => ?_) λ _ => ?_
 ·exact (S0 (c.1,r1.1.2) ⟨hc.1,h1.1⟩).bind λ r2 h2=>Ens.some ⟨h2.1,hcf,by have:=h2.2; simp only[ze,J5] at hw ⊢; omega,by dsimp only; omega⟩
 refine Ens.cond (λ _ => ?_) λ _=>Ens.some ⟨h1.1,hcf,by dsimp only; omega,by dsimp only; omega⟩
 refine (zI (c.1,r1.1.2) 5 ⟨hc.1,h1.1⟩).bind λ r2 h2 => ?_;refine (S2 (c.1,r2.1.2) r0.2.1 ⟨hc.1,h2.1⟩ (by omega)).bind λ r3 h3 => ?_;have hl:r0.2.2.1.2.2.2.2.2.2.2.length<=260000:=by simp only[ze,yo] at hw; omega
 refine Ens.ite (by simp only[akN,akM]; omega) (Ens.some ⟨h3.1,hcf,?_,by dsimp only; omega⟩)
 have:=h3.2;simp only[ze,abJ,Ye] at hw ⊢; omega
theorem DH (c:za) (r:zb) (to:Int) (m:zv):(jk c r to m).1.2.1=r.2.1:=by
 unfold jk;cases (!decide ((r.2.2.2.2.2.2.2.length:Int)≥30) && j4 c r.1 (to,m))<;>rfl
theorem sO (c:za) (r:zb) (s:zB):(zm c r s).1.2.1=r.2.1:=by
 unfold zm;cases jW r.2.2.2.1 s
 ·cases ((yW r.2.2.2.2.2.2.1 (y8 c s)).2 && zX c s)<;>rfl
 ·rfl
theorem abv (c:za) (r:zb) (q:zH):r.2.1<=(top c r q).1.2.1:=by
 have h1:=sO c r (see c r.2.2.2.1 q);unfold top;cases (zm c r (see c r.2.2.2.1 q)).2
 ·exact Int.le_refl _
 ·simp only[akO,akI];cases (decide (q.1+1>60))
  ·have h2:r.2.1<=(zJ (zm c r (see c r.2.2.2.1 q)).1 (max (zm c r (see c r.2.2.2.1 q)).1.2.1 (q.1+1))).2.1:=by
    show r.2.1<=max (zm c r (see c r.2.2.2.1 q)).1.2.1 (q.1+1);omega
   simp only[akI];cases (yr c (q.1+1)==r.1)
   ·simp only[akI]; rw[DH]; exact h2
   ·exact h2
  ·simp only[akJ]; omega
theorem Pm (c:za) (r:zb) (v:Int) (name:List UInt8) (force:Bool):r.2.1<=(climb c r v name force).1.2.1:=by
 unfold climb;cases (zf c r && (ZX c r v name force).2)
 ·exact Int.le_refl _
 ·simp only[akJ];unfold ZX;cases (((yz r.2.2.2.2.2.1 v name).2.2.length:Int)==0)
  ·cases (name==([]:List UInt8))
   ·simp only[akI];cases (yr c v==r.1)
    ·simp only[akI];cases (!force && decide ((YD (under c v r.1) (yz r.2.2.2.2.2.1 v name).2.2:Int)<((under c v r.1).length:Int)))
     ·simp only[akI]; rw[DH]; exact Int.le_refl _
     ·exact Int.le_refl _
    ·simp only[akJ];cases (Zv c (yz r.2.2.2.2.2.1 v name)).2
     ·exact Int.le_refl _
     ·exact abv c r _
   ·exact Int.le_refl _
  ·exact Int.le_refl _
theorem XG (c:za) (s:zB) (q:zH):(see c s q).1=s.1:=by
 unfold see;cases zX c s
 ·rfl
 cases zT c q<;>rfl
theorem abS (c:za) (r:zb) (q:zH):(zm c r (see c r.2.2.2.1 q)).1.2.1=r.2.1/\(zm c r (see c r.2.2.2.1 q)).1.2.2.2.1.1=r.2.2.2.1.1/\(zm c r (see c r.2.2.2.1 q)).1.2.2.2.2.2.2.2=r.2.2.2.2.2.2.2:=by
 refine⟨sO c r _,?_⟩;unfold zm;cases jW r.2.2.2.1 (see c r.2.2.2.1 q)
 ·cases ((yW r.2.2.2.2.2.2.1 (y8 c (see c r.2.2.2.1 q))).2 && zX c (see c r.2.2.2.1 q))
  ·exact⟨rfl,rfl⟩
  ·exact⟨XG c r.2.2.2.1 q,rfl⟩
 ·exact⟨rfl,rfl⟩
theorem RN (c:za) (r:zb) (b:yE):((jM c r b).2=false->(jM c r b).1=r)/\(zg b.1≥r.2.1->(jM c r b).2=true->(jM c r b).1.2.1≥zg b.1)/\
  (zg b.1<r.2.1->(jM c r b).1.2.1=r.2.1/\(jM c r b).1.2.2.2.1.1=r.2.2.2.1.1/\(jM c r b).1.2.2.2.2.2.2.2=r.2.2.2.2.2.2.2):=by
 unfold jM;cases zf c r
 ·exact⟨λ _=>rfl,λ _ h=>(by cases h),λ _=>⟨rfl,rfl,rfl⟩⟩
 cases jm c b
 ·exact⟨λ _=>rfl,λ _ h=>(by cases h),λ _=>⟨rfl,rfl,rfl⟩⟩
 simp only[akO,akI];by_cases hv:zg b.1≥r.2.1
 ·have hw:=sO c (zJ r (zg b.1)) (vote c (see c r.2.2.2.1 b.2) b);have hw:(zm c (zJ r (zg b.1)) (vote c (see c r.2.2.2.1 b.2) b)).1.2.1=zg b.1:=hw;simp only[hv,akP,akJ];refine⟨?_,λ _ => ?_,λ h=>absurd h (by omega)⟩
  ·cases (zm c (zJ r (zg b.1)) (vote c (see c r.2.2.2.1 b.2) b)).2
   ·exact λ _=>rfl
   ·cases Zs c (see c r.2.2.2.1 b.2) b
    ·exact λ h=>by cases h
    ·simp only[akO,akI];unfold voted;cases (zD c (zm c (zJ r (zg b.1)) (vote c (see c r.2.2.2.1 b.2) b)).1.2.2.2.2.2.1 (zg b.1,b.1,[(zm c (zJ r (zg b.1)) (vote c (see c r.2.2.2.1 b.2) b)).1.1])).2
     ·exact λ _=>rfl
     ·exact λ h=>by cases h
  ·cases (zm c (zJ r (zg b.1)) (vote c (see c r.2.2.2.1 b.2) b)).2
   ·exact λ h=>by cases h
   ·cases Zs c (see c r.2.2.2.1 b.2) b
    ·intro _; simp only[akO,al2,akI,akJ]; omega
    ·simp only[akO,akI];unfold voted;generalize (zm c (zJ r (zg b.1)) (vote c (see c r.2.2.2.1 b.2) b)).1=w at *;cases (zD c w.2.2.2.2.2.1 (zg b.1,b.1,[w.1])).2
     ·exact λ h=>by cases h
     ·intro _;simp only[akO,akI];have h3:=Pm c (yU w (zD c w.2.2.2.2.2.1 (zg b.1,b.1,[w.1])).1) (zg b.1) b.1 false;have h4:(yU w (zD c w.2.2.2.2.2.1 (zg b.1,b.1,[w.1])).1).2.1=w.2.1:=rfl;omega
 ·simp only[hv,akQ,akI];refine⟨?_,λ h=>absurd h (by first|omega|simp),λ _ => ?_⟩
  ·cases (zm c r (see c r.2.2.2.1 b.2)).2
   ·exact λ _=>rfl
   ·exact λ h=>by cases h
  ·have h:=abS c r b.2;cases (zm c r (see c r.2.2.2.1 b.2)).2
   ·exact⟨rfl,rfl,rfl⟩
   ·exact h
theorem af2 {x:Int}:∀ {l:List Int},(∀ y∈l,y<x)->Zh l x=l++[x]:=by
 intro l h;have h1:l.any (· == x)=false:=by
  rw[List.any_eq_false];intro y hy;have:=h y hy;simp; omega
 have h2:Yo l x=l.length:=by
  have:=acd (q:=λ y=>decide (y≥x)) l [] 0 (λ y hy=>by have:=h y hy; simp; omega) (by simp)
  unfold Yo;simpa using this
 unfold Zh;rw[h1,akI,h2];simp
theorem aeI (l:List Int) (x:Int):x∈Zh l x:=by
 unfold Zh;cases h:l.any (· == x)
 ·simp
 ·obtain⟨y,hy,he⟩:=List.any_eq_true.1 h;rw[akJ,←alk.1 he]; exact hy
theorem aeH {l:List Int} {x y:Int} (h:y∈l):y∈Zh l x:=by
 unfold Zh;cases l.any (· == x)
 ·rw[akI];rw[←amf (Yo l x) l] at h;rcases List.mem_append.1 h with h|h
  ·exact List.mem_append_left _ h
  ·exact List.mem_append_right _ (List.mem_cons_of_mem _ h)
 ·exact h
theorem ad1:∀ (l s:List Int) {y:Int},y∈s∨y∈l->y∈l.foldl Zh s
 | [],s,y,h=>by simpa using h
 | x::l,s,y,h=>by
  rw[alx];refine ad1 l _ ?_;rcases h with h|h
  ·exact .inl (aeH h)
  ·rcases List.mem_cons.1 h with rfl|h
   ·exact .inl (aeI s _)
   ·exact .inr h
theorem aey (l:zV) (v:Int) (hl:zE l<=137438953472):ac2 (l,v,())=some (Y6 l v,()):=by
 have hll:=M6 l;unfold ac2 Y6;dsimp only;refine (walk l.length (λ i (s:zV)=>(s,i,())) (λ i s=>s.length<=i) (λ i s=>some (s++(l.drop i).filter (λ p=>decide (p.1≥v)),())) (by omega) ?_ ?_ (s0:=[]) (Nat.le_refl _)).trans (by simp)
 ·intro rec s hs;simp
 ·intro rec i s hi hs;have hx:l[i]?=some l[i]:=List.getElem?_eq_getElem hi;have hw:zk l[i]<=137438953472:=KS hl hx;right;simp only[zw hi,decide_true,cond_true,and_self,if_true,Int.toNat_natCast,zt (e:=Yw) hx,QR l[i] hw,Option.bind_some,zq (show i<4611686018427387904 by omega),ug (λ p:zG=>decide (p.1≥v)) hi];by_cases hq:l[i].1≥v
  ·simp only[hq,akP,akJ,if_true];rw[if_pos (by simp only[akN,akM]; omega)]
   exact⟨s++[l[i]],by simp only[akR,akN,akM]; omega,rfl,by simp⟩
  ·simp only[hq,akQ,akI,al6,if_false];exact⟨s,by omega,rfl,by simp⟩
theorem aew (p:zF) (l:ye) (hp:p.length<=137438953472) (h1:l.1.length<=137438953472) (h2:l.2.length<=137438953472):abM (p,l,())=some (N5 p l,()):=by
 unfold abM N5;dsimp only;refine (walk p.length (λ i (s:zF)=>(s,i,())) (λ i s=>s.length<=i) (λ i s=>some (s++(p.drop i).filter (λ x=>(pay l x).2 != 2),())) (by omega) ?_ ?_ (s0:=[]) (Nat.le_refl _)).trans (by simp)
 ·intro rec s hs;simp
 ·intro rec i s hi hs;have hx:p[i]?=some p[i]:=List.getElem?_eq_getElem hi;right;simp only[zw hi,decide_true,cond_true,and_self,if_true,Int.toNat_natCast,zt (e:=Zn) hx,acV l p[i] h1 h2,Option.bind_some,zq (show i<4611686018427387904 by omega),ug (λ x:zP=>(pay l x).2 != 2) hi];cases hq:((pay l p[i]).2 != 2)
  ·simp only[akI,al6,if_false];exact⟨s,by omega,rfl,by simp⟩
  ·simp only[akJ,if_true];rw[if_pos (by simp only[akN,akM]; omega)]
   exact⟨s++[p[i]],by simp only[akR,akN,akM]; omega,rfl,by simp⟩
theorem aeB (c:za) (r:zb) (v:Int) (hw:zE r.2.2.2.2.2.1<=137438953472):∃ b,ac3 (c,r,v,())=some (b,()):=by
 unfold ac3;dsimp only;rw[Sg _ _ _ hw,akH,R8,akH];exact⟨_,rfl⟩
theorem ext_iff {a b:List UInt8}:La a b=true↔zC a=true/\zC b=true/\b.length<=a.length/\a.take b.length=b/\(a.length=b.length∨a.getD b.length 0=UInt8.ofNat (Int.toNat 47)):=by
 unfold La;simp only[akK,ale,alX,alk,alt];constructor
 ·rintro⟨h1,h2,h3,h4,h5⟩;exact⟨h1,h2,by omega,h4,h5.imp (λ h=>by omega) id⟩
 ·rintro⟨h1,h2,h3,h4,h5⟩;exact⟨h1,h2,by omega,h4,h5.imp (λ h=>by omega) id⟩
theorem aej {a b:List UInt8} (h:La a b=true) (k:La b a=true):a=b:=by
 obtain⟨-,-,h3,h4,-⟩:=ext_iff.1 h;obtain⟨-,-,k3,-,-⟩:=ext_iff.1 k;rw[←h4,am1 k3]
theorem ael {a b d:List UInt8} (h:La a b=true) (k:La b d=true):La a d=true:=by
 obtain⟨h1,h2,h3,h4,h5⟩:=ext_iff.1 h;obtain⟨k1,k2,k3,k4,k5⟩:=ext_iff.1 k;refine ext_iff.2 ⟨h1,k2,by omega,?_,?_⟩
 ·have e:(a.take b.length).take d.length=d:=by rw[h4,k4]
  rw[List.take_take,am5 k3] at e;exact e
 ·by_cases e:b.length=d.length
  ·rw[←e]; exact h5
  ·right;have k6:=k5.resolve_left e;rw[←k6]
   conv=>rhs; rw[←h4]
   rw[als,als,alR,if_pos (by omega)]
def F4 (a b:zB):Prop:=a.1=b.1/\a.2.1=b.2.1/\a.2.2.2=b.2.2.2/\a.2.2.1.1=b.2.2.1.1
theorem F4.refl (a:zB):F4 a a:=⟨rfl,rfl,rfl,rfl⟩
theorem aeF (q h:zH):N8 q (N8 q h)=N8 q h:=by
 unfold N8;by_cases e:q.1>h.1
 ·simp[e]
 ·simp[e]
theorem acY (q h:zH):h.1<=(N8 q h).1/\q.1<=(N8 q h).1:=by
 unfold N8;by_cases e:q.1>h.1
 ·simp only[e,akP,akJ]; omega
 ·simp only[e,akQ,akI]; omega
theorem aeG {q h:zH} (e:q.1<=h.1):N8 q h=h:=by
 unfold N8;rw[show decide (q.1>h.1)=false by simp; omega]
 rfl
theorem acH (c:za) (s:zB) (q:zH):see c (see c s q) q=see c s q:=by
 cases h1:zX c s
 ·have e:see c s q=s:=by unfold see; rw[h1]; rfl
  rw[e,e]
 cases h2:zT c q
 ·have e:∀ s,see c s q=s:=by intro s; unfold see; rw[h2]; cases zX c s<;>rfl
  rw[e,e]
 have e:see c s q=(s.1,max s.2.1 (zg (ZE q.2.1)),N8 q s.2.2.1,bif (jR q.2.1).2 && La (jR q.2.1).1 s.2.2.2 then (jR q.2.1).1 else s.2.2.2):=by unfold see; rw[h1,h2]; rfl
 rw[e];unfold see;rw[h2];cases zX c (s.1,max s.2.1 (zg (ZE q.2.1)),N8 q s.2.2.1,bif (jR q.2.1).2 && La (jR q.2.1).1 s.2.2.2 then (jR q.2.1).1 else s.2.2.2)
 ·rfl
 simp only[akO,akI,aeF];have e1:max (max s.2.1 (zg (ZE q.2.1))) (zg (ZE q.2.1))=max s.2.1 (zg (ZE q.2.1)):=by omega
 rw[e1];cases h3:(jR q.2.1).2 && La (jR q.2.1).1 s.2.2.2
 ·simp only[akI,h3]
 ·simp only[akJ];cases (jR q.2.1).2 && La (jR q.2.1).1 (jR q.2.1).1<;>rfl
def Seen (c:za) (S:zB) (q:zH):Prop:=zT c q=true->zg (ZE q.2.1)<=S.2.1/\q.1<=S.2.2.1.1/\((jR q.2.1).2=true->La (jR q.2.1).1 S.2.2.2=true->(jR q.2.1).1=S.2.2.2)
theorem acI {c:za} {s:zB} (h:zX c s=true) (q:zH):Seen c (see c s q) q:=by
 intro hq;have e:see c s q=(s.1,max s.2.1 (zg (ZE q.2.1)),N8 q s.2.2.1,bif (jR q.2.1).2 && La (jR q.2.1).1 s.2.2.2 then (jR q.2.1).1 else s.2.2.2):=by unfold see; rw[h,hq]; rfl
 rw[e];refine⟨by dsimp only; omega,(acY q s.2.2.1).2,λ h1 h2 => ?_⟩
 dsimp only at h2 ⊢;rw[h1,akZ] at h2 ⊢;cases h3:La (jR q.2.1).1 s.2.2.2
 ·rw[h3,akI] at h2;rw[h2] at h3; cases h3
 ·rfl
theorem aeZ {c:za} {S:zB} {q:zH} (h:Seen c S q) (q':zH):Seen c (see c S q') q:=by
 intro hq;obtain⟨a1,a2,a3⟩:=h hq;unfold see;cases zX c S
 ·exact⟨a1,a2,a3⟩
 cases zT c q'
 ·exact⟨a1,a2,a3⟩
 simp only[akO,akI];refine⟨by omega,by have:=acY q' S.2.2.1; omega,λ h1 h2 => ?_⟩
 cases h3:(jR q'.2.1).2 && La (jR q'.2.1).1 S.2.2.2
 ·rw[h3,akI] at h2;exact a3 h1 h2
 ·rw[h3,akJ] at h2;rw[akJ];simp only[akK] at h3;have h4:=a3 h1 (ael h2 h3.2);rw[←h4] at h3;exact aej h2 h3.2
theorem adt {c:za} {S:zB} {q:zH} (h:Seen c S q):F4 (see c S q) S:=by
 unfold see;cases zX c S
 ·exact F4.refl S
 cases hq:zT c q
 ·exact F4.refl S
 obtain⟨a1,a2,a3⟩:=h hq;simp only[akO,akI];refine⟨rfl,by dsimp only; omega,?_,by dsimp only; rw[aeG a2]⟩
 dsimp only;cases h3:(jR q.2.1).2 && La (jR q.2.1).1 S.2.2.2
 ·rfl
 ·simp only[akK] at h3;exact a3 h3.1 h3.2
theorem ac6 {c:za} {r:zb} {s:zB} (h:(zm c r s).2=true):(zm c r s).1.2.2.2.1=s:=by
 unfold zm at *;cases h1:jW r.2.2.2.1 s
 ·rw[h1,akI] at h;rw[akI];cases h2:(yW r.2.2.2.2.2.2.1 (y8 c s)).2 && zX c s
  ·rw[h2] at h; cases h
  ·rfl
 ·rw[Cw] at h1;simpa using h1
theorem af6 (c:za) (r:zb) (s:zB):(zm c r s).1.2.2.2.2.2.1=r.2.2.2.2.2.1:=by
 unfold zm;cases jW r.2.2.2.1 s
 ·cases (yW r.2.2.2.2.2.2.1 (y8 c s)).2 && zX c s<;>rfl
 ·rfl
theorem adG (c:za) (r:zb) (to:Int) (m:zv):(jk c r to m).1.2.2.2.1=r.2.2.2.1/\(jk c r to m).1.2.2.2.2.2.1=r.2.2.2.2.2.1:=by
 unfold jk;cases (!decide ((r.2.2.2.2.2.2.2.length:Int)≥30) && j4 c r.1 (to,m))<;>exact⟨rfl,rfl⟩
theorem acK {c:za} {r:zb} {q:zH} (h:(top c r q).2=true):(top c r q).1.2.2.2.1=see c r.2.2.2.1 q/\(top c r q).1.2.2.2.2.2.1=r.2.2.2.2.2.1:=by
 unfold top at *;cases hw:(zm c r (see c r.2.2.2.1 q)).2
 ·rw[hw] at h; cases h
 have e1:=ac6 hw;have e2:=af6 c r (see c r.2.2.2.1 q);simp only[akO,akI];cases (decide (q.1+1>60))
 ·simp only[akI];cases (yr c (q.1+1)==r.1)
  ·simp only[akI];obtain⟨t1,t2⟩:=adG c (zJ (zm c r (see c r.2.2.2.1 q)).1 (max (zm c r (see c r.2.2.2.1 q)).1.2.1 (q.1+1))) (yr c (q.1+1)) (3,q.1+1,([],0,[],[]),(0,[],[]),q,r.1,0,0,0,0);rw[t1,t2];exact⟨e1,e2⟩
  ·exact⟨e1,e2⟩
 ·exact⟨e1,e2⟩
theorem af4 (c:za) (i v v' k k':Int) (s:zB) (p p':zF) (t t':zV) (d:yF) (h:j0) (q:zH):(top c (i,v,k,s,p,t,d,h) q).2=(top c (i,v',k',s,p',t',d,h) q).2:=by
 unfold top zm;dsimp only;cases jW s (see c s q)
 ·cases (yW d (y8 c (see c s q))).2 && zX c (see c s q)
  ·rfl
  ·simp only[akJ,akI,akO];cases decide (q.1+1>60)
   ·simp only[akI];cases yr c (q.1+1)==i
    ·simp only[akI,Qj,zJ];unfold jk;dsimp only;cases (!decide ((h.length:Int)≥30) && j4 c i (yr c (q.1+1),(3,q.1+1,([],0,[],[]),(0,[],[]),q,i,0,0,0,0)))<;>rfl
    ·rfl
   ·rfl
 ·simp only[akJ,akO,akI];cases decide (q.1+1>60)
  ·simp only[akI];cases yr c (q.1+1)==i
   ·simp only[akI,zJ];unfold jk;dsimp only;cases (!decide ((h.length:Int)≥30) && j4 c i (yr c (q.1+1),(3,q.1+1,([],0,[],[]),(0,[],[]),q,i,0,0,0,0)))<;>rfl
   ·rfl
  ·rfl
theorem acZ:∀ (x:List UInt8),Go.Op.bytesLess x x=false
 | []=>rfl
 | a::x=>by
  have:=acZ x;simp[Go.Op.bytesLess,this]
theorem acx {q p:zG} (h:jI q p=true):(q.1==p.1 && q.2.1==p.2.1)=false:=by
 cases hk:(q.1==p.1 && q.2.1==p.2.1)
 ·rfl
 ·simp only[akK,alk] at hk;unfold jI at h;rw[hk.1,hk.2,acZ] at h;simp at h
theorem adD (p:zG):∀ (l:zV),∃ (pre:zV) (x:zG) (post:zV),jS p l=pre++x::post/\(∀ q∈pre,jI q p=true)/\(x=p∨∃ q:zG,x=(p.1,p.2.1,bq q.2.2 p.2.2))
 | []=>⟨[],p,[],rfl,by simp,.inl rfl⟩
 | q::r=>by
  simp only[jS];cases hb:jI q p
  ·rw[akI];cases hj:(Zd q p).2
   ·exact⟨[],p,q::r,rfl,by simp,.inl rfl⟩
   ·refine⟨[],(Zd q p).1,r,rfl,by simp,.inr ⟨q,?_⟩⟩;unfold Zd at hj ⊢;cases hk:(q.1==p.1 && q.2.1==p.2.1)
    ·rw[hk] at hj; cases hj
    ·simp only[akK,alk] at hk;rw[akJ,hk.1,hk.2]
  ·rw[akJ];obtain⟨pre,x,post,h1,h2,h3⟩:=adD p r;refine⟨q::pre,x,post,by rw[h1]; rfl,λ y hy => ?_,h3⟩
   rcases List.mem_cons.1 hy with rfl|hy
   ·exact hb
   ·exact h2 y hy
theorem adF (p:zG):∀ (pre:zV) (x:zG) (post:zV),(∀ q∈pre,jI q p=true)->jI x p=false->(Zd x p).2=true->jS p (pre++x::post)=pre++(Zd x p).1::post
 | [],x,post,_,hb,hj=>by simp only[al9,jS,hb,hj,akI,akJ]
 | q::pre,x,post,h,hb,hj=>by
  have h1:=h q (by simp);have h2:=adF p pre x post (λ y hy=>h y (by simp[hy])) hb hj;simp only[alP,jS,h1,akJ,h2]
theorem acA (v:Int) (n:List UInt8):∀ (pre:zV) (x:zG) (post:zV),(∀ q∈pre,(q.1==v && q.2.1==n)=false)->(x.1==v && x.2.1==n)=true->(pre++x::post).find? (λ p=>p.1==v && p.2.1==n)=some x
 | [],x,post,_,h=>by simp only[al9,List.find?_cons,h]
 | q::pre,x,post,h,hx=>by
  rw[alP,List.find?_cons,h q (by simp)];exact acA v n pre x post (λ y hy=>h y (by simp[hy])) hx
theorem adw:∀ (l s:List Int),(∀ x∈l,x∈s)->l.foldl Zh s=s
 | [],s,_=>rfl
 | x::l,s,h=>by
  have e:Zh s x=s:=by
   unfold Zh;rw[show s.any (· == x)=true by rw[List.any_eq_true]; exact⟨x,h x (by simp),by simp⟩]
   rfl
  rw[alx,e];exact adw l s λ y hy=>h y (by simp[hy])
theorem adu:∀ (l s:List Int),(s++l).Pairwise (· < ·)->l.foldl Zh s=s++l
 | [],s,_=>by simp
 | x::l,s,h=>by
  have h1:Zh s x=s++[x]:=af2 λ y hy=>by
   rw[List.pairwise_append] at h;exact h.2.2 y hy x (by simp)
  rw[List.foldl_cons,h1,adu l (s++[x]) (by simpa using h)];simp
theorem adA (n:Int):∀ (l:List Int) (p:Option Int),Y1 n p l=true->l.Pairwise (· < ·)
 | [],_,_=>List.Pairwise.nil
 | z::l,p,h=>by
  simp only[Y1,akK] at h;exact List.Pairwise.cons ((adC n l (some z) h.2.2.2).2 z rfl) (adA n l (some z) h.2.2.2)
theorem acM {α:Type} {ok:α->Bool} {lt:α->α->Bool}:∀ {l:List α} {p:Option α},yG ok lt p l=true->∀ x∈l,ok x=true
 | [],_,_,x,hx=>by cases hx
 | z::l,p,h,x,hx=>by
  simp only[yG,akK] at h;rcases List.mem_cons.1 hx with rfl|hx
  ·exact h.1
  ·exact acM h.2.2 x hx
theorem af3 {c:za} {l:zV} {p:zG} {k:Int} (h1:(zD c l p).2=true) (hk:k<=p.1) (h2:(zD c (Y6 (zD c l p).1 k) p).2=true):
  yz (zD c (Y6 (zD c l p).1 k) p).1 p.1 p.2.1=yz (zD c l p).1 p.1 p.2.1:=by
 have hok:=Qa h1;have e1:(zD c l p).1=jS p l:=by
  unfold zD at h1 ⊢;cases hh:jb c p && jA c (jS p l)
  ·rw[hh] at h1; cases h1
  ·rfl
 have e2:(zD c (Y6 (zD c l p).1 k) p).1=jS p (Y6 (zD c l p).1 k):=by
  generalize Y6 (zD c l p).1 k=t at *;unfold zD at h2 ⊢;cases hh:jb c p && jA c (jS p t)
  ·rw[hh] at h2; cases h2
  ·rfl
 rw[e1] at hok e2;rw[e1,e2];obtain⟨pre,x,post,f1,f2,f3⟩:=adD p l;have hx1:x.1=p.1/\x.2.1=p.2.1/\∀ y∈p.2.2,y∈x.2.2:=by
  rcases f3 with rfl|⟨q,rfl⟩
  ·exact⟨rfl,rfl,λ y hy=>hy⟩
  ·exact⟨rfl,rfl,λ y hy=>ad1 p.2.2 _ (.inr hy)⟩
 have hxo:jb c x=true:=by
  unfold jA at hok;simp only[akK] at hok;exact acM hok.1 x (by rw[f1]; simp)
 have hxs:x.2.2.Pairwise (· < ·):=by
  unfold jb at hxo;simp only[akK] at hxo;exact adA c.1 _ none hxo.2.2.1
 have hj:Zd x p=(x,true):=by
  unfold Zd;rw[hx1.1,hx1.2.1,beq_self_eq_true,beq_self_eq_true,alv,akJ];have:bq x.2.2 p.2.2=x.2.2:=by
   unfold bq;have:=adu x.2.2 [] (by simpa using hxs);rw[this,al9];exact adw _ _ hx1.2.2
  rw[this,←hx1.1,←hx1.2.1]
 have hb:jI x p=false:=by
  cases hbb:jI x p
  ·rfl
  ·have:=acx hbb;rw[hx1.1,hx1.2.1] at this;simp at this
 have hd:Y6 (pre++x::post) k=Y6 pre k++x::Y6 post k:=by
  unfold Y6;rw[List.filter_append,List.filter_cons,if_pos (by rw[hx1.1]; simpa using hk)]
 have ajB:∀ q∈Y6 pre k,jI q p=true:=λ q hq=>f2 q (List.mem_filter.1 hq).1;have hxk:(x.1==p.1 && x.2.1==p.2.1)=true:=by rw[hx1.1,hx1.2.1]; simp
 rw[f1,hd,adF p _ x _ ajB hb (by rw[hj]),hj];unfold yz;rw[acA p.1 p.2.1 _ x _ (λ q hq=>acx (ajB q hq)) hxk,acA p.1 p.2.1 pre x post (λ q hq=>acx (f2 q hq)) hxk]
theorem acO (c:za) (w:zb) (v:Int) (n:List UInt8):((climb c w v n false).1.2.2.2.1=w.2.2.2.1/\(climb c w v n false).1.2.2.2.2.2.1=w.2.2.2.2.2.1)∨
  (((yz w.2.2.2.2.2.1 v n).2.2.length:Int)==0)=false/\(n==[])=false/\(yr c v==w.1)=true/\(Zv c (yz w.2.2.2.2.2.1 v n)).2=true/\(top c w (yz w.2.2.2.2.2.1 v n)).2=true/\climb c w v n false=((top c w (yz w.2.2.2.2.2.1 v n)).1,true):=by
 cases hc:zf c w && (ZX c w v n false).2
 ·left;unfold climb;rw[hc];exact⟨rfl,rfl⟩
 have e:climb c w v n false=((ZX c w v n false).1,true):=by unfold climb; rw[hc]; rfl
 rw[e];simp only[akK] at hc;have hc:=hc.2;unfold ZX at hc ⊢;cases h1:(((yz w.2.2.2.2.2.1 v n).2.2.length:Int)==0)
 ·cases h2:(n==([]:List UInt8))
  ·cases h3:(yr c v==w.1)
   ·left;simp only[akI];cases h4:(!false && decide ((YD (under c v w.1) (yz w.2.2.2.2.2.1 v n).2.2:Int)<((under c v w.1).length:Int)))
    ·exact adG c w _ _
    ·exact⟨rfl,rfl⟩
   ·simp only[h1,h2,h3,akI,akJ] at hc ⊢;cases h4:(Zv c (yz w.2.2.2.2.2.1 v n)).2
    ·rw[h4] at hc; cases hc
    ·rw[h4,akJ] at hc;right;exact⟨by trivial,by trivial,by trivial,by trivial,hc,rfl⟩
  ·left; exact⟨rfl,rfl⟩
 ·left; exact⟨rfl,rfl⟩
theorem aei {c:za} {w:zb} {v:Int} {n:List UInt8} (hk:zf c w=true) (h1:(((yz w.2.2.2.2.2.1 v n).2.2.length:Int)==0)=false) (h2:(n==[])=false) (h3:(yr c v==w.1)=true) (h4:(Zv c (yz w.2.2.2.2.2.1 v n)).2=true):
  climb c w v n false=bif (top c w (yz w.2.2.2.2.2.1 v n)).2 then ((top c w (yz w.2.2.2.2.2.1 v n)).1,true) else (w,false):=by
 have e:ZX c w v n false=top c w (yz w.2.2.2.2.2.1 v n):=by
  unfold ZX;rw[h1,h2,h3,h4];rfl
 unfold climb;rw[e,hk,akZ]
theorem acP (c:za) (w:zb) (v:Int) (n:List UInt8):((climb c w v n false).1.2.2.2.1=w.2.2.2.1∨∃ q,(climb c w v n false).1.2.2.2.1=see c w.2.2.2.1 q)/\(climb c w v n false).1.2.2.2.2.2.1=w.2.2.2.2.2.1:=by
 rcases acO c w v n with⟨h1,h2⟩|⟨-,-,-,-,h5,h6⟩
 ·exact⟨.inl h1,h2⟩
 ·rw[h6];obtain⟨t1,t2⟩:=acK h5;exact⟨.inr ⟨_,t1⟩,t2⟩
theorem acQ {c:za} {r:zb} {p:zG} (h:(NE c r p).2=true):zf c r=true/\(zD c r.2.2.2.2.2.1 p).2=true/\¬ p.1<r.2.1/\NE c r p=((climb c (yU r (zD c r.2.2.2.2.2.1 p).1) p.1 p.2.1 false).1,true):=by
 unfold NE at *;cases h1:zf c r
 ·rw[h1] at h; cases h
 cases h2:jb c p
 ·rw[h1,h2] at h; cases h
 cases h3:(p.2.1==([]:List UInt8))
 ·cases h4:decide (p.1<r.2.1)
  ·cases h5:(zD c r.2.2.2.2.2.1 p).2
   ·rw[h1,h2,h3,h4,h5] at h; cases h
   ·exact⟨rfl,rfl,by simpa using h4,rfl⟩
  ·rw[h1,h2,h3,h4] at h; cases h
 ·rw[h1,h2,h3] at h; cases h
theorem aem {c:za} {r:zb} {p:zG} (h:(NE c r p).2=false):(NE c r p).1=r:=by
 unfold NE at *;cases h1:zf c r
 ·rfl
 cases h2:jb c p
 ·rfl
 cases h3:(p.2.1==([]:List UInt8))
 ·cases h4:decide (p.1<r.2.1)
  ·cases h5:(zD c r.2.2.2.2.2.1 p).2
   ·rfl
   ·rw[h1,h2,h3,h4,h5] at h; cases h
  ·rfl
 ·rfl
theorem aeJ {c:za} {r:zb} {p:zG} (h:(NE c r p).2=true):F4 (NE c (swept c (NE c r p).1) p).1.2.2.2.1 (swept c (NE c r p).1).2.2.2.1:=by
 cases h2:(NE c (swept c (NE c r p).1) p).2
 ·rw[aem h2]; exact F4.refl _
 obtain⟨a1,a2,-,a4⟩:=acQ h;obtain⟨b1,b2,b3,b4⟩:=acQ h2;have hid:(NE c r p).1.1=r.1:=(SO a1 p).2;have ht:(NE c r p).1.2.2.2.2.2.1=(zD c r.2.2.2.2.2.1 p).1:=by
  rw[a4]; exact (acP c (yU r (zD c r.2.2.2.2.2.1 p).1) p.1 p.2.1).2
 rw[b4];rcases acO c (yU (swept c (NE c r p).1) (zD c (swept c (NE c r p).1).2.2.2.2.2.1 p).1) p.1 p.2.1 with⟨h1,-⟩|⟨g1,g2,g3,g4,g5,g6⟩
 ·rw[h1]; exact F4.refl _
 have hag:yz (zD c (swept c (NE c r p).1).2.2.2.2.2.1 p).1 p.1 p.2.1=yz (zD c r.2.2.2.2.2.1 p).1 p.1 p.2.1:=by
  have e:(swept c (NE c r p).1).2.2.2.2.2.1=Y6 (zD c r.2.2.2.2.2.1 p).1 ((NE c r p).1.2.1 - 1):=by rw[←ht]; rfl
  rw[e] at b2 ⊢;have b3:¬ p.1<(NE c r p).1.2.1:=b3;exact af3 a2 (by omega) b2
 rw[g6];rw[show (yU (swept c (NE c r p).1) (zD c (swept c (NE c r p).1).2.2.2.2.2.1 p).1).2.2.2.2.2.1=(zD c (swept c (NE c r p).1).2.2.2.2.2.1 p).1 from rfl,hag] at g1 g4 g5 ⊢;have g3:(yr c p.1==(NE c r p).1.1)=true:=g3;rw[hid] at g3;have hc:=aei (c:=c) (w:=yU r (zD c r.2.2.2.2.2.1 p).1) (v:=p.1) (n:=p.2.1) (lG a1 (Qa a2)) g1 g2 g3 g4;cases hf:(top c (yU r (zD c r.2.2.2.2.2.1 p).1) (yz (zD c r.2.2.2.2.2.1 p).1 p.1 p.2.1)).2
 ·exfalso;rw[show (yU r (zD c r.2.2.2.2.2.1 p).1).2.2.2.2.2.1=(zD c r.2.2.2.2.2.1 p).1 from rfl,hf,akI] at hc;rw[hc] at a4;rw[a4] at g5;have:=af4 c r.1 r.2.1 r.2.1 r.2.2.1 r.2.2.1 r.2.2.2.1 r.2.2.2.2.1 (swept c (yU r (zD c r.2.2.2.2.2.1 p).1)).2.2.2.2.1 (zD c r.2.2.2.2.2.1 p).1
   (zD c (swept c (yU r (zD c r.2.2.2.2.2.1 p).1)).2.2.2.2.2.1 p).1 r.2.2.2.2.2.2.1 r.2.2.2.2.2.2.2 (yz (zD c r.2.2.2.2.2.1 p).1 p.1 p.2.1)
  have g5:=this.trans g5;rw[show ((r.1,r.2.1,r.2.2.1,r.2.2.2.1,r.2.2.2.2.1,(zD c r.2.2.2.2.2.1 p).1,r.2.2.2.2.2.2.1,r.2.2.2.2.2.2.2):zb)=yU r (zD c r.2.2.2.2.2.1 p).1 from rfl,hf] at g5;cases g5
 ·rw[show (yU r (zD c r.2.2.2.2.2.1 p).1).2.2.2.2.2.1=(zD c r.2.2.2.2.2.1 p).1 from rfl,hf,akJ] at hc;obtain⟨s1,-⟩:=acK hf;obtain⟨s2,-⟩:=acK g5;have e0:(NE c r p).1.2.2.2.1=see c r.2.2.2.1 (yz (zD c r.2.2.2.2.2.1 p).1 p.1 p.2.1):=by
   rw[a4,hc]; exact s1
  rw[s2];show F4 (see c (NE c r p).1.2.2.2.1 _) (NE c r p).1.2.2.2.1;rw[e0,acH];exact F4.refl _
theorem aeg {c:za} {a:zb} {b:yE} (hS:Seen c a.2.2.2.1 b.2) (hv:zg b.1<a.2.1∨Zs c (see c a.2.2.2.1 b.2) b=false):F4 (jM c a b).1.2.2.2.1 a.2.2.2.1:=by
 unfold jM;cases zf c a
 ·exact F4.refl _
 cases jm c b
 ·exact F4.refl _
 simp only[akO,akI];by_cases hv':zg b.1≥a.2.1
 ·have hm:=hv.resolve_left (by omega);have e:vote c (see c a.2.2.2.1 b.2) b=see c a.2.2.2.1 b.2:=by unfold vote; rw[hm]; rfl
  simp only[hv',akP,akJ,hm,e,al2];cases hw:(zm c (zJ a (zg b.1)) (see c a.2.2.2.1 b.2)).2
  ·exact F4.refl _
  ·simp only[akO,akI];rw[ac6 hw];exact adt hS
 ·simp only[hv',akQ,akI];cases hw:(zm c a (see c a.2.2.2.1 b.2)).2
  ·exact F4.refl _
  ·simp only[akO,akI];rw[ac6 hw];exact adt hS
theorem aee {c:za} {r:zb} {b:yE} (h:(jM c r b).2=true):Seen c (jM c r b).1.2.2.2.1 b.2/\(zg b.1<(jM c r b).1.2.1∨Zs c (see c (jM c r b).1.2.2.2.1 b.2) b=false):=by
 have acf:=(RN c r b).2.2;unfold jM at h acf ⊢;cases hk:zf c r
 ·rw[hk] at h; cases h
 cases hb:jm c b
 ·rw[hk,hb] at h; cases h
 have hso:zX c r.2.2.2.1=true:=(J0 hk).2.2.2.2.1;simp only[hk,hb,akO,akI] at h acf ⊢;by_cases hv:zg b.1≥r.2.1
 ·simp only[hv,akP,akJ] at h ⊢;cases hw:(zm c (zJ r (zg b.1)) (vote c (see c r.2.2.2.1 b.2) b)).2
  ·rw[hw] at h; cases h
  have hws:=ac6 hw;rw[hw] at h;simp only[akO,akI] at h ⊢;cases hm:Zs c (see c r.2.2.2.1 b.2) b
  ·have e:vote c (see c r.2.2.2.1 b.2) b=see c r.2.2.2.1 b.2:=by unfold vote; rw[hm]; rfl
   rw[e] at hws ⊢;simp only[al2,akJ];rw[hws];exact⟨acI hso _,.inr (by rw[acH]; exact hm)⟩
  ·have e:vote c (see c r.2.2.2.1 b.2) b=(zg b.1,(see c r.2.2.2.1 b.2).2):=by unfold vote; rw[hm]; rfl
   rw[hm] at h;simp only[akO,akI] at h ⊢;have hsv:Seen c (zm c (zJ r (zg b.1)) (vote c (see c r.2.2.2.1 b.2) b)).1.2.2.2.1 b.2:=by
    rw[hws,e];exact acI hso b.2
   have hv1:(zm c (zJ r (zg b.1)) (vote c (see c r.2.2.2.1 b.2) b)).1.2.2.2.1.1=zg b.1:=by rw[hws,e]
   generalize (zm c (zJ r (zg b.1)) (vote c (see c r.2.2.2.1 b.2) b)).1=w at *;unfold voted at h ⊢;cases ht:(zD c w.2.2.2.2.2.1 (zg b.1,b.1,[w.1])).2
   ·rw[ht] at h; cases h
   simp only[akO,akI];have key:Seen c (climb c (yU w (zD c w.2.2.2.2.2.1 (zg b.1,b.1,[w.1])).1) (zg b.1) b.1 false).1.2.2.2.1 b.2/\(climb c (yU w (zD c w.2.2.2.2.2.1 (zg b.1,b.1,[w.1])).1) (zg b.1) b.1 false).1.2.2.2.1.1=zg b.1:=by
    rcases (acP c (yU w (zD c w.2.2.2.2.2.1 (zg b.1,b.1,[w.1])).1) (zg b.1) b.1).1 with h1|⟨q,h1⟩
    ·rw[h1]; exact⟨hsv,hv1⟩
    ·rw[h1]; exact⟨aeZ hsv q,by rw[XG]; exact hv1⟩
   refine⟨key.1,.inr ?_⟩;unfold Zs;rw[XG,key.2];simp
 ·simp only[hv,akQ,akI] at h acf ⊢;have hvw:=(acf (by omega)).1;cases hw:(zm c r (see c r.2.2.2.1 b.2)).2
  ·rw[hw] at h; cases h
  rw[hw] at hvw;simp only[akO,akI] at hvw ⊢;rw[ac6 hw];exact⟨acI hso _,.inl (by omega)⟩
theorem aeh {c:za} {r:zb} {b:yE} (h:(jM c r b).2=true):F4 (jM c (swept c (jM c r b).1) b).1.2.2.2.1 (swept c (jM c r b).1).2.2.2.1:=by
 obtain⟨h1,h2⟩:=aee h;exact aeg (a:=swept c (jM c r b).1) h1 h2
theorem af5 (c:za) (r:zb) (x:zP):(NG c r x).1.2.2.2.1=r.2.2.2.1:=by
 unfold NG;cases zf c r<;>rfl
theorem aen {c:za} {r:zb} (h:zf c r=true) (v:Int) (q:zH) (who:Int) (hq:zi q<=4000):
  Ens (ac7 (c,r,v,q,who,())) λ o=>o.2.1=(NH c r v q who).2/\(o.2.1=false->o.1=r)/\(o.2.1=true->Kp c r o.1/\o.1.2.2.2.1=see c r.2.2.2.1 q):=by
 have hw:=KB h;have hv:=Mu h;have hs:zu r.2.2.2.1<=260000:=by simp only[ze] at hw; omega
 have ag4:=MA c r.2.2.2.1 q;obtain⟨k1,k2⟩:=eg h (see c r.2.2.2.1 q);have hwr:write c r (see c r.2.2.2.1 q)=zm c r (see c r.2.2.2.1 q):=by unfold write; rw[h]; rfl
 have afx:(NH c r v q who).2=false->Ens ((jJ (r,())).bind λ r1=>some (r1.1,false,())) λ o=>o.2.1=(NH c r v q who).2/\(o.2.1=false->o.1=r)/\(o.2.1=true->Kp c r o.1/\o.1.2.2.2.1=see c r.2.2.2.1 q):=by
  intro hF;rw[dS r (by omega),akH];exact Ens.some ⟨hF.symm,λ _=>rfl,λ h=>(by cases h)⟩
 unfold ac7;dsimp only;rw[QH c r (by omega),akH,h];refine Ens.cond (λ hx=>(by cases hx)) λ _ => ?_;rw[Lk,akH];refine Ens.cond (λ hx=>afx ?_) λ e1 => ?_
 ·rw[ale] at hx
  try dsimp only at hx
  unfold NH;rw[h,hx]; rfl
 rw[Bool.not_eq_false'] at e1
 try dsimp only at e1
 have hvv:1<=v/\v<=60:=by simpa using e1
 rw[NK c q (by omega),akH];refine Ens.cond (λ hx=>afx ?_) λ e2 => ?_
 ·rw[ale] at hx
  try dsimp only at hx
  unfold NH;rw[h,e1,hx]; rfl
 rw[Bool.not_eq_false'] at e2
 try dsimp only at e2
 have hqv:0<=q.1/\q.1<=60:=by
  have h1:=pq e2;have:=Qg h1.1;omega
 rw[Lk,akH];refine Ens.cond (λ hx=>afx ?_) λ e3 => ?_
 ·rw[ale] at hx
  try dsimp only at hx
  unfold NH;rw[h,e1,e2,hx]; rfl
 rw[Bool.not_eq_false'] at e3
 try dsimp only at e3
 have hF:(NH c r v q who).2=bif (zm c r (see c r.2.2.2.1 q)).2 then (bif yr c v==r.1 then (bif decide (v≥r.2.1) then (zD c (zm c r (see c r.2.2.2.1 q)).1.2.2.2.2.2.1 (v,[],[who])).2 else true) else true) else false:=by
  unfold NH;rw[h,e1,e2,e3];simp only[akO,akI];cases (zm c r (see c r.2.2.2.1 q)).2
  ·rfl
  cases yr c v==r.1
  ·rfl
  cases decide (v≥r.2.1)
  ·rfl
  cases (zD c (zm c r (see c r.2.2.2.1 q)).1.2.2.2.2.2.1 (v,[],[who])).2
  ·rfl
  simp only[akJ,akO,akI];cases decide (((yz (zD c (zm c r (see c r.2.2.2.1 q)).1.2.2.2.2.2.1 (v,[],[who])).1 v []).2.2.length:Int)≥Jn c)<;>rfl
 have hsf := @ac6 c r (see c r.2.2.2.1 q);rw[uL c r.2.2.2.1 q (by omega) (by omega),akH,mQ c r (see c r.2.2.2.1 q) (by omega) (by omega),akH,hwr];dsimp only;generalize hg:zm c r (see c r.2.2.2.1 q)=g at k1 k2 hF hsf;have hgw:=KB k1.1;have hgt:=(J0 k1.1).2.2.2.2.2.2.1;have af7:=DE hgt;refine Ens.cond (λ hx=>afx ?_) λ e4 => ?_
 ·rw[ale] at hx
  try dsimp only at hx
  rw[hF,hx]; rfl
 rw[Bool.not_eq_false'] at e4
 try dsimp only at e4
 have hsf:=hsf e4;rw[e4,akJ] at hF;rw[uK,akH,zh (n:=q.1+1) (by omega) (by omega)];have m1:1<=mx g.1.2.1 (mn (q.1+1) 60)/\mx g.1.2.1 (mn (q.1+1) 60)<=60:=by
  rw[eI,vW];split<;>split<;>omega
 generalize mx g.1.2.1 (mn (q.1+1) 60)=v1 at m1;have m2:1<=mx v1 v/\mx v1 v<=60:=by
  rw[eI]; split<;>omega
 generalize mx v1 v=v2 at m2;have ace:∀ {w:zb} {x:zb},(NH c r v q who).2=true->Kp c r w->w.2.2.2.1=see c r.2.2.2.1 q->zE x.2.2.2.2.2.1<=137438953472->Ens ((ac3 (c,x,v,())).bind λ r15=>bif r15.1 then some (zJ w v2,true,()) else some (zJ w v1,true,())) λ o=>o.2.1=(NH c r v q who).2/\(o.2.1=false->o.1=r)/\(o.2.1=true->Kp c r o.1/\o.1.2.2.2.1=see c r.2.2.2.1 q):=by
  intro w x hT kw hsw hx;obtain⟨b,hb⟩:=aeB c x v hx;rw[hb,akH];exact Ens.cond (λ _=>Ens.some ⟨hT.symm,λ h=>(by cases h),λ _=>⟨kw.trans (ed kw.1 m2),hsw⟩⟩) λ _=>Ens.some ⟨hT.symm,λ h=>(by cases h),λ _=>⟨kw.trans (ed kw.1 m1),hsw⟩⟩
 have aeA:=λ hT=>ace (x:=zJ g.1 v1) hT k1 hsf (by simp only[zJ]; omega)
 refine Ens.cond (λ e5 => ?_) λ e5=>aeA (by rw[hF,e5]; rfl)
 rw[e5,akJ] at hF;refine Ens.cond (λ e6 => ?_) λ e6=>aeA (by rw[hF,e6]; rfl)
 rw[e6,akJ] at hF;have hp:=lB v who [];simp only[akM] at hp;rw[Sf c g.1.2.2.2.2.2.1 (v,[],[who]) (by omega) (by omega),Option.bind_some];refine Ens.cond (λ hx=>afx ?_) λ af9 => ?_
 ·rw[ale] at hx
  try dsimp only at hx
  exact hF.trans hx
 rw[Bool.not_eq_false'] at af9
 try dsimp only at af9
 have hok:=Qa af9;have htw:=DE hok;exact ace (w:=yU g.1 (zD c g.1.2.2.2.2.2.1 (v,[],[who])).1) (x:=zJ (yU g.1 (zD c g.1.2.2.2.2.2.1 (v,[],[who])).1) v1) (hF.trans af9) (k1.trans (QX k1.1 hok)) hsf (by simp only[zJ,yU]; omega)
def acr (c:za) (r:zb) (m:zv) (o:zb×Bool×Unit):Prop:=
 o.2.1=(L3 c r m).2/\(o.2.1=false->o.1=r)/\(o.2.1=true->zf c o.1=true/\(((m.1==1)=false/\(m.1==2)=false/\(m.1==3)=true/\o.1.2.2.2.1=see c r.2.2.2.1 m.2.2.2.2.1)∨
  (((m.1==1)=true∨(m.1==2)=true∨(m.1==3)=false)/\o.1=swept c (yI c r m).1/\(yI c r m).2=true)))
theorem acU {c:za} {r:zb} (h:zf c r=true) (m:zv) (hm:zj m<=1073741824):Ens (abY (c,r,m,())) (acr c r m):=by
 have hw:=KB h;have afx:(L3 c r m).2=false->Ens ((jJ (r,())).bind λ r1=>some (r1.1,false,())) (acr c r m):=by
  intro hF;rw[dS r (by omega),akH];exact Ens.some ⟨hF.symm,λ _=>rfl,λ h=>(by cases h)⟩
 unfold abY;dsimp only;rw[R0 c m (by omega),akH];refine Ens.cond (λ hx=>afx ?_) λ hmo => ?_
 ·rw[ale] at hx
  try dsimp only at hx
  unfold L3;simp only[h,hx,akO,al2,akJ,akI]
 rw[Bool.not_eq_false'] at hmo
 try dsimp only at hmo
 have hF:(L3 c r m).2=(yI c r m).2:=by
  unfold L3;simp only[h,hmo,akO,akI];cases (yI c r m).2<;>rfl
 have ace:∀ (x:zb×Bool×Unit),Kp c r x.1->x.2.1=(yI c r m).2->(x.2.1=true->(((m.1==1)=false/\(m.1==2)=false/\(m.1==3)=true/\x.1.2.2.2.1=see c r.2.2.2.1 m.2.2.2.2.1)∨(((m.1==1)=true∨(m.1==2)=true∨(m.1==3)=false)/\x.1=(yI c r m).1)))->Ens (bif !x.2.1 then (jJ (r,())).bind λ r3=>some (r3.1,false,()) else (ac2 (x.1.2.2.2.2.2.1,wr (x.1.2.1 - 1),())).bind λ r4=>
   (abW (c,(x.1.1,x.1.2.1,x.1.2.2.1,x.1.2.2.2.1,x.1.2.2.2.2.1,r4.1,x.1.2.2.2.2.2.2),())).bind λ r5=>(abM (x.1.2.2.2.2.1,r5.1,())).bind λ r6=>some (((x.1.1,x.1.2.1,x.1.2.2.1,x.1.2.2.2.1,r6.1,r4.1,x.1.2.2.2.2.2.2):zb),true,())) (acr c r m):=by
  intro x k hxF hxQ;refine Ens.cond (λ hx=>afx ?_) λ hx => ?_
  ·rw[ale] at hx
   try dsimp only at hx
   rw[hF,←hxF,hx]
  rw[Bool.not_eq_false'] at hx;obtain⟨h1,h2,h3,h4,h5,h6,h7,h8,h9,h10⟩:=J0 k.1;have hw:=KB k.1;have hkt:=QX k.1 (DC h7 (x.1.2.1 - 1));have hw2:=KB hkt.1;have hsw:=abd c (yU x.1 (Y6 x.1.2.2.2.2.2.1 (x.1.2.1 - 1)));have ht:=DE h7;simp only[lA,zn] at hsw;have hpl:x.1.2.2.2.2.1.length<=260000:=by simp only[ze,Jy] at hw; omega
  rw[zh (n:=x.1.2.1 - 1) (by omega) (by omega),aey _ _ (by omega),akH];dsimp only;have es:abW (c,yU x.1 (Y6 x.1.2.2.2.2.2.1 (x.1.2.1 - 1)),())=some (state c (yU x.1 (Y6 x.1.2.2.2.2.2.1 (x.1.2.1 - 1))),()):=aex c _ (by omega);have ep:abM (x.1.2.2.2.2.1,state c (yU x.1 (Y6 x.1.2.2.2.2.2.1 (x.1.2.1 - 1))),())=some (N5 x.1.2.2.2.2.1 (state c (yU x.1 (Y6 x.1.2.2.2.2.2.1 (x.1.2.1 - 1)))),()):=aew _ _ (by omega) (by omega) (by omega);unfold yU at es ep;rw[es,akH,ep,akH];refine Ens.some ⟨?_,λ h=>(by cases h),λ _=>⟨(ST k.1).1,?_⟩⟩
  ·rw[hF,←hxF,hx]
  ·rcases hxQ hx with⟨q1,q2,q3,q4⟩|⟨q1,q2⟩
   ·exact .inl ⟨q1,q2,q3,q4⟩
   ·exact .inr ⟨q1,by rw[←q2]; rfl,by rw[←hxF,hx]⟩
 have hmw:=eH hmo;have w1:zp m.2.2.1<=3847:=by simp only[zj] at hmw; omega
 have w2:zk m.2.2.2.1<=3847:=by simp only[zj] at hmw; omega
 have w3:zi m.2.2.2.2.1<=3847:=by simp only[zj] at hmw; omega
 refine Ens.cond (λ g1 => ?_) λ g1 => ?_
 ·have e:yI c r m=jM c r m.2.2.1:=by unfold yI; rw[g1]; rfl
  rw[RX c r m.2.2.1 (by omega),akH];exact ace ((jM c r m.2.2.1).1,(jM c r m.2.2.1).2,()) (vn h _) (by rw[e]) λ _=>.inr ⟨.inl g1,by rw[e]⟩
 refine Ens.cond (λ g2 => ?_) λ g2 => ?_
 ·have e:yI c r m=NE c r m.2.2.2.1:=by unfold yI; rw[g1,g2]; rfl
  rw[acR c r m.2.2.2.1 (by omega) (by omega),akH];exact ace ((NE c r m.2.2.2.1).1,(NE c r m.2.2.2.1).2,()) (SO h _) (by rw[e]) λ _=>.inr ⟨.inr (.inl g2),by rw[e]⟩
 refine Ens.cond (λ g3 => ?_) λ g3 => ?_
 ·have e:yI c r m=NH c r m.2.1 m.2.2.2.2.1 m.2.2.2.2.2.1:=by unfold yI; rw[g1,g2,g3]; rfl
  refine (aen h m.2.1 m.2.2.2.2.1 m.2.2.2.2.2.1 (by omega)).bind λ x hx => ?_;refine ace x ?_ (by rw[e]; exact hx.1) λ ht=>.inl ⟨g1,g2,g3,(hx.2.2 ht).2⟩
  cases hb:x.2.1
  ·rw[hx.2.1 hb]; exact Kp.refl h
  ·exact (hx.2.2 hb).1
 ·have e:yI c r m=NG c r m.2.2.2.2.2.2:=by unfold yI; rw[g1,g2,g3]; rfl
  rw[acS c r m.2.2.2.2.2.2 (by omega),akH];exact ace ((NG c r m.2.2.2.2.2.2).1,(NG c r m.2.2.2.2.2.2).2,()) (SP h _) (by rw[e]) λ _=>.inr ⟨.inr (.inr g3),by rw[e]⟩
theorem aeo {c:za} {r:zb} (h:zf c r=false) (m:zv) (hr:ze r<=600000) (hm:zj m<=1073741824):abY (c,r,m,())=some (r,false,()):=by
 suffices k:Ens (abY (c,r,m,())) λ o=>o=(r,false,()) by
  obtain⟨y,hy,rfl⟩:=k;exact hy
 have afx:Ens ((jJ (r,())).bind λ r1=>some (r1.1,false,())) λ o=>o=(r,false,()):=by
  rw[dS r (by omega),akH]; exact Ens.some rfl
 unfold abY;dsimp only;rw[R0 c m (by omega),akH];refine Ens.cond (λ _=>afx) λ hmo => ?_;have hmo:yJ c m=true:=by simpa using hmo
 have hmw:=eH hmo;have w1:zp m.2.2.1<=3847:=by simp only[zj] at hmw; omega
 have w2:zk m.2.2.2.1<=3847:=by simp only[zj] at hmw; omega
 refine Ens.cond (λ _ => ?_) λ _ => ?_
 ·have e:jM c r m.2.2.1=(r,false):=by unfold jM; rw[h]; rfl
  rw[RX c r m.2.2.1 (by omega),akH,e];exact afx
 refine Ens.cond (λ _ => ?_) λ _ => ?_
 ·have e:NE c r m.2.2.2.1=(r,false):=by unfold NE; rw[h]; rfl
  rw[acR c r m.2.2.2.1 (by omega) (by omega),akH,e];exact afx
 refine Ens.cond (λ _ => ?_) λ _ => ?_
 ·unfold ac7;dsimp only;rw[QH c r (by omega),akH,h,dS r (by omega)];show Ens (some (r,false,())) _;exact Ens.some rfl
 ·have e:NG c r m.2.2.2.2.2.2=(r,false):=by unfold NG; rw[h]; rfl
  rw[acS c r m.2.2.2.2.2.2 (by omega),akH,e];exact afx
theorem adI (code:List UInt8) (hb:code.length<=big):Ens (acq (code,())) λ r=>ze r.2.1<=600000/\zj r.2.2.1<=1073741824:=by
 unfold acq;refine (S7 code hb).bind λ r0 h0 => ?_;refine (Tc r0 h0.1).bind λ r1 h1 => ?_;obtain⟨h1,hW⟩:=h1;have hd:∀ p:Int×Int,0<=p.1->Ens ((kH ((r0.1,p),())).bind λ r5=>(kD ((r0.1,r5.1.2),r5.2.1,())).bind λ r6=>some (r5.2.1,r5.2.2.1,r6.2.1,())) λ r=>ze r.2.1<=600000/\zj r.2.2.1<=1073741824:=by
  intro p hp;refine (S4 (r0.1,p) ⟨h0.1.1,hp⟩).bind λ r5 h5 => ?_;have hc:=yb h5.2.1;exact (S2 (r0.1,r5.1.2) r5.2.1 ⟨h0.1.1,h5.1⟩ (by omega)).bind λ r6 h6=>Ens.some ⟨h5.2.2.1,by have:=h6.2; dsimp only; omega⟩
 refine Ens.cond (λ h => ?_) λ _=>hd _ h1;have h:(r1.2.1.2.2.2.1.length:Int)>0:=by simpa using h
 refine (YN (r0.1,r1.1.2) 3 ⟨h0.1.1,h1⟩).bind λ r2 h2 => ?_;refine Ens.cond (λ _ => ?_) λ _=>hd _ h2;refine (zI (r0.1,r2.1.2) _ ⟨h0.1.1,h2⟩).bind λ r3 h3 => ?_;have a3:=h3.2.2 h;have hi:r3.2.1.toNat<r1.2.1.2.2.2.1.length:=by omega
 have hg:=List.getElem?_eq_getElem hi;have hn:=hW.net.2 _ (List.getElem_mem hi);generalize r1.2.1.2.2.2.1[r3.2.1.toNat]=x at hg hn;refine Ens.ite ⟨h3.2.1,a3⟩ ?_;rw[zt (e:=sQ) hg,C9 _ x.2 (by omega),akH];have hl:=hW.len;refine Ens.ite ⟨hn.1.1,by rw[hl]; exact hn.1.2⟩ (Ens.some ⟨?_,TX _ _ (by omega)⟩)
 have hj:x.1.toNat<r1.2.1.2.2.1.length:=by omega
 have hgr:=List.getElem?_eq_getElem hj;rw[zt (e:=JA) hgr];have:=KB (hW.reps _ hj).1;dsimp only at this ⊢; omega
theorem law_HeardTwice (code:List UInt8) (hb:code.length<=big):laws_FnHeardTwice (code,())=some (true,()):=by
 suffices h:Ens (laws_FnHeardTwice (code,())) λ r=>r=(true,()) by
  obtain⟨y,hy,rfl⟩:=h;exact hy
 unfold laws_FnHeardTwice nz;dsimp only;by_cases acy:(code.length:Int)>1048576
 ·simp only[acy,akP,akH,akJ];exact Ens.some rfl
 simp only[acy,akQ,akH,akI];refine (adI code hb).bind λ r1 h1 => ?_;obtain⟨c,r,m,u⟩:=r1;obtain⟨hr,hm⟩:ze r<=600000/\zj m<=1073741824:=h1;dsimp only;have acC:∀ (a b:zb),F4 b.2.2.2.1 a.2.2.2.1->Ens (bif b.2.2.2.1.1==a.2.2.2.1.1 then (bif b.2.2.2.1.2.1==a.2.2.2.1.2.1 then (bif b.2.2.2.1.2.2.2==a.2.2.2.1.2.2.2 then some ((b.2.2.2.1.2.2.1.1==a.2.2.2.1.2.2.1.1),()) else some (false,())) else some (false,())) else some (false,())) λ r=>r=(true,()):=by
  rintro a b ⟨e1,e2,e3,e4⟩;rw[e1,e2,e3,e4];simp only[beq_self_eq_true,akJ];exact Ens.some rfl
 rw[C5 c r m (by omega) (by omega)];cases hk:zf c r
 ·have e:(L3 c r m).2=false:=by unfold L3; rw[hk]; rfl
  simp only[aeo hk m hr hm,akH,e,bne_self_eq_false,akI];exact acC r r (F4.refl _)
 ·obtain⟨o,ho,p1,p2,p3⟩:=acU hk m hm;rw[ho,akH,akH];dsimp only;rw[p1,bne_self_eq_false,akI];rw[←p1] at *;cases hf:o.2.1
  ·have e:=p2 hf;rw[e,ho,akH];rw[e];exact acC r r (F4.refl _)
  ·obtain⟨k1,k2⟩:=p3 hf;obtain⟨o2,ho2,q1,q2,q3⟩:=acU k1 m hm;rw[ho2,akH];refine acC o.1 o2.1 ?_;cases hf2:o2.2.1
   ·rw[q2 hf2]; exact F4.refl _
   ·obtain⟨-,l2⟩:=q3 hf2;rcases k2 with⟨g1,g2,g3,g4⟩|⟨g1,g4,g5⟩
    ·rcases l2 with⟨-,-,-,l4⟩|⟨l1,-,-⟩
     ·rw[l4,g4,acH]; exact F4.refl _
     ·rw[g1,g2,g3] at l1; simp at l1
    ·rcases l2 with⟨l1,l2,l3,-⟩|⟨-,l4,l5⟩
     ·rw[l1,l2,l3] at g1; simp at g1
     ·rw[l4,g4];show F4 (yI c (swept c (yI c r m).1) m).1.2.2.2.1 (swept c (yI c r m).1).2.2.2.1;cases b1:(m.1==1)
      ·cases b2:(m.1==2)
       ·rw[b1,b2] at g1;have b3:(m.1==3)=false:=by simpa using g1
        have e:∀ r,yI c r m=NG c r m.2.2.2.2.2.2:=λ r=>by unfold yI; rw[b1,b2,b3]; rfl
        rw[e (swept c (yI c r m).1),af5];exact F4.refl _
       ·have e:∀ r,yI c r m=NE c r m.2.2.2.1:=λ r=>by unfold yI; rw[b1,b2]; rfl
        rw[e r] at g5 ⊢;rw[e];exact aeJ g5
      ·have e:∀ r,yI c r m=jM c r m.2.2.1:=λ r=>by unfold yI; rw[b1]; rfl
       rw[e r] at g5 ⊢;rw[e];exact aeh g5
end G448
