/- Plain laws, part 2: what the functions compute. No program in sight. -/
import Derived.Test.YtfobheedeodnjaaGreatDoorSiPureA
set_option linter.unusedSimpArgs false
set_option linter.unusedVariables false
namespace G448
open Ev Go
set_option maxRecDepth 100000
abbrev B5:Ty:=.pair .i64 (.sl 0 (.pair .i64 (.pair .i64 (.pair .i64 .i64))))
def pA:zJ:=(0,[],[])
noncomputable def Y6 (c:za) (p:zH):zJ×Bool:=bif p.2.1==[] then (pA,false) else bif yg c p then (p,true) else (pA,false)
theorem Vz (c:za) (p:zH) (hw:zk p<=137438953472):e7 (c,p,())=some ((Y6 c p).1,(Y6 c p).2,()):=by
 have h1:p.2.2.length<=137438953472:=by simp only[zk,zn] at hw; omega
 have h2:zi p<=137438953472:=hw;unfold e7 Y6 pA;dsimp only;rw[if_pos (by omega)];simp only[ahS];rw[Lf c (p.1,p.2.1,p.2.2) h2,ahu];show _=some ((bif p.2.1==[] then ((0,[],[]),false) else bif yg c (p.1,p.2.1,p.2.2) then (p,true) else ((0,[],[]),false)).1,_,());cases (p.2.1==([]:List UInt8))
 ·cases yg c (p.1,p.2.1,p.2.2)<;>rfl
 ·rfl
theorem Rr {c:za} {p:zH} (h:(Y6 c p).2=true):(Y6 c p).1=p/\yg c p=true:=by
 unfold Y6 at *;cases h1:(p.2.1==([]:List UInt8))
 ·rw[h1] at h;cases h2:yg c p
  ·rw[h2] at h; cases h
  ·exact⟨rfl,rfl⟩
 ·rw[h1] at h; cases h
def dP (a b:zJ):zJ:=bif decide (a.1>b.1) then a else b
theorem VC (a b:zJ) (ha:zi a<=137438953472) (hb:zi b<=137438953472):fc (a,b,())=some (dP a b,()):=by
 unfold fc dP;dsimp only;rw[Ml a ha,Ml b hb];cases decide (a.1>b.1)<;>rfl
theorem bk (s:List UInt8):(Z3 s).length<=s.length:=by
 unfold Z3;split
 ·split
  ·rw[ahM]; omega
  ·simp
 ·simp
noncomputable def Zn (l:List ZJ) (k:Int):Int:=(rd B5 l (Int.toNat (wr ((l.length:Int) - k)))).1
noncomputable def Yf (s:List UInt8):List UInt8×Bool:=
 bif decide (((steps s).1.length:Int)<3) then ([],false) else
 bif Zn (steps s).1 1 != wr (Zn (steps s).1 2+1) then ([],false) else
 bif Zn (steps s).1 2 != wr (Zn (steps s).1 3+1) then ([],false) else (Z3 (Z3 s),true)
theorem cz {l:List ZJ} (h:¬ ((l.length:Int)<3)) (h2:l.length<=30) (k:Int) (hk:1<=k/\k<=3):0<=wr ((l.length:Int) - k)/\wr ((l.length:Int) - k)<(l.length:Int):=by
 rw[zg (by omega) (by omega)];omega
theorem VJ (s:List UInt8) (hs:s.length<=137438953472):fu (s,())=some ((Yf s).1,(Yf s).2,()):=by
 have hu:=bk s;obtain⟨p1,p2⟩:=bj s;unfold fu Yf;dsimp only;rw[fx s hs,ahu];cases h:(steps s).2
 ·rw[p1 h]; rfl
 ·dsimp only;by_cases h3:((steps s).1.length:Int)<3
  ·simp only[h3,ahB,ahw,ahC,ahv]
  ·simp only[h3,ahG,ahv,ahC];rw[if_pos (cz h3 p2 1 (by decide)),if_pos (cz h3 p2 2 (by decide)),if_pos (cz h3 p2 2 (by decide)),if_pos (cz h3 p2 3 (by decide)),aL s hs,ahu,aL (Z3 s) (by omega),ahu];show (bif Zn (steps s).1 1 != wr (Zn (steps s).1 2+1) then _ else bif Zn (steps s).1 2 != wr (Zn (steps s).1 3+1) then _ else _)=_;cases (Zn (steps s).1 1 != wr (Zn (steps s).1 2+1))<;>cases (Zn (steps s).1 2 != wr (Zn (steps s).1 3+1))<;>rfl
theorem AE (s:List UInt8):(Yf s).1.length<=s.length:=by
 have h1:=bk s;have h2:=bk (Z3 s);unfold Yf;cases decide (((steps s).1.length:Int)<3)
 ·cases (Zn (steps s).1 1 != wr (Zn (steps s).1 2+1))
  ·cases (Zn (steps s).1 2 != wr (Zn (steps s).1 3+1))
   ·simp only[ahv]; omega
   ·simp
  ·simp
 ·simp
noncomputable def qE (a b:List UInt8):Bool:=
 zD a && (zD b && (!decide ((b.length:Int)>(a.length:Int)) && (a.take b.length==b && ((a.length:Int)==(b.length:Int) || a.getD b.length 0==UInt8.ofNat (Int.toNat 47)))))
theorem Vl (a b:List UInt8) (ha:a.length<=137438953472) (hb:b.length<=137438953472):eP (a,b,())=some (qE a b,()):=by
 unfold eP qE;dsimp only;rw[Kl a ha,ahu,Kl b hb,ahu];cases zD a
 ·rfl
 cases zD b
 ·rfl
 by_cases hl:(b.length:Int)>(a.length:Int)
 ·simp only[hl,ahB,ahw,ahC,ahv,ail,aiP,ahU]
 ·simp only[hl,ahG,ahv,ahC,ahY,ahU];rw[if_pos (by omega)];simp only[ahH,show Int.toNat 0=0 from rfl,aiT,ahV,bne];cases a.take b.length==b
  ·rfl
  ·simp only[ahC,ahv,ahU];cases he:((a.length:Int)==(b.length:Int))
   ·have:(a.length:Int)≠(b.length:Int):=by simpa using he
    simp only[ahv,ajj];rw[if_pos (by omega)]
   ·rfl
noncomputable def see (c:za) (s:zI) (q:zJ):zI:=
 bif !yj c s then s else bif !yg c q then s else (s.1,max s.2.1 (zm (Z3 q.2.1)),dP q s.2.2.1,bif (Yf q.2.1).2 && qE (Yf q.2.1).1 s.2.2.2 then (Yf q.2.1).1 else s.2.2.2)
theorem fk (c:za) (s:zI) (q:zJ) (hs:zC s<=10000000000) (hq:zi q<=10000000000):Mc (c,s,q,())=some (see c s q,()):=by
 have h1:q.2.1.length<=10000000000:=by simp only[zi] at hq; omega
 have h2:=bk q.2.1;have h3:=AE q.2.1;have h4:zi s.2.2.1<=10000000000/\s.2.2.2.length<=10000000000:=by simp only[zC] at hs; omega
 unfold Mc see;dsimp only;rw[fG s (by omega),ahu,NV c s (by omega),ahu,Lf c q (by omega),ahu,VC q s.2.2.1 (by omega) (by omega),ahu,aL q.2.1 (by omega),ahu,YP (Z3 q.2.1) (by omega),ahu,Mm,ahu,
  VJ q.2.1 (by omega),ahu,Vl (Yf q.2.1).1 s.2.2.2 (by omega) (by omega),ahu]
 cases yj c s
 ·rfl
 cases yg c q
 ·rfl
 cases (Yf q.2.1).2
 ·rfl
 cases qE (Yf q.2.1).1 s.2.2.2<;>rfl
theorem QZ (c:za) (s:zI) (q:zJ):zC (see c s q)<=zC s+2*zi q:=by
 have h3:=AE q.2.1;unfold see dP;cases yj c s
 ·simp only[ahY,ahw]; omega
 cases yg c q
 ·simp only[ahY,ahw,ahC,ahv]; omega
 simp only[ahC,ahv,zC];have h5:q.2.1.length<=zi q:=by simp only[zi]; omega
 cases decide (q.1>s.2.2.1.1)<;>cases ((Yf q.2.1).2 && qE (Yf q.2.1).1 s.2.2.2)<;>simp only[ahw,ahv]<;>omega
noncomputable def seat (c:za) (v i:Int):Int:=bif zA c && (!decide (v<0) && (decide (i≥0) && decide (i<=c.1 - 1))) then (i+c.1 - v % c.1) % c.1 else -1
noncomputable def sits (c:za) (v p:Int):Int:=bif zA c && (!decide (v<0) && (decide (p≥0) && decide (p<=c.1 - 1))) then (v % c.1+p) % c.1 else -1
theorem gw {a n:Int} (h:0<=a):Int.tmod a n=a % n:=Int.tmod_eq_emod_of_nonneg h
theorem aD (c:za) (v i:Int):NW (c,v,i,())=some (seat c v i,()):=by
 unfold NW seat;dsimp only;rw[YM,ahu];cases h:zA c
 ·rfl
 obtain⟨h1,h2⟩:=ym h;have e1:wr (c.1 - 1)=c.1 - 1:=zg (by omega) (by omega);by_cases hv:v<0
 ·simp only[hv,ahB,ahw,ahC,ahv,ail,aiP,ahU]
 simp only[hv,ahG,ahv,ahC,ahY,ahU,fV,ahu,e1];by_cases hi:i≥0/\i<=c.1 - 1
 ·have a1:0<=v % c.1:=Int.emod_nonneg _ (by omega);have a2:v % c.1<c.1:=Int.emod_lt_of_pos _ (by omega);simp only[hi.1,hi.2,ahB,air,ahC,ahv,ahw];rw[if_neg (by omega),if_neg (by omega),gw (show 0<=v by omega),zg (show -9223372036854775808<=i+c.1 by omega) (by omega),zg (by omega) (by omega),gw (by omega)]
 ·have:(decide (i≥0) && decide (i<=c.1 - 1))=false:=by
   rw[Bool.eq_false_iff]; intro h; simp only[ahx,ahI] at h; exact hi h
  simp only[this,ahY,ahw,ahv]
theorem VK (c:za) (v p:Int):fw (c,v,p,())=some (sits c v p,()):=by
 unfold fw sits;dsimp only;rw[YM,ahu];cases h:zA c
 ·rfl
 obtain⟨h1,h2⟩:=ym h;have e1:wr (c.1 - 1)=c.1 - 1:=zg (by omega) (by omega);by_cases hv:v<0
 ·simp only[hv,ahB,ahw,ahC,ahv,ail,aiP,ahU]
 simp only[hv,ahG,ahv,ahC,ahY,ahU,fV,ahu,e1];by_cases hi:p≥0/\p<=c.1 - 1
 ·have a1:0<=v % c.1:=Int.emod_nonneg _ (by omega);have a2:v % c.1<c.1:=Int.emod_lt_of_pos _ (by omega);simp only[hi.1,hi.2,ahB,air,ahC,ahv,ahw];rw[if_neg (by omega),if_neg (by omega),gw (show 0<=v by omega),zg (by omega) (by omega),gw (by omega)]
 ·have:(decide (p≥0) && decide (p<=c.1 - 1))=false:=by
   rw[Bool.eq_false_iff]; intro h; simp only[ahx,ahI] at h; exact hi h
  simp only[this,ahY,ahw,ahv]
theorem Lb {c:za} {v i:Int} (h:0<=seat c v i):zA c=true/\0<=v/\0<=i/\i<=c.1 - 1/\seat c v i=(i+c.1 - v % c.1) % c.1:=by
 unfold seat at *;cases hc:(zA c && (!decide (v<0) && (decide (i≥0) && decide (i<=c.1 - 1))))
 ·rw[hc] at h; simp only[ahv] at h; omega
 ·simp only[ahx,ai1,aiH,ahI] at hc;exact⟨hc.1,by omega,hc.2.2.1,hc.2.2.2,rfl⟩
noncomputable def up (c:za) (v i:Int):Int:=bif decide (seat c v i<=0) then -1 else sits c v ((seat c v i - 1) / c.2)
theorem oA {c:za} {v i:Int} (h:0<=seat c v i):seat c v i<c.1:=by
 obtain⟨h1,_,_,_,h5⟩:=Lb h;have:=ym h1;rw[h5];exact Int.emod_lt_of_pos _ (by omega)
theorem BO {c:za} {v i:Int} (h:¬ seat c v i<=0):wr (Int.tdiv (wr (seat c v i - 1)) c.2)=(seat c v i - 1) / c.2/\¬ c.2=0/\0<=(seat c v i - 1) / c.2/\(seat c v i - 1) / c.2<=seat c v i - 1:=by
 obtain⟨h1,_⟩:=Lb (c:=c) (v:=v) (i:=i) (by omega);have hlt:=oA (c:=c) (v:=v) (i:=i) (by omega);obtain⟨c1,c2⟩:=ym h1;have hf:1<=c.2/\c.2<=6:=by
  unfold zA at h1;simp only[ahx,ahI] at h1;exact h1.2
 have hd0:0<=(seat c v i - 1) / c.2:=Int.ediv_nonneg (by omega) (by omega);have hd1:(seat c v i - 1) / c.2<=seat c v i - 1:=Int.ediv_le_self _ (by omega);refine⟨?_,by omega,hd0,hd1⟩;rw[zg (show -9223372036854775808<=seat c v i - 1 by omega) (by omega),ajE (by omega),zg (by omega) (by omega)]
theorem Be (c:za) (v i:Int):N2 (c,v,i,())=some (up c v i,()):=by
 unfold N2 up;dsimp only;rw[aD,ahu];by_cases h:seat c v i<=0
 ·simp only[h,ahB,ahw]
 ·obtain⟨e1,e2,_⟩:=BO h;simp only[h,ahG,ahv,e1];rw[if_neg e2,VK,ahu]
theorem RS {n a p:Int} (hn:4<=n/\n<=7) (ha:0<=a/\a<n) (hp:0<=p/\p<n):((a+p) % n+n - a) % n=p:=by
 have h:n=4∨n=5∨n=6∨n=7:=by omega
 rcases h with rfl|rfl|rfl|rfl<;>omega
theorem oB {c:za} {v i:Int} (h:0<=seat c v i):seat c v (up c v i)<seat c v i /\ -1<=seat c v (up c v i):=by
 obtain⟨h1,h2,h3,h4,h5⟩:=Lb h;have hlt:=oA h;obtain⟨c1,c2⟩:=ym h1;by_cases h0:seat c v i<=0
 ·have e:up c v i = -1:=by unfold up; simp only[h0,ahB,ahw]
  rw[e];have e2:seat c v (-1) = -1:=by unfold seat; simp
  rw[e2]; omega
 ·obtain⟨_,_,d0,d1⟩:=BO h0;obtain⟨p,hp⟩:∃ p,p=(seat c v i - 1) / c.2:=⟨_,rfl⟩
  rw[←hp] at d0 d1;have a1:0<=v % c.1:=Int.emod_nonneg _ (by omega);have a2:v % c.1<c.1:=Int.emod_lt_of_pos _ (by omega);have e:up c v i=(v % c.1+p) % c.1:=by
   unfold up sits;have k1:decide (v<0)=false:=decide_eq_false (by omega);have k2:decide (p≥0)=true:=decide_eq_true (by omega);have k3:decide (p<=c.1 - 1)=true:=decide_eq_true (by omega);simp only[h0,ahG,ahv,←hp,h1,k1,k2,k3,ahY,air,ahw]
  have b1:0<=(v % c.1+p) % c.1:=Int.emod_nonneg _ (by omega);have b2:(v % c.1+p) % c.1<c.1:=Int.emod_lt_of_pos _ (by omega);have e2:seat c v (up c v i)=((v % c.1+p) % c.1+c.1 - v % c.1) % c.1:=by
   rw[e];have k1:decide (v<0)=false:=decide_eq_false (by omega);have k2:decide ((v % c.1+p) % c.1≥0)=true:=decide_eq_true (by omega);have k3:decide ((v % c.1+p) % c.1<=c.1 - 1)=true:=decide_eq_true (by omega);unfold seat;simp only[h1,k1,k2,k3,ahY,air,ahw]
  have e3:((v % c.1+p) % c.1+c.1 - v % c.1) % c.1=p:=RS ⟨c1,c2⟩ ⟨a1,a2⟩ ⟨d0,by omega⟩;rw[e2,e3];omega
noncomputable def Jj (c:za) (v:Int):Nat->Int->List Int
 | 0,_=>[]
 | k+1,x=>bif decide (seat c v x≥0) then x::Jj c v k (up c v x) else []
noncomputable def y8 (c:za) (v x:Int):Nat:=(seat c v x+1).toNat
noncomputable def way (c:za) (v x:Int):List Int:=Jj c v (y8 c v x) x
theorem pw (c:za) (v:Int):∀ (k:Nat) (x:Int),y8 c v x<=k->Jj c v k x=way c v x
 | 0,x,h=>by
  unfold way;have:y8 c v x=0:=by omega
  rw[this]
 | k+1,x,h=>by
  unfold way;by_cases hs:seat c v x≥0
  ·have hm:y8 c v x=(seat c v x).toNat+1:=by unfold y8; omega
   obtain⟨u1,u2⟩:=oB hs;have hu:y8 c v (up c v x)<=(seat c v x).toNat:=by unfold y8; omega
   rw[hm];simp only[Jj,hs,ahB,ahw];rw[pw c v k _ (by omega),pw c v _ _ hu]
  ·have hm:y8 c v x=0:=by unfold y8; omega
   rw[hm];simp only[Jj,hs,ahG,ahv]
theorem WF {c:za} {v x:Int} (h:seat c v x≥0):way c v x=x::way c v (up c v x):=by
 obtain⟨u1,u2⟩:=oB h;have hm:y8 c v x=(seat c v x).toNat+1:=by unfold y8; omega
 have hu:y8 c v (up c v x)<=(seat c v x).toNat:=by unfold y8; omega
 show Jj c v (y8 c v x) x=_;rw[hm];simp only[Jj,h,ahB,ahw];rw[pw c v _ _ hu]
theorem WJ {c:za} {v x:Int} (h:¬ seat c v x≥0):way c v x=[]:=by
 have hm:y8 c v x=0:=by unfold y8; omega
 show Jj c v (y8 c v x) x=_;rw[hm]; rfl
theorem BX (c:za) (v:Int):∀ (k:Nat) (x:Int),(Jj c v k x).length<=k
 | 0,x=>by simp[Jj]
 | k+1,x=>by
  simp only[Jj];cases decide (seat c v x≥0)
  ·simp
  ·have:=BX c v k (up c v x);simp only[ahw,ahz]; omega
theorem pu (c:za) (v x:Int):y8 c v x<=7:=by
 unfold y8;by_cases h:0<=seat c v x
 ·have h1:=oA h;have:=ym (Lb h).1;omega
 ·omega
theorem WG (c:za) (v x:Int):(way c v x).length<=7:=Nat.le_trans (BX c v _ x) (pu c v x)
theorem WH (c:za) (v x:Int) {G:(Int×List Int×Unit->Option (List Int×Unit))->Int×List Int×Unit->Option (List Int×Unit)}
  (hon:∀ rec y out,seat c v y≥0->out.length<=7->G rec (y,out,())=rec (up c v y,out++[y],())) (abq:∀ rec y out,¬ seat c v y≥0->G rec (y,out,())=some (out,())):
  iter G fuel (x,[],())=some (way c v x,()):=by
 refine (Qd (λ y:Int×List Int×Unit=>some (y.2.1++way c v y.1,())) (λ y=>y8 c v y.1) (λ y=>y.2.1.length+y8 c v y.1<=7) ?_ fuel (x,[],()) (by simp only[ahA]; have:=pu c v x; omega)
  (by show y8 c v x<fuel; have:=pu c v x; have:=Jv (n:=7) (by decide); omega)).trans (by simp)
 rintro rec ⟨y,out,⟨⟩⟩ hI WW;simp only at hI ⊢;by_cases h:seat c v y≥0
 ·obtain⟨u1,u2⟩:=oB h;have hm:y8 c v (up c v y)<y8 c v y:=by unfold y8; omega
  rw[hon rec y out h (by omega),WW (up c v y,out++[y],()) (by simp only[ahD,ahz,ahA]; omega) hm,WF h]
  simp
 ·rw[abq rec y out h,WJ h]; simp
theorem VU (c:za) (v x:Int):fE (c,v,x,())=some (way c v x,()):=by
 unfold fE;refine WH c v x ?_ ?_
 ·intro rec y out h hl;simp only[aD,ahu,h,ahB,ahw,Be];rw[if_pos (by simp only[ahz,ahA]; omega)]
 ·intro rec y out h;simp only[aD,ahu,h,ahG,ahv]
noncomputable def Ms (c:za) (v i:Int):Nat->Nat->List Int->List Int
 | 0,_,out=>out
 | k+1,j,out=>Ms c v i k (j+1) (bif (way c v (j:Int)).any (· == i) then out++[(j:Int)] else out)
noncomputable def under (c:za) (v i:Int):List Int:=bif decide (seat c v i≥0) then Ms c v i c.1.toNat 0 [] else []
theorem BN (c:za) (v i:Int):∀ (k j:Nat) (out:List Int),(Ms c v i k j out).length<=out.length+k
 | 0,_,out=>by simp[Ms]
 | k+1,j,out=>by
  simp only[Ms];have:=BN c v i k (j+1) (bif (way c v (j:Int)).any (· == i) then out++[(j:Int)] else out);cases h:(way c v (j:Int)).any (· == i)
  ·rw[h] at this; simp only[ahv] at this ⊢; omega
  ·rw[h] at this; simp only[ahw,ahD,ahz,ahA] at this ⊢; omega
theorem Wx (c:za) (v i:Int):(under c v i).length<=7:=by
 unfold under;by_cases h:seat c v i≥0
 ·have h1:=ym (Lb h).1;have:=BN c v i c.1.toNat 0 [];simp only[h,ahB,ahw,ahA] at this ⊢;omega
 ·simp only[h,ahG,ahv,ahA]; omega
theorem Wy (c:za) (v i:Int) (hs:seat c v i≥0) {G:(List Int×Int×Unit->Option (List Int×Unit))->List Int×Int×Unit->Option (List Int×Unit)}
  (hon:∀ (rec:List Int×Int×Unit->Option (List Int×Unit)) (j:Nat) out,(j:Int)<c.1->out.length<=7->G rec (out,(j:Int),())=rec ((bif (way c v (j:Int)).any (· == i) then out++[(j:Int)] else out),(j:Int)+1,()))
  (abq:∀ (rec:List Int×Int×Unit->Option (List Int×Unit)) out,G rec (out,c.1,())=some (out,())):
  iter G fuel ([],0,())=some (under c v i,()):=by
 obtain⟨c1,c2⟩:=ym (Lb hs).1;obtain⟨n,hn⟩:∃ n:Nat,c.1=(n:Int):=⟨c.1.toNat,by omega⟩
 have e:under c v i=Ms c v i n 0 []:=by
  unfold under;simp only[hs,ahB,ahw,hn,ahH]
 rw[e];refine (walk n (λ j (out:List Int)=>(out,j,())) (λ j out=>out.length<=j) (λ j out=>some (Ms c v i (n - j) j out,())) (by omega) ?_ ?_ (s0:=[]) (by simp)).trans (by simp)
 ·intro rec out _;have:=abq rec out;rw[hn] at this;rw[this,Nat.sub_self];rfl
 ·intro rec j out hj hI;refine .inr ⟨_,?_,hon rec j out (by omega) (by omega),?_⟩
  ·cases (way c v (j:Int)).any (· == i)
   ·simp only[ahv]; omega
   ·simp only[ahw,ahD,ahz,ahA]; omega
  ·rw[show n - j=(n - (j+1))+1 by omega]; rfl
theorem VT (c:za) (v i:Int):fD (c,v,i,())=some (under c v i,()):=by
 unfold fD;dsimp only;rw[YM,ahu];by_cases hs:seat c v i≥0
 ·rw[(Lb hs).1];simp only[ahC,ahv];obtain⟨c1,c2⟩:=ym (Lb hs).1;refine Wy c v i hs ?_ ?_
  ·intro rec j out hj hl;have hw:=WG c v (j:Int);simp only[hj,ahB,ahw,aD,ahu,hs,VU,Yg _ i (show (way c v (j:Int)).length<=1152921504606846976 by omega),zt (show j<4611686018427387904 by omega)];cases (way c v (j:Int)).any (· == i)
   ·rfl
   ·simp only[ahw];rw[if_pos (by simp only[ahz,ahA]; omega)]
  ·intro rec out;simp only[ai0,ahG,ahv]
 ·have e:under c v i=[]:=by unfold under; simp only[hs,ahG,ahv]
  rw[e];cases h:zA c
  ·rfl
  ·simp only[ahC,ahv];obtain⟨c1,c2⟩:=ym h;obtain⟨m,hm⟩:∃ m,fuel=m+1:=⟨fuel - 1,by have:=Jv (n:=7) (by decide); omega⟩
   rw[hm];simp only[iter,show (0:Int)<c.1 by omega,ahB,ahw,aD,ahu,hs,ahG,ahv]
def KI (a b:List Int):Nat:=a.countP λ x=>b.any (· == x)
theorem G8 (a b:List Int) (ha:a.length<=1152921504606846976) {G:(Int×Int×Unit->Option (Int×Unit))->Int×Int×Unit->Option (Int×Unit)}
  (hon:∀ (rec:Int×Int×Unit->Option (Int×Unit)) (j k:Nat) (h:j<a.length),k<=j->G rec ((k:Int),(j:Int),())=rec (((k+(if b.any (· == a[j]) then 1 else 0):Nat):Int),(j:Int)+1,()))
  (abq:∀ (rec:Int×Int×Unit->Option (Int×Unit)) (k:Nat),G rec ((k:Int),(a.length:Int),())=some ((k:Int),())):
  iter G fuel (0,0,())=some ((KI a b:Int),()):=by
 refine (walk a.length (λ j (k:Nat)=>((k:Int),j,())) (λ j k=>k<=j) (λ j k=>some (((k+KI (a.drop j) b:Nat):Int),())) (by omega) ?_ ?_ (s0:=0) (Nat.le_refl _)).trans (by simp)
 ·intro rec k _;rw[abq rec k,ai7];simp[KI]
 ·intro rec j k hj hI;refine .inr ⟨k+(if b.any (· == a[j]) then 1 else 0),by split<;>omega,hon rec j k hj hI,?_⟩
  rw[ahP hj];simp only[KI,List.countP_cons];congr 3;omega
theorem Vk (a b:List Int) (ha:a.length<=1073741824) (hb:b.length<=1073741824):eK (a,b,())=some ((KI a b:Int),()):=by
 unfold eK;refine G8 a b (by omega) ?_ ?_
 ·intro rec j k hj hk;have hx:a[j]?=some a[j]:=List.getElem?_eq_getElem hj;simp only[zu hj,decide_true,cond_true,and_self,if_true,Int.toNat_natCast,zq (e:=.i64) hx,Yg b a[j] (by omega),Option.bind_some,zt (show j<4611686018427387904 by omega),oZ];cases b.any (· == a[j])
  ·simp only[ahv,ahu,Int.add_zero,ahT,if_false,aiD];rw[zg (by omega) (by omega)]
  ·simp only[ahw,ahu,if_true];rw[zt (show k<4611686018427387904 by omega)];rfl
 ·intro rec k;simp only[ai0,ahG,ahv]
def yF (r:zb) (v:Int):zb:=(r.1,v,r.2.2)
theorem sM {c:za} {r:zb} {v:Int} (h:zf c r=true) (hv:1<=v/\v<=60):zf c (yF r v)=true:=by
 obtain⟨a,v0,k,sf,pool,tab,dk,held⟩:=r;show zf c (a,v,k,sf,pool,tab,dk,held)=true;unfold zf at h ⊢;simp only[ahx,ahI] at h ⊢;exact⟨h.1,h.2.1,hv,h.2.2.2⟩
noncomputable def top (c:za) (r:zb) (q:zJ):zb×Bool:=
 bif !(zx c r (see c r.2.2.2.1 q)).2 then (r,false) else
 bif decide (q.1+1>60) then ((zx c r (see c r.2.2.2.1 q)).1,true) else
 bif yY c (q.1+1)==r.1 then (yF (zx c r (see c r.2.2.2.1 q)).1 (max (zx c r (see c r.2.2.2.1 q)).1.2.1 (q.1+1)),true) else
 Zo c (yF (zx c r (see c r.2.2.2.1 q)).1 (max (zx c r (see c r.2.2.2.1 q)).1.2.1 (q.1+1))) (yY c (q.1+1)) (3,q.1+1,([],0,[],[]),(0,[],[]),q,r.1,0,0,0,0)
theorem pz {c:za} {r:zb} {s:zI} (hr:zf c r=true) (h:(zx c r s).2=true):zf c (zx c r s).1=true/\(zx c r s).1.1=r.1/\(zx c r s).1.2.1=r.2.1:=by
 unfold zx at *;cases h1:Kg r.2.2.2.1 s
 ·rw[h1] at h;cases h2:(Zr r.2.2.2.2.2.2.1 (Zw c s)).2
  ·rw[h2] at h; cases h
  ·cases h3:yj c s
   ·rw[h2,h3] at h; cases h
   ·simp only[ahv,air,ahw];exact⟨by rw[WL hr (Gc h2),h3],rfl,rfl⟩
 ·exact⟨hr,rfl,rfl⟩
theorem RH {c:za} {q:zJ} (h:yg c q=true):0<=q.1/\q.1<=60:=by
 unfold yg at h;simp only[ahx,ai4] at h;obtain⟨_,hn,hv,_⟩:=h;by_cases h0:q.2.1=[]
 ·have:=tT.2;rw[←h0,hv] at this;omega
 ·have:=Qm hn h0;omega
theorem tQ (q:zJ) (v me:Int):zh (3,v,([],0,[],[]),(0,[],[]),q,me,0,0,0,0)=zi q:=by
 simp[zh,zB,zk,zi,zn]
theorem WA (c:za) (r:zb) (s:zI):ze (zx c r s).1<=ze r+zC s+(r.2.2.2.2.2.2.1.1.length+(Zw c s).length):=by
 unfold zx;cases Kg r.2.2.2.1 s
 ·cases h2:((Zr r.2.2.2.2.2.2.1 (Zw c s)).2 && yj c s)
  ·simp only[ahv]; omega
  ·simp only[ahv,ahw];have:=WM r s (Zr r.2.2.2.2.2.2.1 (Zw c s)).1;have h3:(Zr r.2.2.2.2.2.2.1 (Zw c s)).1.1.length<=r.2.2.2.2.2.2.1.1.length+(Zw c s).length:=by
    unfold Zr;split
    ·simp
    ·simp
   omega
 ·simp only[ahw]; omega
theorem l9 (c:za) (r:zb) (s:zI):ze (zx c r s).1<=40+2*ze r+6*zC s:=by
 have h1:=WA c r s;have h3:=tW c s;have h4:r.2.2.2.2.2.2.1.1.length<=ze r:=by simp only[ze,JM]; omega
 omega
theorem WS (c:za) (r:zb) (q:zJ):ze (zx c r (see c r.2.2.2.1 q)).1<=40+8*ze r+12*zi q:=by
 have h1:=l9 c r (see c r.2.2.2.1 q);have h2:=QZ c r.2.2.2.1 q;have h4:zC r.2.2.2.1<=ze r:=by simp only[ze]; omega
 omega
theorem VY (c:za) (r:zb) (p:zH) (WX:zf c r=true) (hr:ze r<=20000000) (hp:zk p<=20000000):
  fR (c,r,p,())=some ((bif (Y6 c p).2 then top c r p else (r,false)).1,(bif (Y6 c p).2 then top c r p else (r,false)).2,()):=by
 have hs:zC r.2.2.2.1<=20000000:=by simp only[ze] at hr; omega
 have hpq:zi p<=20000000:=hp;unfold fR;dsimp only;rw[Vz c p (by omega),ahu];cases h:(Y6 c p).2
 ·rfl
 ·obtain⟨e,hq⟩:=Rr h;have hv:=RH hq;have aeP:=QZ c r.2.2.2.1 p;have hww:=WS c r p;dsimp only;simp only[ahC,ahv,ahw];rw[e,fk c r.2.2.2.1 p (by omega) (by omega),ahu,aV c r (see c r.2.2.2.1 p) (by omega) (by omega),ahu,zg (show -9223372036854775808<=p.1+1 by omega) (by omega)];unfold top;cases hw:(zx c r (see c r.2.2.2.1 p)).2
  ·rfl
  ·obtain⟨o1,o2,o3⟩:=pz WX hw;simp only[ahC,ahv,ahw,Mm,Mb,ahu];cases decide (p.1+1>60)
   ·simp only[ahv];cases (yY c (p.1+1)==r.1)
    ·simp only[ahv];have hm:=tQ p (p.1+1) r.1;rw[fQ c _ _ _ (QP WX) (by show ze (yF (zx c r (see c r.2.2.2.1 p)).1 _)<=_; simp only[yF,ze] at hww hr ⊢; omega) (by omega),Option.bind_some]
     rfl
    ·rfl
   ·rfl
noncomputable def YS (c:za) (r:zb) (v:Int) (name:List UInt8) (force:Bool):zb×Bool:=
 bif (((jt r.2.2.2.2.2.1 v name).2.2.length:Int)==0) then (r,false) else bif name==[] then (r,false) else
 bif yY c v==r.1 then (bif (Y6 c (jt r.2.2.2.2.2.1 v name)).2 then top c r (jt r.2.2.2.2.2.1 v name) else (r,false)) else
 bif !force && decide ((KI (under c v r.1) (jt r.2.2.2.2.2.1 v name).2.2:Int)<((under c v r.1).length:Int)) then (r,false) else
 Zo c r (up c v r.1) (2,0,([],0,[],[]),jt r.2.2.2.2.2.1 v name,(0,[],[]),0,0,0,0,0)
noncomputable def climb (c:za) (r:zb) (v:Int) (name:List UInt8) (force:Bool):zb×Bool:=
 bif zf c r && (YS c r v name force).2 then ((YS c r v name force).1,true) else (r,false)
theorem Wd (l:ya) (v:Int) (name:List UInt8):zk (jt l v name)<=zF l+name.length:=by
 unfold jt;cases h:l.find? (λ p=>p.1==v && p.2.1==name) with
 | none=>simp[zk,zn]
 | some p=>
  have:=ZF zk (List.mem_of_find?_eq_some h);simp only[zF]; omega
theorem PV (p:zH):zh (2,0,([],0,[],[]),p,(0,[],[]),0,0,0,0,0)=zk p:=by
 simp[zh,zB,zk,zi,zn]
theorem oY (c:za) (r:zb) (v:Int) (name:List UInt8) (force:Bool) (WX:zf c r=true) (hr:ze r<=15000000) (hn:name.length<=5000000):
  N9 (c,r,v,name,force,())=some ((YS c r v name force).1,(YS c r v name force).2,()):=by
 have ht:zF r.2.2.2.2.2.1<=15000000:=by simp only[ze] at hr; omega
 have hg:=Wd r.2.2.2.2.2.1 v name;have hl:(jt r.2.2.2.2.2.1 v name).2.2.length<=20000000:=by
  have:(jt r.2.2.2.2.2.1 v name).2.2.length<=zk (jt r.2.2.2.2.2.1 v name):=by simp only[zk,zn]; omega
  omega
 have hu:=Wx c v r.1;unfold N9 YS;dsimp only;rw[oV _ v name (by omega),ahu];generalize hP:jt r.2.2.2.2.2.1 v name=p at *;dsimp only;cases ((p.2.2.length:Int)==0)
 ·simp only[ahv];cases (name==([]:List UInt8))
  ·simp only[ahv,Mb,ahu];cases (yY c v==r.1)
   ·simp only[ahv,VT,ahu,Vk _ p.2.2 (show (under c v r.1).length<=1073741824 by omega) (by omega),Be];have hm:=PV p;rw[fQ c r _ _ (QP WX) (by omega) (by omega)];cases force
    ·simp only[ahY,ahw,ahU];cases decide ((KI (under c v r.1) p.2.2:Int)<((under c v r.1).length:Int))<;>rfl
    ·rfl
   ·simp only[ahw];rw[VY c r p WX (by omega) (by omega),ahu]
  ·rfl
 ·rfl
theorem Vj (c:za) (r:zb) (v:Int) (name:List UInt8) (force:Bool) (hr:ze r<=15000000) (hn:name.length<=5000000):
  aj (c,r,v,name,force,())=some ((climb c r v name force).1,(climb c r v name force).2,()):=by
 unfold aj climb;dsimp only;rw[Z0 c r (by omega),ahu,Zm r (by omega),ahu,ahu];cases WX:zf c r
 ·rfl
 ·simp only[ahC,ahv,ahU];rw[oY c r v name force WX hr hn,ahu];cases (YS c r v name force).2<;>rfl
theorem Ay (l:List Int) (x:Int) (i:Nat) (hi:i<=l.length) (hl:l.length<=137438953472):
  ((if (((0:Int)<=0)/\((0<=(i:Int))/\((i:Int)<=(((List.length l):Nat):Int)))) then (if (((0+(List.length (List.take ((Int.toNat (i:Int)) - (Int.toNat 0)) (List.drop (Int.toNat 0) l))))*8)<=70368744177664) then (if ((((List.length ([]++(List.take ((Int.toNat (i:Int)) - (Int.toNat 0)) (List.drop (Int.toNat 0) l))))+(List.length (x::[])))*8)<=70368744177664) then (if ((0<=(i:Int))/\(((i:Int)<=(((List.length l):Nat):Int))/\((((List.length l):Nat):Int)<=(((List.length l):Nat):Int)))) then (if ((((List.length (([]++(List.take ((Int.toNat (i:Int)) - (Int.toNat 0)) (List.drop (Int.toNat 0) l)))++(x::[])))+(List.length (List.take ((Int.toNat (((List.length l):Nat):Int)) - (Int.toNat (i:Int))) (List.drop (Int.toNat (i:Int)) l))))*8)<=70368744177664) then some (((([]++(List.take ((Int.toNat (i:Int)) - (Int.toNat 0)) (List.drop (Int.toNat 0) l)))++(x::[]))++(List.take ((Int.toNat (((List.length l):Nat):Int)) - (Int.toNat (i:Int))) (List.drop (Int.toNat (i:Int)) l))),()) else none) else none) else none) else none) else none):Option (List Int×Unit))=some (l.take i++x::l.drop i,()):=by
 have h1:(l.take i).length=i:=by rw[ahM]; omega
 have h2:(l.drop i).length=l.length - i:=List.length_drop;have h3:(l.drop i).take (l.length - i)=l.drop i:=List.take_of_length_le (by rw[h2]; exact Nat.le_refl _)
 simp only[ahH,show Int.toNat 0=0 from rfl,aiT,ahV,ahS,h3,ahD,h1,h2,ahz,ahA];rw[if_pos ⟨by omega,by omega,by omega⟩,if_pos (by omega),if_pos (by omega),if_pos ⟨by omega,by omega,by omega⟩,if_pos (by omega)];simp
noncomputable def af (l:List Int) (x:Int):Nat:=yc (λ y=>decide (y≥x)) 0 l
noncomputable def ZX (l:List Int) (x:Int):List Int:=bif l.any (· == x) then l else l.take (af l x)++x::l.drop (af l x)
theorem aE (l:List Int) (x:Int) (hl:l.length<=137438953472):Z1 (l,x,())=some (ZX l x,()):=by
 unfold Z1 ZX;dsimp only;rw[Yg l x (by omega),ahu];dsimp only;cases l.any (· == x)
 ·simp only[ahv];unfold af;refine (walk l.length (λ i (_:Unit)=>(i,())) (λ _ _=>True) (λ i _=>some (l.take (yc (λ y=>decide (y≥x)) i (l.drop i))++x::l.drop (yc (λ y=>decide (y≥x)) i (l.drop i)),())) (by omega) ?_ ?_ (s0:=()) trivial).trans (by simp only[ahV])
  ·intro rec s _;have e:=Ay l x l.length (Nat.le_refl _) hl;rw[ai7] at e ⊢;simp only[ai0,ahG,ahv,yc];rw[ai7];exact e
  ·intro rec i s hi _;have hx:l[i]?=some l[i]:=List.getElem?_eq_getElem hi;have e:=Ay l x i (Nat.le_of_lt hi) hl;have hd0:decide ((i:Int)<((l.length:Nat):Int))=true:=decide_eq_true (by omega);have hr:rd .i64 l (Int.toNat (i:Int))=l[i]:=zq (e:=.i64) hx;dsimp only;by_cases hlt:l[i]<x
   ·right;have hd:decide (l[i]≥x)=false:=decide_eq_false (by omega);refine⟨(),trivial,?_,?_⟩
    ·rw[hd0,ahw,if_pos (zu hi),hr,decide_eq_true hlt,ahw,zt (show i<4611686018427387904 by omega)]
    ·rw[ahP hi];simp only[yc,hd,ahv]
   ·left;have hd:decide (l[i]≥x)=true:=decide_eq_true (by omega);rw[hd0,ahw,if_pos (zu hi),hr,decide_eq_false hlt,ahv];refine e.trans ?_;rw[show yc (λ y=>decide (y≥x)) i (l.drop i)=i by rw[ahP hi]; simp only[yc,hd,ahw]]
 ·simp only[ahw,ahS];rw[if_pos (by omega)]
theorem ac (l:List Int) (x:Int):(ZX l x).length<=l.length+1:=by
 have hle:af l x<=l.length:=by have:=(LE (λ y=>decide (y≥x)) l 0).2; unfold af; omega
 unfold ZX;cases l.any (· == x)
 ·simp only[ahv,ahD,ahz,ahM,ahQ]; omega
 ·simp only[ahw]; omega
noncomputable def eA (a b:List Int):List Int:=b.foldl ZX (a.foldl ZX [])
theorem oH:∀ (l s:List Int),(l.foldl ZX s).length<=s.length+l.length
 | [],s=>by simp
 | x::l,s=>by
  have h1:=ac s x;have h2:=oH l (ZX s x);simp only[aig,ahz]; omega
theorem Ux (a b:List Int):(eA a b).length<=a.length+b.length:=by
 have h1:=oH a [];have h2:=oH b (a.foldl ZX []);simp only[eA,ahA] at *; omega
theorem sW {K:List Int->Option (List Int×Unit)} (l s0:List Int) (hl:l.length<=1152921504606846976) {G:(List Int×Int×Unit->Option (List Int×Unit))->List Int×Int×Unit->Option (List Int×Unit)}
  (hon:∀ (rec:List Int×Int×Unit->Option (List Int×Unit)) (i:Nat) (s:List Int) (h:i<l.length),s.length<=s0.length+i->G rec (s,(i:Int),())=rec (ZX s l[i],(i:Int)+1,()))
  (abq:∀ (rec:List Int×Int×Unit->Option (List Int×Unit)) (s:List Int),s.length<=s0.length+l.length->G rec (s,(l.length:Int),())=K s):
  iter G fuel (s0,0,())=K (l.foldl ZX s0):=by
 refine (walk l.length (λ i (s:List Int)=>(s,i,())) (λ i s=>s.length<=s0.length+i) (λ i s=>K ((l.drop i).foldl ZX s)) hl ?_ ?_ (s0:=s0) (by simp)).trans (by simp only[ahV])
 ·intro rec s hI;rw[abq rec s hI,ai7];rfl
 ·intro rec i s hi hI;have:=ac s l[i];exact .inr ⟨ZX s l[i],by omega,hon rec i s hi hI,by rw[ahP hi]; rfl⟩
theorem VI (a b:List Int) (ha:a.length<=1073741824) (hb:b.length<=1073741824):fl (a,b,())=some (eA a b,()):=by
 unfold fl;refine sW (K:=λ s=>some (b.foldl ZX s,())) a [] (by omega) ?_ ?_
 ·intro rec i s hi hI;have hx:a[i]?=some a[i]:=List.getElem?_eq_getElem hi;simp only[ahA] at hI;simp only[zu hi,decide_true,cond_true,and_self,if_true,Int.toNat_natCast,zq (e:=.i64) hx,aE s a[i] (by omega),Option.bind_some,zt (show i<4611686018427387904 by omega)]
 ·intro rec s hI;simp only[ahA] at hI;simp only[ai0,ahG,ahv];refine sW (K:=λ s=>some (s,())) b s (by omega) ?_ ?_
  ·intro rec i s2 hi hI2;have hx:b[i]?=some b[i]:=List.getElem?_eq_getElem hi;simp only[zu hi,decide_true,cond_true,and_self,if_true,Int.toNat_natCast,zq (e:=.i64) hx,aE s2 b[i] (by omega),Option.bind_some,zt (show i<4611686018427387904 by omega)]
  ·intro rec s2 _;simp only[ai0,ahG,ahv]
noncomputable def JB (a b:zH):zH×Bool:=bif a.1==b.1 && a.2.1==b.2.1 then ((a.1,a.2.1,eA a.2.2 b.2.2),true) else ((0,[],[]),false)
theorem Vy (a b:zH) (ha:zk a<=1073741824) (hb:zk b<=1073741824):eZ (a,b,())=some ((JB a b).1,(JB a b).2,()):=by
 have h1:a.2.2.length<=1073741824/\b.2.2.length<=1073741824:=by simp only[zk,zn] at ha hb; omega
 unfold eZ JB;dsimp only;rw[VI _ _ h1.1 h1.2,ahu];simp only[bne];cases (a.1==b.1)<;>cases (a.2.1==b.2.1)<;>rfl
theorem Rq (a b:zH):zk (JB a b).1<=zk a+zk b:=by
 have h:=Ux a.2.2 b.2.2;unfold JB;cases (a.1==b.1 && a.2.1==b.2.1)
 ·simp[zk,zn]
 ·simp only[ahw,zk,zn]; omega
noncomputable def Z2 (p:zH):ya->ya
 | []=>[p]
 | q::r=>bif ZK q p then q::Z2 p r else bif (JB q p).2 then (JB q p).1::r else p::q::r
theorem gt (p:zH):∀ (l:ya),zF (Z2 p l)<=zF l+zk p+1
 | []=>by simp[Z2,zF]; omega
 | q::r=>by
  have h:=gt p r;have h2:=Rq q p;simp only[Z2];cases ZK q p
  ·cases (JB q p).2
   ·simp only[ahv,zF,ahz,ahN,aib]; omega
   ·simp only[ahv,ahw,zF,ahz,ahN,aib]; omega
  ·simp only[ahw,zF,ahz,ahN,aib] at h ⊢; omega
noncomputable def zT (c:za) (l:ya) (p:zH):ya×Bool:=bif jc c p && jA c (Z2 p l) then (Z2 p l,true) else (l,false)
theorem BV (a b:ya):zF (a++b)=zF a+zF b:=by
 simp only[zF,ahD,ajb,List.sum_append]; omega
theorem qp (a:ya):a.length<=zF a:=by unfold zF; omega
def TabI (l:ya) (p:zH) (i:Nat) (s:ya×Bool):Prop:=
 (s.2=true/\s.1++l.drop i=Z2 p l)∨(s.2=false/\s.1++Z2 p (l.drop i)=Z2 p l)
theorem TabI.w {l:ya} {p:zH} {i:Nat} {s:ya×Bool} (h:TabI l p i s):zF s.1<=zF l+zk p+1:=by
 have h0:=gt p l;rcases h with⟨_,h⟩|⟨_,h⟩<;>rw[←h,BV] at h0<;>omega
theorem aI (c:za) (l:ya) (p:zH) (hl:zF l<=100000000) (hp:zk p<=100000000):Lg (c,l,p,())=some ((zT c l p).1,(zT c l p).2,()):=by
 have hll:=qp l;have htw:=gt p l;have XG:∀ out:ya,out=Z2 p l->((Me (c,out,())).bind λ r10=>(bif (!r10.1) then ((JJ (l,())).bind λ r11=>some (r11.1,(false,()))) else ((Km (c,(p,()))).bind λ r12=>(bif (!r12.1) then ((JJ (l,())).bind λ r13=>some (r13.1,(false,()))) else some (out,(true,()))))))=some ((zT c l p).1,(zT c l p).2,()):=by
  intro out ho;subst ho;rw[Bb c _ (by omega),ahu,Bi l (by omega),ax c p (by omega)];unfold zT;cases jA c (Z2 p l)<;>cases jc c p<;>rfl
 unfold Lg;dsimp only;refine walk l.length (λ i (s:ya×Bool)=>(s.1,s.2,i,())) (λ i s=>TabI l p i s) (λ _ _=>some ((zT c l p).1,(zT c l p).2,())) (by omega) ?_ ?_ (s0:=([],false)) (.inr ⟨rfl,rfl⟩)
 ·rintro rec ⟨out,put⟩ hI;have hw:=hI.w;have hol:=qp out;unfold TabI at hI;rw[ai7] at hI;simp only[ai0,ahG,ahv];cases put
  ·rcases hI with⟨h,_⟩|⟨_,h⟩
   ·cases h
   ·simp only[ahY,ahw];rw[Mg p (by omega),Option.bind_some,if_pos (by simp only[ahz,ahA]; simp only at hw hol; omega)]
    exact XG (out++[p]) h
  ·rcases hI with⟨_,h⟩|⟨h,_⟩
   ·simp only[ahC,ahv];exact XG out (by simpa using h)
   ·cases h
 ·rintro rec i ⟨out,put⟩ hi hI;have hx:l[i]?=some l[i]:=List.getElem?_eq_getElem hi;have hpw:zk l[i]<=100000000:=Mt hl hx;have hw:=hI.w;have hol:=qp out;simp only at hw hol;unfold TabI at hI;rw[ahP hi] at hI;right;simp only[zu hi,decide_true,cond_true,and_self,if_true,Int.toNat_natCast,zq (e:=Jk) hx,Mg l[i] (by omega),Option.bind_some,zt (show i<4611686018427387904 by omega)];cases put
  ·rcases hI with⟨h,_⟩|⟨_,h⟩
   ·cases h
   ·simp only[ahY,ahw,Bh,ahu];simp only[Z2] at h;cases hb:ZK l[i] p
    ·rw[hb] at h;simp only[ahv] at h;simp only[Bool.not_false,cond_true,Vy l[i] p (by omega) (by omega),Option.bind_some,Mg p (show zk p<=137438953472 by omega)];cases hj:(JB l[i] p).2
     ·rw[hj] at h;simp only[ahv] at h ⊢;rw[if_pos (by simp only[ahz,ahA]; omega),if_pos (by simp only[ahD,ahz,ahA]; omega)]
      exact⟨(out++[p]++[l[i]],true),.inl ⟨rfl,by simpa using h⟩,rfl,trivial⟩
     ·rw[hj] at h;simp only[ahw] at h ⊢;rw[if_pos (by simp only[ahz,ahA]; omega)]
      exact⟨(out++[(JB l[i] p).1],true),.inl ⟨rfl,by simpa using h⟩,rfl,trivial⟩
    ·rw[hb] at h;simp only[ahw] at h;simp only[ahC,ahv];rw[if_pos (by simp only[ahz,ahA]; omega)]
     exact⟨(out++[l[i]],false),.inr ⟨rfl,by simpa using h⟩,rfl,trivial⟩
  ·rcases hI with⟨_,h⟩|⟨h,_⟩
   ·simp only[ahC,ahv];rw[if_pos (by simp only[ahz,ahA]; omega)]
    exact⟨(out++[l[i]],true),.inl ⟨rfl,by simpa using h⟩,rfl,trivial⟩
   ·cases h
def jl (r:zb) (t:ya):zb:=(r.1,r.2.1,r.2.2.1,r.2.2.2.1,r.2.2.2.2.1,t,r.2.2.2.2.2.2)
theorem gF {c:za} {r:zb} {t:ya} (h:zf c r=true) (ht:jA c t=true):zf c (jl r t)=true:=by
 obtain⟨a,v,k,sf,pool,tab,dk,held⟩:=r;show zf c (a,v,k,sf,pool,t,dk,held)=true;unfold zf at h ⊢;simp only[ahx] at h ⊢;obtain⟨a1,a2,a3,a4,a5,a6,a7,a8⟩:=h;exact⟨a1,a2,a3,a4,a5,a6,ht,a8⟩
theorem qi {c:za} {l:ya} {p:zH} (h:(zT c l p).2=true):jA c (zT c l p).1=true:=by
 unfold zT at *;cases h1:(jc c p && jA c (Z2 p l))
 ·rw[h1] at h; cases h
 ·simp only[ahx] at h1;exact h1.2
theorem gu (c:za) (l:ya) (p:zH):zF (zT c l p).1<=zF l+zk p+1:=by
 have h:=gt p l;unfold zT;cases (jc c p && jA c (Z2 p l))
 ·simp only[ahv]; omega
 ·exact h
noncomputable def M2 (c:za) (r:zb) (p:zH):zb×Bool:=
 bif !zf c r then (r,false) else bif !jc c p then (r,false) else bif p.2.1==[] then (r,false) else bif decide (p.1<r.2.1) then (r,false) else
 bif !(zT c r.2.2.2.2.2.1 p).2 then (r,false) else ((climb c (jl r (zT c r.2.2.2.2.2.1 p).1) p.1 p.2.1 false).1,true)
theorem Vp (c:za) (r:zb) (p:zH) (hr:ze r<=2000000) (hp:zk p<=2000000):eT (c,r,p,())=some ((M2 c r p).1,(M2 c r p).2,()):=by
 have ht:zF r.2.2.2.2.2.1<=2000000:=by simp only[ze] at hr; omega
 have hw:=gu c r.2.2.2.2.2.1 p;have hn:p.2.1.length<=2000000:=by simp only[zk] at hp; omega
 have hwr:ze (jl r (zT c r.2.2.2.2.2.1 p).1)<=15000000:=by simp only[jl,ze] at *; omega
 unfold eT M2;dsimp only;rw[Zm r (by omega),ahu,Z0 c r (by omega),ahu,ax c p (by omega),ahu,ahu,aI c r.2.2.2.2.2.1 p (by omega) (by omega),ahu];cases WX:zf c r
 ·rfl
 cases jc c p
 ·rfl
 cases (p.2.1==([]:List UInt8))
 ·cases decide (p.1<r.2.1)
  ·cases hta:(zT c r.2.2.2.2.2.1 p).2
   ·rfl
   ·have acb:=gF (t:=(zT c r.2.2.2.2.2.1 p).1) WX (qi hta);simp only[ahC,ahv];show ((yv (jl r (zT c r.2.2.2.2.2.1 p).1,())).bind _)=_;rw[Zm _ (by omega),ahu];dsimp only;rw[oY c _ p.1 p.2.1 false acb hwr (by omega),ahu];unfold climb;rw[acb];cases (YS c (jl r (zT c r.2.2.2.2.2.1 p).1) p.1 p.2.1 false).2<;>rfl
  ·rfl
 ·rfl
noncomputable def J2 (c:za) (s:zI) (b:y0):Bool:=yj c s && (jE c b && (decide (zm b.1>s.1) && decide (b.2.1≥s.2.1)))
theorem A4 (c:za) (s:zI) (b:y0) (hs:zC s<=137438953472) (hb:zB b<=137438953472):au (c,s,b,())=some (J2 c s b,()):=by
 have h1:b.1.length<=137438953472:=by simp only[zB] at hb; omega
 unfold au J2;dsimp only;rw[NV c s hs,ahu,eI c b hb,ahu,YP b.1 h1,ahu];cases yj c s<;>cases jE c b<;>cases decide (zm b.1>s.1)<;>rfl
noncomputable def vote (c:za) (s:zI) (b:y0):zI:=bif J2 c s b then (zm b.1,s.2) else s
theorem Bf (c:za) (s:zI) (b:y0) (hs:zC s<=137438953472) (hb:zB b<=137438953472):N3 (c,s,b,())=some (vote c s b,J2 c s b,()):=by
 have h1:b.1.length<=137438953472:=by simp only[zB] at hb; omega
 unfold N3 vote;dsimp only;rw[fG s hs,ahu,A4 c s b hs hb,ahu,YP b.1 h1,ahu];cases J2 c s b<;>rfl
theorem BU (c:za) (s:zI) (b:y0):zC (vote c s b)<=zC s:=by
 unfold vote;cases J2 c s b
 ·exact Nat.le_refl _
 ·exact Nat.le_refl _
noncomputable def voted (c:za) (r0 w:zb) (name:List UInt8):zb×Bool:=
 bif !(zT c w.2.2.2.2.2.1 (zm name,name,[w.1])).2 then (r0,false) else ((climb c (jl w (zT c w.2.2.2.2.2.1 (zm name,name,[w.1])).1) (zm name) name false).1,true)
noncomputable def LH (c:za) (r:zb) (b:y0):zb×Bool:=
 bif !zf c r then (r,false) else bif !jE c b then (r,false) else
 bif decide (zm b.1≥r.2.1) then
  (bif !(zx c (yF r (zm b.1)) (vote c (see c r.2.2.2.1 b.2) b)).2 then (r,false) else
   bif !J2 c (see c r.2.2.2.1 b.2) b then ((zx c (yF r (zm b.1)) (vote c (see c r.2.2.2.1 b.2) b)).1,true) else
   voted c r (zx c (yF r (zm b.1)) (vote c (see c r.2.2.2.1 b.2) b)).1 b.1)
 else (bif !(zx c r (see c r.2.2.2.1 b.2)).2 then (r,false) else ((zx c r (see c r.2.2.2.1 b.2)).1,true))
theorem pp (v me:Int) (name:List UInt8):zk (v,name,[me])=name.length+1:=by simp[zk,zn]
theorem V0 (c:za) (w:zb) (name:List UInt8) (WX:zf c w=true) (hw:ze w<=13000000) (hn:name.length<=1100000):
  Mj (c,w,name,())=some ((voted c w w name).1,(voted c w w name).2,()):=by
 have ht:zF w.2.2.2.2.2.1<=13000000:=by simp only[ze] at hw; omega
 have hp:=pp (zm name) w.1 name;have hta:=gu c w.2.2.2.2.2.1 (zm name,name,[w.1]);have hwr:ze (jl w (zT c w.2.2.2.2.2.1 (zm name,name,[w.1])).1)<=15000000:=by simp only[jl,ze] at *; omega
 unfold Mj voted;dsimp only;rw[YP name (by omega),ahu];dsimp only;rw[aI c w.2.2.2.2.2.1 (zm name,name,[w.1]) (by omega) (by omega),Option.bind_some];cases h:(zT c w.2.2.2.2.2.1 (zm name,name,[w.1])).2
 ·rfl
 ·have acb:=gF (t:=(zT c w.2.2.2.2.2.1 (zm name,name,[w.1])).1) WX (qi h);simp only[ahC,ahv];show ((yv (jl w (zT c w.2.2.2.2.2.1 (zm name,name,[w.1])).1,())).bind _)=_;rw[Zm _ (by omega),ahu,ahu];dsimp only;rw[oY c _ (zm name) name false acb hwr (by omega),ahu];unfold climb;rw[acb];cases (YS c (jl w (zT c w.2.2.2.2.2.1 (zm name,name,[w.1])).1) (zm name) name false).2<;>rfl
theorem Wz (c:za) (r0 w:zb) (name:List UInt8):(voted c r0 w name).2=(zT c w.2.2.2.2.2.1 (zm name,name,[w.1])).2/\((voted c r0 w name).2=true->(voted c w w name).1=(voted c r0 w name).1)/\((voted c r0 w name).2=false->(voted c r0 w name).1=r0)/\(voted c w w name).2=(voted c r0 w name).2:=by
 unfold voted;cases (zT c w.2.2.2.2.2.1 (zm name,name,[w.1])).2
 ·exact⟨rfl,λ h=>(by cases h),λ _=>rfl,rfl⟩
 ·exact⟨rfl,λ _=>rfl,λ h=>(by cases h),rfl⟩
theorem AZ (c:za) (r:zb) (b:y0) (hrb:ze r+zB b<=1048576):NK (c,r,b,())=some ((LH c r b).1,(LH c r b).2,()):=by
 have hs:zC r.2.2.2.1<=ze r:=by simp only[ze]; omega
 have hq:zi b.2<=zB b/\b.1.length<=zB b:=by simp only[zB]; omega
 have aeP:=QZ c r.2.2.2.1 b.2;have ahq:=BU c (see c r.2.2.2.1 b.2) b;have hiv:ze (yF r (zm b.1))=ze r:=rfl;unfold NK LH;dsimp only;rw[Zm r (by omega),ahu,Z0 c r (by omega),ahu,eI c b (by omega),ahu,ahu,fk c r.2.2.2.1 b.2 (by omega) (by omega),ahu,YP b.1 (by omega),ahu,A4 c (see c r.2.2.2.1 b.2) b (by omega) (by omega),ahu,Bf c (see c r.2.2.2.1 b.2) b (by omega) (by omega)];simp only[ahu];cases WX:zf c r
 ·rfl
 cases XE:jE c b
 ·rfl
 by_cases hv:zm b.1≥r.2.1
 ·have hn:zD b.1=true/\b.1≠[]:=by
   unfold jE at XE;simp only[ahx,bne_iff_ne,ne_eq] at XE;exact⟨XE.2.1,XE.2.2.1⟩
  have hnv:=Qm hn.1 hn.2;have aaL:=sM (v:=zm b.1) WX hnv;simp only[hv,ahB,ahw,ahC,ahv];cases hm:J2 c (see c r.2.2.2.1 b.2) b
  ·have e:vote c (see c r.2.2.2.1 b.2) b=see c r.2.2.2.1 b.2:=by unfold vote; rw[hm]; rfl
   simp only[ahv,ahY,ahw,e];show ((Yi (c,yF r (zm b.1),see c r.2.2.2.1 b.2,())).bind _)=_;rw[aV c (yF r (zm b.1)) (see c r.2.2.2.1 b.2) (by omega) (by omega),ahu];cases (zx c (yF r (zm b.1)) (see c r.2.2.2.1 b.2)).2<;>rfl
  ·simp only[ahw,ahC,ahv];have hww:=l9 c (yF r (zm b.1)) (vote c (see c r.2.2.2.1 b.2) b);show ((Yi (c,yF r (zm b.1),vote c (see c r.2.2.2.1 b.2) b,())).bind _)=_;rw[aV c (yF r (zm b.1)) (vote c (see c r.2.2.2.1 b.2) b) (by omega) (by omega),ahu];cases hw:(zx c (yF r (zm b.1)) (vote c (see c r.2.2.2.1 b.2) b)).2
   ·rfl
   ·obtain⟨o1,o2,o3⟩:=pz aaL hw;obtain⟨f1,f2,f3,f4⟩:=Wz c r (zx c (yF r (zm b.1)) (vote c (see c r.2.2.2.1 b.2) b)).1 b.1;simp only[ahw,ahC,ahv];rw[V0 c _ b.1 o1 (by omega) (by omega),ahu];dsimp only;rw[f4];cases hf:(voted c r (zx c (yF r (zm b.1)) (vote c (see c r.2.2.2.1 b.2) b)).1 b.1).2
    ·simp only[ahY,ahw,f3 hf]
    ·simp only[ahC,ahv,f2 hf]
 ·simp only[hv,ahG,ahv,ahC];rw[aV c r (see c r.2.2.2.1 b.2) (by omega) (by omega),ahu];cases (zx c r (see c r.2.2.2.1 b.2)).2<;>rfl
noncomputable def late (c:za) (r:zb):zb×Bool:=
 bif !zf c r then (r,false) else bif decide (r.2.1≥60) then (r,false) else
 bif yY c (r.2.1+1)==r.1 then
  (bif !(zT c r.2.2.2.2.2.1 (r.2.1+1,[],[r.1])).2 then (r,false) else (jl (yF r (r.2.1+1)) (zT c r.2.2.2.2.2.1 (r.2.1+1,[],[r.1])).1,true))
 else
  (bif !(Zo c (yF r (r.2.1+1)) (yY c (r.2.1+1)) (3,r.2.1+1,([],0,[],[]),(0,[],[]),r.2.2.2.1.2.2.1,r.1,0,0,0,0)).2 then (r,false) else
   ((Zo c (yF r (r.2.1+1)) (yY c (r.2.1+1)) (3,r.2.1+1,([],0,[],[]),(0,[],[]),r.2.2.2.1.2.2.1,r.1,0,0,0,0)).1,true))
theorem Vs (c:za) (r:zb) (hr:ze r<=2000000):L7 (c,r,())=some ((late c r).1,(late c r).2,()):=by
 have ht:zF r.2.2.2.2.2.1<=2000000:=by simp only[ze] at hr; omega
 have hq:zi r.2.2.2.1.2.2.1<=2000000:=by simp only[ze,zC] at hr; omega
 unfold L7 late;dsimp only;rw[Zm r (by omega),ahu,Z0 c r (by omega),ahu];cases WX:zf c r
 ·rfl
 ·have hv:=Nq WX;have hp:=pp (r.2.1+1) r.1 [];have hm:=tQ r.2.2.2.1.2.2.1 (r.2.1+1) r.1;simp only[ahC,ahv,zg (show -9223372036854775808<=r.2.1+1 by omega) (show r.2.1+1<=9223372036854775807 by omega),Mb,ahu];cases decide (r.2.1≥60)
  ·simp only[ahv];cases (yY c (r.2.1+1)==r.1)
   ·simp only[ahv];show ((Ks (c,yF r (r.2.1+1),yY c (r.2.1+1),(3,r.2.1+1,([],0,[],[]),(0,[],[]),r.2.2.2.1.2.2.1,r.1,0,0,0,0),())).bind _)=_;rw[fQ c (yF r (r.2.1+1)) _ _ (QP WX) (by show ze r<=_; omega) (by omega),ahu]
    cases (Zo c (yF r (r.2.1+1)) (yY c (r.2.1+1)) (3,r.2.1+1,([],0,[],[]),(0,[],[]),r.2.2.2.1.2.2.1,r.1,0,0,0,0)).2<;>rfl
   ·simp only[ahw];rw[aI c r.2.2.2.2.2.1 (r.2.1+1,[],[r.1]) (by omega) (by simp only[ahA] at hp; omega),Option.bind_some]
    cases (zT c r.2.2.2.2.2.1 (r.2.1+1,[],[r.1])).2<;>rfl
  ·rfl
theorem nk (c:UInt8):∀ s:List UInt8,s.length+1=((zQ c s).map λ p=>p.length+1).sum
 | []=>by simp[zQ]
 | x::l=>by
  have ih:=nk c l;simp only[zQ];split
  ·simp only[ahN,aib,ahA,ahz]; omega
  ·cases h:zQ c l with
   | nil=>exact absurd h (YC _ _)
   | cons p r=>
    rw[h] at ih;simp only[glue,ahN,aib,ahD,ahz,ahA] at ih ⊢;omega
theorem Wr {s:List UInt8} (h:(j7 s).2=true):s.length<=27:=by
 unfold j7 at h;split at h
 ·next hh=>rw[←hh.2]; exact gx _
 ·cases h
theorem BI:∀ (ps:List (List UInt8)) (out:List zz),(Yj ps out).2=true->(Yj ps out).1.length=out.length+ps.length/\(ps.map λ p=>p.length+1).sum<=28*ps.length
 | [],out,_=>by simp[Yj]
 | p::ps,out,h=>by
  simp only[Yj] at h ⊢;split at h
  ·next hp=>
   have h1:=Wr hp;obtain⟨h2,h3⟩:=BI ps _ h;rw[if_pos hp];simp only[ahD,ahz,ahA,ahN,aib] at h2 ⊢;omega
  ·cases h
theorem Wv {s:List UInt8} (h:(y7 s).2=true):s.length<=28*(y7 s).1.length:=by
 unfold y7 at h ⊢;split at h
 ·next e=>subst e; simp
 ·next e=>
  rw[if_neg e];obtain⟨h1,h2⟩:=BI _ _ h;have:=nk 44 s;simp only[ahA,ain] at h1;omega
theorem Rj {s:List UInt8} (h:(zv s).2=true):s.length<=6:=by
 unfold zv at h;split at h
 ·next hh=>exact hh.2.1
 ·cases h
theorem Bu:∀ (ps:List (List UInt8)) (prev:Int) (out:List ZJ),(js ps prev out).2=true->(ps.map λ p=>p.length+1).sum<=64*ps.length
 | [],_,_,_=>by simp
 | p::ps,prev,out,h=>by
  simp only[js] at h;cases hq:yD 124 p with
  | none=>rw[hq] at h; cases h
  | some q=>
   rw[hq] at h;simp only at h;split at h
   ·next hs=>
    unfold yN at hs;simp only[ahx,ahI] at hs;obtain⟨a1,a2,-,-,a5⟩:=hs;have b1:=Rj a1;have b2:=Wv a2;obtain⟨q1,q2⟩:=q;have b3:=(kq 124 hq).1;have ih:=Bu ps _ _ h;simp only[ahN,aib,ahz] at ih ⊢;simp only at b1 b2 a5;omega
   ·cases h
theorem jX {s:List UInt8} (h:zD s=true):s.length<=1920:=by
 unfold zD steps at h;split at h
 ·next e=>subst e; simp
 ·have hs:=nk 47 s;cases hp:zQ 47 s with
  | nil=>exact absurd hp (YC _ _)
  | cons p ps=>
   rw[hp] at h hs;simp only at h;split at h
   ·next hh=>
    obtain⟨rfl,h30⟩:=hh;have:=Bu ps _ _ h;simp only[ahN,aib,ahA] at hs;omega
   ·cases h
theorem Aw (n:Int):∀ (l:List Int) (p:Int),YK n (some p) l=true->p<n->(l.length:Int)<=n - 1 - p
 | [],p,_,hp=>by simp; omega
 | x::l,p,h,hp=>by
  simp only[YK,ahx,ai1,aiH] at h;obtain⟨h1,h2,h3,h4⟩:=h;have:=Aw n l x h4 (by omega);simp only[ahz];omega
theorem AB {n:Int} {l:List Int} (h:jJ n l=true) (hn:0<=n):(l.length:Int)<=n:=by
 unfold jJ at h;cases l with
 | nil=>simpa using hn
 | cons x l=>
  simp only[YK,ahx,ai1,aiH] at h;obtain⟨h1,h2,h3,h4⟩:=h;have:=Aw n l x h4 (by omega);simp only[ahz];omega
theorem Ax (n:Int):∀ (l:List Int) (p:Option Int),YK n p l=true->∀ x∈l,0<=x/\x<n
 | [],_,_,x,hx=>by cases hx
 | y::l,p,h,x,hx=>by
  simp only[YK,ahx,ai1,aiH] at h;obtain⟨h1,h2,h3,h4⟩:=h;rcases List.mem_cons.1 hx with rfl|hx
  ·omega
  ·exact Ax n l _ h4 x hx
theorem Uy {n:Int} {l:List Int} (h:jJ n l=true):∀ x∈l,0<=x/\x<n:=Ax n l none h
theorem dQ {c:za} {q:zJ} (h:yg c q=true):zi q<=1927:=by
 unfold yg at h;simp only[ahx] at h;obtain⟨h1,h2,h3,h4⟩:=h;have hc:=ym h1;have hn:=jX h2;simp only[zi,zn];cases he:(q.2.1==([]:List UInt8))<;>rw[he] at h4
 ·simp only[ahv,ahx] at h4;have:=AB h4.1 (by omega);omega
 ·simp only[ahw,ai4] at h4;omega
theorem ue {c:za} {p:zH} (h:jc c p=true):zk p<=1927:=by
 unfold jc at h;simp only[ahx,ai8] at h;obtain⟨h1,h2,h3,h4,h5⟩:=h;have hc:=ym h1;have:=AB h3 (by omega);simp only[zk,zn];rcases h5 with h5|h5
 ·simp only[ai4] at h5;rw[h5];simp only[ahA];omega
 ·have hn:=jX h5.1;omega
theorem rb {c:za} {b:y0} (h:jE c b=true):zB b<=3847:=by
 unfold jE at h;simp only[ahx] at h;have h1:=dQ h.1;have h2:=jX h.2.1;simp only[zB];omega
theorem nw {a b:zJ} (h:jd a b=true):a=b:=by
 unfold jd at h;simp only[ahx,ai4,ahI] at h;obtain⟨a1,a2,a3⟩:=a;obtain⟨b1,b2,b3⟩:=b;simp only at h;simp[h.1,h.2.1,h.2.2]
theorem ny (a:zJ):jd a a=true:=by
 unfold jd;simp
theorem PZ {a b:zp} (h:Ze a b=true):a=b:=by
 unfold Ze Yp Mq at h;simp only[ahx,ai4] at h;obtain⟨a1,a2,⟨a3,a3'⟩,a4,a5,a6,a7⟩:=a;obtain⟨b1,b2,⟨b3,b3'⟩,b4,b5,b6,b7⟩:=b;simp only at h;obtain⟨h1,h2,⟨h3,h3'⟩,h4,h5,h6,h7⟩:=h;have e1:=nw h3';have e2:a4=b4:=nw h4;have e3:=nw h5;subst h1 h2 h3 e1 e2 e3 h6;obtain⟨x1,x2,x3,x4⟩:=a7;obtain⟨y1,y2,y3,y4⟩:=b7;simp only at h7;obtain⟨k1,k2,k3,k4,-⟩:=h7;subst k1 k2 k3 k4;rfl
theorem cZ {c:za} {m:zp} (h:yG c m=true):zh m<=3847:=by
 unfold yG at h;simp only[ahx] at h;obtain⟨h1,h2,h3⟩:=h;have e:=PZ h2;rw[←e];unfold canon;cases k1:(m.1==1)
 ·cases k2:(m.1==2)
  ·cases k3:(m.1==3)
   ·cases k4:(m.1==4)
    ·simp[zh,zB,zi,zk,zn]
    ·simp[zh,zB,zi,zk,zn]
   ·rw[k1,k2,k3] at h3;simp only[ahv,ahw,ahx] at h3;have:=dQ h3.2.1;simp only[ahv,ahw,zh,zB,zk,zn,ahA];simp only[zi,zn,ahA] at this ⊢;omega
  ·rw[k1,k2] at h3;simp only[ahv,ahw,ahx] at h3;have:=ue h3.1;simp only[ahv,ahw,zh,zB,zi,zn,ahA];simp only[zk,zn] at this ⊢;omega
 ·rw[k1] at h3;simp only[ahw] at h3;have:=rb h3;simp only[ahw,zh,zi,zk,zn,ahA];simp only[zB,zi,zn] at this ⊢;omega
theorem Ub {c:za} {s:zI} (h:yj c s=true):zC s<=3847:=by
 unfold yj at h;simp only[ahx] at h;have h1:=dQ h.2.2.1;have h2:=jX h.2.2.2;simp only[zC];omega
theorem pa {α:Type} (f:α->Nat) (k:Nat):∀ (l:List α),(∀ x∈l,f x<=k)->(l.map f).sum<=k*l.length
 | [],_=>by simp
 | x::l,h=>by
  have h1:=h x (by simp);have h2:=pa f k l λ y hy=>h y (by simp[hy]);simp only[ahN,aib,ahz,Nat.mul_add,Nat.mul_one];omega
theorem rj {α:Type} {ok:α->Bool} {lt:α->α->Bool}:∀ {l:List α} {p:Option α},yq ok lt p l=true->∀ x∈l,ok x=true
 | [],_,_,x,hx=>by cases hx
 | y::l,p,h,x,hx=>by
  simp only[yq,ahx] at h;rcases List.mem_cons.1 hx with rfl|hx
  ·exact h.1
  ·exact rj h.2.2 x hx
theorem Bz {c:za} {l:ya} (h:jA c l=true):zF l<=38560:=by
 unfold jA at h;simp only[ahx,ahI] at h;have h1:=pa zk 1927 l λ x hx=>ue (rj h.1 x hx);simp only[zF];omega
theorem JH {c:za} {r:zb} (h:zf c r=true):zA c=true/\(0<=r.1/\r.1<=c.1 - 1)/\(1<=r.2.1/\r.2.1<=60)/\(0<=r.2.2.1/\r.2.2.1<=60)/\yj c r.2.2.2.1=true/\yH r.2.2.2.2.1=true/\
  jA c r.2.2.2.2.2.1=true/\yx r.2.2.2.2.2.2.1=true/\r.2.2.2.2.2.2.2.length<=30/\∀ x∈r.2.2.2.2.2.2.2,ZN c r.1 x=true:=by
 unfold zf at h;simp only[ahx,ahI,List.all_eq_true] at h;obtain⟨h1,h2,h3,h4,h5,h6,h7,h8,h9,XV⟩:=h;exact⟨h1,h2,h3,h4,h5,h6,h7,h8,by omega,XV⟩
theorem Kf {c:za} {r:zb} (h:zf c r=true):ze r<=260000:=by
 obtain⟨h1,h2,h3,h4,h5,h6,h7,h8,h9,XV⟩:=JH h;have a5:=Ub h5;have a7:=Bz h7;unfold yH at h6;unfold yx at h8;simp only[ahx,ahI] at h6 h8;have a10:=pa Z4 3847 r.2.2.2.2.2.2.2 λ x hx=>by
  have:=XV x hx;unfold ZN at this;simp only[ahx] at this;exact cZ this.1
 simp only[ze,Yk,JM,yr];omega
theorem Ql:zD []=true:=by unfold zD steps; simp
theorem lW (up:List UInt8) (view:Int) (list:zw):zD (jW up view list)=true:=by
 unfold jW;cases h:(list.all zN && zD (Y2 up view list))
 ·exact Ql
 ·simp only[ahx] at h;exact h.2
theorem BT:zm []=0:=by unfold zm steps; simp
theorem qo {s:List UInt8} (h:zD s=true):0<=zm s/\zm s<=60:=by
 by_cases e:s=[]
 ·subst e; rw[BT]; omega
 ·have:=Qm h e; omega
theorem LM (c:zO) (hc:z6 c):Ens (zX (c,())) λ r=>0<=r.1.2.1/\zN r.2.1=true:=by
 unfold zX;refine (zE c 4 hc).bind λ r0 h0 => ?_;refine (zE (c.1,r0.1.2) 4 ⟨hc.1,h0.1⟩).bind λ r1 h1 => ?_;refine (jG (c.1,r1.1.2) _ ⟨hc.1,h1.1⟩ (by simp)).bind λ r2 h2 => ?_;refine (zE (c.1,r2.1.2) 3 ⟨hc.1,h2.1⟩).bind λ r3 h3 => ?_;refine Ens.some ⟨h3.1,?_⟩;have a0:=h0.2.2 (by decide);have a1:=h1.2.2 (by decide);have a3:=h3.2.2 (by decide);have a2:=h2.2;simp only[ahO,aik,or_false] at a2;rw[qk];dsimp only;omega
theorem lD (c:zO) (hc:z6 c):Ens (qd (c,())) λ r=>0<=r.1.2.1:=by
 unfold qd;refine (LM c hc).bind λ r0 h0 => ?_;refine (zE (c.1,r0.1.2) 12 ⟨hc.1,h0.1⟩).bind λ r1 h1 => ?_;refine Ens.cond (λ _ => ?_) λ _ => ?_
 ·exact (jG (c.1,r1.1.2) _ ⟨hc.1,h1.1⟩ (by simp)).bind λ r2 h2=>Ens.some h2.1
 refine Ens.cond (λ _ => ?_) λ _ => ?_
 ·exact (jG (c.1,r1.1.2) _ ⟨hc.1,h1.1⟩ (by simp)).bind λ r2 h2=>Ens.some h2.1
 refine Ens.cond (λ _ => ?_) λ _ => ?_
 ·exact (jG (c.1,r1.1.2) _ ⟨hc.1,h1.1⟩ (by simp)).bind λ r2 h2=>Ens.some h2.1
 refine Ens.cond (λ _ => ?_) λ _ => ?_
 ·exact (jG (c.1,r1.1.2) _ ⟨hc.1,h1.1⟩ (by simp)).bind λ r2 h2=>Ens.some h2.1
 exact Ens.some h1.1
theorem BB {a:Int} (h0:0<=a) (h1:a<4):0<=Int.tdiv a 3/\Int.tdiv a 3<=1:=by
 rw[ajE h0];omega
theorem Qg (c:zO) (hc:z6 c):Ens (Lk (c,())) λ r=>0<=r.1.2.1/\zD r.2.1=true:=by
 unfold Lk;refine Ens.loop (λ x=>zD x.1=true/\(0<=x.2.1/\x.2.1<=2*x.2.2.1)/\(0<=x.2.2.1/\x.2.2.1<=5)/\0<=x.2.2.2.1.2.1) (λ x=>(6 - x.2.2.1).toNat) ?_ ⟨Ql,by simp,by simp,hc.2⟩ (by dsimp only; rw[ja]; omega)
 intro rec x hx WW;obtain⟨x1,x2,x3,x4⟩:=hx;refine (zE (c.1,x.2.2.2.1.2) 6 ⟨hc.1,x4⟩).bind λ r1 h1 => ?_;have a1:=h1.2.2 (by decide);refine Ens.cond (λ h => ?_) λ h=>Ens.some ⟨h1.1,x1⟩;have h:x.2.2.1<r1.2.1:=by simpa using h
 refine (zE (c.1,r1.1.2) 4 ⟨hc.1,h1.1⟩).bind λ r2 h2 => ?_;have a2:=h2.2.2 (by decide);have b2:=BB h2.2.1 a2;refine Ens.loop (λ y=>(0<=y.2.1/\y.2.1<=2)/\(y.1.length:Int)<=y.2.1/\0<=y.2.2.1.2.1) (λ y=>(3 - y.2.1).toNat) ?_ ⟨by simp,by simp,h2.1⟩ (by dsimp only; rw[ja]; omega)
 intro rec3 y hy ags;obtain⟨y1,y2,y3⟩:=hy;refine (zE (c.1,y.2.2.1.2) 3 ⟨hc.1,y3⟩).bind λ r4 h4 => ?_;have a4:=h4.2.2 (by decide);refine Ens.cond (λ h' => ?_) λ h' => ?_
 ·have h':y.2.1<r4.2.1:=by simpa using h'
  refine (LM (c.1,r4.1.2) ⟨hc.1,h4.1⟩).bind λ r5 h5 => ?_;refine Ens.ite (by simp only[ahz,ahA]; omega) ?_
  rw[zg (n:=y.2.1+1) (by omega) (by omega)];exact ags _ ⟨⟨by dsimp only; omega,by dsimp only; omega⟩,by simp only[ahD,ahz,ahA]; omega,h5.1⟩ (by dsimp only; omega)
 ·have e1:wr (x.2.1+1)=x.2.1+1:=zg (by omega) (by omega);have e2:wr (Int.tdiv r2.2.1 3)=Int.tdiv r2.2.1 3:=zg (by omega) (by omega);have e3:wr (x.2.1+1+Int.tdiv r2.2.1 3)=x.2.1+1+Int.tdiv r2.2.1 3:=zg (by omega) (by omega);have W2:=jX x1;rw[e1,e2,e3,aw x.1 _ y.1 (by omega) (by omega) (by omega),ahu,zg (n:=x.2.2.1+1) (by omega) (by omega)];exact WW _ ⟨lW _ _ _,⟨by dsimp only; omega,by dsimp only; omega⟩,⟨by dsimp only; omega,by dsimp only; omega⟩,h4.1⟩ (by dsimp only; omega)
theorem tk (c:zO) (n:Int) (hc:z6 c) (hn:0<n):Ens (be (c,n,())) λ r=>0<=r.1.2.1/\r.2.1.length<=8:=by
 unfold be;refine Ens.loop (λ x=>(0<=x.2.1/\x.2.1<=7)/\(x.1.length:Int)<=x.2.1/\0<=x.2.2.1.2.1) (λ x=>(8 - x.2.1).toNat) ?_ ⟨by simp,by simp,hc.2⟩ (by dsimp only; rw[ja]; omega)
 intro rec x hx WW;obtain⟨x1,x2,x3⟩:=hx;refine (zE (c.1,x.2.2.1.2) 8 ⟨hc.1,x3⟩).bind λ r1 h1 => ?_;have a1:=h1.2.2 (by decide);refine Ens.cond (λ h => ?_) λ h => ?_
 ·have h:x.2.1<r1.2.1:=by simpa using h
  refine (zE (c.1,r1.1.2) n ⟨hc.1,h1.1⟩).bind λ r2 h2 => ?_;have hl:=ac x.1 r2.2.1;rw[aE x.1 _ (by omega),ahu,zg (n:=x.2.1+1) (by omega) (by omega)];exact WW _ ⟨⟨by dsimp only; omega,by dsimp only; omega⟩,by dsimp only; omega,h2.1⟩ (by dsimp only; omega)
 ·refine (Y0 (c.1,r1.1.2) 12 ⟨hc.1,h1.1⟩).bind λ r4 h4 => ?_;refine Ens.cond (λ _ => ?_) λ _=>Ens.some ⟨h4,by dsimp only; omega⟩
  refine (jG (c.1,r4.1.2) _ ⟨hc.1,h4⟩ (by simp)).bind λ r5 h5 => ?_;refine Ens.ite (by simp only[ahz,ahA]; omega) (Ens.some ⟨h5.1,?_⟩)
  simp only[ahD,ahz,ahA];omega
theorem acE (c:zO) (hc:z6 c):Ens (aaB (c,())) λ r=>0<=r.1.2.1/\zA r.2.1=true:=by
 unfold aaB;refine (zE c 4 hc).bind λ r0 h0 => ?_;refine (zE (c.1,r0.1.2) 3 ⟨hc.1,h0.1⟩).bind λ r1 h1 => ?_;have a0:=h0.2.2 (by decide);have a1:=h1.2.2 (by decide);refine Ens.some ⟨h1.1,?_⟩;rw[zg (n:=4+r0.2.1) (by omega) (by omega),zg (n:=1+r1.2.1) (by omega) (by omega)];unfold zA;simp only[ahx,ahI];omega
theorem lF (c:zO) (conf:za) (name:List UInt8) (hc:z6 c) (hN:conf.1<=8) (hn:zD name=true):
  Ens (qg (c,conf,name,())) λ r=>0<=r.1.2.1/\r.2.1.1=zm name/\r.2.1.2.1=name/\r.2.1.2.2.length<=8:=by
 have hl:=jX hn;unfold qg;dsimp only;rw[YP name (by omega),ahu];refine Ens.cond (λ _=>Ens.some ⟨hc.2,rfl,rfl,by simp⟩) λ _ => ?_;refine Ens.loop (λ x=>(0<=x.1/\x.1<=8)/\(x.2.1.2.2.length:Int)<=x.1/\x.2.1.1=zm name/\x.2.1.2.1=name) (λ x=>(9 - x.1).toNat) ?_ ⟨by simp,by simp,rfl,rfl⟩ (by dsimp only; rw[ja]; omega)
 intro rec x hx WW;obtain⟨x1,x2,x3,x4⟩:=hx;refine Ens.cond (λ h => ?_) λ h => ?_
 ·have h:x.1<conf.1:=by simpa using h
  refine Ens.ite (by simp only[ahz,ahA]; omega) ?_
  rw[zg (n:=x.1+1) (by omega) (by omega)];exact WW _ ⟨⟨by dsimp only; omega,by dsimp only; omega⟩,by simp only[ahD,ahz,ahA]; omega,x3,x4⟩ (by dsimp only; omega)
 ·refine (Y0 c 2 hc).bind λ r2 h2 => ?_;refine Ens.cond (λ _ => ?_) λ _=>Ens.some ⟨h2,x3,x4,by dsimp only; omega⟩
  refine Ens.cond (λ h0 => ?_) λ _=>Ens.some ⟨h2,x3,x4,by dsimp only; omega⟩
  have h0:(x.2.1.2.2.length:Int)>0:=by simpa using h0
  refine (zE (c.1,r2.1.2) _ ⟨hc.1,h2⟩).bind λ r3 h3 => ?_;have a3:=h3.2.2 h0;have b3:=h3.2.1;have e1:wr (r3.2.1+1)=r3.2.1+1:=zg (by omega) (by omega);refine Ens.ite (by omega) ?_;refine Ens.ite (by simp only[ahM,ahQ]; omega) ?_
  refine Ens.ite (by rw[e1]; omega) ?_
  refine Ens.ite (by simp only[ahD,ahM,ahQ,ahA]; omega) ?_
  refine Ens.some ⟨h3.1,x3,x4,?_⟩;rw[e1];simp only[ahD,ahM,ahQ,ahA];omega
theorem wN {q:zJ} {name:List UInt8} (h1:q.2.1=name) (h2:q.2.2.length<=8) (hn:name.length<=1920):zi q<=1928:=by
 simp only[zi,zn,h1]; omega
theorem tn (c:zO) (conf:za) (hc:z6 c) (hN:conf.1<=8):Ens (bg (c,conf,())) λ r=>0<=r.1.2.1/\zB r.2.1<=4000:=by
 unfold bg;refine (Qg c hc).bind λ r0 h0 => ?_;have hl:=jX h0.2;have hv:=qo h0.2;refine (lF (c.1,r0.1.2) conf r0.2.1 ⟨hc.1,h0.1⟩ hN h0.2).bind λ r1 h1 => ?_;obtain⟨k1,k2,k3,k4⟩:=h1;have hw:=wN k3 k4 hl;refine Ens.loop (λ y=>(0<=y.2.1/\y.2.1<=2)/\(y.1.length:Int)<=y.2.1/\0<=y.2.2.1.2.1) (λ y=>(3 - y.2.1).toNat) ?_ ⟨by simp,by simp,k1⟩ (by dsimp only; rw[ja]; omega)
 intro rec y hy WW;obtain⟨y1,y2,y3⟩:=hy;refine (zE (c.1,y.2.2.1.2) 3 ⟨hc.1,y3⟩).bind λ r3 h3 => ?_;have a3:=h3.2.2 (by decide);refine Ens.cond (λ h' => ?_) λ h' => ?_
 ·have h':y.2.1<r3.2.1:=by simpa using h'
  refine (LM (c.1,r3.1.2) ⟨hc.1,h3.1⟩).bind λ r4 h4 => ?_;refine Ens.ite (by simp only[ahz,ahA]; omega) ?_
  rw[zg (n:=y.2.1+1) (by omega) (by omega)];exact WW _ ⟨⟨by dsimp only; omega,by dsimp only; omega⟩,by simp only[ahD,ahz,ahA]; omega,h4.1⟩ (by dsimp only; omega)
 ·refine (zE (c.1,r3.1.2) 4 ⟨hc.1,h3.1⟩).bind λ r5 h5 => ?_;have a5:=h5.2.2 (by decide);have b5:=BB h5.2.1 a5;have e1:wr (r1.2.1.1+1)=r1.2.1.1+1:=zg (by omega) (by omega);have e2:wr (Int.tdiv r5.2.1 3)=Int.tdiv r5.2.1 3:=zg (by omega) (by omega);have e3:wr (r1.2.1.1+1+Int.tdiv r5.2.1 3)=r1.2.1.1+1+Int.tdiv r5.2.1 3:=zg (by omega) (by omega);have hb:=ra conf r1.2.1 (r1.2.1.1+1+Int.tdiv r5.2.1 3) y.1 (by omega);rw[e1,e2,e3,oL conf r1.2.1 _ y.1 (by omega) (by omega) (by omega),ahu];exact Ens.some ⟨h5.1,by dsimp only; omega⟩
theorem ma {G:(Int×zO×zH×Unit->Option (zO×zH×Unit))->Int×zO×zH×Unit->Option (zO×zH×Unit)} (b:List UInt8) (n:Int) (hb:b.length<=big) (nm:List UInt8) (p:zH) (i h:Int) (hi:0<=i) (hp:p.2.1=nm) (hp2:p.2.2=[])
  (hG:∀ rec x,G rec x=(zj ((b,x.2.1.2),7,())).bind λ r5=>bif decide (x.1<wr (1+r5.2.1)) then (yS (n,4,())).bind λ r6=>(zj ((b,r5.1.2),r6.1,())).bind λ r7=>(Z1 (x.2.2.1.2.2,r7.2.1,())).bind λ r8=>rec (wr (x.1+1),(b,r7.1.2),(x.2.2.1.1,x.2.2.1.2.1,r8.1),()) else some ((b,r5.1.2),x.2.2.1,())):
  Ens (iter G fuel (0,(b,i,h),p,())) λ r=>0<=r.1.2.1/\r.2.1.2.1=nm/\r.2.1.2.2.length<=7:=by
 refine Ens.loop (λ x=>(0<=x.1/\x.1<=7)/\0<=x.2.1.2.1/\x.2.2.1.2.1=nm/\(x.2.2.1.2.2.length:Int)<=x.1) (λ x=>(8 - x.1).toNat) ?_ ⟨by simp,hi,hp,by simp[hp2]⟩ (by dsimp only; rw[ja]; omega)
 intro rec x hx WW;obtain⟨x1,x2,x3,x4⟩:=hx;rw[hG];refine (zE (b,x.2.1.2) 7 ⟨hb,x2⟩).bind λ r5 h5 => ?_;have a5:=h5.2.2 (by decide);have b5:=h5.2.1;rw[zg (n:=1+r5.2.1) (by omega) (by omega)];refine Ens.cond (λ h => ?_) λ h=>Ens.some ⟨h5.1,x3,by dsimp only; omega⟩
 have h:x.1<1+r5.2.1:=by simpa using h
 rw[Mm,ahu];refine (zE (b,r5.1.2) _ ⟨hb,h5.1⟩).bind λ r7 h7 => ?_;have hl:=ac x.2.2.1.2.2 r7.2.1;rw[aE _ _ (by omega),ahu,zg (n:=x.1+1) (by omega) (by omega)];exact WW _ ⟨⟨by dsimp only; omega,by dsimp only; omega⟩,h7.1,x3,by dsimp only; omega⟩ (by dsimp only; omega)
theorem ll (c:zO) (conf:za) (hc:z6 c):Ens (N5 (c,conf,())) λ r=>0<=r.1.2.1/\zD r.2.1.2.1=true/\r.2.1.2.2.length<=7:=by
 unfold N5;refine (Qg c hc).bind λ r0 h0 => ?_;have hl:=jX h0.2;dsimp only;rw[YP r0.2.1 (by omega),ahu];refine (Y0 (c.1,r0.1.2) 4 ⟨hc.1,h0.1⟩).bind λ r2 h2 => ?_;refine Ens.cond (λ _ => ?_) λ _ => ?_
 ·refine (zE (c.1,r2.1.2) 4 ⟨hc.1,h2⟩).bind λ r3 h3 => ?_;refine (ma c.1 conf.1 hc.1 [] _ r3.1.2.1 r3.1.2.2 h3.1 rfl rfl (λ _ _=>rfl)).mono λ r hr=>⟨hr.1,by rw[hr.2.1]; exact Ql,hr.2.2⟩
 ·refine Ens.cond (λ _ => ?_) λ _ => ?_
  ·refine (zE (c.1,r2.1.2) 4 ⟨hc.1,h2⟩).bind λ r3 h3 => ?_;refine (ma c.1 conf.1 hc.1 [] _ r3.1.2.1 r3.1.2.2 h3.1 rfl rfl (λ _ _=>rfl)).mono λ r hr=>⟨hr.1,by rw[hr.2.1]; exact Ql,hr.2.2⟩
  ·refine (ma c.1 conf.1 hc.1 r0.2.1 _ r2.1.2.1 r2.1.2.2 h2 rfl rfl (λ _ _=>rfl)).mono λ r hr=>⟨hr.1,by rw[hr.2.1]; exact h0.2,hr.2.2⟩
theorem Pf (c:zO) (l:List (List UInt8)) (hc:z6 c) (hl:0<l.length):Ens (fW (c,l,())) λ r=>0<=r.1.2.1/\r.2.1∈l:=by
 unfold fW;refine (zE c _ hc).bind λ r hr => ?_;have h:r.2.1<(l.length:Int):=hr.2.2 (show (0:Int)<(l.length:Int) by omega);have h0:0<=r.2.1:=hr.2.1;refine Ens.ite ⟨h0,h⟩ (Ens.some ⟨hr.1,wU (e:=.str) ?_⟩);show r.2.1.toNat<l.length;omega
theorem Pt (c:zO) (s:List UInt8) (hc:z6 c) (hs:s.length<=100000):Ens (gj (c,s,())) λ r=>0<=r.1.2.1/\r.2.1.length<=s.length+1:=by
 unfold gj;dsimp only;have e0:wr ((s.length:Int)+1)=(s.length:Int)+1:=zg (by omega) (by omega);rw[e0];refine (zE c _ hc).bind λ r0 h0 => ?_;have a0:=h0.2.2 (by omega);have b0:=h0.2.1;refine (zE (c.1,r0.1.2) 5 ⟨hc.1,h0.1⟩).bind λ r1 h1 => ?_;refine Ens.cond (λ _ => ?_) λ _ => ?_
 ·refine Ens.ite (by omega) (Ens.some ⟨h1.1,?_⟩);simp only[ahM,ahQ];omega
 ·refine Ens.cond (λ _ => ?_) λ _=>Ens.some ⟨h1.1,by dsimp only; omega⟩
  refine Ens.ite (by omega) ?_;refine (Pf (c.1,r1.1.2) _ ⟨hc.1,h1.1⟩ (by simp)).bind λ r2 h2 => ?_;have hp:r2.2.1.length=1:=by
   have:=h2.2;simp only[ahO,aik,or_false] at this;rcases this with h|h|h|h|h|h|h<;>rw[h]<;>rfl
  refine Ens.ite (by simp only[ahM,ahQ]; omega) ?_
  refine Ens.ite (by omega) ?_;refine Ens.ite (by simp only[ahD,ahM,ahQ]; omega) (Ens.some ⟨h2.1,?_⟩)
  simp only[ahD,ahM,ahQ];omega
theorem lE (c:zO) (hc:z6 c):Ens (qe (c,())) λ r=>0<=r.1.2.1/\r.2.1.length<=1930:=by
 unfold qe;refine (Y0 c 20 hc).bind λ r0 h0 => ?_;refine Ens.cond (λ _ => ?_) λ _ => ?_
 ·refine Ens.loop (λ x=>(1<=x.2.1/\x.2.1<=32)/\(x.1.length:Int)<=8*x.2.1/\0<=x.2.2.1.2.1) (λ x=>(33 - x.2.1).toNat) ?_ ⟨by simp,by simp,h0⟩ (by dsimp only; rw[ja]; omega)
  intro rec x hx WW;obtain⟨x1,x2,x3⟩:=hx;refine (zE (c.1,x.2.2.1.2) 2 ⟨hc.1,x3⟩).bind λ r2 h2 => ?_;have a2:=h2.2.2 (by decide);have b2:=h2.2.1;rw[zg (n:=30+r2.2.1) (by omega) (by omega)];refine Ens.cond (λ h => ?_) λ h=>Ens.some ⟨h2.1,by dsimp only; omega⟩
  have h:x.2.1<=30+r2.2.1:=by simpa using h
  refine Ens.ite (by simp only[ahz,ahA]; omega) ?_
  obtain⟨u,hu⟩:∃ u:Nat,x.2.1=(u:Int):=⟨x.2.1.toNat,by omega⟩
  have hd:=dl u (by omega);rw[hu,L6 u (by omega),ahu];refine Ens.ite (by simp only[ahD,ahz,ahA]; omega) ?_
  refine Ens.ite (by simp only[ahD,ahz,ahA]; omega) ?_
  rw[←hu,zg (n:=x.2.1+1) (by omega) (by omega)];exact WW _ ⟨⟨by dsimp only; omega,by dsimp only; omega⟩,by simp only[ahD,ahz,ahA]; omega,h2.1⟩ (by dsimp only; omega)
 ·refine (Qg (c.1,r0.1.2) ⟨hc.1,h0⟩).bind λ r4 h4 => ?_;have hl:=jX h4.2;exact (Pt (c.1,r4.1.2) r4.2.1 ⟨hc.1,h4.1⟩ (by omega)).bind λ r5 h5=>Ens.some ⟨h5.1,by have:=h5.2; dsimp only; omega⟩
theorem tf (c:zO) (conf:za) (hc:z6 c):Ens (aP (c,conf,())) λ r=>0<=r.1.2.1/\r.2.1.2.1.length<=1930/\r.2.1.2.2.length<=8:=by
 unfold aP;refine (ll c conf hc).bind λ r0 h0 => ?_;have hl:=jX h0.2.1;have hw:=h0.2.2;refine (zE (c.1,r0.1.2) 10 ⟨hc.1,h0.1⟩).bind λ r1 h1 => ?_;refine Ens.cond (λ _ => ?_) λ _ => ?_
 ·exact (jG (c.1,r1.1.2) _ ⟨hc.1,h1.1⟩ (by simp)).bind λ r2 h2=>Ens.some ⟨h2.1,by dsimp only; omega,by dsimp only; omega⟩
 refine Ens.cond (λ _ => ?_) λ _ => ?_
 ·exact (tk (c.1,r1.1.2) 7 ⟨hc.1,h1.1⟩ (by decide)).bind λ r2 h2=>Ens.some ⟨h2.1,by dsimp only; omega,h2.2⟩
 refine Ens.cond (λ _ => ?_) λ _ => ?_
 ·exact (lE (c.1,r1.1.2) ⟨hc.1,h1.1⟩).bind λ r2 h2=>Ens.some ⟨h2.1,h2.2,by dsimp only; omega⟩
 exact Ens.some ⟨h1.1,by dsimp only; omega,by dsimp only; omega⟩
theorem OZ (c:zO) (conf:za) (hc:z6 c) (hN:conf.1<=8):Ens (fM (c,conf,())) λ r=>0<=r.1.2.1/\zh r.2.1<=4000:=by
 unfold fM;refine (zE c 4 hc).bind λ r0 h0 => ?_;refine Ens.cond (λ _ => ?_) λ _ => ?_
 ·refine (tn (c.1,r0.1.2) conf ⟨hc.1,h0.1⟩ hN).bind λ r1 h1=>Ens.some ⟨h1.1,?_⟩;have:=h1.2;simp only[zh,zk,zi,zn,ahA];omega
 refine Ens.cond (λ _ => ?_) λ _ => ?_
 ·refine (ll (c.1,r0.1.2) conf ⟨hc.1,h0.1⟩).bind λ r2 h2 => ?_;have hl:=jX h2.2.1;have hw:=h2.2.2;refine Ens.cond (λ _ => ?_) λ _ => ?_
  ·have hn:=lV [] 1 [] (by decide);rw[aw [] 1 [] (by simp) (by decide) (by simp),Option.bind_some];refine Ens.some ⟨h2.1,?_⟩;simp only[zh,zk,zB,zi,zn,ahA] at hn ⊢;omega
  ·refine Ens.some ⟨h2.1,?_⟩;simp only[zh,zk,zB,zi,zn,ahA];omega
 refine Ens.cond (λ _ => ?_) λ _ => ?_
 ·refine (zE (c.1,r0.1.2) 6 ⟨hc.1,h0.1⟩).bind λ r4 h4 => ?_;refine (Qg (c.1,r4.1.2) ⟨hc.1,h4.1⟩).bind λ r5 h5 => ?_;have hl:=jX h5.2;refine (lF (c.1,r5.1.2) conf r5.2.1 ⟨hc.1,h5.1⟩ hN h5.2).bind λ r6 h6 => ?_;obtain⟨k1,k2,k3,k4⟩:=h6;have hw:=wN k3 k4 hl;refine (zE (c.1,r6.1.2) _ ⟨hc.1,k1⟩).bind λ r7 h7=>Ens.some ⟨h7.1,?_⟩;simp only[zh,zk,zB,zn,ahA];simp only[zi,zn,ahA] at hw ⊢;omega
 ·exact (LM (c.1,r0.1.2) ⟨hc.1,h0.1⟩).bind λ r8 h8=>Ens.some ⟨h8.1,by simp[zh,zk,zB,zi,zn]⟩
theorem O0 (c:zO) (conf:za) (hc:z6 c) (hN:conf.1<=8):Ens (fL (c,conf,())) λ r=>0<=r.1.2.1/\zh r.2.1<=8000:=by
 unfold fL;refine (OZ c conf hc hN).bind λ r0 h0 => ?_;have hw:=h0.2;refine (zE (c.1,r0.1.2) 12 ⟨hc.1,h0.1⟩).bind λ r1 h1 => ?_;refine Ens.cond (λ _ => ?_) λ _ => ?_
 ·exact (zE (c.1,r1.1.2) 7 ⟨hc.1,h1.1⟩).bind λ r2 h2=>Ens.some ⟨h2.1,by simp only[zh] at hw ⊢; omega⟩
 refine Ens.cond (λ _ => ?_) λ _ => ?_
 ·exact (jG (c.1,r1.1.2) _ ⟨hc.1,h1.1⟩ (by simp)).bind λ r2 h2=>Ens.some ⟨h2.1,by simp only[zh] at hw ⊢; omega⟩
 refine Ens.cond (λ _ => ?_) λ _ => ?_
 ·exact (jG (c.1,r1.1.2) _ ⟨hc.1,h1.1⟩ (by simp)).bind λ r2 h2=>Ens.some ⟨h2.1,by simp only[zh] at hw ⊢; omega⟩
 refine Ens.cond (λ _ => ?_) λ _ => ?_
 ·refine (tf (c.1,r1.1.2) conf ⟨hc.1,h1.1⟩).bind λ r2 h2=>Ens.some ⟨h2.1,?_⟩;have:=h2.2;simp only[zh,zk,zn] at hw ⊢;omega
 refine Ens.cond (λ _ => ?_) λ _ => ?_
 ·exact (lD (c.1,r1.1.2) ⟨hc.1,h1.1⟩).bind λ r2 h2=>Ens.some ⟨h2,by simp only[zh] at hw ⊢; omega⟩
 exact Ens.some ⟨h1.1,by dsimp only; omega⟩
def Kp (c:za) (r r':zb):Prop:=zf c r'=true/\r'.1=r.1
theorem Kp.refl {c:za} {r:zb} (h:zf c r=true):Kp c r r:=⟨h,rfl⟩
theorem Kp.trans {c:za} {a b d:zb} (h1:Kp c a b) (h2:Kp c b d):Kp c a d:=⟨h2.1,h2.2.trans h1.2⟩
theorem li {c:za} {r:zb} (h:zf c r=true) (to:Int) (m:zp):Kp c r (Zo c r to m).1:=by
 have e:=BC to m h;cases hf:(Zo c r to m).2 with
 | true=>
  rw[e] at hf ⊢;exact pc hf
 | false=>
  unfold Zo at hf ⊢;cases hc:(!decide ((r.2.2.2.2.2.2.2.length:Int)≥30) && ZN c r.1 (to,m))
  ·exact Kp.refl h
  ·rw[hc] at hf; cases hf
theorem cF {c:za} {r:zb} (h:zf c r=true) (s:zI):Kp c r (zx c r s).1/\(zx c r s).1.2.1=r.2.1:=by
 cases hf:(zx c r s).2 with
 | true=>obtain⟨a,b,d⟩:=pz h hf; exact⟨⟨a,b⟩,d⟩
 | false=>rw[WR hf]; exact⟨Kp.refl h,rfl⟩
theorem cE {c:za} {r:zb} {v:Int} (h:zf c r=true) (hv:1<=v/\v<=60):Kp c r (yF r v):=⟨sM h hv,rfl⟩
theorem OT {c:za} {r:zb} (h:zf c r=true) (q:zJ):Kp c r (top c r q).1:=by
 obtain⟨k1,k2⟩:=cF h (see c r.2.2.2.1 q);have hv:=Nq h;unfold top;cases (zx c r (see c r.2.2.2.1 q)).2
 ·exact Kp.refl h
 ·simp only[ahC,ahv];by_cases h60:q.1+1>60
  ·simp only[h60,ahB,ahw]; exact k1
  ·have k3:Kp c r (yF (zx c r (see c r.2.2.2.1 q)).1 (max (zx c r (see c r.2.2.2.1 q)).1.2.1 (q.1+1))):=k1.trans (cE k1.1 (by rw[k2]; omega))
   simp only[h60,ahG,ahv];cases (yY c (q.1+1)==r.1)
   ·exact k3.trans (li k3.1 _ _)
   ·exact k3
theorem OL {c:za} {r:zb} (h:zf c r=true) (v:Int) (name:List UInt8) (force:Bool):Kp c r (YS c r v name force).1:=by
 unfold YS;cases (((jt r.2.2.2.2.2.1 v name).2.2.length:Int)==0)
 ·cases (name==([]:List UInt8))
  ·simp only[ahv];cases (yY c v==r.1)
   ·simp only[ahv];cases (!force && decide ((KI (under c v r.1) (jt r.2.2.2.2.2.1 v name).2.2:Int)<((under c v r.1).length:Int)))
    ·exact li h _ _
    ·exact Kp.refl h
   ·simp only[ahw];cases (Y6 c (jt r.2.2.2.2.2.1 v name)).2
    ·exact Kp.refl h
    ·exact OT h _
  ·exact Kp.refl h
 ·exact Kp.refl h
theorem lg {c:za} {r:zb} (h:zf c r=true) (v:Int) (name:List UInt8) (force:Bool):Kp c r (climb c r v name force).1:=by
 unfold climb;cases (zf c r && (YS c r v name force).2)
 ·exact Kp.refl h
 ·exact OL h v name force
theorem Qe {c:za} {r:zb} {t:ya} (h:zf c r=true) (ht:jA c t=true):Kp c r (jl r t):=⟨gF h ht,rfl⟩
theorem OU {c:za} {r0 w:zb} (h0:zf c r0=true) (h:zf c w=true) (e:w.1=r0.1) (name:List UInt8):Kp c r0 (voted c r0 w name).1:=by
 unfold voted;cases ht:(zT c w.2.2.2.2.2.1 (zm name,name,[w.1])).2
 ·exact Kp.refl h0
 ·have k:=Qe (t:=(zT c w.2.2.2.2.2.1 (zm name,name,[w.1])).1) h (qi ht);have k2:=k.trans (lg k.1 (zm name) name false);exact⟨k2.1,k2.2.trans e⟩
theorem ta {c:za} {r:zb} (h:zf c r=true) (b:y0):Kp c r (LH c r b).1:=by
 unfold LH;rw[h];simp only[ahC,ahv];cases XE:jE c b
 ·exact Kp.refl h
 ·simp only[ahC,ahv];have hn:zD b.1=true/\b.1≠[]:=by
   unfold jE at XE;simp only[ahx,bne_iff_ne,ne_eq] at XE;exact⟨XE.2.1,XE.2.2.1⟩
  have hnv:=Qm hn.1 hn.2;cases decide (zm b.1≥r.2.1)
  ·simp only[ahv];obtain⟨k1,_⟩:=cF h (see c r.2.2.2.1 b.2);cases (zx c r (see c r.2.2.2.1 b.2)).2
   ·exact Kp.refl h
   ·exact k1
  ·simp only[ahw];have ki:=cE (v:=zm b.1) h hnv;obtain⟨k1,_⟩:=cF ki.1 (vote c (see c r.2.2.2.1 b.2) b);have k1:=ki.trans k1;cases (zx c (yF r (zm b.1)) (vote c (see c r.2.2.2.1 b.2) b)).2
   ·exact Kp.refl h
   ·simp only[ahC,ahv];cases J2 c (see c r.2.2.2.1 b.2) b
    ·exact k1
    ·exact OU h k1.1 k1.2 b.1
theorem OM {c:za} {r:zb} (h:zf c r=true) (p:zH):Kp c r (M2 c r p).1:=by
 unfold M2;rw[h];simp only[ahC,ahv];cases jc c p
 ·exact Kp.refl h
 cases (p.2.1==([]:List UInt8))
 ·cases decide (p.1<r.2.1)
  ·simp only[ahC,ahv];cases ht:(zT c r.2.2.2.2.2.1 p).2
   ·exact Kp.refl h
   ·have k:=Qe (t:=(zT c r.2.2.2.2.2.1 p).1) h (qi ht);exact k.trans (lg k.1 p.1 p.2.1 false)
  ·exact Kp.refl h
 ·exact Kp.refl h
theorem OP {c:za} {r:zb} (h:zf c r=true):Kp c r (late c r).1:=by
 have hv:=Nq h;unfold late;rw[h];simp only[ahC,ahv];by_cases h60:r.2.1≥60
 ·simp only[h60,ahB,ahw]; exact Kp.refl h
 ·have ki:=cE (v:=r.2.1+1) h (by omega);simp only[h60,ahG,ahv];cases (yY c (r.2.1+1)==r.1)
  ·simp only[ahv];have k:=ki.trans (li ki.1 (yY c (r.2.1+1)) (3,r.2.1+1,([],0,[],[]),(0,[],[]),r.2.2.2.1.2.2.1,r.1,0,0,0,0));cases (Zo c (yF r (r.2.1+1)) (yY c (r.2.1+1)) (3,r.2.1+1,([],0,[],[]),(0,[],[]),r.2.2.2.1.2.2.1,r.1,0,0,0,0)).2
   ·exact Kp.refl h
   ·exact k
  ·simp only[ahw];cases ht:(zT c r.2.2.2.2.2.1 (r.2.1+1,[],[r.1])).2
   ·exact Kp.refl h
   ·exact ki.trans (Qe ki.1 (qi ht))
theorem lh {c:za} {r:zb} (hr:zf c r=true) (m:zp):∀ (n i:Nat) (out:zb),Kp c r out->Kp c r (Jh c r m n i out).1
 | 0,_,out,h=>h
 | n+1,i,out,h=>by
  simp only[Jh];cases ((i:Int)==r.1)
  ·simp only[ahv];cases ht:(tell c out i m).2
   ·exact Kp.refl hr
   ·exact lh hr m n (i+1) _ (h.trans (pc ht))
  ·exact lh hr m n (i+1) out h
theorem OS {c:za} {r:zb} (h:zf c r=true) (m:zp):Kp c r (Ln c r m).1:=by
 unfold Ln;rw[h];exact lh h m _ 0 r (Kp.refl h)
theorem Rx {p:zw} {x:zz} (hp:yH p=true):yH (yX p x).1=true:=by
 unfold yX Zi;generalize yc (λ y => !zP y x) 0 p=k;cases h:yH (p.take k++x::p.drop k)
 ·exact hp
 ·exact h
theorem wX {c:za} {a v k:Int} {sf:zI} {p p':zw} {rest:ya×yP×jQ} (h:zf c (a,v,k,sf,p,rest)=true) (hp:yH p'=true):zf c (a,v,k,sf,p',rest)=true:=by
 unfold zf at h ⊢;simp only[ahx] at h ⊢;obtain⟨a1,a2,a3,a4,a5,a6,a7⟩:=h;exact⟨a1,a2,a3,a4,a5,hp,a7⟩
theorem ON {c:za} {r:zb} (h:zf c r=true) (x:zz):Kp c r (jb c r x).1:=by
 obtain⟨a,v,k,sf,p,rest⟩:=r;have hp:=(JH h).2.2.2.2.2.1;unfold jb;rw[h];exact⟨wX h (Rx hp),rfl⟩
theorem Aq {c:za} (h:zA c=true):yj c Z6=true:=by
 unfold yj Z6 yg;simp[h,Ql,BT]
theorem T8 {c:za} {s:List UInt8} (h:(Yd c s).2=true):yj c (Yd c s).1=true:=by
 unfold Yd at h ⊢;cases hc:((jj s).1.2 && ((jj s).1.1==(s.length:Int) && yj c (jj s).2))
 ·rw[hc] at h; cases h
 ·simp only[ahx] at hc;exact hc.2.2
theorem tv (c:za) (s:List UInt8):∀ (n at_:Nat) (old:zI),yj c old=true->yj c (jM c s n at_ old).1=true
 | 0,_,_,h=>h
 | n+1,at_,old,h=>by
  simp only[jM];cases hc:((ye s at_).2.2 && (decide ((ye s at_).2.1<(s.length:Int)) && (s.getD (ye s at_).2.1.toNat 0==10 && (Yd c (ye s at_).1).2)))
  ·exact h
  ·simp only[ahx] at hc;exact tv c s n _ _ (T8 hc.2.2.2)
theorem Pz {c:za} (h:zA c=true) (s:List UInt8):yj c (Jy c s).1=true:=tv c s _ 0 Z6 (Aq h)
theorem Ua {c:za} {s:zI} (h:yj c s=true):(0<=s.1/\s.1<=60)/\(0<=s.2.2.1.1/\s.2.2.1.1<=60):=by
 unfold yj at h;simp only[ahx,ahI] at h;refine⟨h.1,?_⟩;have hq:=h.2.2.1;unfold yg at hq;simp only[ahx,ai4] at hq;have:=qo hq.2.1;omega
theorem te {c:za} {r:zb} (h:zf c r=true):Kp c r (rise c r):=by
 obtain⟨h1,h2,h3,h4,h5,h6,h7,h8,h9,XV⟩:=JH h;unfold rise;rw[h];simp only[ahw];refine⟨?_,rfl⟩;have hs:=Pz h1 r.2.2.2.2.2.2.1.1;obtain⟨b1,b2,b3⟩:=tD c r.2.2.2.2.2.2.1.1;obtain⟨s1,s2⟩:=Ua hs;unfold yx at h8;simp only[ahx,ahI] at h8;unfold zf;simp only[ahx,ahI];have hv:1<=QR (Jy c r.2.2.2.2.2.2.1.1).1/\QR (Jy c r.2.2.2.2.2.2.1.1).1<=60:=by
  unfold QR;rw[zg (by omega) (by omega)];omega
 refine⟨h1,h2,hv,by omega,hs,rfl,rfl,?_,by simp,by simp⟩;unfold yx;simp only[ahx,ahI,ahM];omega
theorem OQ {c:za} {r:zb} (h:zf c r=true):Kp c r (jN c r).1:=by
 obtain⟨h1,h2,h3,h4,h5,h6,h7,h8,h9,XV⟩:=JH h;unfold jN;rw[h];simp only[ahw];refine⟨?_,rfl⟩;unfold zf;simp only[ahx,ahI];refine⟨h1,h2,h3,h4,h5,h6,h7,?_,by simp,by simp⟩;unfold qh;rw[if_pos h8];unfold yx at h8 ⊢;simp only[ahx,ahI] at h8 ⊢;omega
noncomputable def bl (q:zJ) (w:zb) (v:Int):zb:=yF w (max v (min (q.1+1) 60))
noncomputable def M3 (c:za) (r:zb) (v:Int) (q:zJ) (who:Int):zb×Bool:=
 bif !zf c r then (r,false) else bif !(decide (v≥1) && decide (v<=60)) then (r,false) else bif !yg c q then (r,false) else bif !(decide (who≥0) && decide (who<=wr (c.1 - 1))) then (r,false) else
 bif (zx c r (see c r.2.2.2.1 q)).2 then
  (bif yY c v==r.1 then
   (bif decide (v≥r.2.1) then
    (bif !(zT c (zx c r (see c r.2.2.2.1 q)).1.2.2.2.2.2.1 (v,[],[who])).2 then (r,false) else
     bif decide (((jt (zT c (zx c r (see c r.2.2.2.1 q)).1.2.2.2.2.2.1 (v,[],[who])).1 v []).2.2.length:Int)≥Y7 c) then
      (bl q (jl (zx c r (see c r.2.2.2.1 q)).1 (zT c (zx c r (see c r.2.2.2.1 q)).1.2.2.2.2.2.1 (v,[],[who])).1) (max (zx c r (see c r.2.2.2.1 q)).1.2.1 v),true)
     else (bl q (jl (zx c r (see c r.2.2.2.1 q)).1 (zT c (zx c r (see c r.2.2.2.1 q)).1.2.2.2.2.2.1 (v,[],[who])).1) (zx c r (see c r.2.2.2.1 q)).1.2.1,true))
    else (bl q (zx c r (see c r.2.2.2.1 q)).1 (zx c r (see c r.2.2.2.1 q)).1.2.1,true))
   else (bl q (zx c r (see c r.2.2.2.1 q)).1 (zx c r (see c r.2.2.2.1 q)).1.2.1,true))
 else (r,false)
theorem V5 (a b:Int):yd (a,b,())=some (min a b,()):=by
 rw[lC];congr 2;split<;>omega
theorem Vq (c:za) (r:zb) (v:Int) (q:zJ) (who:Int) (hr:ze r<=2000000) (hq:zi q<=2000000):eU (c,r,v,q,who,())=some ((M3 c r v q who).1,(M3 c r v q who).2,()):=by
 have hs:zC r.2.2.2.1<=2000000:=by simp only[ze] at hr; omega
 have aeP:=QZ c r.2.2.2.1 q;have hww:=l9 c r (see c r.2.2.2.1 q);have hwt:zF (zx c r (see c r.2.2.2.1 q)).1.2.2.2.2.2.1<=100000000:=by simp only[ze] at *; omega
 have hp:=pp v who [];simp only[ahA] at hp;have hta:=gu c (zx c r (see c r.2.2.2.1 q)).1.2.2.2.2.2.1 (v,[],[who]);unfold eU M3;dsimp only;rw[Zm r (by omega),Option.bind_some,Z0 c r (by omega),Option.bind_some,Yh,Option.bind_some,Lf c q (by omega),Option.bind_some,Yh,Option.bind_some,Option.bind_some,fk c r.2.2.2.1 q (by omega) (by omega),Option.bind_some,aV c r (see c r.2.2.2.1 q) (by omega) (by omega),Option.bind_some,Mb,Option.bind_some,
  aI c (zx c r (see c r.2.2.2.1 q)).1.2.2.2.2.2.1 (v,[],[who]) hwt (by omega),Option.bind_some,oV (zT c (zx c r (see c r.2.2.2.1 q)).1.2.2.2.2.2.1 (v,[],[who])).1 v [] (by omega),Option.bind_some,oS,Option.bind_some]
 cases WX:zf c r
 ·rfl
 cases (decide (v≥1) && decide (v<=60))
 ·rfl
 cases hqo:yg c q
 ·rfl
 cases (decide (who≥0) && decide (who<=wr (c.1 - 1)))
 ·rfl
 have hqv:0<=q.1/\q.1<=60:=by
  unfold yg at hqo;simp only[ahx,ai4] at hqo;have:=qo hqo.2.1;omega
 have e1:wr (q.1+1)=q.1+1:=zg (by omega) (by omega);simp only[ahC,ahv,e1,V5,Mm,ahu];cases (zx c r (see c r.2.2.2.1 q)).2
 ·rfl
 cases (yY c v==r.1)
 ·rfl
 cases decide (v≥r.2.1)
 ·rfl
 cases (zT c (zx c r (see c r.2.2.2.1 q)).1.2.2.2.2.2.1 (v,[],[who])).2
 ·rfl
 cases decide (((jt (zT c (zx c r (see c r.2.2.2.1 q)).1.2.2.2.2.2.1 (v,[],[who])).1 v []).2.2.length:Int)≥Y7 c)<;>rfl
theorem lj {c:za} {w:zb} {q:zJ} {v:Int} (h:zf c w=true) (hq:0<=q.1) (hv:1<=v/\v<=60):Kp c w (bl q w v):=cE h (by omega)
theorem OO {c:za} {r:zb} (h:zf c r=true) (v:Int) (q:zJ) (who:Int):Kp c r (M3 c r v q who).1:=by
 have hv:=Nq h;obtain⟨k1,k2⟩:=cF h (see c r.2.2.2.1 q);unfold M3;rw[h];simp only[ahC,ahv];cases hvv:(decide (v≥1) && decide (v<=60))
 ·exact Kp.refl h
 simp only[ahx,ahI] at hvv;cases hqo:yg c q
 ·exact Kp.refl h
 have hqv:0<=q.1/\q.1<=60:=by
  unfold yg at hqo;simp only[ahx,ai4] at hqo;have:=qo hqo.2.1;omega
 cases (decide (who≥0) && decide (who<=wr (c.1 - 1)))
 ·exact Kp.refl h
 simp only[ahC,ahv];cases (zx c r (see c r.2.2.2.1 q)).2
 ·exact Kp.refl h
 simp only[ahw];have kw:=k1.trans (lj (q:=q) (v:=(zx c r (see c r.2.2.2.1 q)).1.2.1) k1.1 hqv.1 (by rw[k2]; exact hv))
 cases (yY c v==r.1)
 ·exact kw
 cases decide (v≥r.2.1)
 ·exact kw
 simp only[ahw];cases ht:(zT c (zx c r (see c r.2.2.2.1 q)).1.2.2.2.2.2.1 (v,[],[who])).2
 ·exact Kp.refl h
 have kt:=k1.trans (Qe k1.1 (qi ht));simp only[ahC,ahv];cases decide (((jt (zT c (zx c r (see c r.2.2.2.1 q)).1.2.2.2.2.2.1 (v,[],[who])).1 v []).2.2.length:Int)≥Y7 c)
 ·exact kt.trans (lj kt.1 hqv.1 (by rw[k2]; exact hv))
 ·exact kt.trans (lj kt.1 hqv.1 (by rw[k2]; omega))
def YQ (l:ya) (v:Int):ya:=l.filter λ p=>decide (p.1≥v)
noncomputable def Nl (p:zw) (l:z8):zw:=p.filter λ x=>(pay l x).2 != 2
theorem rS {α:Type} (q:α->Bool) {l:List α} {i:Nat} (hi:i<l.length):(l.drop i).filter q=(if q l[i]=true then [l[i]] else [])++(l.drop (i+1)).filter q:=by
 rw[ahP hi,aiZ];split<;>rfl
theorem VO (l:ya) (v:Int) (hl:zF l<=137438953472):fA (l,v,())=some (YQ l v,()):=by
 have hll:=qp l;unfold fA YQ;dsimp only;refine (walk l.length (λ i (s:ya)=>(s,i,())) (λ i s=>s.length<=i) (λ i s=>some (s++(l.drop i).filter (λ p=>decide (p.1≥v)),())) (by omega) ?_ ?_ (s0:=[]) (Nat.le_refl _)).trans (by simp)
 ·intro rec s hs;simp
 ·intro rec i s hi hs;have hx:l[i]?=some l[i]:=List.getElem?_eq_getElem hi;have hw:zk l[i]<=137438953472:=Mt hl hx;right;simp only[zu hi,decide_true,cond_true,and_self,if_true,Int.toNat_natCast,zq (e:=Jk) hx,Mg l[i] hw,Option.bind_some,zt (show i<4611686018427387904 by omega),rS (λ p:zH=>decide (p.1≥v)) hi];by_cases hq:l[i].1≥v
  ·simp only[hq,ahB,ahw,if_true];rw[if_pos (by simp only[ahz,ahA]; omega)]
   exact⟨s++[l[i]],by simp only[ahD,ahz,ahA]; omega,rfl,by simp⟩
  ·simp only[hq,ahG,ahv,ahT,if_false];exact⟨s,by omega,rfl,by simp⟩
theorem VA (p:zw) (l:z8) (hp:p.length<=137438953472) (h1:l.1.length<=137438953472) (h2:l.2.length<=137438953472):ay (p,l,())=some (Nl p l,()):=by
 unfold ay Nl;dsimp only;refine (walk p.length (λ i (s:zw)=>(s,i,())) (λ i s=>s.length<=i) (λ i s=>some (s++(p.drop i).filter (λ x=>(pay l x).2 != 2),())) (by omega) ?_ ?_ (s0:=[]) (Nat.le_refl _)).trans (by simp)
 ·intro rec s hs;simp
 ·intro rec i s hi hs;have hx:p[i]?=some p[i]:=List.getElem?_eq_getElem hi;right;simp only[zu hi,decide_true,cond_true,and_self,if_true,Int.toNat_natCast,zq (e:=jO) hx,oN l p[i] h1 h2,Option.bind_some,zt (show i<4611686018427387904 by omega),rS (λ x:zz=>(pay l x).2 != 2) hi];cases hq:((pay l p[i]).2 != 2)
  ·simp only[ahv,ahT,if_false];exact⟨s,by omega,rfl,by simp⟩
  ·simp only[ahw,if_true];rw[if_pos (by simp only[ahz,ahA]; omega)]
   exact⟨s++[p[i]],by simp only[ahD,ahz,ahA]; omega,rfl,by simp⟩
theorem Gz {α:Type} {ok:α->Bool} {lt:α->α->Bool} (ht:∀ a b d,lt a b=true->lt b d=true->lt a d=true):∀ {l:List α} {x y:α},yq ok lt (some y) l=true->lt x y=true->yq ok lt (some x) l=true
 | [],_,_,_,_=>rfl
 | z::l,x,y,h,hxy=>by
  simp only[yq,ahx] at h ⊢;exact⟨h.1,ht _ _ _ hxy h.2.1,h.2.2⟩
theorem rm {α:Type} {ok:α->Bool} {lt:α->α->Bool}:∀ {l:List α} {p:Option α},yq ok lt p l=true->yq ok lt none l=true
 | [],_,_=>rfl
 | z::l,p,h=>by
  simp only[yq,ahx] at h ⊢;exact⟨h.1,trivial,h.2.2⟩
theorem ri {α:Type} {ok:α->Bool} {lt:α->α->Bool} (ht:∀ a b d,lt a b=true->lt b d=true->lt a d=true) (q:α->Bool):∀ {l:List α} {p:Option α},yq ok lt p l=true->yq ok lt p (l.filter q)=true
 | [],_,_=>rfl
 | z::l,p,h=>by
  simp only[yq,ahx] at h;have ih:=ri ht q h.2.2;rw[aiZ];split
  ·simp only[yq,ahx];exact⟨h.1,h.2.1,ih⟩
  ·cases p with
   | none=>exact rm ih
   | some y=>exact Gz ht ih h.2.1
theorem ro {α:Type} {ok:α->Bool} {lt:α->α->Bool} (key:α->Int) (hk:∀ a b,lt a b=true->key a<=key b) (v:Int):∀ {l:List α} {p:Option α},yq ok lt p l=true->(∃ y,p=some y/\key y≥v)->l.filter (λ x=>decide (key x≥v))=l
 | [],_,_,_=>rfl
 | z::l,p,h,hp=>by
  obtain⟨y,rfl,hy⟩:=hp;simp only[yq,ahx] at h;have:=hk _ _ h.2.1;have hz:key z≥v:=by omega
  rw[aiZ,if_pos (by simpa using hz),ro key hk v h.2.2 ⟨z,rfl,hz⟩]
theorem rh {α:Type} {ok:α->Bool} {lt:α->α->Bool} (key:α->Int) (hk:∀ a b,lt a b=true->key a<=key b) (v:Int):∀ {l:List α} {p:Option α},yq ok lt p l=true->yq ok lt none (l.filter (λ x=>decide (key x≥v)))=true
 | [],_,_=>rfl
 | z::l,p,h=>by
  have h':=h;simp only[yq,ahx] at h;rw[aiZ];split
  ·next hz=>
   have hz:key z≥v:=by simpa using hz
   rw[ro key hk v h.2.2 ⟨z,rfl,hz⟩];exact rm h'
  ·exact rh key hk v h.2.2
theorem Gi (a b:zH) (h:ZK a b=true):a.1<=b.1:=by
 unfold ZK at h;simp only[ai8,ahx,ahI,ai4] at h;omega
theorem By {c:za} {l:ya} (h:jA c l=true) (v:Int):jA c (YQ l v)=true:=by
 unfold jA YQ at *;simp only[ahx,ahI] at h ⊢;have hl:=List.length_filter_le (λ p:zH=>decide (p.1≥v)) l;exact⟨rh (λ p:zH=>p.1) Gi v h.1,by omega⟩
theorem Gj (a b d:zz) (h1:zP a b=true) (h2:zP b d=true):zP a d=true:=by
 unfold zP at *;simp only[ai8,ahx,ahI,ai4] at *;omega
theorem RA {p:zw} (h:yH p=true) (l:z8):yH (Nl p l)=true:=by
 unfold yH Nl at *;simp only[ahx,ahI] at h ⊢;have hl:=List.length_filter_le (λ x=>(pay l x).2 != 2) p;exact⟨ri Gj _ h.1,by omega⟩
noncomputable def yE (c:za) (r:zb) (m:zp):zb×Bool:=
 bif m.1==1 then LH c r m.2.2.1 else bif m.1==2 then M2 c r m.2.2.2.1 else bif m.1==3 then M3 c r m.2.1 m.2.2.2.2.1 m.2.2.2.2.2.1 else jb c r m.2.2.2.2.2.2
noncomputable def swept (c:za) (r:zb):zb:=
 (r.1,r.2.1,r.2.2.1,r.2.2.2.1,Nl r.2.2.2.2.1 (state c (jl r (YQ r.2.2.2.2.2.1 (r.2.1 - 1)))),YQ r.2.2.2.2.2.1 (r.2.1 - 1),r.2.2.2.2.2.2)
noncomputable def LI (c:za) (r:zb) (m:zp):zb×Bool:=
 bif !zf c r then (r,false) else bif !yG c m then (r,false) else bif !(yE c r m).2 then (r,false) else (swept c (yE c r m).1,true)
theorem tb {c:za} {r:zb} (h:zf c r=true) (m:zp):Kp c r (yE c r m).1:=by
 unfold yE;cases (m.1==1)
 ·cases (m.1==2)
  ·cases (m.1==3)
   ·exact ON h _
   ·exact OO h _ _ _
  ·exact OM h _
 ·exact ta h _
theorem OR {c:za} {r:zb} (h:zf c r=true):Kp c r (swept c r):=by
 obtain⟨h1,h2,h3,h4,h5,h6,h7,h8,h9,XV⟩:=JH h;have k:=gF h (By h7 (r.2.1 - 1));unfold swept;generalize state c (jl r (YQ r.2.2.2.2.2.1 (r.2.1 - 1)))=l;exact⟨wX (p:=r.2.2.2.2.1) k (RA h6 l),rfl⟩
theorem tc {c:za} {r:zb} (h:zf c r=true) (m:zp):Kp c r (LI c r m).1:=by
 have k:=tb h m;unfold LI;rw[h];simp only[ahC,ahv];cases yG c m
 ·exact Kp.refl h
 ·simp only[ahC,ahv];cases (yE c r m).2
  ·exact Kp.refl h
  ·exact k.trans (OR k.1)
theorem VZ {c:za} {r:zb} {m:zp} (hr:zf c r=true) (hm:yG c m=true):fS (c,r,m,())=some ((yE c r m).1,(yE c r m).2,()):=by
 have hw:=Kf hr;have hmw:=cZ hm;have w1:zB m.2.2.1<=3847:=by simp only[zh] at hmw; omega
 have w2:zk m.2.2.2.1<=3847:=by simp only[zh] at hmw; omega
 have w3:zi m.2.2.2.2.1<=3847:=by simp only[zh] at hmw; omega
 unfold fS yE;dsimp only;rw[AZ c r m.2.2.1 (by omega),Vp c r m.2.2.2.1 (by omega) (by omega),Vq c r m.2.1 m.2.2.2.2.1 m.2.2.2.2.2.1 (by omega) (by omega),A0 c r m.2.2.2.2.2.2 (by omega)];cases (m.1==1)<;>cases (m.1==2)<;>cases (m.1==3)<;>rfl
theorem A1 (c:za) (r:zb) (m:zp) (hr:ze r<=137438953472) (hm:zh m<=137438953472):Kj (c,r,m,())=some ((LI c r m).1,(LI c r m).2,()):=by
 unfold Kj LI;dsimp only;rw[Z0 c r hr,ahu,Zm r hr,NO c m hm,ahu,ahu];cases WX:zf c r
 ·rfl
 cases hmo:yG c m
 ·rfl
 simp only[ahC,ahv];rw[VZ WX hmo,ahu];dsimp only;cases (yE c r m).2
 ·rfl
 have k:=(tb WX m).1;obtain⟨h1,h2,h3,h4,h5,h6,h7,h8,h9,XV⟩:=JH k;have hw:=Kf k;have hkt:=Qe k (By h7 ((yE c r m).1.2.1 - 1));have hw2:=Kf hkt.1;have hsw:=V6 c (jl (yE c r m).1 (YQ (yE c r m).1.2.2.2.2.2.1 ((yE c r m).1.2.1 - 1)));have ht:=Bz h7;simp only[gA,zn] at hsw;have hpl:(yE c r m).1.2.2.2.2.1.length<=260000:=by simp only[ze,Yk] at hw; omega
 simp only[ahC,ahv];rw[zg (n:=(yE c r m).1.2.1 - 1) (by omega) (by omega),VO _ _ (by omega),ahu];dsimp only;have es:aG (c,jl (yE c r m).1 (YQ (yE c r m).1.2.2.2.2.2.1 ((yE c r m).1.2.1 - 1)),())=some (state c (jl (yE c r m).1 (YQ (yE c r m).1.2.2.2.2.2.1 ((yE c r m).1.2.1 - 1))),()):=VL c _ (by omega);have ep:ay ((yE c r m).1.2.2.2.2.1,state c (jl (yE c r m).1 (YQ (yE c r m).1.2.2.2.2.2.1 ((yE c r m).1.2.1 - 1))),())=some (Nl (yE c r m).1.2.2.2.2.1 (state c (jl (yE c r m).1 (YQ (yE c r m).1.2.2.2.2.2.1 ((yE c r m).1.2.1 - 1)))),()):=VA _ _ (by omega) (by omega) (by omega);unfold jl at es ep;rw[es,ahu,ep,ahu];rfl
theorem lX {c:za} {i:Int} (h:zA c=true) (h0:0<=i) (h1:i<c.1):zf c (Y3 i)=true:=by
 unfold zf Y3;simp only[h,Aq h,yH,jA,yq,yx,ahA,List.all_nil,Bool.and_true,ahU,ahx,ahI];omega
theorem sy {α:Type} (p:Nat->α->Bool):∀ (l:List α) (k:Nat),jS p k l=true↔∀ i (h:i<l.length),p (k+i) l[i]=true
 | [],k=>by simp[jS]
 | x::l,k=>by
  unfold jS;simp only[ahx,sy p l (k+1)];constructor
  ·rintro⟨a,b⟩ i h;cases i with
   | zero=>exact a
   | succ i=>have:=b i (by simpa using h); simp only[List.getElem_cons_succ]; rw[show k+(i+1)=k+1+i by omega]; exact this
  ·intro hh;refine⟨hh 0 (by simp),λ i h => ?_⟩;have:=hh (i+1) (by simpa using h);simp only[List.getElem_cons_succ] at this;rw[show k+1+i=k+(i+1) by omega]; exact this
theorem RN {c:za} {i:Int} (h:zA c=true) (h0:0<=i) (h1:i<c.1):JG c i=(Y3 i,true):=by
 unfold JG;rw[lX h h0 h1]; rfl
structure WI (w:zy):Prop where
 conf:zA w.1=true
 liars:w.2.1.length<=7/\∀ x∈w.2.1,0<=x/\x<w.1.1
 len:(w.2.2.1.length:Int)=w.1.1
 reps:∀ i (h:i<w.2.2.1.length),zf w.1 w.2.2.1[i]=true/\(w.2.2.1[i]).1=(i:Int)
 net:w.2.2.2.1.length<=60/\∀ x∈w.2.2.2.1,(0<=x.1/\x.1<w.1.1)/\x.2.length<=1000000
 said:w.2.2.2.2.length<=300/\∀ s∈w.2.2.2.2,(zD s.2.1=true/\zm s.2.1=s.1)/\(0<=s.2.2/\s.2.2<w.1.1)
theorem c7 {c:za} (h:zA c=true):J6 c=(List.range c.1.toNat).map (λ (i:Nat)=>Y3 (i:Int)):=by
 have hb:=ym h;unfold J6;rw[if_pos h];refine List.map_congr_left λ i hi => ?_;have:=List.mem_range.1 hi;rw[RN h (by omega) (by omega)]
theorem Rb {c:za} {liars:y5} (h:zA c=true) (hl:liars.length<=7) (hm:∀ x∈liars,0<=x/\x<c.1):WI (yW c liars):=by
 have hb:=ym h;refine⟨h,⟨hl,hm⟩,?_,?_,⟨by simp[yW],by simp[yW]⟩,⟨by simp[yW],by simp[yW]⟩⟩
 ·simp only[yW,c7 h,aij,aj1]; omega
 ·intro i hi;simp only[yW,c7 h,aij,aj1] at hi;simp only[yW,c7 h,List.getElem_map,List.getElem_range];exact⟨lX h (by omega) (by omega),rfl⟩
theorem WI.setRep {c:za} {l:y5} {reps:Yo} {rest:jn×yQ} (h:WI (c,l,reps,rest)) {i:Nat} (hi:i<reps.length) {r:zb} (k:Kp c reps[i] r):WI (c,l,reps.set i r,rest):=by
 obtain⟨h1,h2,h3,h4,h5,h6⟩:=h;refine⟨h1,h2,?_,?_,h5,h6⟩
 ·dsimp only at h3 ⊢;rw[aj9]; exact h3
 ·intro j hj;dsimp only at hj h4 ⊢;rw[aj9] at hj;rw[List.getElem_set];by_cases e:i=j
  ·subst e;rw[if_pos rfl];exact⟨k.1,k.2.trans (h4 i hi).2⟩
  ·rw[if_neg e];exact h4 j hj
def Step (w:zy) (o o':Option (zy×Int×Unit)):Prop:=
 (∃ w',o=some (w',0,())/\WI w'/\has o'=false)∨(∃ n:Int,n≠0/\o=some (w,n,())/\o'=some (w,n,()))
theorem Step.same {w:zy} {n:Int} (hn:n≠0):Step w (some (w,n,())) (some (w,n,())):=.inr ⟨n,hn,rfl,rfl⟩
theorem Step.next {w w':zy} {o':Option (zy×Int×Unit)} (h:WI w') (ho:has o'=false):Step w (some (w',0,())) o':=.inl ⟨w',rfl,h,ho⟩
theorem Step.wrap {w:zy} {o o':Option (zy×Int×Unit)} (h:Step w o o'):Step w (o.bind λ r=>some (r.1,r.2.1,())) (o'.bind λ r=>some (r.1,r.2.1,())):=by
 rcases h with⟨w',rfl,h,k⟩|⟨n,hn,rfl,rfl⟩
 ·refine .inl ⟨w',rfl,h,?_⟩;cases o' with
  | none=>rfl
  | some r=>exact k
 ·exact .inr ⟨n,hn,rfl,rfl⟩
theorem WI.rep {c:za} {l:y5} {reps:Yo} {rest:jn×yQ} (h:WI (c,l,reps,rest)) {i:Int} (h0:0<=i) (h1:i<(reps.length:Int)):∃ r,reps[i.toNat]?=some r/\zf c r=true/\ze r<=260000/\∀ r',Kp c r r'->WI (c,l,reps.set i.toNat r',rest):=by
 have hi:i.toNat<reps.length:=by omega
 have k:=(h.reps i.toNat hi).1;exact⟨reps[i.toNat],List.getElem?_eq_getElem hi,k,Kf k,λ r' kk=>h.setRep hi kk⟩
theorem lf {c:za} {r:zb} (h:zf c r=true):Kp c r (r.1,r.2.1,r.2.1,r.2.2.2):=by
 refine⟨?_,rfl⟩;unfold zf at h ⊢;simp only[ahx,ahI] at h ⊢;exact⟨h.1,h.2.1,h.2.2.1,⟨by have:=h.2.2.1; omega,by have:=h.2.2.1; omega⟩,h.2.2.2.2⟩
theorem Pg {w:zy} (h:WI w) (i:Int) (h0:0<=i) (h1:i<(w.2.2.1.length:Int)):Step w (fX (w,i,())) (fY (w,i,())):=by
 obtain⟨c,l,reps,rest⟩:=w;obtain⟨r,hr,WX,hw,XD⟩:=h.rep h0 h1;have ha:=Gh c r;have kt:=(lf WX).trans (OS (lf WX).1 (1,0,(ask c r).1,(0,[],[]),(0,[],[]),0,0,0,0,0));have hw2:=Kf kt.1;have hw1:=Kf (lf WX).1;have kb:=kt.trans (ta kt.1 (ask c r).1);dsimp only at h1;unfold fX fY;simp only[h0,h1,ahL,if_true,zq (e:=Jl) hr,AY c r (by omega),ahu];cases (ask c r).2
 ·exact Step.same (show (_:Int)≠0 from by first|exact (by decide:(3:Int)≠0)|exact (by decide:(4:Int)≠0))
 have e1:=VP c (r.1,r.2.1,r.2.1,r.2.2.2) (1,0,(ask c r).1,(0,[],[]),(0,[],[]),0,0,0,0,0) (by omega) (by simp only[zh,zk,zi,zn,ahA]; omega)
 have e2:=AZ c (Ln c (r.1,r.2.1,r.2.1,r.2.2.2) (1,0,(ask c r).1,(0,[],[]),(0,[],[]),0,0,0,0,0)).1 (ask c r).1 (by omega);simp only[ahC,ahv,Zm r (by omega),ahu,e1,e2];cases (Ln c (r.1,r.2.1,r.2.1,r.2.2.2) (1,0,(ask c r).1,(0,[],[]),(0,[],[]),0,0,0,0,0)).2
 ·exact Step.same (show (_:Int)≠0 from by first|exact (by decide:(3:Int)≠0)|exact (by decide:(4:Int)≠0))
 cases (LH c (Ln c (r.1,r.2.1,r.2.1,r.2.2.2) (1,0,(ask c r).1,(0,[],[]),(0,[],[]),0,0,0,0,0)).1 (ask c r).1).2
 ·exact Step.same (show (_:Int)≠0 from by first|exact (by decide:(3:Int)≠0)|exact (by decide:(4:Int)≠0))
 exact Step.next (XD _ kb) rfl
end G448
namespace G448
open Ev
def bX (l:yQ) (v:Jq):Bool:=l.any (λ x=>x.1==v.1 && (x.2.1==v.2.1 && x.2.2==v.2.2))
def J0 (acc:yQ) (x:Jq):yQ:=bif decide ((acc.length:Int)<300) && !bX acc x then acc++[x] else acc
def cP (id:Int) (acc:yQ) (p:JR):yQ:=(YH id p.2).foldl J0 acc
def learn (w:zy) (id:Int) (sent:jQ):zy:=
 bif (ZP w).any (· == id) then (w.1,w.2.1,w.2.2.1,w.2.2.2.1,sent.foldl (cP id) w.2.2.2.2) else w
theorem tG (acc:yQ) (x:Jq) (h:acc.length<=137438953472):(J0 acc x).length<=137438953472:=by
 unfold J0;by_cases hc:(acc.length:Int)<300
 ·cases bX acc x<;>simp[hc]<;>omega
 ·simp[hc]; omega
theorem PC (id:Int) (p:JR) (acc:yQ) (h:acc.length<=137438953472):(cP id acc p).length<=137438953472:=
 IK (YH id p.2) J0 (λ _ s=>s.length<=137438953472) (λ _ s x _ _ hs=>tG s x hs) h
theorem Vt (w:zy) (id:Int) (sent:jQ) (hw:Z5 w<=137438953472) (hs:yr sent<=137438953472):eW (w,id,sent,())=some (learn w id sent,()):=by
 have h1:w.2.1.length<=137438953472:=by simp only[Z5,zn] at hw; omega
 have h2:w.2.2.1.length<=137438953472:=by simp only[Z5,Mu] at hw; omega
 have h3:w.2.2.2.2.length<=137438953472:=by simp only[Z5,Lp] at hw; omega
 have h4:=I0 w;have hl:sent.length<=137438953472:=by simp only[yr] at hs; omega
 unfold eW learn;simp only[V2 w hw,A2 w h1 h2,Yg (ZP w) id (by omega),ahu];cases (ZP w).any (· == id)
 ·rfl
 simp only[ahC,ahv,ahw];refine (MY (λ i (s:yQ)=>(i,(w.1,w.2.1,w.2.2.1,w.2.2.2.1,s),())) sent (cP id) (λ s=>some ((w.1,w.2.1,w.2.2.1,w.2.2.2.1,s),())) (by omega) (λ _ s=>s.length<=137438953472) ?_ ?_ h3)
 ·intro rec s hs'; simp
 ·intro rec i s p hx hi hs';refine⟨PC id p s hs',?_⟩;have hp:zh p.2<=137438953472:=by have:=ZF Z4 (List.mem_of_getElem? hx); simp only[Z4] at this; unfold yr at hs; omega
  have hso:=Ue id p.2;have X7:(YH id p.2).length<=137438953473:=by simp only[Lp] at hso; omega
  simp only[ahH,zu hi,ahB,ahw,if_true,ahL,zq (e:=(.pair .i64 (.pair .i64 (.pair .i64 (.pair (.pair .str (.pair .i64 (.pair .str (.sl 0 .i64)))) (.pair (.pair .i64 (.pair .str (.sl 0 .i64))) (.pair (.pair .i64 (.pair .str (.sl 0 .i64))) (.pair .i64 (.pair .i64 (.pair .i64 (.pair .i64 .i64))))))))))) hx,
   VH id p.2 (MsgW.of (by omega)),ahu,zt (show i<4611686018427387904 by omega)]
  refine MY (λ j (s:yQ)=>(j,(w.1,w.2.1,w.2.2.1,w.2.2.2.1,s),())) (YH id p.2) J0 (λ s=>rec ((i:Int)+1,(w.1,w.2.1,w.2.2.1,w.2.2.2.1,s),())) (by omega) (λ _ s=>s.length<=137438953472) ?_ ?_ hs'
  ·intro rec2 t ht; simp
  ·intro rec2 j t x hy hj ht;refine⟨tG t x ht,?_⟩;simp only[ahH,zu hj,ahB,ahw,if_true,ahL,zq (e:=(.pair .i64 (.pair .str .i64))) hy,Bn t x.1 x.2.1 x.2.2 (by omega),ahu,zt (show j<4611686018427387904 by omega),ahz,ahA];unfold J0 bX;by_cases hc:(t.length:Int)<300
   ·simp only[hc,ahB,ahw,ahU];cases t.any (λ y=>y.1==x.1 && (y.2.1==x.2.1 && y.2.2==x.2.2))
    ·simp only[ahY,ahw];rw[if_pos (by omega)]
    ·rfl
   ·simp only[hc,ahG,ahv,ail]
end G448
namespace G448
open Ev Go
set_option maxRecDepth 100000
theorem PA {c:za} {l:y5} {reps:Yo} {rest:jn×yQ} {i:Int} {r:zb} (WX:zf c r=true) (hw:ze r<=260000) (XD:∀ r',Kp c r r'->WI (c,l,reps.set i.toNat r',rest)):
  Step (c,l,reps,rest) ((L7 (c,r,())).bind λ r6=>bif !r6.2.1 then some ((c,l,reps,rest),3,()) else some ((c,l,reps.set i.toNat r6.1,rest),0,())) ((L7 (c,r,())).bind λ r6=>bif !r6.2.1 then some ((c,l,reps,rest),3,()) else none):=by
 rw[Vs c r (by omega),ahu,ahu];dsimp only;cases (late c r).2
 ·exact Step.same (show (3:Int)≠0 by decide)
 ·exact Step.next (XD _ (OP WX)) rfl
theorem II {c:za} {l:y5} {reps:Yo} {rest:jn×yQ} {i:Int} {r:zb} (keep:Int) (WX:zf c r=true) (hf:yx (KM r.2.2.2.2.2.2.1 keep)=true) (XD:∀ r',Kp c r r'->WI (c,l,reps.set i.toNat r',rest)):
  WI (c,l,reps.set i.toNat (rise c (r.1,r.2.1,r.2.2.1,r.2.2.2.1,r.2.2.2.2.1,r.2.2.2.2.2.1,KM r.2.2.2.2.2.2.1 keep,r.2.2.2.2.2.2.2)),rest):=by
 refine XD _ ?_;have h:zf c (r.1,r.2.1,r.2.2.1,r.2.2.2.1,r.2.2.2.2.1,r.2.2.2.2.2.1,KM r.2.2.2.2.2.2.1 keep,r.2.2.2.2.2.2.2)=true:=by
  unfold zf at WX ⊢;simp only[ahx] at WX ⊢;obtain⟨a1,a2,a3,a4,a5,a6,a7,a8,a9⟩:=WX;exact⟨a1,a2,a3,a4,a5,a6,a7,hf,a9⟩
 exact⟨(te h).1,(te h).2⟩
theorem IX {c:za} {l:y5} {reps:Yo} {rest:jn×yQ} {i:Int} {r:zb} {m:zp} (WX:zf c r=true) (hw:ze r<=260000) (hm:zh m<=137438953472) (XD:∀ r',Kp c r r'->WI (c,l,reps.set i.toNat r',rest)):
  Step (c,l,reps,rest) ((Kj (c,r,m,())).bind λ r7=>bif !r7.2.1 then some ((c,l,reps,rest),3,()) else bif m.1 != 4 then some ((c,l,reps,rest),3,()) else some ((c,l,reps.set i.toNat r7.1,rest),0,())) ((Kj (c,r,m,())).bind λ r7=>bif !r7.2.1 then some ((c,l,reps,rest),3,()) else bif m.1 != 4 then some ((c,l,reps,rest),3,()) else none):=by
 rw[A1 c r m (by omega) hm,ahu,ahu];dsimp only;cases (LI c r m).2
 ·exact Step.same (show (3:Int)≠0 by decide)
 cases (m.1 != 4)
 ·exact Step.next (XD _ (tc WX m)) rfl
 ·exact Step.same (show (3:Int)≠0 by decide)
theorem IH {d:yP} (h:yx d=true) (keep:Int):yx (KM d keep)=true:=by
 have hb:=rO h keep;have h':=KJ.1 h;unfold KM;rw[if_pos h];refine KJ.2 ?_;dsimp only;rw[ahM];omega
theorem Rs {r:zb} (hw:ze r<=260000) {p:zH} (hp:p∈r.2.2.2.2.2.1):p.2.1.length<=260000:=by
 have h:=ZF zk hp;simp only[ze,zF] at hw;simp only[zk] at h;omega
theorem step_loop {w:zy} {G G':(Int×zy×zy×Unit->Option (zy×Int×Unit))->Int×zy×zy×Unit->Option (zy×Int×Unit)} {z:zy} (n0:Nat)
  (h0:∀ rec rec',Step w (G rec (-1,w,z,())) (G' rec' (-1,w,z,())))
  (hs:∀ rec rec' (j:Nat),j<n0->(Step w (rec ((j:Int) - 1,w,z,())) (rec' ((j:Int) - 1,w,z,())))->Step w (G rec ((j:Int),w,z,())) (G' rec' ((j:Int),w,z,()))):
  ∀ (n m:Nat),m<=n0->m<n->Step w (iter G n ((m:Int) - 1,w,z,())) (iter G' n ((m:Int) - 1,w,z,()))
 | 0,m,_,h=>by omega
 | n+1,0,_,_=>h0 _ _
 | n+1,m+1,hm,h=>by
  have e:(((m+1:Nat):Int) - 1)=(m:Int):=by omega
  rw[e];exact hs _ _ m (by omega) (step_loop n0 h0 hs n m (by omega) (by omega))
theorem Pr {w:zy} (h:WI w) (i:Int) (h0:0<=i) (h1:i<(w.2.2.1.length:Int)):Step w (ge (w,i,())) (gg (w,i,())):=by
 obtain⟨c,l,reps,rest⟩:=w;obtain⟨r,hr,WX,hw,XD⟩:=h.rep h0 h1;dsimp only at h1;have ht:(r.2.2.2.2.2.1.length:Int)<=260000:=by simp only[ze,zF] at hw; omega
 unfold ge gg;simp only[h0,h1,ahL,if_true,zq (e:=Jl) hr];rw[zg (n:=(r.2.2.2.2.2.1.length:Int) - 1) (by omega) (by omega)];refine step_loop r.2.2.2.2.2.1.length ?_ ?_ fuel _ (Nat.le_refl _) (by rw[ja]; omega)
 ·intro rec rec';exact Step.same (show (3:Int)≠0 by decide)
 ·intro rec rec' j hj WW;have hx:=List.getElem?_eq_getElem hj;have hj':(j:Int)<(r.2.2.2.2.2.1.length:Int):=by omega
  have hn:=Rs hw (List.getElem_mem hj);simp only[zu,hj',Int.natCast_nonneg,ge_iff_le,ahB,ahw,ahL,if_true,ahH,zq (e:=Jk) hx];cases ((r.2.2.2.2.2.1[j]).2.1==[])
  ·simp only[cond_false,Vj c r _ _ true (show ze r<=15000000 by omega) (show (r.2.2.2.2.2.1[j]).2.1.length<=5000000 by omega),Option.bind_some,h0,h1,and_self,if_true];cases (climb c r (r.2.2.2.2.2.1[j]).1 (r.2.2.2.2.2.1[j]).2.1 true).2
   ·exact Step.same (show (3:Int)≠0 by decide)
   ·exact Step.next (XD _ (lg WX _ _ _)) rfl
  ·simp only[ahw];rw[zg (n:=(j:Int) - 1) (by omega) (by omega)];exact WW
def My (n:Int) (l:yQ):Prop:=l.length<=300/\∀ s∈l,(zD s.2.1=true/\zm s.2.1=s.1)/\(0<=s.2.2/\s.2.2<n)
theorem PB {n:Int} {acc:yQ} {x:Jq} (h:My n acc) (hx:(zD x.2.1=true/\zm x.2.1=x.1)/\(0<=x.2.2/\x.2.2<n)):My n (J0 acc x):=by
 unfold J0;cases hc:decide ((acc.length:Int)<300) && !bX acc x
 ·exact h
 ·simp only[ahx,ahI] at hc;refine⟨by simp only[ahw,ahD,ahz,ahA]; omega,λ s hs => ?_⟩
  simp only[ahw,ahR,ahO,aik,or_false] at hs;rcases hs with hs|rfl
  ·exact h.2 s hs
  ·exact hx
theorem Uf {id:Int} {m:zp}:∀ s∈YH id m,s.2.2=id:=by
 unfold YH;repeat' split
 all_goals simp
theorem nu {c:za} {q:zJ} (h:yg c q=true):zD q.2.1=true/\zm q.2.1=q.1:=by
 unfold yg at h;simp only[ahx,ai4] at h;exact⟨h.2.1,h.2.2.1⟩
theorem Ug {c:za} {m:zp} (hm:yG c m=true) (h4:¬ m.1=4) (h:¬ (YI m).2.1=[]):zD (YI m).2.1=true/\zm (YI m).2.1=(YI m).1:=by
 unfold yG at hm;unfold YI at h ⊢;simp only[ahx] at hm;have k:=hm.2.2;clear hm;by_cases e2:m.1=2
 ·have e1:(m.1==1)=false:=by rw[e2]; rfl
  have e22:(m.1==2)=true:=by rw[e2]; rfl
  rw[e1,e22] at k;rw[if_pos e2] at h ⊢;simp only[ahw,ahv,ahx,jc,ai8,ai4] at k;rcases k.1.2.2.2.2 with e|e
  ·exact absurd e h
  ·exact e
 by_cases e1:m.1=1
 ·have e11:(m.1==1)=true:=by rw[e1]; rfl
  rw[e11] at k;rw[if_neg e2,if_pos e1] at h ⊢;simp only[ahw,jE,ahx] at k;exact nu k.1
 rw[if_neg e2,if_neg e1] at h ⊢;have e11:(m.1==1)=false:=by simp[e1]
 have e22:(m.1==2)=false:=by simp[e2]
 have e44:(m.1==4)=false:=by simp[h4]
 rw[e11,e22,e44] at k;cases e33:(m.1==3)
 ·rw[e33] at k; simp at k
 ·rw[e33] at k;simp only[ahw,ahv,ahx] at k;exact nu k.2.1
theorem Ud {c:za} {id:Int} {m:zp} (hm:yG c m=true):∀ s∈YH id m,zD s.2.1=true/\zm s.2.1=s.1:=by
 unfold YH;by_cases h4:m.1=4
 ·simp[h4]
 rw[if_neg h4];by_cases h:(YI m).2.1=[]
 ·simp[h]
 rw[if_neg h];have k:=Ug hm h4 h;split
 ·intro s hs;simp only[ahO,aik,or_false] at hs;rw[hs]; exact k
 ·simp
theorem tF {n:Int}:∀ (l:yQ) {acc:yQ},My n acc->(∀ x∈l,(zD x.2.1=true/\zm x.2.1=x.1)/\(0<=x.2.2/\x.2.2<n))->My n (l.foldl J0 acc)
 | [],_,h,_=>h
 | x::l,_,h,hl=>tF l (PB h (hl x (by simp))) λ y hy=>hl y (by simp[hy])
theorem tH {c:za} {n:Int} {id:Int} (WV:0<=id/\id<n):∀ (ps:jQ) {acc:yQ},My n acc->(∀ p∈ps,yG c p.2=true)->My n (ps.foldl (cP id) acc)
 | [],_,h,_=>h
 | p::ps,_,h,hp=>by
  refine tH WV ps ?_ λ q hq=>hp q (by simp[hq]);refine tF _ h λ x hx=>⟨Ud (hp p (by simp)) x hx,?_⟩
  rw[Uf x hx]; exact WV
theorem PD {w:zy} (h:WI w) {id:Int} (WV:0<=id/\id<w.1.1) {ps:jQ} (hp:∀ p∈ps,yG w.1 p.2=true):WI (learn w id ps):=by
 unfold learn;cases (ZP w).any (· == id)
 ·exact h
 ·exact⟨h.conf,h.liars,h.len,h.reps,h.net,tH WV ps h.said hp⟩
def Jm (n:Int) (l:jn):Prop:=l.length<=60/\∀ x∈l,(0<=x.1/\x.1<n)/\x.2.length<=1000000
theorem Ur {c:za} (hc:zA c=true) {ws:jn} {p:JR} (h:Jm c.1 ws) (hp:zh p.2<=100000):Jm c.1 (NC c ws p):=by
 have hb:=ym hc;have hl:=PW c p.2;unfold NC;rw[zg (n:=c.1 - 1) (by omega) (by omega)];cases decide (((J4 c p.2).length:Int)>0)
 ·exact h
 cases hr:decide (p.1≥0) && decide (p.1<=c.1 - 1)
 ·exact h
 cases hs:decide ((ws.length:Int)<60)
 ·exact h
 simp only[ahx,ahI] at hr hs;refine⟨by simp only[ahw,ahD,ahz,ahA]; omega,λ x hx => ?_⟩
 simp only[ahw,ahR,ahO,aik,or_false] at hx;rcases hx with hx|rfl
 ·exact h.2 x hx
 ·exact⟨⟨by omega,by dsimp only; omega⟩,by dsimp only; omega⟩
theorem As {c:za} (hc:zA c=true):∀ (ps:jQ) {ws:jn},Jm c.1 ws->(∀ p∈ps,zh p.2<=100000)->Jm c.1 (aa c ws ps)
 | [],_,h,_=>h
 | p::ps,_,h,hp=>As hc ps (Ur hc h (hp p (by simp))) λ q hq=>hp q (by simp[hq])
theorem At {w:zy} (h:WI w) {ps:jQ} (hp:∀ p∈ps,zh p.2<=100000):WI (w.1,w.2.1,w.2.2.1,aa w.1 w.2.2.2.1 ps,w.2.2.2.2):=
 ⟨h.conf,h.liars,h.len,h.reps,As h.conf ps h.net hp,h.said⟩
theorem Wb {c:za} {r:zb} (WX:zf c r=true):((∀ p∈(jN c r).2,zh p.2<=100000)/\∀ p∈(jN c r).2,yG c p.2=true)/\(jN c r).2.length<=30/\yr (jN c r).2<=260000:=by
 obtain⟨h1,h2,h3,h4,h5,h6,h7,h8,h9,XV⟩:=JH WX;have hw:=Kf WX;have hs:=(Wa c r).2;refine⟨?_,?_,by omega⟩
 ·unfold jN;rw[WX];have key:∀ p∈r.2.2.2.2.2.2.2,yG c p.2=true:=λ p hp=>by
   have hk:=XV p hp;unfold ZN at hk;simp only[ahx] at hk;exact hk.1
  exact⟨λ p hp=>by have:=cZ (key p hp); omega,key⟩
 ·unfold jN;rw[WX]; exact h9
theorem WI.w_leS {w:zy} (h:WI w):Z5 w<=500000000:=by
 have hb:=ym h.conf;have key:∀ {α:Type} (f:α->Nat) (N:Nat) (l:List α),(∀ x∈l,f x<=N)->(l.map f).sum<=l.length*N:=by
  intro α f N l;induction l with
  | nil=>intro _; simp
  | cons x l ih=>
   intro hx;have a:=hx x (by simp);have b:=ih λ y hy=>hx y (by simp[hy]);simp only[ahN,aib,ahz,ai2];omega
 have hl:=h.len;have r1:=key ze 260000 w.2.2.1 λ x hx=>by
  obtain⟨i,hi,rfl⟩:=List.getElem_of_mem hx;exact Kf (h.reps i hi).1
 have r2:=key Mv 1000000 w.2.2.2.1 λ x hx=>(h.net.2 x hx).2;have r3:=key qq 1000000 w.2.2.2.2 λ x hx=>by have:=jX (h.said.2 x hx).1.1; simp only[qq]; omega
 have e1:w.2.2.1.length*260000<=7*260000:=Nat.mul_le_mul_right _ (by omega);have e2:w.2.2.2.1.length*1000000<=60*1000000:=Nat.mul_le_mul_right _ h.net.1;have e3:w.2.2.2.2.length*1000000<=300*1000000:=Nat.mul_le_mul_right _ h.said.1;have:=h.liars.1; have:=h.net.1; have:=h.said.1
 simp only[Z5,zn,Mu,qs,Lp];omega
theorem WI.w_le {w:zy} (h:WI w):Z5 w<=137438953472:=Nat.le_trans h.w_leS (by decide)
theorem Ps {w:zy} (h:WI w) (i:Int) (h0:0<=i) (h1:i<(w.2.2.1.length:Int)):Step w (gh (w,i,())) (gi (w,i,())):=by
 obtain⟨c,l,reps,net,said⟩:=w;obtain⟨r,hr,WX,hw,XD⟩:=h.rep h0 h1;obtain⟨p1,p2,p3⟩:=Wb WX;have hn:=h.net.1;have hd:=h.said.1;have W2:=h.len;dsimp only at h1 hn hd W2;have hW:=XD _ (OQ WX);have hL:=PD hW (id:=i) (by dsimp only; omega) (ps:=(jN c r).2) p1.2
 have hS:=At hL (ps:=(jN c r).2) p1.1;unfold gh gi;simp only[h0,h1,ahL,if_true,zq (e:=Jl) hr,VM c r (by omega),ahu];cases decide (wr ((net.length:Int)+((jN c r).2.length:Int))>60);case true=>exact Step.same (show (4:Int)≠0 by decide)
 cases decide (wr ((said.length:Int)+((jN c r).2.length:Int))>300);case true=>exact Step.same (show (4:Int)≠0 by decide)
 simp only[ahv,h0,h1,ahL,if_true];rw[Vt _ i _ hW.w_le (by omega),ahu];dsimp only;rw[Bo _ _ (by omega),ahu];exact Step.next hS rfl
theorem Pp {w:zy} (h:WI w) (d:YR) (h0:0<=d.2.1) (h1:d.2.1<(w.2.2.1.length:Int)) (hm:zh d.2.2.2<=137438953472):Step w (ga (w,d,())) (gc (w,d,())):=by
 have hA:=Pg h d.2.1 h0 h1;have hB:=Ps h d.2.1 h0 h1;have hC:=Pr h d.2.1 h0 h1;obtain⟨c,l,reps,rest⟩:=w;obtain⟨r,hr,WX,hw,XD⟩:=h.rep h0 h1;have ae9:=(JH WX).2.2.2.2.2.2.2.1;have hf:=IH ae9 d.2.2.1;have hW:=II (i:=d.2.1) d.2.2.1 WX hf XD;dsimp only at h1;unfold ga gc;simp only[h0,h1,ahL,if_true,zq (e:=Jl) hr];cases d.1==1;case true=>exact hA.wrap
 cases d.1==2;case true=>exact hB.wrap
 cases d.1==6;case true=>exact hC.wrap
 simp only[ahv];cases d.1==8;case true=>
  have hd:=KJ.1 ae9;have hd2:=KJ.1 hf;have hwr:ze (r.1,r.2.1,r.2.2.1,r.2.2.2.1,r.2.2.2.2.1,r.2.2.2.2.2.1,KM r.2.2.2.2.2.2.1 d.2.2.1,r.2.2.2.2.2.2.2)<=1073741824:=by
   simp only[ze,JM] at hw ⊢;omega
  simp only[ahw,Zm r (by omega),Vm _ _ (show r.2.2.2.2.2.2.1.1.length<=17592186044416 by omega),ahu,VE c _ hwr];exact Step.next hW rfl
 simp only[ahv];cases d.1==7;case true=>exact PA WX hw XD
 exact IX WX hw hm XD
theorem Pm {w:zy} (h:WI w) (d:YR) (hm:zh d.2.2.2<=137438953472):Step w (f7 (w,d,())) (f8 (w,d,())):=by
 have hl:=h.liars.1;have hs:=h.said.1;unfold f7 f8;simp only[Yh,ahu,Vv w.1 w.2.1 w.2.2.2.2 d.2.2.2 (show zh d.2.2.2<=137438953472 by omega) (by omega) (by omega)];cases (decide (d.2.1≥0) && decide (d.2.1<=wr (w.1.1 - 1)))
 ·exact Step.same (show (2:Int)≠0 by decide)
 cases hml:cX w.1 w.2.1 w.2.2.2.2 d.2.2.2
 ·exact Step.same (show (5:Int)≠0 by decide)
 have hk:zh d.2.2.2<=3847:=by
  unfold cX at hml;simp only[ahx] at hml;exact cZ hml.1
 have hS:=At h (ps:=[(d.2.1,d.2.2.2)]) λ p hp=>by
  simp only[ahO,aik,or_false] at hp;rw[hp]; dsimp only; omega
 cases decide ((w.2.2.2.1.length:Int)≥60);case true=>exact Step.same (show (4:Int)≠0 by decide)
 simp only[ahC,ahv];rw[Bo w _ (show yr [(d.2.1,d.2.2.2)]<=1073741824 by simp only[yr,Z4,ahN,aic,aib,List.sum_nil,ahz,ahA]; omega),Option.bind_some]
 exact Step.next hS rfl
theorem Id {n:Int} {net:jn} (h:Jm n net) (i:Nat) (hi:i<net.length):Jm n ([]++(net.drop 0).take i++(net.drop (i+1)).take (net.length - (i+1))):=by
 refine⟨?_,λ x hx => ?_⟩
 ·have:=h.1;simp only[ahS,ahV,ahD,ahM,ahQ];omega
 ·simp only[ahS,ahV,ahR] at hx;rcases hx with hx|hx
  ·exact h.2 x (List.mem_of_mem_take hx)
  ·exact h.2 x (List.mem_of_mem_drop (List.mem_of_mem_take hx))
theorem Ik {n:Int} {net:jn} (h:Jm n net) (hl:net.length<60) {x:bD} (hx:x∈net):Jm n (net++[(x.1,[]++x.2)]):=by
 refine⟨by simp only[ahD,ahz,ahA]; omega,λ y hy => ?_⟩
 simp only[ahR,ahO,aik,or_false] at hy;rcases hy with hy|rfl
 ·exact h.2 y hy
 ·exact h.2 x hx
theorem WI.withNet {c:za} {l:y5} {reps:Yo} {net net':jn} {said:yQ} (h:WI (c,l,reps,net,said)) (hn:Jm c.1 net'):WI (c,l,reps,net',said):=
 ⟨h.conf,h.liars,h.len,h.reps,hn,h.said⟩
theorem I1 {w:zy} (hl:(w.2.2.1.length:Int)=w.1.1) {x:Int} (hx:(ZP w).any (· == x)=true):0<=x/\x<(w.2.2.1.length:Int):=by
 unfold ZP at hx;simp at hx;omega
theorem Pn {w:zy} (h:WI w) (d:YR):Step w (qb (w,d,())) (qc (w,d,())):=by
 obtain⟨c,l,reps,net,said⟩:=w;have hn:=h.net;have W2:=h.len;have hl:=h.liars.1;have hb:=ym h.conf;dsimp only at hn W2 hl hb;unfold qb qc;dsimp only;rw[zg (n:=(net.length:Int) - 1) (by omega) (by omega),Yh];simp only[ahu];cases XQ:decide (d.2.1≥0) && decide (d.2.1<=(net.length:Int) - 1)
 ·exact Step.same (show (2:Int)≠0 by decide)
 simp only[ahx,ahI] at XQ;have h0:0<=d.2.1:=XQ.1;have h1:d.2.1<(net.length:Int):=by omega
 have hi:d.2.1.toNat<net.length:=by omega
 have hx:=List.getElem?_eq_getElem hi;have abK:=List.getElem_mem hi;generalize net[d.2.1.toNat]=x at hx abK;have hxb:=hn.2 x abK;have h2:d.2.1<=(net.length:Int):=by omega
 simp only[ahC,ahv,h0,h1,ahL,if_true,zq (e:=pC) hx];cases d.1==5;case true=>
  simp only[ahw];cases h60:decide ((net.length:Int)≥60);case true=>exact Step.same (show (4:Int)≠0 by decide)
  simp only[aiH] at h60;have e1:(0+x.2.length)*1<=70368744177664:=by omega
  have e2:(net.length+List.length [(x.1,[]++x.2)])*32<=70368744177664:=by simp only[ahz,ahA]; omega
  simp only[ahv,e1,e2,if_true];exact Step.next (h.withNet (Ik hn (by omega) abK)) rfl
 have ae5:=Id hn d.2.1.toNat hi;have hw1:wr (d.2.1+1)=d.2.1+1:=zg (by omega) (by omega);have et:(d.2.1+1).toNat=d.2.1.toNat+1:=by omega
 have e3:0<=d.2.1+1/\d.2.1+1<=(net.length:Int)/\(net.length:Int)<=(net.length:Int):=⟨by omega,by omega,Int.le_refl _⟩
 have e4:(0+List.length (List.take (d.2.1.toNat - Int.toNat 0) (List.drop (Int.toNat 0) net)))*32<=70368744177664:=by
  have:=List.length_take_le (d.2.1.toNat - Int.toNat 0) (List.drop (Int.toNat 0) net); omega
 have e5:(List.length ([]++List.take (d.2.1.toNat - Int.toNat 0) (List.drop (Int.toNat 0) net))+List.length (List.take (Int.toNat (net.length:Int) - (d.2.1.toNat+1)) (List.drop (d.2.1.toNat+1) net)))*32<=70368744177664:=by
  have a1:=List.length_take_le (d.2.1.toNat - Int.toNat 0) (List.drop (Int.toNat 0) net);have a2:=List.length_take_le (Int.toNat (net.length:Int) - (d.2.1.toNat+1)) (List.drop (d.2.1.toNat+1) net);simp only[ahS];omega
 simp only[ahv,hw1,et,e4,e5,h0,h2,e3,aiS,ahL,if_true,true_and];have ae6:Jm c.1 ([]++List.take (d.2.1.toNat - Int.toNat 0) (List.drop (Int.toNat 0) net)++List.take (Int.toNat (net.length:Int) - (d.2.1.toNat+1)) (List.drop (d.2.1.toNat+1) net)):=ae5;clear ae5;generalize []++List.take (d.2.1.toNat - Int.toNat 0) (List.drop (Int.toNat 0) net)++List.take (Int.toNat (net.length:Int) - (d.2.1.toNat+1)) (List.drop (d.2.1.toNat+1) net)=net' at ae6;have hW:=h.withNet ae6;cases d.1==3
 ·exact Step.next hW rfl
 rw[Yg l x.1 (by omega),ahu,ahu];dsimp only;cases l.any (· == x.1);case true=>exact Step.next hW rfl
 have x0:0<=x.1:=hxb.1.1;have x1:x.1<(reps.length:Int):=by omega
 obtain⟨r,hr,WX,hw,XD⟩:=hW.rep x0 x1;have hm:=PX c x.2 (by omega);simp only[ahw,ahY,A5 c x.2 (by omega),ahu,x0,x1,ahL,if_true,zq (e:=Jl) hr,A1 c r (JA c x.2).1 (by omega) (show zh (JA c x.2).1<=137438953472 by omega)];cases (LI c r (JA c x.2).1).2
 ·exact Step.next hW rfl
 ·exact Step.next (XD _ (tc WX _)) rfl
theorem Po {w:zy} (h:WI w) (d:YR) (hm:zh d.2.2.2<=137438953472):Step w (f9 (w,d,())) (ba (w,d,())):=by
 have hN:=Pn h d;have hL:=Pm h d hm;have hl:=h.liars.1;have W2:=h.len;have hb:=ym h.conf;have hhl:(ZP w).length<=w.2.2.1.length:=by
  unfold ZP;rw[aij];have:=List.length_filter_le (λ (i:Nat) => !(w.2.1.any (· == (i:Int)))) (List.range w.2.2.1.length);rw[aj1] at this;exact this
 unfold f9 ba;dsimp only;cases d.1==3;case true=>exact hN.wrap
 cases d.1==4;case true=>exact hN.wrap
 cases d.1==5;case true=>exact hN.wrap
 cases d.1==10;case true=>exact hL.wrap
 simp only[ahv];rw[A2 w (by omega) (by omega),ahu,ahu];dsimp only;rw[Yg (ZP w) d.2.1 (by omega),ahu,ahu];dsimp only;cases hh:(ZP w).any (· == d.2.1)
 ·exact Step.same (show (2:Int)≠0 by decide)
 have hr:=I1 W2 hh;exact (Pp h d hr.1 hr.2 hm).wrap
theorem Pq {w:zy} (h:WI w) (d:YR) (hm:zh d.2.2.2<=137438953472):Ens (gd (w,d,())) λ r=>WI r.1:=by
 unfold gd;dsimp only;rcases Po h d hm with⟨w',e,k,e'⟩|⟨n,hn,e,e'⟩
 ·rw[e',e];exact Ens.some k
 ·rw[e',e];have:(n != 0)=true:=by simp[hn]
  simp only[has,KP,ahu,this,ahw];exact Ens.some h
theorem Rc {c:za} {liars:y5} (h:zA c=true) (hl:jJ c.1 liars=true) (hf:(liars.length:Int)<=Js c):qt (yW c liars)=true:=by
 have hb:=ym h;unfold qt yW;simp only[h,hl,hf,c7 h,aij,aj1,ahA,jS,ahx,ahI,ai4,and_true,true_and];refine⟨by omega,by omega,by omega,(sy _ _ 0).2 λ i hi => ?_⟩;simp only[aij,aj1] at hi;simp only[List.getElem_map,List.getElem_range,QO,ahx,ai4];refine⟨lX h (by omega) (by omega),?_⟩;simp only[Y3,ain]
theorem Bs {c:za} {liars:y5} (h:zA c=true) (hl:jJ c.1 liars=true) (hf:(liars.length:Int)<=Js c):(Kv c liars).1=yW c liars/\WI (yW c liars):=by
 have hb:=ym h;refine⟨?_,Rb h ?_ (Uy hl)⟩
 ·unfold Kv;rw[Rc h hl hf]; rfl
 ·have:Js c<=7:=by
   unfold Js;rw[if_pos h]; omega
  omega
theorem Pk (c:zO) (hc:z6 c):Ens (f6 (c,())) λ r=>0<=r.1.2.1/\WI r.2.1:=by
 unfold f6;refine (jG c _ hc (by simp)).bind λ r0 h0 => ?_;refine (zE (c.1,r0.1.2) 3 ⟨hc.1,h0.1⟩).bind λ r1 h1 => ?_;refine (Y0 (c.1,r1.1.2) 3 ⟨hc.1,h1.1⟩).bind λ r2 h2 => ?_;have a1:=h1.2.2 (by decide);have hN:4<=r0.2.1/\r0.2.1<=7:=by
  have:=h0.2;simp only[ahO,aik,or_false] at this;omega
 rw[zg (n:=1+r1.2.1) (by omega) (by omega)];have ada:zA (r0.2.1,1+r1.2.1)=true:=by
  unfold zA;simp only[ahx,ahI];omega
 have hfa:(1:Int)<=Js (r0.2.1,1+r1.2.1):=by
  unfold Js;rw[if_pos ada];dsimp only; omega
 refine Ens.cond (λ _ => ?_) λ _ => ?_
 ·refine (zE (c.1,r2.1.2) r0.2.1 ⟨hc.1,h2⟩).bind λ r3 h3 => ?_;have a3:=h3.2.2 (by omega);have hs:jJ (r0.2.1,1+r1.2.1).1 [r3.2.1]=true:=by
   unfold jJ;simp only[YK,Bool.and_true,ahx,ai1,aiH];omega
  have k:=Bs ada hs (by simpa using hfa);rw[Bg _ _ (by simp),ahu,k.1];exact Ens.some ⟨h3.1,k.2⟩
 ·have k:=Bs (liars:=[]) ada rfl (by simp only[ahA]; omega)
  rw[Bg _ _ (by simp),ahu,k.1];exact Ens.some ⟨h2,k.2⟩
def gQ (r:zO×zp×Unit):Prop:=0<=r.1.2.1/\zh r.2.1<=4000/\(0<=r.2.1.2.2.2.1.1/\r.2.1.2.2.2.1.1<=60)/\zD r.2.1.2.2.2.1.2.1=true/\r.2.1.2.2.2.1.2.2.length<=400
theorem pn (cur:zO) (liars:y5) (said:yQ) (view:Int) (name:List UInt8) (hc:0<=cur.2.1) (hl:liars.length<=7) (hs:said.length<=300) (hv:0<=view/\view<=60) (hn:zD name=true):
  Ens (iter (λ rec7 (x7:List Int×Int×Unit)=>bif decide (x7.2.1<(said.length:Int)) then if 0<=x7.2.1/\x7.2.1<(said.length:Int) then bif (rd Mw said x7.2.1.toNat).1==view then if 0<=x7.2.1/\x7.2.1<(said.length:Int) then bif (rd Mw said x7.2.1.toNat).2.1==name then if 0<=x7.2.1/\x7.2.1<(said.length:Int) then (Z1 (x7.1,(rd Mw said x7.2.1.toNat).2.2,())).bind λ r8=>rec7 (r8.1,wr (x7.2.1+1),()) else none else rec7 (x7.1,wr (x7.2.1+1),()) else none else rec7 (x7.1,wr (x7.2.1+1),()) else none else some ((cur,((2,0,([],0,[],[]),(view,name,x7.1),(0,[],[]),0,0,0,0,0):zp),()):zO×zp×Unit)) fuel ([]++liars,0,())) gQ:=by
 refine Ens.loop (λ x=>(0<=x.2.1/\x.2.1<=(said.length:Int))/\(x.1.length:Int)<=7+x.2.1) (λ x=>((said.length:Int) - x.2.1).toNat) ?_ ⟨by simp,by simp; omega⟩ (by dsimp only; rw[ja]; omega)
 intro rec x hx WW;obtain⟨x1,x2⟩:=hx;refine Ens.cond (λ h => ?_) λ h => ?_
 ·have h:x.2.1<(said.length:Int):=by simpa using h
  have e1:wr (x.2.1+1)=x.2.1+1:=zg (by omega) (by omega);rw[e1];have XI:Ens (rec (x.1,x.2.1+1,())) gQ:=WW _ ⟨⟨by dsimp only; omega,by dsimp only; omega⟩,by dsimp only; omega⟩ (by dsimp only; omega)
  refine Ens.ite ⟨x1.1,h⟩ (Ens.cond (λ _ => ?_) λ _=>XI);refine Ens.ite ⟨x1.1,h⟩ (Ens.cond (λ _ => ?_) λ _=>XI);refine Ens.ite ⟨x1.1,h⟩ ?_;have hl:=ac x.1 (rd Mw said x.2.1.toNat).2.2;rw[aE x.1 _ (by omega),ahu];exact WW _ ⟨⟨by dsimp only; omega,by dsimp only; omega⟩,by dsimp only; omega⟩ (by dsimp only; omega)
 ·have hnl:=jX hn;refine Ens.some ⟨hc,?_,hv,hn,by dsimp only; omega⟩
  simp only[zh,zB,zi,zk,zn,ahA];omega
theorem Pl (c:zO) {w:zy} (hc:z6 c) (h:WI w):Ens (aZ (c,w,())) gQ:=by
 have hl:=h.liars.1;have hs:=h.said.1;unfold aZ;dsimp only;refine (zE c 4 hc).bind λ r0 h0 => ?_;have a0:=h0.2.2 (by decide);rw[zg (n:=1+r0.2.1) (by omega) (by omega),aw [] _ [] (by simp) (by omega) (by simp),Option.bind_some];refine Ens.ite (by omega) (Ens.cond (λ hp => ?_) λ _=>pn (c.1,r0.1.2) w.2.1 w.2.2.2.2 _ _ h0.1 hl hs (by omega) (lW _ _ _));have hp:(w.2.2.2.2.length:Int)>0:=by simpa using hp
 have ac7:yd ((w.2.2.2.2.length:Int),8,())=some (if (w.2.2.2.2.length:Int)<8 then (w.2.2.2.2.length:Int) else 8,()):=by
  unfold yd;by_cases e:(w.2.2.2.2.length:Int)<8<;>simp[e]
 rw[ac7,ahu];have hmb:0<(if (w.2.2.2.2.length:Int)<8 then (w.2.2.2.2.length:Int) else 8)/\(if (w.2.2.2.2.length:Int)<8 then (w.2.2.2.2.length:Int) else 8)<=(w.2.2.2.2.length:Int):=by
  split<;>omega
 generalize (if (w.2.2.2.2.length:Int)<8 then (w.2.2.2.2.length:Int) else 8)=n at hmb;refine (zE (c.1,r0.1.2) n ⟨hc.1,h0.1⟩).bind λ r3 h3 => ?_;have a3:=h3.2.2 hmb.1;have e1:wr ((w.2.2.2.2.length:Int) - 1)=(w.2.2.2.2.length:Int) - 1:=zg (by omega) (by omega);have e2:wr ((w.2.2.2.2.length:Int) - 1 - r3.2.1)=(w.2.2.2.2.length:Int) - 1 - r3.2.1:=zg (by omega) (by omega);rw[e1,e2];refine Ens.ite (by omega) ?_;have hi:((w.2.2.2.2.length:Int) - 1 - r3.2.1).toNat<w.2.2.2.2.length:=by omega
 have hx:=List.getElem?_eq_getElem hi;have abK:=List.getElem_mem hi;generalize w.2.2.2.2[((w.2.2.2.2.length:Int) - 1 - r3.2.1).toNat]=x at hx abK;have hxb:=(h.said.2 x abK).1;have hvb:=qo hxb.1;have hxl:=jX hxb.1;rw[hxb.2] at hvb;rw[zq (e:=Mw) hx];refine (Y0 (c.1,r3.1.2) 3 ⟨hc.1,h3.1⟩).bind λ r4 h4 => ?_;refine Ens.cond (λ _ => ?_) λ _=>pn (c.1,r4.1.2) w.2.1 w.2.2.2.2 _ _ h4 hl hs hvb hxb.1;have hu:=bk x.2.1;rw[aL x.2.1 (by omega),ahu,aw (Z3 x.2.1) x.1 _ (by omega) (by omega) (by simp),ahu];exact pn (c.1,r4.1.2) w.2.1 w.2.2.2.2 _ _ h4 hl hs hvb (lW _ _ _)
def bq (r:zO×zp×Unit):Prop:=0<=r.1.2.1/\zh r.2.1<=8000
theorem Gl (c:za) (q:zJ) (v:Int) (l:zw):zB (KE c q v l).1<=3847:=by
 unfold KE;cases hb:jE c (jW q.2.1 v l,q) && zm (jW q.2.1 v l)==v
 ·simp[bn,zB,zi,zn]
 ·simp only[ahx] at hb;exact rb hb.1
theorem PJ (code:List UInt8) (p:Int×Int) (c:za) (q:zJ) (v:Int) (hc:z6 (code,p)) (hq:zi q<=5000) (hv:0<=v/\v<=61):Ens ((zX ((code,p),())).bind λ r25=>(yb (c,q,v,[r25.2.1],())).bind λ r26=>some ((code,r25.1.2),(1,0,r26.1,(0,[],[]),(0,[],[]),0,0,0,0,0),())) bq:=by
 refine (LM (code,p) hc).bind λ r hr => ?_;rw[oL c q v [r.2.1] (by omega) (by omega) (by simp),Option.bind_some];have:=Gl c q v [r.2.1];refine Ens.some ⟨hr.1,?_⟩;simp only[zh,zi,zk,zn,ahA];omega
theorem tK (code:List UInt8) (p:Int×Int) (w:zy) (m:zp) (q:zJ) (who:Int) (hc:z6 (code,p)) (hm:zh m<=4000) (hq:zi q<=5000) (hq1:0<=q.1/\q.1<=60):
  Ens ((zj ((code,p),4,())).bind λ r18=>bif r18.2.1==0 then some (((code,r18.1.2),m,()):zO×zp×Unit) else bif r18.2.1==1 then (zj ((code,r18.1.2),2,())).bind λ r19=>(yd (wr (wr (q.1+1)+r19.2.1),60,())).bind λ r20=>some ((code,r19.1.2),(3,r20.1,([],0,[],[]),(0,[],[]),q,who,0,0,0,0),()) else iter (λ rec21 (x21:Int×Int×Unit)=>bif decide (x21.2.1<7) then bif decide (x21.1<60) then (jz (w.1,x21.1,())).bind λ r22=>bif r22.1 != who then rec21 (wr (x21.1+1),wr (x21.2.1+1),()) else (zX ((code,r18.1.2),())).bind λ r23=>(yb (w.1,q,x21.1,[r23.2.1],())).bind λ r24=>some ((code,r23.1.2),(1,0,r24.1,(0,[],[]),(0,[],[]),0,0,0,0,0),()) else (zX ((code,r18.1.2),())).bind λ r25=>(yb (w.1,q,x21.1,[r25.2.1],())).bind λ r26=>some ((code,r25.1.2),(1,0,r26.1,(0,[],[]),(0,[],[]),0,0,0,0,0),()) else (zX ((code,r18.1.2),())).bind λ r27=>(yb (w.1,q,x21.1,[r27.2.1],())).bind λ r28=>some ((code,r27.1.2),(1,0,r28.1,(0,[],[]),(0,[],[]),0,0,0,0,0),())) fuel (wr (q.1+1),0,())) bq:=by
 refine (zE (code,p) 4 hc).bind λ r0 h0 => ?_;refine Ens.cond (λ _=>Ens.some ⟨h0.1,by dsimp only; omega⟩) λ _ => ?_
 have e1:wr (q.1+1)=q.1+1:=zg (by omega) (by omega);rw[e1];refine Ens.cond (λ _ => ?_) λ _ => ?_
 ·refine (zE (code,r0.1.2) 2 ⟨hc.1,h0.1⟩).bind λ r1 h1 => ?_;have ac7:∀ a b:Int,yd (a,b,())=some (if a<b then a else b,()):=by
   intro a b;unfold yd;by_cases e:a<b<;>simp[e]
  rw[ac7,ahu];refine Ens.some ⟨h1.1,?_⟩;simp only[zh,zB,zi,zk,zn,ahA] at hq ⊢;omega
 ·refine Ens.loop (λ x=>(0<=x.2.1/\x.2.1<=7)/\(0<=x.1/\x.1<=61)) (λ x=>(8 - x.2.1).toNat) ?_ ⟨by simp,by dsimp only; omega⟩ (by dsimp only; rw[ja]; omega)
  intro rec x hx WW;obtain⟨x1,x2⟩:=hx;have hb:=PJ code r0.1.2 w.1 q x.1 ⟨hc.1,h0.1⟩ hq x2;refine Ens.cond (λ h => ?_) λ _=>hb;have h:x.2.1<7:=by simpa using h
  refine Ens.cond (λ h' => ?_) λ _=>hb;have h':x.1<60:=by simpa using h'
  rw[Mb,ahu];refine Ens.cond (λ _ => ?_) λ _=>hb;rw[zg (n:=x.1+1) (by omega) (by omega),zg (n:=x.2.1+1) (by omega) (by omega)];exact WW _ ⟨by dsimp only; omega,by dsimp only; omega⟩ (by dsimp only; omega)
theorem cR (code:List UInt8) (p:Int×Int) (w:zy) (m:zp) (q:zJ) (hc:z6 (code,p)) (hm:zh m<=4000) (hq:zi q<=5000) (hq1:0<=q.1/\q.1<=60):
  Ens (bif decide ((w.2.1.length:Int)>0) then (zj ((code,p),(w.2.1.length:Int),())).bind λ r6=>if 0<=r6.2.1/\r6.2.1<(w.2.1.length:Int) then (zj ((code,r6.1.2),4,())).bind λ r7=>bif r7.2.1==0 then some (((code,r7.1.2),m,()):zO×zp×Unit) else bif r7.2.1==1 then (zj ((code,r7.1.2),2,())).bind λ r8=>(yd (wr (wr (q.1+1)+r8.2.1),60,())).bind λ r9=>some ((code,r8.1.2),(3,r9.1,([],0,[],[]),(0,[],[]),q,rd .i64 w.2.1 r6.2.1.toNat,0,0,0,0),()) else iter (λ rec10 (x10:Int×Int×Unit)=>bif decide (x10.2.1<7) then bif decide (x10.1<60) then (jz (w.1,x10.1,())).bind λ r11=>bif r11.1 != rd .i64 w.2.1 r6.2.1.toNat then rec10 (wr (x10.1+1),wr (x10.2.1+1),()) else (zX ((code,r7.1.2),())).bind λ r12=>(yb (w.1,q,x10.1,[r12.2.1],())).bind λ r13=>some ((code,r12.1.2),(1,0,r13.1,(0,[],[]),(0,[],[]),0,0,0,0,0),()) else (zX ((code,r7.1.2),())).bind λ r14=>(yb (w.1,q,x10.1,[r14.2.1],())).bind λ r15=>some ((code,r14.1.2),(1,0,r15.1,(0,[],[]),(0,[],[]),0,0,0,0,0),()) else (zX ((code,r7.1.2),())).bind λ r16=>(yb (w.1,q,x10.1,[r16.2.1],())).bind λ r17=>some ((code,r16.1.2),(1,0,r17.1,(0,[],[]),(0,[],[]),0,0,0,0,0),())) fuel (wr (q.1+1),0,()) else none else (zj ((code,p),4,())).bind λ r18=>bif r18.2.1==0 then some ((code,r18.1.2),m,()) else bif r18.2.1==1 then (zj ((code,r18.1.2),2,())).bind λ r19=>(yd (wr (wr (q.1+1)+r19.2.1),60,())).bind λ r20=>some ((code,r19.1.2),(3,r20.1,([],0,[],[]),(0,[],[]),q,0,0,0,0,0),()) else iter (λ rec21 (x21:Int×Int×Unit)=>bif decide (x21.2.1<7) then bif decide (x21.1<60) then (jz (w.1,x21.1,())).bind λ r22=>bif r22.1 != 0 then rec21 (wr (x21.1+1),wr (x21.2.1+1),()) else (zX ((code,r18.1.2),())).bind λ r23=>(yb (w.1,q,x21.1,[r23.2.1],())).bind λ r24=>some ((code,r23.1.2),(1,0,r24.1,(0,[],[]),(0,[],[]),0,0,0,0,0),()) else (zX ((code,r18.1.2),())).bind λ r25=>(yb (w.1,q,x21.1,[r25.2.1],())).bind λ r26=>some ((code,r25.1.2),(1,0,r26.1,(0,[],[]),(0,[],[]),0,0,0,0,0),()) else (zX ((code,r18.1.2),())).bind λ r27=>(yb (w.1,q,x21.1,[r27.2.1],())).bind λ r28=>some ((code,r27.1.2),(1,0,r28.1,(0,[],[]),(0,[],[]),0,0,0,0,0),())) fuel (wr (q.1+1),0,())) bq:=by
 refine Ens.cond (λ h => ?_) λ _=>tK code p w m q 0 hc hm hq hq1;have h:(w.2.1.length:Int)>0:=by simpa using h
 refine (zE (code,p) _ hc).bind λ r1 h1 => ?_;have a1:=h1.2.2 h;exact Ens.ite ⟨h1.2.1,a1⟩ (tK code r1.1.2 w m q _ ⟨hc.1,h1.1⟩ hm hq hq1)
theorem Pi (c:zO) {w:zy} (hc:z6 c) (h:WI w):Ens (qa (c,w,())) bq:=by
 unfold qa o5 o4 o6 o0;refine (Pl c hc h).bind λ r0 h0 => ?_;obtain⟨k1,k2,k3,k4,k5⟩:=h0;have hq:zi r0.2.1.2.2.2.1<=4000:=by
  simp only[zh,zk] at k2;simp only[zi]; omega
 rw[Lf w.1 r0.2.1.2.2.2.1 (by omega),ahu];refine Ens.cond (λ _ => ?_) λ _=>cR c.1 r0.1.2 w r0.2.1 r0.2.1.2.2.2.1 ⟨hc.1,k1⟩ k2 (by omega) k3;have hf:e9 ()=some ((0,[],[]),()):=rfl;have hz:zi ((0,[],[]):zJ)<=5000:=by simp[zi,zn]
 rw[hf,ahu];refine Ens.cond (λ hp => ?_) λ _=>cR c.1 r0.1.2 w r0.2.1 (0,[],[]) ⟨hc.1,k1⟩ k2 hz (by dsimp only; omega)
 have hp:(w.2.2.1.length:Int)>0:=by simpa using hp
 refine (Y0 (c.1,r0.1.2) 2 ⟨hc.1,k1⟩).bind λ r3 h3 => ?_;refine Ens.cond (λ _ => ?_) λ _=>cR c.1 r3.1.2 w r0.2.1 (0,[],[]) ⟨hc.1,h3⟩ k2 hz (by dsimp only; omega)
 refine (zE (c.1,r3.1.2) _ ⟨hc.1,h3⟩).bind λ r4 h4 => ?_;have a4:=h4.2.2 hp;refine Ens.ite ⟨h4.2.1,a4⟩ ?_;obtain⟨r,hr,WX,hw,-⟩:=WI.rep (c:=w.1) (l:=w.2.1) (reps:=w.2.2.1) (rest:=w.2.2.2) h h4.2.1 a4;rw[zq (e:=Jl) hr];have hs:=(JH WX).2.2.2.2.1;have hqk:yg w.1 r.2.2.2.1.2.2.1=true:=by
  unfold yj at hs;simp only[ahx] at hs;exact hs.2.2.1
 have hqw:=dQ hqk;have hqn:=nu hqk;have hqv:=qo hqn.1;rw[hqn.2] at hqv;rw[Ml r.2.2.2.1.2.2.1 (by omega),ahu];exact cR c.1 r4.1.2 w r0.2.1 r.2.2.2.1.2.2.1 ⟨hc.1,h4.1⟩ k2 (by omega) hqv
def Lq (r:zO×YR×Unit):Prop:=0<=r.1.2.1/\zh r.2.1.2.2.2<=10000
theorem JU (code:List UInt8) (p:Int×Int) (k i j:Int) (h:0<=p.1):Lq ((code,p),(k,i,j,0,0,([],0,[],[]),(0,[],[]),(0,[],[]),0,0,0,0,0),()):=
 ⟨h,by simp[zh,zB,zi,zk,zn]⟩
theorem rE (code:List UInt8) (p:Int×Int) (w:zy) (k:Int) (hc:z6 (code,p)):Ens (bif (w.2.2.2.1.length:Int)==0 then some (((code,p),(2,k,0,0,0,([],0,[],[]),(0,[],[]),(0,[],[]),0,0,0,0,0),()):zO×YR×Unit) else (yd ((w.2.2.2.1.length:Int),4,())).bind λ r13=>(zj ((code,p),r13.1,())).bind λ r14=>some ((code,r14.1.2),(3,r14.2.1,0,0,0,([],0,[],[]),(0,[],[]),(0,[],[]),0,0,0,0,0),())) Lq:=by
 refine Ens.cond (λ _=>Ens.some (JU _ _ _ _ _ hc.2)) λ _ => ?_;have ac7:∀ a b:Int,yd (a,b,())=some (if a<b then a else b,()):=by
  intro a b;unfold yd;by_cases e:a<b<;>simp[e]
 rw[ac7,ahu];exact (zE (code,p) _ hc).bind λ r1 h1=>Ens.some (JU _ _ _ _ _ h1.1)
theorem nG {w:zy} (h:WI w) {i:Int} (h0:0<=i) (h1:i<(w.2.2.1.length:Int)):∃ r,w.2.2.1[i.toNat]?=some r/\zf w.1 r=true/\ze r<=260000:=by
 obtain⟨r,hr,WX,hw,-⟩:=WI.rep (c:=w.1) (l:=w.2.1) (reps:=w.2.2.1) (rest:=w.2.2.2) h h0 h1;exact⟨r,hr,WX,hw⟩
theorem Ie (code:List UInt8) (p:Int×Int) (w:zy) (k:Int) (hc:z6 (code,p)) (h:WI w) (hk:0<=k/\k<=8):Ens (α:=zO×YR×Unit) (iter (λ rec3 (x3:Int×YR×Unit)=>bif decide (x3.1<(w.2.2.1.length:Int)) then if (w.2.2.1.length:Int)=0 then none else if 0<=Int.tmod (wr (k+x3.1)) (w.2.2.1.length:Int)/\Int.tmod (wr (k+x3.1)) (w.2.2.1.length:Int)<(w.2.2.1.length:Int) then (Ki (w.1,rd (.pair .i64 (.pair .i64 (.pair .i64 (.pair (.pair .i64 (.pair .i64 (.pair (.pair .i64 (.pair .str (.sl 0 .i64))) .str))) (.pair (.sl 0 (.pair .i64 (.pair .i64 (.pair .i64 .i64)))) (.pair (.sl 0 (.pair .i64 (.pair .str (.sl 0 .i64)))) (.pair (.pair (.sl 0 .u8) .i64) (.sl 0 (.pair .i64 (.pair .i64 (.pair .i64 (.pair (.pair .str (.pair .i64 (.pair .str (.sl 0 .i64)))) (.pair (.pair .i64 (.pair .str (.sl 0 .i64))) (.pair (.pair .i64 (.pair .str (.sl 0 .i64))) (.pair .i64 (.pair .i64 (.pair .i64 (.pair .i64 .i64)))))))))))))))))) w.2.2.1 (Int.toNat (Int.tmod (wr (k+x3.1)) (w.2.2.1.length:Int))),())).bind λ r4=>bif r4.2.1 then if (w.2.2.1.length:Int)=0 then none else (jq (w.2.1,Int.tmod (wr (k+x3.1)) (w.2.2.1.length:Int),())).bind λ r5=>bif !r5.1 then if (w.2.2.1.length:Int)=0 then none else some ((code,p),(1,Int.tmod (wr (k+x3.1)) (w.2.2.1.length:Int),0,0,0,([],0,[],[]),(0,[],[]),(0,[],[]),0,0,0,0,0),()) else rec3 (wr (x3.1+1),x3.2.1,()) else rec3 (wr (x3.1+1),x3.2.1,()) else none else some ((code,p),(7,k,0,0,0,([],0,[],[]),(0,[],[]),(0,[],[]),0,0,0,0,0),())) fuel (0,(0,0,0,0,0,([],0,[],[]),(0,[],[]),(0,[],[]),0,0,0,0,0),())) Lq:=by
 have hb:=ym h.conf;have W2:=h.len;have hl:=h.liars.1;refine Ens.loop (λ x=>(0<=x.1/\x.1<=8)) (λ x=>(9 - x.1).toNat) ?_ (by simp) (by dsimp only; rw[ja]; omega)
 intro rec x hx WW;have hn:¬ (w.2.2.1.length:Int)=0:=by omega
 refine Ens.cond (λ hh => ?_) λ hh=>Ens.some (JU _ _ _ _ _ hc.2);have hh:x.1<(w.2.2.1.length:Int):=by simpa using hh
 rw[if_neg hn,zg (n:=k+x.1) (by omega) (by omega),zg (n:=x.1+1) (by omega) (by omega)];have XI:Ens (rec (x.1+1,x.2.1,())) Lq:=WW _ (by dsimp only; omega) (by dsimp only; omega)
 have t0:0<=Int.tmod (k+x.1) (w.2.2.1.length:Int):=Int.tmod_nonneg _ (by omega);have t1:Int.tmod (k+x.1) (w.2.2.1.length:Int)<(w.2.2.1.length:Int):=Int.tmod_lt_of_pos _ (by omega);refine Ens.ite ⟨t0,t1⟩ ?_;obtain⟨r,hr,WX,hw⟩:=nG h t0 t1;rw[zq (e:=Jl) hr,AY w.1 r (by omega),ahu];refine Ens.cond (λ _ => ?_) λ _=>XI;rw[if_neg hn,Yg w.2.1 _ (by omega),ahu];refine Ens.cond (λ _ => ?_) λ _=>XI;rw[if_neg hn];exact Ens.some (JU _ _ _ _ _ hc.2)
theorem If (code:List UInt8) (p:Int×Int) (w:zy) (k:Int) (hc:z6 (code,p)) (h:WI w) (hk:0<=k/\k<=8):Ens (α:=zO×YR×Unit) (iter (λ rec12 (x12:Int×YR×Unit)=>bif decide (x12.1<(w.2.2.1.length:Int)) then if (w.2.2.1.length:Int)=0 then none else if 0<=Int.tmod (wr (k+x12.1)) (w.2.2.1.length:Int)/\Int.tmod (wr (k+x12.1)) (w.2.2.1.length:Int)<(w.2.2.1.length:Int) then bif decide ((List.length (rd (.pair .i64 (.pair .i64 (.pair .i64 (.pair (.pair .i64 (.pair .i64 (.pair (.pair .i64 (.pair .str (.sl 0 .i64))) .str))) (.pair (.sl 0 (.pair .i64 (.pair .i64 (.pair .i64 .i64)))) (.pair (.sl 0 (.pair .i64 (.pair .str (.sl 0 .i64)))) (.pair (.pair (.sl 0 .u8) .i64) (.sl 0 (.pair .i64 (.pair .i64 (.pair .i64 (.pair (.pair .str (.pair .i64 (.pair .str (.sl 0 .i64)))) (.pair (.pair .i64 (.pair .str (.sl 0 .i64))) (.pair (.pair .i64 (.pair .str (.sl 0 .i64))) (.pair .i64 (.pair .i64 (.pair .i64 (.pair .i64 .i64)))))))))))))))))) w.2.2.1 (Int.toNat (Int.tmod (wr (k+x12.1)) (w.2.2.1.length:Int)))).2.2.2.2.2.2.2:Int)>0) then if (w.2.2.1.length:Int)=0 then none else some ((code,p),(2,Int.tmod (wr (k+x12.1)) (w.2.2.1.length:Int),0,0,0,([],0,[],[]),(0,[],[]),(0,[],[]),0,0,0,0,0),()) else rec12 (wr (x12.1+1),x12.2.1,()) else none else bif (w.2.2.2.1.length:Int)==0 then some ((code,p),(2,k,0,0,0,([],0,[],[]),(0,[],[]),(0,[],[]),0,0,0,0,0),()) else (yd ((w.2.2.2.1.length:Int),4,())).bind λ r13=>(zj ((code,p),r13.1,())).bind λ r14=>some ((code,r14.1.2),(3,r14.2.1,0,0,0,([],0,[],[]),(0,[],[]),(0,[],[]),0,0,0,0,0),())) fuel (0,(0,0,0,0,0,([],0,[],[]),(0,[],[]),(0,[],[]),0,0,0,0,0),())) Lq:=by
 have hb:=ym h.conf;have W2:=h.len;have hl:=h.liars.1;refine Ens.loop (λ x=>(0<=x.1/\x.1<=8)) (λ x=>(9 - x.1).toNat) ?_ (by simp) (by dsimp only; rw[ja]; omega)
 intro rec x hx WW;have hn:¬ (w.2.2.1.length:Int)=0:=by omega
 refine Ens.cond (λ hh => ?_) λ hh=>rE code p w k hc;have hh:x.1<(w.2.2.1.length:Int):=by simpa using hh
 rw[if_neg hn,zg (n:=k+x.1) (by omega) (by omega),zg (n:=x.1+1) (by omega) (by omega)];have XI:Ens (rec (x.1+1,x.2.1,())) Lq:=WW _ (by dsimp only; omega) (by dsimp only; omega)
 have t0:0<=Int.tmod (k+x.1) (w.2.2.1.length:Int):=Int.tmod_nonneg _ (by omega);have t1:Int.tmod (k+x.1) (w.2.2.1.length:Int)<(w.2.2.1.length:Int):=Int.tmod_lt_of_pos _ (by omega);refine Ens.ite ⟨t0,t1⟩ ?_;obtain⟨r,hr,WX,hw⟩:=nG h t0 t1;rw[zq (e:=Jl) hr];refine Ens.cond (λ _ => ?_) λ _=>XI;rw[if_neg hn];exact Ens.some (JU _ _ _ _ _ hc.2)
theorem Ph (c:zO) {w:zy} (hc:z6 c) (h:WI w):Ens (fZ (c,w,())) Lq:=by
 have hb:=ym h.conf;have W2:=h.len;unfold fZ;have aa3:yS ((w.2.2.1.length:Int),1,())=some ((w.2.2.1.length:Int),()):=by
  unfold yS;have:(w.2.2.1.length:Int)>1:=by omega
  simp[this]
 dsimp only;rw[aa3,ahu];refine (zE c _ hc).bind λ r1 h1 => ?_;have a1:=h1.2.2 (by dsimp only; omega)
 dsimp only at a1;refine (zE (c.1,r1.1.2) 20 ⟨hc.1,h1.1⟩).bind λ r2 h2 => ?_;have c2:z6 (c.1,r2.1.2):=⟨hc.1,h2.1⟩
 have hk:0<=r1.2.1/\r1.2.1<=8:=⟨h1.2.1,by omega⟩
 have A:=Ie c.1 r2.1.2 w r1.2.1 c2 h hk;have S:=If c.1 r2.1.2 w r1.2.1 c2 h hk;have G:=rE c.1 r2.1.2 w r1.2.1 c2;have L:=Pi (c.1,r2.1.2) c2 h;refine Ens.cond (λ _=>A) λ _ => ?_;refine Ens.cond (λ _=>A) λ _ => ?_;refine Ens.cond (λ _=>A) λ _ => ?_;refine Ens.cond (λ _=>S) λ _ => ?_;refine Ens.cond (λ _=>S) λ _ => ?_;refine Ens.cond (λ _=>S) λ _ => ?_;refine Ens.cond (λ _=>S) λ _ => ?_;refine Ens.cond (λ _=>Ens.some (JU _ _ _ _ _ h2.1)) λ _ => ?_;refine Ens.cond (λ _=>Ens.some (JU _ _ _ _ _ h2.1)) λ _ => ?_;refine Ens.cond (λ _ => ?_) λ _ => ?_
 ·refine (Y0 (c.1,r2.1.2) 2 c2).bind λ r3 h3 => ?_;refine Ens.cond (λ _ => ?_) λ _ => ?_
  ·exact (jG (c.1,r3.1.2) _ ⟨hc.1,h3⟩ (by simp)).bind λ r4 h4=>Ens.some (JU _ _ _ _ _ h4.1)
  ·refine (zE (c.1,r3.1.2) 2 ⟨hc.1,h3⟩).bind λ r4 h4 => ?_;have adq:∃ n,yS ((w.2.2.2.1.length:Int),1,())=some (n,()):=by
    unfold yS;cases decide ((w.2.2.2.1.length:Int)>1)<;>exact⟨_,rfl⟩
   obtain⟨n,adq⟩:=adq;rw[adq,ahu];exact (zE (c.1,r4.1.2) _ ⟨hc.1,h4.1⟩).bind λ r5 h5=>Ens.some (JU _ _ _ _ _ h5.1)
 refine Ens.cond (λ _ => ?_) λ _ => ?_
 ·refine (LM (c.1,r2.1.2) c2).bind λ r3 h3=>Ens.some ⟨h3.1,?_⟩;simp[zh,zB,zi,zk,zn]
 refine Ens.cond (λ _ => ?_) λ _ => ?_
 ·exact Ens.cond (λ _=>L.bind λ r3 h3=>Ens.some ⟨h3.1,by have:=h3.2; dsimp only; omega⟩) λ _=>G
 refine Ens.cond (λ _ => ?_) λ _ => ?_
 ·exact Ens.cond (λ _=>L.bind λ r3 h3=>Ens.some ⟨h3.1,by have:=h3.2; dsimp only; omega⟩) λ _=>G
 refine Ens.cond (λ _ => ?_) λ _=>G
 ·exact Ens.cond (λ _=>L.bind λ r3 h3=>Ens.some ⟨h3.1,by have:=h3.2; dsimp only; omega⟩) λ _=>G
theorem Pj (c:zO) (hc:z6 c):Ens (f0 (c,())) λ r=>0<=r.1.2.1/\WI r.2.1:=by
 unfold f0;refine (Pk c hc).bind λ r0 h0 => ?_;refine (zE (c.1,r0.1.2) 45 ⟨hc.1,h0.1⟩).bind λ r1 h1 => ?_;have a1:=h1.2.2 (by decide);refine Ens.loop (λ x=>(0<=x.1/\x.1<=45)/\0<=x.2.1.2.1/\WI x.2.2.1) (λ x=>(46 - x.1).toNat) ?_ ⟨by simp,h1.1,h0.2⟩ (by dsimp only; rw[ja]; omega)
 intro rec x hx WW;obtain⟨x1,x2,x3⟩:=hx;refine Ens.cond (λ h => ?_) λ _=>Ens.some ⟨x2,x3⟩;have h:x.1<r1.2.1:=by simpa using h
 refine (Ph (c.1,x.2.1.2) ⟨hc.1,x2⟩ x3).bind λ r3 h3 => ?_;refine (Pq x3 r3.2.1 (by have:=h3.2; omega)).bind λ r4 h4 => ?_
 rw[zg (n:=x.1+1) (by omega) (by omega)];exact WW _ ⟨⟨by dsimp only; omega,by dsimp only; omega⟩,h3.1,h4⟩ (by dsimp only; omega)
theorem acz (c:zO) (hc:z6 c):Ens (aax (c,())) λ r=>0<=r.1.2.1/\r.2.1.length<=8/\∀ s∈r.2.1,s.2.1.length<=1920:=by
 unfold aax;refine Ens.loop (λ x=>(0<=x.2.1/\x.2.1<=8)/\(x.1.length:Int)<=x.2.1/\0<=x.2.2.1.2.1/\∀ s∈x.1,s.2.1.length<=1920) (λ x=>(9 - x.2.1).toNat) ?_ ⟨by simp,by simp,hc.2,by simp⟩ (by dsimp only; rw[ja]; omega)
 intro rec x hx WW;obtain⟨x1,x2,x3,x4⟩:=hx;refine (zE (c.1,x.2.2.1.2) 8 ⟨hc.1,x3⟩).bind λ r1 h1 => ?_;have a1:=h1.2.2 (by decide);refine Ens.cond (λ h => ?_) λ h=>Ens.some ⟨h1.1,by dsimp only; omega,x4⟩
 have h:x.2.1<r1.2.1:=by simpa using h
 refine (Qg (c.1,r1.1.2) ⟨hc.1,h1.1⟩).bind λ r2 h2 => ?_;have hl:=jX h2.2;rw[YP _ (by omega),ahu];refine (zE (c.1,r2.1.2) 4 ⟨hc.1,h2.1⟩).bind λ r4 h4 => ?_;refine Ens.ite (by simp only[ahz,ahA]; omega) ?_
 rw[zg (n:=x.2.1+1) (by omega) (by omega)];refine WW _ ⟨⟨by dsimp only; omega,by dsimp only; omega⟩,by simp only[ahD,ahz,ahA]; omega,h4.1,λ s hs => ?_⟩ (by dsimp only; omega)
 simp only[ahR,ahO,aik,or_false] at hs;rcases hs with hs|rfl
 ·exact x4 s hs
 ·exact hl
theorem Pw (c:zO) (conf:za) (hc:z6 c) (hN:conf.1<=8):Ens (go (c,conf,())) λ r=>0<=r.1.2.1/\zi r.2.1<=4000:=by
 unfold go;refine (Qg c hc).bind λ r0 h0 => ?_;refine (lF (c.1,r0.1.2) conf r0.2.1 ⟨hc.1,h0.1⟩ hN h0.2).bind λ r1 h1 => ?_;have hw:zi r1.2.1<=2000:=by
  have h4:=jX h0.2;have h5:=h1.2.2.2;have h6:=h1.2.2.1;simp only[zi,zn];rw[h6];omega
 refine (zE (c.1,r1.1.2) 12 ⟨hc.1,h1.1⟩).bind λ r2 h2 => ?_;refine Ens.cond (λ _=>Ens.some ⟨h2.1,by simp only[zi] at hw ⊢; omega⟩) λ _ => ?_
 refine Ens.cond (λ _ => ?_) λ _ => ?_
 ·refine (tk (c.1,r2.1.2) 7 ⟨hc.1,h2.1⟩ (by decide)).bind λ r3 h3=>Ens.some ⟨h3.1,?_⟩;have:=h3.2;simp only[zi,zn] at hw ⊢; omega
 refine Ens.cond (λ _ => ?_) λ _=>Ens.some ⟨h2.1,by dsimp only; omega⟩
 refine (lE (c.1,r2.1.2) ⟨hc.1,h2.1⟩).bind λ r4 h4=>Ens.some ⟨h4.1,?_⟩;have:=h4.2;simp only[zi] at hw ⊢; omega
theorem OW (c:zO) (conf:za) (hc:z6 c) (hN:conf.1<=8):Ens (fI (c,conf,())) λ r=>0<=r.1.2.1/\zC r.2.1<=60000:=by
 unfold fI aB;rw[ahu];refine Ens.loop (λ x=>(0<=x.1/\x.1<=5)/\0<=x.2.1.2.1/\(zC x.2.2.1:Int)<=10000*(x.1+1)) (λ x=>(6 - x.1).toNat) ?_ ⟨by simp,hc.2,by simp[zC,zi,zn]⟩ (by dsimp only; rw[ja]; omega)
 intro rec x hx WW;obtain⟨x1,x2,x3⟩:=hx;refine (zE (c.1,x.2.1.2) 5 ⟨hc.1,x2⟩).bind λ r2 h2 => ?_;have a2:=h2.2.2 (by decide);refine Ens.cond (λ h => ?_) λ _=>Ens.some ⟨h2.1,by dsimp only; omega⟩
 have h:x.1<r2.2.1:=by simpa using h
 refine (tn (c.1,r2.1.2) conf ⟨hc.1,h2.1⟩ hN).bind λ r3 h3 => ?_;have hb:=h3.2;have hq:zi r3.2.1.2<=4000:=by simp only[zB] at hb; omega
 rw[fk _ _ _ (by omega) (by omega),ahu];have hs:=QZ conf x.2.2.1 r3.2.1.2;refine (Y0 (c.1,r3.1.2) 3 ⟨hc.1,h3.1⟩).bind λ r5 h5 => ?_;rw[zg (n:=x.1+1) (by omega) (by omega)];refine Ens.cond (λ _ => ?_) λ _ => ?_
 ·dsimp only;rw[Bf conf (see conf x.2.2.1 r3.2.1.2) r3.2.1 (by omega) (by omega),ahu];have hv:=BU conf (see conf x.2.2.1 r3.2.1.2) r3.2.1;exact WW _ ⟨⟨by dsimp only; omega,by dsimp only; omega⟩,h5,by dsimp only; omega⟩ (by dsimp only; omega)
 ·exact WW _ ⟨⟨by dsimp only; omega,by dsimp only; omega⟩,h5,by dsimp only; omega⟩ (by dsimp only; omega)
theorem OX (c:zO) (conf:za) (hc:z6 c) (hN:conf.1<=8):Ens (fH (c,conf,())) λ r=>0<=r.1.2.1/\zC r.2.1<=70000:=by
 unfold fH;refine (OW c conf hc hN).bind λ r0 h0 => ?_;have hw:=h0.2;refine (zE (c.1,r0.1.2) 10 ⟨hc.1,h0.1⟩).bind λ r1 h1 => ?_;refine Ens.cond (λ _ => ?_) λ _ => ?_
 ·exact (jG (c.1,r1.1.2) _ ⟨hc.1,h1.1⟩ (by simp)).bind λ r2 h2=>Ens.some ⟨h2.1,by simp only[zC] at hw ⊢; omega⟩
 refine Ens.cond (λ _ => ?_) λ _ => ?_
 ·exact (jG (c.1,r1.1.2) _ ⟨hc.1,h1.1⟩ (by simp)).bind λ r2 h2=>Ens.some ⟨h2.1,by simp only[zC] at hw ⊢; omega⟩
 refine Ens.cond (λ _ => ?_) λ _ => ?_
 ·exact (lE (c.1,r1.1.2) ⟨hc.1,h1.1⟩).bind λ r2 h2=>Ens.some ⟨h2.1,by have:=h2.2; simp only[zC] at hw ⊢; omega⟩
 refine Ens.cond (λ _ => ?_) λ _=>Ens.some ⟨h1.1,by dsimp only; omega⟩
 exact (Pw (c.1,r1.1.2) conf ⟨hc.1,h1.1⟩ hN).bind λ r2 h2=>Ens.some ⟨h2.1,by have:=h2.2; simp only[zC] at hw ⊢; omega⟩
theorem Pu (c:zO) (hc:z6 c):Ens (gn (c,())) λ r=>0<=r.1.2.1/\r.2.1.length<=9:=by
 unfold gn;refine Ens.loop (λ x=>(0<=x.2.1/\x.2.1<=9)/\0<=x.2.2.1.2.1/\(x.1.length:Int)<=x.2.1) (λ x=>(10 - x.2.1).toNat) ?_ ⟨by simp,hc.2,by simp⟩ (by dsimp only; rw[ja]; omega)
 intro rec x hx WW;obtain⟨x1,x2,x3⟩:=hx;refine (zE (c.1,x.2.2.1.2) 9 ⟨hc.1,x2⟩).bind λ r1 h1 => ?_;have a1:=h1.2.2 (by decide);refine Ens.cond (λ h => ?_) λ _=>Ens.some ⟨h1.1,by dsimp only; omega⟩
 have h:x.2.1<r1.2.1:=by simpa using h
 refine (LM (c.1,r1.1.2) ⟨hc.1,h1.1⟩).bind λ r2 h2 => ?_;rw[oO _ _ (by omega),ahu,zg (n:=x.2.1+1) (by omega) (by omega)];have hl:=nl x.1 r2.2.1;exact WW _ ⟨⟨by dsimp only; omega,by dsimp only; omega⟩,h2.1,by dsimp only; omega⟩ (by dsimp only; omega)
theorem Pv (c:zO) (hc:z6 c):Ens (gk (c,())) λ r=>0<=r.1.2.1/\r.2.1.length<=40:=by
 unfold gk;refine (Pu c hc).bind λ r0 h0 => ?_;have hw:=h0.2;refine (zE (c.1,r0.1.2) 8 ⟨hc.1,h0.1⟩).bind λ r1 h1 => ?_;refine Ens.cond (λ _ => ?_) λ _ => ?_
 ·refine (lD (c.1,r1.1.2) ⟨hc.1,h1.1⟩).bind λ r2 h2=>Ens.ite (by simp only[ahz,ahA]; omega) (Ens.some ⟨h2,?_⟩)
  simp only[ahD,ahz,ahA]; omega
 refine Ens.cond (λ _ => ?_) λ _=>Ens.some ⟨h1.1,by dsimp only; omega⟩
 refine Ens.loop (λ x=>(0<=x.2.1/\x.2.1<=4)/\(x.1.length:Int)<=9+4*x.2.1) (λ x=>(5 - x.2.1).toNat) ?_ ⟨by simp,by dsimp only; omega⟩ (by dsimp only; rw[ja]; omega)
 intro rec x hx WW;obtain⟨x1,x3⟩:=hx;refine Ens.cond (λ h => ?_) λ _=>Ens.some ⟨h1.1,by dsimp only; omega⟩
 have h:x.2.1<4:=by simpa using h
 refine Ens.loop (λ y=>(0<=y.2.1/\y.2.1<=4)/\(y.1.length:Int)<=9+4*x.2.1+y.2.1) (λ y=>(5 - y.2.1).toNat) ?_ ⟨by simp,by dsimp only; omega⟩ (by dsimp only; rw[ja]; omega)
 intro rec2 y hy agr;obtain⟨y1,y3⟩:=hy;refine Ens.cond (λ h => ?_) λ hn => ?_
 ·have h:y.2.1<4:=by simpa using h
  rw[oO _ _ (by omega),ahu,zg (n:=y.2.1+1) (by omega) (by omega)];have hl:=nl y.1 (x.2.1,0,0,y.2.1);exact agr _ ⟨⟨by dsimp only; omega,by dsimp only; omega⟩,by dsimp only; omega⟩ (by dsimp only; omega)
 ·have hn:¬ y.2.1<4:=by simpa using hn
  rw[zg (n:=x.2.1+1) (by omega) (by omega)];exact WW _ ⟨⟨by dsimp only; omega,by dsimp only; omega⟩,by dsimp only; omega⟩ (by dsimp only; omega)
theorem WC (l:ya) (p:zH):zF (l++[p])=zF l+(1+zk p):=by
 rw[BV]; simp[zF]
theorem OV (c:zO) (conf:za) (hc:z6 c):Ens (fF (c,conf,())) λ r=>0<=r.1.2.1/\zF r.2.1<=30000:=by
 unfold fF;refine Ens.loop (λ x=>(0<=x.2.1/\x.2.1<=5)/\0<=x.2.2.1.2.1/\(zF x.1:Int)<=2000*x.2.1) (λ x=>(6 - x.2.1).toNat) ?_ ⟨by simp,hc.2,by simp[zF]⟩ (by dsimp only; rw[ja]; omega)
 intro rec x hx WW;obtain⟨x1,x2,x3⟩:=hx;refine (zE (c.1,x.2.2.1.2) 5 ⟨hc.1,x2⟩).bind λ r1 h1 => ?_;have a1:=h1.2.2 (by decide);refine Ens.cond (λ h => ?_) λ _ => ?_
 ·have h:x.2.1<r1.2.1:=by simpa using h
  refine (ll (c.1,r1.1.2) conf ⟨hc.1,h1.1⟩).bind λ r2 h2 => ?_;have hn:=jX h2.2.1;have hp:zk r2.2.1<=1940:=by have:=h2.2.2; simp only[zk,zn]; omega
  rw[aI _ _ _ (by omega) (by omega),ahu,zg (n:=x.2.1+1) (by omega) (by omega)];have hl:=gu conf x.1 r2.2.1;exact WW _ ⟨⟨by dsimp only; omega,by dsimp only; omega⟩,h2.1,by dsimp only; omega⟩ (by dsimp only; omega)
 ·refine (Y0 (c.1,r1.1.2) 8 ⟨hc.1,h1.1⟩).bind λ r4 h4 => ?_;refine Ens.cond (λ _ => ?_) λ _=>Ens.some ⟨h4,by dsimp only; omega⟩
  refine (tf (c.1,r4.1.2) conf ⟨hc.1,h4⟩).bind λ r5 h5 => ?_;have hl:=qp x.1;refine Ens.ite (by simp only[ahz,ahA]; omega) (Ens.some ⟨h5.1,?_⟩)
  dsimp only;rw[WC];have:=h5.2;simp only[zk,zn];omega
theorem O1 (c:zO) (hc:z6 c):Ens (fP (c,())) λ r=>0<=r.1.2.1/\zA r.2.1=true/\zf r.2.1 r.2.2.1=true:=by
 unfold fP;refine (Pj c hc).bind λ r0 h0 => ?_;obtain⟨h0,h⟩:=h0;have hl:=h.len;have hb:=ym h.conf;refine (zE (c.1,r0.1.2) _ ⟨hc.1,h0⟩).bind λ r1 h1 => ?_;have a1:=h1.2.2 (by omega);refine Ens.ite ⟨h1.2.1,a1⟩ ?_;obtain⟨r,hr,WX,-⟩:=nG h h1.2.1 a1;rw[zq (e:=Jl) hr];exact Ens.some ⟨h1.1,h.conf,WX⟩
def FZ (r:zO×za×zb×Unit):Prop:=0<=r.1.2.1/\zA r.2.1=true/\ze r.2.2.1<=2000000/\(0<=r.2.2.1.2.1/\r.2.2.1.2.1<=61)
theorem WE (l:jQ) (p:JR):yr (l++[p])=yr l+(1+Z4 p):=by
 simp[yr]; omega
theorem O3 (c:zO) (hc:z6 c):Ens (aS (c,())) λ r=>0<=r.1.2.1/\zA r.2.1=true/\ze r.2.2.1<=600000/\(0<=r.2.2.1.2.1/\r.2.2.1.2.1<=61):=by
 unfold aS;refine (O1 c hc).bind λ r0 h0 => ?_;obtain⟨h0,Xn,WX⟩:=h0;have hb:=ym Xn;have hw:=Kf WX;obtain⟨-,-,hv,-⟩:=JH WX;refine (zE (c.1,r0.1.2) 16 ⟨hc.1,h0⟩).bind λ r1 h1 => ?_;refine Ens.cond (λ _ => ?_) λ _ => ?_
 ·exact (jG (c.1,r1.1.2) _ ⟨hc.1,h1.1⟩ (by simp)).bind λ r2 h2=>Ens.some ⟨h2.1,Xn,by simp only[ze] at hw ⊢; omega,by dsimp only; omega⟩
 refine Ens.cond (λ _ => ?_) λ _ => ?_
 ·refine (jG (c.1,r1.1.2) _ ⟨hc.1,h1.1⟩ (by simp)).bind λ r2 h2=>Ens.some ⟨h2.1,Xn,by simp only[ze] at hw ⊢; omega,?_⟩
  have:=h2.2;simp only[ahO,aik,or_false] at this;dsimp only; omega
 refine Ens.cond (λ _ => ?_) λ _ => ?_
 ·exact (jG (c.1,r1.1.2) _ ⟨hc.1,h1.1⟩ (by simp)).bind λ r2 h2=>Ens.some ⟨h2.1,Xn,by simp only[ze] at hw ⊢; omega,by dsimp only; omega⟩
 refine Ens.cond (λ _ => ?_) λ _ => ?_
 ·exact (OX (c.1,r1.1.2) r0.2.1 ⟨hc.1,h1.1⟩ (by omega)).bind λ r2 h2=>Ens.some ⟨h2.1,Xn,by have:=h2.2; simp only[ze] at hw ⊢; omega,by dsimp only; omega⟩
 refine Ens.cond (λ _ => ?_) λ _ => ?_
 ·exact (Pv (c.1,r1.1.2) ⟨hc.1,h1.1⟩).bind λ r2 h2=>Ens.some ⟨h2.1,Xn,by have:=h2.2; simp only[ze,Yk] at hw ⊢; omega,by dsimp only; omega⟩
 refine Ens.cond (λ _ => ?_) λ _ => ?_
 ·exact (OV (c.1,r1.1.2) r0.2.1 ⟨hc.1,h1.1⟩).bind λ r2 h2=>Ens.some ⟨h2.1,Xn,by have:=h2.2; simp only[ze] at hw ⊢; omega,by dsimp only; omega⟩
 refine Ens.cond (λ _ => ?_) λ _ => ?_
 ·exact (OY (c.1,r1.1.2) ⟨hc.1,h1.1⟩).bind λ r2 h2=>Ens.some ⟨h2.1,Xn,by have:=h2.2; simp only[ze,JM] at hw ⊢; omega,by dsimp only; omega⟩
 refine Ens.cond (λ _ => ?_) λ _=>Ens.some ⟨h1.1,Xn,by dsimp only; omega,by dsimp only; omega⟩
 refine (zE (c.1,r1.1.2) 5 ⟨hc.1,h1.1⟩).bind λ r2 h2 => ?_;refine (O0 (c.1,r2.1.2) r0.2.1 ⟨hc.1,h2.1⟩ (by omega)).bind λ r3 h3 => ?_;have hl:r0.2.2.1.2.2.2.2.2.2.2.length<=260000:=by simp only[ze,yr] at hw; omega
 refine Ens.ite (by simp only[ahz,ahA]; omega) (Ens.some ⟨h3.1,Xn,?_,by dsimp only; omega⟩)
 have:=h3.2;simp only[ze,WE,Z4] at hw ⊢; omega
theorem O2 (c:zO) (hc:z6 c):Ens (aS (c,())) FZ:=(O3 c hc).mono λ _ h=>⟨h.1,h.2.1,Nat.le_trans h.2.2.1 (by decide),h.2.2.2⟩
theorem Gn (a:y0):Yp a a=true:=by simp[Yp,ny]
theorem P0 (a:zp):Ze a a=true:=by simp[Ze,Gn,ny,Mq]
theorem Uc (a:zI):Kg a a=true:=by simp[Kg,ny]
theorem Uj (l:List Int) (h:l.length<=137438953472):cK (l,l,())=some (true,()):=by
 unfold cK;simp only[bne_self_eq_false,ahv];refine bO l (true,()) (by omega) ?_ ?_
 ·intro rec s; simp
 ·intro rec i s x hx hi;simp only[ahH,zu hi,ahB,ahw,if_true,ahL,rd,aie,hx,ai5,zt (show i<4611686018427387904 by omega),bne_self_eq_false,ahv]
theorem Uo (l:zw) (h:l.length<=137438953472):cO (l,l,())=some (true,()):=by
 unfold cO;simp only[bne_self_eq_false,ahv];refine bO l (true,()) (by omega) ?_ ?_
 ·intro rec s; simp
 ·intro rec i s x hx hi;simp only[ahH,zu hi,ahB,ahw,if_true,ahL,rd,aie,hx,ai5,zt (show i<4611686018427387904 by omega),beq_self_eq_true,air,ahC,ahv]
theorem Ul (p:zH) (h:zk p<=137438953472):cL (p,p,())=some (true,()):=by
 unfold cL;simp only[beq_self_eq_true,cond_true,Uj p.2.2 (by simp only[zk,zn] at h; omega),Option.bind_some]
theorem WD {l:ya} {x:zH} {N:Nat} (hw:zF l<=N) {i:Nat} (hx:l[i]?=some x):zk x<=N:=by
 have:=ZF zk (List.mem_of_getElem? hx); unfold zF at hw; omega
theorem Un (l:ya) (h:zF l<=137438953472):cN (l,l,())=some (true,()):=by
 have hl:=qp l;unfold cN;simp only[bne_self_eq_false,ahv];refine bO l (true,()) (by omega) ?_ ?_
 ·intro rec s; simp
 ·intro rec i s x hx hi;simp only[ahH,zu hi,ahB,ahw,if_true,ahL,rd,aie,hx,ai5,zt (show i<4611686018427387904 by omega),Ul x (WD h hx),ahu,ahC,ahv]
theorem Um (r:zb) (h:ze r<=137438953472):cM (r,r,())=some (true,()):=by
 have h':=h;simp only[ze,Yk,yr] at h;unfold cM;simp only[bne_self_eq_false,ahv,A9 r.2.2.2.1 r.2.2.2.1 (by omega),Uc,ahu,ahC,Uo r.2.2.2.2.1 (by omega),Un r.2.2.2.2.2.1 (by omega),Ui];refine bO r.2.2.2.2.2.2.2 (true,()) (by omega) ?_ ?_
 ·intro rec s; simp
 ·intro rec i s x hx hi;have hm:zh x.2<=137438953472:=gB (N:=137438953472) (by simp only[yr]; omega) hx
  simp only[ahH,zu hi,ahB,ahw,if_true,ahL,rd,aie,hx,ai5,zt (show i<4611686018427387904 by omega),bne_self_eq_false,ahv,NP x.2 x.2 (MsgW.of hm),P0,ahu,ahC]
theorem abC (w:zy) (h:Z5 w<=137438953472):aaf (w,w,())=some (true,()):=by
 simp only[Z5,zn,Mu,qs,Lp] at h;unfold aaf;simp only[beq_self_eq_true,air,ahC,ahv,Uj w.2.1 (by omega),ahu,bne_self_eq_false];have l3:∀ {G:(Int×Unit->Option (Bool×Unit))->Int×Unit->Option (Bool×Unit)},(∀ rec s,G rec ((w.2.2.2.2.length:Int),s)=some (true,()))->
   (∀ rec (i:Nat) s x,w.2.2.2.2[i]?=some x->i<w.2.2.2.2.length->G rec ((i:Int),s)=rec ((i:Int)+1,s))->iter G fuel (0,())=some (true,()):=λ h1 h2=>bO w.2.2.2.2 (true,()) (by omega) h1 h2
 refine bO w.2.2.1 (true,()) (by omega) ?_ ?_
 ·intro rec s;simp only[ai0,ahG,ahv];refine bO w.2.2.2.1 (true,()) (by omega) ?_ ?_
  ·intro rec s;simp only[ai0,ahG,ahv];refine l3 ?_ ?_
   ·intro rec s; simp
   ·intro rec i s x hx hi;simp only[ahH,zu hi,ahB,ahw,if_true,ahL,rd,aie,hx,ai5,zt (show i<4611686018427387904 by omega),beq_self_eq_true,air,ahC,ahv]
  ·intro rec i s x hx hi;simp only[ahH,zu hi,ahB,ahw,if_true,ahL,rd,aie,hx,ai5,zt (show i<4611686018427387904 by omega),bne_self_eq_false,ahv]
 ·intro rec i s x hx hi;have hm:ze x<=137438953472:=by have:=ZF ze (List.mem_of_getElem? hx); omega
  simp only[ahH,zu hi,ahB,ahw,if_true,ahL,rd,aie,hx,ai5,zt (show i<4611686018427387904 by omega),Um x hm,ahu,ahC,ahv]
theorem acD (c:zO) (hc:z6 c):Ens (aaA (c,())) λ r=>0<=r.1.2.1/\r.2.1.1<=8:=by
 unfold aaA;refine (acE c hc).bind λ r0 h0 => ?_;have hb:=ym h0.2;refine (zE (c.1,r0.1.2) 12 ⟨hc.1,h0.1⟩).bind λ r1 h1 => ?_;refine Ens.cond (λ _ => ?_) λ _ => ?_
 ·refine (jG (c.1,r1.1.2) _ ⟨hc.1,h1.1⟩ (by simp)).bind λ r2 h2=>Ens.some ⟨h2.1,?_⟩;have:=h2.2;simp only[ahO,aik,or_false] at this;dsimp only; omega
 refine Ens.cond (λ _ => ?_) λ _=>Ens.some ⟨h1.1,by dsimp only; omega⟩
 exact (jG (c.1,r1.1.2) _ ⟨hc.1,h1.1⟩ (by simp)).bind λ r2 h2=>Ens.some ⟨h2.1,by dsimp only; omega⟩
theorem acA (c:zO) (conf:za) (hc:z6 c) (hN:conf.1<=8):Ens (aay (c,conf,())) λ r=>0<=r.1.2.1/\yr r.2.1<=100000:=by
 unfold aay;refine Ens.loop (λ x=>(0<=x.2.1/\x.2.1<=4)/\0<=x.2.2.1.2.1/\(yr x.1:Int)<=8010*x.2.1) (λ x=>(5 - x.2.1).toNat) ?_ ⟨by simp,hc.2,by simp[yr]⟩ (by dsimp only; rw[ja]; omega)
 intro rec x hx WW;obtain⟨x1,x2,x3⟩:=hx;have hl:x.1.length<=yr x.1:=by unfold yr; omega
 refine (zE (c.1,x.2.2.1.2) 4 ⟨hc.1,x2⟩).bind λ r1 h1 => ?_;have a1:=h1.2.2 (by decide);refine Ens.cond (λ h => ?_) λ _=>Ens.some ⟨h1.1,by dsimp only; omega⟩
 have h:x.2.1<r1.2.1:=by simpa using h
 refine (zE (c.1,r1.1.2) 6 ⟨hc.1,h1.1⟩).bind λ r2 h2 => ?_;refine (O0 (c.1,r2.1.2) conf ⟨hc.1,h2.1⟩ hN).bind λ r3 h3 => ?_;refine Ens.ite (by simp only[ahz,ahA]; omega) ?_
 rw[zg (n:=x.2.1+1) (by omega) (by omega)];refine WW _ ⟨⟨by dsimp only; omega,by dsimp only; omega⟩,h3.1,?_⟩ (by dsimp only; omega)
 have:=h3.2;dsimp only;rw[WE];simp only[Z4];omega
theorem ad6 (l:jn) (x:bD):qs (l++[x])=qs l+(1+x.2.length):=by
 simp[qs,Mv,po]; omega
theorem aaS {α:Type} (f:α->Nat):∀ (l:List α) (i:Nat) (x:α),((l.set i x).map f).sum<=(l.map f).sum+f x
 | [],_,_=>by simp
 | y::l,0,x=>by simp; omega
 | y::l,i+1,x=>by have:=aaS f l i x; simp at this ⊢; omega
theorem abH {α:Type} (f:α->Nat):∀ (l:List α) (i:Nat),((l.take i).map f).sum<=(l.map f).sum
 | [],_=>by simp
 | y::l,0=>by simp
 | y::l,i+1=>by have:=abH f l i; simp at this ⊢; omega
def aaT (r:zO×zy×Unit):Prop:=0<=r.1.2.1/\r.2.1.1.1<=8/\Z5 r.2.1<=600000000
theorem acB (c:zO) (hc:z6 c):Ens (aaz (c,())) aaT:=by
 unfold aaz aaT;refine (Pj c hc).bind λ r0 h0 => ?_;obtain⟨h0,h⟩:=h0;have hw:=h.w_leS;have hb:=ym h.conf;have W2:=h.len;have hn:=h.net.1;have hs:=h.said.1;refine (zE (c.1,r0.1.2) 20 ⟨hc.1,h0⟩).bind λ r1 h1 => ?_;refine Ens.cond (λ _ => ?_) λ _ => ?_
 ·exact (acD (c.1,r1.1.2) ⟨hc.1,h1.1⟩).bind λ r2 h2=>Ens.some ⟨h2.1,h2.2,by simp only[Z5] at hw ⊢; omega⟩
 refine Ens.cond (λ _ => ?_) λ _ => ?_
 ·exact (tk (c.1,r1.1.2) 4 ⟨hc.1,h1.1⟩ (by decide)).bind λ r2 h2=>Ens.some ⟨h2.1,by dsimp only; omega,by have:=h2.2; simp only[Z5,zn] at hw ⊢; omega⟩
 refine Ens.cond (λ _ => ?_) λ _ => ?_
 ·refine (O2 (c.1,r1.1.2) ⟨hc.1,h1.1⟩).bind λ r2 h2=>Ens.ite ⟨Int.le_refl _,by omega⟩ (Ens.some ⟨h2.1,by dsimp only; omega,?_⟩)
  have h3:=aaS ze r0.2.1.2.2.1 (Int.toNat 0) r2.2.2.1;have h4:=h2.2.2.1;simp only[Z5,Mu,aj9] at hw ⊢;omega
 refine Ens.cond (λ _ => ?_) λ _ => ?_
 ·refine (zE (c.1,r1.1.2) 8 ⟨hc.1,h1.1⟩).bind λ r2 h2 => ?_;refine (O0 (c.1,r2.1.2) r0.2.1.1 ⟨hc.1,h2.1⟩ (by omega)).bind λ r3 h3 => ?_;have h4:=h3.2;rw[Vw _ _ (by omega),ahu];have hl:=PW r0.2.1.1 r3.2.1;refine Ens.ite (by simp only[ahz,ahA]; omega) (Ens.some ⟨h3.1,by dsimp only; omega,?_⟩)
  simp only[Z5,ad6] at hw ⊢;omega
 refine Ens.cond (λ _ => ?_) λ _ => ?_
 ·refine (acz (c.1,r1.1.2) ⟨hc.1,h1.1⟩).bind λ r2 h2=>Ens.ite (by have:=h2.2.1; omega) (Ens.some ⟨h2.1,by dsimp only; omega,?_⟩)
  have h3:=pa qq 2000 r2.2.1 λ s hs=>by have:=h2.2.2 s hs; simp only[qq]; omega
  have h4:=h2.2.1;have h5:2000*r2.2.1.length<=2000*8:=Nat.mul_le_mul_left _ h4;simp only[Z5,Lp,ahD,ajb,List.sum_append] at hw ⊢;omega
 refine Ens.cond (λ _ => ?_) λ _ => ?_
 ·refine (OW (c.1,r1.1.2) r0.2.1.1 ⟨hc.1,h1.1⟩ (by omega)).bind λ r2 h2=>Ens.ite ⟨by decide,by omega⟩ (Ens.some ⟨h2.1,by dsimp only; omega,?_⟩)
  have hi:Int.toNat 1<r0.2.1.2.2.1.length:=by omega
  have hg:=List.getElem?_eq_getElem hi;unfold modi;rw[zq (e:=Jl) hg];have hr:=ZF ze (List.getElem_mem hi);have h3:=aaS ze r0.2.1.2.2.1 (Int.toNat 1) ((r0.2.1.2.2.1[Int.toNat 1]).1,(r0.2.1.2.2.1[Int.toNat 1]).2.1,(r0.2.1.2.2.1[Int.toNat 1]).2.2.1,r2.2.1,(r0.2.1.2.2.1[Int.toNat 1]).2.2.2.2);have h4:=h2.2;have h6:=Kf (h.reps _ hi).1;have h5:ze ((r0.2.1.2.2.1[Int.toNat 1]).1,(r0.2.1.2.2.1[Int.toNat 1]).2.1,(r0.2.1.2.2.1[Int.toNat 1]).2.2.1,r2.2.1,(r0.2.1.2.2.1[Int.toNat 1]).2.2.2.2)<=60000+260000:=by
   simp only[ze] at h6 ⊢; omega
  simp only[Z5,Mu,aj9] at hw ⊢;omega
 refine Ens.cond (λ _ => ?_) λ _=>Ens.some ⟨h1.1,by dsimp only; omega,by dsimp only; omega⟩
 rw[zg (n:=((r0.2.1.2.2.1.length:Nat):Int) - 1) (by omega) (by omega)];refine Ens.ite ⟨Int.le_refl _,by omega,by omega⟩ (Ens.some ⟨h1.1,by dsimp only; omega,?_⟩)
 have h3:=abH ze r0.2.1.2.2.1 (Int.toNat (((r0.2.1.2.2.1.length:Nat):Int) - 1));have h4:(List.take (Int.toNat (((r0.2.1.2.2.1.length:Nat):Int) - 1)) r0.2.1.2.2.1).length<=r0.2.1.2.2.1.length:=by simp
 simp only[Z5,Mu] at hw ⊢;omega
theorem acZ (c:za) (ws:jn) (p:JR):∃ t,NC c ws p=ws++t:=by
 unfold NC;cases decide (((J4 c p.2).length:Int)>0)
 ·exact⟨[],by simp⟩
 cases (decide (p.1≥0) && decide (p.1<=wr (c.1 - 1)))
 ·exact⟨[],by simp⟩
 cases decide ((ws.length:Int)<60)
 ·exact⟨[],by simp⟩
 ·exact⟨_,rfl⟩
theorem aaP (c:za):∀ (ps:jQ) (ws:jn),∃ t,aa c ws ps=ws++t
 | [],ws=>⟨[],by simp[aa]⟩
 | p::ps,ws=>by
  obtain⟨a,ha⟩:=acZ c ws p;obtain⟨b,hb⟩:=aaP c ps (NC c ws p);exact⟨a++b,by rw[show aa c ws (p::ps)=aa c (NC c ws p) ps from rfl,hb,ha,aih]⟩
theorem acY (c:za) (ps:jQ) (i:Nat) (h:i<ps.length) (ws:jn):aa c ws (ps.drop i)=aa c (NC c ws ps[i]) (ps.drop (i+1)):=by
 rw[ahP h]; rfl
theorem abG (c:za) (ws:jn) (p:JR):NC c ws p=ws∨(NC c ws p=ws++[(p.1,J4 c p.2)]/\((J4 c p.2).length:Int)>0):=by
 unfold NC;cases h:decide (((J4 c p.2).length:Int)>0)
 ·exact .inl rfl
 cases (decide (p.1≥0) && decide (p.1<=wr (c.1 - 1)))
 ·exact .inl rfl
 cases decide ((ws.length:Int)<60)
 ·exact .inl rfl
 ·exact .inr ⟨rfl,by simpa using h⟩
theorem abJ (code:List UInt8) (hb:code.length<=big):Ens (aav (code,())) λ r=>Z5 r.1<=600000000/\yr r.2.1<=100000:=by
 unfold aav;refine (Pe code hb).bind λ r0 h0 => ?_;refine (acB r0 h0.1).bind λ r1 h1 => ?_;exact (acA (r0.1,r1.1.2) r1.2.1.1 ⟨h0.1.1,h1.1⟩ h1.2.1).bind λ r3 h3=>Ens.some ⟨h1.2.2,h3.2⟩
theorem law_SendsInOrder (code:List UInt8) (hb:code.length<=big):laws_FnSendsInOrder (code,())=some (true,()):=by
 suffices h:Ens (laws_FnSendsInOrder (code,())) λ r=>r=(true,()) by
  obtain⟨y,hy,rfl⟩:=h;exact hy
 unfold laws_FnSendsInOrder lJ;dsimp only;by_cases Xx:(code.length:Int)>1048576
 ·simp only[Xx,ahB,ahu,ahw];exact Ens.some rfl
 simp only[Xx,ahG,ahu,ahv];refine (abJ code hb).bind λ r1 h1 => ?_;obtain⟨w,ps,u⟩:=r1;obtain⟨hw,hp⟩:=h1;dsimp only at hw hp ⊢;have hl:=ad3 w ps;rw[acq _ _ (by omega) (by omega),ahu,ad4 _ _ (by omega) (by omega),ahu];dsimp only;rw[abC _ (by omega),ahu];dsimp only;rw[ahC,ahv];have agm:∃ t,(send w ps).2.2.2.1=w.2.2.2.1++t:=by
  unfold send;cases qt w
  ·exact⟨[],by simp⟩
  ·exact aaP w.1 ps w.2.2.2.1
 have hle:w.2.2.2.1.length<=(send w ps).2.2.2.1.length:=by obtain⟨t,ht⟩:=agm; rw[ht]; simp
 rw[show decide ((((send w ps).2.2.2.1.length:Nat):Int)<((w.2.2.2.1.length:Nat):Int))=false by simp; omega,ahv,ab4 w ((WB.of (N:=1073741824) (by omega) (aip _))),ahu]
 dsimp only;cases WX:qt w
 ·have e:send w ps=w:=by unfold send; rw[WX]; rfl
  rw[ahY,ahw,e,abC _ (by omega),ahu];exact Ens.some rfl
 rw[ahC,ahv];have e:(send w ps).2.2.2.1=aa w.1 w.2.2.2.1 ps:=by unfold send; rw[WX]; rfl
 rw[e] at hle ⊢;have hpl:ps.length<=yr ps:=by unfold yr; omega
 have hN:(aa w.1 w.2.2.2.1 ps).length<=7000000000:=by
  have:(send w ps).2.2.2.1.length<=Z5 (send w ps):=by simp only[Z5,qs]; omega
  rw[e] at this; omega
 generalize hNN:aa w.1 w.2.2.2.1 ps=N at *;refine Ens.loop (λ x:Int×Int×Unit=>(0<=x.2.1/\x.2.1<=(ps.length:Int))/\(0<=x.1/\x.1<=(N.length:Int))/\∃ ws:jn,aa w.1 ws (ps.drop x.2.1.toNat)=N/\(ws.length:Int)<=x.1) (λ x=>((ps.length:Int) - x.2.1).toNat) ?_
  ⟨by simp,by dsimp only; omega,w.2.2.2.1,by simpa using hNN,by dsimp only; omega⟩ (by dsimp only; rw[ja]; omega)
 intro rec x hx WW;obtain⟨x1,x2,ws,x3,x4⟩:=hx;refine Ens.cond (λ h => ?_) λ h => ?_
 ·have h:x.2.1<(ps.length:Int):=by simpa using h
  have hi:x.2.1.toNat<ps.length:=by omega
  have hg:ps[x.2.1.toNat]?=some ps[x.2.1.toNat]:=List.getElem?_eq_getElem hi;refine Ens.ite ⟨x1.1,h⟩ ?_;have hm:=gB hp hg;rw[zq (e:=gK) hg,ab0 w.1 ps[x.2.1.toNat].2 (by omega),Option.bind_some];dsimp only;rw[zg (n:=x.2.1+1) (by omega) (by omega),zg (n:=x.1+1) (by omega) (by omega)];rw[acY w.1 ps _ hi] at x3;have Xi:(x.2.1+1).toNat=x.2.1.toNat+1:=by omega
  have stay:((NC w.1 ws ps[x.2.1.toNat]).length:Int)<=x.1->Ens (rec (x.1,x.2.1+1,())) λ r=>r=(true,()):=λ hs=>
   WW _ ⟨⟨by dsimp only; omega,by dsimp only; omega⟩,x2,_,by dsimp only; rw[Xi]; exact x3,hs⟩ (by dsimp only; omega)
  have ad8:x.1<(N.length:Int)->Ens (rec (x.1+1,x.2.1+1,())) λ r=>r=(true,()):=λ hs=>
   WW _ ⟨⟨by dsimp only; omega,by dsimp only; omega⟩,⟨by dsimp only; omega,by dsimp only; omega⟩,_,by dsimp only; rw[Xi]; exact x3,by
    rcases abG w.1 ws ps[x.2.1.toNat] with h1|⟨h1,_⟩
    ·rw[h1]; dsimp only; omega
    ·rw[h1]; simp only[ahD,ahz,ahA]; omega⟩ (by dsimp only; omega)
-- what is taken stands there
  have key:¬ (((NC w.1 ws ps[x.2.1.toNat]).length:Int)<=x.1)->x.1<(N.length:Int)/\N[x.1.toNat]?=some (ps[x.2.1.toNat].1,J4 w.1 ps[x.2.1.toNat].2)/\((J4 w.1 ps[x.2.1.toNat].2).length:Int)>0:=by
   intro hs;rcases abG w.1 ws ps[x.2.1.toNat] with h1|⟨h1,h2⟩
   ·rw[h1] at hs; omega
   ·rw[h1] at hs x3;obtain⟨t,ht⟩:=aaP w.1 (ps.drop (x.2.1.toNat+1)) (ws++[(ps[x.2.1.toNat].1,J4 w.1 ps[x.2.1.toNat].2)]);rw[ht] at x3;simp only[ahD,ahz,ahA] at hs;have hk:x.1.toNat=ws.length:=by omega
    rw[←x3,hk];refine⟨by simp only[ahD,ahz,ahA]; omega,by simp,h2⟩
  by_cases hs:((NC w.1 ws ps[x.2.1.toNat]).length:Int)<=x.1
  ·refine Ens.cond (λ hk => ?_) λ _=>stay hs;have hk:x.1<(N.length:Int):=by simpa using hk
   refine Ens.ite ⟨x2.1,hk⟩ (Ens.cond (λ _=>Ens.ite ⟨x2.1,hk⟩ (Ens.ite ⟨x1.1,h⟩ (Ens.cond (λ _=>Ens.cond (λ _=>ad8 hk) λ _=>stay hs) λ _=>stay hs))) λ _=>stay hs)
  ·obtain⟨hk,hNx,acf⟩:=key hs;refine Ens.cond (λ _ => ?_) λ hf=>by simp at hf; omega
   refine Ens.ite ⟨x2.1,hk⟩ ?_;rw[zq (e:=pC) hNx];refine Ens.cond (λ _ => ?_) λ hf=>by simp at hf
   refine Ens.ite ⟨x2.1,hk⟩ (Ens.ite ⟨x1.1,h⟩ (Ens.cond (λ _=>Ens.cond (λ _=>ad8 hk) λ hf=>by rw[decide_eq_true acf] at hf; cases hf) λ hf=>by simp at hf))
 ·have h:¬ x.2.1<(ps.length:Int):=by simpa using h
  refine Ens.some ?_;have h0:ps.drop x.2.1.toNat=[]:=List.drop_eq_nil_of_le (by omega);rw[h0] at x3;have:ws=N:=x3;subst this;have:x.1=(ws.length:Int):=by omega
  rw[this,beq_self_eq_true]
end G448
