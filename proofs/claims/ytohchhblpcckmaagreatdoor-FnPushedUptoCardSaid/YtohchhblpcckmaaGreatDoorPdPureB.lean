/- Plain laws, part 2: what the functions compute. No program in sight. -/
import Derived.Test.YtohchhblpcckmaaGreatDoorPdPureA
set_option linter.unusedSimpArgs false
set_option linter.unusedVariables false
namespace G448
open Ev Go
set_option maxRecDepth 100000
noncomputable def seat (c:za) (v i:Int):Int:=bif zw c && (!decide (v<0) && (decide (i≥0) && decide (i<=c.1 - 1))) then (i+c.1 - v % c.1) % c.1 else -1
noncomputable def sits (c:za) (v p:Int):Int:=bif zw c && (!decide (v<0) && (decide (p≥0) && decide (p<=c.1 - 1))) then (v % c.1+p) % c.1 else -1
theorem gU {a n:Int} (h:0<=a):Int.tmod a n=a % n:=Int.tmod_eq_emod_of_nonneg h
theorem aO (c:za) (v i:Int):N7 (c,v,i,())=some (seat c v i,()):=by
 unfold N7 seat;dsimp only;rw[YN,aiu];cases h:zw c
 ·rfl
 obtain⟨h1,h2⟩:=yj h;have e1:wr (c.1 - 1)=c.1 - 1:=zg (by omega) (by omega);by_cases hv:v<0
 ·simp only[hv,aiB,aiw,aiC,aiv,ajh,ajy,aiS]
 simp only[hv,aiD,aiv,aiC,aiV,aiS,gw,aiu,e1];by_cases hi:i≥0/\i<=c.1 - 1
 ·have a1:0<=v % c.1:=Int.emod_nonneg _ (by omega);have a2:v % c.1<c.1:=Int.emod_lt_of_pos _ (by omega);simp only[hi.1,hi.2,aiB,ajn,aiC,aiv,aiw];rw[if_neg (by omega),if_neg (by omega),gU (show 0<=v by omega),zg (show -9223372036854775808<=i+c.1 by omega) (by omega),zg (by omega) (by omega),gU (by omega)]
 ·have:(decide (i≥0) && decide (i<=c.1 - 1))=false:=by
   rw[Bool.eq_false_iff]; intro h; simp only[aix,aiI] at h; exact hi h
  simp only[this,aiV,aiw,aiv]
theorem aa3 (c:za) (v i:Int):aa1 (c,v,i,())=some (seat c v i,()):=by
 unfold aa1 seat;dsimp only;rw[Nh,aiu];cases h:zw c
 ·rfl
 obtain⟨h1,h2⟩:=yj h;have e1:wr (c.1 - 1)=c.1 - 1:=zg (by omega) (by omega);by_cases hv:v<0
 ·simp only[hv,aiB,aiw,aiC,aiv,ajh,ajy,aiS]
 simp only[hv,aiD,aiv,aiC,aiV,aiS,aaU,aiu,e1];by_cases hi:i≥0/\i<=c.1 - 1
 ·have a1:0<=v % c.1:=Int.emod_nonneg _ (by omega);have a2:v % c.1<c.1:=Int.emod_lt_of_pos _ (by omega);simp only[hi.1,hi.2,aiB,ajn,aiC,aiv,aiw];rw[if_neg (by omega),if_neg (by omega),gU (show 0<=v by omega),zg (show -9223372036854775808<=i - v % c.1 by omega) (by omega),zg (by omega) (by omega),gU (by omega),show i - v % c.1+c.1=i+c.1 - v % c.1 by omega]
 ·have:(decide (i≥0) && decide (i<=c.1 - 1))=false:=by
   rw[Bool.eq_false_iff]; intro h; simp only[aix,aiI] at h; exact hi h
  simp only[this,aiV,aiw,aiv]
theorem WH (c:za) (v p:Int):fX (c,v,p,())=some (sits c v p,()):=by
 unfold fX sits;dsimp only;rw[YN,aiu];cases h:zw c
 ·rfl
 obtain⟨h1,h2⟩:=yj h;have e1:wr (c.1 - 1)=c.1 - 1:=zg (by omega) (by omega);by_cases hv:v<0
 ·simp only[hv,aiB,aiw,aiC,aiv,ajh,ajy,aiS]
 simp only[hv,aiD,aiv,aiC,aiV,aiS,gw,aiu,e1];by_cases hi:p≥0/\p<=c.1 - 1
 ·have a1:0<=v % c.1:=Int.emod_nonneg _ (by omega);have a2:v % c.1<c.1:=Int.emod_lt_of_pos _ (by omega);simp only[hi.1,hi.2,aiB,ajn,aiC,aiv,aiw];rw[if_neg (by omega),if_neg (by omega),gU (show 0<=v by omega),zg (by omega) (by omega),gU (by omega)]
 ·have:(decide (p≥0) && decide (p<=c.1 - 1))=false:=by
   rw[Bool.eq_false_iff]; intro h; simp only[aix,aiI] at h; exact hi h
  simp only[this,aiV,aiw,aiv]
theorem acs (c:za) (v p:Int):aat (c,v,p,())=some (sits c v p,()):=by
 unfold aat sits;dsimp only;rw[Nh,aiu];cases h:zw c
 ·rfl
 obtain⟨h1,h2⟩:=yj h;have e1:wr (c.1 - 1)=c.1 - 1:=zg (by omega) (by omega);by_cases hv:v<0
 ·simp only[hv,aiB,aiw,aiC,aiv,ajh,ajy,aiS]
 simp only[hv,aiD,aiv,aiC,aiV,aiS,aaU,aiu,e1];by_cases hi:p≥0/\p<=c.1 - 1
 ·have a1:0<=v % c.1:=Int.emod_nonneg _ (by omega);have a2:v % c.1<c.1:=Int.emod_lt_of_pos _ (by omega);simp only[hi.1,hi.2,aiB,ajn,aiC,aiv,aiw];rw[if_neg (by omega),if_neg (by omega),gU (show 0<=v by omega),zg (by omega) (by omega),gU (by omega)]
 ·have:(decide (p≥0) && decide (p<=c.1 - 1))=false:=by
   rw[Bool.eq_false_iff]; intro h; simp only[aix,aiI] at h; exact hi h
  simp only[this,aiV,aiw,aiv]
theorem Ll {c:za} {v i:Int} (h:0<=seat c v i):zw c=true/\0<=v/\0<=i/\i<=c.1 - 1/\seat c v i=(i+c.1 - v % c.1) % c.1:=by
 unfold seat at *;cases hc:(zw c && (!decide (v<0) && (decide (i≥0) && decide (i<=c.1 - 1))))
 ·rw[hc] at h; simp only[aiv] at h; omega
 ·simp only[aix,aj1,ajJ,aiI] at hc;exact⟨hc.1,by omega,hc.2.2.1,hc.2.2.2,rfl⟩
noncomputable def up (c:za) (v i:Int):Int:=bif decide (seat c v i<=0) then -1 else sits c v ((seat c v i - 1) / c.2)
theorem oX {c:za} {v i:Int} (h:0<=seat c v i):seat c v i<c.1:=by
 obtain⟨h1,_,_,_,h5⟩:=Ll h;have:=yj h1;rw[h5];exact Int.emod_lt_of_pos _ (by omega)
theorem Ck {c:za} {v i:Int} (h:¬ seat c v i<=0):wr (Int.tdiv (wr (seat c v i - 1)) c.2)=(seat c v i - 1) / c.2/\¬ c.2=0/\0<=(seat c v i - 1) / c.2/\(seat c v i - 1) / c.2<=seat c v i - 1:=by
 obtain⟨h1,_⟩:=Ll (c:=c) (v:=v) (i:=i) (by omega);have hlt:=oX (c:=c) (v:=v) (i:=i) (by omega);obtain⟨c1,c2⟩:=yj h1;have hf:1<=c.2/\c.2<=6:=by
  unfold zw at h1;simp only[aix,aiI] at h1;exact h1.2
 have hd0:0<=(seat c v i - 1) / c.2:=Int.ediv_nonneg (by omega) (by omega);have hd1:(seat c v i - 1) / c.2<=seat c v i - 1:=Int.ediv_le_self _ (by omega);refine⟨?_,by omega,hd0,hd1⟩;rw[zg (show -9223372036854775808<=seat c v i - 1 by omega) (by omega),akE (by omega),zg (by omega) (by omega)]
theorem BJ (c:za) (v i:Int):qd (c,v,i,())=some (up c v i,()):=by
 unfold qd up;dsimp only;rw[aO,aiu];by_cases h:seat c v i<=0
 ·simp only[h,aiB,aiw]
 ·obtain⟨e1,e2,_⟩:=Ck h;simp only[h,aiD,aiv,e1];rw[if_neg e2,WH,aiu]
theorem aav (c:za) (v i:Int):F4 (c,v,i,())=some (up c v i,()):=by
 unfold F4 up;dsimp only;rw[aa3,aiu];by_cases h:seat c v i<=0
 ·have h':seat c v i<1:=by omega
  simp only[h,h',aiB,aiw]
 ·have h':¬ seat c v i<1:=by omega
  obtain⟨e1,e2,_⟩:=Ck h;simp only[h,h',aiD,aiv,e1];rw[if_neg e2,acs,aiu]
theorem SE {n a p:Int} (hn:4<=n/\n<=7) (ha:0<=a/\a<n) (hp:0<=p/\p<n):((a+p) % n+n - a) % n=p:=by
 have h:n=4∨n=5∨n=6∨n=7:=by omega
 rcases h with rfl|rfl|rfl|rfl<;>omega
theorem oY {c:za} {v i:Int} (h:0<=seat c v i):seat c v (up c v i)<seat c v i /\ -1<=seat c v (up c v i):=by
 obtain⟨h1,h2,h3,h4,h5⟩:=Ll h;have hlt:=oX h;obtain⟨c1,c2⟩:=yj h1;by_cases h0:seat c v i<=0
 ·have e:up c v i = -1:=by unfold up; simp only[h0,aiB,aiw]
  rw[e];have e2:seat c v (-1) = -1:=by unfold seat; simp
  rw[e2]; omega
 ·obtain⟨_,_,d0,d1⟩:=Ck h0;obtain⟨p,hp⟩:∃ p,p=(seat c v i - 1) / c.2:=⟨_,rfl⟩
  rw[←hp] at d0 d1;have a1:0<=v % c.1:=Int.emod_nonneg _ (by omega);have a2:v % c.1<c.1:=Int.emod_lt_of_pos _ (by omega);have e:up c v i=(v % c.1+p) % c.1:=by
   unfold up sits;have k1:decide (v<0)=false:=decide_eq_false (by omega);have k2:decide (p≥0)=true:=decide_eq_true (by omega);have k3:decide (p<=c.1 - 1)=true:=decide_eq_true (by omega);simp only[h0,aiD,aiv,←hp,h1,k1,k2,k3,aiV,ajn,aiw]
  have b1:0<=(v % c.1+p) % c.1:=Int.emod_nonneg _ (by omega);have b2:(v % c.1+p) % c.1<c.1:=Int.emod_lt_of_pos _ (by omega);have e2:seat c v (up c v i)=((v % c.1+p) % c.1+c.1 - v % c.1) % c.1:=by
   rw[e];have k1:decide (v<0)=false:=decide_eq_false (by omega);have k2:decide ((v % c.1+p) % c.1≥0)=true:=decide_eq_true (by omega);have k3:decide ((v % c.1+p) % c.1<=c.1 - 1)=true:=decide_eq_true (by omega);unfold seat;simp only[h1,k1,k2,k3,aiV,ajn,aiw]
  have e3:((v % c.1+p) % c.1+c.1 - v % c.1) % c.1=p:=SE ⟨c1,c2⟩ ⟨a1,a2⟩ ⟨d0,by omega⟩;rw[e2,e3];omega
noncomputable def Jn (c:za) (v:Int):Nat->Int->List Int
 | 0,_=>[]
 | k+1,x=>bif decide (seat c v x≥0) then x::Jn c v k (up c v x) else []
noncomputable def jb (c:za) (v x:Int):Nat:=(seat c v x+1).toNat
noncomputable def way (c:za) (v x:Int):List Int:=Jn c v (jb c v x) x
theorem pT (c:za) (v:Int):∀ (k:Nat) (x:Int),jb c v x<=k->Jn c v k x=way c v x
 | 0,x,h=>by
  unfold way;have:jb c v x=0:=by omega
  rw[this]
 | k+1,x,h=>by
  unfold way;by_cases hs:seat c v x≥0
  ·have hm:jb c v x=(seat c v x).toNat+1:=by unfold jb; omega
   obtain⟨u1,u2⟩:=oY hs;have hu:jb c v (up c v x)<=(seat c v x).toNat:=by unfold jb; omega
   rw[hm];simp only[Jn,hs,aiB,aiw];rw[pT c v k _ (by omega),pT c v _ _ hu]
  ·have hm:jb c v x=0:=by unfold jb; omega
   rw[hm];simp only[Jn,hs,aiD,aiv]
theorem XF {c:za} {v x:Int} (h:seat c v x≥0):way c v x=x::way c v (up c v x):=by
 obtain⟨u1,u2⟩:=oY h;have hm:jb c v x=(seat c v x).toNat+1:=by unfold jb; omega
 have hu:jb c v (up c v x)<=(seat c v x).toNat:=by unfold jb; omega
 show Jn c v (jb c v x) x=_;rw[hm];simp only[Jn,h,aiB,aiw];rw[pT c v _ _ hu]
theorem XI {c:za} {v x:Int} (h:¬ seat c v x≥0):way c v x=[]:=by
 have hm:jb c v x=0:=by unfold jb; omega
 show Jn c v (jb c v x) x=_;rw[hm]; rfl
theorem Cu (c:za) (v:Int):∀ (k:Nat) (x:Int),(Jn c v k x).length<=k
 | 0,x=>by simp[Jn]
 | k+1,x=>by
  simp only[Jn];cases decide (seat c v x≥0)
  ·simp
  ·have:=Cu c v k (up c v x);simp only[aiw,aiA]; omega
theorem pS (c:za) (v x:Int):jb c v x<=7:=by
 unfold jb;by_cases h:0<=seat c v x
 ·have h1:=oX h;have:=yj (Ll h).1;omega
 ·omega
theorem XG (c:za) (v x:Int):(way c v x).length<=7:=Nat.le_trans (Cu c v _ x) (pS c v x)
theorem XH (c:za) (v x:Int) {G:(Int×List Int×Unit->Option (List Int×Unit))->Int×List Int×Unit->Option (List Int×Unit)}
  (hon:∀ rec y out,seat c v y≥0->out.length<=7->G rec (y,out,())=rec (up c v y,out++[y],())) (acr:∀ rec y out,¬ seat c v y≥0->G rec (y,out,())=some (out,())):
  iter G fuel (x,[],())=some (way c v x,()):=by
 refine (Qm (λ y:Int×List Int×Unit=>some (y.2.1++way c v y.1,())) (λ y=>jb c v y.1) (λ y=>y.2.1.length+jb c v y.1<=7) ?_ fuel (x,[],()) (by simp only[aiz]; have:=pS c v x; omega)
  (by show jb c v x<fuel; have:=pS c v x; have:=YY (n:=7) (by decide); omega)).trans (by simp)
 rintro rec ⟨y,out,⟨⟩⟩ hI XW;simp only at hI ⊢;by_cases h:seat c v y≥0
 ·obtain⟨u1,u2⟩:=oY h;have hm:jb c v (up c v y)<jb c v y:=by unfold jb; omega
  rw[hon rec y out h (by omega),XW (up c v y,out++[y],()) (by simp only[aiE,aiA,aiz]; omega) hm,XF h]
  simp
 ·rw[acr rec y out h,XI h]; simp
theorem WS (c:za) (v x:Int):f9 (c,v,x,())=some (way c v x,()):=by
 unfold f9;refine XH c v x ?_ ?_
 ·intro rec y out h hl;simp only[aO,aiu,h,aiB,aiw,BJ];rw[if_pos (by simp only[aiA,aiz]; omega)]
 ·intro rec y out h;simp only[aO,aiu,h,aiD,aiv]
theorem acu (c:za) (v x:Int):aaw (c,v,x,())=some (way c v x,()):=by
 unfold aaw;refine XH c v x ?_ ?_
 ·intro rec y out h hl;simp only[aa3,aiu,h,aiB,aiw,aav];rw[if_pos (by simp only[aiA,aiz]; omega)]
 ·intro rec y out h;simp only[aa3,aiu,h,aiD,aiv]
noncomputable def ME (c:za) (v i:Int):Nat->Nat->List Int->List Int
 | 0,_,out=>out
 | k+1,j,out=>ME c v i k (j+1) (bif (way c v (j:Int)).any (· == i) then out++[(j:Int)] else out)
noncomputable def under (c:za) (v i:Int):List Int:=bif decide (seat c v i≥0) then ME c v i c.1.toNat 0 [] else []
theorem Cj (c:za) (v i:Int):∀ (k j:Nat) (out:List Int),(ME c v i k j out).length<=out.length+k
 | 0,_,out=>by simp[ME]
 | k+1,j,out=>by
  simp only[ME];have:=Cj c v i k (j+1) (bif (way c v (j:Int)).any (· == i) then out++[(j:Int)] else out);cases h:(way c v (j:Int)).any (· == i)
  ·rw[h] at this; simp only[aiv] at this ⊢; omega
  ·rw[h] at this; simp only[aiw,aiE,aiA,aiz] at this ⊢; omega
theorem Xy (c:za) (v i:Int):(under c v i).length<=7:=by
 unfold under;by_cases h:seat c v i≥0
 ·have h1:=yj (Ll h).1;have:=Cj c v i c.1.toNat 0 [];simp only[h,aiB,aiw,aiz] at this ⊢;omega
 ·simp only[h,aiD,aiv,aiz]; omega
theorem Xz (c:za) (v i:Int) (hs:seat c v i≥0) {G:(List Int×Int×Unit->Option (List Int×Unit))->List Int×Int×Unit->Option (List Int×Unit)}
  (hon:∀ (rec:List Int×Int×Unit->Option (List Int×Unit)) (j:Nat) out,(j:Int)<c.1->out.length<=7->G rec (out,(j:Int),())=rec ((bif (way c v (j:Int)).any (· == i) then out++[(j:Int)] else out),(j:Int)+1,()))
  (acr:∀ (rec:List Int×Int×Unit->Option (List Int×Unit)) out,G rec (out,c.1,())=some (out,())):
  iter G fuel ([],0,())=some (under c v i,()):=by
 obtain⟨c1,c2⟩:=yj (Ll hs).1;obtain⟨n,hn⟩:∃ n:Nat,c.1=(n:Int):=⟨c.1.toNat,by omega⟩
 have e:under c v i=ME c v i n 0 []:=by
  unfold under;simp only[hs,aiB,aiw,hn,aiG]
 rw[e];refine (walk n (λ j (out:List Int)=>(out,j,())) (λ j out=>out.length<=j) (λ j out=>some (ME c v i (n - j) j out,())) (by omega) ?_ ?_ (s0:=[]) (by simp)).trans (by simp)
 ·intro rec out _;have:=acr rec out;rw[hn] at this;rw[this,Nat.sub_self];rfl
 ·intro rec j out hj hI;refine .inr ⟨_,?_,hon rec j out (by omega) (by omega),?_⟩
  ·cases (way c v (j:Int)).any (· == i)
   ·simp only[aiv]; omega
   ·simp only[aiw,aiE,aiA,aiz]; omega
  ·rw[show n - j=(n - (j+1))+1 by omega]; rfl
theorem WR (c:za) (v i:Int):f8 (c,v,i,())=some (under c v i,()):=by
 unfold f8;dsimp only;rw[YN,aiu];by_cases hs:seat c v i≥0
 ·rw[(Ll hs).1];simp only[aiC,aiv];obtain⟨c1,c2⟩:=yj (Ll hs).1;refine Xz c v i hs ?_ ?_
  ·intro rec j out hj hl;have hw:=XG c v (j:Int);simp only[hj,aiB,aiw,aO,aiu,hs,WS,Yg _ i (show (way c v (j:Int)).length<=1152921504606846976 by omega),zr (show j<4611686018427387904 by omega)];cases (way c v (j:Int)).any (· == i)
   ·rfl
   ·simp only[aiw];rw[if_pos (by simp only[aiA,aiz]; omega)]
  ·intro rec out;simp only[aiY,aiD,aiv]
 ·have e:under c v i=[]:=by unfold under; simp only[hs,aiD,aiv]
  rw[e];cases h:zw c
  ·rfl
  ·simp only[aiC,aiv];obtain⟨c1,c2⟩:=yj h;obtain⟨m,hm⟩:∃ m,fuel=m+1:=⟨fuel - 1,by have:=YY (n:=7) (by decide); omega⟩
   rw[hm];simp only[iter,show (0:Int)<c.1 by omega,aiB,aiw,aO,aiu,hs,aiD,aiv]
theorem act (c:za) (v i:Int):aau (c,v,i,())=some (under c v i,()):=by
 unfold aau;by_cases hs:seat c v i≥0
 ·obtain⟨c1,c2⟩:=yj (Ll hs).1;refine Xz c v i hs ?_ ?_
  ·intro rec j out hj hl;have hw:=XG c v (j:Int);simp only[hj,aiB,aiw,aa3,aiu,hs,acu,OU _ i (show (way c v (j:Int)).length<=1152921504606846976 by omega),zr (show j<4611686018427387904 by omega)];cases (way c v (j:Int)).any (· == i)
   ·rfl
   ·simp only[aiw];rw[if_pos (by simp only[aiA,aiz]; omega)]
  ·intro rec out;simp only[aa3,aiu,hs,aiB,aiw,aiY,aiD,aiv]
 ·have e:under c v i=[]:=by unfold under; simp only[hs,aiD,aiv]
  rw[e];obtain⟨m,hm⟩:∃ m,fuel=m+1:=⟨fuel - 1,by have:=YY (n:=7) (by decide); omega⟩
  rw[hm];simp only[iter,aa3,aiu,hs,aiD,aiv]
def KQ (a b:List Int):Nat:=a.countP λ x=>b.any (· == x)
theorem IQ (a b:List Int) (ha:a.length<=1152921504606846976) {G:(Int×Int×Unit->Option (Int×Unit))->Int×Int×Unit->Option (Int×Unit)}
  (hon:∀ (rec:Int×Int×Unit->Option (Int×Unit)) (j k:Nat) (h:j<a.length),k<=j->G rec ((k:Int),(j:Int),())=rec (((k+(if b.any (· == a[j]) then 1 else 0):Nat):Int),(j:Int)+1,()))
  (acr:∀ (rec:Int×Int×Unit->Option (Int×Unit)) (k:Nat),G rec ((k:Int),(a.length:Int),())=some ((k:Int),())):
  iter G fuel (0,0,())=some ((KQ a b:Int),()):=by
 refine (walk a.length (λ j (k:Nat)=>((k:Int),j,())) (λ j k=>k<=j) (λ j k=>some (((k+KQ (a.drop j) b:Nat):Int),())) (by omega) ?_ ?_ (s0:=0) (Nat.le_refl _)).trans (by simp)
 ·intro rec k _;rw[acr rec k,aj5];simp[KQ]
 ·intro rec j k hj hI;refine .inr ⟨k+(if b.any (· == a[j]) then 1 else 0),by split<;>omega,hon rec j k hj hI,?_⟩
  rw[aiN hj];simp only[KQ,List.countP_cons];congr 3;omega
theorem Wg (a b:List Int) (ha:a.length<=1073741824) (hb:b.length<=1073741824):fx (a,b,())=some ((KQ a b:Int),()):=by
 unfold fx;refine IQ a b (by omega) ?_ ?_
 ·intro rec j k hj hk;have hx:a[j]?=some a[j]:=List.getElem?_eq_getElem hj;simp only[zt hj,decide_true,cond_true,and_self,if_true,Int.toNat_natCast,zq (e:=.i64) hx,Yg b a[j] (by omega),Option.bind_some,zr (show j<4611686018427387904 by omega),pu];cases b.any (· == a[j])
  ·simp only[aiv,aiu,Int.add_zero,aiT,if_false,ajF];rw[zg (by omega) (by omega)]
  ·simp only[aiw,aiu,if_true];rw[zr (show k<4611686018427387904 by omega)];rfl
 ·intro rec k;simp only[aiY,aiD,aiv]
theorem acd (a b:List Int) (ha:a.length<=1073741824) (hb:b.length<=1073741824):aab (a,b,())=some ((KQ a b:Int),()):=by
 unfold aab;refine IQ a b (by omega) ?_ ?_
 ·intro rec j k hj hk;have hx:a[j]?=some a[j]:=List.getElem?_eq_getElem hj;simp only[zt hj,decide_true,cond_true,and_self,if_true,Int.toNat_natCast,zq (e:=.i64) hx,OU b a[j] (by omega),Option.bind_some,zr (show j<4611686018427387904 by omega)];cases b.any (· == a[j])
  ·simp only[aiv,aiT,if_false,ajF]
  ·simp only[aiw,if_true];rw[zr (show k<4611686018427387904 by omega)];rfl
 ·intro rec k;simp only[aiY,aiD,aiv]
def z6 (r:zb) (v:Int):zb:=(r.1,v,r.2.2)
theorem lD {c:za} {r:zb} {v:Int} (h:zf c r=true) (hv:1<=v/\v<=60):zf c (z6 r v)=true:=by
 obtain⟨a,v0,k,sf,pool,tab,dk,held⟩:=r;show zf c (a,v,k,sf,pool,tab,dk,held)=true;unfold zf at h ⊢;simp only[aix,aiI] at h ⊢;exact⟨h.1,h.2.1,hv,h.2.2.2⟩
noncomputable def top (c:za) (r:zb) (q:zJ):zb×Bool:=
 bif !(zy c r (see c r.2.2.2.1 q)).2 then (r,false) else
 bif decide (q.1+1>60) then ((zy c r (see c r.2.2.2.1 q)).1,true) else
 bif ya c (q.1+1)==r.1 then (z6 (zy c r (see c r.2.2.2.1 q)).1 (max (zy c r (see c r.2.2.2.1 q)).1.2.1 (q.1+1)),true) else
 y9 c (z6 (zy c r (see c r.2.2.2.1 q)).1 (max (zy c r (see c r.2.2.2.1 q)).1.2.1 (q.1+1))) (ya c (q.1+1)) (3,q.1+1,([],0,[],[]),(0,[],[]),q,r.1,0,0,0,0)
theorem pW {c:za} {r:zb} {s:zI} (hr:zf c r=true) (h:(zy c r s).2=true):zf c (zy c r s).1=true/\(zy c r s).1.1=r.1/\(zy c r s).1.2.1=r.2.1:=by
 unfold zy at *;cases h1:Km r.2.2.2.1 s
 ·rw[h1] at h;cases h2:(Zt r.2.2.2.2.2.2.1 (Zy c s)).2
  ·rw[h2] at h; cases h
  ·cases h3:yk c s
   ·rw[h2,h3] at h; cases h
   ·simp only[aiv,ajn,aiw];exact⟨by rw[XK hr (GV h2),h3],rfl,rfl⟩
 ·exact⟨hr,rfl,rfl⟩
theorem Su {c:za} {q:zJ} (h:yg c q=true):0<=q.1/\q.1<=60:=by
 unfold yg at h;simp only[aix,aj6] at h;obtain⟨_,hn,hv,_⟩:=h;by_cases h0:q.2.1=[]
 ·have:=um.2;rw[←h0,hv] at this;omega
 ·have:=Qw hn h0;omega
theorem dz (q:zJ) (v me:Int):zh (3,v,([],0,[],[]),(0,[],[]),q,me,0,0,0,0)=zi q:=by
 simp[zh,zB,zj,zi,zl]
theorem XB (c:za) (r:zb) (s:zI):ze (zy c r s).1<=ze r+zA s+(r.2.2.2.2.2.2.1.1.length+(Zy c s).length):=by
 unfold zy;cases Km r.2.2.2.1 s
 ·cases h2:((Zt r.2.2.2.2.2.2.1 (Zy c s)).2 && yk c s)
  ·simp only[aiv]; omega
  ·simp only[aiv,aiw];have:=XL r s (Zt r.2.2.2.2.2.2.1 (Zy c s)).1;have h3:(Zt r.2.2.2.2.2.2.1 (Zy c s)).1.1.length<=r.2.2.2.2.2.2.1.1.length+(Zy c s).length:=by
    unfold Zt;split
    ·simp
    ·simp
   omega
 ·simp only[aiw]; omega
theorem mD (c:za) (r:zb) (s:zI):ze (zy c r s).1<=40+2*ze r+6*zA s:=by
 have h1:=XB c r s;have h3:=uq c s;have h4:r.2.2.2.2.2.2.1.1.length<=ze r:=by simp only[ze,JR]; omega
 omega
theorem XS (c:za) (r:zb) (q:zJ):ze (zy c r (see c r.2.2.2.1 q)).1<=40+8*ze r+12*zi q:=by
 have h1:=mD c r (see c r.2.2.2.1 q);have h2:=an c r.2.2.2.1 q;have h4:zA r.2.2.2.1<=ze r:=by simp only[ze]; omega
 omega
theorem WW (c:za) (r:zb) (p:zD) (XX:zf c r=true) (hr:ze r<=20000000) (hp:zj p<=20000000):
  gr (c,r,p,())=some ((bif (Y9 c p).2 then top c r p else (r,false)).1,(bif (Y9 c p).2 then top c r p else (r,false)).2,()):=by
 have hs:zA r.2.2.2.1<=20000000:=by simp only[ze] at hr; omega
 have hpq:zi p<=20000000:=hp;unfold gr;dsimp only;rw[Wv c p (by omega),aiu];cases h:(Y9 c p).2
 ·rfl
 ·obtain⟨e,hq⟩:=Sf h;have hv:=Su hq;have afN:=an c r.2.2.2.1 p;have hww:=XS c r p;dsimp only;simp only[aiC,aiv,aiw];rw[e,fU c r.2.2.2.1 p (by omega) (by omega),aiu,bi c r (see c r.2.2.2.1 p) (by omega) (by omega),aiu,zg (show -9223372036854775808<=p.1+1 by omega) (by omega)];unfold top;cases hw:(zy c r (see c r.2.2.2.1 p)).2
  ·rfl
  ·obtain⟨o1,o2,o3⟩:=pW XX hw;simp only[aiC,aiv,aiw,My,Mn,aiu];cases decide (p.1+1>60)
   ·simp only[aiv];cases (ya c (p.1+1)==r.1)
    ·simp only[aiv];have hm:=dz p (p.1+1) r.1;rw[gq c _ _ _ (aa XX) (by show ze (z6 (zy c r (see c r.2.2.2.1 p)).1 _)<=_; simp only[z6,ze] at hww hr ⊢; omega) (by omega),Option.bind_some]
     rfl
    ·rfl
   ·rfl
theorem acw (c:za) (r:zb) (p:zJ) (XX:zf c r=true) (hq:yg c p=true) (hr:ze r<=20000000) (hp:zi p<=20000000):
  aaz (c,r,p,())=some ((top c r p).1,(top c r p).2,()):=by
 have hs:zA r.2.2.2.1<=20000000:=by simp only[ze] at hr; omega
 have hv:=Su hq;have afN:=an c r.2.2.2.1 p;have hww:=XS c r p;have hwe:write c r (see c r.2.2.2.1 p)=zy c r (see c r.2.2.2.1 p):=by unfold write; rw[XX]; rfl
 unfold aaz;dsimp only;rw[aco c r.2.2.2.1 p (by omega) (by omega),aiu,acv c r (see c r.2.2.2.1 p) (by omega) (by omega),aiu,zg (show -9223372036854775808<=p.1+1 by omega) (by omega),hwe];unfold top;cases hw:(zy c r (see c r.2.2.2.1 p)).2
 ·rfl
 ·obtain⟨o1,o2,o3⟩:=pW XX hw;simp only[aiC,aiv,aiw,aaV,lz,aiu];by_cases h60:p.1+1>60
  ·simp only[h60,aiB,aiw]
  ·simp only[h60,aiD,aiv,bne];cases (ya c (p.1+1)==r.1)
   ·simp only[aiv,aiw,aiV];have hm:=dz p (p.1+1) r.1;have hrv:=Ma XX;have hk:=lD (v:=max (zy c r (see c r.2.2.2.1 p)).1.2.1 (p.1+1)) o1 (by rw[o3]; omega)
    rw[OY c _ _ _ (by show ze (z6 (zy c r (see c r.2.2.2.1 p)).1 _)<=_; simp only[z6,ze] at hww hr ⊢; omega) (by omega),Option.bind_some]
    show (bif (tell c (z6 (zy c r (see c r.2.2.2.1 p)).1 (max (zy c r (see c r.2.2.2.1 p)).1.2.1 (p.1+1))) _ _).2 then some ((tell c (z6 _ _) _ _).1,(tell c (z6 _ _) _ _).2,()) else some ((tell c (z6 _ _) _ _).1,(tell c (z6 _ _) _ _).2,()))=_;rw[←pG _ _ hk];cases (y9 c (z6 (zy c r (see c r.2.2.2.1 p)).1 (max (zy c r (see c r.2.2.2.1 p)).1.2.1 (p.1+1))) (ya c (p.1+1)) (3,p.1+1,([],0,[],[]),(0,[],[]),p,r.1,0,0,0,0)).2<;>rfl
   ·rfl
noncomputable def YT (c:za) (r:zb) (v:Int) (name:List UInt8) (force:Bool):zb×Bool:=
 bif (((yN r.2.2.2.2.2.1 v name).2.2.length:Int)==0) then (r,false) else bif name==[] then (r,false) else
 bif ya c v==r.1 then (bif (Y9 c (yN r.2.2.2.2.2.1 v name)).2 then top c r (yN r.2.2.2.2.2.1 v name) else (r,false)) else
 bif !force && decide ((KQ (under c v r.1) (yN r.2.2.2.2.2.1 v name).2.2:Int)<((under c v r.1).length:Int)) then (r,false) else
 y9 c r (up c v r.1) (2,0,([],0,[],[]),yN r.2.2.2.2.2.1 v name,(0,[],[]),0,0,0,0,0)
noncomputable def climb (c:za) (r:zb) (v:Int) (name:List UInt8) (force:Bool):zb×Bool:=
 bif zf c r && (YT c r v name force).2 then ((YT c r v name force).1,true) else (r,false)
theorem B5 (l:zS) (v:Int) (name:List UInt8):zj (yN l v name)<=zC l+name.length:=by
 unfold yN;cases h:l.find? (λ p=>p.1==v && p.2.1==name) with
 | none=>simp[zj,zl]
 | some p=>
  have:=ZH zj (List.mem_of_find?_eq_some h);simp only[zC]; omega
theorem RL (p:zD):zh (2,0,([],0,[],[]),p,(0,[],[]),0,0,0,0,0)=zj p:=by
 simp[zh,zB,zj,zi,zl]
theorem pr (c:za) (r:zb) (v:Int) (name:List UInt8) (force:Bool) (XX:zf c r=true) (hr:ze r<=15000000) (hn:name.length<=5000000):
  ql (c,r,v,name,force,())=some ((YT c r v name force).1,(YT c r v name force).2,()):=by
 have ht:zC r.2.2.2.2.2.1<=15000000:=by simp only[ze] at hr; omega
 have hg:=B5 r.2.2.2.2.2.1 v name;have hl:(yN r.2.2.2.2.2.1 v name).2.2.length<=20000000:=by
  have:(yN r.2.2.2.2.2.1 v name).2.2.length<=zj (yN r.2.2.2.2.2.1 v name):=by simp only[zj,zl]; omega
  omega
 have hu:=Xy c v r.1;unfold ql YT;dsimp only;rw[po _ v name (by omega),aiu];generalize hP:yN r.2.2.2.2.2.1 v name=p at *;dsimp only;cases ((p.2.2.length:Int)==0)
 ·simp only[aiv];cases (name==([]:List UInt8))
  ·simp only[aiv,Mn,aiu];cases (ya c v==r.1)
   ·simp only[aiv,WR,aiu,Wg _ p.2.2 (show (under c v r.1).length<=1073741824 by omega) (by omega),BJ];have hm:=RL p;rw[gq c r _ _ (aa XX) (by omega) (by omega)];cases force
    ·simp only[aiV,aiw,aiS];cases decide ((KQ (under c v r.1) p.2.2:Int)<((under c v r.1).length:Int))<;>rfl
    ·rfl
   ·simp only[aiw];rw[WW c r p XX (by omega) (by omega),aiu]
  ·rfl
 ·rfl
theorem Wf (c:za) (r:zb) (v:Int) (name:List UInt8) (force:Bool) (hr:ze r<=15000000) (hn:name.length<=5000000):
  aC (c,r,v,name,force,())=some ((climb c r v name force).1,(climb c r v name force).2,()):=by
 unfold aC climb;dsimp only;rw[Z0 c r (by omega),aiu,Zp r (by omega),aiu,aiu];cases XX:zf c r
 ·rfl
 ·simp only[aiC,aiv,aiS];rw[pr c r v name force XX hr hn,aiu];cases (YT c r v name force).2<;>rfl
theorem ad5 {c:za} {r:zb} {to:Int} {m:zo} (h:(y9 c r to m).2=false):(y9 c r to m).1=r:=by
 unfold y9 at *;cases hc:(!decide ((r.2.2.2.2.2.2.2.length:Int)≥30) && jV c r.1 (to,m))
 ·rfl
 ·rw[hc] at h; cases h
theorem aaQ (c:za) (r:zb) (v:Int) (name:List UInt8) (force:Bool) (hr:ze r<=15000000) (hn:name.length<=5000000):
  aa4 (c,r,v,name,force,())=some ((climb c r v name force).1,(climb c r v name force).2,()):=by
 have ht:zC r.2.2.2.2.2.1<=15000000:=by simp only[ze] at hr; omega
 have hg:=B5 r.2.2.2.2.2.1 v name;have hl:(yN r.2.2.2.2.2.1 v name).2.2.length<=20000000:=by
  have:(yN r.2.2.2.2.2.1 v name).2.2.length<=zj (yN r.2.2.2.2.2.1 v name):=by simp only[zj,zl]; omega
  omega
 have hu:=Xy c v r.1;unfold aa4 climb YT;dsimp only;rw[OX _ v name (by omega),aiu];generalize hP:yN r.2.2.2.2.2.1 v name=p at *;dsimp only;rw[th r (by omega),sY c r (by omega),aiu,aiu];cases ((p.2.2.length:Int)==0)
 ·cases XX:zf c r
  ·rfl
  ·simp only[aiv,aiC,aiS];cases (name==([]:List UInt8))
   ·simp only[aiv,lz,aiu];cases (ya c v==r.1)
    ·simp only[aiv,act,aiu,acd _ p.2.2 (show (under c v r.1).length<=1073741824 by omega) (by omega),aav];have hm:=RL p;rw[OY c r _ _ (by omega) (by omega),←pG _ _ XX,aiu];cases ht2:(y9 c r (up c v r.1) (2,0,([],0,[],[]),p,(0,[],[]),0,0,0,0,0)).2
     ·have hno:=ad5 ht2;cases force
      ·simp only[aiV,aiw,aiS];cases decide ((KQ (under c v r.1) p.2.2:Int)<((under c v r.1).length:Int))
       ·simp only[aiv,hno,ht2]
       ·rfl
      ·simp only[aiC,ajh,aiv,hno,ht2]
     ·cases force
      ·simp only[aiV,aiw,aiS];cases decide ((KQ (under c v r.1) p.2.2:Int)<((under c v r.1).length:Int))
       ·simp only[aiv,ht2,aiw]
       ·rfl
      ·simp only[aiC,ajh,aiv,ht2,aiw]
    ·simp only[aiw];rw[ach c p (by omega),aiu];cases h:(Y9 c p).2
     ·rfl
     ·obtain⟨e,hq⟩:=Sf h;have hpq:zi p<=20000000:=(by omega:zj p<=20000000)
      dsimp only;simp only[aiC,aiv,aiw];rw[e,acw c r p XX hq (by omega) hpq,aiu];cases (top c r p).2<;>rfl
   ·rfl
 ·cases zf c r<;>rfl
theorem ad7 (c:za) (r:zb) (q:zJ):ze (top c r q).1<=200+21*ze r+21*zi q:=by
 have hww:=XS c r q;unfold top;cases (zy c r (see c r.2.2.2.1 q)).2
 ·simp only[aiV,aiw]; omega
 ·cases decide (q.1+1>60)
  ·cases (ya c (q.1+1)==r.1)
   ·simp only[aiC,aiv];unfold y9;cases (!decide (((z6 (zy c r (see c r.2.2.2.1 q)).1 (max (zy c r (see c r.2.2.2.1 q)).1.2.1 (q.1+1))).2.2.2.2.2.2.2.length:Int)≥30) && jV c (z6 (zy c r (see c r.2.2.2.1 q)).1 (max (zy c r (see c r.2.2.2.1 q)).1.2.1 (q.1+1))).1 (ya c (q.1+1),(3,q.1+1,([],0,[],[]),(0,[],[]),q,r.1,0,0,0,0)))
    ·simp only[aiv,z6,ze] at hww ⊢; omega
    ·simp only[aiw,Jz,z6,ze,yn,Z3,aiE,akc,List.sum_append,aiO,ajc,ajb,List.sum_nil,aiA,aiz,dz] at hww ⊢;omega
   ·simp only[aiC,aiv,aiw,z6,ze] at hww ⊢; omega
  ·simp only[aiC,aiv,aiw]; omega
theorem ac9 (c:za) (r:zb) (v:Int) (name:List UInt8) (force:Bool):ze (climb c r v name force).1<=300+50*ze r+50*name.length:=by
 have hg:=B5 r.2.2.2.2.2.1 v name;have ht:zC r.2.2.2.2.2.1<=ze r:=by simp only[ze]; omega
 have h1:=ad7 c r (yN r.2.2.2.2.2.1 v name);have h2:zi (yN r.2.2.2.2.2.1 v name)<=ze r+name.length:=(by omega:zj (yN r.2.2.2.2.2.1 v name)<=ze r+name.length)
 unfold climb;cases (zf c r && (YT c r v name force).2)
 ·simp only[aiv]; omega
 ·simp only[aiw];unfold YT;cases (((yN r.2.2.2.2.2.1 v name).2.2.length:Int)==0)
  ·cases (name==([]:List UInt8))
   ·cases (ya c v==r.1)
    ·simp only[aiv];cases (!force && decide ((KQ (under c v r.1) (yN r.2.2.2.2.2.1 v name).2.2:Int)<((under c v r.1).length:Int)))
     ·simp only[aiv];unfold y9;have hm:=RL (yN r.2.2.2.2.2.1 v name);generalize yN r.2.2.2.2.2.1 v name=p at *;cases (!decide ((r.2.2.2.2.2.2.2.length:Int)≥30) && jV c r.1 (up c v r.1,(2,0,([],0,[],[]),p,(0,[],[]),0,0,0,0,0)))
      ·simp only[aiv]; omega
      ·simp only[aiw,Jz,ze,yn,Z3,aiE,akc,List.sum_append,aiO,ajc,ajb,List.sum_nil,aiA,aiz,hm] at *;omega
     ·simp only[aiw]; omega
    ·simp only[aiv,aiw];cases (Y9 c (yN r.2.2.2.2.2.1 v name)).2
     ·simp only[aiv]; omega
     ·simp only[aiw]; omega
   ·simp only[aiv,aiw]; omega
  ·simp only[aiw]; omega
theorem A4 (l:List Int) (x:Int) (i:Nat) (hi:i<=l.length) (hl:l.length<=137438953472):
  ((if (((0:Int)<=0)/\((0<=(i:Int))/\((i:Int)<=(((List.length l):Nat):Int)))) then (if (((0+(List.length (List.take ((Int.toNat (i:Int)) - (Int.toNat 0)) (List.drop (Int.toNat 0) l))))*8)<=70368744177664) then (if ((((List.length ([]++(List.take ((Int.toNat (i:Int)) - (Int.toNat 0)) (List.drop (Int.toNat 0) l))))+(List.length (x::[])))*8)<=70368744177664) then (if ((0<=(i:Int))/\(((i:Int)<=(((List.length l):Nat):Int))/\((((List.length l):Nat):Int)<=(((List.length l):Nat):Int)))) then (if ((((List.length (([]++(List.take ((Int.toNat (i:Int)) - (Int.toNat 0)) (List.drop (Int.toNat 0) l)))++(x::[])))+(List.length (List.take ((Int.toNat (((List.length l):Nat):Int)) - (Int.toNat (i:Int))) (List.drop (Int.toNat (i:Int)) l))))*8)<=70368744177664) then some (((([]++(List.take ((Int.toNat (i:Int)) - (Int.toNat 0)) (List.drop (Int.toNat 0) l)))++(x::[]))++(List.take ((Int.toNat (((List.length l):Nat):Int)) - (Int.toNat (i:Int))) (List.drop (Int.toNat (i:Int)) l))),()) else none) else none) else none) else none) else none):Option (List Int×Unit))=some (l.take i++x::l.drop i,()):=by
 have h1:(l.take i).length=i:=by rw[aiM]; omega
 have h2:(l.drop i).length=l.length - i:=List.length_drop;have h3:(l.drop i).take (l.length - i)=l.drop i:=List.take_of_length_le (by rw[h2]; exact Nat.le_refl _)
 simp only[aiG,show Int.toNat 0=0 from rfl,ajT,aiW,aiU,h3,aiE,h1,h2,aiA,aiz];rw[if_pos ⟨by omega,by omega,by omega⟩,if_pos (by omega),if_pos (by omega),if_pos ⟨by omega,by omega,by omega⟩,if_pos (by omega)];simp
noncomputable def ZX (l:List Int) (x:Int):Nat:=jc (λ y=>decide (y≥x)) 0 l
noncomputable def jt (l:List Int) (x:Int):List Int:=bif l.any (· == x) then l else l.take (ZX l x)++x::l.drop (ZX l x)
theorem aP (l:List Int) (x:Int) (hl:l.length<=137438953472):Z1 (l,x,())=some (jt l x,()):=by
 unfold Z1 jt;dsimp only;rw[Yg l x (by omega),aiu];dsimp only;cases l.any (· == x)
 ·simp only[aiv];unfold ZX;refine (walk l.length (λ i (_:Unit)=>(i,())) (λ _ _=>True) (λ i _=>some (l.take (jc (λ y=>decide (y≥x)) i (l.drop i))++x::l.drop (jc (λ y=>decide (y≥x)) i (l.drop i)),())) (by omega) ?_ ?_ (s0:=()) trivial).trans (by simp only[aiW])
  ·intro rec s _;have e:=A4 l x l.length (Nat.le_refl _) hl;rw[aj5] at e ⊢;simp only[aiY,aiD,aiv,jc];rw[aj5];exact e
  ·intro rec i s hi _;have hx:l[i]?=some l[i]:=List.getElem?_eq_getElem hi;have e:=A4 l x i (Nat.le_of_lt hi) hl;have hd0:decide ((i:Int)<((l.length:Nat):Int))=true:=decide_eq_true (by omega);have hr:rd .i64 l (Int.toNat (i:Int))=l[i]:=zq (e:=.i64) hx;dsimp only;by_cases hlt:l[i]<x
   ·right;have hd:decide (l[i]≥x)=false:=decide_eq_false (by omega);refine⟨(),trivial,?_,?_⟩
    ·rw[hd0,aiw,if_pos (zt hi),hr,decide_eq_true hlt,aiw,zr (show i<4611686018427387904 by omega)]
    ·rw[aiN hi];simp only[jc,hd,aiv]
   ·left;have hd:decide (l[i]≥x)=true:=decide_eq_true (by omega);rw[hd0,aiw,if_pos (zt hi),hr,decide_eq_false hlt,aiv];refine e.trans ?_;rw[show jc (λ y=>decide (y≥x)) i (l.drop i)=i by rw[aiN hi]; simp only[jc,hd,aiw]]
 ·simp only[aiw,aiU];rw[if_pos (by omega)]
theorem aw (l:List Int) (x:Int):(jt l x).length<=l.length+1:=by
 have hle:ZX l x<=l.length:=by have:=(ck (λ y=>decide (y≥x)) l 0).2; unfold ZX; omega
 unfold jt;cases l.any (· == x)
 ·simp only[aiv,aiE,aiA,aiM,aiR]; omega
 ·simp only[aiw]; omega
noncomputable def NQ (a b:List Int):List Int:=b.foldl jt (a.foldl jt [])
theorem o7:∀ (l s:List Int),(l.foldl jt s).length<=s.length+l.length
 | [],s=>by simp
 | x::l,s=>by
  have h1:=aw s x;have h2:=o7 l (jt s x);simp only[ajf,aiA]; omega
theorem Vr (a b:List Int):(NQ a b).length<=a.length+b.length:=by
 have h1:=o7 a [];have h2:=o7 b (a.foldl jt []);simp only[NQ,aiz] at *; omega
theorem cX {K:List Int->Option (List Int×Unit)} (l s0:List Int) (hl:l.length<=1152921504606846976) {G:(List Int×Int×Unit->Option (List Int×Unit))->List Int×Int×Unit->Option (List Int×Unit)}
  (hon:∀ (rec:List Int×Int×Unit->Option (List Int×Unit)) (i:Nat) (s:List Int) (h:i<l.length),s.length<=s0.length+i->G rec (s,(i:Int),())=rec (jt s l[i],(i:Int)+1,()))
  (acr:∀ (rec:List Int×Int×Unit->Option (List Int×Unit)) (s:List Int),s.length<=s0.length+l.length->G rec (s,(l.length:Int),())=K s):
  iter G fuel (s0,0,())=K (l.foldl jt s0):=by
 refine (walk l.length (λ i (s:List Int)=>(s,i,())) (λ i s=>s.length<=s0.length+i) (λ i s=>K ((l.drop i).foldl jt s)) hl ?_ ?_ (s0:=s0) (by simp)).trans (by simp only[aiW])
 ·intro rec s hI;rw[acr rec s hI,aj5];rfl
 ·intro rec i s hi hI;have:=aw s l[i];exact .inr ⟨jt s l[i],by omega,hon rec i s hi hI,by rw[aiN hi]; rfl⟩
theorem WF (a b:List Int) (ha:a.length<=1073741824) (hb:b.length<=1073741824):fV (a,b,())=some (NQ a b,()):=by
 unfold fV;refine cX (K:=λ s=>some (b.foldl jt s,())) a [] (by omega) ?_ ?_
 ·intro rec i s hi hI;have hx:a[i]?=some a[i]:=List.getElem?_eq_getElem hi;simp only[aiz] at hI;simp only[zt hi,decide_true,cond_true,and_self,if_true,Int.toNat_natCast,zq (e:=.i64) hx,aP s a[i] (by omega),Option.bind_some,zr (show i<4611686018427387904 by omega)]
 ·intro rec s hI;simp only[aiz] at hI;simp only[aiY,aiD,aiv];refine cX (K:=λ s=>some (s,())) b s (by omega) ?_ ?_
  ·intro rec i s2 hi hI2;have hx:b[i]?=some b[i]:=List.getElem?_eq_getElem hi;simp only[zt hi,decide_true,cond_true,and_self,if_true,Int.toNat_natCast,zq (e:=.i64) hx,aP s2 b[i] (by omega),Option.bind_some,zr (show i<4611686018427387904 by omega)]
  ·intro rec s2 _;simp only[aiY,aiD,aiv]
noncomputable def jJ (a b:zD):zD×Bool:=bif a.1==b.1 && a.2.1==b.2.1 then ((a.1,a.2.1,NQ a.2.2 b.2.2),true) else ((0,[],[]),false)
theorem Wu (a b:zD) (ha:zj a<=1073741824) (hb:zj b<=1073741824):fL (a,b,())=some ((jJ a b).1,(jJ a b).2,()):=by
 have h1:a.2.2.length<=1073741824/\b.2.2.length<=1073741824:=by simp only[zj,zl] at ha hb; omega
 unfold fL jJ;dsimp only;rw[WF _ _ h1.1 h1.2,aiu];simp only[bne];cases (a.1==b.1)<;>cases (a.2.1==b.2.1)<;>rfl
theorem Se (a b:zD):zj (jJ a b).1<=zj a+zj b:=by
 have h:=Vr a.2.2 b.2.2;unfold jJ;cases (a.1==b.1 && a.2.1==b.2.1)
 ·simp[zj,zl]
 ·simp only[aiw,zj,zl]; omega
noncomputable def jm (p:zD):zS->zS
 | []=>[p]
 | q::r=>bif jq q p then q::jm p r else bif (jJ q p).2 then (jJ q p).1::r else p::q::r
theorem bA (p:zD):∀ (l:zS),zC (jm p l)<=zC l+zj p+1
 | []=>by simp[jm,zC]; omega
 | q::r=>by
  have h:=bA p r;have h2:=Se q p;simp only[jm];cases jq q p
  ·cases (jJ q p).2
   ·simp only[aiv,zC,aiA,aiO,ajb]; omega
   ·simp only[aiv,aiw,zC,aiA,aiO,ajb]; omega
  ·simp only[aiw,zC,aiA,aiO,ajb] at h ⊢; omega
noncomputable def zx (c:za) (l:zS) (p:zD):zS×Bool:=bif yZ c p && jn c (jm p l) then (jm p l,true) else (l,false)
theorem Cr (a b:zS):zC (a++b)=zC a+zC b:=by
 simp only[zC,aiE,akc,List.sum_append]; omega
theorem MG (a:zS):a.length<=zC a:=by unfold zC; omega
def TabI (l:zS) (p:zD) (i:Nat) (s:zS×Bool):Prop:=
 (s.2=true/\s.1++l.drop i=jm p l)∨(s.2=false/\s.1++jm p (l.drop i)=jm p l)
theorem TabI.w {l:zS} {p:zD} {i:Nat} {s:zS×Bool} (h:TabI l p i s):zC s.1<=zC l+zj p+1:=by
 have h0:=bA p l;rcases h with⟨_,h⟩|⟨_,h⟩<;>rw[←h,Cr] at h0<;>omega
theorem aU (c:za) (l:zS) (p:zD) (hl:zC l<=100000000) (hp:zj p<=100000000):Lr (c,l,p,())=some ((zx c l p).1,(zx c l p).2,()):=by
 have hll:=MG l;have htw:=bA p l;have aao:∀ out:zS,out=jm p l->((Mq (c,out,())).bind λ r10=>(bif (!r10.1) then ((JO (l,())).bind λ r11=>some (r11.1,(false,()))) else ((Kt (c,(p,()))).bind λ r12=>(bif (!r12.1) then ((JO (l,())).bind λ r13=>some (r13.1,(false,()))) else some (out,(true,()))))))=some ((zx c l p).1,(zx c l p).2,()):=by
  intro out ho;subst ho;rw[BG c _ (by omega),aiu,BN l (by omega),aI c p (by omega)];unfold zx;cases jn c (jm p l)<;>cases yZ c p<;>rfl
 unfold Lr;dsimp only;refine walk l.length (λ i (s:zS×Bool)=>(s.1,s.2,i,())) (λ i s=>TabI l p i s) (λ _ _=>some ((zx c l p).1,(zx c l p).2,())) (by omega) ?_ ?_ (s0:=([],false)) (.inr ⟨rfl,rfl⟩)
 ·rintro rec ⟨out,put⟩ hI;have hw:=hI.w;have hol:=MG out;unfold TabI at hI;rw[aj5] at hI;simp only[aiY,aiD,aiv];cases put
  ·rcases hI with⟨h,_⟩|⟨_,h⟩
   ·cases h
   ·simp only[aiV,aiw];rw[Ms p (by omega),Option.bind_some,if_pos (by simp only[aiA,aiz]; simp only at hw hol; omega)]
    exact aao (out++[p]) h
  ·rcases hI with⟨_,h⟩|⟨h,_⟩
   ·simp only[aiC,aiv];exact aao out (by simpa using h)
   ·cases h
 ·rintro rec i ⟨out,put⟩ hi hI;have hx:l[i]?=some l[i]:=List.getElem?_eq_getElem hi;have hpw:zj l[i]<=100000000:=KB hl hx;have hw:=hI.w;have hol:=MG out;simp only at hw hol;unfold TabI at hI;rw[aiN hi] at hI;right;simp only[zt hi,decide_true,cond_true,and_self,if_true,Int.toNat_natCast,zq (e:=Yl) hx,Ms l[i] (by omega),Option.bind_some,zr (show i<4611686018427387904 by omega)];cases put
  ·rcases hI with⟨h,_⟩|⟨_,h⟩
   ·cases h
   ·simp only[aiV,aiw,BM,aiu];simp only[jm] at h;cases hb:jq l[i] p
    ·rw[hb] at h;simp only[aiv] at h;simp only[Bool.not_false,cond_true,Wu l[i] p (by omega) (by omega),Option.bind_some,Ms p (show zj p<=137438953472 by omega)];cases hj:(jJ l[i] p).2
     ·rw[hj] at h;simp only[aiv] at h ⊢;rw[if_pos (by simp only[aiA,aiz]; omega),if_pos (by simp only[aiE,aiA,aiz]; omega)]
      exact⟨(out++[p]++[l[i]],true),.inl ⟨rfl,by simpa using h⟩,rfl,trivial⟩
     ·rw[hj] at h;simp only[aiw] at h ⊢;rw[if_pos (by simp only[aiA,aiz]; omega)]
      exact⟨(out++[(jJ l[i] p).1],true),.inl ⟨rfl,by simpa using h⟩,rfl,trivial⟩
    ·rw[hb] at h;simp only[aiw] at h;simp only[aiC,aiv];rw[if_pos (by simp only[aiA,aiz]; omega)]
     exact⟨(out++[l[i]],false),.inr ⟨rfl,by simpa using h⟩,rfl,trivial⟩
  ·rcases hI with⟨_,h⟩|⟨h,_⟩
   ·simp only[aiC,aiv];rw[if_pos (by simp only[aiA,aiz]; omega)]
    exact⟨(out++[l[i]],true),.inl ⟨rfl,by simpa using h⟩,rfl,trivial⟩
   ·cases h
def yV (r:zb) (t:zS):zb:=(r.1,r.2.1,r.2.2.1,r.2.2.2.1,r.2.2.2.2.1,t,r.2.2.2.2.2.2)
theorem ka {c:za} {r:zb} {t:zS} (h:zf c r=true) (ht:jn c t=true):zf c (yV r t)=true:=by
 obtain⟨a,v,k,sf,pool,tab,dk,held⟩:=r;show zf c (a,v,k,sf,pool,t,dk,held)=true;unfold zf at h ⊢;simp only[aix] at h ⊢;obtain⟨a1,a2,a3,a4,a5,a6,a7,a8⟩:=h;exact⟨a1,a2,a3,a4,a5,a6,ht,a8⟩
theorem qt {c:za} {l:zS} {p:zD} (h:(zx c l p).2=true):jn c (zx c l p).1=true:=by
 unfold zx at *;cases h1:(yZ c p && jn c (jm p l))
 ·rw[h1] at h; cases h
 ·simp only[aix] at h1;exact h1.2
theorem qu (c:za) (l:zS) (p:zD):zC (zx c l p).1<=zC l+zj p+1:=by
 have h:=bA p l;unfold zx;cases (yZ c p && jn c (jm p l))
 ·simp only[aiv]; omega
 ·exact h
noncomputable def Nd (c:za) (r:zb) (p:zD):zb×Bool:=
 bif !zf c r then (r,false) else bif !yZ c p then (r,false) else bif p.2.1==[] then (r,false) else bif decide (p.1<r.2.1) then (r,false) else
 bif !(zx c r.2.2.2.2.2.1 p).2 then (r,false) else ((climb c (yV r (zx c r.2.2.2.2.2.1 p).1) p.1 p.2.1 false).1,true)
theorem Wl (c:za) (r:zb) (p:zD) (hr:ze r<=2000000) (hp:zj p<=2000000):fE (c,r,p,())=some ((Nd c r p).1,(Nd c r p).2,()):=by
 have ht:zC r.2.2.2.2.2.1<=2000000:=by simp only[ze] at hr; omega
 have hw:=qu c r.2.2.2.2.2.1 p;have hn:p.2.1.length<=2000000:=by simp only[zj] at hp; omega
 have hwr:ze (yV r (zx c r.2.2.2.2.2.1 p).1)<=15000000:=by simp only[yV,ze] at *; omega
 unfold fE Nd;dsimp only;rw[Zp r (by omega),aiu,Z0 c r (by omega),aiu,aI c p (by omega),aiu,aiu,aU c r.2.2.2.2.2.1 p (by omega) (by omega),aiu];cases XX:zf c r
 ·rfl
 cases yZ c p
 ·rfl
 cases (p.2.1==([]:List UInt8))
 ·cases decide (p.1<r.2.1)
  ·cases hta:(zx c r.2.2.2.2.2.1 p).2
   ·rfl
   ·have ada:=ka (t:=(zx c r.2.2.2.2.2.1 p).1) XX (qt hta);simp only[aiC,aiv];show ((yu (yV r (zx c r.2.2.2.2.2.1 p).1,())).bind _)=_;rw[Zp _ (by omega),aiu];dsimp only;rw[pr c _ p.1 p.2.1 false ada hwr (by omega),aiu];unfold climb;rw[ada];cases (YT c (yV r (zx c r.2.2.2.2.2.1 p).1) p.1 p.2.1 false).2<;>rfl
  ·rfl
 ·rfl
noncomputable def J7 (c:za) (s:zI) (b:y7):Bool:=yk c s && (jG c b && (decide (zn b.1>s.1) && decide (b.2.1≥s.2.1)))
theorem Bz (c:za) (s:zI) (b:y7) (hs:zA s<=137438953472) (hb:zB b<=137438953472):aG (c,s,b,())=some (J7 c s b,()):=by
 have h1:b.1.length<=137438953472:=by simp only[zB] at hb; omega
 unfold aG J7;dsimp only;rw[N6 c s hs,aiu,fu c b hb,aiu,YQ b.1 h1,aiu];cases yk c s<;>cases jG c b<;>cases decide (zn b.1>s.1)<;>rfl
noncomputable def vote (c:za) (s:zI) (b:y7):zI:=bif J7 c s b then (zn b.1,s.2) else s
theorem BK (c:za) (s:zI) (b:y7) (hs:zA s<=137438953472) (hb:zB b<=137438953472):qe (c,s,b,())=some (vote c s b,J7 c s b,()):=by
 have h1:b.1.length<=137438953472:=by simp only[zB] at hb; omega
 unfold qe vote;dsimp only;rw[gc s hs,aiu,Bz c s b hs hb,aiu,YQ b.1 h1,aiu];cases J7 c s b<;>rfl
theorem Cq (c:za) (s:zI) (b:y7):zA (vote c s b)<=zA s:=by
 unfold vote;cases J7 c s b
 ·exact Nat.le_refl _
 ·exact Nat.le_refl _
noncomputable def voted (c:za) (r0 w:zb) (name:List UInt8):zb×Bool:=
 bif !(zx c w.2.2.2.2.2.1 (zn name,name,[w.1])).2 then (r0,false) else ((climb c (yV w (zx c w.2.2.2.2.2.1 (zn name,name,[w.1])).1) (zn name) name false).1,true)
noncomputable def LR (c:za) (r:zb) (b:y7):zb×Bool:=
 bif !zf c r then (r,false) else bif !jG c b then (r,false) else
 bif decide (zn b.1≥r.2.1) then
  (bif !(zy c (z6 r (zn b.1)) (vote c (see c r.2.2.2.1 b.2) b)).2 then (r,false) else
   bif !J7 c (see c r.2.2.2.1 b.2) b then ((zy c (z6 r (zn b.1)) (vote c (see c r.2.2.2.1 b.2) b)).1,true) else
   voted c r (zy c (z6 r (zn b.1)) (vote c (see c r.2.2.2.1 b.2) b)).1 b.1)
 else (bif !(zy c r (see c r.2.2.2.1 b.2)).2 then (r,false) else ((zy c r (see c r.2.2.2.1 b.2)).1,true))
theorem bD (v me:Int) (name:List UInt8):zj (v,name,[me])=name.length+1:=by simp[zj,zl]
theorem WY (c:za) (w:zb) (name:List UInt8) (XX:zf c w=true) (hw:ze w<=13000000) (hn:name.length<=1100000):
  Mv (c,w,name,())=some ((voted c w w name).1,(voted c w w name).2,()):=by
 have ht:zC w.2.2.2.2.2.1<=13000000:=by simp only[ze] at hw; omega
 have hp:=bD (zn name) w.1 name;have hta:=qu c w.2.2.2.2.2.1 (zn name,name,[w.1]);have hwr:ze (yV w (zx c w.2.2.2.2.2.1 (zn name,name,[w.1])).1)<=15000000:=by simp only[yV,ze] at *; omega
 unfold Mv voted;dsimp only;rw[YQ name (by omega),aiu];dsimp only;rw[aU c w.2.2.2.2.2.1 (zn name,name,[w.1]) (by omega) (by omega),Option.bind_some];cases h:(zx c w.2.2.2.2.2.1 (zn name,name,[w.1])).2
 ·rfl
 ·have ada:=ka (t:=(zx c w.2.2.2.2.2.1 (zn name,name,[w.1])).1) XX (qt h);simp only[aiC,aiv];show ((yu (yV w (zx c w.2.2.2.2.2.1 (zn name,name,[w.1])).1,())).bind _)=_;rw[Zp _ (by omega),aiu,aiu];dsimp only;rw[pr c _ (zn name) name false ada hwr (by omega),aiu];unfold climb;rw[ada];cases (YT c (yV w (zx c w.2.2.2.2.2.1 (zn name,name,[w.1])).1) (zn name) name false).2<;>rfl
theorem XA (c:za) (r0 w:zb) (name:List UInt8):(voted c r0 w name).2=(zx c w.2.2.2.2.2.1 (zn name,name,[w.1])).2/\((voted c r0 w name).2=true->(voted c w w name).1=(voted c r0 w name).1)/\((voted c r0 w name).2=false->(voted c r0 w name).1=r0)/\(voted c w w name).2=(voted c r0 w name).2:=by
 unfold voted;cases (zx c w.2.2.2.2.2.1 (zn name,name,[w.1])).2
 ·exact⟨rfl,λ h=>(by cases h),λ _=>rfl,rfl⟩
 ·exact⟨rfl,λ _=>rfl,λ h=>(by cases h),rfl⟩
theorem Bu (c:za) (r:zb) (b:y7) (hrb:ze r+zB b<=1048576):NV (c,r,b,())=some ((LR c r b).1,(LR c r b).2,()):=by
 have hs:zA r.2.2.2.1<=ze r:=by simp only[ze]; omega
 have hq:zi b.2<=zB b/\b.1.length<=zB b:=by simp only[zB]; omega
 have afN:=an c r.2.2.2.1 b.2;have aiq:=Cq c (see c r.2.2.2.1 b.2) b;have hiv:ze (z6 r (zn b.1))=ze r:=rfl;unfold NV LR;dsimp only;rw[Zp r (by omega),aiu,Z0 c r (by omega),aiu,fu c b (by omega),aiu,aiu,fU c r.2.2.2.1 b.2 (by omega) (by omega),aiu,YQ b.1 (by omega),aiu,Bz c (see c r.2.2.2.1 b.2) b (by omega) (by omega),aiu,BK c (see c r.2.2.2.1 b.2) b (by omega) (by omega)];simp only[aiu];cases XX:zf c r
 ·rfl
 cases hbo:jG c b
 ·rfl
 by_cases hv:zn b.1≥r.2.1
 ·have hn:zF b.1=true/\b.1≠[]:=by
   unfold jG at hbo;simp only[aix,bne_iff_ne,ne_eq] at hbo;exact⟨hbo.2.1,hbo.2.2.1⟩
  have hnv:=Qw hn.1 hn.2;have abJ:=lD (v:=zn b.1) XX hnv;simp only[hv,aiB,aiw,aiC,aiv];cases hm:J7 c (see c r.2.2.2.1 b.2) b
  ·have e:vote c (see c r.2.2.2.1 b.2) b=see c r.2.2.2.1 b.2:=by unfold vote; rw[hm]; rfl
   simp only[aiv,aiV,aiw,e];show ((Yi (c,z6 r (zn b.1),see c r.2.2.2.1 b.2,())).bind _)=_;rw[bi c (z6 r (zn b.1)) (see c r.2.2.2.1 b.2) (by omega) (by omega),aiu];cases (zy c (z6 r (zn b.1)) (see c r.2.2.2.1 b.2)).2<;>rfl
  ·simp only[aiw,aiC,aiv];have hww:=mD c (z6 r (zn b.1)) (vote c (see c r.2.2.2.1 b.2) b);show ((Yi (c,z6 r (zn b.1),vote c (see c r.2.2.2.1 b.2) b,())).bind _)=_;rw[bi c (z6 r (zn b.1)) (vote c (see c r.2.2.2.1 b.2) b) (by omega) (by omega),aiu];cases hw:(zy c (z6 r (zn b.1)) (vote c (see c r.2.2.2.1 b.2) b)).2
   ·rfl
   ·obtain⟨o1,o2,o3⟩:=pW abJ hw;obtain⟨f1,f2,f3,f4⟩:=XA c r (zy c (z6 r (zn b.1)) (vote c (see c r.2.2.2.1 b.2) b)).1 b.1;simp only[aiw,aiC,aiv];rw[WY c _ b.1 o1 (by omega) (by omega),aiu];dsimp only;rw[f4];cases hf:(voted c r (zy c (z6 r (zn b.1)) (vote c (see c r.2.2.2.1 b.2) b)).1 b.1).2
    ·simp only[aiV,aiw,f3 hf]
    ·simp only[aiC,aiv,f2 hf]
 ·simp only[hv,aiD,aiv,aiC];rw[bi c r (see c r.2.2.2.1 b.2) (by omega) (by omega),aiu];cases (zy c r (see c r.2.2.2.1 b.2)).2<;>rfl
noncomputable def late (c:za) (r:zb):zb×Bool:=
 bif !zf c r then (r,false) else bif decide (r.2.1≥60) then (r,false) else
 bif ya c (r.2.1+1)==r.1 then
  (bif !(zx c r.2.2.2.2.2.1 (r.2.1+1,[],[r.1])).2 then (r,false) else (yV (z6 r (r.2.1+1)) (zx c r.2.2.2.2.2.1 (r.2.1+1,[],[r.1])).1,true))
 else
  (bif !(y9 c (z6 r (r.2.1+1)) (ya c (r.2.1+1)) (3,r.2.1+1,([],0,[],[]),(0,[],[]),r.2.2.2.1.2.2.1,r.1,0,0,0,0)).2 then (r,false) else
   ((y9 c (z6 r (r.2.1+1)) (ya c (r.2.1+1)) (3,r.2.1+1,([],0,[],[]),(0,[],[]),r.2.2.2.1.2.2.1,r.1,0,0,0,0)).1,true))
theorem Bx (c:za) (r:zb) (hr:ze r<=2000000):Ln (c,r,())=some ((late c r).1,(late c r).2,()):=by
 have ht:zC r.2.2.2.2.2.1<=2000000:=by simp only[ze] at hr; omega
 have hq:zi r.2.2.2.1.2.2.1<=2000000:=by simp only[ze,zA] at hr; omega
 unfold Ln late;dsimp only;rw[Zp r (by omega),aiu,Z0 c r (by omega),aiu];cases XX:zf c r
 ·rfl
 ·have hv:=Ma XX;have hp:=bD (r.2.1+1) r.1 [];have hm:=dz r.2.2.2.1.2.2.1 (r.2.1+1) r.1;simp only[aiC,aiv,zg (show -9223372036854775808<=r.2.1+1 by omega) (show r.2.1+1<=9223372036854775807 by omega),Mn,aiu];cases decide (r.2.1≥60)
  ·simp only[aiv];cases (ya c (r.2.1+1)==r.1)
   ·simp only[aiv];show ((Ky (c,z6 r (r.2.1+1),ya c (r.2.1+1),(3,r.2.1+1,([],0,[],[]),(0,[],[]),r.2.2.2.1.2.2.1,r.1,0,0,0,0),())).bind _)=_;rw[gq c (z6 r (r.2.1+1)) _ _ (aa XX) (by show ze r<=_; omega) (by omega),aiu]
    cases (y9 c (z6 r (r.2.1+1)) (ya c (r.2.1+1)) (3,r.2.1+1,([],0,[],[]),(0,[],[]),r.2.2.2.1.2.2.1,r.1,0,0,0,0)).2<;>rfl
   ·simp only[aiw];rw[aU c r.2.2.2.2.2.1 (r.2.1+1,[],[r.1]) (by omega) (by simp only[aiz] at hp; omega),Option.bind_some]
    cases (zx c r.2.2.2.2.2.1 (r.2.1+1,[],[r.1])).2<;>rfl
  ·rfl
theorem nL (c:UInt8):∀ s:List UInt8,s.length+1=((zQ c s).map λ p=>p.length+1).sum
 | []=>by simp[zQ]
 | x::l=>by
  have ih:=nL c l;simp only[zQ];split
  ·simp only[aiO,ajb,aiz,aiA]; omega
  ·cases h:zQ c l with
   | nil=>exact absurd h (YD _ _)
   | cons p r=>
    rw[h] at ih;simp only[glue,aiO,ajb,aiE,aiA,aiz] at ih ⊢;omega
theorem Xs {s:List UInt8} (h:(Zb s).2=true):s.length<=27:=by
 unfold Zb at h;split at h
 ·next hh=>rw[←hh.2]; exact gV _
 ·cases h
theorem Ce:∀ (ps:List (List UInt8)) (out:List zP),(Yj ps out).2=true->(Yj ps out).1.length=out.length+ps.length/\(ps.map λ p=>p.length+1).sum<=28*ps.length
 | [],out,_=>by simp[Yj]
 | p::ps,out,h=>by
  simp only[Yj] at h ⊢;split at h
  ·next hp=>
   have h1:=Xs hp;obtain⟨h2,h3⟩:=Ce ps _ h;rw[if_pos hp];simp only[aiE,aiA,aiz,aiO,ajb] at h2 ⊢;omega
  ·cases h
theorem Xw {s:List UInt8} (h:(ja s).2=true):s.length<=28*(ja s).1.length:=by
 unfold ja at h ⊢;split at h
 ·next e=>subst e; simp
 ·next e=>
  rw[if_neg e];obtain⟨h1,h2⟩:=Ce _ _ h;have:=nL 44 s;simp only[aiz,ajp] at h1;omega
theorem R6 {s:List UInt8} (h:(zv s).2=true):s.length<=6:=by
 unfold zv at h;split at h
 ·next hh=>exact hh.2.1
 ·cases h
theorem BZ:∀ (ps:List (List UInt8)) (prev:Int) (out:List ZL),(jw ps prev out).2=true->(ps.map λ p=>p.length+1).sum<=64*ps.length
 | [],_,_,_=>by simp
 | p::ps,prev,out,h=>by
  simp only[jw] at h;cases hq:yD 124 p with
  | none=>rw[hq] at h; cases h
  | some q=>
   rw[hq] at h;simp only at h;split at h
   ·next hs=>
    unfold yM at hs;simp only[aix,aiI] at hs;obtain⟨a1,a2,-,-,a5⟩:=hs;have b1:=R6 a1;have b2:=Xw a2;obtain⟨q1,q2⟩:=q;have b3:=(kR 124 hq).1;have ih:=BZ ps _ _ h;simp only[aiO,ajb,aiA] at ih ⊢;simp only at b1 b2 a5;omega
   ·cases h
theorem j3 {s:List UInt8} (h:zF s=true):s.length<=1920:=by
 unfold zF steps at h;split at h
 ·next e=>subst e; simp
 ·have hs:=nL 47 s;cases hp:zQ 47 s with
  | nil=>exact absurd hp (YD _ _)
  | cons p ps=>
   rw[hp] at h hs;simp only at h;split at h
   ·next hh=>
    obtain⟨rfl,h30⟩:=hh;have:=BZ ps _ _ h;simp only[aiO,ajb,aiz] at hs;omega
   ·cases h
theorem A2 (n:Int):∀ (l:List Int) (p:Int),YL n (some p) l=true->p<n->(l.length:Int)<=n - 1 - p
 | [],p,_,hp=>by simp; omega
 | x::l,p,h,hp=>by
  simp only[YL,aix,aj1,ajJ] at h;obtain⟨h1,h2,h3,h4⟩:=h;have:=A2 n l x h4 (by omega);simp only[aiA];omega
theorem A7 {n:Int} {l:List Int} (h:jM n l=true) (hn:0<=n):(l.length:Int)<=n:=by
 unfold jM at h;cases l with
 | nil=>simpa using hn
 | cons x l=>
  simp only[YL,aix,aj1,ajJ] at h;obtain⟨h1,h2,h3,h4⟩:=h;have:=A2 n l x h4 (by omega);simp only[aiA];omega
theorem A3 (n:Int):∀ (l:List Int) (p:Option Int),YL n p l=true->∀ x∈l,0<=x/\x<n
 | [],_,_,x,hx=>by cases hx
 | y::l,p,h,x,hx=>by
  simp only[YL,aix,aj1,ajJ] at h;obtain⟨h1,h2,h3,h4⟩:=h;rcases List.mem_cons.1 hx with rfl|hx
  ·omega
  ·exact A3 n l _ h4 x hx
theorem Vs {n:Int} {l:List Int} (h:jM n l=true):∀ x∈l,0<=x/\x<n:=A3 n l none h
theorem eq {c:za} {q:zJ} (h:yg c q=true):zi q<=1927:=by
 unfold yg at h;simp only[aix] at h;obtain⟨h1,h2,h3,h4⟩:=h;have hc:=yj h1;have hn:=j3 h2;simp only[zi,zl];cases he:(q.2.1==([]:List UInt8))<;>rw[he] at h4
 ·simp only[aiv,aix] at h4;have:=A7 h4.1 (by omega);omega
 ·simp only[aiw,aj6] at h4;omega
theorem uB {c:za} {p:zD} (h:yZ c p=true):zj p<=1927:=by
 unfold yZ at h;simp only[aix,aje] at h;obtain⟨h1,h2,h3,h4,h5⟩:=h;have hc:=yj h1;have:=A7 h3 (by omega);simp only[zj,zl];rcases h5 with h5|h5
 ·simp only[aj6] at h5;rw[h5];simp only[aiz];omega
 ·have hn:=j3 h5.1;omega
theorem rE {c:za} {b:y7} (h:jG c b=true):zB b<=3847:=by
 unfold jG at h;simp only[aix] at h;have h1:=eq h.1;have h2:=j3 h.2.1;simp only[zB];omega
theorem nT {a b:zJ} (h:je a b=true):a=b:=by
 unfold je at h;simp only[aix,aj6,aiI] at h;obtain⟨a1,a2,a3⟩:=a;obtain⟨b1,b2,b3⟩:=b;simp only at h;simp[h.1,h.2.1,h.2.2]
theorem er (a:zJ):je a a=true:=by
 unfold je;simp
theorem RP {a b:zo} (h:Zi a b=true):a=b:=by
 unfold Zi Yp MC at h;simp only[aix,aj6] at h;obtain⟨a1,a2,⟨a3,a3'⟩,a4,a5,a6,a7⟩:=a;obtain⟨b1,b2,⟨b3,b3'⟩,b4,b5,b6,b7⟩:=b;simp only at h;obtain⟨h1,h2,⟨h3,h3'⟩,h4,h5,h6,h7⟩:=h;have e1:=nT h3';have e2:a4=b4:=nT h4;have e3:=nT h5;subst h1 h2 h3 e1 e2 e3 h6;obtain⟨x1,x2,x3,x4⟩:=a7;obtain⟨y1,y2,y3,y4⟩:=b7;simp only at h7;obtain⟨k1,k2,k3,k4,-⟩:=h7;subst k1 k2 k3 k4;rfl
theorem dA {c:za} {m:zo} (h:yF c m=true):zh m<=3847:=by
 unfold yF at h;simp only[aix] at h;obtain⟨h1,h2,h3⟩:=h;have e:=RP h2;rw[←e];unfold canon;cases k1:(m.1==1)
 ·cases k2:(m.1==2)
  ·cases k3:(m.1==3)
   ·cases k4:(m.1==4)
    ·simp[zh,zB,zi,zj,zl]
    ·simp[zh,zB,zi,zj,zl]
   ·rw[k1,k2,k3] at h3;simp only[aiv,aiw,aix] at h3;have:=eq h3.2.1;simp only[aiv,aiw,zh,zB,zj,zl,aiz];simp only[zi,zl,aiz] at this ⊢;omega
  ·rw[k1,k2] at h3;simp only[aiv,aiw,aix] at h3;have:=uB h3.1;simp only[aiv,aiw,zh,zB,zi,zl,aiz];simp only[zj,zl] at this ⊢;omega
 ·rw[k1] at h3;simp only[aiw] at h3;have:=rE h3;simp only[aiw,zh,zi,zj,zl,aiz];simp only[zB,zi,zl] at this ⊢;omega
theorem U6 {c:za} {s:zI} (h:yk c s=true):zA s<=3847:=by
 unfold yk at h;simp only[aix] at h;have h1:=eq h.2.2.1;have h2:=j3 h.2.2.2;simp only[zA];omega
theorem pD {α:Type} (f:α->Nat) (k:Nat):∀ (l:List α),(∀ x∈l,f x<=k)->(l.map f).sum<=k*l.length
 | [],_=>by simp
 | x::l,h=>by
  have h1:=h x (by simp);have h2:=pD f k l λ y hy=>h y (by simp[hy]);simp only[aiO,ajb,aiA,Nat.mul_add,Nat.mul_one];omega
theorem rK {α:Type} {ok:α->Bool} {lt:α->α->Bool}:∀ {l:List α} {p:Option α},yC ok lt p l=true->∀ x∈l,ok x=true
 | [],_,_,x,hx=>by cases hx
 | y::l,p,h,x,hx=>by
  simp only[yC,aix] at h;rcases List.mem_cons.1 hx with rfl|hx
  ·exact h.1
  ·exact rK h.2.2 x hx
theorem B6 {c:za} {l:zS} (h:jn c l=true):zC l<=38560:=by
 unfold jn at h;simp only[aix,aiI] at h;have h1:=pD zj 1927 l λ x hx=>uB (rK h.1 x hx);simp only[zC];omega
theorem JM {c:za} {r:zb} (h:zf c r=true):zw c=true/\(0<=r.1/\r.1<=c.1 - 1)/\(1<=r.2.1/\r.2.1<=60)/\(0<=r.2.2.1/\r.2.2.1<=60)/\yk c r.2.2.2.1=true/\jB r.2.2.2.2.1=true/\
  jn c r.2.2.2.2.2.1=true/\yw r.2.2.2.2.2.2.1=true/\r.2.2.2.2.2.2.2.length<=30/\∀ x∈r.2.2.2.2.2.2.2,jV c r.1 x=true:=by
 unfold zf at h;simp only[aix,aiI,List.all_eq_true] at h;obtain⟨h1,h2,h3,h4,h5,h6,h7,h8,h9,h10⟩:=h;exact⟨h1,h2,h3,h4,h5,h6,h7,h8,by omega,h10⟩
theorem Kl {c:za} {r:zb} (h:zf c r=true):ze r<=260000:=by
 obtain⟨h1,h2,h3,h4,h5,h6,h7,h8,h9,h10⟩:=JM h;have a5:=U6 h5;have a7:=B6 h7;unfold jB at h6;unfold yw at h8;simp only[aix,aiI] at h6 h8;have a10:=pD Z3 3847 r.2.2.2.2.2.2.2 λ x hx=>by
  have:=h10 x hx;unfold jV at this;simp only[aix] at this;exact dA this.1
 simp only[ze,Jm,JR,yn];omega
theorem Qv:zF []=true:=by unfold zF steps; simp
theorem mv (up:List UInt8) (view:Int) (list:zE):zF (j0 up view list)=true:=by
 unfold j0;cases h:(list.all zN && zF (Y5 up view list))
 ·exact Qv
 ·simp only[aix] at h;exact h.2
theorem Cp:zn []=0:=by unfold zn steps; simp
theorem qA {s:List UInt8} (h:zF s=true):0<=zn s/\zn s<=60:=by
 by_cases e:s=[]
 ·subst e; rw[Cp]; omega
 ·have:=Qw h e; omega
theorem LX (c:zO) (hc:z7 c):Ens (zX (c,())) λ r=>0<=r.1.2.1/\zN r.2.1=true:=by
 unfold zX;refine (zG c 4 hc).bind λ r0 h0 => ?_;refine (zG (c.1,r0.1.2) 4 ⟨hc.1,h0.1⟩).bind λ r1 h1 => ?_;refine (jI (c.1,r1.1.2) _ ⟨hc.1,h1.1⟩ (by simp)).bind λ r2 h2 => ?_;refine (zG (c.1,r2.1.2) 3 ⟨hc.1,h2.1⟩).bind λ r3 h3 => ?_;refine Ens.some ⟨h3.1,?_⟩;have a0:=h0.2.2 (by decide);have a1:=h1.2.2 (by decide);have a3:=h3.2.2 (by decide);have a2:=h2.2;simp only[aiP,ajm,or_false] at a2;rw[qw];dsimp only;omega
theorem tN (c:zO) (hc:z7 c):Ens (bo (c,())) λ r=>0<=r.1.2.1:=by
 unfold bo;refine (LX c hc).bind λ r0 h0 => ?_;refine (zG (c.1,r0.1.2) 12 ⟨hc.1,h0.1⟩).bind λ r1 h1 => ?_;refine Ens.cond (λ _ => ?_) λ _ => ?_
 ·exact (jI (c.1,r1.1.2) _ ⟨hc.1,h1.1⟩ (by simp)).bind λ r2 h2=>Ens.some h2.1
 refine Ens.cond (λ _ => ?_) λ _ => ?_
 ·exact (jI (c.1,r1.1.2) _ ⟨hc.1,h1.1⟩ (by simp)).bind λ r2 h2=>Ens.some h2.1
 refine Ens.cond (λ _ => ?_) λ _ => ?_
 ·exact (jI (c.1,r1.1.2) _ ⟨hc.1,h1.1⟩ (by simp)).bind λ r2 h2=>Ens.some h2.1
 refine Ens.cond (λ _ => ?_) λ _ => ?_
 ·exact (jI (c.1,r1.1.2) _ ⟨hc.1,h1.1⟩ (by simp)).bind λ r2 h2=>Ens.some h2.1
 exact Ens.some h1.1
theorem B8 {a:Int} (h0:0<=a) (h1:a<4):0<=Int.tdiv a 3/\Int.tdiv a 3<=1:=by
 rw[akE h0];omega
theorem Qp (c:zO) (hc:z7 c):Ens (Lv (c,())) λ r=>0<=r.1.2.1/\zF r.2.1=true:=by
 unfold Lv;refine Ens.loop (λ x=>zF x.1=true/\(0<=x.2.1/\x.2.1<=2*x.2.2.1)/\(0<=x.2.2.1/\x.2.2.1<=5)/\0<=x.2.2.2.1.2.1) (λ x=>(6 - x.2.2.1).toNat) ?_ ⟨Qv,by simp,by simp,hc.2⟩ (by dsimp only; rw[jd]; omega)
 intro rec x hx XW;obtain⟨x1,x2,x3,x4⟩:=hx;refine (zG (c.1,x.2.2.2.1.2) 6 ⟨hc.1,x4⟩).bind λ r1 h1 => ?_;have a1:=h1.2.2 (by decide);refine Ens.cond (λ h => ?_) λ h=>Ens.some ⟨h1.1,x1⟩;have h:x.2.2.1<r1.2.1:=by simpa using h
 refine (zG (c.1,r1.1.2) 4 ⟨hc.1,h1.1⟩).bind λ r2 h2 => ?_;have a2:=h2.2.2 (by decide);have b2:=B8 h2.2.1 a2;refine Ens.loop (λ y=>(0<=y.2.1/\y.2.1<=2)/\(y.1.length:Int)<=y.2.1/\0<=y.2.2.1.2.1) (λ y=>(3 - y.2.1).toNat) ?_ ⟨by simp,by simp,h2.1⟩ (by dsimp only; rw[jd]; omega)
 intro rec3 y hy ahw;obtain⟨y1,y2,y3⟩:=hy;refine (zG (c.1,y.2.2.1.2) 3 ⟨hc.1,y3⟩).bind λ r4 h4 => ?_;have a4:=h4.2.2 (by decide);refine Ens.cond (λ h' => ?_) λ h' => ?_
 ·have h':y.2.1<r4.2.1:=by simpa using h'
  refine (LX (c.1,r4.1.2) ⟨hc.1,h4.1⟩).bind λ r5 h5 => ?_;refine Ens.ite (by simp only[aiA,aiz]; omega) ?_
  rw[zg (n:=y.2.1+1) (by omega) (by omega)];exact ahw _ ⟨⟨by dsimp only; omega,by dsimp only; omega⟩,by simp only[aiE,aiA,aiz]; omega,h5.1⟩ (by dsimp only; omega)
 ·have e1:wr (x.2.1+1)=x.2.1+1:=zg (by omega) (by omega);have e2:wr (Int.tdiv r2.2.1 3)=Int.tdiv r2.2.1 3:=zg (by omega) (by omega);have e3:wr (x.2.1+1+Int.tdiv r2.2.1 3)=x.2.1+1+Int.tdiv r2.2.1 3:=zg (by omega) (by omega);have X0:=j3 x1;rw[e1,e2,e3,aH x.1 _ y.1 (by omega) (by omega) (by omega),aiu,zg (n:=x.2.2.1+1) (by omega) (by omega)];exact XW _ ⟨mv _ _ _,⟨by dsimp only; omega,by dsimp only; omega⟩,⟨by dsimp only; omega,by dsimp only; omega⟩,h4.1⟩ (by dsimp only; omega)
theorem tO (c:zO) (n:Int) (hc:z7 c) (hn:0<n):Ens (bq (c,n,())) λ r=>0<=r.1.2.1/\r.2.1.length<=8:=by
 unfold bq;refine Ens.loop (λ x=>(0<=x.2.1/\x.2.1<=7)/\(x.1.length:Int)<=x.2.1/\0<=x.2.2.1.2.1) (λ x=>(8 - x.2.1).toNat) ?_ ⟨by simp,by simp,hc.2⟩ (by dsimp only; rw[jd]; omega)
 intro rec x hx XW;obtain⟨x1,x2,x3⟩:=hx;refine (zG (c.1,x.2.2.1.2) 8 ⟨hc.1,x3⟩).bind λ r1 h1 => ?_;have a1:=h1.2.2 (by decide);refine Ens.cond (λ h => ?_) λ h => ?_
 ·have h:x.2.1<r1.2.1:=by simpa using h
  refine (zG (c.1,r1.1.2) n ⟨hc.1,h1.1⟩).bind λ r2 h2 => ?_;have hl:=aw x.1 r2.2.1;rw[aP x.1 _ (by omega),aiu,zg (n:=x.2.1+1) (by omega) (by omega)];exact XW _ ⟨⟨by dsimp only; omega,by dsimp only; omega⟩,by dsimp only; omega,h2.1⟩ (by dsimp only; omega)
 ·refine (Y3 (c.1,r1.1.2) 12 ⟨hc.1,h1.1⟩).bind λ r4 h4 => ?_;refine Ens.cond (λ _ => ?_) λ _=>Ens.some ⟨h4,by dsimp only; omega⟩
  refine (jI (c.1,r4.1.2) _ ⟨hc.1,h4⟩ (by simp)).bind λ r5 h5 => ?_;refine Ens.ite (by simp only[aiA,aiz]; omega) (Ens.some ⟨h5.1,?_⟩)
  simp only[aiE,aiA,aiz];omega
theorem l8 (c:zO) (conf:za) (name:List UInt8) (hc:z7 c) (hN:conf.1<=8) (hn:zF name=true):
  Ens (qq (c,conf,name,())) λ r=>0<=r.1.2.1/\r.2.1.1=zn name/\r.2.1.2.1=name/\r.2.1.2.2.length<=8:=by
 have hl:=j3 hn;unfold qq;dsimp only;rw[YQ name (by omega),aiu];refine Ens.cond (λ _=>Ens.some ⟨hc.2,rfl,rfl,by simp⟩) λ _ => ?_;refine Ens.loop (λ x=>(0<=x.1/\x.1<=8)/\(x.2.1.2.2.length:Int)<=x.1/\x.2.1.1=zn name/\x.2.1.2.1=name) (λ x=>(9 - x.1).toNat) ?_ ⟨by simp,by simp,rfl,rfl⟩ (by dsimp only; rw[jd]; omega)
 intro rec x hx XW;obtain⟨x1,x2,x3,x4⟩:=hx;refine Ens.cond (λ h => ?_) λ h => ?_
 ·have h:x.1<conf.1:=by simpa using h
  refine Ens.ite (by simp only[aiA,aiz]; omega) ?_
  rw[zg (n:=x.1+1) (by omega) (by omega)];exact XW _ ⟨⟨by dsimp only; omega,by dsimp only; omega⟩,by simp only[aiE,aiA,aiz]; omega,x3,x4⟩ (by dsimp only; omega)
 ·refine (Y3 c 2 hc).bind λ r2 h2 => ?_;refine Ens.cond (λ _ => ?_) λ _=>Ens.some ⟨h2,x3,x4,by dsimp only; omega⟩
  refine Ens.cond (λ h0 => ?_) λ _=>Ens.some ⟨h2,x3,x4,by dsimp only; omega⟩
  have h0:(x.2.1.2.2.length:Int)>0:=by simpa using h0
  refine (zG (c.1,r2.1.2) _ ⟨hc.1,h2⟩).bind λ r3 h3 => ?_;have a3:=h3.2.2 h0;have b3:=h3.2.1;have e1:wr (r3.2.1+1)=r3.2.1+1:=zg (by omega) (by omega);refine Ens.ite (by omega) ?_;refine Ens.ite (by simp only[aiM,aiR]; omega) ?_
  refine Ens.ite (by rw[e1]; omega) ?_
  refine Ens.ite (by simp only[aiE,aiM,aiR,aiz]; omega) ?_
  refine Ens.some ⟨h3.1,x3,x4,?_⟩;rw[e1];simp only[aiE,aiM,aiR,aiz];omega
theorem xt {q:zJ} {name:List UInt8} (h1:q.2.1=name) (h2:q.2.2.length<=8) (hn:name.length<=1920):zi q<=1928:=by
 simp only[zi,zl,h1]; omega
theorem tQ (c:zO) (conf:za) (hc:z7 c) (hN:conf.1<=8):Ens (bu (c,conf,())) λ r=>0<=r.1.2.1/\zB r.2.1<=4000:=by
 unfold bu;refine (Qp c hc).bind λ r0 h0 => ?_;have hl:=j3 h0.2;have hv:=qA h0.2;refine (l8 (c.1,r0.1.2) conf r0.2.1 ⟨hc.1,h0.1⟩ hN h0.2).bind λ r1 h1 => ?_;obtain⟨k1,k2,k3,k4⟩:=h1;have hw:=xt k3 k4 hl;refine Ens.loop (λ y=>(0<=y.2.1/\y.2.1<=2)/\(y.1.length:Int)<=y.2.1/\0<=y.2.2.1.2.1) (λ y=>(3 - y.2.1).toNat) ?_ ⟨by simp,by simp,k1⟩ (by dsimp only; rw[jd]; omega)
 intro rec y hy XW;obtain⟨y1,y2,y3⟩:=hy;refine (zG (c.1,y.2.2.1.2) 3 ⟨hc.1,y3⟩).bind λ r3 h3 => ?_;have a3:=h3.2.2 (by decide);refine Ens.cond (λ h' => ?_) λ h' => ?_
 ·have h':y.2.1<r3.2.1:=by simpa using h'
  refine (LX (c.1,r3.1.2) ⟨hc.1,h3.1⟩).bind λ r4 h4 => ?_;refine Ens.ite (by simp only[aiA,aiz]; omega) ?_
  rw[zg (n:=y.2.1+1) (by omega) (by omega)];exact XW _ ⟨⟨by dsimp only; omega,by dsimp only; omega⟩,by simp only[aiE,aiA,aiz]; omega,h4.1⟩ (by dsimp only; omega)
 ·refine (zG (c.1,r3.1.2) 4 ⟨hc.1,h3.1⟩).bind λ r5 h5 => ?_;have a5:=h5.2.2 (by decide);have b5:=B8 h5.2.1 a5;have e1:wr (r1.2.1.1+1)=r1.2.1.1+1:=zg (by omega) (by omega);have e2:wr (Int.tdiv r5.2.1 3)=Int.tdiv r5.2.1 3:=zg (by omega) (by omega);have e3:wr (r1.2.1.1+1+Int.tdiv r5.2.1 3)=r1.2.1.1+1+Int.tdiv r5.2.1 3:=zg (by omega) (by omega);have hb:=rD conf r1.2.1 (r1.2.1.1+1+Int.tdiv r5.2.1 3) y.1 (by omega);rw[e1,e2,e3,pc conf r1.2.1 _ y.1 (by omega) (by omega) (by omega),aiu];exact Ens.some ⟨h5.1,by dsimp only; omega⟩
theorem mE {G:(Int×zO×zD×Unit->Option (zO×zD×Unit))->Int×zO×zD×Unit->Option (zO×zD×Unit)} (b:List UInt8) (n:Int) (hb:b.length<=big) (nm:List UInt8) (p:zD) (i h:Int) (hi:0<=i) (hp:p.2.1=nm) (hp2:p.2.2=[])
  (hG:∀ rec x,G rec x=(zk ((b,x.2.1.2),7,())).bind λ r5=>bif decide (x.1<wr (1+r5.2.1)) then (yU (n,4,())).bind λ r6=>(zk ((b,r5.1.2),r6.1,())).bind λ r7=>(Z1 (x.2.2.1.2.2,r7.2.1,())).bind λ r8=>rec (wr (x.1+1),(b,r7.1.2),(x.2.2.1.1,x.2.2.1.2.1,r8.1),()) else some ((b,r5.1.2),x.2.2.1,())):
  Ens (iter G fuel (0,(b,i,h),p,())) λ r=>0<=r.1.2.1/\r.2.1.2.1=nm/\r.2.1.2.2.length<=7:=by
 refine Ens.loop (λ x=>(0<=x.1/\x.1<=7)/\0<=x.2.1.2.1/\x.2.2.1.2.1=nm/\(x.2.2.1.2.2.length:Int)<=x.1) (λ x=>(8 - x.1).toNat) ?_ ⟨by simp,hi,hp,by simp[hp2]⟩ (by dsimp only; rw[jd]; omega)
 intro rec x hx XW;obtain⟨x1,x2,x3,x4⟩:=hx;rw[hG];refine (zG (b,x.2.1.2) 7 ⟨hb,x2⟩).bind λ r5 h5 => ?_;have a5:=h5.2.2 (by decide);have b5:=h5.2.1;rw[zg (n:=1+r5.2.1) (by omega) (by omega)];refine Ens.cond (λ h => ?_) λ h=>Ens.some ⟨h5.1,x3,by dsimp only; omega⟩
 have h:x.1<1+r5.2.1:=by simpa using h
 rw[My,aiu];refine (zG (b,r5.1.2) _ ⟨hb,h5.1⟩).bind λ r7 h7 => ?_;have hl:=aw x.2.2.1.2.2 r7.2.1;rw[aP _ _ (by omega),aiu,zg (n:=x.1+1) (by omega) (by omega)];exact XW _ ⟨⟨by dsimp only; omega,by dsimp only; omega⟩,h7.1,x3,by dsimp only; omega⟩ (by dsimp only; omega)
theorem lQ (c:zO) (conf:za) (hc:z7 c):Ens (qh (c,conf,())) λ r=>0<=r.1.2.1/\zF r.2.1.2.1=true/\r.2.1.2.2.length<=7:=by
 unfold qh;refine (Qp c hc).bind λ r0 h0 => ?_;have hl:=j3 h0.2;dsimp only;rw[YQ r0.2.1 (by omega),aiu];refine (Y3 (c.1,r0.1.2) 4 ⟨hc.1,h0.1⟩).bind λ r2 h2 => ?_;refine Ens.cond (λ _ => ?_) λ _ => ?_
 ·refine (zG (c.1,r2.1.2) 4 ⟨hc.1,h2⟩).bind λ r3 h3 => ?_;refine (mE c.1 conf.1 hc.1 [] _ r3.1.2.1 r3.1.2.2 h3.1 rfl rfl (λ _ _=>rfl)).mono λ r hr=>⟨hr.1,by rw[hr.2.1]; exact Qv,hr.2.2⟩
 ·refine Ens.cond (λ _ => ?_) λ _ => ?_
  ·refine (zG (c.1,r2.1.2) 4 ⟨hc.1,h2⟩).bind λ r3 h3 => ?_;refine (mE c.1 conf.1 hc.1 [] _ r3.1.2.1 r3.1.2.2 h3.1 rfl rfl (λ _ _=>rfl)).mono λ r hr=>⟨hr.1,by rw[hr.2.1]; exact Qv,hr.2.2⟩
  ·refine (mE c.1 conf.1 hc.1 r0.2.1 _ r2.1.2.1 r2.1.2.2 h2 rfl rfl (λ _ _=>rfl)).mono λ r hr=>⟨hr.1,by rw[hr.2.1]; exact h0.2,hr.2.2⟩
theorem PR (c:zO) (l:List (List UInt8)) (hc:z7 c) (hl:0<l.length):Ens (gx (c,l,())) λ r=>0<=r.1.2.1/\r.2.1∈l:=by
 unfold gx;refine (zG c _ hc).bind λ r hr => ?_;have h:r.2.1<(l.length:Int):=hr.2.2 (show (0:Int)<(l.length:Int) by omega);have h0:0<=r.2.1:=hr.2.1;refine Ens.ite ⟨h0,h⟩ (Ens.some ⟨hr.1,xB (e:=.str) ?_⟩);show r.2.1.toNat<l.length;omega
theorem Rf (c:zO) (s:List UInt8) (hc:z7 c) (hs:s.length<=100000):Ens (gN (c,s,())) λ r=>0<=r.1.2.1/\r.2.1.length<=s.length+1:=by
 unfold gN;dsimp only;have e0:wr ((s.length:Int)+1)=(s.length:Int)+1:=zg (by omega) (by omega);rw[e0];refine (zG c _ hc).bind λ r0 h0 => ?_;have a0:=h0.2.2 (by omega);have b0:=h0.2.1;refine (zG (c.1,r0.1.2) 5 ⟨hc.1,h0.1⟩).bind λ r1 h1 => ?_;refine Ens.cond (λ _ => ?_) λ _ => ?_
 ·refine Ens.ite (by omega) (Ens.some ⟨h1.1,?_⟩);simp only[aiM,aiR];omega
 ·refine Ens.cond (λ _ => ?_) λ _=>Ens.some ⟨h1.1,by dsimp only; omega⟩
  refine Ens.ite (by omega) ?_;refine (PR (c.1,r1.1.2) _ ⟨hc.1,h1.1⟩ (by simp)).bind λ r2 h2 => ?_;have hp:r2.2.1.length=1:=by
   have:=h2.2;simp only[aiP,ajm,or_false] at this;rcases this with h|h|h|h|h|h|h<;>rw[h]<;>rfl
  refine Ens.ite (by simp only[aiM,aiR]; omega) ?_
  refine Ens.ite (by omega) ?_;refine Ens.ite (by simp only[aiE,aiM,aiR]; omega) (Ens.some ⟨h2.1,?_⟩)
  simp only[aiE,aiM,aiR];omega
theorem l7 (c:zO) (hc:z7 c):Ens (qp (c,())) λ r=>0<=r.1.2.1/\r.2.1.length<=1930:=by
 unfold qp;refine (Y3 c 20 hc).bind λ r0 h0 => ?_;refine Ens.cond (λ _ => ?_) λ _ => ?_
 ·refine Ens.loop (λ x=>(1<=x.2.1/\x.2.1<=32)/\(x.1.length:Int)<=8*x.2.1/\0<=x.2.2.1.2.1) (λ x=>(33 - x.2.1).toNat) ?_ ⟨by simp,by simp,h0⟩ (by dsimp only; rw[jd]; omega)
  intro rec x hx XW;obtain⟨x1,x2,x3⟩:=hx;refine (zG (c.1,x.2.2.1.2) 2 ⟨hc.1,x3⟩).bind λ r2 h2 => ?_;have a2:=h2.2.2 (by decide);have b2:=h2.2.1;rw[zg (n:=30+r2.2.1) (by omega) (by omega)];refine Ens.cond (λ h => ?_) λ h=>Ens.some ⟨h2.1,by dsimp only; omega⟩
  have h:x.2.1<=30+r2.2.1:=by simpa using h
  refine Ens.ite (by simp only[aiA,aiz]; omega) ?_
  obtain⟨u,hu⟩:∃ u:Nat,x.2.1=(u:Int):=⟨x.2.1.toNat,by omega⟩
  have hd:=dl u (by omega);rw[hu,Mj u (by omega),aiu];refine Ens.ite (by simp only[aiE,aiA,aiz]; omega) ?_
  refine Ens.ite (by simp only[aiE,aiA,aiz]; omega) ?_
  rw[←hu,zg (n:=x.2.1+1) (by omega) (by omega)];exact XW _ ⟨⟨by dsimp only; omega,by dsimp only; omega⟩,by simp only[aiE,aiA,aiz]; omega,h2.1⟩ (by dsimp only; omega)
 ·refine (Qp (c.1,r0.1.2) ⟨hc.1,h0⟩).bind λ r4 h4 => ?_;have hl:=j3 h4.2;exact (Rf (c.1,r4.1.2) r4.2.1 ⟨hc.1,h4.1⟩ (by omega)).bind λ r5 h5=>Ens.some ⟨h5.1,by have:=h5.2; dsimp only; omega⟩
theorem tJ (c:zO) (conf:za) (hc:z7 c):Ens (bd (c,conf,())) λ r=>0<=r.1.2.1/\r.2.1.2.1.length<=1930/\r.2.1.2.2.length<=8:=by
 unfold bd;refine (lQ c conf hc).bind λ r0 h0 => ?_;have hl:=j3 h0.2.1;have hw:=h0.2.2;refine (zG (c.1,r0.1.2) 10 ⟨hc.1,h0.1⟩).bind λ r1 h1 => ?_;refine Ens.cond (λ _ => ?_) λ _ => ?_
 ·exact (jI (c.1,r1.1.2) _ ⟨hc.1,h1.1⟩ (by simp)).bind λ r2 h2=>Ens.some ⟨h2.1,by dsimp only; omega,by dsimp only; omega⟩
 refine Ens.cond (λ _ => ?_) λ _ => ?_
 ·exact (tO (c.1,r1.1.2) 7 ⟨hc.1,h1.1⟩ (by decide)).bind λ r2 h2=>Ens.some ⟨h2.1,by dsimp only; omega,h2.2⟩
 refine Ens.cond (λ _ => ?_) λ _ => ?_
 ·exact (l7 (c.1,r1.1.2) ⟨hc.1,h1.1⟩).bind λ r2 h2=>Ens.some ⟨h2.1,h2.2,by dsimp only; omega⟩
 exact Ens.some ⟨h1.1,by dsimp only; omega,by dsimp only; omega⟩
theorem PH (c:zO) (conf:za) (hc:z7 c) (hN:conf.1<=8):Ens (gj (c,conf,())) λ r=>0<=r.1.2.1/\zh r.2.1<=4000:=by
 unfold gj;refine (zG c 4 hc).bind λ r0 h0 => ?_;refine Ens.cond (λ _ => ?_) λ _ => ?_
 ·refine (tQ (c.1,r0.1.2) conf ⟨hc.1,h0.1⟩ hN).bind λ r1 h1=>Ens.some ⟨h1.1,?_⟩;have:=h1.2;simp only[zh,zj,zi,zl,aiz];omega
 refine Ens.cond (λ _ => ?_) λ _ => ?_
 ·refine (lQ (c.1,r0.1.2) conf ⟨hc.1,h0.1⟩).bind λ r2 h2 => ?_;have hl:=j3 h2.2.1;have hw:=h2.2.2;refine Ens.cond (λ _ => ?_) λ _ => ?_
  ·have hn:=mu [] 1 [] (by decide);rw[aH [] 1 [] (by simp) (by decide) (by simp),Option.bind_some];refine Ens.some ⟨h2.1,?_⟩;simp only[zh,zj,zB,zi,zl,aiz] at hn ⊢;omega
  ·refine Ens.some ⟨h2.1,?_⟩;simp only[zh,zj,zB,zi,zl,aiz];omega
 refine Ens.cond (λ _ => ?_) λ _ => ?_
 ·refine (zG (c.1,r0.1.2) 6 ⟨hc.1,h0.1⟩).bind λ r4 h4 => ?_;refine (Qp (c.1,r4.1.2) ⟨hc.1,h4.1⟩).bind λ r5 h5 => ?_;have hl:=j3 h5.2;refine (l8 (c.1,r5.1.2) conf r5.2.1 ⟨hc.1,h5.1⟩ hN h5.2).bind λ r6 h6 => ?_;obtain⟨k1,k2,k3,k4⟩:=h6;have hw:=xt k3 k4 hl;refine (zG (c.1,r6.1.2) _ ⟨hc.1,k1⟩).bind λ r7 h7=>Ens.some ⟨h7.1,?_⟩;simp only[zh,zj,zB,zl,aiz];simp only[zi,zl,aiz] at hw ⊢;omega
 ·exact (LX (c.1,r0.1.2) ⟨hc.1,h0.1⟩).bind λ r8 h8=>Ens.some ⟨h8.1,by simp[zh,zj,zB,zi,zl]⟩
theorem PI (c:zO) (conf:za) (hc:z7 c) (hN:conf.1<=8):Ens (gi (c,conf,())) λ r=>0<=r.1.2.1/\zh r.2.1<=8000:=by
 unfold gi;refine (PH c conf hc hN).bind λ r0 h0 => ?_;have hw:=h0.2;refine (zG (c.1,r0.1.2) 12 ⟨hc.1,h0.1⟩).bind λ r1 h1 => ?_;refine Ens.cond (λ _ => ?_) λ _ => ?_
 ·exact (zG (c.1,r1.1.2) 7 ⟨hc.1,h1.1⟩).bind λ r2 h2=>Ens.some ⟨h2.1,by simp only[zh] at hw ⊢; omega⟩
 refine Ens.cond (λ _ => ?_) λ _ => ?_
 ·exact (jI (c.1,r1.1.2) _ ⟨hc.1,h1.1⟩ (by simp)).bind λ r2 h2=>Ens.some ⟨h2.1,by simp only[zh] at hw ⊢; omega⟩
 refine Ens.cond (λ _ => ?_) λ _ => ?_
 ·exact (jI (c.1,r1.1.2) _ ⟨hc.1,h1.1⟩ (by simp)).bind λ r2 h2=>Ens.some ⟨h2.1,by simp only[zh] at hw ⊢; omega⟩
 refine Ens.cond (λ _ => ?_) λ _ => ?_
 ·refine (tJ (c.1,r1.1.2) conf ⟨hc.1,h1.1⟩).bind λ r2 h2=>Ens.some ⟨h2.1,?_⟩;have:=h2.2;simp only[zh,zj,zl] at hw ⊢;omega
 refine Ens.cond (λ _ => ?_) λ _ => ?_
 ·exact (tN (c.1,r1.1.2) ⟨hc.1,h1.1⟩).bind λ r2 h2=>Ens.some ⟨h2,by simp only[zh] at hw ⊢; omega⟩
 exact Ens.some ⟨h1.1,by dsimp only; omega⟩
def Kp (c:za) (r r':zb):Prop:=zf c r'=true/\r'.1=r.1
theorem Kp.refl {c:za} {r:zb} (h:zf c r=true):Kp c r r:=⟨h,rfl⟩
theorem Kp.trans {c:za} {a b d:zb} (h1:Kp c a b) (h2:Kp c b d):Kp c a d:=⟨h2.1,h2.2.trans h1.2⟩
theorem lO {c:za} {r:zb} (h:zf c r=true) (to:Int) (m:zo):Kp c r (y9 c r to m).1:=by
 have e:=pG to m h;cases hf:(y9 c r to m).2 with
 | true=>
  rw[e] at hf ⊢;exact pF hf
 | false=>
  unfold y9 at hf ⊢;cases hc:(!decide ((r.2.2.2.2.2.2.2.length:Int)≥30) && jV c r.1 (to,m))
  ·exact Kp.refl h
  ·rw[hc] at hf; cases hf
theorem c6 {c:za} {r:zb} (h:zf c r=true) (s:zI):Kp c r (zy c r s).1/\(zy c r s).1.2.1=r.2.1:=by
 cases hf:(zy c r s).2 with
 | true=>obtain⟨a,b,d⟩:=pW h hf; exact⟨⟨a,b⟩,d⟩
 | false=>rw[XR hf]; exact⟨Kp.refl h,rfl⟩
theorem cZ {c:za} {r:zb} {v:Int} (h:zf c r=true) (hv:1<=v/\v<=60):Kp c r (z6 r v):=⟨lD h hv,rfl⟩
theorem PA {c:za} {r:zb} (h:zf c r=true) (q:zJ):Kp c r (top c r q).1:=by
 obtain⟨k1,k2⟩:=c6 h (see c r.2.2.2.1 q);have hv:=Ma h;unfold top;cases (zy c r (see c r.2.2.2.1 q)).2
 ·exact Kp.refl h
 ·simp only[aiC,aiv];by_cases h60:q.1+1>60
  ·simp only[h60,aiB,aiw]; exact k1
  ·have k3:Kp c r (z6 (zy c r (see c r.2.2.2.1 q)).1 (max (zy c r (see c r.2.2.2.1 q)).1.2.1 (q.1+1))):=k1.trans (cZ k1.1 (by rw[k2]; omega))
   simp only[h60,aiD,aiv];cases (ya c (q.1+1)==r.1)
   ·exact k3.trans (lO k3.1 _ _)
   ·exact k3
theorem Ps {c:za} {r:zb} (h:zf c r=true) (v:Int) (name:List UInt8) (force:Bool):Kp c r (YT c r v name force).1:=by
 unfold YT;cases (((yN r.2.2.2.2.2.1 v name).2.2.length:Int)==0)
 ·cases (name==([]:List UInt8))
  ·simp only[aiv];cases (ya c v==r.1)
   ·simp only[aiv];cases (!force && decide ((KQ (under c v r.1) (yN r.2.2.2.2.2.1 v name).2.2:Int)<((under c v r.1).length:Int)))
    ·exact lO h _ _
    ·exact Kp.refl h
   ·simp only[aiw];cases (Y9 c (yN r.2.2.2.2.2.1 v name)).2
    ·exact Kp.refl h
    ·exact PA h _
  ·exact Kp.refl h
 ·exact Kp.refl h
theorem lM {c:za} {r:zb} (h:zf c r=true) (v:Int) (name:List UInt8) (force:Bool):Kp c r (climb c r v name force).1:=by
 unfold climb;cases (zf c r && (YT c r v name force).2)
 ·exact Kp.refl h
 ·exact Ps h v name force
theorem Qn {c:za} {r:zb} {t:zS} (h:zf c r=true) (ht:jn c t=true):Kp c r (yV r t):=⟨ka h ht,rfl⟩
theorem PB {c:za} {r0 w:zb} (h0:zf c r0=true) (h:zf c w=true) (e:w.1=r0.1) (name:List UInt8):Kp c r0 (voted c r0 w name).1:=by
 unfold voted;cases ht:(zx c w.2.2.2.2.2.1 (zn name,name,[w.1])).2
 ·exact Kp.refl h0
 ·have k:=Qn (t:=(zx c w.2.2.2.2.2.1 (zn name,name,[w.1])).1) h (qt ht);have k2:=k.trans (lM k.1 (zn name) name false);exact⟨k2.1,k2.2.trans e⟩
theorem tF {c:za} {r:zb} (h:zf c r=true) (b:y7):Kp c r (LR c r b).1:=by
 unfold LR;rw[h];simp only[aiC,aiv];cases hbo:jG c b
 ·exact Kp.refl h
 ·simp only[aiC,aiv];have hn:zF b.1=true/\b.1≠[]:=by
   unfold jG at hbo;simp only[aix,bne_iff_ne,ne_eq] at hbo;exact⟨hbo.2.1,hbo.2.2.1⟩
  have hnv:=Qw hn.1 hn.2;cases decide (zn b.1≥r.2.1)
  ·simp only[aiv];obtain⟨k1,_⟩:=c6 h (see c r.2.2.2.1 b.2);cases (zy c r (see c r.2.2.2.1 b.2)).2
   ·exact Kp.refl h
   ·exact k1
  ·simp only[aiw];have ki:=cZ (v:=zn b.1) h hnv;obtain⟨k1,_⟩:=c6 ki.1 (vote c (see c r.2.2.2.1 b.2) b);have k1:=ki.trans k1;cases (zy c (z6 r (zn b.1)) (vote c (see c r.2.2.2.1 b.2) b)).2
   ·exact Kp.refl h
   ·simp only[aiC,aiv];cases J7 c (see c r.2.2.2.1 b.2) b
    ·exact k1
    ·exact PB h k1.1 k1.2 b.1
theorem Pt {c:za} {r:zb} (h:zf c r=true) (p:zD):Kp c r (Nd c r p).1:=by
 unfold Nd;rw[h];simp only[aiC,aiv];cases yZ c p
 ·exact Kp.refl h
 cases (p.2.1==([]:List UInt8))
 ·cases decide (p.1<r.2.1)
  ·simp only[aiC,aiv];cases ht:(zx c r.2.2.2.2.2.1 p).2
   ·exact Kp.refl h
   ·have k:=Qn (t:=(zx c r.2.2.2.2.2.1 p).1) h (qt ht);exact k.trans (lM k.1 p.1 p.2.1 false)
  ·exact Kp.refl h
 ·exact Kp.refl h
theorem Pw {c:za} {r:zb} (h:zf c r=true):Kp c r (late c r).1:=by
 have hv:=Ma h;unfold late;rw[h];simp only[aiC,aiv];by_cases h60:r.2.1≥60
 ·simp only[h60,aiB,aiw]; exact Kp.refl h
 ·have ki:=cZ (v:=r.2.1+1) h (by omega);simp only[h60,aiD,aiv];cases (ya c (r.2.1+1)==r.1)
  ·simp only[aiv];have k:=ki.trans (lO ki.1 (ya c (r.2.1+1)) (3,r.2.1+1,([],0,[],[]),(0,[],[]),r.2.2.2.1.2.2.1,r.1,0,0,0,0));cases (y9 c (z6 r (r.2.1+1)) (ya c (r.2.1+1)) (3,r.2.1+1,([],0,[],[]),(0,[],[]),r.2.2.2.1.2.2.1,r.1,0,0,0,0)).2
   ·exact Kp.refl h
   ·exact k
  ·simp only[aiw];cases ht:(zx c r.2.2.2.2.2.1 (r.2.1+1,[],[r.1])).2
   ·exact Kp.refl h
   ·exact ki.trans (Qn ki.1 (qt ht))
theorem lN {c:za} {r:zb} (hr:zf c r=true) (m:zo):∀ (n i:Nat) (out:zb),Kp c r out->Kp c r (Jk c r m n i out).1
 | 0,_,out,h=>h
 | n+1,i,out,h=>by
  simp only[Jk];cases ((i:Int)==r.1)
  ·simp only[aiv];cases ht:(tell c out i m).2
   ·exact Kp.refl hr
   ·exact lN hr m n (i+1) _ (h.trans (pF ht))
  ·exact lN hr m n (i+1) out h
theorem Pz {c:za} {r:zb} (h:zf c r=true) (m:zo):Kp c r (Ly c r m).1:=by
 unfold Ly;rw[h];exact lN h m _ 0 r (Kp.refl h)
theorem Sm {p:zE} {x:zP} (hp:jB p=true):jB (Z9 p x).1=true:=by
 unfold Z9 Kg;generalize jc (λ y => !jy y x) 0 p=k;cases h:jB (p.take k++x::p.drop k)
 ·exact hp
 ·exact h
theorem xE {c:za} {a v k:Int} {sf:zI} {p p':zE} {rest:zS×yP×jT} (h:zf c (a,v,k,sf,p,rest)=true) (hp:jB p'=true):zf c (a,v,k,sf,p',rest)=true:=by
 unfold zf at h ⊢;simp only[aix] at h ⊢;obtain⟨a1,a2,a3,a4,a5,a6,a7⟩:=h;exact⟨a1,a2,a3,a4,a5,hp,a7⟩
theorem Pu {c:za} {r:zb} (h:zf c r=true) (x:zP):Kp c r (Nf c r x).1:=by
 obtain⟨a,v,k,sf,p,rest⟩:=r;have hp:=(JM h).2.2.2.2.2.1;unfold Nf;rw[h];exact⟨xE h (Sm hp),rfl⟩
theorem AU {c:za} (h:zw c=true):yk c Z5=true:=by
 unfold yk Z5 yg;simp[h,Qv,Cp]
theorem U3 {c:za} {s:List UInt8} (h:(Yd c s).2=true):yk c (Yd c s).1=true:=by
 unfold Yd at h ⊢;cases hc:((jk s).1.2 && ((jk s).1.1==(s.length:Int) && yk c (jk s).2))
 ·rw[hc] at h; cases h
 ·simp only[aix] at hc;exact hc.2.2
theorem tU (c:za) (s:List UInt8):∀ (n at_:Nat) (old:zI),yk c old=true->yk c (jP c s n at_ old).1=true
 | 0,_,_,h=>h
 | n+1,at_,old,h=>by
  simp only[jP];cases hc:((ye s at_).2.2 && (decide ((ye s at_).2.1<(s.length:Int)) && (s.getD (ye s at_).2.1.toNat 0==10 && (Yd c (ye s at_).1).2)))
  ·exact h
  ·simp only[aix] at hc;exact tU c s n _ _ (U3 hc.2.2.2)
theorem Rl {c:za} (h:zw c=true) (s:List UInt8):yk c (JD c s).1=true:=tU c s _ 0 Z5 (AU h)
theorem U5 {c:za} {s:zI} (h:yk c s=true):(0<=s.1/\s.1<=60)/\(0<=s.2.2.1.1/\s.2.2.1.1<=60):=by
 unfold yk at h;simp only[aix,aiI] at h;refine⟨h.1,?_⟩;have hq:=h.2.2.1;unfold yg at hq;simp only[aix,aj6] at hq;have:=qA hq.2.1;omega
theorem tI {c:za} {r:zb} (h:zf c r=true):Kp c r (rise c r):=by
 obtain⟨h1,h2,h3,h4,h5,h6,h7,h8,h9,h10⟩:=JM h;unfold rise;rw[h];simp only[aiw];refine⟨?_,rfl⟩;have hs:=Rl h1 r.2.2.2.2.2.2.1.1;obtain⟨b1,b2,b3⟩:=tY c r.2.2.2.2.2.2.1.1;obtain⟨s1,s2⟩:=U5 hs;unfold yw at h8;simp only[aix,aiI] at h8;unfold zf;simp only[aix,aiI];have hv:1<=ae (JD c r.2.2.2.2.2.2.1.1).1/\ae (JD c r.2.2.2.2.2.2.1.1).1<=60:=by
  unfold ae;rw[zg (by omega) (by omega)];omega
 refine⟨h1,h2,hv,by omega,hs,rfl,rfl,?_,by simp,by simp⟩;unfold yw;simp only[aix,aiI,aiM];omega
theorem Px {c:za} {r:zb} (h:zf c r=true):Kp c r (jQ c r).1:=by
 obtain⟨h1,h2,h3,h4,h5,h6,h7,h8,h9,h10⟩:=JM h;unfold jQ;rw[h];simp only[aiw];refine⟨?_,rfl⟩;unfold zf;simp only[aix,aiI];refine⟨h1,h2,h3,h4,h5,h6,h7,?_,by simp,by simp⟩;unfold qs;rw[if_pos h8];unfold yw at h8 ⊢;simp only[aix,aiI] at h8 ⊢;omega
noncomputable def bC (q:zJ) (w:zb) (v:Int):zb:=z6 w (max v (min (q.1+1) 60))
noncomputable def Ng (c:za) (r:zb) (v:Int) (q:zJ) (who:Int):zb×Bool:=
 bif !zf c r then (r,false) else bif !(decide (v≥1) && decide (v<=60)) then (r,false) else bif !yg c q then (r,false) else bif !(decide (who≥0) && decide (who<=wr (c.1 - 1))) then (r,false) else
 bif (zy c r (see c r.2.2.2.1 q)).2 then
  (bif ya c v==r.1 then
   (bif decide (v≥r.2.1) then
    (bif !(zx c (zy c r (see c r.2.2.2.1 q)).1.2.2.2.2.2.1 (v,[],[who])).2 then (r,false) else
     bif decide (((yN (zx c (zy c r (see c r.2.2.2.1 q)).1.2.2.2.2.2.1 (v,[],[who])).1 v []).2.2.length:Int)≥Ja c) then
      (bC q (yV (zy c r (see c r.2.2.2.1 q)).1 (zx c (zy c r (see c r.2.2.2.1 q)).1.2.2.2.2.2.1 (v,[],[who])).1) (max (zy c r (see c r.2.2.2.1 q)).1.2.1 v),true)
     else (bC q (yV (zy c r (see c r.2.2.2.1 q)).1 (zx c (zy c r (see c r.2.2.2.1 q)).1.2.2.2.2.2.1 (v,[],[who])).1) (zy c r (see c r.2.2.2.1 q)).1.2.1,true))
    else (bC q (zy c r (see c r.2.2.2.1 q)).1 (zy c r (see c r.2.2.2.1 q)).1.2.1,true))
   else (bC q (zy c r (see c r.2.2.2.1 q)).1 (zy c r (see c r.2.2.2.1 q)).1.2.1,true))
 else (r,false)
theorem W4 (a b:Int):yd (a,b,())=some (min a b,()):=by
 rw[lR];congr 2;split<;>omega
theorem Wn (c:za) (r:zb) (v:Int) (q:zJ) (who:Int) (hr:ze r<=2000000) (hq:zi q<=2000000):fG (c,r,v,q,who,())=some ((Ng c r v q who).1,(Ng c r v q who).2,()):=by
 have hs:zA r.2.2.2.1<=2000000:=by simp only[ze] at hr; omega
 have afN:=an c r.2.2.2.1 q;have hww:=mD c r (see c r.2.2.2.1 q);have hwt:zC (zy c r (see c r.2.2.2.1 q)).1.2.2.2.2.2.1<=100000000:=by simp only[ze] at *; omega
 have hp:=bD v who [];simp only[aiz] at hp;have hta:=qu c (zy c r (see c r.2.2.2.1 q)).1.2.2.2.2.2.1 (v,[],[who]);unfold fG Ng;dsimp only;rw[Zp r (by omega),Option.bind_some,Z0 c r (by omega),Option.bind_some,Yh,Option.bind_some,Lq c q (by omega),Option.bind_some,Yh,Option.bind_some,Option.bind_some,fU c r.2.2.2.1 q (by omega) (by omega),Option.bind_some,bi c r (see c r.2.2.2.1 q) (by omega) (by omega),Option.bind_some,Mn,Option.bind_some,
  aU c (zy c r (see c r.2.2.2.1 q)).1.2.2.2.2.2.1 (v,[],[who]) hwt (by omega),Option.bind_some,po (zx c (zy c r (see c r.2.2.2.1 q)).1.2.2.2.2.2.1 (v,[],[who])).1 v [] (by omega),Option.bind_some,pk,Option.bind_some]
 cases XX:zf c r
 ·rfl
 cases (decide (v≥1) && decide (v<=60))
 ·rfl
 cases hqo:yg c q
 ·rfl
 cases (decide (who≥0) && decide (who<=wr (c.1 - 1)))
 ·rfl
 have hqv:0<=q.1/\q.1<=60:=by
  unfold yg at hqo;simp only[aix,aj6] at hqo;have:=qA hqo.2.1;omega
 have e1:wr (q.1+1)=q.1+1:=zg (by omega) (by omega);simp only[aiC,aiv,e1,W4,My,aiu];cases (zy c r (see c r.2.2.2.1 q)).2
 ·rfl
 cases (ya c v==r.1)
 ·rfl
 cases decide (v≥r.2.1)
 ·rfl
 cases (zx c (zy c r (see c r.2.2.2.1 q)).1.2.2.2.2.2.1 (v,[],[who])).2
 ·rfl
 cases decide (((yN (zx c (zy c r (see c r.2.2.2.1 q)).1.2.2.2.2.2.1 (v,[],[who])).1 v []).2.2.length:Int)≥Ja c)<;>rfl
theorem lP {c:za} {w:zb} {q:zJ} {v:Int} (h:zf c w=true) (hq:0<=q.1) (hv:1<=v/\v<=60):Kp c w (bC q w v):=cZ h (by omega)
theorem Pv {c:za} {r:zb} (h:zf c r=true) (v:Int) (q:zJ) (who:Int):Kp c r (Ng c r v q who).1:=by
 have hv:=Ma h;obtain⟨k1,k2⟩:=c6 h (see c r.2.2.2.1 q);unfold Ng;rw[h];simp only[aiC,aiv];cases hvv:(decide (v≥1) && decide (v<=60))
 ·exact Kp.refl h
 simp only[aix,aiI] at hvv;cases hqo:yg c q
 ·exact Kp.refl h
 have hqv:0<=q.1/\q.1<=60:=by
  unfold yg at hqo;simp only[aix,aj6] at hqo;have:=qA hqo.2.1;omega
 cases (decide (who≥0) && decide (who<=wr (c.1 - 1)))
 ·exact Kp.refl h
 simp only[aiC,aiv];cases (zy c r (see c r.2.2.2.1 q)).2
 ·exact Kp.refl h
 simp only[aiw];have kw:=k1.trans (lP (q:=q) (v:=(zy c r (see c r.2.2.2.1 q)).1.2.1) k1.1 hqv.1 (by rw[k2]; exact hv))
 cases (ya c v==r.1)
 ·exact kw
 cases decide (v≥r.2.1)
 ·exact kw
 simp only[aiw];cases ht:(zx c (zy c r (see c r.2.2.2.1 q)).1.2.2.2.2.2.1 (v,[],[who])).2
 ·exact Kp.refl h
 have kt:=k1.trans (Qn k1.1 (qt ht));simp only[aiC,aiv];cases decide (((yN (zx c (zy c r (see c r.2.2.2.1 q)).1.2.2.2.2.2.1 (v,[],[who])).1 v []).2.2.length:Int)≥Ja c)
 ·exact kt.trans (lP kt.1 hqv.1 (by rw[k2]; exact hv))
 ·exact kt.trans (lP kt.1 hqv.1 (by rw[k2]; omega))
def YR (l:zS) (v:Int):zS:=l.filter λ p=>decide (p.1≥v)
noncomputable def Ny (p:zE) (l:yb):zE:=p.filter λ x=>(pay l x).2 != 2
theorem sx {α:Type} (q:α->Bool) {l:List α} {i:Nat} (hi:i<l.length):(l.drop i).filter q=(if q l[i]=true then [l[i]] else [])++(l.drop (i+1)).filter q:=by
 rw[aiN hi,ak0];split<;>rfl
theorem WM (l:zS) (v:Int) (hl:zC l<=137438953472):f0 (l,v,())=some (YR l v,()):=by
 have hll:=MG l;unfold f0 YR;dsimp only;refine (walk l.length (λ i (s:zS)=>(s,i,())) (λ i s=>s.length<=i) (λ i s=>some (s++(l.drop i).filter (λ p=>decide (p.1≥v)),())) (by omega) ?_ ?_ (s0:=[]) (Nat.le_refl _)).trans (by simp)
 ·intro rec s hs;simp
 ·intro rec i s hi hs;have hx:l[i]?=some l[i]:=List.getElem?_eq_getElem hi;have hw:zj l[i]<=137438953472:=KB hl hx;right;simp only[zt hi,decide_true,cond_true,and_self,if_true,Int.toNat_natCast,zq (e:=Yl) hx,Ms l[i] hw,Option.bind_some,zr (show i<4611686018427387904 by omega),sx (λ p:zD=>decide (p.1≥v)) hi];by_cases hq:l[i].1≥v
  ·simp only[hq,aiB,aiw,if_true];rw[if_pos (by simp only[aiA,aiz]; omega)]
   exact⟨s++[l[i]],by simp only[aiE,aiA,aiz]; omega,rfl,by simp⟩
  ·simp only[hq,aiD,aiv,aiT,if_false];exact⟨s,by omega,rfl,by simp⟩
theorem Ww (p:zE) (l:yb) (hp:p.length<=137438953472) (h1:l.1.length<=137438953472) (h2:l.2.length<=137438953472):aJ (p,l,())=some (Ny p l,()):=by
 unfold aJ Ny;dsimp only;refine (walk p.length (λ i (s:zE)=>(s,i,())) (λ i s=>s.length<=i) (λ i s=>some (s++(p.drop i).filter (λ x=>(pay l x).2 != 2),())) (by omega) ?_ ?_ (s0:=[]) (Nat.le_refl _)).trans (by simp)
 ·intro rec s hs;simp
 ·intro rec i s hi hs;have hx:p[i]?=some p[i]:=List.getElem?_eq_getElem hi;right;simp only[zt hi,decide_true,cond_true,and_self,if_true,Int.toNat_natCast,zq (e:=Zd) hx,pg l p[i] h1 h2,Option.bind_some,zr (show i<4611686018427387904 by omega),sx (λ x:zP=>(pay l x).2 != 2) hi];cases hq:((pay l p[i]).2 != 2)
  ·simp only[aiv,aiT,if_false];exact⟨s,by omega,rfl,by simp⟩
  ·simp only[aiw,if_true];rw[if_pos (by simp only[aiA,aiz]; omega)]
   exact⟨s++[p[i]],by simp only[aiE,aiA,aiz]; omega,rfl,by simp⟩
theorem Ih {α:Type} {ok:α->Bool} {lt:α->α->Bool} (ht:∀ a b d,lt a b=true->lt b d=true->lt a d=true):∀ {l:List α} {x y:α},yC ok lt (some y) l=true->lt x y=true->yC ok lt (some x) l=true
 | [],_,_,_,_=>rfl
 | z::l,x,y,h,hxy=>by
  simp only[yC,aix] at h ⊢;exact⟨h.1,ht _ _ _ hxy h.2.1,h.2.2⟩
theorem rL {α:Type} {ok:α->Bool} {lt:α->α->Bool}:∀ {l:List α} {p:Option α},yC ok lt p l=true->yC ok lt none l=true
 | [],_,_=>rfl
 | z::l,p,h=>by
  simp only[yC,aix] at h ⊢;exact⟨h.1,trivial,h.2.2⟩
theorem rJ {α:Type} {ok:α->Bool} {lt:α->α->Bool} (ht:∀ a b d,lt a b=true->lt b d=true->lt a d=true) (q:α->Bool):∀ {l:List α} {p:Option α},yC ok lt p l=true->yC ok lt p (l.filter q)=true
 | [],_,_=>rfl
 | z::l,p,h=>by
  simp only[yC,aix] at h;have ih:=rJ ht q h.2.2;rw[ak0];split
  ·simp only[yC,aix];exact⟨h.1,h.2.1,ih⟩
  ·cases p with
   | none=>exact rL ih
   | some y=>exact Ih ht ih h.2.1
theorem rM {α:Type} {ok:α->Bool} {lt:α->α->Bool} (key:α->Int) (hk:∀ a b,lt a b=true->key a<=key b) (v:Int):∀ {l:List α} {p:Option α},yC ok lt p l=true->(∃ y,p=some y/\key y≥v)->l.filter (λ x=>decide (key x≥v))=l
 | [],_,_,_=>rfl
 | z::l,p,h,hp=>by
  obtain⟨y,rfl,hy⟩:=hp;simp only[yC,aix] at h;have:=hk _ _ h.2.1;have hz:key z≥v:=by omega
  rw[ak0,if_pos (by simpa using hz),rM key hk v h.2.2 ⟨z,rfl,hz⟩]
theorem rI {α:Type} {ok:α->Bool} {lt:α->α->Bool} (key:α->Int) (hk:∀ a b,lt a b=true->key a<=key b) (v:Int):∀ {l:List α} {p:Option α},yC ok lt p l=true->yC ok lt none (l.filter (λ x=>decide (key x≥v)))=true
 | [],_,_=>rfl
 | z::l,p,h=>by
  have h':=h;simp only[yC,aix] at h;rw[ak0];split
  ·next hz=>
   have hz:key z≥v:=by simpa using hz
   rw[rM key hk v h.2.2 ⟨z,rfl,hz⟩];exact rL h'
  ·exact rI key hk v h.2.2
theorem G1 (a b:zD) (h:jq a b=true):a.1<=b.1:=by
 unfold jq at h;simp only[aje,aix,aiI,aj6] at h;omega
theorem B4 {c:za} {l:zS} (h:jn c l=true) (v:Int):jn c (YR l v)=true:=by
 unfold jn YR at *;simp only[aix,aiI] at h ⊢;have hl:=List.length_filter_le (λ p:zD=>decide (p.1≥v)) l;exact⟨rI (λ p:zD=>p.1) G1 v h.1,by omega⟩
theorem G2 (a b d:zP) (h1:jy a b=true) (h2:jy b d=true):jy a d=true:=by
 unfold jy at *;simp only[aje,aix,aiI,aj6] at *;omega
theorem Sn {p:zE} (h:jB p=true) (l:yb):jB (Ny p l)=true:=by
 unfold jB Ny at *;simp only[aix,aiI] at h ⊢;have hl:=List.length_filter_le (λ x=>(pay l x).2 != 2) p;exact⟨rJ G2 _ h.1,by omega⟩
noncomputable def yE (c:za) (r:zb) (m:zo):zb×Bool:=
 bif m.1==1 then LR c r m.2.2.1 else bif m.1==2 then Nd c r m.2.2.2.1 else bif m.1==3 then Ng c r m.2.1 m.2.2.2.2.1 m.2.2.2.2.2.1 else Nf c r m.2.2.2.2.2.2
noncomputable def swept (c:za) (r:zb):zb:=
 (r.1,r.2.1,r.2.2.1,r.2.2.2.1,Ny r.2.2.2.2.1 (state c (yV r (YR r.2.2.2.2.2.1 (r.2.1 - 1)))),YR r.2.2.2.2.2.1 (r.2.1 - 1),r.2.2.2.2.2.2)
noncomputable def LS (c:za) (r:zb) (m:zo):zb×Bool:=
 bif !zf c r then (r,false) else bif !yF c m then (r,false) else bif !(yE c r m).2 then (r,false) else (swept c (yE c r m).1,true)
theorem tG {c:za} {r:zb} (h:zf c r=true) (m:zo):Kp c r (yE c r m).1:=by
 unfold yE;cases (m.1==1)
 ·cases (m.1==2)
  ·cases (m.1==3)
   ·exact Pu h _
   ·exact Pv h _ _ _
  ·exact Pt h _
 ·exact tF h _
theorem Py {c:za} {r:zb} (h:zf c r=true):Kp c r (swept c r):=by
 obtain⟨h1,h2,h3,h4,h5,h6,h7,h8,h9,h10⟩:=JM h;have k:=ka h (B4 h7 (r.2.1 - 1));unfold swept;generalize state c (yV r (YR r.2.2.2.2.2.1 (r.2.1 - 1)))=l;exact⟨xE (p:=r.2.2.2.2.1) k (Sn h6 l),rfl⟩
theorem tH {c:za} {r:zb} (h:zf c r=true) (m:zo):Kp c r (LS c r m).1:=by
 have k:=tG h m;unfold LS;rw[h];simp only[aiC,aiv];cases yF c m
 ·exact Kp.refl h
 ·simp only[aiC,aiv];cases (yE c r m).2
  ·exact Kp.refl h
  ·exact k.trans (Py k.1)
theorem WX {c:za} {r:zb} {m:zo} (hr:zf c r=true) (hm:yF c m=true):gt (c,r,m,())=some ((yE c r m).1,(yE c r m).2,()):=by
 have hw:=Kl hr;have hmw:=dA hm;have w1:zB m.2.2.1<=3847:=by simp only[zh] at hmw; omega
 have w2:zj m.2.2.2.1<=3847:=by simp only[zh] at hmw; omega
 have w3:zi m.2.2.2.2.1<=3847:=by simp only[zh] at hmw; omega
 unfold gt yE;dsimp only;rw[Bu c r m.2.2.1 (by omega),Wl c r m.2.2.2.1 (by omega) (by omega),Wn c r m.2.1 m.2.2.2.2.1 m.2.2.2.2.2.1 (by omega) (by omega),Wm c r m.2.2.2.2.2.2 (by omega)];cases (m.1==1)<;>cases (m.1==2)<;>cases (m.1==3)<;>rfl
theorem Bv (c:za) (r:zb) (m:zo) (hr:ze r<=137438953472) (hm:zh m<=137438953472):Kq (c,r,m,())=some ((LS c r m).1,(LS c r m).2,()):=by
 unfold Kq LS;dsimp only;rw[Z0 c r hr,aiu,Zp r hr,NZ c m hm,aiu,aiu];cases XX:zf c r
 ·rfl
 cases hmo:yF c m
 ·rfl
 simp only[aiC,aiv];rw[WX XX hmo,aiu];dsimp only;cases (yE c r m).2
 ·rfl
 have k:=(tG XX m).1;obtain⟨h1,h2,h3,h4,h5,h6,h7,h8,h9,h10⟩:=JM k;have hw:=Kl k;have hkt:=Qn k (B4 h7 ((yE c r m).1.2.1 - 1));have hw2:=Kl hkt.1;have hsw:=W5 c (yV (yE c r m).1 (YR (yE c r m).1.2.2.2.2.2.1 ((yE c r m).1.2.1 - 1)));have ht:=B6 h7;simp only[gY,zl] at hsw;have hpl:(yE c r m).1.2.2.2.2.1.length<=260000:=by simp only[ze,Jm] at hw; omega
 simp only[aiC,aiv];rw[zg (n:=(yE c r m).1.2.1 - 1) (by omega) (by omega),WM _ _ (by omega),aiu];dsimp only;have es:aR (c,yV (yE c r m).1 (YR (yE c r m).1.2.2.2.2.2.1 ((yE c r m).1.2.1 - 1)),())=some (state c (yV (yE c r m).1 (YR (yE c r m).1.2.2.2.2.2.1 ((yE c r m).1.2.1 - 1))),()):=WJ c _ (by omega);have ep:aJ ((yE c r m).1.2.2.2.2.1,state c (yV (yE c r m).1 (YR (yE c r m).1.2.2.2.2.2.1 ((yE c r m).1.2.1 - 1))),())=some (Ny (yE c r m).1.2.2.2.2.1 (state c (yV (yE c r m).1 (YR (yE c r m).1.2.2.2.2.2.1 ((yE c r m).1.2.1 - 1)))),()):=Ww _ _ (by omega) (by omega) (by omega);unfold yV at es ep;rw[es,aiu,ep,aiu];rfl
theorem mw {c:za} {i:Int} (h:zw c=true) (h0:0<=i) (h1:i<c.1):zf c (Y6 i)=true:=by
 unfold zf Y6;simp only[h,AU h,jB,jn,yC,yw,aiz,List.all_nil,Bool.and_true,aiS,aix,aiI];omega
theorem sV {α:Type} (p:Nat->α->Bool):∀ (l:List α) (k:Nat),jW p k l=true↔∀ i (h:i<l.length),p (k+i) l[i]=true
 | [],k=>by simp[jW]
 | x::l,k=>by
  unfold jW;simp only[aix,sV p l (k+1)];constructor
  ·rintro⟨a,b⟩ i h;cases i with
   | zero=>exact a
   | succ i=>have:=b i (by simpa using h); simp only[List.getElem_cons_succ]; rw[show k+(i+1)=k+1+i by omega]; exact this
  ·intro hh;refine⟨hh 0 (by simp),λ i h => ?_⟩;have:=hh (i+1) (by simpa using h);simp only[List.getElem_cons_succ] at this;rw[show k+1+i=k+(i+1) by omega]; exact this
theorem Sz {c:za} {i:Int} (h:zw c=true) (h0:0<=i) (h1:i<c.1):JL c i=(Y6 i,true):=by
 unfold JL;rw[mw h h0 h1]; rfl
structure WI (w:zz):Prop where
 conf:zw w.1=true
 liars:w.2.1.length<=7/\∀ x∈w.2.1,0<=x/\x<w.1.1
 len:(w.2.2.1.length:Int)=w.1.1
 reps:∀ i (h:i<w.2.2.1.length),zf w.1 w.2.2.1[i]=true/\(w.2.2.1[i]).1=(i:Int)
 net:w.2.2.2.1.length<=60/\∀ x∈w.2.2.2.1,(0<=x.1/\x.1<w.1.1)/\x.2.length<=1000000
 said:w.2.2.2.2.length<=300/\∀ s∈w.2.2.2.2,(zF s.2.1=true/\zn s.2.1=s.1)/\(0<=s.2.2/\s.2.2<w.1.1)
theorem dC {c:za} (h:zw c=true):Kb c=(List.range c.1.toNat).map (λ (i:Nat)=>Y6 (i:Int)):=by
 have hb:=yj h;unfold Kb;rw[if_pos h];refine List.map_congr_left λ i hi => ?_;have:=List.mem_range.1 hi;rw[Sz h (by omega) (by omega)]
theorem RZ {c:za} {liars:yQ} (h:zw c=true) (hl:liars.length<=7) (hm:∀ x∈liars,0<=x/\x<c.1):WI (yY c liars):=by
 have hb:=yj h;refine⟨h,⟨hl,hm⟩,?_,?_,⟨by simp[yY],by simp[yY]⟩,⟨by simp[yY],by simp[yY]⟩⟩
 ·simp only[yY,dC h,ajl,ak2]; omega
 ·intro i hi;simp only[yY,dC h,ajl,ak2] at hi;simp only[yY,dC h,List.getElem_map,List.getElem_range];exact⟨mw h (by omega) (by omega),rfl⟩
theorem WI.setRep {c:za} {l:yQ} {reps:Yo} {rest:jp×yR} (h:WI (c,l,reps,rest)) {i:Nat} (hi:i<reps.length) {r:zb} (k:Kp c reps[i] r):WI (c,l,reps.set i r,rest):=by
 obtain⟨h1,h2,h3,h4,h5,h6⟩:=h;refine⟨h1,h2,?_,?_,h5,h6⟩
 ·dsimp only at h3 ⊢;rw[aka]; exact h3
 ·intro j hj;dsimp only at hj h4 ⊢;rw[aka] at hj;rw[List.getElem_set];by_cases e:i=j
  ·subst e;rw[if_pos rfl];exact⟨k.1,k.2.trans (h4 i hi).2⟩
  ·rw[if_neg e];exact h4 j hj
def Step (w:zz) (o o':Option (zz×Int×Unit)):Prop:=
 (∃ w',o=some (w',0,())/\WI w'/\has o'=false)∨(∃ n:Int,n≠0/\o=some (w,n,())/\o'=some (w,n,()))
theorem Step.same {w:zz} {n:Int} (hn:n≠0):Step w (some (w,n,())) (some (w,n,())):=.inr ⟨n,hn,rfl,rfl⟩
theorem Step.next {w w':zz} {o':Option (zz×Int×Unit)} (h:WI w') (ho:has o'=false):Step w (some (w',0,())) o':=.inl ⟨w',rfl,h,ho⟩
theorem Step.wrap {w:zz} {o o':Option (zz×Int×Unit)} (h:Step w o o'):Step w (o.bind λ r=>some (r.1,r.2.1,())) (o'.bind λ r=>some (r.1,r.2.1,())):=by
 rcases h with⟨w',rfl,h,k⟩|⟨n,hn,rfl,rfl⟩
 ·refine .inl ⟨w',rfl,h,?_⟩;cases o' with
  | none=>rfl
  | some r=>exact k
 ·exact .inr ⟨n,hn,rfl,rfl⟩
theorem WI.rep {c:za} {l:yQ} {reps:Yo} {rest:jp×yR} (h:WI (c,l,reps,rest)) {i:Int} (h0:0<=i) (h1:i<(reps.length:Int)):∃ r,reps[i.toNat]?=some r/\zf c r=true/\ze r<=260000/\∀ r',Kp c r r'->WI (c,l,reps.set i.toNat r',rest):=by
 have hi:i.toNat<reps.length:=by omega
 have k:=(h.reps i.toNat hi).1;exact⟨reps[i.toNat],List.getElem?_eq_getElem hi,k,Kl k,λ r' kk=>h.setRep hi kk⟩
theorem lL {c:za} {r:zb} (h:zf c r=true):Kp c r (r.1,r.2.1,r.2.1,r.2.2.2):=by
 refine⟨?_,rfl⟩;unfold zf at h ⊢;simp only[aix,aiI] at h ⊢;exact⟨h.1,h.2.1,h.2.2.1,⟨by have:=h.2.2.1; omega,by have:=h.2.2.1; omega⟩,h.2.2.2.2⟩
theorem PS {w:zz} (h:WI w) (i:Int) (h0:0<=i) (h1:i<(w.2.2.1.length:Int)):Step w (gy (w,i,())) (gz (w,i,())):=by
 obtain⟨c,l,reps,rest⟩:=w;obtain⟨r,hr,XX,hw,aas⟩:=h.rep h0 h1;have ha:=G0 c r;have kt:=(lL XX).trans (Pz (lL XX).1 (1,0,(ask c r).1,(0,[],[]),(0,[],[]),0,0,0,0,0));have hw2:=Kl kt.1;have hw1:=Kl (lL XX).1;have kb:=kt.trans (tF kt.1 (ask c r).1);dsimp only at h1;unfold gy gz;simp only[h0,h1,aiL,if_true,zq (e:=Jo) hr,Bt c r (by omega),aiu];cases (ask c r).2
 ·exact Step.same (show (_:Int)≠0 from by first|exact (by decide:(3:Int)≠0)|exact (by decide:(4:Int)≠0))
 have e1:=WN c (r.1,r.2.1,r.2.1,r.2.2.2) (1,0,(ask c r).1,(0,[],[]),(0,[],[]),0,0,0,0,0) (by omega) (by simp only[zh,zj,zi,zl,aiz]; omega)
 have e2:=Bu c (Ly c (r.1,r.2.1,r.2.1,r.2.2.2) (1,0,(ask c r).1,(0,[],[]),(0,[],[]),0,0,0,0,0)).1 (ask c r).1 (by omega);simp only[aiC,aiv,Zp r (by omega),aiu,e1,e2];cases (Ly c (r.1,r.2.1,r.2.1,r.2.2.2) (1,0,(ask c r).1,(0,[],[]),(0,[],[]),0,0,0,0,0)).2
 ·exact Step.same (show (_:Int)≠0 from by first|exact (by decide:(3:Int)≠0)|exact (by decide:(4:Int)≠0))
 cases (LR c (Ly c (r.1,r.2.1,r.2.1,r.2.2.2) (1,0,(ask c r).1,(0,[],[]),(0,[],[]),0,0,0,0,0)).1 (ask c r).1).2
 ·exact Step.same (show (_:Int)≠0 from by first|exact (by decide:(3:Int)≠0)|exact (by decide:(4:Int)≠0))
 exact Step.next (aas _ kb) rfl
end G448
namespace G448
open Ev
def co (l:yR) (v:Jt):Bool:=l.any (λ x=>x.1==v.1 && (x.2.1==v.2.1 && x.2.2==v.2.2))
def J5 (acc:yR) (x:Jt):yR:=bif decide ((acc.length:Int)<300) && !co acc x then acc++[x] else acc
def dm (id:Int) (acc:yR) (p:JX):yR:=(YI id p.2).foldl J5 acc
def learn (w:zz) (id:Int) (sent:jT):zz:=
 bif (ZP w).any (· == id) then (w.1,w.2.1,w.2.2.1,w.2.2.2.1,sent.foldl (dm id) w.2.2.2.2) else w
theorem t8 (acc:yR) (x:Jt) (h:acc.length<=137438953472):(J5 acc x).length<=137438953472:=by
 unfold J5;by_cases hc:(acc.length:Int)<300
 ·cases co acc x<;>simp[hc]<;>omega
 ·simp[hc]; omega
theorem Rq (id:Int) (p:JX) (acc:yR) (h:acc.length<=137438953472):(dm id acc p).length<=137438953472:=
 Ov (YI id p.2) J5 (λ _ s=>s.length<=137438953472) (λ _ s x _ _ hs=>t8 s x hs) h
theorem Wp (w:zz) (id:Int) (sent:jT) (hw:Z4 w<=137438953472) (hs:yn sent<=137438953472):fI (w,id,sent,())=some (learn w id sent,()):=by
 have h1:w.2.1.length<=137438953472:=by simp only[Z4,zl] at hw; omega
 have h2:w.2.2.1.length<=137438953472:=by simp only[Z4,MH] at hw; omega
 have h3:w.2.2.2.2.length<=137438953472:=by simp only[Z4,LA] at hw; omega
 have h4:=OG w;have hl:sent.length<=137438953472:=by simp only[yn] at hs; omega
 unfold fI learn;simp only[WZ w hw,Bw w h1 h2,Yg (ZP w) id (by omega),aiu];cases (ZP w).any (· == id)
 ·rfl
 simp only[aiC,aiv,aiw];refine (M8 (λ i (s:yR)=>(i,(w.1,w.2.1,w.2.2.1,w.2.2.2.1,s),())) sent (dm id) (λ s=>some ((w.1,w.2.1,w.2.2.1,w.2.2.2.1,s),())) (by omega) (λ _ s=>s.length<=137438953472) ?_ ?_ h3)
 ·intro rec s hs'; simp
 ·intro rec i s p hx hi hs';refine⟨Rq id p s hs',?_⟩;have hp:zh p.2<=137438953472:=by have:=ZH Z3 (List.mem_of_getElem? hx); simp only[Z3] at this; unfold yn at hs; omega
  have hso:=U9 id p.2;have hsl:(YI id p.2).length<=137438953473:=by simp only[LA] at hso; omega
  simp only[aiG,zt hi,aiB,aiw,if_true,aiL,zq (e:=(.pair .i64 (.pair .i64 (.pair .i64 (.pair (.pair .str (.pair .i64 (.pair .str (.sl 0 .i64)))) (.pair (.pair .i64 (.pair .str (.sl 0 .i64))) (.pair (.pair .i64 (.pair .str (.sl 0 .i64))) (.pair .i64 (.pair .i64 (.pair .i64 (.pair .i64 .i64))))))))))) hx,
   WE id p.2 (MsgW.of (by omega)),aiu,zr (show i<4611686018427387904 by omega)]
  refine M8 (λ j (s:yR)=>(j,(w.1,w.2.1,w.2.2.1,w.2.2.2.1,s),())) (YI id p.2) J5 (λ s=>rec ((i:Int)+1,(w.1,w.2.1,w.2.2.1,w.2.2.2.1,s),())) (by omega) (λ _ s=>s.length<=137438953472) ?_ ?_ hs'
  ·intro rec2 t ht; simp
  ·intro rec2 j t x hy hj ht;refine⟨t8 t x ht,?_⟩;simp only[aiG,zt hj,aiB,aiw,if_true,aiL,zq (e:=(.pair .i64 (.pair .str .i64))) hy,BS t x.1 x.2.1 x.2.2 (by omega),aiu,zr (show j<4611686018427387904 by omega),aiA,aiz];unfold J5 co;by_cases hc:(t.length:Int)<300
   ·simp only[hc,aiB,aiw,aiS];cases t.any (λ y=>y.1==x.1 && (y.2.1==x.2.1 && y.2.2==x.2.2))
    ·simp only[aiV,aiw];rw[if_pos (by omega)]
    ·rfl
   ·simp only[hc,aiD,aiv,ajh]
end G448
namespace G448
open Ev Go
set_option maxRecDepth 100000
theorem Rn {c:za} {l:yQ} {reps:Yo} {rest:jp×yR} {i:Int} {r:zb} (XX:zf c r=true) (hw:ze r<=260000) (aas:∀ r',Kp c r r'->WI (c,l,reps.set i.toNat r',rest)):
  Step (c,l,reps,rest) ((Ln (c,r,())).bind λ r6=>bif !r6.2.1 then some ((c,l,reps,rest),3,()) else some ((c,l,reps.set i.toNat r6.1,rest),0,())) ((Ln (c,r,())).bind λ r6=>bif !r6.2.1 then some ((c,l,reps,rest),3,()) else none):=by
 rw[Bx c r (by omega),aiu,aiu];dsimp only;cases (late c r).2
 ·exact Step.same (show (3:Int)≠0 by decide)
 ·exact Step.next (aas _ (Pw XX)) rfl
theorem Ot {c:za} {l:yQ} {reps:Yo} {rest:jp×yR} {i:Int} {r:zb} (keep:Int) (XX:zf c r=true) (hf:yw (KU r.2.2.2.2.2.2.1 keep)=true) (aas:∀ r',Kp c r r'->WI (c,l,reps.set i.toNat r',rest)):
  WI (c,l,reps.set i.toNat (rise c (r.1,r.2.1,r.2.2.1,r.2.2.2.1,r.2.2.2.2.1,r.2.2.2.2.2.1,KU r.2.2.2.2.2.2.1 keep,r.2.2.2.2.2.2.2)),rest):=by
 refine aas _ ?_;have h:zf c (r.1,r.2.1,r.2.2.1,r.2.2.2.1,r.2.2.2.2.1,r.2.2.2.2.2.1,KU r.2.2.2.2.2.2.1 keep,r.2.2.2.2.2.2.2)=true:=by
  unfold zf at XX ⊢;simp only[aix] at XX ⊢;obtain⟨a1,a2,a3,a4,a5,a6,a7,a8,a9⟩:=XX;exact⟨a1,a2,a3,a4,a5,a6,a7,hf,a9⟩
 exact⟨(tI h).1,(tI h).2⟩
theorem OF {c:za} {l:yQ} {reps:Yo} {rest:jp×yR} {i:Int} {r:zb} {m:zo} (XX:zf c r=true) (hw:ze r<=260000) (hm:zh m<=137438953472) (aas:∀ r',Kp c r r'->WI (c,l,reps.set i.toNat r',rest)):
  Step (c,l,reps,rest) ((Kq (c,r,m,())).bind λ r7=>bif !r7.2.1 then some ((c,l,reps,rest),3,()) else bif m.1 != 4 then some ((c,l,reps,rest),3,()) else some ((c,l,reps.set i.toNat r7.1,rest),0,())) ((Kq (c,r,m,())).bind λ r7=>bif !r7.2.1 then some ((c,l,reps,rest),3,()) else bif m.1 != 4 then some ((c,l,reps,rest),3,()) else none):=by
 rw[Bv c r m (by omega) hm,aiu,aiu];dsimp only;cases (LS c r m).2
 ·exact Step.same (show (3:Int)≠0 by decide)
 cases (m.1 != 4)
 ·exact Step.next (aas _ (tH XX m)) rfl
 ·exact Step.same (show (3:Int)≠0 by decide)
theorem Oq {d:yP} (h:yw d=true) (keep:Int):yw (KU d keep)=true:=by
 have hb:=ss h keep;have h':=KR.1 h;unfold KU;rw[if_pos h];refine KR.2 ?_;dsimp only;rw[aiM];omega
theorem Sg {r:zb} (hw:ze r<=260000) {p:zD} (hp:p∈r.2.2.2.2.2.1):p.2.1.length<=260000:=by
 have h:=ZH zj hp;simp only[ze,zC] at hw;simp only[zj] at h;omega
theorem step_loop {w:zz} {G G':(Int×zz×zz×Unit->Option (zz×Int×Unit))->Int×zz×zz×Unit->Option (zz×Int×Unit)} {z:zz} (n0:Nat)
  (h0:∀ rec rec',Step w (G rec (-1,w,z,())) (G' rec' (-1,w,z,())))
  (hs:∀ rec rec' (j:Nat),j<n0->(Step w (rec ((j:Int) - 1,w,z,())) (rec' ((j:Int) - 1,w,z,())))->Step w (G rec ((j:Int),w,z,())) (G' rec' ((j:Int),w,z,()))):
  ∀ (n m:Nat),m<=n0->m<n->Step w (iter G n ((m:Int) - 1,w,z,())) (iter G' n ((m:Int) - 1,w,z,()))
 | 0,m,_,h=>by omega
 | n+1,0,_,_=>h0 _ _
 | n+1,m+1,hm,h=>by
  have e:(((m+1:Nat):Int) - 1)=(m:Int):=by omega
  rw[e];exact hs _ _ m (by omega) (step_loop n0 h0 hs n m (by omega) (by omega))
theorem P5 {w:zz} (h:WI w) (i:Int) (h0:0<=i) (h1:i<(w.2.2.1.length:Int)):Step w (gJ (w,i,())) (gK (w,i,())):=by
 obtain⟨c,l,reps,rest⟩:=w;obtain⟨r,hr,XX,hw,aas⟩:=h.rep h0 h1;dsimp only at h1;have ht:(r.2.2.2.2.2.1.length:Int)<=260000:=by simp only[ze,zC] at hw; omega
 unfold gJ gK;simp only[h0,h1,aiL,if_true,zq (e:=Jo) hr];rw[zg (n:=(r.2.2.2.2.2.1.length:Int) - 1) (by omega) (by omega)];refine step_loop r.2.2.2.2.2.1.length ?_ ?_ fuel _ (Nat.le_refl _) (by rw[jd]; omega)
 ·intro rec rec';exact Step.same (show (3:Int)≠0 by decide)
 ·intro rec rec' j hj XW;have hx:=List.getElem?_eq_getElem hj;have hj':(j:Int)<(r.2.2.2.2.2.1.length:Int):=by omega
  have hn:=Sg hw (List.getElem_mem hj);simp only[zt,hj',Int.natCast_nonneg,ge_iff_le,aiB,aiw,aiL,if_true,aiG,zq (e:=Yl) hx];cases ((r.2.2.2.2.2.1[j]).2.1==[])
  ·simp only[cond_false,Wf c r _ _ true (show ze r<=15000000 by omega) (show (r.2.2.2.2.2.1[j]).2.1.length<=5000000 by omega),Option.bind_some,h0,h1,and_self,if_true];cases (climb c r (r.2.2.2.2.2.1[j]).1 (r.2.2.2.2.2.1[j]).2.1 true).2
   ·exact Step.same (show (3:Int)≠0 by decide)
   ·exact Step.next (aas _ (lM XX _ _ _)) rfl
  ·simp only[aiw];rw[zg (n:=(j:Int) - 1) (by omega) (by omega)];exact XW
def ML (n:Int) (l:yR):Prop:=l.length<=300/\∀ s∈l,(zF s.2.1=true/\zn s.2.1=s.1)/\(0<=s.2.2/\s.2.2<n)
theorem Rp {n:Int} {acc:yR} {x:Jt} (h:ML n acc) (hx:(zF x.2.1=true/\zn x.2.1=x.1)/\(0<=x.2.2/\x.2.2<n)):ML n (J5 acc x):=by
 unfold J5;cases hc:decide ((acc.length:Int)<300) && !co acc x
 ·exact h
 ·simp only[aix,aiI] at hc;refine⟨by simp only[aiw,aiE,aiA,aiz]; omega,λ s hs => ?_⟩
  simp only[aiw,aiQ,aiP,ajm,or_false] at hs;rcases hs with hs|rfl
  ·exact h.2 s hs
  ·exact hx
theorem Va {id:Int} {m:zo}:∀ s∈YI id m,s.2.2=id:=by
 unfold YI;repeat' split
 all_goals simp
theorem nS {c:za} {q:zJ} (h:yg c q=true):zF q.2.1=true/\zn q.2.1=q.1:=by
 unfold yg at h;simp only[aix,aj6] at h;exact⟨h.2.1,h.2.2.1⟩
theorem Vb {c:za} {m:zo} (hm:yF c m=true) (h4:¬ m.1=4) (h:¬ (YJ m).2.1=[]):zF (YJ m).2.1=true/\zn (YJ m).2.1=(YJ m).1:=by
 unfold yF at hm;unfold YJ at h ⊢;simp only[aix] at hm;have k:=hm.2.2;clear hm;by_cases e2:m.1=2
 ·have e1:(m.1==1)=false:=by rw[e2]; rfl
  have e22:(m.1==2)=true:=by rw[e2]; rfl
  rw[e1,e22] at k;rw[if_pos e2] at h ⊢;simp only[aiw,aiv,aix,yZ,aje,aj6] at k;rcases k.1.2.2.2.2 with e|e
  ·exact absurd e h
  ·exact e
 by_cases e1:m.1=1
 ·have e11:(m.1==1)=true:=by rw[e1]; rfl
  rw[e11] at k;rw[if_neg e2,if_pos e1] at h ⊢;simp only[aiw,jG,aix] at k;exact nS k.1
 rw[if_neg e2,if_neg e1] at h ⊢;have e11:(m.1==1)=false:=by simp[e1]
 have e22:(m.1==2)=false:=by simp[e2]
 have e44:(m.1==4)=false:=by simp[h4]
 rw[e11,e22,e44] at k;cases e33:(m.1==3)
 ·rw[e33] at k; simp at k
 ·rw[e33] at k;simp only[aiw,aiv,aix] at k;exact nS k.2.1
theorem U8 {c:za} {id:Int} {m:zo} (hm:yF c m=true):∀ s∈YI id m,zF s.2.1=true/\zn s.2.1=s.1:=by
 unfold YI;by_cases h4:m.1=4
 ·simp[h4]
 rw[if_neg h4];by_cases h:(YJ m).2.1=[]
 ·simp[h]
 rw[if_neg h];have k:=Vb hm h4 h;split
 ·intro s hs;simp only[aiP,ajm,or_false] at hs;rw[hs]; exact k
 ·simp
theorem t7 {n:Int}:∀ (l:yR) {acc:yR},ML n acc->(∀ x∈l,(zF x.2.1=true/\zn x.2.1=x.1)/\(0<=x.2.2/\x.2.2<n))->ML n (l.foldl J5 acc)
 | [],_,h,_=>h
 | x::l,_,h,hl=>t7 l (Rp h (hl x (by simp))) λ y hy=>hl y (by simp[hy])
theorem ua {c:za} {n:Int} {id:Int} (XV:0<=id/\id<n):∀ (ps:jT) {acc:yR},ML n acc->(∀ p∈ps,yF c p.2=true)->ML n (ps.foldl (dm id) acc)
 | [],_,h,_=>h
 | p::ps,_,h,hp=>by
  refine ua XV ps ?_ λ q hq=>hp q (by simp[hq]);refine t7 _ h λ x hx=>⟨U8 (hp p (by simp)) x hx,?_⟩
  rw[Va x hx]; exact XV
theorem Rr {w:zz} (h:WI w) {id:Int} (XV:0<=id/\id<w.1.1) {ps:jT} (hp:∀ p∈ps,yF w.1 p.2=true):WI (learn w id ps):=by
 unfold learn;cases (ZP w).any (· == id)
 ·exact h
 ·exact⟨h.conf,h.liars,h.len,h.reps,h.net,ua XV ps h.said hp⟩
def Jp (n:Int) (l:jp):Prop:=l.length<=60/\∀ x∈l,(0<=x.1/\x.1<n)/\x.2.length<=1000000
theorem Vl {c:za} (hc:zw c=true) {ws:jp} {p:JX} (h:Jp c.1 ws) (hp:zh p.2<=100000):Jp c.1 (NO c ws p):=by
 have hb:=yj hc;have hl:=RM c p.2;unfold NO;rw[zg (n:=c.1 - 1) (by omega) (by omega)];cases decide (((J9 c p.2).length:Int)>0)
 ·exact h
 cases hr:decide (p.1≥0) && decide (p.1<=c.1 - 1)
 ·exact h
 cases hs:decide ((ws.length:Int)<60)
 ·exact h
 simp only[aix,aiI] at hr hs;refine⟨by simp only[aiw,aiE,aiA,aiz]; omega,λ x hx => ?_⟩
 simp only[aiw,aiQ,aiP,ajm,or_false] at hx;rcases hx with hx|rfl
 ·exact h.2 x hx
 ·exact⟨⟨by omega,by dsimp only; omega⟩,by dsimp only; omega⟩
theorem AY {c:za} (hc:zw c=true):∀ (ps:jT) {ws:jp},Jp c.1 ws->(∀ p∈ps,zh p.2<=100000)->Jp c.1 (au c ws ps)
 | [],_,h,_=>h
 | p::ps,_,h,hp=>AY hc ps (Vl hc h (hp p (by simp))) λ q hq=>hp q (by simp[hq])
theorem AZ {w:zz} (h:WI w) {ps:jT} (hp:∀ p∈ps,zh p.2<=100000):WI (w.1,w.2.1,w.2.2.1,au w.1 w.2.2.2.1 ps,w.2.2.2.2):=
 ⟨h.conf,h.liars,h.len,h.reps,AY h.conf ps h.net hp,h.said⟩
theorem Xa {c:za} {r:zb} (XX:zf c r=true):((∀ p∈(jQ c r).2,zh p.2<=100000)/\∀ p∈(jQ c r).2,yF c p.2=true)/\(jQ c r).2.length<=30/\yn (jQ c r).2<=260000:=by
 obtain⟨h1,h2,h3,h4,h5,h6,h7,h8,h9,h10⟩:=JM XX;have hw:=Kl XX;have hs:=(W9 c r).2;refine⟨?_,?_,by omega⟩
 ·unfold jQ;rw[XX];have key:∀ p∈r.2.2.2.2.2.2.2,yF c p.2=true:=λ p hp=>by
   have hk:=h10 p hp;unfold jV at hk;simp only[aix] at hk;exact hk.1
  exact⟨λ p hp=>by have:=dA (key p hp); omega,key⟩
 ·unfold jQ;rw[XX]; exact h9
theorem WI.w_leS {w:zz} (h:WI w):Z4 w<=500000000:=by
 have hb:=yj h.conf;have key:∀ {α:Type} (f:α->Nat) (N:Nat) (l:List α),(∀ x∈l,f x<=N)->(l.map f).sum<=l.length*N:=by
  intro α f N l;induction l with
  | nil=>intro _; simp
  | cons x l ih=>
   intro hx;have a:=hx x (by simp);have b:=ih λ y hy=>hx y (by simp[hy]);simp only[aiO,ajb,aiA,aj2];omega
 have hl:=h.len;have r1:=key ze 260000 w.2.2.1 λ x hx=>by
  obtain⟨i,hi,rfl⟩:=List.getElem_of_mem hx;exact Kl (h.reps i hi).1
 have r2:=key MI 1000000 w.2.2.2.1 λ x hx=>(h.net.2 x hx).2;have r3:=key qB 1000000 w.2.2.2.2 λ x hx=>by have:=j3 (h.said.2 x hx).1.1; simp only[qB]; omega
 have e1:w.2.2.1.length*260000<=7*260000:=Nat.mul_le_mul_right _ (by omega);have e2:w.2.2.2.1.length*1000000<=60*1000000:=Nat.mul_le_mul_right _ h.net.1;have e3:w.2.2.2.2.length*1000000<=300*1000000:=Nat.mul_le_mul_right _ h.said.1;have:=h.liars.1; have:=h.net.1; have:=h.said.1
 simp only[Z4,zl,MH,qC,LA];omega
theorem WI.w_le {w:zz} (h:WI w):Z4 w<=137438953472:=Nat.le_trans h.w_leS (by decide)
theorem P6 {w:zz} (h:WI w) (i:Int) (h0:0<=i) (h1:i<(w.2.2.1.length:Int)):Step w (gL (w,i,())) (gM (w,i,())):=by
 obtain⟨c,l,reps,net,said⟩:=w;obtain⟨r,hr,XX,hw,aas⟩:=h.rep h0 h1;obtain⟨p1,p2,p3⟩:=Xa XX;have hn:=h.net.1;have hd:=h.said.1;have X0:=h.len;dsimp only at h1 hn hd X0;have hW:=aas _ (Px XX);have hL:=Rr hW (id:=i) (by dsimp only; omega) (ps:=(jQ c r).2) p1.2
 have hS:=AZ hL (ps:=(jQ c r).2) p1.1;unfold gL gM;simp only[h0,h1,aiL,if_true,zq (e:=Jo) hr,WK c r (by omega),aiu];cases decide (wr ((net.length:Int)+((jQ c r).2.length:Int))>60);case true=>exact Step.same (show (4:Int)≠0 by decide)
 cases decide (wr ((said.length:Int)+((jQ c r).2.length:Int))>300);case true=>exact Step.same (show (4:Int)≠0 by decide)
 simp only[aiv,h0,h1,aiL,if_true];rw[Wp _ i _ hW.w_le (by omega),aiu];dsimp only;rw[BT _ _ (by omega),aiu];exact Step.next hS rfl
theorem P3 {w:zz} (h:WI w) (d:YS) (h0:0<=d.2.1) (h1:d.2.1<(w.2.2.1.length:Int)) (hm:zh d.2.2.2<=137438953472):Step w (gG (w,d,())) (gH (w,d,())):=by
 have hA:=PS h d.2.1 h0 h1;have hB:=P6 h d.2.1 h0 h1;have hC:=P5 h d.2.1 h0 h1;obtain⟨c,l,reps,rest⟩:=w;obtain⟨r,hr,XX,hw,aas⟩:=h.rep h0 h1;have af6:=(JM XX).2.2.2.2.2.2.2.1;have hf:=Oq af6 d.2.2.1;have hW:=Ot (i:=d.2.1) d.2.2.1 XX hf aas;dsimp only at h1;unfold gG gH;simp only[h0,h1,aiL,if_true,zq (e:=Jo) hr];cases d.1==1;case true=>exact hA.wrap
 cases d.1==2;case true=>exact hB.wrap
 cases d.1==6;case true=>exact hC.wrap
 simp only[aiv];cases d.1==8;case true=>
  have hd:=KR.1 af6;have hd2:=KR.1 hf;have hwr:ze (r.1,r.2.1,r.2.2.1,r.2.2.2.1,r.2.2.2.2.1,r.2.2.2.2.2.1,KU r.2.2.2.2.2.2.1 d.2.2.1,r.2.2.2.2.2.2.2)<=1073741824:=by
   simp only[ze,JR] at hw ⊢;omega
  simp only[aiw,Zp r (by omega),Wi _ _ (show r.2.2.2.2.2.2.1.1.length<=17592186044416 by omega),aiu,WA c _ hwr];exact Step.next hW rfl
 simp only[aiv];cases d.1==7;case true=>exact Rn XX hw aas
 exact OF XX hw hm aas
theorem PY {w:zz} (h:WI w) (d:YS) (hm:zh d.2.2.2<=137438953472):Step w (gD (w,d,())) (gE (w,d,())):=by
 have hl:=h.liars.1;have hs:=h.said.1;unfold gD gE;simp only[Yh,aiu,Wr w.1 w.2.1 w.2.2.2.2 d.2.2.2 (show zh d.2.2.2<=137438953472 by omega) (by omega) (by omega)];cases (decide (d.2.1≥0) && decide (d.2.1<=wr (w.1.1 - 1)))
 ·exact Step.same (show (2:Int)≠0 by decide)
 cases hml:dx w.1 w.2.1 w.2.2.2.2 d.2.2.2
 ·exact Step.same (show (5:Int)≠0 by decide)
 have hk:zh d.2.2.2<=3847:=by
  unfold dx at hml;simp only[aix] at hml;exact dA hml.1
 have hS:=AZ h (ps:=[(d.2.1,d.2.2.2)]) λ p hp=>by
  simp only[aiP,ajm,or_false] at hp;rw[hp]; dsimp only; omega
 cases decide ((w.2.2.2.1.length:Int)≥60);case true=>exact Step.same (show (4:Int)≠0 by decide)
 simp only[aiC,aiv];rw[BT w _ (show yn [(d.2.1,d.2.2.2)]<=1073741824 by simp only[yn,Z3,aiO,ajc,ajb,List.sum_nil,aiA,aiz]; omega),Option.bind_some]
 exact Step.next hS rfl
theorem IV {n:Int} {net:jp} (h:Jp n net) (i:Nat) (hi:i<net.length):Jp n ([]++(net.drop 0).take i++(net.drop (i+1)).take (net.length - (i+1))):=by
 refine⟨?_,λ x hx => ?_⟩
 ·have:=h.1;simp only[aiU,aiW,aiE,aiM,aiR];omega
 ·simp only[aiU,aiW,aiQ] at hx;rcases hx with hx|hx
  ·exact h.2 x (List.mem_of_mem_take hx)
  ·exact h.2 x (List.mem_of_mem_drop (List.mem_of_mem_take hx))
theorem I2 {n:Int} {net:jp} (h:Jp n net) (hl:net.length<60) {x:bR} (hx:x∈net):Jp n (net++[(x.1,[]++x.2)]):=by
 refine⟨by simp only[aiE,aiA,aiz]; omega,λ y hy => ?_⟩
 simp only[aiQ,aiP,ajm,or_false] at hy;rcases hy with hy|rfl
 ·exact h.2 y hy
 ·exact h.2 x hx
theorem WI.withNet {c:za} {l:yQ} {reps:Yo} {net net':jp} {said:yR} (h:WI (c,l,reps,net,said)) (hn:Jp c.1 net'):WI (c,l,reps,net',said):=
 ⟨h.conf,h.liars,h.len,h.reps,hn,h.said⟩
theorem OH {w:zz} (hl:(w.2.2.1.length:Int)=w.1.1) {x:Int} (hx:(ZP w).any (· == x)=true):0<=x/\x<(w.2.2.1.length:Int):=by
 unfold ZP at hx;simp at hx;omega
theorem PZ {w:zz} (h:WI w) (d:YS):Step w (qn (w,d,())) (qo (w,d,())):=by
 obtain⟨c,l,reps,net,said⟩:=w;have hn:=h.net;have X0:=h.len;have hl:=h.liars.1;have hb:=yj h.conf;dsimp only at hn X0 hl hb;unfold qn qo;dsimp only;rw[zg (n:=(net.length:Int) - 1) (by omega) (by omega),Yh];simp only[aiu];cases hin:decide (d.2.1≥0) && decide (d.2.1<=(net.length:Int) - 1)
 ·exact Step.same (show (2:Int)≠0 by decide)
 simp only[aix,aiI] at hin;have h0:0<=d.2.1:=hin.1;have h1:d.2.1<(net.length:Int):=by omega
 have hi:d.2.1.toNat<net.length:=by omega
 have hx:=List.getElem?_eq_getElem hi;have acJ:=List.getElem_mem hi;generalize net[d.2.1.toNat]=x at hx acJ;have hxb:=hn.2 x acJ;have h2:d.2.1<=(net.length:Int):=by omega
 simp only[aiC,aiv,h0,h1,aiL,if_true,zq (e:=pZ) hx];cases d.1==5;case true=>
  simp only[aiw];cases h60:decide ((net.length:Int)≥60);case true=>exact Step.same (show (4:Int)≠0 by decide)
  simp only[ajJ] at h60;have e1:(0+x.2.length)*1<=70368744177664:=by omega
  have e2:(net.length+List.length [(x.1,[]++x.2)])*32<=70368744177664:=by simp only[aiA,aiz]; omega
  simp only[aiv,e1,e2,if_true];exact Step.next (h.withNet (I2 hn (by omega) acJ)) rfl
 have af2:=IV hn d.2.1.toNat hi;have hw1:wr (d.2.1+1)=d.2.1+1:=zg (by omega) (by omega);have et:(d.2.1+1).toNat=d.2.1.toNat+1:=by omega
 have e3:0<=d.2.1+1/\d.2.1+1<=(net.length:Int)/\(net.length:Int)<=(net.length:Int):=⟨by omega,by omega,Int.le_refl _⟩
 have e4:(0+List.length (List.take (d.2.1.toNat - Int.toNat 0) (List.drop (Int.toNat 0) net)))*32<=70368744177664:=by
  have:=List.length_take_le (d.2.1.toNat - Int.toNat 0) (List.drop (Int.toNat 0) net); omega
 have e5:(List.length ([]++List.take (d.2.1.toNat - Int.toNat 0) (List.drop (Int.toNat 0) net))+List.length (List.take (Int.toNat (net.length:Int) - (d.2.1.toNat+1)) (List.drop (d.2.1.toNat+1) net)))*32<=70368744177664:=by
  have a1:=List.length_take_le (d.2.1.toNat - Int.toNat 0) (List.drop (Int.toNat 0) net);have a2:=List.length_take_le (Int.toNat (net.length:Int) - (d.2.1.toNat+1)) (List.drop (d.2.1.toNat+1) net);simp only[aiU];omega
 simp only[aiv,hw1,et,e4,e5,h0,h2,e3,ajS,aiL,if_true,true_and];have af3:Jp c.1 ([]++List.take (d.2.1.toNat - Int.toNat 0) (List.drop (Int.toNat 0) net)++List.take (Int.toNat (net.length:Int) - (d.2.1.toNat+1)) (List.drop (d.2.1.toNat+1) net)):=af2;clear af2;generalize []++List.take (d.2.1.toNat - Int.toNat 0) (List.drop (Int.toNat 0) net)++List.take (Int.toNat (net.length:Int) - (d.2.1.toNat+1)) (List.drop (d.2.1.toNat+1) net)=net' at af3;have hW:=h.withNet af3;cases d.1==3
 ·exact Step.next hW rfl
 rw[Yg l x.1 (by omega),aiu,aiu];dsimp only;cases l.any (· == x.1);case true=>exact Step.next hW rfl
 have x0:0<=x.1:=hxb.1.1;have x1:x.1<(reps.length:Int):=by omega
 obtain⟨r,hr,XX,hw,aas⟩:=hW.rep x0 x1;have hm:=RN c x.2 (by omega);simp only[aiw,aiV,BA c x.2 (by omega),aiu,x0,x1,aiL,if_true,zq (e:=Jo) hr,Bv c r (JF c x.2).1 (by omega) (show zh (JF c x.2).1<=137438953472 by omega)];cases (LS c r (JF c x.2).1).2
 ·exact Step.next hW rfl
 ·exact Step.next (aas _ (tH XX _)) rfl
theorem P0 {w:zz} (h:WI w) (d:YS) (hm:zh d.2.2.2<=137438953472):Step w (gF (w,d,())) (bn (w,d,())):=by
 have hN:=PZ h d;have hL:=PY h d hm;have hl:=h.liars.1;have X0:=h.len;have hb:=yj h.conf;have hhl:(ZP w).length<=w.2.2.1.length:=by
  unfold ZP;rw[ajl];have:=List.length_filter_le (λ (i:Nat) => !(w.2.1.any (· == (i:Int)))) (List.range w.2.2.1.length);rw[ak2] at this;exact this
 unfold gF bn;dsimp only;cases d.1==3;case true=>exact hN.wrap
 cases d.1==4;case true=>exact hN.wrap
 cases d.1==5;case true=>exact hN.wrap
 cases d.1==10;case true=>exact hL.wrap
 simp only[aiv];rw[Bw w (by omega) (by omega),aiu,aiu];dsimp only;rw[Yg (ZP w) d.2.1 (by omega),aiu,aiu];dsimp only;cases hh:(ZP w).any (· == d.2.1)
 ·exact Step.same (show (2:Int)≠0 by decide)
 have hr:=OH X0 hh;exact (P3 h d hr.1 hr.2 hm).wrap
theorem P4 {w:zz} (h:WI w) (d:YS) (hm:zh d.2.2.2<=137438953472):Ens (gI (w,d,())) λ r=>WI r.1:=by
 unfold gI;dsimp only;rcases P0 h d hm with⟨w',e,k,e'⟩|⟨n,hn,e,e'⟩
 ·rw[e',e];exact Ens.some k
 ·rw[e',e];have:(n != 0)=true:=by simp[hn]
  simp only[has,KX,aiu,this,aiw];exact Ens.some h
theorem R0 {c:za} {liars:yQ} (h:zw c=true) (hl:jM c.1 liars=true) (hf:(liars.length:Int)<=Jv c):qD (yY c liars)=true:=by
 have hb:=yj h;unfold qD yY;simp only[h,hl,hf,dC h,ajl,ak2,aiz,jW,aix,aiI,aj6,and_true,true_and];refine⟨by omega,by omega,by omega,(sV _ _ 0).2 λ i hi => ?_⟩;simp only[ajl,ak2] at hi;simp only[List.getElem_map,List.getElem_range,Q0,aix,aj6];refine⟨mw h (by omega) (by omega),?_⟩;simp only[Y6,ajp]
theorem BX {c:za} {liars:yQ} (h:zw c=true) (hl:jM c.1 liars=true) (hf:(liars.length:Int)<=Jv c):(KC c liars).1=yY c liars/\WI (yY c liars):=by
 have hb:=yj h;refine⟨?_,RZ h ?_ (Vs hl)⟩
 ·unfold KC;rw[R0 h hl hf]; rfl
 ·have:Jv c<=7:=by
   unfold Jv;rw[if_pos h]; omega
  omega
theorem PW (c:zO) (hc:z7 c):Ens (gC (c,())) λ r=>0<=r.1.2.1/\WI r.2.1:=by
 unfold gC;refine (jI c _ hc (by simp)).bind λ r0 h0 => ?_;refine (zG (c.1,r0.1.2) 3 ⟨hc.1,h0.1⟩).bind λ r1 h1 => ?_;refine (Y3 (c.1,r1.1.2) 3 ⟨hc.1,h1.1⟩).bind λ r2 h2 => ?_;have a1:=h1.2.2 (by decide);have hN:4<=r0.2.1/\r0.2.1<=7:=by
  have:=h0.2;simp only[aiP,ajm,or_false] at this;omega
 rw[zg (n:=1+r1.2.1) (by omega) (by omega)];have ae9:zw (r0.2.1,1+r1.2.1)=true:=by
  unfold zw;simp only[aix,aiI];omega
 have hfa:(1:Int)<=Jv (r0.2.1,1+r1.2.1):=by
  unfold Jv;rw[if_pos ae9];dsimp only; omega
 refine Ens.cond (λ _ => ?_) λ _ => ?_
 ·refine (zG (c.1,r2.1.2) r0.2.1 ⟨hc.1,h2⟩).bind λ r3 h3 => ?_;have a3:=h3.2.2 (by omega);have hs:jM (r0.2.1,1+r1.2.1).1 [r3.2.1]=true:=by
   unfold jM;simp only[YL,Bool.and_true,aix,aj1,ajJ];omega
  have k:=BX ae9 hs (by simpa using hfa);rw[BL _ _ (by simp),aiu,k.1];exact Ens.some ⟨h3.1,k.2⟩
 ·have k:=BX (liars:=[]) ae9 rfl (by simp only[aiz]; omega)
  rw[BL _ _ (by simp),aiu,k.1];exact Ens.some ⟨h2,k.2⟩
def kr (r:zO×zo×Unit):Prop:=0<=r.1.2.1/\zh r.2.1<=4000/\(0<=r.2.1.2.2.2.1.1/\r.2.1.2.2.2.1.1<=60)/\zF r.2.1.2.2.2.1.2.1=true/\r.2.1.2.2.2.1.2.2.length<=400
theorem pO (cur:zO) (liars:yQ) (said:yR) (view:Int) (name:List UInt8) (hc:0<=cur.2.1) (hl:liars.length<=7) (hs:said.length<=300) (hv:0<=view/\view<=60) (hn:zF name=true):
  Ens (iter (λ rec7 (x7:List Int×Int×Unit)=>bif decide (x7.2.1<(said.length:Int)) then if 0<=x7.2.1/\x7.2.1<(said.length:Int) then bif (rd MJ said x7.2.1.toNat).1==view then if 0<=x7.2.1/\x7.2.1<(said.length:Int) then bif (rd MJ said x7.2.1.toNat).2.1==name then if 0<=x7.2.1/\x7.2.1<(said.length:Int) then (Z1 (x7.1,(rd MJ said x7.2.1.toNat).2.2,())).bind λ r8=>rec7 (r8.1,wr (x7.2.1+1),()) else none else rec7 (x7.1,wr (x7.2.1+1),()) else none else rec7 (x7.1,wr (x7.2.1+1),()) else none else some ((cur,((2,0,([],0,[],[]),(view,name,x7.1),(0,[],[]),0,0,0,0,0):zo),()):zO×zo×Unit)) fuel ([]++liars,0,())) kr:=by
 refine Ens.loop (λ x=>(0<=x.2.1/\x.2.1<=(said.length:Int))/\(x.1.length:Int)<=7+x.2.1) (λ x=>((said.length:Int) - x.2.1).toNat) ?_ ⟨by simp,by simp; omega⟩ (by dsimp only; rw[jd]; omega)
 intro rec x hx XW;obtain⟨x1,x2⟩:=hx;refine Ens.cond (λ h => ?_) λ h => ?_
 ·have h:x.2.1<(said.length:Int):=by simpa using h
  have e1:wr (x.2.1+1)=x.2.1+1:=zg (by omega) (by omega);rw[e1];have hno:Ens (rec (x.1,x.2.1+1,())) kr:=XW _ ⟨⟨by dsimp only; omega,by dsimp only; omega⟩,by dsimp only; omega⟩ (by dsimp only; omega)
  refine Ens.ite ⟨x1.1,h⟩ (Ens.cond (λ _ => ?_) λ _=>hno);refine Ens.ite ⟨x1.1,h⟩ (Ens.cond (λ _ => ?_) λ _=>hno);refine Ens.ite ⟨x1.1,h⟩ ?_;have hl:=aw x.1 (rd MJ said x.2.1.toNat).2.2;rw[aP x.1 _ (by omega),aiu];exact XW _ ⟨⟨by dsimp only; omega,by dsimp only; omega⟩,by dsimp only; omega⟩ (by dsimp only; omega)
 ·have hnl:=j3 hn;refine Ens.some ⟨hc,?_,hv,hn,by dsimp only; omega⟩
  simp only[zh,zB,zi,zj,zl,aiz];omega
theorem PX (c:zO) {w:zz} (hc:z7 c) (h:WI w):Ens (bm (c,w,())) kr:=by
 have hl:=h.liars.1;have hs:=h.said.1;unfold bm;dsimp only;refine (zG c 4 hc).bind λ r0 h0 => ?_;have a0:=h0.2.2 (by decide);rw[zg (n:=1+r0.2.1) (by omega) (by omega),aH [] _ [] (by simp) (by omega) (by simp),Option.bind_some];refine Ens.ite (by omega) (Ens.cond (λ hp => ?_) λ _=>pO (c.1,r0.1.2) w.2.1 w.2.2.2.2 _ _ h0.1 hl hs (by omega) (mv _ _ _));have hp:(w.2.2.2.2.length:Int)>0:=by simpa using hp
 have ad6:yd ((w.2.2.2.2.length:Int),8,())=some (if (w.2.2.2.2.length:Int)<8 then (w.2.2.2.2.length:Int) else 8,()):=by
  unfold yd;by_cases e:(w.2.2.2.2.length:Int)<8<;>simp[e]
 rw[ad6,aiu];have hmb:0<(if (w.2.2.2.2.length:Int)<8 then (w.2.2.2.2.length:Int) else 8)/\(if (w.2.2.2.2.length:Int)<8 then (w.2.2.2.2.length:Int) else 8)<=(w.2.2.2.2.length:Int):=by
  split<;>omega
 generalize (if (w.2.2.2.2.length:Int)<8 then (w.2.2.2.2.length:Int) else 8)=n at hmb;refine (zG (c.1,r0.1.2) n ⟨hc.1,h0.1⟩).bind λ r3 h3 => ?_;have a3:=h3.2.2 hmb.1;have e1:wr ((w.2.2.2.2.length:Int) - 1)=(w.2.2.2.2.length:Int) - 1:=zg (by omega) (by omega);have e2:wr ((w.2.2.2.2.length:Int) - 1 - r3.2.1)=(w.2.2.2.2.length:Int) - 1 - r3.2.1:=zg (by omega) (by omega);rw[e1,e2];refine Ens.ite (by omega) ?_;have hi:((w.2.2.2.2.length:Int) - 1 - r3.2.1).toNat<w.2.2.2.2.length:=by omega
 have hx:=List.getElem?_eq_getElem hi;have acJ:=List.getElem_mem hi;generalize w.2.2.2.2[((w.2.2.2.2.length:Int) - 1 - r3.2.1).toNat]=x at hx acJ;have hxb:=(h.said.2 x acJ).1;have hvb:=qA hxb.1;have hxl:=j3 hxb.1;rw[hxb.2] at hvb;rw[zq (e:=MJ) hx];refine (Y3 (c.1,r3.1.2) 3 ⟨hc.1,h3.1⟩).bind λ r4 h4 => ?_;refine Ens.cond (λ _ => ?_) λ _=>pO (c.1,r4.1.2) w.2.1 w.2.2.2.2 _ _ h4 hl hs hvb hxb.1;have hu:=bB x.2.1;rw[aX x.2.1 (by omega),aiu,aH (Z2 x.2.1) x.1 _ (by omega) (by omega) (by simp),aiu];exact pO (c.1,r4.1.2) w.2.1 w.2.2.2.2 _ _ h4 hl hs hvb (mv _ _ _)
def bJ (r:zO×zo×Unit):Prop:=0<=r.1.2.1/\zh r.2.1<=8000
theorem G4 (c:za) (q:zJ) (v:Int) (l:zE):zB (KM c q v l).1<=3847:=by
 unfold KM;cases hb:jG c (j0 q.2.1 v l,q) && zn (j0 q.2.1 v l)==v
 ·simp[bF,zB,zi,zl]
 ·simp only[aix] at hb;exact rE hb.1
theorem Rx (code:List UInt8) (p:Int×Int) (c:za) (q:zJ) (v:Int) (hc:z7 (code,p)) (hq:zi q<=5000) (hv:0<=v/\v<=61):Ens ((zX ((code,p),())).bind λ r25=>(yc (c,q,v,[r25.2.1],())).bind λ r26=>some ((code,r25.1.2),(1,0,r26.1,(0,[],[]),(0,[],[]),0,0,0,0,0),())) bJ:=by
 refine (LX (code,p) hc).bind λ r hr => ?_;rw[pc c q v [r.2.1] (by omega) (by omega) (by simp),Option.bind_some];have:=G4 c q v [r.2.1];refine Ens.some ⟨hr.1,?_⟩;simp only[zh,zi,zj,zl,aiz];omega
theorem ud (code:List UInt8) (p:Int×Int) (w:zz) (m:zo) (q:zJ) (who:Int) (hc:z7 (code,p)) (hm:zh m<=4000) (hq:zi q<=5000) (hq1:0<=q.1/\q.1<=60):
  Ens ((zk ((code,p),4,())).bind λ r18=>bif r18.2.1==0 then some (((code,r18.1.2),m,()):zO×zo×Unit) else bif r18.2.1==1 then (zk ((code,r18.1.2),2,())).bind λ r19=>(yd (wr (wr (q.1+1)+r19.2.1),60,())).bind λ r20=>some ((code,r19.1.2),(3,r20.1,([],0,[],[]),(0,[],[]),q,who,0,0,0,0),()) else iter (λ rec21 (x21:Int×Int×Unit)=>bif decide (x21.2.1<7) then bif decide (x21.1<60) then (jE (w.1,x21.1,())).bind λ r22=>bif r22.1 != who then rec21 (wr (x21.1+1),wr (x21.2.1+1),()) else (zX ((code,r18.1.2),())).bind λ r23=>(yc (w.1,q,x21.1,[r23.2.1],())).bind λ r24=>some ((code,r23.1.2),(1,0,r24.1,(0,[],[]),(0,[],[]),0,0,0,0,0),()) else (zX ((code,r18.1.2),())).bind λ r25=>(yc (w.1,q,x21.1,[r25.2.1],())).bind λ r26=>some ((code,r25.1.2),(1,0,r26.1,(0,[],[]),(0,[],[]),0,0,0,0,0),()) else (zX ((code,r18.1.2),())).bind λ r27=>(yc (w.1,q,x21.1,[r27.2.1],())).bind λ r28=>some ((code,r27.1.2),(1,0,r28.1,(0,[],[]),(0,[],[]),0,0,0,0,0),())) fuel (wr (q.1+1),0,())) bJ:=by
 refine (zG (code,p) 4 hc).bind λ r0 h0 => ?_;refine Ens.cond (λ _=>Ens.some ⟨h0.1,by dsimp only; omega⟩) λ _ => ?_
 have e1:wr (q.1+1)=q.1+1:=zg (by omega) (by omega);rw[e1];refine Ens.cond (λ _ => ?_) λ _ => ?_
 ·refine (zG (code,r0.1.2) 2 ⟨hc.1,h0.1⟩).bind λ r1 h1 => ?_;have ad6:∀ a b:Int,yd (a,b,())=some (if a<b then a else b,()):=by
   intro a b;unfold yd;by_cases e:a<b<;>simp[e]
  rw[ad6,aiu];refine Ens.some ⟨h1.1,?_⟩;simp only[zh,zB,zi,zj,zl,aiz] at hq ⊢;omega
 ·refine Ens.loop (λ x=>(0<=x.2.1/\x.2.1<=7)/\(0<=x.1/\x.1<=61)) (λ x=>(8 - x.2.1).toNat) ?_ ⟨by simp,by dsimp only; omega⟩ (by dsimp only; rw[jd]; omega)
  intro rec x hx XW;obtain⟨x1,x2⟩:=hx;have hb:=Rx code r0.1.2 w.1 q x.1 ⟨hc.1,h0.1⟩ hq x2;refine Ens.cond (λ h => ?_) λ _=>hb;have h:x.2.1<7:=by simpa using h
  refine Ens.cond (λ h' => ?_) λ _=>hb;have h':x.1<60:=by simpa using h'
  rw[Mn,aiu];refine Ens.cond (λ _ => ?_) λ _=>hb;rw[zg (n:=x.1+1) (by omega) (by omega),zg (n:=x.2.1+1) (by omega) (by omega)];exact XW _ ⟨by dsimp only; omega,by dsimp only; omega⟩ (by dsimp only; omega)
theorem dp (code:List UInt8) (p:Int×Int) (w:zz) (m:zo) (q:zJ) (hc:z7 (code,p)) (hm:zh m<=4000) (hq:zi q<=5000) (hq1:0<=q.1/\q.1<=60):
  Ens (bif decide ((w.2.1.length:Int)>0) then (zk ((code,p),(w.2.1.length:Int),())).bind λ r6=>if 0<=r6.2.1/\r6.2.1<(w.2.1.length:Int) then (zk ((code,r6.1.2),4,())).bind λ r7=>bif r7.2.1==0 then some (((code,r7.1.2),m,()):zO×zo×Unit) else bif r7.2.1==1 then (zk ((code,r7.1.2),2,())).bind λ r8=>(yd (wr (wr (q.1+1)+r8.2.1),60,())).bind λ r9=>some ((code,r8.1.2),(3,r9.1,([],0,[],[]),(0,[],[]),q,rd .i64 w.2.1 r6.2.1.toNat,0,0,0,0),()) else iter (λ rec10 (x10:Int×Int×Unit)=>bif decide (x10.2.1<7) then bif decide (x10.1<60) then (jE (w.1,x10.1,())).bind λ r11=>bif r11.1 != rd .i64 w.2.1 r6.2.1.toNat then rec10 (wr (x10.1+1),wr (x10.2.1+1),()) else (zX ((code,r7.1.2),())).bind λ r12=>(yc (w.1,q,x10.1,[r12.2.1],())).bind λ r13=>some ((code,r12.1.2),(1,0,r13.1,(0,[],[]),(0,[],[]),0,0,0,0,0),()) else (zX ((code,r7.1.2),())).bind λ r14=>(yc (w.1,q,x10.1,[r14.2.1],())).bind λ r15=>some ((code,r14.1.2),(1,0,r15.1,(0,[],[]),(0,[],[]),0,0,0,0,0),()) else (zX ((code,r7.1.2),())).bind λ r16=>(yc (w.1,q,x10.1,[r16.2.1],())).bind λ r17=>some ((code,r16.1.2),(1,0,r17.1,(0,[],[]),(0,[],[]),0,0,0,0,0),())) fuel (wr (q.1+1),0,()) else none else (zk ((code,p),4,())).bind λ r18=>bif r18.2.1==0 then some ((code,r18.1.2),m,()) else bif r18.2.1==1 then (zk ((code,r18.1.2),2,())).bind λ r19=>(yd (wr (wr (q.1+1)+r19.2.1),60,())).bind λ r20=>some ((code,r19.1.2),(3,r20.1,([],0,[],[]),(0,[],[]),q,0,0,0,0,0),()) else iter (λ rec21 (x21:Int×Int×Unit)=>bif decide (x21.2.1<7) then bif decide (x21.1<60) then (jE (w.1,x21.1,())).bind λ r22=>bif r22.1 != 0 then rec21 (wr (x21.1+1),wr (x21.2.1+1),()) else (zX ((code,r18.1.2),())).bind λ r23=>(yc (w.1,q,x21.1,[r23.2.1],())).bind λ r24=>some ((code,r23.1.2),(1,0,r24.1,(0,[],[]),(0,[],[]),0,0,0,0,0),()) else (zX ((code,r18.1.2),())).bind λ r25=>(yc (w.1,q,x21.1,[r25.2.1],())).bind λ r26=>some ((code,r25.1.2),(1,0,r26.1,(0,[],[]),(0,[],[]),0,0,0,0,0),()) else (zX ((code,r18.1.2),())).bind λ r27=>(yc (w.1,q,x21.1,[r27.2.1],())).bind λ r28=>some ((code,r27.1.2),(1,0,r28.1,(0,[],[]),(0,[],[]),0,0,0,0,0),())) fuel (wr (q.1+1),0,())) bJ:=by
 refine Ens.cond (λ h => ?_) λ _=>ud code p w m q 0 hc hm hq hq1;have h:(w.2.1.length:Int)>0:=by simpa using h
 refine (zG (code,p) _ hc).bind λ r1 h1 => ?_;have a1:=h1.2.2 h;exact Ens.ite ⟨h1.2.1,a1⟩ (ud code r1.1.2 w m q _ ⟨hc.1,h1.1⟩ hm hq hq1)
theorem PU (c:zO) {w:zz} (hc:z7 c) (h:WI w):Ens (qm (c,w,())) bJ:=by
 unfold qm py px pz pw;refine (PX c hc h).bind λ r0 h0 => ?_;obtain⟨k1,k2,k3,k4,k5⟩:=h0;have hq:zi r0.2.1.2.2.2.1<=4000:=by
  simp only[zh,zj] at k2;simp only[zi]; omega
 rw[Lq w.1 r0.2.1.2.2.2.1 (by omega),aiu];refine Ens.cond (λ _ => ?_) λ _=>dp c.1 r0.1.2 w r0.2.1 r0.2.1.2.2.2.1 ⟨hc.1,k1⟩ k2 (by omega) k3;have hf:fO ()=some ((0,[],[]),()):=rfl;have hz:zi ((0,[],[]):zJ)<=5000:=by simp[zi,zl]
 rw[hf,aiu];refine Ens.cond (λ hp => ?_) λ _=>dp c.1 r0.1.2 w r0.2.1 (0,[],[]) ⟨hc.1,k1⟩ k2 hz (by dsimp only; omega)
 have hp:(w.2.2.1.length:Int)>0:=by simpa using hp
 refine (Y3 (c.1,r0.1.2) 2 ⟨hc.1,k1⟩).bind λ r3 h3 => ?_;refine Ens.cond (λ _ => ?_) λ _=>dp c.1 r3.1.2 w r0.2.1 (0,[],[]) ⟨hc.1,h3⟩ k2 hz (by dsimp only; omega)
 refine (zG (c.1,r3.1.2) _ ⟨hc.1,h3⟩).bind λ r4 h4 => ?_;have a4:=h4.2.2 hp;refine Ens.ite ⟨h4.2.1,a4⟩ ?_;obtain⟨r,hr,XX,hw,-⟩:=WI.rep (c:=w.1) (l:=w.2.1) (reps:=w.2.2.1) (rest:=w.2.2.2) h h4.2.1 a4;rw[zq (e:=Jo) hr];have hs:=(JM XX).2.2.2.2.1;have hqk:yg w.1 r.2.2.2.1.2.2.1=true:=by
  unfold yk at hs;simp only[aix] at hs;exact hs.2.2.1
 have hqw:=eq hqk;have hqn:=nS hqk;have hqv:=qA hqn.1;rw[hqn.2] at hqv;rw[Mx r.2.2.2.1.2.2.1 (by omega),aiu];exact dp c.1 r4.1.2 w r0.2.1 r.2.2.2.1.2.2.1 ⟨hc.1,h4.1⟩ k2 (by omega) hqv
def LB (r:zO×YS×Unit):Prop:=0<=r.1.2.1/\zh r.2.1.2.2.2<=10000
theorem J0 (code:List UInt8) (p:Int×Int) (k i j:Int) (h:0<=p.1):LB ((code,p),(k,i,j,0,0,([],0,[],[]),(0,[],[]),(0,[],[]),0,0,0,0,0),()):=
 ⟨h,by simp[zh,zB,zi,zj,zl]⟩
theorem rY (code:List UInt8) (p:Int×Int) (w:zz) (k:Int) (hc:z7 (code,p)):Ens (bif (w.2.2.2.1.length:Int)==0 then some (((code,p),(2,k,0,0,0,([],0,[],[]),(0,[],[]),(0,[],[]),0,0,0,0,0),()):zO×YS×Unit) else (yd ((w.2.2.2.1.length:Int),4,())).bind λ r13=>(zk ((code,p),r13.1,())).bind λ r14=>some ((code,r14.1.2),(3,r14.2.1,0,0,0,([],0,[],[]),(0,[],[]),(0,[],[]),0,0,0,0,0),())) LB:=by
 refine Ens.cond (λ _=>Ens.some (J0 _ _ _ _ _ hc.2)) λ _ => ?_;have ad6:∀ a b:Int,yd (a,b,())=some (if a<b then a else b,()):=by
  intro a b;unfold yd;by_cases e:a<b<;>simp[e]
 rw[ad6,aiu];exact (zG (code,p) _ hc).bind λ r1 h1=>Ens.some (J0 _ _ _ _ _ h1.1)
theorem n7 {w:zz} (h:WI w) {i:Int} (h0:0<=i) (h1:i<(w.2.2.1.length:Int)):∃ r,w.2.2.1[i.toNat]?=some r/\zf w.1 r=true/\ze r<=260000:=by
 obtain⟨r,hr,XX,hw,-⟩:=WI.rep (c:=w.1) (l:=w.2.1) (reps:=w.2.2.1) (rest:=w.2.2.2) h h0 h1;exact⟨r,hr,XX,hw⟩
theorem IW (code:List UInt8) (p:Int×Int) (w:zz) (k:Int) (hc:z7 (code,p)) (h:WI w) (hk:0<=k/\k<=8):Ens (α:=zO×YS×Unit) (iter (λ rec3 (x3:Int×YS×Unit)=>bif decide (x3.1<(w.2.2.1.length:Int)) then if (w.2.2.1.length:Int)=0 then none else if 0<=Int.tmod (wr (k+x3.1)) (w.2.2.1.length:Int)/\Int.tmod (wr (k+x3.1)) (w.2.2.1.length:Int)<(w.2.2.1.length:Int) then (Ko (w.1,rd (.pair .i64 (.pair .i64 (.pair .i64 (.pair (.pair .i64 (.pair .i64 (.pair (.pair .i64 (.pair .str (.sl 0 .i64))) .str))) (.pair (.sl 0 (.pair .i64 (.pair .i64 (.pair .i64 .i64)))) (.pair (.sl 0 (.pair .i64 (.pair .str (.sl 0 .i64)))) (.pair (.pair (.sl 0 .u8) .i64) (.sl 0 (.pair .i64 (.pair .i64 (.pair .i64 (.pair (.pair .str (.pair .i64 (.pair .str (.sl 0 .i64)))) (.pair (.pair .i64 (.pair .str (.sl 0 .i64))) (.pair (.pair .i64 (.pair .str (.sl 0 .i64))) (.pair .i64 (.pair .i64 (.pair .i64 (.pair .i64 .i64)))))))))))))))))) w.2.2.1 (Int.toNat (Int.tmod (wr (k+x3.1)) (w.2.2.1.length:Int))),())).bind λ r4=>bif r4.2.1 then if (w.2.2.1.length:Int)=0 then none else (ju (w.2.1,Int.tmod (wr (k+x3.1)) (w.2.2.1.length:Int),())).bind λ r5=>bif !r5.1 then if (w.2.2.1.length:Int)=0 then none else some ((code,p),(1,Int.tmod (wr (k+x3.1)) (w.2.2.1.length:Int),0,0,0,([],0,[],[]),(0,[],[]),(0,[],[]),0,0,0,0,0),()) else rec3 (wr (x3.1+1),x3.2.1,()) else rec3 (wr (x3.1+1),x3.2.1,()) else none else some ((code,p),(7,k,0,0,0,([],0,[],[]),(0,[],[]),(0,[],[]),0,0,0,0,0),())) fuel (0,(0,0,0,0,0,([],0,[],[]),(0,[],[]),(0,[],[]),0,0,0,0,0),())) LB:=by
 have hb:=yj h.conf;have X0:=h.len;have hl:=h.liars.1;refine Ens.loop (λ x=>(0<=x.1/\x.1<=8)) (λ x=>(9 - x.1).toNat) ?_ (by simp) (by dsimp only; rw[jd]; omega)
 intro rec x hx XW;have hn:¬ (w.2.2.1.length:Int)=0:=by omega
 refine Ens.cond (λ hh => ?_) λ hh=>Ens.some (J0 _ _ _ _ _ hc.2);have hh:x.1<(w.2.2.1.length:Int):=by simpa using hh
 rw[if_neg hn,zg (n:=k+x.1) (by omega) (by omega),zg (n:=x.1+1) (by omega) (by omega)];have hno:Ens (rec (x.1+1,x.2.1,())) LB:=XW _ (by dsimp only; omega) (by dsimp only; omega)
 have t0:0<=Int.tmod (k+x.1) (w.2.2.1.length:Int):=Int.tmod_nonneg _ (by omega);have t1:Int.tmod (k+x.1) (w.2.2.1.length:Int)<(w.2.2.1.length:Int):=Int.tmod_lt_of_pos _ (by omega);refine Ens.ite ⟨t0,t1⟩ ?_;obtain⟨r,hr,XX,hw⟩:=n7 h t0 t1;rw[zq (e:=Jo) hr,Bt w.1 r (by omega),aiu];refine Ens.cond (λ _ => ?_) λ _=>hno;rw[if_neg hn,Yg w.2.1 _ (by omega),aiu];refine Ens.cond (λ _ => ?_) λ _=>hno;rw[if_neg hn];exact Ens.some (J0 _ _ _ _ _ hc.2)
theorem IX (code:List UInt8) (p:Int×Int) (w:zz) (k:Int) (hc:z7 (code,p)) (h:WI w) (hk:0<=k/\k<=8):Ens (α:=zO×YS×Unit) (iter (λ rec12 (x12:Int×YS×Unit)=>bif decide (x12.1<(w.2.2.1.length:Int)) then if (w.2.2.1.length:Int)=0 then none else if 0<=Int.tmod (wr (k+x12.1)) (w.2.2.1.length:Int)/\Int.tmod (wr (k+x12.1)) (w.2.2.1.length:Int)<(w.2.2.1.length:Int) then bif decide ((List.length (rd (.pair .i64 (.pair .i64 (.pair .i64 (.pair (.pair .i64 (.pair .i64 (.pair (.pair .i64 (.pair .str (.sl 0 .i64))) .str))) (.pair (.sl 0 (.pair .i64 (.pair .i64 (.pair .i64 .i64)))) (.pair (.sl 0 (.pair .i64 (.pair .str (.sl 0 .i64)))) (.pair (.pair (.sl 0 .u8) .i64) (.sl 0 (.pair .i64 (.pair .i64 (.pair .i64 (.pair (.pair .str (.pair .i64 (.pair .str (.sl 0 .i64)))) (.pair (.pair .i64 (.pair .str (.sl 0 .i64))) (.pair (.pair .i64 (.pair .str (.sl 0 .i64))) (.pair .i64 (.pair .i64 (.pair .i64 (.pair .i64 .i64)))))))))))))))))) w.2.2.1 (Int.toNat (Int.tmod (wr (k+x12.1)) (w.2.2.1.length:Int)))).2.2.2.2.2.2.2:Int)>0) then if (w.2.2.1.length:Int)=0 then none else some ((code,p),(2,Int.tmod (wr (k+x12.1)) (w.2.2.1.length:Int),0,0,0,([],0,[],[]),(0,[],[]),(0,[],[]),0,0,0,0,0),()) else rec12 (wr (x12.1+1),x12.2.1,()) else none else bif (w.2.2.2.1.length:Int)==0 then some ((code,p),(2,k,0,0,0,([],0,[],[]),(0,[],[]),(0,[],[]),0,0,0,0,0),()) else (yd ((w.2.2.2.1.length:Int),4,())).bind λ r13=>(zk ((code,p),r13.1,())).bind λ r14=>some ((code,r14.1.2),(3,r14.2.1,0,0,0,([],0,[],[]),(0,[],[]),(0,[],[]),0,0,0,0,0),())) fuel (0,(0,0,0,0,0,([],0,[],[]),(0,[],[]),(0,[],[]),0,0,0,0,0),())) LB:=by
 have hb:=yj h.conf;have X0:=h.len;have hl:=h.liars.1;refine Ens.loop (λ x=>(0<=x.1/\x.1<=8)) (λ x=>(9 - x.1).toNat) ?_ (by simp) (by dsimp only; rw[jd]; omega)
 intro rec x hx XW;have hn:¬ (w.2.2.1.length:Int)=0:=by omega
 refine Ens.cond (λ hh => ?_) λ hh=>rY code p w k hc;have hh:x.1<(w.2.2.1.length:Int):=by simpa using hh
 rw[if_neg hn,zg (n:=k+x.1) (by omega) (by omega),zg (n:=x.1+1) (by omega) (by omega)];have hno:Ens (rec (x.1+1,x.2.1,())) LB:=XW _ (by dsimp only; omega) (by dsimp only; omega)
 have t0:0<=Int.tmod (k+x.1) (w.2.2.1.length:Int):=Int.tmod_nonneg _ (by omega);have t1:Int.tmod (k+x.1) (w.2.2.1.length:Int)<(w.2.2.1.length:Int):=Int.tmod_lt_of_pos _ (by omega);refine Ens.ite ⟨t0,t1⟩ ?_;obtain⟨r,hr,XX,hw⟩:=n7 h t0 t1;rw[zq (e:=Jo) hr];refine Ens.cond (λ _ => ?_) λ _=>hno;rw[if_neg hn];exact Ens.some (J0 _ _ _ _ _ hc.2)
theorem PT (c:zO) {w:zz} (hc:z7 c) (h:WI w):Ens (gA (c,w,())) LB:=by
 have hb:=yj h.conf;have X0:=h.len;unfold gA;have ab2:yU ((w.2.2.1.length:Int),1,())=some ((w.2.2.1.length:Int),()):=by
  unfold yU;have:(w.2.2.1.length:Int)>1:=by omega
  simp[this]
 dsimp only;rw[ab2,aiu];refine (zG c _ hc).bind λ r1 h1 => ?_;have a1:=h1.2.2 (by dsimp only; omega)
 dsimp only at a1;refine (zG (c.1,r1.1.2) 20 ⟨hc.1,h1.1⟩).bind λ r2 h2 => ?_;have c2:z7 (c.1,r2.1.2):=⟨hc.1,h2.1⟩
 have hk:0<=r1.2.1/\r1.2.1<=8:=⟨h1.2.1,by omega⟩
 have A:=IW c.1 r2.1.2 w r1.2.1 c2 h hk;have S:=IX c.1 r2.1.2 w r1.2.1 c2 h hk;have G:=rY c.1 r2.1.2 w r1.2.1 c2;have L:=PU (c.1,r2.1.2) c2 h;refine Ens.cond (λ _=>A) λ _ => ?_;refine Ens.cond (λ _=>A) λ _ => ?_;refine Ens.cond (λ _=>A) λ _ => ?_;refine Ens.cond (λ _=>S) λ _ => ?_;refine Ens.cond (λ _=>S) λ _ => ?_;refine Ens.cond (λ _=>S) λ _ => ?_;refine Ens.cond (λ _=>S) λ _ => ?_;refine Ens.cond (λ _=>Ens.some (J0 _ _ _ _ _ h2.1)) λ _ => ?_;refine Ens.cond (λ _=>Ens.some (J0 _ _ _ _ _ h2.1)) λ _ => ?_;refine Ens.cond (λ _ => ?_) λ _ => ?_
 ·refine (Y3 (c.1,r2.1.2) 2 c2).bind λ r3 h3 => ?_;refine Ens.cond (λ _ => ?_) λ _ => ?_
  ·exact (jI (c.1,r3.1.2) _ ⟨hc.1,h3⟩ (by simp)).bind λ r4 h4=>Ens.some (J0 _ _ _ _ _ h4.1)
  ·refine (zG (c.1,r3.1.2) 2 ⟨hc.1,h3⟩).bind λ r4 h4 => ?_;have aeo:∃ n,yU ((w.2.2.2.1.length:Int),1,())=some (n,()):=by
    unfold yU;cases decide ((w.2.2.2.1.length:Int)>1)<;>exact⟨_,rfl⟩
   obtain⟨n,aeo⟩:=aeo;rw[aeo,aiu];exact (zG (c.1,r4.1.2) _ ⟨hc.1,h4.1⟩).bind λ r5 h5=>Ens.some (J0 _ _ _ _ _ h5.1)
 refine Ens.cond (λ _ => ?_) λ _ => ?_
 ·refine (LX (c.1,r2.1.2) c2).bind λ r3 h3=>Ens.some ⟨h3.1,?_⟩;simp[zh,zB,zi,zj,zl]
 refine Ens.cond (λ _ => ?_) λ _ => ?_
 ·exact Ens.cond (λ _=>L.bind λ r3 h3=>Ens.some ⟨h3.1,by have:=h3.2; dsimp only; omega⟩) λ _=>G
 refine Ens.cond (λ _ => ?_) λ _ => ?_
 ·exact Ens.cond (λ _=>L.bind λ r3 h3=>Ens.some ⟨h3.1,by have:=h3.2; dsimp only; omega⟩) λ _=>G
 refine Ens.cond (λ _ => ?_) λ _=>G
 ·exact Ens.cond (λ _=>L.bind λ r3 h3=>Ens.some ⟨h3.1,by have:=h3.2; dsimp only; omega⟩) λ _=>G
theorem PV (c:zO) (hc:z7 c):Ens (gB (c,())) λ r=>0<=r.1.2.1/\WI r.2.1:=by
 unfold gB;refine (PW c hc).bind λ r0 h0 => ?_;refine (zG (c.1,r0.1.2) 45 ⟨hc.1,h0.1⟩).bind λ r1 h1 => ?_;have a1:=h1.2.2 (by decide);refine Ens.loop (λ x=>(0<=x.1/\x.1<=45)/\0<=x.2.1.2.1/\WI x.2.2.1) (λ x=>(46 - x.1).toNat) ?_ ⟨by simp,h1.1,h0.2⟩ (by dsimp only; rw[jd]; omega)
 intro rec x hx XW;obtain⟨x1,x2,x3⟩:=hx;refine Ens.cond (λ h => ?_) λ _=>Ens.some ⟨x2,x3⟩;have h:x.1<r1.2.1:=by simpa using h
 refine (PT (c.1,x.2.1.2) ⟨hc.1,x2⟩ x3).bind λ r3 h3 => ?_;refine (P4 x3 r3.2.1 (by have:=h3.2; omega)).bind λ r4 h4 => ?_
 rw[zg (n:=x.1+1) (by omega) (by omega)];exact XW _ ⟨⟨by dsimp only; omega,by dsimp only; omega⟩,h3.1,h4⟩ (by dsimp only; omega)
theorem Ri (c:zO) (conf:za) (hc:z7 c) (hN:conf.1<=8):Ens (gQ (c,conf,())) λ r=>0<=r.1.2.1/\zi r.2.1<=4000:=by
 unfold gQ;refine (Qp c hc).bind λ r0 h0 => ?_;refine (l8 (c.1,r0.1.2) conf r0.2.1 ⟨hc.1,h0.1⟩ hN h0.2).bind λ r1 h1 => ?_;have hw:zi r1.2.1<=2000:=by
  have h4:=j3 h0.2;have h5:=h1.2.2.2;have h6:=h1.2.2.1;simp only[zi,zl];rw[h6];omega
 refine (zG (c.1,r1.1.2) 12 ⟨hc.1,h1.1⟩).bind λ r2 h2 => ?_;refine Ens.cond (λ _=>Ens.some ⟨h2.1,by simp only[zi] at hw ⊢; omega⟩) λ _ => ?_
 refine Ens.cond (λ _ => ?_) λ _ => ?_
 ·refine (tO (c.1,r2.1.2) 7 ⟨hc.1,h2.1⟩ (by decide)).bind λ r3 h3=>Ens.some ⟨h3.1,?_⟩;have:=h3.2;simp only[zi,zl] at hw ⊢; omega
 refine Ens.cond (λ _ => ?_) λ _=>Ens.some ⟨h2.1,by dsimp only; omega⟩
 refine (l7 (c.1,r2.1.2) ⟨hc.1,h2.1⟩).bind λ r4 h4=>Ens.some ⟨h4.1,?_⟩;have:=h4.2;simp only[zi] at hw ⊢; omega
theorem PD (c:zO) (conf:za) (hc:z7 c) (hN:conf.1<=8):Ens (ge (c,conf,())) λ r=>0<=r.1.2.1/\zA r.2.1<=60000:=by
 unfold ge aM;rw[aiu];refine Ens.loop (λ x=>(0<=x.1/\x.1<=5)/\0<=x.2.1.2.1/\(zA x.2.2.1:Int)<=10000*(x.1+1)) (λ x=>(6 - x.1).toNat) ?_ ⟨by simp,hc.2,by simp[zA,zi,zl]⟩ (by dsimp only; rw[jd]; omega)
 intro rec x hx XW;obtain⟨x1,x2,x3⟩:=hx;refine (zG (c.1,x.2.1.2) 5 ⟨hc.1,x2⟩).bind λ r2 h2 => ?_;have a2:=h2.2.2 (by decide);refine Ens.cond (λ h => ?_) λ _=>Ens.some ⟨h2.1,by dsimp only; omega⟩
 have h:x.1<r2.2.1:=by simpa using h
 refine (tQ (c.1,r2.1.2) conf ⟨hc.1,h2.1⟩ hN).bind λ r3 h3 => ?_;have hb:=h3.2;have hq:zi r3.2.1.2<=4000:=by simp only[zB] at hb; omega
 rw[fU _ _ _ (by omega) (by omega),aiu];have hs:=an conf x.2.2.1 r3.2.1.2;refine (Y3 (c.1,r3.1.2) 3 ⟨hc.1,h3.1⟩).bind λ r5 h5 => ?_;rw[zg (n:=x.1+1) (by omega) (by omega)];refine Ens.cond (λ _ => ?_) λ _ => ?_
 ·dsimp only;rw[BK conf (see conf x.2.2.1 r3.2.1.2) r3.2.1 (by omega) (by omega),aiu];have hv:=Cq conf (see conf x.2.2.1 r3.2.1.2) r3.2.1;exact XW _ ⟨⟨by dsimp only; omega,by dsimp only; omega⟩,h5,by dsimp only; omega⟩ (by dsimp only; omega)
 ·exact XW _ ⟨⟨by dsimp only; omega,by dsimp only; omega⟩,h5,by dsimp only; omega⟩ (by dsimp only; omega)
theorem PE (c:zO) (conf:za) (hc:z7 c) (hN:conf.1<=8):Ens (gd (c,conf,())) λ r=>0<=r.1.2.1/\zA r.2.1<=70000:=by
 unfold gd;refine (PD c conf hc hN).bind λ r0 h0 => ?_;have hw:=h0.2;refine (zG (c.1,r0.1.2) 10 ⟨hc.1,h0.1⟩).bind λ r1 h1 => ?_;refine Ens.cond (λ _ => ?_) λ _ => ?_
 ·exact (jI (c.1,r1.1.2) _ ⟨hc.1,h1.1⟩ (by simp)).bind λ r2 h2=>Ens.some ⟨h2.1,by simp only[zA] at hw ⊢; omega⟩
 refine Ens.cond (λ _ => ?_) λ _ => ?_
 ·exact (jI (c.1,r1.1.2) _ ⟨hc.1,h1.1⟩ (by simp)).bind λ r2 h2=>Ens.some ⟨h2.1,by simp only[zA] at hw ⊢; omega⟩
 refine Ens.cond (λ _ => ?_) λ _ => ?_
 ·exact (l7 (c.1,r1.1.2) ⟨hc.1,h1.1⟩).bind λ r2 h2=>Ens.some ⟨h2.1,by have:=h2.2; simp only[zA] at hw ⊢; omega⟩
 refine Ens.cond (λ _ => ?_) λ _=>Ens.some ⟨h1.1,by dsimp only; omega⟩
 exact (Ri (c.1,r1.1.2) conf ⟨hc.1,h1.1⟩ hN).bind λ r2 h2=>Ens.some ⟨h2.1,by have:=h2.2; simp only[zA] at hw ⊢; omega⟩
theorem Rg (c:zO) (hc:z7 c):Ens (gP (c,())) λ r=>0<=r.1.2.1/\r.2.1.length<=9:=by
 unfold gP;refine Ens.loop (λ x=>(0<=x.2.1/\x.2.1<=9)/\0<=x.2.2.1.2.1/\(x.1.length:Int)<=x.2.1) (λ x=>(10 - x.2.1).toNat) ?_ ⟨by simp,hc.2,by simp⟩ (by dsimp only; rw[jd]; omega)
 intro rec x hx XW;obtain⟨x1,x2,x3⟩:=hx;refine (zG (c.1,x.2.2.1.2) 9 ⟨hc.1,x2⟩).bind λ r1 h1 => ?_;have a1:=h1.2.2 (by decide);refine Ens.cond (λ h => ?_) λ _=>Ens.some ⟨h1.1,by dsimp only; omega⟩
 have h:x.2.1<r1.2.1:=by simpa using h
 refine (LX (c.1,r1.1.2) ⟨hc.1,h1.1⟩).bind λ r2 h2 => ?_;rw[ph _ _ (by omega),aiu,zg (n:=x.2.1+1) (by omega) (by omega)];have hl:=xh x.1 r2.2.1;exact XW _ ⟨⟨by dsimp only; omega,by dsimp only; omega⟩,h2.1,by dsimp only; omega⟩ (by dsimp only; omega)
theorem Rh (c:zO) (hc:z7 c):Ens (gO (c,())) λ r=>0<=r.1.2.1/\r.2.1.length<=40:=by
 unfold gO;refine (Rg c hc).bind λ r0 h0 => ?_;have hw:=h0.2;refine (zG (c.1,r0.1.2) 8 ⟨hc.1,h0.1⟩).bind λ r1 h1 => ?_;refine Ens.cond (λ _ => ?_) λ _ => ?_
 ·refine (tN (c.1,r1.1.2) ⟨hc.1,h1.1⟩).bind λ r2 h2=>Ens.ite (by simp only[aiA,aiz]; omega) (Ens.some ⟨h2,?_⟩)
  simp only[aiE,aiA,aiz]; omega
 refine Ens.cond (λ _ => ?_) λ _=>Ens.some ⟨h1.1,by dsimp only; omega⟩
 refine Ens.loop (λ x=>(0<=x.2.1/\x.2.1<=4)/\(x.1.length:Int)<=9+4*x.2.1) (λ x=>(5 - x.2.1).toNat) ?_ ⟨by simp,by dsimp only; omega⟩ (by dsimp only; rw[jd]; omega)
 intro rec x hx XW;obtain⟨x1,x3⟩:=hx;refine Ens.cond (λ h => ?_) λ _=>Ens.some ⟨h1.1,by dsimp only; omega⟩
 have h:x.2.1<4:=by simpa using h
 refine Ens.loop (λ y=>(0<=y.2.1/\y.2.1<=4)/\(y.1.length:Int)<=9+4*x.2.1+y.2.1) (λ y=>(5 - y.2.1).toNat) ?_ ⟨by simp,by dsimp only; omega⟩ (by dsimp only; rw[jd]; omega)
 intro rec2 y hy ahv;obtain⟨y1,y3⟩:=hy;refine Ens.cond (λ h => ?_) λ hn => ?_
 ·have h:y.2.1<4:=by simpa using h
  rw[ph _ _ (by omega),aiu,zg (n:=y.2.1+1) (by omega) (by omega)];have hl:=xh y.1 (x.2.1,0,0,y.2.1);exact ahv _ ⟨⟨by dsimp only; omega,by dsimp only; omega⟩,by dsimp only; omega⟩ (by dsimp only; omega)
 ·have hn:¬ y.2.1<4:=by simpa using hn
  rw[zg (n:=x.2.1+1) (by omega) (by omega)];exact XW _ ⟨⟨by dsimp only; omega,by dsimp only; omega⟩,by dsimp only; omega⟩ (by dsimp only; omega)
theorem XC (l:zS) (p:zD):zC (l++[p])=zC l+(1+zj p):=by
 rw[Cr]; simp[zC]
theorem PC (c:zO) (conf:za) (hc:z7 c):Ens (ga (c,conf,())) λ r=>0<=r.1.2.1/\zC r.2.1<=30000:=by
 unfold ga;refine Ens.loop (λ x=>(0<=x.2.1/\x.2.1<=5)/\0<=x.2.2.1.2.1/\(zC x.1:Int)<=2000*x.2.1) (λ x=>(6 - x.2.1).toNat) ?_ ⟨by simp,hc.2,by simp[zC]⟩ (by dsimp only; rw[jd]; omega)
 intro rec x hx XW;obtain⟨x1,x2,x3⟩:=hx;refine (zG (c.1,x.2.2.1.2) 5 ⟨hc.1,x2⟩).bind λ r1 h1 => ?_;have a1:=h1.2.2 (by decide);refine Ens.cond (λ h => ?_) λ _ => ?_
 ·have h:x.2.1<r1.2.1:=by simpa using h
  refine (lQ (c.1,r1.1.2) conf ⟨hc.1,h1.1⟩).bind λ r2 h2 => ?_;have hn:=j3 h2.2.1;have hp:zj r2.2.1<=1940:=by have:=h2.2.2; simp only[zj,zl]; omega
  rw[aU _ _ _ (by omega) (by omega),aiu,zg (n:=x.2.1+1) (by omega) (by omega)];have hl:=qu conf x.1 r2.2.1;exact XW _ ⟨⟨by dsimp only; omega,by dsimp only; omega⟩,h2.1,by dsimp only; omega⟩ (by dsimp only; omega)
 ·refine (Y3 (c.1,r1.1.2) 8 ⟨hc.1,h1.1⟩).bind λ r4 h4 => ?_;refine Ens.cond (λ _ => ?_) λ _=>Ens.some ⟨h4,by dsimp only; omega⟩
  refine (tJ (c.1,r4.1.2) conf ⟨hc.1,h4⟩).bind λ r5 h5 => ?_;have hl:=MG x.1;refine Ens.ite (by simp only[aiA,aiz]; omega) (Ens.some ⟨h5.1,?_⟩)
  dsimp only;rw[XC];have:=h5.2;simp only[zj,zl];omega
theorem PJ (c:zO) (hc:z7 c):Ens (go (c,())) λ r=>0<=r.1.2.1/\zw r.2.1=true/\zf r.2.1 r.2.2.1=true:=by
 unfold go;refine (PV c hc).bind λ r0 h0 => ?_;obtain⟨h0,h⟩:=h0;have hl:=h.len;have hb:=yj h.conf;refine (zG (c.1,r0.1.2) _ ⟨hc.1,h0⟩).bind λ r1 h1 => ?_;have a1:=h1.2.2 (by omega);refine Ens.ite ⟨h1.2.1,a1⟩ ?_;obtain⟨r,hr,XX,-⟩:=n7 h h1.2.1 a1;rw[zq (e:=Jo) hr];exact Ens.some ⟨h1.1,h.conf,XX⟩
def GO (r:zO×za×zb×Unit):Prop:=0<=r.1.2.1/\zw r.2.1=true/\ze r.2.2.1<=2000000/\(0<=r.2.2.1.2.1/\r.2.2.1.2.1<=61)
theorem XE (l:jT) (p:JX):yn (l++[p])=yn l+(1+Z3 p):=by
 simp[yn]; omega
theorem PM (c:zO) (hc:z7 c):Ens (bg (c,())) λ r=>0<=r.1.2.1/\zw r.2.1=true/\ze r.2.2.1<=600000/\(0<=r.2.2.1.2.1/\r.2.2.1.2.1<=61):=by
 unfold bg;refine (PJ c hc).bind λ r0 h0 => ?_;obtain⟨h0,hcf,XX⟩:=h0;have hb:=yj hcf;have hw:=Kl XX;obtain⟨-,-,hv,-⟩:=JM XX;refine (zG (c.1,r0.1.2) 16 ⟨hc.1,h0⟩).bind λ r1 h1 => ?_;refine Ens.cond (λ _ => ?_) λ _ => ?_
 ·exact (jI (c.1,r1.1.2) _ ⟨hc.1,h1.1⟩ (by simp)).bind λ r2 h2=>Ens.some ⟨h2.1,hcf,by simp only[ze] at hw ⊢; omega,by dsimp only; omega⟩
 refine Ens.cond (λ _ => ?_) λ _ => ?_
 ·refine (jI (c.1,r1.1.2) _ ⟨hc.1,h1.1⟩ (by simp)).bind λ r2 h2=>Ens.some ⟨h2.1,hcf,by simp only[ze] at hw ⊢; omega,?_⟩
  have:=h2.2;simp only[aiP,ajm,or_false] at this;dsimp only; omega
 refine Ens.cond (λ _ => ?_) λ _ => ?_
 ·exact (jI (c.1,r1.1.2) _ ⟨hc.1,h1.1⟩ (by simp)).bind λ r2 h2=>Ens.some ⟨h2.1,hcf,by simp only[ze] at hw ⊢; omega,by dsimp only; omega⟩
 refine Ens.cond (λ _ => ?_) λ _ => ?_
 ·exact (PE (c.1,r1.1.2) r0.2.1 ⟨hc.1,h1.1⟩ (by omega)).bind λ r2 h2=>Ens.some ⟨h2.1,hcf,by have:=h2.2; simp only[ze] at hw ⊢; omega,by dsimp only; omega⟩
 refine Ens.cond (λ _ => ?_) λ _ => ?_
 ·exact (Rh (c.1,r1.1.2) ⟨hc.1,h1.1⟩).bind λ r2 h2=>Ens.some ⟨h2.1,hcf,by have:=h2.2; simp only[ze,Jm] at hw ⊢; omega,by dsimp only; omega⟩
 refine Ens.cond (λ _ => ?_) λ _ => ?_
 ·exact (PC (c.1,r1.1.2) r0.2.1 ⟨hc.1,h1.1⟩).bind λ r2 h2=>Ens.some ⟨h2.1,hcf,by have:=h2.2; simp only[ze] at hw ⊢; omega,by dsimp only; omega⟩
 refine Ens.cond (λ _ => ?_) λ _ => ?_
 ·exact (PG (c.1,r1.1.2) ⟨hc.1,h1.1⟩).bind λ r2 h2=>Ens.some ⟨h2.1,hcf,by have:=h2.2; simp only[ze,JR] at hw ⊢; omega,by dsimp only; omega⟩
 refine Ens.cond (λ _ => ?_) λ _=>Ens.some ⟨h1.1,hcf,by dsimp only; omega,by dsimp only; omega⟩
 refine (zG (c.1,r1.1.2) 5 ⟨hc.1,h1.1⟩).bind λ r2 h2 => ?_;refine (PI (c.1,r2.1.2) r0.2.1 ⟨hc.1,h2.1⟩ (by omega)).bind λ r3 h3 => ?_;have hl:r0.2.2.1.2.2.2.2.2.2.2.length<=260000:=by simp only[ze,yn] at hw; omega
 refine Ens.ite (by simp only[aiA,aiz]; omega) (Ens.some ⟨h3.1,hcf,?_,by dsimp only; omega⟩)
 have:=h3.2;simp only[ze,XE,Z3] at hw ⊢; omega
theorem PL (c:zO) (hc:z7 c):Ens (bg (c,())) GO:=(PM c hc).mono λ _ h=>⟨h.1,h.2.1,Nat.le_trans h.2.2.1 (by decide),h.2.2.2⟩
theorem G6 (a:y7):Yp a a=true:=by simp[Yp,er]
theorem RQ (a:zo):Zi a a=true:=by simp[Zi,G6,er,MC]
theorem U7 (a:zI):Km a a=true:=by simp[Km,er]
theorem Ve (l:List Int) (h:l.length<=137438953472):db (l,l,())=some (true,()):=by
 unfold db;simp only[bne_self_eq_false,aiv];refine ca l (true,()) (by omega) ?_ ?_
 ·intro rec s; simp
 ·intro rec i s x hx hi;simp only[aiG,zt hi,aiB,aiw,if_true,aiL,rd,aja,hx,aj4,zr (show i<4611686018427387904 by omega),bne_self_eq_false,aiv]
theorem Vi (l:zE) (h:l.length<=137438953472):di (l,l,())=some (true,()):=by
 unfold di;simp only[bne_self_eq_false,aiv];refine ca l (true,()) (by omega) ?_ ?_
 ·intro rec s; simp
 ·intro rec i s x hx hi;simp only[aiG,zt hi,aiB,aiw,if_true,aiL,rd,aja,hx,aj4,zr (show i<4611686018427387904 by omega),beq_self_eq_true,ajn,aiC,aiv]
theorem Vg (p:zD) (h:zj p<=137438953472):dg (p,p,())=some (true,()):=by
 unfold dg;simp only[beq_self_eq_true,cond_true,Ve p.2.2 (by simp only[zj,zl] at h; omega),Option.bind_some]
theorem XD {l:zS} {x:zD} {N:Nat} (hw:zC l<=N) {i:Nat} (hx:l[i]?=some x):zj x<=N:=by
 have:=ZH zj (List.mem_of_getElem? hx); unfold zC at hw; omega
theorem Vh (l:zS) (h:zC l<=137438953472):dh (l,l,())=some (true,()):=by
 have hl:=MG l;unfold dh;simp only[bne_self_eq_false,aiv];refine ca l (true,()) (by omega) ?_ ?_
 ·intro rec s; simp
 ·intro rec i s x hx hi;simp only[aiG,zt hi,aiB,aiw,if_true,aiL,rd,aja,hx,aj4,zr (show i<4611686018427387904 by omega),Vg x (XD h hx),aiu,aiC,aiv]
theorem AW (r:zb) (h:ze r<=137438953472):Qq (r,r,())=some (true,()):=by
 have h':=h;simp only[ze,Jm,yn] at h;unfold Qq;simp only[bne_self_eq_false,aiv,BE r.2.2.2.1 r.2.2.2.1 (by omega),U7,aiu,aiC,Vi r.2.2.2.2.1 (by omega),Vh r.2.2.2.2.2.1 (by omega),Vd];refine ca r.2.2.2.2.2.2.2 (true,()) (by omega) ?_ ?_
 ·intro rec s; simp
 ·intro rec i s x hx hi;have hm:zh x.2<=137438953472:=gZ (N:=137438953472) (by simp only[yn]; omega) hx
  simp only[aiG,zt hi,aiB,aiw,if_true,aiL,rd,aja,hx,aj4,zr (show i<4611686018427387904 by omega),bne_self_eq_false,aiv,N0 x.2 x.2 (MsgW.of hm),RQ,aiu,aiC]
theorem Xi {c:za} {r:zb} {to:Int} {m:zo} (h:(y9 c r to m).2=true):(y9 c r to m).1=Jz r to m:=by
 unfold y9 at *;cases hk : !decide ((r.2.2.2.2.2.2.2.length:Int)≥30) && jV c r.1 (to,m)
 ·rw[hk] at h; cases h
 ·rfl
theorem ac7 {c:za} {r:zb} {v:Int} {name:List UInt8} (h:(YT c r v name false).2=true):YT c r v name true=YT c r v name false:=by
 unfold YT at *;cases h1:(((yN r.2.2.2.2.2.1 v name).2.2.length:Int)==0)
 ·cases h2:(name==[])
  ·cases h3:(ya c v==r.1)
   ·simp only[h1,h2,h3,aiv,aiV,aiS] at h;simp only[aiv,aiC,ajh,aiV,aiS];cases h4:decide ((KQ (under c v r.1) (yN r.2.2.2.2.2.1 v name).2.2:Int)<((under c v r.1).length:Int))
    ·rfl
    ·rw[h4] at h; cases h
   ·rfl
  ·rfl
 ·rfl
theorem ac8 {c:za} {r:zb} {v:Int} {name:List UInt8} (h:(climb c r v name false).2=true):climb c r v name true=climb c r v name false:=by
 unfold climb at *;cases h1:zf c r && (YT c r v name false).2
 ·rw[h1] at h; cases h
 ·simp only[aix] at h1;rw[ac7 h1.2];rw[h1.1,h1.2]; rfl
theorem ad2 (l:zS) (v:Int) (name:List UInt8):(yN l v name).2.1=name:=by
 unfold yN;cases h:l.find? (λ p=>p.1==v && p.2.1==name) with
 | none=>rfl
 | some p=>
  have:=List.find?_some h;simp only[aix,aj6] at this;exact this.2
theorem aaN (c:za) (r:zb) (v:Int) (name:List UInt8):climb c r v name true=(r,false)∨((ya c v==r.1)=true/\(climb c r v name true).2=true)∨
  ((ya c v==r.1)=false/\climb c r v name true=(Jz r (up c v r.1) (2,0,([],0,[],[]),yN r.2.2.2.2.2.1 v name,(0,[],[]),0,0,0,0,0),true)):=by
 cases hc:(climb c r v name true).2
 ·left;unfold climb at *;cases h1:zf c r && (YT c r v name true).2
  ·rfl
  ·rw[h1] at hc; cases hc
 ·right;cases hr:ya c v==r.1
  ·right;refine⟨rfl,?_⟩;unfold climb at *;cases h1:zf c r && (YT c r v name true).2
   ·rw[h1] at hc; cases hc
   ·simp only[aix] at h1;rw[aiw];have h2:=h1.2;unfold YT at h2 ⊢;cases h3:(((yN r.2.2.2.2.2.1 v name).2.2.length:Int)==0)
    ·cases h4:(name==[])
     ·simp only[h3,h4,hr,aiv,aiC,ajh] at h2 ⊢;rw[Xi h2]
     ·simp only[h3,h4,aiw,aiv] at h2; cases h2
    ·simp only[h3,aiw] at h2; cases h2
  ·exact .inl ⟨rfl,rfl⟩
theorem abu (code:List UInt8) (hb:code.length<=big):Ens (aaD (code,())) λ r=>zw r.1=true/\ze r.2.1<=2000000/\r.2.2.2.1.length<=2000000:=by
 unfold aaD;refine (PQ code hb).bind λ r0 h0 => ?_;refine (PL r0 h0.1).bind λ r1 h1 => ?_;refine (Y3 (r0.1,r1.1.2) 2 ⟨h0.1.1,h1.1⟩).bind λ r2 h2 => ?_;have hno:∀ p:Int×Int,0<=p.1->Ens ((zk ((r0.1,p),5,())).bind λ r5=>(Lv ((r0.1,r5.1.2),())).bind λ r6=>some (r1.2.1,r1.2.2.1,r5.2.1,r6.2.1,r2.2.1,())) λ r=>zw r.1=true/\ze r.2.1<=2000000/\r.2.2.2.1.length<=2000000:=by
  intro p hp;refine (zG (r0.1,p) 5 ⟨h0.1.1,hp⟩).bind λ r5 h5 => ?_;refine (Qp (r0.1,r5.1.2) ⟨h0.1.1,h5.1⟩).bind λ r6 h6=>Ens.some ⟨h1.2.1,h1.2.2.1,?_⟩;have:=j3 h6.2;dsimp only; omega
 refine Ens.cond (λ h => ?_) λ _=>hno _ h2;have h:(r1.2.2.1.2.2.2.2.2.1.length:Int)>0:=by simpa using h
 refine (Y3 (r0.1,r2.1.2) 4 ⟨h0.1.1,h2⟩).bind λ r3 h3 => ?_;refine Ens.cond (λ _ => ?_) λ _=>hno _ h3;refine (zG (r0.1,r3.1.2) _ ⟨h0.1.1,h3⟩).bind λ r4 h4 => ?_;have a4:=h4.2.2 h;refine Ens.ite ⟨h4.2.1,a4⟩ (Ens.some ⟨h1.2.1,h1.2.2.1,?_⟩);have hi:r4.2.1.toNat<r1.2.2.1.2.2.2.2.2.1.length:=by omega
 have hg:=List.getElem?_eq_getElem hi;rw[zq (e:=Yl) hg];have hw:=h1.2.2.1;have:=XD (Nat.le_refl (zC r1.2.2.1.2.2.2.2.2.1)) hg;simp only[ze] at hw;simp only[zj] at this ⊢;omega
theorem law_Pushed (code:List UInt8) (hb:code.length<=big):laws_FnPushed (code,())=some (true,()):=by
 suffices h:Ens (laws_FnPushed (code,())) λ r=>r=(true,()) by
  obtain⟨y,hy,rfl⟩:=h;exact hy
 unfold laws_FnPushed mc;dsimp only;by_cases aal:(code.length:Int)>1048576
 ·simp only[aal,aiB,aiu,aiw];exact Ens.some rfl
 simp only[aal,aiD,aiu,aiv];refine (abu code hb).bind λ r1 h1 => ?_;obtain⟨c,r,v,name,f,u⟩:=r1;obtain⟨hc,hw,hn⟩:=h1;dsimp only at hc hw hn ⊢;have hl:=ac9 c r v name true;have hhl:r.2.2.2.2.2.2.2.length<=2000000:=by simp only[ze,yn] at hw; omega
 rw[aaQ _ _ _ _ _ (by omega) (by omega),aiu,aaQ _ _ _ _ _ (by omega) (by omega),aiu,Wf _ _ _ _ _ (by omega) (by omega),aiu];dsimp only;rw[bne_self_eq_false,aiv,AW _ (by omega),aiu];dsimp only;rw[aiC,aiv];have hg:(r.2.2.2.2.2.2.2++[(up c v r.1,((2,0,([],0,[],[]),yN r.2.2.2.2.2.1 v name,(0,[],[]),0,0,0,0,0):zo))])[(((r.2.2.2.2.2.2.2.length+(0+1):Nat):Int) - 1).toNat]?=
   some (up c v r.1,((2,0,([],0,[],[]),yN r.2.2.2.2.2.1 v name,(0,[],[]),0,0,0,0,0):zo)):=by
  rw[show (((r.2.2.2.2.2.2.2.length+(0+1):Nat):Int) - 1).toNat=r.2.2.2.2.2.2.2.length by omega];simp
 have hwr:wr (((r.2.2.2.2.2.2.2.length+(0+1):Nat):Int) - 1)=((r.2.2.2.2.2.2.2.length+(0+1):Nat):Int) - 1:=zg (by omega) (by omega);have aaP:wr ((r.2.2.2.2.2.2.2.length:Int)+1)=(r.2.2.2.2.2.2.2.length:Int)+1:=zg (by omega) (by omega);have hin:(0<=(((r.2.2.2.2.2.2.2.length+(0+1):Nat):Int) - 1)/\(((r.2.2.2.2.2.2.2.length+(0+1):Nat):Int) - 1)<((r.2.2.2.2.2.2.2.length+(0+1):Nat):Int)):=⟨by omega,by omega⟩
 have hnm:=ad2 r.2.2.2.2.2.1 v name;have X0:(((r.2.2.2.2.2.2.2.length+(0+1):Nat):Int)==(r.2.2.2.2.2.2.2.length:Int)+1)=true:=by simp
 have key:(climb c r v name false).2=true->climb c r v name false=climb c r v name true:=λ h=>(ac8 h).symm;cases hwh:(climb c r v name false).2
 ·rcases aaN c r v name with h|⟨h1,h⟩|⟨h1,h⟩
  ·rw[h];simp only[aiv,aiV,aiw,AW r (show ze r<=137438953472 by omega),aiu];exact Ens.some rfl
  ·simp only[h,aiv,aiC,aiw,lz,h1,aiu];exact Ens.some rfl
  ·rw[h];simp only[Jz,aiv,aiC,aiw,lz,h1,aiu,aiE,aiA,aiz,hwr,aaP];rw[if_pos hin,aav,aiu,zq (e:=bI) hg];dsimp only;rw[beq_self_eq_true,aiw,beq_self_eq_true,aiw,hnm,beq_self_eq_true,aiw,X0];exact Ens.some rfl
 ·rw[key hwh];have XX:(climb c r v name true).2=true:=by rw[←key hwh]; exact hwh
  rcases aaN c r v name with h|⟨h1,h⟩|⟨h1,h⟩
  ·rw[h] at XX; cases XX
  ·simp only[h,aiv,aiC,aiw,lz,h1,aiu,AW (climb c r v name true).1 (show ze (climb c r v name true).1<=137438953472 by omega)];exact Ens.some rfl
  ·rw[h] at hl ⊢;simp only[cond_false,Bool.not_true,cond_true,lz,h1,Option.bind_some,AW (Jz r (up c v r.1) (2,0,([],0,[],[]),yN r.2.2.2.2.2.1 v name,(0,[],[]),0,0,0,0,0)) (Nat.le_trans hl (by omega))];simp only[Jz,aiE,aiA,aiz,hwr,aaP];rw[if_pos hin,aav,aiu,zq (e:=bI) hg];dsimp only;rw[beq_self_eq_true,aiw,beq_self_eq_true,aiw,hnm,beq_self_eq_true,aiw,X0];exact Ens.some rfl
end G448
