/- Plain laws, part 3: what the functions compute. No program in sight. -/
import Derived.Test.YthcbhmiocejpjaaGreatDoorCePureB
set_option linter.unusedSimpArgs false
set_option linter.unusedVariables false
namespace G448
open Ev Go
set_option maxRecDepth 100000
theorem Oy (code:List UInt8) (hb:code.length<=big):Ens (m8 (code,())) λ r=>WI r.1/\r.2.1.length<=140/\∀ d∈r.2.1,zh d.2.2.2<=10000:=by
 unfold m8;refine (aa7 code hb).bind λ r0 h0 => ?_;refine (aab r0 h0.1).bind λ r1 h1 => ?_;rw[II r1.2.1 h1.2.w_le,aqC];have ap3:∃ n,nV (code,70,140,())=some (n,())/\0<n/\n<=140:=by
  have t0:0<=Int.tdiv (code.length:Int) 4:=Int.tdiv_nonneg (by omega) (by decide);have t1:Int.tdiv (code.length:Int) 4<=(code.length:Int):=Int.tdiv_le_self _ (by omega);have hbb:(code.length:Int)<=4611686018427387904:=by unfold big at hb; omega
  unfold nV;dsimp only;rw[zg (n:=Int.tdiv (code.length:Int) 4) (by omega) (by omega),zg (n:=70+Int.tdiv (code.length:Int) 4) (by omega) (by omega)];cases aow:decide (70+Int.tdiv (code.length:Int) 4>140)
  ·have hn:=of_decide_eq_false aow;exact⟨70+Int.tdiv (code.length:Int) 4,rfl,by omega,by omega⟩
  ·exact⟨140,rfl,by decide,by decide⟩
 obtain⟨n,en,n0,n1⟩:=ap3;rw[en,aqC];refine (Zi (r0.1,r1.1.2) n ⟨h0.1.1,h1.1⟩).bind λ r4 h4 => ?_;have a4:=h4.2.2 n0;refine Ens.loop (λ x=>(0<=x.2.1/\x.2.1<=140)/\(x.1.length:Int)<=x.2.1/\(∀ d∈x.1,zh d.2.2.2<=10000)/\0<=x.2.2.1.2.1/\WI x.2.2.2.1) (λ x=>(141 - x.2.1).toNat) ?_ ⟨by simp,by simp,by simp,h4.1,h1.2⟩ (by dsimp only; rw[Zt]; omega)
 intro rec x hx ah3;obtain⟨x1,x2,x3,x4,x5⟩:=hx;refine Ens.cond (λ h => ?_) λ _=>Ens.some ⟨h1.2,by dsimp only; omega,x3⟩
 have h:x.2.1<r4.2.1:=by simpa using h
 refine (aa9 (r0.1,x.2.2.1.2) ⟨h0.1.1,x4⟩ x5).bind λ r6 h6 => ?_;refine Ens.ite (by simp only[aqG,aqJ]; omega) ?_
 refine (aah x5 r6.2.1 (by have:=h6.2; omega)).bind λ r7 h7 => ?_
 rw[zg (n:=x.2.1+1) (by omega) (by omega)];refine ah3 _ ⟨⟨by dsimp only; omega,by dsimp only; omega⟩,by simp only[aqM,aqG,aqJ]; omega,?_,h6.1,h7⟩ (by dsimp only; omega)
 intro d hd;simp only[ar0,aqW,aro,or_false] at hd;rcases hd with hd|rfl
 ·exact x3 d hd
 ·exact h6.2
theorem xN {α:Type} (p:α->Bool):∀ l:List α,(l.filter p).length+(l.filter λ x => !p x).length=l.length
 | []=>rfl
 | x::l=>by
  have ih:=xN p l;rw[arZ,arZ];cases p x<;>simp only[aqI,ar1,if_true,if_false,ar3,aqG]<;>omega
theorem WO {w:zr} (h:ji w=true):((yB w).length:Int)+(w.2.1.length:Int)=w.1.1:=by
 have hI:=eT h;have ahr:jV w.1.1 w.2.1=true:=by
  unfold ji at h;simp only[aqF] at h;exact h.2.1
 have hlen:=hI.len;have hf:=xN (λ (i:Nat)=>w.2.1.any (· == (i:Int))) (List.range w.2.2.1.length);have hh:(yB w).length=((List.range w.2.2.1.length).filter λ (i:Nat) => !(w.2.1.any (· == (i:Int)))).length:=by
  unfold yB;rw[arg]
 have hnd:(((List.range w.2.2.1.length).filter λ (i:Nat)=>w.2.1.any (· == (i:Int))).map λ (i:Nat)=>(i:Int)).Nodup:=by
  refine List.Pairwise.map _ (λ a b hab => ?_) (List.Pairwise.filter _ List.nodup_range);intro e; exact hab (by omega)
 have h1:=rW _ w.2.1 hnd λ x hx=>by
  simp only[asj,asb] at hx;obtain⟨i,⟨-,hi⟩,rfl⟩:=hx;simpa using hi
 have h2:=rW w.2.1 (((List.range w.2.2.1.length).filter λ (i:Nat)=>w.2.1.any (· == (i:Int))).map λ (i:Nat)=>(i:Int)) (aeC ahr) λ x hx=>by
  have hr:=dI ahr x hx;refine List.mem_map.2 ⟨x.toNat,List.mem_filter.2 ⟨List.mem_range.2 (by omega),?_⟩,by omega⟩;rw[show ((x.toNat:Nat):Int)=x by omega];simpa using hx
 rw[arg] at h1 h2;rw[arS] at hf;omega
theorem aaA {w:zr} {x:Int} (hx:x∈w.2.1):(yB w).any (· == x)=false:=by
 cases h:(yB w).any (· == x)
 ·rfl
 exfalso;unfold yB at h;simp only[List.any_eq_true,asj,asb,ar5] at h;obtain⟨y,⟨i,⟨-,hi⟩,rfl⟩,rfl⟩:=h;have:w.2.1.any (· == ((i:Nat):Int))=true:=by simpa using hx
 rw[this] at hi;cases hi
theorem pA {s t post:List UInt8} {at_:Int} (h0:0<=at_) (ht:t.length<=2147483647) (hs:s.drop at_.toNat=z8 t++post):zw s at_=(t,at_+((z8 t).length:Int),true):=by
 have h:=(dr (r:=(at_,true)) rfl h0 ht hs).1;unfold yf at h;split at h
 ·next hc=>
  simp only[aqO,and_true] at h;rw[←h.1,←h.2,←hc.1]
 ·simp at h
theorem WG {s:List UInt8} {at_:Int} (h:(zw s at_).2.2=true):(zw s at_).2.1=at_+((z8 (zw s at_).1).length:Int)/\s.drop at_.toNat=z8 (zw s at_).1++s.drop (zw s at_).2.1.toNat:=by
 have e:yf s (at_,true)=(((zw s at_).2.1,true),(zw s at_).1):=by unfold yf; rw[if_pos ⟨h,rfl⟩]
 have h2:=lZ (s:=s) (r:=(at_,true)) (by rw[e]);rw[e] at h2;obtain⟨_,_,h3,h4⟩:=h2;simp only[aqO,and_true] at h3;exact⟨h3,h4⟩
theorem abr (t:List UInt8) (h:t.length<=2147483647):1<=(z8 t).length:=by
 unfold z8;rw[di h,aqM];have:=lV (n:=t.length);omega
def YC (c:za) (s:List UInt8) (at_:Nat) (t:List UInt8):Prop:=t.length<=2147483647/\(jm c t).2=true/\∃ post,s.drop at_=z8 t++10::post
noncomputable def Zc (at_:Nat) (t:List UInt8):Nat:=at_+(z8 t).length+1
noncomputable def Yk (c:za) (s:List UInt8) (at_:Nat) (old:zx):zx×Int:=jq c s (s.length+1) at_ old
theorem V9 {α:Type} {a b:List α} {s:List α} {i:Nat} (h:s.drop i=a++b) (ha:0<a.length):i+a.length<=s.length/\s.drop (i+a.length)=b:=by
 have h1:=congrArg List.length h;simp only[ar2,aqM] at h1;refine⟨by omega,?_⟩;rw[←ark,h];simp
theorem Lq {c:za} {s:List UInt8} {at_:Nat} {t:List UInt8} (h:YC c s at_ t):Zc at_ t<=s.length:=by
 obtain⟨h1,_,post,h2⟩:=h;have:=congrArg List.length h2;simp only[ar2,aqM,aqG] at this;unfold Zc;omega
theorem qV {c:za} {s:List UInt8} {at_:Nat} {t:List UInt8} {old:zx} (h:YC c s at_ t):Yk c s at_ old=Yk c s (Zc at_ t) (jm c t).1:=by
 have hle:=Lq h;obtain⟨h1,h2,post,h3⟩:=h;have hp:=abr t h1;have hg:=pA (at_:=(at_:Int)) (by omega) h1 h3;obtain⟨h4,h5⟩:=V9 h3 (by omega);unfold Zc at hle ⊢;unfold Yk;have e:jq c s (s.length+1) at_ old=jq c s s.length (at_+(z8 t).length+1) (jm c t).1:=by
  rw[jq];simp only[hg];have e1:((at_:Int)+((z8 t).length:Int)).toNat=at_+(z8 t).length:=by omega
  have e2:((at_:Int)+((z8 t).length:Int)+1).toNat=at_+(z8 t).length+1:=by omega
  have e3:s.getD (at_+(z8 t).length) 0=10:=by
   rw[arw,←arx (at_+(z8 t).length),←arH,h5]; rfl
  rw[e1,e2,e3,h2,show decide ((at_:Int)+((z8 t).length:Int)<(s.length:Int))=true by simp; omega]
  rfl
 rw[e];exact kI c s _ _ _ (by omega) _ (by omega)
theorem Nh {c:za} {s:List UInt8} {at_:Nat} {old:zx} (h:∀ t,¬ YC c s at_ t):Yk c s at_ old=(old,(at_:Int)):=by
 unfold Yk;rw[jq];cases h1:(zw s (at_:Int)).2.2
 ·rfl
 ·obtain⟨g1,g2⟩:=WG h1;obtain⟨_,_,_,g3,g4,g5,g6⟩:=Ng h1;by_cases hc:((zw s (at_:Int)).2.1<(s.length:Int))/\s.getD (zw s (at_:Int)).2.1.toNat 0=10/\(jm c (zw s (at_:Int)).1).2=true
  ·exfalso;obtain⟨k1,k2,k3⟩:=hc;have hl:(zw s (at_:Int)).1.length<=2147483647:=by
    have:=KB s at_ g4;rw[g6]; simp only[aqV,ar2]; omega
   refine h (zw s (at_:Int)).1 ⟨hl,k3,s.drop ((zw s (at_:Int)).2.1.toNat+1),?_⟩;have hi:(zw s (at_:Int)).2.1.toNat<s.length:=by omega
   rw[show ((at_:Nat):Int).toNat=at_ from rfl] at g2;rw[g2,aqX hi];congr 2;rw[arw,arf hi] at k2;exact k2
  ·have:(decide ((zw s (at_:Int)).2.1<(s.length:Int)) && (s.getD (zw s (at_:Int)).2.1.toNat 0==10 && (jm c (zw s (at_:Int)).1).2))=false:=by
    cases hh:(decide ((zw s (at_:Int)).2.1<(s.length:Int)) && (s.getD (zw s (at_:Int)).2.1.toNat 0==10 && (jm c (zw s (at_:Int)).1).2))
    ·rfl
    ·simp only[aqF,aqP,ar5] at hh;exact absurd hh hc
   rw[this]; rfl
theorem BV {c:za} {s t x:List UInt8} {at_:Nat} (h:YC c s at_ t):YC c (s++x) at_ t:=by
 have hle:=Lq h;obtain⟨h1,h2,post,h3⟩:=h;refine⟨h1,h2,post++x,?_⟩;unfold Zc at hle;rw[asS (by omega),h3];simp
theorem ab6 {c:za} {s t:List UInt8} {at_ n:Nat} (h:YC c s at_ t) (hn:Zc at_ t<=n):YC c (s.take n) at_ t:=by
 obtain⟨h1,h2,post,h3⟩:=h;unfold Zc at hn;refine⟨h1,h2,post.take (n - (at_+(z8 t).length+1)),?_⟩;rw[asv,h3,as5,arI (by omega),show n - at_ - (z8 t).length=(n - (at_+(z8 t).length+1))+1 by omega,List.take_succ_cons]
theorem ab5 {c:za} {s t u:List UInt8} {at_:Nat} (h:YC c s at_ t) (k:YC c s at_ u):t=u:=by
 obtain⟨p,hp⟩:=h.2.2;obtain⟨q,hq⟩:=k.2.2;have a:=pA (at_:=(at_:Int)) (by omega) h.1 hp;have b:=pA (at_:=(at_:Int)) (by omega) k.1 hq;rw[a] at b;simp only[aqO,and_true] at b;exact b.1
theorem pC (c:za) (s x:List UInt8):∀ (k at_:Nat) (old:zx),s.length - at_<k->at_<=s.length->(Yk c s at_ old).2=(s.length:Int)->Yk c (s++x) at_ old=Yk c (s++x) s.length (Yk c s at_ old).1
 | 0,_,_,h,_,_=>by omega
 | k+1,at_,old,h,h1,h2=>by
  by_cases hn:∃ t,YC c s at_ t
  ·obtain⟨t,ht⟩:=hn;have hle:=Lq ht;rw[qV ht] at h2 ⊢;rw[qV (BV ht)];refine pC c s x k _ _ ?_ hle h2;unfold Zc at hle ⊢;omega
  ·have hs:=Nh (old:=old) (λ t ht=>hn ⟨t,ht⟩);rw[hs] at h2 ⊢;have:at_=s.length:=by simp only at h2; omega
   subst this;rfl
theorem pD (c:za) (s:List UInt8):∀ (k at_:Nat) (old:zx),s.length - at_<k->at_<=s.length->(at_:Int)<=(Yk c s at_ old).2/\(Yk c s at_ old).2<=(s.length:Int)
 | 0,_,_,h,_=>by omega
 | k+1,at_,old,h,h1=>by
  by_cases hn:∃ t,YC c s at_ t
  ·obtain⟨t,ht⟩:=hn;have hle:=Lq ht;rw[qV ht];have:=pD c s k (Zc at_ t) (jm c t).1 (by unfold Zc at hle ⊢; omega) hle
   unfold Zc at this ⊢;omega
  ·rw[Nh (old:=old) (λ t ht=>hn ⟨t,ht⟩)];simp only; omega
theorem Ah (c:za) (s:List UInt8):∀ (k at_:Nat) (old:zx),s.length - at_<k->at_<=s.length->Yk c (s.take (Yk c s at_ old).2.toNat) at_ old=Yk c s at_ old
 | 0,_,_,h,_=>by omega
 | k+1,at_,old,h,h1=>by
  by_cases hn:∃ t,YC c s at_ t
  ·obtain⟨t,ht⟩:=hn;have hle:=Lq ht;rw[qV ht];have hk:s.length - Zc at_ t<k:=by unfold Zc at hle ⊢; omega
   have hge:=pD c s k (Zc at_ t) (jm c t).1 hk hle;rw[qV (ab6 ht (by omega))];exact Ah c s k _ _ hk hle
  ·have hs:=Nh (old:=old) (λ t ht=>hn ⟨t,ht⟩);rw[hs];refine Nh λ t ht => ?_;have:=Lq ht;unfold Zc at this;simp only[aqN,aqV] at this;omega
theorem cy (c:za) (s:List UInt8):jk c s=Yk c s 0 jY:=rfl
theorem Bp (c:za) (s:List UInt8):0<=(jk c s).2/\(jk c s).2<=(s.length:Int):=by
 rw[cy];have:=pD c s (s.length+1) 0 jY (by omega) (by omega);omega
theorem aav (c:za) (s:List UInt8):jk c (s.take (jk c s).2.toNat)=jk c s:=by
 simp only[cy];exact Ah c s (s.length+1) 0 jY (by omega) (by omega)
theorem u6 {c:za} {s:zx} (h:zT c s=true):(0<=s.1/\s.1<=60)/\(0<=s.2.1/\s.2.1<=60)/\zP c s.2.2.1=true:=by
 unfold zT at h;simp only[aqF,aqP] at h;exact⟨⟨h.1.1,h.1.2⟩,⟨h.2.1.1,h.2.1.2⟩,h.2.2.1⟩
theorem u5 {c:za} {s:zx} (h:zT c s=true):jm c (jt c s)=(s,true):=by
 have hw:=mK h;obtain⟨r1,r2,r3⟩:=u6 h;obtain⟨v1,v2,v3,v4⟩:=wm r3;have e:jt c s=zn s.1++(zn s.2.1++(Kh s.2.2.1++z8 s.2.2.2)):=by
  unfold jt;rw[h,aqE,dn r3];simp only[ar7]
 have hd:s.2.2.2.length<=2147483647:=by simp only[zz] at hw; omega
 generalize hb:jt c s=b at *;obtain⟨a1,a2⟩:=Z8 (s:=b) (r:=(0,true)) rfl (Int.le_refl _) (n:=s.1) (by omega) (by simpa using e);obtain⟨b1,b2⟩:=Z8 (s:=b) (r:=(0+((zn s.1).length:Int),true)) rfl (by simp only; omega) (n:=s.2.1) (by omega) a2
 obtain⟨d1,d2⟩:=ub (s:=b) (r:=(0+((zn s.1).length:Int)+((zn s.2.1).length:Int),true)) rfl (by simp only; omega) v1 v2 v3 v4 b2
 obtain⟨f1,f2⟩:=dr (s:=b) (r:=(0+((zn s.1).length:Int)+((zn s.2.1).length:Int)+((Kh s.2.2.1).length:Int),true)) (post:=[]) rfl (by simp only; omega) hd (by rw[arz]; exact d2)
 have hr:yM b=((0+((zn s.1).length:Int)+((zn s.2.1).length:Int)+((Kh s.2.2.1).length:Int)+((z8 s.2.2.2).length:Int),true),s):=by
  unfold yM;simp only[a1,b1,d1,f1]
 have hl:(b.length:Int)=0+((zn s.1).length:Int)+((zn s.2.1).length:Int)+((Kh s.2.2.1).length:Int)+((z8 s.2.2.2).length:Int):=by
  rw[e]; simp only[aqM]; omega
 unfold jm;rw[hr,hl,h];simp
theorem BW {c:za} {s:zx} (h:zT c s=true):ye c s=z8 (jt c s)++[10]:=by
 obtain⟨r1,r2,r3⟩:=u6 h;have h0:((((jt c s).length:Int))==0)=false:=by
  unfold jt;rw[h,aqE,show s.1=((s.1.toNat:Nat):Int) by omega,di (by omega)];have:=lV (n:=s.1.toNat);simp only[aqM];simp; omega
 unfold ye z8;rw[h0,aqD];rfl
theorem aat {c:za} {b:List UInt8} {s:zx} (h:zT c s=true) (hu:(jk c b).2=(b.length:Int)):jk c (b++ye c s)=(s,((b++ye c s).length:Int)):=by
 have hw:=dF c s;have hs:=mK h;have hn:=BW h;rw[cy] at hu ⊢;rw[pC c b (ye c s) (b.length+1) 0 jY (by omega) (by omega) hu];have hat:YC c (b++ye c s) b.length (jt c s):=⟨by omega,by rw[u5 h],[],by rw[hn]; simp⟩
 rw[qV hat,u5 h];have he:Zc b.length (jt c s)=(b++ye c s).length:=by rw[hn]; unfold Zc; simp; omega
 rw[he];refine Nh λ t ht => ?_;have:=Lq ht;unfold Zc at this;omega
abbrev Vt:=Int->List UInt8->Int->Prop
def Sg (V:Vt) (p:zJ):Prop:=p.2.1≠[]->∀ k∈p.2.2,V p.1 p.2.1 k
def SgM (V:Vt) (m:zo):Prop:=m.1≠4->Sg V (jg m)
def M1 (V:Vt) (c:za) (b:List UInt8):Prop:=(jk c b).2=(b.length:Int)/\∀ n,Sg V (jk c (b.take n)).1.2.2.1
structure Cr (V:Vt) (c:za) (r:zb):Prop where
 high:Sg V r.2.2.2.1.2.2.1
 table:∀ p∈r.2.2.2.2.2.1,Sg V p
 held:∀ p∈r.2.2.2.2.2.2.2,SgM V p.2
 disk:M1 V c r.2.2.2.2.2.2.1.1
theorem Sg.mono {V W:Vt} (h:∀ a b k,V a b k->W a b k) {p:zJ} (s:Sg V p):Sg W p:=λ e k hk=>h _ _ _ (s e k hk)
theorem SgM.mono {V W:Vt} (h:∀ a b k,V a b k->W a b k) {m:zo} (s:SgM V m):SgM W m:=λ e=>(s e).mono h
theorem Cr.mono {V W:Vt} (h:∀ a b k,V a b k->W a b k) {c:za} {r:zb} (s:Cr V c r):Cr W c r:=
 ⟨s.high.mono h,λ p hp=>(s.table p hp).mono h,λ p hp=>(s.held p hp).mono h,s.disk.1,λ n=>(s.disk.2 n).mono h⟩
theorem dJ (V:Vt) (a:Int) (b:List UInt8):Sg V (a,b,[]):=λ _ k hk=>absurd hk (by simp)
theorem V2 (V:Vt) (c:za):M1 V c []:=by
 have e:jk c []=(jY,0):=by
  have h:=Bp c [];rw[cy];refine Nh λ t ht => ?_;have:=Lq ht;unfold Zc at this;simp only[aqJ] at this;omega
 refine⟨by rw[e]; rfl,λ n => ?_⟩
 rw[List.take_nil,e];exact dJ V 0 []
theorem V0 {V:Vt} {c:za} {b:List UInt8} {s:zx} (h:M1 V c b) (hs:zT c s=true) (hq:Sg V s.2.2.1):M1 V c (b++ye c s):=by
 have ha:=aat hs h.1;refine⟨by rw[ha],λ n => ?_⟩;by_cases h1:n<=b.length
 ·rw[arN h1]; exact h.2 n
 by_cases h2:(b++ye c s).length<=n
 ·rw[arI h2,ha]; exact hq
 have e:(b++ye c s).take n=b++(ye c s).take (n - b.length):=by
  rw[as5,arI (by omega)]
 have e0:jk c (b++(ye c s).take (n - b.length))=((jk c b).1,(b.length:Int)):=by
  rw[cy,pC c b _ (b.length+1) 0 jY (by omega) (by omega) h.1];refine Nh λ t ht => ?_;have hle:=Lq ht;have hx:=BV (x:=(ye c s).drop (n - b.length)) ht;rw[ar7,as0] at hx;have hw:=dF c s;have hs2:=mK hs;have hn:=BW hs;have hat:YC c (b++ye c s) b.length (jt c s):=⟨by omega,by rw[u5 hs],[],by rw[hn]; simp⟩
  rw[ab5 hx hat] at hle;unfold Zc at hle;have hl:(ye c s).length=(z8 (jt c s)).length+1:=by rw[hn]; simp
  simp only[aqM,aqV] at hle h2;omega
 rw[e,e0];have h3:=h.2 b.length;rw[arF] at h3;exact h3
theorem V3 {V:Vt} {c:za} {b:List UInt8} (h:M1 V c b) (n:Nat):M1 V c ((b.take n).take (jk c (b.take n)).2.toNat):=by
 have hr:=Bp c (b.take n);refine⟨?_,λ k => ?_⟩
 ·rw[aav,aqV]; omega
 ·rw[asd,asd]; exact h.2 _
theorem M8 {V:Vt} {c:za} {r:zb} (h:Cr V c r) (v:Int):Cr V c (zH r v):=⟨h.high,h.table,h.held,h.disk⟩
theorem fG {V:Vt} {c:za} {r:zb} (h:Cr V c r) {t:z6} (ht:∀ p∈t,Sg V p):Cr V c (yv r t):=⟨h.high,ht,h.held,h.disk⟩
theorem fI {V:Vt} {c:za} {r:zb} {s:zx} (h:Cr V c r) (hq:Sg V s.2.2.1):Cr V c (zt c r s).1:=by
 unfold zt;cases Ya r.2.2.2.1 s
 ·cases hc:((ja r.2.2.2.2.2.2.1 (ye c s)).2 && zT c s)
  ·exact h
  ·simp only[aqF] at hc;have e:(ja r.2.2.2.2.2.2.1 (ye c s)).1.1=r.2.2.2.2.2.2.1.1++ye c s:=by
    have h1:=hc.1;unfold ja at h1 ⊢;split
    ·rfl
    ·next hn=>rw[if_neg hn] at h1; cases h1
   have hd:=V0 h.disk hc.2 hq;rw[←e] at hd;exact⟨hq,h.table,h.held,hd⟩
 ·exact h
theorem fH {V:Vt} {c:za} {r:zb} (h:Cr V c r) (to:Int) {m:zo} (hm:SgM V m):Cr V c (ju c r to m).1:=by
 unfold ju;cases (!decide ((r.2.2.2.2.2.2.2.length:Int)≥30) && ZC c r.1 (to,m))
 ·exact h
 ·refine⟨h.high,h.table,λ p hp => ?_,h.disk⟩;simp only[aqE,Mf,ar0,aqW,aro,or_false] at hp;rcases hp with hp|rfl
  ·exact h.held p hp
  ·exact hm
theorem vq {V:Vt} {c:za} {s:zx} {q:zF} (hs:Sg V s.2.2.1) (hq:Sg V q):Sg V (see c s q).2.2.1:=by
 unfold see;cases zT c s
 ·exact hs
 cases zP c q
 ·exact hs
 show Sg V (My q s.2.2.1);unfold My;cases decide (q.1>s.2.2.1.1)
 ·exact hs
 ·exact hq
theorem GX {V:Vt} {q:zF} (hq:Sg V q) (v w:Int):SgM V (3,v,([],0,[],[]),(0,[],[]),q,w,0,0,0,0):=λ _=>by
 have e:jg ((3,v,([],0,[],[]),(0,[],[]),q,w,0,0,0,0):zo)=q:=by unfold jg; simp
 rw[e]; exact hq
theorem aeF {V:Vt} {p:zJ} (hp:Sg V p):SgM V (2,0,([],0,[],[]),p,(0,[],[]),0,0,0,0,0):=λ _=>by
 have e:jg ((2,0,([],0,[],[]),p,(0,[],[]),0,0,0,0,0):zo)=p:=by unfold jg; simp
 rw[e]; exact hp
theorem aeE {V:Vt} {b:y9} (hp:Sg V b.2):SgM V (1,0,b,(0,[],[]),(0,[],[]),0,0,0,0,0):=λ _=>by
 have e:jg ((1,0,b,(0,[],[]),(0,[],[]),0,0,0,0,0):zo)=b.2:=by unfold jg; simp
 rw[e]; exact hp
theorem VT {V:Vt} {c:za} {r:zb} (h:Cr V c r) {q:zF} (hq:Sg V q):Cr V c (top c r q).1:=by
 have h1:=fI (c:=c) h (vq (c:=c) h.high hq);unfold top;cases (zt c r (see c r.2.2.2.1 q)).2
 ·exact h
 cases decide (q.1+1>60)
 ·cases (yg c (q.1+1)==r.1)
  ·exact fH (M8 h1 _) _ (GX hq _ _)
  ·exact M8 h1 _
 ·exact h1
theorem aeH {V:Vt} {l:z6} (h:∀ p∈l,Sg V p) (v:Int) (name:List UInt8):Sg V (yJ l v name):=by
 unfold yJ;split
 ·next hf=>exact h _ (List.mem_of_find?_eq_some hf)
 ·exact dJ V v name
theorem pd {V:Vt} {c:za} {r:zb} (h:Cr V c r) (v:Int) (name:List UInt8) (force:Bool):Cr V c (climb c r v name force).1:=by
 have hg:=aeH h.table v name;have h1:Cr V c (Yj c r v name force).1:=by
  unfold Yj;cases (((yJ r.2.2.2.2.2.1 v name).2.2.length:Int)==0)
  ·cases (name==([]:List UInt8))
   ·simp only[aqD];cases (yg c v==r.1)
    ·simp only[aqD];cases (!force && decide ((Jt (under c v r.1) (yJ r.2.2.2.2.2.1 v name).2.2:Int)<((under c v r.1).length:Int)))
     ·exact fH h _ (aeF hg)
     ·exact h
    ·simp only[aqE];cases (Z4 c (yJ r.2.2.2.2.2.1 v name)).2
     ·exact h
     ·exact VT h hg
   ·exact h
  ·exact h
 unfold climb;cases (zd c r && (Yj c r v name force).2)
 ·exact h
 ·exact h1
theorem aaL {l:List Int} {x y:Int} (h:y∈j7 l x):y∈l∨y=x:=by
 unfold j7 at h;cases hc:l.any (· == x)
 ·rw[hc,aqD] at h;simp only[ar0,aqW] at h;rcases h with h|rfl|h
  ·exact .inl (List.mem_of_mem_take h)
  ·exact .inr rfl
  ·exact .inl (List.mem_of_mem_drop h)
 ·rw[hc] at h; exact .inl h
theorem rL:∀ (b a:List Int) {y:Int},y∈b.foldl j7 a->y∈a∨y∈b
 | [],_,_,h=>.inl h
 | x::b,a,y,h=>by
  rcases rL b (j7 a x) h with h|h
  ·rcases aaL h with h|rfl
   ·exact .inl h
   ·exact .inr (by simp)
  ·exact .inr (by simp[h])
theorem aaM {a b:List Int} {y:Int} (h:y∈ai a b):y∈a∨y∈b:=by
 rcases rL b _ h with h|h
 ·rcases rL a [] h with h|h
  ·cases h
  ·exact .inl h
 ·exact .inr h
theorem aeI {V:Vt} {a b:zJ} (ha:Sg V a) (hb:Sg V b) (h:(j5 a b).2=true):Sg V (j5 a b).1:=by
 unfold j5 at h ⊢;cases hc:(a.1==b.1 && a.2.1==b.2.1)
 ·rw[hc] at h; cases h
 ·simp only[aqF,ar5] at hc;intro he k hk;rcases aaM hk with hk|hk
  ·exact ha he k hk
  ·have:=hb (by rw[←hc.2]; exact he) k hk
   rw[←hc.1,←hc.2] at this;exact this
theorem G0 {V:Vt} {p:zJ} (hp:Sg V p):∀ (l:z6),(∀ x∈l,Sg V x)->∀ x∈jQ p l,Sg V x
 | [],_,x,hx=>by simp only[jQ,aqW,aro,or_false] at hx; rw[hx]; exact hp
 | q::r,h,x,hx=>by
  have hq:=h q (by simp);have hr:∀ x∈r,Sg V x:=λ x hx=>h x (by simp[hx]);unfold jQ at hx;cases hb:j3 q p
  ·rw[hb,aqD] at hx;cases hj:(j5 q p).2
   ·rw[hj] at hx;simp only[aqD,aqW] at hx;rcases hx with rfl|rfl|hx
    ·exact hp
    ·exact hq
    ·exact hr x hx
   ·rw[hj] at hx;simp only[aqE,aqW] at hx;rcases hx with rfl|hx
    ·exact aeI hq hp hj
    ·exact hr x hx
  ·rw[hb] at hx;simp only[aqE,aqW] at hx;rcases hx with rfl|hx
   ·exact hq
   ·exact G0 hp r hr x hx
theorem mP {V:Vt} {c:za} {l:z6} {p:zJ} (h:∀ x∈l,Sg V x) (hp:Sg V p):∀ x∈(zD c l p).1,Sg V x:=by
 unfold zD;cases (y5 c p && jR c (jQ p l))
 ·exact h
 ·exact G0 hp l h
theorem agW (c:za) (r:zb) (s:zx):(zt c r s).1.1=r.1:=by
 unfold zt;cases Ya r.2.2.2.1 s
 ·cases ((ja r.2.2.2.2.2.2.1 (ye c s)).2 && zT c s)<;>rfl
 ·rfl
theorem GZ {V:Vt} {i:Int} (h:∀ a b,V a b i) (v:Int) (name:List UInt8):Sg V (v,name,[i]):=λ _ k hk=>by
 simp only[aqW,aro,or_false] at hk;rw[hk]; exact h _ _
theorem xj {V:Vt} {c:za} {r:zb} (ho:∀ a b,V a b r.1) (h:Cr V c r) {b:y9} (hb:Sg V b.2):Cr V c (YG c r b).1:=by
 have hs:=vq (c:=c) h.high hb;have hv:Sg V (vote c (see c r.2.2.2.1 b.2) b).2.2.1:=by
  unfold vote;cases Z1 c (see c r.2.2.2.1 b.2) b<;>exact hs
 have k1:=fI (c:=c) h hs;have k2:=fI (c:=c) (M8 h (zl b.1)) hv;have e2:=agW c (zH r (zl b.1)) (vote c (see c r.2.2.2.1 b.2) b);unfold YG;cases zd c r
 ·exact h
 cases jn c b
 ·exact h
 simp only[aqI,aqD];cases decide (zl b.1≥r.2.1)
 ·simp only[aqD];cases (zt c r (see c r.2.2.2.1 b.2)).2
  ·exact h
  ·exact k1
 ·simp only[aqE];cases (zt c (zH r (zl b.1)) (vote c (see c r.2.2.2.1 b.2) b)).2
  ·exact h
  simp only[aqI,aqD];cases Z1 c (see c r.2.2.2.1 b.2) b
  ·exact k2
  simp only[aqI,aqD];generalize (zt c (zH r (zl b.1)) (vote c (see c r.2.2.2.1 b.2) b)).1=w at k2 e2;unfold voted;cases (zD c w.2.2.2.2.2.1 (zl b.1,b.1,[w.1])).2
  ·exact h
  ·exact pd (fG k2 (mP k2.table (GZ (by rw[e2]; exact ho) _ _))) _ _ _
theorem VL {V:Vt} {c:za} {r:zb} (h:Cr V c r) {p:zJ} (hp:Sg V p):Cr V c (Y3 c r p).1:=by
 have k:=pd (c:=c) (fG h (mP (c:=c) h.table hp)) p.1 p.2.1 false;unfold Y3;cases zd c r
 ·exact h
 cases y5 c p
 ·exact h
 cases (p.2.1==([]:List UInt8))
 ·cases decide (p.1<r.2.1)
  ·cases (zD c r.2.2.2.2.2.1 p).2
   ·exact h
   ·exact k
  ·exact h
 ·exact h
theorem VO {V:Vt} {c:za} {r:zb} (ho:∀ a b,V a b r.1) (h:Cr V c r):Cr V c (late c r).1:=by
 have k1:=fG (M8 h (r.2.1+1)) (mP (c:=c) h.table (GZ ho (r.2.1+1) []));have k2:=fH (c:=c) (M8 h (r.2.1+1)) (yg c (r.2.1+1)) (GX h.high (r.2.1+1) r.1);unfold late;cases zd c r
 ·exact h
 cases decide (r.2.1≥60)
 ·cases (yg c (r.2.1+1)==r.1)
  ·simp only[aqI,aqD];cases (ju c (zH r (r.2.1+1)) (yg c (r.2.1+1)) (3,r.2.1+1,([],0,[],[]),(0,[],[]),r.2.2.2.1.2.2.1,r.1,0,0,0,0)).2
   ·exact h
   ·exact k2
  ·simp only[aqI,aqD,aqE];cases (zD c r.2.2.2.2.2.1 (r.2.1+1,[],[r.1])).2
   ·exact h
   ·exact k1
 ·exact h
theorem VS {V:Vt} {c:za} {r:zb} (h:Cr V c r) {m:zo} (hm:SgM V m):Cr V c (YY c r m).1:=by
 have go:∀ (n i:Nat) (out:zb),Cr V c out->Cr V c (Jk c r m n i out).1:=by
  intro n;induction n with
  | zero=>exact λ _ _ k=>k
  | succ n ih=>
   intro i out k;simp only[Jk];cases ((i:Int)==r.1)
   ·simp only[aqD];have kt:Cr V c (tell c out i m).1:=by
     unfold tell;cases zd c out
     ·exact k
     ·exact fH k _ hm
    cases (tell c out i m).2
    ·exact h
    ·exact ih _ _ kt
   ·exact ih _ _ k
 unfold YY;cases zd c r
 ·exact h
 ·exact go _ 0 r h
theorem aeG {V:Vt} {c:za} {q:zF} (h:Sg V q) (v:Int) (l:zy):Sg V (Y1 c q v l).1.2:=by
 unfold Y1;cases (jn c (jy q.2.1 v l,q) && zl (jy q.2.1 v l)==v)
 ·exact dJ V _ _
 ·exact h
theorem GY {V:Vt} {c:za} {r:zb} (h:Cr V c r):Sg V (ask c r).1.2:=by
 unfold ask;cases (zd c r && (yg c r.2.1==r.1 && (!decide (r.2.2.1≥r.2.1) && (r.2.2.2.1.2.2.1.1==wr (r.2.1 - 1) || decide (((yJ r.2.2.2.2.2.1 r.2.1 []).2.2.length:Int)≥Ja c)))))
 ·exact dJ V _ _
 ·exact aeG h.high _ _
theorem VQ {V:Vt} {c:za} {r:zb} (h:Cr V c r):Cr V c (swept c r):=
 ⟨h.high,λ p hp=>h.table p (List.mem_filter.1 hp).1,h.held,h.disk⟩
theorem VM {V:Vt} {c:za} {r:zb} (h:Cr V c r) (x:zK):Cr V c (Y4 c r x).1:=by
 unfold Y4;cases zd c r
 ·exact h
 ·exact⟨h.high,h.table,h.held,h.disk⟩
theorem VJ {V:Vt} {c:za} {r:zb} (h:Cr V c r) (x:Int):Cr V c (r.1,r.2.1,x,r.2.2.2):=⟨h.high,h.table,h.held,h.disk⟩
theorem VP {V:Vt} {c:za} {r:zb} (h:Cr V c r):Cr V c (yo c r).1/\∀ p∈(yo c r).2,SgM V p.2:=by
 unfold yo;cases zd c r
 ·exact⟨h,by simp⟩
 ·refine⟨⟨h.high,h.table,by simp,?_⟩,h.held⟩;have e:(Kq r.2.2.2.2.2.2.1).1=r.2.2.2.2.2.2.1.1:=by unfold Kq; split<;>rfl
  show M1 V c (Kq r.2.2.2.2.2.2.1).1;rw[e]; exact h.disk
theorem VK {V:Vt} {c:za} {r:zb} (h:Cr V c r) (n:Int) (hok:zd c (r.1,r.2.1,r.2.2.1,r.2.2.2.1,r.2.2.2.2.1,r.2.2.2.2.2.1,ZS r.2.2.2.2.2.2.1 n,r.2.2.2.2.2.2.2)=true):
  Cr V c (rise c (r.1,r.2.1,r.2.2.1,r.2.2.2.1,r.2.2.2.2.1,r.2.2.2.2.2.1,ZS r.2.2.2.2.2.2.1 n,r.2.2.2.2.2.2.2)):=by
 obtain⟨k,e⟩:∃ k,(ZS r.2.2.2.2.2.2.1 n).1=r.2.2.2.2.2.2.1.1.take k:=by
  unfold ZS;split
  ·exact⟨_,rfl⟩
  ·exact⟨_,(List.take_length).symm⟩
 unfold rise;rw[hok];simp only[aqE,e];exact⟨h.disk.2 k,by simp,by simp,V3 h.disk k⟩
def KC (V:Vt) (c:za) (r o:zb):Prop:=Kp c r o/\Cr V c o
theorem aeN {V:Vt} {m:zo} (h:SgM V m) (e:(m.1==1)=true):Sg V m.2.2.1.2:=by
 have e:m.1=1:=by simpa using e
 have k:=h (by omega);have e':jg m=m.2.2.1.2:=by unfold jg; rw[if_neg (by omega),if_pos e]
 rw[e'] at k; exact k
theorem aeO {V:Vt} {m:zo} (h:SgM V m) (e:(m.1==2)=true):Sg V m.2.2.2.1:=by
 have e:m.1=2:=by simpa using e
 have k:=h (by omega);have e':jg m=m.2.2.2.1:=by unfold jg; rw[if_pos e]
 rw[e'] at k; exact k
theorem aeP {V:Vt} {m:zo} (h:SgM V m) (e:(m.1==3)=true):Sg V m.2.2.2.2.1:=by
 have e:m.1=3:=by simpa using e
 have k:=h (by omega);have e':jg m=m.2.2.2.2.1:=by unfold jg; rw[if_neg (by omega),if_neg (by omega)]
 rw[e'] at k; exact k
theorem W4 {V:Vt} {c:za} {r:zb} (h:zd c r=true) (hc:Cr V c r) (v:Int) (q:zF) (who:Int) (hq:zj q<=4000) (sq:Sg V q):Ens (gk (c,r,v,q,who,())) λ o=>KC V c r o.1:=by
 have hw:=Ze h;have hv:=KP h;have hs:zz r.2.2.2.1<=260000:=by simp only[zf] at hw; omega
 have akP:=N1 c r.2.2.2.1 q;obtain⟨k1,k2⟩:=cw h (see c r.2.2.2.1 q);have c1:=fI (c:=c) hc (vq (c:=c) hc.high sq);have hwr:write c r (see c r.2.2.2.1 q)=zt c r (see c r.2.2.2.1 q):=by unfold write; rw[h]; rfl
 have aig:Ens ((zO (r,())).bind λ r1=>some (r1.1,false,())) λ o=>KC V c r o.1:=by
  rw[ZW r (by omega),aqC]; exact Ens.some ⟨Kp.refl h,hc⟩
 unfold gk;dsimp only;rw[ZU c r (by omega),aqC,h];refine Ens.cond (λ _=>aig) λ _ => ?_;rw[Yl,aqC];refine Ens.cond (λ _=>aig) λ hvv => ?_;have hvv:1<=v/\v<=60:=by simpa using hvv
 rw[Mi c q (by omega),aqC];refine Ens.cond (λ _=>aig) λ hqo => ?_;have hqo:zP c q=true:=by simpa using hqo
 have hqv:0<=q.1/\q.1<=60:=by
  have h1:=lX hqo;have:=qs h1.1;omega
 rw[Yl,aqC];refine Ens.cond (λ _=>aig) λ _ => ?_;rw[pO c r.2.2.2.1 q (by omega) (by omega),aqC,ka c r (see c r.2.2.2.1 q) (by omega) (by omega),aqC,hwr];dsimp only;generalize hg:zt c r (see c r.2.2.2.1 q)=g at k1 k2 c1;have hgw:=Ze k1.1;have hgt:=(Jd k1.1).2.2.2.2.2.2.1;have aql:=eJ hgt;refine Ens.cond (λ _=>aig) λ _ => ?_;rw[Qj,aqC,zg (n:=q.1+1) (by omega) (by omega)];have m1:1<=mx g.1.2.1 (mn (q.1+1) 60)/\mx g.1.2.1 (mn (q.1+1) 60)<=60:=by
  rw[Ms,cD];split<;>split<;>omega
 generalize mx g.1.2.1 (mn (q.1+1) 60)=v1 at m1;have m2:1<=mx v1 v/\mx v1 v<=60:=by
  rw[Ms]; split<;>omega
 generalize mx v1 v=v2 at m2;have ahe:∀ {w:zb} {x:zb},KC V c r w->zL x.2.2.2.2.2.1<=137438953472->Ens ((Li (c,x,v,())).bind λ r15=>bif r15.1 then some (zH w v2,true,()) else some (zH w v1,true,())) λ o=>KC V c r o.1:=by
  intro w x kw hx;obtain⟨b,hb⟩:=XM c x v hx;rw[hb,aqC];exact Ens.cond (λ _=>Ens.some ⟨kw.1.trans (Qy kw.1.1 m2),M8 kw.2 _⟩) λ _=>Ens.some ⟨kw.1.trans (Qy kw.1.1 m1),M8 kw.2 _⟩
 have aiO:=ahe (x:=zH g.1 v1) ⟨k1,c1⟩ (by simp only[zH]; omega)
 refine Ens.cond (λ _ => ?_) λ _=>aiO;refine Ens.cond (λ _ => ?_) λ _=>aiO;have hp:=bl v who [];simp only[aqJ] at hp;rw[gS c g.1.2.2.2.2.2.1 (v,[],[who]) (by omega) (by omega),Option.bind_some];refine Ens.cond (λ _=>aig) λ ht => ?_;have ht:(zD c g.1.2.2.2.2.2.1 (v,[],[who])).2=true:=by simpa using ht
 have hok:=ql ht;have htw:=eJ hok;exact ahe (w:=yv g.1 (zD c g.1.2.2.2.2.2.1 (v,[],[who])).1) (x:=zH (yv g.1 (zD c g.1.2.2.2.2.2.1 (v,[],[who])).1) v1) ⟨k1.trans (ND k1.1 hok),fG c1 (mP c1.table λ e=>absurd rfl e)⟩ (by simp only[zH,yv]; omega)
theorem pI {V:Vt} {c:za} {r:zb} (h:zd c r=true) (hc:Cr V c r) (ho:∀ a b,V a b r.1) (m:zo) (hm:zh m<=1073741824) (sm:SgM V m):Ens (bP (c,r,m,())) λ o=>KC V c r o.1:=by
 have hw:=Ze h;have aig:Ens ((zO (r,())).bind λ r1=>some (r1.1,false,())) λ o=>KC V c r o.1:=by
  rw[ZW r (by omega),aqC]; exact Ens.some ⟨Kp.refl h,hc⟩
 have ahe:∀ (x:zb×Bool×Unit),KC V c r x.1->Ens (bif !x.2.1 then (zO (r,())).bind λ r3=>some (r3.1,false,()) else (Mk (x.1.2.2.2.2.2.1,wr (x.1.2.1 - 1),())).bind λ r4=>
   (Lf (c,(x.1.1,x.1.2.1,x.1.2.2.1,x.1.2.2.2.1,x.1.2.2.2.2.1,r4.1,x.1.2.2.2.2.2.2),())).bind λ r5=>(Lc (x.1.2.2.2.2.1,r5.1,())).bind λ r6=>some (((x.1.1,x.1.2.1,x.1.2.2.1,x.1.2.2.2.1,r6.1,r4.1,x.1.2.2.2.2.2.2):zb),true,())) λ o=>KC V c r o.1:=by
  intro x k;refine Ens.cond (λ _=>aig) λ _ => ?_;obtain⟨h1,h2,h3,h4,h5,h6,h7,h8,h9,h10⟩:=Jd k.1.1;have hw:=Ze k.1.1;have hkt:=ND k.1.1 (vY h7 (x.1.2.1 - 1));have hw2:=Ze hkt.1;have hsw:=IO c (yv x.1 (Zn x.1.2.2.2.2.2.1 (x.1.2.1 - 1)));have ht:=eJ h7;simp only[eQ,zu] at hsw;have hpl:x.1.2.2.2.2.1.length<=260000:=by simp only[zf,Kt] at hw; omega
  rw[zg (n:=x.1.2.1 - 1) (by omega) (by omega),Xy _ _ (by omega),aqC];dsimp only;have es:Lf (c,yv x.1 (Zn x.1.2.2.2.2.2.1 (x.1.2.1 - 1)),())=some (state c (yv x.1 (Zn x.1.2.2.2.2.2.1 (x.1.2.1 - 1))),()):=Xv c _ (by omega);have ep:Lc (x.1.2.2.2.2.1,state c (yv x.1 (Zn x.1.2.2.2.2.2.1 (x.1.2.1 - 1))),())=some (Lw x.1.2.2.2.2.1 (state c (yv x.1 (Zn x.1.2.2.2.2.2.1 (x.1.2.1 - 1)))),()):=Xj _ _ (by omega) (by omega) (by omega);unfold yv at es ep;rw[es,aqC,ep,aqC];exact Ens.some ⟨k.1.trans (Bc k.1.1),VQ k.2⟩
 unfold bP;dsimp only;rw[bU c m (by omega),aqC];refine Ens.cond (λ _=>aig) λ hmo => ?_;have hmo:zR c m=true:=by simpa using hmo
 have hmw:=QC hmo;have w1:zA m.2.2.1<=3847:=by simp only[zh] at hmw; omega
 have w2:zp m.2.2.2.1<=3847:=by simp only[zh] at hmw; omega
 have w3:zj m.2.2.2.2.1<=3847:=by simp only[zh] at hmw; omega
 refine Ens.cond (λ e1 => ?_) λ e1 => ?_
 ·rw[At c r m.2.2.1 (by omega),aqC];exact ahe ((YG c r m.2.2.1).1,(YG c r m.2.2.1).2,()) ⟨kC h _,xj ho hc (aeN sm e1)⟩
 refine Ens.cond (λ e2 => ?_) λ e2 => ?_
 ·rw[W2 c r m.2.2.2.1 (by omega) (by omega),aqC];exact ahe ((Y3 c r m.2.2.2.1).1,(Y3 c r m.2.2.2.1).2,()) ⟨A7 h _,VL hc (aeO sm e2)⟩
 refine Ens.cond (λ e3 => ?_) λ e3 => ?_
 ·exact (W4 h hc m.2.1 m.2.2.2.2.1 m.2.2.2.2.2.1 (by omega) (aeP sm e3)).bind λ x hx=>ahe x hx
 ·rw[W3 c r m.2.2.2.2.2.2 (by omega),aqC];exact ahe ((Y4 c r m.2.2.2.2.2.2).1,(Y4 c r m.2.2.2.2.2.2).2,()) ⟨A9 h _,VM hc _⟩
theorem XH {V:Vt} {c:za} {r:zb} (h:zd c r=true) (hc:Cr V c r) (ho:∀ a b,V a b r.1):Ens (kc (c,r,())) λ o=>KC V c r o.1:=by
 have hw:=Ze h;have ha:=wT c r;have k0:=ky h;have kt:=k0.trans (Bd k0.1 (1,0,(ask c r).1,(0,[],[]),(0,[],[]),0,0,0,0,0));have hw1:=Ze k0.1;have hw2:=Ze kt.1;have kb:=kt.trans (kC kt.1 (ask c r).1);have ct:=VS (c:=c) (VJ hc r.2.1) (aeE (GY (c:=c) hc));have cb:=xj (c:=c) (λ a b=>by rw[kt.2]; exact ho a b) ct (GY (c:=c) hc)
 unfold kc;dsimp only;rw[WQ c r (by omega),aqC];refine Ens.cond (λ _=>Ens.some ⟨Kp.refl h,hc⟩) λ _ => ?_;rw[ZW r (by omega),aqC];have e1:=Xz c (r.1,r.2.1,r.2.1,r.2.2.2) (1,0,(ask c r).1,(0,[],[]),(0,[],[]),0,0,0,0,0) (by omega) (by simp only[zh,zp,zj,zu,aqJ]; omega)
 have e2:=At c (YY c (r.1,r.2.1,r.2.1,r.2.2.2) (1,0,(ask c r).1,(0,[],[]),(0,[],[]),0,0,0,0,0)).1 (ask c r).1 (by omega);rw[e1,aqC];refine Ens.cond (λ _=>Ens.some ⟨Kp.refl h,hc⟩) λ _ => ?_;rw[e2,aqC];exact Ens.cond (λ _=>Ens.some ⟨Kp.refl h,hc⟩) λ _=>Ens.some ⟨kb,cb⟩
theorem XQ {V:Vt} {c:za} {r:zb} (h:zd c r=true) (hc:Cr V c r):Ens (ko (c,r,())) λ o=>KC V c r o.1:=by
 have hw:=Ze h;have ht:(r.2.2.2.2.2.1.length:Int)<=260000:=by simp only[zf,zL] at hw; omega
 unfold ko;dsimp only;rw[zg (n:=(r.2.2.2.2.2.1.length:Int) - 1) (by omega) (by omega)];refine Ens.loop (λ x => -1<=x.1/\x.1<(r.2.2.2.2.2.1.length:Int)) (λ x=>(x.1+1).toNat) ?_ ⟨by dsimp only; omega,by dsimp only; omega⟩ (by dsimp only; rw[Zt]; omega)
 intro rec x hx ah3;refine Ens.cond (λ h0 => ?_) λ _=>Ens.some ⟨Kp.refl h,hc⟩;have h0:x.1≥0:=by simpa using h0
 refine Ens.ite ⟨h0,hx.2⟩ ?_;have hi:x.1.toNat<r.2.2.2.2.2.1.length:=by omega
 have hg:=List.getElem?_eq_getElem hi;have hn:=B8 hw (List.getElem_mem hi);rw[zm (e:=YA) hg];refine Ens.cond (λ _ => ?_) λ _ => ?_
 ·rw[pH c r _ _ true (show zf r<=15000000 by omega) (show (r.2.2.2.2.2.1[x.1.toNat]).2.1.length<=5000000 by omega),Option.bind_some];exact Ens.cond (λ _=>Ens.some ⟨Kp.refl h,hc⟩) λ _=>Ens.some ⟨kz h _ _ _,pd hc _ _ _⟩
 ·rw[zg (n:=x.1 - 1) (by omega) (by omega)];exact ah3 _ ⟨by dsimp only; omega,by dsimp only; omega⟩ (by dsimp only; omega)
theorem XR {V:Vt} {c:za} {r:zb} (h:zd c r=true) (hc:Cr V c r) (ho:∀ a b,V a b r.1) (d:ZA) (hm:zh d.2.2.2<=100000000):Ens (kp (c,r,d,())) λ o=>KC V c r o.1:=by
 have hw:=Ze h;have akr:=(Jd h).2.2.2.2.2.2.2.1;have hf:=xJ akr d.2.2.1;unfold kp;dsimp only;rw[ZW r (by omega),aqC];refine Ens.cond (λ _=>(XH h hc ho).bind λ o ho=>Ens.some ho) λ _ => ?_;refine Ens.cond (λ _=>(XQ h hc).bind λ o ho=>Ens.some ho) λ _ => ?_;refine Ens.cond (λ _ => ?_) λ _ => ?_
 ·rw[W8 c r (by omega),aqC];exact Ens.cond (λ _=>Ens.some ⟨Kp.refl h,hc⟩) λ _=>Ens.some ⟨Ba h,VO ho hc⟩
 refine Ens.cond (λ _ => ?_) λ _ => ?_
 ·have hd:=JY.1 akr;have hd2:=JY.1 hf;have hwr:zf (r.1,r.2.1,r.2.2.1,r.2.2.2.1,r.2.2.2.2.1,r.2.2.2.2.2.1,ZS r.2.2.2.2.2.2.1 d.2.2.1,r.2.2.2.2.2.2.2)<=1073741824:=by
   simp only[zf,KY] at hw ⊢;omega
  rw[WY _ _ (show r.2.2.2.2.2.2.1.1.length<=17592186044416 by omega),aqC];dsimp only;rw[Xn c _ hwr,aqC];have h':zd c (r.1,r.2.1,r.2.2.1,r.2.2.2.1,r.2.2.2.2.1,r.2.2.2.2.2.1,ZS r.2.2.2.2.2.2.1 d.2.2.1,r.2.2.2.2.2.2.2)=true:=by
   unfold zd at h ⊢;simp only[aqF] at h ⊢;obtain⟨a1,a2,a3,a4,a5,a6,a7,a8,a9⟩:=h;exact⟨a1,a2,a3,a4,a5,a6,a7,hf,a9⟩
  exact Ens.some ⟨⟨(kD h').1,(kD h').2⟩,VK hc _ h'⟩
 by_cases e4:d.2.2.2.1=4
 ·refine (pI h hc ho d.2.2.2 (by omega) λ e=>absurd e4 e).bind λ o ho => ?_;exact Ens.cond (λ _=>Ens.cond (λ _=>Ens.some ⟨Kp.refl h,hc⟩) λ _=>Ens.some ho) λ _=>Ens.some ⟨Kp.refl h,hc⟩
 ·refine (pI (V:=λ _ _ _=>True) h (hc.mono λ _ _ _ _=>trivial) (λ _ _=>trivial) d.2.2.2 (by omega) λ _ _ _ _=>trivial).bind λ o _ => ?_;exact Ens.cond (λ _=>Ens.cond (λ _=>Ens.some ⟨Kp.refl h,hc⟩) λ e=>absurd (by simpa using e) e4) λ _=>Ens.some ⟨Kp.refl h,hc⟩
def VN (L:ym) (S:ya):Vt:=λ a b k=>k∈L∨(a,b,k)∈S
def VR (L:ym) (S:ya) (i:Int):Vt:=λ a b k=>k=i∨k∈L∨(a,b,k)∈S
structure CI (w:zr):Prop where
 reps:∀ (i:Nat) (h:i<w.2.2.1.length),(i:Int)∉w.2.1->Cr (VR w.2.1 w.2.2.2.2 i) w.1 w.2.2.1[i]
 net:∀ x∈w.2.2.2.1,(jr w.1 x.2).2=true->SgM (VN w.2.1 w.2.2.2.2) (jr w.1 x.2).1
theorem pF {w:zr} {x:Int} (h:(yB w).any (· == x)=true):x∉w.2.1:=λ hx=>by
 rw[aaA hx] at h; cases h
theorem CI.setRep {c:za} {l:ym} {reps:Zf} {net:yQ} {said:ya} (h:CI (c,l,reps,net,said)) (i:Nat) {r:zb} (hr:Cr (VR l said i) c r):CI (c,l,reps.set i r,net,said):=by
 refine⟨λ j hj hn => ?_,h.net⟩;have hj':j<reps.length:=by simpa using hj
 have hk:=h.reps j hj' hn;dsimp only at hk ⊢;rw[List.getElem_set];by_cases e:i=j
 ·subst e; rw[if_pos rfl]; exact hr
 ·rw[if_neg e]; exact hk
theorem CI.cut {c:za} {l:ym} {reps:Zf} {net:yQ} {said:ya} (h:CI (c,l,reps,net,said)) (i:Nat):CI (c,l,reps,net.take i++net.drop (i+1),said):=
 ⟨h.reps,λ x hx=>h.net x (by
  simp only[ar0] at hx;rcases hx with hx|hx
  ·exact List.mem_of_mem_take hx
  ·exact List.mem_of_mem_drop hx)⟩
theorem CI.more {c:za} {l:ym} {reps:Zf} {net:yQ} {said:ya} (h:CI (c,l,reps,net,said)) {x:M3} (hx:(jr c x.2).2=true->SgM (VN l said) (jr c x.2).1):CI (c,l,reps,net++[x],said):=
 ⟨h.reps,λ y hy=>by
  simp only[ar0,aqW,aro,or_false] at hy;rcases hy with hy|rfl
  ·exact h.net y hy
  ·exact hx⟩
theorem CI.send {c:za} {l:ym} {reps:Zf} {net:yQ} {said:ya} (h:CI (c,l,reps,net,said)) {ps:jw} (hp:∀ p∈ps,zR c p.2=true/\SgM (VN l said) p.2):CI (G448.send (c,l,reps,net,said) ps):=by
 have go:∀ (ps:jw) (ws:yQ),(∀ p∈ps,zR c p.2=true/\SgM (VN l said) p.2)->CI (c,l,reps,ws,said)->CI (c,l,reps,Kk c ws ps,said):=by
  intro ps;induction ps with
  | nil=>exact λ _ _ h=>h
  | cons p ps ih=>
   intro ws hp h;refine ih _ (λ q hq=>hp q (by simp[hq])) ?_;obtain⟨p1,p2⟩:=hp p (by simp);unfold JQ;cases decide (((jx c p.2).length:Int)>0)
   ·exact h
   cases (decide (p.1≥0) && decide (p.1<=wr (c.1 - 1)))
   ·exact h
   cases decide ((ws.length:Int)<60)
   ·exact h
   ·exact h.more λ _=>by rw[BE p1]; exact p2
 unfold G448.send;cases ji (c,l,reps,net,said)
 ·exact h
 ·exact go ps net hp h
theorem GH {S:ya} {v:ZQ} (h:S.any (λ x=>x.1==v.1 && (x.2.1==v.2.1 && x.2.2==v.2.2))=true):v∈S:=by
 simp only[List.any_eq_true,aqF,ar5] at h;obtain⟨x,hx,e1,e2,e3⟩:=h;have:x=v:=Prod.ext e1 (Prod.ext e2 e3);rw[←this]; exact hx
theorem vu {L:ym} {S:ya} {v:Int} {n:List UInt8} {who:List Int} (h:signed L S v n who=true):Sg (VN L S) (v,n,who):=λ _ k hk=>by
 unfold signed at h;have h:=List.all_eq_true.1 h k hk;simp only[arj] at h;rcases h with h|h
 ·exact .inl (by simpa using h)
 ·exact .inr (GH (v:=(v,n,k)) h)
theorem aaK {c:za} {L:ym} {S:ya} {m:zo} (h:Lm c L S m=true):zR c m=true/\SgM (VN L S) m:=by
 unfold Lm at h;simp only[aqF] at h;obtain⟨h0,h⟩:=h;refine⟨h0,λ h4 => ?_⟩;unfold jg;cases k1:(m.1==1)
 ·have e1:¬ m.1=1:=by simpa using k1
  rw[k1,aqD] at h;cases k2:(m.1==2)
  ·have e2:¬ m.1=2:=by simpa using k2
   rw[k2,aqD] at h;cases k3:(m.1==3)
   ·exfalso;have e3:¬ m.1=3:=by simpa using k3
    rcases BG h0 with k|k|k|k<;>simp at k<;>omega
   ·rw[k3,aqE,aqF] at h;rw[if_neg e2,if_neg e1];exact vu h.2
  ·rw[k2,aqE] at h;rw[if_pos (by simpa using k2)];exact vu h
 ·have e1:m.1=1:=by simpa using k1
  rw[k1,aqE,aqF] at h;rw[if_neg (by omega),if_pos e1];exact vu h.2
theorem aeJ {L:ym} {S:ya} {i:Int} {m:zo} (h:SgM (VR L S i) m) (hs:∀ s∈jU i m,s∈S):SgM (VN L S) m:=λ h4 he k hk=>by
 rcases h h4 he k hk with rfl|h
 ·refine .inr (hs _ ?_);unfold jU;have ha:(jg m).2.2.any (· == k)=true:=by simpa using hk
  rw[if_neg h4,if_neg he,if_pos ha];simp
 ·exact h
theorem aay (w:zr) (id:Int) (ps:jw):∃ S,learn w id ps=(w.1,w.2.1,w.2.2.1,w.2.2.2.1,S)/\∀ s∈w.2.2.2.2,s∈S:=by
 have one:∀ (l acc:ya) (s:ZQ),s∈acc->s∈l.foldl Y7 acc:=by
  intro l;induction l with
  | nil=>exact λ _ _ h=>h
  | cons x l ih=>
   intro acc s h;refine ih _ s ?_;unfold Y7;cases (decide ((acc.length:Int)<300) && !qX acc x)
   ·exact h
   ·exact List.mem_append_left _ h
 have two:∀ (l:jw) (acc:ya) (s:ZQ),s∈acc->s∈l.foldl (QA id) acc:=by
  intro l;induction l with
  | nil=>exact λ _ _ h=>h
  | cons x l ih=>exact λ acc s h=>ih _ s (one _ _ _ h)
 unfold learn;cases (yB w).any (· == id)
 ·exact⟨w.2.2.2.2,rfl,λ _ h=>h⟩
 ·exact⟨_,rfl,two _ _⟩
theorem XO {w:zr} (h:WI w) (hC:CI w) (d:ZA) (ht:Qv w d=true) (hk:(d.1==3)=true∨(d.1==4)=true∨(d.1==5)=true∨(d.1==10)=true) (hm:zh d.2.2.2<=100000000):Ens (Mn (w,d,())) λ o=>yl o.1<=1000000000/\CI o.1:=by
 obtain⟨c,l,reps,net,said⟩:=w;have hw:=h.w_le2;have hn:=h.net;have hb:=zS h.conf;have hlen:=h.len;have hl:=h.liars.1;have hsl:=h.said.1;have hhl:=pE (c,l,reps,net,said);dsimp only at hn hlen hb hl hhl hsl;have amm:((d.1==3)=true∨(d.1==4)=true∨(d.1==5)=true)->0<=d.2.1/\d.2.1<(net.length:Int):=by
  intro hh;unfold Qv at ht;have e:((d.1==3) || ((d.1==4) || (d.1==5)))=true:=by
   rcases hh with e|e|e<;>simp[e]
  rw[e] at ht;simp only[aqE,aqF,aqP] at ht;omega
 unfold Mn;dsimp only;rw[Qs _ (by omega),aqC];dsimp only;refine Ens.cond (λ h3 => ?_) λ h3 => ?_
 ·obtain⟨r0,r1⟩:=amm (.inl h3);refine Ens.ite ⟨r0,r1⟩ ?_;have hi:d.2.1.toNat<net.length:=by omega
  have hg:=List.getElem?_eq_getElem hi;have hx:=hn.2 _ (List.getElem_mem hi);have hsg:=hC.net _ (List.getElem_mem hi);dsimp only at hsg;generalize net[d.2.1.toNat]=x at hg hx hsg;have hW:=h.withNet (xt hn d.2.1.toNat hi);rw[zg (n:=d.2.1+1) (by omega) (by omega),xz net d.2.1 r0 r1,aqC,zm (e:=bv) hg,Aw c x.2 (by omega),aqC];dsimp only;have akt:Ens (some (((c,l,reps,net.take d.2.1.toNat++net.drop (d.2.1.toNat+1),said):zr),(0:Int),())) λ o=>yl o.1<=1000000000/\CI o.1:=Ens.some ⟨by have:=hW.w_le2; dsimp only; omega,hC.cut d.2.1.toNat⟩
  refine Ens.cond (λ hmo => ?_) λ _=>akt;have hmo:(jr c x.2).2=true:=by simpa using hmo
  have hmw:=BF c x.2 (by omega);rw[gn _ (by dsimp only; omega) (by dsimp only; omega),aqC]
  dsimp only;rw[JB _ x.1 (by omega),aqC];refine Ens.cond (λ hho => ?_) λ _=>akt;obtain⟨r,hr,hok,hrw,ahr⟩:=hW.rep (i:=x.1) hx.1.1 (by omega);refine Ens.ite ⟨hx.1.1,show x.1<(reps.length:Int) by omega⟩ ?_;rw[zm (e:=YB) hr];have hj:x.1.toNat<reps.length:=by omega
  have hrr:reps[x.1.toNat]=r:=by rw[arf hj] at hr; exact Option.some.inj hr
  have amd:((x.1.toNat:Nat):Int)∉l:=by rw[show ((x.1.toNat:Nat):Int)=x.1 by omega]; exact pF hho
  have hid:r.1=((x.1.toNat:Nat):Int):=by have:=(h.reps x.1.toNat hj).2; dsimp only at this; rw[hrr] at this; exact this
  have hcr:=hC.reps x.1.toNat hj amd;dsimp only at hcr;rw[hrr] at hcr;refine (pI hok hcr (λ a b=>.inl hid) _ hmw ((hsg hmo).mono λ a b k hk=>.inr hk)).bind λ o ho => ?_;refine Ens.ite ⟨hx.1.1,show x.1<(reps.length:Int) by omega⟩ (Ens.some ⟨?_,(hC.cut d.2.1.toNat).setRep x.1.toNat ho.2⟩);have:=(ahr o.1 ho.1).w_le2;dsimp only;omega
 refine Ens.cond (λ h4 => ?_) λ h4 => ?_
 ·obtain⟨r0,r1⟩:=amm (.inr (.inl h4));have hi:d.2.1.toNat<net.length:=by omega
  have hW:=h.withNet (xt hn d.2.1.toNat hi);rw[zg (n:=d.2.1+1) (by omega) (by omega),xz net d.2.1 r0 r1,aqC];exact Ens.some ⟨by have:=hW.w_le2; dsimp only; omega,hC.cut d.2.1.toNat⟩
 refine Ens.cond (λ h5 => ?_) λ h5 => ?_
 ·obtain⟨r0,r1⟩:=amm (.inr (.inr h5));refine Ens.ite ⟨r0,r1⟩ ?_;have hi:d.2.1.toNat<net.length:=by omega
  have hg:=List.getElem?_eq_getElem hi;have hx:=hn.2 _ (List.getElem_mem hi);have hsg:=hC.net _ (List.getElem_mem hi);dsimp only at hsg;generalize net[d.2.1.toNat]=x at hg hx hsg;have hxw:Yg x<=1000000:=hx.2;rw[zm (e:=bv) hg,AN x (by omega),aqC];refine Ens.ite (by simp only[aqG,aqJ]; have:=hn.1; omega) (Ens.some ⟨?_,hC.more hsg⟩)
  have:=On c l reps net x said;dsimp only;omega
 rw[Xb c l said d.2.2.2 (by omega) (by omega) (by omega),aqC];refine Ens.cond (λ _=>Ens.some ⟨by dsimp only; omega,hC⟩) λ hml => ?_
 obtain⟨hmo,hsg⟩:=aaK (show Lm c l said d.2.2.2=true by simpa using hml);rw[Av c d.2.2.2 (by omega),aqC];have hbl:=kS c d.2.2.2;refine Ens.ite (by simp only[aqG,aqJ]; have:=hn.1; omega) (Ens.some ⟨?_,hC.more λ _=>by rw[BE hmo]; exact hsg⟩)
 have:=On c l reps net (d.2.1,jx c d.2.2.2) said;simp only[Yg,bj] at this;dsimp only;omega
theorem XS {w:zr} (h:WI w) (hC:CI w) (i:Int) (h0:0<=i) (h1:i<(w.2.2.1.length:Int)) (hL0:i∉w.2.1):Ens (kq (w,i,())) λ o=>yl o.1<=1000000000/\CI o.1:=by
 obtain⟨c,l,reps,net,said⟩:=w;have hw:=h.w_le2;have hlen:=h.len;have hn:=h.net.1;obtain⟨r,hr,hok,hrw,-⟩:=h.rep h0 h1;obtain⟨p1,p2,p3⟩:=IU hok;dsimp only at h1 hlen hn;have hL:=Bu h (id:=i) (by dsimp only; omega) (ps:=(yo c r).2) p1.2
 have el:=W9 (c,l,reps,net,said) i (yo c r).2 (by omega) (by omega);obtain⟨S,eS,amw⟩:=aay (c,l,reps,net,said) i (yo c r).2;rw[eS] at hL el;dsimp only at hL el;have hSl:=hL.said.1;dsimp only at hSl amw hL0;have hi0:i.toNat<reps.length:=by omega
 have ei:((i.toNat:Nat):Int)=i:=by omega
 have apD:reps[i.toNat]=r:=by rw[arf hi0] at hr; exact Option.some.inj hr
 have hcr:=hC.reps i.toNat hi0 (by rw[ei]; exact hL0)
 dsimp only at hcr;rw[apD] at hcr;have alg:∀ j a b k,VR l said j a b k->VR l S j a b k:=λ j a b k hk=>hk.imp id λ hk=>hk.imp id (amw _);have hcs:=VP (hcr.mono (alg _));unfold kq;dsimp only;refine Ens.ite ⟨h0,h1⟩ ?_;rw[zm (e:=YB) hr,Xw c r (by omega),aqC];dsimp only;rw[el,aqC];dsimp only;have hno:Ens (some (((c,l,reps,net,said):zr),(4:Int),())) λ o=>yl o.1<=1000000000/\CI o.1:=Ens.some ⟨by dsimp only; omega,hC⟩
 refine Ens.loop (λ x=>(0<=x.1/\x.1<=((yo c r).2.length:Int))/\∀ (j:Nat) (hj:j<(yo c r).2.length),(j:Int)<x.1->∀ s∈jU i ((yo c r).2[j]).2,s∈S) (λ x=>(((yo c r).2.length:Int)+1 - x.1).toNat) ?_ ⟨⟨Int.le_refl _,by dsimp only; omega⟩,λ j hj hlt=>by dsimp only at hlt; omega⟩ (by dsimp only; rw[Zt]; omega)
 intro rec x hx ah3;obtain⟨hx,hS⟩:=hx;refine Ens.cond (λ hh => ?_) λ ahe => ?_
 ·have hh:x.1<((yo c r).2.length:Int):=by simpa using hh
  refine Ens.ite ⟨hx.1,hh⟩ ?_;have hi:x.1.toNat<(yo c r).2.length:=by omega
  have hg:=List.getElem?_eq_getElem hi;have hpm:=p1.1 _ (List.getElem_mem hi);rw[zm (e:=bu) hg];rw[AA i _ (MsgW.of (by omega)),aqC];dsimp only;have hso:(jU i ((yo c r).2[x.1.toNat]).2).length<=1:=by
   unfold jU;repeat' split
   all_goals simp
  generalize hsl:jU i ((yo c r).2[x.1.toNat]).2=sl at hso;refine Ens.loop (λ y=>(0<=y.1/\y.1<=(sl.length:Int))/\∀ (j:Nat) (hj:j<sl.length),(j:Int)<y.1->sl[j]∈S) (λ y=>((sl.length:Int)+1 - y.1).toNat) ?_ ⟨⟨Int.le_refl _,by dsimp only; omega⟩,λ j hj hlt=>by dsimp only at hlt; omega⟩ (by dsimp only; rw[Zt]; omega)
  intro rec4 y hy apA;obtain⟨hy,hT⟩:=hy;refine Ens.cond (λ hh4 => ?_) λ aoz => ?_
  ·have hh4:y.1<(sl.length:Int):=by simpa using hh4
   refine Ens.ite ⟨hy.1,hh4⟩ ?_;rw[oG S _ (by omega),aqC];refine Ens.cond (λ _=>hno) λ hin => ?_;have hj4:y.1.toNat<sl.length:=by omega
   have hin:sl[y.1.toNat]∈S:=by
    rw[zm (e:=LW) (arf hj4)] at hin;exact GH (by simpa using hin)
   rw[zg (n:=y.1+1) (by omega) (by omega)];refine apA _ ⟨⟨by dsimp only; omega,by dsimp only; omega⟩,λ j hj hlt => ?_⟩ (by dsimp only; omega)
   dsimp only at hlt;by_cases e:j=y.1.toNat
   ·subst e; exact hin
   ·exact hT j hj (by omega)
  ·rw[zg (n:=x.1+1) (by omega) (by omega)];refine ah3 _ ⟨⟨by dsimp only; omega,by dsimp only; omega⟩,λ j hj hlt => ?_⟩ (by dsimp only; omega)
   dsimp only at hlt;by_cases e:j=x.1.toNat
   ·subst e;rw[hsl];intro s hs;obtain⟨n,hn',rfl⟩:=List.getElem_of_mem hs;exact hT n hn' (by
              have:¬ y.1<(sl.length:Int):=by simpa using aoz
              omega)
   ·exact hS j hj (by omega)
 ·refine Ens.cond (λ _=>hno) λ _ => ?_;refine Ens.ite ⟨h0,h1⟩ ?_;obtain⟨r',hr',ajV,-,ahr⟩:=hL.rep h0 (by exact h1);have hrr:r'=r:=by rw[hr] at hr'; exact (Option.some.inj hr').symm
  subst hrr;have hW:=(ahr _ (Bb hok)).w_le2;rw[Xr _ (yo c r').2 (by omega) (by omega),aqC];have hs:=aev (c,l,reps.set i.toNat (yo c r').1,net,S) (yo c r').2;have ahe:¬ x.1<((yo c r').2.length:Int):=by simpa using ahe
  refine Ens.some ⟨by dsimp only; omega,?_⟩
  have hC1:CI (c,l,reps,net,S):=⟨λ j hj hn=>Cr.mono (V:=VR l said j) (W:=VR l S j) (alg j) (hC.reps j hj hn),λ x hx hm=>SgM.mono (V:=VN l said) (W:=VN l S) (λ a b k hk=>hk.imp id (amw _)) (hC.net x hx hm)⟩
  have hC2:CI (c,l,reps.set i.toNat (yo c r').1,net,S):=hC1.setRep i.toNat hcs.1;refine hC2.send λ p hp=>⟨p1.2 p hp,?_⟩
  obtain⟨n,hn',rfl⟩:=List.getElem_of_mem hp;have hk:=aeJ (hcs.2 _ hp) (by rw[ei]; exact hS n hn' (by omega))
  exact hk
theorem qI {w x:zr} (n:Int) (hw:yl w<=1000000000) (hx:yl x<=1000000000) (hC:CI x):
  Ens (bif n==0 then (ZD (x,())).bind λ r6=>bif !r6.1 then (yS (w,())).bind λ r7=>some (r7.1,(4:Int),()) else bif n != 0 then (yS (w,())).bind λ r8=>some (r8.1,n,()) else some (x,0,())
   else bif n != 0 then (yS (w,())).bind λ r9=>some (r9.1,n,()) else some (x,0,())) λ o=>o.2.1=0->ji o.1=true/\CI o.1:=(V4 n hw hx).mono λ o h h0=>by rw[(h h0).2.1]; exact⟨(h h0).2.2,hC⟩
theorem WW {w:zr} (h:ji w=true) (hC:CI w) (d:ZA) (hm:zh d.2.2.2<=100000000):Ens (gd (w,d,())) λ o=>o.2.1=0->ji o.1=true/\CI o.1:=by
 have hI:=eT h;have hw:=hI.w_le2;have hc:=Qs w (by omega);have hb:=zS hI.conf;have hlen:=hI.len;unfold gd;dsimp only;rw[ci w (WB.of (N:=1073741824) (by omega) (arp _)),aqC,h];refine Ens.cond (λ hh=>by cases hh) λ _ => ?_;rw[Yl,aqC];refine Ens.cond (λ _=>Ens.some λ h1=>absurd h1 (show ¬ (1:Int)=0 by decide)) λ hk => ?_;have hk:1<=d.1/\d.1<=10:=by simpa using hk
 rw[XL hI d,aqC,hc,aqC];refine Ens.cond (λ _=>Ens.some λ h1=>absurd h1 (show ¬ (2:Int)=0 by decide)) λ ht => ?_;have ht:Qv w d=true:=by simpa using ht
 rw[aqC];have alh:((d.1==3)=true∨(d.1==4)=true∨(d.1==5)=true∨(d.1==10)=true)->Ens (Mn (w,d,())) λ o=>yl o.1<=1000000000/\CI o.1:=λ hk=>XO hI hC d ht hk hm;have ahd:(d.1==3)=false->(d.1==4)=false->(d.1==5)=false->(d.1==10)=false->(0<=d.2.1/\d.2.1<(w.2.2.1.length:Int))/\d.2.1∉w.2.1:=by
  intro a b e f;unfold Qv at ht;rw[a,b,e,f] at ht;exact⟨pG hlen ht,pF ht⟩
 refine Ens.cond (λ h2 => ?_) λ h2 => ?_
 ·have e:d.1=2:=by simpa using h2
  obtain⟨⟨r0,r1⟩,rl⟩:=ahd (by simp[e]) (by simp[e]) (by simp[e]) (by simp[e]);refine (XS hI hC d.2.1 r0 r1 rl).bind λ o ho => ?_;rw[←hc];exact qI o.2.1 (by omega) ho.1 ho.2
 refine Ens.cond (λ h3 => ?_) λ h3 => ?_
 ·refine (alh (.inl h3)).bind λ o ho => ?_;rw[←hc];exact qI o.2.1 (by omega) ho.1 ho.2
 refine Ens.cond (λ h4 => ?_) λ h4 => ?_
 ·refine (alh (.inr (.inl h4))).bind λ o ho => ?_;rw[←hc];exact qI o.2.1 (by omega) ho.1 ho.2
 refine Ens.cond (λ h5 => ?_) λ h5 => ?_
 ·refine (alh (.inr (.inr (.inl h5)))).bind λ o ho => ?_;rw[←hc];exact qI o.2.1 (by omega) ho.1 ho.2
 refine Ens.cond (λ h10 => ?_) λ h10 => ?_
 ·refine (alh (.inr (.inr (.inr h10)))).bind λ o ho => ?_;rw[←hc];exact qI o.2.1 (by omega) ho.1 ho.2
 obtain⟨⟨r0,r1⟩,rl⟩:=ahd h3 h4 h5 h10;refine Ens.ite ⟨r0,r1⟩ ?_;obtain⟨r,hr,hok,hrw,ahr⟩:=WI.rep (c:=w.1) (l:=w.2.1) (reps:=w.2.2.1) (rest:=w.2.2.2) hI r0 r1;rw[zm (e:=YB) hr];have hj:d.2.1.toNat<w.2.2.1.length:=by omega
 have ej:((d.2.1.toNat:Nat):Int)=d.2.1:=by omega
 have hrr:w.2.2.1[d.2.1.toNat]=r:=by rw[arf hj] at hr; exact Option.some.inj hr
 have hid:r.1=((d.2.1.toNat:Nat):Int):=by have:=(hI.reps d.2.1.toNat hj).2; rw[hrr] at this; exact this
 have hcr:=hC.reps d.2.1.toNat hj (by rw[ej]; exact rl)
 rw[hrr] at hcr;refine (XR hok hcr (λ a b=>.inl hid) d hm).bind λ o ho => ?_;have hx:=(ahr o.1 ho.1).w_le2;refine Ens.ite ⟨r0,r1⟩ ?_;rw[←hc];exact qI (x:=(w.1,w.2.1,w.2.2.1.set d.2.1.toNat o.1,w.2.2.2)) o.2.1 (by omega) (by omega) (CI.setRep (c:=w.1) (l:=w.2.1) (reps:=w.2.2.1) (net:=w.2.2.2.1) (said:=w.2.2.2.2) hC d.2.1.toNat ho.2)
theorem WV {v:zr} (hv:ji v=true) (hC:CI v) (list:List ZA) (hl:list.length<=140) (hd:∀ d∈list,zh d.2.2.2<=10000):Ens (ge (v,list,())) λ o=>ji o.1=true/\CI o.1:=by
 have hI:=eT hv;have hw:=hI.w_le2;unfold ge;dsimp only;rw[Qs v (by omega),aqC,ci v (WB.of (N:=1073741824) (by omega) (arp _)),aqC];refine Ens.cond (λ _=>Ens.some ⟨hv,hC⟩) λ _ => ?_;refine Ens.cond (λ _=>Ens.some ⟨hv,hC⟩) λ _ => ?_;refine Ens.loop (λ x=>(0<=x.2.1/\x.2.1<=(list.length:Int))/\(x.1.length:Int)<=x.2.1/\ji x.2.2.1=true/\CI x.2.2.1) (λ x=>((list.length:Int)+1 - x.2.1).toNat) ?_ ⟨⟨Int.le_refl _,by dsimp only; omega⟩,by simp,hv,hC⟩ (by dsimp only; rw[Zt]; omega)
 intro rec x hx ah3;obtain⟨x1,x2,x3⟩:=hx;refine Ens.cond (λ h => ?_) λ _=>Ens.some x3;have h:x.2.1<(list.length:Int):=by simpa using h
 refine Ens.ite ⟨x1.1,h⟩ ?_;have hi:x.2.1.toNat<list.length:=by omega
 have hg:=List.getElem?_eq_getElem hi;have hm:=hd _ (List.getElem_mem hi);rw[zm hg];refine (WW x3.1 x3.2 _ (by omega)).bind λ r3 h3 => ?_;rw[zg (n:=x.2.1+1) (by omega) (by omega)];refine Ens.cond (λ h0 => ?_) λ _ => ?_
 ·refine Ens.ite (by simp only[aqG,aqJ]; omega) ?_
  exact ah3 _ ⟨⟨by dsimp only; omega,by dsimp only; omega⟩,by simp only[aqM,aqG,aqJ]; omega,h3 (by simpa using h0)⟩ (by dsimp only; omega)
 ·refine Ens.ite (by simp only[aqG,aqJ]; omega) ?_
  exact ah3 _ ⟨⟨by dsimp only; omega,by dsimp only; omega⟩,by simp only[aqM,aqG,aqJ]; omega,x3⟩ (by dsimp only; omega)
theorem ab0 {c:za} (liars:ym) (h:zB c=true):CI (yI c liars):=by
 refine⟨λ i hi hn => ?_,λ x hx=>by simp[yI] at hx⟩;simp only[yI,QD h,arg,arS] at hi;simp only[yI,QD h,List.getElem_map,at3];exact⟨dJ _ _ _,by simp[Yp],by simp[Yp],V2 _ _⟩
theorem aeK {L:ym} {S:ya} {v:Int} {n:List UInt8} {who:List Int} (h:∀ k∈who,VN L S v n k):signed L S v n who=true:=by
 unfold signed;refine List.all_eq_true.2 λ k hk => ?_;simp only[arj];rcases h k hk with h|h
 ·exact .inl (by simpa using h)
 ·exact .inr (List.any_eq_true.2 ⟨_,h,by simp⟩)
theorem law_Certified (code:List UInt8) (hb:code.length<=big):laws_FnCertified (code,())=some (true,()):=by
 suffices h:Ens (laws_FnCertified (code,())) λ r=>r=(true,()) by
  obtain⟨y,hy,rfl⟩:=h;exact hy
 unfold laws_FnCertified rE;dsimp only;by_cases ahy:(code.length:Int)>1048576
 ·simp only[ahy,aqH,aqC,aqE];exact Ens.some rfl
 simp only[ahy,aqL,aqC,aqD];refine (Oy code hb).bind λ r1 h1 => ?_;obtain⟨hI,hl,hd⟩:=h1;have hll:=hI.liars.1;rw[XG r1.1.1 r1.1.2.1 (by omega),aqC,vK r1.1.1 r1.1.2.1 (by omega),aqC];dsimp only;refine Ens.cond (λ h=>by simp at h) λ _ => ?_;refine Ens.cond (λ _=>Ens.some rfl) λ hok => ?_;have hv:ji (Zo r1.1.1 r1.1.2.1).1=true/\CI (Zo r1.1.1 r1.1.2.1).1:=by
  unfold Zo at hok ⊢;cases h:ji (yI r1.1.1 r1.1.2.1)
  ·rw[h] at hok; simp at hok
  ·exact⟨h,ab0 _ (eT h).conf⟩
 refine (WV hv.1 hv.2 r1.2.1 hl hd).bind λ r4 h4 => ?_;obtain⟨h4,h4C⟩:=h4;have gI:=eT h4;have gl:=gI.liars.1;have gs:=gI.said.1;have gr:=pE r4.1;have glen:=gI.len;have gb:=zS gI.conf;have ha:=WO h4;have hf:(r4.1.2.1.length:Int)<=ZT r4.1.1:=by
  have h4':=h4;unfold ji at h4';simp only[aqF,aqP] at h4';exact h4'.2.2.1
 have hf2:ZT r4.1.1=(r4.1.1.1 - 1) / 3:=by unfold ZT; rw[if_pos gI.conf]
 have ajZ:((yB r4.1).length:Int)>0:=by omega
 rw[gn r4.1 (by omega) (by omega),aqC];dsimp only;refine Ens.loop (λ x=>0<=x.1/\x.1<=((yB r4.1).length:Int)) (λ x=>(((yB r4.1).length:Int)+1 - x.1).toNat) ?_ ⟨Int.le_refl _,by dsimp only; omega⟩ (by dsimp only; rw[Zt]; omega)
 intro rec x hx ah3;refine Ens.cond (λ h => ?_) λ _=>Ens.some (by rw[decide_eq_true ajZ]);have h:x.1<((yB r4.1).length:Int):=by simpa using h
 refine Ens.ite ⟨hx.1,h⟩ ?_;have hi:x.1.toNat<(yB r4.1).length:=by omega
 have hg:=List.getElem?_eq_getElem hi;have aj8:=List.getElem_mem hi;generalize (yB r4.1)[x.1.toNat]=i at hg aj8;rw[zm (e:=.i64) hg];have amK:(yB r4.1).any (· == i)=true:=List.any_eq_true.2 ⟨i,aj8,by simp⟩;have amd:=pF amK;obtain⟨r0,r1'⟩:=pG glen amK;refine Ens.ite ⟨r0,r1'⟩ ?_;have hj:i.toNat<r4.1.2.2.1.length:=by omega
 have hr:=List.getElem?_eq_getElem hj;have ei:((i.toNat:Nat):Int)=i:=by omega
 have hcr:=(h4C.reps i.toNat hj (by rw[ei]; exact amd)).high
 rw[ei] at hcr;have amq:=(gI.reps i.toNat hj).1;rw[zm (e:=YB) hr];generalize r4.1.2.2.1[i.toNat]=r at hr hcr amq;have hq:=(u6 (Jd amq).2.2.2.2.1).2.2;have hw:=Ze amq;simp only[zf,zz] at hw;have hwq:zj r.2.2.2.1.2.2.1<=260000:=by omega
 generalize r.2.2.2.1.2.2.1=q at hcr hq hwq;have hwl:q.2.2.length<=260000:=by simp only[zj,zu] at hwq; omega
 refine Ens.loop (λ y=>(0<=y.2.1/\y.2.1<=(q.2.2.length:Int))/\(y.1.length:Int)<=y.2.1/\∀ k∈y.1,k∈q.2.2/\k≠i) (λ y=>((q.2.2.length:Int)+1 - y.2.1).toNat) ?_ ⟨⟨Int.le_refl _,by dsimp only; omega⟩,by simp,by simp⟩ (by dsimp only; rw[Zt]; omega)
 intro rec7 y hy anG;obtain⟨y1,y2,y3⟩:=hy;refine Ens.cond (λ h7 => ?_) λ _ => ?_
 ·have h7:y.2.1<(q.2.2.length:Int):=by simpa using h7
  refine Ens.ite ⟨y1.1,h7⟩ ?_;refine Ens.ite ⟨hx.1,h⟩ ?_;have hk:y.2.1.toNat<q.2.2.length:=by omega
  have hkm:=List.getElem_mem hk;rw[zm (e:=.i64) (arf hk)];refine Ens.cond (λ hne => ?_) λ _ => ?_
  ·have hne:q.2.2[y.2.1.toNat]≠i:=by simpa using hne
   refine Ens.ite ⟨y1.1,h7⟩ ?_;refine Ens.ite (by simp only[aqG,aqJ]; omega) ?_
   rw[zg (n:=y.2.1+1) (by omega) (by omega)];refine anG _ ⟨⟨by dsimp only; omega,by dsimp only; omega⟩,by simp only[aqM,aqG,aqJ]; omega,λ k hk => ?_⟩ (by dsimp only; omega)
   simp only[ar0,aqW,aro,or_false] at hk;rcases hk with hk|rfl
   ·exact y3 k hk
   ·exact⟨hkm,hne⟩
  ·rw[zg (n:=y.2.1+1) (by omega) (by omega)];exact anG _ ⟨⟨by dsimp only; omega,by dsimp only; omega⟩,by dsimp only; omega,y3⟩ (by dsimp only; omega)
 ·rw[Mi _ q (by omega),aqC,hq];refine Ens.cond (λ h=>by simp at h) λ _ => ?_;rw[gN _ _ _ _ _ (by omega) (by omega) (by omega),aqC];have hs:signed r4.1.2.1 r4.1.2.2.2.2 q.1 q.2.1 y.1=true:=by
   refine aeK λ k hk => ?_;obtain⟨k1,k2⟩:=y3 k hk;by_cases he:q.2.1=[]
   ·exfalso;unfold zP at hq;rw[he] at hq;simp only[aqF,ar5,beq_self_eq_true,aqE] at hq;have hl0:q.2.2.length=0:=by have:=hq.2.2.2; omega
    rw[List.length_eq_zero_iff.1 hl0] at k1; cases k1
   ·rcases hcr he k k1 with rfl|hk
    ·exact absurd rfl k2
    ·exact hk
  rw[hs];refine Ens.cond (λ h=>by simp at h) λ _ => ?_;rw[zg (n:=x.1+1) (by omega) (by omega)];exact ah3 _ ⟨by dsimp only; omega,by dsimp only; omega⟩ (by dsimp only; omega)
end G448
