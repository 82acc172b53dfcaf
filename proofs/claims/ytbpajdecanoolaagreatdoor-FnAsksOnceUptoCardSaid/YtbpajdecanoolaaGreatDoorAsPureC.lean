/- Plain laws, part 3: what the functions compute. No program in sight. -/
import Derived.Test.YtbpajdecanoolaaGreatDoorAsPureB
set_option linter.unusedSimpArgs false
set_option linter.unusedVariables false
namespace G448
open Ev Go
set_option maxRecDepth 100000
theorem wM {n:Int} {net:y9} (h:Je n net) (i:Nat) (hi:i<net.length):Je n (net.take i++net.drop (i+1)):=by
 refine⟨?_,λ x hx => ?_⟩
 ·have:=h.1;simp only[apX,aq4,aqa];omega
 ·simp only[aqd] at hx;rcases hx with hx|hx
  ·exact h.2 x (List.mem_of_mem_take hx)
  ·exact h.2 x (List.mem_of_mem_drop hx)
theorem wR (net:y9) (i:Int) (h0:0<=i) (h1:i<(net.length:Int)):dD (net,i,i+1,())=some (net.take i.toNat++net.drop (i.toNat+1),()):=by
 unfold dD delAt;dsimp only;rw[if_pos ⟨h0,by omega,by omega⟩,show (i+1).toNat=i.toNat+1 by omega]
theorem IE (c:za) (l:yZ) (reps:Yc) (net:y9) (x:qz) (said:yJ):yu (c,l,reps,net++[x],said)=yu (c,l,reps,net,said)+1+Z8 x:=by
 simp only[yu,Z9,aqS,arQ,apX,aq5,aqr,aqo,aru,apQ,apS];omega
theorem WM {w:zp} (h:WI w) (d:Zl) (ht:Li w d=true) (hk:(d.1==3)=true∨(d.1==4)=true∨(d.1==5)=true∨(d.1==10)=true) (hm:zh d.2.2.2<=100000000):Ens (Me (w,d,())) λ o=>yu o.1<=1000000000:=by
 obtain⟨c,l,reps,net,said⟩:=w;have hw:=h.w_le2;have hn:=h.net;have hb:=zR h.conf;have hlen:=h.len;have hl:=h.liars.1;have hsl:=h.said.1;have hhl:=o7 (c,l,reps,net,said);dsimp only at hn hlen hb hl hhl hsl;have alr:((d.1==3)=true∨(d.1==4)=true∨(d.1==5)=true)->0<=d.2.1/\d.2.1<(net.length:Int):=by
  intro hh;unfold Li at ht;have e:((d.1==3) || ((d.1==4) || (d.1==5)))=true:=by
   rcases hh with e|e|e<;>simp[e]
  rw[e] at ht;simp only[apN,apO,apY] at ht;omega
 unfold Me;dsimp only;rw[Nq _ (by omega),apL];dsimp only;refine Ens.cond (λ h3 => ?_) λ h3 => ?_
 ·obtain⟨r0,r1⟩:=alr (.inl h3);refine Ens.ite ⟨r0,r1⟩ ?_;have hi:d.2.1.toNat<net.length:=by omega
  have hg:=List.getElem?_eq_getElem hi;have hx:=hn.2 _ (List.getElem_mem hi);generalize net[d.2.1.toNat]=x at hg hx;have hW:=h.withNet (wM hn d.2.1.toNat hi);rw[zg (n:=d.2.1+1) (by omega) (by omega),wR net d.2.1 r0 r1,apL,zm (e:=bw) hg,xS c x.2 (by omega),apL];dsimp only;have ajx:Ens (some (((c,l,reps,net.take d.2.1.toNat++net.drop (d.2.1.toNat+1),said):zp),(0:Int),())) λ o=>yu o.1<=1000000000:=Ens.some (by have:=hW.w_le2; dsimp only; omega)
  refine Ens.cond (λ hmo => ?_) λ _=>ajx;have hmo:(jY c x.2).2=true:=by simpa using hmo
  have hmw:=Bc c x.2 (by omega);rw[fV _ (by dsimp only; omega) (by dsimp only; omega),apL]
  dsimp only;rw[Js _ x.1 (by omega),apL];refine Ens.cond (λ _ => ?_) λ _=>ajx;obtain⟨r,hr,hok,hrw,agh⟩:=hW.rep (i:=x.1) hx.1.1 (by omega);refine Ens.ite ⟨hx.1.1,show x.1<(reps.length:Int) by omega⟩ ?_;rw[zm (e:=YQ) hr];refine (xP hok _ hmw).bind λ o ho => ?_;refine Ens.ite ⟨hx.1.1,show x.1<(reps.length:Int) by omega⟩ (Ens.some ?_);have:=(agh o.1 ho).w_le2;dsimp only;omega
 refine Ens.cond (λ h4 => ?_) λ h4 => ?_
 ·obtain⟨r0,r1⟩:=alr (.inr (.inl h4));have hi:d.2.1.toNat<net.length:=by omega
  have hW:=h.withNet (wM hn d.2.1.toNat hi);rw[zg (n:=d.2.1+1) (by omega) (by omega),wR net d.2.1 r0 r1,apL];exact Ens.some (by have:=hW.w_le2; dsimp only; omega)
 refine Ens.cond (λ h5 => ?_) λ h5 => ?_
 ·obtain⟨r0,r1⟩:=alr (.inr (.inr h5));refine Ens.ite ⟨r0,r1⟩ ?_;have hi:d.2.1.toNat<net.length:=by omega
  have hg:=List.getElem?_eq_getElem hi;have hx:=hn.2 _ (List.getElem_mem hi);generalize net[d.2.1.toNat]=x at hg hx;have hxw:Z8 x<=1000000:=hx.2;rw[zm (e:=bw) hg,Aj x (by omega),apL];refine Ens.ite (by simp only[apQ,apS]; have:=hn.1; omega) (Ens.some ?_)
  have:=IE c l reps net x said;dsimp only;omega
 rw[V8 c l said d.2.2.2 (by omega) (by omega) (by omega),apL];refine Ens.cond (λ _=>Ens.some (by dsimp only; omega)) λ hml => ?_
 rw[xR c d.2.2.2 (by omega),apL];have hbl:=kv c d.2.2.2;refine Ens.ite (by simp only[apQ,apS]; have:=hn.1; omega) (Ens.some ?_)
 have:=IE c l reps net (d.2.1,jS c d.2.2.2) said;simp only[Z8,bl] at this;dsimp only;omega
theorem XJ (w:zp) (id:Int) (ps:jI):∃ S,learn w id ps=(w.1,w.2.1,w.2.2.1,w.2.2.2.1,S):=by
 unfold learn;cases (yW w).any (· == id)
 ·exact⟨w.2.2.2.2,rfl⟩
 ·exact⟨_,rfl⟩
theorem WQ {w:zp} (h:WI w) (i:Int) (h0:0<=i) (h1:i<(w.2.2.1.length:Int)):Ens (gU (w,i,())) λ o=>yu o.1<=1000000000:=by
 obtain⟨c,l,reps,net,said⟩:=w;have hw:=h.w_le2;have hlen:=h.len;have hn:=h.net.1;obtain⟨r,hr,hok,hrw,-⟩:=h.rep h0 h1;obtain⟨p1,p2,p3⟩:=Ia hok;dsimp only at h1 hlen hn;have hL:=A2 h (id:=i) (by dsimp only; omega) (ps:=(yH c r).2) p1.2
 have el:=V6 (c,l,reps,net,said) i (yH c r).2 (by omega) (by omega);obtain⟨S,eS⟩:=XJ (c,l,reps,net,said) i (yH c r).2;rw[eS] at hL el;dsimp only at hL el;have hSl:=hL.said.1;dsimp only at hSl;unfold gU;dsimp only;refine Ens.ite ⟨h0,h1⟩ ?_;rw[zm (e:=YQ) hr,Wt c r (by omega),apL];dsimp only;rw[el,apL];dsimp only;have hno:Ens (some (((c,l,reps,net,said):zp),(4:Int),())) λ o=>yu o.1<=1000000000:=Ens.some (by dsimp only; omega)
 refine Ens.loop (λ x=>0<=x.1/\x.1<=((yH c r).2.length:Int)) (λ x=>(((yH c r).2.length:Int)+1 - x.1).toNat) ?_ ⟨Int.le_refl _,by dsimp only; omega⟩ (by dsimp only; rw[Zn]; omega)
 intro rec x hx afU;refine Ens.cond (λ hh => ?_) λ _ => ?_
 ·have hh:x.1<((yH c r).2.length:Int):=by simpa using hh
  refine Ens.ite ⟨hx.1,hh⟩ ?_;have hi:x.1.toNat<(yH c r).2.length:=by omega
  have hg:=List.getElem?_eq_getElem hi;have hpm:=p1.1 _ (List.getElem_mem hi);rw[zm (e:=bv) hg];rw[xW i _ (MsgW.of (by omega)),apL];dsimp only;have hso:(Ze i ((yH c r).2[x.1.toNat]).2).length<=1:=by
   unfold Ze;repeat' split
   all_goals simp
  generalize Ze i ((yH c r).2[x.1.toNat]).2=sl at hso;refine Ens.loop (λ y=>0<=y.1/\y.1<=(sl.length:Int)) (λ y=>((sl.length:Int)+1 - y.1).toNat) ?_ ⟨Int.le_refl _,by dsimp only; omega⟩ (by dsimp only; rw[Zn]; omega)
  intro rec4 y hy aoJ;refine Ens.cond (λ hh4 => ?_) λ _ => ?_
  ·have hh4:y.1<(sl.length:Int):=by simpa using hh4
   refine Ens.ite ⟨hy.1,hh4⟩ ?_;rw[n9 S _ (by omega),apL];refine Ens.cond (λ _=>hno) λ _ => ?_;rw[zg (n:=y.1+1) (by omega) (by omega)];exact aoJ _ ⟨by dsimp only; omega,by dsimp only; omega⟩ (by dsimp only; omega)
  ·rw[zg (n:=x.1+1) (by omega) (by omega)];exact afU _ ⟨by dsimp only; omega,by dsimp only; omega⟩ (by dsimp only; omega)
 ·refine Ens.cond (λ _=>hno) λ _ => ?_;refine Ens.ite ⟨h0,h1⟩ ?_;obtain⟨r',hr',aiS,-,agh⟩:=hL.rep h0 (by exact h1);have hrr:r'=r:=by rw[hr] at hr'; exact (Option.some.inj hr').symm
  subst hrr;have hW:=(agh _ (AI hok)).w_le2;rw[Wo _ (yH c r').2 (by omega) (by omega),apL];have hs:=ady (c,l,reps.set i.toNat (yH c r').1,net,S) (yH c r').2;exact Ens.some (by dsimp only; omega)
theorem abY {w x:zp} (n:Int) (hw:yu w<=1000000000) (hx:yu x<=1000000000):
  Ens (bif n==0 then (ZR (x,())).bind λ r6=>bif !r6.1 then (yX (w,())).bind λ r7=>some (r7.1,(4:Int),()) else bif n != 0 then (yX (w,())).bind λ r8=>some (r8.1,n,()) else some (x,0,())
   else bif n != 0 then (yX (w,())).bind λ r9=>some (r9.1,n,()) else some (x,0,())) λ o=>o.2.1=0->n=0/\o.1=x/\jf x=true:=by
 have hc:=Nq w (by omega);refine Ens.cond (λ hn => ?_) λ hn => ?_
 ·have h1:n=0:=by simpa using hn
  rw[Qq x (WB.of (Nat.le_trans hx (by decide)) (aqs _)),apL,hc];refine Ens.cond (λ _=>Ens.some λ h4 => ?_) λ hok => ?_
  ·exact absurd h4 (show ¬ (4:Int)=0 by decide)
  have hok:jf x=true:=by simpa using hok
  refine Ens.cond (λ h => ?_) λ _=>Ens.some λ _=>⟨h1,rfl,hok⟩
  have h2:n≠0:=by simpa using h
  exact absurd h1 h2
 ·have h1:n≠0:=by simpa using hn
  refine Ens.cond (λ _ => ?_) λ h => ?_
  ·rw[hc]; exact Ens.some λ h=>absurd h h1
  ·have h2:n=0:=by simpa using h
   exact absurd h2 h1
theorem qI {w x:zp} (n:Int) (hw:yu w<=1000000000) (hx:yu x<=1000000000):
  Ens (bif n==0 then (ZR (x,())).bind λ r6=>bif !r6.1 then (yX (w,())).bind λ r7=>some (r7.1,(4:Int),()) else bif n != 0 then (yX (w,())).bind λ r8=>some (r8.1,n,()) else some (x,0,())
   else bif n != 0 then (yX (w,())).bind λ r9=>some (r9.1,n,()) else some (x,0,())) λ o=>o.2.1=0->jf o.1=true:=(abY n hw hx).mono λ o h h0=>by rw[(h h0).2.1]; exact (h h0).2.2
theorem VU {w:zp} (h:jf w=true) (d:Zl) (hm:zh d.2.2.2<=100000000):Ens (M8 (w,d,())) λ o=>o.2.1=0->jf o.1=true:=by
 have hI:=eE h;have hw:=hI.w_le2;have hc:=Nq w (by omega);have hb:=zR hI.conf;have hlen:=hI.len;unfold M8;dsimp only;rw[Qq w (WB.of (N:=1073741824) (by omega) (aqs _)),apL,h];refine Ens.cond (λ hh=>by cases hh) λ _ => ?_;rw[ZT,apL];refine Ens.cond (λ _=>Ens.some λ h1=>absurd h1 (show ¬ (1:Int)=0 by decide)) λ hk => ?_;have hk:1<=d.1/\d.1<=10:=by simpa using hk
 rw[Ak hI d,apL,hc,apL];refine Ens.cond (λ _=>Ens.some λ h1=>absurd h1 (show ¬ (2:Int)=0 by decide)) λ ht => ?_;have ht:Li w d=true:=by simpa using ht
 rw[apL];have akl:((d.1==3)=true∨(d.1==4)=true∨(d.1==5)=true∨(d.1==10)=true)->Ens (Me (w,d,())) λ o=>yu o.1<=1000000000:=λ hk=>WM hI d ht hk hm;have ag4:(d.1==3)=false->(d.1==4)=false->(d.1==5)=false->(d.1==10)=false->0<=d.2.1/\d.2.1<(w.2.2.1.length:Int):=by
  intro a b e f;unfold Li at ht;rw[a,b,e,f] at ht;exact xG hlen ht
 refine Ens.cond (λ h2 => ?_) λ h2 => ?_
 ·have e:d.1=2:=by simpa using h2
  obtain⟨r0,r1⟩:=ag4 (by simp[e]) (by simp[e]) (by simp[e]) (by simp[e]);refine (WQ hI d.2.1 r0 r1).bind λ o ho => ?_;rw[←hc];exact qI o.2.1 (by omega) ho
 refine Ens.cond (λ h3 => ?_) λ h3 => ?_
 ·refine (akl (.inl h3)).bind λ o ho => ?_;rw[←hc];exact qI o.2.1 (by omega) ho
 refine Ens.cond (λ h4 => ?_) λ h4 => ?_
 ·refine (akl (.inr (.inl h4))).bind λ o ho => ?_;rw[←hc];exact qI o.2.1 (by omega) ho
 refine Ens.cond (λ h5 => ?_) λ h5 => ?_
 ·refine (akl (.inr (.inr (.inl h5)))).bind λ o ho => ?_;rw[←hc];exact qI o.2.1 (by omega) ho
 refine Ens.cond (λ h10 => ?_) λ h10 => ?_
 ·refine (akl (.inr (.inr (.inr h10)))).bind λ o ho => ?_;rw[←hc];exact qI o.2.1 (by omega) ho
 obtain⟨r0,r1⟩:=ag4 h3 h4 h5 h10;refine Ens.ite ⟨r0,r1⟩ ?_;obtain⟨r,hr,hok,hrw,agh⟩:=WI.rep (c:=w.1) (l:=w.2.1) (reps:=w.2.2.1) (rest:=w.2.2.2) hI r0 r1;rw[zm (e:=YQ) hr];refine (WP hok d hm).bind λ o ho => ?_;have hx:=(agh o.1 ho).w_le2;refine Ens.ite ⟨r0,r1⟩ ?_;rw[←hc];exact qI (x:=(w.1,w.2.1,w.2.2.1.set d.2.1.toNat o.1,w.2.2.2)) o.2.1 (by omega) (by omega)
theorem IM (code:List UInt8) (hb:code.length<=big):Ens (mH (code,())) λ r=>WI r.1/\r.2.1.length<=140/\∀ d∈r.2.1,zh d.2.2.2<=10000:=by
 unfold mH;refine (Xi code hb).bind λ r0 h0 => ?_;refine (Xm r0 h0.1).bind λ r1 h1 => ?_;rw[GX r1.2.1 h1.2.w_le,apL];have ao8:∃ n,nA (code,70,140,())=some (n,())/\0<n/\n<=140:=by
  have t0:0<=Int.tdiv (code.length:Int) 4:=Int.tdiv_nonneg (by omega) (by decide);have t1:Int.tdiv (code.length:Int) 4<=(code.length:Int):=Int.tdiv_le_self _ (by omega);have hbb:(code.length:Int)<=4611686018427387904:=by unfold big at hb; omega
  unfold nA;dsimp only;rw[zg (n:=Int.tdiv (code.length:Int) 4) (by omega) (by omega),zg (n:=70+Int.tdiv (code.length:Int) 4) (by omega) (by omega)];cases anA:decide (70+Int.tdiv (code.length:Int) 4>140)
  ·have hn:=of_decide_eq_false anA;exact⟨70+Int.tdiv (code.length:Int) 4,rfl,by omega,by omega⟩
  ·exact⟨140,rfl,by decide,by decide⟩
 obtain⟨n,en,n0,n1⟩:=ao8;rw[en,apL];refine (j8 (r0.1,r1.1.2) n ⟨h0.1.1,h1.1⟩).bind λ r4 h4 => ?_;have a4:=h4.2.2 n0;refine Ens.loop (λ x=>(0<=x.2.1/\x.2.1<=140)/\(x.1.length:Int)<=x.2.1/\(∀ d∈x.1,zh d.2.2.2<=10000)/\0<=x.2.2.1.2.1/\WI x.2.2.2.1) (λ x=>(141 - x.2.1).toNat) ?_ ⟨by simp,by simp,by simp,h4.1,h1.2⟩ (by dsimp only; rw[Zn]; omega)
 intro rec x hx afU;obtain⟨x1,x2,x3,x4,x5⟩:=hx;refine Ens.cond (λ h => ?_) λ _=>Ens.some ⟨h1.2,by dsimp only; omega,x3⟩
 have h:x.2.1<r4.2.1:=by simpa using h
 refine (Xk (r0.1,x.2.2.1.2) ⟨h0.1.1,x4⟩ x5).bind λ r6 h6 => ?_;refine Ens.ite (by simp only[apQ,apS]; omega) ?_
 refine (Xs x5 r6.2.1 (by have:=h6.2; omega)).bind λ r7 h7 => ?_
 rw[zg (n:=x.2.1+1) (by omega) (by omega)];refine afU _ ⟨⟨by dsimp only; omega,by dsimp only; omega⟩,by simp only[apX,apQ,apS]; omega,?_,h6.1,h7⟩ (by dsimp only; omega)
 intro d hd;simp only[aqd,aqb,aqM,or_false] at hd;rcases hd with hd|rfl
 ·exact x3 d hd
 ·exact h6.2
theorem VT {v:zp} (hv:jf v=true) (list:List Zl) (hl:list.length<=140) (hd:∀ d∈list,zh d.2.2.2<=10000):Ens (fP (v,list,())) λ o=>jf o.1=true:=by
 have hI:=eE hv;have hw:=hI.w_le2;unfold fP;dsimp only;rw[Nq v (by omega),apL,Qq v (WB.of (N:=1073741824) (by omega) (aqs _)),apL];refine Ens.cond (λ _=>Ens.some hv) λ _ => ?_;refine Ens.cond (λ _=>Ens.some hv) λ _ => ?_;refine Ens.loop (λ x=>(0<=x.2.1/\x.2.1<=(list.length:Int))/\(x.1.length:Int)<=x.2.1/\jf x.2.2.1=true) (λ x=>((list.length:Int)+1 - x.2.1).toNat) ?_ ⟨⟨Int.le_refl _,by dsimp only; omega⟩,by simp,hv⟩ (by dsimp only; rw[Zn]; omega)
 intro rec x hx afU;obtain⟨x1,x2,x3⟩:=hx;refine Ens.cond (λ h => ?_) λ _=>Ens.some x3;have h:x.2.1<(list.length:Int):=by simpa using h
 refine Ens.ite ⟨x1.1,h⟩ ?_;have hi:x.2.1.toNat<list.length:=by omega
 have hg:=List.getElem?_eq_getElem hi;have hm:=hd _ (List.getElem_mem hi);rw[zm hg];refine (VU x3 _ (by omega)).bind λ r3 h3 => ?_;rw[zg (n:=x.2.1+1) (by omega) (by omega)];refine Ens.cond (λ h0 => ?_) λ _ => ?_
 ·refine Ens.ite (by simp only[apQ,apS]; omega) ?_
  exact afU _ ⟨⟨by dsimp only; omega,by dsimp only; omega⟩,by simp only[apX,apQ,apS]; omega,h3 (by simpa using h0)⟩ (by dsimp only; omega)
 ·refine Ens.ite (by simp only[apQ,apS]; omega) ?_
  exact afU _ ⟨⟨by dsimp only; omega,by dsimp only; omega⟩,by simp only[apX,apQ,apS]; omega,x3⟩ (by dsimp only; omega)
theorem acZ {w:zp} (h:jf w=true) {i:Int} {r:zb} (h0:0<=i) (h1:i<(w.2.2.1.length:Int)) (hr:w.2.2.1[i.toNat]?=some r) (B:Int) (m:zt):
  Ens (M8 (w,(1,i,B,m),())) λ o=>o.2.1=0->jf o.1=true/\(yW w).any (· == i)=true/\∃ r',o.1=(w.1,w.2.1,w.2.2.1.set i.toNat r',w.2.2.2)/\r'.2.2.1=r.2.1:=by
 have hI:=eE h;have hw:=hI.w_le2;have hc:=Nq w (by omega);unfold M8;dsimp only;rw[Qq w (WB.of (N:=1073741824) (by omega) (aqs _)),apL,h];refine Ens.cond (λ hh=>by cases hh) λ _ => ?_;rw[ZT,apL];refine Ens.cond (λ hh=>by cases hh) λ _ => ?_;rw[Ak hI (1,i,B,m),apL,hc,apL];refine Ens.cond (λ _=>Ens.some λ h1=>absurd h1 (show ¬ (2:Int)=0 by decide)) λ ht => ?_;have ht:(yW w).any (· == i)=true:=by
  have ht:Li w (1,i,B,m)=true:=by simpa using ht
  exact ht
 rw[apL];refine Ens.cond (λ hh=>by cases hh) λ _ => ?_;refine Ens.cond (λ hh=>by cases hh) λ _ => ?_;refine Ens.cond (λ hh=>by cases hh) λ _ => ?_;refine Ens.cond (λ hh=>by cases hh) λ _ => ?_;refine Ens.cond (λ hh=>by cases hh) λ _ => ?_;refine Ens.ite ⟨h0,h1⟩ ?_;obtain⟨r2,hr2,hok,hrw,agh⟩:=WI.rep (c:=w.1) (l:=w.2.1) (reps:=w.2.2.1) (rest:=w.2.2.2) hI h0 h1;have e:r2=r:=by rw[hr] at hr2; exact (Option.some.inj hr2).symm
 subst e;rw[zm (e:=YQ) hr];have gr:Ens (gT (w.1,r2,(1,i,B,m),())) λ o=>Kp w.1 r2 o.1/\(o.2.1=0->o.1.2.2.1=r2.2.1):=by
  unfold gT;dsimp only;rw[ZS r2 (by omega),apL];exact Ens.cond (λ _=>(ac9 hok).bind λ o ho=>Ens.some ho) λ hh=>by cases hh
 refine gr.bind λ o ho => ?_;have hx:=(agh o.1 ho.1).w_le2;refine Ens.ite ⟨h0,h1⟩ ?_;rw[←hc];refine (abY (w:=w) (x:=(w.1,w.2.1,w.2.2.1.set i.toNat o.1,w.2.2.2)) o.2.1 (by omega) (by omega)).mono λ q hq hq0 => ?_;obtain⟨a1,a2,a3⟩:=hq hq0;exact⟨by rw[a2]; exact a3,ht,o.1,a2,ho.2 a1⟩
theorem ad0 {w:zp} (h:jf w=true) {i:Int} {r:zb} (h0:0<=i) (h1:i<(w.2.2.1.length:Int)) (hr:w.2.2.1[i.toNat]?=some r) (hh:(yW w).any (· == i)=true) (ha:(ask w.1 r).2=false) (B:Int) (m:zt):
  M8 (w,(1,i,B,m),())=some (w,3,()):=by
 have hI:=eE h;have hw:=hI.w_le2;have hc:=Nq w (by omega);obtain⟨r2,hr2,hok,hrw,agh⟩:=WI.rep (c:=w.1) (l:=w.2.1) (reps:=w.2.2.1) (rest:=w.2.2.2) hI h0 h1;have e:r2=r:=by rw[hr] at hr2; exact (Option.some.inj hr2).symm
 subst e;have ht:Li w (1,i,B,m)=true:=hh;have gr:gT (w.1,r2,(1,i,B,m),())=some (r2,3,()):=by
  unfold gT gJ;dsimp only;rw[ZS r2 (by omega),apL,VO w.1 r2 (by omega),apL,ha];rfl
 unfold M8;dsimp only;rw[Qq w (WB.of (N:=1073741824) (by omega) (aqs _)),apL,h,ZT,apL,Ak hI (1,i,B,m),apL,ht,hc,apL,zm (e:=YQ) hr,gr];simp only[apL,h0,h1,apZ,if_true];rfl
theorem abO {c:za} {r:zb} (h:(ask c r).2=true):yw c r.2.1=r.1/\¬ r.2.2.1≥r.2.1:=by
 unfold ask at h;cases hc:(zf c r && (yw c r.2.1==r.1 && (!decide (r.2.2.1≥r.2.1) && (r.2.2.2.1.2.2.1.1==wr (r.2.1 - 1) || decide (((y7 r.2.2.2.2.2.1 r.2.1 []).2.2.length:Int)≥JE c)))))
 ·rw[hc] at h; cases h
 ·simp only[apO,aqi,aqD,ara] at hc;exact⟨hc.2.1,hc.2.2.1⟩
theorem acy {g:zp} (h:jf g=true) {i:Int} {r:zb} (h0:0<=i) (h1:i<(g.2.2.1.length:Int)) (hr:g.2.2.1[i.toNat]?=some r) (rec:Int×Unit->Option (Bool×Unit)) (afU:Ens (rec (i+1,())) λ o=>o=(true,())):
  Ens ((M8 (g,(1,i,0,0,0,([],0,[],[]),(0,[],[]),(0,[],[]),0,0,0,0,0),())).bind λ r8=>bif r8.2.1==0 then (M8 (r8.1,(1,i,0,0,0,([],0,[],[]),(0,[],[]),(0,[],[]),0,0,0,0,0),())).bind λ r9=>bif r9.2.1 != 3 then if 0<=i/\i<(r8.1.2.2.1.length:Int) then bif (rd YQ r8.1.2.2.1 i.toNat).2.1==(rd YQ g.2.2.1 i.toNat).2.1 then some (false,()) else rec (wr (i+1),()) else none else rec (wr (i+1),()) else rec (wr (i+1),())) λ o=>o=(true,()):=by
 have hI:=eE h;have hlen:=hI.len;have hb:=zR hI.conf;rw[zg (n:=i+1) (by omega) (by omega)];refine (acZ h h0 h1 hr 0 _).bind λ r8 h8 => ?_;refine Ens.cond (λ hz => ?_) λ _=>afU;obtain⟨k1,k2,r',k3,k4⟩:=h8 (by simpa using hz);obtain⟨ad7,ad5,u8⟩:=r8;dsimp only at k1 k3 hz ⊢;subst k3;have hl2:((g.2.2.1.set i.toNat r').length:Int)=(g.2.2.1.length:Int):=by rw[arn]
 have hg2:(g.2.2.1.set i.toNat r')[i.toNat]?=some r':=List.getElem?_set_self (by omega);have hh2:(yW (g.1,g.2.1,g.2.2.1.set i.toNat r',g.2.2.2)).any (· == i)=true:=by
  have e:yW (g.1,g.2.1,g.2.2.1.set i.toNat r',g.2.2.2)=yW g:=by
   unfold yW;dsimp only;rw[arn]
  rw[e]; exact k2
 have h1':i<((g.2.2.1.set i.toNat r').length:Int):=by omega
 by_cases hv:r'.2.1=r.2.1
 ·have ha:(ask g.1 r').2=false:=by
   cases ha:(ask g.1 r').2
   ·rfl
   ·have:=(abO ha).2;omega
  rw[ad0 k1 h0 h1' hg2 hh2 ha 0 _,apL];exact afU
 ·refine (VU k1 (1,i,0,0,0,([],0,[],[]),(0,[],[]),(0,[],[]),0,0,0,0,0) (by simp[zh,zx,zj,zn,zq])).bind λ r9 _ => ?_;refine Ens.cond (λ _ => ?_) λ _=>afU;refine Ens.ite ⟨h0,h1'⟩ ?_;rw[zm (e:=YQ) hg2,zm (e:=YQ) hr];refine Ens.cond (λ he=>absurd (by simpa using he) hv) λ _=>afU
theorem law_AsksOnce (code:List UInt8) (hb:code.length<=big):laws_FnAsksOnce (code,())=some (true,()):=by
 suffices h:Ens (laws_FnAsksOnce (code,())) λ r=>r=(true,()) by
  obtain⟨y,hy,rfl⟩:=h;exact hy
 unfold laws_FnAsksOnce pT;dsimp only;by_cases agx:(code.length:Int)>1048576
 ·simp only[agx,apR,apL,apN];exact Ens.some rfl
 simp only[agx,apU,apL,apM];refine (IM code hb).bind λ r1 h1 => ?_;obtain⟨hI,hl,hd⟩:=h1;have hll:=hI.liars.1;rw[WE r1.1.1 r1.1.2.1 (by omega),apL,u7 r1.1.1 r1.1.2.1 (by omega),apL];dsimp only;refine Ens.cond (λ h=>by simp at h) λ _ => ?_;refine Ens.cond (λ _=>Ens.some rfl) λ hok => ?_;have hv:jf (Zr r1.1.1 r1.1.2.1).1=true:=by
  unfold Zr at hok ⊢;cases h:jf (yS r1.1.1 r1.1.2.1)
  ·rw[h] at hok; simp at hok
  ·exact h
 refine (VT hv r1.2.1 hl hd).bind λ r4 h4 => ?_;have gI:=eE h4;have glen:=gI.len;have gb:=zR gI.conf;refine Ens.loop (λ x=>0<=x.1/\x.1<=(r4.1.2.2.1.length:Int)) (λ x=>((r4.1.2.2.1.length:Int)+1 - x.1).toNat) ?_ ⟨Int.le_refl _,by dsimp only; omega⟩ (by dsimp only; rw[Zn]; omega)
 intro rec x hx afU;refine Ens.cond (λ h => ?_) λ _=>Ens.some rfl;have h:x.1<(r4.1.2.2.1.length:Int):=by simpa using h
 refine Ens.ite ⟨hx.1,h⟩ ?_;have hi:x.1.toNat<r4.1.2.2.1.length:=by omega
 have hg:=List.getElem?_eq_getElem hi;have hrp:=gI.reps x.1.toNat hi;have hT:=acy h4 hx.1 h hg rec (afU (x.1+1,()) ⟨by dsimp only; omega,by dsimp only; omega⟩ (by dsimp only; omega))
 generalize r4.1.2.2.1[x.1.toNat]=r at hg hrp hT;have hw:=Zb hrp.1;rw[zm (e:=YQ) hg] at hT ⊢;rw[VO r4.1.1 r (by omega),apL];refine Ens.cond (λ ha => ?_) λ _=>hT;have hf:=abO ha;rw[Qi,apL];dsimp only;refine Ens.cond (λ he => ?_) λ _ => ?_
 ·exfalso;rw[hf.1,hrp.2,show ((x.1.toNat:Nat):Int)=x.1 by omega] at he;simp at he
 refine Ens.cond (λ he => ?_) λ _=>hT;exact absurd (by simpa using he) hf.2
end G448
