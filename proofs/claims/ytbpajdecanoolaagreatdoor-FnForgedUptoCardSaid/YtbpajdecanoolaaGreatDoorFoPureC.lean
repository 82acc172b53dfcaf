/- Plain laws, part 3: what the functions compute. No program in sight. -/
import Derived.Test.YtbpajdecanoolaaGreatDoorFoPureB
set_option linter.unusedSimpArgs false
set_option linter.unusedVariables false
namespace G448
open Ev Go
set_option maxRecDepth 100000
theorem XJ (w:zp) (id:Int) (ps:jI):∃ S,learn w id ps=(w.1,w.2.1,w.2.2.1,w.2.2.2.1,S):=by
 unfold learn;cases (yW w).any (· == id)
 ·exact⟨w.2.2.2.2,rfl⟩
 ·exact⟨_,rfl⟩
theorem WQ {w:zp} (h:WI w) (i:Int) (h0:0<=i) (h1:i<(w.2.2.1.length:Int)):Ens (gU (w,i,())) λ o=>yu o.1<=1000000000:=by
 obtain⟨c,l,reps,net,said⟩:=w;have hw:=h.w_le2;have hlen:=h.len;have hn:=h.net.1;obtain⟨r,hr,hok,hrw,-⟩:=h.rep h0 h1;obtain⟨p1,p2,p3⟩:=Ia hok;dsimp only at h1 hlen hn;have hL:=A2 h (id:=i) (by dsimp only; omega) (ps:=(yH c r).2) p1.2
 have el:=V6 (c,l,reps,net,said) i (yH c r).2 (by omega) (by omega);obtain⟨S,eS⟩:=XJ (c,l,reps,net,said) i (yH c r).2;rw[eS] at hL el;dsimp only at hL el;have hSl:=hL.said.1;dsimp only at hSl;unfold gU;dsimp only;refine Ens.ite ⟨h0,h1⟩ ?_;rw[zm (e:=YQ) hr,Wt c r (by omega),apL];dsimp only;rw[el,apL];dsimp only;have hno:Ens (some (((c,l,reps,net,said):zp),(4:Int),())) λ o=>yu o.1<=1000000000:=Ens.some (by dsimp only; omega)
 refine Ens.loop (λ x=>0<=x.1/\x.1<=((yH c r).2.length:Int)) (λ x=>(((yH c r).2.length:Int)+1 - x.1).toNat) ?_ ⟨Int.le_refl _,by dsimp only; omega⟩ (by dsimp only; rw[Zn]; omega)
 intro rec x hx afU;refine Ens.cond (λ hh => ?_) λ _ => ?_
 ·have hh:x.1<((yH c r).2.length:Int):=by simpa using hh
  refine Ens.ite ⟨hx.1,hh⟩ ?_;have hi:x.1.toNat<(yH c r).2.length:=by omega
  have hg:=List.getElem?_eq_getElem hi;have hpm:=p1.1 _ (List.getElem_mem hi);rw[zm (e:=bv) hg];rw[xW i _ (MsgW.of (by omega)),apL];dsimp only;have hso:(Ze i ((yH c r).2[x.1.toNat]).2).length<=1:=by
   unfold Ze;repeat' split
   all_goals simp
  generalize Ze i ((yH c r).2[x.1.toNat]).2=sl at hso;refine Ens.loop (λ y=>0<=y.1/\y.1<=(sl.length:Int)) (λ y=>((sl.length:Int)+1 - y.1).toNat) ?_ ⟨Int.le_refl _,by dsimp only; omega⟩ (by dsimp only; rw[Zn]; omega)
  intro rec4 y hy aoJ;refine Ens.cond (λ hh4 => ?_) λ _ => ?_
  ·have hh4:y.1<(sl.length:Int):=by simpa using hh4
   refine Ens.ite ⟨hy.1,hh4⟩ ?_;rw[n9 S _ (by omega),apL];refine Ens.cond (λ _=>hno) λ _ => ?_;rw[zg (n:=y.1+1) (by omega) (by omega)];exact aoJ _ ⟨by dsimp only; omega,by dsimp only; omega⟩ (by dsimp only; omega)
  ·rw[zg (n:=x.1+1) (by omega) (by omega)];exact afU _ ⟨by dsimp only; omega,by dsimp only; omega⟩ (by dsimp only; omega)
 ·refine Ens.cond (λ _=>hno) λ _ => ?_;refine Ens.ite ⟨h0,h1⟩ ?_;obtain⟨r',hr',aiS,-,agh⟩:=hL.rep h0 (by exact h1);have hrr:r'=r:=by rw[hr] at hr'; exact (Option.some.inj hr').symm
  subst hrr;have hW:=(agh _ (AI hok)).w_le2;rw[Wo _ (yH c r').2 (by omega) (by omega),apL];have hs:=ady (c,l,reps.set i.toNat (yH c r').1,net,S) (yH c r').2;exact Ens.some (by dsimp only; omega)
theorem qI {w x:zp} (n:Int) (hw:yu w<=1000000000) (hx:yu x<=1000000000):
  Ens (bif n==0 then (ZR (x,())).bind λ r6=>bif !r6.1 then (yX (w,())).bind λ r7=>some (r7.1,(4:Int),()) else bif n != 0 then (yX (w,())).bind λ r8=>some (r8.1,n,()) else some (x,0,())
   else bif n != 0 then (yX (w,())).bind λ r9=>some (r9.1,n,()) else some (x,0,())) λ o=>o.2.1=0->jf o.1=true:=by
 have hc:=Nq w (by omega);refine Ens.cond (λ hn => ?_) λ hn => ?_
 ·rw[Qq x (WB.of (Nat.le_trans hx (by decide)) (aqs _)),apL,hc];refine Ens.cond (λ _=>Ens.some λ h4 => ?_) λ hok => ?_
  ·exact absurd h4 (show ¬ (4:Int)=0 by decide)
  have hok:jf x=true:=by simpa using hok
  refine Ens.cond (λ h => ?_) λ _=>Ens.some λ _=>hok;have h1:n=0:=by simpa using hn
  have h2:n≠0:=by simpa using h
  exact absurd h1 h2
 ·have h1:n≠0:=by simpa using hn
  refine Ens.cond (λ _ => ?_) λ h => ?_
  ·rw[hc]; exact Ens.some λ h=>absurd h h1
  ·have h2:n=0:=by simpa using h
   exact absurd h2 h1
theorem VU {w:zp} (h:jf w=true) (d:Zl) (hm:zh d.2.2.2<=100000000):Ens (M8 (w,d,())) λ o=>o.2.1=0->jf o.1=true:=by
 have hI:=eE h;have hw:=hI.w_le2;have hc:=Nq w (by omega);have hb:=zR hI.conf;have hlen:=hI.len;unfold M8;dsimp only;rw[Qq w (WB.of (N:=1073741824) (by omega) (aqs _)),apL,h];refine Ens.cond (λ hh=>by cases hh) λ _ => ?_;rw[ZT,apL];refine Ens.cond (λ _=>Ens.some λ h1=>absurd h1 (show ¬ (1:Int)=0 by decide)) λ hk => ?_;have hk:1<=d.1/\d.1<=10:=by simpa using hk
 rw[Ak hI d,apL,hc,apL];refine Ens.cond (λ _=>Ens.some λ h1=>absurd h1 (show ¬ (2:Int)=0 by decide)) λ ht => ?_;have ht:Li w d=true:=by simpa using ht
 rw[apL];have akl:((d.1==3)=true∨(d.1==4)=true∨(d.1==5)=true∨(d.1==10)=true)->Ens (Me (w,d,())) λ o=>yu o.1<=1000000000:=λ hk=>WM hI d ht hk hm;have ag4:(d.1==3)=false->(d.1==4)=false->(d.1==5)=false->(d.1==10)=false->0<=d.2.1/\d.2.1<(w.2.2.1.length:Int):=by
  intro a b e f;unfold Li at ht;rw[a,b,e,f] at ht;exact xG hlen ht
 refine Ens.cond (λ h2 => ?_) λ h2 => ?_
 ·have e:d.1=2:=by simpa using h2
  obtain⟨r0,r1⟩:=ag4 (by simp[e]) (by simp[e]) (by simp[e]) (by simp[e]);refine (WQ hI d.2.1 r0 r1).bind λ o ho => ?_;rw[←hc];exact qI o.2.1 (by omega) ho
 refine Ens.cond (λ h3 => ?_) λ h3 => ?_
 ·refine (akl (.inl h3)).bind λ o ho => ?_;rw[←hc];exact qI o.2.1 (by omega) ho
 refine Ens.cond (λ h4 => ?_) λ h4 => ?_
 ·refine (akl (.inr (.inl h4))).bind λ o ho => ?_;rw[←hc];exact qI o.2.1 (by omega) ho
 refine Ens.cond (λ h5 => ?_) λ h5 => ?_
 ·refine (akl (.inr (.inr (.inl h5)))).bind λ o ho => ?_;rw[←hc];exact qI o.2.1 (by omega) ho
 refine Ens.cond (λ h10 => ?_) λ h10 => ?_
 ·refine (akl (.inr (.inr (.inr h10)))).bind λ o ho => ?_;rw[←hc];exact qI o.2.1 (by omega) ho
 obtain⟨r0,r1⟩:=ag4 h3 h4 h5 h10;refine Ens.ite ⟨r0,r1⟩ ?_;obtain⟨r,hr,hok,hrw,agh⟩:=WI.rep (c:=w.1) (l:=w.2.1) (reps:=w.2.2.1) (rest:=w.2.2.2) hI r0 r1;rw[zm (e:=YQ) hr];refine (WP hok d hm).bind λ o ho => ?_;have hx:=(agh o.1 ho).w_le2;refine Ens.ite ⟨r0,r1⟩ ?_;rw[←hc];exact qI (x:=(w.1,w.2.1,w.2.2.1.set d.2.1.toNat o.1,w.2.2.2)) o.2.1 (by omega) (by omega)
theorem IM (code:List UInt8) (hb:code.length<=big):Ens (mH (code,())) λ r=>WI r.1/\r.2.1.length<=140/\∀ d∈r.2.1,zh d.2.2.2<=10000:=by
 unfold mH;refine (Xi code hb).bind λ r0 h0 => ?_;refine (Xm r0 h0.1).bind λ r1 h1 => ?_;rw[GX r1.2.1 h1.2.w_le,apL];have ao8:∃ n,nA (code,70,140,())=some (n,())/\0<n/\n<=140:=by
  have t0:0<=Int.tdiv (code.length:Int) 4:=Int.tdiv_nonneg (by omega) (by decide);have t1:Int.tdiv (code.length:Int) 4<=(code.length:Int):=Int.tdiv_le_self _ (by omega);have hbb:(code.length:Int)<=4611686018427387904:=by unfold big at hb; omega
  unfold nA;dsimp only;rw[zg (n:=Int.tdiv (code.length:Int) 4) (by omega) (by omega),zg (n:=70+Int.tdiv (code.length:Int) 4) (by omega) (by omega)];cases anA:decide (70+Int.tdiv (code.length:Int) 4>140)
  ·have hn:=of_decide_eq_false anA;exact⟨70+Int.tdiv (code.length:Int) 4,rfl,by omega,by omega⟩
  ·exact⟨140,rfl,by decide,by decide⟩
 obtain⟨n,en,n0,n1⟩:=ao8;rw[en,apL];refine (j8 (r0.1,r1.1.2) n ⟨h0.1.1,h1.1⟩).bind λ r4 h4 => ?_;have a4:=h4.2.2 n0;refine Ens.loop (λ x=>(0<=x.2.1/\x.2.1<=140)/\(x.1.length:Int)<=x.2.1/\(∀ d∈x.1,zh d.2.2.2<=10000)/\0<=x.2.2.1.2.1/\WI x.2.2.2.1) (λ x=>(141 - x.2.1).toNat) ?_ ⟨by simp,by simp,by simp,h4.1,h1.2⟩ (by dsimp only; rw[Zn]; omega)
 intro rec x hx afU;obtain⟨x1,x2,x3,x4,x5⟩:=hx;refine Ens.cond (λ h => ?_) λ _=>Ens.some ⟨h1.2,by dsimp only; omega,x3⟩
 have h:x.2.1<r4.2.1:=by simpa using h
 refine (Xk (r0.1,x.2.2.1.2) ⟨h0.1.1,x4⟩ x5).bind λ r6 h6 => ?_;refine Ens.ite (by simp only[apQ,apS]; omega) ?_
 refine (Xs x5 r6.2.1 (by have:=h6.2; omega)).bind λ r7 h7 => ?_
 rw[zg (n:=x.2.1+1) (by omega) (by omega)];refine afU _ ⟨⟨by dsimp only; omega,by dsimp only; omega⟩,by simp only[apX,apQ,apS]; omega,?_,h6.1,h7⟩ (by dsimp only; omega)
 intro d hd;simp only[aqd,aqb,aqM,or_false] at hd;rcases hd with hd|rfl
 ·exact x3 d hd
 ·exact h6.2
theorem VT {v:zp} (hv:jf v=true) (list:List Zl) (hl:list.length<=140) (hd:∀ d∈list,zh d.2.2.2<=10000):Ens (fP (v,list,())) λ o=>jf o.1=true:=by
 have hI:=eE hv;have hw:=hI.w_le2;unfold fP;dsimp only;rw[Nq v (by omega),apL,Qq v (WB.of (N:=1073741824) (by omega) (aqs _)),apL];refine Ens.cond (λ _=>Ens.some hv) λ _ => ?_;refine Ens.cond (λ _=>Ens.some hv) λ _ => ?_;refine Ens.loop (λ x=>(0<=x.2.1/\x.2.1<=(list.length:Int))/\(x.1.length:Int)<=x.2.1/\jf x.2.2.1=true) (λ x=>((list.length:Int)+1 - x.2.1).toNat) ?_ ⟨⟨Int.le_refl _,by dsimp only; omega⟩,by simp,hv⟩ (by dsimp only; rw[Zn]; omega)
 intro rec x hx afU;obtain⟨x1,x2,x3⟩:=hx;refine Ens.cond (λ h => ?_) λ _=>Ens.some x3;have h:x.2.1<(list.length:Int):=by simpa using h
 refine Ens.ite ⟨x1.1,h⟩ ?_;have hi:x.2.1.toNat<list.length:=by omega
 have hg:=List.getElem?_eq_getElem hi;have hm:=hd _ (List.getElem_mem hi);rw[zm hg];refine (VU x3 _ (by omega)).bind λ r3 h3 => ?_;rw[zg (n:=x.2.1+1) (by omega) (by omega)];refine Ens.cond (λ h0 => ?_) λ _ => ?_
 ·refine Ens.ite (by simp only[apQ,apS]; omega) ?_
  exact afU _ ⟨⟨by dsimp only; omega,by dsimp only; omega⟩,by simp only[apX,apQ,apS]; omega,h3 (by simpa using h0)⟩ (by dsimp only; omega)
 ·refine Ens.ite (by simp only[apQ,apS]; omega) ?_
  exact afU _ ⟨⟨by dsimp only; omega,by dsimp only; omega⟩,by simp only[apX,apQ,apS]; omega,x3⟩ (by dsimp only; omega)
theorem xc {α:Type} (p:α->Bool):∀ l:List α,(l.filter p).length+(l.filter λ x => !p x).length=l.length
 | []=>rfl
 | x::l=>by
  have ih:=xc p l;rw[ar9,ar9];cases p x<;>simp only[apT,aq9,if_true,if_false,aqc,apQ]<;>omega
theorem VM {w:zp} (h:jf w=true):((yW w).length:Int)+(w.2.1.length:Int)=w.1.1:=by
 have hI:=eE h;have agh:jK w.1.1 w.2.1=true:=by
  unfold jf at h;simp only[apO] at h;exact h.2.1
 have hlen:=hI.len;have hf:=xc (λ (i:Nat)=>w.2.1.any (· == (i:Int))) (List.range w.2.2.1.length);have hh:(yW w).length=((List.range w.2.2.1.length).filter λ (i:Nat) => !(w.2.1.any (· == (i:Int)))).length:=by
  unfold yW;rw[aqu]
 have hnd:(((List.range w.2.2.1.length).filter λ (i:Nat)=>w.2.1.any (· == (i:Int))).map λ (i:Nat)=>(i:Int)).Nodup:=by
  refine List.Pairwise.map _ (λ a b hab => ?_) (List.Pairwise.filter _ List.nodup_range);intro e; exact hab (by omega)
 have h1:=rt _ w.2.1 hnd λ x hx=>by
  simp only[arq,ari] at hx;obtain⟨i,⟨-,hi⟩,rfl⟩:=hx;simpa using hi
 have h2:=rt w.2.1 (((List.range w.2.2.1.length).filter λ (i:Nat)=>w.2.1.any (· == (i:Int))).map λ (i:Nat)=>(i:Int)) (adE agh) λ x hx=>by
  have hr:=uI agh x hx;refine List.mem_map.2 ⟨x.toNat,List.mem_filter.2 ⟨List.mem_range.2 (by omega),?_⟩,by omega⟩;rw[show ((x.toNat:Nat):Int)=x by omega];simpa using hx
 rw[aqu] at h1 h2;rw[arc] at hf;omega
theorem acy {w:zp} (h:jf w=true) (m:zt) (hm:zh m<=100000000) (hml:QB w.1 w.2.1 w.2.2.2.2 m=false) (A B:Int) (hA:0<=A/\A<=w.1.1 - 1):M8 (w,(10,A,B,m),())=some (w,5,()):=by
 have hI:=eE h;have hw:=hI.w_le2;have hl:=hI.liars.1;have hs:=hI.said.1;have ht:Li w (10,A,B,m)=true:=by
  have e:(decide (A≥0) && decide (A<=w.1.1 - 1))=true:=by simp; omega
  unfold Li;dsimp only;rw[e];rfl
 have hn:Me (w,(10,A,B,m),())=some (w,5,()):=by
  unfold Me;dsimp only;rw[Nq w (by omega),apL,V8 w.1 w.2.1 w.2.2.2.2 m (by omega) (by omega) (by omega),apL,hml];rfl
 unfold M8;dsimp only;rw[Qq w (WB.of (N:=1073741824) (by omega) (aqs _)),apL,h,ZT,apL,Ak hI (10,A,B,m),apL,ht,Nq w (by omega),apL,hn];rfl
theorem G9 (code:List UInt8) (k:Int) (h0:0<=k) (hk:k<=10) (hb:code.length<=big):Ens (F5 (code,k,())) λ r=>0<=r.1:=by
 have hbb:(code.length:Int)<=4611686018427387904:=by unfold big at hb; omega
 unfold F5;dsimp only;refine Ens.cond (λ h => ?_) λ _ => ?_
 ·have h:k<(code.length:Int):=by simpa using h
  exact Ens.ite ⟨h0,h⟩ (Ens.some (by dsimp only; omega))
 ·rw[zg (n:=k*7) (by omega) (by omega),zg (n:=k*7+(code.length:Int)) (by omega) (by omega)];exact Ens.some (Int.tmod_nonneg _ (by omega))
theorem law_Forged (code:List UInt8) (hb:code.length<=big):laws_FnForged (code,())=some (true,()):=by
 suffices h:Ens (laws_FnForged (code,())) λ r=>r=(true,()) by
  obtain⟨y,hy,rfl⟩:=h;exact hy
 unfold laws_FnForged pT;dsimp only;by_cases agx:(code.length:Int)>1048576
 ·simp only[agx,apR,apL,apN];exact Ens.some rfl
 simp only[agx,apU,apL,apM];refine (IM code hb).bind λ r1 h1 => ?_;obtain⟨hI,hl,hd⟩:=h1;have hll:=hI.liars.1;rw[WE r1.1.1 r1.1.2.1 (by omega),apL,u7 r1.1.1 r1.1.2.1 (by omega),apL];dsimp only;refine Ens.cond (λ h=>by simp at h) λ _ => ?_;refine Ens.cond (λ _=>Ens.some rfl) λ hok => ?_;have hv:jf (Zr r1.1.1 r1.1.2.1).1=true:=by
  unfold Zr at hok ⊢;cases h:jf (yS r1.1.1 r1.1.2.1)
  ·rw[h] at hok; simp at hok
  ·exact h
 refine (VT hv r1.2.1 hl hd).bind λ r4 h4 => ?_;have gI:=eE h4;have gl:=gI.liars.1;have gs:=gI.said.1;have gr:=o7 r4.1;have glen:=gI.len;have gb:=zR gI.conf;have ha:=VM h4;have hf:(r4.1.2.1.length:Int)<=Yv r4.1.1:=by
  have h4':=h4;unfold jf at h4';simp only[apO,apY] at h4';exact h4'.2.2.1
 have hf2:Yv r4.1.1=(r4.1.1.1 - 1) / 3:=by unfold Yv; rw[if_pos gI.conf]
 have aiV:((yW r4.1).length:Int)>0:=by omega
 rw[fV r4.1 (by omega) (by omega),apL];dsimp only;refine Ens.cond (λ h => ?_) λ _ => ?_
 ·exfalso;have:((yW r4.1).length:Int)=0:=by simpa using h
  omega
 refine (G9 code 1 (by decide) (by decide) hb).bind λ r6 h6 => ?_;have hne:¬ ((yW r4.1).length:Int)=0:=by omega
 rw[if_neg hne];have t0:0<=Int.tmod r6.1 ((yW r4.1).length:Int):=Int.tmod_nonneg _ h6;have t1:Int.tmod r6.1 ((yW r4.1).length:Int)<((yW r4.1).length:Int):=Int.tmod_lt_of_pos _ aiV;refine Ens.ite ⟨t0,t1⟩ ?_;refine (G9 code 2 (by decide) (by decide) hb).bind λ r7 h7 => ?_;have s0:0<=Int.tmod r7.1 5:=Int.tmod_nonneg _ h7;have s1:Int.tmod r7.1 5<5:=Int.tmod_lt_of_pos _ (by decide);rw[zg (n:=1+Int.tmod r7.1 5) (by omega) (by omega),Wb [] _ [(3,1,77,9)] (by simp) (by omega) (by simp),Option.bind_some];dsimp only;have hno:=Bf [] (1+Int.tmod r7.1 5) [(3,1,77,9)];have hnl:=Mk hno;generalize jB [] (1+Int.tmod r7.1 5) [(3,1,77,9)]=name at hno hnl;rw[Lg name (by omega),apL];have hi:(Int.tmod r6.1 ((yW r4.1).length:Int)).toNat<(yW r4.1).length:=by omega
 have hg:=List.getElem?_eq_getElem hi;have ahD:=List.getElem_mem hi;generalize (yW r4.1)[(Int.tmod r6.1 ((yW r4.1).length:Int)).toNat]=i at hg ahD;have hli:r4.1.2.1.any (· == i)=false:=by
  unfold yW at ahD;simp only[arq,ari] at ahD;obtain⟨j,⟨-,hj⟩,rfl⟩:=ahD;simpa using hj
 refine Ens.loop (λ x=>(0<=x.1/\x.1<=(r4.1.2.2.2.2.length:Int))/\∀ j (hj:j<r4.1.2.2.2.2.length),(j:Int)<x.1->(r4.1.2.2.2.2[j]).2.1≠name) (λ x=>((r4.1.2.2.2.2.length:Int)+1 - x.1).toNat) ?_ ⟨⟨Int.le_refl _,by dsimp only; omega⟩,λ j hj h=>by dsimp only at h; omega⟩ (by dsimp only; rw[Zn]; omega)
 intro rec x hx afU;obtain⟨x1,x2⟩:=hx;refine Ens.cond (λ h => ?_) λ h => ?_
 ·have h:x.1<(r4.1.2.2.2.2.length:Int):=by simpa using h
  refine Ens.ite ⟨x1.1,h⟩ ?_;have hi:x.1.toNat<r4.1.2.2.2.2.length:=by omega
  have hg:=List.getElem?_eq_getElem hi;rw[zm (e:=MR) hg];refine Ens.cond (λ _=>Ens.some rfl) λ he => ?_;have he:(r4.1.2.2.2.2[x.1.toNat]).2.1≠name:=by simpa using he
  rw[zg (n:=x.1+1) (by omega) (by omega)];refine afU _ ⟨⟨by dsimp only; omega,by dsimp only; omega⟩,λ j hj hlt => ?_⟩ (by dsimp only; omega)
  dsimp only at hlt;by_cases e:(j:Int)=x.1
  ·have:j=x.1.toNat:=by omega
   subst this;exact he
  ·exact x2 j hj (by omega)
 ·have h:¬ x.1<(r4.1.2.2.2.2.length:Int):=by simpa using h
  have acs:∀ s∈r4.1.2.2.2.2,s.2.1≠name:=by
   intro s hs;obtain⟨j,hj,rfl⟩:=List.getElem_of_mem hs;exact x2 j hj (by omega)
  rw[zm (e:=.i64) hg];have hml:QB r4.1.1 r4.1.2.1 r4.1.2.2.2.2 (2,0,([],0,[],[]),(zl name,name,[i]),(0,[],[]),0,0,0,0,0)=false:=by
   have hsg:signed r4.1.2.1 r4.1.2.2.2.2 (zl name) name [i]=false:=by
    unfold signed;simp only[aqm,arv,art,hli,arK];cases ac9:r4.1.2.2.2.2.any λ x=>x.1==zl name && (x.2.1==name && x.2.2==i)
    ·rfl
    exfalso;obtain⟨s,hs,hp⟩:=List.any_eq_true.1 ac9;simp only[apO,aqi] at hp;exact acs s hs hp.2.1
   unfold QB;dsimp only;rw[hsg];simp
  rw[acy h4 _ (by simp only[zh,zx,zj,zn,zq,apS,apQ]; omega) hml 0 0 ⟨by decide,by omega⟩,Option.bind_some]
  refine Ens.cond (λ _=>Ens.some ?_) λ h=>by simp at h
  simp
end G448
