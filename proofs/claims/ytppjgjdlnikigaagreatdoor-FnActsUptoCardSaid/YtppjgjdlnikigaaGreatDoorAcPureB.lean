/- Plain laws, part 2: what the functions compute. No program in sight. -/
import Derived.Test.YtppjgjdlnikigaaGreatDoorAcPureA
set_option linter.unusedSimpArgs false
set_option linter.unusedVariables false
namespace G448
open Ev Go
def Qw (r:zb) (to:Int) (m:zw):zb:=(r.1,r.2.1,r.2.2.1,r.2.2.2.1,r.2.2.2.2.1,r.2.2.2.2.2.1,r.2.2.2.2.2.2.1,r.2.2.2.2.2.2.2++[(to,m)])
noncomputable def ZM (c:za) (r:zb) (to:Int) (m:zw):zb×Bool:=
 bif !decide ((r.2.2.2.2.2.2.2.length:Int)≥30) && Z3 c r.1 (to,m) then (Qw r to m,true) else (r,false)
noncomputable def tell (c:za) (r:zb) (to:Int) (m:zw):zb×Bool:=bif ze c r then ZM c r to m else (r,false)
theorem kH (c:za) (r:zb) (to:Int) (m:zw) (hc:zC c=true) (hr:zf r<=137438953471) (hm:zj m<=137438953471):KM (c,r,to,m,())=some ((ZM c r to m).1,(ZM c r to m).2,()):=by
 obtain⟨hc1,hc2⟩:=yi hc;have hl:r.2.2.2.2.2.2.2.length<=137438953471:=by simp only[zf,yt] at hr; omega
 have e1:wr (c.1 - 1)=c.1 - 1:=zg (by omega) (by omega);unfold KM ZM Z3;simp only[qp c m (by omega),Yw,DV m (by omega),e1,alm,alr,als];rw[if_pos (by omega)];cases decide ((r.2.2.2.2.2.2.2.length:Int)≥30)<;>cases yO c m<;>cases (decide (to≥0) && decide (to<=c.1 - 1))<;>cases (to==r.1)<;>rfl
theorem ba {c:za} {r:zb} (h:ze c r=true):zC c=true:=by
 unfold ze at h;rw[alp] at h;exact h.1
theorem ahH (c:za) (r:zb) (to:Int) (m:zw) (hr:zf r<=137438953471) (hm:zj m<=137438953471):adw (c,r,to,m,())=some ((tell c r to m).1,(tell c r to m).2,()):=by
 unfold adw tell;simp only[Zv c r (by omega),Zw r (by omega),alm];cases h:ze c r
 ·rfl
 ·simp only[alt,aln,alo,kH c r to m (ba h) hr hm,alm]
theorem Sn (c:za) (r:zb) (to:Int) (m:zw):ze c (Qw r to m)=(ze c r && (!decide ((r.2.2.2.2.2.2.2.length:Int)≥30) && Z3 c r.1 (to,m))):=by
 unfold ze Qw;simp only[List.all_append,alX,List.all_nil,Bool.and_true,alv,alr,als];by_cases h:(r.2.2.2.2.2.2.2.length:Int)≥30
 ·have e1:decide (((r.2.2.2.2.2.2.2.length+(0+1):Nat):Int)<=30)=false:=by simp; omega
  rw[e1];simp[h]
 ·have e1:decide (((r.2.2.2.2.2.2.2.length+(0+1):Nat):Int)<=30)=true:=by simp; omega
  have e2:decide ((r.2.2.2.2.2.2.2.length:Int)<=30)=true:=by simp; omega
  have e3:decide ((r.2.2.2.2.2.2.2.length:Int)≥30)=false:=by simp; omega
  rw[e1,e2,e3];simp only[alI,alP,Bool.and_assoc]
theorem So (r:zb) (to:Int) (m:zw):zf (Qw r to m)=zf r+(1+zj m):=by
 simp only[Qw,zf,yt,Yi,alv,an6,anl,alr,als,alG,am8,am1,List.sum_nil];omega
theorem acH (c:za) (r:zb) (to:Int) (m:zw) (hr:zf r<=500000000) (hm:zj m<=500000000):s6 (c,r,to,m,())=some ((tell c r to m).1,(tell c r to m).2,()):=by
 have hl:r.2.2.2.2.2.2.2.length<=500000000:=by simp only[zf,yt] at hr; omega
 have hw:=So r to m;have hk:=Kf c (Qw r to m) (by omega);unfold s6 tell ZM;simp only[vo r (by omega),SW m (by omega),alm,alr,als];rw[if_pos (by omega)];have e:(r.1,r.2.1,r.2.2.1,r.2.2.2.1,r.2.2.2.2.1,r.2.2.2.2.2.1,r.2.2.2.2.2.2.1,r.2.2.2.2.2.2.2++[(to,m)])=Qw r to m:=rfl;rw[e,hk,Sn,alm];cases ze c r<;>cases (!decide ((r.2.2.2.2.2.2.2.length:Int)≥30) && Z3 c r.1 (to,m))<;>rfl
theorem abV (c:za) (r:zb) (to:Int) (m:zw):zf (tell c r to m).1<=zf r+(1+zj m):=by
 have hw:=So r to m;unfold tell ZM;cases ze c r
 ·simp only[aln]; omega
 ·cases (!decide ((r.2.2.2.2.2.2.2.length:Int)≥30) && Z3 c r.1 (to,m))
  ·simp only[alo,aln]; omega
  ·simp only[alo]; omega
theorem sK {c:za} {r:zb} {to:Int} {m:zw} (h:(tell c r to m).2=true):ze c (tell c r to m).1=true/\(tell c r to m).1.1=r.1:=by
 have hk:=Sn c r to m;unfold tell ZM at h ⊢;cases hr:ze c r
 ·rw[hr] at h; cases h
 ·rw[hr] at h hk;cases hb:(!decide ((r.2.2.2.2.2.2.2.length:Int)≥30) && Z3 c r.1 (to,m))
  ·rw[hb] at h; cases h
  ·rw[hb] at hk;simp only[alo];exact⟨hk,rfl⟩
theorem Ef {c:za} {r:zb} (to:Int) (m:zw) (h:ze c r=true):ZM c r to m=tell c r to m:=by
 unfold tell; rw[h]; rfl
noncomputable def JB (c:za) (r:zb) (m:zw):Nat->Nat->zb->zb×Bool
 | 0,_,out=>(out,true)
 | n+1,i,out=>bif ((i:Int)==r.1) then JB c r m n (i+1) out else bif (tell c out i m).2 then JB c r m n (i+1) (tell c out i m).1 else (r,false)
noncomputable def LH (c:za) (r:zb) (m:zw):zb×Bool:=bif ze c r then JB c r m c.1.toNat 0 r else (r,false)
theorem abU (c:za) (r:zb) (m:zw) (z:zb) (hc:4<=c.1/\c.1<=7) (hok:ze c r=true) {G:(Int×zb×zb×Unit->Option (zb×Bool×Unit))->Int×zb×zb×Unit->Option (zb×Bool×Unit)}
  (hG:∀ rec (i:Nat) (out:zb),i<7->ze c out=true->zf out<=zf r+i*(1+zj m)->G rec ((i:Int),z,out,())=bif decide ((i:Int)<c.1) then (bif ((i:Int)==r.1) then rec ((i:Int)+1,z,out,()) else
   bif (tell c out i m).2 then rec ((i:Int)+1,z,(tell c out i m).1,()) else some (r,false,())) else some (out,true,()))
  (hE:∀ rec (out:zb),G rec (c.1,z,out,())=some (out,true,())):
  iter G fuel (0,z,r,())=some ((JB c r m c.1.toNat 0 r).1,(JB c r m c.1.toNat 0 r).2,()):=by
 obtain⟨n,hn⟩:∃ n:Nat,c.1=(n:Int):=⟨c.1.toNat,by omega⟩
 refine (walk n (λ i (out:zb)=>(i,z,out,())) (λ i out=>ze c out=true/\zf out<=zf r+i*(1+zj m)) (λ i out=>some ((JB c r m (n - i) i out).1,(JB c r m (n - i) i out).2,())) (by omega) ?_ ?_ (s0:=r) ⟨hok,by omega⟩).trans (by rw[hn]; simp)
 ·intro rec out ho;rw[←hn,hE]; simp[JB]
 ·intro rec i out hi ho;rw[hG rec i out (by omega) ho.1 ho.2,show n - i=(n - (i+1))+1 by omega];simp only[show ((i:Int)<c.1) by omega,alu,alo,JB];cases he:((i:Int)==r.1)
  ·cases ht:(tell c out i m).2
   ·left; rfl
   ·right;have:=abV c out i m;refine⟨(tell c out i m).1,⟨(sK ht).1,?_⟩,rfl,rfl⟩;rw[am3]; omega
  ·right;exact⟨out,⟨ho.1,by rw[am3]; omega⟩,rfl,rfl⟩
theorem seven {i N:Nat} (h:i<7):i*N<=7*N:=Nat.mul_le_mul (by omega) (Nat.le_refl _)
theorem abs (c:za) (r:zb) (m:zw) (hr:zf r<=100000000) (hm:zj m<=10000000):bT (c,r,m,())=some ((LH c r m).1,(LH c r m).2,()):=by
 unfold bT LH;dsimp only;rw[Zw r (by omega),alm,Zv c r (by omega),alm];cases hok:ze c r
 ·rfl
 ·obtain⟨h1,h2⟩:=yi (ba hok);simp only[alt,aln,alo];refine abU c r m _ ⟨h1,h2⟩ hok ?_ ?_
  ·intro rec i out hi ho hwo;have:=seven (N:=1+zj m) hi;simp only[kH c out i m (ba hok) (by omega) (by omega),Ef _ _ ho,Zw r (by omega),alm,zx (show i<4611686018427387904 by omega)];cases decide ((i:Int)<c.1)<;>cases ((i:Int)==r.1)<;>cases (tell c out i m).2<;>rfl
  ·intro rec out;simp only[alS,alx,aln]
theorem agI (c:za) (r:zb) (m:zw) (hr:zf r<=100000000) (hm:zj m<=10000000):adb (c,r,m,())=some ((LH c r m).1,(LH c r m).2,()):=by
 unfold adb LH;dsimp only;rw[vo r (by omega),alm,Kf c r (by omega),alm];cases hok:ze c r
 ·rfl
 ·obtain⟨h1,h2⟩:=yi (ba hok);simp only[alt,aln,alo];refine abU c r m _ ⟨h1,h2⟩ hok ?_ ?_
  ·intro rec i out hi ho hwo;have:=seven (N:=1+zj m) hi;simp only[acH c out i m (by omega) (by omega),vo r (by omega),alm,zx (show i<4611686018427387904 by omega)];cases decide ((i:Int)<c.1)<;>cases ((i:Int)==r.1)<;>cases (tell c out i m).2<;>rfl
  ·intro rec out;simp only[alS,alx,aln]
theorem adP (c:za) (r:zb) (m:zw):∀ (n i:Nat) (out:zb),zf (JB c r m n i out).1<=max (zf r) (zf out+n*(1+zj m))
 | 0,i,out=>by simp only[JB]; omega
 | n+1,i,out=>by
  simp only[JB];have h1:=adP c r m n (i+1) out;have h2:=adP c r m n (i+1) (tell c out i m).1;have h3:=abV c out i m;cases ((i:Int)==r.1)
  ·cases (tell c out i m).2
   ·simp only[aln]; omega
   ·simp only[aln,alo]; rw[am3]; omega
  ·simp only[alo]; rw[am3]; omega
theorem ahJ (c:za) (r:zb) (m:zw):zf (LH c r m).1<=zf r+7*(1+zj m):=by
 unfold LH;cases hok:ze c r
 ·simp only[aln]; omega
 ·obtain⟨h1,h2⟩:=yi (ba hok);have:=adP c r m c.1.toNat 0 r;have h7:c.1.toNat*(1+zj m)<=7*(1+zj m):=Nat.mul_le_mul (by omega) (Nat.le_refl _);simp only[alo];omega
noncomputable def jn (c:za) (s:zr):List UInt8:=bif zU c s then ((zq s.1++zq s.2.1)++Js c s.2.2.1)++zX s.2.2.2 else []
theorem gu (c:za) (s:zr):(jn c s).length<=30+5*zt s:=by
 unfold jn;have h1:=y0 s.1;have h2:=y0 s.2.1;have h3:=Ml c s.2.2.1;have h4:=JW s.2.2.2;cases zU c s
 ·simp
 ·simp only[alo,alv,zt]; omega
theorem abj (c:za) (s:zr) (hw:zt s<=10000000000):kc (c,s,())=some (jn c s,()):=by
 have h1:=y0 s.1;have h2:=y0 s.2.1;have h3:=Ml c s.2.2.1;have h4:=JW s.2.2.2;have hq:zi s.2.2.1<=10000000000:=by simp only[zt] at hw; omega
 have hn:s.2.2.2.length<=10000000000:=by simp only[zt] at hw; omega
 unfold kc jn;simp only[qy c s (by omega),KI,sg c s.2.2.1 (by omega),g8 s.2.2.2 (by omega),alm,alv];rw[if_pos (by omega),if_pos (by omega),if_pos (by omega)];cases zU c s<;>rfl
theorem UV (a b:Int):nums [a,b]=zq a++zq b:=by simp[nums]
theorem SI (c:za) (s:zr) (hw:zt s<=1073741824):dC (c,s,())=some (jn c s,()):=by
 have h1:=y0 s.1;have h2:=y0 s.2.1;have h3:=Ml c s.2.2.1;have h4:=JW s.2.2.2;have hq:zi s.2.2.1<=1073741824:=by simp only[zt] at hw; omega
 have hn:s.2.2.2.length<=1073741824:=by simp only[zt] at hw; omega
 unfold dC jn;simp only[mR c s (by omega),vq [s.1,s.2.1] (by simp),UV,SE c s.2.2.1 (by omega),ve s.2.2.2 (by omega),Option.bind_some,List.length_append];rw[if_pos (by omega),if_pos (by omega)];cases zU c s<;>rfl
noncomputable def yn (c:za) (s:zr):List UInt8:=bif (((jn c s).length:Int)==0) then [] else (zq ((jn c s).length:Int)++jn c s)++[UInt8.ofNat (Int.toNat 10)]
theorem eO (c:za) (s:zr):(yn c s).length<=40+5*zt s:=by
 unfold yn;have h1:=gu c s;have h2:=y0 ((jn c s).length:Int);cases (((jn c s).length:Int)==0)
 ·simp only[aln,alv,alr,als]; omega
 ·simp
theorem abd (c:za) (s:zr) (hw:zt s<=10000000000):gX (c,s,())=some (yn c s,()):=by
 have h1:=gu c s;have h2:=y0 ((jn c s).length:Int);unfold gX yn;simp only[abj c s hw,KI,alm,alv,alr,als];rw[if_pos (by omega),if_pos (by omega)];cases (((jn c s).length:Int)==0)<;>rfl
theorem SA (c:za) (s:zr) (hw:zt s<=1073741824):dr (c,s,())=some (yn c s,()):=by
 have h1:=gu c s;have h2:=y0 ((jn c s).length:Int);unfold dr yn;simp only[SI c s hw,QK,alm,alv,alr,als];rw[if_pos (by omega),if_pos (by omega)];cases (((jn c s).length:Int)==0)<;>rfl
theorem CW (a b:zr):jx a b=decide (a=b):=by
 obtain⟨a1,a2,a3,a4⟩:=a;obtain⟨b1,b2,b3,b4⟩:=b;unfold jx;simp only[pB];rw[amY];simp[Prod.ext_iff]
def MX (r:zb) (s:zr) (d:yJ):zb:=(r.1,r.2.1,r.2.2.1,s,r.2.2.2.2.1,r.2.2.2.2.2.1,d,r.2.2.2.2.2.2.2)
noncomputable def zv (c:za) (r:zb) (s:zr):zb×Bool:=
 bif jx r.2.2.2.1 s then (r,true) else bif (yE r.2.2.2.2.2.2.1 (yn c s)).2 && zU c s then (MX r s (yE r.2.2.2.2.2.2.1 (yn c s)).1,true) else (r,false)
noncomputable def write (c:za) (r:zb) (s:zr):zb×Bool:=bif ze c r then zv c r s else (r,false)
theorem EI {c:za} {r:zb} {s:zr} (h:(zv c r s).2=false):(zv c r s).1=r:=by
 unfold zv at *;cases h1:jx r.2.2.2.1 s
 ·rw[h1] at h;cases h2:((yE r.2.2.2.2.2.2.1 (yn c s)).2 && zU c s)
  ·rfl
  ·rw[h2] at h; cases h
 ·rw[h1] at h; cases h
theorem qO (c:za) (r:zb) (s:zr) (hr:zf r<=10000000000) (hs:zt s<=10000000000):Yf (c,r,s,())=some ((zv c r s).1,(zv c r s).2,()):=by
 have h1:=LJ hr;have h2:=eO c s;have h3:=LK hr;unfold Yf zv;simp only[sq r.2.2.2.1 s (by omega),abd c s hs,aaW r.2.2.2.2.2.2.1 (yn c s) (by omega) (by omega),qy c s (by omega),b8 s (by omega),alm];cases jx r.2.2.2.1 s<;>cases (yE r.2.2.2.2.2.2.1 (yn c s)).2<;>cases zU c s<;>rfl
theorem tM {d:yJ} {b:List UInt8} (h:(yE d b).2=true):yB (yE d b).1=true:=by
 unfold yE at *;split at h
 ·next hc=>
  rw[if_pos hc];have:=K4.1 hc.1;refine K4.2 ⟨?_,this.2.1,?_⟩
  ·simp only[alv]; omega
  ·simp only[alv]; omega
 ·cases h
theorem EG {c:za} {r:zb} {s:zr} {d:yJ} (hr:ze c r=true) (hd:yB d=true):ze c (MX r s d)=zU c s:=by
 obtain⟨a,v,k,sf,pool,tab,dk,held⟩:=r;show ze c (a,v,k,s,pool,tab,d,held)=_;unfold ze at hr ⊢;simp only[alp] at hr;obtain⟨a1,a2,a3,a4,a5,a6,a7,a8,a9,a10⟩:=hr;simp only at a1 a2 a3 a4 a5 a6 a7 a8 a9 a10 ⊢;rw[a1,a2.1,a2.2,a3.1,a3.2,a4.1,a4.2,a6,a7,hd,a9,a10];simp
theorem te (r:zb) (s:zr) (d:yJ):zf (MX r s d)<=zf r+zt s+d.1.length:=by
 simp only[MX,zf,JD]; omega
theorem SS (c:za) (r:zb) (s:zr) (hr:zf r<=100000000) (hs:zt s<=100000000):dK (c,r,s,())=some ((write c r s).1,(write c r s).2,()):=by
 have h1:=LJ hr;have h2:=eO c s;have h3:=LK hr;have h4:=tL r.2.2.2.2.2.2.1 (yn c s);have h5:=te r s (yE r.2.2.2.2.2.2.1 (yn c s)).1;have hk:=Kf c (MX r s (yE r.2.2.2.2.2.2.1 (yn c s)).1) (by omega);unfold dK write zv;have e:(r.1,r.2.1,r.2.2.1,s,r.2.2.2.2.1,r.2.2.2.2.2.1,(yE r.2.2.2.2.2.2.1 (yn c s)).1,r.2.2.2.2.2.2.2)=MX r s (yE r.2.2.2.2.2.2.1 (yn c s)).1:=rfl;simp only[vo r (by omega),Kf c r (by omega),dE s r.2.2.2.1 (by omega),SA c s (by omega),Sr r.2.2.2.2.2.2.1 (yn c s) (by omega) (by omega),vp s (by omega),alm,e,hk];have es:jx s r.2.2.2.1=jx r.2.2.2.1 s:=by rw[CW,CW]; exact decide_eq_decide.2 ⟨λ h=>h.symm,λ h=>h.symm⟩
 rw[es];cases hok:ze c r
 ·rfl
 ·cases jx r.2.2.2.1 s
  ·cases ha:(yE r.2.2.2.2.2.2.1 (yn c s)).2
   ·rfl
   ·rw[EG hok (tM ha)];cases zU c s<;>rfl
  ·rfl
end G448
namespace G448
open Ev
set_option maxRecDepth 100000
noncomputable def qe (c:za) (ws:jB) (p:J9):jB:=
 bif decide (((Kn c p.2).length:Int)>0) then (bif (decide (p.1≥0) && decide (p.1<=wr (c.1 - 1))) then (bif decide ((ws.length:Int)<60) then ws++[(p.1,Kn c p.2)] else ws) else ws) else ws
noncomputable def bt (c:za) (ws:jB) (ps:Zg):jB:=ps.foldl (qe c) ws
theorem aa5 (c:za) (l:jg) (rs:YC) (sd:yW) (ps:Zg) (ws:jB) {G:(Int×zB×Unit->Option (zB×Unit))->Int×zB×Unit->Option (zB×Unit)} (hn:ps.length<=1073741824)
  (acP:∀ (rec:Int×zB×Unit->Option (zB×Unit)) (i:Nat) (s:jB) (h:i<ps.length),G rec ((i:Int),(c,l,rs,s,sd),())=rec ((i:Int)+1,(c,l,rs,qe c s ps[i],sd),()))
  (acT:∀ (rec:Int×zB×Unit->Option (zB×Unit)) (s:jB),G rec ((ps.length:Int),(c,l,rs,s,sd),())=some ((c,l,rs,s,sd),())):
  iter G fuel (0,(c,l,rs,ws,sd),())=some ((c,l,rs,bt c ws ps,sd),()):=by
 refine (walk ps.length (λ i (s:jB)=>(i,(c,l,rs,s,sd),())) (λ _ _=>True) (λ i s=>some ((c,l,rs,bt c s (ps.drop i),sd),())) (by omega) ?_ ?_ (s0:=ws) trivial).trans (by simp only[alN])
 ·intro rec s _;rw[acT,am7];rfl
 ·intro rec i s hi _;exact .inr ⟨qe c s ps[i],trivial,acP rec i s hi,by rw[alJ hi]; rfl⟩
theorem DY (w:zB) (ps:Zg) (hp:yt ps<=1073741824):ci (w,ps,())=some ((w.1,w.2.1,w.2.2.1,bt w.1 w.2.2.2.1 ps,w.2.2.2.2),()):=by
 have hl:ps.length<=1073741824:=by simp only[yt] at hp; omega
 unfold ci;refine aa5 w.1 w.2.1 w.2.2.1 w.2.2.2.2 ps w.2.2.2.1 hl ?_ ?_
 ·intro rec i s hi;have hx:ps[i]?=some ps[i]:=List.getElem?_eq_getElem hi;have hm:=lD (Nat.le_refl (yt ps)) hx;have hlt:decide ((i:Int)<(ps.length:Int))=true:=by simp; omega
  simp only[hlt,cond_true,show (0:Int)<=(i:Int)/\(i:Int)<(ps.length:Int) from⟨by omega,by omega⟩,and_self,if_true,Int.toNat_natCast,zu (e:=lK) hx,abc w.1 ps[i].2 (by omega),Option.bind_some,kM,zx (show i<4611686018427387904 by omega),qe];by_cases h60:(s.length:Int)<60
  ·simp only[h60,alu,alo];rw[if_pos (by simp only[alr,als]; omega)]
   cases decide (((Kn w.1 ps[i].2).length:Int)>0)<;>cases (decide (ps[i].1≥0) && decide (ps[i].1<=wr (w.1.1 - 1)))<;>rfl
  ·simp only[h60,alx,aln];cases decide (((Kn w.1 ps[i].2).length:Int)>0)<;>cases (decide (ps[i].1≥0) && decide (ps[i].1<=wr (w.1.1 - 1)))<;>rfl
 ·intro rec s;simp only[alS,alx,aln]
end G448
namespace G448
open Ev Go
set_option maxRecDepth 100000
abbrev ER:Ty:=.pair .i64 (.sl 0 (.pair .i64 (.pair .i64 (.pair .i64 .i64))))
def tj:zJ:=(0,[],[])
noncomputable def Jq (c:za) (p:zM):zJ×Bool:=bif p.2.1==[] then (tj,false) else bif z8 c p then (p,true) else (tj,false)
theorem ah5 {c:za} {q:zJ} (h:z8 c q=true):(q.1==0)=(q.2.1==[]):=by
 unfold z8 at h;simp only[alp,alT] at h;obtain⟨_,hn,hv,_⟩:=h;by_cases h0:q.2.1=[]
 ·have:=wo.2;rw[←h0,hv] at this;rw[this,h0]; rfl
 ·have:=(ak hn h0).1;have e1:(q.2.1==[])=false:=beq_eq_false_iff_ne.2 h0;have e2:(q.1==0)=false:=beq_eq_false_iff_ne.2 (by omega);rw[e1,e2]
theorem abf (c:za) (p:zM) (hw:zm p<=137438953472):gZ (c,p,())=some ((Jq c p).1,(Jq c p).2,()):=by
 have h1:p.2.2.length<=137438953472:=by simp only[zm,zn] at hw; omega
 have h2:zi p<=137438953472:=hw;unfold gZ Jq tj;dsimp only;rw[if_pos (by omega)];simp only[alL];rw[Lx c (p.1,p.2.1,p.2.2) h2,alm];show _=some ((bif p.2.1==[] then ((0,[],[]),false) else bif z8 c (p.1,p.2.1,p.2.2) then (p,true) else ((0,[],[]),false)).1,_,());cases (p.2.1==([]:List UInt8))
 ·cases z8 c (p.1,p.2.1,p.2.2)<;>rfl
 ·rfl
theorem agv (c:za) (p:zM) (hw:zm p<=1073741824):acV (c,p,())=some ((Jq c p).1,(Jq c p).2,()):=by
 have h2:zi p<=1073741824:=hw;unfold acV Jq tj;dsimp only;rw[mT p (by omega),alm,dx c p h2,alm];cases h:z8 c p
 ·cases (p.2.1==([]:List UInt8))<;>rfl
 ·have e:=ah5 h;dsimp only;rw[e];cases (p.2.1==([]:List UInt8))<;>rfl
theorem U2 {c:za} {p:zM} (h:(Jq c p).2=true):(Jq c p).1=p/\z8 c p=true:=by
 unfold Jq at *;cases h1:(p.2.1==([]:List UInt8))
 ·rw[h1] at h;cases h2:z8 c p
  ·rw[h2] at h; cases h
  ·exact⟨rfl,rfl⟩
 ·rw[h1] at h; cases h
def fQ (a b:zJ):zJ:=bif decide (a.1>b.1) then a else b
theorem abi (a b:zJ) (ha:zi a<=137438953472) (hb:zi b<=137438953472):ka (a,b,())=some (fQ a b,()):=by
 unfold ka fQ;dsimp only;rw[ML a ha,ML b hb];cases decide (a.1>b.1)<;>rfl
theorem agy (a b:zJ) (ha:zi a<=137438953472) (hb:zi b<=137438953472):acX (a,b,())=some (fQ a b,()):=by
 unfold acX fQ;dsimp only;rw[mT a ha,mT b hb];cases decide (a.1>b.1)<;>rfl
theorem cu (s:List UInt8):(Yh s).length<=s.length:=by
 unfold Yh;split
 ·split
  ·rw[alE]; omega
  ·simp
 ·simp
noncomputable def ZL (l:List ZZ) (k:Int):Int:=(rd ER l (Int.toNat (wr ((l.length:Int) - k)))).1
noncomputable def Yu (s:List UInt8):List UInt8×Bool:=
 bif decide (((steps s).1.length:Int)<3) then ([],false) else
 bif ZL (steps s).1 1 != wr (ZL (steps s).1 2+1) then ([],false) else
 bif ZL (steps s).1 2 != wr (ZL (steps s).1 3+1) then ([],false) else (Yh (Yh s),true)
theorem dY {l:List ZZ} (h:¬ ((l.length:Int)<3)) (h2:l.length<=30) (k:Int) (hk:1<=k/\k<=3):0<=wr ((l.length:Int) - k)/\wr ((l.length:Int) - k)<(l.length:Int):=by
 rw[zg (by omega) (by omega)];omega
theorem abn (s:List UInt8) (hs:s.length<=137438953472):kj (s,())=some ((Yu s).1,(Yu s).2,()):=by
 have hu:=cu s;obtain⟨p1,p2⟩:=ct s;unfold kj Yu;dsimp only;rw[km s hs,alm];cases h:(steps s).2
 ·rw[p1 h]; rfl
 ·dsimp only;by_cases h3:((steps s).1.length:Int)<3
  ·simp only[h3,alu,alo,alt,aln]
  ·simp only[h3,alx,aln,alt];rw[if_pos (dY h3 p2 1 (by decide)),if_pos (dY h3 p2 2 (by decide)),if_pos (dY h3 p2 2 (by decide)),if_pos (dY h3 p2 3 (by decide)),bV s hs,alm,bV (Yh s) (by omega),alm];show (bif ZL (steps s).1 1 != wr (ZL (steps s).1 2+1) then _ else bif ZL (steps s).1 2 != wr (ZL (steps s).1 3+1) then _ else _)=_;cases (ZL (steps s).1 1 != wr (ZL (steps s).1 2+1))<;>cases (ZL (steps s).1 2 != wr (ZL (steps s).1 3+1))<;>rfl
theorem agB (s:List UInt8) (hs:s.length<=1073741824):ad3 (s,())=some ((Yu s).1,(Yu s).2,()):=by
 have hu:=cu s;obtain⟨p1,p2⟩:=ct s;unfold ad3 Yu;dsimp only;rw[mS s hs,alm];dsimp only;by_cases h3:((steps s).1.length:Int)<3
 ·simp only[h3,alu,alo]
 ·simp only[h3,alx,aln];rw[if_pos (dY h3 p2 1 (by decide)),if_pos (dY h3 p2 2 (by decide)),if_pos (dY h3 p2 2 (by decide)),if_pos (dY h3 p2 3 (by decide)),SR s hs,alm,SR (Yh s) (by omega),alm];show (bif ZL (steps s).1 1 != wr (ZL (steps s).1 2+1) then _ else bif ZL (steps s).1 2 != wr (ZL (steps s).1 3+1) then _ else _)=_;cases (ZL (steps s).1 1 != wr (ZL (steps s).1 2+1))<;>cases (ZL (steps s).1 2 != wr (ZL (steps s).1 3+1))<;>rfl
theorem Dc (s:List UInt8):(Yu s).1.length<=s.length:=by
 have h1:=cu s;have h2:=cu (Yh s);unfold Yu;cases decide (((steps s).1.length:Int)<3)
 ·cases (ZL (steps s).1 1 != wr (ZL (steps s).1 2+1))
  ·cases (ZL (steps s).1 2 != wr (ZL (steps s).1 3+1))
   ·simp only[aln]; omega
   ·simp
  ·simp
 ·simp
noncomputable def Qq (a b:List UInt8):Bool:=
 zG a && (zG b && (!decide ((b.length:Int)>(a.length:Int)) && (a.take b.length==b && ((a.length:Int)==(b.length:Int) || a.getD b.length 0==UInt8.ofNat (Int.toNat 47)))))
theorem ab0 (a b:List UInt8) (ha:a.length<=137438953472) (hb:b.length<=137438953472):gO (a,b,())=some (Qq a b,()):=by
 unfold gO Qq;dsimp only;rw[KG a ha,alm,KG b hb,alm];cases zG a
 ·rfl
 cases zG b
 ·rfl
 by_cases hl:(b.length:Int)>(a.length:Int)
 ·simp only[hl,alu,alo,alt,aln,ami,amM,alI]
 ·simp only[hl,alx,aln,alt,alP,alI];rw[if_pos (by omega)];simp only[aly,show Int.toNat 0=0 from rfl,amv,alN,bne];cases a.take b.length==b
  ·rfl
  ·simp only[alt,aln,alI];cases he:((a.length:Int)==(b.length:Int))
   ·have:(a.length:Int)≠(b.length:Int):=by simpa using he
    simp only[aln,ang];rw[if_pos (by omega)]
   ·rfl
theorem agp (a b:List UInt8) (ha:a.length<=1073741824) (hb:b.length<=1073741824):acR (a,b,())=some (Qq a b,()):=by
 unfold acR Qq adN adG;dsimp only;rw[QG a ha,alm,QG b hb,alm];cases zG a
 ·rfl
 cases zG b
 ·rfl
 by_cases hl:(b.length:Int)>(a.length:Int)
 ·have:¬ ((a.length:Int)≥(b.length:Int)):=by omega
  simp only[hl,this,alu,alx,alo,alt,aln,ami,amM,alI,alm]
 ·have:(a.length:Int)≥(b.length:Int):=by omega
  simp only[hl,this,alu,alx,alo,aln,alt,alP,alI];rw[if_pos (show (0:Int)<=0/\(0:Int)<=(b.length:Int)/\True from⟨by omega,by omega,trivial⟩)];simp only[aly,show Int.toNat 0=0 from rfl,amv,alN,alm];cases a.take b.length==b
  ·rfl
  ·simp only[alo,alI];cases he:((a.length:Int)==(b.length:Int))
   ·have:(a.length:Int)≠(b.length:Int):=by simpa using he
    simp only[aln,ang];rw[if_pos (by omega)]
   ·rfl
noncomputable def see (c:za) (s:zr) (q:zJ):zr:=
 bif !zU c s then s else bif !z8 c q then s else (s.1,max s.2.1 (zo (Yh q.2.1)),fQ q s.2.2.1,bif (Yu q.2.1).2 && Qq (Yu q.2.1).1 s.2.2.2 then (Yu q.2.1).1 else s.2.2.2)
theorem ae1 (a b:Int):mx a b=max a b:=by rw[eI]; omega
theorem kg (c:za) (s:zr) (q:zJ) (hs:zt s<=10000000000) (hq:zi q<=10000000000):MB (c,s,q,())=some (see c s q,()):=by
 have h1:q.2.1.length<=10000000000:=by simp only[zi] at hq; omega
 have h2:=cu q.2.1;have h3:=Dc q.2.1;have h4:zi s.2.2.1<=10000000000/\s.2.2.2.length<=10000000000:=by simp only[zt] at hs; omega
 unfold MB see;dsimp only;rw[b8 s (by omega),alm,qy c s (by omega),alm,Lx c q (by omega),alm,abi q s.2.2.1 (by omega) (by omega),alm,bV q.2.1 (by omega),alm,Y5 (Yh q.2.1) (by omega),alm,MM,alm,
  abn q.2.1 (by omega),alm,ab0 (Yu q.2.1).1 s.2.2.2 (by omega) (by omega),alm]
 cases zU c s
 ·rfl
 cases z8 c q
 ·rfl
 cases (Yu q.2.1).2
 ·rfl
 cases Qq (Yu q.2.1).1 s.2.2.2<;>rfl
theorem agz (c:za) (s:zr) (q:zJ) (hs:zt s<=1073741824) (hq:zi q<=1073741824):ad1 (c,s,q,())=some (see c s q,()):=by
 have h1:q.2.1.length<=1073741824:=by simp only[zi] at hq; omega
 have h2:=cu q.2.1;have h3:=Dc q.2.1;have h4:zi s.2.2.1<=1073741824/\s.2.2.2.length<=1073741824:=by simp only[zt] at hs; omega
 unfold ad1 see;dsimp only;rw[vp s (by omega),alm,mR c s (by omega),alm,dx c q (by omega),alm,agy q s.2.2.1 (by omega) (by omega),alm,SR q.2.1 (by omega),alm,vj (Yh q.2.1) (by omega),alm,
  agB q.2.1 (by omega),alm,agp (Yu q.2.1).1 s.2.2.2 (by omega) (by omega),alm]
 simp only[ae1];cases zU c s
 ·rfl
 cases z8 c q
 ·rfl
 cases (Yu q.2.1).2
 ·rfl
 cases Qq (Yu q.2.1).1 s.2.2.2<;>rfl
theorem bp (c:za) (s:zr) (q:zJ):zt (see c s q)<=zt s+2*zi q:=by
 have h3:=Dc q.2.1;unfold see fQ;cases zU c s
 ·simp only[alP,alo]; omega
 cases z8 c q
 ·simp only[alP,alo,alt,aln]; omega
 simp only[alt,aln,zt];have h5:q.2.1.length<=zi q:=by simp only[zi]; omega
 cases decide (q.1>s.2.2.1.1)<;>cases ((Yu q.2.1).2 && Qq (Yu q.2.1).1 s.2.2.2)<;>simp only[alo,aln]<;>omega
noncomputable def seat (c:za) (v i:Int):Int:=bif zC c && (!decide (v<0) && (decide (i≥0) && decide (i<=c.1 - 1))) then (i+c.1 - v % c.1) % c.1 else -1
noncomputable def sits (c:za) (v p:Int):Int:=bif zC c && (!decide (v<0) && (decide (p≥0) && decide (p<=c.1 - 1))) then (v % c.1+p) % c.1 else -1
theorem lz {a n:Int} (h:0<=a):Int.tmod a n=a % n:=Int.tmod_eq_emod_of_nonneg h
theorem bO (c:za) (v i:Int):qA (c,v,i,())=some (seat c v i,()):=by
 unfold qA seat;dsimp only;rw[Y2,alm];cases h:zC c
 ·rfl
 obtain⟨h1,h2⟩:=yi h;have e1:wr (c.1 - 1)=c.1 - 1:=zg (by omega) (by omega);by_cases hv:v<0
 ·simp only[hv,alu,alo,alt,aln,ami,amM,alI]
 simp only[hv,alx,aln,alt,alP,alI,kM,alm,e1];by_cases hi:i≥0/\i<=c.1 - 1
 ·have a1:0<=v % c.1:=Int.emod_nonneg _ (by omega);have a2:v % c.1<c.1:=Int.emod_lt_of_pos _ (by omega);simp only[hi.1,hi.2,alu,amn,alt,aln,alo];rw[if_neg (by omega),if_neg (by omega),lz (show 0<=v by omega),zg (show -9223372036854775808<=i+c.1 by omega) (by omega),zg (by omega) (by omega),lz (by omega)]
 ·have:(decide (i≥0) && decide (i<=c.1 - 1))=false:=by
   rw[Bool.eq_false_iff]; intro h; simp only[alp,alz] at h; exact hi h
  simp only[this,alP,alo,aln]
theorem F3 (c:za) (v i:Int):s8 (c,v,i,())=some (seat c v i,()):=by
 unfold s8 seat;dsimp only;rw[Qz,alm];cases h:zC c
 ·rfl
 obtain⟨h1,h2⟩:=yi h;have e1:wr (c.1 - 1)=c.1 - 1:=zg (by omega) (by omega);by_cases hv:v<0
 ·simp only[hv,alu,alo,alt,aln,ami,amM,alI]
 simp only[hv,alx,aln,alt,alP,alI,adW,alm,e1];by_cases hi:i≥0/\i<=c.1 - 1
 ·have a1:0<=v % c.1:=Int.emod_nonneg _ (by omega);have a2:v % c.1<c.1:=Int.emod_lt_of_pos _ (by omega);simp only[hi.1,hi.2,alu,amn,alt,aln,alo];rw[if_neg (by omega),if_neg (by omega),lz (show 0<=v by omega),zg (show -9223372036854775808<=i - v % c.1 by omega) (by omega),zg (by omega) (by omega),lz (by omega),show i - v % c.1+c.1=i+c.1 - v % c.1 by omega]
 ·have:(decide (i≥0) && decide (i<=c.1 - 1))=false:=by
   rw[Bool.eq_false_iff]; intro h; simp only[alp,alz] at h; exact hi h
  simp only[this,alP,alo,aln]
theorem abo (c:za) (v p:Int):kl (c,v,p,())=some (sits c v p,()):=by
 unfold kl sits;dsimp only;rw[Y2,alm];cases h:zC c
 ·rfl
 obtain⟨h1,h2⟩:=yi h;have e1:wr (c.1 - 1)=c.1 - 1:=zg (by omega) (by omega);by_cases hv:v<0
 ·simp only[hv,alu,alo,alt,aln,ami,amM,alI]
 simp only[hv,alx,aln,alt,alP,alI,kM,alm,e1];by_cases hi:p≥0/\p<=c.1 - 1
 ·have a1:0<=v % c.1:=Int.emod_nonneg _ (by omega);have a2:v % c.1<c.1:=Int.emod_lt_of_pos _ (by omega);simp only[hi.1,hi.2,alu,amn,alt,aln,alo];rw[if_neg (by omega),if_neg (by omega),lz (show 0<=v by omega),zg (by omega) (by omega),lz (by omega)]
 ·have:(decide (p≥0) && decide (p<=c.1 - 1))=false:=by
   rw[Bool.eq_false_iff]; intro h; simp only[alp,alz] at h; exact hi h
  simp only[this,alP,alo,aln]
theorem agD (c:za) (v p:Int):ad6 (c,v,p,())=some (sits c v p,()):=by
 unfold ad6 sits;dsimp only;rw[Qz,alm];cases h:zC c
 ·rfl
 obtain⟨h1,h2⟩:=yi h;have e1:wr (c.1 - 1)=c.1 - 1:=zg (by omega) (by omega);by_cases hv:v<0
 ·simp only[hv,alu,alo,alt,aln,ami,amM,alI]
 simp only[hv,alx,aln,alt,alP,alI,adW,alm,e1];by_cases hi:p≥0/\p<=c.1 - 1
 ·have a1:0<=v % c.1:=Int.emod_nonneg _ (by omega);have a2:v % c.1<c.1:=Int.emod_lt_of_pos _ (by omega);simp only[hi.1,hi.2,alu,amn,alt,aln,alo];rw[if_neg (by omega),if_neg (by omega),lz (show 0<=v by omega),zg (by omega) (by omega),lz (by omega)]
 ·have:(decide (p≥0) && decide (p<=c.1 - 1))=false:=by
   rw[Bool.eq_false_iff]; intro h; simp only[alp,alz] at h; exact hi h
  simp only[this,alP,alo,aln]
theorem Lt {c:za} {v i:Int} (h:0<=seat c v i):zC c=true/\0<=v/\0<=i/\i<=c.1 - 1/\seat c v i=(i+c.1 - v % c.1) % c.1:=by
 unfold seat at *;cases hc:(zC c && (!decide (v<0) && (decide (i≥0) && decide (i<=c.1 - 1))))
 ·rw[hc] at h; simp only[aln] at h; omega
 ·simp only[alp,alU,amD,alz] at hc;exact⟨hc.1,by omega,hc.2.2.1,hc.2.2.2,rfl⟩
noncomputable def up (c:za) (v i:Int):Int:=bif decide (seat c v i<=0) then -1 else sits c v ((seat c v i - 1) / c.2)
theorem rO {c:za} {v i:Int} (h:0<=seat c v i):seat c v i<c.1:=by
 obtain⟨h1,_,_,_,h5⟩:=Lt h;have:=yi h1;rw[h5];exact Int.emod_lt_of_pos _ (by omega)
theorem Er {c:za} {v i:Int} (h:¬ seat c v i<=0):wr (Int.tdiv (wr (seat c v i - 1)) c.2)=(seat c v i - 1) / c.2/\¬ c.2=0/\0<=(seat c v i - 1) / c.2/\(seat c v i - 1) / c.2<=seat c v i - 1:=by
 obtain⟨h1,_⟩:=Lt (c:=c) (v:=v) (i:=i) (by omega);have hlt:=rO (c:=c) (v:=v) (i:=i) (by omega);obtain⟨c1,c2⟩:=yi h1;have hf:1<=c.2/\c.2<=6:=by
  unfold zC at h1;simp only[alp,alz] at h1;exact h1.2
 have hd0:0<=(seat c v i - 1) / c.2:=Int.ediv_nonneg (by omega) (by omega);have hd1:(seat c v i - 1) / c.2<=seat c v i - 1:=Int.ediv_le_self _ (by omega);refine⟨?_,by omega,hd0,hd1⟩;rw[zg (show -9223372036854775808<=seat c v i - 1 by omega) (by omega),anE (by omega),zg (by omega) (by omega)]
theorem DO (c:za) (v i:Int):qH (c,v,i,())=some (up c v i,()):=by
 unfold qH up;dsimp only;rw[bO,alm];by_cases h:seat c v i<=0
 ·simp only[h,alu,alo]
 ·obtain⟨e1,e2,_⟩:=Er h;simp only[h,alx,aln,e1];rw[if_neg e2,abo,alm]
theorem adV (c:za) (v i:Int):F7 (c,v,i,())=some (up c v i,()):=by
 unfold F7 up;dsimp only;rw[F3,alm];by_cases h:seat c v i<=0
 ·have h':seat c v i<1:=by omega
  simp only[h,h',alu,alo]
 ·have h':¬ seat c v i<1:=by omega
  obtain⟨e1,e2,_⟩:=Er h;simp only[h,h',alx,aln,e1];rw[if_neg e2,agD,alm]
theorem Vu {n a p:Int} (hn:4<=n/\n<=7) (ha:0<=a/\a<n) (hp:0<=p/\p<n):((a+p) % n+n - a) % n=p:=by
 have h:n=4∨n=5∨n=6∨n=7:=by omega
 rcases h with rfl|rfl|rfl|rfl<;>omega
theorem rP {c:za} {v i:Int} (h:0<=seat c v i):seat c v (up c v i)<seat c v i /\ -1<=seat c v (up c v i):=by
 obtain⟨h1,h2,h3,h4,h5⟩:=Lt h;have hlt:=rO h;obtain⟨c1,c2⟩:=yi h1;by_cases h0:seat c v i<=0
 ·have e:up c v i = -1:=by unfold up; simp only[h0,alu,alo]
  rw[e];have e2:seat c v (-1) = -1:=by unfold seat; simp
  rw[e2]; omega
 ·obtain⟨_,_,d0,d1⟩:=Er h0;obtain⟨p,hp⟩:∃ p,p=(seat c v i - 1) / c.2:=⟨_,rfl⟩
  rw[←hp] at d0 d1;have a1:0<=v % c.1:=Int.emod_nonneg _ (by omega);have a2:v % c.1<c.1:=Int.emod_lt_of_pos _ (by omega);have e:up c v i=(v % c.1+p) % c.1:=by
   unfold up sits;have k1:decide (v<0)=false:=decide_eq_false (by omega);have k2:decide (p≥0)=true:=decide_eq_true (by omega);have k3:decide (p<=c.1 - 1)=true:=decide_eq_true (by omega);simp only[h0,alx,aln,←hp,h1,k1,k2,k3,alP,amn,alo]
  have b1:0<=(v % c.1+p) % c.1:=Int.emod_nonneg _ (by omega);have b2:(v % c.1+p) % c.1<c.1:=Int.emod_lt_of_pos _ (by omega);have e2:seat c v (up c v i)=((v % c.1+p) % c.1+c.1 - v % c.1) % c.1:=by
   rw[e];have k1:decide (v<0)=false:=decide_eq_false (by omega);have k2:decide ((v % c.1+p) % c.1≥0)=true:=decide_eq_true (by omega);have k3:decide ((v % c.1+p) % c.1<=c.1 - 1)=true:=decide_eq_true (by omega);unfold seat;simp only[h1,k1,k2,k3,alP,amn,alo]
  have e3:((v % c.1+p) % c.1+c.1 - v % c.1) % c.1=p:=Vu ⟨c1,c2⟩ ⟨a1,a2⟩ ⟨d0,by omega⟩;rw[e2,e3];omega
noncomputable def JE (c:za) (v:Int):Nat->Int->List Int
 | 0,_=>[]
 | k+1,x=>bif decide (seat c v x≥0) then x::JE c v k (up c v x) else []
noncomputable def jk (c:za) (v x:Int):Nat:=(seat c v x+1).toNat
noncomputable def way (c:za) (v x:Int):List Int:=JE c v (jk c v x) x
theorem tc (c:za) (v:Int):∀ (k:Nat) (x:Int),jk c v x<=k->JE c v k x=way c v x
 | 0,x,h=>by
  unfold way;have:jk c v x=0:=by omega
  rw[this]
 | k+1,x,h=>by
  unfold way;by_cases hs:seat c v x≥0
  ·have hm:jk c v x=(seat c v x).toNat+1:=by unfold jk; omega
   obtain⟨u1,u2⟩:=rP hs;have hu:jk c v (up c v x)<=(seat c v x).toNat:=by unfold jk; omega
   rw[hm];simp only[JE,hs,alu,alo];rw[tc c v k _ (by omega),tc c v _ _ hu]
  ·have hm:jk c v x=0:=by unfold jk; omega
   rw[hm];simp only[JE,hs,alx,aln]
theorem aci {c:za} {v x:Int} (h:seat c v x≥0):way c v x=x::way c v (up c v x):=by
 obtain⟨u1,u2⟩:=rP h;have hm:jk c v x=(seat c v x).toNat+1:=by unfold jk; omega
 have hu:jk c v (up c v x)<=(seat c v x).toNat:=by unfold jk; omega
 show JE c v (jk c v x) x=_;rw[hm];simp only[JE,h,alu,alo];rw[tc c v _ _ hu]
theorem acl {c:za} {v x:Int} (h:¬ seat c v x≥0):way c v x=[]:=by
 have hm:jk c v x=0:=by unfold jk; omega
 show JE c v (jk c v x) x=_;rw[hm]; rfl
theorem EC (c:za) (v:Int):∀ (k:Nat) (x:Int),(JE c v k x).length<=k
 | 0,x=>by simp[JE]
 | k+1,x=>by
  simp only[JE];cases decide (seat c v x≥0)
  ·simp
  ·have:=EC c v k (up c v x);simp only[alo,alr]; omega
theorem tb (c:za) (v x:Int):jk c v x<=7:=by
 unfold jk;by_cases h:0<=seat c v x
 ·have h1:=rO h;have:=yi (Lt h).1;omega
 ·omega
theorem acj (c:za) (v x:Int):(way c v x).length<=7:=Nat.le_trans (EC c v _ x) (tb c v x)
theorem ack (c:za) (v x:Int) {G:(Int×List Int×Unit->Option (List Int×Unit))->Int×List Int×Unit->Option (List Int×Unit)}
  (hon:∀ rec y out,seat c v y≥0->out.length<=7->G rec (y,out,())=rec (up c v y,out++[y],())) (afd:∀ rec y out,¬ seat c v y≥0->G rec (y,out,())=some (out,())):
  iter G fuel (x,[],())=some (way c v x,()):=by
 refine (NC (λ y:Int×List Int×Unit=>some (y.2.1++way c v y.1,())) (λ y=>jk c v y.1) (λ y=>y.2.1.length+jk c v y.1<=7) ?_ fuel (x,[],()) (by simp only[als]; have:=tb c v x; omega)
  (by show jk c v x<fuel; have:=tb c v x; have:=Ji (n:=7) (by decide); omega)).trans (by simp)
 rintro rec ⟨y,out,⟨⟩⟩ hI acB;simp only at hI ⊢;by_cases h:seat c v y≥0
 ·obtain⟨u1,u2⟩:=rP h;have hm:jk c v (up c v y)<jk c v y:=by unfold jk; omega
  rw[hon rec y out h (by omega),acB (up c v y,out++[y],()) (by simp only[alv,alr,als]; omega) hm,aci h]
  simp
 ·rw[afd rec y out h,acl h]; simp
theorem abx (c:za) (v x:Int):ks (c,v,x,())=some (way c v x,()):=by
 unfold ks;refine ack c v x ?_ ?_
 ·intro rec y out h hl;simp only[bO,alm,h,alu,alo,DO];rw[if_pos (by simp only[alr,als]; omega)]
 ·intro rec y out h;simp only[bO,alm,h,alx,aln]
theorem agL (c:za) (v x:Int):adf (c,v,x,())=some (way c v x,()):=by
 unfold adf;refine ack c v x ?_ ?_
 ·intro rec y out h hl;simp only[F3,alm,h,alu,alo,adV];rw[if_pos (by simp only[alr,als]; omega)]
 ·intro rec y out h;simp only[F3,alm,h,alx,aln]
noncomputable def MS (c:za) (v i:Int):Nat->Nat->List Int->List Int
 | 0,_,out=>out
 | k+1,j,out=>MS c v i k (j+1) (bif (way c v (j:Int)).any (· == i) then out++[(j:Int)] else out)
noncomputable def under (c:za) (v i:Int):List Int:=bif decide (seat c v i≥0) then MS c v i c.1.toNat 0 [] else []
theorem Ep (c:za) (v i:Int):∀ (k j:Nat) (out:List Int),(MS c v i k j out).length<=out.length+k
 | 0,_,out=>by simp[MS]
 | k+1,j,out=>by
  simp only[MS];have:=Ep c v i k (j+1) (bif (way c v (j:Int)).any (· == i) then out++[(j:Int)] else out);cases h:(way c v (j:Int)).any (· == i)
  ·rw[h] at this; simp only[aln] at this ⊢; omega
  ·rw[h] at this; simp only[alo,alv,alr,als] at this ⊢; omega
theorem ac9 (c:za) (v i:Int):(under c v i).length<=7:=by
 unfold under;by_cases h:seat c v i≥0
 ·have h1:=yi (Lt h).1;have:=Ep c v i c.1.toNat 0 [];simp only[h,alu,alo,als] at this ⊢;omega
 ·simp only[h,alx,aln,als]; omega
theorem aca (c:za) (v i:Int) (hs:seat c v i≥0) {G:(List Int×Int×Unit->Option (List Int×Unit))->List Int×Int×Unit->Option (List Int×Unit)}
  (hon:∀ (rec:List Int×Int×Unit->Option (List Int×Unit)) (j:Nat) out,(j:Int)<c.1->out.length<=7->G rec (out,(j:Int),())=rec ((bif (way c v (j:Int)).any (· == i) then out++[(j:Int)] else out),(j:Int)+1,()))
  (afd:∀ (rec:List Int×Int×Unit->Option (List Int×Unit)) out,G rec (out,c.1,())=some (out,())):
  iter G fuel ([],0,())=some (under c v i,()):=by
 obtain⟨c1,c2⟩:=yi (Lt hs).1;obtain⟨n,hn⟩:∃ n:Nat,c.1=(n:Int):=⟨c.1.toNat,by omega⟩
 have e:under c v i=MS c v i n 0 []:=by
  unfold under;simp only[hs,alu,alo,hn,aly]
 rw[e];refine (walk n (λ j (out:List Int)=>(out,j,())) (λ j out=>out.length<=j) (λ j out=>some (MS c v i (n - j) j out,())) (by omega) ?_ ?_ (s0:=[]) (by simp)).trans (by simp)
 ·intro rec out _;have:=afd rec out;rw[hn] at this;rw[this,Nat.sub_self];rfl
 ·intro rec j out hj hI;refine .inr ⟨_,?_,hon rec j out (by omega) (by omega),?_⟩
  ·cases (way c v (j:Int)).any (· == i)
   ·simp only[aln]; omega
   ·simp only[alo,alv,alr,als]; omega
  ·rw[show n - j=(n - (j+1))+1 by omega]; rfl
theorem abw (c:za) (v i:Int):kr (c,v,i,())=some (under c v i,()):=by
 unfold kr;dsimp only;rw[Y2,alm];by_cases hs:seat c v i≥0
 ·rw[(Lt hs).1];simp only[alt,aln];obtain⟨c1,c2⟩:=yi (Lt hs).1;refine aca c v i hs ?_ ?_
  ·intro rec j out hj hl;have hw:=acj c v (j:Int);simp only[hj,alu,alo,bO,alm,hs,abx,Yv _ i (show (way c v (j:Int)).length<=1152921504606846976 by omega),zx (show j<4611686018427387904 by omega)];cases (way c v (j:Int)).any (· == i)
   ·rfl
   ·simp only[alo];rw[if_pos (by simp only[alr,als]; omega)]
  ·intro rec out;simp only[alS,alx,aln]
 ·have e:under c v i=[]:=by unfold under; simp only[hs,alx,aln]
  rw[e];cases h:zC c
  ·rfl
  ·simp only[alt,aln];obtain⟨c1,c2⟩:=yi h;obtain⟨m,hm⟩:∃ m,fuel=m+1:=⟨fuel - 1,by have:=Ji (n:=7) (by decide); omega⟩
   rw[hm];simp only[iter,show (0:Int)<c.1 by omega,alu,alo,bO,alm,hs,alx,aln]
theorem agK (c:za) (v i:Int):ade (c,v,i,())=some (under c v i,()):=by
 unfold ade;by_cases hs:seat c v i≥0
 ·obtain⟨c1,c2⟩:=yi (Lt hs).1;refine aca c v i hs ?_ ?_
  ·intro rec j out hj hl;have hw:=acj c v (j:Int);simp only[hj,alu,alo,F3,alm,hs,agL,adD _ i (show (way c v (j:Int)).length<=1152921504606846976 by omega),zx (show j<4611686018427387904 by omega)];cases (way c v (j:Int)).any (· == i)
   ·rfl
   ·simp only[alo];rw[if_pos (by simp only[alr,als]; omega)]
  ·intro rec out;simp only[F3,alm,hs,alu,alo,alS,alx,aln]
 ·have e:under c v i=[]:=by unfold under; simp only[hs,alx,aln]
  rw[e];obtain⟨m,hm⟩:∃ m,fuel=m+1:=⟨fuel - 1,by have:=Ji (n:=7) (by decide); omega⟩
  rw[hm];simp only[iter,F3,alm,hs,alx,aln]
def K3 (a b:List Int):Nat:=a.countP λ x=>b.any (· == x)
theorem Ru (a b:List Int) (ha:a.length<=1152921504606846976) {G:(Int×Int×Unit->Option (Int×Unit))->Int×Int×Unit->Option (Int×Unit)}
  (hon:∀ (rec:Int×Int×Unit->Option (Int×Unit)) (j k:Nat) (h:j<a.length),k<=j->G rec ((k:Int),(j:Int),())=rec (((k+(if b.any (· == a[j]) then 1 else 0):Nat):Int),(j:Int)+1,()))
  (afd:∀ (rec:Int×Int×Unit->Option (Int×Unit)) (k:Nat),G rec ((k:Int),(a.length:Int),())=some ((k:Int),())):
  iter G fuel (0,0,())=some ((K3 a b:Int),()):=by
 refine (walk a.length (λ j (k:Nat)=>((k:Int),j,())) (λ j k=>k<=j) (λ j k=>some (((k+K3 (a.drop j) b:Nat):Int),())) (by omega) ?_ ?_ (s0:=0) (Nat.le_refl _)).trans (by simp)
 ·intro rec k _;rw[afd rec k,am7];simp[K3]
 ·intro rec j k hj hI;refine .inr ⟨k+(if b.any (· == a[j]) then 1 else 0),by split<;>omega,hon rec j k hj hI,?_⟩
  rw[alJ hj];simp only[K3,List.countP_cons];congr 3;omega
theorem aaZ (a b:List Int) (ha:a.length<=1073741824) (hb:b.length<=1073741824):gI (a,b,())=some ((K3 a b:Int),()):=by
 unfold gI;refine Ru a b (by omega) ?_ ?_
 ·intro rec j k hj hk;have hx:a[j]?=some a[j]:=List.getElem?_eq_getElem hj;simp only[zz hj,decide_true,cond_true,and_self,if_true,Int.toNat_natCast,zu (e:=.i64) hx,Yv b a[j] (by omega),Option.bind_some,zx (show j<4611686018427387904 by omega),sy];cases b.any (· == a[j])
  ·simp only[aln,alm,Int.add_zero,alM,if_false,amf];rw[zg (by omega) (by omega)]
  ·simp only[alo,alm,if_true];rw[zx (show k<4611686018427387904 by omega)];rfl
 ·intro rec k;simp only[alS,alx,aln]
theorem agn (a b:List Int) (ha:a.length<=1073741824) (hb:b.length<=1073741824):acQ (a,b,())=some ((K3 a b:Int),()):=by
 unfold acQ;refine Ru a b (by omega) ?_ ?_
 ·intro rec j k hj hk;have hx:a[j]?=some a[j]:=List.getElem?_eq_getElem hj;simp only[zz hj,decide_true,cond_true,and_self,if_true,Int.toNat_natCast,zu (e:=.i64) hx,adD b a[j] (by omega),Option.bind_some,zx (show j<4611686018427387904 by omega)];cases b.any (· == a[j])
  ·simp only[aln,alM,if_false,amf]
  ·simp only[alo,if_true];rw[zx (show k<4611686018427387904 by omega)];rfl
 ·intro rec k;simp only[alS,alx,aln]
def yN (r:zb) (v:Int):zb:=(r.1,v,r.2.2)
theorem vu {c:za} {r:zb} {v:Int} (h:ze c r=true) (hv:1<=v/\v<=60):ze c (yN r v)=true:=by
 obtain⟨a,v0,k,sf,pool,tab,dk,held⟩:=r;show ze c (a,v,k,sf,pool,tab,dk,held)=true;unfold ze at h ⊢;simp only[alp,alz] at h ⊢;exact⟨h.1,h.2.1,hv,h.2.2.2⟩
noncomputable def top (c:za) (r:zb) (q:zJ):zb×Bool:=
 bif !(zv c r (see c r.2.2.2.1 q)).2 then (r,false) else
 bif decide (q.1+1>60) then ((zv c r (see c r.2.2.2.1 q)).1,true) else
 bif je c (q.1+1)==r.1 then (yN (zv c r (see c r.2.2.2.1 q)).1 (max (zv c r (see c r.2.2.2.1 q)).1.2.1 (q.1+1)),true) else
 ZM c (yN (zv c r (see c r.2.2.2.1 q)).1 (max (zv c r (see c r.2.2.2.1 q)).1.2.1 (q.1+1))) (je c (q.1+1)) (3,q.1+1,([],0,[],[]),(0,[],[]),q,r.1,0,0,0,0)
theorem ti {c:za} {r:zb} {s:zr} (hr:ze c r=true) (h:(zv c r s).2=true):ze c (zv c r s).1=true/\(zv c r s).1.1=r.1/\(zv c r s).1.2.1=r.2.1:=by
 unfold zv at *;cases h1:jx r.2.2.2.1 s
 ·rw[h1] at h;cases h2:(yE r.2.2.2.2.2.2.1 (yn c s)).2
  ·rw[h2] at h; cases h
  ·cases h3:zU c s
   ·rw[h2,h3] at h; cases h
   ·simp only[aln,amn,alo];exact⟨by rw[EG hr (tM h2),h3],rfl,rfl⟩
 ·exact⟨hr,rfl,rfl⟩
theorem Vj {c:za} {q:zJ} (h:z8 c q=true):0<=q.1/\q.1<=60:=by
 unfold z8 at h;simp only[alp,alT] at h;obtain⟨_,hn,hv,_⟩:=h;by_cases h0:q.2.1=[]
 ·have:=wo.2;rw[←h0,hv] at this;omega
 ·have:=ak hn h0;omega
theorem wl (q:zJ) (v me:Int):zj (3,v,([],0,[],[]),(0,[],[]),q,me,0,0,0,0)=zi q:=by
 simp[zj,zD,zm,zi,zn]
theorem ace (c:za) (r:zb) (s:zr):zf (zv c r s).1<=zf r+zt s+(r.2.2.2.2.2.2.1.1.length+(yn c s).length):=by
 unfold zv;cases jx r.2.2.2.1 s
 ·cases h2:((yE r.2.2.2.2.2.2.1 (yn c s)).2 && zU c s)
  ·simp only[aln]; omega
  ·simp only[aln,alo];have:=te r s (yE r.2.2.2.2.2.2.1 (yn c s)).1;have h3:(yE r.2.2.2.2.2.2.1 (yn c s)).1.1.length<=r.2.2.2.2.2.2.1.1.length+(yn c s).length:=by
    unfold yE;split
    ·simp
    ·simp
   omega
 ·simp only[alo]; omega
theorem nY (c:za) (r:zb) (s:zr):zf (zv c r s).1<=40+2*zf r+6*zt s:=by
 have h1:=ace c r s;have h3:=eO c s;have h4:r.2.2.2.2.2.2.1.1.length<=zf r:=by simp only[zf,JD]; omega
 omega
theorem acu (c:za) (r:zb) (q:zJ):zf (zv c r (see c r.2.2.2.1 q)).1<=40+8*zf r+12*zi q:=by
 have h1:=nY c r (see c r.2.2.2.1 q);have h2:=bp c r.2.2.2.1 q;have h4:zt r.2.2.2.1<=zf r:=by simp only[zf]; omega
 omega
theorem abC (c:za) (r:zb) (p:zM) (hok:ze c r=true) (hr:zf r<=20000000) (hp:zm p<=20000000):
  kI (c,r,p,())=some ((bif (Jq c p).2 then top c r p else (r,false)).1,(bif (Jq c p).2 then top c r p else (r,false)).2,()):=by
 have hs:zt r.2.2.2.1<=20000000:=by simp only[zf] at hr; omega
 have hpq:zi p<=20000000:=hp;unfold kI;dsimp only;rw[abf c p (by omega),alm];cases h:(Jq c p).2
 ·rfl
 ·obtain⟨e,hq⟩:=U2 h;have hv:=Vj hq;have aiC:=bp c r.2.2.2.1 p;have hww:=acu c r p;dsimp only;simp only[alt,aln,alo];rw[e,kg c r.2.2.2.1 p (by omega) (by omega),alm,qO c r (see c r.2.2.2.1 p) (by omega) (by omega),alm,zg (show -9223372036854775808<=p.1+1 by omega) (by omega)];unfold top;cases hw:(zv c r (see c r.2.2.2.1 p)).2
  ·rfl
  ·obtain⟨o1,o2,o3⟩:=ti hok hw;simp only[alt,aln,alo,MM,MA,alm];cases decide (p.1+1>60)
   ·simp only[aln];cases (je c (p.1+1)==r.1)
    ·simp only[aln];have hm:=wl p (p.1+1) r.1;rw[kH c _ _ _ (ba hok) (by show zf (yN (zv c r (see c r.2.2.2.1 p)).1 _)<=_; simp only[yN,zf] at hww hr ⊢; omega) (by omega),Option.bind_some]
     rfl
    ·rfl
   ·rfl
theorem agN (c:za) (r:zb) (p:zJ) (hok:ze c r=true) (hq:z8 c p=true) (hr:zf r<=20000000) (hp:zi p<=20000000):
  adi (c,r,p,())=some ((top c r p).1,(top c r p).2,()):=by
 have hs:zt r.2.2.2.1<=20000000:=by simp only[zf] at hr; omega
 have hv:=Vj hq;have aiC:=bp c r.2.2.2.1 p;have hww:=acu c r p;have hwe:write c r (see c r.2.2.2.1 p)=zv c r (see c r.2.2.2.1 p):=by unfold write; rw[hok]; rfl
 unfold adi;dsimp only;rw[agz c r.2.2.2.1 p (by omega) (by omega),alm,SS c r (see c r.2.2.2.1 p) (by omega) (by omega),alm,zg (show -9223372036854775808<=p.1+1 by omega) (by omega),hwe];unfold top;cases hw:(zv c r (see c r.2.2.2.1 p)).2
 ·rfl
 ·obtain⟨o1,o2,o3⟩:=ti hok hw;simp only[alt,aln,alo,ae1,acZ,alm];by_cases h60:p.1+1>60
  ·simp only[h60,alu,alo]
  ·simp only[h60,alx,aln,bne];cases (je c (p.1+1)==r.1)
   ·simp only[aln,alo,alP];have hm:=wl p (p.1+1) r.1;have hrv:=N0 hok;have hk:=vu (v:=max (zv c r (see c r.2.2.2.1 p)).1.2.1 (p.1+1)) o1 (by rw[o3]; omega)
    rw[acH c _ _ _ (by show zf (yN (zv c r (see c r.2.2.2.1 p)).1 _)<=_; simp only[yN,zf] at hww hr ⊢; omega) (by omega),Option.bind_some]
    show (bif (tell c (yN (zv c r (see c r.2.2.2.1 p)).1 (max (zv c r (see c r.2.2.2.1 p)).1.2.1 (p.1+1))) _ _).2 then some ((tell c (yN _ _) _ _).1,(tell c (yN _ _) _ _).2,()) else some ((tell c (yN _ _) _ _).1,(tell c (yN _ _) _ _).2,()))=_;rw[←Ef _ _ hk];cases (ZM c (yN (zv c r (see c r.2.2.2.1 p)).1 (max (zv c r (see c r.2.2.2.1 p)).1.2.1 (p.1+1))) (je c (p.1+1)) (3,p.1+1,([],0,[],[]),(0,[],[]),p,r.1,0,0,0,0)).2<;>rfl
   ·rfl
noncomputable def Jd (c:za) (r:zb) (v:Int) (name:List UInt8) (force:Bool):zb×Bool:=
 bif (((jF r.2.2.2.2.2.1 v name).2.2.length:Int)==0) then (r,false) else bif name==[] then (r,false) else
 bif je c v==r.1 then (bif (Jq c (jF r.2.2.2.2.2.1 v name)).2 then top c r (jF r.2.2.2.2.2.1 v name) else (r,false)) else
 bif !force && decide ((K3 (under c v r.1) (jF r.2.2.2.2.2.1 v name).2.2:Int)<((under c v r.1).length:Int)) then (r,false) else
 ZM c r (up c v r.1) (2,0,([],0,[],[]),jF r.2.2.2.2.2.1 v name,(0,[],[]),0,0,0,0,0)
noncomputable def climb (c:za) (r:zb) (v:Int) (name:List UInt8) (force:Bool):zb×Bool:=
 bif ze c r && (Jd c r v name force).2 then ((Jd c r v name force).1,true) else (r,false)
theorem abQ (l:yg) (v:Int) (name:List UInt8):zm (jF l v name)<=zI l+name.length:=by
 unfold jF;cases h:l.find? (λ p=>p.1==v && p.2.1==name) with
 | none=>simp[zm,zn]
 | some p=>
  have:=ZX zm (List.mem_of_find?_eq_some h);simp only[zI]; omega
theorem Uy (p:zM):zj (2,0,([],0,[],[]),p,(0,[],[]),0,0,0,0,0)=zm p:=by
 simp[zj,zD,zm,zi,zn]
theorem sx (c:za) (r:zb) (v:Int) (name:List UInt8) (force:Bool) (hok:ze c r=true) (hr:zf r<=15000000) (hn:name.length<=5000000):
  qP (c,r,v,name,force,())=some ((Jd c r v name force).1,(Jd c r v name force).2,()):=by
 have ht:zI r.2.2.2.2.2.1<=15000000:=by simp only[zf] at hr; omega
 have hg:=abQ r.2.2.2.2.2.1 v name;have hl:(jF r.2.2.2.2.2.1 v name).2.2.length<=20000000:=by
  have:(jF r.2.2.2.2.2.1 v name).2.2.length<=zm (jF r.2.2.2.2.2.1 v name):=by simp only[zm,zn]; omega
  omega
 have hu:=ac9 c v r.1;unfold qP Jd;dsimp only;rw[su _ v name (by omega),alm];generalize hP:jF r.2.2.2.2.2.1 v name=p at *;dsimp only;cases ((p.2.2.length:Int)==0)
 ·simp only[aln];cases (name==([]:List UInt8))
  ·simp only[aln,MA,alm];cases (je c v==r.1)
   ·simp only[aln,abw,alm,aaZ _ p.2.2 (show (under c v r.1).length<=1073741824 by omega) (by omega),DO];have hm:=Uy p;rw[kH c r _ _ (ba hok) (by omega) (by omega)];cases force
    ·simp only[alP,alo,alI];cases decide ((K3 (under c v r.1) p.2.2:Int)<((under c v r.1).length:Int))<;>rfl
    ·rfl
   ·simp only[alo];rw[abC c r p hok (by omega) (by omega),alm]
  ·rfl
 ·rfl
theorem aaY (c:za) (r:zb) (v:Int) (name:List UInt8) (force:Bool) (hr:zf r<=15000000) (hn:name.length<=5000000):
  bC (c,r,v,name,force,())=some ((climb c r v name force).1,(climb c r v name force).2,()):=by
 unfold bC climb;dsimp only;rw[Zv c r (by omega),alm,Zw r (by omega),alm,alm];cases hok:ze c r
 ·rfl
 ·simp only[alt,aln,alI];rw[sx c r v name force hok hr hn,alm];cases (Jd c r v name force).2<;>rfl
theorem ahT {c:za} {r:zb} {to:Int} {m:zw} (h:(ZM c r to m).2=false):(ZM c r to m).1=r:=by
 unfold ZM at *;cases hc:(!decide ((r.2.2.2.2.2.2.2.length:Int)≥30) && Z3 c r.1 (to,m))
 ·rfl
 ·rw[hc] at h; cases h
theorem agm (c:za) (r:zb) (v:Int) (name:List UInt8) (force:Bool) (hr:zf r<=15000000) (hn:name.length<=5000000):
  acO (c,r,v,name,force,())=some ((climb c r v name force).1,(climb c r v name force).2,()):=by
 have ht:zI r.2.2.2.2.2.1<=15000000:=by simp only[zf] at hr; omega
 have hg:=abQ r.2.2.2.2.2.1 v name;have hl:(jF r.2.2.2.2.2.1 v name).2.2.length<=20000000:=by
  have:(jF r.2.2.2.2.2.1 v name).2.2.length<=zm (jF r.2.2.2.2.2.1 v name):=by simp only[zm,zn]; omega
  omega
 have hu:=ac9 c v r.1;unfold acO climb Jd;dsimp only;rw[adU _ v name (by omega),alm];generalize hP:jF r.2.2.2.2.2.1 v name=p at *;dsimp only;rw[vo r (by omega),Kf c r (by omega),alm,alm];cases ((p.2.2.length:Int)==0)
 ·cases hok:ze c r
  ·rfl
  ·simp only[aln,alt,alI];cases (name==([]:List UInt8))
   ·simp only[aln,acZ,alm];cases (je c v==r.1)
    ·simp only[aln,agK,alm,agn _ p.2.2 (show (under c v r.1).length<=1073741824 by omega) (by omega),adV];have hm:=Uy p;rw[acH c r _ _ (by omega) (by omega),←Ef _ _ hok,alm];cases ht2:(ZM c r (up c v r.1) (2,0,([],0,[],[]),p,(0,[],[]),0,0,0,0,0)).2
     ·have hno:=ahT ht2;cases force
      ·simp only[alP,alo,alI];cases decide ((K3 (under c v r.1) p.2.2:Int)<((under c v r.1).length:Int))
       ·simp only[aln,hno,ht2]
       ·rfl
      ·simp only[alt,ami,aln,hno,ht2]
     ·cases force
      ·simp only[alP,alo,alI];cases decide ((K3 (under c v r.1) p.2.2:Int)<((under c v r.1).length:Int))
       ·simp only[aln,ht2,alo]
       ·rfl
      ·simp only[alt,ami,aln,ht2,alo]
    ·simp only[alo];rw[agv c p (by omega),alm];cases h:(Jq c p).2
     ·rfl
     ·obtain⟨e,hq⟩:=U2 h;have hpq:zi p<=20000000:=(by omega:zm p<=20000000)
      dsimp only;simp only[alt,aln,alo];rw[e,agN c r p hok hq (by omega) hpq,alm];cases (top c r p).2<;>rfl
   ·rfl
 ·cases ze c r<;>rfl
theorem ai0 (c:za) (r:zb) (q:zJ):zf (top c r q).1<=200+21*zf r+21*zi q:=by
 have hww:=acu c r q;unfold top;cases (zv c r (see c r.2.2.2.1 q)).2
 ·simp only[alP,alo]; omega
 ·cases decide (q.1+1>60)
  ·cases (je c (q.1+1)==r.1)
   ·simp only[alt,aln];unfold ZM;cases (!decide (((yN (zv c r (see c r.2.2.2.1 q)).1 (max (zv c r (see c r.2.2.2.1 q)).1.2.1 (q.1+1))).2.2.2.2.2.2.2.length:Int)≥30) && Z3 c (yN (zv c r (see c r.2.2.2.1 q)).1 (max (zv c r (see c r.2.2.2.1 q)).1.2.1 (q.1+1))).1 (je c (q.1+1),(3,q.1+1,([],0,[],[]),(0,[],[]),q,r.1,0,0,0,0)))
    ·simp only[aln,yN,zf] at hww ⊢; omega
    ·simp only[alo,Qw,yN,zf,yt,Yi,alv,an6,anl,alG,am8,am1,List.sum_nil,alr,als,wl] at hww ⊢;omega
   ·simp only[alt,aln,alo,yN,zf] at hww ⊢; omega
  ·simp only[alt,aln,alo]; omega
theorem agd (c:za) (r:zb) (v:Int) (name:List UInt8) (force:Bool):zf (climb c r v name force).1<=300+50*zf r+50*name.length:=by
 have hg:=abQ r.2.2.2.2.2.1 v name;have ht:zI r.2.2.2.2.2.1<=zf r:=by simp only[zf]; omega
 have h1:=ai0 c r (jF r.2.2.2.2.2.1 v name);have h2:zi (jF r.2.2.2.2.2.1 v name)<=zf r+name.length:=(by omega:zm (jF r.2.2.2.2.2.1 v name)<=zf r+name.length)
 unfold climb;cases (ze c r && (Jd c r v name force).2)
 ·simp only[aln]; omega
 ·simp only[alo];unfold Jd;cases (((jF r.2.2.2.2.2.1 v name).2.2.length:Int)==0)
  ·cases (name==([]:List UInt8))
   ·cases (je c v==r.1)
    ·simp only[aln];cases (!force && decide ((K3 (under c v r.1) (jF r.2.2.2.2.2.1 v name).2.2:Int)<((under c v r.1).length:Int)))
     ·simp only[aln];unfold ZM;have hm:=Uy (jF r.2.2.2.2.2.1 v name);generalize jF r.2.2.2.2.2.1 v name=p at *;cases (!decide ((r.2.2.2.2.2.2.2.length:Int)≥30) && Z3 c r.1 (up c v r.1,(2,0,([],0,[],[]),p,(0,[],[]),0,0,0,0,0)))
      ·simp only[aln]; omega
      ·simp only[alo,Qw,zf,yt,Yi,alv,an6,anl,alG,am8,am1,List.sum_nil,alr,als,hm] at *;omega
     ·simp only[alo]; omega
    ·simp only[aln,alo];cases (Jq c (jF r.2.2.2.2.2.1 v name)).2
     ·simp only[aln]; omega
     ·simp only[alo]; omega
   ·simp only[aln,alo]; omega
  ·simp only[alo]; omega
theorem C5 (l:List Int) (x:Int) (i:Nat) (hi:i<=l.length) (hl:l.length<=137438953472):
  ((if (((0:Int)<=0)/\((0<=(i:Int))/\((i:Int)<=(((List.length l):Nat):Int)))) then (if (((0+(List.length (List.take ((Int.toNat (i:Int)) - (Int.toNat 0)) (List.drop (Int.toNat 0) l))))*8)<=70368744177664) then (if ((((List.length ([]++(List.take ((Int.toNat (i:Int)) - (Int.toNat 0)) (List.drop (Int.toNat 0) l))))+(List.length (x::[])))*8)<=70368744177664) then (if ((0<=(i:Int))/\(((i:Int)<=(((List.length l):Nat):Int))/\((((List.length l):Nat):Int)<=(((List.length l):Nat):Int)))) then (if ((((List.length (([]++(List.take ((Int.toNat (i:Int)) - (Int.toNat 0)) (List.drop (Int.toNat 0) l)))++(x::[])))+(List.length (List.take ((Int.toNat (((List.length l):Nat):Int)) - (Int.toNat (i:Int))) (List.drop (Int.toNat (i:Int)) l))))*8)<=70368744177664) then some (((([]++(List.take ((Int.toNat (i:Int)) - (Int.toNat 0)) (List.drop (Int.toNat 0) l)))++(x::[]))++(List.take ((Int.toNat (((List.length l):Nat):Int)) - (Int.toNat (i:Int))) (List.drop (Int.toNat (i:Int)) l))),()) else none) else none) else none) else none) else none):Option (List Int×Unit))=some (l.take i++x::l.drop i,()):=by
 have h1:(l.take i).length=i:=by rw[alE]; omega
 have h2:(l.drop i).length=l.length - i:=List.length_drop;have h3:(l.drop i).take (l.length - i)=l.drop i:=List.take_of_length_le (by rw[h2]; exact Nat.le_refl _)
 simp only[aly,show Int.toNat 0=0 from rfl,amv,alN,alL,h3,alv,h1,h2,alr,als];rw[if_pos ⟨by omega,by omega,by omega⟩,if_pos (by omega),if_pos (by omega),if_pos ⟨by omega,by omega,by omega⟩,if_pos (by omega)];simp
noncomputable def bw (l:List Int) (x:Int):Nat:=jR (λ y=>decide (y≥x)) 0 l
noncomputable def Yb (l:List Int) (x:Int):List Int:=bif l.any (· == x) then l else l.take (bw l x)++x::l.drop (bw l x)
theorem bP (l:List Int) (x:Int) (hl:l.length<=137438953472):Ye (l,x,())=some (Yb l x,()):=by
 unfold Ye Yb;dsimp only;rw[Yv l x (by omega),alm];dsimp only;cases l.any (· == x)
 ·simp only[aln];unfold bw;refine (walk l.length (λ i (_:Unit)=>(i,())) (λ _ _=>True) (λ i _=>some (l.take (jR (λ y=>decide (y≥x)) i (l.drop i))++x::l.drop (jR (λ y=>decide (y≥x)) i (l.drop i)),())) (by omega) ?_ ?_ (s0:=()) trivial).trans (by simp only[alN])
  ·intro rec s _;have e:=C5 l x l.length (Nat.le_refl _) hl;rw[am7] at e ⊢;simp only[alS,alx,aln,jR];rw[am7];exact e
  ·intro rec i s hi _;have hx:l[i]?=some l[i]:=List.getElem?_eq_getElem hi;have e:=C5 l x i (Nat.le_of_lt hi) hl;have hd0:decide ((i:Int)<((l.length:Nat):Int))=true:=decide_eq_true (by omega);have hr:rd .i64 l (Int.toNat (i:Int))=l[i]:=zu (e:=.i64) hx;dsimp only;by_cases hlt:l[i]<x
   ·right;have hd:decide (l[i]≥x)=false:=decide_eq_false (by omega);refine⟨(),trivial,?_,?_⟩
    ·rw[hd0,alo,if_pos (zz hi),hr,decide_eq_true hlt,alo,zx (show i<4611686018427387904 by omega)]
    ·rw[alJ hi];simp only[jR,hd,aln]
   ·left;have hd:decide (l[i]≥x)=true:=decide_eq_true (by omega);rw[hd0,alo,if_pos (zz hi),hr,decide_eq_false hlt,aln];refine e.trans ?_;rw[show jR (λ y=>decide (y≥x)) i (l.drop i)=i by rw[alJ hi]; simp only[jR,hd,alo]]
 ·simp only[alo,alL];rw[if_pos (by omega)]
theorem agq (l:List Int) (x:Int) (hl:l.length<=137438953472):ado (l,x,())=some ((if bw l x<l.length then ((bw l x:Nat):Int) else -1),()):=by
 unfold ado bw;refine (walk l.length (λ i (_:Unit)=>(i,())) (λ _ _=>True) (λ i _=>some ((if jR (λ y=>decide (y≥x)) i (l.drop i)<l.length then ((jR (λ y=>decide (y≥x)) i (l.drop i):Nat):Int) else -1),())) (by omega) ?_ ?_ (s0:=()) trivial).trans (by simp only[alN])
 ·intro rec s _;rw[am7];simp only[alS,alx,aln,jR,Nat.lt_irrefl,if_false]
 ·intro rec i s hi _;have hx:l[i]?=some l[i]:=List.getElem?_eq_getElem hi;rw[alJ hi];unfold adC;simp only[zz hi,alu,alo,alD,if_true,aly,zu (e:=.i64) hx,alm,zx (show i<4611686018427387904 by omega),jR];by_cases hb:l[i]≥x
  ·left;simp only[hb,alu,alo,hi,if_true]
  ·right;exact⟨(),trivial,by simp only[hb,alx,aln],by simp only[hb,alx,aln]⟩
theorem adX (l:List Int) (x:Int) (k:Nat) (hk:k<=l.length) (hl:l.length<=137438953472):aaf (l,(k:Int),[x],())=some (l.take k++x::l.drop k,()):=by
 unfold aaf vv;dsimp only;simp only[alr,als];rw[if_pos (by omega),aly];simp
theorem adT (l:List Int) (x:Int) (hl:l.length<=137438953472):acF (l,x,())=some (Yb l x,()):=by
 have hle:bw l x<=l.length:=by have:=(mD (λ y=>decide (y≥x)) l 0).2; unfold bw; omega
 unfold acF Yb;dsimp only;rw[adD l x (by omega),alm,dO l hl,agq l x hl];simp only[alm];cases l.any (· == x)
 ·simp only[aln];by_cases hlt:bw l x<l.length
  ·rw[if_pos hlt];have:decide (((bw l x:Nat):Int)<0)=false:=decide_eq_false (by omega);rw[this,aln,adX l x _ hle hl,alm]
  ·rw[if_neg hlt];have:decide ((-1:Int)<0)=true:=rfl;rw[this,alo,adX l x l.length (amm _) hl,alm,show bw l x=l.length by omega]
 ·rfl
theorem bu (l:List Int) (x:Int):(Yb l x).length<=l.length+1:=by
 have hle:bw l x<=l.length:=by have:=(mD (λ y=>decide (y≥x)) l 0).2; unfold bw; omega
 unfold Yb;cases l.any (· == x)
 ·simp only[aln,alv,alr,alE,alF]; omega
 ·simp only[alo]; omega
noncomputable def gz (a b:List Int):List Int:=b.foldl Yb (a.foldl Yb [])
theorem rV:∀ (l s:List Int),(l.foldl Yb s).length<=s.length+l.length
 | [],s=>by simp
 | x::l,s=>by
  have h1:=bu s x;have h2:=rV l (Yb s x);simp only[ama,alr]; omega
theorem aaa (a b:List Int):(gz a b).length<=a.length+b.length:=by
 have h1:=rV a [];have h2:=rV b (a.foldl Yb []);simp only[gz,als] at *; omega
theorem vE {K:List Int->Option (List Int×Unit)} (l s0:List Int) (hl:l.length<=1152921504606846976) {G:(List Int×Int×Unit->Option (List Int×Unit))->List Int×Int×Unit->Option (List Int×Unit)}
  (hon:∀ (rec:List Int×Int×Unit->Option (List Int×Unit)) (i:Nat) (s:List Int) (h:i<l.length),s.length<=s0.length+i->G rec (s,(i:Int),())=rec (Yb s l[i],(i:Int)+1,()))
  (afd:∀ (rec:List Int×Int×Unit->Option (List Int×Unit)) (s:List Int),s.length<=s0.length+l.length->G rec (s,(l.length:Int),())=K s):
  iter G fuel (s0,0,())=K (l.foldl Yb s0):=by
 refine (walk l.length (λ i (s:List Int)=>(s,i,())) (λ i s=>s.length<=s0.length+i) (λ i s=>K ((l.drop i).foldl Yb s)) hl ?_ ?_ (s0:=s0) (by simp)).trans (by simp only[alN])
 ·intro rec s hI;rw[afd rec s hI,am7];rfl
 ·intro rec i s hi hI;have:=bu s l[i];exact .inr ⟨Yb s l[i],by omega,hon rec i s hi hI,by rw[alJ hi]; rfl⟩
theorem abm (a b:List Int) (ha:a.length<=1073741824) (hb:b.length<=1073741824):kh (a,b,())=some (gz a b,()):=by
 unfold kh;refine vE (K:=λ s=>some (b.foldl Yb s,())) a [] (by omega) ?_ ?_
 ·intro rec i s hi hI;have hx:a[i]?=some a[i]:=List.getElem?_eq_getElem hi;simp only[als] at hI;simp only[zz hi,decide_true,cond_true,and_self,if_true,Int.toNat_natCast,zu (e:=.i64) hx,bP s a[i] (by omega),Option.bind_some,zx (show i<4611686018427387904 by omega)]
 ·intro rec s hI;simp only[als] at hI;simp only[alS,alx,aln];refine vE (K:=λ s=>some (s,())) b s (by omega) ?_ ?_
  ·intro rec i s2 hi hI2;have hx:b[i]?=some b[i]:=List.getElem?_eq_getElem hi;simp only[zz hi,decide_true,cond_true,and_self,if_true,Int.toNat_natCast,zu (e:=.i64) hx,bP s2 b[i] (by omega),Option.bind_some,zx (show i<4611686018427387904 by omega)]
  ·intro rec s2 _;simp only[alS,alx,aln]
theorem agA (a b:List Int) (ha:a.length<=1073741824) (hb:b.length<=1073741824):ad2 (a,b,())=some (gz a b,()):=by
 unfold ad2;refine vE (K:=λ s=>some (b.foldl Yb s,())) a [] (by omega) ?_ ?_
 ·intro rec i s hi hI;have hx:a[i]?=some a[i]:=List.getElem?_eq_getElem hi;simp only[als] at hI;simp only[zz hi,decide_true,cond_true,and_self,if_true,Int.toNat_natCast,zu (e:=.i64) hx,adT s a[i] (by omega),Option.bind_some,zx (show i<4611686018427387904 by omega)]
 ·intro rec s hI;simp only[als] at hI;simp only[alS,alx,aln];refine vE (K:=λ s=>some (s,())) b s (by omega) ?_ ?_
  ·intro rec i s2 hi hI2;have hx:b[i]?=some b[i]:=List.getElem?_eq_getElem hi;simp only[zz hi,decide_true,cond_true,and_self,if_true,Int.toNat_natCast,zu (e:=.i64) hx,adT s2 b[i] (by omega),Option.bind_some,zx (show i<4611686018427387904 by omega)]
  ·intro rec s2 _;simp only[alS,alx,aln]
noncomputable def JU (a b:zM):zM×Bool:=bif a.1==b.1 && a.2.1==b.2.1 then ((a.1,a.2.1,gz a.2.2 b.2.2),true) else ((0,[],[]),false)
theorem abe (a b:zM) (ha:zm a<=1073741824) (hb:zm b<=1073741824):gY (a,b,())=some ((JU a b).1,(JU a b).2,()):=by
 have h1:a.2.2.length<=1073741824/\b.2.2.length<=1073741824:=by simp only[zm,zn] at ha hb; omega
 unfold gY JU;dsimp only;rw[abm _ _ h1.1 h1.2,alm];simp only[bne];cases (a.1==b.1)<;>cases (a.2.1==b.2.1)<;>rfl
theorem agt (a b:zM) (ha:zm a<=1073741824) (hb:zm b<=1073741824):acA (a,b,())=some ((JU a b).1,(JU a b).2,()):=by
 have h1:a.2.2.length<=1073741824/\b.2.2.length<=1073741824:=by simp only[zm,zn] at ha hb; omega
 unfold acA JU;dsimp only;rw[agA _ _ h1.1 h1.2,alm];simp only[bne];cases (a.1==b.1)<;>cases (a.2.1==b.2.1)<;>rfl
theorem U1 (a b:zM):zm (JU a b).1<=zm a+zm b:=by
 have h:=aaa a.2.2 b.2.2;unfold JU;cases (a.1==b.1 && a.2.1==b.2.1)
 ·simp[zm,zn]
 ·simp only[alo,zm,zn]; omega
noncomputable def Yg (p:zM):yg->yg
 | []=>[p]
 | q::r=>bif Z0 q p then q::Yg p r else bif (JU q p).2 then (JU q p).1::r else p::q::r
theorem lq (p:zM):∀ (l:yg),zI (Yg p l)<=zI l+zm p+1
 | []=>by simp[Yg,zI]; omega
 | q::r=>by
  have h:=lq p r;have h2:=U1 q p;simp only[Yg];cases Z0 q p
  ·cases (JU q p).2
   ·simp only[aln,zI,alr,alG,am1]; omega
   ·simp only[aln,alo,zI,alr,alG,am1]; omega
  ·simp only[alo,zI,alr,alG,am1] at h ⊢; omega
noncomputable def zW (c:za) (l:yg) (p:zM):yg×Bool:=bif jm c p && jO c (Yg p l) then (Yg p l,true) else (l,false)
theorem Ez (a b:yg):zI (a++b)=zI a+zI b:=by
 simp only[zI,alv,an6,anl]; omega
theorem Qb (a:yg):a.length<=zI a:=by unfold zI; omega
def TabI (l:yg) (p:zM) (i:Nat) (s:yg×Bool):Prop:=
 (s.2=true/\s.1++l.drop i=Yg p l)∨(s.2=false/\s.1++Yg p (l.drop i)=Yg p l)
theorem TabI.w {l:yg} {p:zM} {i:Nat} {s:yg×Bool} (h:TabI l p i s):zI s.1<=zI l+zm p+1:=by
 have h0:=lq p l;rcases h with⟨_,h⟩|⟨_,h⟩<;>rw[←h,Ez] at h0<;>omega
theorem bS (c:za) (l:yg) (p:zM) (hl:zI l<=100000000) (hp:zm p<=100000000):Ly (c,l,p,())=some ((zW c l p).1,(zW c l p).2,()):=by
 have hll:=Qb l;have htw:=lq p l;have adu:∀ out:yg,out=Yg p l->((MD (c,out,())).bind λ r10=>(bif (!r10.1) then ((J2 (l,())).bind λ r11=>some (r11.1,(false,()))) else ((KH (c,(p,()))).bind λ r12=>(bif (!r12.1) then ((J2 (l,())).bind λ r13=>some (r13.1,(false,()))) else some (out,(true,()))))))=some ((zW c l p).1,(zW c l p).2,()):=by
  intro out ho;subst ho;rw[DL c _ (by omega),alm,DS l (by omega),bJ c p (by omega)];unfold zW;cases jO c (Yg p l)<;>cases jm c p<;>rfl
 unfold Ly;dsimp only;refine walk l.length (λ i (s:yg×Bool)=>(s.1,s.2,i,())) (λ i s=>TabI l p i s) (λ _ _=>some ((zW c l p).1,(zW c l p).2,())) (by omega) ?_ ?_ (s0:=([],false)) (.inr ⟨rfl,rfl⟩)
 ·rintro rec ⟨out,put⟩ hI;have hw:=hI.w;have hol:=Qb out;unfold TabI at hI;rw[am7] at hI;simp only[alS,alx,aln];cases put
  ·rcases hI with⟨h,_⟩|⟨_,h⟩
   ·cases h
   ·simp only[alP,alo];rw[MG p (by omega),Option.bind_some,if_pos (by simp only[alr,als]; simp only at hw hol; omega)]
    exact adu (out++[p]) h
  ·rcases hI with⟨_,h⟩|⟨h,_⟩
   ·simp only[alt,aln];exact adu out (by simpa using h)
   ·cases h
 ·rintro rec i ⟨out,put⟩ hi hI;have hx:l[i]?=some l[i]:=List.getElem?_eq_getElem hi;have hpw:zm l[i]<=100000000:=MU hl hx;have hw:=hI.w;have hol:=Qb out;simp only at hw hol;unfold TabI at hI;rw[alJ hi] at hI;right;simp only[zz hi,decide_true,cond_true,and_self,if_true,Int.toNat_natCast,zu (e:=JF) hx,MG l[i] (by omega),Option.bind_some,zx (show i<4611686018427387904 by omega)];cases put
  ·rcases hI with⟨h,_⟩|⟨_,h⟩
   ·cases h
   ·simp only[alP,alo,DR,alm];simp only[Yg] at h;cases hb:Z0 l[i] p
    ·rw[hb] at h;simp only[aln] at h;simp only[Bool.not_false,cond_true,abe l[i] p (by omega) (by omega),Option.bind_some,MG p (show zm p<=137438953472 by omega)];cases hj:(JU l[i] p).2
     ·rw[hj] at h;simp only[aln] at h ⊢;rw[if_pos (by simp only[alr,als]; omega),if_pos (by simp only[alv,alr,als]; omega)]
      exact⟨(out++[p]++[l[i]],true),.inl ⟨rfl,by simpa using h⟩,rfl,trivial⟩
     ·rw[hj] at h;simp only[alo] at h ⊢;rw[if_pos (by simp only[alr,als]; omega)]
      exact⟨(out++[(JU l[i] p).1],true),.inl ⟨rfl,by simpa using h⟩,rfl,trivial⟩
    ·rw[hb] at h;simp only[alo] at h;simp only[alt,aln];rw[if_pos (by simp only[alr,als]; omega)]
     exact⟨(out++[l[i]],false),.inr ⟨rfl,by simpa using h⟩,rfl,trivial⟩
  ·rcases hI with⟨_,h⟩|⟨h,_⟩
   ·simp only[alt,aln];rw[if_pos (by simp only[alr,als]; omega)]
    exact⟨(out++[l[i]],true),.inl ⟨rfl,by simpa using h⟩,rfl,trivial⟩
   ·cases h
theorem ah3 (a b:zM):decide (fL a b<0)=Z0 a b:=by
 have h:=U9 a b;by_cases hp:fL a b<0
 ·have:¬ fL a b≥0:=by omega
  simp only[this,alx] at h;simp only[hp,alu];cases hb:Z0 a b
  ·rw[hb] at h; cases h
  ·rfl
 ·have:fL a b≥0:=by omega
  simp only[this,alu] at h;simp only[hp,alx];cases hb:Z0 a b
  ·rfl
  ·rw[hb] at h; cases h
theorem ah4 {a b:zM} (h:Z0 a b=false):(fL a b==0)=(JU a b).2:=by
 have hj:(JU a b).2=(a.1==b.1 && a.2.1==b.2.1):=by unfold JU; cases (a.1==b.1 && a.2.1==b.2.1)<;>rfl
 rw[hj];unfold Z0 at h;unfold fL;by_cases h1:a.1<b.1
 ·simp[h1] at h
 ·by_cases h2:a.1>b.1
  ·have:¬ a.1=b.1:=by omega
   simp[h1,h2,this]
  ·have he:a.1=b.1:=by omega
   simp only[he,alz,amG,beq_self_eq_true,alI] at h;have h3:=h.2;simp only[he,alS,if_false,h3,alM,beq_self_eq_true,alI,gt_iff_lt];by_cases h4:a.2.1=b.2.1
   ·simp[h4]
   ·simp[h4]
theorem adY (l:yg) (x:zM) (k:Nat) (hk:k<=l.length) (hl:l.length<=137438953471):aae (l,(k:Int),[x],())=some (l.take k++x::l.drop k,()):=by
 unfold aae vv;dsimp only;simp only[alr,als];rw[if_pos (by omega),aly];simp
theorem agG (c:za) (l:yg) (p:zM) (hl:zI l<=100000000) (hp:zm p<=100000000):ada (c,l,p,())=some ((zW c l p).1,(zW c l p).2,()):=by
 have hll:=Qb l;have htw:=lq p l;unfold ada;dsimp only;rw[mO c p (by omega),alm,SY l (by omega),alm,alm];cases hpo:jm c p
 ·simp only[alP,alo];unfold zW;rw[hpo];rfl
 ·simp only[alt,aln];have adu:∀ out:yg,out=Yg p l->((dG (c,out,())).bind λ r7=>(bif (!r7.1) then some (l,(false,())) else some (out,(true,()))))=some ((zW c l p).1,(zW c l p).2,()):=by
   intro out ho;subst ho;rw[SL c _ (by omega),alm];unfold zW;rw[hpo];cases jO c (Yg p l)<;>rfl
  refine walk l.length (λ i (_:Unit)=>(i,())) (λ i _=>l.take i++Yg p (l.drop i)=Yg p l) (λ _ _=>some ((zW c l p).1,(zW c l p).2,())) (by omega) ?_ ?_ (s0:=()) (by simp)
  ·intro rec s hI;rw[am7] at hI;simp only[alS,alx,aln];rw[vn p (by omega),alm,adY l p l.length (amm _) (by omega),alm,am7];exact adu _ hI
  ·intro rec i s hi hI;have hx:l[i]?=some l[i]:=List.getElem?_eq_getElem hi;have hpw:zm l[i]<=100000000:=MU hl hx;rw[alJ hi] at hI;simp only[Yg] at hI;simp only[zz hi,alu,alo,alD,if_true,aly,zu (e:=JF) hx,SU,alm,ah3,zx (show i<4611686018427387904 by omega)];cases hb:Z0 l[i] p
   ·left;rw[hb] at hI;simp only[aln] at hI ⊢;rw[ah4 hb];cases hj:(JU l[i] p).2
    ·rw[hj] at hI;simp only[aln] at hI ⊢;rw[vn p (by omega),alm,adY l p i (Nat.le_of_lt hi) (by omega),alm,alJ hi];exact adu _ hI
    ·rw[hj] at hI;simp only[alo] at hI ⊢;rw[agt l[i] p (by omega) (by omega),Option.bind_some];dsimp only;rw[List.set_eq_take_append_cons_drop,if_pos hi];exact adu _ hI
   ·right;rw[hb] at hI;simp only[alo] at hI;have e:l.take (i+1)=l.take i++[l[i]]:=by rw[amK,hx]; rfl
    refine⟨(),?_,by simp only[alo],trivial⟩;rw[e,alW];exact hI
def jz (r:zb) (t:yg):zb:=(r.1,r.2.1,r.2.2.1,r.2.2.2.1,r.2.2.2.2.1,t,r.2.2.2.2.2.2)
theorem lF {c:za} {r:zb} {t:yg} (h:ze c r=true) (ht:jO c t=true):ze c (jz r t)=true:=by
 obtain⟨a,v,k,sf,pool,tab,dk,held⟩:=r;show ze c (a,v,k,sf,pool,t,dk,held)=true;unfold ze at h ⊢;simp only[alp] at h ⊢;obtain⟨a1,a2,a3,a4,a5,a6,a7,a8⟩:=h;exact⟨a1,a2,a3,a4,a5,a6,ht,a8⟩
theorem qW {c:za} {l:yg} {p:zM} (h:(zW c l p).2=true):jO c (zW c l p).1=true:=by
 unfold zW at *;cases h1:(jm c p && jO c (Yg p l))
 ·rw[h1] at h; cases h
 ·simp only[alp] at h1;exact h1.2
theorem lr (c:za) (l:yg) (p:zM):zI (zW c l p).1<=zI l+zm p+1:=by
 have h:=lq p l;unfold zW;cases (jm c p && jO c (Yg p l))
 ·simp only[aln]; omega
 ·exact h
noncomputable def Nt (c:za) (r:zb) (p:zM):zb×Bool:=
 bif !ze c r then (r,false) else bif !jm c p then (r,false) else bif p.2.1==[] then (r,false) else bif decide (p.1<r.2.1) then (r,false) else
 bif !(zW c r.2.2.2.2.2.1 p).2 then (r,false) else ((climb c (jz r (zW c r.2.2.2.2.2.1 p).1) p.1 p.2.1 false).1,true)
theorem ab4 (c:za) (r:zb) (p:zM) (hr:zf r<=2000000) (hp:zm p<=2000000):gR (c,r,p,())=some ((Nt c r p).1,(Nt c r p).2,()):=by
 have ht:zI r.2.2.2.2.2.1<=2000000:=by simp only[zf] at hr; omega
 have hw:=lr c r.2.2.2.2.2.1 p;have hn:p.2.1.length<=2000000:=by simp only[zm] at hp; omega
 have hwr:zf (jz r (zW c r.2.2.2.2.2.1 p).1)<=15000000:=by simp only[jz,zf] at *; omega
 unfold gR Nt;dsimp only;rw[Zw r (by omega),alm,Zv c r (by omega),alm,bJ c p (by omega),alm,alm,bS c r.2.2.2.2.2.1 p (by omega) (by omega),alm];cases hok:ze c r
 ·rfl
 cases jm c p
 ·rfl
 cases (p.2.1==([]:List UInt8))
 ·cases decide (p.1<r.2.1)
  ·cases hta:(zW c r.2.2.2.2.2.1 p).2
   ·rfl
   ·have afW:=lF (t:=(zW c r.2.2.2.2.2.1 p).1) hok (qW hta);simp only[alt,aln];show ((yv (jz r (zW c r.2.2.2.2.2.1 p).1,())).bind _)=_;rw[Zw _ (by omega),alm];dsimp only;rw[sx c _ p.1 p.2.1 false afW hwr (by omega),alm];unfold climb;rw[afW];cases (Jd c (jz r (zW c r.2.2.2.2.2.1 p).1) p.1 p.2.1 false).2<;>rfl
  ·rfl
 ·rfl
noncomputable def Kl (c:za) (s:zr) (b:jf):Bool:=zU c s && (jX c b && (decide (zo b.1>s.1) && decide (b.2.1≥s.2.1)))
theorem DC (c:za) (s:zr) (b:jf) (hs:zt s<=137438953472) (hb:zD b<=137438953472):bH (c,s,b,())=some (Kl c s b,()):=by
 have h1:b.1.length<=137438953472:=by simp only[zD] at hb; omega
 unfold bH Kl;dsimp only;rw[qy c s hs,alm,gG c b hb,alm,Y5 b.1 h1,alm];cases zU c s<;>cases jX c b<;>cases decide (zo b.1>s.1)<;>rfl
noncomputable def vote (c:za) (s:zr) (b:jf):zr:=bif Kl c s b then (zo b.1,s.2) else s
theorem DP (c:za) (s:zr) (b:jf) (hs:zt s<=137438953472) (hb:zD b<=137438953472):qI (c,s,b,())=some (vote c s b,Kl c s b,()):=by
 have h1:b.1.length<=137438953472:=by simp only[zD] at hb; omega
 unfold qI vote;dsimp only;rw[b8 s hs,alm,DC c s b hs hb,alm,Y5 b.1 h1,alm];cases Kl c s b<;>rfl
theorem Ey (c:za) (s:zr) (b:jf):zt (vote c s b)<=zt s:=by
 unfold vote;cases Kl c s b
 ·exact Nat.le_refl _
 ·exact Nat.le_refl _
noncomputable def voted (c:za) (r0 w:zb) (name:List UInt8):zb×Bool:=
 bif !(zW c w.2.2.2.2.2.1 (zo name,name,[w.1])).2 then (r0,false) else ((climb c (jz w (zW c w.2.2.2.2.2.1 (zo name,name,[w.1])).1) (zo name) name false).1,true)
noncomputable def L2 (c:za) (r:zb) (b:jf):zb×Bool:=
 bif !ze c r then (r,false) else bif !jX c b then (r,false) else
 bif decide (zo b.1≥r.2.1) then
  (bif !(zv c (yN r (zo b.1)) (vote c (see c r.2.2.2.1 b.2) b)).2 then (r,false) else
   bif !Kl c (see c r.2.2.2.1 b.2) b then ((zv c (yN r (zo b.1)) (vote c (see c r.2.2.2.1 b.2) b)).1,true) else
   voted c r (zv c (yN r (zo b.1)) (vote c (see c r.2.2.2.1 b.2) b)).1 b.1)
 else (bif !(zv c r (see c r.2.2.2.1 b.2)).2 then (r,false) else ((zv c r (see c r.2.2.2.1 b.2)).1,true))
theorem ta (v me:Int) (name:List UInt8):zm (v,name,[me])=name.length+1:=by simp[zm,zn]
theorem abE (c:za) (w:zb) (name:List UInt8) (hok:ze c w=true) (hw:zf w<=13000000) (hn:name.length<=1100000):
  MJ (c,w,name,())=some ((voted c w w name).1,(voted c w w name).2,()):=by
 have ht:zI w.2.2.2.2.2.1<=13000000:=by simp only[zf] at hw; omega
 have hp:=ta (zo name) w.1 name;have hta:=lr c w.2.2.2.2.2.1 (zo name,name,[w.1]);have hwr:zf (jz w (zW c w.2.2.2.2.2.1 (zo name,name,[w.1])).1)<=15000000:=by simp only[jz,zf] at *; omega
 unfold MJ voted;dsimp only;rw[Y5 name (by omega),alm];dsimp only;rw[bS c w.2.2.2.2.2.1 (zo name,name,[w.1]) (by omega) (by omega),Option.bind_some];cases h:(zW c w.2.2.2.2.2.1 (zo name,name,[w.1])).2
 ·rfl
 ·have afW:=lF (t:=(zW c w.2.2.2.2.2.1 (zo name,name,[w.1])).1) hok (qW h);simp only[alt,aln];show ((yv (jz w (zW c w.2.2.2.2.2.1 (zo name,name,[w.1])).1,())).bind _)=_;rw[Zw _ (by omega),alm,alm];dsimp only;rw[sx c _ (zo name) name false afW hwr (by omega),alm];unfold climb;rw[afW];cases (Jd c (jz w (zW c w.2.2.2.2.2.1 (zo name,name,[w.1])).1) (zo name) name false).2<;>rfl
theorem acd (c:za) (r0 w:zb) (name:List UInt8):(voted c r0 w name).2=(zW c w.2.2.2.2.2.1 (zo name,name,[w.1])).2/\((voted c r0 w name).2=true->(voted c w w name).1=(voted c r0 w name).1)/\((voted c r0 w name).2=false->(voted c r0 w name).1=r0)/\(voted c w w name).2=(voted c r0 w name).2:=by
 unfold voted;cases (zW c w.2.2.2.2.2.1 (zo name,name,[w.1])).2
 ·exact⟨rfl,λ h=>(by cases h),λ _=>rfl,rfl⟩
 ·exact⟨rfl,λ _=>rfl,λ h=>(by cases h),rfl⟩
theorem Dx (c:za) (r:zb) (b:jf) (hrb:zf r+zD b<=1048576):ql (c,r,b,())=some ((L2 c r b).1,(L2 c r b).2,()):=by
 have hs:zt r.2.2.2.1<=zf r:=by simp only[zf]; omega
 have hq:zi b.2<=zD b/\b.1.length<=zD b:=by simp only[zD]; omega
 have aiC:=bp c r.2.2.2.1 b.2;have ali:=Ey c (see c r.2.2.2.1 b.2) b;have hiv:zf (yN r (zo b.1))=zf r:=rfl;unfold ql L2;dsimp only;rw[Zw r (by omega),alm,Zv c r (by omega),alm,gG c b (by omega),alm,alm,kg c r.2.2.2.1 b.2 (by omega) (by omega),alm,Y5 b.1 (by omega),alm,DC c (see c r.2.2.2.1 b.2) b (by omega) (by omega),alm,DP c (see c r.2.2.2.1 b.2) b (by omega) (by omega)];simp only[alm];cases hok:ze c r
 ·rfl
 cases hbo:jX c b
 ·rfl
 by_cases hv:zo b.1≥r.2.1
 ·have hn:zG b.1=true/\b.1≠[]:=by
   unfold jX at hbo;simp only[alp,bne_iff_ne,ne_eq] at hbo;exact⟨hbo.2.1,hbo.2.2.1⟩
  have hnv:=ak hn.1 hn.2;have aez:=vu (v:=zo b.1) hok hnv;simp only[hv,alu,alo,alt,aln];cases hm:Kl c (see c r.2.2.2.1 b.2) b
  ·have e:vote c (see c r.2.2.2.1 b.2) b=see c r.2.2.2.1 b.2:=by unfold vote; rw[hm]; rfl
   simp only[aln,alP,alo,e];show ((Yf (c,yN r (zo b.1),see c r.2.2.2.1 b.2,())).bind _)=_;rw[qO c (yN r (zo b.1)) (see c r.2.2.2.1 b.2) (by omega) (by omega),alm];cases (zv c (yN r (zo b.1)) (see c r.2.2.2.1 b.2)).2<;>rfl
  ·simp only[alo,alt,aln];have hww:=nY c (yN r (zo b.1)) (vote c (see c r.2.2.2.1 b.2) b);show ((Yf (c,yN r (zo b.1),vote c (see c r.2.2.2.1 b.2) b,())).bind _)=_;rw[qO c (yN r (zo b.1)) (vote c (see c r.2.2.2.1 b.2) b) (by omega) (by omega),alm];cases hw:(zv c (yN r (zo b.1)) (vote c (see c r.2.2.2.1 b.2) b)).2
   ·rfl
   ·obtain⟨o1,o2,o3⟩:=ti aez hw;obtain⟨f1,f2,f3,f4⟩:=acd c r (zv c (yN r (zo b.1)) (vote c (see c r.2.2.2.1 b.2) b)).1 b.1;simp only[alo,alt,aln];rw[abE c _ b.1 o1 (by omega) (by omega),alm];dsimp only;rw[f4];cases hf:(voted c r (zv c (yN r (zo b.1)) (vote c (see c r.2.2.2.1 b.2) b)).1 b.1).2
    ·simp only[alP,alo,f3 hf]
    ·simp only[alt,aln,f2 hf]
 ·simp only[hv,alx,aln,alt];rw[qO c r (see c r.2.2.2.1 b.2) (by omega) (by omega),alm];cases (zv c r (see c r.2.2.2.1 b.2)).2<;>rfl
noncomputable def late (c:za) (r:zb):zb×Bool:=
 bif !ze c r then (r,false) else bif decide (r.2.1≥60) then (r,false) else
 bif je c (r.2.1+1)==r.1 then
  (bif !(zW c r.2.2.2.2.2.1 (r.2.1+1,[],[r.1])).2 then (r,false) else (jz (yN r (r.2.1+1)) (zW c r.2.2.2.2.2.1 (r.2.1+1,[],[r.1])).1,true))
 else
  (bif !(ZM c (yN r (r.2.1+1)) (je c (r.2.1+1)) (3,r.2.1+1,([],0,[],[]),(0,[],[]),r.2.2.2.1.2.2.1,r.1,0,0,0,0)).2 then (r,false) else
   ((ZM c (yN r (r.2.1+1)) (je c (r.2.1+1)) (3,r.2.1+1,([],0,[],[]),(0,[],[]),r.2.2.2.1.2.2.1,r.1,0,0,0,0)).1,true))
theorem ab8 (c:za) (r:zb) (hr:zf r<=2000000):Mw (c,r,())=some ((late c r).1,(late c r).2,()):=by
 have ht:zI r.2.2.2.2.2.1<=2000000:=by simp only[zf] at hr; omega
 have hq:zi r.2.2.2.1.2.2.1<=2000000:=by simp only[zf,zt] at hr; omega
 unfold Mw late;dsimp only;rw[Zw r (by omega),alm,Zv c r (by omega),alm];cases hok:ze c r
 ·rfl
 ·have hv:=N0 hok;have hp:=ta (r.2.1+1) r.1 [];have hm:=wl r.2.2.2.1.2.2.1 (r.2.1+1) r.1;simp only[alt,aln,zg (show -9223372036854775808<=r.2.1+1 by omega) (show r.2.1+1<=9223372036854775807 by omega),MA,alm];cases decide (r.2.1≥60)
  ·simp only[aln];cases (je c (r.2.1+1)==r.1)
   ·simp only[aln];show ((KM (c,yN r (r.2.1+1),je c (r.2.1+1),(3,r.2.1+1,([],0,[],[]),(0,[],[]),r.2.2.2.1.2.2.1,r.1,0,0,0,0),())).bind _)=_;rw[kH c (yN r (r.2.1+1)) _ _ (ba hok) (by show zf r<=_; omega) (by omega),alm]
    cases (ZM c (yN r (r.2.1+1)) (je c (r.2.1+1)) (3,r.2.1+1,([],0,[],[]),(0,[],[]),r.2.2.2.1.2.2.1,r.1,0,0,0,0)).2<;>rfl
   ·simp only[alo];rw[bS c r.2.2.2.2.2.1 (r.2.1+1,[],[r.1]) (by omega) (by simp only[als] at hp; omega),Option.bind_some]
    cases (zW c r.2.2.2.2.2.1 (r.2.1+1,[],[r.1])).2<;>rfl
  ·rfl
theorem agr (c:za) (r:zb) (hr:zf r<=2000000):acS (c,r,())=some ((late c r).1,(late c r).2,()):=by
 have ht:zI r.2.2.2.2.2.1<=2000000:=by simp only[zf] at hr; omega
 have hq:zi r.2.2.2.1.2.2.1<=2000000:=by simp only[zf,zt] at hr; omega
 unfold acS late;dsimp only;rw[vo r (by omega),Kf c r (by omega),alm,alm];cases hok:ze c r
 ·rfl
 ·have hv:=N0 hok;have hp:=ta (r.2.1+1) r.1 [];have hm:=wl r.2.2.2.1.2.2.1 (r.2.1+1) r.1;simp only[alt,aln,zg (show -9223372036854775808<=r.2.1+1 by omega) (show r.2.1+1<=9223372036854775807 by omega),acZ,alm];by_cases h60:r.2.1≥60
  ·have e:(r.2.1==60)=true:=by rw[alT]; omega
   simp only[h60,alu,alo,e]
  ·have e:(r.2.1==60)=false:=beq_eq_false_iff_ne.2 (by omega);have hk:=vu (v:=r.2.1+1) hok (by omega);simp only[h60,alx,aln,e];cases (je c (r.2.1+1)==r.1)
   ·simp only[aln];show ((s6 (c,yN r (r.2.1+1),je c (r.2.1+1),(3,r.2.1+1,([],0,[],[]),(0,[],[]),r.2.2.2.1.2.2.1,r.1,0,0,0,0),())).bind _)=_;rw[acH c (yN r (r.2.1+1)) _ _ (by show zf r<=_; omega) (by omega),←Ef _ _ hk,alm]
    cases (ZM c (yN r (r.2.1+1)) (je c (r.2.1+1)) (3,r.2.1+1,([],0,[],[]),(0,[],[]),r.2.2.2.1.2.2.1,r.1,0,0,0,0)).2<;>rfl
   ·simp only[alo];rw[agG c r.2.2.2.2.2.1 (r.2.1+1,[],[r.1]) (by omega) (by simp only[als] at hp; omega),Option.bind_some]
    cases (zW c r.2.2.2.2.2.1 (r.2.1+1,[],[r.1])).2<;>rfl
theorem ahK (c:za) (r:zb) (to:Int) (m:zw):zf (ZM c r to m).1<=zf r+(1+zj m):=by
 have hw:=So r to m;unfold ZM;cases (!decide ((r.2.2.2.2.2.2.2.length:Int)≥30) && Z3 c r.1 (to,m))
 ·simp only[aln]; omega
 ·simp only[alo]; omega
theorem agX (c:za) (r:zb):zf (late c r).1<=200+3*zf r:=by
 have ht:zI r.2.2.2.2.2.1<=zf r:=by simp only[zf]; omega
 have hq:zi r.2.2.2.1.2.2.1<=zf r:=by simp only[zf,zt]; omega
 have hm:=wl r.2.2.2.1.2.2.1 (r.2.1+1) r.1;have hp:=ta (r.2.1+1) r.1 [];have h1:=ahK c (yN r (r.2.1+1)) (je c (r.2.1+1)) (3,r.2.1+1,([],0,[],[]),(0,[],[]),r.2.2.2.1.2.2.1,r.1,0,0,0,0);have hiv:zf (yN r (r.2.1+1))=zf r:=rfl;have h2:=lr c r.2.2.2.2.2.1 (r.2.1+1,[],[r.1]);have h3:zf (jz (yN r (r.2.1+1)) (zW c r.2.2.2.2.2.1 (r.2.1+1,[],[r.1])).1)<=zf r+zm (r.2.1+1,[],[r.1])+1:=by simp only[jz,yN,zf] at *; omega
 simp only[als] at hp;unfold late;cases ze c r
 ·simp only[alP,alo]; omega
 cases decide (r.2.1≥60)
 ·cases (je c (r.2.1+1)==r.1)
  ·cases (ZM c (yN r (r.2.1+1)) (je c (r.2.1+1)) (3,r.2.1+1,([],0,[],[]),(0,[],[]),r.2.2.2.1.2.2.1,r.1,0,0,0,0)).2
   ·simp only[alt,alP,alo,aln]; omega
   ·simp only[alt,aln]; omega
  ·cases (zW c r.2.2.2.2.2.1 (r.2.1+1,[],[r.1])).2
   ·simp only[alt,alP,alo,aln]; omega
   ·simp only[alt,alo,aln]; omega
 ·simp only[alt,alo,aln]; omega
theorem pq (c:UInt8):∀ s:List UInt8,s.length+1=((zS c s).map λ p=>p.length+1).sum
 | []=>by simp[zS]
 | x::l=>by
  have ih:=pq c l;simp only[zS];split
  ·simp only[alG,am1,als,alr]; omega
  ·cases h:zS c l with
   | nil=>exact absurd h (YQ _ _)
   | cons p r=>
    rw[h] at ih;simp only[glue,alG,am1,alv,alr,als] at ih ⊢;omega
theorem ac4 {s:List UInt8} (h:(Zx s).2=true):s.length<=27:=by
 unfold Zx at h;split at h
 ·next hh=>rw[←hh.2]; exact lA _
 ·cases h
theorem Ek:∀ (ps:List (List UInt8)) (out:List zN),(Yx ps out).2=true->(Yx ps out).1.length=out.length+ps.length/\(ps.map λ p=>p.length+1).sum<=28*ps.length
 | [],out,_=>by simp[Yx]
 | p::ps,out,h=>by
  simp only[Yx] at h ⊢;split at h
  ·next hp=>
   have h1:=ac4 hp;obtain⟨h2,h3⟩:=Ek ps _ h;rw[if_pos hp];simp only[alv,alr,als,alG,am1] at h2 ⊢;omega
  ·cases h
theorem ac8 {s:List UInt8} (h:(jj s).2=true):s.length<=28*(jj s).1.length:=by
 unfold jj at h ⊢;split at h
 ·next e=>subst e; simp
 ·next e=>
  rw[if_neg e];obtain⟨h1,h2⟩:=Ek _ _ h;have:=pq 44 s;simp only[als,amg] at h1;omega
theorem UU {s:List UInt8} (h:(zA s).2=true):s.length<=6:=by
 unfold zA at h;split at h
 ·next hh=>exact hh.2.1
 ·cases h
theorem D7:∀ (ps:List (List UInt8)) (prev:Int) (out:List ZZ),(jE ps prev out).2=true->(ps.map λ p=>p.length+1).sum<=64*ps.length
 | [],_,_,_=>by simp
 | p::ps,prev,out,h=>by
  simp only[jE] at h;cases hq:yL 124 p with
  | none=>rw[hq] at h; cases h
  | some q=>
   rw[hq] at h;simp only at h;split at h
   ·next hs=>
    unfold yU at hs;simp only[alp,alz] at hs;obtain⟨a1,a2,-,-,a5⟩:=hs;have b1:=UU a1;have b2:=ac8 a2;obtain⟨q1,q2⟩:=q;have b3:=(mr 124 hq).1;have ih:=D7 ps _ _ h;simp only[alG,am1,alr] at ih ⊢;simp only at b1 b2 a5;omega
   ·cases h
theorem Zm {s:List UInt8} (h:zG s=true):s.length<=1920:=by
 unfold zG steps at h;split at h
 ·next e=>subst e; simp
 ·have hs:=pq 47 s;cases hp:zS 47 s with
  | nil=>exact absurd hp (YQ _ _)
  | cons p ps=>
   rw[hp] at h hs;simp only at h;split at h
   ·next hh=>
    obtain⟨rfl,h30⟩:=hh;have:=D7 ps _ _ h;simp only[alG,am1,als] at hs;omega
   ·cases h
theorem C3 (n:Int):∀ (l:List Int) (p:Int),Y0 n (some p) l=true->p<n->(l.length:Int)<=n - 1 - p
 | [],p,_,hp=>by simp; omega
 | x::l,p,h,hp=>by
  simp only[Y0,alp,alU,amD] at h;obtain⟨h1,h2,h3,h4⟩:=h;have:=C3 n l x h4 (by omega);simp only[alr];omega
theorem C8 {n:Int} {l:List Int} (h:j4 n l=true) (hn:0<=n):(l.length:Int)<=n:=by
 unfold j4 at h;cases l with
 | nil=>simpa using hn
 | cons x l=>
  simp only[Y0,alp,alU,amD] at h;obtain⟨h1,h2,h3,h4⟩:=h;have:=C3 n l x h4 (by omega);simp only[alr];omega
theorem C4 (n:Int):∀ (l:List Int) (p:Option Int),Y0 n p l=true->∀ x∈l,0<=x/\x<n
 | [],_,_,x,hx=>by cases hx
 | y::l,p,h,x,hx=>by
  simp only[Y0,alp,alU,amD] at h;obtain⟨h1,h2,h3,h4⟩:=h;rcases List.mem_cons.1 hx with rfl|hx
  ·omega
  ·exact C4 n l _ h4 x hx
theorem C9 {n:Int} {l:List Int} (h:j4 n l=true):∀ x∈l,0<=x/\x<n:=C4 n l none h
theorem aV {c:za} {q:zJ} (h:z8 c q=true):zi q<=1927:=by
 unfold z8 at h;simp only[alp] at h;obtain⟨h1,h2,h3,h4⟩:=h;have hc:=yi h1;have hn:=Zm h2;simp only[zi,zn];cases he:(q.2.1==([]:List UInt8))<;>rw[he] at h4
 ·simp only[aln,alp] at h4;have:=C8 h4.1 (by omega);omega
 ·simp only[alo,alT] at h4;omega
theorem wG {c:za} {p:zM} (h:jm c p=true):zm p<=1927:=by
 unfold jm at h;simp only[alp,am9] at h;obtain⟨h1,h2,h3,h4,h5⟩:=h;have hc:=yi h1;have:=C8 h3 (by omega);simp only[zm,zn];rcases h5 with h5|h5
 ·simp only[alT] at h5;rw[h5];simp only[als];omega
 ·have hn:=Zm h5.1;omega
theorem tS {c:za} {b:jf} (h:jX c b=true):zD b<=3847:=by
 unfold jX at h;simp only[alp] at h;have h1:=aV h.1;have h2:=Zm h.2.1;simp only[zD];omega
theorem pA {a b:zJ} (h:jh a b=true):a=b:=by
 unfold jh at h;simp only[alp,alT,alz] at h;obtain⟨a1,a2,a3⟩:=a;obtain⟨b1,b2,b3⟩:=b;simp only at h;simp[h.1,h.2.1,h.2.2]
theorem pC (a:zJ):jh a a=true:=by
 unfold jh;simp
theorem UC {a b:zw} (h:ZF a b=true):a=b:=by
 unfold ZF YD MQ at h;simp only[alp,alT] at h;obtain⟨a1,a2,⟨a3,a3'⟩,a4,a5,a6,a7⟩:=a;obtain⟨b1,b2,⟨b3,b3'⟩,b4,b5,b6,b7⟩:=b;simp only at h;obtain⟨h1,h2,⟨h3,h3'⟩,h4,h5,h6,h7⟩:=h;have e1:=pA h3';have e2:a4=b4:=pA h4;have e3:=pA h5;subst h1 h2 h3 e1 e2 e3 h6;obtain⟨x1,x2,x3,x4⟩:=a7;obtain⟨y1,y2,y3,y4⟩:=b7;simp only at h7;obtain⟨k1,k2,k3,k4,-⟩:=h7;subst k1 k2 k3 k4;rfl
theorem eH {c:za} {m:zw} (h:yO c m=true):zj m<=3847:=by
 unfold yO at h;simp only[alp] at h;obtain⟨h1,h2,h3⟩:=h;have e:=UC h2;rw[←e];unfold canon;cases k1:(m.1==1)
 ·cases k2:(m.1==2)
  ·cases k3:(m.1==3)
   ·cases k4:(m.1==4)
    ·simp[zj,zD,zi,zm,zn]
    ·simp[zj,zD,zi,zm,zn]
   ·rw[k1,k2,k3] at h3;simp only[aln,alo,alp] at h3;have:=aV h3.2.1;simp only[aln,alo,zj,zD,zm,zn,als];simp only[zi,zn,als] at this ⊢;omega
  ·rw[k1,k2] at h3;simp only[aln,alo,alp] at h3;have:=wG h3.1;simp only[aln,alo,zj,zD,zi,zn,als];simp only[zm,zn] at this ⊢;omega
 ·rw[k1] at h3;simp only[alo] at h3;have:=tS h3;simp only[alo,zj,zi,zm,zn,als];simp only[zD,zi,zn] at this ⊢;omega
theorem rK {c:za} {s:zr} (h:zU c s=true):zt s<=3847:=by
 unfold zU at h;simp only[alp] at h;have h1:=aV h.2.2.1;have h2:=Zm h.2.2.2;simp only[zt];omega
theorem sH {α:Type} (f:α->Nat) (k:Nat):∀ (l:List α),(∀ x∈l,f x<=k)->(l.map f).sum<=k*l.length
 | [],_=>by simp
 | x::l,h=>by
  have h1:=h x (by simp);have h2:=sH f k l λ y hy=>h y (by simp[hy]);simp only[alG,am1,alr,Nat.mul_add,Nat.mul_one];omega
theorem tY {α:Type} {ok:α->Bool} {lt:α->α->Bool}:∀ {l:List α} {p:Option α},yK ok lt p l=true->∀ x∈l,ok x=true
 | [],_,_,x,hx=>by cases hx
 | y::l,p,h,x,hx=>by
  simp only[yK,alp] at h;rcases List.mem_cons.1 hx with rfl|hx
  ·exact h.1
  ·exact tY h.2.2 x hx
theorem Ec {c:za} {l:yg} (h:jO c l=true):zI l<=38560:=by
 unfold jO at h;simp only[alp,alz] at h;have h1:=sH zm 1927 l λ x hx=>wG (tY h.1 x hx);simp only[zI];omega
theorem J0 {c:za} {r:zb} (h:ze c r=true):zC c=true/\(0<=r.1/\r.1<=c.1 - 1)/\(1<=r.2.1/\r.2.1<=60)/\(0<=r.2.2.1/\r.2.2.1<=60)/\zU c r.2.2.2.1=true/\jL r.2.2.2.2.1=true/\
  jO c r.2.2.2.2.2.1=true/\yB r.2.2.2.2.2.2.1=true/\r.2.2.2.2.2.2.2.length<=30/\∀ x∈r.2.2.2.2.2.2.2,Z3 c r.1 x=true:=by
 unfold ze at h;simp only[alp,alz,amW] at h;obtain⟨h1,h2,h3,h4,h5,h6,h7,h8,h9,h10⟩:=h;exact⟨h1,h2,h3,h4,h5,h6,h7,h8,by omega,h10⟩
theorem KB {c:za} {r:zb} (h:ze c r=true):zf r<=260000:=by
 obtain⟨h1,h2,h3,h4,h5,h6,h7,h8,h9,h10⟩:=J0 h;have a5:=rK h5;have a7:=Ec h7;unfold jL at h6;unfold yB at h8;simp only[alp,alz] at h6 h8;have a10:=sH Yi 3847 r.2.2.2.2.2.2.2 λ x hx=>by
  have:=h10 x hx;unfold Z3 at this;simp only[alp] at this;exact eH this.1
 simp only[zf,Y7,JD,yt];omega
theorem aj:zG []=true:=by unfold zG steps; simp
theorem nQ (up:List UInt8) (view:Int) (list:zE):zG (Zl up view list)=true:=by
 unfold Zl;cases h:(list.all zH && zG (Jn up view list))
 ·exact aj
 ·simp only[alp] at h;exact h.2
theorem Ex:zo []=0:=by unfold zo steps; simp
theorem MT {s:List UInt8} (h:zG s=true):0<=zo s/\zo s<=60:=by
 by_cases e:s=[]
 ·subst e; rw[Ex]; omega
 ·have:=ak h e; omega
theorem L9 (c:zL) (hc:z6 c):Ens (yb (c,())) λ r=>0<=r.1.2.1/\zH r.2.1=true:=by
 unfold yb;refine (zF c 4 hc).bind λ r0 h0 => ?_;refine (zF (c.1,r0.1.2) 4 ⟨hc.1,h0.1⟩).bind λ r1 h1 => ?_;refine (jJ (c.1,r1.1.2) _ ⟨hc.1,h1.1⟩ (by simp)).bind λ r2 h2 => ?_;refine (zF (c.1,r2.1.2) 3 ⟨hc.1,h2.1⟩).bind λ r3 h3 => ?_;refine Ens.some ⟨h3.1,?_⟩;have a0:=h0.2.2 (by decide);have a1:=h1.2.2 (by decide);have a3:=h3.2.2 (by decide);have a2:=h2.2;simp only[alH,amd,or_false] at a2;rw[LI];dsimp only;omega
theorem vP (c:zL) (hc:z6 c):Ens (cl (c,())) λ r=>0<=r.1.2.1:=by
 unfold cl;refine (L9 c hc).bind λ r0 h0 => ?_;refine (zF (c.1,r0.1.2) 12 ⟨hc.1,h0.1⟩).bind λ r1 h1 => ?_;refine Ens.cond (λ _ => ?_) λ _ => ?_
 ·exact (jJ (c.1,r1.1.2) _ ⟨hc.1,h1.1⟩ (by simp)).bind λ r2 h2=>Ens.some h2.1
 refine Ens.cond (λ _ => ?_) λ _ => ?_
 ·exact (jJ (c.1,r1.1.2) _ ⟨hc.1,h1.1⟩ (by simp)).bind λ r2 h2=>Ens.some h2.1
 refine Ens.cond (λ _ => ?_) λ _ => ?_
 ·exact (jJ (c.1,r1.1.2) _ ⟨hc.1,h1.1⟩ (by simp)).bind λ r2 h2=>Ens.some h2.1
 refine Ens.cond (λ _ => ?_) λ _ => ?_
 ·exact (jJ (c.1,r1.1.2) _ ⟨hc.1,h1.1⟩ (by simp)).bind λ r2 h2=>Ens.some h2.1
 exact Ens.some h1.1
theorem Ee {a:Int} (h0:0<=a) (h1:a<4):0<=Int.tdiv a 3/\Int.tdiv a 3<=1:=by
 rw[anE h0];omega
theorem ae (c:zL) (hc:z6 c):Ens (LE (c,())) λ r=>0<=r.1.2.1/\zG r.2.1=true:=by
 unfold LE;refine Ens.loop (λ x=>zG x.1=true/\(0<=x.2.1/\x.2.1<=2*x.2.2.1)/\(0<=x.2.2.1/\x.2.2.1<=5)/\0<=x.2.2.2.1.2.1) (λ x=>(6 - x.2.2.1).toNat) ?_ ⟨aj,by simp,by simp,hc.2⟩ (by dsimp only; rw[y9]; omega)
 intro rec x hx acB;obtain⟨x1,x2,x3,x4⟩:=hx;refine (zF (c.1,x.2.2.2.1.2) 6 ⟨hc.1,x4⟩).bind λ r1 h1 => ?_;have a1:=h1.2.2 (by decide);refine Ens.cond (λ h => ?_) λ h=>Ens.some ⟨h1.1,x1⟩;have h:x.2.2.1<r1.2.1:=by simpa using h
 refine (zF (c.1,r1.1.2) 4 ⟨hc.1,h1.1⟩).bind λ r2 h2 => ?_;have a2:=h2.2.2 (by decide);have b2:=Ee h2.2.1 a2;refine Ens.loop (λ y=>(0<=y.2.1/\y.2.1<=2)/\(y.1.length:Int)<=y.2.1/\0<=y.2.2.1.2.1) (λ y=>(3 - y.2.1).toNat) ?_ ⟨by simp,by simp,h2.1⟩ (by dsimp only; rw[y9]; omega)
 intro rec3 y hy akj;obtain⟨y1,y2,y3⟩:=hy;refine (zF (c.1,y.2.2.1.2) 3 ⟨hc.1,y3⟩).bind λ r4 h4 => ?_;have a4:=h4.2.2 (by decide);refine Ens.cond (λ h' => ?_) λ h' => ?_
 ·have h':y.2.1<r4.2.1:=by simpa using h'
  refine (L9 (c.1,r4.1.2) ⟨hc.1,h4.1⟩).bind λ r5 h5 => ?_;refine Ens.ite (by simp only[alr,als]; omega) ?_
  rw[zg (n:=y.2.1+1) (by omega) (by omega)];exact akj _ ⟨⟨by dsimp only; omega,by dsimp only; omega⟩,by simp only[alv,alr,als]; omega,h5.1⟩ (by dsimp only; omega)
 ·have e1:wr (x.2.1+1)=x.2.1+1:=zg (by omega) (by omega);have e2:wr (Int.tdiv r2.2.1 3)=Int.tdiv r2.2.1 3:=zg (by omega) (by omega);have e3:wr (x.2.1+1+Int.tdiv r2.2.1 3)=x.2.1+1+Int.tdiv r2.2.1 3:=zg (by omega) (by omega);have hlen:=Zm x1;rw[e1,e2,e3,bI x.1 _ y.1 (by omega) (by omega) (by omega),alm,zg (n:=x.2.2.1+1) (by omega) (by omega)];exact acB _ ⟨nQ _ _ _,⟨by dsimp only; omega,by dsimp only; omega⟩,⟨by dsimp only; omega,by dsimp only; omega⟩,h4.1⟩ (by dsimp only; omega)
theorem vQ (c:zL) (n:Int) (hc:z6 c) (hn:0<n):Ens (cn (c,n,())) λ r=>0<=r.1.2.1/\r.2.1.length<=8:=by
 unfold cn;refine Ens.loop (λ x=>(0<=x.2.1/\x.2.1<=7)/\(x.1.length:Int)<=x.2.1/\0<=x.2.2.1.2.1) (λ x=>(8 - x.2.1).toNat) ?_ ⟨by simp,by simp,hc.2⟩ (by dsimp only; rw[y9]; omega)
 intro rec x hx acB;obtain⟨x1,x2,x3⟩:=hx;refine (zF (c.1,x.2.2.1.2) 8 ⟨hc.1,x3⟩).bind λ r1 h1 => ?_;have a1:=h1.2.2 (by decide);refine Ens.cond (λ h => ?_) λ h => ?_
 ·have h:x.2.1<r1.2.1:=by simpa using h
  refine (zF (c.1,r1.1.2) n ⟨hc.1,h1.1⟩).bind λ r2 h2 => ?_;have hl:=bu x.1 r2.2.1;rw[bP x.1 _ (by omega),alm,zg (n:=x.2.1+1) (by omega) (by omega)];exact acB _ ⟨⟨by dsimp only; omega,by dsimp only; omega⟩,by dsimp only; omega,h2.1⟩ (by dsimp only; omega)
 ·refine (YM (c.1,r1.1.2) 12 ⟨hc.1,h1.1⟩).bind λ r4 h4 => ?_;refine Ens.cond (λ _ => ?_) λ _=>Ens.some ⟨h4,by dsimp only; omega⟩
  refine (jJ (c.1,r4.1.2) _ ⟨hc.1,h4⟩ (by simp)).bind λ r5 h5 => ?_;refine Ens.ite (by simp only[alr,als]; omega) (Ens.some ⟨h5.1,?_⟩)
  simp only[alv,alr,als];omega
theorem ny (c:zL) (conf:za) (name:List UInt8) (hc:z6 c) (hN:conf.1<=8) (hn:zG name=true):
  Ens (qU (c,conf,name,())) λ r=>0<=r.1.2.1/\r.2.1.1=zo name/\r.2.1.2.1=name/\r.2.1.2.2.length<=8:=by
 have hl:=Zm hn;unfold qU;dsimp only;rw[Y5 name (by omega),alm];refine Ens.cond (λ _=>Ens.some ⟨hc.2,rfl,rfl,by simp⟩) λ _ => ?_;refine Ens.loop (λ x=>(0<=x.1/\x.1<=8)/\(x.2.1.2.2.length:Int)<=x.1/\x.2.1.1=zo name/\x.2.1.2.1=name) (λ x=>(9 - x.1).toNat) ?_ ⟨by simp,by simp,rfl,rfl⟩ (by dsimp only; rw[y9]; omega)
 intro rec x hx acB;obtain⟨x1,x2,x3,x4⟩:=hx;refine Ens.cond (λ h => ?_) λ h => ?_
 ·have h:x.1<conf.1:=by simpa using h
  refine Ens.ite (by simp only[alr,als]; omega) ?_
  rw[zg (n:=x.1+1) (by omega) (by omega)];exact acB _ ⟨⟨by dsimp only; omega,by dsimp only; omega⟩,by simp only[alv,alr,als]; omega,x3,x4⟩ (by dsimp only; omega)
 ·refine (YM c 2 hc).bind λ r2 h2 => ?_;refine Ens.cond (λ _ => ?_) λ _=>Ens.some ⟨h2,x3,x4,by dsimp only; omega⟩
  refine Ens.cond (λ h0 => ?_) λ _=>Ens.some ⟨h2,x3,x4,by dsimp only; omega⟩
  have h0:(x.2.1.2.2.length:Int)>0:=by simpa using h0
  refine (zF (c.1,r2.1.2) _ ⟨hc.1,h2⟩).bind λ r3 h3 => ?_;have a3:=h3.2.2 h0;have b3:=h3.2.1;have e1:wr (r3.2.1+1)=r3.2.1+1:=zg (by omega) (by omega);refine Ens.ite (by omega) ?_;refine Ens.ite (by simp only[alE,alF]; omega) ?_
  refine Ens.ite (by rw[e1]; omega) ?_
  refine Ens.ite (by simp only[alv,alE,alF,als]; omega) ?_
  refine Ens.some ⟨h3.1,x3,x4,?_⟩;rw[e1];simp only[alv,alE,alF,als];omega
theorem Bt {q:zJ} {name:List UInt8} (h1:q.2.1=name) (h2:q.2.2.length<=8) (hn:name.length<=1920):zi q<=1928:=by
 simp only[zi,zn,h1]; omega
theorem vS (c:zL) (conf:za) (hc:z6 c) (hN:conf.1<=8):Ens (cp (c,conf,())) λ r=>0<=r.1.2.1/\zD r.2.1<=4000:=by
 unfold cp;refine (ae c hc).bind λ r0 h0 => ?_;have hl:=Zm h0.2;have hv:=MT h0.2;refine (ny (c.1,r0.1.2) conf r0.2.1 ⟨hc.1,h0.1⟩ hN h0.2).bind λ r1 h1 => ?_;obtain⟨k1,k2,k3,k4⟩:=h1;have hw:=Bt k3 k4 hl;refine Ens.loop (λ y=>(0<=y.2.1/\y.2.1<=2)/\(y.1.length:Int)<=y.2.1/\0<=y.2.2.1.2.1) (λ y=>(3 - y.2.1).toNat) ?_ ⟨by simp,by simp,k1⟩ (by dsimp only; rw[y9]; omega)
 intro rec y hy acB;obtain⟨y1,y2,y3⟩:=hy;refine (zF (c.1,y.2.2.1.2) 3 ⟨hc.1,y3⟩).bind λ r3 h3 => ?_;have a3:=h3.2.2 (by decide);refine Ens.cond (λ h' => ?_) λ h' => ?_
 ·have h':y.2.1<r3.2.1:=by simpa using h'
  refine (L9 (c.1,r3.1.2) ⟨hc.1,h3.1⟩).bind λ r4 h4 => ?_;refine Ens.ite (by simp only[alr,als]; omega) ?_
  rw[zg (n:=y.2.1+1) (by omega) (by omega)];exact acB _ ⟨⟨by dsimp only; omega,by dsimp only; omega⟩,by simp only[alv,alr,als]; omega,h4.1⟩ (by dsimp only; omega)
 ·refine (zF (c.1,r3.1.2) 4 ⟨hc.1,h3.1⟩).bind λ r5 h5 => ?_;have a5:=h5.2.2 (by decide);have b5:=Ee h5.2.1 a5;have e1:wr (r1.2.1.1+1)=r1.2.1.1+1:=zg (by omega) (by omega);have e2:wr (Int.tdiv r5.2.1 3)=Int.tdiv r5.2.1 3:=zg (by omega) (by omega);have e3:wr (r1.2.1.1+1+Int.tdiv r5.2.1 3)=r1.2.1.1+1+Int.tdiv r5.2.1 3:=zg (by omega) (by omega);have hb:=tR conf r1.2.1 (r1.2.1.1+1+Int.tdiv r5.2.1 3) y.1 (by omega);rw[e1,e2,e3,rZ conf r1.2.1 _ y.1 (by omega) (by omega) (by omega),alm];exact Ens.some ⟨h5.1,by dsimp only; omega⟩
theorem nZ {G:(Int×zL×zM×Unit->Option (zL×zM×Unit))->Int×zL×zM×Unit->Option (zL×zM×Unit)} (b:List UInt8) (n:Int) (hb:b.length<=big) (nm:List UInt8) (p:zM) (i h:Int) (hi:0<=i) (hp:p.2.1=nm) (hp2:p.2.2=[])
  (hG:∀ rec x,G rec x=(zk ((b,x.2.1.2),7,())).bind λ r5=>bif decide (x.1<wr (1+r5.2.1)) then (y6 (n,4,())).bind λ r6=>(zk ((b,r5.1.2),r6.1,())).bind λ r7=>(Ye (x.2.2.1.2.2,r7.2.1,())).bind λ r8=>rec (wr (x.1+1),(b,r7.1.2),(x.2.2.1.1,x.2.2.1.2.1,r8.1),()) else some ((b,r5.1.2),x.2.2.1,())):
  Ens (iter G fuel (0,(b,i,h),p,())) λ r=>0<=r.1.2.1/\r.2.1.2.1=nm/\r.2.1.2.2.length<=7:=by
 refine Ens.loop (λ x=>(0<=x.1/\x.1<=7)/\0<=x.2.1.2.1/\x.2.2.1.2.1=nm/\(x.2.2.1.2.2.length:Int)<=x.1) (λ x=>(8 - x.1).toNat) ?_ ⟨by simp,hi,hp,by simp[hp2]⟩ (by dsimp only; rw[y9]; omega)
 intro rec x hx acB;obtain⟨x1,x2,x3,x4⟩:=hx;rw[hG];refine (zF (b,x.2.1.2) 7 ⟨hb,x2⟩).bind λ r5 h5 => ?_;have a5:=h5.2.2 (by decide);have b5:=h5.2.1;rw[zg (n:=1+r5.2.1) (by omega) (by omega)];refine Ens.cond (λ h => ?_) λ h=>Ens.some ⟨h5.1,x3,by dsimp only; omega⟩
 have h:x.1<1+r5.2.1:=by simpa using h
 rw[MM,alm];refine (zF (b,r5.1.2) _ ⟨hb,h5.1⟩).bind λ r7 h7 => ?_;have hl:=bu x.2.2.1.2.2 r7.2.1;rw[bP _ _ (by omega),alm,zg (n:=x.1+1) (by omega) (by omega)];exact acB _ ⟨⟨by dsimp only; omega,by dsimp only; omega⟩,h7.1,x3,by dsimp only; omega⟩ (by dsimp only; omega)
theorem nh (c:zL) (conf:za) (hc:z6 c):Ens (qK (c,conf,())) λ r=>0<=r.1.2.1/\zG r.2.1.2.1=true/\r.2.1.2.2.length<=7:=by
 unfold qK;refine (ae c hc).bind λ r0 h0 => ?_;have hl:=Zm h0.2;dsimp only;rw[Y5 r0.2.1 (by omega),alm];refine (YM (c.1,r0.1.2) 4 ⟨hc.1,h0.1⟩).bind λ r2 h2 => ?_;refine Ens.cond (λ _ => ?_) λ _ => ?_
 ·refine (zF (c.1,r2.1.2) 4 ⟨hc.1,h2⟩).bind λ r3 h3 => ?_;refine (nZ c.1 conf.1 hc.1 [] _ r3.1.2.1 r3.1.2.2 h3.1 rfl rfl (λ _ _=>rfl)).mono λ r hr=>⟨hr.1,by rw[hr.2.1]; exact aj,hr.2.2⟩
 ·refine Ens.cond (λ _ => ?_) λ _ => ?_
  ·refine (zF (c.1,r2.1.2) 4 ⟨hc.1,h2⟩).bind λ r3 h3 => ?_;refine (nZ c.1 conf.1 hc.1 [] _ r3.1.2.1 r3.1.2.2 h3.1 rfl rfl (λ _ _=>rfl)).mono λ r hr=>⟨hr.1,by rw[hr.2.1]; exact aj,hr.2.2⟩
  ·refine (nZ c.1 conf.1 hc.1 r0.2.1 _ r2.1.2.1 r2.1.2.2 h2 rfl rfl (λ _ _=>rfl)).mono λ r hr=>⟨hr.1,by rw[hr.2.1]; exact h0.2,hr.2.2⟩
theorem TG (c:zL) (l:List (List UInt8)) (hc:z6 c) (hl:0<l.length):Ens (kN (c,l,())) λ r=>0<=r.1.2.1/\r.2.1∈l:=by
 unfold kN;refine (zF c _ hc).bind λ r hr => ?_;have h:r.2.1<(l.length:Int):=hr.2.2 (show (0:Int)<(l.length:Int) by omega);have h0:0<=r.2.1:=hr.2.1;refine Ens.ite ⟨h0,h⟩ (Ens.some ⟨hr.1,BB (e:=.str) ?_⟩);show r.2.1.toNat<l.length;omega
theorem T4 (c:zL) (s:List UInt8) (hc:z6 c) (hs:s.length<=100000):Ens (lg (c,s,())) λ r=>0<=r.1.2.1/\r.2.1.length<=s.length+1:=by
 unfold lg;dsimp only;have e0:wr ((s.length:Int)+1)=(s.length:Int)+1:=zg (by omega) (by omega);rw[e0];refine (zF c _ hc).bind λ r0 h0 => ?_;have a0:=h0.2.2 (by omega);have b0:=h0.2.1;refine (zF (c.1,r0.1.2) 5 ⟨hc.1,h0.1⟩).bind λ r1 h1 => ?_;refine Ens.cond (λ _ => ?_) λ _ => ?_
 ·refine Ens.ite (by omega) (Ens.some ⟨h1.1,?_⟩);simp only[alE,alF];omega
 ·refine Ens.cond (λ _ => ?_) λ _=>Ens.some ⟨h1.1,by dsimp only; omega⟩
  refine Ens.ite (by omega) ?_;refine (TG (c.1,r1.1.2) _ ⟨hc.1,h1.1⟩ (by simp)).bind λ r2 h2 => ?_;have hp:r2.2.1.length=1:=by
   have:=h2.2;simp only[alH,amd,or_false] at this;rcases this with h|h|h|h|h|h|h<;>rw[h]<;>rfl
  refine Ens.ite (by simp only[alE,alF]; omega) ?_
  refine Ens.ite (by omega) ?_;refine Ens.ite (by simp only[alv,alE,alF]; omega) (Ens.some ⟨h2.1,?_⟩)
  simp only[alv,alE,alF];omega
theorem nw (c:zL) (hc:z6 c):Ens (qT (c,())) λ r=>0<=r.1.2.1/\r.2.1.length<=1930:=by
 unfold qT;refine (YM c 20 hc).bind λ r0 h0 => ?_;refine Ens.cond (λ _ => ?_) λ _ => ?_
 ·refine Ens.loop (λ x=>(1<=x.2.1/\x.2.1<=32)/\(x.1.length:Int)<=8*x.2.1/\0<=x.2.2.1.2.1) (λ x=>(33 - x.2.1).toNat) ?_ ⟨by simp,by simp,h0⟩ (by dsimp only; rw[y9]; omega)
  intro rec x hx acB;obtain⟨x1,x2,x3⟩:=hx;refine (zF (c.1,x.2.2.1.2) 2 ⟨hc.1,x3⟩).bind λ r2 h2 => ?_;have a2:=h2.2.2 (by decide);have b2:=h2.2.1;rw[zg (n:=30+r2.2.1) (by omega) (by omega)];refine Ens.cond (λ h => ?_) λ h=>Ens.some ⟨h2.1,by dsimp only; omega⟩
  have h:x.2.1<=30+r2.2.1:=by simpa using h
  refine Ens.ite (by simp only[alr,als]; omega) ?_
  obtain⟨u,hu⟩:∃ u:Nat,x.2.1=(u:Int):=⟨x.2.1.toNat,by omega⟩
  have hd:=dl u (by omega);rw[hu,Mv u (by omega),alm];refine Ens.ite (by simp only[alv,alr,als]; omega) ?_
  refine Ens.ite (by simp only[alv,alr,als]; omega) ?_
  rw[←hu,zg (n:=x.2.1+1) (by omega) (by omega)];exact acB _ ⟨⟨by dsimp only; omega,by dsimp only; omega⟩,by simp only[alv,alr,als]; omega,h2.1⟩ (by dsimp only; omega)
 ·refine (ae (c.1,r0.1.2) ⟨hc.1,h0⟩).bind λ r4 h4 => ?_;have hl:=Zm h4.2;exact (T4 (c.1,r4.1.2) r4.2.1 ⟨hc.1,h4.1⟩ (by omega)).bind λ r5 h5=>Ens.some ⟨h5.1,by have:=h5.2; dsimp only; omega⟩
theorem vK (c:zL) (conf:za) (hc:z6 c):Ens (bZ (c,conf,())) λ r=>0<=r.1.2.1/\r.2.1.2.1.length<=1930/\r.2.1.2.2.length<=8:=by
 unfold bZ;refine (nh c conf hc).bind λ r0 h0 => ?_;have hl:=Zm h0.2.1;have hw:=h0.2.2;refine (zF (c.1,r0.1.2) 10 ⟨hc.1,h0.1⟩).bind λ r1 h1 => ?_;refine Ens.cond (λ _ => ?_) λ _ => ?_
 ·exact (jJ (c.1,r1.1.2) _ ⟨hc.1,h1.1⟩ (by simp)).bind λ r2 h2=>Ens.some ⟨h2.1,by dsimp only; omega,by dsimp only; omega⟩
 refine Ens.cond (λ _ => ?_) λ _ => ?_
 ·exact (vQ (c.1,r1.1.2) 7 ⟨hc.1,h1.1⟩ (by decide)).bind λ r2 h2=>Ens.some ⟨h2.1,by dsimp only; omega,h2.2⟩
 refine Ens.cond (λ _ => ?_) λ _ => ?_
 ·exact (nw (c.1,r1.1.2) ⟨hc.1,h1.1⟩).bind λ r2 h2=>Ens.some ⟨h2.1,h2.2,by dsimp only; omega⟩
 exact Ens.some ⟨h1.1,by dsimp only; omega,by dsimp only; omega⟩
theorem Tx (c:zL) (conf:za) (hc:z6 c) (hN:conf.1<=8):Ens (kD (c,conf,())) λ r=>0<=r.1.2.1/\zj r.2.1<=4000:=by
 unfold kD;refine (zF c 4 hc).bind λ r0 h0 => ?_;refine Ens.cond (λ _ => ?_) λ _ => ?_
 ·refine (vS (c.1,r0.1.2) conf ⟨hc.1,h0.1⟩ hN).bind λ r1 h1=>Ens.some ⟨h1.1,?_⟩;have:=h1.2;simp only[zj,zm,zi,zn,als];omega
 refine Ens.cond (λ _ => ?_) λ _ => ?_
 ·refine (nh (c.1,r0.1.2) conf ⟨hc.1,h0.1⟩).bind λ r2 h2 => ?_;have hl:=Zm h2.2.1;have hw:=h2.2.2;refine Ens.cond (λ _ => ?_) λ _ => ?_
  ·have hn:=nP [] 1 [] (by decide);rw[bI [] 1 [] (by simp) (by decide) (by simp),Option.bind_some];refine Ens.some ⟨h2.1,?_⟩;simp only[zj,zm,zD,zi,zn,als] at hn ⊢;omega
  ·refine Ens.some ⟨h2.1,?_⟩;simp only[zj,zm,zD,zi,zn,als];omega
 refine Ens.cond (λ _ => ?_) λ _ => ?_
 ·refine (zF (c.1,r0.1.2) 6 ⟨hc.1,h0.1⟩).bind λ r4 h4 => ?_;refine (ae (c.1,r4.1.2) ⟨hc.1,h4.1⟩).bind λ r5 h5 => ?_;have hl:=Zm h5.2;refine (ny (c.1,r5.1.2) conf r5.2.1 ⟨hc.1,h5.1⟩ hN h5.2).bind λ r6 h6 => ?_;obtain⟨k1,k2,k3,k4⟩:=h6;have hw:=Bt k3 k4 hl;refine (zF (c.1,r6.1.2) _ ⟨hc.1,k1⟩).bind λ r7 h7=>Ens.some ⟨h7.1,?_⟩;simp only[zj,zm,zD,zn,als];simp only[zi,zn,als] at hw ⊢;omega
 ·exact (L9 (c.1,r0.1.2) ⟨hc.1,h0.1⟩).bind λ r8 h8=>Ens.some ⟨h8.1,by simp[zj,zm,zD,zi,zn]⟩
theorem Tz (c:zL) (conf:za) (hc:z6 c) (hN:conf.1<=8):Ens (kC (c,conf,())) λ r=>0<=r.1.2.1/\zj r.2.1<=8000:=by
 unfold kC;refine (Tx c conf hc hN).bind λ r0 h0 => ?_;have hw:=h0.2;refine (zF (c.1,r0.1.2) 12 ⟨hc.1,h0.1⟩).bind λ r1 h1 => ?_;refine Ens.cond (λ _ => ?_) λ _ => ?_
 ·exact (zF (c.1,r1.1.2) 7 ⟨hc.1,h1.1⟩).bind λ r2 h2=>Ens.some ⟨h2.1,by simp only[zj] at hw ⊢; omega⟩
 refine Ens.cond (λ _ => ?_) λ _ => ?_
 ·exact (jJ (c.1,r1.1.2) _ ⟨hc.1,h1.1⟩ (by simp)).bind λ r2 h2=>Ens.some ⟨h2.1,by simp only[zj] at hw ⊢; omega⟩
 refine Ens.cond (λ _ => ?_) λ _ => ?_
 ·exact (jJ (c.1,r1.1.2) _ ⟨hc.1,h1.1⟩ (by simp)).bind λ r2 h2=>Ens.some ⟨h2.1,by simp only[zj] at hw ⊢; omega⟩
 refine Ens.cond (λ _ => ?_) λ _ => ?_
 ·refine (vK (c.1,r1.1.2) conf ⟨hc.1,h1.1⟩).bind λ r2 h2=>Ens.some ⟨h2.1,?_⟩;have:=h2.2;simp only[zj,zm,zn] at hw ⊢;omega
 refine Ens.cond (λ _ => ?_) λ _ => ?_
 ·exact (vP (c.1,r1.1.2) ⟨hc.1,h1.1⟩).bind λ r2 h2=>Ens.some ⟨h2,by simp only[zj] at hw ⊢; omega⟩
 exact Ens.some ⟨h1.1,by dsimp only; omega⟩
theorem sQ {n:Nat} (h:n<256):(yy (n:Int)).toNat=n:=by
 rw[sP];have e:((n:Int) % 256).toNat=n:=by omega
 rw[e];simp[UInt8.toNat_ofNat'];omega
theorem Eh (b:UInt8):yy (b.toNat:Int)=b:=by
 apply UInt8.toNat_inj.1;exact sQ (UInt8.toNat_lt b)
theorem fN {n:Nat}:1<=(jM n).length:=by
 by_cases h:n>127
 ·rw[Lk h]; simp
 ·rw[Ky h]; simp
theorem uN:∀ (m n v k:Nat) (post:List UInt8),(jM n).length<=m->(k>0->n>0)->v+n*128 ^ k<=2147483647->jS (jM n++post) v k m=some (v+n*128 ^ k,k+(jM n).length)
 | 0,n,v,k,post,h,_,_=>by have:=fN (n:=n); omega
 | m+1,n,v,k,post,h,hk,hv=>by
  by_cases hn:n>127
  ·rw[Lk hn] at h ⊢;have hb:(yy ((n % 128+128:Nat):Int)).toNat=n % 128+128:=sQ (by omega);simp only[amj,jS,hb];rw[if_neg (by omega),show (n % 128+128) % 128=n % 128 by omega];have e:v+n % 128*128 ^ k+n / 128*128 ^ (k+1)=v+n*128 ^ k:=by
    rw[ame,←Nat.mul_assoc,Nat.mul_right_comm,aml,←am3];congr 2;omega
   rw[uN m (n / 128) _ (k+1) post (by simp at h; omega) (by omega) (by rw[e]; exact hv),e]
   simp;omega
  ·rw[Ky hn] at h ⊢;have hb:(yy (n:Int)).toNat=n:=sQ (by omega);simp only[amj,jS,hb,alL];rw[if_pos (by omega),if_neg (by omega)];simp
theorem uM:∀ (l:List UInt8) (v k m:Nat) {p:Nat×Nat},jS l v k m=some p->∃ n post,l=jM n++post/\p.1=v+n*128 ^ k/\p.2=k+(jM n).length/\(k>0->n>0)
 | [],v,k,m,p,h=>by rw[Qt] at h; cases h
 | b::l,v,k,0,p,h=>by cases h
 | b::l,v,k,m+1,p,h=>by
  simp only[jS] at h;split at h
  ·next hb=>
   split at h
   ·cases h
   ·next hc=>
    cases h;refine⟨b.toNat,l,?_,rfl,?_,?_⟩
    ·rw[Ky (by omega),Eh]; rfl
    ·rw[Ky (by omega)]; rfl
    ·intro hk;rcases Nat.eq_zero_or_pos b.toNat with h0|h0
     ·exact absurd (.inl ⟨hk,h0⟩) hc
     ·exact h0
  ·next hb=>
   obtain⟨n',post,e1,e2,e3,e4⟩:=uM l _ _ m h;have hn':=e4 (by omega);have hlt:=UInt8.toNat_lt b;have hn:n'*128+b.toNat % 128>127:=by omega
   have ed:(n'*128+b.toNat % 128) / 128=n':=by omega
   have em:(n'*128+b.toNat % 128) % 128+128=b.toNat:=by omega
   refine⟨n'*128+b.toNat % 128,post,?_,?_,?_,λ _=>by omega⟩
   ·rw[Lk hn,ed,em,Eh,e1]; rfl
   ·rw[e2,ame,am3,←Nat.mul_assoc,Nat.mul_right_comm n' (128 ^ k) 128];omega
   ·rw[Lk hn,ed,alr,e3]; omega
theorem aR {n:Nat} (h:n<=2147483647):zq (n:Int)=jM n:=by
 unfold zq;rw[if_pos (by omega)];rfl
theorem uP {s:List UInt8} {at_:Int} {n:Int} {post:List UInt8} (h0:0<=at_) (hn:0<=n/\n<=2147483647) (hs:s.drop at_.toNat=zq n++post):zh s at_=(n,at_+((zq n).length:Int),true):=by
 obtain⟨k,rfl⟩:=Int.eq_ofNat_of_zero_le hn.1;have hk:k<=2147483647:=by omega
 rw[aR hk] at hs ⊢;unfold zh;have hl:=aQ 5 k (by omega);rw[if_neg (by omega),hs,uN 5 k 0 0 post (by simpa using hl) (by omega) (by simpa using hk)];simp
theorem Se {s:List UInt8} {at_:Int} (h:(zh s at_).2.2=true):(zh s at_).2.1=at_+((zq (zh s at_).1).length:Int)/\s.drop at_.toNat=zq (zh s at_).1++s.drop (zh s at_).2.1.toNat:=by
 have hb:=JP s at_ h;unfold zh at h hb ⊢;split at h
 ·simp at h
 ·next ha=>
  rw[if_neg ha] at hb ⊢;cases hg:jS (s.drop at_.toNat) 0 0 5 with
  | none=>rw[hg] at h; simp at h
  | some p=>
   rw[hg] at hb;obtain⟨n,post,e1,e2,e3,_⟩:=uM _ _ _ _ hg;simp only[Nat.pow_zero,Nat.mul_one,amg] at e2 e3;simp only at hb ⊢;rw[e2,aR (by omega),e3];refine⟨rfl,?_⟩;have:(at_+((jM n).length:Int)).toNat=at_.toNat+(jM n).length:=by omega
   rw[this,←alY,e1];simp
def Rds (s:List UInt8) (r r':ye) (bs:List UInt8):Prop:=r.2=true/\0<=r.1/\r'=(r.1+(bs.length:Int),true)/\s.drop r.1.toNat=bs++s.drop r'.1.toNat
theorem Rds.all {s:List UInt8} {r':ye} {bs:List UInt8} (h:Rds s (0,true) r' bs) (hl:r'.1=(s.length:Int)):s=bs:=by
 obtain⟨_,_,_,h4⟩:=h;rw[hl] at h4;simpa using h4
theorem aW {s:List UInt8} {r:ye} {n:Int} {post:List UInt8} (hr:r.2=true) (h0:0<=r.1) (hn:0<=n/\n<=2147483647) (hs:s.drop r.1.toNat=zq n++post):zl s r=((r.1+((zq n).length:Int),true),n)/\s.drop (r.1+((zq n).length:Int)).toNat=post:=by
 unfold zl;rw[uP h0 hn hs,if_pos ⟨rfl,hr⟩];refine⟨rfl,?_⟩;have:(r.1+((zq n).length:Int)).toNat=r.1.toNat+(zq n).length:=by omega
 rw[this,←alY,hs];simp
theorem pG {s:List UInt8} {r:ye} {t post:List UInt8} (hr:r.2=true) (h0:0<=r.1) (ht:t.length<=2147483647) (hs:s.drop r.1.toNat=zX t++post):ya s r=((r.1+((zX t).length:Int),true),t)/\s.drop (r.1+((zX t).length:Int)).toNat=post:=by
 unfold zX at hs ⊢;rw[alW] at hs;have hg:=uP h0 (n:=(t.length:Int)) (by omega) hs;have e1:(r.1+((zq (t.length:Int)).length:Int)).toNat=r.1.toNat+(zq (t.length:Int)).length:=by omega
 have e2:s.drop (r.1+((zq (t.length:Int)).length:Int)).toNat=t++post:=by
  rw[e1,←alY,hs]; simp
 have hlen:r.1.toNat+(zq (t.length:Int)).length+t.length<=s.length:=by
  have:=congrArg List.length hs;simp only[alF,alv] at this;have:=fN (n:=t.length);rw[aR ht] at *;omega
 have hgt:zp s r.1=(t,r.1+((zq (t.length:Int)).length:Int)+(t.length:Int),true):=by
  unfold zp;rw[hg];simp only;rw[if_pos ⟨trivial,by omega⟩,e2];simp
 unfold ya;rw[hgt,if_pos ⟨rfl,hr⟩];simp only[alv];refine⟨by simp only[alw,and_true]; omega,?_⟩
 have e3:(r.1+(((zq (t.length:Int)).length+t.length:Nat):Int)).toNat=(r.1+((zq (t.length:Int)).length:Int)).toNat+t.length:=by omega
 rw[e3,←alY,e2];simp
theorem Vm {s:List UInt8} {r:ye} (h:(ya s r).1.2=true):Rds s r (ya s r).1 (zX (ya s r).2):=by
 have h1:=aX h;unfold ya at h h1 ⊢;split at h
 ·next hc=>
  rw[if_pos hc];have hg:=hc.1;unfold zp at hg ⊢;split at hg
  ·next hh=>
   rw[if_pos hh];have hok:=JP s r.1 hh.1;obtain⟨e1,e2⟩:=Se hh.1;have hle:=hh.2;have hl:((s.drop (zh s r.1).2.1.toNat).take (zh s r.1).1.toNat).length=(zh s r.1).1.toNat:=by
    simp only[alE,alF]; omega
   unfold zX;simp only;rw[hl,show (((zh s r.1).1.toNat:Nat):Int)=(zh s r.1).1 by omega];refine⟨hc.2,hok.1,?_,?_⟩
   ·rw[alv,hl];simp only[alw,and_true];omega
   ·rw[e2,alW];congr 1;have:((zh s r.1).2.1+(zh s r.1).1).toNat=(zh s r.1).2.1.toNat+(zh s r.1).1.toNat:=by omega
    rw[this,←alY,amL]
  ·simp at hg
 ·simp at h
theorem wy (x:Int) (l:List Int):nums (x::l)=zq x++nums l:=by unfold nums; simp
theorem ED {s:List UInt8}:∀ (l:List Int) (r:ye) (out:List Int) (post:List UInt8),r.2=true->0<=r.1->(∀ x∈l,0<=x/\x<=2147483647)->s.drop r.1.toNat=nums l++post->
  jy s l.length r out=((r.1+((nums l).length:Int),true),out++l)/\s.drop (r.1+((nums l).length:Int)).toNat=post
 | [],r,out,post,hr,h0,_,hs=>by
  obtain⟨a,b⟩:=r;simp only at hr;subst hr;refine⟨by simp[jy,nums],?_⟩;simpa[nums] using hs
 | x::l,r,out,post,hr,h0,hx,hs=>by
  rw[wy,alW] at hs;obtain⟨e1,e2⟩:=aW hr h0 (hx x (by simp)) hs;obtain⟨k1,k2⟩:=ED l (r.1+((zq x).length:Int),true) (out++[x]) post rfl (by simp only; omega) (λ y hy=>hx y (by simp[hy])) e2
  simp only[alr,jy];rw[if_pos hr,e1];simp only;have e3:r.1+((zq x).length:Int)+((nums l).length:Int)=r.1+((nums (x::l)).length:Int):=by rw[wy,alv]; omega
  rw[e3] at k1 k2;exact⟨by rw[k1]; simp,k2⟩
theorem Vn {s:List UInt8} {r:ye} {l:List Int} {post:List UInt8} (hr:r.2=true) (h0:0<=r.1) (hl:l.length<=2147483647) (hx:∀ x∈l,0<=x/\x<=2147483647) (hs:s.drop r.1.toNat=zq (l.length:Int)++(nums l++post)):
  jU s r=((r.1+(((zq (l.length:Int))++nums l).length:Int),true),l)/\s.drop (r.1+(((zq (l.length:Int))++nums l).length:Int)).toNat=post:=by
 obtain⟨e1,e2⟩:=aW hr h0 (n:=(l.length:Int)) (by omega) hs;unfold jU;rw[e1];simp only[aly];obtain⟨k1,k2⟩:=ED l (r.1+((zq (l.length:Int)).length:Int),true) [] post rfl (by simp only; omega) hx e2
 have e3:r.1+((zq (l.length:Int)).length:Int)+((nums l).length:Int)=r.1+(((zq (l.length:Int))++nums l).length:Int):=by rw[alv]; omega
 simp only at k1 k2;rw[e3] at k1 k2;exact⟨by rw[k1]; simp,k2⟩
noncomputable def JY (q:zJ):List UInt8:=zq q.1++(zX q.2.1++(zq (q.2.2.length:Int)++nums q.2.2))
theorem Vi {c:za} {q:zJ} (h:z8 c q=true):Js c q=JY q:=by
 unfold Js JY;rw[h];simp only[alo,alW]
theorem Vl {s:List UInt8} {r:ye} {q:zJ} {post:List UInt8} (hr:r.2=true) (h0:0<=r.1) (hv:0<=q.1/\q.1<=2147483647) (hn:q.2.1.length<=2147483647) (hl:q.2.2.length<=2147483647) (hx:∀ x∈q.2.2,0<=x/\x<=2147483647)
  (hs:s.drop r.1.toNat=JY q++post):yG s r=((r.1+((JY q).length:Int),true),q)/\s.drop (r.1+((JY q).length:Int)).toNat=post:=by
 unfold JY at hs ⊢;simp only[alW] at hs;obtain⟨a1,a2⟩:=aW hr h0 hv hs;obtain⟨b1,b2⟩:=pG (r:=(r.1+((zq q.1).length:Int),true)) rfl (by simp only; omega) hn a2
 obtain⟨d1,d2⟩:=Vn (r:=(r.1+((zq q.1).length:Int)+((zX q.2.1).length:Int),true)) rfl (by simp only; omega) hl hx b2
 unfold yG;rw[a1];simp only;rw[b1];simp only;rw[d1];simp only at d2;have e:r.1+((zq q.1).length:Int)+((zX q.2.1).length:Int)+(((zq (q.2.2.length:Int))++nums q.2.2).length:Int)=r.1+((zq q.1++(zX q.2.1++(zq (q.2.2.length:Int)++nums q.2.2))).length:Int):=by
  simp only[alv]; omega
 rw[e] at d2;rw[e];exact⟨rfl,d2⟩
theorem acb {c:za} {q:zJ} (h:z8 c q=true):(0<=q.1/\q.1<=2147483647)/\q.2.1.length<=2147483647/\q.2.2.length<=2147483647/\∀ x∈q.2.2,0<=x/\x<=2147483647:=by
 have hw:=aV h;unfold z8 at h;simp only[alp,alT] at h;obtain⟨h1,h2,h3,h4⟩:=h;have hc:=yi h1;have hv:=MT h2;simp only[zi,zn] at hw;refine⟨by omega,by omega,by omega,?_⟩;cases he:(q.2.1==([]:List UInt8))<;>rw[he] at h4
 ·simp only[aln,alp] at h4;intro x hx;have:=C9 h4.1 x hx;omega
 ·simp only[alo,alT] at h4;intro x hx;have:q.2.2=[]:=List.length_eq_zero_iff.1 (by omega);rw[this] at hx;cases hx
def Kp (c:za) (r r':zb):Prop:=ze c r'=true/\r'.1=r.1
theorem Kp.refl {c:za} {r:zb} (h:ze c r=true):Kp c r r:=⟨h,rfl⟩
theorem Kp.trans {c:za} {a b d:zb} (h1:Kp c a b) (h2:Kp c b d):Kp c a d:=⟨h2.1,h2.2.trans h1.2⟩
theorem ne {c:za} {r:zb} (h:ze c r=true) (to:Int) (m:zw):Kp c r (ZM c r to m).1:=by
 have e:=Ef to m h;cases hf:(ZM c r to m).2 with
 | true=>
  rw[e] at hf ⊢;exact sK hf
 | false=>
  unfold ZM at hf ⊢;cases hc:(!decide ((r.2.2.2.2.2.2.2.length:Int)≥30) && Z3 c r.1 (to,m))
  ·exact Kp.refl h
  ·rw[hc] at hf; cases hf
theorem aa {c:za} {r:zb} (h:ze c r=true) (s:zr):Kp c r (zv c r s).1/\(zv c r s).1.2.1=r.2.1:=by
 cases hf:(zv c r s).2 with
 | true=>obtain⟨a,b,d⟩:=ti h hf; exact⟨⟨a,b⟩,d⟩
 | false=>rw[EI hf]; exact⟨Kp.refl h,rfl⟩
theorem d9 {c:za} {r:zb} {v:Int} (h:ze c r=true) (hv:1<=v/\v<=60):Kp c r (yN r v):=⟨vu h hv,rfl⟩
theorem Tr {c:za} {r:zb} (h:ze c r=true) (q:zJ):Kp c r (top c r q).1:=by
 obtain⟨k1,k2⟩:=aa h (see c r.2.2.2.1 q);have hv:=N0 h;unfold top;cases (zv c r (see c r.2.2.2.1 q)).2
 ·exact Kp.refl h
 ·simp only[alt,aln];by_cases h60:q.1+1>60
  ·simp only[h60,alu,alo]; exact k1
  ·have k3:Kp c r (yN (zv c r (see c r.2.2.2.1 q)).1 (max (zv c r (see c r.2.2.2.1 q)).1.2.1 (q.1+1))):=k1.trans (d9 k1.1 (by rw[k2]; omega))
   simp only[h60,alx,aln];cases (je c (q.1+1)==r.1)
   ·exact k3.trans (ne k3.1 _ _)
   ·exact k3
theorem Tj {c:za} {r:zb} (h:ze c r=true) (v:Int) (name:List UInt8) (force:Bool):Kp c r (Jd c r v name force).1:=by
 unfold Jd;cases (((jF r.2.2.2.2.2.1 v name).2.2.length:Int)==0)
 ·cases (name==([]:List UInt8))
  ·simp only[aln];cases (je c v==r.1)
   ·simp only[aln];cases (!force && decide ((K3 (under c v r.1) (jF r.2.2.2.2.2.1 v name).2.2:Int)<((under c v r.1).length:Int)))
    ·exact ne h _ _
    ·exact Kp.refl h
   ·simp only[alo];cases (Jq c (jF r.2.2.2.2.2.1 v name)).2
    ·exact Kp.refl h
    ·exact Tr h _
  ·exact Kp.refl h
 ·exact Kp.refl h
theorem m9 {c:za} {r:zb} (h:ze c r=true) (v:Int) (name:List UInt8) (force:Bool):Kp c r (climb c r v name force).1:=by
 unfold climb;cases (ze c r && (Jd c r v name force).2)
 ·exact Kp.refl h
 ·exact Tj h v name force
theorem Q0 {c:za} {r:zb} {t:yg} (h:ze c r=true) (ht:jO c t=true):Kp c r (jz r t):=⟨lF h ht,rfl⟩
theorem Ts {c:za} {r0 w:zb} (h0:ze c r0=true) (h:ze c w=true) (e:w.1=r0.1) (name:List UInt8):Kp c r0 (voted c r0 w name).1:=by
 unfold voted;cases ht:(zW c w.2.2.2.2.2.1 (zo name,name,[w.1])).2
 ·exact Kp.refl h0
 ·have k:=Q0 (t:=(zW c w.2.2.2.2.2.1 (zo name,name,[w.1])).1) h (qW ht);have k2:=k.trans (m9 k.1 (zo name) name false);exact⟨k2.1,k2.2.trans e⟩
theorem vH {c:za} {r:zb} (h:ze c r=true) (b:jf):Kp c r (L2 c r b).1:=by
 unfold L2;rw[h];simp only[alt,aln];cases hbo:jX c b
 ·exact Kp.refl h
 ·simp only[alt,aln];have hn:zG b.1=true/\b.1≠[]:=by
   unfold jX at hbo;simp only[alp,bne_iff_ne,ne_eq] at hbo;exact⟨hbo.2.1,hbo.2.2.1⟩
  have hnv:=ak hn.1 hn.2;cases decide (zo b.1≥r.2.1)
  ·simp only[aln];obtain⟨k1,_⟩:=aa h (see c r.2.2.2.1 b.2);cases (zv c r (see c r.2.2.2.1 b.2)).2
   ·exact Kp.refl h
   ·exact k1
  ·simp only[alo];have ki:=d9 (v:=zo b.1) h hnv;obtain⟨k1,_⟩:=aa ki.1 (vote c (see c r.2.2.2.1 b.2) b);have k1:=ki.trans k1;cases (zv c (yN r (zo b.1)) (vote c (see c r.2.2.2.1 b.2) b)).2
   ·exact Kp.refl h
   ·simp only[alt,aln];cases Kl c (see c r.2.2.2.1 b.2) b
    ·exact k1
    ·exact Ts h k1.1 k1.2 b.1
theorem Tk {c:za} {r:zb} (h:ze c r=true) (p:zM):Kp c r (Nt c r p).1:=by
 unfold Nt;rw[h];simp only[alt,aln];cases jm c p
 ·exact Kp.refl h
 cases (p.2.1==([]:List UInt8))
 ·cases decide (p.1<r.2.1)
  ·simp only[alt,aln];cases ht:(zW c r.2.2.2.2.2.1 p).2
   ·exact Kp.refl h
   ·have k:=Q0 (t:=(zW c r.2.2.2.2.2.1 p).1) h (qW ht);exact k.trans (m9 k.1 p.1 p.2.1 false)
  ·exact Kp.refl h
 ·exact Kp.refl h
theorem Tn {c:za} {r:zb} (h:ze c r=true):Kp c r (late c r).1:=by
 have hv:=N0 h;unfold late;rw[h];simp only[alt,aln];by_cases h60:r.2.1≥60
 ·simp only[h60,alu,alo]; exact Kp.refl h
 ·have ki:=d9 (v:=r.2.1+1) h (by omega);simp only[h60,alx,aln];cases (je c (r.2.1+1)==r.1)
  ·simp only[aln];have k:=ki.trans (ne ki.1 (je c (r.2.1+1)) (3,r.2.1+1,([],0,[],[]),(0,[],[]),r.2.2.2.1.2.2.1,r.1,0,0,0,0));cases (ZM c (yN r (r.2.1+1)) (je c (r.2.1+1)) (3,r.2.1+1,([],0,[],[]),(0,[],[]),r.2.2.2.1.2.2.1,r.1,0,0,0,0)).2
   ·exact Kp.refl h
   ·exact k
  ·simp only[alo];cases ht:(zW c r.2.2.2.2.2.1 (r.2.1+1,[],[r.1])).2
   ·exact Kp.refl h
   ·exact ki.trans (Q0 ki.1 (qW ht))
theorem na {c:za} {r:zb} (hr:ze c r=true) (m:zw):∀ (n i:Nat) (out:zb),Kp c r out->Kp c r (JB c r m n i out).1
 | 0,_,out,h=>h
 | n+1,i,out,h=>by
  simp only[JB];cases ((i:Int)==r.1)
  ·simp only[aln];cases ht:(tell c out i m).2
   ·exact Kp.refl hr
   ·exact na hr m n (i+1) _ (h.trans (sK ht))
  ·exact na hr m n (i+1) out h
theorem Tq {c:za} {r:zb} (h:ze c r=true) (m:zw):Kp c r (LH c r m).1:=by
 unfold LH;rw[h];exact na h m _ 0 r (Kp.refl h)
theorem Vb {p:zE} {x:zN} (hp:jL p=true):jL (Yo p x).1=true:=by
 unfold Yo Kv;generalize jR (λ y => !jI y x) 0 p=k;cases h:jL (p.take k++x::p.drop k)
 ·exact hp
 ·exact h
theorem BF {c:za} {a v k:Int} {sf:zr} {p p':zE} {rest:yg×yJ×Zg} (h:ze c (a,v,k,sf,p,rest)=true) (hp:jL p'=true):ze c (a,v,k,sf,p',rest)=true:=by
 unfold ze at h ⊢;simp only[alp] at h ⊢;obtain⟨a1,a2,a3,a4,a5,a6,a7⟩:=h;exact⟨a1,a2,a3,a4,a5,hp,a7⟩
theorem Tl {c:za} {r:zb} (h:ze c r=true) (x:zN):Kp c r (Nu c r x).1:=by
 obtain⟨a,v,k,sf,p,rest⟩:=r;have hp:=(J0 h).2.2.2.2.2.1;unfold Nu;rw[h];exact⟨BF h (Vb hp),rfl⟩
theorem CV {c:za} (h:zC c=true):zU c jW=true:=by
 unfold zU jW z8;simp[h,aj,Ex]
theorem XY {c:za} {s:List UInt8} (h:(y5 c s).2=true):zU c (y5 c s).1=true:=by
 unfold y5 at h ⊢;cases hc:((yx s).1.2 && ((yx s).1.1==(s.length:Int) && zU c (yx s).2))
 ·rw[hc] at h; cases h
 ·simp only[alp] at hc;exact hc.2.2
theorem vX (c:za) (s:List UInt8):∀ (n at_:Nat) (old:zr),zU c old=true->zU c (jb c s n at_ old).1=true
 | 0,_,_,h=>h
 | n+1,at_,old,h=>by
  simp only[jb];cases hc:((zp s at_).2.2 && (decide ((zp s at_).2.1<(s.length:Int)) && (s.getD (zp s at_).2.1.toNat 0==10 && (y5 c (zp s at_).1).2)))
  ·exact h
  ·simp only[alp] at hc;exact vX c s n _ _ (XY hc.2.2.2)
theorem Ud {c:za} (h:zC c=true) (s:List UInt8):zU c (yY c s).1=true:=vX c s _ 0 jW (CV h)
theorem X0 {c:za} {s:zr} (h:zU c s=true):(0<=s.1/\s.1<=60)/\(0<=s.2.2.1.1/\s.2.2.1.1<=60):=by
 unfold zU at h;simp only[alp,alz] at h;refine⟨h.1,?_⟩;have hq:=h.2.2.1;unfold z8 at hq;simp only[alp,alT] at hq;have:=MT hq.2.1;omega
theorem ec {c:za} {r:zb} (h:ze c r=true):Kp c r (rise c r):=by
 obtain⟨h1,h2,h3,h4,h5,h6,h7,h8,h9,h10⟩:=J0 h;unfold rise;rw[h];simp only[alo];refine⟨?_,rfl⟩;have hs:=Ud h1 r.2.2.2.2.2.2.1.1;obtain⟨b1,b2,b3⟩:=NG c r.2.2.2.2.2.2.1.1;obtain⟨s1,s2⟩:=X0 hs;unfold yB at h8;simp only[alp,alz] at h8;unfold ze;simp only[alp,alz];have hv:1<=N3 (yY c r.2.2.2.2.2.2.1.1).1/\N3 (yY c r.2.2.2.2.2.2.1.1).1<=60:=by
  unfold N3;rw[zg (by omega) (by omega)];omega
 refine⟨h1,h2,hv,by omega,hs,rfl,rfl,?_,by simp,by simp⟩;unfold yB;simp only[alp,alz,alE];omega
theorem To {c:za} {r:zb} (h:ze c r=true):Kp c r (Zd c r).1:=by
 obtain⟨h1,h2,h3,h4,h5,h6,h7,h8,h9,h10⟩:=J0 h;unfold Zd;rw[h];simp only[alo];refine⟨?_,rfl⟩;unfold ze;simp only[alp,alz];refine⟨h1,h2,h3,h4,h5,h6,h7,?_,by simp,by simp⟩;unfold qV;rw[if_pos h8];unfold yB at h8 ⊢;simp only[alp,alz] at h8 ⊢;omega
noncomputable def cv (q:zJ) (w:zb) (v:Int):zb:=yN w (max v (min (q.1+1) 60))
noncomputable def Nv (c:za) (r:zb) (v:Int) (q:zJ) (who:Int):zb×Bool:=
 bif !ze c r then (r,false) else bif !(decide (v≥1) && decide (v<=60)) then (r,false) else bif !z8 c q then (r,false) else bif !(decide (who≥0) && decide (who<=wr (c.1 - 1))) then (r,false) else
 bif (zv c r (see c r.2.2.2.1 q)).2 then
  (bif je c v==r.1 then
   (bif decide (v≥r.2.1) then
    (bif !(zW c (zv c r (see c r.2.2.2.1 q)).1.2.2.2.2.2.1 (v,[],[who])).2 then (r,false) else
     bif decide (((jF (zW c (zv c r (see c r.2.2.2.1 q)).1.2.2.2.2.2.1 (v,[],[who])).1 v []).2.2.length:Int)≥Jt c) then
      (cv q (jz (zv c r (see c r.2.2.2.1 q)).1 (zW c (zv c r (see c r.2.2.2.1 q)).1.2.2.2.2.2.1 (v,[],[who])).1) (max (zv c r (see c r.2.2.2.1 q)).1.2.1 v),true)
     else (cv q (jz (zv c r (see c r.2.2.2.1 q)).1 (zW c (zv c r (see c r.2.2.2.1 q)).1.2.2.2.2.2.1 (v,[],[who])).1) (zv c r (see c r.2.2.2.1 q)).1.2.1,true))
    else (cv q (zv c r (see c r.2.2.2.1 q)).1 (zv c r (see c r.2.2.2.1 q)).1.2.1,true))
   else (cv q (zv c r (see c r.2.2.2.1 q)).1 (zv c r (see c r.2.2.2.1 q)).1.2.1,true))
 else (r,false)
theorem abI (a b:Int):yj (a,b,())=some (min a b,()):=by
 rw[nj];congr 2;split<;>omega
theorem ab6 (c:za) (r:zb) (v:Int) (q:zJ) (who:Int) (hr:zf r<=2000000) (hq:zi q<=2000000):gT (c,r,v,q,who,())=some ((Nv c r v q who).1,(Nv c r v q who).2,()):=by
 have hs:zt r.2.2.2.1<=2000000:=by simp only[zf] at hr; omega
 have aiC:=bp c r.2.2.2.1 q;have hww:=nY c r (see c r.2.2.2.1 q);have hwt:zI (zv c r (see c r.2.2.2.1 q)).1.2.2.2.2.2.1<=100000000:=by simp only[zf] at *; omega
 have hp:=ta v who [];simp only[als] at hp;have hta:=lr c (zv c r (see c r.2.2.2.1 q)).1.2.2.2.2.2.1 (v,[],[who]);unfold gT Nv;dsimp only;rw[Zw r (by omega),Option.bind_some,Zv c r (by omega),Option.bind_some,Yw,Option.bind_some,Lx c q (by omega),Option.bind_some,Yw,Option.bind_some,Option.bind_some,kg c r.2.2.2.1 q (by omega) (by omega),Option.bind_some,qO c r (see c r.2.2.2.1 q) (by omega) (by omega),Option.bind_some,MA,Option.bind_some,
  bS c (zv c r (see c r.2.2.2.1 q)).1.2.2.2.2.2.1 (v,[],[who]) hwt (by omega),Option.bind_some,su (zW c (zv c r (see c r.2.2.2.1 q)).1.2.2.2.2.2.1 (v,[],[who])).1 v [] (by omega),Option.bind_some,sn,Option.bind_some]
 cases hok:ze c r
 ·rfl
 cases (decide (v≥1) && decide (v<=60))
 ·rfl
 cases hqo:z8 c q
 ·rfl
 cases (decide (who≥0) && decide (who<=wr (c.1 - 1)))
 ·rfl
 have hqv:0<=q.1/\q.1<=60:=by
  unfold z8 at hqo;simp only[alp,alT] at hqo;have:=MT hqo.2.1;omega
 have e1:wr (q.1+1)=q.1+1:=zg (by omega) (by omega);simp only[alt,aln,e1,abI,MM,alm];cases (zv c r (see c r.2.2.2.1 q)).2
 ·rfl
 cases (je c v==r.1)
 ·rfl
 cases decide (v≥r.2.1)
 ·rfl
 cases (zW c (zv c r (see c r.2.2.2.1 q)).1.2.2.2.2.2.1 (v,[],[who])).2
 ·rfl
 cases decide (((jF (zW c (zv c r (see c r.2.2.2.1 q)).1.2.2.2.2.2.1 (v,[],[who])).1 v []).2.2.length:Int)≥Jt c)<;>rfl
theorem ng {c:za} {w:zb} {q:zJ} {v:Int} (h:ze c w=true) (hq:0<=q.1) (hv:1<=v/\v<=60):Kp c w (cv q w v):=d9 h (by omega)
theorem Tm {c:za} {r:zb} (h:ze c r=true) (v:Int) (q:zJ) (who:Int):Kp c r (Nv c r v q who).1:=by
 have hv:=N0 h;obtain⟨k1,k2⟩:=aa h (see c r.2.2.2.1 q);unfold Nv;rw[h];simp only[alt,aln];cases hvv:(decide (v≥1) && decide (v<=60))
 ·exact Kp.refl h
 simp only[alp,alz] at hvv;cases hqo:z8 c q
 ·exact Kp.refl h
 have hqv:0<=q.1/\q.1<=60:=by
  unfold z8 at hqo;simp only[alp,alT] at hqo;have:=MT hqo.2.1;omega
 cases (decide (who≥0) && decide (who<=wr (c.1 - 1)))
 ·exact Kp.refl h
 simp only[alt,aln];cases (zv c r (see c r.2.2.2.1 q)).2
 ·exact Kp.refl h
 simp only[alo];have kw:=k1.trans (ng (q:=q) (v:=(zv c r (see c r.2.2.2.1 q)).1.2.1) k1.1 hqv.1 (by rw[k2]; exact hv))
 cases (je c v==r.1)
 ·exact kw
 cases decide (v≥r.2.1)
 ·exact kw
 simp only[alo];cases ht:(zW c (zv c r (see c r.2.2.2.1 q)).1.2.2.2.2.2.1 (v,[],[who])).2
 ·exact Kp.refl h
 have kt:=k1.trans (Q0 k1.1 (qW ht));simp only[alt,aln];cases decide (((jF (zW c (zv c r (see c r.2.2.2.1 q)).1.2.2.2.2.2.1 (v,[],[who])).1 v []).2.2.length:Int)≥Jt c)
 ·exact kt.trans (ng kt.1 hqv.1 (by rw[k2]; exact hv))
 ·exact kt.trans (ng kt.1 hqv.1 (by rw[k2]; omega))
def Y6 (l:yg) (v:Int):yg:=l.filter λ p=>decide (p.1≥v)
noncomputable def NW (p:zE) (l:zO):zE:=p.filter λ x=>(pay l x).2 != 2
theorem uA {α:Type} (q:α->Bool) {l:List α} {i:Nat} (hi:i<l.length):(l.drop i).filter q=(if q l[i]=true then [l[i]] else [])++(l.drop (i+1)).filter q:=by
 rw[alJ hi,amV];split<;>rfl
theorem abr (l:yg) (v:Int) (hl:zI l<=137438953472):ko (l,v,())=some (Y6 l v,()):=by
 have hll:=Qb l;unfold ko Y6;dsimp only;refine (walk l.length (λ i (s:yg)=>(s,i,())) (λ i s=>s.length<=i) (λ i s=>some (s++(l.drop i).filter (λ p=>decide (p.1≥v)),())) (by omega) ?_ ?_ (s0:=[]) (Nat.le_refl _)).trans (by simp)
 ·intro rec s hs;simp
 ·intro rec i s hi hs;have hx:l[i]?=some l[i]:=List.getElem?_eq_getElem hi;have hw:zm l[i]<=137438953472:=MU hl hx;right;simp only[zz hi,decide_true,cond_true,and_self,if_true,Int.toNat_natCast,zu (e:=JF) hx,MG l[i] hw,Option.bind_some,zx (show i<4611686018427387904 by omega),uA (λ p:zM=>decide (p.1≥v)) hi];by_cases hq:l[i].1≥v
  ·simp only[hq,alu,alo,if_true];rw[if_pos (by simp only[alr,als]; omega)]
   exact⟨s++[l[i]],by simp only[alv,alr,als]; omega,rfl,by simp⟩
  ·simp only[hq,alx,aln,alM,if_false];exact⟨s,by omega,rfl,by simp⟩
theorem abg (p:zE) (l:zO) (hp:p.length<=137438953472) (h1:l.1.length<=137438953472) (h2:l.2.length<=137438953472):bK (p,l,())=some (NW p l,()):=by
 unfold bK NW;dsimp only;refine (walk p.length (λ i (s:zE)=>(s,i,())) (λ i s=>s.length<=i) (λ i s=>some (s++(p.drop i).filter (λ x=>(pay l x).2 != 2),())) (by omega) ?_ ?_ (s0:=[]) (Nat.le_refl _)).trans (by simp)
 ·intro rec s hs;simp
 ·intro rec i s hi hs;have hx:p[i]?=some p[i]:=List.getElem?_eq_getElem hi;right;simp only[zz hi,decide_true,cond_true,and_self,if_true,Int.toNat_natCast,zu (e:=Zz) hx,sb l p[i] h1 h2,Option.bind_some,zx (show i<4611686018427387904 by omega),uA (λ x:zN=>(pay l x).2 != 2) hi];cases hq:((pay l p[i]).2 != 2)
  ·simp only[aln,alM,if_false];exact⟨s,by omega,rfl,by simp⟩
  ·simp only[alo,if_true];rw[if_pos (by simp only[alr,als]; omega)]
   exact⟨s++[p[i]],by simp only[alv,alr,als]; omega,rfl,by simp⟩
theorem PS {α:Type} {ok:α->Bool} {lt:α->α->Bool} (ht:∀ a b d,lt a b=true->lt b d=true->lt a d=true):∀ {l:List α} {x y:α},yK ok lt (some y) l=true->lt x y=true->yK ok lt (some x) l=true
 | [],_,_,_,_=>rfl
 | z::l,x,y,h,hxy=>by
  simp only[yK,alp] at h ⊢;exact⟨h.1,ht _ _ _ hxy h.2.1,h.2.2⟩
theorem tZ {α:Type} {ok:α->Bool} {lt:α->α->Bool}:∀ {l:List α} {p:Option α},yK ok lt p l=true->yK ok lt none l=true
 | [],_,_=>rfl
 | z::l,p,h=>by
  simp only[yK,alp] at h ⊢;exact⟨h.1,trivial,h.2.2⟩
theorem tX {α:Type} {ok:α->Bool} {lt:α->α->Bool} (ht:∀ a b d,lt a b=true->lt b d=true->lt a d=true) (q:α->Bool):∀ {l:List α} {p:Option α},yK ok lt p l=true->yK ok lt p (l.filter q)=true
 | [],_,_=>rfl
 | z::l,p,h=>by
  simp only[yK,alp] at h;have ih:=tX ht q h.2.2;rw[amV];split
  ·simp only[yK,alp];exact⟨h.1,h.2.1,ih⟩
  ·cases p with
   | none=>exact tZ ih
   | some y=>exact PS ht ih h.2.1
theorem t7 {α:Type} {ok:α->Bool} {lt:α->α->Bool} (key:α->Int) (hk:∀ a b,lt a b=true->key a<=key b) (v:Int):∀ {l:List α} {p:Option α},yK ok lt p l=true->(∃ y,p=some y/\key y≥v)->l.filter (λ x=>decide (key x≥v))=l
 | [],_,_,_=>rfl
 | z::l,p,h,hp=>by
  obtain⟨y,rfl,hy⟩:=hp;simp only[yK,alp] at h;have:=hk _ _ h.2.1;have hz:key z≥v:=by omega
  rw[amV,if_pos (by simpa using hz),t7 key hk v h.2.2 ⟨z,rfl,hz⟩]
theorem tW {α:Type} {ok:α->Bool} {lt:α->α->Bool} (key:α->Int) (hk:∀ a b,lt a b=true->key a<=key b) (v:Int):∀ {l:List α} {p:Option α},yK ok lt p l=true->yK ok lt none (l.filter (λ x=>decide (key x≥v)))=true
 | [],_,_=>rfl
 | z::l,p,h=>by
  have h':=h;simp only[yK,alp] at h;rw[amV];split
  ·next hz=>
   have hz:key z≥v:=by simpa using hz
   rw[t7 key hk v h.2.2 ⟨z,rfl,hz⟩];exact tZ h'
  ·exact tW key hk v h.2.2
theorem PA (a b:zM) (h:Z0 a b=true):a.1<=b.1:=by
 unfold Z0 at h;simp only[am9,alp,alz,alT] at h;omega
theorem Eb {c:za} {l:yg} (h:jO c l=true) (v:Int):jO c (Y6 l v)=true:=by
 unfold jO Y6 at *;simp only[alp,alz] at h ⊢;have hl:=List.length_filter_le (λ p:zM=>decide (p.1≥v)) l;exact⟨tW (λ p:zM=>p.1) PA v h.1,by omega⟩
theorem PB (a b d:zN) (h1:jI a b=true) (h2:jI b d=true):jI a d=true:=by
 unfold jI at *;simp only[am9,alp,alz,alT] at *;omega
theorem Vc {p:zE} (h:jL p=true) (l:zO):jL (NW p l)=true:=by
 unfold jL NW at *;simp only[alp,alz] at h ⊢;have hl:=List.length_filter_le (λ x=>(pay l x).2 != 2) p;exact⟨tX PB _ h.1,by omega⟩
noncomputable def yM (c:za) (r:zb) (m:zw):zb×Bool:=
 bif m.1==1 then L2 c r m.2.2.1 else bif m.1==2 then Nt c r m.2.2.2.1 else bif m.1==3 then Nv c r m.2.1 m.2.2.2.2.1 m.2.2.2.2.2.1 else Nu c r m.2.2.2.2.2.2
noncomputable def swept (c:za) (r:zb):zb:=
 (r.1,r.2.1,r.2.2.1,r.2.2.2.1,NW r.2.2.2.2.1 (state c (jz r (Y6 r.2.2.2.2.2.1 (r.2.1 - 1)))),Y6 r.2.2.2.2.2.1 (r.2.1 - 1),r.2.2.2.2.2.2)
noncomputable def L3 (c:za) (r:zb) (m:zw):zb×Bool:=
 bif !ze c r then (r,false) else bif !yO c m then (r,false) else bif !(yM c r m).2 then (r,false) else (swept c (yM c r m).1,true)
theorem vI {c:za} {r:zb} (h:ze c r=true) (m:zw):Kp c r (yM c r m).1:=by
 unfold yM;cases (m.1==1)
 ·cases (m.1==2)
  ·cases (m.1==3)
   ·exact Tl h _
   ·exact Tm h _ _ _
  ·exact Tk h _
 ·exact vH h _
theorem Tp {c:za} {r:zb} (h:ze c r=true):Kp c r (swept c r):=by
 obtain⟨h1,h2,h3,h4,h5,h6,h7,h8,h9,h10⟩:=J0 h;have k:=lF h (Eb h7 (r.2.1 - 1));unfold swept;generalize state c (jz r (Y6 r.2.2.2.2.2.1 (r.2.1 - 1)))=l;exact⟨BF (p:=r.2.2.2.2.1) k (Vc h6 l),rfl⟩
theorem vJ {c:za} {r:zb} (h:ze c r=true) (m:zw):Kp c r (L3 c r m).1:=by
 have k:=vI h m;unfold L3;rw[h];simp only[alt,aln];cases yO c m
 ·exact Kp.refl h
 ·simp only[alt,aln];cases (yM c r m).2
  ·exact Kp.refl h
  ·exact k.trans (Tp k.1)
theorem abD {c:za} {r:zb} {m:zw} (hr:ze c r=true) (hm:yO c m=true):kJ (c,r,m,())=some ((yM c r m).1,(yM c r m).2,()):=by
 have hw:=KB hr;have hmw:=eH hm;have w1:zD m.2.2.1<=3847:=by simp only[zj] at hmw; omega
 have w2:zm m.2.2.2.1<=3847:=by simp only[zj] at hmw; omega
 have w3:zi m.2.2.2.2.1<=3847:=by simp only[zj] at hmw; omega
 unfold kJ yM;dsimp only;rw[Dx c r m.2.2.1 (by omega),ab4 c r m.2.2.2.1 (by omega) (by omega),ab6 c r m.2.1 m.2.2.2.2.1 m.2.2.2.2.2.1 (by omega) (by omega),ab5 c r m.2.2.2.2.2.2 (by omega)];cases (m.1==1)<;>cases (m.1==2)<;>cases (m.1==3)<;>rfl
theorem Dy (c:za) (r:zb) (m:zw) (hr:zf r<=137438953472) (hm:zj m<=137438953472):KE (c,r,m,())=some ((L3 c r m).1,(L3 c r m).2,()):=by
 unfold KE L3;dsimp only;rw[Zv c r hr,alm,Zw r hr,qp c m hm,alm,alm];cases hok:ze c r
 ·rfl
 cases hmo:yO c m
 ·rfl
 simp only[alt,aln];rw[abD hok hmo,alm];dsimp only;cases (yM c r m).2
 ·rfl
 have k:=(vI hok m).1;obtain⟨h1,h2,h3,h4,h5,h6,h7,h8,h9,h10⟩:=J0 k;have hw:=KB k;have hkt:=Q0 k (Eb h7 ((yM c r m).1.2.1 - 1));have hw2:=KB hkt.1;have hsw:=D5 c (jz (yM c r m).1 (Y6 (yM c r m).1.2.2.2.2.2.1 ((yM c r m).1.2.1 - 1)));have ht:=Ec h7;simp only[cw,zn] at hsw;have hpl:(yM c r m).1.2.2.2.2.1.length<=260000:=by simp only[zf,Y7] at hw; omega
 simp only[alt,aln];rw[zg (n:=(yM c r m).1.2.1 - 1) (by omega) (by omega),abr _ _ (by omega),alm];dsimp only;have es:qD (c,jz (yM c r m).1 (Y6 (yM c r m).1.2.2.2.2.2.1 ((yM c r m).1.2.1 - 1)),())=some (state c (jz (yM c r m).1 (Y6 (yM c r m).1.2.2.2.2.2.1 ((yM c r m).1.2.1 - 1))),()):=DK c _ (by omega);have ep:bK ((yM c r m).1.2.2.2.2.1,state c (jz (yM c r m).1 (Y6 (yM c r m).1.2.2.2.2.2.1 ((yM c r m).1.2.1 - 1))),())=some (NW (yM c r m).1.2.2.2.2.1 (state c (jz (yM c r m).1 (Y6 (yM c r m).1.2.2.2.2.2.1 ((yM c r m).1.2.1 - 1)))),()):=abg _ _ (by omega) (by omega) (by omega);unfold jz at es ep;rw[es,alm,ep,alm];rfl
theorem nR {c:za} {i:Int} (h:zC c=true) (h0:0<=i) (h1:i<c.1):ze c (Yk i)=true:=by
 unfold ze Yk;simp only[h,CV h,jL,jO,yK,yB,als,List.all_nil,Bool.and_true,alI,alp,alz];omega
theorem uZ {α:Type} (p:Nat->α->Bool):∀ (l:List α) (k:Nat),Zi p k l=true↔∀ i (h:i<l.length),p (k+i) l[i]=true
 | [],k=>by simp[Zi]
 | x::l,k=>by
  unfold Zi;simp only[alp,uZ p l (k+1)];constructor
  ·rintro⟨a,b⟩ i h;cases i with
   | zero=>exact a
   | succ i=>have:=b i (by simpa using h); simp only[anI]; rw[show k+(i+1)=k+1+i by omega]; exact this
  ·intro hh;refine⟨hh 0 (by simp),λ i h => ?_⟩;have:=hh (i+1) (by simpa using h);simp only[anI] at this;rw[show k+1+i=k+(i+1) by omega]; exact this
theorem Vq {c:za} {i:Int} (h:zC c=true) (h0:0<=i) (h1:i<c.1):Yr c i=(Yk i,true):=by
 unfold Yr;rw[nR h h0 h1]; rfl
structure WI (w:zB):Prop where
 conf:zC w.1=true
 liars:w.2.1.length<=7/\∀ x∈w.2.1,0<=x/\x<w.1.1
 len:(w.2.2.1.length:Int)=w.1.1
 reps:∀ i (h:i<w.2.2.1.length),ze w.1 w.2.2.1[i]=true/\(w.2.2.1[i]).1=(i:Int)
 net:w.2.2.2.1.length<=60/\∀ x∈w.2.2.2.1,(0<=x.1/\x.1<w.1.1)/\x.2.length<=1000000
 said:w.2.2.2.2.length<=300/\∀ s∈w.2.2.2.2,(zG s.2.1=true/\zo s.2.1=s.1)/\(0<=s.2.2/\s.2.2<w.1.1)
theorem eK {c:za} (h:zC c=true):Kq c=(List.range c.1.toNat).map (λ (i:Nat)=>Yk (i:Int)):=by
 have hb:=yi h;unfold Kq;rw[if_pos h];refine List.map_congr_left λ i hi => ?_;have:=List.mem_range.1 hi;rw[Vq h (by omega) (by omega)]
theorem UL {c:za} {liars:jg} (h:zC c=true) (hl:liars.length<=7) (hm:∀ x∈liars,0<=x/\x<c.1):WI (jd c liars):=by
 have hb:=yi h;refine⟨h,⟨hl,hm⟩,?_,?_,⟨by simp[jd],by simp[jd]⟩,⟨by simp[jd],by simp[jd]⟩⟩
 ·simp only[jd,eK h,amc,amZ]; omega
 ·intro i hi;simp only[jd,eK h,amc,amZ] at hi;simp only[jd,eK h,List.getElem_map,List.getElem_range];exact⟨nR h (by omega) (by omega),rfl⟩
theorem WI.setRep {c:za} {l:jg} {reps:YC} {rest:jB×yW} (h:WI (c,l,reps,rest)) {i:Nat} (hi:i<reps.length) {r:zb} (k:Kp c reps[i] r):WI (c,l,reps.set i r,rest):=by
 obtain⟨h1,h2,h3,h4,h5,h6⟩:=h;refine⟨h1,h2,?_,?_,h5,h6⟩
 ·dsimp only at h3 ⊢;rw[amH]; exact h3
 ·intro j hj;dsimp only at hj h4 ⊢;rw[amH] at hj;rw[List.getElem_set];by_cases e:i=j
  ·subst e;rw[if_pos rfl];exact⟨k.1,k.2.trans (h4 i hi).2⟩
  ·rw[if_neg e];exact h4 j hj
def Step (w:zB) (o o':Option (zB×Int×Unit)):Prop:=
 (∃ w',o=some (w',0,())/\WI w'/\has o'=false)∨(∃ n:Int,n≠0/\o=some (w,n,())/\o'=some (w,n,()))
theorem Step.same {w:zB} {n:Int} (hn:n≠0):Step w (some (w,n,())) (some (w,n,())):=.inr ⟨n,hn,rfl,rfl⟩
theorem Step.next {w w':zB} {o':Option (zB×Int×Unit)} (h:WI w') (ho:has o'=false):Step w (some (w',0,())) o':=.inl ⟨w',rfl,h,ho⟩
theorem Step.wrap {w:zB} {o o':Option (zB×Int×Unit)} (h:Step w o o'):Step w (o.bind λ r=>some (r.1,r.2.1,())) (o'.bind λ r=>some (r.1,r.2.1,())):=by
 rcases h with⟨w',rfl,h,k⟩|⟨n,hn,rfl,rfl⟩
 ·refine .inl ⟨w',rfl,h,?_⟩;cases o' with
  | none=>rfl
  | some r=>exact k
 ·exact .inr ⟨n,hn,rfl,rfl⟩
theorem WI.rep {c:za} {l:jg} {reps:YC} {rest:jB×yW} (h:WI (c,l,reps,rest)) {i:Int} (h0:0<=i) (h1:i<(reps.length:Int)):∃ r,reps[i.toNat]?=some r/\ze c r=true/\zf r<=260000/\∀ r',Kp c r r'->WI (c,l,reps.set i.toNat r',rest):=by
 have hi:i.toNat<reps.length:=by omega
 have k:=(h.reps i.toNat hi).1;exact⟨reps[i.toNat],List.getElem?_eq_getElem hi,k,KB k,λ r' kk=>h.setRep hi kk⟩
theorem m8 {c:za} {r:zb} (h:ze c r=true):Kp c r (r.1,r.2.1,r.2.1,r.2.2.2):=by
 refine⟨?_,rfl⟩;unfold ze at h ⊢;simp only[alp,alz] at h ⊢;exact⟨h.1,h.2.1,h.2.2.1,⟨by have:=h.2.2.1; omega,by have:=h.2.2.1; omega⟩,h.2.2.2.2⟩
theorem TH {w:zB} (h:WI w) (i:Int) (h0:0<=i) (h1:i<(w.2.2.1.length:Int)):Step w (kO (w,i,())) (kP (w,i,())):=by
 obtain⟨c,l,reps,rest⟩:=w;obtain⟨r,hr,hok,hw,adh⟩:=h.rep h0 h1;have ha:=Pz c r;have kt:=(m8 hok).trans (Tq (m8 hok).1 (1,0,(ask c r).1,(0,[],[]),(0,[],[]),0,0,0,0,0));have hw2:=KB kt.1;have hw1:=KB (m8 hok).1;have kb:=kt.trans (vH kt.1 (ask c r).1);dsimp only at h1;unfold kO kP;simp only[h0,h1,alD,if_true,zu (e:=JG) hr,Dw c r (by omega),alm];cases (ask c r).2
 ·exact Step.same (show (_:Int)≠0 from by first|exact (by decide:(3:Int)≠0)|exact (by decide:(4:Int)≠0))
 have e1:=abs c (r.1,r.2.1,r.2.1,r.2.2.2) (1,0,(ask c r).1,(0,[],[]),(0,[],[]),0,0,0,0,0) (by omega) (by simp only[zj,zm,zi,zn,als]; omega)
 have e2:=Dx c (LH c (r.1,r.2.1,r.2.1,r.2.2.2) (1,0,(ask c r).1,(0,[],[]),(0,[],[]),0,0,0,0,0)).1 (ask c r).1 (by omega);simp only[alt,aln,Zw r (by omega),alm,e1,e2];cases (LH c (r.1,r.2.1,r.2.1,r.2.2.2) (1,0,(ask c r).1,(0,[],[]),(0,[],[]),0,0,0,0,0)).2
 ·exact Step.same (show (_:Int)≠0 from by first|exact (by decide:(3:Int)≠0)|exact (by decide:(4:Int)≠0))
 cases (L2 c (LH c (r.1,r.2.1,r.2.1,r.2.2.2) (1,0,(ask c r).1,(0,[],[]),(0,[],[]),0,0,0,0,0)).1 (ask c r).1).2
 ·exact Step.same (show (_:Int)≠0 from by first|exact (by decide:(3:Int)≠0)|exact (by decide:(4:Int)≠0))
 exact Step.next (adh _ kb) rfl
end G448
namespace G448
open Ev
def da (l:yW) (v:JJ):Bool:=l.any (λ x=>x.1==v.1 && (x.2.1==v.2.1 && x.2.2==v.2.2))
def Kj (acc:yW) (x:JJ):yW:=bif decide ((acc.length:Int)<300) && !da acc x then acc++[x] else acc
def ex (id:Int) (acc:yW) (p:J9):yW:=(YX id p.2).foldl Kj acc
def learn (w:zB) (id:Int) (sent:Zg):zB:=
 bif (Z5 w).any (· == id) then (w.1,w.2.1,w.2.2.1,w.2.2.2.1,sent.foldl (ex id) w.2.2.2.2) else w
theorem v8 (acc:yW) (x:JJ) (h:acc.length<=137438953472):(Kj acc x).length<=137438953472:=by
 unfold Kj;by_cases hc:(acc.length:Int)<300
 ·cases da acc x<;>simp[hc]<;>omega
 ·simp[hc]; omega
theorem Ui (id:Int) (p:J9) (acc:yW) (h:acc.length<=137438953472):(ex id acc p).length<=137438953472:=
 R8 (YX id p.2) Kj (λ _ s=>s.length<=137438953472) (λ _ s x _ _ hs=>v8 s x hs) h
theorem ab9 (w:zB) (id:Int) (sent:Zg) (hw:Yj w<=137438953472) (hs:yt sent<=137438953472):gV (w,id,sent,())=some (learn w id sent,()):=by
 have h1:w.2.1.length<=137438953472:=by simp only[Yj,zn] at hw; omega
 have h2:w.2.2.1.length<=137438953472:=by simp only[Yj,MV] at hw; omega
 have h3:w.2.2.2.2.length<=137438953472:=by simp only[Yj,LL] at hw; omega
 have h4:=Sp w;have hl:sent.length<=137438953472:=by simp only[yt] at hs; omega
 unfold gV learn;simp only[abF w hw,Dz w h1 h2,Yv (Z5 w) id (by omega),alm];cases (Z5 w).any (· == id)
 ·rfl
 simp only[alt,aln,alo];refine (Np (λ i (s:yW)=>(i,(w.1,w.2.1,w.2.2.1,w.2.2.2.1,s),())) sent (ex id) (λ s=>some ((w.1,w.2.1,w.2.2.1,w.2.2.2.1,s),())) (by omega) (λ _ s=>s.length<=137438953472) ?_ ?_ h3)
 ·intro rec s hs'; simp
 ·intro rec i s p hx hi hs';refine⟨Ui id p s hs',?_⟩;have hp:zj p.2<=137438953472:=by have:=ZX Yi (List.mem_of_getElem? hx); simp only[Yi] at this; unfold yt at hs; omega
  have hso:=X2 id p.2;have hsl:(YX id p.2).length<=137438953473:=by simp only[LL] at hso; omega
  simp only[aly,zz hi,alu,alo,if_true,alD,zu (e:=(.pair .i64 (.pair .i64 (.pair .i64 (.pair (.pair .str (.pair .i64 (.pair .str (.sl 0 .i64)))) (.pair (.pair .i64 (.pair .str (.sl 0 .i64))) (.pair (.pair .i64 (.pair .str (.sl 0 .i64))) (.pair .i64 (.pair .i64 (.pair .i64 (.pair .i64 .i64))))))))))) hx,
   abl id p.2 (MsgW.of (by omega)),alm,zx (show i<4611686018427387904 by omega)]
  refine Np (λ j (s:yW)=>(j,(w.1,w.2.1,w.2.2.1,w.2.2.2.1,s),())) (YX id p.2) Kj (λ s=>rec ((i:Int)+1,(w.1,w.2.1,w.2.2.1,w.2.2.2.1,s),())) (by omega) (λ _ s=>s.length<=137438953472) ?_ ?_ hs'
  ·intro rec2 t ht; simp
  ·intro rec2 j t x hy hj ht;refine⟨v8 t x ht,?_⟩;simp only[aly,zz hj,alu,alo,if_true,alD,zu (e:=(.pair .i64 (.pair .str .i64))) hy,DX t x.1 x.2.1 x.2.2 (by omega),alm,zx (show j<4611686018427387904 by omega),alr,als];unfold Kj da;by_cases hc:(t.length:Int)<300
   ·simp only[hc,alu,alo,alI];cases t.any (λ y=>y.1==x.1 && (y.2.1==x.2.1 && y.2.2==x.2.2))
    ·simp only[alP,alo];rw[if_pos (by omega)]
    ·rfl
   ·simp only[hc,alx,aln,ami]
end G448
namespace G448
open Ev Go
set_option maxRecDepth 100000
theorem Ug {c:za} {l:jg} {reps:YC} {rest:jB×yW} {i:Int} {r:zb} (hok:ze c r=true) (hw:zf r<=260000) (adh:∀ r',Kp c r r'->WI (c,l,reps.set i.toNat r',rest)):
  Step (c,l,reps,rest) ((Mw (c,r,())).bind λ r6=>bif !r6.2.1 then some ((c,l,reps,rest),3,()) else some ((c,l,reps.set i.toNat r6.1,rest),0,())) ((Mw (c,r,())).bind λ r6=>bif !r6.2.1 then some ((c,l,reps,rest),3,()) else none):=by
 rw[ab8 c r (by omega),alm,alm];dsimp only;cases (late c r).2
 ·exact Step.same (show (3:Int)≠0 by decide)
 ·exact Step.next (adh _ (Tn hok)) rfl
theorem R6 {c:za} {l:jg} {reps:YC} {rest:jB×yW} {i:Int} {r:zb} (keep:Int) (hok:ze c r=true) (hf:yB (K7 r.2.2.2.2.2.2.1 keep)=true) (adh:∀ r',Kp c r r'->WI (c,l,reps.set i.toNat r',rest)):
  WI (c,l,reps.set i.toNat (rise c (r.1,r.2.1,r.2.2.1,r.2.2.2.1,r.2.2.2.2.1,r.2.2.2.2.2.1,K7 r.2.2.2.2.2.2.1 keep,r.2.2.2.2.2.2.2)),rest):=by
 refine adh _ ?_;have h:ze c (r.1,r.2.1,r.2.2.1,r.2.2.2.1,r.2.2.2.2.1,r.2.2.2.2.2.1,K7 r.2.2.2.2.2.2.1 keep,r.2.2.2.2.2.2.2)=true:=by
  unfold ze at hok ⊢;simp only[alp] at hok ⊢;obtain⟨a1,a2,a3,a4,a5,a6,a7,a8,a9⟩:=hok;exact⟨a1,a2,a3,a4,a5,a6,a7,hf,a9⟩
 exact⟨(ec h).1,(ec h).2⟩
theorem Sm {c:za} {l:jg} {reps:YC} {rest:jB×yW} {i:Int} {r:zb} {m:zw} (hok:ze c r=true) (hw:zf r<=260000) (hm:zj m<=137438953472) (adh:∀ r',Kp c r r'->WI (c,l,reps.set i.toNat r',rest)):
  Step (c,l,reps,rest) ((KE (c,r,m,())).bind λ r7=>bif !r7.2.1 then some ((c,l,reps,rest),3,()) else bif m.1 != 4 then some ((c,l,reps,rest),3,()) else some ((c,l,reps.set i.toNat r7.1,rest),0,())) ((KE (c,r,m,())).bind λ r7=>bif !r7.2.1 then some ((c,l,reps,rest),3,()) else bif m.1 != 4 then some ((c,l,reps,rest),3,()) else none):=by
 rw[Dy c r m (by omega) hm,alm,alm];dsimp only;cases (L3 c r m).2
 ·exact Step.same (show (3:Int)≠0 by decide)
 cases (m.1 != 4)
 ·exact Step.next (adh _ (vJ hok m)) rfl
 ·exact Step.same (show (3:Int)≠0 by decide)
theorem R5 {d:yJ} (h:yB d=true) (keep:Int):yB (K7 d keep)=true:=by
 have hb:=uw h keep;have h':=K4.1 h;unfold K7;rw[if_pos h];refine K4.2 ?_;dsimp only;rw[alE];omega
theorem U3 {r:zb} (hw:zf r<=260000) {p:zM} (hp:p∈r.2.2.2.2.2.1):p.2.1.length<=260000:=by
 have h:=ZX zm hp;simp only[zf,zI] at hw;simp only[zm] at h;omega
theorem step_loop {w:zB} {G G':(Int×zB×zB×Unit->Option (zB×Int×Unit))->Int×zB×zB×Unit->Option (zB×Int×Unit)} {z:zB} (n0:Nat)
  (h0:∀ rec rec',Step w (G rec (-1,w,z,())) (G' rec' (-1,w,z,())))
  (hs:∀ rec rec' (j:Nat),j<n0->(Step w (rec ((j:Int) - 1,w,z,())) (rec' ((j:Int) - 1,w,z,())))->Step w (G rec ((j:Int),w,z,())) (G' rec' ((j:Int),w,z,()))):
  ∀ (n m:Nat),m<=n0->m<n->Step w (iter G n ((m:Int) - 1,w,z,())) (iter G' n ((m:Int) - 1,w,z,()))
 | 0,m,_,h=>by omega
 | n+1,0,_,_=>h0 _ _
 | n+1,m+1,hm,h=>by
  have e:(((m+1:Nat):Int) - 1)=(m:Int):=by omega
  rw[e];exact hs _ _ m (by omega) (step_loop n0 h0 hs n m (by omega) (by omega))
theorem TS {w:zB} (h:WI w) (i:Int) (h0:0<=i) (h1:i<(w.2.2.1.length:Int)):Step w (kZ (w,i,())) (lc (w,i,())):=by
 obtain⟨c,l,reps,rest⟩:=w;obtain⟨r,hr,hok,hw,adh⟩:=h.rep h0 h1;dsimp only at h1;have ht:(r.2.2.2.2.2.1.length:Int)<=260000:=by simp only[zf,zI] at hw; omega
 unfold kZ lc;simp only[h0,h1,alD,if_true,zu (e:=JG) hr];rw[zg (n:=(r.2.2.2.2.2.1.length:Int) - 1) (by omega) (by omega)];refine step_loop r.2.2.2.2.2.1.length ?_ ?_ fuel _ (Nat.le_refl _) (by rw[y9]; omega)
 ·intro rec rec';exact Step.same (show (3:Int)≠0 by decide)
 ·intro rec rec' j hj acB;have hx:=List.getElem?_eq_getElem hj;have hj':(j:Int)<(r.2.2.2.2.2.1.length:Int):=by omega
  have hn:=U3 hw (List.getElem_mem hj);simp only[zz,hj',Int.natCast_nonneg,ge_iff_le,alu,alo,alD,if_true,aly,zu (e:=JF) hx];cases ((r.2.2.2.2.2.1[j]).2.1==[])
  ·simp only[cond_false,aaY c r _ _ true (show zf r<=15000000 by omega) (show (r.2.2.2.2.2.1[j]).2.1.length<=5000000 by omega),Option.bind_some,h0,h1,and_self,if_true];cases (climb c r (r.2.2.2.2.2.1[j]).1 (r.2.2.2.2.2.1[j]).2.1 true).2
   ·exact Step.same (show (3:Int)≠0 by decide)
   ·exact Step.next (adh _ (m9 hok _ _ _)) rfl
  ·simp only[alo];rw[zg (n:=(j:Int) - 1) (by omega) (by omega)];exact acB
def M1 (n:Int) (l:yW):Prop:=l.length<=300/\∀ s∈l,(zG s.2.1=true/\zo s.2.1=s.1)/\(0<=s.2.2/\s.2.2<n)
theorem Uh {n:Int} {acc:yW} {x:JJ} (h:M1 n acc) (hx:(zG x.2.1=true/\zo x.2.1=x.1)/\(0<=x.2.2/\x.2.2<n)):M1 n (Kj acc x):=by
 unfold Kj;cases hc:decide ((acc.length:Int)<300) && !da acc x
 ·exact h
 ·simp only[alp,alz] at hc;refine⟨by simp only[alo,alv,alr,als]; omega,λ s hs => ?_⟩
  simp only[alo,alK,alH,amd,or_false] at hs;rcases hs with hs|rfl
  ·exact h.2 s hs
  ·exact hx
theorem X3 {id:Int} {m:zw}:∀ s∈YX id m,s.2.2=id:=by
 unfold YX;repeat' split
 all_goals simp
theorem pz {c:za} {q:zJ} (h:z8 c q=true):zG q.2.1=true/\zo q.2.1=q.1:=by
 unfold z8 at h;simp only[alp,alT] at h;exact⟨h.2.1,h.2.2.1⟩
theorem X4 {c:za} {m:zw} (hm:yO c m=true) (h4:¬ m.1=4) (h:¬ (YY m).2.1=[]):zG (YY m).2.1=true/\zo (YY m).2.1=(YY m).1:=by
 unfold yO at hm;unfold YY at h ⊢;simp only[alp] at hm;have k:=hm.2.2;clear hm;by_cases e2:m.1=2
 ·have e1:(m.1==1)=false:=by rw[e2]; rfl
  have e22:(m.1==2)=true:=by rw[e2]; rfl
  rw[e1,e22] at k;rw[if_pos e2] at h ⊢;simp only[alo,aln,alp,jm,am9,alT] at k;rcases k.1.2.2.2.2 with e|e
  ·exact absurd e h
  ·exact e
 by_cases e1:m.1=1
 ·have e11:(m.1==1)=true:=by rw[e1]; rfl
  rw[e11] at k;rw[if_neg e2,if_pos e1] at h ⊢;simp only[alo,jX,alp] at k;exact pz k.1
 rw[if_neg e2,if_neg e1] at h ⊢;have e11:(m.1==1)=false:=by simp[e1]
 have e22:(m.1==2)=false:=by simp[e2]
 have e44:(m.1==4)=false:=by simp[h4]
 rw[e11,e22,e44] at k;cases e33:(m.1==3)
 ·rw[e33] at k; simp at k
 ·rw[e33] at k;simp only[alo,aln,alp] at k;exact pz k.2.1
theorem X1 {c:za} {id:Int} {m:zw} (hm:yO c m=true):∀ s∈YX id m,zG s.2.1=true/\zo s.2.1=s.1:=by
 unfold YX;by_cases h4:m.1=4
 ·simp[h4]
 rw[if_neg h4];by_cases h:(YY m).2.1=[]
 ·simp[h]
 rw[if_neg h];have k:=X4 hm h4 h;split
 ·intro s hs;simp only[alH,amd,or_false] at hs;rw[hs]; exact k
 ·simp
theorem v7 {n:Int}:∀ (l:yW) {acc:yW},M1 n acc->(∀ x∈l,(zG x.2.1=true/\zo x.2.1=x.1)/\(0<=x.2.2/\x.2.2<n))->M1 n (l.foldl Kj acc)
 | [],_,h,_=>h
 | x::l,_,h,hl=>v7 l (Uh h (hl x (by simp))) λ y hy=>hl y (by simp[hy])
theorem wa {c:za} {n:Int} {id:Int} (hid:0<=id/\id<n):∀ (ps:Zg) {acc:yW},M1 n acc->(∀ p∈ps,yO c p.2=true)->M1 n (ps.foldl (ex id) acc)
 | [],_,h,_=>h
 | p::ps,_,h,hp=>by
  refine wa hid ps ?_ λ q hq=>hp q (by simp[hq]);refine v7 _ h λ x hx=>⟨X1 (hp p (by simp)) x hx,?_⟩
  rw[X3 x hx]; exact hid
theorem Uj {w:zB} (h:WI w) {id:Int} (hid:0<=id/\id<w.1.1) {ps:Zg} (hp:∀ p∈ps,yO w.1 p.2=true):WI (learn w id ps):=by
 unfold learn;cases (Z5 w).any (· == id)
 ·exact h
 ·exact⟨h.conf,h.liars,h.len,h.reps,h.net,wa hid ps h.said hp⟩
def JH (n:Int) (l:jB):Prop:=l.length<=60/\∀ x∈l,(0<=x.1/\x.1<n)/\x.2.length<=1000000
theorem aa4 {c:za} (hc:zC c=true) {ws:jB} {p:J9} (h:JH c.1 ws) (hp:zj p.2<=100000):JH c.1 (qe c ws p):=by
 have hb:=yi hc;have hl:=Uz c p.2;unfold qe;rw[zg (n:=c.1 - 1) (by omega) (by omega)];cases decide (((Kn c p.2).length:Int)>0)
 ·exact h
 cases hr:decide (p.1≥0) && decide (p.1<=c.1 - 1)
 ·exact h
 cases hs:decide ((ws.length:Int)<60)
 ·exact h
 simp only[alp,alz] at hr hs;refine⟨by simp only[alo,alv,alr,als]; omega,λ x hx => ?_⟩
 simp only[alo,alK,alH,amd,or_false] at hx;rcases hx with hx|rfl
 ·exact h.2 x hx
 ·exact⟨⟨by omega,by dsimp only; omega⟩,by dsimp only; omega⟩
theorem CZ {c:za} (hc:zC c=true):∀ (ps:Zg) {ws:jB},JH c.1 ws->(∀ p∈ps,zj p.2<=100000)->JH c.1 (bt c ws ps)
 | [],_,h,_=>h
 | p::ps,_,h,hp=>CZ hc ps (aa4 hc h (hp p (by simp))) λ q hq=>hp q (by simp[hq])
theorem C0 {w:zB} (h:WI w) {ps:Zg} (hp:∀ p∈ps,zj p.2<=100000):WI (w.1,w.2.1,w.2.2.1,bt w.1 w.2.2.2.1 ps,w.2.2.2.2):=
 ⟨h.conf,h.liars,h.len,h.reps,CZ h.conf ps h.net hp,h.said⟩
theorem abO {c:za} {r:zb} (hok:ze c r=true):((∀ p∈(Zd c r).2,zj p.2<=100000)/\∀ p∈(Zd c r).2,yO c p.2=true)/\(Zd c r).2.length<=30/\yt (Zd c r).2<=260000:=by
 obtain⟨h1,h2,h3,h4,h5,h6,h7,h8,h9,h10⟩:=J0 hok;have hw:=KB hok;have hs:=(abN c r).2;refine⟨?_,?_,by omega⟩
 ·unfold Zd;rw[hok];have key:∀ p∈r.2.2.2.2.2.2.2,yO c p.2=true:=λ p hp=>by
   have hk:=h10 p hp;unfold Z3 at hk;simp only[alp] at hk;exact hk.1
  exact⟨λ p hp=>by have:=eH (key p hp); omega,key⟩
 ·unfold Zd;rw[hok]; exact h9
theorem WI.w_leS {w:zB} (h:WI w):Yj w<=500000000:=by
 have hb:=yi h.conf;have key:∀ {α:Type} (f:α->Nat) (N:Nat) (l:List α),(∀ x∈l,f x<=N)->(l.map f).sum<=l.length*N:=by
  intro α f N l;induction l with
  | nil=>intro _; simp
  | cons x l ih=>
   intro hx;have a:=hx x (by simp);have b:=ih λ y hy=>hx y (by simp[hy]);simp only[alG,am1,alr,alV];omega
 have hl:=h.len;have r1:=key zf 260000 w.2.2.1 λ x hx=>by
  obtain⟨i,hi,rfl⟩:=List.getElem_of_mem hx;exact KB (h.reps i hi).1
 have r2:=key MW 1000000 w.2.2.2.1 λ x hx=>(h.net.2 x hx).2;have r3:=key Qc 1000000 w.2.2.2.2 λ x hx=>by have:=Zm (h.said.2 x hx).1.1; simp only[Qc]; omega
 have e1:w.2.2.1.length*260000<=7*260000:=Nat.mul_le_mul_right _ (by omega);have e2:w.2.2.2.1.length*1000000<=60*1000000:=Nat.mul_le_mul_right _ h.net.1;have e3:w.2.2.2.2.length*1000000<=300*1000000:=Nat.mul_le_mul_right _ h.said.1;have:=h.liars.1; have:=h.net.1; have:=h.said.1
 simp only[Yj,zn,MV,Qd,LL];omega
theorem WI.w_le {w:zB} (h:WI w):Yj w<=137438953472:=Nat.le_trans h.w_leS (by decide)
theorem TU {w:zB} (h:WI w) (i:Int) (h0:0<=i) (h1:i<(w.2.2.1.length:Int)):Step w (ld (w,i,())) (lf (w,i,())):=by
 obtain⟨c,l,reps,net,said⟩:=w;obtain⟨r,hr,hok,hw,adh⟩:=h.rep h0 h1;obtain⟨p1,p2,p3⟩:=abO hok;have hn:=h.net.1;have hd:=h.said.1;have hlen:=h.len;dsimp only at h1 hn hd hlen;have hW:=adh _ (To hok);have hL:=Uj hW (id:=i) (by dsimp only; omega) (ps:=(Zd c r).2) p1.2
 have hS:=C0 hL (ps:=(Zd c r).2) p1.1;unfold ld lf;simp only[h0,h1,alD,if_true,zu (e:=JG) hr,abp c r (by omega),alm];cases decide (wr ((net.length:Int)+((Zd c r).2.length:Int))>60);case true=>exact Step.same (show (4:Int)≠0 by decide)
 cases decide (wr ((said.length:Int)+((Zd c r).2.length:Int))>300);case true=>exact Step.same (show (4:Int)≠0 by decide)
 simp only[aln,h0,h1,alD,if_true];rw[ab9 _ i _ hW.w_le (by omega),alm];dsimp only;rw[DY _ _ (by omega),alm];exact Step.next hS rfl
theorem TQ {w:zB} (h:WI w) (d:Jb) (h0:0<=d.2.1) (h1:d.2.1<(w.2.2.1.length:Int)) (hm:zj d.2.2.2<=137438953472):Step w (kW (w,d,())) (kX (w,d,())):=by
 have hA:=TH h d.2.1 h0 h1;have hB:=TU h d.2.1 h0 h1;have hC:=TS h d.2.1 h0 h1;obtain⟨c,l,reps,rest⟩:=w;obtain⟨r,hr,hok,hw,adh⟩:=h.rep h0 h1;have ahV:=(J0 hok).2.2.2.2.2.2.2.1;have hf:=R5 ahV d.2.2.1;have hW:=R6 (i:=d.2.1) d.2.2.1 hok hf adh;dsimp only at h1;unfold kW kX;simp only[h0,h1,alD,if_true,zu (e:=JG) hr];cases d.1==1;case true=>exact hA.wrap
 cases d.1==2;case true=>exact hB.wrap
 cases d.1==6;case true=>exact hC.wrap
 simp only[aln];cases d.1==8;case true=>
  have hd:=K4.1 ahV;have hd2:=K4.1 hf;have hwr:zf (r.1,r.2.1,r.2.2.1,r.2.2.2.1,r.2.2.2.2.1,r.2.2.2.2.2.1,K7 r.2.2.2.2.2.2.1 d.2.2.1,r.2.2.2.2.2.2.2)<=1073741824:=by
   simp only[zf,JD] at hw ⊢;omega
  simp only[alo,Zw r (by omega),ab1 _ _ (show r.2.2.2.2.2.2.1.1.length<=17592186044416 by omega),alm,DI c _ hwr];exact Step.next hW rfl
 simp only[aln];cases d.1==7;case true=>exact Ug hok hw adh
 exact Sm hok hw hm adh
theorem TN {w:zB} (h:WI w) (d:Jb) (hm:zj d.2.2.2<=137438953472):Step w (kT (w,d,())) (kU (w,d,())):=by
 have hl:=h.liars.1;have hs:=h.said.1;unfold kT kU;simp only[Yw,alm,abb w.1 w.2.1 w.2.2.2.2 d.2.2.2 (show zj d.2.2.2<=137438953472 by omega) (by omega) (by omega)];cases (decide (d.2.1≥0) && decide (d.2.1<=wr (w.1.1 - 1)))
 ·exact Step.same (show (2:Int)≠0 by decide)
 cases hml:eF w.1 w.2.1 w.2.2.2.2 d.2.2.2
 ·exact Step.same (show (5:Int)≠0 by decide)
 have hk:zj d.2.2.2<=3847:=by
  unfold eF at hml;simp only[alp] at hml;exact eH hml.1
 have hS:=C0 h (ps:=[(d.2.1,d.2.2.2)]) λ p hp=>by
  simp only[alH,amd,or_false] at hp;rw[hp]; dsimp only; omega
 cases decide ((w.2.2.2.1.length:Int)≥60);case true=>exact Step.same (show (4:Int)≠0 by decide)
 simp only[alt,aln];rw[DY w _ (show yt [(d.2.1,d.2.2.2)]<=1073741824 by simp only[yt,Yi,alG,am8,am1,List.sum_nil,alr,als]; omega),Option.bind_some]
 exact Step.next hS rfl
theorem Rz {n:Int} {net:jB} (h:JH n net) (i:Nat) (hi:i<net.length):JH n ([]++(net.drop 0).take i++(net.drop (i+1)).take (net.length - (i+1))):=by
 refine⟨?_,λ x hx => ?_⟩
 ·have:=h.1;simp only[alL,alN,alv,alE,alF];omega
 ·simp only[alL,alN,alK] at hx;rcases hx with hx|hx
  ·exact h.2 x (List.mem_of_mem_take hx)
  ·exact h.2 x (List.mem_of_mem_drop (List.mem_of_mem_take hx))
theorem RH {n:Int} {net:jB} (h:JH n net) (hl:net.length<60) {x:cK} (hx:x∈net):JH n (net++[(x.1,[]++x.2)]):=by
 refine⟨by simp only[alv,alr,als]; omega,λ y hy => ?_⟩
 simp only[alK,alH,amd,or_false] at hy;rcases hy with hy|rfl
 ·exact h.2 y hy
 ·exact h.2 x hx
theorem WI.withNet {c:za} {l:jg} {reps:YC} {net net':jB} {said:yW} (h:WI (c,l,reps,net,said)) (hn:JH c.1 net'):WI (c,l,reps,net',said):=
 ⟨h.conf,h.liars,h.len,h.reps,hn,h.said⟩
theorem Sq {w:zB} (hl:(w.2.2.1.length:Int)=w.1.1) {x:Int} (hx:(Z5 w).any (· == x)=true):0<=x/\x<(w.2.2.1.length:Int):=by
 unfold Z5 at hx;simp at hx;omega
theorem TO {w:zB} (h:WI w) (d:Jb):Step w (qR (w,d,())) (qS (w,d,())):=by
 obtain⟨c,l,reps,net,said⟩:=w;have hn:=h.net;have hlen:=h.len;have hl:=h.liars.1;have hb:=yi h.conf;dsimp only at hn hlen hl hb;unfold qR qS;dsimp only;rw[zg (n:=(net.length:Int) - 1) (by omega) (by omega),Yw];simp only[alm];cases hin:decide (d.2.1≥0) && decide (d.2.1<=(net.length:Int) - 1)
 ·exact Step.same (show (2:Int)≠0 by decide)
 simp only[alp,alz] at hin;have h0:0<=d.2.1:=hin.1;have h1:d.2.1<(net.length:Int):=by omega
 have hi:d.2.1.toNat<net.length:=by omega
 have hx:=List.getElem?_eq_getElem hi;have afw:=List.getElem_mem hi;generalize net[d.2.1.toNat]=x at hx afw;have hxb:=hn.2 x afw;have h2:d.2.1<=(net.length:Int):=by omega
 simp only[alt,aln,h0,h1,alD,if_true,zu (e:=tl) hx];cases d.1==5;case true=>
  simp only[alo];cases h60:decide ((net.length:Int)≥60);case true=>exact Step.same (show (4:Int)≠0 by decide)
  simp only[amD] at h60;have e1:(0+x.2.length)*1<=70368744177664:=by omega
  have e2:(net.length+List.length [(x.1,[]++x.2)])*32<=70368744177664:=by simp only[alr,als]; omega
  simp only[aln,e1,e2,if_true];exact Step.next (h.withNet (RH hn (by omega) afw)) rfl
 have ahR:=Rz hn d.2.1.toNat hi;have hw1:wr (d.2.1+1)=d.2.1+1:=zg (by omega) (by omega);have et:(d.2.1+1).toNat=d.2.1.toNat+1:=by omega
 have e3:0<=d.2.1+1/\d.2.1+1<=(net.length:Int)/\(net.length:Int)<=(net.length:Int):=⟨by omega,by omega,Int.le_refl _⟩
 have e4:(0+List.length (List.take (d.2.1.toNat - Int.toNat 0) (List.drop (Int.toNat 0) net)))*32<=70368744177664:=by
  have:=List.length_take_le (d.2.1.toNat - Int.toNat 0) (List.drop (Int.toNat 0) net); omega
 have e5:(List.length ([]++List.take (d.2.1.toNat - Int.toNat 0) (List.drop (Int.toNat 0) net))+List.length (List.take (Int.toNat (net.length:Int) - (d.2.1.toNat+1)) (List.drop (d.2.1.toNat+1) net)))*32<=70368744177664:=by
  have a1:=List.length_take_le (d.2.1.toNat - Int.toNat 0) (List.drop (Int.toNat 0) net);have a2:=List.length_take_le (Int.toNat (net.length:Int) - (d.2.1.toNat+1)) (List.drop (d.2.1.toNat+1) net);simp only[alL];omega
 simp only[aln,hw1,et,e4,e5,h0,h2,e3,amO,alD,if_true,true_and];have ahS:JH c.1 ([]++List.take (d.2.1.toNat - Int.toNat 0) (List.drop (Int.toNat 0) net)++List.take (Int.toNat (net.length:Int) - (d.2.1.toNat+1)) (List.drop (d.2.1.toNat+1) net)):=ahR;clear ahR;generalize []++List.take (d.2.1.toNat - Int.toNat 0) (List.drop (Int.toNat 0) net)++List.take (Int.toNat (net.length:Int) - (d.2.1.toNat+1)) (List.drop (d.2.1.toNat+1) net)=net' at ahS;have hW:=h.withNet ahS;cases d.1==3
 ·exact Step.next hW rfl
 rw[Yv l x.1 (by omega),alm,alm];dsimp only;cases l.any (· == x.1);case true=>exact Step.next hW rfl
 have x0:0<=x.1:=hxb.1.1;have x1:x.1<(reps.length:Int):=by omega
 obtain⟨r,hr,hok,hw,adh⟩:=hW.rep x0 x1;have hm:=UA c x.2 (by omega);simp only[alo,alP,DD c x.2 (by omega),alm,x0,x1,alD,if_true,zu (e:=JG) hr,Dy c r (JT c x.2).1 (by omega) (show zj (JT c x.2).1<=137438953472 by omega)];cases (L3 c r (JT c x.2).1).2
 ·exact Step.next hW rfl
 ·exact Step.next (adh _ (vJ hok _)) rfl
theorem TP {w:zB} (h:WI w) (d:Jb) (hm:zj d.2.2.2<=137438953472):Step w (kV (w,d,())) (ck (w,d,())):=by
 have hN:=TO h d;have hL:=TN h d hm;have hl:=h.liars.1;have hlen:=h.len;have hb:=yi h.conf;have hhl:(Z5 w).length<=w.2.2.1.length:=by
  unfold Z5;rw[amc];have:=List.length_filter_le (λ (i:Nat) => !(w.2.1.any (· == (i:Int)))) (List.range w.2.2.1.length);rw[amZ] at this;exact this
 unfold kV ck;dsimp only;cases d.1==3;case true=>exact hN.wrap
 cases d.1==4;case true=>exact hN.wrap
 cases d.1==5;case true=>exact hN.wrap
 cases d.1==10;case true=>exact hL.wrap
 simp only[aln];rw[Dz w (by omega) (by omega),alm,alm];dsimp only;rw[Yv (Z5 w) d.2.1 (by omega),alm,alm];dsimp only;cases hh:(Z5 w).any (· == d.2.1)
 ·exact Step.same (show (2:Int)≠0 by decide)
 have hr:=Sq hlen hh;exact (TQ h d hr.1 hr.2 hm).wrap
theorem TR {w:zB} (h:WI w) (d:Jb) (hm:zj d.2.2.2<=137438953472):Ens (kY (w,d,())) λ r=>WI r.1:=by
 unfold kY;dsimp only;rcases TP h d hm with⟨w',e,k,e'⟩|⟨n,hn,e,e'⟩
 ·rw[e',e];exact Ens.some k
 ·rw[e',e];have:(n != 0)=true:=by simp[hn]
  simp only[has,La,alm,this,alo];exact Ens.some h
theorem UM {c:za} {liars:jg} (h:zC c=true) (hl:j4 c.1 liars=true) (hf:(liars.length:Int)<=JM c):Qe (jd c liars)=true:=by
 have hb:=yi h;unfold Qe jd;simp only[h,hl,hf,eK h,amc,amZ,als,Zi,alp,alz,alT,and_true,true_and];refine⟨by omega,by omega,by omega,(uZ _ _ 0).2 λ i hi => ?_⟩;simp only[amc,amZ] at hi;simp only[List.getElem_map,List.getElem_range,aZ,alp,alT];refine⟨nR h (by omega) (by omega),?_⟩;simp only[Yk,amg]
theorem D4 {c:za} {liars:jg} (h:zC c=true) (hl:j4 c.1 liars=true) (hf:(liars.length:Int)<=JM c):(KP c liars).1=jd c liars/\WI (jd c liars):=by
 have hb:=yi h;refine⟨?_,UL h ?_ (C9 hl)⟩
 ·unfold KP;rw[UM h hl hf]; rfl
 ·have:JM c<=7:=by
   unfold JM;rw[if_pos h]; omega
  omega
theorem TL (c:zL) (hc:z6 c):Ens (kS (c,())) λ r=>0<=r.1.2.1/\WI r.2.1:=by
 unfold kS;refine (jJ c _ hc (by simp)).bind λ r0 h0 => ?_;refine (zF (c.1,r0.1.2) 3 ⟨hc.1,h0.1⟩).bind λ r1 h1 => ?_;refine (YM (c.1,r1.1.2) 3 ⟨hc.1,h1.1⟩).bind λ r2 h2 => ?_;have a1:=h1.2.2 (by decide);have hN:4<=r0.2.1/\r0.2.1<=7:=by
  have:=h0.2;simp only[alH,amd,or_false] at this;omega
 rw[zg (n:=1+r1.2.1) (by omega) (by omega)];have agW:zC (r0.2.1,1+r1.2.1)=true:=by
  unfold zC;simp only[alp,alz];omega
 have hfa:(1:Int)<=JM (r0.2.1,1+r1.2.1):=by
  unfold JM;rw[if_pos agW];dsimp only; omega
 refine Ens.cond (λ _ => ?_) λ _ => ?_
 ·refine (zF (c.1,r2.1.2) r0.2.1 ⟨hc.1,h2⟩).bind λ r3 h3 => ?_;have a3:=h3.2.2 (by omega);have hs:j4 (r0.2.1,1+r1.2.1).1 [r3.2.1]=true:=by
   unfold j4;simp only[Y0,Bool.and_true,alp,alU,amD];omega
  have k:=D4 agW hs (by simpa using hfa);rw[DQ _ _ (by simp),alm,k.1];exact Ens.some ⟨h3.1,k.2⟩
 ·have k:=D4 (liars:=[]) agW rfl (by simp only[als]; omega)
  rw[DQ _ _ (by simp),alm,k.1];exact Ens.some ⟨h2,k.2⟩
def lT (r:zL×zw×Unit):Prop:=0<=r.1.2.1/\zj r.2.1<=4000/\(0<=r.2.1.2.2.2.1.1/\r.2.1.2.2.2.1.1<=60)/\zG r.2.1.2.2.2.1.2.1=true/\r.2.1.2.2.2.1.2.2.length<=400
theorem sY (cur:zL) (liars:jg) (said:yW) (view:Int) (name:List UInt8) (hc:0<=cur.2.1) (hl:liars.length<=7) (hs:said.length<=300) (hv:0<=view/\view<=60) (hn:zG name=true):
  Ens (iter (λ rec7 (x7:List Int×Int×Unit)=>bif decide (x7.2.1<(said.length:Int)) then if 0<=x7.2.1/\x7.2.1<(said.length:Int) then bif (rd MY said x7.2.1.toNat).1==view then if 0<=x7.2.1/\x7.2.1<(said.length:Int) then bif (rd MY said x7.2.1.toNat).2.1==name then if 0<=x7.2.1/\x7.2.1<(said.length:Int) then (Ye (x7.1,(rd MY said x7.2.1.toNat).2.2,())).bind λ r8=>rec7 (r8.1,wr (x7.2.1+1),()) else none else rec7 (x7.1,wr (x7.2.1+1),()) else none else rec7 (x7.1,wr (x7.2.1+1),()) else none else some ((cur,((2,0,([],0,[],[]),(view,name,x7.1),(0,[],[]),0,0,0,0,0):zw),()):zL×zw×Unit)) fuel ([]++liars,0,())) lT:=by
 refine Ens.loop (λ x=>(0<=x.2.1/\x.2.1<=(said.length:Int))/\(x.1.length:Int)<=7+x.2.1) (λ x=>((said.length:Int) - x.2.1).toNat) ?_ ⟨by simp,by simp; omega⟩ (by dsimp only; rw[y9]; omega)
 intro rec x hx acB;obtain⟨x1,x2⟩:=hx;refine Ens.cond (λ h => ?_) λ h => ?_
 ·have h:x.2.1<(said.length:Int):=by simpa using h
  have e1:wr (x.2.1+1)=x.2.1+1:=zg (by omega) (by omega);rw[e1];have hno:Ens (rec (x.1,x.2.1+1,())) lT:=acB _ ⟨⟨by dsimp only; omega,by dsimp only; omega⟩,by dsimp only; omega⟩ (by dsimp only; omega)
  refine Ens.ite ⟨x1.1,h⟩ (Ens.cond (λ _ => ?_) λ _=>hno);refine Ens.ite ⟨x1.1,h⟩ (Ens.cond (λ _ => ?_) λ _=>hno);refine Ens.ite ⟨x1.1,h⟩ ?_;have hl:=bu x.1 (rd MY said x.2.1.toNat).2.2;rw[bP x.1 _ (by omega),alm];exact acB _ ⟨⟨by dsimp only; omega,by dsimp only; omega⟩,by dsimp only; omega⟩ (by dsimp only; omega)
 ·have hnl:=Zm hn;refine Ens.some ⟨hc,?_,hv,hn,by dsimp only; omega⟩
  simp only[zj,zD,zi,zm,zn,als];omega
theorem TM (c:zL) {w:zB} (hc:z6 c) (h:WI w):Ens (cj (c,w,())) lT:=by
 have hl:=h.liars.1;have hs:=h.said.1;unfold cj;dsimp only;refine (zF c 4 hc).bind λ r0 h0 => ?_;have a0:=h0.2.2 (by decide);rw[zg (n:=1+r0.2.1) (by omega) (by omega),bI [] _ [] (by simp) (by omega) (by simp),Option.bind_some];refine Ens.ite (by omega) (Ens.cond (λ hp => ?_) λ _=>sY (c.1,r0.1.2) w.2.1 w.2.2.2.2 _ _ h0.1 hl hs (by omega) (nQ _ _ _));have hp:(w.2.2.2.2.length:Int)>0:=by simpa using hp
 have afS:yj ((w.2.2.2.2.length:Int),8,())=some (if (w.2.2.2.2.length:Int)<8 then (w.2.2.2.2.length:Int) else 8,()):=by
  unfold yj;by_cases e:(w.2.2.2.2.length:Int)<8<;>simp[e]
 rw[afS,alm];have hmb:0<(if (w.2.2.2.2.length:Int)<8 then (w.2.2.2.2.length:Int) else 8)/\(if (w.2.2.2.2.length:Int)<8 then (w.2.2.2.2.length:Int) else 8)<=(w.2.2.2.2.length:Int):=by
  split<;>omega
 generalize (if (w.2.2.2.2.length:Int)<8 then (w.2.2.2.2.length:Int) else 8)=n at hmb;refine (zF (c.1,r0.1.2) n ⟨hc.1,h0.1⟩).bind λ r3 h3 => ?_;have a3:=h3.2.2 hmb.1;have e1:wr ((w.2.2.2.2.length:Int) - 1)=(w.2.2.2.2.length:Int) - 1:=zg (by omega) (by omega);have e2:wr ((w.2.2.2.2.length:Int) - 1 - r3.2.1)=(w.2.2.2.2.length:Int) - 1 - r3.2.1:=zg (by omega) (by omega);rw[e1,e2];refine Ens.ite (by omega) ?_;have hi:((w.2.2.2.2.length:Int) - 1 - r3.2.1).toNat<w.2.2.2.2.length:=by omega
 have hx:=List.getElem?_eq_getElem hi;have afw:=List.getElem_mem hi;generalize w.2.2.2.2[((w.2.2.2.2.length:Int) - 1 - r3.2.1).toNat]=x at hx afw;have hxb:=(h.said.2 x afw).1;have hvb:=MT hxb.1;have hxl:=Zm hxb.1;rw[hxb.2] at hvb;rw[zu (e:=MY) hx];refine (YM (c.1,r3.1.2) 3 ⟨hc.1,h3.1⟩).bind λ r4 h4 => ?_;refine Ens.cond (λ _ => ?_) λ _=>sY (c.1,r4.1.2) w.2.1 w.2.2.2.2 _ _ h4 hl hs hvb hxb.1;have hu:=cu x.2.1;rw[bV x.2.1 (by omega),alm,bI (Yh x.2.1) x.1 _ (by omega) (by omega) (by simp),alm];exact sY (c.1,r4.1.2) w.2.1 w.2.2.2.2 _ _ h4 hl hs hvb (nQ _ _ _)
def cB (r:zL×zw×Unit):Prop:=0<=r.1.2.1/\zj r.2.1<=8000
theorem PD (c:za) (q:zJ) (v:Int) (l:zE):zD (KZ c q v l).1<=3847:=by
 unfold KZ;cases hb:jX c (Zl q.2.1 v l,q) && zo (Zl q.2.1 v l)==v
 ·simp[cy,zD,zi,zn]
 ·simp only[alp] at hb;exact tS hb.1
theorem Un (code:List UInt8) (p:Int×Int) (c:za) (q:zJ) (v:Int) (hc:z6 (code,p)) (hq:zi q<=5000) (hv:0<=v/\v<=61):Ens ((yb ((code,p),())).bind λ r25=>(yh (c,q,v,[r25.2.1],())).bind λ r26=>some ((code,r25.1.2),(1,0,r26.1,(0,[],[]),(0,[],[]),0,0,0,0,0),())) cB:=by
 refine (L9 (code,p) hc).bind λ r hr => ?_;rw[rZ c q v [r.2.1] (by omega) (by omega) (by simp),Option.bind_some];have:=PD c q v [r.2.1];refine Ens.some ⟨hr.1,?_⟩;simp only[zj,zi,zm,zn,als];omega
theorem wg (code:List UInt8) (p:Int×Int) (w:zB) (m:zw) (q:zJ) (who:Int) (hc:z6 (code,p)) (hm:zj m<=4000) (hq:zi q<=5000) (hq1:0<=q.1/\q.1<=60):
  Ens ((zk ((code,p),4,())).bind λ r18=>bif r18.2.1==0 then some (((code,r18.1.2),m,()):zL×zw×Unit) else bif r18.2.1==1 then (zk ((code,r18.1.2),2,())).bind λ r19=>(yj (wr (wr (q.1+1)+r19.2.1),60,())).bind λ r20=>some ((code,r19.1.2),(3,r20.1,([],0,[],[]),(0,[],[]),q,who,0,0,0,0),()) else iter (λ rec21 (x21:Int×Int×Unit)=>bif decide (x21.2.1<7) then bif decide (x21.1<60) then (jN (w.1,x21.1,())).bind λ r22=>bif r22.1 != who then rec21 (wr (x21.1+1),wr (x21.2.1+1),()) else (yb ((code,r18.1.2),())).bind λ r23=>(yh (w.1,q,x21.1,[r23.2.1],())).bind λ r24=>some ((code,r23.1.2),(1,0,r24.1,(0,[],[]),(0,[],[]),0,0,0,0,0),()) else (yb ((code,r18.1.2),())).bind λ r25=>(yh (w.1,q,x21.1,[r25.2.1],())).bind λ r26=>some ((code,r25.1.2),(1,0,r26.1,(0,[],[]),(0,[],[]),0,0,0,0,0),()) else (yb ((code,r18.1.2),())).bind λ r27=>(yh (w.1,q,x21.1,[r27.2.1],())).bind λ r28=>some ((code,r27.1.2),(1,0,r28.1,(0,[],[]),(0,[],[]),0,0,0,0,0),())) fuel (wr (q.1+1),0,())) cB:=by
 refine (zF (code,p) 4 hc).bind λ r0 h0 => ?_;refine Ens.cond (λ _=>Ens.some ⟨h0.1,by dsimp only; omega⟩) λ _ => ?_
 have e1:wr (q.1+1)=q.1+1:=zg (by omega) (by omega);rw[e1];refine Ens.cond (λ _ => ?_) λ _ => ?_
 ·refine (zF (code,r0.1.2) 2 ⟨hc.1,h0.1⟩).bind λ r1 h1 => ?_;have afS:∀ a b:Int,yj (a,b,())=some (if a<b then a else b,()):=by
   intro a b;unfold yj;by_cases e:a<b<;>simp[e]
  rw[afS,alm];refine Ens.some ⟨h1.1,?_⟩;simp only[zj,zD,zi,zm,zn,als] at hq ⊢;omega
 ·refine Ens.loop (λ x=>(0<=x.2.1/\x.2.1<=7)/\(0<=x.1/\x.1<=61)) (λ x=>(8 - x.2.1).toNat) ?_ ⟨by simp,by dsimp only; omega⟩ (by dsimp only; rw[y9]; omega)
  intro rec x hx acB;obtain⟨x1,x2⟩:=hx;have hb:=Un code r0.1.2 w.1 q x.1 ⟨hc.1,h0.1⟩ hq x2;refine Ens.cond (λ h => ?_) λ _=>hb;have h:x.2.1<7:=by simpa using h
  refine Ens.cond (λ h' => ?_) λ _=>hb;have h':x.1<60:=by simpa using h'
  rw[MA,alm];refine Ens.cond (λ _ => ?_) λ _=>hb;rw[zg (n:=x.1+1) (by omega) (by omega),zg (n:=x.2.1+1) (by omega) (by omega)];exact acB _ ⟨by dsimp only; omega,by dsimp only; omega⟩ (by dsimp only; omega)
theorem ez (code:List UInt8) (p:Int×Int) (w:zB) (m:zw) (q:zJ) (hc:z6 (code,p)) (hm:zj m<=4000) (hq:zi q<=5000) (hq1:0<=q.1/\q.1<=60):
  Ens (bif decide ((w.2.1.length:Int)>0) then (zk ((code,p),(w.2.1.length:Int),())).bind λ r6=>if 0<=r6.2.1/\r6.2.1<(w.2.1.length:Int) then (zk ((code,r6.1.2),4,())).bind λ r7=>bif r7.2.1==0 then some (((code,r7.1.2),m,()):zL×zw×Unit) else bif r7.2.1==1 then (zk ((code,r7.1.2),2,())).bind λ r8=>(yj (wr (wr (q.1+1)+r8.2.1),60,())).bind λ r9=>some ((code,r8.1.2),(3,r9.1,([],0,[],[]),(0,[],[]),q,rd .i64 w.2.1 r6.2.1.toNat,0,0,0,0),()) else iter (λ rec10 (x10:Int×Int×Unit)=>bif decide (x10.2.1<7) then bif decide (x10.1<60) then (jN (w.1,x10.1,())).bind λ r11=>bif r11.1 != rd .i64 w.2.1 r6.2.1.toNat then rec10 (wr (x10.1+1),wr (x10.2.1+1),()) else (yb ((code,r7.1.2),())).bind λ r12=>(yh (w.1,q,x10.1,[r12.2.1],())).bind λ r13=>some ((code,r12.1.2),(1,0,r13.1,(0,[],[]),(0,[],[]),0,0,0,0,0),()) else (yb ((code,r7.1.2),())).bind λ r14=>(yh (w.1,q,x10.1,[r14.2.1],())).bind λ r15=>some ((code,r14.1.2),(1,0,r15.1,(0,[],[]),(0,[],[]),0,0,0,0,0),()) else (yb ((code,r7.1.2),())).bind λ r16=>(yh (w.1,q,x10.1,[r16.2.1],())).bind λ r17=>some ((code,r16.1.2),(1,0,r17.1,(0,[],[]),(0,[],[]),0,0,0,0,0),())) fuel (wr (q.1+1),0,()) else none else (zk ((code,p),4,())).bind λ r18=>bif r18.2.1==0 then some ((code,r18.1.2),m,()) else bif r18.2.1==1 then (zk ((code,r18.1.2),2,())).bind λ r19=>(yj (wr (wr (q.1+1)+r19.2.1),60,())).bind λ r20=>some ((code,r19.1.2),(3,r20.1,([],0,[],[]),(0,[],[]),q,0,0,0,0,0),()) else iter (λ rec21 (x21:Int×Int×Unit)=>bif decide (x21.2.1<7) then bif decide (x21.1<60) then (jN (w.1,x21.1,())).bind λ r22=>bif r22.1 != 0 then rec21 (wr (x21.1+1),wr (x21.2.1+1),()) else (yb ((code,r18.1.2),())).bind λ r23=>(yh (w.1,q,x21.1,[r23.2.1],())).bind λ r24=>some ((code,r23.1.2),(1,0,r24.1,(0,[],[]),(0,[],[]),0,0,0,0,0),()) else (yb ((code,r18.1.2),())).bind λ r25=>(yh (w.1,q,x21.1,[r25.2.1],())).bind λ r26=>some ((code,r25.1.2),(1,0,r26.1,(0,[],[]),(0,[],[]),0,0,0,0,0),()) else (yb ((code,r18.1.2),())).bind λ r27=>(yh (w.1,q,x21.1,[r27.2.1],())).bind λ r28=>some ((code,r27.1.2),(1,0,r28.1,(0,[],[]),(0,[],[]),0,0,0,0,0),())) fuel (wr (q.1+1),0,())) cB:=by
 refine Ens.cond (λ h => ?_) λ _=>wg code p w m q 0 hc hm hq hq1;have h:(w.2.1.length:Int)>0:=by simpa using h
 refine (zF (code,p) _ hc).bind λ r1 h1 => ?_;have a1:=h1.2.2 h;exact Ens.ite ⟨h1.2.1,a1⟩ (wg code r1.1.2 w m q _ ⟨hc.1,h1.1⟩ hm hq hq1)
theorem TJ (c:zL) {w:zB} (hc:z6 c) (h:WI w):Ens (qQ (c,w,())) cB:=by
 unfold qQ sC sB sD sA;refine (TM c hc h).bind λ r0 h0 => ?_;obtain⟨k1,k2,k3,k4,k5⟩:=h0;have hq:zi r0.2.1.2.2.2.1<=4000:=by
  simp only[zj,zm] at k2;simp only[zi]; omega
 rw[Lx w.1 r0.2.1.2.2.2.1 (by omega),alm];refine Ens.cond (λ _ => ?_) λ _=>ez c.1 r0.1.2 w r0.2.1 r0.2.1.2.2.2.1 ⟨hc.1,k1⟩ k2 (by omega) k3;have hf:g9 ()=some ((0,[],[]),()):=rfl;have hz:zi ((0,[],[]):zJ)<=5000:=by simp[zi,zn]
 rw[hf,alm];refine Ens.cond (λ hp => ?_) λ _=>ez c.1 r0.1.2 w r0.2.1 (0,[],[]) ⟨hc.1,k1⟩ k2 hz (by dsimp only; omega)
 have hp:(w.2.2.1.length:Int)>0:=by simpa using hp
 refine (YM (c.1,r0.1.2) 2 ⟨hc.1,k1⟩).bind λ r3 h3 => ?_;refine Ens.cond (λ _ => ?_) λ _=>ez c.1 r3.1.2 w r0.2.1 (0,[],[]) ⟨hc.1,h3⟩ k2 hz (by dsimp only; omega)
 refine (zF (c.1,r3.1.2) _ ⟨hc.1,h3⟩).bind λ r4 h4 => ?_;have a4:=h4.2.2 hp;refine Ens.ite ⟨h4.2.1,a4⟩ ?_;obtain⟨r,hr,hok,hw,-⟩:=WI.rep (c:=w.1) (l:=w.2.1) (reps:=w.2.2.1) (rest:=w.2.2.2) h h4.2.1 a4;rw[zu (e:=JG) hr];have hs:=(J0 hok).2.2.2.2.1;have hqk:z8 w.1 r.2.2.2.1.2.2.1=true:=by
  unfold zU at hs;simp only[alp] at hs;exact hs.2.2.1
 have hqw:=aV hqk;have hqn:=pz hqk;have hqv:=MT hqn.1;rw[hqn.2] at hqv;rw[ML r.2.2.2.1.2.2.1 (by omega),alm];exact ez c.1 r4.1.2 w r0.2.1 r.2.2.2.1.2.2.1 ⟨hc.1,h4.1⟩ k2 (by omega) hqv
def LM (r:zL×Jb×Unit):Prop:=0<=r.1.2.1/\zj r.2.1.2.2.2<=10000
theorem Kb (code:List UInt8) (p:Int×Int) (k i j:Int) (h:0<=p.1):LM ((code,p),(k,i,j,0,0,([],0,[],[]),(0,[],[]),(0,[],[]),0,0,0,0,0),()):=
 ⟨h,by simp[zj,zD,zi,zm,zn]⟩
theorem uk (code:List UInt8) (p:Int×Int) (w:zB) (k:Int) (hc:z6 (code,p)):Ens (bif (w.2.2.2.1.length:Int)==0 then some (((code,p),(2,k,0,0,0,([],0,[],[]),(0,[],[]),(0,[],[]),0,0,0,0,0),()):zL×Jb×Unit) else (yj ((w.2.2.2.1.length:Int),4,())).bind λ r13=>(zk ((code,p),r13.1,())).bind λ r14=>some ((code,r14.1.2),(3,r14.2.1,0,0,0,([],0,[],[]),(0,[],[]),(0,[],[]),0,0,0,0,0),())) LM:=by
 refine Ens.cond (λ _=>Ens.some (Kb _ _ _ _ _ hc.2)) λ _ => ?_;have afS:∀ a b:Int,yj (a,b,())=some (if a<b then a else b,()):=by
  intro a b;unfold yj;by_cases e:a<b<;>simp[e]
 rw[afS,alm];exact (zF (code,p) _ hc).bind λ r1 h1=>Ens.some (Kb _ _ _ _ _ h1.1)
theorem pM {w:zB} (h:WI w) {i:Int} (h0:0<=i) (h1:i<(w.2.2.1.length:Int)):∃ r,w.2.2.1[i.toNat]?=some r/\ze w.1 r=true/\zf r<=260000:=by
 obtain⟨r,hr,hok,hw,-⟩:=WI.rep (c:=w.1) (l:=w.2.1) (reps:=w.2.2.1) (rest:=w.2.2.2) h h0 h1;exact⟨r,hr,hok,hw⟩
theorem RA (code:List UInt8) (p:Int×Int) (w:zB) (k:Int) (hc:z6 (code,p)) (h:WI w) (hk:0<=k/\k<=8):Ens (α:=zL×Jb×Unit) (iter (λ rec3 (x3:Int×Jb×Unit)=>bif decide (x3.1<(w.2.2.1.length:Int)) then if (w.2.2.1.length:Int)=0 then none else if 0<=Int.tmod (wr (k+x3.1)) (w.2.2.1.length:Int)/\Int.tmod (wr (k+x3.1)) (w.2.2.1.length:Int)<(w.2.2.1.length:Int) then (KD (w.1,rd (.pair .i64 (.pair .i64 (.pair .i64 (.pair (.pair .i64 (.pair .i64 (.pair (.pair .i64 (.pair .str (.sl 0 .i64))) .str))) (.pair (.sl 0 (.pair .i64 (.pair .i64 (.pair .i64 .i64)))) (.pair (.sl 0 (.pair .i64 (.pair .str (.sl 0 .i64)))) (.pair (.pair (.sl 0 .u8) .i64) (.sl 0 (.pair .i64 (.pair .i64 (.pair .i64 (.pair (.pair .str (.pair .i64 (.pair .str (.sl 0 .i64)))) (.pair (.pair .i64 (.pair .str (.sl 0 .i64))) (.pair (.pair .i64 (.pair .str (.sl 0 .i64))) (.pair .i64 (.pair .i64 (.pair .i64 (.pair .i64 .i64)))))))))))))))))) w.2.2.1 (Int.toNat (Int.tmod (wr (k+x3.1)) (w.2.2.1.length:Int))),())).bind λ r4=>bif r4.2.1 then if (w.2.2.1.length:Int)=0 then none else (jD (w.2.1,Int.tmod (wr (k+x3.1)) (w.2.2.1.length:Int),())).bind λ r5=>bif !r5.1 then if (w.2.2.1.length:Int)=0 then none else some ((code,p),(1,Int.tmod (wr (k+x3.1)) (w.2.2.1.length:Int),0,0,0,([],0,[],[]),(0,[],[]),(0,[],[]),0,0,0,0,0),()) else rec3 (wr (x3.1+1),x3.2.1,()) else rec3 (wr (x3.1+1),x3.2.1,()) else none else some ((code,p),(7,k,0,0,0,([],0,[],[]),(0,[],[]),(0,[],[]),0,0,0,0,0),())) fuel (0,(0,0,0,0,0,([],0,[],[]),(0,[],[]),(0,[],[]),0,0,0,0,0),())) LM:=by
 have hb:=yi h.conf;have hlen:=h.len;have hl:=h.liars.1;refine Ens.loop (λ x=>(0<=x.1/\x.1<=8)) (λ x=>(9 - x.1).toNat) ?_ (by simp) (by dsimp only; rw[y9]; omega)
 intro rec x hx acB;have hn:¬ (w.2.2.1.length:Int)=0:=by omega
 refine Ens.cond (λ hh => ?_) λ hh=>Ens.some (Kb _ _ _ _ _ hc.2);have hh:x.1<(w.2.2.1.length:Int):=by simpa using hh
 rw[if_neg hn,zg (n:=k+x.1) (by omega) (by omega),zg (n:=x.1+1) (by omega) (by omega)];have hno:Ens (rec (x.1+1,x.2.1,())) LM:=acB _ (by dsimp only; omega) (by dsimp only; omega)
 have t0:0<=Int.tmod (k+x.1) (w.2.2.1.length:Int):=Int.tmod_nonneg _ (by omega);have t1:Int.tmod (k+x.1) (w.2.2.1.length:Int)<(w.2.2.1.length:Int):=Int.tmod_lt_of_pos _ (by omega);refine Ens.ite ⟨t0,t1⟩ ?_;obtain⟨r,hr,hok,hw⟩:=pM h t0 t1;rw[zu (e:=JG) hr,Dw w.1 r (by omega),alm];refine Ens.cond (λ _ => ?_) λ _=>hno;rw[if_neg hn,Yv w.2.1 _ (by omega),alm];refine Ens.cond (λ _ => ?_) λ _=>hno;rw[if_neg hn];exact Ens.some (Kb _ _ _ _ _ hc.2)
theorem RB (code:List UInt8) (p:Int×Int) (w:zB) (k:Int) (hc:z6 (code,p)) (h:WI w) (hk:0<=k/\k<=8):Ens (α:=zL×Jb×Unit) (iter (λ rec12 (x12:Int×Jb×Unit)=>bif decide (x12.1<(w.2.2.1.length:Int)) then if (w.2.2.1.length:Int)=0 then none else if 0<=Int.tmod (wr (k+x12.1)) (w.2.2.1.length:Int)/\Int.tmod (wr (k+x12.1)) (w.2.2.1.length:Int)<(w.2.2.1.length:Int) then bif decide ((List.length (rd (.pair .i64 (.pair .i64 (.pair .i64 (.pair (.pair .i64 (.pair .i64 (.pair (.pair .i64 (.pair .str (.sl 0 .i64))) .str))) (.pair (.sl 0 (.pair .i64 (.pair .i64 (.pair .i64 .i64)))) (.pair (.sl 0 (.pair .i64 (.pair .str (.sl 0 .i64)))) (.pair (.pair (.sl 0 .u8) .i64) (.sl 0 (.pair .i64 (.pair .i64 (.pair .i64 (.pair (.pair .str (.pair .i64 (.pair .str (.sl 0 .i64)))) (.pair (.pair .i64 (.pair .str (.sl 0 .i64))) (.pair (.pair .i64 (.pair .str (.sl 0 .i64))) (.pair .i64 (.pair .i64 (.pair .i64 (.pair .i64 .i64)))))))))))))))))) w.2.2.1 (Int.toNat (Int.tmod (wr (k+x12.1)) (w.2.2.1.length:Int)))).2.2.2.2.2.2.2:Int)>0) then if (w.2.2.1.length:Int)=0 then none else some ((code,p),(2,Int.tmod (wr (k+x12.1)) (w.2.2.1.length:Int),0,0,0,([],0,[],[]),(0,[],[]),(0,[],[]),0,0,0,0,0),()) else rec12 (wr (x12.1+1),x12.2.1,()) else none else bif (w.2.2.2.1.length:Int)==0 then some ((code,p),(2,k,0,0,0,([],0,[],[]),(0,[],[]),(0,[],[]),0,0,0,0,0),()) else (yj ((w.2.2.2.1.length:Int),4,())).bind λ r13=>(zk ((code,p),r13.1,())).bind λ r14=>some ((code,r14.1.2),(3,r14.2.1,0,0,0,([],0,[],[]),(0,[],[]),(0,[],[]),0,0,0,0,0),())) fuel (0,(0,0,0,0,0,([],0,[],[]),(0,[],[]),(0,[],[]),0,0,0,0,0),())) LM:=by
 have hb:=yi h.conf;have hlen:=h.len;have hl:=h.liars.1;refine Ens.loop (λ x=>(0<=x.1/\x.1<=8)) (λ x=>(9 - x.1).toNat) ?_ (by simp) (by dsimp only; rw[y9]; omega)
 intro rec x hx acB;have hn:¬ (w.2.2.1.length:Int)=0:=by omega
 refine Ens.cond (λ hh => ?_) λ hh=>uk code p w k hc;have hh:x.1<(w.2.2.1.length:Int):=by simpa using hh
 rw[if_neg hn,zg (n:=k+x.1) (by omega) (by omega),zg (n:=x.1+1) (by omega) (by omega)];have hno:Ens (rec (x.1+1,x.2.1,())) LM:=acB _ (by dsimp only; omega) (by dsimp only; omega)
 have t0:0<=Int.tmod (k+x.1) (w.2.2.1.length:Int):=Int.tmod_nonneg _ (by omega);have t1:Int.tmod (k+x.1) (w.2.2.1.length:Int)<(w.2.2.1.length:Int):=Int.tmod_lt_of_pos _ (by omega);refine Ens.ite ⟨t0,t1⟩ ?_;obtain⟨r,hr,hok,hw⟩:=pM h t0 t1;rw[zu (e:=JG) hr];refine Ens.cond (λ _ => ?_) λ _=>hno;rw[if_neg hn];exact Ens.some (Kb _ _ _ _ _ hc.2)
theorem TI (c:zL) {w:zB} (hc:z6 c) (h:WI w):Ens (kQ (c,w,())) LM:=by
 have hb:=yi h.conf;have hlen:=h.len;unfold kQ;have adR:y6 ((w.2.2.1.length:Int),1,())=some ((w.2.2.1.length:Int),()):=by
  unfold y6;have:(w.2.2.1.length:Int)>1:=by omega
  simp[this]
 dsimp only;rw[adR,alm];refine (zF c _ hc).bind λ r1 h1 => ?_;have a1:=h1.2.2 (by dsimp only; omega)
 dsimp only at a1;refine (zF (c.1,r1.1.2) 20 ⟨hc.1,h1.1⟩).bind λ r2 h2 => ?_;have c2:z6 (c.1,r2.1.2):=⟨hc.1,h2.1⟩
 have hk:0<=r1.2.1/\r1.2.1<=8:=⟨h1.2.1,by omega⟩
 have A:=RA c.1 r2.1.2 w r1.2.1 c2 h hk;have S:=RB c.1 r2.1.2 w r1.2.1 c2 h hk;have G:=uk c.1 r2.1.2 w r1.2.1 c2;have L:=TJ (c.1,r2.1.2) c2 h;refine Ens.cond (λ _=>A) λ _ => ?_;refine Ens.cond (λ _=>A) λ _ => ?_;refine Ens.cond (λ _=>A) λ _ => ?_;refine Ens.cond (λ _=>S) λ _ => ?_;refine Ens.cond (λ _=>S) λ _ => ?_;refine Ens.cond (λ _=>S) λ _ => ?_;refine Ens.cond (λ _=>S) λ _ => ?_;refine Ens.cond (λ _=>Ens.some (Kb _ _ _ _ _ h2.1)) λ _ => ?_;refine Ens.cond (λ _=>Ens.some (Kb _ _ _ _ _ h2.1)) λ _ => ?_;refine Ens.cond (λ _ => ?_) λ _ => ?_
 ·refine (YM (c.1,r2.1.2) 2 c2).bind λ r3 h3 => ?_;refine Ens.cond (λ _ => ?_) λ _ => ?_
  ·exact (jJ (c.1,r3.1.2) _ ⟨hc.1,h3⟩ (by simp)).bind λ r4 h4=>Ens.some (Kb _ _ _ _ _ h4.1)
  ·refine (zF (c.1,r3.1.2) 2 ⟨hc.1,h3⟩).bind λ r4 h4 => ?_;have ahc:∃ n,y6 ((w.2.2.2.1.length:Int),1,())=some (n,()):=by
    unfold y6;cases decide ((w.2.2.2.1.length:Int)>1)<;>exact⟨_,rfl⟩
   obtain⟨n,ahc⟩:=ahc;rw[ahc,alm];exact (zF (c.1,r4.1.2) _ ⟨hc.1,h4.1⟩).bind λ r5 h5=>Ens.some (Kb _ _ _ _ _ h5.1)
 refine Ens.cond (λ _ => ?_) λ _ => ?_
 ·refine (L9 (c.1,r2.1.2) c2).bind λ r3 h3=>Ens.some ⟨h3.1,?_⟩;simp[zj,zD,zi,zm,zn]
 refine Ens.cond (λ _ => ?_) λ _ => ?_
 ·exact Ens.cond (λ _=>L.bind λ r3 h3=>Ens.some ⟨h3.1,by have:=h3.2; dsimp only; omega⟩) λ _=>G
 refine Ens.cond (λ _ => ?_) λ _ => ?_
 ·exact Ens.cond (λ _=>L.bind λ r3 h3=>Ens.some ⟨h3.1,by have:=h3.2; dsimp only; omega⟩) λ _=>G
 refine Ens.cond (λ _ => ?_) λ _=>G
 ·exact Ens.cond (λ _=>L.bind λ r3 h3=>Ens.some ⟨h3.1,by have:=h3.2; dsimp only; omega⟩) λ _=>G
theorem TK (c:zL) (hc:z6 c):Ens (kR (c,())) λ r=>0<=r.1.2.1/\WI r.2.1:=by
 unfold kR;refine (TL c hc).bind λ r0 h0 => ?_;refine (zF (c.1,r0.1.2) 45 ⟨hc.1,h0.1⟩).bind λ r1 h1 => ?_;have a1:=h1.2.2 (by decide);refine Ens.loop (λ x=>(0<=x.1/\x.1<=45)/\0<=x.2.1.2.1/\WI x.2.2.1) (λ x=>(46 - x.1).toNat) ?_ ⟨by simp,h1.1,h0.2⟩ (by dsimp only; rw[y9]; omega)
 intro rec x hx acB;obtain⟨x1,x2,x3⟩:=hx;refine Ens.cond (λ h => ?_) λ _=>Ens.some ⟨x2,x3⟩;have h:x.1<r1.2.1:=by simpa using h
 refine (TI (c.1,x.2.1.2) ⟨hc.1,x2⟩ x3).bind λ r3 h3 => ?_;refine (TR x3 r3.2.1 (by have:=h3.2; omega)).bind λ r4 h4 => ?_
 rw[zg (n:=x.1+1) (by omega) (by omega)];exact acB _ ⟨⟨by dsimp only; omega,by dsimp only; omega⟩,h3.1,h4⟩ (by dsimp only; omega)
theorem T9 (c:zL) (conf:za) (hc:z6 c) (hN:conf.1<=8):Ens (lj (c,conf,())) λ r=>0<=r.1.2.1/\zi r.2.1<=4000:=by
 unfold lj;refine (ae c hc).bind λ r0 h0 => ?_;refine (ny (c.1,r0.1.2) conf r0.2.1 ⟨hc.1,h0.1⟩ hN h0.2).bind λ r1 h1 => ?_;have hw:zi r1.2.1<=2000:=by
  have h4:=Zm h0.2;have h5:=h1.2.2.2;have h6:=h1.2.2.1;simp only[zi,zn];rw[h6];omega
 refine (zF (c.1,r1.1.2) 12 ⟨hc.1,h1.1⟩).bind λ r2 h2 => ?_;refine Ens.cond (λ _=>Ens.some ⟨h2.1,by simp only[zi] at hw ⊢; omega⟩) λ _ => ?_
 refine Ens.cond (λ _ => ?_) λ _ => ?_
 ·refine (vQ (c.1,r2.1.2) 7 ⟨hc.1,h2.1⟩ (by decide)).bind λ r3 h3=>Ens.some ⟨h3.1,?_⟩;have:=h3.2;simp only[zi,zn] at hw ⊢; omega
 refine Ens.cond (λ _ => ?_) λ _=>Ens.some ⟨h2.1,by dsimp only; omega⟩
 refine (nw (c.1,r2.1.2) ⟨hc.1,h2.1⟩).bind λ r4 h4=>Ens.some ⟨h4.1,?_⟩;have:=h4.2;simp only[zi] at hw ⊢; omega
theorem Tv (c:zL) (conf:za) (hc:z6 c) (hN:conf.1<=8):Ens (kx (c,conf,())) λ r=>0<=r.1.2.1/\zt r.2.1<=60000:=by
 unfold kx bN;rw[alm];refine Ens.loop (λ x=>(0<=x.1/\x.1<=5)/\0<=x.2.1.2.1/\(zt x.2.2.1:Int)<=10000*(x.1+1)) (λ x=>(6 - x.1).toNat) ?_ ⟨by simp,hc.2,by simp[zt,zi,zn]⟩ (by dsimp only; rw[y9]; omega)
 intro rec x hx acB;obtain⟨x1,x2,x3⟩:=hx;refine (zF (c.1,x.2.1.2) 5 ⟨hc.1,x2⟩).bind λ r2 h2 => ?_;have a2:=h2.2.2 (by decide);refine Ens.cond (λ h => ?_) λ _=>Ens.some ⟨h2.1,by dsimp only; omega⟩
 have h:x.1<r2.2.1:=by simpa using h
 refine (vS (c.1,r2.1.2) conf ⟨hc.1,h2.1⟩ hN).bind λ r3 h3 => ?_;have hb:=h3.2;have hq:zi r3.2.1.2<=4000:=by simp only[zD] at hb; omega
 rw[kg _ _ _ (by omega) (by omega),alm];have hs:=bp conf x.2.2.1 r3.2.1.2;refine (YM (c.1,r3.1.2) 3 ⟨hc.1,h3.1⟩).bind λ r5 h5 => ?_;rw[zg (n:=x.1+1) (by omega) (by omega)];refine Ens.cond (λ _ => ?_) λ _ => ?_
 ·dsimp only;rw[DP conf (see conf x.2.2.1 r3.2.1.2) r3.2.1 (by omega) (by omega),alm];have hv:=Ey conf (see conf x.2.2.1 r3.2.1.2) r3.2.1;exact acB _ ⟨⟨by dsimp only; omega,by dsimp only; omega⟩,h5,by dsimp only; omega⟩ (by dsimp only; omega)
 ·exact acB _ ⟨⟨by dsimp only; omega,by dsimp only; omega⟩,h5,by dsimp only; omega⟩ (by dsimp only; omega)
theorem vL (c:zL) (conf:za) (hc:z6 c) (hN:conf.1<=8):Ens (b9 (c,conf,())) λ r=>0<=r.1.2.1/\zt r.2.1<=70000:=by
 unfold b9;refine (Tv c conf hc hN).bind λ r0 h0 => ?_;have hw:=h0.2;refine (zF (c.1,r0.1.2) 10 ⟨hc.1,h0.1⟩).bind λ r1 h1 => ?_;refine Ens.cond (λ _ => ?_) λ _ => ?_
 ·exact (jJ (c.1,r1.1.2) _ ⟨hc.1,h1.1⟩ (by simp)).bind λ r2 h2=>Ens.some ⟨h2.1,by simp only[zt] at hw ⊢; omega⟩
 refine Ens.cond (λ _ => ?_) λ _ => ?_
 ·exact (jJ (c.1,r1.1.2) _ ⟨hc.1,h1.1⟩ (by simp)).bind λ r2 h2=>Ens.some ⟨h2.1,by simp only[zt] at hw ⊢; omega⟩
 refine Ens.cond (λ _ => ?_) λ _ => ?_
 ·exact (nw (c.1,r1.1.2) ⟨hc.1,h1.1⟩).bind λ r2 h2=>Ens.some ⟨h2.1,by have:=h2.2; simp only[zt] at hw ⊢; omega⟩
 refine Ens.cond (λ _ => ?_) λ _=>Ens.some ⟨h1.1,by dsimp only; omega⟩
 exact (T9 (c.1,r1.1.2) conf ⟨hc.1,h1.1⟩ hN).bind λ r2 h2=>Ens.some ⟨h2.1,by have:=h2.2; simp only[zt] at hw ⊢; omega⟩
theorem T5 (c:zL) (hc:z6 c):Ens (li (c,())) λ r=>0<=r.1.2.1/\r.2.1.length<=9:=by
 unfold li;refine Ens.loop (λ x=>(0<=x.2.1/\x.2.1<=9)/\0<=x.2.2.1.2.1/\(x.1.length:Int)<=x.2.1) (λ x=>(10 - x.2.1).toNat) ?_ ⟨by simp,hc.2,by simp⟩ (by dsimp only; rw[y9]; omega)
 intro rec x hx acB;obtain⟨x1,x2,x3⟩:=hx;refine (zF (c.1,x.2.2.1.2) 9 ⟨hc.1,x2⟩).bind λ r1 h1 => ?_;have a1:=h1.2.2 (by decide);refine Ens.cond (λ h => ?_) λ _=>Ens.some ⟨h1.1,by dsimp only; omega⟩
 have h:x.2.1<r1.2.1:=by simpa using h
 refine (L9 (c.1,r1.1.2) ⟨hc.1,h1.1⟩).bind λ r2 h2 => ?_;rw[se _ _ (by omega),alm,zg (n:=x.2.1+1) (by omega) (by omega)];have hl:=Bm x.1 r2.2.1;exact acB _ ⟨⟨by dsimp only; omega,by dsimp only; omega⟩,h2.1,by dsimp only; omega⟩ (by dsimp only; omega)
theorem T6 (c:zL) (hc:z6 c):Ens (lh (c,())) λ r=>0<=r.1.2.1/\r.2.1.length<=40:=by
 unfold lh;refine (T5 c hc).bind λ r0 h0 => ?_;have hw:=h0.2;refine (zF (c.1,r0.1.2) 8 ⟨hc.1,h0.1⟩).bind λ r1 h1 => ?_;refine Ens.cond (λ _ => ?_) λ _ => ?_
 ·refine (vP (c.1,r1.1.2) ⟨hc.1,h1.1⟩).bind λ r2 h2=>Ens.ite (by simp only[alr,als]; omega) (Ens.some ⟨h2,?_⟩)
  simp only[alv,alr,als]; omega
 refine Ens.cond (λ _ => ?_) λ _=>Ens.some ⟨h1.1,by dsimp only; omega⟩
 refine Ens.loop (λ x=>(0<=x.2.1/\x.2.1<=4)/\(x.1.length:Int)<=9+4*x.2.1) (λ x=>(5 - x.2.1).toNat) ?_ ⟨by simp,by dsimp only; omega⟩ (by dsimp only; rw[y9]; omega)
 intro rec x hx acB;obtain⟨x1,x3⟩:=hx;refine Ens.cond (λ h => ?_) λ _=>Ens.some ⟨h1.1,by dsimp only; omega⟩
 have h:x.2.1<4:=by simpa using h
 refine Ens.loop (λ y=>(0<=y.2.1/\y.2.1<=4)/\(y.1.length:Int)<=9+4*x.2.1+y.2.1) (λ y=>(5 - y.2.1).toNat) ?_ ⟨by simp,by dsimp only; omega⟩ (by dsimp only; rw[y9]; omega)
 intro rec2 y hy aki;obtain⟨y1,y3⟩:=hy;refine Ens.cond (λ h => ?_) λ hn => ?_
 ·have h:y.2.1<4:=by simpa using h
  rw[se _ _ (by omega),alm,zg (n:=y.2.1+1) (by omega) (by omega)];have hl:=Bm y.1 (x.2.1,0,0,y.2.1);exact aki _ ⟨⟨by dsimp only; omega,by dsimp only; omega⟩,by dsimp only; omega⟩ (by dsimp only; omega)
 ·have hn:¬ y.2.1<4:=by simpa using hn
  rw[zg (n:=x.2.1+1) (by omega) (by omega)];exact acB _ ⟨⟨by dsimp only; omega,by dsimp only; omega⟩,by dsimp only; omega⟩ (by dsimp only; omega)
theorem acf (l:yg) (p:zM):zI (l++[p])=zI l+(1+zm p):=by
 rw[Ez]; simp[zI]
theorem Tu (c:zL) (conf:za) (hc:z6 c):Ens (kv (c,conf,())) λ r=>0<=r.1.2.1/\zI r.2.1<=30000:=by
 unfold kv;refine Ens.loop (λ x=>(0<=x.2.1/\x.2.1<=5)/\0<=x.2.2.1.2.1/\(zI x.1:Int)<=2000*x.2.1) (λ x=>(6 - x.2.1).toNat) ?_ ⟨by simp,hc.2,by simp[zI]⟩ (by dsimp only; rw[y9]; omega)
 intro rec x hx acB;obtain⟨x1,x2,x3⟩:=hx;refine (zF (c.1,x.2.2.1.2) 5 ⟨hc.1,x2⟩).bind λ r1 h1 => ?_;have a1:=h1.2.2 (by decide);refine Ens.cond (λ h => ?_) λ _ => ?_
 ·have h:x.2.1<r1.2.1:=by simpa using h
  refine (nh (c.1,r1.1.2) conf ⟨hc.1,h1.1⟩).bind λ r2 h2 => ?_;have hn:=Zm h2.2.1;have hp:zm r2.2.1<=1940:=by have:=h2.2.2; simp only[zm,zn]; omega
  rw[bS _ _ _ (by omega) (by omega),alm,zg (n:=x.2.1+1) (by omega) (by omega)];have hl:=lr conf x.1 r2.2.1;exact acB _ ⟨⟨by dsimp only; omega,by dsimp only; omega⟩,h2.1,by dsimp only; omega⟩ (by dsimp only; omega)
 ·refine (YM (c.1,r1.1.2) 8 ⟨hc.1,h1.1⟩).bind λ r4 h4 => ?_;refine Ens.cond (λ _ => ?_) λ _=>Ens.some ⟨h4,by dsimp only; omega⟩
  refine (vK (c.1,r4.1.2) conf ⟨hc.1,h4⟩).bind λ r5 h5 => ?_;have hl:=Qb x.1;refine Ens.ite (by simp only[alr,als]; omega) (Ens.some ⟨h5.1,?_⟩)
  dsimp only;rw[acf];have:=h5.2;simp only[zm,zn];omega
theorem TA (c:zL) (hc:z6 c):Ens (kG (c,())) λ r=>0<=r.1.2.1/\zC r.2.1=true/\ze r.2.1 r.2.2.1=true:=by
 unfold kG;refine (TK c hc).bind λ r0 h0 => ?_;obtain⟨h0,h⟩:=h0;have hl:=h.len;have hb:=yi h.conf;refine (zF (c.1,r0.1.2) _ ⟨hc.1,h0⟩).bind λ r1 h1 => ?_;have a1:=h1.2.2 (by omega);refine Ens.ite ⟨h1.2.1,a1⟩ ?_;obtain⟨r,hr,hok,-⟩:=pM h h1.2.1 a1;rw[zu (e:=JG) hr];exact Ens.some ⟨h1.1,h.conf,hok⟩
def Po (r:zL×za×zb×Unit):Prop:=0<=r.1.2.1/\zC r.2.1=true/\zf r.2.2.1<=2000000/\(0<=r.2.2.1.2.1/\r.2.2.1.2.1<=61)
theorem ach (l:Zg) (p:J9):yt (l++[p])=yt l+(1+Yi p):=by
 simp[yt]; omega
theorem TB (c:zL) (hc:z6 c):Ens (MI (c,())) λ r=>0<=r.1.2.1/\zC r.2.1=true/\zf r.2.2.1<=600000/\(0<=r.2.2.1.2.1/\r.2.2.1.2.1<=61):=by
 unfold MI;refine (TA c hc).bind λ r0 h0 => ?_;obtain⟨h0,hcf,hok⟩:=h0;have hb:=yi hcf;have hw:=KB hok;obtain⟨-,-,hv,-⟩:=J0 hok;refine (zF (c.1,r0.1.2) 16 ⟨hc.1,h0⟩).bind λ r1 h1 => ?_;refine Ens.cond (λ _ => ?_) λ _ => ?_
 ·exact (jJ (c.1,r1.1.2) _ ⟨hc.1,h1.1⟩ (by simp)).bind λ r2 h2=>Ens.some ⟨h2.1,hcf,by simp only[zf] at hw ⊢; omega,by dsimp only; omega⟩
 refine Ens.cond (λ _ => ?_) λ _ => ?_
 ·refine (jJ (c.1,r1.1.2) _ ⟨hc.1,h1.1⟩ (by simp)).bind λ r2 h2=>Ens.some ⟨h2.1,hcf,by simp only[zf] at hw ⊢; omega,?_⟩
  have:=h2.2;simp only[alH,amd,or_false] at this;dsimp only; omega
 refine Ens.cond (λ _ => ?_) λ _ => ?_
 ·exact (jJ (c.1,r1.1.2) _ ⟨hc.1,h1.1⟩ (by simp)).bind λ r2 h2=>Ens.some ⟨h2.1,hcf,by simp only[zf] at hw ⊢; omega,by dsimp only; omega⟩
 refine Ens.cond (λ _ => ?_) λ _ => ?_
 ·exact (vL (c.1,r1.1.2) r0.2.1 ⟨hc.1,h1.1⟩ (by omega)).bind λ r2 h2=>Ens.some ⟨h2.1,hcf,by have:=h2.2; simp only[zf] at hw ⊢; omega,by dsimp only; omega⟩
 refine Ens.cond (λ _ => ?_) λ _ => ?_
 ·exact (T6 (c.1,r1.1.2) ⟨hc.1,h1.1⟩).bind λ r2 h2=>Ens.some ⟨h2.1,hcf,by have:=h2.2; simp only[zf,Y7] at hw ⊢; omega,by dsimp only; omega⟩
 refine Ens.cond (λ _ => ?_) λ _ => ?_
 ·exact (Tu (c.1,r1.1.2) r0.2.1 ⟨hc.1,h1.1⟩).bind λ r2 h2=>Ens.some ⟨h2.1,hcf,by have:=h2.2; simp only[zf] at hw ⊢; omega,by dsimp only; omega⟩
 refine Ens.cond (λ _ => ?_) λ _ => ?_
 ·exact (Tw (c.1,r1.1.2) ⟨hc.1,h1.1⟩).bind λ r2 h2=>Ens.some ⟨h2.1,hcf,by have:=h2.2; simp only[zf,JD] at hw ⊢; omega,by dsimp only; omega⟩
 refine Ens.cond (λ _ => ?_) λ _=>Ens.some ⟨h1.1,hcf,by dsimp only; omega,by dsimp only; omega⟩
 refine (zF (c.1,r1.1.2) 5 ⟨hc.1,h1.1⟩).bind λ r2 h2 => ?_;refine (Tz (c.1,r2.1.2) r0.2.1 ⟨hc.1,h2.1⟩ (by omega)).bind λ r3 h3 => ?_;have hl:r0.2.2.1.2.2.2.2.2.2.2.length<=260000:=by simp only[zf,yt] at hw; omega
 refine Ens.ite (by simp only[alr,als]; omega) (Ens.some ⟨h3.1,hcf,?_,by dsimp only; omega⟩)
 have:=h3.2;simp only[zf,ach,Yi] at hw ⊢; omega
theorem ni (c:zL) (hc:z6 c):Ens (MI (c,())) Po:=(TB c hc).mono λ _ h=>⟨h.1,h.2.1,Nat.le_trans h.2.2.1 (by decide),h.2.2.2⟩
theorem PG (a:jf):YD a a=true:=by simp[YD,pC]
theorem UD (a:zw):ZF a a=true:=by simp[ZF,PG,pC,MQ]
theorem gv (a:zr):jx a a=true:=by simp[jx,pC]
theorem rL (l:List Int) (h:l.length<=137438953472):NH (l,l,())=some (true,()):=by
 unfold NH;simp only[bne_self_eq_false,aln];refine cV l (true,()) (by omega) ?_ ?_
 ·intro rec s; simp
 ·intro rec i s x hx hi;simp only[aly,zz hi,alu,alo,if_true,alD,rd,am6,hx,alZ,zx (show i<4611686018427387904 by omega),bne_self_eq_false,aln]
theorem aa1 (l:zE) (h:l.length<=137438953472):ew (l,l,())=some (true,()):=by
 unfold ew;simp only[bne_self_eq_false,aln];refine cV l (true,()) (by omega) ?_ ?_
 ·intro rec s; simp
 ·intro rec i s x hx hi;simp only[aly,zz hi,alu,alo,if_true,alD,rd,am6,hx,alZ,zx (show i<4611686018427387904 by omega),beq_self_eq_true,amn,alt,aln]
theorem X9 (p:zM) (h:zm p<=137438953472):eu (p,p,())=some (true,()):=by
 unfold eu;simp only[beq_self_eq_true,cond_true,rL p.2.2 (by simp only[zm,zn] at h; omega),Option.bind_some]
theorem acg {l:yg} {x:zM} {N:Nat} (hw:zI l<=N) {i:Nat} (hx:l[i]?=some x):zm x<=N:=by
 have:=ZX zm (List.mem_of_getElem? hx); unfold zI at hw; omega
theorem aa0 (l:yg) (h:zI l<=137438953472):ev (l,l,())=some (true,()):=by
 have hl:=Qb l;unfold ev;simp only[bne_self_eq_false,aln];refine cV l (true,()) (by omega) ?_ ?_
 ·intro rec s; simp
 ·intro rec i s x hx hi;simp only[aly,zz hi,alu,alo,if_true,alD,rd,am6,hx,alZ,zx (show i<4611686018427387904 by omega),X9 x (acg h hx),alm,alt,aln]
theorem rN (r:zb) (h:zf r<=137438953472):NI (r,r,())=some (true,()):=by
 have h':=h;simp only[zf,Y7,yt] at h;unfold NI;simp only[bne_self_eq_false,aln,sq r.2.2.2.1 r.2.2.2.1 (by omega),gv,alm,alt,aa1 r.2.2.2.2.1 (by omega),aa0 r.2.2.2.2.2.1 (by omega),X6];refine cV r.2.2.2.2.2.2.2 (true,()) (by omega) ?_ ?_
 ·intro rec s; simp
 ·intro rec i s x hx hi;have hm:zj x.2<=137438953472:=lD (N:=137438953472) (by simp only[yt]; omega) hx
  simp only[aly,zz hi,alu,alo,if_true,alD,rd,am6,hx,alZ,zx (show i<4611686018427387904 by omega),bne_self_eq_false,aln,qq x.2 x.2 (MsgW.of hm),UD,alm,alt]
theorem Sg {s t post:List UInt8} {at_:Int} (h0:0<=at_) (ht:t.length<=2147483647) (hs:s.drop at_.toNat=zX t++post):zp s at_=(t,at_+((zX t).length:Int),true):=by
 have h:=(pG (r:=(at_,true)) rfl h0 ht hs).1;unfold ya at h;split at h
 ·next hc=>
  simp only[alw,and_true] at h;rw[←h.1,←h.2,←hc.1]
 ·simp at h
theorem Sf {s:List UInt8} {at_:Int} (h:(zp s at_).2.2=true):(zp s at_).2.1=at_+((zX (zp s at_).1).length:Int)/\s.drop at_.toNat=zX (zp s at_).1++s.drop (zp s at_).2.1.toNat:=by
 have e:ya s (at_,true)=(((zp s at_).2.1,true),(zp s at_).1):=by unfold ya; rw[if_pos ⟨h,rfl⟩]
 have h2:=Vm (s:=s) (r:=(at_,true)) (by rw[e]);rw[e] at h2;obtain⟨_,_,h3,h4⟩:=h2;simp only[alw,and_true] at h3;exact⟨h3,h4⟩
theorem Vh (t:List UInt8) (h:t.length<=2147483647):1<=(zX t).length:=by
 unfold zX;rw[aR h,alv];have:=fN (n:=t.length);omega
def Y8 (c:za) (s:List UInt8) (at_:Nat) (t:List UInt8):Prop:=t.length<=2147483647/\(y5 c t).2=true/\∃ post,s.drop at_=zX t++10::post
noncomputable def j9 (at_:Nat) (t:List UInt8):Nat:=at_+(zX t).length+1
noncomputable def ZO (c:za) (s:List UInt8) (at_:Nat) (old:zr):zr×Int:=jb c s (s.length+1) at_ old
theorem RG {α:Type} {a b:List α} {s:List α} {i:Nat} (h:s.drop i=a++b) (ha:0<a.length):i+a.length<=s.length/\s.drop (i+a.length)=b:=by
 have h1:=congrArg List.length h;simp only[alF,alv] at h1;refine⟨by omega,?_⟩;rw[←alY,h];simp
theorem Mb {c:za} {s:List UInt8} {at_:Nat} {t:List UInt8} (h:Y8 c s at_ t):j9 at_ t<=s.length:=by
 obtain⟨h1,_,post,h2⟩:=h;have:=congrArg List.length h2;simp only[alF,alv,alr] at this;unfold j9;omega
theorem Nq {c:za} {s:List UInt8} {at_:Nat} {t:List UInt8} {old:zr} (h:Y8 c s at_ t):ZO c s at_ old=ZO c s (j9 at_ t) (y5 c t).1:=by
 have hle:=Mb h;obtain⟨h1,h2,post,h3⟩:=h;have hp:=Vh t h1;have hg:=Sg (at_:=(at_:Int)) (by omega) h1 h3;obtain⟨h4,h5⟩:=RG h3 (by omega);unfold j9 at hle ⊢;unfold ZO;have e:jb c s (s.length+1) at_ old=jb c s s.length (at_+(zX t).length+1) (y5 c t).1:=by
  rw[jb];simp only[hg];have e1:((at_:Int)+((zX t).length:Int)).toNat=at_+(zX t).length:=by omega
  have e2:((at_:Int)+((zX t).length:Int)+1).toNat=at_+(zX t).length+1:=by omega
  have e3:s.getD (at_+(zX t).length) 0=10:=by
   rw[am6,←amf (at_+(zX t).length),←amp,h5]; rfl
  rw[e1,e2,e3,h2,show decide ((at_:Int)+((zX t).length:Int)<(s.length:Int))=true by simp; omega]
  rfl
 rw[e];exact eo c s _ _ _ (by omega) _ (by omega)
theorem Qu {c:za} {s:List UInt8} {at_:Nat} {old:zr} (h:∀ t,¬ Y8 c s at_ t):ZO c s at_ old=(old,(at_:Int)):=by
 unfold ZO;rw[jb];cases h1:(zp s (at_:Int)).2.2
 ·rfl
 ·obtain⟨g1,g2⟩:=Sf h1;obtain⟨_,_,_,g3,g4,g5,g6⟩:=L1 h1;by_cases hc:((zp s (at_:Int)).2.1<(s.length:Int))/\s.getD (zp s (at_:Int)).2.1.toNat 0=10/\(y5 c (zp s (at_:Int)).1).2=true
  ·exfalso;obtain⟨k1,k2,k3⟩:=hc;have hl:(zp s (at_:Int)).1.length<=2147483647:=by
    have:=JP s at_ g4;rw[g6]; simp only[alE,alF]; omega
   refine h (zp s (at_:Int)).1 ⟨hl,k3,s.drop ((zp s (at_:Int)).2.1.toNat+1),?_⟩;have hi:(zp s (at_:Int)).2.1.toNat<s.length:=by omega
   rw[show ((at_:Nat):Int).toNat=at_ from rfl] at g2;rw[g2,alJ hi];congr 2;rw[am6,am5 hi] at k2;exact k2
  ·have:(decide ((zp s (at_:Int)).2.1<(s.length:Int)) && (s.getD (zp s (at_:Int)).2.1.toNat 0==10 && (y5 c (zp s (at_:Int)).1).2))=false:=by
    cases hh:(decide ((zp s (at_:Int)).2.1<(s.length:Int)) && (s.getD (zp s (at_:Int)).2.1.toNat 0==10 && (y5 c (zp s (at_:Int)).1).2))
    ·rfl
    ·simp only[alp,alz,alT] at hh;exact absurd hh hc
   rw[this]; rfl
theorem UQ {c:za} {s t x:List UInt8} {at_:Nat} (h:Y8 c s at_ t):Y8 c (s++x) at_ t:=by
 have hle:=Mb h;obtain⟨h1,h2,post,h3⟩:=h;refine⟨h1,h2,post++x,?_⟩;unfold j9 at hle;rw[ant (by omega),h3];simp
theorem uS (c:za) (s x:List UInt8):∀ (k at_:Nat) (old:zr),s.length - at_<k->at_<=s.length->(ZO c s at_ old).2=(s.length:Int)->ZO c (s++x) at_ old=ZO c (s++x) s.length (ZO c s at_ old).1
 | 0,_,_,h,_,_=>by omega
 | k+1,at_,old,h,h1,h2=>by
  by_cases hn:∃ t,Y8 c s at_ t
  ·obtain⟨t,ht⟩:=hn;have hle:=Mb ht;rw[Nq ht] at h2 ⊢;rw[Nq (UQ ht)];refine uS c s x k _ _ ?_ hle h2;unfold j9 at hle ⊢;omega
  ·have hs:=Qu (old:=old) (λ t ht=>hn ⟨t,ht⟩);rw[hs] at h2 ⊢;have:at_=s.length:=by simp only at h2; omega
   subst this;rfl
theorem nB (c:za) (s:List UInt8):yY c s=ZO c s 0 jW:=rfl
theorem CX {c:za} {s:zr} (h:zU c s=true):(0<=s.1/\s.1<=60)/\(0<=s.2.1/\s.2.1<=60)/\z8 c s.2.2.1=true:=by
 unfold zU at h;simp only[alp,alz] at h;exact⟨⟨h.1.1,h.1.2⟩,⟨h.2.1.1,h.2.1.2⟩,h.2.2.1⟩
theorem CU {c:za} {s:zr} (h:zU c s=true):y5 c (jn c s)=(s,true):=by
 have hw:=rK h;obtain⟨r1,r2,r3⟩:=CX h;obtain⟨v1,v2,v3,v4⟩:=acb r3;have e:jn c s=zq s.1++(zq s.2.1++(JY s.2.2.1++zX s.2.2.2)):=by
  unfold jn;rw[h,alo,Vi r3];simp only[alW]
 have hd:s.2.2.2.length<=2147483647:=by simp only[zt] at hw; omega
 generalize hb:jn c s=b at *;obtain⟨a1,a2⟩:=aW (s:=b) (r:=(0,true)) rfl (Int.le_refl _) (n:=s.1) (by omega) (by simpa using e);obtain⟨b1,b2⟩:=aW (s:=b) (r:=(0+((zq s.1).length:Int),true)) rfl (by simp only; omega) (n:=s.2.1) (by omega) a2
 obtain⟨d1,d2⟩:=Vl (s:=b) (r:=(0+((zq s.1).length:Int)+((zq s.2.1).length:Int),true)) rfl (by simp only; omega) v1 v2 v3 v4 b2
 obtain⟨f1,f2⟩:=pG (s:=b) (r:=(0+((zq s.1).length:Int)+((zq s.2.1).length:Int)+((JY s.2.2.1).length:Int),true)) (post:=[]) rfl (by simp only; omega) hd (by rw[anb]; exact d2)
 have hr:yx b=((0+((zq s.1).length:Int)+((zq s.2.1).length:Int)+((JY s.2.2.1).length:Int)+((zX s.2.2.2).length:Int),true),s):=by
  unfold yx;simp only[a1,b1,d1,f1]
 have hl:(b.length:Int)=0+((zq s.1).length:Int)+((zq s.2.1).length:Int)+((JY s.2.2.1).length:Int)+((zX s.2.2.2).length:Int):=by
  rw[e]; simp only[alv]; omega
 unfold y5;rw[hr,hl,h];simp
theorem US {c:za} {s:zr} (h:zU c s=true):yn c s=zX (jn c s)++[10]:=by
 obtain⟨r1,r2,r3⟩:=CX h;have h0:((((jn c s).length:Int))==0)=false:=by
  unfold jn;rw[h,alo,show s.1=((s.1.toNat:Nat):Int) by omega,aR (by omega)];have:=fN (n:=s.1.toNat);simp only[alv];simp; omega
 unfold yn zX;rw[h0,aln];rfl
theorem Uc {c:za} {b:List UInt8} {s:zr} (h:zU c s=true) (hu:(yY c b).2=(b.length:Int)):yY c (b++yn c s)=(s,((b++yn c s).length:Int)):=by
 have hw:=gu c s;have hs:=rK h;have hn:=US h;rw[nB] at hu ⊢;rw[uS c b (yn c s) (b.length+1) 0 jW (by omega) (by omega) hu];have hat:Y8 c (b++yn c s) b.length (jn c s):=⟨by omega,by rw[CU h],[],by rw[hn]; simp⟩
 rw[Nq hat,CU h];have he:j9 b.length (jn c s)=(b++yn c s).length:=by rw[hn]; unfold j9; simp; omega
 rw[he];refine Qu λ t ht => ?_;have:=Mb ht;unfold j9 at this;omega
theorem acs {c:za} {r:zb} {s:zr} (h:(write c r s).2=true):jx (write c r s).1.2.2.2.1 s=true/\(kept c r=true->kept c (write c r s).1=true):=by
 have hok:ze c r=true:=by
  unfold write at h;cases hr:ze c r
  ·rw[hr] at h; cases h
  ·rfl
 have hw:write c r s=zv c r s:=by unfold write; rw[hok]; rfl
 rw[hw] at h ⊢;have hk:=(aa hok s).1.1;unfold zv at h hk ⊢;cases h1:jx r.2.2.2.1 s
 ·rw[h1,aln] at h hk;rw[aln];cases h2:(yE r.2.2.2.2.2.2.1 (yn c s)).2 && zU c s
  ·rw[h2] at h; cases h
  ·rw[h2,alo] at hk;simp only[alp] at h2;rw[alo];refine⟨gv s,λ hkp => ?_⟩;unfold kept at hkp ⊢;simp only[alp,alT] at hkp ⊢;refine⟨hk,?_⟩;have ha:(yE r.2.2.2.2.2.2.1 (yn c s)).1.1=r.2.2.2.2.2.2.1.1++yn c s:=by
    have:=h2.1;unfold yE at this ⊢;split
    ·rfl
    ·next hn=>rw[if_neg hn] at this; cases this
   dsimp only[MX];rw[ha,Uc h2.2 hkp.2.2];exact⟨gv s,rfl⟩
 ·exact⟨h1,λ hkp=>hkp⟩
theorem af0 {c:za} {r:zb} {to:Int} {m:zw} (h:(ZM c r to m).2=true):(ZM c r to m).1=Qw r to m:=by
 unfold ZM at *;cases hk : !decide ((r.2.2.2.2.2.2.2.length:Int)≥30) && Z3 c r.1 (to,m)
 ·rw[hk] at h; cases h
 ·rfl
theorem ahU {c:za} {r:zb} {to:Int} {m:zw} (h:(tell c r to m).2=true):(tell c r to m).1=Qw r to m:=by
 unfold tell at *;cases hk:ze c r
 ·rw[hk] at h; cases h
 ·rw[hk] at h; exact af0 h
theorem af7 (code:List UInt8) (hb:code.length<=big):Ens (adv (code,())) λ r=>zC r.1=true/\zf r.2.1<=2000000/\zj r.2.2.1<=8000:=by
 unfold adv;refine (eg code hb).bind λ r0 h0 => ?_;refine (ni r0 h0.1).bind λ r1 h1 => ?_;have hc:=yi h1.2.1;exact (Tz (r0.1,r1.1.2) r1.2.1 ⟨h0.1.1,h1.1⟩ (by omega)).bind λ r2 h2=>Ens.some ⟨h1.2.1,h1.2.2.1,h2.2⟩
theorem af5 (code:List UInt8) (hb:code.length<=big):Ens (adr (code,())) λ r=>zC r.1=true/\zf r.2.1<=2000000:=by
 unfold adr;refine (eg code hb).bind λ r0 h0 => ?_;exact (ni r0 h0.1).bind λ r1 h1=>Ens.some ⟨h1.2.1,h1.2.2.1⟩
theorem af4 (code:List UInt8) (hb:code.length<=big):Ens (adq (code,())) λ r=>zC r.1=true/\zf r.2.1<=2000000/\r.2.2.2.1.length<=2000000:=by
 unfold adq;refine (eg code hb).bind λ r0 h0 => ?_;refine (ni r0 h0.1).bind λ r1 h1 => ?_;refine (YM (r0.1,r1.1.2) 2 ⟨h0.1.1,h1.1⟩).bind λ r2 h2 => ?_;have hno:∀ p:Int×Int,0<=p.1->Ens ((zk ((r0.1,p),5,())).bind λ r5=>(LE ((r0.1,r5.1.2),())).bind λ r6=>some (r1.2.1,r1.2.2.1,r5.2.1,r6.2.1,r2.2.1,())) λ r=>zC r.1=true/\zf r.2.1<=2000000/\r.2.2.2.1.length<=2000000:=by
  intro p hp;refine (zF (r0.1,p) 5 ⟨h0.1.1,hp⟩).bind λ r5 h5 => ?_;refine (ae (r0.1,r5.1.2) ⟨h0.1.1,h5.1⟩).bind λ r6 h6=>Ens.some ⟨h1.2.1,h1.2.2.1,?_⟩;have:=Zm h6.2;dsimp only; omega
 refine Ens.cond (λ h => ?_) λ _=>hno _ h2;have h:(r1.2.2.1.2.2.2.2.2.1.length:Int)>0:=by simpa using h
 refine (YM (r0.1,r2.1.2) 4 ⟨h0.1.1,h2⟩).bind λ r3 h3 => ?_;refine Ens.cond (λ _ => ?_) λ _=>hno _ h3;refine (zF (r0.1,r3.1.2) _ ⟨h0.1.1,h3⟩).bind λ r4 h4 => ?_;have a4:=h4.2.2 h;refine Ens.ite ⟨h4.2.1,a4⟩ (Ens.some ⟨h1.2.1,h1.2.2.1,?_⟩);have hi:r4.2.1.toNat<r1.2.2.1.2.2.2.2.2.1.length:=by omega
 have hg:=List.getElem?_eq_getElem hi;rw[zu (e:=JF) hg];have hw:=h1.2.2.1;have:=acg (Nat.le_refl (zI r1.2.2.1.2.2.2.2.2.1)) hg;simp only[zf] at hw;simp only[zm] at this ⊢;omega
end G448
