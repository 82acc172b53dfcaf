/- Plain laws, part 3: what the functions compute. No program in sight. -/
import Derived.Test.YtppjgjdlnikigaaGreatDoorAcPureB
set_option linter.unusedSimpArgs false
set_option linter.unusedVariables false
namespace G448
open Ev Go
set_option maxRecDepth 100000
theorem ahL {c:za} {r:zb} {to:Int} {m:zw} (h:(tell c r to m).2=true):(tell c r to m).1.2.2.2.2.2.2.2.length=r.2.2.2.2.2.2.2.length+1:=by
 rw[ahU h];simp[Qw]
theorem agU {c:za} {r:zb} (h:(late c r).2=true):(late c r).1.2.1=r.2.1+1/\(1<=r.2.1/\r.2.1<60):=by
 unfold late at *;cases hk:ze c r
 ·rw[hk] at h; cases h
 have hv:=N0 hk;rw[hk] at h;simp only[alt,aln] at h ⊢;by_cases h60:r.2.1≥60
 ·simp only[h60,alu,alo] at h; cases h
 simp only[h60,alx,aln] at h ⊢;refine⟨?_,by omega⟩;cases hr:(je c (r.2.1+1)==r.1)
 ·rw[hr] at h;simp only[aln] at h ⊢;cases ht:(ZM c (yN r (r.2.1+1)) (je c (r.2.1+1)) (3,r.2.1+1,([],0,[],[]),(0,[],[]),r.2.2.2.1.2.2.1,r.1,0,0,0,0)).2
  ·rw[ht] at h; cases h
  ·simp only[alt,aln];rw[af0 ht];rfl
 ·rw[hr] at h;simp only[alo] at h ⊢;cases ht:(zW c r.2.2.2.2.2.1 (r.2.1+1,[],[r.1])).2
  ·rw[ht] at h; cases h
  ·rfl
theorem agb {c:za} {r:zb} (h:(ask c r).2=true):jX c (ask c r).1=true/\zo (ask c r).1.1=r.2.1:=by
 unfold ask at *;cases hk:ze c r && (je c r.2.1==r.1 && (!decide (r.2.2.1≥r.2.1) && (r.2.2.2.1.2.2.1.1==wr (r.2.1 - 1) || decide (((jF r.2.2.2.2.2.1 r.2.1 []).2.2.length:Int)≥Jt c))))
 ·rw[hk] at h; cases h
 ·rw[hk,alo] at h;rw[alo];unfold mb KZ at h ⊢;generalize Zl r.2.2.2.1.2.2.1.2.1 r.2.1 (NX r.2.2.2.2.1 (Za jZ (jQ r.2.2.2.1.2.2.1.2.1)).2)=nm at *;cases hb:jX c (nm,r.2.2.2.1.2.2.1) && zo nm==r.2.1
  ·rw[hb] at h; cases h
  ·simp only[alp,alT] at hb;exact hb
theorem ahI {c:za} {r:zb} (h:ze c r=true):(Zd c r).1.2.2.2.2.2.2.2=[]/\(Zd c r).2=r.2.2.2.2.2.2.2/\(Zd c r).1.2.2.2.2.2.2.1.2=((Zd c r).1.2.2.2.2.2.2.1.1.length:Int):=by
 obtain⟨-,-,-,-,-,-,-,hd,-,-⟩:=J0 h;unfold Zd;rw[h,alo];refine⟨rfl,rfl,?_⟩;unfold qV;rw[if_pos hd]
theorem ae0 {c:za} {r r':zb} (hk:ze c r'=true) (h1:r'.2.2.2.1=r.2.2.2.1) (h2:r'.2.2.2.2.2.2.1=r.2.2.2.2.2.2.1) (h:kept c r=true):kept c r'=true:=by
 unfold kept at h ⊢;rw[hk,h1,h2];simp only[alp] at h ⊢;exact⟨trivial,h.2⟩
theorem acI {c:za} {r:zb} (h:kept c r=true):ze c r=true:=by
 unfold kept at h;simp only[alp] at h;exact h.1
theorem aeZ {c:za} {r:zb} (h:kept c r=true) (to:Int) (m:zw):kept c (ZM c r to m).1=true:=by
 have hk:=(ne (acI h) to m).1;unfold ZM at hk ⊢;cases hc:(!decide ((r.2.2.2.2.2.2.2.length:Int)≥30) && Z3 c r.1 (to,m))
 ·exact h
 ·rw[hc,alo] at hk;rw[alo];exact ae0 (r:=r) (r':=Qw r to m) hk rfl rfl h
theorem ai3 {c:za} {r:zb} (h:kept c r=true) (s:zr):kept c (zv c r s).1=true:=by
 have hw:write c r s=zv c r s:=by unfold write; rw[acI h]; rfl
 cases hf:(zv c r s).2
 ·rw[EI hf]; exact h
 ·rw[←hw] at hf ⊢;exact (acs hf).2 h
theorem agP {c:za} {r:zb} {v:Int} (h:kept c r=true) (hv:1<=v/\v<=60):kept c (yN r v)=true:=ae0 (r:=r) (r':=yN r v) (vu (acI h) hv) rfl rfl h
theorem ahX {c:za} {r:zb} (h:kept c r=true) (q:zJ):kept c (top c r q).1=true:=by
 have k1:=ai3 h (see c r.2.2.2.1 q);have k2:=(aa (acI h) (see c r.2.2.2.1 q)).2;have hv:=N0 (acI h);unfold top;cases (zv c r (see c r.2.2.2.1 q)).2
 ·exact h
 ·simp only[alt,aln];by_cases h60:q.1+1>60
  ·simp only[h60,alu,alo]; exact k1
  ·have k3:=agP (v:=max (zv c r (see c r.2.2.2.1 q)).1.2.1 (q.1+1)) k1 (by rw[k2]; omega)
   simp only[h60,alx,aln];cases (je c (q.1+1)==r.1)
   ·exact aeZ k3 _ _
   ·exact k3
theorem agc {c:za} {r:zb} (h:kept c r=true) (v:Int) (name:List UInt8) (force:Bool):kept c (climb c r v name force).1=true:=by
 unfold climb;cases (ze c r && (Jd c r v name force).2)
 ·exact h
 ·rw[alo];unfold Jd;cases (((jF r.2.2.2.2.2.1 v name).2.2.length:Int)==0)
  ·cases (name==([]:List UInt8))
   ·simp only[aln];cases (je c v==r.1)
    ·simp only[aln];cases (!force && decide ((K3 (under c v r.1) (jF r.2.2.2.2.2.1 v name).2.2:Int)<((under c v r.1).length:Int)))
     ·exact aeZ h _ _
     ·exact h
    ·simp only[alo];cases (Jq c (jF r.2.2.2.2.2.1 v name)).2
     ·exact h
     ·exact ahX h _
   ·exact h
  ·exact h
theorem af8 (code:List UInt8) (hb:code.length<=big):Ens (adt (code,())) λ r=>zf r.2.1<=2000000/\zj r.2.2.2.1<=8000:=by
 unfold adt;refine (eg code hb).bind λ r0 h0 => ?_;refine (ni r0 h0.1).bind λ r1 h1 => ?_;have hc:=yi h1.2.1;refine (zF (r0.1,r1.1.2) 9 ⟨h0.1.1,h1.1⟩).bind λ r2 h2 => ?_;exact (Tz (r0.1,r2.1.2) r1.2.1 ⟨h0.1.1,h2.1⟩ (by omega)).bind λ r3 h3=>Ens.some ⟨h1.2.2.1,h3.2⟩
theorem af3 (code:List UInt8) (hb:code.length<=big):Ens (adp (code,())) λ r=>zf r.2.1<=2000000:=by
 unfold adp;refine (eg code hb).bind λ r0 h0 => ?_;exact (ni r0 h0.1).bind λ r1 h1=>Ens.some h1.2.2.1
theorem af6 (code:List UInt8) (hb:code.length<=big):Ens (ads (code,())) λ r=>zf r.2.1<=2000000:=by
 unfold ads;refine (eg code hb).bind λ r0 h0 => ?_;exact (ni r0 h0.1).bind λ r1 h1=>Ens.some h1.2.2.1
theorem law_Acts (code:List UInt8) (hb:code.length<=big):laws_FnActs (code,())=some (true,()):=by
 suffices h:Ens (laws_FnActs (code,())) λ r=>r=(true,()) by
  obtain⟨y,hy,rfl⟩:=h;exact hy
 unfold laws_FnActs nD;dsimp only;by_cases ad5:(code.length:Int)>1048576
 ·simp only[ad5,alu,alm,alo];exact Ens.some rfl
 rw[show decide ((code.length:Int)>1048576)=false by simpa using ad5,alm,aln];refine (af8 code hb).bind λ r1 h1 => ?_;obtain⟨c,r,to,m,u1⟩:=r1;obtain⟨hr,hm⟩:zf r<=2000000/\zj m<=8000:=h1;have a1:=abV c r to m;dsimp only;rw[acH c r to m (by omega) (by omega),alm,ahH c r to m (by omega) (by omega),alm];refine (af7 code hb).bind λ r2 h2 => ?_;obtain⟨d,x,n,u2⟩:=r2;obtain⟨-,hx,hn⟩:zC d=true/\zf x<=2000000/\zj n<=8000:=h2;have a2:=ahJ d x n;dsimp only;rw[agI d x n (by omega) (by omega),alm,abs d x n (by omega) (by omega),alm];refine (af4 code hb).bind λ r3 h3 => ?_;obtain⟨e,k,view,name,push,u3⟩:=r3;obtain⟨-,hk,hna⟩:zC e=true/\zf k<=2000000/\name.length<=2000000:=h3;have a3:=agd e k view name push;dsimp only;rw[agm e k view name push (by omega) (by omega),alm,aaY e k view name push (by omega) (by omega),alm];refine (af5 code hb).bind λ r4 h4 => ?_;obtain⟨f,l,u4⟩:=r4;obtain⟨-,hl⟩:zC f=true/\zf l<=2000000:=h4;have a4:=agX f l;dsimp only;rw[agr f l (by omega),alm,ab8 f l (by omega),alm];refine (af3 code hb).bind λ r5 h5 => ?_;obtain⟨q,s,ai5⟩:=r5;have hs:zf s<=2000000:=h5;have a5:zD (ask q s).1<=3847:=by
  unfold ask;cases ze q s && (je q s.2.1==s.1 && (!decide (s.2.2.1≥s.2.1) && (s.2.2.2.1.2.2.1.1==wr (s.2.1 - 1) || decide (((jF s.2.2.2.2.2.1 s.2.1 []).2.2.length:Int)≥Jt q))))
  ·simp[cy,zD,zi,zn]
  ·exact PD _ _ _ _
 have b5:(ask q s).1.2.2.2.length<=3847/\(ask q s).1.1.length<=3847:=by simp only[zD,zi,zn] at a5; omega
 dsimp only;rw[agj q s (by omega),alm,Dw q s (by omega),alm];dsimp only;simp only[bne_self_eq_false,aln];rw[rN _ (by omega),alm,alt,aln,rN _ (by omega),alm,alt,aln,rN _ (by omega),alm,alt,aln,rN _ (by omega),alm,alt,aln,
  Su _ _ (by omega),alm,PG,alt,aln]
 refine (af6 code hb).bind λ r6 h6 => ?_;obtain⟨v,w,ai4⟩:=r6;have hw:zf w<=2000000:=h6;have a6:=abN v w;dsimp only;rw[agE v w (by omega),alm,abp v w (by omega),alm];dsimp only;simp only[bne_self_eq_false,aln];rw[rN _ (by omega),alm,alt,aln];rw[Kf v w (by omega),dm e k (by omega),dm e (climb e k view name push).1 (by omega),Kf f l (by omega),Kf f (late f l).1 (by omega),Ss q (ask q s).1 (by omega),vj (ask q s).1.1 (by omega)];simp only[alm];have t1:(tell c r to m).2=true->((((tell c r to m).1.2.2.2.2.2.2.2.length:Nat):Int)==wr (((r.2.2.2.2.2.2.2.length:Nat):Int)+1))=true:=by
  intro h;have hh:=ahL h;have:r.2.2.2.2.2.2.2.length<=2000000:=by simp only[zf,yt] at hr; omega
  rw[zg (by omega) (by omega),hh];simp
 have t2:(late f l).2=true->((late f l).1.2.1==wr (l.2.1+1))=true:=by
  intro h;obtain⟨g1,g2⟩:=agU h;rw[zg (by omega) (by omega),g1];simp
 have t3:(ask q s).2=true->(jX q (ask q s).1=true/\(zo (ask q s).1.1==s.2.1)=true):=by
  intro h;obtain⟨g1,g2⟩:=agb h;exact⟨g1,by rw[g2]; simp⟩
 have t4:kept e k=true->kept e (climb e k view name push).1=true:=λ h=>agc h view name push;have t5:ze f l=true->ze f (late f l).1=true:=λ h=>(Tn h).1;have t6:ze v w=true->decide ((((Zd v w).1.2.2.2.2.2.2.2.length:Nat):Int)>0)=false/\((((Zd v w).2.length:Nat):Int) != ((w.2.2.2.2.2.2.2.length:Nat):Int))=false/\((Zd v w).1.2.2.2.2.2.2.1.2 != (((Zd v w).1.2.2.2.2.2.2.1.1.length:Nat):Int))=false:=by
  intro h;obtain⟨g1,g2,g3⟩:=ahI h;rw[g1,g2,g3];simp
 cases h6:ze v w;all_goals first
  | simp only[(t6 h6).1,(t6 h6).2.1,(t6 h6).2.2,alo,aln]
  | simp only[aln]
 all_goals cases h4:kept e k
 all_goals first
  | simp only[t4 h4,alt,alo,aln]
  | simp only[aln]
 all_goals cases h5:ze f l
 all_goals first
  | simp only[t5 h5,alt,alo,aln]
  | simp only[aln]
 all_goals cases h1:(tell c r to m).2
 all_goals first
  | simp only[t1 h1,alt,alo,aln]
  | simp only[alP,alo]
 all_goals cases h2:(late f l).2
 all_goals first
  | simp only[t2 h2,alt,alo,aln]
  | simp only[alP,alo]
 all_goals cases h3:(ask q s).2
 all_goals first
  | (simp only[(t3 h3).1,(t3 h3).2,alt,alo,aln]; exact Ens.some rfl)
  | (simp only[alP,alo]; exact Ens.some rfl)
end G448
