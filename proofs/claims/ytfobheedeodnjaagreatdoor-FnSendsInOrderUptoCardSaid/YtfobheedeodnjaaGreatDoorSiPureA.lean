/- Plain laws, part 1: what the functions compute. No program in sight. -/
import Derived.Test.YtfobheedeodnjaaGreatDoorSiFns
import Derived.Lib.IndexBytes
import Derived.Lib.IndexLaws
import Derived.Lib.SplitLaws
import Derived.Lib.ItoaNum
import Derived.Lib.LastIndexByte
set_option linter.unusedSimpArgs false
set_option linter.unusedVariables false
namespace G448
open Ev
theorem Qd {S R:Type} {G:(S->Option R)->S->Option R} (f:S->Option R) (μ:S->Nat) (I:S->Prop)
  (h:∀ (rec:S->Option R) (x:S),I x->(∀ y,I y->μ y<μ x->rec y=f y)->G rec x=f x):∀ (n:Nat) (x:S),I x->μ x<n->iter G n x=f x
 | 0,x,_,hn=>by omega
 | n+1,x,hx,hn=>h (iter G n) x hx λ y hy hlt=>Qd f μ I h n y hy (by omega)
def KN {α S R:Type} (body:α->S->(S->Option R)->Option R) (k:S->Option R):List α->S->Option R
 | [],s=>k s
 | x::xs,s=>body x s (KN body k xs)
theorem kG {α S R:Type} (body:α->S->(S->Option R)->Option R) (k:S->Option R) (x:α) (xs:List α) (s:S):KN body k (x::xs) s=body x s (KN body k xs):=rfl
theorem sV {X S R:Type} (len:Nat) {G:(X->Option R)->X->Option R} (mk:Int->S->X) (f:Nat->S->Option R) (W2:len<=1152921504606846976)
  (Xh:∀ rec s,G rec (mk (len:Int) s)=f len s)
  (Xd:∀ rec (i:Nat) s,i<len->(∀ s',rec (mk ((i:Int)+1) s')=f (i+1) s')->G rec (mk (i:Int) s)=f i s):
  ∀ n i s,i<=len->len - i<n->iter G n (mk (i:Int) s)=f i s
 | 0,i,s,_,hn=>by omega
 | n+1,i,s,hi,hn=>by
  rcases Nat.lt_or_ge i len with h|h
  ·exact Xd (iter G n) i s h λ s'=>sV len mk f W2 Xh Xd n (i+1) s' (by omega) (by omega)
  ·have:i=len:=by omega
   subst this;exact Xh (iter G n) s
theorem Jv {n:Nat} (h:n<=1152921504606846976):n<fuel:=by rw[ja]; omega
theorem qG {α X S R:Type} (l:List α) {G:(X->Option R)->X->Option R} (body:α->S->(S->Option R)->Option R) (k:S->Option R) (mk:Int->S->X) (hl:l.length<=1152921504606846976)
  (Xh:∀ rec s,G rec (mk (l.length:Int) s)=k s)
  (Xd:∀ rec (i:Nat) s (x:α),l[i]?=some x->i<l.length->G rec (mk (i:Int) s)=body x s (λ s'=>rec (mk ((i:Int)+1) s')))
  (afj:∀ x s (r1 r2:S->Option R),(∀ s',r1 s'=r2 s')->body x s r1=body x s r2) (s:S):iter G fuel (mk 0 s)=KN body k l s:=by
 have:=sV l.length mk (λ i s=>KN body k (l.drop i) s) hl (λ rec s=>by simpa[KN] using Xh rec s) (λ rec i s hi WW=>by
  rw[Xd rec i s l[i] (List.getElem?_eq_getElem hi) hi,List.drop_eq_getElem_cons hi];exact afj _ _ _ _ WW) fuel 0 s (Nat.zero_le _) (by simpa using Jv hl)
 simpa using this
theorem zg {n:Int} (h1 : -9223372036854775808<=n) (h2:n<=9223372036854775807):wr n=n:=by rw[gH]; omega
theorem zt {i:Nat} (h:i<4611686018427387904):wr ((i:Int)+1)=(i:Int)+1:=zg (by omega) (by omega)
theorem zq {e:Ty} {l:List (den e)} {i:Nat} {x:den e} (h:l[i]?=some x):rd e l i=x:=by
 simp[rd,aie,h]
theorem zu {α:Type} {l:List α} {i:Nat} (h:i<l.length):(0:Int)<=(i:Int)/\(i:Int)<(l.length:Int):=by omega
theorem bR {α β:Type} {l:List α} {out:List β} {i:Nat} (y:β) (g:α->β) (h:i<l.length) (ho:out.length=l.length) (hy:y=g l[i]):
  (out.set i y).take (i+1)++(l.drop (i+1)).map g=out.take i++(l.drop i).map g:=by
 have hi:i<out.length:=by omega
 rw[ahP h,ahN,←hy,ajh,List.take_set_of_le (aip i),List.getElem?_set_self hi];simp
theorem IJ {α β R:Type} (l:List α) (g:α->β) {G:(Int×List β×Unit->Option R)->Int×List β×Unit->Option R} (k:List β->Option R) (hl:l.length<=1152921504606846976)
  (Xh:∀ rec out,out.length=l.length->G rec ((l.length:Int),out,())=k out)
  (Xd:∀ rec (i:Nat) out x,l[i]?=some x->i<l.length->out.length=l.length->G rec ((i:Int),out,())=rec ((i:Int)+1,out.set i (g x),())) (out:List β) (ho:out.length=l.length):
  iter G fuel (0,out,())=k (l.map g):=by
 have key:∀ n i (out:List β),i<=l.length->out.length=l.length->l.length - i<n->iter G n ((i:Int),out,())=k (out.take i++(l.drop i).map g):=by
  intro n;induction n with
  | zero=>intro i out h1 h2 h3; omega
  | succ n ih=>
   intro i out hi ho hn;rcases Nat.lt_or_ge i l.length with h|h
   ·have e1:iter G (n+1) ((i:Int),out,())=iter G n ((i:Int)+1,out.set i (g l[i]),()):=Xd (iter G n) i out l[i] (List.getElem?_eq_getElem h) h ho;have e2:=ih (i+1) (out.set i (g l[i])) h (by simpa using ho) (by omega);rw[bR (g l[i]) g h ho rfl] at e2;rw[e1];exact e2
   ·have hi':i=l.length:=by omega
    subst hi';have e1:iter G (n+1) ((l.length:Int),out,())=k out:=Xh (iter G n) out ho;rw[e1,aiK (by omega),aj0 (aip _)];simp
 have:=key fuel 0 out (Nat.zero_le _) ho (by simpa using Jv hl);simpa using this
theorem rY {α:Type} (p:α->Bool) (l:List α):KN (S:=Unit) (λ x s rec=>bif p x then some (true,()) else rec s) (λ _=>some (false,())) l ()=some (l.any p,()):=by
 induction l with
 | nil=>rfl
 | cons x xs ih=>rw[kG,ih]; cases h:p x<;>simp[h]
theorem rX {α:Type} (p:α->Bool) (l:List α):KN (S:=Unit) (λ x s rec=>bif p x then rec s else some (false,())) (λ _=>some (true,())) l ()=some (l.all p,()):=by
 induction l with
 | nil=>rfl
 | cons x xs ih=>rw[kG,ih]; cases h:p x<;>simp[h]
def sub (left:Int) (w:Nat):Int:=if left<(w:Int) then -1 else left - w
theorem sub_zero {left:Int} (h:0<=left):sub left 0=left:=by unfold sub; rw[if_neg (by simpa using h)]; simp
def Ens {α:Type} (o:Option α) (P:α->Prop):Prop:=∃ y,o=some y/\P y
theorem Ens.bind {α β:Type} {x:Option α} {f:α->Option β} {P:α->Prop} {Q:β->Prop} (h:Ens x P) (hf:∀ y,P y->Ens (f y) Q):Ens (x.bind f) Q:=by
 obtain⟨y,rfl,hy⟩:=h;exact hf y hy
theorem Ens.some {α:Type} {x:α} {P:α->Prop} (h:P x):Ens (some x) P:=⟨x,rfl,h⟩
theorem Ens.mono {α:Type} {o:Option α} {P Q:α->Prop} (h:Ens o P) (hq:∀ y,P y->Q y):Ens o Q:=by
 obtain⟨y,e,hy⟩:=h;exact⟨y,e,hq y hy⟩
theorem Ens.cond {α:Type} {c:Bool} {a b:Option α} {P:α->Prop} (ha:c=true->Ens a P) (hb:c=false->Ens b P):Ens (bif c then a else b) P:=by
 cases c with
 | true=>exact ha rfl
 | false=>exact hb rfl
theorem Ens.ite {α:Type} {c:Prop} [Decidable c] {a b:Option α} {P:α->Prop} (hc:c) (ha:Ens a P):Ens (if c then a else b) P:=by
 rw[if_pos hc]; exact ha
theorem Ens.loop {S R:Type} {G:(S->Option R)->S->Option R} (I:S->Prop) (μ:S->Nat) {P:R->Prop}
  (h:∀ (rec:S->Option R) (x:S),I x->(∀ y,I y->μ y<μ x->Ens (rec y) P)->Ens (G rec x) P) {x:S} (hx:I x) (hm:μ x<fuel):Ens (iter G fuel x) P:=by
 have key:∀ (n:Nat) (x:S),I x->μ x<n->Ens (iter G n x) P:=by
  intro n;induction n with
  | zero=>intro x _ hn; omega
  | succ n ih=>intro x hx hn; exact h (iter G n) x hx λ y hy hlt=>ih y hy (by omega)
 exact key fuel x hx hm
def big:Nat:=140737488355328
theorem bO {α R:Type} (l:List α) {G:(Int×Unit->Option R)->Int×Unit->Option R} (b:R) (hl:l.length<=1152921504606846976)
  (Xh:∀ rec s,G rec ((l.length:Int),s)=some b)
  (Xd:∀ rec (i:Nat) s x,l[i]?=some x->i<l.length->G rec ((i:Int),s)=rec ((i:Int)+1,s)):iter G fuel (0,())=some b:=by
 refine (qG l (λ x s rec=>rec s) (λ s=>some b) (λ i s=>(i,s)) hl Xh Xd (λ x s r1 r2 hr=>hr s) ()).trans ?_;clear Xh Xd hl;induction l with
 | nil=>rfl
 | cons x xs ih=>rw[kG,ih]
theorem ru {R:Type} (l m:List Int) {G:(Int×Unit->Option R)->Int×Unit->Option R} (yes no:R) (hl:l.length<=1152921504606846976)
  (Xh:∀ rec (i:Nat) s,i<=l.length->i<=m.length->(i=l.length∨i=m.length)->G rec ((i:Int),s)=some (if l.length=m.length then yes else no))
  (Xd:∀ rec (i:Nat) s x y,l[i]?=some x->m[i]?=some y->i<l.length->i<m.length->G rec ((i:Int),s)=bif x != y then some no else rec ((i:Int)+1,s)):
  iter G fuel (0,())=some (if l=m then yes else no):=by
 have key:∀ n i,i<=l.length->i<=m.length->l.length - i<n->iter G n ((i:Int),())=some (if l.drop i=m.drop i then yes else no):=by
  intro n;induction n with
  | zero=>intro i h1 h2 h3; omega
  | succ n ih=>
   intro i hi hi2 hn;by_cases he:i=l.length∨i=m.length
   ·have e1:iter G (n+1) ((i:Int),())=some (if l.length=m.length then yes else no):=Xh (iter G n) i () hi hi2 he;have e2:(l.drop i=m.drop i)=(l.length=m.length):=by
     apply propext;constructor
     ·intro e;have:=congrArg List.length e;simp only[ahQ] at this;omega
     ·intro e;rw[aj0 (by omega),aj0 (by omega)]
    simp only[e1,e2]
   ·have h:i<l.length:=by omega
    have hm:i<m.length:=by omega
    have e1:iter G (n+1) ((i:Int),())=bif l[i] != m[i] then some no else iter G n ((i:Int)+1,()):=Xd (iter G n) i () l[i] m[i] (List.getElem?_eq_getElem h) (List.getElem?_eq_getElem hm) h hm;rw[e1,ahP h,ahP hm];by_cases he:l[i]=m[i]
    ·rw[he];simp only[bne_self_eq_false,ahv,ahX,true_and];exact ih (i+1) h hm (by omega)
    ·have:(l[i] != m[i])=true:=by simpa using he
     rw[this,ahw,if_neg (λ e=>he (List.cons.inj e).1)]
 have:=key fuel 0 (Nat.zero_le _) (Nat.zero_le _) (by simpa using Jv hl);simpa only [List.drop_zero,Int.natCast_zero] using this
theorem Yg (l:List Int) (v:Int) (h:l.length<=1152921504606846976):jq (l,v,())=some (l.any (· == v),()):=by
 unfold jq;refine (qG l (λ x s rec=>bif x==v then some (true,()) else rec s) (λ s=>some (false,())) (λ i s=>(i,s)) h ?_ ?_ ?_ ()).trans (rY _ _)
 ·intro rec s; simp
 ·intro rec i s x hx hi;simp only[ahH,zu hi,ahB,ahw,if_true,ahL,rd,aie,hx,ai5,zt (show i<4611686018427387904 by omega)]
 ·intro x s r1 r2 hr; simp[hr]
theorem pD (l m:List Int) (hl:l.length<=1152921504606846976):ah (l,m,())=some (decide (l=m),()):=by
 unfold ah;by_cases hlm:l.length=m.length
 ·simp only[hlm,bne_self_eq_false,ahv];rw[←hlm];refine (ru l m (true,()) (false,()) hl ?_ ?_).trans (by by_cases h:l=m<;>simp[h])
  ·intro rec i s h1 h2 h3;have hnl:¬ (i:Int)<(l.length:Int):=by omega
   simp only[hlm] at hnl ⊢;simp[hnl]
  ·intro rec i s x y hx hy hi hm;simp only[ahH,(zu hi).1,(zu hi).2,(zu hm).2,ahB,ahw,if_true,ahL,rd,aie,hx,hy,ai5,zt (show i<4611686018427387904 by omega)]
 ·have h1:(((l.length:Nat):Int) != ((m.length:Nat):Int))=true:=bne_iff_ne.2 (by omega);have h2:¬ l=m:=λ h=>hlm (by rw[h]);simp[h1,h2]
theorem tl (l m:List Int) (hl:l.length<=1152921504606846976):bf (l,m,())=some (decide (l=m),()):=by
 unfold bf;refine (ru l m (true,()) (false,()) hl ?_ ?_).trans (by by_cases h:l=m<;>simp[h])
 ·intro rec i s h1 h2 h3;rcases Nat.lt_or_ge i l.length with h|h
  ·have hm:i=m.length:=by omega
   have hnm:¬ (i:Int)<(m.length:Int):=by omega
   have hbe:(((l.length:Nat):Int)==((m.length:Nat):Int))=false:=by simp; omega
   have Xb:¬ l.length=m.length:=by omega
   simp only[zu h,hnm,ahB,ahG,ahw,ahv,hbe,if_neg Xb]
  ·have hnl:¬ (i:Int)<(l.length:Int):=by omega
   simp only[hnl,ahG,ahv];by_cases e:l.length=m.length
   ·simp[e]
   ·have hbe:(((l.length:Nat):Int)==((m.length:Nat):Int))=false:=by simp; omega
    simp only[hbe,if_neg e]
 ·intro rec i s x y hx hy hi hm;simp only[ahH,(zu hi).1,(zu hi).2,(zu hm).2,ahB,ahw,if_true,ahL,rd,aie,hx,hy,ai5,zt (show i<4611686018427387904 by omega)]
abbrev yP:=List UInt8×Int
def yx (d:yP):Bool:=decide ((d.1.length:Int)<=100000) && (decide (d.2≥0) && decide (d.2<=(d.1.length:Int)))
theorem eN (d:yP):Lc (d,())=some (yx d,()):=by
 unfold Lc yk yx;cases h1:decide ((d.1.length:Int)<=100000)<;>cases h2:decide (d.2≥0)<;>simp[h1,h2]
theorem I5 (d:yP):ca (d,())=some (yx d,()):=by
 unfold ca jv yx;cases h1:decide ((d.1.length:Int)<=100000)<;>cases h2:decide (d.2≥0)<;>simp[h1,h2]
theorem fJ (d:yP) (h:d.1.length<=35184372088832):Kr (d,())=some (d,()):=by
 unfold Kr;dsimp only;rw[if_pos (by omega)];rfl
theorem Ok (d:yP) (h:d.1.length<=35184372088832):cq (d,())=some (d,()):=by
 unfold cq;dsimp only;rw[if_pos (by omega)]
def Zr (d:yP) (b:List UInt8):yP×Bool:=if yx d=true/\d.1.length+b.length<=100000 then ((d.1++b,d.2),true) else (d,false)
theorem Vh (d:yP) (b:List UInt8) (h:d.1.length<=17592186044416) (hb:b.length<=17592186044416):eH (d,b,())=some ((Zr d b).1,(Zr d b).2,()):=by
 unfold eH Zr;simp only[fJ d (by omega),ahu,eN];rw[if_pos (by omega)];cases h1:yx d with
 | false=>simp
 | true=>
  simp only[ahC,ahv,true_and];have h2:yx (d.1++b,d.2)=decide (d.1.length+b.length<=100000):=by
   simp only[yx,ahx,ahI] at h1;obtain⟨g1,g2,g3⟩:=h1;by_cases h3:d.1.length+b.length<=100000
   ·simp[yx,h3,g2]; omega
   ·simp[yx,h3]; omega
  rw[h2];by_cases h3:d.1.length+b.length<=100000
  ·simp[h3]
  ·simp[h3]
theorem ZF {α:Type} {l:List α} {x:α} (f:α->Nat) (h:x∈l):f x<=(l.map f).sum:=by
 induction l with
 | nil=>cases h
 | cons y r ih=>
  simp only[ahN,aib];rcases List.mem_cons.1 h with rfl|h
  ·omega
  ·have:=ih h; omega
abbrev y5:=List Int
abbrev pK:=List UInt8
abbrev zz:=Int×Int×Int×Int
abbrev Jq:=Int×List UInt8×Int
abbrev zJ:=Int×List UInt8×y5
abbrev zH:=Int×List UInt8×y5
abbrev y0:=List UInt8×zJ
abbrev zp:=Int×Int×y0×zH×zJ×Int×zz
abbrev JR:=Int×zp
abbrev bD:=Int×pK
abbrev zI:=Int×Int×zJ×List UInt8
abbrev zw:=List zz
abbrev yQ:=List Jq
abbrev ya:=List zH
abbrev jQ:=List JR
abbrev jn:=List bD
abbrev zb:=Int×Int×Int×zI×zw×ya×yP×jQ
abbrev Yo:=List zb
abbrev za:=Int×Int
abbrev z8:=y5×y5
abbrev zy:=za×y5×Yo×jn×yQ
abbrev YR:=Int×Int×Int×zp
def zn (x:y5):Nat:=x.length
def po (x:pK):Nat:=x.length
def JM (x:yP):Nat:=x.1.length
def qq (x:Jq):Nat:=x.2.1.length
def zi (x:zJ):Nat:=x.2.1.length+zn x.2.2
def zk (x:zH):Nat:=x.2.1.length+zn x.2.2
def zB (x:y0):Nat:=x.1.length+zi x.2
def zh (x:zp):Nat:=zB x.2.2.1+zk x.2.2.2.1+zi x.2.2.2.2.1
def Z4 (x:JR):Nat:=zh x.2
def Mv (x:bD):Nat:=po x.2
def zC (x:zI):Nat:=zi x.2.2.1+x.2.2.2.length
def Yk (x:zw):Nat:=x.length
def Lp (x:yQ):Nat:=x.length+(x.map qq).sum
def zF (x:ya):Nat:=x.length+(x.map zk).sum
def yr (x:jQ):Nat:=x.length+(x.map Z4).sum
def qs (x:jn):Nat:=x.length+(x.map Mv).sum
def ze (x:zb):Nat:=zC x.2.2.2.1+Yk x.2.2.2.2.1+zF x.2.2.2.2.2.1+JM x.2.2.2.2.2.2.1+yr x.2.2.2.2.2.2.2
def Mu (x:Yo):Nat:=x.length+(x.map ze).sum
def gA (x:z8):Nat:=zn x.1+zn x.2
def Z5 (x:zy):Nat:=zn x.2.1+Mu x.2.2.1+qs x.2.2.2.1+Lp x.2.2.2.2
def MsgW (m:zp):Prop:=m.2.2.1.2.2.2.length<=8796093022208/\m.2.2.2.1.2.2.length<=8796093022208/\m.2.2.2.2.1.2.2.length<=8796093022208
theorem MsgW.of {m:zp} (h:zh m<=137438953472):MsgW m:=by
 simp only[zh,zB,zi,zk,zn] at h;unfold MsgW;omega
def jd (a b:zJ):Bool:=a.1==b.1 && (a.2.1==b.2.1 && decide (a.2.2=b.2.2))
theorem oR (a b:zJ) (h:a.2.2.length<=8796093022208):NT (a,b,())=some (jd a b,()):=by
 unfold NT jd;simp only[tl a.2.2 b.2.2 (by omega),ahu];cases a.1==b.1<;>cases a.2.1==b.2.1<;>simp
theorem kS (a b:zJ) (h:a.2.2.length<=8796093022208):M5 (a,b,())=some (jd a b,()):=by
 unfold M5 jd;simp only[pD a.2.2 b.2.2 (by omega),ahu];cases a.1==b.1<;>cases a.2.1==b.2.1<;>simp
theorem VW (a b:zJ) (h:a.2.2.length<=8796093022208):fN (a,b,())=some (jd a b,()):=by
 unfold fN jd;simp only[tl a.2.2 b.2.2 (by omega),ahu];cases a.1==b.1<;>cases a.2.1==b.2.1<;>simp
theorem Ou (a b:zJ) (h:a.2.2.length<=8796093022208):cy (a,b,())=some (jd a b,()):=by
 unfold cy jd;simp only[pD a.2.2 b.2.2 (by omega),ahu];cases a.1==b.1<;>cases a.2.1==b.2.1<;>simp
def Yp (a b:y0):Bool:=a.1==b.1 && jd a.2 b.2
theorem Vi (a b:y0) (h:a.2.2.2.length<=8796093022208):eJ (a,b,())=some (Yp a b,()):=by
 unfold eJ Yp;simp only[oR a.2 b.2 h,ahu];cases a.1==b.1<;>simp
theorem I3 (a b:y0) (h:a.2.2.2.length<=8796093022208):b9 (a,b,())=some (Yp a b,()):=by
 unfold b9 Yp;simp only[kS a.2 b.2 h,ahu];cases a.1==b.1<;>simp
def Mq (a b:zz):Bool:=a.1==b.1 && (a.2.1==b.2.1 && (a.2.2.1==b.2.2.1 && (a.2.2.2==b.2.2.2 && true)))
def Ze (a b:zp):Bool:=
 a.1==b.1 && (a.2.1==b.2.1 && (Yp a.2.2.1 b.2.2.1 && (jd a.2.2.2.1 b.2.2.2.1 && (jd a.2.2.2.2.1 b.2.2.2.2.1 && (a.2.2.2.2.2.1==b.2.2.2.2.2.1 && Mq a.2.2.2.2.2.2 b.2.2.2.2.2.2)))))
theorem NP (a b:zp) (h:MsgW a):Kk (a,b,())=some (Ze a b,()):=by
 unfold Kk Ze Mq;simp only[Vi a.2.2.1 b.2.2.1 h.1,VW a.2.2.2.1 b.2.2.2.1 h.2.1,oR a.2.2.2.2.1 b.2.2.2.2.1 h.2.2,ahu];cases a.1==b.1<;>cases a.2.1==b.2.1<;>cases Yp a.2.2.1 b.2.2.1<;>cases jd a.2.2.2.1 b.2.2.2.1<;>cases jd a.2.2.2.2.1 b.2.2.2.2.1<;>cases a.2.2.2.2.2.1==b.2.2.2.2.2.1<;>rfl
theorem I8 (a b:zp) (h:MsgW a):ce (a,b,())=some (Ze a b,()):=by
 unfold ce Ze Mq;simp only[I3 a.2.2.1 b.2.2.1 h.1,Ou a.2.2.2.1 b.2.2.2.1 h.2.1,kS a.2.2.2.2.1 b.2.2.2.2.1 h.2.2,ahu];cases a.1==b.1<;>cases a.2.1==b.2.1<;>cases Yp a.2.2.1 b.2.2.1<;>cases jd a.2.2.2.1 b.2.2.2.1<;>cases jd a.2.2.2.2.1 b.2.2.2.2.1<;>cases a.2.2.2.2.2.1==b.2.2.2.2.2.1<;>rfl
theorem Bn (l:List Jq) (view:Int) (name:List UInt8) (who:Int) (h:l.length<=1152921504606846976):
  aW (l,view,name,who,())=some (l.any (λ x=>x.1==view && (x.2.1==name && x.2.2==who)),()):=by
 unfold aW;refine (qG l (λ x s rec=>bif (x.1==view && (x.2.1==name && x.2.2==who)) then some (true,()) else rec s) (λ s=>some (false,())) (λ i s=>(i,s)) h ?_ ?_ ?_ ()).trans (rY _ _)
 ·intro rec s; simp
 ·intro rec i s x hx hi;simp only[ahH,zu hi,ahB,ahw,if_true,ahL,rd,aie,hx,ai5,zt (show i<4611686018427387904 by omega)];cases x.1==view<;>cases x.2.1==name<;>cases x.2.2==who<;>rfl
 ·intro x s r1 r2 hr; simp[hr]
def signed (liars:List Int) (list:List Jq) (view:Int) (name:List UInt8) (who:List Int):Bool:=
 who.all λ i=>liars.any (· == i) || list.any (λ x=>x.1==view && (x.2.1==name && x.2.2==i))
theorem oU (liars:List Int) (list:List Jq) (view:Int) (name:List UInt8) (who:List Int) (h1:liars.length<=1152921504606846976) (h2:list.length<=1152921504606846976) (h3:who.length<=1152921504606846976):
  NY (liars,list,view,name,who,())=some (signed liars list view name who,()):=by
 unfold NY;refine (qG who (λ x s rec=>bif (liars.any (· == x) || list.any (λ y=>y.1==view && (y.2.1==name && y.2.2==x))) then rec s else some (false,())) (λ s=>some (true,())) (λ i s=>(i,s)) h3 ?_ ?_ ?_ ()).trans (rX _ _)
 ·intro rec s; simp
 ·intro rec i s x hx hi;simp only[ahH,zu hi,ahB,ahw,if_true,ahL,rd,aie,hx,ai5,zt (show i<4611686018427387904 by omega),Yg liars x h1,Bn list view name x h2,ahu];cases liars.any (· == x)<;>cases list.any (λ y=>y.1==view && (y.2.1==name && y.2.2==x))<;>rfl
 ·intro x s r1 r2 hr; simp[hr]
def YI (m:zp):zH:=if m.1=2 then m.2.2.2.1 else if m.1=1 then (m.2.2.1.2.1,m.2.2.1.2.2.1,m.2.2.1.2.2.2) else (m.2.2.2.2.1.1,m.2.2.2.2.1.2.1,m.2.2.2.2.1.2.2)
def YH (id:Int) (m:zp):yQ:=if m.1=4 then [] else if (YI m).2.1=[] then [] else if (YI m).2.2.any (· == id) then [((YI m).1,(YI m).2.1,id)] else []
theorem VH (id:Int) (m:zp) (h:MsgW m):fj (id,m,())=some (YH id m,()):=by
 obtain⟨h1,h2,h3⟩:=h;unfold fj YH YI;simp only[Yg _ _ (show m.2.2.1.2.2.2.length<=1152921504606846976 by omega),Yg _ _ (show m.2.2.2.1.2.2.length<=1152921504606846976 by omega),Yg _ _ (show m.2.2.2.2.1.2.2.length<=1152921504606846976 by omega),ahu];by_cases c2:m.1=2
 ·simp only[c2,if_true,show ¬ (2:Int)=4 by decide,if_false,show ((2:Int)==2)=true from rfl,show ((2:Int)==4)=false from rfl,ahw,ahv];by_cases e:m.2.2.2.1.2.1=[]
  ·simp[e]
  ·have:(m.2.2.2.1.2.1==[])=false:=by simp[e]
   simp only[this,e,ahv,if_false];cases m.2.2.2.1.2.2.any (· == id)<;>simp
 ·by_cases c1:m.1=1
  ·simp only[c1,show ¬ (1:Int)=2 by decide,if_true,show ¬ (1:Int)=4 by decide,if_false,show ((1:Int)==2)=false from rfl,show ((1:Int)==1)=true from rfl,show ((1:Int)==4)=false from rfl,ahw,ahv];by_cases e:m.2.2.1.2.2.1=[]
   ·simp[e]
   ·have:(m.2.2.1.2.2.1==[])=false:=by simp[e]
    simp only[this,e,ahv,if_false];cases m.2.2.1.2.2.2.any (· == id)<;>simp
  ·have e2:(m.1==2)=false:=by simp[c2]
   have e1:(m.1==1)=false:=by simp[c1]
   simp only[e2,e1,c2,c1,ahv,if_false];by_cases c4:m.1=4
   ·simp[c4]
   ·have e4:(m.1==4)=false:=by simp[c4]
    simp only[e4,c4,ahv,if_false];by_cases e:m.2.2.2.2.1.2.1=[]
    ·simp[e]
    ·have:(m.2.2.2.2.1.2.1==[])=false:=by simp[e]
     simp only[this,e,ahv,if_false];cases m.2.2.2.2.1.2.2.any (· == id)<;>simp
theorem Ue (id:Int) (m:zp):Lp (YH id m)<=1+zh m:=by
 unfold YH YI;repeat' split
 all_goals simp only[Lp,qq,zh,zB,zi,zk,zn,ahA,aic,List.sum_nil,ahz,ahN,aib]
 all_goals omega
theorem G7 {β R:Type} (p:Nat->Bool) (g:Nat->β) (n:Nat) (hn:n<=1152921504606846976) (k:List β->Option R) {G:(List β×Int×Unit->Option R)->List β×Int×Unit->Option R}
  (Xh:∀ rec out,G rec (out,(n:Int),())=k out)
  (Xd:∀ rec (i:Nat) out,i<n->out.length<=i->G rec (out,(i:Int),())=rec (if p i=true then out++[g i] else out,(i:Int)+1,())):
  iter G fuel ([],0,())=k (((List.range n).filter p).map g):=by
 have key:∀ (m i:Nat) (out:List β),i<=n->n - i<m->out.length<=i->iter G m (out,(i:Int),())=k (out++((List.range' i (n - i)).filter p).map g):=by
  intro m;induction m with
  | zero=>intro i out h1 h2 h3; omega
  | succ m ih=>
   intro i out h1 h2 h3;rcases Nat.lt_or_ge i n with h|h
   ·have e1:iter G (m+1) (out,(i:Int),())=iter G m (if p i=true then out++[g i] else out,(i:Int)+1,()):=Xd (iter G m) i out h h3;have e2:=ih (i+1) (if p i=true then out++[g i] else out) h (by omega) (by
     split
     ·simp only[ahD,ahz,ahA]; omega
     ·omega)
    rw[e1];refine Eq.trans (by rfl) (e2.trans ?_);have e3:n - i=(n - (i+1))+1:=by omega
    rw[e3,List.range'_succ];cases hp:p i<;>simp[hp]
   ·have hi:i=n:=by omega
    subst hi;have e1:iter G (m+1) (out,(i:Int),())=k out:=Xh (iter G m) out;rw[e1];simp
 have:=key fuel 0 [] (Nat.zero_le _) (by have:=Jv hn; omega) (by simp)
 simpa[List.range_eq_range'] using this
def ZP (w:zy):List Int:=((List.range w.2.2.1.length).filter λ (i:Nat) => !(w.2.1.any (· == (i:Int)))).map λ (i:Nat)=>(i:Int)
theorem A2 (w:zy) (h1:w.2.1.length<=137438953472) (h2:w.2.2.1.length<=137438953472):NL (w,())=some (ZP w,()):=by
 unfold NL ZP;refine G7 (λ (i:Nat) => !(w.2.1.any (· == (i:Int)))) (λ (i:Nat)=>(i:Int)) w.2.2.1.length (by omega) (λ out=>some (out,())) ?_ ?_
 ·intro rec out; simp
 ·intro rec i out hi ho;have hg:((i:Int)<(w.2.2.1.length:Nat)):=by omega
  simp only[hg,ahB,ahw,Yg _ _ (show w.2.1.length<=1152921504606846976 by omega),ahu,zt (show i<4611686018427387904 by omega),ahz,ahA];rw[if_pos (by omega)];cases w.2.1.any (· == (i:Int))<;>simp
theorem I0 (w:zy):(ZP w).length<=w.2.2.1.length:=by
 unfold ZP;rw[aij];exact Nat.le_trans (List.length_filter_le _ _) (by simp)
theorem MY {α S St R:Type} (enc:Int->S->St) (l:List α) (f:S->α->S) (k:S->Option R) {G:(St->Option R)->St->Option R} (hl:l.length<=1152921504606846976) (I:Nat->S->Prop)
  (Xh:∀ rec s,I l.length s->G rec (enc (l.length:Int) s)=k s)
  (Xd:∀ rec (i:Nat) s x,l[i]?=some x->i<l.length->I i s->I (i+1) (f s x)/\G rec (enc (i:Int) s)=rec (enc ((i:Int)+1) (f s x))) {s0:S} (h0:I 0 s0):
  iter G fuel (enc 0 s0)=k (l.foldl f s0):=by
 have key:∀ (m i:Nat) (s:S),i<=l.length->l.length - i<m->I i s->iter G m (enc (i:Int) s)=k ((l.drop i).foldl f s):=by
  intro m;induction m with
  | zero=>intro i s h1 h2 h3; omega
  | succ m ih=>
   intro i s h1 h2 h3;rcases Nat.lt_or_ge i l.length with h|h
   ·obtain⟨g1,g2⟩:=Xd (iter G m) i s l[i] (List.getElem?_eq_getElem h) h h3;have e1:iter G (m+1) (enc (i:Int) s)=iter G m (enc ((i:Int)+1) (f s l[i])):=g2;rw[e1,ahP h,aig];exact ih (i+1) _ h (by omega) g1
   ·have hi:i=l.length:=by omega
    subst hi;have e1:iter G (m+1) (enc (l.length:Int) s)=k s:=Xh (iter G m) s h3;rw[e1]; simp
 have:=key fuel 0 s0 (Nat.zero_le _) (by have:=Jv hl; omega) h0
 simpa using this
theorem IK {α S:Type} (l:List α) (f:S->α->S) (I:Nat->S->Prop) (Xd:∀ (i:Nat) s x,l[i]?=some x->i<l.length->I i s->I (i+1) (f s x)) {s0:S} (h0:I 0 s0):I l.length (l.foldl f s0):=by
 have key:∀ (n i:Nat) (s:S),l.length - i=n->i<=l.length->I i s->I l.length ((l.drop i).foldl f s):=by
  intro n;induction n with
  | zero=>
       intro i s h1 h2 h3; have:i=l.length:=by omega
       subst this; simpa using h3
  | succ n ih=>
   intro i s h1 h2 h3;have h:i<l.length:=by omega
   rw[ahP h,aig];exact ih (i+1) _ (by omega) h (Xd i s l[i] (List.getElem?_eq_getElem h) h h3)
 simpa using key l.length 0 s0 (by simp) (Nat.zero_le _) h0
theorem sb {α:Type}:∀ (l out:List α),l.foldl (λ out x=>out++[x]) out=out++l
 | [],out=>by simp
 | x::l,out=>by rw[aig,sb l]; simp
theorem MK {α St R:Type} (enc:Int->List α->St) (l:List α) (k:List α->Option R) {G:(St->Option R)->St->Option R} (hl:l.length<=1152921504606846976)
  (Xh:∀ rec s,s.length=l.length->G rec (enc (l.length:Int) s)=k s)
  (Xd:∀ rec (i:Nat) s x,l[i]?=some x->i<l.length->s.length=i->G rec (enc (i:Int) s)=rec (enc ((i:Int)+1) (s++[x]))):
  iter G fuel (enc 0 [])=k l:=by
 have:=MY enc l (λ out x=>out++[x]) k hl (λ i s=>s.length=i) Xh (λ rec i s x hx hi h=>⟨by simp[h],Xd rec i s x hx hi h⟩) (s0:=[]) rfl;rw[this,sb]; simp
theorem Ml (x:zJ) (hw:zi x<=137438953472):Je (x,())=some (x,()):=by
 unfold Je;dsimp only;have:x.2.2.length<=137438953472:=by simp only[zi,zn] at hw; omega
 rw[if_pos (by omega)]; rfl
theorem Mg (x:zH) (hw:zk x<=137438953472):JI (x,())=some (x,()):=by
 unfold JI;dsimp only;have:x.2.2.length<=137438953472:=by simp only[zk,zn] at hw; omega
 rw[if_pos (by omega)]; rfl
theorem fG (x:zI) (hw:zC x<=137438953472):Mh (x,())=some (x,()):=by
 unfold Mh;simp only[Ml x.2.2.1 (by simp only[zC] at hw; omega),Option.bind_some]
theorem V4 (x:y0) (hw:zB x<=137438953472):gq (x,())=some (x,()):=by
 unfold gq;simp only[Ml x.2 (by simp only[zB] at hw; omega),Option.bind_some]
theorem Bl (x:zp) (hw:zh x<=137438953472):aR (x,())=some (x,()):=by
 unfold aR;simp only[zh] at hw;simp only[V4 x.2.2.1 (by omega),Mg x.2.2.2.1 (by omega),Ml x.2.2.2.2.1 (by omega),ahu]
theorem Bi (x:ya) (hw:zF x<=137438953472):JJ (x,())=some (x,()):=by
 have hl:x.length<=137438953472:=by unfold zF at hw; omega
 unfold JJ;refine MK (λ i s=>(s,i,())) x (λ s=>some (s,())) (by omega) ?_ ?_
 ·intro rec s hs; simp
 ·intro rec i s y hx hi hs;have hy:zk y<=137438953472:=by have:=ZF zk (List.mem_of_getElem? hx); unfold zF at hw; omega
  simp only[ahH,zu hi,ahB,ahw,if_true,ahL,zq (e:=(.pair .i64 (.pair .str (.sl 0 .i64)))) hx,Mg y hy,ahu,zt (show i<4611686018427387904 by omega),ahz,ahA];rw[if_pos (by omega)]
theorem Bm (x:jQ) (hw:yr x<=137438953472):aU (x,())=some (x,()):=by
 have hl:x.length<=137438953472:=by unfold yr at hw; omega
 unfold aU;refine MK (λ i s=>(s,i,())) x (λ s=>some (s,())) (by omega) ?_ ?_
 ·intro rec s hs; simp
 ·intro rec i s y hx hi hs;have hy:zh y.2<=137438953472:=by have:=ZF Z4 (List.mem_of_getElem? hx); simp only[Z4] at this; unfold yr at hw; omega
  simp only[ahH,zu hi,ahB,ahw,if_true,ahL,zq (e:=(.pair .i64 (.pair .i64 (.pair .i64 (.pair (.pair .str (.pair .i64 (.pair .str (.sl 0 .i64)))) (.pair (.pair .i64 (.pair .str (.sl 0 .i64))) (.pair (.pair .i64 (.pair .str (.sl 0 .i64))) (.pair .i64 (.pair .i64 (.pair .i64 (.pair .i64 .i64))))))))))) hx,Bl y.2 hy,ahu,zt (show i<4611686018427387904 by omega),ahz,ahA];rw[if_pos (by omega)]
theorem Zm (x:zb) (hw:ze x<=137438953472):yv (x,())=some (x,()):=by
 unfold yv;simp only[ze,Yk,JM] at hw;simp only[fG x.2.2.2.1 (by omega),Bi x.2.2.2.2.2.1 (by omega),fJ x.2.2.2.2.2.2.1 (by omega),Bm x.2.2.2.2.2.2.2 (by omega),ahu];rw[if_pos (by omega)]; rfl
theorem sJ (x:y5) (hw:x.length<=137438953472):qZ (x,())=some (x,()):=by
 unfold qZ;dsimp only;rw[if_pos (by omega)]
theorem kT (x:zJ) (hw:zi x<=137438953472):M7 (x,())=some (x,()):=by
 unfold M7;simp only[sJ x.2.2 (by simp only[zi,zn] at hw; omega),Option.bind_some]
theorem sK (x:zH) (hw:zk x<=137438953472):Qa (x,())=some (x,()):=by
 unfold Qa;simp only[sJ x.2.2 (by simp only[zk,zn] at hw; omega),Option.bind_some]
theorem Oo (x:zI) (hw:zC x<=137438953472):cv (x,())=some (x,()):=by
 unfold cv;simp only[kT x.2.2.1 (by simp only[zC] at hw; omega),Option.bind_some]
theorem sL (x:zw) (hw:Yk x<=137438953472):Jx (x,())=some (x,()):=by
 unfold Jx;dsimp only;simp only[Yk] at hw;rw[if_pos (by omega)]
theorem Oj (x:y0) (hw:zB x<=137438953472):cp (x,())=some (x,()):=by
 unfold cp;simp only[kT x.2 (by simp only[zB] at hw; omega),Option.bind_some]
theorem Ol (x:zp) (hw:zh x<=137438953472):cr (x,())=some (x,()):=by
 unfold cr;simp only[zh] at hw;simp only[Oj x.2.2.1 (by omega),sK x.2.2.2.1 (by omega),kT x.2.2.2.2.1 (by omega),ahu]
theorem Oq (x:ya) (hw:zF x<=137438953472):cw (x,())=some (x,()):=by
 have hl:x.length<=137438953472:=by unfold zF at hw; omega
 unfold cw;refine MK (λ i s=>(s,i,())) x (λ s=>some (s,())) (by omega) ?_ ?_
 ·intro rec s hs; simp
 ·intro rec i s y hx hi hs;have hy:zk y<=137438953472:=by have:=ZF zk (List.mem_of_getElem? hx); unfold zF at hw; omega
  simp only[ahH,zu hi,ahB,ahw,if_true,ahL,zq (e:=(.pair .i64 (.pair .str (.sl 0 .i64)))) hx,sK y hy,ahu,zt (show i<4611686018427387904 by omega),ahz,ahA];rw[if_pos (by omega)]
theorem Om (x:jQ) (hw:yr x<=137438953472):ct (x,())=some (x,()):=by
 have hl:x.length<=137438953472:=by unfold yr at hw; omega
 unfold ct;refine MK (λ i s=>(s,i,())) x (λ s=>some (s,())) (by omega) ?_ ?_
 ·intro rec s hs; simp
 ·intro rec i s y hx hi hs;have hy:zh y.2<=137438953472:=by have:=ZF Z4 (List.mem_of_getElem? hx); simp only[Z4] at this; unfold yr at hw; omega
  simp only[ahH,zu hi,ahB,ahw,if_true,ahL,zq (e:=(.pair .i64 (.pair .i64 (.pair .i64 (.pair (.pair .str (.pair .i64 (.pair .str (.sl 0 .i64)))) (.pair (.pair .i64 (.pair .str (.sl 0 .i64))) (.pair (.pair .i64 (.pair .str (.sl 0 .i64))) (.pair .i64 (.pair .i64 (.pair .i64 (.pair .i64 .i64))))))))))) hx,Ol y.2 hy,ahu,zt (show i<4611686018427387904 by omega),ahz,ahA];rw[if_pos (by omega)]
theorem On (x:zb) (hw:ze x<=137438953472):cu (x,())=some (x,()):=by
 unfold cu;simp only[ze] at hw;have h5:x.2.2.2.2.2.2.1.1.length<=137438953472:=by simp only[JM] at hw; omega
 simp only[Oo x.2.2.2.1 (by omega),sL x.2.2.2.2.1 (by omega),Oq x.2.2.2.2.2.1 (by omega),Ok x.2.2.2.2.2.2.1 (by omega),Om x.2.2.2.2.2.2.2 (by omega),ahu]
theorem acr (x:bD) (hw:Mv x<=137438953472):aap (x,())=some (x,()):=by
 unfold aap;dsimp only;simp only[Mv,po] at hw;rw[if_pos (by omega)]
theorem V2 (w:zy) (hw:Z5 w<=137438953472):fT (w,())=some (w,()):=by
 have hr:Mu w.2.2.1<=137438953472:=by simp only[Z5] at hw; omega
 have hs:qs w.2.2.2.1<=137438953472:=by simp only[Z5] at hw; omega
 have h1:w.2.1.length<=137438953472:=by simp only[Z5,zn] at hw; omega
 have h2:w.2.2.2.2.length<=137438953472:=by simp only[Z5,Lp] at hw; omega
 have h3:w.2.2.1.length<=137438953472:=by unfold Mu at hr; omega
 have h4:w.2.2.2.1.length<=137438953472:=by unfold qs at hs; omega
 unfold fT;dsimp only;rw[if_pos (by omega),if_pos (by omega)];refine (MK (λ i (s:Yo)=>(i,(w.1,[]++w.2.1,s,[],[]++w.2.2.2.2),())) w.2.2.1 (λ s=>some ((w.1,[]++w.2.1,s,w.2.2.2.1,[]++w.2.2.2.2),())) (by omega) ?_ ?_).trans (by simp)
 ·intro rec s hs';simp only[ai0,ahG,ahv];refine MK (λ i (t:jn)=>(i,(w.1,[]++w.2.1,s,t,[]++w.2.2.2.2),())) w.2.2.2.1 (λ t=>some ((w.1,[]++w.2.1,s,t,[]++w.2.2.2.2),())) (by omega) ?_ ?_
  ·intro rec t ht; simp
  ·intro rec i t y hx hi ht;have hy:Mv y<=137438953472:=by have:=ZF Mv (List.mem_of_getElem? hx); unfold qs at hs; omega
   simp only[Mv,po] at hy;simp only[ahH,zu hi,ahB,ahw,if_true,ahL,zq (e:=(.pair .i64 (.sl 0 .u8))) hx,zt (show i<4611686018427387904 by omega),ahz,ahA];rw[if_pos (by omega),if_pos (by omega)];rfl
 ·intro rec i s y hx hi hs';have hy:ze y<=137438953472:=by have:=ZF ze (List.mem_of_getElem? hx); unfold Mu at hr; omega
  simp only[ahH,zu hi,ahB,ahw,if_true,ahL,zq (e:=(.pair .i64 (.pair .i64 (.pair .i64 (.pair (.pair .i64 (.pair .i64 (.pair (.pair .i64 (.pair .str (.sl 0 .i64))) .str))) (.pair (.sl 0 (.pair .i64 (.pair .i64 (.pair .i64 .i64)))) (.pair (.sl 0 (.pair .i64 (.pair .str (.sl 0 .i64)))) (.pair (.pair (.sl 0 .u8) .i64) (.sl 0 (.pair .i64 (.pair .i64 (.pair .i64 (.pair (.pair .str (.pair .i64 (.pair .str (.sl 0 .i64)))) (.pair (.pair .i64 (.pair .str (.sl 0 .i64))) (.pair (.pair .i64 (.pair .str (.sl 0 .i64))) (.pair .i64 (.pair .i64 (.pair .i64 (.pair .i64 .i64))))))))))))))))))) hx,Zm y hy,ahu,zt (show i<4611686018427387904 by omega),ahz,ahA];rw[if_pos (by omega)]
theorem acs (w:zy) (hw:Z5 w<=137438953472):aaq (w,())=some (w,()):=by
 have hr:Mu w.2.2.1<=137438953472:=by simp only[Z5] at hw; omega
 have hs:qs w.2.2.2.1<=137438953472:=by simp only[Z5] at hw; omega
 have h1:w.2.1.length<=137438953472:=by simp only[Z5,zn] at hw; omega
 have h2:w.2.2.2.2.length<=137438953472:=by simp only[Z5,Lp] at hw; omega
 have h3:w.2.2.1.length<=137438953472:=by unfold Mu at hr; omega
 have h4:w.2.2.2.1.length<=137438953472:=by unfold qs at hs; omega
 unfold aaq;simp only[sJ w.2.1 h1,ahu];rw[if_pos (by omega)];refine (MK (λ i (s:Yo)=>(i,(w.1,w.2.1,s,[],w.2.2.2.2),())) w.2.2.1 (λ s=>some ((w.1,w.2.1,s,w.2.2.2.1,w.2.2.2.2),())) (by omega) ?_ ?_).trans (by simp)
 ·intro rec s hs';simp only[ai0,ahG,ahv];refine MK (λ i (t:jn)=>(i,(w.1,w.2.1,s,t,w.2.2.2.2),())) w.2.2.2.1 (λ t=>some ((w.1,w.2.1,s,t,w.2.2.2.2),())) (by omega) ?_ ?_
  ·intro rec t ht; simp
  ·intro rec i t y hx hi ht;have hy:Mv y<=137438953472:=by have:=ZF Mv (List.mem_of_getElem? hx); unfold qs at hs; omega
   simp only[ahH,zu hi,ahB,ahw,if_true,ahL,zq (e:=(.pair .i64 (.sl 0 .u8))) hx,acr y hy,ahu,zt (show i<4611686018427387904 by omega),ahz,ahA];rw[if_pos (by omega)]
 ·intro rec i s y hx hi hs';have hy:ze y<=137438953472:=by have:=ZF ze (List.mem_of_getElem? hx); unfold Mu at hr; omega
  simp only[ahH,zu hi,ahB,ahw,if_true,ahL,zq (e:=(.pair .i64 (.pair .i64 (.pair .i64 (.pair (.pair .i64 (.pair .i64 (.pair (.pair .i64 (.pair .str (.sl 0 .i64))) .str))) (.pair (.sl 0 (.pair .i64 (.pair .i64 (.pair .i64 .i64)))) (.pair (.sl 0 (.pair .i64 (.pair .str (.sl 0 .i64)))) (.pair (.pair (.sl 0 .u8) .i64) (.sl 0 (.pair .i64 (.pair .i64 (.pair .i64 (.pair (.pair .str (.pair .i64 (.pair .str (.sl 0 .i64)))) (.pair (.pair .i64 (.pair .str (.sl 0 .i64))) (.pair (.pair .i64 (.pair .str (.sl 0 .i64))) (.pair .i64 (.pair .i64 (.pair .i64 (.pair .i64 .i64))))))))))))))))))) hx,On y hy,ahu,zt (show i<4611686018427387904 by omega),ahz,ahA];rw[if_pos (by omega)]
end G448
namespace G448
open Ev Go
theorem BW {S X R:Type} (n:Nat) {G:(X->Option R)->X->Option R} (mk:Int->S->X) (I:Nat->S->Prop) (f:Nat->S->Option R) (hn:n<=1152921504606846976)
  (Xh:∀ rec s,I n s->G rec (mk (n:Int) s)=f n s)
  (Xd:∀ rec (i:Nat) s,i<n->I i s->(G rec (mk (i:Int) s)=f i s)∨∃ s',I (i+1) s'/\G rec (mk (i:Int) s)=rec (mk ((i:Int)+1) s')/\f i s=f (i+1) s') {s0:S} (i0:Nat) (XR:i0<=n) (h0:I i0 s0):
  iter G fuel (mk (i0:Int) s0)=f i0 s0:=by
 have key:∀ (m i:Nat) (s:S),i<=n->n - i<m->I i s->iter G m (mk (i:Int) s)=f i s:=by
  intro m;induction m with
  | zero=>intro i s h1 h2 h3; omega
  | succ m ih=>
   intro i s h1 h2 h3;rcases Nat.lt_or_ge i n with h|h
   ·rcases Xd (iter G m) i s h h3 with g|⟨s',g1,g2,g3⟩
    ·exact g
    ·rw[g3];have e1:iter G (m+1) (mk (i:Int) s)=iter G m (mk ((i:Int)+1) s'):=g2;rw[e1];exact ih (i+1) s' h (by omega) g1
   ·have hi:i=n:=by omega
    subst hi;exact Xh (iter G m) s h3
 exact key fuel i0 s0 XR (by have:=Jv hn; omega) h0
theorem walk {S X R:Type} (n:Nat) {G:(X->Option R)->X->Option R} (mk:Int->S->X) (I:Nat->S->Prop) (f:Nat->S->Option R) (hn:n<=1152921504606846976)
  (Xh:∀ rec s,I n s->G rec (mk (n:Int) s)=f n s)
  (Xd:∀ rec (i:Nat) s,i<n->I i s->(G rec (mk (i:Int) s)=f i s)∨∃ s',I (i+1) s'/\G rec (mk (i:Int) s)=rec (mk ((i:Int)+1) s')/\f i s=f (i+1) s') {s0:S} (h0:I 0 s0):
  iter G fuel (mk 0 s0)=f 0 s0:=BW n mk I f hn Xh Xd 0 (Nat.zero_le _) h0
def glue (u:List UInt8):List (List UInt8)->List (List UInt8)
 | p::r=>(u++p)::r
 | []=>[u]
def zQ (c:UInt8):List UInt8->List (List UInt8)
 | []=>[[]]
 | x::l=>if x=c then []::zQ c l else glue [x] (zQ c l)
theorem YC (c:UInt8):∀ s,zQ c s≠[]
 | []=>by simp[zQ]
 | x::l=>by
  simp only[zQ];split
  ·simp
  ·cases zQ c l<;>simp[glue]
theorem IQ (u v:List UInt8) {l:List (List UInt8)} (h:l≠[]):glue u (glue v l)=glue (u++v) l:=by
 cases l with
 | nil=>exact absurd rfl h
 | cons p r=>simp[glue]
theorem sr {l:List (List UInt8)} (h:l≠[]):glue [] l=l:=by
 cases l with
 | nil=>exact absurd rfl h
 | cons p r=>simp[glue]
theorem nj (c:UInt8):∀ s,c∉s->zQ c s=[s]
 | [],_=>rfl
 | x::l,h=>by
  simp only[ahO,not_or] at h;simp only[zQ,if_neg (Ne.symm h.1),nj c l h.2,glue,List.singleton_append]
theorem wF (c:UInt8) (post:List UInt8):∀ pre,c∉pre->zQ c (pre++c::post)=pre::zQ c post
 | [],_=>by simp[zQ]
 | x::l,h=>by
  simp only[ahO,not_or] at h;simp only[ais,zQ,if_neg (Ne.symm h.1),wF c post l h.2,glue,ahS]
theorem QI (c:UInt8):∀ s,(zQ c s).length<=s.length+1
 | []=>by simp[zQ]
 | x::l=>by
  have:=QI c l;simp only[zQ];split
  ·simp; omega
  ·cases hp:zQ c l with
   | nil=>simp[glue]
   | cons p r=>rw[hp] at this; simp[glue] at this ⊢; omega
def yD (c:UInt8):List UInt8->Option (List UInt8×List UInt8)
 | []=>none
 | x::l=>if x=c then some ([],l) else (yD c l).map λ p=>(x::p.1,p.2)
theorem rB (c:UInt8):∀ s,c∉s->yD c s=none
 | [],_=>rfl
 | x::l,h=>by
  simp only[ahO,not_or] at h;simp only[yD,if_neg (Ne.symm h.1),rB c l h.2,Option.map_none]
theorem qB (c:UInt8) (post:List UInt8):∀ pre,c∉pre->yD c (pre++c::post)=some (pre,post)
 | [],_=>by simp[yD]
 | x::l,h=>by
  simp only[ahO,not_or] at h;simp only[ais,yD,if_neg (Ne.symm h.1),qB c post l h.2,aia]
theorem kq (c:UInt8):∀ {s p q},yD c s=some (p,q)->p.length+q.length+1=s.length/\s=p++c::q
 | [],p,q,h=>by cases h
 | x::l,p,q,h=>by
  simp only[yD] at h;split at h
  ·next e=>cases h; subst e; simp
  ·obtain⟨⟨p',q'⟩,h1,h2⟩:=Option.map_eq_some_iff.1 h;cases h2;obtain⟨g1,g2⟩:=kq c h1;exact⟨by simp; omega,by rw[g2]; simp⟩
theorem re (c:UInt8) (s:List UInt8):(c∉s/\Lib.indexByte s c = -1)∨∃ pre post,s=pre++c::post/\c∉pre/\Lib.indexByte s c=(pre.length:Int):=by
 rcases Int.lt_or_le (Lib.indexByte s c) 0 with h|h
 ·have e:Lib.indexByte s c = -1:=by
   have:=Lib.index_ge s [c];rw[Lib.index_one] at this;omega
  left;refine⟨λ hm => ?_,e⟩;obtain⟨k,hk⟩:=List.getElem?_of_mem hm;exact Lib.indexByte_none e k hk
 ·right;obtain⟨o,ho⟩:∃ o:Nat,Lib.indexByte s c=(o:Int):=⟨(Lib.indexByte s c).toNat,by omega⟩
  obtain⟨h1,h2⟩:=Lib.indexByte_some ho;have hlt:o<s.length:=by
   rcases Nat.lt_or_ge o s.length with h'|h'
   ·exact h'
   ·rw[ahW h'] at h1; cases h1
  refine⟨s.take o,s.drop (o+1),?_,?_,by rw[ho]; simp; omega⟩
  ·have e:s[o]=c:=by rw[aii hlt] at h1; exact Option.some.inj h1
   rw[←e,←ahP hlt,aiO]
  ·intro hm;obtain⟨k,hk⟩:=List.getElem?_of_mem hm;rw[aiB] at hk;split at hk
   ·exact h2 k (by assumption) hk
   ·cases hk
theorem Br (c:UInt8):∀ (k:Nat) (s:List UInt8),s.count c<=k->Lib.splitK [c] 0 k s=zQ c s
 | 0,s,h=>by
  have:c∉s:=λ hm=>by have:=List.count_pos_iff.2 hm; omega
  rw[nj c s this]; rfl
 | k+1,s,h=>by
  unfold Lib.splitK;rw[Lib.index_one];rcases re c s with⟨h1,h2⟩|⟨pre,post,rfl,h1,h2⟩
  ·rw[h2,nj c s h1]; rfl
  ·rw[h2,wF c post pre h1];have e:((pre.length:Int) == -1)=false:=by simp
   rw[e];have hd:(pre++c::post).drop ((pre.length:Int).toNat+[c].length)=post:=by
    rw[ahH,ajz,←aim]; simp
   have ht:(pre++c::post).take ((pre.length:Int).toNat+0)=pre:=by simp
   simp only[ahT,if_false];rw[hd,ht,Br c k post (by simp[List.count_append,List.count_cons] at h; omega)]
theorem PI (c:UInt8) (s:List UInt8):Lib.split s [c]=zQ c s:=by
 unfold Lib.split;refine Br c _ s ?_;rw[Lib.count_one];exact Nat.le_refl _
theorem PH (c:UInt8) (s:List UInt8):Lib.cut s [c]=match yD c s with|some p=>(p.1,p.2,true)|none=>(s,[],false):=by
 unfold Lib.cut;rw[Lib.index_one];rcases re c s with⟨h1,h2⟩|⟨pre,post,rfl,h1,h2⟩
 ·rw[h2,rB c s h1,if_neg (by decide)]
 ·rw[h2,qB c post pre h1,if_pos (by omega)];have hd:(pre++c::post).drop ((pre.length:Int).toNat+[c].length)=post:=by
   rw[ahH,ajz,←aim]; simp
  have ht:(pre++c::post).take ((pre.length:Int).toNat)=pre:=by simp
  rw[hd,ht]
theorem bW {s:List UInt8} {i:Nat} {x:UInt8} (h:s[i]?=some x):s.getD i 0=x:=by rw[aie,h]; rfl
theorem UC {s:List UInt8} {start i:Nat} (h:start<=i) (hi:i<s.length):(s.drop start).take (i+1 - start)=(s.drop start).take (i - start)++[s[i]]:=by
 rw[show i+1 - start=(i - start)+1 by omega,ajh];congr 1;rw[aiJ,show start+(i - start)=i by omega,aii hi]; rfl
theorem Ba (s:List UInt8) (c:UInt8) (hs:s.length<=137438953472):aF (s,c,())=some (zQ c s,()):=by
 unfold aF;dsimp only;refine (walk (s.length+1) (λ i (t:List (List UInt8)×Nat)=>(t.1,(t.2:Int),i,())) (λ i t=>t.2<=i/\t.1.length<=i)
  (λ i t=>some (if i<=s.length then t.1++glue ((s.drop t.2).take (i - t.2)) (zQ c (s.drop i)) else t.1,())) (by omega) ?_ ?_ (s0:=([],0)) ⟨Nat.le_refl _,Nat.zero_le _⟩).trans ?_
 ·intro rec t ht;have:¬ (((s.length+1:Nat):Int)<=(s.length:Int)):=by omega
  simp only[this,ahG,ahv];rw[if_neg (by omega)]
 ·intro rec i t hi ht;right;obtain⟨h1,h2⟩:=ht;have g:((i:Int)<=(s.length:Int)):=by omega
  by_cases he:i=s.length
  ·subst he;refine⟨(t.1++[(s.drop t.2).take (s.length - t.2)],s.length+1),⟨Nat.le_refl _,by simp; omega⟩,?_,?_⟩
   ·simp only[g,ahB,ahw,beq_self_eq_true,ahH,zt (show s.length<4611686018427387904 by omega),ahz,ahA];rw[if_pos (by first|omega|(simp only[true_and,and_true]; omega)),if_pos (by first|omega|(simp only[true_and,and_true]; omega))]
    rfl
   ·rw[if_pos (aip _),if_neg (by omega)]; simp[zQ,glue]
  ·have hlt:i<s.length:=by omega
   have hx:s[i]?=some s[i]:=List.getElem?_eq_getElem hlt;have e1:((i:Int)==(s.length:Int))=false:=by simp; omega
   have g2:(0:Int)<=(i:Int)/\(i:Int)<(s.length:Int):=by omega
   simp only[g,ahB,ahw,e1,ahv,g2,ahL,if_true,ahH,bW hx,zt (show i<4611686018427387904 by omega),ahz,ahA];by_cases hc:s[i]=c
   ·refine⟨(t.1++[(s.drop t.2).take (i - t.2)],i+1),⟨Nat.le_refl _,by simp; omega⟩,?_,?_⟩
    ·have:(s[i]==c)=true:=by simp[hc]
     simp only[this,ahw];rw[if_pos (by first|omega|(simp only[true_and,and_true]; omega)),if_pos (by first|omega|(simp only[true_and,and_true]; omega))]
     rfl
    ·rw[if_pos (by omega),if_pos (by omega),ahP hlt,zQ,if_pos hc];simp only[Nat.sub_self,List.take_zero,sr (YC _ _)];simp[glue]
   ·refine⟨t,⟨by omega,by omega⟩,?_,?_⟩
    ·have:(s[i]==c)=false:=by simp[hc]
     simp only[this,ahv]
    ·rw[if_pos (by omega),if_pos (by omega),UC h1 hlt,ahP hlt,zQ,if_neg hc,IQ _ _ (YC _ _)]
 ·simp[sr (YC _ _)]
theorem sF (s:List UInt8) (c:UInt8) (hs:s.length<=1073741824):qS (s,c,())=some (zQ c s,()):=by
 unfold qS strings_Split;dsimp only;rw[if_pos ⟨by omega,by simp⟩,PI]; rfl
theorem V3 (s:List UInt8) (c:UInt8) (hs:s.length<=137438953472):
  Lj (s,c,())=match yD c s with|some p=>some (p.1,p.2,true,())|none=>some ([],[],false,()):=by
 unfold Lj;dsimp only;refine (walk s.length (λ i (_:Unit)=>(i,())) (λ _ _=>True) (λ i _=>match yD c (s.drop i) with|some p=>some (s.take i++p.1,p.2,true,())|none=>some ([],[],false,())) (by omega) ?_ ?_ (s0:=()) trivial).trans ?_
 ·intro rec t ht;simp[yD]
 ·intro rec i t hi ht;have hx:s[i]?=some s[i]:=List.getElem?_eq_getElem hi;simp only[zu hi,ahB,ahw,ahL,if_true,ahH,bW hx,zt (show i<4611686018427387904 by omega)];rw[ahP hi];by_cases hc:s[i]=c
  ·left;have:(s[i]==c)=true:=by simp[hc]
   simp only[this,ahw];rw[if_pos (by first|omega|(simp only[true_and,and_true]; omega)),if_pos (by first|omega|(simp only[true_and,and_true]; omega))]
   simp only[yD,if_pos hc];congr 2
   ·simp
   ·congr 1;have:(((i:Int)+1).toNat)=i+1:=by omega
    rw[this,aiK (by simp)]
  ·right;have:(s[i]==c)=false:=by simp[hc]
   refine⟨(),trivial,by simp only[this,ahv],?_⟩;simp only[yD,if_neg hc];rw[ajh,hx];cases yD c (s.drop (i+1)) with
   | none=>rfl
   | some p=>simp only[aia,Option.toList_some,aih,List.singleton_append]
 ·simp
theorem Yh (x lo hi:Int):yk (x,lo,hi,())=some (decide (x≥lo) && decide (x<=hi),()):=by
 unfold yk;by_cases h:x≥lo<;>simp[h]
theorem LK (x lo hi:Int):jv (x,lo,hi,())=some (decide (x≥lo) && decide (x<=hi),()):=by
 unfold jv;by_cases h:x≥lo<;>simp[h]
theorem Wl (u:Nat):yZ (48+((u % 10:Nat):Int))=UInt8.ofNat (48+u % 10):=by
 rw[BF];congr 1;omega
theorem L6 (u:Nat) (h:u<=9223372036854775807):Jd ((u:Int),())=some (Lib.decDigits u,()):=by
 unfold Jd;dsimp only;by_cases h0:u=0
 ·subst h0;have:Lib.decDigits 0=[48]:=by rw[Lib.decDigits]; rfl
  rw[this];rfl
 have e0:((u:Int)==0)=false:=by simp; omega
 have en:¬ ((u:Int)<0):=by omega
 simp only[e0,ahv,en,ahG];refine (Qd (λ x:Int×List UInt8×Unit=>some ((if x.1=0 then [] else Lib.decDigits x.1.toNat)++x.2.1,())) (λ x=>x.1.toNat)
  (λ x=>0<=x.1/\x.1<=9223372036854775807/\∃ k,x.1.toNat<10 ^ k/\k+x.2.1.length<=20) ?_ fuel ((u:Int),[],()) ⟨by simp,by simp only; omega,20,by
   simp only[ahH];exact Nat.lt_of_le_of_lt h (by decide),by simp⟩ (by simp only[ahH,ja]; omega)).trans ?_
 ·rintro rec ⟨v,out,⟨⟩⟩ ⟨h1,Xx,k,h2,h3⟩ WW;obtain⟨n,rfl⟩:∃ n:Nat,v=(n:Int):=⟨v.toNat,by simp only at h1; omega⟩
  simp only[ahH] at h2;by_cases hn:n=0
  ·subst hn;simp
  have e1:((n:Int) != 0)=true:=by simp; omega
  have e2:Int.tmod (n:Int) 10=((n % 10:Nat):Int):=by simp[Int.tmod]
  have e3:Int.tdiv (n:Int) 10=((n / 10:Nat):Int):=by simp[Int.tdiv]
  have e4:¬ (((n % 10:Nat):Int)<0):=by omega
  simp only at Xx h3;have hk:1<=k:=by
   rcases Nat.eq_zero_or_pos k with h'|h'
   ·subst h'; simp at h2; omega
   ·exact h'
  simp only[e1,ahw,e2,e3,e4,ahG,ahv];rw[zg (show (-9223372036854775808:Int)<=48+((n % 10:Nat):Int) by omega) (show 48+((n % 10:Nat):Int)<=9223372036854775807 by omega),Wl,
   zg (show (-9223372036854775808:Int)<=((n / 10:Nat):Int) by omega) (show ((n / 10:Nat):Int)<=9223372036854775807 by omega)]
  rw[if_pos (by simp only[ahz,ahA]; omega)]
  rw[WW (((n / 10:Nat):Int),[UInt8.ofNat (48+n % 10)]++out,()) ⟨by simp only; omega,by simp only; omega,k - 1,by
   simp only[ahH];have:10 ^ k=10 ^ (k - 1)*10:=by rw[←aiQ]; congr 1; omega
   omega,by simp only[ahD,ahz,ahA]; omega⟩ (by simp only[ahH]; omega)]
  simp only[ahH];rw[if_neg (show ¬ ((n:Int)=0) by omega)];by_cases XV:n<10
  ·have:n / 10=0:=by omega
   rw[this,if_pos (by rfl),Lib.decDigits,dif_pos XV];have:n % 10=n:=by omega
   rw[this]; rfl
  ·rw[if_neg (by omega)]
   conv=>rhs; rw[Lib.decDigits,dif_neg XV]
   simp
 ·simp only[ahH];rw[if_neg (by omega)]; simp
theorem I4 (n:Int):JX (n,())=some (Lib.itoa n,()):=rfl
theorem qN (u:Nat):JX ((u:Int),())=some (Lib.decDigits u,()):=by
 rw[I4,Lib.itoa,if_neg (by omega)]; simp
def jT (b:UInt8):Bool := !(decide (b<UInt8.ofNat 48)) && !(decide (b>UInt8.ofNat 57))
def jY (l:List UInt8) (v:Nat):Nat:=l.foldl (λ v b=>10*v+(b.toNat - 48)) v
def zv (s:List UInt8):Int×Bool:=
 if 1<=s.length/\s.length<=6/\s.all jT=true/\Lib.decDigits (jY s 0)=s then ((jY s 0:Nat),true) else (0,false)
theorem Qb (b:UInt8):jT b=true↔48<=b.toNat/\b.toNat<=57:=by
 unfold jT;simp only[ahx,ai1,aiH,UInt8.lt_iff_toNat_lt,gt_iff_lt];simp
theorem nn {i:Nat} (h:i<=6):10 ^ i<=1000000:=Nat.pow_le_pow_right (n:=10) (by decide) h
theorem tY {dig:Int×Unit->Option (List UInt8×Unit)} (hd:∀ u:Nat,u<=9223372036854775807->dig ((u:Int),())=some (Lib.decDigits u,())) (s:List UInt8) (h6:s.length<=6) {G:(Int×Int×Unit->Option (Int×Bool×Unit))->Int×Int×Unit->Option (Int×Bool×Unit)}
  (Xh:∀ rec (v:Int),G rec (v,(s.length:Int),())=(dig (v,())).bind λ r1=>bif r1.1 != s then some (0,false,()) else some (v,true,()))
  (Xd:∀ rec (i v:Nat) (b:UInt8),s[i]?=some b->i<s.length->v<10 ^ i->G rec ((v:Int),(i:Int),())=if jT b=true then rec (((10*v+(b.toNat - 48):Nat):Int),(i:Int)+1,()) else some (0,false,())):
  iter G fuel (0,0,())=some (if s.all jT=true/\Lib.decDigits (jY s 0)=s then (((jY s 0:Nat):Int),true,()) else (0,false,())):=by
 refine (walk s.length (λ i (v:Nat)=>((v:Int),i,())) (λ i v=>v<10 ^ i)
  (λ i v=>some (if (s.drop i).all jT=true/\Lib.decDigits (jY (s.drop i) v)=s then (((jY (s.drop i) v:Nat):Int),true,()) else (0,false,()))) (by omega) ?_ ?_ (s0:=0) (by decide)).trans (by simp)
 ·intro rec v hv;have:=nn h6;rw[Xh,hd v (by omega)];simp only[ahu,ai7,List.all_nil,jY,List.foldl_nil,true_and];by_cases e:Lib.decDigits v=s
  ·have:(Lib.decDigits v != s)=false:=by simp[e]
   rw[if_pos e,this]; rfl
  ·have:(Lib.decDigits v != s)=true:=by simp[e]
   rw[if_neg e,this]; rfl
 ·intro rec i v hi hv;have hx:s[i]?=some s[i]:=List.getElem?_eq_getElem hi;rw[Xd rec i v s[i] hx hi hv,List.drop_eq_getElem_cons hi];by_cases hb:jT s[i]=true
  ·right;refine⟨10*v+(s[i].toNat - 48),?_,by rw[if_pos hb],?_⟩
   ·have:=(Qb _).1 hb;rw[aiQ]; omega
   ·have e:jY (s[i]::List.drop (i+1) s) v=jY (List.drop (i+1) s) (10*v+(s[i].toNat - 48)):=rfl;rw[ai3,hb,ahU,e]
  ·left;rw[if_neg hb,if_neg (λ h=>hb (by have:=h.1; rw[ai3,ahx] at this; exact this.1))]
theorem rx {α:Type} (b:UInt8) (x y:α):(bif decide (b<UInt8.ofNat (Int.toNat 48)) then y else bif decide (b>UInt8.ofNat (Int.toNat 57)) then y else x)=if jT b=true then x else y:=by
 unfold jT;simp only[show Int.toNat 48=48 from rfl,show Int.toNat 57=57 from rfl];cases decide (b<UInt8.ofNat 48)<;>cases decide (b>UInt8.ofNat 57)<;>simp
theorem da (s:List UInt8) (h:¬ (1<=s.length/\s.length<=6)):zv s=(0,false):=by
 unfold zv;rw[if_neg (λ hh=>h ⟨hh.1,hh.2.1⟩)]
theorem tX (s:List UInt8) (h:1<=s.length/\s.length<=6):
  (some (if s.all jT=true/\Lib.decDigits (jY s 0)=s then (((jY s 0:Nat):Int),true,()) else (0,false,())):Option (Int×Bool×Unit))=some ((zv s).1,(zv s).2,()):=by
 unfold zv;by_cases hc:s.all jT=true/\Lib.decDigits (jY s 0)=s
 ·rw[if_pos hc,if_pos ⟨h.1,h.2,hc⟩]
 ·rw[if_neg hc,if_neg (λ hh=>hc hh.2.2)]
theorem A6 (s:List UInt8):Le (s,())=some ((zv s).1,(zv s).2,()):=by
 unfold Le;dsimp only;by_cases h1:(s.length:Int)<1
 ·rw[da s (by omega)]; simp only[h1,ahB,ahw]
 by_cases h6:(s.length:Int)>6
 ·rw[da s (by omega)]; simp only[h1,ahG,ahv,h6,ahB,ahw]
 simp only[h1,ahG,ahv,h6];refine (tY (dig:=Jd) L6 s (by omega) ?_ ?_).trans (tX s (by omega))
 ·intro rec v; simp
 ·intro rec i v b hx hi hv;have hp:=nn (i:=i) (by omega);simp only[zu hi,ahB,ahw,ahL,if_true,ahH,bW hx,zt (show i<4611686018427387904 by omega)];rw[rx];by_cases hb:jT b=true
  ·have:=(Qb _).1 hb;rw[if_pos hb,if_pos hb,zg (n:=10*(v:Int)) (by omega) (by omega),zg (n:=10*(v:Int)+_) (by omega) (by omega),zg (by omega) (by omega)];congr 2;omega
  ·rw[if_neg hb,if_neg hb]
theorem sC (s:List UInt8):qQ (s,())=some ((zv s).1,(zv s).2,()):=by
 unfold qQ;dsimp only;by_cases h1:(s.length:Int)<1
 ·rw[da s (by omega)]; simp only[h1,ahB,ahw]
 by_cases h6:(s.length:Int)>6
 ·rw[da s (by omega)]; simp only[h1,ahG,ahv,h6,ahB,ahw]
 simp only[h1,ahG,ahv,h6];refine (tY (dig:=JX) (λ u _=>qN u) s (by omega) ?_ ?_).trans (tX s (by omega))
 ·intro rec v; simp
 ·intro rec i v b hx hi hv;have hp:=nn (i:=i) (by omega);simp only[zu hi,ahB,ahw,ahL,if_true,ahH,bW hx,zt (show i<4611686018427387904 by omega)];rw[rx];by_cases hb:jT b=true
  ·have:=(Qb _).1 hb;have X9:(b - UInt8.ofNat (Int.toNat 48)).toNat=b.toNat - 48:=by
    rw[UInt8.toNat_sub_of_le]
    ·rfl
    ·rw[UInt8.le_iff_toNat_le]; exact this.1
   rw[if_pos hb,if_pos hb,X9,zg (n:=10*(v:Int)) (by omega) (by omega),zg (by omega) (by omega)];congr 2
  ·rw[if_neg hb,if_neg hb]
theorem Ri (l:List UInt8) (b:UInt8) (v:Nat):jY (l++[b]) v=10*jY l v+(b.toNat - 48):=by simp[jY]
theorem bM {u:Nat} (h:u<10):(UInt8.ofNat (48+u)).toNat=48+u:=by
 rw[UInt8.toNat_ofNat']; omega
theorem rC:∀ u:Nat,(Lib.decDigits u).all jT=true/\jY (Lib.decDigits u) 0=u:=by
 intro u;induction u using Nat.strongRecOn with
 | _ u ih=>
  by_cases h:u<10
  ·rw[Lib.decDigits,dif_pos h];have hd:jT (UInt8.ofNat (48+u))=true:=(Qb _).2 (by rw[bM h]; omega)
   refine⟨by rw[ai3,hd]; rfl,?_⟩
   simp only[jY,aig,List.foldl_nil];rw[bM h]; omega
  ·rw[Lib.decDigits,dif_neg h];obtain⟨h1,h2⟩:=ih (u / 10) (by omega);have hd:jT (UInt8.ofNat (48+u % 10))=true:=(Qb _).2 (by rw[bM (by omega)]; omega)
   refine⟨by rw[List.all_append,h1,ai3,hd]; rfl,?_⟩
   rw[Ri,h2,bM (by omega)]; omega
theorem rD (u:Nat) (h:u<1000000):1<=(Lib.decDigits u).length/\(Lib.decDigits u).length<=6:=by
 rw[Lib.decDigits_length];refine⟨Lib.nDigits_pos u,?_⟩;have key:∀ k u:Nat,u<10 ^ (k+1)->Lib.nDigits u<=k+1:=by
  intro k;induction k with
  | zero=>intro u h; rw[Lib.nDigits_small (by simpa using h)]; exact Nat.le_refl _
  | succ k ih=>
   intro u h;by_cases hu:u<10
   ·rw[Lib.nDigits_small hu]; omega
   ·rw[Lib.nDigits_big hu];have:=ih (u / 10) (by rw[aiQ] at h; omega)
    omega
 exact key 5 u (by simpa using h)
theorem c9 (u:Nat) (h:u<1000000):zv (Lib.decDigits u)=((u:Int),true):=by
 obtain⟨h1,h2⟩:=rC u;obtain⟨h3,h4⟩:=rD u h;unfold zv;rw[if_pos ⟨h3,h4,h1,by rw[h2]⟩,h2]
theorem kr {u:Nat} {c:UInt8} (hc:jT c=false):c∉Lib.decDigits u:=by
 intro hm;have:=List.all_eq_true.1 (rC u).1 c hm;rw[hc] at this; cases this
def zN (t:zz):Bool:=(decide (t.1≥0) && decide (t.1<=3)) && ((decide (t.2.1≥0) && decide (t.2.1<=3)) && ((decide (t.2.2.1≥0) && decide (t.2.2.1<=1000)) && (decide (t.2.2.2≥0) && decide (t.2.2.2<=99))))
theorem qk (t:zz):zN t=true↔(0<=t.1/\t.1<=3)/\(0<=t.2.1/\t.2.1<=3)/\(0<=t.2.2.1/\t.2.2.1<=1000)/\(0<=t.2.2.2/\t.2.2.2<=99):=by
 unfold zN; simp only[ahx,ahI,ge_iff_le]
theorem Mf (t:zz):Kq (t,())=some (zN t,()):=by
 unfold Kq zN;simp only[Yh,ahu];cases (decide (t.1≥0) && decide (t.1<=3))<;>cases (decide (t.2.1≥0) && decide (t.2.1<=3))<;>cases (decide (t.2.2.1≥0) && decide (t.2.2.1<=1000))<;>rfl
theorem qV (t:zz):KS (t,())=some (zN t,()):=by
 unfold KS zN;simp only[LK,ahu];cases (decide (t.1≥0) && decide (t.1<=3))<;>cases (decide (t.2.1≥0) && decide (t.2.1<=3))<;>cases (decide (t.2.2.1≥0) && decide (t.2.2.1<=1000))<;>rfl
def yJ (t:zz):List UInt8:=
 if zN t=true then (((((Lib.decDigits t.1.toNat++[62])++Lib.decDigits t.2.1.toNat)++[58])++Lib.decDigits t.2.2.1.toNat)++[35])++Lib.decDigits t.2.2.2.toNat else []
theorem dl (u:Nat) (h:u<1000000):(Lib.decDigits u).length<=6:=(rD u h).2
theorem gx (t:zz):(yJ t).length<=27:=by
 unfold yJ;split
 ·next h=>
  have:=(qk t).1 h;have h1:=dl t.1.toNat (by omega);have h2:=dl t.2.1.toNat (by omega);have h3:=dl t.2.2.1.toNat (by omega);have h4:=dl t.2.2.2.toNat (by omega);simp only[ahD,ahz,ahA];omega
 ·simp
theorem Bc (t:zz):N0 (t,())=some (yJ t,()):=by
 unfold N0 yJ;simp only[Mf,ahu];by_cases h:zN t=true
 ·have hh:=(qk t).1 h;have d1:=L6 t.1.toNat (by omega);have d2:=L6 t.2.1.toNat (by omega);have d3:=L6 t.2.2.1.toNat (by omega);have d4:=L6 t.2.2.2.toNat (by omega);rw[aje (by omega)] at d1 d2 d3 d4;have h1:=dl t.1.toNat (by omega);have h2:=dl t.2.1.toNat (by omega);have h3:=dl t.2.2.1.toNat (by omega);have h4:=dl t.2.2.2.toNat (by omega);simp only[h,ahC,ahv,d1,d2,d3,d4,ahu,ahD,ahz,ahA,if_true];rw[if_pos (by omega),if_pos (by omega),if_pos (by omega),if_pos (by omega),if_pos (by omega),if_pos (by omega)]
 ·have:zN t=false:=by simpa using h
  simp[this]
theorem Of (t:zz):qW (t,())=some (yJ t,()):=by
 unfold qW yJ;simp only[qV,ahu];by_cases h:zN t=true
 ·have hh:=(qk t).1 h;have d1:=qN t.1.toNat;have d2:=qN t.2.1.toNat;have d3:=qN t.2.2.1.toNat;have d4:=qN t.2.2.2.toNat;rw[aje (by omega)] at d1 d2 d3 d4;have h1:=dl t.1.toNat (by omega);have h2:=dl t.2.1.toNat (by omega);have h3:=dl t.2.2.1.toNat (by omega);have h4:=dl t.2.2.2.toNat (by omega);simp only[h,ahC,ahv,d1,d2,d3,d4,ahu,ahD,ahz,ahA,if_true];rw[if_pos (by omega),if_pos (by omega),if_pos (by omega),if_pos (by omega),if_pos (by omega),if_pos (by omega)]
 ·have:zN t=false:=by simpa using h
  simp[this]
def zR (c:UInt8) (s d:List UInt8):List UInt8×List UInt8:=match yD c s with|some p=>p|none=>(d,[])
def ZC (s:List UInt8):zz:=
 let p:=zR 62 s []
 let q:=zR 58 p.2 []
 let r:=zR 35 q.2 []
 ((zv p.1).1,(zv q.1).1,(zv r.1).1,(zv r.2).1)
def Yx (s:List UInt8):zz:=
 let p:=zR 62 s s
 let q:=zR 58 p.2 p.2
 let r:=zR 35 q.2 q.2
 ((zv p.1).1,(zv q.1).1,(zv r.1).1,(zv r.2).1)
theorem BH {t:zz} (h:zN t=true) (d1 d2 d3:List UInt8->List UInt8):
  let p:=zR 62 (yJ t) (d1 (yJ t))
  let q:=zR 58 p.2 (d2 p.2)
  let r:=zR 35 q.2 (d3 q.2)
  ((zv p.1).1,(zv q.1).1,(zv r.1).1,(zv r.2).1)=t:=by
 have hh:=(qk t).1 h;have e1:yD 62 (yJ t)=some (Lib.decDigits t.1.toNat,Lib.decDigits t.2.1.toNat++58::(Lib.decDigits t.2.2.1.toNat++35::Lib.decDigits t.2.2.2.toNat)):=by
  unfold yJ;rw[if_pos h];have:=qB 62 (Lib.decDigits t.2.1.toNat++58::(Lib.decDigits t.2.2.1.toNat++35::Lib.decDigits t.2.2.2.toNat)) (Lib.decDigits t.1.toNat) (kr (by decide));rw[←this];congr 1;simp
 have e2:=qB 58 (Lib.decDigits t.2.2.1.toNat++35::Lib.decDigits t.2.2.2.toNat) (Lib.decDigits t.2.1.toNat) (kr (by decide));have e3:=qB 35 (Lib.decDigits t.2.2.2.toNat) (Lib.decDigits t.2.2.1.toNat) (kr (by decide));simp only[zR,e1,e2,e3,c9 _ (show t.1.toNat<1000000 by omega),c9 _ (show t.2.1.toNat<1000000 by omega),c9 _ (show t.2.2.1.toNat<1000000 by omega),c9 _ (show t.2.2.2.toNat<1000000 by omega)];obtain⟨a,b,c,d⟩:=t;simp only at hh;simp only[ahE];omega
def j7 (s:List UInt8):zz×Bool:=if zN (ZC s)=true/\yJ (ZC s)=s then (ZC s,true) else ((0,0,0,0),false)
theorem Wq (s:List UInt8):j7 s=if zN (Yx s)=true/\yJ (Yx s)=s then (Yx s,true) else ((0,0,0,0),false):=by
 unfold j7;by_cases h1:zN (ZC s)=true/\yJ (ZC s)=s
 ·have e:Yx s=ZC s:=by
   have:=BH h1.1 (λ x=>x) (λ x=>x) (λ x=>x);rw[h1.2] at this;exact this
  rw[if_pos h1,e,if_pos h1]
 ·rw[if_neg h1,if_neg];intro h2;have e:ZC s=Yx s:=by
   have:=BH h2.1 (λ x=>[]) (λ x=>[]) (λ x=>[]);rw[h2.2] at this;exact this
  exact h1 (by rw[e]; exact h2)
theorem cI (s:List UInt8) (c:UInt8) (hs:s.length<=137438953472):Lj (s,c,())=some ((zR c s []).1,(zR c s []).2,(yD c s).isSome,()):=by
 rw[V3 s c hs];unfold zR;cases yD c s<;>rfl
theorem Lz (c:UInt8) (s d:List UInt8) (hd:d.length<=s.length):(zR c s d).1.length<=s.length/\(zR c s d).2.length<=s.length:=by
 unfold zR;cases h:yD c s with
 | none=>exact⟨hd,by simp⟩
 | some p=>
  have:=(kq c (p:=p.1) (q:=p.2) h).1;simp only;omega
theorem Wu {t:zz} (h:¬ zN t=true):yJ t=[]:=by unfold yJ; rw[if_neg h]
theorem Wt {t:zz} (h:zN t=true):yJ t≠[]:=by unfold yJ; rw[if_pos h]; simp
theorem VQ (s:List UInt8) (hs:s.length<=137438953472):aK (s,())=some ((j7 s).1,(j7 s).2,()):=by
 have l1:=Lz 62 s [] (by simp);have l2:=Lz 58 (zR 62 s []).2 [] (by simp);have l3:=Lz 35 (zR 58 (zR 62 s []).2 []).2 [] (by simp);unfold aK;simp only[show UInt8.ofNat (Int.toNat 62)=62 from rfl,show UInt8.ofNat (Int.toNat 58)=58 from rfl,show UInt8.ofNat (Int.toNat 35)=35 from rfl,
  cI s 62 hs,cI (zR 62 s []).2 58 (by omega),cI (zR 58 (zR 62 s []).2 []).2 35 (by omega),A6,Bc,Option.bind_some]
 by_cases h0:s=[]
 ·subst h0;have:¬ (zN (ZC [])=true/\yJ (ZC [])=[]):=λ h=>Wt h.1 h.2;unfold j7;rw[if_neg this];simp
 ·have e0:(s==[])=false:=by simp[h0]
  simp only[e0,ahv];unfold j7;have ef:((zv (zR 62 s []).1).1,(zv (zR 58 (zR 62 s []).2 []).1).1,(zv (zR 35 (zR 58 (zR 62 s []).2 []).2 []).1).1,(zv (zR 35 (zR 58 (zR 62 s []).2 []).2 []).2).1)=ZC s:=rfl;rw[ef];by_cases h:yJ (ZC s)=s
  ·have WX:zN (ZC s)=true:=by
    by_cases hk:zN (ZC s)=true
    ·exact hk
    ·rw[Wu hk] at h; exact absurd h.symm h0
   have e1:(yJ (ZC s) != s)=false:=by simp[h]
   rw[if_pos ⟨WX,h⟩,e1]; rfl
  ·have e1:(yJ (ZC s) != s)=true:=by simp[h]
   rw[if_neg (λ hh=>h hh.2),e1]; rfl
theorem gr (s:List UInt8) (c:UInt8) (hs:s.length<=1073741824):strings_Cut (s,[c],())=some ((zR c s s).1,(zR c s s).2,(yD c s).isSome,()):=by
 unfold strings_Cut;dsimp only;rw[if_pos (by omega),PH];unfold zR;cases yD c s<;>rfl
theorem Oe (s:List UInt8) (hs:s.length<=1073741824):qU (s,())=some ((j7 s).1,(j7 s).2,()):=by
 have l1:=Lz 62 s s (Nat.le_refl _);have l2:=Lz 58 (zR 62 s s).2 (zR 62 s s).2 (Nat.le_refl _);rw[Wq];unfold qU;simp only[gr s 62 hs,gr (zR 62 s s).2 58 (by omega),gr (zR 58 (zR 62 s s).2 (zR 62 s s).2).2 35 (by omega),ahu];generalize hp:zR 62 s s=p;generalize hq:zR 58 p.2 p.2=q;generalize hr:zR 35 q.2 q.2=r;have ef:Yx s=((zv p.1).1,(zv q.1).1,(zv r.1).1,(zv r.2).1):=by
  unfold Yx; simp only[hp,hq,hr]
 refine (IJ [p.1,q.1,r.1,r.2] (λ x=>(zv x).1) (λ out=>(KS ((rd .i64 out 0,rd .i64 out 1,rd .i64 out 2,rd .i64 out 3),())).bind λ r5=>bif (!r5.1) then some ((0,0,0,0),false,()) else
   (qW ((rd .i64 out 0,rd .i64 out 1,rd .i64 out 2,rd .i64 out 3),())).bind λ r6=>bif (r6.1 != s) then some ((0,0,0,0),false,()) else some ((rd .i64 out 0,rd .i64 out 1,rd .i64 out 2,rd .i64 out 3),true,())) (by simp) ?_ ?_ _ (by simp)).trans ?_
 ·intro rec out ho;have ho:out.length=4:=ho;simp[ho]
 ·intro rec i out y hx hi ho;have ho:out.length=4:=ho;have hi':i<4:=hi;simp only[ahH,ho,zu hi,ahB,ahw,if_true,ahL,zq (e:=.str) hx,sC y,ahu,zt (show i<4611686018427387904 by omega)];rw[if_pos ⟨trivial,by omega⟩]
 ·simp only[ahN,aic,rd,ajC,List.getD_cons_succ];rw[←ef,qV,Of];simp only[ahu];by_cases h:zN (Yx s)=true
  ·by_cases h2:yJ (Yx s)=s
   ·have e1:(yJ (Yx s) != s)=false:=by simp[h2]
    rw[if_pos ⟨h,h2⟩,e1,h]; rfl
   ·have e1:(yJ (Yx s) != s)=true:=by simp[h2]
    rw[if_neg (λ hh=>h2 hh.2),e1,h]; rfl
  ·have:zN (Yx s)=false:=by simpa using h
   rw[if_neg (λ hh=>h hh.1),this]; rfl
def Yj:List (List UInt8)->List zz->List zz×Bool
 | [],out=>(out,true)
 | p::ps,out=>if (j7 p).2=true then Yj ps (out++[(j7 p).1]) else ([],false)
def y7 (s:List UInt8):List zz×Bool:=if s=[] then ([],true) else Yj (zQ 44 s) []
theorem LV (c:UInt8):∀ {s p:List UInt8},p∈zQ c s->p.length<=s.length
 | [],p,h=>by simp[zQ] at h; simp[h]
 | x::l,p,h=>by
  simp only[zQ] at h;split at h
  ·rcases List.mem_cons.1 h with rfl|h
   ·simp
   ·have:=LV c h; simp; omega
  ·cases hp:zQ c l with
   | nil=>rw[hp] at h; simp[glue] at h; simp[h]
   | cons q r=>
    rw[hp] at h;simp only[glue,ahO] at h;rcases h with rfl|h
    ·have:=LV c (s:=l) (p:=q) (by rw[hp]; simp); simp; omega
    ·have:=LV c (s:=l) (p:=p) (by rw[hp]; simp[h]); simp; omega
theorem BM {tx:List UInt8×Unit->Option (zz×Bool×Unit)} (ps:List (List UInt8)) (hl:ps.length<=137438953473) (htx:∀ p∈ps,tx (p,())=some ((j7 p).1,(j7 p).2,()))
  {G:(List zz×Int×Unit->Option (List zz×Bool×Unit))->List zz×Int×Unit->Option (List zz×Bool×Unit)}
  (hG:∀ rec out (i:Int),G rec (out,i,())=bif decide (i<(ps.length:Int)) then (if 0<=i/\i<(ps.length:Int) then (tx (rd .str ps i.toNat,())).bind λ r2=>bif !r2.2.1 then some ([],false,()) else
   (if (out.length+[r2.1].length)*32<=70368744177664 then rec (out++[r2.1],wr (i+1),()) else none) else none) else some (out,true,())):
  iter G fuel ([],0,())=some ((Yj ps []).1,(Yj ps []).2,()):=by
 refine (walk ps.length (λ i (out:List zz)=>(out,i,())) (λ i out=>out.length=i) (λ i out=>some ((Yj (ps.drop i) out).1,(Yj (ps.drop i) out).2,())) (by omega) ?_ ?_ (s0:=[]) rfl).trans (by simp)
 ·intro rec out ho;rw[hG]; simp[Yj]
 ·intro rec i out hi ho;have hx:ps[i]?=some ps[i]:=List.getElem?_eq_getElem hi;rw[hG];simp only[zu hi,decide_true,cond_true,and_self,if_true,Int.toNat_natCast,zq (e:=.str) hx,htx ps[i] (List.getElem_mem hi),Option.bind_some,zt (show i<4611686018427387904 by omega),List.length_cons,List.length_nil];rw[ahP hi];by_cases h:(j7 ps[i]).2=true
  ·right;refine⟨out++[(j7 ps[i]).1],by simp[ho],?_,?_⟩
   ·rw[h]; simp only[ahC,ahv]; rw[if_pos (by omega)]
   ·simp only[Yj,h,if_true]
  ·left;have h':(j7 ps[i]).2=false:=by simpa using h
   simp[Yj,h']
theorem VR (s:List UInt8) (hs:s.length<=137438953472):fB (s,())=some ((y7 s).1,(y7 s).2,()):=by
 unfold fB y7;by_cases h0:s=[]
 ·subst h0; rfl
 ·have e0:(s==[])=false:=by simp[h0]
  rw[if_neg h0];simp only[e0,ahv,show UInt8.ofNat (Int.toNat 44)=44 from rfl,Ba s 44 hs,ahu];have hp:=QI 44 s;refine BM (tx:=aK) (zQ 44 s) (by omega) (λ p hm=>VQ p (by have:=LV 44 hm; omega)) ?_
  intro rec out i; rfl
theorem Og (s:List UInt8) (hs:s.length<=1073741824):cm (s,())=some ((y7 s).1,(y7 s).2,()):=by
 unfold cm y7;by_cases h0:s=[]
 ·subst h0; rfl
 ·have e0:(s==[])=false:=by simp[h0]
  rw[if_neg h0];simp only[e0,ahv,show UInt8.ofNat (Int.toNat 44)=44 from rfl,sF s 44 hs,ahu];have hp:=QI 44 s;refine BM (tx:=qU) (zQ 44 s) (by omega) (λ p hm=>Oe p (by have:=LV 44 hm; omega)) ?_
  intro rec out i; rfl
abbrev ZJ:=Int×List zz
def yN (q:List UInt8×List UInt8) (prev:Int):Bool:=
 (zv q.1).2 && ((y7 q.2).2 && (decide (prev<(zv q.1).1) && (decide ((zv q.1).1<=60) && decide ((y7 q.2).1.length<=2))))
def js:List (List UInt8)->Int->List ZJ->List ZJ×Bool
 | [],_,out=>(out,true)
 | p::ps,prev,out=>match yD 124 p with
  | none=>([],false)
  | some q=>if yN q prev=true then
    js ps (zv q.1).1 (out++[((zv q.1).1,(y7 q.2).1)]) else ([],false)
def steps (s:List UInt8):List ZJ×Bool:=
 if s=[] then ([],true) else match zQ 47 s with
  | []=>([],false)
  | p::ps=>if p=[]/\ps.length<=30 then js ps 0 [] else ([],false)
theorem lZ (s:List UInt8):0<=(zv s).1:=by
 unfold zv;split<;>simp
theorem fx (s:List UInt8) (hs:s.length<=137438953472):Md (s,())=some ((steps s).1,(steps s).2,()):=by
 unfold Md steps;by_cases h0:s=[]
 ·subst h0; rfl
 have e0:(s==[])=false:=by simp[h0]
 rw[if_neg h0];simp only[e0,ahv,show UInt8.ofNat (Int.toNat 47)=47 from rfl,show UInt8.ofNat (Int.toNat 124)=124 from rfl,Ba s 47 hs,ahu];have hpl:=QI 47 s;have hpm:∀ p∈zQ 47 s,p.length<=s.length:=λ p hm=>LV 47 hm;cases hp:zQ 47 s with
 | nil=>exact absurd hp (YC _ _)
 | cons p ps=>
  rw[hp] at hpl hpm;simp only[ahz] at hpl;rw[if_pos (by simp only[ahz]; omega)]
  simp only[aiq,rd,ajC];by_cases h1:p=[]
  ·subst h1;simp only[bne_self_eq_false,ahv];by_cases h2:(((([]:List UInt8)::ps).length:Nat):Int)>31
   ·rw[if_neg (by simp only[ahz] at h2; omega)]
    simp only[h2,ahB,ahw]
   ·rw[if_pos (show True/\ps.length<=30 from⟨trivial,by simp only[ahz] at h2; omega⟩)]
    simp only[h2,ahG,ahv];refine (BW (([]:List UInt8)::ps).length (λ i (t:List ZJ×Int)=>(t.1,t.2,i,())) (λ i t=>t.1.length<=i/\0<=t.2/\t.2<=60)
     (λ i t=>some ((js ((([]:List UInt8)::ps).drop i) t.2 t.1).1,(js ((([]:List UInt8)::ps).drop i) t.2 t.1).2,())) (by simp only[ahz]; omega) ?_ ?_ (s0:=([],0)) 1 (by simp) ⟨by simp,by simp,by simp⟩).trans (by simp)
    ·intro rec t ht; simp[js]
    ·intro rec i t hi ht;obtain⟨t1,t2,t3⟩:=ht;have hx:(([]:List UInt8)::ps)[i]?=some (([]:List UInt8)::ps)[i]:=List.getElem?_eq_getElem hi;have W2:=hpm _ (List.getElem_mem hi);have hil:i<=s.length+1:=by simp only[ahz] at hi; omega
     rw[ahP hi];simp only[js];have hc:=Lz 124 (([]:List UInt8)::ps)[i] [] (by simp);simp only[zu hi,decide_true,cond_true,and_self,if_true,Int.toNat_natCast,zq (e:=.str) hx,cI _ 124 (show (([]:List UInt8)::ps)[i].length<=137438953472 by omega),A6,VR _ (show (zR 124 (([]:List UInt8)::ps)[i] []).2.length<=137438953472 by omega),Option.bind_some,
      zt (show i<4611686018427387904 by omega)]
     generalize hq:yD 124 (([]:List UInt8)::ps)[i]=q;cases q with
     | none=>left; simp
     | some q=>
      simp only[zR,hq,Option.isSome_some,ahC,ahv];by_cases c1:(zv q.1).2=true
      ·by_cases c2:(y7 q.2).2=true
       ·by_cases c3:t.2<(zv q.1).1
        ·by_cases c4:(zv q.1).1<=60
         ·by_cases c5:(y7 q.2).1.length<=2
          ·right;refine⟨(t.1++[((zv q.1).1,(y7 q.2).1)],(zv q.1).1),⟨by simp; omega,lZ _,c4⟩,?_,?_⟩
           ·simp only[c1,c2,ahC,ahv,show ¬ (zv q.1).1<=t.2 by omega,ahG,show ¬ (zv q.1).1>60 by omega,show ¬ ((y7 q.2).1.length:Int)>2 by omega,ahz,ahA];rw[if_pos (by omega)]
           ·rw[if_pos (show yN q t.2=true by simp[yN,c1,c2,c3,c4,c5])]
          ·left;have hB:yN q t.2=false:=by simp[yN,c5]
           rw[hB];simp[c1,c2,show ¬ (zv q.1).1<=t.2 by omega,show ¬ (zv q.1).1>60 by omega,show (2:Int)<((y7 q.2).1.length:Int) by omega]
         ·left;have hB:yN q t.2=false:=by simp[yN,c4]
          rw[hB];simp[c1,c2,show ¬ (zv q.1).1<=t.2 by omega,show (zv q.1).1>60 by omega]
        ·left;have hB:yN q t.2=false:=by simp[yN,c3]
         rw[hB];simp[c1,c2,show (zv q.1).1<=t.2 by omega]
       ·left;have hB:yN q t.2=false:=by simp[yN,c2]
        rw[hB];have:(y7 q.2).2=false:=by simpa using c2
        simp[c1,this]
      ·left;have hB:yN q t.2=false:=by simp[yN,c1]
       rw[hB];have:(zv q.1).2=false:=by simpa using c1
       simp[this]
  ·have e1:(p != [])=true:=by simp[h1]
   rw[if_neg (show ¬ (p=[]/\ps.length<=30) from λ h=>h1 h.1),e1]; rfl
theorem sG (s:List UInt8) (hs:s.length<=1073741824):qT (s,())=some ((steps s).1,(steps s).2,()):=by
 unfold qT steps;by_cases h0:s=[]
 ·subst h0; rfl
 have e0:(s==[])=false:=by simp[h0]
 rw[if_neg h0];simp only[e0,ahv,show UInt8.ofNat (Int.toNat 47)=47 from rfl,sF s 47 hs,ahu];have hpl:=QI 47 s;have hpm:∀ p∈zQ 47 s,p.length<=s.length:=λ p hm=>LV 47 hm;cases hp:zQ 47 s with
 | nil=>exact absurd hp (YC _ _)
 | cons p ps=>
  rw[hp] at hpl hpm;simp only[ahz] at hpl;rw[if_pos (by simp only[ahz]; omega)]
  simp only[aiq,rd,ajC];have hw:wr (((p::ps).length:Int) - 1)=(ps.length:Int):=by
   rw[zg (by simp only[ahz]; omega) (by simp only[ahz]; omega)]
   simp only[ahz]; omega
  rw[hw];have htd:List.take ((((p::ps).length:Nat):Int).toNat - Int.toNat 1) (List.drop (Int.toNat 1) (p::ps))=ps:=by
   simp
  rw[htd];by_cases h1:p=[]
  ·subst h1;simp only[bne_self_eq_false,ahv];by_cases h2:(ps.length:Int)>30
   ·rw[if_neg (show ¬ (True/\ps.length<=30) from λ h=>by have:=h.2; omega)]
    simp only[h2,ahB,ahw]
   ·rw[if_pos (show True/\ps.length<=30 from⟨trivial,by omega⟩)];simp only[h2,ahG,ahv];rw[if_pos (by simp only[ahz]; omega)]
    refine (walk ps.length (λ i (t:List ZJ×Int)=>(t.1,t.2,i,())) (λ i t=>t.1.length<=i/\0<=t.2/\t.2<=60)
     (λ i t=>some ((js (ps.drop i) t.2 t.1).1,(js (ps.drop i) t.2 t.1).2,())) (by omega) ?_ ?_ (s0:=([],0)) ⟨by simp,by simp,by simp⟩).trans (by simp)
    ·intro rec t ht; simp[js]
    ·intro rec i t hi ht;obtain⟨t1,t2,t3⟩:=ht;have hx:ps[i]?=some ps[i]:=List.getElem?_eq_getElem hi;have W2:=hpm _ (List.mem_cons_of_mem _ (List.getElem_mem hi));rw[ahP hi];simp only[js];have hc:=Lz 124 ps[i] ps[i] (Nat.le_refl _);have hx':ps.getD i (dflt .str)=ps[i]:=zq (e:=.str) hx;simp only[zu hi,decide_true,cond_true,and_self,if_true,Int.toNat_natCast,hx',gr _ 124 (show ps[i].length<=1073741824 by omega),sC,Og _ (show (zR 124 ps[i] ps[i]).2.length<=1073741824 by omega),Option.bind_some,
      zt (show i<4611686018427387904 by omega),LK,zg (show (-9223372036854775808:Int)<=t.2+1 by omega) (show t.2+1<=9223372036854775807 by omega)]
     generalize hq:yD 124 ps[i]=q;cases q with
     | none=>left; simp
     | some q=>
      simp only[zR,hq,Option.isSome_some,ahC,ahv];by_cases c1:(zv q.1).2=true
      ·by_cases c2:(y7 q.2).2=true
       ·by_cases c3:t.2<(zv q.1).1
        ·by_cases c4:(zv q.1).1<=60
         ·by_cases c5:(y7 q.2).1.length<=2
          ·right;refine⟨(t.1++[((zv q.1).1,(y7 q.2).1)],(zv q.1).1),⟨by simp; omega,lZ _,c4⟩,?_,?_⟩
           ·simp only[c1,c2,c4,ahC,ahv,show (zv q.1).1≥t.2+1 by omega,ahB,air,show ¬ ((y7 q.2).1.length:Int)>2 by omega,ahG,ahz,ahA];rw[if_pos (by omega)]
           ·rw[if_pos (show yN q t.2=true by simp[yN,c1,c2,c3,c4,c5])]
          ·left;have hB:yN q t.2=false:=by simp[yN,c5]
           rw[hB];simp[c1,c2,c4,show t.2+1<=(zv q.1).1 by omega,show (2:Int)<((y7 q.2).1.length:Int) by omega]
         ·left;have hB:yN q t.2=false:=by simp[yN,c4]
          rw[hB];simp[c1,c2,c4]
        ·left;have hB:yN q t.2=false:=by simp[yN,c3]
         rw[hB];simp[c1,c2,show ¬ t.2+1<=(zv q.1).1 by omega]
       ·left;have hB:yN q t.2=false:=by simp[yN,c2]
        rw[hB];have:(y7 q.2).2=false:=by simpa using c2
        simp[c1,this]
      ·left;have hB:yN q t.2=false:=by simp[yN,c1]
       rw[hB];have:(zv q.1).2=false:=by simpa using c1
       simp[this]
  ·have e1:(p != [])=true:=by simp[h1]
   rw[if_neg (show ¬ (p=[]/\ps.length<=30) from λ h=>h1 h.1),e1]; rfl
def zA (c:za):Bool:=(decide (c.1≥4) && decide (c.1<=7)) && (decide (c.2≥1) && decide (c.2<=6))
theorem YM (c:za):ZD (c,())=some (zA c,()):=by
 unfold ZD zA;simp only[Yh,ahu];cases (decide (c.1≥4) && decide (c.1<=7))<;>rfl
theorem qM (c:za):JW (c,())=some (zA c,()):=by
 unfold JW zA;simp only[LK,ahu];cases (decide (c.1≥4) && decide (c.1<=7))<;>rfl
theorem ym {c:za} (h:zA c=true):4<=c.1/\c.1<=7:=by
 unfold zA at h;simp only[ahx,ahI] at h;omega
def zD (s:List UInt8):Bool:=(steps s).2
def zm (s:List UInt8):Int:=match (steps s).1.getLast? with|some x=>x.1|none=>0
theorem Kl (s:List UInt8) (hs:s.length<=137438953472):YN (s,())=some (zD s,()):=by
 unfold YN zD;simp only[fx s hs,ahu]
theorem qP (s:List UInt8) (hs:s.length<=1073741824):KR (s,())=some (zD s,()):=by
 unfold KR zD;simp only[sG s hs,ahu]
theorem Bt:∀ (ps:List (List UInt8)) (prev:Int) (out:List ZJ),((js ps prev out).2=false->(js ps prev out).1=[])/\(js ps prev out).1.length<=out.length+ps.length
 | [],prev,out=>by simp[js]
 | p::ps,prev,out=>by
  simp only[js];cases yD 124 p with
  | none=>simp
  | some q=>
   simp only;split
   ·obtain⟨h1,h2⟩:=Bt ps (zv q.1).1 (out++[((zv q.1).1,(y7 q.2).1)]);refine⟨h1,?_⟩;simp only[ahD,ahz,ahA] at h2 ⊢;omega
   ·simp
theorem bj (s:List UInt8):((steps s).2=false->(steps s).1=[])/\(steps s).1.length<=30:=by
 unfold steps;split
 ·simp
 ·cases zQ 47 s with
  | nil=>simp
  | cons p ps=>
   simp only;split
   ·next h=>
    obtain⟨h1,h2⟩:=Bt ps 0 [];exact⟨h1,by simp only[ahA] at h2; omega⟩
   ·simp
theorem lI {l:List ZJ} (h:l≠[]):∃ x,l.getLast?=some x/\l[l.length - 1]?=some x:=by
 have hl:l.length - 1<l.length:=by cases l with|nil=>exact absurd rfl h|cons _ _=>simp
 exact⟨l[l.length - 1],by rw[List.getLast?_eq_getElem?,aii hl],List.getElem?_eq_getElem hl⟩
theorem YP (s:List UInt8) (hs:s.length<=137438953472):Zk (s,())=some (zm s,()):=by
 unfold Zk zm;simp only[fx s hs,ahu];obtain⟨h1,h2⟩:=bj s;by_cases h:(steps s).2=true
 ·rw[h];simp only[ahC,ahv];by_cases h0:(steps s).1=[]
  ·simp[h0]
  ·obtain⟨x,e1,e2⟩:=lI h0;have hl:1<=(steps s).1.length:=by cases hh:(steps s).1 with|nil=>exact absurd hh h0|cons _ _=>simp
   have e3:(((steps s).1.length:Int)==0)=false:=by simp; omega
   simp only[e3,ahv,e1,zg (show (-9223372036854775808:Int)<=((steps s).1.length:Int) - 1 by omega) (show ((steps s).1.length:Int) - 1<=9223372036854775807 by omega)];rw[if_pos (by omega),show (((steps s).1.length:Int) - 1).toNat=(steps s).1.length - 1 by omega,zq e2]
 ·have h':(steps s).2=false:=by simpa using h
  rw[h',h1 h']; rfl
theorem sH (s:List UInt8) (hs:s.length<=1073741824):qX (s,())=some (zm s,()):=by
 unfold qX zm;simp only[sG s hs,ahu];obtain⟨h1,h2⟩:=bj s;by_cases h0:(steps s).1=[]
 ·simp[h0]
 ·obtain⟨x,e1,e2⟩:=lI h0;have hl:1<=(steps s).1.length:=by cases hh:(steps s).1 with|nil=>exact absurd hh h0|cons _ _=>simp
  have e3:(((steps s).1.length:Int)==0)=false:=by simp; omega
  simp only[e3,ahv,e1,zg (show (-9223372036854775808:Int)<=((steps s).1.length:Int) - 1 by omega) (show ((steps s).1.length:Int) - 1<=9223372036854775807 by omega)];rw[if_pos (by omega),show (((steps s).1.length:Int) - 1).toNat=(steps s).1.length - 1 by omega,zq e2]
theorem Bw:∀ (ps:List (List UInt8)) (prev:Int) (out:List ZJ),(out≠[]∨ps≠[])->0<=prev->(∀ x,out.getLast?=some x->1<=x.1/\x.1<=60)->(js ps prev out).2=true->
  ∃ x,(js ps prev out).1.getLast?=some x/\1<=x.1/\x.1<=60
 | [],prev,out,h,hp,ho,WX=>by
  have h0:out≠[]:=h.elim id (λ h=>absurd rfl h);obtain⟨x,e,_⟩:=lI h0;exact⟨x,e,ho x e⟩
 | p::ps,prev,out,h,hp,ho,WX=>by
  simp only[js] at WX ⊢;cases hq:yD 124 p with
  | none=>rw[hq] at WX; simp at WX
  | some q=>
   rw[hq] at WX;simp only at WX ⊢;split at WX
   ·next hB=>
    rw[if_pos hB];simp only[yN,ahx,ahI] at hB;refine Bw ps (zv q.1).1 _ (.inl (by simp)) (lZ _) ?_ WX;intro x hx;simp at hx;subst hx;exact⟨by simp only; omega,hB.2.2.2.1⟩
   ·simp at WX
theorem Qm {s:List UInt8} (h:zD s=true) (h0:s≠[]):1<=zm s/\zm s<=60:=by
 unfold zD steps at h;unfold zm steps;rw[if_neg h0] at h ⊢;cases hp:zQ 47 s with
 | nil=>exact absurd hp (YC _ _)
 | cons p ps=>
  rw[hp] at h;simp only at h ⊢;split at h
  ·next hc=>
   rw[if_pos hc];have Xb:ps≠[]:=by
    rintro rfl;obtain⟨rfl,_⟩:=hc;cases s with
    | nil=>exact h0 rfl
    | cons x l=>
     simp only[zQ] at hp;split at hp
     ·exact YC 47 l (by simpa using hp)
     ·cases hl:zQ 47 l with
      | nil=>exact YC 47 l hl
      | cons a b=>rw[hl] at hp; simp[glue] at hp
   obtain⟨x,e1,e2,e3⟩:=Bw ps 0 [] (.inr Xb) (by decide) (by simp) h;rw[e1]; exact⟨e2,e3⟩
  ·simp at h
theorem tT:zD []=true/\zm []=0:=by
 constructor<;>simp[zD,zm,steps]
def YK (n:Int):Option Int->List Int->Bool
 | _,[]=>true
 | p,x::l => !decide (x<0) && (!decide (x≥n) && ((match p with|some y => !decide (y≥x)|none=>true) && YK n (some x) l))
def jJ (n:Int) (l:List Int):Bool:=YK n none l
theorem AD (n:Int) (l:List Int) (hl:l.length<=137438953472) {G:(Int×Unit->Option (Bool×Unit))->Int×Unit->Option (Bool×Unit)}
  (Xh:∀ rec,G rec ((l.length:Int),())=some (true,()))
  (h0:∀ rec x,l[0]?=some x->G rec (((0:Nat):Int),())=bif decide (x<0) then some (false,()) else bif decide (x≥n) then some (false,()) else rec (((0:Nat):Int)+1,()))
  (Xd:∀ rec (i:Nat) x y,l[i]?=some x->l[i+1]?=some y->i+1<l.length->G rec (((i+1:Nat):Int),())=bif decide (y<0) then some (false,()) else bif decide (y≥n) then some (false,()) else bif decide (x≥y) then some (false,()) else rec (((i+1:Nat):Int)+1,())):
  iter G fuel (0,())=some (jJ n l,()):=by
 let pv:Nat->Option Int:=λ i=>match i with|0=>none|i+1=>l[i]?
 refine (walk l.length (λ i (_:Unit)=>(i,())) (λ _ _=>True) (λ i _=>some (YK n (pv i) (l.drop i),())) (by omega) ?_ ?_ (s0:=()) trivial).trans (by simp[jJ,pv])
 ·intro rec _ _;rw[Xh]; simp[YK]
 ·intro rec i _ hi _;have hx:l[i]?=some l[i]:=List.getElem?_eq_getElem hi;have hpv:pv (i+1)=some l[i]:=hx;rw[ahP hi,hpv];cases i with
  | zero=>
   rw[h0 rec l[0] hx,show pv 0=none from rfl];simp only[YK];by_cases c1:l[0]<0
   ·left; simp[c1]
   ·by_cases c2:l[0]≥n
    ·left; simp[c1,c2]
    ·right;exact⟨(),trivial,by simp[c1,c2],by simp[c1,c2]⟩
  | succ i=>
   have hx':l[i]?=some l[i]:=List.getElem?_eq_getElem (by omega);rw[Xd rec i l[i] l[i+1] hx' hx hi,show pv (i+1)=some l[i] from hx'];simp only[YK];by_cases c1:l[i+1]<0
   ·left; simp[c1]
   ·by_cases c2:l[i+1]≥n
    ·left; simp[c1,c2]
    ·by_cases c3:l[i]≥l[i+1]
     ·left; simp[c1,c2,c3]
     ·right;exact⟨(),trivial,by simp[c1,c2,c3],by simp[c1,c2,c3]⟩
theorem oT (n:Int) (l:List Int) (hl:l.length<=137438953472):NX (n,l,())=some (jJ n l,()):=by
 unfold NX;refine AD n l hl ?_ ?_ ?_
 ·intro rec; simp
 ·intro rec x hx;have hi:0<l.length:=by
   rcases Nat.eq_zero_or_pos l.length with h|h
   ·rw[ahW (by omega)] at hx; cases hx
   ·exact h
  simp only[zu hi,ahB,ahw,ahL,if_true,ahH,zq (e:=.i64) hx,zt (show 0<4611686018427387904 by omega),show ¬ (((0:Nat):Int)>0) by omega,ahG,ahv]
 ·intro rec i x y hx hy hi;have e:wr (((i+1:Nat):Int) - 1)=(i:Int):=by rw[zg (by omega) (by omega)]; omega
  simp only[zu hi,zu (show i<l.length by omega),e,ahB,ahw,ahL,if_true,ahH,zq (e:=.i64) hx,zq (e:=.i64) hy,zt (show i+1<4611686018427387904 by omega),show (((i+1:Nat):Int)>0) by omega]
theorem sE (n:Int) (l:List Int) (hl:l.length<=137438953472):M6 (n,l,())=some (jJ n l,()):=by
 unfold M6;refine AD n l hl ?_ ?_ ?_
 ·intro rec; simp
 ·intro rec x hx;have hi:0<l.length:=by
   rcases Nat.eq_zero_or_pos l.length with h|h
   ·rw[ahW (by omega)] at hx; cases hx
   ·exact h
  simp only[zu hi,ahB,ahw,ahL,if_true,ahH,zq (e:=.i64) hx,zt (show 0<4611686018427387904 by omega),show ¬ (((0:Nat):Int)>0) by omega,ahG,ahv]
 ·intro rec i x y hx hy hi;have e:wr (((i+1:Nat):Int) - 1)=(i:Int):=by rw[zg (by omega) (by omega)]; omega
  simp only[zu hi,zu (show i<l.length by omega),e,ahB,ahw,ahL,if_true,ahH,zq (e:=.i64) hx,zq (e:=.i64) hy,zt (show i+1<4611686018427387904 by omega),show (((i+1:Nat):Int)>0) by omega]
def Y7 (c:za):Int:=if zA c=true then c.1 - (c.1 - 1) / 3 else 0
theorem oS (c:za):NU (c,())=some (Y7 c,()):=by
 unfold NU Y7;simp only[YM,ahu];by_cases h:zA c=true
 ·obtain⟨h1,h2⟩:=ym h;have e1:wr (c.1 - 1)=c.1 - 1:=zg (by omega) (by omega);have e2:Int.tdiv (c.1 - 1) 3=(c.1 - 1) / 3:=Int.tdiv_eq_ediv_of_nonneg (by omega);simp only[h,ahC,ahv,if_true,e1,e2];rw[zg (n:=(c.1 - 1) / 3) (by omega) (by omega),zg (by omega) (by omega)]
 ·have h':zA c=false:=by simpa using h
  simp[h']
theorem Oa (c:za):ci (c,())=some (Y7 c,()):=by
 unfold ci kN Y7;simp only[qM,ahu];by_cases h:zA c=true
 ·obtain⟨h1,h2⟩:=ym h;have e1:wr (c.1 - 1)=c.1 - 1:=zg (by omega) (by omega);have e2:Int.tdiv (c.1 - 1) 3=(c.1 - 1) / 3:=Int.tdiv_eq_ediv_of_nonneg (by omega);simp only[h,ahC,ahv,if_true,e1,e2,ahu];rw[zg (n:=(c.1 - 1) / 3) (by omega) (by omega),zg (by omega) (by omega)]
 ·have h':zA c=false:=by simpa using h
  simp[h']
def Yy (c:UInt8) (s:List UInt8):Nat->Option Nat
 | 0=>none
 | k+1=>if s.getD k 0=c then some k else Yy c s k
def Z3 (s:List UInt8):List UInt8:=if zD s=true then (match Yy 47 s s.length with|some k=>s.take k|none=>[]) else []
theorem tz (c:UInt8) (s:List UInt8):∀ k i,Yy c s k=some i->i<k
 | 0,i,h=>by cases h
 | k+1,i,h=>by
  simp only[Yy] at h;split at h
  ·cases h; omega
  ·have:=tz c s k i h; omega
theorem tJ (c:UInt8) (s:List UInt8):∀ k,k<=s.length->Lib.lastIdx (ByteArray.mk ⟨s⟩) c.toNat k=match Yy c s k with|some i=>(i:Int)|none => -1
 | 0,_=>rfl
 | k+1,h=>by
  have hk:k<s.length:=by omega
  have e:(ByteArray.mk ⟨s⟩).data[k]! = s.getD k 0:=by
   rw[aie,aii hk];simp[hk]
  simp only[Lib.lastIdx,Yy,e];by_cases hc:s.getD k 0=c
  ·rw[if_pos (by rw[hc]),if_pos hc]
  ·rw[if_neg (λ h=>hc (UInt8.toNat_inj.1 (by omega))),if_neg hc,tJ c s k (by omega)]
theorem P3 {s:List UInt8} (h:zD s=true) (h0:s≠[]):∃ l,s=47::l:=by
 unfold zD steps at h;rw[if_neg h0] at h;cases hp:zQ 47 s with
 | nil=>exact absurd hp (YC _ _)
 | cons p ps=>
  rw[hp] at h;simp only at h;split at h
  ·next hc=>
   obtain⟨rfl,_⟩:=hc;cases s with
   | nil=>exact absurd rfl h0
   | cons x l=>
    simp only[zQ] at hp;split at hp
    ·next e=>exact⟨l,by rw[e]⟩
    ·cases hl:zQ 47 l with
     | nil=>exact absurd hl (YC 47 l)
     | cons a b=>rw[hl] at hp; simp[glue] at hp
  ·simp at h
theorem tC {c:UInt8} {l:List UInt8}:∀ k,1<=k->∃ i,Yy c (c::l) k=some i
 | 0,h=>by omega
 | 1,_=>⟨0,by simp[Yy]⟩
 | k+2,_=>by
  simp only[Yy];split
  ·exact⟨_,rfl⟩
  ·exact tC (k+1) (by omega)
theorem Mm (a b:Int):yS (a,b,())=some (max a b,()):=by
 unfold yS;by_cases h:a>b
 ·simp only[h,ahB,ahw]; congr 2; omega
 ·simp only[h,ahG,ahv]; congr 2; omega
theorem aL (s:List UInt8) (hs:s.length<=137438953472):Lh (s,())=some (Z3 s,()):=by
 unfold Lh Z3;simp only[Kl s hs,ahu];by_cases h:zD s=true
 ·simp only[h,ahC,ahv,if_true];refine (Qd (λ x:Int×Unit=>some ((match Yy 47 s x.1.toNat with|some k=>s.take k|none=>[]),())) (λ x=>x.1.toNat) (λ x=>0<=x.1/\x.1<=(s.length:Int)) ?_ fuel ((s.length:Int),()) ⟨by simp,by simp⟩
   (by simp only[ahH]; have:=Jv (n:=s.length) (by omega); exact this)).trans (by simp)
  rintro rec ⟨v,⟨⟩⟩ ⟨h1,h2⟩ WW;obtain⟨n,rfl⟩:∃ n:Nat,v=(n:Int):=⟨v.toNat,by simp only at h1; omega⟩
  simp only at h2;cases n with
  | zero=>
   have e1:wr (((0:Nat):Int) - 1) = -1:=zg (by decide) (by decide);simp only[show ¬ (((0:Nat):Int)>0) by omega,ahG,ahv,e1,Mm,ahu,show max (-1:Int) 0=0 by decide];rw[if_pos (by omega)];simp[Yy]
  | succ n=>
   have e1:wr (((n+1:Nat):Int) - 1)=(n:Int):=by rw[zg (by omega) (by omega)]; omega
   simp only[show (((n+1:Nat):Int)>0) by omega,ahB,ahw,e1,Mm,ahu,ahH,show max (n:Int) 0=(n:Int) by omega,Yy,show UInt8.ofNat (Int.toNat 47)=47 from rfl];rw[if_pos (by omega)];by_cases hc:s.getD n 0=47
   ·have e2:(s.getD n 0 != 47)=false:=by rw[hc]; rfl
    rw[e2,if_pos hc];simp only[ahv];rw[if_pos (by omega)];simp
   ·have e2:(s.getD n 0 != 47)=true:=bne_iff_ne.2 hc;rw[e2,if_neg hc];simp only[ahw];rw[WW ((n:Int),()) ⟨by simp,by simp only; omega⟩ (by simp only[ahH]; omega)]
    simp
 ·have h':zD s=false:=by simpa using h
  simp[h']
theorem Oh (s:List UInt8) (hs:s.length<=1073741824):cn (s,())=some (Z3 s,()):=by
 unfold cn Z3;simp only[qP s hs,ahu];by_cases h:zD s=true
 ·simp only[h,ahC,ahv,if_true];by_cases h0:s=[]
  ·subst h0; rfl
  ·have e0:(s==[])=false:=by simp[h0]
   obtain⟨l,rfl⟩:=P3 h h0;obtain⟨i,hi⟩:=tC (c:=47) (l:=l) (47::l).length (by simp);have hlt:=tz _ _ _ _ hi;have e1:strings_LastIndexByte (47::l,UInt8.ofNat (Int.toNat 47),())=some ((i:Int),()):=by
    unfold strings_LastIndexByte;dsimp only;rw[if_pos (by omega)];have:=tJ 47 (47::l) (47::l).length (Nat.le_refl _);rw[hi] at this;simp only at this;rw[←this]; rfl
   simp only[e0,ahv,e1,ahu,hi];rw[if_pos (by omega)];simp
 ·have h':zD s=false:=by simpa using h
  simp[h']
def yg (c:za) (q:zJ):Bool:=
 zA c && (zD q.2.1 && (zm q.2.1==q.1 && (bif q.2.1==[] then ((q.2.2.length:Int)==0) else (jJ c.1 q.2.2 && decide ((q.2.2.length:Int)≥Y7 c)))))
theorem Lf (c:za) (q:zJ) (hw:zi q<=137438953472):YO (c,q,())=some (yg c q,()):=by
 have h1:q.2.1.length<=137438953472:=by simp only[zi] at hw; omega
 have h2:q.2.2.length<=137438953472:=by simp only[zi,zn] at hw; omega
 unfold YO yg;simp only[YM,Kl _ h1,YP _ h1,oT _ _ h2,oS,ahu];cases zA c
 ·rfl
 cases zD q.2.1
 ·rfl
 by_cases e:zm q.2.1=q.1
 ·have e1:(zm q.2.1 != q.1)=false:=by simp[e]
  have e2:(zm q.2.1==q.1)=true:=by simp[e]
  rw[e1,e2];cases (q.2.1==[])<;>cases jJ c.1 q.2.2<;>rfl
 ·have e1:(zm q.2.1 != q.1)=true:=by simp[e]
  have e2:(zm q.2.1==q.1)=false:=by simp[e]
  rw[e1,e2]; rfl
theorem kR (c:za) (q:zJ) (hw:zi q<=1073741824):M4 (c,q,())=some (yg c q,()):=by
 have h1:q.2.1.length<=1073741824:=by simp only[zi] at hw; omega
 have h2:q.2.2.length<=1073741824:=by simp only[zi,zn] at hw; omega
 unfold M4 kQ yg;simp only[qM,qP _ h1,sH _ h1,sE _ _ (show q.2.2.length<=137438953472 by omega),Oa,kS q _ (show q.2.2.length<=8796093022208 by omega),ahu];cases zA c
 ·rfl
 simp only[ahC,ahv,ahU];obtain⟨v,name,who⟩:=q;simp only[jd];by_cases hn:name=[]
 ·subst hn;obtain⟨k1,k2⟩:=tT;rw[k1,k2];by_cases hv:v=0
  ·subst hv;cases who with
   | nil=>rfl
   | cons a b=>
    simp;omega
  ·have e1:(v==0)=false:=by simp[hv]
   have e2:((0:Int)==v)=false:=by simp; omega
   have e3:(v==(0:Int))=false:=e1;rw[e1,e2];simp[hv]
 ·have e0:(name==[])=false:=by simp[hn]
  rw[e0];simp only[ail,aiP,ahv];by_cases hk:zD name=true
  ·obtain⟨w1,w2⟩:=Qm hk hn;rw[hk];by_cases e:zm name=v
   ·have e1:(v==zm name)=true:=by simp[e]
    have e2:(zm name==v)=true:=by simp[e]
    have e3:decide (v≥1)=true:=by simp; omega
    rw[e1,e2,e3];cases jJ c.1 who<;>simp
   ·have e1:(v==zm name)=false:=by simp; omega
    have e2:(zm name==v)=false:=by simp[e]
    rw[e1,e2];cases decide (v≥1)<;>rfl
  ·have hk':zD name=false:=by simpa using hk
   rw[hk'];cases decide (v≥1)<;>rfl
def jE (c:za) (b:y0):Bool:=yg c b.2 && (zD b.1 && (b.1 != [] && Z3 b.1==b.2.2.1))
theorem eI (c:za) (b:y0) (hw:zB b<=137438953472):L5 (c,b,())=some (jE c b,()):=by
 have h1:b.1.length<=137438953472:=by simp only[zB] at hw; omega
 unfold L5 jE;simp only[Lf c b.2 (by simp only[zB] at hw; omega),Kl _ h1,aL _ h1,Option.bind_some]
 cases yg c b.2<;>cases zD b.1<;>cases (b.1 != [])<;>rfl
theorem I2 (c:za) (b:y0) (hw:zB b<=1073741824):b8 (c,b,())=some (jE c b,()):=by
 have h1:b.1.length<=1073741824:=by simp only[zB] at hw; omega
 unfold b8 jE;simp only[kR c b.2 (by simp only[zB] at hw; omega),qP _ h1,Oh _ h1,Option.bind_some]
 cases yg c b.2<;>cases zD b.1<;>cases (b.1 != [])<;>rfl
def jc (c:za) (p:zH):Bool:=
 zA c && ((decide (p.1≥1) && decide (p.1<=60)) && (jJ c.1 p.2.2 && (decide ((p.2.2.length:Int)>0) && (p.2.1==[] || (zD p.2.1 && zm p.2.1==p.1)))))
theorem ax (c:za) (p:zH) (hw:zk p<=137438953472):Km (c,p,())=some (jc c p,()):=by
 have h1:p.2.1.length<=137438953472:=by simp only[zk] at hw; omega
 have h2:p.2.2.length<=137438953472:=by simp only[zk,zn] at hw; omega
 unfold Km jc;simp only[YM,Yh,oT _ _ h2,Kl _ h1,YP _ h1,ahu];have e:((p.2.2.length:Int)==0) = !decide ((p.2.2.length:Int)>0):=by
  generalize p.2.2.length=n;cases n with
  | zero=>rfl
  | succ k=>
   have a1:(((k+1:Nat):Int)==0)=false:=by rw[beq_eq_false_iff_ne]; omega
   have a2:decide (((k+1:Nat):Int)>0)=true:=decide_eq_true (by omega);rw[a1,a2]; rfl
 rw[e];cases zA c<;>cases (decide (p.1≥1) && decide (p.1<=60))<;>cases jJ c.1 p.2.2<;>cases decide ((p.2.2.length:Int)>0)<;>cases (p.2.1==[])<;>cases zD p.2.1<;>rfl
theorem kO (c:za) (p:zH) (hw:zk p<=1073741824):qR (c,p,())=some (jc c p,()):=by
 have h1:p.2.1.length<=1073741824:=by simp only[zk] at hw; omega
 have h2:p.2.2.length<=137438953472:=by simp only[zk,zn] at hw; omega
 unfold qR jc;simp only[qM,LK,sE _ _ h2,qP _ h1,sH _ h1,ahu];cases zA c<;>cases (decide (p.1≥1) && decide (p.1<=60))<;>cases jJ c.1 p.2.2<;>cases (p.2.1==[])<;>cases zD p.2.1<;>cases (zm p.2.1==p.1)<;>cases decide ((p.2.2.length:Int)>0)<;>rfl
theorem wM (a b:zJ):jd a b=decide (a=b):=by
 obtain⟨a1,a2,a3⟩:=a;obtain⟨b1,b2,b3⟩:=b;unfold jd;rw[ajn];simp[Prod.ext_iff]
theorem Gm (a b:y0):Yp a b=decide (a=b):=by
 obtain⟨a1,a2⟩:=a;obtain⟨b1,b2⟩:=b;unfold Yp;simp only[wM];rw[ajn];simp[Prod.ext_iff]
theorem Ws (a b:zz):Mq a b=decide (a=b):=by
 obtain⟨a1,a2,a3,a4⟩:=a;obtain⟨b1,b2,b3,b4⟩:=b;unfold Mq;rw[ajn];simp[Prod.ext_iff]
theorem tR (a b:zp):Ze a b=true↔a=b:=by
 obtain⟨a1,a2,a3,a4,a5,a6,a7⟩:=a;obtain⟨b1,b2,b3,b4,b5,b6,b7⟩:=b;unfold Ze;simp only[wM,Gm,Ws];simp only[ahx,ai4,ahI,ahE]
theorem PY (a b:zp):Ze a b=Ze b a:=by
 rw[ajn,tR,tR];exact⟨λ h=>h.symm,λ h=>h.symm⟩
def canon (m:zp):zp:=
 bif (m.1==1) then (m.1,0,m.2.2.1,(0,[],[]),(0,[],[]),0,(0,0,0,0)) else
 bif (m.1==2) then (m.1,0,([],0,[],[]),m.2.2.2.1,(0,[],[]),0,(0,0,0,0)) else
 bif (m.1==3) then (m.1,m.2.1,([],0,[],[]),(0,[],[]),m.2.2.2.2.1,m.2.2.2.2.2.1,(0,0,0,0)) else
 bif (m.1==4) then (m.1,0,([],0,[],[]),(0,[],[]),(0,[],[]),0,m.2.2.2.2.2.2) else
 (m.1,0,([],0,[],[]),(0,[],[]),(0,[],[]),0,(0,0,0,0))
theorem VX (m:zp) (h:MsgW m):fO (m,())=some (Ze (canon m) m,()):=by
 obtain⟨h1,h2,h3⟩:=h;have hz:([]:List Int).length<=8796093022208:=by simp
 unfold fO canon;dsimp only;rw[NP (m.1,0,m.2.2.1,(0,[],[]),(0,[],[]),0,(0,0,0,0)) m ⟨h1,hz,hz⟩,NP (m.1,0,([],0,[],[]),m.2.2.2.1,(0,[],[]),0,(0,0,0,0)) m ⟨hz,h2,hz⟩,
  NP (m.1,m.2.1,([],0,[],[]),(0,[],[]),m.2.2.2.2.1,m.2.2.2.2.2.1,(0,0,0,0)) m ⟨hz,hz,h3⟩,NP (m.1,0,([],0,[],[]),(0,[],[]),(0,[],[]),0,m.2.2.2.2.2.2) m ⟨hz,hz,hz⟩,
  NP (m.1,0,([],0,[],[]),(0,[],[]),(0,[],[]),0,(0,0,0,0)) m ⟨hz,hz,hz⟩]
 simp only[ahu];cases (m.1==1)<;>cases (m.1==2)<;>cases (m.1==3)<;>cases (m.1==4)<;>rfl
theorem Ot (m:zp):cx (m,())=some (canon m,()):=by
 unfold cx canon;cases (m.1==1)<;>cases (m.1==2)<;>cases (m.1==3)<;>cases (m.1==4)<;>rfl
noncomputable def yG (c:za) (m:zp):Bool:=
 zA c && (Ze (canon m) m && (bif (m.1==1) then jE c m.2.2.1 else bif (m.1==2) then (jc c m.2.2.2.1 && m.2.2.2.1.2.1 != []) else
  bif (m.1==3) then ((decide (m.2.1≥1) && decide (m.2.1<=60)) && (yg c m.2.2.2.2.1 && (decide (m.2.2.2.2.2.1≥0) && decide (m.2.2.2.2.2.1<=wr (c.1 - 1))))) else
  bif (m.1==4) then zN m.2.2.2.2.2.2 else false))
theorem NO (c:za) (m:zp) (hw:zh m<=137438953472):ZZ (c,m,())=some (yG c m,()):=by
 have hW:MsgW m:=MsgW.of (by omega);have h1:zB m.2.2.1<=137438953472:=by simp only[zh] at hw; omega
 have h2:zk m.2.2.2.1<=137438953472:=by simp only[zh] at hw; omega
 have h3:zi m.2.2.2.2.1<=137438953472:=by simp only[zh] at hw; omega
 unfold ZZ yG;simp only[YM,VX m hW,eI c _ h1,ax c _ h2,Lf c _ h3,Yh,Mf,ahu];cases zA c
 ·rfl
 cases Ze (canon m) m
 ·rfl
 cases (m.1==1)
 ·cases (m.1==2)
  ·cases (m.1==3)
   ·cases (m.1==4)<;>rfl
   ·cases (decide (m.2.1≥1) && decide (m.2.1<=60))<;>cases yg c m.2.2.2.2.1<;>rfl
  ·cases jc c m.2.2.2.1<;>rfl
 ·rfl
theorem I7 (c:za) (m:zp) (hw:zh m<=1073741824):cd (c,m,())=some (yG c m,()):=by
 have hW:MsgW m:=MsgW.of (by omega);have h1:zB m.2.2.1<=1073741824:=by simp only[zh] at hw; omega
 have h2:zk m.2.2.2.1<=1073741824:=by simp only[zh] at hw; omega
 have h3:zi m.2.2.2.2.1<=1073741824:=by simp only[zh] at hw; omega
 unfold cd yG;simp only[qM,Ot,I8 m _ hW,PY m (canon m),I2 c _ h1,kO c _ h2,kR c _ h3,LK,qV,ahu];cases zA c
 ·rfl
 cases Ze (canon m) m
 ·rfl
 cases (m.1==1)
 ·cases (m.1==2)
  ·cases (m.1==3)
   ·cases (m.1==4)<;>rfl
   ·cases (decide (m.2.1≥1) && decide (m.2.1<=60))<;>cases yg c m.2.2.2.2.1<;>rfl
  ·cases jc c m.2.2.2.1<;>rfl
 ·rfl
abbrev jO:Ty:=.pair .i64 (.pair .i64 (.pair .i64 .i64))
abbrev Jk:Ty:=.pair .i64 (.pair .str (.sl 0 .i64))
abbrev gK:Ty:=.pair .i64 (.pair .i64 (.pair .i64 (.pair (.pair .str (.pair .i64 (.pair .str (.sl 0 .i64)))) (.pair (.pair .i64 (.pair .str (.sl 0 .i64))) (.pair (.pair .i64 (.pair .str (.sl 0 .i64))) (.pair .i64 (.pair .i64 (.pair .i64 (.pair .i64 .i64)))))))))
theorem pM {α:Type} (p:α->Bool) (l:List α) {G:(Int×Unit->Option (Bool×Unit))->Int×Unit->Option (Bool×Unit)} (hl:l.length<=1152921504606846976)
  (Xh:∀ rec s,G rec ((l.length:Int),s)=some (true,()))
  (Xd:∀ rec (i:Nat) s x,l[i]?=some x->i<l.length->G rec ((i:Int),s)=bif p x then rec ((i:Int)+1,s) else some (false,())):
  iter G fuel (0,())=some (l.all p,()):=by
 refine (qG l (λ x s rec=>bif p x then rec s else some (false,())) (λ s=>some (true,())) (λ i s=>(i,s)) hl Xh Xd ?_ ()).trans (rX _ _);intro x s r1 r2 hr; simp[hr]
def yq {α:Type} (ok:α->Bool) (lt:α->α->Bool):Option α->List α->Bool
 | _,[]=>true
 | p,x::l=>ok x && ((match p with|none=>true|some y=>lt y x) && yq ok lt (some x) l)
theorem bG {α:Type} (ok:α->Bool) (lt:α->α->Bool) (fin:Bool) (l:List α) (hl:l.length<=1152921504606846976)
  {G:(Int×Unit->Option (Bool×Unit))->Int×Unit->Option (Bool×Unit)}
  (Xh:∀ rec,G rec ((l.length:Int),())=some (fin,()))
  (h0:∀ rec x,l[0]?=some x->0<l.length->G rec (0,())=bif ok x then rec (1,()) else some (false,()))
  (Xd:∀ rec (i:Nat) x y,l[i]?=some x->l[i+1]?=some y->i+1<l.length->G rec (((i+1:Nat):Int),())=bif ok y then (bif lt x y then rec (((i+1:Nat):Int)+1,()) else some (false,())) else some (false,())):
  iter G fuel (0,())=some (yq ok lt none l && fin,()):=by
 let pv:Nat->Option α:=λ i=>match i with|0=>none|j+1=>l[j]?
 refine (walk l.length (λ i (_:Unit)=>(i,())) (λ _ _=>True) (λ i _=>some (yq ok lt (pv i) (l.drop i) && fin,())) hl ?_ ?_ (s0:=()) trivial).trans (by simp only[ahV,pv])
 ·intro rec s _;rw[Xh,ai7]; simp[yq]
 ·intro rec i s hi _;have hx:l[i]?=some l[i]:=List.getElem?_eq_getElem hi;cases i with
  | zero=>
   rw[show ((0:Nat):Int)=0 from rfl,h0 rec l[0] hx hi,List.drop_eq_getElem_cons hi];cases hk:ok l[0] with
   | true=>
    right;have e2:pv (0+1)=some l[0]:=hx;exact⟨(),trivial,by simp,by rw[e2]; simp[yq,show pv 0=none from rfl,hk]⟩
   | false=>left; simp[yq,hk]
  | succ j=>
   have hj:l[j]?=some l[j]:=List.getElem?_eq_getElem (by omega);rw[Xd rec j l[j] l[j+1] hj hx hi,List.drop_eq_getElem_cons hi];have e:pv (j+1)=some l[j]:=hj;have e2:pv (j+1+1)=some l[j+1]:=hx;rw[e];cases hk:ok l[j+1] with
   | true=>
    cases hlt:lt l[j] l[j+1] with
    | true=>right; exact⟨(),trivial,by simp,by rw[e2]; simp[yq,hk,hlt]⟩
    | false=>left; simp[yq,hk,hlt]
   | false=>left; simp[yq,hk]
def yj (c:za) (s:zI):Bool:=(decide (s.1≥0) && decide (s.1<=60)) && ((decide (s.2.1≥0) && decide (s.2.1<=60)) && (yg c s.2.2.1 && zD s.2.2.2))
theorem NV (c:za) (s:zI) (hw:zC s<=137438953472):Ko (c,s,())=some (yj c s,()):=by
 simp only[zC] at hw;unfold Ko yj;simp only[Yh,Lf c s.2.2.1 (by omega),Kl s.2.2.2 (by omega),ahu];cases (decide (s.1≥0) && decide (s.1<=60))<;>cases (decide (s.2.1≥0) && decide (s.2.1<=60))<;>cases yg c s.2.2.1<;>rfl
theorem Oc (c:za) (s:zI) (hw:zC s<=1073741824):ck (c,s,())=some (yj c s,()):=by
 simp only[zC] at hw;unfold ck yj;simp only[LK,kR c s.2.2.1 (by omega),qP s.2.2.2 (by omega),ahu];cases (decide (s.1≥0) && decide (s.1<=60))<;>cases (decide (s.2.1≥0) && decide (s.2.1<=60))<;>cases yg c s.2.2.1<;>rfl
def zP (a b:zz):Bool:=decide (a.1<b.1) || (a.1==b.1 && decide (a.2.2.2<b.2.2.2))
theorem Bp (a b:zz):bd (a,b,())=some (zP a b,()):=by
 unfold bd zP;dsimp only;cases decide (a.1<b.1)<;>cases (a.1==b.1)<;>rfl
theorem sI (a b:zz):qY (a,b,())=some (zP a b,()):=by
 unfold qY zP;dsimp only;cases decide (a.1<b.1)<;>cases (a.1==b.1)<;>rfl
def yH (l:zw):Bool:=yq zN zP none l && decide ((l.length:Int)<=12)
theorem A8 (l:zw) (hl:l.length<=137438953472):L9 (l,())=some (yH l,()):=by
 unfold L9 yH;refine bG zN zP _ l (by omega) ?_ ?_ ?_
 ·intro rec; simp
 ·intro rec x hx hi;have XR:(0:Int)<(l.length:Int):=by omega
  simp only[XR,ahB,ahw,aiS,ahL,if_true,aiq,zq (e:=jO) hx,Mf,ahu,show wr ((0:Int)+1)=1 from zt (show 0<4611686018427387904 by omega),show ¬ ((0:Int)>0) by omega,ahG,ahv];cases zN x<;>rfl
 ·intro rec i x y hx hy hi;have e:wr (((i+1:Nat):Int) - 1)=(i:Int):=by rw[zg (by omega) (by omega)]; omega
  simp only[zu hi,zu (show i<l.length by omega),e,ahB,ahw,ahL,if_true,ahH,zq (e:=jO) hx,zq (e:=jO) hy,Mf,Bp,ahu,zt (show i+1<4611686018427387904 by omega),show (((i+1:Nat):Int)>0) by omega];cases zN y<;>cases zP x y<;>rfl
theorem sD (l:zw) (hl:l.length<=137438953472):LJ (l,())=some (yH l,()):=by
 unfold LJ yH;refine bG zN zP _ l (by omega) ?_ ?_ ?_
 ·intro rec; simp
 ·intro rec x hx hi;have XR:(0:Int)<(l.length:Int):=by omega
  simp only[XR,ahB,ahw,aiS,ahL,if_true,aiq,zq (e:=jO) hx,qV,ahu,show wr ((0:Int)+1)=1 from zt (show 0<4611686018427387904 by omega),show ¬ ((0:Int)>0) by omega,ahG,ahv];cases zN x<;>rfl
 ·intro rec i x y hx hy hi;have e:wr (((i+1:Nat):Int) - 1)=(i:Int):=by rw[zg (by omega) (by omega)]; omega
  simp only[zu hi,zu (show i<l.length by omega),e,ahB,ahw,ahL,if_true,ahH,zq (e:=jO) hx,zq (e:=jO) hy,qV,sI,ahu,zt (show i+1<4611686018427387904 by omega),show (((i+1:Nat):Int)>0) by omega];cases zN y<;>cases zP x y<;>rfl
def ZK (a b:zH):Bool:=decide (a.1<b.1) || (a.1==b.1 && Go.Op.bytesLess a.2.1 b.2.1)
theorem Bh (a b:zH):aO (a,b,())=some (ZK a b,()):=by
 unfold aO ZK;dsimp only;cases decide (a.1<b.1)<;>cases (a.1==b.1)<;>rfl
def dL (a b:zH):Int:=if a.1<b.1 then -1 else if a.1>b.1 then 1 else if Go.Op.bytesLess a.2.1 b.2.1=true then -1 else if a.2.1=b.2.1 then 0 else 1
theorem Oi (a b:zH):co (a,b,())=some (dL a b,()):=by
 unfold co kj kl bI bJ dL;simp only[bne_self_eq_false,ahu,ahv];by_cases h1:a.1<b.1
 ·simp[h1]
 ·by_cases h2:a.1>b.1
  ·simp[h1,h2]
  ·cases h3:Go.Op.bytesLess a.2.1 b.2.1
   ·by_cases h4:a.2.1=b.2.1
    ·simp[h1,h2,h4,h3]
    ·have h5:(a.2.1==b.2.1)=false:=by simp[h4]
     simp[h1,h2,h4,h5]
   ·simp[h1,h2,h3]
theorem Rv (a b:zH):decide (dL a b≥0) = !ZK a b:=by
 unfold dL ZK;by_cases h1:a.1<b.1
 ·simp[h1]
 ·by_cases h2:a.1>b.1
  ·have:¬ a.1=b.1:=by omega
   simp[h1,h2,this]
  ·have:a.1=b.1:=by omega
   simp only[h1,h2,this,if_false];cases h3:Go.Op.bytesLess a.2.1 b.2.1
   ·by_cases h4:a.2.1=b.2.1<;>simp[h4]
   ·simp
def jA (c:za) (l:ya):Bool:=yq (jc c) ZK none l && decide ((l.length:Int)<=20)
theorem Mt {l:ya} {x:zH} {N:Nat} (hw:zF l<=N) {i:Nat} (hx:l[i]?=some x):zk x<=N:=by
 have:=ZF zk (List.mem_of_getElem? hx); unfold zF at hw; omega
theorem Bb (c:za) (l:ya) (hw:zF l<=137438953472):Me (c,l,())=some (jA c l,()):=by
 have hl:l.length<=137438953472:=by unfold zF at hw; omega
 unfold Me jA;refine bG (jc c) ZK _ l (by omega) ?_ ?_ ?_
 ·intro rec; simp
 ·intro rec x hx hi;have XR:(0:Int)<(l.length:Int):=by omega
  simp only[XR,ahB,ahw,aiS,ahL,if_true,aiq,zq (e:=Jk) hx,ax c x (Mt hw hx),ahu,show wr ((0:Int)+1)=1 from zt (show 0<4611686018427387904 by omega),show ¬ ((0:Int)>0) by omega,ahG,ahv];cases jc c x<;>rfl
 ·intro rec i x y hx hy hi;have e:wr (((i+1:Nat):Int) - 1)=(i:Int):=by rw[zg (by omega) (by omega)]; omega
  simp only[zu hi,zu (show i<l.length by omega),e,ahB,ahw,ahL,if_true,ahH,zq (e:=Jk) hx,zq (e:=Jk) hy,ax c y (Mt hw hy),Bh,ahu,zt (show i+1<4611686018427387904 by omega),show (((i+1:Nat):Int)>0) by omega];cases jc c y<;>cases ZK x y<;>rfl
theorem Od (c:za) (l:ya) (hw:zF l<=1073741824):cl (c,l,())=some (jA c l,()):=by
 have hl:l.length<=137438953472:=by unfold zF at hw; omega
 unfold cl jA;refine bG (jc c) ZK _ l (by omega) ?_ ?_ ?_
 ·intro rec; simp
 ·intro rec x hx hi;have XR:(0:Int)<(l.length:Int):=by omega
  simp only[XR,ahB,ahw,aiS,ahL,if_true,aiq,zq (e:=Jk) hx,kO c x (Mt hw hx),ahu,show wr ((0:Int)+1)=1 from zt (show 0<4611686018427387904 by omega),show ¬ ((0:Int)>0) by omega,ahG,ahv];cases jc c x<;>rfl
 ·intro rec i x y hx hy hi;have e:wr (((i+1:Nat):Int) - 1)=(i:Int):=by rw[zg (by omega) (by omega)]; omega
  simp only[zu hi,zu (show i<l.length by omega),e,ahB,ahw,ahL,if_true,ahH,zq (e:=Jk) hx,zq (e:=Jk) hy,kO c y (Mt hw hy),Oi,Rv,ahu,zt (show i+1<4611686018427387904 by omega),show (((i+1:Nat):Int)>0) by omega];cases jc c y<;>cases ZK x y<;>rfl
noncomputable def ZN (c:za) (id:Int) (p:JR):Bool:=yG c p.2 && ((decide (p.1≥0) && decide (p.1<=c.1 - 1)) && !(p.1==id))
noncomputable def zf (c:za) (r:zb):Bool:=
 zA c && ((decide (r.1≥0) && decide (r.1<=c.1 - 1)) && ((decide (r.2.1≥1) && decide (r.2.1<=60)) && ((decide (r.2.2.1≥0) && decide (r.2.2.1<=60)) &&
  (yj c r.2.2.2.1 && (yH r.2.2.2.2.1 && (jA c r.2.2.2.2.2.1 && (yx r.2.2.2.2.2.2.1 && (decide ((r.2.2.2.2.2.2.2.length:Int)<=30) && r.2.2.2.2.2.2.2.all (ZN c r.1)))))))))
theorem gB {l:jQ} {x:JR} {N:Nat} (hw:yr l<=N) {i:Nat} (hx:l[i]?=some x):zh x.2<=N:=by
 have:=ZF Z4 (List.mem_of_getElem? hx); simp only[Z4] at this; unfold yr at hw; omega
theorem qI (n m:Int):decide (n>m) = !decide (n<=m):=by
 by_cases h:n<=m
 ·have:¬ n>m:=by omega
  simp[h,this]
 ·have:n>m:=by omega
  simp[h,this]
theorem Z0 (c:za) (r:zb) (hw:ze r<=137438953472):j6 (c,r,())=some (zf c r,()):=by
 simp only[ze,Yk] at hw;have hh:yr r.2.2.2.2.2.2.2<=137438953472:=by omega
 have hl:r.2.2.2.2.2.2.2.length<=137438953472:=by unfold yr at hh; omega
 unfold j6 zf;simp only[YM,ahu];cases hc:zA c
 ·rfl
 obtain⟨hc1,hc2⟩:=ym hc;have e1:wr (c.1 - 1)=c.1 - 1:=zg (by omega) (by omega);simp only[ahC,ahv,ahU,e1,Yh,NV c r.2.2.2.1 (by omega),A8 r.2.2.2.2.1 (by omega),Bb c r.2.2.2.2.2.1 (by omega),eN,ahu,qI ((r.2.2.2.2.2.2.2.length:Nat):Int) 30];cases (decide (r.1≥0) && decide (r.1<=c.1 - 1))
 ·rfl
 cases (decide (r.2.1≥1) && decide (r.2.1<=60))
 ·rfl
 cases (decide (r.2.2.1≥0) && decide (r.2.2.1<=60))
 ·rfl
 cases yj c r.2.2.2.1
 ·rfl
 cases yH r.2.2.2.2.1
 ·rfl
 cases jA c r.2.2.2.2.2.1
 ·rfl
 cases yx r.2.2.2.2.2.2.1
 ·rfl
 cases decide ((r.2.2.2.2.2.2.2.length:Int)<=30)
 ·rfl
 simp only[ahC,ahv,ahU];refine pM (ZN c r.1) r.2.2.2.2.2.2.2 (by omega) ?_ ?_
 ·intro rec s; simp
 ·intro rec i s x hx hi;simp only[zu hi,ahB,ahw,ahL,if_true,ahH,zq (e:=gK) hx,NO c x.2 (gB hh hx),ahu,zt (show i<4611686018427387904 by omega),ZN];cases yG c x.2<;>cases (decide (x.1≥0) && decide (x.1<=c.1 - 1))<;>cases (x.1==r.1)<;>rfl
theorem Ob (c:za) (r:zb) (hw:ze r<=1073741824):cj (c,r,())=some (zf c r,()):=by
 simp only[ze,Yk] at hw;have hh:yr r.2.2.2.2.2.2.2<=1073741824:=by omega
 have hl:r.2.2.2.2.2.2.2.length<=1073741824:=by unfold yr at hh; omega
 unfold cj zf;simp only[qM,ahu];cases hc:zA c
 ·rfl
 obtain⟨hc1,hc2⟩:=ym hc;have e1:wr (c.1 - 1)=c.1 - 1:=zg (by omega) (by omega);simp only[ahC,ahv,ahU,e1,LK,Oc c r.2.2.2.1 (by omega),sD r.2.2.2.2.1 (by omega),Od c r.2.2.2.2.2.1 (by omega),I5,ahu,qI ((r.2.2.2.2.2.2.2.length:Nat):Int) 30];cases (decide (r.1≥0) && decide (r.1<=c.1 - 1))
 ·rfl
 cases (decide (r.2.1≥1) && decide (r.2.1<=60))
 ·rfl
 cases (decide (r.2.2.1≥0) && decide (r.2.2.1<=60))
 ·rfl
 cases yj c r.2.2.2.1
 ·rfl
 cases yH r.2.2.2.2.1
 ·rfl
 cases jA c r.2.2.2.2.2.1
 ·rfl
 cases yx r.2.2.2.2.2.2.1
 ·rfl
 cases decide ((r.2.2.2.2.2.2.2.length:Int)<=30)
 ·rfl
 simp only[ahC,ahv,ahU];refine pM (ZN c r.1) r.2.2.2.2.2.2.2 (by omega) ?_ ?_
 ·intro rec s; simp
 ·intro rec i s x hx hi;simp only[zu hi,ahB,ahw,ahL,if_true,ahH,zq (e:=gK) hx,I7 c x.2 (gB hh hx),ahu,zt (show i<4611686018427387904 by omega),ZN];cases yG c x.2<;>cases (decide (x.1≥0) && decide (x.1<=c.1 - 1))<;>cases (x.1==r.1)<;>rfl
def yY (c:za) (v:Int):Int:=if zA c=true/\0<=v then Int.tmod v c.1 else -1
theorem Mb (c:za) (v:Int):jz (c,v,())=some (yY c v,()):=by
 unfold jz yY;simp only[YM,ahu];by_cases h:zA c=true
 ·obtain⟨h1,h2⟩:=ym h;simp only[h,ahC,ahv];by_cases hv:v<0
  ·rw[if_neg (show ¬ (True/\0<=v) by omega)];simp[hv]
  ·rw[if_pos (show True/\0<=v from⟨trivial,by omega⟩)];simp only[hv,ahG,ahv];rw[if_neg (by omega)]
 ·have h':zA c=false:=by simpa using h
  simp[h']
noncomputable def cX (c:za) (liars:y5) (list:yQ) (m:zp):Bool:=
 yG c m && (bif (m.1==1) then liars.any (· == yY c (zm m.2.2.1.1)) && signed liars list m.2.2.1.2.1 m.2.2.1.2.2.1 m.2.2.1.2.2.2 else
  bif (m.1==2) then signed liars list m.2.2.2.1.1 m.2.2.2.1.2.1 m.2.2.2.1.2.2 else
  bif (m.1==3) then liars.any (· == m.2.2.2.2.2.1) && signed liars list m.2.2.2.2.1.1 m.2.2.2.2.1.2.1 m.2.2.2.2.1.2.2 else true)
theorem Vv (c:za) (liars:y5) (list:yQ) (m:zp) (hw:zh m<=137438953472) (h1:liars.length<=1073741824) (h2:list.length<=137438953472):aq (c,liars,list,m,())=some (cX c liars list m,()):=by
 have n1:m.2.2.1.1.length<=137438953472:=by simp only[zh,zB] at hw; omega
 have w1:m.2.2.1.2.2.2.length<=1152921504606846976:=by simp only[zh,zB,zi,zn] at hw; omega
 have w2:m.2.2.2.1.2.2.length<=1152921504606846976:=by simp only[zh,zk,zn] at hw; omega
 have w3:m.2.2.2.2.1.2.2.length<=1152921504606846976:=by simp only[zh,zi,zn] at hw; omega
 unfold aq cX;simp only[NO c m hw,YP _ n1,Mb,Yg liars _ (show liars.length<=1152921504606846976 by omega),ahu,
  oU liars list _ _ m.2.2.1.2.2.2 (show liars.length<=1152921504606846976 by omega) (by omega) w1,oU liars list _ _ m.2.2.2.1.2.2 (show liars.length<=1152921504606846976 by omega) (by omega) w2,
  oU liars list _ _ m.2.2.2.2.1.2.2 (show liars.length<=1152921504606846976 by omega) (by omega) w3]
 cases yG c m
 ·rfl
 cases (m.1==1)
 ·cases (m.1==2)
  ·cases (m.1==3)
   ·rfl
   ·cases liars.any (· == m.2.2.2.2.2.1)<;>rfl
  ·rfl
 ·cases liars.any (· == yY c (zm m.2.2.1.1))<;>rfl
end G448
namespace G448
open Ev
theorem lC (a b:Int):yd (a,b,())=some (if a<b then a else b,()):=by
 unfold yd;dsimp only;by_cases h:a<b
 ·simp[h]
 ·simp[h]
theorem Pc (a b:Int):yS (a,b,())=some (if a>b then a else b,()):=by
 unfold yS;dsimp only;by_cases h:a>b
 ·simp[h]
 ·simp[h]
def LD (d:yP) (keep:Int):Int:=d.2+(if 0>(if keep<(d.1.length:Int) - d.2 then keep else (d.1.length:Int) - d.2) then 0 else (if keep<(d.1.length:Int) - d.2 then keep else (d.1.length:Int) - d.2))
def KM (d:yP) (keep:Int):yP:=if yx d=true then (d.1.take (LD d keep).toNat,LD d keep) else d
theorem KJ {d:yP}:yx d=true↔(d.1.length:Int)<=100000/\0<=d.2/\d.2<=(d.1.length:Int):=by
 simp[yx]
theorem rO {d:yP} (h:yx d=true) (keep:Int):0<=LD d keep/\LD d keep<=(d.1.length:Int)/\LD d keep<=100000:=by
 obtain⟨h1,h2,h3⟩:=KJ.1 h;unfold LD;split<;>split<;>omega
theorem Vm (d:yP) (keep:Int) (h:d.1.length<=17592186044416):ak (d,keep,())=some (KM d keep,()):=by
 unfold ak KM;simp only[fJ d (by omega),eN,ahu];cases hd:yx d with
 | false=>simp
 | true=>
  obtain⟨h1,h2,h3⟩:=KJ.1 hd;obtain⟨g1,g2,g3⟩:=rO hd keep;simp only[ahC,ahv,zg (show (-9223372036854775808:Int)<=(d.1.length:Int) - d.2 by omega) (show (d.1.length:Int) - d.2<=9223372036854775807 by omega),lC,Pc,ahu,if_true];rw[show d.2+(if 0>(if keep<(d.1.length:Int) - d.2 then keep else (d.1.length:Int) - d.2) then 0 else (if keep<(d.1.length:Int) - d.2 then keep else (d.1.length:Int) - d.2))=LD d keep from rfl,
   zg (by omega) (by omega),if_pos ⟨aiS 0,g1,g2⟩]
  simp only[aiq,ahV,aiT,ahS];rw[if_pos (by rw[ahM]; omega)]
def qh (d:yP):yP:=if yx d=true then (d.1,(d.1.length:Int)) else d
theorem VN (d:yP) (h:d.1.length<=17592186044416):fz (d,())=some (qh d,()):=by
 unfold fz qh;simp only[fJ d (by omega),eN,ahu];cases hd:yx d<;>simp
abbrev zO:=List UInt8×Int×Int
def z6 (c:zO):Prop:=c.1.length<=big/\0<=c.2.1
theorem pW (x:Int):0<=band x 255/\band x 255<=255:=by
 unfold band;have h:(BitVec.ofInt 64 x &&& BitVec.ofInt 64 255).toNat<=255:=by
  rw[BitVec.toNat_and];exact Nat.le_trans Nat.and_le_right (by decide)
 rw[zg (by omega) (by omega)];omega
theorem BE {a n:Int} (ha:0<=a) (hn:0<n):0<=a.tmod n/\a.tmod n<n:=by
 rw[Int.tmod_eq_emod_of_nonneg ha];exact⟨Int.emod_nonneg _ (by omega),Int.emod_lt_of_pos _ hn⟩
theorem Qf (c:zO) (hc:z6 c):Ens (Li (c,())) λ r=>0<=r.1.2.1/\0<=r.2.1/\r.2.1<=255:=by
 obtain⟨h1,h2⟩:=hc;unfold Li;refine Ens.cond (λ h => ?_) λ h=>Ens.some ⟨h2,pW _⟩;have h:c.2.1<(c.1.length:Int):=by simpa using h
 refine Ens.ite ⟨h2,h⟩ (Ens.some ⟨?_,pW _⟩);dsimp only;unfold big at h1;rw[zg (by omega) (by omega)];omega
theorem zE (c:zO) (n:Int) (hc:z6 c):Ens (zj (c,n,())) λ r=>0<=r.1.2.1/\0<=r.2.1/\(0<n->r.2.1<n):=by
 unfold zj;refine Ens.cond (λ h=>Ens.some ⟨hc.2,Int.le_refl _,λ h0=>h0⟩) λ h => ?_;have h:0<n:=by simpa using h
 refine Ens.cond (λ _ => ?_) λ _ => ?_
 ·refine (Qf c hc).bind λ r hr => ?_;rw[if_neg (show ¬ n=0 by omega)];obtain⟨g1,g2⟩:=BE hr.2.1 h;exact Ens.some ⟨hr.1,g1,λ _=>g2⟩
 ·refine (Qf c hc).bind λ r1 hr1 => ?_;refine (Qf (c.1,r1.1.2) ⟨hc.1,hr1.1⟩).bind λ r2 XY => ?_;refine (Qf (c.1,r2.1.2) ⟨hc.1,XY.1⟩).bind λ r3 hr3 => ?_;refine (Qf (c.1,r3.1.2) ⟨hc.1,hr3.1⟩).bind λ r4 hr4 => ?_;rw[if_neg (show ¬ n=0 by omega)];have e:wr (wr (wr (wr (r1.2.1*16777216)+wr (r2.2.1*65536))+wr (r3.2.1*256))+r4.2.1)=r1.2.1*16777216+r2.2.1*65536+r3.2.1*256+r4.2.1:=by
   rw[zg (n:=r1.2.1*16777216) (by omega) (by omega),zg (n:=r2.2.1*65536) (by omega) (by omega),zg (n:=r3.2.1*256) (by omega) (by omega),zg (n:=r1.2.1*16777216+r2.2.1*65536) (by omega) (by omega),
    zg (n:=r1.2.1*16777216+r2.2.1*65536+r3.2.1*256) (by omega) (by omega),zg (by omega) (by omega)]
  obtain⟨g1,g2⟩:=BE (a:=wr (wr (wr (wr (r1.2.1*16777216)+wr (r2.2.1*65536))+wr (r3.2.1*256))+r4.2.1)) (by rw[e]; omega) h
  exact Ens.some ⟨hr4.1,g1,λ _=>g2⟩
theorem Y0 (c:zO) (n:Int) (hc:z6 c):Ens (ZE (c,n,())) λ r=>0<=r.1.2.1:=by
 unfold ZE;exact (zE c n hc).bind λ r hr=>Ens.some hr.1
theorem wU {e:Ty} {l:List (den e)} {i:Nat} (h:i<l.length):rd e l i∈l:=by
 rw[zq (aii h)];exact List.getElem_mem h
theorem jG (c:zO) (l:List Int) (hc:z6 c) (hl:0<l.length):Ens (jr (c,l,())) λ r=>0<=r.1.2.1/\r.2.1∈l:=by
 unfold jr;refine (zE c _ hc).bind λ r hr => ?_;have h:r.2.1<(l.length:Int):=hr.2.2 (show (0:Int)<(l.length:Int) by omega);have h0:0<=r.2.1:=hr.2.1;refine Ens.ite ⟨h0,h⟩ (Ens.some ⟨hr.1,wU (e:=.i64) ?_⟩);show r.2.1.toNat<l.length;omega
theorem Pe (code:List UInt8) (hb:code.length<=big):Ens (aY (code,())) λ r=>z6 r/\r.1=code:=by
 unfold aY;refine Ens.loop (λ x=>0<=x.2.1) (λ x=>code.length - x.2.1.toNat) ?_ (Int.le_refl _) (by dsimp only; unfold big at hb; rw[ja]; omega)
 intro rec x hx WW;refine Ens.cond (λ h => ?_) λ h=>Ens.some ⟨⟨hb,Int.le_refl _⟩,rfl⟩;have h:x.2.1<(code.length:Int):=by simpa using h
 refine Ens.cond (λ h2 => ?_) λ h2=>Ens.some ⟨⟨hb,Int.le_refl _⟩,rfl⟩;refine Ens.ite ⟨hx,h⟩ ?_;unfold big at hb;rw[zg (n:=x.2.1+1) (by omega) (by omega)];refine WW _ (by show 0<=x.2.1+1; omega) (by show code.length - (x.2.1+1).toNat<code.length - x.2.1.toNat; omega)
noncomputable def JE (n:Nat):List UInt8:=if h:n>127 then yZ ((n % 128+128:Nat):Int)::JE (n / 128) else [yZ (n:Int)]
termination_by n
decreasing_by omega
noncomputable def jx (n:Int):List UInt8:=if 0<=n/\n<=2147483647 then JE n.toNat else []
theorem nr {n:Nat} (h:n>127):JE n=yZ ((n % 128+128:Nat):Int)::JE (n / 128):=by rw[JE,dif_pos h]
theorem nt {n:Nat} (h:¬ n>127):JE n=[yZ (n:Int)]:=by rw[JE,dif_neg h]
theorem ns:∀ (k n:Nat),n<128 ^ k->(JE n).length<=k+(if k=0 then 1 else 0)
 | 0,n,h=>by
  have:n=0:=by simpa using h
  subst this;rw[nt (by omega)];simp
 | k+1,n,h=>by
  by_cases hn:n>127
  ·rw[nr hn];have h2:n / 128<128 ^ k:=by
    rw[aiQ] at h;omega
   have ih:=ns k (n / 128) h2;cases k with
   | zero=>simp at h2; omega
   | succ k=>simp at ih ⊢; omega
  ·rw[nt hn]; simp
theorem jy (n:Int):(jx n).length<=5:=by
 unfold jx;split
 ·next h=>exact ns 5 n.toNat (by omega)
 ·simp
theorem wL {G:(Int×List UInt8×Unit->Option (List UInt8×Unit))->Int×List UInt8×Unit->Option (List UInt8×Unit)}
  (Xh:∀ rec (n:Nat) (out:List UInt8),¬ n>127->out.length<=1000->G rec ((n:Int),out,())=some (out++[yZ (n:Int)],()))
  (Xd:∀ rec (n:Nat) (out:List UInt8),n>127->n<=2147483647->out.length<=1000->G rec ((n:Int),out,())=rec (((n / 128:Nat):Int),out++[yZ ((n % 128+128:Nat):Int)],())):
  ∀ (m n:Nat) (out:List UInt8),n<m->n<=2147483647->(n<128 ^ 5->out.length+(JE n).length<=1000)->iter G m ((n:Int),out,())=some (out++JE n,())
 | 0,n,out,h,_,_=>by omega
 | m+1,n,out,h,hn,ho=>by
  have ho':=ho (by omega);by_cases hc:n>127
  ·have e1:iter G (m+1) ((n:Int),out,())=iter G m (((n / 128:Nat):Int),out++[yZ ((n % 128+128:Nat):Int)],()):=Xd (iter G m) n out hc hn (by omega);rw[e1,wL Xh Xd m (n / 128) _ (by omega) (by omega) (λ _=>by rw[nr hc] at ho'; simp at ho' ⊢; omega),nr hc]
   simp
  ·have e1:iter G (m+1) ((n:Int),out,())=some (out++[yZ (n:Int)],()):=Xh (iter G m) n out hc (by omega);rw[e1,nt hc]
theorem fV (x lo hi:Int):yk (x,lo,hi,())=some (decide (x≥lo) && decide (x<=hi),()):=by
 unfold yk;cases h:decide (x≥lo)<;>simp[h]
theorem acx (x lo hi:Int):jv (x,lo,hi,())=some (decide (x≥lo) && decide (x<=hi),()):=by
 unfold jv;cases h:decide (x≥lo)<;>simp[h]
theorem Wg (n m:Nat):Int.tdiv (n:Int) (m:Int)=((n / m:Nat):Int):=by
 rw[ajE (by omega)]; rfl
theorem Wk (n m:Nat):Int.tmod (n:Int) (m:Int)=((n % m:Nat):Int):=by
 rw[Int.tmod_eq_emod_of_nonneg (by omega)]; rfl
theorem Kn (n:Int):j5 (n,())=some (jx n,()):=by
 unfold j5 jx;simp only[fV,ahu];by_cases h:0<=n/\n<=2147483647
 ·have e1:(decide (n≥0) && decide (n<=2147483647))=true:=by simp; omega
  simp only[e1,ahC,ahv,if_pos h];obtain⟨m,rfl⟩:=Int.eq_ofNat_of_zero_le h.1;have hm:m<=2147483647:=by omega
  have hl:=ns 5 m (by omega);refine (wL ?_ ?_ fuel m [] (by rw[ja]; omega) hm (λ _=>by simp at hl ⊢; omega)).trans (by simp)
  ·intro rec k out hk ho;have:decide ((k:Int)>127)=false:=by simp; omega
   simp only[this,ahv,ahz,ahA];rw[if_pos (by omega)]
  ·intro rec k out hk hkm ho;have:decide ((k:Int)>127)=true:=by simp; omega
   simp only[this,ahw,ahz,ahA];rw[if_pos (by omega),show Int.tdiv (k:Int) 128=((k / 128:Nat):Int) from Wg k 128,show Int.tmod (k:Int) 128=((k % 128:Nat):Int) from Wk k 128,zg (by omega) (by omega),zg (by omega) (by omega)];rfl
 ·have e1:(decide (n≥0) && decide (n<=2147483647))=false:=by simp; omega
  simp only[e1,ahY,ahw,if_neg h]
theorem Pb (c:zO) (hc:z6 c):Ens (fU (c,())) λ r=>0<=r.1.2.1/\r.2.1.length<=1000:=by
 unfold fU;refine Ens.loop (λ x=>0<=x.2.1/\x.2.1<=3/\(x.1.length:Int)<=5*x.2.1/\0<=x.2.2.1.2.1) (λ x=>(4 - x.2.1).toNat) ?_ ⟨Int.le_refl _,(show (0:Int)<=3 by decide),by simp,hc.2⟩ (by dsimp only; rw[ja]; omega)
 intro rec x hx WW;obtain⟨x1,x2,x3,x4⟩:=hx;refine (zE (c.1,x.2.2.1.2) 4 ⟨hc.1,x4⟩).bind λ r1 hr1 => ?_;have h4:=hr1.2.2 (by decide);refine Ens.cond (λ h => ?_) λ h => ?_
 ·have h:x.2.1<r1.2.1:=by simpa using h
  refine (jG (c.1,r1.1.2) _ ⟨hc.1,hr1.1⟩ (by simp)).bind λ r2 XY => ?_;simp only[Kn,ahu];have hl:=jy r2.2.1;refine Ens.ite (by omega) ?_;rw[zg (n:=x.2.1+1) (by omega) (by omega)];refine WW _ ⟨?_,?_,?_,XY.1⟩ ?_
  ·show 0<=x.2.1+1; omega
  ·show x.2.1+1<=3; omega
  ·show ((x.1++jx r2.2.1).length:Int)<=5*(x.2.1+1);simp only[ahD]; omega
  ·show (4 - (x.2.1+1)).toNat<(4 - x.2.1).toNat; omega
 ·refine (Y0 (c.1,r1.1.2) 3 ⟨hc.1,hr1.1⟩).bind λ r4 hr4 => ?_;refine Ens.cond (λ _ => ?_) λ _=>Ens.some ⟨hr4,by dsimp only; omega⟩
  refine (jG (c.1,r4.1.2) _ ⟨hc.1,hr4⟩ (by simp)).bind λ r5 hr5 => ?_;refine (zE (c.1,r5.1.2) 3 ⟨hc.1,hr5.1⟩).bind λ r6 hr6 => ?_;refine Ens.ite (by simp only[ahz,ahA]; omega) (Ens.some ⟨hr6.1,?_⟩)
  simp only[ahD,ahz,ahA]; omega
theorem OY (c:zO) (hc:z6 c):Ens (fK (c,())) λ r=>0<=r.1.2.1/\r.2.1.1.length<=200000:=by
 unfold fK;refine (Pb c hc).bind λ r0 hr0 => ?_;refine Ens.ite (by omega) ?_;refine (zE (c.1,r0.1.2) _ ⟨hc.1,hr0.1⟩).bind λ r1 hr1 => ?_;refine (zE (c.1,r1.1.2) 12 ⟨hc.1,hr1.1⟩).bind λ r2 XY => ?_;refine Ens.cond (λ _ => ?_) λ _=>Ens.cond (λ _ => ?_) λ _ => ?_
 ·refine (jG (c.1,r2.1.2) _ ⟨hc.1,XY.1⟩ (by simp)).bind λ r3 hr3=>Ens.some ⟨hr3.1,?_⟩;simp only[ahS]; omega
 ·refine (zE (c.1,r2.1.2) 2 ⟨hc.1,XY.1⟩).bind λ r4 hr4 => ?_;have h:=hr4.2.2 (by decide);have h0:=hr4.2.1;rw[zg (n:=100000+r4.2.1) (by omega) (by omega)];refine Ens.ite rfl (Ens.ite (by omega) (Ens.some ⟨hr4.1,?_⟩));simp only[List.length_replicate]; omega
 ·refine Ens.some ⟨XY.1,?_⟩;simp only[ahS]; omega
theorem Ui (d:yP):cJ (d,d,())=some (true,()):=by
 unfold cJ;simp
end G448
namespace G448
open Ev Go
theorem aa6 (n:Int):s7 (n,())=some (jx n,()):=by
 unfold s7 jx;simp only[LK,ahu];by_cases h:0<=n/\n<=2147483647
 ·have e1:(decide (n≥0) && decide (n<=2147483647))=true:=by simp; omega
  simp only[e1,ahC,ahv,if_pos h];obtain⟨m,rfl⟩:=Int.eq_ofNat_of_zero_le h.1;have hm:m<=2147483647:=by omega
  have hl:=ns 5 m (by omega);refine (wL ?_ ?_ fuel m [] (by rw[ja]; omega) hm (λ _=>by simp at hl ⊢; omega)).trans (by simp)
  ·intro rec k out hk ho;have:decide ((k:Int)≥128)=false:=by simp; omega
   simp only[this,ahv,ahz,ahA];rw[if_pos (by omega)]
  ·intro rec k out hk hk2 ho;have:decide ((k:Int)≥128)=true:=by simp; omega
   have e2:Int.tmod (k:Int) 128=((k % 128:Nat):Int):=by simp[Int.tmod]
   have e3:Int.tdiv (k:Int) 128=((k / 128:Nat):Int):=by simp[Int.tdiv]
   simp only[this,ahw,e2,e3,ahz,ahA];rw[if_pos (by omega),zg (n:=((k % 128:Nat):Int)+128) (by omega) (by omega),zg (n:=((k / 128:Nat):Int)) (by omega) (by omega)];rfl
 ·have e1:(decide (n≥0) && decide (n<=2147483647))=false:=by simp; omega
  simp only[e1,ahY,ahw,if_neg h]
noncomputable def K0 (s:List UInt8):List UInt8:=jx (s.length:Int)++s
noncomputable def nums (l:List Int):List UInt8:=(l.map jx).flatten
theorem K1 (s:List UInt8):(K0 s).length<=5+s.length:=by
 unfold K0;have:=jy (s.length:Int);rw[ahD]; omega
theorem KV:∀ l:List Int,(nums l).length<=5*l.length
 | []=>by simp[nums]
 | x::l=>by
  have h1:=jy x;have h2:=KV l;simp only[nums,ahN,aiM,ahD,ahz] at *;omega
theorem e8 (s:List UInt8) (h:s.length<=137438953472):Ma (s,())=some (K0 s,()):=by
 unfold Ma K0;simp only[Kn,ahu];have:=jy (s.length:Int);rw[if_pos (by omega)]
theorem aaE (s:List UInt8) (h:s.length<=137438953472):F6 (s,())=some (K0 s,()):=by
 unfold F6 K0;simp only[aa6,ahu];have:=jy (s.length:Int);rw[if_pos (by omega)]
theorem tZ:∀ (l:List Int) (out:List UInt8),l.foldl (λ o x=>o++jx x) out=out++nums l
 | [],out=>by simp[nums]
 | x::l,out=>by rw[aig,tZ l]; simp[nums]
theorem t7 {put:Int×Unit->Option (List UInt8×Unit)} (hp:∀ n,put (n,())=some (jx n,())) (l:List Int) (hl:l.length<=137438953472) (out:List UInt8) (ho:out.length<=1000000000000)
  {G:(List UInt8×Int×Unit->Option (List UInt8×Unit))->List UInt8×Int×Unit->Option (List UInt8×Unit)}
  (hG:∀ rec o (i:Int),G rec (o,i,())=bif decide (i<(l.length:Int)) then (if 0<=i/\i<(l.length:Int) then (put (rd .i64 l i.toNat,())).bind λ r1=>
   if (o.length+r1.1.length)*1<=70368744177664 then rec (o++r1.1,wr (i+1),()) else none else none) else some (o,())):
  iter G fuel (out,0,())=some (out++nums l,()):=by
 have:=MY (λ i (o:List UInt8)=>(o,i,())) l (λ o x=>o++jx x) (λ o=>some (o,())) (by omega) (λ i o=>o.length<=1000000000000+5*i) (G:=G) ?_ ?_ (s0:=out) (by omega)
 ·rw[this,tZ]
 ·intro rec o h; rw[hG]; simp
 ·intro rec i o x hx hi h;have hpl:=jy x;refine⟨by rw[ahD]; omega,?_⟩
  rw[hG];simp only[zu hi,ahB,ahw,ahL,if_true,ahH,zq (e:=.i64) hx,hp,ahu,zt (show i<4611686018427387904 by omega)];rw[if_pos (by omega)]
theorem oX (l:List Int) (hl:l.length<=137438953472):N8 (l,())=some (nums l,()):=by
 unfold N8;exact (t7 (put:=j5) Kn l hl [] (by simp) (λ rec o i=>rfl)).trans (by simp)
theorem aas (l:List Int) (hl:l.length<=137438953472):F3 (l,())=some (nums l,()):=by
 unfold F3;exact (t7 (put:=s7) aa6 l hl [] (by simp) (λ rec o i=>rfl)).trans (by simp)
noncomputable def LW (c:za) (q:zJ):List UInt8:=
 bif yg c q then ((jx q.1++K0 q.2.1)++jx (q.2.2.length:Int))++nums q.2.2 else []
theorem No (c:za) (q:zJ):(LW c q).length<=15+5*zi q:=by
 unfold LW;cases yg c q
 ·simp
 ·have h1:=jy q.1;have h2:=K1 q.2.1;have h3:=jy (q.2.2.length:Int);have h4:=KV q.2.2;simp only[ahw,ahD,zi,zn];omega
theorem oQ (c:za) (q:zJ) (hw:zi q<=137438953472):NS (c,q,())=some (LW c q,()):=by
 have h1:q.2.1.length<=137438953472:=by simp only[zi] at hw; omega
 have h2:q.2.2.length<=137438953472:=by simp only[zi,zn] at hw; omega
 have l1:=jy q.1;have l2:=K1 q.2.1;have l3:=jy (q.2.2.length:Int);unfold NS LW;simp only[Lf c q hw,Kn,e8 _ h1,ahu];cases yg c q
 ·rfl
 simp only[ahC,ahv,ahw,ahD];rw[if_pos (by omega),if_pos (by omega)];exact t7 (put:=j5) Kn q.2.2 h2 _ (by simp only[ahD]; omega) (λ rec o i=>by simp only[Kn,ahu])
theorem ab2 (c:za) (q:zJ) (hw:zi q<=1073741824):aa7 (c,q,())=some (LW c q,()):=by
 have h1:q.2.1.length<=137438953472:=by simp only[zi] at hw; omega
 have h2:q.2.2.length<=137438953472:=by simp only[zi,zn] at hw; omega
 have l1:=jy q.1;have l2:=K1 q.2.1;have l3:=jy (q.2.2.length:Int);have l4:=KV q.2.2;unfold aa7 LW;simp only[kR c q hw,aa6,aaE _ h1,aas _ h2,ahu];cases yg c q
 ·rfl
 simp only[ahC,ahv,ahw,ahD];rw[if_pos (by omega),if_pos (by omega),if_pos (by omega)]
noncomputable def J4 (c:za) (m:zp):List UInt8:=
 bif yG c m then (bif (m.1==1) then (jx m.1++K0 m.2.2.1.1)++LW c m.2.2.1.2 else
  bif (m.1==2) then (((jx m.1++jx m.2.2.2.1.1)++K0 m.2.2.2.1.2.1)++jx (m.2.2.2.1.2.2.length:Int))++nums m.2.2.2.1.2.2 else
  bif (m.1==3) then (jx m.1++nums [m.2.1,m.2.2.2.2.2.1])++LW c m.2.2.2.2.1 else
  jx m.1++nums [m.2.2.2.2.2.2.1,m.2.2.2.2.2.2.2.1,m.2.2.2.2.2.2.2.2.1,m.2.2.2.2.2.2.2.2.2]) else []
theorem PW (c:za) (m:zp):(J4 c m).length<=60+5*zh m:=by
 unfold J4;have h0:=jy m.1;have h1:=K1 m.2.2.1.1;have h2:=No c m.2.2.1.2;have h3:=jy m.2.2.2.1.1;have h4:=K1 m.2.2.2.1.2.1;have h5:=jy (m.2.2.2.1.2.2.length:Int);have h6:=KV m.2.2.2.1.2.2;have h7:=KV [m.2.1,m.2.2.2.2.2.1];have h8:=No c m.2.2.2.2.1;have h9:=KV [m.2.2.2.2.2.2.1,m.2.2.2.2.2.2.2.1,m.2.2.2.2.2.2.2.2.1,m.2.2.2.2.2.2.2.2.2];simp only[ahz,ahA] at h7 h9;cases yG c m
 ·simp
 cases (m.1==1)
 ·cases (m.1==2)
  ·cases (m.1==3)
   ·simp only[ahw,ahv,ahD]; omega
   ·simp only[ahw,ahv,ahD,zh]; omega
  ·simp only[ahw,ahv,ahD,zh,zk,zn]; omega
 ·simp only[ahw,ahD,zh,zB]; omega
theorem Vw (c:za) (m:zp) (hw:zh m<=137438953472):eX (c,m,())=some (J4 c m,()):=by
 have w1:m.2.2.1.1.length<=137438953472:=by simp only[zh,zB] at hw; omega
 have w2:zi m.2.2.1.2<=137438953472:=by simp only[zh,zB] at hw; omega
 have w3:m.2.2.2.1.2.1.length<=137438953472:=by simp only[zh,zk] at hw; omega
 have w4:m.2.2.2.1.2.2.length<=137438953472:=by simp only[zh,zk,zn] at hw; omega
 have w5:zi m.2.2.2.2.1<=137438953472:=by simp only[zh] at hw; omega
 have h0:=jy m.1;have h1:=K1 m.2.2.1.1;have h2:=No c m.2.2.1.2;have h3:=jy m.2.2.2.1.1;have h4:=K1 m.2.2.2.1.2.1;have h5:=jy (m.2.2.2.1.2.2.length:Int);have h6:=KV m.2.2.2.1.2.2;have h7:=KV [m.2.1,m.2.2.2.2.2.1];have h8:=No c m.2.2.2.2.1;have h9:=KV [m.2.2.2.2.2.2.1,m.2.2.2.2.2.2.2.1,m.2.2.2.2.2.2.2.2.1,m.2.2.2.2.2.2.2.2.2];simp only[ahz,ahA] at h7 h9;unfold eX J4;simp only[NO c m hw,Kn,e8 _ w1,e8 _ w3,oQ c _ w2,oQ c _ w5,oX _ w4,oX [m.2.1,m.2.2.2.2.2.1] (by simp),
  oX [m.2.2.2.2.2.2.1,m.2.2.2.2.2.2.2.1,m.2.2.2.2.2.2.2.2.1,m.2.2.2.2.2.2.2.2.2] (by simp),Option.bind_some,List.length_append]
 cases yG c m
 ·rfl
 cases (m.1==1)
 ·cases (m.1==2)
  ·cases (m.1==3)
   ·simp only[ahC,ahw,ahv]; rw[if_pos (by omega)]
   ·simp only[ahC,ahw,ahv]; rw[if_pos (by omega),if_pos (by omega)]
  ·simp only[ahC,ahw,ahv]; rw[if_pos (by omega),if_pos (by omega),if_pos (by omega),if_pos (by omega)]
 ·simp only[ahC,ahw,ahv]; rw[if_pos (by omega),if_pos (by omega)]
theorem ab0 (c:za) (m:zp) (hw:zh m<=1073741824):aa5 (c,m,())=some (J4 c m,()):=by
 have w1:m.2.2.1.1.length<=137438953472:=by simp only[zh,zB] at hw; omega
 have w2:zi m.2.2.1.2<=1073741824:=by simp only[zh,zB] at hw; omega
 have w3:m.2.2.2.1.2.1.length<=137438953472:=by simp only[zh,zk] at hw; omega
 have w4:m.2.2.2.1.2.2.length<=137438953472:=by simp only[zh,zk,zn] at hw; omega
 have w5:zi m.2.2.2.2.1<=1073741824:=by simp only[zh] at hw; omega
 have h0:=jy m.1;have h1:=K1 m.2.2.1.1;have h2:=No c m.2.2.1.2;have h3:=jy m.2.2.2.1.1;have h4:=K1 m.2.2.2.1.2.1;have h5:=jy (m.2.2.2.1.2.2.length:Int);have h6:=KV m.2.2.2.1.2.2;have h7:=KV [m.2.1,m.2.2.2.2.2.1];have h8:=No c m.2.2.2.2.1;have h9:=KV [m.2.2.2.2.2.2.1,m.2.2.2.2.2.2.2.1,m.2.2.2.2.2.2.2.2.1,m.2.2.2.2.2.2.2.2.2];simp only[ahz,ahA] at h7 h9;unfold aa5 J4;simp only[I7 c m hw,aa6,aaE _ w1,aaE _ w3,ab2 c _ w2,ab2 c _ w5,aas _ w4,aas [m.2.1,m.2.2.2.2.2.1] (by simp),
  aas [m.2.2.2.2.2.2.1,m.2.2.2.2.2.2.2.1,m.2.2.2.2.2.2.2.2.1,m.2.2.2.2.2.2.2.2.2] (by simp),Option.bind_some,List.length_append]
 cases yG c m
 ·rfl
 cases (m.1==1)
 ·cases (m.1==2)
  ·cases (m.1==3)
   ·simp only[ahC,ahw,ahv]; rw[if_pos (by omega)]
   ·simp only[ahC,ahw,ahv]; rw[if_pos (by omega),if_pos (by omega)]
  ·simp only[ahC,ahw,ahv]; rw[if_pos (by omega),if_pos (by omega),if_pos (by omega),if_pos (by omega)]
 ·simp only[ahC,ahw,ahv]; rw[if_pos (by omega),if_pos (by omega)]
theorem UA (b k:Nat) (hb:b<128) (hk:k<=4):shl (b:Int) (7*(k:Int))=((b*128 ^ k:Nat):Int):=by
 unfold shl;have e:min (7*(k:Int)).toNat 64=7*k:=by omega
 rw[e];have e2:(2:Int) ^ (7*k)=((128 ^ k:Nat):Int):=by
  rw[Int.pow_mul];simp
 rw[e2,←Int.natCast_mul];have:b*128 ^ k<=127*128 ^ 4:=Nat.mul_le_mul (by omega) (Nat.pow_le_pow_right (by decide) hk);exact zg (by omega) (by omega)
theorem Gp (v b k:Nat) (hv:v<128 ^ k) (hb:b<128) (hk:k<=4):bor (v:Int) ((b*128 ^ k:Nat):Int)=((v+b*128 ^ k:Nat):Int):=by
 have h4:128 ^ k<=128 ^ 4:=Nat.pow_le_pow_right (by decide) hk;have hbk:b*128 ^ k<=127*128 ^ 4:=Nat.mul_le_mul (by omega) h4;unfold bor;have e1:(BitVec.ofInt 64 (v:Int)).toNat=v:=by
  rw[BitVec.toNat_ofInt]; omega
 have e2:(BitVec.ofInt 64 ((b*128 ^ k:Nat):Int)).toNat=b*128 ^ k:=by
  rw[BitVec.toNat_ofInt]; omega
 rw[BitVec.toNat_or,e1,e2];have e3:v ||| b*128 ^ k=v+b*128 ^ k:=by
  have:=Nat.two_pow_add_eq_or_of_lt (i:=7*k) (b:=v) (by rw[Nat.pow_mul]; exact hv) b
  rw[Nat.pow_mul,Nat.mul_comm] at this;rw[Nat.or_comm,←this,Nat.add_comm]
 rw[e3];exact zg (by omega) (by omega)
def Jw:List UInt8->Nat->Nat->Nat->Option (Nat×Nat)
 | [],_,_,_=>none
 | b::l,v,k,0=>none
 | b::l,v,k,n+1=>if b.toNat<128 then (if (k>0/\b.toNat=0)∨v+b.toNat*128 ^ k>2147483647 then none else some (v+b.toNat*128 ^ k,k+1)) else Jw l (v+(b.toNat % 128)*128 ^ k) (k+1) n
def zl (s:List UInt8) (at_:Int):Int×Int×Bool:=
 if at_<0 then (0,0,false) else match Jw (s.drop at_.toNat) 0 0 5 with
  | some p=>((p.1:Int),at_+(p.2:Int),true)
  | none=>(0,0,false)
theorem abs:∀ (k n:Nat),n<128 ^ (k+1)->((JE n).length=k+1↔(k=0∨128 ^ k<=n))
 | 0,n,h=>by
  rw[nt (by simp at h; omega)]; simp
 | k+1,n,h=>by
  by_cases hn:n>127
  ·rw[nr hn,ahz];have h2:n / 128<128 ^ (k+1):=by rw[aiQ] at h; omega
   have ih:=abs k (n / 128) h2;have hp:128 ^ (k+1)=128 ^ k*128:=Nat.pow_succ ..;constructor
   ·intro hl;right;rcases ih.1 (by omega) with rfl|h3
    ·simp; omega
    ·omega
   ·intro hl;have h3:128 ^ (k+1)<=n:=by omega
    have:(JE (n / 128)).length=k+1:=ih.2 (by
     cases k with
     | zero=>left; rfl
     | succ k=>right; omega)
    omega
  ·rw[nt hn];have:128 ^ (k+1)>127:=by
    have:128 ^ 1<=128 ^ (k+1):=Nat.pow_le_pow_right (by decide) (by omega);omega
   simp;omega
theorem sh (v k n:Nat):Jw [] v k n=none:=by cases n<;>rfl
theorem RC {k:Nat} (h:k<=4):128 ^ k<=268435456:=by
 have:128 ^ k<=128 ^ 4:=Nat.pow_le_pow_right (by decide) h;omega
theorem oM (s:List UInt8) (at_:Int) (hs:s.length<=137438953472):NJ (s,at_,())=some ((zl s at_).1,(zl s at_).2.1,(zl s at_).2.2,()):=by
 unfold NJ zl;dsimp only;by_cases ha:at_<0
 ·rw[if_pos ha];refine (walk 5 (λ i (v:Nat)=>((v:Int),i,())) (λ i v=>True) (λ i v=>some (0,0,false,())) (by decide) ?_ ?_ (s0:=0) trivial).trans rfl
  ·intro rec v _; simp
  ·intro rec i v hi _;left;simp[ha,show (i:Int)<5 by omega]
 rw[if_neg ha];obtain⟨a,rfl⟩:∃ a:Nat,at_=(a:Int):=⟨at_.toNat,by omega⟩
 simp only[ahH,ha,ahG,ahv];refine (walk 5 (λ i (v:Nat)=>((v:Int),i,())) (λ i v=>v<128 ^ i) (λ i v=>match Jw (s.drop (a+i)) v i (5 - i) with|some p=>some ((p.1:Int),(a:Int)+(p.2:Int),true,())|none=>some (0,0,false,())) (by decide) ?_ ?_ (s0:=0) (by decide)).trans ?_
 ·intro rec v hv;have:Jw (s.drop (a+5)) v 5 0=none:=by cases s.drop (a+5)<;>rfl
  simp[this]
 ·intro rec i v hi hv;have hp:=RC (k:=i) (by omega);have e1:wr ((s.length:Int) - (i:Int))=(s.length:Int) - (i:Int):=zg (by omega) (by omega);have e5:((i:Int)<5):=by omega
  simp only[e5,ahB,ahw,e1];by_cases hlt:a+i<s.length
  ·have h1:¬ ((a:Int)≥(s.length:Int) - (i:Int)):=by omega
   have e2:wr ((a:Int)+(i:Int))=((a+i:Nat):Int):=by rw[zg (by omega) (by omega)]; omega
   have e3:wr (7*(i:Int))=7*(i:Int):=zg (by omega) (by omega);have hx:s[a+i]?=some s[a+i]:=List.getElem?_eq_getElem hlt;simp only[h1,ahG,ahv,e2,e3,ahH,zq (e:=.u8) hx];rw[if_pos (by omega),if_neg (by omega),ahP hlt,show 5 - i=(5 - (i+1))+1 by omega];simp only[Jw];have e4:Int.tmod (((s[a+i].toNat:Nat):Int)) 128=((s[a+i].toNat % 128:Nat):Int):=by simp[Int.tmod]
   rw[e4,UA _ i (Nat.mod_lt _ (by decide)) (by omega),Gp v _ i hv (Nat.mod_lt _ (by decide)) (by omega)];by_cases hb:s[a+i].toNat<128
   ·left;have hm:s[a+i].toNat % 128=s[a+i].toNat:=Nat.mod_eq_of_lt hb;have hb':(((s[a+i].toNat:Nat):Int)<128):=by omega
    simp only[hb',ahB,ahw,hm,hb,if_true];have hbk:s[a+i].toNat*128 ^ i<=127*268435456:=Nat.mul_le_mul (by omega) hp;have e6:wr (((a+i:Nat):Int)+1)=(a:Int)+((i+1:Nat):Int):=by rw[zg (by omega) (by omega)]; omega
    by_cases hz:i>0
    ·have hz':((i:Int)>0):=by omega
     simp only[hz',ahB,ahw];by_cases h0:s[a+i].toNat=0
     ·have:(((s[a+i].toNat:Nat):Int)==0)=true:=by simp[h0]
      rw[this,if_pos (.inl ⟨hz,h0⟩)]; rfl
     ·have:(((s[a+i].toNat:Nat):Int)==0)=false:=by rw[beq_eq_false_iff_ne]; omega
      rw[this];by_cases Xx:v+s[a+i].toNat*128 ^ i>2147483647
      ·rw[if_pos (.inr Xx)];simp only[cond_false,show (((v+s[a+i].toNat*128 ^ i:Nat):Int)>2147483647) by omega,decide_true,cond_true]
      ·rw[if_neg (by intro h; rcases h with h|h; exact h0 h.2; exact Xx h)]
       simp only[cond_false,show ¬ (((v+s[a+i].toNat*128 ^ i:Nat):Int)>2147483647) by omega,decide_false,e6]
    ·have hz':¬ ((i:Int)>0):=by omega
     simp only[hz',ahG,ahv];by_cases Xx:v+s[a+i].toNat*128 ^ i>2147483647
     ·rw[if_pos (.inr Xx)];simp only[show (((v+s[a+i].toNat*128 ^ i:Nat):Int)>2147483647) by omega,decide_true,cond_true]
     ·rw[if_neg (by intro h; rcases h with h|h; exact hz h.1; exact Xx h)]
      simp only[show ¬ (((v+s[a+i].toNat*128 ^ i:Nat):Int)>2147483647) by omega,decide_false,cond_false,e6]
   ·right;have hb':¬ (((s[a+i].toNat:Nat):Int)<128):=by omega
    refine⟨v+s[a+i].toNat % 128*128 ^ i,?_,?_,?_⟩
    ·rw[aiQ];have:s[a+i].toNat % 128*128 ^ i<=127*128 ^ i:=Nat.mul_le_mul (by omega) (Nat.le_refl _);omega
    ·simp only[hb',ahG,ahv,zt (show i<4611686018427387904 by omega)]
    ·simp only[hb,if_false];rw[show a+(i+1)=a+i+1 by omega]
  ·left;have h1:((a:Int)≥(s.length:Int) - (i:Int)):=by omega
   rw[aj6 (by omega),sh];simp only[h1,ahB,ahw]
 ·simp only[aiD,aiT];cases Jw (s.drop a) 0 0 5<;>rfl
theorem abt (v b i:Nat) (hv:v<128 ^ i) (hb:b<128) (hi:i<=4):(jx ((v+b*128 ^ i:Nat):Int)).length=i+1↔¬ ((i>0/\b=0)∨v+b*128 ^ i>2147483647):=by
 have hp:=RC hi;have hlt:v+b*128 ^ i<128 ^ (i+1):=by
  rw[aiQ];have:b*128 ^ i<=127*128 ^ i:=Nat.mul_le_mul (by omega) (Nat.le_refl _);omega
 unfold jx;by_cases Xx:v+b*128 ^ i>2147483647
 ·rw[if_neg (by omega)];simp[Xx]
 ·rw[if_pos (by omega),ahH,abs i _ hlt];cases i with
  | zero=>simp; omega
  | succ i=>
   constructor
   ·rintro (h|h) (h'|h')
    ·omega
    ·omega
    ·rw[h'.2] at h; omega
    ·omega
   ·intro h;right;have h0:b≠0:=λ e=>h (.inl ⟨by omega,e⟩);have:1*128 ^ (i+1)<=b*128 ^ (i+1):=Nat.mul_le_mul (by omega) (Nat.le_refl _);omega
theorem aaY (s:List UInt8) (at_:Int) (hs:s.length<=137438953472):aa2 (s,at_,())=some ((zl s at_).1,(zl s at_).2.1,(zl s at_).2.2,()):=by
 unfold aa2 zl;have e0:wr ((s.length:Int) - 1)=(s.length:Int) - 1:=zg (by omega) (by omega);simp only[LK,ahu,e0];by_cases ha:at_<0
 ·rw[if_pos ha];have:(decide (at_≥0) && decide (at_<=(s.length:Int) - 1))=false:=by simp; omega
  rw[this]; rfl
 rw[if_neg ha];obtain⟨a,rfl⟩:∃ a:Nat,at_=(a:Int):=⟨at_.toNat,by omega⟩
 simp only[ahH];by_cases hal:a<s.length
 ·have:(decide ((a:Int)≥0) && decide ((a:Int)<=(s.length:Int) - 1))=true:=by simp; omega
  simp only[this,ahC,ahv];refine (walk 5 (λ i (v:Nat)=>((v:Int),i,())) (λ i v=>v<128 ^ i) (λ i v=>match Jw (s.drop (a+i)) v i (5 - i) with|some p=>some ((p.1:Int),(a:Int)+(p.2:Int),true,())|none=>some (0,0,false,())) (by decide) ?_ ?_ (s0:=0) (by decide)).trans ?_
  ·intro rec v hv;have:Jw (s.drop (a+5)) v 5 0=none:=by cases s.drop (a+5)<;>rfl
   simp[this]
  ·intro rec i v hi hv;have hp:=RC (k:=i) (by omega);have e5:((i:Int)<5):=by omega
   have e2:wr ((a:Int)+(i:Int))=((a+i:Nat):Int):=by rw[zg (by omega) (by omega)]; omega
   simp only[e5,ahB,ahw,e2];by_cases hlt:a+i<s.length
   ·have h1:(((a+i:Nat):Int)<(s.length:Int)):=by omega
    have e3:wr (7*(i:Int))=7*(i:Int):=zg (by omega) (by omega);have hx:s[a+i]?=some s[a+i]:=List.getElem?_eq_getElem hlt;simp only[h1,ahB,ahw,e3,ahH,zq (e:=.u8) hx];rw[if_pos ⟨by omega,trivial⟩,if_neg (by omega),ahP hlt,show 5 - i=(5 - (i+1))+1 by omega];simp only[Jw];have e4:Int.tmod (((s[a+i].toNat:Nat):Int)) 128=((s[a+i].toNat % 128:Nat):Int):=by simp[Int.tmod]
    have hmb:s[a+i].toNat % 128*128 ^ i<=127*268435456:=Nat.mul_le_mul (by omega) hp;have adb:wr ((v:Int)+((s[a+i].toNat % 128*128 ^ i:Nat):Int))=((v+s[a+i].toNat % 128*128 ^ i:Nat):Int):=by rw[zg (by omega) (by omega)]; omega
    rw[e4,UA _ i (Nat.mod_lt _ (by decide)) (by omega),adb];by_cases hb:s[a+i].toNat<128
    ·left;have hm:s[a+i].toNat % 128=s[a+i].toNat:=Nat.mod_eq_of_lt hb;have hb':(((s[a+i].toNat:Nat):Int)<128):=by omega
     have e6:wr (((a+i:Nat):Int)+1)=(a:Int)+((i+1:Nat):Int):=by rw[zg (by omega) (by omega)]; omega
     have ad7:wr ((i:Int)+1)=((i+1:Nat):Int):=by rw[zg (by omega) (by omega)]; omega
     simp only[hb',ahB,ahw,hm,hb,if_true,aa6,ahu,ad7,e6];by_cases hg:(jx ((v+s[a+i].toNat*128 ^ i:Nat):Int)).length=i+1
     ·rw[if_neg ((abt v _ i hv hb (by omega)).1 hg)];have:(((jx ((v+s[a+i].toNat*128 ^ i:Nat):Int)).length:Int) != ((i+1:Nat):Int))=false:=by rw[hg]; simp
      rw[this]; rfl
     ·rw[if_pos (Classical.not_not.1 (λ h=>hg ((abt v _ i hv hb (by omega)).2 h)))];have:(((jx ((v+s[a+i].toNat*128 ^ i:Nat):Int)).length:Int) != ((i+1:Nat):Int))=true:=by rw[bne_iff_ne]; omega
      rw[this]; rfl
    ·right;have hb':¬ (((s[a+i].toNat:Nat):Int)<128):=by omega
     refine⟨v+s[a+i].toNat % 128*128 ^ i,?_,?_,?_⟩
     ·rw[aiQ];have:s[a+i].toNat % 128*128 ^ i<=127*128 ^ i:=Nat.mul_le_mul (by omega) (Nat.le_refl _);omega
     ·simp only[hb',ahG,ahv,zt (show i<4611686018427387904 by omega)]
     ·simp only[hb,if_false];rw[show a+(i+1)=a+i+1 by omega]
   ·left;have h1:¬ (((a+i:Nat):Int)<(s.length:Int)):=by omega
    rw[aj6 (by omega),sh];simp only[h1,ahG,ahv]
  ·simp only[aiD,aiT];cases Jw (s.drop a) 0 0 5<;>rfl
 ·have:(decide ((a:Int)≥0) && decide ((a:Int)<=(s.length:Int) - 1))=false:=by simp; omega
  rw[this,aj6 (by omega),sh]; rfl
abbrev yK:=Int×Bool
def zo (s:List UInt8) (r:yK):yK×Int:=
 if (zl s r.1).2.2=true/\r.2=true then (((zl s r.1).2.1,true),(zl s r.1).1) else ((r.1,false),0)
def ye (s:List UInt8) (at_:Int):List UInt8×Int×Bool:=
 if (zl s at_).2.2=true/\(zl s at_).1<=(s.length:Int) - (zl s at_).2.1 then
  ((s.drop (zl s at_).2.1.toNat).take (zl s at_).1.toNat,(zl s at_).2.1+(zl s at_).1,true) else ([],0,false)
def yM (s:List UInt8) (r:yK):yK×List UInt8:=
 if (ye s r.1).2.2=true/\r.2=true then (((ye s r.1).2.1,true),(ye s r.1).1) else ((r.1,false),[])
theorem sn:∀ (l:List UInt8) (v k n:Nat) {p:Nat×Nat},Jw l v k n=some p->p.1<=2147483647/\k+1<=p.2/\p.2<=k+l.length
 | [],v,k,n,p,h=>by rw[sh] at h; cases h
 | b::l,v,k,0,p,h=>by cases h
 | b::l,v,k,n+1,p,h=>by
  simp only[Jw] at h;split at h
  ·split at h
   ·cases h
   ·next hc=>
    cases h;simp only[ahz];have:¬ v+b.toNat*128 ^ k>2147483647:=λ hh=>hc (.inr hh);omega
  ·have:=sn l _ _ n h;simp only[ahz];omega
theorem MZ (s:List UInt8) (at_:Int) (h:(zl s at_).2.2=true):0<=at_/\0<=(zl s at_).1/\(zl s at_).1<=2147483647/\at_+1<=(zl s at_).2.1/\(zl s at_).2.1<=(s.length:Int):=by
 unfold zl at h ⊢;split at h
 ·simp at h
 ·next ha=>
  rw[if_neg ha];cases hg:Jw (s.drop at_.toNat) 0 0 5 with
  | none=>rw[hg] at h; simp at h
  | some p=>
   have:=sn _ _ _ _ hg;simp only[ahQ] at this ⊢;omega
theorem N6 (s:List UInt8) (r:yK) (hs:s.length<=137438953472):Zl ((s,r),())=some ((s,(zo s r).1),(zo s r).2,()):=by
 unfold Zl zo;simp only[oM s r.1 hs,ahu];cases hg:(zl s r.1).2.2<;>cases hr:r.2<;>simp
theorem aab (s:List UInt8) (r:yK) (hs:s.length<=137438953472):s6 ((s,(r.1,!r.2)),())=some ((s,((zo s r).1.1,!(zo s r).1.2)),(zo s r).2,()):=by
 unfold s6 zo;simp only[aaY s r.1 hs,ahu];cases hg:(zl s r.1).2.2<;>cases hr:r.2<;>simp
theorem BD (s:List UInt8) (n at_:Int) (h1:0<=n) (h2:0<=at_):List.take ((at_+n).toNat - at_.toNat) (List.drop at_.toNat s)=(s.drop at_.toNat).take n.toNat:=by
 congr 1; omega
theorem Vo (s:List UInt8) (at_:Int) (hs:s.length<=137438953472):eS (s,at_,())=some ((ye s at_).1,(ye s at_).2.1,(ye s at_).2.2,()):=by
 unfold eS ye;simp only[oM s at_ hs,ahu];cases hg:(zl s at_).2.2
 ·simp
 ·obtain⟨h0,h1,h2,h3,h4⟩:=MZ s at_ hg;have e1:wr ((s.length:Int) - (zl s at_).2.1)=(s.length:Int) - (zl s at_).2.1:=zg (by omega) (by omega);have e2:wr ((zl s at_).2.1+(zl s at_).1)=(zl s at_).2.1+(zl s at_).1:=zg (by omega) (by omega);simp only[e1,e2,ahC,ahv];by_cases hc:(zl s at_).1<=(s.length:Int) - (zl s at_).2.1
  ·rw[if_pos (show True/\(zl s at_).1<=(s.length:Int) - (zl s at_).2.1 from⟨trivial,hc⟩)];simp only[show ¬ (zl s at_).1>(s.length:Int) - (zl s at_).2.1 by omega,ahG,ahv];rw[if_pos (by omega),BD _ _ _ h1 (by omega)]
  ·rw[if_neg (show ¬ (True/\(zl s at_).1<=(s.length:Int) - (zl s at_).2.1) from λ h=>hc h.2)];simp only[show (zl s at_).1>(s.length:Int) - (zl s at_).2.1 by omega,ahB,ahw]
theorem aco (s:List UInt8) (at_:Int) (hs:s.length<=137438953472):aai (s,at_,())=some ((ye s at_).1,(ye s at_).2.1,(ye s at_).2.2,()):=by
 unfold aai ye;simp only[aaY s at_ hs,ahu];cases hg:(zl s at_).2.2
 ·simp
 ·obtain⟨h0,h1,h2,h3,h4⟩:=MZ s at_ hg;have e1:wr ((s.length:Int) - (zl s at_).2.1)=(s.length:Int) - (zl s at_).2.1:=zg (by omega) (by omega);have e2:wr ((zl s at_).2.1+(zl s at_).1)=(zl s at_).2.1+(zl s at_).1:=zg (by omega) (by omega);simp only[e1,e2,ahC,ahv];by_cases hc:(zl s at_).1<=(s.length:Int) - (zl s at_).2.1
  ·rw[if_pos (show True/\(zl s at_).1<=(s.length:Int) - (zl s at_).2.1 from⟨trivial,hc⟩)];simp only[show ¬ (zl s at_).1>(s.length:Int) - (zl s at_).2.1 by omega,ahG,ahv];rw[if_pos (by omega),BD _ _ _ h1 (by omega)]
  ·rw[if_neg (show ¬ (True/\(zl s at_).1<=(s.length:Int) - (zl s at_).2.1) from λ h=>hc h.2)];simp only[show (zl s at_).1>(s.length:Int) - (zl s at_).2.1 by omega,ahB,ahw]
theorem oW (s:List UInt8) (r:yK) (hs:s.length<=137438953472):Mi ((s,r),())=some ((s,(yM s r).1),(yM s r).2,()):=by
 unfold Mi yM;simp only[Vo s r.1 hs,ahu];cases hg:(ye s r.1).2.2<;>cases hr:r.2<;>simp
theorem ab6 (s:List UInt8) (r:yK) (hs:s.length<=137438953472):F7 ((s,(r.1,!r.2)),())=some ((s,((yM s r).1.1,!(yM s r).1.2)),(yM s r).2,()):=by
 unfold F7 yM;simp only[aco s r.1 hs,ahu];cases hg:(ye s r.1).2.2<;>cases hr:r.2<;>simp
def ZG (s:List UInt8):Nat->yK->List Int->yK×List Int
 | 0,r,out=>(r,out)
 | n+1,r,out=>if r.2=true then ZG s n (zo s r).1 (out++[(zo s r).2]) else (r,out)
def ZT (s:List UInt8) (r:yK):yK×List Int:=ZG s (zo s r).2.toNat (zo s r).1 []
theorem RJ (s:List UInt8) (r:yK):0<=(zo s r).2/\(zo s r).2<=2147483647:=by
 unfold zo;split
 ·next h=>have:=MZ s r.1 h.1; simp only; omega
 ·simp
theorem Bk (s:List UInt8) (r:yK) (hs:s.length<=137438953472):aQ ((s,r),())=some ((s,(ZT s r).1),(ZT s r).2,()):=by
 obtain⟨b1,b2⟩:=RJ s r;unfold aQ ZT;dsimp only;rw[N6 s r hs,ahu];dsimp only;generalize hn:(zo s r).2=n at *;obtain⟨n,rfl⟩:∃ m:Nat,n=(m:Int):=⟨n.toNat,by omega⟩
 simp only[ahH];refine (walk n (λ i (t:List Int×yK)=>(t.1,i,(s,t.2),())) (λ i t=>t.1.length<=i) (λ i t=>some ((s,(ZG s (n - i) t.2 t.1).1),(ZG s (n - i) t.2 t.1).2,())) (by omega) ?_ ?_ (s0:=([],(zo s r).1)) (by simp)).trans (by simp)
 ·intro rec t ht;simp[ZG]
 ·intro rec i t hi ht;rw[show n - i=(n - (i+1))+1 by omega];simp only[ZG,show ((i:Int)<(n:Int)) by omega,ahB,ahw];cases hr:t.2.2
  ·left;simp
  ·right;refine⟨(t.1++[(zo s t.2).2],(zo s t.2).1),by simp; omega,?_,by simp⟩
   simp only[ahw];simp only[N6 s t.2 hs,ahu,ahz,ahA,zt (show i<4611686018427387904 by omega)];rw[if_pos (by omega)]
theorem ab5 (s:List UInt8) (r:yK) (hs:s.length<=137438953472):aac ((s,(r.1,!r.2)),())=some ((s,((ZT s r).1.1,!(ZT s r).1.2)),(ZT s r).2,()):=by
 obtain⟨b1,b2⟩:=RJ s r;unfold aac ZT;dsimp only;rw[aab s r hs,ahu];dsimp only;generalize hn:(zo s r).2=n at *;obtain⟨n,rfl⟩:∃ m:Nat,n=(m:Int):=⟨n.toNat,by omega⟩
 simp only[ahH];refine (walk n (λ i (t:List Int×yK)=>(t.1,i,(s,(t.2.1,!t.2.2)),())) (λ i t=>t.1.length<=i) (λ i t=>some ((s,((ZG s (n - i) t.2 t.1).1.1,!(ZG s (n - i) t.2 t.1).1.2)),(ZG s (n - i) t.2 t.1).2,())) (by omega) ?_ ?_ (s0:=([],(zo s r).1)) (by simp)).trans (by simp)
 ·intro rec t ht;simp[ZG]
 ·intro rec i t hi ht;rw[show n - i=(n - (i+1))+1 by omega];simp only[ZG,show ((i:Int)<(n:Int)) by omega,ahB,ahw];have aaD:=aab s t.2 hs;cases hr:t.2.2
  ·left;simp[hr]
  ·right;rw[hr] at aaD;refine⟨(t.1++[(zo s t.2).2],(zo s t.2).1),by simp; omega,?_,by simp⟩
   simp only[ahC,ahY,ahw] at aaD ⊢;rw[aaD,ahu];simp only[ahz,ahA,zt (show i<4611686018427387904 by omega)];rw[if_pos (by omega)]
def jp (s:List UInt8) (r:yK):yK×zJ:=
 ((ZT s (yM s (zo s r).1).1).1,((zo s r).2,(yM s (zo s r).1).2,(ZT s (yM s (zo s r).1).1).2))
theorem Bj (s:List UInt8) (r:yK) (hs:s.length<=137438953472):N7 ((s,r),())=some ((s,(jp s r).1),(jp s r).2,()):=by
 unfold N7;dsimp only;rw[N6 s r hs,ahu];dsimp only;rw[oW s _ hs,ahu];dsimp only;rw[Bk s _ hs,ahu];rfl
theorem act (s:List UInt8) (r:yK) (hs:s.length<=137438953472):aae ((s,(r.1,!r.2)),())=some ((s,((jp s r).1.1,!(jp s r).1.2)),(jp s r).2,()):=by
 unfold aae;dsimp only;rw[aab s r hs,ahu];dsimp only;rw[ab6 s _ hs,ahu];dsimp only;rw[ab5 s _ hs,ahu];rfl
theorem nz {s:List UInt8} {r:yK} (h:(zo s r).1.2=true):r.2=true/\0<=r.1/\r.1+1<=(zo s r).1.1/\(zo s r).1.1<=(s.length:Int):=by
 unfold zo at h ⊢;split at h
 ·next hc=>
  rw[if_pos hc];have:=MZ s r.1 hc.1;exact⟨hc.2,this.1,this.2.2.2.1,this.2.2.2.2⟩
 ·simp at h
theorem dR {s:List UInt8} {r:yK} (h:(yM s r).1.2=true):r.2=true/\0<=r.1/\r.1+1+((yM s r).2.length:Int)<=(yM s r).1.1/\(yM s r).1.1<=(s.length:Int):=by
 unfold yM at h ⊢;split at h
 ·next hc=>
  rw[if_pos hc];obtain⟨h1,h2⟩:=hc;refine⟨h2,?_⟩;unfold ye at h1 ⊢;split at h1
  ·next hg=>
   rw[if_pos hg];have:=MZ s r.1 hg.1;simp only[ahM,ahQ];omega
  ·simp at h1
 ·simp at h
theorem BY (s:List UInt8):∀ (n:Nat) (r:yK) (out:List Int),(ZG s n r out).1.2=true->r.2=true/\r.1+((ZG s n r out).2.length:Int)<=(ZG s n r out).1.1+(out.length:Int)/\out.length<=(ZG s n r out).2.length/\
  ((ZG s n r out).1.1<=(s.length:Int)∨ZG s n r out=(r,out))
 | 0,r,out,h=>⟨h,by simp[ZG],by simp[ZG],.inr rfl⟩
 | n+1,r,out,h=>by
  simp only[ZG] at h ⊢;split at h
  ·next hr=>
   rw[if_pos hr];obtain⟨h1,h2,h3,h4⟩:=BY s n _ _ h;obtain⟨g1,g2,g3,g4⟩:=nz h1;simp only[ahD,ahz,ahA] at h2 h3;refine⟨hr,by omega,by omega,.inl ?_⟩;rcases h4 with h4|h4
   ·exact h4
   ·rw[h4]; exact g4
  ·next hr=>exact absurd h hr
theorem wS {s:List UInt8} {r:yK} (h:(ZT s r).1.2=true):r.2=true/\0<=r.1/\r.1+1+((ZT s r).2.length:Int)<=(ZT s r).1.1/\(ZT s r).1.1<=(s.length:Int):=by
 unfold ZT at h ⊢;obtain⟨h1,h2,h3,h4⟩:=BY s _ _ _ h;obtain⟨g1,g2,g3,g4⟩:=nz h1;simp only[ahA] at h2;refine⟨g1,g2,by omega,?_⟩;rcases h4 with h4|h4
 ·exact h4
 ·rw[h4]; exact g4
theorem nA {s:List UInt8} {r:yK} (h:(jp s r).1.2=true):r.2=true/\0<=r.1/\r.1+(zi (jp s r).2:Int)<=(jp s r).1.1/\(jp s r).1.1<=(s.length:Int):=by
 unfold jp at h ⊢;obtain⟨a1,a2,a3,a4⟩:=wS h;obtain⟨b1,b2,b3,b4⟩:=dR a1;obtain⟨c1,c2,c3,c4⟩:=nz b1;simp only[zi,zn];exact⟨c1,c2,by omega,a4⟩
def qu:zp:=(0,0,([],0,[],[]),(0,[],[]),(0,[],[]),0,(0,0,0,0))
noncomputable def Jt (c:za) (s:List UInt8) (r:yK) (m:zp):zp×Bool:=bif r.2 && (r.1==(s.length:Int) && yG c m) then (m,true) else (qu,false)
theorem aN (c:za) (s:List UInt8) (r:yK) (m:zp) (hw:r.2=true->r.1=(s.length:Int)->zh m<=1073741824):
  (bif !r.2 then some (qu,false,()) else bif (r.1 != (s.length:Int)) then some (qu,false,()) else (ZZ (c,m,())).bind λ r3=>bif !r3.1 then some (qu,false,()) else some (m,true,()))=some ((Jt c s r m).1,(Jt c s r m).2,()):=by
 unfold Jt;cases hr:r.2
 ·rfl
 ·by_cases hl:r.1=(s.length:Int)
  ·have e:(r.1 != (s.length:Int))=false:=by simp[hl]
   have e':(r.1==(s.length:Int))=true:=by simp[hl]
   rw[e,e',NO c m (by have:=hw hr hl; omega)]
   cases h:yG c m<;>simp[h]
  ·have e:(r.1 != (s.length:Int))=true:=by simp[hl]
   have e':(r.1==(s.length:Int))=false:=by simp[hl]
   rw[e,e']; rfl
theorem aa9 (c:za) (s:List UInt8) (r:yK) (m:zp) (hw:r.2=true->r.1=(s.length:Int)->zh m<=1073741824):
  (bif !r.2 then some (qu,false,()) else bif (r.1 != (s.length:Int)) then some (qu,false,()) else (cd (c,m,())).bind λ r3=>bif !r3.1 then some (qu,false,()) else some (m,true,()))=some ((Jt c s r m).1,(Jt c s r m).2,()):=by
 unfold Jt;cases hr:r.2
 ·rfl
 ·by_cases hl:r.1=(s.length:Int)
  ·have e:(r.1 != (s.length:Int))=false:=by simp[hl]
   have e':(r.1==(s.length:Int))=true:=by simp[hl]
   rw[e,e',I7 c m (hw hr hl)];cases h:yG c m<;>simp[h]
  ·have e:(r.1 != (s.length:Int))=true:=by simp[hl]
   have e':(r.1==(s.length:Int))=false:=by simp[hl]
   rw[e,e']; rfl
noncomputable def JA (c:za) (s:List UInt8):zp×Bool:=
 let a:=zo s (0,true)
 bif (a.2==1) then Jt c s (jp s (yM s a.1).1).1 (a.2,0,((yM s a.1).2,(jp s (yM s a.1).1).2),(0,[],[]),(0,[],[]),0,(0,0,0,0)) else
 bif (a.2==2) then Jt c s (ZT s (yM s (zo s a.1).1).1).1 (a.2,0,([],0,[],[]),((zo s a.1).2,(yM s (zo s a.1).1).2,(ZT s (yM s (zo s a.1).1).1).2),(0,[],[]),0,(0,0,0,0)) else
 bif (a.2==3) then Jt c s (jp s (zo s (zo s a.1).1).1).1 (a.2,(zo s a.1).2,([],0,[],[]),(0,[],[]),(jp s (zo s (zo s a.1).1).1).2,(zo s (zo s a.1).1).2,(0,0,0,0)) else
 bif (a.2==4) then Jt c s (zo s (zo s (zo s (zo s a.1).1).1).1).1 (a.2,0,([],0,[],[]),(0,[],[]),(0,[],[]),0,((zo s a.1).2,(zo s (zo s a.1).1).2,(zo s (zo s (zo s a.1).1).1).2,(zo s (zo s (zo s (zo s a.1).1).1).1).2)) else
 Jt c s a.1 (a.2,0,([],0,[],[]),(0,[],[]),(0,[],[]),0,(0,0,0,0))
theorem w1 (s:List UInt8) (a:yK) (k:Int) (hs:s.length<=1073741824) (h:(jp s (yM s a).1).1.2=true):zh (k,0,((yM s a).2,(jp s (yM s a).1).2),(0,[],[]),(0,[],[]),0,(0,0,0,0))<=1073741824:=by
 obtain⟨h1,h2,h3,h4⟩:=nA h;obtain⟨g1,g2,g3,g4⟩:=dR h1;simp only[zh,zB,zk,zi,zn,ahA] at h3 ⊢;omega
theorem w2 (s:List UInt8) (a:yK) (k x:Int) (hs:s.length<=1073741824) (h:(ZT s (yM s a).1).1.2=true):zh (k,0,([],0,[],[]),(x,(yM s a).2,(ZT s (yM s a).1).2),(0,[],[]),0,(0,0,0,0))<=1073741824:=by
 obtain⟨h1,h2,h3,h4⟩:=wS h;obtain⟨g1,g2,g3,g4⟩:=dR h1;simp only[zh,zB,zk,zi,zn,ahA];omega
theorem w3 (s:List UInt8) (a:yK) (k x y:Int) (hs:s.length<=1073741824) (h:(jp s a).1.2=true):zh (k,x,([],0,[],[]),(0,[],[]),(jp s a).2,y,(0,0,0,0))<=1073741824:=by
 obtain⟨h1,h2,h3,h4⟩:=nA h;simp only[zh,zB,zk,zi,zn,ahA] at h3 ⊢;omega
theorem w4 (k:Int) (t:zz):zh (k,0,([],0,[],[]),(0,[],[]),(0,[],[]),0,t)<=1073741824:=by
 simp[zh,zB,zk,zi,zn]
theorem A5 (c:za) (s:List UInt8) (hs:s.length<=1073741824):NN (c,s,())=some ((JA c s).1,(JA c s).2,()):=by
 have hl:s.length<=137438953472:=by omega
 unfold NN JA;simp only[N6 s _ hl,oW s _ hl,Bk s _ hl,Bj s _ hl,ahu];cases ((zo s (0,true)).2==1)
 ·cases ((zo s (0,true)).2==2)
  ·cases ((zo s (0,true)).2==3)
   ·cases ((zo s (0,true)).2==4)
    ·exact aN c s _ _ (λ _ _=>w4 _ _)
    ·exact aN c s _ _ (λ _ _=>w4 _ _)
   ·exact aN c s _ _ (λ h _=>w3 s _ _ _ _ hs h)
  ·exact aN c s _ _ (λ h _=>w2 s _ _ _ hs h)
 ·exact aN c s _ _ (λ h _=>w1 s _ _ hs h)
theorem acp (c:za) (s:List UInt8) (hs:s.length<=1073741824):aam (c,s,())=some ((JA c s).1,(JA c s).2,()):=by
 have hl:s.length<=137438953472:=by omega
 have e0:s6 ((s,(0,false)),())=some ((s,((zo s (0,true)).1.1,!(zo s (0,true)).1.2)),(zo s (0,true)).2,()):=aab s (0,true) hl;unfold aam JA;simp only[e0,aab s _ hl,ab6 s _ hl,ab5 s _ hl,act s _ hl,ahu];cases ((zo s (0,true)).2==1)
 ·cases ((zo s (0,true)).2==2)
  ·cases ((zo s (0,true)).2==3)
   ·cases ((zo s (0,true)).2==4)
    ·exact aa9 c s _ _ (λ _ _=>w4 _ _)
    ·exact aa9 c s _ _ (λ _ _=>w4 _ _)
   ·exact aa9 c s _ _ (λ h _=>w3 s _ _ _ _ hs h)
  ·exact aa9 c s _ _ (λ h _=>w2 s _ _ _ hs h)
 ·exact aa9 c s _ _ (λ h _=>w1 s _ _ hs h)
theorem qF (c:za) (s:List UInt8) (r:yK) (m:zp) (hw:r.2=true->zh m<=1073741824):zh (Jt c s r m).1<=1073741824:=by
 unfold Jt;cases hr:r.2
 ·simp[qu,zh,zB,zk,zi,zn]
 ·cases (r.1==(s.length:Int) && yG c m)
  ·simp[qu,zh,zB,zk,zi,zn]
  ·exact hw hr
theorem PX (c:za) (s:List UInt8) (hs:s.length<=1073741824):zh (JA c s).1<=1073741824:=by
 unfold JA;dsimp only;cases ((zo s (0,true)).2==1)
 ·cases ((zo s (0,true)).2==2)
  ·cases ((zo s (0,true)).2==3)
   ·cases ((zo s (0,true)).2==4)
    ·exact qF c s _ _ (λ _=>w4 _ _)
    ·exact qF c s _ _ (λ _=>w4 _ _)
   ·exact qF c s _ _ (λ h=>w3 s _ _ _ _ hs h)
  ·exact qF c s _ _ (λ h=>w2 s _ _ _ hs h)
 ·exact qF c s _ _ (λ h=>w1 s _ _ hs h)
def Z6:zI:=(0,0,(0,[],[]),[])
def Y3 (id:Int):zb:=(id,1,0,Z6,[],[],([],0),[])
def WT:zb:=(0,0,0,Z6,[],[],([],0),[])
theorem P7 (id:Int):ze (Y3 id)=0:=rfl
noncomputable def JG (c:za) (id:Int):zb×Bool:=bif zf c (Y3 id) then (Y3 id,true) else (WT,false)
theorem VD (c:za) (id:Int):fg (c,id,())=some ((JG c id).1,(JG c id).2,()):=by
 have h:=Z0 c (Y3 id) (by rw[P7]; decide)
 unfold fg JG;dsimp only;simp only[Y3,Z6] at h ⊢;rw[h];cases zf c (id,1,0,(0,0,(0,[],[]),[]),[],[],([],0),[])<;>rfl
theorem RO (c:za) (id:Int):ze (JG c id).1=0:=by
 unfold JG;cases zf c (Y3 id)<;>rfl
def jj (s:List UInt8):yK×zI:=
 let a:=zo s (0,true)
 let b:=zo s a.1
 let q:=jp s b.1
 let t:=yM s q.1
 (t.1,(a.2,b.2,q.2,t.2))
noncomputable def Yd (c:za) (s:List UInt8):zI×Bool:=
 bif (jj s).1.2 && ((jj s).1.1==(s.length:Int) && yj c (jj s).2) then ((jj s).2,true) else (Z6,false)
theorem wR {s:List UInt8} (h:(jj s).1.2=true):(zC (jj s).2:Int)<=s.length:=by
 unfold jj at h ⊢;simp only at h ⊢;obtain⟨a1,a2,a3,a4⟩:=dR h;obtain⟨b1,b2,b3,b4⟩:=nA a1;simp only[zC];omega
theorem VG (c:za) (s:List UInt8) (hs:s.length<=1073741824):fi (c,s,())=some ((Yd c s).1,(Yd c s).2,()):=by
 unfold fi Yd;dsimp only;rw[N6 s _ (by omega),ahu];dsimp only;rw[N6 s _ (by omega),ahu];dsimp only;rw[Bj s _ (by omega),ahu];dsimp only;rw[oW s _ (by omega),ahu];dsimp only;have hw:=wR (s:=s);have e:jj s=((yM s (jp s (zo s (zo s (0,true)).1).1).1).1,((zo s (0,true)).2,(zo s (zo s (0,true)).1).2,(jp s (zo s (zo s (0,true)).1).1).2,(yM s (jp s (zo s (zo s (0,true)).1).1).1).2)):=rfl;have e1:(yM s (jp s (zo s (zo s (0,true)).1).1).1).1=(jj s).1:=rfl;have e2:((zo s (0,true)).2,(zo s (zo s (0,true)).1).2,(jp s (zo s (zo s (0,true)).1).1).2,(yM s (jp s (zo s (zo s (0,true)).1).1).1).2)=(jj s).2:=rfl;rw[e1,e2];cases hr:(jj s).1.2
 ·rfl
 ·have:=hw hr;by_cases hl:(jj s).1.1=(s.length:Int)
  ·have e3:((jj s).1.1 != (s.length:Int))=false:=by simp[hl]
   have e4:((jj s).1.1==(s.length:Int))=true:=by simp[hl]
   rw[e3,e4,NV c _ (by omega)];cases h:yj c (jj s).2<;>simp[Z6]
  ·have e3:((jj s).1.1 != (s.length:Int))=true:=by simp[hl]
   have e4:((jj s).1.1==(s.length:Int))=false:=by simp[hl]
   rw[e3,e4]; rfl
noncomputable def jM (c:za) (s:List UInt8):Nat->Nat->zI->zI×Int
 | 0,at_,old=>(old,at_)
 | n+1,at_,old=>
  let t:=ye s at_
  bif t.2.2 && (decide (t.2.1<(s.length:Int)) && (s.getD t.2.1.toNat 0==10 && (Yd c t.1).2)) then jM c s n (t.2.1+1).toNat (Yd c t.1).1 else (old,at_)
noncomputable def Jy (c:za) (s:List UInt8):zI×Int:=jM c s (s.length+1) 0 Z6
theorem qH {s:List UInt8} {at_:Int} (h:(ye s at_).2.2=true):0<=at_/\at_+1<=(ye s at_).2.1/\(ye s at_).2.1<=(s.length:Int)/\(ye s at_).1.length<=s.length/\
  (zl s at_).2.2=true/\(ye s at_).2.1=(zl s at_).2.1+(zl s at_).1/\(ye s at_).1=(s.drop (zl s at_).2.1.toNat).take (zl s at_).1.toNat:=by
 unfold ye at h ⊢;split at h
 ·next hg=>
  rw[if_pos hg];have:=MZ s at_ hg.1;refine⟨by omega,by simp only; omega,by simp only; omega,?_,hg.1,rfl,rfl⟩
  simp only[ahM,ahQ];omega
 ·simp at h
theorem tw (c:za) (s:List UInt8):∀ (n at_:Nat) (old:zI),s.length<at_+n->∀ m,s.length<at_+m->jM c s n at_ old=jM c s m at_ old
 | n,at_,old,hn,m,hm=>by
  cases n with
  | zero=>
   cases m with
   | zero=>rfl
   | succ m=>
    have:(ye s at_).2.2=false:=by
     cases h:(ye s at_).2.2
     ·rfl
     ·have:=qH h; omega
    simp only[jM,this,ail,ahv]
  | succ n=>
   cases m with
   | zero=>
    have:(ye s at_).2.2=false:=by
     cases h:(ye s at_).2.2
     ·rfl
     ·have:=qH h; omega
    simp only[jM,this,ail,ahv]
   | succ m=>
    simp only[jM];cases h:(ye s at_).2.2
    ·simp
    ·have:=qH h;rw[tw c s n _ _ (by omega) m (by omega)]
theorem Rk:UInt8.ofNat (Int.toNat 10)=10:=rfl
theorem Vr (c:za) (s:List UInt8) (hs:s.length<=1073741824):eV (c,s,())=some ((Jy c s).1,(Jy c s).2,()):=by
 unfold eV aB Jy;rw[ahu];dsimp only;refine (Qd (λ x:Int×zI×zI×Unit=>some ((jM c s (s.length+1) x.1.toNat x.2.2.1).1,(jM c s (s.length+1) x.1.toNat x.2.2.1).2,())) (λ x=>s.length+1 - x.1.toNat)
  (λ x=>0<=x.1/\x.1<=(s.length:Int)) ?_ fuel _ ⟨by simp,by simp⟩ (by have:=Jv (n:=s.length+1) (by omega); simp; omega)).trans (by rfl)
 rintro rec ⟨v,z,old,⟨⟩⟩ ⟨h1,h2⟩ WW;obtain⟨n,rfl⟩:∃ n:Nat,v=(n:Int):=⟨v.toNat,by simp only at h1; omega⟩
 simp only[ahH] at h2 WW ⊢;simp only[oM s _ (show s.length<=137438953472 by omega),ahu,jM];cases hg:(zl s n).2.2
 ·have:(ye s n).2.2=false:=by unfold ye; rw[if_neg (by simp[hg])]
  simp[this]
 ·obtain⟨g0,g1,g2,g3,g4⟩:=MZ s n hg;simp only[ahC,ahv,zg (show (-9223372036854775808:Int)<=(s.length:Int) - (zl s n).2.1 by omega) (show (s.length:Int) - (zl s n).2.1<=9223372036854775807 by omega),
   zg (show (-9223372036854775808:Int)<=(zl s n).2.1+(zl s n).1 by omega) (show (zl s n).2.1+(zl s n).1<=9223372036854775807 by omega)]
  by_cases hc:(zl s n).1≥(s.length:Int) - (zl s n).2.1
  ·simp only[hc,ahB,ahw];by_cases ht:(ye s n).2.2=true
   ·obtain⟨t0,t1,t2,t3,t4,t5,t6⟩:=qH ht;have:¬ (ye s n).2.1<(s.length:Int):=by omega
    simp[this]
   ·have:(ye s n).2.2=false:=by simpa using ht
    simp[this]
  ·have e0:ye s n=((s.drop (zl s n).2.1.toNat).take (zl s n).1.toNat,(zl s n).2.1+(zl s n).1,true):=by
    unfold ye;rw[if_pos ⟨hg,by omega⟩]
   have hlt:(zl s n).2.1+(zl s n).1<(s.length:Int):=by omega
   simp only[hc,ahG,ahv,e0,hlt,ahB,ahU];rw[if_pos (show 0<=(zl s n).2.1+(zl s n).1/\True from⟨by omega,trivial⟩)];have W7:rd .u8 s ((zl s n).2.1+(zl s n).1).toNat=s.getD ((zl s n).2.1+(zl s n).1).toNat 0:=rfl;rw[W7,Rk];by_cases XV:s.getD ((zl s n).2.1+(zl s n).1).toNat 0=10
   ·have e1:(s.getD ((zl s n).2.1+(zl s n).1).toNat 0 != 10)=false:=by rw[XV]; rfl
    have e2:(s.getD ((zl s n).2.1+(zl s n).1).toNat 0==10)=true:=by rw[XV]; rfl
    rw[e1,e2];simp only[ahv,ahU];rw[if_pos (show 0<=(zl s n).2.1/\(zl s n).2.1<=(zl s n).2.1+(zl s n).1/\(zl s n).2.1+(zl s n).1<=(s.length:Int) from⟨by omega,by omega,by omega⟩),BD _ _ _ g1 (by omega),VG c _ (by simp only[ahM,ahQ]; omega),Option.bind_some]
    dsimp only;cases hk:(Yd c (List.take (zl s n).1.toNat (List.drop (zl s n).2.1.toNat s))).2
    ·rfl
    ·simp only[ahC,ahv,ahw];rw[zg (n:=(zl s n).2.1+(zl s n).1+1) (by omega) (by omega),WW _ ⟨by simp only; omega,by simp only; omega⟩ (by simp only; omega)]
     simp only;rw[tw c s (s.length+1) _ _ (by omega) s.length (by omega)]
   ·have e1:(s.getD ((zl s n).2.1+(zl s n).1).toNat 0 != 10)=true:=bne_iff_ne.2 XV;have e2:(s.getD ((zl s n).2.1+(zl s n).1).toNat 0==10)=false:=beq_eq_false_iff_ne.2 XV;rw[e1,e2];rfl
def Kg (a b:zI):Bool:=a.1==b.1 && (a.2.1==b.2.1 && (jd a.2.2.1 b.2.2.1 && a.2.2.2==b.2.2.2))
theorem A9 (a b:zI) (h:zC a<=137438953472):aC (a,b,())=some (Kg a b,()):=by
 unfold aC Kg;simp only[oR a.2.2.1 b.2.2.1 (by simp only[zC,zi,zn] at h; omega),Option.bind_some]
 cases a.1==b.1<;>cases a.2.1==b.2.1<;>cases jd a.2.2.1 b.2.2.1<;>rfl
theorem T9 (c:za) (s:List UInt8):zC (Yd c s).1<=s.length:=by
 unfold Yd;cases h:(jj s).1.2
 ·simp[Z6,zC,zi,zn]
 ·have:=wR h;cases ((jj s).1.1==(s.length:Int))<;>cases yj c (jj s).2
  ·simp[Z6,zC,zi,zn]
  ·simp[Z6,zC,zi,zn]
  ·simp[Z6,zC,zi,zn]
  ·simp only[air,ahw]; omega
theorem tu (c:za) (s:List UInt8):∀ (n at_:Nat) (old:zI),at_<=s.length->zC old<=s.length->zC (jM c s n at_ old).1<=s.length/\0<=(jM c s n at_ old).2/\(jM c s n at_ old).2<=(s.length:Int)
 | 0,at_,old,h1,h2=>⟨h2,by simp only[jM]; omega,by simp only[jM]; omega⟩
 | n+1,at_,old,h1,h2=>by
  simp only[jM];cases hg:((ye s at_).2.2 && (decide ((ye s at_).2.1<(s.length:Int)) && (s.getD (ye s at_).2.1.toNat 0==10 && (Yd c (ye s at_).1).2)))
  ·exact⟨h2,by simp only[ahv]; omega,by simp only[ahv]; omega⟩
  ·simp only[ahx,ahI] at hg;obtain⟨k1,k2,k3,k4⟩:=hg;obtain⟨t0,t1,t2,t3,t4,t5,t6⟩:=qH k1;have:=T9 c (ye s at_).1;exact tu c s n _ _ (by omega) (by omega)
theorem tD (c:za) (s:List UInt8):zC (Jy c s).1<=s.length/\0<=(Jy c s).2/\(Jy c s).2<=(s.length:Int):=tu c s _ 0 _ (by simp) (by simp[Z6,zC,zi,zn])
theorem pq {r:zb} {N:Nat} (h:ze r<=N):r.2.2.2.2.2.2.1.1.length<=N:=by simp only[ze,JM] at h; omega
theorem pr {r:zb} {N:Nat} (h:ze r<=N):zC r.2.2.2.1<=N:=by simp only[ze] at h; omega
def jU:z8:=([100,100,100,100],[0,0,0,0])
theorem Re {G:(Int×z8×Unit->Option (z8×Unit))->Int×z8×Unit->Option (z8×Unit)}
  (hG:∀ rec (i:Int) (l:z8),G rec (i,l,())=bif decide (i<4) then (if (l.1.length+[(100:Int)].length)*8<=70368744177664 then rec (wr (i+1),(l.1++[100],l.2),()) else none) else some (l,())):
  iter G fuel (0,([],List.replicate (Int.toNat 4) 0),())=some (jU,()):=by
 refine (walk 4 (λ i (o:List Int)=>(i,(o,List.replicate (Int.toNat 4) 0),())) (λ i o=>o.length=i) (λ i o=>some ((o++List.replicate (4 - i) 100,List.replicate (Int.toNat 4) 0),())) (by decide) ?_ ?_ (s0:=[]) rfl).trans rfl
 ·intro rec o ho; rw[hG]; simp
 ·intro rec i o hi ho;right;refine⟨o++[100],by simp[ho],?_,?_⟩
  ·rw[hG];simp only[show ((i:Int)<4) by omega,ahB,ahw,ahz,ahA,zt (show i<4611686018427387904 by omega)];rw[if_pos (by omega)]
  ·rw[show 4 - i=(4 - (i+1))+1 by omega,aja]; simp
theorem A3:NM ()=some (jU,()):=by
 unfold NM;exact Re (λ rec i l=>rfl)
def jK (s:List UInt8):zw:=((steps s).1.map λ x=>x.2).flatten
theorem Bv:∀ (ps:List (List UInt8)) (prev:Int) (out:List ZJ),(∀ x∈out,x.2.length<=2)->∀ x∈(js ps prev out).1,x.2.length<=2
 | [],prev,out,h=>h
 | p::ps,prev,out,h=>by
  simp only[js];cases yD 124 p with
  | none=>simp
  | some q=>
   simp only;split
   ·next hB=>
    refine Bv ps _ _ ?_;intro x hx;rcases List.mem_append.1 hx with hx|hx
    ·exact h x hx
    ·simp only[aiE] at hx;subst hx;unfold yN at hB;simp only[ahx,ahI] at hB;exact hB.2.2.2.2
   ·simp
theorem Bx (s:List UInt8):∀ x∈(steps s).1,x.2.length<=2:=by
 unfold steps;split
 ·simp
 ·cases zQ 47 s with
  | nil=>simp
  | cons p ps=>
   simp only;split
   ·exact Bv _ _ _ (by simp)
   ·simp
theorem rZ:∀ (l:List ZJ) (out:zw),l.foldl (λ o x=>o++x.2) out=out++(l.map λ x=>x.2).flatten
 | [],out=>by simp
 | x::l,out=>by rw[aig,rZ l]; simp
theorem Ww (s:List UInt8) {G:(zw×Int×Unit->Option (zw×Unit))->zw×Int×Unit->Option (zw×Unit)}
  (hG:∀ rec (o:zw) (i:Int),G rec (o,i,())=bif decide (i<((steps s).1.length:Int)) then (if 0<=i/\i<((steps s).1.length:Int) then (if (o.length+(rd (.pair .i64 (.sl 0 jO)) (steps s).1 i.toNat).2.length)*32<=70368744177664 then
   rec (o++(rd (.pair .i64 (.sl 0 jO)) (steps s).1 i.toNat).2,wr (i+1),()) else none) else none) else some (o,())):
  iter G fuel ([],0,())=some (jK s,()):=by
 have h30:=(bj s).2;have:=MY (λ i (o:zw)=>(o,i,())) (steps s).1 (λ o x=>o++x.2) (λ o=>some (o,())) (by omega) (λ i o=>o.length<=2*i) (G:=G) ?_ ?_ (s0:=[]) (by simp)
 ·rw[this,rZ]; rfl
 ·intro rec o ho; rw[hG]; simp
 ·intro rec i o x hx hi ho;have h2:=Bx s x (List.mem_of_getElem? hx);refine⟨by rw[ahD]; omega,?_⟩
  rw[hG];simp only[zu hi,ahB,ahw,ahL,if_true,ahH,zq (e:=.pair .i64 (.sl 0 jO)) hx,zt (show i<4611686018427387904 by omega)];rw[if_pos (by omega)]
theorem BJ (s:List UInt8):(jK s).length<=60:=by
 have h30:=(bj s).2;have h2:=Bx s;have key:∀ l:List ZJ,(∀ x∈l,x.2.length<=2)->(l.map λ x=>x.2).flatten.length<=2*l.length:=by
  intro l;induction l with
  | nil=>simp
  | cons x l ih=>
   intro h;have a:=h x (by simp);have b:=ih (λ y hy=>h y (by simp[hy]));simp only[ahN,aiM,ahD,ahz];omega
 have:=key _ h2;unfold jK;omega
theorem Bd (s:List UInt8) (hs:s.length<=137438953472):N1 (s,())=some (jK s,()):=by
 unfold N1;simp only[fx s hs,ahu];exact Ww s (λ rec o i=>rfl)
def within (lo hi x:Int):Bool:=decide (x≥lo) && decide (x<=hi)
def Yz (l:z8):Bool:=decide (l.1.length=4) && (decide (l.2.length=4) && (l.1.all (within 0 400) && l.2.all (within 0 100)))
theorem Vu (l:z8):an (l,())=some (Yz l,()):=by
 unfold an Yz;dsimp only;by_cases h1:l.1.length=4
 ·by_cases h2:l.2.length=4
  ·simp only[h1,h2,ahB,ahU,show (((4:Nat):Int) != 4)=false from rfl,ahv];refine (walk 4 (λ i (_:Unit)=>(i,())) (λ _ _=>True) (λ i _=>some ((l.1.drop i).all (within 0 400) && (l.2.drop i).all (within 0 100),())) (by decide) ?_ ?_ (s0:=()) trivial).trans (by simp)
   ·intro rec s _;rw[aj0 (by omega),aj0 (by omega)]; simp
   ·intro rec i s hi _;have hi1:i<l.1.length:=by omega
    have hi2:i<l.2.length:=by omega
    have Xv:l.1[i]?=some l.1[i]:=List.getElem?_eq_getElem hi1;have hx2:l.2[i]?=some l.2[i]:=List.getElem?_eq_getElem hi2;have c1:(0:Int)<=(i:Int):=by omega
    have c2:(i:Int)<4:=by omega
    have c3:(i:Int)<((4:Nat):Int):=by omega
    simp only[c1,c2,c3,ahB,ahw,ahL,if_true,ahH,zq (e:=.i64) Xv,zq (e:=.i64) hx2,Yh,ahu,zt (show i<4611686018427387904 by omega)];rw[ahP hi1,ahP hi2];simp only[ai3,within];cases (decide (l.1[i]≥0) && decide (l.1[i]<=400))
    ·left; simp
    ·cases (decide (l.2[i]≥0) && decide (l.2[i]<=100))
     ·left; simp
     ·right; exact⟨(),trivial,by simp,by simp⟩
  ·have:(((l.2.length:Nat):Int) != 4)=true:=bne_iff_ne.2 (by omega);simp[h1,this,h2]
 ·have:(((l.1.length:Nat):Int) != 4)=true:=bne_iff_ne.2 (by omega);simp[this,h1]
theorem PE {l:z8} (h:Yz l=true):l.1.length=4/\l.2.length=4:=by
 unfold Yz at h;simp only[ahx,ahI] at h;exact⟨h.1,h.2.1⟩
noncomputable def pay (l:z8) (x:zz):z8×Int:=
 if Yz l=true/\zN x=true then
  (if x.2.2.2<rd .i64 l.2 x.1.toNat then (l,2) else if x.2.2.2>rd .i64 l.2 x.1.toNat then (l,3) else
   if x.2.2.1>rd .i64 l.1 x.1.toNat then ((l.1,l.2.set x.1.toNat (wr (x.2.2.2+1))),4) else
   let h:=l.1.set x.1.toNat (wr (rd .i64 l.1 x.1.toNat - x.2.2.1))
   let m:z8:=(h.set x.2.1.toNat (wr (rd .i64 h x.2.1.toNat+x.2.2.1)),l.2.set x.1.toNat (wr (x.2.2.2+1)))
   if Yz m=true then (m,0) else (l,1))
 else (l,1)
theorem o7 (l:z8) (h1:l.1.length<=137438953472) (h2:l.2.length<=137438953472):Mk (l,())=some (l,()):=by
 unfold Mk;dsimp only;rw[if_pos (by omega),if_pos (by omega)]; rfl
theorem oN (l:z8) (x:zz) (h1:l.1.length<=137438953472) (h2:l.2.length<=137438953472):L8 (l,x,())=some ((pay l x).1,(pay l x).2,()):=by
 unfold L8 pay;simp only[o7 l h1 h2,Vu,Mf,ahu];by_cases hl:Yz l=true
 ·by_cases hx:zN x=true
  ·obtain⟨⟨b1,b2⟩,⟨b3,b4⟩,_,_⟩:=(qk x).1 hx;obtain⟨g1,g2⟩:=PE hl;have d1:x.1<(l.1.length:Int):=by omega
   have d2:x.1<(l.2.length:Int):=by omega
   have d3:x.2.1<(l.1.length:Int):=by omega
   rw[if_pos (show Yz l=true/\zN x=true from⟨hl,hx⟩)];simp only[hl,hx,ahC,ahv,b1,b3,d1,d2,d3,ahL,if_true,aj9];by_cases e1:x.2.2.2<rd .i64 l.2 x.1.toNat
   ·simp only[e1,ahB,ahw,if_true]
   ·simp only[e1,ahG,ahv,if_false];by_cases e2:x.2.2.2>rd .i64 l.2 x.1.toNat
    ·simp only[e2,ahB,ahw,if_true]
    ·simp only[e2,ahG,ahv,if_false];by_cases e3:x.2.2.1>rd .i64 l.1 x.1.toNat
     ·simp only[e3,ahB,ahw,if_true]
     ·simp only[e3,ahG,ahv,if_false];cases hm:Yz ((l.1.set x.1.toNat (wr (rd .i64 l.1 x.1.toNat - x.2.2.1))).set x.2.1.toNat (wr (rd .i64 (l.1.set x.1.toNat (wr (rd .i64 l.1 x.1.toNat - x.2.2.1))) x.2.1.toNat+x.2.2.1)),l.2.set x.1.toNat (wr (x.2.2.2+1)))
      ·simp
      ·simp
  ·have hx':zN x=false:=by simpa using hx
   rw[if_neg (show ¬ (Yz l=true/\zN x=true) from λ h=>hx h.2)];simp[hl,hx']
 ·have hl':Yz l=false:=by simpa using hl
  rw[if_neg (show ¬ (Yz l=true/\zN x=true) from λ h=>hl h.1)];simp[hl']
theorem mc (l:z8) (x:zz):(pay l x).1.1.length=l.1.length/\(pay l x).1.2.length=l.2.length:=by
 unfold pay;dsimp only;repeat' split
 all_goals simp
noncomputable def JC (s:List Int×z8) (x:zz):List Int×z8:=(s.1++[(pay s.2 x).2],(pay s.2 x).1)
noncomputable def Zg (l:z8) (xs:zw):List Int×z8:=xs.foldl JC ([],l)
theorem Ru {f:z8×zz×Unit->Option (z8×Int×Unit)} (l:z8) (xs:zw) (h1:l.1.length<=137438953472) (h2:l.2.length<=137438953472) (hxs:xs.length<=137438953472)
  (hf:∀ l x,l.1.length<=137438953472->l.2.length<=137438953472->f (l,x,())=some ((pay l x).1,(pay l x).2,()))
  {G:(List Int×Int×z8×Unit->Option (z8×List Int×Unit))->List Int×Int×z8×Unit->Option (z8×List Int×Unit)}
  (hG:∀ rec (o:List Int) (i:Int) (m:z8),G rec (o,i,m,())=bif decide (i<(xs.length:Int)) then (if 0<=i/\i<(xs.length:Int) then (f (m,rd jO xs i.toNat,())).bind λ r2=>
   (if (o.length+[r2.2.1].length)*8<=70368744177664 then rec (o++[r2.2.1],wr (i+1),r2.1,()) else none) else none) else some (m,o,())):
  iter G fuel ([],0,l,())=some ((Zg l xs).2,(Zg l xs).1,()):=by
 refine MY (λ i (s:List Int×z8)=>(s.1,i,s.2,())) xs JC (λ s=>some (s.2,s.1,())) (by omega) (λ i s=>s.1.length=i/\s.2.1.length<=137438953472/\s.2.2.length<=137438953472) (G:=G) ?_ ?_ (s0:=([],l)) ⟨rfl,h1,h2⟩
 ·intro rec s hs; rw[hG]; simp
 ·intro rec i s x hx hi hs;obtain⟨k1,k2,k3⟩:=hs;obtain⟨p1,p2⟩:=mc s.2 x;refine⟨⟨by simp[JC,k1],by simp only[JC]; omega,by simp only[JC]; omega⟩,?_⟩
  rw[hG];simp only[zu hi,ahB,ahw,ahL,if_true,ahH,zq (e:=jO) hx,hf s.2 x k2 k3,ahu,zt (show i<4611686018427387904 by omega),ahz,ahA];rw[if_pos (by omega)];rfl
theorem A7 (l:z8) (xs:zw) (h1:l.1.length<=137438953472) (h2:l.2.length<=137438953472) (hxs:xs.length<=137438953472):NQ (l,xs,())=some ((Zg l xs).2,(Zg l xs).1,()):=by
 unfold NQ;rw[o7 l h1 h2,ahu];exact Ru (f:=L8) l xs h1 h2 hxs oN (λ rec o i m=>by dsimp only)
theorem mb:∀ (xs:zw) (s:List Int×z8),(xs.foldl JC s).2.1.length=s.2.1.length/\(xs.foldl JC s).2.2.length=s.2.2.length/\(xs.foldl JC s).1.length=s.1.length+xs.length
 | [],s=>by simp
 | x::xs,s=>by
  obtain⟨a,b,c⟩:=mb xs (JC s x);obtain⟨p1,p2⟩:=mc s.2 x;rw[aig];refine⟨a.trans p1,b.trans p2,c.trans ?_⟩;simp only[JC,ahD,ahz,ahA]; omega
noncomputable def state (c:za) (r:zb):z8:=bif zf c r then (Zg jU (jK r.2.2.2.1.2.2.2)).2 else ([],[])
theorem VL (c:za) (r:zb) (hw:ze r<=137438953472):aG (c,r,())=some (state c r,()):=by
 have hs:=pr hw;have hl:=BJ r.2.2.2.1.2.2.2;unfold aG state;simp only[Z0 c r hw,A3,Bd r.2.2.2.1.2.2.2 (by simp only[zC] at hs; omega),A7 jU _ (by decide) (by decide) (show (jK r.2.2.2.1.2.2.2).length<=137438953472 by omega),Option.bind_some]
 cases zf c r<;>rfl
theorem V6 (c:za) (r:zb):gA (state c r)<=8:=by
 unfold state;cases zf c r
 ·simp[gA,zn]
 ·obtain⟨a,b,_⟩:=mb (jK r.2.2.2.1.2.2.2) ([],jU);simp only[ahw,gA,zn,Zg,a,b];decide
noncomputable def jN (c:za) (r:zb):zb×jQ:=bif zf c r then ((r.1,r.2.1,r.2.2.1,r.2.2.2.1,r.2.2.2.2.1,r.2.2.2.2.2.1,qh r.2.2.2.2.2.2.1,[]),r.2.2.2.2.2.2.2) else (r,[])
theorem VM (c:za) (r:zb) (hw:ze r<=137438953472):aH (c,r,())=some ((jN c r).1,(jN c r).2,()):=by
 have h1:=pq hw;have h2:yr r.2.2.2.2.2.2.2<=137438953472:=by simp only[ze] at hw; omega
 unfold aH jN;simp only[Zm r hw,Z0 c r hw,VN r.2.2.2.2.2.2.1 (by omega),Bm _ h2,ahu];cases zf c r<;>rfl
theorem Wc (d:yP):(qh d).1.length=d.1.length:=by
 unfold qh; split<;>rfl
theorem Wa (c:za) (r:zb):ze (jN c r).1<=ze r/\yr (jN c r).2<=ze r:=by
 unfold jN;cases zf c r
 ·simp only[ahv]; exact⟨Nat.le_refl _,by simp[yr]⟩
 ·have:=Wc r.2.2.2.2.2.2.1;simp only[ahw,ze,JM,this];refine⟨?_,by omega⟩;have:yr []=0:=rfl;omega
abbrev Jl:Ty:=.pair .i64 (.pair .i64 (.pair .i64 (.pair (.pair .i64 (.pair .i64 (.pair (.pair .i64 (.pair .str (.sl 0 .i64))) .str))) (.pair (.sl 0 (.pair .i64 (.pair .i64 (.pair .i64 .i64)))) (.pair (.sl 0 (.pair .i64 (.pair .str (.sl 0 .i64)))) (.pair (.pair (.sl 0 .u8) .i64) (.sl 0 (.pair .i64 (.pair .i64 (.pair .i64 (.pair (.pair .str (.pair .i64 (.pair .str (.sl 0 .i64)))) (.pair (.pair .i64 (.pair .str (.sl 0 .i64))) (.pair (.pair .i64 (.pair .str (.sl 0 .i64))) (.pair .i64 (.pair .i64 (.pair .i64 (.pair .i64 .i64)))))))))))))))))
abbrev pC:Ty:=.pair .i64 (.sl 0 .u8)
abbrev Mw:Ty:=.pair .i64 (.pair .str .i64)
def jS {α:Type} (p:Nat->α->Bool):Nat->List α->Bool
 | _,[]=>true
 | i,x::l=>p i x && jS p (i+1) l
theorem kM {α:Type} (p:Nat->α->Bool) (l:List α) (K:Option (Bool×Unit)) {G:(Int×Unit->Option (Bool×Unit))->Int×Unit->Option (Bool×Unit)} (hl:l.length<=1152921504606846976)
  (Xh:∀ rec,G rec ((l.length:Int),())=K)
  (Xd:∀ rec (i:Nat) x,l[i]?=some x->i<l.length->G rec ((i:Int),())=bif p i x then rec ((i:Int)+1,()) else some (false,())):
  iter G fuel (0,())=bif jS p 0 l then K else some (false,()):=by
 refine (walk l.length (λ i (_:Unit)=>(i,())) (λ _ _=>True) (λ i _=>bif jS p i (l.drop i) then K else some (false,())) hl ?_ ?_ (s0:=()) trivial).trans (by simp only[ahV])
 ·intro rec s _; rw[Xh,ai7]; rfl
 ·intro rec i s hi _;rw[Xd rec i l[i] (List.getElem?_eq_getElem hi) hi,List.drop_eq_getElem_cons hi];simp only[jS];cases p i l[i]
  ·left; rfl
  ·right; exact⟨(),trivial,rfl,rfl⟩
theorem OE {S R:Type} (G:(S->Option R)->S->Option R) (x:S):∃ n,iter G fuel x=G (iter G n) x:=by
 obtain⟨n,hn⟩:∃ n,fuel=n+1:=⟨18446744073709551615,by rw[ja]⟩
 rw[hn];exact⟨n,rfl⟩
def Js (c:za):Int:=if zA c=true then (c.1 - 1) / 3 else 0
theorem Vn (c:za):eQ (c,())=some (Js c,()):=by
 unfold eQ Js;simp only[YM,ahu];by_cases h:zA c=true
 ·obtain⟨h1,h2⟩:=ym h;have e1:wr (c.1 - 1)=c.1 - 1:=zg (by omega) (by omega);have e2:Int.tdiv (c.1 - 1) 3=(c.1 - 1) / 3:=Int.tdiv_eq_ediv_of_nonneg (by omega);simp only[h,ahC,ahv,if_true,e1,e2];rw[zg (n:=(c.1 - 1) / 3) (by omega) (by omega)]
 ·have h':zA c=false:=by simpa using h
  simp[h']
theorem acn (c:za):kN (c,())=some (Js c,()):=by
 unfold kN Js;simp only[qM,ahu];by_cases h:zA c=true
 ·obtain⟨h1,h2⟩:=ym h;have e1:wr (c.1 - 1)=c.1 - 1:=zg (by omega) (by omega);have e2:Int.tdiv (c.1 - 1) 3=(c.1 - 1) / 3:=Int.tdiv_eq_ediv_of_nonneg (by omega);simp only[h,ahC,ahv,if_true,e1,e2];rw[zg (n:=(c.1 - 1) / 3) (by omega) (by omega)]
 ·have h':zA c=false:=by simpa using h
  simp[h']
noncomputable def QO (c:za) (i:Nat) (r:zb):Bool:=zf c r && r.1==(i:Int)
noncomputable def bm (c:za) (_:Nat) (x:bD):Bool:=(JA c x.2).2 && (decide (x.1≥0) && decide (x.1<=c.1 - 1))
def NA (c:za) (_:Nat) (s:Jq):Bool:=(decide (s.2.2≥0) && decide (s.2.2<=c.1 - 1)) && (zD s.2.1 && zm s.2.1==s.1)
noncomputable def qt (w:zy):Bool:=
 zA w.1 && (jJ w.1.1 w.2.1 && (decide ((w.2.1.length:Int)<=Js w.1) && (((w.2.2.1.length:Int)==w.1.1) && (decide ((w.2.2.2.1.length:Int)<=60) && (decide ((w.2.2.2.2.length:Int)<=300) &&
  (jS (QO w.1) 0 w.2.2.1 && (jS (bm w.1) 0 w.2.2.2.1 && jS (NA w.1) 0 w.2.2.2.2)))))))
def WB (N:Nat) (w:zy):Prop:=
 (w.2.1.length<=137438953472/\w.2.2.1.length<=137438953472/\w.2.2.2.1.length<=137438953472/\w.2.2.2.2.length<=137438953472)/\(∀ r∈w.2.2.1,ze r<=N)/\(∀ x∈w.2.2.2.1,x.2.length<=1073741824)/\(∀ s∈w.2.2.2.2,s.2.1.length<=N)
theorem WB.of {w:zy} {N:Nat} (h:Z5 w<=N) (hN:N<=1073741824):WB N w:=by
 simp only[Z5,zn,Mu,qs,Lp] at h;refine⟨⟨by omega,by omega,by omega,by omega⟩,λ r hr => ?_,λ x hx => ?_,λ s hs => ?_⟩
 ·have:=ZF ze hr; omega
 ·have:=ZF Mv hx; simp only[Mv,po] at this; omega
 ·have:=ZF qq hs; simp only[qq] at this; omega
theorem Qn (a b:Int):(a != b) = !(a==b):=rfl
theorem VV (w:zy) (hb:WB 137438953472 w):N4 (w,())=some (qt w,()):=by
 obtain⟨⟨l1,l2,l3,l4⟩,br,bx,bs⟩:=hb;unfold N4 qt;simp only[YM,ahu];cases hc:zA w.1
 ·rfl
 obtain⟨hc1,hc2⟩:=ym hc;have e1:wr (w.1.1 - 1)=w.1.1 - 1:=zg (by omega) (by omega);simp only[ahC,ahv,ahU,e1,oT _ _ l1,Vn,Yh,ahu,qI ((w.2.1.length:Nat):Int) _,qI ((w.2.2.2.1.length:Nat):Int) 60,qI ((w.2.2.2.2.length:Nat):Int) 300,Qn ((w.2.2.1.length:Nat):Int) w.1.1];cases jJ w.1.1 w.2.1
 ·rfl
 cases decide ((w.2.1.length:Int)<=Js w.1)
 ·rfl
 cases ((w.2.2.1.length:Int)==w.1.1)
 ·rfl
 cases decide ((w.2.2.2.1.length:Int)<=60)
 ·rfl
 cases decide ((w.2.2.2.2.length:Int)<=300)
 ·rfl
 simp only[ahC,ahv,ahU];refine (kM (QO w.1) w.2.2.1 (bif jS (bm w.1) 0 w.2.2.2.1 then (bif jS (NA w.1) 0 w.2.2.2.2 then some (true,()) else some (false,())) else some (false,())) (by omega) ?_ ?_).trans ?_
 ·intro rec;simp only[ai0,ahG,ahv];refine kM (bm w.1) w.2.2.2.1 (bif jS (NA w.1) 0 w.2.2.2.2 then some (true,()) else some (false,())) (by omega) ?_ ?_
  ·intro rec;simp only[ai0,ahG,ahv];refine kM (NA w.1) w.2.2.2.2 (some (true,())) (by omega) ?_ ?_
   ·intro rec; simp only[ai0,ahG,ahv]
   ·intro rec i s hx hi;have hs:=bs s (List.mem_of_getElem? hx);simp only[zu hi,ahB,ahw,ahL,if_true,ahH,zq (e:=Mw) hx,Kl s.2.1 hs,YP s.2.1 hs,ahu,zt (show i<4611686018427387904 by omega),NA,Qn];cases (decide (s.2.2≥0) && decide (s.2.2<=w.1.1 - 1))<;>cases zD s.2.1<;>cases (zm s.2.1==s.1)<;>rfl
  ·intro rec i x hx hi;have hs:=bx x (List.mem_of_getElem? hx);simp only[zu hi,ahB,ahw,ahL,if_true,ahH,zq (e:=pC) hx,A5 w.1 x.2 hs,ahu,zt (show i<4611686018427387904 by omega),bm];cases (JA w.1 x.2).2<;>cases (decide (x.1≥0) && decide (x.1<=w.1.1 - 1))<;>rfl
 ·intro rec i r hx hi;have hs:=br r (List.mem_of_getElem? hx);simp only[zu hi,ahB,ahw,ahL,if_true,ahH,zq (e:=Jl) hx,Z0 w.1 r hs,ahu,zt (show i<4611686018427387904 by omega),QO,Qn];cases zf w.1 r<;>cases (r.1==(i:Int))<;>rfl
 ·cases jS (QO w.1) 0 w.2.2.1<;>cases jS (bm w.1) 0 w.2.2.2.1<;>cases jS (NA w.1) 0 w.2.2.2.2<;>rfl
theorem ab4 (w:zy) (hb:WB 1073741824 w):aa8 (w,())=some (qt w,()):=by
 obtain⟨⟨l1,l2,l3,l4⟩,br,bx,bs⟩:=hb;unfold aa8 qt;simp only[qM,ahu];cases hc:zA w.1
 ·rfl
 obtain⟨hc1,hc2⟩:=ym hc;have e1:wr (w.1.1 - 1)=w.1.1 - 1:=zg (by omega) (by omega);simp only[ahC,ahv,ahU,e1,sE _ _ l1,acn,LK,ahu,qI ((w.2.1.length:Nat):Int) _,qI ((w.2.2.2.1.length:Nat):Int) 60,qI ((w.2.2.2.2.length:Nat):Int) 300,Qn ((w.2.2.1.length:Nat):Int) w.1.1];cases jJ w.1.1 w.2.1
 ·rfl
 cases decide ((w.2.1.length:Int)<=Js w.1)
 ·rfl
 cases ((w.2.2.1.length:Int)==w.1.1)
 ·rfl
 cases decide ((w.2.2.2.1.length:Int)<=60)
 ·rfl
 cases decide ((w.2.2.2.2.length:Int)<=300)
 ·rfl
 simp only[ahC,ahv,ahU];refine (kM (QO w.1) w.2.2.1 (bif jS (bm w.1) 0 w.2.2.2.1 then (bif jS (NA w.1) 0 w.2.2.2.2 then some (true,()) else some (false,())) else some (false,())) (by omega) ?_ ?_).trans ?_
 ·intro rec;simp only[ai0,ahG,ahv];refine kM (bm w.1) w.2.2.2.1 (bif jS (NA w.1) 0 w.2.2.2.2 then some (true,()) else some (false,())) (by omega) ?_ ?_
  ·intro rec;simp only[ai0,ahG,ahv];refine kM (NA w.1) w.2.2.2.2 (some (true,())) (by omega) ?_ ?_
   ·intro rec; simp only[ai0,ahG,ahv]
   ·intro rec i s hx hi;have hs:=bs s (List.mem_of_getElem? hx);simp only[zu hi,ahB,ahw,ahL,if_true,ahH,zq (e:=Mw) hx,qP s.2.1 hs,sH s.2.1 hs,ahu,zt (show i<4611686018427387904 by omega),NA,Qn];cases (decide (s.2.2≥0) && decide (s.2.2<=w.1.1 - 1))<;>cases zD s.2.1<;>cases (zm s.2.1==s.1)<;>rfl
  ·intro rec i x hx hi;have hs:=bx x (List.mem_of_getElem? hx);simp only[zu hi,ahB,ahw,ahL,if_true,ahH,zq (e:=pC) hx,acp w.1 x.2 hs,ahu,zt (show i<4611686018427387904 by omega),bm];cases (JA w.1 x.2).2<;>cases (decide (x.1≥0) && decide (x.1<=w.1.1 - 1))<;>rfl
 ·intro rec i r hx hi;have hs:=br r (List.mem_of_getElem? hx);simp only[zu hi,ahB,ahw,ahL,if_true,ahH,zq (e:=Jl) hx,Ob w.1 r hs,ahu,zt (show i<4611686018427387904 by omega),QO,Qn];cases zf w.1 r<;>cases (r.1==(i:Int))<;>rfl
 ·cases jS (QO w.1) 0 w.2.2.1<;>cases jS (bm w.1) 0 w.2.2.2.1<;>cases jS (NA w.1) 0 w.2.2.2.2<;>rfl
theorem WB.mono {w:zy} {N M:Nat} (h:WB N w) (hm:N<=M):WB M w:=⟨h.1,λ r hr=>Nat.le_trans (h.2.1 r hr) hm,h.2.2.1,λ s hs=>Nat.le_trans (h.2.2.2 s hs) hm⟩
noncomputable def J6 (c:za):Yo:=if zA c=true then (List.range c.1.toNat).map (λ (i:Nat)=>(JG c (i:Int)).1) else []
noncomputable def yW (c:za) (liars:y5):zy:=(c,liars,J6 c,[],[])
def WU:zy:=((0,0),[],[],[],[])
noncomputable def Kv (c:za) (liars:y5):zy×Bool:=bif qt (yW c liars) then (yW c liars,true) else (WU,false)
theorem P8 (c:za):(J6 c).length<=7:=by
 unfold J6;split
 ·next h=>have:=ym h; simp; omega
 ·simp
theorem P9 (c:za):∀ r∈J6 c,ze r=0:=by
 unfold J6;split
 ·intro r hr;obtain⟨i,_,rfl⟩:=List.mem_map.1 hr;exact RO c i
 ·simp
theorem Ra (c:za) (liars:y5) (h:liars.length<=137438953472):WB 1073741824 (yW c liars):=by
 have h1:=P8 c;refine⟨⟨h,by simp only[yW]; omega,by simp[yW],by simp[yW]⟩,λ r hr => ?_,λ x hx => ?_,λ s hs => ?_⟩
 ·have:=P9 c r hr; omega
 ·simp[yW] at hx
 ·simp[yW] at hs
theorem Rf {c:za} (h:zA c=true) {n:Nat} (hn:c.1=(n:Int)) (liars:y5):yW c liars=(c,liars,(List.range' 0 n).map (λ (i:Nat)=>(JG c (i:Int)).1),[],[]):=by
 unfold yW J6;rw[if_pos h,hn,ahH,List.range_eq_range']
theorem Bg (c:za) (liars:y5) (hl:liars.length<=137438953472):aM (c,liars,())=some ((Kv c liars).1,(Kv c liars).2,()):=by
 have WX:∀ w:zy,w=yW c liars->((N4 (w,())).bind λ r4=>(bif (!r4.1) then some (((0,0),([],([],([],[])))),(false,())) else some (w,(true,()))))=some ((Kv c liars).1,(Kv c liars).2,()):=by
  rintro w rfl;rw[VV _ ((Ra c liars hl).mono (by decide)),ahu];unfold Kv;cases qt (yW c liars)<;>rfl
 unfold aM;dsimp only;rw[if_pos (by omega)];simp only[YM,ahu,ahS];by_cases hc:zA c=true
 ·obtain⟨h1,h2⟩:=ym hc;obtain⟨n,hn⟩:∃ n:Nat,c.1=(n:Int):=⟨c.1.toNat,by omega⟩
  simp only[hc,ahw,hn];refine (walk n (λ i (o:Yo)=>(i,(c,liars,o,[],[]),())) (λ i o=>o=(List.range' 0 i).map (λ (i:Nat)=>(JG c (i:Int)).1)) (λ i o=>some ((Kv c liars).1,(Kv c liars).2,())) (by omega) ?_ ?_ (s0:=[]) rfl)
  ·rintro rec o rfl;simp only[ai0,ahG,ahv];exact WX _ (Rf hc hn liars).symm
  ·rintro rec i o hi rfl;right;refine⟨_,rfl,?_,rfl⟩;simp only[show ((i:Int)<(n:Int)) by omega,ahB,ahw,VD,ahu,zt (show i<4611686018427387904 by omega),ahz,ahA,aij,List.length_range'];rw[if_pos (by omega)];congr 3;rw[List.range'_concat]; simp
 ·have hc':zA c=false:=by simpa using hc
  have e:yW c liars=(c,liars,[],[],[]):=by unfold yW J6; rw[if_neg hc]
  refine (OE _ _).elim λ m hm=>hm.trans ?_;simp only[hc',ahv];rw[WX _ e.symm];cases decide ((0:Int)<c.1)<;>rfl
noncomputable def QR (s:zI):Int:=min (max (max s.1 (wr (s.2.2.1.1+1))) 1) 60
noncomputable def rise (c:za) (r:zb):zb:=
 bif zf c r then
  let n:=Jy c r.2.2.2.2.2.2.1.1
  (r.1,QR n.1,0,n.1,[],[],(r.2.2.2.2.2.2.1.1.take n.2.toNat,n.2),[])
 else r
theorem Pd (a b:Int):yd (a,b,())=some (min a b,()):=by
 rw[lC]; congr 2; split<;>omega
theorem VE (c:za) (r:zb) (hw:ze r<=1073741824):aA (c,r,())=some (rise c r,()):=by
 have h1:=pq hw;obtain⟨b1,b2,b3⟩:=tD c r.2.2.2.2.2.2.1.1;unfold aA rise;simp only[Z0 c r (by omega),Zm r (by omega),Vr c _ h1,Mm,Pd,ahu];cases zf c r
 ·rfl
 ·simp only[ahC,ahv,ahw];rw[if_pos (by omega),if_pos (by simp only[ahM,ahQ]; omega)]
  simp only[aiq,ahV,aiT,ahS,QR];congr 4;omega
def yc {α:Type} (q:α->Bool):Nat->List α->Nat
 | i,[]=>i
 | i,x::l=>bif q x then i else yc q (i+1) l
theorem LE {α:Type} (q:α->Bool):∀ (l:List α) (i:Nat),i<=yc q i l/\yc q i l<=i+l.length
 | [],i=>by simp[yc]
 | x::l,i=>by
  have:=LE q l (i+1);simp only[yc,ahz];cases q x<;>simp only[ahw,ahv]<;>omega
def Zi (p:zw) (x:zz) (k:Nat):zw×Bool:=bif yH (p.take k++x::p.drop k) then (p.take k++x::p.drop k,true) else (p,false)
def yX (p:zw) (x:zz):zw×Bool:=Zi p x (yc (λ y => !zP y x) 0 p)
theorem oO (p:zw) (x:zz) (hp:p.length<=137438953471):NR (p,x,())=some ((yX p x).1,(yX p x).2,()):=by
 unfold NR yX;dsimp only;have XG:∀ k:Nat,k<=p.length->(if (((0:Int)<=0)/\((0<=(k:Int))/\((k:Int)<=(p.length:Int)))) then (if (((0+(List.length (List.take ((Int.toNat (k:Int)) - (Int.toNat 0)) (List.drop (Int.toNat 0) p))))*32)<=70368744177664) then
   (if ((((List.length ([]++(List.take ((Int.toNat (k:Int)) - (Int.toNat 0)) (List.drop (Int.toNat 0) p))))+(List.length (x::[])))*32)<=70368744177664) then (if ((0<=(k:Int))/\(((k:Int)<=(p.length:Int))/\((p.length:Int)<=(p.length:Int)))) then
   (if ((((List.length (([]++(List.take ((Int.toNat (k:Int)) - (Int.toNat 0)) (List.drop (Int.toNat 0) p)))++(x::[])))+(List.length (List.take ((Int.toNat (p.length:Int)) - (Int.toNat (k:Int))) (List.drop (Int.toNat (k:Int)) p))))*32)<=70368744177664) then
   ((L9 (((([]++(List.take ((Int.toNat (k:Int)) - (Int.toNat 0)) (List.drop (Int.toNat 0) p)))++(x::[]))++(List.take ((Int.toNat (p.length:Int)) - (Int.toNat (k:Int))) (List.drop (Int.toNat (k:Int)) p))),())).bind λ r2=>(bif (!r2.1) then (if (((0+(List.length p))*32)<=70368744177664) then some (([]++p),(false,())) else none) else
   some (((([]++(List.take ((Int.toNat (k:Int)) - (Int.toNat 0)) (List.drop (Int.toNat 0) p)))++(x::[]))++(List.take ((Int.toNat (p.length:Int)) - (Int.toNat (k:Int))) (List.drop (Int.toNat (k:Int)) p))),(true,())))) else none) else none) else none) else none) else none)=some ((Zi p x k).1,(Zi p x k).2,()):=by
  intro k hk;simp only[ahH,aiq,aiT,ahV,ahS];have e:List.take (p.length - k) (p.drop k)=p.drop k:=List.take_of_length_le (by simp);rw[e];simp only[ahM,ahD,ahz,ahA,ahQ];rw[if_pos (by omega),if_pos (by omega),if_pos (by omega),if_pos (by omega),if_pos (by omega),if_pos (by omega)];rw[A8 _ (by simp only[ahD,ahM,ahz,ahA,ahQ]; omega),Option.bind_some]
  unfold Zi;rw[show p.take k++[x]++p.drop k=p.take k++x::p.drop k by simp];cases yH (p.take k++x::p.drop k)<;>rfl
 refine (walk p.length (λ i (_:Unit)=>(i,())) (λ _ _=>True) (λ i _=>some ((Zi p x (yc (λ y => !zP y x) i (p.drop i))).1,(Zi p x (yc (λ y => !zP y x) i (p.drop i))).2,())) (by omega) ?_ ?_ (s0:=()) trivial).trans (by simp only[ahV])
 ·intro rec s _;rw[ai7];simp only[ai0,ahG,ahv,yc];exact XG p.length (Nat.le_refl _)
 ·intro rec i s hi _;have hx:p[i]?=some p[i]:=List.getElem?_eq_getElem hi;rw[ahP hi];simp only[(zu hi).2,ahB,ahw];rw[if_pos (show (0:Int)<=(i:Int)/\True from⟨by omega,trivial⟩)];simp only[ahH,zq (e:=jO) hx,Bp,ahu,zt (show i<4611686018427387904 by omega),yc];cases hb:zP p[i] x
  ·left;have:=XG i (by omega);simp only[ahH] at this;simp only[ahv,ahY,ahw];exact this
  ·right;exact⟨(),trivial,by simp only[ahw],by simp only[ahC,ahv]⟩
noncomputable def jb (c:za) (r:zb) (x:zz):zb×Bool:=
 bif zf c r then ((r.1,r.2.1,r.2.2.1,r.2.2.2.1,(yX r.2.2.2.2.1 x).1,r.2.2.2.2.2),(yX r.2.2.2.2.1 x).2) else (r,false)
theorem wG {p:zw} {x:zz} (h:(yX p x).2=false):(yX p x).1=p:=by
 unfold yX Zi at *;generalize yc (λ y => !zP y x) 0 p=k at *;cases hk:yH (p.take k++x::p.drop k)
 ·rfl
 ·rw[hk] at h; cases h
theorem nl (p:zw) (x:zz):(yX p x).1.length<=p.length+1:=by
 have h1:=(LE (λ y => !zP y x) p 0).2;unfold yX Zi;generalize yc (λ y => !zP y x) 0 p=k at *;cases hk:yH (p.take k++x::p.drop k)
 ·simp
 ·simp only[ahw,ahD,ahM,ahz,ahQ]; omega
theorem gC {r:zb} {N:Nat} (h:ze r<=N):r.2.2.2.2.1.length<=N:=by simp only[ze,Yk] at h; omega
theorem A0 (c:za) (r:zb) (x:zz) (hw:ze r<=137438953471):am (c,r,x,())=some ((jb c r x).1,(jb c r x).2,()):=by
 have h1:=gC hw;unfold am jb;simp only[Zm r (by omega),Z0 c r (by omega),oO r.2.2.2.2.1 x h1,ahu];cases zf c r
 ·rfl
 ·cases hp:(yX r.2.2.2.2.1 x).2
  ·rw[wG hp]; rfl
  ·rfl
def jt (l:ya) (v:Int) (name:List UInt8):zH:=match l.find? (λ p=>p.1==v && p.2.1==name) with|some p=>p|none=>(v,name,[])
theorem oV (l:ya) (v:Int) (name:List UInt8) (hw:zF l<=137438953472):NZ (l,v,name,())=some (jt l v name,()):=by
 have hl:l.length<=137438953472:=by unfold zF at hw; omega
 unfold NZ jt;refine (walk l.length (λ i (z:zH)=>(i,z,())) (λ _ _=>True) (λ i _=>some ((match (l.drop i).find? (λ p=>p.1==v && p.2.1==name) with|some p=>p|none=>(v,name,[])),())) (by omega) ?_ ?_ (s0:=(0,[],[])) trivial).trans (by simp only[ahV])
 ·intro rec s _;rw[ai7];simp only[ai0,ahG,ahv,List.find?_nil]
 ·intro rec i s hi _;have hx:l[i]?=some l[i]:=List.getElem?_eq_getElem hi;have hy:=Mt hw hx;rw[ahP hi];simp only[zu hi,decide_true,cond_true,and_self,if_true,Int.toNat_natCast,zq (e:=Jk) hx,Mg l[i] hy,Option.bind_some,zt (show i<4611686018427387904 by omega),List.find?_cons];by_cases h1:l[i].1=v
  ·have e1:(l[i].1==v)=true:=beq_iff_eq.2 h1;by_cases h2:l[i].2.1=name
   ·have e2:(l[i].2.1==name)=true:=beq_iff_eq.2 h2;left; simp only[e1,e2,ahw,air]
   ·have e2:(l[i].2.1==name)=false:=beq_eq_false_iff_ne.2 h2;right; exact⟨s,trivial,by simp only[e1,e2,ahw,ahv],by simp only[e1,e2,aiP]⟩
  ·have e1:(l[i].1==v)=false:=beq_eq_false_iff_ne.2 h1;right; exact⟨s,trivial,by simp only[e1,ahv],by simp only[e1,ail]⟩
noncomputable def Lm:zw->zw->z8->zw
 | [],out,_=>out
 | x::xs,out,l=>if out.length=2 then out else if (pay l x).2=0∨(pay l x).2=4 then Lm xs (out++[x]) (pay l x).1 else Lm xs out l
noncomputable def Nm (p:zw) (l:z8):zw:=Lm p [] l
theorem gv:∀ (xs out:zw) (l:z8),out.length<=2->(Lm xs out l).length<=2
 | [],out,l,h=>h
 | x::xs,out,l,h=>by
  simp only[Lm];split
  ·exact h
  ·split
   ·exact gv xs _ _ (by simp; omega)
   ·exact gv xs _ _ h
theorem VB (p:zw) (l:z8) (hp:p.length<=137438953472) (h1:l.1.length<=137438953472) (h2:l.2.length<=137438953472):az (p,l,())=some (Nm p l,()):=by
 unfold az Nm;dsimp only;rw[o7 l h1 h2,ahu];refine (walk p.length (λ i (s:zw×z8)=>(s.1,i,s.2,())) (λ _ s=>s.1.length<=2/\s.2.1.length<=137438953472/\s.2.2.length<=137438953472) (λ i s=>some (Lm (p.drop i) s.1 s.2,())) (by omega) ?_ ?_ (s0:=([],l)) ⟨by simp,h1,h2⟩).trans (by simp only[ahV])
 ·intro rec s _;rw[ai7];simp only[ai0,ahG,ahv,Lm]
 ·intro rec i s hi hs;obtain⟨k1,k2,k3⟩:=hs;obtain⟨p1,p2⟩:=mc s.2 p[i];have hx:p[i]?=some p[i]:=List.getElem?_eq_getElem hi;rw[ahP hi];simp only[zu hi,decide_true,cond_true,and_self,if_true,Int.toNat_natCast,zq (e:=jO) hx,oN s.2 p[i] k2 k3,Option.bind_some,zt (show i<4611686018427387904 by omega),Lm,List.length_cons,List.length_nil];by_cases hf:s.1.length=2
  ·left;have:decide ((s.1.length:Int)<2)=false:=by simp; omega
   rw[if_pos hf];simp only[this,ahv]
  ·have:decide ((s.1.length:Int)<2)=true:=by simp; omega
   simp only[this,ahw,hf,if_false];rw[if_pos (by omega)];by_cases c0:(pay s.2 p[i]).2=0
   ·right;refine⟨(s.1++[p[i]],(pay s.2 p[i]).1),⟨by simp; omega,by simp only; omega,by simp only; omega⟩,?_,?_⟩
    ·simp only[c0,beq_self_eq_true,ahw]
    ·rw[if_pos (.inl c0)]
   ·have e0:((pay s.2 p[i]).2==0)=false:=beq_eq_false_iff_ne.2 c0;by_cases c4:(pay s.2 p[i]).2=4
    ·right;refine⟨(s.1++[p[i]],(pay s.2 p[i]).1),⟨by simp; omega,by simp only; omega,by simp only; omega⟩,?_,?_⟩
     ·simp only[c4,beq_self_eq_true,ahw,show ((4:Int)==0)=false from rfl,ahv]
     ·rw[if_pos (.inr c4)]
    ·have e4:((pay s.2 p[i]).2==4)=false:=beq_eq_false_iff_ne.2 c4;right;refine⟨s,⟨k1,k2,k3⟩,?_,?_⟩
     ·simp only[e0,e4,ahv]
     ·rw[if_neg (by rintro (h|h); exact c0 h; exact c4 h)]
def Mr (l:zw):List UInt8:=(l.map λ x=>44::yJ x).flatten
def ql:zw->List UInt8
 | []=>[]
 | x::r=>yJ x++Mr r
def qm (l:zw):List UInt8:=bif l.all zN then ql l else []
def Mn (i:Nat) (l:zw):List UInt8:=if i=0 then ql l else Mr l
theorem BK:∀ l:zw,(Mr l).length<=28*l.length
 | []=>by simp[Mr]
 | x::l=>by
  have h1:=gx x;have h2:=BK l;simp only[Mr,ahN,aiM,ahD,ahz] at *;omega
theorem BL (l:zw):(qm l).length<=28*l.length:=by
 unfold qm;cases l.all zN
 ·simp
 ·cases l with
  | nil=>simp[ql]
  | cons x r=>
   have h1:=gx x;have h2:=BK r;simp only[ahw,ql,ahD,ahz];omega
theorem VS (l:zw) (hl:l.length<=1000000):fC (l,())=some (qm l,()):=by
 unfold fC qm;refine (walk l.length (λ i (o:List UInt8)=>(o,i,())) (λ i o=>o.length<=28*i) (λ i o=>some ((bif (l.drop i).all zN then o++Mn i (l.drop i) else []),())) (by omega) ?_ ?_ (s0:=[]) (by simp)).trans (by simp[Mn])
 ·intro rec o _;rw[ai7];simp only[ai0,ahG,ahv,List.all_nil,ahw,Mn];split<;>simp[ql,Mr]
 ·intro rec i o hi ho;have hx:l[i]?=some l[i]:=List.getElem?_eq_getElem hi;have htl:=gx l[i];rw[ahP hi];simp only[zu hi,ahB,ahw,ahL,if_true,ahH,zq (e:=jO) hx,Mf,Bc,ahu,zt (show i<4611686018427387904 by omega),ai3,ahD,ahz,ahA];cases hk:zN l[i]
  ·left; simp only[ahY,ahw,ail,ahv]
  ·right;by_cases h0:i=0
   ·subst h0;refine⟨o++yJ l[0],by rw[ahD]; omega,?_,?_⟩
    ·simp only[ahC,ahv,show ¬ (((0:Nat):Int)>0) by omega,ahG];rw[if_pos (by omega)]
    ·simp[Mn,ql]
   ·refine⟨o++[44]++yJ l[i],by simp only[ahD,ahz,ahA]; omega,?_,?_⟩
    ·simp only[ahC,ahv,show ((i:Int)>0) by omega,ahB,ahw];rw[if_pos (by omega),if_pos (by omega)]
    ·have e:o++Mn i (l[i]::List.drop (i+1) l)=(o++[44]++yJ l[i])++Mn (i+1) (List.drop (i+1) l):=by
      unfold Mn;rw[if_neg h0,if_neg (by omega)];simp only[Mr,ahN,aiM,aih,ais,ahS]
     rw[e];simp only[ahU]
def Y2 (up:List UInt8) (view:Int) (list:zw):List UInt8:=(((up++[47])++Lib.decDigits view.toNat)++[124])++qm list
def jW (up:List UInt8) (view:Int) (list:zw):List UInt8:=bif list.all zN && zD (Y2 up view list) then Y2 up view list else []
theorem tS (up:List UInt8) (view:Int) (list:zw) (h:view<1000000):(Y2 up view list).length<=up.length+8+28*list.length:=by
 have h1:=BL list;have h2:=dl view.toNat (by omega);unfold Y2;simp only[ahD,ahz,ahA];omega
theorem Rl (l:zw) (K:Option (List UInt8×Unit)) {G:(Int×Unit->Option (List UInt8×Unit))->Int×Unit->Option (List UInt8×Unit)} (hl:l.length<=1152921504606846976)
  (Xh:∀ rec,G rec ((l.length:Int),())=K)
  (Xd:∀ rec (i:Nat) x,l[i]?=some x->i<l.length->G rec ((i:Int),())=bif zN x then rec ((i:Int)+1,()) else some ([],())):
  iter G fuel (0,())=bif l.all zN then K else some ([],()):=by
 refine (walk l.length (λ i (_:Unit)=>(i,())) (λ _ _=>True) (λ i _=>bif (l.drop i).all zN then K else some ([],())) hl ?_ ?_ (s0:=()) trivial).trans (by simp only[ahV])
 ·intro rec s _; rw[Xh,ai7]; rfl
 ·intro rec i s hi _;rw[Xd rec i l[i] (List.getElem?_eq_getElem hi) hi,List.drop_eq_getElem_cons hi];simp only[ai3];cases zN l[i]
  ·left; rfl
  ·right; exact⟨(),trivial,rfl,rfl⟩
theorem aw (up:List UInt8) (view:Int) (list:zw) (hu:up.length<=1073741824) (hv:0<=view/\view<1000000) (hl:list.length<=1000000):Ld (up,view,list,())=some (jW up view list,()):=by
 have h1:=BL list;have h2:=dl view.toNat (by omega);have d:=L6 view.toNat (by omega);rw[aje hv.1] at d;have hn:=tS up view list hv.2;unfold Ld jW;refine (Rl list (bif zD (Y2 up view list) then some (Y2 up view list,()) else some ([],())) (by omega) ?_ ?_).trans ?_
 ·intro rec;simp only[ai0,ahG,ahv,d,VS list hl,ahu,ahD,ahz,ahA];rw[if_pos (by omega),if_pos (by omega),if_pos (by omega),if_pos (by omega)];have e:(((up++[47])++Lib.decDigits view.toNat)++[124])++qm list=Y2 up view list:=rfl;rw[e,Kl _ (by omega),ahu];cases zD (Y2 up view list)<;>rfl
 ·intro rec i x hx hi;simp only[zu hi,ahB,ahw,ahL,if_true,ahH,zq (e:=jO) hx,Mf,ahu,zt (show i<4611686018427387904 by omega)];cases zN x<;>rfl
 ·cases list.all zN<;>cases zD (Y2 up view list)<;>rfl
theorem lV (up:List UInt8) (view:Int) (list:zw) (h:view<1000000):(jW up view list).length<=up.length+8+28*list.length:=by
 have:=tS up view list h;unfold jW;cases (list.all zN && zD (Y2 up view list))
 ·simp
 ·exact this
def bn:y0:=([],0,[],[])
def KE (c:za) (q:zJ) (view:Int) (list:zw):y0×Bool:=
 bif jE c (jW q.2.1 view list,q) && zm (jW q.2.1 view list)==view then ((jW q.2.1 view list,q),true) else (bn,false)
theorem oL (c:za) (q:zJ) (view:Int) (list:zw) (hq:zi q<=500000000) (hv:0<=view/\view<1000000) (hl:list.length<=2):yb (c,q,view,list,())=some ((KE c q view list).1,(KE c q view list).2,()):=by
 have hu:q.2.1.length<=500000000:=by simp only[zi] at hq; omega
 have hn:=lV q.2.1 view list hv.2;unfold yb KE;simp only[aw q.2.1 view list (by omega) hv (by omega),Ml q (by omega),eI c (jW q.2.1 view list,q) (by simp only[zB]; omega),YP (jW q.2.1 view list) (by omega),Option.bind_some,Qn]
 cases jE c (jW q.2.1 view list,q)<;>cases (zm (jW q.2.1 view list)==view)<;>rfl
theorem ra (c:za) (q:zJ) (view:Int) (list:zw) (h:view<1000000):zB (KE c q view list).1<=2*zi q+8+28*list.length:=by
 have hn:=lV q.2.1 view list h;unfold KE;cases (jE c (jW q.2.1 view list,q) && zm (jW q.2.1 view list)==view)
 ·simp[bn,zB,zi,zn]
 ·simp only[ahw,zB];have:q.2.1.length<=zi q:=by simp only[zi]; omega
  omega
noncomputable def g9 (c:za) (r:zb):y0×Bool:=KE c r.2.2.2.1.2.2.1 r.2.1 (Nm r.2.2.2.2.1 (Zg jU (jK r.2.2.2.1.2.2.1.2.1)).2)
noncomputable def ask (c:za) (r:zb):y0×Bool:=
 bif zf c r && (yY c r.2.1==r.1 && (!decide (r.2.2.1≥r.2.1) && (r.2.2.2.1.2.2.1.1==wr (r.2.1 - 1) || decide (((jt r.2.2.2.2.2.1 r.2.1 []).2.2.length:Int)≥Y7 c)))) then g9 c r else (bn,false)
theorem Nq {c:za} {r:zb} (h:zf c r=true):1<=r.2.1/\r.2.1<=60:=by
 unfold zf at h;simp only[ahx,ahI] at h;exact h.2.2.1
theorem PQ (a b:Int):decide (a<b) = !decide (a≥b):=by
 by_cases h:a<b
 ·have:¬ a≥b:=by omega
  simp[h,this]
 ·have:a≥b:=by omega
  simp[h,this]
theorem AY (c:za) (r:zb) (hw:ze r<=500000000):Ki (c,r,())=some ((ask c r).1,(ask c r).2,()):=by
 have hs:=pr hw;have hq:zi r.2.2.2.1.2.2.1<=500000000:=by simp only[zC] at hs; omega
 have hu:r.2.2.2.1.2.2.1.2.1.length<=500000000:=by simp only[zi] at hq; omega
 have ht:zF r.2.2.2.2.2.1<=500000000:=by simp only[ze] at hw; omega
 have hp:=gC hw;have hx:=BJ r.2.2.2.1.2.2.1.2.1;obtain⟨l1,l2,_⟩:=mb (jK r.2.2.2.1.2.2.1.2.1) ([],jU);have m1:(Zg jU (jK r.2.2.2.1.2.2.1.2.1)).2.1.length=4:=l1;have m2:(Zg jU (jK r.2.2.2.1.2.2.1.2.1)).2.2.length=4:=l2;have hk:=gv r.2.2.2.2.1 [] (Zg jU (jK r.2.2.2.1.2.2.1.2.1)).2 (by simp);unfold Ki ask g9;dsimp only;rw[Z0 c r (by omega),ahu];cases hr:zf c r
 ·rfl
 ·have hv:=Nq hr;simp only[ahC,ahv,Mb,oV _ _ _ (show zF r.2.2.2.2.2.1<=137438953472 by omega),oS,A3,Bd r.2.2.2.1.2.2.1.2.1 (by omega),A7 jU _ (by decide) (by decide) (show (jK r.2.2.2.1.2.2.1.2.1).length<=137438953472 by omega),
   VB r.2.2.2.2.1 _ (by omega) (show (Zg jU (jK r.2.2.2.1.2.2.1.2.1)).2.1.length<=137438953472 by omega) (show (Zg jU (jK r.2.2.2.1.2.2.1.2.1)).2.2.length<=137438953472 by omega),
   oL c r.2.2.2.1.2.2.1 r.2.1 (Nm r.2.2.2.2.1 (Zg jU (jK r.2.2.2.1.2.2.1.2.1)).2) hq (by omega) hk,ahu,Qn,PQ,ahU]
  cases (yY c r.2.1==r.1)
  ·rfl
  cases decide (r.2.2.1≥r.2.1)
  ·cases (r.2.2.2.1.2.2.1.1==wr (r.2.1 - 1))
   ·cases decide (((jt r.2.2.2.2.2.1 r.2.1 []).2.2.length:Int)≥Y7 c)<;>rfl
   ·rfl
  ·rfl
theorem Gh (c:za) (r:zb):zB (ask c r).1<=2*ze r+100:=by
 have hz:zB bn=0:=rfl;unfold ask;cases hr:zf c r
 ·simp only[ail,ahv,hz]; omega
 ·have hv:=Nq hr;have hk:=gv r.2.2.2.2.1 [] (Zg jU (jK r.2.2.2.1.2.2.1.2.1)).2 (by simp);have hb:=ra c r.2.2.2.1.2.2.1 r.2.1 (Nm r.2.2.2.2.1 (Zg jU (jK r.2.2.2.1.2.2.1.2.1)).2) (by omega);have hq:zi r.2.2.2.1.2.2.1<=ze r:=by simp only[ze,zC]; omega
  have hk2:(Nm r.2.2.2.2.1 (Zg jU (jK r.2.2.2.1.2.2.1.2.1)).2).length<=2:=hk;simp only[ahU];generalize (yY c r.2.1==r.1 && (!decide (r.2.2.1≥r.2.1) && (r.2.2.2.1.2.2.1.1==wr (r.2.1 - 1) || decide (((jt r.2.2.2.2.2.1 r.2.1 []).2.2.length:Int)≥Y7 c))))=b;cases b
  ·simp only[ahv,hz]; omega
  ·simp only[ahw,g9]; omega
def qJ (r:zb) (to:Int) (m:zp):zb:=(r.1,r.2.1,r.2.2.1,r.2.2.2.1,r.2.2.2.2.1,r.2.2.2.2.2.1,r.2.2.2.2.2.2.1,r.2.2.2.2.2.2.2++[(to,m)])
noncomputable def Zo (c:za) (r:zb) (to:Int) (m:zp):zb×Bool:=
 bif !decide ((r.2.2.2.2.2.2.2.length:Int)≥30) && ZN c r.1 (to,m) then (qJ r to m,true) else (r,false)
noncomputable def tell (c:za) (r:zb) (to:Int) (m:zp):zb×Bool:=bif zf c r then Zo c r to m else (r,false)
theorem fQ (c:za) (r:zb) (to:Int) (m:zp) (hc:zA c=true) (hr:ze r<=137438953471) (hm:zh m<=137438953471):Ks (c,r,to,m,())=some ((Zo c r to m).1,(Zo c r to m).2,()):=by
 obtain⟨hc1,hc2⟩:=ym hc;have hl:r.2.2.2.2.2.2.2.length<=137438953471:=by simp only[ze,yr] at hr; omega
 have e1:wr (c.1 - 1)=c.1 - 1:=zg (by omega) (by omega);unfold Ks Zo ZN;simp only[NO c m (by omega),Yh,Bl m (by omega),e1,ahu,ahz,ahA];rw[if_pos (by omega)];cases decide ((r.2.2.2.2.2.2.2.length:Int)≥30)<;>cases yG c m<;>cases (decide (to≥0) && decide (to<=c.1 - 1))<;>cases (to==r.1)<;>rfl
theorem QP {c:za} {r:zb} (h:zf c r=true):zA c=true:=by
 unfold zf at h;rw[ahx] at h;exact h.1
theorem IY (c:za) (r:zb) (to:Int) (m:zp):zf c (qJ r to m)=(zf c r && (!decide ((r.2.2.2.2.2.2.2.length:Int)≥30) && ZN c r.1 (to,m))):=by
 unfold zf qJ;simp only[List.all_append,ai3,List.all_nil,Bool.and_true,ahD,ahz,ahA];by_cases h:(r.2.2.2.2.2.2.2.length:Int)≥30
 ·have e1:decide (((r.2.2.2.2.2.2.2.length+(0+1):Nat):Int)<=30)=false:=by simp; omega
  rw[e1];simp[h]
 ·have e1:decide (((r.2.2.2.2.2.2.2.length+(0+1):Nat):Int)<=30)=true:=by simp; omega
  have e2:decide ((r.2.2.2.2.2.2.2.length:Int)<=30)=true:=by simp; omega
  have e3:decide ((r.2.2.2.2.2.2.2.length:Int)≥30)=false:=by simp; omega
  rw[e1,e2,e3];simp only[ahU,ahY,Bool.and_assoc]
theorem IZ (r:zb) (to:Int) (m:zp):ze (qJ r to m)=ze r+(1+zh m):=by
 simp only[qJ,ze,yr,Z4,ahD,ajb,List.sum_append,ahz,ahA,ahN,aic,aib,List.sum_nil];omega
theorem Wi (c:za) (r:zb) (to:Int) (m:zp):ze (tell c r to m).1<=ze r+(1+zh m):=by
 have hw:=IZ r to m;unfold tell Zo;cases zf c r
 ·simp only[ahv]; omega
 ·cases (!decide ((r.2.2.2.2.2.2.2.length:Int)≥30) && ZN c r.1 (to,m))
  ·simp only[ahw,ahv]; omega
  ·simp only[ahw]; omega
theorem pc {c:za} {r:zb} {to:Int} {m:zp} (h:(tell c r to m).2=true):zf c (tell c r to m).1=true/\(tell c r to m).1.1=r.1:=by
 have hk:=IY c r to m;unfold tell Zo at h ⊢;cases hr:zf c r
 ·rw[hr] at h; cases h
 ·rw[hr] at h hk;cases hb:(!decide ((r.2.2.2.2.2.2.2.length:Int)≥30) && ZN c r.1 (to,m))
  ·rw[hb] at h; cases h
  ·rw[hb] at hk;simp only[ahw];exact⟨hk,rfl⟩
theorem BC {c:za} {r:zb} (to:Int) (m:zp) (h:zf c r=true):Zo c r to m=tell c r to m:=by
 unfold tell; rw[h]; rfl
noncomputable def Jh (c:za) (r:zb) (m:zp):Nat->Nat->zb->zb×Bool
 | 0,_,out=>(out,true)
 | n+1,i,out=>bif ((i:Int)==r.1) then Jh c r m n (i+1) out else bif (tell c out i m).2 then Jh c r m n (i+1) (tell c out i m).1 else (r,false)
noncomputable def Ln (c:za) (r:zb) (m:zp):zb×Bool:=bif zf c r then Jh c r m c.1.toNat 0 r else (r,false)
theorem Wh (c:za) (r:zb) (m:zp) (z:zb) (hc:4<=c.1/\c.1<=7) (WX:zf c r=true) {G:(Int×zb×zb×Unit->Option (zb×Bool×Unit))->Int×zb×zb×Unit->Option (zb×Bool×Unit)}
  (hG:∀ rec (i:Nat) (out:zb),i<7->zf c out=true->ze out<=ze r+i*(1+zh m)->G rec ((i:Int),z,out,())=bif decide ((i:Int)<c.1) then (bif ((i:Int)==r.1) then rec ((i:Int)+1,z,out,()) else
   bif (tell c out i m).2 then rec ((i:Int)+1,z,(tell c out i m).1,()) else some (r,false,())) else some (out,true,()))
  (hE:∀ rec (out:zb),G rec (c.1,z,out,())=some (out,true,())):
  iter G fuel (0,z,r,())=some ((Jh c r m c.1.toNat 0 r).1,(Jh c r m c.1.toNat 0 r).2,()):=by
 obtain⟨n,hn⟩:∃ n:Nat,c.1=(n:Int):=⟨c.1.toNat,by omega⟩
 refine (walk n (λ i (out:zb)=>(i,z,out,())) (λ i out=>zf c out=true/\ze out<=ze r+i*(1+zh m)) (λ i out=>some ((Jh c r m (n - i) i out).1,(Jh c r m (n - i) i out).2,())) (by omega) ?_ ?_ (s0:=r) ⟨WX,by omega⟩).trans (by rw[hn]; simp)
 ·intro rec out ho;rw[←hn,hE]; simp[Jh]
 ·intro rec i out hi ho;rw[hG rec i out (by omega) ho.1 ho.2,show n - i=(n - (i+1))+1 by omega];simp only[show ((i:Int)<c.1) by omega,ahB,ahw,Jh];cases he:((i:Int)==r.1)
  ·cases ht:(tell c out i m).2
   ·left; rfl
   ·right;have:=Wi c out i m;refine⟨(tell c out i m).1,⟨(pc ht).1,?_⟩,rfl,rfl⟩;rw[aid]; omega
  ·right;exact⟨out,⟨ho.1,by rw[aid]; omega⟩,rfl,rfl⟩
theorem seven {i N:Nat} (h:i<7):i*N<=7*N:=Nat.mul_le_mul (by omega) (Nat.le_refl _)
theorem VP (c:za) (r:zb) (m:zp) (hr:ze r<=100000000) (hm:zh m<=10000000):aJ (c,r,m,())=some ((Ln c r m).1,(Ln c r m).2,()):=by
 unfold aJ Ln;dsimp only;rw[Zm r (by omega),ahu,Z0 c r (by omega),ahu];cases WX:zf c r
 ·rfl
 ·obtain⟨h1,h2⟩:=ym (QP WX);simp only[ahC,ahv,ahw];refine Wh c r m _ ⟨h1,h2⟩ WX ?_ ?_
  ·intro rec i out hi ho hwo;have:=seven (N:=1+zh m) hi;simp only[fQ c out i m (QP WX) (by omega) (by omega),BC _ _ ho,Zm r (by omega),ahu,zt (show i<4611686018427387904 by omega)];cases decide ((i:Int)<c.1)<;>cases ((i:Int)==r.1)<;>cases (tell c out i m).2<;>rfl
  ·intro rec out;simp only[ai0,ahG,ahv]
noncomputable def Jb (c:za) (s:zI):List UInt8:=bif yj c s then ((jx s.1++jx s.2.1)++LW c s.2.2.1)++K0 s.2.2.2 else []
theorem Ap (c:za) (s:zI):(Jb c s).length<=30+5*zC s:=by
 unfold Jb;have h1:=jy s.1;have h2:=jy s.2.1;have h3:=No c s.2.2.1;have h4:=K1 s.2.2.2;cases yj c s
 ·simp
 ·simp only[ahw,ahD,zC]; omega
theorem VF (c:za) (s:zI) (hw:zC s<=10000000000):fh (c,s,())=some (Jb c s,()):=by
 have h1:=jy s.1;have h2:=jy s.2.1;have h3:=No c s.2.2.1;have h4:=K1 s.2.2.2;have hq:zi s.2.2.1<=10000000000:=by simp only[zC] at hw; omega
 have hn:s.2.2.2.length<=10000000000:=by simp only[zC] at hw; omega
 unfold fh Jb;simp only[NV c s (by omega),Kn,oQ c s.2.2.1 (by omega),e8 s.2.2.2 (by omega),ahu,ahD];rw[if_pos (by omega),if_pos (by omega),if_pos (by omega)];cases yj c s<;>rfl
noncomputable def Zw (c:za) (s:zI):List UInt8:=bif (((Jb c s).length:Int)==0) then [] else (jx ((Jb c s).length:Int)++Jb c s)++[UInt8.ofNat (Int.toNat 10)]
theorem tW (c:za) (s:zI):(Zw c s).length<=40+5*zC s:=by
 unfold Zw;have h1:=Ap c s;have h2:=jy ((Jb c s).length:Int);cases (((Jb c s).length:Int)==0)
 ·simp only[ahv,ahD,ahz,ahA]; omega
 ·simp
theorem Vx (c:za) (s:zI) (hw:zC s<=10000000000):eY (c,s,())=some (Zw c s,()):=by
 have h1:=Ap c s;have h2:=jy ((Jb c s).length:Int);unfold eY Zw;simp only[VF c s hw,Kn,ahu,ahD,ahz,ahA];rw[if_pos (by omega),if_pos (by omega)];cases (((Jb c s).length:Int)==0)<;>rfl
def gE (r:zb) (s:zI) (d:yP):zb:=(r.1,r.2.1,r.2.2.1,s,r.2.2.2.2.1,r.2.2.2.2.2.1,d,r.2.2.2.2.2.2.2)
noncomputable def zx (c:za) (r:zb) (s:zI):zb×Bool:=
 bif Kg r.2.2.2.1 s then (r,true) else bif (Zr r.2.2.2.2.2.2.1 (Zw c s)).2 && yj c s then (gE r s (Zr r.2.2.2.2.2.2.1 (Zw c s)).1,true) else (r,false)
theorem WR {c:za} {r:zb} {s:zI} (h:(zx c r s).2=false):(zx c r s).1=r:=by
 unfold zx at *;cases h1:Kg r.2.2.2.1 s
 ·rw[h1] at h;cases h2:((Zr r.2.2.2.2.2.2.1 (Zw c s)).2 && yj c s)
  ·rfl
  ·rw[h2] at h; cases h
 ·rw[h1] at h; cases h
theorem aV (c:za) (r:zb) (s:zI) (hr:ze r<=10000000000) (hs:zC s<=10000000000):Yi (c,r,s,())=some ((zx c r s).1,(zx c r s).2,()):=by
 have h1:=pq hr;have h2:=tW c s;have h3:=pr hr;unfold Yi zx;simp only[A9 r.2.2.2.1 s (by omega),Vx c s hs,Vh r.2.2.2.2.2.2.1 (Zw c s) (by omega) (by omega),NV c s (by omega),fG s (by omega),ahu];cases Kg r.2.2.2.1 s<;>cases (Zr r.2.2.2.2.2.2.1 (Zw c s)).2<;>cases yj c s<;>rfl
theorem Gc {d:yP} {b:List UInt8} (h:(Zr d b).2=true):yx (Zr d b).1=true:=by
 unfold Zr at *;split at h
 ·next hc=>
  rw[if_pos hc];have:=KJ.1 hc.1;refine KJ.2 ⟨?_,this.2.1,?_⟩
  ·simp only[ahD]; omega
  ·simp only[ahD]; omega
 ·cases h
theorem WL {c:za} {r:zb} {s:zI} {d:yP} (hr:zf c r=true) (hd:yx d=true):zf c (gE r s d)=yj c s:=by
 obtain⟨a,v,k,sf,pool,tab,dk,held⟩:=r;show zf c (a,v,k,s,pool,tab,d,held)=_;unfold zf at hr ⊢;simp only[ahx] at hr;obtain⟨a1,a2,a3,a4,a5,a6,a7,a8,a9,a10⟩:=hr;simp only at a1 a2 a3 a4 a5 a6 a7 a8 a9 a10 ⊢;rw[a1,a2.1,a2.2,a3.1,a3.2,a4.1,a4.2,a6,a7,hd,a9,a10];simp
theorem WM (r:zb) (s:zI) (d:yP):ze (gE r s d)<=ze r+zC s+d.1.length:=by
 simp only[gE,ze,JM]; omega
end G448
namespace G448
open Ev
set_option maxRecDepth 100000
noncomputable def NC (c:za) (ws:jn) (p:JR):jn:=
 bif decide (((J4 c p.2).length:Int)>0) then (bif (decide (p.1≥0) && decide (p.1<=wr (c.1 - 1))) then (bif decide ((ws.length:Int)<60) then ws++[(p.1,J4 c p.2)] else ws) else ws) else ws
noncomputable def aa (c:za) (ws:jn) (ps:jQ):jn:=ps.foldl (NC c) ws
noncomputable def send (w:zy) (ps:jQ):zy:=bif qt w then (w.1,w.2.1,w.2.2.1,aa w.1 w.2.2.2.1 ps,w.2.2.2.2) else w
theorem ad1 (c:za) (ws:jn) (p:JR):qs (NC c ws p)<=qs ws+61+5*Z4 p:=by
 have h:=PW c p.2;unfold NC;cases decide (((J4 c p.2).length:Int)>0)
 ·simp only[ahv]; omega
 ·cases (decide (p.1≥0) && decide (p.1<=wr (c.1 - 1)))
  ·simp only[ahv,ahw]; omega
  ·cases decide ((ws.length:Int)<60)
   ·simp only[ahv,ahw]; omega
   ·simp only[ahw,qs,Mv,po,Z4,ahD,ajb,List.sum_append,ahN,aic,aib,List.sum_nil,ahz,ahA] at *;omega
theorem abD (c:za):∀ (ps:jQ) (ws:jn),qs (aa c ws ps)<=qs ws+61*yr ps
 | [],ws=>by simp[aa]
 | p::ps,ws=>by
  have h1:=ad1 c ws p;have h2:=abD c ps (NC c ws p);have e:aa c ws (p::ps)=aa c (NC c ws p) ps:=rfl;rw[e];simp only[yr,ahz,ahN,aib] at *;omega
theorem ad3 (w:zy) (ps:jQ):Z5 (send w ps)<=Z5 w+61*yr ps:=by
 have h:=abD w.1 ps w.2.2.2.1;unfold send;cases qt w
 ·simp only[ahv]; omega
 ·simp only[ahw,Z5] at *; omega
theorem Us (c:za) (l:y5) (rs:Yo) (sd:yQ) (ps:jQ) (ws:jn) {G:(Int×zy×Unit->Option (zy×Unit))->Int×zy×Unit->Option (zy×Unit)} (hn:ps.length<=1073741824)
  (Xd:∀ (rec:Int×zy×Unit->Option (zy×Unit)) (i:Nat) (s:jn) (h:i<ps.length),G rec ((i:Int),(c,l,rs,s,sd),())=rec ((i:Int)+1,(c,l,rs,NC c s ps[i],sd),()))
  (Xh:∀ (rec:Int×zy×Unit->Option (zy×Unit)) (s:jn),G rec ((ps.length:Int),(c,l,rs,s,sd),())=some ((c,l,rs,s,sd),())):
  iter G fuel (0,(c,l,rs,ws,sd),())=some ((c,l,rs,aa c ws ps,sd),()):=by
 refine (walk ps.length (λ i (s:jn)=>(i,(c,l,rs,s,sd),())) (λ _ _=>True) (λ i s=>some ((c,l,rs,aa c s (ps.drop i),sd),())) (by omega) ?_ ?_ (s0:=ws) trivial).trans (by simp only[ahV])
 ·intro rec s _;rw[Xh,ai7];rfl
 ·intro rec i s hi _;exact .inr ⟨NC c s ps[i],trivial,Xd rec i s hi,by rw[ahP hi]; rfl⟩
theorem Bo (w:zy) (ps:jQ) (hp:yr ps<=1073741824):aX (w,ps,())=some ((w.1,w.2.1,w.2.2.1,aa w.1 w.2.2.2.1 ps,w.2.2.2.2),()):=by
 have hl:ps.length<=1073741824:=by simp only[yr] at hp; omega
 unfold aX;refine Us w.1 w.2.1 w.2.2.1 w.2.2.2.2 ps w.2.2.2.1 hl ?_ ?_
 ·intro rec i s hi;have hx:ps[i]?=some ps[i]:=List.getElem?_eq_getElem hi;have hm:=gB (Nat.le_refl (yr ps)) hx;have hlt:decide ((i:Int)<(ps.length:Int))=true:=by simp; omega
  simp only[hlt,cond_true,show (0:Int)<=(i:Int)/\(i:Int)<(ps.length:Int) from⟨by omega,by omega⟩,and_self,if_true,Int.toNat_natCast,zq (e:=gK) hx,Vw w.1 ps[i].2 (by omega),Option.bind_some,fV,zt (show i<4611686018427387904 by omega),NC];by_cases h60:(s.length:Int)<60
  ·simp only[h60,ahB,ahw];rw[if_pos (by simp only[ahz,ahA]; omega)]
   cases decide (((J4 w.1 ps[i].2).length:Int)>0)<;>cases (decide (ps[i].1≥0) && decide (ps[i].1<=wr (w.1.1 - 1)))<;>rfl
  ·simp only[h60,ahG,ahv];cases decide (((J4 w.1 ps[i].2).length:Int)>0)<;>cases (decide (ps[i].1≥0) && decide (ps[i].1<=wr (w.1.1 - 1)))<;>rfl
 ·intro rec s;simp only[ai0,ahG,ahv]
theorem ad4 (w:zy) (ps:jQ) (hw:Z5 w<=1073741824) (hp:yr ps<=1073741824):aaw (w,ps,())=some (send w ps,()):=by
 unfold aaw send;dsimp only;rw[V2 w (by omega),ahu,VV w ((WB.of hw (aip _)).mono (by decide)),ahu];cases qt w
 ·rfl
 ·simp only[ahC,ahv,ahw];rw[Bo w ps hp];rfl
theorem acq (w:zy) (ps:jQ) (hw:Z5 w<=1073741824) (hp:yr ps<=1073741824):aan (w,ps,())=some (send w ps,()):=by
 have hl:ps.length<=1073741824:=by simp only[yr] at hp; omega
 unfold aan send;dsimp only;rw[acs w (by omega),ahu,ab4 w (WB.of hw (aip _)),ahu];cases qt w
 ·rfl
 ·simp only[ahC,ahv,ahw];refine Us w.1 w.2.1 w.2.2.1 w.2.2.2.2 ps w.2.2.2.1 hl ?_ ?_
  ·intro rec i s hi;have hx:ps[i]?=some ps[i]:=List.getElem?_eq_getElem hi;have hm:=gB (Nat.le_refl (yr ps)) hx;have hlt:decide ((i:Int)<(ps.length:Int))=true:=by simp; omega
   simp only[hlt,cond_true,show (0:Int)<=(i:Int)/\(i:Int)<(ps.length:Int) from⟨by omega,by omega⟩,and_self,if_true,Int.toNat_natCast,zq (e:=gK) hx,ab0 w.1 ps[i].2 (by omega),Option.bind_some,acx,zt (show i<4611686018427387904 by omega),NC];by_cases h60:(s.length:Int)<60
   ·simp only[h60,ahB,ahw];rw[if_pos (by simp only[ahz,ahA]; omega)]
    cases decide (((J4 w.1 ps[i].2).length:Int)>0)<;>cases (decide (ps[i].1≥0) && decide (ps[i].1<=wr (w.1.1 - 1)))<;>rfl
   ·simp only[h60,ahG,ahv];cases decide (((J4 w.1 ps[i].2).length:Int)>0)<;>cases (decide (ps[i].1≥0) && decide (ps[i].1<=wr (w.1.1 - 1)))<;>rfl
  ·intro rec s;simp only[ai0,ahG,ahv]
end G448
