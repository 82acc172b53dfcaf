/- Plain laws, part 1: what the functions compute. No program in sight. -/
import Derived.Test.YtpfjcbhpocpneaaGreatDoorHtFns
import Derived.Lib.IndexBytes
import Derived.Lib.IndexLaws
import Derived.Lib.SplitLaws
import Derived.Lib.ItoaNum
import Derived.Lib.LastIndexByte
set_option linter.unusedSimpArgs false
set_option linter.unusedVariables false
namespace G448
open Ev
theorem QW {S R:Type} {G:(S->Option R)->S->Option R} (f:S->Option R) (μ:S->Nat) (I:S->Prop)
  (h:∀ (rec:S->Option R) (x:S),I x->(∀ y,I y->μ y<μ x->rec y=f y)->G rec x=f x):∀ (n:Nat) (x:S),I x->μ x<n->iter G n x=f x
 | 0,x,_,hn=>by omega
 | n+1,x,hx,hn=>h (iter G n) x hx λ y hy hlt=>QW f μ I h n y hy (by omega)
def Lc {α S R:Type} (body:α->S->(S->Option R)->Option R) (k:S->Option R):List α->S->Option R
 | [],s=>k s
 | x::xs,s=>body x s (Lc body k xs)
theorem mD {α S R:Type} (body:α->S->(S->Option R)->Option R) (k:S->Option R) (x:α) (xs:List α) (s:S):Lc body k (x::xs) s=body x s (Lc body k xs):=rfl
theorem vi {X S R:Type} (len:Nat) {G:(X->Option R)->X->Option R} (mk:Int->S->X) (f:Nat->S->Option R) (ac1:len<=1152921504606846976)
  (ace:∀ rec s,G rec (mk (len:Int) s)=f len s)
  (ac9:∀ rec (i:Nat) s,i<len->(∀ s',rec (mk ((i:Int)+1) s')=f (i+1) s')->G rec (mk (i:Int) s)=f i s):
  ∀ n i s,i<=len->len - i<n->iter G n (mk (i:Int) s)=f i s
 | 0,i,s,_,hn=>by omega
 | n+1,i,s,hi,hn=>by
  rcases Nat.lt_or_ge i len with h|h
  ·exact ac9 (iter G n) i s h λ s'=>vi len mk f ac1 ace ac9 n (i+1) s' (by omega) (by omega)
  ·have:i=len:=by omega
   subst this;exact ace (iter G n) s
theorem YG {n:Nat} (h:n<=1152921504606846976):n<fuel:=by rw[ja]; omega
theorem Qw {α X S R:Type} (l:List α) {G:(X->Option R)->X->Option R} (body:α->S->(S->Option R)->Option R) (k:S->Option R) (mk:Int->S->X) (hl:l.length<=1152921504606846976)
  (ace:∀ rec s,G rec (mk (l.length:Int) s)=k s)
  (ac9:∀ rec (i:Nat) s (x:α),l[i]?=some x->i<l.length->G rec (mk (i:Int) s)=body x s (λ s'=>rec (mk ((i:Int)+1) s')))
  (aiw:∀ x s (r1 r2:S->Option R),(∀ s',r1 s'=r2 s')->body x s r1=body x s r2) (s:S):iter G fuel (mk 0 s)=Lc body k l s:=by
 have:=vi l.length mk (λ i s=>Lc body k (l.drop i) s) hl (λ rec s=>by simpa[Lc] using ace rec s) (λ rec i s hi abX=>by
  rw[ac9 rec i s l[i] (List.getElem?_eq_getElem hi) hi,List.drop_eq_getElem_cons hi];exact aiw _ _ _ _ abX) fuel 0 s (Nat.zero_le _) (by simpa using YG hl)
 simpa using this
theorem zh {n:Int} (h1 : -9223372036854775808<=n) (h2:n<=9223372036854775807):wr n=n:=by rw[lI]; omega
theorem zq {i:Nat} (h:i<4611686018427387904):wr ((i:Int)+1)=(i:Int)+1:=zh (by omega) (by omega)
theorem zt {e:Ty} {l:List (den e)} {i:Nat} {x:den e} (h:l[i]?=some x):rd e l i=x:=by
 simp[rd,als,h]
theorem zw {α:Type} {l:List α} {i:Nat} (h:i<l.length):(0:Int)<=(i:Int)/\(i:Int)<(l.length:Int):=by omega
theorem cW {α β:Type} {l:List α} {out:List β} {i:Nat} (y:β) (g:α->β) (h:i<l.length) (ho:out.length=l.length) (hy:y=g l[i]):
  (out.set i y).take (i+1)++(l.drop (i+1)).map g=out.take i++(l.drop i).map g:=by
 have hi:i<out.length:=by omega
 rw[al1 h,al3,←hy,amc,List.take_set_of_le (aly i),List.getElem?_set_self hi];simp
theorem RB {α β R:Type} (l:List α) (g:α->β) {G:(Int×List β×Unit->Option R)->Int×List β×Unit->Option R} (k:List β->Option R) (hl:l.length<=1152921504606846976)
  (ace:∀ rec out,out.length=l.length->G rec ((l.length:Int),out,())=k out)
  (ac9:∀ rec (i:Nat) out x,l[i]?=some x->i<l.length->out.length=l.length->G rec ((i:Int),out,())=rec ((i:Int)+1,out.set i (g x),())) (out:List β) (ho:out.length=l.length):
  iter G fuel (0,out,())=k (l.map g):=by
 have key:∀ n i (out:List β),i<=l.length->out.length=l.length->l.length - i<n->iter G n ((i:Int),out,())=k (out.take i++(l.drop i).map g):=by
  intro n;induction n with
  | zero=>intro i out h1 h2 h3; omega
  | succ n ih=>
   intro i out hi ho hn;rcases Nat.lt_or_ge i l.length with h|h
   ·have e1:iter G (n+1) ((i:Int),out,())=iter G n ((i:Int)+1,out.set i (g l[i]),()):=ac9 (iter G n) i out l[i] (List.getElem?_eq_getElem h) h ho;have e2:=ih (i+1) (out.set i (g l[i])) h (by simpa using ho) (by omega);rw[cW (g l[i]) g h ho rfl] at e2;rw[e1];exact e2
   ·have hi':i=l.length:=by omega
    subst hi';have e1:iter G (n+1) ((l.length:Int),out,())=k out:=ace (iter G n) out ho;rw[e1,am1 (by omega),amg (aly _)];simp
 have:=key fuel 0 out (Nat.zero_le _) ho (by simpa using YG hl);simpa using this
theorem um {α:Type} (p:α->Bool) (l:List α):Lc (S:=Unit) (λ x s rec=>bif p x then some (true,()) else rec s) (λ _=>some (false,())) l ()=some (l.any p,()):=by
 induction l with
 | nil=>rfl
 | cons x xs ih=>rw[mD,ih]; cases h:p x<;>simp[h]
theorem ul {α:Type} (p:α->Bool) (l:List α):Lc (S:=Unit) (λ x s rec=>bif p x then rec s else some (false,())) (λ _=>some (true,())) l ()=some (l.all p,()):=by
 induction l with
 | nil=>rfl
 | cons x xs ih=>rw[mD,ih]; cases h:p x<;>simp[h]
def sub (left:Int) (w:Nat):Int:=if left<(w:Int) then -1 else left - w
theorem sub_zero {left:Int} (h:0<=left):sub left 0=left:=by unfold sub; rw[if_neg (by simpa using h)]; simp
def Ens {α:Type} (o:Option α) (P:α->Prop):Prop:=∃ y,o=some y/\P y
theorem Ens.bind {α β:Type} {x:Option α} {f:α->Option β} {P:α->Prop} {Q:β->Prop} (h:Ens x P) (hf:∀ y,P y->Ens (f y) Q):Ens (x.bind f) Q:=by
 obtain⟨y,rfl,hy⟩:=h;exact hf y hy
theorem Ens.some {α:Type} {x:α} {P:α->Prop} (h:P x):Ens (some x) P:=⟨x,rfl,h⟩
theorem Ens.mono {α:Type} {o:Option α} {P Q:α->Prop} (h:Ens o P) (hq:∀ y,P y->Q y):Ens o Q:=by
 obtain⟨y,e,hy⟩:=h;exact⟨y,e,hq y hy⟩
theorem Ens.cond {α:Type} {c:Bool} {a b:Option α} {P:α->Prop} (ha:c=true->Ens a P) (hb:c=false->Ens b P):Ens (bif c then a else b) P:=by
 cases c with
 | true=>exact ha rfl
 | false=>exact hb rfl
theorem Ens.ite {α:Type} {c:Prop} [Decidable c] {a b:Option α} {P:α->Prop} (hc:c) (ha:Ens a P):Ens (if c then a else b) P:=by
 rw[if_pos hc]; exact ha
theorem Ens.loop {S R:Type} {G:(S->Option R)->S->Option R} (I:S->Prop) (μ:S->Nat) {P:R->Prop}
  (h:∀ (rec:S->Option R) (x:S),I x->(∀ y,I y->μ y<μ x->Ens (rec y) P)->Ens (G rec x) P) {x:S} (hx:I x) (hm:μ x<fuel):Ens (iter G fuel x) P:=by
 have key:∀ (n:Nat) (x:S),I x->μ x<n->Ens (iter G n x) P:=by
  intro n;induction n with
  | zero=>intro x _ hn; omega
  | succ n ih=>intro x hx hn; exact h (iter G n) x hx λ y hy hlt=>ih y hy (by omega)
 exact key fuel x hx hm
def big:Nat:=140737488355328
theorem Sw {α:Type} (p:α->Bool) (l:List α) {G:(Int×Unit->Option (Int×Unit))->Int×Unit->Option (Int×Unit)} (hl:l.length<=1152921504606846976)
  (ace:∀ rec s,G rec ((l.length:Int),s)=some (-1,()))
  (ac9:∀ rec (i:Nat) s x,l[i]?=some x->i<l.length->G rec ((i:Int),s)=bif p x then some ((i:Int),()) else rec ((i:Int)+1,s)):
  ∃ r:Int,iter G fuel (0,())=some (r,())/\decide (r≥0)=l.any p:=by
 have key:∀ n i,i<=l.length->l.length - i<n->∃ r:Int,iter G n ((i:Int),())=some (r,())/\decide (r≥0)=(l.drop i).any p:=by
  intro n;induction n with
  | zero=>intro i h1 h2; omega
  | succ n ih=>
   intro i hi hn;rcases Nat.lt_or_ge i l.length with h|h
   ·have e1:iter G (n+1) ((i:Int),())=bif p l[i] then some ((i:Int),()) else iter G n ((i:Int)+1,()):=ac9 (iter G n) i () l[i] (List.getElem?_eq_getElem h) h;rw[al1 h,List.any_cons,e1];cases hp:p l[i] with
    | true=>exact⟨i,rfl,by simp⟩
    | false=>
     obtain⟨r,h1,h2⟩:=ih (i+1) h (by omega);exact⟨r,h1,by simpa using h2⟩
   ·have hi':i=l.length:=by omega
    subst hi';exact⟨-1,ace (iter G n) (),by simp⟩
 simpa using key fuel 0 (Nat.zero_le _) (by simpa using YG hl)
theorem Sv {α:Type} (p:α->Bool) (l:List α) {G:(Int×Unit->Option (Int×Unit))->Int×Unit->Option (Int×Unit)} (hl:l.length<=1152921504606846976)
  (ace:∀ rec s,G rec ((l.length:Int),s)=some (-1,()))
  (ac9:∀ rec (i:Nat) s x,l[i]?=some x->i<l.length->G rec ((i:Int),s)=bif p x then some ((i:Int),()) else rec ((i:Int)+1,s)):
  ((iter G fuel (0,())).bind λ r=>some (decide (r.1≥0),()))=some (l.any p,()):=by
 obtain⟨r,h1,h2⟩:=Sw p l hl ace ac9;rw[h1,akH,←h2]
theorem tK {R:Type} (l m:List Int) {G:(Int×Unit->Option R)->Int×Unit->Option R} (yes no:R) (hl:l.length<=1152921504606846976)
  (ace:∀ rec (i:Nat) s,i<=l.length->i<=m.length->(i=l.length∨i=m.length)->G rec ((i:Int),s)=some (if l.length=m.length then yes else no))
  (ac9:∀ rec (i:Nat) s x y,l[i]?=some x->m[i]?=some y->i<l.length->i<m.length->G rec ((i:Int),s)=bif x != y then some no else rec ((i:Int)+1,s)):
  iter G fuel (0,())=some (if l=m then yes else no):=by
 have key:∀ n i,i<=l.length->i<=m.length->l.length - i<n->iter G n ((i:Int),())=some (if l.drop i=m.drop i then yes else no):=by
  intro n;induction n with
  | zero=>intro i h1 h2 h3; omega
  | succ n ih=>
   intro i hi hi2 hn;by_cases he:i=l.length∨i=m.length
   ·have e1:iter G (n+1) ((i:Int),())=some (if l.length=m.length then yes else no):=ace (iter G n) i () hi hi2 he;have e2:(l.drop i=m.drop i)=(l.length=m.length):=by
     apply propext;constructor
     ·intro e;have:=congrArg List.length e;simp only[al7] at this;omega
     ·intro e;rw[amg (by omega),amg (by omega)]
    simp only[e1,e2]
   ·have h:i<l.length:=by omega
    have hm:i<m.length:=by omega
    have e1:iter G (n+1) ((i:Int),())=bif l[i] != m[i] then some no else iter G n ((i:Int)+1,()):=ac9 (iter G n) i () l[i] m[i] (List.getElem?_eq_getElem h) (List.getElem?_eq_getElem hm) h hm;rw[e1,al1 h,al1 hm];by_cases he:l[i]=m[i]
    ·rw[he];simp only[bne_self_eq_false,akI,alc,true_and];exact ih (i+1) h hm (by omega)
    ·have:(l[i] != m[i])=true:=by simpa using he
     rw[this,akJ,if_neg (λ e=>he (List.cons.inj e).1)]
 have:=key fuel 0 (Nat.zero_le _) (Nat.zero_le _) (by simpa using YG hl);simpa only [List.drop_zero,Int.natCast_zero] using this
theorem Yr (l:List Int) (v:Int) (h:l.length<=1152921504606846976):jx (l,v,())=some (l.any (· == v),()):=by
 unfold jx;refine (Qw l (λ x s rec=>bif x==v then some (true,()) else rec s) (λ s=>some (false,())) (λ i s=>(i,s)) h ?_ ?_ ?_ ()).trans (um _ _)
 ·intro rec s; simp
 ·intro rec i s x hx hi;simp only[akT,zw hi,akP,akJ,if_true,akY,rd,als,hx,ali,zq (show i<4611686018427387904 by omega)]
 ·intro x s r1 r2 hr; simp[hr]
theorem Eh (l:List Int) (v:Int) (h:l.length<=1152921504606846976):gD (l,v,())=some (l.any (v == ·),()):=by
 unfold gD rM;refine Sv (v == ·) l h ?_ ?_
 ·intro rec s; simp
 ·intro rec i s x hx hi;simp only[akT,zw hi,akP,akJ,if_true,akY,rd,als,hx,ali,zq (show i<4611686018427387904 by omega)]
theorem mO (l:List Int) (v:Int) (h:l.length<=1152921504606846976):NN (l,v,())=some (l.any (· == v),()):=by
 unfold NN;simp only[Eh l v h,akH];congr 2;apply congrArg (λ f=>l.any f);funext x;exact Bool.beq_comm
theorem sR (l m:List Int) (hl:l.length<=1152921504606846976):bu (l,m,())=some (decide (l=m),()):=by
 unfold bu;by_cases hlm:l.length=m.length
 ·simp only[hlm,bne_self_eq_false,akI];rw[←hlm];refine (tK l m (true,()) (false,()) hl ?_ ?_).trans (by by_cases h:l=m<;>simp[h])
  ·intro rec i s h1 h2 h3;have hnl:¬ (i:Int)<(l.length:Int):=by omega
   simp only[hlm] at hnl ⊢;simp[hnl]
  ·intro rec i s x y hx hy hi hm;simp only[akT,(zw hi).1,(zw hi).2,(zw hm).2,akP,akJ,if_true,akY,rd,als,hx,hy,ali,zq (show i<4611686018427387904 by omega)]
 ·have h1:(((l.length:Nat):Int) != ((m.length:Nat):Int))=true:=bne_iff_ne.2 (by omega);have h2:¬ l=m:=λ h=>hlm (by rw[h]);simp[h1,h2]
theorem vB (l m:List Int) (hl:l.length<=1152921504606846976):cn (l,m,())=some (decide (l=m),()):=by
 unfold cn;refine (tK l m (true,()) (false,()) hl ?_ ?_).trans (by by_cases h:l=m<;>simp[h])
 ·intro rec i s h1 h2 h3;rcases Nat.lt_or_ge i l.length with h|h
  ·have hm:i=m.length:=by omega
   have hnm:¬ (i:Int)<(m.length:Int):=by omega
   have hbe:(((l.length:Nat):Int)==((m.length:Nat):Int))=false:=by simp; omega
   have hne:¬ l.length=m.length:=by omega
   simp only[zw h,hnm,akP,akQ,akJ,akI,hbe,if_neg hne]
  ·have hnl:¬ (i:Int)<(l.length:Int):=by omega
   simp only[hnl,akQ,akI];by_cases e:l.length=m.length
   ·simp[e]
   ·have hbe:(((l.length:Nat):Int)==((m.length:Nat):Int))=false:=by simp; omega
    simp only[hbe,if_neg e]
 ·intro rec i s x y hx hy hi hm;simp only[akT,(zw hi).1,(zw hi).2,(zw hm).2,akP,akJ,if_true,akY,rd,als,hx,hy,ali,zq (show i<4611686018427387904 by omega)]
abbrev yF:=List UInt8×Int
def yt (d:yF):Bool:=decide ((d.1.length:Int)<=100000) && (decide (d.2≥0) && decide (d.2<=(d.1.length:Int)))
theorem gL (d:yF):LA (d,())=some (yt d,()):=by
 unfold LA yk yt;cases h1:decide ((d.1.length:Int)<=100000)<;>cases h2:decide (d.2≥0)<;>simp[h1,h2]
theorem uH (d:yF):QD (d,())=some (yt d,()):=by
 unfold QD y6 yt;cases h1:decide ((d.1.length:Int)<=100000)<;>cases h2:decide (d.2≥0)<;>simp[h1,h2]
theorem kz (d:yF) (h:d.1.length<=35184372088832):KO (d,())=some (d,()):=by
 unfold KO;dsimp only;rw[if_pos (by omega)];rfl
theorem uT (d:yF) (h:d.1.length<=35184372088832):QP (d,())=some (d,()):=by
 unfold QP;dsimp only;rw[if_pos (by omega)]
def yW (d:yF) (b:List UInt8):yF×Bool:=if yt d=true/\d.1.length+b.length<=100000 then ((d.1++b,d.2),true) else (d,false)
theorem aao (d:yF) (b:List UInt8) (h:d.1.length<=17592186044416) (hb:b.length<=17592186044416):gG (d,b,())=some ((yW d b).1,(yW d b).2,()):=by
 unfold gG yW;simp only[kz d (by omega),akH,gL];rw[if_pos (by omega)];cases h1:yt d with
 | false=>simp
 | true=>
  simp only[akO,akI,true_and];have h2:yt (d.1++b,d.2)=decide (d.1.length+b.length<=100000):=by
   simp only[yt,akK,akV] at h1;obtain⟨g1,g2,g3⟩:=h1;by_cases h3:d.1.length+b.length<=100000
   ·simp[yt,h3,g2]; omega
   ·simp[yt,h3]; omega
  rw[h2];by_cases h3:d.1.length+b.length<=100000
  ·simp[h3]
  ·simp[h3]
theorem RR (d:yF) (b:List UInt8) (h:d.1.length<=17592186044416) (hb:b.length<=17592186044416):dg (d,b,())=some ((yW d b).1,(yW d b).2,()):=by
 unfold dg yW;simp only[uT d (by omega),akH,uH];rw[if_pos (by omega)];cases h1:yt d with
 | false=>simp
 | true=>
  simp only[akO,akI,true_and];rw[zh (by omega) (by omega)];by_cases h3:d.1.length+b.length<=100000
  ·have:decide ((d.1.length:Int)+b.length>100000)=false:=by simp; omega
   simp[h3,this]
  ·have:decide ((d.1.length:Int)+b.length>100000)=true:=by simp; omega
   simp[h3,this]
theorem O0 (d:yF) (b:List UInt8):(yW d b).1.1.length<=d.1.length+b.length:=by
 unfold yW;split<;>simp
theorem ZS {α:Type} {l:List α} {x:α} (f:α->Nat) (h:x∈l):f x<=(l.map f).sum:=by
 induction l with
 | nil=>cases h
 | cons y r ih=>
  simp only[al3,alp];rcases List.mem_cons.1 h with rfl|h
  ·omega
  ·have:=ih h; omega
abbrev y9:=List Int
abbrev s8:=List UInt8
abbrev zP:=Int×Int×Int×Int
abbrev JF:=Int×List UInt8×Int
abbrev zH:=Int×List UInt8×y9
abbrev zG:=Int×List UInt8×y9
abbrev yE:=List UInt8×zH
abbrev zv:=Int×Int×yE×zG×zH×Int×zP
abbrev Ka:=Int×zv
abbrev cH:=Int×s8
abbrev zB:=Int×Int×zH×List UInt8
abbrev zF:=List zP
abbrev yV:=List JF
abbrev zV:=List zG
abbrev j0:=List Ka
abbrev ju:=List cH
abbrev zb:=Int×Int×Int×zB×zF×zV×yF×j0
abbrev Yz:=List zb
abbrev za:=Int×Int
abbrev ye:=y9×y9
abbrev zA:=za×y9×Yz×ju×yV
abbrev Y8:=Int×Int×Int×zv
def zn (x:y9):Nat:=x.length
def sJ (x:s8):Nat:=x.length
def J5 (x:yF):Nat:=x.1.length
def Qh (x:JF):Nat:=x.2.1.length
def zi (x:zH):Nat:=x.2.1.length+zn x.2.2
def zk (x:zG):Nat:=x.2.1.length+zn x.2.2
def zp (x:yE):Nat:=x.1.length+zi x.2
def zj (x:zv):Nat:=zp x.2.2.1+zk x.2.2.2.1+zi x.2.2.2.2.1
def Ye (x:Ka):Nat:=zj x.2
def M8 (x:cH):Nat:=sJ x.2
def zu (x:zB):Nat:=zi x.2.2.1+x.2.2.2.length
def Jy (x:zF):Nat:=x.length
def LN (x:yV):Nat:=x.length+(x.map Qh).sum
def zE (x:zV):Nat:=x.length+(x.map zk).sum
def yo (x:j0):Nat:=x.length+(x.map Ye).sum
def Qi (x:ju):Nat:=x.length+(x.map M8).sum
def ze (x:zb):Nat:=zu x.2.2.2.1+Jy x.2.2.2.2.1+zE x.2.2.2.2.2.1+J5 x.2.2.2.2.2.2.1+yo x.2.2.2.2.2.2.2
def M7 (x:Yz):Nat:=x.length+(x.map ze).sum
def lA (x:ye):Nat:=zn x.1+zn x.2
def Yf (x:zA):Nat:=zn x.2.1+M7 x.2.2.1+Qi x.2.2.2.1+LN x.2.2.2.2
def MsgW (m:zv):Prop:=m.2.2.1.2.2.2.length<=8796093022208/\m.2.2.2.1.2.2.length<=8796093022208/\m.2.2.2.2.1.2.2.length<=8796093022208
theorem MsgW.of {m:zv} (h:zj m<=137438953472):MsgW m:=by
 simp only[zj,zp,zi,zk,zn] at h;unfold MsgW;omega
def jd (a b:zH):Bool:=a.1==b.1 && (a.2.1==b.2.1 && decide (a.2.2=b.2.2))
theorem rT (a b:zH) (h:a.2.2.length<=8796093022208):qC (a,b,())=some (jd a b,()):=by
 unfold qC jd;simp only[vB a.2.2 b.2.2 (by omega),akH];cases a.1==b.1<;>cases a.2.1==b.2.1<;>simp
theorem dA (a b:zH) (h:a.2.2.length<=8796093022208):L6 (a,b,())=some (jd a b,()):=by
 unfold L6 jd;simp only[sR a.2.2 b.2.2 (by omega),akH];cases a.1==b.1<;>cases a.2.1==b.2.1<;>simp
theorem ab4 (a b:zH) (h:a.2.2.length<=8796093022208):kF (a,b,())=some (jd a b,()):=by
 unfold kF jd;simp only[vB a.2.2 b.2.2 (by omega),akH];cases a.1==b.1<;>cases a.2.1==b.2.1<;>simp
theorem Su (a b:zH) (h:a.2.2.length<=8796093022208):dY (a,b,())=some (jd a b,()):=by
 unfold dY jd;simp only[sR a.2.2 b.2.2 (by omega),akH];cases a.1==b.1<;>cases a.2.1==b.2.1<;>simp
def YA (a b:yE):Bool:=a.1==b.1 && jd a.2 b.2
theorem aap (a b:yE) (h:a.2.2.2.length<=8796093022208):gJ (a,b,())=some (YA a b,()):=by
 unfold gJ YA;simp only[rT a.2 b.2 h,akH];cases a.1==b.1<;>simp
theorem RS (a b:yE) (h:a.2.2.2.length<=8796093022208):dh (a,b,())=some (YA a b,()):=by
 unfold dh YA;simp only[dA a.2 b.2 h,akH];cases a.1==b.1<;>simp
def M2 (a b:zP):Bool:=a.1==b.1 && (a.2.1==b.2.1 && (a.2.2.1==b.2.2.1 && (a.2.2.2==b.2.2.2 && true)))
def Zt (a b:zv):Bool:=
 a.1==b.1 && (a.2.1==b.2.1 && (YA a.2.2.1 b.2.2.1 && (jd a.2.2.2.1 b.2.2.2.1 && (jd a.2.2.2.2.1 b.2.2.2.2.1 && (a.2.2.2.2.2.1==b.2.2.2.2.2.1 && M2 a.2.2.2.2.2.2 b.2.2.2.2.2.2)))))
theorem qy (a b:zv) (h:MsgW a):KI (a,b,())=some (Zt a b,()):=by
 unfold KI Zt M2;simp only[aap a.2.2.1 b.2.2.1 h.1,ab4 a.2.2.2.1 b.2.2.2.1 h.2.1,rT a.2.2.2.2.1 b.2.2.2.2.1 h.2.2,akH];cases a.1==b.1<;>cases a.2.1==b.2.1<;>cases YA a.2.2.1 b.2.2.1<;>cases jd a.2.2.2.1 b.2.2.2.1<;>cases jd a.2.2.2.2.1 b.2.2.2.2.1<;>cases a.2.2.2.2.2.1==b.2.2.2.2.2.1<;>rfl
theorem R1 (a b:zv) (h:MsgW a):dq (a,b,())=some (Zt a b,()):=by
 unfold dq Zt M2;simp only[RS a.2.2.1 b.2.2.1 h.1,Su a.2.2.2.1 b.2.2.2.1 h.2.1,dA a.2.2.2.2.1 b.2.2.2.2.1 h.2.2,akH];cases a.1==b.1<;>cases a.2.1==b.2.1<;>cases YA a.2.2.1 b.2.2.1<;>cases jd a.2.2.2.1 b.2.2.2.1<;>cases jd a.2.2.2.2.1 b.2.2.2.2.1<;>cases a.2.2.2.2.2.1==b.2.2.2.2.2.1<;>rfl
theorem Dr (l:List JF) (view:Int) (name:List UInt8) (who:Int) (h:l.length<=1152921504606846976):
  ca (l,view,name,who,())=some (l.any (λ x=>x.1==view && (x.2.1==name && x.2.2==who)),()):=by
 unfold ca;refine (Qw l (λ x s rec=>bif (x.1==view && (x.2.1==name && x.2.2==who)) then some (true,()) else rec s) (λ s=>some (false,())) (λ i s=>(i,s)) h ?_ ?_ ?_ ()).trans (um _ _)
 ·intro rec s; simp
 ·intro rec i s x hx hi;simp only[akT,zw hi,akP,akJ,if_true,akY,rd,als,hx,ali,zq (show i<4611686018427387904 by omega)];cases x.1==view<;>cases x.2.1==name<;>cases x.2.2==who<;>rfl
 ·intro x s r1 r2 hr; simp[hr]
def signed (liars:List Int) (list:List JF) (view:Int) (name:List UInt8) (who:List Int):Bool:=
 who.all λ i=>liars.any (· == i) || list.any (λ x=>x.1==view && (x.2.1==name && x.2.2==i))
theorem rW (liars:List Int) (list:List JF) (view:Int) (name:List UInt8) (who:List Int) (h1:liars.length<=1152921504606846976) (h2:list.length<=1152921504606846976) (h3:who.length<=1152921504606846976):
  qH (liars,list,view,name,who,())=some (signed liars list view name who,()):=by
 unfold qH;refine (Qw who (λ x s rec=>bif (liars.any (· == x) || list.any (λ y=>y.1==view && (y.2.1==name && y.2.2==x))) then rec s else some (false,())) (λ s=>some (true,())) (λ i s=>(i,s)) h3 ?_ ?_ ?_ ()).trans (ul _ _)
 ·intro rec s; simp
 ·intro rec i s x hx hi;simp only[akT,zw hi,akP,akJ,if_true,akY,rd,als,hx,ali,zq (show i<4611686018427387904 by omega),Yr liars x h1,Dr list view name x h2,akH];cases liars.any (· == x)<;>cases list.any (λ y=>y.1==view && (y.2.1==name && y.2.2==x))<;>rfl
 ·intro x s r1 r2 hr; simp[hr]
def YZ (m:zv):zG:=if m.1=2 then m.2.2.2.1 else if m.1=1 then (m.2.2.1.2.1,m.2.2.1.2.2.1,m.2.2.1.2.2.2) else (m.2.2.2.2.1.1,m.2.2.2.2.1.2.1,m.2.2.2.2.1.2.2)
def YY (id:Int) (m:zv):yV:=if m.1=4 then [] else if (YZ m).2.1=[] then [] else if (YZ m).2.2.any (· == id) then [((YZ m).1,(YZ m).2.1,id)] else []
theorem aaP (id:Int) (m:zv) (h:MsgW m):kf (id,m,())=some (YY id m,()):=by
 obtain⟨h1,h2,h3⟩:=h;unfold kf YY YZ;simp only[Yr _ _ (show m.2.2.1.2.2.2.length<=1152921504606846976 by omega),Yr _ _ (show m.2.2.2.1.2.2.length<=1152921504606846976 by omega),Yr _ _ (show m.2.2.2.2.1.2.2.length<=1152921504606846976 by omega),akH];by_cases c2:m.1=2
 ·simp only[c2,if_true,show ¬ (2:Int)=4 by decide,if_false,show ((2:Int)==2)=true from rfl,show ((2:Int)==4)=false from rfl,akJ,akI];by_cases e:m.2.2.2.1.2.1=[]
  ·simp[e]
  ·have:(m.2.2.2.1.2.1==[])=false:=by simp[e]
   simp only[this,e,akI,if_false];cases m.2.2.2.1.2.2.any (· == id)<;>simp
 ·by_cases c1:m.1=1
  ·simp only[c1,show ¬ (1:Int)=2 by decide,if_true,show ¬ (1:Int)=4 by decide,if_false,show ((1:Int)==2)=false from rfl,show ((1:Int)==1)=true from rfl,show ((1:Int)==4)=false from rfl,akJ,akI];by_cases e:m.2.2.1.2.2.1=[]
   ·simp[e]
   ·have:(m.2.2.1.2.2.1==[])=false:=by simp[e]
    simp only[this,e,akI,if_false];cases m.2.2.1.2.2.2.any (· == id)<;>simp
  ·have e2:(m.1==2)=false:=by simp[c2]
   have e1:(m.1==1)=false:=by simp[c1]
   simp only[e2,e1,c2,c1,akI,if_false];by_cases c4:m.1=4
   ·simp[c4]
   ·have e4:(m.1==4)=false:=by simp[c4]
    simp only[e4,c4,akI,if_false];by_cases e:m.2.2.2.2.1.2.1=[]
    ·simp[e]
    ·have:(m.2.2.2.2.1.2.1==[])=false:=by simp[e]
     simp only[this,e,akI,if_false];cases m.2.2.2.2.1.2.2.any (· == id)<;>simp
theorem Xu (id:Int) (m:zv):LN (YY id m)<=1+zj m:=by
 unfold YY YZ;repeat' split
 all_goals simp only[LN,Qh,zj,zp,zi,zk,zn,akM,alq,List.sum_nil,akN,al3,alp]
 all_goals omega
theorem PW {β R:Type} (p:Nat->Bool) (g:Nat->β) (n:Nat) (hn:n<=1152921504606846976) (k:List β->Option R) {G:(List β×Int×Unit->Option R)->List β×Int×Unit->Option R}
  (ace:∀ rec out,G rec (out,(n:Int),())=k out)
  (ac9:∀ rec (i:Nat) out,i<n->out.length<=i->G rec (out,(i:Int),())=rec (if p i=true then out++[g i] else out,(i:Int)+1,())):
  iter G fuel ([],0,())=k (((List.range n).filter p).map g):=by
 have key:∀ (m i:Nat) (out:List β),i<=n->n - i<m->out.length<=i->iter G m (out,(i:Int),())=k (out++((List.range' i (n - i)).filter p).map g):=by
  intro m;induction m with
  | zero=>intro i out h1 h2 h3; omega
  | succ m ih=>
   intro i out h1 h2 h3;rcases Nat.lt_or_ge i n with h|h
   ·have e1:iter G (m+1) (out,(i:Int),())=iter G m (if p i=true then out++[g i] else out,(i:Int)+1,()):=ac9 (iter G m) i out h h3;have e2:=ih (i+1) (if p i=true then out++[g i] else out) h (by omega) (by
     split
     ·simp only[akR,akN,akM]; omega
     ·omega)
    rw[e1];refine Eq.trans (by rfl) (e2.trans ?_);have e3:n - i=(n - (i+1))+1:=by omega
    rw[e3,List.range'_succ];cases hp:p i<;>simp[hp]
   ·have hi:i=n:=by omega
    subst hi;have e1:iter G (m+1) (out,(i:Int),())=k out:=ace (iter G m) out;rw[e1];simp
 have:=key fuel 0 [] (Nat.zero_le _) (by have:=YG hn; omega) (by simp)
 simpa[List.range_eq_range'] using this
def Z1 (w:zA):List Int:=((List.range w.2.2.1.length).filter λ (i:Nat) => !(w.2.1.any (· == (i:Int)))).map λ (i:Nat)=>(i:Int)
theorem C6 (w:zA) (h1:w.2.1.length<=137438953472) (h2:w.2.2.1.length<=137438953472):qu (w,())=some (Z1 w,()):=by
 unfold qu Z1;refine PW (λ (i:Nat) => !(w.2.1.any (· == (i:Int)))) (λ (i:Nat)=>(i:Int)) w.2.2.1.length (by omega) (λ out=>some (out,())) ?_ ?_
 ·intro rec out; simp
 ·intro rec i out hi ho;have hg:((i:Int)<(w.2.2.1.length:Nat)):=by omega
  simp only[hg,akP,akJ,Yr _ _ (show w.2.1.length<=1152921504606846976 by omega),akH,zq (show i<4611686018427387904 by omega),akN,akM];rw[if_pos (by omega)];cases w.2.1.any (· == (i:Int))<;>simp
theorem RP (w:zA):(Z1 w).length<=w.2.2.1.length:=by
 unfold Z1;rw[alA];exact Nat.le_trans (List.length_filter_le _ _) (by simp)
theorem NA {α S St R:Type} (enc:Int->S->St) (l:List α) (f:S->α->S) (k:S->Option R) {G:(St->Option R)->St->Option R} (hl:l.length<=1152921504606846976) (I:Nat->S->Prop)
  (ace:∀ rec s,I l.length s->G rec (enc (l.length:Int) s)=k s)
  (ac9:∀ rec (i:Nat) s x,l[i]?=some x->i<l.length->I i s->I (i+1) (f s x)/\G rec (enc (i:Int) s)=rec (enc ((i:Int)+1) (f s x))) {s0:S} (h0:I 0 s0):
  iter G fuel (enc 0 s0)=k (l.foldl f s0):=by
 have key:∀ (m i:Nat) (s:S),i<=l.length->l.length - i<m->I i s->iter G m (enc (i:Int) s)=k ((l.drop i).foldl f s):=by
  intro m;induction m with
  | zero=>intro i s h1 h2 h3; omega
  | succ m ih=>
   intro i s h1 h2 h3;rcases Nat.lt_or_ge i l.length with h|h
   ·obtain⟨g1,g2⟩:=ac9 (iter G m) i s l[i] (List.getElem?_eq_getElem h) h h3;have e1:iter G (m+1) (enc (i:Int) s)=iter G m (enc ((i:Int)+1) (f s l[i])):=g2;rw[e1,al1 h,alx];exact ih (i+1) _ h (by omega) g1
   ·have hi:i=l.length:=by omega
    subst hi;have e1:iter G (m+1) (enc (l.length:Int) s)=k s:=ace (iter G m) s h3;rw[e1]; simp
 have:=key fuel 0 s0 (Nat.zero_le _) (by have:=YG hl; omega) h0
 simpa using this
theorem RC {α S:Type} (l:List α) (f:S->α->S) (I:Nat->S->Prop) (ac9:∀ (i:Nat) s x,l[i]?=some x->i<l.length->I i s->I (i+1) (f s x)) {s0:S} (h0:I 0 s0):I l.length (l.foldl f s0):=by
 have key:∀ (n i:Nat) (s:S),l.length - i=n->i<=l.length->I i s->I l.length ((l.drop i).foldl f s):=by
  intro n;induction n with
  | zero=>
       intro i s h1 h2 h3; have:i=l.length:=by omega
       subst this; simpa using h3
  | succ n ih=>
   intro i s h1 h2 h3;have h:i<l.length:=by omega
   rw[al1 h,alx];exact ih (i+1) _ (by omega) h (ac9 i s l[i] (List.getElem?_eq_getElem h) h h3)
 simpa using key l.length 0 s0 (by simp) (Nat.zero_le _) h0
theorem uq {α:Type}:∀ (l out:List α),l.foldl (λ out x=>out++[x]) out=out++l
 | [],out=>by simp
 | x::l,out=>by rw[alx,uq l]; simp
theorem Nn {α St R:Type} (enc:Int->List α->St) (l:List α) (k:List α->Option R) {G:(St->Option R)->St->Option R} (hl:l.length<=1152921504606846976)
  (ace:∀ rec s,s.length=l.length->G rec (enc (l.length:Int) s)=k s)
  (ac9:∀ rec (i:Nat) s x,l[i]?=some x->i<l.length->s.length=i->G rec (enc (i:Int) s)=rec (enc ((i:Int)+1) (s++[x]))):
  iter G fuel (enc 0 [])=k l:=by
 have:=NA enc l (λ out x=>out++[x]) k hl (λ i s=>s.length=i) ace (λ rec i s x hx hi h=>⟨by simp[h],ac9 rec i s x hx hi h⟩) (s0:=[]) rfl;rw[this,uq]; simp
theorem MW (x:zH) (hw:zi x<=137438953472):Jt (x,())=some (x,()):=by
 unfold Jt;dsimp only;have:x.2.2.length<=137438953472:=by simp only[zi,zn] at hw; omega
 rw[if_pos (by omega)]; rfl
theorem MQ (x:zG) (hw:zk x<=137438953472):J1 (x,())=some (x,()):=by
 unfold J1;dsimp only;have:x.2.2.length<=137438953472:=by simp only[zk,zn] at hw; omega
 rw[if_pos (by omega)]; rfl
theorem kv (x:zB) (hw:zu x<=137438953472):MR (x,())=some (x,()):=by
 unfold MR;simp only[MW x.2.2.1 (by simp only[zu] at hw; omega),Option.bind_some]
theorem abb (x:yE) (hw:zp x<=137438953472):lm (x,())=some (x,()):=by
 unfold lm;simp only[MW x.2 (by simp only[zp] at hw; omega),Option.bind_some]
theorem Dp (x:zv) (hw:zj x<=137438953472):bZ (x,())=some (x,()):=by
 unfold bZ;simp only[zj] at hw;simp only[abb x.2.2.1 (by omega),MQ x.2.2.2.1 (by omega),MW x.2.2.2.2.1 (by omega),akH]
theorem Dm (x:zV) (hw:zE x<=137438953472):J2 (x,())=some (x,()):=by
 have hl:x.length<=137438953472:=by unfold zE at hw; omega
 unfold J2;refine Nn (λ i s=>(s,i,())) x (λ s=>some (s,())) (by omega) ?_ ?_
 ·intro rec s hs; simp
 ·intro rec i s y hx hi hs;have hy:zk y<=137438953472:=by have:=ZS zk (List.mem_of_getElem? hx); unfold zE at hw; omega
  simp only[akT,zw hi,akP,akJ,if_true,akY,zt (e:=(.pair .i64 (.pair .str (.sl 0 .i64)))) hx,MQ y hy,akH,zq (show i<4611686018427387904 by omega),akN,akM];rw[if_pos (by omega)]
theorem Dq (x:j0) (hw:yo x<=137438953472):b8 (x,())=some (x,()):=by
 have hl:x.length<=137438953472:=by unfold yo at hw; omega
 unfold b8;refine Nn (λ i s=>(s,i,())) x (λ s=>some (s,())) (by omega) ?_ ?_
 ·intro rec s hs; simp
 ·intro rec i s y hx hi hs;have hy:zj y.2<=137438953472:=by have:=ZS Ye (List.mem_of_getElem? hx); simp only[Ye] at this; unfold yo at hw; omega
  simp only[akT,zw hi,akP,akJ,if_true,akY,zt (e:=(.pair .i64 (.pair .i64 (.pair .i64 (.pair (.pair .str (.pair .i64 (.pair .str (.sl 0 .i64)))) (.pair (.pair .i64 (.pair .str (.sl 0 .i64))) (.pair (.pair .i64 (.pair .str (.sl 0 .i64))) (.pair .i64 (.pair .i64 (.pair .i64 (.pair .i64 .i64))))))))))) hx,Dp y.2 hy,akH,zq (show i<4611686018427387904 by omega),akN,akM];rw[if_pos (by omega)]
theorem ZC (x:zb) (hw:ze x<=137438953472):yw (x,())=some (x,()):=by
 unfold yw;simp only[ze,Jy,J5] at hw;simp only[kv x.2.2.2.1 (by omega),Dm x.2.2.2.2.2.1 (by omega),kz x.2.2.2.2.2.2.1 (by omega),Dq x.2.2.2.2.2.2.2 (by omega),akH];rw[if_pos (by omega)]; rfl
theorem mR (x:y9) (hw:x.length<=137438953472):Lj (x,())=some (x,()):=by
 unfold Lj;dsimp only;rw[if_pos (by omega)]
theorem NS (x:zH) (hw:zi x<=137438953472):Ki (x,())=some (x,()):=by
 unfold Ki;simp only[mR x.2.2 (by simp only[zi,zn] at hw; omega),Option.bind_some]
theorem QR (x:zG) (hw:zk x<=137438953472):JM (x,())=some (x,()):=by
 unfold JM;simp only[mR x.2.2 (by simp only[zk,zn] at hw; omega),Option.bind_some]
theorem dU (x:zB) (hw:zu x<=137438953472):Mc (x,())=some (x,()):=by
 unfold Mc;simp only[NS x.2.2.1 (by simp only[zu] at hw; omega),Option.bind_some]
theorem Sq (x:zF) (hw:Jy x<=137438953472):dV (x,())=some (x,()):=by
 unfold dV;dsimp only;simp only[Jy] at hw;rw[if_pos (by omega)]
theorem So (x:yE) (hw:zp x<=137438953472):dQ (x,())=some (x,()):=by
 unfold dQ;simp only[NS x.2 (by simp only[zp] at hw; omega),Option.bind_some]
theorem uU (x:zv) (hw:zj x<=137438953472):QQ (x,())=some (x,()):=by
 unfold QQ;simp only[zj] at hw;simp only[So x.2.2.1 (by omega),QR x.2.2.2.1 (by omega),NS x.2.2.2.2.1 (by omega),akH]
theorem uV (x:zV) (hw:zE x<=137438953472):YM (x,())=some (x,()):=by
 have hl:x.length<=137438953472:=by unfold zE at hw; omega
 unfold YM;refine Nn (λ i s=>(s,i,())) x (λ s=>some (s,())) (by omega) ?_ ?_
 ·intro rec s hs; simp
 ·intro rec i s y hx hi hs;have hy:zk y<=137438953472:=by have:=ZS zk (List.mem_of_getElem? hx); unfold zE at hw; omega
  simp only[akT,zw hi,akP,akJ,if_true,akY,zt (e:=(.pair .i64 (.pair .str (.sl 0 .i64)))) hx,QR y hy,akH,zq (show i<4611686018427387904 by omega),akN,akM];rw[if_pos (by omega)]
theorem Sp (x:j0) (hw:yo x<=137438953472):dR (x,())=some (x,()):=by
 have hl:x.length<=137438953472:=by unfold yo at hw; omega
 unfold dR;refine Nn (λ i s=>(s,i,())) x (λ s=>some (s,())) (by omega) ?_ ?_
 ·intro rec s hs; simp
 ·intro rec i s y hx hi hs;have hy:zj y.2<=137438953472:=by have:=ZS Ye (List.mem_of_getElem? hx); simp only[Ye] at this; unfold yo at hw; omega
  simp only[akT,zw hi,akP,akJ,if_true,akY,zt (e:=(.pair .i64 (.pair .i64 (.pair .i64 (.pair (.pair .str (.pair .i64 (.pair .str (.sl 0 .i64)))) (.pair (.pair .i64 (.pair .str (.sl 0 .i64))) (.pair (.pair .i64 (.pair .str (.sl 0 .i64))) (.pair .i64 (.pair .i64 (.pair .i64 (.pair .i64 .i64))))))))))) hx,uU y.2 hy,akH,zq (show i<4611686018427387904 by omega),akN,akM];rw[if_pos (by omega)]
theorem dS (x:zb) (hw:ze x<=137438953472):jJ (x,())=some (x,()):=by
 unfold jJ;simp only[ze] at hw;have h5:x.2.2.2.2.2.2.1.1.length<=137438953472:=by simp only[J5] at hw; omega
 simp only[dU x.2.2.2.1 (by omega),Sq x.2.2.2.2.1 (by omega),uV x.2.2.2.2.2.1 (by omega),uT x.2.2.2.2.2.2.1 (by omega),Sp x.2.2.2.2.2.2.2 (by omega),akH]
theorem ab9 (w:zA) (hw:Yf w<=137438953472):kM (w,())=some (w,()):=by
 have hr:M7 w.2.2.1<=137438953472:=by simp only[Yf] at hw; omega
 have hs:Qi w.2.2.2.1<=137438953472:=by simp only[Yf] at hw; omega
 have h1:w.2.1.length<=137438953472:=by simp only[Yf,zn] at hw; omega
 have h2:w.2.2.2.2.length<=137438953472:=by simp only[Yf,LN] at hw; omega
 have h3:w.2.2.1.length<=137438953472:=by unfold M7 at hr; omega
 have h4:w.2.2.2.1.length<=137438953472:=by unfold Qi at hs; omega
 unfold kM;dsimp only;rw[if_pos (by omega),if_pos (by omega)];refine (Nn (λ i (s:Yz)=>(i,(w.1,[]++w.2.1,s,[],[]++w.2.2.2.2),())) w.2.2.1 (λ s=>some ((w.1,[]++w.2.1,s,w.2.2.2.1,[]++w.2.2.2.2),())) (by omega) ?_ ?_).trans (by simp)
 ·intro rec s hs';simp only[ala,akQ,akI];refine Nn (λ i (t:ju)=>(i,(w.1,[]++w.2.1,s,t,[]++w.2.2.2.2),())) w.2.2.2.1 (λ t=>some ((w.1,[]++w.2.1,s,t,[]++w.2.2.2.2),())) (by omega) ?_ ?_
  ·intro rec t ht; simp
  ·intro rec i t y hx hi ht;have hy:M8 y<=137438953472:=by have:=ZS M8 (List.mem_of_getElem? hx); unfold Qi at hs; omega
   simp only[M8,sJ] at hy;simp only[akT,zw hi,akP,akJ,if_true,akY,zt (e:=(.pair .i64 (.sl 0 .u8))) hx,zq (show i<4611686018427387904 by omega),akN,akM];rw[if_pos (by omega),if_pos (by omega)];rfl
 ·intro rec i s y hx hi hs';have hy:ze y<=137438953472:=by have:=ZS ze (List.mem_of_getElem? hx); unfold M7 at hr; omega
  simp only[akT,zw hi,akP,akJ,if_true,akY,zt (e:=(.pair .i64 (.pair .i64 (.pair .i64 (.pair (.pair .i64 (.pair .i64 (.pair (.pair .i64 (.pair .str (.sl 0 .i64))) .str))) (.pair (.sl 0 (.pair .i64 (.pair .i64 (.pair .i64 .i64)))) (.pair (.sl 0 (.pair .i64 (.pair .str (.sl 0 .i64)))) (.pair (.pair (.sl 0 .u8) .i64) (.sl 0 (.pair .i64 (.pair .i64 (.pair .i64 (.pair (.pair .str (.pair .i64 (.pair .str (.sl 0 .i64)))) (.pair (.pair .i64 (.pair .str (.sl 0 .i64))) (.pair (.pair .i64 (.pair .str (.sl 0 .i64))) (.pair .i64 (.pair .i64 (.pair .i64 (.pair .i64 .i64))))))))))))))))))) hx,ZC y hy,akH,zq (show i<4611686018427387904 by omega),akN,akM];rw[if_pos (by omega)]
end G448
namespace G448
open Ev Go
theorem D4 {S X R:Type} (n:Nat) {G:(X->Option R)->X->Option R} (mk:Int->S->X) (I:Nat->S->Prop) (f:Nat->S->Option R) (hn:n<=1152921504606846976)
  (ace:∀ rec s,I n s->G rec (mk (n:Int) s)=f n s)
  (ac9:∀ rec (i:Nat) s,i<n->I i s->(G rec (mk (i:Int) s)=f i s)∨∃ s',I (i+1) s'/\G rec (mk (i:Int) s)=rec (mk ((i:Int)+1) s')/\f i s=f (i+1) s') {s0:S} (i0:Nat) (hi0:i0<=n) (h0:I i0 s0):
  iter G fuel (mk (i0:Int) s0)=f i0 s0:=by
 have key:∀ (m i:Nat) (s:S),i<=n->n - i<m->I i s->iter G m (mk (i:Int) s)=f i s:=by
  intro m;induction m with
  | zero=>intro i s h1 h2 h3; omega
  | succ m ih=>
   intro i s h1 h2 h3;rcases Nat.lt_or_ge i n with h|h
   ·rcases ac9 (iter G m) i s h h3 with g|⟨s',g1,g2,g3⟩
    ·exact g
    ·rw[g3];have e1:iter G (m+1) (mk (i:Int) s)=iter G m (mk ((i:Int)+1) s'):=g2;rw[e1];exact ih (i+1) s' h (by omega) g1
   ·have hi:i=n:=by omega
    subst hi;exact ace (iter G m) s h3
 exact key fuel i0 s0 hi0 (by have:=YG hn; omega) h0
theorem walk {S X R:Type} (n:Nat) {G:(X->Option R)->X->Option R} (mk:Int->S->X) (I:Nat->S->Prop) (f:Nat->S->Option R) (hn:n<=1152921504606846976)
  (ace:∀ rec s,I n s->G rec (mk (n:Int) s)=f n s)
  (ac9:∀ rec (i:Nat) s,i<n->I i s->(G rec (mk (i:Int) s)=f i s)∨∃ s',I (i+1) s'/\G rec (mk (i:Int) s)=rec (mk ((i:Int)+1) s')/\f i s=f (i+1) s') {s0:S} (h0:I 0 s0):
  iter G fuel (mk 0 s0)=f 0 s0:=D4 n mk I f hn ace ac9 0 (Nat.zero_le _) h0
def glue (u:List UInt8):List (List UInt8)->List (List UInt8)
 | p::r=>(u++p)::r
 | []=>[u]
def zQ (c:UInt8):List UInt8->List (List UInt8)
 | []=>[[]]
 | x::l=>if x=c then []::zQ c l else glue [x] (zQ c l)
theorem YT (c:UInt8):∀ s,zQ c s≠[]
 | []=>by simp[zQ]
 | x::l=>by
  simp only[zQ];split
  ·simp
  ·cases zQ c l<;>simp[glue]
theorem RI (u v:List UInt8) {l:List (List UInt8)} (h:l≠[]):glue u (glue v l)=glue (u++v) l:=by
 cases l with
 | nil=>exact absurd rfl h
 | cons p r=>simp[glue]
theorem ux {l:List (List UInt8)} (h:l≠[]):glue [] l=l:=by
 cases l with
 | nil=>exact absurd rfl h
 | cons p r=>simp[glue]
theorem ph (c:UInt8):∀ s,c∉s->zQ c s=[s]
 | [],_=>rfl
 | x::l,h=>by
  simp only[al4,not_or] at h;simp only[zQ,if_neg (Ne.symm h.1),ph c l h.2,glue,List.singleton_append]
theorem A2 (c:UInt8) (post:List UInt8):∀ pre,c∉pre->zQ c (pre++c::post)=pre::zQ c post
 | [],_=>by simp[zQ]
 | x::l,h=>by
  simp only[al4,not_or] at h;simp only[alP,zQ,if_neg (Ne.symm h.1),A2 c post l h.2,glue,al9]
theorem aS (c:UInt8):∀ s,(zQ c s).length<=s.length+1
 | []=>by simp[zQ]
 | x::l=>by
  have:=aS c l;simp only[zQ];split
  ·simp; omega
  ·cases hp:zQ c l with
   | nil=>simp[glue]
   | cons p r=>rw[hp] at this; simp[glue] at this ⊢; omega
def yH (c:UInt8):List UInt8->Option (List UInt8×List UInt8)
 | []=>none
 | x::l=>if x=c then some ([],l) else (yH c l).map λ p=>(x::p.1,p.2)
theorem tR (c:UInt8):∀ s,c∉s->yH c s=none
 | [],_=>rfl
 | x::l,h=>by
  simp only[al4,not_or] at h;simp only[yH,if_neg (Ne.symm h.1),tR c l h.2,Option.map_none]
theorem Qs (c:UInt8) (post:List UInt8):∀ pre,c∉pre->yH c (pre++c::post)=some (pre,post)
 | [],_=>by simp[yH]
 | x::l,h=>by
  simp only[al4,not_or] at h;simp only[alP,yH,if_neg (Ne.symm h.1),Qs c post l h.2,alo]
theorem mr (c:UInt8):∀ {s p q},yH c s=some (p,q)->p.length+q.length+1=s.length/\s=p++c::q
 | [],p,q,h=>by cases h
 | x::l,p,q,h=>by
  simp only[yH] at h;split at h
  ·next e=>cases h; subst e; simp
  ·obtain⟨⟨p',q'⟩,h1,h2⟩:=Option.map_eq_some_iff.1 h;cases h2;obtain⟨g1,g2⟩:=mr c h1;exact⟨by simp; omega,by rw[g2]; simp⟩
theorem tw (c:UInt8) (s:List UInt8):(c∉s/\Lib.indexByte s c = -1)∨∃ pre post,s=pre++c::post/\c∉pre/\Lib.indexByte s c=(pre.length:Int):=by
 rcases Int.lt_or_le (Lib.indexByte s c) 0 with h|h
 ·have e:Lib.indexByte s c = -1:=by
   have:=Lib.index_ge s [c];rw[Lib.index_one] at this;omega
  left;refine⟨λ hm => ?_,e⟩;obtain⟨k,hk⟩:=List.getElem?_of_mem hm;exact Lib.indexByte_none e k hk
 ·right;obtain⟨o,ho⟩:∃ o:Nat,Lib.indexByte s c=(o:Int):=⟨(Lib.indexByte s c).toNat,by omega⟩
  obtain⟨h1,h2⟩:=Lib.indexByte_some ho;have hlt:o<s.length:=by
   rcases Nat.lt_or_ge o s.length with h'|h'
   ·exact h'
   ·rw[alb h'] at h1; cases h1
  refine⟨s.take o,s.drop (o+1),?_,?_,by rw[ho]; simp; omega⟩
  ·have e:s[o]=c:=by rw[alz hlt] at h1; exact Option.some.inj h1
   rw[←e,←al1 hlt,amf]
  ·intro hm;obtain⟨k,hk⟩:=List.getElem?_of_mem hm;rw[alR] at hk;split at hk
   ·exact h2 k (by assumption) hk
   ·cases hk
theorem Dv (c:UInt8):∀ (k:Nat) (s:List UInt8),s.count c<=k->Lib.splitK [c] 0 k s=zQ c s
 | 0,s,h=>by
  have:c∉s:=λ hm=>by have:=List.count_pos_iff.2 hm; omega
  rw[ph c s this]; rfl
 | k+1,s,h=>by
  unfold Lib.splitK;rw[Lib.index_one];rcases tw c s with⟨h1,h2⟩|⟨pre,post,rfl,h1,h2⟩
  ·rw[h2,ph c s h1]; rfl
  ·rw[h2,A2 c post pre h1];have e:((pre.length:Int) == -1)=false:=by simp
   rw[e];have hd:(pre++c::post).drop ((pre.length:Int).toNat+[c].length)=post:=by
    rw[akT,amP,←alD]; simp
   have ht:(pre++c::post).take ((pre.length:Int).toNat+0)=pre:=by simp
   simp only[al6,if_false];rw[hd,ht,Dv c k post (by simp[List.count_append,List.count_cons] at h; omega)]
theorem TK (c:UInt8) (s:List UInt8):Lib.split s [c]=zQ c s:=by
 unfold Lib.split;refine Dv c _ s ?_;rw[Lib.count_one];exact Nat.le_refl _
theorem TJ (c:UInt8) (s:List UInt8):Lib.cut s [c]=match yH c s with|some p=>(p.1,p.2,true)|none=>(s,[],false):=by
 unfold Lib.cut;rw[Lib.index_one];rcases tw c s with⟨h1,h2⟩|⟨pre,post,rfl,h1,h2⟩
 ·rw[h2,tR c s h1,if_neg (by decide)]
 ·rw[h2,Qs c post pre h1,if_pos (by omega)];have hd:(pre++c::post).drop ((pre.length:Int).toNat+[c].length)=post:=by
   rw[akT,amP,←alD]; simp
  have ht:(pre++c::post).take ((pre.length:Int).toNat)=pre:=by simp
  rw[hd,ht]
theorem c8 {s:List UInt8} {i:Nat} {x:UInt8} (h:s[i]?=some x):s.getD i 0=x:=by rw[als,h]; rfl
theorem XT {s:List UInt8} {start i:Nat} (h:start<=i) (hi:i<s.length):(s.drop start).take (i+1 - start)=(s.drop start).take (i - start)++[s[i]]:=by
 rw[show i+1 - start=(i - start)+1 by omega,amc];congr 1;rw[am0,show start+(i - start)=i by omega,alz hi]; rfl
theorem De (s:List UInt8) (c:UInt8) (hs:s.length<=137438953472):bN (s,c,())=some (zQ c s,()):=by
 unfold bN;dsimp only;refine (walk (s.length+1) (λ i (t:List (List UInt8)×Nat)=>(t.1,(t.2:Int),i,())) (λ i t=>t.2<=i/\t.1.length<=i)
  (λ i t=>some (if i<=s.length then t.1++glue ((s.drop t.2).take (i - t.2)) (zQ c (s.drop i)) else t.1,())) (by omega) ?_ ?_ (s0:=([],0)) ⟨Nat.le_refl _,Nat.zero_le _⟩).trans ?_
 ·intro rec t ht;have:¬ (((s.length+1:Nat):Int)<=(s.length:Int)):=by omega
  simp only[this,akQ,akI];rw[if_neg (by omega)]
 ·intro rec i t hi ht;right;obtain⟨h1,h2⟩:=ht;have g:((i:Int)<=(s.length:Int)):=by omega
  by_cases he:i=s.length
  ·subst he;refine⟨(t.1++[(s.drop t.2).take (s.length - t.2)],s.length+1),⟨Nat.le_refl _,by simp; omega⟩,?_,?_⟩
   ·simp only[g,akP,akJ,beq_self_eq_true,akT,zq (show s.length<4611686018427387904 by omega),akN,akM];rw[if_pos (by first|omega|(simp only[true_and,and_true]; omega)),if_pos (by first|omega|(simp only[true_and,and_true]; omega))]
    rfl
   ·rw[if_pos (aly _),if_neg (by omega)]; simp[zQ,glue]
  ·have hlt:i<s.length:=by omega
   have hx:s[i]?=some s[i]:=List.getElem?_eq_getElem hlt;have e1:((i:Int)==(s.length:Int))=false:=by simp; omega
   have g2:(0:Int)<=(i:Int)/\(i:Int)<(s.length:Int):=by omega
   simp only[g,akP,akJ,e1,akI,g2,akY,if_true,akT,c8 hx,zq (show i<4611686018427387904 by omega),akN,akM];by_cases hc:s[i]=c
   ·refine⟨(t.1++[(s.drop t.2).take (i - t.2)],i+1),⟨Nat.le_refl _,by simp; omega⟩,?_,?_⟩
    ·have:(s[i]==c)=true:=by simp[hc]
     simp only[this,akJ];rw[if_pos (by first|omega|(simp only[true_and,and_true]; omega)),if_pos (by first|omega|(simp only[true_and,and_true]; omega))]
     rfl
    ·rw[if_pos (by omega),if_pos (by omega),al1 hlt,zQ,if_pos hc];simp only[Nat.sub_self,List.take_zero,ux (YT _ _)];simp[glue]
   ·refine⟨t,⟨by omega,by omega⟩,?_,?_⟩
    ·have:(s[i]==c)=false:=by simp[hc]
     simp only[this,akI]
    ·rw[if_pos (by omega),if_pos (by omega),XT h1 hlt,al1 hlt,zQ,if_neg hc,RI _ _ (YT _ _)]
 ·simp[ux (YT _ _)]
theorem uO (s:List UInt8) (c:UInt8) (hs:s.length<=1073741824):QL (s,c,())=some (zQ c s,()):=by
 unfold QL strings_Split;dsimp only;rw[if_pos ⟨by omega,by simp⟩,TK]; rfl
theorem aba (s:List UInt8) (c:UInt8) (hs:s.length<=137438953472):
  LH (s,c,())=match yH c s with|some p=>some (p.1,p.2,true,())|none=>some ([],[],false,()):=by
 unfold LH;dsimp only;refine (walk s.length (λ i (_:Unit)=>(i,())) (λ _ _=>True) (λ i _=>match yH c (s.drop i) with|some p=>some (s.take i++p.1,p.2,true,())|none=>some ([],[],false,())) (by omega) ?_ ?_ (s0:=()) trivial).trans ?_
 ·intro rec t ht;simp[yH]
 ·intro rec i t hi ht;have hx:s[i]?=some s[i]:=List.getElem?_eq_getElem hi;simp only[zw hi,akP,akJ,akY,if_true,akT,c8 hx,zq (show i<4611686018427387904 by omega)];rw[al1 hi];by_cases hc:s[i]=c
  ·left;have:(s[i]==c)=true:=by simp[hc]
   simp only[this,akJ];rw[if_pos (by first|omega|(simp only[true_and,and_true]; omega)),if_pos (by first|omega|(simp only[true_and,and_true]; omega))]
   simp only[yH,if_pos hc];congr 2
   ·simp
   ·congr 1;have:(((i:Int)+1).toNat)=i+1:=by omega
    rw[this,am1 (by simp)]
  ·right;have:(s[i]==c)=false:=by simp[hc]
   refine⟨(),trivial,by simp only[this,akI],?_⟩;simp only[yH,if_neg hc];rw[amc,hx];cases yH c (s.drop (i+1)) with
   | none=>rfl
   | some p=>simp only[alo,Option.toList_some,alr,List.singleton_append]
 ·simp
theorem Ys (x lo hi:Int):yk (x,lo,hi,())=some (decide (x≥lo) && decide (x<=hi),()):=by
 unfold yk;by_cases h:x≥lo<;>simp[h]
theorem Lk (x lo hi:Int):y6 (x,lo,hi,())=some (decide (x≥lo) && decide (x<=hi),()):=by
 unfold y6;by_cases h:x≥lo<;>simp[h]
theorem abs (u:Nat):yC (48+((u % 10:Nat):Int))=UInt8.ofNat (48+u % 10):=by
 rw[DK];congr 1;omega
theorem ME (u:Nat) (h:u<=9223372036854775807):Js ((u:Int),())=some (Lib.decDigits u,()):=by
 unfold Js;dsimp only;by_cases h0:u=0
 ·subst h0;have:Lib.decDigits 0=[48]:=by rw[Lib.decDigits]; rfl
  rw[this];rfl
 have e0:((u:Int)==0)=false:=by simp; omega
 have en:¬ ((u:Int)<0):=by omega
 simp only[e0,akI,en,akQ];refine (QW (λ x:Int×List UInt8×Unit=>some ((if x.1=0 then [] else Lib.decDigits x.1.toNat)++x.2.1,())) (λ x=>x.1.toNat)
  (λ x=>0<=x.1/\x.1<=9223372036854775807/\∃ k,x.1.toNat<10 ^ k/\k+x.2.1.length<=20) ?_ fuel ((u:Int),[],()) ⟨by simp,by simp only; omega,20,by
   simp only[akT];exact Nat.lt_of_le_of_lt h (by decide),by simp⟩ (by simp only[akT,ja]; omega)).trans ?_
 ·rintro rec ⟨v,out,⟨⟩⟩ ⟨h1,acy,k,h2,h3⟩ abX;obtain⟨n,rfl⟩:∃ n:Nat,v=(n:Int):=⟨v.toNat,by simp only at h1; omega⟩
  simp only[akT] at h2;by_cases hn:n=0
  ·subst hn;simp
  have e1:((n:Int) != 0)=true:=by simp; omega
  have e2:Int.tmod (n:Int) 10=((n % 10:Nat):Int):=by simp[Int.tmod]
  have e3:Int.tdiv (n:Int) 10=((n / 10:Nat):Int):=by simp[Int.tdiv]
  have e4:¬ (((n % 10:Nat):Int)<0):=by omega
  simp only at acy h3;have hk:1<=k:=by
   rcases Nat.eq_zero_or_pos k with h'|h'
   ·subst h'; simp at h2; omega
   ·exact h'
  simp only[e1,akJ,e2,e3,e4,akQ,akI];rw[zh (show (-9223372036854775808:Int)<=48+((n % 10:Nat):Int) by omega) (show 48+((n % 10:Nat):Int)<=9223372036854775807 by omega),abs,
   zh (show (-9223372036854775808:Int)<=((n / 10:Nat):Int) by omega) (show ((n / 10:Nat):Int)<=9223372036854775807 by omega)]
  rw[if_pos (by simp only[akN,akM]; omega)]
  rw[abX (((n / 10:Nat):Int),[UInt8.ofNat (48+n % 10)]++out,()) ⟨by simp only; omega,by simp only; omega,k - 1,by
   simp only[akT];have:10 ^ k=10 ^ (k - 1)*10:=by rw[←am4]; congr 1; omega
   omega,by simp only[akR,akN,akM]; omega⟩ (by simp only[akT]; omega)]
  simp only[akT];rw[if_neg (show ¬ ((n:Int)=0) by omega)];by_cases h10:n<10
  ·have:n / 10=0:=by omega
   rw[this,if_pos (by rfl),Lib.decDigits,dif_pos h10];have:n % 10=n:=by omega
   rw[this]; rfl
  ·rw[if_neg (by omega)]
   conv=>rhs; rw[Lib.decDigits,dif_neg h10]
   simp
 ·simp only[akT];rw[if_neg (by omega)]; simp
theorem RV (n:Int):Kf (n,())=some (Lib.itoa n,()):=rfl
theorem QC (u:Nat):Kf ((u:Int),())=some (Lib.decDigits u,()):=by
 rw[RV,Lib.itoa,if_neg (by omega)]; simp
def j6 (b:UInt8):Bool := !(decide (b<UInt8.ofNat 48)) && !(decide (b>UInt8.ofNat 57))
def Zb (l:List UInt8) (v:Nat):Nat:=l.foldl (λ v b=>10*v+(b.toNat - 48)) v
def zy (s:List UInt8):Int×Bool:=
 if 1<=s.length/\s.length<=6/\s.all j6=true/\Lib.decDigits (Zb s 0)=s then ((Zb s 0:Nat),true) else (0,false)
theorem QU (b:UInt8):j6 b=true↔48<=b.toNat/\b.toNat<=57:=by
 unfold j6;simp only[akK,ale,alX,UInt8.lt_iff_toNat_lt,gt_iff_lt];simp
theorem pj {i:Nat} (h:i<=6):10 ^ i<=1000000:=Nat.pow_le_pow_right (n:=10) (by decide) h
theorem wb {dig:Int×Unit->Option (List UInt8×Unit)} (hd:∀ u:Nat,u<=9223372036854775807->dig ((u:Int),())=some (Lib.decDigits u,())) (s:List UInt8) (h6:s.length<=6) {G:(Int×Int×Unit->Option (Int×Bool×Unit))->Int×Int×Unit->Option (Int×Bool×Unit)}
  (ace:∀ rec (v:Int),G rec (v,(s.length:Int),())=(dig (v,())).bind λ r1=>bif r1.1 != s then some (0,false,()) else some (v,true,()))
  (ac9:∀ rec (i v:Nat) (b:UInt8),s[i]?=some b->i<s.length->v<10 ^ i->G rec ((v:Int),(i:Int),())=if j6 b=true then rec (((10*v+(b.toNat - 48):Nat):Int),(i:Int)+1,()) else some (0,false,())):
  iter G fuel (0,0,())=some (if s.all j6=true/\Lib.decDigits (Zb s 0)=s then (((Zb s 0:Nat):Int),true,()) else (0,false,())):=by
 refine (walk s.length (λ i (v:Nat)=>((v:Int),i,())) (λ i v=>v<10 ^ i)
  (λ i v=>some (if (s.drop i).all j6=true/\Lib.decDigits (Zb (s.drop i) v)=s then (((Zb (s.drop i) v:Nat):Int),true,()) else (0,false,()))) (by omega) ?_ ?_ (s0:=0) (by decide)).trans (by simp)
 ·intro rec v hv;have:=pj h6;rw[ace,hd v (by omega)];simp only[akH,alh,List.all_nil,Zb,List.foldl_nil,true_and];by_cases e:Lib.decDigits v=s
  ·have:(Lib.decDigits v != s)=false:=by simp[e]
   rw[if_pos e,this]; rfl
  ·have:(Lib.decDigits v != s)=true:=by simp[e]
   rw[if_neg e,this]; rfl
 ·intro rec i v hi hv;have hx:s[i]?=some s[i]:=List.getElem?_eq_getElem hi;rw[ac9 rec i v s[i] hx hi hv,List.drop_eq_getElem_cons hi];by_cases hb:j6 s[i]=true
  ·right;refine⟨10*v+(s[i].toNat - 48),?_,by rw[if_pos hb],?_⟩
   ·have:=(QU _).1 hb;rw[am4]; omega
   ·have e:Zb (s[i]::List.drop (i+1) s) v=Zb (List.drop (i+1) s) (10*v+(s[i].toNat - 48)):=rfl;rw[alg,hb,akZ,e]
  ·left;rw[if_neg hb,if_neg (λ h=>hb (by have:=h.1; rw[alg,akK] at this; exact this.1))]
theorem tN {α:Type} (b:UInt8) (x y:α):(bif decide (b<UInt8.ofNat (Int.toNat 48)) then y else bif decide (b>UInt8.ofNat (Int.toNat 57)) then y else x)=if j6 b=true then x else y:=by
 unfold j6;simp only[show Int.toNat 48=48 from rfl,show Int.toNat 57=57 from rfl];cases decide (b<UInt8.ofNat 48)<;>cases decide (b>UInt8.ofNat 57)<;>simp
theorem eP (s:List UInt8) (h:¬ (1<=s.length/\s.length<=6)):zy s=(0,false):=by
 unfold zy;rw[if_neg (λ hh=>h ⟨hh.1,hh.2.1⟩)]
theorem wa (s:List UInt8) (h:1<=s.length/\s.length<=6):
  (some (if s.all j6=true/\Lib.decDigits (Zb s 0)=s then (((Zb s 0:Nat):Int),true,()) else (0,false,())):Option (Int×Bool×Unit))=some ((zy s).1,(zy s).2,()):=by
 unfold zy;by_cases hc:s.all j6=true/\Lib.decDigits (Zb s 0)=s
 ·rw[if_pos hc,if_pos ⟨h.1,h.2,hc⟩]
 ·rw[if_neg hc,if_neg (λ hh=>hc hh.2.2)]
theorem Da (s:List UInt8):LC (s,())=some ((zy s).1,(zy s).2,()):=by
 unfold LC;dsimp only;by_cases h1:(s.length:Int)<1
 ·rw[eP s (by omega)]; simp only[h1,akP,akJ]
 by_cases h6:(s.length:Int)>6
 ·rw[eP s (by omega)]; simp only[h1,akQ,akI,h6,akP,akJ]
 simp only[h1,akQ,akI,h6];refine (wb (dig:=Js) ME s (by omega) ?_ ?_).trans (wa s (by omega))
 ·intro rec v; simp
 ·intro rec i v b hx hi hv;have hp:=pj (i:=i) (by omega);simp only[zw hi,akP,akJ,akY,if_true,akT,c8 hx,zq (show i<4611686018427387904 by omega)];rw[tN];by_cases hb:j6 b=true
  ·have:=(QU _).1 hb;rw[if_pos hb,if_pos hb,zh (n:=10*(v:Int)) (by omega) (by omega),zh (n:=10*(v:Int)+_) (by omega) (by omega),zh (by omega) (by omega)];congr 2;omega
  ·rw[if_neg hb,if_neg hb]
theorem uI (s:List UInt8):QE (s,())=some ((zy s).1,(zy s).2,()):=by
 unfold QE;dsimp only;by_cases h1:(s.length:Int)<1
 ·rw[eP s (by omega)]; simp only[h1,akP,akJ]
 by_cases h6:(s.length:Int)>6
 ·rw[eP s (by omega)]; simp only[h1,akQ,akI,h6,akP,akJ]
 simp only[h1,akQ,akI,h6];refine (wb (dig:=Kf) (λ u _=>QC u) s (by omega) ?_ ?_).trans (wa s (by omega))
 ·intro rec v; simp
 ·intro rec i v b hx hi hv;have hp:=pj (i:=i) (by omega);simp only[zw hi,akP,akJ,akY,if_true,akT,c8 hx,zq (show i<4611686018427387904 by omega)];rw[tN];by_cases hb:j6 b=true
  ·have:=(QU _).1 hb;have ada:(b - UInt8.ofNat (Int.toNat 48)).toNat=b.toNat - 48:=by
    rw[UInt8.toNat_sub_of_le]
    ·rfl
    ·rw[UInt8.le_iff_toNat_le]; exact this.1
   rw[if_pos hb,if_pos hb,ada,zh (n:=10*(v:Int)) (by omega) (by omega),zh (by omega) (by omega)];congr 2
  ·rw[if_neg hb,if_neg hb]
theorem Uh (l:List UInt8) (b:UInt8) (v:Nat):Zb (l++[b]) v=10*Zb l v+(b.toNat - 48):=by simp[Zb]
theorem cQ {u:Nat} (h:u<10):(UInt8.ofNat (48+u)).toNat=48+u:=by
 rw[UInt8.toNat_ofNat']; omega
theorem tS:∀ u:Nat,(Lib.decDigits u).all j6=true/\Zb (Lib.decDigits u) 0=u:=by
 intro u;induction u using Nat.strongRecOn with
 | _ u ih=>
  by_cases h:u<10
  ·rw[Lib.decDigits,dif_pos h];have hd:j6 (UInt8.ofNat (48+u))=true:=(QU _).2 (by rw[cQ h]; omega)
   refine⟨by rw[alg,hd]; rfl,?_⟩
   simp only[Zb,alx,List.foldl_nil];rw[cQ h]; omega
  ·rw[Lib.decDigits,dif_neg h];obtain⟨h1,h2⟩:=ih (u / 10) (by omega);have hd:j6 (UInt8.ofNat (48+u % 10))=true:=(QU _).2 (by rw[cQ (by omega)]; omega)
   refine⟨by rw[List.all_append,h1,alg,hd]; rfl,?_⟩
   rw[Uh,h2,cQ (by omega)]; omega
theorem tT (u:Nat) (h:u<1000000):1<=(Lib.decDigits u).length/\(Lib.decDigits u).length<=6:=by
 rw[Lib.decDigits_length];refine⟨Lib.nDigits_pos u,?_⟩;have key:∀ k u:Nat,u<10 ^ (k+1)->Lib.nDigits u<=k+1:=by
  intro k;induction k with
  | zero=>intro u h; rw[Lib.nDigits_small (by simpa using h)]; exact Nat.le_refl _
  | succ k ih=>
   intro u h;by_cases hu:u<10
   ·rw[Lib.nDigits_small hu]; omega
   ·rw[Lib.nDigits_big hu];have:=ih (u / 10) (by rw[am4] at h; omega)
    omega
 exact key 5 u (by simpa using h)
theorem eO (u:Nat) (h:u<1000000):zy (Lib.decDigits u)=((u:Int),true):=by
 obtain⟨h1,h2⟩:=tS u;obtain⟨h3,h4⟩:=tT u h;unfold zy;rw[if_pos ⟨h3,h4,h1,by rw[h2]⟩,h2]
theorem mt {u:Nat} {c:UInt8} (hc:j6 c=false):c∉Lib.decDigits u:=by
 intro hm;have:=List.all_eq_true.1 (tS u).1 c hm;rw[hc] at this; cases this
def zO (t:zP):Bool:=(decide (t.1≥0) && decide (t.1<=3)) && ((decide (t.2.1≥0) && decide (t.2.1<=3)) && ((decide (t.2.2.1≥0) && decide (t.2.2.1<=1000)) && (decide (t.2.2.2≥0) && decide (t.2.2.2<=99))))
theorem Qc (t:zP):zO t=true↔(0<=t.1/\t.1<=3)/\(0<=t.2.1/\t.2.1<=3)/\(0<=t.2.2.1/\t.2.2.1<=1000)/\(0<=t.2.2.2/\t.2.2.2<=99):=by
 unfold zO; simp only[akK,akV,ge_iff_le]
theorem MP (t:zP):KN (t,())=some (zO t,()):=by
 unfold KN zO;simp only[Ys,akH];cases (decide (t.1≥0) && decide (t.1<=3))<;>cases (decide (t.2.1≥0) && decide (t.2.1<=3))<;>cases (decide (t.2.2.1≥0) && decide (t.2.2.1<=1000))<;>rfl
theorem QN (t:zP):Li (t,())=some (zO t,()):=by
 unfold Li zO;simp only[Lk,akH];cases (decide (t.1≥0) && decide (t.1<=3))<;>cases (decide (t.2.1≥0) && decide (t.2.1<=3))<;>cases (decide (t.2.2.1≥0) && decide (t.2.2.1<=1000))<;>rfl
def yM (t:zP):List UInt8:=
 if zO t=true then (((((Lib.decDigits t.1.toNat++[62])++Lib.decDigits t.2.1.toNat)++[58])++Lib.decDigits t.2.2.1.toNat)++[35])++Lib.decDigits t.2.2.2.toNat else []
theorem dl (u:Nat) (h:u<1000000):(Lib.decDigits u).length<=6:=(tT u h).2
theorem lr (t:zP):(yM t).length<=27:=by
 unfold yM;split
 ·next h=>
  have:=(Qc t).1 h;have h1:=dl t.1.toNat (by omega);have h2:=dl t.2.1.toNat (by omega);have h3:=dl t.2.2.1.toNat (by omega);have h4:=dl t.2.2.2.toNat (by omega);simp only[akR,akN,akM];omega
 ·simp
theorem Dg (t:zP):qJ (t,())=some (yM t,()):=by
 unfold qJ yM;simp only[MP,akH];by_cases h:zO t=true
 ·have hh:=(Qc t).1 h;have d1:=ME t.1.toNat (by omega);have d2:=ME t.2.1.toNat (by omega);have d3:=ME t.2.2.1.toNat (by omega);have d4:=ME t.2.2.2.toNat (by omega);rw[amv (by omega)] at d1 d2 d3 d4;have h1:=dl t.1.toNat (by omega);have h2:=dl t.2.1.toNat (by omega);have h3:=dl t.2.2.1.toNat (by omega);have h4:=dl t.2.2.2.toNat (by omega);simp only[h,akO,akI,d1,d2,d3,d4,akH,akR,akN,akM,if_true];rw[if_pos (by omega),if_pos (by omega),if_pos (by omega),if_pos (by omega),if_pos (by omega),if_pos (by omega)]
 ·have:zO t=false:=by simpa using h
  simp[this]
theorem Si (t:zP):QO (t,())=some (yM t,()):=by
 unfold QO yM;simp only[QN,akH];by_cases h:zO t=true
 ·have hh:=(Qc t).1 h;have d1:=QC t.1.toNat;have d2:=QC t.2.1.toNat;have d3:=QC t.2.2.1.toNat;have d4:=QC t.2.2.2.toNat;rw[amv (by omega)] at d1 d2 d3 d4;have h1:=dl t.1.toNat (by omega);have h2:=dl t.2.1.toNat (by omega);have h3:=dl t.2.2.1.toNat (by omega);have h4:=dl t.2.2.2.toNat (by omega);simp only[h,akO,akI,d1,d2,d3,d4,akH,akR,akN,akM,if_true];rw[if_pos (by omega),if_pos (by omega),if_pos (by omega),if_pos (by omega),if_pos (by omega),if_pos (by omega)]
 ·have:zO t=false:=by simpa using h
  simp[this]
def zS (c:UInt8) (s d:List UInt8):List UInt8×List UInt8:=match yH c s with|some p=>p|none=>(d,[])
def ZR (s:List UInt8):zP:=
 let p:=zS 62 s []
 let q:=zS 58 p.2 []
 let r:=zS 35 q.2 []
 ((zy p.1).1,(zy q.1).1,(zy r.1).1,(zy r.2).1)
def YK (s:List UInt8):zP:=
 let p:=zS 62 s s
 let q:=zS 58 p.2 p.2
 let r:=zS 35 q.2 q.2
 ((zy p.1).1,(zy q.1).1,(zy r.1).1,(zy r.2).1)
theorem DM {t:zP} (h:zO t=true) (d1 d2 d3:List UInt8->List UInt8):
  let p:=zS 62 (yM t) (d1 (yM t))
  let q:=zS 58 p.2 (d2 p.2)
  let r:=zS 35 q.2 (d3 q.2)
  ((zy p.1).1,(zy q.1).1,(zy r.1).1,(zy r.2).1)=t:=by
 have hh:=(Qc t).1 h;have e1:yH 62 (yM t)=some (Lib.decDigits t.1.toNat,Lib.decDigits t.2.1.toNat++58::(Lib.decDigits t.2.2.1.toNat++35::Lib.decDigits t.2.2.2.toNat)):=by
  unfold yM;rw[if_pos h];have:=Qs 62 (Lib.decDigits t.2.1.toNat++58::(Lib.decDigits t.2.2.1.toNat++35::Lib.decDigits t.2.2.2.toNat)) (Lib.decDigits t.1.toNat) (mt (by decide));rw[←this];congr 1;simp
 have e2:=Qs 58 (Lib.decDigits t.2.2.1.toNat++35::Lib.decDigits t.2.2.2.toNat) (Lib.decDigits t.2.1.toNat) (mt (by decide));have e3:=Qs 35 (Lib.decDigits t.2.2.2.toNat) (Lib.decDigits t.2.2.1.toNat) (mt (by decide));simp only[zS,e1,e2,e3,eO _ (show t.1.toNat<1000000 by omega),eO _ (show t.2.1.toNat<1000000 by omega),eO _ (show t.2.2.1.toNat<1000000 by omega),eO _ (show t.2.2.2.toNat<1000000 by omega)];obtain⟨a,b,c,d⟩:=t;simp only at hh;simp only[akS];omega
def Zl (s:List UInt8):zP×Bool:=if zO (ZR s)=true/\yM (ZR s)=s then (ZR s,true) else ((0,0,0,0),false)
theorem aby (s:List UInt8):Zl s=if zO (YK s)=true/\yM (YK s)=s then (YK s,true) else ((0,0,0,0),false):=by
 unfold Zl;by_cases h1:zO (ZR s)=true/\yM (ZR s)=s
 ·have e:YK s=ZR s:=by
   have:=DM h1.1 (λ x=>x) (λ x=>x) (λ x=>x);rw[h1.2] at this;exact this
  rw[if_pos h1,e,if_pos h1]
 ·rw[if_neg h1,if_neg];intro h2;have e:ZR s=YK s:=by
   have:=DM h2.1 (λ x=>[]) (λ x=>[]) (λ x=>[]);rw[h2.2] at this;exact this
  exact h1 (by rw[e]; exact h2)
theorem ej (s:List UInt8) (c:UInt8) (hs:s.length<=137438953472):LH (s,c,())=some ((zS c s []).1,(zS c s []).2,(yH c s).isSome,()):=by
 rw[aba s c hs];unfold zS;cases yH c s<;>rfl
theorem LW (c:UInt8) (s d:List UInt8) (hd:d.length<=s.length):(zS c s d).1.length<=s.length/\(zS c s d).2.length<=s.length:=by
 unfold zS;cases h:yH c s with
 | none=>exact⟨hd,by simp⟩
 | some p=>
  have:=(mr c (p:=p.1) (q:=p.2) h).1;simp only;omega
theorem abC {t:zP} (h:¬ zO t=true):yM t=[]:=by unfold yM; rw[if_neg h]
theorem abB {t:zP} (h:zO t=true):yM t≠[]:=by unfold yM; rw[if_pos h]; simp
theorem aaY (s:List UInt8) (hs:s.length<=137438953472):bS (s,())=some ((Zl s).1,(Zl s).2,()):=by
 have l1:=LW 62 s [] (by simp);have l2:=LW 58 (zS 62 s []).2 [] (by simp);have l3:=LW 35 (zS 58 (zS 62 s []).2 []).2 [] (by simp);unfold bS;simp only[show UInt8.ofNat (Int.toNat 62)=62 from rfl,show UInt8.ofNat (Int.toNat 58)=58 from rfl,show UInt8.ofNat (Int.toNat 35)=35 from rfl,
  ej s 62 hs,ej (zS 62 s []).2 58 (by omega),ej (zS 58 (zS 62 s []).2 []).2 35 (by omega),Da,Dg,Option.bind_some]
 by_cases h0:s=[]
 ·subst h0;have:¬ (zO (ZR [])=true/\yM (ZR [])=[]):=λ h=>abB h.1 h.2;unfold Zl;rw[if_neg this];simp
 ·have e0:(s==[])=false:=by simp[h0]
  simp only[e0,akI];unfold Zl;have ef:((zy (zS 62 s []).1).1,(zy (zS 58 (zS 62 s []).2 []).1).1,(zy (zS 35 (zS 58 (zS 62 s []).2 []).2 []).1).1,(zy (zS 35 (zS 58 (zS 62 s []).2 []).2 []).2).1)=ZR s:=rfl;rw[ef];by_cases h:yM (ZR s)=s
  ·have hok:zO (ZR s)=true:=by
    by_cases hk:zO (ZR s)=true
    ·exact hk
    ·rw[abC hk] at h; exact absurd h.symm h0
   have e1:(yM (ZR s) != s)=false:=by simp[h]
   rw[if_pos ⟨hok,h⟩,e1]; rfl
  ·have e1:(yM (ZR s) != s)=true:=by simp[h]
   rw[if_neg (λ hh=>h hh.2),e1]; rfl
theorem ln (s:List UInt8) (c:UInt8) (hs:s.length<=1073741824):strings_Cut (s,[c],())=some ((zS c s s).1,(zS c s s).2,(yH c s).isSome,()):=by
 unfold strings_Cut;dsimp only;rw[if_pos (by omega),TJ];unfold zS;cases yH c s<;>rfl
theorem Sh (s:List UInt8) (hs:s.length<=1073741824):QM (s,())=some ((Zl s).1,(Zl s).2,()):=by
 have l1:=LW 62 s s (Nat.le_refl _);have l2:=LW 58 (zS 62 s s).2 (zS 62 s s).2 (Nat.le_refl _);rw[aby];unfold QM;simp only[ln s 62 hs,ln (zS 62 s s).2 58 (by omega),ln (zS 58 (zS 62 s s).2 (zS 62 s s).2).2 35 (by omega),akH];generalize hp:zS 62 s s=p;generalize hq:zS 58 p.2 p.2=q;generalize hr:zS 35 q.2 q.2=r;have ef:YK s=((zy p.1).1,(zy q.1).1,(zy r.1).1,(zy r.2).1):=by
  unfold YK; simp only[hp,hq,hr]
 refine (RB [p.1,q.1,r.1,r.2] (λ x=>(zy x).1) (λ out=>(Li ((rd .i64 out 0,rd .i64 out 1,rd .i64 out 2,rd .i64 out 3),())).bind λ r5=>bif (!r5.1) then some ((0,0,0,0),false,()) else
   (QO ((rd .i64 out 0,rd .i64 out 1,rd .i64 out 2,rd .i64 out 3),())).bind λ r6=>bif (r6.1 != s) then some ((0,0,0,0),false,()) else some ((rd .i64 out 0,rd .i64 out 1,rd .i64 out 2,rd .i64 out 3),true,())) (by simp) ?_ ?_ _ (by simp)).trans ?_
 ·intro rec out ho;have ho:out.length=4:=ho;simp[ho]
 ·intro rec i out y hx hi ho;have ho:out.length=4:=ho;have hi':i<4:=hi;simp only[akT,ho,zw hi,akP,akJ,if_true,akY,zt (e:=.str) hx,uI y,akH,zq (show i<4611686018427387904 by omega)];rw[if_pos ⟨trivial,by omega⟩]
 ·simp only[al3,alq,rd,amS,List.getD_cons_succ];rw[←ef,QN,Si];simp only[akH];by_cases h:zO (YK s)=true
  ·by_cases h2:yM (YK s)=s
   ·have e1:(yM (YK s) != s)=false:=by simp[h2]
    rw[if_pos ⟨h,h2⟩,e1,h]; rfl
   ·have e1:(yM (YK s) != s)=true:=by simp[h2]
    rw[if_neg (λ hh=>h2 hh.2),e1,h]; rfl
  ·have:zO (YK s)=false:=by simpa using h
   rw[if_neg (λ hh=>h hh.1),this]; rfl
def Yu:List (List UInt8)->List zP->List zP×Bool
 | [],out=>(out,true)
 | p::ps,out=>if (Zl p).2=true then Yu ps (out++[(Zl p).1]) else ([],false)
def jf (s:List UInt8):List zP×Bool:=if s=[] then ([],true) else Yu (zQ 44 s) []
theorem Mp (c:UInt8):∀ {s p:List UInt8},p∈zQ c s->p.length<=s.length
 | [],p,h=>by simp[zQ] at h; simp[h]
 | x::l,p,h=>by
  simp only[zQ] at h;split at h
  ·rcases List.mem_cons.1 h with rfl|h
   ·simp
   ·have:=Mp c h; simp; omega
  ·cases hp:zQ c l with
   | nil=>rw[hp] at h; simp[glue] at h; simp[h]
   | cons q r=>
    rw[hp] at h;simp only[glue,al4] at h;rcases h with rfl|h
    ·have:=Mp c (s:=l) (p:=q) (by rw[hp]; simp); simp; omega
    ·have:=Mp c (s:=l) (p:=p) (by rw[hp]; simp[h]); simp; omega
theorem DR {tx:List UInt8×Unit->Option (zP×Bool×Unit)} (ps:List (List UInt8)) (hl:ps.length<=137438953473) (htx:∀ p∈ps,tx (p,())=some ((Zl p).1,(Zl p).2,()))
  {G:(List zP×Int×Unit->Option (List zP×Bool×Unit))->List zP×Int×Unit->Option (List zP×Bool×Unit)}
  (hG:∀ rec out (i:Int),G rec (out,i,())=bif decide (i<(ps.length:Int)) then (if 0<=i/\i<(ps.length:Int) then (tx (rd .str ps i.toNat,())).bind λ r2=>bif !r2.2.1 then some ([],false,()) else
   (if (out.length+[r2.1].length)*32<=70368744177664 then rec (out++[r2.1],wr (i+1),()) else none) else none) else some (out,true,())):
  iter G fuel ([],0,())=some ((Yu ps []).1,(Yu ps []).2,()):=by
 refine (walk ps.length (λ i (out:List zP)=>(out,i,())) (λ i out=>out.length=i) (λ i out=>some ((Yu (ps.drop i) out).1,(Yu (ps.drop i) out).2,())) (by omega) ?_ ?_ (s0:=[]) rfl).trans (by simp)
 ·intro rec out ho;rw[hG]; simp[Yu]
 ·intro rec i out hi ho;have hx:ps[i]?=some ps[i]:=List.getElem?_eq_getElem hi;rw[hG];simp only[zw hi,decide_true,cond_true,and_self,if_true,Int.toNat_natCast,zt (e:=.str) hx,htx ps[i] (List.getElem_mem hi),Option.bind_some,zq (show i<4611686018427387904 by omega),List.length_cons,List.length_nil];rw[al1 hi];by_cases h:(Zl ps[i]).2=true
  ·right;refine⟨out++[(Zl ps[i]).1],by simp[ho],?_,?_⟩
   ·rw[h]; simp only[akO,akI]; rw[if_pos (by omega)]
   ·simp only[Yu,h,if_true]
  ·left;have h':(Zl ps[i]).2=false:=by simpa using h
   simp[Yu,h']
theorem aaZ (s:List UInt8) (hs:s.length<=137438953472):kp (s,())=some ((jf s).1,(jf s).2,()):=by
 unfold kp jf;by_cases h0:s=[]
 ·subst h0; rfl
 ·have e0:(s==[])=false:=by simp[h0]
  rw[if_neg h0];simp only[e0,akI,show UInt8.ofNat (Int.toNat 44)=44 from rfl,De s 44 hs,akH];have hp:=aS 44 s;refine DR (tx:=bS) (zQ 44 s) (by omega) (λ p hm=>aaY p (by have:=Mp 44 hm; omega)) ?_
  intro rec out i; rfl
theorem Sj (s:List UInt8) (hs:s.length<=1073741824):dK (s,())=some ((jf s).1,(jf s).2,()):=by
 unfold dK jf;by_cases h0:s=[]
 ·subst h0; rfl
 ·have e0:(s==[])=false:=by simp[h0]
  rw[if_neg h0];simp only[e0,akI,show UInt8.ofNat (Int.toNat 44)=44 from rfl,uO s 44 hs,akH];have hp:=aS 44 s;refine DR (tx:=QM) (zQ 44 s) (by omega) (λ p hm=>Sh p (by have:=Mp 44 hm; omega)) ?_
  intro rec out i; rfl
abbrev ZW:=Int×List zP
def yR (q:List UInt8×List UInt8) (prev:Int):Bool:=
 (zy q.1).2 && ((jf q.2).2 && (decide (prev<(zy q.1).1) && (decide ((zy q.1).1<=60) && decide ((jf q.2).1.length<=2))))
def jz:List (List UInt8)->Int->List ZW->List ZW×Bool
 | [],_,out=>(out,true)
 | p::ps,prev,out=>match yH 124 p with
  | none=>([],false)
  | some q=>if yR q prev=true then
    jz ps (zy q.1).1 (out++[((zy q.1).1,(jf q.2).1)]) else ([],false)
def steps (s:List UInt8):List ZW×Bool:=
 if s=[] then ([],true) else match zQ 47 s with
  | []=>([],false)
  | p::ps=>if p=[]/\ps.length<=30 then jz ps 0 [] else ([],false)
theorem nR (s:List UInt8):0<=(zy s).1:=by
 unfold zy;split<;>simp
theorem km (s:List UInt8) (hs:s.length<=137438953472):MN (s,())=some ((steps s).1,(steps s).2,()):=by
 unfold MN steps;by_cases h0:s=[]
 ·subst h0; rfl
 have e0:(s==[])=false:=by simp[h0]
 rw[if_neg h0];simp only[e0,akI,show UInt8.ofNat (Int.toNat 47)=47 from rfl,show UInt8.ofNat (Int.toNat 124)=124 from rfl,De s 47 hs,akH];have hpl:=aS 47 s;have hpm:∀ p∈zQ 47 s,p.length<=s.length:=λ p hm=>Mp 47 hm;cases hp:zQ 47 s with
 | nil=>exact absurd hp (YT _ _)
 | cons p ps=>
  rw[hp] at hpl hpm;simp only[akN] at hpl;rw[if_pos (by simp only[akN]; omega)]
  simp only[alG,rd,amS];by_cases h1:p=[]
  ·subst h1;simp only[bne_self_eq_false,akI];by_cases h2:(((([]:List UInt8)::ps).length:Nat):Int)>31
   ·rw[if_neg (by simp only[akN] at h2; omega)]
    simp only[h2,akP,akJ]
   ·rw[if_pos (show True/\ps.length<=30 from⟨trivial,by simp only[akN] at h2; omega⟩)]
    simp only[h2,akQ,akI];refine (D4 (([]:List UInt8)::ps).length (λ i (t:List ZW×Int)=>(t.1,t.2,i,())) (λ i t=>t.1.length<=i/\0<=t.2/\t.2<=60)
     (λ i t=>some ((jz ((([]:List UInt8)::ps).drop i) t.2 t.1).1,(jz ((([]:List UInt8)::ps).drop i) t.2 t.1).2,())) (by simp only[akN]; omega) ?_ ?_ (s0:=([],0)) 1 (by simp) ⟨by simp,by simp,by simp⟩).trans (by simp)
    ·intro rec t ht; simp[jz]
    ·intro rec i t hi ht;obtain⟨t1,t2,t3⟩:=ht;have hx:(([]:List UInt8)::ps)[i]?=some (([]:List UInt8)::ps)[i]:=List.getElem?_eq_getElem hi;have ac1:=hpm _ (List.getElem_mem hi);have hil:i<=s.length+1:=by simp only[akN] at hi; omega
     rw[al1 hi];simp only[jz];have hc:=LW 124 (([]:List UInt8)::ps)[i] [] (by simp);simp only[zw hi,decide_true,cond_true,and_self,if_true,Int.toNat_natCast,zt (e:=.str) hx,ej _ 124 (show (([]:List UInt8)::ps)[i].length<=137438953472 by omega),Da,aaZ _ (show (zS 124 (([]:List UInt8)::ps)[i] []).2.length<=137438953472 by omega),Option.bind_some,
      zq (show i<4611686018427387904 by omega)]
     generalize hq:yH 124 (([]:List UInt8)::ps)[i]=q;cases q with
     | none=>left; simp
     | some q=>
      simp only[zS,hq,Option.isSome_some,akO,akI];by_cases c1:(zy q.1).2=true
      ·by_cases c2:(jf q.2).2=true
       ·by_cases c3:t.2<(zy q.1).1
        ·by_cases c4:(zy q.1).1<=60
         ·by_cases c5:(jf q.2).1.length<=2
          ·right;refine⟨(t.1++[((zy q.1).1,(jf q.2).1)],(zy q.1).1),⟨by simp; omega,nR _,c4⟩,?_,?_⟩
           ·simp only[c1,c2,akO,akI,show ¬ (zy q.1).1<=t.2 by omega,akQ,show ¬ (zy q.1).1>60 by omega,show ¬ ((jf q.2).1.length:Int)>2 by omega,akN,akM];rw[if_pos (by omega)]
           ·rw[if_pos (show yR q t.2=true by simp[yR,c1,c2,c3,c4,c5])]
          ·left;have hB:yR q t.2=false:=by simp[yR,c5]
           rw[hB];simp[c1,c2,show ¬ (zy q.1).1<=t.2 by omega,show ¬ (zy q.1).1>60 by omega,show (2:Int)<((jf q.2).1.length:Int) by omega]
         ·left;have hB:yR q t.2=false:=by simp[yR,c4]
          rw[hB];simp[c1,c2,show ¬ (zy q.1).1<=t.2 by omega,show (zy q.1).1>60 by omega]
        ·left;have hB:yR q t.2=false:=by simp[yR,c3]
         rw[hB];simp[c1,c2,show (zy q.1).1<=t.2 by omega]
       ·left;have hB:yR q t.2=false:=by simp[yR,c2]
        rw[hB];have:(jf q.2).2=false:=by simpa using c2
        simp[c1,this]
      ·left;have hB:yR q t.2=false:=by simp[yR,c1]
       rw[hB];have:(zy q.1).2=false:=by simpa using c1
       simp[this]
  ·have e1:(p != [])=true:=by simp[h1]
   rw[if_neg (show ¬ (p=[]/\ps.length<=30) from λ h=>h1 h.1),e1]; rfl
theorem mP (s:List UInt8) (hs:s.length<=1073741824):NP (s,())=some ((steps s).1,(steps s).2,()):=by
 unfold NP steps;by_cases h0:s=[]
 ·subst h0; rfl
 have e0:(s==[])=false:=by simp[h0]
 rw[if_neg h0];simp only[e0,akI,show UInt8.ofNat (Int.toNat 47)=47 from rfl,uO s 47 hs,akH];have hpl:=aS 47 s;have hpm:∀ p∈zQ 47 s,p.length<=s.length:=λ p hm=>Mp 47 hm;cases hp:zQ 47 s with
 | nil=>exact absurd hp (YT _ _)
 | cons p ps=>
  rw[hp] at hpl hpm;simp only[akN] at hpl;rw[if_pos (by simp only[akN]; omega)]
  simp only[alG,rd,amS];have hw:wr (((p::ps).length:Int) - 1)=(ps.length:Int):=by
   rw[zh (by simp only[akN]; omega) (by simp only[akN]; omega)]
   simp only[akN]; omega
  rw[hw];have htd:List.take ((((p::ps).length:Nat):Int).toNat - Int.toNat 1) (List.drop (Int.toNat 1) (p::ps))=ps:=by
   simp
  rw[htd];by_cases h1:p=[]
  ·subst h1;simp only[bne_self_eq_false,akI];by_cases h2:(ps.length:Int)>30
   ·rw[if_neg (show ¬ (True/\ps.length<=30) from λ h=>by have:=h.2; omega)]
    simp only[h2,akP,akJ]
   ·rw[if_pos (show True/\ps.length<=30 from⟨trivial,by omega⟩)];simp only[h2,akQ,akI];rw[if_pos (by simp only[akN]; omega)]
    refine (walk ps.length (λ i (t:List ZW×Int)=>(t.1,t.2,i,())) (λ i t=>t.1.length<=i/\0<=t.2/\t.2<=60)
     (λ i t=>some ((jz (ps.drop i) t.2 t.1).1,(jz (ps.drop i) t.2 t.1).2,())) (by omega) ?_ ?_ (s0:=([],0)) ⟨by simp,by simp,by simp⟩).trans (by simp)
    ·intro rec t ht; simp[jz]
    ·intro rec i t hi ht;obtain⟨t1,t2,t3⟩:=ht;have hx:ps[i]?=some ps[i]:=List.getElem?_eq_getElem hi;have ac1:=hpm _ (List.mem_cons_of_mem _ (List.getElem_mem hi));rw[al1 hi];simp only[jz];have hc:=LW 124 ps[i] ps[i] (Nat.le_refl _);have hx':ps.getD i (dflt .str)=ps[i]:=zt (e:=.str) hx;simp only[zw hi,decide_true,cond_true,and_self,if_true,Int.toNat_natCast,hx',ln _ 124 (show ps[i].length<=1073741824 by omega),uI,Sj _ (show (zS 124 ps[i] ps[i]).2.length<=1073741824 by omega),Option.bind_some,
      zq (show i<4611686018427387904 by omega),Lk,zh (show (-9223372036854775808:Int)<=t.2+1 by omega) (show t.2+1<=9223372036854775807 by omega)]
     generalize hq:yH 124 ps[i]=q;cases q with
     | none=>left; simp
     | some q=>
      simp only[zS,hq,Option.isSome_some,akO,akI];by_cases c1:(zy q.1).2=true
      ·by_cases c2:(jf q.2).2=true
       ·by_cases c3:t.2<(zy q.1).1
        ·by_cases c4:(zy q.1).1<=60
         ·by_cases c5:(jf q.2).1.length<=2
          ·right;refine⟨(t.1++[((zy q.1).1,(jf q.2).1)],(zy q.1).1),⟨by simp; omega,nR _,c4⟩,?_,?_⟩
           ·simp only[c1,c2,c4,akO,akI,show (zy q.1).1≥t.2+1 by omega,akP,alv,show ¬ ((jf q.2).1.length:Int)>2 by omega,akQ,akN,akM];rw[if_pos (by omega)]
           ·rw[if_pos (show yR q t.2=true by simp[yR,c1,c2,c3,c4,c5])]
          ·left;have hB:yR q t.2=false:=by simp[yR,c5]
           rw[hB];simp[c1,c2,c4,show t.2+1<=(zy q.1).1 by omega,show (2:Int)<((jf q.2).1.length:Int) by omega]
         ·left;have hB:yR q t.2=false:=by simp[yR,c4]
          rw[hB];simp[c1,c2,c4]
        ·left;have hB:yR q t.2=false:=by simp[yR,c3]
         rw[hB];simp[c1,c2,show ¬ t.2+1<=(zy q.1).1 by omega]
       ·left;have hB:yR q t.2=false:=by simp[yR,c2]
        rw[hB];have:(jf q.2).2=false:=by simpa using c2
        simp[c1,this]
      ·left;have hB:yR q t.2=false:=by simp[yR,c1]
       rw[hB];have:(zy q.1).2=false:=by simpa using c1
       simp[this]
  ·have e1:(p != [])=true:=by simp[h1]
   rw[if_neg (show ¬ (p=[]/\ps.length<=30) from λ h=>h1 h.1),e1]; rfl
def zz (c:za):Bool:=(decide (c.1≥4) && decide (c.1<=7)) && (decide (c.2≥1) && decide (c.2<=6))
theorem Yq (c:za):Zz (c,())=some (zz c,()):=by
 unfold Zz zz;simp only[Ys,akH];cases (decide (c.1≥4) && decide (c.1<=7))<;>rfl
theorem Lg (c:za):YL (c,())=some (zz c,()):=by
 unfold YL zz;simp only[Lk,akH];cases (decide (c.1≥4) && decide (c.1<=7))<;>rfl
theorem yb {c:za} (h:zz c=true):4<=c.1/\c.1<=7:=by
 unfold zz at h;simp only[akK,akV] at h;omega
def zC (s:List UInt8):Bool:=(steps s).2
def zg (s:List UInt8):Int:=match (steps s).1.getLast? with|some x=>x.1|none=>0
theorem KJ (s:List UInt8) (hs:s.length<=137438953472):Y3 (s,())=some (zC s,()):=by
 unfold Y3 zC;simp only[km s hs,akH]
theorem L5 (s:List UInt8) (hs:s.length<=1073741824):JL (s,())=some (zC s,()):=by
 unfold JL zC;simp only[mP s hs,akH]
theorem Dx:∀ (ps:List (List UInt8)) (prev:Int) (out:List ZW),((jz ps prev out).2=false->(jz ps prev out).1=[])/\(jz ps prev out).1.length<=out.length+ps.length
 | [],prev,out=>by simp[jz]
 | p::ps,prev,out=>by
  simp only[jz];cases yH 124 p with
  | none=>simp
  | some q=>
   simp only;split
   ·obtain⟨h1,h2⟩:=Dx ps (zy q.1).1 (out++[((zy q.1).1,(jf q.2).1)]);refine⟨h1,?_⟩;simp only[akR,akN,akM] at h2 ⊢;omega
   ·simp
theorem qY (s:List UInt8):((steps s).2=false->(steps s).1=[])/\(steps s).1.length<=30:=by
 unfold steps;split
 ·simp
 ·cases zQ 47 s with
  | nil=>simp
  | cons p ps=>
   simp only;split
   ·next h=>
    obtain⟨h1,h2⟩:=Dx ps 0 [];exact⟨h1,by simp only[akM] at h2; omega⟩
   ·simp
theorem ny {l:List ZW} (h:l≠[]):∃ x,l.getLast?=some x/\l[l.length - 1]?=some x:=by
 have hl:l.length - 1<l.length:=by cases l with|nil=>exact absurd rfl h|cons _ _=>simp
 exact⟨l[l.length - 1],by rw[List.getLast?_eq_getElem?,alz hl],List.getElem?_eq_getElem hl⟩
theorem Y5 (s:List UInt8) (hs:s.length<=137438953472):ZA (s,())=some (zg s,()):=by
 unfold ZA zg;simp only[km s hs,akH];obtain⟨h1,h2⟩:=qY s;by_cases h:(steps s).2=true
 ·rw[h];simp only[akO,akI];by_cases h0:(steps s).1=[]
  ·simp[h0]
  ·obtain⟨x,e1,e2⟩:=ny h0;have hl:1<=(steps s).1.length:=by cases hh:(steps s).1 with|nil=>exact absurd hh h0|cons _ _=>simp
   have e3:(((steps s).1.length:Int)==0)=false:=by simp; omega
   simp only[e3,akI,e1,zh (show (-9223372036854775808:Int)<=((steps s).1.length:Int) - 1 by omega) (show ((steps s).1.length:Int) - 1<=9223372036854775807 by omega)];rw[if_pos (by omega),show (((steps s).1.length:Int) - 1).toNat=(steps s).1.length - 1 by omega,zt e2]
 ·have h':(steps s).2=false:=by simpa using h
  rw[h',h1 h']; rfl
theorem L9 (s:List UInt8) (hs:s.length<=1073741824):Jg (s,())=some (zg s,()):=by
 unfold Jg zg;simp only[mP s hs,akH];obtain⟨h1,h2⟩:=qY s;by_cases h0:(steps s).1=[]
 ·simp[h0]
 ·obtain⟨x,e1,e2⟩:=ny h0;have hl:1<=(steps s).1.length:=by cases hh:(steps s).1 with|nil=>exact absurd hh h0|cons _ _=>simp
  have e3:(((steps s).1.length:Int)==0)=false:=by simp; omega
  simp only[e3,akI,e1,zh (show (-9223372036854775808:Int)<=((steps s).1.length:Int) - 1 by omega) (show ((steps s).1.length:Int) - 1<=9223372036854775807 by omega)];rw[if_pos (by omega),show (((steps s).1.length:Int) - 1).toNat=(steps s).1.length - 1 by omega,zt e2]
theorem DA:∀ (ps:List (List UInt8)) (prev:Int) (out:List ZW),(out≠[]∨ps≠[])->0<=prev->(∀ x,out.getLast?=some x->1<=x.1/\x.1<=60)->(jz ps prev out).2=true->
  ∃ x,(jz ps prev out).1.getLast?=some x/\1<=x.1/\x.1<=60
 | [],prev,out,h,hp,ho,hok=>by
  have h0:out≠[]:=h.elim id (λ h=>absurd rfl h);obtain⟨x,e,_⟩:=ny h0;exact⟨x,e,ho x e⟩
 | p::ps,prev,out,h,hp,ho,hok=>by
  simp only[jz] at hok ⊢;cases hq:yH 124 p with
  | none=>rw[hq] at hok; simp at hok
  | some q=>
   rw[hq] at hok;simp only at hok ⊢;split at hok
   ·next hB=>
    rw[if_pos hB];simp only[yR,akK,akV] at hB;refine DA ps (zy q.1).1 _ (.inl (by simp)) (nR _) ?_ hok;intro x hx;simp at hx;subst hx;exact⟨by simp only; omega,hB.2.2.2.1⟩
   ·simp at hok
theorem Mg {s:List UInt8} (h:zC s=true) (h0:s≠[]):1<=zg s/\zg s<=60:=by
 unfold zC steps at h;unfold zg steps;rw[if_neg h0] at h ⊢;cases hp:zQ 47 s with
 | nil=>exact absurd hp (YT _ _)
 | cons p ps=>
  rw[hp] at h;simp only at h ⊢;split at h
  ·next hc=>
   rw[if_pos hc];have hne:ps≠[]:=by
    rintro rfl;obtain⟨rfl,_⟩:=hc;cases s with
    | nil=>exact h0 rfl
    | cons x l=>
     simp only[zQ] at hp;split at hp
     ·exact YT 47 l (by simpa using hp)
     ·cases hl:zQ 47 l with
      | nil=>exact YT 47 l hl
      | cons a b=>rw[hl] at hp; simp[glue] at hp
   obtain⟨x,e1,e2,e3⟩:=DA ps 0 [] (.inr hne) (by decide) (by simp) h;rw[e1]; exact⟨e2,e3⟩
  ·simp at h
theorem nN:zC []=true/\zg []=0:=by
 constructor<;>simp[zC,zg,steps]
def Y1 (n:Int):Option Int->List Int->Bool
 | _,[]=>true
 | p,x::l => !decide (x<0) && (!decide (x≥n) && ((match p with|some y => !decide (y≥x)|none=>true) && Y1 n (some x) l))
def jQ (n:Int) (l:List Int):Bool:=Y1 n none l
theorem CJ (n:Int) (l:List Int) (hl:l.length<=137438953472) {G:(Int×Unit->Option (Bool×Unit))->Int×Unit->Option (Bool×Unit)}
  (ace:∀ rec,G rec ((l.length:Int),())=some (true,()))
  (h0:∀ rec x,l[0]?=some x->G rec (((0:Nat):Int),())=bif decide (x<0) then some (false,()) else bif decide (x≥n) then some (false,()) else rec (((0:Nat):Int)+1,()))
  (ac9:∀ rec (i:Nat) x y,l[i]?=some x->l[i+1]?=some y->i+1<l.length->G rec (((i+1:Nat):Int),())=bif decide (y<0) then some (false,()) else bif decide (y≥n) then some (false,()) else bif decide (x≥y) then some (false,()) else rec (((i+1:Nat):Int)+1,())):
  iter G fuel (0,())=some (jQ n l,()):=by
 let pv:Nat->Option Int:=λ i=>match i with|0=>none|i+1=>l[i]?
 refine (walk l.length (λ i (_:Unit)=>(i,())) (λ _ _=>True) (λ i _=>some (Y1 n (pv i) (l.drop i),())) (by omega) ?_ ?_ (s0:=()) trivial).trans (by simp[jQ,pv])
 ·intro rec _ _;rw[ace]; simp[Y1]
 ·intro rec i _ hi _;have hx:l[i]?=some l[i]:=List.getElem?_eq_getElem hi;have hpv:pv (i+1)=some l[i]:=hx;rw[al1 hi,hpv];cases i with
  | zero=>
   rw[h0 rec l[0] hx,show pv 0=none from rfl];simp only[Y1];by_cases c1:l[0]<0
   ·left; simp[c1]
   ·by_cases c2:l[0]≥n
    ·left; simp[c1,c2]
    ·right;exact⟨(),trivial,by simp[c1,c2],by simp[c1,c2]⟩
  | succ i=>
   have hx':l[i]?=some l[i]:=List.getElem?_eq_getElem (by omega);rw[ac9 rec i l[i] l[i+1] hx' hx hi,show pv (i+1)=some l[i] from hx'];simp only[Y1];by_cases c1:l[i+1]<0
   ·left; simp[c1]
   ·by_cases c2:l[i+1]≥n
    ·left; simp[c1,c2]
    ·by_cases c3:l[i]≥l[i+1]
     ·left; simp[c1,c2,c3]
     ·right;exact⟨(),trivial,by simp[c1,c2,c3],by simp[c1,c2,c3]⟩
theorem rV (n:Int) (l:List Int) (hl:l.length<=137438953472):qG (n,l,())=some (jQ n l,()):=by
 unfold qG;refine CJ n l hl ?_ ?_ ?_
 ·intro rec; simp
 ·intro rec x hx;have hi:0<l.length:=by
   rcases Nat.eq_zero_or_pos l.length with h|h
   ·rw[alb (by omega)] at hx; cases hx
   ·exact h
  simp only[zw hi,akP,akJ,akY,if_true,akT,zt (e:=.i64) hx,zq (show 0<4611686018427387904 by omega),show ¬ (((0:Nat):Int)>0) by omega,akQ,akI]
 ·intro rec i x y hx hy hi;have e:wr (((i+1:Nat):Int) - 1)=(i:Int):=by rw[zh (by omega) (by omega)]; omega
  simp only[zw hi,zw (show i<l.length by omega),e,akP,akJ,akY,if_true,akT,zt (e:=.i64) hx,zt (e:=.i64) hy,zq (show i+1<4611686018427387904 by omega),show (((i+1:Nat):Int)>0) by omega]
theorem uN (n:Int) (l:List Int) (hl:l.length<=137438953472):NO (n,l,())=some (jQ n l,()):=by
 unfold NO;refine CJ n l hl ?_ ?_ ?_
 ·intro rec; simp
 ·intro rec x hx;have hi:0<l.length:=by
   rcases Nat.eq_zero_or_pos l.length with h|h
   ·rw[alb (by omega)] at hx; cases hx
   ·exact h
  simp only[zw hi,akP,akJ,akY,if_true,akT,zt (e:=.i64) hx,zq (show 0<4611686018427387904 by omega),show ¬ (((0:Nat):Int)>0) by omega,akQ,akI]
 ·intro rec i x y hx hy hi;have e:wr (((i+1:Nat):Int) - 1)=(i:Int):=by rw[zh (by omega) (by omega)]; omega
  simp only[zw hi,zw (show i<l.length by omega),e,akP,akJ,akY,if_true,akT,zt (e:=.i64) hx,zt (e:=.i64) hy,zq (show i+1<4611686018427387904 by omega),show (((i+1:Nat):Int)>0) by omega]
def Jn (c:za):Int:=if zz c=true then c.1 - (c.1 - 1) / 3 else 0
theorem rU (c:za):qD (c,())=some (Jn c,()):=by
 unfold qD Jn;simp only[Yq,akH];by_cases h:zz c=true
 ·obtain⟨h1,h2⟩:=yb h;have e1:wr (c.1 - 1)=c.1 - 1:=zh (by omega) (by omega);have e2:Int.tdiv (c.1 - 1) 3=(c.1 - 1) / 3:=Int.tdiv_eq_ediv_of_nonneg (by omega);simp only[h,akO,akI,if_true,e1,e2];rw[zh (n:=(c.1 - 1) / 3) (by omega) (by omega),zh (by omega) (by omega)]
 ·have h':zz c=false:=by simpa using h
  simp[h']
theorem R8 (c:za):dB (c,())=some (Jn c,()):=by
 unfold dB mL Jn;simp only[Lg,akH];by_cases h:zz c=true
 ·obtain⟨h1,h2⟩:=yb h;have e1:wr (c.1 - 1)=c.1 - 1:=zh (by omega) (by omega);have e2:Int.tdiv (c.1 - 1) 3=(c.1 - 1) / 3:=Int.tdiv_eq_ediv_of_nonneg (by omega);simp only[h,akO,akI,if_true,e1,e2,akH];rw[zh (n:=(c.1 - 1) / 3) (by omega) (by omega),zh (by omega) (by omega)]
 ·have h':zz c=false:=by simpa using h
  simp[h']
def YO (c:UInt8) (s:List UInt8):Nat->Option Nat
 | 0=>none
 | k+1=>if s.getD k 0=c then some k else YO c s k
def ZE (s:List UInt8):List UInt8:=if zC s=true then (match YO 47 s s.length with|some k=>s.take k|none=>[]) else []
theorem vH (c:UInt8) (s:List UInt8):∀ k i,YO c s k=some i->i<k
 | 0,i,h=>by cases h
 | k+1,i,h=>by
  simp only[YO] at h;split at h
  ·cases h; omega
  ·have:=vH c s k i h; omega
theorem vP (c:UInt8) (s:List UInt8):∀ k,k<=s.length->Lib.lastIdx (ByteArray.mk ⟨s⟩) c.toNat k=match YO c s k with|some i=>(i:Int)|none => -1
 | 0,_=>rfl
 | k+1,h=>by
  have hk:k<s.length:=by omega
  have e:(ByteArray.mk ⟨s⟩).data[k]! = s.getD k 0:=by
   rw[als,alz hk];simp[hk]
  simp only[Lib.lastIdx,YO,e];by_cases hc:s.getD k 0=c
  ·rw[if_pos (by rw[hc]),if_pos hc]
  ·rw[if_neg (λ h=>hc (UInt8.toNat_inj.1 (by omega))),if_neg hc,vP c s k (by omega)]
theorem T3 {s:List UInt8} (h:zC s=true) (h0:s≠[]):∃ l,s=47::l:=by
 unfold zC steps at h;rw[if_neg h0] at h;cases hp:zQ 47 s with
 | nil=>exact absurd hp (YT _ _)
 | cons p ps=>
  rw[hp] at h;simp only at h;split at h
  ·next hc=>
   obtain⟨rfl,_⟩:=hc;cases s with
   | nil=>exact absurd rfl h0
   | cons x l=>
    simp only[zQ] at hp;split at hp
    ·next e=>exact⟨l,by rw[e]⟩
    ·cases hl:zQ 47 l with
     | nil=>exact absurd hl (YT 47 l)
     | cons a b=>rw[hl] at hp; simp[glue] at hp
  ·simp at h
theorem vI {c:UInt8} {l:List UInt8}:∀ k,1<=k->∃ i,YO c (c::l) k=some i
 | 0,h=>by omega
 | 1,_=>⟨0,by simp[YO]⟩
 | k+2,_=>by
  simp only[YO];split
  ·exact⟨_,rfl⟩
  ·exact vI (k+1) (by omega)
theorem MY (a b:Int):yQ (a,b,())=some (max a b,()):=by
 unfold yQ;by_cases h:a>b
 ·simp only[h,akP,akJ]; congr 2; omega
 ·simp only[h,akQ,akI]; congr 2; omega
theorem bT (s:List UInt8) (hs:s.length<=137438953472):LF (s,())=some (ZE s,()):=by
 unfold LF ZE;simp only[KJ s hs,akH];by_cases h:zC s=true
 ·simp only[h,akO,akI,if_true];refine (QW (λ x:Int×Unit=>some ((match YO 47 s x.1.toNat with|some k=>s.take k|none=>[]),())) (λ x=>x.1.toNat) (λ x=>0<=x.1/\x.1<=(s.length:Int)) ?_ fuel ((s.length:Int),()) ⟨by simp,by simp⟩
   (by simp only[akT]; have:=YG (n:=s.length) (by omega); exact this)).trans (by simp)
  rintro rec ⟨v,⟨⟩⟩ ⟨h1,h2⟩ abX;obtain⟨n,rfl⟩:∃ n:Nat,v=(n:Int):=⟨v.toNat,by simp only at h1; omega⟩
  simp only at h2;cases n with
  | zero=>
   have e1:wr (((0:Nat):Int) - 1) = -1:=zh (by decide) (by decide);simp only[show ¬ (((0:Nat):Int)>0) by omega,akQ,akI,e1,MY,akH,show max (-1:Int) 0=0 by decide];rw[if_pos (by omega)];simp[YO]
  | succ n=>
   have e1:wr (((n+1:Nat):Int) - 1)=(n:Int):=by rw[zh (by omega) (by omega)]; omega
   simp only[show (((n+1:Nat):Int)>0) by omega,akP,akJ,e1,MY,akH,akT,show max (n:Int) 0=(n:Int) by omega,YO,show UInt8.ofNat (Int.toNat 47)=47 from rfl];rw[if_pos (by omega)];by_cases hc:s.getD n 0=47
   ·have e2:(s.getD n 0 != 47)=false:=by rw[hc]; rfl
    rw[e2,if_pos hc];simp only[akI];rw[if_pos (by omega)];simp
   ·have e2:(s.getD n 0 != 47)=true:=bne_iff_ne.2 hc;rw[e2,if_neg hc];simp only[akJ];rw[abX ((n:Int),()) ⟨by simp,by simp only; omega⟩ (by simp only[akT]; omega)]
    simp
 ·have h':zC s=false:=by simpa using h
  simp[h']
theorem dM (s:List UInt8) (hs:s.length<=1073741824):L8 (s,())=some (ZE s,()):=by
 unfold L8 ZE;simp only[L5 s hs,akH];by_cases h:zC s=true
 ·simp only[h,akO,akI,if_true];by_cases h0:s=[]
  ·subst h0; rfl
  ·have e0:(s==[])=false:=by simp[h0]
   obtain⟨l,rfl⟩:=T3 h h0;obtain⟨i,hi⟩:=vI (c:=47) (l:=l) (47::l).length (by simp);have hlt:=vH _ _ _ _ hi;have e1:strings_LastIndexByte (47::l,UInt8.ofNat (Int.toNat 47),())=some ((i:Int),()):=by
    unfold strings_LastIndexByte;dsimp only;rw[if_pos (by omega)];have:=vP 47 (47::l) (47::l).length (Nat.le_refl _);rw[hi] at this;simp only at this;rw[←this]; rfl
   simp only[e0,akI,e1,akH,hi];rw[if_pos (by omega)];simp
 ·have h':zC s=false:=by simpa using h
  simp[h']
def zT (c:za) (q:zH):Bool:=
 zz c && (zC q.2.1 && (zg q.2.1==q.1 && (bif q.2.1==[] then ((q.2.2.length:Int)==0) else (jQ c.1 q.2.2 && decide ((q.2.2.length:Int)≥Jn c)))))
theorem LD (c:za) (q:zH) (hw:zi q<=137438953472):Y4 (c,q,())=some (zT c q,()):=by
 have h1:q.2.1.length<=137438953472:=by simp only[zi] at hw; omega
 have h2:q.2.2.length<=137438953472:=by simp only[zi,zn] at hw; omega
 unfold Y4 zT;simp only[Yq,KJ _ h1,Y5 _ h1,rV _ _ h2,rU,akH];cases zz c
 ·rfl
 cases zC q.2.1
 ·rfl
 by_cases e:zg q.2.1=q.1
 ·have e1:(zg q.2.1 != q.1)=false:=by simp[e]
  have e2:(zg q.2.1==q.1)=true:=by simp[e]
  rw[e1,e2];cases (q.2.1==[])<;>cases jQ c.1 q.2.2<;>rfl
 ·have e1:(zg q.2.1 != q.1)=true:=by simp[e]
  have e2:(zg q.2.1==q.1)=false:=by simp[e]
  rw[e1,e2]; rfl
theorem NK (c:za) (q:zH) (hw:zi q<=1073741824):Kh (c,q,())=some (zT c q,()):=by
 have h1:q.2.1.length<=1073741824:=by simp only[zi] at hw; omega
 have h2:q.2.2.length<=1073741824:=by simp only[zi,zn] at hw; omega
 unfold Kh mM zT;simp only[Lg,L5 _ h1,L9 _ h1,uN _ _ (show q.2.2.length<=137438953472 by omega),R8,dA q _ (show q.2.2.length<=8796093022208 by omega),akH];cases zz c
 ·rfl
 simp only[akO,akI,akZ];obtain⟨v,name,who⟩:=q;simp only[jd];by_cases hn:name=[]
 ·subst hn;obtain⟨k1,k2⟩:=nN;rw[k1,k2];by_cases hv:v=0
  ·subst hv;cases who with
   | nil=>rfl
   | cons a b=>
    simp;omega
  ·have e1:(v==0)=false:=by simp[hv]
   have e2:((0:Int)==v)=false:=by simp; omega
   have e3:(v==(0:Int))=false:=e1;rw[e1,e2];simp[hv]
 ·have e0:(name==[])=false:=by simp[hn]
  rw[e0];simp only[alj,alC,akI];by_cases hk:zC name=true
  ·obtain⟨w1,w2⟩:=Mg hk hn;rw[hk];by_cases e:zg name=v
   ·have e1:(v==zg name)=true:=by simp[e]
    have e2:(zg name==v)=true:=by simp[e]
    have e3:decide (v≥1)=true:=by simp; omega
    rw[e1,e2,e3];cases jQ c.1 who<;>simp
   ·have e1:(v==zg name)=false:=by simp; omega
    have e2:(zg name==v)=false:=by simp[e]
    rw[e1,e2];cases decide (v≥1)<;>rfl
  ·have hk':zC name=false:=by simpa using hk
   rw[hk'];cases decide (v≥1)<;>rfl
def jm (c:za) (b:yE):Bool:=zT c b.2 && (zC b.1 && (b.1 != [] && ZE b.1==b.2.2.1))
theorem gI (c:za) (b:yE) (hw:zp b<=137438953472):MD (c,b,())=some (jm c b,()):=by
 have h1:b.1.length<=137438953472:=by simp only[zp] at hw; omega
 unfold MD jm;simp only[LD c b.2 (by simp only[zp] at hw; omega),KJ _ h1,bT _ h1,Option.bind_some]
 cases zT c b.2<;>cases zC b.1<;>cases (b.1 != [])<;>rfl
theorem mK (c:za) (b:yE) (hw:zp b<=1073741824):NI (c,b,())=some (jm c b,()):=by
 have h1:b.1.length<=1073741824:=by simp only[zp] at hw; omega
 unfold NI jm;simp only[NK c b.2 (by simp only[zp] at hw; omega),L5 _ h1,dM _ h1,Option.bind_some]
 cases zT c b.2<;>cases zC b.1<;>cases (b.1 != [])<;>rfl
def jb (c:za) (p:zG):Bool:=
 zz c && ((decide (p.1≥1) && decide (p.1<=60)) && (jQ c.1 p.2.2 && (decide ((p.2.2.length:Int)>0) && (p.2.1==[] || (zC p.2.1 && zg p.2.1==p.1)))))
theorem bF (c:za) (p:zG) (hw:zk p<=137438953472):KK (c,p,())=some (jb c p,()):=by
 have h1:p.2.1.length<=137438953472:=by simp only[zk] at hw; omega
 have h2:p.2.2.length<=137438953472:=by simp only[zk,zn] at hw; omega
 unfold KK jb;simp only[Yq,Ys,rV _ _ h2,KJ _ h1,Y5 _ h1,akH];have e:((p.2.2.length:Int)==0) = !decide ((p.2.2.length:Int)>0):=by
  generalize p.2.2.length=n;cases n with
  | zero=>rfl
  | succ k=>
   have a1:(((k+1:Nat):Int)==0)=false:=by rw[beq_eq_false_iff_ne]; omega
   have a2:decide (((k+1:Nat):Int)>0)=true:=decide_eq_true (by omega);rw[a1,a2]; rfl
 rw[e];cases zz c<;>cases (decide (p.1≥1) && decide (p.1<=60))<;>cases jQ c.1 p.2.2<;>cases decide ((p.2.2.length:Int)>0)<;>cases (p.2.1==[])<;>cases zC p.2.1<;>rfl
theorem dt (c:za) (p:zG) (hw:zk p<=1073741824):NJ (c,p,())=some (jb c p,()):=by
 have h1:p.2.1.length<=1073741824:=by simp only[zk] at hw; omega
 have h2:p.2.2.length<=137438953472:=by simp only[zk,zn] at hw; omega
 unfold NJ jb;simp only[Lg,Lk,uN _ _ h2,L5 _ h1,L9 _ h1,akH];cases zz c<;>cases (decide (p.1≥1) && decide (p.1<=60))<;>cases jQ c.1 p.2.2<;>cases (p.2.1==[])<;>cases zC p.2.1<;>cases (zg p.2.1==p.1)<;>cases decide ((p.2.2.length:Int)>0)<;>rfl
theorem pu (a b:zH):jd a b=decide (a=b):=by
 obtain⟨a1,a2,a3⟩:=a;obtain⟨b1,b2,b3⟩:=b;unfold jd;rw[amh];simp[Prod.ext_iff]
theorem O9 (a b:yE):YA a b=decide (a=b):=by
 obtain⟨a1,a2⟩:=a;obtain⟨b1,b2⟩:=b;unfold YA;simp only[pu];rw[amh];simp[Prod.ext_iff]
theorem abA (a b:zP):M2 a b=decide (a=b):=by
 obtain⟨a1,a2,a3,a4⟩:=a;obtain⟨b1,b2,b3,b4⟩:=b;unfold M2;rw[amh];simp[Prod.ext_iff]
theorem vY (a b:zv):Zt a b=true↔a=b:=by
 obtain⟨a1,a2,a3,a4,a5,a6,a7⟩:=a;obtain⟨b1,b2,b3,b4,b5,b6,b7⟩:=b;unfold Zt;simp only[pu,O9,abA];simp only[akK,alk,akV,akS]
theorem TY (a b:zv):Zt a b=Zt b a:=by
 rw[amh,vY,vY];exact⟨λ h=>h.symm,λ h=>h.symm⟩
def canon (m:zv):zv:=
 bif (m.1==1) then (m.1,0,m.2.2.1,(0,[],[]),(0,[],[]),0,(0,0,0,0)) else
 bif (m.1==2) then (m.1,0,([],0,[],[]),m.2.2.2.1,(0,[],[]),0,(0,0,0,0)) else
 bif (m.1==3) then (m.1,m.2.1,([],0,[],[]),(0,[],[]),m.2.2.2.2.1,m.2.2.2.2.2.1,(0,0,0,0)) else
 bif (m.1==4) then (m.1,0,([],0,[],[]),(0,[],[]),(0,[],[]),0,m.2.2.2.2.2.2) else
 (m.1,0,([],0,[],[]),(0,[],[]),(0,[],[]),0,(0,0,0,0))
theorem ab5 (m:zv) (h:MsgW m):kG (m,())=some (Zt (canon m) m,()):=by
 obtain⟨h1,h2,h3⟩:=h;have hz:([]:List Int).length<=8796093022208:=by simp
 unfold kG canon;dsimp only;rw[qy (m.1,0,m.2.2.1,(0,[],[]),(0,[],[]),0,(0,0,0,0)) m ⟨h1,hz,hz⟩,qy (m.1,0,([],0,[],[]),m.2.2.2.1,(0,[],[]),0,(0,0,0,0)) m ⟨hz,h2,hz⟩,
  qy (m.1,m.2.1,([],0,[],[]),(0,[],[]),m.2.2.2.2.1,m.2.2.2.2.2.1,(0,0,0,0)) m ⟨hz,hz,h3⟩,qy (m.1,0,([],0,[],[]),(0,[],[]),(0,[],[]),0,m.2.2.2.2.2.2) m ⟨hz,hz,hz⟩,
  qy (m.1,0,([],0,[],[]),(0,[],[]),(0,[],[]),0,(0,0,0,0)) m ⟨hz,hz,hz⟩]
 simp only[akH];cases (m.1==1)<;>cases (m.1==2)<;>cases (m.1==3)<;>cases (m.1==4)<;>rfl
theorem Ss (m:zv):dX (m,())=some (canon m,()):=by
 unfold dX canon;cases (m.1==1)<;>cases (m.1==2)<;>cases (m.1==3)<;>cases (m.1==4)<;>rfl
noncomputable def yJ (c:za) (m:zv):Bool:=
 zz c && (Zt (canon m) m && (bif (m.1==1) then jm c m.2.2.1 else bif (m.1==2) then (jb c m.2.2.2.1 && m.2.2.2.1.2.1 != []) else
  bif (m.1==3) then ((decide (m.2.1≥1) && decide (m.2.1<=60)) && (zT c m.2.2.2.2.1 && (decide (m.2.2.2.2.2.1≥0) && decide (m.2.2.2.2.2.1<=wr (c.1 - 1))))) else
  bif (m.1==4) then zO m.2.2.2.2.2.2 else false))
theorem qx (c:za) (m:zv) (hw:zj m<=137438953472):Yb (c,m,())=some (yJ c m,()):=by
 have hW:MsgW m:=MsgW.of (by omega);have h1:zp m.2.2.1<=137438953472:=by simp only[zj] at hw; omega
 have h2:zk m.2.2.2.1<=137438953472:=by simp only[zj] at hw; omega
 have h3:zi m.2.2.2.2.1<=137438953472:=by simp only[zj] at hw; omega
 unfold Yb yJ;simp only[Yq,ab5 m hW,gI c _ h1,bF c _ h2,LD c _ h3,Ys,MP,akH];cases zz c
 ·rfl
 cases Zt (canon m) m
 ·rfl
 cases (m.1==1)
 ·cases (m.1==2)
  ·cases (m.1==3)
   ·cases (m.1==4)<;>rfl
   ·cases (decide (m.2.1≥1) && decide (m.2.1<=60))<;>cases zT c m.2.2.2.2.1<;>rfl
  ·cases jb c m.2.2.2.1<;>rfl
 ·rfl
theorem R0 (c:za) (m:zv) (hw:zj m<=1073741824):dp (c,m,())=some (yJ c m,()):=by
 have hW:MsgW m:=MsgW.of (by omega);have h1:zp m.2.2.1<=1073741824:=by simp only[zj] at hw; omega
 have h2:zk m.2.2.2.1<=1073741824:=by simp only[zj] at hw; omega
 have h3:zi m.2.2.2.2.1<=1073741824:=by simp only[zj] at hw; omega
 unfold dp yJ;simp only[Lg,Ss,R1 m _ hW,TY m (canon m),mK c _ h1,dt c _ h2,NK c _ h3,Lk,QN,akH];cases zz c
 ·rfl
 cases Zt (canon m) m
 ·rfl
 cases (m.1==1)
 ·cases (m.1==2)
  ·cases (m.1==3)
   ·cases (m.1==4)<;>rfl
   ·cases (decide (m.2.1≥1) && decide (m.2.1<=60))<;>cases zT c m.2.2.2.2.1<;>rfl
  ·cases jb c m.2.2.2.1<;>rfl
 ·rfl
abbrev Zn:Ty:=.pair .i64 (.pair .i64 (.pair .i64 .i64))
abbrev Yw:Ty:=.pair .i64 (.pair .str (.sl 0 .i64))
abbrev lM:Ty:=.pair .i64 (.pair .i64 (.pair .i64 (.pair (.pair .str (.pair .i64 (.pair .str (.sl 0 .i64)))) (.pair (.pair .i64 (.pair .str (.sl 0 .i64))) (.pair (.pair .i64 (.pair .str (.sl 0 .i64))) (.pair .i64 (.pair .i64 (.pair .i64 (.pair .i64 .i64)))))))))
theorem ta {α:Type} (p:α->Bool) (l:List α) {G:(Int×Unit->Option (Bool×Unit))->Int×Unit->Option (Bool×Unit)} (hl:l.length<=1152921504606846976)
  (ace:∀ rec s,G rec ((l.length:Int),s)=some (true,()))
  (ac9:∀ rec (i:Nat) s x,l[i]?=some x->i<l.length->G rec ((i:Int),s)=bif p x then rec ((i:Int)+1,s) else some (false,())):
  iter G fuel (0,())=some (l.all p,()):=by
 refine (Qw l (λ x s rec=>bif p x then rec s else some (false,())) (λ s=>some (true,())) (λ i s=>(i,s)) hl ace ac9 ?_ ()).trans (ul _ _);intro x s r1 r2 hr; simp[hr]
def yG {α:Type} (ok:α->Bool) (lt:α->α->Bool):Option α->List α->Bool
 | _,[]=>true
 | p,x::l=>ok x && ((match p with|none=>true|some y=>lt y x) && yG ok lt (some x) l)
theorem cK {α:Type} (ok:α->Bool) (lt:α->α->Bool) (fin:Bool) (l:List α) (hl:l.length<=1152921504606846976)
  {G:(Int×Unit->Option (Bool×Unit))->Int×Unit->Option (Bool×Unit)}
  (ace:∀ rec,G rec ((l.length:Int),())=some (fin,()))
  (h0:∀ rec x,l[0]?=some x->0<l.length->G rec (0,())=bif ok x then rec (1,()) else some (false,()))
  (ac9:∀ rec (i:Nat) x y,l[i]?=some x->l[i+1]?=some y->i+1<l.length->G rec (((i+1:Nat):Int),())=bif ok y then (bif lt x y then rec (((i+1:Nat):Int)+1,()) else some (false,())) else some (false,())):
  iter G fuel (0,())=some (yG ok lt none l && fin,()):=by
 let pv:Nat->Option α:=λ i=>match i with|0=>none|j+1=>l[j]?
 refine (walk l.length (λ i (_:Unit)=>(i,())) (λ _ _=>True) (λ i _=>some (yG ok lt (pv i) (l.drop i) && fin,())) hl ?_ ?_ (s0:=()) trivial).trans (by simp only[al8,pv])
 ·intro rec s _;rw[ace,alh]; simp[yG]
 ·intro rec i s hi _;have hx:l[i]?=some l[i]:=List.getElem?_eq_getElem hi;cases i with
  | zero=>
   rw[show ((0:Nat):Int)=0 from rfl,h0 rec l[0] hx hi,List.drop_eq_getElem_cons hi];cases hk:ok l[0] with
   | true=>
    right;have e2:pv (0+1)=some l[0]:=hx;exact⟨(),trivial,by simp,by rw[e2]; simp[yG,show pv 0=none from rfl,hk]⟩
   | false=>left; simp[yG,hk]
  | succ j=>
   have hj:l[j]?=some l[j]:=List.getElem?_eq_getElem (by omega);rw[ac9 rec j l[j] l[j+1] hj hx hi,List.drop_eq_getElem_cons hi];have e:pv (j+1)=some l[j]:=hj;have e2:pv (j+1+1)=some l[j+1]:=hx;rw[e];cases hk:ok l[j+1] with
   | true=>
    cases hlt:lt l[j] l[j+1] with
    | true=>right; exact⟨(),trivial,by simp,by rw[e2]; simp[yG,hk,hlt]⟩
    | false=>left; simp[yG,hk,hlt]
   | false=>left; simp[yG,hk]
def zX (c:za) (s:zB):Bool:=(decide (s.1≥0) && decide (s.1<=60)) && ((decide (s.2.1≥0) && decide (s.2.1<=60)) && (zT c s.2.2.1 && zC s.2.2.2))
theorem qE (c:za) (s:zB) (hw:zu s<=137438953472):KM (c,s,())=some (zX c s,()):=by
 simp only[zu] at hw;unfold KM zX;simp only[Ys,LD c s.2.2.1 (by omega),KJ s.2.2.2 (by omega),akH];cases (decide (s.1≥0) && decide (s.1<=60))<;>cases (decide (s.2.1≥0) && decide (s.2.1<=60))<;>cases zT c s.2.2.1<;>rfl
theorem dD (c:za) (s:zB) (hw:zu s<=1073741824):L7 (c,s,())=some (zX c s,()):=by
 simp only[zu] at hw;unfold L7 zX;simp only[Lk,NK c s.2.2.1 (by omega),L5 s.2.2.2 (by omega),akH];cases (decide (s.1≥0) && decide (s.1<=60))<;>cases (decide (s.2.1≥0) && decide (s.2.1<=60))<;>cases zT c s.2.2.1<;>rfl
def jC (a b:zP):Bool:=decide (a.1<b.1) || (a.1==b.1 && decide (a.2.2.2<b.2.2.2))
theorem Dt (a b:zP):ck (a,b,())=some (jC a b,()):=by
 unfold ck jC;dsimp only;cases decide (a.1<b.1)<;>cases (a.1==b.1)<;>rfl
theorem Sn (a b:zP):dP (a,b,())=some (jC a b,()):=by
 unfold dP jC;dsimp only;cases decide (a.1<b.1)<;>cases (a.1==b.1)<;>rfl
def jE (l:zF):Bool:=yG zO jC none l && decide ((l.length:Int)<=12)
theorem Dc (l:zF) (hl:l.length<=137438953472):MJ (l,())=some (jE l,()):=by
 unfold MJ jE;refine cK zO jC _ l (by omega) ?_ ?_ ?_
 ·intro rec; simp
 ·intro rec x hx hi;have hi0:(0:Int)<(l.length:Int):=by omega
  simp only[hi0,akP,akJ,am6,akY,if_true,alG,zt (e:=Zn) hx,MP,akH,show wr ((0:Int)+1)=1 from zq (show 0<4611686018427387904 by omega),show ¬ ((0:Int)>0) by omega,akQ,akI];cases zO x<;>rfl
 ·intro rec i x y hx hy hi;have e:wr (((i+1:Nat):Int) - 1)=(i:Int):=by rw[zh (by omega) (by omega)]; omega
  simp only[zw hi,zw (show i<l.length by omega),e,akP,akJ,akY,if_true,akT,zt (e:=Zn) hx,zt (e:=Zn) hy,MP,Dt,akH,zq (show i+1<4611686018427387904 by omega),show (((i+1:Nat):Int)>0) by omega];cases zO y<;>cases jC x y<;>rfl
theorem R5 (l:zF) (hl:l.length<=137438953472):dw (l,())=some (jE l,()):=by
 unfold dw jE;refine cK zO jC _ l (by omega) ?_ ?_ ?_
 ·intro rec; simp
 ·intro rec x hx hi;have hi0:(0:Int)<(l.length:Int):=by omega
  simp only[hi0,akP,akJ,am6,akY,if_true,alG,zt (e:=Zn) hx,QN,akH,show wr ((0:Int)+1)=1 from zq (show 0<4611686018427387904 by omega),show ¬ ((0:Int)>0) by omega,akQ,akI];cases zO x<;>rfl
 ·intro rec i x y hx hy hi;have e:wr (((i+1:Nat):Int) - 1)=(i:Int):=by rw[zh (by omega) (by omega)]; omega
  simp only[zw hi,zw (show i<l.length by omega),e,akP,akJ,akY,if_true,akT,zt (e:=Zn) hx,zt (e:=Zn) hy,QN,Sn,akH,zq (show i+1<4611686018427387904 by omega),show (((i+1:Nat):Int)>0) by omega];cases zO y<;>cases jC x y<;>rfl
def jI (a b:zG):Bool:=decide (a.1<b.1) || (a.1==b.1 && Go.Op.bytesLess a.2.1 b.2.1)
theorem Dl (a b:zG):bW (a,b,())=some (jI a b,()):=by
 unfold bW jI;dsimp only;cases decide (a.1<b.1)<;>cases (a.1==b.1)<;>rfl
def JT (a b:zG):Int:=if a.1<b.1 then -1 else if a.1>b.1 then 1 else if Go.Op.bytesLess a.2.1 b.2.1=true then -1 else if a.2.1=b.2.1 then 0 else 1
theorem uS (a b:zG):Mb (a,b,())=some (JT a b,()):=by
 unfold Mb mi mj cM cN JT;simp only[bne_self_eq_false,akH,akI];by_cases h1:a.1<b.1
 ·simp[h1]
 ·by_cases h2:a.1>b.1
  ·simp[h1,h2]
  ·cases h3:Go.Op.bytesLess a.2.1 b.2.1
   ·by_cases h4:a.2.1=b.2.1
    ·simp[h1,h2,h4,h3]
    ·have h5:(a.2.1==b.2.1)=false:=by simp[h4]
     simp[h1,h2,h4,h5]
   ·simp[h1,h2,h3]
theorem A3 (a b:zG):decide (JT a b≥0) = !jI a b:=by
 unfold JT jI;by_cases h1:a.1<b.1
 ·simp[h1]
 ·by_cases h2:a.1>b.1
  ·have:¬ a.1=b.1:=by omega
   simp[h1,h2,this]
  ·have:a.1=b.1:=by omega
   simp only[h1,h2,this,if_false];cases h3:Go.Op.bytesLess a.2.1 b.2.1
   ·by_cases h4:a.2.1=b.2.1<;>simp[h4]
   ·simp
def jA (c:za) (l:zV):Bool:=yG (jb c) jI none l && decide ((l.length:Int)<=20)
theorem KS {l:zV} {x:zG} {N:Nat} (hw:zE l<=N) {i:Nat} (hx:l[i]?=some x):zk x<=N:=by
 have:=ZS zk (List.mem_of_getElem? hx); unfold zE at hw; omega
theorem Df (c:za) (l:zV) (hw:zE l<=137438953472):MO (c,l,())=some (jA c l,()):=by
 have hl:l.length<=137438953472:=by unfold zE at hw; omega
 unfold MO jA;refine cK (jb c) jI _ l (by omega) ?_ ?_ ?_
 ·intro rec; simp
 ·intro rec x hx hi;have hi0:(0:Int)<(l.length:Int):=by omega
  simp only[hi0,akP,akJ,am6,akY,if_true,alG,zt (e:=Yw) hx,bF c x (KS hw hx),akH,show wr ((0:Int)+1)=1 from zq (show 0<4611686018427387904 by omega),show ¬ ((0:Int)>0) by omega,akQ,akI];cases jb c x<;>rfl
 ·intro rec i x y hx hy hi;have e:wr (((i+1:Nat):Int) - 1)=(i:Int):=by rw[zh (by omega) (by omega)]; omega
  simp only[zw hi,zw (show i<l.length by omega),e,akP,akJ,akY,if_true,akT,zt (e:=Yw) hx,zt (e:=Yw) hy,bF c y (KS hw hy),Dl,akH,zq (show i+1<4611686018427387904 by omega),show (((i+1:Nat):Int)>0) by omega];cases jb c y<;>cases jI x y<;>rfl
theorem uP (c:za) (l:zV) (hw:zE l<=1073741824):Jf (c,l,())=some (jA c l,()):=by
 have hl:l.length<=137438953472:=by unfold zE at hw; omega
 unfold Jf jA;refine cK (jb c) jI _ l (by omega) ?_ ?_ ?_
 ·intro rec; simp
 ·intro rec x hx hi;have hi0:(0:Int)<(l.length:Int):=by omega
  simp only[hi0,akP,akJ,am6,akY,if_true,alG,zt (e:=Yw) hx,dt c x (KS hw hx),akH,show wr ((0:Int)+1)=1 from zq (show 0<4611686018427387904 by omega),show ¬ ((0:Int)>0) by omega,akQ,akI];cases jb c x<;>rfl
 ·intro rec i x y hx hy hi;have e:wr (((i+1:Nat):Int) - 1)=(i:Int):=by rw[zh (by omega) (by omega)]; omega
  simp only[zw hi,zw (show i<l.length by omega),e,akP,akJ,akY,if_true,akT,zt (e:=Yw) hx,zt (e:=Yw) hy,dt c y (KS hw hy),uS,A3,akH,zq (show i+1<4611686018427387904 by omega),show (((i+1:Nat):Int)>0) by omega];cases jb c y<;>cases jI x y<;>rfl
noncomputable def j4 (c:za) (id:Int) (p:Ka):Bool:=yJ c p.2 && ((decide (p.1≥0) && decide (p.1<=c.1 - 1)) && !(p.1==id))
noncomputable def zf (c:za) (r:zb):Bool:=
 zz c && ((decide (r.1≥0) && decide (r.1<=c.1 - 1)) && ((decide (r.2.1≥1) && decide (r.2.1<=60)) && ((decide (r.2.2.1≥0) && decide (r.2.2.1<=60)) &&
  (zX c r.2.2.2.1 && (jE r.2.2.2.2.1 && (jA c r.2.2.2.2.2.1 && (yt r.2.2.2.2.2.2.1 && (decide ((r.2.2.2.2.2.2.2.length:Int)<=30) && r.2.2.2.2.2.2.2.all (j4 c r.1)))))))))
theorem lC {l:j0} {x:Ka} {N:Nat} (hw:yo l<=N) {i:Nat} (hx:l[i]?=some x):zj x.2<=N:=by
 have:=ZS Ye (List.mem_of_getElem? hx); simp only[Ye] at this; unfold yo at hw; omega
theorem Qy (n m:Int):decide (n>m) = !decide (n<=m):=by
 by_cases h:n<=m
 ·have:¬ n>m:=by omega
  simp[h,this]
 ·have:n>m:=by omega
  simp[h,this]
theorem Yc (c:za) (r:zb) (hw:ze r<=137438953472):Zk (c,r,())=some (zf c r,()):=by
 simp only[ze,Jy] at hw;have hh:yo r.2.2.2.2.2.2.2<=137438953472:=by omega
 have hl:r.2.2.2.2.2.2.2.length<=137438953472:=by unfold yo at hh; omega
 unfold Zk zf;simp only[Yq,akH];cases hc:zz c
 ·rfl
 obtain⟨hc1,hc2⟩:=yb hc;have e1:wr (c.1 - 1)=c.1 - 1:=zh (by omega) (by omega);simp only[akO,akI,akZ,e1,Ys,qE c r.2.2.2.1 (by omega),Dc r.2.2.2.2.1 (by omega),Df c r.2.2.2.2.2.1 (by omega),gL,akH,Qy ((r.2.2.2.2.2.2.2.length:Nat):Int) 30];cases (decide (r.1≥0) && decide (r.1<=c.1 - 1))
 ·rfl
 cases (decide (r.2.1≥1) && decide (r.2.1<=60))
 ·rfl
 cases (decide (r.2.2.1≥0) && decide (r.2.2.1<=60))
 ·rfl
 cases zX c r.2.2.2.1
 ·rfl
 cases jE r.2.2.2.2.1
 ·rfl
 cases jA c r.2.2.2.2.2.1
 ·rfl
 cases yt r.2.2.2.2.2.2.1
 ·rfl
 cases decide ((r.2.2.2.2.2.2.2.length:Int)<=30)
 ·rfl
 simp only[akO,akI,akZ];refine ta (j4 c r.1) r.2.2.2.2.2.2.2 (by omega) ?_ ?_
 ·intro rec s; simp
 ·intro rec i s x hx hi;simp only[zw hi,akP,akJ,akY,if_true,akT,zt (e:=lM) hx,qx c x.2 (lC hh hx),akH,zq (show i<4611686018427387904 by omega),j4];cases yJ c x.2<;>cases (decide (x.1≥0) && decide (x.1<=c.1 - 1))<;>cases (x.1==r.1)<;>rfl
theorem QH (c:za) (r:zb) (hw:ze r<=1073741824):Lh (c,r,())=some (zf c r,()):=by
 simp only[ze,Jy] at hw;have hh:yo r.2.2.2.2.2.2.2<=1073741824:=by omega
 have hl:r.2.2.2.2.2.2.2.length<=1073741824:=by unfold yo at hh; omega
 unfold Lh zf;simp only[Lg,akH];cases hc:zz c
 ·rfl
 obtain⟨hc1,hc2⟩:=yb hc;have e1:wr (c.1 - 1)=c.1 - 1:=zh (by omega) (by omega);simp only[akO,akI,akZ,e1,Lk,dD c r.2.2.2.1 (by omega),R5 r.2.2.2.2.1 (by omega),uP c r.2.2.2.2.2.1 (by omega),uH,akH,Qy ((r.2.2.2.2.2.2.2.length:Nat):Int) 30];cases (decide (r.1≥0) && decide (r.1<=c.1 - 1))
 ·rfl
 cases (decide (r.2.1≥1) && decide (r.2.1<=60))
 ·rfl
 cases (decide (r.2.2.1≥0) && decide (r.2.2.1<=60))
 ·rfl
 cases zX c r.2.2.2.1
 ·rfl
 cases jE r.2.2.2.2.1
 ·rfl
 cases jA c r.2.2.2.2.2.1
 ·rfl
 cases yt r.2.2.2.2.2.2.1
 ·rfl
 cases decide ((r.2.2.2.2.2.2.2.length:Int)<=30)
 ·rfl
 simp only[akO,akI,akZ];refine ta (j4 c r.1) r.2.2.2.2.2.2.2 (by omega) ?_ ?_
 ·intro rec s; simp
 ·intro rec i s x hx hi;simp only[zw hi,akP,akJ,akY,if_true,akT,zt (e:=lM) hx,R0 c x.2 (lC hh hx),akH,zq (show i<4611686018427387904 by omega),j4];cases yJ c x.2<;>cases (decide (x.1≥0) && decide (x.1<=c.1 - 1))<;>cases (x.1==r.1)<;>rfl
def yr (c:za) (v:Int):Int:=if zz c=true/\0<=v then Int.tmod v c.1 else -1
theorem ML (c:za) (v:Int):jF (c,v,())=some (yr c v,()):=by
 unfold jF yr;simp only[Yq,akH];by_cases h:zz c=true
 ·obtain⟨h1,h2⟩:=yb h;simp only[h,akO,akI];by_cases hv:v<0
  ·rw[if_neg (show ¬ (True/\0<=v) by omega)];simp[hv]
  ·rw[if_pos (show True/\0<=v from⟨trivial,by omega⟩)];simp only[hv,akQ,akI];rw[if_neg (by omega)]
 ·have h':zz c=false:=by simpa using h
  simp[h']
theorem uK (c:za) (v:Int):QI (c,v,())=some (yr c v,()):=by
 unfold QI yr;simp only[Lg,akH];by_cases h:zz c=true
 ·obtain⟨h1,h2⟩:=yb h;simp only[h,akO,akI];by_cases hv:v<0
  ·rw[if_neg (show ¬ (True/\0<=v) by omega)];simp[hv]
  ·rw[if_pos (show True/\0<=v from⟨trivial,by omega⟩)];simp only[hv,akQ,akI];rw[if_neg (by omega)]
 ·have h':zz c=false:=by simpa using h
  simp[h']
noncomputable def eF (c:za) (liars:y9) (list:yV) (m:zv):Bool:=
 yJ c m && (bif (m.1==1) then liars.any (· == yr c (zg m.2.2.1.1)) && signed liars list m.2.2.1.2.1 m.2.2.1.2.2.1 m.2.2.1.2.2.2 else
  bif (m.1==2) then signed liars list m.2.2.2.1.1 m.2.2.2.1.2.1 m.2.2.2.1.2.2 else
  bif (m.1==3) then liars.any (· == m.2.2.2.2.2.1) && signed liars list m.2.2.2.2.1.1 m.2.2.2.2.1.2.1 m.2.2.2.2.1.2.2 else true)
theorem aaD (c:za) (liars:y9) (list:yV) (m:zv) (hw:zj m<=137438953472) (h1:liars.length<=1073741824) (h2:list.length<=137438953472):bC (c,liars,list,m,())=some (eF c liars list m,()):=by
 have n1:m.2.2.1.1.length<=137438953472:=by simp only[zj,zp] at hw; omega
 have w1:m.2.2.1.2.2.2.length<=1152921504606846976:=by simp only[zj,zp,zi,zn] at hw; omega
 have w2:m.2.2.2.1.2.2.length<=1152921504606846976:=by simp only[zj,zk,zn] at hw; omega
 have w3:m.2.2.2.2.1.2.2.length<=1152921504606846976:=by simp only[zj,zi,zn] at hw; omega
 unfold bC eF;simp only[qx c m hw,Y5 _ n1,ML,Yr liars _ (show liars.length<=1152921504606846976 by omega),akH,
  rW liars list _ _ m.2.2.1.2.2.2 (show liars.length<=1152921504606846976 by omega) (by omega) w1,rW liars list _ _ m.2.2.2.1.2.2 (show liars.length<=1152921504606846976 by omega) (by omega) w2,
  rW liars list _ _ m.2.2.2.2.1.2.2 (show liars.length<=1152921504606846976 by omega) (by omega) w3]
 cases yJ c m
 ·rfl
 cases (m.1==1)
 ·cases (m.1==2)
  ·cases (m.1==3)
   ·rfl
   ·cases liars.any (· == m.2.2.2.2.2.1)<;>rfl
  ·rfl
 ·cases liars.any (· == yr c (zg m.2.2.1.1))<;>rfl
end G448
namespace G448
open Ev
theorem ng (a b:Int):yf (a,b,())=some (if a<b then a else b,()):=by
 unfold yf;dsimp only;by_cases h:a<b
 ·simp[h]
 ·simp[h]
theorem vu (a b:Int):yQ (a,b,())=some (if a>b then a else b,()):=by
 unfold yQ;dsimp only;by_cases h:a>b
 ·simp[h]
 ·simp[h]
def L0 (d:yF) (keep:Int):Int:=d.2+(if 0>(if keep<(d.1.length:Int) - d.2 then keep else (d.1.length:Int) - d.2) then 0 else (if keep<(d.1.length:Int) - d.2 then keep else (d.1.length:Int) - d.2))
def Lb (d:yF) (keep:Int):yF:=if yt d=true then (d.1.take (L0 d keep).toNat,L0 d keep) else d
theorem K6 {d:yF}:yt d=true↔(d.1.length:Int)<=100000/\0<=d.2/\d.2<=(d.1.length:Int):=by
 simp[yt]
theorem uc {d:yF} (h:yt d=true) (keep:Int):0<=L0 d keep/\L0 d keep<=(d.1.length:Int)/\L0 d keep<=100000:=by
 obtain⟨h1,h2,h3⟩:=K6.1 h;unfold L0;split<;>split<;>omega
theorem aat (d:yF) (keep:Int) (h:d.1.length<=17592186044416):bA (d,keep,())=some (Lb d keep,()):=by
 unfold bA Lb;simp only[kz d (by omega),gL,akH];cases hd:yt d with
 | false=>simp
 | true=>
  obtain⟨h1,h2,h3⟩:=K6.1 hd;obtain⟨g1,g2,g3⟩:=uc hd keep;simp only[akO,akI,zh (show (-9223372036854775808:Int)<=(d.1.length:Int) - d.2 by omega) (show (d.1.length:Int) - d.2<=9223372036854775807 by omega),ng,vu,akH,if_true];rw[show d.2+(if 0>(if keep<(d.1.length:Int) - d.2 then keep else (d.1.length:Int) - d.2) then 0 else (if keep<(d.1.length:Int) - d.2 then keep else (d.1.length:Int) - d.2))=L0 d keep from rfl,
   zh (by omega) (by omega),if_pos ⟨am6 0,g1,g2⟩]
  simp only[alG,al8,alY,al9];rw[if_pos (by rw[al0]; omega)]
def qZ (d:yF):yF:=if yt d=true then (d.1,(d.1.length:Int)) else d
theorem aaV (d:yF) (h:d.1.length<=17592186044416):kn (d,())=some (qZ d,()):=by
 unfold kn qZ;simp only[kz d (by omega),gL,akH];cases hd:yt d<;>simp
abbrev zR:=List UInt8×Int×Int
def ya (c:zR):Prop:=c.1.length<=big/\0<=c.2.1
theorem tq (x:Int):0<=band x 255/\band x 255<=255:=by
 unfold band;have h:(BitVec.ofInt 64 x &&& BitVec.ofInt 64 255).toNat<=255:=by
  rw[BitVec.toNat_and];exact Nat.le_trans Nat.and_le_right (by decide)
 rw[zh (by omega) (by omega)];omega
theorem DJ {a n:Int} (ha:0<=a) (hn:0<n):0<=a.tmod n/\a.tmod n<n:=by
 rw[Int.tmod_eq_emod_of_nonneg ha];exact⟨Int.emod_nonneg _ (by omega),Int.emod_lt_of_pos _ hn⟩
theorem QY (c:zR) (hc:ya c):Ens (LG (c,())) λ r=>0<=r.1.2.1/\0<=r.2.1/\r.2.1<=255:=by
 obtain⟨h1,h2⟩:=hc;unfold LG;refine Ens.cond (λ h => ?_) λ h=>Ens.some ⟨h2,tq _⟩;have h:c.2.1<(c.1.length:Int):=by simpa using h
 refine Ens.ite ⟨h2,h⟩ (Ens.some ⟨?_,tq _⟩);dsimp only;unfold big at h1;rw[zh (by omega) (by omega)];omega
theorem zI (c:zR) (n:Int) (hc:ya c):Ens (zl (c,n,())) λ r=>0<=r.1.2.1/\0<=r.2.1/\(0<n->r.2.1<n):=by
 unfold zl;refine Ens.cond (λ h=>Ens.some ⟨hc.2,Int.le_refl _,λ h0=>h0⟩) λ h => ?_;have h:0<n:=by simpa using h
 refine Ens.cond (λ _ => ?_) λ _ => ?_
 ·refine (QY c hc).bind λ r hr => ?_;rw[if_neg (show ¬ n=0 by omega)];obtain⟨g1,g2⟩:=DJ hr.2.1 h;exact Ens.some ⟨hr.1,g1,λ _=>g2⟩
 ·refine (QY c hc).bind λ r1 hr1 => ?_;refine (QY (c.1,r1.1.2) ⟨hc.1,hr1.1⟩).bind λ r2 hr2 => ?_;refine (QY (c.1,r2.1.2) ⟨hc.1,hr2.1⟩).bind λ r3 hr3 => ?_;refine (QY (c.1,r3.1.2) ⟨hc.1,hr3.1⟩).bind λ r4 hr4 => ?_;rw[if_neg (show ¬ n=0 by omega)];have e:wr (wr (wr (wr (r1.2.1*16777216)+wr (r2.2.1*65536))+wr (r3.2.1*256))+r4.2.1)=r1.2.1*16777216+r2.2.1*65536+r3.2.1*256+r4.2.1:=by
   rw[zh (n:=r1.2.1*16777216) (by omega) (by omega),zh (n:=r2.2.1*65536) (by omega) (by omega),zh (n:=r3.2.1*256) (by omega) (by omega),zh (n:=r1.2.1*16777216+r2.2.1*65536) (by omega) (by omega),
    zh (n:=r1.2.1*16777216+r2.2.1*65536+r3.2.1*256) (by omega) (by omega),zh (by omega) (by omega)]
  obtain⟨g1,g2⟩:=DJ (a:=wr (wr (wr (wr (r1.2.1*16777216)+wr (r2.2.1*65536))+wr (r3.2.1*256))+r4.2.1)) (by rw[e]; omega) h
  exact Ens.some ⟨hr4.1,g1,λ _=>g2⟩
theorem YN (c:zR) (n:Int) (hc:ya c):Ens (ZD (c,n,())) λ r=>0<=r.1.2.1:=by
 unfold ZD;exact (zI c n hc).bind λ r hr=>Ens.some hr.1
theorem Bh {e:Ty} {l:List (den e)} {i:Nat} (h:i<l.length):rd e l i∈l:=by
 rw[zt (alz h)];exact List.getElem_mem h
theorem jN (c:zR) (l:List Int) (hc:ya c) (hl:0<l.length):Ens (jy (c,l,())) λ r=>0<=r.1.2.1/\r.2.1∈l:=by
 unfold jy;refine (zI c _ hc).bind λ r hr => ?_;have h:r.2.1<(l.length:Int):=hr.2.2 (show (0:Int)<(l.length:Int) by omega);have h0:0<=r.2.1:=hr.2.1;refine Ens.ite ⟨h0,h⟩ (Ens.some ⟨hr.1,Bh (e:=.i64) ?_⟩);show r.2.1.toNat<l.length;omega
theorem S7 (code:List UInt8) (hb:code.length<=big):Ens (ce (code,())) λ r=>ya r/\r.1=code:=by
 unfold ce;refine Ens.loop (λ x=>0<=x.2.1) (λ x=>code.length - x.2.1.toNat) ?_ (Int.le_refl _) (by dsimp only; unfold big at hb; rw[ja]; omega)
 intro rec x hx abX;refine Ens.cond (λ h => ?_) λ h=>Ens.some ⟨⟨hb,Int.le_refl _⟩,rfl⟩;have h:x.2.1<(code.length:Int):=by simpa using h
 refine Ens.cond (λ h2 => ?_) λ h2=>Ens.some ⟨⟨hb,Int.le_refl _⟩,rfl⟩;refine Ens.ite ⟨hx,h⟩ ?_;unfold big at hb;rw[zh (n:=x.2.1+1) (by omega) (by omega)];refine abX _ (by show 0<=x.2.1+1; omega) (by show code.length - (x.2.1+1).toNat<code.length - x.2.1.toNat; omega)
noncomputable def JV (n:Nat):List UInt8:=if h:n>127 then yC ((n % 128+128:Nat):Int)::JV (n / 128) else [yC (n:Int)]
termination_by n
decreasing_by omega
noncomputable def jc (n:Int):List UInt8:=if 0<=n/\n<=2147483647 then JV n.toNat else []
theorem pn {n:Nat} (h:n>127):JV n=yC ((n % 128+128:Nat):Int)::JV (n / 128):=by rw[JV,dif_pos h]
theorem po {n:Nat} (h:¬ n>127):JV n=[yC (n:Int)]:=by rw[JV,dif_neg h]
theorem fH:∀ (k n:Nat),n<128 ^ k->(JV n).length<=k+(if k=0 then 1 else 0)
 | 0,n,h=>by
  have:n=0:=by simpa using h
  subst this;rw[po (by omega)];simp
 | k+1,n,h=>by
  by_cases hn:n>127
  ·rw[pn hn];have h2:n / 128<128 ^ k:=by
    rw[am4] at h;omega
   have ih:=fH k (n / 128) h2;cases k with
   | zero=>simp at h2; omega
   | succ k=>simp at ih ⊢; omega
  ·rw[po hn]; simp
theorem yY (n:Int):(jc n).length<=5:=by
 unfold jc;split
 ·next h=>exact fH 5 n.toNat (by omega)
 ·simp
theorem pp {G:(Int×List UInt8×Unit->Option (List UInt8×Unit))->Int×List UInt8×Unit->Option (List UInt8×Unit)}
  (ace:∀ rec (n:Nat) (out:List UInt8),¬ n>127->out.length<=1000->G rec ((n:Int),out,())=some (out++[yC (n:Int)],()))
  (ac9:∀ rec (n:Nat) (out:List UInt8),n>127->n<=2147483647->out.length<=1000->G rec ((n:Int),out,())=rec (((n / 128:Nat):Int),out++[yC ((n % 128+128:Nat):Int)],())):
  ∀ (m n:Nat) (out:List UInt8),n<m->n<=2147483647->(n<128 ^ 5->out.length+(JV n).length<=1000)->iter G m ((n:Int),out,())=some (out++JV n,())
 | 0,n,out,h,_,_=>by omega
 | m+1,n,out,h,hn,ho=>by
  have ho':=ho (by omega);by_cases hc:n>127
  ·have e1:iter G (m+1) ((n:Int),out,())=iter G m (((n / 128:Nat):Int),out++[yC ((n % 128+128:Nat):Int)],()):=ac9 (iter G m) n out hc hn (by omega);rw[e1,pp ace ac9 m (n / 128) _ (by omega) (by omega) (λ _=>by rw[pn hc] at ho'; simp at ho' ⊢; omega),pn hc]
   simp
  ·have e1:iter G (m+1) ((n:Int),out,())=some (out++[yC (n:Int)],()):=ace (iter G m) n out hc (by omega);rw[e1,po hc]
theorem kO (x lo hi:Int):yk (x,lo,hi,())=some (decide (x≥lo) && decide (x<=hi),()):=by
 unfold yk;cases h:decide (x≥lo)<;>simp[h]
theorem uX (x lo hi:Int):y6 (x,lo,hi,())=some (decide (x≥lo) && decide (x<=hi),()):=by
 unfold y6;cases h:decide (x≥lo)<;>simp[h]
theorem abm (n m:Nat):Int.tdiv (n:Int) (m:Int)=((n / m:Nat):Int):=by
 rw[amT (by omega)]; rfl
theorem abr (n m:Nat):Int.tmod (n:Int) (m:Int)=((n % m:Nat):Int):=by
 rw[Int.tmod_eq_emod_of_nonneg (by omega)]; rfl
theorem KL (n:Int):Zj (n,())=some (jc n,()):=by
 unfold Zj jc;simp only[kO,akH];by_cases h:0<=n/\n<=2147483647
 ·have e1:(decide (n≥0) && decide (n<=2147483647))=true:=by simp; omega
  simp only[e1,akO,akI,if_pos h];obtain⟨m,rfl⟩:=Int.eq_ofNat_of_zero_le h.1;have hm:m<=2147483647:=by omega
  have hl:=fH 5 m (by omega);refine (pp ?_ ?_ fuel m [] (by rw[ja]; omega) hm (λ _=>by simp at hl ⊢; omega)).trans (by simp)
  ·intro rec k out hk ho;have:decide ((k:Int)>127)=false:=by simp; omega
   simp only[this,akI,akN,akM];rw[if_pos (by omega)]
  ·intro rec k out hk hkm ho;have:decide ((k:Int)>127)=true:=by simp; omega
   simp only[this,akJ,akN,akM];rw[if_pos (by omega),show Int.tdiv (k:Int) 128=((k / 128:Nat):Int) from abm k 128,show Int.tmod (k:Int) 128=((k % 128:Nat):Int) from abr k 128,zh (by omega) (by omega),zh (by omega) (by omega)];rfl
 ·have e1:(decide (n≥0) && decide (n<=2147483647))=false:=by simp; omega
  simp only[e1,al2,akJ,if_neg h]
theorem S5 (c:zR) (hc:ya c):Ens (kN (c,())) λ r=>0<=r.1.2.1/\r.2.1.length<=1000:=by
 unfold kN;refine Ens.loop (λ x=>0<=x.2.1/\x.2.1<=3/\(x.1.length:Int)<=5*x.2.1/\0<=x.2.2.1.2.1) (λ x=>(4 - x.2.1).toNat) ?_ ⟨Int.le_refl _,(show (0:Int)<=3 by decide),by simp,hc.2⟩ (by dsimp only; rw[ja]; omega)
 intro rec x hx abX;obtain⟨x1,x2,x3,x4⟩:=hx;refine (zI (c.1,x.2.2.1.2) 4 ⟨hc.1,x4⟩).bind λ r1 hr1 => ?_;have h4:=hr1.2.2 (by decide);refine Ens.cond (λ h => ?_) λ h => ?_
 ·have h:x.2.1<r1.2.1:=by simpa using h
  refine (jN (c.1,r1.1.2) _ ⟨hc.1,hr1.1⟩ (by simp)).bind λ r2 hr2 => ?_;simp only[KL,akH];have hl:=yY r2.2.1;refine Ens.ite (by omega) ?_;rw[zh (n:=x.2.1+1) (by omega) (by omega)];refine abX _ ⟨?_,?_,?_,hr2.1⟩ ?_
  ·show 0<=x.2.1+1; omega
  ·show x.2.1+1<=3; omega
  ·show ((x.1++jc r2.2.1).length:Int)<=5*(x.2.1+1);simp only[akR]; omega
  ·show (4 - (x.2.1+1)).toNat<(4 - x.2.1).toNat; omega
 ·refine (YN (c.1,r1.1.2) 3 ⟨hc.1,hr1.1⟩).bind λ r4 hr4 => ?_;refine Ens.cond (λ _ => ?_) λ _=>Ens.some ⟨hr4,by dsimp only; omega⟩
  refine (jN (c.1,r4.1.2) _ ⟨hc.1,hr4⟩ (by simp)).bind λ r5 hr5 => ?_;refine (zI (c.1,r5.1.2) 3 ⟨hc.1,hr5.1⟩).bind λ r6 hr6 => ?_;refine Ens.ite (by simp only[akN,akM]; omega) (Ens.some ⟨hr6.1,?_⟩)
  simp only[akR,akN,akM]; omega
theorem S0 (c:zR) (hc:ya c):Ens (kC (c,())) λ r=>0<=r.1.2.1/\r.2.1.1.length<=200000:=by
 unfold kC;refine (S5 c hc).bind λ r0 hr0 => ?_;refine Ens.ite (by omega) ?_;refine (zI (c.1,r0.1.2) _ ⟨hc.1,hr0.1⟩).bind λ r1 hr1 => ?_;refine (zI (c.1,r1.1.2) 12 ⟨hc.1,hr1.1⟩).bind λ r2 hr2 => ?_;refine Ens.cond (λ _ => ?_) λ _=>Ens.cond (λ _ => ?_) λ _ => ?_
 ·refine (jN (c.1,r2.1.2) _ ⟨hc.1,hr2.1⟩ (by simp)).bind λ r3 hr3=>Ens.some ⟨hr3.1,?_⟩;simp only[al9]; omega
 ·refine (zI (c.1,r2.1.2) 2 ⟨hc.1,hr2.1⟩).bind λ r4 hr4 => ?_;have h:=hr4.2.2 (by decide);have h0:=hr4.2.1;rw[zh (n:=100000+r4.2.1) (by omega) (by omega)];refine Ens.ite rfl (Ens.ite (by omega) (Ens.some ⟨hr4.1,?_⟩));simp only[List.length_replicate]; omega
 ·refine Ens.some ⟨hr2.1,?_⟩;simp only[al9]; omega
end G448
namespace G448
open Ev Go
theorem dx (n:Int):Kg (n,())=some (jc n,()):=by
 unfold Kg jc;simp only[Lk,akH];by_cases h:0<=n/\n<=2147483647
 ·have e1:(decide (n≥0) && decide (n<=2147483647))=true:=by simp; omega
  simp only[e1,akO,akI,if_pos h];obtain⟨m,rfl⟩:=Int.eq_ofNat_of_zero_le h.1;have hm:m<=2147483647:=by omega
  have hl:=fH 5 m (by omega);refine (pp ?_ ?_ fuel m [] (by rw[ja]; omega) hm (λ _=>by simp at hl ⊢; omega)).trans (by simp)
  ·intro rec k out hk ho;have:decide ((k:Int)≥128)=false:=by simp; omega
   simp only[this,akI,akN,akM];rw[if_pos (by omega)]
  ·intro rec k out hk hk2 ho;have:decide ((k:Int)≥128)=true:=by simp; omega
   have e2:Int.tmod (k:Int) 128=((k % 128:Nat):Int):=by simp[Int.tmod]
   have e3:Int.tdiv (k:Int) 128=((k / 128:Nat):Int):=by simp[Int.tdiv]
   simp only[this,akJ,e2,e3,akN,akM];rw[if_pos (by omega),zh (n:=((k % 128:Nat):Int)+128) (by omega) (by omega),zh (n:=((k / 128:Nat):Int)) (by omega) (by omega)];rfl
 ·have e1:(decide (n≥0) && decide (n<=2147483647))=false:=by simp; omega
  simp only[e1,al2,akJ,if_neg h]
noncomputable def JW (s:List UInt8):List UInt8:=jc (s.length:Int)++s
noncomputable def nums (l:List Int):List UInt8:=(l.map jc).flatten
theorem JX (s:List UInt8):(JW s).length<=5+s.length:=by
 unfold JW;have:=yY (s.length:Int);rw[akR]; omega
theorem Ks:∀ l:List Int,(nums l).length<=5*l.length
 | []=>by simp[nums]
 | x::l=>by
  have h1:=yY x;have h2:=Ks l;simp only[nums,al3,am2,akR,akN] at *;omega
theorem gZ (s:List UInt8) (h:s.length<=137438953472):MK (s,())=some (JW s,()):=by
 unfold MK JW;simp only[KL,akH];have:=yY (s.length:Int);rw[if_pos (by omega)]
theorem uJ (s:List UInt8) (h:s.length<=137438953472):QG (s,())=some (JW s,()):=by
 unfold QG JW;simp only[dx,akH];have:=yY (s.length:Int);rw[if_pos (by omega)]
theorem wc:∀ (l:List Int) (out:List UInt8),l.foldl (λ o x=>o++jc x) out=out++nums l
 | [],out=>by simp[nums]
 | x::l,out=>by rw[alx,wc l]; simp[nums]
theorem nS {put:Int×Unit->Option (List UInt8×Unit)} (hp:∀ n,put (n,())=some (jc n,())) (l:List Int) (hl:l.length<=137438953472) (out:List UInt8) (ho:out.length<=1000000000000)
  {G:(List UInt8×Int×Unit->Option (List UInt8×Unit))->List UInt8×Int×Unit->Option (List UInt8×Unit)}
  (hG:∀ rec o (i:Int),G rec (o,i,())=bif decide (i<(l.length:Int)) then (if 0<=i/\i<(l.length:Int) then (put (rd .i64 l i.toNat,())).bind λ r1=>
   if (o.length+r1.1.length)*1<=70368744177664 then rec (o++r1.1,wr (i+1),()) else none else none) else some (o,())):
  iter G fuel (out,0,())=some (out++nums l,()):=by
 have:=NA (λ i (o:List UInt8)=>(o,i,())) l (λ o x=>o++jc x) (λ o=>some (o,())) (by omega) (λ i o=>o.length<=1000000000000+5*i) (G:=G) ?_ ?_ (s0:=out) (by omega)
 ·rw[this,wc]
 ·intro rec o h; rw[hG]; simp
 ·intro rec i o x hx hi h;have hpl:=yY x;refine⟨by rw[akR]; omega,?_⟩
  rw[hG];simp only[zw hi,akP,akJ,akY,if_true,akT,zt (e:=.i64) hx,hp,akH,zq (show i<4611686018427387904 by omega)];rw[if_pos (by omega)]
theorem rZ (l:List Int) (hl:l.length<=137438953472):qR (l,())=some (nums l,()):=by
 unfold qR;exact (nS (put:=Zj) KL l hl [] (by simp) (λ rec o i=>rfl)).trans (by simp)
theorem uW (l:List Int) (hl:l.length<=137438953472):QS (l,())=some (nums l,()):=by
 unfold QS;exact (nS (put:=Kg) dx l hl [] (by simp) (λ rec o i=>rfl)).trans (by simp)
noncomputable def Kz (c:za) (q:zH):List UInt8:=
 bif zT c q then ((jc q.1++JW q.2.1)++jc (q.2.2.length:Int))++nums q.2.2 else []
theorem Mq (c:za) (q:zH):(Kz c q).length<=15+5*zi q:=by
 unfold Kz;cases zT c q
 ·simp
 ·have h1:=yY q.1;have h2:=JX q.2.1;have h3:=yY (q.2.2.length:Int);have h4:=Ks q.2.2;simp only[akJ,akR,zi,zn];omega
theorem rS (c:za) (q:zH) (hw:zi q<=137438953472):qB (c,q,())=some (Kz c q,()):=by
 have h1:q.2.1.length<=137438953472:=by simp only[zi] at hw; omega
 have h2:q.2.2.length<=137438953472:=by simp only[zi,zn] at hw; omega
 have l1:=yY q.1;have l2:=JX q.2.1;have l3:=yY (q.2.2.length:Int);unfold qB Kz;simp only[LD c q hw,KL,gZ _ h1,akH];cases zT c q
 ·rfl
 simp only[akO,akI,akJ,akR];rw[if_pos (by omega),if_pos (by omega)];exact nS (put:=Zj) KL q.2.2 h2 _ (by simp only[akR]; omega) (λ rec o i=>by simp only[KL,akH])
theorem R6 (c:za) (q:zH) (hw:zi q<=1073741824):dy (c,q,())=some (Kz c q,()):=by
 have h1:q.2.1.length<=137438953472:=by simp only[zi] at hw; omega
 have h2:q.2.2.length<=137438953472:=by simp only[zi,zn] at hw; omega
 have l1:=yY q.1;have l2:=JX q.2.1;have l3:=yY (q.2.2.length:Int);have l4:=Ks q.2.2;unfold dy Kz;simp only[NK c q hw,dx,uJ _ h1,uW _ h2,akH];cases zT c q
 ·rfl
 simp only[akO,akI,akJ,akR];rw[if_pos (by omega),if_pos (by omega),if_pos (by omega)]
noncomputable def Ko (c:za) (m:zv):List UInt8:=
 bif yJ c m then (bif (m.1==1) then (jc m.1++JW m.2.2.1.1)++Kz c m.2.2.1.2 else
  bif (m.1==2) then (((jc m.1++jc m.2.2.2.1.1)++JW m.2.2.2.1.2.1)++jc (m.2.2.2.1.2.2.length:Int))++nums m.2.2.2.1.2.2 else
  bif (m.1==3) then (jc m.1++nums [m.2.1,m.2.2.2.2.2.1])++Kz c m.2.2.2.2.1 else
  jc m.1++nums [m.2.2.2.2.2.2.1,m.2.2.2.2.2.2.2.1,m.2.2.2.2.2.2.2.2.1,m.2.2.2.2.2.2.2.2.2]) else []
theorem TW (c:za) (m:zv):(Ko c m).length<=60+5*zj m:=by
 unfold Ko;have h0:=yY m.1;have h1:=JX m.2.2.1.1;have h2:=Mq c m.2.2.1.2;have h3:=yY m.2.2.2.1.1;have h4:=JX m.2.2.2.1.2.1;have h5:=yY (m.2.2.2.1.2.2.length:Int);have h6:=Ks m.2.2.2.1.2.2;have h7:=Ks [m.2.1,m.2.2.2.2.2.1];have h8:=Mq c m.2.2.2.2.1;have h9:=Ks [m.2.2.2.2.2.2.1,m.2.2.2.2.2.2.2.1,m.2.2.2.2.2.2.2.2.1,m.2.2.2.2.2.2.2.2.2];simp only[akN,akM] at h7 h9;cases yJ c m
 ·simp
 cases (m.1==1)
 ·cases (m.1==2)
  ·cases (m.1==3)
   ·simp only[akJ,akI,akR]; omega
   ·simp only[akJ,akI,akR,zj]; omega
  ·simp only[akJ,akI,akR,zj,zk,zn]; omega
 ·simp only[akJ,akR,zj,zp]; omega
theorem aaE (c:za) (m:zv) (hw:zj m<=137438953472):gV (c,m,())=some (Ko c m,()):=by
 have w1:m.2.2.1.1.length<=137438953472:=by simp only[zj,zp] at hw; omega
 have w2:zi m.2.2.1.2<=137438953472:=by simp only[zj,zp] at hw; omega
 have w3:m.2.2.2.1.2.1.length<=137438953472:=by simp only[zj,zk] at hw; omega
 have w4:m.2.2.2.1.2.2.length<=137438953472:=by simp only[zj,zk,zn] at hw; omega
 have w5:zi m.2.2.2.2.1<=137438953472:=by simp only[zj] at hw; omega
 have h0:=yY m.1;have h1:=JX m.2.2.1.1;have h2:=Mq c m.2.2.1.2;have h3:=yY m.2.2.2.1.1;have h4:=JX m.2.2.2.1.2.1;have h5:=yY (m.2.2.2.1.2.2.length:Int);have h6:=Ks m.2.2.2.1.2.2;have h7:=Ks [m.2.1,m.2.2.2.2.2.1];have h8:=Mq c m.2.2.2.2.1;have h9:=Ks [m.2.2.2.2.2.2.1,m.2.2.2.2.2.2.2.1,m.2.2.2.2.2.2.2.2.1,m.2.2.2.2.2.2.2.2.2];simp only[akN,akM] at h7 h9;unfold gV Ko;simp only[qx c m hw,KL,gZ _ w1,gZ _ w3,rS c _ w2,rS c _ w5,rZ _ w4,rZ [m.2.1,m.2.2.2.2.2.1] (by simp),
  rZ [m.2.2.2.2.2.2.1,m.2.2.2.2.2.2.2.1,m.2.2.2.2.2.2.2.2.1,m.2.2.2.2.2.2.2.2.2] (by simp),Option.bind_some,List.length_append]
 cases yJ c m
 ·rfl
 cases (m.1==1)
 ·cases (m.1==2)
  ·cases (m.1==3)
   ·simp only[akO,akJ,akI]; rw[if_pos (by omega)]
   ·simp only[akO,akJ,akI]; rw[if_pos (by omega),if_pos (by omega)]
  ·simp only[akO,akJ,akI]; rw[if_pos (by omega),if_pos (by omega),if_pos (by omega),if_pos (by omega)]
 ·simp only[akO,akJ,akI]; rw[if_pos (by omega),if_pos (by omega)]
theorem XR (b k:Nat) (hb:b<128) (hk:k<=4):shl (b:Int) (7*(k:Int))=((b*128 ^ k:Nat):Int):=by
 unfold shl;have e:min (7*(k:Int)).toNat 64=7*k:=by omega
 rw[e];have e2:(2:Int) ^ (7*k)=((128 ^ k:Nat):Int):=by
  rw[Int.pow_mul];simp
 rw[e2,←Int.natCast_mul];have:b*128 ^ k<=127*128 ^ 4:=Nat.mul_le_mul (by omega) (Nat.pow_le_pow_right (by decide) hk);exact zh (by omega) (by omega)
theorem Pb (v b k:Nat) (hv:v<128 ^ k) (hb:b<128) (hk:k<=4):bor (v:Int) ((b*128 ^ k:Nat):Int)=((v+b*128 ^ k:Nat):Int):=by
 have h4:128 ^ k<=128 ^ 4:=Nat.pow_le_pow_right (by decide) hk;have hbk:b*128 ^ k<=127*128 ^ 4:=Nat.mul_le_mul (by omega) h4;unfold bor;have e1:(BitVec.ofInt 64 (v:Int)).toNat=v:=by
  rw[BitVec.toNat_ofInt]; omega
 have e2:(BitVec.ofInt 64 ((b*128 ^ k:Nat):Int)).toNat=b*128 ^ k:=by
  rw[BitVec.toNat_ofInt]; omega
 rw[BitVec.toNat_or,e1,e2];have e3:v ||| b*128 ^ k=v+b*128 ^ k:=by
  have:=Nat.two_pow_add_eq_or_of_lt (i:=7*k) (b:=v) (by rw[Nat.pow_mul]; exact hv) b
  rw[Nat.pow_mul,Nat.mul_comm] at this;rw[Nat.or_comm,←this,Nat.add_comm]
 rw[e3];exact zh (by omega) (by omega)
def JK:List UInt8->Nat->Nat->Nat->Option (Nat×Nat)
 | [],_,_,_=>none
 | b::l,v,k,0=>none
 | b::l,v,k,n+1=>if b.toNat<128 then (if (k>0/\b.toNat=0)∨v+b.toNat*128 ^ k>2147483647 then none else some (v+b.toNat*128 ^ k,k+1)) else JK l (v+(b.toNat % 128)*128 ^ k) (k+1) n
def zo (s:List UInt8) (at_:Int):Int×Int×Bool:=
 if at_<0 then (0,0,false) else match JK (s.drop at_.toNat) 0 0 5 with
  | some p=>((p.1:Int),at_+(p.2:Int),true)
  | none=>(0,0,false)
theorem uu (v k n:Nat):JK [] v k n=none:=by cases n<;>rfl
theorem UB {k:Nat} (h:k<=4):128 ^ k<=268435456:=by
 have:128 ^ k<=128 ^ 4:=Nat.pow_le_pow_right (by decide) h;omega
theorem rO (s:List UInt8) (at_:Int) (hs:s.length<=137438953472):qt (s,at_,())=some ((zo s at_).1,(zo s at_).2.1,(zo s at_).2.2,()):=by
 unfold qt zo;dsimp only;by_cases ha:at_<0
 ·rw[if_pos ha];refine (walk 5 (λ i (v:Nat)=>((v:Int),i,())) (λ i v=>True) (λ i v=>some (0,0,false,())) (by decide) ?_ ?_ (s0:=0) trivial).trans rfl
  ·intro rec v _; simp
  ·intro rec i v hi _;left;simp[ha,show (i:Int)<5 by omega]
 rw[if_neg ha];obtain⟨a,rfl⟩:∃ a:Nat,at_=(a:Int):=⟨at_.toNat,by omega⟩
 simp only[akT,ha,akQ,akI];refine (walk 5 (λ i (v:Nat)=>((v:Int),i,())) (λ i v=>v<128 ^ i) (λ i v=>match JK (s.drop (a+i)) v i (5 - i) with|some p=>some ((p.1:Int),(a:Int)+(p.2:Int),true,())|none=>some (0,0,false,())) (by decide) ?_ ?_ (s0:=0) (by decide)).trans ?_
 ·intro rec v hv;have:JK (s.drop (a+5)) v 5 0=none:=by cases s.drop (a+5)<;>rfl
  simp[this]
 ·intro rec i v hi hv;have hp:=UB (k:=i) (by omega);have e1:wr ((s.length:Int) - (i:Int))=(s.length:Int) - (i:Int):=zh (by omega) (by omega);have e5:((i:Int)<5):=by omega
  simp only[e5,akP,akJ,e1];by_cases hlt:a+i<s.length
  ·have h1:¬ ((a:Int)≥(s.length:Int) - (i:Int)):=by omega
   have e2:wr ((a:Int)+(i:Int))=((a+i:Nat):Int):=by rw[zh (by omega) (by omega)]; omega
   have e3:wr (7*(i:Int))=7*(i:Int):=zh (by omega) (by omega);have hx:s[a+i]?=some s[a+i]:=List.getElem?_eq_getElem hlt;simp only[h1,akQ,akI,e2,e3,akT,zt (e:=.u8) hx];rw[if_pos (by omega),if_neg (by omega),al1 hlt,show 5 - i=(5 - (i+1))+1 by omega];simp only[JK];have e4:Int.tmod (((s[a+i].toNat:Nat):Int)) 128=((s[a+i].toNat % 128:Nat):Int):=by simp[Int.tmod]
   rw[e4,XR _ i (Nat.mod_lt _ (by decide)) (by omega),Pb v _ i hv (Nat.mod_lt _ (by decide)) (by omega)];by_cases hb:s[a+i].toNat<128
   ·left;have hm:s[a+i].toNat % 128=s[a+i].toNat:=Nat.mod_eq_of_lt hb;have hb':(((s[a+i].toNat:Nat):Int)<128):=by omega
    simp only[hb',akP,akJ,hm,hb,if_true];have hbk:s[a+i].toNat*128 ^ i<=127*268435456:=Nat.mul_le_mul (by omega) hp;have e6:wr (((a+i:Nat):Int)+1)=(a:Int)+((i+1:Nat):Int):=by rw[zh (by omega) (by omega)]; omega
    by_cases hz:i>0
    ·have hz':((i:Int)>0):=by omega
     simp only[hz',akP,akJ];by_cases h0:s[a+i].toNat=0
     ·have:(((s[a+i].toNat:Nat):Int)==0)=true:=by simp[h0]
      rw[this,if_pos (.inl ⟨hz,h0⟩)]; rfl
     ·have:(((s[a+i].toNat:Nat):Int)==0)=false:=by rw[beq_eq_false_iff_ne]; omega
      rw[this];by_cases acy:v+s[a+i].toNat*128 ^ i>2147483647
      ·rw[if_pos (.inr acy)];simp only[cond_false,show (((v+s[a+i].toNat*128 ^ i:Nat):Int)>2147483647) by omega,decide_true,cond_true]
      ·rw[if_neg (by intro h; rcases h with h|h; exact h0 h.2; exact acy h)]
       simp only[cond_false,show ¬ (((v+s[a+i].toNat*128 ^ i:Nat):Int)>2147483647) by omega,decide_false,e6]
    ·have hz':¬ ((i:Int)>0):=by omega
     simp only[hz',akQ,akI];by_cases acy:v+s[a+i].toNat*128 ^ i>2147483647
     ·rw[if_pos (.inr acy)];simp only[show (((v+s[a+i].toNat*128 ^ i:Nat):Int)>2147483647) by omega,decide_true,cond_true]
     ·rw[if_neg (by intro h; rcases h with h|h; exact hz h.1; exact acy h)]
      simp only[show ¬ (((v+s[a+i].toNat*128 ^ i:Nat):Int)>2147483647) by omega,decide_false,cond_false,e6]
   ·right;have hb':¬ (((s[a+i].toNat:Nat):Int)<128):=by omega
    refine⟨v+s[a+i].toNat % 128*128 ^ i,?_,?_,?_⟩
    ·rw[am4];have:s[a+i].toNat % 128*128 ^ i<=127*128 ^ i:=Nat.mul_le_mul (by omega) (Nat.le_refl _);omega
    ·simp only[hb',akQ,akI,zq (show i<4611686018427387904 by omega)]
    ·simp only[hb,if_false];rw[show a+(i+1)=a+i+1 by omega]
  ·left;have h1:((a:Int)≥(s.length:Int) - (i:Int)):=by omega
   rw[amn (by omega),uu];simp only[h1,akP,akJ]
 ·simp only[alJ,alY];cases JK (s.drop a) 0 0 5<;>rfl
abbrev yN:=Int×Bool
def zr (s:List UInt8) (r:yN):yN×Int:=
 if (zo s r.1).2.2=true/\r.2=true then (((zo s r.1).2.1,true),(zo s r.1).1) else ((r.1,false),0)
def yg (s:List UInt8) (at_:Int):List UInt8×Int×Bool:=
 if (zo s at_).2.2=true/\(zo s at_).1<=(s.length:Int) - (zo s at_).2.1 then
  ((s.drop (zo s at_).2.1.toNat).take (zo s at_).1.toNat,(zo s at_).2.1+(zo s at_).1,true) else ([],0,false)
def yP (s:List UInt8) (r:yN):yN×List UInt8:=
 if (yg s r.1).2.2=true/\r.2=true then (((yg s r.1).2.1,true),(yg s r.1).1) else ((r.1,false),[])
theorem uv:∀ (l:List UInt8) (v k n:Nat) {p:Nat×Nat},JK l v k n=some p->p.1<=2147483647/\k+1<=p.2/\p.2<=k+l.length
 | [],v,k,n,p,h=>by rw[uu] at h; cases h
 | b::l,v,k,0,p,h=>by cases h
 | b::l,v,k,n+1,p,h=>by
  simp only[JK] at h;split at h
  ·split at h
   ·cases h
   ·next hc=>
    cases h;simp only[akN];have:¬ v+b.toNat*128 ^ k>2147483647:=λ hh=>hc (.inr hh);omega
  ·have:=uv l _ _ n h;simp only[akN];omega
theorem NB (s:List UInt8) (at_:Int) (h:(zo s at_).2.2=true):0<=at_/\0<=(zo s at_).1/\(zo s at_).1<=2147483647/\at_+1<=(zo s at_).2.1/\(zo s at_).2.1<=(s.length:Int):=by
 unfold zo at h ⊢;split at h
 ·simp at h
 ·next ha=>
  rw[if_neg ha];cases hg:JK (s.drop at_.toNat) 0 0 5 with
  | none=>rw[hg] at h; simp at h
  | some p=>
   have:=uv _ _ _ _ hg;simp only[al7] at this ⊢;omega
theorem qP (s:List UInt8) (r:yN) (hs:s.length<=137438953472):ZB ((s,r),())=some ((s,(zr s r).1),(zr s r).2,()):=by
 unfold ZB zr;simp only[rO s r.1 hs,akH];cases hg:(zo s r.1).2.2<;>cases hr:r.2<;>simp
theorem DI (s:List UInt8) (n at_:Int) (h1:0<=n) (h2:0<=at_):List.take ((at_+n).toNat - at_.toNat) (List.drop at_.toNat s)=(s.drop at_.toNat).take n.toNat:=by
 congr 1; omega
theorem aav (s:List UInt8) (at_:Int) (hs:s.length<=137438953472):gP (s,at_,())=some ((yg s at_).1,(yg s at_).2.1,(yg s at_).2.2,()):=by
 unfold gP yg;simp only[rO s at_ hs,akH];cases hg:(zo s at_).2.2
 ·simp
 ·obtain⟨h0,h1,h2,h3,h4⟩:=NB s at_ hg;have e1:wr ((s.length:Int) - (zo s at_).2.1)=(s.length:Int) - (zo s at_).2.1:=zh (by omega) (by omega);have e2:wr ((zo s at_).2.1+(zo s at_).1)=(zo s at_).2.1+(zo s at_).1:=zh (by omega) (by omega);simp only[e1,e2,akO,akI];by_cases hc:(zo s at_).1<=(s.length:Int) - (zo s at_).2.1
  ·rw[if_pos (show True/\(zo s at_).1<=(s.length:Int) - (zo s at_).2.1 from⟨trivial,hc⟩)];simp only[show ¬ (zo s at_).1>(s.length:Int) - (zo s at_).2.1 by omega,akQ,akI];rw[if_pos (by omega),DI _ _ _ h1 (by omega)]
  ·rw[if_neg (show ¬ (True/\(zo s at_).1<=(s.length:Int) - (zo s at_).2.1) from λ h=>hc h.2)];simp only[show (zo s at_).1>(s.length:Int) - (zo s at_).2.1 by omega,akP,akJ]
theorem rY (s:List UInt8) (r:yN) (hs:s.length<=137438953472):MS ((s,r),())=some ((s,(yP s r).1),(yP s r).2,()):=by
 unfold MS yP;simp only[aav s r.1 hs,akH];cases hg:(yg s r.1).2.2<;>cases hr:r.2<;>simp
def ZT (s:List UInt8):Nat->yN->List Int->yN×List Int
 | 0,r,out=>(r,out)
 | n+1,r,out=>if r.2=true then ZT s n (zr s r).1 (out++[(zr s r).2]) else (r,out)
def Z6 (s:List UInt8) (r:yN):yN×List Int:=ZT s (zr s r).2.toNat (zr s r).1 []
theorem UH (s:List UInt8) (r:yN):0<=(zr s r).2/\(zr s r).2<=2147483647:=by
 unfold zr;split
 ·next h=>have:=NB s r.1 h.1; simp only; omega
 ·simp
theorem Do (s:List UInt8) (r:yN) (hs:s.length<=137438953472):bY ((s,r),())=some ((s,(Z6 s r).1),(Z6 s r).2,()):=by
 obtain⟨b1,b2⟩:=UH s r;unfold bY Z6;dsimp only;rw[qP s r hs,akH];dsimp only;generalize hn:(zr s r).2=n at *;obtain⟨n,rfl⟩:∃ m:Nat,n=(m:Int):=⟨n.toNat,by omega⟩
 simp only[akT];refine (walk n (λ i (t:List Int×yN)=>(t.1,i,(s,t.2),())) (λ i t=>t.1.length<=i) (λ i t=>some ((s,(ZT s (n - i) t.2 t.1).1),(ZT s (n - i) t.2 t.1).2,())) (by omega) ?_ ?_ (s0:=([],(zr s r).1)) (by simp)).trans (by simp)
 ·intro rec t ht;simp[ZT]
 ·intro rec i t hi ht;rw[show n - i=(n - (i+1))+1 by omega];simp only[ZT,show ((i:Int)<(n:Int)) by omega,akP,akJ];cases hr:t.2.2
  ·left;simp
  ·right;refine⟨(t.1++[(zr s t.2).2],(zr s t.2).1),by simp; omega,?_,by simp⟩
   simp only[akJ];simp only[qP s t.2 hs,akH,akN,akM,zq (show i<4611686018427387904 by omega)];rw[if_pos (by omega)]
def jw (s:List UInt8) (r:yN):yN×zH:=
 ((Z6 s (yP s (zr s r).1).1).1,((zr s r).2,(yP s (zr s r).1).2,(Z6 s (yP s (zr s r).1).1).2))
theorem Dn (s:List UInt8) (r:yN) (hs:s.length<=137438953472):qQ ((s,r),())=some ((s,(jw s r).1),(jw s r).2,()):=by
 unfold qQ;dsimp only;rw[qP s r hs,akH];dsimp only;rw[rY s _ hs,akH];dsimp only;rw[Do s _ hs,akH];rfl
theorem px {s:List UInt8} {r:yN} (h:(zr s r).1.2=true):r.2=true/\0<=r.1/\r.1+1<=(zr s r).1.1/\(zr s r).1.1<=(s.length:Int):=by
 unfold zr at h ⊢;split at h
 ·next hc=>
  rw[if_pos hc];have:=NB s r.1 hc.1;exact⟨hc.2,this.1,this.2.2.2.1,this.2.2.2.2⟩
 ·simp at h
theorem fL {s:List UInt8} {r:yN} (h:(yP s r).1.2=true):r.2=true/\0<=r.1/\r.1+1+((yP s r).2.length:Int)<=(yP s r).1.1/\(yP s r).1.1<=(s.length:Int):=by
 unfold yP at h ⊢;split at h
 ·next hc=>
  rw[if_pos hc];obtain⟨h1,h2⟩:=hc;refine⟨h2,?_⟩;unfold yg at h1 ⊢;split at h1
  ·next hg=>
   rw[if_pos hg];have:=NB s r.1 hg.1;simp only[al0,al7];omega
  ·simp at h1
 ·simp at h
theorem D8 (s:List UInt8):∀ (n:Nat) (r:yN) (out:List Int),(ZT s n r out).1.2=true->r.2=true/\r.1+((ZT s n r out).2.length:Int)<=(ZT s n r out).1.1+(out.length:Int)/\out.length<=(ZT s n r out).2.length/\
  ((ZT s n r out).1.1<=(s.length:Int)∨ZT s n r out=(r,out))
 | 0,r,out,h=>⟨h,by simp[ZT],by simp[ZT],.inr rfl⟩
 | n+1,r,out,h=>by
  simp only[ZT] at h ⊢;split at h
  ·next hr=>
   rw[if_pos hr];obtain⟨h1,h2,h3,h4⟩:=D8 s n _ _ h;obtain⟨g1,g2,g3,g4⟩:=px h1;simp only[akR,akN,akM] at h2 h3;refine⟨hr,by omega,by omega,.inl ?_⟩;rcases h4 with h4|h4
   ·exact h4
   ·rw[h4]; exact g4
  ·next hr=>exact absurd h hr
theorem Bf {s:List UInt8} {r:yN} (h:(Z6 s r).1.2=true):r.2=true/\0<=r.1/\r.1+1+((Z6 s r).2.length:Int)<=(Z6 s r).1.1/\(Z6 s r).1.1<=(s.length:Int):=by
 unfold Z6 at h ⊢;obtain⟨h1,h2,h3,h4⟩:=D8 s _ _ _ h;obtain⟨g1,g2,g3,g4⟩:=px h1;simp only[akM] at h2;refine⟨g1,g2,by omega,?_⟩;rcases h4 with h4|h4
 ·exact h4
 ·rw[h4]; exact g4
theorem py {s:List UInt8} {r:yN} (h:(jw s r).1.2=true):r.2=true/\0<=r.1/\r.1+(zi (jw s r).2:Int)<=(jw s r).1.1/\(jw s r).1.1<=(s.length:Int):=by
 unfold jw at h ⊢;obtain⟨a1,a2,a3,a4⟩:=Bf h;obtain⟨b1,b2,b3,b4⟩:=fL a1;obtain⟨c1,c2,c3,c4⟩:=px b1;simp only[zi,zn];exact⟨c1,c2,by omega,a4⟩
def Ql:zv:=(0,0,([],0,[],[]),(0,[],[]),(0,[],[]),0,(0,0,0,0))
noncomputable def JI (c:za) (s:List UInt8) (r:yN) (m:zv):zv×Bool:=bif r.2 && (r.1==(s.length:Int) && yJ c m) then (m,true) else (Ql,false)
theorem bV (c:za) (s:List UInt8) (r:yN) (m:zv) (hw:r.2=true->r.1=(s.length:Int)->zj m<=1073741824):
  (bif !r.2 then some (Ql,false,()) else bif (r.1 != (s.length:Int)) then some (Ql,false,()) else (Yb (c,m,())).bind λ r3=>bif !r3.1 then some (Ql,false,()) else some (m,true,()))=some ((JI c s r m).1,(JI c s r m).2,()):=by
 unfold JI;cases hr:r.2
 ·rfl
 ·by_cases hl:r.1=(s.length:Int)
  ·have e:(r.1 != (s.length:Int))=false:=by simp[hl]
   have e':(r.1==(s.length:Int))=true:=by simp[hl]
   rw[e,e',qx c m (by have:=hw hr hl; omega)]
   cases h:yJ c m<;>simp[h]
  ·have e:(r.1 != (s.length:Int))=true:=by simp[hl]
   have e':(r.1==(s.length:Int))=false:=by simp[hl]
   rw[e,e']; rfl
noncomputable def JP (c:za) (s:List UInt8):zv×Bool:=
 let a:=zr s (0,true)
 bif (a.2==1) then JI c s (jw s (yP s a.1).1).1 (a.2,0,((yP s a.1).2,(jw s (yP s a.1).1).2),(0,[],[]),(0,[],[]),0,(0,0,0,0)) else
 bif (a.2==2) then JI c s (Z6 s (yP s (zr s a.1).1).1).1 (a.2,0,([],0,[],[]),((zr s a.1).2,(yP s (zr s a.1).1).2,(Z6 s (yP s (zr s a.1).1).1).2),(0,[],[]),0,(0,0,0,0)) else
 bif (a.2==3) then JI c s (jw s (zr s (zr s a.1).1).1).1 (a.2,(zr s a.1).2,([],0,[],[]),(0,[],[]),(jw s (zr s (zr s a.1).1).1).2,(zr s (zr s a.1).1).2,(0,0,0,0)) else
 bif (a.2==4) then JI c s (zr s (zr s (zr s (zr s a.1).1).1).1).1 (a.2,0,([],0,[],[]),(0,[],[]),(0,[],[]),0,((zr s a.1).2,(zr s (zr s a.1).1).2,(zr s (zr s (zr s a.1).1).1).2,(zr s (zr s (zr s (zr s a.1).1).1).1).2)) else
 JI c s a.1 (a.2,0,([],0,[],[]),(0,[],[]),(0,[],[]),0,(0,0,0,0))
theorem w1 (s:List UInt8) (a:yN) (k:Int) (hs:s.length<=1073741824) (h:(jw s (yP s a).1).1.2=true):zj (k,0,((yP s a).2,(jw s (yP s a).1).2),(0,[],[]),(0,[],[]),0,(0,0,0,0))<=1073741824:=by
 obtain⟨h1,h2,h3,h4⟩:=py h;obtain⟨g1,g2,g3,g4⟩:=fL h1;simp only[zj,zp,zk,zi,zn,akM] at h3 ⊢;omega
theorem w2 (s:List UInt8) (a:yN) (k x:Int) (hs:s.length<=1073741824) (h:(Z6 s (yP s a).1).1.2=true):zj (k,0,([],0,[],[]),(x,(yP s a).2,(Z6 s (yP s a).1).2),(0,[],[]),0,(0,0,0,0))<=1073741824:=by
 obtain⟨h1,h2,h3,h4⟩:=Bf h;obtain⟨g1,g2,g3,g4⟩:=fL h1;simp only[zj,zp,zk,zi,zn,akM];omega
theorem w3 (s:List UInt8) (a:yN) (k x y:Int) (hs:s.length<=1073741824) (h:(jw s a).1.2=true):zj (k,x,([],0,[],[]),(0,[],[]),(jw s a).2,y,(0,0,0,0))<=1073741824:=by
 obtain⟨h1,h2,h3,h4⟩:=py h;simp only[zj,zp,zk,zi,zn,akM] at h3 ⊢;omega
theorem w4 (k:Int) (t:zP):zj (k,0,([],0,[],[]),(0,[],[]),(0,[],[]),0,t)<=1073741824:=by
 simp[zj,zp,zk,zi,zn]
theorem C9 (c:za) (s:List UInt8) (hs:s.length<=1073741824):qw (c,s,())=some ((JP c s).1,(JP c s).2,()):=by
 have hl:s.length<=137438953472:=by omega
 unfold qw JP;simp only[qP s _ hl,rY s _ hl,Do s _ hl,Dn s _ hl,akH];cases ((zr s (0,true)).2==1)
 ·cases ((zr s (0,true)).2==2)
  ·cases ((zr s (0,true)).2==3)
   ·cases ((zr s (0,true)).2==4)
    ·exact bV c s _ _ (λ _ _=>w4 _ _)
    ·exact bV c s _ _ (λ _ _=>w4 _ _)
   ·exact bV c s _ _ (λ h _=>w3 s _ _ _ _ hs h)
  ·exact bV c s _ _ (λ h _=>w2 s _ _ _ hs h)
 ·exact bV c s _ _ (λ h _=>w1 s _ _ hs h)
theorem Qv (c:za) (s:List UInt8) (r:yN) (m:zv) (hw:r.2=true->zj m<=1073741824):zj (JI c s r m).1<=1073741824:=by
 unfold JI;cases hr:r.2
 ·simp[Ql,zj,zp,zk,zi,zn]
 ·cases (r.1==(s.length:Int) && yJ c m)
  ·simp[Ql,zj,zp,zk,zi,zn]
  ·exact hw hr
theorem TX (c:za) (s:List UInt8) (hs:s.length<=1073741824):zj (JP c s).1<=1073741824:=by
 unfold JP;dsimp only;cases ((zr s (0,true)).2==1)
 ·cases ((zr s (0,true)).2==2)
  ·cases ((zr s (0,true)).2==3)
   ·cases ((zr s (0,true)).2==4)
    ·exact Qv c s _ _ (λ _=>w4 _ _)
    ·exact Qv c s _ _ (λ _=>w4 _ _)
   ·exact Qv c s _ _ (λ h=>w3 s _ _ _ _ hs h)
  ·exact Qv c s _ _ (λ h=>w2 s _ _ _ hs h)
 ·exact Qv c s _ _ (λ h=>w1 s _ _ hs h)
def Yg:zB:=(0,0,(0,[],[]),[])
def Jk (id:Int):zb:=(id,1,0,Yg,[],[],([],0),[])
def abT:zb:=(0,0,0,Yg,[],[],([],0),[])
theorem T7 (id:Int):ze (Jk id)=0:=rfl
noncomputable def JZ (c:za) (id:Int):zb×Bool:=bif zf c (Jk id) then (Jk id,true) else (abT,false)
theorem aaL (c:za) (id:Int):ka (c,id,())=some ((JZ c id).1,(JZ c id).2,()):=by
 have h:=Yc c (Jk id) (by rw[T7]; decide)
 unfold ka JZ;dsimp only;simp only[Jk,Yg] at h ⊢;rw[h];cases zf c (id,1,0,(0,0,(0,[],[]),[]),[],[],([],0),[])<;>rfl
theorem UL (c:za) (id:Int):ze (JZ c id).1=0:=by
 unfold JZ;cases zf c (Jk id)<;>rfl
def jr (s:List UInt8):yN×zB:=
 let a:=zr s (0,true)
 let b:=zr s a.1
 let q:=jw s b.1
 let t:=yP s q.1
 (t.1,(a.2,b.2,q.2,t.2))
noncomputable def Yn (c:za) (s:List UInt8):zB×Bool:=
 bif (jr s).1.2 && ((jr s).1.1==(s.length:Int) && zX c (jr s).2) then ((jr s).2,true) else (Yg,false)
theorem Be {s:List UInt8} (h:(jr s).1.2=true):(zu (jr s).2:Int)<=s.length:=by
 unfold jr at h ⊢;simp only at h ⊢;obtain⟨a1,a2,a3,a4⟩:=fL h;obtain⟨b1,b2,b3,b4⟩:=py a1;simp only[zu];omega
theorem aaO (c:za) (s:List UInt8) (hs:s.length<=1073741824):ke (c,s,())=some ((Yn c s).1,(Yn c s).2,()):=by
 unfold ke Yn;dsimp only;rw[qP s _ (by omega),akH];dsimp only;rw[qP s _ (by omega),akH];dsimp only;rw[Dn s _ (by omega),akH];dsimp only;rw[rY s _ (by omega),akH];dsimp only;have hw:=Be (s:=s);have e:jr s=((yP s (jw s (zr s (zr s (0,true)).1).1).1).1,((zr s (0,true)).2,(zr s (zr s (0,true)).1).2,(jw s (zr s (zr s (0,true)).1).1).2,(yP s (jw s (zr s (zr s (0,true)).1).1).1).2)):=rfl;have e1:(yP s (jw s (zr s (zr s (0,true)).1).1).1).1=(jr s).1:=rfl;have e2:((zr s (0,true)).2,(zr s (zr s (0,true)).1).2,(jw s (zr s (zr s (0,true)).1).1).2,(yP s (jw s (zr s (zr s (0,true)).1).1).1).2)=(jr s).2:=rfl;rw[e1,e2];cases hr:(jr s).1.2
 ·rfl
 ·have:=hw hr;by_cases hl:(jr s).1.1=(s.length:Int)
  ·have e3:((jr s).1.1 != (s.length:Int))=false:=by simp[hl]
   have e4:((jr s).1.1==(s.length:Int))=true:=by simp[hl]
   rw[e3,e4,qE c _ (by omega)];cases h:zX c (jr s).2<;>simp[Yg]
  ·have e3:((jr s).1.1 != (s.length:Int))=true:=by simp[hl]
   have e4:((jr s).1.1==(s.length:Int))=false:=by simp[hl]
   rw[e3,e4]; rfl
noncomputable def jV (c:za) (s:List UInt8):Nat->Nat->zB->zB×Int
 | 0,at_,old=>(old,at_)
 | n+1,at_,old=>
  let t:=yg s at_
  bif t.2.2 && (decide (t.2.1<(s.length:Int)) && (s.getD t.2.1.toNat 0==10 && (Yn c t.1).2)) then jV c s n (t.2.1+1).toNat (Yn c t.1).1 else (old,at_)
noncomputable def JN (c:za) (s:List UInt8):zB×Int:=jV c s (s.length+1) 0 Yg
theorem Qx {s:List UInt8} {at_:Int} (h:(yg s at_).2.2=true):0<=at_/\at_+1<=(yg s at_).2.1/\(yg s at_).2.1<=(s.length:Int)/\(yg s at_).1.length<=s.length/\
  (zo s at_).2.2=true/\(yg s at_).2.1=(zo s at_).2.1+(zo s at_).1/\(yg s at_).1=(s.drop (zo s at_).2.1.toNat).take (zo s at_).1.toNat:=by
 unfold yg at h ⊢;split at h
 ·next hg=>
  rw[if_pos hg];have:=NB s at_ hg.1;refine⟨by omega,by simp only; omega,by simp only; omega,?_,hg.1,rfl,rfl⟩
  simp only[al0,al7];omega
 ·simp at h
theorem vG (c:za) (s:List UInt8):∀ (n at_:Nat) (old:zB),s.length<at_+n->∀ m,s.length<at_+m->jV c s n at_ old=jV c s m at_ old
 | n,at_,old,hn,m,hm=>by
  cases n with
  | zero=>
   cases m with
   | zero=>rfl
   | succ m=>
    have:(yg s at_).2.2=false:=by
     cases h:(yg s at_).2.2
     ·rfl
     ·have:=Qx h; omega
    simp only[jV,this,alj,akI]
  | succ n=>
   cases m with
   | zero=>
    have:(yg s at_).2.2=false:=by
     cases h:(yg s at_).2.2
     ·rfl
     ·have:=Qx h; omega
    simp only[jV,this,alj,akI]
   | succ m=>
    simp only[jV];cases h:(yg s at_).2.2
    ·simp
    ·have:=Qx h;rw[vG c s n _ _ (by omega) m (by omega)]
theorem Uk:UInt8.ofNat (Int.toNat 10)=10:=rfl
theorem aaz (c:za) (s:List UInt8) (hs:s.length<=1073741824):gT (c,s,())=some ((JN c s).1,(JN c s).2,()):=by
 unfold gT bJ JN;rw[akH];dsimp only;refine (QW (λ x:Int×zB×zB×Unit=>some ((jV c s (s.length+1) x.1.toNat x.2.2.1).1,(jV c s (s.length+1) x.1.toNat x.2.2.1).2,())) (λ x=>s.length+1 - x.1.toNat)
  (λ x=>0<=x.1/\x.1<=(s.length:Int)) ?_ fuel _ ⟨by simp,by simp⟩ (by have:=YG (n:=s.length+1) (by omega); simp; omega)).trans (by rfl)
 rintro rec ⟨v,z,old,⟨⟩⟩ ⟨h1,h2⟩ abX;obtain⟨n,rfl⟩:∃ n:Nat,v=(n:Int):=⟨v.toNat,by simp only at h1; omega⟩
 simp only[akT] at h2 abX ⊢;simp only[rO s _ (show s.length<=137438953472 by omega),akH,jV];cases hg:(zo s n).2.2
 ·have:(yg s n).2.2=false:=by unfold yg; rw[if_neg (by simp[hg])]
  simp[this]
 ·obtain⟨g0,g1,g2,g3,g4⟩:=NB s n hg;simp only[akO,akI,zh (show (-9223372036854775808:Int)<=(s.length:Int) - (zo s n).2.1 by omega) (show (s.length:Int) - (zo s n).2.1<=9223372036854775807 by omega),
   zh (show (-9223372036854775808:Int)<=(zo s n).2.1+(zo s n).1 by omega) (show (zo s n).2.1+(zo s n).1<=9223372036854775807 by omega)]
  by_cases hc:(zo s n).1≥(s.length:Int) - (zo s n).2.1
  ·simp only[hc,akP,akJ];by_cases ht:(yg s n).2.2=true
   ·obtain⟨t0,t1,t2,t3,t4,t5,t6⟩:=Qx ht;have:¬ (yg s n).2.1<(s.length:Int):=by omega
    simp[this]
   ·have:(yg s n).2.2=false:=by simpa using ht
    simp[this]
  ·have e0:yg s n=((s.drop (zo s n).2.1.toNat).take (zo s n).1.toNat,(zo s n).2.1+(zo s n).1,true):=by
    unfold yg;rw[if_pos ⟨hg,by omega⟩]
   have hlt:(zo s n).2.1+(zo s n).1<(s.length:Int):=by omega
   simp only[hc,akQ,akI,e0,hlt,akP,akZ];rw[if_pos (show 0<=(zo s n).2.1+(zo s n).1/\True from⟨by omega,trivial⟩)];have hrd:rd .u8 s ((zo s n).2.1+(zo s n).1).toNat=s.getD ((zo s n).2.1+(zo s n).1).toNat 0:=rfl;rw[hrd,Uk];by_cases h10:s.getD ((zo s n).2.1+(zo s n).1).toNat 0=10
   ·have e1:(s.getD ((zo s n).2.1+(zo s n).1).toNat 0 != 10)=false:=by rw[h10]; rfl
    have e2:(s.getD ((zo s n).2.1+(zo s n).1).toNat 0==10)=true:=by rw[h10]; rfl
    rw[e1,e2];simp only[akI,akZ];rw[if_pos (show 0<=(zo s n).2.1/\(zo s n).2.1<=(zo s n).2.1+(zo s n).1/\(zo s n).2.1+(zo s n).1<=(s.length:Int) from⟨by omega,by omega,by omega⟩),DI _ _ _ g1 (by omega),aaO c _ (by simp only[al0,al7]; omega),Option.bind_some]
    dsimp only;cases hk:(Yn c (List.take (zo s n).1.toNat (List.drop (zo s n).2.1.toNat s))).2
    ·rfl
    ·simp only[akO,akI,akJ];rw[zh (n:=(zo s n).2.1+(zo s n).1+1) (by omega) (by omega),abX _ ⟨by simp only; omega,by simp only; omega⟩ (by simp only; omega)]
     simp only;rw[vG c s (s.length+1) _ _ (by omega) s.length (by omega)]
   ·have e1:(s.getD ((zo s n).2.1+(zo s n).1).toNat 0 != 10)=true:=bne_iff_ne.2 h10;have e2:(s.getD ((zo s n).2.1+(zo s n).1).toNat 0==10)=false:=beq_eq_false_iff_ne.2 h10;rw[e1,e2];rfl
def jW (a b:zB):Bool:=a.1==b.1 && (a.2.1==b.2.1 && (jd a.2.2.1 b.2.2.1 && a.2.2.2==b.2.2.2))
theorem Dd (a b:zB) (h:zu a<=137438953472):bK (a,b,())=some (jW a b,()):=by
 unfold bK jW;simp only[rT a.2.2.1 b.2.2.1 (by simp only[zu,zi,zn] at h; omega),Option.bind_some]
 cases a.1==b.1<;>cases a.2.1==b.2.1<;>cases jd a.2.2.1 b.2.2.1<;>rfl
theorem Sa (a b:zB) (h:zu a<=137438953472):dE (a,b,())=some (jW a b,()):=by
 unfold dE jW;simp only[dA a.2.2.1 b.2.2.1 (by simp only[zu,zi,zn] at h; omega),Option.bind_some]
 cases a.1==b.1<;>cases a.2.1==b.2.1<;>cases jd a.2.2.1 b.2.2.1<;>rfl
theorem Xp (c:za) (s:List UInt8):zu (Yn c s).1<=s.length:=by
 unfold Yn;cases h:(jr s).1.2
 ·simp[Yg,zu,zi,zn]
 ·have:=Be h;cases ((jr s).1.1==(s.length:Int))<;>cases zX c (jr s).2
  ·simp[Yg,zu,zi,zn]
  ·simp[Yg,zu,zi,zn]
  ·simp[Yg,zu,zi,zn]
  ·simp only[alv,akJ]; omega
theorem vE (c:za) (s:List UInt8):∀ (n at_:Nat) (old:zB),at_<=s.length->zu old<=s.length->zu (jV c s n at_ old).1<=s.length/\0<=(jV c s n at_ old).2/\(jV c s n at_ old).2<=(s.length:Int)
 | 0,at_,old,h1,h2=>⟨h2,by simp only[jV]; omega,by simp only[jV]; omega⟩
 | n+1,at_,old,h1,h2=>by
  simp only[jV];cases hg:((yg s at_).2.2 && (decide ((yg s at_).2.1<(s.length:Int)) && (s.getD (yg s at_).2.1.toNat 0==10 && (Yn c (yg s at_).1).2)))
  ·exact⟨h2,by simp only[akI]; omega,by simp only[akI]; omega⟩
  ·simp only[akK,akV] at hg;obtain⟨k1,k2,k3,k4⟩:=hg;obtain⟨t0,t1,t2,t3,t4,t5,t6⟩:=Qx k1;have:=Xp c (yg s at_).1;exact vE c s n _ _ (by omega) (by omega)
theorem vJ (c:za) (s:List UInt8):zu (JN c s).1<=s.length/\0<=(JN c s).2/\(JN c s).2<=(s.length:Int):=vE c s _ 0 _ (by simp) (by simp[Yg,zu,zi,zn])
theorem lD {r:zb} {N:Nat} (h:ze r<=N):r.2.2.2.2.2.2.1.1.length<=N:=by simp only[ze,J5] at h; omega
theorem lE {r:zb} {N:Nat} (h:ze r<=N):zu r.2.2.2.1<=N:=by simp only[ze] at h; omega
def j7:ye:=([100,100,100,100],[0,0,0,0])
theorem Ud {G:(Int×ye×Unit->Option (ye×Unit))->Int×ye×Unit->Option (ye×Unit)}
  (hG:∀ rec (i:Int) (l:ye),G rec (i,l,())=bif decide (i<4) then (if (l.1.length+[(100:Int)].length)*8<=70368744177664 then rec (wr (i+1),(l.1++[100],l.2),()) else none) else some (l,())):
  iter G fuel (0,([],List.replicate (Int.toNat 4) 0),())=some (j7,()):=by
 refine (walk 4 (λ i (o:List Int)=>(i,(o,List.replicate (Int.toNat 4) 0),())) (λ i o=>o.length=i) (λ i o=>some ((o++List.replicate (4 - i) 100,List.replicate (Int.toNat 4) 0),())) (by decide) ?_ ?_ (s0:=[]) rfl).trans rfl
 ·intro rec o ho; rw[hG]; simp
 ·intro rec i o hi ho;right;refine⟨o++[100],by simp[ho],?_,?_⟩
  ·rw[hG];simp only[show ((i:Int)<4) by omega,akP,akJ,akN,akM,zq (show i<4611686018427387904 by omega)];rw[if_pos (by omega)]
  ·rw[show 4 - i=(4 - (i+1))+1 by omega,amr]; simp
theorem C7:qv ()=some (j7,()):=by
 unfold qv;exact Ud (λ rec i l=>rfl)
theorem aeq:aci ()=some (j7,()):=by
 unfold aci;exact Ud (λ rec i l=>rfl)
def jT (s:List UInt8):zF:=((steps s).1.map λ x=>x.2).flatten
theorem Dz:∀ (ps:List (List UInt8)) (prev:Int) (out:List ZW),(∀ x∈out,x.2.length<=2)->∀ x∈(jz ps prev out).1,x.2.length<=2
 | [],prev,out,h=>h
 | p::ps,prev,out,h=>by
  simp only[jz];cases yH 124 p with
  | none=>simp
  | some q=>
   simp only;split
   ·next hB=>
    refine Dz ps _ _ ?_;intro x hx;rcases List.mem_append.1 hx with hx|hx
    ·exact h x hx
    ·simp only[alU] at hx;subst hx;unfold yR at hB;simp only[akK,akV] at hB;exact hB.2.2.2.2
   ·simp
theorem DB (s:List UInt8):∀ x∈(steps s).1,x.2.length<=2:=by
 unfold steps;split
 ·simp
 ·cases zQ 47 s with
  | nil=>simp
  | cons p ps=>
   simp only;split
   ·exact Dz _ _ _ (by simp)
   ·simp
theorem un:∀ (l:List ZW) (out:zF),l.foldl (λ o x=>o++x.2) out=out++(l.map λ x=>x.2).flatten
 | [],out=>by simp
 | x::l,out=>by rw[alx,un l]; simp
theorem abE (s:List UInt8) {G:(zF×Int×Unit->Option (zF×Unit))->zF×Int×Unit->Option (zF×Unit)}
  (hG:∀ rec (o:zF) (i:Int),G rec (o,i,())=bif decide (i<((steps s).1.length:Int)) then (if 0<=i/\i<((steps s).1.length:Int) then (if (o.length+(rd (.pair .i64 (.sl 0 Zn)) (steps s).1 i.toNat).2.length)*32<=70368744177664 then
   rec (o++(rd (.pair .i64 (.sl 0 Zn)) (steps s).1 i.toNat).2,wr (i+1),()) else none) else none) else some (o,())):
  iter G fuel ([],0,())=some (jT s,()):=by
 have h30:=(qY s).2;have:=NA (λ i (o:zF)=>(o,i,())) (steps s).1 (λ o x=>o++x.2) (λ o=>some (o,())) (by omega) (λ i o=>o.length<=2*i) (G:=G) ?_ ?_ (s0:=[]) (by simp)
 ·rw[this,un]; rfl
 ·intro rec o ho; rw[hG]; simp
 ·intro rec i o x hx hi ho;have h2:=DB s x (List.mem_of_getElem? hx);refine⟨by rw[akR]; omega,?_⟩
  rw[hG];simp only[zw hi,akP,akJ,akY,if_true,akT,zt (e:=.pair .i64 (.sl 0 Zn)) hx,zq (show i<4611686018427387904 by omega)];rw[if_pos (by omega)]
theorem DO (s:List UInt8):(jT s).length<=60:=by
 have h30:=(qY s).2;have h2:=DB s;have key:∀ l:List ZW,(∀ x∈l,x.2.length<=2)->(l.map λ x=>x.2).flatten.length<=2*l.length:=by
  intro l;induction l with
  | nil=>simp
  | cons x l ih=>
   intro h;have a:=h x (by simp);have b:=ih (λ y hy=>h y (by simp[hy]));simp only[al3,am2,akR,akN];omega
 have:=key _ h2;unfold jT;omega
theorem Dh (s:List UInt8) (hs:s.length<=137438953472):qK (s,())=some (jT s,()):=by
 unfold qK;simp only[km s hs,akH];exact abE s (λ rec o i=>rfl)
theorem aez (s:List UInt8) (hs:s.length<=1073741824):acn (s,())=some (jT s,()):=by
 unfold acn;simp only[mP s hs,akH];exact abE s (λ rec o i=>rfl)
def within (lo hi x:Int):Bool:=decide (x≥lo) && decide (x<=hi)
def YP (l:ye):Bool:=decide (l.1.length=4) && (decide (l.2.length=4) && (l.1.all (within 0 400) && l.2.all (within 0 100)))
theorem aaC (l:ye):bB (l,())=some (YP l,()):=by
 unfold bB YP;dsimp only;by_cases h1:l.1.length=4
 ·by_cases h2:l.2.length=4
  ·simp only[h1,h2,akP,akZ,show (((4:Nat):Int) != 4)=false from rfl,akI];refine (walk 4 (λ i (_:Unit)=>(i,())) (λ _ _=>True) (λ i _=>some ((l.1.drop i).all (within 0 400) && (l.2.drop i).all (within 0 100),())) (by decide) ?_ ?_ (s0:=()) trivial).trans (by simp)
   ·intro rec s _;rw[amg (by omega),amg (by omega)]; simp
   ·intro rec i s hi _;have hi1:i<l.1.length:=by omega
    have hi2:i<l.2.length:=by omega
    have hx1:l.1[i]?=some l.1[i]:=List.getElem?_eq_getElem hi1;have hx2:l.2[i]?=some l.2[i]:=List.getElem?_eq_getElem hi2;have c1:(0:Int)<=(i:Int):=by omega
    have c2:(i:Int)<4:=by omega
    have c3:(i:Int)<((4:Nat):Int):=by omega
    simp only[c1,c2,c3,akP,akJ,akY,if_true,akT,zt (e:=.i64) hx1,zt (e:=.i64) hx2,Ys,akH,zq (show i<4611686018427387904 by omega)];rw[al1 hi1,al1 hi2];simp only[alg,within];cases (decide (l.1[i]≥0) && decide (l.1[i]<=400))
    ·left; simp
    ·cases (decide (l.2[i]≥0) && decide (l.2[i]<=100))
     ·left; simp
     ·right; exact⟨(),trivial,by simp,by simp⟩
  ·have:(((l.2.length:Nat):Int) != 4)=true:=bne_iff_ne.2 (by omega);simp[h1,this,h2]
 ·have:(((l.1.length:Nat):Int) != 4)=true:=bne_iff_ne.2 (by omega);simp[this,h1]
theorem acL (l:List Int) (lo hi:Int) (hl:l.length<=137438953472):acb (l,lo,hi,())=some (l.all (within lo hi),()):=by
 unfold acb;refine ta (within lo hi) l (by omega) ?_ ?_
 ·intro rec s; simp
 ·intro rec i s x hx hi';simp only[zw hi',akP,akJ,akY,if_true,akT,zt (e:=.i64) hx,Lk,akH,zq (show i<4611686018427387904 by omega),within];cases (decide (x≥lo) && decide (x<=hi))<;>rfl
theorem aes (l:ye):aca (l,())=some (YP l,()):=by
 unfold aca YP;dsimp only;by_cases h1:l.1.length=4
 ·by_cases h2:l.2.length=4
  ·simp only[h1,h2,akP,akZ,show (((4:Nat):Int)==4)=true from rfl,akJ,acL l.1 0 400 (by omega),acL l.2 0 100 (by omega),akH];cases l.1.all (within 0 400)<;>rfl
  ·have:(((l.2.length:Nat):Int)==4)=false:=beq_eq_false_iff_ne.2 (by omega);simp[h1,this,h2]
 ·have:(((l.1.length:Nat):Int)==4)=false:=beq_eq_false_iff_ne.2 (by omega);simp[this,h1]
theorem TH {l:ye} (h:YP l=true):l.1.length=4/\l.2.length=4:=by
 unfold YP at h;simp only[akK,akV] at h;exact⟨h.1,h.2.1⟩
noncomputable def pay (l:ye) (x:zP):ye×Int:=
 if YP l=true/\zO x=true then
  (if x.2.2.2<rd .i64 l.2 x.1.toNat then (l,2) else if x.2.2.2>rd .i64 l.2 x.1.toNat then (l,3) else
   if x.2.2.1>rd .i64 l.1 x.1.toNat then ((l.1,l.2.set x.1.toNat (wr (x.2.2.2+1))),4) else
   let h:=l.1.set x.1.toNat (wr (rd .i64 l.1 x.1.toNat - x.2.2.1))
   let m:ye:=(h.set x.2.1.toNat (wr (rd .i64 h x.2.1.toNat+x.2.2.1)),l.2.set x.1.toNat (wr (x.2.2.2+1)))
   if YP m=true then (m,0) else (l,1))
 else (l,1)
theorem sq (l:ye) (h1:l.1.length<=137438953472) (h2:l.2.length<=137438953472):MU (l,())=some (l,()):=by
 unfold MU;dsimp only;rw[if_pos (by omega),if_pos (by omega)]; rfl
theorem acW (l:ye) (h1:l.1.length<=137438953472) (h2:l.2.length<=137438953472):ac5 (l,())=some (l,()):=by
 unfold ac5;simp only[mR l.1 h1,mR l.2 h2,akH]
theorem rQ (l:ye) (x:zP) (h1:l.1.length<=137438953472) (h2:l.2.length<=137438953472):MI (l,x,())=some ((pay l x).1,(pay l x).2,()):=by
 unfold MI pay;simp only[sq l h1 h2,aaC,MP,akH];by_cases hl:YP l=true
 ·by_cases hx:zO x=true
  ·obtain⟨⟨b1,b2⟩,⟨b3,b4⟩,_,_⟩:=(Qc x).1 hx;obtain⟨g1,g2⟩:=TH hl;have d1:x.1<(l.1.length:Int):=by omega
   have d2:x.1<(l.2.length:Int):=by omega
   have d3:x.2.1<(l.1.length:Int):=by omega
   rw[if_pos (show YP l=true/\zO x=true from⟨hl,hx⟩)];simp only[hl,hx,akO,akI,b1,b3,d1,d2,d3,akY,if_true,amq];by_cases e1:x.2.2.2<rd .i64 l.2 x.1.toNat
   ·simp only[e1,akP,akJ,if_true]
   ·simp only[e1,akQ,akI,if_false];by_cases e2:x.2.2.2>rd .i64 l.2 x.1.toNat
    ·simp only[e2,akP,akJ,if_true]
    ·simp only[e2,akQ,akI,if_false];by_cases e3:x.2.2.1>rd .i64 l.1 x.1.toNat
     ·simp only[e3,akP,akJ,if_true]
     ·simp only[e3,akQ,akI,if_false];cases hm:YP ((l.1.set x.1.toNat (wr (rd .i64 l.1 x.1.toNat - x.2.2.1))).set x.2.1.toNat (wr (rd .i64 (l.1.set x.1.toNat (wr (rd .i64 l.1 x.1.toNat - x.2.2.1))) x.2.1.toNat+x.2.2.1)),l.2.set x.1.toNat (wr (x.2.2.2+1)))
      ·simp
      ·simp
  ·have hx':zO x=false:=by simpa using hx
   rw[if_neg (show ¬ (YP l=true/\zO x=true) from λ h=>hx h.2)];simp[hl,hx']
 ·have hl':YP l=false:=by simpa using hl
  rw[if_neg (show ¬ (YP l=true/\zO x=true) from λ h=>hl h.1)];simp[hl']
theorem acV (l:ye) (x:zP) (h1:l.1.length<=137438953472) (h2:l.2.length<=137438953472):ac4 (l,x,())=some ((pay l x).1,(pay l x).2,()):=by
 unfold ac4 pay;simp only[acW l h1 h2,aes,QN,akH];by_cases hl:YP l=true
 ·by_cases hx:zO x=true
  ·obtain⟨⟨b1,b2⟩,⟨b3,b4⟩,_,_⟩:=(Qc x).1 hx;obtain⟨g1,g2⟩:=TH hl;have d1:x.1<(l.1.length:Int):=by omega
   have d2:x.1<(l.2.length:Int):=by omega
   have d3:x.2.1<(l.1.length:Int):=by omega
   rw[if_pos (show YP l=true/\zO x=true from⟨hl,hx⟩)];simp only[hl,hx,akO,akI,b1,b3,d1,d2,d3,akY,if_true,amq];by_cases e1:x.2.2.2<rd .i64 l.2 x.1.toNat
   ·simp only[e1,akP,akJ,if_true]
   ·simp only[e1,akQ,akI,if_false];by_cases e2:x.2.2.2>rd .i64 l.2 x.1.toNat
    ·simp only[e2,akP,akJ,if_true]
    ·have e0 : @Eq Int (rd .i64 l.2 x.1.toNat) x.2.2.2:=by omega
     simp only[e0,gt_iff_lt,ala,akQ,akI,if_false];by_cases e3:rd .i64 l.1 x.1.toNat<x.2.2.1
     ·simp only[e3,akP,akJ,if_true]
     ·simp only[e3,akQ,akI,if_false];cases hm:YP ((l.1.set x.1.toNat (wr (rd .i64 l.1 x.1.toNat - x.2.2.1))).set x.2.1.toNat (wr (rd .i64 (l.1.set x.1.toNat (wr (rd .i64 l.1 x.1.toNat - x.2.2.1))) x.2.1.toNat+x.2.2.1)),l.2.set x.1.toNat (wr (x.2.2.2+1)))
      ·simp
      ·simp
  ·have hx':zO x=false:=by simpa using hx
   rw[if_neg (show ¬ (YP l=true/\zO x=true) from λ h=>hx h.2)];simp[hl,hx']
 ·have hl':YP l=false:=by simpa using hl
  rw[if_neg (show ¬ (YP l=true/\zO x=true) from λ h=>hl h.1)];simp[hl']
theorem nY (l:ye) (x:zP):(pay l x).1.1.length=l.1.length/\(pay l x).1.2.length=l.2.length:=by
 unfold pay;dsimp only;repeat' split
 all_goals simp
noncomputable def JQ (s:List Int×ye) (x:zP):List Int×ye:=(s.1++[(pay s.2 x).2],(pay s.2 x).1)
noncomputable def Zw (l:ye) (xs:zF):List Int×ye:=xs.foldl JQ ([],l)
theorem Ut {f:ye×zP×Unit->Option (ye×Int×Unit)} (l:ye) (xs:zF) (h1:l.1.length<=137438953472) (h2:l.2.length<=137438953472) (hxs:xs.length<=137438953472)
  (hf:∀ l x,l.1.length<=137438953472->l.2.length<=137438953472->f (l,x,())=some ((pay l x).1,(pay l x).2,()))
  {G:(List Int×Int×ye×Unit->Option (ye×List Int×Unit))->List Int×Int×ye×Unit->Option (ye×List Int×Unit)}
  (hG:∀ rec (o:List Int) (i:Int) (m:ye),G rec (o,i,m,())=bif decide (i<(xs.length:Int)) then (if 0<=i/\i<(xs.length:Int) then (f (m,rd Zn xs i.toNat,())).bind λ r2=>
   (if (o.length+[r2.2.1].length)*8<=70368744177664 then rec (o++[r2.2.1],wr (i+1),r2.1,()) else none) else none) else some (m,o,())):
  iter G fuel ([],0,l,())=some ((Zw l xs).2,(Zw l xs).1,()):=by
 refine NA (λ i (s:List Int×ye)=>(s.1,i,s.2,())) xs JQ (λ s=>some (s.2,s.1,())) (by omega) (λ i s=>s.1.length=i/\s.2.1.length<=137438953472/\s.2.2.length<=137438953472) (G:=G) ?_ ?_ (s0:=([],l)) ⟨rfl,h1,h2⟩
 ·intro rec s hs; rw[hG]; simp
 ·intro rec i s x hx hi hs;obtain⟨k1,k2,k3⟩:=hs;obtain⟨p1,p2⟩:=nY s.2 x;refine⟨⟨by simp[JQ,k1],by simp only[JQ]; omega,by simp only[JQ]; omega⟩,?_⟩
  rw[hG];simp only[zw hi,akP,akJ,akY,if_true,akT,zt (e:=Zn) hx,hf s.2 x k2 k3,akH,zq (show i<4611686018427387904 by omega),akN,akM];rw[if_pos (by omega)];rfl
theorem Db (l:ye) (xs:zF) (h1:l.1.length<=137438953472) (h2:l.2.length<=137438953472) (hxs:xs.length<=137438953472):qz (l,xs,())=some ((Zw l xs).2,(Zw l xs).1,()):=by
 unfold qz;rw[sq l h1 h2,akH];exact Ut (f:=MI) l xs h1 h2 hxs rQ (λ rec o i m=>by dsimp only)
theorem aet (l:ye) (xs:zF) (h1:l.1.length<=137438953472) (h2:l.2.length<=137438953472) (hxs:xs.length<=137438953472):acj (l,xs,())=some ((Zw l xs).2,(Zw l xs).1,()):=by
 unfold acj;rw[acW l h1 h2,akH];exact Ut (f:=ac4) l xs h1 h2 hxs acV (λ rec o i m=>by dsimp only)
theorem nX:∀ (xs:zF) (s:List Int×ye),(xs.foldl JQ s).2.1.length=s.2.1.length/\(xs.foldl JQ s).2.2.length=s.2.2.length/\(xs.foldl JQ s).1.length=s.1.length+xs.length
 | [],s=>by simp
 | x::xs,s=>by
  obtain⟨a,b,c⟩:=nX xs (JQ s x);obtain⟨p1,p2⟩:=nY s.2 x;rw[alx];refine⟨a.trans p1,b.trans p2,c.trans ?_⟩;simp only[JQ,akR,akN,akM]; omega
noncomputable def state (c:za) (r:zb):ye:=bif zf c r then (Zw j7 (jT r.2.2.2.1.2.2.2)).2 else ([],[])
theorem aaT (c:za) (r:zb) (hw:ze r<=137438953472):bO (c,r,())=some (state c r,()):=by
 have hs:=lE hw;have hl:=DO r.2.2.2.1.2.2.2;unfold bO state;simp only[Yc c r hw,C7,Dh r.2.2.2.1.2.2.2 (by simp only[zu] at hs; omega),Db j7 _ (by decide) (by decide) (show (jT r.2.2.2.1.2.2.2).length<=137438953472 by omega),Option.bind_some]
 cases zf c r<;>rfl
theorem aex (c:za) (r:zb) (hw:ze r<=1073741824):abW (c,r,())=some (state c r,()):=by
 have hs:=lE hw;have hl:=DO r.2.2.2.1.2.2.2;unfold abW state;simp only[QH c r hw,aeq,aez r.2.2.2.1.2.2.2 (by simp only[zu] at hs; omega),aet j7 _ (by decide) (by decide) (show (jT r.2.2.2.1.2.2.2).length<=137438953472 by omega),Option.bind_some]
 cases zf c r<;>rfl
theorem abd (c:za) (r:zb):lA (state c r)<=8:=by
 unfold state;cases zf c r
 ·simp[lA,zn]
 ·obtain⟨a,b,_⟩:=nX (jT r.2.2.2.1.2.2.2) ([],j7);simp only[akJ,lA,zn,Zw,a,b];decide
noncomputable def jX (c:za) (r:zb):zb×j0:=bif zf c r then ((r.1,r.2.1,r.2.2.1,r.2.2.2.1,r.2.2.2.2.1,r.2.2.2.2.2.1,qZ r.2.2.2.2.2.2.1,[]),r.2.2.2.2.2.2.2) else (r,[])
theorem aaU (c:za) (r:zb) (hw:ze r<=137438953472):bP (c,r,())=some ((jX c r).1,(jX c r).2,()):=by
 have h1:=lD hw;have h2:yo r.2.2.2.2.2.2.2<=137438953472:=by simp only[ze] at hw; omega
 unfold bP jX;simp only[ZC r hw,Yc c r hw,aaV r.2.2.2.2.2.2.1 (by omega),Dq _ h2,akH];cases zf c r<;>rfl
theorem abj (d:yF):(qZ d).1.length=d.1.length:=by
 unfold qZ; split<;>rfl
theorem abh (c:za) (r:zb):ze (jX c r).1<=ze r/\yo (jX c r).2<=ze r:=by
 unfold jX;cases zf c r
 ·simp only[akI]; exact⟨Nat.le_refl _,by simp[yo]⟩
 ·have:=abj r.2.2.2.2.2.2.1;simp only[akJ,ze,J5,this];refine⟨?_,by omega⟩;have:yo []=0:=rfl;omega
abbrev JA:Ty:=.pair .i64 (.pair .i64 (.pair .i64 (.pair (.pair .i64 (.pair .i64 (.pair (.pair .i64 (.pair .str (.sl 0 .i64))) .str))) (.pair (.sl 0 (.pair .i64 (.pair .i64 (.pair .i64 .i64)))) (.pair (.sl 0 (.pair .i64 (.pair .str (.sl 0 .i64)))) (.pair (.pair (.sl 0 .u8) .i64) (.sl 0 (.pair .i64 (.pair .i64 (.pair .i64 (.pair (.pair .str (.pair .i64 (.pair .str (.sl 0 .i64)))) (.pair (.pair .i64 (.pair .str (.sl 0 .i64))) (.pair (.pair .i64 (.pair .str (.sl 0 .i64))) (.pair .i64 (.pair .i64 (.pair .i64 (.pair .i64 .i64)))))))))))))))))
abbrev sQ:Ty:=.pair .i64 (.sl 0 .u8)
abbrev M9:Ty:=.pair .i64 (.pair .str .i64)
def j5 {α:Type} (p:Nat->α->Bool):Nat->List α->Bool
 | _,[]=>true
 | i,x::l=>p i x && j5 p (i+1) l
theorem mJ {α:Type} (p:Nat->α->Bool) (l:List α) (K:Option (Bool×Unit)) {G:(Int×Unit->Option (Bool×Unit))->Int×Unit->Option (Bool×Unit)} (hl:l.length<=1152921504606846976)
  (ace:∀ rec,G rec ((l.length:Int),())=K)
  (ac9:∀ rec (i:Nat) x,l[i]?=some x->i<l.length->G rec ((i:Int),())=bif p i x then rec ((i:Int)+1,()) else some (false,())):
  iter G fuel (0,())=bif j5 p 0 l then K else some (false,()):=by
 refine (walk l.length (λ i (_:Unit)=>(i,())) (λ _ _=>True) (λ i _=>bif j5 p i (l.drop i) then K else some (false,())) hl ?_ ?_ (s0:=()) trivial).trans (by simp only[al8])
 ·intro rec s _; rw[ace,alh]; rfl
 ·intro rec i s hi _;rw[ac9 rec i l[i] (List.getElem?_eq_getElem hi) hi,List.drop_eq_getElem_cons hi];simp only[j5];cases p i l[i]
  ·left; rfl
  ·right; exact⟨(),trivial,rfl,rfl⟩
theorem SG {S R:Type} (G:(S->Option R)->S->Option R) (x:S):∃ n,iter G fuel x=G (iter G n) x:=by
 obtain⟨n,hn⟩:∃ n,fuel=n+1:=⟨18446744073709551615,by rw[ja]⟩
 rw[hn];exact⟨n,rfl⟩
def JH (c:za):Int:=if zz c=true then (c.1 - 1) / 3 else 0
theorem aau (c:za):gO (c,())=some (JH c,()):=by
 unfold gO JH;simp only[Yq,akH];by_cases h:zz c=true
 ·obtain⟨h1,h2⟩:=yb h;have e1:wr (c.1 - 1)=c.1 - 1:=zh (by omega) (by omega);have e2:Int.tdiv (c.1 - 1) 3=(c.1 - 1) / 3:=Int.tdiv_eq_ediv_of_nonneg (by omega);simp only[h,akO,akI,if_true,e1,e2];rw[zh (n:=(c.1 - 1) / 3) (by omega) (by omega)]
 ·have h':zz c=false:=by simpa using h
  simp[h']
noncomputable def aZ (c:za) (i:Nat) (r:zb):Bool:=zf c r && r.1==(i:Int)
noncomputable def cu (c:za) (_:Nat) (x:cH):Bool:=(JP c x.2).2 && (decide (x.1≥0) && decide (x.1<=c.1 - 1))
def ql (c:za) (_:Nat) (s:JF):Bool:=(decide (s.2.2≥0) && decide (s.2.2<=c.1 - 1)) && (zC s.2.1 && zg s.2.1==s.1)
noncomputable def Qk (w:zA):Bool:=
 zz w.1 && (jQ w.1.1 w.2.1 && (decide ((w.2.1.length:Int)<=JH w.1) && (((w.2.2.1.length:Int)==w.1.1) && (decide ((w.2.2.2.1.length:Int)<=60) && (decide ((w.2.2.2.2.length:Int)<=300) &&
  (j5 (aZ w.1) 0 w.2.2.1 && (j5 (cu w.1) 0 w.2.2.2.1 && j5 (ql w.1) 0 w.2.2.2.2)))))))
def WB (N:Nat) (w:zA):Prop:=
 (w.2.1.length<=137438953472/\w.2.2.1.length<=137438953472/\w.2.2.2.1.length<=137438953472/\w.2.2.2.2.length<=137438953472)/\(∀ r∈w.2.2.1,ze r<=N)/\(∀ x∈w.2.2.2.1,x.2.length<=1073741824)/\(∀ s∈w.2.2.2.2,s.2.1.length<=N)
theorem WB.of {w:zA} {N:Nat} (h:Yf w<=N) (hN:N<=1073741824):WB N w:=by
 simp only[Yf,zn,M7,Qi,LN] at h;refine⟨⟨by omega,by omega,by omega,by omega⟩,λ r hr => ?_,λ x hx => ?_,λ s hs => ?_⟩
 ·have:=ZS ze hr; omega
 ·have:=ZS M8 hx; simp only[M8,sJ] at this; omega
 ·have:=ZS Qh hs; simp only[Qh] at this; omega
theorem ag (a b:Int):(a != b) = !(a==b):=rfl
theorem ab3 (w:zA) (hb:WB 137438953472 w):qN (w,())=some (Qk w,()):=by
 obtain⟨⟨l1,l2,l3,l4⟩,br,bx,bs⟩:=hb;unfold qN Qk;simp only[Yq,akH];cases hc:zz w.1
 ·rfl
 obtain⟨hc1,hc2⟩:=yb hc;have e1:wr (w.1.1 - 1)=w.1.1 - 1:=zh (by omega) (by omega);simp only[akO,akI,akZ,e1,rV _ _ l1,aau,Ys,akH,Qy ((w.2.1.length:Nat):Int) _,Qy ((w.2.2.2.1.length:Nat):Int) 60,Qy ((w.2.2.2.2.length:Nat):Int) 300,ag ((w.2.2.1.length:Nat):Int) w.1.1];cases jQ w.1.1 w.2.1
 ·rfl
 cases decide ((w.2.1.length:Int)<=JH w.1)
 ·rfl
 cases ((w.2.2.1.length:Int)==w.1.1)
 ·rfl
 cases decide ((w.2.2.2.1.length:Int)<=60)
 ·rfl
 cases decide ((w.2.2.2.2.length:Int)<=300)
 ·rfl
 simp only[akO,akI,akZ];refine (mJ (aZ w.1) w.2.2.1 (bif j5 (cu w.1) 0 w.2.2.2.1 then (bif j5 (ql w.1) 0 w.2.2.2.2 then some (true,()) else some (false,())) else some (false,())) (by omega) ?_ ?_).trans ?_
 ·intro rec;simp only[ala,akQ,akI];refine mJ (cu w.1) w.2.2.2.1 (bif j5 (ql w.1) 0 w.2.2.2.2 then some (true,()) else some (false,())) (by omega) ?_ ?_
  ·intro rec;simp only[ala,akQ,akI];refine mJ (ql w.1) w.2.2.2.2 (some (true,())) (by omega) ?_ ?_
   ·intro rec; simp only[ala,akQ,akI]
   ·intro rec i s hx hi;have hs:=bs s (List.mem_of_getElem? hx);simp only[zw hi,akP,akJ,akY,if_true,akT,zt (e:=M9) hx,KJ s.2.1 hs,Y5 s.2.1 hs,akH,zq (show i<4611686018427387904 by omega),ql,ag];cases (decide (s.2.2≥0) && decide (s.2.2<=w.1.1 - 1))<;>cases zC s.2.1<;>cases (zg s.2.1==s.1)<;>rfl
  ·intro rec i x hx hi;have hs:=bx x (List.mem_of_getElem? hx);simp only[zw hi,akP,akJ,akY,if_true,akT,zt (e:=sQ) hx,C9 w.1 x.2 hs,akH,zq (show i<4611686018427387904 by omega),cu];cases (JP w.1 x.2).2<;>cases (decide (x.1≥0) && decide (x.1<=w.1.1 - 1))<;>rfl
 ·intro rec i r hx hi;have hs:=br r (List.mem_of_getElem? hx);simp only[zw hi,akP,akJ,akY,if_true,akT,zt (e:=JA) hx,Yc w.1 r hs,akH,zq (show i<4611686018427387904 by omega),aZ,ag];cases zf w.1 r<;>cases (r.1==(i:Int))<;>rfl
 ·cases j5 (aZ w.1) 0 w.2.2.1<;>cases j5 (cu w.1) 0 w.2.2.2.1<;>cases j5 (ql w.1) 0 w.2.2.2.2<;>rfl
theorem WB.mono {w:zA} {N M:Nat} (h:WB N w) (hm:N<=M):WB M w:=⟨h.1,λ r hr=>Nat.le_trans (h.2.1 r hr) hm,h.2.2.1,λ s hs=>Nat.le_trans (h.2.2.2 s hs) hm⟩
noncomputable def Kr (c:za):Yz:=if zz c=true then (List.range c.1.toNat).map (λ (i:Nat)=>(JZ c (i:Int)).1) else []
noncomputable def y7 (c:za) (liars:y9):zA:=(c,liars,Kr c,[],[])
def abU:zA:=((0,0),[],[],[],[])
noncomputable def KT (c:za) (liars:y9):zA×Bool:=bif Qk (y7 c liars) then (y7 c liars,true) else (abU,false)
theorem T8 (c:za):(Kr c).length<=7:=by
 unfold Kr;split
 ·next h=>have:=yb h; simp; omega
 ·simp
theorem T9 (c:za):∀ r∈Kr c,ze r=0:=by
 unfold Kr;split
 ·intro r hr;obtain⟨i,_,rfl⟩:=List.mem_map.1 hr;exact UL c i
 ·simp
theorem Ua (c:za) (liars:y9) (h:liars.length<=137438953472):WB 1073741824 (y7 c liars):=by
 have h1:=T8 c;refine⟨⟨h,by simp only[y7]; omega,by simp[y7],by simp[y7]⟩,λ r hr => ?_,λ x hx => ?_,λ s hs => ?_⟩
 ·have:=T9 c r hr; omega
 ·simp[y7] at hx
 ·simp[y7] at hs
theorem Ue {c:za} (h:zz c=true) {n:Nat} (hn:c.1=(n:Int)) (liars:y9):y7 c liars=(c,liars,(List.range' 0 n).map (λ (i:Nat)=>(JZ c (i:Int)).1),[],[]):=by
 unfold y7 Kr;rw[if_pos h,hn,akT,List.range_eq_range']
theorem Dk (c:za) (liars:y9) (hl:liars.length<=137438953472):bU (c,liars,())=some ((KT c liars).1,(KT c liars).2,()):=by
 have hok:∀ w:zA,w=y7 c liars->((qN (w,())).bind λ r4=>(bif (!r4.1) then some (((0,0),([],([],([],[])))),(false,())) else some (w,(true,()))))=some ((KT c liars).1,(KT c liars).2,()):=by
  rintro w rfl;rw[ab3 _ ((Ua c liars hl).mono (by decide)),akH];unfold KT;cases Qk (y7 c liars)<;>rfl
 unfold bU;dsimp only;rw[if_pos (by omega)];simp only[Yq,akH,al9];by_cases hc:zz c=true
 ·obtain⟨h1,h2⟩:=yb hc;obtain⟨n,hn⟩:∃ n:Nat,c.1=(n:Int):=⟨c.1.toNat,by omega⟩
  simp only[hc,akJ,hn];refine (walk n (λ i (o:Yz)=>(i,(c,liars,o,[],[]),())) (λ i o=>o=(List.range' 0 i).map (λ (i:Nat)=>(JZ c (i:Int)).1)) (λ i o=>some ((KT c liars).1,(KT c liars).2,())) (by omega) ?_ ?_ (s0:=[]) rfl)
  ·rintro rec o rfl;simp only[ala,akQ,akI];exact hok _ (Ue hc hn liars).symm
  ·rintro rec i o hi rfl;right;refine⟨_,rfl,?_,rfl⟩;simp only[show ((i:Int)<(n:Int)) by omega,akP,akJ,aaL,akH,zq (show i<4611686018427387904 by omega),akN,akM,alA,List.length_range'];rw[if_pos (by omega)];congr 3;rw[List.range'_concat]; simp
 ·have hc':zz c=false:=by simpa using hc
  have e:y7 c liars=(c,liars,[],[],[]):=by unfold y7 Kr; rw[if_neg hc]
  refine (SG _ _).elim λ m hm=>hm.trans ?_;simp only[hc',akI];rw[hok _ e.symm];cases decide ((0:Int)<c.1)<;>rfl
noncomputable def be (s:zB):Int:=min (max (max s.1 (wr (s.2.2.1.1+1))) 1) 60
noncomputable def rise (c:za) (r:zb):zb:=
 bif zf c r then
  let n:=JN c r.2.2.2.2.2.2.1.1
  (r.1,be n.1,0,n.1,[],[],(r.2.2.2.2.2.2.1.1.take n.2.toNat,n.2),[])
 else r
theorem S6 (a b:Int):yf (a,b,())=some (min a b,()):=by
 rw[ng]; congr 2; split<;>omega
theorem aaM (c:za) (r:zb) (hw:ze r<=1073741824):bI (c,r,())=some (rise c r,()):=by
 have h1:=lD hw;obtain⟨b1,b2,b3⟩:=vJ c r.2.2.2.2.2.2.1.1;unfold bI rise;simp only[Yc c r (by omega),ZC r (by omega),aaz c _ h1,MY,S6,akH];cases zf c r
 ·rfl
 ·simp only[akO,akI,akJ];rw[if_pos (by omega),if_pos (by simp only[al0,al7]; omega)]
  simp only[alG,al8,alY,al9,be];congr 4;omega
theorem acz {α:Type} {ok:α->Bool} {lt:α->α->Bool} (htr:∀ a b c,lt a b=true->lt b c=true->lt a c=true):
  ∀ (l:List α) (p:α),yG ok lt (some p) l=true->∀ y∈l,lt p y=true
 | [],p,_,y,hy=>by cases hy
 | x::l,p,h,y,hy=>by
  simp only[yG,akK] at h;rcases List.mem_cons.1 hy with rfl|hy
  ·exact h.2.1
  ·exact htr _ _ _ h.2.1 (acz htr l x h.2.2 y hy)
theorem acN {α:Type} {ok:α->Bool} {lt:α->α->Bool} (htr:∀ a b c,lt a b=true->lt b c=true->lt a c=true):
  ∀ (l1:List α) (x:α) (l2:List α) (p:Option α),yG ok lt p (l1++x::l2)=true->(∀ y∈l1,lt y x=true)/\(∀ y∈l2,lt x y=true)
 | [],x,l2,p,h=>by
  simp only[al9,yG,akK] at h;exact⟨by simp,acz htr l2 x h.2.2⟩
 | a::l1,x,l2,p,h=>by
  simp only[alP,yG,akK] at h;obtain⟨g1,g2⟩:=acN htr l1 x l2 (some a) h.2.2;refine⟨?_,g2⟩;intro y hy;rcases List.mem_cons.1 hy with rfl|hy
  ·exact acz htr _ _ h.2.2 x (by simp)
  ·exact g1 y hy
def ji {α:Type} (q:α->Bool):Nat->List α->Nat
 | i,[]=>i
 | i,x::l=>bif q x then i else ji q (i+1) l
theorem acd {α:Type} {q:α->Bool}:∀ (l1 l2:List α) (i:Nat),(∀ y∈l1,q y=false)->(∀ y∈l2,q y=true)->ji q i (l1++l2)=i+l1.length
 | [],[],i,_,_=>rfl
 | [],x::l2,i,_,h2=>by simp[ji,h2 x (by simp)]
 | x::l1,l2,i,h1,h2=>by
  simp only[List.cons_append,ji,h1 x (by simp),cond_false,acd l1 l2 (i+1) (λ y hy=>h1 y (by simp[hy])) h2,List.length_cons];omega
theorem cZ {α:Type} (q:α->Bool):∀ (l:List α) (i:Nat),i<=ji q i l/\ji q i l<=i+l.length
 | [],i=>by simp[ji]
 | x::l,i=>by
  have:=cZ q l (i+1);simp only[ji,akN];cases q x<;>simp only[akJ,akI]<;>omega
theorem aeM {α:Type} {ok:α->Bool} {lt:α->α->Bool} (htr:∀ a b c,lt a b=true->lt b c=true->lt a c=true) (has:∀ a b,lt a b=true->lt b a=false)
  (l:List α) (x:α) (k:Nat) (hk:k<=l.length) (h:yG ok lt none (l.take k++x::l.drop k)=true):
  ji (λ y => !lt y x) 0 l=k/\ji (λ y=>lt x y) 0 l=k:=by
 obtain⟨g1,g2⟩:=acN htr _ _ _ _ h;have e:l=l.take k++l.drop k:=(List.take_append_drop k l).symm;have hl:(l.take k).length=k:=by rw[al0]; omega
 constructor
 ·have:=acd (q:=λ y => !lt y x) (l.take k) (l.drop k) 0 (λ y hy=>by simp[g1 y hy]) (λ y hy=>by simp[has _ _ (g2 y hy)]);rw[←e,hl] at this;omega
 ·have:=acd (q:=λ y=>lt x y) (l.take k) (l.drop k) 0 (λ y hy=>has _ _ (g1 y hy)) (λ y hy=>g2 y hy);rw[←e,hl] at this;omega
theorem aec (a b c:zP) (h1:jC a b=true) (h2:jC b c=true):jC a c=true:=by
 unfold jC at *;simp only[alt,akK,akV,alk] at *;omega
theorem aea (a b:zP) (h:jC a b=true):jC b a=false:=by
 cases hb:jC b a
 ·rfl
 ·unfold jC at *;simp only[alt,akK,akV,alk] at *;omega
def Kv (p:zF) (x:zP) (k:Nat):zF×Bool:=bif jE (p.take k++x::p.drop k) then (p.take k++x::p.drop k,true) else (p,false)
def Yi (p:zF) (x:zP):zF×Bool:=Kv p x (ji (λ y => !jC y x) 0 p)
theorem aeK (p:zF) (x:zP):Kv p x (ji (λ y=>jC x y) 0 p)=Yi p x:=by
 have h1:=(cZ (λ y => !jC y x) p 0).2;have h2:=(cZ (λ y=>jC x y) p 0).2;unfold Yi;have key:∀ k,k<=p.length->jE (p.take k++x::p.drop k)=true->ji (λ y => !jC y x) 0 p=k/\ji (λ y=>jC x y) 0 p=k:=by
  intro k hk h;unfold jE at h;rw[akK] at h;exact aeM aec aea p x k hk h.1
 generalize ha:ji (λ y=>jC x y) 0 p=a at *;generalize hb:ji (λ y => !jC y x) 0 p=b at *;cases h:jE (p.take a++x::p.drop a)
 ·cases h':jE (p.take b++x::p.drop b)
  ·simp[Kv,h,h']
  ·have:=key b (by omega) h';rw[←this.2]
 ·have:=key a (by omega) h;rw[←this.1]
theorem rR (p:zF) (x:zP) (hp:p.length<=137438953471):qA (p,x,())=some ((Yi p x).1,(Yi p x).2,()):=by
 unfold qA Yi;dsimp only;have acC:∀ k:Nat,k<=p.length->(if (((0:Int)<=0)/\((0<=(k:Int))/\((k:Int)<=(p.length:Int)))) then (if (((0+(List.length (List.take ((Int.toNat (k:Int)) - (Int.toNat 0)) (List.drop (Int.toNat 0) p))))*32)<=70368744177664) then
   (if ((((List.length ([]++(List.take ((Int.toNat (k:Int)) - (Int.toNat 0)) (List.drop (Int.toNat 0) p))))+(List.length (x::[])))*32)<=70368744177664) then (if ((0<=(k:Int))/\(((k:Int)<=(p.length:Int))/\((p.length:Int)<=(p.length:Int)))) then
   (if ((((List.length (([]++(List.take ((Int.toNat (k:Int)) - (Int.toNat 0)) (List.drop (Int.toNat 0) p)))++(x::[])))+(List.length (List.take ((Int.toNat (p.length:Int)) - (Int.toNat (k:Int))) (List.drop (Int.toNat (k:Int)) p))))*32)<=70368744177664) then
   ((MJ (((([]++(List.take ((Int.toNat (k:Int)) - (Int.toNat 0)) (List.drop (Int.toNat 0) p)))++(x::[]))++(List.take ((Int.toNat (p.length:Int)) - (Int.toNat (k:Int))) (List.drop (Int.toNat (k:Int)) p))),())).bind λ r2=>(bif (!r2.1) then (if (((0+(List.length p))*32)<=70368744177664) then some (([]++p),(false,())) else none) else
   some (((([]++(List.take ((Int.toNat (k:Int)) - (Int.toNat 0)) (List.drop (Int.toNat 0) p)))++(x::[]))++(List.take ((Int.toNat (p.length:Int)) - (Int.toNat (k:Int))) (List.drop (Int.toNat (k:Int)) p))),(true,())))) else none) else none) else none) else none) else none)=some ((Kv p x k).1,(Kv p x k).2,()):=by
  intro k hk;simp only[akT,alG,alY,al8,al9];have e:List.take (p.length - k) (p.drop k)=p.drop k:=List.take_of_length_le (by simp);rw[e];simp only[al0,akR,akN,akM,al7];rw[if_pos (by omega),if_pos (by omega),if_pos (by omega),if_pos (by omega),if_pos (by omega),if_pos (by omega)];rw[Dc _ (by simp only[akR,al0,akN,akM,al7]; omega),Option.bind_some]
  unfold Kv;rw[show p.take k++[x]++p.drop k=p.take k++x::p.drop k by simp];cases jE (p.take k++x::p.drop k)<;>rfl
 refine (walk p.length (λ i (_:Unit)=>(i,())) (λ _ _=>True) (λ i _=>some ((Kv p x (ji (λ y => !jC y x) i (p.drop i))).1,(Kv p x (ji (λ y => !jC y x) i (p.drop i))).2,())) (by omega) ?_ ?_ (s0:=()) trivial).trans (by simp only[al8])
 ·intro rec s _;rw[alh];simp only[ala,akQ,akI,ji];exact acC p.length (Nat.le_refl _)
 ·intro rec i s hi _;have hx:p[i]?=some p[i]:=List.getElem?_eq_getElem hi;rw[al1 hi];simp only[(zw hi).2,akP,akJ];rw[if_pos (show (0:Int)<=(i:Int)/\True from⟨by omega,trivial⟩)];simp only[akT,zt (e:=Zn) hx,Dt,akH,zq (show i<4611686018427387904 by omega),ji];cases hb:jC p[i] x
  ·left;have:=acC i (by omega);simp only[akT] at this;simp only[akI,al2,akJ];exact this
  ·right;exact⟨(),trivial,by simp only[akJ],by simp only[akO,akI]⟩
theorem aep (p:zF) (x:zP) (hp:p.length<=137438953471):acp (p,x,())=some ((if ji (λ y=>jC x y) 0 p<p.length then ((ji (λ y=>jC x y) 0 p:Nat):Int) else -1),()):=by
 unfold acp;refine (walk p.length (λ i (_:Unit)=>(i,())) (λ _ _=>True) (λ i _=>some ((if ji (λ y=>jC x y) i (p.drop i)<p.length then ((ji (λ y=>jC x y) i (p.drop i):Nat):Int) else -1),())) (by omega) ?_ ?_ (s0:=()) trivial).trans (by simp only[al8])
 ·intro rec s _;rw[alh];simp only[ala,akQ,akI,ji,Nat.lt_irrefl,if_false]
 ·intro rec i s hi _;have hx:p[i]?=some p[i]:=List.getElem?_eq_getElem hi;rw[al1 hi];unfold acB;simp only[zw hi,akP,akJ,akY,if_true,akT,zt (e:=Zn) hx,Sn,akH,zq (show i<4611686018427387904 by omega),ji];by_cases hb:jC x p[i]=true
  ·left;simp only[hb,akJ,hi,if_true]
  ·right;have hb':jC x p[i]=false:=by simpa using hb
   exact⟨(),trivial,by simp only[hb',akI],by simp only[hb',akI]⟩
theorem aeC (p:zF) (x:zP) (k:Nat) (hk:k<=p.length) (hp:p.length<=137438953471):XU (p,(k:Int),[x],())=some (p.take k++x::p.drop k,()):=by
 unfold XU QT;dsimp only;simp only[akN,akM];rw[if_pos (by omega),akT];simp
theorem aeu (p:zF) (x:zP) (hp:p.length<=137438953471):acl (p,x,())=some ((Yi p x).1,(Yi p x).2,()):=by
 rw[←aeK];have hle:=(cZ (λ y=>jC x y) p 0).2;unfold acl;rw[aep p x hp,akH];generalize ji (λ y=>jC x y) 0 p=k at *;have acC:∀ k:Nat,k<=p.length->((dV (p,())).bind λ r5=>((XU (r5.1,((k:Int),((x::[]),())))).bind λ r6=>((dw (r6.1,())).bind λ r7=>(bif (!r7.1) then ((dV (p,())).bind λ r8=>some (r8.1,(false,()))) else some (r6.1,(true,()))))))=some ((Kv p x k).1,(Kv p x k).2,()):=by
  intro k hk;rw[Sq p (by simp only[Jy]; omega),Option.bind_some,aeC p x k hk hp,Option.bind_some,R5 _ (by simp only[akR,al0,akN,al7]; omega),Option.bind_some]
  unfold Kv;cases jE (p.take k++x::p.drop k)<;>rfl
 by_cases hlt:k<p.length
 ·rw[if_pos hlt];have:decide (((k:Nat):Int)<0)=false:=by simp
  dsimp only;rw[this,akI];exact acC k (by omega)
 ·rw[if_neg hlt];have e:k=p.length:=by omega
  subst e;have:decide ((-1:Int)<0)=true:=rfl;dsimp only;rw[this,akJ];exact acC p.length (Nat.le_refl _)
noncomputable def NG (c:za) (r:zb) (x:zP):zb×Bool:=
 bif zf c r then ((r.1,r.2.1,r.2.2.1,r.2.2.2.1,(Yi r.2.2.2.2.1 x).1,r.2.2.2.2.2),(Yi r.2.2.2.2.1 x).2) else (r,false)
theorem Ux {p:zF} {x:zP} (h:(Yi p x).2=false):(Yi p x).1=p:=by
 unfold Yi Kv at *;generalize ji (λ y => !jC y x) 0 p=k at *;cases hk:jE (p.take k++x::p.drop k)
 ·rfl
 ·rw[hk] at h; cases h
theorem A4 (p:zF) (x:zP):(Yi p x).1.length<=p.length+1:=by
 have h1:=(cZ (λ y => !jC y x) p 0).2;unfold Yi Kv;generalize ji (λ y => !jC y x) 0 p=k at *;cases hk:jE (p.take k++x::p.drop k)
 ·simp
 ·simp only[akJ,akR,al0,akN,al7]; omega
theorem D3 {r:zb} {N:Nat} (h:ze r<=N):r.2.2.2.2.1.length<=N:=by simp only[ze,Jy] at h; omega
theorem aax (c:za) (r:zb) (x:zP) (hw:ze r<=137438953471):gR (c,r,x,())=some ((NG c r x).1,(NG c r x).2,()):=by
 have h1:=D3 hw;unfold gR NG;simp only[ZC r (by omega),Yc c r (by omega),rR r.2.2.2.2.1 x h1,akH];cases zf c r
 ·rfl
 ·cases hp:(Yi r.2.2.2.2.1 x).2
  ·rw[Ux hp]; rfl
  ·rfl
theorem acS (c:za) (r:zb) (x:zP) (hw:ze r<=1073741824):ach (c,r,x,())=some ((NG c r x).1,(NG c r x).2,()):=by
 have h1:=D3 hw;unfold ach NG;simp only[dS r (by omega),QH c r hw,aeu r.2.2.2.2.1 x (by omega),akH];cases zf c r<;>rfl
def yz (l:zV) (v:Int) (name:List UInt8):zG:=match l.find? (λ p=>p.1==v && p.2.1==name) with|some p=>p|none=>(v,name,[])
theorem rX (l:zV) (v:Int) (name:List UInt8) (hw:zE l<=137438953472):qI (l,v,name,())=some (yz l v name,()):=by
 have hl:l.length<=137438953472:=by unfold zE at hw; omega
 unfold qI yz;refine (walk l.length (λ i (z:zG)=>(i,z,())) (λ _ _=>True) (λ i _=>some ((match (l.drop i).find? (λ p=>p.1==v && p.2.1==name) with|some p=>p|none=>(v,name,[])),())) (by omega) ?_ ?_ (s0:=(0,[],[])) trivial).trans (by simp only[al8])
 ·intro rec s _;rw[alh];simp only[ala,akQ,akI,List.find?_nil]
 ·intro rec i s hi _;have hx:l[i]?=some l[i]:=List.getElem?_eq_getElem hi;have hy:=KS hw hx;rw[al1 hi];simp only[zw hi,decide_true,cond_true,and_self,if_true,Int.toNat_natCast,zt (e:=Yw) hx,MQ l[i] hy,Option.bind_some,zq (show i<4611686018427387904 by omega),List.find?_cons];by_cases h1:l[i].1=v
  ·have e1:(l[i].1==v)=true:=beq_iff_eq.2 h1;by_cases h2:l[i].2.1=name
   ·have e2:(l[i].2.1==name)=true:=beq_iff_eq.2 h2;left; simp only[e1,e2,akJ,alv]
   ·have e2:(l[i].2.1==name)=false:=beq_eq_false_iff_ne.2 h2;right; exact⟨s,trivial,by simp only[e1,e2,akJ,akI],by simp only[e1,e2,alC]⟩
  ·have e1:(l[i].1==v)=false:=beq_eq_false_iff_ne.2 h1;right; exact⟨s,trivial,by simp only[e1,akI],by simp only[e1,alj]⟩
theorem Sg (l:zV) (v:Int) (name:List UInt8) (hw:zE l<=137438953472):dJ (l,v,name,())=some (yz l v name,()):=by
 have hl:l.length<=137438953472:=by unfold zE at hw; omega
 unfold dJ yz;refine (walk l.length (λ i (z:zG)=>(i,z,())) (λ _ _=>True) (λ i _=>some ((match (l.drop i).find? (λ p=>p.1==v && p.2.1==name) with|some p=>p|none=>(v,name,[])),())) (by omega) ?_ ?_ (s0:=(0,[],[])) trivial).trans (by simp only[al8])
 ·intro rec s _;rw[alh];simp only[ala,akQ,akI,List.find?_nil]
 ·intro rec i s hi _;have hx:l[i]?=some l[i]:=List.getElem?_eq_getElem hi;have hy:=KS hw hx;rw[al1 hi];simp only[zw hi,decide_true,cond_true,and_self,if_true,Int.toNat_natCast,zt (e:=Yw) hx,QR l[i] hy,Option.bind_some,zq (show i<4611686018427387904 by omega),List.find?_cons];by_cases h1:l[i].1=v
  ·have e1:(l[i].1==v)=true:=beq_iff_eq.2 h1;by_cases h2:l[i].2.1=name
   ·have e2:(l[i].2.1==name)=true:=beq_iff_eq.2 h2;left; simp only[e1,e2,akJ,alv]
   ·have e2:(l[i].2.1==name)=false:=beq_eq_false_iff_ne.2 h2;right; exact⟨s,trivial,by simp only[e1,e2,akJ,akI],by simp only[e1,e2,alC]⟩
  ·have e1:(l[i].1==v)=false:=beq_eq_false_iff_ne.2 h1;right; exact⟨s,trivial,by simp only[e1,akI],by simp only[e1,alj]⟩
noncomputable def LK:zF->zF->ye->zF
 | [],out,_=>out
 | x::xs,out,l=>if out.length=2 then out else if (pay l x).2=0∨(pay l x).2=4 then LK xs (out++[x]) (pay l x).1 else LK xs out l
noncomputable def N6 (p:zF) (l:ye):zF:=LK p [] l
theorem lp:∀ (xs out:zF) (l:ye),out.length<=2->(LK xs out l).length<=2
 | [],out,l,h=>h
 | x::xs,out,l,h=>by
  simp only[LK];split
  ·exact h
  ·split
   ·exact lp xs _ _ (by simp; omega)
   ·exact lp xs _ _ h
theorem aaJ (p:zF) (l:ye) (hp:p.length<=137438953472) (h1:l.1.length<=137438953472) (h2:l.2.length<=137438953472):bH (p,l,())=some (N6 p l,()):=by
 unfold bH N6;dsimp only;rw[sq l h1 h2,akH];refine (walk p.length (λ i (s:zF×ye)=>(s.1,i,s.2,())) (λ _ s=>s.1.length<=2/\s.2.1.length<=137438953472/\s.2.2.length<=137438953472) (λ i s=>some (LK (p.drop i) s.1 s.2,())) (by omega) ?_ ?_ (s0:=([],l)) ⟨by simp,h1,h2⟩).trans (by simp only[al8])
 ·intro rec s _;rw[alh];simp only[ala,akQ,akI,LK]
 ·intro rec i s hi hs;obtain⟨k1,k2,k3⟩:=hs;obtain⟨p1,p2⟩:=nY s.2 p[i];have hx:p[i]?=some p[i]:=List.getElem?_eq_getElem hi;rw[al1 hi];simp only[zw hi,decide_true,cond_true,and_self,if_true,Int.toNat_natCast,zt (e:=Zn) hx,rQ s.2 p[i] k2 k3,Option.bind_some,zq (show i<4611686018427387904 by omega),LK,List.length_cons,List.length_nil];by_cases hf:s.1.length=2
  ·left;have:decide ((s.1.length:Int)<2)=false:=by simp; omega
   rw[if_pos hf];simp only[this,akI]
  ·have:decide ((s.1.length:Int)<2)=true:=by simp; omega
   simp only[this,akJ,hf,if_false];rw[if_pos (by omega)];by_cases c0:(pay s.2 p[i]).2=0
   ·right;refine⟨(s.1++[p[i]],(pay s.2 p[i]).1),⟨by simp; omega,by simp only; omega,by simp only; omega⟩,?_,?_⟩
    ·simp only[c0,beq_self_eq_true,akJ]
    ·rw[if_pos (.inl c0)]
   ·have e0:((pay s.2 p[i]).2==0)=false:=beq_eq_false_iff_ne.2 c0;by_cases c4:(pay s.2 p[i]).2=4
    ·right;refine⟨(s.1++[p[i]],(pay s.2 p[i]).1),⟨by simp; omega,by simp only; omega,by simp only; omega⟩,?_,?_⟩
     ·simp only[c4,beq_self_eq_true,akJ,show ((4:Int)==0)=false from rfl,akI]
     ·rw[if_pos (.inr c4)]
    ·have e4:((pay s.2 p[i]).2==4)=false:=beq_eq_false_iff_ne.2 c4;right;refine⟨s,⟨k1,k2,k3⟩,?_,?_⟩
     ·simp only[e0,e4,akI]
     ·rw[if_neg (by rintro (h|h); exact c0 h; exact c4 h)]
def M3 (l:zF):List UInt8:=(l.map λ x=>44::yM x).flatten
def Qd:zF->List UInt8
 | []=>[]
 | x::r=>yM x++M3 r
def Qe (l:zF):List UInt8:=bif l.all zO then Qd l else []
def MZ (i:Nat) (l:zF):List UInt8:=if i=0 then Qd l else M3 l
theorem DP:∀ l:zF,(M3 l).length<=28*l.length
 | []=>by simp[M3]
 | x::l=>by
  have h1:=lr x;have h2:=DP l;simp only[M3,al3,am2,akR,akN] at *;omega
theorem DQ (l:zF):(Qe l).length<=28*l.length:=by
 unfold Qe;cases l.all zO
 ·simp
 ·cases l with
  | nil=>simp[Qd]
  | cons x r=>
   have h1:=lr x;have h2:=DP r;simp only[akJ,Qd,akR,akN];omega
theorem ab0 (l:zF) (hl:l.length<=1000000):kq (l,())=some (Qe l,()):=by
 unfold kq Qe;refine (walk l.length (λ i (o:List UInt8)=>(o,i,())) (λ i o=>o.length<=28*i) (λ i o=>some ((bif (l.drop i).all zO then o++MZ i (l.drop i) else []),())) (by omega) ?_ ?_ (s0:=[]) (by simp)).trans (by simp[MZ])
 ·intro rec o _;rw[alh];simp only[ala,akQ,akI,List.all_nil,akJ,MZ];split<;>simp[Qd,M3]
 ·intro rec i o hi ho;have hx:l[i]?=some l[i]:=List.getElem?_eq_getElem hi;have htl:=lr l[i];rw[al1 hi];simp only[zw hi,akP,akJ,akY,if_true,akT,zt (e:=Zn) hx,MP,Dg,akH,zq (show i<4611686018427387904 by omega),alg,akR,akN,akM];cases hk:zO l[i]
  ·left; simp only[al2,akJ,alj,akI]
  ·right;by_cases h0:i=0
   ·subst h0;refine⟨o++yM l[0],by rw[akR]; omega,?_,?_⟩
    ·simp only[akO,akI,show ¬ (((0:Nat):Int)>0) by omega,akQ];rw[if_pos (by omega)]
    ·simp[MZ,Qd]
   ·refine⟨o++[44]++yM l[i],by simp only[akR,akN,akM]; omega,?_,?_⟩
    ·simp only[akO,akI,show ((i:Int)>0) by omega,akP,akJ];rw[if_pos (by omega),if_pos (by omega)]
    ·have e:o++MZ i (l[i]::List.drop (i+1) l)=(o++[44]++yM l[i])++MZ (i+1) (List.drop (i+1) l):=by
      unfold MZ;rw[if_neg h0,if_neg (by omega)];simp only[M3,al3,am2,alr,alP,al9]
     rw[e];simp only[akZ]
def Jj (up:List UInt8) (view:Int) (list:zF):List UInt8:=(((up++[47])++Lib.decDigits view.toNat)++[124])++Qe list
def j9 (up:List UInt8) (view:Int) (list:zF):List UInt8:=bif list.all zO && zC (Jj up view list) then Jj up view list else []
theorem v6 (up:List UInt8) (view:Int) (list:zF) (h:view<1000000):(Jj up view list).length<=up.length+8+28*list.length:=by
 have h1:=DQ list;have h2:=dl view.toNat (by omega);unfold Jj;simp only[akR,akN,akM];omega
theorem Ul (l:zF) (K:Option (List UInt8×Unit)) {G:(Int×Unit->Option (List UInt8×Unit))->Int×Unit->Option (List UInt8×Unit)} (hl:l.length<=1152921504606846976)
  (ace:∀ rec,G rec ((l.length:Int),())=K)
  (ac9:∀ rec (i:Nat) x,l[i]?=some x->i<l.length->G rec ((i:Int),())=bif zO x then rec ((i:Int)+1,()) else some ([],())):
  iter G fuel (0,())=bif l.all zO then K else some ([],()):=by
 refine (walk l.length (λ i (_:Unit)=>(i,())) (λ _ _=>True) (λ i _=>bif (l.drop i).all zO then K else some ([],())) hl ?_ ?_ (s0:=()) trivial).trans (by simp only[al8])
 ·intro rec s _; rw[ace,alh]; rfl
 ·intro rec i s hi _;rw[ac9 rec i l[i] (List.getElem?_eq_getElem hi) hi,List.drop_eq_getElem_cons hi];simp only[alg];cases zO l[i]
  ·left; rfl
  ·right; exact⟨(),trivial,rfl,rfl⟩
theorem bE (up:List UInt8) (view:Int) (list:zF) (hu:up.length<=1073741824) (hv:0<=view/\view<1000000) (hl:list.length<=1000000):LB (up,view,list,())=some (j9 up view list,()):=by
 have h1:=DQ list;have h2:=dl view.toNat (by omega);have d:=ME view.toNat (by omega);rw[amv hv.1] at d;have hn:=v6 up view list hv.2;unfold LB j9;refine (Ul list (bif zC (Jj up view list) then some (Jj up view list,()) else some ([],())) (by omega) ?_ ?_).trans ?_
 ·intro rec;simp only[ala,akQ,akI,d,ab0 list hl,akH,akR,akN,akM];rw[if_pos (by omega),if_pos (by omega),if_pos (by omega),if_pos (by omega)];have e:(((up++[47])++Lib.decDigits view.toNat)++[124])++Qe list=Jj up view list:=rfl;rw[e,KJ _ (by omega),akH];cases zC (Jj up view list)<;>rfl
 ·intro rec i x hx hi;simp only[zw hi,akP,akJ,akY,if_true,akT,zt (e:=Zn) hx,MP,akH,zq (show i<4611686018427387904 by omega)];cases zO x<;>rfl
 ·cases list.all zO<;>cases zC (Jj up view list)<;>rfl
theorem nL (up:List UInt8) (view:Int) (list:zF) (h:view<1000000):(j9 up view list).length<=up.length+8+28*list.length:=by
 have:=v6 up view list h;unfold j9;cases (list.all zO && zC (Jj up view list))
 ·simp
 ·exact this
def cw:yE:=([],0,[],[])
def K2 (c:za) (q:zH) (view:Int) (list:zF):yE×Bool:=
 bif jm c (j9 q.2.1 view list,q) && zg (j9 q.2.1 view list)==view then ((j9 q.2.1 view list,q),true) else (cw,false)
theorem gH (c:za) (q:zH) (view:Int) (list:zF) (hq:zi q<=500000000) (hv:0<=view/\view<1000000) (hl:list.length<=2):yd (c,q,view,list,())=some ((K2 c q view list).1,(K2 c q view list).2,()):=by
 have hu:q.2.1.length<=500000000:=by simp only[zi] at hq; omega
 have hn:=nL q.2.1 view list hv.2;unfold yd K2;simp only[bE q.2.1 view list (by omega) hv (by omega),MW q (by omega),gI c (j9 q.2.1 view list,q) (by simp only[zp]; omega),Y5 (j9 q.2.1 view list) (by omega),Option.bind_some,ag]
 cases jm c (j9 q.2.1 view list,q)<;>cases (zg (j9 q.2.1 view list)==view)<;>rfl
theorem tu (c:za) (q:zH) (view:Int) (list:zF) (h:view<1000000):zp (K2 c q view list).1<=2*zi q+8+28*list.length:=by
 have hn:=nL q.2.1 view list h;unfold K2;cases (jm c (j9 q.2.1 view list,q) && zg (j9 q.2.1 view list)==view)
 ·simp[cw,zp,zi,zn]
 ·simp only[akJ,zp];have:q.2.1.length<=zi q:=by simp only[zi]; omega
  omega
noncomputable def mb (c:za) (r:zb):yE×Bool:=K2 c r.2.2.2.1.2.2.1 r.2.1 (N6 r.2.2.2.2.1 (Zw j7 (jT r.2.2.2.1.2.2.1.2.1)).2)
noncomputable def ask (c:za) (r:zb):yE×Bool:=
 bif zf c r && (yr c r.2.1==r.1 && (!decide (r.2.2.1≥r.2.1) && (r.2.2.2.1.2.2.1.1==wr (r.2.1 - 1) || decide (((yz r.2.2.2.2.2.1 r.2.1 []).2.2.length:Int)≥Jn c)))) then mb c r else (cw,false)
theorem Mu {c:za} {r:zb} (h:zf c r=true):1<=r.2.1/\r.2.1<=60:=by
 unfold zf at h;simp only[akK,akV] at h;exact h.2.2.1
theorem TR (a b:Int):decide (a<b) = !decide (a≥b):=by
 by_cases h:a<b
 ·have:¬ a≥b:=by omega
  simp[h,this]
 ·have:a≥b:=by omega
  simp[h,this]
theorem C4 (c:za) (r:zb) (hw:ze r<=500000000):KG (c,r,())=some ((ask c r).1,(ask c r).2,()):=by
 have hs:=lE hw;have hq:zi r.2.2.2.1.2.2.1<=500000000:=by simp only[zu] at hs; omega
 have hu:r.2.2.2.1.2.2.1.2.1.length<=500000000:=by simp only[zi] at hq; omega
 have ht:zE r.2.2.2.2.2.1<=500000000:=by simp only[ze] at hw; omega
 have hp:=D3 hw;have hx:=DO r.2.2.2.1.2.2.1.2.1;obtain⟨l1,l2,_⟩:=nX (jT r.2.2.2.1.2.2.1.2.1) ([],j7);have m1:(Zw j7 (jT r.2.2.2.1.2.2.1.2.1)).2.1.length=4:=l1;have m2:(Zw j7 (jT r.2.2.2.1.2.2.1.2.1)).2.2.length=4:=l2;have hk:=lp r.2.2.2.2.1 [] (Zw j7 (jT r.2.2.2.1.2.2.1.2.1)).2 (by simp);unfold KG ask mb;dsimp only;rw[Yc c r (by omega),akH];cases hr:zf c r
 ·rfl
 ·have hv:=Mu hr;simp only[akO,akI,ML,rX _ _ _ (show zE r.2.2.2.2.2.1<=137438953472 by omega),rU,C7,Dh r.2.2.2.1.2.2.1.2.1 (by omega),Db j7 _ (by decide) (by decide) (show (jT r.2.2.2.1.2.2.1.2.1).length<=137438953472 by omega),
   aaJ r.2.2.2.2.1 _ (by omega) (show (Zw j7 (jT r.2.2.2.1.2.2.1.2.1)).2.1.length<=137438953472 by omega) (show (Zw j7 (jT r.2.2.2.1.2.2.1.2.1)).2.2.length<=137438953472 by omega),
   gH c r.2.2.2.1.2.2.1 r.2.1 (N6 r.2.2.2.2.1 (Zw j7 (jT r.2.2.2.1.2.2.1.2.1)).2) hq (by omega) hk,akH,ag,TR,akZ]
  cases (yr c r.2.1==r.1)
  ·rfl
  cases decide (r.2.2.1≥r.2.1)
  ·cases (r.2.2.2.1.2.2.1.1==wr (r.2.1 - 1))
   ·cases decide (((yz r.2.2.2.2.2.1 r.2.1 []).2.2.length:Int)≥Jn c)<;>rfl
   ·rfl
  ·rfl
theorem O5 (c:za) (r:zb):zp (ask c r).1<=2*ze r+100:=by
 have hz:zp cw=0:=rfl;unfold ask;cases hr:zf c r
 ·simp only[alj,akI,hz]; omega
 ·have hv:=Mu hr;have hk:=lp r.2.2.2.2.1 [] (Zw j7 (jT r.2.2.2.1.2.2.1.2.1)).2 (by simp);have hb:=tu c r.2.2.2.1.2.2.1 r.2.1 (N6 r.2.2.2.2.1 (Zw j7 (jT r.2.2.2.1.2.2.1.2.1)).2) (by omega);have hq:zi r.2.2.2.1.2.2.1<=ze r:=by simp only[ze,zu]; omega
  have hk2:(N6 r.2.2.2.2.1 (Zw j7 (jT r.2.2.2.1.2.2.1.2.1)).2).length<=2:=hk;simp only[akZ];generalize (yr c r.2.1==r.1 && (!decide (r.2.2.1≥r.2.1) && (r.2.2.2.1.2.2.1.1==wr (r.2.1 - 1) || decide (((yz r.2.2.2.2.2.1 r.2.1 []).2.2.length:Int)≥Jn c))))=b;cases b
  ·simp only[akI,hz]; omega
  ·simp only[akJ,mb]; omega
def L4 (r:zb) (to:Int) (m:zv):zb:=(r.1,r.2.1,r.2.2.1,r.2.2.2.1,r.2.2.2.2.1,r.2.2.2.2.2.1,r.2.2.2.2.2.2.1,r.2.2.2.2.2.2.2++[(to,m)])
noncomputable def jk (c:za) (r:zb) (to:Int) (m:zv):zb×Bool:=
 bif !decide ((r.2.2.2.2.2.2.2.length:Int)≥30) && j4 c r.1 (to,m) then (L4 r to m,true) else (r,false)
noncomputable def tell (c:za) (r:zb) (to:Int) (m:zv):zb×Bool:=bif zf c r then jk c r to m else (r,false)
theorem kJ (c:za) (r:zb) (to:Int) (m:zv) (hc:zz c=true) (hr:ze r<=137438953471) (hm:zj m<=137438953471):KP (c,r,to,m,())=some ((jk c r to m).1,(jk c r to m).2,()):=by
 obtain⟨hc1,hc2⟩:=yb hc;have hl:r.2.2.2.2.2.2.2.length<=137438953471:=by simp only[ze,yo] at hr; omega
 have e1:wr (c.1 - 1)=c.1 - 1:=zh (by omega) (by omega);unfold KP jk j4;simp only[qx c m (by omega),Ys,Dp m (by omega),e1,akH,akN,akM];rw[if_pos (by omega)];cases decide ((r.2.2.2.2.2.2.2.length:Int)≥30)<;>cases yJ c m<;>cases (decide (to≥0) && decide (to<=c.1 - 1))<;>cases (to==r.1)<;>rfl
theorem ba {c:za} {r:zb} (h:zf c r=true):zz c=true:=by
 unfold zf at h;rw[akK] at h;exact h.1
theorem uA (c:za) (r:zb) (to:Int) (m:zv):zf c (L4 r to m)=(zf c r && (!decide ((r.2.2.2.2.2.2.2.length:Int)≥30) && j4 c r.1 (to,m))):=by
 unfold zf L4;simp only[List.all_append,alg,List.all_nil,Bool.and_true,akR,akN,akM];by_cases h:(r.2.2.2.2.2.2.2.length:Int)≥30
 ·have e1:decide (((r.2.2.2.2.2.2.2.length+(0+1):Nat):Int)<=30)=false:=by simp; omega
  rw[e1];simp[h]
 ·have e1:decide (((r.2.2.2.2.2.2.2.length+(0+1):Nat):Int)<=30)=true:=by simp; omega
  have e2:decide ((r.2.2.2.2.2.2.2.length:Int)<=30)=true:=by simp; omega
  have e3:decide ((r.2.2.2.2.2.2.2.length:Int)≥30)=false:=by simp; omega
  rw[e1,e2,e3];simp only[akZ,al2,Bool.and_assoc]
theorem uB (r:zb) (to:Int) (m:zv):ze (L4 r to m)=ze r+(1+zj m):=by
 simp only[L4,ze,yo,Ye,akR,ams,List.sum_append,akN,akM,al3,alq,alp,List.sum_nil];omega
theorem uQ (c:za) (r:zb) (to:Int) (m:zv) (hr:ze r<=500000000) (hm:zj m<=500000000):NQ (c,r,to,m,())=some ((tell c r to m).1,(tell c r to m).2,()):=by
 have hl:r.2.2.2.2.2.2.2.length<=500000000:=by simp only[ze,yo] at hr; omega
 have hw:=uB r to m;have hk:=QH c (L4 r to m) (by omega);unfold NQ tell jk;simp only[dS r (by omega),uU m (by omega),akH,akN,akM];rw[if_pos (by omega)];have e:(r.1,r.2.1,r.2.2.1,r.2.2.2.1,r.2.2.2.2.1,r.2.2.2.2.2.1,r.2.2.2.2.2.2.1,r.2.2.2.2.2.2.2++[(to,m)])=L4 r to m:=rfl;rw[e,hk,uA,akH];cases zf c r<;>cases (!decide ((r.2.2.2.2.2.2.2.length:Int)≥30) && j4 c r.1 (to,m))<;>rfl
theorem abp (c:za) (r:zb) (to:Int) (m:zv):ze (tell c r to m).1<=ze r+(1+zj m):=by
 have hw:=uB r to m;unfold tell jk;cases zf c r
 ·simp only[akI]; omega
 ·cases (!decide ((r.2.2.2.2.2.2.2.length:Int)≥30) && j4 c r.1 (to,m))
  ·simp only[akJ,akI]; omega
  ·simp only[akJ]; omega
theorem sx {c:za} {r:zb} {to:Int} {m:zv} (h:(tell c r to m).2=true):zf c (tell c r to m).1=true/\(tell c r to m).1.1=r.1:=by
 have hk:=uA c r to m;unfold tell jk at h ⊢;cases hr:zf c r
 ·rw[hr] at h; cases h
 ·rw[hr] at h hk;cases hb:(!decide ((r.2.2.2.2.2.2.2.length:Int)≥30) && j4 c r.1 (to,m))
  ·rw[hb] at h; cases h
  ·rw[hb] at hk;simp only[akJ];exact⟨hk,rfl⟩
theorem lq {c:za} {r:zb} (to:Int) (m:zv) (h:zf c r=true):jk c r to m=tell c r to m:=by
 unfold tell; rw[h]; rfl
noncomputable def Jw (c:za) (r:zb) (m:zv):Nat->Nat->zb->zb×Bool
 | 0,_,out=>(out,true)
 | n+1,i,out=>bif ((i:Int)==r.1) then Jw c r m n (i+1) out else bif (tell c out i m).2 then Jw c r m n (i+1) (tell c out i m).1 else (r,false)
noncomputable def LL (c:za) (r:zb) (m:zv):zb×Bool:=bif zf c r then Jw c r m c.1.toNat 0 r else (r,false)
theorem abn (c:za) (r:zb) (m:zv) (z:zb) (hc:4<=c.1/\c.1<=7) (hok:zf c r=true) {G:(Int×zb×zb×Unit->Option (zb×Bool×Unit))->Int×zb×zb×Unit->Option (zb×Bool×Unit)}
  (hG:∀ rec (i:Nat) (out:zb),i<7->zf c out=true->ze out<=ze r+i*(1+zj m)->G rec ((i:Int),z,out,())=bif decide ((i:Int)<c.1) then (bif ((i:Int)==r.1) then rec ((i:Int)+1,z,out,()) else
   bif (tell c out i m).2 then rec ((i:Int)+1,z,(tell c out i m).1,()) else some (r,false,())) else some (out,true,()))
  (hE:∀ rec (out:zb),G rec (c.1,z,out,())=some (out,true,())):
  iter G fuel (0,z,r,())=some ((Jw c r m c.1.toNat 0 r).1,(Jw c r m c.1.toNat 0 r).2,()):=by
 obtain⟨n,hn⟩:∃ n:Nat,c.1=(n:Int):=⟨c.1.toNat,by omega⟩
 refine (walk n (λ i (out:zb)=>(i,z,out,())) (λ i out=>zf c out=true/\ze out<=ze r+i*(1+zj m)) (λ i out=>some ((Jw c r m (n - i) i out).1,(Jw c r m (n - i) i out).2,())) (by omega) ?_ ?_ (s0:=r) ⟨hok,by omega⟩).trans (by rw[hn]; simp)
 ·intro rec out ho;rw[←hn,hE]; simp[Jw]
 ·intro rec i out hi ho;rw[hG rec i out (by omega) ho.1 ho.2,show n - i=(n - (i+1))+1 by omega];simp only[show ((i:Int)<c.1) by omega,akP,akJ,Jw];cases he:((i:Int)==r.1)
  ·cases ht:(tell c out i m).2
   ·left; rfl
   ·right;have:=abp c out i m;refine⟨(tell c out i m).1,⟨(sx ht).1,?_⟩,rfl,rfl⟩;rw[alu]; omega
  ·right;exact⟨out,⟨ho.1,by rw[alu]; omega⟩,rfl,rfl⟩
theorem seven {i N:Nat} (h:i<7):i*N<=7*N:=Nat.mul_le_mul (by omega) (Nat.le_refl _)
theorem aaX (c:za) (r:zb) (m:zv) (hr:ze r<=100000000) (hm:zj m<=10000000):bR (c,r,m,())=some ((LL c r m).1,(LL c r m).2,()):=by
 unfold bR LL;dsimp only;rw[ZC r (by omega),akH,Yc c r (by omega),akH];cases hok:zf c r
 ·rfl
 ·obtain⟨h1,h2⟩:=yb (ba hok);simp only[akO,akI,akJ];refine abn c r m _ ⟨h1,h2⟩ hok ?_ ?_
  ·intro rec i out hi ho hwo;have:=seven (N:=1+zj m) hi;simp only[kJ c out i m (ba hok) (by omega) (by omega),lq _ _ ho,ZC r (by omega),akH,zq (show i<4611686018427387904 by omega)];cases decide ((i:Int)<c.1)<;>cases ((i:Int)==r.1)<;>cases (tell c out i m).2<;>rfl
  ·intro rec out;simp only[ala,akQ,akI]
noncomputable def ZQ (c:za) (s:zB):List UInt8:=bif zX c s then ((jc s.1++jc s.2.1)++Kz c s.2.2.1)++JW s.2.2.2 else []
theorem rz (c:za) (s:zB):(ZQ c s).length<=30+5*zu s:=by
 unfold ZQ;have h1:=yY s.1;have h2:=yY s.2.1;have h3:=Mq c s.2.2.1;have h4:=JX s.2.2.2;cases zX c s
 ·simp
 ·simp only[akJ,akR,zu]; omega
theorem aaN (c:za) (s:zB) (hw:zu s<=10000000000):kc (c,s,())=some (ZQ c s,()):=by
 have h1:=yY s.1;have h2:=yY s.2.1;have h3:=Mq c s.2.2.1;have h4:=JX s.2.2.2;have hq:zi s.2.2.1<=10000000000:=by simp only[zu] at hw; omega
 have hn:s.2.2.2.length<=10000000000:=by simp only[zu] at hw; omega
 unfold kc ZQ;simp only[qE c s (by omega),KL,rS c s.2.2.1 (by omega),gZ s.2.2.2 (by omega),akH,akR];rw[if_pos (by omega),if_pos (by omega),if_pos (by omega)];cases zX c s<;>rfl
theorem Uj (a b:Int):nums [a,b]=jc a++jc b:=by simp[nums]
theorem R9 (c:za) (s:zB) (hw:zu s<=1073741824):dC (c,s,())=some (ZQ c s,()):=by
 have h1:=yY s.1;have h2:=yY s.2.1;have h3:=Mq c s.2.2.1;have h4:=JX s.2.2.2;have hq:zi s.2.2.1<=1073741824:=by simp only[zu] at hw; omega
 have hn:s.2.2.2.length<=1073741824:=by simp only[zu] at hw; omega
 unfold dC ZQ;simp only[dD c s (by omega),uW [s.1,s.2.1] (by simp),Uj,R6 c s.2.2.1 (by omega),uJ s.2.2.2 (by omega),Option.bind_some,List.length_append];rw[if_pos (by omega),if_pos (by omega)];cases zX c s<;>rfl
noncomputable def y8 (c:za) (s:zB):List UInt8:=bif (((ZQ c s).length:Int)==0) then [] else (jc ((ZQ c s).length:Int)++ZQ c s)++[UInt8.ofNat (Int.toNat 10)]
theorem nQ (c:za) (s:zB):(y8 c s).length<=40+5*zu s:=by
 unfold y8;have h1:=rz c s;have h2:=yY ((ZQ c s).length:Int);cases (((ZQ c s).length:Int)==0)
 ·simp only[akI,akR,akN,akM]; omega
 ·simp
theorem aaF (c:za) (s:zB) (hw:zu s<=10000000000):gW (c,s,())=some (y8 c s,()):=by
 have h1:=rz c s;have h2:=yY ((ZQ c s).length:Int);unfold gW y8;simp only[aaN c s hw,KL,akH,akR,akN,akM];rw[if_pos (by omega),if_pos (by omega)];cases (((ZQ c s).length:Int)==0)<;>rfl
theorem R2 (c:za) (s:zB) (hw:zu s<=1073741824):dr (c,s,())=some (y8 c s,()):=by
 have h1:=rz c s;have h2:=yY ((ZQ c s).length:Int);unfold dr y8;simp only[R9 c s hw,dx,akH,akR,akN,akM];rw[if_pos (by omega),if_pos (by omega)];cases (((ZQ c s).length:Int)==0)<;>rfl
theorem Cw (a b:zB):jW a b=decide (a=b):=by
 obtain⟨a1,a2,a3,a4⟩:=a;obtain⟨b1,b2,b3,b4⟩:=b;unfold jW;simp only[pu];rw[amh];simp[Prod.ext_iff]
def Qj (r:zb) (s:zB) (d:yF):zb:=(r.1,r.2.1,r.2.2.1,s,r.2.2.2.2.1,r.2.2.2.2.2.1,d,r.2.2.2.2.2.2.2)
noncomputable def zm (c:za) (r:zb) (s:zB):zb×Bool:=
 bif jW r.2.2.2.1 s then (r,true) else bif (yW r.2.2.2.2.2.2.1 (y8 c s)).2 && zX c s then (Qj r s (yW r.2.2.2.2.2.2.1 (y8 c s)).1,true) else (r,false)
noncomputable def write (c:za) (r:zb) (s:zB):zb×Bool:=bif zf c r then zm c r s else (r,false)
theorem abR {c:za} {r:zb} {s:zB} (h:(zm c r s).2=false):(zm c r s).1=r:=by
 unfold zm at *;cases h1:jW r.2.2.2.1 s
 ·rw[h1] at h;cases h2:((yW r.2.2.2.2.2.2.1 (y8 c s)).2 && zX c s)
  ·rfl
  ·rw[h2] at h; cases h
 ·rw[h1] at h; cases h
theorem b9 (c:za) (r:zb) (s:zB) (hr:ze r<=10000000000) (hs:zu s<=10000000000):Yt (c,r,s,())=some ((zm c r s).1,(zm c r s).2,()):=by
 have h1:=lD hr;have h2:=nQ c s;have h3:=lE hr;unfold Yt zm;simp only[Dd r.2.2.2.1 s (by omega),aaF c s hs,aao r.2.2.2.2.2.2.1 (y8 c s) (by omega) (by omega),qE c s (by omega),kv s (by omega),akH];cases jW r.2.2.2.1 s<;>cases (yW r.2.2.2.2.2.2.1 (y8 c s)).2<;>cases zX c s<;>rfl
theorem tj {d:yF} {b:List UInt8} (h:(yW d b).2=true):yt (yW d b).1=true:=by
 unfold yW at *;split at h
 ·next hc=>
  rw[if_pos hc];have:=K6.1 hc.1;refine K6.2 ⟨?_,this.2.1,?_⟩
  ·simp only[akR]; omega
  ·simp only[akR]; omega
 ·cases h
theorem D9 {c:za} {r:zb} {s:zB} {d:yF} (hr:zf c r=true) (hd:yt d=true):zf c (Qj r s d)=zX c s:=by
 obtain⟨a,v,k,sf,pool,tab,dk,held⟩:=r;show zf c (a,v,k,s,pool,tab,d,held)=_;unfold zf at hr ⊢;simp only[akK] at hr;obtain⟨a1,a2,a3,a4,a5,a6,a7,a8,a9,a10⟩:=hr;simp only at a1 a2 a3 a4 a5 a6 a7 a8 a9 a10 ⊢;rw[a1,a2.1,a2.2,a3.1,a3.2,a4.1,a4.2,a6,a7,hd,a9,a10];simp
theorem Ea (r:zb) (s:zB) (d:yF):ze (Qj r s d)<=ze r+zu s+d.1.length:=by
 simp only[Qj,ze,J5]; omega
theorem mQ (c:za) (r:zb) (s:zB) (hr:ze r<=100000000) (hs:zu s<=100000000):Ma (c,r,s,())=some ((write c r s).1,(write c r s).2,()):=by
 have h1:=lD hr;have h2:=nQ c s;have h3:=lE hr;have h4:=O0 r.2.2.2.2.2.2.1 (y8 c s);have h5:=Ea r s (yW r.2.2.2.2.2.2.1 (y8 c s)).1;have hk:=QH c (Qj r s (yW r.2.2.2.2.2.2.1 (y8 c s)).1) (by omega);unfold Ma write zm;have e:(r.1,r.2.1,r.2.2.1,s,r.2.2.2.2.1,r.2.2.2.2.2.1,(yW r.2.2.2.2.2.2.1 (y8 c s)).1,r.2.2.2.2.2.2.2)=Qj r s (yW r.2.2.2.2.2.2.1 (y8 c s)).1:=rfl;simp only[dS r (by omega),QH c r (by omega),Sa s r.2.2.2.1 (by omega),R2 c s (by omega),RR r.2.2.2.2.2.2.1 (y8 c s) (by omega) (by omega),dU s (by omega),akH,e,hk];have es:jW s r.2.2.2.1=jW r.2.2.2.1 s:=by rw[Cw,Cw]; exact decide_eq_decide.2 ⟨λ h=>h.symm,λ h=>h.symm⟩
 rw[es];cases hok:zf c r
 ·rfl
 ·cases jW r.2.2.2.1 s
  ·cases ha:(yW r.2.2.2.2.2.2.1 (y8 c s)).2
   ·rfl
   ·rw[D9 hok (tj ha)];cases zX c s<;>rfl
  ·rfl
end G448
namespace G448
open Ev
set_option maxRecDepth 100000
noncomputable def qn (c:za) (ws:ju) (p:Ka):ju:=
 bif decide (((Ko c p.2).length:Int)>0) then (bif (decide (p.1≥0) && decide (p.1<=wr (c.1 - 1))) then (bif decide ((ws.length:Int)<60) then ws++[(p.1,Ko c p.2)] else ws) else ws) else ws
noncomputable def bn (c:za) (ws:ju) (ps:j0):ju:=ps.foldl (qn c) ws
theorem XJ (c:za) (l:y9) (rs:Yz) (sd:yV) (ps:j0) (ws:ju) {G:(Int×zA×Unit->Option (zA×Unit))->Int×zA×Unit->Option (zA×Unit)} (hn:ps.length<=1073741824)
  (ac9:∀ (rec:Int×zA×Unit->Option (zA×Unit)) (i:Nat) (s:ju) (h:i<ps.length),G rec ((i:Int),(c,l,rs,s,sd),())=rec ((i:Int)+1,(c,l,rs,qn c s ps[i],sd),()))
  (ace:∀ (rec:Int×zA×Unit->Option (zA×Unit)) (s:ju),G rec ((ps.length:Int),(c,l,rs,s,sd),())=some ((c,l,rs,s,sd),())):
  iter G fuel (0,(c,l,rs,ws,sd),())=some ((c,l,rs,bn c ws ps,sd),()):=by
 refine (walk ps.length (λ i (s:ju)=>(i,(c,l,rs,s,sd),())) (λ _ _=>True) (λ i s=>some ((c,l,rs,bn c s (ps.drop i),sd),())) (by omega) ?_ ?_ (s0:=ws) trivial).trans (by simp only[al8])
 ·intro rec s _;rw[ace,alh];rfl
 ·intro rec i s hi _;exact .inr ⟨qn c s ps[i],trivial,ac9 rec i s hi,by rw[al1 hi]; rfl⟩
theorem Ds (w:zA) (ps:j0) (hp:yo ps<=1073741824):cd (w,ps,())=some ((w.1,w.2.1,w.2.2.1,bn w.1 w.2.2.2.1 ps,w.2.2.2.2),()):=by
 have hl:ps.length<=1073741824:=by simp only[yo] at hp; omega
 unfold cd;refine XJ w.1 w.2.1 w.2.2.1 w.2.2.2.2 ps w.2.2.2.1 hl ?_ ?_
 ·intro rec i s hi;have hx:ps[i]?=some ps[i]:=List.getElem?_eq_getElem hi;have hm:=lC (Nat.le_refl (yo ps)) hx;have hlt:decide ((i:Int)<(ps.length:Int))=true:=by simp; omega
  simp only[hlt,cond_true,show (0:Int)<=(i:Int)/\(i:Int)<(ps.length:Int) from⟨by omega,by omega⟩,and_self,if_true,Int.toNat_natCast,zt (e:=lM) hx,aaE w.1 ps[i].2 (by omega),Option.bind_some,kO,zq (show i<4611686018427387904 by omega),qn];by_cases h60:(s.length:Int)<60
  ·simp only[h60,akP,akJ];rw[if_pos (by simp only[akN,akM]; omega)]
   cases decide (((Ko w.1 ps[i].2).length:Int)>0)<;>cases (decide (ps[i].1≥0) && decide (ps[i].1<=wr (w.1.1 - 1)))<;>rfl
  ·simp only[h60,akQ,akI];cases decide (((Ko w.1 ps[i].2).length:Int)>0)<;>cases (decide (ps[i].1≥0) && decide (ps[i].1<=wr (w.1.1 - 1)))<;>rfl
 ·intro rec s;simp only[ala,akQ,akI]
end G448
