/- Plain laws, part 1: what the functions compute. No program in sight. -/
import Derived.Test.YtppjgjdlnikigaaGreatDoorAcFns
import Derived.Lib.IndexBytes
import Derived.Lib.IndexLaws
import Derived.Lib.SplitLaws
import Derived.Lib.ItoaNum
import Derived.Lib.LastIndexByte
set_option linter.unusedSimpArgs false
set_option linter.unusedVariables false
namespace G448
open Ev
theorem NC {S R:Type} {G:(S->Option R)->S->Option R} (f:S->Option R) (μ:S->Nat) (I:S->Prop)
  (h:∀ (rec:S->Option R) (x:S),I x->(∀ y,I y->μ y<μ x->rec y=f y)->G rec x=f x):∀ (n:Nat) (x:S),I x->μ x<n->iter G n x=f x
 | 0,x,_,hn=>by omega
 | n+1,x,hx,hn=>h (iter G n) x hx λ y hy hlt=>NC f μ I h n y hy (by omega)
def K8 {α S R:Type} (body:α->S->(S->Option R)->Option R) (k:S->Option R):List α->S->Option R
 | [],s=>k s
 | x::xs,s=>body x s (K8 body k xs)
theorem mF {α S R:Type} (body:α->S->(S->Option R)->Option R) (k:S->Option R) (x:α) (xs:List α) (s:S):K8 body k (x::xs) s=body x s (K8 body k xs):=rfl
theorem vD {X S R:Type} (len:Nat) {G:(X->Option R)->X->Option R} (mk:Int->S->X) (f:Nat->S->Option R) (hlen:len<=1152921504606846976)
  (acT:∀ rec s,G rec (mk (len:Int) s)=f len s)
  (acP:∀ rec (i:Nat) s,i<len->(∀ s',rec (mk ((i:Int)+1) s')=f (i+1) s')->G rec (mk (i:Int) s)=f i s):
  ∀ n i s,i<=len->len - i<n->iter G n (mk (i:Int) s)=f i s
 | 0,i,s,_,hn=>by omega
 | n+1,i,s,hi,hn=>by
  rcases Nat.lt_or_ge i len with h|h
  ·exact acP (iter G n) i s h λ s'=>vD len mk f hlen acT acP n (i+1) s' (by omega) (by omega)
  ·have:i=len:=by omega
   subst this;exact acT (iter G n) s
theorem Ji {n:Nat} (h:n<=1152921504606846976):n<fuel:=by rw[y9]; omega
theorem Qs {α X S R:Type} (l:List α) {G:(X->Option R)->X->Option R} (body:α->S->(S->Option R)->Option R) (k:S->Option R) (mk:Int->S->X) (hl:l.length<=1152921504606846976)
  (acT:∀ rec s,G rec (mk (l.length:Int) s)=k s)
  (acP:∀ rec (i:Nat) s (x:α),l[i]?=some x->i<l.length->G rec (mk (i:Int) s)=body x s (λ s'=>rec (mk ((i:Int)+1) s')))
  (aj7:∀ x s (r1 r2:S->Option R),(∀ s',r1 s'=r2 s')->body x s r1=body x s r2) (s:S):iter G fuel (mk 0 s)=K8 body k l s:=by
 have:=vD l.length mk (λ i s=>K8 body k (l.drop i) s) hl (λ rec s=>by simpa[K8] using acT rec s) (λ rec i s hi acB=>by
  rw[acP rec i s l[i] (List.getElem?_eq_getElem hi) hi,List.drop_eq_getElem_cons hi];exact aj7 _ _ _ _ acB) fuel 0 s (Nat.zero_le _) (by simpa using Ji hl)
 simpa using this
theorem zg {n:Int} (h1 : -9223372036854775808<=n) (h2:n<=9223372036854775807):wr n=n:=by rw[lH]; omega
theorem zx {i:Nat} (h:i<4611686018427387904):wr ((i:Int)+1)=(i:Int)+1:=zg (by omega) (by omega)
theorem zu {e:Ty} {l:List (den e)} {i:Nat} {x:den e} (h:l[i]?=some x):rd e l i=x:=by
 simp[rd,am6,h]
theorem zz {α:Type} {l:List α} {i:Nat} (h:i<l.length):(0:Int)<=(i:Int)/\(i:Int)<(l.length:Int):=by omega
theorem cY {α β:Type} {l:List α} {out:List β} {i:Nat} (y:β) (g:α->β) (h:i<l.length) (ho:out.length=l.length) (hy:y=g l[i]):
  (out.set i y).take (i+1)++(l.drop (i+1)).map g=out.take i++(l.drop i).map g:=by
 have hi:i<out.length:=by omega
 rw[alJ h,alG,←hy,amK,List.take_set_of_le (amm i),List.getElem?_set_self hi];simp
theorem R7 {α β R:Type} (l:List α) (g:α->β) {G:(Int×List β×Unit->Option R)->Int×List β×Unit->Option R} (k:List β->Option R) (hl:l.length<=1152921504606846976)
  (acT:∀ rec out,out.length=l.length->G rec ((l.length:Int),out,())=k out)
  (acP:∀ rec (i:Nat) out x,l[i]?=some x->i<l.length->out.length=l.length->G rec ((i:Int),out,())=rec ((i:Int)+1,out.set i (g x),())) (out:List β) (ho:out.length=l.length):
  iter G fuel (0,out,())=k (l.map g):=by
 have key:∀ n i (out:List β),i<=l.length->out.length=l.length->l.length - i<n->iter G n ((i:Int),out,())=k (out.take i++(l.drop i).map g):=by
  intro n;induction n with
  | zero=>intro i out h1 h2 h3; omega
  | succ n ih=>
   intro i out hi ho hn;rcases Nat.lt_or_ge i l.length with h|h
   ·have e1:iter G (n+1) ((i:Int),out,())=iter G n ((i:Int)+1,out.set i (g l[i]),()):=acP (iter G n) i out l[i] (List.getElem?_eq_getElem h) h ho;have e2:=ih (i+1) (out.set i (g l[i])) h (by simpa using ho) (by omega);rw[cY (g l[i]) g h ho rfl] at e2;rw[e1];exact e2
   ·have hi':i=l.length:=by omega
    subst hi';have e1:iter G (n+1) ((l.length:Int),out,())=k out:=acT (iter G n) out ho;rw[e1,amr (by omega),amX (amm _)];simp
 have:=key fuel 0 out (Nat.zero_le _) ho (by simpa using Ji hl);simpa using this
theorem uG {α:Type} (p:α->Bool) (l:List α):K8 (S:=Unit) (λ x s rec=>bif p x then some (true,()) else rec s) (λ _=>some (false,())) l ()=some (l.any p,()):=by
 induction l with
 | nil=>rfl
 | cons x xs ih=>rw[mF,ih]; cases h:p x<;>simp[h]
theorem uF {α:Type} (p:α->Bool) (l:List α):K8 (S:=Unit) (λ x s rec=>bif p x then rec s else some (false,())) (λ _=>some (true,())) l ()=some (l.all p,()):=by
 induction l with
 | nil=>rfl
 | cons x xs ih=>rw[mF,ih]; cases h:p x<;>simp[h]
def sub (left:Int) (w:Nat):Int:=if left<(w:Int) then -1 else left - w
theorem sub_zero {left:Int} (h:0<=left):sub left 0=left:=by unfold sub; rw[if_neg (by simpa using h)]; simp
def Ens {α:Type} (o:Option α) (P:α->Prop):Prop:=∃ y,o=some y/\P y
theorem Ens.bind {α β:Type} {x:Option α} {f:α->Option β} {P:α->Prop} {Q:β->Prop} (h:Ens x P) (hf:∀ y,P y->Ens (f y) Q):Ens (x.bind f) Q:=by
 obtain⟨y,rfl,hy⟩:=h;exact hf y hy
theorem Ens.some {α:Type} {x:α} {P:α->Prop} (h:P x):Ens (some x) P:=⟨x,rfl,h⟩
theorem Ens.mono {α:Type} {o:Option α} {P Q:α->Prop} (h:Ens o P) (hq:∀ y,P y->Q y):Ens o Q:=by
 obtain⟨y,e,hy⟩:=h;exact⟨y,e,hq y hy⟩
theorem Ens.cond {α:Type} {c:Bool} {a b:Option α} {P:α->Prop} (ha:c=true->Ens a P) (hb:c=false->Ens b P):Ens (bif c then a else b) P:=by
 cases c with
 | true=>exact ha rfl
 | false=>exact hb rfl
theorem Ens.ite {α:Type} {c:Prop} [Decidable c] {a b:Option α} {P:α->Prop} (hc:c) (ha:Ens a P):Ens (if c then a else b) P:=by
 rw[if_pos hc]; exact ha
theorem Ens.loop {S R:Type} {G:(S->Option R)->S->Option R} (I:S->Prop) (μ:S->Nat) {P:R->Prop}
  (h:∀ (rec:S->Option R) (x:S),I x->(∀ y,I y->μ y<μ x->Ens (rec y) P)->Ens (G rec x) P) {x:S} (hx:I x) (hm:μ x<fuel):Ens (iter G fuel x) P:=by
 have key:∀ (n:Nat) (x:S),I x->μ x<n->Ens (iter G n x) P:=by
  intro n;induction n with
  | zero=>intro x _ hn; omega
  | succ n ih=>intro x hx hn; exact h (iter G n) x hx λ y hy hlt=>ih y hy (by omega)
 exact key fuel x hx hm
def big:Nat:=140737488355328
theorem cV {α R:Type} (l:List α) {G:(Int×Unit->Option R)->Int×Unit->Option R} (b:R) (hl:l.length<=1152921504606846976)
  (acT:∀ rec s,G rec ((l.length:Int),s)=some b)
  (acP:∀ rec (i:Nat) s x,l[i]?=some x->i<l.length->G rec ((i:Int),s)=rec ((i:Int)+1,s)):iter G fuel (0,())=some b:=by
 refine (Qs l (λ x s rec=>rec s) (λ s=>some b) (λ i s=>(i,s)) hl acT acP (λ x s r1 r2 hr=>hr s) ()).trans ?_;clear acT acP hl;induction l with
 | nil=>rfl
 | cons x xs ih=>rw[mF,ih]
theorem agS {α:Type} (p:α->Bool) (l:List α) {G:(Int×Unit->Option (Int×Unit))->Int×Unit->Option (Int×Unit)} (hl:l.length<=1152921504606846976)
  (acT:∀ rec s,G rec ((l.length:Int),s)=some (-1,()))
  (acP:∀ rec (i:Nat) s x,l[i]?=some x->i<l.length->G rec ((i:Int),s)=bif p x then some ((i:Int),()) else rec ((i:Int)+1,s)):
  ∃ r:Int,iter G fuel (0,())=some (r,())/\decide (r≥0)=l.any p:=by
 have key:∀ n i,i<=l.length->l.length - i<n->∃ r:Int,iter G n ((i:Int),())=some (r,())/\decide (r≥0)=(l.drop i).any p:=by
  intro n;induction n with
  | zero=>intro i h1 h2; omega
  | succ n ih=>
   intro i hi hn;rcases Nat.lt_or_ge i l.length with h|h
   ·have e1:iter G (n+1) ((i:Int),())=bif p l[i] then some ((i:Int),()) else iter G n ((i:Int)+1,()):=acP (iter G n) i () l[i] (List.getElem?_eq_getElem h) h;rw[alJ h,List.any_cons,e1];cases hp:p l[i] with
    | true=>exact⟨i,rfl,by simp⟩
    | false=>
     obtain⟨r,h1,h2⟩:=ih (i+1) h (by omega);exact⟨r,h1,by simpa using h2⟩
   ·have hi':i=l.length:=by omega
    subst hi';exact⟨-1,acT (iter G n) (),by simp⟩
 simpa using key fuel 0 (Nat.zero_le _) (by simpa using Ji hl)
theorem agQ {α:Type} (p:α->Bool) (l:List α) {G:(Int×Unit->Option (Int×Unit))->Int×Unit->Option (Int×Unit)} (hl:l.length<=1152921504606846976)
  (acT:∀ rec s,G rec ((l.length:Int),s)=some (-1,()))
  (acP:∀ rec (i:Nat) s x,l[i]?=some x->i<l.length->G rec ((i:Int),s)=bif p x then some ((i:Int),()) else rec ((i:Int)+1,s)):
  ((iter G fuel (0,())).bind λ r=>some (decide (r.1≥0),()))=some (l.any p,()):=by
 obtain⟨r,h1,h2⟩:=agS p l hl acT acP;rw[h1,alm,←h2]
theorem ub {R:Type} (l m:List Int) {G:(Int×Unit->Option R)->Int×Unit->Option R} (yes no:R) (hl:l.length<=1152921504606846976)
  (acT:∀ rec (i:Nat) s,i<=l.length->i<=m.length->(i=l.length∨i=m.length)->G rec ((i:Int),s)=some (if l.length=m.length then yes else no))
  (acP:∀ rec (i:Nat) s x y,l[i]?=some x->m[i]?=some y->i<l.length->i<m.length->G rec ((i:Int),s)=bif x != y then some no else rec ((i:Int)+1,s)):
  iter G fuel (0,())=some (if l=m then yes else no):=by
 have key:∀ n i,i<=l.length->i<=m.length->l.length - i<n->iter G n ((i:Int),())=some (if l.drop i=m.drop i then yes else no):=by
  intro n;induction n with
  | zero=>intro i h1 h2 h3; omega
  | succ n ih=>
   intro i hi hi2 hn;by_cases he:i=l.length∨i=m.length
   ·have e1:iter G (n+1) ((i:Int),())=some (if l.length=m.length then yes else no):=acT (iter G n) i () hi hi2 he;have e2:(l.drop i=m.drop i)=(l.length=m.length):=by
     apply propext;constructor
     ·intro e;have:=congrArg List.length e;simp only[alF] at this;omega
     ·intro e;rw[amX (by omega),amX (by omega)]
    simp only[e1,e2]
   ·have h:i<l.length:=by omega
    have hm:i<m.length:=by omega
    have e1:iter G (n+1) ((i:Int),())=bif l[i] != m[i] then some no else iter G n ((i:Int)+1,()):=acP (iter G n) i () l[i] m[i] (List.getElem?_eq_getElem h) (List.getElem?_eq_getElem hm) h hm;rw[e1,alJ h,alJ hm];by_cases he:l[i]=m[i]
    ·rw[he];simp only[bne_self_eq_false,aln,alQ,true_and];exact ih (i+1) h hm (by omega)
    ·have:(l[i] != m[i])=true:=by simpa using he
     rw[this,alo,if_neg (λ e=>he (List.cons.inj e).1)]
 have:=key fuel 0 (Nat.zero_le _) (Nat.zero_le _) (by simpa using Ji hl);simpa only [List.drop_zero,Int.natCast_zero] using this
theorem Yv (l:List Int) (v:Int) (h:l.length<=1152921504606846976):jD (l,v,())=some (l.any (· == v),()):=by
 unfold jD;refine (Qs l (λ x s rec=>bif x==v then some (true,()) else rec s) (λ s=>some (false,())) (λ i s=>(i,s)) h ?_ ?_ ?_ ()).trans (uG _ _)
 ·intro rec s; simp
 ·intro rec i s x hx hi;simp only[aly,zz hi,alu,alo,if_true,alD,rd,am6,hx,alZ,zx (show i<4611686018427387904 by omega)]
 ·intro x s r1 r2 hr; simp[hr]
theorem af1 (l:List Int) (v:Int) (h:l.length<=1152921504606846976):adn (l,v,())=some (l.any (v == ·),()):=by
 unfold adn adM;refine agQ (v == ·) l h ?_ ?_
 ·intro rec s; simp
 ·intro rec i s x hx hi;simp only[aly,zz hi,alu,alo,if_true,alD,rd,am6,hx,alZ,zx (show i<4611686018427387904 by omega)]
theorem adD (l:List Int) (v:Int) (h:l.length<=1152921504606846976):F6 (l,v,())=some (l.any (· == v),()):=by
 unfold F6;simp only[af1 l v h,alm];congr 2;apply congrArg (λ f=>l.any f);funext x;exact Bool.beq_comm
theorem tn (l m:List Int) (hl:l.length<=1152921504606846976):bA (l,m,())=some (decide (l=m),()):=by
 unfold bA;by_cases hlm:l.length=m.length
 ·simp only[hlm,bne_self_eq_false,aln];rw[←hlm];refine (ub l m (true,()) (false,()) hl ?_ ?_).trans (by by_cases h:l=m<;>simp[h])
  ·intro rec i s h1 h2 h3;have hnl:¬ (i:Int)<(l.length:Int):=by omega
   simp only[hlm] at hnl ⊢;simp[hnl]
  ·intro rec i s x y hx hy hi hm;simp only[aly,(zz hi).1,(zz hi).2,(zz hm).2,alu,alo,if_true,alD,rd,am6,hx,hy,alZ,zx (show i<4611686018427387904 by omega)]
 ·have h1:(((l.length:Nat):Int) != ((m.length:Nat):Int))=true:=bne_iff_ne.2 (by omega);have h2:¬ l=m:=λ h=>hlm (by rw[h]);simp[h1,h2]
theorem vR (l m:List Int) (hl:l.length<=1152921504606846976):co (l,m,())=some (decide (l=m),()):=by
 unfold co;refine (ub l m (true,()) (false,()) hl ?_ ?_).trans (by by_cases h:l=m<;>simp[h])
 ·intro rec i s h1 h2 h3;rcases Nat.lt_or_ge i l.length with h|h
  ·have hm:i=m.length:=by omega
   have hnm:¬ (i:Int)<(m.length:Int):=by omega
   have hbe:(((l.length:Nat):Int)==((m.length:Nat):Int))=false:=by simp; omega
   have hne:¬ l.length=m.length:=by omega
   simp only[zz h,hnm,alu,alx,alo,aln,hbe,if_neg hne]
  ·have hnl:¬ (i:Int)<(l.length:Int):=by omega
   simp only[hnl,alx,aln];by_cases e:l.length=m.length
   ·simp[e]
   ·have hbe:(((l.length:Nat):Int)==((m.length:Nat):Int))=false:=by simp; omega
    simp only[hbe,if_neg e]
 ·intro rec i s x y hx hy hi hm;simp only[aly,(zz hi).1,(zz hi).2,(zz hm).2,alu,alo,if_true,alD,rd,am6,hx,hy,alZ,zx (show i<4611686018427387904 by omega)]
abbrev yJ:=List UInt8×Int
def yB (d:yJ):Bool:=decide ((d.1.length:Int)<=100000) && (decide (d.2≥0) && decide (d.2<=(d.1.length:Int)))
theorem gJ (d:yJ):Lu (d,())=some (yB d,()):=by
 unfold Lu yo yB;cases h1:decide ((d.1.length:Int)<=100000)<;>cases h2:decide (d.2≥0)<;>simp[h1,h2]
theorem u6 (d:yJ):QB (d,())=some (yB d,()):=by
 unfold QB jl yB;cases h1:decide ((d.1.length:Int)<=100000)<;>cases h2:decide (d.2≥0)<;>simp[h1,h2]
theorem ky (d:yJ) (h:d.1.length<=35184372088832):KL (d,())=some (d,()):=by
 unfold KL;dsimp only;rw[if_pos (by omega)];rfl
theorem vk (d:yJ) (h:d.1.length<=35184372088832):QS (d,())=some (d,()):=by
 unfold QS;dsimp only;rw[if_pos (by omega)]
def yE (d:yJ) (b:List UInt8):yJ×Bool:=if yB d=true/\d.1.length+b.length<=100000 then ((d.1++b,d.2),true) else (d,false)
theorem aaW (d:yJ) (b:List UInt8) (h:d.1.length<=17592186044416) (hb:b.length<=17592186044416):gF (d,b,())=some ((yE d b).1,(yE d b).2,()):=by
 unfold gF yE;simp only[ky d (by omega),alm,gJ];rw[if_pos (by omega)];cases h1:yB d with
 | false=>simp
 | true=>
  simp only[alt,aln,true_and];have h2:yB (d.1++b,d.2)=decide (d.1.length+b.length<=100000):=by
   simp only[yB,alp,alz] at h1;obtain⟨g1,g2,g3⟩:=h1;by_cases h3:d.1.length+b.length<=100000
   ·simp[yB,h3,g2]; omega
   ·simp[yB,h3]; omega
  rw[h2];by_cases h3:d.1.length+b.length<=100000
  ·simp[h3]
  ·simp[h3]
theorem Sr (d:yJ) (b:List UInt8) (h:d.1.length<=17592186044416) (hb:b.length<=17592186044416):dh (d,b,())=some ((yE d b).1,(yE d b).2,()):=by
 unfold dh yE;simp only[vk d (by omega),alm,u6];rw[if_pos (by omega)];cases h1:yB d with
 | false=>simp
 | true=>
  simp only[alt,aln,true_and];rw[zg (by omega) (by omega)];by_cases h3:d.1.length+b.length<=100000
  ·have:decide ((d.1.length:Int)+b.length>100000)=false:=by simp; omega
   simp[h3,this]
  ·have:decide ((d.1.length:Int)+b.length>100000)=true:=by simp; omega
   simp[h3,this]
theorem tL (d:yJ) (b:List UInt8):(yE d b).1.1.length<=d.1.length+b.length:=by
 unfold yE;split<;>simp
theorem ZX {α:Type} {l:List α} {x:α} (f:α->Nat) (h:x∈l):f x<=(l.map f).sum:=by
 induction l with
 | nil=>cases h
 | cons y r ih=>
  simp only[alG,am1];rcases List.mem_cons.1 h with rfl|h
  ·omega
  ·have:=ih h; omega
abbrev jg:=List Int
abbrev tC:=List UInt8
abbrev zN:=Int×Int×Int×Int
abbrev JJ:=Int×List UInt8×Int
abbrev zJ:=Int×List UInt8×jg
abbrev zM:=Int×List UInt8×jg
abbrev jf:=List UInt8×zJ
abbrev zw:=Int×Int×jf×zM×zJ×Int×zN
abbrev J9:=Int×zw
abbrev cK:=Int×tC
abbrev zr:=Int×Int×zJ×List UInt8
abbrev zE:=List zN
abbrev yW:=List JJ
abbrev yg:=List zM
abbrev Zg:=List J9
abbrev jB:=List cK
abbrev zb:=Int×Int×Int×zr×zE×yg×yJ×Zg
abbrev YC:=List zb
abbrev za:=Int×Int
abbrev zO:=jg×jg
abbrev zB:=za×jg×YC×jB×yW
abbrev Jb:=Int×Int×Int×zw
def zn (x:jg):Nat:=x.length
def sZ (x:tC):Nat:=x.length
def JD (x:yJ):Nat:=x.1.length
def Qc (x:JJ):Nat:=x.2.1.length
def zi (x:zJ):Nat:=x.2.1.length+zn x.2.2
def zm (x:zM):Nat:=x.2.1.length+zn x.2.2
def zD (x:jf):Nat:=x.1.length+zi x.2
def zj (x:zw):Nat:=zD x.2.2.1+zm x.2.2.2.1+zi x.2.2.2.2.1
def Yi (x:J9):Nat:=zj x.2
def MW (x:cK):Nat:=sZ x.2
def zt (x:zr):Nat:=zi x.2.2.1+x.2.2.2.length
def Y7 (x:zE):Nat:=x.length
def LL (x:yW):Nat:=x.length+(x.map Qc).sum
def zI (x:yg):Nat:=x.length+(x.map zm).sum
def yt (x:Zg):Nat:=x.length+(x.map Yi).sum
def Qd (x:jB):Nat:=x.length+(x.map MW).sum
def zf (x:zb):Nat:=zt x.2.2.2.1+Y7 x.2.2.2.2.1+zI x.2.2.2.2.2.1+JD x.2.2.2.2.2.2.1+yt x.2.2.2.2.2.2.2
def MV (x:YC):Nat:=x.length+(x.map zf).sum
def cw (x:zO):Nat:=zn x.1+zn x.2
def Yj (x:zB):Nat:=zn x.2.1+MV x.2.2.1+Qd x.2.2.2.1+LL x.2.2.2.2
def MsgW (m:zw):Prop:=m.2.2.1.2.2.2.length<=8796093022208/\m.2.2.2.1.2.2.length<=8796093022208/\m.2.2.2.2.1.2.2.length<=8796093022208
theorem MsgW.of {m:zw} (h:zj m<=137438953472):MsgW m:=by
 simp only[zj,zD,zi,zm,zn] at h;unfold MsgW;omega
def jh (a b:zJ):Bool:=a.1==b.1 && (a.2.1==b.2.1 && decide (a.2.2=b.2.2))
theorem sh (a b:zJ) (h:a.2.2.length<=8796093022208):qv (a,b,())=some (jh a b,()):=by
 unfold qv jh;simp only[vR a.2.2 b.2.2 (by omega),alm];cases a.1==b.1<;>cases a.2.1==b.2.1<;>simp
theorem dy (a b:zJ) (h:a.2.2.length<=8796093022208):L5 (a,b,())=some (jh a b,()):=by
 unfold L5 jh;simp only[tn a.2.2 b.2.2 (by omega),alm];cases a.1==b.1<;>cases a.2.1==b.2.1<;>simp
theorem abA (a b:zJ) (h:a.2.2.length<=8796093022208):kE (a,b,())=some (jh a b,()):=by
 unfold kE jh;simp only[vR a.2.2 b.2.2 (by omega),alm];cases a.1==b.1<;>cases a.2.1==b.2.1<;>simp
theorem S1 (a b:zJ) (h:a.2.2.length<=8796093022208):dV (a,b,())=some (jh a b,()):=by
 unfold dV jh;simp only[tn a.2.2 b.2.2 (by omega),alm];cases a.1==b.1<;>cases a.2.1==b.2.1<;>simp
def YD (a b:jf):Bool:=a.1==b.1 && jh a.2 b.2
theorem aaX (a b:jf) (h:a.2.2.2.length<=8796093022208):gH (a,b,())=some (YD a b,()):=by
 unfold gH YD;simp only[sh a.2 b.2 h,alm];cases a.1==b.1<;>simp
theorem Su (a b:jf) (h:a.2.2.2.length<=8796093022208):dj (a,b,())=some (YD a b,()):=by
 unfold dj YD;simp only[dy a.2 b.2 h,alm];cases a.1==b.1<;>simp
def MQ (a b:zN):Bool:=a.1==b.1 && (a.2.1==b.2.1 && (a.2.2.1==b.2.2.1 && (a.2.2.2==b.2.2.2 && true)))
def ZF (a b:zw):Bool:=
 a.1==b.1 && (a.2.1==b.2.1 && (YD a.2.2.1 b.2.2.1 && (jh a.2.2.2.1 b.2.2.2.1 && (jh a.2.2.2.2.1 b.2.2.2.2.1 && (a.2.2.2.2.2.1==b.2.2.2.2.2.1 && MQ a.2.2.2.2.2.2 b.2.2.2.2.2.2)))))
theorem qq (a b:zw) (h:MsgW a):KF (a,b,())=some (ZF a b,()):=by
 unfold KF ZF MQ;simp only[aaX a.2.2.1 b.2.2.1 h.1,abA a.2.2.2.1 b.2.2.2.1 h.2.1,sh a.2.2.2.2.1 b.2.2.2.2.1 h.2.2,alm];cases a.1==b.1<;>cases a.2.1==b.2.1<;>cases YD a.2.2.1 b.2.2.1<;>cases jh a.2.2.2.1 b.2.2.2.1<;>cases jh a.2.2.2.2.1 b.2.2.2.2.1<;>cases a.2.2.2.2.2.1==b.2.2.2.2.2.1<;>rfl
theorem Sz (a b:zw) (h:MsgW a):dq (a,b,())=some (ZF a b,()):=by
 unfold dq ZF MQ;simp only[Su a.2.2.1 b.2.2.1 h.1,S1 a.2.2.2.1 b.2.2.2.1 h.2.1,dy a.2.2.2.2.1 b.2.2.2.2.1 h.2.2,alm];cases a.1==b.1<;>cases a.2.1==b.2.1<;>cases YD a.2.2.1 b.2.2.1<;>cases jh a.2.2.2.1 b.2.2.2.1<;>cases jh a.2.2.2.2.1 b.2.2.2.2.1<;>cases a.2.2.2.2.2.1==b.2.2.2.2.2.1<;>rfl
theorem DX (l:List JJ) (view:Int) (name:List UInt8) (who:Int) (h:l.length<=1152921504606846976):
  cg (l,view,name,who,())=some (l.any (λ x=>x.1==view && (x.2.1==name && x.2.2==who)),()):=by
 unfold cg;refine (Qs l (λ x s rec=>bif (x.1==view && (x.2.1==name && x.2.2==who)) then some (true,()) else rec s) (λ s=>some (false,())) (λ i s=>(i,s)) h ?_ ?_ ?_ ()).trans (uG _ _)
 ·intro rec s; simp
 ·intro rec i s x hx hi;simp only[aly,zz hi,alu,alo,if_true,alD,rd,am6,hx,alZ,zx (show i<4611686018427387904 by omega)];cases x.1==view<;>cases x.2.1==name<;>cases x.2.2==who<;>rfl
 ·intro x s r1 r2 hr; simp[hr]
def signed (liars:List Int) (list:List JJ) (view:Int) (name:List UInt8) (who:List Int):Bool:=
 who.all λ i=>liars.any (· == i) || list.any (λ x=>x.1==view && (x.2.1==name && x.2.2==i))
theorem ss (liars:List Int) (list:List JJ) (view:Int) (name:List UInt8) (who:List Int) (h1:liars.length<=1152921504606846976) (h2:list.length<=1152921504606846976) (h3:who.length<=1152921504606846976):
  qC (liars,list,view,name,who,())=some (signed liars list view name who,()):=by
 unfold qC;refine (Qs who (λ x s rec=>bif (liars.any (· == x) || list.any (λ y=>y.1==view && (y.2.1==name && y.2.2==x))) then rec s else some (false,())) (λ s=>some (true,())) (λ i s=>(i,s)) h3 ?_ ?_ ?_ ()).trans (uF _ _)
 ·intro rec s; simp
 ·intro rec i s x hx hi;simp only[aly,zz hi,alu,alo,if_true,alD,rd,am6,hx,alZ,zx (show i<4611686018427387904 by omega),Yv liars x h1,DX list view name x h2,alm];cases liars.any (· == x)<;>cases list.any (λ y=>y.1==view && (y.2.1==name && y.2.2==x))<;>rfl
 ·intro x s r1 r2 hr; simp[hr]
def YY (m:zw):zM:=if m.1=2 then m.2.2.2.1 else if m.1=1 then (m.2.2.1.2.1,m.2.2.1.2.2.1,m.2.2.1.2.2.2) else (m.2.2.2.2.1.1,m.2.2.2.2.1.2.1,m.2.2.2.2.1.2.2)
def YX (id:Int) (m:zw):yW:=if m.1=4 then [] else if (YY m).2.1=[] then [] else if (YY m).2.2.any (· == id) then [((YY m).1,(YY m).2.1,id)] else []
theorem abl (id:Int) (m:zw) (h:MsgW m):kf (id,m,())=some (YX id m,()):=by
 obtain⟨h1,h2,h3⟩:=h;unfold kf YX YY;simp only[Yv _ _ (show m.2.2.1.2.2.2.length<=1152921504606846976 by omega),Yv _ _ (show m.2.2.2.1.2.2.length<=1152921504606846976 by omega),Yv _ _ (show m.2.2.2.2.1.2.2.length<=1152921504606846976 by omega),alm];by_cases c2:m.1=2
 ·simp only[c2,if_true,show ¬ (2:Int)=4 by decide,if_false,show ((2:Int)==2)=true from rfl,show ((2:Int)==4)=false from rfl,alo,aln];by_cases e:m.2.2.2.1.2.1=[]
  ·simp[e]
  ·have:(m.2.2.2.1.2.1==[])=false:=by simp[e]
   simp only[this,e,aln,if_false];cases m.2.2.2.1.2.2.any (· == id)<;>simp
 ·by_cases c1:m.1=1
  ·simp only[c1,show ¬ (1:Int)=2 by decide,if_true,show ¬ (1:Int)=4 by decide,if_false,show ((1:Int)==2)=false from rfl,show ((1:Int)==1)=true from rfl,show ((1:Int)==4)=false from rfl,alo,aln];by_cases e:m.2.2.1.2.2.1=[]
   ·simp[e]
   ·have:(m.2.2.1.2.2.1==[])=false:=by simp[e]
    simp only[this,e,aln,if_false];cases m.2.2.1.2.2.2.any (· == id)<;>simp
  ·have e2:(m.1==2)=false:=by simp[c2]
   have e1:(m.1==1)=false:=by simp[c1]
   simp only[e2,e1,c2,c1,aln,if_false];by_cases c4:m.1=4
   ·simp[c4]
   ·have e4:(m.1==4)=false:=by simp[c4]
    simp only[e4,c4,aln,if_false];by_cases e:m.2.2.2.2.1.2.1=[]
    ·simp[e]
    ·have:(m.2.2.2.2.1.2.1==[])=false:=by simp[e]
     simp only[this,e,aln,if_false];cases m.2.2.2.2.1.2.2.any (· == id)<;>simp
theorem X2 (id:Int) (m:zw):LL (YX id m)<=1+zj m:=by
 unfold YX YY;repeat' split
 all_goals simp only[LL,Qc,zj,zD,zi,zm,zn,als,am8,List.sum_nil,alr,alG,am1]
 all_goals omega
theorem Rt {β R:Type} (p:Nat->Bool) (g:Nat->β) (n:Nat) (hn:n<=1152921504606846976) (k:List β->Option R) {G:(List β×Int×Unit->Option R)->List β×Int×Unit->Option R}
  (acT:∀ rec out,G rec (out,(n:Int),())=k out)
  (acP:∀ rec (i:Nat) out,i<n->out.length<=i->G rec (out,(i:Int),())=rec (if p i=true then out++[g i] else out,(i:Int)+1,())):
  iter G fuel ([],0,())=k (((List.range n).filter p).map g):=by
 have key:∀ (m i:Nat) (out:List β),i<=n->n - i<m->out.length<=i->iter G m (out,(i:Int),())=k (out++((List.range' i (n - i)).filter p).map g):=by
  intro m;induction m with
  | zero=>intro i out h1 h2 h3; omega
  | succ m ih=>
   intro i out h1 h2 h3;rcases Nat.lt_or_ge i n with h|h
   ·have e1:iter G (m+1) (out,(i:Int),())=iter G m (if p i=true then out++[g i] else out,(i:Int)+1,()):=acP (iter G m) i out h h3;have e2:=ih (i+1) (if p i=true then out++[g i] else out) h (by omega) (by
     split
     ·simp only[alv,alr,als]; omega
     ·omega)
    rw[e1];refine Eq.trans (by rfl) (e2.trans ?_);have e3:n - i=(n - (i+1))+1:=by omega
    rw[e3,List.range'_succ];cases hp:p i<;>simp[hp]
   ·have hi:i=n:=by omega
    subst hi;have e1:iter G (m+1) (out,(i:Int),())=k out:=acT (iter G m) out;rw[e1];simp
 have:=key fuel 0 [] (Nat.zero_le _) (by have:=Ji hn; omega) (by simp)
 simpa[List.range_eq_range'] using this
def Z5 (w:zB):List Int:=((List.range w.2.2.1.length).filter λ (i:Nat) => !(w.2.1.any (· == (i:Int)))).map λ (i:Nat)=>(i:Int)
theorem Dz (w:zB) (h1:w.2.1.length<=137438953472) (h2:w.2.2.1.length<=137438953472):qm (w,())=some (Z5 w,()):=by
 unfold qm Z5;refine Rt (λ (i:Nat) => !(w.2.1.any (· == (i:Int)))) (λ (i:Nat)=>(i:Int)) w.2.2.1.length (by omega) (λ out=>some (out,())) ?_ ?_
 ·intro rec out; simp
 ·intro rec i out hi ho;have hg:((i:Int)<(w.2.2.1.length:Nat)):=by omega
  simp only[hg,alu,alo,Yv _ _ (show w.2.1.length<=1152921504606846976 by omega),alm,zx (show i<4611686018427387904 by omega),alr,als];rw[if_pos (by omega)];cases w.2.1.any (· == (i:Int))<;>simp
theorem Sp (w:zB):(Z5 w).length<=w.2.2.1.length:=by
 unfold Z5;rw[amc];exact Nat.le_trans (List.length_filter_le _ _) (by simp)
theorem Np {α S St R:Type} (enc:Int->S->St) (l:List α) (f:S->α->S) (k:S->Option R) {G:(St->Option R)->St->Option R} (hl:l.length<=1152921504606846976) (I:Nat->S->Prop)
  (acT:∀ rec s,I l.length s->G rec (enc (l.length:Int) s)=k s)
  (acP:∀ rec (i:Nat) s x,l[i]?=some x->i<l.length->I i s->I (i+1) (f s x)/\G rec (enc (i:Int) s)=rec (enc ((i:Int)+1) (f s x))) {s0:S} (h0:I 0 s0):
  iter G fuel (enc 0 s0)=k (l.foldl f s0):=by
 have key:∀ (m i:Nat) (s:S),i<=l.length->l.length - i<m->I i s->iter G m (enc (i:Int) s)=k ((l.drop i).foldl f s):=by
  intro m;induction m with
  | zero=>intro i s h1 h2 h3; omega
  | succ m ih=>
   intro i s h1 h2 h3;rcases Nat.lt_or_ge i l.length with h|h
   ·obtain⟨g1,g2⟩:=acP (iter G m) i s l[i] (List.getElem?_eq_getElem h) h h3;have e1:iter G (m+1) (enc (i:Int) s)=iter G m (enc ((i:Int)+1) (f s l[i])):=g2;rw[e1,alJ h,ama];exact ih (i+1) _ h (by omega) g1
   ·have hi:i=l.length:=by omega
    subst hi;have e1:iter G (m+1) (enc (l.length:Int) s)=k s:=acT (iter G m) s h3;rw[e1]; simp
 have:=key fuel 0 s0 (Nat.zero_le _) (by have:=Ji hl; omega) h0
 simpa using this
theorem R8 {α S:Type} (l:List α) (f:S->α->S) (I:Nat->S->Prop) (acP:∀ (i:Nat) s x,l[i]?=some x->i<l.length->I i s->I (i+1) (f s x)) {s0:S} (h0:I 0 s0):I l.length (l.foldl f s0):=by
 have key:∀ (n i:Nat) (s:S),l.length - i=n->i<=l.length->I i s->I l.length ((l.drop i).foldl f s):=by
  intro n;induction n with
  | zero=>
       intro i s h1 h2 h3; have:i=l.length:=by omega
       subst this; simpa using h3
  | succ n ih=>
   intro i s h1 h2 h3;have h:i<l.length:=by omega
   rw[alJ h,ama];exact ih (i+1) _ (by omega) h (acP i s l[i] (List.getElem?_eq_getElem h) h h3)
 simpa using key l.length 0 s0 (by simp) (Nat.zero_le _) h0
theorem uJ {α:Type}:∀ (l out:List α),l.foldl (λ out x=>out++[x]) out=out++l
 | [],out=>by simp
 | x::l,out=>by rw[ama,uJ l]; simp
theorem Nb {α St R:Type} (enc:Int->List α->St) (l:List α) (k:List α->Option R) {G:(St->Option R)->St->Option R} (hl:l.length<=1152921504606846976)
  (acT:∀ rec s,s.length=l.length->G rec (enc (l.length:Int) s)=k s)
  (acP:∀ rec (i:Nat) s x,l[i]?=some x->i<l.length->s.length=i->G rec (enc (i:Int) s)=rec (enc ((i:Int)+1) (s++[x]))):
  iter G fuel (enc 0 [])=k l:=by
 have:=Np enc l (λ out x=>out++[x]) k hl (λ i s=>s.length=i) acT (λ rec i s x hx hi h=>⟨by simp[h],acP rec i s x hx hi h⟩) (s0:=[]) rfl;rw[this,uJ]; simp
theorem ML (x:zJ) (hw:zi x<=137438953472):Jy (x,())=some (x,()):=by
 unfold Jy;dsimp only;have:x.2.2.length<=137438953472:=by simp only[zi,zn] at hw; omega
 rw[if_pos (by omega)]; rfl
theorem MG (x:zM) (hw:zm x<=137438953472):J1 (x,())=some (x,()):=by
 unfold J1;dsimp only;have:x.2.2.length<=137438953472:=by simp only[zm,zn] at hw; omega
 rw[if_pos (by omega)]; rfl
theorem b8 (x:zr) (hw:zt x<=137438953472):LA (x,())=some (x,()):=by
 unfold LA;simp only[ML x.2.2.1 (by simp only[zt] at hw; omega),Option.bind_some]
theorem abH (x:jf) (hw:zD x<=137438953472):ln (x,())=some (x,()):=by
 unfold ln;simp only[ML x.2 (by simp only[zD] at hw; omega),Option.bind_some]
theorem DV (x:zw) (hw:zj x<=137438953472):cd (x,())=some (x,()):=by
 unfold cd;simp only[zj] at hw;simp only[abH x.2.2.1 (by omega),MG x.2.2.2.1 (by omega),ML x.2.2.2.2.1 (by omega),alm]
theorem DS (x:yg) (hw:zI x<=137438953472):J2 (x,())=some (x,()):=by
 have hl:x.length<=137438953472:=by unfold zI at hw; omega
 unfold J2;refine Nb (λ i s=>(s,i,())) x (λ s=>some (s,())) (by omega) ?_ ?_
 ·intro rec s hs; simp
 ·intro rec i s y hx hi hs;have hy:zm y<=137438953472:=by have:=ZX zm (List.mem_of_getElem? hx); unfold zI at hw; omega
  simp only[aly,zz hi,alu,alo,if_true,alD,zu (e:=(.pair .i64 (.pair .str (.sl 0 .i64)))) hx,MG y hy,alm,zx (show i<4611686018427387904 by omega),alr,als];rw[if_pos (by omega)]
theorem DW (x:Zg) (hw:yt x<=137438953472):ce (x,())=some (x,()):=by
 have hl:x.length<=137438953472:=by unfold yt at hw; omega
 unfold ce;refine Nb (λ i s=>(s,i,())) x (λ s=>some (s,())) (by omega) ?_ ?_
 ·intro rec s hs; simp
 ·intro rec i s y hx hi hs;have hy:zj y.2<=137438953472:=by have:=ZX Yi (List.mem_of_getElem? hx); simp only[Yi] at this; unfold yt at hw; omega
  simp only[aly,zz hi,alu,alo,if_true,alD,zu (e:=(.pair .i64 (.pair .i64 (.pair .i64 (.pair (.pair .str (.pair .i64 (.pair .str (.sl 0 .i64)))) (.pair (.pair .i64 (.pair .str (.sl 0 .i64))) (.pair (.pair .i64 (.pair .str (.sl 0 .i64))) (.pair .i64 (.pair .i64 (.pair .i64 (.pair .i64 .i64))))))))))) hx,DV y.2 hy,alm,zx (show i<4611686018427387904 by omega),alr,als];rw[if_pos (by omega)]
theorem Zw (x:zb) (hw:zf x<=137438953472):yv (x,())=some (x,()):=by
 unfold yv;simp only[zf,Y7,JD] at hw;simp only[b8 x.2.2.2.1 (by omega),DS x.2.2.2.2.2.1 (by omega),ky x.2.2.2.2.2.2.1 (by omega),DW x.2.2.2.2.2.2.2 (by omega),alm];rw[if_pos (by omega)]; rfl
theorem dO (x:jg) (hw:x.length<=137438953472):L6 (x,())=some (x,()):=by
 unfold L6;dsimp only;rw[if_pos (by omega)]
theorem mT (x:zJ) (hw:zi x<=137438953472):NB (x,())=some (x,()):=by
 unfold NB;simp only[dO x.2.2 (by simp only[zi,zn] at hw; omega),Option.bind_some]
theorem vn (x:zM) (hw:zm x<=137438953472):QT (x,())=some (x,()):=by
 unfold QT;simp only[dO x.2.2 (by simp only[zm,zn] at hw; omega),Option.bind_some]
theorem vp (x:zr) (hw:zt x<=137438953472):QU (x,())=some (x,()):=by
 unfold QU;simp only[mT x.2.2.1 (by simp only[zt] at hw; omega),Option.bind_some]
theorem SZ (x:zE) (hw:Y7 x<=137438953472):dS (x,())=some (x,()):=by
 unfold dS;dsimp only;simp only[Y7] at hw;rw[if_pos (by omega)]
theorem SV (x:jf) (hw:zD x<=137438953472):dN (x,())=some (x,()):=by
 unfold dN;simp only[mT x.2 (by simp only[zD] at hw; omega),Option.bind_some]
theorem SW (x:zw) (hw:zj x<=137438953472):dP (x,())=some (x,()):=by
 unfold dP;simp only[zj] at hw;simp only[SV x.2.2.1 (by omega),vn x.2.2.2.1 (by omega),mT x.2.2.2.2.1 (by omega),alm]
theorem SY (x:yg) (hw:zI x<=137438953472):dR (x,())=some (x,()):=by
 have hl:x.length<=137438953472:=by unfold zI at hw; omega
 unfold dR;refine Nb (λ i s=>(s,i,())) x (λ s=>some (s,())) (by omega) ?_ ?_
 ·intro rec s hs; simp
 ·intro rec i s y hx hi hs;have hy:zm y<=137438953472:=by have:=ZX zm (List.mem_of_getElem? hx); unfold zI at hw; omega
  simp only[aly,zz hi,alu,alo,if_true,alD,zu (e:=(.pair .i64 (.pair .str (.sl 0 .i64)))) hx,vn y hy,alm,zx (show i<4611686018427387904 by omega),alr,als];rw[if_pos (by omega)]
theorem SX (x:Zg) (hw:yt x<=137438953472):dQ (x,())=some (x,()):=by
 have hl:x.length<=137438953472:=by unfold yt at hw; omega
 unfold dQ;refine Nb (λ i s=>(s,i,())) x (λ s=>some (s,())) (by omega) ?_ ?_
 ·intro rec s hs; simp
 ·intro rec i s y hx hi hs;have hy:zj y.2<=137438953472:=by have:=ZX Yi (List.mem_of_getElem? hx); simp only[Yi] at this; unfold yt at hw; omega
  simp only[aly,zz hi,alu,alo,if_true,alD,zu (e:=(.pair .i64 (.pair .i64 (.pair .i64 (.pair (.pair .str (.pair .i64 (.pair .str (.sl 0 .i64)))) (.pair (.pair .i64 (.pair .str (.sl 0 .i64))) (.pair (.pair .i64 (.pair .str (.sl 0 .i64))) (.pair .i64 (.pair .i64 (.pair .i64 (.pair .i64 .i64))))))))))) hx,SW y.2 hy,alm,zx (show i<4611686018427387904 by omega),alr,als];rw[if_pos (by omega)]
theorem vo (x:zb) (hw:zf x<=137438953472):L7 (x,())=some (x,()):=by
 unfold L7;simp only[zf] at hw;have h5:x.2.2.2.2.2.2.1.1.length<=137438953472:=by simp only[JD] at hw; omega
 simp only[vp x.2.2.2.1 (by omega),SZ x.2.2.2.2.1 (by omega),SY x.2.2.2.2.2.1 (by omega),vk x.2.2.2.2.2.2.1 (by omega),SX x.2.2.2.2.2.2.2 (by omega),alm]
theorem abF (w:zB) (hw:Yj w<=137438953472):kK (w,())=some (w,()):=by
 have hr:MV w.2.2.1<=137438953472:=by simp only[Yj] at hw; omega
 have hs:Qd w.2.2.2.1<=137438953472:=by simp only[Yj] at hw; omega
 have h1:w.2.1.length<=137438953472:=by simp only[Yj,zn] at hw; omega
 have h2:w.2.2.2.2.length<=137438953472:=by simp only[Yj,LL] at hw; omega
 have h3:w.2.2.1.length<=137438953472:=by unfold MV at hr; omega
 have h4:w.2.2.2.1.length<=137438953472:=by unfold Qd at hs; omega
 unfold kK;dsimp only;rw[if_pos (by omega),if_pos (by omega)];refine (Nb (λ i (s:YC)=>(i,(w.1,[]++w.2.1,s,[],[]++w.2.2.2.2),())) w.2.2.1 (λ s=>some ((w.1,[]++w.2.1,s,w.2.2.2.1,[]++w.2.2.2.2),())) (by omega) ?_ ?_).trans (by simp)
 ·intro rec s hs';simp only[alS,alx,aln];refine Nb (λ i (t:jB)=>(i,(w.1,[]++w.2.1,s,t,[]++w.2.2.2.2),())) w.2.2.2.1 (λ t=>some ((w.1,[]++w.2.1,s,t,[]++w.2.2.2.2),())) (by omega) ?_ ?_
  ·intro rec t ht; simp
  ·intro rec i t y hx hi ht;have hy:MW y<=137438953472:=by have:=ZX MW (List.mem_of_getElem? hx); unfold Qd at hs; omega
   simp only[MW,sZ] at hy;simp only[aly,zz hi,alu,alo,if_true,alD,zu (e:=(.pair .i64 (.sl 0 .u8))) hx,zx (show i<4611686018427387904 by omega),alr,als];rw[if_pos (by omega),if_pos (by omega)];rfl
 ·intro rec i s y hx hi hs';have hy:zf y<=137438953472:=by have:=ZX zf (List.mem_of_getElem? hx); unfold MV at hr; omega
  simp only[aly,zz hi,alu,alo,if_true,alD,zu (e:=(.pair .i64 (.pair .i64 (.pair .i64 (.pair (.pair .i64 (.pair .i64 (.pair (.pair .i64 (.pair .str (.sl 0 .i64))) .str))) (.pair (.sl 0 (.pair .i64 (.pair .i64 (.pair .i64 .i64)))) (.pair (.sl 0 (.pair .i64 (.pair .str (.sl 0 .i64)))) (.pair (.pair (.sl 0 .u8) .i64) (.sl 0 (.pair .i64 (.pair .i64 (.pair .i64 (.pair (.pair .str (.pair .i64 (.pair .str (.sl 0 .i64)))) (.pair (.pair .i64 (.pair .str (.sl 0 .i64))) (.pair (.pair .i64 (.pair .str (.sl 0 .i64))) (.pair .i64 (.pair .i64 (.pair .i64 (.pair .i64 .i64))))))))))))))))))) hx,Zw y hy,alm,zx (show i<4611686018427387904 by omega),alr,als];rw[if_pos (by omega)]
end G448
namespace G448
open Ev Go
theorem EB {S X R:Type} (n:Nat) {G:(X->Option R)->X->Option R} (mk:Int->S->X) (I:Nat->S->Prop) (f:Nat->S->Option R) (hn:n<=1152921504606846976)
  (acT:∀ rec s,I n s->G rec (mk (n:Int) s)=f n s)
  (acP:∀ rec (i:Nat) s,i<n->I i s->(G rec (mk (i:Int) s)=f i s)∨∃ s',I (i+1) s'/\G rec (mk (i:Int) s)=rec (mk ((i:Int)+1) s')/\f i s=f (i+1) s') {s0:S} (i0:Nat) (hi0:i0<=n) (h0:I i0 s0):
  iter G fuel (mk (i0:Int) s0)=f i0 s0:=by
 have key:∀ (m i:Nat) (s:S),i<=n->n - i<m->I i s->iter G m (mk (i:Int) s)=f i s:=by
  intro m;induction m with
  | zero=>intro i s h1 h2 h3; omega
  | succ m ih=>
   intro i s h1 h2 h3;rcases Nat.lt_or_ge i n with h|h
   ·rcases acP (iter G m) i s h h3 with g|⟨s',g1,g2,g3⟩
    ·exact g
    ·rw[g3];have e1:iter G (m+1) (mk (i:Int) s)=iter G m (mk ((i:Int)+1) s'):=g2;rw[e1];exact ih (i+1) s' h (by omega) g1
   ·have hi:i=n:=by omega
    subst hi;exact acT (iter G m) s h3
 exact key fuel i0 s0 hi0 (by have:=Ji hn; omega) h0
theorem walk {S X R:Type} (n:Nat) {G:(X->Option R)->X->Option R} (mk:Int->S->X) (I:Nat->S->Prop) (f:Nat->S->Option R) (hn:n<=1152921504606846976)
  (acT:∀ rec s,I n s->G rec (mk (n:Int) s)=f n s)
  (acP:∀ rec (i:Nat) s,i<n->I i s->(G rec (mk (i:Int) s)=f i s)∨∃ s',I (i+1) s'/\G rec (mk (i:Int) s)=rec (mk ((i:Int)+1) s')/\f i s=f (i+1) s') {s0:S} (h0:I 0 s0):
  iter G fuel (mk 0 s0)=f 0 s0:=EB n mk I f hn acT acP 0 (Nat.zero_le _) h0
def glue (u:List UInt8):List (List UInt8)->List (List UInt8)
 | p::r=>(u++p)::r
 | []=>[u]
def zS (c:UInt8):List UInt8->List (List UInt8)
 | []=>[[]]
 | x::l=>if x=c then []::zS c l else glue [x] (zS c l)
theorem YQ (c:UInt8):∀ s,zS c s≠[]
 | []=>by simp[zS]
 | x::l=>by
  simp only[zS];split
  ·simp
  ·cases zS c l<;>simp[glue]
theorem Si (u v:List UInt8) {l:List (List UInt8)} (h:l≠[]):glue u (glue v l)=glue (u++v) l:=by
 cases l with
 | nil=>exact absurd rfl h
 | cons p r=>simp[glue]
theorem uR {l:List (List UInt8)} (h:l≠[]):glue [] l=l:=by
 cases l with
 | nil=>exact absurd rfl h
 | cons p r=>simp[glue]
theorem pp (c:UInt8):∀ s,c∉s->zS c s=[s]
 | [],_=>rfl
 | x::l,h=>by
  simp only[alH,not_or] at h;simp only[zS,if_neg (Ne.symm h.1),pp c l h.2,glue,List.singleton_append]
theorem Bl (c:UInt8) (post:List UInt8):∀ pre,c∉pre->zS c (pre++c::post)=pre::zS c post
 | [],_=>by simp[zS]
 | x::l,h=>by
  simp only[alH,not_or] at h;simp only[amj,zS,if_neg (Ne.symm h.1),Bl c post l h.2,glue,alL]
theorem aO (c:UInt8):∀ s,(zS c s).length<=s.length+1
 | []=>by simp[zS]
 | x::l=>by
  have:=aO c l;simp only[zS];split
  ·simp; omega
  ·cases hp:zS c l with
   | nil=>simp[glue]
   | cons p r=>rw[hp] at this; simp[glue] at this ⊢; omega
def yL (c:UInt8):List UInt8->Option (List UInt8×List UInt8)
 | []=>none
 | x::l=>if x=c then some ([],l) else (yL c l).map λ p=>(x::p.1,p.2)
theorem uh (c:UInt8):∀ s,c∉s->yL c s=none
 | [],_=>rfl
 | x::l,h=>by
  simp only[alH,not_or] at h;simp only[yL,if_neg (Ne.symm h.1),uh c l h.2,Option.map_none]
theorem Qn (c:UInt8) (post:List UInt8):∀ pre,c∉pre->yL c (pre++c::post)=some (pre,post)
 | [],_=>by simp[yL]
 | x::l,h=>by
  simp only[alH,not_or] at h;simp only[amj,yL,if_neg (Ne.symm h.1),Qn c post l h.2,am4]
theorem mr (c:UInt8):∀ {s p q},yL c s=some (p,q)->p.length+q.length+1=s.length/\s=p++c::q
 | [],p,q,h=>by cases h
 | x::l,p,q,h=>by
  simp only[yL] at h;split at h
  ·next e=>cases h; subst e; simp
  ·obtain⟨⟨p',q'⟩,h1,h2⟩:=Option.map_eq_some_iff.1 h;cases h2;obtain⟨g1,g2⟩:=mr c h1;exact⟨by simp; omega,by rw[g2]; simp⟩
theorem tT (c:UInt8) (s:List UInt8):(c∉s/\Lib.indexByte s c = -1)∨∃ pre post,s=pre++c::post/\c∉pre/\Lib.indexByte s c=(pre.length:Int):=by
 rcases Int.lt_or_le (Lib.indexByte s c) 0 with h|h
 ·have e:Lib.indexByte s c = -1:=by
   have:=Lib.index_ge s [c];rw[Lib.index_one] at this;omega
  left;refine⟨λ hm => ?_,e⟩;obtain⟨k,hk⟩:=List.getElem?_of_mem hm;exact Lib.indexByte_none e k hk
 ·right;obtain⟨o,ho⟩:∃ o:Nat,Lib.indexByte s c=(o:Int):=⟨(Lib.indexByte s c).toNat,by omega⟩
  obtain⟨h1,h2⟩:=Lib.indexByte_some ho;have hlt:o<s.length:=by
   rcases Nat.lt_or_ge o s.length with h'|h'
   ·exact h'
   ·rw[alO h'] at h1; cases h1
  refine⟨s.take o,s.drop (o+1),?_,?_,by rw[ho]; simp; omega⟩
  ·have e:s[o]=c:=by rw[am5 hlt] at h1; exact Option.some.inj h1
   rw[←e,←alJ hlt,amL]
  ·intro hm;obtain⟨k,hk⟩:=List.getElem?_of_mem hm;rw[amy] at hk;split at hk
   ·exact h2 k (by assumption) hk
   ·cases hk
theorem D3 (c:UInt8):∀ (k:Nat) (s:List UInt8),s.count c<=k->Lib.splitK [c] 0 k s=zS c s
 | 0,s,h=>by
  have:c∉s:=λ hm=>by have:=List.count_pos_iff.2 hm; omega
  rw[pp c s this]; rfl
 | k+1,s,h=>by
  unfold Lib.splitK;rw[Lib.index_one];rcases tT c s with⟨h1,h2⟩|⟨pre,post,rfl,h1,h2⟩
  ·rw[h2,pp c s h1]; rfl
  ·rw[h2,Bl c post pre h1];have e:((pre.length:Int) == -1)=false:=by simp
   rw[e];have hd:(pre++c::post).drop ((pre.length:Int).toNat+[c].length)=post:=by
    rw[aly,anB,←alY]; simp
   have ht:(pre++c::post).take ((pre.length:Int).toNat+0)=pre:=by simp
   simp only[alM,if_false];rw[hd,ht,D3 c k post (by simp[List.count_append,List.count_cons] at h; omega)]
theorem Um (c:UInt8) (s:List UInt8):Lib.split s [c]=zS c s:=by
 unfold Lib.split;refine D3 c _ s ?_;rw[Lib.count_one];exact Nat.le_refl _
theorem Ul (c:UInt8) (s:List UInt8):Lib.cut s [c]=match yL c s with|some p=>(p.1,p.2,true)|none=>(s,[],false):=by
 unfold Lib.cut;rw[Lib.index_one];rcases tT c s with⟨h1,h2⟩|⟨pre,post,rfl,h1,h2⟩
 ·rw[h2,uh c s h1,if_neg (by decide)]
 ·rw[h2,Qn c post pre h1,if_pos (by omega)];have hd:(pre++c::post).drop ((pre.length:Int).toNat+[c].length)=post:=by
   rw[aly,anB,←alY]; simp
  have ht:(pre++c::post).take ((pre.length:Int).toNat)=pre:=by simp
  rw[hd,ht]
theorem c9 {s:List UInt8} {i:Nat} {x:UInt8} (h:s[i]?=some x):s.getD i 0=x:=by rw[am6,h]; rfl
theorem aad {s:List UInt8} {start i:Nat} (h:start<=i) (hi:i<s.length):(s.drop start).take (i+1 - start)=(s.drop start).take (i - start)++[s[i]]:=by
 rw[show i+1 - start=(i - start)+1 by omega,amK];congr 1;rw[amp,show start+(i - start)=i by omega,am5 hi]; rfl
theorem DJ (s:List UInt8) (c:UInt8) (hs:s.length<=137438953472):bQ (s,c,())=some (zS c s,()):=by
 unfold bQ;dsimp only;refine (walk (s.length+1) (λ i (t:List (List UInt8)×Nat)=>(t.1,(t.2:Int),i,())) (λ i t=>t.2<=i/\t.1.length<=i)
  (λ i t=>some (if i<=s.length then t.1++glue ((s.drop t.2).take (i - t.2)) (zS c (s.drop i)) else t.1,())) (by omega) ?_ ?_ (s0:=([],0)) ⟨Nat.le_refl _,Nat.zero_le _⟩).trans ?_
 ·intro rec t ht;have:¬ (((s.length+1:Nat):Int)<=(s.length:Int)):=by omega
  simp only[this,alx,aln];rw[if_neg (by omega)]
 ·intro rec i t hi ht;right;obtain⟨h1,h2⟩:=ht;have g:((i:Int)<=(s.length:Int)):=by omega
  by_cases he:i=s.length
  ·subst he;refine⟨(t.1++[(s.drop t.2).take (s.length - t.2)],s.length+1),⟨Nat.le_refl _,by simp; omega⟩,?_,?_⟩
   ·simp only[g,alu,alo,beq_self_eq_true,aly,zx (show s.length<4611686018427387904 by omega),alr,als];rw[if_pos (by first|omega|(simp only[true_and,and_true]; omega)),if_pos (by first|omega|(simp only[true_and,and_true]; omega))]
    rfl
   ·rw[if_pos (amm _),if_neg (by omega)]; simp[zS,glue]
  ·have hlt:i<s.length:=by omega
   have hx:s[i]?=some s[i]:=List.getElem?_eq_getElem hlt;have e1:((i:Int)==(s.length:Int))=false:=by simp; omega
   have g2:(0:Int)<=(i:Int)/\(i:Int)<(s.length:Int):=by omega
   simp only[g,alu,alo,e1,aln,g2,alD,if_true,aly,c9 hx,zx (show i<4611686018427387904 by omega),alr,als];by_cases hc:s[i]=c
   ·refine⟨(t.1++[(s.drop t.2).take (i - t.2)],i+1),⟨Nat.le_refl _,by simp; omega⟩,?_,?_⟩
    ·have:(s[i]==c)=true:=by simp[hc]
     simp only[this,alo];rw[if_pos (by first|omega|(simp only[true_and,and_true]; omega)),if_pos (by first|omega|(simp only[true_and,and_true]; omega))]
     rfl
    ·rw[if_pos (by omega),if_pos (by omega),alJ hlt,zS,if_pos hc];simp only[Nat.sub_self,List.take_zero,uR (YQ _ _)];simp[glue]
   ·refine⟨t,⟨by omega,by omega⟩,?_,?_⟩
    ·have:(s[i]==c)=false:=by simp[hc]
     simp only[this,aln]
    ·rw[if_pos (by omega),if_pos (by omega),aad h1 hlt,alJ hlt,zS,if_neg hc,Si _ _ (YQ _ _)]
 ·simp[uR (YQ _ _)]
theorem vi (s:List UInt8) (c:UInt8) (hs:s.length<=1073741824):QM (s,c,())=some (zS c s,()):=by
 unfold QM strings_Split;dsimp only;rw[if_pos ⟨by omega,by simp⟩,Um]; rfl
theorem abG (s:List UInt8) (c:UInt8) (hs:s.length<=137438953472):
  LD (s,c,())=match yL c s with|some p=>some (p.1,p.2,true,())|none=>some ([],[],false,()):=by
 unfold LD;dsimp only;refine (walk s.length (λ i (_:Unit)=>(i,())) (λ _ _=>True) (λ i _=>match yL c (s.drop i) with|some p=>some (s.take i++p.1,p.2,true,())|none=>some ([],[],false,())) (by omega) ?_ ?_ (s0:=()) trivial).trans ?_
 ·intro rec t ht;simp[yL]
 ·intro rec i t hi ht;have hx:s[i]?=some s[i]:=List.getElem?_eq_getElem hi;simp only[zz hi,alu,alo,alD,if_true,aly,c9 hx,zx (show i<4611686018427387904 by omega)];rw[alJ hi];by_cases hc:s[i]=c
  ·left;have:(s[i]==c)=true:=by simp[hc]
   simp only[this,alo];rw[if_pos (by first|omega|(simp only[true_and,and_true]; omega)),if_pos (by first|omega|(simp only[true_and,and_true]; omega))]
   simp only[yL,if_pos hc];congr 2
   ·simp
   ·congr 1;have:(((i:Int)+1).toNat)=i+1:=by omega
    rw[this,amr (by simp)]
  ·right;have:(s[i]==c)=false:=by simp[hc]
   refine⟨(),trivial,by simp only[this,aln],?_⟩;simp only[yL,if_neg hc];rw[amK,hx];cases yL c (s.drop (i+1)) with
   | none=>rfl
   | some p=>simp only[am4,Option.toList_some,alW,List.singleton_append]
 ·simp
theorem Yw (x lo hi:Int):yo (x,lo,hi,())=some (decide (x≥lo) && decide (x<=hi),()):=by
 unfold yo;by_cases h:x≥lo<;>simp[h]
theorem JR (x lo hi:Int):jl (x,lo,hi,())=some (decide (x≥lo) && decide (x<=hi),()):=by
 unfold jl;by_cases h:x≥lo<;>simp[h]
theorem abY (u:Nat):yy (48+((u % 10:Nat):Int))=UInt8.ofNat (48+u % 10):=by
 rw[sP];congr 1;omega
theorem Mv (u:Nat) (h:u<=9223372036854775807):Jx ((u:Int),())=some (Lib.decDigits u,()):=by
 unfold Jx;dsimp only;by_cases h0:u=0
 ·subst h0;have:Lib.decDigits 0=[48]:=by rw[Lib.decDigits]; rfl
  rw[this];rfl
 have e0:((u:Int)==0)=false:=by simp; omega
 have en:¬ ((u:Int)<0):=by omega
 simp only[e0,aln,en,alx];refine (NC (λ x:Int×List UInt8×Unit=>some ((if x.1=0 then [] else Lib.decDigits x.1.toNat)++x.2.1,())) (λ x=>x.1.toNat)
  (λ x=>0<=x.1/\x.1<=9223372036854775807/\∃ k,x.1.toNat<10 ^ k/\k+x.2.1.length<=20) ?_ fuel ((u:Int),[],()) ⟨by simp,by simp only; omega,20,by
   simp only[aly];exact Nat.lt_of_le_of_lt h (by decide),by simp⟩ (by simp only[aly,y9]; omega)).trans ?_
 ·rintro rec ⟨v,out,⟨⟩⟩ ⟨h1,ad5,k,h2,h3⟩ acB;obtain⟨n,rfl⟩:∃ n:Nat,v=(n:Int):=⟨v.toNat,by simp only at h1; omega⟩
  simp only[aly] at h2;by_cases hn:n=0
  ·subst hn;simp
  have e1:((n:Int) != 0)=true:=by simp; omega
  have e2:Int.tmod (n:Int) 10=((n % 10:Nat):Int):=by simp[Int.tmod]
  have e3:Int.tdiv (n:Int) 10=((n / 10:Nat):Int):=by simp[Int.tdiv]
  have e4:¬ (((n % 10:Nat):Int)<0):=by omega
  simp only at ad5 h3;have hk:1<=k:=by
   rcases Nat.eq_zero_or_pos k with h'|h'
   ·subst h'; simp at h2; omega
   ·exact h'
  simp only[e1,alo,e2,e3,e4,alx,aln];rw[zg (show (-9223372036854775808:Int)<=48+((n % 10:Nat):Int) by omega) (show 48+((n % 10:Nat):Int)<=9223372036854775807 by omega),abY,
   zg (show (-9223372036854775808:Int)<=((n / 10:Nat):Int) by omega) (show ((n / 10:Nat):Int)<=9223372036854775807 by omega)]
  rw[if_pos (by simp only[alr,als]; omega)]
  rw[acB (((n / 10:Nat):Int),[UInt8.ofNat (48+n % 10)]++out,()) ⟨by simp only; omega,by simp only; omega,k - 1,by
   simp only[aly];have:10 ^ k=10 ^ (k - 1)*10:=by rw[←ame]; congr 1; omega
   omega,by simp only[alv,alr,als]; omega⟩ (by simp only[aly]; omega)]
  simp only[aly];rw[if_neg (show ¬ ((n:Int)=0) by omega)];by_cases h10:n<10
  ·have:n / 10=0:=by omega
   rw[this,if_pos (by rfl),Lib.decDigits,dif_pos h10];have:n % 10=n:=by omega
   rw[this]; rfl
  ·rw[if_neg (by omega)]
   conv=>rhs; rw[Lib.decDigits,dif_neg h10]
   simp
 ·simp only[aly];rw[if_neg (by omega)]; simp
theorem Sv (n:Int):Ke (n,())=some (Lib.itoa n,()):=rfl
theorem QA (u:Nat):Ke ((u:Int),())=some (Lib.decDigits u,()):=by
 rw[Sv,Lib.itoa,if_neg (by omega)]; simp
def Zj (b:UInt8):Bool := !(decide (b<UInt8.ofNat 48)) && !(decide (b>UInt8.ofNat 57))
def Zn (l:List UInt8) (v:Nat):Nat:=l.foldl (λ v b=>10*v+(b.toNat - 48)) v
def zA (s:List UInt8):Int×Bool:=
 if 1<=s.length/\s.length<=6/\s.all Zj=true/\Lib.decDigits (Zn s 0)=s then ((Zn s 0:Nat),true) else (0,false)
theorem QY (b:UInt8):Zj b=true↔48<=b.toNat/\b.toNat<=57:=by
 unfold Zj;simp only[alp,alU,amD,UInt8.lt_iff_toNat_lt,gt_iff_lt];simp
theorem pu {i:Nat} (h:i<=6):10 ^ i<=1000000:=Nat.pow_le_pow_right (n:=10) (by decide) h
theorem wx {dig:Int×Unit->Option (List UInt8×Unit)} (hd:∀ u:Nat,u<=9223372036854775807->dig ((u:Int),())=some (Lib.decDigits u,())) (s:List UInt8) (h6:s.length<=6) {G:(Int×Int×Unit->Option (Int×Bool×Unit))->Int×Int×Unit->Option (Int×Bool×Unit)}
  (acT:∀ rec (v:Int),G rec (v,(s.length:Int),())=(dig (v,())).bind λ r1=>bif r1.1 != s then some (0,false,()) else some (v,true,()))
  (acP:∀ rec (i v:Nat) (b:UInt8),s[i]?=some b->i<s.length->v<10 ^ i->G rec ((v:Int),(i:Int),())=if Zj b=true then rec (((10*v+(b.toNat - 48):Nat):Int),(i:Int)+1,()) else some (0,false,())):
  iter G fuel (0,0,())=some (if s.all Zj=true/\Lib.decDigits (Zn s 0)=s then (((Zn s 0:Nat):Int),true,()) else (0,false,())):=by
 refine (walk s.length (λ i (v:Nat)=>((v:Int),i,())) (λ i v=>v<10 ^ i)
  (λ i v=>some (if (s.drop i).all Zj=true/\Lib.decDigits (Zn (s.drop i) v)=s then (((Zn (s.drop i) v:Nat):Int),true,()) else (0,false,()))) (by omega) ?_ ?_ (s0:=0) (by decide)).trans (by simp)
 ·intro rec v hv;have:=pu h6;rw[acT,hd v (by omega)];simp only[alm,am7,List.all_nil,Zn,List.foldl_nil,true_and];by_cases e:Lib.decDigits v=s
  ·have:(Lib.decDigits v != s)=false:=by simp[e]
   rw[if_pos e,this]; rfl
  ·have:(Lib.decDigits v != s)=true:=by simp[e]
   rw[if_neg e,this]; rfl
 ·intro rec i v hi hv;have hx:s[i]?=some s[i]:=List.getElem?_eq_getElem hi;rw[acP rec i v s[i] hx hi hv,List.drop_eq_getElem_cons hi];by_cases hb:Zj s[i]=true
  ·right;refine⟨10*v+(s[i].toNat - 48),?_,by rw[if_pos hb],?_⟩
   ·have:=(QY _).1 hb;rw[ame]; omega
   ·have e:Zn (s[i]::List.drop (i+1) s) v=Zn (List.drop (i+1) s) (10*v+(s[i].toNat - 48)):=rfl;rw[alX,hb,alI,e]
  ·left;rw[if_neg hb,if_neg (λ h=>hb (by have:=h.1; rw[alX,alp] at this; exact this.1))]
theorem ud {α:Type} (b:UInt8) (x y:α):(bif decide (b<UInt8.ofNat (Int.toNat 48)) then y else bif decide (b>UInt8.ofNat (Int.toNat 57)) then y else x)=if Zj b=true then x else y:=by
 unfold Zj;simp only[show Int.toNat 48=48 from rfl,show Int.toNat 57=57 from rfl];cases decide (b<UInt8.ofNat 48)<;>cases decide (b>UInt8.ofNat 57)<;>simp
theorem eQ (s:List UInt8) (h:¬ (1<=s.length/\s.length<=6)):zA s=(0,false):=by
 unfold zA;rw[if_neg (λ hh=>h ⟨hh.1,hh.2.1⟩)]
theorem ww (s:List UInt8) (h:1<=s.length/\s.length<=6):
  (some (if s.all Zj=true/\Lib.decDigits (Zn s 0)=s then (((Zn s 0:Nat):Int),true,()) else (0,false,())):Option (Int×Bool×Unit))=some ((zA s).1,(zA s).2,()):=by
 unfold zA;by_cases hc:s.all Zj=true/\Lib.decDigits (Zn s 0)=s
 ·rw[if_pos hc,if_pos ⟨h.1,h.2,hc⟩]
 ·rw[if_neg hc,if_neg (λ hh=>hc hh.2.2)]
theorem DE (s:List UInt8):Lw (s,())=some ((zA s).1,(zA s).2,()):=by
 unfold Lw;dsimp only;by_cases h1:(s.length:Int)<1
 ·rw[eQ s (by omega)]; simp only[h1,alu,alo]
 by_cases h6:(s.length:Int)>6
 ·rw[eQ s (by omega)]; simp only[h1,alx,aln,h6,alu,alo]
 simp only[h1,alx,aln,h6];refine (wx (dig:=Jx) Mv s (by omega) ?_ ?_).trans (ww s (by omega))
 ·intro rec v; simp
 ·intro rec i v b hx hi hv;have hp:=pu (i:=i) (by omega);simp only[zz hi,alu,alo,alD,if_true,aly,c9 hx,zx (show i<4611686018427387904 by omega)];rw[ud];by_cases hb:Zj b=true
  ·have:=(QY _).1 hb;rw[if_pos hb,if_pos hb,zg (n:=10*(v:Int)) (by omega) (by omega),zg (n:=10*(v:Int)+_) (by omega) (by omega),zg (by omega) (by omega)];congr 2;omega
  ·rw[if_neg hb,if_neg hb]
theorem vd (s:List UInt8):QH (s,())=some ((zA s).1,(zA s).2,()):=by
 unfold QH;dsimp only;by_cases h1:(s.length:Int)<1
 ·rw[eQ s (by omega)]; simp only[h1,alu,alo]
 by_cases h6:(s.length:Int)>6
 ·rw[eQ s (by omega)]; simp only[h1,alx,aln,h6,alu,alo]
 simp only[h1,alx,aln,h6];refine (wx (dig:=Ke) (λ u _=>QA u) s (by omega) ?_ ?_).trans (ww s (by omega))
 ·intro rec v; simp
 ·intro rec i v b hx hi hv;have hp:=pu (i:=i) (by omega);simp only[zz hi,alu,alo,alD,if_true,aly,c9 hx,zx (show i<4611686018427387904 by omega)];rw[ud];by_cases hb:Zj b=true
  ·have:=(QY _).1 hb;have adO:(b - UInt8.ofNat (Int.toNat 48)).toNat=b.toNat - 48:=by
    rw[UInt8.toNat_sub_of_le]
    ·rfl
    ·rw[UInt8.le_iff_toNat_le]; exact this.1
   rw[if_pos hb,if_pos hb,adO,zg (n:=10*(v:Int)) (by omega) (by omega),zg (by omega) (by omega)];congr 2
  ·rw[if_neg hb,if_neg hb]
theorem UT (l:List UInt8) (b:UInt8) (v:Nat):Zn (l++[b]) v=10*Zn l v+(b.toNat - 48):=by simp[Zn]
theorem cT {u:Nat} (h:u<10):(UInt8.ofNat (48+u)).toNat=48+u:=by
 rw[UInt8.toNat_ofNat']; omega
theorem ui:∀ u:Nat,(Lib.decDigits u).all Zj=true/\Zn (Lib.decDigits u) 0=u:=by
 intro u;induction u using Nat.strongRecOn with
 | _ u ih=>
  by_cases h:u<10
  ·rw[Lib.decDigits,dif_pos h];have hd:Zj (UInt8.ofNat (48+u))=true:=(QY _).2 (by rw[cT h]; omega)
   refine⟨by rw[alX,hd]; rfl,?_⟩
   simp only[Zn,ama,List.foldl_nil];rw[cT h]; omega
  ·rw[Lib.decDigits,dif_neg h];obtain⟨h1,h2⟩:=ih (u / 10) (by omega);have hd:Zj (UInt8.ofNat (48+u % 10))=true:=(QY _).2 (by rw[cT (by omega)]; omega)
   refine⟨by rw[List.all_append,h1,alX,hd]; rfl,?_⟩
   rw[UT,h2,cT (by omega)]; omega
theorem uj (u:Nat) (h:u<1000000):1<=(Lib.decDigits u).length/\(Lib.decDigits u).length<=6:=by
 rw[Lib.decDigits_length];refine⟨Lib.nDigits_pos u,?_⟩;have key:∀ k u:Nat,u<10 ^ (k+1)->Lib.nDigits u<=k+1:=by
  intro k;induction k with
  | zero=>intro u h; rw[Lib.nDigits_small (by simpa using h)]; exact Nat.le_refl _
  | succ k ih=>
   intro u h;by_cases hu:u<10
   ·rw[Lib.nDigits_small hu]; omega
   ·rw[Lib.nDigits_big hu];have:=ih (u / 10) (by rw[ame] at h; omega)
    omega
 exact key 5 u (by simpa using h)
theorem eP (u:Nat) (h:u<1000000):zA (Lib.decDigits u)=((u:Int),true):=by
 obtain⟨h1,h2⟩:=ui u;obtain⟨h3,h4⟩:=uj u h;unfold zA;rw[if_pos ⟨h3,h4,h1,by rw[h2]⟩,h2]
theorem mt {u:Nat} {c:UInt8} (hc:Zj c=false):c∉Lib.decDigits u:=by
 intro hm;have:=List.all_eq_true.1 (ui u).1 c hm;rw[hc] at this; cases this
def zH (t:zN):Bool:=(decide (t.1≥0) && decide (t.1<=3)) && ((decide (t.2.1≥0) && decide (t.2.1<=3)) && ((decide (t.2.2.1≥0) && decide (t.2.2.1<=1000)) && (decide (t.2.2.2≥0) && decide (t.2.2.2<=99))))
theorem LI (t:zN):zH t=true↔(0<=t.1/\t.1<=3)/\(0<=t.2.1/\t.2.1<=3)/\(0<=t.2.2.1/\t.2.2.1<=1000)/\(0<=t.2.2.2/\t.2.2.2<=99):=by
 unfold zH; simp only[alp,alz,ge_iff_le]
theorem ME (t:zN):KK (t,())=some (zH t,()):=by
 unfold KK zH;simp only[Yw,alm];cases (decide (t.1≥0) && decide (t.1<=3))<;>cases (decide (t.2.1≥0) && decide (t.2.1<=3))<;>cases (decide (t.2.2.1≥0) && decide (t.2.2.1<=1000))<;>rfl
theorem Nz (t:zN):Kg (t,())=some (zH t,()):=by
 unfold Kg zH;simp only[JR,alm];cases (decide (t.1≥0) && decide (t.1<=3))<;>cases (decide (t.2.1≥0) && decide (t.2.1<=3))<;>cases (decide (t.2.2.1≥0) && decide (t.2.2.1<=1000))<;>rfl
def yQ (t:zN):List UInt8:=
 if zH t=true then (((((Lib.decDigits t.1.toNat++[62])++Lib.decDigits t.2.1.toNat)++[58])++Lib.decDigits t.2.2.1.toNat)++[35])++Lib.decDigits t.2.2.2.toNat else []
theorem dl (u:Nat) (h:u<1000000):(Lib.decDigits u).length<=6:=(uj u h).2
theorem lA (t:zN):(yQ t).length<=27:=by
 unfold yQ;split
 ·next h=>
  have:=(LI t).1 h;have h1:=dl t.1.toNat (by omega);have h2:=dl t.2.1.toNat (by omega);have h3:=dl t.2.2.1.toNat (by omega);have h4:=dl t.2.2.2.toNat (by omega);simp only[alv,alr,als];omega
 ·simp
theorem DM (t:zN):qF (t,())=some (yQ t,()):=by
 unfold qF yQ;simp only[ME,alm];by_cases h:zH t=true
 ·have hh:=(LI t).1 h;have d1:=Mv t.1.toNat (by omega);have d2:=Mv t.2.1.toNat (by omega);have d3:=Mv t.2.2.1.toNat (by omega);have d4:=Mv t.2.2.2.toNat (by omega);rw[an9 (by omega)] at d1 d2 d3 d4;have h1:=dl t.1.toNat (by omega);have h2:=dl t.2.1.toNat (by omega);have h3:=dl t.2.2.1.toNat (by omega);have h4:=dl t.2.2.2.toNat (by omega);simp only[h,alt,aln,d1,d2,d3,d4,alm,alv,alr,als,if_true];rw[if_pos (by omega),if_pos (by omega),if_pos (by omega),if_pos (by omega),if_pos (by omega),if_pos (by omega)]
 ·have:zH t=false:=by simpa using h
  simp[this]
theorem SO (t:zN):QP (t,())=some (yQ t,()):=by
 unfold QP yQ;simp only[Nz,alm];by_cases h:zH t=true
 ·have hh:=(LI t).1 h;have d1:=QA t.1.toNat;have d2:=QA t.2.1.toNat;have d3:=QA t.2.2.1.toNat;have d4:=QA t.2.2.2.toNat;rw[an9 (by omega)] at d1 d2 d3 d4;have h1:=dl t.1.toNat (by omega);have h2:=dl t.2.1.toNat (by omega);have h3:=dl t.2.2.1.toNat (by omega);have h4:=dl t.2.2.2.toNat (by omega);simp only[h,alt,aln,d1,d2,d3,d4,alm,alv,alr,als,if_true];rw[if_pos (by omega),if_pos (by omega),if_pos (by omega),if_pos (by omega),if_pos (by omega),if_pos (by omega)]
 ·have:zH t=false:=by simpa using h
  simp[this]
def zT (c:UInt8) (s d:List UInt8):List UInt8×List UInt8:=match yL c s with|some p=>p|none=>(d,[])
def ZV (s:List UInt8):zN:=
 let p:=zT 62 s []
 let q:=zT 58 p.2 []
 let r:=zT 35 q.2 []
 ((zA p.1).1,(zA q.1).1,(zA r.1).1,(zA r.2).1)
def YL (s:List UInt8):zN:=
 let p:=zT 62 s s
 let q:=zT 58 p.2 p.2
 let r:=zT 35 q.2 q.2
 ((zA p.1).1,(zA q.1).1,(zA r.1).1,(zA r.2).1)
theorem Ej {t:zN} (h:zH t=true) (d1 d2 d3:List UInt8->List UInt8):
  let p:=zT 62 (yQ t) (d1 (yQ t))
  let q:=zT 58 p.2 (d2 p.2)
  let r:=zT 35 q.2 (d3 q.2)
  ((zA p.1).1,(zA q.1).1,(zA r.1).1,(zA r.2).1)=t:=by
 have hh:=(LI t).1 h;have e1:yL 62 (yQ t)=some (Lib.decDigits t.1.toNat,Lib.decDigits t.2.1.toNat++58::(Lib.decDigits t.2.2.1.toNat++35::Lib.decDigits t.2.2.2.toNat)):=by
  unfold yQ;rw[if_pos h];have:=Qn 62 (Lib.decDigits t.2.1.toNat++58::(Lib.decDigits t.2.2.1.toNat++35::Lib.decDigits t.2.2.2.toNat)) (Lib.decDigits t.1.toNat) (mt (by decide));rw[←this];congr 1;simp
 have e2:=Qn 58 (Lib.decDigits t.2.2.1.toNat++35::Lib.decDigits t.2.2.2.toNat) (Lib.decDigits t.2.1.toNat) (mt (by decide));have e3:=Qn 35 (Lib.decDigits t.2.2.2.toNat) (Lib.decDigits t.2.2.1.toNat) (mt (by decide));simp only[zT,e1,e2,e3,eP _ (show t.1.toNat<1000000 by omega),eP _ (show t.2.1.toNat<1000000 by omega),eP _ (show t.2.2.1.toNat<1000000 by omega),eP _ (show t.2.2.2.toNat<1000000 by omega)];obtain⟨a,b,c,d⟩:=t;simp only at hh;simp only[alw];omega
def Zx (s:List UInt8):zN×Bool:=if zH (ZV s)=true/\yQ (ZV s)=s then (ZV s,true) else ((0,0,0,0),false)
theorem ac3 (s:List UInt8):Zx s=if zH (YL s)=true/\yQ (YL s)=s then (YL s,true) else ((0,0,0,0),false):=by
 unfold Zx;by_cases h1:zH (ZV s)=true/\yQ (ZV s)=s
 ·have e:YL s=ZV s:=by
   have:=Ej h1.1 (λ x=>x) (λ x=>x) (λ x=>x);rw[h1.2] at this;exact this
  rw[if_pos h1,e,if_pos h1]
 ·rw[if_neg h1,if_neg];intro h2;have e:ZV s=YL s:=by
   have:=Ej h2.1 (λ x=>[]) (λ x=>[]) (λ x=>[]);rw[h2.2] at this;exact this
  exact h1 (by rw[e]; exact h2)
theorem ej (s:List UInt8) (c:UInt8) (hs:s.length<=137438953472):LD (s,c,())=some ((zT c s []).1,(zT c s []).2,(yL c s).isSome,()):=by
 rw[abG s c hs];unfold zT;cases yL c s<;>rfl
theorem LU (c:UInt8) (s d:List UInt8) (hd:d.length<=s.length):(zT c s d).1.length<=s.length/\(zT c s d).2.length<=s.length:=by
 unfold zT;cases h:yL c s with
 | none=>exact⟨hd,by simp⟩
 | some p=>
  have:=(mr c (p:=p.1) (q:=p.2) h).1;simp only;omega
theorem ac7 {t:zN} (h:¬ zH t=true):yQ t=[]:=by unfold yQ; rw[if_neg h]
theorem ac6 {t:zN} (h:zH t=true):yQ t≠[]:=by unfold yQ; rw[if_pos h]; simp
theorem abt (s:List UInt8) (hs:s.length<=137438953472):bU (s,())=some ((Zx s).1,(Zx s).2,()):=by
 have l1:=LU 62 s [] (by simp);have l2:=LU 58 (zT 62 s []).2 [] (by simp);have l3:=LU 35 (zT 58 (zT 62 s []).2 []).2 [] (by simp);unfold bU;simp only[show UInt8.ofNat (Int.toNat 62)=62 from rfl,show UInt8.ofNat (Int.toNat 58)=58 from rfl,show UInt8.ofNat (Int.toNat 35)=35 from rfl,
  ej s 62 hs,ej (zT 62 s []).2 58 (by omega),ej (zT 58 (zT 62 s []).2 []).2 35 (by omega),DE,DM,Option.bind_some]
 by_cases h0:s=[]
 ·subst h0;have:¬ (zH (ZV [])=true/\yQ (ZV [])=[]):=λ h=>ac6 h.1 h.2;unfold Zx;rw[if_neg this];simp
 ·have e0:(s==[])=false:=by simp[h0]
  simp only[e0,aln];unfold Zx;have ef:((zA (zT 62 s []).1).1,(zA (zT 58 (zT 62 s []).2 []).1).1,(zA (zT 35 (zT 58 (zT 62 s []).2 []).2 []).1).1,(zA (zT 35 (zT 58 (zT 62 s []).2 []).2 []).2).1)=ZV s:=rfl;rw[ef];by_cases h:yQ (ZV s)=s
  ·have hok:zH (ZV s)=true:=by
    by_cases hk:zH (ZV s)=true
    ·exact hk
    ·rw[ac7 hk] at h; exact absurd h.symm h0
   have e1:(yQ (ZV s) != s)=false:=by simp[h]
   rw[if_pos ⟨hok,h⟩,e1]; rfl
  ·have e1:(yQ (ZV s) != s)=true:=by simp[h]
   rw[if_neg (λ hh=>h hh.2),e1]; rfl
theorem lp (s:List UInt8) (c:UInt8) (hs:s.length<=1073741824):strings_Cut (s,[c],())=some ((zT c s s).1,(zT c s s).2,(yL c s).isSome,()):=by
 unfold strings_Cut;dsimp only;rw[if_pos (by omega),Ul];unfold zT;cases yL c s<;>rfl
theorem SN (s:List UInt8) (hs:s.length<=1073741824):QO (s,())=some ((Zx s).1,(Zx s).2,()):=by
 have l1:=LU 62 s s (Nat.le_refl _);have l2:=LU 58 (zT 62 s s).2 (zT 62 s s).2 (Nat.le_refl _);rw[ac3];unfold QO;simp only[lp s 62 hs,lp (zT 62 s s).2 58 (by omega),lp (zT 58 (zT 62 s s).2 (zT 62 s s).2).2 35 (by omega),alm];generalize hp:zT 62 s s=p;generalize hq:zT 58 p.2 p.2=q;generalize hr:zT 35 q.2 q.2=r;have ef:YL s=((zA p.1).1,(zA q.1).1,(zA r.1).1,(zA r.2).1):=by
  unfold YL; simp only[hp,hq,hr]
 refine (R7 [p.1,q.1,r.1,r.2] (λ x=>(zA x).1) (λ out=>(Kg ((rd .i64 out 0,rd .i64 out 1,rd .i64 out 2,rd .i64 out 3),())).bind λ r5=>bif (!r5.1) then some ((0,0,0,0),false,()) else
   (QP ((rd .i64 out 0,rd .i64 out 1,rd .i64 out 2,rd .i64 out 3),())).bind λ r6=>bif (r6.1 != s) then some ((0,0,0,0),false,()) else some ((rd .i64 out 0,rd .i64 out 1,rd .i64 out 2,rd .i64 out 3),true,())) (by simp) ?_ ?_ _ (by simp)).trans ?_
 ·intro rec out ho;have ho:out.length=4:=ho;simp[ho]
 ·intro rec i out y hx hi ho;have ho:out.length=4:=ho;have hi':i<4:=hi;simp only[aly,ho,zz hi,alu,alo,if_true,alD,zu (e:=.str) hx,vd y,alm,zx (show i<4611686018427387904 by omega)];rw[if_pos ⟨trivial,by omega⟩]
 ·simp only[alG,am8,rd,anD,List.getD_cons_succ];rw[←ef,Nz,SO];simp only[alm];by_cases h:zH (YL s)=true
  ·by_cases h2:yQ (YL s)=s
   ·have e1:(yQ (YL s) != s)=false:=by simp[h2]
    rw[if_pos ⟨h,h2⟩,e1,h]; rfl
   ·have e1:(yQ (YL s) != s)=true:=by simp[h2]
    rw[if_neg (λ hh=>h2 hh.2),e1,h]; rfl
  ·have:zH (YL s)=false:=by simpa using h
   rw[if_neg (λ hh=>h hh.1),this]; rfl
def Yx:List (List UInt8)->List zN->List zN×Bool
 | [],out=>(out,true)
 | p::ps,out=>if (Zx p).2=true then Yx ps (out++[(Zx p).1]) else ([],false)
def jj (s:List UInt8):List zN×Bool:=if s=[] then ([],true) else Yx (zS 44 s) []
theorem Mk (c:UInt8):∀ {s p:List UInt8},p∈zS c s->p.length<=s.length
 | [],p,h=>by simp[zS] at h; simp[h]
 | x::l,p,h=>by
  simp only[zS] at h;split at h
  ·rcases List.mem_cons.1 h with rfl|h
   ·simp
   ·have:=Mk c h; simp; omega
  ·cases hp:zS c l with
   | nil=>rw[hp] at h; simp[glue] at h; simp[h]
   | cons q r=>
    rw[hp] at h;simp only[glue,alH] at h;rcases h with rfl|h
    ·have:=Mk c (s:=l) (p:=q) (by rw[hp]; simp); simp; omega
    ·have:=Mk c (s:=l) (p:=p) (by rw[hp]; simp[h]); simp; omega
theorem Eo {tx:List UInt8×Unit->Option (zN×Bool×Unit)} (ps:List (List UInt8)) (hl:ps.length<=137438953473) (htx:∀ p∈ps,tx (p,())=some ((Zx p).1,(Zx p).2,()))
  {G:(List zN×Int×Unit->Option (List zN×Bool×Unit))->List zN×Int×Unit->Option (List zN×Bool×Unit)}
  (hG:∀ rec out (i:Int),G rec (out,i,())=bif decide (i<(ps.length:Int)) then (if 0<=i/\i<(ps.length:Int) then (tx (rd .str ps i.toNat,())).bind λ r2=>bif !r2.2.1 then some ([],false,()) else
   (if (out.length+[r2.1].length)*32<=70368744177664 then rec (out++[r2.1],wr (i+1),()) else none) else none) else some (out,true,())):
  iter G fuel ([],0,())=some ((Yx ps []).1,(Yx ps []).2,()):=by
 refine (walk ps.length (λ i (out:List zN)=>(out,i,())) (λ i out=>out.length=i) (λ i out=>some ((Yx (ps.drop i) out).1,(Yx (ps.drop i) out).2,())) (by omega) ?_ ?_ (s0:=[]) rfl).trans (by simp)
 ·intro rec out ho;rw[hG]; simp[Yx]
 ·intro rec i out hi ho;have hx:ps[i]?=some ps[i]:=List.getElem?_eq_getElem hi;rw[hG];simp only[zz hi,decide_true,cond_true,and_self,if_true,Int.toNat_natCast,zu (e:=.str) hx,htx ps[i] (List.getElem_mem hi),Option.bind_some,zx (show i<4611686018427387904 by omega),List.length_cons,List.length_nil];rw[alJ hi];by_cases h:(Zx ps[i]).2=true
  ·right;refine⟨out++[(Zx ps[i]).1],by simp[ho],?_,?_⟩
   ·rw[h]; simp only[alt,aln]; rw[if_pos (by omega)]
   ·simp only[Yx,h,if_true]
  ·left;have h':(Zx ps[i]).2=false:=by simpa using h
   simp[Yx,h']
theorem abu (s:List UInt8) (hs:s.length<=137438953472):kp (s,())=some ((jj s).1,(jj s).2,()):=by
 unfold kp jj;by_cases h0:s=[]
 ·subst h0; rfl
 ·have e0:(s==[])=false:=by simp[h0]
  rw[if_neg h0];simp only[e0,aln,show UInt8.ofNat (Int.toNat 44)=44 from rfl,DJ s 44 hs,alm];have hp:=aO 44 s;refine Eo (tx:=bU) (zS 44 s) (by omega) (λ p hm=>abt p (by have:=Mk 44 hm; omega)) ?_
  intro rec out i; rfl
theorem SQ (s:List UInt8) (hs:s.length<=1073741824):dI (s,())=some ((jj s).1,(jj s).2,()):=by
 unfold dI jj;by_cases h0:s=[]
 ·subst h0; rfl
 ·have e0:(s==[])=false:=by simp[h0]
  rw[if_neg h0];simp only[e0,aln,show UInt8.ofNat (Int.toNat 44)=44 from rfl,vi s 44 hs,alm];have hp:=aO 44 s;refine Eo (tx:=QO) (zS 44 s) (by omega) (λ p hm=>SN p (by have:=Mk 44 hm; omega)) ?_
  intro rec out i; rfl
abbrev ZZ:=Int×List zN
def yU (q:List UInt8×List UInt8) (prev:Int):Bool:=
 (zA q.1).2 && ((jj q.2).2 && (decide (prev<(zA q.1).1) && (decide ((zA q.1).1<=60) && decide ((jj q.2).1.length<=2))))
def jE:List (List UInt8)->Int->List ZZ->List ZZ×Bool
 | [],_,out=>(out,true)
 | p::ps,prev,out=>match yL 124 p with
  | none=>([],false)
  | some q=>if yU q prev=true then
    jE ps (zA q.1).1 (out++[((zA q.1).1,(jj q.2).1)]) else ([],false)
def steps (s:List UInt8):List ZZ×Bool:=
 if s=[] then ([],true) else match zS 47 s with
  | []=>([],false)
  | p::ps=>if p=[]/\ps.length<=30 then jE ps 0 [] else ([],false)
theorem nT (s:List UInt8):0<=(zA s).1:=by
 unfold zA;split<;>simp
theorem km (s:List UInt8) (hs:s.length<=137438953472):MC (s,())=some ((steps s).1,(steps s).2,()):=by
 unfold MC steps;by_cases h0:s=[]
 ·subst h0; rfl
 have e0:(s==[])=false:=by simp[h0]
 rw[if_neg h0];simp only[e0,aln,show UInt8.ofNat (Int.toNat 47)=47 from rfl,show UInt8.ofNat (Int.toNat 124)=124 from rfl,DJ s 47 hs,alm];have hpl:=aO 47 s;have hpm:∀ p∈zS 47 s,p.length<=s.length:=λ p hm=>Mk 47 hm;cases hp:zS 47 s with
 | nil=>exact absurd hp (YQ _ _)
 | cons p ps=>
  rw[hp] at hpl hpm;simp only[alr] at hpl;rw[if_pos (by simp only[alr]; omega)]
  simp only[amh,rd,anD];by_cases h1:p=[]
  ·subst h1;simp only[bne_self_eq_false,aln];by_cases h2:(((([]:List UInt8)::ps).length:Nat):Int)>31
   ·rw[if_neg (by simp only[alr] at h2; omega)]
    simp only[h2,alu,alo]
   ·rw[if_pos (show True/\ps.length<=30 from⟨trivial,by simp only[alr] at h2; omega⟩)]
    simp only[h2,alx,aln];refine (EB (([]:List UInt8)::ps).length (λ i (t:List ZZ×Int)=>(t.1,t.2,i,())) (λ i t=>t.1.length<=i/\0<=t.2/\t.2<=60)
     (λ i t=>some ((jE ((([]:List UInt8)::ps).drop i) t.2 t.1).1,(jE ((([]:List UInt8)::ps).drop i) t.2 t.1).2,())) (by simp only[alr]; omega) ?_ ?_ (s0:=([],0)) 1 (by simp) ⟨by simp,by simp,by simp⟩).trans (by simp)
    ·intro rec t ht; simp[jE]
    ·intro rec i t hi ht;obtain⟨t1,t2,t3⟩:=ht;have hx:(([]:List UInt8)::ps)[i]?=some (([]:List UInt8)::ps)[i]:=List.getElem?_eq_getElem hi;have hlen:=hpm _ (List.getElem_mem hi);have hil:i<=s.length+1:=by simp only[alr] at hi; omega
     rw[alJ hi];simp only[jE];have hc:=LU 124 (([]:List UInt8)::ps)[i] [] (by simp);simp only[zz hi,decide_true,cond_true,and_self,if_true,Int.toNat_natCast,zu (e:=.str) hx,ej _ 124 (show (([]:List UInt8)::ps)[i].length<=137438953472 by omega),DE,abu _ (show (zT 124 (([]:List UInt8)::ps)[i] []).2.length<=137438953472 by omega),Option.bind_some,
      zx (show i<4611686018427387904 by omega)]
     generalize hq:yL 124 (([]:List UInt8)::ps)[i]=q;cases q with
     | none=>left; simp
     | some q=>
      simp only[zT,hq,Option.isSome_some,alt,aln];by_cases c1:(zA q.1).2=true
      ·by_cases c2:(jj q.2).2=true
       ·by_cases c3:t.2<(zA q.1).1
        ·by_cases c4:(zA q.1).1<=60
         ·by_cases c5:(jj q.2).1.length<=2
          ·right;refine⟨(t.1++[((zA q.1).1,(jj q.2).1)],(zA q.1).1),⟨by simp; omega,nT _,c4⟩,?_,?_⟩
           ·simp only[c1,c2,alt,aln,show ¬ (zA q.1).1<=t.2 by omega,alx,show ¬ (zA q.1).1>60 by omega,show ¬ ((jj q.2).1.length:Int)>2 by omega,alr,als];rw[if_pos (by omega)]
           ·rw[if_pos (show yU q t.2=true by simp[yU,c1,c2,c3,c4,c5])]
          ·left;have hB:yU q t.2=false:=by simp[yU,c5]
           rw[hB];simp[c1,c2,show ¬ (zA q.1).1<=t.2 by omega,show ¬ (zA q.1).1>60 by omega,show (2:Int)<((jj q.2).1.length:Int) by omega]
         ·left;have hB:yU q t.2=false:=by simp[yU,c4]
          rw[hB];simp[c1,c2,show ¬ (zA q.1).1<=t.2 by omega,show (zA q.1).1>60 by omega]
        ·left;have hB:yU q t.2=false:=by simp[yU,c3]
         rw[hB];simp[c1,c2,show (zA q.1).1<=t.2 by omega]
       ·left;have hB:yU q t.2=false:=by simp[yU,c2]
        rw[hB];have:(jj q.2).2=false:=by simpa using c2
        simp[c1,this]
      ·left;have hB:yU q t.2=false:=by simp[yU,c1]
       rw[hB];have:(zA q.1).2=false:=by simpa using c1
       simp[this]
  ·have e1:(p != [])=true:=by simp[h1]
   rw[if_neg (show ¬ (p=[]/\ps.length<=30) from λ h=>h1 h.1),e1]; rfl
theorem mS (s:List UInt8) (hs:s.length<=1073741824):Ny (s,())=some ((steps s).1,(steps s).2,()):=by
 unfold Ny steps;by_cases h0:s=[]
 ·subst h0; rfl
 have e0:(s==[])=false:=by simp[h0]
 rw[if_neg h0];simp only[e0,aln,show UInt8.ofNat (Int.toNat 47)=47 from rfl,vi s 47 hs,alm];have hpl:=aO 47 s;have hpm:∀ p∈zS 47 s,p.length<=s.length:=λ p hm=>Mk 47 hm;cases hp:zS 47 s with
 | nil=>exact absurd hp (YQ _ _)
 | cons p ps=>
  rw[hp] at hpl hpm;simp only[alr] at hpl;rw[if_pos (by simp only[alr]; omega)]
  simp only[amh,rd,anD];have hw:wr (((p::ps).length:Int) - 1)=(ps.length:Int):=by
   rw[zg (by simp only[alr]; omega) (by simp only[alr]; omega)]
   simp only[alr]; omega
  rw[hw];have htd:List.take ((((p::ps).length:Nat):Int).toNat - Int.toNat 1) (List.drop (Int.toNat 1) (p::ps))=ps:=by
   simp
  rw[htd];by_cases h1:p=[]
  ·subst h1;simp only[bne_self_eq_false,aln];by_cases h2:(ps.length:Int)>30
   ·rw[if_neg (show ¬ (True/\ps.length<=30) from λ h=>by have:=h.2; omega)]
    simp only[h2,alu,alo]
   ·rw[if_pos (show True/\ps.length<=30 from⟨trivial,by omega⟩)];simp only[h2,alx,aln];rw[if_pos (by simp only[alr]; omega)]
    refine (walk ps.length (λ i (t:List ZZ×Int)=>(t.1,t.2,i,())) (λ i t=>t.1.length<=i/\0<=t.2/\t.2<=60)
     (λ i t=>some ((jE (ps.drop i) t.2 t.1).1,(jE (ps.drop i) t.2 t.1).2,())) (by omega) ?_ ?_ (s0:=([],0)) ⟨by simp,by simp,by simp⟩).trans (by simp)
    ·intro rec t ht; simp[jE]
    ·intro rec i t hi ht;obtain⟨t1,t2,t3⟩:=ht;have hx:ps[i]?=some ps[i]:=List.getElem?_eq_getElem hi;have hlen:=hpm _ (List.mem_cons_of_mem _ (List.getElem_mem hi));rw[alJ hi];simp only[jE];have hc:=LU 124 ps[i] ps[i] (Nat.le_refl _);have hx':ps.getD i (dflt .str)=ps[i]:=zu (e:=.str) hx;simp only[zz hi,decide_true,cond_true,and_self,if_true,Int.toNat_natCast,hx',lp _ 124 (show ps[i].length<=1073741824 by omega),vd,SQ _ (show (zT 124 ps[i] ps[i]).2.length<=1073741824 by omega),Option.bind_some,
      zx (show i<4611686018427387904 by omega),JR,zg (show (-9223372036854775808:Int)<=t.2+1 by omega) (show t.2+1<=9223372036854775807 by omega)]
     generalize hq:yL 124 ps[i]=q;cases q with
     | none=>left; simp
     | some q=>
      simp only[zT,hq,Option.isSome_some,alt,aln];by_cases c1:(zA q.1).2=true
      ·by_cases c2:(jj q.2).2=true
       ·by_cases c3:t.2<(zA q.1).1
        ·by_cases c4:(zA q.1).1<=60
         ·by_cases c5:(jj q.2).1.length<=2
          ·right;refine⟨(t.1++[((zA q.1).1,(jj q.2).1)],(zA q.1).1),⟨by simp; omega,nT _,c4⟩,?_,?_⟩
           ·simp only[c1,c2,c4,alt,aln,show (zA q.1).1≥t.2+1 by omega,alu,amn,show ¬ ((jj q.2).1.length:Int)>2 by omega,alx,alr,als];rw[if_pos (by omega)]
           ·rw[if_pos (show yU q t.2=true by simp[yU,c1,c2,c3,c4,c5])]
          ·left;have hB:yU q t.2=false:=by simp[yU,c5]
           rw[hB];simp[c1,c2,c4,show t.2+1<=(zA q.1).1 by omega,show (2:Int)<((jj q.2).1.length:Int) by omega]
         ·left;have hB:yU q t.2=false:=by simp[yU,c4]
          rw[hB];simp[c1,c2,c4]
        ·left;have hB:yU q t.2=false:=by simp[yU,c3]
         rw[hB];simp[c1,c2,show ¬ t.2+1<=(zA q.1).1 by omega]
       ·left;have hB:yU q t.2=false:=by simp[yU,c2]
        rw[hB];have:(jj q.2).2=false:=by simpa using c2
        simp[c1,this]
      ·left;have hB:yU q t.2=false:=by simp[yU,c1]
       rw[hB];have:(zA q.1).2=false:=by simpa using c1
       simp[this]
  ·have e1:(p != [])=true:=by simp[h1]
   rw[if_neg (show ¬ (p=[]/\ps.length<=30) from λ h=>h1 h.1),e1]; rfl
def zC (c:za):Bool:=(decide (c.1≥4) && decide (c.1<=7)) && (decide (c.2≥1) && decide (c.2<=6))
theorem Y2 (c:za):ZW (c,())=some (zC c,()):=by
 unfold ZW zC;simp only[Yw,alm];cases (decide (c.1≥4) && decide (c.1<=7))<;>rfl
theorem Qz (c:za):Kd (c,())=some (zC c,()):=by
 unfold Kd zC;simp only[JR,alm];cases (decide (c.1≥4) && decide (c.1<=7))<;>rfl
theorem yi {c:za} (h:zC c=true):4<=c.1/\c.1<=7:=by
 unfold zC at h;simp only[alp,alz] at h;omega
def zG (s:List UInt8):Bool:=(steps s).2
def zo (s:List UInt8):Int:=match (steps s).1.getLast? with|some x=>x.1|none=>0
theorem KG (s:List UInt8) (hs:s.length<=137438953472):Y3 (s,())=some (zG s,()):=by
 unfold Y3 zG;simp only[km s hs,alm]
theorem QG (s:List UInt8) (hs:s.length<=1073741824):Lc (s,())=some (zG s,()):=by
 unfold Lc zG;simp only[mS s hs,alm]
theorem D6:∀ (ps:List (List UInt8)) (prev:Int) (out:List ZZ),((jE ps prev out).2=false->(jE ps prev out).1=[])/\(jE ps prev out).1.length<=out.length+ps.length
 | [],prev,out=>by simp[jE]
 | p::ps,prev,out=>by
  simp only[jE];cases yL 124 p with
  | none=>simp
  | some q=>
   simp only;split
   ·obtain⟨h1,h2⟩:=D6 ps (zA q.1).1 (out++[((zA q.1).1,(jj q.2).1)]);refine⟨h1,?_⟩;simp only[alv,alr,als] at h2 ⊢;omega
   ·simp
theorem ct (s:List UInt8):((steps s).2=false->(steps s).1=[])/\(steps s).1.length<=30:=by
 unfold steps;split
 ·simp
 ·cases zS 47 s with
  | nil=>simp
  | cons p ps=>
   simp only;split
   ·next h=>
    obtain⟨h1,h2⟩:=D6 ps 0 [];exact⟨h1,by simp only[als] at h2; omega⟩
   ·simp
theorem nC {l:List ZZ} (h:l≠[]):∃ x,l.getLast?=some x/\l[l.length - 1]?=some x:=by
 have hl:l.length - 1<l.length:=by cases l with|nil=>exact absurd rfl h|cons _ _=>simp
 exact⟨l[l.length - 1],by rw[List.getLast?_eq_getElem?,am5 hl],List.getElem?_eq_getElem hl⟩
theorem Y5 (s:List UInt8) (hs:s.length<=137438953472):ZI (s,())=some (zo s,()):=by
 unfold ZI zo;simp only[km s hs,alm];obtain⟨h1,h2⟩:=ct s;by_cases h:(steps s).2=true
 ·rw[h];simp only[alt,aln];by_cases h0:(steps s).1=[]
  ·simp[h0]
  ·obtain⟨x,e1,e2⟩:=nC h0;have hl:1<=(steps s).1.length:=by cases hh:(steps s).1 with|nil=>exact absurd hh h0|cons _ _=>simp
   have e3:(((steps s).1.length:Int)==0)=false:=by simp; omega
   simp only[e3,aln,e1,zg (show (-9223372036854775808:Int)<=((steps s).1.length:Int) - 1 by omega) (show ((steps s).1.length:Int) - 1<=9223372036854775807 by omega)];rw[if_pos (by omega),show (((steps s).1.length:Int) - 1).toNat=(steps s).1.length - 1 by omega,zu e2]
 ·have h':(steps s).2=false:=by simpa using h
  rw[h',h1 h']; rfl
theorem vj (s:List UInt8) (hs:s.length<=1073741824):QQ (s,())=some (zo s,()):=by
 unfold QQ zo;simp only[mS s hs,alm];obtain⟨h1,h2⟩:=ct s;by_cases h0:(steps s).1=[]
 ·simp[h0]
 ·obtain⟨x,e1,e2⟩:=nC h0;have hl:1<=(steps s).1.length:=by cases hh:(steps s).1 with|nil=>exact absurd hh h0|cons _ _=>simp
  have e3:(((steps s).1.length:Int)==0)=false:=by simp; omega
  simp only[e3,aln,e1,zg (show (-9223372036854775808:Int)<=((steps s).1.length:Int) - 1 by omega) (show ((steps s).1.length:Int) - 1<=9223372036854775807 by omega)];rw[if_pos (by omega),show (((steps s).1.length:Int) - 1).toNat=(steps s).1.length - 1 by omega,zu e2]
theorem D9:∀ (ps:List (List UInt8)) (prev:Int) (out:List ZZ),(out≠[]∨ps≠[])->0<=prev->(∀ x,out.getLast?=some x->1<=x.1/\x.1<=60)->(jE ps prev out).2=true->
  ∃ x,(jE ps prev out).1.getLast?=some x/\1<=x.1/\x.1<=60
 | [],prev,out,h,hp,ho,hok=>by
  have h0:out≠[]:=h.elim id (λ h=>absurd rfl h);obtain⟨x,e,_⟩:=nC h0;exact⟨x,e,ho x e⟩
 | p::ps,prev,out,h,hp,ho,hok=>by
  simp only[jE] at hok ⊢;cases hq:yL 124 p with
  | none=>rw[hq] at hok; simp at hok
  | some q=>
   rw[hq] at hok;simp only at hok ⊢;split at hok
   ·next hB=>
    rw[if_pos hB];simp only[yU,alp,alz] at hB;refine D9 ps (zA q.1).1 _ (.inl (by simp)) (nT _) ?_ hok;intro x hx;simp at hx;subst hx;exact⟨by simp only; omega,hB.2.2.2.1⟩
   ·simp at hok
theorem ak {s:List UInt8} (h:zG s=true) (h0:s≠[]):1<=zo s/\zo s<=60:=by
 unfold zG steps at h;unfold zo steps;rw[if_neg h0] at h ⊢;cases hp:zS 47 s with
 | nil=>exact absurd hp (YQ _ _)
 | cons p ps=>
  rw[hp] at h;simp only at h ⊢;split at h
  ·next hc=>
   rw[if_pos hc];have hne:ps≠[]:=by
    rintro rfl;obtain⟨rfl,_⟩:=hc;cases s with
    | nil=>exact h0 rfl
    | cons x l=>
     simp only[zS] at hp;split at hp
     ·exact YQ 47 l (by simpa using hp)
     ·cases hl:zS 47 l with
      | nil=>exact YQ 47 l hl
      | cons a b=>rw[hl] at hp; simp[glue] at hp
   obtain⟨x,e1,e2,e3⟩:=D9 ps 0 [] (.inr hne) (by decide) (by simp) h;rw[e1]; exact⟨e2,e3⟩
  ·simp at h
theorem wo:zG []=true/\zo []=0:=by
 constructor<;>simp[zG,zo,steps]
def Y0 (n:Int):Option Int->List Int->Bool
 | _,[]=>true
 | p,x::l => !decide (x<0) && (!decide (x≥n) && ((match p with|some y => !decide (y≥x)|none=>true) && Y0 n (some x) l))
def j4 (n:Int) (l:List Int):Bool:=Y0 n none l
theorem Db (n:Int) (l:List Int) (hl:l.length<=137438953472) {G:(Int×Unit->Option (Bool×Unit))->Int×Unit->Option (Bool×Unit)}
  (acT:∀ rec,G rec ((l.length:Int),())=some (true,()))
  (h0:∀ rec x,l[0]?=some x->G rec (((0:Nat):Int),())=bif decide (x<0) then some (false,()) else bif decide (x≥n) then some (false,()) else rec (((0:Nat):Int)+1,()))
  (acP:∀ rec (i:Nat) x y,l[i]?=some x->l[i+1]?=some y->i+1<l.length->G rec (((i+1:Nat):Int),())=bif decide (y<0) then some (false,()) else bif decide (y≥n) then some (false,()) else bif decide (x≥y) then some (false,()) else rec (((i+1:Nat):Int)+1,())):
  iter G fuel (0,())=some (j4 n l,()):=by
 let pv:Nat->Option Int:=λ i=>match i with|0=>none|i+1=>l[i]?
 refine (walk l.length (λ i (_:Unit)=>(i,())) (λ _ _=>True) (λ i _=>some (Y0 n (pv i) (l.drop i),())) (by omega) ?_ ?_ (s0:=()) trivial).trans (by simp[j4,pv])
 ·intro rec _ _;rw[acT]; simp[Y0]
 ·intro rec i _ hi _;have hx:l[i]?=some l[i]:=List.getElem?_eq_getElem hi;have hpv:pv (i+1)=some l[i]:=hx;rw[alJ hi,hpv];cases i with
  | zero=>
   rw[h0 rec l[0] hx,show pv 0=none from rfl];simp only[Y0];by_cases c1:l[0]<0
   ·left; simp[c1]
   ·by_cases c2:l[0]≥n
    ·left; simp[c1,c2]
    ·right;exact⟨(),trivial,by simp[c1,c2],by simp[c1,c2]⟩
  | succ i=>
   have hx':l[i]?=some l[i]:=List.getElem?_eq_getElem (by omega);rw[acP rec i l[i] l[i+1] hx' hx hi,show pv (i+1)=some l[i] from hx'];simp only[Y0];by_cases c1:l[i+1]<0
   ·left; simp[c1]
   ·by_cases c2:l[i+1]≥n
    ·left; simp[c1,c2]
    ·by_cases c3:l[i]≥l[i+1]
     ·left; simp[c1,c2,c3]
     ·right;exact⟨(),trivial,by simp[c1,c2,c3],by simp[c1,c2,c3]⟩
theorem sr (n:Int) (l:List Int) (hl:l.length<=137438953472):qB (n,l,())=some (j4 n l,()):=by
 unfold qB;refine Db n l hl ?_ ?_ ?_
 ·intro rec; simp
 ·intro rec x hx;have hi:0<l.length:=by
   rcases Nat.eq_zero_or_pos l.length with h|h
   ·rw[alO (by omega)] at hx; cases hx
   ·exact h
  simp only[zz hi,alu,alo,alD,if_true,aly,zu (e:=.i64) hx,zx (show 0<4611686018427387904 by omega),show ¬ (((0:Nat):Int)>0) by omega,alx,aln]
 ·intro rec i x y hx hy hi;have e:wr (((i+1:Nat):Int) - 1)=(i:Int):=by rw[zg (by omega) (by omega)]; omega
  simp only[zz hi,zz (show i<l.length by omega),e,alu,alo,alD,if_true,aly,zu (e:=.i64) hx,zu (e:=.i64) hy,zx (show i+1<4611686018427387904 by omega),show (((i+1:Nat):Int)>0) by omega]
theorem vg (n:Int) (l:List Int) (hl:l.length<=137438953472):Nx (n,l,())=some (j4 n l,()):=by
 unfold Nx;refine Db n l hl ?_ ?_ ?_
 ·intro rec; simp
 ·intro rec x hx;have hi:0<l.length:=by
   rcases Nat.eq_zero_or_pos l.length with h|h
   ·rw[alO (by omega)] at hx; cases hx
   ·exact h
  simp only[zz hi,alu,alo,alD,if_true,aly,zu (e:=.i64) hx,zx (show 0<4611686018427387904 by omega),show ¬ (((0:Nat):Int)>0) by omega,alx,aln]
 ·intro rec i x y hx hy hi;have e:wr (((i+1:Nat):Int) - 1)=(i:Int):=by rw[zg (by omega) (by omega)]; omega
  simp only[zz hi,zz (show i<l.length by omega),e,alu,alo,alD,if_true,aly,zu (e:=.i64) hx,zu (e:=.i64) hy,zx (show i+1<4611686018427387904 by omega),show (((i+1:Nat):Int)>0) by omega]
def Jt (c:za):Int:=if zC c=true then c.1 - (c.1 - 1) / 3 else 0
theorem sn (c:za):qw (c,())=some (Jt c,()):=by
 unfold qw Jt;simp only[Y2,alm];by_cases h:zC c=true
 ·obtain⟨h1,h2⟩:=yi h;have e1:wr (c.1 - 1)=c.1 - 1:=zg (by omega) (by omega);have e2:Int.tdiv (c.1 - 1) 3=(c.1 - 1) / 3:=Int.tdiv_eq_ediv_of_nonneg (by omega);simp only[h,alt,aln,if_true,e1,e2];rw[zg (n:=(c.1 - 1) / 3) (by omega) (by omega),zg (by omega) (by omega)]
 ·have h':zC c=false:=by simpa using h
  simp[h']
theorem SF (c:za):dz (c,())=some (Jt c,()):=by
 unfold dz mN Jt;simp only[Qz,alm];by_cases h:zC c=true
 ·obtain⟨h1,h2⟩:=yi h;have e1:wr (c.1 - 1)=c.1 - 1:=zg (by omega) (by omega);have e2:Int.tdiv (c.1 - 1) 3=(c.1 - 1) / 3:=Int.tdiv_eq_ediv_of_nonneg (by omega);simp only[h,alt,aln,if_true,e1,e2,alm];rw[zg (n:=(c.1 - 1) / 3) (by omega) (by omega),zg (by omega) (by omega)]
 ·have h':zC c=false:=by simpa using h
  simp[h']
def YN (c:UInt8) (s:List UInt8):Nat->Option Nat
 | 0=>none
 | k+1=>if s.getD k 0=c then some k else YN c s k
def Yh (s:List UInt8):List UInt8:=if zG s=true then (match YN 47 s s.length with|some k=>s.take k|none=>[]) else []
theorem vY (c:UInt8) (s:List UInt8):∀ k i,YN c s k=some i->i<k
 | 0,i,h=>by cases h
 | k+1,i,h=>by
  simp only[YN] at h;split at h
  ·cases h; omega
  ·have:=vY c s k i h; omega
theorem we (c:UInt8) (s:List UInt8):∀ k,k<=s.length->Lib.lastIdx (ByteArray.mk ⟨s⟩) c.toNat k=match YN c s k with|some i=>(i:Int)|none => -1
 | 0,_=>rfl
 | k+1,h=>by
  have hk:k<s.length:=by omega
  have e:(ByteArray.mk ⟨s⟩).data[k]! = s.getD k 0:=by
   rw[am6,am5 hk];simp[hk]
  simp only[Lib.lastIdx,YN,e];by_cases hc:s.getD k 0=c
  ·rw[if_pos (by rw[hc]),if_pos hc]
  ·rw[if_neg (λ h=>hc (UInt8.toNat_inj.1 (by omega))),if_neg hc,we c s k (by omega)]
theorem UE {s:List UInt8} (h:zG s=true) (h0:s≠[]):∃ l,s=47::l:=by
 unfold zG steps at h;rw[if_neg h0] at h;cases hp:zS 47 s with
 | nil=>exact absurd hp (YQ _ _)
 | cons p ps=>
  rw[hp] at h;simp only at h;split at h
  ·next hc=>
   obtain⟨rfl,_⟩:=hc;cases s with
   | nil=>exact absurd rfl h0
   | cons x l=>
    simp only[zS] at hp;split at hp
    ·next e=>exact⟨l,by rw[e]⟩
    ·cases hl:zS 47 l with
     | nil=>exact absurd hl (YQ 47 l)
     | cons a b=>rw[hl] at hp; simp[glue] at hp
  ·simp at h
theorem vZ {c:UInt8} {l:List UInt8}:∀ k,1<=k->∃ i,YN c (c::l) k=some i
 | 0,h=>by omega
 | 1,_=>⟨0,by simp[YN]⟩
 | k+2,_=>by
  simp only[YN];split
  ·exact⟨_,rfl⟩
  ·exact vZ (k+1) (by omega)
theorem MM (a b:Int):y6 (a,b,())=some (max a b,()):=by
 unfold y6;by_cases h:a>b
 ·simp only[h,alu,alo]; congr 2; omega
 ·simp only[h,alx,aln]; congr 2; omega
theorem bV (s:List UInt8) (hs:s.length<=137438953472):Lz (s,())=some (Yh s,()):=by
 unfold Lz Yh;simp only[KG s hs,alm];by_cases h:zG s=true
 ·simp only[h,alt,aln,if_true];refine (NC (λ x:Int×Unit=>some ((match YN 47 s x.1.toNat with|some k=>s.take k|none=>[]),())) (λ x=>x.1.toNat) (λ x=>0<=x.1/\x.1<=(s.length:Int)) ?_ fuel ((s.length:Int),()) ⟨by simp,by simp⟩
   (by simp only[aly]; have:=Ji (n:=s.length) (by omega); exact this)).trans (by simp)
  rintro rec ⟨v,⟨⟩⟩ ⟨h1,h2⟩ acB;obtain⟨n,rfl⟩:∃ n:Nat,v=(n:Int):=⟨v.toNat,by simp only at h1; omega⟩
  simp only at h2;cases n with
  | zero=>
   have e1:wr (((0:Nat):Int) - 1) = -1:=zg (by decide) (by decide);simp only[show ¬ (((0:Nat):Int)>0) by omega,alx,aln,e1,MM,alm,show max (-1:Int) 0=0 by decide];rw[if_pos (by omega)];simp[YN]
  | succ n=>
   have e1:wr (((n+1:Nat):Int) - 1)=(n:Int):=by rw[zg (by omega) (by omega)]; omega
   simp only[show (((n+1:Nat):Int)>0) by omega,alu,alo,e1,MM,alm,aly,show max (n:Int) 0=(n:Int) by omega,YN,show UInt8.ofNat (Int.toNat 47)=47 from rfl];rw[if_pos (by omega)];by_cases hc:s.getD n 0=47
   ·have e2:(s.getD n 0 != 47)=false:=by rw[hc]; rfl
    rw[e2,if_pos hc];simp only[aln];rw[if_pos (by omega)];simp
   ·have e2:(s.getD n 0 != 47)=true:=bne_iff_ne.2 hc;rw[e2,if_neg hc];simp only[alo];rw[acB ((n:Int),()) ⟨by simp,by simp only; omega⟩ (by simp only[aly]; omega)]
    simp
 ·have h':zG s=false:=by simpa using h
  simp[h']
theorem SR (s:List UInt8) (hs:s.length<=1073741824):dJ (s,())=some (Yh s,()):=by
 unfold dJ Yh;simp only[QG s hs,alm];by_cases h:zG s=true
 ·simp only[h,alt,aln,if_true];by_cases h0:s=[]
  ·subst h0; rfl
  ·have e0:(s==[])=false:=by simp[h0]
   obtain⟨l,rfl⟩:=UE h h0;obtain⟨i,hi⟩:=vZ (c:=47) (l:=l) (47::l).length (by simp);have hlt:=vY _ _ _ _ hi;have e1:strings_LastIndexByte (47::l,UInt8.ofNat (Int.toNat 47),())=some ((i:Int),()):=by
    unfold strings_LastIndexByte;dsimp only;rw[if_pos (by omega)];have:=we 47 (47::l) (47::l).length (Nat.le_refl _);rw[hi] at this;simp only at this;rw[←this]; rfl
   simp only[e0,aln,e1,alm,hi];rw[if_pos (by omega)];simp
 ·have h':zG s=false:=by simpa using h
  simp[h']
def z8 (c:za) (q:zJ):Bool:=
 zC c && (zG q.2.1 && (zo q.2.1==q.1 && (bif q.2.1==[] then ((q.2.2.length:Int)==0) else (j4 c.1 q.2.2 && decide ((q.2.2.length:Int)≥Jt c)))))
theorem Lx (c:za) (q:zJ) (hw:zi q<=137438953472):Y4 (c,q,())=some (z8 c q,()):=by
 have h1:q.2.1.length<=137438953472:=by simp only[zi] at hw; omega
 have h2:q.2.2.length<=137438953472:=by simp only[zi,zn] at hw; omega
 unfold Y4 z8;simp only[Y2,KG _ h1,Y5 _ h1,sr _ _ h2,sn,alm];cases zC c
 ·rfl
 cases zG q.2.1
 ·rfl
 by_cases e:zo q.2.1=q.1
 ·have e1:(zo q.2.1 != q.1)=false:=by simp[e]
  have e2:(zo q.2.1==q.1)=true:=by simp[e]
  rw[e1,e2];cases (q.2.1==[])<;>cases j4 c.1 q.2.2<;>rfl
 ·have e1:(zo q.2.1 != q.1)=true:=by simp[e]
  have e2:(zo q.2.1==q.1)=false:=by simp[e]
  rw[e1,e2]; rfl
theorem dx (c:za) (q:zJ) (hw:zi q<=1073741824):L4 (c,q,())=some (z8 c q,()):=by
 have h1:q.2.1.length<=1073741824:=by simp only[zi] at hw; omega
 have h2:q.2.2.length<=1073741824:=by simp only[zi,zn] at hw; omega
 unfold L4 mP z8;simp only[Qz,QG _ h1,vj _ h1,vg _ _ (show q.2.2.length<=137438953472 by omega),SF,dy q _ (show q.2.2.length<=8796093022208 by omega),alm];cases zC c
 ·rfl
 simp only[alt,aln,alI];obtain⟨v,name,who⟩:=q;simp only[jh];by_cases hn:name=[]
 ·subst hn;obtain⟨k1,k2⟩:=wo;rw[k1,k2];by_cases hv:v=0
  ·subst hv;cases who with
   | nil=>rfl
   | cons a b=>
    simp;omega
  ·have e1:(v==0)=false:=by simp[hv]
   have e2:((0:Int)==v)=false:=by simp; omega
   have e3:(v==(0:Int))=false:=e1;rw[e1,e2];simp[hv]
 ·have e0:(name==[])=false:=by simp[hn]
  rw[e0];simp only[ami,amM,aln];by_cases hk:zG name=true
  ·obtain⟨w1,w2⟩:=ak hk hn;rw[hk];by_cases e:zo name=v
   ·have e1:(v==zo name)=true:=by simp[e]
    have e2:(zo name==v)=true:=by simp[e]
    have e3:decide (v≥1)=true:=by simp; omega
    rw[e1,e2,e3];cases j4 c.1 who<;>simp
   ·have e1:(v==zo name)=false:=by simp; omega
    have e2:(zo name==v)=false:=by simp[e]
    rw[e1,e2];cases decide (v≥1)<;>rfl
  ·have hk':zG name=false:=by simpa using hk
   rw[hk'];cases decide (v≥1)<;>rfl
def jX (c:za) (b:jf):Bool:=z8 c b.2 && (zG b.1 && (b.1 != [] && Yh b.1==b.2.2.1))
theorem gG (c:za) (b:jf) (hw:zD b<=137438953472):Mu (c,b,())=some (jX c b,()):=by
 have h1:b.1.length<=137438953472:=by simp only[zD] at hw; omega
 unfold Mu jX;simp only[Lx c b.2 (by simp only[zD] at hw; omega),KG _ h1,bV _ h1,Option.bind_some]
 cases z8 c b.2<;>cases zG b.1<;>cases (b.1 != [])<;>rfl
theorem Ss (c:za) (b:jf) (hw:zD b<=1073741824):di (c,b,())=some (jX c b,()):=by
 have h1:b.1.length<=1073741824:=by simp only[zD] at hw; omega
 unfold di jX;simp only[dx c b.2 (by simp only[zD] at hw; omega),QG _ h1,SR _ h1,Option.bind_some]
 cases z8 c b.2<;>cases zG b.1<;>cases (b.1 != [])<;>rfl
def jm (c:za) (p:zM):Bool:=
 zC c && ((decide (p.1≥1) && decide (p.1<=60)) && (j4 c.1 p.2.2 && (decide ((p.2.2.length:Int)>0) && (p.2.1==[] || (zG p.2.1 && zo p.2.1==p.1)))))
theorem bJ (c:za) (p:zM) (hw:zm p<=137438953472):KH (c,p,())=some (jm c p,()):=by
 have h1:p.2.1.length<=137438953472:=by simp only[zm] at hw; omega
 have h2:p.2.2.length<=137438953472:=by simp only[zm,zn] at hw; omega
 unfold KH jm;simp only[Y2,Yw,sr _ _ h2,KG _ h1,Y5 _ h1,alm];have e:((p.2.2.length:Int)==0) = !decide ((p.2.2.length:Int)>0):=by
  generalize p.2.2.length=n;cases n with
  | zero=>rfl
  | succ k=>
   have a1:(((k+1:Nat):Int)==0)=false:=by rw[beq_eq_false_iff_ne]; omega
   have a2:decide (((k+1:Nat):Int)>0)=true:=decide_eq_true (by omega);rw[a1,a2]; rfl
 rw[e];cases zC c<;>cases (decide (p.1≥1) && decide (p.1<=60))<;>cases j4 c.1 p.2.2<;>cases decide ((p.2.2.length:Int)>0)<;>cases (p.2.1==[])<;>cases zG p.2.1<;>rfl
theorem mO (c:za) (p:zM) (hw:zm p<=1073741824):QI (c,p,())=some (jm c p,()):=by
 have h1:p.2.1.length<=1073741824:=by simp only[zm] at hw; omega
 have h2:p.2.2.length<=137438953472:=by simp only[zm,zn] at hw; omega
 unfold QI jm;simp only[Qz,JR,vg _ _ h2,QG _ h1,vj _ h1,alm];cases zC c<;>cases (decide (p.1≥1) && decide (p.1<=60))<;>cases j4 c.1 p.2.2<;>cases (p.2.1==[])<;>cases zG p.2.1<;>cases (zo p.2.1==p.1)<;>cases decide ((p.2.2.length:Int)>0)<;>rfl
theorem pB (a b:zJ):jh a b=decide (a=b):=by
 obtain⟨a1,a2,a3⟩:=a;obtain⟨b1,b2,b3⟩:=b;unfold jh;rw[amY];simp[Prod.ext_iff]
theorem PE (a b:jf):YD a b=decide (a=b):=by
 obtain⟨a1,a2⟩:=a;obtain⟨b1,b2⟩:=b;unfold YD;simp only[pB];rw[amY];simp[Prod.ext_iff]
theorem ac5 (a b:zN):MQ a b=decide (a=b):=by
 obtain⟨a1,a2,a3,a4⟩:=a;obtain⟨b1,b2,b3,b4⟩:=b;unfold MQ;rw[amY];simp[Prod.ext_iff]
theorem wm (a b:zw):ZF a b=true↔a=b:=by
 obtain⟨a1,a2,a3,a4,a5,a6,a7⟩:=a;obtain⟨b1,b2,b3,b4,b5,b6,b7⟩:=b;unfold ZF;simp only[pB,PE,ac5];simp only[alp,alT,alz,alw]
theorem UB (a b:zw):ZF a b=ZF b a:=by
 rw[amY,wm,wm];exact⟨λ h=>h.symm,λ h=>h.symm⟩
def canon (m:zw):zw:=
 bif (m.1==1) then (m.1,0,m.2.2.1,(0,[],[]),(0,[],[]),0,(0,0,0,0)) else
 bif (m.1==2) then (m.1,0,([],0,[],[]),m.2.2.2.1,(0,[],[]),0,(0,0,0,0)) else
 bif (m.1==3) then (m.1,m.2.1,([],0,[],[]),(0,[],[]),m.2.2.2.2.1,m.2.2.2.2.2.1,(0,0,0,0)) else
 bif (m.1==4) then (m.1,0,([],0,[],[]),(0,[],[]),(0,[],[]),0,m.2.2.2.2.2.2) else
 (m.1,0,([],0,[],[]),(0,[],[]),(0,[],[]),0,(0,0,0,0))
theorem abB (m:zw) (h:MsgW m):kF (m,())=some (ZF (canon m) m,()):=by
 obtain⟨h1,h2,h3⟩:=h;have hz:([]:List Int).length<=8796093022208:=by simp
 unfold kF canon;dsimp only;rw[qq (m.1,0,m.2.2.1,(0,[],[]),(0,[],[]),0,(0,0,0,0)) m ⟨h1,hz,hz⟩,qq (m.1,0,([],0,[],[]),m.2.2.2.1,(0,[],[]),0,(0,0,0,0)) m ⟨hz,h2,hz⟩,
  qq (m.1,m.2.1,([],0,[],[]),(0,[],[]),m.2.2.2.2.1,m.2.2.2.2.2.1,(0,0,0,0)) m ⟨hz,hz,h3⟩,qq (m.1,0,([],0,[],[]),(0,[],[]),(0,[],[]),0,m.2.2.2.2.2.2) m ⟨hz,hz,hz⟩,
  qq (m.1,0,([],0,[],[]),(0,[],[]),(0,[],[]),0,(0,0,0,0)) m ⟨hz,hz,hz⟩]
 simp only[alm];cases (m.1==1)<;>cases (m.1==2)<;>cases (m.1==3)<;>cases (m.1==4)<;>rfl
theorem S0 (m:zw):dU (m,())=some (canon m,()):=by
 unfold dU canon;cases (m.1==1)<;>cases (m.1==2)<;>cases (m.1==3)<;>cases (m.1==4)<;>rfl
noncomputable def yO (c:za) (m:zw):Bool:=
 zC c && (ZF (canon m) m && (bif (m.1==1) then jX c m.2.2.1 else bif (m.1==2) then (jm c m.2.2.2.1 && m.2.2.2.1.2.1 != []) else
  bif (m.1==3) then ((decide (m.2.1≥1) && decide (m.2.1<=60)) && (z8 c m.2.2.2.2.1 && (decide (m.2.2.2.2.2.1≥0) && decide (m.2.2.2.2.2.1<=wr (c.1 - 1))))) else
  bif (m.1==4) then zH m.2.2.2.2.2.2 else false))
theorem qp (c:za) (m:zw) (hw:zj m<=137438953472):Yd (c,m,())=some (yO c m,()):=by
 have hW:MsgW m:=MsgW.of (by omega);have h1:zD m.2.2.1<=137438953472:=by simp only[zj] at hw; omega
 have h2:zm m.2.2.2.1<=137438953472:=by simp only[zj] at hw; omega
 have h3:zi m.2.2.2.2.1<=137438953472:=by simp only[zj] at hw; omega
 unfold Yd yO;simp only[Y2,abB m hW,gG c _ h1,bJ c _ h2,Lx c _ h3,Yw,ME,alm];cases zC c
 ·rfl
 cases ZF (canon m) m
 ·rfl
 cases (m.1==1)
 ·cases (m.1==2)
  ·cases (m.1==3)
   ·cases (m.1==4)<;>rfl
   ·cases (decide (m.2.1≥1) && decide (m.2.1<=60))<;>cases z8 c m.2.2.2.2.1<;>rfl
  ·cases jm c m.2.2.2.1<;>rfl
 ·rfl
theorem Sy (c:za) (m:zw) (hw:zj m<=1073741824):dp (c,m,())=some (yO c m,()):=by
 have hW:MsgW m:=MsgW.of (by omega);have h1:zD m.2.2.1<=1073741824:=by simp only[zj] at hw; omega
 have h2:zm m.2.2.2.1<=1073741824:=by simp only[zj] at hw; omega
 have h3:zi m.2.2.2.2.1<=1073741824:=by simp only[zj] at hw; omega
 unfold dp yO;simp only[Qz,S0,Sz m _ hW,UB m (canon m),Ss c _ h1,mO c _ h2,dx c _ h3,JR,Nz,alm];cases zC c
 ·rfl
 cases ZF (canon m) m
 ·rfl
 cases (m.1==1)
 ·cases (m.1==2)
  ·cases (m.1==3)
   ·cases (m.1==4)<;>rfl
   ·cases (decide (m.2.1≥1) && decide (m.2.1<=60))<;>cases z8 c m.2.2.2.2.1<;>rfl
  ·cases jm c m.2.2.2.1<;>rfl
 ·rfl
abbrev Zz:Ty:=.pair .i64 (.pair .i64 (.pair .i64 .i64))
abbrev JF:Ty:=.pair .i64 (.pair .str (.sl 0 .i64))
abbrev lK:Ty:=.pair .i64 (.pair .i64 (.pair .i64 (.pair (.pair .str (.pair .i64 (.pair .str (.sl 0 .i64)))) (.pair (.pair .i64 (.pair .str (.sl 0 .i64))) (.pair (.pair .i64 (.pair .str (.sl 0 .i64))) (.pair .i64 (.pair .i64 (.pair .i64 (.pair .i64 .i64)))))))))
theorem lV {α:Type} (p:α->Bool) (l:List α) {G:(Int×Unit->Option (Bool×Unit))->Int×Unit->Option (Bool×Unit)} (hl:l.length<=1152921504606846976)
  (acT:∀ rec s,G rec ((l.length:Int),s)=some (true,()))
  (acP:∀ rec (i:Nat) s x,l[i]?=some x->i<l.length->G rec ((i:Int),s)=bif p x then rec ((i:Int)+1,s) else some (false,())):
  iter G fuel (0,())=some (l.all p,()):=by
 refine (Qs l (λ x s rec=>bif p x then rec s else some (false,())) (λ s=>some (true,())) (λ i s=>(i,s)) hl acT acP ?_ ()).trans (uF _ _);intro x s r1 r2 hr; simp[hr]
def yK {α:Type} (ok:α->Bool) (lt:α->α->Bool):Option α->List α->Bool
 | _,[]=>true
 | p,x::l=>ok x && ((match p with|none=>true|some y=>lt y x) && yK ok lt (some x) l)
theorem cN {α:Type} (ok:α->Bool) (lt:α->α->Bool) (fin:Bool) (l:List α) (hl:l.length<=1152921504606846976)
  {G:(Int×Unit->Option (Bool×Unit))->Int×Unit->Option (Bool×Unit)}
  (acT:∀ rec,G rec ((l.length:Int),())=some (fin,()))
  (h0:∀ rec x,l[0]?=some x->0<l.length->G rec (0,())=bif ok x then rec (1,()) else some (false,()))
  (acP:∀ rec (i:Nat) x y,l[i]?=some x->l[i+1]?=some y->i+1<l.length->G rec (((i+1:Nat):Int),())=bif ok y then (bif lt x y then rec (((i+1:Nat):Int)+1,()) else some (false,())) else some (false,())):
  iter G fuel (0,())=some (yK ok lt none l && fin,()):=by
 let pv:Nat->Option α:=λ i=>match i with|0=>none|j+1=>l[j]?
 refine (walk l.length (λ i (_:Unit)=>(i,())) (λ _ _=>True) (λ i _=>some (yK ok lt (pv i) (l.drop i) && fin,())) hl ?_ ?_ (s0:=()) trivial).trans (by simp only[alN,pv])
 ·intro rec s _;rw[acT,am7]; simp[yK]
 ·intro rec i s hi _;have hx:l[i]?=some l[i]:=List.getElem?_eq_getElem hi;cases i with
  | zero=>
   rw[show ((0:Nat):Int)=0 from rfl,h0 rec l[0] hx hi,List.drop_eq_getElem_cons hi];cases hk:ok l[0] with
   | true=>
    right;have e2:pv (0+1)=some l[0]:=hx;exact⟨(),trivial,by simp,by rw[e2]; simp[yK,show pv 0=none from rfl,hk]⟩
   | false=>left; simp[yK,hk]
  | succ j=>
   have hj:l[j]?=some l[j]:=List.getElem?_eq_getElem (by omega);rw[acP rec j l[j] l[j+1] hj hx hi,List.drop_eq_getElem_cons hi];have e:pv (j+1)=some l[j]:=hj;have e2:pv (j+1+1)=some l[j+1]:=hx;rw[e];cases hk:ok l[j+1] with
   | true=>
    cases hlt:lt l[j] l[j+1] with
    | true=>right; exact⟨(),trivial,by simp,by rw[e2]; simp[yK,hk,hlt]⟩
    | false=>left; simp[yK,hk,hlt]
   | false=>left; simp[yK,hk]
def zU (c:za) (s:zr):Bool:=(decide (s.1≥0) && decide (s.1<=60)) && ((decide (s.2.1≥0) && decide (s.2.1<=60)) && (z8 c s.2.2.1 && zG s.2.2.2))
theorem qy (c:za) (s:zr) (hw:zt s<=137438953472):KJ (c,s,())=some (zU c s,()):=by
 simp only[zt] at hw;unfold KJ zU;simp only[Yw,Lx c s.2.2.1 (by omega),KG s.2.2.2 (by omega),alm];cases (decide (s.1≥0) && decide (s.1<=60))<;>cases (decide (s.2.1≥0) && decide (s.2.1<=60))<;>cases z8 c s.2.2.1<;>rfl
theorem mR (c:za) (s:zr) (hw:zt s<=1073741824):Nw (c,s,())=some (zU c s,()):=by
 simp only[zt] at hw;unfold Nw zU;simp only[JR,dx c s.2.2.1 (by omega),QG s.2.2.2 (by omega),alm];cases (decide (s.1≥0) && decide (s.1<=60))<;>cases (decide (s.2.1≥0) && decide (s.2.1<=60))<;>cases z8 c s.2.2.1<;>rfl
def jI (a b:zN):Bool:=decide (a.1<b.1) || (a.1==b.1 && decide (a.2.2.2<b.2.2.2))
theorem DZ (a b:zN):cm (a,b,())=some (jI a b,()):=by
 unfold cm jI;dsimp only;cases decide (a.1<b.1)<;>cases (a.1==b.1)<;>rfl
theorem ST (a b:zN):dL (a,b,())=some (jI a b,()):=by
 unfold dL jI;dsimp only;cases decide (a.1<b.1)<;>cases (a.1==b.1)<;>rfl
def jL (l:zE):Bool:=yK zH jI none l && decide ((l.length:Int)<=12)
theorem DG (l:zE) (hl:l.length<=137438953472):My (l,())=some (jL l,()):=by
 unfold My jL;refine cN zH jI _ l (by omega) ?_ ?_ ?_
 ·intro rec; simp
 ·intro rec x hx hi;have hi0:(0:Int)<(l.length:Int):=by omega
  simp only[hi0,alu,alo,amO,alD,if_true,amh,zu (e:=Zz) hx,ME,alm,show wr ((0:Int)+1)=1 from zx (show 0<4611686018427387904 by omega),show ¬ ((0:Int)>0) by omega,alx,aln];cases zH x<;>rfl
 ·intro rec i x y hx hy hi;have e:wr (((i+1:Nat):Int) - 1)=(i:Int):=by rw[zg (by omega) (by omega)]; omega
  simp only[zz hi,zz (show i<l.length by omega),e,alu,alo,alD,if_true,aly,zu (e:=Zz) hx,zu (e:=Zz) hy,ME,DZ,alm,zx (show i+1<4611686018427387904 by omega),show (((i+1:Nat):Int)>0) by omega];cases zH y<;>cases jI x y<;>rfl
theorem SD (l:zE) (hl:l.length<=137438953472):du (l,())=some (jL l,()):=by
 unfold du jL;refine cN zH jI _ l (by omega) ?_ ?_ ?_
 ·intro rec; simp
 ·intro rec x hx hi;have hi0:(0:Int)<(l.length:Int):=by omega
  simp only[hi0,alu,alo,amO,alD,if_true,amh,zu (e:=Zz) hx,Nz,alm,show wr ((0:Int)+1)=1 from zx (show 0<4611686018427387904 by omega),show ¬ ((0:Int)>0) by omega,alx,aln];cases zH x<;>rfl
 ·intro rec i x y hx hy hi;have e:wr (((i+1:Nat):Int) - 1)=(i:Int):=by rw[zg (by omega) (by omega)]; omega
  simp only[zz hi,zz (show i<l.length by omega),e,alu,alo,alD,if_true,aly,zu (e:=Zz) hx,zu (e:=Zz) hy,Nz,ST,alm,zx (show i+1<4611686018427387904 by omega),show (((i+1:Nat):Int)>0) by omega];cases zH y<;>cases jI x y<;>rfl
def Z0 (a b:zM):Bool:=decide (a.1<b.1) || (a.1==b.1 && Go.Op.bytesLess a.2.1 b.2.1)
theorem DR (a b:zM):bY (a,b,())=some (Z0 a b,()):=by
 unfold bY Z0;dsimp only;cases decide (a.1<b.1)<;>cases (a.1==b.1)<;>rfl
def fL (a b:zM):Int:=if a.1<b.1 then -1 else if a.1>b.1 then 1 else if Go.Op.bytesLess a.2.1 b.2.1=true then -1 else if a.2.1=b.2.1 then 0 else 1
theorem SU (a b:zM):dM (a,b,())=some (fL a b,()):=by
 unfold dM mi mj cP cQ fL;simp only[bne_self_eq_false,alm,aln];by_cases h1:a.1<b.1
 ·simp[h1]
 ·by_cases h2:a.1>b.1
  ·simp[h1,h2]
  ·cases h3:Go.Op.bytesLess a.2.1 b.2.1
   ·by_cases h4:a.2.1=b.2.1
    ·simp[h1,h2,h4,h3]
    ·have h5:(a.2.1==b.2.1)=false:=by simp[h4]
     simp[h1,h2,h4,h5]
   ·simp[h1,h2,h3]
theorem U9 (a b:zM):decide (fL a b≥0) = !Z0 a b:=by
 unfold fL Z0;by_cases h1:a.1<b.1
 ·simp[h1]
 ·by_cases h2:a.1>b.1
  ·have:¬ a.1=b.1:=by omega
   simp[h1,h2,this]
  ·have:a.1=b.1:=by omega
   simp only[h1,h2,this,if_false];cases h3:Go.Op.bytesLess a.2.1 b.2.1
   ·by_cases h4:a.2.1=b.2.1<;>simp[h4]
   ·simp
def jO (c:za) (l:yg):Bool:=yK (jm c) Z0 none l && decide ((l.length:Int)<=20)
theorem MU {l:yg} {x:zM} {N:Nat} (hw:zI l<=N) {i:Nat} (hx:l[i]?=some x):zm x<=N:=by
 have:=ZX zm (List.mem_of_getElem? hx); unfold zI at hw; omega
theorem DL (c:za) (l:yg) (hw:zI l<=137438953472):MD (c,l,())=some (jO c l,()):=by
 have hl:l.length<=137438953472:=by unfold zI at hw; omega
 unfold MD jO;refine cN (jm c) Z0 _ l (by omega) ?_ ?_ ?_
 ·intro rec; simp
 ·intro rec x hx hi;have hi0:(0:Int)<(l.length:Int):=by omega
  simp only[hi0,alu,alo,amO,alD,if_true,amh,zu (e:=JF) hx,bJ c x (MU hw hx),alm,show wr ((0:Int)+1)=1 from zx (show 0<4611686018427387904 by omega),show ¬ ((0:Int)>0) by omega,alx,aln];cases jm c x<;>rfl
 ·intro rec i x y hx hy hi;have e:wr (((i+1:Nat):Int) - 1)=(i:Int):=by rw[zg (by omega) (by omega)]; omega
  simp only[zz hi,zz (show i<l.length by omega),e,alu,alo,alD,if_true,aly,zu (e:=JF) hx,zu (e:=JF) hy,bJ c y (MU hw hy),DR,alm,zx (show i+1<4611686018427387904 by omega),show (((i+1:Nat):Int)>0) by omega];cases jm c y<;>cases Z0 x y<;>rfl
theorem SL (c:za) (l:yg) (hw:zI l<=1073741824):dG (c,l,())=some (jO c l,()):=by
 have hl:l.length<=137438953472:=by unfold zI at hw; omega
 unfold dG jO;refine cN (jm c) Z0 _ l (by omega) ?_ ?_ ?_
 ·intro rec; simp
 ·intro rec x hx hi;have hi0:(0:Int)<(l.length:Int):=by omega
  simp only[hi0,alu,alo,amO,alD,if_true,amh,zu (e:=JF) hx,mO c x (MU hw hx),alm,show wr ((0:Int)+1)=1 from zx (show 0<4611686018427387904 by omega),show ¬ ((0:Int)>0) by omega,alx,aln];cases jm c x<;>rfl
 ·intro rec i x y hx hy hi;have e:wr (((i+1:Nat):Int) - 1)=(i:Int):=by rw[zg (by omega) (by omega)]; omega
  simp only[zz hi,zz (show i<l.length by omega),e,alu,alo,alD,if_true,aly,zu (e:=JF) hx,zu (e:=JF) hy,mO c y (MU hw hy),SU,U9,alm,zx (show i+1<4611686018427387904 by omega),show (((i+1:Nat):Int)>0) by omega];cases jm c y<;>cases Z0 x y<;>rfl
noncomputable def Z3 (c:za) (id:Int) (p:J9):Bool:=yO c p.2 && ((decide (p.1≥0) && decide (p.1<=c.1 - 1)) && !(p.1==id))
noncomputable def ze (c:za) (r:zb):Bool:=
 zC c && ((decide (r.1≥0) && decide (r.1<=c.1 - 1)) && ((decide (r.2.1≥1) && decide (r.2.1<=60)) && ((decide (r.2.2.1≥0) && decide (r.2.2.1<=60)) &&
  (zU c r.2.2.2.1 && (jL r.2.2.2.2.1 && (jO c r.2.2.2.2.2.1 && (yB r.2.2.2.2.2.2.1 && (decide ((r.2.2.2.2.2.2.2.length:Int)<=30) && r.2.2.2.2.2.2.2.all (Z3 c r.1)))))))))
theorem lD {l:Zg} {x:J9} {N:Nat} (hw:yt l<=N) {i:Nat} (hx:l[i]?=some x):zj x.2<=N:=by
 have:=ZX Yi (List.mem_of_getElem? hx); simp only[Yi] at this; unfold yt at hw; omega
theorem Qv (n m:Int):decide (n>m) = !decide (n<=m):=by
 by_cases h:n<=m
 ·have:¬ n>m:=by omega
  simp[h,this]
 ·have:n>m:=by omega
  simp[h,this]
theorem Zv (c:za) (r:zb) (hw:zf r<=137438953472):jV (c,r,())=some (ze c r,()):=by
 simp only[zf,Y7] at hw;have hh:yt r.2.2.2.2.2.2.2<=137438953472:=by omega
 have hl:r.2.2.2.2.2.2.2.length<=137438953472:=by unfold yt at hh; omega
 unfold jV ze;simp only[Y2,alm];cases hc:zC c
 ·rfl
 obtain⟨hc1,hc2⟩:=yi hc;have e1:wr (c.1 - 1)=c.1 - 1:=zg (by omega) (by omega);simp only[alt,aln,alI,e1,Yw,qy c r.2.2.2.1 (by omega),DG r.2.2.2.2.1 (by omega),DL c r.2.2.2.2.2.1 (by omega),gJ,alm,Qv ((r.2.2.2.2.2.2.2.length:Nat):Int) 30];cases (decide (r.1≥0) && decide (r.1<=c.1 - 1))
 ·rfl
 cases (decide (r.2.1≥1) && decide (r.2.1<=60))
 ·rfl
 cases (decide (r.2.2.1≥0) && decide (r.2.2.1<=60))
 ·rfl
 cases zU c r.2.2.2.1
 ·rfl
 cases jL r.2.2.2.2.1
 ·rfl
 cases jO c r.2.2.2.2.2.1
 ·rfl
 cases yB r.2.2.2.2.2.2.1
 ·rfl
 cases decide ((r.2.2.2.2.2.2.2.length:Int)<=30)
 ·rfl
 simp only[alt,aln,alI];refine lV (Z3 c r.1) r.2.2.2.2.2.2.2 (by omega) ?_ ?_
 ·intro rec s; simp
 ·intro rec i s x hx hi;simp only[zz hi,alu,alo,alD,if_true,aly,zu (e:=lK) hx,qp c x.2 (lD hh hx),alm,zx (show i<4611686018427387904 by omega),Z3];cases yO c x.2<;>cases (decide (x.1≥0) && decide (x.1<=c.1 - 1))<;>cases (x.1==r.1)<;>rfl
theorem Kf (c:za) (r:zb) (hw:zf r<=1073741824):yX (c,r,())=some (ze c r,()):=by
 simp only[zf,Y7] at hw;have hh:yt r.2.2.2.2.2.2.2<=1073741824:=by omega
 have hl:r.2.2.2.2.2.2.2.length<=1073741824:=by unfold yt at hh; omega
 unfold yX ze;simp only[Qz,alm];cases hc:zC c
 ·rfl
 obtain⟨hc1,hc2⟩:=yi hc;have e1:wr (c.1 - 1)=c.1 - 1:=zg (by omega) (by omega);simp only[alt,aln,alI,e1,JR,mR c r.2.2.2.1 (by omega),SD r.2.2.2.2.1 (by omega),SL c r.2.2.2.2.2.1 (by omega),u6,alm,Qv ((r.2.2.2.2.2.2.2.length:Nat):Int) 30];cases (decide (r.1≥0) && decide (r.1<=c.1 - 1))
 ·rfl
 cases (decide (r.2.1≥1) && decide (r.2.1<=60))
 ·rfl
 cases (decide (r.2.2.1≥0) && decide (r.2.2.1<=60))
 ·rfl
 cases zU c r.2.2.2.1
 ·rfl
 cases jL r.2.2.2.2.1
 ·rfl
 cases jO c r.2.2.2.2.2.1
 ·rfl
 cases yB r.2.2.2.2.2.2.1
 ·rfl
 cases decide ((r.2.2.2.2.2.2.2.length:Int)<=30)
 ·rfl
 simp only[alt,aln,alI];refine lV (Z3 c r.1) r.2.2.2.2.2.2.2 (by omega) ?_ ?_
 ·intro rec s; simp
 ·intro rec i s x hx hi;simp only[zz hi,alu,alo,alD,if_true,aly,zu (e:=lK) hx,Sy c x.2 (lD hh hx),alm,zx (show i<4611686018427387904 by omega),Z3];cases yO c x.2<;>cases (decide (x.1≥0) && decide (x.1<=c.1 - 1))<;>cases (x.1==r.1)<;>rfl
def je (c:za) (v:Int):Int:=if zC c=true/\0<=v then Int.tmod v c.1 else -1
theorem MA (c:za) (v:Int):jN (c,v,())=some (je c v,()):=by
 unfold jN je;simp only[Y2,alm];by_cases h:zC c=true
 ·obtain⟨h1,h2⟩:=yi h;simp only[h,alt,aln];by_cases hv:v<0
  ·rw[if_neg (show ¬ (True/\0<=v) by omega)];simp[hv]
  ·rw[if_pos (show True/\0<=v from⟨trivial,by omega⟩)];simp only[hv,alx,aln];rw[if_neg (by omega)]
 ·have h':zC c=false:=by simpa using h
  simp[h']
theorem acZ (c:za) (v:Int):s7 (c,v,())=some (je c v,()):=by
 unfold s7 je;simp only[Qz,alm];by_cases h:zC c=true
 ·obtain⟨h1,h2⟩:=yi h;simp only[h,alt,aln];by_cases hv:v<0
  ·rw[if_neg (show ¬ (True/\0<=v) by omega)];simp[hv]
  ·rw[if_pos (show True/\0<=v from⟨trivial,by omega⟩)];simp only[hv,alx,aln];rw[if_neg (by omega)]
 ·have h':zC c=false:=by simpa using h
  simp[h']
noncomputable def eF (c:za) (liars:jg) (list:yW) (m:zw):Bool:=
 yO c m && (bif (m.1==1) then liars.any (· == je c (zo m.2.2.1.1)) && signed liars list m.2.2.1.2.1 m.2.2.1.2.2.1 m.2.2.1.2.2.2 else
  bif (m.1==2) then signed liars list m.2.2.2.1.1 m.2.2.2.1.2.1 m.2.2.2.1.2.2 else
  bif (m.1==3) then liars.any (· == m.2.2.2.2.2.1) && signed liars list m.2.2.2.2.1.1 m.2.2.2.2.1.2.1 m.2.2.2.2.1.2.2 else true)
theorem abb (c:za) (liars:jg) (list:yW) (m:zw) (hw:zj m<=137438953472) (h1:liars.length<=1073741824) (h2:list.length<=137438953472):bG (c,liars,list,m,())=some (eF c liars list m,()):=by
 have n1:m.2.2.1.1.length<=137438953472:=by simp only[zj,zD] at hw; omega
 have w1:m.2.2.1.2.2.2.length<=1152921504606846976:=by simp only[zj,zD,zi,zn] at hw; omega
 have w2:m.2.2.2.1.2.2.length<=1152921504606846976:=by simp only[zj,zm,zn] at hw; omega
 have w3:m.2.2.2.2.1.2.2.length<=1152921504606846976:=by simp only[zj,zi,zn] at hw; omega
 unfold bG eF;simp only[qp c m hw,Y5 _ n1,MA,Yv liars _ (show liars.length<=1152921504606846976 by omega),alm,
  ss liars list _ _ m.2.2.1.2.2.2 (show liars.length<=1152921504606846976 by omega) (by omega) w1,ss liars list _ _ m.2.2.2.1.2.2 (show liars.length<=1152921504606846976 by omega) (by omega) w2,
  ss liars list _ _ m.2.2.2.2.1.2.2 (show liars.length<=1152921504606846976 by omega) (by omega) w3]
 cases yO c m
 ·rfl
 cases (m.1==1)
 ·cases (m.1==2)
  ·cases (m.1==3)
   ·rfl
   ·cases liars.any (· == m.2.2.2.2.2.1)<;>rfl
  ·rfl
 ·cases liars.any (· == je c (zo m.2.2.1.1))<;>rfl
end G448
namespace G448
open Ev
theorem nj (a b:Int):yj (a,b,())=some (if a<b then a else b,()):=by
 unfold yj;dsimp only;by_cases h:a<b
 ·simp[h]
 ·simp[h]
theorem TE (a b:Int):y6 (a,b,())=some (if a>b then a else b,()):=by
 unfold y6;dsimp only;by_cases h:a>b
 ·simp[h]
 ·simp[h]
def LY (d:yJ) (keep:Int):Int:=d.2+(if 0>(if keep<(d.1.length:Int) - d.2 then keep else (d.1.length:Int) - d.2) then 0 else (if keep<(d.1.length:Int) - d.2 then keep else (d.1.length:Int) - d.2))
def K7 (d:yJ) (keep:Int):yJ:=if yB d=true then (d.1.take (LY d keep).toNat,LY d keep) else d
theorem K4 {d:yJ}:yB d=true↔(d.1.length:Int)<=100000/\0<=d.2/\d.2<=(d.1.length:Int):=by
 simp[yB]
theorem uw {d:yJ} (h:yB d=true) (keep:Int):0<=LY d keep/\LY d keep<=(d.1.length:Int)/\LY d keep<=100000:=by
 obtain⟨h1,h2,h3⟩:=K4.1 h;unfold LY;split<;>split<;>omega
theorem ab1 (d:yJ) (keep:Int) (h:d.1.length<=17592186044416):bD (d,keep,())=some (K7 d keep,()):=by
 unfold bD K7;simp only[ky d (by omega),gJ,alm];cases hd:yB d with
 | false=>simp
 | true=>
  obtain⟨h1,h2,h3⟩:=K4.1 hd;obtain⟨g1,g2,g3⟩:=uw hd keep;simp only[alt,aln,zg (show (-9223372036854775808:Int)<=(d.1.length:Int) - d.2 by omega) (show (d.1.length:Int) - d.2<=9223372036854775807 by omega),nj,TE,alm,if_true];rw[show d.2+(if 0>(if keep<(d.1.length:Int) - d.2 then keep else (d.1.length:Int) - d.2) then 0 else (if keep<(d.1.length:Int) - d.2 then keep else (d.1.length:Int) - d.2))=LY d keep from rfl,
   zg (by omega) (by omega),if_pos ⟨amO 0,g1,g2⟩]
  simp only[amh,alN,amv,alL];rw[if_pos (by rw[alE]; omega)]
def qV (d:yJ):yJ:=if yB d=true then (d.1,(d.1.length:Int)) else d
theorem abq (d:yJ) (h:d.1.length<=17592186044416):kn (d,())=some (qV d,()):=by
 unfold kn qV;simp only[ky d (by omega),gJ,alm];cases hd:yB d<;>simp
theorem agF (d:yJ) (h:d.1.length<=17592186044416):ad9 (d,())=some (qV d,()):=by
 unfold ad9 qV;simp only[vk d (by omega),u6,alm];cases hd:yB d<;>simp
abbrev zL:=List UInt8×Int×Int
def z6 (c:zL):Prop:=c.1.length<=big/\0<=c.2.1
theorem tQ (x:Int):0<=band x 255/\band x 255<=255:=by
 unfold band;have h:(BitVec.ofInt 64 x &&& BitVec.ofInt 64 255).toNat<=255:=by
  rw[BitVec.toNat_and];exact Nat.le_trans Nat.and_le_right (by decide)
 rw[zg (by omega) (by omega)];omega
theorem Eg {a n:Int} (ha:0<=a) (hn:0<n):0<=a.tmod n/\a.tmod n<n:=by
 rw[Int.tmod_eq_emod_of_nonneg ha];exact⟨Int.emod_nonneg _ (by omega),Int.emod_lt_of_pos _ hn⟩
theorem ac (c:zL) (hc:z6 c):Ens (LB (c,())) λ r=>0<=r.1.2.1/\0<=r.2.1/\r.2.1<=255:=by
 obtain⟨h1,h2⟩:=hc;unfold LB;refine Ens.cond (λ h => ?_) λ h=>Ens.some ⟨h2,tQ _⟩;have h:c.2.1<(c.1.length:Int):=by simpa using h
 refine Ens.ite ⟨h2,h⟩ (Ens.some ⟨?_,tQ _⟩);dsimp only;unfold big at h1;rw[zg (by omega) (by omega)];omega
theorem zF (c:zL) (n:Int) (hc:z6 c):Ens (zk (c,n,())) λ r=>0<=r.1.2.1/\0<=r.2.1/\(0<n->r.2.1<n):=by
 unfold zk;refine Ens.cond (λ h=>Ens.some ⟨hc.2,Int.le_refl _,λ h0=>h0⟩) λ h => ?_;have h:0<n:=by simpa using h
 refine Ens.cond (λ _ => ?_) λ _ => ?_
 ·refine (ac c hc).bind λ r hr => ?_;rw[if_neg (show ¬ n=0 by omega)];obtain⟨g1,g2⟩:=Eg hr.2.1 h;exact Ens.some ⟨hr.1,g1,λ _=>g2⟩
 ·refine (ac c hc).bind λ r1 hr1 => ?_;refine (ac (c.1,r1.1.2) ⟨hc.1,hr1.1⟩).bind λ r2 hr2 => ?_;refine (ac (c.1,r2.1.2) ⟨hc.1,hr2.1⟩).bind λ r3 hr3 => ?_;refine (ac (c.1,r3.1.2) ⟨hc.1,hr3.1⟩).bind λ r4 hr4 => ?_;rw[if_neg (show ¬ n=0 by omega)];have e:wr (wr (wr (wr (r1.2.1*16777216)+wr (r2.2.1*65536))+wr (r3.2.1*256))+r4.2.1)=r1.2.1*16777216+r2.2.1*65536+r3.2.1*256+r4.2.1:=by
   rw[zg (n:=r1.2.1*16777216) (by omega) (by omega),zg (n:=r2.2.1*65536) (by omega) (by omega),zg (n:=r3.2.1*256) (by omega) (by omega),zg (n:=r1.2.1*16777216+r2.2.1*65536) (by omega) (by omega),
    zg (n:=r1.2.1*16777216+r2.2.1*65536+r3.2.1*256) (by omega) (by omega),zg (by omega) (by omega)]
  obtain⟨g1,g2⟩:=Eg (a:=wr (wr (wr (wr (r1.2.1*16777216)+wr (r2.2.1*65536))+wr (r3.2.1*256))+r4.2.1)) (by rw[e]; omega) h
  exact Ens.some ⟨hr4.1,g1,λ _=>g2⟩
theorem YM (c:zL) (n:Int) (hc:z6 c):Ens (ZK (c,n,())) λ r=>0<=r.1.2.1:=by
 unfold ZK;exact (zF c n hc).bind λ r hr=>Ens.some hr.1
theorem BB {e:Ty} {l:List (den e)} {i:Nat} (h:i<l.length):rd e l i∈l:=by
 rw[zu (am5 h)];exact List.getElem_mem h
theorem jJ (c:zL) (l:List Int) (hc:z6 c) (hl:0<l.length):Ens (jo (c,l,())) λ r=>0<=r.1.2.1/\r.2.1∈l:=by
 unfold jo;refine (zF c _ hc).bind λ r hr => ?_;have h:r.2.1<(l.length:Int):=hr.2.2 (show (0:Int)<(l.length:Int) by omega);have h0:0<=r.2.1:=hr.2.1;refine Ens.ite ⟨h0,h⟩ (Ens.some ⟨hr.1,BB (e:=.i64) ?_⟩);show r.2.1.toNat<l.length;omega
theorem eg (code:List UInt8) (hb:code.length<=big):Ens (LC (code,())) λ r=>z6 r/\r.1=code:=by
 unfold LC;refine Ens.loop (λ x=>0<=x.2.1) (λ x=>code.length - x.2.1.toNat) ?_ (Int.le_refl _) (by dsimp only; unfold big at hb; rw[y9]; omega)
 intro rec x hx acB;refine Ens.cond (λ h => ?_) λ h=>Ens.some ⟨⟨hb,Int.le_refl _⟩,rfl⟩;have h:x.2.1<(code.length:Int):=by simpa using h
 refine Ens.cond (λ h2 => ?_) λ h2=>Ens.some ⟨⟨hb,Int.le_refl _⟩,rfl⟩;refine Ens.ite ⟨hx,h⟩ ?_;unfold big at hb;rw[zg (n:=x.2.1+1) (by omega) (by omega)];refine acB _ (by show 0<=x.2.1+1; omega) (by show code.length - (x.2.1+1).toNat<code.length - x.2.1.toNat; omega)
noncomputable def jM (n:Nat):List UInt8:=if h:n>127 then yy ((n % 128+128:Nat):Int)::jM (n / 128) else [yy (n:Int)]
termination_by n
decreasing_by omega
noncomputable def zq (n:Int):List UInt8:=if 0<=n/\n<=2147483647 then jM n.toNat else []
theorem Lk {n:Nat} (h:n>127):jM n=yy ((n % 128+128:Nat):Int)::jM (n / 128):=by rw[jM,dif_pos h]
theorem Ky {n:Nat} (h:¬ n>127):jM n=[yy (n:Int)]:=by rw[jM,dif_neg h]
theorem aQ:∀ (k n:Nat),n<128 ^ k->(jM n).length<=k+(if k=0 then 1 else 0)
 | 0,n,h=>by
  have:n=0:=by simpa using h
  subst this;rw[Ky (by omega)];simp
 | k+1,n,h=>by
  by_cases hn:n>127
  ·rw[Lk hn];have h2:n / 128<128 ^ k:=by
    rw[ame] at h;omega
   have ih:=aQ k (n / 128) h2;cases k with
   | zero=>simp at h2; omega
   | succ k=>simp at ih ⊢; omega
  ·rw[Ky hn]; simp
theorem y0 (n:Int):(zq n).length<=5:=by
 unfold zq;split
 ·next h=>exact aQ 5 n.toNat (by omega)
 ·simp
theorem py {G:(Int×List UInt8×Unit->Option (List UInt8×Unit))->Int×List UInt8×Unit->Option (List UInt8×Unit)}
  (acT:∀ rec (n:Nat) (out:List UInt8),¬ n>127->out.length<=1000->G rec ((n:Int),out,())=some (out++[yy (n:Int)],()))
  (acP:∀ rec (n:Nat) (out:List UInt8),n>127->n<=2147483647->out.length<=1000->G rec ((n:Int),out,())=rec (((n / 128:Nat):Int),out++[yy ((n % 128+128:Nat):Int)],())):
  ∀ (m n:Nat) (out:List UInt8),n<m->n<=2147483647->(n<128 ^ 5->out.length+(jM n).length<=1000)->iter G m ((n:Int),out,())=some (out++jM n,())
 | 0,n,out,h,_,_=>by omega
 | m+1,n,out,h,hn,ho=>by
  have ho':=ho (by omega);by_cases hc:n>127
  ·have e1:iter G (m+1) ((n:Int),out,())=iter G m (((n / 128:Nat):Int),out++[yy ((n % 128+128:Nat):Int)],()):=acP (iter G m) n out hc hn (by omega);rw[e1,py acT acP m (n / 128) _ (by omega) (by omega) (λ _=>by rw[Lk hc] at ho'; simp at ho' ⊢; omega),Lk hc]
   simp
  ·have e1:iter G (m+1) ((n:Int),out,())=some (out++[yy (n:Int)],()):=acT (iter G m) n out hc (by omega);rw[e1,Ky hc]
theorem kM (x lo hi:Int):yo (x,lo,hi,())=some (decide (x≥lo) && decide (x<=hi),()):=by
 unfold yo;cases h:decide (x≥lo)<;>simp[h]
theorem adW (x lo hi:Int):jl (x,lo,hi,())=some (decide (x≥lo) && decide (x<=hi),()):=by
 unfold jl;cases h:decide (x≥lo)<;>simp[h]
theorem abT (n m:Nat):Int.tdiv (n:Int) (m:Int)=((n / m:Nat):Int):=by
 rw[anE (by omega)]; rfl
theorem abX (n m:Nat):Int.tmod (n:Int) (m:Int)=((n % m:Nat):Int):=by
 rw[Int.tmod_eq_emod_of_nonneg (by omega)]; rfl
theorem KI (n:Int):Zu (n,())=some (zq n,()):=by
 unfold Zu zq;simp only[kM,alm];by_cases h:0<=n/\n<=2147483647
 ·have e1:(decide (n≥0) && decide (n<=2147483647))=true:=by simp; omega
  simp only[e1,alt,aln,if_pos h];obtain⟨m,rfl⟩:=Int.eq_ofNat_of_zero_le h.1;have hm:m<=2147483647:=by omega
  have hl:=aQ 5 m (by omega);refine (py ?_ ?_ fuel m [] (by rw[y9]; omega) hm (λ _=>by simp at hl ⊢; omega)).trans (by simp)
  ·intro rec k out hk ho;have:decide ((k:Int)>127)=false:=by simp; omega
   simp only[this,aln,alr,als];rw[if_pos (by omega)]
  ·intro rec k out hk hkm ho;have:decide ((k:Int)>127)=true:=by simp; omega
   simp only[this,alo,alr,als];rw[if_pos (by omega),show Int.tdiv (k:Int) 128=((k / 128:Nat):Int) from abT k 128,show Int.tmod (k:Int) 128=((k % 128:Nat):Int) from abX k 128,zg (by omega) (by omega),zg (by omega) (by omega)];rfl
 ·have e1:(decide (n≥0) && decide (n<=2147483647))=false:=by simp; omega
  simp only[e1,alP,alo,if_neg h]
theorem TC (c:zL) (hc:z6 c):Ens (kL (c,())) λ r=>0<=r.1.2.1/\r.2.1.length<=1000:=by
 unfold kL;refine Ens.loop (λ x=>0<=x.2.1/\x.2.1<=3/\(x.1.length:Int)<=5*x.2.1/\0<=x.2.2.1.2.1) (λ x=>(4 - x.2.1).toNat) ?_ ⟨Int.le_refl _,(show (0:Int)<=3 by decide),by simp,hc.2⟩ (by dsimp only; rw[y9]; omega)
 intro rec x hx acB;obtain⟨x1,x2,x3,x4⟩:=hx;refine (zF (c.1,x.2.2.1.2) 4 ⟨hc.1,x4⟩).bind λ r1 hr1 => ?_;have h4:=hr1.2.2 (by decide);refine Ens.cond (λ h => ?_) λ h => ?_
 ·have h:x.2.1<r1.2.1:=by simpa using h
  refine (jJ (c.1,r1.1.2) _ ⟨hc.1,hr1.1⟩ (by simp)).bind λ r2 hr2 => ?_;simp only[KI,alm];have hl:=y0 r2.2.1;refine Ens.ite (by omega) ?_;rw[zg (n:=x.2.1+1) (by omega) (by omega)];refine acB _ ⟨?_,?_,?_,hr2.1⟩ ?_
  ·show 0<=x.2.1+1; omega
  ·show x.2.1+1<=3; omega
  ·show ((x.1++zq r2.2.1).length:Int)<=5*(x.2.1+1);simp only[alv]; omega
  ·show (4 - (x.2.1+1)).toNat<(4 - x.2.1).toNat; omega
 ·refine (YM (c.1,r1.1.2) 3 ⟨hc.1,hr1.1⟩).bind λ r4 hr4 => ?_;refine Ens.cond (λ _ => ?_) λ _=>Ens.some ⟨hr4,by dsimp only; omega⟩
  refine (jJ (c.1,r4.1.2) _ ⟨hc.1,hr4⟩ (by simp)).bind λ r5 hr5 => ?_;refine (zF (c.1,r5.1.2) 3 ⟨hc.1,hr5.1⟩).bind λ r6 hr6 => ?_;refine Ens.ite (by simp only[alr,als]; omega) (Ens.some ⟨hr6.1,?_⟩)
  simp only[alv,alr,als]; omega
theorem Tw (c:zL) (hc:z6 c):Ens (kz (c,())) λ r=>0<=r.1.2.1/\r.2.1.1.length<=200000:=by
 unfold kz;refine (TC c hc).bind λ r0 hr0 => ?_;refine Ens.ite (by omega) ?_;refine (zF (c.1,r0.1.2) _ ⟨hc.1,hr0.1⟩).bind λ r1 hr1 => ?_;refine (zF (c.1,r1.1.2) 12 ⟨hc.1,hr1.1⟩).bind λ r2 hr2 => ?_;refine Ens.cond (λ _ => ?_) λ _=>Ens.cond (λ _ => ?_) λ _ => ?_
 ·refine (jJ (c.1,r2.1.2) _ ⟨hc.1,hr2.1⟩ (by simp)).bind λ r3 hr3=>Ens.some ⟨hr3.1,?_⟩;simp only[alL]; omega
 ·refine (zF (c.1,r2.1.2) 2 ⟨hc.1,hr2.1⟩).bind λ r4 hr4 => ?_;have h:=hr4.2.2 (by decide);have h0:=hr4.2.1;rw[zg (n:=100000+r4.2.1) (by omega) (by omega)];refine Ens.ite rfl (Ens.ite (by omega) (Ens.some ⟨hr4.1,?_⟩));simp only[List.length_replicate]; omega
 ·refine Ens.some ⟨hr2.1,?_⟩;simp only[alL]; omega
theorem X6 (d:yJ):eq (d,d,())=some (true,()):=by
 unfold eq;simp
end G448
namespace G448
open Ev Go
theorem QK (n:Int):JQ (n,())=some (zq n,()):=by
 unfold JQ zq;simp only[JR,alm];by_cases h:0<=n/\n<=2147483647
 ·have e1:(decide (n≥0) && decide (n<=2147483647))=true:=by simp; omega
  simp only[e1,alt,aln,if_pos h];obtain⟨m,rfl⟩:=Int.eq_ofNat_of_zero_le h.1;have hm:m<=2147483647:=by omega
  have hl:=aQ 5 m (by omega);refine (py ?_ ?_ fuel m [] (by rw[y9]; omega) hm (λ _=>by simp at hl ⊢; omega)).trans (by simp)
  ·intro rec k out hk ho;have:decide ((k:Int)≥128)=false:=by simp; omega
   simp only[this,aln,alr,als];rw[if_pos (by omega)]
  ·intro rec k out hk hk2 ho;have:decide ((k:Int)≥128)=true:=by simp; omega
   have e2:Int.tmod (k:Int) 128=((k % 128:Nat):Int):=by simp[Int.tmod]
   have e3:Int.tdiv (k:Int) 128=((k / 128:Nat):Int):=by simp[Int.tdiv]
   simp only[this,alo,e2,e3,alr,als];rw[if_pos (by omega),zg (n:=((k % 128:Nat):Int)+128) (by omega) (by omega),zg (n:=((k / 128:Nat):Int)) (by omega) (by omega)];rfl
 ·have e1:(decide (n≥0) && decide (n<=2147483647))=false:=by simp; omega
  simp only[e1,alP,alo,if_neg h]
noncomputable def zX (s:List UInt8):List UInt8:=zq (s.length:Int)++s
noncomputable def nums (l:List Int):List UInt8:=(l.map zq).flatten
theorem JW (s:List UInt8):(zX s).length<=5+s.length:=by
 unfold zX;have:=y0 (s.length:Int);rw[alv]; omega
theorem Kr:∀ l:List Int,(nums l).length<=5*l.length
 | []=>by simp[nums]
 | x::l=>by
  have h1:=y0 x;have h2:=Kr l;simp only[nums,alG,amI,alv,alr] at *;omega
theorem g8 (s:List UInt8) (h:s.length<=137438953472):Mz (s,())=some (zX s,()):=by
 unfold Mz zX;simp only[KI,alm];have:=y0 (s.length:Int);rw[if_pos (by omega)]
theorem ve (s:List UInt8) (h:s.length<=137438953472):QL (s,())=some (zX s,()):=by
 unfold QL zX;simp only[QK,alm];have:=y0 (s.length:Int);rw[if_pos (by omega)]
theorem wz:∀ (l:List Int) (out:List UInt8),l.foldl (λ o x=>o++zq x) out=out++nums l
 | [],out=>by simp[nums]
 | x::l,out=>by rw[ama,wz l]; simp[nums]
theorem nU {put:Int×Unit->Option (List UInt8×Unit)} (hp:∀ n,put (n,())=some (zq n,())) (l:List Int) (hl:l.length<=137438953472) (out:List UInt8) (ho:out.length<=1000000000000)
  {G:(List UInt8×Int×Unit->Option (List UInt8×Unit))->List UInt8×Int×Unit->Option (List UInt8×Unit)}
  (hG:∀ rec o (i:Int),G rec (o,i,())=bif decide (i<(l.length:Int)) then (if 0<=i/\i<(l.length:Int) then (put (rd .i64 l i.toNat,())).bind λ r1=>
   if (o.length+r1.1.length)*1<=70368744177664 then rec (o++r1.1,wr (i+1),()) else none else none) else some (o,())):
  iter G fuel (out,0,())=some (out++nums l,()):=by
 have:=Np (λ i (o:List UInt8)=>(o,i,())) l (λ o x=>o++zq x) (λ o=>some (o,())) (by omega) (λ i o=>o.length<=1000000000000+5*i) (G:=G) ?_ ?_ (s0:=out) (by omega)
 ·rw[this,wz]
 ·intro rec o h; rw[hG]; simp
 ·intro rec i o x hx hi h;have hpl:=y0 x;refine⟨by rw[alv]; omega,?_⟩
  rw[hG];simp only[zz hi,alu,alo,alD,if_true,aly,zu (e:=.i64) hx,hp,alm,zx (show i<4611686018427387904 by omega)];rw[if_pos (by omega)]
theorem sw (l:List Int) (hl:l.length<=137438953472):qN (l,())=some (nums l,()):=by
 unfold qN;exact (nU (put:=Zu) KI l hl [] (by simp) (λ rec o i=>rfl)).trans (by simp)
theorem vq (l:List Int) (hl:l.length<=137438953472):QV (l,())=some (nums l,()):=by
 unfold QV;exact (nU (put:=JQ) QK l hl [] (by simp) (λ rec o i=>rfl)).trans (by simp)
noncomputable def Js (c:za) (q:zJ):List UInt8:=
 bif z8 c q then ((zq q.1++zX q.2.1)++zq (q.2.2.length:Int))++nums q.2.2 else []
theorem Ml (c:za) (q:zJ):(Js c q).length<=15+5*zi q:=by
 unfold Js;cases z8 c q
 ·simp
 ·have h1:=y0 q.1;have h2:=JW q.2.1;have h3:=y0 (q.2.2.length:Int);have h4:=Kr q.2.2;simp only[alo,alv,zi,zn];omega
theorem sg (c:za) (q:zJ) (hw:zi q<=137438953472):qu (c,q,())=some (Js c q,()):=by
 have h1:q.2.1.length<=137438953472:=by simp only[zi] at hw; omega
 have h2:q.2.2.length<=137438953472:=by simp only[zi,zn] at hw; omega
 have l1:=y0 q.1;have l2:=JW q.2.1;have l3:=y0 (q.2.2.length:Int);unfold qu Js;simp only[Lx c q hw,KI,g8 _ h1,alm];cases z8 c q
 ·rfl
 simp only[alt,aln,alo,alv];rw[if_pos (by omega),if_pos (by omega)];exact nU (put:=Zu) KI q.2.2 h2 _ (by simp only[alv]; omega) (λ rec o i=>by simp only[KI,alm])
theorem SE (c:za) (q:zJ) (hw:zi q<=1073741824):dw (c,q,())=some (Js c q,()):=by
 have h1:q.2.1.length<=137438953472:=by simp only[zi] at hw; omega
 have h2:q.2.2.length<=137438953472:=by simp only[zi,zn] at hw; omega
 have l1:=y0 q.1;have l2:=JW q.2.1;have l3:=y0 (q.2.2.length:Int);have l4:=Kr q.2.2;unfold dw Js;simp only[dx c q hw,QK,ve _ h1,vq _ h2,alm];cases z8 c q
 ·rfl
 simp only[alt,aln,alo,alv];rw[if_pos (by omega),if_pos (by omega),if_pos (by omega)]
noncomputable def Kn (c:za) (m:zw):List UInt8:=
 bif yO c m then (bif (m.1==1) then (zq m.1++zX m.2.2.1.1)++Js c m.2.2.1.2 else
  bif (m.1==2) then (((zq m.1++zq m.2.2.2.1.1)++zX m.2.2.2.1.2.1)++zq (m.2.2.2.1.2.2.length:Int))++nums m.2.2.2.1.2.2 else
  bif (m.1==3) then (zq m.1++nums [m.2.1,m.2.2.2.2.2.1])++Js c m.2.2.2.2.1 else
  zq m.1++nums [m.2.2.2.2.2.2.1,m.2.2.2.2.2.2.2.1,m.2.2.2.2.2.2.2.2.1,m.2.2.2.2.2.2.2.2.2]) else []
theorem Uz (c:za) (m:zw):(Kn c m).length<=60+5*zj m:=by
 unfold Kn;have h0:=y0 m.1;have h1:=JW m.2.2.1.1;have h2:=Ml c m.2.2.1.2;have h3:=y0 m.2.2.2.1.1;have h4:=JW m.2.2.2.1.2.1;have h5:=y0 (m.2.2.2.1.2.2.length:Int);have h6:=Kr m.2.2.2.1.2.2;have h7:=Kr [m.2.1,m.2.2.2.2.2.1];have h8:=Ml c m.2.2.2.2.1;have h9:=Kr [m.2.2.2.2.2.2.1,m.2.2.2.2.2.2.2.1,m.2.2.2.2.2.2.2.2.1,m.2.2.2.2.2.2.2.2.2];simp only[alr,als] at h7 h9;cases yO c m
 ·simp
 cases (m.1==1)
 ·cases (m.1==2)
  ·cases (m.1==3)
   ·simp only[alo,aln,alv]; omega
   ·simp only[alo,aln,alv,zj]; omega
  ·simp only[alo,aln,alv,zj,zm,zn]; omega
 ·simp only[alo,alv,zj,zD]; omega
theorem abc (c:za) (m:zw) (hw:zj m<=137438953472):gW (c,m,())=some (Kn c m,()):=by
 have w1:m.2.2.1.1.length<=137438953472:=by simp only[zj,zD] at hw; omega
 have w2:zi m.2.2.1.2<=137438953472:=by simp only[zj,zD] at hw; omega
 have w3:m.2.2.2.1.2.1.length<=137438953472:=by simp only[zj,zm] at hw; omega
 have w4:m.2.2.2.1.2.2.length<=137438953472:=by simp only[zj,zm,zn] at hw; omega
 have w5:zi m.2.2.2.2.1<=137438953472:=by simp only[zj] at hw; omega
 have h0:=y0 m.1;have h1:=JW m.2.2.1.1;have h2:=Ml c m.2.2.1.2;have h3:=y0 m.2.2.2.1.1;have h4:=JW m.2.2.2.1.2.1;have h5:=y0 (m.2.2.2.1.2.2.length:Int);have h6:=Kr m.2.2.2.1.2.2;have h7:=Kr [m.2.1,m.2.2.2.2.2.1];have h8:=Ml c m.2.2.2.2.1;have h9:=Kr [m.2.2.2.2.2.2.1,m.2.2.2.2.2.2.2.1,m.2.2.2.2.2.2.2.2.1,m.2.2.2.2.2.2.2.2.2];simp only[alr,als] at h7 h9;unfold gW Kn;simp only[qp c m hw,KI,g8 _ w1,g8 _ w3,sg c _ w2,sg c _ w5,sw _ w4,sw [m.2.1,m.2.2.2.2.2.1] (by simp),
  sw [m.2.2.2.2.2.2.1,m.2.2.2.2.2.2.2.1,m.2.2.2.2.2.2.2.2.1,m.2.2.2.2.2.2.2.2.2] (by simp),Option.bind_some,List.length_append]
 cases yO c m
 ·rfl
 cases (m.1==1)
 ·cases (m.1==2)
  ·cases (m.1==3)
   ·simp only[alt,alo,aln]; rw[if_pos (by omega)]
   ·simp only[alt,alo,aln]; rw[if_pos (by omega),if_pos (by omega)]
  ·simp only[alt,alo,aln]; rw[if_pos (by omega),if_pos (by omega),if_pos (by omega),if_pos (by omega)]
 ·simp only[alt,alo,aln]; rw[if_pos (by omega),if_pos (by omega)]
theorem De (b k:Nat) (hb:b<128) (hk:k<=4):shl (b:Int) (7*(k:Int))=((b*128 ^ k:Nat):Int):=by
 unfold shl;have e:min (7*(k:Int)).toNat 64=7*k:=by omega
 rw[e];have e2:(2:Int) ^ (7*k)=((128 ^ k:Nat):Int):=by
  rw[Int.pow_mul];simp
 rw[e2,←Int.natCast_mul];have:b*128 ^ k<=127*128 ^ 4:=Nat.mul_le_mul (by omega) (Nat.pow_le_pow_right (by decide) hk);exact zg (by omega) (by omega)
theorem PH (v b k:Nat) (hv:v<128 ^ k) (hb:b<128) (hk:k<=4):bor (v:Int) ((b*128 ^ k:Nat):Int)=((v+b*128 ^ k:Nat):Int):=by
 have h4:128 ^ k<=128 ^ 4:=Nat.pow_le_pow_right (by decide) hk;have hbk:b*128 ^ k<=127*128 ^ 4:=Nat.mul_le_mul (by omega) h4;unfold bor;have e1:(BitVec.ofInt 64 (v:Int)).toNat=v:=by
  rw[BitVec.toNat_ofInt]; omega
 have e2:(BitVec.ofInt 64 ((b*128 ^ k:Nat):Int)).toNat=b*128 ^ k:=by
  rw[BitVec.toNat_ofInt]; omega
 rw[BitVec.toNat_or,e1,e2];have e3:v ||| b*128 ^ k=v+b*128 ^ k:=by
  have:=Nat.two_pow_add_eq_or_of_lt (i:=7*k) (b:=v) (by rw[Nat.pow_mul]; exact hv) b
  rw[Nat.pow_mul,Nat.mul_comm] at this;rw[Nat.or_comm,←this,Nat.add_comm]
 rw[e3];exact zg (by omega) (by omega)
def jS:List UInt8->Nat->Nat->Nat->Option (Nat×Nat)
 | [],_,_,_=>none
 | b::l,v,k,0=>none
 | b::l,v,k,n+1=>if b.toNat<128 then (if (k>0/\b.toNat=0)∨v+b.toNat*128 ^ k>2147483647 then none else some (v+b.toNat*128 ^ k,k+1)) else jS l (v+(b.toNat % 128)*128 ^ k) (k+1) n
def zh (s:List UInt8) (at_:Int):Int×Int×Bool:=
 if at_<0 then (0,0,false) else match jS (s.drop at_.toNat) 0 0 5 with
  | some p=>((p.1:Int),at_+(p.2:Int),true)
  | none=>(0,0,false)
theorem Br:∀ (k n:Nat),n<128 ^ (k+1)->((jM n).length=k+1↔(k=0∨128 ^ k<=n))
 | 0,n,h=>by
  rw[Ky (by simp at h; omega)]; simp
 | k+1,n,h=>by
  by_cases hn:n>127
  ·rw[Lk hn,alr];have h2:n / 128<128 ^ (k+1):=by rw[ame] at h; omega
   have ih:=Br k (n / 128) h2;have hp:128 ^ (k+1)=128 ^ k*128:=Nat.pow_succ ..;constructor
   ·intro hl;right;rcases ih.1 (by omega) with rfl|h3
    ·simp; omega
    ·omega
   ·intro hl;have h3:128 ^ (k+1)<=n:=by omega
    have:(jM (n / 128)).length=k+1:=ih.2 (by
     cases k with
     | zero=>left; rfl
     | succ k=>right; omega)
    omega
  ·rw[Ky hn];have:128 ^ (k+1)>127:=by
    have:128 ^ 1<=128 ^ (k+1):=Nat.pow_le_pow_right (by decide) (by omega);omega
   simp;omega
theorem Qt (v k n:Nat):jS [] v k n=none:=by cases n<;>rfl
theorem pr {k:Nat} (h:k<=4):128 ^ k<=268435456:=by
 have:128 ^ k<=128 ^ 4:=Nat.pow_le_pow_right (by decide) h;omega
theorem sa (s:List UInt8) (at_:Int) (hs:s.length<=137438953472):qk (s,at_,())=some ((zh s at_).1,(zh s at_).2.1,(zh s at_).2.2,()):=by
 unfold qk zh;dsimp only;by_cases ha:at_<0
 ·rw[if_pos ha];refine (walk 5 (λ i (v:Nat)=>((v:Int),i,())) (λ i v=>True) (λ i v=>some (0,0,false,())) (by decide) ?_ ?_ (s0:=0) trivial).trans rfl
  ·intro rec v _; simp
  ·intro rec i v hi _;left;simp[ha,show (i:Int)<5 by omega]
 rw[if_neg ha];obtain⟨a,rfl⟩:∃ a:Nat,at_=(a:Int):=⟨at_.toNat,by omega⟩
 simp only[aly,ha,alx,aln];refine (walk 5 (λ i (v:Nat)=>((v:Int),i,())) (λ i v=>v<128 ^ i) (λ i v=>match jS (s.drop (a+i)) v i (5 - i) with|some p=>some ((p.1:Int),(a:Int)+(p.2:Int),true,())|none=>some (0,0,false,())) (by decide) ?_ ?_ (s0:=0) (by decide)).trans ?_
 ·intro rec v hv;have:jS (s.drop (a+5)) v 5 0=none:=by cases s.drop (a+5)<;>rfl
  simp[this]
 ·intro rec i v hi hv;have hp:=pr (k:=i) (by omega);have e1:wr ((s.length:Int) - (i:Int))=(s.length:Int) - (i:Int):=zg (by omega) (by omega);have e5:((i:Int)<5):=by omega
  simp only[e5,alu,alo,e1];by_cases hlt:a+i<s.length
  ·have h1:¬ ((a:Int)≥(s.length:Int) - (i:Int)):=by omega
   have e2:wr ((a:Int)+(i:Int))=((a+i:Nat):Int):=by rw[zg (by omega) (by omega)]; omega
   have e3:wr (7*(i:Int))=7*(i:Int):=zg (by omega) (by omega);have hx:s[a+i]?=some s[a+i]:=List.getElem?_eq_getElem hlt;simp only[h1,alx,aln,e2,e3,aly,zu (e:=.u8) hx];rw[if_pos (by omega),if_neg (by omega),alJ hlt,show 5 - i=(5 - (i+1))+1 by omega];simp only[jS];have e4:Int.tmod (((s[a+i].toNat:Nat):Int)) 128=((s[a+i].toNat % 128:Nat):Int):=by simp[Int.tmod]
   rw[e4,De _ i (Nat.mod_lt _ (by decide)) (by omega),PH v _ i hv (Nat.mod_lt _ (by decide)) (by omega)];by_cases hb:s[a+i].toNat<128
   ·left;have hm:s[a+i].toNat % 128=s[a+i].toNat:=Nat.mod_eq_of_lt hb;have hb':(((s[a+i].toNat:Nat):Int)<128):=by omega
    simp only[hb',alu,alo,hm,hb,if_true];have hbk:s[a+i].toNat*128 ^ i<=127*268435456:=Nat.mul_le_mul (by omega) hp;have e6:wr (((a+i:Nat):Int)+1)=(a:Int)+((i+1:Nat):Int):=by rw[zg (by omega) (by omega)]; omega
    by_cases hz:i>0
    ·have hz':((i:Int)>0):=by omega
     simp only[hz',alu,alo];by_cases h0:s[a+i].toNat=0
     ·have:(((s[a+i].toNat:Nat):Int)==0)=true:=by simp[h0]
      rw[this,if_pos (.inl ⟨hz,h0⟩)]; rfl
     ·have:(((s[a+i].toNat:Nat):Int)==0)=false:=by rw[beq_eq_false_iff_ne]; omega
      rw[this];by_cases ad5:v+s[a+i].toNat*128 ^ i>2147483647
      ·rw[if_pos (.inr ad5)];simp only[cond_false,show (((v+s[a+i].toNat*128 ^ i:Nat):Int)>2147483647) by omega,decide_true,cond_true]
      ·rw[if_neg (by intro h; rcases h with h|h; exact h0 h.2; exact ad5 h)]
       simp only[cond_false,show ¬ (((v+s[a+i].toNat*128 ^ i:Nat):Int)>2147483647) by omega,decide_false,e6]
    ·have hz':¬ ((i:Int)>0):=by omega
     simp only[hz',alx,aln];by_cases ad5:v+s[a+i].toNat*128 ^ i>2147483647
     ·rw[if_pos (.inr ad5)];simp only[show (((v+s[a+i].toNat*128 ^ i:Nat):Int)>2147483647) by omega,decide_true,cond_true]
     ·rw[if_neg (by intro h; rcases h with h|h; exact hz h.1; exact ad5 h)]
      simp only[show ¬ (((v+s[a+i].toNat*128 ^ i:Nat):Int)>2147483647) by omega,decide_false,cond_false,e6]
   ·right;have hb':¬ (((s[a+i].toNat:Nat):Int)<128):=by omega
    refine⟨v+s[a+i].toNat % 128*128 ^ i,?_,?_,?_⟩
    ·rw[ame];have:s[a+i].toNat % 128*128 ^ i<=127*128 ^ i:=Nat.mul_le_mul (by omega) (Nat.le_refl _);omega
    ·simp only[hb',alx,aln,zx (show i<4611686018427387904 by omega)]
    ·simp only[hb,if_false];rw[show a+(i+1)=a+i+1 by omega]
  ·left;have h1:((a:Int)≥(s.length:Int) - (i:Int)):=by omega
   rw[amF (by omega),Qt];simp only[h1,alu,alo]
 ·simp only[amf,amv];cases jS (s.drop a) 0 0 5<;>rfl
theorem Bs (v b i:Nat) (hv:v<128 ^ i) (hb:b<128) (hi:i<=4):(zq ((v+b*128 ^ i:Nat):Int)).length=i+1↔¬ ((i>0/\b=0)∨v+b*128 ^ i>2147483647):=by
 have hp:=pr hi;have hlt:v+b*128 ^ i<128 ^ (i+1):=by
  rw[ame];have:b*128 ^ i<=127*128 ^ i:=Nat.mul_le_mul (by omega) (Nat.le_refl _);omega
 unfold zq;by_cases ad5:v+b*128 ^ i>2147483647
 ·rw[if_neg (by omega)];simp[ad5]
 ·rw[if_pos (by omega),aly,Br i _ hlt];cases i with
  | zero=>simp; omega
  | succ i=>
   constructor
   ·rintro (h|h) (h'|h')
    ·omega
    ·omega
    ·rw[h'.2] at h; omega
    ·omega
   ·intro h;right;have h0:b≠0:=λ e=>h (.inl ⟨by omega,e⟩);have:1*128 ^ (i+1)<=b*128 ^ (i+1):=Nat.mul_le_mul (by omega) (Nat.le_refl _);omega
theorem u7 (s:List UInt8) (at_:Int) (hs:s.length<=137438953472):QC (s,at_,())=some ((zh s at_).1,(zh s at_).2.1,(zh s at_).2.2,()):=by
 unfold QC zh;have e0:wr ((s.length:Int) - 1)=(s.length:Int) - 1:=zg (by omega) (by omega);simp only[JR,alm,e0];by_cases ha:at_<0
 ·rw[if_pos ha];have:(decide (at_≥0) && decide (at_<=(s.length:Int) - 1))=false:=by simp; omega
  rw[this]; rfl
 rw[if_neg ha];obtain⟨a,rfl⟩:∃ a:Nat,at_=(a:Int):=⟨at_.toNat,by omega⟩
 simp only[aly];by_cases hal:a<s.length
 ·have:(decide ((a:Int)≥0) && decide ((a:Int)<=(s.length:Int) - 1))=true:=by simp; omega
  simp only[this,alt,aln];refine (walk 5 (λ i (v:Nat)=>((v:Int),i,())) (λ i v=>v<128 ^ i) (λ i v=>match jS (s.drop (a+i)) v i (5 - i) with|some p=>some ((p.1:Int),(a:Int)+(p.2:Int),true,())|none=>some (0,0,false,())) (by decide) ?_ ?_ (s0:=0) (by decide)).trans ?_
  ·intro rec v hv;have:jS (s.drop (a+5)) v 5 0=none:=by cases s.drop (a+5)<;>rfl
   simp[this]
  ·intro rec i v hi hv;have hp:=pr (k:=i) (by omega);have e5:((i:Int)<5):=by omega
   have e2:wr ((a:Int)+(i:Int))=((a+i:Nat):Int):=by rw[zg (by omega) (by omega)]; omega
   simp only[e5,alu,alo,e2];by_cases hlt:a+i<s.length
   ·have h1:(((a+i:Nat):Int)<(s.length:Int)):=by omega
    have e3:wr (7*(i:Int))=7*(i:Int):=zg (by omega) (by omega);have hx:s[a+i]?=some s[a+i]:=List.getElem?_eq_getElem hlt;simp only[h1,alu,alo,e3,aly,zu (e:=.u8) hx];rw[if_pos ⟨by omega,trivial⟩,if_neg (by omega),alJ hlt,show 5 - i=(5 - (i+1))+1 by omega];simp only[jS];have e4:Int.tmod (((s[a+i].toNat:Nat):Int)) 128=((s[a+i].toNat % 128:Nat):Int):=by simp[Int.tmod]
    have hmb:s[a+i].toNat % 128*128 ^ i<=127*268435456:=Nat.mul_le_mul (by omega) hp;have e7:wr ((v:Int)+((s[a+i].toNat % 128*128 ^ i:Nat):Int))=((v+s[a+i].toNat % 128*128 ^ i:Nat):Int):=by rw[zg (by omega) (by omega)]; omega
    rw[e4,De _ i (Nat.mod_lt _ (by decide)) (by omega),e7];by_cases hb:s[a+i].toNat<128
    ·left;have hm:s[a+i].toNat % 128=s[a+i].toNat:=Nat.mod_eq_of_lt hb;have hb':(((s[a+i].toNat:Nat):Int)<128):=by omega
     have e6:wr (((a+i:Nat):Int)+1)=(a:Int)+((i+1:Nat):Int):=by rw[zg (by omega) (by omega)]; omega
     have e8:wr ((i:Int)+1)=((i+1:Nat):Int):=by rw[zg (by omega) (by omega)]; omega
     simp only[hb',alu,alo,hm,hb,if_true,QK,alm,e8,e6];by_cases hg:(zq ((v+s[a+i].toNat*128 ^ i:Nat):Int)).length=i+1
     ·rw[if_neg ((Bs v _ i hv hb (by omega)).1 hg)];have:(((zq ((v+s[a+i].toNat*128 ^ i:Nat):Int)).length:Int) != ((i+1:Nat):Int))=false:=by rw[hg]; simp
      rw[this]; rfl
     ·rw[if_pos (Classical.not_not.1 (λ h=>hg ((Bs v _ i hv hb (by omega)).2 h)))];have:(((zq ((v+s[a+i].toNat*128 ^ i:Nat):Int)).length:Int) != ((i+1:Nat):Int))=true:=by rw[bne_iff_ne]; omega
      rw[this]; rfl
    ·right;have hb':¬ (((s[a+i].toNat:Nat):Int)<128):=by omega
     refine⟨v+s[a+i].toNat % 128*128 ^ i,?_,?_,?_⟩
     ·rw[ame];have:s[a+i].toNat % 128*128 ^ i<=127*128 ^ i:=Nat.mul_le_mul (by omega) (Nat.le_refl _);omega
     ·simp only[hb',alx,aln,zx (show i<4611686018427387904 by omega)]
     ·simp only[hb,if_false];rw[show a+(i+1)=a+i+1 by omega]
   ·left;have h1:¬ (((a+i:Nat):Int)<(s.length:Int)):=by omega
    rw[amF (by omega),Qt];simp only[h1,alx,aln]
  ·simp only[amf,amv];cases jS (s.drop a) 0 0 5<;>rfl
 ·have:(decide ((a:Int)≥0) && decide ((a:Int)<=(s.length:Int) - 1))=false:=by simp; omega
  rw[this,amF (by omega),Qt]; rfl
abbrev ye:=Int×Bool
def zl (s:List UInt8) (r:ye):ye×Int:=
 if (zh s r.1).2.2=true/\r.2=true then (((zh s r.1).2.1,true),(zh s r.1).1) else ((r.1,false),0)
def zp (s:List UInt8) (at_:Int):List UInt8×Int×Bool:=
 if (zh s at_).2.2=true/\(zh s at_).1<=(s.length:Int) - (zh s at_).2.1 then
  ((s.drop (zh s at_).2.1.toNat).take (zh s at_).1.toNat,(zh s at_).2.1+(zh s at_).1,true) else ([],0,false)
def ya (s:List UInt8) (r:ye):ye×List UInt8:=
 if (zp s r.1).2.2=true/\r.2=true then (((zp s r.1).2.1,true),(zp s r.1).1) else ((r.1,false),[])
theorem uO:∀ (l:List UInt8) (v k n:Nat) {p:Nat×Nat},jS l v k n=some p->p.1<=2147483647/\k+1<=p.2/\p.2<=k+l.length
 | [],v,k,n,p,h=>by rw[Qt] at h; cases h
 | b::l,v,k,0,p,h=>by cases h
 | b::l,v,k,n+1,p,h=>by
  simp only[jS] at h;split at h
  ·split at h
   ·cases h
   ·next hc=>
    cases h;simp only[alr];have:¬ v+b.toNat*128 ^ k>2147483647:=λ hh=>hc (.inr hh);omega
  ·have:=uO l _ _ n h;simp only[alr];omega
theorem JP (s:List UInt8) (at_:Int) (h:(zh s at_).2.2=true):0<=at_/\0<=(zh s at_).1/\(zh s at_).1<=2147483647/\at_+1<=(zh s at_).2.1/\(zh s at_).2.1<=(s.length:Int):=by
 unfold zh at h ⊢;split at h
 ·simp at h
 ·next ha=>
  rw[if_neg ha];cases hg:jS (s.drop at_.toNat) 0 0 5 with
  | none=>rw[hg] at h; simp at h
  | some p=>
   have:=uO _ _ _ _ hg;simp only[alF] at this ⊢;omega
theorem qL (s:List UInt8) (r:ye) (hs:s.length<=137438953472):ZJ ((s,r),())=some ((s,(zl s r).1),(zl s r).2,()):=by
 unfold ZJ zl;simp only[sa s r.1 hs,alm];cases hg:(zh s r.1).2.2<;>cases hr:r.2<;>simp
theorem QW (s:List UInt8) (r:ye) (hs:s.length<=137438953472):Ld ((s,(r.1,!r.2)),())=some ((s,((zl s r).1.1,!(zl s r).1.2)),(zl s r).2,()):=by
 unfold Ld zl;simp only[u7 s r.1 hs,alm];cases hg:(zh s r.1).2.2<;>cases hr:r.2<;>simp
theorem sL (s:List UInt8) (n at_:Int) (h1:0<=n) (h2:0<=at_):List.take ((at_+n).toNat - at_.toNat) (List.drop at_.toNat s)=(s.drop at_.toNat).take n.toNat:=by
 congr 1; omega
theorem ab3 (s:List UInt8) (at_:Int) (hs:s.length<=137438953472):gQ (s,at_,())=some ((zp s at_).1,(zp s at_).2.1,(zp s at_).2.2,()):=by
 unfold gQ zp;simp only[sa s at_ hs,alm];cases hg:(zh s at_).2.2
 ·simp
 ·obtain⟨h0,h1,h2,h3,h4⟩:=JP s at_ hg;have e1:wr ((s.length:Int) - (zh s at_).2.1)=(s.length:Int) - (zh s at_).2.1:=zg (by omega) (by omega);have e2:wr ((zh s at_).2.1+(zh s at_).1)=(zh s at_).2.1+(zh s at_).1:=zg (by omega) (by omega);simp only[e1,e2,alt,aln];by_cases hc:(zh s at_).1<=(s.length:Int) - (zh s at_).2.1
  ·rw[if_pos (show True/\(zh s at_).1<=(s.length:Int) - (zh s at_).2.1 from⟨trivial,hc⟩)];simp only[show ¬ (zh s at_).1>(s.length:Int) - (zh s at_).2.1 by omega,alx,aln];rw[if_pos (by omega),sL _ _ _ h1 (by omega)]
  ·rw[if_neg (show ¬ (True/\(zh s at_).1<=(s.length:Int) - (zh s at_).2.1) from λ h=>hc h.2)];simp only[show (zh s at_).1>(s.length:Int) - (zh s at_).2.1 by omega,alu,alo]
theorem u9 (s:List UInt8) (at_:Int) (hs:s.length<=137438953472):QD (s,at_,())=some ((zp s at_).1,(zp s at_).2.1,(zp s at_).2.2,()):=by
 unfold QD zp;simp only[u7 s at_ hs,alm];cases hg:(zh s at_).2.2
 ·simp
 ·obtain⟨h0,h1,h2,h3,h4⟩:=JP s at_ hg;have e1:wr ((s.length:Int) - (zh s at_).2.1)=(s.length:Int) - (zh s at_).2.1:=zg (by omega) (by omega);have e2:wr ((zh s at_).2.1+(zh s at_).1)=(zh s at_).2.1+(zh s at_).1:=zg (by omega) (by omega);simp only[e1,e2,alt,aln];by_cases hc:(zh s at_).1<=(s.length:Int) - (zh s at_).2.1
  ·rw[if_pos (show True/\(zh s at_).1<=(s.length:Int) - (zh s at_).2.1 from⟨trivial,hc⟩)];simp only[show ¬ (zh s at_).1>(s.length:Int) - (zh s at_).2.1 by omega,alx,aln];rw[if_pos (by omega),sL _ _ _ h1 (by omega)]
  ·rw[if_neg (show ¬ (True/\(zh s at_).1<=(s.length:Int) - (zh s at_).2.1) from λ h=>hc h.2)];simp only[show (zh s at_).1>(s.length:Int) - (zh s at_).2.1 by omega,alu,alo]
theorem sv (s:List UInt8) (r:ye) (hs:s.length<=137438953472):MH ((s,r),())=some ((s,(ya s r).1),(ya s r).2,()):=by
 unfold MH ya;simp only[ab3 s r.1 hs,alm];cases hg:(zp s r.1).2.2<;>cases hr:r.2<;>simp
theorem vt (s:List UInt8) (r:ye) (hs:s.length<=137438953472):QX ((s,(r.1,!r.2)),())=some ((s,((ya s r).1.1,!(ya s r).1.2)),(ya s r).2,()):=by
 unfold QX ya;simp only[u9 s r.1 hs,alm];cases hg:(zp s r.1).2.2<;>cases hr:r.2<;>simp
def jy (s:List UInt8):Nat->ye->List Int->ye×List Int
 | 0,r,out=>(r,out)
 | n+1,r,out=>if r.2=true then jy s n (zl s r).1 (out++[(zl s r).2]) else (r,out)
def jU (s:List UInt8) (r:ye):ye×List Int:=jy s (zl s r).2.toNat (zl s r).1 []
theorem By (s:List UInt8) (r:ye):0<=(zl s r).2/\(zl s r).2<=2147483647:=by
 unfold zl;split
 ·next h=>have:=JP s r.1 h.1; simp only; omega
 ·simp
theorem DU (s:List UInt8) (r:ye) (hs:s.length<=137438953472):ca ((s,r),())=some ((s,(jU s r).1),(jU s r).2,()):=by
 obtain⟨b1,b2⟩:=By s r;unfold ca jU;dsimp only;rw[qL s r hs,alm];dsimp only;generalize hn:(zl s r).2=n at *;obtain⟨n,rfl⟩:∃ m:Nat,n=(m:Int):=⟨n.toNat,by omega⟩
 simp only[aly];refine (walk n (λ i (t:List Int×ye)=>(t.1,i,(s,t.2),())) (λ i t=>t.1.length<=i) (λ i t=>some ((s,(jy s (n - i) t.2 t.1).1),(jy s (n - i) t.2 t.1).2,())) (by omega) ?_ ?_ (s0:=([],(zl s r).1)) (by simp)).trans (by simp)
 ·intro rec t ht;simp[jy]
 ·intro rec i t hi ht;rw[show n - i=(n - (i+1))+1 by omega];simp only[jy,show ((i:Int)<(n:Int)) by omega,alu,alo];cases hr:t.2.2
  ·left;simp
  ·right;refine⟨(t.1++[(zl s t.2).2],(zl s t.2).1),by simp; omega,?_,by simp⟩
   simp only[alo];simp only[qL s t.2 hs,alm,alr,als,zx (show i<4611686018427387904 by omega)];rw[if_pos (by omega)]
theorem S2 (s:List UInt8) (r:ye) (hs:s.length<=137438953472):dW ((s,(r.1,!r.2)),())=some ((s,((jU s r).1.1,!(jU s r).1.2)),(jU s r).2,()):=by
 obtain⟨b1,b2⟩:=By s r;unfold dW jU;dsimp only;rw[QW s r hs,alm];dsimp only;generalize hn:(zl s r).2=n at *;obtain⟨n,rfl⟩:∃ m:Nat,n=(m:Int):=⟨n.toNat,by omega⟩
 simp only[aly];refine (walk n (λ i (t:List Int×ye)=>(t.1,i,(s,(t.2.1,!t.2.2)),())) (λ i t=>t.1.length<=i) (λ i t=>some ((s,((jy s (n - i) t.2 t.1).1.1,!(jy s (n - i) t.2 t.1).1.2)),(jy s (n - i) t.2 t.1).2,())) (by omega) ?_ ?_ (s0:=([],(zl s r).1)) (by simp)).trans (by simp)
 ·intro rec t ht;simp[jy]
 ·intro rec i t hi ht;rw[show n - i=(n - (i+1))+1 by omega];simp only[jy,show ((i:Int)<(n:Int)) by omega,alu,alo];have ahj:=QW s t.2 hs;cases hr:t.2.2
  ·left;simp[hr]
  ·right;rw[hr] at ahj;refine⟨(t.1++[(zl s t.2).2],(zl s t.2).1),by simp; omega,?_,by simp⟩
   simp only[alt,alP,alo] at ahj ⊢;rw[ahj,alm];simp only[alr,als,zx (show i<4611686018427387904 by omega)];rw[if_pos (by omega)]
def yG (s:List UInt8) (r:ye):ye×zJ:=
 ((jU s (ya s (zl s r).1).1).1,((zl s r).2,(ya s (zl s r).1).2,(jU s (ya s (zl s r).1).1).2))
theorem DT (s:List UInt8) (r:ye) (hs:s.length<=137438953472):qM ((s,r),())=some ((s,(yG s r).1),(yG s r).2,()):=by
 unfold qM;dsimp only;rw[qL s r hs,alm];dsimp only;rw[sv s _ hs,alm];dsimp only;rw[DU s _ hs,alm];rfl
theorem S3 (s:List UInt8) (r:ye) (hs:s.length<=137438953472):dX ((s,(r.1,!r.2)),())=some ((s,((yG s r).1.1,!(yG s r).1.2)),(yG s r).2,()):=by
 unfold dX;dsimp only;rw[QW s r hs,alm];dsimp only;rw[vt s _ hs,alm];dsimp only;rw[S2 s _ hs,alm];rfl
theorem pD {s:List UInt8} {r:ye} (h:(zl s r).1.2=true):r.2=true/\0<=r.1/\r.1+1<=(zl s r).1.1/\(zl s r).1.1<=(s.length:Int):=by
 unfold zl at h ⊢;split at h
 ·next hc=>
  rw[if_pos hc];have:=JP s r.1 hc.1;exact⟨hc.2,this.1,this.2.2.2.1,this.2.2.2.2⟩
 ·simp at h
theorem aX {s:List UInt8} {r:ye} (h:(ya s r).1.2=true):r.2=true/\0<=r.1/\r.1+1+((ya s r).2.length:Int)<=(ya s r).1.1/\(ya s r).1.1<=(s.length:Int):=by
 unfold ya at h ⊢;split at h
 ·next hc=>
  rw[if_pos hc];obtain⟨h1,h2⟩:=hc;refine⟨h2,?_⟩;unfold zp at h1 ⊢;split at h1
  ·next hg=>
   rw[if_pos hg];have:=JP s r.1 hg.1;simp only[alE,alF];omega
  ·simp at h1
 ·simp at h
theorem EF (s:List UInt8):∀ (n:Nat) (r:ye) (out:List Int),(jy s n r out).1.2=true->r.2=true/\r.1+((jy s n r out).2.length:Int)<=(jy s n r out).1.1+(out.length:Int)/\out.length<=(jy s n r out).2.length/\
  ((jy s n r out).1.1<=(s.length:Int)∨jy s n r out=(r,out))
 | 0,r,out,h=>⟨h,by simp[jy],by simp[jy],.inr rfl⟩
 | n+1,r,out,h=>by
  simp only[jy] at h ⊢;split at h
  ·next hr=>
   rw[if_pos hr];obtain⟨h1,h2,h3,h4⟩:=EF s n _ _ h;obtain⟨g1,g2,g3,g4⟩:=pD h1;simp only[alv,alr,als] at h2 h3;refine⟨hr,by omega,by omega,.inl ?_⟩;rcases h4 with h4|h4
   ·exact h4
   ·rw[h4]; exact g4
  ·next hr=>exact absurd h hr
theorem Bz {s:List UInt8} {r:ye} (h:(jU s r).1.2=true):r.2=true/\0<=r.1/\r.1+1+((jU s r).2.length:Int)<=(jU s r).1.1/\(jU s r).1.1<=(s.length:Int):=by
 unfold jU at h ⊢;obtain⟨h1,h2,h3,h4⟩:=EF s _ _ _ h;obtain⟨g1,g2,g3,g4⟩:=pD h1;simp only[als] at h2;refine⟨g1,g2,by omega,?_⟩;rcases h4 with h4|h4
 ·exact h4
 ·rw[h4]; exact g4
theorem pE {s:List UInt8} {r:ye} (h:(yG s r).1.2=true):r.2=true/\0<=r.1/\r.1+(zi (yG s r).2:Int)<=(yG s r).1.1/\(yG s r).1.1<=(s.length:Int):=by
 unfold yG at h ⊢;obtain⟨a1,a2,a3,a4⟩:=Bz h;obtain⟨b1,b2,b3,b4⟩:=aX a1;obtain⟨c1,c2,c3,c4⟩:=pD b1;simp only[zi,zn];exact⟨c1,c2,by omega,a4⟩
def Qf:zw:=(0,0,([],0,[],[]),(0,[],[]),(0,[],[]),0,(0,0,0,0))
noncomputable def JN (c:za) (s:List UInt8) (r:ye) (m:zw):zw×Bool:=bif r.2 && (r.1==(s.length:Int) && yO c m) then (m,true) else (Qf,false)
theorem bX (c:za) (s:List UInt8) (r:ye) (m:zw) (hw:r.2=true->r.1=(s.length:Int)->zj m<=1073741824):
  (bif !r.2 then some (Qf,false,()) else bif (r.1 != (s.length:Int)) then some (Qf,false,()) else (Yd (c,m,())).bind λ r3=>bif !r3.1 then some (Qf,false,()) else some (m,true,()))=some ((JN c s r m).1,(JN c s r m).2,()):=by
 unfold JN;cases hr:r.2
 ·rfl
 ·by_cases hl:r.1=(s.length:Int)
  ·have e:(r.1 != (s.length:Int))=false:=by simp[hl]
   have e':(r.1==(s.length:Int))=true:=by simp[hl]
   rw[e,e',qp c m (by have:=hw hr hl; omega)]
   cases h:yO c m<;>simp[h]
  ·have e:(r.1 != (s.length:Int))=true:=by simp[hl]
   have e':(r.1==(s.length:Int))=false:=by simp[hl]
   rw[e,e']; rfl
noncomputable def JT (c:za) (s:List UInt8):zw×Bool:=
 let a:=zl s (0,true)
 bif (a.2==1) then JN c s (yG s (ya s a.1).1).1 (a.2,0,((ya s a.1).2,(yG s (ya s a.1).1).2),(0,[],[]),(0,[],[]),0,(0,0,0,0)) else
 bif (a.2==2) then JN c s (jU s (ya s (zl s a.1).1).1).1 (a.2,0,([],0,[],[]),((zl s a.1).2,(ya s (zl s a.1).1).2,(jU s (ya s (zl s a.1).1).1).2),(0,[],[]),0,(0,0,0,0)) else
 bif (a.2==3) then JN c s (yG s (zl s (zl s a.1).1).1).1 (a.2,(zl s a.1).2,([],0,[],[]),(0,[],[]),(yG s (zl s (zl s a.1).1).1).2,(zl s (zl s a.1).1).2,(0,0,0,0)) else
 bif (a.2==4) then JN c s (zl s (zl s (zl s (zl s a.1).1).1).1).1 (a.2,0,([],0,[],[]),(0,[],[]),(0,[],[]),0,((zl s a.1).2,(zl s (zl s a.1).1).2,(zl s (zl s (zl s a.1).1).1).2,(zl s (zl s (zl s (zl s a.1).1).1).1).2)) else
 JN c s a.1 (a.2,0,([],0,[],[]),(0,[],[]),(0,[],[]),0,(0,0,0,0))
theorem w1 (s:List UInt8) (a:ye) (k:Int) (hs:s.length<=1073741824) (h:(yG s (ya s a).1).1.2=true):zj (k,0,((ya s a).2,(yG s (ya s a).1).2),(0,[],[]),(0,[],[]),0,(0,0,0,0))<=1073741824:=by
 obtain⟨h1,h2,h3,h4⟩:=pE h;obtain⟨g1,g2,g3,g4⟩:=aX h1;simp only[zj,zD,zm,zi,zn,als] at h3 ⊢;omega
theorem w2 (s:List UInt8) (a:ye) (k x:Int) (hs:s.length<=1073741824) (h:(jU s (ya s a).1).1.2=true):zj (k,0,([],0,[],[]),(x,(ya s a).2,(jU s (ya s a).1).2),(0,[],[]),0,(0,0,0,0))<=1073741824:=by
 obtain⟨h1,h2,h3,h4⟩:=Bz h;obtain⟨g1,g2,g3,g4⟩:=aX h1;simp only[zj,zD,zm,zi,zn,als];omega
theorem w3 (s:List UInt8) (a:ye) (k x y:Int) (hs:s.length<=1073741824) (h:(yG s a).1.2=true):zj (k,x,([],0,[],[]),(0,[],[]),(yG s a).2,y,(0,0,0,0))<=1073741824:=by
 obtain⟨h1,h2,h3,h4⟩:=pE h;simp only[zj,zD,zm,zi,zn,als] at h3 ⊢;omega
theorem w4 (k:Int) (t:zN):zj (k,0,([],0,[],[]),(0,[],[]),(0,[],[]),0,t)<=1073741824:=by
 simp[zj,zD,zm,zi,zn]
theorem DD (c:za) (s:List UInt8) (hs:s.length<=1073741824):qo (c,s,())=some ((JT c s).1,(JT c s).2,()):=by
 have hl:s.length<=137438953472:=by omega
 unfold qo JT;simp only[qL s _ hl,sv s _ hl,DU s _ hl,DT s _ hl,alm];cases ((zl s (0,true)).2==1)
 ·cases ((zl s (0,true)).2==2)
  ·cases ((zl s (0,true)).2==3)
   ·cases ((zl s (0,true)).2==4)
    ·exact bX c s _ _ (λ _ _=>w4 _ _)
    ·exact bX c s _ _ (λ _ _=>w4 _ _)
   ·exact bX c s _ _ (λ h _=>w3 s _ _ _ _ hs h)
  ·exact bX c s _ _ (λ h _=>w2 s _ _ _ hs h)
 ·exact bX c s _ _ (λ h _=>w1 s _ _ hs h)
theorem Qr (c:za) (s:List UInt8) (r:ye) (m:zw) (hw:r.2=true->zj m<=1073741824):zj (JN c s r m).1<=1073741824:=by
 unfold JN;cases hr:r.2
 ·simp[Qf,zj,zD,zm,zi,zn]
 ·cases (r.1==(s.length:Int) && yO c m)
  ·simp[Qf,zj,zD,zm,zi,zn]
  ·exact hw hr
theorem UA (c:za) (s:List UInt8) (hs:s.length<=1073741824):zj (JT c s).1<=1073741824:=by
 unfold JT;dsimp only;cases ((zl s (0,true)).2==1)
 ·cases ((zl s (0,true)).2==2)
  ·cases ((zl s (0,true)).2==3)
   ·cases ((zl s (0,true)).2==4)
    ·exact Qr c s _ _ (λ _=>w4 _ _)
    ·exact Qr c s _ _ (λ _=>w4 _ _)
   ·exact Qr c s _ _ (λ h=>w3 s _ _ _ _ hs h)
  ·exact Qr c s _ _ (λ h=>w2 s _ _ _ hs h)
 ·exact Qr c s _ _ (λ h=>w1 s _ _ hs h)
def jW:zr:=(0,0,(0,[],[]),[])
def Yk (id:Int):zb:=(id,1,0,jW,[],[],([],0),[])
def acv:zb:=(0,0,0,jW,[],[],([],0),[])
theorem wu (id:Int):zf (Yk id)=0:=rfl
noncomputable def Yr (c:za) (id:Int):zb×Bool:=bif ze c (Yk id) then (Yk id,true) else (acv,false)
theorem DH (c:za) (id:Int):bM (c,id,())=some ((Yr c id).1,(Yr c id).2,()):=by
 have h:=Zv c (Yk id) (by rw[wu]; decide)
 unfold bM Yr;dsimp only;simp only[Yk,jW] at h ⊢;rw[h];cases ze c (id,1,0,(0,0,(0,[],[]),[]),[],[],([],0),[])<;>rfl
theorem BE (c:za) (id:Int):zf (Yr c id).1=0:=by
 unfold Yr;cases ze c (Yk id)<;>rfl
def yx (s:List UInt8):ye×zr:=
 let a:=zl s (0,true)
 let b:=zl s a.1
 let q:=yG s b.1
 let t:=ya s q.1
 (t.1,(a.2,b.2,q.2,t.2))
noncomputable def y5 (c:za) (s:List UInt8):zr×Bool:=
 bif (yx s).1.2 && ((yx s).1.1==(s.length:Int) && zU c (yx s).2) then ((yx s).2,true) else (jW,false)
theorem pF {s:List UInt8} (h:(yx s).1.2=true):(zt (yx s).2:Int)<=s.length:=by
 unfold yx at h ⊢;simp only at h ⊢;obtain⟨a1,a2,a3,a4⟩:=aX h;obtain⟨b1,b2,b3,b4⟩:=pE a1;simp only[zt];omega
theorem abk (c:za) (s:List UInt8) (hs:s.length<=1073741824):ke (c,s,())=some ((y5 c s).1,(y5 c s).2,()):=by
 unfold ke y5;dsimp only;rw[qL s _ (by omega),alm];dsimp only;rw[qL s _ (by omega),alm];dsimp only;rw[DT s _ (by omega),alm];dsimp only;rw[sv s _ (by omega),alm];dsimp only;have hw:=pF (s:=s);have e:yx s=((ya s (yG s (zl s (zl s (0,true)).1).1).1).1,((zl s (0,true)).2,(zl s (zl s (0,true)).1).2,(yG s (zl s (zl s (0,true)).1).1).2,(ya s (yG s (zl s (zl s (0,true)).1).1).1).2)):=rfl;have e1:(ya s (yG s (zl s (zl s (0,true)).1).1).1).1=(yx s).1:=rfl;have e2:((zl s (0,true)).2,(zl s (zl s (0,true)).1).2,(yG s (zl s (zl s (0,true)).1).1).2,(ya s (yG s (zl s (zl s (0,true)).1).1).1).2)=(yx s).2:=rfl;rw[e1,e2];cases hr:(yx s).1.2
 ·rfl
 ·have:=hw hr;by_cases hl:(yx s).1.1=(s.length:Int)
  ·have e3:((yx s).1.1 != (s.length:Int))=false:=by simp[hl]
   have e4:((yx s).1.1==(s.length:Int))=true:=by simp[hl]
   rw[e3,e4,qy c _ (by omega)];cases h:zU c (yx s).2<;>simp[jW]
  ·have e3:((yx s).1.1 != (s.length:Int))=true:=by simp[hl]
   have e4:((yx s).1.1==(s.length:Int))=false:=by simp[hl]
   rw[e3,e4]; rfl
theorem SJ (c:za) (s:List UInt8) (hs:s.length<=1073741824):dD (c,s,())=some ((y5 c s).1,(y5 c s).2,()):=by
 unfold dD y5;dsimp only;rw[show ((0:Int),false)=(((0:Int),true).1,!((0:Int),true).2) from rfl,QW s _ (by omega),alm];dsimp only;rw[QW s _ (by omega),alm];dsimp only;rw[S3 s _ (by omega),alm];dsimp only;rw[vt s _ (by omega),alm];dsimp only;have hw:=pF (s:=s);have e1:(ya s (yG s (zl s (zl s (0,true)).1).1).1).1=(yx s).1:=rfl;have e2:((zl s (0,true)).2,(zl s (zl s (0,true)).1).2,(yG s (zl s (zl s (0,true)).1).1).2,(ya s (yG s (zl s (zl s (0,true)).1).1).1).2)=(yx s).2:=rfl;rw[e1,e2];cases hr:(yx s).1.2
 ·rfl
 ·have:=hw hr;by_cases hl:(yx s).1.1=(s.length:Int)
  ·have e3:((yx s).1.1 != (s.length:Int))=false:=by simp[hl]
   have e4:((yx s).1.1==(s.length:Int))=true:=by simp[hl]
   rw[e3,e4,mR c _ (by omega)];cases h:zU c (yx s).2<;>simp[jW]
  ·have e3:((yx s).1.1 != (s.length:Int))=true:=by simp[hl]
   have e4:((yx s).1.1==(s.length:Int))=false:=by simp[hl]
   rw[e3,e4]; rfl
noncomputable def jb (c:za) (s:List UInt8):Nat->Nat->zr->zr×Int
 | 0,at_,old=>(old,at_)
 | n+1,at_,old=>
  let t:=zp s at_
  bif t.2.2 && (decide (t.2.1<(s.length:Int)) && (s.getD t.2.1.toNat 0==10 && (y5 c t.1).2)) then jb c s n (t.2.1+1).toNat (y5 c t.1).1 else (old,at_)
noncomputable def yY (c:za) (s:List UInt8):zr×Int:=jb c s (s.length+1) 0 jW
theorem L1 {s:List UInt8} {at_:Int} (h:(zp s at_).2.2=true):0<=at_/\at_+1<=(zp s at_).2.1/\(zp s at_).2.1<=(s.length:Int)/\(zp s at_).1.length<=s.length/\
  (zh s at_).2.2=true/\(zp s at_).2.1=(zh s at_).2.1+(zh s at_).1/\(zp s at_).1=(s.drop (zh s at_).2.1.toNat).take (zh s at_).1.toNat:=by
 unfold zp at h ⊢;split at h
 ·next hg=>
  rw[if_pos hg];have:=JP s at_ hg.1;refine⟨by omega,by simp only; omega,by simp only; omega,?_,hg.1,rfl,rfl⟩
  simp only[alE,alF];omega
 ·simp at h
theorem eo (c:za) (s:List UInt8):∀ (n at_:Nat) (old:zr),s.length<at_+n->∀ m,s.length<at_+m->jb c s n at_ old=jb c s m at_ old
 | n,at_,old,hn,m,hm=>by
  cases n with
  | zero=>
   cases m with
   | zero=>rfl
   | succ m=>
    have:(zp s at_).2.2=false:=by
     cases h:(zp s at_).2.2
     ·rfl
     ·have:=L1 h; omega
    simp only[jb,this,ami,aln]
  | succ n=>
   cases m with
   | zero=>
    have:(zp s at_).2.2=false:=by
     cases h:(zp s at_).2.2
     ·rfl
     ·have:=L1 h; omega
    simp only[jb,this,ami,aln]
   | succ m=>
    simp only[jb];cases h:(zp s at_).2.2
    ·simp
    ·have:=L1 h;rw[eo c s n _ _ (by omega) m (by omega)]
theorem wA:UInt8.ofNat (Int.toNat 10)=10:=rfl
theorem DA (c:za) (s:List UInt8) (hs:s.length<=1073741824):bE (c,s,())=some ((yY c s).1,(yY c s).2,()):=by
 unfold bE bN yY;rw[alm];dsimp only;refine (NC (λ x:Int×zr×zr×Unit=>some ((jb c s (s.length+1) x.1.toNat x.2.2.1).1,(jb c s (s.length+1) x.1.toNat x.2.2.1).2,())) (λ x=>s.length+1 - x.1.toNat)
  (λ x=>0<=x.1/\x.1<=(s.length:Int)) ?_ fuel _ ⟨by simp,by simp⟩ (by have:=Ji (n:=s.length+1) (by omega); simp; omega)).trans (by rfl)
 rintro rec ⟨v,z,old,⟨⟩⟩ ⟨h1,h2⟩ acB;obtain⟨n,rfl⟩:∃ n:Nat,v=(n:Int):=⟨v.toNat,by simp only at h1; omega⟩
 simp only[aly] at h2 acB ⊢;simp only[sa s _ (show s.length<=137438953472 by omega),alm,jb];cases hg:(zh s n).2.2
 ·have:(zp s n).2.2=false:=by unfold zp; rw[if_neg (by simp[hg])]
  simp[this]
 ·obtain⟨g0,g1,g2,g3,g4⟩:=JP s n hg;simp only[alt,aln,zg (show (-9223372036854775808:Int)<=(s.length:Int) - (zh s n).2.1 by omega) (show (s.length:Int) - (zh s n).2.1<=9223372036854775807 by omega),
   zg (show (-9223372036854775808:Int)<=(zh s n).2.1+(zh s n).1 by omega) (show (zh s n).2.1+(zh s n).1<=9223372036854775807 by omega)]
  by_cases hc:(zh s n).1≥(s.length:Int) - (zh s n).2.1
  ·simp only[hc,alu,alo];by_cases ht:(zp s n).2.2=true
   ·obtain⟨t0,t1,t2,t3,t4,t5,t6⟩:=L1 ht;have:¬ (zp s n).2.1<(s.length:Int):=by omega
    simp[this]
   ·have:(zp s n).2.2=false:=by simpa using ht
    simp[this]
  ·have e0:zp s n=((s.drop (zh s n).2.1.toNat).take (zh s n).1.toNat,(zh s n).2.1+(zh s n).1,true):=by
    unfold zp;rw[if_pos ⟨hg,by omega⟩]
   have hlt:(zh s n).2.1+(zh s n).1<(s.length:Int):=by omega
   simp only[hc,alx,aln,e0,hlt,alu,alI];rw[if_pos (show 0<=(zh s n).2.1+(zh s n).1/\True from⟨by omega,trivial⟩)];have hrd:rd .u8 s ((zh s n).2.1+(zh s n).1).toNat=s.getD ((zh s n).2.1+(zh s n).1).toNat 0:=rfl;rw[hrd,wA];by_cases h10:s.getD ((zh s n).2.1+(zh s n).1).toNat 0=10
   ·have e1:(s.getD ((zh s n).2.1+(zh s n).1).toNat 0 != 10)=false:=by rw[h10]; rfl
    have e2:(s.getD ((zh s n).2.1+(zh s n).1).toNat 0==10)=true:=by rw[h10]; rfl
    rw[e1,e2];simp only[aln,alI];rw[if_pos (show 0<=(zh s n).2.1/\(zh s n).2.1<=(zh s n).2.1+(zh s n).1/\(zh s n).2.1+(zh s n).1<=(s.length:Int) from⟨by omega,by omega,by omega⟩),sL _ _ _ g1 (by omega),abk c _ (by simp only[alE,alF]; omega),Option.bind_some]
    dsimp only;cases hk:(y5 c (List.take (zh s n).1.toNat (List.drop (zh s n).2.1.toNat s))).2
    ·rfl
    ·simp only[alt,aln,alo];rw[zg (n:=(zh s n).2.1+(zh s n).1+1) (by omega) (by omega),acB _ ⟨by simp only; omega,by simp only; omega⟩ (by simp only; omega)]
     simp only;rw[eo c s (s.length+1) _ _ (by omega) s.length (by omega)]
   ·have e1:(s.getD ((zh s n).2.1+(zh s n).1).toNat 0 != 10)=true:=bne_iff_ne.2 h10;have e2:(s.getD ((zh s n).2.1+(zh s n).1).toNat 0==10)=false:=beq_eq_false_iff_ne.2 h10;rw[e1,e2];rfl
theorem va (c:za) (s:List UInt8) (hs:s.length<=1073741824):QE (c,s,())=some ((yY c s).1,(yY c s).2,()):=by
 unfold QE mQ yY;rw[alm];dsimp only;refine (NC (λ x:Int×zr×zr×Unit=>some ((jb c s (s.length+1) x.1.toNat x.2.2.1).1,(jb c s (s.length+1) x.1.toNat x.2.2.1).2,())) (λ x=>s.length+1 - x.1.toNat)
  (λ x=>0<=x.1/\x.1<=(s.length:Int)) ?_ fuel _ ⟨by simp,by simp⟩ (by have:=Ji (n:=s.length+1) (by omega); simp; omega)).trans (by rfl)
 rintro rec ⟨v,z,old,⟨⟩⟩ ⟨h1,h2⟩ acB;obtain⟨n,rfl⟩:∃ n:Nat,v=(n:Int):=⟨v.toNat,by simp only at h1; omega⟩
 simp only[aly] at h2 acB ⊢;simp only[u9 s _ (show s.length<=137438953472 by omega),alm,jb];cases hg:(zp s n).2.2
 ·simp
 ·obtain⟨t0,t1,t2,t3,t4,t5,t6⟩:=L1 hg;simp only[alt,aln,alI];by_cases hc:(zp s n).2.1≥(s.length:Int)
  ·have:¬ (zp s n).2.1<(s.length:Int):=by omega
   simp[hc,this]
  ·have hlt:(zp s n).2.1<(s.length:Int):=by omega
   simp only[hc,alx,aln,hlt,alu,alI];rw[if_pos (show 0<=(zp s n).2.1/\True from⟨by omega,trivial⟩)];have hrd:rd .u8 s (zp s n).2.1.toNat=s.getD (zp s n).2.1.toNat 0:=rfl;rw[hrd,wA];by_cases h10:s.getD (zp s n).2.1.toNat 0=10
   ·have e1:(s.getD (zp s n).2.1.toNat 0 != 10)=false:=by rw[h10]; rfl
    have e2:(s.getD (zp s n).2.1.toNat 0==10)=true:=by rw[h10]; rfl
    rw[e1,e2];simp only[aln,alI];rw[SJ c _ (by omega),alm];dsimp only;cases hk:(y5 c (zp s n).1).2
    ·rfl
    ·simp only[alt,aln,alo];rw[zg (n:=(zp s n).2.1+1) (by omega) (by omega),acB _ ⟨by simp only; omega,by simp only; omega⟩ (by simp only; omega)]
     simp only;rw[eo c s (s.length+1) _ _ (by omega) s.length (by omega)]
   ·have e1:(s.getD (zp s n).2.1.toNat 0 != 10)=true:=bne_iff_ne.2 h10;have e2:(s.getD (zp s n).2.1.toNat 0==10)=false:=beq_eq_false_iff_ne.2 h10;rw[e1,e2];rfl
def jx (a b:zr):Bool:=a.1==b.1 && (a.2.1==b.2.1 && (jh a.2.2.1 b.2.2.1 && a.2.2.2==b.2.2.2))
theorem sq (a b:zr) (h:zt a<=137438953472):qz (a,b,())=some (jx a b,()):=by
 unfold qz jx;simp only[sh a.2.2.1 b.2.2.1 (by simp only[zt,zi,zn] at h; omega),Option.bind_some]
 cases a.1==b.1<;>cases a.2.1==b.2.1<;>cases jh a.2.2.1 b.2.2.1<;>rfl
theorem dE (a b:zr) (h:zt a<=137438953472):j8 (a,b,())=some (jx a b,()):=by
 unfold j8 jx;simp only[dy a.2.2.1 b.2.2.1 (by simp only[zt,zi,zn] at h; omega),Option.bind_some]
 cases a.1==b.1<;>cases a.2.1==b.2.1<;>cases jh a.2.2.1 b.2.2.1<;>rfl
theorem XZ (c:za) (s:List UInt8):zt (y5 c s).1<=s.length:=by
 unfold y5;cases h:(yx s).1.2
 ·simp[jW,zt,zi,zn]
 ·have:=pF h;cases ((yx s).1.1==(s.length:Int))<;>cases zU c (yx s).2
  ·simp[jW,zt,zi,zn]
  ·simp[jW,zt,zi,zn]
  ·simp[jW,zt,zi,zn]
  ·simp only[amn,alo]; omega
theorem vW (c:za) (s:List UInt8):∀ (n at_:Nat) (old:zr),at_<=s.length->zt old<=s.length->zt (jb c s n at_ old).1<=s.length/\0<=(jb c s n at_ old).2/\(jb c s n at_ old).2<=(s.length:Int)
 | 0,at_,old,h1,h2=>⟨h2,by simp only[jb]; omega,by simp only[jb]; omega⟩
 | n+1,at_,old,h1,h2=>by
  simp only[jb];cases hg:((zp s at_).2.2 && (decide ((zp s at_).2.1<(s.length:Int)) && (s.getD (zp s at_).2.1.toNat 0==10 && (y5 c (zp s at_).1).2)))
  ·exact⟨h2,by simp only[aln]; omega,by simp only[aln]; omega⟩
  ·simp only[alp,alz] at hg;obtain⟨k1,k2,k3,k4⟩:=hg;obtain⟨t0,t1,t2,t3,t4,t5,t6⟩:=L1 k1;have:=XZ c (zp s at_).1;exact vW c s n _ _ (by omega) (by omega)
theorem NG (c:za) (s:List UInt8):zt (yY c s).1<=s.length/\0<=(yY c s).2/\(yY c s).2<=(s.length:Int):=vW c s _ 0 _ (by simp) (by simp[jW,zt,zi,zn])
noncomputable def kept (c:za) (r:zb):Bool:=ze c r && (jx (yY c r.2.2.2.2.2.2.1.1).1 r.2.2.2.1 && (yY c r.2.2.2.2.2.2.1.1).2==(r.2.2.2.2.2.2.1.1.length:Int))
theorem LJ {r:zb} {N:Nat} (h:zf r<=N):r.2.2.2.2.2.2.1.1.length<=N:=by simp only[zf,JD] at h; omega
theorem LK {r:zb} {N:Nat} (h:zf r<=N):zt r.2.2.2.1<=N:=by simp only[zf] at h; omega
theorem dm (c:za) (r:zb) (hw:zf r<=1073741824):ja (c,r,())=some (kept c r,()):=by
 have h1:=LJ hw;have h2:=NG c r.2.2.2.2.2.2.1.1;unfold ja kept;simp only[Kf c r (by omega),va c _ h1,dE (yY c r.2.2.2.2.2.2.1.1).1 _ (by omega),alm];cases ze c r<;>cases jx (yY c r.2.2.2.2.2.2.1.1).1 r.2.2.2.1<;>rfl
def jZ:zO:=([100,100,100,100],[0,0,0,0])
theorem wv {G:(Int×zO×Unit->Option (zO×Unit))->Int×zO×Unit->Option (zO×Unit)}
  (hG:∀ rec (i:Int) (l:zO),G rec (i,l,())=bif decide (i<4) then (if (l.1.length+[(100:Int)].length)*8<=70368744177664 then rec (wr (i+1),(l.1++[100],l.2),()) else none) else some (l,())):
  iter G fuel (0,([],List.replicate (Int.toNat 4) 0),())=some (jZ,()):=by
 refine (walk 4 (λ i (o:List Int)=>(i,(o,List.replicate (Int.toNat 4) 0),())) (λ i o=>o.length=i) (λ i o=>some ((o++List.replicate (4 - i) 100,List.replicate (Int.toNat 4) 0),())) (by decide) ?_ ?_ (s0:=[]) rfl).trans rfl
 ·intro rec o ho; rw[hG]; simp
 ·intro rec i o hi ho;right;refine⟨o++[100],by simp[ho],?_,?_⟩
  ·rw[hG];simp only[show ((i:Int)<4) by omega,alu,alo,alr,als,zx (show i<4611686018427387904 by omega)];rw[if_pos (by omega)]
  ·rw[show 4 - i=(4 - (i+1))+1 by omega,an5]; simp
theorem DB:qn ()=some (jZ,()):=by
 unfold qn;exact wv (λ rec i l=>rfl)
theorem Sw:dn ()=some (jZ,()):=by
 unfold dn;exact wv (λ rec i l=>rfl)
def jQ (s:List UInt8):zE:=((steps s).1.map λ x=>x.2).flatten
theorem D8:∀ (ps:List (List UInt8)) (prev:Int) (out:List ZZ),(∀ x∈out,x.2.length<=2)->∀ x∈(jE ps prev out).1,x.2.length<=2
 | [],prev,out,h=>h
 | p::ps,prev,out,h=>by
  simp only[jE];cases yL 124 p with
  | none=>simp
  | some q=>
   simp only;split
   ·next hB=>
    refine D8 ps _ _ ?_;intro x hx;rcases List.mem_append.1 hx with hx|hx
    ·exact h x hx
    ·simp only[amA] at hx;subst hx;unfold yU at hB;simp only[alp,alz] at hB;exact hB.2.2.2.2
   ·simp
theorem Ea (s:List UInt8):∀ x∈(steps s).1,x.2.length<=2:=by
 unfold steps;split
 ·simp
 ·cases zS 47 s with
  | nil=>simp
  | cons p ps=>
   simp only;split
   ·exact D8 _ _ _ (by simp)
   ·simp
theorem uH:∀ (l:List ZZ) (out:zE),l.foldl (λ o x=>o++x.2) out=out++(l.map λ x=>x.2).flatten
 | [],out=>by simp
 | x::l,out=>by rw[ama,uH l]; simp
theorem En (s:List UInt8) {G:(zE×Int×Unit->Option (zE×Unit))->zE×Int×Unit->Option (zE×Unit)}
  (hG:∀ rec (o:zE) (i:Int),G rec (o,i,())=bif decide (i<((steps s).1.length:Int)) then (if 0<=i/\i<((steps s).1.length:Int) then (if (o.length+(rd (.pair .i64 (.sl 0 Zz)) (steps s).1 i.toNat).2.length)*32<=70368744177664 then
   rec (o++(rd (.pair .i64 (.sl 0 Zz)) (steps s).1 i.toNat).2,wr (i+1),()) else none) else none) else some (o,())):
  iter G fuel ([],0,())=some (jQ s,()):=by
 have h30:=(ct s).2;have:=Np (λ i (o:zE)=>(o,i,())) (steps s).1 (λ o x=>o++x.2) (λ o=>some (o,())) (by omega) (λ i o=>o.length<=2*i) (G:=G) ?_ ?_ (s0:=[]) (by simp)
 ·rw[this,uH]; rfl
 ·intro rec o ho; rw[hG]; simp
 ·intro rec i o x hx hi ho;have h2:=Ea s x (List.mem_of_getElem? hx);refine⟨by rw[alv]; omega,?_⟩
  rw[hG];simp only[zz hi,alu,alo,alD,if_true,aly,zu (e:=.pair .i64 (.sl 0 Zz)) hx,zx (show i<4611686018427387904 by omega)];rw[if_pos (by omega)]
theorem sV (s:List UInt8):(jQ s).length<=60:=by
 have h30:=(ct s).2;have h2:=Ea s;have key:∀ l:List ZZ,(∀ x∈l,x.2.length<=2)->(l.map λ x=>x.2).flatten.length<=2*l.length:=by
  intro l;induction l with
  | nil=>simp
  | cons x l ih=>
   intro h;have a:=h x (by simp);have b:=ih (λ y hy=>h y (by simp[hy]));simp only[alG,amI,alv,alr];omega
 have:=key _ h2;unfold jQ;omega
theorem DN (s:List UInt8) (hs:s.length<=137438953472):qG (s,())=some (jQ s,()):=by
 unfold qG;simp only[km s hs,alm];exact En s (λ rec o i=>rfl)
theorem SP (s:List UInt8) (hs:s.length<=1073741824):dH (s,())=some (jQ s,()):=by
 unfold dH;simp only[mS s hs,alm];exact En s (λ rec o i=>rfl)
def within (lo hi x:Int):Bool:=decide (x≥lo) && decide (x<=hi)
def jc (l:zO):Bool:=decide (l.1.length=4) && (decide (l.2.length=4) && (l.1.all (within 0 400) && l.2.all (within 0 100)))
theorem aba (l:zO):bF (l,())=some (jc l,()):=by
 unfold bF jc;dsimp only;by_cases h1:l.1.length=4
 ·by_cases h2:l.2.length=4
  ·simp only[h1,h2,alu,alI,show (((4:Nat):Int) != 4)=false from rfl,aln];refine (walk 4 (λ i (_:Unit)=>(i,())) (λ _ _=>True) (λ i _=>some ((l.1.drop i).all (within 0 400) && (l.2.drop i).all (within 0 100),())) (by decide) ?_ ?_ (s0:=()) trivial).trans (by simp)
   ·intro rec s _;rw[amX (by omega),amX (by omega)]; simp
   ·intro rec i s hi _;have hi1:i<l.1.length:=by omega
    have hi2:i<l.2.length:=by omega
    have hx1:l.1[i]?=some l.1[i]:=List.getElem?_eq_getElem hi1;have hx2:l.2[i]?=some l.2[i]:=List.getElem?_eq_getElem hi2;have c1:(0:Int)<=(i:Int):=by omega
    have c2:(i:Int)<4:=by omega
    have c3:(i:Int)<((4:Nat):Int):=by omega
    simp only[c1,c2,c3,alu,alo,alD,if_true,aly,zu (e:=.i64) hx1,zu (e:=.i64) hx2,Yw,alm,zx (show i<4611686018427387904 by omega)];rw[alJ hi1,alJ hi2];simp only[alX,within];cases (decide (l.1[i]≥0) && decide (l.1[i]<=400))
    ·left; simp
    ·cases (decide (l.2[i]≥0) && decide (l.2[i]<=100))
     ·left; simp
     ·right; exact⟨(),trivial,by simp,by simp⟩
  ·have:(((l.2.length:Nat):Int) != 4)=true:=bne_iff_ne.2 (by omega);simp[h1,this,h2]
 ·have:(((l.1.length:Nat):Int) != 4)=true:=bne_iff_ne.2 (by omega);simp[this,h1]
theorem tE (l:List Int) (lo hi:Int) (hl:l.length<=137438953472):QR (l,lo,hi,())=some (l.all (within lo hi),()):=by
 unfold QR;refine lV (within lo hi) l (by omega) ?_ ?_
 ·intro rec s; simp
 ·intro rec i s x hx hi';simp only[zz hi',alu,alo,alD,if_true,aly,zu (e:=.i64) hx,JR,alm,zx (show i<4611686018427387904 by omega),within];cases (decide (x≥lo) && decide (x<=hi))<;>rfl
theorem Sx (l:zO):QF (l,())=some (jc l,()):=by
 unfold QF jc;dsimp only;by_cases h1:l.1.length=4
 ·by_cases h2:l.2.length=4
  ·simp only[h1,h2,alu,alI,show (((4:Nat):Int)==4)=true from rfl,alo,tE l.1 0 400 (by omega),tE l.2 0 100 (by omega),alm];cases l.1.all (within 0 400)<;>rfl
  ·have:(((l.2.length:Nat):Int)==4)=false:=beq_eq_false_iff_ne.2 (by omega);simp[h1,this,h2]
 ·have:(((l.1.length:Nat):Int)==4)=false:=beq_eq_false_iff_ne.2 (by omega);simp[this,h1]
theorem wc {l:zO} (h:jc l=true):l.1.length=4/\l.2.length=4:=by
 unfold jc at h;simp only[alp,alz] at h;exact⟨h.1,h.2.1⟩
noncomputable def pay (l:zO) (x:zN):zO×Int:=
 if jc l=true/\zH x=true then
  (if x.2.2.2<rd .i64 l.2 x.1.toNat then (l,2) else if x.2.2.2>rd .i64 l.2 x.1.toNat then (l,3) else
   if x.2.2.1>rd .i64 l.1 x.1.toNat then ((l.1,l.2.set x.1.toNat (wr (x.2.2.2+1))),4) else
   let h:=l.1.set x.1.toNat (wr (rd .i64 l.1 x.1.toNat - x.2.2.1))
   let m:zO:=(h.set x.2.1.toNat (wr (rd .i64 h x.2.1.toNat+x.2.2.1)),l.2.set x.1.toNat (wr (x.2.2.2+1)))
   if jc m=true then (m,0) else (l,1))
 else (l,1)
theorem sE (l:zO) (h1:l.1.length<=137438953472) (h2:l.2.length<=137438953472):MK (l,())=some (l,()):=by
 unfold MK;dsimp only;rw[if_pos (by omega),if_pos (by omega)]; rfl
theorem vm (l:zO) (h1:l.1.length<=137438953472) (h2:l.2.length<=137438953472):NA (l,())=some (l,()):=by
 unfold NA;simp only[dO l.1 h1,dO l.2 h2,alm]
theorem sb (l:zO) (x:zN) (h1:l.1.length<=137438953472) (h2:l.2.length<=137438953472):Mx (l,x,())=some ((pay l x).1,(pay l x).2,()):=by
 unfold Mx pay;simp only[sE l h1 h2,aba,ME,alm];by_cases hl:jc l=true
 ·by_cases hx:zH x=true
  ·obtain⟨⟨b1,b2⟩,⟨b3,b4⟩,_,_⟩:=(LI x).1 hx;obtain⟨g1,g2⟩:=wc hl;have d1:x.1<(l.1.length:Int):=by omega
   have d2:x.1<(l.2.length:Int):=by omega
   have d3:x.2.1<(l.1.length:Int):=by omega
   rw[if_pos (show jc l=true/\zH x=true from⟨hl,hx⟩)];simp only[hl,hx,alt,aln,b1,b3,d1,d2,d3,alD,if_true,amH];by_cases e1:x.2.2.2<rd .i64 l.2 x.1.toNat
   ·simp only[e1,alu,alo,if_true]
   ·simp only[e1,alx,aln,if_false];by_cases e2:x.2.2.2>rd .i64 l.2 x.1.toNat
    ·simp only[e2,alu,alo,if_true]
    ·simp only[e2,alx,aln,if_false];by_cases e3:x.2.2.1>rd .i64 l.1 x.1.toNat
     ·simp only[e3,alu,alo,if_true]
     ·simp only[e3,alx,aln,if_false];cases hm:jc ((l.1.set x.1.toNat (wr (rd .i64 l.1 x.1.toNat - x.2.2.1))).set x.2.1.toNat (wr (rd .i64 (l.1.set x.1.toNat (wr (rd .i64 l.1 x.1.toNat - x.2.2.1))) x.2.1.toNat+x.2.2.1)),l.2.set x.1.toNat (wr (x.2.2.2+1)))
      ·simp
      ·simp
  ·have hx':zH x=false:=by simpa using hx
   rw[if_neg (show ¬ (jc l=true/\zH x=true) from λ h=>hx h.2)];simp[hl,hx']
 ·have hl':jc l=false:=by simpa using hl
  rw[if_neg (show ¬ (jc l=true/\zH x=true) from λ h=>hl h.1)];simp[hl']
theorem SC (l:zO) (x:zN) (h1:l.1.length<=137438953472) (h2:l.2.length<=137438953472):QJ (l,x,())=some ((pay l x).1,(pay l x).2,()):=by
 unfold QJ pay;simp only[vm l h1 h2,Sx,Nz,alm];by_cases hl:jc l=true
 ·by_cases hx:zH x=true
  ·obtain⟨⟨b1,b2⟩,⟨b3,b4⟩,_,_⟩:=(LI x).1 hx;obtain⟨g1,g2⟩:=wc hl;have d1:x.1<(l.1.length:Int):=by omega
   have d2:x.1<(l.2.length:Int):=by omega
   have d3:x.2.1<(l.1.length:Int):=by omega
   rw[if_pos (show jc l=true/\zH x=true from⟨hl,hx⟩)];simp only[hl,hx,alt,aln,b1,b3,d1,d2,d3,alD,if_true,amH];by_cases e1:x.2.2.2<rd .i64 l.2 x.1.toNat
   ·simp only[e1,alu,alo,if_true]
   ·simp only[e1,alx,aln,if_false];by_cases e2:x.2.2.2>rd .i64 l.2 x.1.toNat
    ·simp only[e2,alu,alo,if_true]
    ·have e0 : @Eq Int (rd .i64 l.2 x.1.toNat) x.2.2.2:=by omega
     simp only[e0,gt_iff_lt,alS,alx,aln,if_false];by_cases e3:rd .i64 l.1 x.1.toNat<x.2.2.1
     ·simp only[e3,alu,alo,if_true]
     ·simp only[e3,alx,aln,if_false];cases hm:jc ((l.1.set x.1.toNat (wr (rd .i64 l.1 x.1.toNat - x.2.2.1))).set x.2.1.toNat (wr (rd .i64 (l.1.set x.1.toNat (wr (rd .i64 l.1 x.1.toNat - x.2.2.1))) x.2.1.toNat+x.2.2.1)),l.2.set x.1.toNat (wr (x.2.2.2+1)))
      ·simp
      ·simp
  ·have hx':zH x=false:=by simpa using hx
   rw[if_neg (show ¬ (jc l=true/\zH x=true) from λ h=>hx h.2)];simp[hl,hx']
 ·have hl':jc l=false:=by simpa using hl
  rw[if_neg (show ¬ (jc l=true/\zH x=true) from λ h=>hl h.1)];simp[hl']
theorem n7 (l:zO) (x:zN):(pay l x).1.1.length=l.1.length/\(pay l x).1.2.length=l.2.length:=by
 unfold pay;dsimp only;repeat' split
 all_goals simp
noncomputable def Jr (s:List Int×zO) (x:zN):List Int×zO:=(s.1++[(pay s.2 x).2],(pay s.2 x).1)
noncomputable def Za (l:zO) (xs:zE):List Int×zO:=xs.foldl Jr ([],l)
theorem wH {f:zO×zN×Unit->Option (zO×Int×Unit)} (l:zO) (xs:zE) (h1:l.1.length<=137438953472) (h2:l.2.length<=137438953472) (hxs:xs.length<=137438953472)
  (hf:∀ l x,l.1.length<=137438953472->l.2.length<=137438953472->f (l,x,())=some ((pay l x).1,(pay l x).2,()))
  {G:(List Int×Int×zO×Unit->Option (zO×List Int×Unit))->List Int×Int×zO×Unit->Option (zO×List Int×Unit)}
  (hG:∀ rec (o:List Int) (i:Int) (m:zO),G rec (o,i,m,())=bif decide (i<(xs.length:Int)) then (if 0<=i/\i<(xs.length:Int) then (f (m,rd Zz xs i.toNat,())).bind λ r2=>
   (if (o.length+[r2.2.1].length)*8<=70368744177664 then rec (o++[r2.2.1],wr (i+1),r2.1,()) else none) else none) else some (m,o,())):
  iter G fuel ([],0,l,())=some ((Za l xs).2,(Za l xs).1,()):=by
 refine Np (λ i (s:List Int×zO)=>(s.1,i,s.2,())) xs Jr (λ s=>some (s.2,s.1,())) (by omega) (λ i s=>s.1.length=i/\s.2.1.length<=137438953472/\s.2.2.length<=137438953472) (G:=G) ?_ ?_ (s0:=([],l)) ⟨rfl,h1,h2⟩
 ·intro rec s hs; rw[hG]; simp
 ·intro rec i s x hx hi hs;obtain⟨k1,k2,k3⟩:=hs;obtain⟨p1,p2⟩:=n7 s.2 x;refine⟨⟨by simp[Jr,k1],by simp only[Jr]; omega,by simp only[Jr]; omega⟩,?_⟩
  rw[hG];simp only[zz hi,alu,alo,alD,if_true,aly,zu (e:=Zz) hx,hf s.2 x k2 k3,alm,zx (show i<4611686018427387904 by omega),alr,als];rw[if_pos (by omega)];rfl
theorem DF (l:zO) (xs:zE) (h1:l.1.length<=137438953472) (h2:l.2.length<=137438953472) (hxs:xs.length<=137438953472):qs (l,xs,())=some ((Za l xs).2,(Za l xs).1,()):=by
 unfold qs;rw[sE l h1 h2,alm];exact wH (f:=Mx) l xs h1 h2 hxs sb (λ rec o i m=>by dsimp only)
theorem SB (l:zO) (xs:zE) (h1:l.1.length<=137438953472) (h2:l.2.length<=137438953472) (hxs:xs.length<=137438953472):dt (l,xs,())=some ((Za l xs).2,(Za l xs).1,()):=by
 unfold dt;rw[vm l h1 h2,alm];exact wH (f:=QJ) l xs h1 h2 hxs SC (λ rec o i m=>by dsimp only)
theorem n6:∀ (xs:zE) (s:List Int×zO),(xs.foldl Jr s).2.1.length=s.2.1.length/\(xs.foldl Jr s).2.2.length=s.2.2.length/\(xs.foldl Jr s).1.length=s.1.length+xs.length
 | [],s=>by simp
 | x::xs,s=>by
  obtain⟨a,b,c⟩:=n6 xs (Jr s x);obtain⟨p1,p2⟩:=n7 s.2 x;rw[ama];refine⟨a.trans p1,b.trans p2,c.trans ?_⟩;simp only[Jr,alv,alr,als]; omega
noncomputable def state (c:za) (r:zb):zO:=bif ze c r then (Za jZ (jQ r.2.2.2.1.2.2.2)).2 else ([],[])
theorem DK (c:za) (r:zb) (hw:zf r<=137438953472):qD (c,r,())=some (state c r,()):=by
 have hs:=LK hw;have hl:=sV r.2.2.2.1.2.2.2;unfold qD state;simp only[Zv c r hw,DB,DN r.2.2.2.1.2.2.2 (by simp only[zt] at hs; omega),DF jZ _ (by decide) (by decide) (show (jQ r.2.2.2.1.2.2.2).length<=137438953472 by omega),Option.bind_some]
 cases ze c r<;>rfl
theorem D5 (c:za) (r:zb):cw (state c r)<=8:=by
 unfold state;cases ze c r
 ·simp[cw,zn]
 ·obtain⟨a,b,_⟩:=n6 (jQ r.2.2.2.1.2.2.2) ([],jZ);simp only[alo,cw,zn,Za,a,b];decide
noncomputable def Zd (c:za) (r:zb):zb×Zg:=bif ze c r then ((r.1,r.2.1,r.2.2.1,r.2.2.2.1,r.2.2.2.2.1,r.2.2.2.2.2.1,qV r.2.2.2.2.2.2.1,[]),r.2.2.2.2.2.2.2) else (r,[])
theorem abp (c:za) (r:zb) (hw:zf r<=137438953472):bR (c,r,())=some ((Zd c r).1,(Zd c r).2,()):=by
 have h1:=LJ hw;have h2:yt r.2.2.2.2.2.2.2<=137438953472:=by simp only[zf] at hw; omega
 unfold bR Zd;simp only[Zw r hw,Zv c r hw,abq r.2.2.2.2.2.2.1 (by omega),DW _ h2,alm];cases ze c r<;>rfl
theorem agE (c:za) (r:zb) (hw:zf r<=1073741824):ad8 (c,r,())=some ((Zd c r).1,(Zd c r).2,()):=by
 have h1:=LJ hw;unfold ad8 Zd;simp only[vo r (by omega),Kf c r hw,agF r.2.2.2.2.2.2.1 (by omega),alm];cases ze c r<;>rfl
theorem abP (d:yJ):(qV d).1.length=d.1.length:=by
 unfold qV; split<;>rfl
theorem abN (c:za) (r:zb):zf (Zd c r).1<=zf r/\yt (Zd c r).2<=zf r:=by
 unfold Zd;cases ze c r
 ·simp only[aln]; exact⟨Nat.le_refl _,by simp[yt]⟩
 ·have:=abP r.2.2.2.2.2.2.1;simp only[alo,zf,JD,this];refine⟨?_,by omega⟩;have:yt []=0:=rfl;omega
abbrev JG:Ty:=.pair .i64 (.pair .i64 (.pair .i64 (.pair (.pair .i64 (.pair .i64 (.pair (.pair .i64 (.pair .str (.sl 0 .i64))) .str))) (.pair (.sl 0 (.pair .i64 (.pair .i64 (.pair .i64 .i64)))) (.pair (.sl 0 (.pair .i64 (.pair .str (.sl 0 .i64)))) (.pair (.pair (.sl 0 .u8) .i64) (.sl 0 (.pair .i64 (.pair .i64 (.pair .i64 (.pair (.pair .str (.pair .i64 (.pair .str (.sl 0 .i64)))) (.pair (.pair .i64 (.pair .str (.sl 0 .i64))) (.pair (.pair .i64 (.pair .str (.sl 0 .i64))) (.pair .i64 (.pair .i64 (.pair .i64 (.pair .i64 .i64)))))))))))))))))
abbrev tl:Ty:=.pair .i64 (.sl 0 .u8)
abbrev MY:Ty:=.pair .i64 (.pair .str .i64)
def Zi {α:Type} (p:Nat->α->Bool):Nat->List α->Bool
 | _,[]=>true
 | i,x::l=>p i x && Zi p (i+1) l
theorem mM {α:Type} (p:Nat->α->Bool) (l:List α) (K:Option (Bool×Unit)) {G:(Int×Unit->Option (Bool×Unit))->Int×Unit->Option (Bool×Unit)} (hl:l.length<=1152921504606846976)
  (acT:∀ rec,G rec ((l.length:Int),())=K)
  (acP:∀ rec (i:Nat) x,l[i]?=some x->i<l.length->G rec ((i:Int),())=bif p i x then rec ((i:Int)+1,()) else some (false,())):
  iter G fuel (0,())=bif Zi p 0 l then K else some (false,()):=by
 refine (walk l.length (λ i (_:Unit)=>(i,())) (λ _ _=>True) (λ i _=>bif Zi p i (l.drop i) then K else some (false,())) hl ?_ ?_ (s0:=()) trivial).trans (by simp only[alN])
 ·intro rec s _; rw[acT,am7]; rfl
 ·intro rec i s hi _;rw[acP rec i l[i] (List.getElem?_eq_getElem hi) hi,List.drop_eq_getElem_cons hi];simp only[Zi];cases p i l[i]
  ·left; rfl
  ·right; exact⟨(),trivial,rfl,rfl⟩
theorem Tc {S R:Type} (G:(S->Option R)->S->Option R) (x:S):∃ n,iter G fuel x=G (iter G n) x:=by
 obtain⟨n,hn⟩:∃ n,fuel=n+1:=⟨18446744073709551615,by rw[y9]⟩
 rw[hn];exact⟨n,rfl⟩
def JM (c:za):Int:=if zC c=true then (c.1 - 1) / 3 else 0
theorem ab2 (c:za):gP (c,())=some (JM c,()):=by
 unfold gP JM;simp only[Y2,alm];by_cases h:zC c=true
 ·obtain⟨h1,h2⟩:=yi h;have e1:wr (c.1 - 1)=c.1 - 1:=zg (by omega) (by omega);have e2:Int.tdiv (c.1 - 1) 3=(c.1 - 1) / 3:=Int.tdiv_eq_ediv_of_nonneg (by omega);simp only[h,alt,aln,if_true,e1,e2];rw[zg (n:=(c.1 - 1) / 3) (by omega) (by omega)]
 ·have h':zC c=false:=by simpa using h
  simp[h']
noncomputable def aZ (c:za) (i:Nat) (r:zb):Bool:=ze c r && r.1==(i:Int)
noncomputable def cx (c:za) (_:Nat) (x:cK):Bool:=(JT c x.2).2 && (decide (x.1≥0) && decide (x.1<=c.1 - 1))
def qc (c:za) (_:Nat) (s:JJ):Bool:=(decide (s.2.2≥0) && decide (s.2.2<=c.1 - 1)) && (zG s.2.1 && zo s.2.1==s.1)
noncomputable def Qe (w:zB):Bool:=
 zC w.1 && (j4 w.1.1 w.2.1 && (decide ((w.2.1.length:Int)<=JM w.1) && (((w.2.2.1.length:Int)==w.1.1) && (decide ((w.2.2.2.1.length:Int)<=60) && (decide ((w.2.2.2.2.length:Int)<=300) &&
  (Zi (aZ w.1) 0 w.2.2.1 && (Zi (cx w.1) 0 w.2.2.2.1 && Zi (qc w.1) 0 w.2.2.2.2)))))))
def WB (N:Nat) (w:zB):Prop:=
 (w.2.1.length<=137438953472/\w.2.2.1.length<=137438953472/\w.2.2.2.1.length<=137438953472/\w.2.2.2.2.length<=137438953472)/\(∀ r∈w.2.2.1,zf r<=N)/\(∀ x∈w.2.2.2.1,x.2.length<=1073741824)/\(∀ s∈w.2.2.2.2,s.2.1.length<=N)
theorem WB.of {w:zB} {N:Nat} (h:Yj w<=N) (hN:N<=1073741824):WB N w:=by
 simp only[Yj,zn,MV,Qd,LL] at h;refine⟨⟨by omega,by omega,by omega,by omega⟩,λ r hr => ?_,λ x hx => ?_,λ s hs => ?_⟩
 ·have:=ZX zf hr; omega
 ·have:=ZX MW hx; simp only[MW,sZ] at this; omega
 ·have:=ZX Qc hs; simp only[Qc] at this; omega
theorem am (a b:Int):(a != b) = !(a==b):=rfl
theorem aby (w:zB) (hb:WB 137438953472 w):qJ (w,())=some (Qe w,()):=by
 obtain⟨⟨l1,l2,l3,l4⟩,br,bx,bs⟩:=hb;unfold qJ Qe;simp only[Y2,alm];cases hc:zC w.1
 ·rfl
 obtain⟨hc1,hc2⟩:=yi hc;have e1:wr (w.1.1 - 1)=w.1.1 - 1:=zg (by omega) (by omega);simp only[alt,aln,alI,e1,sr _ _ l1,ab2,Yw,alm,Qv ((w.2.1.length:Nat):Int) _,Qv ((w.2.2.2.1.length:Nat):Int) 60,Qv ((w.2.2.2.2.length:Nat):Int) 300,am ((w.2.2.1.length:Nat):Int) w.1.1];cases j4 w.1.1 w.2.1
 ·rfl
 cases decide ((w.2.1.length:Int)<=JM w.1)
 ·rfl
 cases ((w.2.2.1.length:Int)==w.1.1)
 ·rfl
 cases decide ((w.2.2.2.1.length:Int)<=60)
 ·rfl
 cases decide ((w.2.2.2.2.length:Int)<=300)
 ·rfl
 simp only[alt,aln,alI];refine (mM (aZ w.1) w.2.2.1 (bif Zi (cx w.1) 0 w.2.2.2.1 then (bif Zi (qc w.1) 0 w.2.2.2.2 then some (true,()) else some (false,())) else some (false,())) (by omega) ?_ ?_).trans ?_
 ·intro rec;simp only[alS,alx,aln];refine mM (cx w.1) w.2.2.2.1 (bif Zi (qc w.1) 0 w.2.2.2.2 then some (true,()) else some (false,())) (by omega) ?_ ?_
  ·intro rec;simp only[alS,alx,aln];refine mM (qc w.1) w.2.2.2.2 (some (true,())) (by omega) ?_ ?_
   ·intro rec; simp only[alS,alx,aln]
   ·intro rec i s hx hi;have hs:=bs s (List.mem_of_getElem? hx);simp only[zz hi,alu,alo,alD,if_true,aly,zu (e:=MY) hx,KG s.2.1 hs,Y5 s.2.1 hs,alm,zx (show i<4611686018427387904 by omega),qc,am];cases (decide (s.2.2≥0) && decide (s.2.2<=w.1.1 - 1))<;>cases zG s.2.1<;>cases (zo s.2.1==s.1)<;>rfl
  ·intro rec i x hx hi;have hs:=bx x (List.mem_of_getElem? hx);simp only[zz hi,alu,alo,alD,if_true,aly,zu (e:=tl) hx,DD w.1 x.2 hs,alm,zx (show i<4611686018427387904 by omega),cx];cases (JT w.1 x.2).2<;>cases (decide (x.1≥0) && decide (x.1<=w.1.1 - 1))<;>rfl
 ·intro rec i r hx hi;have hs:=br r (List.mem_of_getElem? hx);simp only[zz hi,alu,alo,alD,if_true,aly,zu (e:=JG) hx,Zv w.1 r hs,alm,zx (show i<4611686018427387904 by omega),aZ,am];cases ze w.1 r<;>cases (r.1==(i:Int))<;>rfl
 ·cases Zi (aZ w.1) 0 w.2.2.1<;>cases Zi (cx w.1) 0 w.2.2.2.1<;>cases Zi (qc w.1) 0 w.2.2.2.2<;>rfl
theorem WB.mono {w:zB} {N M:Nat} (h:WB N w) (hm:N<=M):WB M w:=⟨h.1,λ r hr=>Nat.le_trans (h.2.1 r hr) hm,h.2.2.1,λ s hs=>Nat.le_trans (h.2.2.2 s hs) hm⟩
noncomputable def Kq (c:za):YC:=if zC c=true then (List.range c.1.toNat).map (λ (i:Nat)=>(Yr c (i:Int)).1) else []
noncomputable def jd (c:za) (liars:jg):zB:=(c,liars,Kq c,[],[])
def acw:zB:=((0,0),[],[],[],[])
noncomputable def KP (c:za) (liars:jg):zB×Bool:=bif Qe (jd c liars) then (jd c liars,true) else (acw,false)
theorem UI (c:za):(Kq c).length<=7:=by
 unfold Kq;split
 ·next h=>have:=yi h; simp; omega
 ·simp
theorem UJ (c:za):∀ r∈Kq c,zf r=0:=by
 unfold Kq;split
 ·intro r hr;obtain⟨i,_,rfl⟩:=List.mem_map.1 hr;exact BE c i
 ·simp
theorem UK (c:za) (liars:jg) (h:liars.length<=137438953472):WB 1073741824 (jd c liars):=by
 have h1:=UI c;refine⟨⟨h,by simp only[jd]; omega,by simp[jd],by simp[jd]⟩,λ r hr => ?_,λ x hx => ?_,λ s hs => ?_⟩
 ·have:=UJ c r hr; omega
 ·simp[jd] at hx
 ·simp[jd] at hs
theorem UN {c:za} (h:zC c=true) {n:Nat} (hn:c.1=(n:Int)) (liars:jg):jd c liars=(c,liars,(List.range' 0 n).map (λ (i:Nat)=>(Yr c (i:Int)).1),[],[]):=by
 unfold jd Kq;rw[if_pos h,hn,aly,List.range_eq_range']
theorem DQ (c:za) (liars:jg) (hl:liars.length<=137438953472):bW (c,liars,())=some ((KP c liars).1,(KP c liars).2,()):=by
 have hok:∀ w:zB,w=jd c liars->((qJ (w,())).bind λ r4=>(bif (!r4.1) then some (((0,0),([],([],([],[])))),(false,())) else some (w,(true,()))))=some ((KP c liars).1,(KP c liars).2,()):=by
  rintro w rfl;rw[aby _ ((UK c liars hl).mono (by decide)),alm];unfold KP;cases Qe (jd c liars)<;>rfl
 unfold bW;dsimp only;rw[if_pos (by omega)];simp only[Y2,alm,alL];by_cases hc:zC c=true
 ·obtain⟨h1,h2⟩:=yi hc;obtain⟨n,hn⟩:∃ n:Nat,c.1=(n:Int):=⟨c.1.toNat,by omega⟩
  simp only[hc,alo,hn];refine (walk n (λ i (o:YC)=>(i,(c,liars,o,[],[]),())) (λ i o=>o=(List.range' 0 i).map (λ (i:Nat)=>(Yr c (i:Int)).1)) (λ i o=>some ((KP c liars).1,(KP c liars).2,())) (by omega) ?_ ?_ (s0:=[]) rfl)
  ·rintro rec o rfl;simp only[alS,alx,aln];exact hok _ (UN hc hn liars).symm
  ·rintro rec i o hi rfl;right;refine⟨_,rfl,?_,rfl⟩;simp only[show ((i:Int)<(n:Int)) by omega,alu,alo,DH,alm,zx (show i<4611686018427387904 by omega),alr,als,amc,List.length_range'];rw[if_pos (by omega)];congr 3;rw[List.range'_concat]; simp
 ·have hc':zC c=false:=by simpa using hc
  have e:jd c liars=(c,liars,[],[],[]):=by unfold jd Kq; rw[if_neg hc]
  refine (Tc _ _).elim λ m hm=>hm.trans ?_;simp only[hc',aln];rw[hok _ e.symm];cases decide ((0:Int)<c.1)<;>rfl
noncomputable def N3 (s:zr):Int:=min (max (max s.1 (wr (s.2.2.1.1+1))) 1) 60
noncomputable def rise (c:za) (r:zb):zb:=
 bif ze c r then
  let n:=yY c r.2.2.2.2.2.2.1.1
  (r.1,N3 n.1,0,n.1,[],[],(r.2.2.2.2.2.2.1.1.take n.2.toNat,n.2),[])
 else r
theorem TF (a b:Int):yj (a,b,())=some (min a b,()):=by
 rw[nj]; congr 2; split<;>omega
theorem DI (c:za) (r:zb) (hw:zf r<=1073741824):qx (c,r,())=some (rise c r,()):=by
 have h1:=LJ hw;obtain⟨b1,b2,b3⟩:=NG c r.2.2.2.2.2.2.1.1;unfold qx rise;simp only[Zv c r (by omega),Zw r (by omega),DA c _ h1,MM,TF,alm];cases ze c r
 ·rfl
 ·simp only[alt,aln,alo];rw[if_pos (by omega),if_pos (by simp only[alE,alF]; omega)]
  simp only[amh,alN,amv,alL,N3];congr 4;omega
def jR {α:Type} (q:α->Bool):Nat->List α->Nat
 | i,[]=>i
 | i,x::l=>bif q x then i else jR q (i+1) l
theorem mD {α:Type} (q:α->Bool):∀ (l:List α) (i:Nat),i<=jR q i l/\jR q i l<=i+l.length
 | [],i=>by simp[jR]
 | x::l,i=>by
  have:=mD q l (i+1);simp only[jR,alr];cases q x<;>simp only[alo,aln]<;>omega
def Kv (p:zE) (x:zN) (k:Nat):zE×Bool:=bif jL (p.take k++x::p.drop k) then (p.take k++x::p.drop k,true) else (p,false)
def Yo (p:zE) (x:zN):zE×Bool:=Kv p x (jR (λ y => !jI y x) 0 p)
theorem se (p:zE) (x:zN) (hp:p.length<=137438953471):qt (p,x,())=some ((Yo p x).1,(Yo p x).2,()):=by
 unfold qt Yo;dsimp only;have adu:∀ k:Nat,k<=p.length->(if (((0:Int)<=0)/\((0<=(k:Int))/\((k:Int)<=(p.length:Int)))) then (if (((0+(List.length (List.take ((Int.toNat (k:Int)) - (Int.toNat 0)) (List.drop (Int.toNat 0) p))))*32)<=70368744177664) then
   (if ((((List.length ([]++(List.take ((Int.toNat (k:Int)) - (Int.toNat 0)) (List.drop (Int.toNat 0) p))))+(List.length (x::[])))*32)<=70368744177664) then (if ((0<=(k:Int))/\(((k:Int)<=(p.length:Int))/\((p.length:Int)<=(p.length:Int)))) then
   (if ((((List.length (([]++(List.take ((Int.toNat (k:Int)) - (Int.toNat 0)) (List.drop (Int.toNat 0) p)))++(x::[])))+(List.length (List.take ((Int.toNat (p.length:Int)) - (Int.toNat (k:Int))) (List.drop (Int.toNat (k:Int)) p))))*32)<=70368744177664) then
   ((My (((([]++(List.take ((Int.toNat (k:Int)) - (Int.toNat 0)) (List.drop (Int.toNat 0) p)))++(x::[]))++(List.take ((Int.toNat (p.length:Int)) - (Int.toNat (k:Int))) (List.drop (Int.toNat (k:Int)) p))),())).bind λ r2=>(bif (!r2.1) then (if (((0+(List.length p))*32)<=70368744177664) then some (([]++p),(false,())) else none) else
   some (((([]++(List.take ((Int.toNat (k:Int)) - (Int.toNat 0)) (List.drop (Int.toNat 0) p)))++(x::[]))++(List.take ((Int.toNat (p.length:Int)) - (Int.toNat (k:Int))) (List.drop (Int.toNat (k:Int)) p))),(true,())))) else none) else none) else none) else none) else none)=some ((Kv p x k).1,(Kv p x k).2,()):=by
  intro k hk;simp only[aly,amh,amv,alN,alL];have e:List.take (p.length - k) (p.drop k)=p.drop k:=List.take_of_length_le (by simp);rw[e];simp only[alE,alv,alr,als,alF];rw[if_pos (by omega),if_pos (by omega),if_pos (by omega),if_pos (by omega),if_pos (by omega),if_pos (by omega)];rw[DG _ (by simp only[alv,alE,alr,als,alF]; omega),Option.bind_some]
  unfold Kv;rw[show p.take k++[x]++p.drop k=p.take k++x::p.drop k by simp];cases jL (p.take k++x::p.drop k)<;>rfl
 refine (walk p.length (λ i (_:Unit)=>(i,())) (λ _ _=>True) (λ i _=>some ((Kv p x (jR (λ y => !jI y x) i (p.drop i))).1,(Kv p x (jR (λ y => !jI y x) i (p.drop i))).2,())) (by omega) ?_ ?_ (s0:=()) trivial).trans (by simp only[alN])
 ·intro rec s _;rw[am7];simp only[alS,alx,aln,jR];exact adu p.length (Nat.le_refl _)
 ·intro rec i s hi _;have hx:p[i]?=some p[i]:=List.getElem?_eq_getElem hi;rw[alJ hi];simp only[(zz hi).2,alu,alo];rw[if_pos (show (0:Int)<=(i:Int)/\True from⟨by omega,trivial⟩)];simp only[aly,zu (e:=Zz) hx,DZ,alm,zx (show i<4611686018427387904 by omega),jR];cases hb:jI p[i] x
  ·left;have:=adu i (by omega);simp only[aly] at this;simp only[aln,alP,alo];exact this
  ·right;exact⟨(),trivial,by simp only[alo],by simp only[alt,aln]⟩
noncomputable def Nu (c:za) (r:zb) (x:zN):zb×Bool:=
 bif ze c r then ((r.1,r.2.1,r.2.2.1,r.2.2.2.1,(Yo r.2.2.2.2.1 x).1,r.2.2.2.2.2),(Yo r.2.2.2.2.1 x).2) else (r,false)
theorem Va {p:zE} {x:zN} (h:(Yo p x).2=false):(Yo p x).1=p:=by
 unfold Yo Kv at *;generalize jR (λ y => !jI y x) 0 p=k at *;cases hk:jL (p.take k++x::p.drop k)
 ·rfl
 ·rw[hk] at h; cases h
theorem Bm (p:zE) (x:zN):(Yo p x).1.length<=p.length+1:=by
 have h1:=(mD (λ y => !jI y x) p 0).2;unfold Yo Kv;generalize jR (λ y => !jI y x) 0 p=k at *;cases hk:jL (p.take k++x::p.drop k)
 ·simp
 ·simp only[alo,alv,alE,alr,alF]; omega
theorem EA {r:zb} {N:Nat} (h:zf r<=N):r.2.2.2.2.1.length<=N:=by simp only[zf,Y7] at h; omega
theorem ab5 (c:za) (r:zb) (x:zN) (hw:zf r<=137438953471):gS (c,r,x,())=some ((Nu c r x).1,(Nu c r x).2,()):=by
 have h1:=EA hw;unfold gS Nu;simp only[Zw r (by omega),Zv c r (by omega),se r.2.2.2.2.1 x h1,alm];cases ze c r
 ·rfl
 ·cases hp:(Yo r.2.2.2.2.1 x).2
  ·rw[Va hp]; rfl
  ·rfl
def jF (l:yg) (v:Int) (name:List UInt8):zM:=match l.find? (λ p=>p.1==v && p.2.1==name) with|some p=>p|none=>(v,name,[])
theorem su (l:yg) (v:Int) (name:List UInt8) (hw:zI l<=137438953472):qE (l,v,name,())=some (jF l v name,()):=by
 have hl:l.length<=137438953472:=by unfold zI at hw; omega
 unfold qE jF;refine (walk l.length (λ i (z:zM)=>(i,z,())) (λ _ _=>True) (λ i _=>some ((match (l.drop i).find? (λ p=>p.1==v && p.2.1==name) with|some p=>p|none=>(v,name,[])),())) (by omega) ?_ ?_ (s0:=(0,[],[])) trivial).trans (by simp only[alN])
 ·intro rec s _;rw[am7];simp only[alS,alx,aln,List.find?_nil]
 ·intro rec i s hi _;have hx:l[i]?=some l[i]:=List.getElem?_eq_getElem hi;have hy:=MU hw hx;rw[alJ hi];simp only[zz hi,decide_true,cond_true,and_self,if_true,Int.toNat_natCast,zu (e:=JF) hx,MG l[i] hy,Option.bind_some,zx (show i<4611686018427387904 by omega),List.find?_cons];by_cases h1:l[i].1=v
  ·have e1:(l[i].1==v)=true:=beq_iff_eq.2 h1;by_cases h2:l[i].2.1=name
   ·have e2:(l[i].2.1==name)=true:=beq_iff_eq.2 h2;left; simp only[e1,e2,alo,amn]
   ·have e2:(l[i].2.1==name)=false:=beq_eq_false_iff_ne.2 h2;right; exact⟨s,trivial,by simp only[e1,e2,alo,aln],by simp only[e1,e2,amM]⟩
  ·have e1:(l[i].1==v)=false:=beq_eq_false_iff_ne.2 h1;right; exact⟨s,trivial,by simp only[e1,aln],by simp only[e1,ami]⟩
theorem adU (l:yg) (v:Int) (name:List UInt8) (hw:zI l<=137438953472):acG (l,v,name,())=some (jF l v name,()):=by
 have hl:l.length<=137438953472:=by unfold zI at hw; omega
 unfold acG jF;refine (walk l.length (λ i (z:zM)=>(i,z,())) (λ _ _=>True) (λ i _=>some ((match (l.drop i).find? (λ p=>p.1==v && p.2.1==name) with|some p=>p|none=>(v,name,[])),())) (by omega) ?_ ?_ (s0:=(0,[],[])) trivial).trans (by simp only[alN])
 ·intro rec s _;rw[am7];simp only[alS,alx,aln,List.find?_nil]
 ·intro rec i s hi _;have hx:l[i]?=some l[i]:=List.getElem?_eq_getElem hi;have hy:=MU hw hx;rw[alJ hi];simp only[zz hi,decide_true,cond_true,and_self,if_true,Int.toNat_natCast,zu (e:=JF) hx,vn l[i] hy,Option.bind_some,zx (show i<4611686018427387904 by omega),List.find?_cons];by_cases h1:l[i].1=v
  ·have e1:(l[i].1==v)=true:=beq_iff_eq.2 h1;by_cases h2:l[i].2.1=name
   ·have e2:(l[i].2.1==name)=true:=beq_iff_eq.2 h2;left; simp only[e1,e2,alo,amn]
   ·have e2:(l[i].2.1==name)=false:=beq_eq_false_iff_ne.2 h2;right; exact⟨s,trivial,by simp only[e1,e2,alo,aln],by simp only[e1,e2,amM]⟩
  ·have e1:(l[i].1==v)=false:=beq_eq_false_iff_ne.2 h1;right; exact⟨s,trivial,by simp only[e1,aln],by simp only[e1,ami]⟩
noncomputable def LG:zE->zE->zO->zE
 | [],out,_=>out
 | x::xs,out,l=>if out.length=2 then out else if (pay l x).2=0∨(pay l x).2=4 then LG xs (out++[x]) (pay l x).1 else LG xs out l
noncomputable def NX (p:zE) (l:zO):zE:=LG p [] l
theorem lw:∀ (xs out:zE) (l:zO),out.length<=2->(LG xs out l).length<=2
 | [],out,l,h=>h
 | x::xs,out,l,h=>by
  simp only[LG];split
  ·exact h
  ·split
   ·exact lw xs _ _ (by simp; omega)
   ·exact lw xs _ _ h
theorem ah0 (l:zO) (x:zN):(pay l x).2=0∨(pay l x).2=4∨(pay l x).1=l:=by
 unfold pay;dsimp only;repeat' split
 all_goals simp
theorem abh (p:zE) (l:zO) (hp:p.length<=137438953472) (h1:l.1.length<=137438953472) (h2:l.2.length<=137438953472):bL (p,l,())=some (NX p l,()):=by
 unfold bL NX;dsimp only;rw[sE l h1 h2,alm];refine (walk p.length (λ i (s:zE×zO)=>(s.1,i,s.2,())) (λ _ s=>s.1.length<=2/\s.2.1.length<=137438953472/\s.2.2.length<=137438953472) (λ i s=>some (LG (p.drop i) s.1 s.2,())) (by omega) ?_ ?_ (s0:=([],l)) ⟨by simp,h1,h2⟩).trans (by simp only[alN])
 ·intro rec s _;rw[am7];simp only[alS,alx,aln,LG]
 ·intro rec i s hi hs;obtain⟨k1,k2,k3⟩:=hs;obtain⟨p1,p2⟩:=n7 s.2 p[i];have hx:p[i]?=some p[i]:=List.getElem?_eq_getElem hi;rw[alJ hi];simp only[zz hi,decide_true,cond_true,and_self,if_true,Int.toNat_natCast,zu (e:=Zz) hx,sb s.2 p[i] k2 k3,Option.bind_some,zx (show i<4611686018427387904 by omega),LG,List.length_cons,List.length_nil];by_cases hf:s.1.length=2
  ·left;have:decide ((s.1.length:Int)<2)=false:=by simp; omega
   rw[if_pos hf];simp only[this,aln]
  ·have:decide ((s.1.length:Int)<2)=true:=by simp; omega
   simp only[this,alo,hf,if_false];rw[if_pos (by omega)];by_cases c0:(pay s.2 p[i]).2=0
   ·right;refine⟨(s.1++[p[i]],(pay s.2 p[i]).1),⟨by simp; omega,by simp only; omega,by simp only; omega⟩,?_,?_⟩
    ·simp only[c0,beq_self_eq_true,alo]
    ·rw[if_pos (.inl c0)]
   ·have e0:((pay s.2 p[i]).2==0)=false:=beq_eq_false_iff_ne.2 c0;by_cases c4:(pay s.2 p[i]).2=4
    ·right;refine⟨(s.1++[p[i]],(pay s.2 p[i]).1),⟨by simp; omega,by simp only; omega,by simp only; omega⟩,?_,?_⟩
     ·simp only[c4,beq_self_eq_true,alo,show ((4:Int)==0)=false from rfl,aln]
     ·rw[if_pos (.inr c4)]
    ·have e4:((pay s.2 p[i]).2==4)=false:=beq_eq_false_iff_ne.2 c4;right;refine⟨s,⟨k1,k2,k3⟩,?_,?_⟩
     ·simp only[e0,e4,aln]
     ·rw[if_neg (by rintro (h|h); exact c0 h; exact c4 h)]
theorem agx (p:zE) (l:zO) (hp:p.length<=137438953472) (h1:l.1.length<=137438953472) (h2:l.2.length<=137438953472):acC (p,l,())=some (NX p l,()):=by
 unfold acC NX;dsimp only;refine (walk p.length (λ i (s:zE×zO)=>(s.1,i,s.2,())) (λ _ s=>s.1.length<=2/\s.2.1.length<=137438953472/\s.2.2.length<=137438953472) (λ i s=>some (LG (p.drop i) s.1 s.2,())) (by omega) ?_ ?_ (s0:=([],l)) ⟨by simp,h1,h2⟩).trans (by simp only[alN])
 ·intro rec s _;rw[am7];simp only[alS,alx,aln,LG]
 ·intro rec i s hi hs;obtain⟨k1,k2,k3⟩:=hs;obtain⟨p1,p2⟩:=n7 s.2 p[i];have hx:p[i]?=some p[i]:=List.getElem?_eq_getElem hi;rw[alJ hi];simp only[zz hi,decide_true,cond_true,and_self,if_true,Int.toNat_natCast,zu (e:=Zz) hx,SC s.2 p[i] k2 k3,Option.bind_some,zx (show i<4611686018427387904 by omega),LG,List.length_cons,List.length_nil];by_cases hf:s.1.length=2
  ·left;have:((s.1.length:Int)==2)=true:=beq_iff_eq.2 (by omega);rw[if_pos hf];simp only[this,alo]
  ·have:((s.1.length:Int)==2)=false:=beq_eq_false_iff_ne.2 (by omega);simp only[this,aln,hf,if_false];rw[if_pos (by omega)];by_cases c0:(pay s.2 p[i]).2=0
   ·right;refine⟨(s.1++[p[i]],(pay s.2 p[i]).1),⟨by simp; omega,by simp only; omega,by simp only; omega⟩,?_,?_⟩
    ·simp only[c0,beq_self_eq_true,alo]
    ·rw[if_pos (.inl c0)]
   ·have e0:((pay s.2 p[i]).2==0)=false:=beq_eq_false_iff_ne.2 c0;by_cases c4:(pay s.2 p[i]).2=4
    ·right;refine⟨(s.1++[p[i]],(pay s.2 p[i]).1),⟨by simp; omega,by simp only; omega,by simp only; omega⟩,?_,?_⟩
     ·simp only[c4,beq_self_eq_true,alo,show ((4:Int)==0)=false from rfl,aln]
     ·rw[if_pos (.inr c4)]
    ·have e4:((pay s.2 p[i]).2==4)=false:=beq_eq_false_iff_ne.2 c4;right;refine⟨s,⟨k1,k2,k3⟩,?_,?_⟩
     ·have hs1:(pay s.2 p[i]).1=s.2:=by
       rcases ah0 s.2 p[i] with h|h|h
       ·exact absurd h c0
       ·exact absurd h c4
       ·exact h
      simp only[e0,e4,aln,hs1]
     ·rw[if_neg (by rintro (h|h); exact c0 h; exact c4 h)]
def MR (l:zE):List UInt8:=(l.map λ x=>44::yQ x).flatten
def qY:zE->List UInt8
 | []=>[]
 | x::r=>yQ x++MR r
def qZ (l:zE):List UInt8:=bif l.all zH then qY l else []
def MN (i:Nat) (l:zE):List UInt8:=if i=0 then qY l else MR l
theorem El:∀ l:zE,(MR l).length<=28*l.length
 | []=>by simp[MR]
 | x::l=>by
  have h1:=lA x;have h2:=El l;simp only[MR,alG,amI,alv,alr] at *;omega
theorem Em (l:zE):(qZ l).length<=28*l.length:=by
 unfold qZ;cases l.all zH
 ·simp
 ·cases l with
  | nil=>simp[qY]
  | cons x r=>
   have h1:=lA x;have h2:=El r;simp only[alo,qY,alv,alr];omega
theorem abv (l:zE) (hl:l.length<=1000000):kq (l,())=some (qZ l,()):=by
 unfold kq qZ;refine (walk l.length (λ i (o:List UInt8)=>(o,i,())) (λ i o=>o.length<=28*i) (λ i o=>some ((bif (l.drop i).all zH then o++MN i (l.drop i) else []),())) (by omega) ?_ ?_ (s0:=[]) (by simp)).trans (by simp[MN])
 ·intro rec o _;rw[am7];simp only[alS,alx,aln,List.all_nil,alo,MN];split<;>simp[qY,MR]
 ·intro rec i o hi ho;have hx:l[i]?=some l[i]:=List.getElem?_eq_getElem hi;have htl:=lA l[i];rw[alJ hi];simp only[zz hi,alu,alo,alD,if_true,aly,zu (e:=Zz) hx,ME,DM,alm,zx (show i<4611686018427387904 by omega),alX,alv,alr,als];cases hk:zH l[i]
  ·left; simp only[alP,alo,ami,aln]
  ·right;by_cases h0:i=0
   ·subst h0;refine⟨o++yQ l[0],by rw[alv]; omega,?_,?_⟩
    ·simp only[alt,aln,show ¬ (((0:Nat):Int)>0) by omega,alx];rw[if_pos (by omega)]
    ·simp[MN,qY]
   ·refine⟨o++[44]++yQ l[i],by simp only[alv,alr,als]; omega,?_,?_⟩
    ·simp only[alt,aln,show ((i:Int)>0) by omega,alu,alo];rw[if_pos (by omega),if_pos (by omega)]
    ·have e:o++MN i (l[i]::List.drop (i+1) l)=(o++[44]++yQ l[i])++MN (i+1) (List.drop (i+1) l):=by
      unfold MN;rw[if_neg h0,if_neg (by omega)];simp only[MR,alG,amI,alW,amj,alL]
     rw[e];simp only[alI]
theorem agT (l:zE):Lib.join (l.map yQ) [44]=qY l:=by
 cases l with
 | nil=>rfl
 | cons x r=>
  rw[alG,Lib.join_cons];simp[qY,Lib.joinTail,MR,Function.comp_def]
theorem ai2 (l:zE):(qY l).length<=28*l.length:=by
 cases l with
 | nil=>simp[qY]
 | cons x r=>
  have h1:=lA x;have h2:=El r;simp only[qY,alv,alr];omega
theorem agJ (l:zE) (hl:l.length<=1000000):adc (l,())=some (qZ l,()):=by
 have hbl:=ai2 l;unfold adc qZ;refine (walk l.length (λ i (o:List (List UInt8))=>(o,i,())) (λ i o=>o=(l.take i).map yQ) (λ i o=>some ((bif (l.drop i).all zH then qY l else []),())) (by omega) ?_ ?_ (s0:=[]) rfl).trans (by simp)
 ·rintro rec o rfl;rw[am7];simp only[alS,alx,aln,List.all_nil,alo,amq];unfold strings_Join;dsimp only;rw[agT,if_pos (by omega),alm]
 ·rintro rec i o hi rfl;have hx:l[i]?=some l[i]:=List.getElem?_eq_getElem hi;rw[alJ hi];simp only[zz hi,alu,alo,alD,if_true,aly,zu (e:=Zz) hx,Nz,SO,alm,zx (show i<4611686018427387904 by omega),alX,alr,als,amc,alE];cases hk:zH l[i]
  ·left; simp only[alP,alo,ami,aln]
  ·right;refine⟨_,rfl,?_,by simp only[alI]⟩;have e:(l.take (i+1)).map yQ=(l.take i).map yQ++[yQ l[i]]:=by
    rw[amK,hx,an6]; rfl
   rw[e];simp only[alt,aln];rw[if_pos (by omega)]
def Jn (up:List UInt8) (view:Int) (list:zE):List UInt8:=(((up++[47])++Lib.decDigits view.toNat)++[124])++qZ list
def Zl (up:List UInt8) (view:Int) (list:zE):List UInt8:=bif list.all zH && zG (Jn up view list) then Jn up view list else []
theorem wn (up:List UInt8) (view:Int) (list:zE) (h:view<1000000):(Jn up view list).length<=up.length+8+28*list.length:=by
 have h1:=Em list;have h2:=dl view.toNat (by omega);unfold Jn;simp only[alv,alr,als];omega
theorem UW (l:zE) (K:Option (List UInt8×Unit)) {G:(Int×Unit->Option (List UInt8×Unit))->Int×Unit->Option (List UInt8×Unit)} (hl:l.length<=1152921504606846976)
  (acT:∀ rec,G rec ((l.length:Int),())=K)
  (acP:∀ rec (i:Nat) x,l[i]?=some x->i<l.length->G rec ((i:Int),())=bif zH x then rec ((i:Int)+1,()) else some ([],())):
  iter G fuel (0,())=bif l.all zH then K else some ([],()):=by
 refine (walk l.length (λ i (_:Unit)=>(i,())) (λ _ _=>True) (λ i _=>bif (l.drop i).all zH then K else some ([],())) hl ?_ ?_ (s0:=()) trivial).trans (by simp only[alN])
 ·intro rec s _; rw[acT,am7]; rfl
 ·intro rec i s hi _;rw[acP rec i l[i] (List.getElem?_eq_getElem hi) hi,List.drop_eq_getElem_cons hi];simp only[alX];cases zH l[i]
  ·left; rfl
  ·right; exact⟨(),trivial,rfl,rfl⟩
theorem bI (up:List UInt8) (view:Int) (list:zE) (hu:up.length<=1073741824) (hv:0<=view/\view<1000000) (hl:list.length<=1000000):Lv (up,view,list,())=some (Zl up view list,()):=by
 have h1:=Em list;have h2:=dl view.toNat (by omega);have d:=Mv view.toNat (by omega);rw[an9 hv.1] at d;have hn:=wn up view list hv.2;unfold Lv Zl;refine (UW list (bif zG (Jn up view list) then some (Jn up view list,()) else some ([],())) (by omega) ?_ ?_).trans ?_
 ·intro rec;simp only[alS,alx,aln,d,abv list hl,alm,alv,alr,als];rw[if_pos (by omega),if_pos (by omega),if_pos (by omega),if_pos (by omega)];have e:(((up++[47])++Lib.decDigits view.toNat)++[124])++qZ list=Jn up view list:=rfl;rw[e,KG _ (by omega),alm];cases zG (Jn up view list)<;>rfl
 ·intro rec i x hx hi;simp only[zz hi,alu,alo,alD,if_true,aly,zu (e:=Zz) hx,ME,alm,zx (show i<4611686018427387904 by omega)];cases zH x<;>rfl
 ·cases list.all zH<;>cases zG (Jn up view list)<;>rfl
theorem ags (up:List UInt8) (view:Int) (list:zE) (hu:up.length<=1000000000) (hv:0<=view/\view<1000000) (hl:list.length<=2):acU (up,view,list,())=some (Zl up view list,()):=by
 have h1:=Em list;have h2:=dl view.toNat (by omega);have d:=QA view.toNat;rw[an9 hv.1] at d;have hn:=wn up view list hv.2;unfold acU Zl;refine (UW list (bif zG (Jn up view list) then some (Jn up view list,()) else some ([],())) (by omega) ?_ ?_).trans ?_
 ·intro rec;have h3:decide ((list.length:Int)>2)=false:=by simp; omega
  simp only[alS,alx,aln,d,agJ list (by omega),alm,alv,alr,als,h3];rw[if_pos (by omega),if_pos (by omega),if_pos (by omega),if_pos (by omega)];have e:(((up++[47])++Lib.decDigits view.toNat)++[124])++qZ list=Jn up view list:=rfl;rw[e,QG _ (by omega),alm];cases zG (Jn up view list)<;>rfl
 ·intro rec i x hx hi;simp only[zz hi,alu,alo,alD,if_true,aly,zu (e:=Zz) hx,Nz,alm,zx (show i<4611686018427387904 by omega)];cases zH x<;>rfl
 ·cases list.all zH<;>cases zG (Jn up view list)<;>rfl
theorem nP (up:List UInt8) (view:Int) (list:zE) (h:view<1000000):(Zl up view list).length<=up.length+8+28*list.length:=by
 have:=wn up view list h;unfold Zl;cases (list.all zH && zG (Jn up view list))
 ·simp
 ·exact this
def cy:jf:=([],0,[],[])
def KZ (c:za) (q:zJ) (view:Int) (list:zE):jf×Bool:=
 bif jX c (Zl q.2.1 view list,q) && zo (Zl q.2.1 view list)==view then ((Zl q.2.1 view list,q),true) else (cy,false)
theorem rZ (c:za) (q:zJ) (view:Int) (list:zE) (hq:zi q<=500000000) (hv:0<=view/\view<1000000) (hl:list.length<=2):yh (c,q,view,list,())=some ((KZ c q view list).1,(KZ c q view list).2,()):=by
 have hu:q.2.1.length<=500000000:=by simp only[zi] at hq; omega
 have hn:=nP q.2.1 view list hv.2;unfold yh KZ;simp only[bI q.2.1 view list (by omega) hv (by omega),ML q (by omega),gG c (Zl q.2.1 view list,q) (by simp only[zD]; omega),Y5 (Zl q.2.1 view list) (by omega),Option.bind_some,am]
 cases jX c (Zl q.2.1 view list,q)<;>cases (zo (Zl q.2.1 view list)==view)<;>rfl
theorem agk (c:za) (q:zJ) (view:Int) (list:zE) (hq:zi q<=500000000) (hv:0<=view/\view<1000000) (hl:list.length<=2):acm (c,q,view,list,())=some ((KZ c q view list).1,(KZ c q view list).2,()):=by
 have hu:q.2.1.length<=500000000:=by simp only[zi] at hq; omega
 have hn:=nP q.2.1 view list hv.2;unfold acm KZ;simp only[ags q.2.1 view list (by omega) hv (by omega),mT q (by omega),Ss c (Zl q.2.1 view list,q) (by simp only[zD]; omega),vj (Zl q.2.1 view list) (by omega),Option.bind_some,am]
 cases jX c (Zl q.2.1 view list,q)<;>cases (zo (Zl q.2.1 view list)==view)<;>rfl
theorem tR (c:za) (q:zJ) (view:Int) (list:zE) (h:view<1000000):zD (KZ c q view list).1<=2*zi q+8+28*list.length:=by
 have hn:=nP q.2.1 view list h;unfold KZ;cases (jX c (Zl q.2.1 view list,q) && zo (Zl q.2.1 view list)==view)
 ·simp[cy,zD,zi,zn]
 ·simp only[alo,zD];have:q.2.1.length<=zi q:=by simp only[zi]; omega
  omega
noncomputable def mb (c:za) (r:zb):jf×Bool:=KZ c r.2.2.2.1.2.2.1 r.2.1 (NX r.2.2.2.2.1 (Za jZ (jQ r.2.2.2.1.2.2.1.2.1)).2)
noncomputable def ask (c:za) (r:zb):jf×Bool:=
 bif ze c r && (je c r.2.1==r.1 && (!decide (r.2.2.1≥r.2.1) && (r.2.2.2.1.2.2.1.1==wr (r.2.1 - 1) || decide (((jF r.2.2.2.2.2.1 r.2.1 []).2.2.length:Int)≥Jt c)))) then mb c r else (cy,false)
theorem N0 {c:za} {r:zb} (h:ze c r=true):1<=r.2.1/\r.2.1<=60:=by
 unfold ze at h;simp only[alp,alz] at h;exact h.2.2.1
theorem Ut (a b:Int):decide (a<b) = !decide (a≥b):=by
 by_cases h:a<b
 ·have:¬ a≥b:=by omega
  simp[h,this]
 ·have:a≥b:=by omega
  simp[h,this]
theorem Dw (c:za) (r:zb) (hw:zf r<=500000000):KD (c,r,())=some ((ask c r).1,(ask c r).2,()):=by
 have hs:=LK hw;have hq:zi r.2.2.2.1.2.2.1<=500000000:=by simp only[zt] at hs; omega
 have hu:r.2.2.2.1.2.2.1.2.1.length<=500000000:=by simp only[zi] at hq; omega
 have ht:zI r.2.2.2.2.2.1<=500000000:=by simp only[zf] at hw; omega
 have hp:=EA hw;have hx:=sV r.2.2.2.1.2.2.1.2.1;obtain⟨l1,l2,_⟩:=n6 (jQ r.2.2.2.1.2.2.1.2.1) ([],jZ);have m1:(Za jZ (jQ r.2.2.2.1.2.2.1.2.1)).2.1.length=4:=l1;have m2:(Za jZ (jQ r.2.2.2.1.2.2.1.2.1)).2.2.length=4:=l2;have hk:=lw r.2.2.2.2.1 [] (Za jZ (jQ r.2.2.2.1.2.2.1.2.1)).2 (by simp);unfold KD ask mb;dsimp only;rw[Zv c r (by omega),alm];cases hr:ze c r
 ·rfl
 ·have hv:=N0 hr;simp only[alt,aln,MA,su _ _ _ (show zI r.2.2.2.2.2.1<=137438953472 by omega),sn,DB,DN r.2.2.2.1.2.2.1.2.1 (by omega),DF jZ _ (by decide) (by decide) (show (jQ r.2.2.2.1.2.2.1.2.1).length<=137438953472 by omega),
   abh r.2.2.2.2.1 _ (by omega) (show (Za jZ (jQ r.2.2.2.1.2.2.1.2.1)).2.1.length<=137438953472 by omega) (show (Za jZ (jQ r.2.2.2.1.2.2.1.2.1)).2.2.length<=137438953472 by omega),
   rZ c r.2.2.2.1.2.2.1 r.2.1 (NX r.2.2.2.2.1 (Za jZ (jQ r.2.2.2.1.2.2.1.2.1)).2) hq (by omega) hk,alm,am,Ut,alI]
  cases (je c r.2.1==r.1)
  ·rfl
  cases decide (r.2.2.1≥r.2.1)
  ·cases (r.2.2.2.1.2.2.1.1==wr (r.2.1 - 1))
   ·cases decide (((jF r.2.2.2.2.2.1 r.2.1 []).2.2.length:Int)≥Jt c)<;>rfl
   ·rfl
  ·rfl
theorem agj (c:za) (r:zb) (hw:zf r<=500000000):acN (c,r,())=some ((ask c r).1,(ask c r).2,()):=by
 have hs:=LK hw;have hq:zi r.2.2.2.1.2.2.1<=500000000:=by simp only[zt] at hs; omega
 have hu:r.2.2.2.1.2.2.1.2.1.length<=500000000:=by simp only[zi] at hq; omega
 have ht:zI r.2.2.2.2.2.1<=500000000:=by simp only[zf] at hw; omega
 have hp:=EA hw;have hx:=sV r.2.2.2.1.2.2.1.2.1;obtain⟨l1,l2,_⟩:=n6 (jQ r.2.2.2.1.2.2.1.2.1) ([],jZ);have m1:(Za jZ (jQ r.2.2.2.1.2.2.1.2.1)).2.1.length=4:=l1;have m2:(Za jZ (jQ r.2.2.2.1.2.2.1.2.1)).2.2.length=4:=l2;have hk:=lw r.2.2.2.2.1 [] (Za jZ (jQ r.2.2.2.1.2.2.1.2.1)).2 (by simp);unfold acN adF ask mb;dsimp only;rw[Kf c r (by omega),alm];cases hr:ze c r
 ·rfl
 ·have hv:=N0 hr;simp only[alt,aln,acZ,adU _ _ _ (show zI r.2.2.2.2.2.1<=137438953472 by omega),SF,Sw,SP r.2.2.2.1.2.2.1.2.1 (by omega),SB jZ _ (by decide) (by decide) (show (jQ r.2.2.2.1.2.2.1.2.1).length<=137438953472 by omega),
   agx r.2.2.2.2.1 _ (by omega) (show (Za jZ (jQ r.2.2.2.1.2.2.1.2.1)).2.1.length<=137438953472 by omega) (show (Za jZ (jQ r.2.2.2.1.2.2.1.2.1)).2.2.length<=137438953472 by omega),
   agk c r.2.2.2.1.2.2.1 r.2.1 (NX r.2.2.2.2.1 (Za jZ (jQ r.2.2.2.1.2.2.1.2.1)).2) hq (by omega) hk,alm,am,alI]
  cases (je c r.2.1==r.1)
  ·rfl
  cases decide (r.2.2.1≥r.2.1)
  ·cases (r.2.2.2.1.2.2.1.1==wr (r.2.1 - 1))
   ·cases decide (((jF r.2.2.2.2.2.1 r.2.1 []).2.2.length:Int)≥Jt c)<;>rfl
   ·rfl
  ·rfl
theorem Pz (c:za) (r:zb):zD (ask c r).1<=2*zf r+100:=by
 have hz:zD cy=0:=rfl;unfold ask;cases hr:ze c r
 ·simp only[ami,aln,hz]; omega
 ·have hv:=N0 hr;have hk:=lw r.2.2.2.2.1 [] (Za jZ (jQ r.2.2.2.1.2.2.1.2.1)).2 (by simp);have hb:=tR c r.2.2.2.1.2.2.1 r.2.1 (NX r.2.2.2.2.1 (Za jZ (jQ r.2.2.2.1.2.2.1.2.1)).2) (by omega);have hq:zi r.2.2.2.1.2.2.1<=zf r:=by simp only[zf,zt]; omega
  have hk2:(NX r.2.2.2.2.1 (Za jZ (jQ r.2.2.2.1.2.2.1.2.1)).2).length<=2:=hk;simp only[alI];generalize (je c r.2.1==r.1 && (!decide (r.2.2.1≥r.2.1) && (r.2.2.2.1.2.2.1.1==wr (r.2.1 - 1) || decide (((jF r.2.2.2.2.2.1 r.2.1 []).2.2.length:Int)≥Jt c))))=b;cases b
  ·simp only[aln,hz]; omega
  ·simp only[alo,mb]; omega
end G448
