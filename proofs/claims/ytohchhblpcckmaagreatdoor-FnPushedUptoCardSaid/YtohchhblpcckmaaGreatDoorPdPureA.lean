/- Plain laws, part 1: what the functions compute. No program in sight. -/
import Derived.Test.YtohchhblpcckmaaGreatDoorPdFns
import Derived.Lib.IndexBytes
import Derived.Lib.IndexLaws
import Derived.Lib.SplitLaws
import Derived.Lib.ItoaNum
import Derived.Lib.LastIndexByte
set_option linter.unusedSimpArgs false
set_option linter.unusedVariables false
namespace G448
open Ev
theorem Qm {S R:Type} {G:(S->Option R)->S->Option R} (f:S->Option R) (μ:S->Nat) (I:S->Prop)
  (h:∀ (rec:S->Option R) (x:S),I x->(∀ y,I y->μ y<μ x->rec y=f y)->G rec x=f x):∀ (n:Nat) (x:S),I x->μ x<n->iter G n x=f x
 | 0,x,_,hn=>by omega
 | n+1,x,hx,hn=>h (iter G n) x hx λ y hy hlt=>Qm f μ I h n y hy (by omega)
def KV {α S R:Type} (body:α->S->(S->Option R)->Option R) (k:S->Option R):List α->S->Option R
 | [],s=>k s
 | x::xs,s=>body x s (KV body k xs)
theorem lg {α S R:Type} (body:α->S->(S->Option R)->Option R) (k:S->Option R) (x:α) (xs:List α) (s:S):KV body k (x::xs) s=body x s (KV body k xs):=rfl
theorem tz {X S R:Type} (len:Nat) {G:(X->Option R)->X->Option R} (mk:Int->S->X) (f:Nat->S->Option R) (X0:len<=1152921504606846976)
  (aa2:∀ rec s,G rec (mk (len:Int) s)=f len s)
  (X8:∀ rec (i:Nat) s,i<len->(∀ s',rec (mk ((i:Int)+1) s')=f (i+1) s')->G rec (mk (i:Int) s)=f i s):
  ∀ n i s,i<=len->len - i<n->iter G n (mk (i:Int) s)=f i s
 | 0,i,s,_,hn=>by omega
 | n+1,i,s,hi,hn=>by
  rcases Nat.lt_or_ge i len with h|h
  ·exact X8 (iter G n) i s h λ s'=>tz len mk f X0 aa2 X8 n (i+1) s' (by omega) (by omega)
  ·have:i=len:=by omega
   subst this;exact aa2 (iter G n) s
theorem YY {n:Nat} (h:n<=1152921504606846976):n<fuel:=by rw[jd]; omega
theorem M9 {α X S R:Type} (l:List α) {G:(X->Option R)->X->Option R} (body:α->S->(S->Option R)->Option R) (k:S->Option R) (mk:Int->S->X) (hl:l.length<=1152921504606846976)
  (aa2:∀ rec s,G rec (mk (l.length:Int) s)=k s)
  (X8:∀ rec (i:Nat) s (x:α),l[i]?=some x->i<l.length->G rec (mk (i:Int) s)=body x s (λ s'=>rec (mk ((i:Int)+1) s')))
  (agj:∀ x s (r1 r2:S->Option R),(∀ s',r1 s'=r2 s')->body x s r1=body x s r2) (s:S):iter G fuel (mk 0 s)=KV body k l s:=by
 have:=tz l.length mk (λ i s=>KV body k (l.drop i) s) hl (λ rec s=>by simpa[KV] using aa2 rec s) (λ rec i s hi XW=>by
  rw[X8 rec i s l[i] (List.getElem?_eq_getElem hi) hi,List.drop_eq_getElem_cons hi];exact agj _ _ _ _ XW) fuel 0 s (Nat.zero_le _) (by simpa using YY hl)
 simpa using this
theorem zg {n:Int} (h1 : -9223372036854775808<=n) (h2:n<=9223372036854775807):wr n=n:=by rw[ke]; omega
theorem zr {i:Nat} (h:i<4611686018427387904):wr ((i:Int)+1)=(i:Int)+1:=zg (by omega) (by omega)
theorem zq {e:Ty} {l:List (den e)} {i:Nat} {x:den e} (h:l[i]?=some x):rd e l i=x:=by
 simp[rd,aja,h]
theorem zt {α:Type} {l:List α} {i:Nat} (h:i<l.length):(0:Int)<=(i:Int)/\(i:Int)<(l.length:Int):=by omega
theorem cg {α β:Type} {l:List α} {out:List β} {i:Nat} (y:β) (g:α->β) (h:i<l.length) (ho:out.length=l.length) (hy:y=g l[i]):
  (out.set i y).take (i+1)++(l.drop (i+1)).map g=out.take i++(l.drop i).map g:=by
 have hi:i<out.length:=by omega
 rw[aiN h,aiO,←hy,ajZ,List.take_set_of_le (ajj i),List.getElem?_set_self hi];simp
theorem Ou {α β R:Type} (l:List α) (g:α->β) {G:(Int×List β×Unit->Option R)->Int×List β×Unit->Option R} (k:List β->Option R) (hl:l.length<=1152921504606846976)
  (aa2:∀ rec out,out.length=l.length->G rec ((l.length:Int),out,())=k out)
  (X8:∀ rec (i:Nat) out x,l[i]?=some x->i<l.length->out.length=l.length->G rec ((i:Int),out,())=rec ((i:Int)+1,out.set i (g x),())) (out:List β) (ho:out.length=l.length):
  iter G fuel (0,out,())=k (l.map g):=by
 have key:∀ n i (out:List β),i<=l.length->out.length=l.length->l.length - i<n->iter G n ((i:Int),out,())=k (out.take i++(l.drop i).map g):=by
  intro n;induction n with
  | zero=>intro i out h1 h2 h3; omega
  | succ n ih=>
   intro i out hi ho hn;rcases Nat.lt_or_ge i l.length with h|h
   ·have e1:iter G (n+1) ((i:Int),out,())=iter G n ((i:Int)+1,out.set i (g l[i]),()):=X8 (iter G n) i out l[i] (List.getElem?_eq_getElem h) h ho;have e2:=ih (i+1) (out.set i (g l[i])) h (by simpa using ho) (by omega);rw[cg (g l[i]) g h ho rfl] at e2;rw[e1];exact e2
   ·have hi':i=l.length:=by omega
    subst hi';have e1:iter G (n+1) ((l.length:Int),out,())=k out:=aa2 (iter G n) out ho;rw[e1,ajM (by omega),ak1 (ajj _)];simp
 have:=key fuel 0 out (Nat.zero_le _) ho (by simpa using YY hl);simpa using this
theorem lf {α:Type} (p:α->Bool) (l:List α):KV (S:=Unit) (λ x s rec=>bif p x then some (true,()) else rec s) (λ _=>some (false,())) l ()=some (l.any p,()):=by
 induction l with
 | nil=>rfl
 | cons x xs ih=>rw[lg,ih]; cases h:p x<;>simp[h]
theorem sD {α:Type} (p:α->Bool) (l:List α):KV (S:=Unit) (λ x s rec=>bif p x then rec s else some (false,())) (λ _=>some (true,())) l ()=some (l.all p,()):=by
 induction l with
 | nil=>rfl
 | cons x xs ih=>rw[lg,ih]; cases h:p x<;>simp[h]
def sub (left:Int) (w:Nat):Int:=if left<(w:Int) then -1 else left - w
theorem sub_zero {left:Int} (h:0<=left):sub left 0=left:=by unfold sub; rw[if_neg (by simpa using h)]; simp
def Ens {α:Type} (o:Option α) (P:α->Prop):Prop:=∃ y,o=some y/\P y
theorem Ens.bind {α β:Type} {x:Option α} {f:α->Option β} {P:α->Prop} {Q:β->Prop} (h:Ens x P) (hf:∀ y,P y->Ens (f y) Q):Ens (x.bind f) Q:=by
 obtain⟨y,rfl,hy⟩:=h;exact hf y hy
theorem Ens.some {α:Type} {x:α} {P:α->Prop} (h:P x):Ens (some x) P:=⟨x,rfl,h⟩
theorem Ens.mono {α:Type} {o:Option α} {P Q:α->Prop} (h:Ens o P) (hq:∀ y,P y->Q y):Ens o Q:=by
 obtain⟨y,e,hy⟩:=h;exact⟨y,e,hq y hy⟩
theorem Ens.cond {α:Type} {c:Bool} {a b:Option α} {P:α->Prop} (ha:c=true->Ens a P) (hb:c=false->Ens b P):Ens (bif c then a else b) P:=by
 cases c with
 | true=>exact ha rfl
 | false=>exact hb rfl
theorem Ens.ite {α:Type} {c:Prop} [Decidable c] {a b:Option α} {P:α->Prop} (hc:c) (ha:Ens a P):Ens (if c then a else b) P:=by
 rw[if_pos hc]; exact ha
theorem Ens.loop {S R:Type} {G:(S->Option R)->S->Option R} (I:S->Prop) (μ:S->Nat) {P:R->Prop}
  (h:∀ (rec:S->Option R) (x:S),I x->(∀ y,I y->μ y<μ x->Ens (rec y) P)->Ens (G rec x) P) {x:S} (hx:I x) (hm:μ x<fuel):Ens (iter G fuel x) P:=by
 have key:∀ (n:Nat) (x:S),I x->μ x<n->Ens (iter G n x) P:=by
  intro n;induction n with
  | zero=>intro x _ hn; omega
  | succ n ih=>intro x hx hn; exact h (iter G n) x hx λ y hy hlt=>ih y hy (by omega)
 exact key fuel x hx hm
def big:Nat:=140737488355328
theorem ca {α R:Type} (l:List α) {G:(Int×Unit->Option R)->Int×Unit->Option R} (b:R) (hl:l.length<=1152921504606846976)
  (aa2:∀ rec s,G rec ((l.length:Int),s)=some b)
  (X8:∀ rec (i:Nat) s x,l[i]?=some x->i<l.length->G rec ((i:Int),s)=rec ((i:Int)+1,s)):iter G fuel (0,())=some b:=by
 refine (M9 l (λ x s rec=>rec s) (λ s=>some b) (λ i s=>(i,s)) hl aa2 X8 (λ x s r1 r2 hr=>hr s) ()).trans ?_;clear aa2 X8 hl;induction l with
 | nil=>rfl
 | cons x xs ih=>rw[lg,ih]
theorem Pc {α:Type} (p:α->Bool) (l:List α) {G:(Int×Unit->Option (Int×Unit))->Int×Unit->Option (Int×Unit)} (hl:l.length<=1152921504606846976)
  (aa2:∀ rec s,G rec ((l.length:Int),s)=some (-1,()))
  (X8:∀ rec (i:Nat) s x,l[i]?=some x->i<l.length->G rec ((i:Int),s)=bif p x then some ((i:Int),()) else rec ((i:Int)+1,s)):
  ∃ r:Int,iter G fuel (0,())=some (r,())/\decide (r≥0)=l.any p:=by
 have key:∀ n i,i<=l.length->l.length - i<n->∃ r:Int,iter G n ((i:Int),())=some (r,())/\decide (r≥0)=(l.drop i).any p:=by
  intro n;induction n with
  | zero=>intro i h1 h2; omega
  | succ n ih=>
   intro i hi hn;rcases Nat.lt_or_ge i l.length with h|h
   ·have e1:iter G (n+1) ((i:Int),())=bif p l[i] then some ((i:Int),()) else iter G n ((i:Int)+1,()):=X8 (iter G n) i () l[i] (List.getElem?_eq_getElem h) h;rw[aiN h,List.any_cons,e1];cases hp:p l[i] with
    | true=>exact⟨i,rfl,by simp⟩
    | false=>
     obtain⟨r,h1,h2⟩:=ih (i+1) h (by omega);exact⟨r,h1,by simpa using h2⟩
   ·have hi':i=l.length:=by omega
    subst hi';exact⟨-1,aa2 (iter G n) (),by simp⟩
 simpa using key fuel 0 (Nat.zero_le _) (by simpa using YY hl)
theorem Pb {α:Type} (p:α->Bool) (l:List α) {G:(Int×Unit->Option (Int×Unit))->Int×Unit->Option (Int×Unit)} (hl:l.length<=1152921504606846976)
  (aa2:∀ rec s,G rec ((l.length:Int),s)=some (-1,()))
  (X8:∀ rec (i:Nat) s x,l[i]?=some x->i<l.length->G rec ((i:Int),s)=bif p x then some ((i:Int),()) else rec ((i:Int)+1,s)):
  ((iter G fuel (0,())).bind λ r=>some (decide (r.1≥0),()))=some (l.any p,()):=by
 obtain⟨r,h1,h2⟩:=Pc p l hl aa2 X8;rw[h1,aiu,←h2]
theorem rP {R:Type} (l m:List Int) {G:(Int×Unit->Option R)->Int×Unit->Option R} (yes no:R) (hl:l.length<=1152921504606846976)
  (aa2:∀ rec (i:Nat) s,i<=l.length->i<=m.length->(i=l.length∨i=m.length)->G rec ((i:Int),s)=some (if l.length=m.length then yes else no))
  (X8:∀ rec (i:Nat) s x y,l[i]?=some x->m[i]?=some y->i<l.length->i<m.length->G rec ((i:Int),s)=bif x != y then some no else rec ((i:Int)+1,s)):
  iter G fuel (0,())=some (if l=m then yes else no):=by
 have key:∀ n i,i<=l.length->i<=m.length->l.length - i<n->iter G n ((i:Int),())=some (if l.drop i=m.drop i then yes else no):=by
  intro n;induction n with
  | zero=>intro i h1 h2 h3; omega
  | succ n ih=>
   intro i hi hi2 hn;by_cases he:i=l.length∨i=m.length
   ·have e1:iter G (n+1) ((i:Int),())=some (if l.length=m.length then yes else no):=aa2 (iter G n) i () hi hi2 he;have e2:(l.drop i=m.drop i)=(l.length=m.length):=by
     apply propext;constructor
     ·intro e;have:=congrArg List.length e;simp only[aiR] at this;omega
     ·intro e;rw[ak1 (by omega),ak1 (by omega)]
    simp only[e1,e2]
   ·have h:i<l.length:=by omega
    have hm:i<m.length:=by omega
    have e1:iter G (n+1) ((i:Int),())=bif l[i] != m[i] then some no else iter G n ((i:Int)+1,()):=X8 (iter G n) i () l[i] m[i] (List.getElem?_eq_getElem h) (List.getElem?_eq_getElem hm) h hm;rw[e1,aiN h,aiN hm];by_cases he:l[i]=m[i]
    ·rw[he];simp only[bne_self_eq_false,aiv,aiZ,true_and];exact ih (i+1) h hm (by omega)
    ·have:(l[i] != m[i])=true:=by simpa using he
     rw[this,aiw,if_neg (λ e=>he (List.cons.inj e).1)]
 have:=key fuel 0 (Nat.zero_le _) (Nat.zero_le _) (by simpa using YY hl);simpa only [List.drop_zero,Int.natCast_zero] using this
theorem Yg (l:List Int) (v:Int) (h:l.length<=1152921504606846976):ju (l,v,())=some (l.any (· == v),()):=by
 unfold ju;refine (M9 l (λ x s rec=>bif x==v then some (true,()) else rec s) (λ s=>some (false,())) (λ i s=>(i,s)) h ?_ ?_ ?_ ()).trans (lf _ _)
 ·intro rec s; simp
 ·intro rec i s x hx hi;simp only[aiG,zt hi,aiB,aiw,if_true,aiL,rd,aja,hx,aj4,zr (show i<4611686018427387904 by omega)]
 ·intro x s r1 r2 hr; simp[hr]
theorem CB (l:List Int) (v:Int) (h:l.length<=1152921504606846976):fi (l,v,())=some (l.any (v == ·),()):=by
 unfold fi pa;refine Pb (v == ·) l h ?_ ?_
 ·intro rec s; simp
 ·intro rec i s x hx hi;simp only[aiG,zt hi,aiB,aiw,if_true,aiL,rd,aja,hx,aj4,zr (show i<4611686018427387904 by omega)]
theorem OU (l:List Int) (v:Int) (h:l.length<=1152921504606846976):cD (l,v,())=some (l.any (· == v),()):=by
 unfold cD;simp only[CB l v h,aiu];congr 2;apply congrArg (λ f=>l.any f);funext x;exact Bool.beq_comm
theorem ra (l m:List Int) (hl:l.length<=1152921504606846976):az (l,m,())=some (decide (l=m),()):=by
 unfold az;by_cases hlm:l.length=m.length
 ·simp only[hlm,bne_self_eq_false,aiv];rw[←hlm];refine (rP l m (true,()) (false,()) hl ?_ ?_).trans (by by_cases h:l=m<;>simp[h])
  ·intro rec i s h1 h2 h3;have hnl:¬ (i:Int)<(l.length:Int):=by omega
   simp only[hlm] at hnl ⊢;simp[hnl]
  ·intro rec i s x y hx hy hi hm;simp only[aiG,(zt hi).1,(zt hi).2,(zt hm).2,aiB,aiw,if_true,aiL,rd,aja,hx,hy,aj4,zr (show i<4611686018427387904 by omega)]
 ·have h1:(((l.length:Nat):Int) != ((m.length:Nat):Int))=true:=bne_iff_ne.2 (by omega);have h2:¬ l=m:=λ h=>hlm (by rw[h]);simp[h1,h2]
theorem tP (l m:List Int) (hl:l.length<=1152921504606846976):bt (l,m,())=some (decide (l=m),()):=by
 unfold bt;refine (rP l m (true,()) (false,()) hl ?_ ?_).trans (by by_cases h:l=m<;>simp[h])
 ·intro rec i s h1 h2 h3;rcases Nat.lt_or_ge i l.length with h|h
  ·have hm:i=m.length:=by omega
   have hnm:¬ (i:Int)<(m.length:Int):=by omega
   have hbe:(((l.length:Nat):Int)==((m.length:Nat):Int))=false:=by simp; omega
   have hne:¬ l.length=m.length:=by omega
   simp only[zt h,hnm,aiB,aiD,aiw,aiv,hbe,if_neg hne]
  ·have hnl:¬ (i:Int)<(l.length:Int):=by omega
   simp only[hnl,aiD,aiv];by_cases e:l.length=m.length
   ·simp[e]
   ·have hbe:(((l.length:Nat):Int)==((m.length:Nat):Int))=false:=by simp; omega
    simp only[hbe,if_neg e]
 ·intro rec i s x y hx hy hi hm;simp only[aiG,(zt hi).1,(zt hi).2,(zt hm).2,aiB,aiw,if_true,aiL,rd,aja,hx,hy,aj4,zr (show i<4611686018427387904 by omega)]
abbrev yP:=List UInt8×Int
def yw (d:yP):Bool:=decide ((d.1.length:Int)<=100000) && (decide (d.2≥0) && decide (d.2<=(d.1.length:Int)))
theorem fz (d:yP):Lm (d,())=some (yw d,()):=by
 unfold Lm yl yw;cases h1:decide ((d.1.length:Int)<=100000)<;>cases h2:decide (d.2≥0)<;>simp[h1,h2]
theorem OL (d:yP):cu (d,())=some (yw d,()):=by
 unfold cu jz yw;cases h1:decide ((d.1.length:Int)<=100000)<;>cases h2:decide (d.2≥0)<;>simp[h1,h2]
theorem gg (d:yP) (h:d.1.length<=35184372088832):Kx (d,())=some (d,()):=by
 unfold Kx;dsimp only;rw[if_pos (by omega)];rfl
theorem O5 (d:yP) (h:d.1.length<=35184372088832):cL (d,())=some (d,()):=by
 unfold cL;dsimp only;rw[if_pos (by omega)]
def Zt (d:yP) (b:List UInt8):yP×Bool:=if yw d=true/\d.1.length+b.length<=100000 then ((d.1++b,d.2),true) else (d,false)
theorem Wd (d:yP) (b:List UInt8) (h:d.1.length<=17592186044416) (hb:b.length<=17592186044416):fl (d,b,())=some ((Zt d b).1,(Zt d b).2,()):=by
 unfold fl Zt;simp only[gg d (by omega),aiu,fz];rw[if_pos (by omega)];cases h1:yw d with
 | false=>simp
 | true=>
  simp only[aiC,aiv,true_and];have h2:yw (d.1++b,d.2)=decide (d.1.length+b.length<=100000):=by
   simp only[yw,aix,aiI] at h1;obtain⟨g1,g2,g3⟩:=h1;by_cases h3:d.1.length+b.length<=100000
   ·simp[yw,h3,g2]; omega
   ·simp[yw,h3]; omega
  rw[h2];by_cases h3:d.1.length+b.length<=100000
  ·simp[h3]
  ·simp[h3]
theorem acb (d:yP) (b:List UInt8) (h:d.1.length<=17592186044416) (hb:b.length<=17592186044416):aa9 (d,b,())=some ((Zt d b).1,(Zt d b).2,()):=by
 unfold aa9 Zt;simp only[O5 d (by omega),aiu,OL];rw[if_pos (by omega)];cases h1:yw d with
 | false=>simp
 | true=>
  simp only[aiC,aiv,true_and];rw[zg (by omega) (by omega)];by_cases h3:d.1.length+b.length<=100000
  ·have:decide ((d.1.length:Int)+b.length>100000)=false:=by simp; omega
   simp[h3,this]
  ·have:decide ((d.1.length:Int)+b.length>100000)=true:=by simp; omega
   simp[h3,this]
theorem ac5 (d:yP) (b:List UInt8):(Zt d b).1.1.length<=d.1.length+b.length:=by
 unfold Zt;split<;>simp
theorem ZH {α:Type} {l:List α} {x:α} (f:α->Nat) (h:x∈l):f x<=(l.map f).sum:=by
 induction l with
 | nil=>cases h
 | cons y r ih=>
  simp only[aiO,ajb];rcases List.mem_cons.1 h with rfl|h
  ·omega
  ·have:=ih h; omega
abbrev yQ:=List Int
abbrev rj:=List UInt8
abbrev zP:=Int×Int×Int×Int
abbrev Jt:=Int×List UInt8×Int
abbrev zJ:=Int×List UInt8×yQ
abbrev zD:=Int×List UInt8×yQ
abbrev y7:=List UInt8×zJ
abbrev zo:=Int×Int×y7×zD×zJ×Int×zP
abbrev JX:=Int×zo
abbrev bR:=Int×rj
abbrev zI:=Int×Int×zJ×List UInt8
abbrev zE:=List zP
abbrev yR:=List Jt
abbrev zS:=List zD
abbrev jT:=List JX
abbrev jp:=List bR
abbrev zb:=Int×Int×Int×zI×zE×zS×yP×jT
abbrev Yo:=List zb
abbrev za:=Int×Int
abbrev yb:=yQ×yQ
abbrev zz:=za×yQ×Yo×jp×yR
abbrev YS:=Int×Int×Int×zo
def zl (x:yQ):Nat:=x.length
def pP (x:rj):Nat:=x.length
def JR (x:yP):Nat:=x.1.length
def qB (x:Jt):Nat:=x.2.1.length
def zi (x:zJ):Nat:=x.2.1.length+zl x.2.2
def zj (x:zD):Nat:=x.2.1.length+zl x.2.2
def zB (x:y7):Nat:=x.1.length+zi x.2
def zh (x:zo):Nat:=zB x.2.2.1+zj x.2.2.2.1+zi x.2.2.2.2.1
def Z3 (x:JX):Nat:=zh x.2
def MI (x:bR):Nat:=pP x.2
def zA (x:zI):Nat:=zi x.2.2.1+x.2.2.2.length
def Jm (x:zE):Nat:=x.length
def LA (x:yR):Nat:=x.length+(x.map qB).sum
def zC (x:zS):Nat:=x.length+(x.map zj).sum
def yn (x:jT):Nat:=x.length+(x.map Z3).sum
def qC (x:jp):Nat:=x.length+(x.map MI).sum
def ze (x:zb):Nat:=zA x.2.2.2.1+Jm x.2.2.2.2.1+zC x.2.2.2.2.2.1+JR x.2.2.2.2.2.2.1+yn x.2.2.2.2.2.2.2
def MH (x:Yo):Nat:=x.length+(x.map ze).sum
def gY (x:yb):Nat:=zl x.1+zl x.2
def Z4 (x:zz):Nat:=zl x.2.1+MH x.2.2.1+qC x.2.2.2.1+LA x.2.2.2.2
def MsgW (m:zo):Prop:=m.2.2.1.2.2.2.length<=8796093022208/\m.2.2.2.1.2.2.length<=8796093022208/\m.2.2.2.2.1.2.2.length<=8796093022208
theorem MsgW.of {m:zo} (h:zh m<=137438953472):MsgW m:=by
 simp only[zh,zB,zi,zj,zl] at h;unfold MsgW;omega
def je (a b:zJ):Bool:=a.1==b.1 && (a.2.1==b.2.1 && decide (a.2.2=b.2.2))
theorem pj (a b:zJ) (h:a.2.2.length<=8796093022208):N4 (a,b,())=some (je a b,()):=by
 unfold N4 je;simp only[tP a.2.2 b.2.2 (by omega),aiu];cases a.1==b.1<;>cases a.2.1==b.2.1<;>simp
theorem cA (a b:zJ) (h:a.2.2.length<=8796093022208):LT (a,b,())=some (je a b,()):=by
 unfold LT je;simp only[ra a.2.2 b.2.2 (by omega),aiu];cases a.1==b.1<;>cases a.2.1==b.2.1<;>simp
theorem WU (a b:zJ) (h:a.2.2.length<=8796093022208):gk (a,b,())=some (je a b,()):=by
 unfold gk je;simp only[tP a.2.2 b.2.2 (by omega),aiu];cases a.1==b.1<;>cases a.2.1==b.2.1<;>simp
theorem Pa (a b:zJ) (h:a.2.2.length<=8796093022208):cQ (a,b,())=some (je a b,()):=by
 unfold cQ je;simp only[ra a.2.2 b.2.2 (by omega),aiu];cases a.1==b.1<;>cases a.2.1==b.2.1<;>simp
def Yp (a b:y7):Bool:=a.1==b.1 && je a.2 b.2
theorem We (a b:y7) (h:a.2.2.2.length<=8796093022208):fw (a,b,())=some (Yp a b,()):=by
 unfold fw Yp;simp only[pj a.2 b.2 h,aiu];cases a.1==b.1<;>simp
theorem OJ (a b:y7) (h:a.2.2.2.length<=8796093022208):ct (a,b,())=some (Yp a b,()):=by
 unfold ct Yp;simp only[cA a.2 b.2 h,aiu];cases a.1==b.1<;>simp
def MC (a b:zP):Bool:=a.1==b.1 && (a.2.1==b.2.1 && (a.2.2.1==b.2.2.1 && (a.2.2.2==b.2.2.2 && true)))
def Zi (a b:zo):Bool:=
 a.1==b.1 && (a.2.1==b.2.1 && (Yp a.2.2.1 b.2.2.1 && (je a.2.2.2.1 b.2.2.2.1 && (je a.2.2.2.2.1 b.2.2.2.2.1 && (a.2.2.2.2.2.1==b.2.2.2.2.2.1 && MC a.2.2.2.2.2.2 b.2.2.2.2.2.2)))))
theorem N0 (a b:zo) (h:MsgW a):Kr (a,b,())=some (Zi a b,()):=by
 unfold Kr Zi MC;simp only[We a.2.2.1 b.2.2.1 h.1,WU a.2.2.2.1 b.2.2.2.1 h.2.1,pj a.2.2.2.2.1 b.2.2.2.2.1 h.2.2,aiu];cases a.1==b.1<;>cases a.2.1==b.2.1<;>cases Yp a.2.2.1 b.2.2.1<;>cases je a.2.2.2.1 b.2.2.2.1<;>cases je a.2.2.2.2.1 b.2.2.2.2.1<;>cases a.2.2.2.2.2.1==b.2.2.2.2.2.1<;>rfl
theorem OP (a b:zo) (h:MsgW a):cx (a,b,())=some (Zi a b,()):=by
 unfold cx Zi MC;simp only[OJ a.2.2.1 b.2.2.1 h.1,Pa a.2.2.2.1 b.2.2.2.1 h.2.1,cA a.2.2.2.2.1 b.2.2.2.2.1 h.2.2,aiu];cases a.1==b.1<;>cases a.2.1==b.2.1<;>cases Yp a.2.2.1 b.2.2.1<;>cases je a.2.2.2.1 b.2.2.2.1<;>cases je a.2.2.2.2.1 b.2.2.2.2.1<;>cases a.2.2.2.2.2.1==b.2.2.2.2.2.1<;>rfl
theorem BS (l:List Jt) (view:Int) (name:List UInt8) (who:Int) (h:l.length<=1152921504606846976):
  bj (l,view,name,who,())=some (l.any (λ x=>x.1==view && (x.2.1==name && x.2.2==who)),()):=by
 unfold bj;refine (M9 l (λ x s rec=>bif (x.1==view && (x.2.1==name && x.2.2==who)) then some (true,()) else rec s) (λ s=>some (false,())) (λ i s=>(i,s)) h ?_ ?_ ?_ ()).trans (lf _ _)
 ·intro rec s; simp
 ·intro rec i s x hx hi;simp only[aiG,zt hi,aiB,aiw,if_true,aiL,rd,aja,hx,aj4,zr (show i<4611686018427387904 by omega)];cases x.1==view<;>cases x.2.1==name<;>cases x.2.2==who<;>rfl
 ·intro x s r1 r2 hr; simp[hr]
def signed (liars:List Int) (list:List Jt) (view:Int) (name:List UInt8) (who:List Int):Bool:=
 who.all λ i=>liars.any (· == i) || list.any (λ x=>x.1==view && (x.2.1==name && x.2.2==i))
theorem pn (liars:List Int) (list:List Jt) (view:Int) (name:List UInt8) (who:List Int) (h1:liars.length<=1152921504606846976) (h2:list.length<=1152921504606846976) (h3:who.length<=1152921504606846976):
  N9 (liars,list,view,name,who,())=some (signed liars list view name who,()):=by
 unfold N9;refine (M9 who (λ x s rec=>bif (liars.any (· == x) || list.any (λ y=>y.1==view && (y.2.1==name && y.2.2==x))) then rec s else some (false,())) (λ s=>some (true,())) (λ i s=>(i,s)) h3 ?_ ?_ ?_ ()).trans (sD _ _)
 ·intro rec s; simp
 ·intro rec i s x hx hi;simp only[aiG,zt hi,aiB,aiw,if_true,aiL,rd,aja,hx,aj4,zr (show i<4611686018427387904 by omega),Yg liars x h1,BS list view name x h2,aiu];cases liars.any (· == x)<;>cases list.any (λ y=>y.1==view && (y.2.1==name && y.2.2==x))<;>rfl
 ·intro x s r1 r2 hr; simp[hr]
def YJ (m:zo):zD:=if m.1=2 then m.2.2.2.1 else if m.1=1 then (m.2.2.1.2.1,m.2.2.1.2.2.1,m.2.2.1.2.2.2) else (m.2.2.2.2.1.1,m.2.2.2.2.1.2.1,m.2.2.2.2.1.2.2)
def YI (id:Int) (m:zo):yR:=if m.1=4 then [] else if (YJ m).2.1=[] then [] else if (YJ m).2.2.any (· == id) then [((YJ m).1,(YJ m).2.1,id)] else []
theorem WE (id:Int) (m:zo) (h:MsgW m):fT (id,m,())=some (YI id m,()):=by
 obtain⟨h1,h2,h3⟩:=h;unfold fT YI YJ;simp only[Yg _ _ (show m.2.2.1.2.2.2.length<=1152921504606846976 by omega),Yg _ _ (show m.2.2.2.1.2.2.length<=1152921504606846976 by omega),Yg _ _ (show m.2.2.2.2.1.2.2.length<=1152921504606846976 by omega),aiu];by_cases c2:m.1=2
 ·simp only[c2,if_true,show ¬ (2:Int)=4 by decide,if_false,show ((2:Int)==2)=true from rfl,show ((2:Int)==4)=false from rfl,aiw,aiv];by_cases e:m.2.2.2.1.2.1=[]
  ·simp[e]
  ·have:(m.2.2.2.1.2.1==[])=false:=by simp[e]
   simp only[this,e,aiv,if_false];cases m.2.2.2.1.2.2.any (· == id)<;>simp
 ·by_cases c1:m.1=1
  ·simp only[c1,show ¬ (1:Int)=2 by decide,if_true,show ¬ (1:Int)=4 by decide,if_false,show ((1:Int)==2)=false from rfl,show ((1:Int)==1)=true from rfl,show ((1:Int)==4)=false from rfl,aiw,aiv];by_cases e:m.2.2.1.2.2.1=[]
   ·simp[e]
   ·have:(m.2.2.1.2.2.1==[])=false:=by simp[e]
    simp only[this,e,aiv,if_false];cases m.2.2.1.2.2.2.any (· == id)<;>simp
  ·have e2:(m.1==2)=false:=by simp[c2]
   have e1:(m.1==1)=false:=by simp[c1]
   simp only[e2,e1,c2,c1,aiv,if_false];by_cases c4:m.1=4
   ·simp[c4]
   ·have e4:(m.1==4)=false:=by simp[c4]
    simp only[e4,c4,aiv,if_false];by_cases e:m.2.2.2.2.1.2.1=[]
    ·simp[e]
    ·have:(m.2.2.2.2.1.2.1==[])=false:=by simp[e]
     simp only[this,e,aiv,if_false];cases m.2.2.2.2.1.2.2.any (· == id)<;>simp
theorem U9 (id:Int) (m:zo):LA (YI id m)<=1+zh m:=by
 unfold YI YJ;repeat' split
 all_goals simp only[LA,qB,zh,zB,zi,zj,zl,aiz,ajc,List.sum_nil,aiA,aiO,ajb]
 all_goals omega
theorem IP {β R:Type} (p:Nat->Bool) (g:Nat->β) (n:Nat) (hn:n<=1152921504606846976) (k:List β->Option R) {G:(List β×Int×Unit->Option R)->List β×Int×Unit->Option R}
  (aa2:∀ rec out,G rec (out,(n:Int),())=k out)
  (X8:∀ rec (i:Nat) out,i<n->out.length<=i->G rec (out,(i:Int),())=rec (if p i=true then out++[g i] else out,(i:Int)+1,())):
  iter G fuel ([],0,())=k (((List.range n).filter p).map g):=by
 have key:∀ (m i:Nat) (out:List β),i<=n->n - i<m->out.length<=i->iter G m (out,(i:Int),())=k (out++((List.range' i (n - i)).filter p).map g):=by
  intro m;induction m with
  | zero=>intro i out h1 h2 h3; omega
  | succ m ih=>
   intro i out h1 h2 h3;rcases Nat.lt_or_ge i n with h|h
   ·have e1:iter G (m+1) (out,(i:Int),())=iter G m (if p i=true then out++[g i] else out,(i:Int)+1,()):=X8 (iter G m) i out h h3;have e2:=ih (i+1) (if p i=true then out++[g i] else out) h (by omega) (by
     split
     ·simp only[aiE,aiA,aiz]; omega
     ·omega)
    rw[e1];refine Eq.trans (by rfl) (e2.trans ?_);have e3:n - i=(n - (i+1))+1:=by omega
    rw[e3,List.range'_succ];cases hp:p i<;>simp[hp]
   ·have hi:i=n:=by omega
    subst hi;have e1:iter G (m+1) (out,(i:Int),())=k out:=aa2 (iter G m) out;rw[e1];simp
 have:=key fuel 0 [] (Nat.zero_le _) (by have:=YY hn; omega) (by simp)
 simpa[List.range_eq_range'] using this
def ZP (w:zz):List Int:=((List.range w.2.2.1.length).filter λ (i:Nat) => !(w.2.1.any (· == (i:Int)))).map λ (i:Nat)=>(i:Int)
theorem Bw (w:zz) (h1:w.2.1.length<=137438953472) (h2:w.2.2.1.length<=137438953472):NW (w,())=some (ZP w,()):=by
 unfold NW ZP;refine IP (λ (i:Nat) => !(w.2.1.any (· == (i:Int)))) (λ (i:Nat)=>(i:Int)) w.2.2.1.length (by omega) (λ out=>some (out,())) ?_ ?_
 ·intro rec out; simp
 ·intro rec i out hi ho;have hg:((i:Int)<(w.2.2.1.length:Nat)):=by omega
  simp only[hg,aiB,aiw,Yg _ _ (show w.2.1.length<=1152921504606846976 by omega),aiu,zr (show i<4611686018427387904 by omega),aiA,aiz];rw[if_pos (by omega)];cases w.2.1.any (· == (i:Int))<;>simp
theorem OG (w:zz):(ZP w).length<=w.2.2.1.length:=by
 unfold ZP;rw[ajl];exact Nat.le_trans (List.length_filter_le _ _) (by simp)
theorem M8 {α S St R:Type} (enc:Int->S->St) (l:List α) (f:S->α->S) (k:S->Option R) {G:(St->Option R)->St->Option R} (hl:l.length<=1152921504606846976) (I:Nat->S->Prop)
  (aa2:∀ rec s,I l.length s->G rec (enc (l.length:Int) s)=k s)
  (X8:∀ rec (i:Nat) s x,l[i]?=some x->i<l.length->I i s->I (i+1) (f s x)/\G rec (enc (i:Int) s)=rec (enc ((i:Int)+1) (f s x))) {s0:S} (h0:I 0 s0):
  iter G fuel (enc 0 s0)=k (l.foldl f s0):=by
 have key:∀ (m i:Nat) (s:S),i<=l.length->l.length - i<m->I i s->iter G m (enc (i:Int) s)=k ((l.drop i).foldl f s):=by
  intro m;induction m with
  | zero=>intro i s h1 h2 h3; omega
  | succ m ih=>
   intro i s h1 h2 h3;rcases Nat.lt_or_ge i l.length with h|h
   ·obtain⟨g1,g2⟩:=X8 (iter G m) i s l[i] (List.getElem?_eq_getElem h) h h3;have e1:iter G (m+1) (enc (i:Int) s)=iter G m (enc ((i:Int)+1) (f s l[i])):=g2;rw[e1,aiN h,ajf];exact ih (i+1) _ h (by omega) g1
   ·have hi:i=l.length:=by omega
    subst hi;have e1:iter G (m+1) (enc (l.length:Int) s)=k s:=aa2 (iter G m) s h3;rw[e1]; simp
 have:=key fuel 0 s0 (Nat.zero_le _) (by have:=YY hl; omega) h0
 simpa using this
theorem Ov {α S:Type} (l:List α) (f:S->α->S) (I:Nat->S->Prop) (X8:∀ (i:Nat) s x,l[i]?=some x->i<l.length->I i s->I (i+1) (f s x)) {s0:S} (h0:I 0 s0):I l.length (l.foldl f s0):=by
 have key:∀ (n i:Nat) (s:S),l.length - i=n->i<=l.length->I i s->I l.length ((l.drop i).foldl f s):=by
  intro n;induction n with
  | zero=>
       intro i s h1 h2 h3; have:i=l.length:=by omega
       subst this; simpa using h3
  | succ n ih=>
   intro i s h1 h2 h3;have h:i<l.length:=by omega
   rw[aiN h,ajf];exact ih (i+1) _ (by omega) h (X8 i s l[i] (List.getElem?_eq_getElem h) h h3)
 simpa using key l.length 0 s0 (by simp) (Nat.zero_le _) h0
theorem sG {α:Type}:∀ (l out:List α),l.foldl (λ out x=>out++[x]) out=out++l
 | [],out=>by simp
 | x::l,out=>by rw[ajf,sG l]; simp
theorem MV {α St R:Type} (enc:Int->List α->St) (l:List α) (k:List α->Option R) {G:(St->Option R)->St->Option R} (hl:l.length<=1152921504606846976)
  (aa2:∀ rec s,s.length=l.length->G rec (enc (l.length:Int) s)=k s)
  (X8:∀ rec (i:Nat) s x,l[i]?=some x->i<l.length->s.length=i->G rec (enc (i:Int) s)=rec (enc ((i:Int)+1) (s++[x]))):
  iter G fuel (enc 0 [])=k l:=by
 have:=M8 enc l (λ out x=>out++[x]) k hl (λ i s=>s.length=i) aa2 (λ rec i s x hx hi h=>⟨by simp[h],X8 rec i s x hx hi h⟩) (s0:=[]) rfl;rw[this,sG]; simp
theorem Mx (x:zJ) (hw:zi x<=137438953472):Jh (x,())=some (x,()):=by
 unfold Jh;dsimp only;have:x.2.2.length<=137438953472:=by simp only[zi,zl] at hw; omega
 rw[if_pos (by omega)]; rfl
theorem Ms (x:zD) (hw:zj x<=137438953472):JN (x,())=some (x,()):=by
 unfold JN;dsimp only;have:x.2.2.length<=137438953472:=by simp only[zj,zl] at hw; omega
 rw[if_pos (by omega)]; rfl
theorem gc (x:zI) (hw:zA x<=137438953472):Mt (x,())=some (x,()):=by
 unfold Mt;simp only[Mx x.2.2.1 (by simp only[zA] at hw; omega),Option.bind_some]
theorem W3 (x:y7) (hw:zB x<=137438953472):gR (x,())=some (x,()):=by
 unfold gR;simp only[Mx x.2 (by simp only[zB] at hw; omega),Option.bind_some]
theorem BQ (x:zo) (hw:zh x<=137438953472):bf (x,())=some (x,()):=by
 unfold bf;simp only[zh] at hw;simp only[W3 x.2.2.1 (by omega),Ms x.2.2.2.1 (by omega),Mx x.2.2.2.2.1 (by omega),aiu]
theorem BN (x:zS) (hw:zC x<=137438953472):JO (x,())=some (x,()):=by
 have hl:x.length<=137438953472:=by unfold zC at hw; omega
 unfold JO;refine MV (λ i s=>(s,i,())) x (λ s=>some (s,())) (by omega) ?_ ?_
 ·intro rec s hs; simp
 ·intro rec i s y hx hi hs;have hy:zj y<=137438953472:=by have:=ZH zj (List.mem_of_getElem? hx); unfold zC at hw; omega
  simp only[aiG,zt hi,aiB,aiw,if_true,aiL,zq (e:=(.pair .i64 (.pair .str (.sl 0 .i64)))) hx,Ms y hy,aiu,zr (show i<4611686018427387904 by omega),aiA,aiz];rw[if_pos (by omega)]
theorem BR (x:jT) (hw:yn x<=137438953472):bh (x,())=some (x,()):=by
 have hl:x.length<=137438953472:=by unfold yn at hw; omega
 unfold bh;refine MV (λ i s=>(s,i,())) x (λ s=>some (s,())) (by omega) ?_ ?_
 ·intro rec s hs; simp
 ·intro rec i s y hx hi hs;have hy:zh y.2<=137438953472:=by have:=ZH Z3 (List.mem_of_getElem? hx); simp only[Z3] at this; unfold yn at hw; omega
  simp only[aiG,zt hi,aiB,aiw,if_true,aiL,zq (e:=(.pair .i64 (.pair .i64 (.pair .i64 (.pair (.pair .str (.pair .i64 (.pair .str (.sl 0 .i64)))) (.pair (.pair .i64 (.pair .str (.sl 0 .i64))) (.pair (.pair .i64 (.pair .str (.sl 0 .i64))) (.pair .i64 (.pair .i64 (.pair .i64 (.pair .i64 .i64))))))))))) hx,BQ y.2 hy,aiu,zr (show i<4611686018427387904 by omega),aiA,aiz];rw[if_pos (by omega)]
theorem Zp (x:zb) (hw:ze x<=137438953472):yu (x,())=some (x,()):=by
 unfold yu;simp only[ze,Jm,JR] at hw;simp only[gc x.2.2.2.1 (by omega),BN x.2.2.2.2.2.1 (by omega),gg x.2.2.2.2.2.2.1 (by omega),BR x.2.2.2.2.2.2.2 (by omega),aiu];rw[if_pos (by omega)]; rfl
theorem lB (x:yQ) (hw:x.length<=137438953472):K1 (x,())=some (x,()):=by
 unfold K1;dsimp only;rw[if_pos (by omega)]
theorem lC (x:zJ) (hw:zi x<=137438953472):Nl (x,())=some (x,()):=by
 unfold Nl;simp only[lB x.2.2 (by simp only[zi,zl] at hw; omega),Option.bind_some]
theorem Qj (x:zD) (hw:zj x<=137438953472):JB (x,())=some (x,()):=by
 unfold JB;simp only[lB x.2.2 (by simp only[zj,zl] at hw; omega),Option.bind_some]
theorem O7 (x:zI) (hw:zA x<=137438953472):cN (x,())=some (x,()):=by
 unfold cN;simp only[lC x.2.2.1 (by simp only[zA] at hw; omega),Option.bind_some]
theorem O8 (x:zE) (hw:Jm x<=137438953472):cO (x,())=some (x,()):=by
 unfold cO;dsimp only;simp only[Jm] at hw;rw[if_pos (by omega)]
theorem O4 (x:y7) (hw:zB x<=137438953472):cK (x,())=some (x,()):=by
 unfold cK;simp only[lC x.2 (by simp only[zB] at hw; omega),Option.bind_some]
theorem tf (x:zo) (hw:zh x<=137438953472):Qi (x,())=some (x,()):=by
 unfold Qi;simp only[zh] at hw;simp only[O4 x.2.2.1 (by omega),Qj x.2.2.2.1 (by omega),lC x.2.2.2.2.1 (by omega),aiu]
theorem ti (x:zS) (hw:zC x<=137438953472):Yy (x,())=some (x,()):=by
 have hl:x.length<=137438953472:=by unfold zC at hw; omega
 unfold Yy;refine MV (λ i s=>(s,i,())) x (λ s=>some (s,())) (by omega) ?_ ?_
 ·intro rec s hs; simp
 ·intro rec i s y hx hi hs;have hy:zj y<=137438953472:=by have:=ZH zj (List.mem_of_getElem? hx); unfold zC at hw; omega
  simp only[aiG,zt hi,aiB,aiw,if_true,aiL,zq (e:=(.pair .i64 (.pair .str (.sl 0 .i64)))) hx,Qj y hy,aiu,zr (show i<4611686018427387904 by omega),aiA,aiz];rw[if_pos (by omega)]
theorem O6 (x:jT) (hw:yn x<=137438953472):cM (x,())=some (x,()):=by
 have hl:x.length<=137438953472:=by unfold yn at hw; omega
 unfold cM;refine MV (λ i s=>(s,i,())) x (λ s=>some (s,())) (by omega) ?_ ?_
 ·intro rec s hs; simp
 ·intro rec i s y hx hi hs;have hy:zh y.2<=137438953472:=by have:=ZH Z3 (List.mem_of_getElem? hx); simp only[Z3] at this; unfold yn at hw; omega
  simp only[aiG,zt hi,aiB,aiw,if_true,aiL,zq (e:=(.pair .i64 (.pair .i64 (.pair .i64 (.pair (.pair .str (.pair .i64 (.pair .str (.sl 0 .i64)))) (.pair (.pair .i64 (.pair .str (.sl 0 .i64))) (.pair (.pair .i64 (.pair .str (.sl 0 .i64))) (.pair .i64 (.pair .i64 (.pair .i64 (.pair .i64 .i64))))))))))) hx,tf y.2 hy,aiu,zr (show i<4611686018427387904 by omega),aiA,aiz];rw[if_pos (by omega)]
theorem th (x:zb) (hw:ze x<=137438953472):JC (x,())=some (x,()):=by
 unfold JC;simp only[ze] at hw;have h5:x.2.2.2.2.2.2.1.1.length<=137438953472:=by simp only[JR] at hw; omega
 simp only[O7 x.2.2.2.1 (by omega),O8 x.2.2.2.2.1 (by omega),ti x.2.2.2.2.2.1 (by omega),O5 x.2.2.2.2.2.2.1 (by omega),O6 x.2.2.2.2.2.2.2 (by omega),aiu]
theorem WZ (w:zz) (hw:Z4 w<=137438953472):gu (w,())=some (w,()):=by
 have hr:MH w.2.2.1<=137438953472:=by simp only[Z4] at hw; omega
 have hs:qC w.2.2.2.1<=137438953472:=by simp only[Z4] at hw; omega
 have h1:w.2.1.length<=137438953472:=by simp only[Z4,zl] at hw; omega
 have h2:w.2.2.2.2.length<=137438953472:=by simp only[Z4,LA] at hw; omega
 have h3:w.2.2.1.length<=137438953472:=by unfold MH at hr; omega
 have h4:w.2.2.2.1.length<=137438953472:=by unfold qC at hs; omega
 unfold gu;dsimp only;rw[if_pos (by omega),if_pos (by omega)];refine (MV (λ i (s:Yo)=>(i,(w.1,[]++w.2.1,s,[],[]++w.2.2.2.2),())) w.2.2.1 (λ s=>some ((w.1,[]++w.2.1,s,w.2.2.2.1,[]++w.2.2.2.2),())) (by omega) ?_ ?_).trans (by simp)
 ·intro rec s hs';simp only[aiY,aiD,aiv];refine MV (λ i (t:jp)=>(i,(w.1,[]++w.2.1,s,t,[]++w.2.2.2.2),())) w.2.2.2.1 (λ t=>some ((w.1,[]++w.2.1,s,t,[]++w.2.2.2.2),())) (by omega) ?_ ?_
  ·intro rec t ht; simp
  ·intro rec i t y hx hi ht;have hy:MI y<=137438953472:=by have:=ZH MI (List.mem_of_getElem? hx); unfold qC at hs; omega
   simp only[MI,pP] at hy;simp only[aiG,zt hi,aiB,aiw,if_true,aiL,zq (e:=(.pair .i64 (.sl 0 .u8))) hx,zr (show i<4611686018427387904 by omega),aiA,aiz];rw[if_pos (by omega),if_pos (by omega)];rfl
 ·intro rec i s y hx hi hs';have hy:ze y<=137438953472:=by have:=ZH ze (List.mem_of_getElem? hx); unfold MH at hr; omega
  simp only[aiG,zt hi,aiB,aiw,if_true,aiL,zq (e:=(.pair .i64 (.pair .i64 (.pair .i64 (.pair (.pair .i64 (.pair .i64 (.pair (.pair .i64 (.pair .str (.sl 0 .i64))) .str))) (.pair (.sl 0 (.pair .i64 (.pair .i64 (.pair .i64 .i64)))) (.pair (.sl 0 (.pair .i64 (.pair .str (.sl 0 .i64)))) (.pair (.pair (.sl 0 .u8) .i64) (.sl 0 (.pair .i64 (.pair .i64 (.pair .i64 (.pair (.pair .str (.pair .i64 (.pair .str (.sl 0 .i64)))) (.pair (.pair .i64 (.pair .str (.sl 0 .i64))) (.pair (.pair .i64 (.pair .str (.sl 0 .i64))) (.pair .i64 (.pair .i64 (.pair .i64 (.pair .i64 .i64))))))))))))))))))) hx,Zp y hy,aiu,zr (show i<4611686018427387904 by omega),aiA,aiz];rw[if_pos (by omega)]
end G448
namespace G448
open Ev Go
theorem Ct {S X R:Type} (n:Nat) {G:(X->Option R)->X->Option R} (mk:Int->S->X) (I:Nat->S->Prop) (f:Nat->S->Option R) (hn:n<=1152921504606846976)
  (aa2:∀ rec s,I n s->G rec (mk (n:Int) s)=f n s)
  (X8:∀ rec (i:Nat) s,i<n->I i s->(G rec (mk (i:Int) s)=f i s)∨∃ s',I (i+1) s'/\G rec (mk (i:Int) s)=rec (mk ((i:Int)+1) s')/\f i s=f (i+1) s') {s0:S} (i0:Nat) (hi0:i0<=n) (h0:I i0 s0):
  iter G fuel (mk (i0:Int) s0)=f i0 s0:=by
 have key:∀ (m i:Nat) (s:S),i<=n->n - i<m->I i s->iter G m (mk (i:Int) s)=f i s:=by
  intro m;induction m with
  | zero=>intro i s h1 h2 h3; omega
  | succ m ih=>
   intro i s h1 h2 h3;rcases Nat.lt_or_ge i n with h|h
   ·rcases X8 (iter G m) i s h h3 with g|⟨s',g1,g2,g3⟩
    ·exact g
    ·rw[g3];have e1:iter G (m+1) (mk (i:Int) s)=iter G m (mk ((i:Int)+1) s'):=g2;rw[e1];exact ih (i+1) s' h (by omega) g1
   ·have hi:i=n:=by omega
    subst hi;exact aa2 (iter G m) s h3
 exact key fuel i0 s0 hi0 (by have:=YY hn; omega) h0
theorem walk {S X R:Type} (n:Nat) {G:(X->Option R)->X->Option R} (mk:Int->S->X) (I:Nat->S->Prop) (f:Nat->S->Option R) (hn:n<=1152921504606846976)
  (aa2:∀ rec s,I n s->G rec (mk (n:Int) s)=f n s)
  (X8:∀ rec (i:Nat) s,i<n->I i s->(G rec (mk (i:Int) s)=f i s)∨∃ s',I (i+1) s'/\G rec (mk (i:Int) s)=rec (mk ((i:Int)+1) s')/\f i s=f (i+1) s') {s0:S} (h0:I 0 s0):
  iter G fuel (mk 0 s0)=f 0 s0:=Ct n mk I f hn aa2 X8 0 (Nat.zero_le _) h0
def glue (u:List UInt8):List (List UInt8)->List (List UInt8)
 | p::r=>(u++p)::r
 | []=>[u]
def zQ (c:UInt8):List UInt8->List (List UInt8)
 | []=>[[]]
 | x::l=>if x=c then []::zQ c l else glue [x] (zQ c l)
theorem YD (c:UInt8):∀ s,zQ c s≠[]
 | []=>by simp[zQ]
 | x::l=>by
  simp only[zQ];split
  ·simp
  ·cases zQ c l<;>simp[glue]
theorem OB (u v:List UInt8) {l:List (List UInt8)} (h:l≠[]):glue u (glue v l)=glue (u++v) l:=by
 cases l with
 | nil=>exact absurd rfl h
 | cons p r=>simp[glue]
theorem sM {l:List (List UInt8)} (h:l≠[]):glue [] l=l:=by
 cases l with
 | nil=>exact absurd rfl h
 | cons p r=>simp[glue]
theorem nK (c:UInt8):∀ s,c∉s->zQ c s=[s]
 | [],_=>rfl
 | x::l,h=>by
  simp only[aiP,not_or] at h;simp only[zQ,if_neg (Ne.symm h.1),nK c l h.2,glue,List.singleton_append]
theorem xf (c:UInt8) (post:List UInt8):∀ pre,c∉pre->zQ c (pre++c::post)=pre::zQ c post
 | [],_=>by simp[zQ]
 | x::l,h=>by
  simp only[aiP,not_or] at h;simp only[ajA,zQ,if_neg (Ne.symm h.1),xf c post l h.2,glue,aiU]
theorem QU (c:UInt8):∀ s,(zQ c s).length<=s.length+1
 | []=>by simp[zQ]
 | x::l=>by
  have:=QU c l;simp only[zQ];split
  ·simp; omega
  ·cases hp:zQ c l with
   | nil=>simp[glue]
   | cons p r=>rw[hp] at this; simp[glue] at this ⊢; omega
def yD (c:UInt8):List UInt8->Option (List UInt8×List UInt8)
 | []=>none
 | x::l=>if x=c then some ([],l) else (yD c l).map λ p=>(x::p.1,p.2)
theorem rV (c:UInt8):∀ s,c∉s->yD c s=none
 | [],_=>rfl
 | x::l,h=>by
  simp only[aiP,not_or] at h;simp only[yD,if_neg (Ne.symm h.1),rV c l h.2,Option.map_none]
theorem qL (c:UInt8) (post:List UInt8):∀ pre,c∉pre->yD c (pre++c::post)=some (pre,post)
 | [],_=>by simp[yD]
 | x::l,h=>by
  simp only[aiP,not_or] at h;simp only[ajA,yD,if_neg (Ne.symm h.1),qL c post l h.2,aj9]
theorem kR (c:UInt8):∀ {s p q},yD c s=some (p,q)->p.length+q.length+1=s.length/\s=p++c::q
 | [],p,q,h=>by cases h
 | x::l,p,q,h=>by
  simp only[yD] at h;split at h
  ·next e=>cases h; subst e; simp
  ·obtain⟨⟨p',q'⟩,h1,h2⟩:=Option.map_eq_some_iff.1 h;cases h2;obtain⟨g1,g2⟩:=kR c h1;exact⟨by simp; omega,by rw[g2]; simp⟩
theorem rF (c:UInt8) (s:List UInt8):(c∉s/\Lib.indexByte s c = -1)∨∃ pre post,s=pre++c::post/\c∉pre/\Lib.indexByte s c=(pre.length:Int):=by
 rcases Int.lt_or_le (Lib.indexByte s c) 0 with h|h
 ·have e:Lib.indexByte s c = -1:=by
   have:=Lib.index_ge s [c];rw[Lib.index_one] at this;omega
  left;refine⟨λ hm => ?_,e⟩;obtain⟨k,hk⟩:=List.getElem?_of_mem hm;exact Lib.indexByte_none e k hk
 ·right;obtain⟨o,ho⟩:∃ o:Nat,Lib.indexByte s c=(o:Int):=⟨(Lib.indexByte s c).toNat,by omega⟩
  obtain⟨h1,h2⟩:=Lib.indexByte_some ho;have hlt:o<s.length:=by
   rcases Nat.lt_or_ge o s.length with h'|h'
   ·exact h'
   ·rw[aiX h'] at h1; cases h1
  refine⟨s.take o,s.drop (o+1),?_,?_,by rw[ho]; simp; omega⟩
  ·have e:s[o]=c:=by rw[ajk hlt] at h1; exact Option.some.inj h1
   rw[←e,←aiN hlt,ajP]
  ·intro hm;obtain⟨k,hk⟩:=List.getElem?_of_mem hm;rw[ajC] at hk;split at hk
   ·exact h2 k (by assumption) hk
   ·cases hk
theorem BW (c:UInt8):∀ (k:Nat) (s:List UInt8),s.count c<=k->Lib.splitK [c] 0 k s=zQ c s
 | 0,s,h=>by
  have:c∉s:=λ hm=>by have:=List.count_pos_iff.2 hm; omega
  rw[nK c s this]; rfl
 | k+1,s,h=>by
  unfold Lib.splitK;rw[Lib.index_one];rcases rF c s with⟨h1,h2⟩|⟨pre,post,rfl,h1,h2⟩
  ·rw[h2,nK c s h1]; rfl
  ·rw[h2,xf c post pre h1];have e:((pre.length:Int) == -1)=false:=by simp
   rw[e];have hd:(pre++c::post).drop ((pre.length:Int).toNat+[c].length)=post:=by
    rw[aiG,akz,←ajo]; simp
   have ht:(pre++c::post).take ((pre.length:Int).toNat+0)=pre:=by simp
   simp only[aiT,if_false];rw[hd,ht,BW c k post (by simp[List.count_append,List.count_cons] at h; omega)]
theorem Rw (c:UInt8) (s:List UInt8):Lib.split s [c]=zQ c s:=by
 unfold Lib.split;refine BW c _ s ?_;rw[Lib.count_one];exact Nat.le_refl _
theorem Rv (c:UInt8) (s:List UInt8):Lib.cut s [c]=match yD c s with|some p=>(p.1,p.2,true)|none=>(s,[],false):=by
 unfold Lib.cut;rw[Lib.index_one];rcases rF c s with⟨h1,h2⟩|⟨pre,post,rfl,h1,h2⟩
 ·rw[h2,rV c s h1,if_neg (by decide)]
 ·rw[h2,qL c post pre h1,if_pos (by omega)];have hd:(pre++c::post).drop ((pre.length:Int).toNat+[c].length)=post:=by
   rw[aiG,akz,←ajo]; simp
  have ht:(pre++c::post).take ((pre.length:Int).toNat)=pre:=by simp
  rw[hd,ht]
theorem cn {s:List UInt8} {i:Nat} {x:UInt8} (h:s[i]?=some x):s.getD i 0=x:=by rw[aja,h]; rfl
theorem Vw {s:List UInt8} {start i:Nat} (h:start<=i) (hi:i<s.length):(s.drop start).take (i+1 - start)=(s.drop start).take (i - start)++[s[i]]:=by
 rw[show i+1 - start=(i - start)+1 by omega,ajZ];congr 1;rw[ajL,show start+(i - start)=i by omega,ajk hi]; rfl
theorem BF (s:List UInt8) (c:UInt8) (hs:s.length<=137438953472):aQ (s,c,())=some (zQ c s,()):=by
 unfold aQ;dsimp only;refine (walk (s.length+1) (λ i (t:List (List UInt8)×Nat)=>(t.1,(t.2:Int),i,())) (λ i t=>t.2<=i/\t.1.length<=i)
  (λ i t=>some (if i<=s.length then t.1++glue ((s.drop t.2).take (i - t.2)) (zQ c (s.drop i)) else t.1,())) (by omega) ?_ ?_ (s0:=([],0)) ⟨Nat.le_refl _,Nat.zero_le _⟩).trans ?_
 ·intro rec t ht;have:¬ (((s.length+1:Nat):Int)<=(s.length:Int)):=by omega
  simp only[this,aiD,aiv];rw[if_neg (by omega)]
 ·intro rec i t hi ht;right;obtain⟨h1,h2⟩:=ht;have g:((i:Int)<=(s.length:Int)):=by omega
  by_cases he:i=s.length
  ·subst he;refine⟨(t.1++[(s.drop t.2).take (s.length - t.2)],s.length+1),⟨Nat.le_refl _,by simp; omega⟩,?_,?_⟩
   ·simp only[g,aiB,aiw,beq_self_eq_true,aiG,zr (show s.length<4611686018427387904 by omega),aiA,aiz];rw[if_pos (by first|omega|(simp only[true_and,and_true]; omega)),if_pos (by first|omega|(simp only[true_and,and_true]; omega))]
    rfl
   ·rw[if_pos (ajj _),if_neg (by omega)]; simp[zQ,glue]
  ·have hlt:i<s.length:=by omega
   have hx:s[i]?=some s[i]:=List.getElem?_eq_getElem hlt;have e1:((i:Int)==(s.length:Int))=false:=by simp; omega
   have g2:(0:Int)<=(i:Int)/\(i:Int)<(s.length:Int):=by omega
   simp only[g,aiB,aiw,e1,aiv,g2,aiL,if_true,aiG,cn hx,zr (show i<4611686018427387904 by omega),aiA,aiz];by_cases hc:s[i]=c
   ·refine⟨(t.1++[(s.drop t.2).take (i - t.2)],i+1),⟨Nat.le_refl _,by simp; omega⟩,?_,?_⟩
    ·have:(s[i]==c)=true:=by simp[hc]
     simp only[this,aiw];rw[if_pos (by first|omega|(simp only[true_and,and_true]; omega)),if_pos (by first|omega|(simp only[true_and,and_true]; omega))]
     rfl
    ·rw[if_pos (by omega),if_pos (by omega),aiN hlt,zQ,if_pos hc];simp only[Nat.sub_self,List.take_zero,sM (YD _ _)];simp[glue]
   ·refine⟨t,⟨by omega,by omega⟩,?_,?_⟩
    ·have:(s[i]==c)=false:=by simp[hc]
     simp only[this,aiv]
    ·rw[if_pos (by omega),if_pos (by omega),Vw h1 hlt,aiN hlt,zQ,if_neg hc,OB _ _ (YD _ _)]
 ·simp[sM (YD _ _)]
theorem s8 (s:List UInt8) (c:UInt8) (hs:s.length<=1073741824):Qb (s,c,())=some (zQ c s,()):=by
 unfold Qb strings_Split;dsimp only;rw[if_pos ⟨by omega,by simp⟩,Rw]; rfl
theorem W2 (s:List UInt8) (c:UInt8) (hs:s.length<=137438953472):
  Lu (s,c,())=match yD c s with|some p=>some (p.1,p.2,true,())|none=>some ([],[],false,()):=by
 unfold Lu;dsimp only;refine (walk s.length (λ i (_:Unit)=>(i,())) (λ _ _=>True) (λ i _=>match yD c (s.drop i) with|some p=>some (s.take i++p.1,p.2,true,())|none=>some ([],[],false,())) (by omega) ?_ ?_ (s0:=()) trivial).trans ?_
 ·intro rec t ht;simp[yD]
 ·intro rec i t hi ht;have hx:s[i]?=some s[i]:=List.getElem?_eq_getElem hi;simp only[zt hi,aiB,aiw,aiL,if_true,aiG,cn hx,zr (show i<4611686018427387904 by omega)];rw[aiN hi];by_cases hc:s[i]=c
  ·left;have:(s[i]==c)=true:=by simp[hc]
   simp only[this,aiw];rw[if_pos (by first|omega|(simp only[true_and,and_true]; omega)),if_pos (by first|omega|(simp only[true_and,and_true]; omega))]
   simp only[yD,if_pos hc];congr 2
   ·simp
   ·congr 1;have:(((i:Int)+1).toNat)=i+1:=by omega
    rw[this,ajM (by simp)]
  ·right;have:(s[i]==c)=false:=by simp[hc]
   refine⟨(),trivial,by simp only[this,aiv],?_⟩;simp only[yD,if_neg hc];rw[ajZ,hx];cases yD c (s.drop (i+1)) with
   | none=>rfl
   | some p=>simp only[aj9,Option.toList_some,ajd,List.singleton_append]
 ·simp
theorem Yh (x lo hi:Int):yl (x,lo,hi,())=some (decide (x≥lo) && decide (x<=hi),()):=by
 unfold yl;by_cases h:x≥lo<;>simp[h]
theorem LV (x lo hi:Int):jz (x,lo,hi,())=some (decide (x≥lo) && decide (x<=hi),()):=by
 unfold jz;by_cases h:x≥lo<;>simp[h]
theorem Xm (u:Nat):y0 (48+((u % 10:Nat):Int))=UInt8.ofNat (48+u % 10):=by
 rw[Cb];congr 1;omega
theorem Mj (u:Nat) (h:u<=9223372036854775807):Jg ((u:Int),())=some (Lib.decDigits u,()):=by
 unfold Jg;dsimp only;by_cases h0:u=0
 ·subst h0;have:Lib.decDigits 0=[48]:=by rw[Lib.decDigits]; rfl
  rw[this];rfl
 have e0:((u:Int)==0)=false:=by simp; omega
 have en:¬ ((u:Int)<0):=by omega
 simp only[e0,aiv,en,aiD];refine (Qm (λ x:Int×List UInt8×Unit=>some ((if x.1=0 then [] else Lib.decDigits x.1.toNat)++x.2.1,())) (λ x=>x.1.toNat)
  (λ x=>0<=x.1/\x.1<=9223372036854775807/\∃ k,x.1.toNat<10 ^ k/\k+x.2.1.length<=20) ?_ fuel ((u:Int),[],()) ⟨by simp,by simp only; omega,20,by
   simp only[aiG];exact Nat.lt_of_le_of_lt h (by decide),by simp⟩ (by simp only[aiG,jd]; omega)).trans ?_
 ·rintro rec ⟨v,out,⟨⟩⟩ ⟨h1,aal,k,h2,h3⟩ XW;obtain⟨n,rfl⟩:∃ n:Nat,v=(n:Int):=⟨v.toNat,by simp only at h1; omega⟩
  simp only[aiG] at h2;by_cases hn:n=0
  ·subst hn;simp
  have e1:((n:Int) != 0)=true:=by simp; omega
  have e2:Int.tmod (n:Int) 10=((n % 10:Nat):Int):=by simp[Int.tmod]
  have e3:Int.tdiv (n:Int) 10=((n / 10:Nat):Int):=by simp[Int.tdiv]
  have e4:¬ (((n % 10:Nat):Int)<0):=by omega
  simp only at aal h3;have hk:1<=k:=by
   rcases Nat.eq_zero_or_pos k with h'|h'
   ·subst h'; simp at h2; omega
   ·exact h'
  simp only[e1,aiw,e2,e3,e4,aiD,aiv];rw[zg (show (-9223372036854775808:Int)<=48+((n % 10:Nat):Int) by omega) (show 48+((n % 10:Nat):Int)<=9223372036854775807 by omega),Xm,
   zg (show (-9223372036854775808:Int)<=((n / 10:Nat):Int) by omega) (show ((n / 10:Nat):Int)<=9223372036854775807 by omega)]
  rw[if_pos (by simp only[aiA,aiz]; omega)]
  rw[XW (((n / 10:Nat):Int),[UInt8.ofNat (48+n % 10)]++out,()) ⟨by simp only; omega,by simp only; omega,k - 1,by
   simp only[aiG];have:10 ^ k=10 ^ (k - 1)*10:=by rw[←ajQ]; congr 1; omega
   omega,by simp only[aiE,aiA,aiz]; omega⟩ (by simp only[aiG]; omega)]
  simp only[aiG];rw[if_neg (show ¬ ((n:Int)=0) by omega)];by_cases h10:n<10
  ·have:n / 10=0:=by omega
   rw[this,if_pos (by rfl),Lib.decDigits,dif_pos h10];have:n % 10=n:=by omega
   rw[this]; rfl
  ·rw[if_neg (by omega)]
   conv=>rhs; rw[Lib.decDigits,dif_neg h10]
   simp
 ·simp only[aiG];rw[if_neg (by omega)]; simp
theorem OK (n:Int):J2 (n,())=some (Lib.itoa n,()):=rfl
theorem qU (u:Nat):J2 ((u:Int),())=some (Lib.decDigits u,()):=by
 rw[OK,Lib.itoa,if_neg (by omega)]; simp
def jX (b:UInt8):Bool := !(decide (b<UInt8.ofNat 48)) && !(decide (b>UInt8.ofNat 57))
def j4 (l:List UInt8) (v:Nat):Nat:=l.foldl (λ v b=>10*v+(b.toNat - 48)) v
def zv (s:List UInt8):Int×Bool:=
 if 1<=s.length/\s.length<=6/\s.all jX=true/\Lib.decDigits (j4 s 0)=s then ((j4 s 0:Nat),true) else (0,false)
theorem Qk (b:UInt8):jX b=true↔48<=b.toNat/\b.toNat<=57:=by
 unfold jX;simp only[aix,aj1,ajJ,UInt8.lt_iff_toNat_lt,gt_iff_lt];simp
theorem nM {i:Nat} (h:i<=6):10 ^ i<=1000000:=Nat.pow_le_pow_right (n:=10) (by decide) h
theorem ut {dig:Int×Unit->Option (List UInt8×Unit)} (hd:∀ u:Nat,u<=9223372036854775807->dig ((u:Int),())=some (Lib.decDigits u,())) (s:List UInt8) (h6:s.length<=6) {G:(Int×Int×Unit->Option (Int×Bool×Unit))->Int×Int×Unit->Option (Int×Bool×Unit)}
  (aa2:∀ rec (v:Int),G rec (v,(s.length:Int),())=(dig (v,())).bind λ r1=>bif r1.1 != s then some (0,false,()) else some (v,true,()))
  (X8:∀ rec (i v:Nat) (b:UInt8),s[i]?=some b->i<s.length->v<10 ^ i->G rec ((v:Int),(i:Int),())=if jX b=true then rec (((10*v+(b.toNat - 48):Nat):Int),(i:Int)+1,()) else some (0,false,())):
  iter G fuel (0,0,())=some (if s.all jX=true/\Lib.decDigits (j4 s 0)=s then (((j4 s 0:Nat):Int),true,()) else (0,false,())):=by
 refine (walk s.length (λ i (v:Nat)=>((v:Int),i,())) (λ i v=>v<10 ^ i)
  (λ i v=>some (if (s.drop i).all jX=true/\Lib.decDigits (j4 (s.drop i) v)=s then (((j4 (s.drop i) v:Nat):Int),true,()) else (0,false,()))) (by omega) ?_ ?_ (s0:=0) (by decide)).trans (by simp)
 ·intro rec v hv;have:=nM h6;rw[aa2,hd v (by omega)];simp only[aiu,aj5,List.all_nil,j4,List.foldl_nil,true_and];by_cases e:Lib.decDigits v=s
  ·have:(Lib.decDigits v != s)=false:=by simp[e]
   rw[if_pos e,this]; rfl
  ·have:(Lib.decDigits v != s)=true:=by simp[e]
   rw[if_neg e,this]; rfl
 ·intro rec i v hi hv;have hx:s[i]?=some s[i]:=List.getElem?_eq_getElem hi;rw[X8 rec i v s[i] hx hi hv,List.drop_eq_getElem_cons hi];by_cases hb:jX s[i]=true
  ·right;refine⟨10*v+(s[i].toNat - 48),?_,by rw[if_pos hb],?_⟩
   ·have:=(Qk _).1 hb;rw[ajQ]; omega
   ·have e:j4 (s[i]::List.drop (i+1) s) v=j4 (List.drop (i+1) s) (10*v+(s[i].toNat - 48)):=rfl;rw[aj3,hb,aiS,e]
  ·left;rw[if_neg hb,if_neg (λ h=>hb (by have:=h.1; rw[aj3,aix] at this; exact this.1))]
theorem rR {α:Type} (b:UInt8) (x y:α):(bif decide (b<UInt8.ofNat (Int.toNat 48)) then y else bif decide (b>UInt8.ofNat (Int.toNat 57)) then y else x)=if jX b=true then x else y:=by
 unfold jX;simp only[show Int.toNat 48=48 from rfl,show Int.toNat 57=57 from rfl];cases decide (b<UInt8.ofNat 48)<;>cases decide (b>UInt8.ofNat 57)<;>simp
theorem dF (s:List UInt8) (h:¬ (1<=s.length/\s.length<=6)):zv s=(0,false):=by
 unfold zv;rw[if_neg (λ hh=>h ⟨hh.1,hh.2.1⟩)]
theorem ur (s:List UInt8) (h:1<=s.length/\s.length<=6):
  (some (if s.all jX=true/\Lib.decDigits (j4 s 0)=s then (((j4 s 0:Nat):Int),true,()) else (0,false,())):Option (Int×Bool×Unit))=some ((zv s).1,(zv s).2,()):=by
 unfold zv;by_cases hc:s.all jX=true/\Lib.decDigits (j4 s 0)=s
 ·rw[if_pos hc,if_pos ⟨h.1,h.2,hc⟩]
 ·rw[if_neg hc,if_neg (λ hh=>hc hh.2.2)]
theorem BB (s:List UInt8):Lp (s,())=some ((zv s).1,(zv s).2,()):=by
 unfold Lp;dsimp only;by_cases h1:(s.length:Int)<1
 ·rw[dF s (by omega)]; simp only[h1,aiB,aiw]
 by_cases h6:(s.length:Int)>6
 ·rw[dF s (by omega)]; simp only[h1,aiD,aiv,h6,aiB,aiw]
 simp only[h1,aiD,aiv,h6];refine (ut (dig:=Jg) Mj s (by omega) ?_ ?_).trans (ur s (by omega))
 ·intro rec v; simp
 ·intro rec i v b hx hi hv;have hp:=nM (i:=i) (by omega);simp only[zt hi,aiB,aiw,aiL,if_true,aiG,cn hx,zr (show i<4611686018427387904 by omega)];rw[rR];by_cases hb:jX b=true
  ·have:=(Qk _).1 hb;rw[if_pos hb,if_pos hb,zg (n:=10*(v:Int)) (by omega) (by omega),zg (n:=10*(v:Int)+_) (by omega) (by omega),zg (by omega) (by omega)];congr 2;omega
  ·rw[if_neg hb,if_neg hb]
theorem sX (s:List UInt8):qW (s,())=some ((zv s).1,(zv s).2,()):=by
 unfold qW;dsimp only;by_cases h1:(s.length:Int)<1
 ·rw[dF s (by omega)]; simp only[h1,aiB,aiw]
 by_cases h6:(s.length:Int)>6
 ·rw[dF s (by omega)]; simp only[h1,aiD,aiv,h6,aiB,aiw]
 simp only[h1,aiD,aiv,h6];refine (ut (dig:=J2) (λ u _=>qU u) s (by omega) ?_ ?_).trans (ur s (by omega))
 ·intro rec v; simp
 ·intro rec i v b hx hi hv;have hp:=nM (i:=i) (by omega);simp only[zt hi,aiB,aiw,aiL,if_true,aiG,cn hx,zr (show i<4611686018427387904 by omega)];rw[rR];by_cases hb:jX b=true
  ·have:=(Qk _).1 hb;have aaY:(b - UInt8.ofNat (Int.toNat 48)).toNat=b.toNat - 48:=by
    rw[UInt8.toNat_sub_of_le]
    ·rfl
    ·rw[UInt8.le_iff_toNat_le]; exact this.1
   rw[if_pos hb,if_pos hb,aaY,zg (n:=10*(v:Int)) (by omega) (by omega),zg (by omega) (by omega)];congr 2
  ·rw[if_neg hb,if_neg hb]
theorem R5 (l:List UInt8) (b:UInt8) (v:Nat):j4 (l++[b]) v=10*j4 l v+(b.toNat - 48):=by simp[j4]
theorem b8 {u:Nat} (h:u<10):(UInt8.ofNat (48+u)).toNat=48+u:=by
 rw[UInt8.toNat_ofNat']; omega
theorem rW:∀ u:Nat,(Lib.decDigits u).all jX=true/\j4 (Lib.decDigits u) 0=u:=by
 intro u;induction u using Nat.strongRecOn with
 | _ u ih=>
  by_cases h:u<10
  ·rw[Lib.decDigits,dif_pos h];have hd:jX (UInt8.ofNat (48+u))=true:=(Qk _).2 (by rw[b8 h]; omega)
   refine⟨by rw[aj3,hd]; rfl,?_⟩
   simp only[j4,ajf,List.foldl_nil];rw[b8 h]; omega
  ·rw[Lib.decDigits,dif_neg h];obtain⟨h1,h2⟩:=ih (u / 10) (by omega);have hd:jX (UInt8.ofNat (48+u % 10))=true:=(Qk _).2 (by rw[b8 (by omega)]; omega)
   refine⟨by rw[List.all_append,h1,aj3,hd]; rfl,?_⟩
   rw[R5,h2,b8 (by omega)]; omega
theorem rX (u:Nat) (h:u<1000000):1<=(Lib.decDigits u).length/\(Lib.decDigits u).length<=6:=by
 rw[Lib.decDigits_length];refine⟨Lib.nDigits_pos u,?_⟩;have key:∀ k u:Nat,u<10 ^ (k+1)->Lib.nDigits u<=k+1:=by
  intro k;induction k with
  | zero=>intro u h; rw[Lib.nDigits_small (by simpa using h)]; exact Nat.le_refl _
  | succ k ih=>
   intro u h;by_cases hu:u<10
   ·rw[Lib.nDigits_small hu]; omega
   ·rw[Lib.nDigits_big hu];have:=ih (u / 10) (by rw[ajQ] at h; omega)
    omega
 exact key 5 u (by simpa using h)
theorem dE (u:Nat) (h:u<1000000):zv (Lib.decDigits u)=((u:Int),true):=by
 obtain⟨h1,h2⟩:=rW u;obtain⟨h3,h4⟩:=rX u h;unfold zv;rw[if_pos ⟨h3,h4,h1,by rw[h2]⟩,h2]
theorem kS {u:Nat} {c:UInt8} (hc:jX c=false):c∉Lib.decDigits u:=by
 intro hm;have:=List.all_eq_true.1 (rW u).1 c hm;rw[hc] at this; cases this
def zN (t:zP):Bool:=(decide (t.1≥0) && decide (t.1<=3)) && ((decide (t.2.1≥0) && decide (t.2.1<=3)) && ((decide (t.2.2.1≥0) && decide (t.2.2.1<=1000)) && (decide (t.2.2.2≥0) && decide (t.2.2.2<=99))))
theorem qw (t:zP):zN t=true↔(0<=t.1/\t.1<=3)/\(0<=t.2.1/\t.2.1<=3)/\(0<=t.2.2.1/\t.2.2.1<=1000)/\(0<=t.2.2.2/\t.2.2.2<=99):=by
 unfold zN; simp only[aix,aiI,ge_iff_le]
theorem Mr (t:zP):Kw (t,())=some (zN t,()):=by
 unfold Kw zN;simp only[Yh,aiu];cases (decide (t.1≥0) && decide (t.1<=3))<;>cases (decide (t.2.1≥0) && decide (t.2.1<=3))<;>cases (decide (t.2.2.1≥0) && decide (t.2.2.1<=1000))<;>rfl
theorem Qf (t:zP):K0 (t,())=some (zN t,()):=by
 unfold K0 zN;simp only[LV,aiu];cases (decide (t.1≥0) && decide (t.1<=3))<;>cases (decide (t.2.1≥0) && decide (t.2.1<=3))<;>cases (decide (t.2.2.1≥0) && decide (t.2.2.1<=1000))<;>rfl
def yI (t:zP):List UInt8:=
 if zN t=true then (((((Lib.decDigits t.1.toNat++[62])++Lib.decDigits t.2.1.toNat)++[58])++Lib.decDigits t.2.2.1.toNat)++[35])++Lib.decDigits t.2.2.2.toNat else []
theorem dl (u:Nat) (h:u<1000000):(Lib.decDigits u).length<=6:=(rX u h).2
theorem gV (t:zP):(yI t).length<=27:=by
 unfold yI;split
 ·next h=>
  have:=(qw t).1 h;have h1:=dl t.1.toNat (by omega);have h2:=dl t.2.1.toNat (by omega);have h3:=dl t.2.2.1.toNat (by omega);have h4:=dl t.2.2.2.toNat (by omega);simp only[aiE,aiA,aiz];omega
 ·simp
theorem BH (t:zP):qb (t,())=some (yI t,()):=by
 unfold qb yI;simp only[Mr,aiu];by_cases h:zN t=true
 ·have hh:=(qw t).1 h;have d1:=Mj t.1.toNat (by omega);have d2:=Mj t.2.1.toNat (by omega);have d3:=Mj t.2.2.1.toNat (by omega);have d4:=Mj t.2.2.2.toNat (by omega);rw[akf (by omega)] at d1 d2 d3 d4;have h1:=dl t.1.toNat (by omega);have h2:=dl t.2.1.toNat (by omega);have h3:=dl t.2.2.1.toNat (by omega);have h4:=dl t.2.2.2.toNat (by omega);simp only[h,aiC,aiv,d1,d2,d3,d4,aiu,aiE,aiA,aiz,if_true];rw[if_pos (by omega),if_pos (by omega),if_pos (by omega),if_pos (by omega),if_pos (by omega),if_pos (by omega)]
 ·have:zN t=false:=by simpa using h
  simp[this]
theorem O0 (t:zP):Qg (t,())=some (yI t,()):=by
 unfold Qg yI;simp only[Qf,aiu];by_cases h:zN t=true
 ·have hh:=(qw t).1 h;have d1:=qU t.1.toNat;have d2:=qU t.2.1.toNat;have d3:=qU t.2.2.1.toNat;have d4:=qU t.2.2.2.toNat;rw[akf (by omega)] at d1 d2 d3 d4;have h1:=dl t.1.toNat (by omega);have h2:=dl t.2.1.toNat (by omega);have h3:=dl t.2.2.1.toNat (by omega);have h4:=dl t.2.2.2.toNat (by omega);simp only[h,aiC,aiv,d1,d2,d3,d4,aiu,aiE,aiA,aiz,if_true];rw[if_pos (by omega),if_pos (by omega),if_pos (by omega),if_pos (by omega),if_pos (by omega),if_pos (by omega)]
 ·have:zN t=false:=by simpa using h
  simp[this]
def zR (c:UInt8) (s d:List UInt8):List UInt8×List UInt8:=match yD c s with|some p=>p|none=>(d,[])
def ZE (s:List UInt8):zP:=
 let p:=zR 62 s []
 let q:=zR 58 p.2 []
 let r:=zR 35 q.2 []
 ((zv p.1).1,(zv q.1).1,(zv r.1).1,(zv r.2).1)
def Yx (s:List UInt8):zP:=
 let p:=zR 62 s s
 let q:=zR 58 p.2 p.2
 let r:=zR 35 q.2 q.2
 ((zv p.1).1,(zv q.1).1,(zv r.1).1,(zv r.2).1)
theorem Cd {t:zP} (h:zN t=true) (d1 d2 d3:List UInt8->List UInt8):
  let p:=zR 62 (yI t) (d1 (yI t))
  let q:=zR 58 p.2 (d2 p.2)
  let r:=zR 35 q.2 (d3 q.2)
  ((zv p.1).1,(zv q.1).1,(zv r.1).1,(zv r.2).1)=t:=by
 have hh:=(qw t).1 h;have e1:yD 62 (yI t)=some (Lib.decDigits t.1.toNat,Lib.decDigits t.2.1.toNat++58::(Lib.decDigits t.2.2.1.toNat++35::Lib.decDigits t.2.2.2.toNat)):=by
  unfold yI;rw[if_pos h];have:=qL 62 (Lib.decDigits t.2.1.toNat++58::(Lib.decDigits t.2.2.1.toNat++35::Lib.decDigits t.2.2.2.toNat)) (Lib.decDigits t.1.toNat) (kS (by decide));rw[←this];congr 1;simp
 have e2:=qL 58 (Lib.decDigits t.2.2.1.toNat++35::Lib.decDigits t.2.2.2.toNat) (Lib.decDigits t.2.1.toNat) (kS (by decide));have e3:=qL 35 (Lib.decDigits t.2.2.2.toNat) (Lib.decDigits t.2.2.1.toNat) (kS (by decide));simp only[zR,e1,e2,e3,dE _ (show t.1.toNat<1000000 by omega),dE _ (show t.2.1.toNat<1000000 by omega),dE _ (show t.2.2.1.toNat<1000000 by omega),dE _ (show t.2.2.2.toNat<1000000 by omega)];obtain⟨a,b,c,d⟩:=t;simp only at hh;simp only[aiF];omega
def Zb (s:List UInt8):zP×Bool:=if zN (ZE s)=true/\yI (ZE s)=s then (ZE s,true) else ((0,0,0,0),false)
theorem Xr (s:List UInt8):Zb s=if zN (Yx s)=true/\yI (Yx s)=s then (Yx s,true) else ((0,0,0,0),false):=by
 unfold Zb;by_cases h1:zN (ZE s)=true/\yI (ZE s)=s
 ·have e:Yx s=ZE s:=by
   have:=Cd h1.1 (λ x=>x) (λ x=>x) (λ x=>x);rw[h1.2] at this;exact this
  rw[if_pos h1,e,if_pos h1]
 ·rw[if_neg h1,if_neg];intro h2;have e:ZE s=Yx s:=by
   have:=Cd h2.1 (λ x=>[]) (λ x=>[]) (λ x=>[]);rw[h2.2] at this;exact this
  exact h1 (by rw[e]; exact h2)
theorem c9 (s:List UInt8) (c:UInt8) (hs:s.length<=137438953472):Lu (s,c,())=some ((zR c s []).1,(zR c s []).2,(yD c s).isSome,()):=by
 rw[W2 s c hs];unfold zR;cases yD c s<;>rfl
theorem LJ (c:UInt8) (s d:List UInt8) (hd:d.length<=s.length):(zR c s d).1.length<=s.length/\(zR c s d).2.length<=s.length:=by
 unfold zR;cases h:yD c s with
 | none=>exact⟨hd,by simp⟩
 | some p=>
  have:=(kR c (p:=p.1) (q:=p.2) h).1;simp only;omega
theorem Xv {t:zP} (h:¬ zN t=true):yI t=[]:=by unfold yI; rw[if_neg h]
theorem Xu {t:zP} (h:zN t=true):yI t≠[]:=by unfold yI; rw[if_pos h]; simp
theorem WO (s:List UInt8) (hs:s.length<=137438953472):aW (s,())=some ((Zb s).1,(Zb s).2,()):=by
 have l1:=LJ 62 s [] (by simp);have l2:=LJ 58 (zR 62 s []).2 [] (by simp);have l3:=LJ 35 (zR 58 (zR 62 s []).2 []).2 [] (by simp);unfold aW;simp only[show UInt8.ofNat (Int.toNat 62)=62 from rfl,show UInt8.ofNat (Int.toNat 58)=58 from rfl,show UInt8.ofNat (Int.toNat 35)=35 from rfl,
  c9 s 62 hs,c9 (zR 62 s []).2 58 (by omega),c9 (zR 58 (zR 62 s []).2 []).2 35 (by omega),BB,BH,Option.bind_some]
 by_cases h0:s=[]
 ·subst h0;have:¬ (zN (ZE [])=true/\yI (ZE [])=[]):=λ h=>Xu h.1 h.2;unfold Zb;rw[if_neg this];simp
 ·have e0:(s==[])=false:=by simp[h0]
  simp only[e0,aiv];unfold Zb;have ef:((zv (zR 62 s []).1).1,(zv (zR 58 (zR 62 s []).2 []).1).1,(zv (zR 35 (zR 58 (zR 62 s []).2 []).2 []).1).1,(zv (zR 35 (zR 58 (zR 62 s []).2 []).2 []).2).1)=ZE s:=rfl;rw[ef];by_cases h:yI (ZE s)=s
  ·have XX:zN (ZE s)=true:=by
    by_cases hk:zN (ZE s)=true
    ·exact hk
    ·rw[Xv hk] at h; exact absurd h.symm h0
   have e1:(yI (ZE s) != s)=false:=by simp[h]
   rw[if_pos ⟨XX,h⟩,e1]; rfl
  ·have e1:(yI (ZE s) != s)=true:=by simp[h]
   rw[if_neg (λ hh=>h hh.2),e1]; rfl
theorem gS (s:List UInt8) (c:UInt8) (hs:s.length<=1073741824):strings_Cut (s,[c],())=some ((zR c s s).1,(zR c s s).2,(yD c s).isSome,()):=by
 unfold strings_Cut;dsimp only;rw[if_pos (by omega),Rv];unfold zR;cases yD c s<;>rfl
theorem OZ (s:List UInt8) (hs:s.length<=1073741824):Qe (s,())=some ((Zb s).1,(Zb s).2,()):=by
 have l1:=LJ 62 s s (Nat.le_refl _);have l2:=LJ 58 (zR 62 s s).2 (zR 62 s s).2 (Nat.le_refl _);rw[Xr];unfold Qe;simp only[gS s 62 hs,gS (zR 62 s s).2 58 (by omega),gS (zR 58 (zR 62 s s).2 (zR 62 s s).2).2 35 (by omega),aiu];generalize hp:zR 62 s s=p;generalize hq:zR 58 p.2 p.2=q;generalize hr:zR 35 q.2 q.2=r;have ef:Yx s=((zv p.1).1,(zv q.1).1,(zv r.1).1,(zv r.2).1):=by
  unfold Yx; simp only[hp,hq,hr]
 refine (Ou [p.1,q.1,r.1,r.2] (λ x=>(zv x).1) (λ out=>(K0 ((rd .i64 out 0,rd .i64 out 1,rd .i64 out 2,rd .i64 out 3),())).bind λ r5=>bif (!r5.1) then some ((0,0,0,0),false,()) else
   (Qg ((rd .i64 out 0,rd .i64 out 1,rd .i64 out 2,rd .i64 out 3),())).bind λ r6=>bif (r6.1 != s) then some ((0,0,0,0),false,()) else some ((rd .i64 out 0,rd .i64 out 1,rd .i64 out 2,rd .i64 out 3),true,())) (by simp) ?_ ?_ _ (by simp)).trans ?_
 ·intro rec out ho;have ho:out.length=4:=ho;simp[ho]
 ·intro rec i out y hx hi ho;have ho:out.length=4:=ho;have hi':i<4:=hi;simp only[aiG,ho,zt hi,aiB,aiw,if_true,aiL,zq (e:=.str) hx,sX y,aiu,zr (show i<4611686018427387904 by omega)];rw[if_pos ⟨trivial,by omega⟩]
 ·simp only[aiO,ajc,rd,akC,List.getD_cons_succ];rw[←ef,Qf,O0];simp only[aiu];by_cases h:zN (Yx s)=true
  ·by_cases h2:yI (Yx s)=s
   ·have e1:(yI (Yx s) != s)=false:=by simp[h2]
    rw[if_pos ⟨h,h2⟩,e1,h]; rfl
   ·have e1:(yI (Yx s) != s)=true:=by simp[h2]
    rw[if_neg (λ hh=>h2 hh.2),e1,h]; rfl
  ·have:zN (Yx s)=false:=by simpa using h
   rw[if_neg (λ hh=>h hh.1),this]; rfl
def Yj:List (List UInt8)->List zP->List zP×Bool
 | [],out=>(out,true)
 | p::ps,out=>if (Zb p).2=true then Yj ps (out++[(Zb p).1]) else ([],false)
def ja (s:List UInt8):List zP×Bool:=if s=[] then ([],true) else Yj (zQ 44 s) []
theorem L5 (c:UInt8):∀ {s p:List UInt8},p∈zQ c s->p.length<=s.length
 | [],p,h=>by simp[zQ] at h; simp[h]
 | x::l,p,h=>by
  simp only[zQ] at h;split at h
  ·rcases List.mem_cons.1 h with rfl|h
   ·simp
   ·have:=L5 c h; simp; omega
  ·cases hp:zQ c l with
   | nil=>rw[hp] at h; simp[glue] at h; simp[h]
   | cons q r=>
    rw[hp] at h;simp only[glue,aiP] at h;rcases h with rfl|h
    ·have:=L5 c (s:=l) (p:=q) (by rw[hp]; simp); simp; omega
    ·have:=L5 c (s:=l) (p:=p) (by rw[hp]; simp[h]); simp; omega
theorem Ci {tx:List UInt8×Unit->Option (zP×Bool×Unit)} (ps:List (List UInt8)) (hl:ps.length<=137438953473) (htx:∀ p∈ps,tx (p,())=some ((Zb p).1,(Zb p).2,()))
  {G:(List zP×Int×Unit->Option (List zP×Bool×Unit))->List zP×Int×Unit->Option (List zP×Bool×Unit)}
  (hG:∀ rec out (i:Int),G rec (out,i,())=bif decide (i<(ps.length:Int)) then (if 0<=i/\i<(ps.length:Int) then (tx (rd .str ps i.toNat,())).bind λ r2=>bif !r2.2.1 then some ([],false,()) else
   (if (out.length+[r2.1].length)*32<=70368744177664 then rec (out++[r2.1],wr (i+1),()) else none) else none) else some (out,true,())):
  iter G fuel ([],0,())=some ((Yj ps []).1,(Yj ps []).2,()):=by
 refine (walk ps.length (λ i (out:List zP)=>(out,i,())) (λ i out=>out.length=i) (λ i out=>some ((Yj (ps.drop i) out).1,(Yj (ps.drop i) out).2,())) (by omega) ?_ ?_ (s0:=[]) rfl).trans (by simp)
 ·intro rec out ho;rw[hG]; simp[Yj]
 ·intro rec i out hi ho;have hx:ps[i]?=some ps[i]:=List.getElem?_eq_getElem hi;rw[hG];simp only[zt hi,decide_true,cond_true,and_self,if_true,Int.toNat_natCast,zq (e:=.str) hx,htx ps[i] (List.getElem_mem hi),Option.bind_some,zr (show i<4611686018427387904 by omega),List.length_cons,List.length_nil];rw[aiN hi];by_cases h:(Zb ps[i]).2=true
  ·right;refine⟨out++[(Zb ps[i]).1],by simp[ho],?_,?_⟩
   ·rw[h]; simp only[aiC,aiv]; rw[if_pos (by omega)]
   ·simp only[Yj,h,if_true]
  ·left;have h':(Zb ps[i]).2=false:=by simpa using h
   simp[Yj,h']
theorem WP (s:List UInt8) (hs:s.length<=137438953472):f6 (s,())=some ((ja s).1,(ja s).2,()):=by
 unfold f6 ja;by_cases h0:s=[]
 ·subst h0; rfl
 ·have e0:(s==[])=false:=by simp[h0]
  rw[if_neg h0];simp only[e0,aiv,show UInt8.ofNat (Int.toNat 44)=44 from rfl,BF s 44 hs,aiu];have hp:=QU 44 s;refine Ci (tx:=aW) (zQ 44 s) (by omega) (λ p hm=>WO p (by have:=L5 44 hm; omega)) ?_
  intro rec out i; rfl
theorem O1 (s:List UInt8) (hs:s.length<=1073741824):cH (s,())=some ((ja s).1,(ja s).2,()):=by
 unfold cH ja;by_cases h0:s=[]
 ·subst h0; rfl
 ·have e0:(s==[])=false:=by simp[h0]
  rw[if_neg h0];simp only[e0,aiv,show UInt8.ofNat (Int.toNat 44)=44 from rfl,s8 s 44 hs,aiu];have hp:=QU 44 s;refine Ci (tx:=Qe) (zQ 44 s) (by omega) (λ p hm=>OZ p (by have:=L5 44 hm; omega)) ?_
  intro rec out i; rfl
abbrev ZL:=Int×List zP
def yM (q:List UInt8×List UInt8) (prev:Int):Bool:=
 (zv q.1).2 && ((ja q.2).2 && (decide (prev<(zv q.1).1) && (decide ((zv q.1).1<=60) && decide ((ja q.2).1.length<=2))))
def jw:List (List UInt8)->Int->List ZL->List ZL×Bool
 | [],_,out=>(out,true)
 | p::ps,prev,out=>match yD 124 p with
  | none=>([],false)
  | some q=>if yM q prev=true then
    jw ps (zv q.1).1 (out++[((zv q.1).1,(ja q.2).1)]) else ([],false)
def steps (s:List UInt8):List ZL×Bool:=
 if s=[] then ([],true) else match zQ 47 s with
  | []=>([],false)
  | p::ps=>if p=[]/\ps.length<=30 then jw ps 0 [] else ([],false)
theorem mz (s:List UInt8):0<=(zv s).1:=by
 unfold zv;split<;>simp
theorem fY (s:List UInt8) (hs:s.length<=137438953472):Mp (s,())=some ((steps s).1,(steps s).2,()):=by
 unfold Mp steps;by_cases h0:s=[]
 ·subst h0; rfl
 have e0:(s==[])=false:=by simp[h0]
 rw[if_neg h0];simp only[e0,aiv,show UInt8.ofNat (Int.toNat 47)=47 from rfl,show UInt8.ofNat (Int.toNat 124)=124 from rfl,BF s 47 hs,aiu];have hpl:=QU 47 s;have hpm:∀ p∈zQ 47 s,p.length<=s.length:=λ p hm=>L5 47 hm;cases hp:zQ 47 s with
 | nil=>exact absurd hp (YD _ _)
 | cons p ps=>
  rw[hp] at hpl hpm;simp only[aiA] at hpl;rw[if_pos (by simp only[aiA]; omega)]
  simp only[ajr,rd,akC];by_cases h1:p=[]
  ·subst h1;simp only[bne_self_eq_false,aiv];by_cases h2:(((([]:List UInt8)::ps).length:Nat):Int)>31
   ·rw[if_neg (by simp only[aiA] at h2; omega)]
    simp only[h2,aiB,aiw]
   ·rw[if_pos (show True/\ps.length<=30 from⟨trivial,by simp only[aiA] at h2; omega⟩)]
    simp only[h2,aiD,aiv];refine (Ct (([]:List UInt8)::ps).length (λ i (t:List ZL×Int)=>(t.1,t.2,i,())) (λ i t=>t.1.length<=i/\0<=t.2/\t.2<=60)
     (λ i t=>some ((jw ((([]:List UInt8)::ps).drop i) t.2 t.1).1,(jw ((([]:List UInt8)::ps).drop i) t.2 t.1).2,())) (by simp only[aiA]; omega) ?_ ?_ (s0:=([],0)) 1 (by simp) ⟨by simp,by simp,by simp⟩).trans (by simp)
    ·intro rec t ht; simp[jw]
    ·intro rec i t hi ht;obtain⟨t1,t2,t3⟩:=ht;have hx:(([]:List UInt8)::ps)[i]?=some (([]:List UInt8)::ps)[i]:=List.getElem?_eq_getElem hi;have X0:=hpm _ (List.getElem_mem hi);have hil:i<=s.length+1:=by simp only[aiA] at hi; omega
     rw[aiN hi];simp only[jw];have hc:=LJ 124 (([]:List UInt8)::ps)[i] [] (by simp);simp only[zt hi,decide_true,cond_true,and_self,if_true,Int.toNat_natCast,zq (e:=.str) hx,c9 _ 124 (show (([]:List UInt8)::ps)[i].length<=137438953472 by omega),BB,WP _ (show (zR 124 (([]:List UInt8)::ps)[i] []).2.length<=137438953472 by omega),Option.bind_some,
      zr (show i<4611686018427387904 by omega)]
     generalize hq:yD 124 (([]:List UInt8)::ps)[i]=q;cases q with
     | none=>left; simp
     | some q=>
      simp only[zR,hq,Option.isSome_some,aiC,aiv];by_cases c1:(zv q.1).2=true
      ·by_cases c2:(ja q.2).2=true
       ·by_cases c3:t.2<(zv q.1).1
        ·by_cases c4:(zv q.1).1<=60
         ·by_cases c5:(ja q.2).1.length<=2
          ·right;refine⟨(t.1++[((zv q.1).1,(ja q.2).1)],(zv q.1).1),⟨by simp; omega,mz _,c4⟩,?_,?_⟩
           ·simp only[c1,c2,aiC,aiv,show ¬ (zv q.1).1<=t.2 by omega,aiD,show ¬ (zv q.1).1>60 by omega,show ¬ ((ja q.2).1.length:Int)>2 by omega,aiA,aiz];rw[if_pos (by omega)]
           ·rw[if_pos (show yM q t.2=true by simp[yM,c1,c2,c3,c4,c5])]
          ·left;have hB:yM q t.2=false:=by simp[yM,c5]
           rw[hB];simp[c1,c2,show ¬ (zv q.1).1<=t.2 by omega,show ¬ (zv q.1).1>60 by omega,show (2:Int)<((ja q.2).1.length:Int) by omega]
         ·left;have hB:yM q t.2=false:=by simp[yM,c4]
          rw[hB];simp[c1,c2,show ¬ (zv q.1).1<=t.2 by omega,show (zv q.1).1>60 by omega]
        ·left;have hB:yM q t.2=false:=by simp[yM,c3]
         rw[hB];simp[c1,c2,show (zv q.1).1<=t.2 by omega]
       ·left;have hB:yM q t.2=false:=by simp[yM,c2]
        rw[hB];have:(ja q.2).2=false:=by simpa using c2
        simp[c1,this]
      ·left;have hB:yM q t.2=false:=by simp[yM,c1]
       rw[hB];have:(zv q.1).2=false:=by simpa using c1
       simp[this]
  ·have e1:(p != [])=true:=by simp[h1]
   rw[if_neg (show ¬ (p=[]/\ps.length<=30) from λ h=>h1 h.1),e1]; rfl
theorem ta (s:List UInt8) (hs:s.length<=1073741824):Qc (s,())=some ((steps s).1,(steps s).2,()):=by
 unfold Qc steps;by_cases h0:s=[]
 ·subst h0; rfl
 have e0:(s==[])=false:=by simp[h0]
 rw[if_neg h0];simp only[e0,aiv,show UInt8.ofNat (Int.toNat 47)=47 from rfl,s8 s 47 hs,aiu];have hpl:=QU 47 s;have hpm:∀ p∈zQ 47 s,p.length<=s.length:=λ p hm=>L5 47 hm;cases hp:zQ 47 s with
 | nil=>exact absurd hp (YD _ _)
 | cons p ps=>
  rw[hp] at hpl hpm;simp only[aiA] at hpl;rw[if_pos (by simp only[aiA]; omega)]
  simp only[ajr,rd,akC];have hw:wr (((p::ps).length:Int) - 1)=(ps.length:Int):=by
   rw[zg (by simp only[aiA]; omega) (by simp only[aiA]; omega)]
   simp only[aiA]; omega
  rw[hw];have htd:List.take ((((p::ps).length:Nat):Int).toNat - Int.toNat 1) (List.drop (Int.toNat 1) (p::ps))=ps:=by
   simp
  rw[htd];by_cases h1:p=[]
  ·subst h1;simp only[bne_self_eq_false,aiv];by_cases h2:(ps.length:Int)>30
   ·rw[if_neg (show ¬ (True/\ps.length<=30) from λ h=>by have:=h.2; omega)]
    simp only[h2,aiB,aiw]
   ·rw[if_pos (show True/\ps.length<=30 from⟨trivial,by omega⟩)];simp only[h2,aiD,aiv];rw[if_pos (by simp only[aiA]; omega)]
    refine (walk ps.length (λ i (t:List ZL×Int)=>(t.1,t.2,i,())) (λ i t=>t.1.length<=i/\0<=t.2/\t.2<=60)
     (λ i t=>some ((jw (ps.drop i) t.2 t.1).1,(jw (ps.drop i) t.2 t.1).2,())) (by omega) ?_ ?_ (s0:=([],0)) ⟨by simp,by simp,by simp⟩).trans (by simp)
    ·intro rec t ht; simp[jw]
    ·intro rec i t hi ht;obtain⟨t1,t2,t3⟩:=ht;have hx:ps[i]?=some ps[i]:=List.getElem?_eq_getElem hi;have X0:=hpm _ (List.mem_cons_of_mem _ (List.getElem_mem hi));rw[aiN hi];simp only[jw];have hc:=LJ 124 ps[i] ps[i] (Nat.le_refl _);have hx':ps.getD i (dflt .str)=ps[i]:=zq (e:=.str) hx;simp only[zt hi,decide_true,cond_true,and_self,if_true,Int.toNat_natCast,hx',gS _ 124 (show ps[i].length<=1073741824 by omega),sX,O1 _ (show (zR 124 ps[i] ps[i]).2.length<=1073741824 by omega),Option.bind_some,
      zr (show i<4611686018427387904 by omega),LV,zg (show (-9223372036854775808:Int)<=t.2+1 by omega) (show t.2+1<=9223372036854775807 by omega)]
     generalize hq:yD 124 ps[i]=q;cases q with
     | none=>left; simp
     | some q=>
      simp only[zR,hq,Option.isSome_some,aiC,aiv];by_cases c1:(zv q.1).2=true
      ·by_cases c2:(ja q.2).2=true
       ·by_cases c3:t.2<(zv q.1).1
        ·by_cases c4:(zv q.1).1<=60
         ·by_cases c5:(ja q.2).1.length<=2
          ·right;refine⟨(t.1++[((zv q.1).1,(ja q.2).1)],(zv q.1).1),⟨by simp; omega,mz _,c4⟩,?_,?_⟩
           ·simp only[c1,c2,c4,aiC,aiv,show (zv q.1).1≥t.2+1 by omega,aiB,ajn,show ¬ ((ja q.2).1.length:Int)>2 by omega,aiD,aiA,aiz];rw[if_pos (by omega)]
           ·rw[if_pos (show yM q t.2=true by simp[yM,c1,c2,c3,c4,c5])]
          ·left;have hB:yM q t.2=false:=by simp[yM,c5]
           rw[hB];simp[c1,c2,c4,show t.2+1<=(zv q.1).1 by omega,show (2:Int)<((ja q.2).1.length:Int) by omega]
         ·left;have hB:yM q t.2=false:=by simp[yM,c4]
          rw[hB];simp[c1,c2,c4]
        ·left;have hB:yM q t.2=false:=by simp[yM,c3]
         rw[hB];simp[c1,c2,show ¬ t.2+1<=(zv q.1).1 by omega]
       ·left;have hB:yM q t.2=false:=by simp[yM,c2]
        rw[hB];have:(ja q.2).2=false:=by simpa using c2
        simp[c1,this]
      ·left;have hB:yM q t.2=false:=by simp[yM,c1]
       rw[hB];have:(zv q.1).2=false:=by simpa using c1
       simp[this]
  ·have e1:(p != [])=true:=by simp[h1]
   rw[if_neg (show ¬ (p=[]/\ps.length<=30) from λ h=>h1 h.1),e1]; rfl
def zw (c:za):Bool:=(decide (c.1≥4) && decide (c.1<=7)) && (decide (c.2≥1) && decide (c.2<=6))
theorem YN (c:za):ZF (c,())=some (zw c,()):=by
 unfold ZF zw;simp only[Yh,aiu];cases (decide (c.1≥4) && decide (c.1<=7))<;>rfl
theorem Nh (c:za):JA (c,())=some (zw c,()):=by
 unfold JA zw;simp only[LV,aiu];cases (decide (c.1≥4) && decide (c.1<=7))<;>rfl
theorem yj {c:za} (h:zw c=true):4<=c.1/\c.1<=7:=by
 unfold zw at h;simp only[aix,aiI] at h;omega
def zF (s:List UInt8):Bool:=(steps s).2
def zn (s:List UInt8):Int:=match (steps s).1.getLast? with|some x=>x.1|none=>0
theorem Ks (s:List UInt8) (hs:s.length<=137438953472):YO (s,())=some (zF s,()):=by
 unfold YO zF;simp only[fY s hs,aiu]
theorem qV (s:List UInt8) (hs:s.length<=1073741824):KZ (s,())=some (zF s,()):=by
 unfold KZ zF;simp only[ta s hs,aiu]
theorem BY:∀ (ps:List (List UInt8)) (prev:Int) (out:List ZL),((jw ps prev out).2=false->(jw ps prev out).1=[])/\(jw ps prev out).1.length<=out.length+ps.length
 | [],prev,out=>by simp[jw]
 | p::ps,prev,out=>by
  simp only[jw];cases yD 124 p with
  | none=>simp
  | some q=>
   simp only;split
   ·obtain⟨h1,h2⟩:=BY ps (zv q.1).1 (out++[((zv q.1).1,(ja q.2).1)]);refine⟨h1,?_⟩;simp only[aiE,aiA,aiz] at h2 ⊢;omega
   ·simp
theorem bz (s:List UInt8):((steps s).2=false->(steps s).1=[])/\(steps s).1.length<=30:=by
 unfold steps;split
 ·simp
 ·cases zQ 47 s with
  | nil=>simp
  | cons p ps=>
   simp only;split
   ·next h=>
    obtain⟨h1,h2⟩:=BY ps 0 [];exact⟨h1,by simp only[aiz] at h2; omega⟩
   ·simp
theorem mb {l:List ZL} (h:l≠[]):∃ x,l.getLast?=some x/\l[l.length - 1]?=some x:=by
 have hl:l.length - 1<l.length:=by cases l with|nil=>exact absurd rfl h|cons _ _=>simp
 exact⟨l[l.length - 1],by rw[List.getLast?_eq_getElem?,ajk hl],List.getElem?_eq_getElem hl⟩
theorem YQ (s:List UInt8) (hs:s.length<=137438953472):Zn (s,())=some (zn s,()):=by
 unfold Zn zn;simp only[fY s hs,aiu];obtain⟨h1,h2⟩:=bz s;by_cases h:(steps s).2=true
 ·rw[h];simp only[aiC,aiv];by_cases h0:(steps s).1=[]
  ·simp[h0]
  ·obtain⟨x,e1,e2⟩:=mb h0;have hl:1<=(steps s).1.length:=by cases hh:(steps s).1 with|nil=>exact absurd hh h0|cons _ _=>simp
   have e3:(((steps s).1.length:Int)==0)=false:=by simp; omega
   simp only[e3,aiv,e1,zg (show (-9223372036854775808:Int)<=((steps s).1.length:Int) - 1 by omega) (show ((steps s).1.length:Int) - 1<=9223372036854775807 by omega)];rw[if_pos (by omega),show (((steps s).1.length:Int) - 1).toNat=(steps s).1.length - 1 by omega,zq e2]
 ·have h':(steps s).2=false:=by simpa using h
  rw[h',h1 h']; rfl
theorem tc (s:List UInt8) (hs:s.length<=1073741824):Qh (s,())=some (zn s,()):=by
 unfold Qh zn;simp only[ta s hs,aiu];obtain⟨h1,h2⟩:=bz s;by_cases h0:(steps s).1=[]
 ·simp[h0]
 ·obtain⟨x,e1,e2⟩:=mb h0;have hl:1<=(steps s).1.length:=by cases hh:(steps s).1 with|nil=>exact absurd hh h0|cons _ _=>simp
  have e3:(((steps s).1.length:Int)==0)=false:=by simp; omega
  simp only[e3,aiv,e1,zg (show (-9223372036854775808:Int)<=((steps s).1.length:Int) - 1 by omega) (show ((steps s).1.length:Int) - 1<=9223372036854775807 by omega)];rw[if_pos (by omega),show (((steps s).1.length:Int) - 1).toNat=(steps s).1.length - 1 by omega,zq e2]
theorem B1:∀ (ps:List (List UInt8)) (prev:Int) (out:List ZL),(out≠[]∨ps≠[])->0<=prev->(∀ x,out.getLast?=some x->1<=x.1/\x.1<=60)->(jw ps prev out).2=true->
  ∃ x,(jw ps prev out).1.getLast?=some x/\1<=x.1/\x.1<=60
 | [],prev,out,h,hp,ho,XX=>by
  have h0:out≠[]:=h.elim id (λ h=>absurd rfl h);obtain⟨x,e,_⟩:=mb h0;exact⟨x,e,ho x e⟩
 | p::ps,prev,out,h,hp,ho,XX=>by
  simp only[jw] at XX ⊢;cases hq:yD 124 p with
  | none=>rw[hq] at XX; simp at XX
  | some q=>
   rw[hq] at XX;simp only at XX ⊢;split at XX
   ·next hB=>
    rw[if_pos hB];simp only[yM,aix,aiI] at hB;refine B1 ps (zv q.1).1 _ (.inl (by simp)) (mz _) ?_ XX;intro x hx;simp at hx;subst hx;exact⟨by simp only; omega,hB.2.2.2.1⟩
   ·simp at XX
theorem Qw {s:List UInt8} (h:zF s=true) (h0:s≠[]):1<=zn s/\zn s<=60:=by
 unfold zF steps at h;unfold zn steps;rw[if_neg h0] at h ⊢;cases hp:zQ 47 s with
 | nil=>exact absurd hp (YD _ _)
 | cons p ps=>
  rw[hp] at h;simp only at h ⊢;split at h
  ·next hc=>
   rw[if_pos hc];have hne:ps≠[]:=by
    rintro rfl;obtain⟨rfl,_⟩:=hc;cases s with
    | nil=>exact h0 rfl
    | cons x l=>
     simp only[zQ] at hp;split at hp
     ·exact YD 47 l (by simpa using hp)
     ·cases hl:zQ 47 l with
      | nil=>exact YD 47 l hl
      | cons a b=>rw[hl] at hp; simp[glue] at hp
   obtain⟨x,e1,e2,e3⟩:=B1 ps 0 [] (.inr hne) (by decide) (by simp) h;rw[e1]; exact⟨e2,e3⟩
  ·simp at h
theorem um:zF []=true/\zn []=0:=by
 constructor<;>simp[zF,zn,steps]
def YL (n:Int):Option Int->List Int->Bool
 | _,[]=>true
 | p,x::l => !decide (x<0) && (!decide (x≥n) && ((match p with|some y => !decide (y≥x)|none=>true) && YL n (some x) l))
def jM (n:Int) (l:List Int):Bool:=YL n none l
theorem A9 (n:Int) (l:List Int) (hl:l.length<=137438953472) {G:(Int×Unit->Option (Bool×Unit))->Int×Unit->Option (Bool×Unit)}
  (aa2:∀ rec,G rec ((l.length:Int),())=some (true,()))
  (h0:∀ rec x,l[0]?=some x->G rec (((0:Nat):Int),())=bif decide (x<0) then some (false,()) else bif decide (x≥n) then some (false,()) else rec (((0:Nat):Int)+1,()))
  (X8:∀ rec (i:Nat) x y,l[i]?=some x->l[i+1]?=some y->i+1<l.length->G rec (((i+1:Nat):Int),())=bif decide (y<0) then some (false,()) else bif decide (y≥n) then some (false,()) else bif decide (x≥y) then some (false,()) else rec (((i+1:Nat):Int)+1,())):
  iter G fuel (0,())=some (jM n l,()):=by
 let pv:Nat->Option Int:=λ i=>match i with|0=>none|i+1=>l[i]?
 refine (walk l.length (λ i (_:Unit)=>(i,())) (λ _ _=>True) (λ i _=>some (YL n (pv i) (l.drop i),())) (by omega) ?_ ?_ (s0:=()) trivial).trans (by simp[jM,pv])
 ·intro rec _ _;rw[aa2]; simp[YL]
 ·intro rec i _ hi _;have hx:l[i]?=some l[i]:=List.getElem?_eq_getElem hi;have hpv:pv (i+1)=some l[i]:=hx;rw[aiN hi,hpv];cases i with
  | zero=>
   rw[h0 rec l[0] hx,show pv 0=none from rfl];simp only[YL];by_cases c1:l[0]<0
   ·left; simp[c1]
   ·by_cases c2:l[0]≥n
    ·left; simp[c1,c2]
    ·right;exact⟨(),trivial,by simp[c1,c2],by simp[c1,c2]⟩
  | succ i=>
   have hx':l[i]?=some l[i]:=List.getElem?_eq_getElem (by omega);rw[X8 rec i l[i] l[i+1] hx' hx hi,show pv (i+1)=some l[i] from hx'];simp only[YL];by_cases c1:l[i+1]<0
   ·left; simp[c1]
   ·by_cases c2:l[i+1]≥n
    ·left; simp[c1,c2]
    ·by_cases c3:l[i]≥l[i+1]
     ·left; simp[c1,c2,c3]
     ·right;exact⟨(),trivial,by simp[c1,c2,c3],by simp[c1,c2,c3]⟩
theorem pm (n:Int) (l:List Int) (hl:l.length<=137438953472):N8 (n,l,())=some (jM n l,()):=by
 unfold N8;refine A9 n l hl ?_ ?_ ?_
 ·intro rec; simp
 ·intro rec x hx;have hi:0<l.length:=by
   rcases Nat.eq_zero_or_pos l.length with h|h
   ·rw[aiX (by omega)] at hx; cases hx
   ·exact h
  simp only[zt hi,aiB,aiw,aiL,if_true,aiG,zq (e:=.i64) hx,zr (show 0<4611686018427387904 by omega),show ¬ (((0:Nat):Int)>0) by omega,aiD,aiv]
 ·intro rec i x y hx hy hi;have e:wr (((i+1:Nat):Int) - 1)=(i:Int):=by rw[zg (by omega) (by omega)]; omega
  simp only[zt hi,zt (show i<l.length by omega),e,aiB,aiw,aiL,if_true,aiG,zq (e:=.i64) hx,zq (e:=.i64) hy,zr (show i+1<4611686018427387904 by omega),show (((i+1:Nat):Int)>0) by omega]
theorem s7 (n:Int) (l:List Int) (hl:l.length<=137438953472):Nk (n,l,())=some (jM n l,()):=by
 unfold Nk;refine A9 n l hl ?_ ?_ ?_
 ·intro rec; simp
 ·intro rec x hx;have hi:0<l.length:=by
   rcases Nat.eq_zero_or_pos l.length with h|h
   ·rw[aiX (by omega)] at hx; cases hx
   ·exact h
  simp only[zt hi,aiB,aiw,aiL,if_true,aiG,zq (e:=.i64) hx,zr (show 0<4611686018427387904 by omega),show ¬ (((0:Nat):Int)>0) by omega,aiD,aiv]
 ·intro rec i x y hx hy hi;have e:wr (((i+1:Nat):Int) - 1)=(i:Int):=by rw[zg (by omega) (by omega)]; omega
  simp only[zt hi,zt (show i<l.length by omega),e,aiB,aiw,aiL,if_true,aiG,zq (e:=.i64) hx,zq (e:=.i64) hy,zr (show i+1<4611686018427387904 by omega),show (((i+1:Nat):Int)>0) by omega]
def Ja (c:za):Int:=if zw c=true then c.1 - (c.1 - 1) / 3 else 0
theorem pk (c:za):N5 (c,())=some (Ja c,()):=by
 unfold N5 Ja;simp only[YN,aiu];by_cases h:zw c=true
 ·obtain⟨h1,h2⟩:=yj h;have e1:wr (c.1 - 1)=c.1 - 1:=zg (by omega) (by omega);have e2:Int.tdiv (c.1 - 1) 3=(c.1 - 1) / 3:=Int.tdiv_eq_ediv_of_nonneg (by omega);simp only[h,aiC,aiv,if_true,e1,e2];rw[zg (n:=(c.1 - 1) / 3) (by omega) (by omega),zg (by omega) (by omega)]
 ·have h':zw c=false:=by simpa using h
  simp[h']
theorem OS (c:za):cB (c,())=some (Ja c,()):=by
 unfold cB lq Ja;simp only[Nh,aiu];by_cases h:zw c=true
 ·obtain⟨h1,h2⟩:=yj h;have e1:wr (c.1 - 1)=c.1 - 1:=zg (by omega) (by omega);have e2:Int.tdiv (c.1 - 1) 3=(c.1 - 1) / 3:=Int.tdiv_eq_ediv_of_nonneg (by omega);simp only[h,aiC,aiv,if_true,e1,e2,aiu];rw[zg (n:=(c.1 - 1) / 3) (by omega) (by omega),zg (by omega) (by omega)]
 ·have h':zw c=false:=by simpa using h
  simp[h']
def Yz (c:UInt8) (s:List UInt8):Nat->Option Nat
 | 0=>none
 | k+1=>if s.getD k 0=c then some k else Yz c s k
def Z2 (s:List UInt8):List UInt8:=if zF s=true then (match Yz 47 s s.length with|some k=>s.take k|none=>[]) else []
theorem tW (c:UInt8) (s:List UInt8):∀ k i,Yz c s k=some i->i<k
 | 0,i,h=>by cases h
 | k+1,i,h=>by
  simp only[Yz] at h;split at h
  ·cases h; omega
  ·have:=tW c s k i h; omega
theorem uc (c:UInt8) (s:List UInt8):∀ k,k<=s.length->Lib.lastIdx (ByteArray.mk ⟨s⟩) c.toNat k=match Yz c s k with|some i=>(i:Int)|none => -1
 | 0,_=>rfl
 | k+1,h=>by
  have hk:k<s.length:=by omega
  have e:(ByteArray.mk ⟨s⟩).data[k]! = s.getD k 0:=by
   rw[aja,ajk hk];simp[hk]
  simp only[Lib.lastIdx,Yz,e];by_cases hc:s.getD k 0=c
  ·rw[if_pos (by rw[hc]),if_pos hc]
  ·rw[if_neg (λ h=>hc (UInt8.toNat_inj.1 (by omega))),if_neg hc,uc c s k (by omega)]
theorem RR {s:List UInt8} (h:zF s=true) (h0:s≠[]):∃ l,s=47::l:=by
 unfold zF steps at h;rw[if_neg h0] at h;cases hp:zQ 47 s with
 | nil=>exact absurd hp (YD _ _)
 | cons p ps=>
  rw[hp] at h;simp only at h;split at h
  ·next hc=>
   obtain⟨rfl,_⟩:=hc;cases s with
   | nil=>exact absurd rfl h0
   | cons x l=>
    simp only[zQ] at hp;split at hp
    ·next e=>exact⟨l,by rw[e]⟩
    ·cases hl:zQ 47 l with
     | nil=>exact absurd hl (YD 47 l)
     | cons a b=>rw[hl] at hp; simp[glue] at hp
  ·simp at h
theorem tX {c:UInt8} {l:List UInt8}:∀ k,1<=k->∃ i,Yz c (c::l) k=some i
 | 0,h=>by omega
 | 1,_=>⟨0,by simp[Yz]⟩
 | k+2,_=>by
  simp only[Yz];split
  ·exact⟨_,rfl⟩
  ·exact tX (k+1) (by omega)
theorem My (a b:Int):yU (a,b,())=some (max a b,()):=by
 unfold yU;by_cases h:a>b
 ·simp only[h,aiB,aiw]; congr 2; omega
 ·simp only[h,aiD,aiv]; congr 2; omega
theorem aX (s:List UInt8) (hs:s.length<=137438953472):Ls (s,())=some (Z2 s,()):=by
 unfold Ls Z2;simp only[Ks s hs,aiu];by_cases h:zF s=true
 ·simp only[h,aiC,aiv,if_true];refine (Qm (λ x:Int×Unit=>some ((match Yz 47 s x.1.toNat with|some k=>s.take k|none=>[]),())) (λ x=>x.1.toNat) (λ x=>0<=x.1/\x.1<=(s.length:Int)) ?_ fuel ((s.length:Int),()) ⟨by simp,by simp⟩
   (by simp only[aiG]; have:=YY (n:=s.length) (by omega); exact this)).trans (by simp)
  rintro rec ⟨v,⟨⟩⟩ ⟨h1,h2⟩ XW;obtain⟨n,rfl⟩:∃ n:Nat,v=(n:Int):=⟨v.toNat,by simp only at h1; omega⟩
  simp only at h2;cases n with
  | zero=>
   have e1:wr (((0:Nat):Int) - 1) = -1:=zg (by decide) (by decide);simp only[show ¬ (((0:Nat):Int)>0) by omega,aiD,aiv,e1,My,aiu,show max (-1:Int) 0=0 by decide];rw[if_pos (by omega)];simp[Yz]
  | succ n=>
   have e1:wr (((n+1:Nat):Int) - 1)=(n:Int):=by rw[zg (by omega) (by omega)]; omega
   simp only[show (((n+1:Nat):Int)>0) by omega,aiB,aiw,e1,My,aiu,aiG,show max (n:Int) 0=(n:Int) by omega,Yz,show UInt8.ofNat (Int.toNat 47)=47 from rfl];rw[if_pos (by omega)];by_cases hc:s.getD n 0=47
   ·have e2:(s.getD n 0 != 47)=false:=by rw[hc]; rfl
    rw[e2,if_pos hc];simp only[aiv];rw[if_pos (by omega)];simp
   ·have e2:(s.getD n 0 != 47)=true:=bne_iff_ne.2 hc;rw[e2,if_neg hc];simp only[aiw];rw[XW ((n:Int),()) ⟨by simp,by simp only; omega⟩ (by simp only[aiG]; omega)]
    simp
 ·have h':zF s=false:=by simpa using h
  simp[h']
theorem O2 (s:List UInt8) (hs:s.length<=1073741824):cI (s,())=some (Z2 s,()):=by
 unfold cI Z2;simp only[qV s hs,aiu];by_cases h:zF s=true
 ·simp only[h,aiC,aiv,if_true];by_cases h0:s=[]
  ·subst h0; rfl
  ·have e0:(s==[])=false:=by simp[h0]
   obtain⟨l,rfl⟩:=RR h h0;obtain⟨i,hi⟩:=tX (c:=47) (l:=l) (47::l).length (by simp);have hlt:=tW _ _ _ _ hi;have e1:strings_LastIndexByte (47::l,UInt8.ofNat (Int.toNat 47),())=some ((i:Int),()):=by
    unfold strings_LastIndexByte;dsimp only;rw[if_pos (by omega)];have:=uc 47 (47::l) (47::l).length (Nat.le_refl _);rw[hi] at this;simp only at this;rw[←this]; rfl
   simp only[e0,aiv,e1,aiu,hi];rw[if_pos (by omega)];simp
 ·have h':zF s=false:=by simpa using h
  simp[h']
def yg (c:za) (q:zJ):Bool:=
 zw c && (zF q.2.1 && (zn q.2.1==q.1 && (bif q.2.1==[] then ((q.2.2.length:Int)==0) else (jM c.1 q.2.2 && decide ((q.2.2.length:Int)≥Ja c)))))
theorem Lq (c:za) (q:zJ) (hw:zi q<=137438953472):YP (c,q,())=some (yg c q,()):=by
 have h1:q.2.1.length<=137438953472:=by simp only[zi] at hw; omega
 have h2:q.2.2.length<=137438953472:=by simp only[zi,zl] at hw; omega
 unfold YP yg;simp only[YN,Ks _ h1,YQ _ h1,pm _ _ h2,pk,aiu];cases zw c
 ·rfl
 cases zF q.2.1
 ·rfl
 by_cases e:zn q.2.1=q.1
 ·have e1:(zn q.2.1 != q.1)=false:=by simp[e]
  have e2:(zn q.2.1==q.1)=true:=by simp[e]
  rw[e1,e2];cases (q.2.1==[])<;>cases jM c.1 q.2.2<;>rfl
 ·have e1:(zn q.2.1 != q.1)=true:=by simp[e]
  have e2:(zn q.2.1==q.1)=false:=by simp[e]
  rw[e1,e2]; rfl
theorem lw (c:za) (q:zJ) (hw:zi q<=1073741824):Nj (c,q,())=some (yg c q,()):=by
 have h1:q.2.1.length<=1073741824:=by simp only[zi] at hw; omega
 have h2:q.2.2.length<=1073741824:=by simp only[zi,zl] at hw; omega
 unfold Nj lr yg;simp only[Nh,qV _ h1,tc _ h1,s7 _ _ (show q.2.2.length<=137438953472 by omega),OS,cA q _ (show q.2.2.length<=8796093022208 by omega),aiu];cases zw c
 ·rfl
 simp only[aiC,aiv,aiS];obtain⟨v,name,who⟩:=q;simp only[je];by_cases hn:name=[]
 ·subst hn;obtain⟨k1,k2⟩:=um;rw[k1,k2];by_cases hv:v=0
  ·subst hv;cases who with
   | nil=>rfl
   | cons a b=>
    simp;omega
  ·have e1:(v==0)=false:=by simp[hv]
   have e2:((0:Int)==v)=false:=by simp; omega
   have e3:(v==(0:Int))=false:=e1;rw[e1,e2];simp[hv]
 ·have e0:(name==[])=false:=by simp[hn]
  rw[e0];simp only[ajh,ajy,aiv];by_cases hk:zF name=true
  ·obtain⟨w1,w2⟩:=Qw hk hn;rw[hk];by_cases e:zn name=v
   ·have e1:(v==zn name)=true:=by simp[e]
    have e2:(zn name==v)=true:=by simp[e]
    have e3:decide (v≥1)=true:=by simp; omega
    rw[e1,e2,e3];cases jM c.1 who<;>simp
   ·have e1:(v==zn name)=false:=by simp; omega
    have e2:(zn name==v)=false:=by simp[e]
    rw[e1,e2];cases decide (v≥1)<;>rfl
  ·have hk':zF name=false:=by simpa using hk
   rw[hk'];cases decide (v≥1)<;>rfl
def jG (c:za) (b:y7):Bool:=yg c b.2 && (zF b.1 && (b.1 != [] && Z2 b.1==b.2.2.1))
theorem fu (c:za) (b:y7) (hw:zB b<=137438953472):Mi (c,b,())=some (jG c b,()):=by
 have h1:b.1.length<=137438953472:=by simp only[zB] at hw; omega
 unfold Mi jG;simp only[Lq c b.2 (by simp only[zB] at hw; omega),Ks _ h1,aX _ h1,Option.bind_some]
 cases yg c b.2<;>cases zF b.1<;>cases (b.1 != [])<;>rfl
theorem OI (c:za) (b:y7) (hw:zB b<=1073741824):cr (c,b,())=some (jG c b,()):=by
 have h1:b.1.length<=1073741824:=by simp only[zB] at hw; omega
 unfold cr jG;simp only[lw c b.2 (by simp only[zB] at hw; omega),qV _ h1,O2 _ h1,Option.bind_some]
 cases yg c b.2<;>cases zF b.1<;>cases (b.1 != [])<;>rfl
def yZ (c:za) (p:zD):Bool:=
 zw c && ((decide (p.1≥1) && decide (p.1<=60)) && (jM c.1 p.2.2 && (decide ((p.2.2.length:Int)>0) && (p.2.1==[] || (zF p.2.1 && zn p.2.1==p.1)))))
theorem aI (c:za) (p:zD) (hw:zj p<=137438953472):Kt (c,p,())=some (yZ c p,()):=by
 have h1:p.2.1.length<=137438953472:=by simp only[zj] at hw; omega
 have h2:p.2.2.length<=137438953472:=by simp only[zj,zl] at hw; omega
 unfold Kt yZ;simp only[YN,Yh,pm _ _ h2,Ks _ h1,YQ _ h1,aiu];have e:((p.2.2.length:Int)==0) = !decide ((p.2.2.length:Int)>0):=by
  generalize p.2.2.length=n;cases n with
  | zero=>rfl
  | succ k=>
   have a1:(((k+1:Nat):Int)==0)=false:=by rw[beq_eq_false_iff_ne]; omega
   have a2:decide (((k+1:Nat):Int)>0)=true:=decide_eq_true (by omega);rw[a1,a2]; rfl
 rw[e];cases zw c<;>cases (decide (p.1≥1) && decide (p.1<=60))<;>cases jM c.1 p.2.2<;>cases decide ((p.2.2.length:Int)>0)<;>cases (p.2.1==[])<;>cases zF p.2.1<;>rfl
theorem cy (c:za) (p:zD) (hw:zj p<=1073741824):Ni (c,p,())=some (yZ c p,()):=by
 have h1:p.2.1.length<=1073741824:=by simp only[zj] at hw; omega
 have h2:p.2.2.length<=137438953472:=by simp only[zj,zl] at hw; omega
 unfold Ni yZ;simp only[Nh,LV,s7 _ _ h2,qV _ h1,tc _ h1,aiu];cases zw c<;>cases (decide (p.1≥1) && decide (p.1<=60))<;>cases jM c.1 p.2.2<;>cases (p.2.1==[])<;>cases zF p.2.1<;>cases (zn p.2.1==p.1)<;>cases decide ((p.2.2.length:Int)>0)<;>rfl
theorem xr (a b:zJ):je a b=decide (a=b):=by
 obtain⟨a1,a2,a3⟩:=a;obtain⟨b1,b2,b3⟩:=b;unfold je;rw[akn];simp[Prod.ext_iff]
theorem G5 (a b:y7):Yp a b=decide (a=b):=by
 obtain⟨a1,a2⟩:=a;obtain⟨b1,b2⟩:=b;unfold Yp;simp only[xr];rw[akn];simp[Prod.ext_iff]
theorem Xt (a b:zP):MC a b=decide (a=b):=by
 obtain⟨a1,a2,a3,a4⟩:=a;obtain⟨b1,b2,b3,b4⟩:=b;unfold MC;rw[akn];simp[Prod.ext_iff]
theorem uk (a b:zo):Zi a b=true↔a=b:=by
 obtain⟨a1,a2,a3,a4,a5,a6,a7⟩:=a;obtain⟨b1,b2,b3,b4,b5,b6,b7⟩:=b;unfold Zi;simp only[xr,G5,Xt];simp only[aix,aj6,aiI,aiF]
theorem RO (a b:zo):Zi a b=Zi b a:=by
 rw[akn,uk,uk];exact⟨λ h=>h.symm,λ h=>h.symm⟩
def canon (m:zo):zo:=
 bif (m.1==1) then (m.1,0,m.2.2.1,(0,[],[]),(0,[],[]),0,(0,0,0,0)) else
 bif (m.1==2) then (m.1,0,([],0,[],[]),m.2.2.2.1,(0,[],[]),0,(0,0,0,0)) else
 bif (m.1==3) then (m.1,m.2.1,([],0,[],[]),(0,[],[]),m.2.2.2.2.1,m.2.2.2.2.2.1,(0,0,0,0)) else
 bif (m.1==4) then (m.1,0,([],0,[],[]),(0,[],[]),(0,[],[]),0,m.2.2.2.2.2.2) else
 (m.1,0,([],0,[],[]),(0,[],[]),(0,[],[]),0,(0,0,0,0))
theorem WV (m:zo) (h:MsgW m):gn (m,())=some (Zi (canon m) m,()):=by
 obtain⟨h1,h2,h3⟩:=h;have hz:([]:List Int).length<=8796093022208:=by simp
 unfold gn canon;dsimp only;rw[N0 (m.1,0,m.2.2.1,(0,[],[]),(0,[],[]),0,(0,0,0,0)) m ⟨h1,hz,hz⟩,N0 (m.1,0,([],0,[],[]),m.2.2.2.1,(0,[],[]),0,(0,0,0,0)) m ⟨hz,h2,hz⟩,
  N0 (m.1,m.2.1,([],0,[],[]),(0,[],[]),m.2.2.2.2.1,m.2.2.2.2.2.1,(0,0,0,0)) m ⟨hz,hz,h3⟩,N0 (m.1,0,([],0,[],[]),(0,[],[]),(0,[],[]),0,m.2.2.2.2.2.2) m ⟨hz,hz,hz⟩,
  N0 (m.1,0,([],0,[],[]),(0,[],[]),(0,[],[]),0,(0,0,0,0)) m ⟨hz,hz,hz⟩]
 simp only[aiu];cases (m.1==1)<;>cases (m.1==2)<;>cases (m.1==3)<;>cases (m.1==4)<;>rfl
theorem O9 (m:zo):cP (m,())=some (canon m,()):=by
 unfold cP canon;cases (m.1==1)<;>cases (m.1==2)<;>cases (m.1==3)<;>cases (m.1==4)<;>rfl
noncomputable def yF (c:za) (m:zo):Bool:=
 zw c && (Zi (canon m) m && (bif (m.1==1) then jG c m.2.2.1 else bif (m.1==2) then (yZ c m.2.2.2.1 && m.2.2.2.1.2.1 != []) else
  bif (m.1==3) then ((decide (m.2.1≥1) && decide (m.2.1<=60)) && (yg c m.2.2.2.2.1 && (decide (m.2.2.2.2.2.1≥0) && decide (m.2.2.2.2.2.1<=wr (c.1 - 1))))) else
  bif (m.1==4) then zN m.2.2.2.2.2.2 else false))
theorem NZ (c:za) (m:zo) (hw:zh m<=137438953472):ZZ (c,m,())=some (yF c m,()):=by
 have hW:MsgW m:=MsgW.of (by omega);have h1:zB m.2.2.1<=137438953472:=by simp only[zh] at hw; omega
 have h2:zj m.2.2.2.1<=137438953472:=by simp only[zh] at hw; omega
 have h3:zi m.2.2.2.2.1<=137438953472:=by simp only[zh] at hw; omega
 unfold ZZ yF;simp only[YN,WV m hW,fu c _ h1,aI c _ h2,Lq c _ h3,Yh,Mr,aiu];cases zw c
 ·rfl
 cases Zi (canon m) m
 ·rfl
 cases (m.1==1)
 ·cases (m.1==2)
  ·cases (m.1==3)
   ·cases (m.1==4)<;>rfl
   ·cases (decide (m.2.1≥1) && decide (m.2.1<=60))<;>cases yg c m.2.2.2.2.1<;>rfl
  ·cases yZ c m.2.2.2.1<;>rfl
 ·rfl
theorem OO (c:za) (m:zo) (hw:zh m<=1073741824):cw (c,m,())=some (yF c m,()):=by
 have hW:MsgW m:=MsgW.of (by omega);have h1:zB m.2.2.1<=1073741824:=by simp only[zh] at hw; omega
 have h2:zj m.2.2.2.1<=1073741824:=by simp only[zh] at hw; omega
 have h3:zi m.2.2.2.2.1<=1073741824:=by simp only[zh] at hw; omega
 unfold cw yF;simp only[Nh,O9,OP m _ hW,RO m (canon m),OI c _ h1,cy c _ h2,lw c _ h3,LV,Qf,aiu];cases zw c
 ·rfl
 cases Zi (canon m) m
 ·rfl
 cases (m.1==1)
 ·cases (m.1==2)
  ·cases (m.1==3)
   ·cases (m.1==4)<;>rfl
   ·cases (decide (m.2.1≥1) && decide (m.2.1<=60))<;>cases yg c m.2.2.2.2.1<;>rfl
  ·cases yZ c m.2.2.2.1<;>rfl
 ·rfl
abbrev Zd:Ty:=.pair .i64 (.pair .i64 (.pair .i64 .i64))
abbrev Yl:Ty:=.pair .i64 (.pair .str (.sl 0 .i64))
abbrev bI:Ty:=.pair .i64 (.pair .i64 (.pair .i64 (.pair (.pair .str (.pair .i64 (.pair .str (.sl 0 .i64)))) (.pair (.pair .i64 (.pair .str (.sl 0 .i64))) (.pair (.pair .i64 (.pair .str (.sl 0 .i64))) (.pair .i64 (.pair .i64 (.pair .i64 (.pair .i64 .i64)))))))))
theorem ro {α:Type} (p:α->Bool) (l:List α) {G:(Int×Unit->Option (Bool×Unit))->Int×Unit->Option (Bool×Unit)} (hl:l.length<=1152921504606846976)
  (aa2:∀ rec s,G rec ((l.length:Int),s)=some (true,()))
  (X8:∀ rec (i:Nat) s x,l[i]?=some x->i<l.length->G rec ((i:Int),s)=bif p x then rec ((i:Int)+1,s) else some (false,())):
  iter G fuel (0,())=some (l.all p,()):=by
 refine (M9 l (λ x s rec=>bif p x then rec s else some (false,())) (λ s=>some (true,())) (λ i s=>(i,s)) hl aa2 X8 ?_ ()).trans (sD _ _);intro x s r1 r2 hr; simp[hr]
def yC {α:Type} (ok:α->Bool) (lt:α->α->Bool):Option α->List α->Bool
 | _,[]=>true
 | p,x::l=>ok x && ((match p with|none=>true|some y=>lt y x) && yC ok lt (some x) l)
theorem bU {α:Type} (ok:α->Bool) (lt:α->α->Bool) (fin:Bool) (l:List α) (hl:l.length<=1152921504606846976)
  {G:(Int×Unit->Option (Bool×Unit))->Int×Unit->Option (Bool×Unit)}
  (aa2:∀ rec,G rec ((l.length:Int),())=some (fin,()))
  (h0:∀ rec x,l[0]?=some x->0<l.length->G rec (0,())=bif ok x then rec (1,()) else some (false,()))
  (X8:∀ rec (i:Nat) x y,l[i]?=some x->l[i+1]?=some y->i+1<l.length->G rec (((i+1:Nat):Int),())=bif ok y then (bif lt x y then rec (((i+1:Nat):Int)+1,()) else some (false,())) else some (false,())):
  iter G fuel (0,())=some (yC ok lt none l && fin,()):=by
 let pv:Nat->Option α:=λ i=>match i with|0=>none|j+1=>l[j]?
 refine (walk l.length (λ i (_:Unit)=>(i,())) (λ _ _=>True) (λ i _=>some (yC ok lt (pv i) (l.drop i) && fin,())) hl ?_ ?_ (s0:=()) trivial).trans (by simp only[aiW,pv])
 ·intro rec s _;rw[aa2,aj5]; simp[yC]
 ·intro rec i s hi _;have hx:l[i]?=some l[i]:=List.getElem?_eq_getElem hi;cases i with
  | zero=>
   rw[show ((0:Nat):Int)=0 from rfl,h0 rec l[0] hx hi,List.drop_eq_getElem_cons hi];cases hk:ok l[0] with
   | true=>
    right;have e2:pv (0+1)=some l[0]:=hx;exact⟨(),trivial,by simp,by rw[e2]; simp[yC,show pv 0=none from rfl,hk]⟩
   | false=>left; simp[yC,hk]
  | succ j=>
   have hj:l[j]?=some l[j]:=List.getElem?_eq_getElem (by omega);rw[X8 rec j l[j] l[j+1] hj hx hi,List.drop_eq_getElem_cons hi];have e:pv (j+1)=some l[j]:=hj;have e2:pv (j+1+1)=some l[j+1]:=hx;rw[e];cases hk:ok l[j+1] with
   | true=>
    cases hlt:lt l[j] l[j+1] with
    | true=>right; exact⟨(),trivial,by simp,by rw[e2]; simp[yC,hk,hlt]⟩
    | false=>left; simp[yC,hk,hlt]
   | false=>left; simp[yC,hk]
def yk (c:za) (s:zI):Bool:=(decide (s.1≥0) && decide (s.1<=60)) && ((decide (s.2.1≥0) && decide (s.2.1<=60)) && (yg c s.2.2.1 && zF s.2.2.2))
theorem N6 (c:za) (s:zI) (hw:zA s<=137438953472):Kv (c,s,())=some (yk c s,()):=by
 simp only[zA] at hw;unfold Kv yk;simp only[Yh,Lq c s.2.2.1 (by omega),Ks s.2.2.2 (by omega),aiu];cases (decide (s.1≥0) && decide (s.1<=60))<;>cases (decide (s.2.1≥0) && decide (s.2.1<=60))<;>cases yg c s.2.2.1<;>rfl
theorem OT (c:za) (s:zI) (hw:zA s<=1073741824):cC (c,s,())=some (yk c s,()):=by
 simp only[zA] at hw;unfold cC yk;simp only[LV,lw c s.2.2.1 (by omega),qV s.2.2.2 (by omega),aiu];cases (decide (s.1≥0) && decide (s.1<=60))<;>cases (decide (s.2.1≥0) && decide (s.2.1<=60))<;>cases yg c s.2.2.1<;>rfl
def jy (a b:zP):Bool:=decide (a.1<b.1) || (a.1==b.1 && decide (a.2.2.2<b.2.2.2))
theorem BU (a b:zP):bp (a,b,())=some (jy a b,()):=by
 unfold bp jy;dsimp only;cases decide (a.1<b.1)<;>cases (a.1==b.1)<;>rfl
theorem O3 (a b:zP):cJ (a,b,())=some (jy a b,()):=by
 unfold cJ jy;dsimp only;cases decide (a.1<b.1)<;>cases (a.1==b.1)<;>rfl
def jB (l:zE):Bool:=yC zN jy none l && decide ((l.length:Int)<=12)
theorem BD (l:zE) (hl:l.length<=137438953472):Ml (l,())=some (jB l,()):=by
 unfold Ml jB;refine bU zN jy _ l (by omega) ?_ ?_ ?_
 ·intro rec; simp
 ·intro rec x hx hi;have hi0:(0:Int)<(l.length:Int):=by omega
  simp only[hi0,aiB,aiw,ajS,aiL,if_true,ajr,zq (e:=Zd) hx,Mr,aiu,show wr ((0:Int)+1)=1 from zr (show 0<4611686018427387904 by omega),show ¬ ((0:Int)>0) by omega,aiD,aiv];cases zN x<;>rfl
 ·intro rec i x y hx hy hi;have e:wr (((i+1:Nat):Int) - 1)=(i:Int):=by rw[zg (by omega) (by omega)]; omega
  simp only[zt hi,zt (show i<l.length by omega),e,aiB,aiw,aiL,if_true,aiG,zq (e:=Zd) hx,zq (e:=Zd) hy,Mr,BU,aiu,zr (show i+1<4611686018427387904 by omega),show (((i+1:Nat):Int)>0) by omega];cases zN y<;>cases jy x y<;>rfl
theorem OR (l:zE) (hl:l.length<=137438953472):cz (l,())=some (jB l,()):=by
 unfold cz jB;refine bU zN jy _ l (by omega) ?_ ?_ ?_
 ·intro rec; simp
 ·intro rec x hx hi;have hi0:(0:Int)<(l.length:Int):=by omega
  simp only[hi0,aiB,aiw,ajS,aiL,if_true,ajr,zq (e:=Zd) hx,Qf,aiu,show wr ((0:Int)+1)=1 from zr (show 0<4611686018427387904 by omega),show ¬ ((0:Int)>0) by omega,aiD,aiv];cases zN x<;>rfl
 ·intro rec i x y hx hy hi;have e:wr (((i+1:Nat):Int) - 1)=(i:Int):=by rw[zg (by omega) (by omega)]; omega
  simp only[zt hi,zt (show i<l.length by omega),e,aiB,aiw,aiL,if_true,aiG,zq (e:=Zd) hx,zq (e:=Zd) hy,Qf,O3,aiu,zr (show i+1<4611686018427387904 by omega),show (((i+1:Nat):Int)>0) by omega];cases zN y<;>cases jy x y<;>rfl
def jq (a b:zD):Bool:=decide (a.1<b.1) || (a.1==b.1 && Go.Op.bytesLess a.2.1 b.2.1)
theorem BM (a b:zD):ba (a,b,())=some (jq a b,()):=by
 unfold ba jq;dsimp only;cases decide (a.1<b.1)<;>cases (a.1==b.1)<;>rfl
def JH (a b:zD):Int:=if a.1<b.1 then -1 else if a.1>b.1 then 1 else if Go.Op.bytesLess a.2.1 b.2.1=true then -1 else if a.2.1=b.2.1 then 0 else 1
theorem te (a b:zD):LU (a,b,())=some (JH a b,()):=by
 unfold LU kL kM bW bX JH;simp only[bne_self_eq_false,aiu,aiv];by_cases h1:a.1<b.1
 ·simp[h1]
 ·by_cases h2:a.1>b.1
  ·simp[h1,h2]
  ·cases h3:Go.Op.bytesLess a.2.1 b.2.1
   ·by_cases h4:a.2.1=b.2.1
    ·simp[h1,h2,h4,h3]
    ·have h5:(a.2.1==b.2.1)=false:=by simp[h4]
     simp[h1,h2,h4,h5]
   ·simp[h1,h2,h3]
theorem xg (a b:zD):decide (JH a b≥0) = !jq a b:=by
 unfold JH jq;by_cases h1:a.1<b.1
 ·simp[h1]
 ·by_cases h2:a.1>b.1
  ·have:¬ a.1=b.1:=by omega
   simp[h1,h2,this]
  ·have:a.1=b.1:=by omega
   simp only[h1,h2,this,if_false];cases h3:Go.Op.bytesLess a.2.1 b.2.1
   ·by_cases h4:a.2.1=b.2.1<;>simp[h4]
   ·simp
def jn (c:za) (l:zS):Bool:=yC (yZ c) jq none l && decide ((l.length:Int)<=20)
theorem KB {l:zS} {x:zD} {N:Nat} (hw:zC l<=N) {i:Nat} (hx:l[i]?=some x):zj x<=N:=by
 have:=ZH zj (List.mem_of_getElem? hx); unfold zC at hw; omega
theorem BG (c:za) (l:zS) (hw:zC l<=137438953472):Mq (c,l,())=some (jn c l,()):=by
 have hl:l.length<=137438953472:=by unfold zC at hw; omega
 unfold Mq jn;refine bU (yZ c) jq _ l (by omega) ?_ ?_ ?_
 ·intro rec; simp
 ·intro rec x hx hi;have hi0:(0:Int)<(l.length:Int):=by omega
  simp only[hi0,aiB,aiw,ajS,aiL,if_true,ajr,zq (e:=Yl) hx,aI c x (KB hw hx),aiu,show wr ((0:Int)+1)=1 from zr (show 0<4611686018427387904 by omega),show ¬ ((0:Int)>0) by omega,aiD,aiv];cases yZ c x<;>rfl
 ·intro rec i x y hx hy hi;have e:wr (((i+1:Nat):Int) - 1)=(i:Int):=by rw[zg (by omega) (by omega)]; omega
  simp only[zt hi,zt (show i<l.length by omega),e,aiB,aiw,aiL,if_true,aiG,zq (e:=Yl) hx,zq (e:=Yl) hy,aI c y (KB hw hy),BM,aiu,zr (show i+1<4611686018427387904 by omega),show (((i+1:Nat):Int)>0) by omega];cases yZ c y<;>cases jq x y<;>rfl
theorem tb (c:za) (l:zS) (hw:zC l<=1073741824):Y1 (c,l,())=some (jn c l,()):=by
 have hl:l.length<=137438953472:=by unfold zC at hw; omega
 unfold Y1 jn;refine bU (yZ c) jq _ l (by omega) ?_ ?_ ?_
 ·intro rec; simp
 ·intro rec x hx hi;have hi0:(0:Int)<(l.length:Int):=by omega
  simp only[hi0,aiB,aiw,ajS,aiL,if_true,ajr,zq (e:=Yl) hx,cy c x (KB hw hx),aiu,show wr ((0:Int)+1)=1 from zr (show 0<4611686018427387904 by omega),show ¬ ((0:Int)>0) by omega,aiD,aiv];cases yZ c x<;>rfl
 ·intro rec i x y hx hy hi;have e:wr (((i+1:Nat):Int) - 1)=(i:Int):=by rw[zg (by omega) (by omega)]; omega
  simp only[zt hi,zt (show i<l.length by omega),e,aiB,aiw,aiL,if_true,aiG,zq (e:=Yl) hx,zq (e:=Yl) hy,cy c y (KB hw hy),te,xg,aiu,zr (show i+1<4611686018427387904 by omega),show (((i+1:Nat):Int)>0) by omega];cases yZ c y<;>cases jq x y<;>rfl
noncomputable def jV (c:za) (id:Int) (p:JX):Bool:=yF c p.2 && ((decide (p.1≥0) && decide (p.1<=c.1 - 1)) && !(p.1==id))
noncomputable def zf (c:za) (r:zb):Bool:=
 zw c && ((decide (r.1≥0) && decide (r.1<=c.1 - 1)) && ((decide (r.2.1≥1) && decide (r.2.1<=60)) && ((decide (r.2.2.1≥0) && decide (r.2.2.1<=60)) &&
  (yk c r.2.2.2.1 && (jB r.2.2.2.2.1 && (jn c r.2.2.2.2.2.1 && (yw r.2.2.2.2.2.2.1 && (decide ((r.2.2.2.2.2.2.2.length:Int)<=30) && r.2.2.2.2.2.2.2.all (jV c r.1)))))))))
theorem gZ {l:jT} {x:JX} {N:Nat} (hw:yn l<=N) {i:Nat} (hx:l[i]?=some x):zh x.2<=N:=by
 have:=ZH Z3 (List.mem_of_getElem? hx); simp only[Z3] at this; unfold yn at hw; omega
theorem qR (n m:Int):decide (n>m) = !decide (n<=m):=by
 by_cases h:n<=m
 ·have:¬ n>m:=by omega
  simp[h,this]
 ·have:n>m:=by omega
  simp[h,this]
theorem Z0 (c:za) (r:zb) (hw:ze r<=137438953472):Za (c,r,())=some (zf c r,()):=by
 simp only[ze,Jm] at hw;have hh:yn r.2.2.2.2.2.2.2<=137438953472:=by omega
 have hl:r.2.2.2.2.2.2.2.length<=137438953472:=by unfold yn at hh; omega
 unfold Za zf;simp only[YN,aiu];cases hc:zw c
 ·rfl
 obtain⟨hc1,hc2⟩:=yj hc;have e1:wr (c.1 - 1)=c.1 - 1:=zg (by omega) (by omega);simp only[aiC,aiv,aiS,e1,Yh,N6 c r.2.2.2.1 (by omega),BD r.2.2.2.2.1 (by omega),BG c r.2.2.2.2.2.1 (by omega),fz,aiu,qR ((r.2.2.2.2.2.2.2.length:Nat):Int) 30];cases (decide (r.1≥0) && decide (r.1<=c.1 - 1))
 ·rfl
 cases (decide (r.2.1≥1) && decide (r.2.1<=60))
 ·rfl
 cases (decide (r.2.2.1≥0) && decide (r.2.2.1<=60))
 ·rfl
 cases yk c r.2.2.2.1
 ·rfl
 cases jB r.2.2.2.2.1
 ·rfl
 cases jn c r.2.2.2.2.2.1
 ·rfl
 cases yw r.2.2.2.2.2.2.1
 ·rfl
 cases decide ((r.2.2.2.2.2.2.2.length:Int)<=30)
 ·rfl
 simp only[aiC,aiv,aiS];refine ro (jV c r.1) r.2.2.2.2.2.2.2 (by omega) ?_ ?_
 ·intro rec s; simp
 ·intro rec i s x hx hi;simp only[zt hi,aiB,aiw,aiL,if_true,aiG,zq (e:=bI) hx,NZ c x.2 (gZ hh hx),aiu,zr (show i<4611686018427387904 by omega),jV];cases yF c x.2<;>cases (decide (x.1≥0) && decide (x.1<=c.1 - 1))<;>cases (x.1==r.1)<;>rfl
theorem sY (c:za) (r:zb) (hw:ze r<=1073741824):qY (c,r,())=some (zf c r,()):=by
 simp only[ze,Jm] at hw;have hh:yn r.2.2.2.2.2.2.2<=1073741824:=by omega
 have hl:r.2.2.2.2.2.2.2.length<=1073741824:=by unfold yn at hh; omega
 unfold qY zf;simp only[Nh,aiu];cases hc:zw c
 ·rfl
 obtain⟨hc1,hc2⟩:=yj hc;have e1:wr (c.1 - 1)=c.1 - 1:=zg (by omega) (by omega);simp only[aiC,aiv,aiS,e1,LV,OT c r.2.2.2.1 (by omega),OR r.2.2.2.2.1 (by omega),tb c r.2.2.2.2.2.1 (by omega),OL,aiu,qR ((r.2.2.2.2.2.2.2.length:Nat):Int) 30];cases (decide (r.1≥0) && decide (r.1<=c.1 - 1))
 ·rfl
 cases (decide (r.2.1≥1) && decide (r.2.1<=60))
 ·rfl
 cases (decide (r.2.2.1≥0) && decide (r.2.2.1<=60))
 ·rfl
 cases yk c r.2.2.2.1
 ·rfl
 cases jB r.2.2.2.2.1
 ·rfl
 cases jn c r.2.2.2.2.2.1
 ·rfl
 cases yw r.2.2.2.2.2.2.1
 ·rfl
 cases decide ((r.2.2.2.2.2.2.2.length:Int)<=30)
 ·rfl
 simp only[aiC,aiv,aiS];refine ro (jV c r.1) r.2.2.2.2.2.2.2 (by omega) ?_ ?_
 ·intro rec s; simp
 ·intro rec i s x hx hi;simp only[zt hi,aiB,aiw,aiL,if_true,aiG,zq (e:=bI) hx,OO c x.2 (gZ hh hx),aiu,zr (show i<4611686018427387904 by omega),jV];cases yF c x.2<;>cases (decide (x.1≥0) && decide (x.1<=c.1 - 1))<;>cases (x.1==r.1)<;>rfl
def ya (c:za) (v:Int):Int:=if zw c=true/\0<=v then Int.tmod v c.1 else -1
theorem Mn (c:za) (v:Int):jE (c,v,())=some (ya c v,()):=by
 unfold jE ya;simp only[YN,aiu];by_cases h:zw c=true
 ·obtain⟨h1,h2⟩:=yj h;simp only[h,aiC,aiv];by_cases hv:v<0
  ·rw[if_neg (show ¬ (True/\0<=v) by omega)];simp[hv]
  ·rw[if_pos (show True/\0<=v from⟨trivial,by omega⟩)];simp only[hv,aiD,aiv];rw[if_neg (by omega)]
 ·have h':zw c=false:=by simpa using h
  simp[h']
theorem lz (c:za) (v:Int):qZ (c,v,())=some (ya c v,()):=by
 unfold qZ ya;simp only[Nh,aiu];by_cases h:zw c=true
 ·obtain⟨h1,h2⟩:=yj h;simp only[h,aiC,aiv];by_cases hv:v<0
  ·rw[if_neg (show ¬ (True/\0<=v) by omega)];simp[hv]
  ·rw[if_pos (show True/\0<=v from⟨trivial,by omega⟩)];simp only[hv,aiD,aiv];rw[if_neg (by omega)]
 ·have h':zw c=false:=by simpa using h
  simp[h']
noncomputable def dx (c:za) (liars:yQ) (list:yR) (m:zo):Bool:=
 yF c m && (bif (m.1==1) then liars.any (· == ya c (zn m.2.2.1.1)) && signed liars list m.2.2.1.2.1 m.2.2.1.2.2.1 m.2.2.1.2.2.2 else
  bif (m.1==2) then signed liars list m.2.2.2.1.1 m.2.2.2.1.2.1 m.2.2.2.1.2.2 else
  bif (m.1==3) then liars.any (· == m.2.2.2.2.2.1) && signed liars list m.2.2.2.2.1.1 m.2.2.2.2.1.2.1 m.2.2.2.2.1.2.2 else true)
theorem Wr (c:za) (liars:yQ) (list:yR) (m:zo) (hw:zh m<=137438953472) (h1:liars.length<=1073741824) (h2:list.length<=137438953472):aF (c,liars,list,m,())=some (dx c liars list m,()):=by
 have n1:m.2.2.1.1.length<=137438953472:=by simp only[zh,zB] at hw; omega
 have w1:m.2.2.1.2.2.2.length<=1152921504606846976:=by simp only[zh,zB,zi,zl] at hw; omega
 have w2:m.2.2.2.1.2.2.length<=1152921504606846976:=by simp only[zh,zj,zl] at hw; omega
 have w3:m.2.2.2.2.1.2.2.length<=1152921504606846976:=by simp only[zh,zi,zl] at hw; omega
 unfold aF dx;simp only[NZ c m hw,YQ _ n1,Mn,Yg liars _ (show liars.length<=1152921504606846976 by omega),aiu,
  pn liars list _ _ m.2.2.1.2.2.2 (show liars.length<=1152921504606846976 by omega) (by omega) w1,pn liars list _ _ m.2.2.2.1.2.2 (show liars.length<=1152921504606846976 by omega) (by omega) w2,
  pn liars list _ _ m.2.2.2.2.1.2.2 (show liars.length<=1152921504606846976 by omega) (by omega) w3]
 cases yF c m
 ·rfl
 cases (m.1==1)
 ·cases (m.1==2)
  ·cases (m.1==3)
   ·rfl
   ·cases liars.any (· == m.2.2.2.2.2.1)<;>rfl
  ·rfl
 ·cases liars.any (· == ya c (zn m.2.2.1.1))<;>rfl
end G448
namespace G448
open Ev
theorem lR (a b:Int):yd (a,b,())=some (if a<b then a else b,()):=by
 unfold yd;dsimp only;by_cases h:a<b
 ·simp[h]
 ·simp[h]
theorem PO (a b:Int):yU (a,b,())=some (if a>b then a else b,()):=by
 unfold yU;dsimp only;by_cases h:a>b
 ·simp[h]
 ·simp[h]
def LO (d:yP) (keep:Int):Int:=d.2+(if 0>(if keep<(d.1.length:Int) - d.2 then keep else (d.1.length:Int) - d.2) then 0 else (if keep<(d.1.length:Int) - d.2 then keep else (d.1.length:Int) - d.2))
def KU (d:yP) (keep:Int):yP:=if yw d=true then (d.1.take (LO d keep).toNat,LO d keep) else d
theorem KR {d:yP}:yw d=true↔(d.1.length:Int)<=100000/\0<=d.2/\d.2<=(d.1.length:Int):=by
 simp[yw]
theorem ss {d:yP} (h:yw d=true) (keep:Int):0<=LO d keep/\LO d keep<=(d.1.length:Int)/\LO d keep<=100000:=by
 obtain⟨h1,h2,h3⟩:=KR.1 h;unfold LO;split<;>split<;>omega
theorem Wi (d:yP) (keep:Int) (h:d.1.length<=17592186044416):aD (d,keep,())=some (KU d keep,()):=by
 unfold aD KU;simp only[gg d (by omega),fz,aiu];cases hd:yw d with
 | false=>simp
 | true=>
  obtain⟨h1,h2,h3⟩:=KR.1 hd;obtain⟨g1,g2,g3⟩:=ss hd keep;simp only[aiC,aiv,zg (show (-9223372036854775808:Int)<=(d.1.length:Int) - d.2 by omega) (show (d.1.length:Int) - d.2<=9223372036854775807 by omega),lR,PO,aiu,if_true];rw[show d.2+(if 0>(if keep<(d.1.length:Int) - d.2 then keep else (d.1.length:Int) - d.2) then 0 else (if keep<(d.1.length:Int) - d.2 then keep else (d.1.length:Int) - d.2))=LO d keep from rfl,
   zg (by omega) (by omega),if_pos ⟨ajS 0,g1,g2⟩]
  simp only[ajr,aiW,ajT,aiU];rw[if_pos (by rw[aiM]; omega)]
def qs (d:yP):yP:=if yw d=true then (d.1,(d.1.length:Int)) else d
theorem WL (d:yP) (h:d.1.length<=17592186044416):fZ (d,())=some (qs d,()):=by
 unfold fZ qs;simp only[gg d (by omega),fz,aiu];cases hd:yw d<;>simp
abbrev zO:=List UInt8×Int×Int
def z7 (c:zO):Prop:=c.1.length<=big/\0<=c.2.1
theorem rC (x:Int):0<=band x 255/\band x 255<=255:=by
 unfold band;have h:(BitVec.ofInt 64 x &&& BitVec.ofInt 64 255).toNat<=255:=by
  rw[BitVec.toNat_and];exact Nat.le_trans Nat.and_le_right (by decide)
 rw[zg (by omega) (by omega)];omega
theorem Ca {a n:Int} (ha:0<=a) (hn:0<n):0<=a.tmod n/\a.tmod n<n:=by
 rw[Int.tmod_eq_emod_of_nonneg ha];exact⟨Int.emod_nonneg _ (by omega),Int.emod_lt_of_pos _ hn⟩
theorem Qo (c:zO) (hc:z7 c):Ens (Lt (c,())) λ r=>0<=r.1.2.1/\0<=r.2.1/\r.2.1<=255:=by
 obtain⟨h1,h2⟩:=hc;unfold Lt;refine Ens.cond (λ h => ?_) λ h=>Ens.some ⟨h2,rC _⟩;have h:c.2.1<(c.1.length:Int):=by simpa using h
 refine Ens.ite ⟨h2,h⟩ (Ens.some ⟨?_,rC _⟩);dsimp only;unfold big at h1;rw[zg (by omega) (by omega)];omega
theorem zG (c:zO) (n:Int) (hc:z7 c):Ens (zk (c,n,())) λ r=>0<=r.1.2.1/\0<=r.2.1/\(0<n->r.2.1<n):=by
 unfold zk;refine Ens.cond (λ h=>Ens.some ⟨hc.2,Int.le_refl _,λ h0=>h0⟩) λ h => ?_;have h:0<n:=by simpa using h
 refine Ens.cond (λ _ => ?_) λ _ => ?_
 ·refine (Qo c hc).bind λ r hr => ?_;rw[if_neg (show ¬ n=0 by omega)];obtain⟨g1,g2⟩:=Ca hr.2.1 h;exact Ens.some ⟨hr.1,g1,λ _=>g2⟩
 ·refine (Qo c hc).bind λ r1 hr1 => ?_;refine (Qo (c.1,r1.1.2) ⟨hc.1,hr1.1⟩).bind λ r2 hr2 => ?_;refine (Qo (c.1,r2.1.2) ⟨hc.1,hr2.1⟩).bind λ r3 hr3 => ?_;refine (Qo (c.1,r3.1.2) ⟨hc.1,hr3.1⟩).bind λ r4 hr4 => ?_;rw[if_neg (show ¬ n=0 by omega)];have e:wr (wr (wr (wr (r1.2.1*16777216)+wr (r2.2.1*65536))+wr (r3.2.1*256))+r4.2.1)=r1.2.1*16777216+r2.2.1*65536+r3.2.1*256+r4.2.1:=by
   rw[zg (n:=r1.2.1*16777216) (by omega) (by omega),zg (n:=r2.2.1*65536) (by omega) (by omega),zg (n:=r3.2.1*256) (by omega) (by omega),zg (n:=r1.2.1*16777216+r2.2.1*65536) (by omega) (by omega),
    zg (n:=r1.2.1*16777216+r2.2.1*65536+r3.2.1*256) (by omega) (by omega),zg (by omega) (by omega)]
  obtain⟨g1,g2⟩:=Ca (a:=wr (wr (wr (wr (r1.2.1*16777216)+wr (r2.2.1*65536))+wr (r3.2.1*256))+r4.2.1)) (by rw[e]; omega) h
  exact Ens.some ⟨hr4.1,g1,λ _=>g2⟩
theorem Y3 (c:zO) (n:Int) (hc:z7 c):Ens (ZG (c,n,())) λ r=>0<=r.1.2.1:=by
 unfold ZG;exact (zG c n hc).bind λ r hr=>Ens.some hr.1
theorem xB {e:Ty} {l:List (den e)} {i:Nat} (h:i<l.length):rd e l i∈l:=by
 rw[zq (ajk h)];exact List.getElem_mem h
theorem jI (c:zO) (l:List Int) (hc:z7 c) (hl:0<l.length):Ens (jv (c,l,())) λ r=>0<=r.1.2.1/\r.2.1∈l:=by
 unfold jv;refine (zG c _ hc).bind λ r hr => ?_;have h:r.2.1<(l.length:Int):=hr.2.2 (show (0:Int)<(l.length:Int) by omega);have h0:0<=r.2.1:=hr.2.1;refine Ens.ite ⟨h0,h⟩ (Ens.some ⟨hr.1,xB (e:=.i64) ?_⟩);show r.2.1.toNat<l.length;omega
theorem PQ (code:List UInt8) (hb:code.length<=big):Ens (bl (code,())) λ r=>z7 r/\r.1=code:=by
 unfold bl;refine Ens.loop (λ x=>0<=x.2.1) (λ x=>code.length - x.2.1.toNat) ?_ (Int.le_refl _) (by dsimp only; unfold big at hb; rw[jd]; omega)
 intro rec x hx XW;refine Ens.cond (λ h => ?_) λ h=>Ens.some ⟨⟨hb,Int.le_refl _⟩,rfl⟩;have h:x.2.1<(code.length:Int):=by simpa using h
 refine Ens.cond (λ h2 => ?_) λ h2=>Ens.some ⟨⟨hb,Int.le_refl _⟩,rfl⟩;refine Ens.ite ⟨hx,h⟩ ?_;unfold big at hb;rw[zg (n:=x.2.1+1) (by omega) (by omega)];refine XW _ (by show 0<=x.2.1+1; omega) (by show code.length - (x.2.1+1).toNat<code.length - x.2.1.toNat; omega)
noncomputable def JJ (n:Nat):List UInt8:=if h:n>127 then y0 ((n % 128+128:Nat):Int)::JJ (n / 128) else [y0 (n:Int)]
termination_by n
decreasing_by omega
noncomputable def jC (n:Int):List UInt8:=if 0<=n/\n<=2147483647 then JJ n.toNat else []
theorem nP {n:Nat} (h:n>127):JJ n=y0 ((n % 128+128:Nat):Int)::JJ (n / 128):=by rw[JJ,dif_pos h]
theorem nR {n:Nat} (h:¬ n>127):JJ n=[y0 (n:Int)]:=by rw[JJ,dif_neg h]
theorem nQ:∀ (k n:Nat),n<128 ^ k->(JJ n).length<=k+(if k=0 then 1 else 0)
 | 0,n,h=>by
  have:n=0:=by simpa using h
  subst this;rw[nR (by omega)];simp
 | k+1,n,h=>by
  by_cases hn:n>127
  ·rw[nP hn];have h2:n / 128<128 ^ k:=by
    rw[ajQ] at h;omega
   have ih:=nQ k (n / 128) h2;cases k with
   | zero=>simp at h2; omega
   | succ k=>simp at ih ⊢; omega
  ·rw[nR hn]; simp
theorem jD (n:Int):(jC n).length<=5:=by
 unfold jC;split
 ·next h=>exact nQ 5 n.toNat (by omega)
 ·simp
theorem xn {G:(Int×List UInt8×Unit->Option (List UInt8×Unit))->Int×List UInt8×Unit->Option (List UInt8×Unit)}
  (aa2:∀ rec (n:Nat) (out:List UInt8),¬ n>127->out.length<=1000->G rec ((n:Int),out,())=some (out++[y0 (n:Int)],()))
  (X8:∀ rec (n:Nat) (out:List UInt8),n>127->n<=2147483647->out.length<=1000->G rec ((n:Int),out,())=rec (((n / 128:Nat):Int),out++[y0 ((n % 128+128:Nat):Int)],())):
  ∀ (m n:Nat) (out:List UInt8),n<m->n<=2147483647->(n<128 ^ 5->out.length+(JJ n).length<=1000)->iter G m ((n:Int),out,())=some (out++JJ n,())
 | 0,n,out,h,_,_=>by omega
 | m+1,n,out,h,hn,ho=>by
  have ho':=ho (by omega);by_cases hc:n>127
  ·have e1:iter G (m+1) ((n:Int),out,())=iter G m (((n / 128:Nat):Int),out++[y0 ((n % 128+128:Nat):Int)],()):=X8 (iter G m) n out hc hn (by omega);rw[e1,xn aa2 X8 m (n / 128) _ (by omega) (by omega) (λ _=>by rw[nP hc] at ho'; simp at ho' ⊢; omega),nP hc]
   simp
  ·have e1:iter G (m+1) ((n:Int),out,())=some (out++[y0 (n:Int)],()):=aa2 (iter G m) n out hc (by omega);rw[e1,nR hc]
theorem gw (x lo hi:Int):yl (x,lo,hi,())=some (decide (x≥lo) && decide (x<=hi),()):=by
 unfold yl;cases h:decide (x≥lo)<;>simp[h]
theorem aaU (x lo hi:Int):jz (x,lo,hi,())=some (decide (x≥lo) && decide (x<=hi),()):=by
 unfold jz;cases h:decide (x≥lo)<;>simp[h]
theorem Xf (n m:Nat):Int.tdiv (n:Int) (m:Int)=((n / m:Nat):Int):=by
 rw[akE (by omega)]; rfl
theorem Xl (n m:Nat):Int.tmod (n:Int) (m:Int)=((n % m:Nat):Int):=by
 rw[Int.tmod_eq_emod_of_nonneg (by omega)]; rfl
theorem Ku (n:Int):j9 (n,())=some (jC n,()):=by
 unfold j9 jC;simp only[gw,aiu];by_cases h:0<=n/\n<=2147483647
 ·have e1:(decide (n≥0) && decide (n<=2147483647))=true:=by simp; omega
  simp only[e1,aiC,aiv,if_pos h];obtain⟨m,rfl⟩:=Int.eq_ofNat_of_zero_le h.1;have hm:m<=2147483647:=by omega
  have hl:=nQ 5 m (by omega);refine (xn ?_ ?_ fuel m [] (by rw[jd]; omega) hm (λ _=>by simp at hl ⊢; omega)).trans (by simp)
  ·intro rec k out hk ho;have:decide ((k:Int)>127)=false:=by simp; omega
   simp only[this,aiv,aiA,aiz];rw[if_pos (by omega)]
  ·intro rec k out hk hkm ho;have:decide ((k:Int)>127)=true:=by simp; omega
   simp only[this,aiw,aiA,aiz];rw[if_pos (by omega),show Int.tdiv (k:Int) 128=((k / 128:Nat):Int) from Xf k 128,show Int.tmod (k:Int) 128=((k % 128:Nat):Int) from Xl k 128,zg (by omega) (by omega),zg (by omega) (by omega)];rfl
 ·have e1:(decide (n≥0) && decide (n<=2147483647))=false:=by simp; omega
  simp only[e1,aiV,aiw,if_neg h]
theorem PN (c:zO) (hc:z7 c):Ens (gv (c,())) λ r=>0<=r.1.2.1/\r.2.1.length<=1000:=by
 unfold gv;refine Ens.loop (λ x=>0<=x.2.1/\x.2.1<=3/\(x.1.length:Int)<=5*x.2.1/\0<=x.2.2.1.2.1) (λ x=>(4 - x.2.1).toNat) ?_ ⟨Int.le_refl _,(show (0:Int)<=3 by decide),by simp,hc.2⟩ (by dsimp only; rw[jd]; omega)
 intro rec x hx XW;obtain⟨x1,x2,x3,x4⟩:=hx;refine (zG (c.1,x.2.2.1.2) 4 ⟨hc.1,x4⟩).bind λ r1 hr1 => ?_;have h4:=hr1.2.2 (by decide);refine Ens.cond (λ h => ?_) λ h => ?_
 ·have h:x.2.1<r1.2.1:=by simpa using h
  refine (jI (c.1,r1.1.2) _ ⟨hc.1,hr1.1⟩ (by simp)).bind λ r2 hr2 => ?_;simp only[Ku,aiu];have hl:=jD r2.2.1;refine Ens.ite (by omega) ?_;rw[zg (n:=x.2.1+1) (by omega) (by omega)];refine XW _ ⟨?_,?_,?_,hr2.1⟩ ?_
  ·show 0<=x.2.1+1; omega
  ·show x.2.1+1<=3; omega
  ·show ((x.1++jC r2.2.1).length:Int)<=5*(x.2.1+1);simp only[aiE]; omega
  ·show (4 - (x.2.1+1)).toNat<(4 - x.2.1).toNat; omega
 ·refine (Y3 (c.1,r1.1.2) 3 ⟨hc.1,hr1.1⟩).bind λ r4 hr4 => ?_;refine Ens.cond (λ _ => ?_) λ _=>Ens.some ⟨hr4,by dsimp only; omega⟩
  refine (jI (c.1,r4.1.2) _ ⟨hc.1,hr4⟩ (by simp)).bind λ r5 hr5 => ?_;refine (zG (c.1,r5.1.2) 3 ⟨hc.1,hr5.1⟩).bind λ r6 hr6 => ?_;refine Ens.ite (by simp only[aiA,aiz]; omega) (Ens.some ⟨hr6.1,?_⟩)
  simp only[aiE,aiA,aiz]; omega
theorem PG (c:zO) (hc:z7 c):Ens (gh (c,())) λ r=>0<=r.1.2.1/\r.2.1.1.length<=200000:=by
 unfold gh;refine (PN c hc).bind λ r0 hr0 => ?_;refine Ens.ite (by omega) ?_;refine (zG (c.1,r0.1.2) _ ⟨hc.1,hr0.1⟩).bind λ r1 hr1 => ?_;refine (zG (c.1,r1.1.2) 12 ⟨hc.1,hr1.1⟩).bind λ r2 hr2 => ?_;refine Ens.cond (λ _ => ?_) λ _=>Ens.cond (λ _ => ?_) λ _ => ?_
 ·refine (jI (c.1,r2.1.2) _ ⟨hc.1,hr2.1⟩ (by simp)).bind λ r3 hr3=>Ens.some ⟨hr3.1,?_⟩;simp only[aiU]; omega
 ·refine (zG (c.1,r2.1.2) 2 ⟨hc.1,hr2.1⟩).bind λ r4 hr4 => ?_;have h:=hr4.2.2 (by decide);have h0:=hr4.2.1;rw[zg (n:=100000+r4.2.1) (by omega) (by omega)];refine Ens.ite rfl (Ens.ite (by omega) (Ens.some ⟨hr4.1,?_⟩));simp only[List.length_replicate]; omega
 ·refine Ens.some ⟨hr2.1,?_⟩;simp only[aiU]; omega
theorem Vd (d:yP):da (d,d,())=some (true,()):=by
 unfold da;simp
end G448
namespace G448
open Ev Go
theorem aah (n:Int):aa0 (n,())=some (jC n,()):=by
 unfold aa0 jC;simp only[LV,aiu];by_cases h:0<=n/\n<=2147483647
 ·have e1:(decide (n≥0) && decide (n<=2147483647))=true:=by simp; omega
  simp only[e1,aiC,aiv,if_pos h];obtain⟨m,rfl⟩:=Int.eq_ofNat_of_zero_le h.1;have hm:m<=2147483647:=by omega
  have hl:=nQ 5 m (by omega);refine (xn ?_ ?_ fuel m [] (by rw[jd]; omega) hm (λ _=>by simp at hl ⊢; omega)).trans (by simp)
  ·intro rec k out hk ho;have:decide ((k:Int)≥128)=false:=by simp; omega
   simp only[this,aiv,aiA,aiz];rw[if_pos (by omega)]
  ·intro rec k out hk hk2 ho;have:decide ((k:Int)≥128)=true:=by simp; omega
   have e2:Int.tmod (k:Int) 128=((k % 128:Nat):Int):=by simp[Int.tmod]
   have e3:Int.tdiv (k:Int) 128=((k / 128:Nat):Int):=by simp[Int.tdiv]
   simp only[this,aiw,e2,e3,aiA,aiz];rw[if_pos (by omega),zg (n:=((k % 128:Nat):Int)+128) (by omega) (by omega),zg (n:=((k / 128:Nat):Int)) (by omega) (by omega)];rfl
 ·have e1:(decide (n≥0) && decide (n<=2147483647))=false:=by simp; omega
  simp only[e1,aiV,aiw,if_neg h]
noncomputable def La (s:List UInt8):List UInt8:=jC (s.length:Int)++s
noncomputable def nums (l:List Int):List UInt8:=(l.map jC).flatten
theorem Lb (s:List UInt8):(La s).length<=5+s.length:=by
 unfold La;have:=jD (s.length:Int);rw[aiE]; omega
theorem K4:∀ l:List Int,(nums l).length<=5*l.length
 | []=>by simp[nums]
 | x::l=>by
  have h1:=jD x;have h2:=K4 l;simp only[nums,aiO,ajN,aiE,aiA] at *;omega
theorem fN (s:List UInt8) (h:s.length<=137438953472):Mm (s,())=some (La s,()):=by
 unfold Mm La;simp only[Ku,aiu];have:=jD (s.length:Int);rw[if_pos (by omega)]
theorem aaS (s:List UInt8) (h:s.length<=137438953472):aa5 (s,())=some (La s,()):=by
 unfold aa5 La;simp only[aah,aiu];have:=jD (s.length:Int);rw[if_pos (by omega)]
theorem uu:∀ (l:List Int) (out:List UInt8),l.foldl (λ o x=>o++jC x) out=out++nums l
 | [],out=>by simp[nums]
 | x::l,out=>by rw[ajf,uu l]; simp[nums]
theorem uv {put:Int×Unit->Option (List UInt8×Unit)} (hp:∀ n,put (n,())=some (jC n,())) (l:List Int) (hl:l.length<=137438953472) (out:List UInt8) (ho:out.length<=1000000000000)
  {G:(List UInt8×Int×Unit->Option (List UInt8×Unit))->List UInt8×Int×Unit->Option (List UInt8×Unit)}
  (hG:∀ rec o (i:Int),G rec (o,i,())=bif decide (i<(l.length:Int)) then (if 0<=i/\i<(l.length:Int) then (put (rd .i64 l i.toNat,())).bind λ r1=>
   if (o.length+r1.1.length)*1<=70368744177664 then rec (o++r1.1,wr (i+1),()) else none else none) else some (o,())):
  iter G fuel (out,0,())=some (out++nums l,()):=by
 have:=M8 (λ i (o:List UInt8)=>(o,i,())) l (λ o x=>o++jC x) (λ o=>some (o,())) (by omega) (λ i o=>o.length<=1000000000000+5*i) (G:=G) ?_ ?_ (s0:=out) (by omega)
 ·rw[this,uu]
 ·intro rec o h; rw[hG]; simp
 ·intro rec i o x hx hi h;have hpl:=jD x;refine⟨by rw[aiE]; omega,?_⟩
  rw[hG];simp only[zt hi,aiB,aiw,aiL,if_true,aiG,zq (e:=.i64) hx,hp,aiu,zr (show i<4611686018427387904 by omega)];rw[if_pos (by omega)]
theorem pq (l:List Int) (hl:l.length<=137438953472):qk (l,())=some (nums l,()):=by
 unfold qk;exact (uv (put:=j9) Ku l hl [] (by simp) (λ rec o i=>rfl)).trans (by simp)
theorem aaT (l:List Int) (hl:l.length<=137438953472):aa6 (l,())=some (nums l,()):=by
 unfold aa6;exact (uv (put:=aa0) aah l hl [] (by simp) (λ rec o i=>rfl)).trans (by simp)
noncomputable def L6 (c:za) (q:zJ):List UInt8:=
 bif yg c q then ((jC q.1++La q.2.1)++jC (q.2.2.length:Int))++nums q.2.2 else []
theorem NB (c:za) (q:zJ):(L6 c q).length<=15+5*zi q:=by
 unfold L6;cases yg c q
 ·simp
 ·have h1:=jD q.1;have h2:=Lb q.2.1;have h3:=jD (q.2.2.length:Int);have h4:=K4 q.2.2;simp only[aiw,aiE,zi,zl];omega
theorem pi (c:za) (q:zJ) (hw:zi q<=137438953472):N3 (c,q,())=some (L6 c q,()):=by
 have h1:q.2.1.length<=137438953472:=by simp only[zi] at hw; omega
 have h2:q.2.2.length<=137438953472:=by simp only[zi,zl] at hw; omega
 have l1:=jD q.1;have l2:=Lb q.2.1;have l3:=jD (q.2.2.length:Int);unfold N3 L6;simp only[Lq c q hw,Ku,fN _ h1,aiu];cases yg c q
 ·rfl
 simp only[aiC,aiv,aiw,aiE];rw[if_pos (by omega),if_pos (by omega)];exact uv (put:=j9) Ku q.2.2 h2 _ (by simp only[aiE]; omega) (λ rec o i=>by simp only[Ku,aiu])
theorem acj (c:za) (q:zJ) (hw:zi q<=1073741824):aaj (c,q,())=some (L6 c q,()):=by
 have h1:q.2.1.length<=137438953472:=by simp only[zi] at hw; omega
 have h2:q.2.2.length<=137438953472:=by simp only[zi,zl] at hw; omega
 have l1:=jD q.1;have l2:=Lb q.2.1;have l3:=jD (q.2.2.length:Int);have l4:=K4 q.2.2;unfold aaj L6;simp only[lw c q hw,aah,aaS _ h1,aaT _ h2,aiu];cases yg c q
 ·rfl
 simp only[aiC,aiv,aiw,aiE];rw[if_pos (by omega),if_pos (by omega),if_pos (by omega)]
noncomputable def J9 (c:za) (m:zo):List UInt8:=
 bif yF c m then (bif (m.1==1) then (jC m.1++La m.2.2.1.1)++L6 c m.2.2.1.2 else
  bif (m.1==2) then (((jC m.1++jC m.2.2.2.1.1)++La m.2.2.2.1.2.1)++jC (m.2.2.2.1.2.2.length:Int))++nums m.2.2.2.1.2.2 else
  bif (m.1==3) then (jC m.1++nums [m.2.1,m.2.2.2.2.2.1])++L6 c m.2.2.2.2.1 else
  jC m.1++nums [m.2.2.2.2.2.2.1,m.2.2.2.2.2.2.2.1,m.2.2.2.2.2.2.2.2.1,m.2.2.2.2.2.2.2.2.2]) else []
theorem RM (c:za) (m:zo):(J9 c m).length<=60+5*zh m:=by
 unfold J9;have h0:=jD m.1;have h1:=Lb m.2.2.1.1;have h2:=NB c m.2.2.1.2;have h3:=jD m.2.2.2.1.1;have h4:=Lb m.2.2.2.1.2.1;have h5:=jD (m.2.2.2.1.2.2.length:Int);have h6:=K4 m.2.2.2.1.2.2;have h7:=K4 [m.2.1,m.2.2.2.2.2.1];have h8:=NB c m.2.2.2.2.1;have h9:=K4 [m.2.2.2.2.2.2.1,m.2.2.2.2.2.2.2.1,m.2.2.2.2.2.2.2.2.1,m.2.2.2.2.2.2.2.2.2];simp only[aiA,aiz] at h7 h9;cases yF c m
 ·simp
 cases (m.1==1)
 ·cases (m.1==2)
  ·cases (m.1==3)
   ·simp only[aiw,aiv,aiE]; omega
   ·simp only[aiw,aiv,aiE,zh]; omega
  ·simp only[aiw,aiv,aiE,zh,zj,zl]; omega
 ·simp only[aiw,aiE,zh,zB]; omega
theorem Ws (c:za) (m:zo) (hw:zh m<=137438953472):fJ (c,m,())=some (J9 c m,()):=by
 have w1:m.2.2.1.1.length<=137438953472:=by simp only[zh,zB] at hw; omega
 have w2:zi m.2.2.1.2<=137438953472:=by simp only[zh,zB] at hw; omega
 have w3:m.2.2.2.1.2.1.length<=137438953472:=by simp only[zh,zj] at hw; omega
 have w4:m.2.2.2.1.2.2.length<=137438953472:=by simp only[zh,zj,zl] at hw; omega
 have w5:zi m.2.2.2.2.1<=137438953472:=by simp only[zh] at hw; omega
 have h0:=jD m.1;have h1:=Lb m.2.2.1.1;have h2:=NB c m.2.2.1.2;have h3:=jD m.2.2.2.1.1;have h4:=Lb m.2.2.2.1.2.1;have h5:=jD (m.2.2.2.1.2.2.length:Int);have h6:=K4 m.2.2.2.1.2.2;have h7:=K4 [m.2.1,m.2.2.2.2.2.1];have h8:=NB c m.2.2.2.2.1;have h9:=K4 [m.2.2.2.2.2.2.1,m.2.2.2.2.2.2.2.1,m.2.2.2.2.2.2.2.2.1,m.2.2.2.2.2.2.2.2.2];simp only[aiA,aiz] at h7 h9;unfold fJ J9;simp only[NZ c m hw,Ku,fN _ w1,fN _ w3,pi c _ w2,pi c _ w5,pq _ w4,pq [m.2.1,m.2.2.2.2.2.1] (by simp),
  pq [m.2.2.2.2.2.2.1,m.2.2.2.2.2.2.2.1,m.2.2.2.2.2.2.2.2.1,m.2.2.2.2.2.2.2.2.2] (by simp),Option.bind_some,List.length_append]
 cases yF c m
 ·rfl
 cases (m.1==1)
 ·cases (m.1==2)
  ·cases (m.1==3)
   ·simp only[aiC,aiw,aiv]; rw[if_pos (by omega)]
   ·simp only[aiC,aiw,aiv]; rw[if_pos (by omega),if_pos (by omega)]
  ·simp only[aiC,aiw,aiv]; rw[if_pos (by omega),if_pos (by omega),if_pos (by omega),if_pos (by omega)]
 ·simp only[aiC,aiw,aiv]; rw[if_pos (by omega),if_pos (by omega)]
theorem Vu (b k:Nat) (hb:b<128) (hk:k<=4):shl (b:Int) (7*(k:Int))=((b*128 ^ k:Nat):Int):=by
 unfold shl;have e:min (7*(k:Int)).toNat 64=7*k:=by omega
 rw[e];have e2:(2:Int) ^ (7*k)=((128 ^ k:Nat):Int):=by
  rw[Int.pow_mul];simp
 rw[e2,←Int.natCast_mul];have:b*128 ^ k<=127*128 ^ 4:=Nat.mul_le_mul (by omega) (Nat.pow_le_pow_right (by decide) hk);exact zg (by omega) (by omega)
theorem G7 (v b k:Nat) (hv:v<128 ^ k) (hb:b<128) (hk:k<=4):bor (v:Int) ((b*128 ^ k:Nat):Int)=((v+b*128 ^ k:Nat):Int):=by
 have h4:128 ^ k<=128 ^ 4:=Nat.pow_le_pow_right (by decide) hk;have hbk:b*128 ^ k<=127*128 ^ 4:=Nat.mul_le_mul (by omega) h4;unfold bor;have e1:(BitVec.ofInt 64 (v:Int)).toNat=v:=by
  rw[BitVec.toNat_ofInt]; omega
 have e2:(BitVec.ofInt 64 ((b*128 ^ k:Nat):Int)).toNat=b*128 ^ k:=by
  rw[BitVec.toNat_ofInt]; omega
 rw[BitVec.toNat_or,e1,e2];have e3:v ||| b*128 ^ k=v+b*128 ^ k:=by
  have:=Nat.two_pow_add_eq_or_of_lt (i:=7*k) (b:=v) (by rw[Nat.pow_mul]; exact hv) b
  rw[Nat.pow_mul,Nat.mul_comm] at this;rw[Nat.or_comm,←this,Nat.add_comm]
 rw[e3];exact zg (by omega) (by omega)
def Jy:List UInt8->Nat->Nat->Nat->Option (Nat×Nat)
 | [],_,_,_=>none
 | b::l,v,k,0=>none
 | b::l,v,k,n+1=>if b.toNat<128 then (if (k>0/\b.toNat=0)∨v+b.toNat*128 ^ k>2147483647 then none else some (v+b.toNat*128 ^ k,k+1)) else Jy l (v+(b.toNat % 128)*128 ^ k) (k+1) n
def zm (s:List UInt8) (at_:Int):Int×Int×Bool:=
 if at_<0 then (0,0,false) else match Jy (s.drop at_.toNat) 0 0 5 with
  | some p=>((p.1:Int),at_+(p.2:Int),true)
  | none=>(0,0,false)
theorem sJ (v k n:Nat):Jy [] v k n=none:=by cases n<;>rfl
theorem Sp {k:Nat} (h:k<=4):128 ^ k<=268435456:=by
 have:128 ^ k<=128 ^ 4:=Nat.pow_le_pow_right (by decide) h;omega
theorem pd (s:List UInt8) (at_:Int) (hs:s.length<=137438953472):NU (s,at_,())=some ((zm s at_).1,(zm s at_).2.1,(zm s at_).2.2,()):=by
 unfold NU zm;dsimp only;by_cases ha:at_<0
 ·rw[if_pos ha];refine (walk 5 (λ i (v:Nat)=>((v:Int),i,())) (λ i v=>True) (λ i v=>some (0,0,false,())) (by decide) ?_ ?_ (s0:=0) trivial).trans rfl
  ·intro rec v _; simp
  ·intro rec i v hi _;left;simp[ha,show (i:Int)<5 by omega]
 rw[if_neg ha];obtain⟨a,rfl⟩:∃ a:Nat,at_=(a:Int):=⟨at_.toNat,by omega⟩
 simp only[aiG,ha,aiD,aiv];refine (walk 5 (λ i (v:Nat)=>((v:Int),i,())) (λ i v=>v<128 ^ i) (λ i v=>match Jy (s.drop (a+i)) v i (5 - i) with|some p=>some ((p.1:Int),(a:Int)+(p.2:Int),true,())|none=>some (0,0,false,())) (by decide) ?_ ?_ (s0:=0) (by decide)).trans ?_
 ·intro rec v hv;have:Jy (s.drop (a+5)) v 5 0=none:=by cases s.drop (a+5)<;>rfl
  simp[this]
 ·intro rec i v hi hv;have hp:=Sp (k:=i) (by omega);have e1:wr ((s.length:Int) - (i:Int))=(s.length:Int) - (i:Int):=zg (by omega) (by omega);have e5:((i:Int)<5):=by omega
  simp only[e5,aiB,aiw,e1];by_cases hlt:a+i<s.length
  ·have h1:¬ ((a:Int)≥(s.length:Int) - (i:Int)):=by omega
   have e2:wr ((a:Int)+(i:Int))=((a+i:Nat):Int):=by rw[zg (by omega) (by omega)]; omega
   have e3:wr (7*(i:Int))=7*(i:Int):=zg (by omega) (by omega);have hx:s[a+i]?=some s[a+i]:=List.getElem?_eq_getElem hlt;simp only[h1,aiD,aiv,e2,e3,aiG,zq (e:=.u8) hx];rw[if_pos (by omega),if_neg (by omega),aiN hlt,show 5 - i=(5 - (i+1))+1 by omega];simp only[Jy];have e4:Int.tmod (((s[a+i].toNat:Nat):Int)) 128=((s[a+i].toNat % 128:Nat):Int):=by simp[Int.tmod]
   rw[e4,Vu _ i (Nat.mod_lt _ (by decide)) (by omega),G7 v _ i hv (Nat.mod_lt _ (by decide)) (by omega)];by_cases hb:s[a+i].toNat<128
   ·left;have hm:s[a+i].toNat % 128=s[a+i].toNat:=Nat.mod_eq_of_lt hb;have hb':(((s[a+i].toNat:Nat):Int)<128):=by omega
    simp only[hb',aiB,aiw,hm,hb,if_true];have hbk:s[a+i].toNat*128 ^ i<=127*268435456:=Nat.mul_le_mul (by omega) hp;have e6:wr (((a+i:Nat):Int)+1)=(a:Int)+((i+1:Nat):Int):=by rw[zg (by omega) (by omega)]; omega
    by_cases hz:i>0
    ·have hz':((i:Int)>0):=by omega
     simp only[hz',aiB,aiw];by_cases h0:s[a+i].toNat=0
     ·have:(((s[a+i].toNat:Nat):Int)==0)=true:=by simp[h0]
      rw[this,if_pos (.inl ⟨hz,h0⟩)]; rfl
     ·have:(((s[a+i].toNat:Nat):Int)==0)=false:=by rw[beq_eq_false_iff_ne]; omega
      rw[this];by_cases aal:v+s[a+i].toNat*128 ^ i>2147483647
      ·rw[if_pos (.inr aal)];simp only[cond_false,show (((v+s[a+i].toNat*128 ^ i:Nat):Int)>2147483647) by omega,decide_true,cond_true]
      ·rw[if_neg (by intro h; rcases h with h|h; exact h0 h.2; exact aal h)]
       simp only[cond_false,show ¬ (((v+s[a+i].toNat*128 ^ i:Nat):Int)>2147483647) by omega,decide_false,e6]
    ·have hz':¬ ((i:Int)>0):=by omega
     simp only[hz',aiD,aiv];by_cases aal:v+s[a+i].toNat*128 ^ i>2147483647
     ·rw[if_pos (.inr aal)];simp only[show (((v+s[a+i].toNat*128 ^ i:Nat):Int)>2147483647) by omega,decide_true,cond_true]
     ·rw[if_neg (by intro h; rcases h with h|h; exact hz h.1; exact aal h)]
      simp only[show ¬ (((v+s[a+i].toNat*128 ^ i:Nat):Int)>2147483647) by omega,decide_false,cond_false,e6]
   ·right;have hb':¬ (((s[a+i].toNat:Nat):Int)<128):=by omega
    refine⟨v+s[a+i].toNat % 128*128 ^ i,?_,?_,?_⟩
    ·rw[ajQ];have:s[a+i].toNat % 128*128 ^ i<=127*128 ^ i:=Nat.mul_le_mul (by omega) (Nat.le_refl _);omega
    ·simp only[hb',aiD,aiv,zr (show i<4611686018427387904 by omega)]
    ·simp only[hb,if_false];rw[show a+(i+1)=a+i+1 by omega]
  ·left;have h1:((a:Int)≥(s.length:Int) - (i:Int)):=by omega
   rw[ak7 (by omega),sJ];simp only[h1,aiB,aiw]
 ·simp only[ajF,ajT];cases Jy (s.drop a) 0 0 5<;>rfl
abbrev yJ:=Int×Bool
def zp (s:List UInt8) (r:yJ):yJ×Int:=
 if (zm s r.1).2.2=true/\r.2=true then (((zm s r.1).2.1,true),(zm s r.1).1) else ((r.1,false),0)
def ye (s:List UInt8) (at_:Int):List UInt8×Int×Bool:=
 if (zm s at_).2.2=true/\(zm s at_).1<=(s.length:Int) - (zm s at_).2.1 then
  ((s.drop (zm s at_).2.1.toNat).take (zm s at_).1.toNat,(zm s at_).2.1+(zm s at_).1,true) else ([],0,false)
def yL (s:List UInt8) (r:yJ):yJ×List UInt8:=
 if (ye s r.1).2.2=true/\r.2=true then (((ye s r.1).2.1,true),(ye s r.1).1) else ((r.1,false),[])
theorem sK:∀ (l:List UInt8) (v k n:Nat) {p:Nat×Nat},Jy l v k n=some p->p.1<=2147483647/\k+1<=p.2/\p.2<=k+l.length
 | [],v,k,n,p,h=>by rw[sJ] at h; cases h
 | b::l,v,k,0,p,h=>by cases h
 | b::l,v,k,n+1,p,h=>by
  simp only[Jy] at h;split at h
  ·split at h
   ·cases h
   ·next hc=>
    cases h;simp only[aiA];have:¬ v+b.toNat*128 ^ k>2147483647:=λ hh=>hc (.inr hh);omega
  ·have:=sK l _ _ n h;simp only[aiA];omega
theorem Na (s:List UInt8) (at_:Int) (h:(zm s at_).2.2=true):0<=at_/\0<=(zm s at_).1/\(zm s at_).1<=2147483647/\at_+1<=(zm s at_).2.1/\(zm s at_).2.1<=(s.length:Int):=by
 unfold zm at h ⊢;split at h
 ·simp at h
 ·next ha=>
  rw[if_neg ha];cases hg:Jy (s.drop at_.toNat) 0 0 5 with
  | none=>rw[hg] at h; simp at h
  | some p=>
   have:=sK _ _ _ _ hg;simp only[aiR] at this ⊢;omega
theorem qi (s:List UInt8) (r:yJ) (hs:s.length<=137438953472):Zo ((s,r),())=some ((s,(zp s r).1),(zp s r).2,()):=by
 unfold Zo zp;simp only[pd s r.1 hs,aiu];cases hg:(zm s r.1).2.2<;>cases hr:r.2<;>simp
theorem B9 (s:List UInt8) (n at_:Int) (h1:0<=n) (h2:0<=at_):List.take ((at_+n).toNat - at_.toNat) (List.drop at_.toNat s)=(s.drop at_.toNat).take n.toNat:=by
 congr 1; omega
theorem Wk (s:List UInt8) (at_:Int) (hs:s.length<=137438953472):fD (s,at_,())=some ((ye s at_).1,(ye s at_).2.1,(ye s at_).2.2,()):=by
 unfold fD ye;simp only[pd s at_ hs,aiu];cases hg:(zm s at_).2.2
 ·simp
 ·obtain⟨h0,h1,h2,h3,h4⟩:=Na s at_ hg;have e1:wr ((s.length:Int) - (zm s at_).2.1)=(s.length:Int) - (zm s at_).2.1:=zg (by omega) (by omega);have e2:wr ((zm s at_).2.1+(zm s at_).1)=(zm s at_).2.1+(zm s at_).1:=zg (by omega) (by omega);simp only[e1,e2,aiC,aiv];by_cases hc:(zm s at_).1<=(s.length:Int) - (zm s at_).2.1
  ·rw[if_pos (show True/\(zm s at_).1<=(s.length:Int) - (zm s at_).2.1 from⟨trivial,hc⟩)];simp only[show ¬ (zm s at_).1>(s.length:Int) - (zm s at_).2.1 by omega,aiD,aiv];rw[if_pos (by omega),B9 _ _ _ h1 (by omega)]
  ·rw[if_neg (show ¬ (True/\(zm s at_).1<=(s.length:Int) - (zm s at_).2.1) from λ h=>hc h.2)];simp only[show (zm s at_).1>(s.length:Int) - (zm s at_).2.1 by omega,aiB,aiw]
theorem pp (s:List UInt8) (r:yJ) (hs:s.length<=137438953472):Mu ((s,r),())=some ((s,(yL s r).1),(yL s r).2,()):=by
 unfold Mu yL;simp only[Wk s r.1 hs,aiu];cases hg:(ye s r.1).2.2<;>cases hr:r.2<;>simp
def ZI (s:List UInt8):Nat->yJ->List Int->yJ×List Int
 | 0,r,out=>(r,out)
 | n+1,r,out=>if r.2=true then ZI s n (zp s r).1 (out++[(zp s r).2]) else (r,out)
def ZT (s:List UInt8) (r:yJ):yJ×List Int:=ZI s (zp s r).2.toNat (zp s r).1 []
theorem Sw (s:List UInt8) (r:yJ):0<=(zp s r).2/\(zp s r).2<=2147483647:=by
 unfold zp;split
 ·next h=>have:=Na s r.1 h.1; simp only; omega
 ·simp
theorem BP (s:List UInt8) (r:yJ) (hs:s.length<=137438953472):be ((s,r),())=some ((s,(ZT s r).1),(ZT s r).2,()):=by
 obtain⟨b1,b2⟩:=Sw s r;unfold be ZT;dsimp only;rw[qi s r hs,aiu];dsimp only;generalize hn:(zp s r).2=n at *;obtain⟨n,rfl⟩:∃ m:Nat,n=(m:Int):=⟨n.toNat,by omega⟩
 simp only[aiG];refine (walk n (λ i (t:List Int×yJ)=>(t.1,i,(s,t.2),())) (λ i t=>t.1.length<=i) (λ i t=>some ((s,(ZI s (n - i) t.2 t.1).1),(ZI s (n - i) t.2 t.1).2,())) (by omega) ?_ ?_ (s0:=([],(zp s r).1)) (by simp)).trans (by simp)
 ·intro rec t ht;simp[ZI]
 ·intro rec i t hi ht;rw[show n - i=(n - (i+1))+1 by omega];simp only[ZI,show ((i:Int)<(n:Int)) by omega,aiB,aiw];cases hr:t.2.2
  ·left;simp
  ·right;refine⟨(t.1++[(zp s t.2).2],(zp s t.2).1),by simp; omega,?_,by simp⟩
   simp only[aiw];simp only[qi s t.2 hs,aiu,aiA,aiz,zr (show i<4611686018427387904 by omega)];rw[if_pos (by omega)]
def js (s:List UInt8) (r:yJ):yJ×zJ:=
 ((ZT s (yL s (zp s r).1).1).1,((zp s r).2,(yL s (zp s r).1).2,(ZT s (yL s (zp s r).1).1).2))
theorem BO (s:List UInt8) (r:yJ) (hs:s.length<=137438953472):qj ((s,r),())=some ((s,(js s r).1),(js s r).2,()):=by
 unfold qj;dsimp only;rw[qi s r hs,aiu];dsimp only;rw[pp s _ hs,aiu];dsimp only;rw[BP s _ hs,aiu];rfl
theorem nU {s:List UInt8} {r:yJ} (h:(zp s r).1.2=true):r.2=true/\0<=r.1/\r.1+1<=(zp s r).1.1/\(zp s r).1.1<=(s.length:Int):=by
 unfold zp at h ⊢;split at h
 ·next hc=>
  rw[if_pos hc];have:=Na s r.1 hc.1;exact⟨hc.2,this.1,this.2.2.2.1,this.2.2.2.2⟩
 ·simp at h
theorem eu {s:List UInt8} {r:yJ} (h:(yL s r).1.2=true):r.2=true/\0<=r.1/\r.1+1+((yL s r).2.length:Int)<=(yL s r).1.1/\(yL s r).1.1<=(s.length:Int):=by
 unfold yL at h ⊢;split at h
 ·next hc=>
  rw[if_pos hc];obtain⟨h1,h2⟩:=hc;refine⟨h2,?_⟩;unfold ye at h1 ⊢;split at h1
  ·next hg=>
   rw[if_pos hg];have:=Na s r.1 hg.1;simp only[aiM,aiR];omega
  ·simp at h1
 ·simp at h
theorem Cv (s:List UInt8):∀ (n:Nat) (r:yJ) (out:List Int),(ZI s n r out).1.2=true->r.2=true/\r.1+((ZI s n r out).2.length:Int)<=(ZI s n r out).1.1+(out.length:Int)/\out.length<=(ZI s n r out).2.length/\
  ((ZI s n r out).1.1<=(s.length:Int)∨ZI s n r out=(r,out))
 | 0,r,out,h=>⟨h,by simp[ZI],by simp[ZI],.inr rfl⟩
 | n+1,r,out,h=>by
  simp only[ZI] at h ⊢;split at h
  ·next hr=>
   rw[if_pos hr];obtain⟨h1,h2,h3,h4⟩:=Cv s n _ _ h;obtain⟨g1,g2,g3,g4⟩:=nU h1;simp only[aiE,aiA,aiz] at h2 h3;refine⟨hr,by omega,by omega,.inl ?_⟩;rcases h4 with h4|h4
   ·exact h4
   ·rw[h4]; exact g4
  ·next hr=>exact absurd h hr
theorem xz {s:List UInt8} {r:yJ} (h:(ZT s r).1.2=true):r.2=true/\0<=r.1/\r.1+1+((ZT s r).2.length:Int)<=(ZT s r).1.1/\(ZT s r).1.1<=(s.length:Int):=by
 unfold ZT at h ⊢;obtain⟨h1,h2,h3,h4⟩:=Cv s _ _ _ h;obtain⟨g1,g2,g3,g4⟩:=nU h1;simp only[aiz] at h2;refine⟨g1,g2,by omega,?_⟩;rcases h4 with h4|h4
 ·exact h4
 ·rw[h4]; exact g4
theorem nV {s:List UInt8} {r:yJ} (h:(js s r).1.2=true):r.2=true/\0<=r.1/\r.1+(zi (js s r).2:Int)<=(js s r).1.1/\(js s r).1.1<=(s.length:Int):=by
 unfold js at h ⊢;obtain⟨a1,a2,a3,a4⟩:=xz h;obtain⟨b1,b2,b3,b4⟩:=eu a1;obtain⟨c1,c2,c3,c4⟩:=nU b1;simp only[zi,zl];exact⟨c1,c2,by omega,a4⟩
def qE:zo:=(0,0,([],0,[],[]),(0,[],[]),(0,[],[]),0,(0,0,0,0))
noncomputable def Jw (c:za) (s:List UInt8) (r:yJ) (m:zo):zo×Bool:=bif r.2 && (r.1==(s.length:Int) && yF c m) then (m,true) else (qE,false)
theorem aZ (c:za) (s:List UInt8) (r:yJ) (m:zo) (hw:r.2=true->r.1=(s.length:Int)->zh m<=1073741824):
  (bif !r.2 then some (qE,false,()) else bif (r.1 != (s.length:Int)) then some (qE,false,()) else (ZZ (c,m,())).bind λ r3=>bif !r3.1 then some (qE,false,()) else some (m,true,()))=some ((Jw c s r m).1,(Jw c s r m).2,()):=by
 unfold Jw;cases hr:r.2
 ·rfl
 ·by_cases hl:r.1=(s.length:Int)
  ·have e:(r.1 != (s.length:Int))=false:=by simp[hl]
   have e':(r.1==(s.length:Int))=true:=by simp[hl]
   rw[e,e',NZ c m (by have:=hw hr hl; omega)]
   cases h:yF c m<;>simp[h]
  ·have e:(r.1 != (s.length:Int))=true:=by simp[hl]
   have e':(r.1==(s.length:Int))=false:=by simp[hl]
   rw[e,e']; rfl
noncomputable def JF (c:za) (s:List UInt8):zo×Bool:=
 let a:=zp s (0,true)
 bif (a.2==1) then Jw c s (js s (yL s a.1).1).1 (a.2,0,((yL s a.1).2,(js s (yL s a.1).1).2),(0,[],[]),(0,[],[]),0,(0,0,0,0)) else
 bif (a.2==2) then Jw c s (ZT s (yL s (zp s a.1).1).1).1 (a.2,0,([],0,[],[]),((zp s a.1).2,(yL s (zp s a.1).1).2,(ZT s (yL s (zp s a.1).1).1).2),(0,[],[]),0,(0,0,0,0)) else
 bif (a.2==3) then Jw c s (js s (zp s (zp s a.1).1).1).1 (a.2,(zp s a.1).2,([],0,[],[]),(0,[],[]),(js s (zp s (zp s a.1).1).1).2,(zp s (zp s a.1).1).2,(0,0,0,0)) else
 bif (a.2==4) then Jw c s (zp s (zp s (zp s (zp s a.1).1).1).1).1 (a.2,0,([],0,[],[]),(0,[],[]),(0,[],[]),0,((zp s a.1).2,(zp s (zp s a.1).1).2,(zp s (zp s (zp s a.1).1).1).2,(zp s (zp s (zp s (zp s a.1).1).1).1).2)) else
 Jw c s a.1 (a.2,0,([],0,[],[]),(0,[],[]),(0,[],[]),0,(0,0,0,0))
theorem w1 (s:List UInt8) (a:yJ) (k:Int) (hs:s.length<=1073741824) (h:(js s (yL s a).1).1.2=true):zh (k,0,((yL s a).2,(js s (yL s a).1).2),(0,[],[]),(0,[],[]),0,(0,0,0,0))<=1073741824:=by
 obtain⟨h1,h2,h3,h4⟩:=nV h;obtain⟨g1,g2,g3,g4⟩:=eu h1;simp only[zh,zB,zj,zi,zl,aiz] at h3 ⊢;omega
theorem w2 (s:List UInt8) (a:yJ) (k x:Int) (hs:s.length<=1073741824) (h:(ZT s (yL s a).1).1.2=true):zh (k,0,([],0,[],[]),(x,(yL s a).2,(ZT s (yL s a).1).2),(0,[],[]),0,(0,0,0,0))<=1073741824:=by
 obtain⟨h1,h2,h3,h4⟩:=xz h;obtain⟨g1,g2,g3,g4⟩:=eu h1;simp only[zh,zB,zj,zi,zl,aiz];omega
theorem w3 (s:List UInt8) (a:yJ) (k x y:Int) (hs:s.length<=1073741824) (h:(js s a).1.2=true):zh (k,x,([],0,[],[]),(0,[],[]),(js s a).2,y,(0,0,0,0))<=1073741824:=by
 obtain⟨h1,h2,h3,h4⟩:=nV h;simp only[zh,zB,zj,zi,zl,aiz] at h3 ⊢;omega
theorem w4 (k:Int) (t:zP):zh (k,0,([],0,[],[]),(0,[],[]),(0,[],[]),0,t)<=1073741824:=by
 simp[zh,zB,zj,zi,zl]
theorem BA (c:za) (s:List UInt8) (hs:s.length<=1073741824):NY (c,s,())=some ((JF c s).1,(JF c s).2,()):=by
 have hl:s.length<=137438953472:=by omega
 unfold NY JF;simp only[qi s _ hl,pp s _ hl,BP s _ hl,BO s _ hl,aiu];cases ((zp s (0,true)).2==1)
 ·cases ((zp s (0,true)).2==2)
  ·cases ((zp s (0,true)).2==3)
   ·cases ((zp s (0,true)).2==4)
    ·exact aZ c s _ _ (λ _ _=>w4 _ _)
    ·exact aZ c s _ _ (λ _ _=>w4 _ _)
   ·exact aZ c s _ _ (λ h _=>w3 s _ _ _ _ hs h)
  ·exact aZ c s _ _ (λ h _=>w2 s _ _ _ hs h)
 ·exact aZ c s _ _ (λ h _=>w1 s _ _ hs h)
theorem qP (c:za) (s:List UInt8) (r:yJ) (m:zo) (hw:r.2=true->zh m<=1073741824):zh (Jw c s r m).1<=1073741824:=by
 unfold Jw;cases hr:r.2
 ·simp[qE,zh,zB,zj,zi,zl]
 ·cases (r.1==(s.length:Int) && yF c m)
  ·simp[qE,zh,zB,zj,zi,zl]
  ·exact hw hr
theorem RN (c:za) (s:List UInt8) (hs:s.length<=1073741824):zh (JF c s).1<=1073741824:=by
 unfold JF;dsimp only;cases ((zp s (0,true)).2==1)
 ·cases ((zp s (0,true)).2==2)
  ·cases ((zp s (0,true)).2==3)
   ·cases ((zp s (0,true)).2==4)
    ·exact qP c s _ _ (λ _=>w4 _ _)
    ·exact qP c s _ _ (λ _=>w4 _ _)
   ·exact qP c s _ _ (λ h=>w3 s _ _ _ _ hs h)
  ·exact qP c s _ _ (λ h=>w2 s _ _ _ hs h)
 ·exact qP c s _ _ (λ h=>w1 s _ _ hs h)
def Z5:zI:=(0,0,(0,[],[]),[])
def Y6 (id:Int):zb:=(id,1,0,Z5,[],[],([],0),[])
def XT:zb:=(0,0,0,Z5,[],[],([],0),[])
theorem RV (id:Int):ze (Y6 id)=0:=rfl
noncomputable def JL (c:za) (id:Int):zb×Bool:=bif zf c (Y6 id) then (Y6 id,true) else (XT,false)
theorem Wz (c:za) (id:Int):fQ (c,id,())=some ((JL c id).1,(JL c id).2,()):=by
 have h:=Z0 c (Y6 id) (by rw[RV]; decide)
 unfold fQ JL;dsimp only;simp only[Y6,Z5] at h ⊢;rw[h];cases zf c (id,1,0,(0,0,(0,[],[]),[]),[],[],([],0),[])<;>rfl
theorem SA (c:za) (id:Int):ze (JL c id).1=0:=by
 unfold JL;cases zf c (Y6 id)<;>rfl
def jk (s:List UInt8):yJ×zI:=
 let a:=zp s (0,true)
 let b:=zp s a.1
 let q:=js s b.1
 let t:=yL s q.1
 (t.1,(a.2,b.2,q.2,t.2))
noncomputable def Yd (c:za) (s:List UInt8):zI×Bool:=
 bif (jk s).1.2 && ((jk s).1.1==(s.length:Int) && yk c (jk s).2) then ((jk s).2,true) else (Z5,false)
theorem xy {s:List UInt8} (h:(jk s).1.2=true):(zA (jk s).2:Int)<=s.length:=by
 unfold jk at h ⊢;simp only at h ⊢;obtain⟨a1,a2,a3,a4⟩:=eu h;obtain⟨b1,b2,b3,b4⟩:=nV a1;simp only[zA];omega
theorem WD (c:za) (s:List UInt8) (hs:s.length<=1073741824):fS (c,s,())=some ((Yd c s).1,(Yd c s).2,()):=by
 unfold fS Yd;dsimp only;rw[qi s _ (by omega),aiu];dsimp only;rw[qi s _ (by omega),aiu];dsimp only;rw[BO s _ (by omega),aiu];dsimp only;rw[pp s _ (by omega),aiu];dsimp only;have hw:=xy (s:=s);have e:jk s=((yL s (js s (zp s (zp s (0,true)).1).1).1).1,((zp s (0,true)).2,(zp s (zp s (0,true)).1).2,(js s (zp s (zp s (0,true)).1).1).2,(yL s (js s (zp s (zp s (0,true)).1).1).1).2)):=rfl;have e1:(yL s (js s (zp s (zp s (0,true)).1).1).1).1=(jk s).1:=rfl;have e2:((zp s (0,true)).2,(zp s (zp s (0,true)).1).2,(js s (zp s (zp s (0,true)).1).1).2,(yL s (js s (zp s (zp s (0,true)).1).1).1).2)=(jk s).2:=rfl;rw[e1,e2];cases hr:(jk s).1.2
 ·rfl
 ·have:=hw hr;by_cases hl:(jk s).1.1=(s.length:Int)
  ·have e3:((jk s).1.1 != (s.length:Int))=false:=by simp[hl]
   have e4:((jk s).1.1==(s.length:Int))=true:=by simp[hl]
   rw[e3,e4,N6 c _ (by omega)];cases h:yk c (jk s).2<;>simp[Z5]
  ·have e3:((jk s).1.1 != (s.length:Int))=true:=by simp[hl]
   have e4:((jk s).1.1==(s.length:Int))=false:=by simp[hl]
   rw[e3,e4]; rfl
noncomputable def jP (c:za) (s:List UInt8):Nat->Nat->zI->zI×Int
 | 0,at_,old=>(old,at_)
 | n+1,at_,old=>
  let t:=ye s at_
  bif t.2.2 && (decide (t.2.1<(s.length:Int)) && (s.getD t.2.1.toNat 0==10 && (Yd c t.1).2)) then jP c s n (t.2.1+1).toNat (Yd c t.1).1 else (old,at_)
noncomputable def JD (c:za) (s:List UInt8):zI×Int:=jP c s (s.length+1) 0 Z5
theorem qQ {s:List UInt8} {at_:Int} (h:(ye s at_).2.2=true):0<=at_/\at_+1<=(ye s at_).2.1/\(ye s at_).2.1<=(s.length:Int)/\(ye s at_).1.length<=s.length/\
  (zm s at_).2.2=true/\(ye s at_).2.1=(zm s at_).2.1+(zm s at_).1/\(ye s at_).1=(s.drop (zm s at_).2.1.toNat).take (zm s at_).1.toNat:=by
 unfold ye at h ⊢;split at h
 ·next hg=>
  rw[if_pos hg];have:=Na s at_ hg.1;refine⟨by omega,by simp only; omega,by simp only; omega,?_,hg.1,rfl,rfl⟩
  simp only[aiM,aiR];omega
 ·simp at h
theorem tV (c:za) (s:List UInt8):∀ (n at_:Nat) (old:zI),s.length<at_+n->∀ m,s.length<at_+m->jP c s n at_ old=jP c s m at_ old
 | n,at_,old,hn,m,hm=>by
  cases n with
  | zero=>
   cases m with
   | zero=>rfl
   | succ m=>
    have:(ye s at_).2.2=false:=by
     cases h:(ye s at_).2.2
     ·rfl
     ·have:=qQ h; omega
    simp only[jP,this,ajh,aiv]
  | succ n=>
   cases m with
   | zero=>
    have:(ye s at_).2.2=false:=by
     cases h:(ye s at_).2.2
     ·rfl
     ·have:=qQ h; omega
    simp only[jP,this,ajh,aiv]
   | succ m=>
    simp only[jP];cases h:(ye s at_).2.2
    ·simp
    ·have:=qQ h;rw[tV c s n _ _ (by omega) m (by omega)]
theorem R7:UInt8.ofNat (Int.toNat 10)=10:=rfl
theorem Wo (c:za) (s:List UInt8) (hs:s.length<=1073741824):fH (c,s,())=some ((JD c s).1,(JD c s).2,()):=by
 unfold fH aM JD;rw[aiu];dsimp only;refine (Qm (λ x:Int×zI×zI×Unit=>some ((jP c s (s.length+1) x.1.toNat x.2.2.1).1,(jP c s (s.length+1) x.1.toNat x.2.2.1).2,())) (λ x=>s.length+1 - x.1.toNat)
  (λ x=>0<=x.1/\x.1<=(s.length:Int)) ?_ fuel _ ⟨by simp,by simp⟩ (by have:=YY (n:=s.length+1) (by omega); simp; omega)).trans (by rfl)
 rintro rec ⟨v,z,old,⟨⟩⟩ ⟨h1,h2⟩ XW;obtain⟨n,rfl⟩:∃ n:Nat,v=(n:Int):=⟨v.toNat,by simp only at h1; omega⟩
 simp only[aiG] at h2 XW ⊢;simp only[pd s _ (show s.length<=137438953472 by omega),aiu,jP];cases hg:(zm s n).2.2
 ·have:(ye s n).2.2=false:=by unfold ye; rw[if_neg (by simp[hg])]
  simp[this]
 ·obtain⟨g0,g1,g2,g3,g4⟩:=Na s n hg;simp only[aiC,aiv,zg (show (-9223372036854775808:Int)<=(s.length:Int) - (zm s n).2.1 by omega) (show (s.length:Int) - (zm s n).2.1<=9223372036854775807 by omega),
   zg (show (-9223372036854775808:Int)<=(zm s n).2.1+(zm s n).1 by omega) (show (zm s n).2.1+(zm s n).1<=9223372036854775807 by omega)]
  by_cases hc:(zm s n).1≥(s.length:Int) - (zm s n).2.1
  ·simp only[hc,aiB,aiw];by_cases ht:(ye s n).2.2=true
   ·obtain⟨t0,t1,t2,t3,t4,t5,t6⟩:=qQ ht;have:¬ (ye s n).2.1<(s.length:Int):=by omega
    simp[this]
   ·have:(ye s n).2.2=false:=by simpa using ht
    simp[this]
  ·have e0:ye s n=((s.drop (zm s n).2.1.toNat).take (zm s n).1.toNat,(zm s n).2.1+(zm s n).1,true):=by
    unfold ye;rw[if_pos ⟨hg,by omega⟩]
   have hlt:(zm s n).2.1+(zm s n).1<(s.length:Int):=by omega
   simp only[hc,aiD,aiv,e0,hlt,aiB,aiS];rw[if_pos (show 0<=(zm s n).2.1+(zm s n).1/\True from⟨by omega,trivial⟩)];have X5:rd .u8 s ((zm s n).2.1+(zm s n).1).toNat=s.getD ((zm s n).2.1+(zm s n).1).toNat 0:=rfl;rw[X5,R7];by_cases h10:s.getD ((zm s n).2.1+(zm s n).1).toNat 0=10
   ·have e1:(s.getD ((zm s n).2.1+(zm s n).1).toNat 0 != 10)=false:=by rw[h10]; rfl
    have e2:(s.getD ((zm s n).2.1+(zm s n).1).toNat 0==10)=true:=by rw[h10]; rfl
    rw[e1,e2];simp only[aiv,aiS];rw[if_pos (show 0<=(zm s n).2.1/\(zm s n).2.1<=(zm s n).2.1+(zm s n).1/\(zm s n).2.1+(zm s n).1<=(s.length:Int) from⟨by omega,by omega,by omega⟩),B9 _ _ _ g1 (by omega),WD c _ (by simp only[aiM,aiR]; omega),Option.bind_some]
    dsimp only;cases hk:(Yd c (List.take (zm s n).1.toNat (List.drop (zm s n).2.1.toNat s))).2
    ·rfl
    ·simp only[aiC,aiv,aiw];rw[zg (n:=(zm s n).2.1+(zm s n).1+1) (by omega) (by omega),XW _ ⟨by simp only; omega,by simp only; omega⟩ (by simp only; omega)]
     simp only;rw[tV c s (s.length+1) _ _ (by omega) s.length (by omega)]
   ·have e1:(s.getD ((zm s n).2.1+(zm s n).1).toNat 0 != 10)=true:=bne_iff_ne.2 h10;have e2:(s.getD ((zm s n).2.1+(zm s n).1).toNat 0==10)=false:=beq_eq_false_iff_ne.2 h10;rw[e1,e2];rfl
def Km (a b:zI):Bool:=a.1==b.1 && (a.2.1==b.2.1 && (je a.2.2.1 b.2.2.1 && a.2.2.2==b.2.2.2))
theorem BE (a b:zI) (h:zA a<=137438953472):aN (a,b,())=some (Km a b,()):=by
 unfold aN Km;simp only[pj a.2.2.1 b.2.2.1 (by simp only[zA,zi,zl] at h; omega),Option.bind_some]
 cases a.1==b.1<;>cases a.2.1==b.2.1<;>cases je a.2.2.1 b.2.2.1<;>rfl
theorem acm (a b:zI) (h:zA a<=137438953472):aan (a,b,())=some (Km a b,()):=by
 unfold aan Km;simp only[cA a.2.2.1 b.2.2.1 (by simp only[zA,zi,zl] at h; omega),Option.bind_some]
 cases a.1==b.1<;>cases a.2.1==b.2.1<;>cases je a.2.2.1 b.2.2.1<;>rfl
theorem U4 (c:za) (s:List UInt8):zA (Yd c s).1<=s.length:=by
 unfold Yd;cases h:(jk s).1.2
 ·simp[Z5,zA,zi,zl]
 ·have:=xy h;cases ((jk s).1.1==(s.length:Int))<;>cases yk c (jk s).2
  ·simp[Z5,zA,zi,zl]
  ·simp[Z5,zA,zi,zl]
  ·simp[Z5,zA,zi,zl]
  ·simp only[ajn,aiw]; omega
theorem tT (c:za) (s:List UInt8):∀ (n at_:Nat) (old:zI),at_<=s.length->zA old<=s.length->zA (jP c s n at_ old).1<=s.length/\0<=(jP c s n at_ old).2/\(jP c s n at_ old).2<=(s.length:Int)
 | 0,at_,old,h1,h2=>⟨h2,by simp only[jP]; omega,by simp only[jP]; omega⟩
 | n+1,at_,old,h1,h2=>by
  simp only[jP];cases hg:((ye s at_).2.2 && (decide ((ye s at_).2.1<(s.length:Int)) && (s.getD (ye s at_).2.1.toNat 0==10 && (Yd c (ye s at_).1).2)))
  ·exact⟨h2,by simp only[aiv]; omega,by simp only[aiv]; omega⟩
  ·simp only[aix,aiI] at hg;obtain⟨k1,k2,k3,k4⟩:=hg;obtain⟨t0,t1,t2,t3,t4,t5,t6⟩:=qQ k1;have:=U4 c (ye s at_).1;exact tT c s n _ _ (by omega) (by omega)
theorem tY (c:za) (s:List UInt8):zA (JD c s).1<=s.length/\0<=(JD c s).2/\(JD c s).2<=(s.length:Int):=tT c s _ 0 _ (by simp) (by simp[Z5,zA,zi,zl])
theorem pQ {r:zb} {N:Nat} (h:ze r<=N):r.2.2.2.2.2.2.1.1.length<=N:=by simp only[ze,JR] at h; omega
theorem pR {r:zb} {N:Nat} (h:ze r<=N):zA r.2.2.2.1<=N:=by simp only[ze] at h; omega
def jY:yb:=([100,100,100,100],[0,0,0,0])
theorem R1 {G:(Int×yb×Unit->Option (yb×Unit))->Int×yb×Unit->Option (yb×Unit)}
  (hG:∀ rec (i:Int) (l:yb),G rec (i,l,())=bif decide (i<4) then (if (l.1.length+[(100:Int)].length)*8<=70368744177664 then rec (wr (i+1),(l.1++[100],l.2),()) else none) else some (l,())):
  iter G fuel (0,([],List.replicate (Int.toNat 4) 0),())=some (jY,()):=by
 refine (walk 4 (λ i (o:List Int)=>(i,(o,List.replicate (Int.toNat 4) 0),())) (λ i o=>o.length=i) (λ i o=>some ((o++List.replicate (4 - i) 100,List.replicate (Int.toNat 4) 0),())) (by decide) ?_ ?_ (s0:=[]) rfl).trans rfl
 ·intro rec o ho; rw[hG]; simp
 ·intro rec i o hi ho;right;refine⟨o++[100],by simp[ho],?_,?_⟩
  ·rw[hG];simp only[show ((i:Int)<4) by omega,aiB,aiw,aiA,aiz,zr (show i<4611686018427387904 by omega)];rw[if_pos (by omega)]
  ·rw[show 4 - i=(4 - (i+1))+1 by omega,akb]; simp
theorem By:NX ()=some (jY,()):=by
 unfold NX;exact R1 (λ rec i l=>rfl)
def jN (s:List UInt8):zE:=((steps s).1.map λ x=>x.2).flatten
theorem B0:∀ (ps:List (List UInt8)) (prev:Int) (out:List ZL),(∀ x∈out,x.2.length<=2)->∀ x∈(jw ps prev out).1,x.2.length<=2
 | [],prev,out,h=>h
 | p::ps,prev,out,h=>by
  simp only[jw];cases yD 124 p with
  | none=>simp
  | some q=>
   simp only;split
   ·next hB=>
    refine B0 ps _ _ ?_;intro x hx;rcases List.mem_append.1 hx with hx|hx
    ·exact h x hx
    ·simp only[ajG] at hx;subst hx;unfold yM at hB;simp only[aix,aiI] at hB;exact hB.2.2.2.2
   ·simp
theorem B2 (s:List UInt8):∀ x∈(steps s).1,x.2.length<=2:=by
 unfold steps;split
 ·simp
 ·cases zQ 47 s with
  | nil=>simp
  | cons p ps=>
   simp only;split
   ·exact B0 _ _ _ (by simp)
   ·simp
theorem sE:∀ (l:List ZL) (out:zE),l.foldl (λ o x=>o++x.2) out=out++(l.map λ x=>x.2).flatten
 | [],out=>by simp
 | x::l,out=>by rw[ajf,sE l]; simp
theorem Xx (s:List UInt8) {G:(zE×Int×Unit->Option (zE×Unit))->zE×Int×Unit->Option (zE×Unit)}
  (hG:∀ rec (o:zE) (i:Int),G rec (o,i,())=bif decide (i<((steps s).1.length:Int)) then (if 0<=i/\i<((steps s).1.length:Int) then (if (o.length+(rd (.pair .i64 (.sl 0 Zd)) (steps s).1 i.toNat).2.length)*32<=70368744177664 then
   rec (o++(rd (.pair .i64 (.sl 0 Zd)) (steps s).1 i.toNat).2,wr (i+1),()) else none) else none) else some (o,())):
  iter G fuel ([],0,())=some (jN s,()):=by
 have h30:=(bz s).2;have:=M8 (λ i (o:zE)=>(o,i,())) (steps s).1 (λ o x=>o++x.2) (λ o=>some (o,())) (by omega) (λ i o=>o.length<=2*i) (G:=G) ?_ ?_ (s0:=[]) (by simp)
 ·rw[this,sE]; rfl
 ·intro rec o ho; rw[hG]; simp
 ·intro rec i o x hx hi ho;have h2:=B2 s x (List.mem_of_getElem? hx);refine⟨by rw[aiE]; omega,?_⟩
  rw[hG];simp only[zt hi,aiB,aiw,aiL,if_true,aiG,zq (e:=.pair .i64 (.sl 0 Zd)) hx,zr (show i<4611686018427387904 by omega)];rw[if_pos (by omega)]
theorem Cf (s:List UInt8):(jN s).length<=60:=by
 have h30:=(bz s).2;have h2:=B2 s;have key:∀ l:List ZL,(∀ x∈l,x.2.length<=2)->(l.map λ x=>x.2).flatten.length<=2*l.length:=by
  intro l;induction l with
  | nil=>simp
  | cons x l ih=>
   intro h;have a:=h x (by simp);have b:=ih (λ y hy=>h y (by simp[hy]));simp only[aiO,ajN,aiE,aiA];omega
 have:=key _ h2;unfold jN;omega
theorem BI (s:List UInt8) (hs:s.length<=137438953472):qc (s,())=some (jN s,()):=by
 unfold qc;simp only[fY s hs,aiu];exact Xx s (λ rec o i=>rfl)
def within (lo hi x:Int):Bool:=decide (x≥lo) && decide (x<=hi)
def YA (l:yb):Bool:=decide (l.1.length=4) && (decide (l.2.length=4) && (l.1.all (within 0 400) && l.2.all (within 0 100)))
theorem Wq (l:yb):aE (l,())=some (YA l,()):=by
 unfold aE YA;dsimp only;by_cases h1:l.1.length=4
 ·by_cases h2:l.2.length=4
  ·simp only[h1,h2,aiB,aiS,show (((4:Nat):Int) != 4)=false from rfl,aiv];refine (walk 4 (λ i (_:Unit)=>(i,())) (λ _ _=>True) (λ i _=>some ((l.1.drop i).all (within 0 400) && (l.2.drop i).all (within 0 100),())) (by decide) ?_ ?_ (s0:=()) trivial).trans (by simp)
   ·intro rec s _;rw[ak1 (by omega),ak1 (by omega)]; simp
   ·intro rec i s hi _;have hi1:i<l.1.length:=by omega
    have hi2:i<l.2.length:=by omega
    have hx1:l.1[i]?=some l.1[i]:=List.getElem?_eq_getElem hi1;have hx2:l.2[i]?=some l.2[i]:=List.getElem?_eq_getElem hi2;have c1:(0:Int)<=(i:Int):=by omega
    have c2:(i:Int)<4:=by omega
    have c3:(i:Int)<((4:Nat):Int):=by omega
    simp only[c1,c2,c3,aiB,aiw,aiL,if_true,aiG,zq (e:=.i64) hx1,zq (e:=.i64) hx2,Yh,aiu,zr (show i<4611686018427387904 by omega)];rw[aiN hi1,aiN hi2];simp only[aj3,within];cases (decide (l.1[i]≥0) && decide (l.1[i]<=400))
    ·left; simp
    ·cases (decide (l.2[i]≥0) && decide (l.2[i]<=100))
     ·left; simp
     ·right; exact⟨(),trivial,by simp,by simp⟩
  ·have:(((l.2.length:Nat):Int) != 4)=true:=bne_iff_ne.2 (by omega);simp[h1,this,h2]
 ·have:(((l.1.length:Nat):Int) != 4)=true:=bne_iff_ne.2 (by omega);simp[this,h1]
theorem Rs {l:yb} (h:YA l=true):l.1.length=4/\l.2.length=4:=by
 unfold YA at h;simp only[aix,aiI] at h;exact⟨h.1,h.2.1⟩
noncomputable def pay (l:yb) (x:zP):yb×Int:=
 if YA l=true/\zN x=true then
  (if x.2.2.2<rd .i64 l.2 x.1.toNat then (l,2) else if x.2.2.2>rd .i64 l.2 x.1.toNat then (l,3) else
   if x.2.2.1>rd .i64 l.1 x.1.toNat then ((l.1,l.2.set x.1.toNat (wr (x.2.2.2+1))),4) else
   let h:=l.1.set x.1.toNat (wr (rd .i64 l.1 x.1.toNat - x.2.2.1))
   let m:yb:=(h.set x.2.1.toNat (wr (rd .i64 h x.2.1.toNat+x.2.2.1)),l.2.set x.1.toNat (wr (x.2.2.2+1)))
   if YA m=true then (m,0) else (l,1))
 else (l,1)
theorem pA (l:yb) (h1:l.1.length<=137438953472) (h2:l.2.length<=137438953472):Mw (l,())=some (l,()):=by
 unfold Mw;dsimp only;rw[if_pos (by omega),if_pos (by omega)]; rfl
theorem pg (l:yb) (x:zP) (h1:l.1.length<=137438953472) (h2:l.2.length<=137438953472):Mk (l,x,())=some ((pay l x).1,(pay l x).2,()):=by
 unfold Mk pay;simp only[pA l h1 h2,Wq,Mr,aiu];by_cases hl:YA l=true
 ·by_cases hx:zN x=true
  ·obtain⟨⟨b1,b2⟩,⟨b3,b4⟩,_,_⟩:=(qw x).1 hx;obtain⟨g1,g2⟩:=Rs hl;have d1:x.1<(l.1.length:Int):=by omega
   have d2:x.1<(l.2.length:Int):=by omega
   have d3:x.2.1<(l.1.length:Int):=by omega
   rw[if_pos (show YA l=true/\zN x=true from⟨hl,hx⟩)];simp only[hl,hx,aiC,aiv,b1,b3,d1,d2,d3,aiL,if_true,aka];by_cases e1:x.2.2.2<rd .i64 l.2 x.1.toNat
   ·simp only[e1,aiB,aiw,if_true]
   ·simp only[e1,aiD,aiv,if_false];by_cases e2:x.2.2.2>rd .i64 l.2 x.1.toNat
    ·simp only[e2,aiB,aiw,if_true]
    ·simp only[e2,aiD,aiv,if_false];by_cases e3:x.2.2.1>rd .i64 l.1 x.1.toNat
     ·simp only[e3,aiB,aiw,if_true]
     ·simp only[e3,aiD,aiv,if_false];cases hm:YA ((l.1.set x.1.toNat (wr (rd .i64 l.1 x.1.toNat - x.2.2.1))).set x.2.1.toNat (wr (rd .i64 (l.1.set x.1.toNat (wr (rd .i64 l.1 x.1.toNat - x.2.2.1))) x.2.1.toNat+x.2.2.1)),l.2.set x.1.toNat (wr (x.2.2.2+1)))
      ·simp
      ·simp
  ·have hx':zN x=false:=by simpa using hx
   rw[if_neg (show ¬ (YA l=true/\zN x=true) from λ h=>hx h.2)];simp[hl,hx']
 ·have hl':YA l=false:=by simpa using hl
  rw[if_neg (show ¬ (YA l=true/\zN x=true) from λ h=>hl h.1)];simp[hl']
theorem mG (l:yb) (x:zP):(pay l x).1.1.length=l.1.length/\(pay l x).1.2.length=l.2.length:=by
 unfold pay;dsimp only;repeat' split
 all_goals simp
noncomputable def JG (s:List Int×yb) (x:zP):List Int×yb:=(s.1++[(pay s.2 x).2],(pay s.2 x).1)
noncomputable def Zk (l:yb) (xs:zE):List Int×yb:=xs.foldl JG ([],l)
theorem Si {f:yb×zP×Unit->Option (yb×Int×Unit)} (l:yb) (xs:zE) (h1:l.1.length<=137438953472) (h2:l.2.length<=137438953472) (hxs:xs.length<=137438953472)
  (hf:∀ l x,l.1.length<=137438953472->l.2.length<=137438953472->f (l,x,())=some ((pay l x).1,(pay l x).2,()))
  {G:(List Int×Int×yb×Unit->Option (yb×List Int×Unit))->List Int×Int×yb×Unit->Option (yb×List Int×Unit)}
  (hG:∀ rec (o:List Int) (i:Int) (m:yb),G rec (o,i,m,())=bif decide (i<(xs.length:Int)) then (if 0<=i/\i<(xs.length:Int) then (f (m,rd Zd xs i.toNat,())).bind λ r2=>
   (if (o.length+[r2.2.1].length)*8<=70368744177664 then rec (o++[r2.2.1],wr (i+1),r2.1,()) else none) else none) else some (m,o,())):
  iter G fuel ([],0,l,())=some ((Zk l xs).2,(Zk l xs).1,()):=by
 refine M8 (λ i (s:List Int×yb)=>(s.1,i,s.2,())) xs JG (λ s=>some (s.2,s.1,())) (by omega) (λ i s=>s.1.length=i/\s.2.1.length<=137438953472/\s.2.2.length<=137438953472) (G:=G) ?_ ?_ (s0:=([],l)) ⟨rfl,h1,h2⟩
 ·intro rec s hs; rw[hG]; simp
 ·intro rec i s x hx hi hs;obtain⟨k1,k2,k3⟩:=hs;obtain⟨p1,p2⟩:=mG s.2 x;refine⟨⟨by simp[JG,k1],by simp only[JG]; omega,by simp only[JG]; omega⟩,?_⟩
  rw[hG];simp only[zt hi,aiB,aiw,aiL,if_true,aiG,zq (e:=Zd) hx,hf s.2 x k2 k3,aiu,zr (show i<4611686018427387904 by omega),aiA,aiz];rw[if_pos (by omega)];rfl
theorem BC (l:yb) (xs:zE) (h1:l.1.length<=137438953472) (h2:l.2.length<=137438953472) (hxs:xs.length<=137438953472):N1 (l,xs,())=some ((Zk l xs).2,(Zk l xs).1,()):=by
 unfold N1;rw[pA l h1 h2,aiu];exact Si (f:=Mk) l xs h1 h2 hxs pg (λ rec o i m=>by dsimp only)
theorem mF:∀ (xs:zE) (s:List Int×yb),(xs.foldl JG s).2.1.length=s.2.1.length/\(xs.foldl JG s).2.2.length=s.2.2.length/\(xs.foldl JG s).1.length=s.1.length+xs.length
 | [],s=>by simp
 | x::xs,s=>by
  obtain⟨a,b,c⟩:=mF xs (JG s x);obtain⟨p1,p2⟩:=mG s.2 x;rw[ajf];refine⟨a.trans p1,b.trans p2,c.trans ?_⟩;simp only[JG,aiE,aiA,aiz]; omega
noncomputable def state (c:za) (r:zb):yb:=bif zf c r then (Zk jY (jN r.2.2.2.1.2.2.2)).2 else ([],[])
theorem WJ (c:za) (r:zb) (hw:ze r<=137438953472):aR (c,r,())=some (state c r,()):=by
 have hs:=pR hw;have hl:=Cf r.2.2.2.1.2.2.2;unfold aR state;simp only[Z0 c r hw,By,BI r.2.2.2.1.2.2.2 (by simp only[zA] at hs; omega),BC jY _ (by decide) (by decide) (show (jN r.2.2.2.1.2.2.2).length<=137438953472 by omega),Option.bind_some]
 cases zf c r<;>rfl
theorem W5 (c:za) (r:zb):gY (state c r)<=8:=by
 unfold state;cases zf c r
 ·simp[gY,zl]
 ·obtain⟨a,b,_⟩:=mF (jN r.2.2.2.1.2.2.2) ([],jY);simp only[aiw,gY,zl,Zk,a,b];decide
noncomputable def jQ (c:za) (r:zb):zb×jT:=bif zf c r then ((r.1,r.2.1,r.2.2.1,r.2.2.2.1,r.2.2.2.2.1,r.2.2.2.2.2.1,qs r.2.2.2.2.2.2.1,[]),r.2.2.2.2.2.2.2) else (r,[])
theorem WK (c:za) (r:zb) (hw:ze r<=137438953472):aS (c,r,())=some ((jQ c r).1,(jQ c r).2,()):=by
 have h1:=pQ hw;have h2:yn r.2.2.2.2.2.2.2<=137438953472:=by simp only[ze] at hw; omega
 unfold aS jQ;simp only[Zp r hw,Z0 c r hw,WL r.2.2.2.2.2.2.1 (by omega),BR _ h2,aiu];cases zf c r<;>rfl
theorem Xb (d:yP):(qs d).1.length=d.1.length:=by
 unfold qs; split<;>rfl
theorem W9 (c:za) (r:zb):ze (jQ c r).1<=ze r/\yn (jQ c r).2<=ze r:=by
 unfold jQ;cases zf c r
 ·simp only[aiv]; exact⟨Nat.le_refl _,by simp[yn]⟩
 ·have:=Xb r.2.2.2.2.2.2.1;simp only[aiw,ze,JR,this];refine⟨?_,by omega⟩;have:yn []=0:=rfl;omega
abbrev Jo:Ty:=.pair .i64 (.pair .i64 (.pair .i64 (.pair (.pair .i64 (.pair .i64 (.pair (.pair .i64 (.pair .str (.sl 0 .i64))) .str))) (.pair (.sl 0 (.pair .i64 (.pair .i64 (.pair .i64 .i64)))) (.pair (.sl 0 (.pair .i64 (.pair .str (.sl 0 .i64)))) (.pair (.pair (.sl 0 .u8) .i64) (.sl 0 (.pair .i64 (.pair .i64 (.pair .i64 (.pair (.pair .str (.pair .i64 (.pair .str (.sl 0 .i64)))) (.pair (.pair .i64 (.pair .str (.sl 0 .i64))) (.pair (.pair .i64 (.pair .str (.sl 0 .i64))) (.pair .i64 (.pair .i64 (.pair .i64 (.pair .i64 .i64)))))))))))))))))
abbrev pZ:Ty:=.pair .i64 (.sl 0 .u8)
abbrev MJ:Ty:=.pair .i64 (.pair .str .i64)
def jW {α:Type} (p:Nat->α->Bool):Nat->List α->Bool
 | _,[]=>true
 | i,x::l=>p i x && jW p (i+1) l
theorem lp {α:Type} (p:Nat->α->Bool) (l:List α) (K:Option (Bool×Unit)) {G:(Int×Unit->Option (Bool×Unit))->Int×Unit->Option (Bool×Unit)} (hl:l.length<=1152921504606846976)
  (aa2:∀ rec,G rec ((l.length:Int),())=K)
  (X8:∀ rec (i:Nat) x,l[i]?=some x->i<l.length->G rec ((i:Int),())=bif p i x then rec ((i:Int)+1,()) else some (false,())):
  iter G fuel (0,())=bif jW p 0 l then K else some (false,()):=by
 refine (walk l.length (λ i (_:Unit)=>(i,())) (λ _ _=>True) (λ i _=>bif jW p i (l.drop i) then K else some (false,())) hl ?_ ?_ (s0:=()) trivial).trans (by simp only[aiW])
 ·intro rec s _; rw[aa2,aj5]; rfl
 ·intro rec i s hi _;rw[X8 rec i l[i] (List.getElem?_eq_getElem hi) hi,List.drop_eq_getElem_cons hi];simp only[jW];cases p i l[i]
  ·left; rfl
  ·right; exact⟨(),trivial,rfl,rfl⟩
theorem Pl {S R:Type} (G:(S->Option R)->S->Option R) (x:S):∃ n,iter G fuel x=G (iter G n) x:=by
 obtain⟨n,hn⟩:∃ n,fuel=n+1:=⟨18446744073709551615,by rw[jd]⟩
 rw[hn];exact⟨n,rfl⟩
def Jv (c:za):Int:=if zw c=true then (c.1 - 1) / 3 else 0
theorem Wj (c:za):fC (c,())=some (Jv c,()):=by
 unfold fC Jv;simp only[YN,aiu];by_cases h:zw c=true
 ·obtain⟨h1,h2⟩:=yj h;have e1:wr (c.1 - 1)=c.1 - 1:=zg (by omega) (by omega);have e2:Int.tdiv (c.1 - 1) 3=(c.1 - 1) / 3:=Int.tdiv_eq_ediv_of_nonneg (by omega);simp only[h,aiC,aiv,if_true,e1,e2];rw[zg (n:=(c.1 - 1) / 3) (by omega) (by omega)]
 ·have h':zw c=false:=by simpa using h
  simp[h']
noncomputable def Q0 (c:za) (i:Nat) (r:zb):Bool:=zf c r && r.1==(i:Int)
noncomputable def bE (c:za) (_:Nat) (x:bR):Bool:=(JF c x.2).2 && (decide (x.1≥0) && decide (x.1<=c.1 - 1))
def NM (c:za) (_:Nat) (s:Jt):Bool:=(decide (s.2.2≥0) && decide (s.2.2<=c.1 - 1)) && (zF s.2.1 && zn s.2.1==s.1)
noncomputable def qD (w:zz):Bool:=
 zw w.1 && (jM w.1.1 w.2.1 && (decide ((w.2.1.length:Int)<=Jv w.1) && (((w.2.2.1.length:Int)==w.1.1) && (decide ((w.2.2.2.1.length:Int)<=60) && (decide ((w.2.2.2.2.length:Int)<=300) &&
  (jW (Q0 w.1) 0 w.2.2.1 && (jW (bE w.1) 0 w.2.2.2.1 && jW (NM w.1) 0 w.2.2.2.2)))))))
def WB (N:Nat) (w:zz):Prop:=
 (w.2.1.length<=137438953472/\w.2.2.1.length<=137438953472/\w.2.2.2.1.length<=137438953472/\w.2.2.2.2.length<=137438953472)/\(∀ r∈w.2.2.1,ze r<=N)/\(∀ x∈w.2.2.2.1,x.2.length<=1073741824)/\(∀ s∈w.2.2.2.2,s.2.1.length<=N)
theorem WB.of {w:zz} {N:Nat} (h:Z4 w<=N) (hN:N<=1073741824):WB N w:=by
 simp only[Z4,zl,MH,qC,LA] at h;refine⟨⟨by omega,by omega,by omega,by omega⟩,λ r hr => ?_,λ x hx => ?_,λ s hs => ?_⟩
 ·have:=ZH ze hr; omega
 ·have:=ZH MI hx; simp only[MI,pP] at this; omega
 ·have:=ZH qB hs; simp only[qB] at this; omega
theorem Qx (a b:Int):(a != b) = !(a==b):=rfl
theorem WT (w:zz) (hb:WB 137438953472 w):qg (w,())=some (qD w,()):=by
 obtain⟨⟨l1,l2,l3,l4⟩,br,bx,bs⟩:=hb;unfold qg qD;simp only[YN,aiu];cases hc:zw w.1
 ·rfl
 obtain⟨hc1,hc2⟩:=yj hc;have e1:wr (w.1.1 - 1)=w.1.1 - 1:=zg (by omega) (by omega);simp only[aiC,aiv,aiS,e1,pm _ _ l1,Wj,Yh,aiu,qR ((w.2.1.length:Nat):Int) _,qR ((w.2.2.2.1.length:Nat):Int) 60,qR ((w.2.2.2.2.length:Nat):Int) 300,Qx ((w.2.2.1.length:Nat):Int) w.1.1];cases jM w.1.1 w.2.1
 ·rfl
 cases decide ((w.2.1.length:Int)<=Jv w.1)
 ·rfl
 cases ((w.2.2.1.length:Int)==w.1.1)
 ·rfl
 cases decide ((w.2.2.2.1.length:Int)<=60)
 ·rfl
 cases decide ((w.2.2.2.2.length:Int)<=300)
 ·rfl
 simp only[aiC,aiv,aiS];refine (lp (Q0 w.1) w.2.2.1 (bif jW (bE w.1) 0 w.2.2.2.1 then (bif jW (NM w.1) 0 w.2.2.2.2 then some (true,()) else some (false,())) else some (false,())) (by omega) ?_ ?_).trans ?_
 ·intro rec;simp only[aiY,aiD,aiv];refine lp (bE w.1) w.2.2.2.1 (bif jW (NM w.1) 0 w.2.2.2.2 then some (true,()) else some (false,())) (by omega) ?_ ?_
  ·intro rec;simp only[aiY,aiD,aiv];refine lp (NM w.1) w.2.2.2.2 (some (true,())) (by omega) ?_ ?_
   ·intro rec; simp only[aiY,aiD,aiv]
   ·intro rec i s hx hi;have hs:=bs s (List.mem_of_getElem? hx);simp only[zt hi,aiB,aiw,aiL,if_true,aiG,zq (e:=MJ) hx,Ks s.2.1 hs,YQ s.2.1 hs,aiu,zr (show i<4611686018427387904 by omega),NM,Qx];cases (decide (s.2.2≥0) && decide (s.2.2<=w.1.1 - 1))<;>cases zF s.2.1<;>cases (zn s.2.1==s.1)<;>rfl
  ·intro rec i x hx hi;have hs:=bx x (List.mem_of_getElem? hx);simp only[zt hi,aiB,aiw,aiL,if_true,aiG,zq (e:=pZ) hx,BA w.1 x.2 hs,aiu,zr (show i<4611686018427387904 by omega),bE];cases (JF w.1 x.2).2<;>cases (decide (x.1≥0) && decide (x.1<=w.1.1 - 1))<;>rfl
 ·intro rec i r hx hi;have hs:=br r (List.mem_of_getElem? hx);simp only[zt hi,aiB,aiw,aiL,if_true,aiG,zq (e:=Jo) hx,Z0 w.1 r hs,aiu,zr (show i<4611686018427387904 by omega),Q0,Qx];cases zf w.1 r<;>cases (r.1==(i:Int))<;>rfl
 ·cases jW (Q0 w.1) 0 w.2.2.1<;>cases jW (bE w.1) 0 w.2.2.2.1<;>cases jW (NM w.1) 0 w.2.2.2.2<;>rfl
theorem WB.mono {w:zz} {N M:Nat} (h:WB N w) (hm:N<=M):WB M w:=⟨h.1,λ r hr=>Nat.le_trans (h.2.1 r hr) hm,h.2.2.1,λ s hs=>Nat.le_trans (h.2.2.2 s hs) hm⟩
noncomputable def Kb (c:za):Yo:=if zw c=true then (List.range c.1.toNat).map (λ (i:Nat)=>(JL c (i:Int)).1) else []
noncomputable def yY (c:za) (liars:yQ):zz:=(c,liars,Kb c,[],[])
def XU:zz:=((0,0),[],[],[],[])
noncomputable def KC (c:za) (liars:yQ):zz×Bool:=bif qD (yY c liars) then (yY c liars,true) else (XU,false)
theorem RW (c:za):(Kb c).length<=7:=by
 unfold Kb;split
 ·next h=>have:=yj h; simp; omega
 ·simp
theorem RX (c:za):∀ r∈Kb c,ze r=0:=by
 unfold Kb;split
 ·intro r hr;obtain⟨i,_,rfl⟩:=List.mem_map.1 hr;exact SA c i
 ·simp
theorem RY (c:za) (liars:yQ) (h:liars.length<=137438953472):WB 1073741824 (yY c liars):=by
 have h1:=RW c;refine⟨⟨h,by simp only[yY]; omega,by simp[yY],by simp[yY]⟩,λ r hr => ?_,λ x hx => ?_,λ s hs => ?_⟩
 ·have:=RX c r hr; omega
 ·simp[yY] at hx
 ·simp[yY] at hs
theorem R2 {c:za} (h:zw c=true) {n:Nat} (hn:c.1=(n:Int)) (liars:yQ):yY c liars=(c,liars,(List.range' 0 n).map (λ (i:Nat)=>(JL c (i:Int)).1),[],[]):=by
 unfold yY Kb;rw[if_pos h,hn,aiG,List.range_eq_range']
theorem BL (c:za) (liars:yQ) (hl:liars.length<=137438953472):aY (c,liars,())=some ((KC c liars).1,(KC c liars).2,()):=by
 have XX:∀ w:zz,w=yY c liars->((qg (w,())).bind λ r4=>(bif (!r4.1) then some (((0,0),([],([],([],[])))),(false,())) else some (w,(true,()))))=some ((KC c liars).1,(KC c liars).2,()):=by
  rintro w rfl;rw[WT _ ((RY c liars hl).mono (by decide)),aiu];unfold KC;cases qD (yY c liars)<;>rfl
 unfold aY;dsimp only;rw[if_pos (by omega)];simp only[YN,aiu,aiU];by_cases hc:zw c=true
 ·obtain⟨h1,h2⟩:=yj hc;obtain⟨n,hn⟩:∃ n:Nat,c.1=(n:Int):=⟨c.1.toNat,by omega⟩
  simp only[hc,aiw,hn];refine (walk n (λ i (o:Yo)=>(i,(c,liars,o,[],[]),())) (λ i o=>o=(List.range' 0 i).map (λ (i:Nat)=>(JL c (i:Int)).1)) (λ i o=>some ((KC c liars).1,(KC c liars).2,())) (by omega) ?_ ?_ (s0:=[]) rfl)
  ·rintro rec o rfl;simp only[aiY,aiD,aiv];exact XX _ (R2 hc hn liars).symm
  ·rintro rec i o hi rfl;right;refine⟨_,rfl,?_,rfl⟩;simp only[show ((i:Int)<(n:Int)) by omega,aiB,aiw,Wz,aiu,zr (show i<4611686018427387904 by omega),aiA,aiz,ajl,List.length_range'];rw[if_pos (by omega)];congr 3;rw[List.range'_concat]; simp
 ·have hc':zw c=false:=by simpa using hc
  have e:yY c liars=(c,liars,[],[],[]):=by unfold yY Kb; rw[if_neg hc]
  refine (Pl _ _).elim λ m hm=>hm.trans ?_;simp only[hc',aiv];rw[XX _ e.symm];cases decide ((0:Int)<c.1)<;>rfl
noncomputable def ae (s:zI):Int:=min (max (max s.1 (wr (s.2.2.1.1+1))) 1) 60
noncomputable def rise (c:za) (r:zb):zb:=
 bif zf c r then
  let n:=JD c r.2.2.2.2.2.2.1.1
  (r.1,ae n.1,0,n.1,[],[],(r.2.2.2.2.2.2.1.1.take n.2.toNat,n.2),[])
 else r
theorem PP (a b:Int):yd (a,b,())=some (min a b,()):=by
 rw[lR]; congr 2; split<;>omega
theorem WA (c:za) (r:zb) (hw:ze r<=1073741824):aL (c,r,())=some (rise c r,()):=by
 have h1:=pQ hw;obtain⟨b1,b2,b3⟩:=tY c r.2.2.2.2.2.2.1.1;unfold aL rise;simp only[Z0 c r (by omega),Zp r (by omega),Wo c _ h1,My,PP,aiu];cases zf c r
 ·rfl
 ·simp only[aiC,aiv,aiw];rw[if_pos (by omega),if_pos (by simp only[aiM,aiR]; omega)]
  simp only[ajr,aiW,ajT,aiU,ae];congr 4;omega
def jc {α:Type} (q:α->Bool):Nat->List α->Nat
 | i,[]=>i
 | i,x::l=>bif q x then i else jc q (i+1) l
theorem ck {α:Type} (q:α->Bool):∀ (l:List α) (i:Nat),i<=jc q i l/\jc q i l<=i+l.length
 | [],i=>by simp[jc]
 | x::l,i=>by
  have:=ck q l (i+1);simp only[jc,aiA];cases q x<;>simp only[aiw,aiv]<;>omega
def Kg (p:zE) (x:zP) (k:Nat):zE×Bool:=bif jB (p.take k++x::p.drop k) then (p.take k++x::p.drop k,true) else (p,false)
def Z9 (p:zE) (x:zP):zE×Bool:=Kg p x (jc (λ y => !jy y x) 0 p)
theorem ph (p:zE) (x:zP) (hp:p.length<=137438953471):N2 (p,x,())=some ((Z9 p x).1,(Z9 p x).2,()):=by
 unfold N2 Z9;dsimp only;have aao:∀ k:Nat,k<=p.length->(if (((0:Int)<=0)/\((0<=(k:Int))/\((k:Int)<=(p.length:Int)))) then (if (((0+(List.length (List.take ((Int.toNat (k:Int)) - (Int.toNat 0)) (List.drop (Int.toNat 0) p))))*32)<=70368744177664) then
   (if ((((List.length ([]++(List.take ((Int.toNat (k:Int)) - (Int.toNat 0)) (List.drop (Int.toNat 0) p))))+(List.length (x::[])))*32)<=70368744177664) then (if ((0<=(k:Int))/\(((k:Int)<=(p.length:Int))/\((p.length:Int)<=(p.length:Int)))) then
   (if ((((List.length (([]++(List.take ((Int.toNat (k:Int)) - (Int.toNat 0)) (List.drop (Int.toNat 0) p)))++(x::[])))+(List.length (List.take ((Int.toNat (p.length:Int)) - (Int.toNat (k:Int))) (List.drop (Int.toNat (k:Int)) p))))*32)<=70368744177664) then
   ((Ml (((([]++(List.take ((Int.toNat (k:Int)) - (Int.toNat 0)) (List.drop (Int.toNat 0) p)))++(x::[]))++(List.take ((Int.toNat (p.length:Int)) - (Int.toNat (k:Int))) (List.drop (Int.toNat (k:Int)) p))),())).bind λ r2=>(bif (!r2.1) then (if (((0+(List.length p))*32)<=70368744177664) then some (([]++p),(false,())) else none) else
   some (((([]++(List.take ((Int.toNat (k:Int)) - (Int.toNat 0)) (List.drop (Int.toNat 0) p)))++(x::[]))++(List.take ((Int.toNat (p.length:Int)) - (Int.toNat (k:Int))) (List.drop (Int.toNat (k:Int)) p))),(true,())))) else none) else none) else none) else none) else none)=some ((Kg p x k).1,(Kg p x k).2,()):=by
  intro k hk;simp only[aiG,ajr,ajT,aiW,aiU];have e:List.take (p.length - k) (p.drop k)=p.drop k:=List.take_of_length_le (by simp);rw[e];simp only[aiM,aiE,aiA,aiz,aiR];rw[if_pos (by omega),if_pos (by omega),if_pos (by omega),if_pos (by omega),if_pos (by omega),if_pos (by omega)];rw[BD _ (by simp only[aiE,aiM,aiA,aiz,aiR]; omega),Option.bind_some]
  unfold Kg;rw[show p.take k++[x]++p.drop k=p.take k++x::p.drop k by simp];cases jB (p.take k++x::p.drop k)<;>rfl
 refine (walk p.length (λ i (_:Unit)=>(i,())) (λ _ _=>True) (λ i _=>some ((Kg p x (jc (λ y => !jy y x) i (p.drop i))).1,(Kg p x (jc (λ y => !jy y x) i (p.drop i))).2,())) (by omega) ?_ ?_ (s0:=()) trivial).trans (by simp only[aiW])
 ·intro rec s _;rw[aj5];simp only[aiY,aiD,aiv,jc];exact aao p.length (Nat.le_refl _)
 ·intro rec i s hi _;have hx:p[i]?=some p[i]:=List.getElem?_eq_getElem hi;rw[aiN hi];simp only[(zt hi).2,aiB,aiw];rw[if_pos (show (0:Int)<=(i:Int)/\True from⟨by omega,trivial⟩)];simp only[aiG,zq (e:=Zd) hx,BU,aiu,zr (show i<4611686018427387904 by omega),jc];cases hb:jy p[i] x
  ·left;have:=aao i (by omega);simp only[aiG] at this;simp only[aiv,aiV,aiw];exact this
  ·right;exact⟨(),trivial,by simp only[aiw],by simp only[aiC,aiv]⟩
noncomputable def Nf (c:za) (r:zb) (x:zP):zb×Bool:=
 bif zf c r then ((r.1,r.2.1,r.2.2.1,r.2.2.2.1,(Z9 r.2.2.2.2.1 x).1,r.2.2.2.2.2),(Z9 r.2.2.2.2.1 x).2) else (r,false)
theorem Sl {p:zE} {x:zP} (h:(Z9 p x).2=false):(Z9 p x).1=p:=by
 unfold Z9 Kg at *;generalize jc (λ y => !jy y x) 0 p=k at *;cases hk:jB (p.take k++x::p.drop k)
 ·rfl
 ·rw[hk] at h; cases h
theorem xh (p:zE) (x:zP):(Z9 p x).1.length<=p.length+1:=by
 have h1:=(ck (λ y => !jy y x) p 0).2;unfold Z9 Kg;generalize jc (λ y => !jy y x) 0 p=k at *;cases hk:jB (p.take k++x::p.drop k)
 ·simp
 ·simp only[aiw,aiE,aiM,aiA,aiR]; omega
theorem Cs {r:zb} {N:Nat} (h:ze r<=N):r.2.2.2.2.1.length<=N:=by simp only[ze,Jm] at h; omega
theorem Wm (c:za) (r:zb) (x:zP) (hw:ze r<=137438953471):fF (c,r,x,())=some ((Nf c r x).1,(Nf c r x).2,()):=by
 have h1:=Cs hw;unfold fF Nf;simp only[Zp r (by omega),Z0 c r (by omega),ph r.2.2.2.2.1 x h1,aiu];cases zf c r
 ·rfl
 ·cases hp:(Z9 r.2.2.2.2.1 x).2
  ·rw[Sl hp]; rfl
  ·rfl
def yN (l:zS) (v:Int) (name:List UInt8):zD:=match l.find? (λ p=>p.1==v && p.2.1==name) with|some p=>p|none=>(v,name,[])
theorem po (l:zS) (v:Int) (name:List UInt8) (hw:zC l<=137438953472):qa (l,v,name,())=some (yN l v name,()):=by
 have hl:l.length<=137438953472:=by unfold zC at hw; omega
 unfold qa yN;refine (walk l.length (λ i (z:zD)=>(i,z,())) (λ _ _=>True) (λ i _=>some ((match (l.drop i).find? (λ p=>p.1==v && p.2.1==name) with|some p=>p|none=>(v,name,[])),())) (by omega) ?_ ?_ (s0:=(0,[],[])) trivial).trans (by simp only[aiW])
 ·intro rec s _;rw[aj5];simp only[aiY,aiD,aiv,List.find?_nil]
 ·intro rec i s hi _;have hx:l[i]?=some l[i]:=List.getElem?_eq_getElem hi;have hy:=KB hw hx;rw[aiN hi];simp only[zt hi,decide_true,cond_true,and_self,if_true,Int.toNat_natCast,zq (e:=Yl) hx,Ms l[i] hy,Option.bind_some,zr (show i<4611686018427387904 by omega),List.find?_cons];by_cases h1:l[i].1=v
  ·have e1:(l[i].1==v)=true:=beq_iff_eq.2 h1;by_cases h2:l[i].2.1=name
   ·have e2:(l[i].2.1==name)=true:=beq_iff_eq.2 h2;left; simp only[e1,e2,aiw,ajn]
   ·have e2:(l[i].2.1==name)=false:=beq_eq_false_iff_ne.2 h2;right; exact⟨s,trivial,by simp only[e1,e2,aiw,aiv],by simp only[e1,e2,ajy]⟩
  ·have e1:(l[i].1==v)=false:=beq_eq_false_iff_ne.2 h1;right; exact⟨s,trivial,by simp only[e1,aiv],by simp only[e1,ajh]⟩
theorem OX (l:zS) (v:Int) (name:List UInt8) (hw:zC l<=137438953472):cG (l,v,name,())=some (yN l v name,()):=by
 have hl:l.length<=137438953472:=by unfold zC at hw; omega
 unfold cG yN;refine (walk l.length (λ i (z:zD)=>(i,z,())) (λ _ _=>True) (λ i _=>some ((match (l.drop i).find? (λ p=>p.1==v && p.2.1==name) with|some p=>p|none=>(v,name,[])),())) (by omega) ?_ ?_ (s0:=(0,[],[])) trivial).trans (by simp only[aiW])
 ·intro rec s _;rw[aj5];simp only[aiY,aiD,aiv,List.find?_nil]
 ·intro rec i s hi _;have hx:l[i]?=some l[i]:=List.getElem?_eq_getElem hi;have hy:=KB hw hx;rw[aiN hi];simp only[zt hi,decide_true,cond_true,and_self,if_true,Int.toNat_natCast,zq (e:=Yl) hx,Qj l[i] hy,Option.bind_some,zr (show i<4611686018427387904 by omega),List.find?_cons];by_cases h1:l[i].1=v
  ·have e1:(l[i].1==v)=true:=beq_iff_eq.2 h1;by_cases h2:l[i].2.1=name
   ·have e2:(l[i].2.1==name)=true:=beq_iff_eq.2 h2;left; simp only[e1,e2,aiw,ajn]
   ·have e2:(l[i].2.1==name)=false:=beq_eq_false_iff_ne.2 h2;right; exact⟨s,trivial,by simp only[e1,e2,aiw,aiv],by simp only[e1,e2,ajy]⟩
  ·have e1:(l[i].1==v)=false:=beq_eq_false_iff_ne.2 h1;right; exact⟨s,trivial,by simp only[e1,aiv],by simp only[e1,ajh]⟩
noncomputable def Lx:zE->zE->yb->zE
 | [],out,_=>out
 | x::xs,out,l=>if out.length=2 then out else if (pay l x).2=0∨(pay l x).2=4 then Lx xs (out++[x]) (pay l x).1 else Lx xs out l
noncomputable def Nz (p:zE) (l:yb):zE:=Lx p [] l
theorem gT:∀ (xs out:zE) (l:yb),out.length<=2->(Lx xs out l).length<=2
 | [],out,l,h=>h
 | x::xs,out,l,h=>by
  simp only[Lx];split
  ·exact h
  ·split
   ·exact gT xs _ _ (by simp; omega)
   ·exact gT xs _ _ h
theorem Wx (p:zE) (l:yb) (hp:p.length<=137438953472) (h1:l.1.length<=137438953472) (h2:l.2.length<=137438953472):aK (p,l,())=some (Nz p l,()):=by
 unfold aK Nz;dsimp only;rw[pA l h1 h2,aiu];refine (walk p.length (λ i (s:zE×yb)=>(s.1,i,s.2,())) (λ _ s=>s.1.length<=2/\s.2.1.length<=137438953472/\s.2.2.length<=137438953472) (λ i s=>some (Lx (p.drop i) s.1 s.2,())) (by omega) ?_ ?_ (s0:=([],l)) ⟨by simp,h1,h2⟩).trans (by simp only[aiW])
 ·intro rec s _;rw[aj5];simp only[aiY,aiD,aiv,Lx]
 ·intro rec i s hi hs;obtain⟨k1,k2,k3⟩:=hs;obtain⟨p1,p2⟩:=mG s.2 p[i];have hx:p[i]?=some p[i]:=List.getElem?_eq_getElem hi;rw[aiN hi];simp only[zt hi,decide_true,cond_true,and_self,if_true,Int.toNat_natCast,zq (e:=Zd) hx,pg s.2 p[i] k2 k3,Option.bind_some,zr (show i<4611686018427387904 by omega),Lx,List.length_cons,List.length_nil];by_cases hf:s.1.length=2
  ·left;have:decide ((s.1.length:Int)<2)=false:=by simp; omega
   rw[if_pos hf];simp only[this,aiv]
  ·have:decide ((s.1.length:Int)<2)=true:=by simp; omega
   simp only[this,aiw,hf,if_false];rw[if_pos (by omega)];by_cases c0:(pay s.2 p[i]).2=0
   ·right;refine⟨(s.1++[p[i]],(pay s.2 p[i]).1),⟨by simp; omega,by simp only; omega,by simp only; omega⟩,?_,?_⟩
    ·simp only[c0,beq_self_eq_true,aiw]
    ·rw[if_pos (.inl c0)]
   ·have e0:((pay s.2 p[i]).2==0)=false:=beq_eq_false_iff_ne.2 c0;by_cases c4:(pay s.2 p[i]).2=4
    ·right;refine⟨(s.1++[p[i]],(pay s.2 p[i]).1),⟨by simp; omega,by simp only; omega,by simp only; omega⟩,?_,?_⟩
     ·simp only[c4,beq_self_eq_true,aiw,show ((4:Int)==0)=false from rfl,aiv]
     ·rw[if_pos (.inr c4)]
    ·have e4:((pay s.2 p[i]).2==4)=false:=beq_eq_false_iff_ne.2 c4;right;refine⟨s,⟨k1,k2,k3⟩,?_,?_⟩
     ·simp only[e0,e4,aiv]
     ·rw[if_neg (by rintro (h|h); exact c0 h; exact c4 h)]
def MD (l:zE):List UInt8:=(l.map λ x=>44::yI x).flatten
def qx:zE->List UInt8
 | []=>[]
 | x::r=>yI x++MD r
def qy (l:zE):List UInt8:=bif l.all zN then qx l else []
def Mz (i:Nat) (l:zE):List UInt8:=if i=0 then qx l else MD l
theorem Cg:∀ l:zE,(MD l).length<=28*l.length
 | []=>by simp[MD]
 | x::l=>by
  have h1:=gV x;have h2:=Cg l;simp only[MD,aiO,ajN,aiE,aiA] at *;omega
theorem Ch (l:zE):(qy l).length<=28*l.length:=by
 unfold qy;cases l.all zN
 ·simp
 ·cases l with
  | nil=>simp[qx]
  | cons x r=>
   have h1:=gV x;have h2:=Cg r;simp only[aiw,qx,aiE,aiA];omega
theorem WQ (l:zE) (hl:l.length<=1000000):f7 (l,())=some (qy l,()):=by
 unfold f7 qy;refine (walk l.length (λ i (o:List UInt8)=>(o,i,())) (λ i o=>o.length<=28*i) (λ i o=>some ((bif (l.drop i).all zN then o++Mz i (l.drop i) else []),())) (by omega) ?_ ?_ (s0:=[]) (by simp)).trans (by simp[Mz])
 ·intro rec o _;rw[aj5];simp only[aiY,aiD,aiv,List.all_nil,aiw,Mz];split<;>simp[qx,MD]
 ·intro rec i o hi ho;have hx:l[i]?=some l[i]:=List.getElem?_eq_getElem hi;have htl:=gV l[i];rw[aiN hi];simp only[zt hi,aiB,aiw,aiL,if_true,aiG,zq (e:=Zd) hx,Mr,BH,aiu,zr (show i<4611686018427387904 by omega),aj3,aiE,aiA,aiz];cases hk:zN l[i]
  ·left; simp only[aiV,aiw,ajh,aiv]
  ·right;by_cases h0:i=0
   ·subst h0;refine⟨o++yI l[0],by rw[aiE]; omega,?_,?_⟩
    ·simp only[aiC,aiv,show ¬ (((0:Nat):Int)>0) by omega,aiD];rw[if_pos (by omega)]
    ·simp[Mz,qx]
   ·refine⟨o++[44]++yI l[i],by simp only[aiE,aiA,aiz]; omega,?_,?_⟩
    ·simp only[aiC,aiv,show ((i:Int)>0) by omega,aiB,aiw];rw[if_pos (by omega),if_pos (by omega)]
    ·have e:o++Mz i (l[i]::List.drop (i+1) l)=(o++[44]++yI l[i])++Mz (i+1) (List.drop (i+1) l):=by
      unfold Mz;rw[if_neg h0,if_neg (by omega)];simp only[MD,aiO,ajN,ajd,ajA,aiU]
     rw[e];simp only[aiS]
def Y5 (up:List UInt8) (view:Int) (list:zE):List UInt8:=(((up++[47])++Lib.decDigits view.toNat)++[124])++qy list
def j0 (up:List UInt8) (view:Int) (list:zE):List UInt8:=bif list.all zN && zF (Y5 up view list) then Y5 up view list else []
theorem ul (up:List UInt8) (view:Int) (list:zE) (h:view<1000000):(Y5 up view list).length<=up.length+8+28*list.length:=by
 have h1:=Ch list;have h2:=dl view.toNat (by omega);unfold Y5;simp only[aiE,aiA,aiz];omega
theorem R8 (l:zE) (K:Option (List UInt8×Unit)) {G:(Int×Unit->Option (List UInt8×Unit))->Int×Unit->Option (List UInt8×Unit)} (hl:l.length<=1152921504606846976)
  (aa2:∀ rec,G rec ((l.length:Int),())=K)
  (X8:∀ rec (i:Nat) x,l[i]?=some x->i<l.length->G rec ((i:Int),())=bif zN x then rec ((i:Int)+1,()) else some ([],())):
  iter G fuel (0,())=bif l.all zN then K else some ([],()):=by
 refine (walk l.length (λ i (_:Unit)=>(i,())) (λ _ _=>True) (λ i _=>bif (l.drop i).all zN then K else some ([],())) hl ?_ ?_ (s0:=()) trivial).trans (by simp only[aiW])
 ·intro rec s _; rw[aa2,aj5]; rfl
 ·intro rec i s hi _;rw[X8 rec i l[i] (List.getElem?_eq_getElem hi) hi,List.drop_eq_getElem_cons hi];simp only[aj3];cases zN l[i]
  ·left; rfl
  ·right; exact⟨(),trivial,rfl,rfl⟩
theorem aH (up:List UInt8) (view:Int) (list:zE) (hu:up.length<=1073741824) (hv:0<=view/\view<1000000) (hl:list.length<=1000000):Lo (up,view,list,())=some (j0 up view list,()):=by
 have h1:=Ch list;have h2:=dl view.toNat (by omega);have d:=Mj view.toNat (by omega);rw[akf hv.1] at d;have hn:=ul up view list hv.2;unfold Lo j0;refine (R8 list (bif zF (Y5 up view list) then some (Y5 up view list,()) else some ([],())) (by omega) ?_ ?_).trans ?_
 ·intro rec;simp only[aiY,aiD,aiv,d,WQ list hl,aiu,aiE,aiA,aiz];rw[if_pos (by omega),if_pos (by omega),if_pos (by omega),if_pos (by omega)];have e:(((up++[47])++Lib.decDigits view.toNat)++[124])++qy list=Y5 up view list:=rfl;rw[e,Ks _ (by omega),aiu];cases zF (Y5 up view list)<;>rfl
 ·intro rec i x hx hi;simp only[zt hi,aiB,aiw,aiL,if_true,aiG,zq (e:=Zd) hx,Mr,aiu,zr (show i<4611686018427387904 by omega)];cases zN x<;>rfl
 ·cases list.all zN<;>cases zF (Y5 up view list)<;>rfl
theorem mu (up:List UInt8) (view:Int) (list:zE) (h:view<1000000):(j0 up view list).length<=up.length+8+28*list.length:=by
 have:=ul up view list h;unfold j0;cases (list.all zN && zF (Y5 up view list))
 ·simp
 ·exact this
def bF:y7:=([],0,[],[])
def KM (c:za) (q:zJ) (view:Int) (list:zE):y7×Bool:=
 bif jG c (j0 q.2.1 view list,q) && zn (j0 q.2.1 view list)==view then ((j0 q.2.1 view list,q),true) else (bF,false)
theorem pc (c:za) (q:zJ) (view:Int) (list:zE) (hq:zi q<=500000000) (hv:0<=view/\view<1000000) (hl:list.length<=2):yc (c,q,view,list,())=some ((KM c q view list).1,(KM c q view list).2,()):=by
 have hu:q.2.1.length<=500000000:=by simp only[zi] at hq; omega
 have hn:=mu q.2.1 view list hv.2;unfold yc KM;simp only[aH q.2.1 view list (by omega) hv (by omega),Mx q (by omega),fu c (j0 q.2.1 view list,q) (by simp only[zB]; omega),YQ (j0 q.2.1 view list) (by omega),Option.bind_some,Qx]
 cases jG c (j0 q.2.1 view list,q)<;>cases (zn (j0 q.2.1 view list)==view)<;>rfl
theorem rD (c:za) (q:zJ) (view:Int) (list:zE) (h:view<1000000):zB (KM c q view list).1<=2*zi q+8+28*list.length:=by
 have hn:=mu q.2.1 view list h;unfold KM;cases (jG c (j0 q.2.1 view list,q) && zn (j0 q.2.1 view list)==view)
 ·simp[bF,zB,zi,zl]
 ·simp only[aiw,zB];have:q.2.1.length<=zi q:=by simp only[zi]; omega
  omega
noncomputable def kG (c:za) (r:zb):y7×Bool:=KM c r.2.2.2.1.2.2.1 r.2.1 (Nz r.2.2.2.2.1 (Zk jY (jN r.2.2.2.1.2.2.1.2.1)).2)
noncomputable def ask (c:za) (r:zb):y7×Bool:=
 bif zf c r && (ya c r.2.1==r.1 && (!decide (r.2.2.1≥r.2.1) && (r.2.2.2.1.2.2.1.1==wr (r.2.1 - 1) || decide (((yN r.2.2.2.2.2.1 r.2.1 []).2.2.length:Int)≥Ja c)))) then kG c r else (bF,false)
theorem Ma {c:za} {r:zb} (h:zf c r=true):1<=r.2.1/\r.2.1<=60:=by
 unfold zf at h;simp only[aix,aiI] at h;exact h.2.2.1
theorem RD (a b:Int):decide (a<b) = !decide (a≥b):=by
 by_cases h:a<b
 ·have:¬ a≥b:=by omega
  simp[h,this]
 ·have:a≥b:=by omega
  simp[h,this]
theorem Bt (c:za) (r:zb) (hw:ze r<=500000000):Ko (c,r,())=some ((ask c r).1,(ask c r).2,()):=by
 have hs:=pR hw;have hq:zi r.2.2.2.1.2.2.1<=500000000:=by simp only[zA] at hs; omega
 have hu:r.2.2.2.1.2.2.1.2.1.length<=500000000:=by simp only[zi] at hq; omega
 have ht:zC r.2.2.2.2.2.1<=500000000:=by simp only[ze] at hw; omega
 have hp:=Cs hw;have hx:=Cf r.2.2.2.1.2.2.1.2.1;obtain⟨l1,l2,_⟩:=mF (jN r.2.2.2.1.2.2.1.2.1) ([],jY);have m1:(Zk jY (jN r.2.2.2.1.2.2.1.2.1)).2.1.length=4:=l1;have m2:(Zk jY (jN r.2.2.2.1.2.2.1.2.1)).2.2.length=4:=l2;have hk:=gT r.2.2.2.2.1 [] (Zk jY (jN r.2.2.2.1.2.2.1.2.1)).2 (by simp);unfold Ko ask kG;dsimp only;rw[Z0 c r (by omega),aiu];cases hr:zf c r
 ·rfl
 ·have hv:=Ma hr;simp only[aiC,aiv,Mn,po _ _ _ (show zC r.2.2.2.2.2.1<=137438953472 by omega),pk,By,BI r.2.2.2.1.2.2.1.2.1 (by omega),BC jY _ (by decide) (by decide) (show (jN r.2.2.2.1.2.2.1.2.1).length<=137438953472 by omega),
   Wx r.2.2.2.2.1 _ (by omega) (show (Zk jY (jN r.2.2.2.1.2.2.1.2.1)).2.1.length<=137438953472 by omega) (show (Zk jY (jN r.2.2.2.1.2.2.1.2.1)).2.2.length<=137438953472 by omega),
   pc c r.2.2.2.1.2.2.1 r.2.1 (Nz r.2.2.2.2.1 (Zk jY (jN r.2.2.2.1.2.2.1.2.1)).2) hq (by omega) hk,aiu,Qx,RD,aiS]
  cases (ya c r.2.1==r.1)
  ·rfl
  cases decide (r.2.2.1≥r.2.1)
  ·cases (r.2.2.2.1.2.2.1.1==wr (r.2.1 - 1))
   ·cases decide (((yN r.2.2.2.2.2.1 r.2.1 []).2.2.length:Int)≥Ja c)<;>rfl
   ·rfl
  ·rfl
theorem G0 (c:za) (r:zb):zB (ask c r).1<=2*ze r+100:=by
 have hz:zB bF=0:=rfl;unfold ask;cases hr:zf c r
 ·simp only[ajh,aiv,hz]; omega
 ·have hv:=Ma hr;have hk:=gT r.2.2.2.2.1 [] (Zk jY (jN r.2.2.2.1.2.2.1.2.1)).2 (by simp);have hb:=rD c r.2.2.2.1.2.2.1 r.2.1 (Nz r.2.2.2.2.1 (Zk jY (jN r.2.2.2.1.2.2.1.2.1)).2) (by omega);have hq:zi r.2.2.2.1.2.2.1<=ze r:=by simp only[ze,zA]; omega
  have hk2:(Nz r.2.2.2.2.1 (Zk jY (jN r.2.2.2.1.2.2.1.2.1)).2).length<=2:=hk;simp only[aiS];generalize (ya c r.2.1==r.1 && (!decide (r.2.2.1≥r.2.1) && (r.2.2.2.1.2.2.1.1==wr (r.2.1 - 1) || decide (((yN r.2.2.2.2.2.1 r.2.1 []).2.2.length:Int)≥Ja c))))=b;cases b
  ·simp only[aiv,hz]; omega
  ·simp only[aiw,kG]; omega
def Jz (r:zb) (to:Int) (m:zo):zb:=(r.1,r.2.1,r.2.2.1,r.2.2.2.1,r.2.2.2.2.1,r.2.2.2.2.2.1,r.2.2.2.2.2.2.1,r.2.2.2.2.2.2.2++[(to,m)])
noncomputable def y9 (c:za) (r:zb) (to:Int) (m:zo):zb×Bool:=
 bif !decide ((r.2.2.2.2.2.2.2.length:Int)≥30) && jV c r.1 (to,m) then (Jz r to m,true) else (r,false)
noncomputable def tell (c:za) (r:zb) (to:Int) (m:zo):zb×Bool:=bif zf c r then y9 c r to m else (r,false)
theorem gq (c:za) (r:zb) (to:Int) (m:zo) (hc:zw c=true) (hr:ze r<=137438953471) (hm:zh m<=137438953471):Ky (c,r,to,m,())=some ((y9 c r to m).1,(y9 c r to m).2,()):=by
 obtain⟨hc1,hc2⟩:=yj hc;have hl:r.2.2.2.2.2.2.2.length<=137438953471:=by simp only[ze,yn] at hr; omega
 have e1:wr (c.1 - 1)=c.1 - 1:=zg (by omega) (by omega);unfold Ky y9 jV;simp only[NZ c m (by omega),Yh,BQ m (by omega),e1,aiu,aiA,aiz];rw[if_pos (by omega)];cases decide ((r.2.2.2.2.2.2.2.length:Int)≥30)<;>cases yF c m<;>cases (decide (to≥0) && decide (to<=c.1 - 1))<;>cases (to==r.1)<;>rfl
theorem aa {c:za} {r:zb} (h:zf c r=true):zw c=true:=by
 unfold zf at h;rw[aix] at h;exact h.1
theorem sP (c:za) (r:zb) (to:Int) (m:zo):zf c (Jz r to m)=(zf c r && (!decide ((r.2.2.2.2.2.2.2.length:Int)≥30) && jV c r.1 (to,m))):=by
 unfold zf Jz;simp only[List.all_append,aj3,List.all_nil,Bool.and_true,aiE,aiA,aiz];by_cases h:(r.2.2.2.2.2.2.2.length:Int)≥30
 ·have e1:decide (((r.2.2.2.2.2.2.2.length+(0+1):Nat):Int)<=30)=false:=by simp; omega
  rw[e1];simp[h]
 ·have e1:decide (((r.2.2.2.2.2.2.2.length+(0+1):Nat):Int)<=30)=true:=by simp; omega
  have e2:decide ((r.2.2.2.2.2.2.2.length:Int)<=30)=true:=by simp; omega
  have e3:decide ((r.2.2.2.2.2.2.2.length:Int)≥30)=false:=by simp; omega
  rw[e1,e2,e3];simp only[aiS,aiV,Bool.and_assoc]
theorem ln (r:zb) (to:Int) (m:zo):ze (Jz r to m)=ze r+(1+zh m):=by
 simp only[Jz,ze,yn,Z3,aiE,akc,List.sum_append,aiA,aiz,aiO,ajc,ajb,List.sum_nil];omega
theorem OY (c:za) (r:zb) (to:Int) (m:zo) (hr:ze r<=500000000) (hm:zh m<=500000000):Qd (c,r,to,m,())=some ((tell c r to m).1,(tell c r to m).2,()):=by
 have hl:r.2.2.2.2.2.2.2.length<=500000000:=by simp only[ze,yn] at hr; omega
 have hw:=ln r to m;have hk:=sY c (Jz r to m) (by omega);unfold Qd tell y9;simp only[th r (by omega),tf m (by omega),aiu,aiA,aiz];rw[if_pos (by omega)];have e:(r.1,r.2.1,r.2.2.1,r.2.2.2.1,r.2.2.2.2.1,r.2.2.2.2.2.1,r.2.2.2.2.2.2.1,r.2.2.2.2.2.2.2++[(to,m)])=Jz r to m:=rfl;rw[e,hk,sP,aiu];cases zf c r<;>cases (!decide ((r.2.2.2.2.2.2.2.length:Int)≥30) && jV c r.1 (to,m))<;>rfl
theorem Xj (c:za) (r:zb) (to:Int) (m:zo):ze (tell c r to m).1<=ze r+(1+zh m):=by
 have hw:=ln r to m;unfold tell y9;cases zf c r
 ·simp only[aiv]; omega
 ·cases (!decide ((r.2.2.2.2.2.2.2.length:Int)≥30) && jV c r.1 (to,m))
  ·simp only[aiw,aiv]; omega
  ·simp only[aiw]; omega
theorem pF {c:za} {r:zb} {to:Int} {m:zo} (h:(tell c r to m).2=true):zf c (tell c r to m).1=true/\(tell c r to m).1.1=r.1:=by
 have hk:=sP c r to m;unfold tell y9 at h ⊢;cases hr:zf c r
 ·rw[hr] at h; cases h
 ·rw[hr] at h hk;cases hb:(!decide ((r.2.2.2.2.2.2.2.length:Int)≥30) && jV c r.1 (to,m))
  ·rw[hb] at h; cases h
  ·rw[hb] at hk;simp only[aiw];exact⟨hk,rfl⟩
theorem pG {c:za} {r:zb} (to:Int) (m:zo) (h:zf c r=true):y9 c r to m=tell c r to m:=by
 unfold tell; rw[h]; rfl
noncomputable def Jk (c:za) (r:zb) (m:zo):Nat->Nat->zb->zb×Bool
 | 0,_,out=>(out,true)
 | n+1,i,out=>bif ((i:Int)==r.1) then Jk c r m n (i+1) out else bif (tell c out i m).2 then Jk c r m n (i+1) (tell c out i m).1 else (r,false)
noncomputable def Ly (c:za) (r:zb) (m:zo):zb×Bool:=bif zf c r then Jk c r m c.1.toNat 0 r else (r,false)
theorem Xg (c:za) (r:zb) (m:zo) (z:zb) (hc:4<=c.1/\c.1<=7) (XX:zf c r=true) {G:(Int×zb×zb×Unit->Option (zb×Bool×Unit))->Int×zb×zb×Unit->Option (zb×Bool×Unit)}
  (hG:∀ rec (i:Nat) (out:zb),i<7->zf c out=true->ze out<=ze r+i*(1+zh m)->G rec ((i:Int),z,out,())=bif decide ((i:Int)<c.1) then (bif ((i:Int)==r.1) then rec ((i:Int)+1,z,out,()) else
   bif (tell c out i m).2 then rec ((i:Int)+1,z,(tell c out i m).1,()) else some (r,false,())) else some (out,true,()))
  (hE:∀ rec (out:zb),G rec (c.1,z,out,())=some (out,true,())):
  iter G fuel (0,z,r,())=some ((Jk c r m c.1.toNat 0 r).1,(Jk c r m c.1.toNat 0 r).2,()):=by
 obtain⟨n,hn⟩:∃ n:Nat,c.1=(n:Int):=⟨c.1.toNat,by omega⟩
 refine (walk n (λ i (out:zb)=>(i,z,out,())) (λ i out=>zf c out=true/\ze out<=ze r+i*(1+zh m)) (λ i out=>some ((Jk c r m (n - i) i out).1,(Jk c r m (n - i) i out).2,())) (by omega) ?_ ?_ (s0:=r) ⟨XX,by omega⟩).trans (by rw[hn]; simp)
 ·intro rec out ho;rw[←hn,hE]; simp[Jk]
 ·intro rec i out hi ho;rw[hG rec i out (by omega) ho.1 ho.2,show n - i=(n - (i+1))+1 by omega];simp only[show ((i:Int)<c.1) by omega,aiB,aiw,Jk];cases he:((i:Int)==r.1)
  ·cases ht:(tell c out i m).2
   ·left; rfl
   ·right;have:=Xj c out i m;refine⟨(tell c out i m).1,⟨(pF ht).1,?_⟩,rfl,rfl⟩;rw[ajg]; omega
  ·right;exact⟨out,⟨ho.1,by rw[ajg]; omega⟩,rfl,rfl⟩
theorem seven {i N:Nat} (h:i<7):i*N<=7*N:=Nat.mul_le_mul (by omega) (Nat.le_refl _)
theorem WN (c:za) (r:zb) (m:zo) (hr:ze r<=100000000) (hm:zh m<=10000000):aV (c,r,m,())=some ((Ly c r m).1,(Ly c r m).2,()):=by
 unfold aV Ly;dsimp only;rw[Zp r (by omega),aiu,Z0 c r (by omega),aiu];cases XX:zf c r
 ·rfl
 ·obtain⟨h1,h2⟩:=yj (aa XX);simp only[aiC,aiv,aiw];refine Xg c r m _ ⟨h1,h2⟩ XX ?_ ?_
  ·intro rec i out hi ho hwo;have:=seven (N:=1+zh m) hi;simp only[gq c out i m (aa XX) (by omega) (by omega),pG _ _ ho,Zp r (by omega),aiu,zr (show i<4611686018427387904 by omega)];cases decide ((i:Int)<c.1)<;>cases ((i:Int)==r.1)<;>cases (tell c out i m).2<;>rfl
  ·intro rec out;simp only[aiY,aiD,aiv]
noncomputable def Je (c:za) (s:zI):List UInt8:=bif yk c s then ((jC s.1++jC s.2.1)++L6 c s.2.2.1)++La s.2.2.2 else []
theorem AT (c:za) (s:zI):(Je c s).length<=30+5*zA s:=by
 unfold Je;have h1:=jD s.1;have h2:=jD s.2.1;have h3:=NB c s.2.2.1;have h4:=Lb s.2.2.2;cases yk c s
 ·simp
 ·simp only[aiw,aiE,zA]; omega
theorem WC (c:za) (s:zI) (hw:zA s<=10000000000):fR (c,s,())=some (Je c s,()):=by
 have h1:=jD s.1;have h2:=jD s.2.1;have h3:=NB c s.2.2.1;have h4:=Lb s.2.2.2;have hq:zi s.2.2.1<=10000000000:=by simp only[zA] at hw; omega
 have hn:s.2.2.2.length<=10000000000:=by simp only[zA] at hw; omega
 unfold fR Je;simp only[N6 c s (by omega),Ku,pi c s.2.2.1 (by omega),fN s.2.2.2 (by omega),aiu,aiE];rw[if_pos (by omega),if_pos (by omega),if_pos (by omega)];cases yk c s<;>rfl
theorem acx (a b:Int):nums [a,b]=jC a++jC b:=by simp[nums]
theorem acl (c:za) (s:zI) (hw:zA s<=1073741824):aam (c,s,())=some (Je c s,()):=by
 have h1:=jD s.1;have h2:=jD s.2.1;have h3:=NB c s.2.2.1;have h4:=Lb s.2.2.2;have hq:zi s.2.2.1<=1073741824:=by simp only[zA] at hw; omega
 have hn:s.2.2.2.length<=1073741824:=by simp only[zA] at hw; omega
 unfold aam Je;simp only[OT c s (by omega),aaT [s.1,s.2.1] (by simp),acx,acj c s.2.2.1 (by omega),aaS s.2.2.2 (by omega),Option.bind_some,List.length_append];rw[if_pos (by omega),if_pos (by omega)];cases yk c s<;>rfl
noncomputable def Zy (c:za) (s:zI):List UInt8:=bif (((Je c s).length:Int)==0) then [] else (jC ((Je c s).length:Int)++Je c s)++[UInt8.ofNat (Int.toNat 10)]
theorem uq (c:za) (s:zI):(Zy c s).length<=40+5*zA s:=by
 unfold Zy;have h1:=AT c s;have h2:=jD ((Je c s).length:Int);cases (((Je c s).length:Int)==0)
 ·simp only[aiv,aiE,aiA,aiz]; omega
 ·simp
theorem Wt (c:za) (s:zI) (hw:zA s<=10000000000):fK (c,s,())=some (Zy c s,()):=by
 have h1:=AT c s;have h2:=jD ((Je c s).length:Int);unfold fK Zy;simp only[WC c s hw,Ku,aiu,aiE,aiA,aiz];rw[if_pos (by omega),if_pos (by omega)];cases (((Je c s).length:Int)==0)<;>rfl
theorem acg (c:za) (s:zI) (hw:zA s<=1073741824):aae (c,s,())=some (Zy c s,()):=by
 have h1:=AT c s;have h2:=jD ((Je c s).length:Int);unfold aae Zy;simp only[acl c s hw,aah,aiu,aiE,aiA,aiz];rw[if_pos (by omega),if_pos (by omega)];cases (((Je c s).length:Int)==0)<;>rfl
theorem abs (a b:zI):Km a b=decide (a=b):=by
 obtain⟨a1,a2,a3,a4⟩:=a;obtain⟨b1,b2,b3,b4⟩:=b;unfold Km;simp only[xr];rw[akn];simp[Prod.ext_iff]
def g9 (r:zb) (s:zI) (d:yP):zb:=(r.1,r.2.1,r.2.2.1,s,r.2.2.2.2.1,r.2.2.2.2.2.1,d,r.2.2.2.2.2.2.2)
noncomputable def zy (c:za) (r:zb) (s:zI):zb×Bool:=
 bif Km r.2.2.2.1 s then (r,true) else bif (Zt r.2.2.2.2.2.2.1 (Zy c s)).2 && yk c s then (g9 r s (Zt r.2.2.2.2.2.2.1 (Zy c s)).1,true) else (r,false)
noncomputable def write (c:za) (r:zb) (s:zI):zb×Bool:=bif zf c r then zy c r s else (r,false)
theorem XR {c:za} {r:zb} {s:zI} (h:(zy c r s).2=false):(zy c r s).1=r:=by
 unfold zy at *;cases h1:Km r.2.2.2.1 s
 ·rw[h1] at h;cases h2:((Zt r.2.2.2.2.2.2.1 (Zy c s)).2 && yk c s)
  ·rfl
  ·rw[h2] at h; cases h
 ·rw[h1] at h; cases h
theorem bi (c:za) (r:zb) (s:zI) (hr:ze r<=10000000000) (hs:zA s<=10000000000):Yi (c,r,s,())=some ((zy c r s).1,(zy c r s).2,()):=by
 have h1:=pQ hr;have h2:=uq c s;have h3:=pR hr;unfold Yi zy;simp only[BE r.2.2.2.1 s (by omega),Wt c s hs,Wd r.2.2.2.2.2.2.1 (Zy c s) (by omega) (by omega),N6 c s (by omega),gc s (by omega),aiu];cases Km r.2.2.2.1 s<;>cases (Zt r.2.2.2.2.2.2.1 (Zy c s)).2<;>cases yk c s<;>rfl
theorem GV {d:yP} {b:List UInt8} (h:(Zt d b).2=true):yw (Zt d b).1=true:=by
 unfold Zt at *;split at h
 ·next hc=>
  rw[if_pos hc];have:=KR.1 hc.1;refine KR.2 ⟨?_,this.2.1,?_⟩
  ·simp only[aiE]; omega
  ·simp only[aiE]; omega
 ·cases h
theorem XK {c:za} {r:zb} {s:zI} {d:yP} (hr:zf c r=true) (hd:yw d=true):zf c (g9 r s d)=yk c s:=by
 obtain⟨a,v,k,sf,pool,tab,dk,held⟩:=r;show zf c (a,v,k,s,pool,tab,d,held)=_;unfold zf at hr ⊢;simp only[aix] at hr;obtain⟨a1,a2,a3,a4,a5,a6,a7,a8,a9,a10⟩:=hr;simp only at a1 a2 a3 a4 a5 a6 a7 a8 a9 a10 ⊢;rw[a1,a2.1,a2.2,a3.1,a3.2,a4.1,a4.2,a6,a7,hd,a9,a10];simp
theorem XL (r:zb) (s:zI) (d:yP):ze (g9 r s d)<=ze r+zA s+d.1.length:=by
 simp only[g9,ze,JR]; omega
theorem acv (c:za) (r:zb) (s:zI) (hr:ze r<=100000000) (hs:zA s<=100000000):aay (c,r,s,())=some ((write c r s).1,(write c r s).2,()):=by
 have h1:=pQ hr;have h2:=uq c s;have h3:=pR hr;have h4:=ac5 r.2.2.2.2.2.2.1 (Zy c s);have h5:=XL r s (Zt r.2.2.2.2.2.2.1 (Zy c s)).1;have hk:=sY c (g9 r s (Zt r.2.2.2.2.2.2.1 (Zy c s)).1) (by omega);unfold aay write zy;have e:(r.1,r.2.1,r.2.2.1,s,r.2.2.2.2.1,r.2.2.2.2.2.1,(Zt r.2.2.2.2.2.2.1 (Zy c s)).1,r.2.2.2.2.2.2.2)=g9 r s (Zt r.2.2.2.2.2.2.1 (Zy c s)).1:=rfl;simp only[th r (by omega),sY c r (by omega),acm s r.2.2.2.1 (by omega),acg c s (by omega),acb r.2.2.2.2.2.2.1 (Zy c s) (by omega) (by omega),O7 s (by omega),aiu,e,hk];have es:Km s r.2.2.2.1=Km r.2.2.2.1 s:=by rw[abs,abs]; exact decide_eq_decide.2 ⟨λ h=>h.symm,λ h=>h.symm⟩
 rw[es];cases XX:zf c r
 ·rfl
 ·cases Km r.2.2.2.1 s
  ·cases ha:(Zt r.2.2.2.2.2.2.1 (Zy c s)).2
   ·rfl
   ·rw[XK XX (GV ha)];cases yk c s<;>rfl
  ·rfl
end G448
namespace G448
open Ev
set_option maxRecDepth 100000
noncomputable def NO (c:za) (ws:jp) (p:JX):jp:=
 bif decide (((J9 c p.2).length:Int)>0) then (bif (decide (p.1≥0) && decide (p.1<=wr (c.1 - 1))) then (bif decide ((ws.length:Int)<60) then ws++[(p.1,J9 c p.2)] else ws) else ws) else ws
noncomputable def au (c:za) (ws:jp) (ps:jT):jp:=ps.foldl (NO c) ws
theorem Vm (c:za) (l:yQ) (rs:Yo) (sd:yR) (ps:jT) (ws:jp) {G:(Int×zz×Unit->Option (zz×Unit))->Int×zz×Unit->Option (zz×Unit)} (hn:ps.length<=1073741824)
  (X8:∀ (rec:Int×zz×Unit->Option (zz×Unit)) (i:Nat) (s:jp) (h:i<ps.length),G rec ((i:Int),(c,l,rs,s,sd),())=rec ((i:Int)+1,(c,l,rs,NO c s ps[i],sd),()))
  (aa2:∀ (rec:Int×zz×Unit->Option (zz×Unit)) (s:jp),G rec ((ps.length:Int),(c,l,rs,s,sd),())=some ((c,l,rs,s,sd),())):
  iter G fuel (0,(c,l,rs,ws,sd),())=some ((c,l,rs,au c ws ps,sd),()):=by
 refine (walk ps.length (λ i (s:jp)=>(i,(c,l,rs,s,sd),())) (λ _ _=>True) (λ i s=>some ((c,l,rs,au c s (ps.drop i),sd),())) (by omega) ?_ ?_ (s0:=ws) trivial).trans (by simp only[aiW])
 ·intro rec s _;rw[aa2,aj5];rfl
 ·intro rec i s hi _;exact .inr ⟨NO c s ps[i],trivial,X8 rec i s hi,by rw[aiN hi]; rfl⟩
theorem BT (w:zz) (ps:jT) (hp:yn ps<=1073741824):bk (w,ps,())=some ((w.1,w.2.1,w.2.2.1,au w.1 w.2.2.2.1 ps,w.2.2.2.2),()):=by
 have hl:ps.length<=1073741824:=by simp only[yn] at hp; omega
 unfold bk;refine Vm w.1 w.2.1 w.2.2.1 w.2.2.2.2 ps w.2.2.2.1 hl ?_ ?_
 ·intro rec i s hi;have hx:ps[i]?=some ps[i]:=List.getElem?_eq_getElem hi;have hm:=gZ (Nat.le_refl (yn ps)) hx;have hlt:decide ((i:Int)<(ps.length:Int))=true:=by simp; omega
  simp only[hlt,cond_true,show (0:Int)<=(i:Int)/\(i:Int)<(ps.length:Int) from⟨by omega,by omega⟩,and_self,if_true,Int.toNat_natCast,zq (e:=bI) hx,Ws w.1 ps[i].2 (by omega),Option.bind_some,gw,zr (show i<4611686018427387904 by omega),NO];by_cases h60:(s.length:Int)<60
  ·simp only[h60,aiB,aiw];rw[if_pos (by simp only[aiA,aiz]; omega)]
   cases decide (((J9 w.1 ps[i].2).length:Int)>0)<;>cases (decide (ps[i].1≥0) && decide (ps[i].1<=wr (w.1.1 - 1)))<;>rfl
  ·simp only[h60,aiD,aiv];cases decide (((J9 w.1 ps[i].2).length:Int)>0)<;>cases (decide (ps[i].1≥0) && decide (ps[i].1<=wr (w.1.1 - 1)))<;>rfl
 ·intro rec s;simp only[aiY,aiD,aiv]
end G448
namespace G448
open Ev Go
set_option maxRecDepth 100000
abbrev CD:Ty:=.pair .i64 (.sl 0 (.pair .i64 (.pair .i64 (.pair .i64 .i64))))
def pX:zJ:=(0,[],[])
noncomputable def Y9 (c:za) (p:zD):zJ×Bool:=bif p.2.1==[] then (pX,false) else bif yg c p then (p,true) else (pX,false)
theorem acz {c:za} {q:zJ} (h:yg c q=true):(q.1==0)=(q.2.1==[]):=by
 unfold yg at h;simp only[aix,aj6] at h;obtain⟨_,hn,hv,_⟩:=h;by_cases h0:q.2.1=[]
 ·have:=um.2;rw[←h0,hv] at this;rw[this,h0]; rfl
 ·have:=(Qw hn h0).1;have e1:(q.2.1==[])=false:=beq_eq_false_iff_ne.2 h0;have e2:(q.1==0)=false:=beq_eq_false_iff_ne.2 (by omega);rw[e1,e2]
theorem Wv (c:za) (p:zD) (hw:zj p<=137438953472):fM (c,p,())=some ((Y9 c p).1,(Y9 c p).2,()):=by
 have h1:p.2.2.length<=137438953472:=by simp only[zj,zl] at hw; omega
 have h2:zi p<=137438953472:=hw;unfold fM Y9 pX;dsimp only;rw[if_pos (by omega)];simp only[aiU];rw[Lq c (p.1,p.2.1,p.2.2) h2,aiu];show _=some ((bif p.2.1==[] then ((0,[],[]),false) else bif yg c (p.1,p.2.1,p.2.2) then (p,true) else ((0,[],[]),false)).1,_,());cases (p.2.1==([]:List UInt8))
 ·cases yg c (p.1,p.2.1,p.2.2)<;>rfl
 ·rfl
theorem ach (c:za) (p:zD) (hw:zj p<=1073741824):aaf (c,p,())=some ((Y9 c p).1,(Y9 c p).2,()):=by
 have h2:zi p<=1073741824:=hw;unfold aaf Y9 pX;dsimp only;rw[lC p (by omega),aiu,lw c p h2,aiu];cases h:yg c p
 ·cases (p.2.1==([]:List UInt8))<;>rfl
 ·have e:=acz h;dsimp only;rw[e];cases (p.2.1==([]:List UInt8))<;>rfl
theorem Sf {c:za} {p:zD} (h:(Y9 c p).2=true):(Y9 c p).1=p/\yg c p=true:=by
 unfold Y9 at *;cases h1:(p.2.1==([]:List UInt8))
 ·rw[h1] at h;cases h2:yg c p
  ·rw[h2] at h; cases h
  ·exact⟨rfl,rfl⟩
 ·rw[h1] at h; cases h
def eo (a b:zJ):zJ:=bif decide (a.1>b.1) then a else b
theorem Wy (a b:zJ) (ha:zi a<=137438953472) (hb:zi b<=137438953472):fP (a,b,())=some (eo a b,()):=by
 unfold fP eo;dsimp only;rw[Mx a ha,Mx b hb];cases decide (a.1>b.1)<;>rfl
theorem ack (a b:zJ) (ha:zi a<=137438953472) (hb:zi b<=137438953472):aak (a,b,())=some (eo a b,()):=by
 unfold aak eo;dsimp only;rw[lC a ha,lC b hb];cases decide (a.1>b.1)<;>rfl
theorem bB (s:List UInt8):(Z2 s).length<=s.length:=by
 unfold Z2;split
 ·split
  ·rw[aiM]; omega
  ·simp
 ·simp
noncomputable def Zq (l:List ZL) (k:Int):Int:=(rd CD l (Int.toNat (wr ((l.length:Int) - k)))).1
noncomputable def Yf (s:List UInt8):List UInt8×Bool:=
 bif decide (((steps s).1.length:Int)<3) then ([],false) else
 bif Zq (steps s).1 1 != wr (Zq (steps s).1 2+1) then ([],false) else
 bif Zq (steps s).1 2 != wr (Zq (steps s).1 3+1) then ([],false) else (Z2 (Z2 s),true)
theorem cR {l:List ZL} (h:¬ ((l.length:Int)<3)) (h2:l.length<=30) (k:Int) (hk:1<=k/\k<=3):0<=wr ((l.length:Int) - k)/\wr ((l.length:Int) - k)<(l.length:Int):=by
 rw[zg (by omega) (by omega)];omega
theorem WG (s:List UInt8) (hs:s.length<=137438953472):fW (s,())=some ((Yf s).1,(Yf s).2,()):=by
 have hu:=bB s;obtain⟨p1,p2⟩:=bz s;unfold fW Yf;dsimp only;rw[fY s hs,aiu];cases h:(steps s).2
 ·rw[p1 h]; rfl
 ·dsimp only;by_cases h3:((steps s).1.length:Int)<3
  ·simp only[h3,aiB,aiw,aiC,aiv]
  ·simp only[h3,aiD,aiv,aiC];rw[if_pos (cR h3 p2 1 (by decide)),if_pos (cR h3 p2 2 (by decide)),if_pos (cR h3 p2 2 (by decide)),if_pos (cR h3 p2 3 (by decide)),aX s hs,aiu,aX (Z2 s) (by omega),aiu];show (bif Zq (steps s).1 1 != wr (Zq (steps s).1 2+1) then _ else bif Zq (steps s).1 2 != wr (Zq (steps s).1 3+1) then _ else _)=_;cases (Zq (steps s).1 1 != wr (Zq (steps s).1 2+1))<;>cases (Zq (steps s).1 2 != wr (Zq (steps s).1 3+1))<;>rfl
theorem acp (s:List UInt8) (hs:s.length<=1073741824):aaq (s,())=some ((Yf s).1,(Yf s).2,()):=by
 have hu:=bB s;obtain⟨p1,p2⟩:=bz s;unfold aaq Yf;dsimp only;rw[ta s hs,aiu];dsimp only;by_cases h3:((steps s).1.length:Int)<3
 ·simp only[h3,aiB,aiw]
 ·simp only[h3,aiD,aiv];rw[if_pos (cR h3 p2 1 (by decide)),if_pos (cR h3 p2 2 (by decide)),if_pos (cR h3 p2 2 (by decide)),if_pos (cR h3 p2 3 (by decide)),O2 s hs,aiu,O2 (Z2 s) (by omega),aiu];show (bif Zq (steps s).1 1 != wr (Zq (steps s).1 2+1) then _ else bif Zq (steps s).1 2 != wr (Zq (steps s).1 3+1) then _ else _)=_;cases (Zq (steps s).1 1 != wr (Zq (steps s).1 2+1))<;>cases (Zq (steps s).1 2 != wr (Zq (steps s).1 3+1))<;>rfl
theorem Ba (s:List UInt8):(Yf s).1.length<=s.length:=by
 have h1:=bB s;have h2:=bB (Z2 s);unfold Yf;cases decide (((steps s).1.length:Int)<3)
 ·cases (Zq (steps s).1 1 != wr (Zq (steps s).1 2+1))
  ·cases (Zq (steps s).1 2 != wr (Zq (steps s).1 3+1))
   ·simp only[aiv]; omega
   ·simp
  ·simp
 ·simp
noncomputable def qO (a b:List UInt8):Bool:=
 zF a && (zF b && (!decide ((b.length:Int)>(a.length:Int)) && (a.take b.length==b && ((a.length:Int)==(b.length:Int) || a.getD b.length 0==UInt8.ofNat (Int.toNat 47)))))
theorem Wh (a b:List UInt8) (ha:a.length<=137438953472) (hb:b.length<=137438953472):fB (a,b,())=some (qO a b,()):=by
 unfold fB qO;dsimp only;rw[Ks a ha,aiu,Ks b hb,aiu];cases zF a
 ·rfl
 cases zF b
 ·rfl
 by_cases hl:(b.length:Int)>(a.length:Int)
 ·simp only[hl,aiB,aiw,aiC,aiv,ajh,ajy,aiS]
 ·simp only[hl,aiD,aiv,aiC,aiV,aiS];rw[if_pos (by omega)];simp only[aiG,show Int.toNat 0=0 from rfl,ajT,aiW,bne];cases a.take b.length==b
  ·rfl
  ·simp only[aiC,aiv,aiS];cases he:((a.length:Int)==(b.length:Int))
   ·have:(a.length:Int)≠(b.length:Int):=by simpa using he
    simp only[aiv,akj];rw[if_pos (by omega)]
   ·rfl
theorem acf (a b:List UInt8) (ha:a.length<=1073741824) (hb:b.length<=1073741824):aad (a,b,())=some (qO a b,()):=by
 unfold aad qO aaK aaE;dsimp only;rw[qV a ha,aiu,qV b hb,aiu];cases zF a
 ·rfl
 cases zF b
 ·rfl
 by_cases hl:(b.length:Int)>(a.length:Int)
 ·have:¬ ((a.length:Int)≥(b.length:Int)):=by omega
  simp only[hl,this,aiB,aiD,aiw,aiC,aiv,ajh,ajy,aiS,aiu]
 ·have:(a.length:Int)≥(b.length:Int):=by omega
  simp only[hl,this,aiB,aiD,aiw,aiv,aiC,aiV,aiS];rw[if_pos (show (0:Int)<=0/\(0:Int)<=(b.length:Int)/\True from⟨by omega,by omega,trivial⟩)];simp only[aiG,show Int.toNat 0=0 from rfl,ajT,aiW,aiu];cases a.take b.length==b
  ·rfl
  ·simp only[aiw,aiS];cases he:((a.length:Int)==(b.length:Int))
   ·have:(a.length:Int)≠(b.length:Int):=by simpa using he
    simp only[aiv,akj];rw[if_pos (by omega)]
   ·rfl
noncomputable def see (c:za) (s:zI) (q:zJ):zI:=
 bif !yk c s then s else bif !yg c q then s else (s.1,max s.2.1 (zn (Z2 q.2.1)),eo q s.2.2.1,bif (Yf q.2.1).2 && qO (Yf q.2.1).1 s.2.2.2 then (Yf q.2.1).1 else s.2.2.2)
theorem aaV (a b:Int):mx a b=max a b:=by rw[mr]; omega
theorem fU (c:za) (s:zI) (q:zJ) (hs:zA s<=10000000000) (hq:zi q<=10000000000):Mo (c,s,q,())=some (see c s q,()):=by
 have h1:q.2.1.length<=10000000000:=by simp only[zi] at hq; omega
 have h2:=bB q.2.1;have h3:=Ba q.2.1;have h4:zi s.2.2.1<=10000000000/\s.2.2.2.length<=10000000000:=by simp only[zA] at hs; omega
 unfold Mo see;dsimp only;rw[gc s (by omega),aiu,N6 c s (by omega),aiu,Lq c q (by omega),aiu,Wy q s.2.2.1 (by omega) (by omega),aiu,aX q.2.1 (by omega),aiu,YQ (Z2 q.2.1) (by omega),aiu,My,aiu,
  WG q.2.1 (by omega),aiu,Wh (Yf q.2.1).1 s.2.2.2 (by omega) (by omega),aiu]
 cases yk c s
 ·rfl
 cases yg c q
 ·rfl
 cases (Yf q.2.1).2
 ·rfl
 cases qO (Yf q.2.1).1 s.2.2.2<;>rfl
theorem aco (c:za) (s:zI) (q:zJ) (hs:zA s<=1073741824) (hq:zi q<=1073741824):aap (c,s,q,())=some (see c s q,()):=by
 have h1:q.2.1.length<=1073741824:=by simp only[zi] at hq; omega
 have h2:=bB q.2.1;have h3:=Ba q.2.1;have h4:zi s.2.2.1<=1073741824/\s.2.2.2.length<=1073741824:=by simp only[zA] at hs; omega
 unfold aap see;dsimp only;rw[O7 s (by omega),aiu,OT c s (by omega),aiu,lw c q (by omega),aiu,ack q s.2.2.1 (by omega) (by omega),aiu,O2 q.2.1 (by omega),aiu,tc (Z2 q.2.1) (by omega),aiu,
  acp q.2.1 (by omega),aiu,acf (Yf q.2.1).1 s.2.2.2 (by omega) (by omega),aiu]
 simp only[aaV];cases yk c s
 ·rfl
 cases yg c q
 ·rfl
 cases (Yf q.2.1).2
 ·rfl
 cases qO (Yf q.2.1).1 s.2.2.2<;>rfl
theorem an (c:za) (s:zI) (q:zJ):zA (see c s q)<=zA s+2*zi q:=by
 have h3:=Ba q.2.1;unfold see eo;cases yk c s
 ·simp only[aiV,aiw]; omega
 cases yg c q
 ·simp only[aiV,aiw,aiC,aiv]; omega
 simp only[aiC,aiv,zA];have h5:q.2.1.length<=zi q:=by simp only[zi]; omega
 cases decide (q.1>s.2.2.1.1)<;>cases ((Yf q.2.1).2 && qO (Yf q.2.1).1 s.2.2.2)<;>simp only[aiw,aiv]<;>omega
end G448
