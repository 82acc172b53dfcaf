/- Plain laws, part 1: what the functions compute. No program in sight. -/
import Derived.Test.YthcbhmiocejpjaaGreatDoorCeFns
import Derived.Lib.IndexBytes
import Derived.Lib.IndexLaws
import Derived.Lib.SplitLaws
import Derived.Lib.ItoaNum
import Derived.Lib.LastIndexByte
set_option linter.unusedSimpArgs false
set_option linter.unusedVariables false
namespace G448
open Ev
theorem Qw {S R:Type} {G:(S->Option R)->S->Option R} (f:S->Option R) (μ:S->Nat) (I:S->Prop)
  (h:∀ (rec:S->Option R) (x:S),I x->(∀ y,I y->μ y<μ x->rec y=f y)->G rec x=f x):∀ (n:Nat) (x:S),I x->μ x<n->iter G n x=f x
 | 0,x,_,hn=>by omega
 | n+1,x,hx,hn=>h (iter G n) x hx λ y hy hlt=>Qw f μ I h n y hy (by omega)
def Ma {α S R:Type} (body:α->S->(S->Option R)->Option R) (k:S->Option R):List α->S->Option R
 | [],s=>k s
 | x::xs,s=>body x s (Ma body k xs)
theorem xU {α S R:Type} (body:α->S->(S->Option R)->Option R) (k:S->Option R) (x:α) (xs:List α) (s:S):Ma body k (x::xs) s=body x s (Ma body k xs):=rfl
theorem A3 {X S R:Type} (len:Nat) {G:(X->Option R)->X->Option R} (mk:Int->S->X) (f:Nat->S->Option R) (hlen:len<=1152921504606846976)
  (ahe:∀ rec s,G rec (mk (len:Int) s)=f len s)
  (ahg:∀ rec (i:Nat) s,i<len->(∀ s',rec (mk ((i:Int)+1) s')=f (i+1) s')->G rec (mk (i:Int) s)=f i s):
  ∀ n i s,i<=len->len - i<n->iter G n (mk (i:Int) s)=f i s
 | 0,i,s,_,hn=>by omega
 | n+1,i,s,hi,hn=>by
  rcases Nat.lt_or_ge i len with h|h
  ·exact ahg (iter G n) i s h λ s'=>A3 len mk f hlen ahe ahg n (i+1) s' (by omega) (by omega)
  ·have:i=len:=by omega
   subst this;exact ahe (iter G n) s
theorem Y2 {n:Nat} (h:n<=1152921504606846976):n<fuel:=by rw[Zt]; omega
theorem bH {α X S R:Type} (l:List α) {G:(X->Option R)->X->Option R} (body:α->S->(S->Option R)->Option R) (k:S->Option R) (mk:Int->S->X) (hl:l.length<=1152921504606846976)
  (ahe:∀ rec s,G rec (mk (l.length:Int) s)=k s)
  (ahg:∀ rec (i:Nat) s (x:α),l[i]?=some x->i<l.length->G rec (mk (i:Int) s)=body x s (λ s'=>rec (mk ((i:Int)+1) s')))
  (aon:∀ x s (r1 r2:S->Option R),(∀ s',r1 s'=r2 s')->body x s r1=body x s r2) (s:S):iter G fuel (mk 0 s)=Ma body k l s:=by
 have:=A3 l.length mk (λ i s=>Ma body k (l.drop i) s) hl (λ rec s=>by simpa[Ma] using ahe rec s) (λ rec i s hi ah3=>by
  rw[ahg rec i s l[i] (List.getElem?_eq_getElem hi) hi,List.drop_eq_getElem_cons hi];exact aon _ _ _ _ ah3) fuel 0 s (Nat.zero_le _) (by simpa using Y2 hl)
 simpa using this
theorem zg {n:Int} (h1 : -9223372036854775808<=n) (h2:n<=9223372036854775807):wr n=n:=by rw[oC]; omega
theorem zq {i:Nat} (h:i<4611686018427387904):wr ((i:Int)+1)=(i:Int)+1:=zg (by omega) (by omega)
theorem zm {e:Ty} {l:List (den e)} {i:Nat} {x:den e} (h:l[i]?=some x):rd e l i=x:=by
 simp[rd,arw,h]
theorem zv {α:Type} {l:List α} {i:Nat} (h:i<l.length):(0:Int)<=(i:Int)/\(i:Int)<(l.length:Int):=by omega
theorem fP {α β:Type} {l:List α} {out:List β} {i:Nat} (y:β) (g:α->β) (h:i<l.length) (ho:out.length=l.length) (hy:y=g l[i]):
  (out.set i y).take (i+1)++(l.drop (i+1)).map g=out.take i++(l.drop i).map g:=by
 have hi:i<out.length:=by omega
 rw[aqX h,aqZ,←hy,asa,List.take_set_of_le (arp i),List.getElem?_set_self hi];simp
theorem Wz {α β R:Type} (l:List α) (g:α->β) {G:(Int×List β×Unit->Option R)->Int×List β×Unit->Option R} (k:List β->Option R) (hl:l.length<=1152921504606846976)
  (ahe:∀ rec out,out.length=l.length->G rec ((l.length:Int),out,())=k out)
  (ahg:∀ rec (i:Nat) out x,l[i]?=some x->i<l.length->out.length=l.length->G rec ((i:Int),out,())=rec ((i:Int)+1,out.set i (g x),())) (out:List β) (ho:out.length=l.length):
  iter G fuel (0,out,())=k (l.map g):=by
 have key:∀ n i (out:List β),i<=l.length->out.length=l.length->l.length - i<n->iter G n ((i:Int),out,())=k (out.take i++(l.drop i).map g):=by
  intro n;induction n with
  | zero=>intro i out h1 h2 h3; omega
  | succ n ih=>
   intro i out hi ho hn;rcases Nat.lt_or_ge i l.length with h|h
   ·have e1:iter G (n+1) ((i:Int),out,())=iter G n ((i:Int)+1,out.set i (g l[i]),()):=ahg (iter G n) i out l[i] (List.getElem?_eq_getElem h) h ho;have e2:=ih (i+1) (out.set i (g l[i])) h (by simpa using ho) (by omega);rw[fP (g l[i]) g h ho rfl] at e2;rw[e1];exact e2
   ·have hi':i=l.length:=by omega
    subst hi';have e1:iter G (n+1) ((l.length:Int),out,())=k out:=ahe (iter G n) out ho;rw[e1,arI (by omega),asm (arp _)];simp
 have:=key fuel 0 out (Nat.zero_le _) ho (by simpa using Y2 hl);simpa using this
theorem xT {α:Type} (p:α->Bool) (l:List α):Ma (S:=Unit) (λ x s rec=>bif p x then some (true,()) else rec s) (λ _=>some (false,())) l ()=some (l.any p,()):=by
 induction l with
 | nil=>rfl
 | cons x xs ih=>rw[xU,ih]; cases h:p x<;>simp[h]
theorem pw {α:Type} (p:α->Bool) (l:List α):Ma (S:=Unit) (λ x s rec=>bif p x then rec s else some (false,())) (λ _=>some (true,())) l ()=some (l.all p,()):=by
 induction l with
 | nil=>rfl
 | cons x xs ih=>rw[xU,ih]; cases h:p x<;>simp[h]
def sub (left:Int) (w:Nat):Int:=if left<(w:Int) then -1 else left - w
theorem sub_zero {left:Int} (h:0<=left):sub left 0=left:=by unfold sub; rw[if_neg (by simpa using h)]; simp
def Ens {α:Type} (o:Option α) (P:α->Prop):Prop:=∃ y,o=some y/\P y
theorem Ens.bind {α β:Type} {x:Option α} {f:α->Option β} {P:α->Prop} {Q:β->Prop} (h:Ens x P) (hf:∀ y,P y->Ens (f y) Q):Ens (x.bind f) Q:=by
 obtain⟨y,rfl,hy⟩:=h;exact hf y hy
theorem Ens.some {α:Type} {x:α} {P:α->Prop} (h:P x):Ens (some x) P:=⟨x,rfl,h⟩
theorem Ens.mono {α:Type} {o:Option α} {P Q:α->Prop} (h:Ens o P) (hq:∀ y,P y->Q y):Ens o Q:=by
 obtain⟨y,e,hy⟩:=h;exact⟨y,e,hq y hy⟩
theorem Ens.cond {α:Type} {c:Bool} {a b:Option α} {P:α->Prop} (ha:c=true->Ens a P) (hb:c=false->Ens b P):Ens (bif c then a else b) P:=by
 cases c with
 | true=>exact ha rfl
 | false=>exact hb rfl
theorem Ens.ite {α:Type} {c:Prop} [Decidable c] {a b:Option α} {P:α->Prop} (hc:c) (ha:Ens a P):Ens (if c then a else b) P:=by
 rw[if_pos hc]; exact ha
theorem Ens.loop {S R:Type} {G:(S->Option R)->S->Option R} (I:S->Prop) (μ:S->Nat) {P:R->Prop}
  (h:∀ (rec:S->Option R) (x:S),I x->(∀ y,I y->μ y<μ x->Ens (rec y) P)->Ens (G rec x) P) {x:S} (hx:I x) (hm:μ x<fuel):Ens (iter G fuel x) P:=by
 have key:∀ (n:Nat) (x:S),I x->μ x<n->Ens (iter G n x) P:=by
  intro n;induction n with
  | zero=>intro x _ hn; omega
  | succ n ih=>intro x hx hn; exact h (iter G n) x hx λ y hy hlt=>ih y hy (by omega)
 exact key fuel x hx hm
def big:Nat:=140737488355328
theorem XT {α:Type} (p:α->Bool) (l:List α) {G:(Int×Unit->Option (Int×Unit))->Int×Unit->Option (Int×Unit)} (hl:l.length<=1152921504606846976)
  (ahe:∀ rec s,G rec ((l.length:Int),s)=some (-1,()))
  (ahg:∀ rec (i:Nat) s x,l[i]?=some x->i<l.length->G rec ((i:Int),s)=bif p x then some ((i:Int),()) else rec ((i:Int)+1,s)):
  ∃ r:Int,iter G fuel (0,())=some (r,())/\decide (r≥0)=l.any p:=by
 have key:∀ n i,i<=l.length->l.length - i<n->∃ r:Int,iter G n ((i:Int),())=some (r,())/\decide (r≥0)=(l.drop i).any p:=by
  intro n;induction n with
  | zero=>intro i h1 h2; omega
  | succ n ih=>
   intro i hi hn;rcases Nat.lt_or_ge i l.length with h|h
   ·have e1:iter G (n+1) ((i:Int),())=bif p l[i] then some ((i:Int),()) else iter G n ((i:Int)+1,()):=ahg (iter G n) i () l[i] (List.getElem?_eq_getElem h) h;rw[aqX h,List.any_cons,e1];cases hp:p l[i] with
    | true=>exact⟨i,rfl,by simp⟩
    | false=>
     obtain⟨r,h1,h2⟩:=ih (i+1) h (by omega);exact⟨r,h1,by simpa using h2⟩
   ·have hi':i=l.length:=by omega
    subst hi';exact⟨-1,ahe (iter G n) (),by simp⟩
 simpa using key fuel 0 (Nat.zero_le _) (by simpa using Y2 hl)
theorem AQ {α:Type} (p:α->Bool) (l:List α) {G:(Int×Unit->Option (Int×Unit))->Int×Unit->Option (Int×Unit)} (hl:l.length<=1152921504606846976)
  (ahe:∀ rec s,G rec ((l.length:Int),s)=some (-1,()))
  (ahg:∀ rec (i:Nat) s x,l[i]?=some x->i<l.length->G rec ((i:Int),s)=bif p x then some ((i:Int),()) else rec ((i:Int)+1,s)):
  ((iter G fuel (0,())).bind λ r=>some (decide (r.1≥0),()))=some (l.any p,()):=by
 obtain⟨r,h1,h2⟩:=XT p l hl ahe ahg;rw[h1,aqC,←h2]
theorem xe {R:Type} (l m:List Int) {G:(Int×Unit->Option R)->Int×Unit->Option R} (yes no:R) (hl:l.length<=1152921504606846976)
  (ahe:∀ rec (i:Nat) s,i<=l.length->i<=m.length->(i=l.length∨i=m.length)->G rec ((i:Int),s)=some (if l.length=m.length then yes else no))
  (ahg:∀ rec (i:Nat) s x y,l[i]?=some x->m[i]?=some y->i<l.length->i<m.length->G rec ((i:Int),s)=bif x != y then some no else rec ((i:Int)+1,s)):
  iter G fuel (0,())=some (if l=m then yes else no):=by
 have key:∀ n i,i<=l.length->i<=m.length->l.length - i<n->iter G n ((i:Int),())=some (if l.drop i=m.drop i then yes else no):=by
  intro n;induction n with
  | zero=>intro i h1 h2 h3; omega
  | succ n ih=>
   intro i hi hi2 hn;by_cases he:i=l.length∨i=m.length
   ·have e1:iter G (n+1) ((i:Int),())=some (if l.length=m.length then yes else no):=ahe (iter G n) i () hi hi2 he;have e2:(l.drop i=m.drop i)=(l.length=m.length):=by
     apply propext;constructor
     ·intro e;have:=congrArg List.length e;simp only[ar2] at this;omega
     ·intro e;rw[asm (by omega),asm (by omega)]
    simp only[e1,e2]
   ·have h:i<l.length:=by omega
    have hm:i<m.length:=by omega
    have e1:iter G (n+1) ((i:Int),())=bif l[i] != m[i] then some no else iter G n ((i:Int)+1,()):=ahg (iter G n) i () l[i] m[i] (List.getElem?_eq_getElem h) (List.getElem?_eq_getElem hm) h hm;rw[e1,aqX h,aqX hm];by_cases he:l[i]=m[i]
    ·rw[he];simp only[bne_self_eq_false,aqD,ara,true_and];exact ih (i+1) h hm (by omega)
    ·have:(l[i] != m[i])=true:=by simpa using he
     rw[this,aqE,if_neg (λ e=>he (List.cons.inj e).1)]
 have:=key fuel 0 (Nat.zero_le _) (Nat.zero_le _) (by simpa using Y2 hl);simpa only [List.drop_zero,Int.natCast_zero] using this
theorem Jh (l:List Int) (v:Int) (h:l.length<=1152921504606846976):jW (l,v,())=some (l.any (· == v),()):=by
 unfold jW;refine (bH l (λ x s rec=>bif x==v then some (true,()) else rec s) (λ s=>some (false,())) (λ i s=>(i,s)) h ?_ ?_ ?_ ()).trans (xT _ _)
 ·intro rec s; simp
 ·intro rec i s x hx hi;simp only[aqN,zv hi,aqH,aqE,if_true,aqS,rd,arw,hx,arq,zq (show i<4611686018427387904 by omega)]
 ·intro x s r1 r2 hr; simp[hr]
theorem Ox (l:List Int) (v:Int) (h:l.length<=1152921504606846976):mT (l,v,())=some (l.any (v == ·),()):=by
 unfold mT vw;refine AQ (v == ·) l h ?_ ?_
 ·intro rec s; simp
 ·intro rec i s x hx hi;simp only[aqN,zv hi,aqH,aqE,if_true,aqS,rd,arw,hx,arq,zq (show i<4611686018427387904 by omega)]
theorem JB (l:List Int) (v:Int) (h:l.length<=1152921504606846976):ZV (l,v,())=some (l.any (· == v),()):=by
 unfold ZV;simp only[Ox l v h,aqC];congr 2;apply congrArg (λ f=>l.any f);funext x;exact Bool.beq_comm
theorem ww (l m:List Int) (hl:l.length<=1152921504606846976):dM (l,m,())=some (decide (l=m),()):=by
 unfold dM;by_cases hlm:l.length=m.length
 ·simp only[hlm,bne_self_eq_false,aqD];rw[←hlm];refine (xe l m (true,()) (false,()) hl ?_ ?_).trans (by by_cases h:l=m<;>simp[h])
  ·intro rec i s h1 h2 h3;have hnl:¬ (i:Int)<(l.length:Int):=by omega
   simp only[hlm] at hnl ⊢;simp[hnl]
  ·intro rec i s x y hx hy hi hm;simp only[aqN,(zv hi).1,(zv hi).2,(zv hm).2,aqH,aqE,if_true,aqS,rd,arw,hx,hy,arq,zq (show i<4611686018427387904 by omega)]
 ·have h1:(((l.length:Nat):Int) != ((m.length:Nat):Int))=true:=bne_iff_ne.2 (by omega);have h2:¬ l=m:=λ h=>hlm (by rw[h]);simp[h1,h2]
theorem Bi (l m:List Int) (hl:l.length<=1152921504606846976):eE (l,m,())=some (decide (l=m),()):=by
 unfold eE;refine (xe l m (true,()) (false,()) hl ?_ ?_).trans (by by_cases h:l=m<;>simp[h])
 ·intro rec i s h1 h2 h3;rcases Nat.lt_or_ge i l.length with h|h
  ·have hm:i=m.length:=by omega
   have hnm:¬ (i:Int)<(m.length:Int):=by omega
   have hbe:(((l.length:Nat):Int)==((m.length:Nat):Int))=false:=by simp; omega
   have hne:¬ l.length=m.length:=by omega
   simp only[zv h,hnm,aqH,aqL,aqE,aqD,hbe,if_neg hne]
  ·have hnl:¬ (i:Int)<(l.length:Int):=by omega
   simp only[hnl,aqL,aqD];by_cases e:l.length=m.length
   ·simp[e]
   ·have hbe:(((l.length:Nat):Int)==((m.length:Nat):Int))=false:=by simp; omega
    simp only[hbe,if_neg e]
 ·intro rec i s x y hx hy hi hm;simp only[aqN,(zv hi).1,(zv hi).2,(zv hm).2,aqH,aqE,if_true,aqS,rd,arw,hx,hy,arq,zq (show i<4611686018427387904 by omega)]
abbrev yZ:=List UInt8×Int
def yK (d:yZ):Bool:=decide ((d.1.length:Int)<=100000) && (decide (d.2≥0) && decide (d.2<=(d.1.length:Int)))
theorem m7 (d:yZ):MM (d,())=some (yK d,()):=by
 unfold MM yC yK;cases h1:decide ((d.1.length:Int)<=100000)<;>cases h2:decide (d.2≥0)<;>simp[h1,h2]
theorem gc (d:yZ):Nk (d,())=some (yK d,()):=by
 unfold Nk yx yK;cases h1:decide ((d.1.length:Int)<=100000)<;>cases h2:decide (d.2≥0)<;>simp[h1,h2]
theorem nO (d:yZ) (h:d.1.length<=35184372088832):LP (d,())=some (d,()):=by
 unfold LP;dsimp only;rw[if_pos (by omega)];rfl
theorem kf (d:yZ) (h:d.1.length<=35184372088832):Nw (d,())=some (d,()):=by
 unfold Nw;dsimp only;rw[if_pos (by omega)]
def ja (d:yZ) (b:List UInt8):yZ×Bool:=if yK d=true/\d.1.length+b.length<=100000 then ((d.1++b,d.2),true) else (d,false)
theorem afw (d:yZ) (b:List UInt8) (h:d.1.length<=17592186044416) (hb:b.length<=17592186044416):mX (d,b,())=some ((ja d b).1,(ja d b).2,()):=by
 unfold mX ja;simp only[nO d (by omega),aqC,m7];rw[if_pos (by omega)];cases h1:yK d with
 | false=>simp
 | true=>
  simp only[aqI,aqD,true_and];have h2:yK (d.1++b,d.2)=decide (d.1.length+b.length<=100000):=by
   simp only[yK,aqF,aqP] at h1;obtain⟨g1,g2,g3⟩:=h1;by_cases h3:d.1.length+b.length<=100000
   ·simp[yK,h3,g2]; omega
   ·simp[yK,h3]; omega
  rw[h2];by_cases h3:d.1.length+b.length<=100000
  ·simp[h3]
  ·simp[h3]
theorem WP (d:yZ) (b:List UInt8) (h:d.1.length<=17592186044416) (hb:b.length<=17592186044416):f0 (d,b,())=some ((ja d b).1,(ja d b).2,()):=by
 unfold f0 ja;simp only[kf d (by omega),aqC,gc];rw[if_pos (by omega)];cases h1:yK d with
 | false=>simp
 | true=>
  simp only[aqI,aqD,true_and];rw[zg (by omega) (by omega)];by_cases h3:d.1.length+b.length<=100000
  ·have:decide ((d.1.length:Int)+b.length>100000)=false:=by simp; omega
   simp[h3,this]
  ·have:decide ((d.1.length:Int)+b.length>100000)=true:=by simp; omega
   simp[h3,this]
theorem UK (d:yZ) (b:List UInt8):(ja d b).1.1.length<=d.1.length+b.length:=by
 unfold ja;split<;>simp
theorem ZN {α:Type} {l:List α} {x:α} (f:α->Nat) (h:x∈l):f x<=(l.map f).sum:=by
 induction l with
 | nil=>cases h
 | cons y r ih=>
  simp only[aqZ,arh];rcases List.mem_cons.1 h with rfl|h
  ·omega
  ·have:=ih h; omega
abbrev ym:=List Int
abbrev wG:=List UInt8
abbrev zK:=Int×Int×Int×Int
abbrev ZQ:=Int×List UInt8×Int
abbrev zF:=Int×List UInt8×ym
abbrev zJ:=Int×List UInt8×ym
abbrev y9:=List UInt8×zF
abbrev zo:=Int×Int×y9×zJ×zF×Int×zK
abbrev K5:=Int×zo
abbrev M3:=Int×wG
abbrev zx:=Int×Int×zF×List UInt8
abbrev zy:=List zK
abbrev ya:=List ZQ
abbrev z6:=List zJ
abbrev jw:=List K5
abbrev yQ:=List M3
abbrev zb:=Int×Int×Int×zx×zy×z6×yZ×jw
abbrev Zf:=List zb
abbrev za:=Int×Int
abbrev zZ:=ym×ym
abbrev zr:=za×ym×Zf×yQ×ya
abbrev ZA:=Int×Int×Int×zo
def zu (x:ym):Nat:=x.length
def bj (x:wG):Nat:=x.length
def KY (x:yZ):Nat:=x.1.length
def MZ (x:ZQ):Nat:=x.2.1.length
def zj (x:zF):Nat:=x.2.1.length+zu x.2.2
def zp (x:zJ):Nat:=x.2.1.length+zu x.2.2
def zA (x:y9):Nat:=x.1.length+zj x.2
def zh (x:zo):Nat:=zA x.2.2.1+zp x.2.2.2.1+zj x.2.2.2.2.1
def Yf (x:K5):Nat:=zh x.2
def Yg (x:M3):Nat:=bj x.2
def zz (x:zx):Nat:=zj x.2.2.1+x.2.2.2.length
def Kt (x:zy):Nat:=x.length
def JX (x:ya):Nat:=x.length+(x.map MZ).sum
def zL (x:z6):Nat:=x.length+(x.map zp).sum
def yu (x:jw):Nat:=x.length+(x.map Yf).sum
def Yh (x:yQ):Nat:=x.length+(x.map Yg).sum
def zf (x:zb):Nat:=zz x.2.2.2.1+Kt x.2.2.2.2.1+zL x.2.2.2.2.2.1+KY x.2.2.2.2.2.2.1+yu x.2.2.2.2.2.2.2
def JW (x:Zf):Nat:=x.length+(x.map zf).sum
def eQ (x:zZ):Nat:=zu x.1+zu x.2
def yl (x:zr):Nat:=zu x.2.1+JW x.2.2.1+Yh x.2.2.2.1+JX x.2.2.2.2
def MsgW (m:zo):Prop:=m.2.2.1.2.2.2.length<=8796093022208/\m.2.2.2.1.2.2.length<=8796093022208/\m.2.2.2.2.1.2.2.length<=8796093022208
theorem MsgW.of {m:zo} (h:zh m<=137438953472):MsgW m:=by
 simp only[zh,zA,zj,zp,zu] at h;unfold MsgW;omega
def js (a b:zF):Bool:=a.1==b.1 && (a.2.1==b.2.1 && decide (a.2.2=b.2.2))
theorem vC (a b:zF) (h:a.2.2.length<=8796093022208):aF (a,b,())=some (js a b,()):=by
 unfold aF js;simp only[Bi a.2.2 b.2.2 (by omega),aqC];cases a.1==b.1<;>cases a.2.1==b.2.1<;>simp
theorem Qi (a b:zF) (h:a.2.2.length<=8796093022208):Ld (a,b,())=some (js a b,()):=by
 unfold Ld js;simp only[ww a.2.2 b.2.2 (by omega),aqC];cases a.1==b.1<;>cases a.2.1==b.2.1<;>simp
theorem agf (a b:zF) (h:a.2.2.length<=8796093022208):nP (a,b,())=some (js a b,()):=by
 unfold nP js;simp only[Bi a.2.2 b.2.2 (by omega),aqC];cases a.1==b.1<;>cases a.2.1==b.2.1<;>simp
theorem XP (a b:zF) (h:a.2.2.length<=8796093022208):kn (a,b,())=some (js a b,()):=by
 unfold kn js;simp only[ww a.2.2 b.2.2 (by omega),aqC];cases a.1==b.1<;>cases a.2.1==b.2.1<;>simp
def Ky (a b:y9):Bool:=a.1==b.1 && js a.2 b.2
theorem afx (a b:y9) (h:a.2.2.2.length<=8796093022208):mZ (a,b,())=some (Ky a b,()):=by
 unfold mZ Ky;simp only[vC a.2 b.2 h,aqC];cases a.1==b.1<;>simp
theorem WS (a b:y9) (h:a.2.2.2.length<=8796093022208):f8 (a,b,())=some (Ky a b,()):=by
 unfold f8 Ky;simp only[Qi a.2 b.2 h,aqC];cases a.1==b.1<;>simp
def bh (a b:zK):Bool:=a.1==b.1 && (a.2.1==b.2.1 && (a.2.2.1==b.2.2.1 && (a.2.2.2==b.2.2.2 && true)))
def YJ (a b:zo):Bool:=
 a.1==b.1 && (a.2.1==b.2.1 && (Ky a.2.2.1 b.2.2.1 && (js a.2.2.2.1 b.2.2.2.1 && (js a.2.2.2.2.1 b.2.2.2.2.1 && (a.2.2.2.2.2.1==b.2.2.2.2.2.1 && bh a.2.2.2.2.2.2 b.2.2.2.2.2.2)))))
theorem dV (a b:zo) (h:MsgW a):MN (a,b,())=some (YJ a b,()):=by
 unfold MN YJ bh;simp only[afx a.2.2.1 b.2.2.1 h.1,agf a.2.2.2.1 b.2.2.2.1 h.2.1,vC a.2.2.2.2.1 b.2.2.2.2.1 h.2.2,aqC];cases a.1==b.1<;>cases a.2.1==b.2.1<;>cases Ky a.2.2.1 b.2.2.1<;>cases js a.2.2.2.1 b.2.2.2.1<;>cases js a.2.2.2.2.1 b.2.2.2.2.1<;>cases a.2.2.2.2.2.1==b.2.2.2.2.2.1<;>rfl
theorem Xd (a b:zo) (h:MsgW a):gx (a,b,())=some (YJ a b,()):=by
 unfold gx YJ bh;simp only[WS a.2.2.1 b.2.2.1 h.1,XP a.2.2.2.1 b.2.2.2.1 h.2.1,Qi a.2.2.2.2.1 b.2.2.2.2.1 h.2.2,aqC];cases a.1==b.1<;>cases a.2.1==b.2.1<;>cases Ky a.2.2.1 b.2.2.1<;>cases js a.2.2.2.1 b.2.2.2.1<;>cases js a.2.2.2.2.1 b.2.2.2.2.1<;>cases a.2.2.2.2.2.1==b.2.2.2.2.2.1<;>rfl
theorem IH (l:List ZQ) (view:Int) (name:List UInt8) (who:Int) (h:l.length<=1152921504606846976):
  ex (l,view,name,who,())=some (l.any (λ x=>x.1==view && (x.2.1==name && x.2.2==who)),()):=by
 unfold ex;refine (bH l (λ x s rec=>bif (x.1==view && (x.2.1==name && x.2.2==who)) then some (true,()) else rec s) (λ s=>some (false,())) (λ i s=>(i,s)) h ?_ ?_ ?_ ()).trans (xT _ _)
 ·intro rec s; simp
 ·intro rec i s x hx hi;simp only[aqN,zv hi,aqH,aqE,if_true,aqS,rd,arw,hx,arq,zq (show i<4611686018427387904 by omega)];cases x.1==view<;>cases x.2.1==name<;>cases x.2.2==who<;>rfl
 ·intro x s r1 r2 hr; simp[hr]
theorem oG (l:List ZQ) (v:ZQ) (h:l.length<=1152921504606846976):an (l,v,())=some (l.any (λ x=>x.1==v.1 && (x.2.1==v.2.1 && x.2.2==v.2.2)),()):=by
 unfold an vv;refine AQ _ l h ?_ ?_
 ·intro rec s; simp
 ·intro rec i s x hx hi;simp only[aqN,zv hi,aqH,aqE,if_true,aqS,rd,arw,hx,arq,zq (show i<4611686018427387904 by omega),asn];rw[Bool.beq_comm (a:=v.1),Bool.beq_comm (a:=v.2.1),Bool.beq_comm (a:=v.2.2)]
def signed (liars:List Int) (list:List ZQ) (view:Int) (name:List UInt8) (who:List Int):Bool:=
 who.all λ i=>liars.any (· == i) || list.any (λ x=>x.1==view && (x.2.1==name && x.2.2==i))
theorem vI (liars:List Int) (list:List ZQ) (view:Int) (name:List UInt8) (who:List Int) (h1:liars.length<=1152921504606846976) (h2:list.length<=1152921504606846976) (h3:who.length<=1152921504606846976):
  aL (liars,list,view,name,who,())=some (signed liars list view name who,()):=by
 unfold aL;refine (bH who (λ x s rec=>bif (liars.any (· == x) || list.any (λ y=>y.1==view && (y.2.1==name && y.2.2==x))) then rec s else some (false,())) (λ s=>some (true,())) (λ i s=>(i,s)) h3 ?_ ?_ ?_ ()).trans (pw _ _)
 ·intro rec s; simp
 ·intro rec i s x hx hi;simp only[aqN,zv hi,aqH,aqE,if_true,aqS,rd,arw,hx,arq,zq (show i<4611686018427387904 by omega),Jh liars x h1,IH list view name x h2,aqC];cases liars.any (· == x)<;>cases list.any (λ y=>y.1==view && (y.2.1==name && y.2.2==x))<;>rfl
 ·intro x s r1 r2 hr; simp[hr]
theorem gN (liars:List Int) (list:List ZQ) (view:Int) (name:List UInt8) (who:List Int) (h1:liars.length<=1152921504606846976) (h2:list.length<=1152921504606846976) (h3:who.length<=1152921504606846976):
  Nr (liars,list,view,name,who,())=some (signed liars list view name who,()):=by
 unfold Nr;refine (bH who (λ x s rec=>bif (liars.any (· == x) || list.any (λ y=>y.1==view && (y.2.1==name && y.2.2==x))) then rec s else some (false,())) (λ s=>some (true,())) (λ i s=>(i,s)) h3 ?_ ?_ ?_ ()).trans (pw _ _)
 ·intro rec s; simp
 ·intro rec i s x hx hi;simp only[aqN,zv hi,aqH,aqE,if_true,aqS,rd,arw,hx,arq,zq (show i<4611686018427387904 by omega),JB liars x h1,oG list (view,name,x) h2,aqC];cases liars.any (· == x)<;>cases list.any (λ y=>y.1==view && (y.2.1==name && y.2.2==x))<;>rfl
 ·intro x s r1 r2 hr; simp[hr]
def jg (m:zo):zJ:=if m.1=2 then m.2.2.2.1 else if m.1=1 then (m.2.2.1.2.1,m.2.2.1.2.2.1,m.2.2.1.2.2.2) else (m.2.2.2.2.1.1,m.2.2.2.2.1.2.1,m.2.2.2.2.1.2.2)
def jU (id:Int) (m:zo):ya:=if m.1=4 then [] else if (jg m).2.1=[] then [] else if (jg m).2.2.any (· == id) then [((jg m).1,(jg m).2.1,id)] else []
theorem afZ (id:Int) (m:zo) (h:MsgW m):nB (id,m,())=some (jU id m,()):=by
 obtain⟨h1,h2,h3⟩:=h;unfold nB jU jg;simp only[Jh _ _ (show m.2.2.1.2.2.2.length<=1152921504606846976 by omega),Jh _ _ (show m.2.2.2.1.2.2.length<=1152921504606846976 by omega),Jh _ _ (show m.2.2.2.2.1.2.2.length<=1152921504606846976 by omega),aqC];by_cases c2:m.1=2
 ·simp only[c2,if_true,show ¬ (2:Int)=4 by decide,if_false,show ((2:Int)==2)=true from rfl,show ((2:Int)==4)=false from rfl,aqE,aqD];by_cases e:m.2.2.2.1.2.1=[]
  ·simp[e]
  ·have:(m.2.2.2.1.2.1==[])=false:=by simp[e]
   simp only[this,e,aqD,if_false];cases m.2.2.2.1.2.2.any (· == id)<;>simp
 ·by_cases c1:m.1=1
  ·simp only[c1,show ¬ (1:Int)=2 by decide,if_true,show ¬ (1:Int)=4 by decide,if_false,show ((1:Int)==2)=false from rfl,show ((1:Int)==1)=true from rfl,show ((1:Int)==4)=false from rfl,aqE,aqD];by_cases e:m.2.2.1.2.2.1=[]
   ·simp[e]
   ·have:(m.2.2.1.2.2.1==[])=false:=by simp[e]
    simp only[this,e,aqD,if_false];cases m.2.2.1.2.2.2.any (· == id)<;>simp
  ·have e2:(m.1==2)=false:=by simp[c2]
   have e1:(m.1==1)=false:=by simp[c1]
   simp only[e2,e1,c2,c1,aqD,if_false];by_cases c4:m.1=4
   ·simp[c4]
   ·have e4:(m.1==4)=false:=by simp[c4]
    simp only[e4,c4,aqD,if_false];by_cases e:m.2.2.2.2.1.2.1=[]
    ·simp[e]
    ·have:(m.2.2.2.2.1.2.1==[])=false:=by simp[e]
     simp only[this,e,aqD,if_false];cases m.2.2.2.2.1.2.2.any (· == id)<;>simp
theorem AA (id:Int) (m:zo) (h:MsgW m):b9 (id,m,())=some (jU id m,()):=by
 obtain⟨h1,h2,h3⟩:=h;unfold b9 jU jg;simp only[JB _ _ (show m.2.2.1.2.2.2.length<=1152921504606846976 by omega),JB _ _ (show m.2.2.2.1.2.2.length<=1152921504606846976 by omega),JB _ _ (show m.2.2.2.2.1.2.2.length<=1152921504606846976 by omega),aqC];by_cases c4:m.1=4
 ·simp[c4]
 have e4:(m.1==4)=false:=by simp[c4]
 simp only[e4,c4,aqD,if_false];by_cases c2:m.1=2
 ·simp only[c2,if_true,show ((2:Int)==2)=true from rfl,aqE];by_cases e:m.2.2.2.1.2.1=[]
  ·simp[e]
  ·have:(m.2.2.2.1.2.1==[])=false:=by simp[e]
   simp only[this,e,aqD,if_false];cases m.2.2.2.1.2.2.any (· == id)<;>simp
 ·have e2:(m.1==2)=false:=by simp[c2]
  simp only[e2,c2,aqD,if_false];by_cases c1:m.1=1
  ·simp only[c1,if_true,show ((1:Int)==1)=true from rfl,aqE];by_cases e:m.2.2.1.2.2.1=[]
   ·simp[e]
   ·have:(m.2.2.1.2.2.1==[])=false:=by simp[e]
    simp only[this,e,aqD,if_false];cases m.2.2.1.2.2.2.any (· == id)<;>simp
  ·have e1:(m.1==1)=false:=by simp[c1]
   simp only[e1,c1,aqD,if_false];by_cases e:m.2.2.2.2.1.2.1=[]
   ·simp[e]
   ·have:(m.2.2.2.2.1.2.1==[])=false:=by simp[e]
    simp only[this,e,aqD,if_false];cases m.2.2.2.2.1.2.2.any (· == id)<;>simp
theorem GG (id:Int) (m:zo):JX (jU id m)<=1+zh m:=by
 unfold jU jg;repeat' split
 all_goals simp only[JX,MZ,zh,zA,zj,zp,zu,aqJ,arn,aso,aqG,aqZ,arh]
 all_goals omega
theorem xg {β R:Type} (p:Nat->Bool) (g:Nat->β) (n:Nat) (hn:n<=1152921504606846976) (k:List β->Option R) {G:(List β×Int×Unit->Option R)->List β×Int×Unit->Option R}
  (ahe:∀ rec out,G rec (out,(n:Int),())=k out)
  (ahg:∀ rec (i:Nat) out,i<n->out.length<=i->G rec (out,(i:Int),())=rec (if p i=true then out++[g i] else out,(i:Int)+1,())):
  iter G fuel ([],0,())=k (((List.range n).filter p).map g):=by
 have key:∀ (m i:Nat) (out:List β),i<=n->n - i<m->out.length<=i->iter G m (out,(i:Int),())=k (out++((List.range' i (n - i)).filter p).map g):=by
  intro m;induction m with
  | zero=>intro i out h1 h2 h3; omega
  | succ m ih=>
   intro i out h1 h2 h3;rcases Nat.lt_or_ge i n with h|h
   ·have e1:iter G (m+1) (out,(i:Int),())=iter G m (if p i=true then out++[g i] else out,(i:Int)+1,()):=ahg (iter G m) i out h h3;have e2:=ih (i+1) (if p i=true then out++[g i] else out) h (by omega) (by
     split
     ·simp only[aqM,aqG,aqJ]; omega
     ·omega)
    rw[e1];refine Eq.trans (by rfl) (e2.trans ?_);have e3:n - i=(n - (i+1))+1:=by omega
    rw[e3,List.range'_succ];cases hp:p i<;>simp[hp]
   ·have hi:i=n:=by omega
    subst hi;have e1:iter G (m+1) (out,(i:Int),())=k out:=ahe (iter G m) out;rw[e1];simp
 have:=key fuel 0 [] (Nat.zero_le _) (by have:=Y2 hn; omega) (by simp)
 simpa[List.range_eq_range'] using this
def yB (w:zr):List Int:=((List.range w.2.2.1.length).filter λ (i:Nat) => !(w.2.1.any (· == (i:Int)))).map λ (i:Nat)=>(i:Int)
theorem Ip (w:zr) (h1:w.2.1.length<=137438953472) (h2:w.2.2.1.length<=137438953472):ay (w,())=some (yB w,()):=by
 unfold ay yB;refine xg (λ (i:Nat) => !(w.2.1.any (· == (i:Int)))) (λ (i:Nat)=>(i:Int)) w.2.2.1.length (by omega) (λ out=>some (out,())) ?_ ?_
 ·intro rec out; simp
 ·intro rec i out hi ho;have hg:((i:Int)<(w.2.2.1.length:Nat)):=by omega
  simp only[hg,aqH,aqE,Jh _ _ (show w.2.1.length<=1152921504606846976 by omega),aqC,zq (show i<4611686018427387904 by omega),aqG,aqJ];rw[if_pos (by omega)];cases w.2.1.any (· == (i:Int))<;>simp
theorem gn (w:zr) (h1:w.2.1.length<=137438953472) (h2:w.2.2.1.length<=137438953472):Nl (w,())=some (yB w,()):=by
 unfold Nl yB;refine xg (λ (i:Nat) => !(w.2.1.any (· == (i:Int)))) (λ (i:Nat)=>(i:Int)) w.2.2.1.length (by omega) (λ out=>some (out,())) ?_ ?_
 ·intro rec out; simp
 ·intro rec i out hi ho;have hg:((i:Int)<(w.2.2.1.length:Nat)):=by omega
  simp only[hg,aqH,aqE,JB _ _ (show w.2.1.length<=1152921504606846976 by omega),aqC,zq (show i<4611686018427387904 by omega),aqG,aqJ];rw[if_pos (by omega)];cases w.2.1.any (· == (i:Int))<;>simp
theorem Am (w:zr):(yB w).length<=w.2.2.1.length:=by
 unfold yB;rw[arg];exact Nat.le_trans (List.length_filter_le _ _) (by simp)
theorem Mb {α S St R:Type} (enc:Int->S->St) (l:List α) (f:S->α->S) (k:S->Option R) {G:(St->Option R)->St->Option R} (hl:l.length<=1152921504606846976) (I:Nat->S->Prop)
  (ahe:∀ rec s,I l.length s->G rec (enc (l.length:Int) s)=k s)
  (ahg:∀ rec (i:Nat) s x,l[i]?=some x->i<l.length->I i s->I (i+1) (f s x)/\G rec (enc (i:Int) s)=rec (enc ((i:Int)+1) (f s x))) {s0:S} (h0:I 0 s0):
  iter G fuel (enc 0 s0)=k (l.foldl f s0):=by
 have key:∀ (m i:Nat) (s:S),i<=l.length->l.length - i<m->I i s->iter G m (enc (i:Int) s)=k ((l.drop i).foldl f s):=by
  intro m;induction m with
  | zero=>intro i s h1 h2 h3; omega
  | succ m ih=>
   intro i s h1 h2 h3;rcases Nat.lt_or_ge i l.length with h|h
   ·obtain⟨g1,g2⟩:=ahg (iter G m) i s l[i] (List.getElem?_eq_getElem h) h h3;have e1:iter G (m+1) (enc (i:Int) s)=iter G m (enc ((i:Int)+1) (f s l[i])):=g2;rw[e1,aqX h,arA];exact ih (i+1) _ h (by omega) g1
   ·have hi:i=l.length:=by omega
    subst hi;have e1:iter G (m+1) (enc (l.length:Int) s)=k s:=ahe (iter G m) s h3;rw[e1]; simp
 have:=key fuel 0 s0 (Nat.zero_le _) (by have:=Y2 hl; omega) h0
 simpa using this
theorem WA {α S:Type} (l:List α) (f:S->α->S) (I:Nat->S->Prop) (ahg:∀ (i:Nat) s x,l[i]?=some x->i<l.length->I i s->I (i+1) (f s x)) {s0:S} (h0:I 0 s0):I l.length (l.foldl f s0):=by
 have key:∀ (n i:Nat) (s:S),l.length - i=n->i<=l.length->I i s->I l.length ((l.drop i).foldl f s):=by
  intro n;induction n with
  | zero=>
       intro i s h1 h2 h3; have:i=l.length:=by omega
       subst this; simpa using h3
  | succ n ih=>
   intro i s h1 h2 h3;have h:i<l.length:=by omega
   rw[aqX h,arA];exact ih (i+1) _ (by omega) h (ahg i s l[i] (List.getElem?_eq_getElem h) h h3)
 simpa using key l.length 0 s0 (by simp) (Nat.zero_le _) h0
theorem xX {α:Type}:∀ (l out:List α),l.foldl (λ out x=>out++[x]) out=out++l
 | [],out=>by simp
 | x::l,out=>by rw[arA,xX l]; simp
theorem L6 {α St R:Type} (enc:Int->List α->St) (l:List α) (k:List α->Option R) {G:(St->Option R)->St->Option R} (hl:l.length<=1152921504606846976)
  (ahe:∀ rec s,s.length=l.length->G rec (enc (l.length:Int) s)=k s)
  (ahg:∀ rec (i:Nat) s x,l[i]?=some x->i<l.length->s.length=i->G rec (enc (i:Int) s)=rec (enc ((i:Int)+1) (s++[x]))):
  iter G fuel (enc 0 [])=k l:=by
 have:=Mb enc l (λ out x=>out++[x]) k hl (λ i s=>s.length=i) ahe (λ rec i s x hx hi h=>⟨by simp[h],ahg rec i s x hx hi h⟩) (s0:=[]) rfl;rw[this,xX]; simp
theorem qk (x:zF) (hw:zj x<=137438953472):Km (x,())=some (x,()):=by
 unfold Km;dsimp only;have:x.2.2.length<=137438953472:=by simp only[zj,zu] at hw; omega
 rw[if_pos (by omega)]; rfl
theorem qe (x:zJ) (hw:zp x<=137438953472):KU (x,())=some (x,()):=by
 unfold KU;dsimp only;have:x.2.2.length<=137438953472:=by simp only[zp,zu] at hw; omega
 rw[if_pos (by omega)]; rfl
theorem nN (x:zx) (hw:zz x<=137438953472):qg (x,())=some (x,()):=by
 unfold qg;simp only[qk x.2.2.1 (by simp only[zz] at hw; omega),Option.bind_some]
theorem agm (x:y9) (hw:zA x<=137438953472):om (x,())=some (x,()):=by
 unfold om;simp only[qk x.2 (by simp only[zA] at hw; omega),Option.bind_some]
theorem IF (x:zo) (hw:zh x<=137438953472):eu (x,())=some (x,()):=by
 unfold eu;simp only[zh] at hw;simp only[agm x.2.2.1 (by omega),qe x.2.2.2.1 (by omega),qk x.2.2.2.2.1 (by omega),aqC]
theorem IC (x:z6) (hw:zL x<=137438953472):KV (x,())=some (x,()):=by
 have hl:x.length<=137438953472:=by unfold zL at hw; omega
 unfold KV;refine L6 (λ i s=>(s,i,())) x (λ s=>some (s,())) (by omega) ?_ ?_
 ·intro rec s hs; simp
 ·intro rec i s y hx hi hs;have hy:zp y<=137438953472:=by have:=ZN zp (List.mem_of_getElem? hx); unfold zL at hw; omega
  simp only[aqN,zv hi,aqH,aqE,if_true,aqS,zm (e:=(.pair .i64 (.pair .str (.sl 0 .i64)))) hx,qe y hy,aqC,zq (show i<4611686018427387904 by omega),aqG,aqJ];rw[if_pos (by omega)]
theorem IG (x:jw) (hw:yu x<=137438953472):ev (x,())=some (x,()):=by
 have hl:x.length<=137438953472:=by unfold yu at hw; omega
 unfold ev;refine L6 (λ i s=>(s,i,())) x (λ s=>some (s,())) (by omega) ?_ ?_
 ·intro rec s hs; simp
 ·intro rec i s y hx hi hs;have hy:zh y.2<=137438953472:=by have:=ZN Yf (List.mem_of_getElem? hx); simp only[Yf] at this; unfold yu at hw; omega
  simp only[aqN,zv hi,aqH,aqE,if_true,aqS,zm (e:=(.pair .i64 (.pair .i64 (.pair .i64 (.pair (.pair .str (.pair .i64 (.pair .str (.sl 0 .i64)))) (.pair (.pair .i64 (.pair .str (.sl 0 .i64))) (.pair (.pair .i64 (.pair .str (.sl 0 .i64))) (.pair .i64 (.pair .i64 (.pair .i64 (.pair .i64 .i64))))))))))) hx,IF y.2 hy,aqC,zq (show i<4611686018427387904 by omega),aqG,aqJ];rw[if_pos (by omega)]
theorem Yd (x:zb) (hw:zf x<=137438953472):yW (x,())=some (x,()):=by
 unfold yW;simp only[zf,Kt,KY] at hw;simp only[nN x.2.2.2.1 (by omega),IC x.2.2.2.2.2.1 (by omega),nO x.2.2.2.2.2.2.1 (by omega),IG x.2.2.2.2.2.2.2 (by omega),aqC];rw[if_pos (by omega)]; rfl
theorem Nx (x:ym) (hw:x.length<=137438953472):JD (x,())=some (x,()):=by
 unfold JD;dsimp only;rw[if_pos (by omega)]
theorem Ny (x:zF) (hw:zj x<=137438953472):KE (x,())=some (x,()):=by
 unfold KE;simp only[Nx x.2.2 (by simp only[zj,zu] at hw; omega),Option.bind_some]
theorem Qr (x:zJ) (hw:zp x<=137438953472):J9 (x,())=some (x,()):=by
 unfold J9;simp only[Nx x.2.2 (by simp only[zp,zu] at hw; omega),Option.bind_some]
theorem kh (x:zx) (hw:zz x<=137438953472):Nz (x,())=some (x,()):=by
 unfold Nz;simp only[Ny x.2.2.1 (by simp only[zz] at hw; omega),Option.bind_some]
theorem AM (x:zy) (hw:Kt x<=137438953472):KF (x,())=some (x,()):=by
 unfold KF;dsimp only;simp only[Kt] at hw;rw[if_pos (by omega)]
theorem XI (x:y9) (hw:zA x<=137438953472):ke (x,())=some (x,()):=by
 unfold ke;simp only[Ny x.2 (by simp only[zA] at hw; omega),Option.bind_some]
theorem AK (x:zo) (hw:zh x<=137438953472):cl (x,())=some (x,()):=by
 unfold cl;simp only[zh] at hw;simp only[XI x.2.2.1 (by omega),Qr x.2.2.2.1 (by omega),Ny x.2.2.2.2.1 (by omega),aqC]
theorem AL (x:z6) (hw:zL x<=137438953472):JE (x,())=some (x,()):=by
 have hl:x.length<=137438953472:=by unfold zL at hw; omega
 unfold JE;refine L6 (λ i s=>(s,i,())) x (λ s=>some (s,())) (by omega) ?_ ?_
 ·intro rec s hs; simp
 ·intro rec i s y hx hi hs;have hy:zp y<=137438953472:=by have:=ZN zp (List.mem_of_getElem? hx); unfold zL at hw; omega
  simp only[aqN,zv hi,aqH,aqE,if_true,aqS,zm (e:=(.pair .i64 (.pair .str (.sl 0 .i64)))) hx,Qr y hy,aqC,zq (show i<4611686018427387904 by omega),aqG,aqJ];rw[if_pos (by omega)]
theorem XJ (x:jw) (hw:yu x<=137438953472):kg (x,())=some (x,()):=by
 have hl:x.length<=137438953472:=by unfold yu at hw; omega
 unfold kg;refine L6 (λ i s=>(s,i,())) x (λ s=>some (s,())) (by omega) ?_ ?_
 ·intro rec s hs; simp
 ·intro rec i s y hx hi hs;have hy:zh y.2<=137438953472:=by have:=ZN Yf (List.mem_of_getElem? hx); simp only[Yf] at this; unfold yu at hw; omega
  simp only[aqN,zv hi,aqH,aqE,if_true,aqS,zm (e:=(.pair .i64 (.pair .i64 (.pair .i64 (.pair (.pair .str (.pair .i64 (.pair .str (.sl 0 .i64)))) (.pair (.pair .i64 (.pair .str (.sl 0 .i64))) (.pair (.pair .i64 (.pair .str (.sl 0 .i64))) (.pair .i64 (.pair .i64 (.pair .i64 (.pair .i64 .i64))))))))))) hx,AK y.2 hy,aqC,zq (show i<4611686018427387904 by omega),aqG,aqJ];rw[if_pos (by omega)]
theorem ZW (x:zb) (hw:zf x<=137438953472):zO (x,())=some (x,()):=by
 unfold zO;simp only[zf] at hw;have h5:x.2.2.2.2.2.2.1.1.length<=137438953472:=by simp only[KY] at hw; omega
 simp only[kh x.2.2.2.1 (by omega),AM x.2.2.2.2.1 (by omega),AL x.2.2.2.2.2.1 (by omega),kf x.2.2.2.2.2.2.1 (by omega),XJ x.2.2.2.2.2.2.2 (by omega),aqC]
theorem AN (x:M3) (hw:Yg x<=137438953472):cm (x,())=some (x,()):=by
 unfold cm;dsimp only;simp only[Yg,bj] at hw;rw[if_pos (by omega)]
theorem II (w:zr) (hw:yl w<=137438953472):ey (w,())=some (w,()):=by
 have hr:JW w.2.2.1<=137438953472:=by simp only[yl] at hw; omega
 have hs:Yh w.2.2.2.1<=137438953472:=by simp only[yl] at hw; omega
 have h1:w.2.1.length<=137438953472:=by simp only[yl,zu] at hw; omega
 have h2:w.2.2.2.2.length<=137438953472:=by simp only[yl,JX] at hw; omega
 have h3:w.2.2.1.length<=137438953472:=by unfold JW at hr; omega
 have h4:w.2.2.2.1.length<=137438953472:=by unfold Yh at hs; omega
 unfold ey;dsimp only;rw[if_pos (by omega),if_pos (by omega)];refine (L6 (λ i (s:Zf)=>(i,(w.1,[]++w.2.1,s,[],[]++w.2.2.2.2),())) w.2.2.1 (λ s=>some ((w.1,[]++w.2.1,s,w.2.2.2.1,[]++w.2.2.2.2),())) (by omega) ?_ ?_).trans (by simp)
 ·intro rec s hs';simp only[aqY,aqL,aqD];refine L6 (λ i (t:yQ)=>(i,(w.1,[]++w.2.1,s,t,[]++w.2.2.2.2),())) w.2.2.2.1 (λ t=>some ((w.1,[]++w.2.1,s,t,[]++w.2.2.2.2),())) (by omega) ?_ ?_
  ·intro rec t ht; simp
  ·intro rec i t y hx hi ht;have hy:Yg y<=137438953472:=by have:=ZN Yg (List.mem_of_getElem? hx); unfold Yh at hs; omega
   simp only[Yg,bj] at hy;simp only[aqN,zv hi,aqH,aqE,if_true,aqS,zm (e:=(.pair .i64 (.sl 0 .u8))) hx,zq (show i<4611686018427387904 by omega),aqG,aqJ];rw[if_pos (by omega),if_pos (by omega)];rfl
 ·intro rec i s y hx hi hs';have hy:zf y<=137438953472:=by have:=ZN zf (List.mem_of_getElem? hx); unfold JW at hr; omega
  simp only[aqN,zv hi,aqH,aqE,if_true,aqS,zm (e:=(.pair .i64 (.pair .i64 (.pair .i64 (.pair (.pair .i64 (.pair .i64 (.pair (.pair .i64 (.pair .str (.sl 0 .i64))) .str))) (.pair (.sl 0 (.pair .i64 (.pair .i64 (.pair .i64 .i64)))) (.pair (.sl 0 (.pair .i64 (.pair .str (.sl 0 .i64)))) (.pair (.pair (.sl 0 .u8) .i64) (.sl 0 (.pair .i64 (.pair .i64 (.pair .i64 (.pair (.pair .str (.pair .i64 (.pair .str (.sl 0 .i64)))) (.pair (.pair .i64 (.pair .str (.sl 0 .i64))) (.pair (.pair .i64 (.pair .str (.sl 0 .i64))) (.pair .i64 (.pair .i64 (.pair .i64 (.pair .i64 .i64))))))))))))))))))) hx,Yd y hy,aqC,zq (show i<4611686018427387904 by omega),aqG,aqJ];rw[if_pos (by omega)]
theorem Qs (w:zr) (hw:yl w<=137438953472):yS (w,())=some (w,()):=by
 have hr:JW w.2.2.1<=137438953472:=by simp only[yl] at hw; omega
 have hs:Yh w.2.2.2.1<=137438953472:=by simp only[yl] at hw; omega
 have h1:w.2.1.length<=137438953472:=by simp only[yl,zu] at hw; omega
 have h2:w.2.2.2.2.length<=137438953472:=by simp only[yl,JX] at hw; omega
 have h3:w.2.2.1.length<=137438953472:=by unfold JW at hr; omega
 have h4:w.2.2.2.1.length<=137438953472:=by unfold Yh at hs; omega
 unfold yS;simp only[Nx w.2.1 h1,aqC];rw[if_pos (by omega)];refine (L6 (λ i (s:Zf)=>(i,(w.1,w.2.1,s,[],w.2.2.2.2),())) w.2.2.1 (λ s=>some ((w.1,w.2.1,s,w.2.2.2.1,w.2.2.2.2),())) (by omega) ?_ ?_).trans (by simp)
 ·intro rec s hs';simp only[aqY,aqL,aqD];refine L6 (λ i (t:yQ)=>(i,(w.1,w.2.1,s,t,w.2.2.2.2),())) w.2.2.2.1 (λ t=>some ((w.1,w.2.1,s,t,w.2.2.2.2),())) (by omega) ?_ ?_
  ·intro rec t ht; simp
  ·intro rec i t y hx hi ht;have hy:Yg y<=137438953472:=by have:=ZN Yg (List.mem_of_getElem? hx); unfold Yh at hs; omega
   simp only[aqN,zv hi,aqH,aqE,if_true,aqS,zm (e:=(.pair .i64 (.sl 0 .u8))) hx,AN y hy,aqC,zq (show i<4611686018427387904 by omega),aqG,aqJ];rw[if_pos (by omega)]
 ·intro rec i s y hx hi hs';have hy:zf y<=137438953472:=by have:=ZN zf (List.mem_of_getElem? hx); unfold JW at hr; omega
  simp only[aqN,zv hi,aqH,aqE,if_true,aqS,zm (e:=(.pair .i64 (.pair .i64 (.pair .i64 (.pair (.pair .i64 (.pair .i64 (.pair (.pair .i64 (.pair .str (.sl 0 .i64))) .str))) (.pair (.sl 0 (.pair .i64 (.pair .i64 (.pair .i64 .i64)))) (.pair (.sl 0 (.pair .i64 (.pair .str (.sl 0 .i64)))) (.pair (.pair (.sl 0 .u8) .i64) (.sl 0 (.pair .i64 (.pair .i64 (.pair .i64 (.pair (.pair .str (.pair .i64 (.pair .str (.sl 0 .i64)))) (.pair (.pair .i64 (.pair .str (.sl 0 .i64))) (.pair (.pair .i64 (.pair .str (.sl 0 .i64))) (.pair .i64 (.pair .i64 (.pair .i64 (.pair .i64 .i64))))))))))))))))))) hx,ZW y hy,aqC,zq (show i<4611686018427387904 by omega),aqG,aqJ];rw[if_pos (by omega)]
end G448
namespace G448
open Ev Go
theorem Oe {S X R:Type} (n:Nat) {G:(X->Option R)->X->Option R} (mk:Int->S->X) (I:Nat->S->Prop) (f:Nat->S->Option R) (hn:n<=1152921504606846976)
  (ahe:∀ rec s,I n s->G rec (mk (n:Int) s)=f n s)
  (ahg:∀ rec (i:Nat) s,i<n->I i s->(G rec (mk (i:Int) s)=f i s)∨∃ s',I (i+1) s'/\G rec (mk (i:Int) s)=rec (mk ((i:Int)+1) s')/\f i s=f (i+1) s') {s0:S} (i0:Nat) (hi0:i0<=n) (h0:I i0 s0):
  iter G fuel (mk (i0:Int) s0)=f i0 s0:=by
 have key:∀ (m i:Nat) (s:S),i<=n->n - i<m->I i s->iter G m (mk (i:Int) s)=f i s:=by
  intro m;induction m with
  | zero=>intro i s h1 h2 h3; omega
  | succ m ih=>
   intro i s h1 h2 h3;rcases Nat.lt_or_ge i n with h|h
   ·rcases ahg (iter G m) i s h h3 with g|⟨s',g1,g2,g3⟩
    ·exact g
    ·rw[g3];have e1:iter G (m+1) (mk (i:Int) s)=iter G m (mk ((i:Int)+1) s'):=g2;rw[e1];exact ih (i+1) s' h (by omega) g1
   ·have hi:i=n:=by omega
    subst hi;exact ahe (iter G m) s h3
 exact key fuel i0 s0 hi0 (by have:=Y2 hn; omega) h0
theorem walk {S X R:Type} (n:Nat) {G:(X->Option R)->X->Option R} (mk:Int->S->X) (I:Nat->S->Prop) (f:Nat->S->Option R) (hn:n<=1152921504606846976)
  (ahe:∀ rec s,I n s->G rec (mk (n:Int) s)=f n s)
  (ahg:∀ rec (i:Nat) s,i<n->I i s->(G rec (mk (i:Int) s)=f i s)∨∃ s',I (i+1) s'/\G rec (mk (i:Int) s)=rec (mk ((i:Int)+1) s')/\f i s=f (i+1) s') {s0:S} (h0:I 0 s0):
  iter G fuel (mk 0 s0)=f 0 s0:=Oe n mk I f hn ahe ahg 0 (Nat.zero_le _) h0
def glue (u:List UInt8):List (List UInt8)->List (List UInt8)
 | p::r=>(u++p)::r
 | []=>[u]
def zY (c:UInt8):List UInt8->List (List UInt8)
 | []=>[[]]
 | x::l=>if x=c then []::zY c l else glue [x] (zY c l)
theorem JJ (c:UInt8):∀ s,zY c s≠[]
 | []=>by simp[zY]
 | x::l=>by
  simp only[zY];split
  ·simp
  ·cases zY c l<;>simp[glue]
theorem WJ (u v:List UInt8) {l:List (List UInt8)} (h:l≠[]):glue u (glue v l)=glue (u++v) l:=by
 cases l with
 | nil=>exact absurd rfl h
 | cons p r=>simp[glue]
theorem Ag {l:List (List UInt8)} (h:l≠[]):glue [] l=l:=by
 cases l with
 | nil=>exact absurd rfl h
 | cons p r=>simp[glue]
theorem tV (c:UInt8):∀ s,c∉s->zY c s=[s]
 | [],_=>rfl
 | x::l,h=>by
  simp only[aqW,not_or] at h;simp only[zY,if_neg (Ne.symm h.1),tV c l h.2,glue,List.singleton_append]
theorem EK (c:UInt8) (post:List UInt8):∀ pre,c∉pre->zY c (pre++c::post)=pre::zY c post
 | [],_=>by simp[zY]
 | x::l,h=>by
  simp only[aqW,not_or] at h;simp only[arE,zY,if_neg (Ne.symm h.1),EK c post l h.2,glue,ar6]
theorem db (c:UInt8):∀ s,(zY c s).length<=s.length+1
 | []=>by simp[zY]
 | x::l=>by
  have:=db c l;simp only[zY];split
  ·simp; omega
  ·cases hp:zY c l with
   | nil=>simp[glue]
   | cons p r=>rw[hp] at this; simp[glue] at this ⊢; omega
def jb (c:UInt8):List UInt8->Option (List UInt8×List UInt8)
 | []=>none
 | x::l=>if x=c then some ([],l) else (jb c l).map λ p=>(x::p.1,p.2)
theorem xr (c:UInt8):∀ s,c∉s->jb c s=none
 | [],_=>rfl
 | x::l,h=>by
  simp only[aqW,not_or] at h;simp only[jb,if_neg (Ne.symm h.1),xr c l h.2,Option.map_none]
theorem bD (c:UInt8) (post:List UInt8):∀ pre,c∉pre->jb c (pre++c::post)=some (pre,post)
 | [],_=>by simp[jb]
 | x::l,h=>by
  simp only[aqW,not_or] at h;simp only[arE,jb,if_neg (Ne.symm h.1),bD c post l h.2,art]
theorem pg (c:UInt8):∀ {s p q},jb c s=some (p,q)->p.length+q.length+1=s.length/\s=p++c::q
 | [],p,q,h=>by cases h
 | x::l,p,q,h=>by
  simp only[jb] at h;split at h
  ·next e=>cases h; subst e; simp
  ·obtain⟨⟨p',q'⟩,h1,h2⟩:=Option.map_eq_some_iff.1 h;cases h2;obtain⟨g1,g2⟩:=pg c h1;exact⟨by simp; omega,by rw[g2]; simp⟩
theorem wW (c:UInt8) (s:List UInt8):(c∉s/\Lib.indexByte s c = -1)∨∃ pre post,s=pre++c::post/\c∉pre/\Lib.indexByte s c=(pre.length:Int):=by
 rcases Int.lt_or_le (Lib.indexByte s c) 0 with h|h
 ·have e:Lib.indexByte s c = -1:=by
   have:=Lib.index_ge s [c];rw[Lib.index_one] at this;omega
  left;refine⟨λ hm => ?_,e⟩;obtain⟨k,hk⟩:=List.getElem?_of_mem hm;exact Lib.indexByte_none e k hk
 ·right;obtain⟨o,ho⟩:∃ o:Nat,Lib.indexByte s c=(o:Int):=⟨(Lib.indexByte s c).toNat,by omega⟩
  obtain⟨h1,h2⟩:=Lib.indexByte_some ho;have hlt:o<s.length:=by
   rcases Nat.lt_or_ge o s.length with h'|h'
   ·exact h'
   ·rw[ar9 h'] at h1; cases h1
  refine⟨s.take o,s.drop (o+1),?_,?_,by rw[ho]; simp; omega⟩
  ·have e:s[o]=c:=by rw[arf hlt] at h1; exact Option.some.inj h1
   rw[←e,←aqX hlt,as0]
  ·intro hm;obtain⟨k,hk⟩:=List.getElem?_of_mem hm;rw[arM] at hk;split at hk
   ·exact h2 k (by assumption) hk
   ·cases hk
theorem IM (c:UInt8):∀ (k:Nat) (s:List UInt8),s.count c<=k->Lib.splitK [c] 0 k s=zY c s
 | 0,s,h=>by
  have:c∉s:=λ hm=>by have:=List.count_pos_iff.2 hm; omega
  rw[tV c s this]; rfl
 | k+1,s,h=>by
  unfold Lib.splitK;rw[Lib.index_one];rcases wW c s with⟨h1,h2⟩|⟨pre,post,rfl,h1,h2⟩
  ·rw[h2,tV c s h1]; rfl
  ·rw[h2,EK c post pre h1];have e:((pre.length:Int) == -1)=false:=by simp
   rw[e];have hd:(pre++c::post).drop ((pre.length:Int).toNat+[c].length)=post:=by
    rw[aqN,asX,←ark]; simp
   have ht:(pre++c::post).take ((pre.length:Int).toNat+0)=pre:=by simp
   simp only[ar3,if_false];rw[hd,ht,IM c k post (by simp[List.count_append,List.count_cons] at h; omega)]
theorem aaC (c:UInt8) (s:List UInt8):Lib.split s [c]=zY c s:=by
 unfold Lib.split;refine IM c _ s ?_;rw[Lib.count_one];exact Nat.le_refl _
theorem aaB (c:UInt8) (s:List UInt8):Lib.cut s [c]=match jb c s with|some p=>(p.1,p.2,true)|none=>(s,[],false):=by
 unfold Lib.cut;rw[Lib.index_one];rcases wW c s with⟨h1,h2⟩|⟨pre,post,rfl,h1,h2⟩
 ·rw[h2,xr c s h1,if_neg (by decide)]
 ·rw[h2,bD c post pre h1,if_pos (by omega)];have hd:(pre++c::post).drop ((pre.length:Int).toNat+[c].length)=post:=by
   rw[aqN,asX,←ark]; simp
  have ht:(pre++c::post).take ((pre.length:Int).toNat)=pre:=by simp
  rw[hd,ht]
theorem fX {s:List UInt8} {i:Nat} {x:UInt8} (h:s[i]?=some x):s.getD i 0=x:=by rw[arw,h]; rfl
theorem aeM {s:List UInt8} {start i:Nat} (h:start<=i) (hi:i<s.length):(s.drop start).take (i+1 - start)=(s.drop start).take (i - start)++[s[i]]:=by
 rw[show i+1 - start=(i - start)+1 by omega,asa];congr 1;rw[arH,show start+(i - start)=i by omega,arf hi]; rfl
theorem Iw (s:List UInt8) (c:UInt8) (hs:s.length<=137438953472):d6 (s,c,())=some (zY c s,()):=by
 unfold d6;dsimp only;refine (walk (s.length+1) (λ i (t:List (List UInt8)×Nat)=>(t.1,(t.2:Int),i,())) (λ i t=>t.2<=i/\t.1.length<=i)
  (λ i t=>some (if i<=s.length then t.1++glue ((s.drop t.2).take (i - t.2)) (zY c (s.drop i)) else t.1,())) (by omega) ?_ ?_ (s0:=([],0)) ⟨Nat.le_refl _,Nat.zero_le _⟩).trans ?_
 ·intro rec t ht;have:¬ (((s.length+1:Nat):Int)<=(s.length:Int)):=by omega
  simp only[this,aqL,aqD];rw[if_neg (by omega)]
 ·intro rec i t hi ht;right;obtain⟨h1,h2⟩:=ht;have g:((i:Int)<=(s.length:Int)):=by omega
  by_cases he:i=s.length
  ·subst he;refine⟨(t.1++[(s.drop t.2).take (s.length - t.2)],s.length+1),⟨Nat.le_refl _,by simp; omega⟩,?_,?_⟩
   ·simp only[g,aqH,aqE,beq_self_eq_true,aqN,zq (show s.length<4611686018427387904 by omega),aqG,aqJ];rw[if_pos (by first|omega|(simp only[true_and,and_true]; omega)),if_pos (by first|omega|(simp only[true_and,and_true]; omega))]
    rfl
   ·rw[if_pos (arp _),if_neg (by omega)]; simp[zY,glue]
  ·have hlt:i<s.length:=by omega
   have hx:s[i]?=some s[i]:=List.getElem?_eq_getElem hlt;have e1:((i:Int)==(s.length:Int))=false:=by simp; omega
   have g2:(0:Int)<=(i:Int)/\(i:Int)<(s.length:Int):=by omega
   simp only[g,aqH,aqE,e1,aqD,g2,aqS,if_true,aqN,fX hx,zq (show i<4611686018427387904 by omega),aqG,aqJ];by_cases hc:s[i]=c
   ·refine⟨(t.1++[(s.drop t.2).take (i - t.2)],i+1),⟨Nat.le_refl _,by simp; omega⟩,?_,?_⟩
    ·have:(s[i]==c)=true:=by simp[hc]
     simp only[this,aqE];rw[if_pos (by first|omega|(simp only[true_and,and_true]; omega)),if_pos (by first|omega|(simp only[true_and,and_true]; omega))]
     rfl
    ·rw[if_pos (by omega),if_pos (by omega),aqX hlt,zY,if_pos hc];simp only[Nat.sub_self,List.take_zero,Ag (JJ _ _)];simp[glue]
   ·refine⟨t,⟨by omega,by omega⟩,?_,?_⟩
    ·have:(s[i]==c)=false:=by simp[hc]
     simp only[this,aqD]
    ·rw[if_pos (by omega),if_pos (by omega),aeM h1 hlt,aqX hlt,zY,if_neg hc,WJ _ _ (JJ _ _)]
 ·simp[Ag (JJ _ _)]
theorem AC (s:List UInt8) (c:UInt8) (hs:s.length<=1073741824):cd (s,c,())=some (zY c s,()):=by
 unfold cd strings_Split;dsimp only;rw[if_pos ⟨by omega,by simp⟩,aaC]; rfl
theorem agl (s:List UInt8) (c:UInt8) (hs:s.length<=137438953472):
  MU (s,c,())=match jb c s with|some p=>some (p.1,p.2,true,())|none=>some ([],[],false,()):=by
 unfold MU;dsimp only;refine (walk s.length (λ i (_:Unit)=>(i,())) (λ _ _=>True) (λ i _=>match jb c (s.drop i) with|some p=>some (s.take i++p.1,p.2,true,())|none=>some ([],[],false,())) (by omega) ?_ ?_ (s0:=()) trivial).trans ?_
 ·intro rec t ht;simp[jb]
 ·intro rec i t hi ht;have hx:s[i]?=some s[i]:=List.getElem?_eq_getElem hi;simp only[zv hi,aqH,aqE,aqS,if_true,aqN,fX hx,zq (show i<4611686018427387904 by omega)];rw[aqX hi];by_cases hc:s[i]=c
  ·left;have:(s[i]==c)=true:=by simp[hc]
   simp only[this,aqE];rw[if_pos (by first|omega|(simp only[true_and,and_true]; omega)),if_pos (by first|omega|(simp only[true_and,and_true]; omega))]
   simp only[jb,if_pos hc];congr 2
   ·simp
   ·congr 1;have:(((i:Int)+1).toNat)=i+1:=by omega
    rw[this,arI (by simp)]
  ·right;have:(s[i]==c)=false:=by simp[hc]
   refine⟨(),trivial,by simp only[this,aqD],?_⟩;simp only[jb,if_neg hc];rw[asa,hx];cases jb c (s.drop (i+1)) with
   | none=>rfl
   | some p=>simp only[art,Option.toList_some,ar7,List.singleton_append]
 ·simp
theorem Ji (x lo hi:Int):yC (x,lo,hi,())=some (decide (x≥lo) && decide (x<=hi),()):=by
 unfold yC;by_cases h:x≥lo<;>simp[h]
theorem Yl (x lo hi:Int):yx (x,lo,hi,())=some (decide (x≥lo) && decide (x<=hi),()):=by
 unfold yx;by_cases h:x≥lo<;>simp[h]
theorem agA (u:Nat):y8 (48+((u % 10:Nat):Int))=UInt8.ofNat (48+u % 10):=by
 rw[wc];congr 1;omega
theorem au (u:Nat) (h:u<=9223372036854775807):KS ((u:Int),())=some (Lib.decDigits u,()):=by
 unfold KS;dsimp only;by_cases h0:u=0
 ·subst h0;have:Lib.decDigits 0=[48]:=by rw[Lib.decDigits]; rfl
  rw[this];rfl
 have e0:((u:Int)==0)=false:=by simp; omega
 have en:¬ ((u:Int)<0):=by omega
 simp only[e0,aqD,en,aqL];refine (Qw (λ x:Int×List UInt8×Unit=>some ((if x.1=0 then [] else Lib.decDigits x.1.toNat)++x.2.1,())) (λ x=>x.1.toNat)
  (λ x=>0<=x.1/\x.1<=9223372036854775807/\∃ k,x.1.toNat<10 ^ k/\k+x.2.1.length<=20) ?_ fuel ((u:Int),[],()) ⟨by simp,by simp only; omega,20,by
   simp only[aqN];exact Nat.lt_of_le_of_lt h (by decide),by simp⟩ (by simp only[aqN,Zt]; omega)).trans ?_
 ·rintro rec ⟨v,out,⟨⟩⟩ ⟨h1,ahy,k,h2,h3⟩ ah3;obtain⟨n,rfl⟩:∃ n:Nat,v=(n:Int):=⟨v.toNat,by simp only at h1; omega⟩
  simp only[aqN] at h2;by_cases hn:n=0
  ·subst hn;simp
  have e1:((n:Int) != 0)=true:=by simp; omega
  have e2:Int.tmod (n:Int) 10=((n % 10:Nat):Int):=by simp[Int.tmod]
  have e3:Int.tdiv (n:Int) 10=((n / 10:Nat):Int):=by simp[Int.tdiv]
  have e4:¬ (((n % 10:Nat):Int)<0):=by omega
  simp only at ahy h3;have hk:1<=k:=by
   rcases Nat.eq_zero_or_pos k with h'|h'
   ·subst h'; simp at h2; omega
   ·exact h'
  simp only[e1,aqE,e2,e3,e4,aqL,aqD];rw[zg (show (-9223372036854775808:Int)<=48+((n % 10:Nat):Int) by omega) (show 48+((n % 10:Nat):Int)<=9223372036854775807 by omega),agA,
   zg (show (-9223372036854775808:Int)<=((n / 10:Nat):Int) by omega) (show ((n / 10:Nat):Int)<=9223372036854775807 by omega)]
  rw[if_pos (by simp only[aqG,aqJ]; omega)]
  rw[ah3 (((n / 10:Nat):Int),[UInt8.ofNat (48+n % 10)]++out,()) ⟨by simp only; omega,by simp only; omega,k - 1,by
   simp only[aqN];have:10 ^ k=10 ^ (k - 1)*10:=by rw[←arC]; congr 1; omega
   omega,by simp only[aqM,aqG,aqJ]; omega⟩ (by simp only[aqN]; omega)]
  simp only[aqN];rw[if_neg (show ¬ ((n:Int)=0) by omega)];by_cases h10:n<10
  ·have:n / 10=0:=by omega
   rw[this,if_pos (by rfl),Lib.decDigits,dif_pos h10];have:n % 10=n:=by omega
   rw[this]; rfl
  ·rw[if_neg (by omega)]
   conv=>rhs; rw[Lib.decDigits,dif_neg h10]
   simp
 ·simp only[aqN];rw[if_neg (by omega)]; simp
theorem WU (n:Int):KD (n,())=some (Lib.itoa n,()):=rfl
theorem Qb (u:Nat):KD ((u:Int),())=some (Lib.decDigits u,()):=by
 rw[WU,Lib.itoa,if_neg (by omega)]; simp
def ZF (b:UInt8):Bool := !(decide (b<UInt8.ofNat 48)) && !(decide (b>UInt8.ofNat 57))
def ZH (l:List UInt8) (v:Nat):Nat:=l.foldl (λ v b=>10*v+(b.toNat - 48)) v
def zE (s:List UInt8):Int×Bool:=
 if 1<=s.length/\s.length<=6/\s.all ZF=true/\Lib.decDigits (ZH s 0)=s then ((ZH s 0:Nat),true) else (0,false)
theorem cr (b:UInt8):ZF b=true↔48<=b.toNat/\b.toNat<=57:=by
 unfold ZF;simp only[aqF,arc,as1,UInt8.lt_iff_toNat_lt,gt_iff_lt];simp
theorem tY {i:Nat} (h:i<=6):10 ^ i<=1000000:=Nat.pow_le_pow_right (n:=10) (by decide) h
theorem BY {dig:Int×Unit->Option (List UInt8×Unit)} (hd:∀ u:Nat,u<=9223372036854775807->dig ((u:Int),())=some (Lib.decDigits u,())) (s:List UInt8) (h6:s.length<=6) {G:(Int×Int×Unit->Option (Int×Bool×Unit))->Int×Int×Unit->Option (Int×Bool×Unit)}
  (ahe:∀ rec (v:Int),G rec (v,(s.length:Int),())=(dig (v,())).bind λ r1=>bif r1.1 != s then some (0,false,()) else some (v,true,()))
  (ahg:∀ rec (i v:Nat) (b:UInt8),s[i]?=some b->i<s.length->v<10 ^ i->G rec ((v:Int),(i:Int),())=if ZF b=true then rec (((10*v+(b.toNat - 48):Nat):Int),(i:Int)+1,()) else some (0,false,())):
  iter G fuel (0,0,())=some (if s.all ZF=true/\Lib.decDigits (ZH s 0)=s then (((ZH s 0:Nat):Int),true,()) else (0,false,())):=by
 refine (walk s.length (λ i (v:Nat)=>((v:Int),i,())) (λ i v=>v<10 ^ i)
  (λ i v=>some (if (s.drop i).all ZF=true/\Lib.decDigits (ZH (s.drop i) v)=s then (((ZH (s.drop i) v:Nat):Int),true,()) else (0,false,()))) (by omega) ?_ ?_ (s0:=0) (by decide)).trans (by simp)
 ·intro rec v hv;have:=tY h6;rw[ahe,hd v (by omega)];simp only[aqC,arb,asq,ZH,List.foldl_nil,true_and];by_cases e:Lib.decDigits v=s
  ·have:(Lib.decDigits v != s)=false:=by simp[e]
   rw[if_pos e,this]; rfl
  ·have:(Lib.decDigits v != s)=true:=by simp[e]
   rw[if_neg e,this]; rfl
 ·intro rec i v hi hv;have hx:s[i]?=some s[i]:=List.getElem?_eq_getElem hi;rw[ahg rec i v s[i] hx hi hv,List.drop_eq_getElem_cons hi];by_cases hb:ZF s[i]=true
  ·right;refine⟨10*v+(s[i].toNat - 48),?_,by rw[if_pos hb],?_⟩
   ·have:=(cr _).1 hb;rw[arC]; omega
   ·have e:ZH (s[i]::List.drop (i+1) s) v=ZH (List.drop (i+1) s) (10*v+(s[i].toNat - 48)):=rfl;rw[ard,hb,aqU,e]
  ·left;rw[if_neg hb,if_neg (λ h=>hb (by have:=h.1; rw[ard,aqF] at this; exact this.1))]
theorem xi {α:Type} (b:UInt8) (x y:α):(bif decide (b<UInt8.ofNat (Int.toNat 48)) then y else bif decide (b>UInt8.ofNat (Int.toNat 57)) then y else x)=if ZF b=true then x else y:=by
 unfold ZF;simp only[show Int.toNat 48=48 from rfl,show Int.toNat 57=57 from rfl];cases decide (b<UInt8.ofNat 48)<;>cases decide (b>UInt8.ofNat 57)<;>simp
theorem kW (s:List UInt8) (h:¬ (1<=s.length/\s.length<=6)):zE s=(0,false):=by
 unfold zE;rw[if_neg (λ hh=>h ⟨hh.1,hh.2.1⟩)]
theorem BX (s:List UInt8) (h:1<=s.length/\s.length<=6):
  (some (if s.all ZF=true/\Lib.decDigits (ZH s 0)=s then (((ZH s 0:Nat):Int),true,()) else (0,false,())):Option (Int×Bool×Unit))=some ((zE s).1,(zE s).2,()):=by
 unfold zE;by_cases hc:s.all ZF=true/\Lib.decDigits (ZH s 0)=s
 ·rw[if_pos hc,if_pos ⟨h.1,h.2,hc⟩]
 ·rw[if_neg hc,if_neg (λ hh=>hc hh.2.2)]
theorem It (s:List UInt8):MO (s,())=some ((zE s).1,(zE s).2,()):=by
 unfold MO;dsimp only;by_cases h1:(s.length:Int)<1
 ·rw[kW s (by omega)]; simp only[h1,aqH,aqE]
 by_cases h6:(s.length:Int)>6
 ·rw[kW s (by omega)]; simp only[h1,aqL,aqD,h6,aqH,aqE]
 simp only[h1,aqL,aqD,h6];refine (BY (dig:=KS) au s (by omega) ?_ ?_).trans (BX s (by omega))
 ·intro rec v; simp
 ·intro rec i v b hx hi hv;have hp:=tY (i:=i) (by omega);simp only[zv hi,aqH,aqE,aqS,if_true,aqN,fX hx,zq (show i<4611686018427387904 by omega)];rw[xi];by_cases hb:ZF b=true
  ·have:=(cr _).1 hb;rw[if_pos hb,if_pos hb,zg (n:=10*(v:Int)) (by omega) (by omega),zg (n:=10*(v:Int)+_) (by omega) (by omega),zg (by omega) (by omega)];congr 2;omega
  ·rw[if_neg hb,if_neg hb]
theorem Ax (s:List UInt8):bV (s,())=some ((zE s).1,(zE s).2,()):=by
 unfold bV;dsimp only;by_cases h1:(s.length:Int)<1
 ·rw[kW s (by omega)]; simp only[h1,aqH,aqE]
 by_cases h6:(s.length:Int)>6
 ·rw[kW s (by omega)]; simp only[h1,aqL,aqD,h6,aqH,aqE]
 simp only[h1,aqL,aqD,h6];refine (BY (dig:=KD) (λ u _=>Qb u) s (by omega) ?_ ?_).trans (BX s (by omega))
 ·intro rec v; simp
 ·intro rec i v b hx hi hv;have hp:=tY (i:=i) (by omega);simp only[zv hi,aqH,aqE,aqS,if_true,aqN,fX hx,zq (show i<4611686018427387904 by omega)];rw[xi];by_cases hb:ZF b=true
  ·have:=(cr _).1 hb;have ai2:(b - UInt8.ofNat (Int.toNat 48)).toNat=b.toNat - 48:=by
    rw[UInt8.toNat_sub_of_le]
    ·rfl
    ·rw[UInt8.le_iff_toNat_le]; exact this.1
   rw[if_pos hb,if_pos hb,ai2,zg (n:=10*(v:Int)) (by omega) (by omega),zg (by omega) (by omega)];congr 2
  ·rw[if_neg hb,if_neg hb]
theorem ab7 (l:List UInt8) (b:UInt8) (v:Nat):ZH (l++[b]) v=10*ZH l v+(b.toNat - 48):=by simp[ZH]
theorem fJ {u:Nat} (h:u<10):(UInt8.ofNat (48+u)).toNat=48+u:=by
 rw[UInt8.toNat_ofNat']; omega
theorem xu:∀ u:Nat,(Lib.decDigits u).all ZF=true/\ZH (Lib.decDigits u) 0=u:=by
 intro u;induction u using Nat.strongRecOn with
 | _ u ih=>
  by_cases h:u<10
  ·rw[Lib.decDigits,dif_pos h];have hd:ZF (UInt8.ofNat (48+u))=true:=(cr _).2 (by rw[fJ h]; omega)
   refine⟨by rw[ard,hd]; rfl,?_⟩
   simp only[ZH,arA,List.foldl_nil];rw[fJ h]; omega
  ·rw[Lib.decDigits,dif_neg h];obtain⟨h1,h2⟩:=ih (u / 10) (by omega);have hd:ZF (UInt8.ofNat (48+u % 10))=true:=(cr _).2 (by rw[fJ (by omega)]; omega)
   refine⟨by rw[List.all_append,h1,ard,hd]; rfl,?_⟩
   rw[ab7,h2,fJ (by omega)]; omega
theorem xw (u:Nat) (h:u<1000000):1<=(Lib.decDigits u).length/\(Lib.decDigits u).length<=6:=by
 rw[Lib.decDigits_length];refine⟨Lib.nDigits_pos u,?_⟩;have key:∀ k u:Nat,u<10 ^ (k+1)->Lib.nDigits u<=k+1:=by
  intro k;induction k with
  | zero=>intro u h; rw[Lib.nDigits_small (by simpa using h)]; exact Nat.le_refl _
  | succ k ih=>
   intro u h;by_cases hu:u<10
   ·rw[Lib.nDigits_small hu]; omega
   ·rw[Lib.nDigits_big hu];have:=ih (u / 10) (by rw[arC] at h; omega)
    omega
 exact key 5 u (by simpa using h)
theorem kV (u:Nat) (h:u<1000000):zE (Lib.decDigits u)=((u:Int),true):=by
 obtain⟨h1,h2⟩:=xu u;obtain⟨h3,h4⟩:=xw u h;unfold zE;rw[if_pos ⟨h3,h4,h1,by rw[h2]⟩,h2]
theorem ph {u:Nat} {c:UInt8} (hc:ZF c=false):c∉Lib.decDigits u:=by
 intro hm;have:=List.all_eq_true.1 (xu u).1 c hm;rw[hc] at this; cases this
def zI (t:zK):Bool:=(decide (t.1≥0) && decide (t.1<=3)) && ((decide (t.2.1≥0) && decide (t.2.1<=3)) && ((decide (t.2.2.1≥0) && decide (t.2.2.1<=1000)) && (decide (t.2.2.2≥0) && decide (t.2.2.2<=99))))
theorem MX (t:zK):zI t=true↔(0<=t.1/\t.1<=3)/\(0<=t.2.1/\t.2.1<=3)/\(0<=t.2.2.1/\t.2.2.1<=1000)/\(0<=t.2.2.2/\t.2.2.2<=99):=by
 unfold zI; simp only[aqF,aqP,ge_iff_le]
theorem qd (t:zK):LO (t,())=some (zI t,()):=by
 unfold LO zI;simp only[Ji,aqC];cases (decide (t.1≥0) && decide (t.1<=3))<;>cases (decide (t.2.1≥0) && decide (t.2.1<=3))<;>cases (decide (t.2.2.1≥0) && decide (t.2.2.1<=1000))<;>rfl
theorem Ml (t:zK):J8 (t,())=some (zI t,()):=by
 unfold J8 zI;simp only[Yl,aqC];cases (decide (t.1≥0) && decide (t.1<=3))<;>cases (decide (t.2.1≥0) && decide (t.2.1<=3))<;>cases (decide (t.2.2.1≥0) && decide (t.2.2.1<=1000))<;>rfl
def yO (t:zK):List UInt8:=
 if zI t=true then (((((Lib.decDigits t.1.toNat++[62])++Lib.decDigits t.2.1.toNat)++[58])++Lib.decDigits t.2.2.1.toNat)++[35])++Lib.decDigits t.2.2.2.toNat else []
theorem dl (u:Nat) (h:u<1000000):(Lib.decDigits u).length<=6:=(xw u h).2
theorem eO (t:zK):(yO t).length<=27:=by
 unfold yO;split
 ·next h=>
  have:=(MX t).1 h;have h1:=dl t.1.toNat (by omega);have h2:=dl t.2.1.toNat (by omega);have h3:=dl t.2.2.1.toNat (by omega);have h4:=dl t.2.2.2.toNat (by omega);simp only[aqM,aqG,aqJ];omega
 ·simp
theorem Iy (t:zK):aN (t,())=some (yO t,()):=by
 unfold aN yO;simp only[qd,aqC];by_cases h:zI t=true
 ·have hh:=(MX t).1 h;have d1:=au t.1.toNat (by omega);have d2:=au t.2.1.toNat (by omega);have d3:=au t.2.2.1.toNat (by omega);have d4:=au t.2.2.2.toNat (by omega);rw[asi (by omega)] at d1 d2 d3 d4;have h1:=dl t.1.toNat (by omega);have h2:=dl t.2.1.toNat (by omega);have h3:=dl t.2.2.1.toNat (by omega);have h4:=dl t.2.2.2.toNat (by omega);simp only[h,aqI,aqD,d1,d2,d3,d4,aqC,aqM,aqG,aqJ,if_true];rw[if_pos (by omega),if_pos (by omega),if_pos (by omega),if_pos (by omega),if_pos (by omega),if_pos (by omega)]
 ·have:zI t=false:=by simpa using h
  simp[this]
theorem AE (t:zK):Qn (t,())=some (yO t,()):=by
 unfold Qn yO;simp only[Ml,aqC];by_cases h:zI t=true
 ·have hh:=(MX t).1 h;have d1:=Qb t.1.toNat;have d2:=Qb t.2.1.toNat;have d3:=Qb t.2.2.1.toNat;have d4:=Qb t.2.2.2.toNat;rw[asi (by omega)] at d1 d2 d3 d4;have h1:=dl t.1.toNat (by omega);have h2:=dl t.2.1.toNat (by omega);have h3:=dl t.2.2.1.toNat (by omega);have h4:=dl t.2.2.2.toNat (by omega);simp only[h,aqI,aqD,d1,d2,d3,d4,aqC,aqM,aqG,aqJ,if_true];rw[if_pos (by omega),if_pos (by omega),if_pos (by omega),if_pos (by omega),if_pos (by omega),if_pos (by omega)]
 ·have:zI t=false:=by simpa using h
  simp[this]
def z7 (c:UInt8) (s d:List UInt8):List UInt8×List UInt8:=match jb c s with|some p=>p|none=>(d,[])
def Yy (s:List UInt8):zK:=
 let p:=z7 62 s []
 let q:=z7 58 p.2 []
 let r:=z7 35 q.2 []
 ((zE p.1).1,(zE q.1).1,(zE r.1).1,(zE r.2).1)
def Jz (s:List UInt8):zK:=
 let p:=z7 62 s s
 let q:=z7 58 p.2 p.2
 let r:=z7 35 q.2 q.2
 ((zE p.1).1,(zE q.1).1,(zE r.1).1,(zE r.2).1)
theorem I1 {t:zK} (h:zI t=true) (d1 d2 d3:List UInt8->List UInt8):
  let p:=z7 62 (yO t) (d1 (yO t))
  let q:=z7 58 p.2 (d2 p.2)
  let r:=z7 35 q.2 (d3 q.2)
  ((zE p.1).1,(zE q.1).1,(zE r.1).1,(zE r.2).1)=t:=by
 have hh:=(MX t).1 h;have e1:jb 62 (yO t)=some (Lib.decDigits t.1.toNat,Lib.decDigits t.2.1.toNat++58::(Lib.decDigits t.2.2.1.toNat++35::Lib.decDigits t.2.2.2.toNat)):=by
  unfold yO;rw[if_pos h];have:=bD 62 (Lib.decDigits t.2.1.toNat++58::(Lib.decDigits t.2.2.1.toNat++35::Lib.decDigits t.2.2.2.toNat)) (Lib.decDigits t.1.toNat) (ph (by decide));rw[←this];congr 1;simp
 have e2:=bD 58 (Lib.decDigits t.2.2.1.toNat++35::Lib.decDigits t.2.2.2.toNat) (Lib.decDigits t.2.1.toNat) (ph (by decide));have e3:=bD 35 (Lib.decDigits t.2.2.2.toNat) (Lib.decDigits t.2.2.1.toNat) (ph (by decide));simp only[z7,e1,e2,e3,kV _ (show t.1.toNat<1000000 by omega),kV _ (show t.2.1.toNat<1000000 by omega),kV _ (show t.2.2.1.toNat<1000000 by omega),kV _ (show t.2.2.2.toNat<1000000 by omega)];obtain⟨a,b,c,d⟩:=t;simp only at hh;simp only[aqO];omega
def ZO (s:List UInt8):zK×Bool:=if zI (Yy s)=true/\yO (Yy s)=s then (Yy s,true) else ((0,0,0,0),false)
theorem agF (s:List UInt8):ZO s=if zI (Jz s)=true/\yO (Jz s)=s then (Jz s,true) else ((0,0,0,0),false):=by
 unfold ZO;by_cases h1:zI (Yy s)=true/\yO (Yy s)=s
 ·have e:Jz s=Yy s:=by
   have:=I1 h1.1 (λ x=>x) (λ x=>x) (λ x=>x);rw[h1.2] at this;exact this
  rw[if_pos h1,e,if_pos h1]
 ·rw[if_neg h1,if_neg];intro h2;have e:Yy s=Jz s:=by
   have:=I1 h2.1 (λ x=>[]) (λ x=>[]) (λ x=>[]);rw[h2.2] at this;exact this
  exact h1 (by rw[e]; exact h2)
theorem kF (s:List UInt8) (c:UInt8) (hs:s.length<=137438953472):MU (s,c,())=some ((z7 c s []).1,(z7 c s []).2,(jb c s).isSome,()):=by
 rw[agl s c hs];unfold z7;cases jb c s<;>rfl
theorem M9 (c:UInt8) (s d:List UInt8) (hd:d.length<=s.length):(z7 c s d).1.length<=s.length/\(z7 c s d).2.length<=s.length:=by
 unfold z7;cases h:jb c s with
 | none=>exact⟨hd,by simp⟩
 | some p=>
  have:=(pg c (p:=p.1) (q:=p.2) h).1;simp only;omega
theorem agJ {t:zK} (h:¬ zI t=true):yO t=[]:=by unfold yO; rw[if_neg h]
theorem agI {t:zK} (h:zI t=true):yO t≠[]:=by unfold yO; rw[if_pos h]; simp
theorem ag8 (s:List UInt8) (hs:s.length<=137438953472):ec (s,())=some ((ZO s).1,(ZO s).2,()):=by
 have l1:=M9 62 s [] (by simp);have l2:=M9 58 (z7 62 s []).2 [] (by simp);have l3:=M9 35 (z7 58 (z7 62 s []).2 []).2 [] (by simp);unfold ec;simp only[show UInt8.ofNat (Int.toNat 62)=62 from rfl,show UInt8.ofNat (Int.toNat 58)=58 from rfl,show UInt8.ofNat (Int.toNat 35)=35 from rfl,
  kF s 62 hs,kF (z7 62 s []).2 58 (by omega),kF (z7 58 (z7 62 s []).2 []).2 35 (by omega),It,Iy,Option.bind_some]
 by_cases h0:s=[]
 ·subst h0;have:¬ (zI (Yy [])=true/\yO (Yy [])=[]):=λ h=>agI h.1 h.2;unfold ZO;rw[if_neg this];simp
 ·have e0:(s==[])=false:=by simp[h0]
  simp only[e0,aqD];unfold ZO;have ef:((zE (z7 62 s []).1).1,(zE (z7 58 (z7 62 s []).2 []).1).1,(zE (z7 35 (z7 58 (z7 62 s []).2 []).2 []).1).1,(zE (z7 35 (z7 58 (z7 62 s []).2 []).2 []).2).1)=Yy s:=rfl;rw[ef];by_cases h:yO (Yy s)=s
  ·have hok:zI (Yy s)=true:=by
    by_cases hk:zI (Yy s)=true
    ·exact hk
    ·rw[agJ hk] at h; exact absurd h.symm h0
   have e1:(yO (Yy s) != s)=false:=by simp[h]
   rw[if_pos ⟨hok,h⟩,e1]; rfl
  ·have e1:(yO (Yy s) != s)=true:=by simp[h]
   rw[if_neg (λ hh=>h hh.2),e1]; rfl
theorem oo (s:List UInt8) (c:UInt8) (hs:s.length<=1073741824):strings_Cut (s,[c],())=some ((z7 c s s).1,(z7 c s s).2,(jb c s).isSome,()):=by
 unfold strings_Cut;dsimp only;rw[if_pos (by omega),aaB];unfold z7;cases jb c s<;>rfl
theorem XA (s:List UInt8) (hs:s.length<=1073741824):cg (s,())=some ((ZO s).1,(ZO s).2,()):=by
 have l1:=M9 62 s s (Nat.le_refl _);have l2:=M9 58 (z7 62 s s).2 (z7 62 s s).2 (Nat.le_refl _);rw[agF];unfold cg;simp only[oo s 62 hs,oo (z7 62 s s).2 58 (by omega),oo (z7 58 (z7 62 s s).2 (z7 62 s s).2).2 35 (by omega),aqC];generalize hp:z7 62 s s=p;generalize hq:z7 58 p.2 p.2=q;generalize hr:z7 35 q.2 q.2=r;have ef:Jz s=((zE p.1).1,(zE q.1).1,(zE r.1).1,(zE r.2).1):=by
  unfold Jz; simp only[hp,hq,hr]
 refine (Wz [p.1,q.1,r.1,r.2] (λ x=>(zE x).1) (λ out=>(J8 ((rd .i64 out 0,rd .i64 out 1,rd .i64 out 2,rd .i64 out 3),())).bind λ r5=>bif (!r5.1) then some ((0,0,0,0),false,()) else
   (Qn ((rd .i64 out 0,rd .i64 out 1,rd .i64 out 2,rd .i64 out 3),())).bind λ r6=>bif (r6.1 != s) then some ((0,0,0,0),false,()) else some ((rd .i64 out 0,rd .i64 out 1,rd .i64 out 2,rd .i64 out 3),true,())) (by simp) ?_ ?_ _ (by simp)).trans ?_
 ·intro rec out ho;have ho:out.length=4:=ho;simp[ho]
 ·intro rec i out y hx hi ho;have ho:out.length=4:=ho;have hi':i<4:=hi;simp only[aqN,ho,zv hi,aqH,aqE,if_true,aqS,zm (e:=.str) hx,Ax y,aqC,zq (show i<4611686018427387904 by omega)];rw[if_pos ⟨trivial,by omega⟩]
 ·simp only[aqZ,arn,rd,at0,List.getD_cons_succ];rw[←ef,Ml,AE];simp only[aqC];by_cases h:zI (Jz s)=true
  ·by_cases h2:yO (Jz s)=s
   ·have e1:(yO (Jz s) != s)=false:=by simp[h2]
    rw[if_pos ⟨h,h2⟩,e1,h]; rfl
   ·have e1:(yO (Jz s) != s)=true:=by simp[h2]
    rw[if_neg (λ hh=>h2 hh.2),e1,h]; rfl
  ·have:zI (Jz s)=false:=by simpa using h
   rw[if_neg (λ hh=>h hh.1),this]; rfl
def Jl:List (List UInt8)->List zK->List zK×Bool
 | [],out=>(out,true)
 | p::ps,out=>if (ZO p).2=true then Jl ps (out++[(ZO p).1]) else ([],false)
def jC (s:List UInt8):List zK×Bool:=if s=[] then ([],true) else Jl (zY 44 s) []
theorem NT (c:UInt8):∀ {s p:List UInt8},p∈zY c s->p.length<=s.length
 | [],p,h=>by simp[zY] at h; simp[h]
 | x::l,p,h=>by
  simp only[zY] at h;split at h
  ·rcases List.mem_cons.1 h with rfl|h
   ·simp
   ·have:=NT c h; simp; omega
  ·cases hp:zY c l with
   | nil=>rw[hp] at h; simp[glue] at h; simp[h]
   | cons q r=>
    rw[hp] at h;simp only[glue,aqW] at h;rcases h with rfl|h
    ·have:=NT c (s:=l) (p:=q) (by rw[hp]; simp); simp; omega
    ·have:=NT c (s:=l) (p:=p) (by rw[hp]; simp[h]); simp; omega
theorem I4 {tx:List UInt8×Unit->Option (zK×Bool×Unit)} (ps:List (List UInt8)) (hl:ps.length<=137438953473) (htx:∀ p∈ps,tx (p,())=some ((ZO p).1,(ZO p).2,()))
  {G:(List zK×Int×Unit->Option (List zK×Bool×Unit))->List zK×Int×Unit->Option (List zK×Bool×Unit)}
  (hG:∀ rec out (i:Int),G rec (out,i,())=bif decide (i<(ps.length:Int)) then (if 0<=i/\i<(ps.length:Int) then (tx (rd .str ps i.toNat,())).bind λ r2=>bif !r2.2.1 then some ([],false,()) else
   (if (out.length+[r2.1].length)*32<=70368744177664 then rec (out++[r2.1],wr (i+1),()) else none) else none) else some (out,true,())):
  iter G fuel ([],0,())=some ((Jl ps []).1,(Jl ps []).2,()):=by
 refine (walk ps.length (λ i (out:List zK)=>(out,i,())) (λ i out=>out.length=i) (λ i out=>some ((Jl (ps.drop i) out).1,(Jl (ps.drop i) out).2,())) (by omega) ?_ ?_ (s0:=[]) rfl).trans (by simp)
 ·intro rec out ho;rw[hG]; simp[Jl]
 ·intro rec i out hi ho;have hx:ps[i]?=some ps[i]:=List.getElem?_eq_getElem hi;rw[hG];simp only[zv hi,decide_true,cond_true,and_self,if_true,Int.toNat_natCast,zm (e:=.str) hx,htx ps[i] (List.getElem_mem hi),Option.bind_some,zq (show i<4611686018427387904 by omega),List.length_cons,List.length_nil];rw[aqX hi];by_cases h:(ZO ps[i]).2=true
  ·right;refine⟨out++[(ZO ps[i]).1],by simp[ho],?_,?_⟩
   ·rw[h]; simp only[aqI,aqD]; rw[if_pos (by omega)]
   ·simp only[Jl,h,if_true]
  ·left;have h':(ZO ps[i]).2=false:=by simpa using h
   simp[Jl,h']
theorem ag9 (s:List UInt8) (hs:s.length<=137438953472):nJ (s,())=some ((jC s).1,(jC s).2,()):=by
 unfold nJ jC;by_cases h0:s=[]
 ·subst h0; rfl
 ·have e0:(s==[])=false:=by simp[h0]
  rw[if_neg h0];simp only[e0,aqD,show UInt8.ofNat (Int.toNat 44)=44 from rfl,Iw s 44 hs,aqC];have hp:=db 44 s;refine I4 (tx:=ec) (zY 44 s) (by omega) (λ p hm=>ag8 p (by have:=NT 44 hm; omega)) ?_
  intro rec out i; rfl
theorem XB (s:List UInt8) (hs:s.length<=1073741824):gV (s,())=some ((jC s).1,(jC s).2,()):=by
 unfold gV jC;by_cases h0:s=[]
 ·subst h0; rfl
 ·have e0:(s==[])=false:=by simp[h0]
  rw[if_neg h0];simp only[e0,aqD,show UInt8.ofNat (Int.toNat 44)=44 from rfl,AC s 44 hs,aqC];have hp:=db 44 s;refine I4 (tx:=cg) (zY 44 s) (by omega) (λ p hm=>XA p (by have:=NT 44 hm; omega)) ?_
  intro rec out i; rfl
abbrev YD:=Int×List zK
def jh (q:List UInt8×List UInt8) (prev:Int):Bool:=
 (zE q.1).2 && ((jC q.2).2 && (decide (prev<(zE q.1).1) && (decide ((zE q.1).1<=60) && decide ((jC q.2).1.length<=2))))
def jX:List (List UInt8)->Int->List YD->List YD×Bool
 | [],_,out=>(out,true)
 | p::ps,prev,out=>match jb 124 p with
  | none=>([],false)
  | some q=>if jh q prev=true then
    jX ps (zE q.1).1 (out++[((zE q.1).1,(jC q.2).1)]) else ([],false)
def steps (s:List UInt8):List YD×Bool:=
 if s=[] then ([],true) else match zY 47 s with
  | []=>([],false)
  | p::ps=>if p=[]/\ps.length<=30 then jX ps 0 [] else ([],false)
theorem rY (s:List UInt8):0<=(zE s).1:=by
 unfold zE;split<;>simp
theorem nF (s:List UInt8) (hs:s.length<=137438953472):qa (s,())=some ((steps s).1,(steps s).2,()):=by
 unfold qa steps;by_cases h0:s=[]
 ·subst h0; rfl
 have e0:(s==[])=false:=by simp[h0]
 rw[if_neg h0];simp only[e0,aqD,show UInt8.ofNat (Int.toNat 47)=47 from rfl,show UInt8.ofNat (Int.toNat 124)=124 from rfl,Iw s 47 hs,aqC];have hpl:=db 47 s;have hpm:∀ p∈zY 47 s,p.length<=s.length:=λ p hm=>NT 47 hm;cases hp:zY 47 s with
 | nil=>exact absurd hp (JJ _ _)
 | cons p ps=>
  rw[hp] at hpl hpm;simp only[aqG] at hpl;rw[if_pos (by simp only[aqG]; omega)]
  simp only[arG,rd,at0];by_cases h1:p=[]
  ·subst h1;simp only[bne_self_eq_false,aqD];by_cases h2:(((([]:List UInt8)::ps).length:Nat):Int)>31
   ·rw[if_neg (by simp only[aqG] at h2; omega)]
    simp only[h2,aqH,aqE]
   ·rw[if_pos (show True/\ps.length<=30 from⟨trivial,by simp only[aqG] at h2; omega⟩)]
    simp only[h2,aqL,aqD];refine (Oe (([]:List UInt8)::ps).length (λ i (t:List YD×Int)=>(t.1,t.2,i,())) (λ i t=>t.1.length<=i/\0<=t.2/\t.2<=60)
     (λ i t=>some ((jX ((([]:List UInt8)::ps).drop i) t.2 t.1).1,(jX ((([]:List UInt8)::ps).drop i) t.2 t.1).2,())) (by simp only[aqG]; omega) ?_ ?_ (s0:=([],0)) 1 (by simp) ⟨by simp,by simp,by simp⟩).trans (by simp)
    ·intro rec t ht; simp[jX]
    ·intro rec i t hi ht;obtain⟨t1,t2,t3⟩:=ht;have hx:(([]:List UInt8)::ps)[i]?=some (([]:List UInt8)::ps)[i]:=List.getElem?_eq_getElem hi;have hlen:=hpm _ (List.getElem_mem hi);have hil:i<=s.length+1:=by simp only[aqG] at hi; omega
     rw[aqX hi];simp only[jX];have hc:=M9 124 (([]:List UInt8)::ps)[i] [] (by simp);simp only[zv hi,decide_true,cond_true,and_self,if_true,Int.toNat_natCast,zm (e:=.str) hx,kF _ 124 (show (([]:List UInt8)::ps)[i].length<=137438953472 by omega),It,ag9 _ (show (z7 124 (([]:List UInt8)::ps)[i] []).2.length<=137438953472 by omega),Option.bind_some,
      zq (show i<4611686018427387904 by omega)]
     generalize hq:jb 124 (([]:List UInt8)::ps)[i]=q;cases q with
     | none=>left; simp
     | some q=>
      simp only[z7,hq,Option.isSome_some,aqI,aqD];by_cases c1:(zE q.1).2=true
      ·by_cases c2:(jC q.2).2=true
       ·by_cases c3:t.2<(zE q.1).1
        ·by_cases c4:(zE q.1).1<=60
         ·by_cases c5:(jC q.2).1.length<=2
          ·right;refine⟨(t.1++[((zE q.1).1,(jC q.2).1)],(zE q.1).1),⟨by simp; omega,rY _,c4⟩,?_,?_⟩
           ·simp only[c1,c2,aqI,aqD,show ¬ (zE q.1).1<=t.2 by omega,aqL,show ¬ (zE q.1).1>60 by omega,show ¬ ((jC q.2).1.length:Int)>2 by omega,aqG,aqJ];rw[if_pos (by omega)]
           ·rw[if_pos (show jh q t.2=true by simp[jh,c1,c2,c3,c4,c5])]
          ·left;have hB:jh q t.2=false:=by simp[jh,c5]
           rw[hB];simp[c1,c2,show ¬ (zE q.1).1<=t.2 by omega,show ¬ (zE q.1).1>60 by omega,show (2:Int)<((jC q.2).1.length:Int) by omega]
         ·left;have hB:jh q t.2=false:=by simp[jh,c4]
          rw[hB];simp[c1,c2,show ¬ (zE q.1).1<=t.2 by omega,show (zE q.1).1>60 by omega]
        ·left;have hB:jh q t.2=false:=by simp[jh,c3]
         rw[hB];simp[c1,c2,show (zE q.1).1<=t.2 by omega]
       ·left;have hB:jh q t.2=false:=by simp[jh,c2]
        rw[hB];have:(jC q.2).2=false:=by simpa using c2
        simp[c1,this]
      ·left;have hB:jh q t.2=false:=by simp[jh,c1]
       rw[hB];have:(zE q.1).2=false:=by simpa using c1
       simp[this]
  ·have e1:(p != [])=true:=by simp[h1]
   rw[if_neg (show ¬ (p=[]/\ps.length<=30) from λ h=>h1 h.1),e1]; rfl
theorem gP (s:List UInt8) (hs:s.length<=1073741824):Ns (s,())=some ((steps s).1,(steps s).2,()):=by
 unfold Ns steps;by_cases h0:s=[]
 ·subst h0; rfl
 have e0:(s==[])=false:=by simp[h0]
 rw[if_neg h0];simp only[e0,aqD,show UInt8.ofNat (Int.toNat 47)=47 from rfl,AC s 47 hs,aqC];have hpl:=db 47 s;have hpm:∀ p∈zY 47 s,p.length<=s.length:=λ p hm=>NT 47 hm;cases hp:zY 47 s with
 | nil=>exact absurd hp (JJ _ _)
 | cons p ps=>
  rw[hp] at hpl hpm;simp only[aqG] at hpl;rw[if_pos (by simp only[aqG]; omega)]
  simp only[arG,rd,at0];have hw:wr (((p::ps).length:Int) - 1)=(ps.length:Int):=by
   rw[zg (by simp only[aqG]; omega) (by simp only[aqG]; omega)]
   simp only[aqG]; omega
  rw[hw];have htd:List.take ((((p::ps).length:Nat):Int).toNat - Int.toNat 1) (List.drop (Int.toNat 1) (p::ps))=ps:=by
   simp
  rw[htd];by_cases h1:p=[]
  ·subst h1;simp only[bne_self_eq_false,aqD];by_cases h2:(ps.length:Int)>30
   ·rw[if_neg (show ¬ (True/\ps.length<=30) from λ h=>by have:=h.2; omega)]
    simp only[h2,aqH,aqE]
   ·rw[if_pos (show True/\ps.length<=30 from⟨trivial,by omega⟩)];simp only[h2,aqL,aqD];rw[if_pos (by simp only[aqG]; omega)]
    refine (walk ps.length (λ i (t:List YD×Int)=>(t.1,t.2,i,())) (λ i t=>t.1.length<=i/\0<=t.2/\t.2<=60)
     (λ i t=>some ((jX (ps.drop i) t.2 t.1).1,(jX (ps.drop i) t.2 t.1).2,())) (by omega) ?_ ?_ (s0:=([],0)) ⟨by simp,by simp,by simp⟩).trans (by simp)
    ·intro rec t ht; simp[jX]
    ·intro rec i t hi ht;obtain⟨t1,t2,t3⟩:=ht;have hx:ps[i]?=some ps[i]:=List.getElem?_eq_getElem hi;have hlen:=hpm _ (List.mem_cons_of_mem _ (List.getElem_mem hi));rw[aqX hi];simp only[jX];have hc:=M9 124 ps[i] ps[i] (Nat.le_refl _);have hx':ps.getD i (dflt .str)=ps[i]:=zm (e:=.str) hx;simp only[zv hi,decide_true,cond_true,and_self,if_true,Int.toNat_natCast,hx',oo _ 124 (show ps[i].length<=1073741824 by omega),Ax,XB _ (show (z7 124 ps[i] ps[i]).2.length<=1073741824 by omega),Option.bind_some,
      zq (show i<4611686018427387904 by omega),Yl,zg (show (-9223372036854775808:Int)<=t.2+1 by omega) (show t.2+1<=9223372036854775807 by omega)]
     generalize hq:jb 124 ps[i]=q;cases q with
     | none=>left; simp
     | some q=>
      simp only[z7,hq,Option.isSome_some,aqI,aqD];by_cases c1:(zE q.1).2=true
      ·by_cases c2:(jC q.2).2=true
       ·by_cases c3:t.2<(zE q.1).1
        ·by_cases c4:(zE q.1).1<=60
         ·by_cases c5:(jC q.2).1.length<=2
          ·right;refine⟨(t.1++[((zE q.1).1,(jC q.2).1)],(zE q.1).1),⟨by simp; omega,rY _,c4⟩,?_,?_⟩
           ·simp only[c1,c2,c4,aqI,aqD,show (zE q.1).1≥t.2+1 by omega,aqH,arD,show ¬ ((jC q.2).1.length:Int)>2 by omega,aqL,aqG,aqJ];rw[if_pos (by omega)]
           ·rw[if_pos (show jh q t.2=true by simp[jh,c1,c2,c3,c4,c5])]
          ·left;have hB:jh q t.2=false:=by simp[jh,c5]
           rw[hB];simp[c1,c2,c4,show t.2+1<=(zE q.1).1 by omega,show (2:Int)<((jC q.2).1.length:Int) by omega]
         ·left;have hB:jh q t.2=false:=by simp[jh,c4]
          rw[hB];simp[c1,c2,c4]
        ·left;have hB:jh q t.2=false:=by simp[jh,c3]
         rw[hB];simp[c1,c2,show ¬ t.2+1<=(zE q.1).1 by omega]
       ·left;have hB:jh q t.2=false:=by simp[jh,c2]
        rw[hB];have:(jC q.2).2=false:=by simpa using c2
        simp[c1,this]
      ·left;have hB:jh q t.2=false:=by simp[jh,c1]
       rw[hB];have:(zE q.1).2=false:=by simpa using c1
       simp[this]
  ·have e1:(p != [])=true:=by simp[h1]
   rw[if_neg (show ¬ (p=[]/\ps.length<=30) from λ h=>h1 h.1),e1]; rfl
def zB (c:za):Bool:=(decide (c.1≥4) && decide (c.1<=7)) && (decide (c.2≥1) && decide (c.2<=6))
theorem JS (c:za):Yz (c,())=some (zB c,()):=by
 unfold Yz zB;simp only[Ji,aqC];cases (decide (c.1≥4) && decide (c.1<=7))<;>rfl
theorem J5 (c:za):YI (c,())=some (zB c,()):=by
 unfold YI zB;simp only[Yl,aqC];cases (decide (c.1≥4) && decide (c.1<=7))<;>rfl
theorem zS {c:za} (h:zB c=true):4<=c.1/\c.1<=7:=by
 unfold zB at h;simp only[aqF,aqP] at h;omega
def zG (s:List UInt8):Bool:=(steps s).2
def zl (s:List UInt8):Int:=match (steps s).1.getLast? with|some x=>x.1|none=>0
theorem LK (s:List UInt8) (hs:s.length<=137438953472):JT (s,())=some (zG s,()):=by
 unfold JT zG;simp only[nF s hs,aqC]
theorem Lb (s:List UInt8) (hs:s.length<=1073741824):JA (s,())=some (zG s,()):=by
 unfold JA zG;simp only[gP s hs,aqC]
theorem IP:∀ (ps:List (List UInt8)) (prev:Int) (out:List YD),((jX ps prev out).2=false->(jX ps prev out).1=[])/\(jX ps prev out).1.length<=out.length+ps.length
 | [],prev,out=>by simp[jX]
 | p::ps,prev,out=>by
  simp only[jX];cases jb 124 p with
  | none=>simp
  | some q=>
   simp only;split
   ·obtain⟨h1,h2⟩:=IP ps (zE q.1).1 (out++[((zE q.1).1,(jC q.2).1)]);refine⟨h1,?_⟩;simp only[aqM,aqG,aqJ] at h2 ⊢;omega
   ·simp
theorem be (s:List UInt8):((steps s).2=false->(steps s).1=[])/\(steps s).1.length<=30:=by
 unfold steps;split
 ·simp
 ·cases zY 47 s with
  | nil=>simp
  | cons p ps=>
   simp only;split
   ·next h=>
    obtain⟨h1,h2⟩:=IP ps 0 [];exact⟨h1,by simp only[aqJ] at h2; omega⟩
   ·simp
theorem rD {l:List YD} (h:l≠[]):∃ x,l.getLast?=some x/\l[l.length - 1]?=some x:=by
 have hl:l.length - 1<l.length:=by cases l with|nil=>exact absurd rfl h|cons _ _=>simp
 exact⟨l[l.length - 1],by rw[List.getLast?_eq_getElem?,arf hl],List.getElem?_eq_getElem hl⟩
theorem KT (s:List UInt8) (hs:s.length<=137438953472):YX (s,())=some (zl s,()):=by
 unfold YX zl;simp only[nF s hs,aqC];obtain⟨h1,h2⟩:=be s;by_cases h:(steps s).2=true
 ·rw[h];simp only[aqI,aqD];by_cases h0:(steps s).1=[]
  ·simp[h0]
  ·obtain⟨x,e1,e2⟩:=rD h0;have hl:1<=(steps s).1.length:=by cases hh:(steps s).1 with|nil=>exact absurd hh h0|cons _ _=>simp
   have e3:(((steps s).1.length:Int)==0)=false:=by simp; omega
   simp only[e3,aqD,e1,zg (show (-9223372036854775808:Int)<=((steps s).1.length:Int) - 1 by omega) (show ((steps s).1.length:Int) - 1<=9223372036854775807 by omega)];rw[if_pos (by omega),show (((steps s).1.length:Int) - 1).toNat=(steps s).1.length - 1 by omega,zm e2]
 ·have h':(steps s).2=false:=by simpa using h
  rw[h',h1 h']; rfl
theorem Lh (s:List UInt8) (hs:s.length<=1073741824):JC (s,())=some (zl s,()):=by
 unfold JC zl;simp only[gP s hs,aqC];obtain⟨h1,h2⟩:=be s;by_cases h0:(steps s).1=[]
 ·simp[h0]
 ·obtain⟨x,e1,e2⟩:=rD h0;have hl:1<=(steps s).1.length:=by cases hh:(steps s).1 with|nil=>exact absurd hh h0|cons _ _=>simp
  have e3:(((steps s).1.length:Int)==0)=false:=by simp; omega
  simp only[e3,aqD,e1,zg (show (-9223372036854775808:Int)<=((steps s).1.length:Int) - 1 by omega) (show ((steps s).1.length:Int) - 1<=9223372036854775807 by omega)];rw[if_pos (by omega),show (((steps s).1.length:Int) - 1).toNat=(steps s).1.length - 1 by omega,zm e2]
theorem IS:∀ (ps:List (List UInt8)) (prev:Int) (out:List YD),(out≠[]∨ps≠[])->0<=prev->(∀ x,out.getLast?=some x->1<=x.1/\x.1<=60)->(jX ps prev out).2=true->
  ∃ x,(jX ps prev out).1.getLast?=some x/\1<=x.1/\x.1<=60
 | [],prev,out,h,hp,ho,hok=>by
  have h0:out≠[]:=h.elim id (λ h=>absurd rfl h);obtain⟨x,e,_⟩:=rD h0;exact⟨x,e,ho x e⟩
 | p::ps,prev,out,h,hp,ho,hok=>by
  simp only[jX] at hok ⊢;cases hq:jb 124 p with
  | none=>rw[hq] at hok; simp at hok
  | some q=>
   rw[hq] at hok;simp only at hok ⊢;split at hok
   ·next hB=>
    rw[if_pos hB];simp only[jh,aqF,aqP] at hB;refine IS ps (zE q.1).1 _ (.inl (by simp)) (rY _) ?_ hok;intro x hx;simp at hx;subst hx;exact⟨by simp only; omega,hB.2.2.2.1⟩
   ·simp at hok
theorem NG {s:List UInt8} (h:zG s=true) (h0:s≠[]):1<=zl s/\zl s<=60:=by
 unfold zG steps at h;unfold zl steps;rw[if_neg h0] at h ⊢;cases hp:zY 47 s with
 | nil=>exact absurd hp (JJ _ _)
 | cons p ps=>
  rw[hp] at h;simp only at h ⊢;split at h
  ·next hc=>
   rw[if_pos hc];have hne:ps≠[]:=by
    rintro rfl;obtain⟨rfl,_⟩:=hc;cases s with
    | nil=>exact h0 rfl
    | cons x l=>
     simp only[zY] at hp;split at hp
     ·exact JJ 47 l (by simpa using hp)
     ·cases hl:zY 47 l with
      | nil=>exact JJ 47 l hl
      | cons a b=>rw[hl] at hp; simp[glue] at hp
   obtain⟨x,e1,e2,e3⟩:=IS ps 0 [] (.inr hne) (by decide) (by simp) h;rw[e1]; exact⟨e2,e3⟩
  ·simp at h
theorem rT:zG []=true/\zl []=0:=by
 constructor<;>simp[zG,zl,steps]
def YT (n:Int):Option Int->List Int->Bool
 | _,[]=>true
 | p,x::l => !decide (x<0) && (!decide (x≥n) && ((match p with|some y => !decide (y≥x)|none=>true) && YT n (some x) l))
def jV (n:Int) (l:List Int):Bool:=YT n none l
theorem GW (n:Int) (l:List Int) (hl:l.length<=137438953472) {G:(Int×Unit->Option (Bool×Unit))->Int×Unit->Option (Bool×Unit)}
  (ahe:∀ rec,G rec ((l.length:Int),())=some (true,()))
  (h0:∀ rec x,l[0]?=some x->G rec (((0:Nat):Int),())=bif decide (x<0) then some (false,()) else bif decide (x≥n) then some (false,()) else rec (((0:Nat):Int)+1,()))
  (ahg:∀ rec (i:Nat) x y,l[i]?=some x->l[i+1]?=some y->i+1<l.length->G rec (((i+1:Nat):Int),())=bif decide (y<0) then some (false,()) else bif decide (y≥n) then some (false,()) else bif decide (x≥y) then some (false,()) else rec (((i+1:Nat):Int)+1,())):
  iter G fuel (0,())=some (jV n l,()):=by
 let pv:Nat->Option Int:=λ i=>match i with|0=>none|i+1=>l[i]?
 refine (walk l.length (λ i (_:Unit)=>(i,())) (λ _ _=>True) (λ i _=>some (YT n (pv i) (l.drop i),())) (by omega) ?_ ?_ (s0:=()) trivial).trans (by simp[jV,pv])
 ·intro rec _ _;rw[ahe]; simp[YT]
 ·intro rec i _ hi _;have hx:l[i]?=some l[i]:=List.getElem?_eq_getElem hi;have hpv:pv (i+1)=some l[i]:=hx;rw[aqX hi,hpv];cases i with
  | zero=>
   rw[h0 rec l[0] hx,show pv 0=none from rfl];simp only[YT];by_cases c1:l[0]<0
   ·left; simp[c1]
   ·by_cases c2:l[0]≥n
    ·left; simp[c1,c2]
    ·right;exact⟨(),trivial,by simp[c1,c2],by simp[c1,c2]⟩
  | succ i=>
   have hx':l[i]?=some l[i]:=List.getElem?_eq_getElem (by omega);rw[ahg rec i l[i] l[i+1] hx' hx hi,show pv (i+1)=some l[i] from hx'];simp only[YT];by_cases c1:l[i+1]<0
   ·left; simp[c1]
   ·by_cases c2:l[i+1]≥n
    ·left; simp[c1,c2]
    ·by_cases c3:l[i]≥l[i+1]
     ·left; simp[c1,c2,c3]
     ·right;exact⟨(),trivial,by simp[c1,c2,c3],by simp[c1,c2,c3]⟩
theorem vH (n:Int) (l:List Int) (hl:l.length<=137438953472):aK (n,l,())=some (jV n l,()):=by
 unfold aK;refine GW n l hl ?_ ?_ ?_
 ·intro rec; simp
 ·intro rec x hx;have hi:0<l.length:=by
   rcases Nat.eq_zero_or_pos l.length with h|h
   ·rw[ar9 (by omega)] at hx; cases hx
   ·exact h
  simp only[zv hi,aqH,aqE,aqS,if_true,aqN,zm (e:=.i64) hx,zq (show 0<4611686018427387904 by omega),show ¬ (((0:Nat):Int)>0) by omega,aqL,aqD]
 ·intro rec i x y hx hy hi;have e:wr (((i+1:Nat):Int) - 1)=(i:Int):=by rw[zg (by omega) (by omega)]; omega
  simp only[zv hi,zv (show i<l.length by omega),e,aqH,aqE,aqS,if_true,aqN,zm (e:=.i64) hx,zm (e:=.i64) hy,zq (show i+1<4611686018427387904 by omega),show (((i+1:Nat):Int)>0) by omega]
theorem pQ (n:Int) (l:List Int) (hl:l.length<=137438953472):Nq (n,l,())=some (jV n l,()):=by
 unfold Nq;refine GW n l hl ?_ ?_ ?_
 ·intro rec; simp
 ·intro rec x hx;have hi:0<l.length:=by
   rcases Nat.eq_zero_or_pos l.length with h|h
   ·rw[ar9 (by omega)] at hx; cases hx
   ·exact h
  simp only[zv hi,aqH,aqE,aqS,if_true,aqN,zm (e:=.i64) hx,zq (show 0<4611686018427387904 by omega),show ¬ (((0:Nat):Int)>0) by omega,aqL,aqD]
 ·intro rec i x y hx hy hi;have e:wr (((i+1:Nat):Int) - 1)=(i:Int):=by rw[zg (by omega) (by omega)]; omega
  simp only[zv hi,zv (show i<l.length by omega),e,aqH,aqE,aqS,if_true,aqN,zm (e:=.i64) hx,zm (e:=.i64) hy,zq (show i+1<4611686018427387904 by omega),show (((i+1:Nat):Int)>0) by omega]
def Ja (c:za):Int:=if zB c=true then c.1 - (c.1 - 1) / 3 else 0
theorem vD (c:za):aG (c,())=some (Ja c,()):=by
 unfold aG Ja;simp only[JS,aqC];by_cases h:zB c=true
 ·obtain⟨h1,h2⟩:=zS h;have e1:wr (c.1 - 1)=c.1 - 1:=zg (by omega) (by omega);have e2:Int.tdiv (c.1 - 1) 3=(c.1 - 1) / 3:=Int.tdiv_eq_ediv_of_nonneg (by omega);simp only[h,aqI,aqD,if_true,e1,e2];rw[zg (n:=(c.1 - 1) / 3) (by omega) (by omega),zg (by omega) (by omega)]
 ·have h':zB c=false:=by simpa using h
  simp[h']
theorem pM (c:za):bZ (c,())=some (Ja c,()):=by
 unfold bZ Qc Ja;simp only[J5,aqC];by_cases h:zB c=true
 ·obtain⟨h1,h2⟩:=zS h;have e1:wr (c.1 - 1)=c.1 - 1:=zg (by omega) (by omega);have e2:Int.tdiv (c.1 - 1) 3=(c.1 - 1) / 3:=Int.tdiv_eq_ediv_of_nonneg (by omega);simp only[h,aqI,aqD,if_true,e1,e2,aqC];rw[zg (n:=(c.1 - 1) / 3) (by omega) (by omega),zg (by omega) (by omega)]
 ·have h':zB c=false:=by simpa using h
  simp[h']
def JF (c:UInt8) (s:List UInt8):Nat->Option Nat
 | 0=>none
 | k+1=>if s.getD k 0=c then some k else JF c s k
def Ye (s:List UInt8):List UInt8:=if zG s=true then (match JF 47 s s.length with|some k=>s.take k|none=>[]) else []
theorem Bn (c:UInt8) (s:List UInt8):∀ k i,JF c s k=some i->i<k
 | 0,i,h=>by cases h
 | k+1,i,h=>by
  simp only[JF] at h;split at h
  ·cases h; omega
  ·have:=Bn c s k i h; omega
theorem Bx (c:UInt8) (s:List UInt8):∀ k,k<=s.length->Lib.lastIdx (ByteArray.mk ⟨s⟩) c.toNat k=match JF c s k with|some i=>(i:Int)|none => -1
 | 0,_=>rfl
 | k+1,h=>by
  have hk:k<s.length:=by omega
  have e:(ByteArray.mk ⟨s⟩).data[k]! = s.getD k 0:=by
   rw[arw,arf hk];simp[hk]
  simp only[Lib.lastIdx,JF,e];by_cases hc:s.getD k 0=c
  ·rw[if_pos (by rw[hc]),if_pos hc]
  ·rw[if_neg (λ h=>hc (UInt8.toNat_inj.1 (by omega))),if_neg hc,Bx c s k (by omega)]
theorem aaU {s:List UInt8} (h:zG s=true) (h0:s≠[]):∃ l,s=47::l:=by
 unfold zG steps at h;rw[if_neg h0] at h;cases hp:zY 47 s with
 | nil=>exact absurd hp (JJ _ _)
 | cons p ps=>
  rw[hp] at h;simp only at h;split at h
  ·next hc=>
   obtain⟨rfl,_⟩:=hc;cases s with
   | nil=>exact absurd rfl h0
   | cons x l=>
    simp only[zY] at hp;split at hp
    ·next e=>exact⟨l,by rw[e]⟩
    ·cases hl:zY 47 l with
     | nil=>exact absurd hl (JJ 47 l)
     | cons a b=>rw[hl] at hp; simp[glue] at hp
  ·simp at h
theorem Bo {c:UInt8} {l:List UInt8}:∀ k,1<=k->∃ i,JF c (c::l) k=some i
 | 0,h=>by omega
 | 1,_=>⟨0,by simp[JF]⟩
 | k+2,_=>by
  simp only[JF];split
  ·exact⟨_,rfl⟩
  ·exact Bo (k+1) (by omega)
theorem bd (a b:Int):jP (a,b,())=some (max a b,()):=by
 unfold jP;by_cases h:a>b
 ·simp only[h,aqH,aqE]; congr 2; omega
 ·simp only[h,aqL,aqD]; congr 2; omega
theorem eg (s:List UInt8) (hs:s.length<=137438953472):MR (s,())=some (Ye s,()):=by
 unfold MR Ye;simp only[LK s hs,aqC];by_cases h:zG s=true
 ·simp only[h,aqI,aqD,if_true];refine (Qw (λ x:Int×Unit=>some ((match JF 47 s x.1.toNat with|some k=>s.take k|none=>[]),())) (λ x=>x.1.toNat) (λ x=>0<=x.1/\x.1<=(s.length:Int)) ?_ fuel ((s.length:Int),()) ⟨by simp,by simp⟩
   (by simp only[aqN]; have:=Y2 (n:=s.length) (by omega); exact this)).trans (by simp)
  rintro rec ⟨v,⟨⟩⟩ ⟨h1,h2⟩ ah3;obtain⟨n,rfl⟩:∃ n:Nat,v=(n:Int):=⟨v.toNat,by simp only at h1; omega⟩
  simp only at h2;cases n with
  | zero=>
   have e1:wr (((0:Nat):Int) - 1) = -1:=zg (by decide) (by decide);simp only[show ¬ (((0:Nat):Int)>0) by omega,aqL,aqD,e1,bd,aqC,show max (-1:Int) 0=0 by decide];rw[if_pos (by omega)];simp[JF]
  | succ n=>
   have e1:wr (((n+1:Nat):Int) - 1)=(n:Int):=by rw[zg (by omega) (by omega)]; omega
   simp only[show (((n+1:Nat):Int)>0) by omega,aqH,aqE,e1,bd,aqC,aqN,show max (n:Int) 0=(n:Int) by omega,JF,show UInt8.ofNat (Int.toNat 47)=47 from rfl];rw[if_pos (by omega)];by_cases hc:s.getD n 0=47
   ·have e2:(s.getD n 0 != 47)=false:=by rw[hc]; rfl
    rw[e2,if_pos hc];simp only[aqD];rw[if_pos (by omega)];simp
   ·have e2:(s.getD n 0 != 47)=true:=bne_iff_ne.2 hc;rw[e2,if_neg hc];simp only[aqE];rw[ah3 ((n:Int),()) ⟨by simp,by simp only; omega⟩ (by simp only[aqN]; omega)]
    simp
 ·have h':zG s=false:=by simpa using h
  simp[h']
theorem gY (s:List UInt8) (hs:s.length<=1073741824):Nu (s,())=some (Ye s,()):=by
 unfold Nu Ye;simp only[Lb s hs,aqC];by_cases h:zG s=true
 ·simp only[h,aqI,aqD,if_true];by_cases h0:s=[]
  ·subst h0; rfl
  ·have e0:(s==[])=false:=by simp[h0]
   obtain⟨l,rfl⟩:=aaU h h0;obtain⟨i,hi⟩:=Bo (c:=47) (l:=l) (47::l).length (by simp);have hlt:=Bn _ _ _ _ hi;have e1:strings_LastIndexByte (47::l,UInt8.ofNat (Int.toNat 47),())=some ((i:Int),()):=by
    unfold strings_LastIndexByte;dsimp only;rw[if_pos (by omega)];have:=Bx 47 (47::l) (47::l).length (Nat.le_refl _);rw[hi] at this;simp only at this;rw[←this]; rfl
   simp only[e0,aqD,e1,aqC,hi];rw[if_pos (by omega)];simp
 ·have h':zG s=false:=by simpa using h
  simp[h']
def zP (c:za) (q:zF):Bool:=
 zB c && (zG q.2.1 && (zl q.2.1==q.1 && (bif q.2.1==[] then ((q.2.2.length:Int)==0) else (jV c.1 q.2.2 && decide ((q.2.2.length:Int)≥Ja c)))))
theorem MQ (c:za) (q:zF) (hw:zj q<=137438953472):JU (c,q,())=some (zP c q,()):=by
 have h1:q.2.1.length<=137438953472:=by simp only[zj] at hw; omega
 have h2:q.2.2.length<=137438953472:=by simp only[zj,zu] at hw; omega
 unfold JU zP;simp only[JS,LK _ h1,KT _ h1,vH _ _ h2,vD,aqC];cases zB c
 ·rfl
 cases zG q.2.1
 ·rfl
 by_cases e:zl q.2.1=q.1
 ·have e1:(zl q.2.1 != q.1)=false:=by simp[e]
  have e2:(zl q.2.1==q.1)=true:=by simp[e]
  rw[e1,e2];cases (q.2.1==[])<;>cases jV c.1 q.2.2<;>rfl
 ·have e1:(zl q.2.1 != q.1)=true:=by simp[e]
  have e2:(zl q.2.1==q.1)=false:=by simp[e]
  rw[e1,e2]; rfl
theorem Mi (c:za) (q:zF) (hw:zj q<=1073741824):J6 (c,q,())=some (zP c q,()):=by
 have h1:q.2.1.length<=1073741824:=by simp only[zj] at hw; omega
 have h2:q.2.2.length<=1073741824:=by simp only[zj,zu] at hw; omega
 unfold J6 Qh zP;simp only[J5,Lb _ h1,Lh _ h1,pQ _ _ (show q.2.2.length<=137438953472 by omega),pM,Qi q _ (show q.2.2.length<=8796093022208 by omega),aqC];cases zB c
 ·rfl
 simp only[aqI,aqD,aqU];obtain⟨v,name,who⟩:=q;simp only[js];by_cases hn:name=[]
 ·subst hn;obtain⟨k1,k2⟩:=rT;rw[k1,k2];by_cases hv:v=0
  ·subst hv;cases who with
   | nil=>rfl
   | cons a b=>
    simp;omega
  ·have e1:(v==0)=false:=by simp[hv]
   have e2:((0:Int)==v)=false:=by simp; omega
   have e3:(v==(0:Int))=false:=e1;rw[e1,e2];simp[hv]
 ·have e0:(name==[])=false:=by simp[hn]
  rw[e0];simp only[ari,arB,aqD];by_cases hk:zG name=true
  ·obtain⟨w1,w2⟩:=NG hk hn;rw[hk];by_cases e:zl name=v
   ·have e1:(v==zl name)=true:=by simp[e]
    have e2:(zl name==v)=true:=by simp[e]
    have e3:decide (v≥1)=true:=by simp; omega
    rw[e1,e2,e3];cases jV c.1 who<;>simp
   ·have e1:(v==zl name)=false:=by simp; omega
    have e2:(zl name==v)=false:=by simp[e]
    rw[e1,e2];cases decide (v≥1)<;>rfl
  ·have hk':zG name=false:=by simpa using hk
   rw[hk'];cases decide (v≥1)<;>rfl
def jn (c:za) (b:y9):Bool:=zP c b.2 && (zG b.1 && (b.1 != [] && Ye b.1==b.2.2.1))
theorem mY (c:za) (b:y9) (hw:zA b<=137438953472):N4 (c,b,())=some (jn c b,()):=by
 have h1:b.1.length<=137438953472:=by simp only[zA] at hw; omega
 unfold N4 jn;simp only[MQ c b.2 (by simp only[zA] at hw; omega),LK _ h1,eg _ h1,Option.bind_some]
 cases zP c b.2<;>cases zG b.1<;>cases (b.1 != [])<;>rfl
theorem f7 (c:za) (b:y9) (hw:zA b<=1073741824):Nj (c,b,())=some (jn c b,()):=by
 have h1:b.1.length<=1073741824:=by simp only[zA] at hw; omega
 unfold Nj jn;simp only[Mi c b.2 (by simp only[zA] at hw; omega),Lb _ h1,gY _ h1,Option.bind_some]
 cases zP c b.2<;>cases zG b.1<;>cases (b.1 != [])<;>rfl
def y5 (c:za) (p:zJ):Bool:=
 zB c && ((decide (p.1≥1) && decide (p.1<=60)) && (jV c.1 p.2.2 && (decide ((p.2.2.length:Int)>0) && (p.2.1==[] || (zG p.2.1 && zl p.2.1==p.1)))))
theorem dW (c:za) (p:zJ) (hw:zp p<=137438953472):LL (c,p,())=some (y5 c p,()):=by
 have h1:p.2.1.length<=137438953472:=by simp only[zp] at hw; omega
 have h2:p.2.2.length<=137438953472:=by simp only[zp,zu] at hw; omega
 unfold LL y5;simp only[JS,Ji,vH _ _ h2,LK _ h1,KT _ h1,aqC];have e:((p.2.2.length:Int)==0) = !decide ((p.2.2.length:Int)>0):=by
  generalize p.2.2.length=n;cases n with
  | zero=>rfl
  | succ k=>
   have a1:(((k+1:Nat):Int)==0)=false:=by rw[beq_eq_false_iff_ne]; omega
   have a2:decide (((k+1:Nat):Int)>0)=true:=decide_eq_true (by omega);rw[a1,a2]; rfl
 rw[e];cases zB c<;>cases (decide (p.1≥1) && decide (p.1<=60))<;>cases jV c.1 p.2.2<;>cases decide ((p.2.2.length:Int)>0)<;>cases (p.2.1==[])<;>cases zG p.2.1<;>rfl
theorem bX (c:za) (p:zJ) (hw:zp p<=1073741824):Nm (c,p,())=some (y5 c p,()):=by
 have h1:p.2.1.length<=1073741824:=by simp only[zp] at hw; omega
 have h2:p.2.2.length<=137438953472:=by simp only[zp,zu] at hw; omega
 unfold Nm y5;simp only[J5,Yl,pQ _ _ h2,Lb _ h1,Lh _ h1,aqC];cases zB c<;>cases (decide (p.1≥1) && decide (p.1<=60))<;>cases jV c.1 p.2.2<;>cases (p.2.1==[])<;>cases zG p.2.1<;>cases (zl p.2.1==p.1)<;>cases decide ((p.2.2.length:Int)>0)<;>rfl
theorem lY (a b:zF):js a b=decide (a=b):=by
 obtain⟨a1,a2,a3⟩:=a;obtain⟨b1,b2,b3⟩:=b;unfold js;rw[asr];simp[Prod.ext_iff]
theorem UW (a b:y9):Ky a b=decide (a=b):=by
 obtain⟨a1,a2⟩:=a;obtain⟨b1,b2⟩:=b;unfold Ky;simp only[lY];rw[asr];simp[Prod.ext_iff]
theorem agH (a b:zK):bh a b=decide (a=b):=by
 obtain⟨a1,a2,a3,a4⟩:=a;obtain⟨b1,b2,b3,b4⟩:=b;unfold bh;rw[asr];simp[Prod.ext_iff]
theorem BL (a b:zo):YJ a b=true↔a=b:=by
 obtain⟨a1,a2,a3,a4,a5,a6,a7⟩:=a;obtain⟨b1,b2,b3,b4,b5,b6,b7⟩:=b;unfold YJ;simp only[lY,UW,agH];simp only[aqF,ar5,aqP,aqO]
theorem aaT (a b:zo):YJ a b=YJ b a:=by
 rw[asr,BL,BL];exact⟨λ h=>h.symm,λ h=>h.symm⟩
def canon (m:zo):zo:=
 bif (m.1==1) then (m.1,0,m.2.2.1,(0,[],[]),(0,[],[]),0,(0,0,0,0)) else
 bif (m.1==2) then (m.1,0,([],0,[],[]),m.2.2.2.1,(0,[],[]),0,(0,0,0,0)) else
 bif (m.1==3) then (m.1,m.2.1,([],0,[],[]),(0,[],[]),m.2.2.2.2.1,m.2.2.2.2.2.1,(0,0,0,0)) else
 bif (m.1==4) then (m.1,0,([],0,[],[]),(0,[],[]),(0,[],[]),0,m.2.2.2.2.2.2) else
 (m.1,0,([],0,[],[]),(0,[],[]),(0,[],[]),0,(0,0,0,0))
theorem agh (m:zo) (h:MsgW m):nQ (m,())=some (YJ (canon m) m,()):=by
 obtain⟨h1,h2,h3⟩:=h;have hz:([]:List Int).length<=8796093022208:=by simp
 unfold nQ canon;dsimp only;rw[dV (m.1,0,m.2.2.1,(0,[],[]),(0,[],[]),0,(0,0,0,0)) m ⟨h1,hz,hz⟩,dV (m.1,0,([],0,[],[]),m.2.2.2.1,(0,[],[]),0,(0,0,0,0)) m ⟨hz,h2,hz⟩,
  dV (m.1,m.2.1,([],0,[],[]),(0,[],[]),m.2.2.2.2.1,m.2.2.2.2.2.1,(0,0,0,0)) m ⟨hz,hz,h3⟩,dV (m.1,0,([],0,[],[]),(0,[],[]),(0,[],[]),0,m.2.2.2.2.2.2) m ⟨hz,hz,hz⟩,
  dV (m.1,0,([],0,[],[]),(0,[],[]),(0,[],[]),0,(0,0,0,0)) m ⟨hz,hz,hz⟩]
 simp only[aqC];cases (m.1==1)<;>cases (m.1==2)<;>cases (m.1==3)<;>cases (m.1==4)<;>rfl
theorem XN (m:zo):km (m,())=some (canon m,()):=by
 unfold km canon;cases (m.1==1)<;>cases (m.1==2)<;>cases (m.1==3)<;>cases (m.1==4)<;>rfl
noncomputable def zR (c:za) (m:zo):Bool:=
 zB c && (YJ (canon m) m && (bif (m.1==1) then jn c m.2.2.1 else bif (m.1==2) then (y5 c m.2.2.2.1 && m.2.2.2.1.2.1 != []) else
  bif (m.1==3) then ((decide (m.2.1≥1) && decide (m.2.1<=60)) && (zP c m.2.2.2.2.1 && (decide (m.2.2.2.2.2.1≥0) && decide (m.2.2.2.2.2.1<=wr (c.1 - 1))))) else
  bif (m.1==4) then zI m.2.2.2.2.2.2 else false))
theorem aB (c:za) (m:zo) (hw:zh m<=137438953472):YV (c,m,())=some (zR c m,()):=by
 have hW:MsgW m:=MsgW.of (by omega);have h1:zA m.2.2.1<=137438953472:=by simp only[zh] at hw; omega
 have h2:zp m.2.2.2.1<=137438953472:=by simp only[zh] at hw; omega
 have h3:zj m.2.2.2.2.1<=137438953472:=by simp only[zh] at hw; omega
 unfold YV zR;simp only[JS,agh m hW,mY c _ h1,dW c _ h2,MQ c _ h3,Ji,qd,aqC];cases zB c
 ·rfl
 cases YJ (canon m) m
 ·rfl
 cases (m.1==1)
 ·cases (m.1==2)
  ·cases (m.1==3)
   ·cases (m.1==4)<;>rfl
   ·cases (decide (m.2.1≥1) && decide (m.2.1<=60))<;>cases zP c m.2.2.2.2.1<;>rfl
  ·cases y5 c m.2.2.2.1<;>rfl
 ·rfl
theorem bU (c:za) (m:zo) (hw:zh m<=1073741824):Y5 (c,m,())=some (zR c m,()):=by
 have hW:MsgW m:=MsgW.of (by omega);have h1:zA m.2.2.1<=1073741824:=by simp only[zh] at hw; omega
 have h2:zp m.2.2.2.1<=1073741824:=by simp only[zh] at hw; omega
 have h3:zj m.2.2.2.2.1<=1073741824:=by simp only[zh] at hw; omega
 unfold Y5 zR;simp only[J5,XN,Xd m _ hW,aaT m (canon m),f7 c _ h1,bX c _ h2,Mi c _ h3,Yl,Ml,aqC];cases zB c
 ·rfl
 cases YJ (canon m) m
 ·rfl
 cases (m.1==1)
 ·cases (m.1==2)
  ·cases (m.1==3)
   ·cases (m.1==4)<;>rfl
   ·cases (decide (m.2.1≥1) && decide (m.2.1<=60))<;>cases zP c m.2.2.2.2.1<;>rfl
  ·cases y5 c m.2.2.2.1<;>rfl
 ·rfl
abbrev jZ:Ty:=.pair .i64 (.pair .i64 (.pair .i64 .i64))
abbrev YA:Ty:=.pair .i64 (.pair .str (.sl 0 .i64))
abbrev bu:Ty:=.pair .i64 (.pair .i64 (.pair .i64 (.pair (.pair .str (.pair .i64 (.pair .str (.sl 0 .i64)))) (.pair (.pair .i64 (.pair .str (.sl 0 .i64))) (.pair (.pair .i64 (.pair .str (.sl 0 .i64))) (.pair .i64 (.pair .i64 (.pair .i64 (.pair .i64 .i64)))))))))
theorem oO {α:Type} (p:α->Bool) (l:List α) {G:(Int×Unit->Option (Bool×Unit))->Int×Unit->Option (Bool×Unit)} (hl:l.length<=1152921504606846976)
  (ahe:∀ rec s,G rec ((l.length:Int),s)=some (true,()))
  (ahg:∀ rec (i:Nat) s x,l[i]?=some x->i<l.length->G rec ((i:Int),s)=bif p x then rec ((i:Int)+1,s) else some (false,())):
  iter G fuel (0,())=some (l.all p,()):=by
 refine (bH l (λ x s rec=>bif p x then rec s else some (false,())) (λ s=>some (true,())) (λ i s=>(i,s)) hl ahe ahg ?_ ()).trans (pw _ _);intro x s r1 r2 hr; simp[hr]
def yH {α:Type} (ok:α->Bool) (lt:α->α->Bool):Option α->List α->Bool
 | _,[]=>true
 | p,x::l=>ok x && ((match p with|none=>true|some y=>lt y x) && yH ok lt (some x) l)
theorem fA {α:Type} (ok:α->Bool) (lt:α->α->Bool) (fin:Bool) (l:List α) (hl:l.length<=1152921504606846976)
  {G:(Int×Unit->Option (Bool×Unit))->Int×Unit->Option (Bool×Unit)}
  (ahe:∀ rec,G rec ((l.length:Int),())=some (fin,()))
  (h0:∀ rec x,l[0]?=some x->0<l.length->G rec (0,())=bif ok x then rec (1,()) else some (false,()))
  (ahg:∀ rec (i:Nat) x y,l[i]?=some x->l[i+1]?=some y->i+1<l.length->G rec (((i+1:Nat):Int),())=bif ok y then (bif lt x y then rec (((i+1:Nat):Int)+1,()) else some (false,())) else some (false,())):
  iter G fuel (0,())=some (yH ok lt none l && fin,()):=by
 let pv:Nat->Option α:=λ i=>match i with|0=>none|j+1=>l[j]?
 refine (walk l.length (λ i (_:Unit)=>(i,())) (λ _ _=>True) (λ i _=>some (yH ok lt (pv i) (l.drop i) && fin,())) hl ?_ ?_ (s0:=()) trivial).trans (by simp only[ar4,pv])
 ·intro rec s _;rw[ahe,arb]; simp[yH]
 ·intro rec i s hi _;have hx:l[i]?=some l[i]:=List.getElem?_eq_getElem hi;cases i with
  | zero=>
   rw[show ((0:Nat):Int)=0 from rfl,h0 rec l[0] hx hi,List.drop_eq_getElem_cons hi];cases hk:ok l[0] with
   | true=>
    right;have e2:pv (0+1)=some l[0]:=hx;exact⟨(),trivial,by simp,by rw[e2]; simp[yH,show pv 0=none from rfl,hk]⟩
   | false=>left; simp[yH,hk]
  | succ j=>
   have hj:l[j]?=some l[j]:=List.getElem?_eq_getElem (by omega);rw[ahg rec j l[j] l[j+1] hj hx hi,List.drop_eq_getElem_cons hi];have e:pv (j+1)=some l[j]:=hj;have e2:pv (j+1+1)=some l[j+1]:=hx;rw[e];cases hk:ok l[j+1] with
   | true=>
    cases hlt:lt l[j] l[j+1] with
    | true=>right; exact⟨(),trivial,by simp,by rw[e2]; simp[yH,hk,hlt]⟩
    | false=>left; simp[yH,hk,hlt]
   | false=>left; simp[yH,hk]
def zT (c:za) (s:zx):Bool:=(decide (s.1≥0) && decide (s.1<=60)) && ((decide (s.2.1≥0) && decide (s.2.1<=60)) && (zP c s.2.2.1 && zG s.2.2.2))
theorem aH (c:za) (s:zx) (hw:zz s<=137438953472):LM (c,s,())=some (zT c s,()):=by
 simp only[zz] at hw;unfold LM zT;simp only[Ji,MQ c s.2.2.1 (by omega),LK s.2.2.2 (by omega),aqC];cases (decide (s.1≥0) && decide (s.1<=60))<;>cases (decide (s.2.1≥0) && decide (s.2.1<=60))<;>cases zP c s.2.2.1<;>rfl
theorem b8 (c:za) (s:zx) (hw:zz s<=1073741824):Mj (c,s,())=some (zT c s,()):=by
 simp only[zz] at hw;unfold Mj zT;simp only[Yl,Mi c s.2.2.1 (by omega),Lb s.2.2.2 (by omega),aqC];cases (decide (s.1≥0) && decide (s.1<=60))<;>cases (decide (s.2.1≥0) && decide (s.2.1<=60))<;>cases zP c s.2.2.1<;>rfl
def yj (a b:zK):Bool:=decide (a.1<b.1) || (a.1==b.1 && decide (a.2.2.2<b.2.2.2))
theorem IK (a b:zK):eD (a,b,())=some (yj a b,()):=by
 unfold eD yj;dsimp only;cases decide (a.1<b.1)<;>cases (a.1==b.1)<;>rfl
theorem AH (a b:zK):ck (a,b,())=some (yj a b,()):=by
 unfold ck yj;dsimp only;cases decide (a.1<b.1)<;>cases (a.1==b.1)<;>rfl
def jz (l:zy):Bool:=yH zI yj none l && decide ((l.length:Int)<=12)
theorem Iv (l:zy) (hl:l.length<=137438953472):N7 (l,())=some (jz l,()):=by
 unfold N7 jz;refine fA zI yj _ l (by omega) ?_ ?_ ?_
 ·intro rec; simp
 ·intro rec x hx hi;have hi0:(0:Int)<(l.length:Int):=by omega
  simp only[hi0,aqH,aqE,as2,aqS,if_true,arG,zm (e:=jZ) hx,qd,aqC,show wr ((0:Int)+1)=1 from zq (show 0<4611686018427387904 by omega),show ¬ ((0:Int)>0) by omega,aqL,aqD];cases zI x<;>rfl
 ·intro rec i x y hx hy hi;have e:wr (((i+1:Nat):Int) - 1)=(i:Int):=by rw[zg (by omega) (by omega)]; omega
  simp only[zv hi,zv (show i<l.length by omega),e,aqH,aqE,aqS,if_true,aqN,zm (e:=jZ) hx,zm (e:=jZ) hy,qd,IK,aqC,zq (show i+1<4611686018427387904 by omega),show (((i+1:Nat):Int)>0) by omega];cases zI y<;>cases yj x y<;>rfl
theorem Az (l:zy) (hl:l.length<=137438953472):No (l,())=some (jz l,()):=by
 unfold No jz;refine fA zI yj _ l (by omega) ?_ ?_ ?_
 ·intro rec; simp
 ·intro rec x hx hi;have hi0:(0:Int)<(l.length:Int):=by omega
  simp only[hi0,aqH,aqE,as2,aqS,if_true,arG,zm (e:=jZ) hx,Ml,aqC,show wr ((0:Int)+1)=1 from zq (show 0<4611686018427387904 by omega),show ¬ ((0:Int)>0) by omega,aqL,aqD];cases zI x<;>rfl
 ·intro rec i x y hx hy hi;have e:wr (((i+1:Nat):Int) - 1)=(i:Int):=by rw[zg (by omega) (by omega)]; omega
  simp only[zv hi,zv (show i<l.length by omega),e,aqH,aqE,aqS,if_true,aqN,zm (e:=jZ) hx,zm (e:=jZ) hy,Ml,AH,aqC,zq (show i+1<4611686018427387904 by omega),show (((i+1:Nat):Int)>0) by omega];cases zI y<;>cases yj x y<;>rfl
def j3 (a b:zJ):Bool:=decide (a.1<b.1) || (a.1==b.1 && Go.Op.bytesLess a.2.1 b.2.1)
theorem IB (a b:zJ):eq (a,b,())=some (j3 a b,()):=by
 unfold eq j3;dsimp only;cases decide (a.1<b.1)<;>cases (a.1==b.1)<;>rfl
def KL (a b:zJ):Int:=if a.1<b.1 then -1 else if a.1>b.1 then 1 else if Go.Op.bytesLess a.2.1 b.2.1=true then -1 else if a.2.1=b.2.1 then 0 else 1
theorem AI (a b:zJ):Nv (a,b,())=some (KL a b,()):=by
 unfold Nv o7 o8 fC fD KL;simp only[bne_self_eq_false,aqC,aqD];by_cases h1:a.1<b.1
 ·simp[h1]
 ·by_cases h2:a.1>b.1
  ·simp[h1,h2]
  ·cases h3:Go.Op.bytesLess a.2.1 b.2.1
   ·by_cases h4:a.2.1=b.2.1
    ·simp[h1,h2,h4,h3]
    ·have h5:(a.2.1==b.2.1)=false:=by simp[h4]
     simp[h1,h2,h4,h5]
   ·simp[h1,h2,h3]
theorem EL (a b:zJ):decide (KL a b≥0) = !j3 a b:=by
 unfold KL j3;by_cases h1:a.1<b.1
 ·simp[h1]
 ·by_cases h2:a.1>b.1
  ·have:¬ a.1=b.1:=by omega
   simp[h1,h2,this]
  ·have:a.1=b.1:=by omega
   simp only[h1,h2,this,if_false];cases h3:Go.Op.bytesLess a.2.1 b.2.1
   ·by_cases h4:a.2.1=b.2.1<;>simp[h4]
   ·simp
def jR (c:za) (l:z6):Bool:=yH (y5 c) j3 none l && decide ((l.length:Int)<=20)
theorem KZ {l:z6} {x:zJ} {N:Nat} (hw:zL l<=N) {i:Nat} (hx:l[i]?=some x):zp x<=N:=by
 have:=ZN zp (List.mem_of_getElem? hx); unfold zL at hw; omega
theorem Ix (c:za) (l:z6) (hw:zL l<=137438953472):qc (c,l,())=some (jR c l,()):=by
 have hl:l.length<=137438953472:=by unfold zL at hw; omega
 unfold qc jR;refine fA (y5 c) j3 _ l (by omega) ?_ ?_ ?_
 ·intro rec; simp
 ·intro rec x hx hi;have hi0:(0:Int)<(l.length:Int):=by omega
  simp only[hi0,aqH,aqE,as2,aqS,if_true,arG,zm (e:=YA) hx,dW c x (KZ hw hx),aqC,show wr ((0:Int)+1)=1 from zq (show 0<4611686018427387904 by omega),show ¬ ((0:Int)>0) by omega,aqL,aqD];cases y5 c x<;>rfl
 ·intro rec i x y hx hy hi;have e:wr (((i+1:Nat):Int) - 1)=(i:Int):=by rw[zg (by omega) (by omega)]; omega
  simp only[zv hi,zv (show i<l.length by omega),e,aqH,aqE,aqS,if_true,aqN,zm (e:=YA) hx,zm (e:=YA) hy,dW c y (KZ hw hy),IB,aqC,zq (show i+1<4611686018427387904 by omega),show (((i+1:Nat):Int)>0) by omega];cases y5 c y<;>cases j3 x y<;>rfl
theorem AD (c:za) (l:z6) (hw:zL l<=1073741824):J7 (c,l,())=some (jR c l,()):=by
 have hl:l.length<=137438953472:=by unfold zL at hw; omega
 unfold J7 jR;refine fA (y5 c) j3 _ l (by omega) ?_ ?_ ?_
 ·intro rec; simp
 ·intro rec x hx hi;have hi0:(0:Int)<(l.length:Int):=by omega
  simp only[hi0,aqH,aqE,as2,aqS,if_true,arG,zm (e:=YA) hx,bX c x (KZ hw hx),aqC,show wr ((0:Int)+1)=1 from zq (show 0<4611686018427387904 by omega),show ¬ ((0:Int)>0) by omega,aqL,aqD];cases y5 c x<;>rfl
 ·intro rec i x y hx hy hi;have e:wr (((i+1:Nat):Int) - 1)=(i:Int):=by rw[zg (by omega) (by omega)]; omega
  simp only[zv hi,zv (show i<l.length by omega),e,aqH,aqE,aqS,if_true,aqN,zm (e:=YA) hx,zm (e:=YA) hy,bX c y (KZ hw hy),AI,EL,aqC,zq (show i+1<4611686018427387904 by omega),show (((i+1:Nat):Int)>0) by omega];cases y5 c y<;>cases j3 x y<;>rfl
noncomputable def ZC (c:za) (id:Int) (p:K5):Bool:=zR c p.2 && ((decide (p.1≥0) && decide (p.1<=c.1 - 1)) && !(p.1==id))
noncomputable def zd (c:za) (r:zb):Bool:=
 zB c && ((decide (r.1≥0) && decide (r.1<=c.1 - 1)) && ((decide (r.2.1≥1) && decide (r.2.1<=60)) && ((decide (r.2.2.1≥0) && decide (r.2.2.1<=60)) &&
  (zT c r.2.2.2.1 && (jz r.2.2.2.2.1 && (jR c r.2.2.2.2.2.1 && (yK r.2.2.2.2.2.2.1 && (decide ((r.2.2.2.2.2.2.2.length:Int)<=30) && r.2.2.2.2.2.2.2.all (ZC c r.1)))))))))
theorem ox {l:jw} {x:K5} {N:Nat} (hw:yu l<=N) {i:Nat} (hx:l[i]?=some x):zh x.2<=N:=by
 have:=ZN Yf (List.mem_of_getElem? hx); simp only[Yf] at this; unfold yu at hw; omega
theorem Md (n m:Int):decide (n>m) = !decide (n<=m):=by
 by_cases h:n<=m
 ·have:¬ n>m:=by omega
  simp[h,this]
 ·have:n>m:=by omega
  simp[h,this]
theorem YW (c:za) (r:zb) (hw:zf r<=137438953472):ZM (c,r,())=some (zd c r,()):=by
 simp only[zf,Kt] at hw;have hh:yu r.2.2.2.2.2.2.2<=137438953472:=by omega
 have hl:r.2.2.2.2.2.2.2.length<=137438953472:=by unfold yu at hh; omega
 unfold ZM zd;simp only[JS,aqC];cases hc:zB c
 ·rfl
 obtain⟨hc1,hc2⟩:=zS hc;have e1:wr (c.1 - 1)=c.1 - 1:=zg (by omega) (by omega);simp only[aqI,aqD,aqU,e1,Ji,aH c r.2.2.2.1 (by omega),Iv r.2.2.2.2.1 (by omega),Ix c r.2.2.2.2.2.1 (by omega),m7,aqC,Md ((r.2.2.2.2.2.2.2.length:Nat):Int) 30];cases (decide (r.1≥0) && decide (r.1<=c.1 - 1))
 ·rfl
 cases (decide (r.2.1≥1) && decide (r.2.1<=60))
 ·rfl
 cases (decide (r.2.2.1≥0) && decide (r.2.2.1<=60))
 ·rfl
 cases zT c r.2.2.2.1
 ·rfl
 cases jz r.2.2.2.2.1
 ·rfl
 cases jR c r.2.2.2.2.2.1
 ·rfl
 cases yK r.2.2.2.2.2.2.1
 ·rfl
 cases decide ((r.2.2.2.2.2.2.2.length:Int)<=30)
 ·rfl
 simp only[aqI,aqD,aqU];refine oO (ZC c r.1) r.2.2.2.2.2.2.2 (by omega) ?_ ?_
 ·intro rec s; simp
 ·intro rec i s x hx hi;simp only[zv hi,aqH,aqE,aqS,if_true,aqN,zm (e:=bu) hx,aB c x.2 (ox hh hx),aqC,zq (show i<4611686018427387904 by omega),ZC];cases zR c x.2<;>cases (decide (x.1≥0) && decide (x.1<=c.1 - 1))<;>cases (x.1==r.1)<;>rfl
theorem ZU (c:za) (r:zb) (hw:zf r<=1073741824):Zh (c,r,())=some (zd c r,()):=by
 simp only[zf,Kt] at hw;have hh:yu r.2.2.2.2.2.2.2<=1073741824:=by omega
 have hl:r.2.2.2.2.2.2.2.length<=1073741824:=by unfold yu at hh; omega
 unfold Zh zd;simp only[J5,aqC];cases hc:zB c
 ·rfl
 obtain⟨hc1,hc2⟩:=zS hc;have e1:wr (c.1 - 1)=c.1 - 1:=zg (by omega) (by omega);simp only[aqI,aqD,aqU,e1,Yl,b8 c r.2.2.2.1 (by omega),Az r.2.2.2.2.1 (by omega),AD c r.2.2.2.2.2.1 (by omega),gc,aqC,Md ((r.2.2.2.2.2.2.2.length:Nat):Int) 30];cases (decide (r.1≥0) && decide (r.1<=c.1 - 1))
 ·rfl
 cases (decide (r.2.1≥1) && decide (r.2.1<=60))
 ·rfl
 cases (decide (r.2.2.1≥0) && decide (r.2.2.1<=60))
 ·rfl
 cases zT c r.2.2.2.1
 ·rfl
 cases jz r.2.2.2.2.1
 ·rfl
 cases jR c r.2.2.2.2.2.1
 ·rfl
 cases yK r.2.2.2.2.2.2.1
 ·rfl
 cases decide ((r.2.2.2.2.2.2.2.length:Int)<=30)
 ·rfl
 simp only[aqI,aqD,aqU];refine oO (ZC c r.1) r.2.2.2.2.2.2.2 (by omega) ?_ ?_
 ·intro rec s; simp
 ·intro rec i s x hx hi;simp only[zv hi,aqH,aqE,aqS,if_true,aqN,zm (e:=bu) hx,bU c x.2 (ox hh hx),aqC,zq (show i<4611686018427387904 by omega),ZC];cases zR c x.2<;>cases (decide (x.1≥0) && decide (x.1<=c.1 - 1))<;>cases (x.1==r.1)<;>rfl
def yg (c:za) (v:Int):Int:=if zB c=true/\0<=v then Int.tmod v c.1 else -1
theorem N9 (c:za) (v:Int):j8 (c,v,())=some (yg c v,()):=by
 unfold j8 yg;simp only[JS,aqC];by_cases h:zB c=true
 ·obtain⟨h1,h2⟩:=zS h;simp only[h,aqI,aqD];by_cases hv:v<0
  ·rw[if_neg (show ¬ (True/\0<=v) by omega)];simp[hv]
  ·rw[if_pos (show True/\0<=v from⟨trivial,by omega⟩)];simp only[hv,aqL,aqD];rw[if_neg (by omega)]
 ·have h':zB c=false:=by simpa using h
  simp[h']
theorem Qj (c:za) (v:Int):Le (c,v,())=some (yg c v,()):=by
 unfold Le yg;simp only[J5,aqC];by_cases h:zB c=true
 ·obtain⟨h1,h2⟩:=zS h;simp only[h,aqI,aqD];by_cases hv:v<0
  ·rw[if_neg (show ¬ (True/\0<=v) by omega)];simp[hv]
  ·rw[if_pos (show True/\0<=v from⟨trivial,by omega⟩)];simp only[hv,aqL,aqD];rw[if_neg (by omega)]
 ·have h':zB c=false:=by simpa using h
  simp[h']
noncomputable def Lm (c:za) (liars:ym) (list:ya) (m:zo):Bool:=
 zR c m && (bif (m.1==1) then liars.any (· == yg c (zl m.2.2.1.1)) && signed liars list m.2.2.1.2.1 m.2.2.1.2.2.1 m.2.2.1.2.2.2 else
  bif (m.1==2) then signed liars list m.2.2.2.1.1 m.2.2.2.1.2.1 m.2.2.2.1.2.2 else
  bif (m.1==3) then liars.any (· == m.2.2.2.2.2.1) && signed liars list m.2.2.2.2.1.1 m.2.2.2.2.1.2.1 m.2.2.2.2.1.2.2 else true)
theorem BG {c:za} {m:zo} (h:zR c m=true):(m.1==1)=true∨(m.1==2)=true∨(m.1==3)=true∨(m.1==4)=true:=by
 unfold zR at h;cases h1:(m.1==1)
 ·cases h2:(m.1==2)
  ·cases h3:(m.1==3)
   ·cases h4:(m.1==4)
    ·rw[h1,h2,h3,h4] at h; simp at h
    ·simp
   ·simp
  ·simp
 ·simp
theorem afL (c:za) (liars:ym) (list:ya) (m:zo) (hw:zh m<=137438953472) (h1:liars.length<=1073741824) (h2:list.length<=137438953472):dS (c,liars,list,m,())=some (Lm c liars list m,()):=by
 have n1:m.2.2.1.1.length<=137438953472:=by simp only[zh,zA] at hw; omega
 have w1:m.2.2.1.2.2.2.length<=1152921504606846976:=by simp only[zh,zA,zj,zu] at hw; omega
 have w2:m.2.2.2.1.2.2.length<=1152921504606846976:=by simp only[zh,zp,zu] at hw; omega
 have w3:m.2.2.2.2.1.2.2.length<=1152921504606846976:=by simp only[zh,zj,zu] at hw; omega
 unfold dS Lm;simp only[aB c m hw,KT _ n1,N9,Jh liars _ (show liars.length<=1152921504606846976 by omega),aqC,
  vI liars list _ _ m.2.2.1.2.2.2 (show liars.length<=1152921504606846976 by omega) (by omega) w1,vI liars list _ _ m.2.2.2.1.2.2 (show liars.length<=1152921504606846976 by omega) (by omega) w2,
  vI liars list _ _ m.2.2.2.2.1.2.2 (show liars.length<=1152921504606846976 by omega) (by omega) w3]
 cases zR c m
 ·rfl
 cases (m.1==1)
 ·cases (m.1==2)
  ·cases (m.1==3)
   ·rfl
   ·cases liars.any (· == m.2.2.2.2.2.1)<;>rfl
  ·rfl
 ·cases liars.any (· == yg c (zl m.2.2.1.1))<;>rfl
theorem xP {liars:ym} {list:ya} {q:zF} (h:js q (0,[],[])=true):signed liars list q.1 q.2.1 q.2.2=true:=by
 rw[lY,aqP] at h;subst h;rfl
theorem Xb (c:za) (liars:ym) (list:ya) (m:zo) (hw:zh m<=1073741824) (h1:liars.length<=1073741824) (h2:list.length<=137438953472):gv (c,liars,list,m,())=some (Lm c liars list m,()):=by
 have n1:m.2.2.1.1.length<=1073741824:=by simp only[zh,zA] at hw; omega
 have v1:m.2.2.1.2.2.2.length<=8796093022208:=by simp only[zh,zA,zj,zu] at hw; omega
 have v3:m.2.2.2.2.1.2.2.length<=8796093022208:=by simp only[zh,zj,zu] at hw; omega
 have w1:m.2.2.1.2.2.2.length<=1152921504606846976:=by simp only[zh,zA,zj,zu] at hw; omega
 have w2:m.2.2.2.1.2.2.length<=1152921504606846976:=by simp only[zh,zp,zu] at hw; omega
 have w3:m.2.2.2.2.1.2.2.length<=1152921504606846976:=by simp only[zh,zj,zu] at hw; omega
 unfold gv Qh Lm;simp only[bU c m hw,Lh _ n1,Qj,JB liars _ (show liars.length<=1152921504606846976 by omega),aqC,Qi m.2.2.1.2 _ v1,Qi m.2.2.2.2.1 _ v3,
  gN liars list _ _ m.2.2.1.2.2.2 (show liars.length<=1152921504606846976 by omega) (by omega) w1,gN liars list _ _ m.2.2.2.1.2.2 (show liars.length<=1152921504606846976 by omega) (by omega) w2,
  gN liars list _ _ m.2.2.2.2.1.2.2 (show liars.length<=1152921504606846976 by omega) (by omega) w3]
 cases hk:zR c m
 ·rfl
 have an9:=BG hk;have f1 := @xP liars list m.2.2.1.2;have f3 := @xP liars list m.2.2.2.2.1;have k4:(m.1==4)=true->(m.1==1)=false/\(m.1==2)=false/\(m.1==3)=false:=by
  intro h; have h:m.1=4:=by simpa using h
  rw[h]; decide
 have k2:(m.1==2)=true->(m.1==1)=false:=by
  intro h; have h:m.1=2:=by simpa using h
  rw[h]; decide
 cases h4:(m.1==4)
 ·cases e2:(m.1==2)
  ·cases e1:(m.1==1)
   ·have e3:(m.1==3)=true:=by rw[e1,e2,h4] at an9; simpa using an9
    rw[e3];cases hq:js m.2.2.2.2.1 (0,[],[])
    ·cases liars.any (· == m.2.2.2.2.2.1)<;>simp
    ·cases liars.any (· == m.2.2.2.2.2.1)<;>simp[f3 hq]
   ·cases hq:js m.2.2.1.2 (0,[],[])
    ·cases liars.any (· == yg c (zl m.2.2.1.1))<;>simp
    ·cases liars.any (· == yg c (zl m.2.2.1.1))<;>simp[f1 hq]
  ·rw[k2 e2]; rfl
 ·obtain⟨a1,a2,a3⟩:=k4 h4;rw[a1,a2,a3]; rfl
end G448
namespace G448
open Ev
theorem ri (a b:Int):yt (a,b,())=some (if a<b then a else b,()):=by
 unfold yt;dsimp only;by_cases h:a<b
 ·simp[h]
 ·simp[h]
theorem aa5 (a b:Int):jP (a,b,())=some (if a>b then a else b,()):=by
 unfold jP;dsimp only;by_cases h:a>b
 ·simp[h]
 ·simp[h]
def La (d:yZ) (keep:Int):Int:=d.2+(if 0>(if keep<(d.1.length:Int) - d.2 then keep else (d.1.length:Int) - d.2) then 0 else (if keep<(d.1.length:Int) - d.2 then keep else (d.1.length:Int) - d.2))
def ZS (d:yZ) (keep:Int):yZ:=if yK d=true then (d.1.take (La d keep).toNat,La d keep) else d
theorem JY {d:yZ}:yK d=true↔(d.1.length:Int)<=100000/\0<=d.2/\d.2<=(d.1.length:Int):=by
 simp[yK]
theorem pp {d:yZ} (h:yK d=true) (keep:Int):0<=La d keep/\La d keep<=(d.1.length:Int)/\La d keep<=100000:=by
 obtain⟨h1,h2,h3⟩:=JY.1 h;unfold La;split<;>split<;>omega
theorem afB (d:yZ) (keep:Int) (h:d.1.length<=17592186044416):dQ (d,keep,())=some (ZS d keep,()):=by
 unfold dQ ZS;simp only[nO d (by omega),m7,aqC];cases hd:yK d with
 | false=>simp
 | true=>
  obtain⟨h1,h2,h3⟩:=JY.1 hd;obtain⟨g1,g2,g3⟩:=pp hd keep;simp only[aqI,aqD,zg (show (-9223372036854775808:Int)<=(d.1.length:Int) - d.2 by omega) (show (d.1.length:Int) - d.2<=9223372036854775807 by omega),ri,aa5,aqC,if_true];rw[show d.2+(if 0>(if keep<(d.1.length:Int) - d.2 then keep else (d.1.length:Int) - d.2) then 0 else (if keep<(d.1.length:Int) - d.2 then keep else (d.1.length:Int) - d.2))=La d keep from rfl,
   zg (by omega) (by omega),if_pos ⟨as2 0,g1,g2⟩]
  simp only[arG,ar4,arK,ar6];rw[if_pos (by rw[aqV]; omega)]
theorem WY (d:yZ) (keep:Int) (h:d.1.length<=17592186044416):gh (d,keep,())=some (ZS d keep,()):=by
 unfold gh ZS;simp only[kf d (by omega),gc,aqC];cases hd:yK d with
 | false=>simp
 | true=>
  obtain⟨h1,h2,h3⟩:=JY.1 hd;obtain⟨g1,g2,g3⟩:=pp hd keep;have e:d.2+mn (mx keep 0) ((d.1.length:Int) - d.2)=La d keep:=by
   rw[cD,Ms];unfold La;repeat' split
   all_goals omega
  simp only[aqE,zg (show (-9223372036854775808:Int)<=(d.1.length:Int) - d.2 by omega) (show (d.1.length:Int) - d.2<=9223372036854775807 by omega),e,if_true];rw[zg (by omega) (by omega),if_pos ⟨as2 0,g1,g2⟩];congr 3;rw[aqV];omega
def Kq (d:yZ):yZ:=if yK d=true then (d.1,(d.1.length:Int)) else d
theorem ag5 (d:yZ) (h:d.1.length<=17592186044416):nG (d,())=some (Kq d,()):=by
 unfold nG Kq;simp only[nO d (by omega),m7,aqC];cases hd:yK d<;>simp
theorem Xx (d:yZ) (h:d.1.length<=17592186044416):gR (d,())=some (Kq d,()):=by
 unfold gR Kq;simp only[kf d (by omega),gc,aqC];cases hd:yK d<;>simp
abbrev j9:=List UInt8×Int×Int
def Zw (c:j9):Prop:=c.1.length<=big/\0<=c.2.1
theorem wU (x:Int):0<=band x 255/\band x 255<=255:=by
 unfold band;have h:(BitVec.ofInt 64 x &&& BitVec.ofInt 64 255).toNat<=255:=by
  rw[BitVec.toNat_and];exact Nat.le_trans Nat.and_le_right (by decide)
 rw[zg (by omega) (by omega)];omega
theorem IY {a n:Int} (ha:0<=a) (hn:0<n):0<=a.tmod n/\a.tmod n<n:=by
 rw[Int.tmod_eq_emod_of_nonneg ha];exact⟨Int.emod_nonneg _ (by omega),Int.emod_lt_of_pos _ hn⟩
theorem cx (c:j9) (hc:Zw c):Ens (MS (c,())) λ r=>0<=r.1.2.1/\0<=r.2.1/\r.2.1<=255:=by
 obtain⟨h1,h2⟩:=hc;unfold MS;refine Ens.cond (λ h => ?_) λ h=>Ens.some ⟨h2,wU _⟩;have h:c.2.1<(c.1.length:Int):=by simpa using h
 refine Ens.ite ⟨h2,h⟩ (Ens.some ⟨?_,wU _⟩);dsimp only;unfold big at h1;rw[zg (by omega) (by omega)];omega
theorem Zi (c:j9) (n:Int) (hc:Zw c):Ens (zN (c,n,())) λ r=>0<=r.1.2.1/\0<=r.2.1/\(0<n->r.2.1<n):=by
 unfold zN;refine Ens.cond (λ h=>Ens.some ⟨hc.2,Int.le_refl _,λ h0=>h0⟩) λ h => ?_;have h:0<n:=by simpa using h
 refine Ens.cond (λ _ => ?_) λ _ => ?_
 ·refine (cx c hc).bind λ r hr => ?_;rw[if_neg (show ¬ n=0 by omega)];obtain⟨g1,g2⟩:=IY hr.2.1 h;exact Ens.some ⟨hr.1,g1,λ _=>g2⟩
 ·refine (cx c hc).bind λ r1 hr1 => ?_;refine (cx (c.1,r1.1.2) ⟨hc.1,hr1.1⟩).bind λ r2 hr2 => ?_;refine (cx (c.1,r2.1.2) ⟨hc.1,hr2.1⟩).bind λ r3 hr3 => ?_;refine (cx (c.1,r3.1.2) ⟨hc.1,hr3.1⟩).bind λ r4 hr4 => ?_;rw[if_neg (show ¬ n=0 by omega)];have e:wr (wr (wr (wr (r1.2.1*16777216)+wr (r2.2.1*65536))+wr (r3.2.1*256))+r4.2.1)=r1.2.1*16777216+r2.2.1*65536+r3.2.1*256+r4.2.1:=by
   rw[zg (n:=r1.2.1*16777216) (by omega) (by omega),zg (n:=r2.2.1*65536) (by omega) (by omega),zg (n:=r3.2.1*256) (by omega) (by omega),zg (n:=r1.2.1*16777216+r2.2.1*65536) (by omega) (by omega),
    zg (n:=r1.2.1*16777216+r2.2.1*65536+r3.2.1*256) (by omega) (by omega),zg (by omega) (by omega)]
  obtain⟨g1,g2⟩:=IY (a:=wr (wr (wr (wr (r1.2.1*16777216)+wr (r2.2.1*65536))+wr (r3.2.1*256))+r4.2.1)) (by rw[e]; omega) h
  exact Ens.some ⟨hr4.1,g1,λ _=>g2⟩
theorem kE (c:j9) (n:Int) (hc:Zw c):Ens (MT (c,n,())) λ r=>0<=r.1.2.1:=by
 unfold MT;exact (Zi c n hc).bind λ r hr=>Ens.some hr.1
theorem abv {e:Ty} {l:List (den e)} {i:Nat} (h:i<l.length):rd e l i∈l:=by
 rw[zm (arf h)];exact List.getElem_mem h
theorem rj (c:j9) (l:List Int) (hc:Zw c) (hl:0<l.length):Ens (aX (c,l,())) λ r=>0<=r.1.2.1/\r.2.1∈l:=by
 unfold aX;refine (Zi c _ hc).bind λ r hr => ?_;have h:r.2.1<(l.length:Int):=hr.2.2 (show (0:Int)<(l.length:Int) by omega);have h0:0<=r.2.1:=hr.2.1;refine Ens.ite ⟨h0,h⟩ (Ens.some ⟨hr.1,abv (e:=.i64) ?_⟩);show r.2.1.toNat<l.length;omega
theorem aa7 (code:List UInt8) (hb:code.length<=big):Ens (eA (code,())) λ r=>Zw r/\r.1=code:=by
 unfold eA;refine Ens.loop (λ x=>0<=x.2.1) (λ x=>code.length - x.2.1.toNat) ?_ (Int.le_refl _) (by dsimp only; unfold big at hb; rw[Zt]; omega)
 intro rec x hx ah3;refine Ens.cond (λ h => ?_) λ h=>Ens.some ⟨⟨hb,Int.le_refl _⟩,rfl⟩;have h:x.2.1<(code.length:Int):=by simpa using h
 refine Ens.cond (λ h2 => ?_) λ h2=>Ens.some ⟨⟨hb,Int.le_refl _⟩,rfl⟩;refine Ens.ite ⟨hx,h⟩ ?_;unfold big at hb;rw[zg (n:=x.2.1+1) (by omega) (by omega)];refine ah3 _ (by show 0<=x.2.1+1; omega) (by show code.length - (x.2.1+1).toNat<code.length - x.2.1.toNat; omega)
noncomputable def j6 (n:Nat):List UInt8:=if h:n>127 then y8 ((n % 128+128:Nat):Int)::j6 (n / 128) else [y8 (n:Int)]
termination_by n
decreasing_by omega
noncomputable def zn (n:Int):List UInt8:=if 0<=n/\n<=2147483647 then j6 n.toNat else []
theorem Mx {n:Nat} (h:n>127):j6 n=y8 ((n % 128+128:Nat):Int)::j6 (n / 128):=by rw[j6,dif_pos h]
theorem LA {n:Nat} (h:¬ n>127):j6 n=[y8 (n:Int)]:=by rw[j6,dif_neg h]
theorem dh:∀ (k n:Nat),n<128 ^ k->(j6 n).length<=k+(if k=0 then 1 else 0)
 | 0,n,h=>by
  have:n=0:=by simpa using h
  subst this;rw[LA (by omega)];simp
 | k+1,n,h=>by
  by_cases hn:n>127
  ·rw[Mx hn];have h2:n / 128<128 ^ k:=by
    rw[arC] at h;omega
   have ih:=dh k (n / 128) h2;cases k with
   | zero=>simp at h2; omega
   | succ k=>simp at ih ⊢; omega
  ·rw[LA hn]; simp
theorem jd (n:Int):(zn n).length<=5:=by
 unfold zn;split
 ·next h=>exact dh 5 n.toNat (by omega)
 ·simp
theorem t7 {G:(Int×List UInt8×Unit->Option (List UInt8×Unit))->Int×List UInt8×Unit->Option (List UInt8×Unit)}
  (ahe:∀ rec (n:Nat) (out:List UInt8),¬ n>127->out.length<=1000->G rec ((n:Int),out,())=some (out++[y8 (n:Int)],()))
  (ahg:∀ rec (n:Nat) (out:List UInt8),n>127->n<=2147483647->out.length<=1000->G rec ((n:Int),out,())=rec (((n / 128:Nat):Int),out++[y8 ((n % 128+128:Nat):Int)],())):
  ∀ (m n:Nat) (out:List UInt8),n<m->n<=2147483647->(n<128 ^ 5->out.length+(j6 n).length<=1000)->iter G m ((n:Int),out,())=some (out++j6 n,())
 | 0,n,out,h,_,_=>by omega
 | m+1,n,out,h,hn,ho=>by
  have ho':=ho (by omega);by_cases hc:n>127
  ·have e1:iter G (m+1) ((n:Int),out,())=iter G m (((n / 128:Nat):Int),out++[y8 ((n % 128+128:Nat):Int)],()):=ahg (iter G m) n out hc hn (by omega);rw[e1,t7 ahe ahg m (n / 128) _ (by omega) (by omega) (λ _=>by rw[Mx hc] at ho'; simp at ho' ⊢; omega),Mx hc]
   simp
  ·have e1:iter G (m+1) ((n:Int),out,())=some (out++[y8 (n:Int)],()):=ahe (iter G m) n out hc (by omega);rw[e1,LA hc]
theorem nU (x lo hi:Int):yC (x,lo,hi,())=some (decide (x≥lo) && decide (x<=hi),()):=by
 unfold yC;cases h:decide (x≥lo)<;>simp[h]
theorem pT (x lo hi:Int):yx (x,lo,hi,())=some (decide (x≥lo) && decide (x<=hi),()):=by
 unfold yx;cases h:decide (x≥lo)<;>simp[h]
theorem agv (n m:Nat):Int.tdiv (n:Int) (m:Int)=((n / m:Nat):Int):=by
 rw[Int.tdiv_eq_ediv_of_nonneg (by omega)]; rfl
theorem agz (n m:Nat):Int.tmod (n:Int) (m:Int)=((n % m:Nat):Int):=by
 rw[Int.tmod_eq_emod_of_nonneg (by omega)]; rfl
theorem MP (n:Int):Yb (n,())=some (zn n,()):=by
 unfold Yb zn;simp only[nU,aqC];by_cases h:0<=n/\n<=2147483647
 ·have e1:(decide (n≥0) && decide (n<=2147483647))=true:=by simp; omega
  simp only[e1,aqI,aqD,if_pos h];obtain⟨m,rfl⟩:=Int.eq_ofNat_of_zero_le h.1;have hm:m<=2147483647:=by omega
  have hl:=dh 5 m (by omega);refine (t7 ?_ ?_ fuel m [] (by rw[Zt]; omega) hm (λ _=>by simp at hl ⊢; omega)).trans (by simp)
  ·intro rec k out hk ho;have:decide ((k:Int)>127)=false:=by simp; omega
   simp only[this,aqD,aqG,aqJ];rw[if_pos (by omega)]
  ·intro rec k out hk hkm ho;have:decide ((k:Int)>127)=true:=by simp; omega
   simp only[this,aqE,aqG,aqJ];rw[if_pos (by omega),show Int.tdiv (k:Int) 128=((k / 128:Nat):Int) from agv k 128,show Int.tmod (k:Int) 128=((k % 128:Nat):Int) from agz k 128,zg (by omega) (by omega),zg (by omega) (by omega)];rfl
 ·have e1:(decide (n≥0) && decide (n<=2147483647))=false:=by simp; omega
  simp only[e1,ar1,aqE,if_neg h]
end G448
namespace G448
open Ev Go
theorem Qf (n:Int):Y6 (n,())=some (zn n,()):=by
 unfold Y6 zn;simp only[Yl,aqC];by_cases h:0<=n/\n<=2147483647
 ·have e1:(decide (n≥0) && decide (n<=2147483647))=true:=by simp; omega
  simp only[e1,aqI,aqD,if_pos h];obtain⟨m,rfl⟩:=Int.eq_ofNat_of_zero_le h.1;have hm:m<=2147483647:=by omega
  have hl:=dh 5 m (by omega);refine (t7 ?_ ?_ fuel m [] (by rw[Zt]; omega) hm (λ _=>by simp at hl ⊢; omega)).trans (by simp)
  ·intro rec k out hk ho;have:decide ((k:Int)≥128)=false:=by simp; omega
   simp only[this,aqD,aqG,aqJ];rw[if_pos (by omega)]
  ·intro rec k out hk hk2 ho;have:decide ((k:Int)≥128)=true:=by simp; omega
   have e2:Int.tmod (k:Int) 128=((k % 128:Nat):Int):=by simp[Int.tmod]
   have e3:Int.tdiv (k:Int) 128=((k / 128:Nat):Int):=by simp[Int.tdiv]
   simp only[this,aqE,e2,e3,aqG,aqJ];rw[if_pos (by omega),zg (n:=((k % 128:Nat):Int)+128) (by omega) (by omega),zg (n:=((k / 128:Nat):Int)) (by omega) (by omega)];rfl
 ·have e1:(decide (n≥0) && decide (n<=2147483647))=false:=by simp; omega
  simp only[e1,ar1,aqE,if_neg h]
noncomputable def z8 (s:List UInt8):List UInt8:=zn (s.length:Int)++s
noncomputable def nums (l:List Int):List UInt8:=(l.map zn).flatten
theorem JK (s:List UInt8):(z8 s).length<=5+s.length:=by
 unfold z8;have:=jd (s.length:Int);rw[aqM]; omega
theorem JH:∀ l:List Int,(nums l).length<=5*l.length
 | []=>by simp[nums]
 | x::l=>by
  have h1:=jd x;have h2:=JH l;simp only[nums,aqZ,as7,aqM,aqG] at *;omega
theorem ns (s:List UInt8) (h:s.length<=137438953472):N8 (s,())=some (z8 s,()):=by
 unfold N8 z8;simp only[MP,aqC];have:=jd (s.length:Int);rw[if_pos (by omega)]
theorem gC (s:List UInt8) (h:s.length<=137438953472):Np (s,())=some (z8 s,()):=by
 unfold Np z8;simp only[Qf,aqC];have:=jd (s.length:Int);rw[if_pos (by omega)]
theorem BZ:∀ (l:List Int) (out:List UInt8),l.foldl (λ o x=>o++zn x) out=out++nums l
 | [],out=>by simp[nums]
 | x::l,out=>by rw[arA,BZ l]; simp[nums]
theorem rZ {put:Int×Unit->Option (List UInt8×Unit)} (hp:∀ n,put (n,())=some (zn n,())) (l:List Int) (hl:l.length<=137438953472) (out:List UInt8) (ho:out.length<=1000000000000)
  {G:(List UInt8×Int×Unit->Option (List UInt8×Unit))->List UInt8×Int×Unit->Option (List UInt8×Unit)}
  (hG:∀ rec o (i:Int),G rec (o,i,())=bif decide (i<(l.length:Int)) then (if 0<=i/\i<(l.length:Int) then (put (rd .i64 l i.toNat,())).bind λ r1=>
   if (o.length+r1.1.length)*1<=70368744177664 then rec (o++r1.1,wr (i+1),()) else none else none) else some (o,())):
  iter G fuel (out,0,())=some (out++nums l,()):=by
 have:=Mb (λ i (o:List UInt8)=>(o,i,())) l (λ o x=>o++zn x) (λ o=>some (o,())) (by omega) (λ i o=>o.length<=1000000000000+5*i) (G:=G) ?_ ?_ (s0:=out) (by omega)
 ·rw[this,BZ]
 ·intro rec o h; rw[hG]; simp
 ·intro rec i o x hx hi h;have hpl:=jd x;refine⟨by rw[aqM]; omega,?_⟩
  rw[hG];simp only[zv hi,aqH,aqE,aqS,if_true,aqN,zm (e:=.i64) hx,hp,aqC,zq (show i<4611686018427387904 by omega)];rw[if_pos (by omega)]
theorem vM (l:List Int) (hl:l.length<=137438953472):aV (l,())=some (nums l,()):=by
 unfold aV;exact (rZ (put:=Yb) MP l hl [] (by simp) (λ rec o i=>rfl)).trans (by simp)
theorem co (l:List Int) (hl:l.length<=137438953472):Mo (l,())=some (nums l,()):=by
 unfold Mo;exact (rZ (put:=Y6) Qf l hl [] (by simp) (λ rec o i=>rfl)).trans (by simp)
noncomputable def Kg (c:za) (q:zF):List UInt8:=
 bif zP c q then ((zn q.1++z8 q.2.1)++zn (q.2.2.length:Int))++nums q.2.2 else []
theorem LC (c:za) (q:zF):(Kg c q).length<=15+5*zj q:=by
 unfold Kg;cases zP c q
 ·simp
 ·have h1:=jd q.1;have h2:=JK q.2.1;have h3:=jd (q.2.2.length:Int);have h4:=JH q.2.2;simp only[aqE,aqM,zj,zu];omega
theorem vB (c:za) (q:zF) (hw:zj q<=137438953472):aE (c,q,())=some (Kg c q,()):=by
 have h1:q.2.1.length<=137438953472:=by simp only[zj] at hw; omega
 have h2:q.2.2.length<=137438953472:=by simp only[zj,zu] at hw; omega
 have l1:=jd q.1;have l2:=JK q.2.1;have l3:=jd (q.2.2.length:Int);unfold aE Kg;simp only[MQ c q hw,MP,ns _ h1,aqC];cases zP c q
 ·rfl
 simp only[aqI,aqD,aqE,aqM];rw[if_pos (by omega),if_pos (by omega)];exact rZ (put:=Yb) MP q.2.2 h2 _ (by simp only[aqM]; omega) (λ rec o i=>by simp only[MP,aqC])
theorem pL (c:za) (q:zF) (hw:zj q<=1073741824):Qg (c,q,())=some (Kg c q,()):=by
 have h1:q.2.1.length<=137438953472:=by simp only[zj] at hw; omega
 have h2:q.2.2.length<=137438953472:=by simp only[zj,zu] at hw; omega
 have l1:=jd q.1;have l2:=JK q.2.1;have l3:=jd (q.2.2.length:Int);have l4:=JH q.2.2;unfold Qg Kg;simp only[Mi c q hw,Qf,gC _ h1,co _ h2,aqC];cases zP c q
 ·rfl
 simp only[aqI,aqD,aqE,aqM];rw[if_pos (by omega),if_pos (by omega),if_pos (by omega)]
noncomputable def jx (c:za) (m:zo):List UInt8:=
 bif zR c m then (bif (m.1==1) then (zn m.1++z8 m.2.2.1.1)++Kg c m.2.2.1.2 else
  bif (m.1==2) then (((zn m.1++zn m.2.2.2.1.1)++z8 m.2.2.2.1.2.1)++zn (m.2.2.2.1.2.2.length:Int))++nums m.2.2.2.1.2.2 else
  bif (m.1==3) then (zn m.1++nums [m.2.1,m.2.2.2.2.2.1])++Kg c m.2.2.2.2.1 else
  zn m.1++nums [m.2.2.2.2.2.2.1,m.2.2.2.2.2.2.2.1,m.2.2.2.2.2.2.2.2.1,m.2.2.2.2.2.2.2.2.2]) else []
theorem kS (c:za) (m:zo):(jx c m).length<=60+5*zh m:=by
 unfold jx;have h0:=jd m.1;have h1:=JK m.2.2.1.1;have h2:=LC c m.2.2.1.2;have h3:=jd m.2.2.2.1.1;have h4:=JK m.2.2.2.1.2.1;have h5:=jd (m.2.2.2.1.2.2.length:Int);have h6:=JH m.2.2.2.1.2.2;have h7:=JH [m.2.1,m.2.2.2.2.2.1];have h8:=LC c m.2.2.2.2.1;have h9:=JH [m.2.2.2.2.2.2.1,m.2.2.2.2.2.2.2.1,m.2.2.2.2.2.2.2.2.1,m.2.2.2.2.2.2.2.2.2];simp only[aqG,aqJ] at h7 h9;cases zR c m
 ·simp
 cases (m.1==1)
 ·cases (m.1==2)
  ·cases (m.1==3)
   ·simp only[aqE,aqD,aqM]; omega
   ·simp only[aqE,aqD,aqM,zh]; omega
  ·simp only[aqE,aqD,aqM,zh,zp,zu]; omega
 ·simp only[aqE,aqM,zh,zA]; omega
theorem afM (c:za) (m:zo) (hw:zh m<=137438953472):nl (c,m,())=some (jx c m,()):=by
 have w1:m.2.2.1.1.length<=137438953472:=by simp only[zh,zA] at hw; omega
 have w2:zj m.2.2.1.2<=137438953472:=by simp only[zh,zA] at hw; omega
 have w3:m.2.2.2.1.2.1.length<=137438953472:=by simp only[zh,zp] at hw; omega
 have w4:m.2.2.2.1.2.2.length<=137438953472:=by simp only[zh,zp,zu] at hw; omega
 have w5:zj m.2.2.2.2.1<=137438953472:=by simp only[zh] at hw; omega
 have h0:=jd m.1;have h1:=JK m.2.2.1.1;have h2:=LC c m.2.2.1.2;have h3:=jd m.2.2.2.1.1;have h4:=JK m.2.2.2.1.2.1;have h5:=jd (m.2.2.2.1.2.2.length:Int);have h6:=JH m.2.2.2.1.2.2;have h7:=JH [m.2.1,m.2.2.2.2.2.1];have h8:=LC c m.2.2.2.2.1;have h9:=JH [m.2.2.2.2.2.2.1,m.2.2.2.2.2.2.2.1,m.2.2.2.2.2.2.2.2.1,m.2.2.2.2.2.2.2.2.2];simp only[aqG,aqJ] at h7 h9;unfold nl jx;simp only[aB c m hw,MP,ns _ w1,ns _ w3,vB c _ w2,vB c _ w5,vM _ w4,vM [m.2.1,m.2.2.2.2.2.1] (by simp),
  vM [m.2.2.2.2.2.2.1,m.2.2.2.2.2.2.2.1,m.2.2.2.2.2.2.2.2.1,m.2.2.2.2.2.2.2.2.2] (by simp),Option.bind_some,List.length_append]
 cases zR c m
 ·rfl
 cases (m.1==1)
 ·cases (m.1==2)
  ·cases (m.1==3)
   ·simp only[aqI,aqE,aqD]; rw[if_pos (by omega)]
   ·simp only[aqI,aqE,aqD]; rw[if_pos (by omega),if_pos (by omega)]
  ·simp only[aqI,aqE,aqD]; rw[if_pos (by omega),if_pos (by omega),if_pos (by omega),if_pos (by omega)]
 ·simp only[aqI,aqE,aqD]; rw[if_pos (by omega),if_pos (by omega)]
theorem Av (c:za) (m:zo) (hw:zh m<=1073741824):bS (c,m,())=some (jx c m,()):=by
 have w1:m.2.2.1.1.length<=137438953472:=by simp only[zh,zA] at hw; omega
 have w2:zj m.2.2.1.2<=1073741824:=by simp only[zh,zA] at hw; omega
 have w3:m.2.2.2.1.2.1.length<=137438953472:=by simp only[zh,zp] at hw; omega
 have w4:m.2.2.2.1.2.2.length<=137438953472:=by simp only[zh,zp,zu] at hw; omega
 have w5:zj m.2.2.2.2.1<=1073741824:=by simp only[zh] at hw; omega
 have h0:=jd m.1;have h1:=JK m.2.2.1.1;have h2:=LC c m.2.2.1.2;have h3:=jd m.2.2.2.1.1;have h4:=JK m.2.2.2.1.2.1;have h5:=jd (m.2.2.2.1.2.2.length:Int);have h6:=JH m.2.2.2.1.2.2;have h7:=JH [m.2.1,m.2.2.2.2.2.1];have h8:=LC c m.2.2.2.2.1;have h9:=JH [m.2.2.2.2.2.2.1,m.2.2.2.2.2.2.2.1,m.2.2.2.2.2.2.2.2.1,m.2.2.2.2.2.2.2.2.2];simp only[aqG,aqJ] at h7 h9;unfold bS jx;simp only[bU c m hw,Qf,gC _ w1,gC _ w3,pL c _ w2,pL c _ w5,co _ w4,co [m.2.1,m.2.2.2.2.2.1] (by simp),
  co [m.2.2.2.2.2.2.1,m.2.2.2.2.2.2.2.1,m.2.2.2.2.2.2.2.2.1,m.2.2.2.2.2.2.2.2.2] (by simp),Option.bind_some,List.length_append]
 cases zR c m
 ·rfl
 cases (m.1==1)
 ·cases (m.1==2)
  ·cases (m.1==3)
   ·simp only[aqI,aqE,aqD]; rw[if_pos (by omega)]
   ·simp only[aqI,aqE,aqD]; rw[if_pos (by omega),if_pos (by omega)]
  ·simp only[aqI,aqE,aqD]; rw[if_pos (by omega),if_pos (by omega),if_pos (by omega),if_pos (by omega)]
 ·simp only[aqI,aqE,aqD]; rw[if_pos (by omega),if_pos (by omega)]
theorem G2 (b k:Nat) (hb:b<128) (hk:k<=4):shl (b:Int) (7*(k:Int))=((b*128 ^ k:Nat):Int):=by
 unfold shl;have e:min (7*(k:Int)).toNat 64=7*k:=by omega
 rw[e];have e2:(2:Int) ^ (7*k)=((128 ^ k:Nat):Int):=by
  rw[Int.pow_mul];simp
 rw[e2,←Int.natCast_mul];have:b*128 ^ k<=127*128 ^ 4:=Nat.mul_le_mul (by omega) (Nat.pow_le_pow_right (by decide) hk);exact zg (by omega) (by omega)
theorem UX (v b k:Nat) (hv:v<128 ^ k) (hb:b<128) (hk:k<=4):bor (v:Int) ((b*128 ^ k:Nat):Int)=((v+b*128 ^ k:Nat):Int):=by
 have h4:128 ^ k<=128 ^ 4:=Nat.pow_le_pow_right (by decide) hk;have hbk:b*128 ^ k<=127*128 ^ 4:=Nat.mul_le_mul (by omega) h4;unfold bor;have e1:(BitVec.ofInt 64 (v:Int)).toNat=v:=by
  rw[BitVec.toNat_ofInt]; omega
 have e2:(BitVec.ofInt 64 ((b*128 ^ k:Nat):Int)).toNat=b*128 ^ k:=by
  rw[BitVec.toNat_ofInt]; omega
 rw[BitVec.toNat_or,e1,e2];have e3:v ||| b*128 ^ k=v+b*128 ^ k:=by
  have:=Nat.two_pow_add_eq_or_of_lt (i:=7*k) (b:=v) (by rw[Nat.pow_mul]; exact hv) b
  rw[Nat.pow_mul,Nat.mul_comm] at this;rw[Nat.or_comm,←this,Nat.add_comm]
 rw[e3];exact zg (by omega) (by omega)
def Za:List UInt8->Nat->Nat->Nat->Option (Nat×Nat)
 | [],_,_,_=>none
 | b::l,v,k,0=>none
 | b::l,v,k,n+1=>if b.toNat<128 then (if (k>0/\b.toNat=0)∨v+b.toNat*128 ^ k>2147483647 then none else some (v+b.toNat*128 ^ k,k+1)) else Za l (v+(b.toNat % 128)*128 ^ k) (k+1) n
def zi (s:List UInt8) (at_:Int):Int×Int×Bool:=
 if at_<0 then (0,0,false) else match Za (s.drop at_.toNat) 0 0 5 with
  | some p=>((p.1:Int),at_+(p.2:Int),true)
  | none=>(0,0,false)
theorem EQ:∀ (k n:Nat),n<128 ^ (k+1)->((j6 n).length=k+1↔(k=0∨128 ^ k<=n))
 | 0,n,h=>by
  rw[LA (by simp at h; omega)]; simp
 | k+1,n,h=>by
  by_cases hn:n>127
  ·rw[Mx hn,aqG];have h2:n / 128<128 ^ (k+1):=by rw[arC] at h; omega
   have ih:=EQ k (n / 128) h2;have hp:128 ^ (k+1)=128 ^ k*128:=Nat.pow_succ ..;constructor
   ·intro hl;right;rcases ih.1 (by omega) with rfl|h3
    ·simp; omega
    ·omega
   ·intro hl;have h3:128 ^ (k+1)<=n:=by omega
    have:(j6 (n / 128)).length=k+1:=ih.2 (by
     cases k with
     | zero=>left; rfl
     | succ k=>right; omega)
    omega
  ·rw[LA hn];have:128 ^ (k+1)>127:=by
    have:128 ^ 1<=128 ^ (k+1):=Nat.pow_le_pow_right (by decide) (by omega);omega
   simp;omega
theorem bI (v k n:Nat):Za [] v k n=none:=by cases n<;>rfl
theorem tX {k:Nat} (h:k<=4):128 ^ k<=268435456:=by
 have:128 ^ k<=128 ^ 4:=Nat.pow_le_pow_right (by decide) h;omega
theorem vy (s:List UInt8) (at_:Int) (hs:s.length<=137438953472):aw (s,at_,())=some ((zi s at_).1,(zi s at_).2.1,(zi s at_).2.2,()):=by
 unfold aw zi;dsimp only;by_cases ha:at_<0
 ·rw[if_pos ha];refine (walk 5 (λ i (v:Nat)=>((v:Int),i,())) (λ i v=>True) (λ i v=>some (0,0,false,())) (by decide) ?_ ?_ (s0:=0) trivial).trans rfl
  ·intro rec v _; simp
  ·intro rec i v hi _;left;simp[ha,show (i:Int)<5 by omega]
 rw[if_neg ha];obtain⟨a,rfl⟩:∃ a:Nat,at_=(a:Int):=⟨at_.toNat,by omega⟩
 simp only[aqN,ha,aqL,aqD];refine (walk 5 (λ i (v:Nat)=>((v:Int),i,())) (λ i v=>v<128 ^ i) (λ i v=>match Za (s.drop (a+i)) v i (5 - i) with|some p=>some ((p.1:Int),(a:Int)+(p.2:Int),true,())|none=>some (0,0,false,())) (by decide) ?_ ?_ (s0:=0) (by decide)).trans ?_
 ·intro rec v hv;have:Za (s.drop (a+5)) v 5 0=none:=by cases s.drop (a+5)<;>rfl
  simp[this]
 ·intro rec i v hi hv;have hp:=tX (k:=i) (by omega);have e1:wr ((s.length:Int) - (i:Int))=(s.length:Int) - (i:Int):=zg (by omega) (by omega);have e5:((i:Int)<5):=by omega
  simp only[e5,aqH,aqE,e1];by_cases hlt:a+i<s.length
  ·have h1:¬ ((a:Int)≥(s.length:Int) - (i:Int)):=by omega
   have e2:wr ((a:Int)+(i:Int))=((a+i:Nat):Int):=by rw[zg (by omega) (by omega)]; omega
   have e3:wr (7*(i:Int))=7*(i:Int):=zg (by omega) (by omega);have hx:s[a+i]?=some s[a+i]:=List.getElem?_eq_getElem hlt;simp only[h1,aqL,aqD,e2,e3,aqN,zm (e:=.u8) hx];rw[if_pos (by omega),if_neg (by omega),aqX hlt,show 5 - i=(5 - (i+1))+1 by omega];simp only[Za];have e4:Int.tmod (((s[a+i].toNat:Nat):Int)) 128=((s[a+i].toNat % 128:Nat):Int):=by simp[Int.tmod]
   rw[e4,G2 _ i (Nat.mod_lt _ (by decide)) (by omega),UX v _ i hv (Nat.mod_lt _ (by decide)) (by omega)];by_cases hb:s[a+i].toNat<128
   ·left;have hm:s[a+i].toNat % 128=s[a+i].toNat:=Nat.mod_eq_of_lt hb;have hb':(((s[a+i].toNat:Nat):Int)<128):=by omega
    simp only[hb',aqH,aqE,hm,hb,if_true];have hbk:s[a+i].toNat*128 ^ i<=127*268435456:=Nat.mul_le_mul (by omega) hp;have e6:wr (((a+i:Nat):Int)+1)=(a:Int)+((i+1:Nat):Int):=by rw[zg (by omega) (by omega)]; omega
    by_cases hz:i>0
    ·have hz':((i:Int)>0):=by omega
     simp only[hz',aqH,aqE];by_cases h0:s[a+i].toNat=0
     ·have:(((s[a+i].toNat:Nat):Int)==0)=true:=by simp[h0]
      rw[this,if_pos (.inl ⟨hz,h0⟩)]; rfl
     ·have:(((s[a+i].toNat:Nat):Int)==0)=false:=by rw[beq_eq_false_iff_ne]; omega
      rw[this];by_cases ahy:v+s[a+i].toNat*128 ^ i>2147483647
      ·rw[if_pos (.inr ahy)];simp only[cond_false,show (((v+s[a+i].toNat*128 ^ i:Nat):Int)>2147483647) by omega,decide_true,cond_true]
      ·rw[if_neg (by intro h; rcases h with h|h; exact h0 h.2; exact ahy h)]
       simp only[cond_false,show ¬ (((v+s[a+i].toNat*128 ^ i:Nat):Int)>2147483647) by omega,decide_false,e6]
    ·have hz':¬ ((i:Int)>0):=by omega
     simp only[hz',aqL,aqD];by_cases ahy:v+s[a+i].toNat*128 ^ i>2147483647
     ·rw[if_pos (.inr ahy)];simp only[show (((v+s[a+i].toNat*128 ^ i:Nat):Int)>2147483647) by omega,decide_true,cond_true]
     ·rw[if_neg (by intro h; rcases h with h|h; exact hz h.1; exact ahy h)]
      simp only[show ¬ (((v+s[a+i].toNat*128 ^ i:Nat):Int)>2147483647) by omega,decide_false,cond_false,e6]
   ·right;have hb':¬ (((s[a+i].toNat:Nat):Int)<128):=by omega
    refine⟨v+s[a+i].toNat % 128*128 ^ i,?_,?_,?_⟩
    ·rw[arC];have:s[a+i].toNat % 128*128 ^ i<=127*128 ^ i:=Nat.mul_le_mul (by omega) (Nat.le_refl _);omega
    ·simp only[hb',aqL,aqD,zq (show i<4611686018427387904 by omega)]
    ·simp only[hb,if_false];rw[show a+(i+1)=a+i+1 by omega]
  ·left;have h1:((a:Int)≥(s.length:Int) - (i:Int)):=by omega
   rw[as4 (by omega),bI];simp only[h1,aqH,aqE]
 ·simp only[arx,arK];cases Za (s.drop a) 0 0 5<;>rfl
theorem ER (v b i:Nat) (hv:v<128 ^ i) (hb:b<128) (hi:i<=4):(zn ((v+b*128 ^ i:Nat):Int)).length=i+1↔¬ ((i>0/\b=0)∨v+b*128 ^ i>2147483647):=by
 have hp:=tX hi;have hlt:v+b*128 ^ i<128 ^ (i+1):=by
  rw[arC];have:b*128 ^ i<=127*128 ^ i:=Nat.mul_le_mul (by omega) (Nat.le_refl _);omega
 unfold zn;by_cases ahy:v+b*128 ^ i>2147483647
 ·rw[if_neg (by omega)];simp[ahy]
 ·rw[if_pos (by omega),aqN,EQ i _ hlt];cases i with
  | zero=>simp; omega
  | succ i=>
   constructor
   ·rintro (h|h) (h'|h')
    ·omega
    ·omega
    ·rw[h'.2] at h; omega
    ·omega
   ·intro h;right;have h0:b≠0:=λ e=>h (.inl ⟨by omega,e⟩);have:1*128 ^ (i+1)<=b*128 ^ (i+1):=Nat.mul_le_mul (by omega) (Nat.le_refl _);omega
theorem Ar (s:List UInt8) (at_:Int) (hs:s.length<=137438953472):bN (s,at_,())=some ((zi s at_).1,(zi s at_).2.1,(zi s at_).2.2,()):=by
 unfold bN zi;have e0:wr ((s.length:Int) - 1)=(s.length:Int) - 1:=zg (by omega) (by omega);simp only[Yl,aqC,e0];by_cases ha:at_<0
 ·rw[if_pos ha];have:(decide (at_≥0) && decide (at_<=(s.length:Int) - 1))=false:=by simp; omega
  rw[this]; rfl
 rw[if_neg ha];obtain⟨a,rfl⟩:∃ a:Nat,at_=(a:Int):=⟨at_.toNat,by omega⟩
 simp only[aqN];by_cases hal:a<s.length
 ·have:(decide ((a:Int)≥0) && decide ((a:Int)<=(s.length:Int) - 1))=true:=by simp; omega
  simp only[this,aqI,aqD];refine (walk 5 (λ i (v:Nat)=>((v:Int),i,())) (λ i v=>v<128 ^ i) (λ i v=>match Za (s.drop (a+i)) v i (5 - i) with|some p=>some ((p.1:Int),(a:Int)+(p.2:Int),true,())|none=>some (0,0,false,())) (by decide) ?_ ?_ (s0:=0) (by decide)).trans ?_
  ·intro rec v hv;have:Za (s.drop (a+5)) v 5 0=none:=by cases s.drop (a+5)<;>rfl
   simp[this]
  ·intro rec i v hi hv;have hp:=tX (k:=i) (by omega);have e5:((i:Int)<5):=by omega
   have e2:wr ((a:Int)+(i:Int))=((a+i:Nat):Int):=by rw[zg (by omega) (by omega)]; omega
   simp only[e5,aqH,aqE,e2];by_cases hlt:a+i<s.length
   ·have h1:(((a+i:Nat):Int)<(s.length:Int)):=by omega
    have e3:wr (7*(i:Int))=7*(i:Int):=zg (by omega) (by omega);have hx:s[a+i]?=some s[a+i]:=List.getElem?_eq_getElem hlt;simp only[h1,aqH,aqE,e3,aqN,zm (e:=.u8) hx];rw[if_pos ⟨by omega,trivial⟩,if_neg (by omega),aqX hlt,show 5 - i=(5 - (i+1))+1 by omega];simp only[Za];have e4:Int.tmod (((s[a+i].toNat:Nat):Int)) 128=((s[a+i].toNat % 128:Nat):Int):=by simp[Int.tmod]
    have hmb:s[a+i].toNat % 128*128 ^ i<=127*268435456:=Nat.mul_le_mul (by omega) hp;have e7:wr ((v:Int)+((s[a+i].toNat % 128*128 ^ i:Nat):Int))=((v+s[a+i].toNat % 128*128 ^ i:Nat):Int):=by rw[zg (by omega) (by omega)]; omega
    rw[e4,G2 _ i (Nat.mod_lt _ (by decide)) (by omega),e7];by_cases hb:s[a+i].toNat<128
    ·left;have hm:s[a+i].toNat % 128=s[a+i].toNat:=Nat.mod_eq_of_lt hb;have hb':(((s[a+i].toNat:Nat):Int)<128):=by omega
     have e6:wr (((a+i:Nat):Int)+1)=(a:Int)+((i+1:Nat):Int):=by rw[zg (by omega) (by omega)]; omega
     have e8:wr ((i:Int)+1)=((i+1:Nat):Int):=by rw[zg (by omega) (by omega)]; omega
     simp only[hb',aqH,aqE,hm,hb,if_true,Qf,aqC,e8,e6];by_cases hg:(zn ((v+s[a+i].toNat*128 ^ i:Nat):Int)).length=i+1
     ·rw[if_neg ((ER v _ i hv hb (by omega)).1 hg)];have:(((zn ((v+s[a+i].toNat*128 ^ i:Nat):Int)).length:Int) != ((i+1:Nat):Int))=false:=by rw[hg]; simp
      rw[this]; rfl
     ·rw[if_pos (Classical.not_not.1 (λ h=>hg ((ER v _ i hv hb (by omega)).2 h)))];have:(((zn ((v+s[a+i].toNat*128 ^ i:Nat):Int)).length:Int) != ((i+1:Nat):Int))=true:=by rw[bne_iff_ne]; omega
      rw[this]; rfl
    ·right;have hb':¬ (((s[a+i].toNat:Nat):Int)<128):=by omega
     refine⟨v+s[a+i].toNat % 128*128 ^ i,?_,?_,?_⟩
     ·rw[arC];have:s[a+i].toNat % 128*128 ^ i<=127*128 ^ i:=Nat.mul_le_mul (by omega) (Nat.le_refl _);omega
     ·simp only[hb',aqL,aqD,zq (show i<4611686018427387904 by omega)]
     ·simp only[hb,if_false];rw[show a+(i+1)=a+i+1 by omega]
   ·left;have h1:¬ (((a+i:Nat):Int)<(s.length:Int)):=by omega
    rw[as4 (by omega),bI];simp only[h1,aqL,aqD]
  ·simp only[arx,arK];cases Za (s.drop a) 0 0 5<;>rfl
 ·have:(decide ((a:Int)≥0) && decide ((a:Int)<=(s.length:Int) - 1))=false:=by simp; omega
  rw[this,as4 (by omega),bI]; rfl
abbrev zX:=Int×Bool
def zk (s:List UInt8) (r:zX):zX×Int:=
 if (zi s r.1).2.2=true/\r.2=true then (((zi s r.1).2.1,true),(zi s r.1).1) else ((r.1,false),0)
def zw (s:List UInt8) (at_:Int):List UInt8×Int×Bool:=
 if (zi s at_).2.2=true/\(zi s at_).1<=(s.length:Int) - (zi s at_).2.1 then
  ((s.drop (zi s at_).2.1.toNat).take (zi s at_).1.toNat,(zi s at_).2.1+(zi s at_).1,true) else ([],0,false)
def yf (s:List UInt8) (r:zX):zX×List UInt8:=
 if (zw s r.1).2.2=true/\r.2=true then (((zw s r.1).2.1,true),(zw s r.1).1) else ((r.1,false),[])
theorem Ac:∀ (l:List UInt8) (v k n:Nat) {p:Nat×Nat},Za l v k n=some p->p.1<=2147483647/\k+1<=p.2/\p.2<=k+l.length
 | [],v,k,n,p,h=>by rw[bI] at h; cases h
 | b::l,v,k,0,p,h=>by cases h
 | b::l,v,k,n+1,p,h=>by
  simp only[Za] at h;split at h
  ·split at h
   ·cases h
   ·next hc=>
    cases h;simp only[aqG];have:¬ v+b.toNat*128 ^ k>2147483647:=λ hh=>hc (.inr hh);omega
  ·have:=Ac l _ _ n h;simp only[aqG];omega
theorem KB (s:List UInt8) (at_:Int) (h:(zi s at_).2.2=true):0<=at_/\0<=(zi s at_).1/\(zi s at_).1<=2147483647/\at_+1<=(zi s at_).2.1/\(zi s at_).2.1<=(s.length:Int):=by
 unfold zi at h ⊢;split at h
 ·simp at h
 ·next ha=>
  rw[if_neg ha];cases hg:Za (s.drop at_.toNat) 0 0 5 with
  | none=>rw[hg] at h; simp at h
  | some p=>
   have:=Ac _ _ _ _ hg;simp only[ar2] at this ⊢;omega
theorem aS (s:List UInt8) (r:zX) (hs:s.length<=137438953472):Yc ((s,r),())=some ((s,(zk s r).1),(zk s r).2,()):=by
 unfold Yc zk;simp only[vy s r.1 hs,aqC];cases hg:(zi s r.1).2.2<;>cases hr:r.2<;>simp
theorem NA (s:List UInt8) (r:zX) (hs:s.length<=137438953472):ZE ((s,(r.1,!r.2)),())=some ((s,((zk s r).1.1,!(zk s r).1.2)),(zk s r).2,()):=by
 unfold ZE zk;simp only[Ar s r.1 hs,aqC];cases hg:(zi s r.1).2.2<;>cases hr:r.2<;>simp
theorem v7 (s:List UInt8) (n at_:Int) (h1:0<=n) (h2:0<=at_):List.take ((at_+n).toNat - at_.toNat) (List.drop at_.toNat s)=(s.drop at_.toNat).take n.toNat:=by
 congr 1; omega
theorem afD (s:List UInt8) (at_:Int) (hs:s.length<=137438953472):ne (s,at_,())=some ((zw s at_).1,(zw s at_).2.1,(zw s at_).2.2,()):=by
 unfold ne zw;simp only[vy s at_ hs,aqC];cases hg:(zi s at_).2.2
 ·simp
 ·obtain⟨h0,h1,h2,h3,h4⟩:=KB s at_ hg;have e1:wr ((s.length:Int) - (zi s at_).2.1)=(s.length:Int) - (zi s at_).2.1:=zg (by omega) (by omega);have e2:wr ((zi s at_).2.1+(zi s at_).1)=(zi s at_).2.1+(zi s at_).1:=zg (by omega) (by omega);simp only[e1,e2,aqI,aqD];by_cases hc:(zi s at_).1<=(s.length:Int) - (zi s at_).2.1
  ·rw[if_pos (show True/\(zi s at_).1<=(s.length:Int) - (zi s at_).2.1 from⟨trivial,hc⟩)];simp only[show ¬ (zi s at_).1>(s.length:Int) - (zi s at_).2.1 by omega,aqL,aqD];rw[if_pos (by omega),v7 _ _ _ h1 (by omega)]
  ·rw[if_neg (show ¬ (True/\(zi s at_).1<=(s.length:Int) - (zi s at_).2.1) from λ h=>hc h.2)];simp only[show (zi s at_).1>(s.length:Int) - (zi s at_).2.1 by omega,aqH,aqE]
theorem As (s:List UInt8) (at_:Int) (hs:s.length<=137438953472):bO (s,at_,())=some ((zw s at_).1,(zw s at_).2.1,(zw s at_).2.2,()):=by
 unfold bO zw;simp only[Ar s at_ hs,aqC];cases hg:(zi s at_).2.2
 ·simp
 ·obtain⟨h0,h1,h2,h3,h4⟩:=KB s at_ hg;have e1:wr ((s.length:Int) - (zi s at_).2.1)=(s.length:Int) - (zi s at_).2.1:=zg (by omega) (by omega);have e2:wr ((zi s at_).2.1+(zi s at_).1)=(zi s at_).2.1+(zi s at_).1:=zg (by omega) (by omega);simp only[e1,e2,aqI,aqD];by_cases hc:(zi s at_).1<=(s.length:Int) - (zi s at_).2.1
  ·rw[if_pos (show True/\(zi s at_).1<=(s.length:Int) - (zi s at_).2.1 from⟨trivial,hc⟩)];simp only[show ¬ (zi s at_).1>(s.length:Int) - (zi s at_).2.1 by omega,aqL,aqD];rw[if_pos (by omega),v7 _ _ _ h1 (by omega)]
  ·rw[if_neg (show ¬ (True/\(zi s at_).1<=(s.length:Int) - (zi s at_).2.1) from λ h=>hc h.2)];simp only[show (zi s at_).1>(s.length:Int) - (zi s at_).2.1 by omega,aqH,aqE]
theorem vL (s:List UInt8) (r:zX) (hs:s.length<=137438953472):qh ((s,r),())=some ((s,(yf s r).1),(yf s r).2,()):=by
 unfold qh yf;simp only[afD s r.1 hs,aqC];cases hg:(zw s r.1).2.2<;>cases hr:r.2<;>simp
theorem pS (s:List UInt8) (r:zX) (hs:s.length<=137438953472):NB ((s,(r.1,!r.2)),())=some ((s,((yf s r).1.1,!(yf s r).1.2)),(yf s r).2,()):=by
 unfold NB yf;simp only[As s r.1 hs,aqC];cases hg:(zw s r.1).2.2<;>cases hr:r.2<;>simp
def yP (s:List UInt8):Nat->zX->List Int->zX×List Int
 | 0,r,out=>(r,out)
 | n+1,r,out=>if r.2=true then yP s n (zk s r).1 (out++[(zk s r).2]) else (r,out)
def jA (s:List UInt8) (r:zX):zX×List Int:=yP s (zk s r).2.toNat (zk s r).1 []
theorem ua (s:List UInt8) (r:zX):0<=(zk s r).2/\(zk s r).2<=2147483647:=by
 unfold zk;split
 ·next h=>have:=KB s r.1 h.1; simp only; omega
 ·simp
theorem IE (s:List UInt8) (r:zX) (hs:s.length<=137438953472):er ((s,r),())=some ((s,(jA s r).1),(jA s r).2,()):=by
 obtain⟨b1,b2⟩:=ua s r;unfold er jA;dsimp only;rw[aS s r hs,aqC];dsimp only;generalize hn:(zk s r).2=n at *;obtain⟨n,rfl⟩:∃ m:Nat,n=(m:Int):=⟨n.toNat,by omega⟩
 simp only[aqN];refine (walk n (λ i (t:List Int×zX)=>(t.1,i,(s,t.2),())) (λ i t=>t.1.length<=i) (λ i t=>some ((s,(yP s (n - i) t.2 t.1).1),(yP s (n - i) t.2 t.1).2,())) (by omega) ?_ ?_ (s0:=([],(zk s r).1)) (by simp)).trans (by simp)
 ·intro rec t ht;simp[yP]
 ·intro rec i t hi ht;rw[show n - i=(n - (i+1))+1 by omega];simp only[yP,show ((i:Int)<(n:Int)) by omega,aqH,aqE];cases hr:t.2.2
  ·left;simp
  ·right;refine⟨(t.1++[(zk s t.2).2],(zk s t.2).1),by simp; omega,?_,by simp⟩
   simp only[aqE];simp only[aS s t.2 hs,aqC,aqG,aqJ,zq (show i<4611686018427387904 by omega)];rw[if_pos (by omega)]
theorem AO (s:List UInt8) (r:zX) (hs:s.length<=137438953472):cp ((s,(r.1,!r.2)),())=some ((s,((jA s r).1.1,!(jA s r).1.2)),(jA s r).2,()):=by
 obtain⟨b1,b2⟩:=ua s r;unfold cp jA;dsimp only;rw[NA s r hs,aqC];dsimp only;generalize hn:(zk s r).2=n at *;obtain⟨n,rfl⟩:∃ m:Nat,n=(m:Int):=⟨n.toNat,by omega⟩
 simp only[aqN];refine (walk n (λ i (t:List Int×zX)=>(t.1,i,(s,(t.2.1,!t.2.2)),())) (λ i t=>t.1.length<=i) (λ i t=>some ((s,((yP s (n - i) t.2 t.1).1.1,!(yP s (n - i) t.2 t.1).1.2)),(yP s (n - i) t.2 t.1).2,())) (by omega) ?_ ?_ (s0:=([],(zk s r).1)) (by simp)).trans (by simp)
 ·intro rec t ht;simp[yP]
 ·intro rec i t hi ht;rw[show n - i=(n - (i+1))+1 by omega];simp only[yP,show ((i:Int)<(n:Int)) by omega,aqH,aqE];have amf:=NA s t.2 hs;cases hr:t.2.2
  ·left;simp[hr]
  ·right;rw[hr] at amf;refine⟨(t.1++[(zk s t.2).2],(zk s t.2).1),by simp; omega,?_,by simp⟩
   simp only[aqI,ar1,aqE] at amf ⊢;rw[amf,aqC];simp only[aqG,aqJ,zq (show i<4611686018427387904 by omega)];rw[if_pos (by omega)]
def yL (s:List UInt8) (r:zX):zX×zF:=
 ((jA s (yf s (zk s r).1).1).1,((zk s r).2,(yf s (zk s r).1).2,(jA s (yf s (zk s r).1).1).2))
theorem ID (s:List UInt8) (r:zX) (hs:s.length<=137438953472):aU ((s,r),())=some ((s,(yL s r).1),(yL s r).2,()):=by
 unfold aU;dsimp only;rw[aS s r hs,aqC];dsimp only;rw[vL s _ hs,aqC];dsimp only;rw[IE s _ hs,aqC];rfl
theorem AP (s:List UInt8) (r:zX) (hs:s.length<=137438953472):Qt ((s,(r.1,!r.2)),())=some ((s,((yL s r).1.1,!(yL s r).1.2)),(yL s r).2,()):=by
 unfold Qt;dsimp only;rw[NA s r hs,aqC];dsimp only;rw[pS s _ hs,aqC];dsimp only;rw[AO s _ hs,aqC];rfl
theorem Jb {s:List UInt8} {r:zX} (h:(zk s r).1.2=true):r.2=true/\0<=r.1/\r.1+1<=(zk s r).1.1/\(zk s r).1.1<=(s.length:Int):=by
 unfold zk at h ⊢;split at h
 ·next hc=>
  rw[if_pos hc];have:=KB s r.1 hc.1;exact⟨hc.2,this.1,this.2.2.2.1,this.2.2.2.2⟩
 ·simp at h
theorem Mz {s:List UInt8} {r:zX} (h:(yf s r).1.2=true):r.2=true/\0<=r.1/\r.1+1+((yf s r).2.length:Int)<=(yf s r).1.1/\(yf s r).1.1<=(s.length:Int):=by
 unfold yf at h ⊢;split at h
 ·next hc=>
  rw[if_pos hc];obtain⟨h1,h2⟩:=hc;refine⟨h2,?_⟩;unfold zw at h1 ⊢;split at h1
  ·next hg=>
   rw[if_pos hg];have:=KB s r.1 hg.1;simp only[aqV,ar2];omega
  ·simp at h1
 ·simp at h
theorem Ok (s:List UInt8):∀ (n:Nat) (r:zX) (out:List Int),(yP s n r out).1.2=true->r.2=true/\r.1+((yP s n r out).2.length:Int)<=(yP s n r out).1.1+(out.length:Int)/\out.length<=(yP s n r out).2.length/\
  ((yP s n r out).1.1<=(s.length:Int)∨yP s n r out=(r,out))
 | 0,r,out,h=>⟨h,by simp[yP],by simp[yP],.inr rfl⟩
 | n+1,r,out,h=>by
  simp only[yP] at h ⊢;split at h
  ·next hr=>
   rw[if_pos hr];obtain⟨h1,h2,h3,h4⟩:=Ok s n _ _ h;obtain⟨g1,g2,g3,g4⟩:=Jb h1;simp only[aqM,aqG,aqJ] at h2 h3;refine⟨hr,by omega,by omega,.inl ?_⟩;rcases h4 with h4|h4
   ·exact h4
   ·rw[h4]; exact g4
  ·next hr=>exact absurd h hr
theorem l6 {s:List UInt8} {r:zX} (h:(jA s r).1.2=true):r.2=true/\0<=r.1/\r.1+1+((jA s r).2.length:Int)<=(jA s r).1.1/\(jA s r).1.1<=(s.length:Int):=by
 unfold jA at h ⊢;obtain⟨h1,h2,h3,h4⟩:=Ok s _ _ _ h;obtain⟨g1,g2,g3,g4⟩:=Jb h1;simp only[aqJ] at h2;refine⟨g1,g2,by omega,?_⟩;rcases h4 with h4|h4
 ·exact h4
 ·rw[h4]; exact g4
theorem dq {s:List UInt8} {r:zX} (h:(yL s r).1.2=true):r.2=true/\0<=r.1/\r.1+(zj (yL s r).2:Int)<=(yL s r).1.1/\(yL s r).1.1<=(s.length:Int):=by
 unfold yL at h ⊢;obtain⟨a1,a2,a3,a4⟩:=l6 h;obtain⟨b1,b2,b3,b4⟩:=Mz a1;obtain⟨c1,c2,c3,c4⟩:=Jb b1;simp only[zj,zu];exact⟨c1,c2,by omega,a4⟩
def LU:zo:=(0,0,([],0,[],[]),(0,[],[]),(0,[],[]),0,(0,0,0,0))
noncomputable def Zs (c:za) (s:List UInt8) (r:zX) (m:zo):zo×Bool:=bif r.2 && (r.1==(s.length:Int) && zR c m) then (m,true) else (LU,false)
theorem eo (c:za) (s:List UInt8) (r:zX) (m:zo) (hw:r.2=true->r.1=(s.length:Int)->zh m<=1073741824):
  (bif !r.2 then some (LU,false,()) else bif (r.1 != (s.length:Int)) then some (LU,false,()) else (YV (c,m,())).bind λ r3=>bif !r3.1 then some (LU,false,()) else some (m,true,()))=some ((Zs c s r m).1,(Zs c s r m).2,()):=by
 unfold Zs;cases hr:r.2
 ·rfl
 ·by_cases hl:r.1=(s.length:Int)
  ·have e:(r.1 != (s.length:Int))=false:=by simp[hl]
   have e':(r.1==(s.length:Int))=true:=by simp[hl]
   rw[e,e',aB c m (by have:=hw hr hl; omega)]
   cases h:zR c m<;>simp[h]
  ·have e:(r.1 != (s.length:Int))=true:=by simp[hl]
   have e':(r.1==(s.length:Int))=false:=by simp[hl]
   rw[e,e']; rfl
theorem cn (c:za) (s:List UInt8) (r:zX) (m:zo) (hw:r.2=true->r.1=(s.length:Int)->zh m<=1073741824):
  (bif !r.2 then some (LU,false,()) else bif (r.1 != (s.length:Int)) then some (LU,false,()) else (Y5 (c,m,())).bind λ r3=>bif !r3.1 then some (LU,false,()) else some (m,true,()))=some ((Zs c s r m).1,(Zs c s r m).2,()):=by
 unfold Zs;cases hr:r.2
 ·rfl
 ·by_cases hl:r.1=(s.length:Int)
  ·have e:(r.1 != (s.length:Int))=false:=by simp[hl]
   have e':(r.1==(s.length:Int))=true:=by simp[hl]
   rw[e,e',bU c m (hw hr hl)];cases h:zR c m<;>simp[h]
  ·have e:(r.1 != (s.length:Int))=true:=by simp[hl]
   have e':(r.1==(s.length:Int))=false:=by simp[hl]
   rw[e,e']; rfl
noncomputable def jr (c:za) (s:List UInt8):zo×Bool:=
 let a:=zk s (0,true)
 bif (a.2==1) then Zs c s (yL s (yf s a.1).1).1 (a.2,0,((yf s a.1).2,(yL s (yf s a.1).1).2),(0,[],[]),(0,[],[]),0,(0,0,0,0)) else
 bif (a.2==2) then Zs c s (jA s (yf s (zk s a.1).1).1).1 (a.2,0,([],0,[],[]),((zk s a.1).2,(yf s (zk s a.1).1).2,(jA s (yf s (zk s a.1).1).1).2),(0,[],[]),0,(0,0,0,0)) else
 bif (a.2==3) then Zs c s (yL s (zk s (zk s a.1).1).1).1 (a.2,(zk s a.1).2,([],0,[],[]),(0,[],[]),(yL s (zk s (zk s a.1).1).1).2,(zk s (zk s a.1).1).2,(0,0,0,0)) else
 bif (a.2==4) then Zs c s (zk s (zk s (zk s (zk s a.1).1).1).1).1 (a.2,0,([],0,[],[]),(0,[],[]),(0,[],[]),0,((zk s a.1).2,(zk s (zk s a.1).1).2,(zk s (zk s (zk s a.1).1).1).2,(zk s (zk s (zk s (zk s a.1).1).1).1).2)) else
 Zs c s a.1 (a.2,0,([],0,[],[]),(0,[],[]),(0,[],[]),0,(0,0,0,0))
theorem w1 (s:List UInt8) (a:zX) (k:Int) (hs:s.length<=1073741824) (h:(yL s (yf s a).1).1.2=true):zh (k,0,((yf s a).2,(yL s (yf s a).1).2),(0,[],[]),(0,[],[]),0,(0,0,0,0))<=1073741824:=by
 obtain⟨h1,h2,h3,h4⟩:=dq h;obtain⟨g1,g2,g3,g4⟩:=Mz h1;simp only[zh,zA,zp,zj,zu,aqJ] at h3 ⊢;omega
theorem w2 (s:List UInt8) (a:zX) (k x:Int) (hs:s.length<=1073741824) (h:(jA s (yf s a).1).1.2=true):zh (k,0,([],0,[],[]),(x,(yf s a).2,(jA s (yf s a).1).2),(0,[],[]),0,(0,0,0,0))<=1073741824:=by
 obtain⟨h1,h2,h3,h4⟩:=l6 h;obtain⟨g1,g2,g3,g4⟩:=Mz h1;simp only[zh,zA,zp,zj,zu,aqJ];omega
theorem w3 (s:List UInt8) (a:zX) (k x y:Int) (hs:s.length<=1073741824) (h:(yL s a).1.2=true):zh (k,x,([],0,[],[]),(0,[],[]),(yL s a).2,y,(0,0,0,0))<=1073741824:=by
 obtain⟨h1,h2,h3,h4⟩:=dq h;simp only[zh,zA,zp,zj,zu,aqJ] at h3 ⊢;omega
theorem w4 (k:Int) (t:zK):zh (k,0,([],0,[],[]),(0,[],[]),(0,[],[]),0,t)<=1073741824:=by
 simp[zh,zA,zp,zj,zu]
theorem Is (c:za) (s:List UInt8) (hs:s.length<=1073741824):aA (c,s,())=some ((jr c s).1,(jr c s).2,()):=by
 have hl:s.length<=137438953472:=by omega
 unfold aA jr;simp only[aS s _ hl,vL s _ hl,IE s _ hl,ID s _ hl,aqC];cases ((zk s (0,true)).2==1)
 ·cases ((zk s (0,true)).2==2)
  ·cases ((zk s (0,true)).2==3)
   ·cases ((zk s (0,true)).2==4)
    ·exact eo c s _ _ (λ _ _=>w4 _ _)
    ·exact eo c s _ _ (λ _ _=>w4 _ _)
   ·exact eo c s _ _ (λ h _=>w3 s _ _ _ _ hs h)
  ·exact eo c s _ _ (λ h _=>w2 s _ _ _ hs h)
 ·exact eo c s _ _ (λ h _=>w1 s _ _ hs h)
theorem Aw (c:za) (s:List UInt8) (hs:s.length<=1073741824):bT (c,s,())=some ((jr c s).1,(jr c s).2,()):=by
 have hl:s.length<=137438953472:=by omega
 have e0:ZE ((s,(0,false)),())=some ((s,((zk s (0,true)).1.1,!(zk s (0,true)).1.2)),(zk s (0,true)).2,()):=NA s (0,true) hl;unfold bT jr;simp only[e0,NA s _ hl,pS s _ hl,AO s _ hl,AP s _ hl,aqC];cases ((zk s (0,true)).2==1)
 ·cases ((zk s (0,true)).2==2)
  ·cases ((zk s (0,true)).2==3)
   ·cases ((zk s (0,true)).2==4)
    ·exact cn c s _ _ (λ _ _=>w4 _ _)
    ·exact cn c s _ _ (λ _ _=>w4 _ _)
   ·exact cn c s _ _ (λ h _=>w3 s _ _ _ _ hs h)
  ·exact cn c s _ _ (λ h _=>w2 s _ _ _ hs h)
 ·exact cn c s _ _ (λ h _=>w1 s _ _ hs h)
theorem bG (c:za) (s:List UInt8) (r:zX) (m:zo) (hw:r.2=true->zh m<=1073741824):zh (Zs c s r m).1<=1073741824:=by
 unfold Zs;cases hr:r.2
 ·simp[LU,zh,zA,zp,zj,zu]
 ·cases (r.1==(s.length:Int) && zR c m)
  ·simp[LU,zh,zA,zp,zj,zu]
  ·exact hw hr
theorem BF (c:za) (s:List UInt8) (hs:s.length<=1073741824):zh (jr c s).1<=1073741824:=by
 unfold jr;dsimp only;cases ((zk s (0,true)).2==1)
 ·cases ((zk s (0,true)).2==2)
  ·cases ((zk s (0,true)).2==3)
   ·cases ((zk s (0,true)).2==4)
    ·exact bG c s _ _ (λ _=>w4 _ _)
    ·exact bG c s _ _ (λ _=>w4 _ _)
   ·exact bG c s _ _ (λ h=>w3 s _ _ _ _ hs h)
  ·exact bG c s _ _ (λ h=>w2 s _ _ _ hs h)
 ·exact bG c s _ _ (λ h=>w1 s _ _ hs h)
def jY:zx:=(0,0,(0,[],[]),[])
def Yp (id:Int):zb:=(id,1,0,jY,[],[],([],0),[])
def agY:zb:=(0,0,0,jY,[],[],([],0),[])
theorem BR (id:Int):zf (Yp id)=0:=rfl
noncomputable def YO (c:za) (id:Int):zb×Bool:=bif zd c (Yp id) then (Yp id,true) else (agY,false)
theorem afU (c:za) (id:Int):nw (c,id,())=some ((YO c id).1,(YO c id).2,()):=by
 have h:=YW c (Yp id) (by rw[BR]; decide)
 unfold nw YO;dsimp only;simp only[Yp,jY] at h ⊢;rw[h];cases zd c (id,1,0,(0,0,(0,[],[]),[]),[],[],([],0),[])<;>rfl
theorem Xm (c:za) (id:Int):gE (c,id,())=some ((YO c id).1,(YO c id).2,()):=by
 have h:=ZU c (Yp id) (by rw[BR]; decide)
 unfold gE YO;dsimp only;simp only[Yp,jY] at h ⊢;rw[h];cases zd c (id,1,0,(0,0,(0,[],[]),[]),[],[],([],0),[])<;>rfl
theorem abz (c:za) (id:Int):zf (YO c id).1=0:=by
 unfold YO;cases zd c (Yp id)<;>rfl
def yM (s:List UInt8):zX×zx:=
 let a:=zk s (0,true)
 let b:=zk s a.1
 let q:=yL s b.1
 let t:=yf s q.1
 (t.1,(a.2,b.2,q.2,t.2))
noncomputable def jm (c:za) (s:List UInt8):zx×Bool:=
 bif (yM s).1.2 && ((yM s).1.1==(s.length:Int) && zT c (yM s).2) then ((yM s).2,true) else (jY,false)
theorem uc {s:List UInt8} (h:(yM s).1.2=true):(zz (yM s).2:Int)<=s.length:=by
 unfold yM at h ⊢;simp only at h ⊢;obtain⟨a1,a2,a3,a4⟩:=Mz h;obtain⟨b1,b2,b3,b4⟩:=dq a1;simp only[zz];omega
theorem afX (c:za) (s:List UInt8) (hs:s.length<=1073741824):nz (c,s,())=some ((jm c s).1,(jm c s).2,()):=by
 unfold nz jm;dsimp only;rw[aS s _ (by omega),aqC];dsimp only;rw[aS s _ (by omega),aqC];dsimp only;rw[ID s _ (by omega),aqC];dsimp only;rw[vL s _ (by omega),aqC];dsimp only;have hw:=uc (s:=s);have e:yM s=((yf s (yL s (zk s (zk s (0,true)).1).1).1).1,((zk s (0,true)).2,(zk s (zk s (0,true)).1).2,(yL s (zk s (zk s (0,true)).1).1).2,(yf s (yL s (zk s (zk s (0,true)).1).1).1).2)):=rfl;have e1:(yf s (yL s (zk s (zk s (0,true)).1).1).1).1=(yM s).1:=rfl;have e2:((zk s (0,true)).2,(zk s (zk s (0,true)).1).2,(yL s (zk s (zk s (0,true)).1).1).2,(yf s (yL s (zk s (zk s (0,true)).1).1).1).2)=(yM s).2:=rfl;rw[e1,e2];cases hr:(yM s).1.2
 ·rfl
 ·have:=hw hr;by_cases hl:(yM s).1.1=(s.length:Int)
  ·have e3:((yM s).1.1 != (s.length:Int))=false:=by simp[hl]
   have e4:((yM s).1.1==(s.length:Int))=true:=by simp[hl]
   rw[e3,e4,aH c _ (by omega)];cases h:zT c (yM s).2<;>simp[jY]
  ·have e3:((yM s).1.1 != (s.length:Int))=true:=by simp[hl]
   have e4:((yM s).1.1==(s.length:Int))=false:=by simp[hl]
   rw[e3,e4]; rfl
theorem Xp (c:za) (s:List UInt8) (hs:s.length<=1073741824):gH (c,s,())=some ((jm c s).1,(jm c s).2,()):=by
 unfold gH jm;dsimp only;rw[show ((0:Int),false)=(((0:Int),true).1,!((0:Int),true).2) from rfl,NA s _ (by omega),aqC];dsimp only;rw[NA s _ (by omega),aqC];dsimp only;rw[AP s _ (by omega),aqC];dsimp only;rw[pS s _ (by omega),aqC];dsimp only;have hw:=uc (s:=s);have e1:(yf s (yL s (zk s (zk s (0,true)).1).1).1).1=(yM s).1:=rfl;have e2:((zk s (0,true)).2,(zk s (zk s (0,true)).1).2,(yL s (zk s (zk s (0,true)).1).1).2,(yf s (yL s (zk s (zk s (0,true)).1).1).1).2)=(yM s).2:=rfl;rw[e1,e2];cases hr:(yM s).1.2
 ·rfl
 ·have:=hw hr;by_cases hl:(yM s).1.1=(s.length:Int)
  ·have e3:((yM s).1.1 != (s.length:Int))=false:=by simp[hl]
   have e4:((yM s).1.1==(s.length:Int))=true:=by simp[hl]
   rw[e3,e4,b8 c _ (by omega)];cases h:zT c (yM s).2<;>simp[jY]
  ·have e3:((yM s).1.1 != (s.length:Int))=true:=by simp[hl]
   have e4:((yM s).1.1==(s.length:Int))=false:=by simp[hl]
   rw[e3,e4]; rfl
noncomputable def jq (c:za) (s:List UInt8):Nat->Nat->zx->zx×Int
 | 0,at_,old=>(old,at_)
 | n+1,at_,old=>
  let t:=zw s at_
  bif t.2.2 && (decide (t.2.1<(s.length:Int)) && (s.getD t.2.1.toNat 0==10 && (jm c t.1).2)) then jq c s n (t.2.1+1).toNat (jm c t.1).1 else (old,at_)
noncomputable def jk (c:za) (s:List UInt8):zx×Int:=jq c s (s.length+1) 0 jY
theorem Ng {s:List UInt8} {at_:Int} (h:(zw s at_).2.2=true):0<=at_/\at_+1<=(zw s at_).2.1/\(zw s at_).2.1<=(s.length:Int)/\(zw s at_).1.length<=s.length/\
  (zi s at_).2.2=true/\(zw s at_).2.1=(zi s at_).2.1+(zi s at_).1/\(zw s at_).1=(s.drop (zi s at_).2.1.toNat).take (zi s at_).1.toNat:=by
 unfold zw at h ⊢;split at h
 ·next hg=>
  rw[if_pos hg];have:=KB s at_ hg.1;refine⟨by omega,by simp only; omega,by simp only; omega,?_,hg.1,rfl,rfl⟩
  simp only[aqV,ar2];omega
 ·simp at h
theorem kI (c:za) (s:List UInt8):∀ (n at_:Nat) (old:zx),s.length<at_+n->∀ m,s.length<at_+m->jq c s n at_ old=jq c s m at_ old
 | n,at_,old,hn,m,hm=>by
  cases n with
  | zero=>
   cases m with
   | zero=>rfl
   | succ m=>
    have:(zw s at_).2.2=false:=by
     cases h:(zw s at_).2.2
     ·rfl
     ·have:=Ng h; omega
    simp only[jq,this,ari,aqD]
  | succ n=>
   cases m with
   | zero=>
    have:(zw s at_).2.2=false:=by
     cases h:(zw s at_).2.2
     ·rfl
     ·have:=Ng h; omega
    simp only[jq,this,ari,aqD]
   | succ m=>
    simp only[jq];cases h:(zw s at_).2.2
    ·simp
    ·have:=Ng h;rw[kI c s n _ _ (by omega) m (by omega)]
theorem B0:UInt8.ofNat (Int.toNat 10)=10:=rfl
theorem afH (c:za) (s:List UInt8) (hs:s.length<=1073741824):nj (c,s,())=some ((jk c s).1,(jk c s).2,()):=by
 unfold nj vE jk;rw[aqC];dsimp only;refine (Qw (λ x:Int×zx×zx×Unit=>some ((jq c s (s.length+1) x.1.toNat x.2.2.1).1,(jq c s (s.length+1) x.1.toNat x.2.2.1).2,())) (λ x=>s.length+1 - x.1.toNat)
  (λ x=>0<=x.1/\x.1<=(s.length:Int)) ?_ fuel _ ⟨by simp,by simp⟩ (by have:=Y2 (n:=s.length+1) (by omega); simp; omega)).trans (by rfl)
 rintro rec ⟨v,z,old,⟨⟩⟩ ⟨h1,h2⟩ ah3;obtain⟨n,rfl⟩:∃ n:Nat,v=(n:Int):=⟨v.toNat,by simp only at h1; omega⟩
 simp only[aqN] at h2 ah3 ⊢;simp only[vy s _ (show s.length<=137438953472 by omega),aqC,jq];cases hg:(zi s n).2.2
 ·have:(zw s n).2.2=false:=by unfold zw; rw[if_neg (by simp[hg])]
  simp[this]
 ·obtain⟨g0,g1,g2,g3,g4⟩:=KB s n hg;simp only[aqI,aqD,zg (show (-9223372036854775808:Int)<=(s.length:Int) - (zi s n).2.1 by omega) (show (s.length:Int) - (zi s n).2.1<=9223372036854775807 by omega),
   zg (show (-9223372036854775808:Int)<=(zi s n).2.1+(zi s n).1 by omega) (show (zi s n).2.1+(zi s n).1<=9223372036854775807 by omega)]
  by_cases hc:(zi s n).1≥(s.length:Int) - (zi s n).2.1
  ·simp only[hc,aqH,aqE];by_cases ht:(zw s n).2.2=true
   ·obtain⟨t0,t1,t2,t3,t4,t5,t6⟩:=Ng ht;have:¬ (zw s n).2.1<(s.length:Int):=by omega
    simp[this]
   ·have:(zw s n).2.2=false:=by simpa using ht
    simp[this]
  ·have e0:zw s n=((s.drop (zi s n).2.1.toNat).take (zi s n).1.toNat,(zi s n).2.1+(zi s n).1,true):=by
    unfold zw;rw[if_pos ⟨hg,by omega⟩]
   have hlt:(zi s n).2.1+(zi s n).1<(s.length:Int):=by omega
   simp only[hc,aqL,aqD,e0,hlt,aqH,aqU];rw[if_pos (show 0<=(zi s n).2.1+(zi s n).1/\True from⟨by omega,trivial⟩)];have hrd:rd .u8 s ((zi s n).2.1+(zi s n).1).toNat=s.getD ((zi s n).2.1+(zi s n).1).toNat 0:=rfl;rw[hrd,B0];by_cases h10:s.getD ((zi s n).2.1+(zi s n).1).toNat 0=10
   ·have e1:(s.getD ((zi s n).2.1+(zi s n).1).toNat 0 != 10)=false:=by rw[h10]; rfl
    have e2:(s.getD ((zi s n).2.1+(zi s n).1).toNat 0==10)=true:=by rw[h10]; rfl
    rw[e1,e2];simp only[aqD,aqU];rw[if_pos (show 0<=(zi s n).2.1/\(zi s n).2.1<=(zi s n).2.1+(zi s n).1/\(zi s n).2.1+(zi s n).1<=(s.length:Int) from⟨by omega,by omega,by omega⟩),v7 _ _ _ g1 (by omega),afX c _ (by simp only[aqV,ar2]; omega),Option.bind_some]
    dsimp only;cases hk:(jm c (List.take (zi s n).1.toNat (List.drop (zi s n).2.1.toNat s))).2
    ·rfl
    ·simp only[aqI,aqD,aqE];rw[zg (n:=(zi s n).2.1+(zi s n).1+1) (by omega) (by omega),ah3 _ ⟨by simp only; omega,by simp only; omega⟩ (by simp only; omega)]
     simp only;rw[kI c s (s.length+1) _ _ (by omega) s.length (by omega)]
   ·have e1:(s.getD ((zi s n).2.1+(zi s n).1).toNat 0 != 10)=true:=bne_iff_ne.2 h10;have e2:(s.getD ((zi s n).2.1+(zi s n).1).toNat 0==10)=false:=beq_eq_false_iff_ne.2 h10;rw[e1,e2];rfl
theorem W7 (c:za) (s:List UInt8) (hs:s.length<=1073741824):gq (c,s,())=some ((jk c s).1,(jk c s).2,()):=by
 unfold gq pN jk;rw[aqC];dsimp only;refine (Qw (λ x:Int×zx×zx×Unit=>some ((jq c s (s.length+1) x.1.toNat x.2.2.1).1,(jq c s (s.length+1) x.1.toNat x.2.2.1).2,())) (λ x=>s.length+1 - x.1.toNat)
  (λ x=>0<=x.1/\x.1<=(s.length:Int)) ?_ fuel _ ⟨by simp,by simp⟩ (by have:=Y2 (n:=s.length+1) (by omega); simp; omega)).trans (by rfl)
 rintro rec ⟨v,z,old,⟨⟩⟩ ⟨h1,h2⟩ ah3;obtain⟨n,rfl⟩:∃ n:Nat,v=(n:Int):=⟨v.toNat,by simp only at h1; omega⟩
 simp only[aqN] at h2 ah3 ⊢;simp only[As s _ (show s.length<=137438953472 by omega),aqC,jq];cases hg:(zw s n).2.2
 ·simp
 ·obtain⟨t0,t1,t2,t3,t4,t5,t6⟩:=Ng hg;simp only[aqI,aqD,aqU];by_cases hc:(zw s n).2.1≥(s.length:Int)
  ·have:¬ (zw s n).2.1<(s.length:Int):=by omega
   simp[hc,this]
  ·have hlt:(zw s n).2.1<(s.length:Int):=by omega
   simp only[hc,aqL,aqD,hlt,aqH,aqU];rw[if_pos (show 0<=(zw s n).2.1/\True from⟨by omega,trivial⟩)];have hrd:rd .u8 s (zw s n).2.1.toNat=s.getD (zw s n).2.1.toNat 0:=rfl;rw[hrd,B0];by_cases h10:s.getD (zw s n).2.1.toNat 0=10
   ·have e1:(s.getD (zw s n).2.1.toNat 0 != 10)=false:=by rw[h10]; rfl
    have e2:(s.getD (zw s n).2.1.toNat 0==10)=true:=by rw[h10]; rfl
    rw[e1,e2];simp only[aqD,aqU];rw[Xp c _ (by omega),aqC];dsimp only;cases hk:(jm c (zw s n).1).2
    ·rfl
    ·simp only[aqI,aqD,aqE];rw[zg (n:=(zw s n).2.1+1) (by omega) (by omega),ah3 _ ⟨by simp only; omega,by simp only; omega⟩ (by simp only; omega)]
     simp only;rw[kI c s (s.length+1) _ _ (by omega) s.length (by omega)]
   ·have e1:(s.getD (zw s n).2.1.toNat 0 != 10)=true:=bne_iff_ne.2 h10;have e2:(s.getD (zw s n).2.1.toNat 0==10)=false:=beq_eq_false_iff_ne.2 h10;rw[e1,e2];rfl
def Ya (a b:zx):Bool:=a.1==b.1 && (a.2.1==b.2.1 && (js a.2.2.1 b.2.2.1 && a.2.2.2==b.2.2.2))
theorem afY (a b:zx) (h:zz a<=137438953472):nA (a,b,())=some (Ya a b,()):=by
 unfold nA Ya;simp only[vC a.2.2.1 b.2.2.1 (by simp only[zz,zj,zu] at h; omega),Option.bind_some]
 cases a.1==b.1<;>cases a.2.1==b.2.1<;>cases js a.2.2.1 b.2.2.1<;>rfl
theorem Xq (a b:zx) (h:zz a<=137438953472):gJ (a,b,())=some (Ya a b,()):=by
 unfold gJ Ya;simp only[Qi a.2.2.1 b.2.2.1 (by simp only[zz,zj,zu] at h; omega),Option.bind_some]
 cases a.1==b.1<;>cases a.2.1==b.2.1<;>cases js a.2.2.1 b.2.2.1<;>rfl
theorem aek (c:za) (s:List UInt8):zz (jm c s).1<=s.length:=by
 unfold jm;cases h:(yM s).1.2
 ·simp[jY,zz,zj,zu]
 ·have:=uc h;cases ((yM s).1.1==(s.length:Int))<;>cases zT c (yM s).2
  ·simp[jY,zz,zj,zu]
  ·simp[jY,zz,zj,zu]
  ·simp[jY,zz,zj,zu]
  ·simp only[arD,aqE]; omega
theorem Bl (c:za) (s:List UInt8):∀ (n at_:Nat) (old:zx),at_<=s.length->zz old<=s.length->zz (jq c s n at_ old).1<=s.length/\0<=(jq c s n at_ old).2/\(jq c s n at_ old).2<=(s.length:Int)
 | 0,at_,old,h1,h2=>⟨h2,by simp only[jq]; omega,by simp only[jq]; omega⟩
 | n+1,at_,old,h1,h2=>by
  simp only[jq];cases hg:((zw s at_).2.2 && (decide ((zw s at_).2.1<(s.length:Int)) && (s.getD (zw s at_).2.1.toNat 0==10 && (jm c (zw s at_).1).2)))
  ·exact⟨h2,by simp only[aqD]; omega,by simp only[aqD]; omega⟩
  ·simp only[aqF,aqP] at hg;obtain⟨k1,k2,k3,k4⟩:=hg;obtain⟨t0,t1,t2,t3,t4,t5,t6⟩:=Ng k1;have:=aek c (zw s at_).1;exact Bl c s n _ _ (by omega) (by omega)
theorem rC (c:za) (s:List UInt8):zz (jk c s).1<=s.length/\0<=(jk c s).2/\(jk c s).2<=(s.length:Int):=Bl c s _ 0 _ (by simp) (by simp[jY,zz,zj,zu])
theorem bn {r:zb} {N:Nat} (h:zf r<=N):r.2.2.2.2.2.2.1.1.length<=N:=by simp only[zf,KY] at h; omega
theorem bo {r:zb} {N:Nat} (h:zf r<=N):zz r.2.2.2.1<=N:=by simp only[zf] at h; omega
def jl:zZ:=([100,100,100,100],[0,0,0,0])
theorem BT {G:(Int×zZ×Unit->Option (zZ×Unit))->Int×zZ×Unit->Option (zZ×Unit)}
  (hG:∀ rec (i:Int) (l:zZ),G rec (i,l,())=bif decide (i<4) then (if (l.1.length+[(100:Int)].length)*8<=70368744177664 then rec (wr (i+1),(l.1++[100],l.2),()) else none) else some (l,())):
  iter G fuel (0,([],List.replicate (Int.toNat 4) 0),())=some (jl,()):=by
 refine (walk 4 (λ i (o:List Int)=>(i,(o,List.replicate (Int.toNat 4) 0),())) (λ i o=>o.length=i) (λ i o=>some ((o++List.replicate (4 - i) 100,List.replicate (Int.toNat 4) 0),())) (by decide) ?_ ?_ (s0:=[]) rfl).trans rfl
 ·intro rec o ho; rw[hG]; simp
 ·intro rec i o hi ho;right;refine⟨o++[100],by simp[ho],?_,?_⟩
  ·rw[hG];simp only[show ((i:Int)<4) by omega,aqH,aqE,aqG,aqJ,zq (show i<4611686018427387904 by omega)];rw[if_pos (by omega)]
  ·rw[show 4 - i=(4 - (i+1))+1 by omega,asy]; simp
theorem Iq:az ()=some (jl,()):=by
 unfold az;exact BT (λ rec i l=>rfl)
theorem Au:Qd ()=some (jl,()):=by
 unfold Qd;exact BT (λ rec i l=>rfl)
def je (s:List UInt8):zy:=((steps s).1.map λ x=>x.2).flatten
theorem IR:∀ (ps:List (List UInt8)) (prev:Int) (out:List YD),(∀ x∈out,x.2.length<=2)->∀ x∈(jX ps prev out).1,x.2.length<=2
 | [],prev,out,h=>h
 | p::ps,prev,out,h=>by
  simp only[jX];cases jb 124 p with
  | none=>simp
  | some q=>
   simp only;split
   ·next hB=>
    refine IR ps _ _ ?_;intro x hx;rcases List.mem_append.1 hx with hx|hx
    ·exact h x hx
    ·simp only[as9] at hx;subst hx;unfold jh at hB;simp only[aqF,aqP] at hB;exact hB.2.2.2.2
   ·simp
theorem IT (s:List UInt8):∀ x∈(steps s).1,x.2.length<=2:=by
 unfold steps;split
 ·simp
 ·cases zY 47 s with
  | nil=>simp
  | cons p ps=>
   simp only;split
   ·exact IR _ _ _ (by simp)
   ·simp
theorem xV:∀ (l:List YD) (out:zy),l.foldl (λ o x=>o++x.2) out=out++(l.map λ x=>x.2).flatten
 | [],out=>by simp
 | x::l,out=>by rw[arA,xV l]; simp
theorem I3 (s:List UInt8) {G:(zy×Int×Unit->Option (zy×Unit))->zy×Int×Unit->Option (zy×Unit)}
  (hG:∀ rec (o:zy) (i:Int),G rec (o,i,())=bif decide (i<((steps s).1.length:Int)) then (if 0<=i/\i<((steps s).1.length:Int) then (if (o.length+(rd (.pair .i64 (.sl 0 jZ)) (steps s).1 i.toNat).2.length)*32<=70368744177664 then
   rec (o++(rd (.pair .i64 (.sl 0 jZ)) (steps s).1 i.toNat).2,wr (i+1),()) else none) else none) else some (o,())):
  iter G fuel ([],0,())=some (je s,()):=by
 have h30:=(be s).2;have:=Mb (λ i (o:zy)=>(o,i,())) (steps s).1 (λ o x=>o++x.2) (λ o=>some (o,())) (by omega) (λ i o=>o.length<=2*i) (G:=G) ?_ ?_ (s0:=[]) (by simp)
 ·rw[this,xV]; rfl
 ·intro rec o ho; rw[hG]; simp
 ·intro rec i o x hx hi ho;have h2:=IT s x (List.mem_of_getElem? hx);refine⟨by rw[aqM]; omega,?_⟩
  rw[hG];simp only[zv hi,aqH,aqE,aqS,if_true,aqN,zm (e:=.pair .i64 (.sl 0 jZ)) hx,zq (show i<4611686018427387904 by omega)];rw[if_pos (by omega)]
theorem oq (s:List UInt8):(je s).length<=60:=by
 have h30:=(be s).2;have h2:=IT s;have key:∀ l:List YD,(∀ x∈l,x.2.length<=2)->(l.map λ x=>x.2).flatten.length<=2*l.length:=by
  intro l;induction l with
  | nil=>simp
  | cons x l ih=>
   intro h;have a:=h x (by simp);have b:=ih (λ y hy=>h y (by simp[hy]));simp only[aqZ,as7,aqM,aqG];omega
 have:=key _ h2;unfold je;omega
theorem Iz (s:List UInt8) (hs:s.length<=137438953472):aO (s,())=some (je s,()):=by
 unfold aO;simp only[nF s hs,aqC];exact I3 s (λ rec o i=>rfl)
theorem AF (s:List UInt8) (hs:s.length<=1073741824):Qo (s,())=some (je s,()):=by
 unfold Qo;simp only[gP s hs,aqC];exact I3 s (λ rec o i=>rfl)
def within (lo hi x:Int):Bool:=decide (x≥lo) && decide (x<=hi)
def Zb (l:zZ):Bool:=decide (l.1.length=4) && (decide (l.2.length=4) && (l.1.all (within 0 400) && l.2.all (within 0 100)))
theorem afK (l:zZ):dR (l,())=some (Zb l,()):=by
 unfold dR Zb;dsimp only;by_cases h1:l.1.length=4
 ·by_cases h2:l.2.length=4
  ·simp only[h1,h2,aqH,aqU,show (((4:Nat):Int) != 4)=false from rfl,aqD];refine (walk 4 (λ i (_:Unit)=>(i,())) (λ _ _=>True) (λ i _=>some ((l.1.drop i).all (within 0 400) && (l.2.drop i).all (within 0 100),())) (by decide) ?_ ?_ (s0:=()) trivial).trans (by simp)
   ·intro rec s _;rw[asm (by omega),asm (by omega)]; simp
   ·intro rec i s hi _;have hi1:i<l.1.length:=by omega
    have hi2:i<l.2.length:=by omega
    have hx1:l.1[i]?=some l.1[i]:=List.getElem?_eq_getElem hi1;have hx2:l.2[i]?=some l.2[i]:=List.getElem?_eq_getElem hi2;have c1:(0:Int)<=(i:Int):=by omega
    have c2:(i:Int)<4:=by omega
    have c3:(i:Int)<((4:Nat):Int):=by omega
    simp only[c1,c2,c3,aqH,aqE,aqS,if_true,aqN,zm (e:=.i64) hx1,zm (e:=.i64) hx2,Ji,aqC,zq (show i<4611686018427387904 by omega)];rw[aqX hi1,aqX hi2];simp only[ard,within];cases (decide (l.1[i]≥0) && decide (l.1[i]<=400))
    ·left; simp
    ·cases (decide (l.2[i]≥0) && decide (l.2[i]<=100))
     ·left; simp
     ·right; exact⟨(),trivial,by simp,by simp⟩
  ·have:(((l.2.length:Nat):Int) != 4)=true:=bne_iff_ne.2 (by omega);simp[h1,this,h2]
 ·have:(((l.1.length:Nat):Int) != 4)=true:=bne_iff_ne.2 (by omega);simp[this,h1]
theorem wI (l:List Int) (lo hi:Int) (hl:l.length<=137438953472):cj (l,lo,hi,())=some (l.all (within lo hi),()):=by
 unfold cj;refine oO (within lo hi) l (by omega) ?_ ?_
 ·intro rec s; simp
 ·intro rec i s x hx hi';simp only[zv hi',aqH,aqE,aqS,if_true,aqN,zm (e:=.i64) hx,Yl,aqC,zq (show i<4611686018427387904 by omega),within];cases (decide (x≥lo) && decide (x<=hi))<;>rfl
theorem Xa (l:zZ):bR (l,())=some (Zb l,()):=by
 unfold bR Zb;dsimp only;by_cases h1:l.1.length=4
 ·by_cases h2:l.2.length=4
  ·simp only[h1,h2,aqH,aqU,show (((4:Nat):Int)==4)=true from rfl,aqE,wI l.1 0 400 (by omega),wI l.2 0 100 (by omega),aqC];cases l.1.all (within 0 400)<;>rfl
  ·have:(((l.2.length:Nat):Int)==4)=false:=beq_eq_false_iff_ne.2 (by omega);simp[h1,this,h2]
 ·have:(((l.1.length:Nat):Int)==4)=false:=beq_eq_false_iff_ne.2 (by omega);simp[this,h1]
theorem Bv {l:zZ} (h:Zb l=true):l.1.length=4/\l.2.length=4:=by
 unfold Zb at h;simp only[aqF,aqP] at h;exact⟨h.1,h.2.1⟩
noncomputable def pay (l:zZ) (x:zK):zZ×Int:=
 if Zb l=true/\zI x=true then
  (if x.2.2.2<rd .i64 l.2 x.1.toNat then (l,2) else if x.2.2.2>rd .i64 l.2 x.1.toNat then (l,3) else
   if x.2.2.1>rd .i64 l.1 x.1.toNat then ((l.1,l.2.set x.1.toNat (wr (x.2.2.2+1))),4) else
   let h:=l.1.set x.1.toNat (wr (rd .i64 l.1 x.1.toNat - x.2.2.1))
   let m:zZ:=(h.set x.2.1.toNat (wr (rd .i64 h x.2.1.toNat+x.2.2.1)),l.2.set x.1.toNat (wr (x.2.2.2+1)))
   if Zb m=true then (m,0) else (l,1))
 else (l,1)
theorem vU (l:zZ) (h1:l.1.length<=137438953472) (h2:l.2.length<=137438953472):qj (l,())=some (l,()):=by
 unfold qj;dsimp only;rw[if_pos (by omega),if_pos (by omega)]; rfl
theorem AJ (l:zZ) (h1:l.1.length<=137438953472) (h2:l.2.length<=137438953472):Qq (l,())=some (l,()):=by
 unfold Qq;simp only[Nx l.1 h1,Nx l.2 h2,aqC]
theorem vA (l:zZ) (x:zK) (h1:l.1.length<=137438953472) (h2:l.2.length<=137438953472):N6 (l,x,())=some ((pay l x).1,(pay l x).2,()):=by
 unfold N6 pay;simp only[vU l h1 h2,afK,qd,aqC];by_cases hl:Zb l=true
 ·by_cases hx:zI x=true
  ·obtain⟨⟨b1,b2⟩,⟨b3,b4⟩,_,_⟩:=(MX x).1 hx;obtain⟨g1,g2⟩:=Bv hl;have d1:x.1<(l.1.length:Int):=by omega
   have d2:x.1<(l.2.length:Int):=by omega
   have d3:x.2.1<(l.1.length:Int):=by omega
   rw[if_pos (show Zb l=true/\zI x=true from⟨hl,hx⟩)];simp only[hl,hx,aqI,aqD,b1,b3,d1,d2,d3,aqS,if_true,asg];by_cases e1:x.2.2.2<rd .i64 l.2 x.1.toNat
   ·simp only[e1,aqH,aqE,if_true]
   ·simp only[e1,aqL,aqD,if_false];by_cases e2:x.2.2.2>rd .i64 l.2 x.1.toNat
    ·simp only[e2,aqH,aqE,if_true]
    ·simp only[e2,aqL,aqD,if_false];by_cases e3:x.2.2.1>rd .i64 l.1 x.1.toNat
     ·simp only[e3,aqH,aqE,if_true]
     ·simp only[e3,aqL,aqD,if_false];cases hm:Zb ((l.1.set x.1.toNat (wr (rd .i64 l.1 x.1.toNat - x.2.2.1))).set x.2.1.toNat (wr (rd .i64 (l.1.set x.1.toNat (wr (rd .i64 l.1 x.1.toNat - x.2.2.1))) x.2.1.toNat+x.2.2.1)),l.2.set x.1.toNat (wr (x.2.2.2+1)))
      ·simp
      ·simp
  ·have hx':zI x=false:=by simpa using hx
   rw[if_neg (show ¬ (Zb l=true/\zI x=true) from λ h=>hx h.2)];simp[hl,hx']
 ·have hl':Zb l=false:=by simpa using hl
  rw[if_neg (show ¬ (Zb l=true/\zI x=true) from λ h=>hl h.1)];simp[hl']
theorem pJ (l:zZ) (x:zK) (h1:l.1.length<=137438953472) (h2:l.2.length<=137438953472):Nn (l,x,())=some ((pay l x).1,(pay l x).2,()):=by
 unfold Nn pay;simp only[AJ l h1 h2,Xa,Ml,aqC];by_cases hl:Zb l=true
 ·by_cases hx:zI x=true
  ·obtain⟨⟨b1,b2⟩,⟨b3,b4⟩,_,_⟩:=(MX x).1 hx;obtain⟨g1,g2⟩:=Bv hl;have d1:x.1<(l.1.length:Int):=by omega
   have d2:x.1<(l.2.length:Int):=by omega
   have d3:x.2.1<(l.1.length:Int):=by omega
   rw[if_pos (show Zb l=true/\zI x=true from⟨hl,hx⟩)];simp only[hl,hx,aqI,aqD,b1,b3,d1,d2,d3,aqS,if_true,asg];by_cases e1:x.2.2.2<rd .i64 l.2 x.1.toNat
   ·simp only[e1,aqH,aqE,if_true]
   ·simp only[e1,aqL,aqD,if_false];by_cases e2:x.2.2.2>rd .i64 l.2 x.1.toNat
    ·simp only[e2,aqH,aqE,if_true]
    ·have e0 : @Eq Int (rd .i64 l.2 x.1.toNat) x.2.2.2:=by omega
     simp only[e0,gt_iff_lt,aqY,aqL,aqD,if_false];by_cases e3:rd .i64 l.1 x.1.toNat<x.2.2.1
     ·simp only[e3,aqH,aqE,if_true]
     ·simp only[e3,aqL,aqD,if_false];cases hm:Zb ((l.1.set x.1.toNat (wr (rd .i64 l.1 x.1.toNat - x.2.2.1))).set x.2.1.toNat (wr (rd .i64 (l.1.set x.1.toNat (wr (rd .i64 l.1 x.1.toNat - x.2.2.1))) x.2.1.toNat+x.2.2.1)),l.2.set x.1.toNat (wr (x.2.2.2+1)))
      ·simp
      ·simp
  ·have hx':zI x=false:=by simpa using hx
   rw[if_neg (show ¬ (Zb l=true/\zI x=true) from λ h=>hx h.2)];simp[hl,hx']
 ·have hl':Zb l=false:=by simpa using hl
  rw[if_neg (show ¬ (Zb l=true/\zI x=true) from λ h=>hl h.1)];simp[hl']
theorem lg (l:zZ) (x:zK):(pay l x).1.1.length=l.1.length/\(pay l x).1.2.length=l.2.length:=by
 unfold pay;dsimp only;repeat' split
 all_goals simp
noncomputable def KJ (s:List Int×zZ) (x:zK):List Int×zZ:=(s.1++[(pay s.2 x).2],(pay s.2 x).1)
noncomputable def jF (l:zZ) (xs:zy):List Int×zZ:=xs.foldl KJ ([],l)
theorem B9 {f:zZ×zK×Unit->Option (zZ×Int×Unit)} (l:zZ) (xs:zy) (h1:l.1.length<=137438953472) (h2:l.2.length<=137438953472) (hxs:xs.length<=137438953472)
  (hf:∀ l x,l.1.length<=137438953472->l.2.length<=137438953472->f (l,x,())=some ((pay l x).1,(pay l x).2,()))
  {G:(List Int×Int×zZ×Unit->Option (zZ×List Int×Unit))->List Int×Int×zZ×Unit->Option (zZ×List Int×Unit)}
  (hG:∀ rec (o:List Int) (i:Int) (m:zZ),G rec (o,i,m,())=bif decide (i<(xs.length:Int)) then (if 0<=i/\i<(xs.length:Int) then (f (m,rd jZ xs i.toNat,())).bind λ r2=>
   (if (o.length+[r2.2.1].length)*8<=70368744177664 then rec (o++[r2.2.1],wr (i+1),r2.1,()) else none) else none) else some (m,o,())):
  iter G fuel ([],0,l,())=some ((jF l xs).2,(jF l xs).1,()):=by
 refine Mb (λ i (s:List Int×zZ)=>(s.1,i,s.2,())) xs KJ (λ s=>some (s.2,s.1,())) (by omega) (λ i s=>s.1.length=i/\s.2.1.length<=137438953472/\s.2.2.length<=137438953472) (G:=G) ?_ ?_ (s0:=([],l)) ⟨rfl,h1,h2⟩
 ·intro rec s hs; rw[hG]; simp
 ·intro rec i s x hx hi hs;obtain⟨k1,k2,k3⟩:=hs;obtain⟨p1,p2⟩:=lg s.2 x;refine⟨⟨by simp[KJ,k1],by simp only[KJ]; omega,by simp only[KJ]; omega⟩,?_⟩
  rw[hG];simp only[zv hi,aqH,aqE,aqS,if_true,aqN,zm (e:=jZ) hx,hf s.2 x k2 k3,aqC,zq (show i<4611686018427387904 by omega),aqG,aqJ];rw[if_pos (by omega)];rfl
theorem Iu (l:zZ) (xs:zy) (h1:l.1.length<=137438953472) (h2:l.2.length<=137438953472) (hxs:xs.length<=137438953472):aD (l,xs,())=some ((jF l xs).2,(jF l xs).1,()):=by
 unfold aD;rw[vU l h1 h2,aqC];exact B9 (f:=N6) l xs h1 h2 hxs vA (λ rec o i m=>by dsimp only)
theorem Ay (l:zZ) (xs:zy) (h1:l.1.length<=137438953472) (h2:l.2.length<=137438953472) (hxs:xs.length<=137438953472):Qe (l,xs,())=some ((jF l xs).2,(jF l xs).1,()):=by
 unfold Qe;rw[AJ l h1 h2,aqC];exact B9 (f:=Nn) l xs h1 h2 hxs pJ (λ rec o i m=>by dsimp only)
theorem lf:∀ (xs:zy) (s:List Int×zZ),(xs.foldl KJ s).2.1.length=s.2.1.length/\(xs.foldl KJ s).2.2.length=s.2.2.length/\(xs.foldl KJ s).1.length=s.1.length+xs.length
 | [],s=>by simp
 | x::xs,s=>by
  obtain⟨a,b,c⟩:=lf xs (KJ s x);obtain⟨p1,p2⟩:=lg s.2 x;rw[arA];refine⟨a.trans p1,b.trans p2,c.trans ?_⟩;simp only[KJ,aqM,aqG,aqJ]; omega
noncomputable def state (c:za) (r:zb):zZ:=bif zd c r then (jF jl (je r.2.2.2.1.2.2.2)).2 else ([],[])
theorem ag3 (c:za) (r:zb) (hw:zf r<=137438953472):d7 (c,r,())=some (state c r,()):=by
 have hs:=bo hw;have hl:=oq r.2.2.2.1.2.2.2;unfold d7 state;simp only[YW c r hw,Iq,Iz r.2.2.2.1.2.2.2 (by simp only[zz] at hs; omega),Iu jl _ (by decide) (by decide) (show (je r.2.2.2.1.2.2.2).length<=137438953472 by omega),Option.bind_some]
 cases zd c r<;>rfl
theorem Xv (c:za) (r:zb) (hw:zf r<=1073741824):Lf (c,r,())=some (state c r,()):=by
 have hs:=bo hw;have hl:=oq r.2.2.2.1.2.2.2;unfold Lf state;simp only[ZU c r hw,Au,AF r.2.2.2.1.2.2.2 (by simp only[zz] at hs; omega),Ay jl _ (by decide) (by decide) (show (je r.2.2.2.1.2.2.2).length<=137438953472 by omega),Option.bind_some]
 cases zd c r<;>rfl
theorem IO (c:za) (r:zb):eQ (state c r)<=8:=by
 unfold state;cases zd c r
 ·simp[eQ,zu]
 ·obtain⟨a,b,_⟩:=lf (je r.2.2.2.1.2.2.2) ([],jl);simp only[aqE,eQ,zu,jF,a,b];decide
noncomputable def yo (c:za) (r:zb):zb×jw:=bif zd c r then ((r.1,r.2.1,r.2.2.1,r.2.2.2.1,r.2.2.2.2.1,r.2.2.2.2.2.1,Kq r.2.2.2.2.2.2.1,[]),r.2.2.2.2.2.2.2) else (r,[])
theorem ag4 (c:za) (r:zb) (hw:zf r<=137438953472):d8 (c,r,())=some ((yo c r).1,(yo c r).2,()):=by
 have h1:=bn hw;have h2:yu r.2.2.2.2.2.2.2<=137438953472:=by simp only[zf] at hw; omega
 unfold d8 yo;simp only[Yd r hw,YW c r hw,ag5 r.2.2.2.2.2.2.1 (by omega),IG _ h2,aqC];cases zd c r<;>rfl
theorem Xw (c:za) (r:zb) (hw:zf r<=1073741824):gQ (c,r,())=some ((yo c r).1,(yo c r).2,()):=by
 have h1:=bn hw;unfold gQ yo;simp only[ZW r (by omega),ZU c r hw,Xx r.2.2.2.2.2.2.1 (by omega),aqC];cases zd c r<;>rfl
theorem ags (d:yZ):(Kq d).1.length=d.1.length:=by
 unfold Kq; split<;>rfl
theorem agr (c:za) (r:zb):zf (yo c r).1<=zf r/\yu (yo c r).2<=zf r:=by
 unfold yo;cases zd c r
 ·simp only[aqD]; exact⟨Nat.le_refl _,by simp[yu]⟩
 ·have:=ags r.2.2.2.2.2.2.1;simp only[aqE,zf,KY,this];refine⟨?_,by omega⟩;have:yu []=0:=rfl;omega
abbrev YB:Ty:=.pair .i64 (.pair .i64 (.pair .i64 (.pair (.pair .i64 (.pair .i64 (.pair (.pair .i64 (.pair .str (.sl 0 .i64))) .str))) (.pair (.sl 0 (.pair .i64 (.pair .i64 (.pair .i64 .i64)))) (.pair (.sl 0 (.pair .i64 (.pair .str (.sl 0 .i64)))) (.pair (.pair (.sl 0 .u8) .i64) (.sl 0 (.pair .i64 (.pair .i64 (.pair .i64 (.pair (.pair .str (.pair .i64 (.pair .str (.sl 0 .i64)))) (.pair (.pair .i64 (.pair .str (.sl 0 .i64))) (.pair (.pair .i64 (.pair .str (.sl 0 .i64))) (.pair .i64 (.pair .i64 (.pair .i64 (.pair .i64 .i64)))))))))))))))))
abbrev bv:Ty:=.pair .i64 (.sl 0 .u8)
abbrev LW:Ty:=.pair .i64 (.pair .str .i64)
def jL {α:Type} (p:Nat->α->Bool):Nat->List α->Bool
 | _,[]=>true
 | i,x::l=>p i x && jL p (i+1) l
theorem Qa {α:Type} (p:Nat->α->Bool) (l:List α) (K:Option (Bool×Unit)) {G:(Int×Unit->Option (Bool×Unit))->Int×Unit->Option (Bool×Unit)} (hl:l.length<=1152921504606846976)
  (ahe:∀ rec,G rec ((l.length:Int),())=K)
  (ahg:∀ rec (i:Nat) x,l[i]?=some x->i<l.length->G rec ((i:Int),())=bif p i x then rec ((i:Int)+1,()) else some (false,())):
  iter G fuel (0,())=bif jL p 0 l then K else some (false,()):=by
 refine (walk l.length (λ i (_:Unit)=>(i,())) (λ _ _=>True) (λ i _=>bif jL p i (l.drop i) then K else some (false,())) hl ?_ ?_ (s0:=()) trivial).trans (by simp only[ar4])
 ·intro rec s _; rw[ahe,arb]; rfl
 ·intro rec i s hi _;rw[ahg rec i l[i] (List.getElem?_eq_getElem hi) hi,List.drop_eq_getElem_cons hi];simp only[jL];cases p i l[i]
  ·left; rfl
  ·right; exact⟨(),trivial,rfl,rfl⟩
theorem A2 {S R:Type} (G:(S->Option R)->S->Option R) (x:S):∃ n,iter G fuel x=G (iter G n) x:=by
 obtain⟨n,hn⟩:∃ n,fuel=n+1:=⟨18446744073709551615,by rw[Zt]⟩
 rw[hn];exact⟨n,rfl⟩
def ZT (c:za):Int:=if zB c=true then (c.1 - 1) / 3 else 0
theorem afC (c:za):na (c,())=some (ZT c,()):=by
 unfold na ZT;simp only[JS,aqC];by_cases h:zB c=true
 ·obtain⟨h1,h2⟩:=zS h;have e1:wr (c.1 - 1)=c.1 - 1:=zg (by omega) (by omega);have e2:Int.tdiv (c.1 - 1) 3=(c.1 - 1) / 3:=Int.tdiv_eq_ediv_of_nonneg (by omega);simp only[h,aqI,aqD,if_true,e1,e2];rw[zg (n:=(c.1 - 1) / 3) (by omega) (by omega)]
 ·have h':zB c=false:=by simpa using h
  simp[h']
theorem WZ (c:za):Qc (c,())=some (ZT c,()):=by
 unfold Qc ZT;simp only[J5,aqC];by_cases h:zB c=true
 ·obtain⟨h1,h2⟩:=zS h;have e1:wr (c.1 - 1)=c.1 - 1:=zg (by omega) (by omega);have e2:Int.tdiv (c.1 - 1) 3=(c.1 - 1) / 3:=Int.tdiv_eq_ediv_of_nonneg (by omega);simp only[h,aqI,aqD,if_true,e1,e2];rw[zg (n:=(c.1 - 1) / 3) (by omega) (by omega)]
 ·have h':zB c=false:=by simpa using h
  simp[h']
noncomputable def LE (c:za) (i:Nat) (r:zb):Bool:=zd c r && r.1==(i:Int)
noncomputable def K0 (c:za) (_:Nat) (x:M3):Bool:=(jr c x.2).2 && (decide (x.1≥0) && decide (x.1<=c.1 - 1))
def JP (c:za) (_:Nat) (s:ZQ):Bool:=(decide (s.2.2≥0) && decide (s.2.2<=c.1 - 1)) && (zG s.2.1 && zl s.2.1==s.1)
noncomputable def ji (w:zr):Bool:=
 zB w.1 && (jV w.1.1 w.2.1 && (decide ((w.2.1.length:Int)<=ZT w.1) && (((w.2.2.1.length:Int)==w.1.1) && (decide ((w.2.2.2.1.length:Int)<=60) && (decide ((w.2.2.2.2.length:Int)<=300) &&
  (jL (LE w.1) 0 w.2.2.1 && (jL (K0 w.1) 0 w.2.2.2.1 && jL (JP w.1) 0 w.2.2.2.2)))))))
def WB (N:Nat) (w:zr):Prop:=
 (w.2.1.length<=137438953472/\w.2.2.1.length<=137438953472/\w.2.2.2.1.length<=137438953472/\w.2.2.2.2.length<=137438953472)/\(∀ r∈w.2.2.1,zf r<=N)/\(∀ x∈w.2.2.2.1,x.2.length<=1073741824)/\(∀ s∈w.2.2.2.2,s.2.1.length<=N)
theorem WB.of {w:zr} {N:Nat} (h:yl w<=N) (hN:N<=1073741824):WB N w:=by
 simp only[yl,zu,JW,Yh,JX] at h;refine⟨⟨by omega,by omega,by omega,by omega⟩,λ r hr => ?_,λ x hx => ?_,λ s hs => ?_⟩
 ·have:=ZN zf hr; omega
 ·have:=ZN Yg hx; simp only[Yg,bj] at this; omega
 ·have:=ZN MZ hs; simp only[MZ] at this; omega
theorem KH (a b:Int):(a != b) = !(a==b):=rfl
theorem age (w:zr) (hb:WB 137438953472 w):aR (w,())=some (ji w,()):=by
 obtain⟨⟨l1,l2,l3,l4⟩,br,bx,bs⟩:=hb;unfold aR ji;simp only[JS,aqC];cases hc:zB w.1
 ·rfl
 obtain⟨hc1,hc2⟩:=zS hc;have e1:wr (w.1.1 - 1)=w.1.1 - 1:=zg (by omega) (by omega);simp only[aqI,aqD,aqU,e1,vH _ _ l1,afC,Ji,aqC,Md ((w.2.1.length:Nat):Int) _,Md ((w.2.2.2.1.length:Nat):Int) 60,Md ((w.2.2.2.2.length:Nat):Int) 300,KH ((w.2.2.1.length:Nat):Int) w.1.1];cases jV w.1.1 w.2.1
 ·rfl
 cases decide ((w.2.1.length:Int)<=ZT w.1)
 ·rfl
 cases ((w.2.2.1.length:Int)==w.1.1)
 ·rfl
 cases decide ((w.2.2.2.1.length:Int)<=60)
 ·rfl
 cases decide ((w.2.2.2.2.length:Int)<=300)
 ·rfl
 simp only[aqI,aqD,aqU];refine (Qa (LE w.1) w.2.2.1 (bif jL (K0 w.1) 0 w.2.2.2.1 then (bif jL (JP w.1) 0 w.2.2.2.2 then some (true,()) else some (false,())) else some (false,())) (by omega) ?_ ?_).trans ?_
 ·intro rec;simp only[aqY,aqL,aqD];refine Qa (K0 w.1) w.2.2.2.1 (bif jL (JP w.1) 0 w.2.2.2.2 then some (true,()) else some (false,())) (by omega) ?_ ?_
  ·intro rec;simp only[aqY,aqL,aqD];refine Qa (JP w.1) w.2.2.2.2 (some (true,())) (by omega) ?_ ?_
   ·intro rec; simp only[aqY,aqL,aqD]
   ·intro rec i s hx hi;have hs:=bs s (List.mem_of_getElem? hx);simp only[zv hi,aqH,aqE,aqS,if_true,aqN,zm (e:=LW) hx,LK s.2.1 hs,KT s.2.1 hs,aqC,zq (show i<4611686018427387904 by omega),JP,KH];cases (decide (s.2.2≥0) && decide (s.2.2<=w.1.1 - 1))<;>cases zG s.2.1<;>cases (zl s.2.1==s.1)<;>rfl
  ·intro rec i x hx hi;have hs:=bx x (List.mem_of_getElem? hx);simp only[zv hi,aqH,aqE,aqS,if_true,aqN,zm (e:=bv) hx,Is w.1 x.2 hs,aqC,zq (show i<4611686018427387904 by omega),K0];cases (jr w.1 x.2).2<;>cases (decide (x.1≥0) && decide (x.1<=w.1.1 - 1))<;>rfl
 ·intro rec i r hx hi;have hs:=br r (List.mem_of_getElem? hx);simp only[zv hi,aqH,aqE,aqS,if_true,aqN,zm (e:=YB) hx,YW w.1 r hs,aqC,zq (show i<4611686018427387904 by omega),LE,KH];cases zd w.1 r<;>cases (r.1==(i:Int))<;>rfl
 ·cases jL (LE w.1) 0 w.2.2.1<;>cases jL (K0 w.1) 0 w.2.2.2.1<;>cases jL (JP w.1) 0 w.2.2.2.2<;>rfl
theorem ci (w:zr) (hb:WB 1073741824 w):ZD (w,())=some (ji w,()):=by
 obtain⟨⟨l1,l2,l3,l4⟩,br,bx,bs⟩:=hb;unfold ZD ji;simp only[J5,aqC];cases hc:zB w.1
 ·rfl
 obtain⟨hc1,hc2⟩:=zS hc;have e1:wr (w.1.1 - 1)=w.1.1 - 1:=zg (by omega) (by omega);simp only[aqI,aqD,aqU,e1,pQ _ _ l1,WZ,Yl,aqC,Md ((w.2.1.length:Nat):Int) _,Md ((w.2.2.2.1.length:Nat):Int) 60,Md ((w.2.2.2.2.length:Nat):Int) 300,KH ((w.2.2.1.length:Nat):Int) w.1.1];cases jV w.1.1 w.2.1
 ·rfl
 cases decide ((w.2.1.length:Int)<=ZT w.1)
 ·rfl
 cases ((w.2.2.1.length:Int)==w.1.1)
 ·rfl
 cases decide ((w.2.2.2.1.length:Int)<=60)
 ·rfl
 cases decide ((w.2.2.2.2.length:Int)<=300)
 ·rfl
 simp only[aqI,aqD,aqU];refine (Qa (LE w.1) w.2.2.1 (bif jL (K0 w.1) 0 w.2.2.2.1 then (bif jL (JP w.1) 0 w.2.2.2.2 then some (true,()) else some (false,())) else some (false,())) (by omega) ?_ ?_).trans ?_
 ·intro rec;simp only[aqY,aqL,aqD];refine Qa (K0 w.1) w.2.2.2.1 (bif jL (JP w.1) 0 w.2.2.2.2 then some (true,()) else some (false,())) (by omega) ?_ ?_
  ·intro rec;simp only[aqY,aqL,aqD];refine Qa (JP w.1) w.2.2.2.2 (some (true,())) (by omega) ?_ ?_
   ·intro rec; simp only[aqY,aqL,aqD]
   ·intro rec i s hx hi;have hs:=bs s (List.mem_of_getElem? hx);simp only[zv hi,aqH,aqE,aqS,if_true,aqN,zm (e:=LW) hx,Lb s.2.1 hs,Lh s.2.1 hs,aqC,zq (show i<4611686018427387904 by omega),JP,KH];cases (decide (s.2.2≥0) && decide (s.2.2<=w.1.1 - 1))<;>cases zG s.2.1<;>cases (zl s.2.1==s.1)<;>rfl
  ·intro rec i x hx hi;have hs:=bx x (List.mem_of_getElem? hx);simp only[zv hi,aqH,aqE,aqS,if_true,aqN,zm (e:=bv) hx,Aw w.1 x.2 hs,aqC,zq (show i<4611686018427387904 by omega),K0];cases (jr w.1 x.2).2<;>cases (decide (x.1≥0) && decide (x.1<=w.1.1 - 1))<;>rfl
 ·intro rec i r hx hi;have hs:=br r (List.mem_of_getElem? hx);simp only[zv hi,aqH,aqE,aqS,if_true,aqN,zm (e:=YB) hx,ZU w.1 r hs,aqC,zq (show i<4611686018427387904 by omega),LE,KH];cases zd w.1 r<;>cases (r.1==(i:Int))<;>rfl
 ·cases jL (LE w.1) 0 w.2.2.1<;>cases jL (K0 w.1) 0 w.2.2.2.1<;>cases jL (JP w.1) 0 w.2.2.2.2<;>rfl
theorem WB.mono {w:zr} {N M:Nat} (h:WB N w) (hm:N<=M):WB M w:=⟨h.1,λ r hr=>Nat.le_trans (h.2.1 r hr) hm,h.2.2.1,λ s hs=>Nat.le_trans (h.2.2.2 s hs) hm⟩
noncomputable def KI (c:za):Zf:=if zB c=true then (List.range c.1.toNat).map (λ (i:Nat)=>(YO c (i:Int)).1) else []
noncomputable def yI (c:za) (liars:ym):zr:=(c,liars,KI c,[],[])
def agZ:zr:=((0,0),[],[],[],[])
noncomputable def Zo (c:za) (liars:ym):zr×Bool:=bif ji (yI c liars) then (yI c liars,true) else (agZ,false)
theorem aaY (c:za):(KI c).length<=7:=by
 unfold KI;split
 ·next h=>have:=zS h; simp; omega
 ·simp
theorem aaZ (c:za):∀ r∈KI c,zf r=0:=by
 unfold KI;split
 ·intro r hr;obtain⟨i,_,rfl⟩:=List.mem_map.1 hr;exact abz c i
 ·simp
theorem BS (c:za) (liars:ym) (h:liars.length<=137438953472):WB 1073741824 (yI c liars):=by
 have h1:=aaY c;refine⟨⟨h,by simp only[yI]; omega,by simp[yI],by simp[yI]⟩,λ r hr => ?_,λ x hx => ?_,λ s hs => ?_⟩
 ·have:=aaZ c r hr; omega
 ·simp[yI] at hx
 ·simp[yI] at hs
theorem BU {c:za} (h:zB c=true) {n:Nat} (hn:c.1=(n:Int)) (liars:ym):yI c liars=(c,liars,(List.range' 0 n).map (λ (i:Nat)=>(YO c (i:Int)).1),[],[]):=by
 unfold yI KI;rw[if_pos h,hn,aqN,List.range_eq_range']
theorem vK (c:za) (liars:ym) (hl:liars.length<=137438953472):aQ (c,liars,())=some ((Zo c liars).1,(Zo c liars).2,()):=by
 have hok:∀ w:zr,w=yI c liars->((aR (w,())).bind λ r4=>(bif (!r4.1) then some (((0,0),([],([],([],[])))),(false,())) else some (w,(true,()))))=some ((Zo c liars).1,(Zo c liars).2,()):=by
  rintro w rfl;rw[age _ ((BS c liars hl).mono (by decide)),aqC];unfold Zo;cases ji (yI c liars)<;>rfl
 unfold aQ;dsimp only;rw[if_pos (by omega)];simp only[JS,aqC,ar6];by_cases hc:zB c=true
 ·obtain⟨h1,h2⟩:=zS hc;obtain⟨n,hn⟩:∃ n:Nat,c.1=(n:Int):=⟨c.1.toNat,by omega⟩
  simp only[hc,aqE,hn];refine (walk n (λ i (o:Zf)=>(i,(c,liars,o,[],[]),())) (λ i o=>o=(List.range' 0 i).map (λ (i:Nat)=>(YO c (i:Int)).1)) (λ i o=>some ((Zo c liars).1,(Zo c liars).2,())) (by omega) ?_ ?_ (s0:=[]) rfl)
  ·rintro rec o rfl;simp only[aqY,aqL,aqD];exact hok _ (BU hc hn liars).symm
  ·rintro rec i o hi rfl;right;refine⟨_,rfl,?_,rfl⟩;simp only[show ((i:Int)<(n:Int)) by omega,aqH,aqE,afU,aqC,zq (show i<4611686018427387904 by omega),aqG,aqJ,arg,List.length_range'];rw[if_pos (by omega)];congr 3;rw[List.range'_concat]; simp
 ·have hc':zB c=false:=by simpa using hc
  have e:yI c liars=(c,liars,[],[],[]):=by unfold yI KI; rw[if_neg hc]
  refine (A2 _ _).elim λ m hm=>hm.trans ?_;simp only[hc',aqD];rw[hok _ e.symm];cases decide ((0:Int)<c.1)<;>rfl
theorem XG (c:za) (liars:ym) (hl:liars.length<=137438953472):g9 (c,liars,())=some ((Zo c liars).1,(Zo c liars).2,()):=by
 have hok:∀ w:zr,w=yI c liars->((ZD (w,())).bind λ r4=>(bif (!r4.1) then some (((0,0),([],([],([],[])))),(false,())) else some (w,(true,()))))=some ((Zo c liars).1,(Zo c liars).2,()):=by
  rintro w rfl;rw[ci _ (BS c liars hl),aqC];unfold Zo;cases ji (yI c liars)<;>rfl
 unfold g9;dsimp only;rw[Nx liars hl,aqC];simp only[J5,aqC];by_cases hc:zB c=true
 ·obtain⟨h1,h2⟩:=zS hc;obtain⟨n,hn⟩:∃ n:Nat,c.1=(n:Int):=⟨c.1.toNat,by omega⟩
  simp only[hc,aqE,hn];refine (walk n (λ i (o:Zf)=>(i,(c,liars,o,[],[]),())) (λ i o=>o=(List.range' 0 i).map (λ (i:Nat)=>(YO c (i:Int)).1)) (λ i o=>some ((Zo c liars).1,(Zo c liars).2,())) (by omega) ?_ ?_ (s0:=[]) rfl)
  ·rintro rec o rfl;simp only[aqY,aqL,aqD];exact hok _ (BU hc hn liars).symm
  ·rintro rec i o hi rfl;right;refine⟨_,rfl,?_,rfl⟩;simp only[show ((i:Int)<(n:Int)) by omega,aqH,aqE,Xm,aqC,zq (show i<4611686018427387904 by omega),aqG,aqJ,arg,List.length_range'];rw[if_pos (by omega)];congr 3;rw[List.range'_concat]; simp
 ·have hc':zB c=false:=by simpa using hc
  have e:yI c liars=(c,liars,[],[],[]):=by unfold yI KI; rw[if_neg hc]
  refine (A2 _ _).elim λ m hm=>hm.trans ?_;simp only[hc',aqD];rw[hok _ e.symm]
noncomputable def QU (s:zx):Int:=min (max (max s.1 (wr (s.2.2.1.1+1))) 1) 60
noncomputable def rise (c:za) (r:zb):zb:=
 bif zd c r then
  let n:=jk c r.2.2.2.2.2.2.1.1
  (r.1,QU n.1,0,n.1,[],[],(r.2.2.2.2.2.2.1.1.take n.2.toNat,n.2),[])
 else r
theorem aa6 (a b:Int):yt (a,b,())=some (min a b,()):=by
 rw[ri]; congr 2; split<;>omega
theorem afV (c:za) (r:zb) (hw:zf r<=1073741824):dZ (c,r,())=some (rise c r,()):=by
 have h1:=bn hw;obtain⟨b1,b2,b3⟩:=rC c r.2.2.2.2.2.2.1.1;unfold dZ rise;simp only[YW c r (by omega),Yd r (by omega),afH c _ h1,bd,aa6,aqC];cases zd c r
 ·rfl
 ·simp only[aqI,aqD,aqE];rw[if_pos (by omega),if_pos (by simp only[aqV,ar2]; omega)]
  simp only[arG,ar4,arK,ar6,QU];congr 4;omega
theorem Xn (c:za) (r:zb) (hw:zf r<=1073741824):gF (c,r,())=some (rise c r,()):=by
 have h1:=bn hw;obtain⟨b1,b2,b3⟩:=rC c r.2.2.2.2.2.2.1.1;unfold gF rise;simp only[ZU c r (by omega),ZW r (by omega),W7 c _ h1,aqC];cases zd c r
 ·rfl
 ·simp only[aqI,aqD,aqE];rw[if_pos (by omega),if_pos (by simp only[aqV,ar2]; omega)]
  simp only[arG,ar4,arK,QU,cD,Ms];congr 4;repeat' split
  all_goals omega
theorem o5 {α:Type} {ok:α->Bool} {lt:α->α->Bool} (htr:∀ a b c,lt a b=true->lt b c=true->lt a c=true):
  ∀ (l:List α) (p:α),yH ok lt (some p) l=true->∀ y∈l,lt p y=true
 | [],p,_,y,hy=>by cases hy
 | x::l,p,h,y,hy=>by
  simp only[yH,aqF] at h;rcases List.mem_cons.1 hy with rfl|hy
  ·exact h.2.1
  ·exact htr _ _ _ h.2.1 (o5 htr l x h.2.2 y hy)
theorem xa {α:Type} {ok:α->Bool} {lt:α->α->Bool} (htr:∀ a b c,lt a b=true->lt b c=true->lt a c=true):
  ∀ (l1:List α) (x:α) (l2:List α) (p:Option α),yH ok lt p (l1++x::l2)=true->(∀ y∈l1,lt y x=true)/\(∀ y∈l2,lt x y=true)
 | [],x,l2,p,h=>by
  simp only[ar6,yH,aqF] at h;exact⟨by simp,o5 htr l2 x h.2.2⟩
 | a::l1,x,l2,p,h=>by
  simp only[arE,yH,aqF] at h;obtain⟨g1,g2⟩:=xa htr l1 x l2 (some a) h.2.2;refine⟨?_,g2⟩;intro y hy;rcases List.mem_cons.1 hy with rfl|hy
  ·exact o5 htr _ _ h.2.2 x (by simp)
  ·exact g1 y hy
def yn {α:Type} (q:α->Bool):Nat->List α->Nat
 | i,[]=>i
 | i,x::l=>bif q x then i else yn q (i+1) l
theorem pr {α:Type} {q:α->Bool}:∀ (l1 l2:List α) (i:Nat),(∀ y∈l1,q y=false)->(∀ y∈l2,q y=true)->yn q i (l1++l2)=i+l1.length
 | [],[],i,_,_=>rfl
 | [],x::l2,i,_,h2=>by simp[yn,h2 x (by simp)]
 | x::l1,l2,i,h1,h2=>by
  simp only[List.cons_append,yn,h1 x (by simp),cond_false,pr l1 l2 (i+1) (λ y hy=>h1 y (by simp[hy])) h2,List.length_cons];omega
theorem qT {α:Type} (q:α->Bool):∀ (l:List α) (i:Nat),i<=yn q i l/\yn q i l<=i+l.length
 | [],i=>by simp[yn]
 | x::l,i=>by
  have:=qT q l (i+1);simp only[yn,aqG];cases q x<;>simp only[aqE,aqD]<;>omega
theorem abs {α:Type} {ok:α->Bool} {lt:α->α->Bool} (htr:∀ a b c,lt a b=true->lt b c=true->lt a c=true) (has:∀ a b,lt a b=true->lt b a=false)
  (l:List α) (x:α) (k:Nat) (hk:k<=l.length) (h:yH ok lt none (l.take k++x::l.drop k)=true):
  yn (λ y => !lt y x) 0 l=k/\yn (λ y=>lt x y) 0 l=k:=by
 obtain⟨g1,g2⟩:=xa htr _ _ _ _ h;have e:l=l.take k++l.drop k:=(List.take_append_drop k l).symm;have hl:(l.take k).length=k:=by rw[aqV]; omega
 constructor
 ·have:=pr (q:=λ y => !lt y x) (l.take k) (l.drop k) 0 (λ y hy=>by simp[g1 y hy]) (λ y hy=>by simp[has _ _ (g2 y hy)]);rw[←e,hl] at this;omega
 ·have:=pr (q:=λ y=>lt x y) (l.take k) (l.drop k) 0 (λ y hy=>has _ _ (g1 y hy)) (λ y hy=>g2 y hy);rw[←e,hl] at this;omega
theorem UR (a b c:zK) (h1:yj a b=true) (h2:yj b c=true):yj a c=true:=by
 unfold yj at *;simp only[arj,aqF,aqP,ar5] at *;omega
theorem UQ (a b:zK) (h:yj a b=true):yj b a=false:=by
 cases hb:yj b a
 ·rfl
 ·unfold yj at *;simp only[arj,aqF,aqP,ar5] at *;omega
def Y9 (p:zy) (x:zK) (k:Nat):zy×Bool:=bif jz (p.take k++x::p.drop k) then (p.take k++x::p.drop k,true) else (p,false)
def Ys (p:zy) (x:zK):zy×Bool:=Y9 p x (yn (λ y => !yj y x) 0 p)
theorem abl (p:zy) (x:zK):Y9 p x (yn (λ y=>yj x y) 0 p)=Ys p x:=by
 have h1:=(qT (λ y => !yj y x) p 0).2;have h2:=(qT (λ y=>yj x y) p 0).2;unfold Ys;have key:∀ k,k<=p.length->jz (p.take k++x::p.drop k)=true->yn (λ y => !yj y x) 0 p=k/\yn (λ y=>yj x y) 0 p=k:=by
  intro k hk h;unfold jz at h;rw[aqF] at h;exact abs UR UQ p x k hk h.1
 generalize ha:yn (λ y=>yj x y) 0 p=a at *;generalize hb:yn (λ y => !yj y x) 0 p=b at *;cases h:jz (p.take a++x::p.drop a)
 ·cases h':jz (p.take b++x::p.drop b)
  ·simp[Y9,h,h']
  ·have:=key b (by omega) h';rw[←this.2]
 ·have:=key a (by omega) h;rw[←this.1]
theorem afQ (p:zy) (x:zK) (hp:p.length<=137438953471):nr (p,x,())=some ((Ys p x).1,(Ys p x).2,()):=by
 unfold nr Ys;dsimp only;have ahG:∀ k:Nat,k<=p.length->(if (((0:Int)<=0)/\((0<=(k:Int))/\((k:Int)<=(p.length:Int)))) then (if (((0+(List.length (List.take ((Int.toNat (k:Int)) - (Int.toNat 0)) (List.drop (Int.toNat 0) p))))*32)<=70368744177664) then
   (if ((((List.length ([]++(List.take ((Int.toNat (k:Int)) - (Int.toNat 0)) (List.drop (Int.toNat 0) p))))+(List.length (x::[])))*32)<=70368744177664) then (if ((0<=(k:Int))/\(((k:Int)<=(p.length:Int))/\((p.length:Int)<=(p.length:Int)))) then
   (if ((((List.length (([]++(List.take ((Int.toNat (k:Int)) - (Int.toNat 0)) (List.drop (Int.toNat 0) p)))++(x::[])))+(List.length (List.take ((Int.toNat (p.length:Int)) - (Int.toNat (k:Int))) (List.drop (Int.toNat (k:Int)) p))))*32)<=70368744177664) then
   ((N7 (((([]++(List.take ((Int.toNat (k:Int)) - (Int.toNat 0)) (List.drop (Int.toNat 0) p)))++(x::[]))++(List.take ((Int.toNat (p.length:Int)) - (Int.toNat (k:Int))) (List.drop (Int.toNat (k:Int)) p))),())).bind λ r2=>(bif (!r2.1) then (if (((0+(List.length p))*32)<=70368744177664) then some (([]++p),(false,())) else none) else
   some (((([]++(List.take ((Int.toNat (k:Int)) - (Int.toNat 0)) (List.drop (Int.toNat 0) p)))++(x::[]))++(List.take ((Int.toNat (p.length:Int)) - (Int.toNat (k:Int))) (List.drop (Int.toNat (k:Int)) p))),(true,())))) else none) else none) else none) else none) else none)=some ((Y9 p x k).1,(Y9 p x k).2,()):=by
  intro k hk;simp only[aqN,arG,arK,ar4,ar6];have e:List.take (p.length - k) (p.drop k)=p.drop k:=List.take_of_length_le (by simp);rw[e];simp only[aqV,aqM,aqG,aqJ,ar2];rw[if_pos (by omega),if_pos (by omega),if_pos (by omega),if_pos (by omega),if_pos (by omega),if_pos (by omega)];rw[Iv _ (by simp only[aqM,aqV,aqG,aqJ,ar2]; omega),Option.bind_some]
  unfold Y9;rw[show p.take k++[x]++p.drop k=p.take k++x::p.drop k by simp];cases jz (p.take k++x::p.drop k)<;>rfl
 refine (walk p.length (λ i (_:Unit)=>(i,())) (λ _ _=>True) (λ i _=>some ((Y9 p x (yn (λ y => !yj y x) i (p.drop i))).1,(Y9 p x (yn (λ y => !yj y x) i (p.drop i))).2,())) (by omega) ?_ ?_ (s0:=()) trivial).trans (by simp only[ar4])
 ·intro rec s _;rw[arb];simp only[aqY,aqL,aqD,yn];exact ahG p.length (Nat.le_refl _)
 ·intro rec i s hi _;have hx:p[i]?=some p[i]:=List.getElem?_eq_getElem hi;rw[aqX hi];simp only[(zv hi).2,aqH,aqE];rw[if_pos (show (0:Int)<=(i:Int)/\True from⟨by omega,trivial⟩)];simp only[aqN,zm (e:=jZ) hx,IK,aqC,zq (show i<4611686018427387904 by omega),yn];cases hb:yj p[i] x
  ·left;have:=ahG i (by omega);simp only[aqN] at this;simp only[aqD,ar1,aqE];exact this
  ·right;exact⟨(),trivial,by simp only[aqE],by simp only[aqI,aqD]⟩
theorem W5 (p:zy) (x:zK) (hp:p.length<=137438953471):mU (p,x,())=some ((if yn (λ y=>yj x y) 0 p<p.length then ((yn (λ y=>yj x y) 0 p:Nat):Int) else -1),()):=by
 unfold mU;refine (walk p.length (λ i (_:Unit)=>(i,())) (λ _ _=>True) (λ i _=>some ((if yn (λ y=>yj x y) i (p.drop i)<p.length then ((yn (λ y=>yj x y) i (p.drop i):Nat):Int) else -1),())) (by omega) ?_ ?_ (s0:=()) trivial).trans (by simp only[ar4])
 ·intro rec s _;rw[arb];simp only[aqY,aqL,aqD,yn,Nat.lt_irrefl,if_false]
 ·intro rec i s hi _;have hx:p[i]?=some p[i]:=List.getElem?_eq_getElem hi;rw[aqX hi];unfold pK;simp only[zv hi,aqH,aqE,aqS,if_true,aqN,zm (e:=jZ) hx,AH,aqC,zq (show i<4611686018427387904 by omega),yn];by_cases hb:yj x p[i]=true
  ·left;simp only[hb,aqE,hi,if_true]
  ·right;have hb':yj x p[i]=false:=by simpa using hb
   exact⟨(),trivial,by simp only[hb',aqD],by simp only[hb',aqD]⟩
theorem X1 (p:zy) (x:zK) (k:Nat) (hk:k<=p.length) (hp:p.length<=137438953471):aq (p,(k:Int),[x],())=some (p.take k++x::p.drop k,()):=by
 unfold aq Qu;dsimp only;simp only[aqG,aqJ];rw[if_pos (by omega),aqN];simp
theorem Xi (p:zy) (x:zK) (hp:p.length<=137438953471):gB (p,x,())=some ((Ys p x).1,(Ys p x).2,()):=by
 rw[←abl];have hle:=(qT (λ y=>yj x y) p 0).2;unfold gB;rw[W5 p x hp,aqC];generalize yn (λ y=>yj x y) 0 p=k at *;have ahG:∀ k:Nat,k<=p.length->((KF (p,())).bind λ r5=>((aq (r5.1,((k:Int),((x::[]),())))).bind λ r6=>((No (r6.1,())).bind λ r7=>(bif (!r7.1) then ((KF (p,())).bind λ r8=>some (r8.1,(false,()))) else some (r6.1,(true,()))))))=some ((Y9 p x k).1,(Y9 p x k).2,()):=by
  intro k hk;rw[AM p (by simp only[Kt]; omega),Option.bind_some,X1 p x k hk hp,Option.bind_some,Az _ (by simp only[aqM,aqV,aqG,ar2]; omega),Option.bind_some]
  unfold Y9;cases jz (p.take k++x::p.drop k)<;>rfl
 by_cases hlt:k<p.length
 ·rw[if_pos hlt];have:decide (((k:Nat):Int)<0)=false:=by simp
  dsimp only;rw[this,aqD];exact ahG k (by omega)
 ·rw[if_neg hlt];have e:k=p.length:=by omega
  subst e;have:decide ((-1:Int)<0)=true:=rfl;dsimp only;rw[this,aqE];exact ahG p.length (Nat.le_refl _)
noncomputable def Y4 (c:za) (r:zb) (x:zK):zb×Bool:=
 bif zd c r then ((r.1,r.2.1,r.2.2.1,r.2.2.2.1,(Ys r.2.2.2.2.1 x).1,r.2.2.2.2.2),(Ys r.2.2.2.2.1 x).2) else (r,false)
theorem abj {p:zy} {x:zK} (h:(Ys p x).2=false):(Ys p x).1=p:=by
 unfold Ys Y9 at *;generalize yn (λ y => !yj y x) 0 p=k at *;cases hk:jz (p.take k++x::p.drop k)
 ·rfl
 ·rw[hk] at h; cases h
theorem oy {r:zb} {N:Nat} (h:zf r<=N):r.2.2.2.2.1.length<=N:=by simp only[zf,Kt] at h; omega
theorem afF (c:za) (r:zb) (x:zK) (hw:zf r<=137438953471):nh (c,r,x,())=some ((Y4 c r x).1,(Y4 c r x).2,()):=by
 have h1:=oy hw;unfold nh Y4;simp only[Yd r (by omega),YW c r (by omega),afQ r.2.2.2.2.1 x h1,aqC];cases zd c r
 ·rfl
 ·cases hp:(Ys r.2.2.2.2.1 x).2
  ·rw[abj hp]; rfl
  ·rfl
theorem W3 (c:za) (r:zb) (x:zK) (hw:zf r<=1073741824):gj (c,r,x,())=some ((Y4 c r x).1,(Y4 c r x).2,()):=by
 have h1:=oy hw;unfold gj Y4;simp only[ZW r (by omega),ZU c r hw,Xi r.2.2.2.2.1 x (by omega),aqC];cases zd c r<;>rfl
end G448
