/- Plain laws, part 1: what the functions compute. No program in sight. -/
import Derived.Test.YtbpajdecanoolaaGreatDoorAsFns
import Derived.Lib.IndexBytes
import Derived.Lib.IndexLaws
import Derived.Lib.SplitLaws
import Derived.Lib.ItoaNum
import Derived.Lib.LastIndexByte
set_option linter.unusedSimpArgs false
set_option linter.unusedVariables false
namespace G448
open Ev
theorem Qv {S R:Type} {G:(S->Option R)->S->Option R} (f:S->Option R) (μ:S->Nat) (I:S->Prop)
  (h:∀ (rec:S->Option R) (x:S),I x->(∀ y,I y->μ y<μ x->rec y=f y)->G rec x=f x):∀ (n:Nat) (x:S),I x->μ x<n->iter G n x=f x
 | 0,x,_,hn=>by omega
 | n+1,x,hx,hn=>h (iter G n) x hx λ y hy hlt=>Qv f μ I h n y hy (by omega)
def L3 {α S R:Type} (body:α->S->(S->Option R)->Option R) (k:S->Option R):List α->S->Option R
 | [],s=>k s
 | x::xs,s=>body x s (L3 body k xs)
theorem xk {α S R:Type} (body:α->S->(S->Option R)->Option R) (k:S->Option R) (x:α) (xs:List α) (s:S):L3 body k (x::xs) s=body x s (L3 body k xs):=rfl
theorem Az {X S R:Type} (len:Nat) {G:(X->Option R)->X->Option R} (mk:Int->S->X) (f:Nat->S->Option R) (hlen:len<=1152921504606846976)
  (ag7:∀ rec s,G rec (mk (len:Int) s)=f len s)
  (ag5:∀ rec (i:Nat) s,i<len->(∀ s',rec (mk ((i:Int)+1) s')=f (i+1) s')->G rec (mk (i:Int) s)=f i s):
  ∀ n i s,i<=len->len - i<n->iter G n (mk (i:Int) s)=f i s
 | 0,i,s,_,hn=>by omega
 | n+1,i,s,hi,hn=>by
  rcases Nat.lt_or_ge i len with h|h
  ·exact ag5 (iter G n) i s h λ s'=>Az len mk f hlen ag7 ag5 n (i+1) s' (by omega) (by omega)
  ·have:i=len:=by omega
   subst this;exact ag7 (iter G n) s
theorem YU {n:Nat} (h:n<=1152921504606846976):n<fuel:=by rw[Zn]; omega
theorem bI {α X S R:Type} (l:List α) {G:(X->Option R)->X->Option R} (body:α->S->(S->Option R)->Option R) (k:S->Option R) (mk:Int->S->X) (hl:l.length<=1152921504606846976)
  (ag7:∀ rec s,G rec (mk (l.length:Int) s)=k s)
  (ag5:∀ rec (i:Nat) s (x:α),l[i]?=some x->i<l.length->G rec (mk (i:Int) s)=body x s (λ s'=>rec (mk ((i:Int)+1) s')))
  (anp:∀ x s (r1 r2:S->Option R),(∀ s',r1 s'=r2 s')->body x s r1=body x s r2) (s:S):iter G fuel (mk 0 s)=L3 body k l s:=by
 have:=Az l.length mk (λ i s=>L3 body k (l.drop i) s) hl (λ rec s=>by simpa[L3] using ag7 rec s) (λ rec i s hi afU=>by
  rw[ag5 rec i s l[i] (List.getElem?_eq_getElem hi) hi,List.drop_eq_getElem_cons hi];exact anp _ _ _ _ afU) fuel 0 s (Nat.zero_le _) (by simpa using YU hl)
 simpa using this
theorem zg {n:Int} (h1 : -9223372036854775808<=n) (h2:n<=9223372036854775807):wr n=n:=by rw[nZ]; omega
theorem zo {i:Nat} (h:i<4611686018427387904):wr ((i:Int)+1)=(i:Int)+1:=zg (by omega) (by omega)
theorem zm {e:Ty} {l:List (den e)} {i:Nat} {x:den e} (h:l[i]?=some x):rd e l i=x:=by
 simp[rd,aqG,h]
theorem zr {α:Type} {l:List α} {i:Nat} (h:i<l.length):(0:Int)<=(i:Int)/\(i:Int)<(l.length:Int):=by omega
theorem fx {α β:Type} {l:List α} {out:List β} {i:Nat} (y:β) (g:α->β) (h:i<l.length) (ho:out.length=l.length) (hy:y=g l[i]):
  (out.set i y).take (i+1)++(l.drop (i+1)).map g=out.take i++(l.drop i).map g:=by
 have hi:i<out.length:=by omega
 rw[aq7 h,aq5,←hy,arh,List.take_set_of_le (aqs i),List.getElem?_set_self hi];simp
theorem Vz {α β R:Type} (l:List α) (g:α->β) {G:(Int×List β×Unit->Option R)->Int×List β×Unit->Option R} (k:List β->Option R) (hl:l.length<=1152921504606846976)
  (ag7:∀ rec out,out.length=l.length->G rec ((l.length:Int),out,())=k out)
  (ag5:∀ rec (i:Nat) out x,l[i]?=some x->i<l.length->out.length=l.length->G rec ((i:Int),out,())=rec ((i:Int)+1,out.set i (g x),())) (out:List β) (ho:out.length=l.length):
  iter G fuel (0,out,())=k (l.map g):=by
 have key:∀ n i (out:List β),i<=l.length->out.length=l.length->l.length - i<n->iter G n ((i:Int),out,())=k (out.take i++(l.drop i).map g):=by
  intro n;induction n with
  | zero=>intro i out h1 h2 h3; omega
  | succ n ih=>
   intro i out hi ho hn;rcases Nat.lt_or_ge i l.length with h|h
   ·have e1:iter G (n+1) ((i:Int),out,())=iter G n ((i:Int)+1,out.set i (g l[i]),()):=ag5 (iter G n) i out l[i] (List.getElem?_eq_getElem h) h ho;have e2:=ih (i+1) (out.set i (g l[i])) h (by simpa using ho) (by omega);rw[fx (g l[i]) g h ho rfl] at e2;rw[e1];exact e2
   ·have hi':i=l.length:=by omega
    subst hi';have e1:iter G (n+1) ((l.length:Int),out,())=k out:=ag7 (iter G n) out ho;rw[e1,ar6 (by omega),ars (aqs _)];simp
 have:=key fuel 0 out (Nat.zero_le _) ho (by simpa using YU hl);simpa using this
theorem xj {α:Type} (p:α->Bool) (l:List α):L3 (S:=Unit) (λ x s rec=>bif p x then some (true,()) else rec s) (λ _=>some (false,())) l ()=some (l.any p,()):=by
 induction l with
 | nil=>rfl
 | cons x xs ih=>rw[xk,ih]; cases h:p x<;>simp[h]
theorem oZ {α:Type} (p:α->Bool) (l:List α):L3 (S:=Unit) (λ x s rec=>bif p x then rec s else some (false,())) (λ _=>some (true,())) l ()=some (l.all p,()):=by
 induction l with
 | nil=>rfl
 | cons x xs ih=>rw[xk,ih]; cases h:p x<;>simp[h]
def sub (left:Int) (w:Nat):Int:=if left<(w:Int) then -1 else left - w
theorem sub_zero {left:Int} (h:0<=left):sub left 0=left:=by unfold sub; rw[if_neg (by simpa using h)]; simp
def Ens {α:Type} (o:Option α) (P:α->Prop):Prop:=∃ y,o=some y/\P y
theorem Ens.bind {α β:Type} {x:Option α} {f:α->Option β} {P:α->Prop} {Q:β->Prop} (h:Ens x P) (hf:∀ y,P y->Ens (f y) Q):Ens (x.bind f) Q:=by
 obtain⟨y,rfl,hy⟩:=h;exact hf y hy
theorem Ens.some {α:Type} {x:α} {P:α->Prop} (h:P x):Ens (some x) P:=⟨x,rfl,h⟩
theorem Ens.mono {α:Type} {o:Option α} {P Q:α->Prop} (h:Ens o P) (hq:∀ y,P y->Q y):Ens o Q:=by
 obtain⟨y,e,hy⟩:=h;exact⟨y,e,hq y hy⟩
theorem Ens.cond {α:Type} {c:Bool} {a b:Option α} {P:α->Prop} (ha:c=true->Ens a P) (hb:c=false->Ens b P):Ens (bif c then a else b) P:=by
 cases c with
 | true=>exact ha rfl
 | false=>exact hb rfl
theorem Ens.ite {α:Type} {c:Prop} [Decidable c] {a b:Option α} {P:α->Prop} (hc:c) (ha:Ens a P):Ens (if c then a else b) P:=by
 rw[if_pos hc]; exact ha
theorem Ens.loop {S R:Type} {G:(S->Option R)->S->Option R} (I:S->Prop) (μ:S->Nat) {P:R->Prop}
  (h:∀ (rec:S->Option R) (x:S),I x->(∀ y,I y->μ y<μ x->Ens (rec y) P)->Ens (G rec x) P) {x:S} (hx:I x) (hm:μ x<fuel):Ens (iter G fuel x) P:=by
 have key:∀ (n:Nat) (x:S),I x->μ x<n->Ens (iter G n x) P:=by
  intro n;induction n with
  | zero=>intro x _ hn; omega
  | succ n ih=>intro x hx hn; exact h (iter G n) x hx λ y hy hlt=>ih y hy (by omega)
 exact key fuel x hx hm
def big:Nat:=140737488355328
theorem WR {α:Type} (p:α->Bool) (l:List α) {G:(Int×Unit->Option (Int×Unit))->Int×Unit->Option (Int×Unit)} (hl:l.length<=1152921504606846976)
  (ag7:∀ rec s,G rec ((l.length:Int),s)=some (-1,()))
  (ag5:∀ rec (i:Nat) s x,l[i]?=some x->i<l.length->G rec ((i:Int),s)=bif p x then some ((i:Int),()) else rec ((i:Int)+1,s)):
  ∃ r:Int,iter G fuel (0,())=some (r,())/\decide (r≥0)=l.any p:=by
 have key:∀ n i,i<=l.length->l.length - i<n->∃ r:Int,iter G n ((i:Int),())=some (r,())/\decide (r≥0)=(l.drop i).any p:=by
  intro n;induction n with
  | zero=>intro i h1 h2; omega
  | succ n ih=>
   intro i hi hn;rcases Nat.lt_or_ge i l.length with h|h
   ·have e1:iter G (n+1) ((i:Int),())=bif p l[i] then some ((i:Int),()) else iter G n ((i:Int)+1,()):=ag5 (iter G n) i () l[i] (List.getElem?_eq_getElem h) h;rw[aq7 h,List.any_cons,e1];cases hp:p l[i] with
    | true=>exact⟨i,rfl,by simp⟩
    | false=>
     obtain⟨r,h1,h2⟩:=ih (i+1) h (by omega);exact⟨r,h1,by simpa using h2⟩
   ·have hi':i=l.length:=by omega
    subst hi';exact⟨-1,ag7 (iter G n) (),by simp⟩
 simpa using key fuel 0 (Nat.zero_le _) (by simpa using YU hl)
theorem An {α:Type} (p:α->Bool) (l:List α) {G:(Int×Unit->Option (Int×Unit))->Int×Unit->Option (Int×Unit)} (hl:l.length<=1152921504606846976)
  (ag7:∀ rec s,G rec ((l.length:Int),s)=some (-1,()))
  (ag5:∀ rec (i:Nat) s x,l[i]?=some x->i<l.length->G rec ((i:Int),s)=bif p x then some ((i:Int),()) else rec ((i:Int)+1,s)):
  ((iter G fuel (0,())).bind λ r=>some (decide (r.1≥0),()))=some (l.any p,()):=by
 obtain⟨r,h1,h2⟩:=WR p l hl ag7 ag5;rw[h1,apL,←h2]
theorem wD {R:Type} (l m:List Int) {G:(Int×Unit->Option R)->Int×Unit->Option R} (yes no:R) (hl:l.length<=1152921504606846976)
  (ag7:∀ rec (i:Nat) s,i<=l.length->i<=m.length->(i=l.length∨i=m.length)->G rec ((i:Int),s)=some (if l.length=m.length then yes else no))
  (ag5:∀ rec (i:Nat) s x y,l[i]?=some x->m[i]?=some y->i<l.length->i<m.length->G rec ((i:Int),s)=bif x != y then some no else rec ((i:Int)+1,s)):
  iter G fuel (0,())=some (if l=m then yes else no):=by
 have key:∀ n i,i<=l.length->i<=m.length->l.length - i<n->iter G n ((i:Int),())=some (if l.drop i=m.drop i then yes else no):=by
  intro n;induction n with
  | zero=>intro i h1 h2 h3; omega
  | succ n ih=>
   intro i hi hi2 hn;by_cases he:i=l.length∨i=m.length
   ·have e1:iter G (n+1) ((i:Int),())=some (if l.length=m.length then yes else no):=ag7 (iter G n) i () hi hi2 he;have e2:(l.drop i=m.drop i)=(l.length=m.length):=by
     apply propext;constructor
     ·intro e;have:=congrArg List.length e;simp only[aqa] at this;omega
     ·intro e;rw[ars (by omega),ars (by omega)]
    simp only[e1,e2]
   ·have h:i<l.length:=by omega
    have hm:i<m.length:=by omega
    have e1:iter G (n+1) ((i:Int),())=bif l[i] != m[i] then some no else iter G n ((i:Int)+1,()):=ag5 (iter G n) i () l[i] m[i] (List.getElem?_eq_getElem h) (List.getElem?_eq_getElem hm) h hm;rw[e1,aq7 h,aq7 hm];by_cases he:l[i]=m[i]
    ·rw[he];simp only[bne_self_eq_false,apM,aqe,true_and];exact ih (i+1) h hm (by omega)
    ·have:(l[i] != m[i])=true:=by simpa using he
     rw[this,apN,if_neg (λ e=>he (List.cons.inj e).1)]
 have:=key fuel 0 (Nat.zero_le _) (Nat.zero_le _) (by simpa using YU hl);simpa only [List.drop_zero,Int.natCast_zero] using this
theorem Y8 (l:List Int) (v:Int) (h:l.length<=1152921504606846976):jL (l,v,())=some (l.any (· == v),()):=by
 unfold jL;refine (bI l (λ x s rec=>bif x==v then some (true,()) else rec s) (λ s=>some (false,())) (λ i s=>(i,s)) h ?_ ?_ ?_ ()).trans (xj _ _)
 ·intro rec s; simp
 ·intro rec i s x hx hi;simp only[apW,zr hi,apR,apN,if_true,apZ,rd,aqG,hx,aqw,zo (show i<4611686018427387904 by omega)]
 ·intro x s r1 r2 hr; simp[hr]
theorem IL (l:List Int) (v:Int) (h:l.length<=1152921504606846976):my (l,v,())=some (l.any (v == ·),()):=by
 unfold my uN;refine An (v == ·) l h ?_ ?_
 ·intro rec s; simp
 ·intro rec i s x hx hi;simp only[apW,zr hi,apR,apN,if_true,apZ,rd,aqG,hx,aqw,zo (show i<4611686018427387904 by omega)]
theorem Js (l:List Int) (v:Int) (h:l.length<=1152921504606846976):ZQ (l,v,())=some (l.any (· == v),()):=by
 unfold ZQ;simp only[IL l v h,apL];congr 2;apply congrArg (λ f=>l.any f);funext x;exact Bool.beq_comm
theorem vP (l m:List Int) (hl:l.length<=1152921504606846976):dE (l,m,())=some (decide (l=m),()):=by
 unfold dE;by_cases hlm:l.length=m.length
 ·simp only[hlm,bne_self_eq_false,apM];rw[←hlm];refine (wD l m (true,()) (false,()) hl ?_ ?_).trans (by by_cases h:l=m<;>simp[h])
  ·intro rec i s h1 h2 h3;have hnl:¬ (i:Int)<(l.length:Int):=by omega
   simp only[hlm] at hnl ⊢;simp[hnl]
  ·intro rec i s x y hx hy hi hm;simp only[apW,(zr hi).1,(zr hi).2,(zr hm).2,apR,apN,if_true,apZ,rd,aqG,hx,hy,aqw,zo (show i<4611686018427387904 by omega)]
 ·have h1:(((l.length:Nat):Int) != ((m.length:Nat):Int))=true:=bne_iff_ne.2 (by omega);have h2:¬ l=m:=λ h=>hlm (by rw[h]);simp[h1,h2]
theorem AP (l m:List Int) (hl:l.length<=1152921504606846976):er (l,m,())=some (decide (l=m),()):=by
 unfold er;refine (wD l m (true,()) (false,()) hl ?_ ?_).trans (by by_cases h:l=m<;>simp[h])
 ·intro rec i s h1 h2 h3;rcases Nat.lt_or_ge i l.length with h|h
  ·have hm:i=m.length:=by omega
   have hnm:¬ (i:Int)<(m.length:Int):=by omega
   have hbe:(((l.length:Nat):Int)==((m.length:Nat):Int))=false:=by simp; omega
   have hne:¬ l.length=m.length:=by omega
   simp only[zr h,hnm,apR,apU,apN,apM,hbe,if_neg hne]
  ·have hnl:¬ (i:Int)<(l.length:Int):=by omega
   simp only[hnl,apU,apM];by_cases e:l.length=m.length
   ·simp[e]
   ·have hbe:(((l.length:Nat):Int)==((m.length:Nat):Int))=false:=by simp; omega
    simp only[hbe,if_neg e]
 ·intro rec i s x y hx hy hi hm;simp only[apW,(zr hi).1,(zr hi).2,(zr hm).2,apR,apN,if_true,apZ,rd,aqG,hx,hy,aqw,zo (show i<4611686018427387904 by omega)]
abbrev yV:=List UInt8×Int
def yC (d:yV):Bool:=decide ((d.1.length:Int)<=100000) && (decide (d.2≥0) && decide (d.2<=(d.1.length:Int)))
theorem mG (d:yV):MB (d,())=some (yC d,()):=by
 unfold MB yy yC;cases h1:decide ((d.1.length:Int)<=100000)<;>cases h2:decide (d.2≥0)<;>simp[h1,h2]
theorem fO (d:yV):M7 (d,())=some (yC d,()):=by
 unfold M7 yo yC;cases h1:decide ((d.1.length:Int)<=100000)<;>cases h2:decide (d.2≥0)<;>simp[h1,h2]
theorem nr (d:yV) (h:d.1.length<=35184372088832):LK (d,())=some (d,()):=by
 unfold LK;dsimp only;rw[if_pos (by omega)];rfl
theorem gL (d:yV) (h:d.1.length<=35184372088832):Nm (d,())=some (d,()):=by
 unfold Nm;dsimp only;rw[if_pos (by omega)]
def jl (d:yV) (b:List UInt8):yV×Bool:=if yC d=true/\d.1.length+b.length<=100000 then ((d.1++b,d.2),true) else (d,false)
theorem aep (d:yV) (b:List UInt8) (h:d.1.length<=17592186044416) (hb:b.length<=17592186044416):mC (d,b,())=some ((jl d b).1,(jl d b).2,()):=by
 unfold mC jl;simp only[nr d (by omega),apL,mG];rw[if_pos (by omega)];cases h1:yC d with
 | false=>simp
 | true=>
  simp only[apT,apM,true_and];have h2:yC (d.1++b,d.2)=decide (d.1.length+b.length<=100000):=by
   simp only[yC,apO,apY] at h1;obtain⟨g1,g2,g3⟩:=h1;by_cases h3:d.1.length+b.length<=100000
   ·simp[yC,h3,g2]; omega
   ·simp[yC,h3]; omega
  rw[h2];by_cases h3:d.1.length+b.length<=100000
  ·simp[h3]
  ·simp[h3]
theorem VN (d:yV) (b:List UInt8) (h:d.1.length<=17592186044416) (hb:b.length<=17592186044416):fJ (d,b,())=some ((jl d b).1,(jl d b).2,()):=by
 unfold fJ jl;simp only[gL d (by omega),apL,fO];rw[if_pos (by omega)];cases h1:yC d with
 | false=>simp
 | true=>
  simp only[apT,apM,true_and];rw[zg (by omega) (by omega)];by_cases h3:d.1.length+b.length<=100000
  ·have:decide ((d.1.length:Int)+b.length>100000)=false:=by simp; omega
   simp[h3,this]
  ·have:decide ((d.1.length:Int)+b.length>100000)=true:=by simp; omega
   simp[h3,this]
theorem TZ (d:yV) (b:List UInt8):(jl d b).1.1.length<=d.1.length+b.length:=by
 unfold jl;split<;>simp
theorem ZK {α:Type} {l:List α} {x:α} (f:α->Nat) (h:x∈l):f x<=(l.map f).sum:=by
 induction l with
 | nil=>cases h
 | cons y r ih=>
  simp only[aq5,aqo];rcases List.mem_cons.1 h with rfl|h
  ·omega
  ·have:=ih h; omega
abbrev yZ:=List Int
abbrev v7:=List UInt8
abbrev zI:=Int×Int×Int×Int
abbrev YS:=Int×List UInt8×Int
abbrev zH:=Int×List UInt8×yZ
abbrev zO:=Int×List UInt8×yZ
abbrev jd:=List UInt8×zH
abbrev zt:=Int×Int×jd×zO×zH×Int×zI
abbrev K1:=Int×zt
abbrev qz:=Int×v7
abbrev zD:=Int×Int×zH×List UInt8
abbrev zw:=List zI
abbrev yJ:=List YS
abbrev yb:=List zO
abbrev jI:=List K1
abbrev y9:=List qz
abbrev zb:=Int×Int×Int×zD×zw×yb×yV×jI
abbrev Yc:=List zb
abbrev za:=Int×Int
abbrev zV:=yZ×yZ
abbrev zp:=za×yZ×Yc×y9×yJ
abbrev Zl:=Int×Int×Int×zt
def zq (x:yZ):Nat:=x.length
def bl (x:v7):Nat:=x.length
def KU (x:yV):Nat:=x.1.length
def MP (x:YS):Nat:=x.2.1.length
def zj (x:zH):Nat:=x.2.1.length+zq x.2.2
def zn (x:zO):Nat:=x.2.1.length+zq x.2.2
def zx (x:jd):Nat:=x.1.length+zj x.2
def zh (x:zt):Nat:=zx x.2.2.1+zn x.2.2.2.1+zj x.2.2.2.2.1
def Z7 (x:K1):Nat:=zh x.2
def Z8 (x:qz):Nat:=bl x.2
def zy (x:zD):Nat:=zj x.2.2.1+x.2.2.2.length
def Ko (x:zw):Nat:=x.length
def JR (x:yJ):Nat:=x.length+(x.map MP).sum
def zG (x:yb):Nat:=x.length+(x.map zn).sum
def ym (x:jI):Nat:=x.length+(x.map Z7).sum
def Z9 (x:y9):Nat:=x.length+(x.map Z8).sum
def ze (x:zb):Nat:=zy x.2.2.2.1+Ko x.2.2.2.2.1+zG x.2.2.2.2.2.1+KU x.2.2.2.2.2.2.1+ym x.2.2.2.2.2.2.2
def JQ (x:Yc):Nat:=x.length+(x.map ze).sum
def eD (x:zV):Nat:=zq x.1+zq x.2
def yu (x:zp):Nat:=zq x.2.1+JQ x.2.2.1+Z9 x.2.2.2.1+JR x.2.2.2.2
def MsgW (m:zt):Prop:=m.2.2.1.2.2.2.length<=8796093022208/\m.2.2.2.1.2.2.length<=8796093022208/\m.2.2.2.2.1.2.2.length<=8796093022208
theorem MsgW.of {m:zt} (h:zh m<=137438953472):MsgW m:=by
 simp only[zh,zx,zj,zn,zq] at h;unfold MsgW;omega
def jj (a b:zH):Bool:=a.1==b.1 && (a.2.1==b.2.1 && decide (a.2.2=b.2.2))
theorem uU (a b:zH) (h:a.2.2.length<=8796093022208):aG (a,b,())=some (jj a b,()):=by
 unfold aG jj;simp only[AP a.2.2 b.2.2 (by omega),apL];cases a.1==b.1<;>cases a.2.1==b.2.1<;>simp
theorem Qh (a b:zH) (h:a.2.2.length<=8796093022208):Lc (a,b,())=some (jj a b,()):=by
 unfold Lc jj;simp only[vP a.2.2 b.2.2 (by omega),apL];cases a.1==b.1<;>cases a.2.1==b.2.1<;>simp
theorem af8 (a b:zH) (h:a.2.2.length<=8796093022208):ns (a,b,())=some (jj a b,()):=by
 unfold ns jj;simp only[AP a.2.2 b.2.2 (by omega),apL];cases a.1==b.1<;>cases a.2.1==b.2.1<;>simp
theorem WN (a b:zH) (h:a.2.2.length<=8796093022208):gR (a,b,())=some (jj a b,()):=by
 unfold gR jj;simp only[vP a.2.2 b.2.2 (by omega),apL];cases a.1==b.1<;>cases a.2.1==b.2.1<;>simp
def Ku (a b:jd):Bool:=a.1==b.1 && jj a.2 b.2
theorem aeq (a b:jd) (h:a.2.2.2.length<=8796093022208):mE (a,b,())=some (Ku a b,()):=by
 unfold mE Ku;simp only[uU a.2 b.2 h,apL];cases a.1==b.1<;>simp
theorem VQ (a b:jd) (h:a.2.2.2.length<=8796093022208):fM (a,b,())=some (Ku a b,()):=by
 unfold fM Ku;simp only[Qh a.2 b.2 h,apL];cases a.1==b.1<;>simp
def bi (a b:zI):Bool:=a.1==b.1 && (a.2.1==b.2.1 && (a.2.2.1==b.2.2.1 && (a.2.2.2==b.2.2.2 && true)))
def YB (a b:zt):Bool:=
 a.1==b.1 && (a.2.1==b.2.1 && (Ku a.2.2.1 b.2.2.1 && (jj a.2.2.2.1 b.2.2.2.1 && (jj a.2.2.2.2.1 b.2.2.2.2.1 && (a.2.2.2.2.2.1==b.2.2.2.2.2.1 && bi a.2.2.2.2.2.2 b.2.2.2.2.2.2)))))
theorem dL (a b:zt) (h:MsgW a):MC (a,b,())=some (YB a b,()):=by
 unfold MC YB bi;simp only[aeq a.2.2.1 b.2.2.1 h.1,af8 a.2.2.2.1 b.2.2.2.1 h.2.1,uU a.2.2.2.2.1 b.2.2.2.2.1 h.2.2,apL];cases a.1==b.1<;>cases a.2.1==b.2.1<;>cases Ku a.2.2.1 b.2.2.1<;>cases jj a.2.2.2.1 b.2.2.2.1<;>cases jj a.2.2.2.2.1 b.2.2.2.2.1<;>cases a.2.2.2.2.2.1==b.2.2.2.2.2.1<;>rfl
theorem Wa (a b:zt) (h:MsgW a):f6 (a,b,())=some (YB a b,()):=by
 unfold f6 YB bi;simp only[VQ a.2.2.1 b.2.2.1 h.1,WN a.2.2.2.1 b.2.2.2.1 h.2.1,Qh a.2.2.2.2.1 b.2.2.2.2.1 h.2.2,apL];cases a.1==b.1<;>cases a.2.1==b.2.1<;>cases Ku a.2.2.1 b.2.2.1<;>cases jj a.2.2.2.1 b.2.2.2.1<;>cases jj a.2.2.2.2.1 b.2.2.2.2.1<;>cases a.2.2.2.2.2.1==b.2.2.2.2.2.1<;>rfl
theorem GW (l:List YS) (view:Int) (name:List UInt8) (who:Int) (h:l.length<=1152921504606846976):
  ec (l,view,name,who,())=some (l.any (λ x=>x.1==view && (x.2.1==name && x.2.2==who)),()):=by
 unfold ec;refine (bI l (λ x s rec=>bif (x.1==view && (x.2.1==name && x.2.2==who)) then some (true,()) else rec s) (λ s=>some (false,())) (λ i s=>(i,s)) h ?_ ?_ ?_ ()).trans (xj _ _)
 ·intro rec s; simp
 ·intro rec i s x hx hi;simp only[apW,zr hi,apR,apN,if_true,apZ,rd,aqG,hx,aqw,zo (show i<4611686018427387904 by omega)];cases x.1==view<;>cases x.2.1==name<;>cases x.2.2==who<;>rfl
 ·intro x s r1 r2 hr; simp[hr]
theorem n9 (l:List YS) (v:YS) (h:l.length<=1152921504606846976):aq (l,v,())=some (l.any (λ x=>x.1==v.1 && (x.2.1==v.2.1 && x.2.2==v.2.2)),()):=by
 unfold aq uM;refine An _ l h ?_ ?_
 ·intro rec s; simp
 ·intro rec i s x hx hi;simp only[apW,zr hi,apR,apN,if_true,apZ,rd,aqG,hx,aqw,zo (show i<4611686018427387904 by omega),art];rw[Bool.beq_comm (a:=v.1),Bool.beq_comm (a:=v.2.1),Bool.beq_comm (a:=v.2.2)]
def signed (liars:List Int) (list:List YS) (view:Int) (name:List UInt8) (who:List Int):Bool:=
 who.all λ i=>liars.any (· == i) || list.any (λ x=>x.1==view && (x.2.1==name && x.2.2==i))
theorem u5 (liars:List Int) (list:List YS) (view:Int) (name:List UInt8) (who:List Int) (h1:liars.length<=1152921504606846976) (h2:list.length<=1152921504606846976) (h3:who.length<=1152921504606846976):
  aM (liars,list,view,name,who,())=some (signed liars list view name who,()):=by
 unfold aM;refine (bI who (λ x s rec=>bif (liars.any (· == x) || list.any (λ y=>y.1==view && (y.2.1==name && y.2.2==x))) then rec s else some (false,())) (λ s=>some (true,())) (λ i s=>(i,s)) h3 ?_ ?_ ?_ ()).trans (oZ _ _)
 ·intro rec s; simp
 ·intro rec i s x hx hi;simp only[apW,zr hi,apR,apN,if_true,apZ,rd,aqG,hx,aqw,zo (show i<4611686018427387904 by omega),Y8 liars x h1,GW list view name x h2,apL];cases liars.any (· == x)<;>cases list.any (λ y=>y.1==view && (y.2.1==name && y.2.2==x))<;>rfl
 ·intro x s r1 r2 hr; simp[hr]
theorem pj (liars:List Int) (list:List YS) (view:Int) (name:List UInt8) (who:List Int) (h1:liars.length<=1152921504606846976) (h2:list.length<=1152921504606846976) (h3:who.length<=1152921504606846976):
  Qm (liars,list,view,name,who,())=some (signed liars list view name who,()):=by
 unfold Qm;refine (bI who (λ x s rec=>bif (liars.any (· == x) || list.any (λ y=>y.1==view && (y.2.1==name && y.2.2==x))) then rec s else some (false,())) (λ s=>some (true,())) (λ i s=>(i,s)) h3 ?_ ?_ ?_ ()).trans (oZ _ _)
 ·intro rec s; simp
 ·intro rec i s x hx hi;simp only[apW,zr hi,apR,apN,if_true,apZ,rd,aqG,hx,aqw,zo (show i<4611686018427387904 by omega),Js liars x h1,n9 list (view,name,x) h2,apL];cases liars.any (· == x)<;>cases list.any (λ y=>y.1==view && (y.2.1==name && y.2.2==x))<;>rfl
 ·intro x s r1 r2 hr; simp[hr]
def Y6 (m:zt):zO:=if m.1=2 then m.2.2.2.1 else if m.1=1 then (m.2.2.1.2.1,m.2.2.1.2.2.1,m.2.2.1.2.2.2) else (m.2.2.2.2.1.1,m.2.2.2.2.1.2.1,m.2.2.2.2.1.2.2)
def Ze (id:Int) (m:zt):yJ:=if m.1=4 then [] else if (Y6 m).2.1=[] then [] else if (Y6 m).2.2.any (· == id) then [((Y6 m).1,(Y6 m).2.1,id)] else []
theorem aeS (id:Int) (m:zt) (h:MsgW m):m8 (id,m,())=some (Ze id m,()):=by
 obtain⟨h1,h2,h3⟩:=h;unfold m8 Ze Y6;simp only[Y8 _ _ (show m.2.2.1.2.2.2.length<=1152921504606846976 by omega),Y8 _ _ (show m.2.2.2.1.2.2.length<=1152921504606846976 by omega),Y8 _ _ (show m.2.2.2.2.1.2.2.length<=1152921504606846976 by omega),apL];by_cases c2:m.1=2
 ·simp only[c2,if_true,show ¬ (2:Int)=4 by decide,if_false,show ((2:Int)==2)=true from rfl,show ((2:Int)==4)=false from rfl,apN,apM];by_cases e:m.2.2.2.1.2.1=[]
  ·simp[e]
  ·have:(m.2.2.2.1.2.1==[])=false:=by simp[e]
   simp only[this,e,apM,if_false];cases m.2.2.2.1.2.2.any (· == id)<;>simp
 ·by_cases c1:m.1=1
  ·simp only[c1,show ¬ (1:Int)=2 by decide,if_true,show ¬ (1:Int)=4 by decide,if_false,show ((1:Int)==2)=false from rfl,show ((1:Int)==1)=true from rfl,show ((1:Int)==4)=false from rfl,apN,apM];by_cases e:m.2.2.1.2.2.1=[]
   ·simp[e]
   ·have:(m.2.2.1.2.2.1==[])=false:=by simp[e]
    simp only[this,e,apM,if_false];cases m.2.2.1.2.2.2.any (· == id)<;>simp
  ·have e2:(m.1==2)=false:=by simp[c2]
   have e1:(m.1==1)=false:=by simp[c1]
   simp only[e2,e1,c2,c1,apM,if_false];by_cases c4:m.1=4
   ·simp[c4]
   ·have e4:(m.1==4)=false:=by simp[c4]
    simp only[e4,c4,apM,if_false];by_cases e:m.2.2.2.2.1.2.1=[]
    ·simp[e]
    ·have:(m.2.2.2.2.1.2.1==[])=false:=by simp[e]
     simp only[this,e,apM,if_false];cases m.2.2.2.2.1.2.2.any (· == id)<;>simp
theorem xW (id:Int) (m:zt) (h:MsgW m):cd (id,m,())=some (Ze id m,()):=by
 obtain⟨h1,h2,h3⟩:=h;unfold cd Ze Y6;simp only[Js _ _ (show m.2.2.1.2.2.2.length<=1152921504606846976 by omega),Js _ _ (show m.2.2.2.1.2.2.length<=1152921504606846976 by omega),Js _ _ (show m.2.2.2.2.1.2.2.length<=1152921504606846976 by omega),apL];by_cases c4:m.1=4
 ·simp[c4]
 have e4:(m.1==4)=false:=by simp[c4]
 simp only[e4,c4,apM,if_false];by_cases c2:m.1=2
 ·simp only[c2,if_true,show ((2:Int)==2)=true from rfl,apN];by_cases e:m.2.2.2.1.2.1=[]
  ·simp[e]
  ·have:(m.2.2.2.1.2.1==[])=false:=by simp[e]
   simp only[this,e,apM,if_false];cases m.2.2.2.1.2.2.any (· == id)<;>simp
 ·have e2:(m.1==2)=false:=by simp[c2]
  simp only[e2,c2,apM,if_false];by_cases c1:m.1=1
  ·simp only[c1,if_true,show ((1:Int)==1)=true from rfl,apN];by_cases e:m.2.2.1.2.2.1=[]
   ·simp[e]
   ·have:(m.2.2.1.2.2.1==[])=false:=by simp[e]
    simp only[this,e,apM,if_false];cases m.2.2.1.2.2.2.any (· == id)<;>simp
  ·have e1:(m.1==1)=false:=by simp[c1]
   simp only[e1,c1,apM,if_false];by_cases e:m.2.2.2.2.1.2.1=[]
   ·simp[e]
   ·have:(m.2.2.2.2.1.2.1==[])=false:=by simp[e]
    simp only[this,e,apM,if_false];cases m.2.2.2.2.1.2.2.any (· == id)<;>simp
theorem FT (id:Int) (m:zt):JR (Ze id m)<=1+zh m:=by
 unfold Ze Y6;repeat' split
 all_goals simp only[JR,MP,zh,zx,zj,zn,zq,apS,aqr,aru,apQ,aq5,aqo]
 all_goals omega
theorem wF {β R:Type} (p:Nat->Bool) (g:Nat->β) (n:Nat) (hn:n<=1152921504606846976) (k:List β->Option R) {G:(List β×Int×Unit->Option R)->List β×Int×Unit->Option R}
  (ag7:∀ rec out,G rec (out,(n:Int),())=k out)
  (ag5:∀ rec (i:Nat) out,i<n->out.length<=i->G rec (out,(i:Int),())=rec (if p i=true then out++[g i] else out,(i:Int)+1,())):
  iter G fuel ([],0,())=k (((List.range n).filter p).map g):=by
 have key:∀ (m i:Nat) (out:List β),i<=n->n - i<m->out.length<=i->iter G m (out,(i:Int),())=k (out++((List.range' i (n - i)).filter p).map g):=by
  intro m;induction m with
  | zero=>intro i out h1 h2 h3; omega
  | succ m ih=>
   intro i out h1 h2 h3;rcases Nat.lt_or_ge i n with h|h
   ·have e1:iter G (m+1) (out,(i:Int),())=iter G m (if p i=true then out++[g i] else out,(i:Int)+1,()):=ag5 (iter G m) i out h h3;have e2:=ih (i+1) (if p i=true then out++[g i] else out) h (by omega) (by
     split
     ·simp only[apX,apQ,apS]; omega
     ·omega)
    rw[e1];refine Eq.trans (by rfl) (e2.trans ?_);have e3:n - i=(n - (i+1))+1:=by omega
    rw[e3,List.range'_succ];cases hp:p i<;>simp[hp]
   ·have hi:i=n:=by omega
    subst hi;have e1:iter G (m+1) (out,(i:Int),())=k out:=ag7 (iter G m) out;rw[e1];simp
 have:=key fuel 0 [] (Nat.zero_le _) (by have:=YU hn; omega) (by simp)
 simpa[List.range_eq_range'] using this
def yW (w:zp):List Int:=((List.range w.2.2.1.length).filter λ (i:Nat) => !(w.2.1.any (· == (i:Int)))).map λ (i:Nat)=>(i:Int)
theorem GE (w:zp) (h1:w.2.1.length<=137438953472) (h2:w.2.2.1.length<=137438953472):az (w,())=some (yW w,()):=by
 unfold az yW;refine wF (λ (i:Nat) => !(w.2.1.any (· == (i:Int)))) (λ (i:Nat)=>(i:Int)) w.2.2.1.length (by omega) (λ out=>some (out,())) ?_ ?_
 ·intro rec out; simp
 ·intro rec i out hi ho;have hg:((i:Int)<(w.2.2.1.length:Nat)):=by omega
  simp only[hg,apR,apN,Y8 _ _ (show w.2.1.length<=1152921504606846976 by omega),apL,zo (show i<4611686018427387904 by omega),apQ,apS];rw[if_pos (by omega)];cases w.2.1.any (· == (i:Int))<;>simp
theorem fV (w:zp) (h1:w.2.1.length<=137438953472) (h2:w.2.2.1.length<=137438953472):Na (w,())=some (yW w,()):=by
 unfold Na yW;refine wF (λ (i:Nat) => !(w.2.1.any (· == (i:Int)))) (λ (i:Nat)=>(i:Int)) w.2.2.1.length (by omega) (λ out=>some (out,())) ?_ ?_
 ·intro rec out; simp
 ·intro rec i out hi ho;have hg:((i:Int)<(w.2.2.1.length:Nat)):=by omega
  simp only[hg,apR,apN,Js _ _ (show w.2.1.length<=1152921504606846976 by omega),apL,zo (show i<4611686018427387904 by omega),apQ,apS];rw[if_pos (by omega)];cases w.2.1.any (· == (i:Int))<;>simp
theorem xF (w:zp):(yW w).length<=w.2.2.1.length:=by
 unfold yW;rw[aqu];exact Nat.le_trans (List.length_filter_le _ _) (by simp)
theorem L4 {α S St R:Type} (enc:Int->S->St) (l:List α) (f:S->α->S) (k:S->Option R) {G:(St->Option R)->St->Option R} (hl:l.length<=1152921504606846976) (I:Nat->S->Prop)
  (ag7:∀ rec s,I l.length s->G rec (enc (l.length:Int) s)=k s)
  (ag5:∀ rec (i:Nat) s x,l[i]?=some x->i<l.length->I i s->I (i+1) (f s x)/\G rec (enc (i:Int) s)=rec (enc ((i:Int)+1) (f s x))) {s0:S} (h0:I 0 s0):
  iter G fuel (enc 0 s0)=k (l.foldl f s0):=by
 have key:∀ (m i:Nat) (s:S),i<=l.length->l.length - i<m->I i s->iter G m (enc (i:Int) s)=k ((l.drop i).foldl f s):=by
  intro m;induction m with
  | zero=>intro i s h1 h2 h3; omega
  | succ m ih=>
   intro i s h1 h2 h3;rcases Nat.lt_or_ge i l.length with h|h
   ·obtain⟨g1,g2⟩:=ag5 (iter G m) i s l[i] (List.getElem?_eq_getElem h) h h3;have e1:iter G (m+1) (enc (i:Int) s)=iter G m (enc ((i:Int)+1) (f s l[i])):=g2;rw[e1,aq7 h,aqF];exact ih (i+1) _ h (by omega) g1
   ·have hi:i=l.length:=by omega
    subst hi;have e1:iter G (m+1) (enc (l.length:Int) s)=k s:=ag7 (iter G m) s h3;rw[e1]; simp
 have:=key fuel 0 s0 (Nat.zero_le _) (by have:=YU hl; omega) h0
 simpa using this
theorem VB {α S:Type} (l:List α) (f:S->α->S) (I:Nat->S->Prop) (ag5:∀ (i:Nat) s x,l[i]?=some x->i<l.length->I i s->I (i+1) (f s x)) {s0:S} (h0:I 0 s0):I l.length (l.foldl f s0):=by
 have key:∀ (n i:Nat) (s:S),l.length - i=n->i<=l.length->I i s->I l.length ((l.drop i).foldl f s):=by
  intro n;induction n with
  | zero=>
       intro i s h1 h2 h3; have:i=l.length:=by omega
       subst this; simpa using h3
  | succ n ih=>
   intro i s h1 h2 h3;have h:i<l.length:=by omega
   rw[aq7 h,aqF];exact ih (i+1) _ (by omega) h (ag5 i s l[i] (List.getElem?_eq_getElem h) h h3)
 simpa using key l.length 0 s0 (by simp) (Nat.zero_le _) h0
theorem xq {α:Type}:∀ (l out:List α),l.foldl (λ out x=>out++[x]) out=out++l
 | [],out=>by simp
 | x::l,out=>by rw[aqF,xq l]; simp
theorem LZ {α St R:Type} (enc:Int->List α->St) (l:List α) (k:List α->Option R) {G:(St->Option R)->St->Option R} (hl:l.length<=1152921504606846976)
  (ag7:∀ rec s,s.length=l.length->G rec (enc (l.length:Int) s)=k s)
  (ag5:∀ rec (i:Nat) s x,l[i]?=some x->i<l.length->s.length=i->G rec (enc (i:Int) s)=rec (enc ((i:Int)+1) (s++[x]))):
  iter G fuel (enc 0 [])=k l:=by
 have:=L4 enc l (λ out x=>out++[x]) k hl (λ i s=>s.length=i) ag7 (λ rec i s x hx hi h=>⟨by simp[h],ag5 rec i s x hx hi h⟩) (s0:=[]) rfl;rw[this,xq]; simp
theorem qg (x:zH) (hw:zj x<=137438953472):Ki (x,())=some (x,()):=by
 unfold Ki;dsimp only;have:x.2.2.length<=137438953472:=by simp only[zj,zq] at hw; omega
 rw[if_pos (by omega)]; rfl
theorem qa (x:zO) (hw:zn x<=137438953472):KQ (x,())=some (x,()):=by
 unfold KQ;dsimp only;have:x.2.2.length<=137438953472:=by simp only[zn,zq] at hw; omega
 rw[if_pos (by omega)]; rfl
theorem nq (x:zD) (hw:zy x<=137438953472):qb (x,())=some (x,()):=by
 unfold qb;simp only[qg x.2.2.1 (by simp only[zy] at hw; omega),Option.bind_some]
theorem afe (x:jd) (hw:zx x<=137438953472):nP (x,())=some (x,()):=by
 unfold nP;simp only[qg x.2 (by simp only[zx] at hw; omega),Option.bind_some]
theorem GU (x:zt) (hw:zh x<=137438953472):d7 (x,())=some (x,()):=by
 unfold d7;simp only[zh] at hw;simp only[afe x.2.2.1 (by omega),qa x.2.2.2.1 (by omega),qg x.2.2.2.2.1 (by omega),apL]
theorem GR (x:yb) (hw:zG x<=137438953472):KR (x,())=some (x,()):=by
 have hl:x.length<=137438953472:=by unfold zG at hw; omega
 unfold KR;refine LZ (λ i s=>(s,i,())) x (λ s=>some (s,())) (by omega) ?_ ?_
 ·intro rec s hs; simp
 ·intro rec i s y hx hi hs;have hy:zn y<=137438953472:=by have:=ZK zn (List.mem_of_getElem? hx); unfold zG at hw; omega
  simp only[apW,zr hi,apR,apN,if_true,apZ,zm (e:=(.pair .i64 (.pair .str (.sl 0 .i64)))) hx,qa y hy,apL,zo (show i<4611686018427387904 by omega),apQ,apS];rw[if_pos (by omega)]
theorem GV (x:jI) (hw:ym x<=137438953472):d8 (x,())=some (x,()):=by
 have hl:x.length<=137438953472:=by unfold ym at hw; omega
 unfold d8;refine LZ (λ i s=>(s,i,())) x (λ s=>some (s,())) (by omega) ?_ ?_
 ·intro rec s hs; simp
 ·intro rec i s y hx hi hs;have hy:zh y.2<=137438953472:=by have:=ZK Z7 (List.mem_of_getElem? hx); simp only[Z7] at this; unfold ym at hw; omega
  simp only[apW,zr hi,apR,apN,if_true,apZ,zm (e:=(.pair .i64 (.pair .i64 (.pair .i64 (.pair (.pair .str (.pair .i64 (.pair .str (.sl 0 .i64)))) (.pair (.pair .i64 (.pair .str (.sl 0 .i64))) (.pair (.pair .i64 (.pair .str (.sl 0 .i64))) (.pair .i64 (.pair .i64 (.pair .i64 (.pair .i64 .i64))))))))))) hx,GU y.2 hy,apL,zo (show i<4611686018427387904 by omega),apQ,apS];rw[if_pos (by omega)]
theorem Z5 (x:zb) (hw:ze x<=137438953472):yO (x,())=some (x,()):=by
 unfold yO;simp only[ze,Ko,KU] at hw;simp only[nq x.2.2.2.1 (by omega),GR x.2.2.2.2.2.1 (by omega),nr x.2.2.2.2.2.2.1 (by omega),GV x.2.2.2.2.2.2.2 (by omega),apL];rw[if_pos (by omega)]; rfl
theorem Nn (x:yZ) (hw:x.length<=137438953472):Ju (x,())=some (x,()):=by
 unfold Ju;dsimp only;rw[if_pos (by omega)]
theorem No (x:zH) (hw:zj x<=137438953472):Kz (x,())=some (x,()):=by
 unfold Kz;simp only[Nn x.2.2 (by simp only[zj,zq] at hw; omega),Option.bind_some]
theorem Qs (x:zO) (hw:zn x<=137438953472):J6 (x,())=some (x,()):=by
 unfold J6;simp only[Nn x.2.2 (by simp only[zn,zq] at hw; omega),Option.bind_some]
theorem gN (x:zD) (hw:zy x<=137438953472):Np (x,())=some (x,()):=by
 unfold Np;simp only[No x.2.2.1 (by simp only[zy] at hw; omega),Option.bind_some]
theorem Ai (x:zw) (hw:Ko x<=137438953472):KA (x,())=some (x,()):=by
 unfold KA;dsimp only;simp only[Ko] at hw;rw[if_pos (by omega)]
theorem WG (x:jd) (hw:zx x<=137438953472):gK (x,())=some (x,()):=by
 unfold gK;simp only[No x.2 (by simp only[zx] at hw; omega),Option.bind_some]
theorem Ag (x:zt) (hw:zh x<=137438953472):cm (x,())=some (x,()):=by
 unfold cm;simp only[zh] at hw;simp only[WG x.2.2.1 (by omega),Qs x.2.2.2.1 (by omega),No x.2.2.2.2.1 (by omega),apL]
theorem Ah (x:yb) (hw:zG x<=137438953472):Jv (x,())=some (x,()):=by
 have hl:x.length<=137438953472:=by unfold zG at hw; omega
 unfold Jv;refine LZ (λ i s=>(s,i,())) x (λ s=>some (s,())) (by omega) ?_ ?_
 ·intro rec s hs; simp
 ·intro rec i s y hx hi hs;have hy:zn y<=137438953472:=by have:=ZK zn (List.mem_of_getElem? hx); unfold zG at hw; omega
  simp only[apW,zr hi,apR,apN,if_true,apZ,zm (e:=(.pair .i64 (.pair .str (.sl 0 .i64)))) hx,Qs y hy,apL,zo (show i<4611686018427387904 by omega),apQ,apS];rw[if_pos (by omega)]
theorem WH (x:jI) (hw:ym x<=137438953472):gM (x,())=some (x,()):=by
 have hl:x.length<=137438953472:=by unfold ym at hw; omega
 unfold gM;refine LZ (λ i s=>(s,i,())) x (λ s=>some (s,())) (by omega) ?_ ?_
 ·intro rec s hs; simp
 ·intro rec i s y hx hi hs;have hy:zh y.2<=137438953472:=by have:=ZK Z7 (List.mem_of_getElem? hx); simp only[Z7] at this; unfold ym at hw; omega
  simp only[apW,zr hi,apR,apN,if_true,apZ,zm (e:=(.pair .i64 (.pair .i64 (.pair .i64 (.pair (.pair .str (.pair .i64 (.pair .str (.sl 0 .i64)))) (.pair (.pair .i64 (.pair .str (.sl 0 .i64))) (.pair (.pair .i64 (.pair .str (.sl 0 .i64))) (.pair .i64 (.pair .i64 (.pair .i64 (.pair .i64 .i64))))))))))) hx,Ag y.2 hy,apL,zo (show i<4611686018427387904 by omega),apQ,apS];rw[if_pos (by omega)]
theorem ZS (x:zb) (hw:ze x<=137438953472):zN (x,())=some (x,()):=by
 unfold zN;simp only[ze] at hw;have h5:x.2.2.2.2.2.2.1.1.length<=137438953472:=by simp only[KU] at hw; omega
 simp only[gN x.2.2.2.1 (by omega),Ai x.2.2.2.2.1 (by omega),Ah x.2.2.2.2.2.1 (by omega),gL x.2.2.2.2.2.2.1 (by omega),WH x.2.2.2.2.2.2.2 (by omega),apL]
theorem Aj (x:qz) (hw:Z8 x<=137438953472):cn (x,())=some (x,()):=by
 unfold cn;dsimp only;simp only[Z8,bl] at hw;rw[if_pos (by omega)]
theorem GX (w:zp) (hw:yu w<=137438953472):eg (w,())=some (w,()):=by
 have hr:JQ w.2.2.1<=137438953472:=by simp only[yu] at hw; omega
 have hs:Z9 w.2.2.2.1<=137438953472:=by simp only[yu] at hw; omega
 have h1:w.2.1.length<=137438953472:=by simp only[yu,zq] at hw; omega
 have h2:w.2.2.2.2.length<=137438953472:=by simp only[yu,JR] at hw; omega
 have h3:w.2.2.1.length<=137438953472:=by unfold JQ at hr; omega
 have h4:w.2.2.2.1.length<=137438953472:=by unfold Z9 at hs; omega
 unfold eg;dsimp only;rw[if_pos (by omega),if_pos (by omega)];refine (LZ (λ i (s:Yc)=>(i,(w.1,[]++w.2.1,s,[],[]++w.2.2.2.2),())) w.2.2.1 (λ s=>some ((w.1,[]++w.2.1,s,w.2.2.2.1,[]++w.2.2.2.2),())) (by omega) ?_ ?_).trans (by simp)
 ·intro rec s hs';simp only[aq6,apU,apM];refine LZ (λ i (t:y9)=>(i,(w.1,[]++w.2.1,s,t,[]++w.2.2.2.2),())) w.2.2.2.1 (λ t=>some ((w.1,[]++w.2.1,s,t,[]++w.2.2.2.2),())) (by omega) ?_ ?_
  ·intro rec t ht; simp
  ·intro rec i t y hx hi ht;have hy:Z8 y<=137438953472:=by have:=ZK Z8 (List.mem_of_getElem? hx); unfold Z9 at hs; omega
   simp only[Z8,bl] at hy;simp only[apW,zr hi,apR,apN,if_true,apZ,zm (e:=(.pair .i64 (.sl 0 .u8))) hx,zo (show i<4611686018427387904 by omega),apQ,apS];rw[if_pos (by omega),if_pos (by omega)];rfl
 ·intro rec i s y hx hi hs';have hy:ze y<=137438953472:=by have:=ZK ze (List.mem_of_getElem? hx); unfold JQ at hr; omega
  simp only[apW,zr hi,apR,apN,if_true,apZ,zm (e:=(.pair .i64 (.pair .i64 (.pair .i64 (.pair (.pair .i64 (.pair .i64 (.pair (.pair .i64 (.pair .str (.sl 0 .i64))) .str))) (.pair (.sl 0 (.pair .i64 (.pair .i64 (.pair .i64 .i64)))) (.pair (.sl 0 (.pair .i64 (.pair .str (.sl 0 .i64)))) (.pair (.pair (.sl 0 .u8) .i64) (.sl 0 (.pair .i64 (.pair .i64 (.pair .i64 (.pair (.pair .str (.pair .i64 (.pair .str (.sl 0 .i64)))) (.pair (.pair .i64 (.pair .str (.sl 0 .i64))) (.pair (.pair .i64 (.pair .str (.sl 0 .i64))) (.pair .i64 (.pair .i64 (.pair .i64 (.pair .i64 .i64))))))))))))))))))) hx,Z5 y hy,apL,zo (show i<4611686018427387904 by omega),apQ,apS];rw[if_pos (by omega)]
theorem Nq (w:zp) (hw:yu w<=137438953472):yX (w,())=some (w,()):=by
 have hr:JQ w.2.2.1<=137438953472:=by simp only[yu] at hw; omega
 have hs:Z9 w.2.2.2.1<=137438953472:=by simp only[yu] at hw; omega
 have h1:w.2.1.length<=137438953472:=by simp only[yu,zq] at hw; omega
 have h2:w.2.2.2.2.length<=137438953472:=by simp only[yu,JR] at hw; omega
 have h3:w.2.2.1.length<=137438953472:=by unfold JQ at hr; omega
 have h4:w.2.2.2.1.length<=137438953472:=by unfold Z9 at hs; omega
 unfold yX;simp only[Nn w.2.1 h1,apL];rw[if_pos (by omega)];refine (LZ (λ i (s:Yc)=>(i,(w.1,w.2.1,s,[],w.2.2.2.2),())) w.2.2.1 (λ s=>some ((w.1,w.2.1,s,w.2.2.2.1,w.2.2.2.2),())) (by omega) ?_ ?_).trans (by simp)
 ·intro rec s hs';simp only[aq6,apU,apM];refine LZ (λ i (t:y9)=>(i,(w.1,w.2.1,s,t,w.2.2.2.2),())) w.2.2.2.1 (λ t=>some ((w.1,w.2.1,s,t,w.2.2.2.2),())) (by omega) ?_ ?_
  ·intro rec t ht; simp
  ·intro rec i t y hx hi ht;have hy:Z8 y<=137438953472:=by have:=ZK Z8 (List.mem_of_getElem? hx); unfold Z9 at hs; omega
   simp only[apW,zr hi,apR,apN,if_true,apZ,zm (e:=(.pair .i64 (.sl 0 .u8))) hx,Aj y hy,apL,zo (show i<4611686018427387904 by omega),apQ,apS];rw[if_pos (by omega)]
 ·intro rec i s y hx hi hs';have hy:ze y<=137438953472:=by have:=ZK ze (List.mem_of_getElem? hx); unfold JQ at hr; omega
  simp only[apW,zr hi,apR,apN,if_true,apZ,zm (e:=(.pair .i64 (.pair .i64 (.pair .i64 (.pair (.pair .i64 (.pair .i64 (.pair (.pair .i64 (.pair .str (.sl 0 .i64))) .str))) (.pair (.sl 0 (.pair .i64 (.pair .i64 (.pair .i64 .i64)))) (.pair (.sl 0 (.pair .i64 (.pair .str (.sl 0 .i64)))) (.pair (.pair (.sl 0 .u8) .i64) (.sl 0 (.pair .i64 (.pair .i64 (.pair .i64 (.pair (.pair .str (.pair .i64 (.pair .str (.sl 0 .i64)))) (.pair (.pair .i64 (.pair .str (.sl 0 .i64))) (.pair (.pair .i64 (.pair .str (.sl 0 .i64))) (.pair .i64 (.pair .i64 (.pair .i64 (.pair .i64 .i64))))))))))))))))))) hx,ZS y hy,apL,zo (show i<4611686018427387904 by omega),apQ,apS];rw[if_pos (by omega)]
end G448
namespace G448
open Ev Go
theorem Iw {S X R:Type} (n:Nat) {G:(X->Option R)->X->Option R} (mk:Int->S->X) (I:Nat->S->Prop) (f:Nat->S->Option R) (hn:n<=1152921504606846976)
  (ag7:∀ rec s,I n s->G rec (mk (n:Int) s)=f n s)
  (ag5:∀ rec (i:Nat) s,i<n->I i s->(G rec (mk (i:Int) s)=f i s)∨∃ s',I (i+1) s'/\G rec (mk (i:Int) s)=rec (mk ((i:Int)+1) s')/\f i s=f (i+1) s') {s0:S} (i0:Nat) (hi0:i0<=n) (h0:I i0 s0):
  iter G fuel (mk (i0:Int) s0)=f i0 s0:=by
 have key:∀ (m i:Nat) (s:S),i<=n->n - i<m->I i s->iter G m (mk (i:Int) s)=f i s:=by
  intro m;induction m with
  | zero=>intro i s h1 h2 h3; omega
  | succ m ih=>
   intro i s h1 h2 h3;rcases Nat.lt_or_ge i n with h|h
   ·rcases ag5 (iter G m) i s h h3 with g|⟨s',g1,g2,g3⟩
    ·exact g
    ·rw[g3];have e1:iter G (m+1) (mk (i:Int) s)=iter G m (mk ((i:Int)+1) s'):=g2;rw[e1];exact ih (i+1) s' h (by omega) g1
   ·have hi:i=n:=by omega
    subst hi;exact ag7 (iter G m) s h3
 exact key fuel i0 s0 hi0 (by have:=YU hn; omega) h0
theorem walk {S X R:Type} (n:Nat) {G:(X->Option R)->X->Option R} (mk:Int->S->X) (I:Nat->S->Prop) (f:Nat->S->Option R) (hn:n<=1152921504606846976)
  (ag7:∀ rec s,I n s->G rec (mk (n:Int) s)=f n s)
  (ag5:∀ rec (i:Nat) s,i<n->I i s->(G rec (mk (i:Int) s)=f i s)∨∃ s',I (i+1) s'/\G rec (mk (i:Int) s)=rec (mk ((i:Int)+1) s')/\f i s=f (i+1) s') {s0:S} (h0:I 0 s0):
  iter G fuel (mk 0 s0)=f 0 s0:=Iw n mk I f hn ag7 ag5 0 (Nat.zero_le _) h0
def glue (u:List UInt8):List (List UInt8)->List (List UInt8)
 | p::r=>(u++p)::r
 | []=>[u]
def zS (c:UInt8):List UInt8->List (List UInt8)
 | []=>[[]]
 | x::l=>if x=c then []::zS c l else glue [x] (zS c l)
theorem JB (c:UInt8):∀ s,zS c s≠[]
 | []=>by simp[zS]
 | x::l=>by
  simp only[zS];split
  ·simp
  ·cases zS c l<;>simp[glue]
theorem VH (u v:List UInt8) {l:List (List UInt8)} (h:l≠[]):glue u (glue v l)=glue (u++v) l:=by
 cases l with
 | nil=>exact absurd rfl h
 | cons p r=>simp[glue]
theorem xA {l:List (List UInt8)} (h:l≠[]):glue [] l=l:=by
 cases l with
 | nil=>exact absurd rfl h
 | cons p r=>simp[glue]
theorem th (c:UInt8):∀ s,c∉s->zS c s=[s]
 | [],_=>rfl
 | x::l,h=>by
  simp only[aqb,not_or] at h;simp only[zS,if_neg (Ne.symm h.1),th c l h.2,glue,aqZ]
theorem D6 (c:UInt8) (post:List UInt8):∀ pre,c∉pre->zS c (pre++c::post)=pre::zS c post
 | [],_=>by simp[zS]
 | x::l,h=>by
  simp only[aqb,not_or] at h;simp only[aqV,zS,if_neg (Ne.symm h.1),D6 c post l h.2,glue,aqf]
theorem da (c:UInt8):∀ s,(zS c s).length<=s.length+1
 | []=>by simp[zS]
 | x::l=>by
  have:=da c l;simp only[zS];split
  ·simp; omega
  ·cases hp:zS c l with
   | nil=>simp[glue]
   | cons p r=>rw[hp] at this; simp[glue] at this ⊢; omega
def y0 (c:UInt8):List UInt8->Option (List UInt8×List UInt8)
 | []=>none
 | x::l=>if x=c then some ([],l) else (y0 c l).map λ p=>(x::p.1,p.2)
theorem wL (c:UInt8):∀ s,c∉s->y0 c s=none
 | [],_=>rfl
 | x::l,h=>by
  simp only[aqb,not_or] at h;simp only[y0,if_neg (Ne.symm h.1),wL c l h.2,Option.map_none]
theorem bD (c:UInt8) (post:List UInt8):∀ pre,c∉pre->y0 c (pre++c::post)=some (pre,post)
 | [],_=>by simp[y0]
 | x::l,h=>by
  simp only[aqb,not_or] at h;simp only[aqV,y0,if_neg (Ne.symm h.1),bD c post l h.2,aqz]
theorem oL (c:UInt8):∀ {s p q},y0 c s=some (p,q)->p.length+q.length+1=s.length/\s=p++c::q
 | [],p,q,h=>by cases h
 | x::l,p,q,h=>by
  simp only[y0] at h;split at h
  ·next e=>cases h; subst e; simp
  ·obtain⟨⟨p',q'⟩,h1,h2⟩:=Option.map_eq_some_iff.1 h;cases h2;obtain⟨g1,g2⟩:=oL c h1;exact⟨by simp; omega,by rw[g2]; simp⟩
theorem wt (c:UInt8) (s:List UInt8):(c∉s/\Lib.indexByte s c = -1)∨∃ pre post,s=pre++c::post/\c∉pre/\Lib.indexByte s c=(pre.length:Int):=by
 rcases Int.lt_or_le (Lib.indexByte s c) 0 with h|h
 ·have e:Lib.indexByte s c = -1:=by
   have:=Lib.index_ge s [c];rw[Lib.index_one] at this;omega
  left;refine⟨λ hm => ?_,e⟩;obtain⟨k,hk⟩:=List.getElem?_of_mem hm;exact Lib.indexByte_none e k hk
 ·right;obtain⟨o,ho⟩:∃ o:Nat,Lib.indexByte s c=(o:Int):=⟨(Lib.indexByte s c).toNat,by omega⟩
  obtain⟨h1,h2⟩:=Lib.indexByte_some ho;have hlt:o<s.length:=by
   rcases Nat.lt_or_ge o s.length with h'|h'
   ·exact h'
   ·rw[aqh h'] at h1; cases h1
  refine⟨s.take o,s.drop (o+1),?_,?_,by rw[ho]; simp; omega⟩
  ·have e:s[o]=c:=by rw[aqC hlt] at h1; exact Option.some.inj h1
   rw[←e,←aq7 hlt,arj]
  ·intro hm;obtain⟨k,hk⟩:=List.getElem?_of_mem hm;rw[aqW] at hk;split at hk
   ·exact h2 k (by assumption) hk
   ·cases hk
theorem G1 (c:UInt8):∀ (k:Nat) (s:List UInt8),s.count c<=k->Lib.splitK [c] 0 k s=zS c s
 | 0,s,h=>by
  have:c∉s:=λ hm=>by have:=List.count_pos_iff.2 hm; omega
  rw[th c s this]; rfl
 | k+1,s,h=>by
  unfold Lib.splitK;rw[Lib.index_one];rcases wt c s with⟨h1,h2⟩|⟨pre,post,rfl,h1,h2⟩
  ·rw[h2,th c s h1]; rfl
  ·rw[h2,D6 c post pre h1];have e:((pre.length:Int) == -1)=false:=by simp
   rw[e];have hd:(pre++c::post).drop ((pre.length:Int).toNat+[c].length)=post:=by
    rw[apW,as3,←aqy]; simp
   have ht:(pre++c::post).take ((pre.length:Int).toNat+0)=pre:=by simp
   simp only[aqc,if_false];rw[hd,ht,G1 c k post (by simp[List.count_append,List.count_cons] at h; omega)]
theorem XN (c:UInt8) (s:List UInt8):Lib.split s [c]=zS c s:=by
 unfold Lib.split;refine G1 c _ s ?_;rw[Lib.count_one];exact Nat.le_refl _
theorem XM (c:UInt8) (s:List UInt8):Lib.cut s [c]=match y0 c s with|some p=>(p.1,p.2,true)|none=>(s,[],false):=by
 unfold Lib.cut;rw[Lib.index_one];rcases wt c s with⟨h1,h2⟩|⟨pre,post,rfl,h1,h2⟩
 ·rw[h2,wL c s h1,if_neg (by decide)]
 ·rw[h2,bD c post pre h1,if_pos (by omega)];have hd:(pre++c::post).drop ((pre.length:Int).toNat+[c].length)=post:=by
   rw[apW,as3,←aqy]; simp
  have ht:(pre++c::post).take ((pre.length:Int).toNat)=pre:=by simp
  rw[hd,ht]
theorem fG {s:List UInt8} {i:Nat} {x:UInt8} (h:s[i]?=some x):s.getD i 0=x:=by rw[aqG,h]; rfl
theorem adG {s:List UInt8} {start i:Nat} (h:start<=i) (hi:i<s.length):(s.drop start).take (i+1 - start)=(s.drop start).take (i - start)++[s[i]]:=by
 rw[show i+1 - start=(i - start)+1 by omega,arh];congr 1;rw[ar4,show start+(i - start)=i by omega,aqC hi]; rfl
theorem GL (s:List UInt8) (c:UInt8) (hs:s.length<=137438953472):dR (s,c,())=some (zS c s,()):=by
 unfold dR;dsimp only;refine (walk (s.length+1) (λ i (t:List (List UInt8)×Nat)=>(t.1,(t.2:Int),i,())) (λ i t=>t.2<=i/\t.1.length<=i)
  (λ i t=>some (if i<=s.length then t.1++glue ((s.drop t.2).take (i - t.2)) (zS c (s.drop i)) else t.1,())) (by omega) ?_ ?_ (s0:=([],0)) ⟨Nat.le_refl _,Nat.zero_le _⟩).trans ?_
 ·intro rec t ht;have:¬ (((s.length+1:Nat):Int)<=(s.length:Int)):=by omega
  simp only[this,apU,apM];rw[if_neg (by omega)]
 ·intro rec i t hi ht;right;obtain⟨h1,h2⟩:=ht;have g:((i:Int)<=(s.length:Int)):=by omega
  by_cases he:i=s.length
  ·subst he;refine⟨(t.1++[(s.drop t.2).take (s.length - t.2)],s.length+1),⟨Nat.le_refl _,by simp; omega⟩,?_,?_⟩
   ·simp only[g,apR,apN,beq_self_eq_true,apW,zo (show s.length<4611686018427387904 by omega),apQ,apS];rw[if_pos (by first|omega|(simp only[true_and,and_true]; omega)),if_pos (by first|omega|(simp only[true_and,and_true]; omega))]
    rfl
   ·rw[if_pos (aqs _),if_neg (by omega)]; simp[zS,glue]
  ·have hlt:i<s.length:=by omega
   have hx:s[i]?=some s[i]:=List.getElem?_eq_getElem hlt;have e1:((i:Int)==(s.length:Int))=false:=by simp; omega
   have g2:(0:Int)<=(i:Int)/\(i:Int)<(s.length:Int):=by omega
   simp only[g,apR,apN,e1,apM,g2,apZ,if_true,apW,fG hx,zo (show i<4611686018427387904 by omega),apQ,apS];by_cases hc:s[i]=c
   ·refine⟨(t.1++[(s.drop t.2).take (i - t.2)],i+1),⟨Nat.le_refl _,by simp; omega⟩,?_,?_⟩
    ·have:(s[i]==c)=true:=by simp[hc]
     simp only[this,apN];rw[if_pos (by first|omega|(simp only[true_and,and_true]; omega)),if_pos (by first|omega|(simp only[true_and,and_true]; omega))]
     rfl
    ·rw[if_pos (by omega),if_pos (by omega),aq7 hlt,zS,if_pos hc];simp only[Nat.sub_self,List.take_zero,xA (JB _ _)];simp[glue]
   ·refine⟨t,⟨by omega,by omega⟩,?_,?_⟩
    ·have:(s[i]==c)=false:=by simp[hc]
     simp only[this,apM]
    ·rw[if_pos (by omega),if_pos (by omega),adG h1 hlt,aq7 hlt,zS,if_neg hc,VH _ _ (JB _ _)]
 ·simp[xA (JB _ _)]
theorem xY (s:List UInt8) (c:UInt8) (hs:s.length<=1073741824):cg (s,c,())=some (zS c s,()):=by
 unfold cg strings_Split;dsimp only;rw[if_pos ⟨by omega,by simp⟩,XN]; rfl
theorem afd (s:List UInt8) (c:UInt8) (hs:s.length<=137438953472):
  MK (s,c,())=match y0 c s with|some p=>some (p.1,p.2,true,())|none=>some ([],[],false,()):=by
 unfold MK;dsimp only;refine (walk s.length (λ i (_:Unit)=>(i,())) (λ _ _=>True) (λ i _=>match y0 c (s.drop i) with|some p=>some (s.take i++p.1,p.2,true,())|none=>some ([],[],false,())) (by omega) ?_ ?_ (s0:=()) trivial).trans ?_
 ·intro rec t ht;simp[y0]
 ·intro rec i t hi ht;have hx:s[i]?=some s[i]:=List.getElem?_eq_getElem hi;simp only[zr hi,apR,apN,apZ,if_true,apW,fG hx,zo (show i<4611686018427387904 by omega)];rw[aq7 hi];by_cases hc:s[i]=c
  ·left;have:(s[i]==c)=true:=by simp[hc]
   simp only[this,apN];rw[if_pos (by first|omega|(simp only[true_and,and_true]; omega)),if_pos (by first|omega|(simp only[true_and,and_true]; omega))]
   simp only[y0,if_pos hc];congr 2
   ·simp
   ·congr 1;have:(((i:Int)+1).toNat)=i+1:=by omega
    rw[this,ar6 (by simp)]
  ·right;have:(s[i]==c)=false:=by simp[hc]
   refine⟨(),trivial,by simp only[this,apM],?_⟩;simp only[y0,if_neg hc];rw[arh,hx];cases y0 c (s.drop (i+1)) with
   | none=>rfl
   | some p=>simp only[aqz,Option.toList_some,aqj,aqZ]
 ·simp
theorem Y9 (x lo hi:Int):yy (x,lo,hi,())=some (decide (x≥lo) && decide (x<=hi),()):=by
 unfold yy;by_cases h:x≥lo<;>simp[h]
theorem ZT (x lo hi:Int):yo (x,lo,hi,())=some (decide (x≥lo) && decide (x<=hi),()):=by
 unfold yo;by_cases h:x≥lo<;>simp[h]
theorem afs (u:Nat):jb (48+((u % 10:Nat):Int))=UInt8.ofNat (48+u % 10):=by
 rw[vz];congr 1;omega
theorem aw (u:Nat) (h:u<=9223372036854775807):KO ((u:Int),())=some (Lib.decDigits u,()):=by
 unfold KO;dsimp only;by_cases h0:u=0
 ·subst h0;have:Lib.decDigits 0=[48]:=by rw[Lib.decDigits]; rfl
  rw[this];rfl
 have e0:((u:Int)==0)=false:=by simp; omega
 have en:¬ ((u:Int)<0):=by omega
 simp only[e0,apM,en,apU];refine (Qv (λ x:Int×List UInt8×Unit=>some ((if x.1=0 then [] else Lib.decDigits x.1.toNat)++x.2.1,())) (λ x=>x.1.toNat)
  (λ x=>0<=x.1/\x.1<=9223372036854775807/\∃ k,x.1.toNat<10 ^ k/\k+x.2.1.length<=20) ?_ fuel ((u:Int),[],()) ⟨by simp,by simp only; omega,20,by
   simp only[apW];exact Nat.lt_of_le_of_lt h (by decide),by simp⟩ (by simp only[apW,Zn]; omega)).trans ?_
 ·rintro rec ⟨v,out,⟨⟩⟩ ⟨h1,agx,k,h2,h3⟩ afU;obtain⟨n,rfl⟩:∃ n:Nat,v=(n:Int):=⟨v.toNat,by simp only at h1; omega⟩
  simp only[apW] at h2;by_cases hn:n=0
  ·subst hn;simp
  have e1:((n:Int) != 0)=true:=by simp; omega
  have e2:Int.tmod (n:Int) 10=((n % 10:Nat):Int):=by simp[Int.tmod]
  have e3:Int.tdiv (n:Int) 10=((n / 10:Nat):Int):=by simp[Int.tdiv]
  have e4:¬ (((n % 10:Nat):Int)<0):=by omega
  simp only at agx h3;have hk:1<=k:=by
   rcases Nat.eq_zero_or_pos k with h'|h'
   ·subst h'; simp at h2; omega
   ·exact h'
  simp only[e1,apN,e2,e3,e4,apU,apM];rw[zg (show (-9223372036854775808:Int)<=48+((n % 10:Nat):Int) by omega) (show 48+((n % 10:Nat):Int)<=9223372036854775807 by omega),afs,
   zg (show (-9223372036854775808:Int)<=((n / 10:Nat):Int) by omega) (show ((n / 10:Nat):Int)<=9223372036854775807 by omega)]
  rw[if_pos (by simp only[apQ,apS]; omega)]
  rw[afU (((n / 10:Nat):Int),[UInt8.ofNat (48+n % 10)]++out,()) ⟨by simp only; omega,by simp only; omega,k - 1,by
   simp only[apW];have:10 ^ k=10 ^ (k - 1)*10:=by rw[←aqO]; congr 1; omega
   omega,by simp only[apX,apQ,apS]; omega⟩ (by simp only[apW]; omega)]
  simp only[apW];rw[if_neg (show ¬ ((n:Int)=0) by omega)];by_cases h10:n<10
  ·have:n / 10=0:=by omega
   rw[this,if_pos (by rfl),Lib.decDigits,dif_pos h10];have:n % 10=n:=by omega
   rw[this]; rfl
  ·rw[if_neg (by omega)]
   conv=>rhs; rw[Lib.decDigits,dif_neg h10]
   simp
 ·simp only[apW];rw[if_neg (by omega)]; simp
theorem VS (n:Int):Kx (n,())=some (Lib.itoa n,()):=rfl
theorem Qb (u:Nat):Kx ((u:Int),())=some (Lib.decDigits u,()):=by
 rw[VS,Lib.itoa,if_neg (by omega)]; simp
def Zz (b:UInt8):Bool := !(decide (b<UInt8.ofNat 48)) && !(decide (b>UInt8.ofNat 57))
def ZA (l:List UInt8) (v:Nat):Nat:=l.foldl (λ v b=>10*v+(b.toNat - 48)) v
def zA (s:List UInt8):Int×Bool:=
 if 1<=s.length/\s.length<=6/\s.all Zz=true/\Lib.decDigits (ZA s 0)=s then ((ZA s 0:Nat),true) else (0,false)
theorem ct (b:UInt8):Zz b=true↔48<=b.toNat/\b.toNat<=57:=by
 unfold Zz;simp only[apO,aqD,ara,UInt8.lt_iff_toNat_lt,gt_iff_lt];simp
theorem tk {i:Nat} (h:i<=6):10 ^ i<=1000000:=Nat.pow_le_pow_right (n:=10) (by decide) h
theorem Bo {dig:Int×Unit->Option (List UInt8×Unit)} (hd:∀ u:Nat,u<=9223372036854775807->dig ((u:Int),())=some (Lib.decDigits u,())) (s:List UInt8) (h6:s.length<=6) {G:(Int×Int×Unit->Option (Int×Bool×Unit))->Int×Int×Unit->Option (Int×Bool×Unit)}
  (ag7:∀ rec (v:Int),G rec (v,(s.length:Int),())=(dig (v,())).bind λ r1=>bif r1.1 != s then some (0,false,()) else some (v,true,()))
  (ag5:∀ rec (i v:Nat) (b:UInt8),s[i]?=some b->i<s.length->v<10 ^ i->G rec ((v:Int),(i:Int),())=if Zz b=true then rec (((10*v+(b.toNat - 48):Nat):Int),(i:Int)+1,()) else some (0,false,())):
  iter G fuel (0,0,())=some (if s.all Zz=true/\Lib.decDigits (ZA s 0)=s then (((ZA s 0:Nat):Int),true,()) else (0,false,())):=by
 refine (walk s.length (λ i (v:Nat)=>((v:Int),i,())) (λ i v=>v<10 ^ i)
  (λ i v=>some (if (s.drop i).all Zz=true/\Lib.decDigits (ZA (s.drop i) v)=s then (((ZA (s.drop i) v:Nat):Int),true,()) else (0,false,()))) (by omega) ?_ ?_ (s0:=0) (by decide)).trans (by simp)
 ·intro rec v hv;have:=tk h6;rw[ag7,hd v (by omega)];simp only[apL,aql,arv,ZA,List.foldl_nil,true_and];by_cases e:Lib.decDigits v=s
  ·have:(Lib.decDigits v != s)=false:=by simp[e]
   rw[if_pos e,this]; rfl
  ·have:(Lib.decDigits v != s)=true:=by simp[e]
   rw[if_neg e,this]; rfl
 ·intro rec i v hi hv;have hx:s[i]?=some s[i]:=List.getElem?_eq_getElem hi;rw[ag5 rec i v s[i] hx hi hv,List.drop_eq_getElem_cons hi];by_cases hb:Zz s[i]=true
  ·right;refine⟨10*v+(s[i].toNat - 48),?_,by rw[if_pos hb],?_⟩
   ·have:=(ct _).1 hb;rw[aqO]; omega
   ·have e:ZA (s[i]::List.drop (i+1) s) v=ZA (List.drop (i+1) s) (10*v+(s[i].toNat - 48)):=rfl;rw[aqm,hb,aq3,e]
  ·left;rw[if_neg hb,if_neg (λ h=>hb (by have:=h.1; rw[aqm,apO] at this; exact this.1))]
theorem wH {α:Type} (b:UInt8) (x y:α):(bif decide (b<UInt8.ofNat (Int.toNat 48)) then y else bif decide (b>UInt8.ofNat (Int.toNat 57)) then y else x)=if Zz b=true then x else y:=by
 unfold Zz;simp only[show Int.toNat 48=48 from rfl,show Int.toNat 57=57 from rfl];cases decide (b<UInt8.ofNat 48)<;>cases decide (b>UInt8.ofNat 57)<;>simp
theorem kD (s:List UInt8) (h:¬ (1<=s.length/\s.length<=6)):zA s=(0,false):=by
 unfold zA;rw[if_neg (λ hh=>h ⟨hh.1,hh.2.1⟩)]
theorem Bn (s:List UInt8) (h:1<=s.length/\s.length<=6):
  (some (if s.all Zz=true/\Lib.decDigits (ZA s 0)=s then (((ZA s 0:Nat):Int),true,()) else (0,false,())):Option (Int×Bool×Unit))=some ((zA s).1,(zA s).2,()):=by
 unfold zA;by_cases hc:s.all Zz=true/\Lib.decDigits (ZA s 0)=s
 ·rw[if_pos hc,if_pos ⟨h.1,h.2,hc⟩]
 ·rw[if_neg hc,if_neg (λ hh=>hc hh.2.2)]
theorem GI (s:List UInt8):MD (s,())=some ((zA s).1,(zA s).2,()):=by
 unfold MD;dsimp only;by_cases h1:(s.length:Int)<1
 ·rw[kD s (by omega)]; simp only[h1,apR,apN]
 by_cases h6:(s.length:Int)>6
 ·rw[kD s (by omega)]; simp only[h1,apU,apM,h6,apR,apN]
 simp only[h1,apU,apM,h6];refine (Bo (dig:=KO) aw s (by omega) ?_ ?_).trans (Bn s (by omega))
 ·intro rec v; simp
 ·intro rec i v b hx hi hv;have hp:=tk (i:=i) (by omega);simp only[zr hi,apR,apN,apZ,if_true,apW,fG hx,zo (show i<4611686018427387904 by omega)];rw[wH];by_cases hb:Zz b=true
  ·have:=(ct _).1 hb;rw[if_pos hb,if_pos hb,zg (n:=10*(v:Int)) (by omega) (by omega),zg (n:=10*(v:Int)+_) (by omega) (by omega),zg (by omega) (by omega)];congr 2;omega
  ·rw[if_neg hb,if_neg hb]
theorem xT (s:List UInt8):bX (s,())=some ((zA s).1,(zA s).2,()):=by
 unfold bX;dsimp only;by_cases h1:(s.length:Int)<1
 ·rw[kD s (by omega)]; simp only[h1,apR,apN]
 by_cases h6:(s.length:Int)>6
 ·rw[kD s (by omega)]; simp only[h1,apU,apM,h6,apR,apN]
 simp only[h1,apU,apM,h6];refine (Bo (dig:=Kx) (λ u _=>Qb u) s (by omega) ?_ ?_).trans (Bn s (by omega))
 ·intro rec v; simp
 ·intro rec i v b hx hi hv;have hp:=tk (i:=i) (by omega);simp only[zr hi,apR,apN,apZ,if_true,apW,fG hx,zo (show i<4611686018427387904 by omega)];rw[wH];by_cases hb:Zz b=true
  ·have:=(ct _).1 hb;have agv:(b - UInt8.ofNat (Int.toNat 48)).toNat=b.toNat - 48:=by
    rw[UInt8.toNat_sub_of_le]
    ·rfl
    ·rw[UInt8.le_iff_toNat_le]; exact this.1
   rw[if_pos hb,if_pos hb,agv,zg (n:=10*(v:Int)) (by omega) (by omega),zg (by omega) (by omega)];congr 2
  ·rw[if_neg hb,if_neg hb]
theorem aa6 (l:List UInt8) (b:UInt8) (v:Nat):ZA (l++[b]) v=10*ZA l v+(b.toNat - 48):=by simp[ZA]
theorem fh {u:Nat} (h:u<10):(UInt8.ofNat (48+u)).toNat=48+u:=by
 rw[UInt8.toNat_ofNat']; omega
theorem wN:∀ u:Nat,(Lib.decDigits u).all Zz=true/\ZA (Lib.decDigits u) 0=u:=by
 intro u;induction u using Nat.strongRecOn with
 | _ u ih=>
  by_cases h:u<10
  ·rw[Lib.decDigits,dif_pos h];have hd:Zz (UInt8.ofNat (48+u))=true:=(ct _).2 (by rw[fh h]; omega)
   refine⟨by rw[aqm,hd]; rfl,?_⟩
   simp only[ZA,aqF,List.foldl_nil];rw[fh h]; omega
  ·rw[Lib.decDigits,dif_neg h];obtain⟨h1,h2⟩:=ih (u / 10) (by omega);have hd:Zz (UInt8.ofNat (48+u % 10))=true:=(ct _).2 (by rw[fh (by omega)]; omega)
   refine⟨by rw[List.all_append,h1,aqm,hd]; rfl,?_⟩
   rw[aa6,h2,fh (by omega)]; omega
theorem wO (u:Nat) (h:u<1000000):1<=(Lib.decDigits u).length/\(Lib.decDigits u).length<=6:=by
 rw[Lib.decDigits_length];refine⟨Lib.nDigits_pos u,?_⟩;have key:∀ k u:Nat,u<10 ^ (k+1)->Lib.nDigits u<=k+1:=by
  intro k;induction k with
  | zero=>intro u h; rw[Lib.nDigits_small (by simpa using h)]; exact Nat.le_refl _
  | succ k ih=>
   intro u h;by_cases hu:u<10
   ·rw[Lib.nDigits_small hu]; omega
   ·rw[Lib.nDigits_big hu];have:=ih (u / 10) (by rw[aqO] at h; omega)
    omega
 exact key 5 u (by simpa using h)
theorem kC (u:Nat) (h:u<1000000):zA (Lib.decDigits u)=((u:Int),true):=by
 obtain⟨h1,h2⟩:=wN u;obtain⟨h3,h4⟩:=wO u h;unfold zA;rw[if_pos ⟨h3,h4,h1,by rw[h2]⟩,h2]
theorem oM {u:Nat} {c:UInt8} (hc:Zz c=false):c∉Lib.decDigits u:=by
 intro hm;have:=List.all_eq_true.1 (wN u).1 c hm;rw[hc] at this; cases this
def zF (t:zI):Bool:=(decide (t.1≥0) && decide (t.1<=3)) && ((decide (t.2.1≥0) && decide (t.2.1<=3)) && ((decide (t.2.2.1≥0) && decide (t.2.2.1<=1000)) && (decide (t.2.2.2≥0) && decide (t.2.2.2<=99))))
theorem qn (t:zI):zF t=true↔(0<=t.1/\t.1<=3)/\(0<=t.2.1/\t.2.1<=3)/\(0<=t.2.2.1/\t.2.2.1<=1000)/\(0<=t.2.2.2/\t.2.2.2<=99):=by
 unfold zF; simp only[apO,apY,ge_iff_le]
theorem N9 (t:zI):LJ (t,())=some (zF t,()):=by
 unfold LJ zF;simp only[Y9,apL];cases (decide (t.1≥0) && decide (t.1<=3))<;>cases (decide (t.2.1≥0) && decide (t.2.1<=3))<;>cases (decide (t.2.2.1≥0) && decide (t.2.2.1<=1000))<;>rfl
theorem Mc (t:zI):J5 (t,())=some (zF t,()):=by
 unfold J5 zF;simp only[ZT,apL];cases (decide (t.1≥0) && decide (t.1<=3))<;>cases (decide (t.2.1≥0) && decide (t.2.1<=3))<;>cases (decide (t.2.2.1≥0) && decide (t.2.2.1<=1000))<;>rfl
def yF (t:zI):List UInt8:=
 if zF t=true then (((((Lib.decDigits t.1.toNat++[62])++Lib.decDigits t.2.1.toNat)++[58])++Lib.decDigits t.2.2.1.toNat)++[35])++Lib.decDigits t.2.2.2.toNat else []
theorem dl (u:Nat) (h:u<1000000):(Lib.decDigits u).length<=6:=(wO u h).2
theorem eB (t:zI):(yF t).length<=27:=by
 unfold yF;split
 ·next h=>
  have:=(qn t).1 h;have h1:=dl t.1.toNat (by omega);have h2:=dl t.2.1.toNat (by omega);have h3:=dl t.2.2.1.toNat (by omega);have h4:=dl t.2.2.2.toNat (by omega);simp only[apX,apQ,apS];omega
 ·simp
theorem GN (t:zI):aO (t,())=some (yF t,()):=by
 unfold aO yF;simp only[N9,apL];by_cases h:zF t=true
 ·have hh:=(qn t).1 h;have d1:=aw t.1.toNat (by omega);have d2:=aw t.2.1.toNat (by omega);have d3:=aw t.2.2.1.toNat (by omega);have d4:=aw t.2.2.2.toNat (by omega);rw[arp (by omega)] at d1 d2 d3 d4;have h1:=dl t.1.toNat (by omega);have h2:=dl t.2.1.toNat (by omega);have h3:=dl t.2.2.1.toNat (by omega);have h4:=dl t.2.2.2.toNat (by omega);simp only[h,apT,apM,d1,d2,d3,d4,apL,apX,apQ,apS,if_true];rw[if_pos (by omega),if_pos (by omega),if_pos (by omega),if_pos (by omega),if_pos (by omega),if_pos (by omega)]
 ·have:zF t=false:=by simpa using h
  simp[this]
theorem Aa (t:zI):Qn (t,())=some (yF t,()):=by
 unfold Qn yF;simp only[Mc,apL];by_cases h:zF t=true
 ·have hh:=(qn t).1 h;have d1:=Qb t.1.toNat;have d2:=Qb t.2.1.toNat;have d3:=Qb t.2.2.1.toNat;have d4:=Qb t.2.2.2.toNat;rw[arp (by omega)] at d1 d2 d3 d4;have h1:=dl t.1.toNat (by omega);have h2:=dl t.2.1.toNat (by omega);have h3:=dl t.2.2.1.toNat (by omega);have h4:=dl t.2.2.2.toNat (by omega);simp only[h,apT,apM,d1,d2,d3,d4,apL,apX,apQ,apS,if_true];rw[if_pos (by omega),if_pos (by omega),if_pos (by omega),if_pos (by omega),if_pos (by omega),if_pos (by omega)]
 ·have:zF t=false:=by simpa using h
  simp[this]
def zX (c:UInt8) (s d:List UInt8):List UInt8×List UInt8:=match y0 c s with|some p=>p|none=>(d,[])
def Yq (s:List UInt8):zI:=
 let p:=zX 62 s []
 let q:=zX 58 p.2 []
 let r:=zX 35 q.2 []
 ((zA p.1).1,(zA q.1).1,(zA r.1).1,(zA r.2).1)
def Jq (s:List UInt8):zI:=
 let p:=zX 62 s s
 let q:=zX 58 p.2 p.2
 let r:=zX 35 q.2 q.2
 ((zA p.1).1,(zA q.1).1,(zA r.1).1,(zA r.2).1)
theorem Ij {t:zI} (h:zF t=true) (d1 d2 d3:List UInt8->List UInt8):
  let p:=zX 62 (yF t) (d1 (yF t))
  let q:=zX 58 p.2 (d2 p.2)
  let r:=zX 35 q.2 (d3 q.2)
  ((zA p.1).1,(zA q.1).1,(zA r.1).1,(zA r.2).1)=t:=by
 have hh:=(qn t).1 h;have e1:y0 62 (yF t)=some (Lib.decDigits t.1.toNat,Lib.decDigits t.2.1.toNat++58::(Lib.decDigits t.2.2.1.toNat++35::Lib.decDigits t.2.2.2.toNat)):=by
  unfold yF;rw[if_pos h];have:=bD 62 (Lib.decDigits t.2.1.toNat++58::(Lib.decDigits t.2.2.1.toNat++35::Lib.decDigits t.2.2.2.toNat)) (Lib.decDigits t.1.toNat) (oM (by decide));rw[←this];congr 1;simp
 have e2:=bD 58 (Lib.decDigits t.2.2.1.toNat++35::Lib.decDigits t.2.2.2.toNat) (Lib.decDigits t.2.1.toNat) (oM (by decide));have e3:=bD 35 (Lib.decDigits t.2.2.2.toNat) (Lib.decDigits t.2.2.1.toNat) (oM (by decide));simp only[zX,e1,e2,e3,kC _ (show t.1.toNat<1000000 by omega),kC _ (show t.2.1.toNat<1000000 by omega),kC _ (show t.2.2.1.toNat<1000000 by omega),kC _ (show t.2.2.2.toNat<1000000 by omega)];obtain⟨a,b,c,d⟩:=t;simp only at hh;simp only[apV];omega
def ZL (s:List UInt8):zI×Bool:=if zF (Yq s)=true/\yF (Yq s)=s then (Yq s,true) else ((0,0,0,0),false)
theorem afy (s:List UInt8):ZL s=if zF (Jq s)=true/\yF (Jq s)=s then (Jq s,true) else ((0,0,0,0),false):=by
 unfold ZL;by_cases h1:zF (Yq s)=true/\yF (Yq s)=s
 ·have e:Jq s=Yq s:=by
   have:=Ij h1.1 (λ x=>x) (λ x=>x) (λ x=>x);rw[h1.2] at this;exact this
  rw[if_pos h1,e,if_pos h1]
 ·rw[if_neg h1,if_neg];intro h2;have e:Yq s=Jq s:=by
   have:=Ij h2.1 (λ x=>[]) (λ x=>[]) (λ x=>[]);rw[h2.2] at this;exact this
  exact h1 (by rw[e]; exact h2)
theorem kf (s:List UInt8) (c:UInt8) (hs:s.length<=137438953472):MK (s,c,())=some ((zX c s []).1,(zX c s []).2,(y0 c s).isSome,()):=by
 rw[afd s c hs];unfold zX;cases y0 c s<;>rfl
theorem MY (c:UInt8) (s d:List UInt8) (hd:d.length<=s.length):(zX c s d).1.length<=s.length/\(zX c s d).2.length<=s.length:=by
 unfold zX;cases h:y0 c s with
 | none=>exact⟨hd,by simp⟩
 | some p=>
  have:=(oL c (p:=p.1) (q:=p.2) h).1;simp only;omega
theorem afC {t:zI} (h:¬ zF t=true):yF t=[]:=by unfold yF; rw[if_neg h]
theorem afB {t:zI} (h:zF t=true):yF t≠[]:=by unfold yF; rw[if_pos h]; simp
theorem af1 (s:List UInt8) (hs:s.length<=137438953472):dW (s,())=some ((ZL s).1,(ZL s).2,()):=by
 have l1:=MY 62 s [] (by simp);have l2:=MY 58 (zX 62 s []).2 [] (by simp);have l3:=MY 35 (zX 58 (zX 62 s []).2 []).2 [] (by simp);unfold dW;simp only[show UInt8.ofNat (Int.toNat 62)=62 from rfl,show UInt8.ofNat (Int.toNat 58)=58 from rfl,show UInt8.ofNat (Int.toNat 35)=35 from rfl,
  kf s 62 hs,kf (zX 62 s []).2 58 (by omega),kf (zX 58 (zX 62 s []).2 []).2 35 (by omega),GI,GN,Option.bind_some]
 by_cases h0:s=[]
 ·subst h0;have:¬ (zF (Yq [])=true/\yF (Yq [])=[]):=λ h=>afB h.1 h.2;unfold ZL;rw[if_neg this];simp
 ·have e0:(s==[])=false:=by simp[h0]
  simp only[e0,apM];unfold ZL;have ef:((zA (zX 62 s []).1).1,(zA (zX 58 (zX 62 s []).2 []).1).1,(zA (zX 35 (zX 58 (zX 62 s []).2 []).2 []).1).1,(zA (zX 35 (zX 58 (zX 62 s []).2 []).2 []).2).1)=Yq s:=rfl;rw[ef];by_cases h:yF (Yq s)=s
  ·have hok:zF (Yq s)=true:=by
    by_cases hk:zF (Yq s)=true
    ·exact hk
    ·rw[afC hk] at h; exact absurd h.symm h0
   have e1:(yF (Yq s) != s)=false:=by simp[h]
   rw[if_pos ⟨hok,h⟩,e1]; rfl
  ·have e1:(yF (Yq s) != s)=true:=by simp[h]
   rw[if_neg (λ hh=>h hh.2),e1]; rfl
theorem nQ (s:List UInt8) (c:UInt8) (hs:s.length<=1073741824):strings_Cut (s,[c],())=some ((zX c s s).1,(zX c s s).2,(y0 c s).isSome,()):=by
 unfold strings_Cut;dsimp only;rw[if_pos (by omega),XM];unfold zX;cases y0 c s<;>rfl
theorem Wx (s:List UInt8) (hs:s.length<=1073741824):cj (s,())=some ((ZL s).1,(ZL s).2,()):=by
 have l1:=MY 62 s s (Nat.le_refl _);have l2:=MY 58 (zX 62 s s).2 (zX 62 s s).2 (Nat.le_refl _);rw[afy];unfold cj;simp only[nQ s 62 hs,nQ (zX 62 s s).2 58 (by omega),nQ (zX 58 (zX 62 s s).2 (zX 62 s s).2).2 35 (by omega),apL];generalize hp:zX 62 s s=p;generalize hq:zX 58 p.2 p.2=q;generalize hr:zX 35 q.2 q.2=r;have ef:Jq s=((zA p.1).1,(zA q.1).1,(zA r.1).1,(zA r.2).1):=by
  unfold Jq; simp only[hp,hq,hr]
 refine (Vz [p.1,q.1,r.1,r.2] (λ x=>(zA x).1) (λ out=>(J5 ((rd .i64 out 0,rd .i64 out 1,rd .i64 out 2,rd .i64 out 3),())).bind λ r5=>bif (!r5.1) then some ((0,0,0,0),false,()) else
   (Qn ((rd .i64 out 0,rd .i64 out 1,rd .i64 out 2,rd .i64 out 3),())).bind λ r6=>bif (r6.1 != s) then some ((0,0,0,0),false,()) else some ((rd .i64 out 0,rd .i64 out 1,rd .i64 out 2,rd .i64 out 3),true,())) (by simp) ?_ ?_ _ (by simp)).trans ?_
 ·intro rec out ho;have ho:out.length=4:=ho;simp[ho]
 ·intro rec i out y hx hi ho;have ho:out.length=4:=ho;have hi':i<4:=hi;simp only[apW,ho,zr hi,apR,apN,if_true,apZ,zm (e:=.str) hx,xT y,apL,zo (show i<4611686018427387904 by omega)];rw[if_pos ⟨trivial,by omega⟩]
 ·simp only[aq5,aqr,rd,as6,List.getD_cons_succ];rw[←ef,Mc,Aa];simp only[apL];by_cases h:zF (Jq s)=true
  ·by_cases h2:yF (Jq s)=s
   ·have e1:(yF (Jq s) != s)=false:=by simp[h2]
    rw[if_pos ⟨h,h2⟩,e1,h]; rfl
   ·have e1:(yF (Jq s) != s)=true:=by simp[h2]
    rw[if_neg (λ hh=>h2 hh.2),e1,h]; rfl
  ·have:zF (Jq s)=false:=by simpa using h
   rw[if_neg (λ hh=>h hh.1),this]; rfl
def Jb:List (List UInt8)->List zI->List zI×Bool
 | [],out=>(out,true)
 | p::ps,out=>if (ZL p).2=true then Jb ps (out++[(ZL p).1]) else ([],false)
def jp (s:List UInt8):List zI×Bool:=if s=[] then ([],true) else Jb (zS 44 s) []
theorem NL (c:UInt8):∀ {s p:List UInt8},p∈zS c s->p.length<=s.length
 | [],p,h=>by simp[zS] at h; simp[h]
 | x::l,p,h=>by
  simp only[zS] at h;split at h
  ·rcases List.mem_cons.1 h with rfl|h
   ·simp
   ·have:=NL c h; simp; omega
  ·cases hp:zS c l with
   | nil=>rw[hp] at h; simp[glue] at h; simp[h]
   | cons q r=>
    rw[hp] at h;simp only[glue,aqb] at h;rcases h with rfl|h
    ·have:=NL c (s:=l) (p:=q) (by rw[hp]; simp); simp; omega
    ·have:=NL c (s:=l) (p:=p) (by rw[hp]; simp[h]); simp; omega
theorem Im {tx:List UInt8×Unit->Option (zI×Bool×Unit)} (ps:List (List UInt8)) (hl:ps.length<=137438953473) (htx:∀ p∈ps,tx (p,())=some ((ZL p).1,(ZL p).2,()))
  {G:(List zI×Int×Unit->Option (List zI×Bool×Unit))->List zI×Int×Unit->Option (List zI×Bool×Unit)}
  (hG:∀ rec out (i:Int),G rec (out,i,())=bif decide (i<(ps.length:Int)) then (if 0<=i/\i<(ps.length:Int) then (tx (rd .str ps i.toNat,())).bind λ r2=>bif !r2.2.1 then some ([],false,()) else
   (if (out.length+[r2.1].length)*32<=70368744177664 then rec (out++[r2.1],wr (i+1),()) else none) else none) else some (out,true,())):
  iter G fuel ([],0,())=some ((Jb ps []).1,(Jb ps []).2,()):=by
 refine (walk ps.length (λ i (out:List zI)=>(out,i,())) (λ i out=>out.length=i) (λ i out=>some ((Jb (ps.drop i) out).1,(Jb (ps.drop i) out).2,())) (by omega) ?_ ?_ (s0:=[]) rfl).trans (by simp)
 ·intro rec out ho;rw[hG]; simp[Jb]
 ·intro rec i out hi ho;have hx:ps[i]?=some ps[i]:=List.getElem?_eq_getElem hi;rw[hG];simp only[zr hi,decide_true,cond_true,and_self,if_true,Int.toNat_natCast,zm (e:=.str) hx,htx ps[i] (List.getElem_mem hi),Option.bind_some,zo (show i<4611686018427387904 by omega),List.length_cons,List.length_nil];rw[aq7 hi];by_cases h:(ZL ps[i]).2=true
  ·right;refine⟨out++[(ZL ps[i]).1],by simp[ho],?_,?_⟩
   ·rw[h]; simp only[apT,apM]; rw[if_pos (by omega)]
   ·simp only[Jb,h,if_true]
  ·left;have h':(ZL ps[i]).2=false:=by simpa using h
   simp[Jb,h']
theorem af2 (s:List UInt8) (hs:s.length<=137438953472):nk (s,())=some ((jp s).1,(jp s).2,()):=by
 unfold nk jp;by_cases h0:s=[]
 ·subst h0; rfl
 ·have e0:(s==[])=false:=by simp[h0]
  rw[if_neg h0];simp only[e0,apM,show UInt8.ofNat (Int.toNat 44)=44 from rfl,GL s 44 hs,apL];have hp:=da 44 s;refine Im (tx:=dW) (zS 44 s) (by omega) (λ p hm=>af1 p (by have:=NL 44 hm; omega)) ?_
  intro rec out i; rfl
theorem Wy (s:List UInt8) (hs:s.length<=1073741824):gA (s,())=some ((jp s).1,(jp s).2,()):=by
 unfold gA jp;by_cases h0:s=[]
 ·subst h0; rfl
 ·have e0:(s==[])=false:=by simp[h0]
  rw[if_neg h0];simp only[e0,apM,show UInt8.ofNat (Int.toNat 44)=44 from rfl,xY s 44 hs,apL];have hp:=da 44 s;refine Im (tx:=cj) (zS 44 s) (by omega) (λ p hm=>Wx p (by have:=NL 44 hm; omega)) ?_
  intro rec out i; rfl
abbrev Yt:=Int×List zI
def ja (q:List UInt8×List UInt8) (prev:Int):Bool:=
 (zA q.1).2 && ((jp q.2).2 && (decide (prev<(zA q.1).1) && (decide ((zA q.1).1<=60) && decide ((jp q.2).1.length<=2))))
def jM:List (List UInt8)->Int->List Yt->List Yt×Bool
 | [],_,out=>(out,true)
 | p::ps,prev,out=>match y0 124 p with
  | none=>([],false)
  | some q=>if ja q prev=true then
    jM ps (zA q.1).1 (out++[((zA q.1).1,(jp q.2).1)]) else ([],false)
def steps (s:List UInt8):List Yt×Bool:=
 if s=[] then ([],true) else match zS 47 s with
  | []=>([],false)
  | p::ps=>if p=[]/\ps.length<=30 then jM ps 0 [] else ([],false)
theorem rv (s:List UInt8):0<=(zA s).1:=by
 unfold zA;split<;>simp
theorem ng (s:List UInt8) (hs:s.length<=137438953472):N6 (s,())=some ((steps s).1,(steps s).2,()):=by
 unfold N6 steps;by_cases h0:s=[]
 ·subst h0; rfl
 have e0:(s==[])=false:=by simp[h0]
 rw[if_neg h0];simp only[e0,apM,show UInt8.ofNat (Int.toNat 47)=47 from rfl,show UInt8.ofNat (Int.toNat 124)=124 from rfl,GL s 47 hs,apL];have hpl:=da 47 s;have hpm:∀ p∈zS 47 s,p.length<=s.length:=λ p hm=>NL 47 hm;cases hp:zS 47 s with
 | nil=>exact absurd hp (JB _ _)
 | cons p ps=>
  rw[hp] at hpl hpm;simp only[apQ] at hpl;rw[if_pos (by simp only[apQ]; omega)]
  simp only[aqP,rd,as6];by_cases h1:p=[]
  ·subst h1;simp only[bne_self_eq_false,apM];by_cases h2:(((([]:List UInt8)::ps).length:Nat):Int)>31
   ·rw[if_neg (by simp only[apQ] at h2; omega)]
    simp only[h2,apR,apN]
   ·rw[if_pos (show True/\ps.length<=30 from⟨trivial,by simp only[apQ] at h2; omega⟩)]
    simp only[h2,apU,apM];refine (Iw (([]:List UInt8)::ps).length (λ i (t:List Yt×Int)=>(t.1,t.2,i,())) (λ i t=>t.1.length<=i/\0<=t.2/\t.2<=60)
     (λ i t=>some ((jM ((([]:List UInt8)::ps).drop i) t.2 t.1).1,(jM ((([]:List UInt8)::ps).drop i) t.2 t.1).2,())) (by simp only[apQ]; omega) ?_ ?_ (s0:=([],0)) 1 (by simp) ⟨by simp,by simp,by simp⟩).trans (by simp)
    ·intro rec t ht; simp[jM]
    ·intro rec i t hi ht;obtain⟨t1,t2,t3⟩:=ht;have hx:(([]:List UInt8)::ps)[i]?=some (([]:List UInt8)::ps)[i]:=List.getElem?_eq_getElem hi;have hlen:=hpm _ (List.getElem_mem hi);have hil:i<=s.length+1:=by simp only[apQ] at hi; omega
     rw[aq7 hi];simp only[jM];have hc:=MY 124 (([]:List UInt8)::ps)[i] [] (by simp);simp only[zr hi,decide_true,cond_true,and_self,if_true,Int.toNat_natCast,zm (e:=.str) hx,kf _ 124 (show (([]:List UInt8)::ps)[i].length<=137438953472 by omega),GI,af2 _ (show (zX 124 (([]:List UInt8)::ps)[i] []).2.length<=137438953472 by omega),Option.bind_some,
      zo (show i<4611686018427387904 by omega)]
     generalize hq:y0 124 (([]:List UInt8)::ps)[i]=q;cases q with
     | none=>left; simp
     | some q=>
      simp only[zX,hq,Option.isSome_some,apT,apM];by_cases c1:(zA q.1).2=true
      ·by_cases c2:(jp q.2).2=true
       ·by_cases c3:t.2<(zA q.1).1
        ·by_cases c4:(zA q.1).1<=60
         ·by_cases c5:(jp q.2).1.length<=2
          ·right;refine⟨(t.1++[((zA q.1).1,(jp q.2).1)],(zA q.1).1),⟨by simp; omega,rv _,c4⟩,?_,?_⟩
           ·simp only[c1,c2,apT,apM,show ¬ (zA q.1).1<=t.2 by omega,apU,show ¬ (zA q.1).1>60 by omega,show ¬ ((jp q.2).1.length:Int)>2 by omega,apQ,apS];rw[if_pos (by omega)]
           ·rw[if_pos (show ja q t.2=true by simp[ja,c1,c2,c3,c4,c5])]
          ·left;have hB:ja q t.2=false:=by simp[ja,c5]
           rw[hB];simp[c1,c2,show ¬ (zA q.1).1<=t.2 by omega,show ¬ (zA q.1).1>60 by omega,show (2:Int)<((jp q.2).1.length:Int) by omega]
         ·left;have hB:ja q t.2=false:=by simp[ja,c4]
          rw[hB];simp[c1,c2,show ¬ (zA q.1).1<=t.2 by omega,show (zA q.1).1>60 by omega]
        ·left;have hB:ja q t.2=false:=by simp[ja,c3]
         rw[hB];simp[c1,c2,show (zA q.1).1<=t.2 by omega]
       ·left;have hB:ja q t.2=false:=by simp[ja,c2]
        rw[hB];have:(jp q.2).2=false:=by simpa using c2
        simp[c1,this]
      ·left;have hB:ja q t.2=false:=by simp[ja,c1]
       rw[hB];have:(zA q.1).2=false:=by simpa using c1
       simp[this]
  ·have e1:(p != [])=true:=by simp[h1]
   rw[if_neg (show ¬ (p=[]/\ps.length<=30) from λ h=>h1 h.1),e1]; rfl
theorem gu (s:List UInt8) (hs:s.length<=1073741824):Ni (s,())=some ((steps s).1,(steps s).2,()):=by
 unfold Ni steps;by_cases h0:s=[]
 ·subst h0; rfl
 have e0:(s==[])=false:=by simp[h0]
 rw[if_neg h0];simp only[e0,apM,show UInt8.ofNat (Int.toNat 47)=47 from rfl,xY s 47 hs,apL];have hpl:=da 47 s;have hpm:∀ p∈zS 47 s,p.length<=s.length:=λ p hm=>NL 47 hm;cases hp:zS 47 s with
 | nil=>exact absurd hp (JB _ _)
 | cons p ps=>
  rw[hp] at hpl hpm;simp only[apQ] at hpl;rw[if_pos (by simp only[apQ]; omega)]
  simp only[aqP,rd,as6];have hw:wr (((p::ps).length:Int) - 1)=(ps.length:Int):=by
   rw[zg (by simp only[apQ]; omega) (by simp only[apQ]; omega)]
   simp only[apQ]; omega
  rw[hw];have htd:List.take ((((p::ps).length:Nat):Int).toNat - Int.toNat 1) (List.drop (Int.toNat 1) (p::ps))=ps:=by
   simp
  rw[htd];by_cases h1:p=[]
  ·subst h1;simp only[bne_self_eq_false,apM];by_cases h2:(ps.length:Int)>30
   ·rw[if_neg (show ¬ (True/\ps.length<=30) from λ h=>by have:=h.2; omega)]
    simp only[h2,apR,apN]
   ·rw[if_pos (show True/\ps.length<=30 from⟨trivial,by omega⟩)];simp only[h2,apU,apM];rw[if_pos (by simp only[apQ]; omega)]
    refine (walk ps.length (λ i (t:List Yt×Int)=>(t.1,t.2,i,())) (λ i t=>t.1.length<=i/\0<=t.2/\t.2<=60)
     (λ i t=>some ((jM (ps.drop i) t.2 t.1).1,(jM (ps.drop i) t.2 t.1).2,())) (by omega) ?_ ?_ (s0:=([],0)) ⟨by simp,by simp,by simp⟩).trans (by simp)
    ·intro rec t ht; simp[jM]
    ·intro rec i t hi ht;obtain⟨t1,t2,t3⟩:=ht;have hx:ps[i]?=some ps[i]:=List.getElem?_eq_getElem hi;have hlen:=hpm _ (List.mem_cons_of_mem _ (List.getElem_mem hi));rw[aq7 hi];simp only[jM];have hc:=MY 124 ps[i] ps[i] (Nat.le_refl _);have hx':ps.getD i (dflt .str)=ps[i]:=zm (e:=.str) hx;simp only[zr hi,decide_true,cond_true,and_self,if_true,Int.toNat_natCast,hx',nQ _ 124 (show ps[i].length<=1073741824 by omega),xT,Wy _ (show (zX 124 ps[i] ps[i]).2.length<=1073741824 by omega),Option.bind_some,
      zo (show i<4611686018427387904 by omega),ZT,zg (show (-9223372036854775808:Int)<=t.2+1 by omega) (show t.2+1<=9223372036854775807 by omega)]
     generalize hq:y0 124 ps[i]=q;cases q with
     | none=>left; simp
     | some q=>
      simp only[zX,hq,Option.isSome_some,apT,apM];by_cases c1:(zA q.1).2=true
      ·by_cases c2:(jp q.2).2=true
       ·by_cases c3:t.2<(zA q.1).1
        ·by_cases c4:(zA q.1).1<=60
         ·by_cases c5:(jp q.2).1.length<=2
          ·right;refine⟨(t.1++[((zA q.1).1,(jp q.2).1)],(zA q.1).1),⟨by simp; omega,rv _,c4⟩,?_,?_⟩
           ·simp only[c1,c2,c4,apT,apM,show (zA q.1).1≥t.2+1 by omega,apR,aqH,show ¬ ((jp q.2).1.length:Int)>2 by omega,apU,apQ,apS];rw[if_pos (by omega)]
           ·rw[if_pos (show ja q t.2=true by simp[ja,c1,c2,c3,c4,c5])]
          ·left;have hB:ja q t.2=false:=by simp[ja,c5]
           rw[hB];simp[c1,c2,c4,show t.2+1<=(zA q.1).1 by omega,show (2:Int)<((jp q.2).1.length:Int) by omega]
         ·left;have hB:ja q t.2=false:=by simp[ja,c4]
          rw[hB];simp[c1,c2,c4]
        ·left;have hB:ja q t.2=false:=by simp[ja,c3]
         rw[hB];simp[c1,c2,show ¬ t.2+1<=(zA q.1).1 by omega]
       ·left;have hB:ja q t.2=false:=by simp[ja,c2]
        rw[hB];have:(jp q.2).2=false:=by simpa using c2
        simp[c1,this]
      ·left;have hB:ja q t.2=false:=by simp[ja,c1]
       rw[hB];have:(zA q.1).2=false:=by simpa using c1
       simp[this]
  ·have e1:(p != [])=true:=by simp[h1]
   rw[if_neg (show ¬ (p=[]/\ps.length<=30) from λ h=>h1 h.1),e1]; rfl
def zz (c:za):Bool:=(decide (c.1≥4) && decide (c.1<=7)) && (decide (c.2≥1) && decide (c.2<=6))
theorem JL (c:za):Yr (c,())=some (zz c,()):=by
 unfold Yr zz;simp only[Y9,apL];cases (decide (c.1≥4) && decide (c.1<=7))<;>rfl
theorem J3 (c:za):Yz (c,())=some (zz c,()):=by
 unfold Yz zz;simp only[ZT,apL];cases (decide (c.1≥4) && decide (c.1<=7))<;>rfl
theorem zR {c:za} (h:zz c=true):4<=c.1/\c.1<=7:=by
 unfold zz at h;simp only[apO,apY] at h;omega
def zB (s:List UInt8):Bool:=(steps s).2
def zl (s:List UInt8):Int:=match (steps s).1.getLast? with|some x=>x.1|none=>0
theorem LF (s:List UInt8) (hs:s.length<=137438953472):JM (s,())=some (zB s,()):=by
 unfold JM zB;simp only[ng s hs,apL]
theorem La (s:List UInt8) (hs:s.length<=1073741824):Jr (s,())=some (zB s,()):=by
 unfold Jr zB;simp only[gu s hs,apL]
theorem G4:∀ (ps:List (List UInt8)) (prev:Int) (out:List Yt),((jM ps prev out).2=false->(jM ps prev out).1=[])/\(jM ps prev out).1.length<=out.length+ps.length
 | [],prev,out=>by simp[jM]
 | p::ps,prev,out=>by
  simp only[jM];cases y0 124 p with
  | none=>simp
  | some q=>
   simp only;split
   ·obtain⟨h1,h2⟩:=G4 ps (zA q.1).1 (out++[((zA q.1).1,(jp q.2).1)]);refine⟨h1,?_⟩;simp only[apX,apQ,apS] at h2 ⊢;omega
   ·simp
theorem bf (s:List UInt8):((steps s).2=false->(steps s).1=[])/\(steps s).1.length<=30:=by
 unfold steps;split
 ·simp
 ·cases zS 47 s with
  | nil=>simp
  | cons p ps=>
   simp only;split
   ·next h=>
    obtain⟨h1,h2⟩:=G4 ps 0 [];exact⟨h1,by simp only[apS] at h2; omega⟩
   ·simp
theorem pS {l:List Yt} (h:l≠[]):∃ x,l.getLast?=some x/\l[l.length - 1]?=some x:=by
 have hl:l.length - 1<l.length:=by cases l with|nil=>exact absurd rfl h|cons _ _=>simp
 exact⟨l[l.length - 1],by rw[List.getLast?_eq_getElem?,aqC hl],List.getElem?_eq_getElem hl⟩
theorem KP (s:List UInt8) (hs:s.length<=137438953472):YO (s,())=some (zl s,()):=by
 unfold YO zl;simp only[ng s hs,apL];obtain⟨h1,h2⟩:=bf s;by_cases h:(steps s).2=true
 ·rw[h];simp only[apT,apM];by_cases h0:(steps s).1=[]
  ·simp[h0]
  ·obtain⟨x,e1,e2⟩:=pS h0;have hl:1<=(steps s).1.length:=by cases hh:(steps s).1 with|nil=>exact absurd hh h0|cons _ _=>simp
   have e3:(((steps s).1.length:Int)==0)=false:=by simp; omega
   simp only[e3,apM,e1,zg (show (-9223372036854775808:Int)<=((steps s).1.length:Int) - 1 by omega) (show ((steps s).1.length:Int) - 1<=9223372036854775807 by omega)];rw[if_pos (by omega),show (((steps s).1.length:Int) - 1).toNat=(steps s).1.length - 1 by omega,zm e2]
 ·have h':(steps s).2=false:=by simpa using h
  rw[h',h1 h']; rfl
theorem Lg (s:List UInt8) (hs:s.length<=1073741824):Jt (s,())=some (zl s,()):=by
 unfold Jt zl;simp only[gu s hs,apL];obtain⟨h1,h2⟩:=bf s;by_cases h0:(steps s).1=[]
 ·simp[h0]
 ·obtain⟨x,e1,e2⟩:=pS h0;have hl:1<=(steps s).1.length:=by cases hh:(steps s).1 with|nil=>exact absurd hh h0|cons _ _=>simp
  have e3:(((steps s).1.length:Int)==0)=false:=by simp; omega
  simp only[e3,apM,e1,zg (show (-9223372036854775808:Int)<=((steps s).1.length:Int) - 1 by omega) (show ((steps s).1.length:Int) - 1<=9223372036854775807 by omega)];rw[if_pos (by omega),show (((steps s).1.length:Int) - 1).toNat=(steps s).1.length - 1 by omega,zm e2]
theorem G7:∀ (ps:List (List UInt8)) (prev:Int) (out:List Yt),(out≠[]∨ps≠[])->0<=prev->(∀ x,out.getLast?=some x->1<=x.1/\x.1<=60)->(jM ps prev out).2=true->
  ∃ x,(jM ps prev out).1.getLast?=some x/\1<=x.1/\x.1<=60
 | [],prev,out,h,hp,ho,hok=>by
  have h0:out≠[]:=h.elim id (λ h=>absurd rfl h);obtain⟨x,e,_⟩:=pS h0;exact⟨x,e,ho x e⟩
 | p::ps,prev,out,h,hp,ho,hok=>by
  simp only[jM] at hok ⊢;cases hq:y0 124 p with
  | none=>rw[hq] at hok; simp at hok
  | some q=>
   rw[hq] at hok;simp only at hok ⊢;split at hok
   ·next hB=>
    rw[if_pos hB];simp only[ja,apO,apY] at hB;refine G7 ps (zA q.1).1 _ (.inl (by simp)) (rv _) ?_ hok;intro x hx;simp at hx;subst hx;exact⟨by simp only; omega,hB.2.2.2.1⟩
   ·simp at hok
theorem Nx {s:List UInt8} (h:zB s=true) (h0:s≠[]):1<=zl s/\zl s<=60:=by
 unfold zB steps at h;unfold zl steps;rw[if_neg h0] at h ⊢;cases hp:zS 47 s with
 | nil=>exact absurd hp (JB _ _)
 | cons p ps=>
  rw[hp] at h;simp only at h ⊢;split at h
  ·next hc=>
   rw[if_pos hc];have hne:ps≠[]:=by
    rintro rfl;obtain⟨rfl,_⟩:=hc;cases s with
    | nil=>exact h0 rfl
    | cons x l=>
     simp only[zS] at hp;split at hp
     ·exact JB 47 l (by simpa using hp)
     ·cases hl:zS 47 l with
      | nil=>exact JB 47 l hl
      | cons a b=>rw[hl] at hp; simp[glue] at hp
   obtain⟨x,e1,e2,e3⟩:=G7 ps 0 [] (.inr hne) (by decide) (by simp) h;rw[e1]; exact⟨e2,e3⟩
  ·simp at h
theorem rm:zB []=true/\zl []=0:=by
 constructor<;>simp[zB,zl,steps]
def YK (n:Int):Option Int->List Int->Bool
 | _,[]=>true
 | p,x::l => !decide (x<0) && (!decide (x≥n) && ((match p with|some y => !decide (y≥x)|none=>true) && YK n (some x) l))
def jK (n:Int) (l:List Int):Bool:=YK n none l
theorem Gf (n:Int) (l:List Int) (hl:l.length<=137438953472) {G:(Int×Unit->Option (Bool×Unit))->Int×Unit->Option (Bool×Unit)}
  (ag7:∀ rec,G rec ((l.length:Int),())=some (true,()))
  (h0:∀ rec x,l[0]?=some x->G rec (((0:Nat):Int),())=bif decide (x<0) then some (false,()) else bif decide (x≥n) then some (false,()) else rec (((0:Nat):Int)+1,()))
  (ag5:∀ rec (i:Nat) x y,l[i]?=some x->l[i+1]?=some y->i+1<l.length->G rec (((i+1:Nat):Int),())=bif decide (y<0) then some (false,()) else bif decide (y≥n) then some (false,()) else bif decide (x≥y) then some (false,()) else rec (((i+1:Nat):Int)+1,())):
  iter G fuel (0,())=some (jK n l,()):=by
 let pv:Nat->Option Int:=λ i=>match i with|0=>none|i+1=>l[i]?
 refine (walk l.length (λ i (_:Unit)=>(i,())) (λ _ _=>True) (λ i _=>some (YK n (pv i) (l.drop i),())) (by omega) ?_ ?_ (s0:=()) trivial).trans (by simp[jK,pv])
 ·intro rec _ _;rw[ag7]; simp[YK]
 ·intro rec i _ hi _;have hx:l[i]?=some l[i]:=List.getElem?_eq_getElem hi;have hpv:pv (i+1)=some l[i]:=hx;rw[aq7 hi,hpv];cases i with
  | zero=>
   rw[h0 rec l[0] hx,show pv 0=none from rfl];simp only[YK];by_cases c1:l[0]<0
   ·left; simp[c1]
   ·by_cases c2:l[0]≥n
    ·left; simp[c1,c2]
    ·right;exact⟨(),trivial,by simp[c1,c2],by simp[c1,c2]⟩
  | succ i=>
   have hx':l[i]?=some l[i]:=List.getElem?_eq_getElem (by omega);rw[ag5 rec i l[i] l[i+1] hx' hx hi,show pv (i+1)=some l[i] from hx'];simp only[YK];by_cases c1:l[i+1]<0
   ·left; simp[c1]
   ·by_cases c2:l[i+1]≥n
    ·left; simp[c1,c2]
    ·by_cases c3:l[i]≥l[i+1]
     ·left; simp[c1,c2,c3]
     ·right;exact⟨(),trivial,by simp[c1,c2,c3],by simp[c1,c2,c3]⟩
theorem uZ (n:Int) (l:List Int) (hl:l.length<=137438953472):aL (n,l,())=some (jK n l,()):=by
 unfold aL;refine Gf n l hl ?_ ?_ ?_
 ·intro rec; simp
 ·intro rec x hx;have hi:0<l.length:=by
   rcases Nat.eq_zero_or_pos l.length with h|h
   ·rw[aqh (by omega)] at hx; cases hx
   ·exact h
  simp only[zr hi,apR,apN,apZ,if_true,apW,zm (e:=.i64) hx,zo (show 0<4611686018427387904 by omega),show ¬ (((0:Nat):Int)>0) by omega,apU,apM]
 ·intro rec i x y hx hy hi;have e:wr (((i+1:Nat):Int) - 1)=(i:Int):=by rw[zg (by omega) (by omega)]; omega
  simp only[zr hi,zr (show i<l.length by omega),e,apR,apN,apZ,if_true,apW,zm (e:=.i64) hx,zm (e:=.i64) hy,zo (show i+1<4611686018427387904 by omega),show (((i+1:Nat):Int)>0) by omega]
theorem pi (n:Int) (l:List Int) (hl:l.length<=137438953472):Nh (n,l,())=some (jK n l,()):=by
 unfold Nh;refine Gf n l hl ?_ ?_ ?_
 ·intro rec; simp
 ·intro rec x hx;have hi:0<l.length:=by
   rcases Nat.eq_zero_or_pos l.length with h|h
   ·rw[aqh (by omega)] at hx; cases hx
   ·exact h
  simp only[zr hi,apR,apN,apZ,if_true,apW,zm (e:=.i64) hx,zo (show 0<4611686018427387904 by omega),show ¬ (((0:Nat):Int)>0) by omega,apU,apM]
 ·intro rec i x y hx hy hi;have e:wr (((i+1:Nat):Int) - 1)=(i:Int):=by rw[zg (by omega) (by omega)]; omega
  simp only[zr hi,zr (show i<l.length by omega),e,apR,apN,apZ,if_true,apW,zm (e:=.i64) hx,zm (e:=.i64) hy,zo (show i+1<4611686018427387904 by omega),show (((i+1:Nat):Int)>0) by omega]
def JE (c:za):Int:=if zz c=true then c.1 - (c.1 - 1) / 3 else 0
theorem uV (c:za):aH (c,())=some (JE c,()):=by
 unfold aH JE;simp only[JL,apL];by_cases h:zz c=true
 ·obtain⟨h1,h2⟩:=zR h;have e1:wr (c.1 - 1)=c.1 - 1:=zg (by omega) (by omega);have e2:Int.tdiv (c.1 - 1) 3=(c.1 - 1) / 3:=Int.tdiv_eq_ediv_of_nonneg (by omega);simp only[h,apT,apM,if_true,e1,e2];rw[zg (n:=(c.1 - 1) / 3) (by omega) (by omega),zg (by omega) (by omega)]
 ·have h':zz c=false:=by simpa using h
  simp[h']
theorem pc (c:za):b9 (c,())=some (JE c,()):=by
 unfold b9 M9 JE;simp only[J3,apL];by_cases h:zz c=true
 ·obtain⟨h1,h2⟩:=zR h;have e1:wr (c.1 - 1)=c.1 - 1:=zg (by omega) (by omega);have e2:Int.tdiv (c.1 - 1) 3=(c.1 - 1) / 3:=Int.tdiv_eq_ediv_of_nonneg (by omega);simp only[h,apT,apM,if_true,e1,e2,apL];rw[zg (n:=(c.1 - 1) / 3) (by omega) (by omega),zg (by omega) (by omega)]
 ·have h':zz c=false:=by simpa using h
  simp[h']
def Jw (c:UInt8) (s:List UInt8):Nat->Option Nat
 | 0=>none
 | k+1=>if s.getD k 0=c then some k else Jw c s k
def Z6 (s:List UInt8):List UInt8:=if zB s=true then (match Jw 47 s s.length with|some k=>s.take k|none=>[]) else []
theorem AW (c:UInt8) (s:List UInt8):∀ k i,Jw c s k=some i->i<k
 | 0,i,h=>by cases h
 | k+1,i,h=>by
  simp only[Jw] at h;split at h
  ·cases h; omega
  ·have:=AW c s k i h; omega
theorem A5 (c:UInt8) (s:List UInt8):∀ k,k<=s.length->Lib.lastIdx (ByteArray.mk ⟨s⟩) c.toNat k=match Jw c s k with|some i=>(i:Int)|none => -1
 | 0,_=>rfl
 | k+1,h=>by
  have hk:k<s.length:=by omega
  have e:(ByteArray.mk ⟨s⟩).data[k]! = s.getD k 0:=by
   rw[aqG,aqC hk];simp[hk]
  simp only[Lib.lastIdx,Jw,e];by_cases hc:s.getD k 0=c
  ·rw[if_pos (by rw[hc]),if_pos hc]
  ·rw[if_neg (λ h=>hc (UInt8.toNat_inj.1 (by omega))),if_neg hc,A5 c s k (by omega)]
theorem X5 {s:List UInt8} (h:zB s=true) (h0:s≠[]):∃ l,s=47::l:=by
 unfold zB steps at h;rw[if_neg h0] at h;cases hp:zS 47 s with
 | nil=>exact absurd hp (JB _ _)
 | cons p ps=>
  rw[hp] at h;simp only at h;split at h
  ·next hc=>
   obtain⟨rfl,_⟩:=hc;cases s with
   | nil=>exact absurd rfl h0
   | cons x l=>
    simp only[zS] at hp;split at hp
    ·next e=>exact⟨l,by rw[e]⟩
    ·cases hl:zS 47 l with
     | nil=>exact absurd hl (JB 47 l)
     | cons a b=>rw[hl] at hp; simp[glue] at hp
  ·simp at h
theorem AX {c:UInt8} {l:List UInt8}:∀ k,1<=k->∃ i,Jw c (c::l) k=some i
 | 0,h=>by omega
 | 1,_=>⟨0,by simp[Jw]⟩
 | k+2,_=>by
  simp only[Jw];split
  ·exact⟨_,rfl⟩
  ·exact AX (k+1) (by omega)
theorem be (a b:Int):jF (a,b,())=some (max a b,()):=by
 unfold jF;by_cases h:a>b
 ·simp only[h,apR,apN]; congr 2; omega
 ·simp only[h,apU,apM]; congr 2; omega
theorem dX (s:List UInt8) (hs:s.length<=137438953472):MH (s,())=some (Z6 s,()):=by
 unfold MH Z6;simp only[LF s hs,apL];by_cases h:zB s=true
 ·simp only[h,apT,apM,if_true];refine (Qv (λ x:Int×Unit=>some ((match Jw 47 s x.1.toNat with|some k=>s.take k|none=>[]),())) (λ x=>x.1.toNat) (λ x=>0<=x.1/\x.1<=(s.length:Int)) ?_ fuel ((s.length:Int),()) ⟨by simp,by simp⟩
   (by simp only[apW]; have:=YU (n:=s.length) (by omega); exact this)).trans (by simp)
  rintro rec ⟨v,⟨⟩⟩ ⟨h1,h2⟩ afU;obtain⟨n,rfl⟩:∃ n:Nat,v=(n:Int):=⟨v.toNat,by simp only at h1; omega⟩
  simp only at h2;cases n with
  | zero=>
   have e1:wr (((0:Nat):Int) - 1) = -1:=zg (by decide) (by decide);simp only[show ¬ (((0:Nat):Int)>0) by omega,apU,apM,e1,be,apL,show max (-1:Int) 0=0 by decide];rw[if_pos (by omega)];simp[Jw]
  | succ n=>
   have e1:wr (((n+1:Nat):Int) - 1)=(n:Int):=by rw[zg (by omega) (by omega)]; omega
   simp only[show (((n+1:Nat):Int)>0) by omega,apR,apN,e1,be,apL,apW,show max (n:Int) 0=(n:Int) by omega,Jw,show UInt8.ofNat (Int.toNat 47)=47 from rfl];rw[if_pos (by omega)];by_cases hc:s.getD n 0=47
   ·have e2:(s.getD n 0 != 47)=false:=by rw[hc]; rfl
    rw[e2,if_pos hc];simp only[apM];rw[if_pos (by omega)];simp
   ·have e2:(s.getD n 0 != 47)=true:=bne_iff_ne.2 hc;rw[e2,if_neg hc];simp only[apN];rw[afU ((n:Int),()) ⟨by simp,by simp only; omega⟩ (by simp only[apW]; omega)]
    simp
 ·have h':zB s=false:=by simpa using h
  simp[h']
theorem gD (s:List UInt8) (hs:s.length<=1073741824):Nk (s,())=some (Z6 s,()):=by
 unfold Nk Z6;simp only[La s hs,apL];by_cases h:zB s=true
 ·simp only[h,apT,apM,if_true];by_cases h0:s=[]
  ·subst h0; rfl
  ·have e0:(s==[])=false:=by simp[h0]
   obtain⟨l,rfl⟩:=X5 h h0;obtain⟨i,hi⟩:=AX (c:=47) (l:=l) (47::l).length (by simp);have hlt:=AW _ _ _ _ hi;have e1:strings_LastIndexByte (47::l,UInt8.ofNat (Int.toNat 47),())=some ((i:Int),()):=by
    unfold strings_LastIndexByte;dsimp only;rw[if_pos (by omega)];have:=A5 47 (47::l) (47::l).length (Nat.le_refl _);rw[hi] at this;simp only at this;rw[←this]; rfl
   simp only[e0,apM,e1,apL,hi];rw[if_pos (by omega)];simp
 ·have h':zB s=false:=by simpa using h
  simp[h']
def zW (c:za) (q:zH):Bool:=
 zz c && (zB q.2.1 && (zl q.2.1==q.1 && (bif q.2.1==[] then ((q.2.2.length:Int)==0) else (jK c.1 q.2.2 && decide ((q.2.2.length:Int)≥JE c)))))
theorem MG (c:za) (q:zH) (hw:zj q<=137438953472):JN (c,q,())=some (zW c q,()):=by
 have h1:q.2.1.length<=137438953472:=by simp only[zj] at hw; omega
 have h2:q.2.2.length<=137438953472:=by simp only[zj,zq] at hw; omega
 unfold JN zW;simp only[JL,LF _ h1,KP _ h1,uZ _ _ h2,uV,apL];cases zz c
 ·rfl
 cases zB q.2.1
 ·rfl
 by_cases e:zl q.2.1=q.1
 ·have e1:(zl q.2.1 != q.1)=false:=by simp[e]
  have e2:(zl q.2.1==q.1)=true:=by simp[e]
  rw[e1,e2];cases (q.2.1==[])<;>cases jK c.1 q.2.2<;>rfl
 ·have e1:(zl q.2.1 != q.1)=true:=by simp[e]
  have e2:(zl q.2.1==q.1)=false:=by simp[e]
  rw[e1,e2]; rfl
theorem Ng (c:za) (q:zH) (hw:zj q<=1073741824):Ky (c,q,())=some (zW c q,()):=by
 have h1:q.2.1.length<=1073741824:=by simp only[zj] at hw; omega
 have h2:q.2.2.length<=1073741824:=by simp only[zj,zq] at hw; omega
 unfold Ky Qg zW;simp only[J3,La _ h1,Lg _ h1,pi _ _ (show q.2.2.length<=137438953472 by omega),pc,Qh q _ (show q.2.2.length<=8796093022208 by omega),apL];cases zz c
 ·rfl
 simp only[apT,apM,aq3];obtain⟨v,name,who⟩:=q;simp only[jj];by_cases hn:name=[]
 ·subst hn;obtain⟨k1,k2⟩:=rm;rw[k1,k2];by_cases hv:v=0
  ·subst hv;cases who with
   | nil=>rfl
   | cons a b=>
    simp;omega
  ·have e1:(v==0)=false:=by simp[hv]
   have e2:((0:Int)==v)=false:=by simp; omega
   have e3:(v==(0:Int))=false:=e1;rw[e1,e2];simp[hv]
 ·have e0:(name==[])=false:=by simp[hn]
  rw[e0];simp only[aqp,aqQ,apM];by_cases hk:zB name=true
  ·obtain⟨w1,w2⟩:=Nx hk hn;rw[hk];by_cases e:zl name=v
   ·have e1:(v==zl name)=true:=by simp[e]
    have e2:(zl name==v)=true:=by simp[e]
    have e3:decide (v≥1)=true:=by simp; omega
    rw[e1,e2,e3];cases jK c.1 who<;>simp
   ·have e1:(v==zl name)=false:=by simp; omega
    have e2:(zl name==v)=false:=by simp[e]
    rw[e1,e2];cases decide (v≥1)<;>rfl
  ·have hk':zB name=false:=by simpa using hk
   rw[hk'];cases decide (v≥1)<;>rfl
def js (c:za) (b:jd):Bool:=zW c b.2 && (zB b.1 && (b.1 != [] && Z6 b.1==b.2.2.1))
theorem mD (c:za) (b:jd) (hw:zx b<=137438953472):N0 (c,b,())=some (js c b,()):=by
 have h1:b.1.length<=137438953472:=by simp only[zx] at hw; omega
 unfold N0 js;simp only[MG c b.2 (by simp only[zx] at hw; omega),LF _ h1,dX _ h1,Option.bind_some]
 cases zW c b.2<;>cases zB b.1<;>cases (b.1 != [])<;>rfl
theorem fL (c:za) (b:jd) (hw:zx b<=1073741824):M6 (c,b,())=some (js c b,()):=by
 have h1:b.1.length<=1073741824:=by simp only[zx] at hw; omega
 unfold M6 js;simp only[Ng c b.2 (by simp only[zx] at hw; omega),La _ h1,gD _ h1,Option.bind_some]
 cases zW c b.2<;>cases zB b.1<;>cases (b.1 != [])<;>rfl
def ji (c:za) (p:zO):Bool:=
 zz c && ((decide (p.1≥1) && decide (p.1<=60)) && (jK c.1 p.2.2 && (decide ((p.2.2.length:Int)>0) && (p.2.1==[] || (zB p.2.1 && zl p.2.1==p.1)))))
theorem dM (c:za) (p:zO) (hw:zn p<=137438953472):LG (c,p,())=some (ji c p,()):=by
 have h1:p.2.1.length<=137438953472:=by simp only[zn] at hw; omega
 have h2:p.2.2.length<=137438953472:=by simp only[zn,zq] at hw; omega
 unfold LG ji;simp only[JL,Y9,uZ _ _ h2,LF _ h1,KP _ h1,apL];have e:((p.2.2.length:Int)==0) = !decide ((p.2.2.length:Int)>0):=by
  generalize p.2.2.length=n;cases n with
  | zero=>rfl
  | succ k=>
   have a1:(((k+1:Nat):Int)==0)=false:=by rw[beq_eq_false_iff_ne]; omega
   have a2:decide (((k+1:Nat):Int)>0)=true:=decide_eq_true (by omega);rw[a1,a2]; rfl
 rw[e];cases zz c<;>cases (decide (p.1≥1) && decide (p.1<=60))<;>cases jK c.1 p.2.2<;>cases decide ((p.2.2.length:Int)>0)<;>cases (p.2.1==[])<;>cases zB p.2.1<;>rfl
theorem bZ (c:za) (p:zO) (hw:zn p<=1073741824):Nb (c,p,())=some (ji c p,()):=by
 have h1:p.2.1.length<=1073741824:=by simp only[zn] at hw; omega
 have h2:p.2.2.length<=137438953472:=by simp only[zn,zq] at hw; omega
 unfold Nb ji;simp only[J3,ZT,pi _ _ h2,La _ h1,Lg _ h1,apL];cases zz c<;>cases (decide (p.1≥1) && decide (p.1<=60))<;>cases jK c.1 p.2.2<;>cases (p.2.1==[])<;>cases zB p.2.1<;>cases (zl p.2.1==p.1)<;>cases decide ((p.2.2.length:Int)>0)<;>rfl
theorem lG (a b:zH):jj a b=decide (a=b):=by
 obtain⟨a1,a2,a3⟩:=a;obtain⟨b1,b2,b3⟩:=b;unfold jj;rw[arw];simp[Prod.ext_iff]
theorem Ue (a b:jd):Ku a b=decide (a=b):=by
 obtain⟨a1,a2⟩:=a;obtain⟨b1,b2⟩:=b;unfold Ku;simp only[lG];rw[arw];simp[Prod.ext_iff]
theorem afA (a b:zI):bi a b=decide (a=b):=by
 obtain⟨a1,a2,a3,a4⟩:=a;obtain⟨b1,b2,b3,b4⟩:=b;unfold bi;rw[arw];simp[Prod.ext_iff]
theorem Bd (a b:zt):YB a b=true↔a=b:=by
 obtain⟨a1,a2,a3,a4,a5,a6,a7⟩:=a;obtain⟨b1,b2,b3,b4,b5,b6,b7⟩:=b;unfold YB;simp only[lG,Ue,afA];simp only[apO,aqi,apY,apV]
theorem X3 (a b:zt):YB a b=YB b a:=by
 rw[arw,Bd,Bd];exact⟨λ h=>h.symm,λ h=>h.symm⟩
def canon (m:zt):zt:=
 bif (m.1==1) then (m.1,0,m.2.2.1,(0,[],[]),(0,[],[]),0,(0,0,0,0)) else
 bif (m.1==2) then (m.1,0,([],0,[],[]),m.2.2.2.1,(0,[],[]),0,(0,0,0,0)) else
 bif (m.1==3) then (m.1,m.2.1,([],0,[],[]),(0,[],[]),m.2.2.2.2.1,m.2.2.2.2.2.1,(0,0,0,0)) else
 bif (m.1==4) then (m.1,0,([],0,[],[]),(0,[],[]),(0,[],[]),0,m.2.2.2.2.2.2) else
 (m.1,0,([],0,[],[]),(0,[],[]),(0,[],[]),0,(0,0,0,0))
theorem af9 (m:zt) (h:MsgW m):nt (m,())=some (YB (canon m) m,()):=by
 obtain⟨h1,h2,h3⟩:=h;have hz:([]:List Int).length<=8796093022208:=by simp
 unfold nt canon;dsimp only;rw[dL (m.1,0,m.2.2.1,(0,[],[]),(0,[],[]),0,(0,0,0,0)) m ⟨h1,hz,hz⟩,dL (m.1,0,([],0,[],[]),m.2.2.2.1,(0,[],[]),0,(0,0,0,0)) m ⟨hz,h2,hz⟩,
  dL (m.1,m.2.1,([],0,[],[]),(0,[],[]),m.2.2.2.2.1,m.2.2.2.2.2.1,(0,0,0,0)) m ⟨hz,hz,h3⟩,dL (m.1,0,([],0,[],[]),(0,[],[]),(0,[],[]),0,m.2.2.2.2.2.2) m ⟨hz,hz,hz⟩,
  dL (m.1,0,([],0,[],[]),(0,[],[]),(0,[],[]),0,(0,0,0,0)) m ⟨hz,hz,hz⟩]
 simp only[apL];cases (m.1==1)<;>cases (m.1==2)<;>cases (m.1==3)<;>cases (m.1==4)<;>rfl
theorem WL (m:zt):gQ (m,())=some (canon m,()):=by
 unfold gQ canon;cases (m.1==1)<;>cases (m.1==2)<;>cases (m.1==3)<;>cases (m.1==4)<;>rfl
noncomputable def z7 (c:za) (m:zt):Bool:=
 zz c && (YB (canon m) m && (bif (m.1==1) then js c m.2.2.1 else bif (m.1==2) then (ji c m.2.2.2.1 && m.2.2.2.1.2.1 != []) else
  bif (m.1==3) then ((decide (m.2.1≥1) && decide (m.2.1<=60)) && (zW c m.2.2.2.2.1 && (decide (m.2.2.2.2.2.1≥0) && decide (m.2.2.2.2.2.1<=wr (c.1 - 1))))) else
  bif (m.1==4) then zF m.2.2.2.2.2.2 else false))
theorem aC (c:za) (m:zt) (hw:zh m<=137438953472):YM (c,m,())=some (z7 c m,()):=by
 have hW:MsgW m:=MsgW.of (by omega);have h1:zx m.2.2.1<=137438953472:=by simp only[zh] at hw; omega
 have h2:zn m.2.2.2.1<=137438953472:=by simp only[zh] at hw; omega
 have h3:zj m.2.2.2.2.1<=137438953472:=by simp only[zh] at hw; omega
 unfold YM z7;simp only[JL,af9 m hW,mD c _ h1,dM c _ h2,MG c _ h3,Y9,N9,apL];cases zz c
 ·rfl
 cases YB (canon m) m
 ·rfl
 cases (m.1==1)
 ·cases (m.1==2)
  ·cases (m.1==3)
   ·cases (m.1==4)<;>rfl
   ·cases (decide (m.2.1≥1) && decide (m.2.1<=60))<;>cases zW c m.2.2.2.2.1<;>rfl
  ·cases ji c m.2.2.2.1<;>rfl
 ·rfl
theorem bW (c:za) (m:zt) (hw:zh m<=1073741824):YV (c,m,())=some (z7 c m,()):=by
 have hW:MsgW m:=MsgW.of (by omega);have h1:zx m.2.2.1<=1073741824:=by simp only[zh] at hw; omega
 have h2:zn m.2.2.2.1<=1073741824:=by simp only[zh] at hw; omega
 have h3:zj m.2.2.2.2.1<=1073741824:=by simp only[zh] at hw; omega
 unfold YV z7;simp only[J3,WL,Wa m _ hW,X3 m (canon m),fL c _ h1,bZ c _ h2,Ng c _ h3,ZT,Mc,apL];cases zz c
 ·rfl
 cases YB (canon m) m
 ·rfl
 cases (m.1==1)
 ·cases (m.1==2)
  ·cases (m.1==3)
   ·cases (m.1==4)<;>rfl
   ·cases (decide (m.2.1≥1) && decide (m.2.1<=60))<;>cases zW c m.2.2.2.2.1<;>rfl
  ·cases ji c m.2.2.2.1<;>rfl
 ·rfl
abbrev jO:Ty:=.pair .i64 (.pair .i64 (.pair .i64 .i64))
abbrev Ys:Ty:=.pair .i64 (.pair .str (.sl 0 .i64))
abbrev bv:Ty:=.pair .i64 (.pair .i64 (.pair .i64 (.pair (.pair .str (.pair .i64 (.pair .str (.sl 0 .i64)))) (.pair (.pair .i64 (.pair .str (.sl 0 .i64))) (.pair (.pair .i64 (.pair .str (.sl 0 .i64))) (.pair .i64 (.pair .i64 (.pair .i64 (.pair .i64 .i64)))))))))
theorem oq {α:Type} (p:α->Bool) (l:List α) {G:(Int×Unit->Option (Bool×Unit))->Int×Unit->Option (Bool×Unit)} (hl:l.length<=1152921504606846976)
  (ag7:∀ rec s,G rec ((l.length:Int),s)=some (true,()))
  (ag5:∀ rec (i:Nat) s x,l[i]?=some x->i<l.length->G rec ((i:Int),s)=bif p x then rec ((i:Int)+1,s) else some (false,())):
  iter G fuel (0,())=some (l.all p,()):=by
 refine (bI l (λ x s rec=>bif p x then rec s else some (false,())) (λ s=>some (true,())) (λ i s=>(i,s)) hl ag7 ag5 ?_ ()).trans (oZ _ _);intro x s r1 r2 hr; simp[hr]
def yB {α:Type} (ok:α->Bool) (lt:α->α->Bool):Option α->List α->Bool
 | _,[]=>true
 | p,x::l=>ok x && ((match p with|none=>true|some y=>lt y x) && yB ok lt (some x) l)
theorem eY {α:Type} (ok:α->Bool) (lt:α->α->Bool) (fin:Bool) (l:List α) (hl:l.length<=1152921504606846976)
  {G:(Int×Unit->Option (Bool×Unit))->Int×Unit->Option (Bool×Unit)}
  (ag7:∀ rec,G rec ((l.length:Int),())=some (fin,()))
  (h0:∀ rec x,l[0]?=some x->0<l.length->G rec (0,())=bif ok x then rec (1,()) else some (false,()))
  (ag5:∀ rec (i:Nat) x y,l[i]?=some x->l[i+1]?=some y->i+1<l.length->G rec (((i+1:Nat):Int),())=bif ok y then (bif lt x y then rec (((i+1:Nat):Int)+1,()) else some (false,())) else some (false,())):
  iter G fuel (0,())=some (yB ok lt none l && fin,()):=by
 let pv:Nat->Option α:=λ i=>match i with|0=>none|j+1=>l[j]?
 refine (walk l.length (λ i (_:Unit)=>(i,())) (λ _ _=>True) (λ i _=>some (yB ok lt (pv i) (l.drop i) && fin,())) hl ?_ ?_ (s0:=()) trivial).trans (by simp only[aq8,pv])
 ·intro rec s _;rw[ag7,aql]; simp[yB]
 ·intro rec i s hi _;have hx:l[i]?=some l[i]:=List.getElem?_eq_getElem hi;cases i with
  | zero=>
   rw[show ((0:Nat):Int)=0 from rfl,h0 rec l[0] hx hi,List.drop_eq_getElem_cons hi];cases hk:ok l[0] with
   | true=>
    right;have e2:pv (0+1)=some l[0]:=hx;exact⟨(),trivial,by simp,by rw[e2]; simp[yB,show pv 0=none from rfl,hk]⟩
   | false=>left; simp[yB,hk]
  | succ j=>
   have hj:l[j]?=some l[j]:=List.getElem?_eq_getElem (by omega);rw[ag5 rec j l[j] l[j+1] hj hx hi,List.drop_eq_getElem_cons hi];have e:pv (j+1)=some l[j]:=hj;have e2:pv (j+1+1)=some l[j+1]:=hx;rw[e];cases hk:ok l[j+1] with
   | true=>
    cases hlt:lt l[j] l[j+1] with
    | true=>right; exact⟨(),trivial,by simp,by rw[e2]; simp[yB,hk,hlt]⟩
    | false=>left; simp[yB,hk,hlt]
   | false=>left; simp[yB,hk]
def ye (c:za) (s:zD):Bool:=(decide (s.1≥0) && decide (s.1<=60)) && ((decide (s.2.1≥0) && decide (s.2.1<=60)) && (zW c s.2.2.1 && zB s.2.2.2))
theorem aI (c:za) (s:zD) (hw:zy s<=137438953472):LH (c,s,())=some (ye c s,()):=by
 simp only[zy] at hw;unfold LH ye;simp only[Y9,MG c s.2.2.1 (by omega),LF s.2.2.2 (by omega),apL];cases (decide (s.1≥0) && decide (s.1<=60))<;>cases (decide (s.2.1≥0) && decide (s.2.1<=60))<;>cases zW c s.2.2.1<;>rfl
theorem ca (c:za) (s:zD) (hw:zy s<=1073741824):Ma (c,s,())=some (ye c s,()):=by
 simp only[zy] at hw;unfold Ma ye;simp only[ZT,Ng c s.2.2.1 (by omega),La s.2.2.2 (by omega),apL];cases (decide (s.1≥0) && decide (s.1<=60))<;>cases (decide (s.2.1≥0) && decide (s.2.1<=60))<;>cases zW c s.2.2.1<;>rfl
def yd (a b:zI):Bool:=decide (a.1<b.1) || (a.1==b.1 && decide (a.2.2.2<b.2.2.2))
theorem GZ (a b:zI):eq (a,b,())=some (yd a b,()):=by
 unfold eq yd;dsimp only;cases decide (a.1<b.1)<;>cases (a.1==b.1)<;>rfl
theorem Ad (a b:zI):cl (a,b,())=some (yd a b,()):=by
 unfold cl yd;dsimp only;cases decide (a.1<b.1)<;>cases (a.1==b.1)<;>rfl
def jn (l:zw):Bool:=yB zF yd none l && decide ((l.length:Int)<=12)
theorem GK (l:zw) (hl:l.length<=137438953472):N3 (l,())=some (jn l,()):=by
 unfold N3 jn;refine eY zF yd _ l (by omega) ?_ ?_ ?_
 ·intro rec; simp
 ·intro rec x hx hi;have hi0:(0:Int)<(l.length:Int):=by omega
  simp only[hi0,apR,apN,arb,apZ,if_true,aqP,zm (e:=jO) hx,N9,apL,show wr ((0:Int)+1)=1 from zo (show 0<4611686018427387904 by omega),show ¬ ((0:Int)>0) by omega,apU,apM];cases zF x<;>rfl
 ·intro rec i x y hx hy hi;have e:wr (((i+1:Nat):Int) - 1)=(i:Int):=by rw[zg (by omega) (by omega)]; omega
  simp only[zr hi,zr (show i<l.length by omega),e,apR,apN,apZ,if_true,apW,zm (e:=jO) hx,zm (e:=jO) hy,N9,GZ,apL,zo (show i+1<4611686018427387904 by omega),show (((i+1:Nat):Int)>0) by omega];cases zF y<;>cases yd x y<;>rfl
theorem xV (l:zw) (hl:l.length<=137438953472):Nd (l,())=some (jn l,()):=by
 unfold Nd jn;refine eY zF yd _ l (by omega) ?_ ?_ ?_
 ·intro rec; simp
 ·intro rec x hx hi;have hi0:(0:Int)<(l.length:Int):=by omega
  simp only[hi0,apR,apN,arb,apZ,if_true,aqP,zm (e:=jO) hx,Mc,apL,show wr ((0:Int)+1)=1 from zo (show 0<4611686018427387904 by omega),show ¬ ((0:Int)>0) by omega,apU,apM];cases zF x<;>rfl
 ·intro rec i x y hx hy hi;have e:wr (((i+1:Nat):Int) - 1)=(i:Int):=by rw[zg (by omega) (by omega)]; omega
  simp only[zr hi,zr (show i<l.length by omega),e,apR,apN,apZ,if_true,apW,zm (e:=jO) hx,zm (e:=jO) hy,Mc,Ad,apL,zo (show i+1<4611686018427387904 by omega),show (((i+1:Nat):Int)>0) by omega];cases zF y<;>cases yd x y<;>rfl
def jW (a b:zO):Bool:=decide (a.1<b.1) || (a.1==b.1 && Go.Op.bytesLess a.2.1 b.2.1)
theorem GQ (a b:zO):d5 (a,b,())=some (jW a b,()):=by
 unfold d5 jW;dsimp only;cases decide (a.1<b.1)<;>cases (a.1==b.1)<;>rfl
def KG (a b:zO):Int:=if a.1<b.1 then -1 else if a.1>b.1 then 1 else if Go.Op.bytesLess a.2.1 b.2.1=true then -1 else if a.2.1=b.2.1 then 0 else 1
theorem Ae (a b:zO):Nl (a,b,())=some (KG a b,()):=by
 unfold Nl oF oG eZ e9 KG;simp only[bne_self_eq_false,apL,apM];by_cases h1:a.1<b.1
 ·simp[h1]
 ·by_cases h2:a.1>b.1
  ·simp[h1,h2]
  ·cases h3:Go.Op.bytesLess a.2.1 b.2.1
   ·by_cases h4:a.2.1=b.2.1
    ·simp[h1,h2,h4,h3]
    ·have h5:(a.2.1==b.2.1)=false:=by simp[h4]
     simp[h1,h2,h4,h5]
   ·simp[h1,h2,h3]
theorem D7 (a b:zO):decide (KG a b≥0) = !jW a b:=by
 unfold KG jW;by_cases h1:a.1<b.1
 ·simp[h1]
 ·by_cases h2:a.1>b.1
  ·have:¬ a.1=b.1:=by omega
   simp[h1,h2,this]
  ·have:a.1=b.1:=by omega
   simp only[h1,h2,this,if_false];cases h3:Go.Op.bytesLess a.2.1 b.2.1
   ·by_cases h4:a.2.1=b.2.1<;>simp[h4]
   ·simp
def jN (c:za) (l:yb):Bool:=yB (ji c) jW none l && decide ((l.length:Int)<=20)
theorem KV {l:yb} {x:zO} {N:Nat} (hw:zG l<=N) {i:Nat} (hx:l[i]?=some x):zn x<=N:=by
 have:=ZK zn (List.mem_of_getElem? hx); unfold zG at hw; omega
theorem GM (c:za) (l:yb) (hw:zG l<=137438953472):N8 (c,l,())=some (jN c l,()):=by
 have hl:l.length<=137438953472:=by unfold zG at hw; omega
 unfold N8 jN;refine eY (ji c) jW _ l (by omega) ?_ ?_ ?_
 ·intro rec; simp
 ·intro rec x hx hi;have hi0:(0:Int)<(l.length:Int):=by omega
  simp only[hi0,apR,apN,arb,apZ,if_true,aqP,zm (e:=Ys) hx,dM c x (KV hw hx),apL,show wr ((0:Int)+1)=1 from zo (show 0<4611686018427387904 by omega),show ¬ ((0:Int)>0) by omega,apU,apM];cases ji c x<;>rfl
 ·intro rec i x y hx hy hi;have e:wr (((i+1:Nat):Int) - 1)=(i:Int):=by rw[zg (by omega) (by omega)]; omega
  simp only[zr hi,zr (show i<l.length by omega),e,apR,apN,apZ,if_true,apW,zm (e:=Ys) hx,zm (e:=Ys) hy,dM c y (KV hw hy),GQ,apL,zo (show i+1<4611686018427387904 by omega),show (((i+1:Nat):Int)>0) by omega];cases ji c y<;>cases jW x y<;>rfl
theorem xZ (c:za) (l:yb) (hw:zG l<=1073741824):J4 (c,l,())=some (jN c l,()):=by
 have hl:l.length<=137438953472:=by unfold zG at hw; omega
 unfold J4 jN;refine eY (ji c) jW _ l (by omega) ?_ ?_ ?_
 ·intro rec; simp
 ·intro rec x hx hi;have hi0:(0:Int)<(l.length:Int):=by omega
  simp only[hi0,apR,apN,arb,apZ,if_true,aqP,zm (e:=Ys) hx,bZ c x (KV hw hx),apL,show wr ((0:Int)+1)=1 from zo (show 0<4611686018427387904 by omega),show ¬ ((0:Int)>0) by omega,apU,apM];cases ji c x<;>rfl
 ·intro rec i x y hx hy hi;have e:wr (((i+1:Nat):Int) - 1)=(i:Int):=by rw[zg (by omega) (by omega)]; omega
  simp only[zr hi,zr (show i<l.length by omega),e,apR,apN,apZ,if_true,apW,zm (e:=Ys) hx,zm (e:=Ys) hy,bZ c y (KV hw hy),Ae,D7,apL,zo (show i+1<4611686018427387904 by omega),show (((i+1:Nat):Int)>0) by omega];cases ji c y<;>cases jW x y<;>rfl
noncomputable def ZO (c:za) (id:Int) (p:K1):Bool:=z7 c p.2 && ((decide (p.1≥0) && decide (p.1<=c.1 - 1)) && !(p.1==id))
noncomputable def zf (c:za) (r:zb):Bool:=
 zz c && ((decide (r.1≥0) && decide (r.1<=c.1 - 1)) && ((decide (r.2.1≥1) && decide (r.2.1<=60)) && ((decide (r.2.2.1≥0) && decide (r.2.2.1<=60)) &&
  (ye c r.2.2.2.1 && (jn r.2.2.2.2.1 && (jN c r.2.2.2.2.2.1 && (yC r.2.2.2.2.2.2.1 && (decide ((r.2.2.2.2.2.2.2.length:Int)<=30) && r.2.2.2.2.2.2.2.all (ZO c r.1)))))))))
theorem nU {l:jI} {x:K1} {N:Nat} (hw:ym l<=N) {i:Nat} (hx:l[i]?=some x):zh x.2<=N:=by
 have:=ZK Z7 (List.mem_of_getElem? hx); simp only[Z7] at this; unfold ym at hw; omega
theorem L6 (n m:Int):decide (n>m) = !decide (n<=m):=by
 by_cases h:n<=m
 ·have:¬ n>m:=by omega
  simp[h,this]
 ·have:n>m:=by omega
  simp[h,this]
theorem YN (c:za) (r:zb) (hw:ze r<=137438953472):ZJ (c,r,())=some (zf c r,()):=by
 simp only[ze,Ko] at hw;have hh:ym r.2.2.2.2.2.2.2<=137438953472:=by omega
 have hl:r.2.2.2.2.2.2.2.length<=137438953472:=by unfold ym at hh; omega
 unfold ZJ zf;simp only[JL,apL];cases hc:zz c
 ·rfl
 obtain⟨hc1,hc2⟩:=zR hc;have e1:wr (c.1 - 1)=c.1 - 1:=zg (by omega) (by omega);simp only[apT,apM,aq3,e1,Y9,aI c r.2.2.2.1 (by omega),GK r.2.2.2.2.1 (by omega),GM c r.2.2.2.2.2.1 (by omega),mG,apL,L6 ((r.2.2.2.2.2.2.2.length:Nat):Int) 30];cases (decide (r.1≥0) && decide (r.1<=c.1 - 1))
 ·rfl
 cases (decide (r.2.1≥1) && decide (r.2.1<=60))
 ·rfl
 cases (decide (r.2.2.1≥0) && decide (r.2.2.1<=60))
 ·rfl
 cases ye c r.2.2.2.1
 ·rfl
 cases jn r.2.2.2.2.1
 ·rfl
 cases jN c r.2.2.2.2.2.1
 ·rfl
 cases yC r.2.2.2.2.2.2.1
 ·rfl
 cases decide ((r.2.2.2.2.2.2.2.length:Int)<=30)
 ·rfl
 simp only[apT,apM,aq3];refine oq (ZO c r.1) r.2.2.2.2.2.2.2 (by omega) ?_ ?_
 ·intro rec s; simp
 ·intro rec i s x hx hi;simp only[zr hi,apR,apN,apZ,if_true,apW,zm (e:=bv) hx,aC c x.2 (nU hh hx),apL,zo (show i<4611686018427387904 by omega),ZO];cases z7 c x.2<;>cases (decide (x.1≥0) && decide (x.1<=c.1 - 1))<;>cases (x.1==r.1)<;>rfl
theorem ZP (c:za) (r:zb) (hw:ze r<=1073741824):j7 (c,r,())=some (zf c r,()):=by
 simp only[ze,Ko] at hw;have hh:ym r.2.2.2.2.2.2.2<=1073741824:=by omega
 have hl:r.2.2.2.2.2.2.2.length<=1073741824:=by unfold ym at hh; omega
 unfold j7 zf;simp only[J3,apL];cases hc:zz c
 ·rfl
 obtain⟨hc1,hc2⟩:=zR hc;have e1:wr (c.1 - 1)=c.1 - 1:=zg (by omega) (by omega);simp only[apT,apM,aq3,e1,ZT,ca c r.2.2.2.1 (by omega),xV r.2.2.2.2.1 (by omega),xZ c r.2.2.2.2.2.1 (by omega),fO,apL,L6 ((r.2.2.2.2.2.2.2.length:Nat):Int) 30];cases (decide (r.1≥0) && decide (r.1<=c.1 - 1))
 ·rfl
 cases (decide (r.2.1≥1) && decide (r.2.1<=60))
 ·rfl
 cases (decide (r.2.2.1≥0) && decide (r.2.2.1<=60))
 ·rfl
 cases ye c r.2.2.2.1
 ·rfl
 cases jn r.2.2.2.2.1
 ·rfl
 cases jN c r.2.2.2.2.2.1
 ·rfl
 cases yC r.2.2.2.2.2.2.1
 ·rfl
 cases decide ((r.2.2.2.2.2.2.2.length:Int)<=30)
 ·rfl
 simp only[apT,apM,aq3];refine oq (ZO c r.1) r.2.2.2.2.2.2.2 (by omega) ?_ ?_
 ·intro rec s; simp
 ·intro rec i s x hx hi;simp only[zr hi,apR,apN,apZ,if_true,apW,zm (e:=bv) hx,bW c x.2 (nU hh hx),apL,zo (show i<4611686018427387904 by omega),ZO];cases z7 c x.2<;>cases (decide (x.1≥0) && decide (x.1<=c.1 - 1))<;>cases (x.1==r.1)<;>rfl
def yw (c:za) (v:Int):Int:=if zz c=true/\0<=v then Int.tmod v c.1 else -1
theorem N5 (c:za) (v:Int):jU (c,v,())=some (yw c v,()):=by
 unfold jU yw;simp only[JL,apL];by_cases h:zz c=true
 ·obtain⟨h1,h2⟩:=zR h;simp only[h,apT,apM];by_cases hv:v<0
  ·rw[if_neg (show ¬ (True/\0<=v) by omega)];simp[hv]
  ·rw[if_pos (show True/\0<=v from⟨trivial,by omega⟩)];simp only[hv,apU,apM];rw[if_neg (by omega)]
 ·have h':zz c=false:=by simpa using h
  simp[h']
theorem Qi (c:za) (v:Int):Ld (c,v,())=some (yw c v,()):=by
 unfold Ld yw;simp only[J3,apL];by_cases h:zz c=true
 ·obtain⟨h1,h2⟩:=zR h;simp only[h,apT,apM];by_cases hv:v<0
  ·rw[if_neg (show ¬ (True/\0<=v) by omega)];simp[hv]
  ·rw[if_pos (show True/\0<=v from⟨trivial,by omega⟩)];simp only[hv,apU,apM];rw[if_neg (by omega)]
 ·have h':zz c=false:=by simpa using h
  simp[h']
noncomputable def QB (c:za) (liars:yZ) (list:yJ) (m:zt):Bool:=
 z7 c m && (bif (m.1==1) then liars.any (· == yw c (zl m.2.2.1.1)) && signed liars list m.2.2.1.2.1 m.2.2.1.2.2.1 m.2.2.1.2.2.2 else
  bif (m.1==2) then signed liars list m.2.2.2.1.1 m.2.2.2.1.2.1 m.2.2.2.1.2.2 else
  bif (m.1==3) then liars.any (· == m.2.2.2.2.2.1) && signed liars list m.2.2.2.2.1.1 m.2.2.2.2.1.2.1 m.2.2.2.2.1.2.2 else true)
theorem XZ {c:za} {m:zt} (h:z7 c m=true):(m.1==1)=true∨(m.1==2)=true∨(m.1==3)=true∨(m.1==4)=true:=by
 unfold z7 at h;cases h1:(m.1==1)
 ·cases h2:(m.1==2)
  ·cases h3:(m.1==3)
   ·cases h4:(m.1==4)
    ·rw[h1,h2,h3,h4] at h; simp at h
    ·simp
   ·simp
  ·simp
 ·simp
theorem aeE (c:za) (liars:yZ) (list:yJ) (m:zt) (hw:zh m<=137438953472) (h1:liars.length<=1073741824) (h2:list.length<=137438953472):dJ (c,liars,list,m,())=some (QB c liars list m,()):=by
 have n1:m.2.2.1.1.length<=137438953472:=by simp only[zh,zx] at hw; omega
 have w1:m.2.2.1.2.2.2.length<=1152921504606846976:=by simp only[zh,zx,zj,zq] at hw; omega
 have w2:m.2.2.2.1.2.2.length<=1152921504606846976:=by simp only[zh,zn,zq] at hw; omega
 have w3:m.2.2.2.2.1.2.2.length<=1152921504606846976:=by simp only[zh,zj,zq] at hw; omega
 unfold dJ QB;simp only[aC c m hw,KP _ n1,N5,Y8 liars _ (show liars.length<=1152921504606846976 by omega),apL,
  u5 liars list _ _ m.2.2.1.2.2.2 (show liars.length<=1152921504606846976 by omega) (by omega) w1,u5 liars list _ _ m.2.2.2.1.2.2 (show liars.length<=1152921504606846976 by omega) (by omega) w2,
  u5 liars list _ _ m.2.2.2.2.1.2.2 (show liars.length<=1152921504606846976 by omega) (by omega) w3]
 cases z7 c m
 ·rfl
 cases (m.1==1)
 ·cases (m.1==2)
  ·cases (m.1==3)
   ·rfl
   ·cases liars.any (· == m.2.2.2.2.2.1)<;>rfl
  ·rfl
 ·cases liars.any (· == yw c (zl m.2.2.1.1))<;>rfl
theorem xf {liars:yZ} {list:yJ} {q:zH} (h:jj q (0,[],[])=true):signed liars list q.1 q.2.1 q.2.2=true:=by
 rw[lG,apY] at h;subst h;rfl
theorem V8 (c:za) (liars:yZ) (list:yJ) (m:zt) (hw:zh m<=1073741824) (h1:liars.length<=1073741824) (h2:list.length<=137438953472):fZ (c,liars,list,m,())=some (QB c liars list m,()):=by
 have n1:m.2.2.1.1.length<=1073741824:=by simp only[zh,zx] at hw; omega
 have v1:m.2.2.1.2.2.2.length<=8796093022208:=by simp only[zh,zx,zj,zq] at hw; omega
 have v3:m.2.2.2.2.1.2.2.length<=8796093022208:=by simp only[zh,zj,zq] at hw; omega
 have w1:m.2.2.1.2.2.2.length<=1152921504606846976:=by simp only[zh,zx,zj,zq] at hw; omega
 have w2:m.2.2.2.1.2.2.length<=1152921504606846976:=by simp only[zh,zn,zq] at hw; omega
 have w3:m.2.2.2.2.1.2.2.length<=1152921504606846976:=by simp only[zh,zj,zq] at hw; omega
 unfold fZ Qg QB;simp only[bW c m hw,Lg _ n1,Qi,Js liars _ (show liars.length<=1152921504606846976 by omega),apL,Qh m.2.2.1.2 _ v1,Qh m.2.2.2.2.1 _ v3,
  pj liars list _ _ m.2.2.1.2.2.2 (show liars.length<=1152921504606846976 by omega) (by omega) w1,pj liars list _ _ m.2.2.2.1.2.2 (show liars.length<=1152921504606846976 by omega) (by omega) w2,
  pj liars list _ _ m.2.2.2.2.1.2.2 (show liars.length<=1152921504606846976 by omega) (by omega) w3]
 cases hk:z7 c m
 ·rfl
 have amg:=XZ hk;have f1 := @xf liars list m.2.2.1.2;have f3 := @xf liars list m.2.2.2.2.1;have k4:(m.1==4)=true->(m.1==1)=false/\(m.1==2)=false/\(m.1==3)=false:=by
  intro h; have h:m.1=4:=by simpa using h
  rw[h]; decide
 have k2:(m.1==2)=true->(m.1==1)=false:=by
  intro h; have h:m.1=2:=by simpa using h
  rw[h]; decide
 cases h4:(m.1==4)
 ·cases e2:(m.1==2)
  ·cases e1:(m.1==1)
   ·have e3:(m.1==3)=true:=by rw[e1,e2,h4] at amg; simpa using amg
    rw[e3];cases hq:jj m.2.2.2.2.1 (0,[],[])
    ·cases liars.any (· == m.2.2.2.2.2.1)<;>simp
    ·cases liars.any (· == m.2.2.2.2.2.1)<;>simp[f3 hq]
   ·cases hq:jj m.2.2.1.2 (0,[],[])
    ·cases liars.any (· == yw c (zl m.2.2.1.1))<;>simp
    ·cases liars.any (· == yw c (zl m.2.2.1.1))<;>simp[f1 hq]
  ·rw[k2 e2]; rfl
 ·obtain⟨a1,a2,a3⟩:=k4 h4;rw[a1,a2,a3]; rfl
end G448
namespace G448
open Ev
theorem pC (a b:Int):yl (a,b,())=some (if a<b then a else b,()):=by
 unfold yl;dsimp only;by_cases h:a<b
 ·simp[h]
 ·simp[h]
theorem Xg (a b:Int):jF (a,b,())=some (if a>b then a else b,()):=by
 unfold jF;dsimp only;by_cases h:a>b
 ·simp[h]
 ·simp[h]
def K8 (d:yV) (keep:Int):Int:=d.2+(if 0>(if keep<(d.1.length:Int) - d.2 then keep else (d.1.length:Int) - d.2) then 0 else (if keep<(d.1.length:Int) - d.2 then keep else (d.1.length:Int) - d.2))
def Jk (d:yV) (keep:Int):yV:=if yC d=true then (d.1.take (K8 d keep).toNat,K8 d keep) else d
theorem JV {d:yV}:yC d=true↔(d.1.length:Int)<=100000/\0<=d.2/\d.2<=(d.1.length:Int):=by
 simp[yC]
theorem oV {d:yV} (h:yC d=true) (keep:Int):0<=K8 d keep/\K8 d keep<=(d.1.length:Int)/\K8 d keep<=100000:=by
 obtain⟨h1,h2,h3⟩:=JV.1 h;unfold K8;split<;>split<;>omega
theorem aeu (d:yV) (keep:Int) (h:d.1.length<=17592186044416):dH (d,keep,())=some (Jk d keep,()):=by
 unfold dH Jk;simp only[nr d (by omega),mG,apL];cases hd:yC d with
 | false=>simp
 | true=>
  obtain⟨h1,h2,h3⟩:=JV.1 hd;obtain⟨g1,g2,g3⟩:=oV hd keep;simp only[apT,apM,zg (show (-9223372036854775808:Int)<=(d.1.length:Int) - d.2 by omega) (show (d.1.length:Int) - d.2<=9223372036854775807 by omega),pC,Xg,apL,if_true];rw[show d.2+(if 0>(if keep<(d.1.length:Int) - d.2 then keep else (d.1.length:Int) - d.2) then 0 else (if keep<(d.1.length:Int) - d.2 then keep else (d.1.length:Int) - d.2))=K8 d keep from rfl,
   zg (by omega) (by omega),if_pos ⟨arb 0,g1,g2⟩]
  simp only[aqP,aq8,aqU,aqf];rw[if_pos (by rw[aq4]; omega)]
theorem VX (d:yV) (keep:Int) (h:d.1.length<=17592186044416):fR (d,keep,())=some (Jk d keep,()):=by
 unfold fR Jk;simp only[gL d (by omega),fO,apL];cases hd:yC d with
 | false=>simp
 | true=>
  obtain⟨h1,h2,h3⟩:=JV.1 hd;obtain⟨g1,g2,g3⟩:=oV hd keep;have e:d.2+mn (mx keep 0) ((d.1.length:Int) - d.2)=K8 d keep:=by
   rw[cD,Mj];unfold K8;repeat' split
   all_goals omega
  simp only[apN,zg (show (-9223372036854775808:Int)<=(d.1.length:Int) - d.2 by omega) (show (d.1.length:Int) - d.2<=9223372036854775807 by omega),e,if_true];rw[zg (by omega) (by omega),if_pos ⟨arb 0,g1,g2⟩];congr 3;rw[aq4];omega
def MM (d:yV):yV:=if yC d=true then (d.1,(d.1.length:Int)) else d
theorem aeY (d:yV) (h:d.1.length<=17592186044416):nh (d,())=some (MM d,()):=by
 unfold nh MM;simp only[nr d (by omega),mG,apL];cases hd:yC d<;>simp
theorem Wu (d:yV) (h:d.1.length<=17592186044416):gw (d,())=some (MM d,()):=by
 unfold gw MM;simp only[gL d (by omega),fO,apL];cases hd:yC d<;>simp
abbrev jV:=List UInt8×Int×Int
def Zs (c:jV):Prop:=c.1.length<=big/\0<=c.2.1
theorem wn (x:Int):0<=band x 255/\band x 255<=255:=by
 unfold band;have h:(BitVec.ofInt 64 x &&& BitVec.ofInt 64 255).toNat<=255:=by
  rw[BitVec.toNat_and];exact Nat.le_trans Nat.and_le_right (by decide)
 rw[zg (by omega) (by omega)];omega
theorem Ig {a n:Int} (ha:0<=a) (hn:0<n):0<=a.tmod n/\a.tmod n<n:=by
 rw[Int.tmod_eq_emod_of_nonneg ha];exact⟨Int.emod_nonneg _ (by omega),Int.emod_lt_of_pos _ hn⟩
theorem cx (c:jV) (hc:Zs c):Ens (MI (c,())) λ r=>0<=r.1.2.1/\0<=r.2.1/\r.2.1<=255:=by
 obtain⟨h1,h2⟩:=hc;unfold MI;refine Ens.cond (λ h => ?_) λ h=>Ens.some ⟨h2,wn _⟩;have h:c.2.1<(c.1.length:Int):=by simpa using h
 refine Ens.ite ⟨h2,h⟩ (Ens.some ⟨?_,wn _⟩);dsimp only;unfold big at h1;rw[zg (by omega) (by omega)];omega
theorem j8 (c:jV) (n:Int) (hc:Zs c):Ens (zL (c,n,())) λ r=>0<=r.1.2.1/\0<=r.2.1/\(0<n->r.2.1<n):=by
 unfold zL;refine Ens.cond (λ h=>Ens.some ⟨hc.2,Int.le_refl _,λ h0=>h0⟩) λ h => ?_;have h:0<n:=by simpa using h
 refine Ens.cond (λ _ => ?_) λ _ => ?_
 ·refine (cx c hc).bind λ r hr => ?_;rw[if_neg (show ¬ n=0 by omega)];obtain⟨g1,g2⟩:=Ig hr.2.1 h;exact Ens.some ⟨hr.1,g1,λ _=>g2⟩
 ·refine (cx c hc).bind λ r1 hr1 => ?_;refine (cx (c.1,r1.1.2) ⟨hc.1,hr1.1⟩).bind λ r2 hr2 => ?_;refine (cx (c.1,r2.1.2) ⟨hc.1,hr2.1⟩).bind λ r3 hr3 => ?_;refine (cx (c.1,r3.1.2) ⟨hc.1,hr3.1⟩).bind λ r4 hr4 => ?_;rw[if_neg (show ¬ n=0 by omega)];have e:wr (wr (wr (wr (r1.2.1*16777216)+wr (r2.2.1*65536))+wr (r3.2.1*256))+r4.2.1)=r1.2.1*16777216+r2.2.1*65536+r3.2.1*256+r4.2.1:=by
   rw[zg (n:=r1.2.1*16777216) (by omega) (by omega),zg (n:=r2.2.1*65536) (by omega) (by omega),zg (n:=r3.2.1*256) (by omega) (by omega),zg (n:=r1.2.1*16777216+r2.2.1*65536) (by omega) (by omega),
    zg (n:=r1.2.1*16777216+r2.2.1*65536+r3.2.1*256) (by omega) (by omega),zg (by omega) (by omega)]
  obtain⟨g1,g2⟩:=Ig (a:=wr (wr (wr (wr (r1.2.1*16777216)+wr (r2.2.1*65536))+wr (r3.2.1*256))+r4.2.1)) (by rw[e]; omega) h
  exact Ens.some ⟨hr4.1,g1,λ _=>g2⟩
theorem ke (c:jV) (n:Int) (hc:Zs c):Ens (MJ (c,n,())) λ r=>0<=r.1.2.1:=by
 unfold MJ;exact (j8 c n hc).bind λ r hr=>Ens.some hr.1
theorem aav {e:Ty} {l:List (den e)} {i:Nat} (h:i<l.length):rd e l i∈l:=by
 rw[zm (aqC h)];exact List.getElem_mem h
theorem pD (c:jV) (l:List Int) (hc:Zs c) (hl:0<l.length):Ens (aY (c,l,())) λ r=>0<=r.1.2.1/\r.2.1∈l:=by
 unfold aY;refine (j8 c _ hc).bind λ r hr => ?_;have h:r.2.1<(l.length:Int):=hr.2.2 (show (0:Int)<(l.length:Int) by omega);have h0:0<=r.2.1:=hr.2.1;refine Ens.ite ⟨h0,h⟩ (Ens.some ⟨hr.1,aav (e:=.i64) ?_⟩);show r.2.1.toNat<l.length;omega
theorem Xi (code:List UInt8) (hb:code.length<=big):Ens (ei (code,())) λ r=>Zs r/\r.1=code:=by
 unfold ei;refine Ens.loop (λ x=>0<=x.2.1) (λ x=>code.length - x.2.1.toNat) ?_ (Int.le_refl _) (by dsimp only; unfold big at hb; rw[Zn]; omega)
 intro rec x hx afU;refine Ens.cond (λ h => ?_) λ h=>Ens.some ⟨⟨hb,Int.le_refl _⟩,rfl⟩;have h:x.2.1<(code.length:Int):=by simpa using h
 refine Ens.cond (λ h2 => ?_) λ h2=>Ens.some ⟨⟨hb,Int.le_refl _⟩,rfl⟩;refine Ens.ite ⟨hx,h⟩ ?_;unfold big at hb;rw[zg (n:=x.2.1+1) (by omega) (by omega)];refine afU _ (by show 0<=x.2.1+1; omega) (by show code.length - (x.2.1+1).toNat<code.length - x.2.1.toNat; omega)
noncomputable def ZE (n:Nat):List UInt8:=if h:n>127 then jb ((n % 128+128:Nat):Int)::ZE (n / 128) else [jb (n:Int)]
termination_by n
decreasing_by omega
noncomputable def yp (n:Int):List UInt8:=if 0<=n/\n<=2147483647 then ZE n.toNat else []
theorem QP {n:Nat} (h:n>127):ZE n=jb ((n % 128+128:Nat):Int)::ZE (n / 128):=by rw[ZE,dif_pos h]
theorem NM {n:Nat} (h:¬ n>127):ZE n=[jb (n:Int)]:=by rw[ZE,dif_neg h]
theorem lC:∀ (k n:Nat),n<128 ^ k->(ZE n).length<=k+(if k=0 then 1 else 0)
 | 0,n,h=>by
  have:n=0:=by simpa using h
  subst this;rw[NM (by omega)];simp
 | k+1,n,h=>by
  by_cases hn:n>127
  ·rw[QP hn];have h2:n / 128<128 ^ k:=by
    rw[aqO] at h;omega
   have ih:=lC k (n / 128) h2;cases k with
   | zero=>simp at h2; omega
   | succ k=>simp at ih ⊢; omega
  ·rw[NM hn]; simp
theorem y6 (n:Int):(yp n).length<=5:=by
 unfold yp;split
 ·next h=>exact lC 5 n.toNat (by omega)
 ·simp
theorem tn {G:(Int×List UInt8×Unit->Option (List UInt8×Unit))->Int×List UInt8×Unit->Option (List UInt8×Unit)}
  (ag7:∀ rec (n:Nat) (out:List UInt8),¬ n>127->out.length<=1000->G rec ((n:Int),out,())=some (out++[jb (n:Int)],()))
  (ag5:∀ rec (n:Nat) (out:List UInt8),n>127->n<=2147483647->out.length<=1000->G rec ((n:Int),out,())=rec (((n / 128:Nat):Int),out++[jb ((n % 128+128:Nat):Int)],())):
  ∀ (m n:Nat) (out:List UInt8),n<m->n<=2147483647->(n<128 ^ 5->out.length+(ZE n).length<=1000)->iter G m ((n:Int),out,())=some (out++ZE n,())
 | 0,n,out,h,_,_=>by omega
 | m+1,n,out,h,hn,ho=>by
  have ho':=ho (by omega);by_cases hc:n>127
  ·have e1:iter G (m+1) ((n:Int),out,())=iter G m (((n / 128:Nat):Int),out++[jb ((n % 128+128:Nat):Int)],()):=ag5 (iter G m) n out hc hn (by omega);rw[e1,tn ag7 ag5 m (n / 128) _ (by omega) (by omega) (λ _=>by rw[QP hc] at ho'; simp at ho' ⊢; omega),QP hc]
   simp
  ·have e1:iter G (m+1) ((n:Int),out,())=some (out++[jb (n:Int)],()):=ag7 (iter G m) n out hc (by omega);rw[e1,NM hc]
theorem nz (x lo hi:Int):yy (x,lo,hi,())=some (decide (x≥lo) && decide (x<=hi),()):=by
 unfold yy;cases h:decide (x≥lo)<;>simp[h]
theorem pn (x lo hi:Int):yo (x,lo,hi,())=some (decide (x≥lo) && decide (x<=hi),()):=by
 unfold yo;cases h:decide (x≥lo)<;>simp[h]
theorem afn (n m:Nat):Int.tdiv (n:Int) (m:Int)=((n / m:Nat):Int):=by
 rw[Int.tdiv_eq_ediv_of_nonneg (by omega)]; rfl
theorem afr (n m:Nat):Int.tmod (n:Int) (m:Int)=((n % m:Nat):Int):=by
 rw[Int.tmod_eq_emod_of_nonneg (by omega)]; rfl
theorem ME (n:Int):Z3 (n,())=some (yp n,()):=by
 unfold Z3 yp;simp only[nz,apL];by_cases h:0<=n/\n<=2147483647
 ·have e1:(decide (n≥0) && decide (n<=2147483647))=true:=by simp; omega
  simp only[e1,apT,apM,if_pos h];obtain⟨m,rfl⟩:=Int.eq_ofNat_of_zero_le h.1;have hm:m<=2147483647:=by omega
  have hl:=lC 5 m (by omega);refine (tn ?_ ?_ fuel m [] (by rw[Zn]; omega) hm (λ _=>by simp at hl ⊢; omega)).trans (by simp)
  ·intro rec k out hk ho;have:decide ((k:Int)>127)=false:=by simp; omega
   simp only[this,apM,apQ,apS];rw[if_pos (by omega)]
  ·intro rec k out hk hkm ho;have:decide ((k:Int)>127)=true:=by simp; omega
   simp only[this,apN,apQ,apS];rw[if_pos (by omega),show Int.tdiv (k:Int) 128=((k / 128:Nat):Int) from afn k 128,show Int.tmod (k:Int) 128=((k % 128:Nat):Int) from afr k 128,zg (by omega) (by omega),zg (by omega) (by omega)];rfl
 ·have e1:(decide (n≥0) && decide (n<=2147483647))=false:=by simp; omega
  simp only[e1,aq9,apN,if_neg h]
end G448
namespace G448
open Ev Go
theorem Qe (n:Int):YW (n,())=some (yp n,()):=by
 unfold YW yp;simp only[ZT,apL];by_cases h:0<=n/\n<=2147483647
 ·have e1:(decide (n≥0) && decide (n<=2147483647))=true:=by simp; omega
  simp only[e1,apT,apM,if_pos h];obtain⟨m,rfl⟩:=Int.eq_ofNat_of_zero_le h.1;have hm:m<=2147483647:=by omega
  have hl:=lC 5 m (by omega);refine (tn ?_ ?_ fuel m [] (by rw[Zn]; omega) hm (λ _=>by simp at hl ⊢; omega)).trans (by simp)
  ·intro rec k out hk ho;have:decide ((k:Int)≥128)=false:=by simp; omega
   simp only[this,apM,apQ,apS];rw[if_pos (by omega)]
  ·intro rec k out hk hk2 ho;have:decide ((k:Int)≥128)=true:=by simp; omega
   have e2:Int.tmod (k:Int) 128=((k % 128:Nat):Int):=by simp[Int.tmod]
   have e3:Int.tdiv (k:Int) 128=((k / 128:Nat):Int):=by simp[Int.tdiv]
   simp only[this,apN,e2,e3,apQ,apS];rw[if_pos (by omega),zg (n:=((k % 128:Nat):Int)+128) (by omega) (by omega),zg (n:=((k / 128:Nat):Int)) (by omega) (by omega)];rfl
 ·have e1:(decide (n≥0) && decide (n<=2147483647))=false:=by simp; omega
  simp only[e1,aq9,apN,if_neg h]
noncomputable def Y2 (s:List UInt8):List UInt8:=yp (s.length:Int)++s
noncomputable def nums (l:List Int):List UInt8:=(l.map yp).flatten
theorem JC (s:List UInt8):(Y2 s).length<=5+s.length:=by
 unfold Y2;have:=y6 (s.length:Int);rw[apX]; omega
theorem Jy:∀ l:List Int,(nums l).length<=5*l.length
 | []=>by simp[nums]
 | x::l=>by
  have h1:=y6 x;have h2:=Jy l;simp only[nums,aq5,are,apX,apQ] at *;omega
theorem mV (s:List UInt8) (h:s.length<=137438953472):N4 (s,())=some (Y2 s,()):=by
 unfold N4 Y2;simp only[ME,apL];have:=y6 (s.length:Int);rw[if_pos (by omega)]
theorem gd (s:List UInt8) (h:s.length<=137438953472):Nf (s,())=some (Y2 s,()):=by
 unfold Nf Y2;simp only[Qe,apL];have:=y6 (s.length:Int);rw[if_pos (by omega)]
theorem Bp:∀ (l:List Int) (out:List UInt8),l.foldl (λ o x=>o++yp x) out=out++nums l
 | [],out=>by simp[nums]
 | x::l,out=>by rw[aqF,Bp l]; simp[nums]
theorem ry {put:Int×Unit->Option (List UInt8×Unit)} (hp:∀ n,put (n,())=some (yp n,())) (l:List Int) (hl:l.length<=137438953472) (out:List UInt8) (ho:out.length<=1000000000000)
  {G:(List UInt8×Int×Unit->Option (List UInt8×Unit))->List UInt8×Int×Unit->Option (List UInt8×Unit)}
  (hG:∀ rec o (i:Int),G rec (o,i,())=bif decide (i<(l.length:Int)) then (if 0<=i/\i<(l.length:Int) then (put (rd .i64 l i.toNat,())).bind λ r1=>
   if (o.length+r1.1.length)*1<=70368744177664 then rec (o++r1.1,wr (i+1),()) else none else none) else some (o,())):
  iter G fuel (out,0,())=some (out++nums l,()):=by
 have:=L4 (λ i (o:List UInt8)=>(o,i,())) l (λ o x=>o++yp x) (λ o=>some (o,())) (by omega) (λ i o=>o.length<=1000000000000+5*i) (G:=G) ?_ ?_ (s0:=out) (by omega)
 ·rw[this,Bp]
 ·intro rec o h; rw[hG]; simp
 ·intro rec i o x hx hi h;have hpl:=y6 x;refine⟨by rw[apX]; omega,?_⟩
  rw[hG];simp only[zr hi,apR,apN,apZ,if_true,apW,zm (e:=.i64) hx,hp,apL,zo (show i<4611686018427387904 by omega)];rw[if_pos (by omega)]
theorem va (l:List Int) (hl:l.length<=137438953472):aW (l,())=some (nums l,()):=by
 unfold aW;exact (ry (put:=Z3) ME l hl [] (by simp) (λ rec o i=>rfl)).trans (by simp)
theorem cp (l:List Int) (hl:l.length<=137438953472):Mf (l,())=some (nums l,()):=by
 unfold Mf;exact (ry (put:=YW) Qe l hl [] (by simp) (λ rec o i=>rfl)).trans (by simp)
noncomputable def Kd (c:za) (q:zH):List UInt8:=
 bif zW c q then ((yp q.1++Y2 q.2.1)++yp (q.2.2.length:Int))++nums q.2.2 else []
theorem Lx (c:za) (q:zH):(Kd c q).length<=15+5*zj q:=by
 unfold Kd;cases zW c q
 ·simp
 ·have h1:=y6 q.1;have h2:=JC q.2.1;have h3:=y6 (q.2.2.length:Int);have h4:=Jy q.2.2;simp only[apN,apX,zj,zq];omega
theorem uT (c:za) (q:zH) (hw:zj q<=137438953472):aF (c,q,())=some (Kd c q,()):=by
 have h1:q.2.1.length<=137438953472:=by simp only[zj] at hw; omega
 have h2:q.2.2.length<=137438953472:=by simp only[zj,zq] at hw; omega
 have l1:=y6 q.1;have l2:=JC q.2.1;have l3:=y6 (q.2.2.length:Int);unfold aF Kd;simp only[MG c q hw,ME,mV _ h1,apL];cases zW c q
 ·rfl
 simp only[apT,apM,apN,apX];rw[if_pos (by omega),if_pos (by omega)];exact ry (put:=Z3) ME q.2.2 h2 _ (by simp only[apX]; omega) (λ rec o i=>by simp only[ME,apL])
theorem pb (c:za) (q:zH) (hw:zj q<=1073741824):Qf (c,q,())=some (Kd c q,()):=by
 have h1:q.2.1.length<=137438953472:=by simp only[zj] at hw; omega
 have h2:q.2.2.length<=137438953472:=by simp only[zj,zq] at hw; omega
 have l1:=y6 q.1;have l2:=JC q.2.1;have l3:=y6 (q.2.2.length:Int);have l4:=Jy q.2.2;unfold Qf Kd;simp only[Ng c q hw,Qe,gd _ h1,cp _ h2,apL];cases zW c q
 ·rfl
 simp only[apT,apM,apN,apX];rw[if_pos (by omega),if_pos (by omega),if_pos (by omega)]
noncomputable def jS (c:za) (m:zt):List UInt8:=
 bif z7 c m then (bif (m.1==1) then (yp m.1++Y2 m.2.2.1.1)++Kd c m.2.2.1.2 else
  bif (m.1==2) then (((yp m.1++yp m.2.2.2.1.1)++Y2 m.2.2.2.1.2.1)++yp (m.2.2.2.1.2.2.length:Int))++nums m.2.2.2.1.2.2 else
  bif (m.1==3) then (yp m.1++nums [m.2.1,m.2.2.2.2.2.1])++Kd c m.2.2.2.2.1 else
  yp m.1++nums [m.2.2.2.2.2.2.1,m.2.2.2.2.2.2.2.1,m.2.2.2.2.2.2.2.2.1,m.2.2.2.2.2.2.2.2.2]) else []
theorem kv (c:za) (m:zt):(jS c m).length<=60+5*zh m:=by
 unfold jS;have h0:=y6 m.1;have h1:=JC m.2.2.1.1;have h2:=Lx c m.2.2.1.2;have h3:=y6 m.2.2.2.1.1;have h4:=JC m.2.2.2.1.2.1;have h5:=y6 (m.2.2.2.1.2.2.length:Int);have h6:=Jy m.2.2.2.1.2.2;have h7:=Jy [m.2.1,m.2.2.2.2.2.1];have h8:=Lx c m.2.2.2.2.1;have h9:=Jy [m.2.2.2.2.2.2.1,m.2.2.2.2.2.2.2.1,m.2.2.2.2.2.2.2.2.1,m.2.2.2.2.2.2.2.2.2];simp only[apQ,apS] at h7 h9;cases z7 c m
 ·simp
 cases (m.1==1)
 ·cases (m.1==2)
  ·cases (m.1==3)
   ·simp only[apN,apM,apX]; omega
   ·simp only[apN,apM,apX,zh]; omega
  ·simp only[apN,apM,apX,zh,zn,zq]; omega
 ·simp only[apN,apX,zh,zx]; omega
theorem aeF (c:za) (m:zt) (hw:zh m<=137438953472):mQ (c,m,())=some (jS c m,()):=by
 have w1:m.2.2.1.1.length<=137438953472:=by simp only[zh,zx] at hw; omega
 have w2:zj m.2.2.1.2<=137438953472:=by simp only[zh,zx] at hw; omega
 have w3:m.2.2.2.1.2.1.length<=137438953472:=by simp only[zh,zn] at hw; omega
 have w4:m.2.2.2.1.2.2.length<=137438953472:=by simp only[zh,zn,zq] at hw; omega
 have w5:zj m.2.2.2.2.1<=137438953472:=by simp only[zh] at hw; omega
 have h0:=y6 m.1;have h1:=JC m.2.2.1.1;have h2:=Lx c m.2.2.1.2;have h3:=y6 m.2.2.2.1.1;have h4:=JC m.2.2.2.1.2.1;have h5:=y6 (m.2.2.2.1.2.2.length:Int);have h6:=Jy m.2.2.2.1.2.2;have h7:=Jy [m.2.1,m.2.2.2.2.2.1];have h8:=Lx c m.2.2.2.2.1;have h9:=Jy [m.2.2.2.2.2.2.1,m.2.2.2.2.2.2.2.1,m.2.2.2.2.2.2.2.2.1,m.2.2.2.2.2.2.2.2.2];simp only[apQ,apS] at h7 h9;unfold mQ jS;simp only[aC c m hw,ME,mV _ w1,mV _ w3,uT c _ w2,uT c _ w5,va _ w4,va [m.2.1,m.2.2.2.2.2.1] (by simp),
  va [m.2.2.2.2.2.2.1,m.2.2.2.2.2.2.2.1,m.2.2.2.2.2.2.2.2.1,m.2.2.2.2.2.2.2.2.2] (by simp),Option.bind_some,List.length_append]
 cases z7 c m
 ·rfl
 cases (m.1==1)
 ·cases (m.1==2)
  ·cases (m.1==3)
   ·simp only[apT,apN,apM]; rw[if_pos (by omega)]
   ·simp only[apT,apN,apM]; rw[if_pos (by omega),if_pos (by omega)]
  ·simp only[apT,apN,apM]; rw[if_pos (by omega),if_pos (by omega),if_pos (by omega),if_pos (by omega)]
 ·simp only[apT,apN,apM]; rw[if_pos (by omega),if_pos (by omega)]
theorem xR (c:za) (m:zt) (hw:zh m<=1073741824):bU (c,m,())=some (jS c m,()):=by
 have w1:m.2.2.1.1.length<=137438953472:=by simp only[zh,zx] at hw; omega
 have w2:zj m.2.2.1.2<=1073741824:=by simp only[zh,zx] at hw; omega
 have w3:m.2.2.2.1.2.1.length<=137438953472:=by simp only[zh,zn] at hw; omega
 have w4:m.2.2.2.1.2.2.length<=137438953472:=by simp only[zh,zn,zq] at hw; omega
 have w5:zj m.2.2.2.2.1<=1073741824:=by simp only[zh] at hw; omega
 have h0:=y6 m.1;have h1:=JC m.2.2.1.1;have h2:=Lx c m.2.2.1.2;have h3:=y6 m.2.2.2.1.1;have h4:=JC m.2.2.2.1.2.1;have h5:=y6 (m.2.2.2.1.2.2.length:Int);have h6:=Jy m.2.2.2.1.2.2;have h7:=Jy [m.2.1,m.2.2.2.2.2.1];have h8:=Lx c m.2.2.2.2.1;have h9:=Jy [m.2.2.2.2.2.2.1,m.2.2.2.2.2.2.2.1,m.2.2.2.2.2.2.2.2.1,m.2.2.2.2.2.2.2.2.2];simp only[apQ,apS] at h7 h9;unfold bU jS;simp only[bW c m hw,Qe,gd _ w1,gd _ w3,pb c _ w2,pb c _ w5,cp _ w4,cp [m.2.1,m.2.2.2.2.2.1] (by simp),
  cp [m.2.2.2.2.2.2.1,m.2.2.2.2.2.2.2.1,m.2.2.2.2.2.2.2.2.1,m.2.2.2.2.2.2.2.2.2] (by simp),Option.bind_some,List.length_append]
 cases z7 c m
 ·rfl
 cases (m.1==1)
 ·cases (m.1==2)
  ·cases (m.1==3)
   ·simp only[apT,apN,apM]; rw[if_pos (by omega)]
   ·simp only[apT,apN,apM]; rw[if_pos (by omega),if_pos (by omega)]
  ·simp only[apT,apN,apM]; rw[if_pos (by omega),if_pos (by omega),if_pos (by omega),if_pos (by omega)]
 ·simp only[apT,apN,apM]; rw[if_pos (by omega),if_pos (by omega)]
theorem Gh (b k:Nat) (hb:b<128) (hk:k<=4):shl (b:Int) (7*(k:Int))=((b*128 ^ k:Nat):Int):=by
 unfold shl;have e:min (7*(k:Int)).toNat 64=7*k:=by omega
 rw[e];have e2:(2:Int) ^ (7*k)=((128 ^ k:Nat):Int):=by
  rw[Int.pow_mul];simp
 rw[e2,←Int.natCast_mul];have:b*128 ^ k<=127*128 ^ 4:=Nat.mul_le_mul (by omega) (Nat.pow_le_pow_right (by decide) hk);exact zg (by omega) (by omega)
theorem Uf (v b k:Nat) (hv:v<128 ^ k) (hb:b<128) (hk:k<=4):bor (v:Int) ((b*128 ^ k:Nat):Int)=((v+b*128 ^ k:Nat):Int):=by
 have h4:128 ^ k<=128 ^ 4:=Nat.pow_le_pow_right (by decide) hk;have hbk:b*128 ^ k<=127*128 ^ 4:=Nat.mul_le_mul (by omega) h4;unfold bor;have e1:(BitVec.ofInt 64 (v:Int)).toNat=v:=by
  rw[BitVec.toNat_ofInt]; omega
 have e2:(BitVec.ofInt 64 ((b*128 ^ k:Nat):Int)).toNat=b*128 ^ k:=by
  rw[BitVec.toNat_ofInt]; omega
 rw[BitVec.toNat_or,e1,e2];have e3:v ||| b*128 ^ k=v+b*128 ^ k:=by
  have:=Nat.two_pow_add_eq_or_of_lt (i:=7*k) (b:=v) (by rw[Nat.pow_mul]; exact hv) b
  rw[Nat.pow_mul,Nat.mul_comm] at this;rw[Nat.or_comm,←this,Nat.add_comm]
 rw[e3];exact zg (by omega) (by omega)
def Zx:List UInt8->Nat->Nat->Nat->Option (Nat×Nat)
 | [],_,_,_=>none
 | b::l,v,k,0=>none
 | b::l,v,k,n+1=>if b.toNat<128 then (if (k>0/\b.toNat=0)∨v+b.toNat*128 ^ k>2147483647 then none else some (v+b.toNat*128 ^ k,k+1)) else Zx l (v+(b.toNat % 128)*128 ^ k) (k+1) n
def zi (s:List UInt8) (at_:Int):Int×Int×Bool:=
 if at_<0 then (0,0,false) else match Zx (s.drop at_.toNat) 0 0 5 with
  | some p=>((p.1:Int),at_+(p.2:Int),true)
  | none=>(0,0,false)
theorem Eb:∀ (k n:Nat),n<128 ^ (k+1)->((ZE n).length=k+1↔(k=0∨128 ^ k<=n))
 | 0,n,h=>by
  rw[NM (by simp at h; omega)]; simp
 | k+1,n,h=>by
  by_cases hn:n>127
  ·rw[QP hn,apQ];have h2:n / 128<128 ^ (k+1):=by rw[aqO] at h; omega
   have ih:=Eb k (n / 128) h2;have hp:128 ^ (k+1)=128 ^ k*128:=Nat.pow_succ ..;constructor
   ·intro hl;right;rcases ih.1 (by omega) with rfl|h3
    ·simp; omega
    ·omega
   ·intro hl;have h3:128 ^ (k+1)<=n:=by omega
    have:(ZE (n / 128)).length=k+1:=ih.2 (by
     cases k with
     | zero=>left; rfl
     | succ k=>right; omega)
    omega
  ·rw[NM hn];have:128 ^ (k+1)>127:=by
    have:128 ^ 1<=128 ^ (k+1):=Nat.pow_le_pow_right (by decide) (by omega);omega
   simp;omega
theorem bJ (v k n:Nat):Zx [] v k n=none:=by cases n<;>rfl
theorem tj {k:Nat} (h:k<=4):128 ^ k<=268435456:=by
 have:128 ^ k<=128 ^ 4:=Nat.pow_le_pow_right (by decide) h;omega
theorem uQ (s:List UInt8) (at_:Int) (hs:s.length<=137438953472):ax (s,at_,())=some ((zi s at_).1,(zi s at_).2.1,(zi s at_).2.2,()):=by
 unfold ax zi;dsimp only;by_cases ha:at_<0
 ·rw[if_pos ha];refine (walk 5 (λ i (v:Nat)=>((v:Int),i,())) (λ i v=>True) (λ i v=>some (0,0,false,())) (by decide) ?_ ?_ (s0:=0) trivial).trans rfl
  ·intro rec v _; simp
  ·intro rec i v hi _;left;simp[ha,show (i:Int)<5 by omega]
 rw[if_neg ha];obtain⟨a,rfl⟩:∃ a:Nat,at_=(a:Int):=⟨at_.toNat,by omega⟩
 simp only[apW,ha,apU,apM];refine (walk 5 (λ i (v:Nat)=>((v:Int),i,())) (λ i v=>v<128 ^ i) (λ i v=>match Zx (s.drop (a+i)) v i (5 - i) with|some p=>some ((p.1:Int),(a:Int)+(p.2:Int),true,())|none=>some (0,0,false,())) (by decide) ?_ ?_ (s0:=0) (by decide)).trans ?_
 ·intro rec v hv;have:Zx (s.drop (a+5)) v 5 0=none:=by cases s.drop (a+5)<;>rfl
  simp[this]
 ·intro rec i v hi hv;have hp:=tj (k:=i) (by omega);have e1:wr ((s.length:Int) - (i:Int))=(s.length:Int) - (i:Int):=zg (by omega) (by omega);have e5:((i:Int)<5):=by omega
  simp only[e5,apR,apN,e1];by_cases hlt:a+i<s.length
  ·have h1:¬ ((a:Int)≥(s.length:Int) - (i:Int)):=by omega
   have e2:wr ((a:Int)+(i:Int))=((a+i:Nat):Int):=by rw[zg (by omega) (by omega)]; omega
   have e3:wr (7*(i:Int))=7*(i:Int):=zg (by omega) (by omega);have hx:s[a+i]?=some s[a+i]:=List.getElem?_eq_getElem hlt;simp only[h1,apU,apM,e2,e3,apW,zm (e:=.u8) hx];rw[if_pos (by omega),if_neg (by omega),aq7 hlt,show 5 - i=(5 - (i+1))+1 by omega];simp only[Zx];have e4:Int.tmod (((s[a+i].toNat:Nat):Int)) 128=((s[a+i].toNat % 128:Nat):Int):=by simp[Int.tmod]
   rw[e4,Gh _ i (Nat.mod_lt _ (by decide)) (by omega),Uf v _ i hv (Nat.mod_lt _ (by decide)) (by omega)];by_cases hb:s[a+i].toNat<128
   ·left;have hm:s[a+i].toNat % 128=s[a+i].toNat:=Nat.mod_eq_of_lt hb;have hb':(((s[a+i].toNat:Nat):Int)<128):=by omega
    simp only[hb',apR,apN,hm,hb,if_true];have hbk:s[a+i].toNat*128 ^ i<=127*268435456:=Nat.mul_le_mul (by omega) hp;have e6:wr (((a+i:Nat):Int)+1)=(a:Int)+((i+1:Nat):Int):=by rw[zg (by omega) (by omega)]; omega
    by_cases hz:i>0
    ·have hz':((i:Int)>0):=by omega
     simp only[hz',apR,apN];by_cases h0:s[a+i].toNat=0
     ·have:(((s[a+i].toNat:Nat):Int)==0)=true:=by simp[h0]
      rw[this,if_pos (.inl ⟨hz,h0⟩)]; rfl
     ·have:(((s[a+i].toNat:Nat):Int)==0)=false:=by rw[beq_eq_false_iff_ne]; omega
      rw[this];by_cases agx:v+s[a+i].toNat*128 ^ i>2147483647
      ·rw[if_pos (.inr agx)];simp only[cond_false,show (((v+s[a+i].toNat*128 ^ i:Nat):Int)>2147483647) by omega,decide_true,cond_true]
      ·rw[if_neg (by intro h; rcases h with h|h; exact h0 h.2; exact agx h)]
       simp only[cond_false,show ¬ (((v+s[a+i].toNat*128 ^ i:Nat):Int)>2147483647) by omega,decide_false,e6]
    ·have hz':¬ ((i:Int)>0):=by omega
     simp only[hz',apU,apM];by_cases agx:v+s[a+i].toNat*128 ^ i>2147483647
     ·rw[if_pos (.inr agx)];simp only[show (((v+s[a+i].toNat*128 ^ i:Nat):Int)>2147483647) by omega,decide_true,cond_true]
     ·rw[if_neg (by intro h; rcases h with h|h; exact hz h.1; exact agx h)]
      simp only[show ¬ (((v+s[a+i].toNat*128 ^ i:Nat):Int)>2147483647) by omega,decide_false,cond_false,e6]
   ·right;have hb':¬ (((s[a+i].toNat:Nat):Int)<128):=by omega
    refine⟨v+s[a+i].toNat % 128*128 ^ i,?_,?_,?_⟩
    ·rw[aqO];have:s[a+i].toNat % 128*128 ^ i<=127*128 ^ i:=Nat.mul_le_mul (by omega) (Nat.le_refl _);omega
    ·simp only[hb',apU,apM,zo (show i<4611686018427387904 by omega)]
    ·simp only[hb,if_false];rw[show a+(i+1)=a+i+1 by omega]
  ·left;have h1:((a:Int)≥(s.length:Int) - (i:Int)):=by omega
   rw[ar5 (by omega),bJ];simp only[h1,apR,apN]
 ·simp only[aqJ,aqU];cases Zx (s.drop a) 0 0 5<;>rfl
theorem Ec (v b i:Nat) (hv:v<128 ^ i) (hb:b<128) (hi:i<=4):(yp ((v+b*128 ^ i:Nat):Int)).length=i+1↔¬ ((i>0/\b=0)∨v+b*128 ^ i>2147483647):=by
 have hp:=tj hi;have hlt:v+b*128 ^ i<128 ^ (i+1):=by
  rw[aqO];have:b*128 ^ i<=127*128 ^ i:=Nat.mul_le_mul (by omega) (Nat.le_refl _);omega
 unfold yp;by_cases agx:v+b*128 ^ i>2147483647
 ·rw[if_neg (by omega)];simp[agx]
 ·rw[if_pos (by omega),apW,Eb i _ hlt];cases i with
  | zero=>simp; omega
  | succ i=>
   constructor
   ·rintro (h|h) (h'|h')
    ·omega
    ·omega
    ·rw[h'.2] at h; omega
    ·omega
   ·intro h;right;have h0:b≠0:=λ e=>h (.inl ⟨by omega,e⟩);have:1*128 ^ (i+1)<=b*128 ^ (i+1):=Nat.mul_le_mul (by omega) (Nat.le_refl _);omega
theorem xM (s:List UInt8) (at_:Int) (hs:s.length<=137438953472):bP (s,at_,())=some ((zi s at_).1,(zi s at_).2.1,(zi s at_).2.2,()):=by
 unfold bP zi;have e0:wr ((s.length:Int) - 1)=(s.length:Int) - 1:=zg (by omega) (by omega);simp only[ZT,apL,e0];by_cases ha:at_<0
 ·rw[if_pos ha];have:(decide (at_≥0) && decide (at_<=(s.length:Int) - 1))=false:=by simp; omega
  rw[this]; rfl
 rw[if_neg ha];obtain⟨a,rfl⟩:∃ a:Nat,at_=(a:Int):=⟨at_.toNat,by omega⟩
 simp only[apW];by_cases hal:a<s.length
 ·have:(decide ((a:Int)≥0) && decide ((a:Int)<=(s.length:Int) - 1))=true:=by simp; omega
  simp only[this,apT,apM];refine (walk 5 (λ i (v:Nat)=>((v:Int),i,())) (λ i v=>v<128 ^ i) (λ i v=>match Zx (s.drop (a+i)) v i (5 - i) with|some p=>some ((p.1:Int),(a:Int)+(p.2:Int),true,())|none=>some (0,0,false,())) (by decide) ?_ ?_ (s0:=0) (by decide)).trans ?_
  ·intro rec v hv;have:Zx (s.drop (a+5)) v 5 0=none:=by cases s.drop (a+5)<;>rfl
   simp[this]
  ·intro rec i v hi hv;have hp:=tj (k:=i) (by omega);have e5:((i:Int)<5):=by omega
   have e2:wr ((a:Int)+(i:Int))=((a+i:Nat):Int):=by rw[zg (by omega) (by omega)]; omega
   simp only[e5,apR,apN,e2];by_cases hlt:a+i<s.length
   ·have h1:(((a+i:Nat):Int)<(s.length:Int)):=by omega
    have e3:wr (7*(i:Int))=7*(i:Int):=zg (by omega) (by omega);have hx:s[a+i]?=some s[a+i]:=List.getElem?_eq_getElem hlt;simp only[h1,apR,apN,e3,apW,zm (e:=.u8) hx];rw[if_pos ⟨by omega,trivial⟩,if_neg (by omega),aq7 hlt,show 5 - i=(5 - (i+1))+1 by omega];simp only[Zx];have e4:Int.tmod (((s[a+i].toNat:Nat):Int)) 128=((s[a+i].toNat % 128:Nat):Int):=by simp[Int.tmod]
    have hmb:s[a+i].toNat % 128*128 ^ i<=127*268435456:=Nat.mul_le_mul (by omega) hp;have e7:wr ((v:Int)+((s[a+i].toNat % 128*128 ^ i:Nat):Int))=((v+s[a+i].toNat % 128*128 ^ i:Nat):Int):=by rw[zg (by omega) (by omega)]; omega
    rw[e4,Gh _ i (Nat.mod_lt _ (by decide)) (by omega),e7];by_cases hb:s[a+i].toNat<128
    ·left;have hm:s[a+i].toNat % 128=s[a+i].toNat:=Nat.mod_eq_of_lt hb;have hb':(((s[a+i].toNat:Nat):Int)<128):=by omega
     have e6:wr (((a+i:Nat):Int)+1)=(a:Int)+((i+1:Nat):Int):=by rw[zg (by omega) (by omega)]; omega
     have e8:wr ((i:Int)+1)=((i+1:Nat):Int):=by rw[zg (by omega) (by omega)]; omega
     simp only[hb',apR,apN,hm,hb,if_true,Qe,apL,e8,e6];by_cases hg:(yp ((v+s[a+i].toNat*128 ^ i:Nat):Int)).length=i+1
     ·rw[if_neg ((Ec v _ i hv hb (by omega)).1 hg)];have:(((yp ((v+s[a+i].toNat*128 ^ i:Nat):Int)).length:Int) != ((i+1:Nat):Int))=false:=by rw[hg]; simp
      rw[this]; rfl
     ·rw[if_pos (Classical.not_not.1 (λ h=>hg ((Ec v _ i hv hb (by omega)).2 h)))];have:(((yp ((v+s[a+i].toNat*128 ^ i:Nat):Int)).length:Int) != ((i+1:Nat):Int))=true:=by rw[bne_iff_ne]; omega
      rw[this]; rfl
    ·right;have hb':¬ (((s[a+i].toNat:Nat):Int)<128):=by omega
     refine⟨v+s[a+i].toNat % 128*128 ^ i,?_,?_,?_⟩
     ·rw[aqO];have:s[a+i].toNat % 128*128 ^ i<=127*128 ^ i:=Nat.mul_le_mul (by omega) (Nat.le_refl _);omega
     ·simp only[hb',apU,apM,zo (show i<4611686018427387904 by omega)]
     ·simp only[hb,if_false];rw[show a+(i+1)=a+i+1 by omega]
   ·left;have h1:¬ (((a+i:Nat):Int)<(s.length:Int)):=by omega
    rw[ar5 (by omega),bJ];simp only[h1,apU,apM]
  ·simp only[aqJ,aqU];cases Zx (s.drop a) 0 0 5<;>rfl
 ·have:(decide ((a:Int)≥0) && decide ((a:Int)<=(s.length:Int) - 1))=false:=by simp; omega
  rw[this,ar5 (by omega),bJ]; rfl
abbrev ya:=Int×Bool
def zk (s:List UInt8) (r:ya):ya×Int:=
 if (zi s r.1).2.2=true/\r.2=true then (((zi s r.1).2.1,true),(zi s r.1).1) else ((r.1,false),0)
def zK (s:List UInt8) (at_:Int):List UInt8×Int×Bool:=
 if (zi s at_).2.2=true/\(zi s at_).1<=(s.length:Int) - (zi s at_).2.1 then
  ((s.drop (zi s at_).2.1.toNat).take (zi s at_).1.toNat,(zi s at_).2.1+(zi s at_).1,true) else ([],0,false)
def yq (s:List UInt8) (r:ya):ya×List UInt8:=
 if (zK s r.1).2.2=true/\r.2=true then (((zK s r.1).2.1,true),(zK s r.1).1) else ((r.1,false),[])
theorem xx:∀ (l:List UInt8) (v k n:Nat) {p:Nat×Nat},Zx l v k n=some p->p.1<=2147483647/\k+1<=p.2/\p.2<=k+l.length
 | [],v,k,n,p,h=>by rw[bJ] at h; cases h
 | b::l,v,k,0,p,h=>by cases h
 | b::l,v,k,n+1,p,h=>by
  simp only[Zx] at h;split at h
  ·split at h
   ·cases h
   ·next hc=>
    cases h;simp only[apQ];have:¬ v+b.toNat*128 ^ k>2147483647:=λ hh=>hc (.inr hh);omega
  ·have:=xx l _ _ n h;simp only[apQ];omega
theorem K9 (s:List UInt8) (at_:Int) (h:(zi s at_).2.2=true):0<=at_/\0<=(zi s at_).1/\(zi s at_).1<=2147483647/\at_+1<=(zi s at_).2.1/\(zi s at_).2.1<=(s.length:Int):=by
 unfold zi at h ⊢;split at h
 ·simp at h
 ·next ha=>
  rw[if_neg ha];cases hg:Zx (s.drop at_.toNat) 0 0 5 with
  | none=>rw[hg] at h; simp at h
  | some p=>
   have:=xx _ _ _ _ hg;simp only[aqa] at this ⊢;omega
theorem aU (s:List UInt8) (r:ya) (hs:s.length<=137438953472):Z4 ((s,r),())=some ((s,(zk s r).1),(zk s r).2,()):=by
 unfold Z4 zk;simp only[uQ s r.1 hs,apL];cases hg:(zi s r.1).2.2<;>cases hr:r.2<;>simp
theorem Nr (s:List UInt8) (r:ya) (hs:s.length<=137438953472):Zy ((s,(r.1,!r.2)),())=some ((s,((zk s r).1.1,!(zk s r).1.2)),(zk s r).2,()):=by
 unfold Zy zk;simp only[xM s r.1 hs,apL];cases hg:(zi s r.1).2.2<;>cases hr:r.2<;>simp
theorem vv (s:List UInt8) (n at_:Int) (h1:0<=n) (h2:0<=at_):List.take ((at_+n).toNat - at_.toNat) (List.drop at_.toNat s)=(s.drop at_.toNat).take n.toNat:=by
 congr 1; omega
theorem aew (s:List UInt8) (at_:Int) (hs:s.length<=137438953472):mK (s,at_,())=some ((zK s at_).1,(zK s at_).2.1,(zK s at_).2.2,()):=by
 unfold mK zK;simp only[uQ s at_ hs,apL];cases hg:(zi s at_).2.2
 ·simp
 ·obtain⟨h0,h1,h2,h3,h4⟩:=K9 s at_ hg;have e1:wr ((s.length:Int) - (zi s at_).2.1)=(s.length:Int) - (zi s at_).2.1:=zg (by omega) (by omega);have e2:wr ((zi s at_).2.1+(zi s at_).1)=(zi s at_).2.1+(zi s at_).1:=zg (by omega) (by omega);simp only[e1,e2,apT,apM];by_cases hc:(zi s at_).1<=(s.length:Int) - (zi s at_).2.1
  ·rw[if_pos (show True/\(zi s at_).1<=(s.length:Int) - (zi s at_).2.1 from⟨trivial,hc⟩)];simp only[show ¬ (zi s at_).1>(s.length:Int) - (zi s at_).2.1 by omega,apU,apM];rw[if_pos (by omega),vv _ _ _ h1 (by omega)]
  ·rw[if_neg (show ¬ (True/\(zi s at_).1<=(s.length:Int) - (zi s at_).2.1) from λ h=>hc h.2)];simp only[show (zi s at_).1>(s.length:Int) - (zi s at_).2.1 by omega,apR,apN]
theorem xN (s:List UInt8) (at_:Int) (hs:s.length<=137438953472):bQ (s,at_,())=some ((zK s at_).1,(zK s at_).2.1,(zK s at_).2.2,()):=by
 unfold bQ zK;simp only[xM s at_ hs,apL];cases hg:(zi s at_).2.2
 ·simp
 ·obtain⟨h0,h1,h2,h3,h4⟩:=K9 s at_ hg;have e1:wr ((s.length:Int) - (zi s at_).2.1)=(s.length:Int) - (zi s at_).2.1:=zg (by omega) (by omega);have e2:wr ((zi s at_).2.1+(zi s at_).1)=(zi s at_).2.1+(zi s at_).1:=zg (by omega) (by omega);simp only[e1,e2,apT,apM];by_cases hc:(zi s at_).1<=(s.length:Int) - (zi s at_).2.1
  ·rw[if_pos (show True/\(zi s at_).1<=(s.length:Int) - (zi s at_).2.1 from⟨trivial,hc⟩)];simp only[show ¬ (zi s at_).1>(s.length:Int) - (zi s at_).2.1 by omega,apU,apM];rw[if_pos (by omega),vv _ _ _ h1 (by omega)]
  ·rw[if_neg (show ¬ (True/\(zi s at_).1<=(s.length:Int) - (zi s at_).2.1) from λ h=>hc h.2)];simp only[show (zi s at_).1>(s.length:Int) - (zi s at_).2.1 by omega,apR,apN]
theorem u9 (s:List UInt8) (r:ya) (hs:s.length<=137438953472):qc ((s,r),())=some ((s,(yq s r).1),(yq s r).2,()):=by
 unfold qc yq;simp only[aew s r.1 hs,apL];cases hg:(zK s r.1).2.2<;>cases hr:r.2<;>simp
theorem pm (s:List UInt8) (r:ya) (hs:s.length<=137438953472):Ns ((s,(r.1,!r.2)),())=some ((s,((yq s r).1.1,!(yq s r).1.2)),(yq s r).2,()):=by
 unfold Ns yq;simp only[xN s r.1 hs,apL];cases hg:(zK s r.1).2.2<;>cases hr:r.2<;>simp
def yU (s:List UInt8):Nat->ya->List Int->ya×List Int
 | 0,r,out=>(r,out)
 | n+1,r,out=>if r.2=true then yU s n (zk s r).1 (out++[(zk s r).2]) else (r,out)
def jD (s:List UInt8) (r:ya):ya×List Int:=yU s (zk s r).2.toNat (zk s r).1 []
theorem tu (s:List UInt8) (r:ya):0<=(zk s r).2/\(zk s r).2<=2147483647:=by
 unfold zk;split
 ·next h=>have:=K9 s r.1 h.1; simp only; omega
 ·simp
theorem GT (s:List UInt8) (r:ya) (hs:s.length<=137438953472):d6 ((s,r),())=some ((s,(jD s r).1),(jD s r).2,()):=by
 obtain⟨b1,b2⟩:=tu s r;unfold d6 jD;dsimp only;rw[aU s r hs,apL];dsimp only;generalize hn:(zk s r).2=n at *;obtain⟨n,rfl⟩:∃ m:Nat,n=(m:Int):=⟨n.toNat,by omega⟩
 simp only[apW];refine (walk n (λ i (t:List Int×ya)=>(t.1,i,(s,t.2),())) (λ i t=>t.1.length<=i) (λ i t=>some ((s,(yU s (n - i) t.2 t.1).1),(yU s (n - i) t.2 t.1).2,())) (by omega) ?_ ?_ (s0:=([],(zk s r).1)) (by simp)).trans (by simp)
 ·intro rec t ht;simp[yU]
 ·intro rec i t hi ht;rw[show n - i=(n - (i+1))+1 by omega];simp only[yU,show ((i:Int)<(n:Int)) by omega,apR,apN];cases hr:t.2.2
  ·left;simp
  ·right;refine⟨(t.1++[(zk s t.2).2],(zk s t.2).1),by simp; omega,?_,by simp⟩
   simp only[apN];simp only[aU s t.2 hs,apL,apQ,apS,zo (show i<4611686018427387904 by omega)];rw[if_pos (by omega)]
theorem Al (s:List UInt8) (r:ya) (hs:s.length<=137438953472):cq ((s,(r.1,!r.2)),())=some ((s,((jD s r).1.1,!(jD s r).1.2)),(jD s r).2,()):=by
 obtain⟨b1,b2⟩:=tu s r;unfold cq jD;dsimp only;rw[Nr s r hs,apL];dsimp only;generalize hn:(zk s r).2=n at *;obtain⟨n,rfl⟩:∃ m:Nat,n=(m:Int):=⟨n.toNat,by omega⟩
 simp only[apW];refine (walk n (λ i (t:List Int×ya)=>(t.1,i,(s,(t.2.1,!t.2.2)),())) (λ i t=>t.1.length<=i) (λ i t=>some ((s,((yU s (n - i) t.2 t.1).1.1,!(yU s (n - i) t.2 t.1).1.2)),(yU s (n - i) t.2 t.1).2,())) (by omega) ?_ ?_ (s0:=([],(zk s r).1)) (by simp)).trans (by simp)
 ·intro rec t ht;simp[yU]
 ·intro rec i t hi ht;rw[show n - i=(n - (i+1))+1 by omega];simp only[yU,show ((i:Int)<(n:Int)) by omega,apR,apN];have alj:=Nr s t.2 hs;cases hr:t.2.2
  ·left;simp[hr]
  ·right;rw[hr] at alj;refine⟨(t.1++[(zk s t.2).2],(zk s t.2).1),by simp; omega,?_,by simp⟩
   simp only[apT,aq9,apN] at alj ⊢;rw[alj,apL];simp only[apQ,apS,zo (show i<4611686018427387904 by omega)];rw[if_pos (by omega)]
def yL (s:List UInt8) (r:ya):ya×zH:=
 ((jD s (yq s (zk s r).1).1).1,((zk s r).2,(yq s (zk s r).1).2,(jD s (yq s (zk s r).1).1).2))
theorem GS (s:List UInt8) (r:ya) (hs:s.length<=137438953472):aV ((s,r),())=some ((s,(yL s r).1),(yL s r).2,()):=by
 unfold aV;dsimp only;rw[aU s r hs,apL];dsimp only;rw[u9 s _ hs,apL];dsimp only;rw[GT s _ hs,apL];rfl
theorem Am (s:List UInt8) (r:ya) (hs:s.length<=137438953472):Qt ((s,(r.1,!r.2)),())=some ((s,((yL s r).1.1,!(yL s r).1.2)),(yL s r).2,()):=by
 unfold Qt;dsimp only;rw[Nr s r hs,apL];dsimp only;rw[pm s _ hs,apL];dsimp only;rw[Al s _ hs,apL];rfl
theorem Y3 {s:List UInt8} {r:ya} (h:(zk s r).1.2=true):r.2=true/\0<=r.1/\r.1+1<=(zk s r).1.1/\(zk s r).1.1<=(s.length:Int):=by
 unfold zk at h ⊢;split at h
 ·next hc=>
  rw[if_pos hc];have:=K9 s r.1 hc.1;exact⟨hc.2,this.1,this.2.2.2.1,this.2.2.2.2⟩
 ·simp at h
theorem Mp {s:List UInt8} {r:ya} (h:(yq s r).1.2=true):r.2=true/\0<=r.1/\r.1+1+((yq s r).2.length:Int)<=(yq s r).1.1/\(yq s r).1.1<=(s.length:Int):=by
 unfold yq at h ⊢;split at h
 ·next hc=>
  rw[if_pos hc];obtain⟨h1,h2⟩:=hc;refine⟨h2,?_⟩;unfold zK at h1 ⊢;split at h1
  ·next hg=>
   rw[if_pos hg];have:=K9 s r.1 hg.1;simp only[aq4,aqa];omega
  ·simp at h1
 ·simp at h
theorem IB (s:List UInt8):∀ (n:Nat) (r:ya) (out:List Int),(yU s n r out).1.2=true->r.2=true/\r.1+((yU s n r out).2.length:Int)<=(yU s n r out).1.1+(out.length:Int)/\out.length<=(yU s n r out).2.length/\
  ((yU s n r out).1.1<=(s.length:Int)∨yU s n r out=(r,out))
 | 0,r,out,h=>⟨h,by simp[yU],by simp[yU],.inr rfl⟩
 | n+1,r,out,h=>by
  simp only[yU] at h ⊢;split at h
  ·next hr=>
   rw[if_pos hr];obtain⟨h1,h2,h3,h4⟩:=IB s n _ _ h;obtain⟨g1,g2,g3,g4⟩:=Y3 h1;simp only[apX,apQ,apS] at h2 h3;refine⟨hr,by omega,by omega,.inl ?_⟩;rcases h4 with h4|h4
   ·exact h4
   ·rw[h4]; exact g4
  ·next hr=>exact absurd h hr
theorem lH {s:List UInt8} {r:ya} (h:(jD s r).1.2=true):r.2=true/\0<=r.1/\r.1+1+((jD s r).2.length:Int)<=(jD s r).1.1/\(jD s r).1.1<=(s.length:Int):=by
 unfold jD at h ⊢;obtain⟨h1,h2,h3,h4⟩:=IB s _ _ _ h;obtain⟨g1,g2,g3,g4⟩:=Y3 h1;simp only[apS] at h2;refine⟨g1,g2,by omega,?_⟩;rcases h4 with h4|h4
 ·exact h4
 ·rw[h4]; exact g4
theorem di {s:List UInt8} {r:ya} (h:(yL s r).1.2=true):r.2=true/\0<=r.1/\r.1+(zj (yL s r).2:Int)<=(yL s r).1.1/\(yL s r).1.1<=(s.length:Int):=by
 unfold yL at h ⊢;obtain⟨a1,a2,a3,a4⟩:=lH h;obtain⟨b1,b2,b3,b4⟩:=Mp a1;obtain⟨c1,c2,c3,c4⟩:=Y3 b1;simp only[zj,zq];exact⟨c1,c2,by omega,a4⟩
def LP:zt:=(0,0,([],0,[],[]),(0,[],[]),(0,[],[]),0,(0,0,0,0))
noncomputable def ZN (c:za) (s:List UInt8) (r:ya) (m:zt):zt×Bool:=bif r.2 && (r.1==(s.length:Int) && z7 c m) then (m,true) else (LP,false)
theorem dZ (c:za) (s:List UInt8) (r:ya) (m:zt) (hw:r.2=true->r.1=(s.length:Int)->zh m<=1073741824):
  (bif !r.2 then some (LP,false,()) else bif (r.1 != (s.length:Int)) then some (LP,false,()) else (YM (c,m,())).bind λ r3=>bif !r3.1 then some (LP,false,()) else some (m,true,()))=some ((ZN c s r m).1,(ZN c s r m).2,()):=by
 unfold ZN;cases hr:r.2
 ·rfl
 ·by_cases hl:r.1=(s.length:Int)
  ·have e:(r.1 != (s.length:Int))=false:=by simp[hl]
   have e':(r.1==(s.length:Int))=true:=by simp[hl]
   rw[e,e',aC c m (by have:=hw hr hl; omega)]
   cases h:z7 c m<;>simp[h]
  ·have e:(r.1 != (s.length:Int))=true:=by simp[hl]
   have e':(r.1==(s.length:Int))=false:=by simp[hl]
   rw[e,e']; rfl
theorem co (c:za) (s:List UInt8) (r:ya) (m:zt) (hw:r.2=true->r.1=(s.length:Int)->zh m<=1073741824):
  (bif !r.2 then some (LP,false,()) else bif (r.1 != (s.length:Int)) then some (LP,false,()) else (YV (c,m,())).bind λ r3=>bif !r3.1 then some (LP,false,()) else some (m,true,()))=some ((ZN c s r m).1,(ZN c s r m).2,()):=by
 unfold ZN;cases hr:r.2
 ·rfl
 ·by_cases hl:r.1=(s.length:Int)
  ·have e:(r.1 != (s.length:Int))=false:=by simp[hl]
   have e':(r.1==(s.length:Int))=true:=by simp[hl]
   rw[e,e',bW c m (hw hr hl)];cases h:z7 c m<;>simp[h]
  ·have e:(r.1 != (s.length:Int))=true:=by simp[hl]
   have e':(r.1==(s.length:Int))=false:=by simp[hl]
   rw[e,e']; rfl
noncomputable def jY (c:za) (s:List UInt8):zt×Bool:=
 let a:=zk s (0,true)
 bif (a.2==1) then ZN c s (yL s (yq s a.1).1).1 (a.2,0,((yq s a.1).2,(yL s (yq s a.1).1).2),(0,[],[]),(0,[],[]),0,(0,0,0,0)) else
 bif (a.2==2) then ZN c s (jD s (yq s (zk s a.1).1).1).1 (a.2,0,([],0,[],[]),((zk s a.1).2,(yq s (zk s a.1).1).2,(jD s (yq s (zk s a.1).1).1).2),(0,[],[]),0,(0,0,0,0)) else
 bif (a.2==3) then ZN c s (yL s (zk s (zk s a.1).1).1).1 (a.2,(zk s a.1).2,([],0,[],[]),(0,[],[]),(yL s (zk s (zk s a.1).1).1).2,(zk s (zk s a.1).1).2,(0,0,0,0)) else
 bif (a.2==4) then ZN c s (zk s (zk s (zk s (zk s a.1).1).1).1).1 (a.2,0,([],0,[],[]),(0,[],[]),(0,[],[]),0,((zk s a.1).2,(zk s (zk s a.1).1).2,(zk s (zk s (zk s a.1).1).1).2,(zk s (zk s (zk s (zk s a.1).1).1).1).2)) else
 ZN c s a.1 (a.2,0,([],0,[],[]),(0,[],[]),(0,[],[]),0,(0,0,0,0))
theorem w1 (s:List UInt8) (a:ya) (k:Int) (hs:s.length<=1073741824) (h:(yL s (yq s a).1).1.2=true):zh (k,0,((yq s a).2,(yL s (yq s a).1).2),(0,[],[]),(0,[],[]),0,(0,0,0,0))<=1073741824:=by
 obtain⟨h1,h2,h3,h4⟩:=di h;obtain⟨g1,g2,g3,g4⟩:=Mp h1;simp only[zh,zx,zn,zj,zq,apS] at h3 ⊢;omega
theorem w2 (s:List UInt8) (a:ya) (k x:Int) (hs:s.length<=1073741824) (h:(jD s (yq s a).1).1.2=true):zh (k,0,([],0,[],[]),(x,(yq s a).2,(jD s (yq s a).1).2),(0,[],[]),0,(0,0,0,0))<=1073741824:=by
 obtain⟨h1,h2,h3,h4⟩:=lH h;obtain⟨g1,g2,g3,g4⟩:=Mp h1;simp only[zh,zx,zn,zj,zq,apS];omega
theorem w3 (s:List UInt8) (a:ya) (k x y:Int) (hs:s.length<=1073741824) (h:(yL s a).1.2=true):zh (k,x,([],0,[],[]),(0,[],[]),(yL s a).2,y,(0,0,0,0))<=1073741824:=by
 obtain⟨h1,h2,h3,h4⟩:=di h;simp only[zh,zx,zn,zj,zq,apS] at h3 ⊢;omega
theorem w4 (k:Int) (t:zI):zh (k,0,([],0,[],[]),(0,[],[]),(0,[],[]),0,t)<=1073741824:=by
 simp[zh,zx,zn,zj,zq]
theorem GH (c:za) (s:List UInt8) (hs:s.length<=1073741824):aB (c,s,())=some ((jY c s).1,(jY c s).2,()):=by
 have hl:s.length<=137438953472:=by omega
 unfold aB jY;simp only[aU s _ hl,u9 s _ hl,GT s _ hl,GS s _ hl,apL];cases ((zk s (0,true)).2==1)
 ·cases ((zk s (0,true)).2==2)
  ·cases ((zk s (0,true)).2==3)
   ·cases ((zk s (0,true)).2==4)
    ·exact dZ c s _ _ (λ _ _=>w4 _ _)
    ·exact dZ c s _ _ (λ _ _=>w4 _ _)
   ·exact dZ c s _ _ (λ h _=>w3 s _ _ _ _ hs h)
  ·exact dZ c s _ _ (λ h _=>w2 s _ _ _ hs h)
 ·exact dZ c s _ _ (λ h _=>w1 s _ _ hs h)
theorem xS (c:za) (s:List UInt8) (hs:s.length<=1073741824):bV (c,s,())=some ((jY c s).1,(jY c s).2,()):=by
 have hl:s.length<=137438953472:=by omega
 have e0:Zy ((s,(0,false)),())=some ((s,((zk s (0,true)).1.1,!(zk s (0,true)).1.2)),(zk s (0,true)).2,()):=Nr s (0,true) hl;unfold bV jY;simp only[e0,Nr s _ hl,pm s _ hl,Al s _ hl,Am s _ hl,apL];cases ((zk s (0,true)).2==1)
 ·cases ((zk s (0,true)).2==2)
  ·cases ((zk s (0,true)).2==3)
   ·cases ((zk s (0,true)).2==4)
    ·exact co c s _ _ (λ _ _=>w4 _ _)
    ·exact co c s _ _ (λ _ _=>w4 _ _)
   ·exact co c s _ _ (λ h _=>w3 s _ _ _ _ hs h)
  ·exact co c s _ _ (λ h _=>w2 s _ _ _ hs h)
 ·exact co c s _ _ (λ h _=>w1 s _ _ hs h)
theorem bH (c:za) (s:List UInt8) (r:ya) (m:zt) (hw:r.2=true->zh m<=1073741824):zh (ZN c s r m).1<=1073741824:=by
 unfold ZN;cases hr:r.2
 ·simp[LP,zh,zx,zn,zj,zq]
 ·cases (r.1==(s.length:Int) && z7 c m)
  ·simp[LP,zh,zx,zn,zj,zq]
  ·exact hw hr
theorem Bc (c:za) (s:List UInt8) (hs:s.length<=1073741824):zh (jY c s).1<=1073741824:=by
 unfold jY;dsimp only;cases ((zk s (0,true)).2==1)
 ·cases ((zk s (0,true)).2==2)
  ·cases ((zk s (0,true)).2==3)
   ·cases ((zk s (0,true)).2==4)
    ·exact bH c s _ _ (λ _=>w4 _ _)
    ·exact bH c s _ _ (λ _=>w4 _ _)
   ·exact bH c s _ _ (λ h=>w3 s _ _ _ _ hs h)
  ·exact bH c s _ _ (λ h=>w2 s _ _ _ hs h)
 ·exact bH c s _ _ (λ h=>w1 s _ _ hs h)
def Ya:zD:=(0,0,(0,[],[]),[])
def YY (id:Int):zb:=(id,1,0,Ya,[],[],([],0),[])
def afP:zb:=(0,0,0,Ya,[],[],([],0),[])
theorem Bj (id:Int):ze (YY id)=0:=rfl
noncomputable def YF (c:za) (id:Int):zb×Bool:=bif zf c (YY id) then (YY id,true) else (afP,false)
theorem aeN (c:za) (id:Int):mY (c,id,())=some ((YF c id).1,(YF c id).2,()):=by
 have h:=YN c (YY id) (by rw[Bj]; decide)
 unfold mY YF;dsimp only;simp only[YY,Ya] at h ⊢;rw[h];cases zf c (id,1,0,(0,0,(0,[],[]),[]),[],[],([],0),[])<;>rfl
theorem Wj (c:za) (id:Int):gg (c,id,())=some ((YF c id).1,(YF c id).2,()):=by
 have h:=ZP c (YY id) (by rw[Bj]; decide)
 unfold gg YF;dsimp only;simp only[YY,Ya] at h ⊢;rw[h];cases zf c (id,1,0,(0,0,(0,[],[]),[]),[],[],([],0),[])<;>rfl
theorem aaB (c:za) (id:Int):ze (YF c id).1=0:=by
 unfold YF;cases zf c (YY id)<;>rfl
def yM (s:List UInt8):ya×zD:=
 let a:=zk s (0,true)
 let b:=zk s a.1
 let q:=yL s b.1
 let t:=yq s q.1
 (t.1,(a.2,b.2,q.2,t.2))
noncomputable def ZG (c:za) (s:List UInt8):zD×Bool:=
 bif (yM s).1.2 && ((yM s).1.1==(s.length:Int) && ye c (yM s).2) then ((yM s).2,true) else (Ya,false)
theorem tv {s:List UInt8} (h:(yM s).1.2=true):(zy (yM s).2:Int)<=s.length:=by
 unfold yM at h ⊢;simp only at h ⊢;obtain⟨a1,a2,a3,a4⟩:=Mp h;obtain⟨b1,b2,b3,b4⟩:=di a1;simp only[zy];omega
theorem aeQ (c:za) (s:List UInt8) (hs:s.length<=1073741824):m0 (c,s,())=some ((ZG c s).1,(ZG c s).2,()):=by
 unfold m0 ZG;dsimp only;rw[aU s _ (by omega),apL];dsimp only;rw[aU s _ (by omega),apL];dsimp only;rw[GS s _ (by omega),apL];dsimp only;rw[u9 s _ (by omega),apL];dsimp only;have hw:=tv (s:=s);have e:yM s=((yq s (yL s (zk s (zk s (0,true)).1).1).1).1,((zk s (0,true)).2,(zk s (zk s (0,true)).1).2,(yL s (zk s (zk s (0,true)).1).1).2,(yq s (yL s (zk s (zk s (0,true)).1).1).1).2)):=rfl;have e1:(yq s (yL s (zk s (zk s (0,true)).1).1).1).1=(yM s).1:=rfl;have e2:((zk s (0,true)).2,(zk s (zk s (0,true)).1).2,(yL s (zk s (zk s (0,true)).1).1).2,(yq s (yL s (zk s (zk s (0,true)).1).1).1).2)=(yM s).2:=rfl;rw[e1,e2];cases hr:(yM s).1.2
 ·rfl
 ·have:=hw hr;by_cases hl:(yM s).1.1=(s.length:Int)
  ·have e3:((yM s).1.1 != (s.length:Int))=false:=by simp[hl]
   have e4:((yM s).1.1==(s.length:Int))=true:=by simp[hl]
   rw[e3,e4,aI c _ (by omega)];cases h:ye c (yM s).2<;>simp[Ya]
  ·have e3:((yM s).1.1 != (s.length:Int))=true:=by simp[hl]
   have e4:((yM s).1.1==(s.length:Int))=false:=by simp[hl]
   rw[e3,e4]; rfl
theorem Wm (c:za) (s:List UInt8) (hs:s.length<=1073741824):gj (c,s,())=some ((ZG c s).1,(ZG c s).2,()):=by
 unfold gj ZG;dsimp only;rw[show ((0:Int),false)=(((0:Int),true).1,!((0:Int),true).2) from rfl,Nr s _ (by omega),apL];dsimp only;rw[Nr s _ (by omega),apL];dsimp only;rw[Am s _ (by omega),apL];dsimp only;rw[pm s _ (by omega),apL];dsimp only;have hw:=tv (s:=s);have e1:(yq s (yL s (zk s (zk s (0,true)).1).1).1).1=(yM s).1:=rfl;have e2:((zk s (0,true)).2,(zk s (zk s (0,true)).1).2,(yL s (zk s (zk s (0,true)).1).1).2,(yq s (yL s (zk s (zk s (0,true)).1).1).1).2)=(yM s).2:=rfl;rw[e1,e2];cases hr:(yM s).1.2
 ·rfl
 ·have:=hw hr;by_cases hl:(yM s).1.1=(s.length:Int)
  ·have e3:((yM s).1.1 != (s.length:Int))=false:=by simp[hl]
   have e4:((yM s).1.1==(s.length:Int))=true:=by simp[hl]
   rw[e3,e4,ca c _ (by omega)];cases h:ye c (yM s).2<;>simp[Ya]
  ·have e3:((yM s).1.1 != (s.length:Int))=true:=by simp[hl]
   have e4:((yM s).1.1==(s.length:Int))=false:=by simp[hl]
   rw[e3,e4]; rfl
noncomputable def jQ (c:za) (s:List UInt8):Nat->Nat->zD->zD×Int
 | 0,at_,old=>(old,at_)
 | n+1,at_,old=>
  let t:=zK s at_
  bif t.2.2 && (decide (t.2.1<(s.length:Int)) && (s.getD t.2.1.toNat 0==10 && (ZG c t.1).2)) then jQ c s n (t.2.1+1).toNat (ZG c t.1).1 else (old,at_)
noncomputable def YX (c:za) (s:List UInt8):zD×Int:=jQ c s (s.length+1) 0 Ya
theorem qW {s:List UInt8} {at_:Int} (h:(zK s at_).2.2=true):0<=at_/\at_+1<=(zK s at_).2.1/\(zK s at_).2.1<=(s.length:Int)/\(zK s at_).1.length<=s.length/\
  (zi s at_).2.2=true/\(zK s at_).2.1=(zi s at_).2.1+(zi s at_).1/\(zK s at_).1=(s.drop (zi s at_).2.1.toNat).take (zi s at_).1.toNat:=by
 unfold zK at h ⊢;split at h
 ·next hg=>
  rw[if_pos hg];have:=K9 s at_ hg.1;refine⟨by omega,by simp only; omega,by simp only; omega,?_,hg.1,rfl,rfl⟩
  simp only[aq4,aqa];omega
 ·simp at h
theorem pQ (c:za) (s:List UInt8):∀ (n at_:Nat) (old:zD),s.length<at_+n->∀ m,s.length<at_+m->jQ c s n at_ old=jQ c s m at_ old
 | n,at_,old,hn,m,hm=>by
  cases n with
  | zero=>
   cases m with
   | zero=>rfl
   | succ m=>
    have:(zK s at_).2.2=false:=by
     cases h:(zK s at_).2.2
     ·rfl
     ·have:=qW h; omega
    simp only[jQ,this,aqp,apM]
  | succ n=>
   cases m with
   | zero=>
    have:(zK s at_).2.2=false:=by
     cases h:(zK s at_).2.2
     ·rfl
     ·have:=qW h; omega
    simp only[jQ,this,aqp,apM]
   | succ m=>
    simp only[jQ];cases h:(zK s at_).2.2
    ·simp
    ·have:=qW h;rw[pQ c s n _ _ (by omega) m (by omega)]
theorem Br:UInt8.ofNat (Int.toNat 10)=10:=rfl
theorem aeA (c:za) (s:List UInt8) (hs:s.length<=1073741824):mO (c,s,())=some ((YX c s).1,(YX c s).2,()):=by
 unfold mO uW YX;rw[apL];dsimp only;refine (Qv (λ x:Int×zD×zD×Unit=>some ((jQ c s (s.length+1) x.1.toNat x.2.2.1).1,(jQ c s (s.length+1) x.1.toNat x.2.2.1).2,())) (λ x=>s.length+1 - x.1.toNat)
  (λ x=>0<=x.1/\x.1<=(s.length:Int)) ?_ fuel _ ⟨by simp,by simp⟩ (by have:=YU (n:=s.length+1) (by omega); simp; omega)).trans (by rfl)
 rintro rec ⟨v,z,old,⟨⟩⟩ ⟨h1,h2⟩ afU;obtain⟨n,rfl⟩:∃ n:Nat,v=(n:Int):=⟨v.toNat,by simp only at h1; omega⟩
 simp only[apW] at h2 afU ⊢;simp only[uQ s _ (show s.length<=137438953472 by omega),apL,jQ];cases hg:(zi s n).2.2
 ·have:(zK s n).2.2=false:=by unfold zK; rw[if_neg (by simp[hg])]
  simp[this]
 ·obtain⟨g0,g1,g2,g3,g4⟩:=K9 s n hg;simp only[apT,apM,zg (show (-9223372036854775808:Int)<=(s.length:Int) - (zi s n).2.1 by omega) (show (s.length:Int) - (zi s n).2.1<=9223372036854775807 by omega),
   zg (show (-9223372036854775808:Int)<=(zi s n).2.1+(zi s n).1 by omega) (show (zi s n).2.1+(zi s n).1<=9223372036854775807 by omega)]
  by_cases hc:(zi s n).1≥(s.length:Int) - (zi s n).2.1
  ·simp only[hc,apR,apN];by_cases ht:(zK s n).2.2=true
   ·obtain⟨t0,t1,t2,t3,t4,t5,t6⟩:=qW ht;have:¬ (zK s n).2.1<(s.length:Int):=by omega
    simp[this]
   ·have:(zK s n).2.2=false:=by simpa using ht
    simp[this]
  ·have e0:zK s n=((s.drop (zi s n).2.1.toNat).take (zi s n).1.toNat,(zi s n).2.1+(zi s n).1,true):=by
    unfold zK;rw[if_pos ⟨hg,by omega⟩]
   have hlt:(zi s n).2.1+(zi s n).1<(s.length:Int):=by omega
   simp only[hc,apU,apM,e0,hlt,apR,aq3];rw[if_pos (show 0<=(zi s n).2.1+(zi s n).1/\True from⟨by omega,trivial⟩)];have hrd:rd .u8 s ((zi s n).2.1+(zi s n).1).toNat=s.getD ((zi s n).2.1+(zi s n).1).toNat 0:=rfl;rw[hrd,Br];by_cases h10:s.getD ((zi s n).2.1+(zi s n).1).toNat 0=10
   ·have e1:(s.getD ((zi s n).2.1+(zi s n).1).toNat 0 != 10)=false:=by rw[h10]; rfl
    have e2:(s.getD ((zi s n).2.1+(zi s n).1).toNat 0==10)=true:=by rw[h10]; rfl
    rw[e1,e2];simp only[apM,aq3];rw[if_pos (show 0<=(zi s n).2.1/\(zi s n).2.1<=(zi s n).2.1+(zi s n).1/\(zi s n).2.1+(zi s n).1<=(s.length:Int) from⟨by omega,by omega,by omega⟩),vv _ _ _ g1 (by omega),aeQ c _ (by simp only[aq4,aqa]; omega),Option.bind_some]
    dsimp only;cases hk:(ZG c (List.take (zi s n).1.toNat (List.drop (zi s n).2.1.toNat s))).2
    ·rfl
    ·simp only[apT,apM,apN];rw[zg (n:=(zi s n).2.1+(zi s n).1+1) (by omega) (by omega),afU _ ⟨by simp only; omega,by simp only; omega⟩ (by simp only; omega)]
     simp only;rw[pQ c s (s.length+1) _ _ (by omega) s.length (by omega)]
   ·have e1:(s.getD ((zi s n).2.1+(zi s n).1).toNat 0 != 10)=true:=bne_iff_ne.2 h10;have e2:(s.getD ((zi s n).2.1+(zi s n).1).toNat 0==10)=false:=beq_eq_false_iff_ne.2 h10;rw[e1,e2];rfl
theorem V4 (c:za) (s:List UInt8) (hs:s.length<=1073741824):fW (c,s,())=some ((YX c s).1,(YX c s).2,()):=by
 unfold fW pd YX;rw[apL];dsimp only;refine (Qv (λ x:Int×zD×zD×Unit=>some ((jQ c s (s.length+1) x.1.toNat x.2.2.1).1,(jQ c s (s.length+1) x.1.toNat x.2.2.1).2,())) (λ x=>s.length+1 - x.1.toNat)
  (λ x=>0<=x.1/\x.1<=(s.length:Int)) ?_ fuel _ ⟨by simp,by simp⟩ (by have:=YU (n:=s.length+1) (by omega); simp; omega)).trans (by rfl)
 rintro rec ⟨v,z,old,⟨⟩⟩ ⟨h1,h2⟩ afU;obtain⟨n,rfl⟩:∃ n:Nat,v=(n:Int):=⟨v.toNat,by simp only at h1; omega⟩
 simp only[apW] at h2 afU ⊢;simp only[xN s _ (show s.length<=137438953472 by omega),apL,jQ];cases hg:(zK s n).2.2
 ·simp
 ·obtain⟨t0,t1,t2,t3,t4,t5,t6⟩:=qW hg;simp only[apT,apM,aq3];by_cases hc:(zK s n).2.1≥(s.length:Int)
  ·have:¬ (zK s n).2.1<(s.length:Int):=by omega
   simp[hc,this]
  ·have hlt:(zK s n).2.1<(s.length:Int):=by omega
   simp only[hc,apU,apM,hlt,apR,aq3];rw[if_pos (show 0<=(zK s n).2.1/\True from⟨by omega,trivial⟩)];have hrd:rd .u8 s (zK s n).2.1.toNat=s.getD (zK s n).2.1.toNat 0:=rfl;rw[hrd,Br];by_cases h10:s.getD (zK s n).2.1.toNat 0=10
   ·have e1:(s.getD (zK s n).2.1.toNat 0 != 10)=false:=by rw[h10]; rfl
    have e2:(s.getD (zK s n).2.1.toNat 0==10)=true:=by rw[h10]; rfl
    rw[e1,e2];simp only[apM,aq3];rw[Wm c _ (by omega),apL];dsimp only;cases hk:(ZG c (zK s n).1).2
    ·rfl
    ·simp only[apT,apM,apN];rw[zg (n:=(zK s n).2.1+1) (by omega) (by omega),afU _ ⟨by simp only; omega,by simp only; omega⟩ (by simp only; omega)]
     simp only;rw[pQ c s (s.length+1) _ _ (by omega) s.length (by omega)]
   ·have e1:(s.getD (zK s n).2.1.toNat 0 != 10)=true:=bne_iff_ne.2 h10;have e2:(s.getD (zK s n).2.1.toNat 0==10)=false:=beq_eq_false_iff_ne.2 h10;rw[e1,e2];rfl
def YJ (a b:zD):Bool:=a.1==b.1 && (a.2.1==b.2.1 && (jj a.2.2.1 b.2.2.1 && a.2.2.2==b.2.2.2))
theorem aeR (a b:zD) (h:zy a<=137438953472):m7 (a,b,())=some (YJ a b,()):=by
 unfold m7 YJ;simp only[uU a.2.2.1 b.2.2.1 (by simp only[zy,zj,zq] at h; omega),Option.bind_some]
 cases a.1==b.1<;>cases a.2.1==b.2.1<;>cases jj a.2.2.1 b.2.2.1<;>rfl
theorem Wn (a b:zD) (h:zy a<=137438953472):gk (a,b,())=some (YJ a b,()):=by
 unfold gk YJ;simp only[Qh a.2.2.1 b.2.2.1 (by simp only[zy,zj,zq] at h; omega),Option.bind_some]
 cases a.1==b.1<;>cases a.2.1==b.2.1<;>cases jj a.2.2.1 b.2.2.1<;>rfl
theorem adm (c:za) (s:List UInt8):zy (ZG c s).1<=s.length:=by
 unfold ZG;cases h:(yM s).1.2
 ·simp[Ya,zy,zj,zq]
 ·have:=tv h;cases ((yM s).1.1==(s.length:Int))<;>cases ye c (yM s).2
  ·simp[Ya,zy,zj,zq]
  ·simp[Ya,zy,zj,zq]
  ·simp[Ya,zy,zj,zq]
  ·simp only[aqH,apN]; omega
theorem AT (c:za) (s:List UInt8):∀ (n at_:Nat) (old:zD),at_<=s.length->zy old<=s.length->zy (jQ c s n at_ old).1<=s.length/\0<=(jQ c s n at_ old).2/\(jQ c s n at_ old).2<=(s.length:Int)
 | 0,at_,old,h1,h2=>⟨h2,by simp only[jQ]; omega,by simp only[jQ]; omega⟩
 | n+1,at_,old,h1,h2=>by
  simp only[jQ];cases hg:((zK s at_).2.2 && (decide ((zK s at_).2.1<(s.length:Int)) && (s.getD (zK s at_).2.1.toNat 0==10 && (ZG c (zK s at_).1).2)))
  ·exact⟨h2,by simp only[apM]; omega,by simp only[apM]; omega⟩
  ·simp only[apO,apY] at hg;obtain⟨k1,k2,k3,k4⟩:=hg;obtain⟨t0,t1,t2,t3,t4,t5,t6⟩:=qW k1;have:=adm c (zK s at_).1;exact AT c s n _ _ (by omega) (by omega)
theorem pR (c:za) (s:List UInt8):zy (YX c s).1<=s.length/\0<=(YX c s).2/\(YX c s).2<=(s.length:Int):=AT c s _ 0 _ (by simp) (by simp[Ya,zy,zj,zq])
theorem bo {r:zb} {N:Nat} (h:ze r<=N):r.2.2.2.2.2.2.1.1.length<=N:=by simp only[ze,KU] at h; omega
theorem bp {r:zb} {N:Nat} (h:ze r<=N):zy r.2.2.2.1<=N:=by simp only[ze] at h; omega
def je:zV:=([100,100,100,100],[0,0,0,0])
theorem Bl {G:(Int×zV×Unit->Option (zV×Unit))->Int×zV×Unit->Option (zV×Unit)}
  (hG:∀ rec (i:Int) (l:zV),G rec (i,l,())=bif decide (i<4) then (if (l.1.length+[(100:Int)].length)*8<=70368744177664 then rec (wr (i+1),(l.1++[100],l.2),()) else none) else some (l,())):
  iter G fuel (0,([],List.replicate (Int.toNat 4) 0),())=some (je,()):=by
 refine (walk 4 (λ i (o:List Int)=>(i,(o,List.replicate (Int.toNat 4) 0),())) (λ i o=>o.length=i) (λ i o=>some ((o++List.replicate (4 - i) 100,List.replicate (Int.toNat 4) 0),())) (by decide) ?_ ?_ (s0:=[]) rfl).trans rfl
 ·intro rec o ho; rw[hG]; simp
 ·intro rec i o hi ho;right;refine⟨o++[100],by simp[ho],?_,?_⟩
  ·rw[hG];simp only[show ((i:Int)<4) by omega,apR,apN,apQ,apS,zo (show i<4611686018427387904 by omega)];rw[if_pos (by omega)]
  ·rw[show 4 - i=(4 - (i+1))+1 by omega,arD]; simp
theorem GF:aA ()=some (je,()):=by
 unfold aA;exact Bl (λ rec i l=>rfl)
theorem xQ:Qc ()=some (je,()):=by
 unfold Qc;exact Bl (λ rec i l=>rfl)
def y8 (s:List UInt8):zw:=((steps s).1.map λ x=>x.2).flatten
theorem G6:∀ (ps:List (List UInt8)) (prev:Int) (out:List Yt),(∀ x∈out,x.2.length<=2)->∀ x∈(jM ps prev out).1,x.2.length<=2
 | [],prev,out,h=>h
 | p::ps,prev,out,h=>by
  simp only[jM];cases y0 124 p with
  | none=>simp
  | some q=>
   simp only;split
   ·next hB=>
    refine G6 ps _ _ ?_;intro x hx;rcases List.mem_append.1 hx with hx|hx
    ·exact h x hx
    ·simp only[arg] at hx;subst hx;unfold ja at hB;simp only[apO,apY] at hB;exact hB.2.2.2.2
   ·simp
theorem G8 (s:List UInt8):∀ x∈(steps s).1,x.2.length<=2:=by
 unfold steps;split
 ·simp
 ·cases zS 47 s with
  | nil=>simp
  | cons p ps=>
   simp only;split
   ·exact G6 _ _ _ (by simp)
   ·simp
theorem xm:∀ (l:List Yt) (out:zw),l.foldl (λ o x=>o++x.2) out=out++(l.map λ x=>x.2).flatten
 | [],out=>by simp
 | x::l,out=>by rw[aqF,xm l]; simp
theorem Il (s:List UInt8) {G:(zw×Int×Unit->Option (zw×Unit))->zw×Int×Unit->Option (zw×Unit)}
  (hG:∀ rec (o:zw) (i:Int),G rec (o,i,())=bif decide (i<((steps s).1.length:Int)) then (if 0<=i/\i<((steps s).1.length:Int) then (if (o.length+(rd (.pair .i64 (.sl 0 jO)) (steps s).1 i.toNat).2.length)*32<=70368744177664 then
   rec (o++(rd (.pair .i64 (.sl 0 jO)) (steps s).1 i.toNat).2,wr (i+1),()) else none) else none) else some (o,())):
  iter G fuel ([],0,())=some (y8 s,()):=by
 have h30:=(bf s).2;have:=L4 (λ i (o:zw)=>(o,i,())) (steps s).1 (λ o x=>o++x.2) (λ o=>some (o,())) (by omega) (λ i o=>o.length<=2*i) (G:=G) ?_ ?_ (s0:=[]) (by simp)
 ·rw[this,xm]; rfl
 ·intro rec o ho; rw[hG]; simp
 ·intro rec i o x hx hi ho;have h2:=G8 s x (List.mem_of_getElem? hx);refine⟨by rw[apX]; omega,?_⟩
  rw[hG];simp only[zr hi,apR,apN,apZ,if_true,apW,zm (e:=.pair .i64 (.sl 0 jO)) hx,zo (show i<4611686018427387904 by omega)];rw[if_pos (by omega)]
theorem nR (s:List UInt8):(y8 s).length<=60:=by
 have h30:=(bf s).2;have h2:=G8 s;have key:∀ l:List Yt,(∀ x∈l,x.2.length<=2)->(l.map λ x=>x.2).flatten.length<=2*l.length:=by
  intro l;induction l with
  | nil=>simp
  | cons x l ih=>
   intro h;have a:=h x (by simp);have b:=ih (λ y hy=>h y (by simp[hy]));simp only[aq5,are,apX,apQ];omega
 have:=key _ h2;unfold y8;omega
theorem GO (s:List UInt8) (hs:s.length<=137438953472):aP (s,())=some (y8 s,()):=by
 unfold aP;simp only[ng s hs,apL];exact Il s (λ rec o i=>rfl)
theorem Ab (s:List UInt8) (hs:s.length<=1073741824):Qo (s,())=some (y8 s,()):=by
 unfold Qo;simp only[gu s hs,apL];exact Il s (λ rec o i=>rfl)
def within (lo hi x:Int):Bool:=decide (x≥lo) && decide (x<=hi)
def jX (l:zV):Bool:=decide (l.1.length=4) && (decide (l.2.length=4) && (l.1.all (within 0 400) && l.2.all (within 0 100)))
theorem aeD (l:zV):dI (l,())=some (jX l,()):=by
 unfold dI jX;dsimp only;by_cases h1:l.1.length=4
 ·by_cases h2:l.2.length=4
  ·simp only[h1,h2,apR,aq3,show (((4:Nat):Int) != 4)=false from rfl,apM];refine (walk 4 (λ i (_:Unit)=>(i,())) (λ _ _=>True) (λ i _=>some ((l.1.drop i).all (within 0 400) && (l.2.drop i).all (within 0 100),())) (by decide) ?_ ?_ (s0:=()) trivial).trans (by simp)
   ·intro rec s _;rw[ars (by omega),ars (by omega)]; simp
   ·intro rec i s hi _;have hi1:i<l.1.length:=by omega
    have hi2:i<l.2.length:=by omega
    have hx1:l.1[i]?=some l.1[i]:=List.getElem?_eq_getElem hi1;have hx2:l.2[i]?=some l.2[i]:=List.getElem?_eq_getElem hi2;have c1:(0:Int)<=(i:Int):=by omega
    have c2:(i:Int)<4:=by omega
    have c3:(i:Int)<((4:Nat):Int):=by omega
    simp only[c1,c2,c3,apR,apN,apZ,if_true,apW,zm (e:=.i64) hx1,zm (e:=.i64) hx2,Y9,apL,zo (show i<4611686018427387904 by omega)];rw[aq7 hi1,aq7 hi2];simp only[aqm,within];cases (decide (l.1[i]≥0) && decide (l.1[i]<=400))
    ·left; simp
    ·cases (decide (l.2[i]≥0) && decide (l.2[i]<=100))
     ·left; simp
     ·right; exact⟨(),trivial,by simp,by simp⟩
  ·have:(((l.2.length:Nat):Int) != 4)=true:=bne_iff_ne.2 (by omega);simp[h1,this,h2]
 ·have:(((l.1.length:Nat):Int) != 4)=true:=bne_iff_ne.2 (by omega);simp[this,h1]
theorem wa (l:List Int) (lo hi:Int) (hl:l.length<=137438953472):ck (l,lo,hi,())=some (l.all (within lo hi),()):=by
 unfold ck;refine oq (within lo hi) l (by omega) ?_ ?_
 ·intro rec s; simp
 ·intro rec i s x hx hi';simp only[zr hi',apR,apN,apZ,if_true,apW,zm (e:=.i64) hx,ZT,apL,zo (show i<4611686018427387904 by omega),within];cases (decide (x≥lo) && decide (x<=hi))<;>rfl
theorem V7 (l:zV):bT (l,())=some (jX l,()):=by
 unfold bT jX;dsimp only;by_cases h1:l.1.length=4
 ·by_cases h2:l.2.length=4
  ·simp only[h1,h2,apR,aq3,show (((4:Nat):Int)==4)=true from rfl,apN,wa l.1 0 400 (by omega),wa l.2 0 100 (by omega),apL];cases l.1.all (within 0 400)<;>rfl
  ·have:(((l.2.length:Nat):Int)==4)=false:=beq_eq_false_iff_ne.2 (by omega);simp[h1,this,h2]
 ·have:(((l.1.length:Nat):Int)==4)=false:=beq_eq_false_iff_ne.2 (by omega);simp[this,h1]
theorem A3 {l:zV} (h:jX l=true):l.1.length=4/\l.2.length=4:=by
 unfold jX at h;simp only[apO,apY] at h;exact⟨h.1,h.2.1⟩
noncomputable def pay (l:zV) (x:zI):zV×Int:=
 if jX l=true/\zF x=true then
  (if x.2.2.2<rd .i64 l.2 x.1.toNat then (l,2) else if x.2.2.2>rd .i64 l.2 x.1.toNat then (l,3) else
   if x.2.2.1>rd .i64 l.1 x.1.toNat then ((l.1,l.2.set x.1.toNat (wr (x.2.2.2+1))),4) else
   let h:=l.1.set x.1.toNat (wr (rd .i64 l.1 x.1.toNat - x.2.2.1))
   let m:zV:=(h.set x.2.1.toNat (wr (rd .i64 h x.2.1.toNat+x.2.2.1)),l.2.set x.1.toNat (wr (x.2.2.2+1)))
   if jX m=true then (m,0) else (l,1))
 else (l,1)
theorem vm (l:zV) (h1:l.1.length<=137438953472) (h2:l.2.length<=137438953472):qe (l,())=some (l,()):=by
 unfold qe;dsimp only;rw[if_pos (by omega),if_pos (by omega)]; rfl
theorem Af (l:zV) (h1:l.1.length<=137438953472) (h2:l.2.length<=137438953472):Qr (l,())=some (l,()):=by
 unfold Qr;simp only[Nn l.1 h1,Nn l.2 h2,apL]
theorem uS (l:zV) (x:zI) (h1:l.1.length<=137438953472) (h2:l.2.length<=137438953472):N2 (l,x,())=some ((pay l x).1,(pay l x).2,()):=by
 unfold N2 pay;simp only[vm l h1 h2,aeD,N9,apL];by_cases hl:jX l=true
 ·by_cases hx:zF x=true
  ·obtain⟨⟨b1,b2⟩,⟨b3,b4⟩,_,_⟩:=(qn x).1 hx;obtain⟨g1,g2⟩:=A3 hl;have d1:x.1<(l.1.length:Int):=by omega
   have d2:x.1<(l.2.length:Int):=by omega
   have d3:x.2.1<(l.1.length:Int):=by omega
   rw[if_pos (show jX l=true/\zF x=true from⟨hl,hx⟩)];simp only[hl,hx,apT,apM,b1,b3,d1,d2,d3,apZ,if_true,arn];by_cases e1:x.2.2.2<rd .i64 l.2 x.1.toNat
   ·simp only[e1,apR,apN,if_true]
   ·simp only[e1,apU,apM,if_false];by_cases e2:x.2.2.2>rd .i64 l.2 x.1.toNat
    ·simp only[e2,apR,apN,if_true]
    ·simp only[e2,apU,apM,if_false];by_cases e3:x.2.2.1>rd .i64 l.1 x.1.toNat
     ·simp only[e3,apR,apN,if_true]
     ·simp only[e3,apU,apM,if_false];cases hm:jX ((l.1.set x.1.toNat (wr (rd .i64 l.1 x.1.toNat - x.2.2.1))).set x.2.1.toNat (wr (rd .i64 (l.1.set x.1.toNat (wr (rd .i64 l.1 x.1.toNat - x.2.2.1))) x.2.1.toNat+x.2.2.1)),l.2.set x.1.toNat (wr (x.2.2.2+1)))
      ·simp
      ·simp
  ·have hx':zF x=false:=by simpa using hx
   rw[if_neg (show ¬ (jX l=true/\zF x=true) from λ h=>hx h.2)];simp[hl,hx']
 ·have hl':jX l=false:=by simpa using hl
  rw[if_neg (show ¬ (jX l=true/\zF x=true) from λ h=>hl h.1)];simp[hl']
theorem o9 (l:zV) (x:zI) (h1:l.1.length<=137438953472) (h2:l.2.length<=137438953472):Nc (l,x,())=some ((pay l x).1,(pay l x).2,()):=by
 unfold Nc pay;simp only[Af l h1 h2,V7,Mc,apL];by_cases hl:jX l=true
 ·by_cases hx:zF x=true
  ·obtain⟨⟨b1,b2⟩,⟨b3,b4⟩,_,_⟩:=(qn x).1 hx;obtain⟨g1,g2⟩:=A3 hl;have d1:x.1<(l.1.length:Int):=by omega
   have d2:x.1<(l.2.length:Int):=by omega
   have d3:x.2.1<(l.1.length:Int):=by omega
   rw[if_pos (show jX l=true/\zF x=true from⟨hl,hx⟩)];simp only[hl,hx,apT,apM,b1,b3,d1,d2,d3,apZ,if_true,arn];by_cases e1:x.2.2.2<rd .i64 l.2 x.1.toNat
   ·simp only[e1,apR,apN,if_true]
   ·simp only[e1,apU,apM,if_false];by_cases e2:x.2.2.2>rd .i64 l.2 x.1.toNat
    ·simp only[e2,apR,apN,if_true]
    ·have e0 : @Eq Int (rd .i64 l.2 x.1.toNat) x.2.2.2:=by omega
     simp only[e0,gt_iff_lt,aq6,apU,apM,if_false];by_cases e3:rd .i64 l.1 x.1.toNat<x.2.2.1
     ·simp only[e3,apR,apN,if_true]
     ·simp only[e3,apU,apM,if_false];cases hm:jX ((l.1.set x.1.toNat (wr (rd .i64 l.1 x.1.toNat - x.2.2.1))).set x.2.1.toNat (wr (rd .i64 (l.1.set x.1.toNat (wr (rd .i64 l.1 x.1.toNat - x.2.2.1))) x.2.1.toNat+x.2.2.1)),l.2.set x.1.toNat (wr (x.2.2.2+1)))
      ·simp
      ·simp
  ·have hx':zF x=false:=by simpa using hx
   rw[if_neg (show ¬ (jX l=true/\zF x=true) from λ h=>hx h.2)];simp[hl,hx']
 ·have hl':jX l=false:=by simpa using hl
  rw[if_neg (show ¬ (jX l=true/\zF x=true) from λ h=>hl h.1)];simp[hl']
theorem kJ (l:zV) (x:zI):(pay l x).1.1.length=l.1.length/\(pay l x).1.2.length=l.2.length:=by
 unfold pay;dsimp only;repeat' split
 all_goals simp
noncomputable def KE (s:List Int×zV) (x:zI):List Int×zV:=(s.1++[(pay s.2 x).2],(pay s.2 x).1)
noncomputable def ju (l:zV) (xs:zw):List Int×zV:=xs.foldl KE ([],l)
theorem BB {f:zV×zI×Unit->Option (zV×Int×Unit)} (l:zV) (xs:zw) (h1:l.1.length<=137438953472) (h2:l.2.length<=137438953472) (hxs:xs.length<=137438953472)
  (hf:∀ l x,l.1.length<=137438953472->l.2.length<=137438953472->f (l,x,())=some ((pay l x).1,(pay l x).2,()))
  {G:(List Int×Int×zV×Unit->Option (zV×List Int×Unit))->List Int×Int×zV×Unit->Option (zV×List Int×Unit)}
  (hG:∀ rec (o:List Int) (i:Int) (m:zV),G rec (o,i,m,())=bif decide (i<(xs.length:Int)) then (if 0<=i/\i<(xs.length:Int) then (f (m,rd jO xs i.toNat,())).bind λ r2=>
   (if (o.length+[r2.2.1].length)*8<=70368744177664 then rec (o++[r2.2.1],wr (i+1),r2.1,()) else none) else none) else some (m,o,())):
  iter G fuel ([],0,l,())=some ((ju l xs).2,(ju l xs).1,()):=by
 refine L4 (λ i (s:List Int×zV)=>(s.1,i,s.2,())) xs KE (λ s=>some (s.2,s.1,())) (by omega) (λ i s=>s.1.length=i/\s.2.1.length<=137438953472/\s.2.2.length<=137438953472) (G:=G) ?_ ?_ (s0:=([],l)) ⟨rfl,h1,h2⟩
 ·intro rec s hs; rw[hG]; simp
 ·intro rec i s x hx hi hs;obtain⟨k1,k2,k3⟩:=hs;obtain⟨p1,p2⟩:=kJ s.2 x;refine⟨⟨by simp[KE,k1],by simp only[KE]; omega,by simp only[KE]; omega⟩,?_⟩
  rw[hG];simp only[zr hi,apR,apN,apZ,if_true,apW,zm (e:=jO) hx,hf s.2 x k2 k3,apL,zo (show i<4611686018427387904 by omega),apQ,apS];rw[if_pos (by omega)];rfl
theorem GJ (l:zV) (xs:zw) (h1:l.1.length<=137438953472) (h2:l.2.length<=137438953472) (hxs:xs.length<=137438953472):aE (l,xs,())=some ((ju l xs).2,(ju l xs).1,()):=by
 unfold aE;rw[vm l h1 h2,apL];exact BB (f:=N2) l xs h1 h2 hxs uS (λ rec o i m=>by dsimp only)
theorem xU (l:zV) (xs:zw) (h1:l.1.length<=137438953472) (h2:l.2.length<=137438953472) (hxs:xs.length<=137438953472):Qd (l,xs,())=some ((ju l xs).2,(ju l xs).1,()):=by
 unfold Qd;rw[Af l h1 h2,apL];exact BB (f:=Nc) l xs h1 h2 hxs o9 (λ rec o i m=>by dsimp only)
theorem kI:∀ (xs:zw) (s:List Int×zV),(xs.foldl KE s).2.1.length=s.2.1.length/\(xs.foldl KE s).2.2.length=s.2.2.length/\(xs.foldl KE s).1.length=s.1.length+xs.length
 | [],s=>by simp
 | x::xs,s=>by
  obtain⟨a,b,c⟩:=kI xs (KE s x);obtain⟨p1,p2⟩:=kJ s.2 x;rw[aqF];refine⟨a.trans p1,b.trans p2,c.trans ?_⟩;simp only[KE,apX,apQ,apS]; omega
noncomputable def state (c:za) (r:zb):zV:=bif zf c r then (ju je (y8 r.2.2.2.1.2.2.2)).2 else ([],[])
theorem aeW (c:za) (r:zb) (hw:ze r<=137438953472):dS (c,r,())=some (state c r,()):=by
 have hs:=bp hw;have hl:=nR r.2.2.2.1.2.2.2;unfold dS state;simp only[YN c r hw,GF,GO r.2.2.2.1.2.2.2 (by simp only[zy] at hs; omega),GJ je _ (by decide) (by decide) (show (y8 r.2.2.2.1.2.2.2).length<=137438953472 by omega),Option.bind_some]
 cases zf c r<;>rfl
theorem Ws (c:za) (r:zb) (hw:ze r<=1073741824):Le (c,r,())=some (state c r,()):=by
 have hs:=bp hw;have hl:=nR r.2.2.2.1.2.2.2;unfold Le state;simp only[ZP c r hw,xQ,Ab r.2.2.2.1.2.2.2 (by simp only[zy] at hs; omega),xU je _ (by decide) (by decide) (show (y8 r.2.2.2.1.2.2.2).length<=137438953472 by omega),Option.bind_some]
 cases zf c r<;>rfl
theorem G3 (c:za) (r:zb):eD (state c r)<=8:=by
 unfold state;cases zf c r
 ·simp[eD,zq]
 ·obtain⟨a,b,_⟩:=kI (y8 r.2.2.2.1.2.2.2) ([],je);simp only[apN,eD,zq,ju,a,b];decide
noncomputable def yH (c:za) (r:zb):zb×jI:=bif zf c r then ((r.1,r.2.1,r.2.2.1,r.2.2.2.1,r.2.2.2.2.1,r.2.2.2.2.2.1,MM r.2.2.2.2.2.2.1,[]),r.2.2.2.2.2.2.2) else (r,[])
theorem aeX (c:za) (r:zb) (hw:ze r<=137438953472):dU (c,r,())=some ((yH c r).1,(yH c r).2,()):=by
 have h1:=bo hw;have h2:ym r.2.2.2.2.2.2.2<=137438953472:=by simp only[ze] at hw; omega
 unfold dU yH;simp only[Z5 r hw,YN c r hw,aeY r.2.2.2.2.2.2.1 (by omega),GV _ h2,apL];cases zf c r<;>rfl
theorem Wt (c:za) (r:zb) (hw:ze r<=1073741824):gv (c,r,())=some ((yH c r).1,(yH c r).2,()):=by
 have h1:=bo hw;unfold gv yH;simp only[ZS r (by omega),ZP c r hw,Wu r.2.2.2.2.2.2.1 (by omega),apL];cases zf c r<;>rfl
theorem afk (d:yV):(MM d).1.length=d.1.length:=by
 unfold MM; split<;>rfl
theorem afj (c:za) (r:zb):ze (yH c r).1<=ze r/\ym (yH c r).2<=ze r:=by
 unfold yH;cases zf c r
 ·simp only[apM]; exact⟨Nat.le_refl _,by simp[ym]⟩
 ·have:=afk r.2.2.2.2.2.2.1;simp only[apN,ze,KU,this];refine⟨?_,by omega⟩;have:ym []=0:=rfl;omega
abbrev YQ:Ty:=.pair .i64 (.pair .i64 (.pair .i64 (.pair (.pair .i64 (.pair .i64 (.pair (.pair .i64 (.pair .str (.sl 0 .i64))) .str))) (.pair (.sl 0 (.pair .i64 (.pair .i64 (.pair .i64 .i64)))) (.pair (.sl 0 (.pair .i64 (.pair .str (.sl 0 .i64)))) (.pair (.pair (.sl 0 .u8) .i64) (.sl 0 (.pair .i64 (.pair .i64 (.pair .i64 (.pair (.pair .str (.pair .i64 (.pair .str (.sl 0 .i64)))) (.pair (.pair .i64 (.pair .str (.sl 0 .i64))) (.pair (.pair .i64 (.pair .str (.sl 0 .i64))) (.pair .i64 (.pair .i64 (.pair .i64 (.pair .i64 .i64)))))))))))))))))
abbrev bw:Ty:=.pair .i64 (.sl 0 .u8)
abbrev MR:Ty:=.pair .i64 (.pair .str .i64)
def jz {α:Type} (p:Nat->α->Bool):Nat->List α->Bool
 | _,[]=>true
 | i,x::l=>p i x && jz p (i+1) l
theorem Qa {α:Type} (p:Nat->α->Bool) (l:List α) (K:Option (Bool×Unit)) {G:(Int×Unit->Option (Bool×Unit))->Int×Unit->Option (Bool×Unit)} (hl:l.length<=1152921504606846976)
  (ag7:∀ rec,G rec ((l.length:Int),())=K)
  (ag5:∀ rec (i:Nat) x,l[i]?=some x->i<l.length->G rec ((i:Int),())=bif p i x then rec ((i:Int)+1,()) else some (false,())):
  iter G fuel (0,())=bif jz p 0 l then K else some (false,()):=by
 refine (walk l.length (λ i (_:Unit)=>(i,())) (λ _ _=>True) (λ i _=>bif jz p i (l.drop i) then K else some (false,())) hl ?_ ?_ (s0:=()) trivial).trans (by simp only[aq8])
 ·intro rec s _; rw[ag7,aql]; rfl
 ·intro rec i s hi _;rw[ag5 rec i l[i] (List.getElem?_eq_getElem hi) hi,List.drop_eq_getElem_cons hi];simp only[jz];cases p i l[i]
  ·left; rfl
  ·right; exact⟨(),trivial,rfl,rfl⟩
theorem Ay {S R:Type} (G:(S->Option R)->S->Option R) (x:S):∃ n,iter G fuel x=G (iter G n) x:=by
 obtain⟨n,hn⟩:∃ n,fuel=n+1:=⟨18446744073709551615,by rw[Zn]⟩
 rw[hn];exact⟨n,rfl⟩
def Yv (c:za):Int:=if zz c=true then (c.1 - 1) / 3 else 0
theorem aev (c:za):mJ (c,())=some (Yv c,()):=by
 unfold mJ Yv;simp only[JL,apL];by_cases h:zz c=true
 ·obtain⟨h1,h2⟩:=zR h;have e1:wr (c.1 - 1)=c.1 - 1:=zg (by omega) (by omega);have e2:Int.tdiv (c.1 - 1) 3=(c.1 - 1) / 3:=Int.tdiv_eq_ediv_of_nonneg (by omega);simp only[h,apT,apM,if_true,e1,e2];rw[zg (n:=(c.1 - 1) / 3) (by omega) (by omega)]
 ·have h':zz c=false:=by simpa using h
  simp[h']
theorem xL (c:za):M9 (c,())=some (Yv c,()):=by
 unfold M9 Yv;simp only[J3,apL];by_cases h:zz c=true
 ·obtain⟨h1,h2⟩:=zR h;have e1:wr (c.1 - 1)=c.1 - 1:=zg (by omega) (by omega);have e2:Int.tdiv (c.1 - 1) 3=(c.1 - 1) / 3:=Int.tdiv_eq_ediv_of_nonneg (by omega);simp only[h,apT,apM,if_true,e1,e2];rw[zg (n:=(c.1 - 1) / 3) (by omega) (by omega)]
 ·have h':zz c=false:=by simpa using h
  simp[h']
noncomputable def Lz (c:za) (i:Nat) (r:zb):Bool:=zf c r && r.1==(i:Int)
noncomputable def KW (c:za) (_:Nat) (x:qz):Bool:=(jY c x.2).2 && (decide (x.1≥0) && decide (x.1<=c.1 - 1))
def JJ (c:za) (_:Nat) (s:YS):Bool:=(decide (s.2.2≥0) && decide (s.2.2<=c.1 - 1)) && (zB s.2.1 && zl s.2.1==s.1)
noncomputable def jf (w:zp):Bool:=
 zz w.1 && (jK w.1.1 w.2.1 && (decide ((w.2.1.length:Int)<=Yv w.1) && (((w.2.2.1.length:Int)==w.1.1) && (decide ((w.2.2.2.1.length:Int)<=60) && (decide ((w.2.2.2.2.length:Int)<=300) &&
  (jz (Lz w.1) 0 w.2.2.1 && (jz (KW w.1) 0 w.2.2.2.1 && jz (JJ w.1) 0 w.2.2.2.2)))))))
def WB (N:Nat) (w:zp):Prop:=
 (w.2.1.length<=137438953472/\w.2.2.1.length<=137438953472/\w.2.2.2.1.length<=137438953472/\w.2.2.2.2.length<=137438953472)/\(∀ r∈w.2.2.1,ze r<=N)/\(∀ x∈w.2.2.2.1,x.2.length<=1073741824)/\(∀ s∈w.2.2.2.2,s.2.1.length<=N)
theorem WB.of {w:zp} {N:Nat} (h:yu w<=N) (hN:N<=1073741824):WB N w:=by
 simp only[yu,zq,JQ,Z9,JR] at h;refine⟨⟨by omega,by omega,by omega,by omega⟩,λ r hr => ?_,λ x hx => ?_,λ s hs => ?_⟩
 ·have:=ZK ze hr; omega
 ·have:=ZK Z8 hx; simp only[Z8,bl] at this; omega
 ·have:=ZK MP hs; simp only[MP] at this; omega
theorem KC (a b:Int):(a != b) = !(a==b):=rfl
theorem af7 (w:zp) (hb:WB 137438953472 w):aS (w,())=some (jf w,()):=by
 obtain⟨⟨l1,l2,l3,l4⟩,br,bx,bs⟩:=hb;unfold aS jf;simp only[JL,apL];cases hc:zz w.1
 ·rfl
 obtain⟨hc1,hc2⟩:=zR hc;have e1:wr (w.1.1 - 1)=w.1.1 - 1:=zg (by omega) (by omega);simp only[apT,apM,aq3,e1,uZ _ _ l1,aev,Y9,apL,L6 ((w.2.1.length:Nat):Int) _,L6 ((w.2.2.2.1.length:Nat):Int) 60,L6 ((w.2.2.2.2.length:Nat):Int) 300,KC ((w.2.2.1.length:Nat):Int) w.1.1];cases jK w.1.1 w.2.1
 ·rfl
 cases decide ((w.2.1.length:Int)<=Yv w.1)
 ·rfl
 cases ((w.2.2.1.length:Int)==w.1.1)
 ·rfl
 cases decide ((w.2.2.2.1.length:Int)<=60)
 ·rfl
 cases decide ((w.2.2.2.2.length:Int)<=300)
 ·rfl
 simp only[apT,apM,aq3];refine (Qa (Lz w.1) w.2.2.1 (bif jz (KW w.1) 0 w.2.2.2.1 then (bif jz (JJ w.1) 0 w.2.2.2.2 then some (true,()) else some (false,())) else some (false,())) (by omega) ?_ ?_).trans ?_
 ·intro rec;simp only[aq6,apU,apM];refine Qa (KW w.1) w.2.2.2.1 (bif jz (JJ w.1) 0 w.2.2.2.2 then some (true,()) else some (false,())) (by omega) ?_ ?_
  ·intro rec;simp only[aq6,apU,apM];refine Qa (JJ w.1) w.2.2.2.2 (some (true,())) (by omega) ?_ ?_
   ·intro rec; simp only[aq6,apU,apM]
   ·intro rec i s hx hi;have hs:=bs s (List.mem_of_getElem? hx);simp only[zr hi,apR,apN,apZ,if_true,apW,zm (e:=MR) hx,LF s.2.1 hs,KP s.2.1 hs,apL,zo (show i<4611686018427387904 by omega),JJ,KC];cases (decide (s.2.2≥0) && decide (s.2.2<=w.1.1 - 1))<;>cases zB s.2.1<;>cases (zl s.2.1==s.1)<;>rfl
  ·intro rec i x hx hi;have hs:=bx x (List.mem_of_getElem? hx);simp only[zr hi,apR,apN,apZ,if_true,apW,zm (e:=bw) hx,GH w.1 x.2 hs,apL,zo (show i<4611686018427387904 by omega),KW];cases (jY w.1 x.2).2<;>cases (decide (x.1≥0) && decide (x.1<=w.1.1 - 1))<;>rfl
 ·intro rec i r hx hi;have hs:=br r (List.mem_of_getElem? hx);simp only[zr hi,apR,apN,apZ,if_true,apW,zm (e:=YQ) hx,YN w.1 r hs,apL,zo (show i<4611686018427387904 by omega),Lz,KC];cases zf w.1 r<;>cases (r.1==(i:Int))<;>rfl
 ·cases jz (Lz w.1) 0 w.2.2.1<;>cases jz (KW w.1) 0 w.2.2.2.1<;>cases jz (JJ w.1) 0 w.2.2.2.2<;>rfl
theorem Qq (w:zp) (hb:WB 1073741824 w):ZR (w,())=some (jf w,()):=by
 obtain⟨⟨l1,l2,l3,l4⟩,br,bx,bs⟩:=hb;unfold ZR jf;simp only[J3,apL];cases hc:zz w.1
 ·rfl
 obtain⟨hc1,hc2⟩:=zR hc;have e1:wr (w.1.1 - 1)=w.1.1 - 1:=zg (by omega) (by omega);simp only[apT,apM,aq3,e1,pi _ _ l1,xL,ZT,apL,L6 ((w.2.1.length:Nat):Int) _,L6 ((w.2.2.2.1.length:Nat):Int) 60,L6 ((w.2.2.2.2.length:Nat):Int) 300,KC ((w.2.2.1.length:Nat):Int) w.1.1];cases jK w.1.1 w.2.1
 ·rfl
 cases decide ((w.2.1.length:Int)<=Yv w.1)
 ·rfl
 cases ((w.2.2.1.length:Int)==w.1.1)
 ·rfl
 cases decide ((w.2.2.2.1.length:Int)<=60)
 ·rfl
 cases decide ((w.2.2.2.2.length:Int)<=300)
 ·rfl
 simp only[apT,apM,aq3];refine (Qa (Lz w.1) w.2.2.1 (bif jz (KW w.1) 0 w.2.2.2.1 then (bif jz (JJ w.1) 0 w.2.2.2.2 then some (true,()) else some (false,())) else some (false,())) (by omega) ?_ ?_).trans ?_
 ·intro rec;simp only[aq6,apU,apM];refine Qa (KW w.1) w.2.2.2.1 (bif jz (JJ w.1) 0 w.2.2.2.2 then some (true,()) else some (false,())) (by omega) ?_ ?_
  ·intro rec;simp only[aq6,apU,apM];refine Qa (JJ w.1) w.2.2.2.2 (some (true,())) (by omega) ?_ ?_
   ·intro rec; simp only[aq6,apU,apM]
   ·intro rec i s hx hi;have hs:=bs s (List.mem_of_getElem? hx);simp only[zr hi,apR,apN,apZ,if_true,apW,zm (e:=MR) hx,La s.2.1 hs,Lg s.2.1 hs,apL,zo (show i<4611686018427387904 by omega),JJ,KC];cases (decide (s.2.2≥0) && decide (s.2.2<=w.1.1 - 1))<;>cases zB s.2.1<;>cases (zl s.2.1==s.1)<;>rfl
  ·intro rec i x hx hi;have hs:=bx x (List.mem_of_getElem? hx);simp only[zr hi,apR,apN,apZ,if_true,apW,zm (e:=bw) hx,xS w.1 x.2 hs,apL,zo (show i<4611686018427387904 by omega),KW];cases (jY w.1 x.2).2<;>cases (decide (x.1≥0) && decide (x.1<=w.1.1 - 1))<;>rfl
 ·intro rec i r hx hi;have hs:=br r (List.mem_of_getElem? hx);simp only[zr hi,apR,apN,apZ,if_true,apW,zm (e:=YQ) hx,ZP w.1 r hs,apL,zo (show i<4611686018427387904 by omega),Lz,KC];cases zf w.1 r<;>cases (r.1==(i:Int))<;>rfl
 ·cases jz (Lz w.1) 0 w.2.2.1<;>cases jz (KW w.1) 0 w.2.2.2.1<;>cases jz (JJ w.1) 0 w.2.2.2.2<;>rfl
theorem WB.mono {w:zp} {N M:Nat} (h:WB N w) (hm:N<=M):WB M w:=⟨h.1,λ r hr=>Nat.le_trans (h.2.1 r hr) hm,h.2.2.1,λ s hs=>Nat.le_trans (h.2.2.2 s hs) hm⟩
noncomputable def KD (c:za):Yc:=if zz c=true then (List.range c.1.toNat).map (λ (i:Nat)=>(YF c (i:Int)).1) else []
noncomputable def yS (c:za) (liars:yZ):zp:=(c,liars,KD c,[],[])
def afQ:zp:=((0,0),[],[],[],[])
noncomputable def Zr (c:za) (liars:yZ):zp×Bool:=bif jf (yS c liars) then (yS c liars,true) else (afQ,false)
theorem X9 (c:za):(KD c).length<=7:=by
 unfold KD;split
 ·next h=>have:=zR h; simp; omega
 ·simp
theorem aa0 (c:za):∀ r∈KD c,ze r=0:=by
 unfold KD;split
 ·intro r hr;obtain⟨i,_,rfl⟩:=List.mem_map.1 hr;exact aaB c i
 ·simp
theorem Bk (c:za) (liars:yZ) (h:liars.length<=137438953472):WB 1073741824 (yS c liars):=by
 have h1:=X9 c;refine⟨⟨h,by simp only[yS]; omega,by simp[yS],by simp[yS]⟩,λ r hr => ?_,λ x hx => ?_,λ s hs => ?_⟩
 ·have:=aa0 c r hr; omega
 ·simp[yS] at hx
 ·simp[yS] at hs
theorem Bm {c:za} (h:zz c=true) {n:Nat} (hn:c.1=(n:Int)) (liars:yZ):yS c liars=(c,liars,(List.range' 0 n).map (λ (i:Nat)=>(YF c (i:Int)).1),[],[]):=by
 unfold yS KD;rw[if_pos h,hn,apW,List.range_eq_range']
theorem u7 (c:za) (liars:yZ) (hl:liars.length<=137438953472):aR (c,liars,())=some ((Zr c liars).1,(Zr c liars).2,()):=by
 have hok:∀ w:zp,w=yS c liars->((aS (w,())).bind λ r4=>(bif (!r4.1) then some (((0,0),([],([],([],[])))),(false,())) else some (w,(true,()))))=some ((Zr c liars).1,(Zr c liars).2,()):=by
  rintro w rfl;rw[af7 _ ((Bk c liars hl).mono (by decide)),apL];unfold Zr;cases jf (yS c liars)<;>rfl
 unfold aR;dsimp only;rw[if_pos (by omega)];simp only[JL,apL,aqf];by_cases hc:zz c=true
 ·obtain⟨h1,h2⟩:=zR hc;obtain⟨n,hn⟩:∃ n:Nat,c.1=(n:Int):=⟨c.1.toNat,by omega⟩
  simp only[hc,apN,hn];refine (walk n (λ i (o:Yc)=>(i,(c,liars,o,[],[]),())) (λ i o=>o=(List.range' 0 i).map (λ (i:Nat)=>(YF c (i:Int)).1)) (λ i o=>some ((Zr c liars).1,(Zr c liars).2,())) (by omega) ?_ ?_ (s0:=[]) rfl)
  ·rintro rec o rfl;simp only[aq6,apU,apM];exact hok _ (Bm hc hn liars).symm
  ·rintro rec i o hi rfl;right;refine⟨_,rfl,?_,rfl⟩;simp only[show ((i:Int)<(n:Int)) by omega,apR,apN,aeN,apL,zo (show i<4611686018427387904 by omega),apQ,apS,aqu,List.length_range'];rw[if_pos (by omega)];congr 3;rw[List.range'_concat]; simp
 ·have hc':zz c=false:=by simpa using hc
  have e:yS c liars=(c,liars,[],[],[]):=by unfold yS KD; rw[if_neg hc]
  refine (Ay _ _).elim λ m hm=>hm.trans ?_;simp only[hc',apM];rw[hok _ e.symm];cases decide ((0:Int)<c.1)<;>rfl
theorem WE (c:za) (liars:yZ) (hl:liars.length<=137438953472):gG (c,liars,())=some ((Zr c liars).1,(Zr c liars).2,()):=by
 have hok:∀ w:zp,w=yS c liars->((ZR (w,())).bind λ r4=>(bif (!r4.1) then some (((0,0),([],([],([],[])))),(false,())) else some (w,(true,()))))=some ((Zr c liars).1,(Zr c liars).2,()):=by
  rintro w rfl;rw[Qq _ (Bk c liars hl),apL];unfold Zr;cases jf (yS c liars)<;>rfl
 unfold gG;dsimp only;rw[Nn liars hl,apL];simp only[J3,apL];by_cases hc:zz c=true
 ·obtain⟨h1,h2⟩:=zR hc;obtain⟨n,hn⟩:∃ n:Nat,c.1=(n:Int):=⟨c.1.toNat,by omega⟩
  simp only[hc,apN,hn];refine (walk n (λ i (o:Yc)=>(i,(c,liars,o,[],[]),())) (λ i o=>o=(List.range' 0 i).map (λ (i:Nat)=>(YF c (i:Int)).1)) (λ i o=>some ((Zr c liars).1,(Zr c liars).2,())) (by omega) ?_ ?_ (s0:=[]) rfl)
  ·rintro rec o rfl;simp only[aq6,apU,apM];exact hok _ (Bm hc hn liars).symm
  ·rintro rec i o hi rfl;right;refine⟨_,rfl,?_,rfl⟩;simp only[show ((i:Int)<(n:Int)) by omega,apR,apN,Wj,apL,zo (show i<4611686018427387904 by omega),apQ,apS,aqu,List.length_range'];rw[if_pos (by omega)];congr 3;rw[List.range'_concat]; simp
 ·have hc':zz c=false:=by simpa using hc
  have e:yS c liars=(c,liars,[],[],[]):=by unfold yS KD; rw[if_neg hc]
  refine (Ay _ _).elim λ m hm=>hm.trans ?_;simp only[hc',apM];rw[hok _ e.symm]
noncomputable def QV (s:zD):Int:=min (max (max s.1 (wr (s.2.2.1.1+1))) 1) 60
noncomputable def rise (c:za) (r:zb):zb:=
 bif zf c r then
  let n:=YX c r.2.2.2.2.2.2.1.1
  (r.1,QV n.1,0,n.1,[],[],(r.2.2.2.2.2.2.1.1.take n.2.toNat,n.2),[])
 else r
theorem Xh (a b:Int):yl (a,b,())=some (min a b,()):=by
 rw[pC]; congr 2; split<;>omega
theorem aeO (c:za) (r:zb) (hw:ze r<=1073741824):dP (c,r,())=some (rise c r,()):=by
 have h1:=bo hw;obtain⟨b1,b2,b3⟩:=pR c r.2.2.2.2.2.2.1.1;unfold dP rise;simp only[YN c r (by omega),Z5 r (by omega),aeA c _ h1,be,Xh,apL];cases zf c r
 ·rfl
 ·simp only[apT,apM,apN];rw[if_pos (by omega),if_pos (by simp only[aq4,aqa]; omega)]
  simp only[aqP,aq8,aqU,aqf,QV];congr 4;omega
theorem Wk (c:za) (r:zb) (hw:ze r<=1073741824):gh (c,r,())=some (rise c r,()):=by
 have h1:=bo hw;obtain⟨b1,b2,b3⟩:=pR c r.2.2.2.2.2.2.1.1;unfold gh rise;simp only[ZP c r (by omega),ZS r (by omega),V4 c _ h1,apL];cases zf c r
 ·rfl
 ·simp only[apT,apM,apN];rw[if_pos (by omega),if_pos (by simp only[aq4,aqa]; omega)]
  simp only[aqP,aq8,aqU,QV,cD,Mj];congr 4;repeat' split
  all_goals omega
theorem oE {α:Type} {ok:α->Bool} {lt:α->α->Bool} (htr:∀ a b c,lt a b=true->lt b c=true->lt a c=true):
  ∀ (l:List α) (p:α),yB ok lt (some p) l=true->∀ y∈l,lt p y=true
 | [],p,_,y,hy=>by cases hy
 | x::l,p,h,y,hy=>by
  simp only[yB,apO] at h;rcases List.mem_cons.1 hy with rfl|hy
  ·exact h.2.1
  ·exact htr _ _ _ h.2.1 (oE htr l x h.2.2 y hy)
theorem wB {α:Type} {ok:α->Bool} {lt:α->α->Bool} (htr:∀ a b c,lt a b=true->lt b c=true->lt a c=true):
  ∀ (l1:List α) (x:α) (l2:List α) (p:Option α),yB ok lt p (l1++x::l2)=true->(∀ y∈l1,lt y x=true)/\(∀ y∈l2,lt x y=true)
 | [],x,l2,p,h=>by
  simp only[aqf,yB,apO] at h;exact⟨by simp,oE htr l2 x h.2.2⟩
 | a::l1,x,l2,p,h=>by
  simp only[aqV,yB,apO] at h;obtain⟨g1,g2⟩:=wB htr l1 x l2 (some a) h.2.2;refine⟨?_,g2⟩;intro y hy;rcases List.mem_cons.1 hy with rfl|hy
  ·exact oE htr _ _ h.2.2 x (by simp)
  ·exact g1 y hy
def yh {α:Type} (q:α->Bool):Nat->List α->Nat
 | i,[]=>i
 | i,x::l=>bif q x then i else yh q (i+1) l
theorem oX {α:Type} {q:α->Bool}:∀ (l1 l2:List α) (i:Nat),(∀ y∈l1,q y=false)->(∀ y∈l2,q y=true)->yh q i (l1++l2)=i+l1.length
 | [],[],i,_,_=>rfl
 | [],x::l2,i,_,h2=>by simp[yh,h2 x (by simp)]
 | x::l1,l2,i,h1,h2=>by
  simp only[List.cons_append,yh,h1 x (by simp),cond_false,oX l1 l2 (i+1) (λ y hy=>h1 y (by simp[hy])) h2,List.length_cons];omega
theorem qU {α:Type} (q:α->Bool):∀ (l:List α) (i:Nat),i<=yh q i l/\yh q i l<=i+l.length
 | [],i=>by simp[yh]
 | x::l,i=>by
  have:=qU q l (i+1);simp only[yh,apQ];cases q x<;>simp only[apN,apM]<;>omega
theorem aas {α:Type} {ok:α->Bool} {lt:α->α->Bool} (htr:∀ a b c,lt a b=true->lt b c=true->lt a c=true) (has:∀ a b,lt a b=true->lt b a=false)
  (l:List α) (x:α) (k:Nat) (hk:k<=l.length) (h:yB ok lt none (l.take k++x::l.drop k)=true):
  yh (λ y => !lt y x) 0 l=k/\yh (λ y=>lt x y) 0 l=k:=by
 obtain⟨g1,g2⟩:=wB htr _ _ _ _ h;have e:l=l.take k++l.drop k:=(List.take_append_drop k l).symm;have hl:(l.take k).length=k:=by rw[aq4]; omega
 constructor
 ·have:=oX (q:=λ y => !lt y x) (l.take k) (l.drop k) 0 (λ y hy=>by simp[g1 y hy]) (λ y hy=>by simp[has _ _ (g2 y hy)]);rw[←e,hl] at this;omega
 ·have:=oX (q:=λ y=>lt x y) (l.take k) (l.drop k) 0 (λ y hy=>has _ _ (g1 y hy)) (λ y hy=>g2 y hy);rw[←e,hl] at this;omega
theorem T8 (a b c:zI) (h1:yd a b=true) (h2:yd b c=true):yd a c=true:=by
 unfold yd at *;simp only[aqE,apO,apY,aqi] at *;omega
theorem T7 (a b:zI) (h:yd a b=true):yd b a=false:=by
 cases hb:yd b a
 ·rfl
 ·unfold yd at *;simp only[aqE,apO,apY,aqi] at *;omega
def Y1 (p:zw) (x:zI) (k:Nat):zw×Bool:=bif jn (p.take k++x::p.drop k) then (p.take k++x::p.drop k,true) else (p,false)
def Yj (p:zw) (x:zI):zw×Bool:=Y1 p x (yh (λ y => !yd y x) 0 p)
theorem aal (p:zw) (x:zI):Y1 p x (yh (λ y=>yd x y) 0 p)=Yj p x:=by
 have h1:=(qU (λ y => !yd y x) p 0).2;have h2:=(qU (λ y=>yd x y) p 0).2;unfold Yj;have key:∀ k,k<=p.length->jn (p.take k++x::p.drop k)=true->yh (λ y => !yd y x) 0 p=k/\yh (λ y=>yd x y) 0 p=k:=by
  intro k hk h;unfold jn at h;rw[apO] at h;exact aas T8 T7 p x k hk h.1
 generalize ha:yh (λ y=>yd x y) 0 p=a at *;generalize hb:yh (λ y => !yd y x) 0 p=b at *;cases h:jn (p.take a++x::p.drop a)
 ·cases h':jn (p.take b++x::p.drop b)
  ·simp[Y1,h,h']
  ·have:=key b (by omega) h';rw[←this.2]
 ·have:=key a (by omega) h;rw[←this.1]
theorem aeJ (p:zw) (x:zI) (hp:p.length<=137438953471):mU (p,x,())=some ((Yj p x).1,(Yj p x).2,()):=by
 unfold mU Yj;dsimp only;have agD:∀ k:Nat,k<=p.length->(if (((0:Int)<=0)/\((0<=(k:Int))/\((k:Int)<=(p.length:Int)))) then (if (((0+(List.length (List.take ((Int.toNat (k:Int)) - (Int.toNat 0)) (List.drop (Int.toNat 0) p))))*32)<=70368744177664) then
   (if ((((List.length ([]++(List.take ((Int.toNat (k:Int)) - (Int.toNat 0)) (List.drop (Int.toNat 0) p))))+(List.length (x::[])))*32)<=70368744177664) then (if ((0<=(k:Int))/\(((k:Int)<=(p.length:Int))/\((p.length:Int)<=(p.length:Int)))) then
   (if ((((List.length (([]++(List.take ((Int.toNat (k:Int)) - (Int.toNat 0)) (List.drop (Int.toNat 0) p)))++(x::[])))+(List.length (List.take ((Int.toNat (p.length:Int)) - (Int.toNat (k:Int))) (List.drop (Int.toNat (k:Int)) p))))*32)<=70368744177664) then
   ((N3 (((([]++(List.take ((Int.toNat (k:Int)) - (Int.toNat 0)) (List.drop (Int.toNat 0) p)))++(x::[]))++(List.take ((Int.toNat (p.length:Int)) - (Int.toNat (k:Int))) (List.drop (Int.toNat (k:Int)) p))),())).bind λ r2=>(bif (!r2.1) then (if (((0+(List.length p))*32)<=70368744177664) then some (([]++p),(false,())) else none) else
   some (((([]++(List.take ((Int.toNat (k:Int)) - (Int.toNat 0)) (List.drop (Int.toNat 0) p)))++(x::[]))++(List.take ((Int.toNat (p.length:Int)) - (Int.toNat (k:Int))) (List.drop (Int.toNat (k:Int)) p))),(true,())))) else none) else none) else none) else none) else none)=some ((Y1 p x k).1,(Y1 p x k).2,()):=by
  intro k hk;simp only[apW,aqP,aqU,aq8,aqf];have e:List.take (p.length - k) (p.drop k)=p.drop k:=List.take_of_length_le (by simp);rw[e];simp only[aq4,apX,apQ,apS,aqa];rw[if_pos (by omega),if_pos (by omega),if_pos (by omega),if_pos (by omega),if_pos (by omega),if_pos (by omega)];rw[GK _ (by simp only[apX,aq4,apQ,apS,aqa]; omega),Option.bind_some]
  unfold Y1;rw[show p.take k++[x]++p.drop k=p.take k++x::p.drop k by simp];cases jn (p.take k++x::p.drop k)<;>rfl
 refine (walk p.length (λ i (_:Unit)=>(i,())) (λ _ _=>True) (λ i _=>some ((Y1 p x (yh (λ y => !yd y x) i (p.drop i))).1,(Y1 p x (yh (λ y => !yd y x) i (p.drop i))).2,())) (by omega) ?_ ?_ (s0:=()) trivial).trans (by simp only[aq8])
 ·intro rec s _;rw[aql];simp only[aq6,apU,apM,yh];exact agD p.length (Nat.le_refl _)
 ·intro rec i s hi _;have hx:p[i]?=some p[i]:=List.getElem?_eq_getElem hi;rw[aq7 hi];simp only[(zr hi).2,apR,apN];rw[if_pos (show (0:Int)<=(i:Int)/\True from⟨by omega,trivial⟩)];simp only[apW,zm (e:=jO) hx,GZ,apL,zo (show i<4611686018427387904 by omega),yh];cases hb:yd p[i] x
  ·left;have:=agD i (by omega);simp only[apW] at this;simp only[apM,aq9,apN];exact this
  ·right;exact⟨(),trivial,by simp only[apN],by simp only[apT,apM]⟩
theorem V2 (p:zw) (x:zI) (hp:p.length<=137438953471):mz (p,x,())=some ((if yh (λ y=>yd x y) 0 p<p.length then ((yh (λ y=>yd x y) 0 p:Nat):Int) else -1),()):=by
 unfold mz;refine (walk p.length (λ i (_:Unit)=>(i,())) (λ _ _=>True) (λ i _=>some ((if yh (λ y=>yd x y) i (p.drop i)<p.length then ((yh (λ y=>yd x y) i (p.drop i):Nat):Int) else -1),())) (by omega) ?_ ?_ (s0:=()) trivial).trans (by simp only[aq8])
 ·intro rec s _;rw[aql];simp only[aq6,apU,apM,yh,Nat.lt_irrefl,if_false]
 ·intro rec i s hi _;have hx:p[i]?=some p[i]:=List.getElem?_eq_getElem hi;rw[aq7 hi];unfold pa;simp only[zr hi,apR,apN,apZ,if_true,apW,zm (e:=jO) hx,Ad,apL,zo (show i<4611686018427387904 by omega),yh];by_cases hb:yd x p[i]=true
  ·left;simp only[hb,apN,hi,if_true]
  ·right;have hb':yd x p[i]=false:=by simpa using hb
   exact⟨(),trivial,by simp only[hb',apM],by simp only[hb',apM]⟩
theorem WZ (p:zw) (x:zI) (k:Nat) (hk:k<=p.length) (hp:p.length<=137438953471):au (p,(k:Int),[x],())=some (p.take k++x::p.drop k,()):=by
 unfold au Qu;dsimp only;simp only[apQ,apS];rw[if_pos (by omega),apW];simp
theorem Wf (p:zw) (x:zI) (hp:p.length<=137438953471):gc (p,x,())=some ((Yj p x).1,(Yj p x).2,()):=by
 rw[←aal];have hle:=(qU (λ y=>yd x y) p 0).2;unfold gc;rw[V2 p x hp,apL];generalize yh (λ y=>yd x y) 0 p=k at *;have agD:∀ k:Nat,k<=p.length->((KA (p,())).bind λ r5=>((au (r5.1,((k:Int),((x::[]),())))).bind λ r6=>((Nd (r6.1,())).bind λ r7=>(bif (!r7.1) then ((KA (p,())).bind λ r8=>some (r8.1,(false,()))) else some (r6.1,(true,()))))))=some ((Y1 p x k).1,(Y1 p x k).2,()):=by
  intro k hk;rw[Ai p (by simp only[Ko]; omega),Option.bind_some,WZ p x k hk hp,Option.bind_some,xV _ (by simp only[apX,aq4,apQ,aqa]; omega),Option.bind_some]
  unfold Y1;cases jn (p.take k++x::p.drop k)<;>rfl
 by_cases hlt:k<p.length
 ·rw[if_pos hlt];have:decide (((k:Nat):Int)<0)=false:=by simp
  dsimp only;rw[this,apM];exact agD k (by omega)
 ·rw[if_neg hlt];have e:k=p.length:=by omega
  subst e;have:decide ((-1:Int)<0)=true:=rfl;dsimp only;rw[this,apN];exact agD p.length (Nat.le_refl _)
noncomputable def J1 (c:za) (r:zb) (x:zI):zb×Bool:=
 bif zf c r then ((r.1,r.2.1,r.2.2.1,r.2.2.2.1,(Yj r.2.2.2.2.1 x).1,r.2.2.2.2.2),(Yj r.2.2.2.2.1 x).2) else (r,false)
theorem aaj {p:zw} {x:zI} (h:(Yj p x).2=false):(Yj p x).1=p:=by
 unfold Yj Y1 at *;generalize yh (λ y => !yd y x) 0 p=k at *;cases hk:jn (p.take k++x::p.drop k)
 ·rfl
 ·rw[hk] at h; cases h
theorem nV {r:zb} {N:Nat} (h:ze r<=N):r.2.2.2.2.1.length<=N:=by simp only[ze,Ko] at h; omega
theorem aey (c:za) (r:zb) (x:zI) (hw:ze r<=137438953471):mM (c,r,x,())=some ((J1 c r x).1,(J1 c r x).2,()):=by
 have h1:=nV hw;unfold mM J1;simp only[Z5 r (by omega),YN c r (by omega),aeJ r.2.2.2.2.1 x h1,apL];cases zf c r
 ·rfl
 ·cases hp:(Yj r.2.2.2.2.1 x).2
  ·rw[aaj hp]; rfl
  ·rfl
theorem VZ (c:za) (r:zb) (x:zI) (hw:ze r<=1073741824):fT (c,r,x,())=some ((J1 c r x).1,(J1 c r x).2,()):=by
 have h1:=nV hw;unfold fT J1;simp only[ZS r (by omega),ZP c r hw,Wf r.2.2.2.2.1 x (by omega),apL];cases zf c r<;>rfl
end G448
