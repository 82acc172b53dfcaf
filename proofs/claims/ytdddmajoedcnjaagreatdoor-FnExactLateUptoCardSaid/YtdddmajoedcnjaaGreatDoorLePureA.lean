/- Plain laws, part 1: what the functions compute. No program in sight. -/
import Derived.Test.YtdddmajoedcnjaaGreatDoorLeFns
import Derived.Lib.IndexBytes
import Derived.Lib.IndexLaws
import Derived.Lib.SplitLaws
import Derived.Lib.ItoaNum
import Derived.Lib.LastIndexByte
set_option linter.unusedSimpArgs false
set_option linter.unusedVariables false
namespace G448
open Ev
theorem iter_eq {S R:Type} {G:(S→Option R)→S→Option R} (f:S→Option R) (μ:S→Nat) (I:S→Prop)
  (h : ∀ (rec:S→Option R) (x:S),I x→(∀ y,I y→μ y<μ x→rec y=f y)→G rec x=f x) : ∀ (n:Nat) (x:S),I x→μ x<n→iter G n x=f x
 | 0,x,_,hn=>by omega
 | n+1,x,hx,hn=>h (iter G n) x hx fun y hy hlt=>iter_eq f μ I h n y hy (by omega)
def foldK {α S R:Type} (body:α→S→(S→Option R)→Option R) (k:S→Option R):List α→S→Option R
 | [],s=>k s
 | x::xs,s=>body x s (foldK body k xs)
theorem foldK_cons {α S R:Type} (body:α→S→(S→Option R)→Option R) (k:S→Option R) (x:α) (xs:List α) (s:S):foldK body k (x::xs) s=body x s (foldK body k xs):=rfl
theorem iter_for {X S R:Type} (len:Nat) {G:(X→Option R)→X→Option R} (mk:Int→S→X) (f:Nat→S→Option R) (hlen:len≤1152921504606846976)
  (hend : ∀ rec s,G rec (mk (len:Int) s)=f len s)
  (hstep : ∀ rec (i:Nat) s,i<len→(∀ s',rec (mk ((i:Int)+1) s')=f (i+1) s')→G rec (mk (i:Int) s)=f i s) :
  ∀ n i s,i≤len→len - i<n→iter G n (mk (i:Int) s)=f i s
 | 0,i,s,_,hn=>by omega
 | n+1,i,s,hi,hn=>by
  rcases Nat.lt_or_ge i len with h|h
  ·exact hstep (iter G n) i s h fun s'=>iter_for len mk f hlen hend hstep n (i+1) s' (by omega) (by omega)
  ·have:i=len:=by omega
   subst this
   exact hend (iter G n) s
theorem fuel_gt {n:Nat} (h:n≤1152921504606846976):n<fuel:=by rw[fuel_def]; omega
theorem forK {α X S R:Type} (l:List α) {G:(X→Option R)→X→Option R} (body:α→S→(S→Option R)→Option R) (k:S→Option R) (mk:Int→S→X) (hl:l.length≤1152921504606846976)
  (hend : ∀ rec s,G rec (mk (l.length:Int) s)=k s)
  (hstep : ∀ rec (i:Nat) s (x:α),l[i]?=some x→i<l.length→G rec (mk (i:Int) s)=body x s (fun s'=>rec (mk ((i:Int)+1) s')))
  (hcong : ∀ x s (r1 r2:S→Option R),(∀ s',r1 s'=r2 s')→body x s r1=body x s r2) (s:S):iter G fuel (mk 0 s)=foldK body k l s:=by
 have:=iter_for l.length mk (fun i s=>foldK body k (l.drop i) s) hl (fun rec s=>by simpa[foldK] using hend rec s) (fun rec i s hi hrec=>by
  rw[hstep rec i s l[i] (List.getElem?_eq_getElem hi) hi,List.drop_eq_getElem_cons hi]
  exact hcong _ _ _ _ hrec) fuel 0 s (Nat.zero_le _) (by simpa using fuel_gt hl)
 simpa using this
theorem fuel_gt2 {n:Nat} (h:n≤4611686018427387904):n<fuel:=by rw[fuel_def]; omega
theorem wr_id' {n:Int} (h1 : -9223372036854775808≤n) (h2:n≤9223372036854775807):wr n=n:=by rw[wr_def]; omega
theorem wr_nat {i:Nat} (h:i<4611686018427387904):wr ((i:Int)+1)=(i:Int)+1:=wr_id' (by omega) (by omega)
theorem rd_get {e:Ty} {l:List (den e)} {i:Nat} {x:den e} (h:l[i]?=some x):rd e l i=x:=by
 simp[rd,List.getD_eq_getElem?_getD,h]
theorem ge_ok {α:Type} {l:List α} {i:Nat} (h:i<l.length):(0:Int)≤(i:Int)∧(i:Int)<(l.length:Int):=by omega
theorem fill_step {α β:Type} {l:List α} {out:List β} {i:Nat} (y:β) (g:α→β) (h:i<l.length) (ho:out.length=l.length) (hy:y=g l[i]) :
  (out.set i y).take (i+1)++(l.drop (i+1)).map g=out.take i++(l.drop i).map g:=by
 have hi:i<out.length:=by omega
 rw[List.drop_eq_getElem_cons h,List.map_cons,←hy,List.take_add_one,List.take_set_of_le (Nat.le_refl i),List.getElem?_set_self hi]
 simp
theorem fill_loop {α β R:Type} (l:List α) (g:α→β) {G:(Int×List β×Unit→Option R)→Int×List β×Unit→Option R} (k:List β→Option R) (hl:l.length≤1152921504606846976)
  (hend : ∀ rec out,out.length=l.length→G rec ((l.length:Int),out,())=k out)
  (hstep : ∀ rec (i:Nat) out x,l[i]?=some x→i<l.length→out.length=l.length→G rec ((i:Int),out,())=rec ((i:Int)+1,out.set i (g x),())) (out:List β) (ho:out.length=l.length) :
  iter G fuel (0,out,())=k (l.map g):=by
 have key : ∀ n i (out:List β),i≤l.length→out.length=l.length→l.length - i<n→iter G n ((i:Int),out,())=k (out.take i++(l.drop i).map g):=by
  intro n
  induction n with
  | zero=>intro i out h1 h2 h3; omega
  | succ n ih=>
   intro i out hi ho hn
   rcases Nat.lt_or_ge i l.length with h|h
   ·have e1:iter G (n+1) ((i:Int),out,())=iter G n ((i:Int)+1,out.set i (g l[i]),()):=hstep (iter G n) i out l[i] (List.getElem?_eq_getElem h) h ho
    have e2:=ih (i+1) (out.set i (g l[i])) h (by simpa using ho) (by omega)
    rw[fill_step (g l[i]) g h ho rfl] at e2
    rw[e1]
    exact e2
   ·have hi':i=l.length:=by omega
    subst hi'
    have e1:iter G (n+1) ((l.length:Int),out,())=k out:=hend (iter G n) out ho
    rw[e1,List.take_of_length_le (by omega),List.drop_of_length_le (Nat.le_refl _)]
    simp
 have:=key fuel 0 out (Nat.zero_le _) ho (by simpa using fuel_gt hl)
 simpa using this
theorem foldK_any {α:Type} (p:α→Bool) (l:List α):foldK (S:=Unit) (fun x s rec=>bif p x then some (true,()) else rec s) (fun _=>some (false,())) l ()=some (l.any p,()):=by
 induction l with
 | nil=>rfl
 | cons x xs ih=>rw[foldK_cons,ih]; cases h:p x<;>simp[h]
theorem foldK_all {α:Type} (p:α→Bool) (l:List α):foldK (S:=Unit) (fun x s rec=>bif p x then rec s else some (false,())) (fun _=>some (true,())) l ()=some (l.all p,()):=by
 induction l with
 | nil=>rfl
 | cons x xs ih=>rw[foldK_cons,ih]; cases h:p x<;>simp[h]
def sub (left:Int) (w:Nat):Int:=if left<(w:Int) then -1 else left - w
theorem sub_zero {left:Int} (h:0≤left):sub left 0=left:=by unfold sub; rw[if_neg (by simpa using h)]; simp
theorem sub_nonneg {left:Int} {w:Nat} (h : ¬ sub left w<0):(w:Int)≤left∧sub left w=left - w:=by
 unfold sub at *
 split at h
 ·omega
 ·next hh=>exact⟨by omega,by rw[if_neg hh]⟩
theorem sub_neg {left:Int} {w:Nat} (h:sub left w<0):sub left w = -1∧left<w:=by
 unfold sub at *
 split at h
 ·next hh=>exact⟨by rw[if_pos hh],hh⟩
 ·next hh=>omega
theorem sub_add {left:Int} {a b:Nat} (h : ¬ sub left a<0):sub (sub left a) b=sub left (a+b):=by
 obtain⟨h1,h2⟩:=sub_nonneg h
 rw[h2]
 unfold sub
 split<;>split<;>first|rfl|omega
theorem sub_more {left:Int} {a b:Nat} (h:sub left a<0):sub left (a+b) = -1:=by
 obtain⟨_,h2⟩:=sub_neg h
 unfold sub
 rw[if_pos (by omega)]
theorem wr_sub {left:Int} {n:Nat} (h1:0≤left) (h2:left≤1048576) (h3:n≤140737488355328):wr (left - (n:Int))=left - n:=wr_id' (by omega) (by omega)
theorem sz_first {left:Int} {n:Nat} (h1:0≤left) (h2:left≤1048576) (h3:n≤140737488355328) {R:Type} (k:Option R) (f:Int→Option R) :
  (bif decide (wr (left - (n:Int))<0) then k else f (wr (left - (n:Int))))=if sub left n<0 then k else f (sub left n):=by
 rw[wr_sub h1 h2 h3]
 unfold sub
 by_cases h:left - (n:Int)<0
 ·have h':left<n:=by omega
  simp[h,h']
 ·have h' : ¬ left<n:=by omega
  simp[h,h']
theorem sz_one {left:Int} {n:Nat} (h1:0≤left) (h2:left≤1048576) (h3:n≤140737488355328) :
  (bif decide (wr (left - (n:Int))<0) then some ((-1:Int),()) else some (wr (left - (n:Int)),()))=some (sub left n,()):=by
 rw[sz_first h1 h2 h3 (some ((-1:Int),())) (fun z=>some (z,()))]
 split
 ·next h=>rw[(sub_neg h).1]
 ·rfl
theorem sub_le {left:Int} {w:Nat} (h:left≤1048576):sub left w≤1048576:=by unfold sub; split<;>omega
theorem sz_next {left:Int} {a b:Nat} {f:Int→Option (Int×Unit)} (h0:0≤left) (h1:left≤1048576) (hf : ∀ z,0≤z→z≤1048576→f z=some (sub z b,())) :
  (bif decide (sub left a<0) then some ((-1:Int),()) else f (sub left a))=some (sub left (a+b),()):=by
 by_cases h:sub left a<0
 ·simp only[h,decide_true,cond_true]
  rw[sub_more h]
 ·simp only[h,decide_false,cond_false]
  rw[hf _ (by omega) (sub_le h1),sub_add h]
theorem sz_end {left:Int} {a:Nat}:(bif decide (sub left a<0) then some ((-1:Int),()) else some (sub left a,()))=some (sub left a,()):=by
 by_cases h:sub left a<0
 ·simp only[h,decide_true,cond_true]; rw[(sub_neg h).1]
 ·simp only[h,decide_false,cond_false]
theorem sz_loop {α:Type} (w:α→Nat) (f:α→Int→Option (Int×Unit)) : ∀ (l:List α) (left:Int),0≤left→left≤1048576→(∀ x∈l,∀ z,0≤z→z≤1048576→f x z=some (sub z (w x),())) →
  foldK (fun x s rec=>(f x s).bind fun r=>bif decide (r.1<0) then some ((-1:Int),()) else rec r.1) (fun s=>some (s,())) l left=some (sub left ((l.map w).sum),())
 | [],left,h0,h1,hf=>by simp[foldK,sub_zero h0]
 | x::xs,left,h0,h1,hf=>by
  rw[foldK_cons,hf x (by simp) left h0 h1]
  simp only[Option.bind_some,List.map_cons,List.sum_cons]
  exact sz_next h0 h1 fun z hz0 hz1=>sz_loop w f xs z hz0 hz1 fun y hy=>hf y (by simp[hy])
end G448
namespace G448
open Ev
def Ens {α:Type} (o:Option α) (P:α→Prop):Prop := ∃ y,o=some y∧P y
theorem Ens.bind {α β:Type} {x:Option α} {f:α→Option β} {P:α→Prop} {Q:β→Prop} (h:Ens x P) (hf : ∀ y,P y→Ens (f y) Q):Ens (x.bind f) Q:=by
 obtain⟨y,rfl,hy⟩:=h
 exact hf y hy
theorem Ens.some {α:Type} {x:α} {P:α→Prop} (h:P x):Ens (some x) P:=⟨x,rfl,h⟩
theorem Ens.cond {α:Type} {c:Bool} {a b:Option α} {P:α→Prop} (ha:c=true→Ens a P) (hb:c=false→Ens b P):Ens (bif c then a else b) P:=by
 cases c with
 | true=>exact ha rfl
 | false=>exact hb rfl
theorem Ens.ite {α:Type} {c:Prop} [Decidable c] {a b:Option α} {P:α→Prop} (hc:c) (ha:Ens a P):Ens (if c then a else b) P:=by
 rw[if_pos hc]; exact ha
theorem Ens.loop {S R:Type} {G:(S→Option R)→S→Option R} (I:S→Prop) (μ:S→Nat) {P:R→Prop}
  (h : ∀ (rec:S→Option R) (x:S),I x→(∀ y,I y→μ y<μ x→Ens (rec y) P)→Ens (G rec x) P) {x:S} (hx:I x) (hm:μ x<fuel):Ens (iter G fuel x) P:=by
 have key : ∀ (n:Nat) (x:S),I x→μ x<n→Ens (iter G n x) P:=by
  intro n
  induction n with
  | zero=>intro x _ hn; omega
  | succ n ih=>intro x hx hn; exact h (iter G n) x hx fun y hy hlt=>ih y hy (by omega)
 exact key fuel x hx hm
def mapA {α β:Type} (f:α→β→α×β):List α→β→List α×β
 | [],k=>([],k)
 | x::r,k=>let y:=f x k; let z:=mapA f r y.2; (y.1::z.1,z.2)
theorem mapA_len {α β:Type} (f:α→β→α×β) : ∀ (l:List α) (k:β),(mapA f l k).1.length=l.length
 | [],k=>rfl
 | x::r,k=>by simp[mapA,mapA_len f r]
theorem set_at {α:Type} {pre:List α} {x y:α} {r:List α}:(pre++x::r).set pre.length y=pre++y::r:=by
 rw[List.set_append_right _ _ (Nat.le_refl _)]; simp
theorem get_at {α:Type} {pre:List α} {x:α} {r:List α}:(pre++x::r)[pre.length]?=some x:=by simp
theorem rd_at {e:Ty} {pre:List (den e)} {x:den e} {r:List (den e)}:rd e (pre++x::r) pre.length=x:=rd_get get_at
theorem modi_at {e:Ty} {pre:List (den e)} {x:den e} {r:List (den e)} {g:den e→den e}:modi e (pre++x::r) pre.length g=pre++g x::r:=by
 unfold modi; rw[rd_at,set_at]
def big:Nat:=140737488355328
theorem eq_loop {α R:Type} (l:List α) {G:(Int×Unit→Option R)→Int×Unit→Option R} (b:R) (hl:l.length≤1152921504606846976)
  (hend : ∀ rec s,G rec ((l.length:Int),s)=some b)
  (hstep : ∀ rec (i:Nat) s x,l[i]?=some x→i<l.length→G rec ((i:Int),s)=rec ((i:Int)+1,s)):iter G fuel (0,())=some b:=by
 refine (forK l (fun x s rec=>rec s) (fun s=>some b) (fun i s=>(i,s)) hl hend hstep (fun x s r1 r2 hr=>hr s) ()).trans ?_
 clear hend hstep hl
 induction l with
 | nil=>rfl
 | cons x xs ih=>rw[foldK_cons,ih]
theorem index_loop {α:Type} (p:α→Bool) (l:List α) {G:(Int×Unit→Option (Int×Unit))→Int×Unit→Option (Int×Unit)} (hl:l.length≤1152921504606846976)
  (hend : ∀ rec s,G rec ((l.length:Int),s)=some (-1,()))
  (hstep : ∀ rec (i:Nat) s x,l[i]?=some x→i<l.length→G rec ((i:Int),s)=bif p x then some ((i:Int),()) else rec ((i:Int)+1,s)) :
  ∃ r:Int,iter G fuel (0,())=some (r,())∧decide (r≥0)=l.any p:=by
 have key : ∀ n i,i≤l.length→l.length - i<n → ∃ r:Int,iter G n ((i:Int),())=some (r,())∧decide (r≥0)=(l.drop i).any p:=by
  intro n
  induction n with
  | zero=>intro i h1 h2; omega
  | succ n ih=>
   intro i hi hn
   rcases Nat.lt_or_ge i l.length with h|h
   ·have e1:iter G (n+1) ((i:Int),())=bif p l[i] then some ((i:Int),()) else iter G n ((i:Int)+1,()):=hstep (iter G n) i () l[i] (List.getElem?_eq_getElem h) h
    rw[List.drop_eq_getElem_cons h,List.any_cons,e1]
    cases hp:p l[i] with
    | true=>exact⟨i,rfl,by simp⟩
    | false=>
     obtain⟨r,h1,h2⟩:=ih (i+1) h (by omega)
     exact⟨r,h1,by simpa using h2⟩
   ·have hi':i=l.length:=by omega
    subst hi'
    exact⟨-1,hend (iter G n) (),by simp⟩
 simpa using key fuel 0 (Nat.zero_le _) (by simpa using fuel_gt hl)
theorem index_bind {α:Type} (p:α→Bool) (l:List α) {G:(Int×Unit→Option (Int×Unit))→Int×Unit→Option (Int×Unit)} (hl:l.length≤1152921504606846976)
  (hend : ∀ rec s,G rec ((l.length:Int),s)=some (-1,()))
  (hstep : ∀ rec (i:Nat) s x,l[i]?=some x→i<l.length→G rec ((i:Int),s)=bif p x then some ((i:Int),()) else rec ((i:Int)+1,s)) :
  ((iter G fuel (0,())).bind fun r=>some (decide (r.1≥0),()))=some (l.any p,()):=by
 obtain⟨r,h1,h2⟩:=index_loop p l hl hend hstep
 rw[h1,Option.bind_some,←h2]
theorem cmp_loop {R:Type} (l m:List Int) {G:(Int×Unit→Option R)→Int×Unit→Option R} (yes no:R) (hl:l.length≤1152921504606846976)
  (hend : ∀ rec (i:Nat) s,i≤l.length→i≤m.length→(i=l.length∨i=m.length)→G rec ((i:Int),s)=some (if l.length=m.length then yes else no))
  (hstep : ∀ rec (i:Nat) s x y,l[i]?=some x→m[i]?=some y→i<l.length→i<m.length→G rec ((i:Int),s)=bif x != y then some no else rec ((i:Int)+1,s)) :
  iter G fuel (0,())=some (if l=m then yes else no):=by
 have key : ∀ n i,i≤l.length→i≤m.length→l.length - i<n→iter G n ((i:Int),())=some (if l.drop i=m.drop i then yes else no):=by
  intro n
  induction n with
  | zero=>intro i h1 h2 h3; omega
  | succ n ih=>
   intro i hi hi2 hn
   by_cases he:i=l.length∨i=m.length
   ·have e1:iter G (n+1) ((i:Int),())=some (if l.length=m.length then yes else no):=hend (iter G n) i () hi hi2 he
    have e2:(l.drop i=m.drop i)=(l.length=m.length):=by
     apply propext
     constructor
     ·intro e
      have:=congrArg List.length e
      simp only[List.length_drop] at this
      omega
     ·intro e
      rw[List.drop_of_length_le (by omega),List.drop_of_length_le (by omega)]
    simp only[e1,e2]
   ·have h:i<l.length:=by omega
    have hm:i<m.length:=by omega
    have e1:iter G (n+1) ((i:Int),())=bif l[i] != m[i] then some no else iter G n ((i:Int)+1,()):=hstep (iter G n) i () l[i] m[i] (List.getElem?_eq_getElem h) (List.getElem?_eq_getElem hm) h hm
    rw[e1,List.drop_eq_getElem_cons h,List.drop_eq_getElem_cons hm]
    by_cases he:l[i]=m[i]
    ·rw[he]
     simp only[bne_self_eq_false,cond_false,List.cons.injEq,true_and]
     exact ih (i+1) h hm (by omega)
    ·have:(l[i] != m[i])=true:=by simpa using he
     rw[this,cond_true,if_neg (fun e=>he (List.cons.inj e).1)]
 have:=key fuel 0 (Nat.zero_le _) (Nat.zero_le _) (by simpa using fuel_gt hl)
 simpa only [List.drop_zero,Int.natCast_zero] using this
theorem lt_sub {left:Int} {n:Nat} (h:sub left n<0):left - (n:Int)<0:=by have:=(sub_neg h).2; omega
theorem nlt_sub {left:Int} {n:Nat} (h : ¬ sub left n<0) : ¬ left - (n:Int)<0∧left - (n:Int)=sub left n:=by have:=sub_nonneg h; omega
end G448
namespace G448
open Ev
theorem mark_loop {e:Ty} {G:(Int×Int×List (den e)×Unit→Option (List (den e)×Int×Unit))→Int×Int×List (den e)×Unit→Option (List (den e)×Int×Unit)} (F:den e→Int→den e×Int) (c:den e→Nat)
  (hF : ∀ x k,(F x k).2=k+c x) (l:List (den e)) (k:Int) (hk:0≤k) (hM:k+((l.map c).sum:Nat)≤4611686018427387904) (hlen:l.length≤4611686018427387904)
  (hend : ∀ rec (pre:List (den e)) k,pre.length=l.length→G rec (k,(pre.length:Int),pre,())=some (pre,k,()))
  (hstep : ∀ rec (pre:List (den e)) (x:den e) (r:List (den e)) (k:Int),pre.length+1+r.length=l.length→0≤k→k+c x≤4611686018427387904 →
   G rec (k,(pre.length:Int),pre++x::r,())=rec ((F x k).2,(pre.length:Int)+1,pre++(F x k).1::r,())) :
  iter G fuel (k,0,l,())=some ((mapA F l k).1,(mapA F l k).2,()):=by
 have key : ∀ (n:Nat) (r pre:List (den e)) (k:Int),r.length<n→pre.length+r.length=l.length→0≤k→k+((r.map c).sum:Nat)≤4611686018427387904 →
   iter G n (k,(pre.length:Int),pre++r,())=some (pre++(mapA F r k).1,(mapA F r k).2,()):=by
  intro n
  induction n with
  | zero=>intro r pre k h; omega
  | succ n ih=>
   intro r pre k h1 h2 h3 h4
   cases r with
   | nil=>
    simp only[List.append_nil,mapA]
    exact hend (iter G n) pre k (by simpa using h2)
   | cons x r=>
    simp only[List.map_cons,List.sum_cons] at h4
    simp only[List.length_cons] at h1 h2
    have e1:iter G (n+1) (k,(pre.length:Int),pre++x::r,())=iter G n ((F x k).2,(pre.length:Int)+1,pre++(F x k).1::r,()):=hstep (iter G n) pre x r k (by omega) h3 (by omega)
    have e2:=ih r (pre++[(F x k).1]) (F x k).2 (by omega) (by simp; omega) (by rw[hF]; omega) (by rw[hF]; omega)
    simp only[List.length_append,List.length_cons,List.length_nil,List.append_assoc,List.cons_append,List.nil_append] at e2
    rw[e1]
    refine Eq.trans ?_ e2
    simp
 have:=key fuel l [] k (by have:=fuel_gt2 hlen; omega) (by simp) hk hM
 simpa using this
theorem held_loop {e:Ty} (m:List (den e)) {G:(Int×Int×Unit→Option (Int×Unit))→Int×Int×Unit→Option (Int×Unit)} (F:den e→Int→den e×Int) (c:den e→Nat)
  (hF : ∀ x k,(F x k).2=k+c x) (l:List (den e)) (k:Int) (hk:0≤k) (hM:k+((l.map c).sum:Nat)≤4611686018427387904) (hlen:l.length≤4611686018427387904) (hm:m=(mapA F l k).1)
  (hend : ∀ rec k,G rec (k,(m.length:Int),())=some (k,()))
  (hstep : ∀ rec (i:Nat) (x:den e) (k:Int),m[i]?=some (F x k).1→i<m.length→0≤k→k+c x≤4611686018427387904→G rec (k,(i:Int),())=rec ((F x k).2,(i:Int)+1,())) :
  iter G fuel (k,0,())=some ((mapA F l k).2,()):=by
 have key : ∀ (n:Nat) (r:List (den e)) (pre:List (den e)) (k:Int),r.length<n→m=pre++(mapA F r k).1→0≤k→k+((r.map c).sum:Nat)≤4611686018427387904 →
   iter G n (k,(pre.length:Int),())=some ((mapA F r k).2,()):=by
  intro n
  induction n with
  | zero=>intro r pre k h; omega
  | succ n ih=>
   intro r pre k h1 h2 h3 h4
   cases r with
   | nil=>
    simp only[mapA,List.append_nil] at h2 ⊢
    subst h2
    exact hend (iter G n) k
   | cons x r=>
    simp only[List.map_cons,List.sum_cons] at h4
    simp only[List.length_cons] at h1
    have hm1:m=pre++(F x k).1::(mapA F r (F x k).2).1:=h2
    have hi:m[pre.length]?=some (F x k).1:=by rw[hm1]; simp
    have hil:pre.length<m.length:=by rw[hm1]; simp
    have e1:iter G (n+1) (k,(pre.length:Int),())=iter G n ((F x k).2,(pre.length:Int)+1,()):=hstep (iter G n) pre.length x k hi hil h3 (by omega)
    have e2:=ih r (pre++[(F x k).1]) (F x k).2 (by omega) (by rw[hm1]; simp) (by rw[hF]; omega) (by rw[hF]; omega)
    simp only[List.length_append,List.length_cons,List.length_nil] at e2
    rw[e1]
    refine Eq.trans ?_ e2
    simp
 have:=key fuel l [] k (by have:=fuel_gt2 hlen; omega) (by simpa using hm) hk hM
 simpa using this
theorem mapA_cnt {α:Type} {F:α→Int→α×Int} {c:α→Nat} (hF : ∀ x k,(F x k).2=k+c x) : ∀ (l:List α) (k:Int),(mapA F l k).2=k+((l.map c).sum:Nat)
 | [],k=>by simp[mapA]
 | x::r,k=>by simp only[mapA,mapA_cnt hF r,hF,List.map_cons,List.sum_cons]; omega
theorem walk_lt {α:Type} {pre r:List α} {x:α}:(pre.length:Int)<((pre++x::r).length:Nat):=by simp; omega
theorem sum_one {α:Type} (l:List α):(l.map fun _=>1).sum=l.length:=by
 induction l with
 | nil=>rfl
 | cons x r ih=>simp only[List.map_cons,List.sum_cons,ih,List.length_cons]; omega
end G448
namespace G448
open Ev
theorem toIntS_eq (l:List Int) (h:l.length≤8796093022208):laws_toIntS (l,())=some (l,()):=by
 unfold laws_toIntS
 have h1:(0:Int)≤(l.length:Int)∧(Int.toNat (l.length:Int))*8≤70368744177664:=by
  rw[Int.toNat_natCast]; omega
 simp only[if_true]
 rw[if_pos h1]
 refine (fill_loop l (fun x=>x) (fun out=>some (out,())) (by omega) ?_ ?_ _ (by simp)).trans (by simp)
 ·intro rec out ho; simp
 ·intro rec i out x hx hi ho
  simp only[Int.toNat_natCast,ho,ge_ok hi,decide_true,cond_true,if_true,and_self,rd,List.getD_eq_getElem?_getD,hx,Option.getD_some,wr_nat (show i<4611686018427387904 by omega)]
theorem eqIntS_self (l:List Int) (h:l.length≤1152921504606846976):laws_eqIntS (l,l,())=some (true,()):=by
 unfold laws_eqIntS
 simp only[bne_self_eq_false,cond_false]
 refine eq_loop l (true,()) h ?_ ?_
 ·intro rec s; simp
 ·intro rec i s x hx hi
  simp only[Int.toNat_natCast,ge_ok hi,decide_true,cond_true,if_true,and_self,rd,List.getD_eq_getElem?_getD,hx,Option.getD_some,wr_nat (show i<4611686018427387904 by omega),bne_self_eq_false,cond_false]
theorem szIntS_eq (l:List Int) (left:Int) (h0:0≤left) (h1:left≤1048576) (hl:l.length≤big):laws_szIntS (l,left,())=some (sub left l.length,()):=by
 unfold laws_szIntS
 exact sz_one h0 h1 hl
theorem spec_SetHas_eq (l:List Int) (v:Int) (h:l.length≤1152921504606846976):spec_SetHas (l,v,())=some (l.any (· == v),()):=by
 unfold spec_SetHas
 refine (forK l (fun x s rec=>bif x==v then some (true,()) else rec s) (fun s=>some (false,())) (fun i s=>(i,s)) h ?_ ?_ ?_ ()).trans (foldK_any _ _)
 ·intro rec s; simp
 ·intro rec i s x hx hi
  simp only[Int.toNat_natCast,ge_ok hi,decide_true,cond_true,if_true,and_self,rd,List.getD_eq_getElem?_getD,hx,Option.getD_some,wr_nat (show i<4611686018427387904 by omega)]
 ·intro x s r1 r2 hr; simp[hr]
theorem Contains_int_eq (l:List Int) (v:Int) (h:l.length≤1152921504606846976):slices_Contains_int (l,v,())=some (l.any (v == ·),()):=by
 unfold slices_Contains_int slices_Index_int
 refine index_bind (v == ·) l h ?_ ?_
 ·intro rec s; simp
 ·intro rec i s x hx hi
  simp only[Int.toNat_natCast,ge_ok hi,decide_true,cond_true,if_true,and_self,rd,List.getD_eq_getElem?_getD,hx,Option.getD_some,wr_nat (show i<4611686018427387904 by omega)]
theorem impl_SetHas_eq (l:List Int) (v:Int) (h:l.length≤1152921504606846976):impl_SetHas (l,v,())=some (l.any (· == v),()):=by
 unfold impl_SetHas
 simp only[Contains_int_eq l v h,Option.bind_some]
 congr 2
 apply congrArg (fun f=>l.any f)
 funext x
 exact Bool.beq_comm
theorem Equal_int_eq (l m:List Int) (hl:l.length≤1152921504606846976):slices_Equal_int (l,m,())=some (decide (l=m),()):=by
 unfold slices_Equal_int
 by_cases hlm:l.length=m.length
 ·simp only[hlm,bne_self_eq_false,cond_false]
  rw[←hlm]
  refine (cmp_loop l m (true,()) (false,()) hl ?_ ?_).trans (by by_cases h:l=m<;>simp[h])
  ·intro rec i s h1 h2 h3
   have hnl : ¬ (i:Int)<(l.length:Int):=by omega
   simp only[hlm] at hnl ⊢
   simp[hnl]
  ·intro rec i s x y hx hy hi hm
   simp only[Int.toNat_natCast,(ge_ok hi).1,(ge_ok hi).2,(ge_ok hm).2,decide_true,cond_true,if_true,and_self,rd,List.getD_eq_getElem?_getD,hx,hy,Option.getD_some,wr_nat (show i<4611686018427387904 by omega)]
 ·have h1:(((l.length:Nat):Int) != ((m.length:Nat):Int))=true:=bne_iff_ne.2 (by omega)
  have h2 : ¬ l=m:=fun h=>hlm (by rw[h])
  simp[h1,h2]
theorem l7Ints_eq (l m:List Int) (hl:l.length≤1152921504606846976):spec_l7Ints (l,m,())=some (decide (l=m),()):=by
 unfold spec_l7Ints
 refine (cmp_loop l m (true,()) (false,()) hl ?_ ?_).trans (by by_cases h:l=m<;>simp[h])
 ·intro rec i s h1 h2 h3
  rcases Nat.lt_or_ge i l.length with h|h
  ·have hm:i=m.length:=by omega
   have hnm : ¬ (i:Int)<(m.length:Int):=by omega
   have hbe:(((l.length:Nat):Int)==((m.length:Nat):Int))=false:=by simp; omega
   have hne : ¬ l.length=m.length:=by omega
   simp only[ge_ok h,hnm,decide_true,decide_false,cond_true,cond_false,hbe,if_neg hne]
  ·have hnl : ¬ (i:Int)<(l.length:Int):=by omega
   simp only[hnl,decide_false,cond_false]
   by_cases e:l.length=m.length
   ·simp[e]
   ·have hbe:(((l.length:Nat):Int)==((m.length:Nat):Int))=false:=by simp; omega
    simp only[hbe,if_neg e]
 ·intro rec i s x y hx hy hi hm
  simp only[Int.toNat_natCast,(ge_ok hi).1,(ge_ok hi).2,(ge_ok hm).2,decide_true,cond_true,if_true,and_self,rd,List.getD_eq_getElem?_getD,hx,hy,Option.getD_some,wr_nat (show i<4611686018427387904 by omega)]
def FI (_:Int) (k:Int):Int×Int:=(k,k+1)
theorem FI_cnt (x:Int) (k:Int):(FI x k).2=k+((1:Nat):Int):=rfl
theorem FI_all (l:List Int) (k:Int):(mapA FI l k).2=k+l.length:=by rw[mapA_cnt (c:=fun _=>1) FI_cnt,sum_one]
theorem markIntS_eq (l:List Int) (k:Int) (h0:0≤k) (hM:k+l.length≤4611686018427387904) (h:l.length≤4611686018427387904):laws_markIntS (l,k,())=some ((mapA FI l k).1,k+l.length,()):=by
 unfold laws_markIntS
 rw[←FI_all]
 refine mark_loop (e:=.i64) FI (fun _=>1) FI_cnt l k h0 (by rw[sum_one]; exact hM) h ?_ ?_
 ·intro rec pre k hp; simp
 ·intro rec pre x r k hp hk hkM
  have hi:(pre.length:Int)<((pre++x::r).length:Nat):=walk_lt
  simp only[Int.toNat_natCast,Int.natCast_nonneg,hi,decide_true,cond_true,and_self,if_true,set_at,wr_nat (show pre.length<4611686018427387904 by omega),FI,wr_id' (show (-9223372036854775808:Int)≤k+1 by omega) (show k+1≤9223372036854775807 by omega)]
theorem heldIntS_eq (l:List Int) (k:Int) (h0:0≤k) (hM:k+l.length≤4611686018427387904) (h:l.length≤4611686018427387904):laws_heldIntS ((mapA FI l k).1,k,())=some (k+l.length,()):=by
 unfold laws_heldIntS
 rw[←FI_all]
 refine held_loop (e:=.i64) (mapA FI l k).1 FI (fun _=>1) FI_cnt l k h0 (by rw[sum_one]; exact hM) h rfl ?_ ?_
 ·intro rec k; simp
 ·intro rec i x k hx hi hk hkM
  have hi2:i<l.length:=by rw[mapA_len] at hi; exact hi
  simp only[Int.toNat_natCast,ge_ok hi,decide_true,cond_true,and_self,if_true,rd_get (e:=.i64) hx,FI,bne_self_eq_false,cond_false,wr_nat (show i<4611686018427387904 by omega),wr_id' (show (-9223372036854775808:Int)≤k+1 by omega) (show k+1≤9223372036854775807 by omega)]
end G448
namespace G448
open Ev
abbrev TDisk:=List UInt8×Int
theorem toByteS_eq (l:List UInt8) (h:l.length≤35184372088832):laws_toByteS (l,())=some (l,()):=by
 unfold laws_toByteS
 have h1:(0:Int)≤(l.length:Int)∧(Int.toNat (l.length:Int))*1≤70368744177664:=by
  rw[Int.toNat_natCast]; omega
 simp only[if_true]
 rw[if_pos h1]
 refine (fill_loop l (fun x=>x) (fun out=>some (out,())) (by omega) ?_ ?_ _ (by simp)).trans (by simp)
 ·intro rec out ho; simp
 ·intro rec i out x hx hi ho
  simp only[Int.toNat_natCast,ho,ge_ok hi,decide_true,cond_true,if_true,and_self,rd,List.getD_eq_getElem?_getD,hx,Option.getD_some,wr_nat (show i<4611686018427387904 by omega)]
theorem eqByteS_self (l:List UInt8) (h:l.length≤1152921504606846976):laws_eqByteS (l,l,())=some (true,()):=by
 unfold laws_eqByteS
 simp only[bne_self_eq_false,cond_false]
 refine eq_loop l (true,()) h ?_ ?_
 ·intro rec s; simp
 ·intro rec i s x hx hi
  simp only[Int.toNat_natCast,ge_ok hi,decide_true,cond_true,if_true,and_self,rd,List.getD_eq_getElem?_getD,hx,Option.getD_some,wr_nat (show i<4611686018427387904 by omega),bne_self_eq_false,cond_false]
noncomputable def FB (_:UInt8) (k:Int):UInt8×Int:=(toB k,k+1)
theorem FB_cnt (x:UInt8) (k:Int):(FB x k).2=k+((1:Nat):Int):=rfl
theorem FB_all (l:List UInt8) (k:Int):(mapA FB l k).2=k+l.length:=by rw[mapA_cnt (c:=fun _=>1) FB_cnt,sum_one]
theorem markByteS_eq (l:List UInt8) (k:Int) (h0:0≤k) (hM:k+l.length≤4611686018427387904) (h:l.length≤4611686018427387904):laws_markByteS (l,k,())=some ((mapA FB l k).1,k+l.length,()):=by
 unfold laws_markByteS
 rw[←FB_all]
 refine mark_loop (e:=.u8) FB (fun _=>1) FB_cnt l k h0 (by rw[sum_one]; exact hM) h ?_ ?_
 ·intro rec pre k hp; simp
 ·intro rec pre x r k hp hk hkM
  have hi:(pre.length:Int)<((pre++x::r).length:Nat):=walk_lt
  simp only[Int.toNat_natCast,Int.natCast_nonneg,hi,decide_true,cond_true,and_self,if_true,set_at,wr_nat (show pre.length<4611686018427387904 by omega),FB,wr_id' (show (-9223372036854775808:Int)≤k+1 by omega) (show k+1≤9223372036854775807 by omega)]
theorem heldByteS_eq (l:List UInt8) (k:Int) (h0:0≤k) (hM:k+l.length≤4611686018427387904) (h:l.length≤4611686018427387904):laws_heldByteS ((mapA FB l k).1,k,())=some (k+l.length,()):=by
 unfold laws_heldByteS
 rw[←FB_all]
 refine held_loop (e:=.u8) (mapA FB l k).1 FB (fun _=>1) FB_cnt l k h0 (by rw[sum_one]; exact hM) h rfl ?_ ?_
 ·intro rec k; simp
 ·intro rec i x k hx hi hk hkM
  have hi2:i<l.length:=by rw[mapA_len] at hi; exact hi
  simp only[Int.toNat_natCast,ge_ok hi,decide_true,cond_true,and_self,if_true,rd_get (e:=.u8) hx,FB,bne_self_eq_false,cond_false,wr_nat (show i<4611686018427387904 by omega),wr_id' (show (-9223372036854775808:Int)≤k+1 by omega) (show k+1≤9223372036854775807 by omega)]
def DiskB (d:TDisk):Prop:=d.1.length≤big
theorem szDisk_eq (d:TDisk) (left:Int) (h0:0≤left) (h1:left≤1048576) (hb:DiskB d):laws_szDisk (d,left,())=some (sub left d.1.length,()):=by
 unfold laws_szDisk laws_szByteS
 rw[sz_one h0 h1 hb]
 simp only[Option.bind_some]
 exact sz_end
theorem toDisk_eq (d:TDisk) (h:d.1.length≤35184372088832):laws_toDisk (d,())=some (d,()):=by
 unfold laws_toDisk
 simp only[toByteS_eq d.1 h,Option.bind_some]
theorem eqDisk_self (d:TDisk) (h:d.1.length≤35184372088832):laws_eqDisk (d,d,())=some (true,()):=by
 unfold laws_eqDisk
 simp only[eqByteS_self d.1 (by omega),Option.bind_some,Bool.not_true,cond_false,bne_self_eq_false]
def diskOk (d:TDisk):Bool:=decide ((d.1.length:Int)≤100000) && (decide (d.2≥0) && decide (d.2≤(d.1.length:Int)))
theorem spec_DiskOk_eq (d:TDisk):spec_DiskOk (d,())=some (diskOk d,()):=by
 unfold spec_DiskOk spec_l1In diskOk
 cases h1:decide ((d.1.length:Int)≤100000)<;>cases h2:decide (d.2≥0)<;>simp[h1,h2]
theorem impl_DiskOk_eq (d:TDisk):impl_DiskOk (d,())=some (diskOk d,()):=by
 unfold impl_DiskOk impl_within diskOk
 cases h1:decide ((d.1.length:Int)≤100000)<;>cases h2:decide (d.2≥0)<;>simp[h1,h2]
theorem spec_l13Copy_eq (d:TDisk) (h:d.1.length≤35184372088832):spec_l13Copy (d,())=some (d,()):=by
 unfold spec_l13Copy
 dsimp only
 rw[if_pos (by omega)]
 rfl
theorem impl_copyDisk_eq (d:TDisk) (h:d.1.length≤35184372088832):impl_copyDisk (d,())=some (d,()):=by
 unfold impl_copyDisk
 dsimp only
 rw[if_pos (by omega)]
end G448
namespace G448
open Ev
theorem sz_str {left:Int} {n b:Nat} {f:Int→Option (Int×Unit)} (h0:0≤left) (h1:left≤1048576) (hn:n≤big) (hf : ∀ z,0≤z→z≤1048576→f z=some (sub z b,())) :
  (bif decide (wr (left - (n:Int))<0) then some ((-1:Int),()) else f (wr (left - (n:Int))))=some (sub left (n+b),()):=by
 rw[sz_first h0 h1 hn (some ((-1:Int),())) f]
 split
 ·next h=>rw[sub_more h]
 ·next h=>
  have:=sub_nonneg h
  rw[hf _ (by omega) (sub_le h1),sub_add h]
theorem sum_mem {α:Type} {l:List α} {x:α} (f:α→Nat) (h:x∈l):f x≤(l.map f).sum:=by
 induction l with
 | nil=>cases h
 | cons y r ih=>
  simp only[List.map_cons,List.sum_cons]
  rcases List.mem_cons.1 h with rfl|h
  ·omega
  ·have:=ih h; omega
theorem sum_le {α:Type} (f g:α→Nat) : ∀ (l:List α),(∀ x∈l,f x≤g x)→(l.map f).sum≤(l.map g).sum
 | [],_=>Nat.le_refl _
 | x::r,h=>by
  have:=h x (by simp)
  have:=sum_le f g r (fun y hy=>h y (by simp[hy]))
  simp only[List.map_cons,List.sum_cons]
  omega
theorem sum_lin {α:Type} (f:α→Nat) (c:Nat) : ∀ (l:List α),(l.map fun x=>c+c*f x).sum=c*(l.length+(l.map f).sum)
 | []=>by simp
 | x::r=>by
  simp only[List.map_cons,List.sum_cons,List.length_cons,sum_lin f c r,Nat.mul_add,Nat.mul_one]
  omega
theorem sz_rows {α:Type} {e:Ty} (l:List (den e)) (wf:den e→Nat) (f:den e→Int→Option (Int×Unit)) (left:Int) (h0:0≤left) (h1:left≤1048576) (hl:l.length≤big)
  (hf : ∀ x∈l,∀ z,0≤z→z≤1048576→f x z=some (sub z (wf x),()))
  {G:(Int×Int×Unit→Option (Int×Unit))→Int×Int×Unit→Option (Int×Unit)}
  (hend : ∀ rec s,G rec (s,(l.length:Int),())=some (s,()))
  (hstep : ∀ rec (i:Nat) s x,l[i]?=some x→i<l.length→G rec (s,(i:Int),())=(f x s).bind fun r=>bif decide (r.1<0) then some (-1,()) else rec (r.1,(i:Int)+1,())) :
  (bif decide (wr (left - (l.length:Int))<0) then some ((-1:Int),()) else iter G fuel (wr (left - (l.length:Int)),0,()))=some (sub left (l.length+(l.map wf).sum),()):=by
 refine sz_str (f:=fun z=>iter G fuel (z,0,())) h0 h1 hl ?_
 intro z hz0 hz1
 refine (forK l (fun x s rec=>(f x s).bind fun r=>bif decide (r.1<0) then some (-1,()) else rec r.1) (fun s=>some (s,())) (fun i s=>(s,i,())) (by unfold big at hl; omega) hend hstep ?_ z).trans ?_
 ·intro x s r1 r2 hr; simp[hr]
 ·exact sz_loop wf f l z hz0 hz1 hf
theorem walk_lt' {α:Type} {pre r:List α} {x:α}:((pre.length:Int)<((pre++x::r).length:Nat))=True:=by simp; omega
theorem nn (n:Nat):((0:Int)≤(n:Int))=True:=by simp
noncomputable def mtext (k:Int):List UInt8:=match laws_markText (k,()) with|some r=>r.1|none=>[]
theorem markText_ens (k:Int) (h:k≤9223372036854775807):Ens (laws_markText (k,())) fun _=>True:=by
 unfold laws_markText
 refine Ens.cond (fun _=>Ens.some trivial) fun hc => ?_
 have h0:0<k:=by simpa using hc
 refine Ens.loop (fun x=>0≤x.1∧x.1≤9223372036854775807 ∧ ∃ n:Nat,x.1<10 ^ n∧x.2.1.length+n≤19) (fun x=>x.1.toNat) ?_ ⟨by dsimp only; omega,by dsimp only; omega,19,by dsimp only; omega,by simp⟩ (by dsimp only; rw[fuel_def]; omega)
 intro rec x hx hrec
 obtain⟨h1,h2,n,h3,h4⟩:=hx
 refine Ens.cond (fun hg => ?_) fun hg => ?_
 ·have hg:0<x.1:=by simpa using hg
  have hn:n≠0:=by rintro rfl; simp at h3; omega
  obtain⟨m,rfl⟩:=Nat.exists_eq_succ_of_ne_zero hn
  have hd:Int.tdiv x.1 10=x.1 / 10:=Int.tdiv_eq_ediv_of_nonneg h1
  have hp:(10:Int) ^ (m+1)=10 ^ m*10:=Int.pow_succ 10 m
  refine Ens.ite (by simp only[List.length_cons,List.length_nil]; omega) ?_
  rw[hd,wr_id' (by omega) (by omega)]
  refine hrec _ ⟨?_,?_,m,?_,?_⟩ ?_
  ·show 0≤x.1 / 10; omega
  ·show x.1 / 10≤_; omega
  ·show x.1 / 10<10 ^ m
   simp only[Nat.succ_eq_add_one] at h3
   rw[hp] at h3
   omega
  ·simp only[List.length_append,List.length_cons,List.length_nil]; omega
  ·show (x.1 / 10).toNat<x.1.toNat; omega
 ·refine Ens.ite (by simp only[List.length_cons,List.length_nil]; omega) (Ens.some trivial)
theorem markText_eq (k:Int) (h:k≤9223372036854775807):laws_markText (k,())=some (mtext k,()):=by
 obtain⟨r,h1,_⟩:=markText_ens k h
 unfold mtext
 rw[h1]
abbrev TIntS:=List Int
abbrev TByteS:=List UInt8
abbrev TTx:=Int×Int×Int×Int
abbrev TSaid:=Int×List UInt8×Int
abbrev TQc:=Int×List UInt8×TIntS
abbrev TPart:=Int×List UInt8×TIntS
abbrev TBlock:=List UInt8×TQc
abbrev TMsg:=Int×Int×TBlock×TPart×TQc×Int×TTx
abbrev TPost:=Int×TMsg
abbrev TWire:=Int×TByteS
abbrev TSafe:=Int×Int×TQc×List UInt8
abbrev TTxS:=List TTx
abbrev TSaidS:=List TSaid
abbrev TPartS:=List TPart
abbrev TPostS:=List TPost
abbrev TWireS:=List TWire
abbrev TRep:=Int×Int×Int×TSafe×TTxS×TPartS×TDisk×TPostS
abbrev TRepS:=List TRep
abbrev TConf:=Int×Int
abbrev TLedger:=TIntS×TIntS
abbrev TWorld:=TConf×TIntS×TRepS×TWireS×TSaidS
abbrev TDeed:=Int×Int×Int×TMsg
def wIntS (x:TIntS):Nat:=x.length
def wByteS (x:TByteS):Nat:=x.length
def wDisk (x:TDisk):Nat:=x.1.length
def wSaid (x:TSaid):Nat:=x.2.1.length
def wQc (x:TQc):Nat:=x.2.1.length+wIntS x.2.2
def wPart (x:TPart):Nat:=x.2.1.length+wIntS x.2.2
def wBlock (x:TBlock):Nat:=x.1.length+wQc x.2
def wMsg (x:TMsg):Nat:=wBlock x.2.2.1+wPart x.2.2.2.1+wQc x.2.2.2.2.1
def wPost (x:TPost):Nat:=wMsg x.2
def wWire (x:TWire):Nat:=wByteS x.2
def wSafe (x:TSafe):Nat:=wQc x.2.2.1+x.2.2.2.length
def wTxS (x:TTxS):Nat:=x.length
def wSaidS (x:TSaidS):Nat:=x.length+(x.map wSaid).sum
def wPartS (x:TPartS):Nat:=x.length+(x.map wPart).sum
def wPostS (x:TPostS):Nat:=x.length+(x.map wPost).sum
def wWireS (x:TWireS):Nat:=x.length+(x.map wWire).sum
def wRep (x:TRep):Nat:=wSafe x.2.2.2.1+wTxS x.2.2.2.2.1+wPartS x.2.2.2.2.2.1+wDisk x.2.2.2.2.2.2.1+wPostS x.2.2.2.2.2.2.2
def wRepS (x:TRepS):Nat:=x.length+(x.map wRep).sum
def wLedger (x:TLedger):Nat:=wIntS x.1+wIntS x.2
def wWorld (x:TWorld):Nat:=wIntS x.2.1+wRepS x.2.2.1+wWireS x.2.2.2.1+wSaidS x.2.2.2.2
def wDeed (x:TDeed):Nat:=wMsg x.2.2.2
def bIntS (x:TIntS):Prop:=x.length≤big
def bByteS (x:TByteS):Prop:=x.length≤big
def bDisk (x:TDisk):Prop:=x.1.length≤big
def bQc (x:TQc):Prop:=x.2.1.length≤big∧bIntS x.2.2
def bPart (x:TPart):Prop:=x.2.1.length≤big∧bIntS x.2.2
def bBlock (x:TBlock):Prop:=x.1.length≤big∧bQc x.2
def bMsg (x:TMsg):Prop:=bBlock x.2.2.1∧bPart x.2.2.2.1∧bQc x.2.2.2.2.1
def bPost (x:TPost):Prop:=bMsg x.2
def bSafe (x:TSafe):Prop:=bQc x.2.2.1∧x.2.2.2.length≤big
def bTxS (x:TTxS):Prop:=x.length≤big
def bPartS (x:TPartS):Prop:=x.length≤big ∧ ∀ y∈x,bPart y
def bPostS (x:TPostS):Prop:=x.length≤big ∧ ∀ y∈x,bPost y
def bRep (x:TRep):Prop:=bSafe x.2.2.2.1∧bTxS x.2.2.2.2.1∧bPartS x.2.2.2.2.2.1∧bDisk x.2.2.2.2.2.2.1∧bPostS x.2.2.2.2.2.2.2
theorem bIntS_of {E1:Nat} {x:TIntS} (h:Bnd (.sl E1 .i64) x):bIntS x:=h.1
theorem bByteS_of {E1:Nat} {x:TByteS} (h:Bnd (.sl E1 .u8) x):bByteS x:=h.1
theorem bDisk_of {E1:Nat} {x:TDisk} (h:Bnd (.pair (.sl E1 .u8) .i64) x):bDisk x:=bByteS_of h.1
theorem bQc_of {E1:Nat} {x:TQc} (h:Bnd (.pair .i64 (.pair .str (.sl E1 .i64))) x):bQc x:=⟨h.2.1,bIntS_of h.2.2⟩
theorem bPart_of {E1:Nat} {x:TPart} (h:Bnd (.pair .i64 (.pair .str (.sl E1 .i64))) x):bPart x:=⟨h.2.1,bIntS_of h.2.2⟩
theorem bBlock_of {E1:Nat} {x:TBlock} (h:Bnd (.pair .str (.pair .i64 (.pair .str (.sl E1 .i64)))) x):bBlock x:=⟨h.1,bQc_of h.2⟩
theorem bMsg_of {E1 E2 E3:Nat} {x:TMsg} (h:Bnd (.pair .i64 (.pair .i64 (.pair (.pair .str (.pair .i64 (.pair .str (.sl E1 .i64)))) (.pair (.pair .i64 (.pair .str (.sl E2 .i64))) (.pair (.pair .i64 (.pair .str (.sl E3 .i64))) (.pair .i64 (.pair .i64 (.pair .i64 (.pair .i64 .i64))))))))) x):bMsg x:=⟨bBlock_of h.2.2.1,bPart_of h.2.2.2.1,bQc_of h.2.2.2.2.1⟩
theorem bPost_of {E1 E2 E3:Nat} {x:TPost} (h:Bnd (.pair .i64 (.pair .i64 (.pair .i64 (.pair (.pair .str (.pair .i64 (.pair .str (.sl E1 .i64)))) (.pair (.pair .i64 (.pair .str (.sl E2 .i64))) (.pair (.pair .i64 (.pair .str (.sl E3 .i64))) (.pair .i64 (.pair .i64 (.pair .i64 (.pair .i64 .i64)))))))))) x):bPost x:=bMsg_of h.2
theorem bSafe_of {E1:Nat} {x:TSafe} (h:Bnd (.pair .i64 (.pair .i64 (.pair (.pair .i64 (.pair .str (.sl E1 .i64))) .str))) x):bSafe x:=⟨bQc_of h.2.2.1,h.2.2.2⟩
theorem bTxS_of {E1:Nat} {x:TTxS} (h:Bnd (.sl E1 (.pair .i64 (.pair .i64 (.pair .i64 .i64)))) x):bTxS x:=h.1
theorem bPartS_of {E1 E2:Nat} {x:TPartS} (h:Bnd (.sl E1 (.pair .i64 (.pair .str (.sl E2 .i64)))) x):bPartS x:=⟨h.1,fun y hy=>bPart_of (h.2 y hy)⟩
theorem bPostS_of {E1 E2 E3 E4:Nat} {x:TPostS} (h:Bnd (.sl E1 (.pair .i64 (.pair .i64 (.pair .i64 (.pair (.pair .str (.pair .i64 (.pair .str (.sl E2 .i64)))) (.pair (.pair .i64 (.pair .str (.sl E3 .i64))) (.pair (.pair .i64 (.pair .str (.sl E4 .i64))) (.pair .i64 (.pair .i64 (.pair .i64 (.pair .i64 .i64))))))))))) x):bPostS x:=⟨h.1,fun y hy=>bPost_of (h.2 y hy)⟩
theorem bRep_of {E1 E2 E3 E4 E5 E6 E7 E8 E9:Nat} {x:TRep} (h:Bnd (.pair .i64 (.pair .i64 (.pair .i64 (.pair (.pair .i64 (.pair .i64 (.pair (.pair .i64 (.pair .str (.sl E1 .i64))) .str))) (.pair (.sl E2 (.pair .i64 (.pair .i64 (.pair .i64 .i64)))) (.pair (.sl E3 (.pair .i64 (.pair .str (.sl E4 .i64)))) (.pair (.pair (.sl E5 .u8) .i64) (.sl E6 (.pair .i64 (.pair .i64 (.pair .i64 (.pair (.pair .str (.pair .i64 (.pair .str (.sl E7 .i64)))) (.pair (.pair .i64 (.pair .str (.sl E8 .i64))) (.pair (.pair .i64 (.pair .str (.sl E9 .i64))) (.pair .i64 (.pair .i64 (.pair .i64 (.pair .i64 .i64)))))))))))))))))) x):bRep x:=⟨bSafe_of h.2.2.2.1,bTxS_of h.2.2.2.2.1,bPartS_of h.2.2.2.2.2.1,bDisk_of h.2.2.2.2.2.2.1,bPostS_of h.2.2.2.2.2.2.2⟩
theorem szIntSW_eq (x:TIntS) (left:Int) (h0:0≤left) (h1:left≤1048576) (hb:bIntS x):laws_szIntS (x,left,())=some (sub left (wIntS x),()):=szIntS_eq x left h0 h1 hb
theorem szDiskW_eq (x:TDisk) (left:Int) (h0:0≤left) (h1:left≤1048576) (hb:bDisk x):laws_szDisk (x,left,())=some (sub left (wDisk x),()):=szDisk_eq x left h0 h1 hb
theorem szQc_eq (x:TQc) (left:Int) (h0:0≤left) (h1:left≤1048576) (hb:bQc x):laws_szQc (x,left,())=some (sub left (wQc x),()):=by
 unfold laws_szQc wQc
 obtain⟨b0,b1⟩:=hb
 simp only[wr_sub h0 h1 b0]
 by_cases g0:sub left x.2.1.length<0
 ·simp only[lt_sub g0,decide_true,cond_true]
  rw[show x.2.1.length+wIntS x.2.2=(x.2.1.length)+(wIntS x.2.2) by omega,sub_more g0]
 simp only[(nlt_sub g0).2,g0,decide_false,cond_false]
 simp only[szIntSW_eq x.2.2 (sub left (x.2.1.length)) (by omega) (sub_le h1) b1,Option.bind_some,sub_add g0]
 exact sz_end
theorem szPart_eq (x:TPart) (left:Int) (h0:0≤left) (h1:left≤1048576) (hb:bPart x):laws_szPart (x,left,())=some (sub left (wPart x),()):=by
 unfold laws_szPart wPart
 obtain⟨b0,b1⟩:=hb
 simp only[wr_sub h0 h1 b0]
 by_cases g0:sub left x.2.1.length<0
 ·simp only[lt_sub g0,decide_true,cond_true]
  rw[show x.2.1.length+wIntS x.2.2=(x.2.1.length)+(wIntS x.2.2) by omega,sub_more g0]
 simp only[(nlt_sub g0).2,g0,decide_false,cond_false]
 simp only[szIntSW_eq x.2.2 (sub left (x.2.1.length)) (by omega) (sub_le h1) b1,Option.bind_some,sub_add g0]
 exact sz_end
theorem szBlock_eq (x:TBlock) (left:Int) (h0:0≤left) (h1:left≤1048576) (hb:bBlock x):laws_szBlock (x,left,())=some (sub left (wBlock x),()):=by
 unfold laws_szBlock wBlock
 obtain⟨b0,b1⟩:=hb
 simp only[wr_sub h0 h1 b0]
 by_cases g0:sub left x.1.length<0
 ·simp only[lt_sub g0,decide_true,cond_true]
  rw[show x.1.length+wQc x.2=(x.1.length)+(wQc x.2) by omega,sub_more g0]
 simp only[(nlt_sub g0).2,g0,decide_false,cond_false]
 simp only[szQc_eq x.2 (sub left (x.1.length)) (by omega) (sub_le h1) b1,Option.bind_some,sub_add g0]
 exact sz_end
theorem szMsg_eq (x:TMsg) (left:Int) (h0:0≤left) (h1:left≤1048576) (hb:bMsg x):laws_szMsg (x,left,())=some (sub left (wMsg x),()):=by
 unfold laws_szMsg wMsg
 obtain⟨b0,b1,b2⟩:=hb
 simp only[szBlock_eq x.2.2.1 left h0 h1 b0,Option.bind_some]
 by_cases g0:sub left (wBlock x.2.2.1)<0
 ·simp only[g0,decide_true,cond_true]
  rw[show wBlock x.2.2.1+wPart x.2.2.2.1+wQc x.2.2.2.2.1=(wBlock x.2.2.1)+(wPart x.2.2.2.1+wQc x.2.2.2.2.1) by omega,sub_more g0]
 simp only[g0,decide_false,cond_false]
 simp only[szPart_eq x.2.2.2.1 (sub left (wBlock x.2.2.1)) (by omega) (sub_le h1) b1,Option.bind_some,sub_add g0]
 by_cases g1:sub left (wBlock x.2.2.1+wPart x.2.2.2.1)<0
 ·simp only[g1,decide_true,cond_true]
  rw[show wBlock x.2.2.1+wPart x.2.2.2.1+wQc x.2.2.2.2.1=(wBlock x.2.2.1+wPart x.2.2.2.1)+(wQc x.2.2.2.2.1) by omega,sub_more g1]
 simp only[g1,decide_false,cond_false]
 simp only[szQc_eq x.2.2.2.2.1 (sub left (wBlock x.2.2.1+wPart x.2.2.2.1)) (by omega) (sub_le h1) b2,Option.bind_some,sub_add g1]
 exact sz_end
theorem szPost_eq (x:TPost) (left:Int) (h0:0≤left) (h1:left≤1048576) (hb:bPost x):laws_szPost (x,left,())=some (sub left (wPost x),()):=by
 unfold laws_szPost wPost
 simp only[szMsg_eq x.2 left h0 h1 hb,Option.bind_some]
 exact sz_end
theorem szSafe_eq (x:TSafe) (left:Int) (h0:0≤left) (h1:left≤1048576) (hb:bSafe x):laws_szSafe (x,left,())=some (sub left (wSafe x),()):=by
 unfold laws_szSafe wSafe
 obtain⟨b0,b1⟩:=hb
 simp only[szQc_eq x.2.2.1 left h0 h1 b0,Option.bind_some]
 by_cases g0:sub left (wQc x.2.2.1)<0
 ·simp only[g0,decide_true,cond_true]
  rw[show wQc x.2.2.1+x.2.2.2.length=(wQc x.2.2.1)+(x.2.2.2.length) by omega,sub_more g0]
 simp only[g0,decide_false,cond_false]
 rw[sz_one (by omega) (sub_le h1) b1,sub_add g0]
theorem szTxS_eq (x:TTxS) (left:Int) (h0:0≤left) (h1:left≤1048576) (hb:bTxS x):laws_szTxS (x,left,())=some (sub left (wTxS x),()):=by
 unfold laws_szTxS
 exact sz_one h0 h1 hb
theorem szPartS_eq (x:TPartS) (left:Int) (h0:0≤left) (h1:left≤1048576) (hb:bPartS x):laws_szPartS (x,left,())=some (sub left (wPartS x),()):=by
 unfold laws_szPartS
 refine sz_rows (α:=Unit) (e:=(.pair .i64 (.pair .str (.sl 0 .i64)))) x wPart (fun y z=>laws_szPart (y,z,())) left h0 h1 hb.1 (fun y hy z hz0 hz1=>szPart_eq y z hz0 hz1 (hb.2 y hy)) ?_ ?_
 ·intro rec s; simp
 ·intro rec i s y hx hi
  have hl:=hb.1
  simp only[Int.toNat_natCast,ge_ok hi,decide_true,cond_true,if_true,and_self,rd_get (e:=(.pair .i64 (.pair .str (.sl 0 .i64)))) hx,wr_nat (show i<4611686018427387904 by unfold big at hl; omega)]
theorem szPostS_eq (x:TPostS) (left:Int) (h0:0≤left) (h1:left≤1048576) (hb:bPostS x):laws_szPostS (x,left,())=some (sub left (wPostS x),()):=by
 unfold laws_szPostS
 refine sz_rows (α:=Unit) (e:=(.pair .i64 (.pair .i64 (.pair .i64 (.pair (.pair .str (.pair .i64 (.pair .str (.sl 0 .i64)))) (.pair (.pair .i64 (.pair .str (.sl 0 .i64))) (.pair (.pair .i64 (.pair .str (.sl 0 .i64))) (.pair .i64 (.pair .i64 (.pair .i64 (.pair .i64 .i64))))))))))) x wPost (fun y z=>laws_szPost (y,z,())) left h0 h1 hb.1 (fun y hy z hz0 hz1=>szPost_eq y z hz0 hz1 (hb.2 y hy)) ?_ ?_
 ·intro rec s; simp
 ·intro rec i s y hx hi
  have hl:=hb.1
  simp only[Int.toNat_natCast,ge_ok hi,decide_true,cond_true,if_true,and_self,rd_get (e:=(.pair .i64 (.pair .i64 (.pair .i64 (.pair (.pair .str (.pair .i64 (.pair .str (.sl 0 .i64)))) (.pair (.pair .i64 (.pair .str (.sl 0 .i64))) (.pair (.pair .i64 (.pair .str (.sl 0 .i64))) (.pair .i64 (.pair .i64 (.pair .i64 (.pair .i64 .i64))))))))))) hx,wr_nat (show i<4611686018427387904 by unfold big at hl; omega)]
theorem szRep_eq (x:TRep) (left:Int) (h0:0≤left) (h1:left≤1048576) (hb:bRep x):laws_szRep (x,left,())=some (sub left (wRep x),()):=by
 unfold laws_szRep wRep
 obtain⟨b0,b1,b2,b3,b4⟩:=hb
 simp only[szSafe_eq x.2.2.2.1 left h0 h1 b0,Option.bind_some]
 by_cases g0:sub left (wSafe x.2.2.2.1)<0
 ·simp only[g0,decide_true,cond_true]
  rw[show wSafe x.2.2.2.1+wTxS x.2.2.2.2.1+wPartS x.2.2.2.2.2.1+wDisk x.2.2.2.2.2.2.1+wPostS x.2.2.2.2.2.2.2=(wSafe x.2.2.2.1)+(wTxS x.2.2.2.2.1+wPartS x.2.2.2.2.2.1+wDisk x.2.2.2.2.2.2.1+wPostS x.2.2.2.2.2.2.2) by omega,sub_more g0]
 simp only[g0,decide_false,cond_false]
 simp only[szTxS_eq x.2.2.2.2.1 (sub left (wSafe x.2.2.2.1)) (by omega) (sub_le h1) b1,Option.bind_some,sub_add g0]
 by_cases g1:sub left (wSafe x.2.2.2.1+wTxS x.2.2.2.2.1)<0
 ·simp only[g1,decide_true,cond_true]
  rw[show wSafe x.2.2.2.1+wTxS x.2.2.2.2.1+wPartS x.2.2.2.2.2.1+wDisk x.2.2.2.2.2.2.1+wPostS x.2.2.2.2.2.2.2=(wSafe x.2.2.2.1+wTxS x.2.2.2.2.1)+(wPartS x.2.2.2.2.2.1+wDisk x.2.2.2.2.2.2.1+wPostS x.2.2.2.2.2.2.2) by omega,sub_more g1]
 simp only[g1,decide_false,cond_false]
 simp only[szPartS_eq x.2.2.2.2.2.1 (sub left (wSafe x.2.2.2.1+wTxS x.2.2.2.2.1)) (by omega) (sub_le h1) b2,Option.bind_some,sub_add g1]
 by_cases g2:sub left (wSafe x.2.2.2.1+wTxS x.2.2.2.2.1+wPartS x.2.2.2.2.2.1)<0
 ·simp only[g2,decide_true,cond_true]
  rw[show wSafe x.2.2.2.1+wTxS x.2.2.2.2.1+wPartS x.2.2.2.2.2.1+wDisk x.2.2.2.2.2.2.1+wPostS x.2.2.2.2.2.2.2=(wSafe x.2.2.2.1+wTxS x.2.2.2.2.1+wPartS x.2.2.2.2.2.1)+(wDisk x.2.2.2.2.2.2.1+wPostS x.2.2.2.2.2.2.2) by omega,sub_more g2]
 simp only[g2,decide_false,cond_false]
 simp only[szDiskW_eq x.2.2.2.2.2.2.1 (sub left (wSafe x.2.2.2.1+wTxS x.2.2.2.2.1+wPartS x.2.2.2.2.2.1)) (by omega) (sub_le h1) b3,Option.bind_some,sub_add g2]
 by_cases g3:sub left (wSafe x.2.2.2.1+wTxS x.2.2.2.2.1+wPartS x.2.2.2.2.2.1+wDisk x.2.2.2.2.2.2.1)<0
 ·simp only[g3,decide_true,cond_true]
  rw[show wSafe x.2.2.2.1+wTxS x.2.2.2.2.1+wPartS x.2.2.2.2.2.1+wDisk x.2.2.2.2.2.2.1+wPostS x.2.2.2.2.2.2.2=(wSafe x.2.2.2.1+wTxS x.2.2.2.2.1+wPartS x.2.2.2.2.2.1+wDisk x.2.2.2.2.2.2.1)+(wPostS x.2.2.2.2.2.2.2) by omega,sub_more g3]
 simp only[g3,decide_false,cond_false]
 simp only[szPostS_eq x.2.2.2.2.2.2.2 (sub left (wSafe x.2.2.2.1+wTxS x.2.2.2.2.1+wPartS x.2.2.2.2.2.1+wDisk x.2.2.2.2.2.2.1)) (by omega) (sub_le h1) b4,Option.bind_some,sub_add g3]
 exact sz_end
theorem toTx_eq (x:TTx):laws_toTx (x,())=some (x,()):=by
 rfl
theorem toQc_eq (x:TQc) (hw:wQc x≤137438953472):laws_toQc (x,())=some (x,()):=by
 unfold laws_toQc
 unfold wQc at hw
 simp only[toIntS_eq x.2.2 (by have:=hw; simp only[wIntS,wByteS,wDisk] at this; omega),Option.bind_some]
theorem toPart_eq (x:TPart) (hw:wPart x≤137438953472):laws_toPart (x,())=some (x,()):=by
 unfold laws_toPart
 unfold wPart at hw
 simp only[toIntS_eq x.2.2 (by have:=hw; simp only[wIntS,wByteS,wDisk] at this; omega),Option.bind_some]
theorem toBlock_eq (x:TBlock) (hw:wBlock x≤137438953472):laws_toBlock (x,())=some (x,()):=by
 unfold laws_toBlock
 unfold wBlock at hw
 simp only[toQc_eq x.2 (by omega),Option.bind_some]
theorem toMsg_eq (x:TMsg) (hw:wMsg x≤137438953472):laws_toMsg (x,())=some (x,()):=by
 unfold laws_toMsg
 unfold wMsg at hw
 simp only[toBlock_eq x.2.2.1 (by omega),toPart_eq x.2.2.2.1 (by omega),toQc_eq x.2.2.2.2.1 (by omega),toTx_eq x.2.2.2.2.2.2,Option.bind_some]
theorem toPost_eq (x:TPost) (hw:wPost x≤137438953472):laws_toPost (x,())=some (x,()):=by
 unfold laws_toPost
 unfold wPost at hw
 simp only[toMsg_eq x.2 (by omega),Option.bind_some]
theorem toSafe_eq (x:TSafe) (hw:wSafe x≤137438953472):laws_toSafe (x,())=some (x,()):=by
 unfold laws_toSafe
 unfold wSafe at hw
 simp only[toQc_eq x.2.2.1 (by omega),Option.bind_some]
theorem toTxS_eq (x:TTxS) (hw:wTxS x≤137438953472):laws_toTxS (x,())=some (x,()):=by
 have hl:x.length≤137438953472:=by unfold wTxS at hw; omega
 unfold laws_toTxS
 have h1:(0:Int)≤(x.length:Int)∧(Int.toNat (x.length:Int))*32≤70368744177664:=by
  rw[Int.toNat_natCast]; omega
 simp only[if_true]
 rw[if_pos h1]
 refine (fill_loop x (fun y=>y) (fun out=>some (out,())) (by omega) ?_ ?_ _ (by simp)).trans (by simp)
 ·intro rec out ho; simp
 ·intro rec i out y hx hi ho
  simp only[Int.toNat_natCast,ho,ge_ok hi,decide_true,cond_true,if_true,and_self,rd_get (e:=(.pair .i64 (.pair .i64 (.pair .i64 .i64)))) hx,toTx_eq y,Option.bind_some,wr_nat (show i<4611686018427387904 by omega)]
theorem toPartS_eq (x:TPartS) (hw:wPartS x≤137438953472):laws_toPartS (x,())=some (x,()):=by
 have hl:x.length≤137438953472:=by unfold wPartS at hw; omega
 unfold laws_toPartS
 have h1:(0:Int)≤(x.length:Int)∧(Int.toNat (x.length:Int))*48≤70368744177664:=by
  rw[Int.toNat_natCast]; omega
 simp only[if_true]
 rw[if_pos h1]
 refine (fill_loop x (fun y=>y) (fun out=>some (out,())) (by omega) ?_ ?_ _ (by simp)).trans (by simp)
 ·intro rec out ho; simp
 ·intro rec i out y hx hi ho
  have hy:wPart y≤137438953472:=by have:=sum_mem wPart (List.mem_of_getElem? hx); unfold wPartS at hw; omega
  simp only[Int.toNat_natCast,ho,ge_ok hi,decide_true,cond_true,if_true,and_self,rd_get (e:=(.pair .i64 (.pair .str (.sl 0 .i64)))) hx,toPart_eq y hy,Option.bind_some,wr_nat (show i<4611686018427387904 by omega)]
theorem toPostS_eq (x:TPostS) (hw:wPostS x≤137438953472):laws_toPostS (x,())=some (x,()):=by
 have hl:x.length≤137438953472:=by unfold wPostS at hw; omega
 unfold laws_toPostS
 have h1:(0:Int)≤(x.length:Int)∧(Int.toNat (x.length:Int))*224≤70368744177664:=by
  rw[Int.toNat_natCast]; omega
 simp only[if_true]
 rw[if_pos h1]
 refine (fill_loop x (fun y=>y) (fun out=>some (out,())) (by omega) ?_ ?_ _ (by simp)).trans (by simp)
 ·intro rec out ho; simp
 ·intro rec i out y hx hi ho
  have hy:wPost y≤137438953472:=by have:=sum_mem wPost (List.mem_of_getElem? hx); unfold wPostS at hw; omega
  simp only[Int.toNat_natCast,ho,ge_ok hi,decide_true,cond_true,if_true,and_self,rd_get (e:=(.pair .i64 (.pair .i64 (.pair .i64 (.pair (.pair .str (.pair .i64 (.pair .str (.sl 0 .i64)))) (.pair (.pair .i64 (.pair .str (.sl 0 .i64))) (.pair (.pair .i64 (.pair .str (.sl 0 .i64))) (.pair .i64 (.pair .i64 (.pair .i64 (.pair .i64 .i64))))))))))) hx,toPost_eq y hy,Option.bind_some,wr_nat (show i<4611686018427387904 by omega)]
theorem toRep_eq (x:TRep) (hw:wRep x≤137438953472):laws_toRep (x,())=some (x,()):=by
 unfold laws_toRep
 unfold wRep at hw
 simp only[toSafe_eq x.2.2.2.1 (by omega),toTxS_eq x.2.2.2.2.1 (by omega),toPartS_eq x.2.2.2.2.2.1 (by omega),toDisk_eq x.2.2.2.2.2.2.1 (by have:=hw; simp only[wIntS,wByteS,wDisk] at this; omega),toPostS_eq x.2.2.2.2.2.2.2 (by omega),Option.bind_some]
theorem toConf_eq (x:TConf):laws_toConf (x,())=some (x,()):=by
 rfl
theorem eqTx_self (x:TTx):laws_eqTx (x,x,())=some (true,()):=by
 unfold laws_eqTx
 simp only[bne_self_eq_false,cond_false]
theorem eqQc_self (x:TQc) (hw:wQc x≤137438953472):laws_eqQc (x,x,())=some (true,()):=by
 unfold laws_eqQc
 unfold wQc at hw
 simp only[bne_self_eq_false,cond_false,eqIntS_self x.2.2 (by have:=hw; simp only[wIntS,wByteS,wDisk] at this; omega),Option.bind_some,Bool.not_true]
theorem eqPart_self (x:TPart) (hw:wPart x≤137438953472):laws_eqPart (x,x,())=some (true,()):=by
 unfold laws_eqPart
 unfold wPart at hw
 simp only[bne_self_eq_false,cond_false,eqIntS_self x.2.2 (by have:=hw; simp only[wIntS,wByteS,wDisk] at this; omega),Option.bind_some,Bool.not_true]
theorem eqBlock_self (x:TBlock) (hw:wBlock x≤137438953472):laws_eqBlock (x,x,())=some (true,()):=by
 unfold laws_eqBlock
 unfold wBlock at hw
 simp only[bne_self_eq_false,cond_false,eqQc_self x.2 (by omega),Option.bind_some,Bool.not_true]
theorem eqMsg_self (x:TMsg) (hw:wMsg x≤137438953472):laws_eqMsg (x,x,())=some (true,()):=by
 unfold laws_eqMsg
 unfold wMsg at hw
 simp only[bne_self_eq_false,cond_false,eqBlock_self x.2.2.1 (by omega),eqPart_self x.2.2.2.1 (by omega),eqQc_self x.2.2.2.2.1 (by omega),eqTx_self x.2.2.2.2.2.2,Option.bind_some,Bool.not_true]
theorem eqPost_self (x:TPost) (hw:wPost x≤137438953472):laws_eqPost (x,x,())=some (true,()):=by
 unfold laws_eqPost
 unfold wPost at hw
 simp only[bne_self_eq_false,cond_false,eqMsg_self x.2 (by omega),Option.bind_some,Bool.not_true]
theorem eqSafe_self (x:TSafe) (hw:wSafe x≤137438953472):laws_eqSafe (x,x,())=some (true,()):=by
 unfold laws_eqSafe
 unfold wSafe at hw
 simp only[bne_self_eq_false,cond_false,eqQc_self x.2.2.1 (by omega),Option.bind_some,Bool.not_true]
theorem eqTxS_self (x:TTxS) (hw:wTxS x≤137438953472):laws_eqTxS (x,x,())=some (true,()):=by
 have hl:x.length≤137438953472:=by unfold wTxS at hw; omega
 unfold laws_eqTxS
 simp only[bne_self_eq_false,cond_false]
 refine eq_loop x (true,()) (by omega) ?_ ?_
 ·intro rec s; simp
 ·intro rec i s y hx hi
  simp only[Int.toNat_natCast,ge_ok hi,decide_true,cond_true,if_true,and_self,rd_get (e:=(.pair .i64 (.pair .i64 (.pair .i64 .i64)))) hx,eqTx_self y,Option.bind_some,Bool.not_true,cond_false,wr_nat (show i<4611686018427387904 by omega)]
theorem eqPartS_self (x:TPartS) (hw:wPartS x≤137438953472):laws_eqPartS (x,x,())=some (true,()):=by
 have hl:x.length≤137438953472:=by unfold wPartS at hw; omega
 unfold laws_eqPartS
 simp only[bne_self_eq_false,cond_false]
 refine eq_loop x (true,()) (by omega) ?_ ?_
 ·intro rec s; simp
 ·intro rec i s y hx hi
  have hy:wPart y≤137438953472:=by have:=sum_mem wPart (List.mem_of_getElem? hx); unfold wPartS at hw; omega
  simp only[Int.toNat_natCast,ge_ok hi,decide_true,cond_true,if_true,and_self,rd_get (e:=(.pair .i64 (.pair .str (.sl 0 .i64)))) hx,eqPart_self y hy,Option.bind_some,Bool.not_true,cond_false,wr_nat (show i<4611686018427387904 by omega)]
theorem eqPostS_self (x:TPostS) (hw:wPostS x≤137438953472):laws_eqPostS (x,x,())=some (true,()):=by
 have hl:x.length≤137438953472:=by unfold wPostS at hw; omega
 unfold laws_eqPostS
 simp only[bne_self_eq_false,cond_false]
 refine eq_loop x (true,()) (by omega) ?_ ?_
 ·intro rec s; simp
 ·intro rec i s y hx hi
  have hy:wPost y≤137438953472:=by have:=sum_mem wPost (List.mem_of_getElem? hx); unfold wPostS at hw; omega
  simp only[Int.toNat_natCast,ge_ok hi,decide_true,cond_true,if_true,and_self,rd_get (e:=(.pair .i64 (.pair .i64 (.pair .i64 (.pair (.pair .str (.pair .i64 (.pair .str (.sl 0 .i64)))) (.pair (.pair .i64 (.pair .str (.sl 0 .i64))) (.pair (.pair .i64 (.pair .str (.sl 0 .i64))) (.pair .i64 (.pair .i64 (.pair .i64 (.pair .i64 .i64))))))))))) hx,eqPost_self y hy,Option.bind_some,Bool.not_true,cond_false,wr_nat (show i<4611686018427387904 by omega)]
theorem eqRep_self (x:TRep) (hw:wRep x≤137438953472):laws_eqRep (x,x,())=some (true,()):=by
 unfold laws_eqRep
 unfold wRep at hw
 simp only[bne_self_eq_false,cond_false,eqSafe_self x.2.2.2.1 (by omega),eqTxS_self x.2.2.2.2.1 (by omega),eqPartS_self x.2.2.2.2.2.1 (by omega),eqDisk_self x.2.2.2.2.2.2.1 (by have:=hw; simp only[wIntS,wByteS,wDisk] at this; omega),eqPostS_self x.2.2.2.2.2.2.2 (by omega),Option.bind_some,Bool.not_true]
def dIntS (x:TIntS):Nat:=x.length
def dByteS (x:TByteS):Nat:=x.length
theorem markIntS_eq' (x:TIntS) (k:Int) (h0:0≤k) (hM:k+(dIntS x:Nat)≤4611686018427387904):laws_markIntS (x,k,())=some ((mapA FI x k).1,k+(dIntS x:Nat),()):=by
 unfold dIntS at *; exact markIntS_eq x k h0 hM (by omega)
theorem heldIntS_eq' (x:TIntS) (k:Int) (h0:0≤k) (hM:k+(dIntS x:Nat)≤4611686018427387904):laws_heldIntS ((mapA FI x k).1,k,())=some (k+(dIntS x:Nat),()):=by
 unfold dIntS at *; exact heldIntS_eq x k h0 hM (by omega)
theorem markByteS_eq' (x:TByteS) (k:Int) (h0:0≤k) (hM:k+(dByteS x:Nat)≤4611686018427387904):laws_markByteS (x,k,())=some ((mapA FB x k).1,k+(dByteS x:Nat),()):=by
 unfold dByteS at *; exact markByteS_eq x k h0 hM (by omega)
theorem heldByteS_eq' (x:TByteS) (k:Int) (h0:0≤k) (hM:k+(dByteS x:Nat)≤4611686018427387904):laws_heldByteS ((mapA FB x k).1,k,())=some (k+(dByteS x:Nat),()):=by
 unfold dByteS at *; exact heldByteS_eq x k h0 hM (by omega)
theorem dIntS_le (x:TIntS):dIntS x≤20*wIntS x:=by unfold dIntS wIntS; omega
theorem dByteS_le (x:TByteS):dByteS x≤20*wByteS x:=by unfold dByteS wByteS; omega
def dDisk (x:TDisk):Nat:=dByteS x.1
theorem markDisk_eq' (x:TDisk) (k:Int) (h0:0≤k) (hM:k+(dDisk x:Nat)≤4611686018427387904):laws_markDisk (x,k,())=some (((mapA FB x.1 k).1,x.2),k+(dDisk x:Nat),()):=by
 unfold laws_markDisk dDisk at *
 simp only[markByteS_eq' x.1 k h0 hM,Option.bind_some]
theorem heldDisk_eq' (x:TByteS) (v:Int) (k:Int) (h0:0≤k) (hM:k+(dByteS x:Nat)≤4611686018427387904):laws_heldDisk (((mapA FB x k).1,v),k,())=some (k+(dByteS x:Nat),()):=by
 unfold laws_heldDisk
 simp only[heldByteS_eq' x k h0 hM,Option.bind_some]
 rw[show decide (k+(dByteS x:Int)<0)=false by simp; omega]
 rfl
theorem neg_all1 {k:Int} {n:Nat} (h:0≤k):decide (k+(n:Int)<0)=false:=by simp; omega
theorem neg_no {k:Int} {n:Nat} (h:0≤k):decide (k+(n:Int)<0)=false:=by simp; omega
noncomputable def FTx (x:TTx) (k:Int):TTx×Int:=((k,(k+1),((k+1)+1),(((k+1)+1)+1)),((((k+1)+1)+1)+1))
def cTx (x:TTx):Nat:=1+1+1+1
theorem FTx_cnt (x:TTx) (k:Int):(FTx x k).2=k+(cTx x:Nat):=by simp only[FTx,cTx]; omega
noncomputable def FPart (x:TPart) (k:Int):TPart×Int:=((k,(mtext (k+1)),(mapA FI x.2.2 ((k+1)+1)).1),(((k+1)+1)+(dIntS x.2.2:Nat)))
def cPart (x:TPart):Nat:=1+1+dIntS x.2.2
theorem FPart_cnt (x:TPart) (k:Int):(FPart x k).2=k+(cPart x:Nat):=by simp only[FPart,cPart]; omega
theorem cPart_le (x:TPart):cPart x≤20+20*wPart x:=by
 have h0:=dIntS_le x.2.2
 simp only[cPart,wBlock,wByteS,wDeed,wDisk,wIntS,wLedger,wMsg,wPart,wPost,wQc,wRep,wSafe,wSaid,wWire,wWorld] at *
 omega
def dPart (x:TPart):Nat:=dIntS x.2.2
def dQc (x:TQc):Nat:=dIntS x.2.2
theorem markQc_eq' (x:TQc) (k:Int) (h0:0≤k) (hM:k+(dQc x:Nat)≤4611686018427387904):laws_markQc (x,k,())=some ((x.1,x.2.1,(mapA FI x.2.2 k).1),k+(dQc x:Nat),()):=by
 unfold laws_markQc dQc at *
 simp only[markIntS_eq' x.2.2 (k) (by omega) (by first|omega|(simp only[dPart,dQc,dDisk] at *; omega)),Option.bind_some,dPart,dQc,dDisk,Int.natCast_add,←Int.add_assoc]
theorem heldQc_eq' (x:TQc) (v0:Int) (v1:List UInt8) (k:Int) (h0:0≤k) (hM:k+(dQc x:Nat)≤4611686018427387904):laws_heldQc ((v0,v1,(mapA FI x.2.2 k).1),k,())=some (k+(dQc x:Nat),()):=by
 unfold laws_heldQc dQc at *
 simp only[heldIntS_eq' x.2.2  (k) (by omega) (by first|omega|(simp only[dPart,dQc,dDisk] at *; omega)),neg_all1 (show 0≤k by omega),Option.bind_some,cond_false,dPart,dQc,dDisk,Int.natCast_add,←Int.add_assoc]
def dTxS (x:TTxS):Nat:=(x.map cTx).sum
theorem dTxS_le (x:TTxS):dTxS x≤20*wTxS x:=by
 unfold dTxS wTxS
 induction x with
 | nil=>simp
 | cons y r ih=>simp only[List.map_cons,List.sum_cons,List.length_cons,cTx]; omega
theorem markTxS_eq' (x:TTxS) (k:Int) (h0:0≤k) (hM:k+(dTxS x:Nat)≤4611686018427387904):laws_markTxS (x,k,())=some ((mapA FTx x k).1,k+(dTxS x:Nat),()):=by
 have hle:x.length≤dTxS x:=by
  unfold dTxS
  clear hM h0
  induction x with
  | nil=>simp
  | cons y r ih=>simp only[List.map_cons,List.sum_cons,List.length_cons,cTx]; omega
 unfold laws_markTxS
 have hr:=mapA_cnt FTx_cnt x k
 rw[show (dTxS x)=(x.map cTx).sum from rfl,←hr]
 refine mark_loop (e:=(.pair .i64 (.pair .i64 (.pair .i64 .i64)))) FTx cTx FTx_cnt x k h0 hM (by omega) ?_ ?_
 ·intro rec pre k hp; simp
 ·intro rec pre x r k hp hk hkM
  unfold cTx at hkM
  simp only[Int.toNat_natCast,nn,walk_lt',decide_true,cond_true,and_self,if_true,modi_at (e:=(.pair .i64 (.pair .i64 (.pair .i64 .i64)))),set_at,rd_at (e:=(.pair .i64 (.pair .i64 (.pair .i64 .i64)))),Option.bind_some,wr_nat (show pre.length<4611686018427387904 by omega),FTx,
   wr_id' (show (-9223372036854775808:Int)≤k+1 by omega) (show k+1≤9223372036854775807 by omega),
   wr_id' (show (-9223372036854775808:Int)≤(k+1)+1 by omega) (show (k+1)+1≤9223372036854775807 by omega),
   wr_id' (show (-9223372036854775808:Int)≤((k+1)+1)+1 by omega) (show ((k+1)+1)+1≤9223372036854775807 by omega),
   wr_id' (show (-9223372036854775808:Int)≤(((k+1)+1)+1)+1 by omega) (show (((k+1)+1)+1)+1≤9223372036854775807 by omega)]
theorem heldTxS_eq' (x:TTxS) (k:Int) (h0:0≤k) (hM:k+(dTxS x:Nat)≤4611686018427387904):laws_heldTxS ((mapA FTx x k).1,k,())=some (k+(dTxS x:Nat),()):=by
 have hle:x.length≤dTxS x:=by
  unfold dTxS
  clear hM h0
  induction x with
  | nil=>simp
  | cons y r ih=>simp only[List.map_cons,List.sum_cons,List.length_cons,cTx]; omega
 unfold laws_heldTxS
 have hr:=mapA_cnt FTx_cnt x k
 rw[show (dTxS x)=(x.map cTx).sum from rfl,←hr]
 refine held_loop (e:=(.pair .i64 (.pair .i64 (.pair .i64 .i64)))) (mapA FTx x k).1 FTx cTx FTx_cnt x k h0 hM (by omega) rfl ?_ ?_
 ·intro rec k; simp
 ·intro rec i x k hx hi hk hkM
  rw[mapA_len] at hi
  unfold cTx at hkM
  simp only[Int.toNat_natCast,mapA_len,ge_ok hi,decide_true,cond_true,and_self,if_true,rd_get (e:=(.pair .i64 (.pair .i64 (.pair .i64 .i64)))) hx,FTx,bne_self_eq_false,cond_false,Option.bind_some,wr_nat (show i<4611686018427387904 by omega),
   wr_id' (show (-9223372036854775808:Int)≤k+1 by omega) (show k+1≤9223372036854775807 by omega),
   wr_id' (show (-9223372036854775808:Int)≤(k+1)+1 by omega) (show (k+1)+1≤9223372036854775807 by omega),
   wr_id' (show (-9223372036854775808:Int)≤((k+1)+1)+1 by omega) (show ((k+1)+1)+1≤9223372036854775807 by omega),
   wr_id' (show (-9223372036854775808:Int)≤(((k+1)+1)+1)+1 by omega) (show (((k+1)+1)+1)+1≤9223372036854775807 by omega)]
def dPartS (x:TPartS):Nat:=(x.map cPart).sum
theorem dPartS_le (x:TPartS):dPartS x≤20*wPartS x:=by
 unfold dPartS wPartS
 have h1:=sum_le cPart (fun y=>20+20*wPart y) x (fun y _=>cPart_le y)
 rw[sum_lin] at h1
 exact h1
theorem markPartS_eq' (x:TPartS) (k:Int) (h0:0≤k) (hM:k+(dPartS x:Nat)≤4611686018427387904):laws_markPartS (x,k,())=some ((mapA FPart x k).1,k+(dPartS x:Nat),()):=by
 have hle:x.length≤dPartS x:=by
  unfold dPartS
  clear hM h0
  induction x with
  | nil=>simp
  | cons y r ih=>simp only[List.map_cons,List.sum_cons,List.length_cons,cPart]; omega
 unfold laws_markPartS
 have hr:=mapA_cnt FPart_cnt x k
 rw[show (dPartS x)=(x.map cPart).sum from rfl,←hr]
 refine mark_loop (e:=(.pair .i64 (.pair .str (.sl 0 .i64)))) FPart cPart FPart_cnt x k h0 hM (by omega) ?_ ?_
 ·intro rec pre k hp; simp
 ·intro rec pre x r k hp hk hkM
  unfold cPart at hkM
  simp only[Int.toNat_natCast,nn,walk_lt',decide_true,cond_true,and_self,if_true,modi_at (e:=(.pair .i64 (.pair .str (.sl 0 .i64)))),set_at,rd_at (e:=(.pair .i64 (.pair .str (.sl 0 .i64)))),Option.bind_some,wr_nat (show pre.length<4611686018427387904 by omega),FPart,
   wr_id' (show (-9223372036854775808:Int)≤k+1 by omega) (show k+1≤9223372036854775807 by omega),
   markText_eq (k+1) (by omega),
   wr_id' (show (-9223372036854775808:Int)≤(k+1)+1 by omega) (show (k+1)+1≤9223372036854775807 by omega),
   markIntS_eq' x.2.2 ((k+1)+1) (by omega) (by omega)]
theorem heldPartS_eq' (x:TPartS) (k:Int) (h0:0≤k) (hM:k+(dPartS x:Nat)≤4611686018427387904):laws_heldPartS ((mapA FPart x k).1,k,())=some (k+(dPartS x:Nat),()):=by
 have hle:x.length≤dPartS x:=by
  unfold dPartS
  clear hM h0
  induction x with
  | nil=>simp
  | cons y r ih=>simp only[List.map_cons,List.sum_cons,List.length_cons,cPart]; omega
 unfold laws_heldPartS
 have hr:=mapA_cnt FPart_cnt x k
 rw[show (dPartS x)=(x.map cPart).sum from rfl,←hr]
 refine held_loop (e:=(.pair .i64 (.pair .str (.sl 0 .i64)))) (mapA FPart x k).1 FPart cPart FPart_cnt x k h0 hM (by omega) rfl ?_ ?_
 ·intro rec k; simp
 ·intro rec i x k hx hi hk hkM
  rw[mapA_len] at hi
  unfold cPart at hkM
  simp only[Int.toNat_natCast,mapA_len,ge_ok hi,decide_true,cond_true,and_self,if_true,rd_get (e:=(.pair .i64 (.pair .str (.sl 0 .i64)))) hx,FPart,bne_self_eq_false,cond_false,Option.bind_some,wr_nat (show i<4611686018427387904 by omega),
   wr_id' (show (-9223372036854775808:Int)≤k+1 by omega) (show k+1≤9223372036854775807 by omega),
   markText_eq (k+1) (by omega),
   wr_id' (show (-9223372036854775808:Int)≤(k+1)+1 by omega) (show (k+1)+1≤9223372036854775807 by omega),
   heldIntS_eq' x.2.2 ((k+1)+1) (by omega) (by omega),neg_no (n:=dIntS x.2.2) (show 0≤((k+1)+1) by omega)]
def dBlock (x:TBlock):Nat:=dIntS x.2.2.2
def dMsg (x:TMsg):Nat:=dIntS x.2.2.1.2.2.2+dIntS x.2.2.2.1.2.2+dIntS x.2.2.2.2.1.2.2
noncomputable def FPost (x:TPost) (k:Int):TPost×Int:=((k,((k+1),((k+1)+1),((mtext (((k+1)+1)+1)),(((((k+1)+1)+1)+1),(mtext (((((k+1)+1)+1)+1)+1)),(mapA FI x.2.2.2.1.2.2.2 ((((((k+1)+1)+1)+1)+1)+1)).1)),((((((((k+1)+1)+1)+1)+1)+1)+(dIntS x.2.2.2.1.2.2.2:Nat)),(mtext ((((((((k+1)+1)+1)+1)+1)+1)+(dIntS x.2.2.2.1.2.2.2:Nat))+1)),(mapA FI x.2.2.2.2.1.2.2 (((((((((k+1)+1)+1)+1)+1)+1)+(dIntS x.2.2.2.1.2.2.2:Nat))+1)+1)).1),(((((((((((k+1)+1)+1)+1)+1)+1)+(dIntS x.2.2.2.1.2.2.2:Nat))+1)+1)+(dIntS x.2.2.2.2.1.2.2:Nat)),(mtext (((((((((((k+1)+1)+1)+1)+1)+1)+(dIntS x.2.2.2.1.2.2.2:Nat))+1)+1)+(dIntS x.2.2.2.2.1.2.2:Nat))+1)),(mapA FI x.2.2.2.2.2.1.2.2 ((((((((((((k+1)+1)+1)+1)+1)+1)+(dIntS x.2.2.2.1.2.2.2:Nat))+1)+1)+(dIntS x.2.2.2.2.1.2.2:Nat))+1)+1)).1),(((((((((((((k+1)+1)+1)+1)+1)+1)+(dIntS x.2.2.2.1.2.2.2:Nat))+1)+1)+(dIntS x.2.2.2.2.1.2.2:Nat))+1)+1)+(dIntS x.2.2.2.2.2.1.2.2:Nat)),(((((((((((((((k+1)+1)+1)+1)+1)+1)+(dIntS x.2.2.2.1.2.2.2:Nat))+1)+1)+(dIntS x.2.2.2.2.1.2.2:Nat))+1)+1)+(dIntS x.2.2.2.2.2.1.2.2:Nat))+1),(((((((((((((((k+1)+1)+1)+1)+1)+1)+(dIntS x.2.2.2.1.2.2.2:Nat))+1)+1)+(dIntS x.2.2.2.2.1.2.2:Nat))+1)+1)+(dIntS x.2.2.2.2.2.1.2.2:Nat))+1)+1),((((((((((((((((k+1)+1)+1)+1)+1)+1)+(dIntS x.2.2.2.1.2.2.2:Nat))+1)+1)+(dIntS x.2.2.2.2.1.2.2:Nat))+1)+1)+(dIntS x.2.2.2.2.2.1.2.2:Nat))+1)+1)+1),(((((((((((((((((k+1)+1)+1)+1)+1)+1)+(dIntS x.2.2.2.1.2.2.2:Nat))+1)+1)+(dIntS x.2.2.2.2.1.2.2:Nat))+1)+1)+(dIntS x.2.2.2.2.2.1.2.2:Nat))+1)+1)+1)+1)))),((((((((((((((((((k+1)+1)+1)+1)+1)+1)+(dIntS x.2.2.2.1.2.2.2:Nat))+1)+1)+(dIntS x.2.2.2.2.1.2.2:Nat))+1)+1)+(dIntS x.2.2.2.2.2.1.2.2:Nat))+1)+1)+1)+1)+1))
def cPost (x:TPost):Nat:=1+1+1+1+1+1+dIntS x.2.2.2.1.2.2.2+1+1+dIntS x.2.2.2.2.1.2.2+1+1+dIntS x.2.2.2.2.2.1.2.2+1+1+1+1+1
theorem FPost_cnt (x:TPost) (k:Int):(FPost x k).2=k+(cPost x:Nat):=by simp only[FPost,cPost]; omega
theorem cPost_le (x:TPost):cPost x≤20+20*wPost x:=by
 have h0:=dIntS_le x.2.2.2.1.2.2.2
 have h1:=dIntS_le x.2.2.2.2.1.2.2
 have h2:=dIntS_le x.2.2.2.2.2.1.2.2
 simp only[cPost,wBlock,wByteS,wDeed,wDisk,wIntS,wLedger,wMsg,wPart,wPost,wQc,wRep,wSafe,wSaid,wWire,wWorld] at *
 omega
def dPost (x:TPost):Nat:=dIntS x.2.2.2.1.2.2.2+dIntS x.2.2.2.2.1.2.2+dIntS x.2.2.2.2.2.1.2.2
def dPostS (x:TPostS):Nat:=(x.map cPost).sum
theorem dPostS_le (x:TPostS):dPostS x≤20*wPostS x:=by
 unfold dPostS wPostS
 have h1:=sum_le cPost (fun y=>20+20*wPost y) x (fun y _=>cPost_le y)
 rw[sum_lin] at h1
 exact h1
theorem markPostS_eq' (x:TPostS) (k:Int) (h0:0≤k) (hM:k+(dPostS x:Nat)≤4611686018427387904):laws_markPostS (x,k,())=some ((mapA FPost x k).1,k+(dPostS x:Nat),()):=by
 have hle:x.length≤dPostS x:=by
  unfold dPostS
  clear hM h0
  induction x with
  | nil=>simp
  | cons y r ih=>simp only[List.map_cons,List.sum_cons,List.length_cons,cPost]; omega
 unfold laws_markPostS
 have hr:=mapA_cnt FPost_cnt x k
 rw[show (dPostS x)=(x.map cPost).sum from rfl,←hr]
 refine mark_loop (e:=(.pair .i64 (.pair .i64 (.pair .i64 (.pair (.pair .str (.pair .i64 (.pair .str (.sl 0 .i64)))) (.pair (.pair .i64 (.pair .str (.sl 0 .i64))) (.pair (.pair .i64 (.pair .str (.sl 0 .i64))) (.pair .i64 (.pair .i64 (.pair .i64 (.pair .i64 .i64))))))))))) FPost cPost FPost_cnt x k h0 hM (by omega) ?_ ?_
 ·intro rec pre k hp; simp
 ·intro rec pre x r k hp hk hkM
  unfold cPost at hkM
  simp only[Int.toNat_natCast,nn,walk_lt',decide_true,cond_true,and_self,if_true,modi_at (e:=(.pair .i64 (.pair .i64 (.pair .i64 (.pair (.pair .str (.pair .i64 (.pair .str (.sl 0 .i64)))) (.pair (.pair .i64 (.pair .str (.sl 0 .i64))) (.pair (.pair .i64 (.pair .str (.sl 0 .i64))) (.pair .i64 (.pair .i64 (.pair .i64 (.pair .i64 .i64))))))))))),set_at,rd_at (e:=(.pair .i64 (.pair .i64 (.pair .i64 (.pair (.pair .str (.pair .i64 (.pair .str (.sl 0 .i64)))) (.pair (.pair .i64 (.pair .str (.sl 0 .i64))) (.pair (.pair .i64 (.pair .str (.sl 0 .i64))) (.pair .i64 (.pair .i64 (.pair .i64 (.pair .i64 .i64))))))))))),Option.bind_some,wr_nat (show pre.length<4611686018427387904 by omega),FPost,
   wr_id' (show (-9223372036854775808:Int)≤k+1 by omega) (show k+1≤9223372036854775807 by omega),
   wr_id' (show (-9223372036854775808:Int)≤(k+1)+1 by omega) (show (k+1)+1≤9223372036854775807 by omega),
   wr_id' (show (-9223372036854775808:Int)≤((k+1)+1)+1 by omega) (show ((k+1)+1)+1≤9223372036854775807 by omega),
   markText_eq (((k+1)+1)+1) (by omega),
   wr_id' (show (-9223372036854775808:Int)≤(((k+1)+1)+1)+1 by omega) (show (((k+1)+1)+1)+1≤9223372036854775807 by omega),
   wr_id' (show (-9223372036854775808:Int)≤((((k+1)+1)+1)+1)+1 by omega) (show ((((k+1)+1)+1)+1)+1≤9223372036854775807 by omega),
   markText_eq (((((k+1)+1)+1)+1)+1) (by omega),
   wr_id' (show (-9223372036854775808:Int)≤(((((k+1)+1)+1)+1)+1)+1 by omega) (show (((((k+1)+1)+1)+1)+1)+1≤9223372036854775807 by omega),
   markIntS_eq' x.2.2.2.1.2.2.2 ((((((k+1)+1)+1)+1)+1)+1) (by omega) (by omega),
   wr_id' (show (-9223372036854775808:Int)≤(((((((k+1)+1)+1)+1)+1)+1)+(dIntS x.2.2.2.1.2.2.2:Nat))+1 by omega) (show (((((((k+1)+1)+1)+1)+1)+1)+(dIntS x.2.2.2.1.2.2.2:Nat))+1≤9223372036854775807 by omega),
   markText_eq ((((((((k+1)+1)+1)+1)+1)+1)+(dIntS x.2.2.2.1.2.2.2:Nat))+1) (by omega),
   wr_id' (show (-9223372036854775808:Int)≤((((((((k+1)+1)+1)+1)+1)+1)+(dIntS x.2.2.2.1.2.2.2:Nat))+1)+1 by omega) (show ((((((((k+1)+1)+1)+1)+1)+1)+(dIntS x.2.2.2.1.2.2.2:Nat))+1)+1≤9223372036854775807 by omega),
   markIntS_eq' x.2.2.2.2.1.2.2 (((((((((k+1)+1)+1)+1)+1)+1)+(dIntS x.2.2.2.1.2.2.2:Nat))+1)+1) (by omega) (by omega),
   wr_id' (show (-9223372036854775808:Int)≤((((((((((k+1)+1)+1)+1)+1)+1)+(dIntS x.2.2.2.1.2.2.2:Nat))+1)+1)+(dIntS x.2.2.2.2.1.2.2:Nat))+1 by omega) (show ((((((((((k+1)+1)+1)+1)+1)+1)+(dIntS x.2.2.2.1.2.2.2:Nat))+1)+1)+(dIntS x.2.2.2.2.1.2.2:Nat))+1≤9223372036854775807 by omega),
   markText_eq (((((((((((k+1)+1)+1)+1)+1)+1)+(dIntS x.2.2.2.1.2.2.2:Nat))+1)+1)+(dIntS x.2.2.2.2.1.2.2:Nat))+1) (by omega),
   wr_id' (show (-9223372036854775808:Int)≤(((((((((((k+1)+1)+1)+1)+1)+1)+(dIntS x.2.2.2.1.2.2.2:Nat))+1)+1)+(dIntS x.2.2.2.2.1.2.2:Nat))+1)+1 by omega) (show (((((((((((k+1)+1)+1)+1)+1)+1)+(dIntS x.2.2.2.1.2.2.2:Nat))+1)+1)+(dIntS x.2.2.2.2.1.2.2:Nat))+1)+1≤9223372036854775807 by omega),
   markIntS_eq' x.2.2.2.2.2.1.2.2 ((((((((((((k+1)+1)+1)+1)+1)+1)+(dIntS x.2.2.2.1.2.2.2:Nat))+1)+1)+(dIntS x.2.2.2.2.1.2.2:Nat))+1)+1) (by omega) (by omega),
   wr_id' (show (-9223372036854775808:Int)≤(((((((((((((k+1)+1)+1)+1)+1)+1)+(dIntS x.2.2.2.1.2.2.2:Nat))+1)+1)+(dIntS x.2.2.2.2.1.2.2:Nat))+1)+1)+(dIntS x.2.2.2.2.2.1.2.2:Nat))+1 by omega) (show (((((((((((((k+1)+1)+1)+1)+1)+1)+(dIntS x.2.2.2.1.2.2.2:Nat))+1)+1)+(dIntS x.2.2.2.2.1.2.2:Nat))+1)+1)+(dIntS x.2.2.2.2.2.1.2.2:Nat))+1≤9223372036854775807 by omega),
   wr_id' (show (-9223372036854775808:Int)≤((((((((((((((k+1)+1)+1)+1)+1)+1)+(dIntS x.2.2.2.1.2.2.2:Nat))+1)+1)+(dIntS x.2.2.2.2.1.2.2:Nat))+1)+1)+(dIntS x.2.2.2.2.2.1.2.2:Nat))+1)+1 by omega) (show ((((((((((((((k+1)+1)+1)+1)+1)+1)+(dIntS x.2.2.2.1.2.2.2:Nat))+1)+1)+(dIntS x.2.2.2.2.1.2.2:Nat))+1)+1)+(dIntS x.2.2.2.2.2.1.2.2:Nat))+1)+1≤9223372036854775807 by omega),
   wr_id' (show (-9223372036854775808:Int)≤(((((((((((((((k+1)+1)+1)+1)+1)+1)+(dIntS x.2.2.2.1.2.2.2:Nat))+1)+1)+(dIntS x.2.2.2.2.1.2.2:Nat))+1)+1)+(dIntS x.2.2.2.2.2.1.2.2:Nat))+1)+1)+1 by omega) (show (((((((((((((((k+1)+1)+1)+1)+1)+1)+(dIntS x.2.2.2.1.2.2.2:Nat))+1)+1)+(dIntS x.2.2.2.2.1.2.2:Nat))+1)+1)+(dIntS x.2.2.2.2.2.1.2.2:Nat))+1)+1)+1≤9223372036854775807 by omega),
   wr_id' (show (-9223372036854775808:Int)≤((((((((((((((((k+1)+1)+1)+1)+1)+1)+(dIntS x.2.2.2.1.2.2.2:Nat))+1)+1)+(dIntS x.2.2.2.2.1.2.2:Nat))+1)+1)+(dIntS x.2.2.2.2.2.1.2.2:Nat))+1)+1)+1)+1 by omega) (show ((((((((((((((((k+1)+1)+1)+1)+1)+1)+(dIntS x.2.2.2.1.2.2.2:Nat))+1)+1)+(dIntS x.2.2.2.2.1.2.2:Nat))+1)+1)+(dIntS x.2.2.2.2.2.1.2.2:Nat))+1)+1)+1)+1≤9223372036854775807 by omega),
   wr_id' (show (-9223372036854775808:Int)≤(((((((((((((((((k+1)+1)+1)+1)+1)+1)+(dIntS x.2.2.2.1.2.2.2:Nat))+1)+1)+(dIntS x.2.2.2.2.1.2.2:Nat))+1)+1)+(dIntS x.2.2.2.2.2.1.2.2:Nat))+1)+1)+1)+1)+1 by omega) (show (((((((((((((((((k+1)+1)+1)+1)+1)+1)+(dIntS x.2.2.2.1.2.2.2:Nat))+1)+1)+(dIntS x.2.2.2.2.1.2.2:Nat))+1)+1)+(dIntS x.2.2.2.2.2.1.2.2:Nat))+1)+1)+1)+1)+1≤9223372036854775807 by omega)]
theorem heldPostS_eq' (x:TPostS) (k:Int) (h0:0≤k) (hM:k+(dPostS x:Nat)≤4611686018427387904):laws_heldPostS ((mapA FPost x k).1,k,())=some (k+(dPostS x:Nat),()):=by
 have hle:x.length≤dPostS x:=by
  unfold dPostS
  clear hM h0
  induction x with
  | nil=>simp
  | cons y r ih=>simp only[List.map_cons,List.sum_cons,List.length_cons,cPost]; omega
 unfold laws_heldPostS
 have hr:=mapA_cnt FPost_cnt x k
 rw[show (dPostS x)=(x.map cPost).sum from rfl,←hr]
 refine held_loop (e:=(.pair .i64 (.pair .i64 (.pair .i64 (.pair (.pair .str (.pair .i64 (.pair .str (.sl 0 .i64)))) (.pair (.pair .i64 (.pair .str (.sl 0 .i64))) (.pair (.pair .i64 (.pair .str (.sl 0 .i64))) (.pair .i64 (.pair .i64 (.pair .i64 (.pair .i64 .i64))))))))))) (mapA FPost x k).1 FPost cPost FPost_cnt x k h0 hM (by omega) rfl ?_ ?_
 ·intro rec k; simp
 ·intro rec i x k hx hi hk hkM
  rw[mapA_len] at hi
  unfold cPost at hkM
  simp only[Int.toNat_natCast,mapA_len,ge_ok hi,decide_true,cond_true,and_self,if_true,rd_get (e:=(.pair .i64 (.pair .i64 (.pair .i64 (.pair (.pair .str (.pair .i64 (.pair .str (.sl 0 .i64)))) (.pair (.pair .i64 (.pair .str (.sl 0 .i64))) (.pair (.pair .i64 (.pair .str (.sl 0 .i64))) (.pair .i64 (.pair .i64 (.pair .i64 (.pair .i64 .i64))))))))))) hx,FPost,bne_self_eq_false,cond_false,Option.bind_some,wr_nat (show i<4611686018427387904 by omega),
   wr_id' (show (-9223372036854775808:Int)≤k+1 by omega) (show k+1≤9223372036854775807 by omega),
   wr_id' (show (-9223372036854775808:Int)≤(k+1)+1 by omega) (show (k+1)+1≤9223372036854775807 by omega),
   wr_id' (show (-9223372036854775808:Int)≤((k+1)+1)+1 by omega) (show ((k+1)+1)+1≤9223372036854775807 by omega),
   markText_eq (((k+1)+1)+1) (by omega),
   wr_id' (show (-9223372036854775808:Int)≤(((k+1)+1)+1)+1 by omega) (show (((k+1)+1)+1)+1≤9223372036854775807 by omega),
   wr_id' (show (-9223372036854775808:Int)≤((((k+1)+1)+1)+1)+1 by omega) (show ((((k+1)+1)+1)+1)+1≤9223372036854775807 by omega),
   markText_eq (((((k+1)+1)+1)+1)+1) (by omega),
   wr_id' (show (-9223372036854775808:Int)≤(((((k+1)+1)+1)+1)+1)+1 by omega) (show (((((k+1)+1)+1)+1)+1)+1≤9223372036854775807 by omega),
   heldIntS_eq' x.2.2.2.1.2.2.2 ((((((k+1)+1)+1)+1)+1)+1) (by omega) (by omega),neg_no (n:=dIntS x.2.2.2.1.2.2.2) (show 0≤((((((k+1)+1)+1)+1)+1)+1) by omega),
   wr_id' (show (-9223372036854775808:Int)≤(((((((k+1)+1)+1)+1)+1)+1)+(dIntS x.2.2.2.1.2.2.2:Nat))+1 by omega) (show (((((((k+1)+1)+1)+1)+1)+1)+(dIntS x.2.2.2.1.2.2.2:Nat))+1≤9223372036854775807 by omega),
   markText_eq ((((((((k+1)+1)+1)+1)+1)+1)+(dIntS x.2.2.2.1.2.2.2:Nat))+1) (by omega),
   wr_id' (show (-9223372036854775808:Int)≤((((((((k+1)+1)+1)+1)+1)+1)+(dIntS x.2.2.2.1.2.2.2:Nat))+1)+1 by omega) (show ((((((((k+1)+1)+1)+1)+1)+1)+(dIntS x.2.2.2.1.2.2.2:Nat))+1)+1≤9223372036854775807 by omega),
   heldIntS_eq' x.2.2.2.2.1.2.2 (((((((((k+1)+1)+1)+1)+1)+1)+(dIntS x.2.2.2.1.2.2.2:Nat))+1)+1) (by omega) (by omega),neg_no (n:=dIntS x.2.2.2.2.1.2.2) (show 0≤(((((((((k+1)+1)+1)+1)+1)+1)+(dIntS x.2.2.2.1.2.2.2:Nat))+1)+1) by omega),
   wr_id' (show (-9223372036854775808:Int)≤((((((((((k+1)+1)+1)+1)+1)+1)+(dIntS x.2.2.2.1.2.2.2:Nat))+1)+1)+(dIntS x.2.2.2.2.1.2.2:Nat))+1 by omega) (show ((((((((((k+1)+1)+1)+1)+1)+1)+(dIntS x.2.2.2.1.2.2.2:Nat))+1)+1)+(dIntS x.2.2.2.2.1.2.2:Nat))+1≤9223372036854775807 by omega),
   markText_eq (((((((((((k+1)+1)+1)+1)+1)+1)+(dIntS x.2.2.2.1.2.2.2:Nat))+1)+1)+(dIntS x.2.2.2.2.1.2.2:Nat))+1) (by omega),
   wr_id' (show (-9223372036854775808:Int)≤(((((((((((k+1)+1)+1)+1)+1)+1)+(dIntS x.2.2.2.1.2.2.2:Nat))+1)+1)+(dIntS x.2.2.2.2.1.2.2:Nat))+1)+1 by omega) (show (((((((((((k+1)+1)+1)+1)+1)+1)+(dIntS x.2.2.2.1.2.2.2:Nat))+1)+1)+(dIntS x.2.2.2.2.1.2.2:Nat))+1)+1≤9223372036854775807 by omega),
   heldIntS_eq' x.2.2.2.2.2.1.2.2 ((((((((((((k+1)+1)+1)+1)+1)+1)+(dIntS x.2.2.2.1.2.2.2:Nat))+1)+1)+(dIntS x.2.2.2.2.1.2.2:Nat))+1)+1) (by omega) (by omega),neg_no (n:=dIntS x.2.2.2.2.2.1.2.2) (show 0≤((((((((((((k+1)+1)+1)+1)+1)+1)+(dIntS x.2.2.2.1.2.2.2:Nat))+1)+1)+(dIntS x.2.2.2.2.1.2.2:Nat))+1)+1) by omega),
   wr_id' (show (-9223372036854775808:Int)≤(((((((((((((k+1)+1)+1)+1)+1)+1)+(dIntS x.2.2.2.1.2.2.2:Nat))+1)+1)+(dIntS x.2.2.2.2.1.2.2:Nat))+1)+1)+(dIntS x.2.2.2.2.2.1.2.2:Nat))+1 by omega) (show (((((((((((((k+1)+1)+1)+1)+1)+1)+(dIntS x.2.2.2.1.2.2.2:Nat))+1)+1)+(dIntS x.2.2.2.2.1.2.2:Nat))+1)+1)+(dIntS x.2.2.2.2.2.1.2.2:Nat))+1≤9223372036854775807 by omega),
   wr_id' (show (-9223372036854775808:Int)≤((((((((((((((k+1)+1)+1)+1)+1)+1)+(dIntS x.2.2.2.1.2.2.2:Nat))+1)+1)+(dIntS x.2.2.2.2.1.2.2:Nat))+1)+1)+(dIntS x.2.2.2.2.2.1.2.2:Nat))+1)+1 by omega) (show ((((((((((((((k+1)+1)+1)+1)+1)+1)+(dIntS x.2.2.2.1.2.2.2:Nat))+1)+1)+(dIntS x.2.2.2.2.1.2.2:Nat))+1)+1)+(dIntS x.2.2.2.2.2.1.2.2:Nat))+1)+1≤9223372036854775807 by omega),
   wr_id' (show (-9223372036854775808:Int)≤(((((((((((((((k+1)+1)+1)+1)+1)+1)+(dIntS x.2.2.2.1.2.2.2:Nat))+1)+1)+(dIntS x.2.2.2.2.1.2.2:Nat))+1)+1)+(dIntS x.2.2.2.2.2.1.2.2:Nat))+1)+1)+1 by omega) (show (((((((((((((((k+1)+1)+1)+1)+1)+1)+(dIntS x.2.2.2.1.2.2.2:Nat))+1)+1)+(dIntS x.2.2.2.2.1.2.2:Nat))+1)+1)+(dIntS x.2.2.2.2.2.1.2.2:Nat))+1)+1)+1≤9223372036854775807 by omega),
   wr_id' (show (-9223372036854775808:Int)≤((((((((((((((((k+1)+1)+1)+1)+1)+1)+(dIntS x.2.2.2.1.2.2.2:Nat))+1)+1)+(dIntS x.2.2.2.2.1.2.2:Nat))+1)+1)+(dIntS x.2.2.2.2.2.1.2.2:Nat))+1)+1)+1)+1 by omega) (show ((((((((((((((((k+1)+1)+1)+1)+1)+1)+(dIntS x.2.2.2.1.2.2.2:Nat))+1)+1)+(dIntS x.2.2.2.2.1.2.2:Nat))+1)+1)+(dIntS x.2.2.2.2.2.1.2.2:Nat))+1)+1)+1)+1≤9223372036854775807 by omega),
   wr_id' (show (-9223372036854775808:Int)≤(((((((((((((((((k+1)+1)+1)+1)+1)+1)+(dIntS x.2.2.2.1.2.2.2:Nat))+1)+1)+(dIntS x.2.2.2.2.1.2.2:Nat))+1)+1)+(dIntS x.2.2.2.2.2.1.2.2:Nat))+1)+1)+1)+1)+1 by omega) (show (((((((((((((((((k+1)+1)+1)+1)+1)+1)+(dIntS x.2.2.2.1.2.2.2:Nat))+1)+1)+(dIntS x.2.2.2.2.1.2.2:Nat))+1)+1)+(dIntS x.2.2.2.2.2.1.2.2:Nat))+1)+1)+1)+1)+1≤9223372036854775807 by omega)]
def dSafe (x:TSafe):Nat:=dIntS x.2.2.1.2.2
theorem markSafe_eq' (x:TSafe) (k:Int) (h0:0≤k) (hM:k+(dSafe x:Nat)≤4611686018427387904):laws_markSafe (x,k,())=some ((x.1,x.2.1,(x.2.2.1.1,x.2.2.1.2.1,(mapA FI x.2.2.1.2.2 k).1),x.2.2.2),k+(dSafe x:Nat),()):=by
 unfold laws_markSafe dSafe at *
 simp only[markQc_eq' x.2.2.1 (k) (by omega) (by first|omega|(simp only[dPart,dQc,dBlock,dMsg,dPost,dSafe,dDisk] at *; omega)),Option.bind_some,dPart,dQc,dBlock,dMsg,dPost,dSafe,dDisk,Int.natCast_add,←Int.add_assoc]
theorem heldSafe_eq' (x:TSafe) (v0:Int) (v1:Int) (v2:Int) (v3:List UInt8) (v4:List UInt8) (k:Int) (h0:0≤k) (hM:k+(dSafe x:Nat)≤4611686018427387904):laws_heldSafe ((v0,v1,(v2,v3,(mapA FI x.2.2.1.2.2 k).1),v4),k,())=some (k+(dSafe x:Nat),()):=by
 unfold laws_heldSafe dSafe at *
 simp only[heldQc_eq' x.2.2.1 v2 v3 (k) (by omega) (by first|omega|(simp only[dPart,dQc,dBlock,dMsg,dPost,dSafe,dDisk] at *; omega)),neg_all1 (show 0≤k by omega),Option.bind_some,cond_false,dPart,dQc,dBlock,dMsg,dPost,dSafe,dDisk,Int.natCast_add,←Int.add_assoc]
def dRep (x:TRep):Nat:=dIntS x.2.2.2.1.2.2.1.2.2+dTxS x.2.2.2.2.1+dPartS x.2.2.2.2.2.1+dByteS x.2.2.2.2.2.2.1.1+dPostS x.2.2.2.2.2.2.2
theorem dRep_le (x:TRep):dRep x≤20*wRep x:=by
 have h0:=dIntS_le x.2.2.2.1.2.2.1.2.2
 have h1:=dTxS_le x.2.2.2.2.1
 have h2:=dPartS_le x.2.2.2.2.2.1
 have h3:=dByteS_le x.2.2.2.2.2.2.1.1
 have h4:=dPostS_le x.2.2.2.2.2.2.2
 simp only[dRep,wBlock,wByteS,wDeed,wDisk,wIntS,wLedger,wMsg,wPart,wPost,wQc,wRep,wSafe,wSaid,wWire,wWorld] at *
 omega
theorem markRep_eq' (x:TRep) (k:Int) (h0:0≤k) (hM:k+(dRep x:Nat)≤4611686018427387904):laws_markRep (x,k,())=some ((x.1,x.2.1,x.2.2.1,(x.2.2.2.1.1,x.2.2.2.1.2.1,(x.2.2.2.1.2.2.1.1,x.2.2.2.1.2.2.1.2.1,(mapA FI x.2.2.2.1.2.2.1.2.2 k).1),x.2.2.2.1.2.2.2),(mapA FTx x.2.2.2.2.1 (k+(dIntS x.2.2.2.1.2.2.1.2.2:Nat))).1,(mapA FPart x.2.2.2.2.2.1 ((k+(dIntS x.2.2.2.1.2.2.1.2.2:Nat))+(dTxS x.2.2.2.2.1:Nat))).1,((mapA FB x.2.2.2.2.2.2.1.1 (((k+(dIntS x.2.2.2.1.2.2.1.2.2:Nat))+(dTxS x.2.2.2.2.1:Nat))+(dPartS x.2.2.2.2.2.1:Nat))).1,x.2.2.2.2.2.2.1.2),(mapA FPost x.2.2.2.2.2.2.2 ((((k+(dIntS x.2.2.2.1.2.2.1.2.2:Nat))+(dTxS x.2.2.2.2.1:Nat))+(dPartS x.2.2.2.2.2.1:Nat))+(dByteS x.2.2.2.2.2.2.1.1:Nat))).1),k+(dRep x:Nat),()):=by
 unfold laws_markRep dRep at *
 simp only[markSafe_eq' x.2.2.2.1 (k) (by omega) (by first|omega|(simp only[dPart,dQc,dBlock,dMsg,dPost,dSafe,dRep,dDisk] at *; omega)),markTxS_eq' x.2.2.2.2.1 (k+(dIntS x.2.2.2.1.2.2.1.2.2:Nat)) (by omega) (by first|omega|(simp only[dPart,dQc,dBlock,dMsg,dPost,dSafe,dRep,dDisk] at *; omega)),markPartS_eq' x.2.2.2.2.2.1 (k+(dIntS x.2.2.2.1.2.2.1.2.2:Nat)+(dTxS x.2.2.2.2.1:Nat)) (by omega) (by first|omega|(simp only[dPart,dQc,dBlock,dMsg,dPost,dSafe,dRep,dDisk] at *; omega)),markDisk_eq' x.2.2.2.2.2.2.1 (k+(dIntS x.2.2.2.1.2.2.1.2.2:Nat)+(dTxS x.2.2.2.2.1:Nat)+(dPartS x.2.2.2.2.2.1:Nat)) (by omega) (by first|omega|(simp only[dPart,dQc,dBlock,dMsg,dPost,dSafe,dRep,dDisk] at *; omega)),markPostS_eq' x.2.2.2.2.2.2.2 (k+(dIntS x.2.2.2.1.2.2.1.2.2:Nat)+(dTxS x.2.2.2.2.1:Nat)+(dPartS x.2.2.2.2.2.1:Nat)+(dByteS x.2.2.2.2.2.2.1.1:Nat)) (by omega) (by first|omega|(simp only[dPart,dQc,dBlock,dMsg,dPost,dSafe,dRep,dDisk] at *; omega)),Option.bind_some,dPart,dQc,dBlock,dMsg,dPost,dSafe,dRep,dDisk,Int.natCast_add,←Int.add_assoc]
theorem heldRep_eq' (x:TRep) (v0:Int) (v1:Int) (v2:Int) (v3:Int) (v4:Int) (v5:Int) (v6:List UInt8) (v7:List UInt8) (v8:Int) (k:Int) (h0:0≤k) (hM:k+(dRep x:Nat)≤4611686018427387904):laws_heldRep ((v0,v1,v2,(v3,v4,(v5,v6,(mapA FI x.2.2.2.1.2.2.1.2.2 k).1),v7),(mapA FTx x.2.2.2.2.1 (k+(dIntS x.2.2.2.1.2.2.1.2.2:Nat))).1,(mapA FPart x.2.2.2.2.2.1 ((k+(dIntS x.2.2.2.1.2.2.1.2.2:Nat))+(dTxS x.2.2.2.2.1:Nat))).1,((mapA FB x.2.2.2.2.2.2.1.1 (((k+(dIntS x.2.2.2.1.2.2.1.2.2:Nat))+(dTxS x.2.2.2.2.1:Nat))+(dPartS x.2.2.2.2.2.1:Nat))).1,v8),(mapA FPost x.2.2.2.2.2.2.2 ((((k+(dIntS x.2.2.2.1.2.2.1.2.2:Nat))+(dTxS x.2.2.2.2.1:Nat))+(dPartS x.2.2.2.2.2.1:Nat))+(dByteS x.2.2.2.2.2.2.1.1:Nat))).1),k,())=some (k+(dRep x:Nat),()):=by
 unfold laws_heldRep dRep at *
 simp only[heldSafe_eq' x.2.2.2.1 v3 v4 v5 v6 v7 (k) (by omega) (by first|omega|(simp only[dPart,dQc,dBlock,dMsg,dPost,dSafe,dRep,dDisk] at *; omega)),neg_all1 (show 0≤k by omega),heldTxS_eq' x.2.2.2.2.1  (k+(dIntS x.2.2.2.1.2.2.1.2.2:Nat)) (by omega) (by first|omega|(simp only[dPart,dQc,dBlock,dMsg,dPost,dSafe,dRep,dDisk] at *; omega)),neg_all1 (show 0≤k+(dIntS x.2.2.2.1.2.2.1.2.2:Nat) by omega),heldPartS_eq' x.2.2.2.2.2.1  (k+(dIntS x.2.2.2.1.2.2.1.2.2:Nat)+(dTxS x.2.2.2.2.1:Nat)) (by omega) (by first|omega|(simp only[dPart,dQc,dBlock,dMsg,dPost,dSafe,dRep,dDisk] at *; omega)),neg_all1 (show 0≤k+(dIntS x.2.2.2.1.2.2.1.2.2:Nat)+(dTxS x.2.2.2.2.1:Nat) by omega),heldDisk_eq' x.2.2.2.2.2.2.1.1 v8 (k+(dIntS x.2.2.2.1.2.2.1.2.2:Nat)+(dTxS x.2.2.2.2.1:Nat)+(dPartS x.2.2.2.2.2.1:Nat)) (by omega) (by first|omega|(simp only[dPart,dQc,dBlock,dMsg,dPost,dSafe,dRep,dDisk] at *; omega)),neg_no (n:=dByteS x.2.2.2.2.2.2.1.1) (show 0≤k+(dIntS x.2.2.2.1.2.2.1.2.2:Nat)+(dTxS x.2.2.2.2.1:Nat)+(dPartS x.2.2.2.2.2.1:Nat) by omega),heldPostS_eq' x.2.2.2.2.2.2.2  (k+(dIntS x.2.2.2.1.2.2.1.2.2:Nat)+(dTxS x.2.2.2.2.1:Nat)+(dPartS x.2.2.2.2.2.1:Nat)+(dByteS x.2.2.2.2.2.2.1.1:Nat)) (by omega) (by first|omega|(simp only[dPart,dQc,dBlock,dMsg,dPost,dSafe,dRep,dDisk] at *; omega)),neg_all1 (show 0≤k+(dIntS x.2.2.2.1.2.2.1.2.2:Nat)+(dTxS x.2.2.2.2.1:Nat)+(dPartS x.2.2.2.2.2.1:Nat)+(dByteS x.2.2.2.2.2.2.1.1:Nat) by omega),Option.bind_some,cond_false,dPart,dQc,dBlock,dMsg,dPost,dSafe,dRep,dDisk,Int.natCast_add,←Int.add_assoc]
end G448
namespace G448
open Ev
def MsgW (m:TMsg):Prop:=m.2.2.1.2.2.2.length≤8796093022208∧m.2.2.2.1.2.2.length≤8796093022208∧m.2.2.2.2.1.2.2.length≤8796093022208
theorem MsgW.of {m:TMsg} (h:wMsg m≤137438953472):MsgW m:=by
 simp only[wMsg,wBlock,wQc,wPart,wIntS] at h
 unfold MsgW
 omega
def qcSame (a b:TQc):Bool:=a.1==b.1 && (a.2.1==b.2.1 && decide (a.2.2=b.2.2))
theorem spec_QcSame_eq (a b:TQc) (h:a.2.2.length≤8796093022208):spec_QcSame (a,b,())=some (qcSame a b,()):=by
 unfold spec_QcSame qcSame
 simp only[l7Ints_eq a.2.2 b.2.2 (by omega),Option.bind_some]
 cases a.1==b.1<;>cases a.2.1==b.2.1<;>simp
theorem impl_QcSame_eq (a b:TQc) (h:a.2.2.length≤8796093022208):impl_QcSame (a,b,())=some (qcSame a b,()):=by
 unfold impl_QcSame qcSame
 simp only[Equal_int_eq a.2.2 b.2.2 (by omega),Option.bind_some]
 cases a.1==b.1<;>cases a.2.1==b.2.1<;>simp
theorem spec_l14Part_eq (a b:TQc) (h:a.2.2.length≤8796093022208):spec_l14Part (a,b,())=some (qcSame a b,()):=by
 unfold spec_l14Part qcSame
 simp only[l7Ints_eq a.2.2 b.2.2 (by omega),Option.bind_some]
 cases a.1==b.1<;>cases a.2.1==b.2.1<;>simp
theorem impl_partSame_eq (a b:TQc) (h:a.2.2.length≤8796093022208):impl_partSame (a,b,())=some (qcSame a b,()):=by
 unfold impl_partSame qcSame
 simp only[Equal_int_eq a.2.2 b.2.2 (by omega),Option.bind_some]
 cases a.1==b.1<;>cases a.2.1==b.2.1<;>simp
def blockSame (a b:TBlock):Bool:=a.1==b.1 && qcSame a.2 b.2
theorem spec_BlockSame_eq (a b:TBlock) (h:a.2.2.2.length≤8796093022208):spec_BlockSame (a,b,())=some (blockSame a b,()):=by
 unfold spec_BlockSame blockSame
 simp only[spec_QcSame_eq a.2 b.2 h,Option.bind_some]
 cases a.1==b.1<;>simp
theorem impl_BlockSame_eq (a b:TBlock) (h:a.2.2.2.length≤8796093022208):impl_BlockSame (a,b,())=some (blockSame a b,()):=by
 unfold impl_BlockSame blockSame
 simp only[impl_QcSame_eq a.2 b.2 h,Option.bind_some]
 cases a.1==b.1<;>simp
def txSame (a b:TTx):Bool:=a.1==b.1 && (a.2.1==b.2.1 && (a.2.2.1==b.2.2.1 && (a.2.2.2==b.2.2.2 && true)))
def msgSame (a b:TMsg):Bool:=
 a.1==b.1 && (a.2.1==b.2.1 && (blockSame a.2.2.1 b.2.2.1 && (qcSame a.2.2.2.1 b.2.2.2.1 && (qcSame a.2.2.2.2.1 b.2.2.2.2.1 && (a.2.2.2.2.2.1==b.2.2.2.2.2.1 && txSame a.2.2.2.2.2.2 b.2.2.2.2.2.2)))))
theorem spec_MsgSame_eq (a b:TMsg) (h:MsgW a):spec_MsgSame (a,b,())=some (msgSame a b,()):=by
 unfold spec_MsgSame msgSame txSame
 simp only[spec_BlockSame_eq a.2.2.1 b.2.2.1 h.1,spec_l14Part_eq a.2.2.2.1 b.2.2.2.1 h.2.1,spec_QcSame_eq a.2.2.2.2.1 b.2.2.2.2.1 h.2.2,Option.bind_some]
 cases a.1==b.1<;>cases a.2.1==b.2.1<;>cases blockSame a.2.2.1 b.2.2.1<;>cases qcSame a.2.2.2.1 b.2.2.2.1<;>cases qcSame a.2.2.2.2.1 b.2.2.2.2.1<;>cases a.2.2.2.2.2.1==b.2.2.2.2.2.1<;>rfl
theorem impl_MsgSame_eq (a b:TMsg) (h:MsgW a):impl_MsgSame (a,b,())=some (msgSame a b,()):=by
 unfold impl_MsgSame msgSame txSame
 simp only[impl_BlockSame_eq a.2.2.1 b.2.2.1 h.1,impl_partSame_eq a.2.2.2.1 b.2.2.2.1 h.2.1,impl_QcSame_eq a.2.2.2.2.1 b.2.2.2.2.1 h.2.2,Option.bind_some]
 cases a.1==b.1<;>cases a.2.1==b.2.1<;>cases blockSame a.2.2.1 b.2.2.1<;>cases qcSame a.2.2.2.1 b.2.2.2.1<;>cases qcSame a.2.2.2.2.1 b.2.2.2.2.1<;>cases a.2.2.2.2.2.1==b.2.2.2.2.2.1<;>rfl
end G448
namespace G448
open Ev
end G448
namespace G448
open Ev
end G448
namespace G448
open Ev
theorem fold_loop {α S St R:Type} (enc:Int→S→St) (l:List α) (f:S→α→S) (k:S→Option R) {G:(St→Option R)→St→Option R} (hl:l.length≤1152921504606846976) (I:Nat→S→Prop)
  (hend : ∀ rec s,I l.length s→G rec (enc (l.length:Int) s)=k s)
  (hstep : ∀ rec (i:Nat) s x,l[i]?=some x→i<l.length→I i s→I (i+1) (f s x)∧G rec (enc (i:Int) s)=rec (enc ((i:Int)+1) (f s x))) {s0:S} (h0:I 0 s0) :
  iter G fuel (enc 0 s0)=k (l.foldl f s0):=by
 have key : ∀ (m i:Nat) (s:S),i≤l.length→l.length - i<m→I i s→iter G m (enc (i:Int) s)=k ((l.drop i).foldl f s):=by
  intro m
  induction m with
  | zero=>intro i s h1 h2 h3; omega
  | succ m ih=>
   intro i s h1 h2 h3
   rcases Nat.lt_or_ge i l.length with h|h
   ·obtain⟨g1,g2⟩:=hstep (iter G m) i s l[i] (List.getElem?_eq_getElem h) h h3
    have e1:iter G (m+1) (enc (i:Int) s)=iter G m (enc ((i:Int)+1) (f s l[i])):=g2
    rw[e1,List.drop_eq_getElem_cons h,List.foldl_cons]
    exact ih (i+1) _ h (by omega) g1
   ·have hi:i=l.length:=by omega
    subst hi
    have e1:iter G (m+1) (enc (l.length:Int) s)=k s:=hend (iter G m) s h3
    rw[e1]; simp
 have:=key fuel 0 s0 (Nat.zero_le _) (by have:=fuel_gt hl; omega) h0
 simpa using this
theorem foldl_snoc {α:Type} : ∀ (l out:List α),l.foldl (fun out x=>out++[x]) out=out++l
 | [],out=>by simp
 | x::l,out=>by rw[List.foldl_cons,foldl_snoc l]; simp
theorem copy_loop {α St R:Type} (enc:Int→List α→St) (l:List α) (k:List α→Option R) {G:(St→Option R)→St→Option R} (hl:l.length≤1152921504606846976)
  (hend : ∀ rec s,s.length=l.length→G rec (enc (l.length:Int) s)=k s)
  (hstep : ∀ rec (i:Nat) s x,l[i]?=some x→i<l.length→s.length=i→G rec (enc (i:Int) s)=rec (enc ((i:Int)+1) (s++[x]))) :
  iter G fuel (enc 0 [])=k l:=by
 have:=fold_loop enc l (fun out x=>out++[x]) k hl (fun i s=>s.length=i) hend (fun rec i s x hx hi h=>⟨by simp[h],hstep rec i s x hx hi h⟩) (s0:=[]) rfl
 rw[this,foldl_snoc]; simp
theorem spec_l7Copy_eq (x:TQc) (hw:wQc x≤137438953472):spec_l7Copy (x,())=some (x,()):=by
 unfold spec_l7Copy
 dsimp only
 have:x.2.2.length≤137438953472:=by simp only[wQc,wIntS] at hw; omega
 rw[if_pos (by omega)]; rfl
theorem spec_l10Copy_eq (x:TPart) (hw:wPart x≤137438953472):spec_l10Copy (x,())=some (x,()):=by
 unfold spec_l10Copy
 dsimp only
 have:x.2.2.length≤137438953472:=by simp only[wPart,wIntS] at hw; omega
 rw[if_pos (by omega)]; rfl
theorem spec_l11Copy_eq (x:TSafe) (hw:wSafe x≤137438953472):spec_l11Copy (x,())=some (x,()):=by
 unfold spec_l11Copy
 simp only[spec_l7Copy_eq x.2.2.1 (by simp only[wSafe] at hw; omega),Option.bind_some]
theorem spec_l8Copy_eq (x:TBlock) (hw:wBlock x≤137438953472):spec_l8Copy (x,())=some (x,()):=by
 unfold spec_l8Copy
 simp only[spec_l7Copy_eq x.2 (by simp only[wBlock] at hw; omega),Option.bind_some]
theorem spec_l14Copy_eq (x:TMsg) (hw:wMsg x≤137438953472):spec_l14Copy (x,())=some (x,()):=by
 unfold spec_l14Copy
 simp only[wMsg] at hw
 simp only[spec_l8Copy_eq x.2.2.1 (by omega),spec_l10Copy_eq x.2.2.2.1 (by omega),spec_l7Copy_eq x.2.2.2.2.1 (by omega),Option.bind_some]
theorem spec_l10Table_eq (x:TPartS) (hw:wPartS x≤137438953472):spec_l10Table (x,())=some (x,()):=by
 have hl:x.length≤137438953472:=by unfold wPartS at hw; omega
 unfold spec_l10Table
 refine copy_loop (fun i s=>(s,i,())) x (fun s=>some (s,())) (by omega) ?_ ?_
 ·intro rec s hs; simp
 ·intro rec i s y hx hi hs
  have hy:wPart y≤137438953472:=by have:=sum_mem wPart (List.mem_of_getElem? hx); unfold wPartS at hw; omega
  simp only[Int.toNat_natCast,ge_ok hi,decide_true,cond_true,if_true,and_self,rd_get (e:=(.pair .i64 (.pair .str (.sl 0 .i64)))) hx,spec_l10Copy_eq y hy,Option.bind_some,wr_nat (show i<4611686018427387904 by omega),List.length_cons,List.length_nil]
  rw[if_pos (by omega)]
theorem spec_l15Posts_eq (x:TPostS) (hw:wPostS x≤137438953472):spec_l15Posts (x,())=some (x,()):=by
 have hl:x.length≤137438953472:=by unfold wPostS at hw; omega
 unfold spec_l15Posts
 refine copy_loop (fun i s=>(s,i,())) x (fun s=>some (s,())) (by omega) ?_ ?_
 ·intro rec s hs; simp
 ·intro rec i s y hx hi hs
  have hy:wMsg y.2≤137438953472:=by have:=sum_mem wPost (List.mem_of_getElem? hx); simp only[wPost] at this; unfold wPostS at hw; omega
  simp only[Int.toNat_natCast,ge_ok hi,decide_true,cond_true,if_true,and_self,rd_get (e:=(.pair .i64 (.pair .i64 (.pair .i64 (.pair (.pair .str (.pair .i64 (.pair .str (.sl 0 .i64)))) (.pair (.pair .i64 (.pair .str (.sl 0 .i64))) (.pair (.pair .i64 (.pair .str (.sl 0 .i64))) (.pair .i64 (.pair .i64 (.pair .i64 (.pair .i64 .i64))))))))))) hx,spec_l14Copy_eq y.2 hy,Option.bind_some,wr_nat (show i<4611686018427387904 by omega),List.length_cons,List.length_nil]
  rw[if_pos (by omega)]
theorem spec_l15Copy_eq (x:TRep) (hw:wRep x≤137438953472):spec_l15Copy (x,())=some (x,()):=by
 unfold spec_l15Copy
 simp only[wRep,wTxS,wDisk] at hw
 simp only[spec_l11Copy_eq x.2.2.2.1 (by omega),spec_l10Table_eq x.2.2.2.2.2.1 (by omega),spec_l13Copy_eq x.2.2.2.2.2.2.1 (by omega),spec_l15Posts_eq x.2.2.2.2.2.2.2 (by omega),Option.bind_some]
 rw[if_pos (by omega)]; rfl
theorem impl_copyInts_eq (x:TIntS) (hw:x.length≤137438953472):impl_copyInts (x,())=some (x,()):=by
 unfold impl_copyInts
 dsimp only
 rw[if_pos (by omega)]
theorem impl_copyQc_eq (x:TQc) (hw:wQc x≤137438953472):impl_copyQc (x,())=some (x,()):=by
 unfold impl_copyQc
 simp only[impl_copyInts_eq x.2.2 (by simp only[wQc,wIntS] at hw; omega),Option.bind_some]
theorem impl_copyPart_eq (x:TPart) (hw:wPart x≤137438953472):impl_copyPart (x,())=some (x,()):=by
 unfold impl_copyPart
 simp only[impl_copyInts_eq x.2.2 (by simp only[wPart,wIntS] at hw; omega),Option.bind_some]
theorem impl_copySafe_eq (x:TSafe) (hw:wSafe x≤137438953472):impl_copySafe (x,())=some (x,()):=by
 unfold impl_copySafe
 simp only[impl_copyQc_eq x.2.2.1 (by simp only[wSafe] at hw; omega),Option.bind_some]
theorem impl_copyTxs_eq (x:TTxS) (hw:wTxS x≤137438953472):impl_copyTxs (x,())=some (x,()):=by
 unfold impl_copyTxs
 dsimp only
 simp only[wTxS] at hw
 rw[if_pos (by omega)]
theorem impl_copyBlock_eq (x:TBlock) (hw:wBlock x≤137438953472):impl_copyBlock (x,())=some (x,()):=by
 unfold impl_copyBlock
 simp only[impl_copyQc_eq x.2 (by simp only[wBlock] at hw; omega),Option.bind_some]
theorem impl_copyMsg_eq (x:TMsg) (hw:wMsg x≤137438953472):impl_copyMsg (x,())=some (x,()):=by
 unfold impl_copyMsg
 simp only[wMsg] at hw
 simp only[impl_copyBlock_eq x.2.2.1 (by omega),impl_copyPart_eq x.2.2.2.1 (by omega),impl_copyQc_eq x.2.2.2.2.1 (by omega),Option.bind_some]
theorem impl_copyTable_eq (x:TPartS) (hw:wPartS x≤137438953472):impl_copyTable (x,())=some (x,()):=by
 have hl:x.length≤137438953472:=by unfold wPartS at hw; omega
 unfold impl_copyTable
 refine copy_loop (fun i s=>(s,i,())) x (fun s=>some (s,())) (by omega) ?_ ?_
 ·intro rec s hs; simp
 ·intro rec i s y hx hi hs
  have hy:wPart y≤137438953472:=by have:=sum_mem wPart (List.mem_of_getElem? hx); unfold wPartS at hw; omega
  simp only[Int.toNat_natCast,ge_ok hi,decide_true,cond_true,if_true,and_self,rd_get (e:=(.pair .i64 (.pair .str (.sl 0 .i64)))) hx,impl_copyPart_eq y hy,Option.bind_some,wr_nat (show i<4611686018427387904 by omega),List.length_cons,List.length_nil]
  rw[if_pos (by omega)]
theorem impl_copyPosts_eq (x:TPostS) (hw:wPostS x≤137438953472):impl_copyPosts (x,())=some (x,()):=by
 have hl:x.length≤137438953472:=by unfold wPostS at hw; omega
 unfold impl_copyPosts
 refine copy_loop (fun i s=>(s,i,())) x (fun s=>some (s,())) (by omega) ?_ ?_
 ·intro rec s hs; simp
 ·intro rec i s y hx hi hs
  have hy:wMsg y.2≤137438953472:=by have:=sum_mem wPost (List.mem_of_getElem? hx); simp only[wPost] at this; unfold wPostS at hw; omega
  simp only[Int.toNat_natCast,ge_ok hi,decide_true,cond_true,if_true,and_self,rd_get (e:=(.pair .i64 (.pair .i64 (.pair .i64 (.pair (.pair .str (.pair .i64 (.pair .str (.sl 0 .i64)))) (.pair (.pair .i64 (.pair .str (.sl 0 .i64))) (.pair (.pair .i64 (.pair .str (.sl 0 .i64))) (.pair .i64 (.pair .i64 (.pair .i64 (.pair .i64 .i64))))))))))) hx,impl_copyMsg_eq y.2 hy,Option.bind_some,wr_nat (show i<4611686018427387904 by omega),List.length_cons,List.length_nil]
  rw[if_pos (by omega)]
theorem impl_copyRep_eq (x:TRep) (hw:wRep x≤137438953472):impl_copyRep (x,())=some (x,()):=by
 unfold impl_copyRep
 simp only[wRep] at hw
 have h5:x.2.2.2.2.2.2.1.1.length≤137438953472:=by simp only[wDisk] at hw; omega
 simp only[impl_copySafe_eq x.2.2.2.1 (by omega),impl_copyTxs_eq x.2.2.2.2.1 (by omega),impl_copyTable_eq x.2.2.2.2.2.1 (by omega),impl_copyDisk_eq x.2.2.2.2.2.2.1 (by omega),impl_copyPosts_eq x.2.2.2.2.2.2.2 (by omega),Option.bind_some]
end G448
namespace G448
open Ev Go
theorem walkFrom {S X R:Type} (n:Nat) {G:(X→Option R)→X→Option R} (mk:Int→S→X) (I:Nat→S→Prop) (f:Nat→S→Option R) (hn:n≤1152921504606846976)
  (hend : ∀ rec s,I n s→G rec (mk (n:Int) s)=f n s)
  (hstep : ∀ rec (i:Nat) s,i<n→I i s→(G rec (mk (i:Int) s)=f i s) ∨ ∃ s',I (i+1) s'∧G rec (mk (i:Int) s)=rec (mk ((i:Int)+1) s')∧f i s=f (i+1) s') {s0:S} (i0:Nat) (hi0:i0≤n) (h0:I i0 s0) :
  iter G fuel (mk (i0:Int) s0)=f i0 s0:=by
 have key : ∀ (m i:Nat) (s:S),i≤n→n - i<m→I i s→iter G m (mk (i:Int) s)=f i s:=by
  intro m
  induction m with
  | zero=>intro i s h1 h2 h3; omega
  | succ m ih=>
   intro i s h1 h2 h3
   rcases Nat.lt_or_ge i n with h|h
   ·rcases hstep (iter G m) i s h h3 with g|⟨s',g1,g2,g3⟩
    ·exact g
    ·rw[g3]
     have e1:iter G (m+1) (mk (i:Int) s)=iter G m (mk ((i:Int)+1) s'):=g2
     rw[e1]
     exact ih (i+1) s' h (by omega) g1
   ·have hi:i=n:=by omega
    subst hi
    exact hend (iter G m) s h3
 exact key fuel i0 s0 hi0 (by have:=fuel_gt hn; omega) h0
theorem walk {S X R:Type} (n:Nat) {G:(X→Option R)→X→Option R} (mk:Int→S→X) (I:Nat→S→Prop) (f:Nat→S→Option R) (hn:n≤1152921504606846976)
  (hend : ∀ rec s,I n s→G rec (mk (n:Int) s)=f n s)
  (hstep : ∀ rec (i:Nat) s,i<n→I i s→(G rec (mk (i:Int) s)=f i s) ∨ ∃ s',I (i+1) s'∧G rec (mk (i:Int) s)=rec (mk ((i:Int)+1) s')∧f i s=f (i+1) s') {s0:S} (h0:I 0 s0) :
  iter G fuel (mk 0 s0)=f 0 s0:=walkFrom n mk I f hn hend hstep 0 (Nat.zero_le _) h0
def glue (u:List UInt8):List (List UInt8)→List (List UInt8)
 | p::r=>(u++p)::r
 | []=>[u]
def pieces (c:UInt8):List UInt8→List (List UInt8)
 | []=>[[]]
 | x::l=>if x=c then []::pieces c l else glue [x] (pieces c l)
theorem pieces_ne (c:UInt8) : ∀ s,pieces c s≠[]
 | []=>by simp[pieces]
 | x::l=>by
  simp only[pieces]
  split
  ·simp
  ·cases pieces c l<;>simp[glue]
theorem glue_glue (u v:List UInt8) {l:List (List UInt8)} (h:l≠[]):glue u (glue v l)=glue (u++v) l:=by
 cases l with
 | nil=>exact absurd rfl h
 | cons p r=>simp[glue]
theorem glue_nil {l:List (List UInt8)} (h:l≠[]):glue [] l=l:=by
 cases l with
 | nil=>exact absurd rfl h
 | cons p r=>simp[glue]
theorem pieces_none (c:UInt8) : ∀ s,c∉s→pieces c s=[s]
 | [],_=>rfl
 | x::l,h=>by
  simp only[List.mem_cons,not_or] at h
  simp only[pieces,if_neg (Ne.symm h.1),pieces_none c l h.2,glue,List.singleton_append]
theorem pieces_hit (c:UInt8) (post:List UInt8) : ∀ pre,c∉pre→pieces c (pre++c::post)=pre::pieces c post
 | [],_=>by simp[pieces]
 | x::l,h=>by
  simp only[List.mem_cons,not_or] at h
  simp only[List.cons_append,pieces,if_neg (Ne.symm h.1),pieces_hit c post l h.2,glue,List.nil_append]
theorem pieces_len (c:UInt8) : ∀ s,(pieces c s).length≤s.length+1
 | []=>by simp[pieces]
 | x::l=>by
  have:=pieces_len c l
  simp only[pieces]
  split
  ·simp; omega
  ·cases hp:pieces c l with
   | nil=>simp[glue]
   | cons p r=>rw[hp] at this; simp[glue] at this ⊢; omega
def cutAt (c:UInt8):List UInt8→Option (List UInt8×List UInt8)
 | []=>none
 | x::l=>if x=c then some ([],l) else (cutAt c l).map fun p=>(x::p.1,p.2)
theorem cutAt_none (c:UInt8) : ∀ s,c∉s→cutAt c s=none
 | [],_=>rfl
 | x::l,h=>by
  simp only[List.mem_cons,not_or] at h
  simp only[cutAt,if_neg (Ne.symm h.1),cutAt_none c l h.2,Option.map_none]
theorem cutAt_hit (c:UInt8) (post:List UInt8) : ∀ pre,c∉pre→cutAt c (pre++c::post)=some (pre,post)
 | [],_=>by simp[cutAt]
 | x::l,h=>by
  simp only[List.mem_cons,not_or] at h
  simp only[List.cons_append,cutAt,if_neg (Ne.symm h.1),cutAt_hit c post l h.2,Option.map_some]
theorem cutAt_len (c:UInt8) : ∀ {s p q},cutAt c s=some (p,q)→p.length+q.length+1=s.length∧s=p++c::q
 | [],p,q,h=>by cases h
 | x::l,p,q,h=>by
  simp only[cutAt] at h
  split at h
  ·next e=>cases h; subst e; simp
  ·obtain⟨⟨p',q'⟩,h1,h2⟩:=Option.map_eq_some_iff.1 h
   cases h2
   obtain⟨g1,g2⟩:=cutAt_len c h1
   exact⟨by simp; omega,by rw[g2]; simp⟩
theorem byte_split (c:UInt8) (s:List UInt8):(c∉s∧Lib.indexByte s c = -1) ∨ ∃ pre post,s=pre++c::post∧c∉pre∧Lib.indexByte s c=(pre.length:Int):=by
 rcases Int.lt_or_le (Lib.indexByte s c) 0 with h|h
 ·have e:Lib.indexByte s c = -1:=by
   have:=Lib.index_ge s [c]
   rw[Lib.index_one] at this
   omega
  left
  refine⟨fun hm => ?_,e⟩
  obtain⟨k,hk⟩:=List.getElem?_of_mem hm
  exact Lib.indexByte_none e k hk
 ·right
  obtain⟨o,ho⟩ : ∃ o:Nat,Lib.indexByte s c=(o:Int):=⟨(Lib.indexByte s c).toNat,by omega⟩
  obtain⟨h1,h2⟩:=Lib.indexByte_some ho
  have hlt:o<s.length:=by
   rcases Nat.lt_or_ge o s.length with h'|h'
   ·exact h'
   ·rw[List.getElem?_eq_none h'] at h1; cases h1
  refine⟨s.take o,s.drop (o+1),?_,?_,by rw[ho]; simp; omega⟩
  ·have e:s[o]=c:=by rw[List.getElem?_eq_getElem hlt] at h1; exact Option.some.inj h1
   rw[←e,←List.drop_eq_getElem_cons hlt,List.take_append_drop]
  ·intro hm
   obtain⟨k,hk⟩:=List.getElem?_of_mem hm
   rw[List.getElem?_take] at hk
   split at hk
   ·exact h2 k (by assumption) hk
   ·cases hk
theorem splitK_pieces (c:UInt8) : ∀ (k:Nat) (s:List UInt8),s.count c≤k→Lib.splitK [c] 0 k s=pieces c s
 | 0,s,h=>by
  have:c∉s:=fun hm=>by have:=List.count_pos_iff.2 hm; omega
  rw[pieces_none c s this]; rfl
 | k+1,s,h=>by
  unfold Lib.splitK
  rw[Lib.index_one]
  rcases byte_split c s with⟨h1,h2⟩|⟨pre,post,rfl,h1,h2⟩
  ·rw[h2,pieces_none c s h1]; rfl
  ·rw[h2,pieces_hit c post pre h1]
   have e:((pre.length:Int) == -1)=false:=by simp
   rw[e]
   have hd:(pre++c::post).drop ((pre.length:Int).toNat+[c].length)=post:=by
    rw[Int.toNat_natCast,List.length_singleton,←List.drop_drop]; simp
   have ht:(pre++c::post).take ((pre.length:Int).toNat+0)=pre:=by simp
   simp only[Bool.false_eq_true,if_false]
   rw[hd,ht,splitK_pieces c k post (by simp[List.count_append,List.count_cons] at h; omega)]
theorem lib_split_eq (c:UInt8) (s:List UInt8):Lib.split s [c]=pieces c s:=by
 unfold Lib.split
 refine splitK_pieces c _ s ?_
 rw[Lib.count_one]
 exact Nat.le_refl _
theorem lib_cut_eq (c:UInt8) (s:List UInt8):Lib.cut s [c]=match cutAt c s with|some p=>(p.1,p.2,true)|none=>(s,[],false):=by
 unfold Lib.cut
 rw[Lib.index_one]
 rcases byte_split c s with⟨h1,h2⟩|⟨pre,post,rfl,h1,h2⟩
 ·rw[h2,cutAt_none c s h1,if_neg (by decide)]
 ·rw[h2,cutAt_hit c post pre h1,if_pos (by omega)]
  have hd:(pre++c::post).drop ((pre.length:Int).toNat+[c].length)=post:=by
   rw[Int.toNat_natCast,List.length_singleton,←List.drop_drop]; simp
  have ht:(pre++c::post).take ((pre.length:Int).toNat)=pre:=by simp
  rw[hd,ht]
theorem getD_get {s:List UInt8} {i:Nat} {x:UInt8} (h:s[i]?=some x):s.getD i 0=x:=by rw[List.getD_eq_getElem?_getD,h]; rfl
theorem slice_grow {s:List UInt8} {start i:Nat} (h:start≤i) (hi:i<s.length):(s.drop start).take (i+1 - start)=(s.drop start).take (i - start)++[s[i]]:=by
 rw[show i+1 - start=(i - start)+1 by omega,List.take_add_one]
 congr 1
 rw[List.getElem?_drop,show start+(i - start)=i by omega,List.getElem?_eq_getElem hi]; rfl
theorem spec_Split_eq (s:List UInt8) (c:UInt8) (hs:s.length≤137438953472):spec_Split (s,c,())=some (pieces c s,()):=by
 unfold spec_Split
 dsimp only
 refine (walk (s.length+1) (fun i (t:List (List UInt8)×Nat)=>(t.1,(t.2:Int),i,())) (fun i t=>t.2≤i∧t.1.length≤i)
  (fun i t=>some (if i≤s.length then t.1++glue ((s.drop t.2).take (i - t.2)) (pieces c (s.drop i)) else t.1,())) (by omega) ?_ ?_ (s0:=([],0)) ⟨Nat.le_refl _,Nat.zero_le _⟩).trans ?_
 ·intro rec t ht
  have : ¬ (((s.length+1:Nat):Int)≤(s.length:Int)):=by omega
  simp only[this,decide_false,cond_false]
  rw[if_neg (by omega)]
 ·intro rec i t hi ht
  right
  obtain⟨h1,h2⟩:=ht
  have g:((i:Int)≤(s.length:Int)):=by omega
  by_cases he:i=s.length
  ·subst he
   refine⟨(t.1++[(s.drop t.2).take (s.length - t.2)],s.length+1),⟨Nat.le_refl _,by simp; omega⟩,?_,?_⟩
   ·simp only[g,decide_true,cond_true,beq_self_eq_true,Int.toNat_natCast,wr_nat (show s.length<4611686018427387904 by omega),List.length_cons,List.length_nil]
    rw[if_pos (by first|omega|(simp only[true_and,and_true]; omega)),if_pos (by first|omega|(simp only[true_and,and_true]; omega))]
    rfl
   ·rw[if_pos (Nat.le_refl _),if_neg (by omega)]; simp[pieces,glue]
  ·have hlt:i<s.length:=by omega
   have hx:s[i]?=some s[i]:=List.getElem?_eq_getElem hlt
   have e1:((i:Int)==(s.length:Int))=false:=by simp; omega
   have g2:(0:Int)≤(i:Int)∧(i:Int)<(s.length:Int):=by omega
   simp only[g,decide_true,cond_true,e1,cond_false,g2,and_self,if_true,Int.toNat_natCast,getD_get hx,wr_nat (show i<4611686018427387904 by omega),List.length_cons,List.length_nil]
   by_cases hc:s[i]=c
   ·refine⟨(t.1++[(s.drop t.2).take (i - t.2)],i+1),⟨Nat.le_refl _,by simp; omega⟩,?_,?_⟩
    ·have:(s[i]==c)=true:=by simp[hc]
     simp only[this,cond_true]
     rw[if_pos (by first|omega|(simp only[true_and,and_true]; omega)),if_pos (by first|omega|(simp only[true_and,and_true]; omega))]
     rfl
    ·rw[if_pos (by omega),if_pos (by omega),List.drop_eq_getElem_cons hlt,pieces,if_pos hc]
     simp only[Nat.sub_self,List.take_zero,glue_nil (pieces_ne _ _)]
     simp[glue]
   ·refine⟨t,⟨by omega,by omega⟩,?_,?_⟩
    ·have:(s[i]==c)=false:=by simp[hc]
     simp only[this,cond_false]
    ·rw[if_pos (by omega),if_pos (by omega),slice_grow h1 hlt,List.drop_eq_getElem_cons hlt,pieces,if_neg hc,glue_glue _ _ (pieces_ne _ _)]
 ·simp[glue_nil (pieces_ne _ _)]
theorem impl_Split_eq (s:List UInt8) (c:UInt8) (hs:s.length≤1073741824):impl_Split (s,c,())=some (pieces c s,()):=by
 unfold impl_Split strings_Split
 dsimp only
 rw[if_pos ⟨by omega,by simp⟩,lib_split_eq]; rfl
theorem spec_l2Cut_eq (s:List UInt8) (c:UInt8) (hs:s.length≤137438953472) :
  spec_l2Cut (s,c,())=match cutAt c s with|some p=>some (p.1,p.2,true,())|none=>some ([],[],false,()):=by
 unfold spec_l2Cut
 dsimp only
 refine (walk s.length (fun i (_:Unit)=>(i,())) (fun _ _=>True) (fun i _=>match cutAt c (s.drop i) with|some p=>some (s.take i++p.1,p.2,true,())|none=>some ([],[],false,())) (by omega) ?_ ?_ (s0:=()) trivial).trans ?_
 ·intro rec t ht
  simp[cutAt]
 ·intro rec i t hi ht
  have hx:s[i]?=some s[i]:=List.getElem?_eq_getElem hi
  simp only[ge_ok hi,decide_true,cond_true,and_self,if_true,Int.toNat_natCast,getD_get hx,wr_nat (show i<4611686018427387904 by omega)]
  rw[List.drop_eq_getElem_cons hi]
  by_cases hc:s[i]=c
  ·left
   have:(s[i]==c)=true:=by simp[hc]
   simp only[this,cond_true]
   rw[if_pos (by first|omega|(simp only[true_and,and_true]; omega)),if_pos (by first|omega|(simp only[true_and,and_true]; omega))]
   simp only[cutAt,if_pos hc]
   congr 2
   ·simp
   ·congr 1
    have:(((i:Int)+1).toNat)=i+1:=by omega
    rw[this,List.take_of_length_le (by simp)]
  ·right
   have:(s[i]==c)=false:=by simp[hc]
   refine⟨(),trivial,by simp only[this,cond_false],?_⟩
   simp only[cutAt,if_neg hc]
   rw[List.take_add_one,hx]
   cases cutAt c (s.drop (i+1)) with
   | none=>rfl
   | some p=>simp only[Option.map_some,Option.toList_some,List.append_assoc,List.singleton_append]
 ·simp
end G448
namespace G448
open Ev Go
theorem spec_in_eq (x lo hi:Int):spec_l1In (x,lo,hi,())=some (decide (x≥lo) && decide (x≤hi),()):=by
 unfold spec_l1In
 by_cases h:x≥lo<;>simp[h]
theorem impl_in_eq (x lo hi:Int):impl_within (x,lo,hi,())=some (decide (x≥lo) && decide (x≤hi),()):=by
 unfold impl_within
 by_cases h:x≥lo<;>simp[h]
theorem toB_digit (u:Nat):toB (48+((u % 10:Nat):Int))=UInt8.ofNat (48+u % 10):=by
 rw[toB_def]
 congr 1
 omega
theorem spec_Digits_nat (u:Nat) (h:u≤9223372036854775807):spec_Digits ((u:Int),())=some (Lib.decDigits u,()):=by
 unfold spec_Digits
 dsimp only
 by_cases h0:u=0
 ·subst h0
  have:Lib.decDigits 0=[48]:=by rw[Lib.decDigits]; rfl
  rw[this]
  rfl
 have e0:((u:Int)==0)=false:=by simp; omega
 have en : ¬ ((u:Int)<0):=by omega
 simp only[e0,cond_false,en,decide_false]
 refine (iter_eq (fun x:Int×List UInt8×Unit=>some ((if x.1=0 then [] else Lib.decDigits x.1.toNat)++x.2.1,())) (fun x=>x.1.toNat)
  (fun x=>0≤x.1∧x.1≤9223372036854775807 ∧ ∃ k,x.1.toNat<10 ^ k∧k+x.2.1.length≤20) ?_ fuel ((u:Int),[],()) ⟨by simp,by simp only; omega,20,by
   simp only[Int.toNat_natCast]
   exact Nat.lt_of_le_of_lt h (by decide),by simp⟩ (by simp only[Int.toNat_natCast,fuel_def]; omega)).trans ?_
 ·rintro rec ⟨v,out,⟨⟩⟩ ⟨h1,hbig,k,h2,h3⟩ hrec
  obtain⟨n,rfl⟩ : ∃ n:Nat,v=(n:Int):=⟨v.toNat,by simp only at h1; omega⟩
  simp only[Int.toNat_natCast] at h2
  by_cases hn:n=0
  ·subst hn
   simp
  have e1:((n:Int) != 0)=true:=by simp; omega
  have e2:Int.tmod (n:Int) 10=((n % 10:Nat):Int):=by simp[Int.tmod]
  have e3:Int.tdiv (n:Int) 10=((n / 10:Nat):Int):=by simp[Int.tdiv]
  have e4 : ¬ (((n % 10:Nat):Int)<0):=by omega
  simp only at hbig h3
  have hk:1≤k:=by
   rcases Nat.eq_zero_or_pos k with h'|h'
   ·subst h'; simp at h2; omega
   ·exact h'
  simp only[e1,cond_true,e2,e3,e4,decide_false,cond_false]
  rw[wr_id' (show (-9223372036854775808:Int)≤48+((n % 10:Nat):Int) by omega) (show 48+((n % 10:Nat):Int)≤9223372036854775807 by omega),toB_digit,
   wr_id' (show (-9223372036854775808:Int)≤((n / 10:Nat):Int) by omega) (show ((n / 10:Nat):Int)≤9223372036854775807 by omega)]
  rw[if_pos (by simp only[List.length_cons,List.length_nil]; omega)]
  rw[hrec (((n / 10:Nat):Int),[UInt8.ofNat (48+n % 10)]++out,()) ⟨by simp only; omega,by simp only; omega,k - 1,by
   simp only[Int.toNat_natCast]
   have:10 ^ k=10 ^ (k - 1)*10:=by rw[←Nat.pow_succ]; congr 1; omega
   omega,by simp only[List.length_append,List.length_cons,List.length_nil]; omega⟩ (by simp only[Int.toNat_natCast]; omega)]
  simp only[Int.toNat_natCast]
  rw[if_neg (show ¬ ((n:Int)=0) by omega)]
  by_cases h10:n<10
  ·have:n / 10=0:=by omega
   rw[this,if_pos (by rfl),Lib.decDigits,dif_pos h10]
   have:n % 10=n:=by omega
   rw[this]; rfl
  ·rw[if_neg (by omega)]
   conv=>rhs; rw[Lib.decDigits,dif_neg h10]
   simp
 ·simp only[Int.toNat_natCast]
  rw[if_neg (by omega)]; simp
theorem impl_Digits_eq (n:Int):impl_Digits (n,())=some (Lib.itoa n,()):=rfl
theorem impl_Digits_nat (u:Nat):impl_Digits ((u:Int),())=some (Lib.decDigits u,()):=by
 rw[impl_Digits_eq,Lib.itoa,if_neg (by omega)]; simp
def isD (b:UInt8):Bool := !(decide (b<UInt8.ofNat 48)) && !(decide (b>UInt8.ofNat 57))
def numV (l:List UInt8) (v:Nat):Nat:=l.foldl (fun v b=>10*v+(b.toNat - 48)) v
def number (s:List UInt8):Int×Bool:=
 if 1≤s.length∧s.length≤6∧s.all isD=true∧Lib.decDigits (numV s 0)=s then ((numV s 0:Nat),true) else (0,false)
theorem isD_iff (b:UInt8):isD b=true↔48≤b.toNat∧b.toNat≤57:=by
 unfold isD
 simp only[Bool.and_eq_true,Bool.not_eq_true',decide_eq_false_iff_not,UInt8.lt_iff_toNat_lt,gt_iff_lt]
 simp
theorem pow_room {i:Nat} (h:i≤6):10 ^ i≤1000000:=Nat.pow_le_pow_right (n:=10) (by decide) h
theorem number_walk {dig:Int×Unit→Option (List UInt8×Unit)} (hd : ∀ u:Nat,u≤9223372036854775807→dig ((u:Int),())=some (Lib.decDigits u,())) (s:List UInt8) (h6:s.length≤6) {G:(Int×Int×Unit→Option (Int×Bool×Unit))→Int×Int×Unit→Option (Int×Bool×Unit)}
  (hend : ∀ rec (v:Int),G rec (v,(s.length:Int),())=(dig (v,())).bind fun r1=>bif r1.1 != s then some (0,false,()) else some (v,true,()))
  (hstep : ∀ rec (i v:Nat) (b:UInt8),s[i]?=some b→i<s.length→v<10 ^ i→G rec ((v:Int),(i:Int),())=if isD b=true then rec (((10*v+(b.toNat - 48):Nat):Int),(i:Int)+1,()) else some (0,false,())) :
  iter G fuel (0,0,())=some (if s.all isD=true∧Lib.decDigits (numV s 0)=s then (((numV s 0:Nat):Int),true,()) else (0,false,())):=by
 refine (walk s.length (fun i (v:Nat)=>((v:Int),i,())) (fun i v=>v<10 ^ i)
  (fun i v=>some (if (s.drop i).all isD=true∧Lib.decDigits (numV (s.drop i) v)=s then (((numV (s.drop i) v:Nat):Int),true,()) else (0,false,()))) (by omega) ?_ ?_ (s0:=0) (by decide)).trans (by simp)
 ·intro rec v hv
  have:=pow_room h6
  rw[hend,hd v (by omega)]
  simp only[Option.bind_some,List.drop_length,List.all_nil,numV,List.foldl_nil,true_and]
  by_cases e:Lib.decDigits v=s
  ·have:(Lib.decDigits v != s)=false:=by simp[e]
   rw[if_pos e,this]; rfl
  ·have:(Lib.decDigits v != s)=true:=by simp[e]
   rw[if_neg e,this]; rfl
 ·intro rec i v hi hv
  have hx:s[i]?=some s[i]:=List.getElem?_eq_getElem hi
  rw[hstep rec i v s[i] hx hi hv,List.drop_eq_getElem_cons hi]
  by_cases hb:isD s[i]=true
  ·right
   refine⟨10*v+(s[i].toNat - 48),?_,by rw[if_pos hb],?_⟩
   ·have:=(isD_iff _).1 hb
    rw[Nat.pow_succ]; omega
   ·have e:numV (s[i]::List.drop (i+1) s) v=numV (List.drop (i+1) s) (10*v+(s[i].toNat - 48)):=rfl
    rw[List.all_cons,hb,Bool.true_and,e]
  ·left
   rw[if_neg hb,if_neg (fun h=>hb (by have:=h.1; rw[List.all_cons,Bool.and_eq_true] at this; exact this.1))]
theorem cond_isD {α:Type} (b:UInt8) (x y:α):(bif decide (b<UInt8.ofNat (Int.toNat 48)) then y else bif decide (b>UInt8.ofNat (Int.toNat 57)) then y else x)=if isD b=true then x else y:=by
 unfold isD
 simp only[show Int.toNat 48=48 from rfl,show Int.toNat 57=57 from rfl]
 cases decide (b<UInt8.ofNat 48)<;>cases decide (b>UInt8.ofNat 57)<;>simp
theorem number_short (s:List UInt8) (h : ¬ (1≤s.length∧s.length≤6)):number s=(0,false):=by
 unfold number
 rw[if_neg (fun hh=>h ⟨hh.1,hh.2.1⟩)]
theorem number_fit (s:List UInt8) (h:1≤s.length∧s.length≤6) :
  (some (if s.all isD=true∧Lib.decDigits (numV s 0)=s then (((numV s 0:Nat):Int),true,()) else (0,false,())):Option (Int×Bool×Unit))=some ((number s).1,(number s).2,()):=by
 unfold number
 by_cases hc:s.all isD=true∧Lib.decDigits (numV s 0)=s
 ·rw[if_pos hc,if_pos ⟨h.1,h.2,hc⟩]
 ·rw[if_neg hc,if_neg (fun hh=>hc hh.2.2)]
theorem spec_Number_eq (s:List UInt8):spec_Number (s,())=some ((number s).1,(number s).2,()):=by
 unfold spec_Number
 dsimp only
 by_cases h1:(s.length:Int)<1
 ·rw[number_short s (by omega)]; simp only[h1,decide_true,cond_true]
 by_cases h6:(s.length:Int)>6
 ·rw[number_short s (by omega)]; simp only[h1,decide_false,cond_false,h6,decide_true,cond_true]
 simp only[h1,decide_false,cond_false,h6]
 refine (number_walk (dig:=spec_Digits) spec_Digits_nat s (by omega) ?_ ?_).trans (number_fit s (by omega))
 ·intro rec v; simp
 ·intro rec i v b hx hi hv
  have hp:=pow_room (i:=i) (by omega)
  simp only[ge_ok hi,decide_true,cond_true,and_self,if_true,Int.toNat_natCast,getD_get hx,wr_nat (show i<4611686018427387904 by omega)]
  rw[cond_isD]
  by_cases hb:isD b=true
  ·have:=(isD_iff _).1 hb
   rw[if_pos hb,if_pos hb,wr_id' (n:=10*(v:Int)) (by omega) (by omega),wr_id' (n:=10*(v:Int)+_) (by omega) (by omega),wr_id' (by omega) (by omega)]
   congr 2
   omega
  ·rw[if_neg hb,if_neg hb]
theorem impl_Number_eq (s:List UInt8):impl_Number (s,())=some ((number s).1,(number s).2,()):=by
 unfold impl_Number
 dsimp only
 by_cases h1:(s.length:Int)<1
 ·rw[number_short s (by omega)]; simp only[h1,decide_true,cond_true]
 by_cases h6:(s.length:Int)>6
 ·rw[number_short s (by omega)]; simp only[h1,decide_false,cond_false,h6,decide_true,cond_true]
 simp only[h1,decide_false,cond_false,h6]
 refine (number_walk (dig:=impl_Digits) (fun u _=>impl_Digits_nat u) s (by omega) ?_ ?_).trans (number_fit s (by omega))
 ·intro rec v; simp
 ·intro rec i v b hx hi hv
  have hp:=pow_room (i:=i) (by omega)
  simp only[ge_ok hi,decide_true,cond_true,and_self,if_true,Int.toNat_natCast,getD_get hx,wr_nat (show i<4611686018427387904 by omega)]
  rw[cond_isD]
  by_cases hb:isD b=true
  ·have:=(isD_iff _).1 hb
   have hsub:(b - UInt8.ofNat (Int.toNat 48)).toNat=b.toNat - 48:=by
    rw[UInt8.toNat_sub_of_le]
    ·rfl
    ·rw[UInt8.le_iff_toNat_le]; exact this.1
   rw[if_pos hb,if_pos hb,hsub,wr_id' (n:=10*(v:Int)) (by omega) (by omega),wr_id' (by omega) (by omega)]
   congr 2
  ·rw[if_neg hb,if_neg hb]
theorem numV_snoc (l:List UInt8) (b:UInt8) (v:Nat):numV (l++[b]) v=10*numV l v+(b.toNat - 48):=by simp[numV]
theorem digit_toNat {u:Nat} (h:u<10):(UInt8.ofNat (48+u)).toNat=48+u:=by
 rw[UInt8.toNat_ofNat']; omega
theorem decDigits_all : ∀ u:Nat,(Lib.decDigits u).all isD=true∧numV (Lib.decDigits u) 0=u:=by
 intro u
 induction u using Nat.strongRecOn with
 | _ u ih=>
  by_cases h:u<10
  ·rw[Lib.decDigits,dif_pos h]
   have hd:isD (UInt8.ofNat (48+u))=true:=(isD_iff _).2 (by rw[digit_toNat h]; omega)
   refine⟨by rw[List.all_cons,hd]; rfl,?_⟩
   simp only[numV,List.foldl_cons,List.foldl_nil]
   rw[digit_toNat h]; omega
  ·rw[Lib.decDigits,dif_neg h]
   obtain⟨h1,h2⟩:=ih (u / 10) (by omega)
   have hd:isD (UInt8.ofNat (48+u % 10))=true:=(isD_iff _).2 (by rw[digit_toNat (by omega)]; omega)
   refine⟨by rw[List.all_append,h1,List.all_cons,hd]; rfl,?_⟩
   rw[numV_snoc,h2,digit_toNat (by omega)]; omega
theorem decDigits_len (u:Nat) (h:u<1000000):1≤(Lib.decDigits u).length∧(Lib.decDigits u).length≤6:=by
 rw[Lib.decDigits_length]
 refine⟨Lib.nDigits_pos u,?_⟩
 have key : ∀ k u:Nat,u<10 ^ (k+1)→Lib.nDigits u≤k+1:=by
  intro k
  induction k with
  | zero=>intro u h; rw[Lib.nDigits_small (by simpa using h)]; exact Nat.le_refl _
  | succ k ih=>
   intro u h
   by_cases hu:u<10
   ·rw[Lib.nDigits_small hu]; omega
   ·rw[Lib.nDigits_big hu]
    have:=ih (u / 10) (by rw[Nat.pow_succ] at h; omega)
    omega
 exact key 5 u (by simpa using h)
theorem number_digits (u:Nat) (h:u<1000000):number (Lib.decDigits u)=((u:Int),true):=by
 obtain⟨h1,h2⟩:=decDigits_all u
 obtain⟨h3,h4⟩:=decDigits_len u h
 unfold number
 rw[if_pos ⟨h3,h4,h1,by rw[h2]⟩,h2]
theorem digits_no {u:Nat} {c:UInt8} (hc:isD c=false):c∉Lib.decDigits u:=by
 intro hm
 have:=List.all_eq_true.1 (decDigits_all u).1 c hm
 rw[hc] at this; cases this
end G448
namespace G448
open Ev Go
def txOk (t:TTx):Bool:=(decide (t.1≥0) && decide (t.1≤3)) && ((decide (t.2.1≥0) && decide (t.2.1≤3)) && ((decide (t.2.2.1≥0) && decide (t.2.2.1≤1000)) && (decide (t.2.2.2≥0) && decide (t.2.2.2≤99))))
theorem txOk_iff (t:TTx):txOk t=true↔(0≤t.1∧t.1≤3)∧(0≤t.2.1∧t.2.1≤3)∧(0≤t.2.2.1∧t.2.2.1≤1000)∧(0≤t.2.2.2∧t.2.2.2≤99):=by
 unfold txOk; simp only[Bool.and_eq_true,decide_eq_true_eq,ge_iff_le]
theorem spec_TxOk_eq (t:TTx):spec_TxOk (t,())=some (txOk t,()):=by
 unfold spec_TxOk txOk
 simp only[spec_in_eq,Option.bind_some]
 cases (decide (t.1≥0) && decide (t.1≤3))<;>cases (decide (t.2.1≥0) && decide (t.2.1≤3))<;>cases (decide (t.2.2.1≥0) && decide (t.2.2.1≤1000))<;>rfl
theorem impl_TxOk_eq (t:TTx):impl_TxOk (t,())=some (txOk t,()):=by
 unfold impl_TxOk txOk
 simp only[impl_in_eq,Option.bind_some]
 cases (decide (t.1≥0) && decide (t.1≤3))<;>cases (decide (t.2.1≥0) && decide (t.2.1≤3))<;>cases (decide (t.2.2.1≥0) && decide (t.2.2.1≤1000))<;>rfl
def txText (t:TTx):List UInt8:=
 if txOk t=true then (((((Lib.decDigits t.1.toNat++[62])++Lib.decDigits t.2.1.toNat)++[58])++Lib.decDigits t.2.2.1.toNat)++[35])++Lib.decDigits t.2.2.2.toNat else []
theorem dl (u:Nat) (h:u<1000000):(Lib.decDigits u).length≤6:=(decDigits_len u h).2
theorem spec_TxText_eq (t:TTx):spec_TxText (t,())=some (txText t,()):=by
 unfold spec_TxText txText
 simp only[spec_TxOk_eq,Option.bind_some]
 by_cases h:txOk t=true
 ·have hh:=(txOk_iff t).1 h
  have d1:=spec_Digits_nat t.1.toNat (by omega)
  have d2:=spec_Digits_nat t.2.1.toNat (by omega)
  have d3:=spec_Digits_nat t.2.2.1.toNat (by omega)
  have d4:=spec_Digits_nat t.2.2.2.toNat (by omega)
  rw[Int.toNat_of_nonneg (by omega)] at d1 d2 d3 d4
  have h1:=dl t.1.toNat (by omega)
  have h2:=dl t.2.1.toNat (by omega)
  have h3:=dl t.2.2.1.toNat (by omega)
  have h4:=dl t.2.2.2.toNat (by omega)
  simp only[h,Bool.not_true,cond_false,d1,d2,d3,d4,Option.bind_some,List.length_append,List.length_cons,List.length_nil,if_true]
  rw[if_pos (by omega),if_pos (by omega),if_pos (by omega),if_pos (by omega),if_pos (by omega),if_pos (by omega)]
 ·have:txOk t=false:=by simpa using h
  simp[this]
theorem impl_TxText_eq (t:TTx):impl_TxText (t,())=some (txText t,()):=by
 unfold impl_TxText txText
 simp only[impl_TxOk_eq,Option.bind_some]
 by_cases h:txOk t=true
 ·have hh:=(txOk_iff t).1 h
  have d1:=impl_Digits_nat t.1.toNat
  have d2:=impl_Digits_nat t.2.1.toNat
  have d3:=impl_Digits_nat t.2.2.1.toNat
  have d4:=impl_Digits_nat t.2.2.2.toNat
  rw[Int.toNat_of_nonneg (by omega)] at d1 d2 d3 d4
  have h1:=dl t.1.toNat (by omega)
  have h2:=dl t.2.1.toNat (by omega)
  have h3:=dl t.2.2.1.toNat (by omega)
  have h4:=dl t.2.2.2.toNat (by omega)
  simp only[h,Bool.not_true,cond_false,d1,d2,d3,d4,Option.bind_some,List.length_append,List.length_cons,List.length_nil,if_true]
  rw[if_pos (by omega),if_pos (by omega),if_pos (by omega),if_pos (by omega),if_pos (by omega),if_pos (by omega)]
 ·have:txOk t=false:=by simpa using h
  simp[this]
def cutD (c:UInt8) (s d:List UInt8):List UInt8×List UInt8:=match cutAt c s with|some p=>p|none=>(d,[])
def specF (s:List UInt8):TTx:=
 let p:=cutD 62 s []
 let q:=cutD 58 p.2 []
 let r:=cutD 35 q.2 []
 ((number p.1).1,(number q.1).1,(number r.1).1,(number r.2).1)
def implF (s:List UInt8):TTx:=
 let p:=cutD 62 s s
 let q:=cutD 58 p.2 p.2
 let r:=cutD 35 q.2 q.2
 ((number p.1).1,(number q.1).1,(number r.1).1,(number r.2).1)
theorem txText_parts {t:TTx} (h:txOk t=true) (d1 d2 d3:List UInt8→List UInt8) :
  let p:=cutD 62 (txText t) (d1 (txText t))
  let q:=cutD 58 p.2 (d2 p.2)
  let r:=cutD 35 q.2 (d3 q.2)
  ((number p.1).1,(number q.1).1,(number r.1).1,(number r.2).1)=t:=by
 have hh:=(txOk_iff t).1 h
 have e1:cutAt 62 (txText t)=some (Lib.decDigits t.1.toNat,Lib.decDigits t.2.1.toNat++58::(Lib.decDigits t.2.2.1.toNat++35::Lib.decDigits t.2.2.2.toNat)):=by
  unfold txText
  rw[if_pos h]
  have:=cutAt_hit 62 (Lib.decDigits t.2.1.toNat++58::(Lib.decDigits t.2.2.1.toNat++35::Lib.decDigits t.2.2.2.toNat)) (Lib.decDigits t.1.toNat) (digits_no (by decide))
  rw[←this]
  congr 1
  simp
 have e2:=cutAt_hit 58 (Lib.decDigits t.2.2.1.toNat++35::Lib.decDigits t.2.2.2.toNat) (Lib.decDigits t.2.1.toNat) (digits_no (by decide))
 have e3:=cutAt_hit 35 (Lib.decDigits t.2.2.2.toNat) (Lib.decDigits t.2.2.1.toNat) (digits_no (by decide))
 simp only[cutD,e1,e2,e3,number_digits _ (show t.1.toNat<1000000 by omega),number_digits _ (show t.2.1.toNat<1000000 by omega),number_digits _ (show t.2.2.1.toNat<1000000 by omega),number_digits _ (show t.2.2.2.toNat<1000000 by omega)]
 obtain⟨a,b,c,d⟩:=t
 simp only at hh
 simp only[Prod.mk.injEq]
 omega
def txOf (s:List UInt8):TTx×Bool:=if txOk (specF s)=true∧txText (specF s)=s then (specF s,true) else ((0,0,0,0),false)
theorem txOf_impl (s:List UInt8):txOf s=if txOk (implF s)=true∧txText (implF s)=s then (implF s,true) else ((0,0,0,0),false):=by
 unfold txOf
 by_cases h1:txOk (specF s)=true∧txText (specF s)=s
 ·have e:implF s=specF s:=by
   have:=txText_parts h1.1 (fun x=>x) (fun x=>x) (fun x=>x)
   rw[h1.2] at this
   exact this
  rw[if_pos h1,e,if_pos h1]
 ·rw[if_neg h1,if_neg]
  intro h2
  have e:specF s=implF s:=by
   have:=txText_parts h2.1 (fun x=>[]) (fun x=>[]) (fun x=>[])
   rw[h2.2] at this
   exact this
  exact h1 (by rw[e]; exact h2)
theorem l2CutD (s:List UInt8) (c:UInt8) (hs:s.length≤137438953472):spec_l2Cut (s,c,())=some ((cutD c s []).1,(cutD c s []).2,(cutAt c s).isSome,()):=by
 rw[spec_l2Cut_eq s c hs]
 unfold cutD
 cases cutAt c s<;>rfl
theorem cutD_len (c:UInt8) (s d:List UInt8) (hd:d.length≤s.length):(cutD c s d).1.length≤s.length∧(cutD c s d).2.length≤s.length:=by
 unfold cutD
 cases h:cutAt c s with
 | none=>exact⟨hd,by simp⟩
 | some p=>
  have:=(cutAt_len c (p:=p.1) (q:=p.2) h).1
  simp only
  omega
theorem txText_no {t:TTx} (h : ¬ txOk t=true):txText t=[]:=by unfold txText; rw[if_neg h]
theorem txText_ne {t:TTx} (h:txOk t=true):txText t≠[]:=by unfold txText; rw[if_pos h]; simp
theorem spec_TxOf_eq (s:List UInt8) (hs:s.length≤137438953472):spec_TxOf (s,())=some ((txOf s).1,(txOf s).2,()):=by
 have l1:=cutD_len 62 s [] (by simp)
 have l2:=cutD_len 58 (cutD 62 s []).2 [] (by simp)
 have l3:=cutD_len 35 (cutD 58 (cutD 62 s []).2 []).2 [] (by simp)
 unfold spec_TxOf
 simp only[show UInt8.ofNat (Int.toNat 62)=62 from rfl,show UInt8.ofNat (Int.toNat 58)=58 from rfl,show UInt8.ofNat (Int.toNat 35)=35 from rfl,
  l2CutD s 62 hs,l2CutD (cutD 62 s []).2 58 (by omega),l2CutD (cutD 58 (cutD 62 s []).2 []).2 35 (by omega),spec_Number_eq,spec_TxText_eq,Option.bind_some]
 by_cases h0:s=[]
 ·subst h0
  have : ¬ (txOk (specF [])=true∧txText (specF [])=[]):=fun h=>txText_ne h.1 h.2
  unfold txOf
  rw[if_neg this]
  simp
 ·have e0:(s==[])=false:=by simp[h0]
  simp only[e0,cond_false]
  unfold txOf
  have ef:((number (cutD 62 s []).1).1,(number (cutD 58 (cutD 62 s []).2 []).1).1,(number (cutD 35 (cutD 58 (cutD 62 s []).2 []).2 []).1).1,(number (cutD 35 (cutD 58 (cutD 62 s []).2 []).2 []).2).1)=specF s:=rfl
  rw[ef]
  by_cases h:txText (specF s)=s
  ·have hok:txOk (specF s)=true:=by
    by_cases hk:txOk (specF s)=true
    ·exact hk
    ·rw[txText_no hk] at h; exact absurd h.symm h0
   have e1:(txText (specF s) != s)=false:=by simp[h]
   rw[if_pos ⟨hok,h⟩,e1]; rfl
  ·have e1:(txText (specF s) != s)=true:=by simp[h]
   rw[if_neg (fun hh=>h hh.2),e1]; rfl
theorem strings_Cut_eq (s:List UInt8) (c:UInt8) (hs:s.length≤1073741824):strings_Cut (s,[c],())=some ((cutD c s s).1,(cutD c s s).2,(cutAt c s).isSome,()):=by
 unfold strings_Cut
 dsimp only
 rw[if_pos (by omega),lib_cut_eq]
 unfold cutD
 cases cutAt c s<;>rfl
theorem impl_TxOf_eq (s:List UInt8) (hs:s.length≤1073741824):impl_TxOf (s,())=some ((txOf s).1,(txOf s).2,()):=by
 have l1:=cutD_len 62 s s (Nat.le_refl _)
 have l2:=cutD_len 58 (cutD 62 s s).2 (cutD 62 s s).2 (Nat.le_refl _)
 rw[txOf_impl]
 unfold impl_TxOf
 simp only[strings_Cut_eq s 62 hs,strings_Cut_eq (cutD 62 s s).2 58 (by omega),strings_Cut_eq (cutD 58 (cutD 62 s s).2 (cutD 62 s s).2).2 35 (by omega),Option.bind_some]
 generalize hp:cutD 62 s s=p
 generalize hq:cutD 58 p.2 p.2=q
 generalize hr:cutD 35 q.2 q.2=r
 have ef:implF s=((number p.1).1,(number q.1).1,(number r.1).1,(number r.2).1):=by
  unfold implF; simp only[hp,hq,hr]
 refine (fill_loop [p.1,q.1,r.1,r.2] (fun x=>(number x).1) (fun out=>(impl_TxOk ((rd .i64 out 0,rd .i64 out 1,rd .i64 out 2,rd .i64 out 3),())).bind fun r5=>bif (!r5.1) then some ((0,0,0,0),false,()) else
   (impl_TxText ((rd .i64 out 0,rd .i64 out 1,rd .i64 out 2,rd .i64 out 3),())).bind fun r6=>bif (r6.1 != s) then some ((0,0,0,0),false,()) else some ((rd .i64 out 0,rd .i64 out 1,rd .i64 out 2,rd .i64 out 3),true,())) (by simp) ?_ ?_ _ (by simp)).trans ?_
 ·intro rec out ho
  have ho:out.length=4:=ho
  simp[ho]
 ·intro rec i out y hx hi ho
  have ho:out.length=4:=ho
  have hi':i<4:=hi
  simp only[Int.toNat_natCast,ho,ge_ok hi,decide_true,cond_true,if_true,and_self,rd_get (e:=.str) hx,impl_Number_eq y,Option.bind_some,wr_nat (show i<4611686018427387904 by omega)]
  rw[if_pos ⟨trivial,by omega⟩]
 ·simp only[List.map_cons,List.map_nil,rd,List.getD_cons_zero,List.getD_cons_succ]
  rw[←ef,impl_TxOk_eq,impl_TxText_eq]
  simp only[Option.bind_some]
  by_cases h:txOk (implF s)=true
  ·by_cases h2:txText (implF s)=s
   ·have e1:(txText (implF s) != s)=false:=by simp[h2]
    rw[if_pos ⟨h,h2⟩,e1,h]; rfl
   ·have e1:(txText (implF s) != s)=true:=by simp[h2]
    rw[if_neg (fun hh=>h2 hh.2),e1,h]; rfl
  ·have:txOk (implF s)=false:=by simpa using h
   rw[if_neg (fun hh=>h hh.1),this]; rfl
def txsGo:List (List UInt8)→List TTx→List TTx×Bool
 | [],out=>(out,true)
 | p::ps,out=>if (txOf p).2=true then txsGo ps (out++[(txOf p).1]) else ([],false)
def txsOf (s:List UInt8):List TTx×Bool:=if s=[] then ([],true) else txsGo (pieces 44 s) []
theorem pieces_mem (c:UInt8) : ∀ {s p:List UInt8},p∈pieces c s→p.length≤s.length
 | [],p,h=>by simp[pieces] at h; simp[h]
 | x::l,p,h=>by
  simp only[pieces] at h
  split at h
  ·rcases List.mem_cons.1 h with rfl|h
   ·simp
   ·have:=pieces_mem c h; simp; omega
  ·cases hp:pieces c l with
   | nil=>rw[hp] at h; simp[glue] at h; simp[h]
   | cons q r=>
    rw[hp] at h
    simp only[glue,List.mem_cons] at h
    rcases h with rfl|h
    ·have:=pieces_mem c (s:=l) (p:=q) (by rw[hp]; simp); simp; omega
    ·have:=pieces_mem c (s:=l) (p:=p) (by rw[hp]; simp[h]); simp; omega
theorem txs_loop {tx:List UInt8×Unit→Option (TTx×Bool×Unit)} (ps:List (List UInt8)) (hl:ps.length≤137438953473) (htx : ∀ p∈ps,tx (p,())=some ((txOf p).1,(txOf p).2,()))
  {G:(List TTx×Int×Unit→Option (List TTx×Bool×Unit))→List TTx×Int×Unit→Option (List TTx×Bool×Unit)}
  (hG : ∀ rec out (i:Int),G rec (out,i,())=bif decide (i<(ps.length:Int)) then (if 0≤i∧i<(ps.length:Int) then (tx (rd .str ps i.toNat,())).bind fun r2=>bif !r2.2.1 then some ([],false,()) else
   (if (out.length+[r2.1].length)*32≤70368744177664 then rec (out++[r2.1],wr (i+1),()) else none) else none) else some (out,true,())) :
  iter G fuel ([],0,())=some ((txsGo ps []).1,(txsGo ps []).2,()):=by
 refine (walk ps.length (fun i (out:List TTx)=>(out,i,())) (fun i out=>out.length=i) (fun i out=>some ((txsGo (ps.drop i) out).1,(txsGo (ps.drop i) out).2,())) (by omega) ?_ ?_ (s0:=[]) rfl).trans (by simp)
 ·intro rec out ho
  rw[hG]; simp[txsGo]
 ·intro rec i out hi ho
  have hx:ps[i]?=some ps[i]:=List.getElem?_eq_getElem hi
  rw[hG]
  simp only[ge_ok hi,decide_true,cond_true,and_self,if_true,Int.toNat_natCast,rd_get (e:=.str) hx,htx ps[i] (List.getElem_mem hi),Option.bind_some,wr_nat (show i<4611686018427387904 by omega),List.length_cons,List.length_nil]
  rw[List.drop_eq_getElem_cons hi]
  by_cases h:(txOf ps[i]).2=true
  ·right
   refine⟨out++[(txOf ps[i]).1],by simp[ho],?_,?_⟩
   ·rw[h]; simp only[Bool.not_true,cond_false]; rw[if_pos (by omega)]
   ·simp only[txsGo,h,if_true]
  ·left
   have h':(txOf ps[i]).2=false:=by simpa using h
   simp[txsGo,h']
theorem spec_TxsOf_eq (s:List UInt8) (hs:s.length≤137438953472):spec_TxsOf (s,())=some ((txsOf s).1,(txsOf s).2,()):=by
 unfold spec_TxsOf txsOf
 by_cases h0:s=[]
 ·subst h0; rfl
 ·have e0:(s==[])=false:=by simp[h0]
  rw[if_neg h0]
  simp only[e0,cond_false,show UInt8.ofNat (Int.toNat 44)=44 from rfl,spec_Split_eq s 44 hs,Option.bind_some]
  have hp:=pieces_len 44 s
  refine txs_loop (tx:=spec_TxOf) (pieces 44 s) (by omega) (fun p hm=>spec_TxOf_eq p (by have:=pieces_mem 44 hm; omega)) ?_
  intro rec out i; rfl
theorem impl_TxsOf_eq (s:List UInt8) (hs:s.length≤1073741824):impl_TxsOf (s,())=some ((txsOf s).1,(txsOf s).2,()):=by
 unfold impl_TxsOf txsOf
 by_cases h0:s=[]
 ·subst h0; rfl
 ·have e0:(s==[])=false:=by simp[h0]
  rw[if_neg h0]
  simp only[e0,cond_false,show UInt8.ofNat (Int.toNat 44)=44 from rfl,impl_Split_eq s 44 hs,Option.bind_some]
  have hp:=pieces_len 44 s
  refine txs_loop (tx:=impl_TxOf) (pieces 44 s) (by omega) (fun p hm=>impl_TxOf_eq p (by have:=pieces_mem 44 hm; omega)) ?_
  intro rec out i; rfl
end G448
namespace G448
open Ev Go
abbrev TStep:=Int×List TTx
def stepB (q:List UInt8×List UInt8) (prev:Int):Bool:=
 (number q.1).2 && ((txsOf q.2).2 && (decide (prev<(number q.1).1) && (decide ((number q.1).1≤60) && decide ((txsOf q.2).1.length≤2))))
def stepsGo:List (List UInt8)→Int→List TStep→List TStep×Bool
 | [],_,out=>(out,true)
 | p::ps,prev,out=>match cutAt 124 p with
  | none=>([],false)
  | some q=>if stepB q prev=true then
    stepsGo ps (number q.1).1 (out++[((number q.1).1,(txsOf q.2).1)]) else ([],false)
def steps (s:List UInt8):List TStep×Bool:=
 if s=[] then ([],true) else match pieces 47 s with
  | []=>([],false)
  | p::ps=>if p=[]∧ps.length≤30 then stepsGo ps 0 [] else ([],false)
theorem number_nn (s:List UInt8):0≤(number s).1:=by
 unfold number
 split<;>simp
theorem spec_Steps_eq (s:List UInt8) (hs:s.length≤137438953472):spec_Steps (s,())=some ((steps s).1,(steps s).2,()):=by
 unfold spec_Steps steps
 by_cases h0:s=[]
 ·subst h0; rfl
 have e0:(s==[])=false:=by simp[h0]
 rw[if_neg h0]
 simp only[e0,cond_false,show UInt8.ofNat (Int.toNat 47)=47 from rfl,show UInt8.ofNat (Int.toNat 124)=124 from rfl,spec_Split_eq s 47 hs,Option.bind_some]
 have hpl:=pieces_len 47 s
 have hpm : ∀ p∈pieces 47 s,p.length≤s.length:=fun p hm=>pieces_mem 47 hm
 cases hp:pieces 47 s with
 | nil=>exact absurd hp (pieces_ne _ _)
 | cons p ps=>
  rw[hp] at hpl hpm
  simp only[List.length_cons] at hpl
  rw[if_pos (by simp only[List.length_cons]; omega)]
  simp only[Int.toNat_zero,rd,List.getD_cons_zero]
  by_cases h1:p=[]
  ·subst h1
   simp only[bne_self_eq_false,cond_false]
   by_cases h2:(((([]:List UInt8)::ps).length:Nat):Int)>31
   ·rw[if_neg (by simp only[List.length_cons] at h2; omega)]
    simp only[h2,decide_true,cond_true]
   ·rw[if_pos (show True∧ps.length≤30 from⟨trivial,by simp only[List.length_cons] at h2; omega⟩)]
    simp only[h2,decide_false,cond_false]
    refine (walkFrom (([]:List UInt8)::ps).length (fun i (t:List TStep×Int)=>(t.1,t.2,i,())) (fun i t=>t.1.length≤i∧0≤t.2∧t.2≤60)
     (fun i t=>some ((stepsGo ((([]:List UInt8)::ps).drop i) t.2 t.1).1,(stepsGo ((([]:List UInt8)::ps).drop i) t.2 t.1).2,())) (by simp only[List.length_cons]; omega) ?_ ?_ (s0:=([],0)) 1 (by simp) ⟨by simp,by simp,by simp⟩).trans (by simp)
    ·intro rec t ht; simp[stepsGo]
    ·intro rec i t hi ht
     obtain⟨t1,t2,t3⟩:=ht
     have hx:(([]:List UInt8)::ps)[i]?=some (([]:List UInt8)::ps)[i]:=List.getElem?_eq_getElem hi
     have hlen:=hpm _ (List.getElem_mem hi)
     have hil:i≤s.length+1:=by simp only[List.length_cons] at hi; omega
     rw[List.drop_eq_getElem_cons hi]
     simp only[stepsGo]
     have hc:=cutD_len 124 (([]:List UInt8)::ps)[i] [] (by simp)
     simp only[ge_ok hi,decide_true,cond_true,and_self,if_true,Int.toNat_natCast,rd_get (e:=.str) hx,l2CutD _ 124 (show (([]:List UInt8)::ps)[i].length≤137438953472 by omega),spec_Number_eq,spec_TxsOf_eq _ (show (cutD 124 (([]:List UInt8)::ps)[i] []).2.length≤137438953472 by omega),Option.bind_some,
      wr_nat (show i<4611686018427387904 by omega)]
     generalize hq:cutAt 124 (([]:List UInt8)::ps)[i]=q
     cases q with
     | none=>left; simp
     | some q=>
      simp only[cutD,hq,Option.isSome_some,Bool.not_true,cond_false]
      by_cases c1:(number q.1).2=true
      ·by_cases c2:(txsOf q.2).2=true
       ·by_cases c3:t.2<(number q.1).1
        ·by_cases c4:(number q.1).1≤60
         ·by_cases c5:(txsOf q.2).1.length≤2
          ·right
           refine⟨(t.1++[((number q.1).1,(txsOf q.2).1)],(number q.1).1),⟨by simp; omega,number_nn _,c4⟩,?_,?_⟩
           ·simp only[c1,c2,Bool.not_true,cond_false,show ¬ (number q.1).1≤t.2 by omega,decide_false,show ¬ (number q.1).1>60 by omega,show ¬ ((txsOf q.2).1.length:Int)>2 by omega,List.length_cons,List.length_nil]
            rw[if_pos (by omega)]
           ·rw[if_pos (show stepB q t.2=true by simp[stepB,c1,c2,c3,c4,c5])]
          ·left
           have hB:stepB q t.2=false:=by simp[stepB,c5]
           rw[hB]
           simp[c1,c2,show ¬ (number q.1).1≤t.2 by omega,show ¬ (number q.1).1>60 by omega,show (2:Int)<((txsOf q.2).1.length:Int) by omega]
         ·left
          have hB:stepB q t.2=false:=by simp[stepB,c4]
          rw[hB]
          simp[c1,c2,show ¬ (number q.1).1≤t.2 by omega,show (number q.1).1>60 by omega]
        ·left
         have hB:stepB q t.2=false:=by simp[stepB,c3]
         rw[hB]
         simp[c1,c2,show (number q.1).1≤t.2 by omega]
       ·left
        have hB:stepB q t.2=false:=by simp[stepB,c2]
        rw[hB]
        have:(txsOf q.2).2=false:=by simpa using c2
        simp[c1,this]
      ·left
       have hB:stepB q t.2=false:=by simp[stepB,c1]
       rw[hB]
       have:(number q.1).2=false:=by simpa using c1
       simp[this]
  ·have e1:(p != [])=true:=by simp[h1]
   rw[if_neg (show ¬ (p=[]∧ps.length≤30) from fun h=>h1 h.1),e1]; rfl
theorem impl_Steps_eq (s:List UInt8) (hs:s.length≤1073741824):impl_Steps (s,())=some ((steps s).1,(steps s).2,()):=by
 unfold impl_Steps steps
 by_cases h0:s=[]
 ·subst h0; rfl
 have e0:(s==[])=false:=by simp[h0]
 rw[if_neg h0]
 simp only[e0,cond_false,show UInt8.ofNat (Int.toNat 47)=47 from rfl,impl_Split_eq s 47 hs,Option.bind_some]
 have hpl:=pieces_len 47 s
 have hpm : ∀ p∈pieces 47 s,p.length≤s.length:=fun p hm=>pieces_mem 47 hm
 cases hp:pieces 47 s with
 | nil=>exact absurd hp (pieces_ne _ _)
 | cons p ps=>
  rw[hp] at hpl hpm
  simp only[List.length_cons] at hpl
  rw[if_pos (by simp only[List.length_cons]; omega)]
  simp only[Int.toNat_zero,rd,List.getD_cons_zero]
  have hw:wr (((p::ps).length:Int) - 1)=(ps.length:Int):=by
   rw[wr_id' (by simp only[List.length_cons]; omega) (by simp only[List.length_cons]; omega)]
   simp only[List.length_cons]; omega
  rw[hw]
  have htd:List.take ((((p::ps).length:Nat):Int).toNat - Int.toNat 1) (List.drop (Int.toNat 1) (p::ps))=ps:=by
   simp
  rw[htd]
  by_cases h1:p=[]
  ·subst h1
   simp only[bne_self_eq_false,cond_false]
   by_cases h2:(ps.length:Int)>30
   ·rw[if_neg (show ¬ (True∧ps.length≤30) from fun h=>by have:=h.2; omega)]
    simp only[h2,decide_true,cond_true]
   ·rw[if_pos (show True∧ps.length≤30 from⟨trivial,by omega⟩)]
    simp only[h2,decide_false,cond_false]
    rw[if_pos (by simp only[List.length_cons]; omega)]
    refine (walk ps.length (fun i (t:List TStep×Int)=>(t.1,t.2,i,())) (fun i t=>t.1.length≤i∧0≤t.2∧t.2≤60)
     (fun i t=>some ((stepsGo (ps.drop i) t.2 t.1).1,(stepsGo (ps.drop i) t.2 t.1).2,())) (by omega) ?_ ?_ (s0:=([],0)) ⟨by simp,by simp,by simp⟩).trans (by simp)
    ·intro rec t ht; simp[stepsGo]
    ·intro rec i t hi ht
     obtain⟨t1,t2,t3⟩:=ht
     have hx:ps[i]?=some ps[i]:=List.getElem?_eq_getElem hi
     have hlen:=hpm _ (List.mem_cons_of_mem _ (List.getElem_mem hi))
     rw[List.drop_eq_getElem_cons hi]
     simp only[stepsGo]
     have hc:=cutD_len 124 ps[i] ps[i] (Nat.le_refl _)
     have hx':ps.getD i (dflt .str)=ps[i]:=rd_get (e:=.str) hx
     simp only[ge_ok hi,decide_true,cond_true,and_self,if_true,Int.toNat_natCast,hx',strings_Cut_eq _ 124 (show ps[i].length≤1073741824 by omega),impl_Number_eq,impl_TxsOf_eq _ (show (cutD 124 ps[i] ps[i]).2.length≤1073741824 by omega),Option.bind_some,
      wr_nat (show i<4611686018427387904 by omega),impl_in_eq,wr_id' (show (-9223372036854775808:Int)≤t.2+1 by omega) (show t.2+1≤9223372036854775807 by omega)]
     generalize hq:cutAt 124 ps[i]=q
     cases q with
     | none=>left; simp
     | some q=>
      simp only[cutD,hq,Option.isSome_some,Bool.not_true,cond_false]
      by_cases c1:(number q.1).2=true
      ·by_cases c2:(txsOf q.2).2=true
       ·by_cases c3:t.2<(number q.1).1
        ·by_cases c4:(number q.1).1≤60
         ·by_cases c5:(txsOf q.2).1.length≤2
          ·right
           refine⟨(t.1++[((number q.1).1,(txsOf q.2).1)],(number q.1).1),⟨by simp; omega,number_nn _,c4⟩,?_,?_⟩
           ·simp only[c1,c2,c4,Bool.not_true,cond_false,show (number q.1).1≥t.2+1 by omega,decide_true,Bool.and_self,show ¬ ((txsOf q.2).1.length:Int)>2 by omega,decide_false,List.length_cons,List.length_nil]
            rw[if_pos (by omega)]
           ·rw[if_pos (show stepB q t.2=true by simp[stepB,c1,c2,c3,c4,c5])]
          ·left
           have hB:stepB q t.2=false:=by simp[stepB,c5]
           rw[hB]
           simp[c1,c2,c4,show t.2+1≤(number q.1).1 by omega,show (2:Int)<((txsOf q.2).1.length:Int) by omega]
         ·left
          have hB:stepB q t.2=false:=by simp[stepB,c4]
          rw[hB]
          simp[c1,c2,c4]
        ·left
         have hB:stepB q t.2=false:=by simp[stepB,c3]
         rw[hB]
         simp[c1,c2,show ¬ t.2+1≤(number q.1).1 by omega]
       ·left
        have hB:stepB q t.2=false:=by simp[stepB,c2]
        rw[hB]
        have:(txsOf q.2).2=false:=by simpa using c2
        simp[c1,this]
      ·left
       have hB:stepB q t.2=false:=by simp[stepB,c1]
       rw[hB]
       have:(number q.1).2=false:=by simpa using c1
       simp[this]
  ·have e1:(p != [])=true:=by simp[h1]
   rw[if_neg (show ¬ (p=[]∧ps.length≤30) from fun h=>h1 h.1),e1]; rfl
end G448
namespace G448
open Ev Go
def confOk (c:TConf):Bool:=(decide (c.1≥4) && decide (c.1≤7)) && (decide (c.2≥1) && decide (c.2≤6))
theorem spec_ConfOk_eq (c:TConf):spec_ConfOk (c,())=some (confOk c,()):=by
 unfold spec_ConfOk confOk
 simp only[spec_in_eq,Option.bind_some]
 cases (decide (c.1≥4) && decide (c.1≤7))<;>rfl
theorem impl_ConfOk_eq (c:TConf):impl_ConfOk (c,())=some (confOk c,()):=by
 unfold impl_ConfOk confOk
 simp only[impl_in_eq,Option.bind_some]
 cases (decide (c.1≥4) && decide (c.1≤7))<;>rfl
theorem confOk_b {c:TConf} (h:confOk c=true):4≤c.1∧c.1≤7:=by
 unfold confOk at h
 simp only[Bool.and_eq_true,decide_eq_true_eq] at h
 omega
def nameOk (s:List UInt8):Bool:=(steps s).2
def viewOf (s:List UInt8):Int:=match (steps s).1.getLast? with|some x=>x.1|none=>0
theorem spec_NameOk_eq (s:List UInt8) (hs:s.length≤137438953472):spec_NameOk (s,())=some (nameOk s,()):=by
 unfold spec_NameOk nameOk
 simp only[spec_Steps_eq s hs,Option.bind_some]
theorem impl_NameOk_eq (s:List UInt8) (hs:s.length≤1073741824):impl_NameOk (s,())=some (nameOk s,()):=by
 unfold impl_NameOk nameOk
 simp only[impl_Steps_eq s hs,Option.bind_some]
theorem stepsGo_props : ∀ (ps:List (List UInt8)) (prev:Int) (out:List TStep),((stepsGo ps prev out).2=false→(stepsGo ps prev out).1=[])∧(stepsGo ps prev out).1.length≤out.length+ps.length
 | [],prev,out=>by simp[stepsGo]
 | p::ps,prev,out=>by
  simp only[stepsGo]
  cases cutAt 124 p with
  | none=>simp
  | some q=>
   simp only
   split
   ·obtain⟨h1,h2⟩:=stepsGo_props ps (number q.1).1 (out++[((number q.1).1,(txsOf q.2).1)])
    refine⟨h1,?_⟩
    simp only[List.length_append,List.length_cons,List.length_nil] at h2 ⊢
    omega
   ·simp
theorem steps_props (s:List UInt8):((steps s).2=false→(steps s).1=[])∧(steps s).1.length≤30:=by
 unfold steps
 split
 ·simp
 ·cases pieces 47 s with
  | nil=>simp
  | cons p ps=>
   simp only
   split
   ·next h=>
    obtain⟨h1,h2⟩:=stepsGo_props ps 0 []
    exact⟨h1,by simp only[List.length_nil] at h2; omega⟩
   ·simp
theorem last_get {l:List TStep} (h:l≠[]) : ∃ x,l.getLast?=some x∧l[l.length - 1]?=some x:=by
 have hl:l.length - 1<l.length:=by cases l with|nil=>exact absurd rfl h|cons _ _=>simp
 exact⟨l[l.length - 1],by rw[List.getLast?_eq_getElem?,List.getElem?_eq_getElem hl],List.getElem?_eq_getElem hl⟩
theorem spec_ViewOf_eq (s:List UInt8) (hs:s.length≤137438953472):spec_ViewOf (s,())=some (viewOf s,()):=by
 unfold spec_ViewOf viewOf
 simp only[spec_Steps_eq s hs,Option.bind_some]
 obtain⟨h1,h2⟩:=steps_props s
 by_cases h:(steps s).2=true
 ·rw[h]
  simp only[Bool.not_true,cond_false]
  by_cases h0:(steps s).1=[]
  ·simp[h0]
  ·obtain⟨x,e1,e2⟩:=last_get h0
   have hl:1≤(steps s).1.length:=by cases hh:(steps s).1 with|nil=>exact absurd hh h0|cons _ _=>simp
   have e3:(((steps s).1.length:Int)==0)=false:=by simp; omega
   simp only[e3,cond_false,e1,wr_id' (show (-9223372036854775808:Int)≤((steps s).1.length:Int) - 1 by omega) (show ((steps s).1.length:Int) - 1≤9223372036854775807 by omega)]
   rw[if_pos (by omega),show (((steps s).1.length:Int) - 1).toNat=(steps s).1.length - 1 by omega,rd_get e2]
 ·have h':(steps s).2=false:=by simpa using h
  rw[h',h1 h']; rfl
theorem impl_ViewOf_eq (s:List UInt8) (hs:s.length≤1073741824):impl_ViewOf (s,())=some (viewOf s,()):=by
 unfold impl_ViewOf viewOf
 simp only[impl_Steps_eq s hs,Option.bind_some]
 obtain⟨h1,h2⟩:=steps_props s
 by_cases h0:(steps s).1=[]
 ·simp[h0]
 ·obtain⟨x,e1,e2⟩:=last_get h0
  have hl:1≤(steps s).1.length:=by cases hh:(steps s).1 with|nil=>exact absurd hh h0|cons _ _=>simp
  have e3:(((steps s).1.length:Int)==0)=false:=by simp; omega
  simp only[e3,cond_false,e1,wr_id' (show (-9223372036854775808:Int)≤((steps s).1.length:Int) - 1 by omega) (show ((steps s).1.length:Int) - 1≤9223372036854775807 by omega)]
  rw[if_pos (by omega),show (((steps s).1.length:Int) - 1).toNat=(steps s).1.length - 1 by omega,rd_get e2]
theorem stepsGo_view : ∀ (ps:List (List UInt8)) (prev:Int) (out:List TStep),(out≠[]∨ps≠[])→0≤prev→(∀ x,out.getLast?=some x→1≤x.1∧x.1≤60)→(stepsGo ps prev out).2=true →
  ∃ x,(stepsGo ps prev out).1.getLast?=some x∧1≤x.1∧x.1≤60
 | [],prev,out,h,hp,ho,hok=>by
  have h0:out≠[]:=h.elim id (fun h=>absurd rfl h)
  obtain⟨x,e,_⟩:=last_get h0
  exact⟨x,e,ho x e⟩
 | p::ps,prev,out,h,hp,ho,hok=>by
  simp only[stepsGo] at hok ⊢
  cases hq:cutAt 124 p with
  | none=>rw[hq] at hok; simp at hok
  | some q=>
   rw[hq] at hok
   simp only at hok ⊢
   split at hok
   ·next hB=>
    rw[if_pos hB]
    simp only[stepB,Bool.and_eq_true,decide_eq_true_eq] at hB
    refine stepsGo_view ps (number q.1).1 _ (.inl (by simp)) (number_nn _) ?_ hok
    intro x hx
    simp at hx
    subst hx
    exact⟨by simp only; omega,hB.2.2.2.1⟩
   ·simp at hok
theorem name_view {s:List UInt8} (h:nameOk s=true) (h0:s≠[]):1≤viewOf s∧viewOf s≤60:=by
 unfold nameOk steps at h
 unfold viewOf steps
 rw[if_neg h0] at h ⊢
 cases hp:pieces 47 s with
 | nil=>exact absurd hp (pieces_ne _ _)
 | cons p ps=>
  rw[hp] at h
  simp only at h ⊢
  split at h
  ·next hc=>
   rw[if_pos hc]
   have hne:ps≠[]:=by
    rintro rfl
    obtain⟨rfl,_⟩:=hc
    cases s with
    | nil=>exact h0 rfl
    | cons x l=>
     simp only[pieces] at hp
     split at hp
     ·exact pieces_ne 47 l (by simpa using hp)
     ·cases hl:pieces 47 l with
      | nil=>exact pieces_ne 47 l hl
      | cons a b=>rw[hl] at hp; simp[glue] at hp
   obtain⟨x,e1,e2,e3⟩:=stepsGo_view ps 0 [] (.inr hne) (by decide) (by simp) h
   rw[e1]; exact⟨e2,e3⟩
  ·simp at h
theorem name_nil:nameOk []=true∧viewOf []=0:=by
 constructor<;>simp[nameOk,viewOf,steps]
def setGo (n:Int):Option Int→List Int→Bool
 | _,[]=>true
 | p,x::l => !decide (x<0) && (!decide (x≥n) && ((match p with|some y => !decide (y≥x)|none=>true) && setGo n (some x) l))
def setOk (n:Int) (l:List Int):Bool:=setGo n none l
theorem set_loop (n:Int) (l:List Int) (hl:l.length≤137438953472) {G:(Int×Unit→Option (Bool×Unit))→Int×Unit→Option (Bool×Unit)}
  (hend : ∀ rec,G rec ((l.length:Int),())=some (true,()))
  (h0 : ∀ rec x,l[0]?=some x→G rec (((0:Nat):Int),())=bif decide (x<0) then some (false,()) else bif decide (x≥n) then some (false,()) else rec (((0:Nat):Int)+1,()))
  (hstep : ∀ rec (i:Nat) x y,l[i]?=some x→l[i+1]?=some y→i+1<l.length→G rec (((i+1:Nat):Int),())=bif decide (y<0) then some (false,()) else bif decide (y≥n) then some (false,()) else bif decide (x≥y) then some (false,()) else rec (((i+1:Nat):Int)+1,())) :
  iter G fuel (0,())=some (setOk n l,()):=by
 let pv:Nat→Option Int:=fun i=>match i with|0=>none|i+1=>l[i]?
 refine (walk l.length (fun i (_:Unit)=>(i,())) (fun _ _=>True) (fun i _=>some (setGo n (pv i) (l.drop i),())) (by omega) ?_ ?_ (s0:=()) trivial).trans (by simp[setOk,pv])
 ·intro rec _ _
  rw[hend]; simp[setGo]
 ·intro rec i _ hi _
  have hx:l[i]?=some l[i]:=List.getElem?_eq_getElem hi
  have hpv:pv (i+1)=some l[i]:=hx
  rw[List.drop_eq_getElem_cons hi,hpv]
  cases i with
  | zero=>
   rw[h0 rec l[0] hx,show pv 0=none from rfl]
   simp only[setGo]
   by_cases c1:l[0]<0
   ·left; simp[c1]
   ·by_cases c2:l[0]≥n
    ·left; simp[c1,c2]
    ·right
     exact⟨(),trivial,by simp[c1,c2],by simp[c1,c2]⟩
  | succ i=>
   have hx':l[i]?=some l[i]:=List.getElem?_eq_getElem (by omega)
   rw[hstep rec i l[i] l[i+1] hx' hx hi,show pv (i+1)=some l[i] from hx']
   simp only[setGo]
   by_cases c1:l[i+1]<0
   ·left; simp[c1]
   ·by_cases c2:l[i+1]≥n
    ·left; simp[c1,c2]
    ·by_cases c3:l[i]≥l[i+1]
     ·left; simp[c1,c2,c3]
     ·right
      exact⟨(),trivial,by simp[c1,c2,c3],by simp[c1,c2,c3]⟩
theorem spec_SetOk_eq (n:Int) (l:List Int) (hl:l.length≤137438953472):spec_SetOk (n,l,())=some (setOk n l,()):=by
 unfold spec_SetOk
 refine set_loop n l hl ?_ ?_ ?_
 ·intro rec; simp
 ·intro rec x hx
  have hi:0<l.length:=by
   rcases Nat.eq_zero_or_pos l.length with h|h
   ·rw[List.getElem?_eq_none (by omega)] at hx; cases hx
   ·exact h
  simp only[ge_ok hi,decide_true,cond_true,and_self,if_true,Int.toNat_natCast,rd_get (e:=.i64) hx,wr_nat (show 0<4611686018427387904 by omega),show ¬ (((0:Nat):Int)>0) by omega,decide_false,cond_false]
 ·intro rec i x y hx hy hi
  have e:wr (((i+1:Nat):Int) - 1)=(i:Int):=by rw[wr_id' (by omega) (by omega)]; omega
  simp only[ge_ok hi,ge_ok (show i<l.length by omega),e,decide_true,cond_true,and_self,if_true,Int.toNat_natCast,rd_get (e:=.i64) hx,rd_get (e:=.i64) hy,wr_nat (show i+1<4611686018427387904 by omega),show (((i+1:Nat):Int)>0) by omega]
theorem impl_SetOk_eq (n:Int) (l:List Int) (hl:l.length≤137438953472):impl_SetOk (n,l,())=some (setOk n l,()):=by
 unfold impl_SetOk
 refine set_loop n l hl ?_ ?_ ?_
 ·intro rec; simp
 ·intro rec x hx
  have hi:0<l.length:=by
   rcases Nat.eq_zero_or_pos l.length with h|h
   ·rw[List.getElem?_eq_none (by omega)] at hx; cases hx
   ·exact h
  simp only[ge_ok hi,decide_true,cond_true,and_self,if_true,Int.toNat_natCast,rd_get (e:=.i64) hx,wr_nat (show 0<4611686018427387904 by omega),show ¬ (((0:Nat):Int)>0) by omega,decide_false,cond_false]
 ·intro rec i x y hx hy hi
  have e:wr (((i+1:Nat):Int) - 1)=(i:Int):=by rw[wr_id' (by omega) (by omega)]; omega
  simp only[ge_ok hi,ge_ok (show i<l.length by omega),e,decide_true,cond_true,and_self,if_true,Int.toNat_natCast,rd_get (e:=.i64) hx,rd_get (e:=.i64) hy,wr_nat (show i+1<4611686018427387904 by omega),show (((i+1:Nat):Int)>0) by omega]
def quorum (c:TConf):Int:=if confOk c=true then c.1 - (c.1 - 1) / 3 else 0
theorem spec_Quorum_eq (c:TConf):spec_Quorum (c,())=some (quorum c,()):=by
 unfold spec_Quorum quorum
 simp only[spec_ConfOk_eq,Option.bind_some]
 by_cases h:confOk c=true
 ·obtain⟨h1,h2⟩:=confOk_b h
  have e1:wr (c.1 - 1)=c.1 - 1:=wr_id' (by omega) (by omega)
  have e2:Int.tdiv (c.1 - 1) 3=(c.1 - 1) / 3:=Int.tdiv_eq_ediv_of_nonneg (by omega)
  simp only[h,Bool.not_true,cond_false,if_true,e1,e2]
  rw[wr_id' (n:=(c.1 - 1) / 3) (by omega) (by omega),wr_id' (by omega) (by omega)]
 ·have h':confOk c=false:=by simpa using h
  simp[h']
theorem impl_Quorum_eq (c:TConf):impl_Quorum (c,())=some (quorum c,()):=by
 unfold impl_Quorum impl_Faults quorum
 simp only[impl_ConfOk_eq,Option.bind_some]
 by_cases h:confOk c=true
 ·obtain⟨h1,h2⟩:=confOk_b h
  have e1:wr (c.1 - 1)=c.1 - 1:=wr_id' (by omega) (by omega)
  have e2:Int.tdiv (c.1 - 1) 3=(c.1 - 1) / 3:=Int.tdiv_eq_ediv_of_nonneg (by omega)
  simp only[h,Bool.not_true,cond_false,if_true,e1,e2,Option.bind_some]
  rw[wr_id' (n:=(c.1 - 1) / 3) (by omega) (by omega),wr_id' (by omega) (by omega)]
 ·have h':confOk c=false:=by simpa using h
  simp[h']
def lastIn (c:UInt8) (s:List UInt8):Nat→Option Nat
 | 0=>none
 | k+1=>if s.getD k 0=c then some k else lastIn c s k
def upOf (s:List UInt8):List UInt8:=if nameOk s=true then (match lastIn 47 s s.length with|some k=>s.take k|none=>[]) else []
theorem lastIn_lt (c:UInt8) (s:List UInt8) : ∀ k i,lastIn c s k=some i→i<k
 | 0,i,h=>by cases h
 | k+1,i,h=>by
  simp only[lastIn] at h
  split at h
  ·cases h; omega
  ·have:=lastIn_lt c s k i h; omega
theorem lib_last (c:UInt8) (s:List UInt8) : ∀ k,k≤s.length→Lib.lastIdx (ByteArray.mk ⟨s⟩) c.toNat k=match lastIn c s k with|some i=>(i:Int)|none => -1
 | 0,_=>rfl
 | k+1,h=>by
  have hk:k<s.length:=by omega
  have e:(ByteArray.mk ⟨s⟩).data[k]! = s.getD k 0:=by
   rw[List.getD_eq_getElem?_getD,List.getElem?_eq_getElem hk]
   simp[hk]
  simp only[Lib.lastIdx,lastIn,e]
  by_cases hc:s.getD k 0=c
  ·rw[if_pos (by rw[hc]),if_pos hc]
  ·rw[if_neg (fun h=>hc (UInt8.toNat_inj.1 (by omega))),if_neg hc,lib_last c s k (by omega)]
theorem name_slash {s:List UInt8} (h:nameOk s=true) (h0:s≠[]) : ∃ l,s=47::l:=by
 unfold nameOk steps at h
 rw[if_neg h0] at h
 cases hp:pieces 47 s with
 | nil=>exact absurd hp (pieces_ne _ _)
 | cons p ps=>
  rw[hp] at h
  simp only at h
  split at h
  ·next hc=>
   obtain⟨rfl,_⟩:=hc
   cases s with
   | nil=>exact absurd rfl h0
   | cons x l=>
    simp only[pieces] at hp
    split at hp
    ·next e=>exact⟨l,by rw[e]⟩
    ·cases hl:pieces 47 l with
     | nil=>exact absurd hl (pieces_ne 47 l)
     | cons a b=>rw[hl] at hp; simp[glue] at hp
  ·simp at h
theorem lastIn_some {c:UInt8} {l:List UInt8} : ∀ k,1≤k → ∃ i,lastIn c (c::l) k=some i
 | 0,h=>by omega
 | 1,_=>⟨0,by simp[lastIn]⟩
 | k+2,_=>by
  simp only[lastIn]
  split
  ·exact⟨_,rfl⟩
  ·exact lastIn_some (k+1) (by omega)
theorem spec_max_eq (a b:Int):spec_l1Max (a,b,())=some (max a b,()):=by
 unfold spec_l1Max
 by_cases h:a>b
 ·simp only[h,decide_true,cond_true]; congr 2; omega
 ·simp only[h,decide_false,cond_false]; congr 2; omega
theorem spec_UpOf_eq (s:List UInt8) (hs:s.length≤137438953472):spec_UpOf (s,())=some (upOf s,()):=by
 unfold spec_UpOf upOf
 simp only[spec_NameOk_eq s hs,Option.bind_some]
 by_cases h:nameOk s=true
 ·simp only[h,Bool.not_true,cond_false,if_true]
  refine (iter_eq (fun x:Int×Unit=>some ((match lastIn 47 s x.1.toNat with|some k=>s.take k|none=>[]),())) (fun x=>x.1.toNat) (fun x=>0≤x.1∧x.1≤(s.length:Int)) ?_ fuel ((s.length:Int),()) ⟨by simp,by simp⟩
   (by simp only[Int.toNat_natCast]; have:=fuel_gt (n:=s.length) (by omega); exact this)).trans (by simp)
  rintro rec ⟨v,⟨⟩⟩ ⟨h1,h2⟩ hrec
  obtain⟨n,rfl⟩ : ∃ n:Nat,v=(n:Int):=⟨v.toNat,by simp only at h1; omega⟩
  simp only at h2
  cases n with
  | zero=>
   have e1:wr (((0:Nat):Int) - 1) = -1:=wr_id' (by decide) (by decide)
   simp only[show ¬ (((0:Nat):Int)>0) by omega,decide_false,cond_false,e1,spec_max_eq,Option.bind_some,show max (-1:Int) 0=0 by decide]
   rw[if_pos (by omega)]
   simp[lastIn]
  | succ n=>
   have e1:wr (((n+1:Nat):Int) - 1)=(n:Int):=by rw[wr_id' (by omega) (by omega)]; omega
   simp only[show (((n+1:Nat):Int)>0) by omega,decide_true,cond_true,e1,spec_max_eq,Option.bind_some,Int.toNat_natCast,show max (n:Int) 0=(n:Int) by omega,lastIn,show UInt8.ofNat (Int.toNat 47)=47 from rfl]
   rw[if_pos (by omega)]
   by_cases hc:s.getD n 0=47
   ·have e2:(s.getD n 0 != 47)=false:=by rw[hc]; rfl
    rw[e2,if_pos hc]
    simp only[cond_false]
    rw[if_pos (by omega)]
    simp
   ·have e2:(s.getD n 0 != 47)=true:=bne_iff_ne.2 hc
    rw[e2,if_neg hc]
    simp only[cond_true]
    rw[hrec ((n:Int),()) ⟨by simp,by simp only; omega⟩ (by simp only[Int.toNat_natCast]; omega)]
    simp
 ·have h':nameOk s=false:=by simpa using h
  simp[h']
theorem impl_UpOf_eq (s:List UInt8) (hs:s.length≤1073741824):impl_UpOf (s,())=some (upOf s,()):=by
 unfold impl_UpOf upOf
 simp only[impl_NameOk_eq s hs,Option.bind_some]
 by_cases h:nameOk s=true
 ·simp only[h,Bool.not_true,cond_false,if_true]
  by_cases h0:s=[]
  ·subst h0; rfl
  ·have e0:(s==[])=false:=by simp[h0]
   obtain⟨l,rfl⟩:=name_slash h h0
   obtain⟨i,hi⟩:=lastIn_some (c:=47) (l:=l) (47::l).length (by simp)
   have hlt:=lastIn_lt _ _ _ _ hi
   have e1:strings_LastIndexByte (47::l,UInt8.ofNat (Int.toNat 47),())=some ((i:Int),()):=by
    unfold strings_LastIndexByte
    dsimp only
    rw[if_pos (by omega)]
    have:=lib_last 47 (47::l) (47::l).length (Nat.le_refl _)
    rw[hi] at this
    simp only at this
    rw[←this]; rfl
   simp only[e0,cond_false,e1,Option.bind_some,hi]
   rw[if_pos (by omega)]
   simp
 ·have h':nameOk s=false:=by simpa using h
  simp[h']
def qcOk (c:TConf) (q:TQc):Bool:=
 confOk c && (nameOk q.2.1 && (viewOf q.2.1==q.1 && (bif q.2.1==[] then ((q.2.2.length:Int)==0) else (setOk c.1 q.2.2 && decide ((q.2.2.length:Int)≥quorum c)))))
theorem spec_QcOk_eq (c:TConf) (q:TQc) (hw:wQc q≤137438953472):spec_QcOk (c,q,())=some (qcOk c q,()):=by
 have h1:q.2.1.length≤137438953472:=by simp only[wQc] at hw; omega
 have h2:q.2.2.length≤137438953472:=by simp only[wQc,wIntS] at hw; omega
 unfold spec_QcOk qcOk
 simp only[spec_ConfOk_eq,spec_NameOk_eq _ h1,spec_ViewOf_eq _ h1,spec_SetOk_eq _ _ h2,spec_Quorum_eq,Option.bind_some]
 cases confOk c
 ·rfl
 cases nameOk q.2.1
 ·rfl
 by_cases e:viewOf q.2.1=q.1
 ·have e1:(viewOf q.2.1 != q.1)=false:=by simp[e]
  have e2:(viewOf q.2.1==q.1)=true:=by simp[e]
  rw[e1,e2]
  cases (q.2.1==[])<;>cases setOk c.1 q.2.2<;>rfl
 ·have e1:(viewOf q.2.1 != q.1)=true:=by simp[e]
  have e2:(viewOf q.2.1==q.1)=false:=by simp[e]
  rw[e1,e2]; rfl
theorem impl_QcOk_eq (c:TConf) (q:TQc) (hw:wQc q≤1073741824):impl_QcOk (c,q,())=some (qcOk c q,()):=by
 have h1:q.2.1.length≤1073741824:=by simp only[wQc] at hw; omega
 have h2:q.2.2.length≤1073741824:=by simp only[wQc,wIntS] at hw; omega
 unfold impl_QcOk impl_QcFirst qcOk
 simp only[impl_ConfOk_eq,impl_NameOk_eq _ h1,impl_ViewOf_eq _ h1,impl_SetOk_eq _ _ (show q.2.2.length≤137438953472 by omega),impl_Quorum_eq,impl_QcSame_eq q _ (show q.2.2.length≤8796093022208 by omega),Option.bind_some]
 cases confOk c
 ·rfl
 simp only[Bool.not_true,cond_false,Bool.true_and]
 obtain⟨v,name,who⟩:=q
 simp only[qcSame]
 by_cases hn:name=[]
 ·subst hn
  obtain⟨k1,k2⟩:=name_nil
  rw[k1,k2]
  by_cases hv:v=0
  ·subst hv
   cases who with
   | nil=>rfl
   | cons a b=>
    simp
    omega
  ·have e1:(v==0)=false:=by simp[hv]
   have e2:((0:Int)==v)=false:=by simp; omega
   have e3:(v==(0:Int))=false:=e1
   rw[e1,e2]
   simp[hv]
 ·have e0:(name==[])=false:=by simp[hn]
  rw[e0]
  simp only[Bool.false_and,Bool.and_false,cond_false]
  by_cases hk:nameOk name=true
  ·obtain⟨w1,w2⟩:=name_view hk hn
   rw[hk]
   by_cases e:viewOf name=v
   ·have e1:(v==viewOf name)=true:=by simp[e]
    have e2:(viewOf name==v)=true:=by simp[e]
    have e3:decide (v≥1)=true:=by simp; omega
    rw[e1,e2,e3]
    cases setOk c.1 who<;>simp
   ·have e1:(v==viewOf name)=false:=by simp; omega
    have e2:(viewOf name==v)=false:=by simp[e]
    rw[e1,e2]
    cases decide (v≥1)<;>rfl
  ·have hk':nameOk name=false:=by simpa using hk
   rw[hk']
   cases decide (v≥1)<;>rfl
def blockOk (c:TConf) (b:TBlock):Bool:=qcOk c b.2 && (nameOk b.1 && (b.1 != [] && upOf b.1==b.2.2.1))
theorem spec_BlockOk_eq (c:TConf) (b:TBlock) (hw:wBlock b≤137438953472):spec_BlockOk (c,b,())=some (blockOk c b,()):=by
 have h1:b.1.length≤137438953472:=by simp only[wBlock] at hw; omega
 unfold spec_BlockOk blockOk
 simp only[spec_QcOk_eq c b.2 (by simp only[wBlock] at hw; omega),spec_NameOk_eq _ h1,spec_UpOf_eq _ h1,Option.bind_some]
 cases qcOk c b.2<;>cases nameOk b.1<;>cases (b.1 != [])<;>rfl
theorem impl_BlockOk_eq (c:TConf) (b:TBlock) (hw:wBlock b≤1073741824):impl_BlockOk (c,b,())=some (blockOk c b,()):=by
 have h1:b.1.length≤1073741824:=by simp only[wBlock] at hw; omega
 unfold impl_BlockOk blockOk
 simp only[impl_QcOk_eq c b.2 (by simp only[wBlock] at hw; omega),impl_NameOk_eq _ h1,impl_UpOf_eq _ h1,Option.bind_some]
 cases qcOk c b.2<;>cases nameOk b.1<;>cases (b.1 != [])<;>rfl
def partOk (c:TConf) (p:TPart):Bool:=
 confOk c && ((decide (p.1≥1) && decide (p.1≤60)) && (setOk c.1 p.2.2 && (decide ((p.2.2.length:Int)>0) && (p.2.1==[] || (nameOk p.2.1 && viewOf p.2.1==p.1)))))
theorem spec_PartOk_eq (c:TConf) (p:TPart) (hw:wPart p≤137438953472):spec_PartOk (c,p,())=some (partOk c p,()):=by
 have h1:p.2.1.length≤137438953472:=by simp only[wPart] at hw; omega
 have h2:p.2.2.length≤137438953472:=by simp only[wPart,wIntS] at hw; omega
 unfold spec_PartOk partOk
 simp only[spec_ConfOk_eq,spec_in_eq,spec_SetOk_eq _ _ h2,spec_NameOk_eq _ h1,spec_ViewOf_eq _ h1,Option.bind_some]
 have e:((p.2.2.length:Int)==0) = !decide ((p.2.2.length:Int)>0):=by
  generalize p.2.2.length=n
  cases n with
  | zero=>rfl
  | succ k=>
   have a1:(((k+1:Nat):Int)==0)=false:=by rw[beq_eq_false_iff_ne]; omega
   have a2:decide (((k+1:Nat):Int)>0)=true:=decide_eq_true (by omega)
   rw[a1,a2]; rfl
 rw[e]
 cases confOk c<;>cases (decide (p.1≥1) && decide (p.1≤60))<;>cases setOk c.1 p.2.2<;>cases decide ((p.2.2.length:Int)>0)<;>cases (p.2.1==[])<;>cases nameOk p.2.1<;>rfl
theorem impl_PartOk_eq (c:TConf) (p:TPart) (hw:wPart p≤1073741824):impl_PartOk (c,p,())=some (partOk c p,()):=by
 have h1:p.2.1.length≤1073741824:=by simp only[wPart] at hw; omega
 have h2:p.2.2.length≤137438953472:=by simp only[wPart,wIntS] at hw; omega
 unfold impl_PartOk partOk
 simp only[impl_ConfOk_eq,impl_in_eq,impl_SetOk_eq _ _ h2,impl_NameOk_eq _ h1,impl_ViewOf_eq _ h1,Option.bind_some]
 cases confOk c<;>cases (decide (p.1≥1) && decide (p.1≤60))<;>cases setOk c.1 p.2.2<;>cases (p.2.1==[])<;>cases nameOk p.2.1<;>cases (viewOf p.2.1==p.1)<;>cases decide ((p.2.2.length:Int)>0)<;>rfl
end G448
namespace G448
open Ev Go
theorem qcSame_iff (a b:TQc):qcSame a b=decide (a=b):=by
 obtain⟨a1,a2,a3⟩:=a
 obtain⟨b1,b2,b3⟩:=b
 unfold qcSame
 rw[Bool.eq_iff_iff]
 simp[Prod.ext_iff]
theorem blockSame_iff (a b:TBlock):blockSame a b=decide (a=b):=by
 obtain⟨a1,a2⟩:=a
 obtain⟨b1,b2⟩:=b
 unfold blockSame
 simp only[qcSame_iff]
 rw[Bool.eq_iff_iff]
 simp[Prod.ext_iff]
theorem txSame_iff (a b:TTx):txSame a b=decide (a=b):=by
 obtain⟨a1,a2,a3,a4⟩:=a
 obtain⟨b1,b2,b3,b4⟩:=b
 unfold txSame
 rw[Bool.eq_iff_iff]
 simp[Prod.ext_iff]
theorem msgSame_iff (a b:TMsg):msgSame a b=true↔a=b:=by
 obtain⟨a1,a2,a3,a4,a5,a6,a7⟩:=a
 obtain⟨b1,b2,b3,b4,b5,b6,b7⟩:=b
 unfold msgSame
 simp only[qcSame_iff,blockSame_iff,txSame_iff]
 simp only[Bool.and_eq_true,beq_iff_eq,decide_eq_true_eq,Prod.mk.injEq]
theorem msgSame_comm (a b:TMsg):msgSame a b=msgSame b a:=by
 rw[Bool.eq_iff_iff,msgSame_iff,msgSame_iff]
 exact⟨fun h=>h.symm,fun h=>h.symm⟩
def canon (m:TMsg):TMsg:=
 bif (m.1==1) then (m.1,0,m.2.2.1,(0,[],[]),(0,[],[]),0,(0,0,0,0)) else
 bif (m.1==2) then (m.1,0,([],0,[],[]),m.2.2.2.1,(0,[],[]),0,(0,0,0,0)) else
 bif (m.1==3) then (m.1,m.2.1,([],0,[],[]),(0,[],[]),m.2.2.2.2.1,m.2.2.2.2.2.1,(0,0,0,0)) else
 bif (m.1==4) then (m.1,0,([],0,[],[]),(0,[],[]),(0,[],[]),0,m.2.2.2.2.2.2) else
 (m.1,0,([],0,[],[]),(0,[],[]),(0,[],[]),0,(0,0,0,0))
theorem spec_l14Zero_eq (m:TMsg) (h:MsgW m):spec_l14Zero (m,())=some (msgSame (canon m) m,()):=by
 obtain⟨h1,h2,h3⟩:=h
 have hz:([]:List Int).length≤8796093022208:=by simp
 unfold spec_l14Zero canon
 dsimp only
 rw[spec_MsgSame_eq (m.1,0,m.2.2.1,(0,[],[]),(0,[],[]),0,(0,0,0,0)) m ⟨h1,hz,hz⟩,spec_MsgSame_eq (m.1,0,([],0,[],[]),m.2.2.2.1,(0,[],[]),0,(0,0,0,0)) m ⟨hz,h2,hz⟩,
  spec_MsgSame_eq (m.1,m.2.1,([],0,[],[]),(0,[],[]),m.2.2.2.2.1,m.2.2.2.2.2.1,(0,0,0,0)) m ⟨hz,hz,h3⟩,spec_MsgSame_eq (m.1,0,([],0,[],[]),(0,[],[]),(0,[],[]),0,m.2.2.2.2.2.2) m ⟨hz,hz,hz⟩,
  spec_MsgSame_eq (m.1,0,([],0,[],[]),(0,[],[]),(0,[],[]),0,(0,0,0,0)) m ⟨hz,hz,hz⟩]
 simp only[Option.bind_some]
 cases (m.1==1)<;>cases (m.1==2)<;>cases (m.1==3)<;>cases (m.1==4)<;>rfl
theorem impl_named_eq (m:TMsg):impl_named (m,())=some (canon m,()):=by
 unfold impl_named canon
 cases (m.1==1)<;>cases (m.1==2)<;>cases (m.1==3)<;>cases (m.1==4)<;>rfl
noncomputable def msgOk (c:TConf) (m:TMsg):Bool:=
 confOk c && (msgSame (canon m) m && (bif (m.1==1) then blockOk c m.2.2.1 else bif (m.1==2) then (partOk c m.2.2.2.1 && m.2.2.2.1.2.1 != []) else
  bif (m.1==3) then ((decide (m.2.1≥1) && decide (m.2.1≤60)) && (qcOk c m.2.2.2.2.1 && (decide (m.2.2.2.2.2.1≥0) && decide (m.2.2.2.2.2.1≤wr (c.1 - 1))))) else
  bif (m.1==4) then txOk m.2.2.2.2.2.2 else false))
theorem spec_MsgOk_eq (c:TConf) (m:TMsg) (hw:wMsg m≤137438953472):spec_MsgOk (c,m,())=some (msgOk c m,()):=by
 have hW:MsgW m:=MsgW.of (by omega)
 have h1:wBlock m.2.2.1≤137438953472:=by simp only[wMsg] at hw; omega
 have h2:wPart m.2.2.2.1≤137438953472:=by simp only[wMsg] at hw; omega
 have h3:wQc m.2.2.2.2.1≤137438953472:=by simp only[wMsg] at hw; omega
 unfold spec_MsgOk msgOk
 simp only[spec_ConfOk_eq,spec_l14Zero_eq m hW,spec_BlockOk_eq c _ h1,spec_PartOk_eq c _ h2,spec_QcOk_eq c _ h3,spec_in_eq,spec_TxOk_eq,Option.bind_some]
 cases confOk c
 ·rfl
 cases msgSame (canon m) m
 ·rfl
 cases (m.1==1)
 ·cases (m.1==2)
  ·cases (m.1==3)
   ·cases (m.1==4)<;>rfl
   ·cases (decide (m.2.1≥1) && decide (m.2.1≤60))<;>cases qcOk c m.2.2.2.2.1<;>rfl
  ·cases partOk c m.2.2.2.1<;>rfl
 ·rfl
theorem impl_MsgOk_eq (c:TConf) (m:TMsg) (hw:wMsg m≤1073741824):impl_MsgOk (c,m,())=some (msgOk c m,()):=by
 have hW:MsgW m:=MsgW.of (by omega)
 have h1:wBlock m.2.2.1≤1073741824:=by simp only[wMsg] at hw; omega
 have h2:wPart m.2.2.2.1≤1073741824:=by simp only[wMsg] at hw; omega
 have h3:wQc m.2.2.2.2.1≤1073741824:=by simp only[wMsg] at hw; omega
 unfold impl_MsgOk msgOk
 simp only[impl_ConfOk_eq,impl_named_eq,impl_MsgSame_eq m _ hW,msgSame_comm m (canon m),impl_BlockOk_eq c _ h1,impl_PartOk_eq c _ h2,impl_QcOk_eq c _ h3,impl_in_eq,impl_TxOk_eq,Option.bind_some]
 cases confOk c
 ·rfl
 cases msgSame (canon m) m
 ·rfl
 cases (m.1==1)
 ·cases (m.1==2)
  ·cases (m.1==3)
   ·cases (m.1==4)<;>rfl
   ·cases (decide (m.2.1≥1) && decide (m.2.1≤60))<;>cases qcOk c m.2.2.2.2.1<;>rfl
  ·cases partOk c m.2.2.2.1<;>rfl
 ·rfl
end G448
namespace G448
open Ev Go
abbrev ETx:Ty:=.pair .i64 (.pair .i64 (.pair .i64 .i64))
abbrev EPart:Ty:=.pair .i64 (.pair .str (.sl 0 .i64))
abbrev EPost:Ty:=.pair .i64 (.pair .i64 (.pair .i64 (.pair (.pair .str (.pair .i64 (.pair .str (.sl 0 .i64)))) (.pair (.pair .i64 (.pair .str (.sl 0 .i64))) (.pair (.pair .i64 (.pair .str (.sl 0 .i64))) (.pair .i64 (.pair .i64 (.pair .i64 (.pair .i64 .i64)))))))))
theorem all_loop {α:Type} (p:α→Bool) (l:List α) {G:(Int×Unit→Option (Bool×Unit))→Int×Unit→Option (Bool×Unit)} (hl:l.length≤1152921504606846976)
  (hend : ∀ rec s,G rec ((l.length:Int),s)=some (true,()))
  (hstep : ∀ rec (i:Nat) s x,l[i]?=some x→i<l.length→G rec ((i:Int),s)=bif p x then rec ((i:Int)+1,s) else some (false,())) :
  iter G fuel (0,())=some (l.all p,()):=by
 refine (forK l (fun x s rec=>bif p x then rec s else some (false,())) (fun s=>some (true,())) (fun i s=>(i,s)) hl hend hstep ?_ ()).trans (foldK_all _ _)
 intro x s r1 r2 hr; simp[hr]
def chainB {α:Type} (ok:α→Bool) (lt:α→α→Bool):Option α→List α→Bool
 | _,[]=>true
 | p,x::l=>ok x && ((match p with|none=>true|some y=>lt y x) && chainB ok lt (some x) l)
theorem chain_loop {α:Type} (ok:α→Bool) (lt:α→α→Bool) (fin:Bool) (l:List α) (hl:l.length≤1152921504606846976)
  {G:(Int×Unit→Option (Bool×Unit))→Int×Unit→Option (Bool×Unit)}
  (hend : ∀ rec,G rec ((l.length:Int),())=some (fin,()))
  (h0 : ∀ rec x,l[0]?=some x→0<l.length→G rec (0,())=bif ok x then rec (1,()) else some (false,()))
  (hstep : ∀ rec (i:Nat) x y,l[i]?=some x→l[i+1]?=some y→i+1<l.length→G rec (((i+1:Nat):Int),())=bif ok y then (bif lt x y then rec (((i+1:Nat):Int)+1,()) else some (false,())) else some (false,())) :
  iter G fuel (0,())=some (chainB ok lt none l && fin,()):=by
 let pv:Nat→Option α:=fun i=>match i with|0=>none|j+1=>l[j]?
 refine (walk l.length (fun i (_:Unit)=>(i,())) (fun _ _=>True) (fun i _=>some (chainB ok lt (pv i) (l.drop i) && fin,())) hl ?_ ?_ (s0:=()) trivial).trans (by simp only[List.drop_zero,pv])
 ·intro rec s _
  rw[hend,List.drop_length]; simp[chainB]
 ·intro rec i s hi _
  have hx:l[i]?=some l[i]:=List.getElem?_eq_getElem hi
  cases i with
  | zero=>
   rw[show ((0:Nat):Int)=0 from rfl,h0 rec l[0] hx hi,List.drop_eq_getElem_cons hi]
   cases hk:ok l[0] with
   | true=>
    right
    have e2:pv (0+1)=some l[0]:=hx
    exact⟨(),trivial,by simp,by rw[e2]; simp[chainB,show pv 0=none from rfl,hk]⟩
   | false=>left; simp[chainB,hk]
  | succ j=>
   have hj:l[j]?=some l[j]:=List.getElem?_eq_getElem (by omega)
   rw[hstep rec j l[j] l[j+1] hj hx hi,List.drop_eq_getElem_cons hi]
   have e:pv (j+1)=some l[j]:=hj
   have e2:pv (j+1+1)=some l[j+1]:=hx
   rw[e]
   cases hk:ok l[j+1] with
   | true=>
    cases hlt:lt l[j] l[j+1] with
    | true=>right; exact⟨(),trivial,by simp,by rw[e2]; simp[chainB,hk,hlt]⟩
    | false=>left; simp[chainB,hk,hlt]
   | false=>left; simp[chainB,hk]
def safeOk (c:TConf) (s:TSafe):Bool:=(decide (s.1≥0) && decide (s.1≤60)) && ((decide (s.2.1≥0) && decide (s.2.1≤60)) && (qcOk c s.2.2.1 && nameOk s.2.2.2))
theorem spec_SafeOk_eq (c:TConf) (s:TSafe) (hw:wSafe s≤137438953472):spec_SafeOk (c,s,())=some (safeOk c s,()):=by
 simp only[wSafe] at hw
 unfold spec_SafeOk safeOk
 simp only[spec_in_eq,spec_QcOk_eq c s.2.2.1 (by omega),spec_NameOk_eq s.2.2.2 (by omega),Option.bind_some]
 cases (decide (s.1≥0) && decide (s.1≤60))<;>cases (decide (s.2.1≥0) && decide (s.2.1≤60))<;>cases qcOk c s.2.2.1<;>rfl
theorem impl_SafeOk_eq (c:TConf) (s:TSafe) (hw:wSafe s≤1073741824):impl_SafeOk (c,s,())=some (safeOk c s,()):=by
 simp only[wSafe] at hw
 unfold impl_SafeOk safeOk
 simp only[impl_in_eq,impl_QcOk_eq c s.2.2.1 (by omega),impl_NameOk_eq s.2.2.2 (by omega),Option.bind_some]
 cases (decide (s.1≥0) && decide (s.1≤60))<;>cases (decide (s.2.1≥0) && decide (s.2.1≤60))<;>cases qcOk c s.2.2.1<;>rfl
def beforeTx (a b:TTx):Bool:=decide (a.1<b.1) || (a.1==b.1 && decide (a.2.2.2<b.2.2.2))
theorem spec_l4Before_eq (a b:TTx):spec_l4Before (a,b,())=some (beforeTx a b,()):=by
 unfold spec_l4Before beforeTx
 dsimp only
 cases decide (a.1<b.1)<;>cases (a.1==b.1)<;>rfl
theorem impl_beforeTx_eq (a b:TTx):impl_beforeTx (a,b,())=some (beforeTx a b,()):=by
 unfold impl_beforeTx beforeTx
 dsimp only
 cases decide (a.1<b.1)<;>cases (a.1==b.1)<;>rfl
def poolOk (l:TTxS):Bool:=chainB txOk beforeTx none l && decide ((l.length:Int)≤12)
theorem spec_PoolOk_eq (l:TTxS) (hl:l.length≤137438953472):spec_PoolOk (l,())=some (poolOk l,()):=by
 unfold spec_PoolOk poolOk
 refine chain_loop txOk beforeTx _ l (by omega) ?_ ?_ ?_
 ·intro rec; simp
 ·intro rec x hx hi
  have hi0:(0:Int)<(l.length:Int):=by omega
  simp only[hi0,decide_true,cond_true,Int.le_refl,and_self,if_true,Int.toNat_zero,rd_get (e:=ETx) hx,spec_TxOk_eq,Option.bind_some,show wr ((0:Int)+1)=1 from wr_nat (show 0<4611686018427387904 by omega),show ¬ ((0:Int)>0) by omega,decide_false,cond_false]
  cases txOk x<;>rfl
 ·intro rec i x y hx hy hi
  have e:wr (((i+1:Nat):Int) - 1)=(i:Int):=by rw[wr_id' (by omega) (by omega)]; omega
  simp only[ge_ok hi,ge_ok (show i<l.length by omega),e,decide_true,cond_true,and_self,if_true,Int.toNat_natCast,rd_get (e:=ETx) hx,rd_get (e:=ETx) hy,spec_TxOk_eq,spec_l4Before_eq,Option.bind_some,wr_nat (show i+1<4611686018427387904 by omega),show (((i+1:Nat):Int)>0) by omega]
  cases txOk y<;>cases beforeTx x y<;>rfl
theorem impl_PoolOk_eq (l:TTxS) (hl:l.length≤137438953472):impl_PoolOk (l,())=some (poolOk l,()):=by
 unfold impl_PoolOk poolOk
 refine chain_loop txOk beforeTx _ l (by omega) ?_ ?_ ?_
 ·intro rec; simp
 ·intro rec x hx hi
  have hi0:(0:Int)<(l.length:Int):=by omega
  simp only[hi0,decide_true,cond_true,Int.le_refl,and_self,if_true,Int.toNat_zero,rd_get (e:=ETx) hx,impl_TxOk_eq,Option.bind_some,show wr ((0:Int)+1)=1 from wr_nat (show 0<4611686018427387904 by omega),show ¬ ((0:Int)>0) by omega,decide_false,cond_false]
  cases txOk x<;>rfl
 ·intro rec i x y hx hy hi
  have e:wr (((i+1:Nat):Int) - 1)=(i:Int):=by rw[wr_id' (by omega) (by omega)]; omega
  simp only[ge_ok hi,ge_ok (show i<l.length by omega),e,decide_true,cond_true,and_self,if_true,Int.toNat_natCast,rd_get (e:=ETx) hx,rd_get (e:=ETx) hy,impl_TxOk_eq,impl_beforeTx_eq,Option.bind_some,wr_nat (show i+1<4611686018427387904 by omega),show (((i+1:Nat):Int)>0) by omega]
  cases txOk y<;>cases beforeTx x y<;>rfl
def beforePart (a b:TPart):Bool:=decide (a.1<b.1) || (a.1==b.1 && Go.Op.bytesLess a.2.1 b.2.1)
theorem spec_l10Before_eq (a b:TPart):spec_l10Before (a,b,())=some (beforePart a b,()):=by
 unfold spec_l10Before beforePart
 dsimp only
 cases decide (a.1<b.1)<;>cases (a.1==b.1)<;>rfl
def placePart (a b:TPart):Int:=if a.1<b.1 then -1 else if a.1>b.1 then 1 else if Go.Op.bytesLess a.2.1 b.2.1=true then -1 else if a.2.1=b.2.1 then 0 else 1
theorem impl_comparePlace_eq (a b:TPart):impl_comparePlace (a,b,())=some (placePart a b,()):=by
 unfold impl_comparePlace cmp_Compare_int cmp_Compare_string cmp_isNaN_int cmp_isNaN_string placePart
 simp only[bne_self_eq_false,Option.bind_some,cond_false]
 by_cases h1:a.1<b.1
 ·simp[h1]
 ·by_cases h2:a.1>b.1
  ·simp[h1,h2]
  ·cases h3:Go.Op.bytesLess a.2.1 b.2.1
   ·by_cases h4:a.2.1=b.2.1
    ·simp[h1,h2,h4,h3]
    ·have h5:(a.2.1==b.2.1)=false:=by simp[h4]
     simp[h1,h2,h4,h5]
   ·simp[h1,h2,h3]
theorem placePart_neg (a b:TPart):decide (placePart a b≥0) = !beforePart a b:=by
 unfold placePart beforePart
 by_cases h1:a.1<b.1
 ·simp[h1]
 ·by_cases h2:a.1>b.1
  ·have : ¬ a.1=b.1:=by omega
   simp[h1,h2,this]
  ·have:a.1=b.1:=by omega
   simp only[h1,h2,this,if_false]
   cases h3:Go.Op.bytesLess a.2.1 b.2.1
   ·by_cases h4:a.2.1=b.2.1<;>simp[h4]
   ·simp
def tableOk (c:TConf) (l:TPartS):Bool:=chainB (partOk c) beforePart none l && decide ((l.length:Int)≤20)
theorem wPart_mem {l:TPartS} {x:TPart} {N:Nat} (hw:wPartS l≤N) {i:Nat} (hx:l[i]?=some x):wPart x≤N:=by
 have:=sum_mem wPart (List.mem_of_getElem? hx); unfold wPartS at hw; omega
theorem spec_TableOk_eq (c:TConf) (l:TPartS) (hw:wPartS l≤137438953472):spec_TableOk (c,l,())=some (tableOk c l,()):=by
 have hl:l.length≤137438953472:=by unfold wPartS at hw; omega
 unfold spec_TableOk tableOk
 refine chain_loop (partOk c) beforePart _ l (by omega) ?_ ?_ ?_
 ·intro rec; simp
 ·intro rec x hx hi
  have hi0:(0:Int)<(l.length:Int):=by omega
  simp only[hi0,decide_true,cond_true,Int.le_refl,and_self,if_true,Int.toNat_zero,rd_get (e:=EPart) hx,spec_PartOk_eq c x (wPart_mem hw hx),Option.bind_some,show wr ((0:Int)+1)=1 from wr_nat (show 0<4611686018427387904 by omega),show ¬ ((0:Int)>0) by omega,decide_false,cond_false]
  cases partOk c x<;>rfl
 ·intro rec i x y hx hy hi
  have e:wr (((i+1:Nat):Int) - 1)=(i:Int):=by rw[wr_id' (by omega) (by omega)]; omega
  simp only[ge_ok hi,ge_ok (show i<l.length by omega),e,decide_true,cond_true,and_self,if_true,Int.toNat_natCast,rd_get (e:=EPart) hx,rd_get (e:=EPart) hy,spec_PartOk_eq c y (wPart_mem hw hy),spec_l10Before_eq,Option.bind_some,wr_nat (show i+1<4611686018427387904 by omega),show (((i+1:Nat):Int)>0) by omega]
  cases partOk c y<;>cases beforePart x y<;>rfl
theorem impl_TableOk_eq (c:TConf) (l:TPartS) (hw:wPartS l≤1073741824):impl_TableOk (c,l,())=some (tableOk c l,()):=by
 have hl:l.length≤137438953472:=by unfold wPartS at hw; omega
 unfold impl_TableOk tableOk
 refine chain_loop (partOk c) beforePart _ l (by omega) ?_ ?_ ?_
 ·intro rec; simp
 ·intro rec x hx hi
  have hi0:(0:Int)<(l.length:Int):=by omega
  simp only[hi0,decide_true,cond_true,Int.le_refl,and_self,if_true,Int.toNat_zero,rd_get (e:=EPart) hx,impl_PartOk_eq c x (wPart_mem hw hx),Option.bind_some,show wr ((0:Int)+1)=1 from wr_nat (show 0<4611686018427387904 by omega),show ¬ ((0:Int)>0) by omega,decide_false,cond_false]
  cases partOk c x<;>rfl
 ·intro rec i x y hx hy hi
  have e:wr (((i+1:Nat):Int) - 1)=(i:Int):=by rw[wr_id' (by omega) (by omega)]; omega
  simp only[ge_ok hi,ge_ok (show i<l.length by omega),e,decide_true,cond_true,and_self,if_true,Int.toNat_natCast,rd_get (e:=EPart) hx,rd_get (e:=EPart) hy,impl_PartOk_eq c y (wPart_mem hw hy),impl_comparePlace_eq,placePart_neg,Option.bind_some,wr_nat (show i+1<4611686018427387904 by omega),show (((i+1:Nat):Int)>0) by omega]
  cases partOk c y<;>cases beforePart x y<;>rfl
noncomputable def heldOk (c:TConf) (id:Int) (p:TPost):Bool:=msgOk c p.2 && ((decide (p.1≥0) && decide (p.1≤c.1 - 1)) && !(p.1==id))
noncomputable def repOk (c:TConf) (r:TRep):Bool:=
 confOk c && ((decide (r.1≥0) && decide (r.1≤c.1 - 1)) && ((decide (r.2.1≥1) && decide (r.2.1≤60)) && ((decide (r.2.2.1≥0) && decide (r.2.2.1≤60)) &&
  (safeOk c r.2.2.2.1 && (poolOk r.2.2.2.2.1 && (tableOk c r.2.2.2.2.2.1 && (diskOk r.2.2.2.2.2.2.1 && (decide ((r.2.2.2.2.2.2.2.length:Int)≤30) && r.2.2.2.2.2.2.2.all (heldOk c r.1)))))))))
theorem wPost_mem {l:TPostS} {x:TPost} {N:Nat} (hw:wPostS l≤N) {i:Nat} (hx:l[i]?=some x):wMsg x.2≤N:=by
 have:=sum_mem wPost (List.mem_of_getElem? hx); simp only[wPost] at this; unfold wPostS at hw; omega
theorem gt_le (n m:Int):decide (n>m) = !decide (n≤m):=by
 by_cases h:n≤m
 ·have : ¬ n>m:=by omega
  simp[h,this]
 ·have:n>m:=by omega
  simp[h,this]
theorem spec_RepOk_eq (c:TConf) (r:TRep) (hw:wRep r≤137438953472):spec_RepOk (c,r,())=some (repOk c r,()):=by
 simp only[wRep,wTxS] at hw
 have hh:wPostS r.2.2.2.2.2.2.2≤137438953472:=by omega
 have hl:r.2.2.2.2.2.2.2.length≤137438953472:=by unfold wPostS at hh; omega
 unfold spec_RepOk repOk
 simp only[spec_ConfOk_eq,Option.bind_some]
 cases hc:confOk c
 ·rfl
 obtain⟨hc1,hc2⟩:=confOk_b hc
 have e1:wr (c.1 - 1)=c.1 - 1:=wr_id' (by omega) (by omega)
 simp only[Bool.not_true,cond_false,Bool.true_and,e1,spec_in_eq,spec_SafeOk_eq c r.2.2.2.1 (by omega),spec_PoolOk_eq r.2.2.2.2.1 (by omega),spec_TableOk_eq c r.2.2.2.2.2.1 (by omega),spec_DiskOk_eq,Option.bind_some,gt_le ((r.2.2.2.2.2.2.2.length:Nat):Int) 30]
 cases (decide (r.1≥0) && decide (r.1≤c.1 - 1))
 ·rfl
 cases (decide (r.2.1≥1) && decide (r.2.1≤60))
 ·rfl
 cases (decide (r.2.2.1≥0) && decide (r.2.2.1≤60))
 ·rfl
 cases safeOk c r.2.2.2.1
 ·rfl
 cases poolOk r.2.2.2.2.1
 ·rfl
 cases tableOk c r.2.2.2.2.2.1
 ·rfl
 cases diskOk r.2.2.2.2.2.2.1
 ·rfl
 cases decide ((r.2.2.2.2.2.2.2.length:Int)≤30)
 ·rfl
 simp only[Bool.not_true,cond_false,Bool.true_and]
 refine all_loop (heldOk c r.1) r.2.2.2.2.2.2.2 (by omega) ?_ ?_
 ·intro rec s; simp
 ·intro rec i s x hx hi
  simp only[ge_ok hi,decide_true,cond_true,and_self,if_true,Int.toNat_natCast,rd_get (e:=EPost) hx,spec_MsgOk_eq c x.2 (wPost_mem hh hx),Option.bind_some,wr_nat (show i<4611686018427387904 by omega),heldOk]
  cases msgOk c x.2<;>cases (decide (x.1≥0) && decide (x.1≤c.1 - 1))<;>cases (x.1==r.1)<;>rfl
theorem impl_RepOk_eq (c:TConf) (r:TRep) (hw:wRep r≤1073741824):impl_RepOk (c,r,())=some (repOk c r,()):=by
 simp only[wRep,wTxS] at hw
 have hh:wPostS r.2.2.2.2.2.2.2≤1073741824:=by omega
 have hl:r.2.2.2.2.2.2.2.length≤1073741824:=by unfold wPostS at hh; omega
 unfold impl_RepOk repOk
 simp only[impl_ConfOk_eq,Option.bind_some]
 cases hc:confOk c
 ·rfl
 obtain⟨hc1,hc2⟩:=confOk_b hc
 have e1:wr (c.1 - 1)=c.1 - 1:=wr_id' (by omega) (by omega)
 simp only[Bool.not_true,cond_false,Bool.true_and,e1,impl_in_eq,impl_SafeOk_eq c r.2.2.2.1 (by omega),impl_PoolOk_eq r.2.2.2.2.1 (by omega),impl_TableOk_eq c r.2.2.2.2.2.1 (by omega),impl_DiskOk_eq,Option.bind_some,gt_le ((r.2.2.2.2.2.2.2.length:Nat):Int) 30]
 cases (decide (r.1≥0) && decide (r.1≤c.1 - 1))
 ·rfl
 cases (decide (r.2.1≥1) && decide (r.2.1≤60))
 ·rfl
 cases (decide (r.2.2.1≥0) && decide (r.2.2.1≤60))
 ·rfl
 cases safeOk c r.2.2.2.1
 ·rfl
 cases poolOk r.2.2.2.2.1
 ·rfl
 cases tableOk c r.2.2.2.2.2.1
 ·rfl
 cases diskOk r.2.2.2.2.2.2.1
 ·rfl
 cases decide ((r.2.2.2.2.2.2.2.length:Int)≤30)
 ·rfl
 simp only[Bool.not_true,cond_false,Bool.true_and]
 refine all_loop (heldOk c r.1) r.2.2.2.2.2.2.2 (by omega) ?_ ?_
 ·intro rec s; simp
 ·intro rec i s x hx hi
  simp only[ge_ok hi,decide_true,cond_true,and_self,if_true,Int.toNat_natCast,rd_get (e:=EPost) hx,impl_MsgOk_eq c x.2 (wPost_mem hh hx),Option.bind_some,wr_nat (show i<4611686018427387904 by omega),heldOk]
  cases msgOk c x.2<;>cases (decide (x.1≥0) && decide (x.1≤c.1 - 1))<;>cases (x.1==r.1)<;>rfl
end G448
namespace G448
open Ev Go
def rootOf (c:TConf) (v:Int):Int:=if confOk c=true∧0≤v then Int.tmod v c.1 else -1
theorem spec_Root_eq (c:TConf) (v:Int):spec_Root (c,v,())=some (rootOf c v,()):=by
 unfold spec_Root rootOf
 simp only[spec_ConfOk_eq,Option.bind_some]
 by_cases h:confOk c=true
 ·obtain⟨h1,h2⟩:=confOk_b h
  simp only[h,Bool.not_true,cond_false]
  by_cases hv:v<0
  ·rw[if_neg (show ¬ (True∧0≤v) by omega)]
   simp[hv]
  ·rw[if_pos (show True∧0≤v from⟨trivial,by omega⟩)]
   simp only[hv,decide_false,cond_false]
   rw[if_neg (by omega)]
 ·have h':confOk c=false:=by simpa using h
  simp[h']
theorem impl_Root_eq (c:TConf) (v:Int):impl_Root (c,v,())=some (rootOf c v,()):=by
 unfold impl_Root rootOf
 simp only[impl_ConfOk_eq,Option.bind_some]
 by_cases h:confOk c=true
 ·obtain⟨h1,h2⟩:=confOk_b h
  simp only[h,Bool.not_true,cond_false]
  by_cases hv:v<0
  ·rw[if_neg (show ¬ (True∧0≤v) by omega)]
   simp[hv]
  ·rw[if_pos (show True∧0≤v from⟨trivial,by omega⟩)]
   simp only[hv,decide_false,cond_false]
   rw[if_neg (by omega)]
 ·have h':confOk c=false:=by simpa using h
  simp[h']
end G448
namespace G448
open Ev
end G448
namespace G448
open Ev
end G448
namespace G448
open Ev Go
end G448
namespace G448
open Ev Go
def getGo:List UInt8→Nat→Nat→Nat→Option (Nat×Nat)
 | [],_,_,_=>none
 | b::l,v,k,0=>none
 | b::l,v,k,n+1=>if b.toNat<128 then (if (k>0∧b.toNat=0)∨v+b.toNat*128 ^ k>2147483647 then none else some (v+b.toNat*128 ^ k,k+1)) else getGo l (v+(b.toNat % 128)*128 ^ k) (k+1) n
def getNum (s:List UInt8) (at_:Int):Int×Int×Bool:=
 if at_<0 then (0,0,false) else match getGo (s.drop at_.toNat) 0 0 5 with
  | some p=>((p.1:Int),at_+(p.2:Int),true)
  | none=>(0,0,false)
theorem getGo_nil (v k n:Nat):getGo [] v k n=none:=by cases n<;>rfl
end G448
namespace G448
open Ev Go
abbrev RSt:=Int×Bool
def rdNum (s:List UInt8) (r:RSt):RSt×Int:=
 if (getNum s r.1).2.2=true∧r.2=true then (((getNum s r.1).2.1,true),(getNum s r.1).1) else ((r.1,false),0)
def getText (s:List UInt8) (at_:Int):List UInt8×Int×Bool:=
 if (getNum s at_).2.2=true∧(getNum s at_).1≤(s.length:Int) - (getNum s at_).2.1 then
  ((s.drop (getNum s at_).2.1.toNat).take (getNum s at_).1.toNat,(getNum s at_).2.1+(getNum s at_).1,true) else ([],0,false)
def rdText (s:List UInt8) (r:RSt):RSt×List UInt8:=
 if (getText s r.1).2.2=true∧r.2=true then (((getText s r.1).2.1,true),(getText s r.1).1) else ((r.1,false),[])
theorem getGo_some : ∀ (l:List UInt8) (v k n:Nat) {p:Nat×Nat},getGo l v k n=some p→p.1≤2147483647∧k+1≤p.2∧p.2≤k+l.length
 | [],v,k,n,p,h=>by rw[getGo_nil] at h; cases h
 | b::l,v,k,0,p,h=>by cases h
 | b::l,v,k,n+1,p,h=>by
  simp only[getGo] at h
  split at h
  ·split at h
   ·cases h
   ·next hc=>
    cases h
    simp only[List.length_cons]
    have : ¬ v+b.toNat*128 ^ k>2147483647:=fun hh=>hc (.inr hh)
    omega
  ·have:=getGo_some l _ _ n h
   simp only[List.length_cons]
   omega
theorem getNum_ok (s:List UInt8) (at_:Int) (h:(getNum s at_).2.2=true):0≤at_∧0≤(getNum s at_).1∧(getNum s at_).1≤2147483647∧at_+1≤(getNum s at_).2.1∧(getNum s at_).2.1≤(s.length:Int):=by
 unfold getNum at h ⊢
 split at h
 ·simp at h
 ·next ha=>
  rw[if_neg ha]
  cases hg:getGo (s.drop at_.toNat) 0 0 5 with
  | none=>rw[hg] at h; simp at h
  | some p=>
   have:=getGo_some _ _ _ _ hg
   simp only[List.length_drop] at this ⊢
   omega
def whoGo (s:List UInt8):Nat→RSt→List Int→RSt×List Int
 | 0,r,out=>(r,out)
 | n+1,r,out=>if r.2=true then whoGo s n (rdNum s r).1 (out++[(rdNum s r).2]) else (r,out)
def rdWho (s:List UInt8) (r:RSt):RSt×List Int:=whoGo s (rdNum s r).2.toNat (rdNum s r).1 []
end G448
namespace G448
open Ev Go
def rdQc (s:List UInt8) (r:RSt):RSt×TQc:=
 ((rdWho s (rdText s (rdNum s r).1).1).1,((rdNum s r).2,(rdText s (rdNum s r).1).2,(rdWho s (rdText s (rdNum s r).1).1).2))
theorem rdNum_ok {s:List UInt8} {r:RSt} (h:(rdNum s r).1.2=true):r.2=true∧0≤r.1∧r.1+1≤(rdNum s r).1.1∧(rdNum s r).1.1≤(s.length:Int):=by
 unfold rdNum at h ⊢
 split at h
 ·next hc=>
  rw[if_pos hc]
  have:=getNum_ok s r.1 hc.1
  exact⟨hc.2,this.1,this.2.2.2.1,this.2.2.2.2⟩
 ·simp at h
theorem rdText_ok {s:List UInt8} {r:RSt} (h:(rdText s r).1.2=true):r.2=true∧0≤r.1∧r.1+1+((rdText s r).2.length:Int)≤(rdText s r).1.1∧(rdText s r).1.1≤(s.length:Int):=by
 unfold rdText at h ⊢
 split at h
 ·next hc=>
  rw[if_pos hc]
  obtain⟨h1,h2⟩:=hc
  refine⟨h2,?_⟩
  unfold getText at h1 ⊢
  split at h1
  ·next hg=>
   rw[if_pos hg]
   have:=getNum_ok s r.1 hg.1
   simp only[List.length_take,List.length_drop]
   omega
  ·simp at h1
 ·simp at h
theorem whoGo_ok (s:List UInt8) : ∀ (n:Nat) (r:RSt) (out:List Int),(whoGo s n r out).1.2=true→r.2=true∧r.1+((whoGo s n r out).2.length:Int)≤(whoGo s n r out).1.1+(out.length:Int)∧out.length≤(whoGo s n r out).2.length ∧
  ((whoGo s n r out).1.1≤(s.length:Int)∨whoGo s n r out=(r,out))
 | 0,r,out,h=>⟨h,by simp[whoGo],by simp[whoGo],.inr rfl⟩
 | n+1,r,out,h=>by
  simp only[whoGo] at h ⊢
  split at h
  ·next hr=>
   rw[if_pos hr]
   obtain⟨h1,h2,h3,h4⟩:=whoGo_ok s n _ _ h
   obtain⟨g1,g2,g3,g4⟩:=rdNum_ok h1
   simp only[List.length_append,List.length_cons,List.length_nil] at h2 h3
   refine⟨hr,by omega,by omega,.inl ?_⟩
   rcases h4 with h4|h4
   ·exact h4
   ·rw[h4]; exact g4
  ·next hr=>exact absurd h hr
theorem rdWho_ok {s:List UInt8} {r:RSt} (h:(rdWho s r).1.2=true):r.2=true∧0≤r.1∧r.1+1+((rdWho s r).2.length:Int)≤(rdWho s r).1.1∧(rdWho s r).1.1≤(s.length:Int):=by
 unfold rdWho at h ⊢
 obtain⟨h1,h2,h3,h4⟩:=whoGo_ok s _ _ _ h
 obtain⟨g1,g2,g3,g4⟩:=rdNum_ok h1
 simp only[List.length_nil] at h2
 refine⟨g1,g2,by omega,?_⟩
 rcases h4 with h4|h4
 ·exact h4
 ·rw[h4]; exact g4
theorem rdQc_ok {s:List UInt8} {r:RSt} (h:(rdQc s r).1.2=true):r.2=true∧0≤r.1∧r.1+(wQc (rdQc s r).2:Int)≤(rdQc s r).1.1∧(rdQc s r).1.1≤(s.length:Int):=by
 unfold rdQc at h ⊢
 obtain⟨a1,a2,a3,a4⟩:=rdWho_ok h
 obtain⟨b1,b2,b3,b4⟩:=rdText_ok a1
 obtain⟨c1,c2,c3,c4⟩:=rdNum_ok b1
 simp only[wQc,wIntS]
 exact⟨c1,c2,by omega,a4⟩
theorem w1 (s:List UInt8) (a:RSt) (k:Int) (hs:s.length≤1073741824) (h:(rdQc s (rdText s a).1).1.2=true):wMsg (k,0,((rdText s a).2,(rdQc s (rdText s a).1).2),(0,[],[]),(0,[],[]),0,(0,0,0,0))≤1073741824:=by
 obtain⟨h1,h2,h3,h4⟩:=rdQc_ok h
 obtain⟨g1,g2,g3,g4⟩:=rdText_ok h1
 simp only[wMsg,wBlock,wPart,wQc,wIntS,List.length_nil] at h3 ⊢
 omega
theorem w2 (s:List UInt8) (a:RSt) (k x:Int) (hs:s.length≤1073741824) (h:(rdWho s (rdText s a).1).1.2=true):wMsg (k,0,([],0,[],[]),(x,(rdText s a).2,(rdWho s (rdText s a).1).2),(0,[],[]),0,(0,0,0,0))≤1073741824:=by
 obtain⟨h1,h2,h3,h4⟩:=rdWho_ok h
 obtain⟨g1,g2,g3,g4⟩:=rdText_ok h1
 simp only[wMsg,wBlock,wPart,wQc,wIntS,List.length_nil]
 omega
end G448
namespace G448
open Ev Go
end G448
namespace G448
open Ev Go
end G448
namespace G448
open Ev Go
def WB (N:Nat) (w:TWorld):Prop:=
 (w.2.1.length≤137438953472∧w.2.2.1.length≤137438953472∧w.2.2.2.1.length≤137438953472∧w.2.2.2.2.length≤137438953472)∧(∀ r∈w.2.2.1,wRep r≤N)∧(∀ x∈w.2.2.2.1,x.2.length≤1073741824)∧(∀ s∈w.2.2.2.2,s.2.1.length≤N)
theorem WB.of {w:TWorld} {N:Nat} (h:wWorld w≤N) (hN:N≤1073741824):WB N w:=by
 simp only[wWorld,wIntS,wRepS,wWireS,wSaidS] at h
 refine⟨⟨by omega,by omega,by omega,by omega⟩,fun r hr => ?_,fun x hx => ?_,fun s hs => ?_⟩
 ·have:=sum_mem wRep hr; omega
 ·have:=sum_mem wWire hx; simp only[wWire,wByteS] at this; omega
 ·have:=sum_mem wSaid hs; simp only[wSaid] at this; omega
end G448
namespace G448
open Ev Go
def firstAt {α:Type} (q:α→Bool):Nat→List α→Nat
 | i,[]=>i
 | i,x::l=>bif q x then i else firstAt q (i+1) l
theorem firstAt_le {α:Type} (q:α→Bool) : ∀ (l:List α) (i:Nat),i≤firstAt q i l∧firstAt q i l≤i+l.length
 | [],i=>by simp[firstAt]
 | x::l,i=>by
  have:=firstAt_le q l (i+1)
  simp only[firstAt,List.length_cons]
  cases q x<;>simp only[cond_true,cond_false]<;>omega
end G448
namespace G448
open Ev Go
theorem repOk_view {c:TConf} {r:TRep} (h:repOk c r=true):1≤r.2.1∧r.2.1≤60:=by
 unfold repOk at h
 simp only[Bool.and_eq_true,decide_eq_true_eq] at h
 exact h.2.2.1
end G448
namespace G448
open Ev Go
def holdOne (r:TRep) (to:Int) (m:TMsg):TRep:=(r.1,r.2.1,r.2.2.1,r.2.2.2.1,r.2.2.2.2.1,r.2.2.2.2.2.1,r.2.2.2.2.2.2.1,r.2.2.2.2.2.2.2++[(to,m)])
noncomputable def tellOwn (c:TConf) (r:TRep) (to:Int) (m:TMsg):TRep×Bool:=
 bif !decide ((r.2.2.2.2.2.2.2.length:Int)≥30) && heldOk c r.1 (to,m) then (holdOne r to m,true) else (r,false)
noncomputable def tell (c:TConf) (r:TRep) (to:Int) (m:TMsg):TRep×Bool:=bif repOk c r then tellOwn c r to m else (r,false)
theorem spec_l16Tell_eq (c:TConf) (r:TRep) (to:Int) (m:TMsg) (hc:confOk c=true) (hr:wRep r≤137438953471) (hm:wMsg m≤137438953471):spec_l16Tell (c,r,to,m,())=some ((tellOwn c r to m).1,(tellOwn c r to m).2,()):=by
 obtain⟨hc1,hc2⟩:=confOk_b hc
 have hl:r.2.2.2.2.2.2.2.length≤137438953471:=by simp only[wRep,wPostS] at hr; omega
 have e1:wr (c.1 - 1)=c.1 - 1:=wr_id' (by omega) (by omega)
 unfold spec_l16Tell tellOwn heldOk
 simp only[spec_MsgOk_eq c m (by omega),spec_in_eq,spec_l14Copy_eq m (by omega),e1,Option.bind_some,List.length_cons,List.length_nil]
 rw[if_pos (by omega)]
 cases decide ((r.2.2.2.2.2.2.2.length:Int)≥30)<;>cases msgOk c m<;>cases (decide (to≥0) && decide (to≤c.1 - 1))<;>cases (to==r.1)<;>rfl
theorem repOk_conf {c:TConf} {r:TRep} (h:repOk c r=true):confOk c=true:=by
 unfold repOk at h
 rw[Bool.and_eq_true] at h
 exact h.1
theorem holdOne_ok (c:TConf) (r:TRep) (to:Int) (m:TMsg):repOk c (holdOne r to m)=(repOk c r && (!decide ((r.2.2.2.2.2.2.2.length:Int)≥30) && heldOk c r.1 (to,m))):=by
 unfold repOk holdOne
 simp only[List.all_append,List.all_cons,List.all_nil,Bool.and_true,List.length_append,List.length_cons,List.length_nil]
 by_cases h:(r.2.2.2.2.2.2.2.length:Int)≥30
 ·have e1:decide (((r.2.2.2.2.2.2.2.length+(0+1):Nat):Int)≤30)=false:=by simp; omega
  rw[e1]
  simp[h]
 ·have e1:decide (((r.2.2.2.2.2.2.2.length+(0+1):Nat):Int)≤30)=true:=by simp; omega
  have e2:decide ((r.2.2.2.2.2.2.2.length:Int)≤30)=true:=by simp; omega
  have e3:decide ((r.2.2.2.2.2.2.2.length:Int)≥30)=false:=by simp; omega
  rw[e1,e2,e3]
  simp only[Bool.true_and,Bool.not_false,Bool.and_assoc]
theorem holdOne_w (r:TRep) (to:Int) (m:TMsg):wRep (holdOne r to m)=wRep r+(1+wMsg m):=by
 simp only[holdOne,wRep,wPostS,wPost,List.length_append,List.map_append,List.sum_append,List.length_cons,List.length_nil,List.map_cons,List.map_nil,List.sum_cons,List.sum_nil]
 omega
theorem impl_Tell_eq (c:TConf) (r:TRep) (to:Int) (m:TMsg) (hr:wRep r≤500000000) (hm:wMsg m≤500000000):impl_Tell (c,r,to,m,())=some ((tell c r to m).1,(tell c r to m).2,()):=by
 have hl:r.2.2.2.2.2.2.2.length≤500000000:=by simp only[wRep,wPostS] at hr; omega
 have hw:=holdOne_w r to m
 have hk:=impl_RepOk_eq c (holdOne r to m) (by omega)
 unfold impl_Tell tell tellOwn
 simp only[impl_copyRep_eq r (by omega),impl_copyMsg_eq m (by omega),Option.bind_some,List.length_cons,List.length_nil]
 rw[if_pos (by omega)]
 have e:(r.1,r.2.1,r.2.2.1,r.2.2.2.1,r.2.2.2.2.1,r.2.2.2.2.2.1,r.2.2.2.2.2.2.1,r.2.2.2.2.2.2.2++[(to,m)])=holdOne r to m:=rfl
 rw[e,hk,holdOne_ok,Option.bind_some]
 cases repOk c r<;>cases (!decide ((r.2.2.2.2.2.2.2.length:Int)≥30) && heldOk c r.1 (to,m))<;>rfl
theorem tell_own {c:TConf} {r:TRep} (to:Int) (m:TMsg) (h:repOk c r=true):tellOwn c r to m=tell c r to m:=by
 unfold tell; rw[h]; rfl
end G448
namespace G448
open Ev
set_option maxRecDepth 100000
end G448
namespace G448
open Ev Go
set_option maxRecDepth 100000
end G448
namespace G448
open Ev Go
set_option maxRecDepth 100000
end G448
namespace G448
open Ev Go
set_option maxRecDepth 100000
def inView (r:TRep) (v:Int):TRep:=(r.1,v,r.2.2)
theorem inView_ok {c:TConf} {r:TRep} {v:Int} (h:repOk c r=true) (hv:1≤v∧v≤60):repOk c (inView r v)=true:=by
 obtain⟨a,v0,k,sf,pool,tab,dk,held⟩:=r
 show repOk c (a,v,k,sf,pool,tab,dk,held)=true
 unfold repOk at h ⊢
 simp only[Bool.and_eq_true,decide_eq_true_eq] at h ⊢
 exact⟨h.1,h.2.1,hv,h.2.2.2⟩
theorem msg3_w (q:TQc) (v me:Int):wMsg (3,v,([],0,[],[]),(0,[],[]),q,me,0,0,0,0)=wQc q:=by
 simp[wMsg,wBlock,wPart,wQc,wIntS]
end G448
namespace G448
open Ev Go
set_option maxRecDepth 100000
theorem setIns (l:List Int) (x:Int) (i:Nat) (hi:i≤l.length) (hl:l.length≤137438953472) :
  ((if (((0:Int)≤0)∧((0≤(i:Int))∧((i:Int)≤(((List.length l):Nat):Int)))) then (if (((0+(List.length (List.take ((Int.toNat (i:Int)) - (Int.toNat 0)) (List.drop (Int.toNat 0) l))))*8)≤70368744177664) then (if ((((List.length ([]++(List.take ((Int.toNat (i:Int)) - (Int.toNat 0)) (List.drop (Int.toNat 0) l))))+(List.length (x::[])))*8)≤70368744177664) then (if ((0≤(i:Int))∧(((i:Int)≤(((List.length l):Nat):Int))∧((((List.length l):Nat):Int)≤(((List.length l):Nat):Int)))) then (if ((((List.length (([]++(List.take ((Int.toNat (i:Int)) - (Int.toNat 0)) (List.drop (Int.toNat 0) l)))++(x::[])))+(List.length (List.take ((Int.toNat (((List.length l):Nat):Int)) - (Int.toNat (i:Int))) (List.drop (Int.toNat (i:Int)) l))))*8)≤70368744177664) then some (((([]++(List.take ((Int.toNat (i:Int)) - (Int.toNat 0)) (List.drop (Int.toNat 0) l)))++(x::[]))++(List.take ((Int.toNat (((List.length l):Nat):Int)) - (Int.toNat (i:Int))) (List.drop (Int.toNat (i:Int)) l))),()) else none) else none) else none) else none) else none):Option (List Int×Unit))=some (l.take i++x::l.drop i,()):=by
 have h1:(l.take i).length=i:=by rw[List.length_take]; omega
 have h2:(l.drop i).length=l.length - i:=List.length_drop
 have h3:(l.drop i).take (l.length - i)=l.drop i:=List.take_of_length_le (by rw[h2]; exact Nat.le_refl _)
 simp only[Int.toNat_natCast,show Int.toNat 0=0 from rfl,Nat.sub_zero,List.drop_zero,List.nil_append,h3,List.length_append,h1,h2,List.length_cons,List.length_nil]
 rw[if_pos ⟨by omega,by omega,by omega⟩,if_pos (by omega),if_pos (by omega),if_pos ⟨by omega,by omega,by omega⟩,if_pos (by omega)]
 simp
noncomputable def setK (l:List Int) (x:Int):Nat:=firstAt (fun y=>decide (y≥x)) 0 l
noncomputable def setAdd (l:List Int) (x:Int):List Int:=bif l.any (· == x) then l else l.take (setK l x)++x::l.drop (setK l x)
theorem spec_SetAdd_eq (l:List Int) (x:Int) (hl:l.length≤137438953472):spec_SetAdd (l,x,())=some (setAdd l x,()):=by
 unfold spec_SetAdd setAdd
 dsimp only
 rw[spec_SetHas_eq l x (by omega),Option.bind_some]
 dsimp only
 cases l.any (· == x)
 ·simp only[cond_false]
  unfold setK
  refine (walk l.length (fun i (_:Unit)=>(i,())) (fun _ _=>True) (fun i _=>some (l.take (firstAt (fun y=>decide (y≥x)) i (l.drop i))++x::l.drop (firstAt (fun y=>decide (y≥x)) i (l.drop i)),())) (by omega) ?_ ?_ (s0:=()) trivial).trans (by simp only[List.drop_zero])
  ·intro rec s _
   have e:=setIns l x l.length (Nat.le_refl _) hl
   rw[List.drop_length] at e ⊢
   simp only[Int.lt_irrefl,decide_false,cond_false,firstAt]
   rw[List.drop_length]
   exact e
  ·intro rec i s hi _
   have hx:l[i]?=some l[i]:=List.getElem?_eq_getElem hi
   have e:=setIns l x i (Nat.le_of_lt hi) hl
   have hd0:decide ((i:Int)<((l.length:Nat):Int))=true:=decide_eq_true (by omega)
   have hr:rd .i64 l (Int.toNat (i:Int))=l[i]:=rd_get (e:=.i64) hx
   dsimp only
   by_cases hlt:l[i]<x
   ·right
    have hd:decide (l[i]≥x)=false:=decide_eq_false (by omega)
    refine⟨(),trivial,?_,?_⟩
    ·rw[hd0,cond_true,if_pos (ge_ok hi),hr,decide_eq_true hlt,cond_true,wr_nat (show i<4611686018427387904 by omega)]
    ·rw[List.drop_eq_getElem_cons hi]
     simp only[firstAt,hd,cond_false]
   ·left
    have hd:decide (l[i]≥x)=true:=decide_eq_true (by omega)
    rw[hd0,cond_true,if_pos (ge_ok hi),hr,decide_eq_false hlt,cond_false]
    refine e.trans ?_
    rw[show firstAt (fun y=>decide (y≥x)) i (l.drop i)=i by rw[List.drop_eq_getElem_cons hi]; simp only[firstAt,hd,cond_true]]
 ·simp only[cond_true,List.nil_append]
  rw[if_pos (by omega)]
theorem impl_IndexInt_eq (l:List Int) (x:Int) (hl:l.length≤137438953472):slices_IndexFunc_int (l,x,())=some ((if setK l x<l.length then ((setK l x:Nat):Int) else -1),()):=by
 unfold slices_IndexFunc_int setK
 refine (walk l.length (fun i (_:Unit)=>(i,())) (fun _ _=>True) (fun i _=>some ((if firstAt (fun y=>decide (y≥x)) i (l.drop i)<l.length then ((firstAt (fun y=>decide (y≥x)) i (l.drop i):Nat):Int) else -1),())) (by omega) ?_ ?_ (s0:=()) trivial).trans (by simp only[List.drop_zero])
 ·intro rec s _
  rw[List.drop_length]
  simp only[Int.lt_irrefl,decide_false,cond_false,firstAt,Nat.lt_irrefl,if_false]
 ·intro rec i s hi _
  have hx:l[i]?=some l[i]:=List.getElem?_eq_getElem hi
  rw[List.drop_eq_getElem_cons hi]
  unfold impl_SetAdd_1
  simp only[ge_ok hi,decide_true,cond_true,and_self,if_true,Int.toNat_natCast,rd_get (e:=.i64) hx,Option.bind_some,wr_nat (show i<4611686018427387904 by omega),firstAt]
  by_cases hb:l[i]≥x
  ·left
   simp only[hb,decide_true,cond_true,hi,if_true]
  ·right
   exact⟨(),trivial,by simp only[hb,decide_false,cond_false],by simp only[hb,decide_false,cond_false]⟩
theorem insert_int (l:List Int) (x:Int) (k:Nat) (hk:k≤l.length) (hl:l.length≤137438953472):slices_Insert_int (l,(k:Int),[x],())=some (l.take k++x::l.drop k,()):=by
 unfold slices_Insert_int insAt
 dsimp only
 simp only[List.length_cons,List.length_nil]
 rw[if_pos (by omega),Int.toNat_natCast]
 simp
theorem impl_SetAdd_eq (l:List Int) (x:Int) (hl:l.length≤137438953472):impl_SetAdd (l,x,())=some (setAdd l x,()):=by
 have hle:setK l x≤l.length:=by have:=(firstAt_le (fun y=>decide (y≥x)) l 0).2; unfold setK; omega
 unfold impl_SetAdd setAdd
 dsimp only
 rw[impl_SetHas_eq l x (by omega),Option.bind_some,impl_copyInts_eq l hl,impl_IndexInt_eq l x hl]
 simp only[Option.bind_some]
 cases l.any (· == x)
 ·simp only[cond_false]
  by_cases hlt:setK l x<l.length
  ·rw[if_pos hlt]
   have:decide (((setK l x:Nat):Int)<0)=false:=decide_eq_false (by omega)
   rw[this,cond_false,insert_int l x _ hle hl,Option.bind_some]
  ·rw[if_neg hlt]
   have:decide ((-1:Int)<0)=true:=rfl
   rw[this,cond_true,insert_int l x l.length (Nat.le_refl _) hl,Option.bind_some,show setK l x=l.length by omega]
 ·rfl
theorem setAdd_len (l:List Int) (x:Int):(setAdd l x).length≤l.length+1:=by
 have hle:setK l x≤l.length:=by have:=(firstAt_le (fun y=>decide (y≥x)) l 0).2; unfold setK; omega
 unfold setAdd
 cases l.any (· == x)
 ·simp only[cond_false,List.length_append,List.length_cons,List.length_take,List.length_drop]; omega
 ·simp only[cond_true]; omega
end G448
namespace G448
open Ev Go
set_option maxRecDepth 100000
noncomputable def setJoin (a b:List Int):List Int:=b.foldl setAdd (a.foldl setAdd [])
theorem setFold_len : ∀ (l s:List Int),(l.foldl setAdd s).length≤s.length+l.length
 | [],s=>by simp
 | x::l,s=>by
  have h1:=setAdd_len s x
  have h2:=setFold_len l (setAdd s x)
  simp only[List.foldl_cons,List.length_cons]; omega
theorem setJoin_len (a b:List Int):(setJoin a b).length≤a.length+b.length:=by
 have h1:=setFold_len a []
 have h2:=setFold_len b (a.foldl setAdd [])
 simp only[setJoin,List.length_nil] at *; omega
theorem join_loop {K:List Int→Option (List Int×Unit)} (l s0:List Int) (hl:l.length≤1152921504606846976) {G:(List Int×Int×Unit→Option (List Int×Unit))→List Int×Int×Unit→Option (List Int×Unit)}
  (hon : ∀ (rec:List Int×Int×Unit→Option (List Int×Unit)) (i:Nat) (s:List Int) (h:i<l.length),s.length≤s0.length+i→G rec (s,(i:Int),())=rec (setAdd s l[i],(i:Int)+1,()))
  (hoff : ∀ (rec:List Int×Int×Unit→Option (List Int×Unit)) (s:List Int),s.length≤s0.length+l.length→G rec (s,(l.length:Int),())=K s) :
  iter G fuel (s0,0,())=K (l.foldl setAdd s0):=by
 refine (walk l.length (fun i (s:List Int)=>(s,i,())) (fun i s=>s.length≤s0.length+i) (fun i s=>K ((l.drop i).foldl setAdd s)) hl ?_ ?_ (s0:=s0) (by simp)).trans (by simp only[List.drop_zero])
 ·intro rec s hI
  rw[hoff rec s hI,List.drop_length]
  rfl
 ·intro rec i s hi hI
  have:=setAdd_len s l[i]
  exact .inr ⟨setAdd s l[i],by omega,hon rec i s hi hI,by rw[List.drop_eq_getElem_cons hi]; rfl⟩
theorem spec_SetJoin_eq (a b:List Int) (ha:a.length≤1073741824) (hb:b.length≤1073741824):spec_SetJoin (a,b,())=some (setJoin a b,()):=by
 unfold spec_SetJoin
 refine join_loop (K:=fun s=>some (b.foldl setAdd s,())) a [] (by omega) ?_ ?_
 ·intro rec i s hi hI
  have hx:a[i]?=some a[i]:=List.getElem?_eq_getElem hi
  simp only[List.length_nil] at hI
  simp only[ge_ok hi,decide_true,cond_true,and_self,if_true,Int.toNat_natCast,rd_get (e:=.i64) hx,spec_SetAdd_eq s a[i] (by omega),Option.bind_some,wr_nat (show i<4611686018427387904 by omega)]
 ·intro rec s hI
  simp only[List.length_nil] at hI
  simp only[Int.lt_irrefl,decide_false,cond_false]
  refine join_loop (K:=fun s=>some (s,())) b s (by omega) ?_ ?_
  ·intro rec i s2 hi hI2
   have hx:b[i]?=some b[i]:=List.getElem?_eq_getElem hi
   simp only[ge_ok hi,decide_true,cond_true,and_self,if_true,Int.toNat_natCast,rd_get (e:=.i64) hx,spec_SetAdd_eq s2 b[i] (by omega),Option.bind_some,wr_nat (show i<4611686018427387904 by omega)]
  ·intro rec s2 _
   simp only[Int.lt_irrefl,decide_false,cond_false]
theorem impl_SetJoin_eq (a b:List Int) (ha:a.length≤1073741824) (hb:b.length≤1073741824):impl_SetJoin (a,b,())=some (setJoin a b,()):=by
 unfold impl_SetJoin
 refine join_loop (K:=fun s=>some (b.foldl setAdd s,())) a [] (by omega) ?_ ?_
 ·intro rec i s hi hI
  have hx:a[i]?=some a[i]:=List.getElem?_eq_getElem hi
  simp only[List.length_nil] at hI
  simp only[ge_ok hi,decide_true,cond_true,and_self,if_true,Int.toNat_natCast,rd_get (e:=.i64) hx,impl_SetAdd_eq s a[i] (by omega),Option.bind_some,wr_nat (show i<4611686018427387904 by omega)]
 ·intro rec s hI
  simp only[List.length_nil] at hI
  simp only[Int.lt_irrefl,decide_false,cond_false]
  refine join_loop (K:=fun s=>some (s,())) b s (by omega) ?_ ?_
  ·intro rec i s2 hi hI2
   have hx:b[i]?=some b[i]:=List.getElem?_eq_getElem hi
   simp only[ge_ok hi,decide_true,cond_true,and_self,if_true,Int.toNat_natCast,rd_get (e:=.i64) hx,impl_SetAdd_eq s2 b[i] (by omega),Option.bind_some,wr_nat (show i<4611686018427387904 by omega)]
  ·intro rec s2 _
   simp only[Int.lt_irrefl,decide_false,cond_false]
noncomputable def partJoin (a b:TPart):TPart×Bool:=bif a.1==b.1 && a.2.1==b.2.1 then ((a.1,a.2.1,setJoin a.2.2 b.2.2),true) else ((0,[],[]),false)
theorem spec_PartJoin_eq (a b:TPart) (ha:wPart a≤1073741824) (hb:wPart b≤1073741824):spec_PartJoin (a,b,())=some ((partJoin a b).1,(partJoin a b).2,()):=by
 have h1:a.2.2.length≤1073741824∧b.2.2.length≤1073741824:=by simp only[wPart,wIntS] at ha hb; omega
 unfold spec_PartJoin partJoin
 dsimp only
 rw[spec_SetJoin_eq _ _ h1.1 h1.2,Option.bind_some]
 simp only[bne]
 cases (a.1==b.1)<;>cases (a.2.1==b.2.1)<;>rfl
theorem impl_PartJoin_eq (a b:TPart) (ha:wPart a≤1073741824) (hb:wPart b≤1073741824):impl_PartJoin (a,b,())=some ((partJoin a b).1,(partJoin a b).2,()):=by
 have h1:a.2.2.length≤1073741824∧b.2.2.length≤1073741824:=by simp only[wPart,wIntS] at ha hb; omega
 unfold impl_PartJoin partJoin
 dsimp only
 rw[impl_SetJoin_eq _ _ h1.1 h1.2,Option.bind_some]
 simp only[bne]
 cases (a.1==b.1)<;>cases (a.2.1==b.2.1)<;>rfl
theorem partJoin_w (a b:TPart):wPart (partJoin a b).1≤wPart a+wPart b:=by
 have h:=setJoin_len a.2.2 b.2.2
 unfold partJoin
 cases (a.1==b.1 && a.2.1==b.2.1)
 ·simp[wPart,wIntS]
 ·simp only[cond_true,wPart,wIntS]; omega
noncomputable def tabGo (p:TPart):TPartS→TPartS
 | []=>[p]
 | q::r=>bif beforePart q p then q::tabGo p r else bif (partJoin q p).2 then (partJoin q p).1::r else p::q::r
theorem tabGo_w (p:TPart) : ∀ (l:TPartS),wPartS (tabGo p l)≤wPartS l+wPart p+1
 | []=>by simp[tabGo,wPartS]; omega
 | q::r=>by
  have h:=tabGo_w p r
  have h2:=partJoin_w q p
  simp only[tabGo]
  cases beforePart q p
  ·cases (partJoin q p).2
   ·simp only[cond_false,wPartS,List.length_cons,List.map_cons,List.sum_cons]; omega
   ·simp only[cond_false,cond_true,wPartS,List.length_cons,List.map_cons,List.sum_cons]; omega
  ·simp only[cond_true,wPartS,List.length_cons,List.map_cons,List.sum_cons] at h ⊢; omega
noncomputable def tableAdd (c:TConf) (l:TPartS) (p:TPart):TPartS×Bool:=bif partOk c p && tableOk c (tabGo p l) then (tabGo p l,true) else (l,false)
end G448
namespace G448
open Ev Go
set_option maxRecDepth 100000
theorem wPartS_app (a b:TPartS):wPartS (a++b)=wPartS a+wPartS b:=by
 simp only[wPartS,List.length_append,List.map_append,List.sum_append]; omega
theorem wPartS_len (a:TPartS):a.length≤wPartS a:=by unfold wPartS; omega
def TabI (l:TPartS) (p:TPart) (i:Nat) (s:TPartS×Bool):Prop:=
 (s.2=true∧s.1++l.drop i=tabGo p l)∨(s.2=false∧s.1++tabGo p (l.drop i)=tabGo p l)
theorem TabI.w {l:TPartS} {p:TPart} {i:Nat} {s:TPartS×Bool} (h:TabI l p i s):wPartS s.1≤wPartS l+wPart p+1:=by
 have h0:=tabGo_w p l
 rcases h with⟨_,h⟩|⟨_,h⟩<;>rw[←h,wPartS_app] at h0<;>omega
theorem spec_TableAdd_eq (c:TConf) (l:TPartS) (p:TPart) (hl:wPartS l≤100000000) (hp:wPart p≤100000000):spec_TableAdd (c,l,p,())=some ((tableAdd c l p).1,(tableAdd c l p).2,()):=by
 have hll:=wPartS_len l
 have htw:=tabGo_w p l
 have hfin : ∀ out:TPartS,out=tabGo p l→((spec_TableOk (c,out,())).bind fun r10=>(bif (!r10.1) then ((spec_l10Table (l,())).bind fun r11=>some (r11.1,(false,()))) else ((spec_PartOk (c,(p,()))).bind fun r12=>(bif (!r12.1) then ((spec_l10Table (l,())).bind fun r13=>some (r13.1,(false,()))) else some (out,(true,()))))))=some ((tableAdd c l p).1,(tableAdd c l p).2,()):=by
  intro out ho
  subst ho
  rw[spec_TableOk_eq c _ (by omega),Option.bind_some,spec_l10Table_eq l (by omega),spec_PartOk_eq c p (by omega)]
  unfold tableAdd
  cases tableOk c (tabGo p l)<;>cases partOk c p<;>rfl
 unfold spec_TableAdd
 dsimp only
 refine walk l.length (fun i (s:TPartS×Bool)=>(s.1,s.2,i,())) (fun i s=>TabI l p i s) (fun _ _=>some ((tableAdd c l p).1,(tableAdd c l p).2,())) (by omega) ?_ ?_ (s0:=([],false)) (.inr ⟨rfl,rfl⟩)
 ·rintro rec ⟨out,put⟩ hI
  have hw:=hI.w
  have hol:=wPartS_len out
  unfold TabI at hI
  rw[List.drop_length] at hI
  simp only[Int.lt_irrefl,decide_false,cond_false]
  cases put
  ·rcases hI with⟨h,_⟩|⟨_,h⟩
   ·cases h
   ·simp only[Bool.not_false,cond_true]
    rw[spec_l10Copy_eq p (by omega),Option.bind_some,if_pos (by simp only[List.length_cons,List.length_nil]; simp only at hw hol; omega)]
    exact hfin (out++[p]) h
  ·rcases hI with⟨_,h⟩|⟨h,_⟩
   ·simp only[Bool.not_true,cond_false]
    exact hfin out (by simpa using h)
   ·cases h
 ·rintro rec i ⟨out,put⟩ hi hI
  have hx:l[i]?=some l[i]:=List.getElem?_eq_getElem hi
  have hpw:wPart l[i]≤100000000:=wPart_mem hl hx
  have hw:=hI.w
  have hol:=wPartS_len out
  simp only at hw hol
  unfold TabI at hI
  rw[List.drop_eq_getElem_cons hi] at hI
  right
  simp only[ge_ok hi,decide_true,cond_true,and_self,if_true,Int.toNat_natCast,rd_get (e:=EPart) hx,spec_l10Copy_eq l[i] (by omega),Option.bind_some,wr_nat (show i<4611686018427387904 by omega)]
  cases put
  ·rcases hI with⟨h,_⟩|⟨_,h⟩
   ·cases h
   ·simp only[Bool.not_false,cond_true,spec_l10Before_eq,Option.bind_some]
    simp only[tabGo] at h
    cases hb:beforePart l[i] p
    ·rw[hb] at h
     simp only[cond_false] at h
     simp only[Bool.not_false,cond_true,spec_PartJoin_eq l[i] p (by omega) (by omega),Option.bind_some,spec_l10Copy_eq p (show wPart p≤137438953472 by omega)]
     cases hj:(partJoin l[i] p).2
     ·rw[hj] at h
      simp only[cond_false] at h ⊢
      rw[if_pos (by simp only[List.length_cons,List.length_nil]; omega),if_pos (by simp only[List.length_append,List.length_cons,List.length_nil]; omega)]
      exact⟨(out++[p]++[l[i]],true),.inl ⟨rfl,by simpa using h⟩,rfl,trivial⟩
     ·rw[hj] at h
      simp only[cond_true] at h ⊢
      rw[if_pos (by simp only[List.length_cons,List.length_nil]; omega)]
      exact⟨(out++[(partJoin l[i] p).1],true),.inl ⟨rfl,by simpa using h⟩,rfl,trivial⟩
    ·rw[hb] at h
     simp only[cond_true] at h
     simp only[Bool.not_true,cond_false]
     rw[if_pos (by simp only[List.length_cons,List.length_nil]; omega)]
     exact⟨(out++[l[i]],false),.inr ⟨rfl,by simpa using h⟩,rfl,trivial⟩
  ·rcases hI with⟨_,h⟩|⟨h,_⟩
   ·simp only[Bool.not_true,cond_false]
    rw[if_pos (by simp only[List.length_cons,List.length_nil]; omega)]
    exact⟨(out++[l[i]],true),.inl ⟨rfl,by simpa using h⟩,rfl,trivial⟩
   ·cases h
theorem place_before (a b:TPart):decide (placePart a b<0)=beforePart a b:=by
 have h:=placePart_neg a b
 by_cases hp:placePart a b<0
 ·have : ¬ placePart a b≥0:=by omega
  simp only[this,decide_false] at h
  simp only[hp,decide_true]
  cases hb:beforePart a b
  ·rw[hb] at h; cases h
  ·rfl
 ·have:placePart a b≥0:=by omega
  simp only[this,decide_true] at h
  simp only[hp,decide_false]
  cases hb:beforePart a b
  ·rfl
  ·rw[hb] at h; cases h
theorem place_same {a b:TPart} (h:beforePart a b=false):(placePart a b==0)=(partJoin a b).2:=by
 have hj:(partJoin a b).2=(a.1==b.1 && a.2.1==b.2.1):=by unfold partJoin; cases (a.1==b.1 && a.2.1==b.2.1)<;>rfl
 rw[hj]
 unfold beforePart at h
 unfold placePart
 by_cases h1:a.1<b.1
 ·simp[h1] at h
 ·by_cases h2:a.1>b.1
  ·have : ¬ a.1=b.1:=by omega
   simp[h1,h2,this]
  ·have he:a.1=b.1:=by omega
   simp only[he,decide_eq_true_eq,Bool.or_eq_false_iff,beq_self_eq_true,Bool.true_and] at h
   have h3:=h.2
   simp only[he,Int.lt_irrefl,if_false,h3,Bool.false_eq_true,beq_self_eq_true,Bool.true_and,gt_iff_lt]
   by_cases h4:a.2.1=b.2.1
   ·simp[h4]
   ·simp[h4]
theorem insert_part (l:TPartS) (x:TPart) (k:Nat) (hk:k≤l.length) (hl:l.length≤137438953471):slices_Insert_impl_Part (l,(k:Int),[x],())=some (l.take k++x::l.drop k,()):=by
 unfold slices_Insert_impl_Part insAt
 dsimp only
 simp only[List.length_cons,List.length_nil]
 rw[if_pos (by omega),Int.toNat_natCast]
 simp
theorem impl_TableAdd_eq (c:TConf) (l:TPartS) (p:TPart) (hl:wPartS l≤100000000) (hp:wPart p≤100000000):impl_TableAdd (c,l,p,())=some ((tableAdd c l p).1,(tableAdd c l p).2,()):=by
 have hll:=wPartS_len l
 have htw:=tabGo_w p l
 unfold impl_TableAdd
 dsimp only
 rw[impl_PartOk_eq c p (by omega),Option.bind_some,impl_copyTable_eq l (by omega),Option.bind_some,Option.bind_some]
 cases hpo:partOk c p
 ·simp only[Bool.not_false,cond_true]
  unfold tableAdd
  rw[hpo]
  rfl
 ·simp only[Bool.not_true,cond_false]
  have hfin : ∀ out:TPartS,out=tabGo p l→((impl_TableOk (c,out,())).bind fun r7=>(bif (!r7.1) then some (l,(false,())) else some (out,(true,()))))=some ((tableAdd c l p).1,(tableAdd c l p).2,()):=by
   intro out ho
   subst ho
   rw[impl_TableOk_eq c _ (by omega),Option.bind_some]
   unfold tableAdd
   rw[hpo]
   cases tableOk c (tabGo p l)<;>rfl
  refine walk l.length (fun i (_:Unit)=>(i,())) (fun i _=>l.take i++tabGo p (l.drop i)=tabGo p l) (fun _ _=>some ((tableAdd c l p).1,(tableAdd c l p).2,())) (by omega) ?_ ?_ (s0:=()) (by simp)
  ·intro rec s hI
   rw[List.drop_length] at hI
   simp only[Int.lt_irrefl,decide_false,cond_false]
   rw[impl_copyPart_eq p (by omega),Option.bind_some,insert_part l p l.length (Nat.le_refl _) (by omega),Option.bind_some,List.drop_length]
   exact hfin _ hI
  ·intro rec i s hi hI
   have hx:l[i]?=some l[i]:=List.getElem?_eq_getElem hi
   have hpw:wPart l[i]≤100000000:=wPart_mem hl hx
   rw[List.drop_eq_getElem_cons hi] at hI
   simp only[tabGo] at hI
   simp only[ge_ok hi,decide_true,cond_true,and_self,if_true,Int.toNat_natCast,rd_get (e:=EPart) hx,impl_comparePlace_eq,Option.bind_some,place_before,wr_nat (show i<4611686018427387904 by omega)]
   cases hb:beforePart l[i] p
   ·left
    rw[hb] at hI
    simp only[cond_false] at hI ⊢
    rw[place_same hb]
    cases hj:(partJoin l[i] p).2
    ·rw[hj] at hI
     simp only[cond_false] at hI ⊢
     rw[impl_copyPart_eq p (by omega),Option.bind_some,insert_part l p i (Nat.le_of_lt hi) (by omega),Option.bind_some,List.drop_eq_getElem_cons hi]
     exact hfin _ hI
    ·rw[hj] at hI
     simp only[cond_true] at hI ⊢
     rw[impl_PartJoin_eq l[i] p (by omega) (by omega),Option.bind_some]
     dsimp only
     rw[List.set_eq_take_append_cons_drop,if_pos hi]
     exact hfin _ hI
   ·right
    rw[hb] at hI
    simp only[cond_true] at hI
    have e:l.take (i+1)=l.take i++[l[i]]:=by rw[List.take_add_one,hx]; rfl
    refine⟨(),?_,by simp only[cond_true],trivial⟩
    rw[e,List.append_assoc]
    exact hI
end G448
namespace G448
open Ev Go
set_option maxRecDepth 100000
def withTable (r:TRep) (t:TPartS):TRep:=(r.1,r.2.1,r.2.2.1,r.2.2.2.1,r.2.2.2.2.1,t,r.2.2.2.2.2.2)
theorem tableAdd_w (c:TConf) (l:TPartS) (p:TPart):wPartS (tableAdd c l p).1≤wPartS l+wPart p+1:=by
 have h:=tabGo_w p l
 unfold tableAdd
 cases (partOk c p && tableOk c (tabGo p l))
 ·simp only[cond_false]; omega
 ·exact h
end G448
namespace G448
open Ev Go
set_option maxRecDepth 100000
theorem wName (v me:Int) (name:List UInt8):wPart (v,name,[me])=name.length+1:=by simp[wPart,wIntS]
end G448
namespace G448
open Ev Go
set_option maxRecDepth 100000
noncomputable def late (c:TConf) (r:TRep):TRep×Bool:=
 bif !repOk c r then (r,false) else bif decide (r.2.1≥60) then (r,false) else
 bif rootOf c (r.2.1+1)==r.1 then
  (bif !(tableAdd c r.2.2.2.2.2.1 (r.2.1+1,[],[r.1])).2 then (r,false) else (withTable (inView r (r.2.1+1)) (tableAdd c r.2.2.2.2.2.1 (r.2.1+1,[],[r.1])).1,true))
 else
  (bif !(tellOwn c (inView r (r.2.1+1)) (rootOf c (r.2.1+1)) (3,r.2.1+1,([],0,[],[]),(0,[],[]),r.2.2.2.1.2.2.1,r.1,0,0,0,0)).2 then (r,false) else
   ((tellOwn c (inView r (r.2.1+1)) (rootOf c (r.2.1+1)) (3,r.2.1+1,([],0,[],[]),(0,[],[]),r.2.2.2.1.2.2.1,r.1,0,0,0,0)).1,true))
theorem spec_Late_eq (c:TConf) (r:TRep) (hr:wRep r≤2000000):spec_Late (c,r,())=some ((late c r).1,(late c r).2,()):=by
 have ht:wPartS r.2.2.2.2.2.1≤2000000:=by simp only[wRep] at hr; omega
 have hq:wQc r.2.2.2.1.2.2.1≤2000000:=by simp only[wRep,wSafe] at hr; omega
 unfold spec_Late late
 dsimp only
 rw[spec_l15Copy_eq r (by omega),Option.bind_some,spec_RepOk_eq c r (by omega),Option.bind_some]
 cases hok:repOk c r
 ·rfl
 ·have hv:=repOk_view hok
  have hp:=wName (r.2.1+1) r.1 []
  have hm:=msg3_w r.2.2.2.1.2.2.1 (r.2.1+1) r.1
  simp only[Bool.not_true,cond_false,wr_id' (show -9223372036854775808≤r.2.1+1 by omega) (show r.2.1+1≤9223372036854775807 by omega),spec_Root_eq,Option.bind_some]
  cases decide (r.2.1≥60)
  ·simp only[cond_false]
   cases (rootOf c (r.2.1+1)==r.1)
   ·simp only[cond_false]
    show ((spec_l16Tell (c,inView r (r.2.1+1),rootOf c (r.2.1+1),(3,r.2.1+1,([],0,[],[]),(0,[],[]),r.2.2.2.1.2.2.1,r.1,0,0,0,0),())).bind _)=_
    rw[spec_l16Tell_eq c (inView r (r.2.1+1)) _ _ (repOk_conf hok) (by show wRep r≤_; omega) (by omega),Option.bind_some]
    cases (tellOwn c (inView r (r.2.1+1)) (rootOf c (r.2.1+1)) (3,r.2.1+1,([],0,[],[]),(0,[],[]),r.2.2.2.1.2.2.1,r.1,0,0,0,0)).2<;>rfl
   ·simp only[cond_true]
    rw[spec_TableAdd_eq c r.2.2.2.2.2.1 (r.2.1+1,[],[r.1]) (by omega) (by simp only[List.length_nil] at hp; omega),Option.bind_some]
    cases (tableAdd c r.2.2.2.2.2.1 (r.2.1+1,[],[r.1])).2<;>rfl
  ·rfl
theorem impl_Late_eq (c:TConf) (r:TRep) (hr:wRep r≤2000000):impl_Late (c,r,())=some ((late c r).1,(late c r).2,()):=by
 have ht:wPartS r.2.2.2.2.2.1≤2000000:=by simp only[wRep] at hr; omega
 have hq:wQc r.2.2.2.1.2.2.1≤2000000:=by simp only[wRep,wSafe] at hr; omega
 unfold impl_Late late
 dsimp only
 rw[impl_copyRep_eq r (by omega),impl_RepOk_eq c r (by omega),Option.bind_some,Option.bind_some]
 cases hok:repOk c r
 ·rfl
 ·have hv:=repOk_view hok
  have hp:=wName (r.2.1+1) r.1 []
  have hm:=msg3_w r.2.2.2.1.2.2.1 (r.2.1+1) r.1
  simp only[Bool.not_true,cond_false,wr_id' (show -9223372036854775808≤r.2.1+1 by omega) (show r.2.1+1≤9223372036854775807 by omega),impl_Root_eq,Option.bind_some]
  by_cases h60:r.2.1≥60
  ·have e:(r.2.1==60)=true:=by rw[beq_iff_eq]; omega
   simp only[h60,decide_true,cond_true,e]
  ·have e:(r.2.1==60)=false:=beq_eq_false_iff_ne.2 (by omega)
   have hk:=inView_ok (v:=r.2.1+1) hok (by omega)
   simp only[h60,decide_false,cond_false,e]
   cases (rootOf c (r.2.1+1)==r.1)
   ·simp only[cond_false]
    show ((impl_Tell (c,inView r (r.2.1+1),rootOf c (r.2.1+1),(3,r.2.1+1,([],0,[],[]),(0,[],[]),r.2.2.2.1.2.2.1,r.1,0,0,0,0),())).bind _)=_
    rw[impl_Tell_eq c (inView r (r.2.1+1)) _ _ (by show wRep r≤_; omega) (by omega),←tell_own _ _ hk,Option.bind_some]
    cases (tellOwn c (inView r (r.2.1+1)) (rootOf c (r.2.1+1)) (3,r.2.1+1,([],0,[],[]),(0,[],[]),r.2.2.2.1.2.2.1,r.1,0,0,0,0)).2<;>rfl
   ·simp only[cond_true]
    rw[impl_TableAdd_eq c r.2.2.2.2.2.1 (r.2.1+1,[],[r.1]) (by omega) (by simp only[List.length_nil] at hp; omega),Option.bind_some]
    cases (tableAdd c r.2.2.2.2.2.1 (r.2.1+1,[],[r.1])).2<;>rfl
theorem tellOwn_w (c:TConf) (r:TRep) (to:Int) (m:TMsg):wRep (tellOwn c r to m).1≤wRep r+(1+wMsg m):=by
 have hw:=holdOne_w r to m
 unfold tellOwn
 cases (!decide ((r.2.2.2.2.2.2.2.length:Int)≥30) && heldOk c r.1 (to,m))
 ·simp only[cond_false]; omega
 ·simp only[cond_true]; omega
theorem late_w (c:TConf) (r:TRep):wRep (late c r).1≤200+3*wRep r:=by
 have ht:wPartS r.2.2.2.2.2.1≤wRep r:=by simp only[wRep]; omega
 have hq:wQc r.2.2.2.1.2.2.1≤wRep r:=by simp only[wRep,wSafe]; omega
 have hm:=msg3_w r.2.2.2.1.2.2.1 (r.2.1+1) r.1
 have hp:=wName (r.2.1+1) r.1 []
 have h1:=tellOwn_w c (inView r (r.2.1+1)) (rootOf c (r.2.1+1)) (3,r.2.1+1,([],0,[],[]),(0,[],[]),r.2.2.2.1.2.2.1,r.1,0,0,0,0)
 have hiv:wRep (inView r (r.2.1+1))=wRep r:=rfl
 have h2:=tableAdd_w c r.2.2.2.2.2.1 (r.2.1+1,[],[r.1])
 have h3:wRep (withTable (inView r (r.2.1+1)) (tableAdd c r.2.2.2.2.2.1 (r.2.1+1,[],[r.1])).1)≤wRep r+wPart (r.2.1+1,[],[r.1])+1:=by simp only[withTable,inView,wRep] at *; omega
 simp only[List.length_nil] at hp
 unfold late
 cases repOk c r
 ·simp only[Bool.not_false,cond_true]; omega
 cases decide (r.2.1≥60)
 ·cases (rootOf c (r.2.1+1)==r.1)
  ·cases (tellOwn c (inView r (r.2.1+1)) (rootOf c (r.2.1+1)) (3,r.2.1+1,([],0,[],[]),(0,[],[]),r.2.2.2.1.2.2.1,r.1,0,0,0,0)).2
   ·simp only[Bool.not_true,Bool.not_false,cond_true,cond_false]; omega
   ·simp only[Bool.not_true,cond_false]; omega
  ·cases (tableAdd c r.2.2.2.2.2.1 (r.2.1+1,[],[r.1])).2
   ·simp only[Bool.not_true,Bool.not_false,cond_true,cond_false]; omega
   ·simp only[Bool.not_true,cond_true,cond_false]; omega
 ·simp only[Bool.not_true,cond_true,cond_false]; omega
theorem law_Late (c:TConf) (r:TRep) (hb:bRep r):laws_FnExactLate (c,r,())=some (true,()):=by
 unfold laws_FnExactLate
 simp only[szRep_eq r 1048576 (by decide) (by decide) hb,Option.bind_some]
 by_cases k:sub 1048576 (wRep r)<0
 ·simp only[k,decide_true,cond_true]
 have g:=(sub_nonneg k).1
 have w1:=late_w c r
 have hd:=dRep_le r
 have hd1:=dRep_le (late c r).1
 simp only[k,decide_false,cond_false,toConf_eq,toRep_eq r (by omega),Option.bind_some,spec_Late_eq c r (by omega),impl_Late_eq c r (by omega),eqRep_self r (by omega),eqRep_self (late c r).1 (by omega),Bool.not_true,bne_self_eq_false,
  markRep_eq' r 1 (by decide) (by omega),neg_no (n:=dRep r) (show (0:Int)≤1 by decide),markRep_eq' (late c r).1 1 (by decide) (by omega),heldRep_eq' (late c r).1 _ _ _ _ _ _ _ _ _ 1 (by decide) (by omega),neg_no (n:=dRep (late c r).1) (show (0:Int)≤1 by decide)]
end G448
