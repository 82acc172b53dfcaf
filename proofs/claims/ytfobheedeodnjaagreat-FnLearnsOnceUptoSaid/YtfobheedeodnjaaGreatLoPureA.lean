/- Plain laws, part 1: what the functions compute. No program in sight. -/
import Derived.Test.YtfobheedeodnjaaGreatLoFns
import Derived.Lib.IndexBytes
import Derived.Lib.IndexLaws
import Derived.Lib.SplitLaws
import Derived.Lib.ItoaNum
import Derived.Lib.LastIndexByte
set_option linter.unusedSimpArgs false
set_option linter.unusedVariables false
namespace G448
open Ev
theorem iter_eq {S R:Type} {G:(S→Option R)→S→Option R} (f:S→Option R) (μ:S→Nat) (I:S→Prop)
  (h : ∀ (rec:S→Option R) (x:S),I x→(∀ y,I y→μ y<μ x→rec y=f y)→G rec x=f x) : ∀ (n:Nat) (x:S),I x→μ x<n→iter G n x=f x
 | 0,x,_,hn=>by omega
 | n+1,x,hx,hn=>h (iter G n) x hx fun y hy hlt=>iter_eq f μ I h n y hy (by omega)
def foldK {α S R:Type} (body:α→S→(S→Option R)→Option R) (k:S→Option R):List α→S→Option R
 | [],s=>k s
 | x::xs,s=>body x s (foldK body k xs)
theorem foldK_cons {α S R:Type} (body:α→S→(S→Option R)→Option R) (k:S→Option R) (x:α) (xs:List α) (s:S):foldK body k (x::xs) s=body x s (foldK body k xs):=rfl
theorem iter_for {X S R:Type} (len:Nat) {G:(X→Option R)→X→Option R} (mk:Int→S→X) (f:Nat→S→Option R) (hlen:len≤1152921504606846976)
  (hend : ∀ rec s,G rec (mk (len:Int) s)=f len s)
  (hstep : ∀ rec (i:Nat) s,i<len→(∀ s',rec (mk ((i:Int)+1) s')=f (i+1) s')→G rec (mk (i:Int) s)=f i s) :
  ∀ n i s,i≤len→len - i<n→iter G n (mk (i:Int) s)=f i s
 | 0,i,s,_,hn=>by omega
 | n+1,i,s,hi,hn=>by
  rcases Nat.lt_or_ge i len with h|h
  ·exact hstep (iter G n) i s h fun s'=>iter_for len mk f hlen hend hstep n (i+1) s' (by omega) (by omega)
  ·have:i=len:=by omega
   subst this
   exact hend (iter G n) s
theorem fuel_gt {n:Nat} (h:n≤1152921504606846976):n<fuel:=by rw[fuel_def]; omega
theorem forK {α X S R:Type} (l:List α) {G:(X→Option R)→X→Option R} (body:α→S→(S→Option R)→Option R) (k:S→Option R) (mk:Int→S→X) (hl:l.length≤1152921504606846976)
  (hend : ∀ rec s,G rec (mk (l.length:Int) s)=k s)
  (hstep : ∀ rec (i:Nat) s (x:α),l[i]?=some x→i<l.length→G rec (mk (i:Int) s)=body x s (fun s'=>rec (mk ((i:Int)+1) s')))
  (hcong : ∀ x s (r1 r2:S→Option R),(∀ s',r1 s'=r2 s')→body x s r1=body x s r2) (s:S):iter G fuel (mk 0 s)=foldK body k l s:=by
 have:=iter_for l.length mk (fun i s=>foldK body k (l.drop i) s) hl (fun rec s=>by simpa[foldK] using hend rec s) (fun rec i s hi hrec=>by
  rw[hstep rec i s l[i] (List.getElem?_eq_getElem hi) hi,List.drop_eq_getElem_cons hi]
  exact hcong _ _ _ _ hrec) fuel 0 s (Nat.zero_le _) (by simpa using fuel_gt hl)
 simpa using this
theorem wr_id' {n:Int} (h1 : -9223372036854775808≤n) (h2:n≤9223372036854775807):wr n=n:=by rw[wr_def]; omega
theorem wr_nat {i:Nat} (h:i<4611686018427387904):wr ((i:Int)+1)=(i:Int)+1:=wr_id' (by omega) (by omega)
theorem rd_get {e:Ty} {l:List (den e)} {i:Nat} {x:den e} (h:l[i]?=some x):rd e l i=x:=by
 simp[rd,List.getD_eq_getElem?_getD,h]
theorem ge_ok {α:Type} {l:List α} {i:Nat} (h:i<l.length):(0:Int)≤(i:Int)∧(i:Int)<(l.length:Int):=by omega
theorem foldK_any {α:Type} (p:α→Bool) (l:List α):foldK (S:=Unit) (fun x s rec=>bif p x then some (true,()) else rec s) (fun _=>some (false,())) l ()=some (l.any p,()):=by
 induction l with
 | nil=>rfl
 | cons x xs ih=>rw[foldK_cons,ih]; cases h:p x<;>simp[h]
theorem foldK_all {α:Type} (p:α→Bool) (l:List α):foldK (S:=Unit) (fun x s rec=>bif p x then rec s else some (false,())) (fun _=>some (true,())) l ()=some (l.all p,()):=by
 induction l with
 | nil=>rfl
 | cons x xs ih=>rw[foldK_cons,ih]; cases h:p x<;>simp[h]
def sub (left:Int) (w:Nat):Int:=if left<(w:Int) then -1 else left - w
theorem sub_zero {left:Int} (h:0≤left):sub left 0=left:=by unfold sub; rw[if_neg (by simpa using h)]; simp
end G448
namespace G448
open Ev
def Ens {α:Type} (o:Option α) (P:α→Prop):Prop := ∃ y,o=some y∧P y
theorem Ens.bind {α β:Type} {x:Option α} {f:α→Option β} {P:α→Prop} {Q:β→Prop} (h:Ens x P) (hf : ∀ y,P y→Ens (f y) Q):Ens (x.bind f) Q:=by
 obtain⟨y,rfl,hy⟩:=h
 exact hf y hy
theorem Ens.some {α:Type} {x:α} {P:α→Prop} (h:P x):Ens (some x) P:=⟨x,rfl,h⟩
theorem Ens.mono {α:Type} {o:Option α} {P Q:α→Prop} (h:Ens o P) (hq : ∀ y,P y→Q y):Ens o Q:=by
 obtain⟨y,e,hy⟩:=h
 exact⟨y,e,hq y hy⟩
theorem Ens.cond {α:Type} {c:Bool} {a b:Option α} {P:α→Prop} (ha:c=true→Ens a P) (hb:c=false→Ens b P):Ens (bif c then a else b) P:=by
 cases c with
 | true=>exact ha rfl
 | false=>exact hb rfl
theorem Ens.ite {α:Type} {c:Prop} [Decidable c] {a b:Option α} {P:α→Prop} (hc:c) (ha:Ens a P):Ens (if c then a else b) P:=by
 rw[if_pos hc]; exact ha
theorem Ens.loop {S R:Type} {G:(S→Option R)→S→Option R} (I:S→Prop) (μ:S→Nat) {P:R→Prop}
  (h : ∀ (rec:S→Option R) (x:S),I x→(∀ y,I y→μ y<μ x→Ens (rec y) P)→Ens (G rec x) P) {x:S} (hx:I x) (hm:μ x<fuel):Ens (iter G fuel x) P:=by
 have key : ∀ (n:Nat) (x:S),I x→μ x<n→Ens (iter G n x) P:=by
  intro n
  induction n with
  | zero=>intro x _ hn; omega
  | succ n ih=>intro x hx hn; exact h (iter G n) x hx fun y hy hlt=>ih y hy (by omega)
 exact key fuel x hx hm
def big:Nat:=140737488355328
theorem eq_loop {α R:Type} (l:List α) {G:(Int×Unit→Option R)→Int×Unit→Option R} (b:R) (hl:l.length≤1152921504606846976)
  (hend : ∀ rec s,G rec ((l.length:Int),s)=some b)
  (hstep : ∀ rec (i:Nat) s x,l[i]?=some x→i<l.length→G rec ((i:Int),s)=rec ((i:Int)+1,s)):iter G fuel (0,())=some b:=by
 refine (forK l (fun x s rec=>rec s) (fun s=>some b) (fun i s=>(i,s)) hl hend hstep (fun x s r1 r2 hr=>hr s) ()).trans ?_
 clear hend hstep hl
 induction l with
 | nil=>rfl
 | cons x xs ih=>rw[foldK_cons,ih]
theorem index_loop {α:Type} (p:α→Bool) (l:List α) {G:(Int×Unit→Option (Int×Unit))→Int×Unit→Option (Int×Unit)} (hl:l.length≤1152921504606846976)
  (hend : ∀ rec s,G rec ((l.length:Int),s)=some (-1,()))
  (hstep : ∀ rec (i:Nat) s x,l[i]?=some x→i<l.length→G rec ((i:Int),s)=bif p x then some ((i:Int),()) else rec ((i:Int)+1,s)) :
  ∃ r:Int,iter G fuel (0,())=some (r,())∧decide (r≥0)=l.any p:=by
 have key : ∀ n i,i≤l.length→l.length - i<n → ∃ r:Int,iter G n ((i:Int),())=some (r,())∧decide (r≥0)=(l.drop i).any p:=by
  intro n
  induction n with
  | zero=>intro i h1 h2; omega
  | succ n ih=>
   intro i hi hn
   rcases Nat.lt_or_ge i l.length with h|h
   ·have e1:iter G (n+1) ((i:Int),())=bif p l[i] then some ((i:Int),()) else iter G n ((i:Int)+1,()):=hstep (iter G n) i () l[i] (List.getElem?_eq_getElem h) h
    rw[List.drop_eq_getElem_cons h,List.any_cons,e1]
    cases hp:p l[i] with
    | true=>exact⟨i,rfl,by simp⟩
    | false=>
     obtain⟨r,h1,h2⟩:=ih (i+1) h (by omega)
     exact⟨r,h1,by simpa using h2⟩
   ·have hi':i=l.length:=by omega
    subst hi'
    exact⟨-1,hend (iter G n) (),by simp⟩
 simpa using key fuel 0 (Nat.zero_le _) (by simpa using fuel_gt hl)
theorem index_bind {α:Type} (p:α→Bool) (l:List α) {G:(Int×Unit→Option (Int×Unit))→Int×Unit→Option (Int×Unit)} (hl:l.length≤1152921504606846976)
  (hend : ∀ rec s,G rec ((l.length:Int),s)=some (-1,()))
  (hstep : ∀ rec (i:Nat) s x,l[i]?=some x→i<l.length→G rec ((i:Int),s)=bif p x then some ((i:Int),()) else rec ((i:Int)+1,s)) :
  ((iter G fuel (0,())).bind fun r=>some (decide (r.1≥0),()))=some (l.any p,()):=by
 obtain⟨r,h1,h2⟩:=index_loop p l hl hend hstep
 rw[h1,Option.bind_some,←h2]
theorem cmp_loop {R:Type} (l m:List Int) {G:(Int×Unit→Option R)→Int×Unit→Option R} (yes no:R) (hl:l.length≤1152921504606846976)
  (hend : ∀ rec (i:Nat) s,i≤l.length→i≤m.length→(i=l.length∨i=m.length)→G rec ((i:Int),s)=some (if l.length=m.length then yes else no))
  (hstep : ∀ rec (i:Nat) s x y,l[i]?=some x→m[i]?=some y→i<l.length→i<m.length→G rec ((i:Int),s)=bif x != y then some no else rec ((i:Int)+1,s)) :
  iter G fuel (0,())=some (if l=m then yes else no):=by
 have key : ∀ n i,i≤l.length→i≤m.length→l.length - i<n→iter G n ((i:Int),())=some (if l.drop i=m.drop i then yes else no):=by
  intro n
  induction n with
  | zero=>intro i h1 h2 h3; omega
  | succ n ih=>
   intro i hi hi2 hn
   by_cases he:i=l.length∨i=m.length
   ·have e1:iter G (n+1) ((i:Int),())=some (if l.length=m.length then yes else no):=hend (iter G n) i () hi hi2 he
    have e2:(l.drop i=m.drop i)=(l.length=m.length):=by
     apply propext
     constructor
     ·intro e
      have:=congrArg List.length e
      simp only[List.length_drop] at this
      omega
     ·intro e
      rw[List.drop_of_length_le (by omega),List.drop_of_length_le (by omega)]
    simp only[e1,e2]
   ·have h:i<l.length:=by omega
    have hm:i<m.length:=by omega
    have e1:iter G (n+1) ((i:Int),())=bif l[i] != m[i] then some no else iter G n ((i:Int)+1,()):=hstep (iter G n) i () l[i] m[i] (List.getElem?_eq_getElem h) (List.getElem?_eq_getElem hm) h hm
    rw[e1,List.drop_eq_getElem_cons h,List.drop_eq_getElem_cons hm]
    by_cases he:l[i]=m[i]
    ·rw[he]
     simp only[bne_self_eq_false,cond_false,List.cons.injEq,true_and]
     exact ih (i+1) h hm (by omega)
    ·have:(l[i] != m[i])=true:=by simpa using he
     rw[this,cond_true,if_neg (fun e=>he (List.cons.inj e).1)]
 have:=key fuel 0 (Nat.zero_le _) (Nat.zero_le _) (by simpa using fuel_gt hl)
 simpa only [List.drop_zero,Int.natCast_zero] using this
end G448
namespace G448
open Ev
end G448
namespace G448
open Ev
theorem spec_SetHas_eq (l:List Int) (v:Int) (h:l.length≤1152921504606846976):spec_SetHas (l,v,())=some (l.any (· == v),()):=by
 unfold spec_SetHas
 refine (forK l (fun x s rec=>bif x==v then some (true,()) else rec s) (fun s=>some (false,())) (fun i s=>(i,s)) h ?_ ?_ ?_ ()).trans (foldK_any _ _)
 ·intro rec s; simp
 ·intro rec i s x hx hi
  simp only[Int.toNat_natCast,ge_ok hi,decide_true,cond_true,if_true,and_self,rd,List.getD_eq_getElem?_getD,hx,Option.getD_some,wr_nat (show i<4611686018427387904 by omega)]
 ·intro x s r1 r2 hr; simp[hr]
theorem Contains_int_eq (l:List Int) (v:Int) (h:l.length≤1152921504606846976):slices_Contains_int (l,v,())=some (l.any (v == ·),()):=by
 unfold slices_Contains_int slices_Index_int
 refine index_bind (v == ·) l h ?_ ?_
 ·intro rec s; simp
 ·intro rec i s x hx hi
  simp only[Int.toNat_natCast,ge_ok hi,decide_true,cond_true,if_true,and_self,rd,List.getD_eq_getElem?_getD,hx,Option.getD_some,wr_nat (show i<4611686018427387904 by omega)]
theorem impl_SetHas_eq (l:List Int) (v:Int) (h:l.length≤1152921504606846976):impl_SetHas (l,v,())=some (l.any (· == v),()):=by
 unfold impl_SetHas
 simp only[Contains_int_eq l v h,Option.bind_some]
 congr 2
 apply congrArg (fun f=>l.any f)
 funext x
 exact Bool.beq_comm
theorem l7Ints_eq (l m:List Int) (hl:l.length≤1152921504606846976):spec_l7Ints (l,m,())=some (decide (l=m),()):=by
 unfold spec_l7Ints
 refine (cmp_loop l m (true,()) (false,()) hl ?_ ?_).trans (by by_cases h:l=m<;>simp[h])
 ·intro rec i s h1 h2 h3
  rcases Nat.lt_or_ge i l.length with h|h
  ·have hm:i=m.length:=by omega
   have hnm : ¬ (i:Int)<(m.length:Int):=by omega
   have hbe:(((l.length:Nat):Int)==((m.length:Nat):Int))=false:=by simp; omega
   have hne : ¬ l.length=m.length:=by omega
   simp only[ge_ok h,hnm,decide_true,decide_false,cond_true,cond_false,hbe,if_neg hne]
  ·have hnl : ¬ (i:Int)<(l.length:Int):=by omega
   simp only[hnl,decide_false,cond_false]
   by_cases e:l.length=m.length
   ·simp[e]
   ·have hbe:(((l.length:Nat):Int)==((m.length:Nat):Int))=false:=by simp; omega
    simp only[hbe,if_neg e]
 ·intro rec i s x y hx hy hi hm
  simp only[Int.toNat_natCast,(ge_ok hi).1,(ge_ok hi).2,(ge_ok hm).2,decide_true,cond_true,if_true,and_self,rd,List.getD_eq_getElem?_getD,hx,hy,Option.getD_some,wr_nat (show i<4611686018427387904 by omega)]
end G448
namespace G448
open Ev
abbrev TDisk:=List UInt8×Int
def diskOk (d:TDisk):Bool:=decide ((d.1.length:Int)≤100000) && (decide (d.2≥0) && decide (d.2≤(d.1.length:Int)))
theorem spec_DiskOk_eq (d:TDisk):spec_DiskOk (d,())=some (diskOk d,()):=by
 unfold spec_DiskOk spec_l1In diskOk
 cases h1:decide ((d.1.length:Int)≤100000)<;>cases h2:decide (d.2≥0)<;>simp[h1,h2]
theorem spec_l13Copy_eq (d:TDisk) (h:d.1.length≤35184372088832):spec_l13Copy (d,())=some (d,()):=by
 unfold spec_l13Copy
 dsimp only
 rw[if_pos (by omega)]
 rfl
theorem impl_copyDisk_eq (d:TDisk) (h:d.1.length≤35184372088832):impl_copyDisk (d,())=some (d,()):=by
 unfold impl_copyDisk
 dsimp only
 rw[if_pos (by omega)]
def appendM (d:TDisk) (b:List UInt8):TDisk×Bool:=if diskOk d=true∧d.1.length+b.length≤100000 then ((d.1++b,d.2),true) else (d,false)
theorem spec_Append_eq (d:TDisk) (b:List UInt8) (h:d.1.length≤17592186044416) (hb:b.length≤17592186044416):spec_Append (d,b,())=some ((appendM d b).1,(appendM d b).2,()):=by
 unfold spec_Append appendM
 simp only[spec_l13Copy_eq d (by omega),Option.bind_some,spec_DiskOk_eq]
 rw[if_pos (by omega)]
 cases h1:diskOk d with
 | false=>simp
 | true=>
  simp only[Bool.not_true,cond_false,true_and]
  have h2:diskOk (d.1++b,d.2)=decide (d.1.length+b.length≤100000):=by
   simp only[diskOk,Bool.and_eq_true,decide_eq_true_eq] at h1
   obtain⟨g1,g2,g3⟩:=h1
   by_cases h3:d.1.length+b.length≤100000
   ·simp[diskOk,h3,g2]; omega
   ·simp[diskOk,h3]; omega
  rw[h2]
  by_cases h3:d.1.length+b.length≤100000
  ·simp[h3]
  ·simp[h3]
end G448
namespace G448
open Ev
theorem sum_mem {α:Type} {l:List α} {x:α} (f:α→Nat) (h:x∈l):f x≤(l.map f).sum:=by
 induction l with
 | nil=>cases h
 | cons y r ih=>
  simp only[List.map_cons,List.sum_cons]
  rcases List.mem_cons.1 h with rfl|h
  ·omega
  ·have:=ih h; omega
abbrev TIntS:=List Int
abbrev TByteS:=List UInt8
abbrev TTx:=Int×Int×Int×Int
abbrev TSaid:=Int×List UInt8×Int
abbrev TQc:=Int×List UInt8×TIntS
abbrev TPart:=Int×List UInt8×TIntS
abbrev TBlock:=List UInt8×TQc
abbrev TMsg:=Int×Int×TBlock×TPart×TQc×Int×TTx
abbrev TPost:=Int×TMsg
abbrev TWire:=Int×TByteS
abbrev TSafe:=Int×Int×TQc×List UInt8
abbrev TTxS:=List TTx
abbrev TSaidS:=List TSaid
abbrev TPartS:=List TPart
abbrev TPostS:=List TPost
abbrev TWireS:=List TWire
abbrev TRep:=Int×Int×Int×TSafe×TTxS×TPartS×TDisk×TPostS
abbrev TRepS:=List TRep
abbrev TConf:=Int×Int
abbrev TLedger:=TIntS×TIntS
abbrev TWorld:=TConf×TIntS×TRepS×TWireS×TSaidS
abbrev TDeed:=Int×Int×Int×TMsg
def wIntS (x:TIntS):Nat:=x.length
def wByteS (x:TByteS):Nat:=x.length
def wDisk (x:TDisk):Nat:=x.1.length
def wSaid (x:TSaid):Nat:=x.2.1.length
def wQc (x:TQc):Nat:=x.2.1.length+wIntS x.2.2
def wPart (x:TPart):Nat:=x.2.1.length+wIntS x.2.2
def wBlock (x:TBlock):Nat:=x.1.length+wQc x.2
def wMsg (x:TMsg):Nat:=wBlock x.2.2.1+wPart x.2.2.2.1+wQc x.2.2.2.2.1
def wPost (x:TPost):Nat:=wMsg x.2
def wWire (x:TWire):Nat:=wByteS x.2
def wSafe (x:TSafe):Nat:=wQc x.2.2.1+x.2.2.2.length
def wTxS (x:TTxS):Nat:=x.length
def wSaidS (x:TSaidS):Nat:=x.length+(x.map wSaid).sum
def wPartS (x:TPartS):Nat:=x.length+(x.map wPart).sum
def wPostS (x:TPostS):Nat:=x.length+(x.map wPost).sum
def wWireS (x:TWireS):Nat:=x.length+(x.map wWire).sum
def wRep (x:TRep):Nat:=wSafe x.2.2.2.1+wTxS x.2.2.2.2.1+wPartS x.2.2.2.2.2.1+wDisk x.2.2.2.2.2.2.1+wPostS x.2.2.2.2.2.2.2
def wRepS (x:TRepS):Nat:=x.length+(x.map wRep).sum
def wLedger (x:TLedger):Nat:=wIntS x.1+wIntS x.2
def wWorld (x:TWorld):Nat:=wIntS x.2.1+wRepS x.2.2.1+wWireS x.2.2.2.1+wSaidS x.2.2.2.2
end G448
namespace G448
open Ev
def MsgW (m:TMsg):Prop:=m.2.2.1.2.2.2.length≤8796093022208∧m.2.2.2.1.2.2.length≤8796093022208∧m.2.2.2.2.1.2.2.length≤8796093022208
theorem MsgW.of {m:TMsg} (h:wMsg m≤137438953472):MsgW m:=by
 simp only[wMsg,wBlock,wQc,wPart,wIntS] at h
 unfold MsgW
 omega
def qcSame (a b:TQc):Bool:=a.1==b.1 && (a.2.1==b.2.1 && decide (a.2.2=b.2.2))
theorem spec_QcSame_eq (a b:TQc) (h:a.2.2.length≤8796093022208):spec_QcSame (a,b,())=some (qcSame a b,()):=by
 unfold spec_QcSame qcSame
 simp only[l7Ints_eq a.2.2 b.2.2 (by omega),Option.bind_some]
 cases a.1==b.1<;>cases a.2.1==b.2.1<;>simp
theorem spec_l14Part_eq (a b:TQc) (h:a.2.2.length≤8796093022208):spec_l14Part (a,b,())=some (qcSame a b,()):=by
 unfold spec_l14Part qcSame
 simp only[l7Ints_eq a.2.2 b.2.2 (by omega),Option.bind_some]
 cases a.1==b.1<;>cases a.2.1==b.2.1<;>simp
def blockSame (a b:TBlock):Bool:=a.1==b.1 && qcSame a.2 b.2
theorem spec_BlockSame_eq (a b:TBlock) (h:a.2.2.2.length≤8796093022208):spec_BlockSame (a,b,())=some (blockSame a b,()):=by
 unfold spec_BlockSame blockSame
 simp only[spec_QcSame_eq a.2 b.2 h,Option.bind_some]
 cases a.1==b.1<;>simp
def txSame (a b:TTx):Bool:=a.1==b.1 && (a.2.1==b.2.1 && (a.2.2.1==b.2.2.1 && (a.2.2.2==b.2.2.2 && true)))
def msgSame (a b:TMsg):Bool:=
 a.1==b.1 && (a.2.1==b.2.1 && (blockSame a.2.2.1 b.2.2.1 && (qcSame a.2.2.2.1 b.2.2.2.1 && (qcSame a.2.2.2.2.1 b.2.2.2.2.1 && (a.2.2.2.2.2.1==b.2.2.2.2.2.1 && txSame a.2.2.2.2.2.2 b.2.2.2.2.2.2)))))
theorem spec_MsgSame_eq (a b:TMsg) (h:MsgW a):spec_MsgSame (a,b,())=some (msgSame a b,()):=by
 unfold spec_MsgSame msgSame txSame
 simp only[spec_BlockSame_eq a.2.2.1 b.2.2.1 h.1,spec_l14Part_eq a.2.2.2.1 b.2.2.2.1 h.2.1,spec_QcSame_eq a.2.2.2.2.1 b.2.2.2.2.1 h.2.2,Option.bind_some]
 cases a.1==b.1<;>cases a.2.1==b.2.1<;>cases blockSame a.2.2.1 b.2.2.1<;>cases qcSame a.2.2.2.1 b.2.2.2.1<;>cases qcSame a.2.2.2.2.1 b.2.2.2.2.1<;>cases a.2.2.2.2.2.1==b.2.2.2.2.2.1<;>rfl
end G448
namespace G448
open Ev
theorem spec_l18Has_eq (l:List TSaid) (view:Int) (name:List UInt8) (who:Int) (h:l.length≤1152921504606846976) :
  spec_l18Has (l,view,name,who,())=some (l.any (fun x=>x.1==view && (x.2.1==name && x.2.2==who)),()):=by
 unfold spec_l18Has
 refine (forK l (fun x s rec=>bif (x.1==view && (x.2.1==name && x.2.2==who)) then some (true,()) else rec s) (fun s=>some (false,())) (fun i s=>(i,s)) h ?_ ?_ ?_ ()).trans (foldK_any _ _)
 ·intro rec s; simp
 ·intro rec i s x hx hi
  simp only[Int.toNat_natCast,ge_ok hi,decide_true,cond_true,if_true,and_self,rd,List.getD_eq_getElem?_getD,hx,Option.getD_some,wr_nat (show i<4611686018427387904 by omega)]
  cases x.1==view<;>cases x.2.1==name<;>cases x.2.2==who<;>rfl
 ·intro x s r1 r2 hr; simp[hr]
theorem Contains_Said_eq (l:List TSaid) (v:TSaid) (h:l.length≤1152921504606846976):slices_Contains_impl_Said (l,v,())=some (l.any (fun x=>x.1==v.1 && (x.2.1==v.2.1 && x.2.2==v.2.2)),()):=by
 unfold slices_Contains_impl_Said slices_Index_impl_Said
 refine index_bind _ l h ?_ ?_
 ·intro rec s; simp
 ·intro rec i s x hx hi
  simp only[Int.toNat_natCast,ge_ok hi,decide_true,cond_true,if_true,and_self,rd,List.getD_eq_getElem?_getD,hx,Option.getD_some,wr_nat (show i<4611686018427387904 by omega),Bool.and_true]
  rw[Bool.beq_comm (a:=v.1),Bool.beq_comm (a:=v.2.1),Bool.beq_comm (a:=v.2.2)]
def signed (liars:List Int) (list:List TSaid) (view:Int) (name:List UInt8) (who:List Int):Bool:=
 who.all fun i=>liars.any (· == i) || list.any (fun x=>x.1==view && (x.2.1==name && x.2.2==i))
theorem spec_Signed_eq (liars:List Int) (list:List TSaid) (view:Int) (name:List UInt8) (who:List Int) (h1:liars.length≤1152921504606846976) (h2:list.length≤1152921504606846976) (h3:who.length≤1152921504606846976) :
  spec_Signed (liars,list,view,name,who,())=some (signed liars list view name who,()):=by
 unfold spec_Signed
 refine (forK who (fun x s rec=>bif (liars.any (· == x) || list.any (fun y=>y.1==view && (y.2.1==name && y.2.2==x))) then rec s else some (false,())) (fun s=>some (true,())) (fun i s=>(i,s)) h3 ?_ ?_ ?_ ()).trans (foldK_all _ _)
 ·intro rec s; simp
 ·intro rec i s x hx hi
  simp only[Int.toNat_natCast,ge_ok hi,decide_true,cond_true,if_true,and_self,rd,List.getD_eq_getElem?_getD,hx,Option.getD_some,wr_nat (show i<4611686018427387904 by omega),spec_SetHas_eq liars x h1,spec_l18Has_eq list view name x h2,Option.bind_some]
  cases liars.any (· == x)<;>cases list.any (fun y=>y.1==view && (y.2.1==name && y.2.2==x))<;>rfl
 ·intro x s r1 r2 hr; simp[hr]
end G448
namespace G448
open Ev
def saidPart (m:TMsg):TPart:=if m.1=2 then m.2.2.2.1 else if m.1=1 then (m.2.2.1.2.1,m.2.2.1.2.2.1,m.2.2.1.2.2.2) else (m.2.2.2.2.1.1,m.2.2.2.2.1.2.1,m.2.2.2.2.1.2.2)
def saidOf (id:Int) (m:TMsg):TSaidS:=if m.1=4 then [] else if (saidPart m).2.1=[] then [] else if (saidPart m).2.2.any (· == id) then [((saidPart m).1,(saidPart m).2.1,id)] else []
theorem spec_SaidOf_eq (id:Int) (m:TMsg) (h:MsgW m):spec_SaidOf (id,m,())=some (saidOf id m,()):=by
 obtain⟨h1,h2,h3⟩:=h
 unfold spec_SaidOf saidOf saidPart
 simp only[spec_SetHas_eq _ _ (show m.2.2.1.2.2.2.length≤1152921504606846976 by omega),spec_SetHas_eq _ _ (show m.2.2.2.1.2.2.length≤1152921504606846976 by omega),spec_SetHas_eq _ _ (show m.2.2.2.2.1.2.2.length≤1152921504606846976 by omega),Option.bind_some]
 by_cases c2:m.1=2
 ·simp only[c2,if_true,show ¬ (2:Int)=4 by decide,if_false,show ((2:Int)==2)=true from rfl,show ((2:Int)==4)=false from rfl,cond_true,cond_false]
  by_cases e:m.2.2.2.1.2.1=[]
  ·simp[e]
  ·have:(m.2.2.2.1.2.1==[])=false:=by simp[e]
   simp only[this,e,cond_false,if_false]
   cases m.2.2.2.1.2.2.any (· == id)<;>simp
 ·by_cases c1:m.1=1
  ·simp only[c1,show ¬ (1:Int)=2 by decide,if_true,show ¬ (1:Int)=4 by decide,if_false,show ((1:Int)==2)=false from rfl,show ((1:Int)==1)=true from rfl,show ((1:Int)==4)=false from rfl,cond_true,cond_false]
   by_cases e:m.2.2.1.2.2.1=[]
   ·simp[e]
   ·have:(m.2.2.1.2.2.1==[])=false:=by simp[e]
    simp only[this,e,cond_false,if_false]
    cases m.2.2.1.2.2.2.any (· == id)<;>simp
  ·have e2:(m.1==2)=false:=by simp[c2]
   have e1:(m.1==1)=false:=by simp[c1]
   simp only[e2,e1,c2,c1,cond_false,if_false]
   by_cases c4:m.1=4
   ·simp[c4]
   ·have e4:(m.1==4)=false:=by simp[c4]
    simp only[e4,c4,cond_false,if_false]
    by_cases e:m.2.2.2.2.1.2.1=[]
    ·simp[e]
    ·have:(m.2.2.2.2.1.2.1==[])=false:=by simp[e]
     simp only[this,e,cond_false,if_false]
     cases m.2.2.2.2.1.2.2.any (· == id)<;>simp
theorem impl_SaidOf_eq (id:Int) (m:TMsg) (h:MsgW m):impl_SaidOf (id,m,())=some (saidOf id m,()):=by
 obtain⟨h1,h2,h3⟩:=h
 unfold impl_SaidOf saidOf saidPart
 simp only[impl_SetHas_eq _ _ (show m.2.2.1.2.2.2.length≤1152921504606846976 by omega),impl_SetHas_eq _ _ (show m.2.2.2.1.2.2.length≤1152921504606846976 by omega),impl_SetHas_eq _ _ (show m.2.2.2.2.1.2.2.length≤1152921504606846976 by omega),Option.bind_some]
 by_cases c4:m.1=4
 ·simp[c4]
 have e4:(m.1==4)=false:=by simp[c4]
 simp only[e4,c4,cond_false,if_false]
 by_cases c2:m.1=2
 ·simp only[c2,if_true,show ((2:Int)==2)=true from rfl,cond_true]
  by_cases e:m.2.2.2.1.2.1=[]
  ·simp[e]
  ·have:(m.2.2.2.1.2.1==[])=false:=by simp[e]
   simp only[this,e,cond_false,if_false]
   cases m.2.2.2.1.2.2.any (· == id)<;>simp
 ·have e2:(m.1==2)=false:=by simp[c2]
  simp only[e2,c2,cond_false,if_false]
  by_cases c1:m.1=1
  ·simp only[c1,if_true,show ((1:Int)==1)=true from rfl,cond_true]
   by_cases e:m.2.2.1.2.2.1=[]
   ·simp[e]
   ·have:(m.2.2.1.2.2.1==[])=false:=by simp[e]
    simp only[this,e,cond_false,if_false]
    cases m.2.2.1.2.2.2.any (· == id)<;>simp
  ·have e1:(m.1==1)=false:=by simp[c1]
   simp only[e1,c1,cond_false,if_false]
   by_cases e:m.2.2.2.2.1.2.1=[]
   ·simp[e]
   ·have:(m.2.2.2.2.1.2.1==[])=false:=by simp[e]
    simp only[this,e,cond_false,if_false]
    cases m.2.2.2.2.1.2.2.any (· == id)<;>simp
theorem saidOf_w (id:Int) (m:TMsg):wSaidS (saidOf id m)≤1+wMsg m:=by
 unfold saidOf saidPart
 repeat' split
 all_goals simp only[wSaidS,wSaid,wMsg,wBlock,wQc,wPart,wIntS,List.length_nil,List.map_nil,List.sum_nil,List.length_cons,List.map_cons,List.sum_cons]
 all_goals omega
theorem coll_loop {β R:Type} (p:Nat→Bool) (g:Nat→β) (n:Nat) (hn:n≤1152921504606846976) (k:List β→Option R) {G:(List β×Int×Unit→Option R)→List β×Int×Unit→Option R}
  (hend : ∀ rec out,G rec (out,(n:Int),())=k out)
  (hstep : ∀ rec (i:Nat) out,i<n→out.length≤i→G rec (out,(i:Int),())=rec (if p i=true then out++[g i] else out,(i:Int)+1,())) :
  iter G fuel ([],0,())=k (((List.range n).filter p).map g):=by
 have key : ∀ (m i:Nat) (out:List β),i≤n→n - i<m→out.length≤i→iter G m (out,(i:Int),())=k (out++((List.range' i (n - i)).filter p).map g):=by
  intro m
  induction m with
  | zero=>intro i out h1 h2 h3; omega
  | succ m ih=>
   intro i out h1 h2 h3
   rcases Nat.lt_or_ge i n with h|h
   ·have e1:iter G (m+1) (out,(i:Int),())=iter G m (if p i=true then out++[g i] else out,(i:Int)+1,()):=hstep (iter G m) i out h h3
    have e2:=ih (i+1) (if p i=true then out++[g i] else out) h (by omega) (by
     split
     ·simp only[List.length_append,List.length_cons,List.length_nil]; omega
     ·omega)
    rw[e1]
    refine Eq.trans (by rfl) (e2.trans ?_)
    have e3:n - i=(n - (i+1))+1:=by omega
    rw[e3,List.range'_succ]
    cases hp:p i<;>simp[hp]
   ·have hi:i=n:=by omega
    subst hi
    have e1:iter G (m+1) (out,(i:Int),())=k out:=hend (iter G m) out
    rw[e1]
    simp
 have:=key fuel 0 [] (Nat.zero_le _) (by have:=fuel_gt hn; omega) (by simp)
 simpa[List.range_eq_range'] using this
def honest (w:TWorld):List Int:=((List.range w.2.2.1.length).filter fun (i:Nat) => !(w.2.1.any (· == (i:Int)))).map fun (i:Nat)=>(i:Int)
theorem spec_Honest_eq (w:TWorld) (h1:w.2.1.length≤137438953472) (h2:w.2.2.1.length≤137438953472):spec_Honest (w,())=some (honest w,()):=by
 unfold spec_Honest honest
 refine coll_loop (fun (i:Nat) => !(w.2.1.any (· == (i:Int)))) (fun (i:Nat)=>(i:Int)) w.2.2.1.length (by omega) (fun out=>some (out,())) ?_ ?_
 ·intro rec out; simp
 ·intro rec i out hi ho
  have hg:((i:Int)<(w.2.2.1.length:Nat)):=by omega
  simp only[hg,decide_true,cond_true,spec_SetHas_eq _ _ (show w.2.1.length≤1152921504606846976 by omega),Option.bind_some,wr_nat (show i<4611686018427387904 by omega),List.length_cons,List.length_nil]
  rw[if_pos (by omega)]
  cases w.2.1.any (· == (i:Int))<;>simp
theorem impl_Honest_eq (w:TWorld) (h1:w.2.1.length≤137438953472) (h2:w.2.2.1.length≤137438953472):impl_Honest (w,())=some (honest w,()):=by
 unfold impl_Honest honest
 refine coll_loop (fun (i:Nat) => !(w.2.1.any (· == (i:Int)))) (fun (i:Nat)=>(i:Int)) w.2.2.1.length (by omega) (fun out=>some (out,())) ?_ ?_
 ·intro rec out; simp
 ·intro rec i out hi ho
  have hg:((i:Int)<(w.2.2.1.length:Nat)):=by omega
  simp only[hg,decide_true,cond_true,impl_SetHas_eq _ _ (show w.2.1.length≤1152921504606846976 by omega),Option.bind_some,wr_nat (show i<4611686018427387904 by omega),List.length_cons,List.length_nil]
  rw[if_pos (by omega)]
  cases w.2.1.any (· == (i:Int))<;>simp
theorem honest_len (w:TWorld):(honest w).length≤w.2.2.1.length:=by
 unfold honest
 rw[List.length_map]
 exact Nat.le_trans (List.length_filter_le _ _) (by simp)
end G448
namespace G448
open Ev
theorem fold_loop {α S St R:Type} (enc:Int→S→St) (l:List α) (f:S→α→S) (k:S→Option R) {G:(St→Option R)→St→Option R} (hl:l.length≤1152921504606846976) (I:Nat→S→Prop)
  (hend : ∀ rec s,I l.length s→G rec (enc (l.length:Int) s)=k s)
  (hstep : ∀ rec (i:Nat) s x,l[i]?=some x→i<l.length→I i s→I (i+1) (f s x)∧G rec (enc (i:Int) s)=rec (enc ((i:Int)+1) (f s x))) {s0:S} (h0:I 0 s0) :
  iter G fuel (enc 0 s0)=k (l.foldl f s0):=by
 have key : ∀ (m i:Nat) (s:S),i≤l.length→l.length - i<m→I i s→iter G m (enc (i:Int) s)=k ((l.drop i).foldl f s):=by
  intro m
  induction m with
  | zero=>intro i s h1 h2 h3; omega
  | succ m ih=>
   intro i s h1 h2 h3
   rcases Nat.lt_or_ge i l.length with h|h
   ·obtain⟨g1,g2⟩:=hstep (iter G m) i s l[i] (List.getElem?_eq_getElem h) h h3
    have e1:iter G (m+1) (enc (i:Int) s)=iter G m (enc ((i:Int)+1) (f s l[i])):=g2
    rw[e1,List.drop_eq_getElem_cons h,List.foldl_cons]
    exact ih (i+1) _ h (by omega) g1
   ·have hi:i=l.length:=by omega
    subst hi
    have e1:iter G (m+1) (enc (l.length:Int) s)=k s:=hend (iter G m) s h3
    rw[e1]; simp
 have:=key fuel 0 s0 (Nat.zero_le _) (by have:=fuel_gt hl; omega) h0
 simpa using this
theorem fold_inv {α S:Type} (l:List α) (f:S→α→S) (I:Nat→S→Prop) (hstep : ∀ (i:Nat) s x,l[i]?=some x→i<l.length→I i s→I (i+1) (f s x)) {s0:S} (h0:I 0 s0):I l.length (l.foldl f s0):=by
 have key : ∀ (n i:Nat) (s:S),l.length - i=n→i≤l.length→I i s→I l.length ((l.drop i).foldl f s):=by
  intro n
  induction n with
  | zero=>
       intro i s h1 h2 h3; have:i=l.length:=by omega
       subst this; simpa using h3
  | succ n ih=>
   intro i s h1 h2 h3
   have h:i<l.length:=by omega
   rw[List.drop_eq_getElem_cons h,List.foldl_cons]
   exact ih (i+1) _ (by omega) h (hstep i s l[i] (List.getElem?_eq_getElem h) h h3)
 simpa using key l.length 0 s0 (by simp) (Nat.zero_le _) h0
theorem foldl_snoc {α:Type} : ∀ (l out:List α),l.foldl (fun out x=>out++[x]) out=out++l
 | [],out=>by simp
 | x::l,out=>by rw[List.foldl_cons,foldl_snoc l]; simp
theorem copy_loop {α St R:Type} (enc:Int→List α→St) (l:List α) (k:List α→Option R) {G:(St→Option R)→St→Option R} (hl:l.length≤1152921504606846976)
  (hend : ∀ rec s,s.length=l.length→G rec (enc (l.length:Int) s)=k s)
  (hstep : ∀ rec (i:Nat) s x,l[i]?=some x→i<l.length→s.length=i→G rec (enc (i:Int) s)=rec (enc ((i:Int)+1) (s++[x]))) :
  iter G fuel (enc 0 [])=k l:=by
 have:=fold_loop enc l (fun out x=>out++[x]) k hl (fun i s=>s.length=i) hend (fun rec i s x hx hi h=>⟨by simp[h],hstep rec i s x hx hi h⟩) (s0:=[]) rfl
 rw[this,foldl_snoc]; simp
theorem spec_l7Copy_eq (x:TQc) (hw:wQc x≤137438953472):spec_l7Copy (x,())=some (x,()):=by
 unfold spec_l7Copy
 dsimp only
 have:x.2.2.length≤137438953472:=by simp only[wQc,wIntS] at hw; omega
 rw[if_pos (by omega)]; rfl
theorem spec_l10Copy_eq (x:TPart) (hw:wPart x≤137438953472):spec_l10Copy (x,())=some (x,()):=by
 unfold spec_l10Copy
 dsimp only
 have:x.2.2.length≤137438953472:=by simp only[wPart,wIntS] at hw; omega
 rw[if_pos (by omega)]; rfl
theorem spec_l11Copy_eq (x:TSafe) (hw:wSafe x≤137438953472):spec_l11Copy (x,())=some (x,()):=by
 unfold spec_l11Copy
 simp only[spec_l7Copy_eq x.2.2.1 (by simp only[wSafe] at hw; omega),Option.bind_some]
theorem spec_l8Copy_eq (x:TBlock) (hw:wBlock x≤137438953472):spec_l8Copy (x,())=some (x,()):=by
 unfold spec_l8Copy
 simp only[spec_l7Copy_eq x.2 (by simp only[wBlock] at hw; omega),Option.bind_some]
theorem spec_l14Copy_eq (x:TMsg) (hw:wMsg x≤137438953472):spec_l14Copy (x,())=some (x,()):=by
 unfold spec_l14Copy
 simp only[wMsg] at hw
 simp only[spec_l8Copy_eq x.2.2.1 (by omega),spec_l10Copy_eq x.2.2.2.1 (by omega),spec_l7Copy_eq x.2.2.2.2.1 (by omega),Option.bind_some]
theorem spec_l10Table_eq (x:TPartS) (hw:wPartS x≤137438953472):spec_l10Table (x,())=some (x,()):=by
 have hl:x.length≤137438953472:=by unfold wPartS at hw; omega
 unfold spec_l10Table
 refine copy_loop (fun i s=>(s,i,())) x (fun s=>some (s,())) (by omega) ?_ ?_
 ·intro rec s hs; simp
 ·intro rec i s y hx hi hs
  have hy:wPart y≤137438953472:=by have:=sum_mem wPart (List.mem_of_getElem? hx); unfold wPartS at hw; omega
  simp only[Int.toNat_natCast,ge_ok hi,decide_true,cond_true,if_true,and_self,rd_get (e:=(.pair .i64 (.pair .str (.sl 0 .i64)))) hx,spec_l10Copy_eq y hy,Option.bind_some,wr_nat (show i<4611686018427387904 by omega),List.length_cons,List.length_nil]
  rw[if_pos (by omega)]
theorem spec_l15Posts_eq (x:TPostS) (hw:wPostS x≤137438953472):spec_l15Posts (x,())=some (x,()):=by
 have hl:x.length≤137438953472:=by unfold wPostS at hw; omega
 unfold spec_l15Posts
 refine copy_loop (fun i s=>(s,i,())) x (fun s=>some (s,())) (by omega) ?_ ?_
 ·intro rec s hs; simp
 ·intro rec i s y hx hi hs
  have hy:wMsg y.2≤137438953472:=by have:=sum_mem wPost (List.mem_of_getElem? hx); simp only[wPost] at this; unfold wPostS at hw; omega
  simp only[Int.toNat_natCast,ge_ok hi,decide_true,cond_true,if_true,and_self,rd_get (e:=(.pair .i64 (.pair .i64 (.pair .i64 (.pair (.pair .str (.pair .i64 (.pair .str (.sl 0 .i64)))) (.pair (.pair .i64 (.pair .str (.sl 0 .i64))) (.pair (.pair .i64 (.pair .str (.sl 0 .i64))) (.pair .i64 (.pair .i64 (.pair .i64 (.pair .i64 .i64))))))))))) hx,spec_l14Copy_eq y.2 hy,Option.bind_some,wr_nat (show i<4611686018427387904 by omega),List.length_cons,List.length_nil]
  rw[if_pos (by omega)]
theorem spec_l15Copy_eq (x:TRep) (hw:wRep x≤137438953472):spec_l15Copy (x,())=some (x,()):=by
 unfold spec_l15Copy
 simp only[wRep,wTxS,wDisk] at hw
 simp only[spec_l11Copy_eq x.2.2.2.1 (by omega),spec_l10Table_eq x.2.2.2.2.2.1 (by omega),spec_l13Copy_eq x.2.2.2.2.2.2.1 (by omega),spec_l15Posts_eq x.2.2.2.2.2.2.2 (by omega),Option.bind_some]
 rw[if_pos (by omega)]; rfl
theorem impl_copyInts_eq (x:TIntS) (hw:x.length≤137438953472):impl_copyInts (x,())=some (x,()):=by
 unfold impl_copyInts
 dsimp only
 rw[if_pos (by omega)]
theorem impl_copyQc_eq (x:TQc) (hw:wQc x≤137438953472):impl_copyQc (x,())=some (x,()):=by
 unfold impl_copyQc
 simp only[impl_copyInts_eq x.2.2 (by simp only[wQc,wIntS] at hw; omega),Option.bind_some]
theorem impl_copyPart_eq (x:TPart) (hw:wPart x≤137438953472):impl_copyPart (x,())=some (x,()):=by
 unfold impl_copyPart
 simp only[impl_copyInts_eq x.2.2 (by simp only[wPart,wIntS] at hw; omega),Option.bind_some]
theorem impl_copySafe_eq (x:TSafe) (hw:wSafe x≤137438953472):impl_copySafe (x,())=some (x,()):=by
 unfold impl_copySafe
 simp only[impl_copyQc_eq x.2.2.1 (by simp only[wSafe] at hw; omega),Option.bind_some]
theorem impl_copyTxs_eq (x:TTxS) (hw:wTxS x≤137438953472):impl_copyTxs (x,())=some (x,()):=by
 unfold impl_copyTxs
 dsimp only
 simp only[wTxS] at hw
 rw[if_pos (by omega)]
theorem impl_copyBlock_eq (x:TBlock) (hw:wBlock x≤137438953472):impl_copyBlock (x,())=some (x,()):=by
 unfold impl_copyBlock
 simp only[impl_copyQc_eq x.2 (by simp only[wBlock] at hw; omega),Option.bind_some]
theorem impl_copyMsg_eq (x:TMsg) (hw:wMsg x≤137438953472):impl_copyMsg (x,())=some (x,()):=by
 unfold impl_copyMsg
 simp only[wMsg] at hw
 simp only[impl_copyBlock_eq x.2.2.1 (by omega),impl_copyPart_eq x.2.2.2.1 (by omega),impl_copyQc_eq x.2.2.2.2.1 (by omega),Option.bind_some]
theorem impl_copyTable_eq (x:TPartS) (hw:wPartS x≤137438953472):impl_copyTable (x,())=some (x,()):=by
 have hl:x.length≤137438953472:=by unfold wPartS at hw; omega
 unfold impl_copyTable
 refine copy_loop (fun i s=>(s,i,())) x (fun s=>some (s,())) (by omega) ?_ ?_
 ·intro rec s hs; simp
 ·intro rec i s y hx hi hs
  have hy:wPart y≤137438953472:=by have:=sum_mem wPart (List.mem_of_getElem? hx); unfold wPartS at hw; omega
  simp only[Int.toNat_natCast,ge_ok hi,decide_true,cond_true,if_true,and_self,rd_get (e:=(.pair .i64 (.pair .str (.sl 0 .i64)))) hx,impl_copyPart_eq y hy,Option.bind_some,wr_nat (show i<4611686018427387904 by omega),List.length_cons,List.length_nil]
  rw[if_pos (by omega)]
theorem impl_copyPosts_eq (x:TPostS) (hw:wPostS x≤137438953472):impl_copyPosts (x,())=some (x,()):=by
 have hl:x.length≤137438953472:=by unfold wPostS at hw; omega
 unfold impl_copyPosts
 refine copy_loop (fun i s=>(s,i,())) x (fun s=>some (s,())) (by omega) ?_ ?_
 ·intro rec s hs; simp
 ·intro rec i s y hx hi hs
  have hy:wMsg y.2≤137438953472:=by have:=sum_mem wPost (List.mem_of_getElem? hx); simp only[wPost] at this; unfold wPostS at hw; omega
  simp only[Int.toNat_natCast,ge_ok hi,decide_true,cond_true,if_true,and_self,rd_get (e:=(.pair .i64 (.pair .i64 (.pair .i64 (.pair (.pair .str (.pair .i64 (.pair .str (.sl 0 .i64)))) (.pair (.pair .i64 (.pair .str (.sl 0 .i64))) (.pair (.pair .i64 (.pair .str (.sl 0 .i64))) (.pair .i64 (.pair .i64 (.pair .i64 (.pair .i64 .i64))))))))))) hx,impl_copyMsg_eq y.2 hy,Option.bind_some,wr_nat (show i<4611686018427387904 by omega),List.length_cons,List.length_nil]
  rw[if_pos (by omega)]
theorem impl_copyRep_eq (x:TRep) (hw:wRep x≤137438953472):impl_copyRep (x,())=some (x,()):=by
 unfold impl_copyRep
 simp only[wRep] at hw
 have h5:x.2.2.2.2.2.2.1.1.length≤137438953472:=by simp only[wDisk] at hw; omega
 simp only[impl_copySafe_eq x.2.2.2.1 (by omega),impl_copyTxs_eq x.2.2.2.2.1 (by omega),impl_copyTable_eq x.2.2.2.2.2.1 (by omega),impl_copyDisk_eq x.2.2.2.2.2.2.1 (by omega),impl_copyPosts_eq x.2.2.2.2.2.2.2 (by omega),Option.bind_some]
theorem impl_copyWire_eq (x:TWire) (hw:wWire x≤137438953472):impl_copyWire (x,())=some (x,()):=by
 unfold impl_copyWire
 dsimp only
 simp only[wWire,wByteS] at hw
 rw[if_pos (by omega)]
theorem spec_l19Copy_eq (w:TWorld) (hw:wWorld w≤137438953472):spec_l19Copy (w,())=some (w,()):=by
 have hr:wRepS w.2.2.1≤137438953472:=by simp only[wWorld] at hw; omega
 have hs:wWireS w.2.2.2.1≤137438953472:=by simp only[wWorld] at hw; omega
 have h1:w.2.1.length≤137438953472:=by simp only[wWorld,wIntS] at hw; omega
 have h2:w.2.2.2.2.length≤137438953472:=by simp only[wWorld,wSaidS] at hw; omega
 have h3:w.2.2.1.length≤137438953472:=by unfold wRepS at hr; omega
 have h4:w.2.2.2.1.length≤137438953472:=by unfold wWireS at hs; omega
 unfold spec_l19Copy
 dsimp only
 rw[if_pos (by omega),if_pos (by omega)]
 refine (copy_loop (fun i (s:TRepS)=>(i,(w.1,[]++w.2.1,s,[],[]++w.2.2.2.2),())) w.2.2.1 (fun s=>some ((w.1,[]++w.2.1,s,w.2.2.2.1,[]++w.2.2.2.2),())) (by omega) ?_ ?_).trans (by simp)
 ·intro rec s hs'
  simp only[Int.lt_irrefl,decide_false,cond_false]
  refine copy_loop (fun i (t:TWireS)=>(i,(w.1,[]++w.2.1,s,t,[]++w.2.2.2.2),())) w.2.2.2.1 (fun t=>some ((w.1,[]++w.2.1,s,t,[]++w.2.2.2.2),())) (by omega) ?_ ?_
  ·intro rec t ht; simp
  ·intro rec i t y hx hi ht
   have hy:wWire y≤137438953472:=by have:=sum_mem wWire (List.mem_of_getElem? hx); unfold wWireS at hs; omega
   simp only[wWire,wByteS] at hy
   simp only[Int.toNat_natCast,ge_ok hi,decide_true,cond_true,if_true,and_self,rd_get (e:=(.pair .i64 (.sl 0 .u8))) hx,wr_nat (show i<4611686018427387904 by omega),List.length_cons,List.length_nil]
   rw[if_pos (by omega),if_pos (by omega)]
   rfl
 ·intro rec i s y hx hi hs'
  have hy:wRep y≤137438953472:=by have:=sum_mem wRep (List.mem_of_getElem? hx); unfold wRepS at hr; omega
  simp only[Int.toNat_natCast,ge_ok hi,decide_true,cond_true,if_true,and_self,rd_get (e:=(.pair .i64 (.pair .i64 (.pair .i64 (.pair (.pair .i64 (.pair .i64 (.pair (.pair .i64 (.pair .str (.sl 0 .i64))) .str))) (.pair (.sl 0 (.pair .i64 (.pair .i64 (.pair .i64 .i64)))) (.pair (.sl 0 (.pair .i64 (.pair .str (.sl 0 .i64)))) (.pair (.pair (.sl 0 .u8) .i64) (.sl 0 (.pair .i64 (.pair .i64 (.pair .i64 (.pair (.pair .str (.pair .i64 (.pair .str (.sl 0 .i64)))) (.pair (.pair .i64 (.pair .str (.sl 0 .i64))) (.pair (.pair .i64 (.pair .str (.sl 0 .i64))) (.pair .i64 (.pair .i64 (.pair .i64 (.pair .i64 .i64))))))))))))))))))) hx,spec_l15Copy_eq y hy,Option.bind_some,wr_nat (show i<4611686018427387904 by omega),List.length_cons,List.length_nil]
  rw[if_pos (by omega)]
theorem impl_copyWorld_eq (w:TWorld) (hw:wWorld w≤137438953472):impl_copyWorld (w,())=some (w,()):=by
 have hr:wRepS w.2.2.1≤137438953472:=by simp only[wWorld] at hw; omega
 have hs:wWireS w.2.2.2.1≤137438953472:=by simp only[wWorld] at hw; omega
 have h1:w.2.1.length≤137438953472:=by simp only[wWorld,wIntS] at hw; omega
 have h2:w.2.2.2.2.length≤137438953472:=by simp only[wWorld,wSaidS] at hw; omega
 have h3:w.2.2.1.length≤137438953472:=by unfold wRepS at hr; omega
 have h4:w.2.2.2.1.length≤137438953472:=by unfold wWireS at hs; omega
 unfold impl_copyWorld
 simp only[impl_copyInts_eq w.2.1 h1,Option.bind_some]
 rw[if_pos (by omega)]
 refine (copy_loop (fun i (s:TRepS)=>(i,(w.1,w.2.1,s,[],w.2.2.2.2),())) w.2.2.1 (fun s=>some ((w.1,w.2.1,s,w.2.2.2.1,w.2.2.2.2),())) (by omega) ?_ ?_).trans (by simp)
 ·intro rec s hs'
  simp only[Int.lt_irrefl,decide_false,cond_false]
  refine copy_loop (fun i (t:TWireS)=>(i,(w.1,w.2.1,s,t,w.2.2.2.2),())) w.2.2.2.1 (fun t=>some ((w.1,w.2.1,s,t,w.2.2.2.2),())) (by omega) ?_ ?_
  ·intro rec t ht; simp
  ·intro rec i t y hx hi ht
   have hy:wWire y≤137438953472:=by have:=sum_mem wWire (List.mem_of_getElem? hx); unfold wWireS at hs; omega
   simp only[Int.toNat_natCast,ge_ok hi,decide_true,cond_true,if_true,and_self,rd_get (e:=(.pair .i64 (.sl 0 .u8))) hx,impl_copyWire_eq y hy,Option.bind_some,wr_nat (show i<4611686018427387904 by omega),List.length_cons,List.length_nil]
   rw[if_pos (by omega)]
 ·intro rec i s y hx hi hs'
  have hy:wRep y≤137438953472:=by have:=sum_mem wRep (List.mem_of_getElem? hx); unfold wRepS at hr; omega
  simp only[Int.toNat_natCast,ge_ok hi,decide_true,cond_true,if_true,and_self,rd_get (e:=(.pair .i64 (.pair .i64 (.pair .i64 (.pair (.pair .i64 (.pair .i64 (.pair (.pair .i64 (.pair .str (.sl 0 .i64))) .str))) (.pair (.sl 0 (.pair .i64 (.pair .i64 (.pair .i64 .i64)))) (.pair (.sl 0 (.pair .i64 (.pair .str (.sl 0 .i64)))) (.pair (.pair (.sl 0 .u8) .i64) (.sl 0 (.pair .i64 (.pair .i64 (.pair .i64 (.pair (.pair .str (.pair .i64 (.pair .str (.sl 0 .i64)))) (.pair (.pair .i64 (.pair .str (.sl 0 .i64))) (.pair (.pair .i64 (.pair .str (.sl 0 .i64))) (.pair .i64 (.pair .i64 (.pair .i64 (.pair .i64 .i64))))))))))))))))))) hx,impl_copyRep_eq y hy,Option.bind_some,wr_nat (show i<4611686018427387904 by omega),List.length_cons,List.length_nil]
  rw[if_pos (by omega)]
end G448
namespace G448
open Ev Go
theorem walkFrom {S X R:Type} (n:Nat) {G:(X→Option R)→X→Option R} (mk:Int→S→X) (I:Nat→S→Prop) (f:Nat→S→Option R) (hn:n≤1152921504606846976)
  (hend : ∀ rec s,I n s→G rec (mk (n:Int) s)=f n s)
  (hstep : ∀ rec (i:Nat) s,i<n→I i s→(G rec (mk (i:Int) s)=f i s) ∨ ∃ s',I (i+1) s'∧G rec (mk (i:Int) s)=rec (mk ((i:Int)+1) s')∧f i s=f (i+1) s') {s0:S} (i0:Nat) (hi0:i0≤n) (h0:I i0 s0) :
  iter G fuel (mk (i0:Int) s0)=f i0 s0:=by
 have key : ∀ (m i:Nat) (s:S),i≤n→n - i<m→I i s→iter G m (mk (i:Int) s)=f i s:=by
  intro m
  induction m with
  | zero=>intro i s h1 h2 h3; omega
  | succ m ih=>
   intro i s h1 h2 h3
   rcases Nat.lt_or_ge i n with h|h
   ·rcases hstep (iter G m) i s h h3 with g|⟨s',g1,g2,g3⟩
    ·exact g
    ·rw[g3]
     have e1:iter G (m+1) (mk (i:Int) s)=iter G m (mk ((i:Int)+1) s'):=g2
     rw[e1]
     exact ih (i+1) s' h (by omega) g1
   ·have hi:i=n:=by omega
    subst hi
    exact hend (iter G m) s h3
 exact key fuel i0 s0 hi0 (by have:=fuel_gt hn; omega) h0
theorem walk {S X R:Type} (n:Nat) {G:(X→Option R)→X→Option R} (mk:Int→S→X) (I:Nat→S→Prop) (f:Nat→S→Option R) (hn:n≤1152921504606846976)
  (hend : ∀ rec s,I n s→G rec (mk (n:Int) s)=f n s)
  (hstep : ∀ rec (i:Nat) s,i<n→I i s→(G rec (mk (i:Int) s)=f i s) ∨ ∃ s',I (i+1) s'∧G rec (mk (i:Int) s)=rec (mk ((i:Int)+1) s')∧f i s=f (i+1) s') {s0:S} (h0:I 0 s0) :
  iter G fuel (mk 0 s0)=f 0 s0:=walkFrom n mk I f hn hend hstep 0 (Nat.zero_le _) h0
def glue (u:List UInt8):List (List UInt8)→List (List UInt8)
 | p::r=>(u++p)::r
 | []=>[u]
def pieces (c:UInt8):List UInt8→List (List UInt8)
 | []=>[[]]
 | x::l=>if x=c then []::pieces c l else glue [x] (pieces c l)
theorem pieces_ne (c:UInt8) : ∀ s,pieces c s≠[]
 | []=>by simp[pieces]
 | x::l=>by
  simp only[pieces]
  split
  ·simp
  ·cases pieces c l<;>simp[glue]
theorem glue_glue (u v:List UInt8) {l:List (List UInt8)} (h:l≠[]):glue u (glue v l)=glue (u++v) l:=by
 cases l with
 | nil=>exact absurd rfl h
 | cons p r=>simp[glue]
theorem glue_nil {l:List (List UInt8)} (h:l≠[]):glue [] l=l:=by
 cases l with
 | nil=>exact absurd rfl h
 | cons p r=>simp[glue]
theorem pieces_len (c:UInt8) : ∀ s,(pieces c s).length≤s.length+1
 | []=>by simp[pieces]
 | x::l=>by
  have:=pieces_len c l
  simp only[pieces]
  split
  ·simp; omega
  ·cases hp:pieces c l with
   | nil=>simp[glue]
   | cons p r=>rw[hp] at this; simp[glue] at this ⊢; omega
def cutAt (c:UInt8):List UInt8→Option (List UInt8×List UInt8)
 | []=>none
 | x::l=>if x=c then some ([],l) else (cutAt c l).map fun p=>(x::p.1,p.2)
theorem cutAt_len (c:UInt8) : ∀ {s p q},cutAt c s=some (p,q)→p.length+q.length+1=s.length∧s=p++c::q
 | [],p,q,h=>by cases h
 | x::l,p,q,h=>by
  simp only[cutAt] at h
  split at h
  ·next e=>cases h; subst e; simp
  ·obtain⟨⟨p',q'⟩,h1,h2⟩:=Option.map_eq_some_iff.1 h
   cases h2
   obtain⟨g1,g2⟩:=cutAt_len c h1
   exact⟨by simp; omega,by rw[g2]; simp⟩
theorem getD_get {s:List UInt8} {i:Nat} {x:UInt8} (h:s[i]?=some x):s.getD i 0=x:=by rw[List.getD_eq_getElem?_getD,h]; rfl
theorem slice_grow {s:List UInt8} {start i:Nat} (h:start≤i) (hi:i<s.length):(s.drop start).take (i+1 - start)=(s.drop start).take (i - start)++[s[i]]:=by
 rw[show i+1 - start=(i - start)+1 by omega,List.take_add_one]
 congr 1
 rw[List.getElem?_drop,show start+(i - start)=i by omega,List.getElem?_eq_getElem hi]; rfl
theorem spec_Split_eq (s:List UInt8) (c:UInt8) (hs:s.length≤137438953472):spec_Split (s,c,())=some (pieces c s,()):=by
 unfold spec_Split
 dsimp only
 refine (walk (s.length+1) (fun i (t:List (List UInt8)×Nat)=>(t.1,(t.2:Int),i,())) (fun i t=>t.2≤i∧t.1.length≤i)
  (fun i t=>some (if i≤s.length then t.1++glue ((s.drop t.2).take (i - t.2)) (pieces c (s.drop i)) else t.1,())) (by omega) ?_ ?_ (s0:=([],0)) ⟨Nat.le_refl _,Nat.zero_le _⟩).trans ?_
 ·intro rec t ht
  have : ¬ (((s.length+1:Nat):Int)≤(s.length:Int)):=by omega
  simp only[this,decide_false,cond_false]
  rw[if_neg (by omega)]
 ·intro rec i t hi ht
  right
  obtain⟨h1,h2⟩:=ht
  have g:((i:Int)≤(s.length:Int)):=by omega
  by_cases he:i=s.length
  ·subst he
   refine⟨(t.1++[(s.drop t.2).take (s.length - t.2)],s.length+1),⟨Nat.le_refl _,by simp; omega⟩,?_,?_⟩
   ·simp only[g,decide_true,cond_true,beq_self_eq_true,Int.toNat_natCast,wr_nat (show s.length<4611686018427387904 by omega),List.length_cons,List.length_nil]
    rw[if_pos (by first|omega|(simp only[true_and,and_true]; omega)),if_pos (by first|omega|(simp only[true_and,and_true]; omega))]
    rfl
   ·rw[if_pos (Nat.le_refl _),if_neg (by omega)]; simp[pieces,glue]
  ·have hlt:i<s.length:=by omega
   have hx:s[i]?=some s[i]:=List.getElem?_eq_getElem hlt
   have e1:((i:Int)==(s.length:Int))=false:=by simp; omega
   have g2:(0:Int)≤(i:Int)∧(i:Int)<(s.length:Int):=by omega
   simp only[g,decide_true,cond_true,e1,cond_false,g2,and_self,if_true,Int.toNat_natCast,getD_get hx,wr_nat (show i<4611686018427387904 by omega),List.length_cons,List.length_nil]
   by_cases hc:s[i]=c
   ·refine⟨(t.1++[(s.drop t.2).take (i - t.2)],i+1),⟨Nat.le_refl _,by simp; omega⟩,?_,?_⟩
    ·have:(s[i]==c)=true:=by simp[hc]
     simp only[this,cond_true]
     rw[if_pos (by first|omega|(simp only[true_and,and_true]; omega)),if_pos (by first|omega|(simp only[true_and,and_true]; omega))]
     rfl
    ·rw[if_pos (by omega),if_pos (by omega),List.drop_eq_getElem_cons hlt,pieces,if_pos hc]
     simp only[Nat.sub_self,List.take_zero,glue_nil (pieces_ne _ _)]
     simp[glue]
   ·refine⟨t,⟨by omega,by omega⟩,?_,?_⟩
    ·have:(s[i]==c)=false:=by simp[hc]
     simp only[this,cond_false]
    ·rw[if_pos (by omega),if_pos (by omega),slice_grow h1 hlt,List.drop_eq_getElem_cons hlt,pieces,if_neg hc,glue_glue _ _ (pieces_ne _ _)]
 ·simp[glue_nil (pieces_ne _ _)]
theorem spec_l2Cut_eq (s:List UInt8) (c:UInt8) (hs:s.length≤137438953472) :
  spec_l2Cut (s,c,())=match cutAt c s with|some p=>some (p.1,p.2,true,())|none=>some ([],[],false,()):=by
 unfold spec_l2Cut
 dsimp only
 refine (walk s.length (fun i (_:Unit)=>(i,())) (fun _ _=>True) (fun i _=>match cutAt c (s.drop i) with|some p=>some (s.take i++p.1,p.2,true,())|none=>some ([],[],false,())) (by omega) ?_ ?_ (s0:=()) trivial).trans ?_
 ·intro rec t ht
  simp[cutAt]
 ·intro rec i t hi ht
  have hx:s[i]?=some s[i]:=List.getElem?_eq_getElem hi
  simp only[ge_ok hi,decide_true,cond_true,and_self,if_true,Int.toNat_natCast,getD_get hx,wr_nat (show i<4611686018427387904 by omega)]
  rw[List.drop_eq_getElem_cons hi]
  by_cases hc:s[i]=c
  ·left
   have:(s[i]==c)=true:=by simp[hc]
   simp only[this,cond_true]
   rw[if_pos (by first|omega|(simp only[true_and,and_true]; omega)),if_pos (by first|omega|(simp only[true_and,and_true]; omega))]
   simp only[cutAt,if_pos hc]
   congr 2
   ·simp
   ·congr 1
    have:(((i:Int)+1).toNat)=i+1:=by omega
    rw[this,List.take_of_length_le (by simp)]
  ·right
   have:(s[i]==c)=false:=by simp[hc]
   refine⟨(),trivial,by simp only[this,cond_false],?_⟩
   simp only[cutAt,if_neg hc]
   rw[List.take_add_one,hx]
   cases cutAt c (s.drop (i+1)) with
   | none=>rfl
   | some p=>simp only[Option.map_some,Option.toList_some,List.append_assoc,List.singleton_append]
 ·simp
end G448
namespace G448
open Ev Go
theorem spec_in_eq (x lo hi:Int):spec_l1In (x,lo,hi,())=some (decide (x≥lo) && decide (x≤hi),()):=by
 unfold spec_l1In
 by_cases h:x≥lo<;>simp[h]
theorem toB_digit (u:Nat):toB (48+((u % 10:Nat):Int))=UInt8.ofNat (48+u % 10):=by
 rw[toB_def]
 congr 1
 omega
theorem spec_Digits_nat (u:Nat) (h:u≤9223372036854775807):spec_Digits ((u:Int),())=some (Lib.decDigits u,()):=by
 unfold spec_Digits
 dsimp only
 by_cases h0:u=0
 ·subst h0
  have:Lib.decDigits 0=[48]:=by rw[Lib.decDigits]; rfl
  rw[this]
  rfl
 have e0:((u:Int)==0)=false:=by simp; omega
 have en : ¬ ((u:Int)<0):=by omega
 simp only[e0,cond_false,en,decide_false]
 refine (iter_eq (fun x:Int×List UInt8×Unit=>some ((if x.1=0 then [] else Lib.decDigits x.1.toNat)++x.2.1,())) (fun x=>x.1.toNat)
  (fun x=>0≤x.1∧x.1≤9223372036854775807 ∧ ∃ k,x.1.toNat<10 ^ k∧k+x.2.1.length≤20) ?_ fuel ((u:Int),[],()) ⟨by simp,by simp only; omega,20,by
   simp only[Int.toNat_natCast]
   exact Nat.lt_of_le_of_lt h (by decide),by simp⟩ (by simp only[Int.toNat_natCast,fuel_def]; omega)).trans ?_
 ·rintro rec ⟨v,out,⟨⟩⟩ ⟨h1,hbig,k,h2,h3⟩ hrec
  obtain⟨n,rfl⟩ : ∃ n:Nat,v=(n:Int):=⟨v.toNat,by simp only at h1; omega⟩
  simp only[Int.toNat_natCast] at h2
  by_cases hn:n=0
  ·subst hn
   simp
  have e1:((n:Int) != 0)=true:=by simp; omega
  have e2:Int.tmod (n:Int) 10=((n % 10:Nat):Int):=by simp[Int.tmod]
  have e3:Int.tdiv (n:Int) 10=((n / 10:Nat):Int):=by simp[Int.tdiv]
  have e4 : ¬ (((n % 10:Nat):Int)<0):=by omega
  simp only at hbig h3
  have hk:1≤k:=by
   rcases Nat.eq_zero_or_pos k with h'|h'
   ·subst h'; simp at h2; omega
   ·exact h'
  simp only[e1,cond_true,e2,e3,e4,decide_false,cond_false]
  rw[wr_id' (show (-9223372036854775808:Int)≤48+((n % 10:Nat):Int) by omega) (show 48+((n % 10:Nat):Int)≤9223372036854775807 by omega),toB_digit,
   wr_id' (show (-9223372036854775808:Int)≤((n / 10:Nat):Int) by omega) (show ((n / 10:Nat):Int)≤9223372036854775807 by omega)]
  rw[if_pos (by simp only[List.length_cons,List.length_nil]; omega)]
  rw[hrec (((n / 10:Nat):Int),[UInt8.ofNat (48+n % 10)]++out,()) ⟨by simp only; omega,by simp only; omega,k - 1,by
   simp only[Int.toNat_natCast]
   have:10 ^ k=10 ^ (k - 1)*10:=by rw[←Nat.pow_succ]; congr 1; omega
   omega,by simp only[List.length_append,List.length_cons,List.length_nil]; omega⟩ (by simp only[Int.toNat_natCast]; omega)]
  simp only[Int.toNat_natCast]
  rw[if_neg (show ¬ ((n:Int)=0) by omega)]
  by_cases h10:n<10
  ·have:n / 10=0:=by omega
   rw[this,if_pos (by rfl),Lib.decDigits,dif_pos h10]
   have:n % 10=n:=by omega
   rw[this]; rfl
  ·rw[if_neg (by omega)]
   conv=>rhs; rw[Lib.decDigits,dif_neg h10]
   simp
 ·simp only[Int.toNat_natCast]
  rw[if_neg (by omega)]; simp
def isD (b:UInt8):Bool := !(decide (b<UInt8.ofNat 48)) && !(decide (b>UInt8.ofNat 57))
def numV (l:List UInt8) (v:Nat):Nat:=l.foldl (fun v b=>10*v+(b.toNat - 48)) v
def number (s:List UInt8):Int×Bool:=
 if 1≤s.length∧s.length≤6∧s.all isD=true∧Lib.decDigits (numV s 0)=s then ((numV s 0:Nat),true) else (0,false)
theorem isD_iff (b:UInt8):isD b=true↔48≤b.toNat∧b.toNat≤57:=by
 unfold isD
 simp only[Bool.and_eq_true,Bool.not_eq_true',decide_eq_false_iff_not,UInt8.lt_iff_toNat_lt,gt_iff_lt]
 simp
theorem pow_room {i:Nat} (h:i≤6):10 ^ i≤1000000:=Nat.pow_le_pow_right (n:=10) (by decide) h
theorem number_walk {dig:Int×Unit→Option (List UInt8×Unit)} (hd : ∀ u:Nat,u≤9223372036854775807→dig ((u:Int),())=some (Lib.decDigits u,())) (s:List UInt8) (h6:s.length≤6) {G:(Int×Int×Unit→Option (Int×Bool×Unit))→Int×Int×Unit→Option (Int×Bool×Unit)}
  (hend : ∀ rec (v:Int),G rec (v,(s.length:Int),())=(dig (v,())).bind fun r1=>bif r1.1 != s then some (0,false,()) else some (v,true,()))
  (hstep : ∀ rec (i v:Nat) (b:UInt8),s[i]?=some b→i<s.length→v<10 ^ i→G rec ((v:Int),(i:Int),())=if isD b=true then rec (((10*v+(b.toNat - 48):Nat):Int),(i:Int)+1,()) else some (0,false,())) :
  iter G fuel (0,0,())=some (if s.all isD=true∧Lib.decDigits (numV s 0)=s then (((numV s 0:Nat):Int),true,()) else (0,false,())):=by
 refine (walk s.length (fun i (v:Nat)=>((v:Int),i,())) (fun i v=>v<10 ^ i)
  (fun i v=>some (if (s.drop i).all isD=true∧Lib.decDigits (numV (s.drop i) v)=s then (((numV (s.drop i) v:Nat):Int),true,()) else (0,false,()))) (by omega) ?_ ?_ (s0:=0) (by decide)).trans (by simp)
 ·intro rec v hv
  have:=pow_room h6
  rw[hend,hd v (by omega)]
  simp only[Option.bind_some,List.drop_length,List.all_nil,numV,List.foldl_nil,true_and]
  by_cases e:Lib.decDigits v=s
  ·have:(Lib.decDigits v != s)=false:=by simp[e]
   rw[if_pos e,this]; rfl
  ·have:(Lib.decDigits v != s)=true:=by simp[e]
   rw[if_neg e,this]; rfl
 ·intro rec i v hi hv
  have hx:s[i]?=some s[i]:=List.getElem?_eq_getElem hi
  rw[hstep rec i v s[i] hx hi hv,List.drop_eq_getElem_cons hi]
  by_cases hb:isD s[i]=true
  ·right
   refine⟨10*v+(s[i].toNat - 48),?_,by rw[if_pos hb],?_⟩
   ·have:=(isD_iff _).1 hb
    rw[Nat.pow_succ]; omega
   ·have e:numV (s[i]::List.drop (i+1) s) v=numV (List.drop (i+1) s) (10*v+(s[i].toNat - 48)):=rfl
    rw[List.all_cons,hb,Bool.true_and,e]
  ·left
   rw[if_neg hb,if_neg (fun h=>hb (by have:=h.1; rw[List.all_cons,Bool.and_eq_true] at this; exact this.1))]
theorem cond_isD {α:Type} (b:UInt8) (x y:α):(bif decide (b<UInt8.ofNat (Int.toNat 48)) then y else bif decide (b>UInt8.ofNat (Int.toNat 57)) then y else x)=if isD b=true then x else y:=by
 unfold isD
 simp only[show Int.toNat 48=48 from rfl,show Int.toNat 57=57 from rfl]
 cases decide (b<UInt8.ofNat 48)<;>cases decide (b>UInt8.ofNat 57)<;>simp
theorem number_short (s:List UInt8) (h : ¬ (1≤s.length∧s.length≤6)):number s=(0,false):=by
 unfold number
 rw[if_neg (fun hh=>h ⟨hh.1,hh.2.1⟩)]
theorem number_fit (s:List UInt8) (h:1≤s.length∧s.length≤6) :
  (some (if s.all isD=true∧Lib.decDigits (numV s 0)=s then (((numV s 0:Nat):Int),true,()) else (0,false,())):Option (Int×Bool×Unit))=some ((number s).1,(number s).2,()):=by
 unfold number
 by_cases hc:s.all isD=true∧Lib.decDigits (numV s 0)=s
 ·rw[if_pos hc,if_pos ⟨h.1,h.2,hc⟩]
 ·rw[if_neg hc,if_neg (fun hh=>hc hh.2.2)]
theorem spec_Number_eq (s:List UInt8):spec_Number (s,())=some ((number s).1,(number s).2,()):=by
 unfold spec_Number
 dsimp only
 by_cases h1:(s.length:Int)<1
 ·rw[number_short s (by omega)]; simp only[h1,decide_true,cond_true]
 by_cases h6:(s.length:Int)>6
 ·rw[number_short s (by omega)]; simp only[h1,decide_false,cond_false,h6,decide_true,cond_true]
 simp only[h1,decide_false,cond_false,h6]
 refine (number_walk (dig:=spec_Digits) spec_Digits_nat s (by omega) ?_ ?_).trans (number_fit s (by omega))
 ·intro rec v; simp
 ·intro rec i v b hx hi hv
  have hp:=pow_room (i:=i) (by omega)
  simp only[ge_ok hi,decide_true,cond_true,and_self,if_true,Int.toNat_natCast,getD_get hx,wr_nat (show i<4611686018427387904 by omega)]
  rw[cond_isD]
  by_cases hb:isD b=true
  ·have:=(isD_iff _).1 hb
   rw[if_pos hb,if_pos hb,wr_id' (n:=10*(v:Int)) (by omega) (by omega),wr_id' (n:=10*(v:Int)+_) (by omega) (by omega),wr_id' (by omega) (by omega)]
   congr 2
   omega
  ·rw[if_neg hb,if_neg hb]
theorem decDigits_len (u:Nat) (h:u<1000000):1≤(Lib.decDigits u).length∧(Lib.decDigits u).length≤6:=by
 rw[Lib.decDigits_length]
 refine⟨Lib.nDigits_pos u,?_⟩
 have key : ∀ k u:Nat,u<10 ^ (k+1)→Lib.nDigits u≤k+1:=by
  intro k
  induction k with
  | zero=>intro u h; rw[Lib.nDigits_small (by simpa using h)]; exact Nat.le_refl _
  | succ k ih=>
   intro u h
   by_cases hu:u<10
   ·rw[Lib.nDigits_small hu]; omega
   ·rw[Lib.nDigits_big hu]
    have:=ih (u / 10) (by rw[Nat.pow_succ] at h; omega)
    omega
 exact key 5 u (by simpa using h)
end G448
namespace G448
open Ev Go
def txOk (t:TTx):Bool:=(decide (t.1≥0) && decide (t.1≤3)) && ((decide (t.2.1≥0) && decide (t.2.1≤3)) && ((decide (t.2.2.1≥0) && decide (t.2.2.1≤1000)) && (decide (t.2.2.2≥0) && decide (t.2.2.2≤99))))
theorem txOk_iff (t:TTx):txOk t=true↔(0≤t.1∧t.1≤3)∧(0≤t.2.1∧t.2.1≤3)∧(0≤t.2.2.1∧t.2.2.1≤1000)∧(0≤t.2.2.2∧t.2.2.2≤99):=by
 unfold txOk; simp only[Bool.and_eq_true,decide_eq_true_eq,ge_iff_le]
theorem spec_TxOk_eq (t:TTx):spec_TxOk (t,())=some (txOk t,()):=by
 unfold spec_TxOk txOk
 simp only[spec_in_eq,Option.bind_some]
 cases (decide (t.1≥0) && decide (t.1≤3))<;>cases (decide (t.2.1≥0) && decide (t.2.1≤3))<;>cases (decide (t.2.2.1≥0) && decide (t.2.2.1≤1000))<;>rfl
def txText (t:TTx):List UInt8:=
 if txOk t=true then (((((Lib.decDigits t.1.toNat++[62])++Lib.decDigits t.2.1.toNat)++[58])++Lib.decDigits t.2.2.1.toNat)++[35])++Lib.decDigits t.2.2.2.toNat else []
theorem dl (u:Nat) (h:u<1000000):(Lib.decDigits u).length≤6:=(decDigits_len u h).2
theorem txText_len (t:TTx):(txText t).length≤27:=by
 unfold txText
 split
 ·next h=>
  have:=(txOk_iff t).1 h
  have h1:=dl t.1.toNat (by omega)
  have h2:=dl t.2.1.toNat (by omega)
  have h3:=dl t.2.2.1.toNat (by omega)
  have h4:=dl t.2.2.2.toNat (by omega)
  simp only[List.length_append,List.length_cons,List.length_nil]
  omega
 ·simp
theorem spec_TxText_eq (t:TTx):spec_TxText (t,())=some (txText t,()):=by
 unfold spec_TxText txText
 simp only[spec_TxOk_eq,Option.bind_some]
 by_cases h:txOk t=true
 ·have hh:=(txOk_iff t).1 h
  have d1:=spec_Digits_nat t.1.toNat (by omega)
  have d2:=spec_Digits_nat t.2.1.toNat (by omega)
  have d3:=spec_Digits_nat t.2.2.1.toNat (by omega)
  have d4:=spec_Digits_nat t.2.2.2.toNat (by omega)
  rw[Int.toNat_of_nonneg (by omega)] at d1 d2 d3 d4
  have h1:=dl t.1.toNat (by omega)
  have h2:=dl t.2.1.toNat (by omega)
  have h3:=dl t.2.2.1.toNat (by omega)
  have h4:=dl t.2.2.2.toNat (by omega)
  simp only[h,Bool.not_true,cond_false,d1,d2,d3,d4,Option.bind_some,List.length_append,List.length_cons,List.length_nil,if_true]
  rw[if_pos (by omega),if_pos (by omega),if_pos (by omega),if_pos (by omega),if_pos (by omega),if_pos (by omega)]
 ·have:txOk t=false:=by simpa using h
  simp[this]
def cutD (c:UInt8) (s d:List UInt8):List UInt8×List UInt8:=match cutAt c s with|some p=>p|none=>(d,[])
def specF (s:List UInt8):TTx:=
 let p:=cutD 62 s []
 let q:=cutD 58 p.2 []
 let r:=cutD 35 q.2 []
 ((number p.1).1,(number q.1).1,(number r.1).1,(number r.2).1)
def txOf (s:List UInt8):TTx×Bool:=if txOk (specF s)=true∧txText (specF s)=s then (specF s,true) else ((0,0,0,0),false)
theorem l2CutD (s:List UInt8) (c:UInt8) (hs:s.length≤137438953472):spec_l2Cut (s,c,())=some ((cutD c s []).1,(cutD c s []).2,(cutAt c s).isSome,()):=by
 rw[spec_l2Cut_eq s c hs]
 unfold cutD
 cases cutAt c s<;>rfl
theorem cutD_len (c:UInt8) (s d:List UInt8) (hd:d.length≤s.length):(cutD c s d).1.length≤s.length∧(cutD c s d).2.length≤s.length:=by
 unfold cutD
 cases h:cutAt c s with
 | none=>exact⟨hd,by simp⟩
 | some p=>
  have:=(cutAt_len c (p:=p.1) (q:=p.2) h).1
  simp only
  omega
theorem txText_no {t:TTx} (h : ¬ txOk t=true):txText t=[]:=by unfold txText; rw[if_neg h]
theorem txText_ne {t:TTx} (h:txOk t=true):txText t≠[]:=by unfold txText; rw[if_pos h]; simp
theorem spec_TxOf_eq (s:List UInt8) (hs:s.length≤137438953472):spec_TxOf (s,())=some ((txOf s).1,(txOf s).2,()):=by
 have l1:=cutD_len 62 s [] (by simp)
 have l2:=cutD_len 58 (cutD 62 s []).2 [] (by simp)
 have l3:=cutD_len 35 (cutD 58 (cutD 62 s []).2 []).2 [] (by simp)
 unfold spec_TxOf
 simp only[show UInt8.ofNat (Int.toNat 62)=62 from rfl,show UInt8.ofNat (Int.toNat 58)=58 from rfl,show UInt8.ofNat (Int.toNat 35)=35 from rfl,
  l2CutD s 62 hs,l2CutD (cutD 62 s []).2 58 (by omega),l2CutD (cutD 58 (cutD 62 s []).2 []).2 35 (by omega),spec_Number_eq,spec_TxText_eq,Option.bind_some]
 by_cases h0:s=[]
 ·subst h0
  have : ¬ (txOk (specF [])=true∧txText (specF [])=[]):=fun h=>txText_ne h.1 h.2
  unfold txOf
  rw[if_neg this]
  simp
 ·have e0:(s==[])=false:=by simp[h0]
  simp only[e0,cond_false]
  unfold txOf
  have ef:((number (cutD 62 s []).1).1,(number (cutD 58 (cutD 62 s []).2 []).1).1,(number (cutD 35 (cutD 58 (cutD 62 s []).2 []).2 []).1).1,(number (cutD 35 (cutD 58 (cutD 62 s []).2 []).2 []).2).1)=specF s:=rfl
  rw[ef]
  by_cases h:txText (specF s)=s
  ·have hok:txOk (specF s)=true:=by
    by_cases hk:txOk (specF s)=true
    ·exact hk
    ·rw[txText_no hk] at h; exact absurd h.symm h0
   have e1:(txText (specF s) != s)=false:=by simp[h]
   rw[if_pos ⟨hok,h⟩,e1]; rfl
  ·have e1:(txText (specF s) != s)=true:=by simp[h]
   rw[if_neg (fun hh=>h hh.2),e1]; rfl
def txsGo:List (List UInt8)→List TTx→List TTx×Bool
 | [],out=>(out,true)
 | p::ps,out=>if (txOf p).2=true then txsGo ps (out++[(txOf p).1]) else ([],false)
def txsOf (s:List UInt8):List TTx×Bool:=if s=[] then ([],true) else txsGo (pieces 44 s) []
theorem pieces_mem (c:UInt8) : ∀ {s p:List UInt8},p∈pieces c s→p.length≤s.length
 | [],p,h=>by simp[pieces] at h; simp[h]
 | x::l,p,h=>by
  simp only[pieces] at h
  split at h
  ·rcases List.mem_cons.1 h with rfl|h
   ·simp
   ·have:=pieces_mem c h; simp; omega
  ·cases hp:pieces c l with
   | nil=>rw[hp] at h; simp[glue] at h; simp[h]
   | cons q r=>
    rw[hp] at h
    simp only[glue,List.mem_cons] at h
    rcases h with rfl|h
    ·have:=pieces_mem c (s:=l) (p:=q) (by rw[hp]; simp); simp; omega
    ·have:=pieces_mem c (s:=l) (p:=p) (by rw[hp]; simp[h]); simp; omega
theorem txs_loop {tx:List UInt8×Unit→Option (TTx×Bool×Unit)} (ps:List (List UInt8)) (hl:ps.length≤137438953473) (htx : ∀ p∈ps,tx (p,())=some ((txOf p).1,(txOf p).2,()))
  {G:(List TTx×Int×Unit→Option (List TTx×Bool×Unit))→List TTx×Int×Unit→Option (List TTx×Bool×Unit)}
  (hG : ∀ rec out (i:Int),G rec (out,i,())=bif decide (i<(ps.length:Int)) then (if 0≤i∧i<(ps.length:Int) then (tx (rd .str ps i.toNat,())).bind fun r2=>bif !r2.2.1 then some ([],false,()) else
   (if (out.length+[r2.1].length)*32≤70368744177664 then rec (out++[r2.1],wr (i+1),()) else none) else none) else some (out,true,())) :
  iter G fuel ([],0,())=some ((txsGo ps []).1,(txsGo ps []).2,()):=by
 refine (walk ps.length (fun i (out:List TTx)=>(out,i,())) (fun i out=>out.length=i) (fun i out=>some ((txsGo (ps.drop i) out).1,(txsGo (ps.drop i) out).2,())) (by omega) ?_ ?_ (s0:=[]) rfl).trans (by simp)
 ·intro rec out ho
  rw[hG]; simp[txsGo]
 ·intro rec i out hi ho
  have hx:ps[i]?=some ps[i]:=List.getElem?_eq_getElem hi
  rw[hG]
  simp only[ge_ok hi,decide_true,cond_true,and_self,if_true,Int.toNat_natCast,rd_get (e:=.str) hx,htx ps[i] (List.getElem_mem hi),Option.bind_some,wr_nat (show i<4611686018427387904 by omega),List.length_cons,List.length_nil]
  rw[List.drop_eq_getElem_cons hi]
  by_cases h:(txOf ps[i]).2=true
  ·right
   refine⟨out++[(txOf ps[i]).1],by simp[ho],?_,?_⟩
   ·rw[h]; simp only[Bool.not_true,cond_false]; rw[if_pos (by omega)]
   ·simp only[txsGo,h,if_true]
  ·left
   have h':(txOf ps[i]).2=false:=by simpa using h
   simp[txsGo,h']
theorem spec_TxsOf_eq (s:List UInt8) (hs:s.length≤137438953472):spec_TxsOf (s,())=some ((txsOf s).1,(txsOf s).2,()):=by
 unfold spec_TxsOf txsOf
 by_cases h0:s=[]
 ·subst h0; rfl
 ·have e0:(s==[])=false:=by simp[h0]
  rw[if_neg h0]
  simp only[e0,cond_false,show UInt8.ofNat (Int.toNat 44)=44 from rfl,spec_Split_eq s 44 hs,Option.bind_some]
  have hp:=pieces_len 44 s
  refine txs_loop (tx:=spec_TxOf) (pieces 44 s) (by omega) (fun p hm=>spec_TxOf_eq p (by have:=pieces_mem 44 hm; omega)) ?_
  intro rec out i; rfl
end G448
namespace G448
open Ev Go
abbrev TStep:=Int×List TTx
def stepB (q:List UInt8×List UInt8) (prev:Int):Bool:=
 (number q.1).2 && ((txsOf q.2).2 && (decide (prev<(number q.1).1) && (decide ((number q.1).1≤60) && decide ((txsOf q.2).1.length≤2))))
def stepsGo:List (List UInt8)→Int→List TStep→List TStep×Bool
 | [],_,out=>(out,true)
 | p::ps,prev,out=>match cutAt 124 p with
  | none=>([],false)
  | some q=>if stepB q prev=true then
    stepsGo ps (number q.1).1 (out++[((number q.1).1,(txsOf q.2).1)]) else ([],false)
def steps (s:List UInt8):List TStep×Bool:=
 if s=[] then ([],true) else match pieces 47 s with
  | []=>([],false)
  | p::ps=>if p=[]∧ps.length≤30 then stepsGo ps 0 [] else ([],false)
theorem number_nn (s:List UInt8):0≤(number s).1:=by
 unfold number
 split<;>simp
theorem spec_Steps_eq (s:List UInt8) (hs:s.length≤137438953472):spec_Steps (s,())=some ((steps s).1,(steps s).2,()):=by
 unfold spec_Steps steps
 by_cases h0:s=[]
 ·subst h0; rfl
 have e0:(s==[])=false:=by simp[h0]
 rw[if_neg h0]
 simp only[e0,cond_false,show UInt8.ofNat (Int.toNat 47)=47 from rfl,show UInt8.ofNat (Int.toNat 124)=124 from rfl,spec_Split_eq s 47 hs,Option.bind_some]
 have hpl:=pieces_len 47 s
 have hpm : ∀ p∈pieces 47 s,p.length≤s.length:=fun p hm=>pieces_mem 47 hm
 cases hp:pieces 47 s with
 | nil=>exact absurd hp (pieces_ne _ _)
 | cons p ps=>
  rw[hp] at hpl hpm
  simp only[List.length_cons] at hpl
  rw[if_pos (by simp only[List.length_cons]; omega)]
  simp only[Int.toNat_zero,rd,List.getD_cons_zero]
  by_cases h1:p=[]
  ·subst h1
   simp only[bne_self_eq_false,cond_false]
   by_cases h2:(((([]:List UInt8)::ps).length:Nat):Int)>31
   ·rw[if_neg (by simp only[List.length_cons] at h2; omega)]
    simp only[h2,decide_true,cond_true]
   ·rw[if_pos (show True∧ps.length≤30 from⟨trivial,by simp only[List.length_cons] at h2; omega⟩)]
    simp only[h2,decide_false,cond_false]
    refine (walkFrom (([]:List UInt8)::ps).length (fun i (t:List TStep×Int)=>(t.1,t.2,i,())) (fun i t=>t.1.length≤i∧0≤t.2∧t.2≤60)
     (fun i t=>some ((stepsGo ((([]:List UInt8)::ps).drop i) t.2 t.1).1,(stepsGo ((([]:List UInt8)::ps).drop i) t.2 t.1).2,())) (by simp only[List.length_cons]; omega) ?_ ?_ (s0:=([],0)) 1 (by simp) ⟨by simp,by simp,by simp⟩).trans (by simp)
    ·intro rec t ht; simp[stepsGo]
    ·intro rec i t hi ht
     obtain⟨t1,t2,t3⟩:=ht
     have hx:(([]:List UInt8)::ps)[i]?=some (([]:List UInt8)::ps)[i]:=List.getElem?_eq_getElem hi
     have hlen:=hpm _ (List.getElem_mem hi)
     have hil:i≤s.length+1:=by simp only[List.length_cons] at hi; omega
     rw[List.drop_eq_getElem_cons hi]
     simp only[stepsGo]
     have hc:=cutD_len 124 (([]:List UInt8)::ps)[i] [] (by simp)
     simp only[ge_ok hi,decide_true,cond_true,and_self,if_true,Int.toNat_natCast,rd_get (e:=.str) hx,l2CutD _ 124 (show (([]:List UInt8)::ps)[i].length≤137438953472 by omega),spec_Number_eq,spec_TxsOf_eq _ (show (cutD 124 (([]:List UInt8)::ps)[i] []).2.length≤137438953472 by omega),Option.bind_some,
      wr_nat (show i<4611686018427387904 by omega)]
     generalize hq:cutAt 124 (([]:List UInt8)::ps)[i]=q
     cases q with
     | none=>left; simp
     | some q=>
      simp only[cutD,hq,Option.isSome_some,Bool.not_true,cond_false]
      by_cases c1:(number q.1).2=true
      ·by_cases c2:(txsOf q.2).2=true
       ·by_cases c3:t.2<(number q.1).1
        ·by_cases c4:(number q.1).1≤60
         ·by_cases c5:(txsOf q.2).1.length≤2
          ·right
           refine⟨(t.1++[((number q.1).1,(txsOf q.2).1)],(number q.1).1),⟨by simp; omega,number_nn _,c4⟩,?_,?_⟩
           ·simp only[c1,c2,Bool.not_true,cond_false,show ¬ (number q.1).1≤t.2 by omega,decide_false,show ¬ (number q.1).1>60 by omega,show ¬ ((txsOf q.2).1.length:Int)>2 by omega,List.length_cons,List.length_nil]
            rw[if_pos (by omega)]
           ·rw[if_pos (show stepB q t.2=true by simp[stepB,c1,c2,c3,c4,c5])]
          ·left
           have hB:stepB q t.2=false:=by simp[stepB,c5]
           rw[hB]
           simp[c1,c2,show ¬ (number q.1).1≤t.2 by omega,show ¬ (number q.1).1>60 by omega,show (2:Int)<((txsOf q.2).1.length:Int) by omega]
         ·left
          have hB:stepB q t.2=false:=by simp[stepB,c4]
          rw[hB]
          simp[c1,c2,show ¬ (number q.1).1≤t.2 by omega,show (number q.1).1>60 by omega]
        ·left
         have hB:stepB q t.2=false:=by simp[stepB,c3]
         rw[hB]
         simp[c1,c2,show (number q.1).1≤t.2 by omega]
       ·left
        have hB:stepB q t.2=false:=by simp[stepB,c2]
        rw[hB]
        have:(txsOf q.2).2=false:=by simpa using c2
        simp[c1,this]
      ·left
       have hB:stepB q t.2=false:=by simp[stepB,c1]
       rw[hB]
       have:(number q.1).2=false:=by simpa using c1
       simp[this]
  ·have e1:(p != [])=true:=by simp[h1]
   rw[if_neg (show ¬ (p=[]∧ps.length≤30) from fun h=>h1 h.1),e1]; rfl
end G448
namespace G448
open Ev Go
def confOk (c:TConf):Bool:=(decide (c.1≥4) && decide (c.1≤7)) && (decide (c.2≥1) && decide (c.2≤6))
theorem spec_ConfOk_eq (c:TConf):spec_ConfOk (c,())=some (confOk c,()):=by
 unfold spec_ConfOk confOk
 simp only[spec_in_eq,Option.bind_some]
 cases (decide (c.1≥4) && decide (c.1≤7))<;>rfl
theorem confOk_b {c:TConf} (h:confOk c=true):4≤c.1∧c.1≤7:=by
 unfold confOk at h
 simp only[Bool.and_eq_true,decide_eq_true_eq] at h
 omega
def nameOk (s:List UInt8):Bool:=(steps s).2
def viewOf (s:List UInt8):Int:=match (steps s).1.getLast? with|some x=>x.1|none=>0
theorem spec_NameOk_eq (s:List UInt8) (hs:s.length≤137438953472):spec_NameOk (s,())=some (nameOk s,()):=by
 unfold spec_NameOk nameOk
 simp only[spec_Steps_eq s hs,Option.bind_some]
theorem stepsGo_props : ∀ (ps:List (List UInt8)) (prev:Int) (out:List TStep),((stepsGo ps prev out).2=false→(stepsGo ps prev out).1=[])∧(stepsGo ps prev out).1.length≤out.length+ps.length
 | [],prev,out=>by simp[stepsGo]
 | p::ps,prev,out=>by
  simp only[stepsGo]
  cases cutAt 124 p with
  | none=>simp
  | some q=>
   simp only
   split
   ·obtain⟨h1,h2⟩:=stepsGo_props ps (number q.1).1 (out++[((number q.1).1,(txsOf q.2).1)])
    refine⟨h1,?_⟩
    simp only[List.length_append,List.length_cons,List.length_nil] at h2 ⊢
    omega
   ·simp
theorem steps_props (s:List UInt8):((steps s).2=false→(steps s).1=[])∧(steps s).1.length≤30:=by
 unfold steps
 split
 ·simp
 ·cases pieces 47 s with
  | nil=>simp
  | cons p ps=>
   simp only
   split
   ·next h=>
    obtain⟨h1,h2⟩:=stepsGo_props ps 0 []
    exact⟨h1,by simp only[List.length_nil] at h2; omega⟩
   ·simp
theorem last_get {l:List TStep} (h:l≠[]) : ∃ x,l.getLast?=some x∧l[l.length - 1]?=some x:=by
 have hl:l.length - 1<l.length:=by cases l with|nil=>exact absurd rfl h|cons _ _=>simp
 exact⟨l[l.length - 1],by rw[List.getLast?_eq_getElem?,List.getElem?_eq_getElem hl],List.getElem?_eq_getElem hl⟩
theorem spec_ViewOf_eq (s:List UInt8) (hs:s.length≤137438953472):spec_ViewOf (s,())=some (viewOf s,()):=by
 unfold spec_ViewOf viewOf
 simp only[spec_Steps_eq s hs,Option.bind_some]
 obtain⟨h1,h2⟩:=steps_props s
 by_cases h:(steps s).2=true
 ·rw[h]
  simp only[Bool.not_true,cond_false]
  by_cases h0:(steps s).1=[]
  ·simp[h0]
  ·obtain⟨x,e1,e2⟩:=last_get h0
   have hl:1≤(steps s).1.length:=by cases hh:(steps s).1 with|nil=>exact absurd hh h0|cons _ _=>simp
   have e3:(((steps s).1.length:Int)==0)=false:=by simp; omega
   simp only[e3,cond_false,e1,wr_id' (show (-9223372036854775808:Int)≤((steps s).1.length:Int) - 1 by omega) (show ((steps s).1.length:Int) - 1≤9223372036854775807 by omega)]
   rw[if_pos (by omega),show (((steps s).1.length:Int) - 1).toNat=(steps s).1.length - 1 by omega,rd_get e2]
 ·have h':(steps s).2=false:=by simpa using h
  rw[h',h1 h']; rfl
theorem stepsGo_view : ∀ (ps:List (List UInt8)) (prev:Int) (out:List TStep),(out≠[]∨ps≠[])→0≤prev→(∀ x,out.getLast?=some x→1≤x.1∧x.1≤60)→(stepsGo ps prev out).2=true →
  ∃ x,(stepsGo ps prev out).1.getLast?=some x∧1≤x.1∧x.1≤60
 | [],prev,out,h,hp,ho,hok=>by
  have h0:out≠[]:=h.elim id (fun h=>absurd rfl h)
  obtain⟨x,e,_⟩:=last_get h0
  exact⟨x,e,ho x e⟩
 | p::ps,prev,out,h,hp,ho,hok=>by
  simp only[stepsGo] at hok ⊢
  cases hq:cutAt 124 p with
  | none=>rw[hq] at hok; simp at hok
  | some q=>
   rw[hq] at hok
   simp only at hok ⊢
   split at hok
   ·next hB=>
    rw[if_pos hB]
    simp only[stepB,Bool.and_eq_true,decide_eq_true_eq] at hB
    refine stepsGo_view ps (number q.1).1 _ (.inl (by simp)) (number_nn _) ?_ hok
    intro x hx
    simp at hx
    subst hx
    exact⟨by simp only; omega,hB.2.2.2.1⟩
   ·simp at hok
theorem name_view {s:List UInt8} (h:nameOk s=true) (h0:s≠[]):1≤viewOf s∧viewOf s≤60:=by
 unfold nameOk steps at h
 unfold viewOf steps
 rw[if_neg h0] at h ⊢
 cases hp:pieces 47 s with
 | nil=>exact absurd hp (pieces_ne _ _)
 | cons p ps=>
  rw[hp] at h
  simp only at h ⊢
  split at h
  ·next hc=>
   rw[if_pos hc]
   have hne:ps≠[]:=by
    rintro rfl
    obtain⟨rfl,_⟩:=hc
    cases s with
    | nil=>exact h0 rfl
    | cons x l=>
     simp only[pieces] at hp
     split at hp
     ·exact pieces_ne 47 l (by simpa using hp)
     ·cases hl:pieces 47 l with
      | nil=>exact pieces_ne 47 l hl
      | cons a b=>rw[hl] at hp; simp[glue] at hp
   obtain⟨x,e1,e2,e3⟩:=stepsGo_view ps 0 [] (.inr hne) (by decide) (by simp) h
   rw[e1]; exact⟨e2,e3⟩
  ·simp at h
theorem name_nil:nameOk []=true∧viewOf []=0:=by
 constructor<;>simp[nameOk,viewOf,steps]
def setGo (n:Int):Option Int→List Int→Bool
 | _,[]=>true
 | p,x::l => !decide (x<0) && (!decide (x≥n) && ((match p with|some y => !decide (y≥x)|none=>true) && setGo n (some x) l))
def setOk (n:Int) (l:List Int):Bool:=setGo n none l
theorem set_loop (n:Int) (l:List Int) (hl:l.length≤137438953472) {G:(Int×Unit→Option (Bool×Unit))→Int×Unit→Option (Bool×Unit)}
  (hend : ∀ rec,G rec ((l.length:Int),())=some (true,()))
  (h0 : ∀ rec x,l[0]?=some x→G rec (((0:Nat):Int),())=bif decide (x<0) then some (false,()) else bif decide (x≥n) then some (false,()) else rec (((0:Nat):Int)+1,()))
  (hstep : ∀ rec (i:Nat) x y,l[i]?=some x→l[i+1]?=some y→i+1<l.length→G rec (((i+1:Nat):Int),())=bif decide (y<0) then some (false,()) else bif decide (y≥n) then some (false,()) else bif decide (x≥y) then some (false,()) else rec (((i+1:Nat):Int)+1,())) :
  iter G fuel (0,())=some (setOk n l,()):=by
 let pv:Nat→Option Int:=fun i=>match i with|0=>none|i+1=>l[i]?
 refine (walk l.length (fun i (_:Unit)=>(i,())) (fun _ _=>True) (fun i _=>some (setGo n (pv i) (l.drop i),())) (by omega) ?_ ?_ (s0:=()) trivial).trans (by simp[setOk,pv])
 ·intro rec _ _
  rw[hend]; simp[setGo]
 ·intro rec i _ hi _
  have hx:l[i]?=some l[i]:=List.getElem?_eq_getElem hi
  have hpv:pv (i+1)=some l[i]:=hx
  rw[List.drop_eq_getElem_cons hi,hpv]
  cases i with
  | zero=>
   rw[h0 rec l[0] hx,show pv 0=none from rfl]
   simp only[setGo]
   by_cases c1:l[0]<0
   ·left; simp[c1]
   ·by_cases c2:l[0]≥n
    ·left; simp[c1,c2]
    ·right
     exact⟨(),trivial,by simp[c1,c2],by simp[c1,c2]⟩
  | succ i=>
   have hx':l[i]?=some l[i]:=List.getElem?_eq_getElem (by omega)
   rw[hstep rec i l[i] l[i+1] hx' hx hi,show pv (i+1)=some l[i] from hx']
   simp only[setGo]
   by_cases c1:l[i+1]<0
   ·left; simp[c1]
   ·by_cases c2:l[i+1]≥n
    ·left; simp[c1,c2]
    ·by_cases c3:l[i]≥l[i+1]
     ·left; simp[c1,c2,c3]
     ·right
      exact⟨(),trivial,by simp[c1,c2,c3],by simp[c1,c2,c3]⟩
theorem spec_SetOk_eq (n:Int) (l:List Int) (hl:l.length≤137438953472):spec_SetOk (n,l,())=some (setOk n l,()):=by
 unfold spec_SetOk
 refine set_loop n l hl ?_ ?_ ?_
 ·intro rec; simp
 ·intro rec x hx
  have hi:0<l.length:=by
   rcases Nat.eq_zero_or_pos l.length with h|h
   ·rw[List.getElem?_eq_none (by omega)] at hx; cases hx
   ·exact h
  simp only[ge_ok hi,decide_true,cond_true,and_self,if_true,Int.toNat_natCast,rd_get (e:=.i64) hx,wr_nat (show 0<4611686018427387904 by omega),show ¬ (((0:Nat):Int)>0) by omega,decide_false,cond_false]
 ·intro rec i x y hx hy hi
  have e:wr (((i+1:Nat):Int) - 1)=(i:Int):=by rw[wr_id' (by omega) (by omega)]; omega
  simp only[ge_ok hi,ge_ok (show i<l.length by omega),e,decide_true,cond_true,and_self,if_true,Int.toNat_natCast,rd_get (e:=.i64) hx,rd_get (e:=.i64) hy,wr_nat (show i+1<4611686018427387904 by omega),show (((i+1:Nat):Int)>0) by omega]
def quorum (c:TConf):Int:=if confOk c=true then c.1 - (c.1 - 1) / 3 else 0
theorem spec_Quorum_eq (c:TConf):spec_Quorum (c,())=some (quorum c,()):=by
 unfold spec_Quorum quorum
 simp only[spec_ConfOk_eq,Option.bind_some]
 by_cases h:confOk c=true
 ·obtain⟨h1,h2⟩:=confOk_b h
  have e1:wr (c.1 - 1)=c.1 - 1:=wr_id' (by omega) (by omega)
  have e2:Int.tdiv (c.1 - 1) 3=(c.1 - 1) / 3:=Int.tdiv_eq_ediv_of_nonneg (by omega)
  simp only[h,Bool.not_true,cond_false,if_true,e1,e2]
  rw[wr_id' (n:=(c.1 - 1) / 3) (by omega) (by omega),wr_id' (by omega) (by omega)]
 ·have h':confOk c=false:=by simpa using h
  simp[h']
def lastIn (c:UInt8) (s:List UInt8):Nat→Option Nat
 | 0=>none
 | k+1=>if s.getD k 0=c then some k else lastIn c s k
def upOf (s:List UInt8):List UInt8:=if nameOk s=true then (match lastIn 47 s s.length with|some k=>s.take k|none=>[]) else []
theorem spec_max_eq (a b:Int):spec_l1Max (a,b,())=some (max a b,()):=by
 unfold spec_l1Max
 by_cases h:a>b
 ·simp only[h,decide_true,cond_true]; congr 2; omega
 ·simp only[h,decide_false,cond_false]; congr 2; omega
theorem spec_UpOf_eq (s:List UInt8) (hs:s.length≤137438953472):spec_UpOf (s,())=some (upOf s,()):=by
 unfold spec_UpOf upOf
 simp only[spec_NameOk_eq s hs,Option.bind_some]
 by_cases h:nameOk s=true
 ·simp only[h,Bool.not_true,cond_false,if_true]
  refine (iter_eq (fun x:Int×Unit=>some ((match lastIn 47 s x.1.toNat with|some k=>s.take k|none=>[]),())) (fun x=>x.1.toNat) (fun x=>0≤x.1∧x.1≤(s.length:Int)) ?_ fuel ((s.length:Int),()) ⟨by simp,by simp⟩
   (by simp only[Int.toNat_natCast]; have:=fuel_gt (n:=s.length) (by omega); exact this)).trans (by simp)
  rintro rec ⟨v,⟨⟩⟩ ⟨h1,h2⟩ hrec
  obtain⟨n,rfl⟩ : ∃ n:Nat,v=(n:Int):=⟨v.toNat,by simp only at h1; omega⟩
  simp only at h2
  cases n with
  | zero=>
   have e1:wr (((0:Nat):Int) - 1) = -1:=wr_id' (by decide) (by decide)
   simp only[show ¬ (((0:Nat):Int)>0) by omega,decide_false,cond_false,e1,spec_max_eq,Option.bind_some,show max (-1:Int) 0=0 by decide]
   rw[if_pos (by omega)]
   simp[lastIn]
  | succ n=>
   have e1:wr (((n+1:Nat):Int) - 1)=(n:Int):=by rw[wr_id' (by omega) (by omega)]; omega
   simp only[show (((n+1:Nat):Int)>0) by omega,decide_true,cond_true,e1,spec_max_eq,Option.bind_some,Int.toNat_natCast,show max (n:Int) 0=(n:Int) by omega,lastIn,show UInt8.ofNat (Int.toNat 47)=47 from rfl]
   rw[if_pos (by omega)]
   by_cases hc:s.getD n 0=47
   ·have e2:(s.getD n 0 != 47)=false:=by rw[hc]; rfl
    rw[e2,if_pos hc]
    simp only[cond_false]
    rw[if_pos (by omega)]
    simp
   ·have e2:(s.getD n 0 != 47)=true:=bne_iff_ne.2 hc
    rw[e2,if_neg hc]
    simp only[cond_true]
    rw[hrec ((n:Int),()) ⟨by simp,by simp only; omega⟩ (by simp only[Int.toNat_natCast]; omega)]
    simp
 ·have h':nameOk s=false:=by simpa using h
  simp[h']
def qcOk (c:TConf) (q:TQc):Bool:=
 confOk c && (nameOk q.2.1 && (viewOf q.2.1==q.1 && (bif q.2.1==[] then ((q.2.2.length:Int)==0) else (setOk c.1 q.2.2 && decide ((q.2.2.length:Int)≥quorum c)))))
theorem spec_QcOk_eq (c:TConf) (q:TQc) (hw:wQc q≤137438953472):spec_QcOk (c,q,())=some (qcOk c q,()):=by
 have h1:q.2.1.length≤137438953472:=by simp only[wQc] at hw; omega
 have h2:q.2.2.length≤137438953472:=by simp only[wQc,wIntS] at hw; omega
 unfold spec_QcOk qcOk
 simp only[spec_ConfOk_eq,spec_NameOk_eq _ h1,spec_ViewOf_eq _ h1,spec_SetOk_eq _ _ h2,spec_Quorum_eq,Option.bind_some]
 cases confOk c
 ·rfl
 cases nameOk q.2.1
 ·rfl
 by_cases e:viewOf q.2.1=q.1
 ·have e1:(viewOf q.2.1 != q.1)=false:=by simp[e]
  have e2:(viewOf q.2.1==q.1)=true:=by simp[e]
  rw[e1,e2]
  cases (q.2.1==[])<;>cases setOk c.1 q.2.2<;>rfl
 ·have e1:(viewOf q.2.1 != q.1)=true:=by simp[e]
  have e2:(viewOf q.2.1==q.1)=false:=by simp[e]
  rw[e1,e2]; rfl
def blockOk (c:TConf) (b:TBlock):Bool:=qcOk c b.2 && (nameOk b.1 && (b.1 != [] && upOf b.1==b.2.2.1))
theorem spec_BlockOk_eq (c:TConf) (b:TBlock) (hw:wBlock b≤137438953472):spec_BlockOk (c,b,())=some (blockOk c b,()):=by
 have h1:b.1.length≤137438953472:=by simp only[wBlock] at hw; omega
 unfold spec_BlockOk blockOk
 simp only[spec_QcOk_eq c b.2 (by simp only[wBlock] at hw; omega),spec_NameOk_eq _ h1,spec_UpOf_eq _ h1,Option.bind_some]
 cases qcOk c b.2<;>cases nameOk b.1<;>cases (b.1 != [])<;>rfl
def partOk (c:TConf) (p:TPart):Bool:=
 confOk c && ((decide (p.1≥1) && decide (p.1≤60)) && (setOk c.1 p.2.2 && (decide ((p.2.2.length:Int)>0) && (p.2.1==[] || (nameOk p.2.1 && viewOf p.2.1==p.1)))))
theorem spec_PartOk_eq (c:TConf) (p:TPart) (hw:wPart p≤137438953472):spec_PartOk (c,p,())=some (partOk c p,()):=by
 have h1:p.2.1.length≤137438953472:=by simp only[wPart] at hw; omega
 have h2:p.2.2.length≤137438953472:=by simp only[wPart,wIntS] at hw; omega
 unfold spec_PartOk partOk
 simp only[spec_ConfOk_eq,spec_in_eq,spec_SetOk_eq _ _ h2,spec_NameOk_eq _ h1,spec_ViewOf_eq _ h1,Option.bind_some]
 have e:((p.2.2.length:Int)==0) = !decide ((p.2.2.length:Int)>0):=by
  generalize p.2.2.length=n
  cases n with
  | zero=>rfl
  | succ k=>
   have a1:(((k+1:Nat):Int)==0)=false:=by rw[beq_eq_false_iff_ne]; omega
   have a2:decide (((k+1:Nat):Int)>0)=true:=decide_eq_true (by omega)
   rw[a1,a2]; rfl
 rw[e]
 cases confOk c<;>cases (decide (p.1≥1) && decide (p.1≤60))<;>cases setOk c.1 p.2.2<;>cases decide ((p.2.2.length:Int)>0)<;>cases (p.2.1==[])<;>cases nameOk p.2.1<;>rfl
end G448
namespace G448
open Ev Go
def canon (m:TMsg):TMsg:=
 bif (m.1==1) then (m.1,0,m.2.2.1,(0,[],[]),(0,[],[]),0,(0,0,0,0)) else
 bif (m.1==2) then (m.1,0,([],0,[],[]),m.2.2.2.1,(0,[],[]),0,(0,0,0,0)) else
 bif (m.1==3) then (m.1,m.2.1,([],0,[],[]),(0,[],[]),m.2.2.2.2.1,m.2.2.2.2.2.1,(0,0,0,0)) else
 bif (m.1==4) then (m.1,0,([],0,[],[]),(0,[],[]),(0,[],[]),0,m.2.2.2.2.2.2) else
 (m.1,0,([],0,[],[]),(0,[],[]),(0,[],[]),0,(0,0,0,0))
theorem spec_l14Zero_eq (m:TMsg) (h:MsgW m):spec_l14Zero (m,())=some (msgSame (canon m) m,()):=by
 obtain⟨h1,h2,h3⟩:=h
 have hz:([]:List Int).length≤8796093022208:=by simp
 unfold spec_l14Zero canon
 dsimp only
 rw[spec_MsgSame_eq (m.1,0,m.2.2.1,(0,[],[]),(0,[],[]),0,(0,0,0,0)) m ⟨h1,hz,hz⟩,spec_MsgSame_eq (m.1,0,([],0,[],[]),m.2.2.2.1,(0,[],[]),0,(0,0,0,0)) m ⟨hz,h2,hz⟩,
  spec_MsgSame_eq (m.1,m.2.1,([],0,[],[]),(0,[],[]),m.2.2.2.2.1,m.2.2.2.2.2.1,(0,0,0,0)) m ⟨hz,hz,h3⟩,spec_MsgSame_eq (m.1,0,([],0,[],[]),(0,[],[]),(0,[],[]),0,m.2.2.2.2.2.2) m ⟨hz,hz,hz⟩,
  spec_MsgSame_eq (m.1,0,([],0,[],[]),(0,[],[]),(0,[],[]),0,(0,0,0,0)) m ⟨hz,hz,hz⟩]
 simp only[Option.bind_some]
 cases (m.1==1)<;>cases (m.1==2)<;>cases (m.1==3)<;>cases (m.1==4)<;>rfl
noncomputable def msgOk (c:TConf) (m:TMsg):Bool:=
 confOk c && (msgSame (canon m) m && (bif (m.1==1) then blockOk c m.2.2.1 else bif (m.1==2) then (partOk c m.2.2.2.1 && m.2.2.2.1.2.1 != []) else
  bif (m.1==3) then ((decide (m.2.1≥1) && decide (m.2.1≤60)) && (qcOk c m.2.2.2.2.1 && (decide (m.2.2.2.2.2.1≥0) && decide (m.2.2.2.2.2.1≤wr (c.1 - 1))))) else
  bif (m.1==4) then txOk m.2.2.2.2.2.2 else false))
theorem spec_MsgOk_eq (c:TConf) (m:TMsg) (hw:wMsg m≤137438953472):spec_MsgOk (c,m,())=some (msgOk c m,()):=by
 have hW:MsgW m:=MsgW.of (by omega)
 have h1:wBlock m.2.2.1≤137438953472:=by simp only[wMsg] at hw; omega
 have h2:wPart m.2.2.2.1≤137438953472:=by simp only[wMsg] at hw; omega
 have h3:wQc m.2.2.2.2.1≤137438953472:=by simp only[wMsg] at hw; omega
 unfold spec_MsgOk msgOk
 simp only[spec_ConfOk_eq,spec_l14Zero_eq m hW,spec_BlockOk_eq c _ h1,spec_PartOk_eq c _ h2,spec_QcOk_eq c _ h3,spec_in_eq,spec_TxOk_eq,Option.bind_some]
 cases confOk c
 ·rfl
 cases msgSame (canon m) m
 ·rfl
 cases (m.1==1)
 ·cases (m.1==2)
  ·cases (m.1==3)
   ·cases (m.1==4)<;>rfl
   ·cases (decide (m.2.1≥1) && decide (m.2.1≤60))<;>cases qcOk c m.2.2.2.2.1<;>rfl
  ·cases partOk c m.2.2.2.1<;>rfl
 ·rfl
end G448
namespace G448
open Ev Go
abbrev ETx:Ty:=.pair .i64 (.pair .i64 (.pair .i64 .i64))
abbrev EPart:Ty:=.pair .i64 (.pair .str (.sl 0 .i64))
abbrev EPost:Ty:=.pair .i64 (.pair .i64 (.pair .i64 (.pair (.pair .str (.pair .i64 (.pair .str (.sl 0 .i64)))) (.pair (.pair .i64 (.pair .str (.sl 0 .i64))) (.pair (.pair .i64 (.pair .str (.sl 0 .i64))) (.pair .i64 (.pair .i64 (.pair .i64 (.pair .i64 .i64)))))))))
theorem all_loop {α:Type} (p:α→Bool) (l:List α) {G:(Int×Unit→Option (Bool×Unit))→Int×Unit→Option (Bool×Unit)} (hl:l.length≤1152921504606846976)
  (hend : ∀ rec s,G rec ((l.length:Int),s)=some (true,()))
  (hstep : ∀ rec (i:Nat) s x,l[i]?=some x→i<l.length→G rec ((i:Int),s)=bif p x then rec ((i:Int)+1,s) else some (false,())) :
  iter G fuel (0,())=some (l.all p,()):=by
 refine (forK l (fun x s rec=>bif p x then rec s else some (false,())) (fun s=>some (true,())) (fun i s=>(i,s)) hl hend hstep ?_ ()).trans (foldK_all _ _)
 intro x s r1 r2 hr; simp[hr]
def chainB {α:Type} (ok:α→Bool) (lt:α→α→Bool):Option α→List α→Bool
 | _,[]=>true
 | p,x::l=>ok x && ((match p with|none=>true|some y=>lt y x) && chainB ok lt (some x) l)
theorem chain_loop {α:Type} (ok:α→Bool) (lt:α→α→Bool) (fin:Bool) (l:List α) (hl:l.length≤1152921504606846976)
  {G:(Int×Unit→Option (Bool×Unit))→Int×Unit→Option (Bool×Unit)}
  (hend : ∀ rec,G rec ((l.length:Int),())=some (fin,()))
  (h0 : ∀ rec x,l[0]?=some x→0<l.length→G rec (0,())=bif ok x then rec (1,()) else some (false,()))
  (hstep : ∀ rec (i:Nat) x y,l[i]?=some x→l[i+1]?=some y→i+1<l.length→G rec (((i+1:Nat):Int),())=bif ok y then (bif lt x y then rec (((i+1:Nat):Int)+1,()) else some (false,())) else some (false,())) :
  iter G fuel (0,())=some (chainB ok lt none l && fin,()):=by
 let pv:Nat→Option α:=fun i=>match i with|0=>none|j+1=>l[j]?
 refine (walk l.length (fun i (_:Unit)=>(i,())) (fun _ _=>True) (fun i _=>some (chainB ok lt (pv i) (l.drop i) && fin,())) hl ?_ ?_ (s0:=()) trivial).trans (by simp only[List.drop_zero,pv])
 ·intro rec s _
  rw[hend,List.drop_length]; simp[chainB]
 ·intro rec i s hi _
  have hx:l[i]?=some l[i]:=List.getElem?_eq_getElem hi
  cases i with
  | zero=>
   rw[show ((0:Nat):Int)=0 from rfl,h0 rec l[0] hx hi,List.drop_eq_getElem_cons hi]
   cases hk:ok l[0] with
   | true=>
    right
    have e2:pv (0+1)=some l[0]:=hx
    exact⟨(),trivial,by simp,by rw[e2]; simp[chainB,show pv 0=none from rfl,hk]⟩
   | false=>left; simp[chainB,hk]
  | succ j=>
   have hj:l[j]?=some l[j]:=List.getElem?_eq_getElem (by omega)
   rw[hstep rec j l[j] l[j+1] hj hx hi,List.drop_eq_getElem_cons hi]
   have e:pv (j+1)=some l[j]:=hj
   have e2:pv (j+1+1)=some l[j+1]:=hx
   rw[e]
   cases hk:ok l[j+1] with
   | true=>
    cases hlt:lt l[j] l[j+1] with
    | true=>right; exact⟨(),trivial,by simp,by rw[e2]; simp[chainB,hk,hlt]⟩
    | false=>left; simp[chainB,hk,hlt]
   | false=>left; simp[chainB,hk]
def safeOk (c:TConf) (s:TSafe):Bool:=(decide (s.1≥0) && decide (s.1≤60)) && ((decide (s.2.1≥0) && decide (s.2.1≤60)) && (qcOk c s.2.2.1 && nameOk s.2.2.2))
theorem spec_SafeOk_eq (c:TConf) (s:TSafe) (hw:wSafe s≤137438953472):spec_SafeOk (c,s,())=some (safeOk c s,()):=by
 simp only[wSafe] at hw
 unfold spec_SafeOk safeOk
 simp only[spec_in_eq,spec_QcOk_eq c s.2.2.1 (by omega),spec_NameOk_eq s.2.2.2 (by omega),Option.bind_some]
 cases (decide (s.1≥0) && decide (s.1≤60))<;>cases (decide (s.2.1≥0) && decide (s.2.1≤60))<;>cases qcOk c s.2.2.1<;>rfl
def beforeTx (a b:TTx):Bool:=decide (a.1<b.1) || (a.1==b.1 && decide (a.2.2.2<b.2.2.2))
theorem spec_l4Before_eq (a b:TTx):spec_l4Before (a,b,())=some (beforeTx a b,()):=by
 unfold spec_l4Before beforeTx
 dsimp only
 cases decide (a.1<b.1)<;>cases (a.1==b.1)<;>rfl
def poolOk (l:TTxS):Bool:=chainB txOk beforeTx none l && decide ((l.length:Int)≤12)
theorem spec_PoolOk_eq (l:TTxS) (hl:l.length≤137438953472):spec_PoolOk (l,())=some (poolOk l,()):=by
 unfold spec_PoolOk poolOk
 refine chain_loop txOk beforeTx _ l (by omega) ?_ ?_ ?_
 ·intro rec; simp
 ·intro rec x hx hi
  have hi0:(0:Int)<(l.length:Int):=by omega
  simp only[hi0,decide_true,cond_true,Int.le_refl,and_self,if_true,Int.toNat_zero,rd_get (e:=ETx) hx,spec_TxOk_eq,Option.bind_some,show wr ((0:Int)+1)=1 from wr_nat (show 0<4611686018427387904 by omega),show ¬ ((0:Int)>0) by omega,decide_false,cond_false]
  cases txOk x<;>rfl
 ·intro rec i x y hx hy hi
  have e:wr (((i+1:Nat):Int) - 1)=(i:Int):=by rw[wr_id' (by omega) (by omega)]; omega
  simp only[ge_ok hi,ge_ok (show i<l.length by omega),e,decide_true,cond_true,and_self,if_true,Int.toNat_natCast,rd_get (e:=ETx) hx,rd_get (e:=ETx) hy,spec_TxOk_eq,spec_l4Before_eq,Option.bind_some,wr_nat (show i+1<4611686018427387904 by omega),show (((i+1:Nat):Int)>0) by omega]
  cases txOk y<;>cases beforeTx x y<;>rfl
def beforePart (a b:TPart):Bool:=decide (a.1<b.1) || (a.1==b.1 && Go.Op.bytesLess a.2.1 b.2.1)
theorem spec_l10Before_eq (a b:TPart):spec_l10Before (a,b,())=some (beforePart a b,()):=by
 unfold spec_l10Before beforePart
 dsimp only
 cases decide (a.1<b.1)<;>cases (a.1==b.1)<;>rfl
def tableOk (c:TConf) (l:TPartS):Bool:=chainB (partOk c) beforePart none l && decide ((l.length:Int)≤20)
theorem wPart_mem {l:TPartS} {x:TPart} {N:Nat} (hw:wPartS l≤N) {i:Nat} (hx:l[i]?=some x):wPart x≤N:=by
 have:=sum_mem wPart (List.mem_of_getElem? hx); unfold wPartS at hw; omega
theorem spec_TableOk_eq (c:TConf) (l:TPartS) (hw:wPartS l≤137438953472):spec_TableOk (c,l,())=some (tableOk c l,()):=by
 have hl:l.length≤137438953472:=by unfold wPartS at hw; omega
 unfold spec_TableOk tableOk
 refine chain_loop (partOk c) beforePart _ l (by omega) ?_ ?_ ?_
 ·intro rec; simp
 ·intro rec x hx hi
  have hi0:(0:Int)<(l.length:Int):=by omega
  simp only[hi0,decide_true,cond_true,Int.le_refl,and_self,if_true,Int.toNat_zero,rd_get (e:=EPart) hx,spec_PartOk_eq c x (wPart_mem hw hx),Option.bind_some,show wr ((0:Int)+1)=1 from wr_nat (show 0<4611686018427387904 by omega),show ¬ ((0:Int)>0) by omega,decide_false,cond_false]
  cases partOk c x<;>rfl
 ·intro rec i x y hx hy hi
  have e:wr (((i+1:Nat):Int) - 1)=(i:Int):=by rw[wr_id' (by omega) (by omega)]; omega
  simp only[ge_ok hi,ge_ok (show i<l.length by omega),e,decide_true,cond_true,and_self,if_true,Int.toNat_natCast,rd_get (e:=EPart) hx,rd_get (e:=EPart) hy,spec_PartOk_eq c y (wPart_mem hw hy),spec_l10Before_eq,Option.bind_some,wr_nat (show i+1<4611686018427387904 by omega),show (((i+1:Nat):Int)>0) by omega]
  cases partOk c y<;>cases beforePart x y<;>rfl
noncomputable def heldOk (c:TConf) (id:Int) (p:TPost):Bool:=msgOk c p.2 && ((decide (p.1≥0) && decide (p.1≤c.1 - 1)) && !(p.1==id))
noncomputable def repOk (c:TConf) (r:TRep):Bool:=
 confOk c && ((decide (r.1≥0) && decide (r.1≤c.1 - 1)) && ((decide (r.2.1≥1) && decide (r.2.1≤60)) && ((decide (r.2.2.1≥0) && decide (r.2.2.1≤60)) &&
  (safeOk c r.2.2.2.1 && (poolOk r.2.2.2.2.1 && (tableOk c r.2.2.2.2.2.1 && (diskOk r.2.2.2.2.2.2.1 && (decide ((r.2.2.2.2.2.2.2.length:Int)≤30) && r.2.2.2.2.2.2.2.all (heldOk c r.1)))))))))
theorem wPost_mem {l:TPostS} {x:TPost} {N:Nat} (hw:wPostS l≤N) {i:Nat} (hx:l[i]?=some x):wMsg x.2≤N:=by
 have:=sum_mem wPost (List.mem_of_getElem? hx); simp only[wPost] at this; unfold wPostS at hw; omega
theorem gt_le (n m:Int):decide (n>m) = !decide (n≤m):=by
 by_cases h:n≤m
 ·have : ¬ n>m:=by omega
  simp[h,this]
 ·have:n>m:=by omega
  simp[h,this]
theorem spec_RepOk_eq (c:TConf) (r:TRep) (hw:wRep r≤137438953472):spec_RepOk (c,r,())=some (repOk c r,()):=by
 simp only[wRep,wTxS] at hw
 have hh:wPostS r.2.2.2.2.2.2.2≤137438953472:=by omega
 have hl:r.2.2.2.2.2.2.2.length≤137438953472:=by unfold wPostS at hh; omega
 unfold spec_RepOk repOk
 simp only[spec_ConfOk_eq,Option.bind_some]
 cases hc:confOk c
 ·rfl
 obtain⟨hc1,hc2⟩:=confOk_b hc
 have e1:wr (c.1 - 1)=c.1 - 1:=wr_id' (by omega) (by omega)
 simp only[Bool.not_true,cond_false,Bool.true_and,e1,spec_in_eq,spec_SafeOk_eq c r.2.2.2.1 (by omega),spec_PoolOk_eq r.2.2.2.2.1 (by omega),spec_TableOk_eq c r.2.2.2.2.2.1 (by omega),spec_DiskOk_eq,Option.bind_some,gt_le ((r.2.2.2.2.2.2.2.length:Nat):Int) 30]
 cases (decide (r.1≥0) && decide (r.1≤c.1 - 1))
 ·rfl
 cases (decide (r.2.1≥1) && decide (r.2.1≤60))
 ·rfl
 cases (decide (r.2.2.1≥0) && decide (r.2.2.1≤60))
 ·rfl
 cases safeOk c r.2.2.2.1
 ·rfl
 cases poolOk r.2.2.2.2.1
 ·rfl
 cases tableOk c r.2.2.2.2.2.1
 ·rfl
 cases diskOk r.2.2.2.2.2.2.1
 ·rfl
 cases decide ((r.2.2.2.2.2.2.2.length:Int)≤30)
 ·rfl
 simp only[Bool.not_true,cond_false,Bool.true_and]
 refine all_loop (heldOk c r.1) r.2.2.2.2.2.2.2 (by omega) ?_ ?_
 ·intro rec s; simp
 ·intro rec i s x hx hi
  simp only[ge_ok hi,decide_true,cond_true,and_self,if_true,Int.toNat_natCast,rd_get (e:=EPost) hx,spec_MsgOk_eq c x.2 (wPost_mem hh hx),Option.bind_some,wr_nat (show i<4611686018427387904 by omega),heldOk]
  cases msgOk c x.2<;>cases (decide (x.1≥0) && decide (x.1≤c.1 - 1))<;>cases (x.1==r.1)<;>rfl
end G448
namespace G448
open Ev Go
def rootOf (c:TConf) (v:Int):Int:=if confOk c=true∧0≤v then Int.tmod v c.1 else -1
theorem spec_Root_eq (c:TConf) (v:Int):spec_Root (c,v,())=some (rootOf c v,()):=by
 unfold spec_Root rootOf
 simp only[spec_ConfOk_eq,Option.bind_some]
 by_cases h:confOk c=true
 ·obtain⟨h1,h2⟩:=confOk_b h
  simp only[h,Bool.not_true,cond_false]
  by_cases hv:v<0
  ·rw[if_neg (show ¬ (True∧0≤v) by omega)]
   simp[hv]
  ·rw[if_pos (show True∧0≤v from⟨trivial,by omega⟩)]
   simp only[hv,decide_false,cond_false]
   rw[if_neg (by omega)]
 ·have h':confOk c=false:=by simpa using h
  simp[h']
noncomputable def mayLie (c:TConf) (liars:TIntS) (list:TSaidS) (m:TMsg):Bool:=
 msgOk c m && (bif (m.1==1) then liars.any (· == rootOf c (viewOf m.2.2.1.1)) && signed liars list m.2.2.1.2.1 m.2.2.1.2.2.1 m.2.2.1.2.2.2 else
  bif (m.1==2) then signed liars list m.2.2.2.1.1 m.2.2.2.1.2.1 m.2.2.2.1.2.2 else
  bif (m.1==3) then liars.any (· == m.2.2.2.2.2.1) && signed liars list m.2.2.2.2.1.1 m.2.2.2.2.1.2.1 m.2.2.2.2.1.2.2 else true)
theorem spec_MayLie_eq (c:TConf) (liars:TIntS) (list:TSaidS) (m:TMsg) (hw:wMsg m≤137438953472) (h1:liars.length≤1073741824) (h2:list.length≤137438953472):spec_MayLie (c,liars,list,m,())=some (mayLie c liars list m,()):=by
 have n1:m.2.2.1.1.length≤137438953472:=by simp only[wMsg,wBlock] at hw; omega
 have w1:m.2.2.1.2.2.2.length≤1152921504606846976:=by simp only[wMsg,wBlock,wQc,wIntS] at hw; omega
 have w2:m.2.2.2.1.2.2.length≤1152921504606846976:=by simp only[wMsg,wPart,wIntS] at hw; omega
 have w3:m.2.2.2.2.1.2.2.length≤1152921504606846976:=by simp only[wMsg,wQc,wIntS] at hw; omega
 unfold spec_MayLie mayLie
 simp only[spec_MsgOk_eq c m hw,spec_ViewOf_eq _ n1,spec_Root_eq,spec_SetHas_eq liars _ (show liars.length≤1152921504606846976 by omega),Option.bind_some,
  spec_Signed_eq liars list _ _ m.2.2.1.2.2.2 (show liars.length≤1152921504606846976 by omega) (by omega) w1,spec_Signed_eq liars list _ _ m.2.2.2.1.2.2 (show liars.length≤1152921504606846976 by omega) (by omega) w2,
  spec_Signed_eq liars list _ _ m.2.2.2.2.1.2.2 (show liars.length≤1152921504606846976 by omega) (by omega) w3]
 cases msgOk c m
 ·rfl
 cases (m.1==1)
 ·cases (m.1==2)
  ·cases (m.1==3)
   ·rfl
   ·cases liars.any (· == m.2.2.2.2.2.1)<;>rfl
  ·rfl
 ·cases liars.any (· == rootOf c (viewOf m.2.2.1.1))<;>rfl
end G448
namespace G448
open Ev
theorem l1Min_eq (a b:Int):spec_l1Min (a,b,())=some (if a<b then a else b,()):=by
 unfold spec_l1Min
 dsimp only
 by_cases h:a<b
 ·simp[h]
 ·simp[h]
theorem l1Max_eq (a b:Int):spec_l1Max (a,b,())=some (if a>b then a else b,()):=by
 unfold spec_l1Max
 dsimp only
 by_cases h:a>b
 ·simp[h]
 ·simp[h]
def fallN (d:TDisk) (keep:Int):Int:=d.2+(if 0>(if keep<(d.1.length:Int) - d.2 then keep else (d.1.length:Int) - d.2) then 0 else (if keep<(d.1.length:Int) - d.2 then keep else (d.1.length:Int) - d.2))
def fallM (d:TDisk) (keep:Int):TDisk:=if diskOk d=true then (d.1.take (fallN d keep).toNat,fallN d keep) else d
theorem diskOk_iff {d:TDisk}:diskOk d=true↔(d.1.length:Int)≤100000∧0≤d.2∧d.2≤(d.1.length:Int):=by
 simp[diskOk]
theorem fallN_bnd {d:TDisk} (h:diskOk d=true) (keep:Int):0≤fallN d keep∧fallN d keep≤(d.1.length:Int)∧fallN d keep≤100000:=by
 obtain⟨h1,h2,h3⟩:=diskOk_iff.1 h
 unfold fallN
 split<;>split<;>omega
theorem spec_FallTo_eq (d:TDisk) (keep:Int) (h:d.1.length≤17592186044416):spec_FallTo (d,keep,())=some (fallM d keep,()):=by
 unfold spec_FallTo fallM
 simp only[spec_l13Copy_eq d (by omega),spec_DiskOk_eq,Option.bind_some]
 cases hd:diskOk d with
 | false=>simp
 | true=>
  obtain⟨h1,h2,h3⟩:=diskOk_iff.1 hd
  obtain⟨g1,g2,g3⟩:=fallN_bnd hd keep
  simp only[Bool.not_true,cond_false,wr_id' (show (-9223372036854775808:Int)≤(d.1.length:Int) - d.2 by omega) (show (d.1.length:Int) - d.2≤9223372036854775807 by omega),l1Min_eq,l1Max_eq,Option.bind_some,if_true]
  rw[show d.2+(if 0>(if keep<(d.1.length:Int) - d.2 then keep else (d.1.length:Int) - d.2) then 0 else (if keep<(d.1.length:Int) - d.2 then keep else (d.1.length:Int) - d.2))=fallN d keep from rfl,
   wr_id' (by omega) (by omega),if_pos ⟨Int.le_refl 0,g1,g2⟩]
  simp only[Int.toNat_zero,List.drop_zero,Nat.sub_zero,List.nil_append]
  rw[if_pos (by rw[List.length_take]; omega)]
def syncM (d:TDisk):TDisk:=if diskOk d=true then (d.1,(d.1.length:Int)) else d
theorem spec_Sync_eq (d:TDisk) (h:d.1.length≤17592186044416):spec_Sync (d,())=some (syncM d,()):=by
 unfold spec_Sync syncM
 simp only[spec_l13Copy_eq d (by omega),spec_DiskOk_eq,Option.bind_some]
 cases hd:diskOk d<;>simp
end G448
namespace G448
open Ev
abbrev TCur:=List UInt8×Int×Int
def CurOk (c:TCur):Prop:=c.1.length≤big∧0≤c.2.1
theorem band_255 (x:Int):0≤band x 255∧band x 255≤255:=by
 unfold band
 have h:(BitVec.ofInt 64 x &&& BitVec.ofInt 64 255).toNat≤255:=by
  rw[BitVec.toNat_and]
  exact Nat.le_trans Nat.and_le_right (by decide)
 rw[wr_id' (by omega) (by omega)]
 omega
theorem tmod_bnds {a n:Int} (ha:0≤a) (hn:0<n):0≤a.tmod n∧a.tmod n<n:=by
 rw[Int.tmod_eq_emod_of_nonneg ha]
 exact⟨Int.emod_nonneg _ (by omega),Int.emod_lt_of_pos _ hn⟩
theorem l1Byte_ens (c:TCur) (hc:CurOk c):Ens (spec_l1Byte (c,())) fun r=>0≤r.1.2.1∧0≤r.2.1∧r.2.1≤255:=by
 obtain⟨h1,h2⟩:=hc
 unfold spec_l1Byte
 refine Ens.cond (fun h => ?_) fun h=>Ens.some ⟨h2,band_255 _⟩
 have h:c.2.1<(c.1.length:Int):=by simpa using h
 refine Ens.ite ⟨h2,h⟩ (Ens.some ⟨?_,band_255 _⟩)
 dsimp only
 unfold big at h1
 rw[wr_id' (by omega) (by omega)]
 omega
theorem l1Below_ens (c:TCur) (n:Int) (hc:CurOk c):Ens (spec_l1Below (c,n,())) fun r=>0≤r.1.2.1∧0≤r.2.1∧(0<n→r.2.1<n):=by
 unfold spec_l1Below
 refine Ens.cond (fun h=>Ens.some ⟨hc.2,Int.le_refl _,fun h0=>h0⟩) fun h => ?_
 have h:0<n:=by simpa using h
 refine Ens.cond (fun _ => ?_) fun _ => ?_
 ·refine (l1Byte_ens c hc).bind fun r hr => ?_
  rw[if_neg (show ¬ n=0 by omega)]
  obtain⟨g1,g2⟩:=tmod_bnds hr.2.1 h
  exact Ens.some ⟨hr.1,g1,fun _=>g2⟩
 ·refine (l1Byte_ens c hc).bind fun r1 hr1 => ?_
  refine (l1Byte_ens (c.1,r1.1.2) ⟨hc.1,hr1.1⟩).bind fun r2 hr2 => ?_
  refine (l1Byte_ens (c.1,r2.1.2) ⟨hc.1,hr2.1⟩).bind fun r3 hr3 => ?_
  refine (l1Byte_ens (c.1,r3.1.2) ⟨hc.1,hr3.1⟩).bind fun r4 hr4 => ?_
  rw[if_neg (show ¬ n=0 by omega)]
  have e:wr (wr (wr (wr (r1.2.1*16777216)+wr (r2.2.1*65536))+wr (r3.2.1*256))+r4.2.1)=r1.2.1*16777216+r2.2.1*65536+r3.2.1*256+r4.2.1:=by
   rw[wr_id' (n:=r1.2.1*16777216) (by omega) (by omega),wr_id' (n:=r2.2.1*65536) (by omega) (by omega),wr_id' (n:=r3.2.1*256) (by omega) (by omega),wr_id' (n:=r1.2.1*16777216+r2.2.1*65536) (by omega) (by omega),
    wr_id' (n:=r1.2.1*16777216+r2.2.1*65536+r3.2.1*256) (by omega) (by omega),wr_id' (by omega) (by omega)]
  obtain⟨g1,g2⟩:=tmod_bnds (a:=wr (wr (wr (wr (r1.2.1*16777216)+wr (r2.2.1*65536))+wr (r3.2.1*256))+r4.2.1)) (by rw[e]; omega) h
  exact Ens.some ⟨hr4.1,g1,fun _=>g2⟩
theorem l1Once_ens (c:TCur) (n:Int) (hc:CurOk c):Ens (spec_l1Once (c,n,())) fun r=>0≤r.1.2.1:=by
 unfold spec_l1Once
 exact (l1Below_ens c n hc).bind fun r hr=>Ens.some hr.1
theorem rd_mem {e:Ty} {l:List (den e)} {i:Nat} (h:i<l.length):rd e l i∈l:=by
 rw[rd_get (List.getElem?_eq_getElem h)]
 exact List.getElem_mem h
theorem l1PickInt_ens (c:TCur) (l:List Int) (hc:CurOk c) (hl:0<l.length):Ens (spec_l1PickInt (c,l,())) fun r=>0≤r.1.2.1∧r.2.1∈l:=by
 unfold spec_l1PickInt
 refine (l1Below_ens c _ hc).bind fun r hr => ?_
 have h:r.2.1<(l.length:Int):=hr.2.2 (show (0:Int)<(l.length:Int) by omega)
 have h0:0≤r.2.1:=hr.2.1
 refine Ens.ite ⟨h0,h⟩ (Ens.some ⟨hr.1,rd_mem (e:=.i64) ?_⟩)
 show r.2.1.toNat<l.length
 omega
theorem l1New_ens (code:List UInt8) (hb:code.length≤big):Ens (spec_l1New (code,())) fun r=>CurOk r∧r.1=code:=by
 unfold spec_l1New
 refine Ens.loop (fun x=>0≤x.2.1) (fun x=>code.length - x.2.1.toNat) ?_ (Int.le_refl _) (by dsimp only; unfold big at hb; rw[fuel_def]; omega)
 intro rec x hx hrec
 refine Ens.cond (fun h => ?_) fun h=>Ens.some ⟨⟨hb,Int.le_refl _⟩,rfl⟩
 have h:x.2.1<(code.length:Int):=by simpa using h
 refine Ens.cond (fun h2 => ?_) fun h2=>Ens.some ⟨⟨hb,Int.le_refl _⟩,rfl⟩
 refine Ens.ite ⟨hx,h⟩ ?_
 unfold big at hb
 rw[wr_id' (n:=x.2.1+1) (by omega) (by omega)]
 refine hrec _ (by show 0≤x.2.1+1; omega) (by show code.length - (x.2.1+1).toNat<code.length - x.2.1.toNat; omega)
noncomputable def putN (n:Nat):List UInt8:=if h:n>127 then toB ((n % 128+128:Nat):Int)::putN (n / 128) else [toB (n:Int)]
termination_by n
decreasing_by omega
noncomputable def putNum (n:Int):List UInt8:=if 0≤n∧n≤2147483647 then putN n.toNat else []
theorem putN_big {n:Nat} (h:n>127):putN n=toB ((n % 128+128:Nat):Int)::putN (n / 128):=by rw[putN,dif_pos h]
theorem putN_small {n:Nat} (h : ¬ n>127):putN n=[toB (n:Int)]:=by rw[putN,dif_neg h]
theorem putN_len : ∀ (k n:Nat),n<128 ^ k→(putN n).length≤k+(if k=0 then 1 else 0)
 | 0,n,h=>by
  have:n=0:=by simpa using h
  subst this
  rw[putN_small (by omega)]
  simp
 | k+1,n,h=>by
  by_cases hn:n>127
  ·rw[putN_big hn]
   have h2:n / 128<128 ^ k:=by
    rw[Nat.pow_succ] at h
    omega
   have ih:=putN_len k (n / 128) h2
   cases k with
   | zero=>simp at h2; omega
   | succ k=>simp at ih ⊢; omega
  ·rw[putN_small hn]; simp
theorem putNum_len (n:Int):(putNum n).length≤5:=by
 unfold putNum
 split
 ·next h=>exact putN_len 5 n.toNat (by omega)
 ·simp
theorem put_loop {G:(Int×List UInt8×Unit→Option (List UInt8×Unit))→Int×List UInt8×Unit→Option (List UInt8×Unit)}
  (hend : ∀ rec (n:Nat) (out:List UInt8),¬ n>127→out.length≤1000→G rec ((n:Int),out,())=some (out++[toB (n:Int)],()))
  (hstep : ∀ rec (n:Nat) (out:List UInt8),n>127→n≤2147483647→out.length≤1000→G rec ((n:Int),out,())=rec (((n / 128:Nat):Int),out++[toB ((n % 128+128:Nat):Int)],())) :
  ∀ (m n:Nat) (out:List UInt8),n<m→n≤2147483647→(n<128 ^ 5→out.length+(putN n).length≤1000)→iter G m ((n:Int),out,())=some (out++putN n,())
 | 0,n,out,h,_,_=>by omega
 | m+1,n,out,h,hn,ho=>by
  have ho':=ho (by omega)
  by_cases hc:n>127
  ·have e1:iter G (m+1) ((n:Int),out,())=iter G m (((n / 128:Nat):Int),out++[toB ((n % 128+128:Nat):Int)],()):=hstep (iter G m) n out hc hn (by omega)
   rw[e1,put_loop hend hstep m (n / 128) _ (by omega) (by omega) (fun _=>by rw[putN_big hc] at ho'; simp at ho' ⊢; omega),putN_big hc]
   simp
  ·have e1:iter G (m+1) ((n:Int),out,())=some (out++[toB (n:Int)],()):=hend (iter G m) n out hc (by omega)
   rw[e1,putN_small hc]
theorem spec_l1In_eq (x lo hi:Int):spec_l1In (x,lo,hi,())=some (decide (x≥lo) && decide (x≤hi),()):=by
 unfold spec_l1In
 cases h:decide (x≥lo)<;>simp[h]
theorem tdiv_nat (n m:Nat):Int.tdiv (n:Int) (m:Int)=((n / m:Nat):Int):=by
 rw[Int.tdiv_eq_ediv_of_nonneg (by omega)]; rfl
theorem tmod_nat (n m:Nat):Int.tmod (n:Int) (m:Int)=((n % m:Nat):Int):=by
 rw[Int.tmod_eq_emod_of_nonneg (by omega)]; rfl
theorem spec_PutNum_eq (n:Int):spec_PutNum (n,())=some (putNum n,()):=by
 unfold spec_PutNum putNum
 simp only[spec_l1In_eq,Option.bind_some]
 by_cases h:0≤n∧n≤2147483647
 ·have e1:(decide (n≥0) && decide (n≤2147483647))=true:=by simp; omega
  simp only[e1,Bool.not_true,cond_false,if_pos h]
  obtain⟨m,rfl⟩:=Int.eq_ofNat_of_zero_le h.1
  have hm:m≤2147483647:=by omega
  have hl:=putN_len 5 m (by omega)
  refine (put_loop ?_ ?_ fuel m [] (by rw[fuel_def]; omega) hm (fun _=>by simp at hl ⊢; omega)).trans (by simp)
  ·intro rec k out hk ho
   have:decide ((k:Int)>127)=false:=by simp; omega
   simp only[this,cond_false,List.length_cons,List.length_nil]
   rw[if_pos (by omega)]
  ·intro rec k out hk hkm ho
   have:decide ((k:Int)>127)=true:=by simp; omega
   simp only[this,cond_true,List.length_cons,List.length_nil]
   rw[if_pos (by omega),show Int.tdiv (k:Int) 128=((k / 128:Nat):Int) from tdiv_nat k 128,show Int.tmod (k:Int) 128=((k % 128:Nat):Int) from tmod_nat k 128,wr_id' (by omega) (by omega),wr_id' (by omega) (by omega)]
   rfl
 ·have e1:(decide (n≥0) && decide (n≤2147483647))=false:=by simp; omega
  simp only[e1,Bool.not_false,cond_true,if_neg h]
theorem l1DrawNums_ens (c:TCur) (hc:CurOk c):Ens (spec_l1DrawNums (c,())) fun r=>0≤r.1.2.1∧r.2.1.length≤1000:=by
 unfold spec_l1DrawNums
 refine Ens.loop (fun x=>0≤x.2.1∧x.2.1≤3∧(x.1.length:Int)≤5*x.2.1∧0≤x.2.2.1.2.1) (fun x=>(4 - x.2.1).toNat) ?_ ⟨Int.le_refl _,(show (0:Int)≤3 by decide),by simp,hc.2⟩ (by dsimp only; rw[fuel_def]; omega)
 intro rec x hx hrec
 obtain⟨x1,x2,x3,x4⟩:=hx
 refine (l1Below_ens (c.1,x.2.2.1.2) 4 ⟨hc.1,x4⟩).bind fun r1 hr1 => ?_
 have h4:=hr1.2.2 (by decide)
 refine Ens.cond (fun h => ?_) fun h => ?_
 ·have h:x.2.1<r1.2.1:=by simpa using h
  refine (l1PickInt_ens (c.1,r1.1.2) _ ⟨hc.1,hr1.1⟩ (by simp)).bind fun r2 hr2 => ?_
  simp only[spec_PutNum_eq,Option.bind_some]
  have hl:=putNum_len r2.2.1
  refine Ens.ite (by omega) ?_
  rw[wr_id' (n:=x.2.1+1) (by omega) (by omega)]
  refine hrec _ ⟨?_,?_,?_,hr2.1⟩ ?_
  ·show 0≤x.2.1+1; omega
  ·show x.2.1+1≤3; omega
  ·show ((x.1++putNum r2.2.1).length:Int)≤5*(x.2.1+1)
   simp only[List.length_append]; omega
  ·show (4 - (x.2.1+1)).toNat<(4 - x.2.1).toNat; omega
 ·refine (l1Once_ens (c.1,r1.1.2) 3 ⟨hc.1,hr1.1⟩).bind fun r4 hr4 => ?_
  refine Ens.cond (fun _ => ?_) fun _=>Ens.some ⟨hr4,by dsimp only; omega⟩
  refine (l1PickInt_ens (c.1,r4.1.2) _ ⟨hc.1,hr4⟩ (by simp)).bind fun r5 hr5 => ?_
  refine (l1Below_ens (c.1,r5.1.2) 3 ⟨hc.1,hr5.1⟩).bind fun r6 hr6 => ?_
  refine Ens.ite (by simp only[List.length_cons,List.length_nil]; omega) (Ens.some ⟨hr6.1,?_⟩)
  simp only[List.length_append,List.length_cons,List.length_nil]; omega
theorem l13Draw_ens (c:TCur) (hc:CurOk c):Ens (spec_l13Draw (c,())) fun r=>0≤r.1.2.1∧r.2.1.1.length≤1000000:=by
 unfold spec_l13Draw
 refine (l1DrawNums_ens c hc).bind fun r0 hr0 => ?_
 refine Ens.ite (by omega) ?_
 refine (l1Below_ens (c.1,r0.1.2) _ ⟨hc.1,hr0.1⟩).bind fun r1 hr1 => ?_
 refine (l1Below_ens (c.1,r1.1.2) 12 ⟨hc.1,hr1.1⟩).bind fun r2 hr2 => ?_
 refine Ens.cond (fun _ => ?_) fun _=>Ens.cond (fun _ => ?_) fun _ => ?_
 ·refine (l1PickInt_ens (c.1,r2.1.2) _ ⟨hc.1,hr2.1⟩ (by simp)).bind fun r3 hr3=>Ens.some ⟨hr3.1,?_⟩
  simp only[List.nil_append]; omega
 ·refine (l1Below_ens (c.1,r2.1.2) 2 ⟨hc.1,hr2.1⟩).bind fun r4 hr4 => ?_
  have h:=hr4.2.2 (by decide)
  have h0:=hr4.2.1
  rw[wr_id' (n:=100000+r4.2.1) (by omega) (by omega)]
  refine Ens.ite rfl (Ens.ite (by omega) (Ens.some ⟨hr4.1,?_⟩))
  simp only[List.length_replicate]; omega
 ·refine Ens.some ⟨hr2.1,?_⟩
  simp only[List.nil_append]; omega
theorem sameDisk_self (d:TDisk):laws_sameDisk (d,d,())=some (true,()):=by
 unfold laws_sameDisk
 simp
end G448
namespace G448
open Ev Go
noncomputable def putText (s:List UInt8):List UInt8:=putNum (s.length:Int)++s
noncomputable def nums (l:List Int):List UInt8:=(l.map putNum).flatten
theorem putText_len (s:List UInt8):(putText s).length≤5+s.length:=by
 unfold putText
 have:=putNum_len (s.length:Int)
 rw[List.length_append]; omega
theorem nums_len : ∀ l:List Int,(nums l).length≤5*l.length
 | []=>by simp[nums]
 | x::l=>by
  have h1:=putNum_len x
  have h2:=nums_len l
  simp only[nums,List.map_cons,List.flatten_cons,List.length_append,List.length_cons] at *
  omega
theorem spec_PutText_eq (s:List UInt8) (h:s.length≤137438953472):spec_PutText (s,())=some (putText s,()):=by
 unfold spec_PutText putText
 simp only[spec_PutNum_eq,Option.bind_some]
 have:=putNum_len (s.length:Int)
 rw[if_pos (by omega)]
theorem nums_fold : ∀ (l:List Int) (out:List UInt8),l.foldl (fun o x=>o++putNum x) out=out++nums l
 | [],out=>by simp[nums]
 | x::l,out=>by rw[List.foldl_cons,nums_fold l]; simp[nums]
theorem nums_loop {put:Int×Unit→Option (List UInt8×Unit)} (hp : ∀ n,put (n,())=some (putNum n,())) (l:List Int) (hl:l.length≤137438953472) (out:List UInt8) (ho:out.length≤1000000000000)
  {G:(List UInt8×Int×Unit→Option (List UInt8×Unit))→List UInt8×Int×Unit→Option (List UInt8×Unit)}
  (hG : ∀ rec o (i:Int),G rec (o,i,())=bif decide (i<(l.length:Int)) then (if 0≤i∧i<(l.length:Int) then (put (rd .i64 l i.toNat,())).bind fun r1=>
   if (o.length+r1.1.length)*1≤70368744177664 then rec (o++r1.1,wr (i+1),()) else none else none) else some (o,())) :
  iter G fuel (out,0,())=some (out++nums l,()):=by
 have:=fold_loop (fun i (o:List UInt8)=>(o,i,())) l (fun o x=>o++putNum x) (fun o=>some (o,())) (by omega) (fun i o=>o.length≤1000000000000+5*i) (G:=G) ?_ ?_ (s0:=out) (by omega)
 ·rw[this,nums_fold]
 ·intro rec o h; rw[hG]; simp
 ·intro rec i o x hx hi h
  have hpl:=putNum_len x
  refine⟨by rw[List.length_append]; omega,?_⟩
  rw[hG]
  simp only[ge_ok hi,decide_true,cond_true,and_self,if_true,Int.toNat_natCast,rd_get (e:=.i64) hx,hp,Option.bind_some,wr_nat (show i<4611686018427387904 by omega)]
  rw[if_pos (by omega)]
theorem spec_l14Nums_eq (l:List Int) (hl:l.length≤137438953472):spec_l14Nums (l,())=some (nums l,()):=by
 unfold spec_l14Nums
 exact (nums_loop (put:=spec_PutNum) spec_PutNum_eq l hl [] (by simp) (fun rec o i=>rfl)).trans (by simp)
noncomputable def qcBytes (c:TConf) (q:TQc):List UInt8:=
 bif qcOk c q then ((putNum q.1++putText q.2.1)++putNum (q.2.2.length:Int))++nums q.2.2 else []
theorem qcBytes_len (c:TConf) (q:TQc):(qcBytes c q).length≤15+5*wQc q:=by
 unfold qcBytes
 cases qcOk c q
 ·simp
 ·have h1:=putNum_len q.1
  have h2:=putText_len q.2.1
  have h3:=putNum_len (q.2.2.length:Int)
  have h4:=nums_len q.2.2
  simp only[cond_true,List.length_append,wQc,wIntS]
  omega
theorem spec_QcBytes_eq (c:TConf) (q:TQc) (hw:wQc q≤137438953472):spec_QcBytes (c,q,())=some (qcBytes c q,()):=by
 have h1:q.2.1.length≤137438953472:=by simp only[wQc] at hw; omega
 have h2:q.2.2.length≤137438953472:=by simp only[wQc,wIntS] at hw; omega
 have l1:=putNum_len q.1
 have l2:=putText_len q.2.1
 have l3:=putNum_len (q.2.2.length:Int)
 unfold spec_QcBytes qcBytes
 simp only[spec_QcOk_eq c q hw,spec_PutNum_eq,spec_PutText_eq _ h1,Option.bind_some]
 cases qcOk c q
 ·rfl
 simp only[Bool.not_true,cond_false,cond_true,List.length_append]
 rw[if_pos (by omega),if_pos (by omega)]
 exact nums_loop (put:=spec_PutNum) spec_PutNum_eq q.2.2 h2 _ (by simp only[List.length_append]; omega) (fun rec o i=>by simp only[spec_PutNum_eq,Option.bind_some])
noncomputable def msgBytes (c:TConf) (m:TMsg):List UInt8:=
 bif msgOk c m then (bif (m.1==1) then (putNum m.1++putText m.2.2.1.1)++qcBytes c m.2.2.1.2 else
  bif (m.1==2) then (((putNum m.1++putNum m.2.2.2.1.1)++putText m.2.2.2.1.2.1)++putNum (m.2.2.2.1.2.2.length:Int))++nums m.2.2.2.1.2.2 else
  bif (m.1==3) then (putNum m.1++nums [m.2.1,m.2.2.2.2.2.1])++qcBytes c m.2.2.2.2.1 else
  putNum m.1++nums [m.2.2.2.2.2.2.1,m.2.2.2.2.2.2.2.1,m.2.2.2.2.2.2.2.2.1,m.2.2.2.2.2.2.2.2.2]) else []
theorem msgBytes_len (c:TConf) (m:TMsg):(msgBytes c m).length≤60+5*wMsg m:=by
 unfold msgBytes
 have h0:=putNum_len m.1
 have h1:=putText_len m.2.2.1.1
 have h2:=qcBytes_len c m.2.2.1.2
 have h3:=putNum_len m.2.2.2.1.1
 have h4:=putText_len m.2.2.2.1.2.1
 have h5:=putNum_len (m.2.2.2.1.2.2.length:Int)
 have h6:=nums_len m.2.2.2.1.2.2
 have h7:=nums_len [m.2.1,m.2.2.2.2.2.1]
 have h8:=qcBytes_len c m.2.2.2.2.1
 have h9:=nums_len [m.2.2.2.2.2.2.1,m.2.2.2.2.2.2.2.1,m.2.2.2.2.2.2.2.2.1,m.2.2.2.2.2.2.2.2.2]
 simp only[List.length_cons,List.length_nil] at h7 h9
 cases msgOk c m
 ·simp
 cases (m.1==1)
 ·cases (m.1==2)
  ·cases (m.1==3)
   ·simp only[cond_true,cond_false,List.length_append]; omega
   ·simp only[cond_true,cond_false,List.length_append,wMsg]; omega
  ·simp only[cond_true,cond_false,List.length_append,wMsg,wPart,wIntS]; omega
 ·simp only[cond_true,List.length_append,wMsg,wBlock]; omega
theorem spec_MsgBytes_eq (c:TConf) (m:TMsg) (hw:wMsg m≤137438953472):spec_MsgBytes (c,m,())=some (msgBytes c m,()):=by
 have w1:m.2.2.1.1.length≤137438953472:=by simp only[wMsg,wBlock] at hw; omega
 have w2:wQc m.2.2.1.2≤137438953472:=by simp only[wMsg,wBlock] at hw; omega
 have w3:m.2.2.2.1.2.1.length≤137438953472:=by simp only[wMsg,wPart] at hw; omega
 have w4:m.2.2.2.1.2.2.length≤137438953472:=by simp only[wMsg,wPart,wIntS] at hw; omega
 have w5:wQc m.2.2.2.2.1≤137438953472:=by simp only[wMsg] at hw; omega
 have h0:=putNum_len m.1
 have h1:=putText_len m.2.2.1.1
 have h2:=qcBytes_len c m.2.2.1.2
 have h3:=putNum_len m.2.2.2.1.1
 have h4:=putText_len m.2.2.2.1.2.1
 have h5:=putNum_len (m.2.2.2.1.2.2.length:Int)
 have h6:=nums_len m.2.2.2.1.2.2
 have h7:=nums_len [m.2.1,m.2.2.2.2.2.1]
 have h8:=qcBytes_len c m.2.2.2.2.1
 have h9:=nums_len [m.2.2.2.2.2.2.1,m.2.2.2.2.2.2.2.1,m.2.2.2.2.2.2.2.2.1,m.2.2.2.2.2.2.2.2.2]
 simp only[List.length_cons,List.length_nil] at h7 h9
 unfold spec_MsgBytes msgBytes
 simp only[spec_MsgOk_eq c m hw,spec_PutNum_eq,spec_PutText_eq _ w1,spec_PutText_eq _ w3,spec_QcBytes_eq c _ w2,spec_QcBytes_eq c _ w5,spec_l14Nums_eq _ w4,spec_l14Nums_eq [m.2.1,m.2.2.2.2.2.1] (by simp),
  spec_l14Nums_eq [m.2.2.2.2.2.2.1,m.2.2.2.2.2.2.2.1,m.2.2.2.2.2.2.2.2.1,m.2.2.2.2.2.2.2.2.2] (by simp),Option.bind_some,List.length_append]
 cases msgOk c m
 ·rfl
 cases (m.1==1)
 ·cases (m.1==2)
  ·cases (m.1==3)
   ·simp only[Bool.not_true,cond_true,cond_false]; rw[if_pos (by omega)]
   ·simp only[Bool.not_true,cond_true,cond_false]; rw[if_pos (by omega),if_pos (by omega)]
  ·simp only[Bool.not_true,cond_true,cond_false]; rw[if_pos (by omega),if_pos (by omega),if_pos (by omega),if_pos (by omega)]
 ·simp only[Bool.not_true,cond_true,cond_false]; rw[if_pos (by omega),if_pos (by omega)]
end G448
namespace G448
open Ev Go
theorem shl_nat (b k:Nat) (hb:b<128) (hk:k≤4):shl (b:Int) (7*(k:Int))=((b*128 ^ k:Nat):Int):=by
 unfold shl
 have e:min (7*(k:Int)).toNat 64=7*k:=by omega
 rw[e]
 have e2:(2:Int) ^ (7*k)=((128 ^ k:Nat):Int):=by
  rw[Int.pow_mul]
  simp
 rw[e2,←Int.natCast_mul]
 have:b*128 ^ k≤127*128 ^ 4:=Nat.mul_le_mul (by omega) (Nat.pow_le_pow_right (by decide) hk)
 exact wr_id' (by omega) (by omega)
theorem bor_nat (v b k:Nat) (hv:v<128 ^ k) (hb:b<128) (hk:k≤4):bor (v:Int) ((b*128 ^ k:Nat):Int)=((v+b*128 ^ k:Nat):Int):=by
 have h4:128 ^ k≤128 ^ 4:=Nat.pow_le_pow_right (by decide) hk
 have hbk:b*128 ^ k≤127*128 ^ 4:=Nat.mul_le_mul (by omega) h4
 unfold bor
 have e1:(BitVec.ofInt 64 (v:Int)).toNat=v:=by
  rw[BitVec.toNat_ofInt]; omega
 have e2:(BitVec.ofInt 64 ((b*128 ^ k:Nat):Int)).toNat=b*128 ^ k:=by
  rw[BitVec.toNat_ofInt]; omega
 rw[BitVec.toNat_or,e1,e2]
 have e3:v ||| b*128 ^ k=v+b*128 ^ k:=by
  have:=Nat.two_pow_add_eq_or_of_lt (i:=7*k) (b:=v) (by rw[Nat.pow_mul]; exact hv) b
  rw[Nat.pow_mul,Nat.mul_comm] at this
  rw[Nat.or_comm,←this,Nat.add_comm]
 rw[e3]
 exact wr_id' (by omega) (by omega)
def getGo:List UInt8→Nat→Nat→Nat→Option (Nat×Nat)
 | [],_,_,_=>none
 | b::l,v,k,0=>none
 | b::l,v,k,n+1=>if b.toNat<128 then (if (k>0∧b.toNat=0)∨v+b.toNat*128 ^ k>2147483647 then none else some (v+b.toNat*128 ^ k,k+1)) else getGo l (v+(b.toNat % 128)*128 ^ k) (k+1) n
def getNum (s:List UInt8) (at_:Int):Int×Int×Bool:=
 if at_<0 then (0,0,false) else match getGo (s.drop at_.toNat) 0 0 5 with
  | some p=>((p.1:Int),at_+(p.2:Int),true)
  | none=>(0,0,false)
theorem getGo_nil (v k n:Nat):getGo [] v k n=none:=by cases n<;>rfl
theorem pow_le4 {k:Nat} (h:k≤4):128 ^ k≤268435456:=by
 have:128 ^ k≤128 ^ 4:=Nat.pow_le_pow_right (by decide) h
 omega
theorem spec_GetNum_eq (s:List UInt8) (at_:Int) (hs:s.length≤137438953472):spec_GetNum (s,at_,())=some ((getNum s at_).1,(getNum s at_).2.1,(getNum s at_).2.2,()):=by
 unfold spec_GetNum getNum
 dsimp only
 by_cases ha:at_<0
 ·rw[if_pos ha]
  refine (walk 5 (fun i (v:Nat)=>((v:Int),i,())) (fun i v=>True) (fun i v=>some (0,0,false,())) (by decide) ?_ ?_ (s0:=0) trivial).trans rfl
  ·intro rec v _; simp
  ·intro rec i v hi _
   left
   simp[ha,show (i:Int)<5 by omega]
 rw[if_neg ha]
 obtain⟨a,rfl⟩ : ∃ a:Nat,at_=(a:Int):=⟨at_.toNat,by omega⟩
 simp only[Int.toNat_natCast,ha,decide_false,cond_false]
 refine (walk 5 (fun i (v:Nat)=>((v:Int),i,())) (fun i v=>v<128 ^ i) (fun i v=>match getGo (s.drop (a+i)) v i (5 - i) with|some p=>some ((p.1:Int),(a:Int)+(p.2:Int),true,())|none=>some (0,0,false,())) (by decide) ?_ ?_ (s0:=0) (by decide)).trans ?_
 ·intro rec v hv
  have:getGo (s.drop (a+5)) v 5 0=none:=by cases s.drop (a+5)<;>rfl
  simp[this]
 ·intro rec i v hi hv
  have hp:=pow_le4 (k:=i) (by omega)
  have e1:wr ((s.length:Int) - (i:Int))=(s.length:Int) - (i:Int):=wr_id' (by omega) (by omega)
  have e5:((i:Int)<5):=by omega
  simp only[e5,decide_true,cond_true,e1]
  by_cases hlt:a+i<s.length
  ·have h1 : ¬ ((a:Int)≥(s.length:Int) - (i:Int)):=by omega
   have e2:wr ((a:Int)+(i:Int))=((a+i:Nat):Int):=by rw[wr_id' (by omega) (by omega)]; omega
   have e3:wr (7*(i:Int))=7*(i:Int):=wr_id' (by omega) (by omega)
   have hx:s[a+i]?=some s[a+i]:=List.getElem?_eq_getElem hlt
   simp only[h1,decide_false,cond_false,e2,e3,Int.toNat_natCast,rd_get (e:=.u8) hx]
   rw[if_pos (by omega),if_neg (by omega),List.drop_eq_getElem_cons hlt,show 5 - i=(5 - (i+1))+1 by omega]
   simp only[getGo]
   have e4:Int.tmod (((s[a+i].toNat:Nat):Int)) 128=((s[a+i].toNat % 128:Nat):Int):=by simp[Int.tmod]
   rw[e4,shl_nat _ i (Nat.mod_lt _ (by decide)) (by omega),bor_nat v _ i hv (Nat.mod_lt _ (by decide)) (by omega)]
   by_cases hb:s[a+i].toNat<128
   ·left
    have hm:s[a+i].toNat % 128=s[a+i].toNat:=Nat.mod_eq_of_lt hb
    have hb':(((s[a+i].toNat:Nat):Int)<128):=by omega
    simp only[hb',decide_true,cond_true,hm,hb,if_true]
    have hbk:s[a+i].toNat*128 ^ i≤127*268435456:=Nat.mul_le_mul (by omega) hp
    have e6:wr (((a+i:Nat):Int)+1)=(a:Int)+((i+1:Nat):Int):=by rw[wr_id' (by omega) (by omega)]; omega
    by_cases hz:i>0
    ·have hz':((i:Int)>0):=by omega
     simp only[hz',decide_true,cond_true]
     by_cases h0:s[a+i].toNat=0
     ·have:(((s[a+i].toNat:Nat):Int)==0)=true:=by simp[h0]
      rw[this,if_pos (.inl ⟨hz,h0⟩)]; rfl
     ·have:(((s[a+i].toNat:Nat):Int)==0)=false:=by rw[beq_eq_false_iff_ne]; omega
      rw[this]
      by_cases hbig:v+s[a+i].toNat*128 ^ i>2147483647
      ·rw[if_pos (.inr hbig)]
       simp only[cond_false,show (((v+s[a+i].toNat*128 ^ i:Nat):Int)>2147483647) by omega,decide_true,cond_true]
      ·rw[if_neg (by intro h; rcases h with h|h; exact h0 h.2; exact hbig h)]
       simp only[cond_false,show ¬ (((v+s[a+i].toNat*128 ^ i:Nat):Int)>2147483647) by omega,decide_false,e6]
    ·have hz' : ¬ ((i:Int)>0):=by omega
     simp only[hz',decide_false,cond_false]
     by_cases hbig:v+s[a+i].toNat*128 ^ i>2147483647
     ·rw[if_pos (.inr hbig)]
      simp only[show (((v+s[a+i].toNat*128 ^ i:Nat):Int)>2147483647) by omega,decide_true,cond_true]
     ·rw[if_neg (by intro h; rcases h with h|h; exact hz h.1; exact hbig h)]
      simp only[show ¬ (((v+s[a+i].toNat*128 ^ i:Nat):Int)>2147483647) by omega,decide_false,cond_false,e6]
   ·right
    have hb' : ¬ (((s[a+i].toNat:Nat):Int)<128):=by omega
    refine⟨v+s[a+i].toNat % 128*128 ^ i,?_,?_,?_⟩
    ·rw[Nat.pow_succ]
     have:s[a+i].toNat % 128*128 ^ i≤127*128 ^ i:=Nat.mul_le_mul (by omega) (Nat.le_refl _)
     omega
    ·simp only[hb',decide_false,cond_false,wr_nat (show i<4611686018427387904 by omega)]
    ·simp only[hb,if_false]
     rw[show a+(i+1)=a+i+1 by omega]
  ·left
   have h1:((a:Int)≥(s.length:Int) - (i:Int)):=by omega
   rw[List.drop_eq_nil_of_le (by omega),getGo_nil]
   simp only[h1,decide_true,cond_true]
 ·simp only[Nat.add_zero,Nat.sub_zero]
  cases getGo (s.drop a) 0 0 5<;>rfl
end G448
namespace G448
open Ev Go
abbrev RSt:=Int×Bool
def rdNum (s:List UInt8) (r:RSt):RSt×Int:=
 if (getNum s r.1).2.2=true∧r.2=true then (((getNum s r.1).2.1,true),(getNum s r.1).1) else ((r.1,false),0)
def getText (s:List UInt8) (at_:Int):List UInt8×Int×Bool:=
 if (getNum s at_).2.2=true∧(getNum s at_).1≤(s.length:Int) - (getNum s at_).2.1 then
  ((s.drop (getNum s at_).2.1.toNat).take (getNum s at_).1.toNat,(getNum s at_).2.1+(getNum s at_).1,true) else ([],0,false)
def rdText (s:List UInt8) (r:RSt):RSt×List UInt8:=
 if (getText s r.1).2.2=true∧r.2=true then (((getText s r.1).2.1,true),(getText s r.1).1) else ((r.1,false),[])
theorem getGo_some : ∀ (l:List UInt8) (v k n:Nat) {p:Nat×Nat},getGo l v k n=some p→p.1≤2147483647∧k+1≤p.2∧p.2≤k+l.length
 | [],v,k,n,p,h=>by rw[getGo_nil] at h; cases h
 | b::l,v,k,0,p,h=>by cases h
 | b::l,v,k,n+1,p,h=>by
  simp only[getGo] at h
  split at h
  ·split at h
   ·cases h
   ·next hc=>
    cases h
    simp only[List.length_cons]
    have : ¬ v+b.toNat*128 ^ k>2147483647:=fun hh=>hc (.inr hh)
    omega
  ·have:=getGo_some l _ _ n h
   simp only[List.length_cons]
   omega
theorem getNum_ok (s:List UInt8) (at_:Int) (h:(getNum s at_).2.2=true):0≤at_∧0≤(getNum s at_).1∧(getNum s at_).1≤2147483647∧at_+1≤(getNum s at_).2.1∧(getNum s at_).2.1≤(s.length:Int):=by
 unfold getNum at h ⊢
 split at h
 ·simp at h
 ·next ha=>
  rw[if_neg ha]
  cases hg:getGo (s.drop at_.toNat) 0 0 5 with
  | none=>rw[hg] at h; simp at h
  | some p=>
   have:=getGo_some _ _ _ _ hg
   simp only[List.length_drop] at this ⊢
   omega
theorem spec_l12Num_eq (s:List UInt8) (r:RSt) (hs:s.length≤137438953472):spec_l12Num ((s,r),())=some ((s,(rdNum s r).1),(rdNum s r).2,()):=by
 unfold spec_l12Num rdNum
 simp only[spec_GetNum_eq s r.1 hs,Option.bind_some]
 cases hg:(getNum s r.1).2.2<;>cases hr:r.2<;>simp
theorem text_cut (s:List UInt8) (n at_:Int) (h1:0≤n) (h2:0≤at_):List.take ((at_+n).toNat - at_.toNat) (List.drop at_.toNat s)=(s.drop at_.toNat).take n.toNat:=by
 congr 1; omega
theorem spec_GetText_eq (s:List UInt8) (at_:Int) (hs:s.length≤137438953472):spec_GetText (s,at_,())=some ((getText s at_).1,(getText s at_).2.1,(getText s at_).2.2,()):=by
 unfold spec_GetText getText
 simp only[spec_GetNum_eq s at_ hs,Option.bind_some]
 cases hg:(getNum s at_).2.2
 ·simp
 ·obtain⟨h0,h1,h2,h3,h4⟩:=getNum_ok s at_ hg
  have e1:wr ((s.length:Int) - (getNum s at_).2.1)=(s.length:Int) - (getNum s at_).2.1:=wr_id' (by omega) (by omega)
  have e2:wr ((getNum s at_).2.1+(getNum s at_).1)=(getNum s at_).2.1+(getNum s at_).1:=wr_id' (by omega) (by omega)
  simp only[e1,e2,Bool.not_true,cond_false]
  by_cases hc:(getNum s at_).1≤(s.length:Int) - (getNum s at_).2.1
  ·rw[if_pos (show True∧(getNum s at_).1≤(s.length:Int) - (getNum s at_).2.1 from⟨trivial,hc⟩)]
   simp only[show ¬ (getNum s at_).1>(s.length:Int) - (getNum s at_).2.1 by omega,decide_false,cond_false]
   rw[if_pos (by omega),text_cut _ _ _ h1 (by omega)]
  ·rw[if_neg (show ¬ (True∧(getNum s at_).1≤(s.length:Int) - (getNum s at_).2.1) from fun h=>hc h.2)]
   simp only[show (getNum s at_).1>(s.length:Int) - (getNum s at_).2.1 by omega,decide_true,cond_true]
theorem spec_l12Text_eq (s:List UInt8) (r:RSt) (hs:s.length≤137438953472):spec_l12Text ((s,r),())=some ((s,(rdText s r).1),(rdText s r).2,()):=by
 unfold spec_l12Text rdText
 simp only[spec_GetText_eq s r.1 hs,Option.bind_some]
 cases hg:(getText s r.1).2.2<;>cases hr:r.2<;>simp
def whoGo (s:List UInt8):Nat→RSt→List Int→RSt×List Int
 | 0,r,out=>(r,out)
 | n+1,r,out=>if r.2=true then whoGo s n (rdNum s r).1 (out++[(rdNum s r).2]) else (r,out)
def rdWho (s:List UInt8) (r:RSt):RSt×List Int:=whoGo s (rdNum s r).2.toNat (rdNum s r).1 []
theorem rdNum_b (s:List UInt8) (r:RSt):0≤(rdNum s r).2∧(rdNum s r).2≤2147483647:=by
 unfold rdNum
 split
 ·next h=>have:=getNum_ok s r.1 h.1; simp only; omega
 ·simp
theorem spec_l12Who_eq (s:List UInt8) (r:RSt) (hs:s.length≤137438953472):spec_l12Who ((s,r),())=some ((s,(rdWho s r).1),(rdWho s r).2,()):=by
 obtain⟨b1,b2⟩:=rdNum_b s r
 unfold spec_l12Who rdWho
 dsimp only
 rw[spec_l12Num_eq s r hs,Option.bind_some]
 dsimp only
 generalize hn:(rdNum s r).2=n at *
 obtain⟨n,rfl⟩ : ∃ m:Nat,n=(m:Int):=⟨n.toNat,by omega⟩
 simp only[Int.toNat_natCast]
 refine (walk n (fun i (t:List Int×RSt)=>(t.1,i,(s,t.2),())) (fun i t=>t.1.length≤i) (fun i t=>some ((s,(whoGo s (n - i) t.2 t.1).1),(whoGo s (n - i) t.2 t.1).2,())) (by omega) ?_ ?_ (s0:=([],(rdNum s r).1)) (by simp)).trans (by simp)
 ·intro rec t ht
  simp[whoGo]
 ·intro rec i t hi ht
  rw[show n - i=(n - (i+1))+1 by omega]
  simp only[whoGo,show ((i:Int)<(n:Int)) by omega,decide_true,cond_true]
  cases hr:t.2.2
  ·left
   simp
  ·right
   refine⟨(t.1++[(rdNum s t.2).2],(rdNum s t.2).1),by simp; omega,?_,by simp⟩
   simp only[cond_true]
   simp only[spec_l12Num_eq s t.2 hs,Option.bind_some,List.length_cons,List.length_nil,wr_nat (show i<4611686018427387904 by omega)]
   rw[if_pos (by omega)]
end G448
namespace G448
open Ev Go
def rdQc (s:List UInt8) (r:RSt):RSt×TQc:=
 ((rdWho s (rdText s (rdNum s r).1).1).1,((rdNum s r).2,(rdText s (rdNum s r).1).2,(rdWho s (rdText s (rdNum s r).1).1).2))
theorem spec_l12Qc_eq (s:List UInt8) (r:RSt) (hs:s.length≤137438953472):spec_l12Qc ((s,r),())=some ((s,(rdQc s r).1),(rdQc s r).2,()):=by
 unfold spec_l12Qc
 dsimp only
 rw[spec_l12Num_eq s r hs,Option.bind_some]
 dsimp only
 rw[spec_l12Text_eq s _ hs,Option.bind_some]
 dsimp only
 rw[spec_l12Who_eq s _ hs,Option.bind_some]
 rfl
theorem rdNum_ok {s:List UInt8} {r:RSt} (h:(rdNum s r).1.2=true):r.2=true∧0≤r.1∧r.1+1≤(rdNum s r).1.1∧(rdNum s r).1.1≤(s.length:Int):=by
 unfold rdNum at h ⊢
 split at h
 ·next hc=>
  rw[if_pos hc]
  have:=getNum_ok s r.1 hc.1
  exact⟨hc.2,this.1,this.2.2.2.1,this.2.2.2.2⟩
 ·simp at h
theorem rdText_ok {s:List UInt8} {r:RSt} (h:(rdText s r).1.2=true):r.2=true∧0≤r.1∧r.1+1+((rdText s r).2.length:Int)≤(rdText s r).1.1∧(rdText s r).1.1≤(s.length:Int):=by
 unfold rdText at h ⊢
 split at h
 ·next hc=>
  rw[if_pos hc]
  obtain⟨h1,h2⟩:=hc
  refine⟨h2,?_⟩
  unfold getText at h1 ⊢
  split at h1
  ·next hg=>
   rw[if_pos hg]
   have:=getNum_ok s r.1 hg.1
   simp only[List.length_take,List.length_drop]
   omega
  ·simp at h1
 ·simp at h
theorem whoGo_ok (s:List UInt8) : ∀ (n:Nat) (r:RSt) (out:List Int),(whoGo s n r out).1.2=true→r.2=true∧r.1+((whoGo s n r out).2.length:Int)≤(whoGo s n r out).1.1+(out.length:Int)∧out.length≤(whoGo s n r out).2.length ∧
  ((whoGo s n r out).1.1≤(s.length:Int)∨whoGo s n r out=(r,out))
 | 0,r,out,h=>⟨h,by simp[whoGo],by simp[whoGo],.inr rfl⟩
 | n+1,r,out,h=>by
  simp only[whoGo] at h ⊢
  split at h
  ·next hr=>
   rw[if_pos hr]
   obtain⟨h1,h2,h3,h4⟩:=whoGo_ok s n _ _ h
   obtain⟨g1,g2,g3,g4⟩:=rdNum_ok h1
   simp only[List.length_append,List.length_cons,List.length_nil] at h2 h3
   refine⟨hr,by omega,by omega,.inl ?_⟩
   rcases h4 with h4|h4
   ·exact h4
   ·rw[h4]; exact g4
  ·next hr=>exact absurd h hr
theorem rdWho_ok {s:List UInt8} {r:RSt} (h:(rdWho s r).1.2=true):r.2=true∧0≤r.1∧r.1+1+((rdWho s r).2.length:Int)≤(rdWho s r).1.1∧(rdWho s r).1.1≤(s.length:Int):=by
 unfold rdWho at h ⊢
 obtain⟨h1,h2,h3,h4⟩:=whoGo_ok s _ _ _ h
 obtain⟨g1,g2,g3,g4⟩:=rdNum_ok h1
 simp only[List.length_nil] at h2
 refine⟨g1,g2,by omega,?_⟩
 rcases h4 with h4|h4
 ·exact h4
 ·rw[h4]; exact g4
theorem rdQc_ok {s:List UInt8} {r:RSt} (h:(rdQc s r).1.2=true):r.2=true∧0≤r.1∧r.1+(wQc (rdQc s r).2:Int)≤(rdQc s r).1.1∧(rdQc s r).1.1≤(s.length:Int):=by
 unfold rdQc at h ⊢
 obtain⟨a1,a2,a3,a4⟩:=rdWho_ok h
 obtain⟨b1,b2,b3,b4⟩:=rdText_ok a1
 obtain⟨c1,c2,c3,c4⟩:=rdNum_ok b1
 simp only[wQc,wIntS]
 exact⟨c1,c2,by omega,a4⟩
def zMsg:TMsg:=(0,0,([],0,[],[]),(0,[],[]),(0,[],[]),0,(0,0,0,0))
noncomputable def finM (c:TConf) (s:List UInt8) (r:RSt) (m:TMsg):TMsg×Bool:=bif r.2 && (r.1==(s.length:Int) && msgOk c m) then (m,true) else (zMsg,false)
theorem spec_fin (c:TConf) (s:List UInt8) (r:RSt) (m:TMsg) (hw:r.2=true→r.1=(s.length:Int)→wMsg m≤1073741824) :
  (bif !r.2 then some (zMsg,false,()) else bif (r.1 != (s.length:Int)) then some (zMsg,false,()) else (spec_MsgOk (c,m,())).bind fun r3=>bif !r3.1 then some (zMsg,false,()) else some (m,true,()))=some ((finM c s r m).1,(finM c s r m).2,()):=by
 unfold finM
 cases hr:r.2
 ·rfl
 ·by_cases hl:r.1=(s.length:Int)
  ·have e:(r.1 != (s.length:Int))=false:=by simp[hl]
   have e':(r.1==(s.length:Int))=true:=by simp[hl]
   rw[e,e',spec_MsgOk_eq c m (by have:=hw hr hl; omega)]
   cases h:msgOk c m<;>simp[h]
  ·have e:(r.1 != (s.length:Int))=true:=by simp[hl]
   have e':(r.1==(s.length:Int))=false:=by simp[hl]
   rw[e,e']; rfl
noncomputable def msgOf (c:TConf) (s:List UInt8):TMsg×Bool:=
 let a:=rdNum s (0,true)
 bif (a.2==1) then finM c s (rdQc s (rdText s a.1).1).1 (a.2,0,((rdText s a.1).2,(rdQc s (rdText s a.1).1).2),(0,[],[]),(0,[],[]),0,(0,0,0,0)) else
 bif (a.2==2) then finM c s (rdWho s (rdText s (rdNum s a.1).1).1).1 (a.2,0,([],0,[],[]),((rdNum s a.1).2,(rdText s (rdNum s a.1).1).2,(rdWho s (rdText s (rdNum s a.1).1).1).2),(0,[],[]),0,(0,0,0,0)) else
 bif (a.2==3) then finM c s (rdQc s (rdNum s (rdNum s a.1).1).1).1 (a.2,(rdNum s a.1).2,([],0,[],[]),(0,[],[]),(rdQc s (rdNum s (rdNum s a.1).1).1).2,(rdNum s (rdNum s a.1).1).2,(0,0,0,0)) else
 bif (a.2==4) then finM c s (rdNum s (rdNum s (rdNum s (rdNum s a.1).1).1).1).1 (a.2,0,([],0,[],[]),(0,[],[]),(0,[],[]),0,((rdNum s a.1).2,(rdNum s (rdNum s a.1).1).2,(rdNum s (rdNum s (rdNum s a.1).1).1).2,(rdNum s (rdNum s (rdNum s (rdNum s a.1).1).1).1).2)) else
 finM c s a.1 (a.2,0,([],0,[],[]),(0,[],[]),(0,[],[]),0,(0,0,0,0))
theorem w1 (s:List UInt8) (a:RSt) (k:Int) (hs:s.length≤1073741824) (h:(rdQc s (rdText s a).1).1.2=true):wMsg (k,0,((rdText s a).2,(rdQc s (rdText s a).1).2),(0,[],[]),(0,[],[]),0,(0,0,0,0))≤1073741824:=by
 obtain⟨h1,h2,h3,h4⟩:=rdQc_ok h
 obtain⟨g1,g2,g3,g4⟩:=rdText_ok h1
 simp only[wMsg,wBlock,wPart,wQc,wIntS,List.length_nil] at h3 ⊢
 omega
theorem w2 (s:List UInt8) (a:RSt) (k x:Int) (hs:s.length≤1073741824) (h:(rdWho s (rdText s a).1).1.2=true):wMsg (k,0,([],0,[],[]),(x,(rdText s a).2,(rdWho s (rdText s a).1).2),(0,[],[]),0,(0,0,0,0))≤1073741824:=by
 obtain⟨h1,h2,h3,h4⟩:=rdWho_ok h
 obtain⟨g1,g2,g3,g4⟩:=rdText_ok h1
 simp only[wMsg,wBlock,wPart,wQc,wIntS,List.length_nil]
 omega
theorem w3 (s:List UInt8) (a:RSt) (k x y:Int) (hs:s.length≤1073741824) (h:(rdQc s a).1.2=true):wMsg (k,x,([],0,[],[]),(0,[],[]),(rdQc s a).2,y,(0,0,0,0))≤1073741824:=by
 obtain⟨h1,h2,h3,h4⟩:=rdQc_ok h
 simp only[wMsg,wBlock,wPart,wQc,wIntS,List.length_nil] at h3 ⊢
 omega
theorem w4 (k:Int) (t:TTx):wMsg (k,0,([],0,[],[]),(0,[],[]),(0,[],[]),0,t)≤1073741824:=by
 simp[wMsg,wBlock,wPart,wQc,wIntS]
theorem spec_MsgOf_eq (c:TConf) (s:List UInt8) (hs:s.length≤1073741824):spec_MsgOf (c,s,())=some ((msgOf c s).1,(msgOf c s).2,()):=by
 have hl:s.length≤137438953472:=by omega
 unfold spec_MsgOf msgOf
 simp only[spec_l12Num_eq s _ hl,spec_l12Text_eq s _ hl,spec_l12Who_eq s _ hl,spec_l12Qc_eq s _ hl,Option.bind_some]
 cases ((rdNum s (0,true)).2==1)
 ·cases ((rdNum s (0,true)).2==2)
  ·cases ((rdNum s (0,true)).2==3)
   ·cases ((rdNum s (0,true)).2==4)
    ·exact spec_fin c s _ _ (fun _ _=>w4 _ _)
    ·exact spec_fin c s _ _ (fun _ _=>w4 _ _)
   ·exact spec_fin c s _ _ (fun h _=>w3 s _ _ _ _ hs h)
  ·exact spec_fin c s _ _ (fun h _=>w2 s _ _ _ hs h)
 ·exact spec_fin c s _ _ (fun h _=>w1 s _ _ hs h)
theorem finM_w (c:TConf) (s:List UInt8) (r:RSt) (m:TMsg) (hw:r.2=true→wMsg m≤1073741824):wMsg (finM c s r m).1≤1073741824:=by
 unfold finM
 cases hr:r.2
 ·simp[zMsg,wMsg,wBlock,wPart,wQc,wIntS]
 ·cases (r.1==(s.length:Int) && msgOk c m)
  ·simp[zMsg,wMsg,wBlock,wPart,wQc,wIntS]
  ·exact hw hr
theorem msgOf_w (c:TConf) (s:List UInt8) (hs:s.length≤1073741824):wMsg (msgOf c s).1≤1073741824:=by
 unfold msgOf
 dsimp only
 cases ((rdNum s (0,true)).2==1)
 ·cases ((rdNum s (0,true)).2==2)
  ·cases ((rdNum s (0,true)).2==3)
   ·cases ((rdNum s (0,true)).2==4)
    ·exact finM_w c s _ _ (fun _=>w4 _ _)
    ·exact finM_w c s _ _ (fun _=>w4 _ _)
   ·exact finM_w c s _ _ (fun h=>w3 s _ _ _ _ hs h)
  ·exact finM_w c s _ _ (fun h=>w2 s _ _ _ hs h)
 ·exact finM_w c s _ _ (fun h=>w1 s _ _ hs h)
end G448
namespace G448
open Ev Go
def zSafe:TSafe:=(0,0,(0,[],[]),[])
def newRep (id:Int):TRep:=(id,1,0,zSafe,[],[],([],0),[])
def zRep:TRep:=(0,0,0,zSafe,[],[],([],0),[])
theorem newRep_w (id:Int):wRep (newRep id)=0:=rfl
noncomputable def repNew (c:TConf) (id:Int):TRep×Bool:=bif repOk c (newRep id) then (newRep id,true) else (zRep,false)
theorem spec_RepNew_eq (c:TConf) (id:Int):spec_RepNew (c,id,())=some ((repNew c id).1,(repNew c id).2,()):=by
 have h:=spec_RepOk_eq c (newRep id) (by rw[newRep_w]; decide)
 unfold spec_RepNew repNew
 dsimp only
 simp only[newRep,zSafe] at h ⊢
 rw[h]
 cases repOk c (id,1,0,(0,0,(0,[],[]),[]),[],[],([],0),[])<;>rfl
theorem repNew_w (c:TConf) (id:Int):wRep (repNew c id).1=0:=by
 unfold repNew
 cases repOk c (newRep id)<;>rfl
def rdSafe (s:List UInt8):RSt×TSafe:=
 let a:=rdNum s (0,true)
 let b:=rdNum s a.1
 let q:=rdQc s b.1
 let t:=rdText s q.1
 (t.1,(a.2,b.2,q.2,t.2))
noncomputable def safeOf (c:TConf) (s:List UInt8):TSafe×Bool:=
 bif (rdSafe s).1.2 && ((rdSafe s).1.1==(s.length:Int) && safeOk c (rdSafe s).2) then ((rdSafe s).2,true) else (zSafe,false)
theorem rdSafe_w {s:List UInt8} (h:(rdSafe s).1.2=true):(wSafe (rdSafe s).2:Int)≤s.length:=by
 unfold rdSafe at h ⊢
 simp only at h ⊢
 obtain⟨a1,a2,a3,a4⟩:=rdText_ok h
 obtain⟨b1,b2,b3,b4⟩:=rdQc_ok a1
 simp only[wSafe]
 omega
theorem spec_SafeOf_eq (c:TConf) (s:List UInt8) (hs:s.length≤1073741824):spec_SafeOf (c,s,())=some ((safeOf c s).1,(safeOf c s).2,()):=by
 unfold spec_SafeOf safeOf
 dsimp only
 rw[spec_l12Num_eq s _ (by omega),Option.bind_some]
 dsimp only
 rw[spec_l12Num_eq s _ (by omega),Option.bind_some]
 dsimp only
 rw[spec_l12Qc_eq s _ (by omega),Option.bind_some]
 dsimp only
 rw[spec_l12Text_eq s _ (by omega),Option.bind_some]
 dsimp only
 have hw:=rdSafe_w (s:=s)
 have e:rdSafe s=((rdText s (rdQc s (rdNum s (rdNum s (0,true)).1).1).1).1,((rdNum s (0,true)).2,(rdNum s (rdNum s (0,true)).1).2,(rdQc s (rdNum s (rdNum s (0,true)).1).1).2,(rdText s (rdQc s (rdNum s (rdNum s (0,true)).1).1).1).2)):=rfl
 have e1:(rdText s (rdQc s (rdNum s (rdNum s (0,true)).1).1).1).1=(rdSafe s).1:=rfl
 have e2:((rdNum s (0,true)).2,(rdNum s (rdNum s (0,true)).1).2,(rdQc s (rdNum s (rdNum s (0,true)).1).1).2,(rdText s (rdQc s (rdNum s (rdNum s (0,true)).1).1).1).2)=(rdSafe s).2:=rfl
 rw[e1,e2]
 cases hr:(rdSafe s).1.2
 ·rfl
 ·have:=hw hr
  by_cases hl:(rdSafe s).1.1=(s.length:Int)
  ·have e3:((rdSafe s).1.1 != (s.length:Int))=false:=by simp[hl]
   have e4:((rdSafe s).1.1==(s.length:Int))=true:=by simp[hl]
   rw[e3,e4,spec_SafeOk_eq c _ (by omega)]
   cases h:safeOk c (rdSafe s).2<;>simp[zSafe]
  ·have e3:((rdSafe s).1.1 != (s.length:Int))=true:=by simp[hl]
   have e4:((rdSafe s).1.1==(s.length:Int))=false:=by simp[hl]
   rw[e3,e4]; rfl
noncomputable def lastGo (c:TConf) (s:List UInt8):Nat→Nat→TSafe→TSafe×Int
 | 0,at_,old=>(old,at_)
 | n+1,at_,old=>
  let t:=getText s at_
  bif t.2.2 && (decide (t.2.1<(s.length:Int)) && (s.getD t.2.1.toNat 0==10 && (safeOf c t.1).2)) then lastGo c s n (t.2.1+1).toNat (safeOf c t.1).1 else (old,at_)
noncomputable def lastNote (c:TConf) (s:List UInt8):TSafe×Int:=lastGo c s (s.length+1) 0 zSafe
theorem getText_ok {s:List UInt8} {at_:Int} (h:(getText s at_).2.2=true):0≤at_∧at_+1≤(getText s at_).2.1∧(getText s at_).2.1≤(s.length:Int)∧(getText s at_).1.length≤s.length ∧
  (getNum s at_).2.2=true∧(getText s at_).2.1=(getNum s at_).2.1+(getNum s at_).1∧(getText s at_).1=(s.drop (getNum s at_).2.1.toNat).take (getNum s at_).1.toNat:=by
 unfold getText at h ⊢
 split at h
 ·next hg=>
  rw[if_pos hg]
  have:=getNum_ok s at_ hg.1
  refine⟨by omega,by simp only; omega,by simp only; omega,?_,hg.1,rfl,rfl⟩
  simp only[List.length_take,List.length_drop]
  omega
 ·simp at h
theorem lastGo_step (c:TConf) (s:List UInt8) : ∀ (n at_:Nat) (old:TSafe),s.length<at_+n → ∀ m,s.length<at_+m→lastGo c s n at_ old=lastGo c s m at_ old
 | n,at_,old,hn,m,hm=>by
  cases n with
  | zero=>
   cases m with
   | zero=>rfl
   | succ m=>
    have:(getText s at_).2.2=false:=by
     cases h:(getText s at_).2.2
     ·rfl
     ·have:=getText_ok h; omega
    simp only[lastGo,this,Bool.false_and,cond_false]
  | succ n=>
   cases m with
   | zero=>
    have:(getText s at_).2.2=false:=by
     cases h:(getText s at_).2.2
     ·rfl
     ·have:=getText_ok h; omega
    simp only[lastGo,this,Bool.false_and,cond_false]
   | succ m=>
    simp only[lastGo]
    cases h:(getText s at_).2.2
    ·simp
    ·have:=getText_ok h
     rw[lastGo_step c s n _ _ (by omega) m (by omega)]
theorem ofNat10:UInt8.ofNat (Int.toNat 10)=10:=rfl
theorem spec_LastNote_eq (c:TConf) (s:List UInt8) (hs:s.length≤1073741824):spec_LastNote (c,s,())=some ((lastNote c s).1,(lastNote c s).2,()):=by
 unfold spec_LastNote spec_SafeNew lastNote
 rw[Option.bind_some]
 dsimp only
 refine (iter_eq (fun x:Int×TSafe×TSafe×Unit=>some ((lastGo c s (s.length+1) x.1.toNat x.2.2.1).1,(lastGo c s (s.length+1) x.1.toNat x.2.2.1).2,())) (fun x=>s.length+1 - x.1.toNat)
  (fun x=>0≤x.1∧x.1≤(s.length:Int)) ?_ fuel _ ⟨by simp,by simp⟩ (by have:=fuel_gt (n:=s.length+1) (by omega); simp; omega)).trans (by rfl)
 rintro rec ⟨v,z,old,⟨⟩⟩ ⟨h1,h2⟩ hrec
 obtain⟨n,rfl⟩ : ∃ n:Nat,v=(n:Int):=⟨v.toNat,by simp only at h1; omega⟩
 simp only[Int.toNat_natCast] at h2 hrec ⊢
 simp only[spec_GetNum_eq s _ (show s.length≤137438953472 by omega),Option.bind_some,lastGo]
 cases hg:(getNum s n).2.2
 ·have:(getText s n).2.2=false:=by unfold getText; rw[if_neg (by simp[hg])]
  simp[this]
 ·obtain⟨g0,g1,g2,g3,g4⟩:=getNum_ok s n hg
  simp only[Bool.not_true,cond_false,wr_id' (show (-9223372036854775808:Int)≤(s.length:Int) - (getNum s n).2.1 by omega) (show (s.length:Int) - (getNum s n).2.1≤9223372036854775807 by omega),
   wr_id' (show (-9223372036854775808:Int)≤(getNum s n).2.1+(getNum s n).1 by omega) (show (getNum s n).2.1+(getNum s n).1≤9223372036854775807 by omega)]
  by_cases hc:(getNum s n).1≥(s.length:Int) - (getNum s n).2.1
  ·simp only[hc,decide_true,cond_true]
   by_cases ht:(getText s n).2.2=true
   ·obtain⟨t0,t1,t2,t3,t4,t5,t6⟩:=getText_ok ht
    have : ¬ (getText s n).2.1<(s.length:Int):=by omega
    simp[this]
   ·have:(getText s n).2.2=false:=by simpa using ht
    simp[this]
  ·have e0:getText s n=((s.drop (getNum s n).2.1.toNat).take (getNum s n).1.toNat,(getNum s n).2.1+(getNum s n).1,true):=by
    unfold getText
    rw[if_pos ⟨hg,by omega⟩]
   have hlt:(getNum s n).2.1+(getNum s n).1<(s.length:Int):=by omega
   simp only[hc,decide_false,cond_false,e0,hlt,decide_true,Bool.true_and]
   rw[if_pos (show 0≤(getNum s n).2.1+(getNum s n).1∧True from⟨by omega,trivial⟩)]
   have hrd:rd .u8 s ((getNum s n).2.1+(getNum s n).1).toNat=s.getD ((getNum s n).2.1+(getNum s n).1).toNat 0:=rfl
   rw[hrd,ofNat10]
   by_cases h10:s.getD ((getNum s n).2.1+(getNum s n).1).toNat 0=10
   ·have e1:(s.getD ((getNum s n).2.1+(getNum s n).1).toNat 0 != 10)=false:=by rw[h10]; rfl
    have e2:(s.getD ((getNum s n).2.1+(getNum s n).1).toNat 0==10)=true:=by rw[h10]; rfl
    rw[e1,e2]
    simp only[cond_false,Bool.true_and]
    rw[if_pos (show 0≤(getNum s n).2.1∧(getNum s n).2.1≤(getNum s n).2.1+(getNum s n).1∧(getNum s n).2.1+(getNum s n).1≤(s.length:Int) from⟨by omega,by omega,by omega⟩),text_cut _ _ _ g1 (by omega),spec_SafeOf_eq c _ (by simp only[List.length_take,List.length_drop]; omega),Option.bind_some]
    dsimp only
    cases hk:(safeOf c (List.take (getNum s n).1.toNat (List.drop (getNum s n).2.1.toNat s))).2
    ·rfl
    ·simp only[Bool.not_true,cond_false,cond_true]
     rw[wr_id' (n:=(getNum s n).2.1+(getNum s n).1+1) (by omega) (by omega),hrec _ ⟨by simp only; omega,by simp only; omega⟩ (by simp only; omega)]
     simp only
     rw[lastGo_step c s (s.length+1) _ _ (by omega) s.length (by omega)]
   ·have e1:(s.getD ((getNum s n).2.1+(getNum s n).1).toNat 0 != 10)=true:=bne_iff_ne.2 h10
    have e2:(s.getD ((getNum s n).2.1+(getNum s n).1).toNat 0==10)=false:=beq_eq_false_iff_ne.2 h10
    rw[e1,e2]
    rfl
def safeSame (a b:TSafe):Bool:=a.1==b.1 && (a.2.1==b.2.1 && (qcSame a.2.2.1 b.2.2.1 && a.2.2.2==b.2.2.2))
theorem spec_SafeSame_eq (a b:TSafe) (h:wSafe a≤137438953472):spec_SafeSame (a,b,())=some (safeSame a b,()):=by
 unfold spec_SafeSame safeSame
 simp only[spec_QcSame_eq a.2.2.1 b.2.2.1 (by simp only[wSafe,wQc,wIntS] at h; omega),Option.bind_some]
 cases a.1==b.1<;>cases a.2.1==b.2.1<;>cases qcSame a.2.2.1 b.2.2.1<;>rfl
theorem safeOf_w (c:TConf) (s:List UInt8):wSafe (safeOf c s).1≤s.length:=by
 unfold safeOf
 cases h:(rdSafe s).1.2
 ·simp[zSafe,wSafe,wQc,wIntS]
 ·have:=rdSafe_w h
  cases ((rdSafe s).1.1==(s.length:Int))<;>cases safeOk c (rdSafe s).2
  ·simp[zSafe,wSafe,wQc,wIntS]
  ·simp[zSafe,wSafe,wQc,wIntS]
  ·simp[zSafe,wSafe,wQc,wIntS]
  ·simp only[Bool.and_self,cond_true]; omega
theorem lastGo_b (c:TConf) (s:List UInt8) : ∀ (n at_:Nat) (old:TSafe),at_≤s.length→wSafe old≤s.length→wSafe (lastGo c s n at_ old).1≤s.length∧0≤(lastGo c s n at_ old).2∧(lastGo c s n at_ old).2≤(s.length:Int)
 | 0,at_,old,h1,h2=>⟨h2,by simp only[lastGo]; omega,by simp only[lastGo]; omega⟩
 | n+1,at_,old,h1,h2=>by
  simp only[lastGo]
  cases hg:((getText s at_).2.2 && (decide ((getText s at_).2.1<(s.length:Int)) && (s.getD (getText s at_).2.1.toNat 0==10 && (safeOf c (getText s at_).1).2)))
  ·exact⟨h2,by simp only[cond_false]; omega,by simp only[cond_false]; omega⟩
  ·simp only[Bool.and_eq_true,decide_eq_true_eq] at hg
   obtain⟨k1,k2,k3,k4⟩:=hg
   obtain⟨t0,t1,t2,t3,t4,t5,t6⟩:=getText_ok k1
   have:=safeOf_w c (getText s at_).1
   exact lastGo_b c s n _ _ (by omega) (by omega)
theorem lastNote_b (c:TConf) (s:List UInt8):wSafe (lastNote c s).1≤s.length∧0≤(lastNote c s).2∧(lastNote c s).2≤(s.length:Int):=lastGo_b c s _ 0 _ (by simp) (by simp[zSafe,wSafe,wQc,wIntS])
theorem wRep_disk {r:TRep} {N:Nat} (h:wRep r≤N):r.2.2.2.2.2.2.1.1.length≤N:=by simp only[wRep,wDisk] at h; omega
theorem wRep_safe {r:TRep} {N:Nat} (h:wRep r≤N):wSafe r.2.2.2.1≤N:=by simp only[wRep] at h; omega
end G448
namespace G448
open Ev Go
def ledgerNew:TLedger:=([100,100,100,100],[0,0,0,0])
theorem new_loop {G:(Int×TLedger×Unit→Option (TLedger×Unit))→Int×TLedger×Unit→Option (TLedger×Unit)}
  (hG : ∀ rec (i:Int) (l:TLedger),G rec (i,l,())=bif decide (i<4) then (if (l.1.length+[(100:Int)].length)*8≤70368744177664 then rec (wr (i+1),(l.1++[100],l.2),()) else none) else some (l,())) :
  iter G fuel (0,([],List.replicate (Int.toNat 4) 0),())=some (ledgerNew,()):=by
 refine (walk 4 (fun i (o:List Int)=>(i,(o,List.replicate (Int.toNat 4) 0),())) (fun i o=>o.length=i) (fun i o=>some ((o++List.replicate (4 - i) 100,List.replicate (Int.toNat 4) 0),())) (by decide) ?_ ?_ (s0:=[]) rfl).trans rfl
 ·intro rec o ho; rw[hG]; simp
 ·intro rec i o hi ho
  right
  refine⟨o++[100],by simp[ho],?_,?_⟩
  ·rw[hG]
   simp only[show ((i:Int)<4) by omega,decide_true,cond_true,List.length_cons,List.length_nil,wr_nat (show i<4611686018427387904 by omega)]
   rw[if_pos (by omega)]
  ·rw[show 4 - i=(4 - (i+1))+1 by omega,List.replicate_succ]; simp
theorem spec_LedgerNew_eq:spec_LedgerNew ()=some (ledgerNew,()):=by
 unfold spec_LedgerNew
 exact new_loop (fun rec i l=>rfl)
def txsIn (s:List UInt8):TTxS:=((steps s).1.map fun x=>x.2).flatten
theorem stepsGo_two : ∀ (ps:List (List UInt8)) (prev:Int) (out:List TStep),(∀ x∈out,x.2.length≤2) → ∀ x∈(stepsGo ps prev out).1,x.2.length≤2
 | [],prev,out,h=>h
 | p::ps,prev,out,h=>by
  simp only[stepsGo]
  cases cutAt 124 p with
  | none=>simp
  | some q=>
   simp only
   split
   ·next hB=>
    refine stepsGo_two ps _ _ ?_
    intro x hx
    rcases List.mem_append.1 hx with hx|hx
    ·exact h x hx
    ·simp only[List.mem_singleton] at hx
     subst hx
     unfold stepB at hB
     simp only[Bool.and_eq_true,decide_eq_true_eq] at hB
     exact hB.2.2.2.2
   ·simp
theorem steps_two (s:List UInt8) : ∀ x∈(steps s).1,x.2.length≤2:=by
 unfold steps
 split
 ·simp
 ·cases pieces 47 s with
  | nil=>simp
  | cons p ps=>
   simp only
   split
   ·exact stepsGo_two _ _ _ (by simp)
   ·simp
theorem foldl_flat : ∀ (l:List TStep) (out:TTxS),l.foldl (fun o x=>o++x.2) out=out++(l.map fun x=>x.2).flatten
 | [],out=>by simp
 | x::l,out=>by rw[List.foldl_cons,foldl_flat l]; simp
theorem txs_in_loop (s:List UInt8) {G:(TTxS×Int×Unit→Option (TTxS×Unit))→TTxS×Int×Unit→Option (TTxS×Unit)}
  (hG : ∀ rec (o:TTxS) (i:Int),G rec (o,i,())=bif decide (i<((steps s).1.length:Int)) then (if 0≤i∧i<((steps s).1.length:Int) then (if (o.length+(rd (.pair .i64 (.sl 0 ETx)) (steps s).1 i.toNat).2.length)*32≤70368744177664 then
   rec (o++(rd (.pair .i64 (.sl 0 ETx)) (steps s).1 i.toNat).2,wr (i+1),()) else none) else none) else some (o,())) :
  iter G fuel ([],0,())=some (txsIn s,()):=by
 have h30:=(steps_props s).2
 have:=fold_loop (fun i (o:TTxS)=>(o,i,())) (steps s).1 (fun o x=>o++x.2) (fun o=>some (o,())) (by omega) (fun i o=>o.length≤2*i) (G:=G) ?_ ?_ (s0:=[]) (by simp)
 ·rw[this,foldl_flat]; rfl
 ·intro rec o ho; rw[hG]; simp
 ·intro rec i o x hx hi ho
  have h2:=steps_two s x (List.mem_of_getElem? hx)
  refine⟨by rw[List.length_append]; omega,?_⟩
  rw[hG]
  simp only[ge_ok hi,decide_true,cond_true,and_self,if_true,Int.toNat_natCast,rd_get (e:=.pair .i64 (.sl 0 ETx)) hx,wr_nat (show i<4611686018427387904 by omega)]
  rw[if_pos (by omega)]
theorem txsIn_len (s:List UInt8):(txsIn s).length≤60:=by
 have h30:=(steps_props s).2
 have h2:=steps_two s
 have key : ∀ l:List TStep,(∀ x∈l,x.2.length≤2)→(l.map fun x=>x.2).flatten.length≤2*l.length:=by
  intro l
  induction l with
  | nil=>simp
  | cons x l ih=>
   intro h
   have a:=h x (by simp)
   have b:=ih (fun y hy=>h y (by simp[hy]))
   simp only[List.map_cons,List.flatten_cons,List.length_append,List.length_cons]
   omega
 have:=key _ h2
 unfold txsIn
 omega
theorem spec_TxsIn_eq (s:List UInt8) (hs:s.length≤137438953472):spec_TxsIn (s,())=some (txsIn s,()):=by
 unfold spec_TxsIn
 simp only[spec_Steps_eq s hs,Option.bind_some]
 exact txs_in_loop s (fun rec o i=>rfl)
def within (lo hi x:Int):Bool:=decide (x≥lo) && decide (x≤hi)
def ledgerOk (l:TLedger):Bool:=decide (l.1.length=4) && (decide (l.2.length=4) && (l.1.all (within 0 400) && l.2.all (within 0 100)))
theorem spec_LedgerOk_eq (l:TLedger):spec_LedgerOk (l,())=some (ledgerOk l,()):=by
 unfold spec_LedgerOk ledgerOk
 dsimp only
 by_cases h1:l.1.length=4
 ·by_cases h2:l.2.length=4
  ·simp only[h1,h2,decide_true,Bool.true_and,show (((4:Nat):Int) != 4)=false from rfl,cond_false]
   refine (walk 4 (fun i (_:Unit)=>(i,())) (fun _ _=>True) (fun i _=>some ((l.1.drop i).all (within 0 400) && (l.2.drop i).all (within 0 100),())) (by decide) ?_ ?_ (s0:=()) trivial).trans (by simp)
   ·intro rec s _
    rw[List.drop_of_length_le (by omega),List.drop_of_length_le (by omega)]; simp
   ·intro rec i s hi _
    have hi1:i<l.1.length:=by omega
    have hi2:i<l.2.length:=by omega
    have hx1:l.1[i]?=some l.1[i]:=List.getElem?_eq_getElem hi1
    have hx2:l.2[i]?=some l.2[i]:=List.getElem?_eq_getElem hi2
    have c1:(0:Int)≤(i:Int):=by omega
    have c2:(i:Int)<4:=by omega
    have c3:(i:Int)<((4:Nat):Int):=by omega
    simp only[c1,c2,c3,decide_true,cond_true,and_self,if_true,Int.toNat_natCast,rd_get (e:=.i64) hx1,rd_get (e:=.i64) hx2,spec_in_eq,Option.bind_some,wr_nat (show i<4611686018427387904 by omega)]
    rw[List.drop_eq_getElem_cons hi1,List.drop_eq_getElem_cons hi2]
    simp only[List.all_cons,within]
    cases (decide (l.1[i]≥0) && decide (l.1[i]≤400))
    ·left; simp
    ·cases (decide (l.2[i]≥0) && decide (l.2[i]≤100))
     ·left; simp
     ·right; exact⟨(),trivial,by simp,by simp⟩
  ·have:(((l.2.length:Nat):Int) != 4)=true:=bne_iff_ne.2 (by omega)
   simp[h1,this,h2]
 ·have:(((l.1.length:Nat):Int) != 4)=true:=bne_iff_ne.2 (by omega)
  simp[this,h1]
theorem ledgerOk_len {l:TLedger} (h:ledgerOk l=true):l.1.length=4∧l.2.length=4:=by
 unfold ledgerOk at h
 simp only[Bool.and_eq_true,decide_eq_true_eq] at h
 exact⟨h.1,h.2.1⟩
noncomputable def pay (l:TLedger) (x:TTx):TLedger×Int:=
 if ledgerOk l=true∧txOk x=true then
  (if x.2.2.2<rd .i64 l.2 x.1.toNat then (l,2) else if x.2.2.2>rd .i64 l.2 x.1.toNat then (l,3) else
   if x.2.2.1>rd .i64 l.1 x.1.toNat then ((l.1,l.2.set x.1.toNat (wr (x.2.2.2+1))),4) else
   let h:=l.1.set x.1.toNat (wr (rd .i64 l.1 x.1.toNat - x.2.2.1))
   let m:TLedger:=(h.set x.2.1.toNat (wr (rd .i64 h x.2.1.toNat+x.2.2.1)),l.2.set x.1.toNat (wr (x.2.2.2+1)))
   if ledgerOk m=true then (m,0) else (l,1))
 else (l,1)
theorem spec_l3Copy_eq (l:TLedger) (h1:l.1.length≤137438953472) (h2:l.2.length≤137438953472):spec_l3Copy (l,())=some (l,()):=by
 unfold spec_l3Copy
 dsimp only
 rw[if_pos (by omega),if_pos (by omega)]; rfl
theorem spec_Pay_eq (l:TLedger) (x:TTx) (h1:l.1.length≤137438953472) (h2:l.2.length≤137438953472):spec_Pay (l,x,())=some ((pay l x).1,(pay l x).2,()):=by
 unfold spec_Pay pay
 simp only[spec_l3Copy_eq l h1 h2,spec_LedgerOk_eq,spec_TxOk_eq,Option.bind_some]
 by_cases hl:ledgerOk l=true
 ·by_cases hx:txOk x=true
  ·obtain⟨⟨b1,b2⟩,⟨b3,b4⟩,_,_⟩:=(txOk_iff x).1 hx
   obtain⟨g1,g2⟩:=ledgerOk_len hl
   have d1:x.1<(l.1.length:Int):=by omega
   have d2:x.1<(l.2.length:Int):=by omega
   have d3:x.2.1<(l.1.length:Int):=by omega
   rw[if_pos (show ledgerOk l=true∧txOk x=true from⟨hl,hx⟩)]
   simp only[hl,hx,Bool.not_true,cond_false,b1,b3,d1,d2,d3,and_self,if_true,List.length_set]
   by_cases e1:x.2.2.2<rd .i64 l.2 x.1.toNat
   ·simp only[e1,decide_true,cond_true,if_true]
   ·simp only[e1,decide_false,cond_false,if_false]
    by_cases e2:x.2.2.2>rd .i64 l.2 x.1.toNat
    ·simp only[e2,decide_true,cond_true,if_true]
    ·simp only[e2,decide_false,cond_false,if_false]
     by_cases e3:x.2.2.1>rd .i64 l.1 x.1.toNat
     ·simp only[e3,decide_true,cond_true,if_true]
     ·simp only[e3,decide_false,cond_false,if_false]
      cases hm:ledgerOk ((l.1.set x.1.toNat (wr (rd .i64 l.1 x.1.toNat - x.2.2.1))).set x.2.1.toNat (wr (rd .i64 (l.1.set x.1.toNat (wr (rd .i64 l.1 x.1.toNat - x.2.2.1))) x.2.1.toNat+x.2.2.1)),l.2.set x.1.toNat (wr (x.2.2.2+1)))
      ·simp
      ·simp
  ·have hx':txOk x=false:=by simpa using hx
   rw[if_neg (show ¬ (ledgerOk l=true∧txOk x=true) from fun h=>hx h.2)]
   simp[hl,hx']
 ·have hl':ledgerOk l=false:=by simpa using hl
  rw[if_neg (show ¬ (ledgerOk l=true∧txOk x=true) from fun h=>hl h.1)]
  simp[hl']
theorem pay_len (l:TLedger) (x:TTx):(pay l x).1.1.length=l.1.length∧(pay l x).1.2.length=l.2.length:=by
 unfold pay
 dsimp only
 repeat' split
 all_goals simp
noncomputable def payF (s:List Int×TLedger) (x:TTx):List Int×TLedger:=(s.1++[(pay s.2 x).2],(pay s.2 x).1)
noncomputable def payAll (l:TLedger) (xs:TTxS):List Int×TLedger:=xs.foldl payF ([],l)
theorem payAll_loop {f:TLedger×TTx×Unit→Option (TLedger×Int×Unit)} (l:TLedger) (xs:TTxS) (h1:l.1.length≤137438953472) (h2:l.2.length≤137438953472) (hxs:xs.length≤137438953472)
  (hf : ∀ l x,l.1.length≤137438953472→l.2.length≤137438953472→f (l,x,())=some ((pay l x).1,(pay l x).2,()))
  {G:(List Int×Int×TLedger×Unit→Option (TLedger×List Int×Unit))→List Int×Int×TLedger×Unit→Option (TLedger×List Int×Unit)}
  (hG : ∀ rec (o:List Int) (i:Int) (m:TLedger),G rec (o,i,m,())=bif decide (i<(xs.length:Int)) then (if 0≤i∧i<(xs.length:Int) then (f (m,rd ETx xs i.toNat,())).bind fun r2=>
   (if (o.length+[r2.2.1].length)*8≤70368744177664 then rec (o++[r2.2.1],wr (i+1),r2.1,()) else none) else none) else some (m,o,())) :
  iter G fuel ([],0,l,())=some ((payAll l xs).2,(payAll l xs).1,()):=by
 refine fold_loop (fun i (s:List Int×TLedger)=>(s.1,i,s.2,())) xs payF (fun s=>some (s.2,s.1,())) (by omega) (fun i s=>s.1.length=i∧s.2.1.length≤137438953472∧s.2.2.length≤137438953472) (G:=G) ?_ ?_ (s0:=([],l)) ⟨rfl,h1,h2⟩
 ·intro rec s hs; rw[hG]; simp
 ·intro rec i s x hx hi hs
  obtain⟨k1,k2,k3⟩:=hs
  obtain⟨p1,p2⟩:=pay_len s.2 x
  refine⟨⟨by simp[payF,k1],by simp only[payF]; omega,by simp only[payF]; omega⟩,?_⟩
  rw[hG]
  simp only[ge_ok hi,decide_true,cond_true,and_self,if_true,Int.toNat_natCast,rd_get (e:=ETx) hx,hf s.2 x k2 k3,Option.bind_some,wr_nat (show i<4611686018427387904 by omega),List.length_cons,List.length_nil]
  rw[if_pos (by omega)]
  rfl
theorem spec_PayAll_eq (l:TLedger) (xs:TTxS) (h1:l.1.length≤137438953472) (h2:l.2.length≤137438953472) (hxs:xs.length≤137438953472):spec_PayAll (l,xs,())=some ((payAll l xs).2,(payAll l xs).1,()):=by
 unfold spec_PayAll
 rw[spec_l3Copy_eq l h1 h2,Option.bind_some]
 exact payAll_loop (f:=spec_Pay) l xs h1 h2 hxs spec_Pay_eq (fun rec o i m=>by dsimp only)
theorem payF_len : ∀ (xs:TTxS) (s:List Int×TLedger),(xs.foldl payF s).2.1.length=s.2.1.length∧(xs.foldl payF s).2.2.length=s.2.2.length∧(xs.foldl payF s).1.length=s.1.length+xs.length
 | [],s=>by simp
 | x::xs,s=>by
  obtain⟨a,b,c⟩:=payF_len xs (payF s x)
  obtain⟨p1,p2⟩:=pay_len s.2 x
  rw[List.foldl_cons]
  refine⟨a.trans p1,b.trans p2,c.trans ?_⟩
  simp only[payF,List.length_append,List.length_cons,List.length_nil]; omega
noncomputable def state (c:TConf) (r:TRep):TLedger:=bif repOk c r then (payAll ledgerNew (txsIn r.2.2.2.1.2.2.2)).2 else ([],[])
theorem spec_State_eq (c:TConf) (r:TRep) (hw:wRep r≤137438953472):spec_State (c,r,())=some (state c r,()):=by
 have hs:=wRep_safe hw
 have hl:=txsIn_len r.2.2.2.1.2.2.2
 unfold spec_State state
 simp only[spec_RepOk_eq c r hw,spec_LedgerNew_eq,spec_TxsIn_eq r.2.2.2.1.2.2.2 (by simp only[wSafe] at hs; omega),spec_PayAll_eq ledgerNew _ (by decide) (by decide) (show (txsIn r.2.2.2.1.2.2.2).length≤137438953472 by omega),Option.bind_some]
 cases repOk c r<;>rfl
theorem state_w (c:TConf) (r:TRep):wLedger (state c r)≤8:=by
 unfold state
 cases repOk c r
 ·simp[wLedger,wIntS]
 ·obtain⟨a,b,_⟩:=payF_len (txsIn r.2.2.2.1.2.2.2) ([],ledgerNew)
  simp only[cond_true,wLedger,wIntS,payAll,a,b]
  decide
noncomputable def sureNow (c:TConf) (r:TRep):TRep×TPostS:=bif repOk c r then ((r.1,r.2.1,r.2.2.1,r.2.2.2.1,r.2.2.2.2.1,r.2.2.2.2.2.1,syncM r.2.2.2.2.2.2.1,[]),r.2.2.2.2.2.2.2) else (r,[])
theorem spec_SureNow_eq (c:TConf) (r:TRep) (hw:wRep r≤137438953472):spec_SureNow (c,r,())=some ((sureNow c r).1,(sureNow c r).2,()):=by
 have h1:=wRep_disk hw
 have h2:wPostS r.2.2.2.2.2.2.2≤137438953472:=by simp only[wRep] at hw; omega
 unfold spec_SureNow sureNow
 simp only[spec_l15Copy_eq r hw,spec_RepOk_eq c r hw,spec_Sync_eq r.2.2.2.2.2.2.1 (by omega),spec_l15Posts_eq _ h2,Option.bind_some]
 cases repOk c r<;>rfl
theorem syncM_len (d:TDisk):(syncM d).1.length=d.1.length:=by
 unfold syncM; split<;>rfl
theorem sureNow_w (c:TConf) (r:TRep):wRep (sureNow c r).1≤wRep r∧wPostS (sureNow c r).2≤wRep r:=by
 unfold sureNow
 cases repOk c r
 ·simp only[cond_false]; exact⟨Nat.le_refl _,by simp[wPostS]⟩
 ·have:=syncM_len r.2.2.2.2.2.2.1
  simp only[cond_true,wRep,wDisk,this]
  refine⟨?_,by omega⟩
  have:wPostS []=0:=rfl
  omega
end G448
namespace G448
open Ev Go
abbrev ERep:Ty:=.pair .i64 (.pair .i64 (.pair .i64 (.pair (.pair .i64 (.pair .i64 (.pair (.pair .i64 (.pair .str (.sl 0 .i64))) .str))) (.pair (.sl 0 (.pair .i64 (.pair .i64 (.pair .i64 .i64)))) (.pair (.sl 0 (.pair .i64 (.pair .str (.sl 0 .i64)))) (.pair (.pair (.sl 0 .u8) .i64) (.sl 0 (.pair .i64 (.pair .i64 (.pair .i64 (.pair (.pair .str (.pair .i64 (.pair .str (.sl 0 .i64)))) (.pair (.pair .i64 (.pair .str (.sl 0 .i64))) (.pair (.pair .i64 (.pair .str (.sl 0 .i64))) (.pair .i64 (.pair .i64 (.pair .i64 (.pair .i64 .i64)))))))))))))))))
abbrev EWire:Ty:=.pair .i64 (.sl 0 .u8)
abbrev ESaid:Ty:=.pair .i64 (.pair .str .i64)
def idxAll {α:Type} (p:Nat→α→Bool):Nat→List α→Bool
 | _,[]=>true
 | i,x::l=>p i x && idxAll p (i+1) l
theorem idxK_loop {α:Type} (p:Nat→α→Bool) (l:List α) (K:Option (Bool×Unit)) {G:(Int×Unit→Option (Bool×Unit))→Int×Unit→Option (Bool×Unit)} (hl:l.length≤1152921504606846976)
  (hend : ∀ rec,G rec ((l.length:Int),())=K)
  (hstep : ∀ rec (i:Nat) x,l[i]?=some x→i<l.length→G rec ((i:Int),())=bif p i x then rec ((i:Int)+1,()) else some (false,())) :
  iter G fuel (0,())=bif idxAll p 0 l then K else some (false,()):=by
 refine (walk l.length (fun i (_:Unit)=>(i,())) (fun _ _=>True) (fun i _=>bif idxAll p i (l.drop i) then K else some (false,())) hl ?_ ?_ (s0:=()) trivial).trans (by simp only[List.drop_zero])
 ·intro rec s _; rw[hend,List.drop_length]; rfl
 ·intro rec i s hi _
  rw[hstep rec i l[i] (List.getElem?_eq_getElem hi) hi,List.drop_eq_getElem_cons hi]
  simp only[idxAll]
  cases p i l[i]
  ·left; rfl
  ·right; exact⟨(),trivial,rfl,rfl⟩
theorem iter_first {S R:Type} (G:(S→Option R)→S→Option R) (x:S) : ∃ n,iter G fuel x=G (iter G n) x:=by
 obtain⟨n,hn⟩ : ∃ n,fuel=n+1:=⟨18446744073709551615,by rw[fuel_def]⟩
 rw[hn]
 exact⟨n,rfl⟩
def faults (c:TConf):Int:=if confOk c=true then (c.1 - 1) / 3 else 0
theorem spec_Faults_eq (c:TConf):spec_Faults (c,())=some (faults c,()):=by
 unfold spec_Faults faults
 simp only[spec_ConfOk_eq,Option.bind_some]
 by_cases h:confOk c=true
 ·obtain⟨h1,h2⟩:=confOk_b h
  have e1:wr (c.1 - 1)=c.1 - 1:=wr_id' (by omega) (by omega)
  have e2:Int.tdiv (c.1 - 1) 3=(c.1 - 1) / 3:=Int.tdiv_eq_ediv_of_nonneg (by omega)
  simp only[h,Bool.not_true,cond_false,if_true,e1,e2]
  rw[wr_id' (n:=(c.1 - 1) / 3) (by omega) (by omega)]
 ·have h':confOk c=false:=by simpa using h
  simp[h']
noncomputable def repAt (c:TConf) (i:Nat) (r:TRep):Bool:=repOk c r && r.1==(i:Int)
noncomputable def wireOk (c:TConf) (_:Nat) (x:TWire):Bool:=(msgOf c x.2).2 && (decide (x.1≥0) && decide (x.1≤c.1 - 1))
def saidOk (c:TConf) (_:Nat) (s:TSaid):Bool:=(decide (s.2.2≥0) && decide (s.2.2≤c.1 - 1)) && (nameOk s.2.1 && viewOf s.2.1==s.1)
noncomputable def worldOk (w:TWorld):Bool:=
 confOk w.1 && (setOk w.1.1 w.2.1 && (decide ((w.2.1.length:Int)≤faults w.1) && (((w.2.2.1.length:Int)==w.1.1) && (decide ((w.2.2.2.1.length:Int)≤60) && (decide ((w.2.2.2.2.length:Int)≤300) &&
  (idxAll (repAt w.1) 0 w.2.2.1 && (idxAll (wireOk w.1) 0 w.2.2.2.1 && idxAll (saidOk w.1) 0 w.2.2.2.2)))))))
def WB (N:Nat) (w:TWorld):Prop:=
 (w.2.1.length≤137438953472∧w.2.2.1.length≤137438953472∧w.2.2.2.1.length≤137438953472∧w.2.2.2.2.length≤137438953472)∧(∀ r∈w.2.2.1,wRep r≤N)∧(∀ x∈w.2.2.2.1,x.2.length≤1073741824)∧(∀ s∈w.2.2.2.2,s.2.1.length≤N)
theorem WB.of {w:TWorld} {N:Nat} (h:wWorld w≤N) (hN:N≤1073741824):WB N w:=by
 simp only[wWorld,wIntS,wRepS,wWireS,wSaidS] at h
 refine⟨⟨by omega,by omega,by omega,by omega⟩,fun r hr => ?_,fun x hx => ?_,fun s hs => ?_⟩
 ·have:=sum_mem wRep hr; omega
 ·have:=sum_mem wWire hx; simp only[wWire,wByteS] at this; omega
 ·have:=sum_mem wSaid hs; simp only[wSaid] at this; omega
theorem ne_not (a b:Int):(a != b) = !(a==b):=rfl
theorem spec_WorldOk_eq (w:TWorld) (hb:WB 137438953472 w):spec_WorldOk (w,())=some (worldOk w,()):=by
 obtain⟨⟨l1,l2,l3,l4⟩,br,bx,bs⟩:=hb
 unfold spec_WorldOk worldOk
 simp only[spec_ConfOk_eq,Option.bind_some]
 cases hc:confOk w.1
 ·rfl
 obtain⟨hc1,hc2⟩:=confOk_b hc
 have e1:wr (w.1.1 - 1)=w.1.1 - 1:=wr_id' (by omega) (by omega)
 simp only[Bool.not_true,cond_false,Bool.true_and,e1,spec_SetOk_eq _ _ l1,spec_Faults_eq,spec_in_eq,Option.bind_some,gt_le ((w.2.1.length:Nat):Int) _,gt_le ((w.2.2.2.1.length:Nat):Int) 60,gt_le ((w.2.2.2.2.length:Nat):Int) 300,ne_not ((w.2.2.1.length:Nat):Int) w.1.1]
 cases setOk w.1.1 w.2.1
 ·rfl
 cases decide ((w.2.1.length:Int)≤faults w.1)
 ·rfl
 cases ((w.2.2.1.length:Int)==w.1.1)
 ·rfl
 cases decide ((w.2.2.2.1.length:Int)≤60)
 ·rfl
 cases decide ((w.2.2.2.2.length:Int)≤300)
 ·rfl
 simp only[Bool.not_true,cond_false,Bool.true_and]
 refine (idxK_loop (repAt w.1) w.2.2.1 (bif idxAll (wireOk w.1) 0 w.2.2.2.1 then (bif idxAll (saidOk w.1) 0 w.2.2.2.2 then some (true,()) else some (false,())) else some (false,())) (by omega) ?_ ?_).trans ?_
 ·intro rec
  simp only[Int.lt_irrefl,decide_false,cond_false]
  refine idxK_loop (wireOk w.1) w.2.2.2.1 (bif idxAll (saidOk w.1) 0 w.2.2.2.2 then some (true,()) else some (false,())) (by omega) ?_ ?_
  ·intro rec
   simp only[Int.lt_irrefl,decide_false,cond_false]
   refine idxK_loop (saidOk w.1) w.2.2.2.2 (some (true,())) (by omega) ?_ ?_
   ·intro rec; simp only[Int.lt_irrefl,decide_false,cond_false]
   ·intro rec i s hx hi
    have hs:=bs s (List.mem_of_getElem? hx)
    simp only[ge_ok hi,decide_true,cond_true,and_self,if_true,Int.toNat_natCast,rd_get (e:=ESaid) hx,spec_NameOk_eq s.2.1 hs,spec_ViewOf_eq s.2.1 hs,Option.bind_some,wr_nat (show i<4611686018427387904 by omega),saidOk,ne_not]
    cases (decide (s.2.2≥0) && decide (s.2.2≤w.1.1 - 1))<;>cases nameOk s.2.1<;>cases (viewOf s.2.1==s.1)<;>rfl
  ·intro rec i x hx hi
   have hs:=bx x (List.mem_of_getElem? hx)
   simp only[ge_ok hi,decide_true,cond_true,and_self,if_true,Int.toNat_natCast,rd_get (e:=EWire) hx,spec_MsgOf_eq w.1 x.2 hs,Option.bind_some,wr_nat (show i<4611686018427387904 by omega),wireOk]
   cases (msgOf w.1 x.2).2<;>cases (decide (x.1≥0) && decide (x.1≤w.1.1 - 1))<;>rfl
 ·intro rec i r hx hi
  have hs:=br r (List.mem_of_getElem? hx)
  simp only[ge_ok hi,decide_true,cond_true,and_self,if_true,Int.toNat_natCast,rd_get (e:=ERep) hx,spec_RepOk_eq w.1 r hs,Option.bind_some,wr_nat (show i<4611686018427387904 by omega),repAt,ne_not]
  cases repOk w.1 r<;>cases (r.1==(i:Int))<;>rfl
 ·cases idxAll (repAt w.1) 0 w.2.2.1<;>cases idxAll (wireOk w.1) 0 w.2.2.2.1<;>cases idxAll (saidOk w.1) 0 w.2.2.2.2<;>rfl
theorem WB.mono {w:TWorld} {N M:Nat} (h:WB N w) (hm:N≤M):WB M w:=⟨h.1,fun r hr=>Nat.le_trans (h.2.1 r hr) hm,h.2.2.1,fun s hs=>Nat.le_trans (h.2.2.2 s hs) hm⟩
noncomputable def newReps (c:TConf):TRepS:=if confOk c=true then (List.range c.1.toNat).map (fun (i:Nat)=>(repNew c (i:Int)).1) else []
noncomputable def newWorld (c:TConf) (liars:TIntS):TWorld:=(c,liars,newReps c,[],[])
def zWorld:TWorld:=((0,0),[],[],[],[])
noncomputable def worldNew (c:TConf) (liars:TIntS):TWorld×Bool:=bif worldOk (newWorld c liars) then (newWorld c liars,true) else (zWorld,false)
theorem newReps_len (c:TConf):(newReps c).length≤7:=by
 unfold newReps
 split
 ·next h=>have:=confOk_b h; simp; omega
 ·simp
theorem newReps_w (c:TConf) : ∀ r∈newReps c,wRep r=0:=by
 unfold newReps
 split
 ·intro r hr
  obtain⟨i,_,rfl⟩:=List.mem_map.1 hr
  exact repNew_w c i
 ·simp
theorem newWorld_WB (c:TConf) (liars:TIntS) (h:liars.length≤137438953472):WB 1073741824 (newWorld c liars):=by
 have h1:=newReps_len c
 refine⟨⟨h,by simp only[newWorld]; omega,by simp[newWorld],by simp[newWorld]⟩,fun r hr => ?_,fun x hx => ?_,fun s hs => ?_⟩
 ·have:=newReps_w c r hr; omega
 ·simp[newWorld] at hx
 ·simp[newWorld] at hs
theorem new_step {c:TConf} (h:confOk c=true) {n:Nat} (hn:c.1=(n:Int)) (liars:TIntS):newWorld c liars=(c,liars,(List.range' 0 n).map (fun (i:Nat)=>(repNew c (i:Int)).1),[],[]):=by
 unfold newWorld newReps
 rw[if_pos h,hn,Int.toNat_natCast,List.range_eq_range']
theorem spec_WorldNew_eq (c:TConf) (liars:TIntS) (hl:liars.length≤137438953472):spec_WorldNew (c,liars,())=some ((worldNew c liars).1,(worldNew c liars).2,()):=by
 have hok : ∀ w:TWorld,w=newWorld c liars→((spec_WorldOk (w,())).bind fun r4=>(bif (!r4.1) then some (((0,0),([],([],([],[])))),(false,())) else some (w,(true,()))))=some ((worldNew c liars).1,(worldNew c liars).2,()):=by
  rintro w rfl
  rw[spec_WorldOk_eq _ ((newWorld_WB c liars hl).mono (by decide)),Option.bind_some]
  unfold worldNew
  cases worldOk (newWorld c liars)<;>rfl
 unfold spec_WorldNew
 dsimp only
 rw[if_pos (by omega)]
 simp only[spec_ConfOk_eq,Option.bind_some,List.nil_append]
 by_cases hc:confOk c=true
 ·obtain⟨h1,h2⟩:=confOk_b hc
  obtain⟨n,hn⟩ : ∃ n:Nat,c.1=(n:Int):=⟨c.1.toNat,by omega⟩
  simp only[hc,cond_true,hn]
  refine (walk n (fun i (o:TRepS)=>(i,(c,liars,o,[],[]),())) (fun i o=>o=(List.range' 0 i).map (fun (i:Nat)=>(repNew c (i:Int)).1)) (fun i o=>some ((worldNew c liars).1,(worldNew c liars).2,())) (by omega) ?_ ?_ (s0:=[]) rfl)
  ·rintro rec o rfl
   simp only[Int.lt_irrefl,decide_false,cond_false]
   exact hok _ (new_step hc hn liars).symm
  ·rintro rec i o hi rfl
   right
   refine⟨_,rfl,?_,rfl⟩
   simp only[show ((i:Int)<(n:Int)) by omega,decide_true,cond_true,spec_RepNew_eq,Option.bind_some,wr_nat (show i<4611686018427387904 by omega),List.length_cons,List.length_nil,List.length_map,List.length_range']
   rw[if_pos (by omega)]
   congr 3
   rw[List.range'_concat]; simp
 ·have hc':confOk c=false:=by simpa using hc
  have e:newWorld c liars=(c,liars,[],[],[]):=by unfold newWorld newReps; rw[if_neg hc]
  refine (iter_first _ _).elim fun m hm=>hm.trans ?_
  simp only[hc',cond_false]
  rw[hok _ e.symm]
  cases decide ((0:Int)<c.1)<;>rfl
end G448
namespace G448
open Ev Go
noncomputable def riseV (s:TSafe):Int:=min (max (max s.1 (wr (s.2.2.1.1+1))) 1) 60
noncomputable def rise (c:TConf) (r:TRep):TRep:=
 bif repOk c r then
  let n:=lastNote c r.2.2.2.2.2.2.1.1
  (r.1,riseV n.1,0,n.1,[],[],(r.2.2.2.2.2.2.1.1.take n.2.toNat,n.2),[])
 else r
theorem l1MinM_eq (a b:Int):spec_l1Min (a,b,())=some (min a b,()):=by
 rw[l1Min_eq]; congr 2; split<;>omega
theorem spec_Rise_eq (c:TConf) (r:TRep) (hw:wRep r≤1073741824):spec_Rise (c,r,())=some (rise c r,()):=by
 have h1:=wRep_disk hw
 obtain⟨b1,b2,b3⟩:=lastNote_b c r.2.2.2.2.2.2.1.1
 unfold spec_Rise rise
 simp only[spec_RepOk_eq c r (by omega),spec_l15Copy_eq r (by omega),spec_LastNote_eq c _ h1,spec_max_eq,l1MinM_eq,Option.bind_some]
 cases repOk c r
 ·rfl
 ·simp only[Bool.not_true,cond_false,cond_true]
  rw[if_pos (by omega),if_pos (by simp only[List.length_take,List.length_drop]; omega)]
  simp only[Int.toNat_zero,List.drop_zero,Nat.sub_zero,List.nil_append,riseV]
  congr 4
  omega
def firstAt {α:Type} (q:α→Bool):Nat→List α→Nat
 | i,[]=>i
 | i,x::l=>bif q x then i else firstAt q (i+1) l
theorem firstAt_le {α:Type} (q:α→Bool) : ∀ (l:List α) (i:Nat),i≤firstAt q i l∧firstAt q i l≤i+l.length
 | [],i=>by simp[firstAt]
 | x::l,i=>by
  have:=firstAt_le q l (i+1)
  simp only[firstAt,List.length_cons]
  cases q x<;>simp only[cond_true,cond_false]<;>omega
def poolAt (p:TTxS) (x:TTx) (k:Nat):TTxS×Bool:=bif poolOk (p.take k++x::p.drop k) then (p.take k++x::p.drop k,true) else (p,false)
def poolAdd (p:TTxS) (x:TTx):TTxS×Bool:=poolAt p x (firstAt (fun y => !beforeTx y x) 0 p)
theorem spec_PoolAdd_eq (p:TTxS) (x:TTx) (hp:p.length≤137438953471):spec_PoolAdd (p,x,())=some ((poolAdd p x).1,(poolAdd p x).2,()):=by
 unfold spec_PoolAdd poolAdd
 dsimp only
 have hfin : ∀ k:Nat,k≤p.length→(if (((0:Int)≤0)∧((0≤(k:Int))∧((k:Int)≤(p.length:Int)))) then (if (((0+(List.length (List.take ((Int.toNat (k:Int)) - (Int.toNat 0)) (List.drop (Int.toNat 0) p))))*32)≤70368744177664) then
   (if ((((List.length ([]++(List.take ((Int.toNat (k:Int)) - (Int.toNat 0)) (List.drop (Int.toNat 0) p))))+(List.length (x::[])))*32)≤70368744177664) then (if ((0≤(k:Int))∧(((k:Int)≤(p.length:Int))∧((p.length:Int)≤(p.length:Int)))) then
   (if ((((List.length (([]++(List.take ((Int.toNat (k:Int)) - (Int.toNat 0)) (List.drop (Int.toNat 0) p)))++(x::[])))+(List.length (List.take ((Int.toNat (p.length:Int)) - (Int.toNat (k:Int))) (List.drop (Int.toNat (k:Int)) p))))*32)≤70368744177664) then
   ((spec_PoolOk (((([]++(List.take ((Int.toNat (k:Int)) - (Int.toNat 0)) (List.drop (Int.toNat 0) p)))++(x::[]))++(List.take ((Int.toNat (p.length:Int)) - (Int.toNat (k:Int))) (List.drop (Int.toNat (k:Int)) p))),())).bind fun r2=>(bif (!r2.1) then (if (((0+(List.length p))*32)≤70368744177664) then some (([]++p),(false,())) else none) else
   some (((([]++(List.take ((Int.toNat (k:Int)) - (Int.toNat 0)) (List.drop (Int.toNat 0) p)))++(x::[]))++(List.take ((Int.toNat (p.length:Int)) - (Int.toNat (k:Int))) (List.drop (Int.toNat (k:Int)) p))),(true,())))) else none) else none) else none) else none) else none)=some ((poolAt p x k).1,(poolAt p x k).2,()):=by
  intro k hk
  simp only[Int.toNat_natCast,Int.toNat_zero,Nat.sub_zero,List.drop_zero,List.nil_append]
  have e:List.take (p.length - k) (p.drop k)=p.drop k:=List.take_of_length_le (by simp)
  rw[e]
  simp only[List.length_take,List.length_append,List.length_cons,List.length_nil,List.length_drop]
  rw[if_pos (by omega),if_pos (by omega),if_pos (by omega),if_pos (by omega),if_pos (by omega),if_pos (by omega)]
  rw[spec_PoolOk_eq _ (by simp only[List.length_append,List.length_take,List.length_cons,List.length_nil,List.length_drop]; omega),Option.bind_some]
  unfold poolAt
  rw[show p.take k++[x]++p.drop k=p.take k++x::p.drop k by simp]
  cases poolOk (p.take k++x::p.drop k)<;>rfl
 refine (walk p.length (fun i (_:Unit)=>(i,())) (fun _ _=>True) (fun i _=>some ((poolAt p x (firstAt (fun y => !beforeTx y x) i (p.drop i))).1,(poolAt p x (firstAt (fun y => !beforeTx y x) i (p.drop i))).2,())) (by omega) ?_ ?_ (s0:=()) trivial).trans (by simp only[List.drop_zero])
 ·intro rec s _
  rw[List.drop_length]
  simp only[Int.lt_irrefl,decide_false,cond_false,firstAt]
  exact hfin p.length (Nat.le_refl _)
 ·intro rec i s hi _
  have hx:p[i]?=some p[i]:=List.getElem?_eq_getElem hi
  rw[List.drop_eq_getElem_cons hi]
  simp only[(ge_ok hi).2,decide_true,cond_true]
  rw[if_pos (show (0:Int)≤(i:Int)∧True from⟨by omega,trivial⟩)]
  simp only[Int.toNat_natCast,rd_get (e:=ETx) hx,spec_l4Before_eq,Option.bind_some,wr_nat (show i<4611686018427387904 by omega),firstAt]
  cases hb:beforeTx p[i] x
  ·left
   have:=hfin i (by omega)
   simp only[Int.toNat_natCast] at this
   simp only[cond_false,Bool.not_false,cond_true]
   exact this
  ·right
   exact⟨(),trivial,by simp only[cond_true],by simp only[Bool.not_true,cond_false]⟩
noncomputable def hearTx (c:TConf) (r:TRep) (x:TTx):TRep×Bool:=
 bif repOk c r then ((r.1,r.2.1,r.2.2.1,r.2.2.2.1,(poolAdd r.2.2.2.2.1 x).1,r.2.2.2.2.2),(poolAdd r.2.2.2.2.1 x).2) else (r,false)
theorem poolAdd_no {p:TTxS} {x:TTx} (h:(poolAdd p x).2=false):(poolAdd p x).1=p:=by
 unfold poolAdd poolAt at *
 generalize firstAt (fun y => !beforeTx y x) 0 p=k at *
 cases hk:poolOk (p.take k++x::p.drop k)
 ·rfl
 ·rw[hk] at h; cases h
theorem poolAdd_len (p:TTxS) (x:TTx):(poolAdd p x).1.length≤p.length+1:=by
 have h1:=(firstAt_le (fun y => !beforeTx y x) p 0).2
 unfold poolAdd poolAt
 generalize firstAt (fun y => !beforeTx y x) 0 p=k at *
 cases hk:poolOk (p.take k++x::p.drop k)
 ·simp
 ·simp only[cond_true,List.length_append,List.length_take,List.length_cons,List.length_drop]; omega
theorem wRep_pool {r:TRep} {N:Nat} (h:wRep r≤N):r.2.2.2.2.1.length≤N:=by simp only[wRep,wTxS] at h; omega
theorem spec_HearTx_eq (c:TConf) (r:TRep) (x:TTx) (hw:wRep r≤137438953471):spec_HearTx (c,r,x,())=some ((hearTx c r x).1,(hearTx c r x).2,()):=by
 have h1:=wRep_pool hw
 unfold spec_HearTx hearTx
 simp only[spec_l15Copy_eq r (by omega),spec_RepOk_eq c r (by omega),spec_PoolAdd_eq r.2.2.2.2.1 x h1,Option.bind_some]
 cases repOk c r
 ·rfl
 ·cases hp:(poolAdd r.2.2.2.2.1 x).2
  ·rw[poolAdd_no hp]; rfl
  ·rfl
end G448
namespace G448
open Ev Go
def tableGet (l:TPartS) (v:Int) (name:List UInt8):TPart:=match l.find? (fun p=>p.1==v && p.2.1==name) with|some p=>p|none=>(v,name,[])
theorem spec_TableGet_eq (l:TPartS) (v:Int) (name:List UInt8) (hw:wPartS l≤137438953472):spec_TableGet (l,v,name,())=some (tableGet l v name,()):=by
 have hl:l.length≤137438953472:=by unfold wPartS at hw; omega
 unfold spec_TableGet tableGet
 refine (walk l.length (fun i (z:TPart)=>(i,z,())) (fun _ _=>True) (fun i _=>some ((match (l.drop i).find? (fun p=>p.1==v && p.2.1==name) with|some p=>p|none=>(v,name,[])),())) (by omega) ?_ ?_ (s0:=(0,[],[])) trivial).trans (by simp only[List.drop_zero])
 ·intro rec s _
  rw[List.drop_length]
  simp only[Int.lt_irrefl,decide_false,cond_false,List.find?_nil]
 ·intro rec i s hi _
  have hx:l[i]?=some l[i]:=List.getElem?_eq_getElem hi
  have hy:=wPart_mem hw hx
  rw[List.drop_eq_getElem_cons hi]
  simp only[ge_ok hi,decide_true,cond_true,and_self,if_true,Int.toNat_natCast,rd_get (e:=EPart) hx,spec_l10Copy_eq l[i] hy,Option.bind_some,wr_nat (show i<4611686018427387904 by omega),List.find?_cons]
  by_cases h1:l[i].1=v
  ·have e1:(l[i].1==v)=true:=beq_iff_eq.2 h1
   by_cases h2:l[i].2.1=name
   ·have e2:(l[i].2.1==name)=true:=beq_iff_eq.2 h2
    left; simp only[e1,e2,cond_true,Bool.and_self]
   ·have e2:(l[i].2.1==name)=false:=beq_eq_false_iff_ne.2 h2
    right; exact⟨s,trivial,by simp only[e1,e2,cond_true,cond_false],by simp only[e1,e2,Bool.and_false]⟩
  ·have e1:(l[i].1==v)=false:=beq_eq_false_iff_ne.2 h1
   right; exact⟨s,trivial,by simp only[e1,cond_false],by simp only[e1,Bool.false_and]⟩
noncomputable def takeGo:TTxS→TTxS→TLedger→TTxS
 | [],out,_=>out
 | x::xs,out,l=>if out.length=2 then out else if (pay l x).2=0∨(pay l x).2=4 then takeGo xs (out++[x]) (pay l x).1 else takeGo xs out l
noncomputable def poolTake (p:TTxS) (l:TLedger):TTxS:=takeGo p [] l
theorem takeGo_len : ∀ (xs out:TTxS) (l:TLedger),out.length≤2→(takeGo xs out l).length≤2
 | [],out,l,h=>h
 | x::xs,out,l,h=>by
  simp only[takeGo]
  split
  ·exact h
  ·split
   ·exact takeGo_len xs _ _ (by simp; omega)
   ·exact takeGo_len xs _ _ h
theorem spec_PoolTake_eq (p:TTxS) (l:TLedger) (hp:p.length≤137438953472) (h1:l.1.length≤137438953472) (h2:l.2.length≤137438953472):spec_PoolTake (p,l,())=some (poolTake p l,()):=by
 unfold spec_PoolTake poolTake
 dsimp only
 rw[spec_l3Copy_eq l h1 h2,Option.bind_some]
 refine (walk p.length (fun i (s:TTxS×TLedger)=>(s.1,i,s.2,())) (fun _ s=>s.1.length≤2∧s.2.1.length≤137438953472∧s.2.2.length≤137438953472) (fun i s=>some (takeGo (p.drop i) s.1 s.2,())) (by omega) ?_ ?_ (s0:=([],l)) ⟨by simp,h1,h2⟩).trans (by simp only[List.drop_zero])
 ·intro rec s _
  rw[List.drop_length]
  simp only[Int.lt_irrefl,decide_false,cond_false,takeGo]
 ·intro rec i s hi hs
  obtain⟨k1,k2,k3⟩:=hs
  obtain⟨p1,p2⟩:=pay_len s.2 p[i]
  have hx:p[i]?=some p[i]:=List.getElem?_eq_getElem hi
  rw[List.drop_eq_getElem_cons hi]
  simp only[ge_ok hi,decide_true,cond_true,and_self,if_true,Int.toNat_natCast,rd_get (e:=ETx) hx,spec_Pay_eq s.2 p[i] k2 k3,Option.bind_some,wr_nat (show i<4611686018427387904 by omega),takeGo,List.length_cons,List.length_nil]
  by_cases hf:s.1.length=2
  ·left
   have:decide ((s.1.length:Int)<2)=false:=by simp; omega
   rw[if_pos hf]
   simp only[this,cond_false]
  ·have:decide ((s.1.length:Int)<2)=true:=by simp; omega
   simp only[this,cond_true,hf,if_false]
   rw[if_pos (by omega)]
   by_cases c0:(pay s.2 p[i]).2=0
   ·right
    refine⟨(s.1++[p[i]],(pay s.2 p[i]).1),⟨by simp; omega,by simp only; omega,by simp only; omega⟩,?_,?_⟩
    ·simp only[c0,beq_self_eq_true,cond_true]
    ·rw[if_pos (.inl c0)]
   ·have e0:((pay s.2 p[i]).2==0)=false:=beq_eq_false_iff_ne.2 c0
    by_cases c4:(pay s.2 p[i]).2=4
    ·right
     refine⟨(s.1++[p[i]],(pay s.2 p[i]).1),⟨by simp; omega,by simp only; omega,by simp only; omega⟩,?_,?_⟩
     ·simp only[c4,beq_self_eq_true,cond_true,show ((4:Int)==0)=false from rfl,cond_false]
     ·rw[if_pos (.inr c4)]
    ·have e4:((pay s.2 p[i]).2==4)=false:=beq_eq_false_iff_ne.2 c4
     right
     refine⟨s,⟨k1,k2,k3⟩,?_,?_⟩
     ·simp only[e0,e4,cond_false]
     ·rw[if_neg (by rintro (h|h); exact c0 h; exact c4 h)]
def txsTail (l:TTxS):List UInt8:=(l.map fun x=>44::txText x).flatten
def txsBody:TTxS→List UInt8
 | []=>[]
 | x::r=>txText x++txsTail r
def txsText (l:TTxS):List UInt8:=bif l.all txOk then txsBody l else []
def tailAt (i:Nat) (l:TTxS):List UInt8:=if i=0 then txsBody l else txsTail l
theorem txsTail_len : ∀ l:TTxS,(txsTail l).length≤28*l.length
 | []=>by simp[txsTail]
 | x::l=>by
  have h1:=txText_len x
  have h2:=txsTail_len l
  simp only[txsTail,List.map_cons,List.flatten_cons,List.length_append,List.length_cons] at *
  omega
theorem txsText_len (l:TTxS):(txsText l).length≤28*l.length:=by
 unfold txsText
 cases l.all txOk
 ·simp
 ·cases l with
  | nil=>simp[txsBody]
  | cons x r=>
   have h1:=txText_len x
   have h2:=txsTail_len r
   simp only[cond_true,txsBody,List.length_append,List.length_cons]
   omega
theorem spec_TxsText_eq (l:TTxS) (hl:l.length≤1000000):spec_TxsText (l,())=some (txsText l,()):=by
 unfold spec_TxsText txsText
 refine (walk l.length (fun i (o:List UInt8)=>(o,i,())) (fun i o=>o.length≤28*i) (fun i o=>some ((bif (l.drop i).all txOk then o++tailAt i (l.drop i) else []),())) (by omega) ?_ ?_ (s0:=[]) (by simp)).trans (by simp[tailAt])
 ·intro rec o _
  rw[List.drop_length]
  simp only[Int.lt_irrefl,decide_false,cond_false,List.all_nil,cond_true,tailAt]
  split<;>simp[txsBody,txsTail]
 ·intro rec i o hi ho
  have hx:l[i]?=some l[i]:=List.getElem?_eq_getElem hi
  have htl:=txText_len l[i]
  rw[List.drop_eq_getElem_cons hi]
  simp only[ge_ok hi,decide_true,cond_true,and_self,if_true,Int.toNat_natCast,rd_get (e:=ETx) hx,spec_TxOk_eq,spec_TxText_eq,Option.bind_some,wr_nat (show i<4611686018427387904 by omega),List.all_cons,List.length_append,List.length_cons,List.length_nil]
  cases hk:txOk l[i]
  ·left; simp only[Bool.not_false,cond_true,Bool.false_and,cond_false]
  ·right
   by_cases h0:i=0
   ·subst h0
    refine⟨o++txText l[0],by rw[List.length_append]; omega,?_,?_⟩
    ·simp only[Bool.not_true,cond_false,show ¬ (((0:Nat):Int)>0) by omega,decide_false]
     rw[if_pos (by omega)]
    ·simp[tailAt,txsBody]
   ·refine⟨o++[44]++txText l[i],by simp only[List.length_append,List.length_cons,List.length_nil]; omega,?_,?_⟩
    ·simp only[Bool.not_true,cond_false,show ((i:Int)>0) by omega,decide_true,cond_true]
     rw[if_pos (by omega),if_pos (by omega)]
    ·have e:o++tailAt i (l[i]::List.drop (i+1) l)=(o++[44]++txText l[i])++tailAt (i+1) (List.drop (i+1) l):=by
      unfold tailAt
      rw[if_neg h0,if_neg (by omega)]
      simp only[txsTail,List.map_cons,List.flatten_cons,List.append_assoc,List.cons_append,List.nil_append]
     rw[e]
     simp only[Bool.true_and]
def nameStr (up:List UInt8) (view:Int) (list:TTxS):List UInt8:=(((up++[47])++Lib.decDigits view.toNat)++[124])++txsText list
def nameOf (up:List UInt8) (view:Int) (list:TTxS):List UInt8:=bif list.all txOk && nameOk (nameStr up view list) then nameStr up view list else []
theorem nameStr_len (up:List UInt8) (view:Int) (list:TTxS) (h:view<1000000):(nameStr up view list).length≤up.length+8+28*list.length:=by
 have h1:=txsText_len list
 have h2:=dl view.toNat (by omega)
 unfold nameStr
 simp only[List.length_append,List.length_cons,List.length_nil]
 omega
theorem okK_loop (l:TTxS) (K:Option (List UInt8×Unit)) {G:(Int×Unit→Option (List UInt8×Unit))→Int×Unit→Option (List UInt8×Unit)} (hl:l.length≤1152921504606846976)
  (hend : ∀ rec,G rec ((l.length:Int),())=K)
  (hstep : ∀ rec (i:Nat) x,l[i]?=some x→i<l.length→G rec ((i:Int),())=bif txOk x then rec ((i:Int)+1,()) else some ([],())) :
  iter G fuel (0,())=bif l.all txOk then K else some ([],()):=by
 refine (walk l.length (fun i (_:Unit)=>(i,())) (fun _ _=>True) (fun i _=>bif (l.drop i).all txOk then K else some ([],())) hl ?_ ?_ (s0:=()) trivial).trans (by simp only[List.drop_zero])
 ·intro rec s _; rw[hend,List.drop_length]; rfl
 ·intro rec i s hi _
  rw[hstep rec i l[i] (List.getElem?_eq_getElem hi) hi,List.drop_eq_getElem_cons hi]
  simp only[List.all_cons]
  cases txOk l[i]
  ·left; rfl
  ·right; exact⟨(),trivial,rfl,rfl⟩
theorem spec_NameOf_eq (up:List UInt8) (view:Int) (list:TTxS) (hu:up.length≤1073741824) (hv:0≤view∧view<1000000) (hl:list.length≤1000000):spec_NameOf (up,view,list,())=some (nameOf up view list,()):=by
 have h1:=txsText_len list
 have h2:=dl view.toNat (by omega)
 have d:=spec_Digits_nat view.toNat (by omega)
 rw[Int.toNat_of_nonneg hv.1] at d
 have hn:=nameStr_len up view list hv.2
 unfold spec_NameOf nameOf
 refine (okK_loop list (bif nameOk (nameStr up view list) then some (nameStr up view list,()) else some ([],())) (by omega) ?_ ?_).trans ?_
 ·intro rec
  simp only[Int.lt_irrefl,decide_false,cond_false,d,spec_TxsText_eq list hl,Option.bind_some,List.length_append,List.length_cons,List.length_nil]
  rw[if_pos (by omega),if_pos (by omega),if_pos (by omega),if_pos (by omega)]
  have e:(((up++[47])++Lib.decDigits view.toNat)++[124])++txsText list=nameStr up view list:=rfl
  rw[e,spec_NameOk_eq _ (by omega),Option.bind_some]
  cases nameOk (nameStr up view list)<;>rfl
 ·intro rec i x hx hi
  simp only[ge_ok hi,decide_true,cond_true,and_self,if_true,Int.toNat_natCast,rd_get (e:=ETx) hx,spec_TxOk_eq,Option.bind_some,wr_nat (show i<4611686018427387904 by omega)]
  cases txOk x<;>rfl
 ·cases list.all txOk<;>cases nameOk (nameStr up view list)<;>rfl
theorem nameOf_len (up:List UInt8) (view:Int) (list:TTxS) (h:view<1000000):(nameOf up view list).length≤up.length+8+28*list.length:=by
 have:=nameStr_len up view list h
 unfold nameOf
 cases (list.all txOk && nameOk (nameStr up view list))
 ·simp
 ·exact this
def zBlock:TBlock:=([],0,[],[])
def blockNew (c:TConf) (q:TQc) (view:Int) (list:TTxS):TBlock×Bool:=
 bif blockOk c (nameOf q.2.1 view list,q) && viewOf (nameOf q.2.1 view list)==view then ((nameOf q.2.1 view list,q),true) else (zBlock,false)
theorem spec_BlockNew_eq (c:TConf) (q:TQc) (view:Int) (list:TTxS) (hq:wQc q≤500000000) (hv:0≤view∧view<1000000) (hl:list.length≤2):spec_BlockNew (c,q,view,list,())=some ((blockNew c q view list).1,(blockNew c q view list).2,()):=by
 have hu:q.2.1.length≤500000000:=by simp only[wQc] at hq; omega
 have hn:=nameOf_len q.2.1 view list hv.2
 unfold spec_BlockNew blockNew
 simp only[spec_NameOf_eq q.2.1 view list (by omega) hv (by omega),spec_l7Copy_eq q (by omega),spec_BlockOk_eq c (nameOf q.2.1 view list,q) (by simp only[wBlock]; omega),spec_ViewOf_eq (nameOf q.2.1 view list) (by omega),Option.bind_some,ne_not]
 cases blockOk c (nameOf q.2.1 view list,q)<;>cases (viewOf (nameOf q.2.1 view list)==view)<;>rfl
theorem blockNew_w (c:TConf) (q:TQc) (view:Int) (list:TTxS) (h:view<1000000):wBlock (blockNew c q view list).1≤2*wQc q+8+28*list.length:=by
 have hn:=nameOf_len q.2.1 view list h
 unfold blockNew
 cases (blockOk c (nameOf q.2.1 view list,q) && viewOf (nameOf q.2.1 view list)==view)
 ·simp[zBlock,wBlock,wQc,wIntS]
 ·simp only[cond_true,wBlock]
  have:q.2.1.length≤wQc q:=by simp only[wQc]; omega
  omega
noncomputable def askM (c:TConf) (r:TRep):TBlock×Bool:=blockNew c r.2.2.2.1.2.2.1 r.2.1 (poolTake r.2.2.2.2.1 (payAll ledgerNew (txsIn r.2.2.2.1.2.2.1.2.1)).2)
noncomputable def ask (c:TConf) (r:TRep):TBlock×Bool:=
 bif repOk c r && (rootOf c r.2.1==r.1 && (!decide (r.2.2.1≥r.2.1) && (r.2.2.2.1.2.2.1.1==wr (r.2.1 - 1) || decide (((tableGet r.2.2.2.2.2.1 r.2.1 []).2.2.length:Int)≥quorum c)))) then askM c r else (zBlock,false)
theorem repOk_view {c:TConf} {r:TRep} (h:repOk c r=true):1≤r.2.1∧r.2.1≤60:=by
 unfold repOk at h
 simp only[Bool.and_eq_true,decide_eq_true_eq] at h
 exact h.2.2.1
theorem lt_ge (a b:Int):decide (a<b) = !decide (a≥b):=by
 by_cases h:a<b
 ·have : ¬ a≥b:=by omega
  simp[h,this]
 ·have:a≥b:=by omega
  simp[h,this]
theorem spec_Ask_eq (c:TConf) (r:TRep) (hw:wRep r≤500000000):spec_Ask (c,r,())=some ((ask c r).1,(ask c r).2,()):=by
 have hs:=wRep_safe hw
 have hq:wQc r.2.2.2.1.2.2.1≤500000000:=by simp only[wSafe] at hs; omega
 have hu:r.2.2.2.1.2.2.1.2.1.length≤500000000:=by simp only[wQc] at hq; omega
 have ht:wPartS r.2.2.2.2.2.1≤500000000:=by simp only[wRep] at hw; omega
 have hp:=wRep_pool hw
 have hx:=txsIn_len r.2.2.2.1.2.2.1.2.1
 obtain⟨l1,l2,_⟩:=payF_len (txsIn r.2.2.2.1.2.2.1.2.1) ([],ledgerNew)
 have m1:(payAll ledgerNew (txsIn r.2.2.2.1.2.2.1.2.1)).2.1.length=4:=l1
 have m2:(payAll ledgerNew (txsIn r.2.2.2.1.2.2.1.2.1)).2.2.length=4:=l2
 have hk:=takeGo_len r.2.2.2.2.1 [] (payAll ledgerNew (txsIn r.2.2.2.1.2.2.1.2.1)).2 (by simp)
 unfold spec_Ask ask askM
 dsimp only
 rw[spec_RepOk_eq c r (by omega),Option.bind_some]
 cases hr:repOk c r
 ·rfl
 ·have hv:=repOk_view hr
  simp only[Bool.not_true,cond_false,spec_Root_eq,spec_TableGet_eq _ _ _ (show wPartS r.2.2.2.2.2.1≤137438953472 by omega),spec_Quorum_eq,spec_LedgerNew_eq,spec_TxsIn_eq r.2.2.2.1.2.2.1.2.1 (by omega),spec_PayAll_eq ledgerNew _ (by decide) (by decide) (show (txsIn r.2.2.2.1.2.2.1.2.1).length≤137438953472 by omega),
   spec_PoolTake_eq r.2.2.2.2.1 _ (by omega) (show (payAll ledgerNew (txsIn r.2.2.2.1.2.2.1.2.1)).2.1.length≤137438953472 by omega) (show (payAll ledgerNew (txsIn r.2.2.2.1.2.2.1.2.1)).2.2.length≤137438953472 by omega),
   spec_BlockNew_eq c r.2.2.2.1.2.2.1 r.2.1 (poolTake r.2.2.2.2.1 (payAll ledgerNew (txsIn r.2.2.2.1.2.2.1.2.1)).2) hq (by omega) hk,Option.bind_some,ne_not,lt_ge,Bool.true_and]
  cases (rootOf c r.2.1==r.1)
  ·rfl
  cases decide (r.2.2.1≥r.2.1)
  ·cases (r.2.2.2.1.2.2.1.1==wr (r.2.1 - 1))
   ·cases decide (((tableGet r.2.2.2.2.2.1 r.2.1 []).2.2.length:Int)≥quorum c)<;>rfl
   ·rfl
  ·rfl
theorem ask_w (c:TConf) (r:TRep):wBlock (ask c r).1≤2*wRep r+100:=by
 have hz:wBlock zBlock=0:=rfl
 unfold ask
 cases hr:repOk c r
 ·simp only[Bool.false_and,cond_false,hz]; omega
 ·have hv:=repOk_view hr
  have hk:=takeGo_len r.2.2.2.2.1 [] (payAll ledgerNew (txsIn r.2.2.2.1.2.2.1.2.1)).2 (by simp)
  have hb:=blockNew_w c r.2.2.2.1.2.2.1 r.2.1 (poolTake r.2.2.2.2.1 (payAll ledgerNew (txsIn r.2.2.2.1.2.2.1.2.1)).2) (by omega)
  have hq:wQc r.2.2.2.1.2.2.1≤wRep r:=by simp only[wRep,wSafe]; omega
  have hk2:(poolTake r.2.2.2.2.1 (payAll ledgerNew (txsIn r.2.2.2.1.2.2.1.2.1)).2).length≤2:=hk
  simp only[Bool.true_and]
  generalize (rootOf c r.2.1==r.1 && (!decide (r.2.2.1≥r.2.1) && (r.2.2.2.1.2.2.1.1==wr (r.2.1 - 1) || decide (((tableGet r.2.2.2.2.2.1 r.2.1 []).2.2.length:Int)≥quorum c))))=b
  cases b
  ·simp only[cond_false,hz]; omega
  ·simp only[cond_true,askM]; omega
end G448
namespace G448
open Ev Go
def holdOne (r:TRep) (to:Int) (m:TMsg):TRep:=(r.1,r.2.1,r.2.2.1,r.2.2.2.1,r.2.2.2.2.1,r.2.2.2.2.2.1,r.2.2.2.2.2.2.1,r.2.2.2.2.2.2.2++[(to,m)])
noncomputable def tellOwn (c:TConf) (r:TRep) (to:Int) (m:TMsg):TRep×Bool:=
 bif !decide ((r.2.2.2.2.2.2.2.length:Int)≥30) && heldOk c r.1 (to,m) then (holdOne r to m,true) else (r,false)
noncomputable def tell (c:TConf) (r:TRep) (to:Int) (m:TMsg):TRep×Bool:=bif repOk c r then tellOwn c r to m else (r,false)
theorem spec_l16Tell_eq (c:TConf) (r:TRep) (to:Int) (m:TMsg) (hc:confOk c=true) (hr:wRep r≤137438953471) (hm:wMsg m≤137438953471):spec_l16Tell (c,r,to,m,())=some ((tellOwn c r to m).1,(tellOwn c r to m).2,()):=by
 obtain⟨hc1,hc2⟩:=confOk_b hc
 have hl:r.2.2.2.2.2.2.2.length≤137438953471:=by simp only[wRep,wPostS] at hr; omega
 have e1:wr (c.1 - 1)=c.1 - 1:=wr_id' (by omega) (by omega)
 unfold spec_l16Tell tellOwn heldOk
 simp only[spec_MsgOk_eq c m (by omega),spec_in_eq,spec_l14Copy_eq m (by omega),e1,Option.bind_some,List.length_cons,List.length_nil]
 rw[if_pos (by omega)]
 cases decide ((r.2.2.2.2.2.2.2.length:Int)≥30)<;>cases msgOk c m<;>cases (decide (to≥0) && decide (to≤c.1 - 1))<;>cases (to==r.1)<;>rfl
theorem repOk_conf {c:TConf} {r:TRep} (h:repOk c r=true):confOk c=true:=by
 unfold repOk at h
 rw[Bool.and_eq_true] at h
 exact h.1
theorem holdOne_ok (c:TConf) (r:TRep) (to:Int) (m:TMsg):repOk c (holdOne r to m)=(repOk c r && (!decide ((r.2.2.2.2.2.2.2.length:Int)≥30) && heldOk c r.1 (to,m))):=by
 unfold repOk holdOne
 simp only[List.all_append,List.all_cons,List.all_nil,Bool.and_true,List.length_append,List.length_cons,List.length_nil]
 by_cases h:(r.2.2.2.2.2.2.2.length:Int)≥30
 ·have e1:decide (((r.2.2.2.2.2.2.2.length+(0+1):Nat):Int)≤30)=false:=by simp; omega
  rw[e1]
  simp[h]
 ·have e1:decide (((r.2.2.2.2.2.2.2.length+(0+1):Nat):Int)≤30)=true:=by simp; omega
  have e2:decide ((r.2.2.2.2.2.2.2.length:Int)≤30)=true:=by simp; omega
  have e3:decide ((r.2.2.2.2.2.2.2.length:Int)≥30)=false:=by simp; omega
  rw[e1,e2,e3]
  simp only[Bool.true_and,Bool.not_false,Bool.and_assoc]
theorem holdOne_w (r:TRep) (to:Int) (m:TMsg):wRep (holdOne r to m)=wRep r+(1+wMsg m):=by
 simp only[holdOne,wRep,wPostS,wPost,List.length_append,List.map_append,List.sum_append,List.length_cons,List.length_nil,List.map_cons,List.map_nil,List.sum_cons,List.sum_nil]
 omega
theorem tell_w (c:TConf) (r:TRep) (to:Int) (m:TMsg):wRep (tell c r to m).1≤wRep r+(1+wMsg m):=by
 have hw:=holdOne_w r to m
 unfold tell tellOwn
 cases repOk c r
 ·simp only[cond_false]; omega
 ·cases (!decide ((r.2.2.2.2.2.2.2.length:Int)≥30) && heldOk c r.1 (to,m))
  ·simp only[cond_true,cond_false]; omega
  ·simp only[cond_true]; omega
theorem tell_ok {c:TConf} {r:TRep} {to:Int} {m:TMsg} (h:(tell c r to m).2=true):repOk c (tell c r to m).1=true∧(tell c r to m).1.1=r.1:=by
 have hk:=holdOne_ok c r to m
 unfold tell tellOwn at h ⊢
 cases hr:repOk c r
 ·rw[hr] at h; cases h
 ·rw[hr] at h hk
  cases hb:(!decide ((r.2.2.2.2.2.2.2.length:Int)≥30) && heldOk c r.1 (to,m))
  ·rw[hb] at h; cases h
  ·rw[hb] at hk
   simp only[cond_true]
   exact⟨hk,rfl⟩
theorem tell_own {c:TConf} {r:TRep} (to:Int) (m:TMsg) (h:repOk c r=true):tellOwn c r to m=tell c r to m:=by
 unfold tell; rw[h]; rfl
noncomputable def tellGo (c:TConf) (r:TRep) (m:TMsg):Nat→Nat→TRep→TRep×Bool
 | 0,_,out=>(out,true)
 | n+1,i,out=>bif ((i:Int)==r.1) then tellGo c r m n (i+1) out else bif (tell c out i m).2 then tellGo c r m n (i+1) (tell c out i m).1 else (r,false)
noncomputable def tellAll (c:TConf) (r:TRep) (m:TMsg):TRep×Bool:=bif repOk c r then tellGo c r m c.1.toNat 0 r else (r,false)
theorem tellAll_loop (c:TConf) (r:TRep) (m:TMsg) (z:TRep) (hc:4≤c.1∧c.1≤7) (hok:repOk c r=true) {G:(Int×TRep×TRep×Unit→Option (TRep×Bool×Unit))→Int×TRep×TRep×Unit→Option (TRep×Bool×Unit)}
  (hG : ∀ rec (i:Nat) (out:TRep),i<7→repOk c out=true→wRep out≤wRep r+i*(1+wMsg m)→G rec ((i:Int),z,out,())=bif decide ((i:Int)<c.1) then (bif ((i:Int)==r.1) then rec ((i:Int)+1,z,out,()) else
   bif (tell c out i m).2 then rec ((i:Int)+1,z,(tell c out i m).1,()) else some (r,false,())) else some (out,true,()))
  (hE : ∀ rec (out:TRep),G rec (c.1,z,out,())=some (out,true,())) :
  iter G fuel (0,z,r,())=some ((tellGo c r m c.1.toNat 0 r).1,(tellGo c r m c.1.toNat 0 r).2,()):=by
 obtain⟨n,hn⟩ : ∃ n:Nat,c.1=(n:Int):=⟨c.1.toNat,by omega⟩
 refine (walk n (fun i (out:TRep)=>(i,z,out,())) (fun i out=>repOk c out=true∧wRep out≤wRep r+i*(1+wMsg m)) (fun i out=>some ((tellGo c r m (n - i) i out).1,(tellGo c r m (n - i) i out).2,())) (by omega) ?_ ?_ (s0:=r) ⟨hok,by omega⟩).trans (by rw[hn]; simp)
 ·intro rec out ho
  rw[←hn,hE]; simp[tellGo]
 ·intro rec i out hi ho
  rw[hG rec i out (by omega) ho.1 ho.2,show n - i=(n - (i+1))+1 by omega]
  simp only[show ((i:Int)<c.1) by omega,decide_true,cond_true,tellGo]
  cases he:((i:Int)==r.1)
  ·cases ht:(tell c out i m).2
   ·left; rfl
   ·right
    have:=tell_w c out i m
    refine⟨(tell c out i m).1,⟨(tell_ok ht).1,?_⟩,rfl,rfl⟩
    rw[Nat.add_mul]; omega
  ·right
   exact⟨out,⟨ho.1,by rw[Nat.add_mul]; omega⟩,rfl,rfl⟩
theorem seven {i N:Nat} (h:i<7):i*N≤7*N:=Nat.mul_le_mul (by omega) (Nat.le_refl _)
theorem spec_TellAll_eq (c:TConf) (r:TRep) (m:TMsg) (hr:wRep r≤100000000) (hm:wMsg m≤10000000):spec_TellAll (c,r,m,())=some ((tellAll c r m).1,(tellAll c r m).2,()):=by
 unfold spec_TellAll tellAll
 dsimp only
 rw[spec_l15Copy_eq r (by omega),Option.bind_some,spec_RepOk_eq c r (by omega),Option.bind_some]
 cases hok:repOk c r
 ·rfl
 ·obtain⟨h1,h2⟩:=confOk_b (repOk_conf hok)
  simp only[Bool.not_true,cond_false,cond_true]
  refine tellAll_loop c r m _ ⟨h1,h2⟩ hok ?_ ?_
  ·intro rec i out hi ho hwo
   have:=seven (N:=1+wMsg m) hi
   simp only[spec_l16Tell_eq c out i m (repOk_conf hok) (by omega) (by omega),tell_own _ _ ho,spec_l15Copy_eq r (by omega),Option.bind_some,wr_nat (show i<4611686018427387904 by omega)]
   cases decide ((i:Int)<c.1)<;>cases ((i:Int)==r.1)<;>cases (tell c out i m).2<;>rfl
  ·intro rec out
   simp only[Int.lt_irrefl,decide_false,cond_false]
noncomputable def safeBytes (c:TConf) (s:TSafe):List UInt8:=bif safeOk c s then ((putNum s.1++putNum s.2.1)++qcBytes c s.2.2.1)++putText s.2.2.2 else []
theorem safeBytes_len (c:TConf) (s:TSafe):(safeBytes c s).length≤30+5*wSafe s:=by
 unfold safeBytes
 have h1:=putNum_len s.1
 have h2:=putNum_len s.2.1
 have h3:=qcBytes_len c s.2.2.1
 have h4:=putText_len s.2.2.2
 cases safeOk c s
 ·simp
 ·simp only[cond_true,List.length_append,wSafe]; omega
theorem spec_SafeBytes_eq (c:TConf) (s:TSafe) (hw:wSafe s≤10000000000):spec_SafeBytes (c,s,())=some (safeBytes c s,()):=by
 have h1:=putNum_len s.1
 have h2:=putNum_len s.2.1
 have h3:=qcBytes_len c s.2.2.1
 have h4:=putText_len s.2.2.2
 have hq:wQc s.2.2.1≤10000000000:=by simp only[wSafe] at hw; omega
 have hn:s.2.2.2.length≤10000000000:=by simp only[wSafe] at hw; omega
 unfold spec_SafeBytes safeBytes
 simp only[spec_SafeOk_eq c s (by omega),spec_PutNum_eq,spec_QcBytes_eq c s.2.2.1 (by omega),spec_PutText_eq s.2.2.2 (by omega),Option.bind_some,List.length_append]
 rw[if_pos (by omega),if_pos (by omega),if_pos (by omega)]
 cases safeOk c s<;>rfl
noncomputable def noteBytes (c:TConf) (s:TSafe):List UInt8:=bif (((safeBytes c s).length:Int)==0) then [] else (putNum ((safeBytes c s).length:Int)++safeBytes c s)++[UInt8.ofNat (Int.toNat 10)]
theorem noteBytes_len (c:TConf) (s:TSafe):(noteBytes c s).length≤40+5*wSafe s:=by
 unfold noteBytes
 have h1:=safeBytes_len c s
 have h2:=putNum_len ((safeBytes c s).length:Int)
 cases (((safeBytes c s).length:Int)==0)
 ·simp only[cond_false,List.length_append,List.length_cons,List.length_nil]; omega
 ·simp
theorem spec_NoteBytes_eq (c:TConf) (s:TSafe) (hw:wSafe s≤10000000000):spec_NoteBytes (c,s,())=some (noteBytes c s,()):=by
 have h1:=safeBytes_len c s
 have h2:=putNum_len ((safeBytes c s).length:Int)
 unfold spec_NoteBytes noteBytes
 simp only[spec_SafeBytes_eq c s hw,spec_PutNum_eq,Option.bind_some,List.length_append,List.length_cons,List.length_nil]
 rw[if_pos (by omega),if_pos (by omega)]
 cases (((safeBytes c s).length:Int)==0)<;>rfl
def withSafe (r:TRep) (s:TSafe) (d:TDisk):TRep:=(r.1,r.2.1,r.2.2.1,s,r.2.2.2.2.1,r.2.2.2.2.2.1,d,r.2.2.2.2.2.2.2)
noncomputable def writeOwn (c:TConf) (r:TRep) (s:TSafe):TRep×Bool:=
 bif safeSame r.2.2.2.1 s then (r,true) else bif (appendM r.2.2.2.2.2.2.1 (noteBytes c s)).2 && safeOk c s then (withSafe r s (appendM r.2.2.2.2.2.2.1 (noteBytes c s)).1,true) else (r,false)
theorem writeOwn_no {c:TConf} {r:TRep} {s:TSafe} (h:(writeOwn c r s).2=false):(writeOwn c r s).1=r:=by
 unfold writeOwn at *
 cases h1:safeSame r.2.2.2.1 s
 ·rw[h1] at h
  cases h2:((appendM r.2.2.2.2.2.2.1 (noteBytes c s)).2 && safeOk c s)
  ·rfl
  ·rw[h2] at h; cases h
 ·rw[h1] at h; cases h
theorem spec_l15Write_eq (c:TConf) (r:TRep) (s:TSafe) (hr:wRep r≤10000000000) (hs:wSafe s≤10000000000):spec_l15Write (c,r,s,())=some ((writeOwn c r s).1,(writeOwn c r s).2,()):=by
 have h1:=wRep_disk hr
 have h2:=noteBytes_len c s
 have h3:=wRep_safe hr
 unfold spec_l15Write writeOwn
 simp only[spec_SafeSame_eq r.2.2.2.1 s (by omega),spec_NoteBytes_eq c s hs,spec_Append_eq r.2.2.2.2.2.2.1 (noteBytes c s) (by omega) (by omega),spec_SafeOk_eq c s (by omega),spec_l11Copy_eq s (by omega),Option.bind_some]
 cases safeSame r.2.2.2.1 s<;>cases (appendM r.2.2.2.2.2.2.1 (noteBytes c s)).2<;>cases safeOk c s<;>rfl
theorem appendM_ok {d:TDisk} {b:List UInt8} (h:(appendM d b).2=true):diskOk (appendM d b).1=true:=by
 unfold appendM at *
 split at h
 ·next hc=>
  rw[if_pos hc]
  have:=diskOk_iff.1 hc.1
  refine diskOk_iff.2 ⟨?_,this.2.1,?_⟩
  ·simp only[List.length_append]; omega
  ·simp only[List.length_append]; omega
 ·cases h
theorem withSafe_ok {c:TConf} {r:TRep} {s:TSafe} {d:TDisk} (hr:repOk c r=true) (hd:diskOk d=true):repOk c (withSafe r s d)=safeOk c s:=by
 obtain⟨a,v,k,sf,pool,tab,dk,held⟩:=r
 show repOk c (a,v,k,s,pool,tab,d,held)=_
 unfold repOk at hr ⊢
 simp only[Bool.and_eq_true] at hr
 obtain⟨a1,a2,a3,a4,a5,a6,a7,a8,a9,a10⟩:=hr
 simp only at a1 a2 a3 a4 a5 a6 a7 a8 a9 a10 ⊢
 rw[a1,a2.1,a2.2,a3.1,a3.2,a4.1,a4.2,a6,a7,hd,a9,a10]
 simp
theorem withSafe_w (r:TRep) (s:TSafe) (d:TDisk):wRep (withSafe r s d)≤wRep r+wSafe s+d.1.length:=by
 simp only[withSafe,wRep,wDisk]; omega
end G448
namespace G448
open Ev
set_option maxRecDepth 100000
noncomputable def sendOne (c:TConf) (ws:TWireS) (p:TPost):TWireS:=
 bif decide (((msgBytes c p.2).length:Int)>0) then (bif (decide (p.1≥0) && decide (p.1≤wr (c.1 - 1))) then (bif decide ((ws.length:Int)<60) then ws++[(p.1,msgBytes c p.2)] else ws) else ws) else ws
noncomputable def sendAll (c:TConf) (ws:TWireS) (ps:TPostS):TWireS:=ps.foldl (sendOne c) ws
theorem send_loop (c:TConf) (l:TIntS) (rs:TRepS) (sd:TSaidS) (ps:TPostS) (ws:TWireS) {G:(Int×TWorld×Unit→Option (TWorld×Unit))→Int×TWorld×Unit→Option (TWorld×Unit)} (hn:ps.length≤1073741824)
  (hstep : ∀ (rec:Int×TWorld×Unit→Option (TWorld×Unit)) (i:Nat) (s:TWireS) (h:i<ps.length),G rec ((i:Int),(c,l,rs,s,sd),())=rec ((i:Int)+1,(c,l,rs,sendOne c s ps[i],sd),()))
  (hend : ∀ (rec:Int×TWorld×Unit→Option (TWorld×Unit)) (s:TWireS),G rec ((ps.length:Int),(c,l,rs,s,sd),())=some ((c,l,rs,s,sd),())) :
  iter G fuel (0,(c,l,rs,ws,sd),())=some ((c,l,rs,sendAll c ws ps,sd),()):=by
 refine (walk ps.length (fun i (s:TWireS)=>(i,(c,l,rs,s,sd),())) (fun _ _=>True) (fun i s=>some ((c,l,rs,sendAll c s (ps.drop i),sd),())) (by omega) ?_ ?_ (s0:=ws) trivial).trans (by simp only[List.drop_zero])
 ·intro rec s _
  rw[hend,List.drop_length]
  rfl
 ·intro rec i s hi _
  exact .inr ⟨sendOne c s ps[i],trivial,hstep rec i s hi,by rw[List.drop_eq_getElem_cons hi]; rfl⟩
theorem spec_l19Send_eq (w:TWorld) (ps:TPostS) (hp:wPostS ps≤1073741824):spec_l19Send (w,ps,())=some ((w.1,w.2.1,w.2.2.1,sendAll w.1 w.2.2.2.1 ps,w.2.2.2.2),()):=by
 have hl:ps.length≤1073741824:=by simp only[wPostS] at hp; omega
 unfold spec_l19Send
 refine send_loop w.1 w.2.1 w.2.2.1 w.2.2.2.2 ps w.2.2.2.1 hl ?_ ?_
 ·intro rec i s hi
  have hx:ps[i]?=some ps[i]:=List.getElem?_eq_getElem hi
  have hm:=wPost_mem (Nat.le_refl (wPostS ps)) hx
  have hlt:decide ((i:Int)<(ps.length:Int))=true:=by simp; omega
  simp only[hlt,cond_true,show (0:Int)≤(i:Int)∧(i:Int)<(ps.length:Int) from⟨by omega,by omega⟩,and_self,if_true,Int.toNat_natCast,rd_get (e:=EPost) hx,spec_MsgBytes_eq w.1 ps[i].2 (by omega),Option.bind_some,spec_l1In_eq,wr_nat (show i<4611686018427387904 by omega),sendOne]
  by_cases h60:(s.length:Int)<60
  ·simp only[h60,decide_true,cond_true]
   rw[if_pos (by simp only[List.length_cons,List.length_nil]; omega)]
   cases decide (((msgBytes w.1 ps[i].2).length:Int)>0)<;>cases (decide (ps[i].1≥0) && decide (ps[i].1≤wr (w.1.1 - 1)))<;>rfl
  ·simp only[h60,decide_false,cond_false]
   cases decide (((msgBytes w.1 ps[i].2).length:Int)>0)<;>cases (decide (ps[i].1≥0) && decide (ps[i].1≤wr (w.1.1 - 1)))<;>rfl
 ·intro rec s
  simp only[Int.lt_irrefl,decide_false,cond_false]
end G448
namespace G448
open Ev Go
set_option maxRecDepth 100000
abbrev EStep:Ty:=.pair .i64 (.sl 0 (.pair .i64 (.pair .i64 (.pair .i64 .i64))))
def zQc:TQc:=(0,[],[])
noncomputable def partQc (c:TConf) (p:TPart):TQc×Bool:=bif p.2.1==[] then (zQc,false) else bif qcOk c p then (p,true) else (zQc,false)
theorem spec_PartQc_eq (c:TConf) (p:TPart) (hw:wPart p≤137438953472):spec_PartQc (c,p,())=some ((partQc c p).1,(partQc c p).2,()):=by
 have h1:p.2.2.length≤137438953472:=by simp only[wPart,wIntS] at hw; omega
 have h2:wQc p≤137438953472:=hw
 unfold spec_PartQc partQc zQc
 dsimp only
 rw[if_pos (by omega)]
 simp only[List.nil_append]
 rw[spec_QcOk_eq c (p.1,p.2.1,p.2.2) h2,Option.bind_some]
 show _=some ((bif p.2.1==[] then ((0,[],[]),false) else bif qcOk c (p.1,p.2.1,p.2.2) then (p,true) else ((0,[],[]),false)).1,_,())
 cases (p.2.1==([]:List UInt8))
 ·cases qcOk c (p.1,p.2.1,p.2.2)<;>rfl
 ·rfl
theorem partQc_ok {c:TConf} {p:TPart} (h:(partQc c p).2=true):(partQc c p).1=p∧qcOk c p=true:=by
 unfold partQc at *
 cases h1:(p.2.1==([]:List UInt8))
 ·rw[h1] at h
  cases h2:qcOk c p
  ·rw[h2] at h; cases h
  ·exact⟨rfl,rfl⟩
 ·rw[h1] at h; cases h
def qcLater (a b:TQc):TQc:=bif decide (a.1>b.1) then a else b
theorem spec_QcLater_eq (a b:TQc) (ha:wQc a≤137438953472) (hb:wQc b≤137438953472):spec_QcLater (a,b,())=some (qcLater a b,()):=by
 unfold spec_QcLater qcLater
 dsimp only
 rw[spec_l7Copy_eq a ha,spec_l7Copy_eq b hb]
 cases decide (a.1>b.1)<;>rfl
theorem upOf_len (s:List UInt8):(upOf s).length≤s.length:=by
 unfold upOf
 split
 ·split
  ·rw[List.length_take]; omega
  ·simp
 ·simp
noncomputable def stepAt (l:List TStep) (k:Int):Int:=(rd EStep l (Int.toNat (wr ((l.length:Int) - k)))).1
noncomputable def settles (s:List UInt8):List UInt8×Bool:=
 bif decide (((steps s).1.length:Int)<3) then ([],false) else
 bif stepAt (steps s).1 1 != wr (stepAt (steps s).1 2+1) then ([],false) else
 bif stepAt (steps s).1 2 != wr (stepAt (steps s).1 3+1) then ([],false) else (upOf (upOf s),true)
theorem in_ok {l:List TStep} (h : ¬ ((l.length:Int)<3)) (h2:l.length≤30) (k:Int) (hk:1≤k∧k≤3):0≤wr ((l.length:Int) - k)∧wr ((l.length:Int) - k)<(l.length:Int):=by
 rw[wr_id' (by omega) (by omega)]
 omega
theorem spec_Settles_eq (s:List UInt8) (hs:s.length≤137438953472):spec_Settles (s,())=some ((settles s).1,(settles s).2,()):=by
 have hu:=upOf_len s
 obtain⟨p1,p2⟩:=steps_props s
 unfold spec_Settles settles
 dsimp only
 rw[spec_Steps_eq s hs,Option.bind_some]
 cases h:(steps s).2
 ·rw[p1 h]; rfl
 ·dsimp only
  by_cases h3:((steps s).1.length:Int)<3
  ·simp only[h3,decide_true,cond_true,Bool.not_true,cond_false]
  ·simp only[h3,decide_false,cond_false,Bool.not_true]
   rw[if_pos (in_ok h3 p2 1 (by decide)),if_pos (in_ok h3 p2 2 (by decide)),if_pos (in_ok h3 p2 2 (by decide)),if_pos (in_ok h3 p2 3 (by decide)),spec_UpOf_eq s hs,Option.bind_some,spec_UpOf_eq (upOf s) (by omega),Option.bind_some]
   show (bif stepAt (steps s).1 1 != wr (stepAt (steps s).1 2+1) then _ else bif stepAt (steps s).1 2 != wr (stepAt (steps s).1 3+1) then _ else _)=_
   cases (stepAt (steps s).1 1 != wr (stepAt (steps s).1 2+1))<;>cases (stepAt (steps s).1 2 != wr (stepAt (steps s).1 3+1))<;>rfl
theorem settles_len (s:List UInt8):(settles s).1.length≤s.length:=by
 have h1:=upOf_len s
 have h2:=upOf_len (upOf s)
 unfold settles
 cases decide (((steps s).1.length:Int)<3)
 ·cases (stepAt (steps s).1 1 != wr (stepAt (steps s).1 2+1))
  ·cases (stepAt (steps s).1 2 != wr (stepAt (steps s).1 3+1))
   ·simp only[cond_false]; omega
   ·simp
  ·simp
 ·simp
noncomputable def extends_ (a b:List UInt8):Bool:=
 nameOk a && (nameOk b && (!decide ((b.length:Int)>(a.length:Int)) && (a.take b.length==b && ((a.length:Int)==(b.length:Int) || a.getD b.length 0==UInt8.ofNat (Int.toNat 47)))))
theorem spec_Extends_eq (a b:List UInt8) (ha:a.length≤137438953472) (hb:b.length≤137438953472):spec_Extends (a,b,())=some (extends_ a b,()):=by
 unfold spec_Extends extends_
 dsimp only
 rw[spec_NameOk_eq a ha,Option.bind_some,spec_NameOk_eq b hb,Option.bind_some]
 cases nameOk a
 ·rfl
 cases nameOk b
 ·rfl
 by_cases hl:(b.length:Int)>(a.length:Int)
 ·simp only[hl,decide_true,cond_true,Bool.not_true,cond_false,Bool.false_and,Bool.and_false,Bool.true_and]
 ·simp only[hl,decide_false,cond_false,Bool.not_true,Bool.not_false,Bool.true_and]
  rw[if_pos (by omega)]
  simp only[Int.toNat_natCast,show Int.toNat 0=0 from rfl,Nat.sub_zero,List.drop_zero,bne]
  cases a.take b.length==b
  ·rfl
  ·simp only[Bool.not_true,cond_false,Bool.true_and]
   cases he:((a.length:Int)==(b.length:Int))
   ·have:(a.length:Int)≠(b.length:Int):=by simpa using he
    simp only[cond_false,Bool.false_or]
    rw[if_pos (by omega)]
   ·rfl
noncomputable def see (c:TConf) (s:TSafe) (q:TQc):TSafe:=
 bif !safeOk c s then s else bif !qcOk c q then s else (s.1,max s.2.1 (viewOf (upOf q.2.1)),qcLater q s.2.2.1,bif (settles q.2.1).2 && extends_ (settles q.2.1).1 s.2.2.2 then (settles q.2.1).1 else s.2.2.2)
theorem spec_See_eq (c:TConf) (s:TSafe) (q:TQc) (hs:wSafe s≤10000000000) (hq:wQc q≤10000000000):spec_See (c,s,q,())=some (see c s q,()):=by
 have h1:q.2.1.length≤10000000000:=by simp only[wQc] at hq; omega
 have h2:=upOf_len q.2.1
 have h3:=settles_len q.2.1
 have h4:wQc s.2.2.1≤10000000000∧s.2.2.2.length≤10000000000:=by simp only[wSafe] at hs; omega
 unfold spec_See see
 dsimp only
 rw[spec_l11Copy_eq s (by omega),Option.bind_some,spec_SafeOk_eq c s (by omega),Option.bind_some,spec_QcOk_eq c q (by omega),Option.bind_some,spec_QcLater_eq q s.2.2.1 (by omega) (by omega),Option.bind_some,spec_UpOf_eq q.2.1 (by omega),Option.bind_some,spec_ViewOf_eq (upOf q.2.1) (by omega),Option.bind_some,spec_max_eq,Option.bind_some,
  spec_Settles_eq q.2.1 (by omega),Option.bind_some,spec_Extends_eq (settles q.2.1).1 s.2.2.2 (by omega) (by omega),Option.bind_some]
 cases safeOk c s
 ·rfl
 cases qcOk c q
 ·rfl
 cases (settles q.2.1).2
 ·rfl
 cases extends_ (settles q.2.1).1 s.2.2.2<;>rfl
theorem see_w (c:TConf) (s:TSafe) (q:TQc):wSafe (see c s q)≤wSafe s+2*wQc q:=by
 have h3:=settles_len q.2.1
 unfold see qcLater
 cases safeOk c s
 ·simp only[Bool.not_false,cond_true]; omega
 cases qcOk c q
 ·simp only[Bool.not_false,cond_true,Bool.not_true,cond_false]; omega
 simp only[Bool.not_true,cond_false,wSafe]
 have h5:q.2.1.length≤wQc q:=by simp only[wQc]; omega
 cases decide (q.1>s.2.2.1.1)<;>cases ((settles q.2.1).2 && extends_ (settles q.2.1).1 s.2.2.2)<;>simp only[cond_true,cond_false]<;>omega
end G448
namespace G448
open Ev Go
set_option maxRecDepth 100000
noncomputable def seat (c:TConf) (v i:Int):Int:=bif confOk c && (!decide (v<0) && (decide (i≥0) && decide (i≤c.1 - 1))) then (i+c.1 - v % c.1) % c.1 else -1
noncomputable def sits (c:TConf) (v p:Int):Int:=bif confOk c && (!decide (v<0) && (decide (p≥0) && decide (p≤c.1 - 1))) then (v % c.1+p) % c.1 else -1
theorem tmod_nn {a n:Int} (h:0≤a):Int.tmod a n=a % n:=Int.tmod_eq_emod_of_nonneg h
theorem spec_Seat_eq (c:TConf) (v i:Int):spec_Seat (c,v,i,())=some (seat c v i,()):=by
 unfold spec_Seat seat
 dsimp only
 rw[spec_ConfOk_eq,Option.bind_some]
 cases h:confOk c
 ·rfl
 obtain⟨h1,h2⟩:=confOk_b h
 have e1:wr (c.1 - 1)=c.1 - 1:=wr_id' (by omega) (by omega)
 by_cases hv:v<0
 ·simp only[hv,decide_true,cond_true,Bool.not_true,cond_false,Bool.false_and,Bool.and_false,Bool.true_and]
 simp only[hv,decide_false,cond_false,Bool.not_true,Bool.not_false,Bool.true_and,spec_l1In_eq,Option.bind_some,e1]
 by_cases hi:i≥0∧i≤c.1 - 1
 ·have a1:0≤v % c.1:=Int.emod_nonneg _ (by omega)
  have a2:v % c.1<c.1:=Int.emod_lt_of_pos _ (by omega)
  simp only[hi.1,hi.2,decide_true,Bool.and_self,Bool.not_true,cond_false,cond_true]
  rw[if_neg (by omega),if_neg (by omega),tmod_nn (show 0≤v by omega),wr_id' (show -9223372036854775808≤i+c.1 by omega) (by omega),wr_id' (by omega) (by omega),tmod_nn (by omega)]
 ·have:(decide (i≥0) && decide (i≤c.1 - 1))=false:=by
   rw[Bool.eq_false_iff]; intro h; simp only[Bool.and_eq_true,decide_eq_true_eq] at h; exact hi h
  simp only[this,Bool.not_false,cond_true,cond_false]
theorem spec_Sits_eq (c:TConf) (v p:Int):spec_Sits (c,v,p,())=some (sits c v p,()):=by
 unfold spec_Sits sits
 dsimp only
 rw[spec_ConfOk_eq,Option.bind_some]
 cases h:confOk c
 ·rfl
 obtain⟨h1,h2⟩:=confOk_b h
 have e1:wr (c.1 - 1)=c.1 - 1:=wr_id' (by omega) (by omega)
 by_cases hv:v<0
 ·simp only[hv,decide_true,cond_true,Bool.not_true,cond_false,Bool.false_and,Bool.and_false,Bool.true_and]
 simp only[hv,decide_false,cond_false,Bool.not_true,Bool.not_false,Bool.true_and,spec_l1In_eq,Option.bind_some,e1]
 by_cases hi:p≥0∧p≤c.1 - 1
 ·have a1:0≤v % c.1:=Int.emod_nonneg _ (by omega)
  have a2:v % c.1<c.1:=Int.emod_lt_of_pos _ (by omega)
  simp only[hi.1,hi.2,decide_true,Bool.and_self,Bool.not_true,cond_false,cond_true]
  rw[if_neg (by omega),if_neg (by omega),tmod_nn (show 0≤v by omega),wr_id' (by omega) (by omega),tmod_nn (by omega)]
 ·have:(decide (p≥0) && decide (p≤c.1 - 1))=false:=by
   rw[Bool.eq_false_iff]; intro h; simp only[Bool.and_eq_true,decide_eq_true_eq] at h; exact hi h
  simp only[this,Bool.not_false,cond_true,cond_false]
theorem seat_on {c:TConf} {v i:Int} (h:0≤seat c v i):confOk c=true∧0≤v∧0≤i∧i≤c.1 - 1∧seat c v i=(i+c.1 - v % c.1) % c.1:=by
 unfold seat at *
 cases hc:(confOk c && (!decide (v<0) && (decide (i≥0) && decide (i≤c.1 - 1))))
 ·rw[hc] at h; simp only[cond_false] at h; omega
 ·simp only[Bool.and_eq_true,Bool.not_eq_true',decide_eq_false_iff_not,decide_eq_true_eq] at hc
  exact⟨hc.1,by omega,hc.2.2.1,hc.2.2.2,rfl⟩
noncomputable def up (c:TConf) (v i:Int):Int:=bif decide (seat c v i≤0) then -1 else sits c v ((seat c v i - 1) / c.2)
theorem seat_lt {c:TConf} {v i:Int} (h:0≤seat c v i):seat c v i<c.1:=by
 obtain⟨h1,_,_,_,h5⟩:=seat_on h
 have:=confOk_b h1
 rw[h5]
 exact Int.emod_lt_of_pos _ (by omega)
theorem up_core {c:TConf} {v i:Int} (h : ¬ seat c v i≤0):wr (Int.tdiv (wr (seat c v i - 1)) c.2)=(seat c v i - 1) / c.2 ∧ ¬ c.2=0∧0≤(seat c v i - 1) / c.2∧(seat c v i - 1) / c.2≤seat c v i - 1:=by
 obtain⟨h1,_⟩:=seat_on (c:=c) (v:=v) (i:=i) (by omega)
 have hlt:=seat_lt (c:=c) (v:=v) (i:=i) (by omega)
 obtain⟨c1,c2⟩:=confOk_b h1
 have hf:1≤c.2∧c.2≤6:=by
  unfold confOk at h1
  simp only[Bool.and_eq_true,decide_eq_true_eq] at h1
  exact h1.2
 have hd0:0≤(seat c v i - 1) / c.2:=Int.ediv_nonneg (by omega) (by omega)
 have hd1:(seat c v i - 1) / c.2≤seat c v i - 1:=Int.ediv_le_self _ (by omega)
 refine⟨?_,by omega,hd0,hd1⟩
 rw[wr_id' (show -9223372036854775808≤seat c v i - 1 by omega) (by omega),Int.tdiv_eq_ediv_of_nonneg (by omega),wr_id' (by omega) (by omega)]
theorem spec_Up_eq (c:TConf) (v i:Int):spec_Up (c,v,i,())=some (up c v i,()):=by
 unfold spec_Up up
 dsimp only
 rw[spec_Seat_eq,Option.bind_some]
 by_cases h:seat c v i≤0
 ·simp only[h,decide_true,cond_true]
 ·obtain⟨e1,e2,_⟩:=up_core h
  simp only[h,decide_false,cond_false,e1]
  rw[if_neg e2,spec_Sits_eq,Option.bind_some]
theorem ring_back {n a p:Int} (hn:4≤n∧n≤7) (ha:0≤a∧a<n) (hp:0≤p∧p<n):((a+p) % n+n - a) % n=p:=by
 have h:n=4∨n=5∨n=6∨n=7:=by omega
 rcases h with rfl|rfl|rfl|rfl<;>omega
theorem seat_up {c:TConf} {v i:Int} (h:0≤seat c v i):seat c v (up c v i)<seat c v i ∧ -1≤seat c v (up c v i):=by
 obtain⟨h1,h2,h3,h4,h5⟩:=seat_on h
 have hlt:=seat_lt h
 obtain⟨c1,c2⟩:=confOk_b h1
 by_cases h0:seat c v i≤0
 ·have e:up c v i = -1:=by unfold up; simp only[h0,decide_true,cond_true]
  rw[e]
  have e2:seat c v (-1) = -1:=by unfold seat; simp
  rw[e2]; omega
 ·obtain⟨_,_,d0,d1⟩:=up_core h0
  obtain⟨p,hp⟩ : ∃ p,p=(seat c v i - 1) / c.2:=⟨_,rfl⟩
  rw[←hp] at d0 d1
  have a1:0≤v % c.1:=Int.emod_nonneg _ (by omega)
  have a2:v % c.1<c.1:=Int.emod_lt_of_pos _ (by omega)
  have e:up c v i=(v % c.1+p) % c.1:=by
   unfold up sits
   have k1:decide (v<0)=false:=decide_eq_false (by omega)
   have k2:decide (p≥0)=true:=decide_eq_true (by omega)
   have k3:decide (p≤c.1 - 1)=true:=decide_eq_true (by omega)
   simp only[h0,decide_false,cond_false,←hp,h1,k1,k2,k3,Bool.not_false,Bool.and_self,cond_true]
  have b1:0≤(v % c.1+p) % c.1:=Int.emod_nonneg _ (by omega)
  have b2:(v % c.1+p) % c.1<c.1:=Int.emod_lt_of_pos _ (by omega)
  have e2:seat c v (up c v i)=((v % c.1+p) % c.1+c.1 - v % c.1) % c.1:=by
   rw[e]
   have k1:decide (v<0)=false:=decide_eq_false (by omega)
   have k2:decide ((v % c.1+p) % c.1≥0)=true:=decide_eq_true (by omega)
   have k3:decide ((v % c.1+p) % c.1≤c.1 - 1)=true:=decide_eq_true (by omega)
   unfold seat
   simp only[h1,k1,k2,k3,Bool.not_false,Bool.and_self,cond_true]
  have e3:((v % c.1+p) % c.1+c.1 - v % c.1) % c.1=p:=ring_back ⟨c1,c2⟩ ⟨a1,a2⟩ ⟨d0,by omega⟩
  rw[e2,e3]
  omega
noncomputable def wayN (c:TConf) (v:Int):Nat→Int→List Int
 | 0,_=>[]
 | k+1,x=>bif decide (seat c v x≥0) then x::wayN c v k (up c v x) else []
noncomputable def wayM (c:TConf) (v x:Int):Nat:=(seat c v x+1).toNat
noncomputable def way (c:TConf) (v x:Int):List Int:=wayN c v (wayM c v x) x
theorem wayN_up (c:TConf) (v:Int) : ∀ (k:Nat) (x:Int),wayM c v x≤k→wayN c v k x=way c v x
 | 0,x,h=>by
  unfold way
  have:wayM c v x=0:=by omega
  rw[this]
 | k+1,x,h=>by
  unfold way
  by_cases hs:seat c v x≥0
  ·have hm:wayM c v x=(seat c v x).toNat+1:=by unfold wayM; omega
   obtain⟨u1,u2⟩:=seat_up hs
   have hu:wayM c v (up c v x)≤(seat c v x).toNat:=by unfold wayM; omega
   rw[hm]
   simp only[wayN,hs,decide_true,cond_true]
   rw[wayN_up c v k _ (by omega),wayN_up c v _ _ hu]
  ·have hm:wayM c v x=0:=by unfold wayM; omega
   rw[hm]
   simp only[wayN,hs,decide_false,cond_false]
theorem way_cons {c:TConf} {v x:Int} (h:seat c v x≥0):way c v x=x::way c v (up c v x):=by
 obtain⟨u1,u2⟩:=seat_up h
 have hm:wayM c v x=(seat c v x).toNat+1:=by unfold wayM; omega
 have hu:wayM c v (up c v x)≤(seat c v x).toNat:=by unfold wayM; omega
 show wayN c v (wayM c v x) x=_
 rw[hm]
 simp only[wayN,h,decide_true,cond_true]
 rw[wayN_up c v _ _ hu]
theorem way_nil {c:TConf} {v x:Int} (h : ¬ seat c v x≥0):way c v x=[]:=by
 have hm:wayM c v x=0:=by unfold wayM; omega
 show wayN c v (wayM c v x) x=_
 rw[hm]; rfl
theorem wayN_len (c:TConf) (v:Int) : ∀ (k:Nat) (x:Int),(wayN c v k x).length≤k
 | 0,x=>by simp[wayN]
 | k+1,x=>by
  simp only[wayN]
  cases decide (seat c v x≥0)
  ·simp
  ·have:=wayN_len c v k (up c v x)
   simp only[cond_true,List.length_cons]; omega
theorem wayM_le (c:TConf) (v x:Int):wayM c v x≤7:=by
 unfold wayM
 by_cases h:0≤seat c v x
 ·have h1:=seat_lt h
  have:=confOk_b (seat_on h).1
  omega
 ·omega
theorem way_len (c:TConf) (v x:Int):(way c v x).length≤7:=Nat.le_trans (wayN_len c v _ x) (wayM_le c v x)
theorem way_loop (c:TConf) (v x:Int) {G:(Int×List Int×Unit→Option (List Int×Unit))→Int×List Int×Unit→Option (List Int×Unit)}
  (hon : ∀ rec y out,seat c v y≥0→out.length≤7→G rec (y,out,())=rec (up c v y,out++[y],())) (hoff : ∀ rec y out,¬ seat c v y≥0→G rec (y,out,())=some (out,())) :
  iter G fuel (x,[],())=some (way c v x,()):=by
 refine (iter_eq (fun y:Int×List Int×Unit=>some (y.2.1++way c v y.1,())) (fun y=>wayM c v y.1) (fun y=>y.2.1.length+wayM c v y.1≤7) ?_ fuel (x,[],()) (by simp only[List.length_nil]; have:=wayM_le c v x; omega)
  (by show wayM c v x<fuel; have:=wayM_le c v x; have:=fuel_gt (n:=7) (by decide); omega)).trans (by simp)
 rintro rec ⟨y,out,⟨⟩⟩ hI hrec
 simp only at hI ⊢
 by_cases h:seat c v y≥0
 ·obtain⟨u1,u2⟩:=seat_up h
  have hm:wayM c v (up c v y)<wayM c v y:=by unfold wayM; omega
  rw[hon rec y out h (by omega),hrec (up c v y,out++[y],()) (by simp only[List.length_append,List.length_cons,List.length_nil]; omega) hm,way_cons h]
  simp
 ·rw[hoff rec y out h,way_nil h]; simp
theorem spec_Way_eq (c:TConf) (v x:Int):spec_Way (c,v,x,())=some (way c v x,()):=by
 unfold spec_Way
 refine way_loop c v x ?_ ?_
 ·intro rec y out h hl
  simp only[spec_Seat_eq,Option.bind_some,h,decide_true,cond_true,spec_Up_eq]
  rw[if_pos (by simp only[List.length_cons,List.length_nil]; omega)]
 ·intro rec y out h
  simp only[spec_Seat_eq,Option.bind_some,h,decide_false,cond_false]
noncomputable def underGo (c:TConf) (v i:Int):Nat→Nat→List Int→List Int
 | 0,_,out=>out
 | k+1,j,out=>underGo c v i k (j+1) (bif (way c v (j:Int)).any (· == i) then out++[(j:Int)] else out)
noncomputable def under (c:TConf) (v i:Int):List Int:=bif decide (seat c v i≥0) then underGo c v i c.1.toNat 0 [] else []
theorem underGo_len (c:TConf) (v i:Int) : ∀ (k j:Nat) (out:List Int),(underGo c v i k j out).length≤out.length+k
 | 0,_,out=>by simp[underGo]
 | k+1,j,out=>by
  simp only[underGo]
  have:=underGo_len c v i k (j+1) (bif (way c v (j:Int)).any (· == i) then out++[(j:Int)] else out)
  cases h:(way c v (j:Int)).any (· == i)
  ·rw[h] at this; simp only[cond_false] at this ⊢; omega
  ·rw[h] at this; simp only[cond_true,List.length_append,List.length_cons,List.length_nil] at this ⊢; omega
theorem under_len (c:TConf) (v i:Int):(under c v i).length≤7:=by
 unfold under
 by_cases h:seat c v i≥0
 ·have h1:=confOk_b (seat_on h).1
  have:=underGo_len c v i c.1.toNat 0 []
  simp only[h,decide_true,cond_true,List.length_nil] at this ⊢
  omega
 ·simp only[h,decide_false,cond_false,List.length_nil]; omega
theorem under_loop (c:TConf) (v i:Int) (hs:seat c v i≥0) {G:(List Int×Int×Unit→Option (List Int×Unit))→List Int×Int×Unit→Option (List Int×Unit)}
  (hon : ∀ (rec:List Int×Int×Unit→Option (List Int×Unit)) (j:Nat) out,(j:Int)<c.1→out.length≤7→G rec (out,(j:Int),())=rec ((bif (way c v (j:Int)).any (· == i) then out++[(j:Int)] else out),(j:Int)+1,()))
  (hoff : ∀ (rec:List Int×Int×Unit→Option (List Int×Unit)) out,G rec (out,c.1,())=some (out,())) :
  iter G fuel ([],0,())=some (under c v i,()):=by
 obtain⟨c1,c2⟩:=confOk_b (seat_on hs).1
 obtain⟨n,hn⟩ : ∃ n:Nat,c.1=(n:Int):=⟨c.1.toNat,by omega⟩
 have e:under c v i=underGo c v i n 0 []:=by
  unfold under
  simp only[hs,decide_true,cond_true,hn,Int.toNat_natCast]
 rw[e]
 refine (walk n (fun j (out:List Int)=>(out,j,())) (fun j out=>out.length≤j) (fun j out=>some (underGo c v i (n - j) j out,())) (by omega) ?_ ?_ (s0:=[]) (by simp)).trans (by simp)
 ·intro rec out _
  have:=hoff rec out
  rw[hn] at this
  rw[this,Nat.sub_self]
  rfl
 ·intro rec j out hj hI
  refine .inr ⟨_,?_,hon rec j out (by omega) (by omega),?_⟩
  ·cases (way c v (j:Int)).any (· == i)
   ·simp only[cond_false]; omega
   ·simp only[cond_true,List.length_append,List.length_cons,List.length_nil]; omega
  ·rw[show n - j=(n - (j+1))+1 by omega]; rfl
theorem spec_Under_eq (c:TConf) (v i:Int):spec_Under (c,v,i,())=some (under c v i,()):=by
 unfold spec_Under
 dsimp only
 rw[spec_ConfOk_eq,Option.bind_some]
 by_cases hs:seat c v i≥0
 ·rw[(seat_on hs).1]
  simp only[Bool.not_true,cond_false]
  obtain⟨c1,c2⟩:=confOk_b (seat_on hs).1
  refine under_loop c v i hs ?_ ?_
  ·intro rec j out hj hl
   have hw:=way_len c v (j:Int)
   simp only[hj,decide_true,cond_true,spec_Seat_eq,Option.bind_some,hs,spec_Way_eq,spec_SetHas_eq _ i (show (way c v (j:Int)).length≤1152921504606846976 by omega),wr_nat (show j<4611686018427387904 by omega)]
   cases (way c v (j:Int)).any (· == i)
   ·rfl
   ·simp only[cond_true]
    rw[if_pos (by simp only[List.length_cons,List.length_nil]; omega)]
  ·intro rec out
   simp only[Int.lt_irrefl,decide_false,cond_false]
 ·have e:under c v i=[]:=by unfold under; simp only[hs,decide_false,cond_false]
  rw[e]
  cases h:confOk c
  ·rfl
  ·simp only[Bool.not_true,cond_false]
   obtain⟨c1,c2⟩:=confOk_b h
   obtain⟨m,hm⟩ : ∃ m,fuel=m+1:=⟨fuel - 1,by have:=fuel_gt (n:=7) (by decide); omega⟩
   rw[hm]
   simp only[iter,show (0:Int)<c.1 by omega,decide_true,cond_true,spec_Seat_eq,Option.bind_some,hs,decide_false,cond_false]
def common (a b:List Int):Nat:=a.countP fun x=>b.any (· == x)
theorem common_loop (a b:List Int) (ha:a.length≤1152921504606846976) {G:(Int×Int×Unit→Option (Int×Unit))→Int×Int×Unit→Option (Int×Unit)}
  (hon : ∀ (rec:Int×Int×Unit→Option (Int×Unit)) (j k:Nat) (h:j<a.length),k≤j→G rec ((k:Int),(j:Int),())=rec (((k+(if b.any (· == a[j]) then 1 else 0):Nat):Int),(j:Int)+1,()))
  (hoff : ∀ (rec:Int×Int×Unit→Option (Int×Unit)) (k:Nat),G rec ((k:Int),(a.length:Int),())=some ((k:Int),())) :
  iter G fuel (0,0,())=some ((common a b:Int),()):=by
 refine (walk a.length (fun j (k:Nat)=>((k:Int),j,())) (fun j k=>k≤j) (fun j k=>some (((k+common (a.drop j) b:Nat):Int),())) (by omega) ?_ ?_ (s0:=0) (Nat.le_refl _)).trans (by simp)
 ·intro rec k _
  rw[hoff rec k,List.drop_length]
  simp[common]
 ·intro rec j k hj hI
  refine .inr ⟨k+(if b.any (· == a[j]) then 1 else 0),by split<;>omega,hon rec j k hj hI,?_⟩
  rw[List.drop_eq_getElem_cons hj]
  simp only[common,List.countP_cons]
  congr 3
  omega
theorem spec_Common_eq (a b:List Int) (ha:a.length≤1073741824) (hb:b.length≤1073741824):spec_Common (a,b,())=some ((common a b:Int),()):=by
 unfold spec_Common
 refine common_loop a b (by omega) ?_ ?_
 ·intro rec j k hj hk
  have hx:a[j]?=some a[j]:=List.getElem?_eq_getElem hj
  simp only[ge_ok hj,decide_true,cond_true,and_self,if_true,Int.toNat_natCast,rd_get (e:=.i64) hx,spec_SetHas_eq b a[j] (by omega),Option.bind_some,wr_nat (show j<4611686018427387904 by omega),spec_l1Bit]
  cases b.any (· == a[j])
  ·simp only[cond_false,Option.bind_some,Int.add_zero,Bool.false_eq_true,if_false,Nat.add_zero]
   rw[wr_id' (by omega) (by omega)]
  ·simp only[cond_true,Option.bind_some,if_true]
   rw[wr_nat (show k<4611686018427387904 by omega)]
   rfl
 ·intro rec k
  simp only[Int.lt_irrefl,decide_false,cond_false]
end G448
namespace G448
open Ev Go
set_option maxRecDepth 100000
def inView (r:TRep) (v:Int):TRep:=(r.1,v,r.2.2)
theorem inView_ok {c:TConf} {r:TRep} {v:Int} (h:repOk c r=true) (hv:1≤v∧v≤60):repOk c (inView r v)=true:=by
 obtain⟨a,v0,k,sf,pool,tab,dk,held⟩:=r
 show repOk c (a,v,k,sf,pool,tab,dk,held)=true
 unfold repOk at h ⊢
 simp only[Bool.and_eq_true,decide_eq_true_eq] at h ⊢
 exact⟨h.1,h.2.1,hv,h.2.2.2⟩
noncomputable def top (c:TConf) (r:TRep) (q:TQc):TRep×Bool:=
 bif !(writeOwn c r (see c r.2.2.2.1 q)).2 then (r,false) else
 bif decide (q.1+1>60) then ((writeOwn c r (see c r.2.2.2.1 q)).1,true) else
 bif rootOf c (q.1+1)==r.1 then (inView (writeOwn c r (see c r.2.2.2.1 q)).1 (max (writeOwn c r (see c r.2.2.2.1 q)).1.2.1 (q.1+1)),true) else
 tellOwn c (inView (writeOwn c r (see c r.2.2.2.1 q)).1 (max (writeOwn c r (see c r.2.2.2.1 q)).1.2.1 (q.1+1))) (rootOf c (q.1+1)) (3,q.1+1,([],0,[],[]),(0,[],[]),q,r.1,0,0,0,0)
theorem writeOwn_ok {c:TConf} {r:TRep} {s:TSafe} (hr:repOk c r=true) (h:(writeOwn c r s).2=true):repOk c (writeOwn c r s).1=true∧(writeOwn c r s).1.1=r.1∧(writeOwn c r s).1.2.1=r.2.1:=by
 unfold writeOwn at *
 cases h1:safeSame r.2.2.2.1 s
 ·rw[h1] at h
  cases h2:(appendM r.2.2.2.2.2.2.1 (noteBytes c s)).2
  ·rw[h2] at h; cases h
  ·cases h3:safeOk c s
   ·rw[h2,h3] at h; cases h
   ·simp only[cond_false,Bool.and_self,cond_true]
    exact⟨by rw[withSafe_ok hr (appendM_ok h2),h3],rfl,rfl⟩
 ·exact⟨hr,rfl,rfl⟩
theorem qc_view {c:TConf} {q:TQc} (h:qcOk c q=true):0≤q.1∧q.1≤60:=by
 unfold qcOk at h
 simp only[Bool.and_eq_true,beq_iff_eq] at h
 obtain⟨_,hn,hv,_⟩:=h
 by_cases h0:q.2.1=[]
 ·have:=name_nil.2
  rw[←h0,hv] at this
  omega
 ·have:=name_view hn h0
  omega
theorem msg3_w (q:TQc) (v me:Int):wMsg (3,v,([],0,[],[]),(0,[],[]),q,me,0,0,0,0)=wQc q:=by
 simp[wMsg,wBlock,wPart,wQc,wIntS]
theorem wOwn_w (c:TConf) (r:TRep) (s:TSafe):wRep (writeOwn c r s).1≤wRep r+wSafe s+(r.2.2.2.2.2.2.1.1.length+(noteBytes c s).length):=by
 unfold writeOwn
 cases safeSame r.2.2.2.1 s
 ·cases h2:((appendM r.2.2.2.2.2.2.1 (noteBytes c s)).2 && safeOk c s)
  ·simp only[cond_false]; omega
  ·simp only[cond_false,cond_true]
   have:=withSafe_w r s (appendM r.2.2.2.2.2.2.1 (noteBytes c s)).1
   have h3:(appendM r.2.2.2.2.2.2.1 (noteBytes c s)).1.1.length≤r.2.2.2.2.2.2.1.1.length+(noteBytes c s).length:=by
    unfold appendM
    split
    ·simp
    ·simp
   omega
 ·simp only[cond_true]; omega
theorem own_w (c:TConf) (r:TRep) (s:TSafe):wRep (writeOwn c r s).1≤40+2*wRep r+6*wSafe s:=by
 have h1:=wOwn_w c r s
 have h3:=noteBytes_len c s
 have h4:r.2.2.2.2.2.2.1.1.length≤wRep r:=by simp only[wRep,wDisk]; omega
 omega
theorem write_w2 (c:TConf) (r:TRep) (q:TQc):wRep (writeOwn c r (see c r.2.2.2.1 q)).1≤40+8*wRep r+12*wQc q:=by
 have h1:=own_w c r (see c r.2.2.2.1 q)
 have h2:=see_w c r.2.2.2.1 q
 have h4:wSafe r.2.2.2.1≤wRep r:=by simp only[wRep]; omega
 omega
theorem spec_l16Top_eq (c:TConf) (r:TRep) (p:TPart) (hok:repOk c r=true) (hr:wRep r≤20000000) (hp:wPart p≤20000000) :
  spec_l16Top (c,r,p,())=some ((bif (partQc c p).2 then top c r p else (r,false)).1,(bif (partQc c p).2 then top c r p else (r,false)).2,()):=by
 have hs:wSafe r.2.2.2.1≤20000000:=by simp only[wRep] at hr; omega
 have hpq:wQc p≤20000000:=hp
 unfold spec_l16Top
 dsimp only
 rw[spec_PartQc_eq c p (by omega),Option.bind_some]
 cases h:(partQc c p).2
 ·rfl
 ·obtain⟨e,hq⟩:=partQc_ok h
  have hv:=qc_view hq
  have hsee:=see_w c r.2.2.2.1 p
  have hww:=write_w2 c r p
  dsimp only
  simp only[Bool.not_true,cond_false,cond_true]
  rw[e,spec_See_eq c r.2.2.2.1 p (by omega) (by omega),Option.bind_some,spec_l15Write_eq c r (see c r.2.2.2.1 p) (by omega) (by omega),Option.bind_some,wr_id' (show -9223372036854775808≤p.1+1 by omega) (by omega)]
  unfold top
  cases hw:(writeOwn c r (see c r.2.2.2.1 p)).2
  ·rfl
  ·obtain⟨o1,o2,o3⟩:=writeOwn_ok hok hw
   simp only[Bool.not_true,cond_false,cond_true,spec_max_eq,spec_Root_eq,Option.bind_some]
   cases decide (p.1+1>60)
   ·simp only[cond_false]
    cases (rootOf c (p.1+1)==r.1)
    ·simp only[cond_false]
     have hm:=msg3_w p (p.1+1) r.1
     rw[spec_l16Tell_eq c _ _ _ (repOk_conf hok) (by show wRep (inView (writeOwn c r (see c r.2.2.2.1 p)).1 _)≤_; simp only[inView,wRep] at hww hr ⊢; omega) (by omega),Option.bind_some]
     rfl
    ·rfl
   ·rfl
noncomputable def climbIn (c:TConf) (r:TRep) (v:Int) (name:List UInt8) (force:Bool):TRep×Bool:=
 bif (((tableGet r.2.2.2.2.2.1 v name).2.2.length:Int)==0) then (r,false) else bif name==[] then (r,false) else
 bif rootOf c v==r.1 then (bif (partQc c (tableGet r.2.2.2.2.2.1 v name)).2 then top c r (tableGet r.2.2.2.2.2.1 v name) else (r,false)) else
 bif !force && decide ((common (under c v r.1) (tableGet r.2.2.2.2.2.1 v name).2.2:Int)<((under c v r.1).length:Int)) then (r,false) else
 tellOwn c r (up c v r.1) (2,0,([],0,[],[]),tableGet r.2.2.2.2.2.1 v name,(0,[],[]),0,0,0,0,0)
noncomputable def climb (c:TConf) (r:TRep) (v:Int) (name:List UInt8) (force:Bool):TRep×Bool:=
 bif repOk c r && (climbIn c r v name force).2 then ((climbIn c r v name force).1,true) else (r,false)
theorem tableGet_w (l:TPartS) (v:Int) (name:List UInt8):wPart (tableGet l v name)≤wPartS l+name.length:=by
 unfold tableGet
 cases h:l.find? (fun p=>p.1==v && p.2.1==name) with
 | none=>simp[wPart,wIntS]
 | some p=>
  have:=sum_mem wPart (List.mem_of_find?_eq_some h)
  simp only[wPartS]; omega
theorem msg2_w (p:TPart):wMsg (2,0,([],0,[],[]),p,(0,[],[]),0,0,0,0,0)=wPart p:=by
 simp[wMsg,wBlock,wPart,wQc,wIntS]
theorem spec_l16Climb_eq (c:TConf) (r:TRep) (v:Int) (name:List UInt8) (force:Bool) (hok:repOk c r=true) (hr:wRep r≤15000000) (hn:name.length≤5000000) :
  spec_l16Climb (c,r,v,name,force,())=some ((climbIn c r v name force).1,(climbIn c r v name force).2,()):=by
 have ht:wPartS r.2.2.2.2.2.1≤15000000:=by simp only[wRep] at hr; omega
 have hg:=tableGet_w r.2.2.2.2.2.1 v name
 have hl:(tableGet r.2.2.2.2.2.1 v name).2.2.length≤20000000:=by
  have:(tableGet r.2.2.2.2.2.1 v name).2.2.length≤wPart (tableGet r.2.2.2.2.2.1 v name):=by simp only[wPart,wIntS]; omega
  omega
 have hu:=under_len c v r.1
 unfold spec_l16Climb climbIn
 dsimp only
 rw[spec_TableGet_eq _ v name (by omega),Option.bind_some]
 generalize hP:tableGet r.2.2.2.2.2.1 v name=p at *
 dsimp only
 cases ((p.2.2.length:Int)==0)
 ·simp only[cond_false]
  cases (name==([]:List UInt8))
  ·simp only[cond_false,spec_Root_eq,Option.bind_some]
   cases (rootOf c v==r.1)
   ·simp only[cond_false,spec_Under_eq,Option.bind_some,spec_Common_eq _ p.2.2 (show (under c v r.1).length≤1073741824 by omega) (by omega),spec_Up_eq]
    have hm:=msg2_w p
    rw[spec_l16Tell_eq c r _ _ (repOk_conf hok) (by omega) (by omega)]
    cases force
    ·simp only[Bool.not_false,cond_true,Bool.true_and]
     cases decide ((common (under c v r.1) p.2.2:Int)<((under c v r.1).length:Int))<;>rfl
    ·rfl
   ·simp only[cond_true]
    rw[spec_l16Top_eq c r p hok (by omega) (by omega),Option.bind_some]
  ·rfl
 ·rfl
theorem spec_Climb_eq (c:TConf) (r:TRep) (v:Int) (name:List UInt8) (force:Bool) (hr:wRep r≤15000000) (hn:name.length≤5000000) :
  spec_Climb (c,r,v,name,force,())=some ((climb c r v name force).1,(climb c r v name force).2,()):=by
 unfold spec_Climb climb
 dsimp only
 rw[spec_RepOk_eq c r (by omega),Option.bind_some,spec_l15Copy_eq r (by omega),Option.bind_some,Option.bind_some]
 cases hok:repOk c r
 ·rfl
 ·simp only[Bool.not_true,cond_false,Bool.true_and]
  rw[spec_l16Climb_eq c r v name force hok hr hn,Option.bind_some]
  cases (climbIn c r v name force).2<;>rfl
end G448
namespace G448
open Ev Go
set_option maxRecDepth 100000
theorem setIns (l:List Int) (x:Int) (i:Nat) (hi:i≤l.length) (hl:l.length≤137438953472) :
  ((if (((0:Int)≤0)∧((0≤(i:Int))∧((i:Int)≤(((List.length l):Nat):Int)))) then (if (((0+(List.length (List.take ((Int.toNat (i:Int)) - (Int.toNat 0)) (List.drop (Int.toNat 0) l))))*8)≤70368744177664) then (if ((((List.length ([]++(List.take ((Int.toNat (i:Int)) - (Int.toNat 0)) (List.drop (Int.toNat 0) l))))+(List.length (x::[])))*8)≤70368744177664) then (if ((0≤(i:Int))∧(((i:Int)≤(((List.length l):Nat):Int))∧((((List.length l):Nat):Int)≤(((List.length l):Nat):Int)))) then (if ((((List.length (([]++(List.take ((Int.toNat (i:Int)) - (Int.toNat 0)) (List.drop (Int.toNat 0) l)))++(x::[])))+(List.length (List.take ((Int.toNat (((List.length l):Nat):Int)) - (Int.toNat (i:Int))) (List.drop (Int.toNat (i:Int)) l))))*8)≤70368744177664) then some (((([]++(List.take ((Int.toNat (i:Int)) - (Int.toNat 0)) (List.drop (Int.toNat 0) l)))++(x::[]))++(List.take ((Int.toNat (((List.length l):Nat):Int)) - (Int.toNat (i:Int))) (List.drop (Int.toNat (i:Int)) l))),()) else none) else none) else none) else none) else none):Option (List Int×Unit))=some (l.take i++x::l.drop i,()):=by
 have h1:(l.take i).length=i:=by rw[List.length_take]; omega
 have h2:(l.drop i).length=l.length - i:=List.length_drop
 have h3:(l.drop i).take (l.length - i)=l.drop i:=List.take_of_length_le (by rw[h2]; exact Nat.le_refl _)
 simp only[Int.toNat_natCast,show Int.toNat 0=0 from rfl,Nat.sub_zero,List.drop_zero,List.nil_append,h3,List.length_append,h1,h2,List.length_cons,List.length_nil]
 rw[if_pos ⟨by omega,by omega,by omega⟩,if_pos (by omega),if_pos (by omega),if_pos ⟨by omega,by omega,by omega⟩,if_pos (by omega)]
 simp
noncomputable def setK (l:List Int) (x:Int):Nat:=firstAt (fun y=>decide (y≥x)) 0 l
noncomputable def setAdd (l:List Int) (x:Int):List Int:=bif l.any (· == x) then l else l.take (setK l x)++x::l.drop (setK l x)
theorem spec_SetAdd_eq (l:List Int) (x:Int) (hl:l.length≤137438953472):spec_SetAdd (l,x,())=some (setAdd l x,()):=by
 unfold spec_SetAdd setAdd
 dsimp only
 rw[spec_SetHas_eq l x (by omega),Option.bind_some]
 dsimp only
 cases l.any (· == x)
 ·simp only[cond_false]
  unfold setK
  refine (walk l.length (fun i (_:Unit)=>(i,())) (fun _ _=>True) (fun i _=>some (l.take (firstAt (fun y=>decide (y≥x)) i (l.drop i))++x::l.drop (firstAt (fun y=>decide (y≥x)) i (l.drop i)),())) (by omega) ?_ ?_ (s0:=()) trivial).trans (by simp only[List.drop_zero])
  ·intro rec s _
   have e:=setIns l x l.length (Nat.le_refl _) hl
   rw[List.drop_length] at e ⊢
   simp only[Int.lt_irrefl,decide_false,cond_false,firstAt]
   rw[List.drop_length]
   exact e
  ·intro rec i s hi _
   have hx:l[i]?=some l[i]:=List.getElem?_eq_getElem hi
   have e:=setIns l x i (Nat.le_of_lt hi) hl
   have hd0:decide ((i:Int)<((l.length:Nat):Int))=true:=decide_eq_true (by omega)
   have hr:rd .i64 l (Int.toNat (i:Int))=l[i]:=rd_get (e:=.i64) hx
   dsimp only
   by_cases hlt:l[i]<x
   ·right
    have hd:decide (l[i]≥x)=false:=decide_eq_false (by omega)
    refine⟨(),trivial,?_,?_⟩
    ·rw[hd0,cond_true,if_pos (ge_ok hi),hr,decide_eq_true hlt,cond_true,wr_nat (show i<4611686018427387904 by omega)]
    ·rw[List.drop_eq_getElem_cons hi]
     simp only[firstAt,hd,cond_false]
   ·left
    have hd:decide (l[i]≥x)=true:=decide_eq_true (by omega)
    rw[hd0,cond_true,if_pos (ge_ok hi),hr,decide_eq_false hlt,cond_false]
    refine e.trans ?_
    rw[show firstAt (fun y=>decide (y≥x)) i (l.drop i)=i by rw[List.drop_eq_getElem_cons hi]; simp only[firstAt,hd,cond_true]]
 ·simp only[cond_true,List.nil_append]
  rw[if_pos (by omega)]
theorem setAdd_len (l:List Int) (x:Int):(setAdd l x).length≤l.length+1:=by
 have hle:setK l x≤l.length:=by have:=(firstAt_le (fun y=>decide (y≥x)) l 0).2; unfold setK; omega
 unfold setAdd
 cases l.any (· == x)
 ·simp only[cond_false,List.length_append,List.length_cons,List.length_take,List.length_drop]; omega
 ·simp only[cond_true]; omega
end G448
namespace G448
open Ev Go
set_option maxRecDepth 100000
noncomputable def setJoin (a b:List Int):List Int:=b.foldl setAdd (a.foldl setAdd [])
theorem setFold_len : ∀ (l s:List Int),(l.foldl setAdd s).length≤s.length+l.length
 | [],s=>by simp
 | x::l,s=>by
  have h1:=setAdd_len s x
  have h2:=setFold_len l (setAdd s x)
  simp only[List.foldl_cons,List.length_cons]; omega
theorem setJoin_len (a b:List Int):(setJoin a b).length≤a.length+b.length:=by
 have h1:=setFold_len a []
 have h2:=setFold_len b (a.foldl setAdd [])
 simp only[setJoin,List.length_nil] at *; omega
theorem join_loop {K:List Int→Option (List Int×Unit)} (l s0:List Int) (hl:l.length≤1152921504606846976) {G:(List Int×Int×Unit→Option (List Int×Unit))→List Int×Int×Unit→Option (List Int×Unit)}
  (hon : ∀ (rec:List Int×Int×Unit→Option (List Int×Unit)) (i:Nat) (s:List Int) (h:i<l.length),s.length≤s0.length+i→G rec (s,(i:Int),())=rec (setAdd s l[i],(i:Int)+1,()))
  (hoff : ∀ (rec:List Int×Int×Unit→Option (List Int×Unit)) (s:List Int),s.length≤s0.length+l.length→G rec (s,(l.length:Int),())=K s) :
  iter G fuel (s0,0,())=K (l.foldl setAdd s0):=by
 refine (walk l.length (fun i (s:List Int)=>(s,i,())) (fun i s=>s.length≤s0.length+i) (fun i s=>K ((l.drop i).foldl setAdd s)) hl ?_ ?_ (s0:=s0) (by simp)).trans (by simp only[List.drop_zero])
 ·intro rec s hI
  rw[hoff rec s hI,List.drop_length]
  rfl
 ·intro rec i s hi hI
  have:=setAdd_len s l[i]
  exact .inr ⟨setAdd s l[i],by omega,hon rec i s hi hI,by rw[List.drop_eq_getElem_cons hi]; rfl⟩
theorem spec_SetJoin_eq (a b:List Int) (ha:a.length≤1073741824) (hb:b.length≤1073741824):spec_SetJoin (a,b,())=some (setJoin a b,()):=by
 unfold spec_SetJoin
 refine join_loop (K:=fun s=>some (b.foldl setAdd s,())) a [] (by omega) ?_ ?_
 ·intro rec i s hi hI
  have hx:a[i]?=some a[i]:=List.getElem?_eq_getElem hi
  simp only[List.length_nil] at hI
  simp only[ge_ok hi,decide_true,cond_true,and_self,if_true,Int.toNat_natCast,rd_get (e:=.i64) hx,spec_SetAdd_eq s a[i] (by omega),Option.bind_some,wr_nat (show i<4611686018427387904 by omega)]
 ·intro rec s hI
  simp only[List.length_nil] at hI
  simp only[Int.lt_irrefl,decide_false,cond_false]
  refine join_loop (K:=fun s=>some (s,())) b s (by omega) ?_ ?_
  ·intro rec i s2 hi hI2
   have hx:b[i]?=some b[i]:=List.getElem?_eq_getElem hi
   simp only[ge_ok hi,decide_true,cond_true,and_self,if_true,Int.toNat_natCast,rd_get (e:=.i64) hx,spec_SetAdd_eq s2 b[i] (by omega),Option.bind_some,wr_nat (show i<4611686018427387904 by omega)]
  ·intro rec s2 _
   simp only[Int.lt_irrefl,decide_false,cond_false]
noncomputable def partJoin (a b:TPart):TPart×Bool:=bif a.1==b.1 && a.2.1==b.2.1 then ((a.1,a.2.1,setJoin a.2.2 b.2.2),true) else ((0,[],[]),false)
theorem spec_PartJoin_eq (a b:TPart) (ha:wPart a≤1073741824) (hb:wPart b≤1073741824):spec_PartJoin (a,b,())=some ((partJoin a b).1,(partJoin a b).2,()):=by
 have h1:a.2.2.length≤1073741824∧b.2.2.length≤1073741824:=by simp only[wPart,wIntS] at ha hb; omega
 unfold spec_PartJoin partJoin
 dsimp only
 rw[spec_SetJoin_eq _ _ h1.1 h1.2,Option.bind_some]
 simp only[bne]
 cases (a.1==b.1)<;>cases (a.2.1==b.2.1)<;>rfl
theorem partJoin_w (a b:TPart):wPart (partJoin a b).1≤wPart a+wPart b:=by
 have h:=setJoin_len a.2.2 b.2.2
 unfold partJoin
 cases (a.1==b.1 && a.2.1==b.2.1)
 ·simp[wPart,wIntS]
 ·simp only[cond_true,wPart,wIntS]; omega
noncomputable def tabGo (p:TPart):TPartS→TPartS
 | []=>[p]
 | q::r=>bif beforePart q p then q::tabGo p r else bif (partJoin q p).2 then (partJoin q p).1::r else p::q::r
theorem tabGo_w (p:TPart) : ∀ (l:TPartS),wPartS (tabGo p l)≤wPartS l+wPart p+1
 | []=>by simp[tabGo,wPartS]; omega
 | q::r=>by
  have h:=tabGo_w p r
  have h2:=partJoin_w q p
  simp only[tabGo]
  cases beforePart q p
  ·cases (partJoin q p).2
   ·simp only[cond_false,wPartS,List.length_cons,List.map_cons,List.sum_cons]; omega
   ·simp only[cond_false,cond_true,wPartS,List.length_cons,List.map_cons,List.sum_cons]; omega
  ·simp only[cond_true,wPartS,List.length_cons,List.map_cons,List.sum_cons] at h ⊢; omega
noncomputable def tableAdd (c:TConf) (l:TPartS) (p:TPart):TPartS×Bool:=bif partOk c p && tableOk c (tabGo p l) then (tabGo p l,true) else (l,false)
end G448
namespace G448
open Ev Go
set_option maxRecDepth 100000
theorem wPartS_app (a b:TPartS):wPartS (a++b)=wPartS a+wPartS b:=by
 simp only[wPartS,List.length_append,List.map_append,List.sum_append]; omega
theorem wPartS_len (a:TPartS):a.length≤wPartS a:=by unfold wPartS; omega
def TabI (l:TPartS) (p:TPart) (i:Nat) (s:TPartS×Bool):Prop:=
 (s.2=true∧s.1++l.drop i=tabGo p l)∨(s.2=false∧s.1++tabGo p (l.drop i)=tabGo p l)
theorem TabI.w {l:TPartS} {p:TPart} {i:Nat} {s:TPartS×Bool} (h:TabI l p i s):wPartS s.1≤wPartS l+wPart p+1:=by
 have h0:=tabGo_w p l
 rcases h with⟨_,h⟩|⟨_,h⟩<;>rw[←h,wPartS_app] at h0<;>omega
theorem spec_TableAdd_eq (c:TConf) (l:TPartS) (p:TPart) (hl:wPartS l≤100000000) (hp:wPart p≤100000000):spec_TableAdd (c,l,p,())=some ((tableAdd c l p).1,(tableAdd c l p).2,()):=by
 have hll:=wPartS_len l
 have htw:=tabGo_w p l
 have hfin : ∀ out:TPartS,out=tabGo p l→((spec_TableOk (c,out,())).bind fun r10=>(bif (!r10.1) then ((spec_l10Table (l,())).bind fun r11=>some (r11.1,(false,()))) else ((spec_PartOk (c,(p,()))).bind fun r12=>(bif (!r12.1) then ((spec_l10Table (l,())).bind fun r13=>some (r13.1,(false,()))) else some (out,(true,()))))))=some ((tableAdd c l p).1,(tableAdd c l p).2,()):=by
  intro out ho
  subst ho
  rw[spec_TableOk_eq c _ (by omega),Option.bind_some,spec_l10Table_eq l (by omega),spec_PartOk_eq c p (by omega)]
  unfold tableAdd
  cases tableOk c (tabGo p l)<;>cases partOk c p<;>rfl
 unfold spec_TableAdd
 dsimp only
 refine walk l.length (fun i (s:TPartS×Bool)=>(s.1,s.2,i,())) (fun i s=>TabI l p i s) (fun _ _=>some ((tableAdd c l p).1,(tableAdd c l p).2,())) (by omega) ?_ ?_ (s0:=([],false)) (.inr ⟨rfl,rfl⟩)
 ·rintro rec ⟨out,put⟩ hI
  have hw:=hI.w
  have hol:=wPartS_len out
  unfold TabI at hI
  rw[List.drop_length] at hI
  simp only[Int.lt_irrefl,decide_false,cond_false]
  cases put
  ·rcases hI with⟨h,_⟩|⟨_,h⟩
   ·cases h
   ·simp only[Bool.not_false,cond_true]
    rw[spec_l10Copy_eq p (by omega),Option.bind_some,if_pos (by simp only[List.length_cons,List.length_nil]; simp only at hw hol; omega)]
    exact hfin (out++[p]) h
  ·rcases hI with⟨_,h⟩|⟨h,_⟩
   ·simp only[Bool.not_true,cond_false]
    exact hfin out (by simpa using h)
   ·cases h
 ·rintro rec i ⟨out,put⟩ hi hI
  have hx:l[i]?=some l[i]:=List.getElem?_eq_getElem hi
  have hpw:wPart l[i]≤100000000:=wPart_mem hl hx
  have hw:=hI.w
  have hol:=wPartS_len out
  simp only at hw hol
  unfold TabI at hI
  rw[List.drop_eq_getElem_cons hi] at hI
  right
  simp only[ge_ok hi,decide_true,cond_true,and_self,if_true,Int.toNat_natCast,rd_get (e:=EPart) hx,spec_l10Copy_eq l[i] (by omega),Option.bind_some,wr_nat (show i<4611686018427387904 by omega)]
  cases put
  ·rcases hI with⟨h,_⟩|⟨_,h⟩
   ·cases h
   ·simp only[Bool.not_false,cond_true,spec_l10Before_eq,Option.bind_some]
    simp only[tabGo] at h
    cases hb:beforePart l[i] p
    ·rw[hb] at h
     simp only[cond_false] at h
     simp only[Bool.not_false,cond_true,spec_PartJoin_eq l[i] p (by omega) (by omega),Option.bind_some,spec_l10Copy_eq p (show wPart p≤137438953472 by omega)]
     cases hj:(partJoin l[i] p).2
     ·rw[hj] at h
      simp only[cond_false] at h ⊢
      rw[if_pos (by simp only[List.length_cons,List.length_nil]; omega),if_pos (by simp only[List.length_append,List.length_cons,List.length_nil]; omega)]
      exact⟨(out++[p]++[l[i]],true),.inl ⟨rfl,by simpa using h⟩,rfl,trivial⟩
     ·rw[hj] at h
      simp only[cond_true] at h ⊢
      rw[if_pos (by simp only[List.length_cons,List.length_nil]; omega)]
      exact⟨(out++[(partJoin l[i] p).1],true),.inl ⟨rfl,by simpa using h⟩,rfl,trivial⟩
    ·rw[hb] at h
     simp only[cond_true] at h
     simp only[Bool.not_true,cond_false]
     rw[if_pos (by simp only[List.length_cons,List.length_nil]; omega)]
     exact⟨(out++[l[i]],false),.inr ⟨rfl,by simpa using h⟩,rfl,trivial⟩
  ·rcases hI with⟨_,h⟩|⟨h,_⟩
   ·simp only[Bool.not_true,cond_false]
    rw[if_pos (by simp only[List.length_cons,List.length_nil]; omega)]
    exact⟨(out++[l[i]],true),.inl ⟨rfl,by simpa using h⟩,rfl,trivial⟩
   ·cases h
end G448
namespace G448
open Ev Go
set_option maxRecDepth 100000
def withTable (r:TRep) (t:TPartS):TRep:=(r.1,r.2.1,r.2.2.1,r.2.2.2.1,r.2.2.2.2.1,t,r.2.2.2.2.2.2)
theorem withTable_ok {c:TConf} {r:TRep} {t:TPartS} (h:repOk c r=true) (ht:tableOk c t=true):repOk c (withTable r t)=true:=by
 obtain⟨a,v,k,sf,pool,tab,dk,held⟩:=r
 show repOk c (a,v,k,sf,pool,t,dk,held)=true
 unfold repOk at h ⊢
 simp only[Bool.and_eq_true] at h ⊢
 obtain⟨a1,a2,a3,a4,a5,a6,a7,a8⟩:=h
 exact⟨a1,a2,a3,a4,a5,a6,ht,a8⟩
theorem tableAdd_ok {c:TConf} {l:TPartS} {p:TPart} (h:(tableAdd c l p).2=true):tableOk c (tableAdd c l p).1=true:=by
 unfold tableAdd at *
 cases h1:(partOk c p && tableOk c (tabGo p l))
 ·rw[h1] at h; cases h
 ·simp only[Bool.and_eq_true] at h1
  exact h1.2
theorem tableAdd_w (c:TConf) (l:TPartS) (p:TPart):wPartS (tableAdd c l p).1≤wPartS l+wPart p+1:=by
 have h:=tabGo_w p l
 unfold tableAdd
 cases (partOk c p && tableOk c (tabGo p l))
 ·simp only[cond_false]; omega
 ·exact h
noncomputable def hearPart (c:TConf) (r:TRep) (p:TPart):TRep×Bool:=
 bif !repOk c r then (r,false) else bif !partOk c p then (r,false) else bif p.2.1==[] then (r,false) else bif decide (p.1<r.2.1) then (r,false) else
 bif !(tableAdd c r.2.2.2.2.2.1 p).2 then (r,false) else ((climb c (withTable r (tableAdd c r.2.2.2.2.2.1 p).1) p.1 p.2.1 false).1,true)
theorem spec_HearPart_eq (c:TConf) (r:TRep) (p:TPart) (hr:wRep r≤2000000) (hp:wPart p≤2000000):spec_HearPart (c,r,p,())=some ((hearPart c r p).1,(hearPart c r p).2,()):=by
 have ht:wPartS r.2.2.2.2.2.1≤2000000:=by simp only[wRep] at hr; omega
 have hw:=tableAdd_w c r.2.2.2.2.2.1 p
 have hn:p.2.1.length≤2000000:=by simp only[wPart] at hp; omega
 have hwr:wRep (withTable r (tableAdd c r.2.2.2.2.2.1 p).1)≤15000000:=by simp only[withTable,wRep] at *; omega
 unfold spec_HearPart hearPart
 dsimp only
 rw[spec_l15Copy_eq r (by omega),Option.bind_some,spec_RepOk_eq c r (by omega),Option.bind_some,spec_PartOk_eq c p (by omega),Option.bind_some,Option.bind_some,spec_TableAdd_eq c r.2.2.2.2.2.1 p (by omega) (by omega),Option.bind_some]
 cases hok:repOk c r
 ·rfl
 cases partOk c p
 ·rfl
 cases (p.2.1==([]:List UInt8))
 ·cases decide (p.1<r.2.1)
  ·cases hta:(tableAdd c r.2.2.2.2.2.1 p).2
   ·rfl
   ·have hok2:=withTable_ok (t:=(tableAdd c r.2.2.2.2.2.1 p).1) hok (tableAdd_ok hta)
    simp only[Bool.not_true,cond_false]
    show ((spec_l15Copy (withTable r (tableAdd c r.2.2.2.2.2.1 p).1,())).bind _)=_
    rw[spec_l15Copy_eq _ (by omega),Option.bind_some]
    dsimp only
    rw[spec_l16Climb_eq c _ p.1 p.2.1 false hok2 hwr (by omega),Option.bind_some]
    unfold climb
    rw[hok2]
    cases (climbIn c (withTable r (tableAdd c r.2.2.2.2.2.1 p).1) p.1 p.2.1 false).2<;>rfl
  ·rfl
 ·rfl
end G448
namespace G448
open Ev Go
set_option maxRecDepth 100000
noncomputable def mayVote (c:TConf) (s:TSafe) (b:TBlock):Bool:=safeOk c s && (blockOk c b && (decide (viewOf b.1>s.1) && decide (b.2.1≥s.2.1)))
theorem spec_MayVote_eq (c:TConf) (s:TSafe) (b:TBlock) (hs:wSafe s≤137438953472) (hb:wBlock b≤137438953472):spec_MayVote (c,s,b,())=some (mayVote c s b,()):=by
 have h1:b.1.length≤137438953472:=by simp only[wBlock] at hb; omega
 unfold spec_MayVote mayVote
 dsimp only
 rw[spec_SafeOk_eq c s hs,Option.bind_some,spec_BlockOk_eq c b hb,Option.bind_some,spec_ViewOf_eq b.1 h1,Option.bind_some]
 cases safeOk c s<;>cases blockOk c b<;>cases decide (viewOf b.1>s.1)<;>rfl
noncomputable def vote (c:TConf) (s:TSafe) (b:TBlock):TSafe:=bif mayVote c s b then (viewOf b.1,s.2) else s
theorem spec_Vote_eq (c:TConf) (s:TSafe) (b:TBlock) (hs:wSafe s≤137438953472) (hb:wBlock b≤137438953472):spec_Vote (c,s,b,())=some (vote c s b,mayVote c s b,()):=by
 have h1:b.1.length≤137438953472:=by simp only[wBlock] at hb; omega
 unfold spec_Vote vote
 dsimp only
 rw[spec_l11Copy_eq s hs,Option.bind_some,spec_MayVote_eq c s b hs hb,Option.bind_some,spec_ViewOf_eq b.1 h1,Option.bind_some]
 cases mayVote c s b<;>rfl
theorem vote_w (c:TConf) (s:TSafe) (b:TBlock):wSafe (vote c s b)≤wSafe s:=by
 unfold vote
 cases mayVote c s b
 ·exact Nat.le_refl _
 ·exact Nat.le_refl _
noncomputable def voted (c:TConf) (r0 w:TRep) (name:List UInt8):TRep×Bool:=
 bif !(tableAdd c w.2.2.2.2.2.1 (viewOf name,name,[w.1])).2 then (r0,false) else ((climb c (withTable w (tableAdd c w.2.2.2.2.2.1 (viewOf name,name,[w.1])).1) (viewOf name) name false).1,true)
noncomputable def hearBlock (c:TConf) (r:TRep) (b:TBlock):TRep×Bool:=
 bif !repOk c r then (r,false) else bif !blockOk c b then (r,false) else
 bif decide (viewOf b.1≥r.2.1) then
  (bif !(writeOwn c (inView r (viewOf b.1)) (vote c (see c r.2.2.2.1 b.2) b)).2 then (r,false) else
   bif !mayVote c (see c r.2.2.2.1 b.2) b then ((writeOwn c (inView r (viewOf b.1)) (vote c (see c r.2.2.2.1 b.2) b)).1,true) else
   voted c r (writeOwn c (inView r (viewOf b.1)) (vote c (see c r.2.2.2.1 b.2) b)).1 b.1)
 else (bif !(writeOwn c r (see c r.2.2.2.1 b.2)).2 then (r,false) else ((writeOwn c r (see c r.2.2.2.1 b.2)).1,true))
theorem wName (v me:Int) (name:List UInt8):wPart (v,name,[me])=name.length+1:=by simp[wPart,wIntS]
theorem spec_l17Own_eq (c:TConf) (w:TRep) (name:List UInt8) (hok:repOk c w=true) (hw:wRep w≤13000000) (hn:name.length≤1100000) :
  spec_l17Own (c,w,name,())=some ((voted c w w name).1,(voted c w w name).2,()):=by
 have ht:wPartS w.2.2.2.2.2.1≤13000000:=by simp only[wRep] at hw; omega
 have hp:=wName (viewOf name) w.1 name
 have hta:=tableAdd_w c w.2.2.2.2.2.1 (viewOf name,name,[w.1])
 have hwr:wRep (withTable w (tableAdd c w.2.2.2.2.2.1 (viewOf name,name,[w.1])).1)≤15000000:=by simp only[withTable,wRep] at *; omega
 unfold spec_l17Own voted
 dsimp only
 rw[spec_ViewOf_eq name (by omega),Option.bind_some]
 dsimp only
 rw[spec_TableAdd_eq c w.2.2.2.2.2.1 (viewOf name,name,[w.1]) (by omega) (by omega),Option.bind_some]
 cases h:(tableAdd c w.2.2.2.2.2.1 (viewOf name,name,[w.1])).2
 ·rfl
 ·have hok2:=withTable_ok (t:=(tableAdd c w.2.2.2.2.2.1 (viewOf name,name,[w.1])).1) hok (tableAdd_ok h)
  simp only[Bool.not_true,cond_false]
  show ((spec_l15Copy (withTable w (tableAdd c w.2.2.2.2.2.1 (viewOf name,name,[w.1])).1,())).bind _)=_
  rw[spec_l15Copy_eq _ (by omega),Option.bind_some,Option.bind_some]
  dsimp only
  rw[spec_l16Climb_eq c _ (viewOf name) name false hok2 hwr (by omega),Option.bind_some]
  unfold climb
  rw[hok2]
  cases (climbIn c (withTable w (tableAdd c w.2.2.2.2.2.1 (viewOf name,name,[w.1])).1) (viewOf name) name false).2<;>rfl
theorem voted_flag (c:TConf) (r0 w:TRep) (name:List UInt8):(voted c r0 w name).2=(tableAdd c w.2.2.2.2.2.1 (viewOf name,name,[w.1])).2∧((voted c r0 w name).2=true→(voted c w w name).1=(voted c r0 w name).1)∧((voted c r0 w name).2=false→(voted c r0 w name).1=r0)∧(voted c w w name).2=(voted c r0 w name).2:=by
 unfold voted
 cases (tableAdd c w.2.2.2.2.2.1 (viewOf name,name,[w.1])).2
 ·exact⟨rfl,fun h=>(by cases h),fun _=>rfl,rfl⟩
 ·exact⟨rfl,fun _=>rfl,fun h=>(by cases h),rfl⟩
theorem spec_HearBlock_eq (c:TConf) (r:TRep) (b:TBlock) (hrb:wRep r+wBlock b≤1048576):spec_HearBlock (c,r,b,())=some ((hearBlock c r b).1,(hearBlock c r b).2,()):=by
 have hs:wSafe r.2.2.2.1≤wRep r:=by simp only[wRep]; omega
 have hq:wQc b.2≤wBlock b∧b.1.length≤wBlock b:=by simp only[wBlock]; omega
 have hsee:=see_w c r.2.2.2.1 b.2
 have hvote:=vote_w c (see c r.2.2.2.1 b.2) b
 have hiv:wRep (inView r (viewOf b.1))=wRep r:=rfl
 unfold spec_HearBlock hearBlock
 dsimp only
 rw[spec_l15Copy_eq r (by omega),Option.bind_some,spec_RepOk_eq c r (by omega),Option.bind_some,spec_BlockOk_eq c b (by omega),Option.bind_some,Option.bind_some,spec_See_eq c r.2.2.2.1 b.2 (by omega) (by omega),Option.bind_some,spec_ViewOf_eq b.1 (by omega),Option.bind_some,spec_MayVote_eq c (see c r.2.2.2.1 b.2) b (by omega) (by omega),Option.bind_some,spec_Vote_eq c (see c r.2.2.2.1 b.2) b (by omega) (by omega)]
 simp only[Option.bind_some]
 cases hok:repOk c r
 ·rfl
 cases hbo:blockOk c b
 ·rfl
 by_cases hv:viewOf b.1≥r.2.1
 ·have hn:nameOk b.1=true∧b.1≠[]:=by
   unfold blockOk at hbo
   simp only[Bool.and_eq_true,bne_iff_ne,ne_eq] at hbo
   exact⟨hbo.2.1,hbo.2.2.1⟩
  have hnv:=name_view hn.1 hn.2
  have hok1:=inView_ok (v:=viewOf b.1) hok hnv
  simp only[hv,decide_true,cond_true,Bool.not_true,cond_false]
  cases hm:mayVote c (see c r.2.2.2.1 b.2) b
  ·have e:vote c (see c r.2.2.2.1 b.2) b=see c r.2.2.2.1 b.2:=by unfold vote; rw[hm]; rfl
   simp only[cond_false,Bool.not_false,cond_true,e]
   show ((spec_l15Write (c,inView r (viewOf b.1),see c r.2.2.2.1 b.2,())).bind _)=_
   rw[spec_l15Write_eq c (inView r (viewOf b.1)) (see c r.2.2.2.1 b.2) (by omega) (by omega),Option.bind_some]
   cases (writeOwn c (inView r (viewOf b.1)) (see c r.2.2.2.1 b.2)).2<;>rfl
  ·simp only[cond_true,Bool.not_true,cond_false]
   have hww:=own_w c (inView r (viewOf b.1)) (vote c (see c r.2.2.2.1 b.2) b)
   show ((spec_l15Write (c,inView r (viewOf b.1),vote c (see c r.2.2.2.1 b.2) b,())).bind _)=_
   rw[spec_l15Write_eq c (inView r (viewOf b.1)) (vote c (see c r.2.2.2.1 b.2) b) (by omega) (by omega),Option.bind_some]
   cases hw:(writeOwn c (inView r (viewOf b.1)) (vote c (see c r.2.2.2.1 b.2) b)).2
   ·rfl
   ·obtain⟨o1,o2,o3⟩:=writeOwn_ok hok1 hw
    obtain⟨f1,f2,f3,f4⟩:=voted_flag c r (writeOwn c (inView r (viewOf b.1)) (vote c (see c r.2.2.2.1 b.2) b)).1 b.1
    simp only[cond_true,Bool.not_true,cond_false]
    rw[spec_l17Own_eq c _ b.1 o1 (by omega) (by omega),Option.bind_some]
    dsimp only
    rw[f4]
    cases hf:(voted c r (writeOwn c (inView r (viewOf b.1)) (vote c (see c r.2.2.2.1 b.2) b)).1 b.1).2
    ·simp only[Bool.not_false,cond_true,f3 hf]
    ·simp only[Bool.not_true,cond_false,f2 hf]
 ·simp only[hv,decide_false,cond_false,Bool.not_true]
  rw[spec_l15Write_eq c r (see c r.2.2.2.1 b.2) (by omega) (by omega),Option.bind_some]
  cases (writeOwn c r (see c r.2.2.2.1 b.2)).2<;>rfl
end G448
