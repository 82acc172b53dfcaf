/- Plain laws, part 1: what the functions compute. No program in sight. -/
import Derived.Test.YtojogbjofcckdaaGreatDoorMsFns
import Derived.Lib.IndexBytes
import Derived.Lib.IndexLaws
import Derived.Lib.SplitLaws
import Derived.Lib.ItoaNum
import Derived.Lib.LastIndexByte
set_option linter.unusedSimpArgs false
set_option linter.unusedVariables false
namespace G448
open Ev
theorem iter_eq {S R:Type} {G:(S→Option R)→S→Option R} (f:S→Option R) (μ:S→Nat) (I:S→Prop)
  (h : ∀ (rec:S→Option R) (x:S),I x→(∀ y,I y→μ y<μ x→rec y=f y)→G rec x=f x) : ∀ (n:Nat) (x:S),I x→μ x<n→iter G n x=f x
 | 0,x,_,hn=>by omega
 | n+1,x,hx,hn=>h (iter G n) x hx fun y hy hlt=>iter_eq f μ I h n y hy (by omega)
def foldK {α S R:Type} (body:α→S→(S→Option R)→Option R) (k:S→Option R):List α→S→Option R
 | [],s=>k s
 | x::xs,s=>body x s (foldK body k xs)
theorem foldK_cons {α S R:Type} (body:α→S→(S→Option R)→Option R) (k:S→Option R) (x:α) (xs:List α) (s:S):foldK body k (x::xs) s=body x s (foldK body k xs):=rfl
theorem iter_for {X S R:Type} (len:Nat) {G:(X→Option R)→X→Option R} (mk:Int→S→X) (f:Nat→S→Option R) (hlen:len≤1152921504606846976)
  (hend : ∀ rec s,G rec (mk (len:Int) s)=f len s)
  (hstep : ∀ rec (i:Nat) s,i<len→(∀ s',rec (mk ((i:Int)+1) s')=f (i+1) s')→G rec (mk (i:Int) s)=f i s) :
  ∀ n i s,i≤len→len - i<n→iter G n (mk (i:Int) s)=f i s
 | 0,i,s,_,hn=>by omega
 | n+1,i,s,hi,hn=>by
  rcases Nat.lt_or_ge i len with h|h
  ·exact hstep (iter G n) i s h fun s'=>iter_for len mk f hlen hend hstep n (i+1) s' (by omega) (by omega)
  ·have:i=len:=by omega
   subst this
   exact hend (iter G n) s
theorem fuel_gt {n:Nat} (h:n≤1152921504606846976):n<fuel:=by rw[fuel_def]; omega
theorem forK {α X S R:Type} (l:List α) {G:(X→Option R)→X→Option R} (body:α→S→(S→Option R)→Option R) (k:S→Option R) (mk:Int→S→X) (hl:l.length≤1152921504606846976)
  (hend : ∀ rec s,G rec (mk (l.length:Int) s)=k s)
  (hstep : ∀ rec (i:Nat) s (x:α),l[i]?=some x→i<l.length→G rec (mk (i:Int) s)=body x s (fun s'=>rec (mk ((i:Int)+1) s')))
  (hcong : ∀ x s (r1 r2:S→Option R),(∀ s',r1 s'=r2 s')→body x s r1=body x s r2) (s:S):iter G fuel (mk 0 s)=foldK body k l s:=by
 have:=iter_for l.length mk (fun i s=>foldK body k (l.drop i) s) hl (fun rec s=>by simpa[foldK] using hend rec s) (fun rec i s hi hrec=>by
  rw[hstep rec i s l[i] (List.getElem?_eq_getElem hi) hi,List.drop_eq_getElem_cons hi]
  exact hcong _ _ _ _ hrec) fuel 0 s (Nat.zero_le _) (by simpa using fuel_gt hl)
 simpa using this
theorem wr_id' {n:Int} (h1 : -9223372036854775808≤n) (h2:n≤9223372036854775807):wr n=n:=by rw[wr_def]; omega
theorem wr_nat {i:Nat} (h:i<4611686018427387904):wr ((i:Int)+1)=(i:Int)+1:=wr_id' (by omega) (by omega)
theorem rd_get {e:Ty} {l:List (den e)} {i:Nat} {x:den e} (h:l[i]?=some x):rd e l i=x:=by
 simp[rd,List.getD_eq_getElem?_getD,h]
theorem ge_ok {α:Type} {l:List α} {i:Nat} (h:i<l.length):(0:Int)≤(i:Int)∧(i:Int)<(l.length:Int):=by omega
theorem fill_step {α β:Type} {l:List α} {out:List β} {i:Nat} (y:β) (g:α→β) (h:i<l.length) (ho:out.length=l.length) (hy:y=g l[i]) :
  (out.set i y).take (i+1)++(l.drop (i+1)).map g=out.take i++(l.drop i).map g:=by
 have hi:i<out.length:=by omega
 rw[List.drop_eq_getElem_cons h,List.map_cons,←hy,List.take_add_one,List.take_set_of_le (Nat.le_refl i),List.getElem?_set_self hi]
 simp
theorem fill_loop {α β R:Type} (l:List α) (g:α→β) {G:(Int×List β×Unit→Option R)→Int×List β×Unit→Option R} (k:List β→Option R) (hl:l.length≤1152921504606846976)
  (hend : ∀ rec out,out.length=l.length→G rec ((l.length:Int),out,())=k out)
  (hstep : ∀ rec (i:Nat) out x,l[i]?=some x→i<l.length→out.length=l.length→G rec ((i:Int),out,())=rec ((i:Int)+1,out.set i (g x),())) (out:List β) (ho:out.length=l.length) :
  iter G fuel (0,out,())=k (l.map g):=by
 have key : ∀ n i (out:List β),i≤l.length→out.length=l.length→l.length - i<n→iter G n ((i:Int),out,())=k (out.take i++(l.drop i).map g):=by
  intro n
  induction n with
  | zero=>intro i out h1 h2 h3; omega
  | succ n ih=>
   intro i out hi ho hn
   rcases Nat.lt_or_ge i l.length with h|h
   ·have e1:iter G (n+1) ((i:Int),out,())=iter G n ((i:Int)+1,out.set i (g l[i]),()):=hstep (iter G n) i out l[i] (List.getElem?_eq_getElem h) h ho
    have e2:=ih (i+1) (out.set i (g l[i])) h (by simpa using ho) (by omega)
    rw[fill_step (g l[i]) g h ho rfl] at e2
    rw[e1]
    exact e2
   ·have hi':i=l.length:=by omega
    subst hi'
    have e1:iter G (n+1) ((l.length:Int),out,())=k out:=hend (iter G n) out ho
    rw[e1,List.take_of_length_le (by omega),List.drop_of_length_le (Nat.le_refl _)]
    simp
 have:=key fuel 0 out (Nat.zero_le _) ho (by simpa using fuel_gt hl)
 simpa using this
theorem foldK_any {α:Type} (p:α→Bool) (l:List α):foldK (S:=Unit) (fun x s rec=>bif p x then some (true,()) else rec s) (fun _=>some (false,())) l ()=some (l.any p,()):=by
 induction l with
 | nil=>rfl
 | cons x xs ih=>rw[foldK_cons,ih]; cases h:p x<;>simp[h]
def sub (left:Int) (w:Nat):Int:=if left<(w:Int) then -1 else left - w
theorem sub_zero {left:Int} (h:0≤left):sub left 0=left:=by unfold sub; rw[if_neg (by simpa using h)]; simp
end G448
namespace G448
open Ev
def Ens {α:Type} (o:Option α) (P:α→Prop):Prop := ∃ y,o=some y∧P y
theorem Ens.bind {α β:Type} {x:Option α} {f:α→Option β} {P:α→Prop} {Q:β→Prop} (h:Ens x P) (hf : ∀ y,P y→Ens (f y) Q):Ens (x.bind f) Q:=by
 obtain⟨y,rfl,hy⟩:=h
 exact hf y hy
theorem Ens.some {α:Type} {x:α} {P:α→Prop} (h:P x):Ens (some x) P:=⟨x,rfl,h⟩
theorem Ens.mono {α:Type} {o:Option α} {P Q:α→Prop} (h:Ens o P) (hq : ∀ y,P y→Q y):Ens o Q:=by
 obtain⟨y,e,hy⟩:=h
 exact⟨y,e,hq y hy⟩
theorem Ens.cond {α:Type} {c:Bool} {a b:Option α} {P:α→Prop} (ha:c=true→Ens a P) (hb:c=false→Ens b P):Ens (bif c then a else b) P:=by
 cases c with
 | true=>exact ha rfl
 | false=>exact hb rfl
theorem Ens.ite {α:Type} {c:Prop} [Decidable c] {a b:Option α} {P:α→Prop} (hc:c) (ha:Ens a P):Ens (if c then a else b) P:=by
 rw[if_pos hc]; exact ha
theorem Ens.loop {S R:Type} {G:(S→Option R)→S→Option R} (I:S→Prop) (μ:S→Nat) {P:R→Prop}
  (h : ∀ (rec:S→Option R) (x:S),I x→(∀ y,I y→μ y<μ x→Ens (rec y) P)→Ens (G rec x) P) {x:S} (hx:I x) (hm:μ x<fuel):Ens (iter G fuel x) P:=by
 have key : ∀ (n:Nat) (x:S),I x→μ x<n→Ens (iter G n x) P:=by
  intro n
  induction n with
  | zero=>intro x _ hn; omega
  | succ n ih=>intro x hx hn; exact h (iter G n) x hx fun y hy hlt=>ih y hy (by omega)
 exact key fuel x hx hm
def big:Nat:=140737488355328
theorem cmp_loop {R:Type} (l m:List Int) {G:(Int×Unit→Option R)→Int×Unit→Option R} (yes no:R) (hl:l.length≤1152921504606846976)
  (hend : ∀ rec (i:Nat) s,i≤l.length→i≤m.length→(i=l.length∨i=m.length)→G rec ((i:Int),s)=some (if l.length=m.length then yes else no))
  (hstep : ∀ rec (i:Nat) s x y,l[i]?=some x→m[i]?=some y→i<l.length→i<m.length→G rec ((i:Int),s)=bif x != y then some no else rec ((i:Int)+1,s)) :
  iter G fuel (0,())=some (if l=m then yes else no):=by
 have key : ∀ n i,i≤l.length→i≤m.length→l.length - i<n→iter G n ((i:Int),())=some (if l.drop i=m.drop i then yes else no):=by
  intro n
  induction n with
  | zero=>intro i h1 h2 h3; omega
  | succ n ih=>
   intro i hi hi2 hn
   by_cases he:i=l.length∨i=m.length
   ·have e1:iter G (n+1) ((i:Int),())=some (if l.length=m.length then yes else no):=hend (iter G n) i () hi hi2 he
    have e2:(l.drop i=m.drop i)=(l.length=m.length):=by
     apply propext
     constructor
     ·intro e
      have:=congrArg List.length e
      simp only[List.length_drop] at this
      omega
     ·intro e
      rw[List.drop_of_length_le (by omega),List.drop_of_length_le (by omega)]
    simp only[e1,e2]
   ·have h:i<l.length:=by omega
    have hm:i<m.length:=by omega
    have e1:iter G (n+1) ((i:Int),())=bif l[i] != m[i] then some no else iter G n ((i:Int)+1,()):=hstep (iter G n) i () l[i] m[i] (List.getElem?_eq_getElem h) (List.getElem?_eq_getElem hm) h hm
    rw[e1,List.drop_eq_getElem_cons h,List.drop_eq_getElem_cons hm]
    by_cases he:l[i]=m[i]
    ·rw[he]
     simp only[bne_self_eq_false,cond_false,List.cons.injEq,true_and]
     exact ih (i+1) h hm (by omega)
    ·have:(l[i] != m[i])=true:=by simpa using he
     rw[this,cond_true,if_neg (fun e=>he (List.cons.inj e).1)]
 have:=key fuel 0 (Nat.zero_le _) (Nat.zero_le _) (by simpa using fuel_gt hl)
 simpa only [List.drop_zero,Int.natCast_zero] using this
end G448
namespace G448
open Ev
end G448
namespace G448
open Ev
theorem spec_SetHas_eq (l:List Int) (v:Int) (h:l.length≤1152921504606846976):spec_SetHas (l,v,())=some (l.any (· == v),()):=by
 unfold spec_SetHas
 refine (forK l (fun x s rec=>bif x==v then some (true,()) else rec s) (fun s=>some (false,())) (fun i s=>(i,s)) h ?_ ?_ ?_ ()).trans (foldK_any _ _)
 ·intro rec s; simp
 ·intro rec i s x hx hi
  simp only[Int.toNat_natCast,ge_ok hi,decide_true,cond_true,if_true,and_self,rd,List.getD_eq_getElem?_getD,hx,Option.getD_some,wr_nat (show i<4611686018427387904 by omega)]
 ·intro x s r1 r2 hr; simp[hr]
theorem Equal_int_eq (l m:List Int) (hl:l.length≤1152921504606846976):slices_Equal_int (l,m,())=some (decide (l=m),()):=by
 unfold slices_Equal_int
 by_cases hlm:l.length=m.length
 ·simp only[hlm,bne_self_eq_false,cond_false]
  rw[←hlm]
  refine (cmp_loop l m (true,()) (false,()) hl ?_ ?_).trans (by by_cases h:l=m<;>simp[h])
  ·intro rec i s h1 h2 h3
   have hnl : ¬ (i:Int)<(l.length:Int):=by omega
   simp only[hlm] at hnl ⊢
   simp[hnl]
  ·intro rec i s x y hx hy hi hm
   simp only[Int.toNat_natCast,(ge_ok hi).1,(ge_ok hi).2,(ge_ok hm).2,decide_true,cond_true,if_true,and_self,rd,List.getD_eq_getElem?_getD,hx,hy,Option.getD_some,wr_nat (show i<4611686018427387904 by omega)]
 ·have h1:(((l.length:Nat):Int) != ((m.length:Nat):Int))=true:=bne_iff_ne.2 (by omega)
  have h2 : ¬ l=m:=fun h=>hlm (by rw[h])
  simp[h1,h2]
theorem l7Ints_eq (l m:List Int) (hl:l.length≤1152921504606846976):spec_l7Ints (l,m,())=some (decide (l=m),()):=by
 unfold spec_l7Ints
 refine (cmp_loop l m (true,()) (false,()) hl ?_ ?_).trans (by by_cases h:l=m<;>simp[h])
 ·intro rec i s h1 h2 h3
  rcases Nat.lt_or_ge i l.length with h|h
  ·have hm:i=m.length:=by omega
   have hnm : ¬ (i:Int)<(m.length:Int):=by omega
   have hbe:(((l.length:Nat):Int)==((m.length:Nat):Int))=false:=by simp; omega
   have hne : ¬ l.length=m.length:=by omega
   simp only[ge_ok h,hnm,decide_true,decide_false,cond_true,cond_false,hbe,if_neg hne]
  ·have hnl : ¬ (i:Int)<(l.length:Int):=by omega
   simp only[hnl,decide_false,cond_false]
   by_cases e:l.length=m.length
   ·simp[e]
   ·have hbe:(((l.length:Nat):Int)==((m.length:Nat):Int))=false:=by simp; omega
    simp only[hbe,if_neg e]
 ·intro rec i s x y hx hy hi hm
  simp only[Int.toNat_natCast,(ge_ok hi).1,(ge_ok hi).2,(ge_ok hm).2,decide_true,cond_true,if_true,and_self,rd,List.getD_eq_getElem?_getD,hx,hy,Option.getD_some,wr_nat (show i<4611686018427387904 by omega)]
end G448
namespace G448
open Ev
abbrev TDisk:=List UInt8×Int
end G448
namespace G448
open Ev
theorem sum_mem {α:Type} {l:List α} {x:α} (f:α→Nat) (h:x∈l):f x≤(l.map f).sum:=by
 induction l with
 | nil=>cases h
 | cons y r ih=>
  simp only[List.map_cons,List.sum_cons]
  rcases List.mem_cons.1 h with rfl|h
  ·omega
  ·have:=ih h; omega
abbrev TIntS:=List Int
abbrev TByteS:=List UInt8
abbrev TTx:=Int×Int×Int×Int
abbrev TSaid:=Int×List UInt8×Int
abbrev TQc:=Int×List UInt8×TIntS
abbrev TPart:=Int×List UInt8×TIntS
abbrev TBlock:=List UInt8×TQc
abbrev TMsg:=Int×Int×TBlock×TPart×TQc×Int×TTx
abbrev TPost:=Int×TMsg
abbrev TWire:=Int×TByteS
abbrev TSafe:=Int×Int×TQc×List UInt8
abbrev TTxS:=List TTx
abbrev TSaidS:=List TSaid
abbrev TPartS:=List TPart
abbrev TPostS:=List TPost
abbrev TWireS:=List TWire
abbrev TRep:=Int×Int×Int×TSafe×TTxS×TPartS×TDisk×TPostS
abbrev TRepS:=List TRep
abbrev TConf:=Int×Int
abbrev TWorld:=TConf×TIntS×TRepS×TWireS×TSaidS
def wIntS (x:TIntS):Nat:=x.length
def wByteS (x:TByteS):Nat:=x.length
def wDisk (x:TDisk):Nat:=x.1.length
def wSaid (x:TSaid):Nat:=x.2.1.length
def wQc (x:TQc):Nat:=x.2.1.length+wIntS x.2.2
def wPart (x:TPart):Nat:=x.2.1.length+wIntS x.2.2
def wBlock (x:TBlock):Nat:=x.1.length+wQc x.2
def wMsg (x:TMsg):Nat:=wBlock x.2.2.1+wPart x.2.2.2.1+wQc x.2.2.2.2.1
def wPost (x:TPost):Nat:=wMsg x.2
def wWire (x:TWire):Nat:=wByteS x.2
def wSafe (x:TSafe):Nat:=wQc x.2.2.1+x.2.2.2.length
def wTxS (x:TTxS):Nat:=x.length
def wSaidS (x:TSaidS):Nat:=x.length+(x.map wSaid).sum
def wPartS (x:TPartS):Nat:=x.length+(x.map wPart).sum
def wPostS (x:TPostS):Nat:=x.length+(x.map wPost).sum
def wWireS (x:TWireS):Nat:=x.length+(x.map wWire).sum
def wRep (x:TRep):Nat:=wSafe x.2.2.2.1+wTxS x.2.2.2.2.1+wPartS x.2.2.2.2.2.1+wDisk x.2.2.2.2.2.2.1+wPostS x.2.2.2.2.2.2.2
def wRepS (x:TRepS):Nat:=x.length+(x.map wRep).sum
def wWorld (x:TWorld):Nat:=wIntS x.2.1+wRepS x.2.2.1+wWireS x.2.2.2.1+wSaidS x.2.2.2.2
end G448
namespace G448
open Ev
def MsgW (m:TMsg):Prop:=m.2.2.1.2.2.2.length≤8796093022208∧m.2.2.2.1.2.2.length≤8796093022208∧m.2.2.2.2.1.2.2.length≤8796093022208
theorem MsgW.of {m:TMsg} (h:wMsg m≤137438953472):MsgW m:=by
 simp only[wMsg,wBlock,wQc,wPart,wIntS] at h
 unfold MsgW
 omega
def qcSame (a b:TQc):Bool:=a.1==b.1 && (a.2.1==b.2.1 && decide (a.2.2=b.2.2))
theorem spec_QcSame_eq (a b:TQc) (h:a.2.2.length≤8796093022208):spec_QcSame (a,b,())=some (qcSame a b,()):=by
 unfold spec_QcSame qcSame
 simp only[l7Ints_eq a.2.2 b.2.2 (by omega),Option.bind_some]
 cases a.1==b.1<;>cases a.2.1==b.2.1<;>simp
theorem impl_QcSame_eq (a b:TQc) (h:a.2.2.length≤8796093022208):impl_QcSame (a,b,())=some (qcSame a b,()):=by
 unfold impl_QcSame qcSame
 simp only[Equal_int_eq a.2.2 b.2.2 (by omega),Option.bind_some]
 cases a.1==b.1<;>cases a.2.1==b.2.1<;>simp
theorem spec_l14Part_eq (a b:TQc) (h:a.2.2.length≤8796093022208):spec_l14Part (a,b,())=some (qcSame a b,()):=by
 unfold spec_l14Part qcSame
 simp only[l7Ints_eq a.2.2 b.2.2 (by omega),Option.bind_some]
 cases a.1==b.1<;>cases a.2.1==b.2.1<;>simp
theorem impl_partSame_eq (a b:TQc) (h:a.2.2.length≤8796093022208):impl_partSame (a,b,())=some (qcSame a b,()):=by
 unfold impl_partSame qcSame
 simp only[Equal_int_eq a.2.2 b.2.2 (by omega),Option.bind_some]
 cases a.1==b.1<;>cases a.2.1==b.2.1<;>simp
def blockSame (a b:TBlock):Bool:=a.1==b.1 && qcSame a.2 b.2
theorem spec_BlockSame_eq (a b:TBlock) (h:a.2.2.2.length≤8796093022208):spec_BlockSame (a,b,())=some (blockSame a b,()):=by
 unfold spec_BlockSame blockSame
 simp only[spec_QcSame_eq a.2 b.2 h,Option.bind_some]
 cases a.1==b.1<;>simp
theorem impl_BlockSame_eq (a b:TBlock) (h:a.2.2.2.length≤8796093022208):impl_BlockSame (a,b,())=some (blockSame a b,()):=by
 unfold impl_BlockSame blockSame
 simp only[impl_QcSame_eq a.2 b.2 h,Option.bind_some]
 cases a.1==b.1<;>simp
def txSame (a b:TTx):Bool:=a.1==b.1 && (a.2.1==b.2.1 && (a.2.2.1==b.2.2.1 && (a.2.2.2==b.2.2.2 && true)))
def msgSame (a b:TMsg):Bool:=
 a.1==b.1 && (a.2.1==b.2.1 && (blockSame a.2.2.1 b.2.2.1 && (qcSame a.2.2.2.1 b.2.2.2.1 && (qcSame a.2.2.2.2.1 b.2.2.2.2.1 && (a.2.2.2.2.2.1==b.2.2.2.2.2.1 && txSame a.2.2.2.2.2.2 b.2.2.2.2.2.2)))))
theorem spec_MsgSame_eq (a b:TMsg) (h:MsgW a):spec_MsgSame (a,b,())=some (msgSame a b,()):=by
 unfold spec_MsgSame msgSame txSame
 simp only[spec_BlockSame_eq a.2.2.1 b.2.2.1 h.1,spec_l14Part_eq a.2.2.2.1 b.2.2.2.1 h.2.1,spec_QcSame_eq a.2.2.2.2.1 b.2.2.2.2.1 h.2.2,Option.bind_some]
 cases a.1==b.1<;>cases a.2.1==b.2.1<;>cases blockSame a.2.2.1 b.2.2.1<;>cases qcSame a.2.2.2.1 b.2.2.2.1<;>cases qcSame a.2.2.2.2.1 b.2.2.2.2.1<;>cases a.2.2.2.2.2.1==b.2.2.2.2.2.1<;>rfl
theorem impl_MsgSame_eq (a b:TMsg) (h:MsgW a):impl_MsgSame (a,b,())=some (msgSame a b,()):=by
 unfold impl_MsgSame msgSame txSame
 simp only[impl_BlockSame_eq a.2.2.1 b.2.2.1 h.1,impl_partSame_eq a.2.2.2.1 b.2.2.2.1 h.2.1,impl_QcSame_eq a.2.2.2.2.1 b.2.2.2.2.1 h.2.2,Option.bind_some]
 cases a.1==b.1<;>cases a.2.1==b.2.1<;>cases blockSame a.2.2.1 b.2.2.1<;>cases qcSame a.2.2.2.1 b.2.2.2.1<;>cases qcSame a.2.2.2.2.1 b.2.2.2.2.1<;>cases a.2.2.2.2.2.1==b.2.2.2.2.2.1<;>rfl
end G448
namespace G448
open Ev
end G448
namespace G448
open Ev
end G448
namespace G448
open Ev
theorem fold_loop {α S St R:Type} (enc:Int→S→St) (l:List α) (f:S→α→S) (k:S→Option R) {G:(St→Option R)→St→Option R} (hl:l.length≤1152921504606846976) (I:Nat→S→Prop)
  (hend : ∀ rec s,I l.length s→G rec (enc (l.length:Int) s)=k s)
  (hstep : ∀ rec (i:Nat) s x,l[i]?=some x→i<l.length→I i s→I (i+1) (f s x)∧G rec (enc (i:Int) s)=rec (enc ((i:Int)+1) (f s x))) {s0:S} (h0:I 0 s0) :
  iter G fuel (enc 0 s0)=k (l.foldl f s0):=by
 have key : ∀ (m i:Nat) (s:S),i≤l.length→l.length - i<m→I i s→iter G m (enc (i:Int) s)=k ((l.drop i).foldl f s):=by
  intro m
  induction m with
  | zero=>intro i s h1 h2 h3; omega
  | succ m ih=>
   intro i s h1 h2 h3
   rcases Nat.lt_or_ge i l.length with h|h
   ·obtain⟨g1,g2⟩:=hstep (iter G m) i s l[i] (List.getElem?_eq_getElem h) h h3
    have e1:iter G (m+1) (enc (i:Int) s)=iter G m (enc ((i:Int)+1) (f s l[i])):=g2
    rw[e1,List.drop_eq_getElem_cons h,List.foldl_cons]
    exact ih (i+1) _ h (by omega) g1
   ·have hi:i=l.length:=by omega
    subst hi
    have e1:iter G (m+1) (enc (l.length:Int) s)=k s:=hend (iter G m) s h3
    rw[e1]; simp
 have:=key fuel 0 s0 (Nat.zero_le _) (by have:=fuel_gt hl; omega) h0
 simpa using this
theorem spec_l7Copy_eq (x:TQc) (hw:wQc x≤137438953472):spec_l7Copy (x,())=some (x,()):=by
 unfold spec_l7Copy
 dsimp only
 have:x.2.2.length≤137438953472:=by simp only[wQc,wIntS] at hw; omega
 rw[if_pos (by omega)]; rfl
theorem spec_l10Copy_eq (x:TPart) (hw:wPart x≤137438953472):spec_l10Copy (x,())=some (x,()):=by
 unfold spec_l10Copy
 dsimp only
 have:x.2.2.length≤137438953472:=by simp only[wPart,wIntS] at hw; omega
 rw[if_pos (by omega)]; rfl
theorem spec_l8Copy_eq (x:TBlock) (hw:wBlock x≤137438953472):spec_l8Copy (x,())=some (x,()):=by
 unfold spec_l8Copy
 simp only[spec_l7Copy_eq x.2 (by simp only[wBlock] at hw; omega),Option.bind_some]
theorem spec_l14Copy_eq (x:TMsg) (hw:wMsg x≤137438953472):spec_l14Copy (x,())=some (x,()):=by
 unfold spec_l14Copy
 simp only[wMsg] at hw
 simp only[spec_l8Copy_eq x.2.2.1 (by omega),spec_l10Copy_eq x.2.2.2.1 (by omega),spec_l7Copy_eq x.2.2.2.2.1 (by omega),Option.bind_some]
end G448
namespace G448
open Ev Go
theorem walkFrom {S X R:Type} (n:Nat) {G:(X→Option R)→X→Option R} (mk:Int→S→X) (I:Nat→S→Prop) (f:Nat→S→Option R) (hn:n≤1152921504606846976)
  (hend : ∀ rec s,I n s→G rec (mk (n:Int) s)=f n s)
  (hstep : ∀ rec (i:Nat) s,i<n→I i s→(G rec (mk (i:Int) s)=f i s) ∨ ∃ s',I (i+1) s'∧G rec (mk (i:Int) s)=rec (mk ((i:Int)+1) s')∧f i s=f (i+1) s') {s0:S} (i0:Nat) (hi0:i0≤n) (h0:I i0 s0) :
  iter G fuel (mk (i0:Int) s0)=f i0 s0:=by
 have key : ∀ (m i:Nat) (s:S),i≤n→n - i<m→I i s→iter G m (mk (i:Int) s)=f i s:=by
  intro m
  induction m with
  | zero=>intro i s h1 h2 h3; omega
  | succ m ih=>
   intro i s h1 h2 h3
   rcases Nat.lt_or_ge i n with h|h
   ·rcases hstep (iter G m) i s h h3 with g|⟨s',g1,g2,g3⟩
    ·exact g
    ·rw[g3]
     have e1:iter G (m+1) (mk (i:Int) s)=iter G m (mk ((i:Int)+1) s'):=g2
     rw[e1]
     exact ih (i+1) s' h (by omega) g1
   ·have hi:i=n:=by omega
    subst hi
    exact hend (iter G m) s h3
 exact key fuel i0 s0 hi0 (by have:=fuel_gt hn; omega) h0
theorem walk {S X R:Type} (n:Nat) {G:(X→Option R)→X→Option R} (mk:Int→S→X) (I:Nat→S→Prop) (f:Nat→S→Option R) (hn:n≤1152921504606846976)
  (hend : ∀ rec s,I n s→G rec (mk (n:Int) s)=f n s)
  (hstep : ∀ rec (i:Nat) s,i<n→I i s→(G rec (mk (i:Int) s)=f i s) ∨ ∃ s',I (i+1) s'∧G rec (mk (i:Int) s)=rec (mk ((i:Int)+1) s')∧f i s=f (i+1) s') {s0:S} (h0:I 0 s0) :
  iter G fuel (mk 0 s0)=f 0 s0:=walkFrom n mk I f hn hend hstep 0 (Nat.zero_le _) h0
def glue (u:List UInt8):List (List UInt8)→List (List UInt8)
 | p::r=>(u++p)::r
 | []=>[u]
def pieces (c:UInt8):List UInt8→List (List UInt8)
 | []=>[[]]
 | x::l=>if x=c then []::pieces c l else glue [x] (pieces c l)
theorem pieces_ne (c:UInt8) : ∀ s,pieces c s≠[]
 | []=>by simp[pieces]
 | x::l=>by
  simp only[pieces]
  split
  ·simp
  ·cases pieces c l<;>simp[glue]
theorem glue_glue (u v:List UInt8) {l:List (List UInt8)} (h:l≠[]):glue u (glue v l)=glue (u++v) l:=by
 cases l with
 | nil=>exact absurd rfl h
 | cons p r=>simp[glue]
theorem glue_nil {l:List (List UInt8)} (h:l≠[]):glue [] l=l:=by
 cases l with
 | nil=>exact absurd rfl h
 | cons p r=>simp[glue]
theorem pieces_none (c:UInt8) : ∀ s,c∉s→pieces c s=[s]
 | [],_=>rfl
 | x::l,h=>by
  simp only[List.mem_cons,not_or] at h
  simp only[pieces,if_neg (Ne.symm h.1),pieces_none c l h.2,glue,List.singleton_append]
theorem pieces_hit (c:UInt8) (post:List UInt8) : ∀ pre,c∉pre→pieces c (pre++c::post)=pre::pieces c post
 | [],_=>by simp[pieces]
 | x::l,h=>by
  simp only[List.mem_cons,not_or] at h
  simp only[List.cons_append,pieces,if_neg (Ne.symm h.1),pieces_hit c post l h.2,glue,List.nil_append]
theorem pieces_len (c:UInt8) : ∀ s,(pieces c s).length≤s.length+1
 | []=>by simp[pieces]
 | x::l=>by
  have:=pieces_len c l
  simp only[pieces]
  split
  ·simp; omega
  ·cases hp:pieces c l with
   | nil=>simp[glue]
   | cons p r=>rw[hp] at this; simp[glue] at this ⊢; omega
def cutAt (c:UInt8):List UInt8→Option (List UInt8×List UInt8)
 | []=>none
 | x::l=>if x=c then some ([],l) else (cutAt c l).map fun p=>(x::p.1,p.2)
theorem cutAt_none (c:UInt8) : ∀ s,c∉s→cutAt c s=none
 | [],_=>rfl
 | x::l,h=>by
  simp only[List.mem_cons,not_or] at h
  simp only[cutAt,if_neg (Ne.symm h.1),cutAt_none c l h.2,Option.map_none]
theorem cutAt_hit (c:UInt8) (post:List UInt8) : ∀ pre,c∉pre→cutAt c (pre++c::post)=some (pre,post)
 | [],_=>by simp[cutAt]
 | x::l,h=>by
  simp only[List.mem_cons,not_or] at h
  simp only[List.cons_append,cutAt,if_neg (Ne.symm h.1),cutAt_hit c post l h.2,Option.map_some]
theorem cutAt_len (c:UInt8) : ∀ {s p q},cutAt c s=some (p,q)→p.length+q.length+1=s.length∧s=p++c::q
 | [],p,q,h=>by cases h
 | x::l,p,q,h=>by
  simp only[cutAt] at h
  split at h
  ·next e=>cases h; subst e; simp
  ·obtain⟨⟨p',q'⟩,h1,h2⟩:=Option.map_eq_some_iff.1 h
   cases h2
   obtain⟨g1,g2⟩:=cutAt_len c h1
   exact⟨by simp; omega,by rw[g2]; simp⟩
theorem byte_split (c:UInt8) (s:List UInt8):(c∉s∧Lib.indexByte s c = -1) ∨ ∃ pre post,s=pre++c::post∧c∉pre∧Lib.indexByte s c=(pre.length:Int):=by
 rcases Int.lt_or_le (Lib.indexByte s c) 0 with h|h
 ·have e:Lib.indexByte s c = -1:=by
   have:=Lib.index_ge s [c]
   rw[Lib.index_one] at this
   omega
  left
  refine⟨fun hm => ?_,e⟩
  obtain⟨k,hk⟩:=List.getElem?_of_mem hm
  exact Lib.indexByte_none e k hk
 ·right
  obtain⟨o,ho⟩ : ∃ o:Nat,Lib.indexByte s c=(o:Int):=⟨(Lib.indexByte s c).toNat,by omega⟩
  obtain⟨h1,h2⟩:=Lib.indexByte_some ho
  have hlt:o<s.length:=by
   rcases Nat.lt_or_ge o s.length with h'|h'
   ·exact h'
   ·rw[List.getElem?_eq_none h'] at h1; cases h1
  refine⟨s.take o,s.drop (o+1),?_,?_,by rw[ho]; simp; omega⟩
  ·have e:s[o]=c:=by rw[List.getElem?_eq_getElem hlt] at h1; exact Option.some.inj h1
   rw[←e,←List.drop_eq_getElem_cons hlt,List.take_append_drop]
  ·intro hm
   obtain⟨k,hk⟩:=List.getElem?_of_mem hm
   rw[List.getElem?_take] at hk
   split at hk
   ·exact h2 k (by assumption) hk
   ·cases hk
theorem splitK_pieces (c:UInt8) : ∀ (k:Nat) (s:List UInt8),s.count c≤k→Lib.splitK [c] 0 k s=pieces c s
 | 0,s,h=>by
  have:c∉s:=fun hm=>by have:=List.count_pos_iff.2 hm; omega
  rw[pieces_none c s this]; rfl
 | k+1,s,h=>by
  unfold Lib.splitK
  rw[Lib.index_one]
  rcases byte_split c s with⟨h1,h2⟩|⟨pre,post,rfl,h1,h2⟩
  ·rw[h2,pieces_none c s h1]; rfl
  ·rw[h2,pieces_hit c post pre h1]
   have e:((pre.length:Int) == -1)=false:=by simp
   rw[e]
   have hd:(pre++c::post).drop ((pre.length:Int).toNat+[c].length)=post:=by
    rw[Int.toNat_natCast,List.length_singleton,←List.drop_drop]; simp
   have ht:(pre++c::post).take ((pre.length:Int).toNat+0)=pre:=by simp
   simp only[Bool.false_eq_true,if_false]
   rw[hd,ht,splitK_pieces c k post (by simp[List.count_append,List.count_cons] at h; omega)]
theorem lib_split_eq (c:UInt8) (s:List UInt8):Lib.split s [c]=pieces c s:=by
 unfold Lib.split
 refine splitK_pieces c _ s ?_
 rw[Lib.count_one]
 exact Nat.le_refl _
theorem lib_cut_eq (c:UInt8) (s:List UInt8):Lib.cut s [c]=match cutAt c s with|some p=>(p.1,p.2,true)|none=>(s,[],false):=by
 unfold Lib.cut
 rw[Lib.index_one]
 rcases byte_split c s with⟨h1,h2⟩|⟨pre,post,rfl,h1,h2⟩
 ·rw[h2,cutAt_none c s h1,if_neg (by decide)]
 ·rw[h2,cutAt_hit c post pre h1,if_pos (by omega)]
  have hd:(pre++c::post).drop ((pre.length:Int).toNat+[c].length)=post:=by
   rw[Int.toNat_natCast,List.length_singleton,←List.drop_drop]; simp
  have ht:(pre++c::post).take ((pre.length:Int).toNat)=pre:=by simp
  rw[hd,ht]
theorem getD_get {s:List UInt8} {i:Nat} {x:UInt8} (h:s[i]?=some x):s.getD i 0=x:=by rw[List.getD_eq_getElem?_getD,h]; rfl
theorem slice_grow {s:List UInt8} {start i:Nat} (h:start≤i) (hi:i<s.length):(s.drop start).take (i+1 - start)=(s.drop start).take (i - start)++[s[i]]:=by
 rw[show i+1 - start=(i - start)+1 by omega,List.take_add_one]
 congr 1
 rw[List.getElem?_drop,show start+(i - start)=i by omega,List.getElem?_eq_getElem hi]; rfl
theorem spec_Split_eq (s:List UInt8) (c:UInt8) (hs:s.length≤137438953472):spec_Split (s,c,())=some (pieces c s,()):=by
 unfold spec_Split
 dsimp only
 refine (walk (s.length+1) (fun i (t:List (List UInt8)×Nat)=>(t.1,(t.2:Int),i,())) (fun i t=>t.2≤i∧t.1.length≤i)
  (fun i t=>some (if i≤s.length then t.1++glue ((s.drop t.2).take (i - t.2)) (pieces c (s.drop i)) else t.1,())) (by omega) ?_ ?_ (s0:=([],0)) ⟨Nat.le_refl _,Nat.zero_le _⟩).trans ?_
 ·intro rec t ht
  have : ¬ (((s.length+1:Nat):Int)≤(s.length:Int)):=by omega
  simp only[this,decide_false,cond_false]
  rw[if_neg (by omega)]
 ·intro rec i t hi ht
  right
  obtain⟨h1,h2⟩:=ht
  have g:((i:Int)≤(s.length:Int)):=by omega
  by_cases he:i=s.length
  ·subst he
   refine⟨(t.1++[(s.drop t.2).take (s.length - t.2)],s.length+1),⟨Nat.le_refl _,by simp; omega⟩,?_,?_⟩
   ·simp only[g,decide_true,cond_true,beq_self_eq_true,Int.toNat_natCast,wr_nat (show s.length<4611686018427387904 by omega),List.length_cons,List.length_nil]
    rw[if_pos (by first|omega|(simp only[true_and,and_true]; omega)),if_pos (by first|omega|(simp only[true_and,and_true]; omega))]
    rfl
   ·rw[if_pos (Nat.le_refl _),if_neg (by omega)]; simp[pieces,glue]
  ·have hlt:i<s.length:=by omega
   have hx:s[i]?=some s[i]:=List.getElem?_eq_getElem hlt
   have e1:((i:Int)==(s.length:Int))=false:=by simp; omega
   have g2:(0:Int)≤(i:Int)∧(i:Int)<(s.length:Int):=by omega
   simp only[g,decide_true,cond_true,e1,cond_false,g2,and_self,if_true,Int.toNat_natCast,getD_get hx,wr_nat (show i<4611686018427387904 by omega),List.length_cons,List.length_nil]
   by_cases hc:s[i]=c
   ·refine⟨(t.1++[(s.drop t.2).take (i - t.2)],i+1),⟨Nat.le_refl _,by simp; omega⟩,?_,?_⟩
    ·have:(s[i]==c)=true:=by simp[hc]
     simp only[this,cond_true]
     rw[if_pos (by first|omega|(simp only[true_and,and_true]; omega)),if_pos (by first|omega|(simp only[true_and,and_true]; omega))]
     rfl
    ·rw[if_pos (by omega),if_pos (by omega),List.drop_eq_getElem_cons hlt,pieces,if_pos hc]
     simp only[Nat.sub_self,List.take_zero,glue_nil (pieces_ne _ _)]
     simp[glue]
   ·refine⟨t,⟨by omega,by omega⟩,?_,?_⟩
    ·have:(s[i]==c)=false:=by simp[hc]
     simp only[this,cond_false]
    ·rw[if_pos (by omega),if_pos (by omega),slice_grow h1 hlt,List.drop_eq_getElem_cons hlt,pieces,if_neg hc,glue_glue _ _ (pieces_ne _ _)]
 ·simp[glue_nil (pieces_ne _ _)]
theorem impl_Split_eq (s:List UInt8) (c:UInt8) (hs:s.length≤1073741824):impl_Split (s,c,())=some (pieces c s,()):=by
 unfold impl_Split strings_Split
 dsimp only
 rw[if_pos ⟨by omega,by simp⟩,lib_split_eq]; rfl
theorem spec_l2Cut_eq (s:List UInt8) (c:UInt8) (hs:s.length≤137438953472) :
  spec_l2Cut (s,c,())=match cutAt c s with|some p=>some (p.1,p.2,true,())|none=>some ([],[],false,()):=by
 unfold spec_l2Cut
 dsimp only
 refine (walk s.length (fun i (_:Unit)=>(i,())) (fun _ _=>True) (fun i _=>match cutAt c (s.drop i) with|some p=>some (s.take i++p.1,p.2,true,())|none=>some ([],[],false,())) (by omega) ?_ ?_ (s0:=()) trivial).trans ?_
 ·intro rec t ht
  simp[cutAt]
 ·intro rec i t hi ht
  have hx:s[i]?=some s[i]:=List.getElem?_eq_getElem hi
  simp only[ge_ok hi,decide_true,cond_true,and_self,if_true,Int.toNat_natCast,getD_get hx,wr_nat (show i<4611686018427387904 by omega)]
  rw[List.drop_eq_getElem_cons hi]
  by_cases hc:s[i]=c
  ·left
   have:(s[i]==c)=true:=by simp[hc]
   simp only[this,cond_true]
   rw[if_pos (by first|omega|(simp only[true_and,and_true]; omega)),if_pos (by first|omega|(simp only[true_and,and_true]; omega))]
   simp only[cutAt,if_pos hc]
   congr 2
   ·simp
   ·congr 1
    have:(((i:Int)+1).toNat)=i+1:=by omega
    rw[this,List.take_of_length_le (by simp)]
  ·right
   have:(s[i]==c)=false:=by simp[hc]
   refine⟨(),trivial,by simp only[this,cond_false],?_⟩
   simp only[cutAt,if_neg hc]
   rw[List.take_add_one,hx]
   cases cutAt c (s.drop (i+1)) with
   | none=>rfl
   | some p=>simp only[Option.map_some,Option.toList_some,List.append_assoc,List.singleton_append]
 ·simp
end G448
namespace G448
open Ev Go
theorem spec_in_eq (x lo hi:Int):spec_l1In (x,lo,hi,())=some (decide (x≥lo) && decide (x≤hi),()):=by
 unfold spec_l1In
 by_cases h:x≥lo<;>simp[h]
theorem impl_in_eq (x lo hi:Int):impl_within (x,lo,hi,())=some (decide (x≥lo) && decide (x≤hi),()):=by
 unfold impl_within
 by_cases h:x≥lo<;>simp[h]
theorem toB_digit (u:Nat):toB (48+((u % 10:Nat):Int))=UInt8.ofNat (48+u % 10):=by
 rw[toB_def]
 congr 1
 omega
theorem spec_Digits_nat (u:Nat) (h:u≤9223372036854775807):spec_Digits ((u:Int),())=some (Lib.decDigits u,()):=by
 unfold spec_Digits
 dsimp only
 by_cases h0:u=0
 ·subst h0
  have:Lib.decDigits 0=[48]:=by rw[Lib.decDigits]; rfl
  rw[this]
  rfl
 have e0:((u:Int)==0)=false:=by simp; omega
 have en : ¬ ((u:Int)<0):=by omega
 simp only[e0,cond_false,en,decide_false]
 refine (iter_eq (fun x:Int×List UInt8×Unit=>some ((if x.1=0 then [] else Lib.decDigits x.1.toNat)++x.2.1,())) (fun x=>x.1.toNat)
  (fun x=>0≤x.1∧x.1≤9223372036854775807 ∧ ∃ k,x.1.toNat<10 ^ k∧k+x.2.1.length≤20) ?_ fuel ((u:Int),[],()) ⟨by simp,by simp only; omega,20,by
   simp only[Int.toNat_natCast]
   exact Nat.lt_of_le_of_lt h (by decide),by simp⟩ (by simp only[Int.toNat_natCast,fuel_def]; omega)).trans ?_
 ·rintro rec ⟨v,out,⟨⟩⟩ ⟨h1,hbig,k,h2,h3⟩ hrec
  obtain⟨n,rfl⟩ : ∃ n:Nat,v=(n:Int):=⟨v.toNat,by simp only at h1; omega⟩
  simp only[Int.toNat_natCast] at h2
  by_cases hn:n=0
  ·subst hn
   simp
  have e1:((n:Int) != 0)=true:=by simp; omega
  have e2:Int.tmod (n:Int) 10=((n % 10:Nat):Int):=by simp[Int.tmod]
  have e3:Int.tdiv (n:Int) 10=((n / 10:Nat):Int):=by simp[Int.tdiv]
  have e4 : ¬ (((n % 10:Nat):Int)<0):=by omega
  simp only at hbig h3
  have hk:1≤k:=by
   rcases Nat.eq_zero_or_pos k with h'|h'
   ·subst h'; simp at h2; omega
   ·exact h'
  simp only[e1,cond_true,e2,e3,e4,decide_false,cond_false]
  rw[wr_id' (show (-9223372036854775808:Int)≤48+((n % 10:Nat):Int) by omega) (show 48+((n % 10:Nat):Int)≤9223372036854775807 by omega),toB_digit,
   wr_id' (show (-9223372036854775808:Int)≤((n / 10:Nat):Int) by omega) (show ((n / 10:Nat):Int)≤9223372036854775807 by omega)]
  rw[if_pos (by simp only[List.length_cons,List.length_nil]; omega)]
  rw[hrec (((n / 10:Nat):Int),[UInt8.ofNat (48+n % 10)]++out,()) ⟨by simp only; omega,by simp only; omega,k - 1,by
   simp only[Int.toNat_natCast]
   have:10 ^ k=10 ^ (k - 1)*10:=by rw[←Nat.pow_succ]; congr 1; omega
   omega,by simp only[List.length_append,List.length_cons,List.length_nil]; omega⟩ (by simp only[Int.toNat_natCast]; omega)]
  simp only[Int.toNat_natCast]
  rw[if_neg (show ¬ ((n:Int)=0) by omega)]
  by_cases h10:n<10
  ·have:n / 10=0:=by omega
   rw[this,if_pos (by rfl),Lib.decDigits,dif_pos h10]
   have:n % 10=n:=by omega
   rw[this]; rfl
  ·rw[if_neg (by omega)]
   conv=>rhs; rw[Lib.decDigits,dif_neg h10]
   simp
 ·simp only[Int.toNat_natCast]
  rw[if_neg (by omega)]; simp
theorem impl_Digits_eq (n:Int):impl_Digits (n,())=some (Lib.itoa n,()):=rfl
theorem impl_Digits_nat (u:Nat):impl_Digits ((u:Int),())=some (Lib.decDigits u,()):=by
 rw[impl_Digits_eq,Lib.itoa,if_neg (by omega)]; simp
def isD (b:UInt8):Bool := !(decide (b<UInt8.ofNat 48)) && !(decide (b>UInt8.ofNat 57))
def numV (l:List UInt8) (v:Nat):Nat:=l.foldl (fun v b=>10*v+(b.toNat - 48)) v
def number (s:List UInt8):Int×Bool:=
 if 1≤s.length∧s.length≤6∧s.all isD=true∧Lib.decDigits (numV s 0)=s then ((numV s 0:Nat),true) else (0,false)
theorem isD_iff (b:UInt8):isD b=true↔48≤b.toNat∧b.toNat≤57:=by
 unfold isD
 simp only[Bool.and_eq_true,Bool.not_eq_true',decide_eq_false_iff_not,UInt8.lt_iff_toNat_lt,gt_iff_lt]
 simp
theorem pow_room {i:Nat} (h:i≤6):10 ^ i≤1000000:=Nat.pow_le_pow_right (n:=10) (by decide) h
theorem number_walk {dig:Int×Unit→Option (List UInt8×Unit)} (hd : ∀ u:Nat,u≤9223372036854775807→dig ((u:Int),())=some (Lib.decDigits u,())) (s:List UInt8) (h6:s.length≤6) {G:(Int×Int×Unit→Option (Int×Bool×Unit))→Int×Int×Unit→Option (Int×Bool×Unit)}
  (hend : ∀ rec (v:Int),G rec (v,(s.length:Int),())=(dig (v,())).bind fun r1=>bif r1.1 != s then some (0,false,()) else some (v,true,()))
  (hstep : ∀ rec (i v:Nat) (b:UInt8),s[i]?=some b→i<s.length→v<10 ^ i→G rec ((v:Int),(i:Int),())=if isD b=true then rec (((10*v+(b.toNat - 48):Nat):Int),(i:Int)+1,()) else some (0,false,())) :
  iter G fuel (0,0,())=some (if s.all isD=true∧Lib.decDigits (numV s 0)=s then (((numV s 0:Nat):Int),true,()) else (0,false,())):=by
 refine (walk s.length (fun i (v:Nat)=>((v:Int),i,())) (fun i v=>v<10 ^ i)
  (fun i v=>some (if (s.drop i).all isD=true∧Lib.decDigits (numV (s.drop i) v)=s then (((numV (s.drop i) v:Nat):Int),true,()) else (0,false,()))) (by omega) ?_ ?_ (s0:=0) (by decide)).trans (by simp)
 ·intro rec v hv
  have:=pow_room h6
  rw[hend,hd v (by omega)]
  simp only[Option.bind_some,List.drop_length,List.all_nil,numV,List.foldl_nil,true_and]
  by_cases e:Lib.decDigits v=s
  ·have:(Lib.decDigits v != s)=false:=by simp[e]
   rw[if_pos e,this]; rfl
  ·have:(Lib.decDigits v != s)=true:=by simp[e]
   rw[if_neg e,this]; rfl
 ·intro rec i v hi hv
  have hx:s[i]?=some s[i]:=List.getElem?_eq_getElem hi
  rw[hstep rec i v s[i] hx hi hv,List.drop_eq_getElem_cons hi]
  by_cases hb:isD s[i]=true
  ·right
   refine⟨10*v+(s[i].toNat - 48),?_,by rw[if_pos hb],?_⟩
   ·have:=(isD_iff _).1 hb
    rw[Nat.pow_succ]; omega
   ·have e:numV (s[i]::List.drop (i+1) s) v=numV (List.drop (i+1) s) (10*v+(s[i].toNat - 48)):=rfl
    rw[List.all_cons,hb,Bool.true_and,e]
  ·left
   rw[if_neg hb,if_neg (fun h=>hb (by have:=h.1; rw[List.all_cons,Bool.and_eq_true] at this; exact this.1))]
theorem cond_isD {α:Type} (b:UInt8) (x y:α):(bif decide (b<UInt8.ofNat (Int.toNat 48)) then y else bif decide (b>UInt8.ofNat (Int.toNat 57)) then y else x)=if isD b=true then x else y:=by
 unfold isD
 simp only[show Int.toNat 48=48 from rfl,show Int.toNat 57=57 from rfl]
 cases decide (b<UInt8.ofNat 48)<;>cases decide (b>UInt8.ofNat 57)<;>simp
theorem number_short (s:List UInt8) (h : ¬ (1≤s.length∧s.length≤6)):number s=(0,false):=by
 unfold number
 rw[if_neg (fun hh=>h ⟨hh.1,hh.2.1⟩)]
theorem number_fit (s:List UInt8) (h:1≤s.length∧s.length≤6) :
  (some (if s.all isD=true∧Lib.decDigits (numV s 0)=s then (((numV s 0:Nat):Int),true,()) else (0,false,())):Option (Int×Bool×Unit))=some ((number s).1,(number s).2,()):=by
 unfold number
 by_cases hc:s.all isD=true∧Lib.decDigits (numV s 0)=s
 ·rw[if_pos hc,if_pos ⟨h.1,h.2,hc⟩]
 ·rw[if_neg hc,if_neg (fun hh=>hc hh.2.2)]
theorem spec_Number_eq (s:List UInt8):spec_Number (s,())=some ((number s).1,(number s).2,()):=by
 unfold spec_Number
 dsimp only
 by_cases h1:(s.length:Int)<1
 ·rw[number_short s (by omega)]; simp only[h1,decide_true,cond_true]
 by_cases h6:(s.length:Int)>6
 ·rw[number_short s (by omega)]; simp only[h1,decide_false,cond_false,h6,decide_true,cond_true]
 simp only[h1,decide_false,cond_false,h6]
 refine (number_walk (dig:=spec_Digits) spec_Digits_nat s (by omega) ?_ ?_).trans (number_fit s (by omega))
 ·intro rec v; simp
 ·intro rec i v b hx hi hv
  have hp:=pow_room (i:=i) (by omega)
  simp only[ge_ok hi,decide_true,cond_true,and_self,if_true,Int.toNat_natCast,getD_get hx,wr_nat (show i<4611686018427387904 by omega)]
  rw[cond_isD]
  by_cases hb:isD b=true
  ·have:=(isD_iff _).1 hb
   rw[if_pos hb,if_pos hb,wr_id' (n:=10*(v:Int)) (by omega) (by omega),wr_id' (n:=10*(v:Int)+_) (by omega) (by omega),wr_id' (by omega) (by omega)]
   congr 2
   omega
  ·rw[if_neg hb,if_neg hb]
theorem impl_Number_eq (s:List UInt8):impl_Number (s,())=some ((number s).1,(number s).2,()):=by
 unfold impl_Number
 dsimp only
 by_cases h1:(s.length:Int)<1
 ·rw[number_short s (by omega)]; simp only[h1,decide_true,cond_true]
 by_cases h6:(s.length:Int)>6
 ·rw[number_short s (by omega)]; simp only[h1,decide_false,cond_false,h6,decide_true,cond_true]
 simp only[h1,decide_false,cond_false,h6]
 refine (number_walk (dig:=impl_Digits) (fun u _=>impl_Digits_nat u) s (by omega) ?_ ?_).trans (number_fit s (by omega))
 ·intro rec v; simp
 ·intro rec i v b hx hi hv
  have hp:=pow_room (i:=i) (by omega)
  simp only[ge_ok hi,decide_true,cond_true,and_self,if_true,Int.toNat_natCast,getD_get hx,wr_nat (show i<4611686018427387904 by omega)]
  rw[cond_isD]
  by_cases hb:isD b=true
  ·have:=(isD_iff _).1 hb
   have hsub:(b - UInt8.ofNat (Int.toNat 48)).toNat=b.toNat - 48:=by
    rw[UInt8.toNat_sub_of_le]
    ·rfl
    ·rw[UInt8.le_iff_toNat_le]; exact this.1
   rw[if_pos hb,if_pos hb,hsub,wr_id' (n:=10*(v:Int)) (by omega) (by omega),wr_id' (by omega) (by omega)]
   congr 2
  ·rw[if_neg hb,if_neg hb]
theorem numV_snoc (l:List UInt8) (b:UInt8) (v:Nat):numV (l++[b]) v=10*numV l v+(b.toNat - 48):=by simp[numV]
theorem digit_toNat {u:Nat} (h:u<10):(UInt8.ofNat (48+u)).toNat=48+u:=by
 rw[UInt8.toNat_ofNat']; omega
theorem decDigits_all : ∀ u:Nat,(Lib.decDigits u).all isD=true∧numV (Lib.decDigits u) 0=u:=by
 intro u
 induction u using Nat.strongRecOn with
 | _ u ih=>
  by_cases h:u<10
  ·rw[Lib.decDigits,dif_pos h]
   have hd:isD (UInt8.ofNat (48+u))=true:=(isD_iff _).2 (by rw[digit_toNat h]; omega)
   refine⟨by rw[List.all_cons,hd]; rfl,?_⟩
   simp only[numV,List.foldl_cons,List.foldl_nil]
   rw[digit_toNat h]; omega
  ·rw[Lib.decDigits,dif_neg h]
   obtain⟨h1,h2⟩:=ih (u / 10) (by omega)
   have hd:isD (UInt8.ofNat (48+u % 10))=true:=(isD_iff _).2 (by rw[digit_toNat (by omega)]; omega)
   refine⟨by rw[List.all_append,h1,List.all_cons,hd]; rfl,?_⟩
   rw[numV_snoc,h2,digit_toNat (by omega)]; omega
theorem decDigits_len (u:Nat) (h:u<1000000):1≤(Lib.decDigits u).length∧(Lib.decDigits u).length≤6:=by
 rw[Lib.decDigits_length]
 refine⟨Lib.nDigits_pos u,?_⟩
 have key : ∀ k u:Nat,u<10 ^ (k+1)→Lib.nDigits u≤k+1:=by
  intro k
  induction k with
  | zero=>intro u h; rw[Lib.nDigits_small (by simpa using h)]; exact Nat.le_refl _
  | succ k ih=>
   intro u h
   by_cases hu:u<10
   ·rw[Lib.nDigits_small hu]; omega
   ·rw[Lib.nDigits_big hu]
    have:=ih (u / 10) (by rw[Nat.pow_succ] at h; omega)
    omega
 exact key 5 u (by simpa using h)
theorem number_digits (u:Nat) (h:u<1000000):number (Lib.decDigits u)=((u:Int),true):=by
 obtain⟨h1,h2⟩:=decDigits_all u
 obtain⟨h3,h4⟩:=decDigits_len u h
 unfold number
 rw[if_pos ⟨h3,h4,h1,by rw[h2]⟩,h2]
theorem digits_no {u:Nat} {c:UInt8} (hc:isD c=false):c∉Lib.decDigits u:=by
 intro hm
 have:=List.all_eq_true.1 (decDigits_all u).1 c hm
 rw[hc] at this; cases this
end G448
namespace G448
open Ev Go
def txOk (t:TTx):Bool:=(decide (t.1≥0) && decide (t.1≤3)) && ((decide (t.2.1≥0) && decide (t.2.1≤3)) && ((decide (t.2.2.1≥0) && decide (t.2.2.1≤1000)) && (decide (t.2.2.2≥0) && decide (t.2.2.2≤99))))
theorem txOk_iff (t:TTx):txOk t=true↔(0≤t.1∧t.1≤3)∧(0≤t.2.1∧t.2.1≤3)∧(0≤t.2.2.1∧t.2.2.1≤1000)∧(0≤t.2.2.2∧t.2.2.2≤99):=by
 unfold txOk; simp only[Bool.and_eq_true,decide_eq_true_eq,ge_iff_le]
theorem spec_TxOk_eq (t:TTx):spec_TxOk (t,())=some (txOk t,()):=by
 unfold spec_TxOk txOk
 simp only[spec_in_eq,Option.bind_some]
 cases (decide (t.1≥0) && decide (t.1≤3))<;>cases (decide (t.2.1≥0) && decide (t.2.1≤3))<;>cases (decide (t.2.2.1≥0) && decide (t.2.2.1≤1000))<;>rfl
theorem impl_TxOk_eq (t:TTx):impl_TxOk (t,())=some (txOk t,()):=by
 unfold impl_TxOk txOk
 simp only[impl_in_eq,Option.bind_some]
 cases (decide (t.1≥0) && decide (t.1≤3))<;>cases (decide (t.2.1≥0) && decide (t.2.1≤3))<;>cases (decide (t.2.2.1≥0) && decide (t.2.2.1≤1000))<;>rfl
def txText (t:TTx):List UInt8:=
 if txOk t=true then (((((Lib.decDigits t.1.toNat++[62])++Lib.decDigits t.2.1.toNat)++[58])++Lib.decDigits t.2.2.1.toNat)++[35])++Lib.decDigits t.2.2.2.toNat else []
theorem dl (u:Nat) (h:u<1000000):(Lib.decDigits u).length≤6:=(decDigits_len u h).2
theorem txText_len (t:TTx):(txText t).length≤27:=by
 unfold txText
 split
 ·next h=>
  have:=(txOk_iff t).1 h
  have h1:=dl t.1.toNat (by omega)
  have h2:=dl t.2.1.toNat (by omega)
  have h3:=dl t.2.2.1.toNat (by omega)
  have h4:=dl t.2.2.2.toNat (by omega)
  simp only[List.length_append,List.length_cons,List.length_nil]
  omega
 ·simp
theorem spec_TxText_eq (t:TTx):spec_TxText (t,())=some (txText t,()):=by
 unfold spec_TxText txText
 simp only[spec_TxOk_eq,Option.bind_some]
 by_cases h:txOk t=true
 ·have hh:=(txOk_iff t).1 h
  have d1:=spec_Digits_nat t.1.toNat (by omega)
  have d2:=spec_Digits_nat t.2.1.toNat (by omega)
  have d3:=spec_Digits_nat t.2.2.1.toNat (by omega)
  have d4:=spec_Digits_nat t.2.2.2.toNat (by omega)
  rw[Int.toNat_of_nonneg (by omega)] at d1 d2 d3 d4
  have h1:=dl t.1.toNat (by omega)
  have h2:=dl t.2.1.toNat (by omega)
  have h3:=dl t.2.2.1.toNat (by omega)
  have h4:=dl t.2.2.2.toNat (by omega)
  simp only[h,Bool.not_true,cond_false,d1,d2,d3,d4,Option.bind_some,List.length_append,List.length_cons,List.length_nil,if_true]
  rw[if_pos (by omega),if_pos (by omega),if_pos (by omega),if_pos (by omega),if_pos (by omega),if_pos (by omega)]
 ·have:txOk t=false:=by simpa using h
  simp[this]
theorem impl_TxText_eq (t:TTx):impl_TxText (t,())=some (txText t,()):=by
 unfold impl_TxText txText
 simp only[impl_TxOk_eq,Option.bind_some]
 by_cases h:txOk t=true
 ·have hh:=(txOk_iff t).1 h
  have d1:=impl_Digits_nat t.1.toNat
  have d2:=impl_Digits_nat t.2.1.toNat
  have d3:=impl_Digits_nat t.2.2.1.toNat
  have d4:=impl_Digits_nat t.2.2.2.toNat
  rw[Int.toNat_of_nonneg (by omega)] at d1 d2 d3 d4
  have h1:=dl t.1.toNat (by omega)
  have h2:=dl t.2.1.toNat (by omega)
  have h3:=dl t.2.2.1.toNat (by omega)
  have h4:=dl t.2.2.2.toNat (by omega)
  simp only[h,Bool.not_true,cond_false,d1,d2,d3,d4,Option.bind_some,List.length_append,List.length_cons,List.length_nil,if_true]
  rw[if_pos (by omega),if_pos (by omega),if_pos (by omega),if_pos (by omega),if_pos (by omega),if_pos (by omega)]
 ·have:txOk t=false:=by simpa using h
  simp[this]
def cutD (c:UInt8) (s d:List UInt8):List UInt8×List UInt8:=match cutAt c s with|some p=>p|none=>(d,[])
def specF (s:List UInt8):TTx:=
 let p:=cutD 62 s []
 let q:=cutD 58 p.2 []
 let r:=cutD 35 q.2 []
 ((number p.1).1,(number q.1).1,(number r.1).1,(number r.2).1)
def implF (s:List UInt8):TTx:=
 let p:=cutD 62 s s
 let q:=cutD 58 p.2 p.2
 let r:=cutD 35 q.2 q.2
 ((number p.1).1,(number q.1).1,(number r.1).1,(number r.2).1)
theorem txText_parts {t:TTx} (h:txOk t=true) (d1 d2 d3:List UInt8→List UInt8) :
  let p:=cutD 62 (txText t) (d1 (txText t))
  let q:=cutD 58 p.2 (d2 p.2)
  let r:=cutD 35 q.2 (d3 q.2)
  ((number p.1).1,(number q.1).1,(number r.1).1,(number r.2).1)=t:=by
 have hh:=(txOk_iff t).1 h
 have e1:cutAt 62 (txText t)=some (Lib.decDigits t.1.toNat,Lib.decDigits t.2.1.toNat++58::(Lib.decDigits t.2.2.1.toNat++35::Lib.decDigits t.2.2.2.toNat)):=by
  unfold txText
  rw[if_pos h]
  have:=cutAt_hit 62 (Lib.decDigits t.2.1.toNat++58::(Lib.decDigits t.2.2.1.toNat++35::Lib.decDigits t.2.2.2.toNat)) (Lib.decDigits t.1.toNat) (digits_no (by decide))
  rw[←this]
  congr 1
  simp
 have e2:=cutAt_hit 58 (Lib.decDigits t.2.2.1.toNat++35::Lib.decDigits t.2.2.2.toNat) (Lib.decDigits t.2.1.toNat) (digits_no (by decide))
 have e3:=cutAt_hit 35 (Lib.decDigits t.2.2.2.toNat) (Lib.decDigits t.2.2.1.toNat) (digits_no (by decide))
 simp only[cutD,e1,e2,e3,number_digits _ (show t.1.toNat<1000000 by omega),number_digits _ (show t.2.1.toNat<1000000 by omega),number_digits _ (show t.2.2.1.toNat<1000000 by omega),number_digits _ (show t.2.2.2.toNat<1000000 by omega)]
 obtain⟨a,b,c,d⟩:=t
 simp only at hh
 simp only[Prod.mk.injEq]
 omega
def txOf (s:List UInt8):TTx×Bool:=if txOk (specF s)=true∧txText (specF s)=s then (specF s,true) else ((0,0,0,0),false)
theorem txOf_impl (s:List UInt8):txOf s=if txOk (implF s)=true∧txText (implF s)=s then (implF s,true) else ((0,0,0,0),false):=by
 unfold txOf
 by_cases h1:txOk (specF s)=true∧txText (specF s)=s
 ·have e:implF s=specF s:=by
   have:=txText_parts h1.1 (fun x=>x) (fun x=>x) (fun x=>x)
   rw[h1.2] at this
   exact this
  rw[if_pos h1,e,if_pos h1]
 ·rw[if_neg h1,if_neg]
  intro h2
  have e:specF s=implF s:=by
   have:=txText_parts h2.1 (fun x=>[]) (fun x=>[]) (fun x=>[])
   rw[h2.2] at this
   exact this
  exact h1 (by rw[e]; exact h2)
theorem l2CutD (s:List UInt8) (c:UInt8) (hs:s.length≤137438953472):spec_l2Cut (s,c,())=some ((cutD c s []).1,(cutD c s []).2,(cutAt c s).isSome,()):=by
 rw[spec_l2Cut_eq s c hs]
 unfold cutD
 cases cutAt c s<;>rfl
theorem cutD_len (c:UInt8) (s d:List UInt8) (hd:d.length≤s.length):(cutD c s d).1.length≤s.length∧(cutD c s d).2.length≤s.length:=by
 unfold cutD
 cases h:cutAt c s with
 | none=>exact⟨hd,by simp⟩
 | some p=>
  have:=(cutAt_len c (p:=p.1) (q:=p.2) h).1
  simp only
  omega
theorem txText_no {t:TTx} (h : ¬ txOk t=true):txText t=[]:=by unfold txText; rw[if_neg h]
theorem txText_ne {t:TTx} (h:txOk t=true):txText t≠[]:=by unfold txText; rw[if_pos h]; simp
theorem spec_TxOf_eq (s:List UInt8) (hs:s.length≤137438953472):spec_TxOf (s,())=some ((txOf s).1,(txOf s).2,()):=by
 have l1:=cutD_len 62 s [] (by simp)
 have l2:=cutD_len 58 (cutD 62 s []).2 [] (by simp)
 have l3:=cutD_len 35 (cutD 58 (cutD 62 s []).2 []).2 [] (by simp)
 unfold spec_TxOf
 simp only[show UInt8.ofNat (Int.toNat 62)=62 from rfl,show UInt8.ofNat (Int.toNat 58)=58 from rfl,show UInt8.ofNat (Int.toNat 35)=35 from rfl,
  l2CutD s 62 hs,l2CutD (cutD 62 s []).2 58 (by omega),l2CutD (cutD 58 (cutD 62 s []).2 []).2 35 (by omega),spec_Number_eq,spec_TxText_eq,Option.bind_some]
 by_cases h0:s=[]
 ·subst h0
  have : ¬ (txOk (specF [])=true∧txText (specF [])=[]):=fun h=>txText_ne h.1 h.2
  unfold txOf
  rw[if_neg this]
  simp
 ·have e0:(s==[])=false:=by simp[h0]
  simp only[e0,cond_false]
  unfold txOf
  have ef:((number (cutD 62 s []).1).1,(number (cutD 58 (cutD 62 s []).2 []).1).1,(number (cutD 35 (cutD 58 (cutD 62 s []).2 []).2 []).1).1,(number (cutD 35 (cutD 58 (cutD 62 s []).2 []).2 []).2).1)=specF s:=rfl
  rw[ef]
  by_cases h:txText (specF s)=s
  ·have hok:txOk (specF s)=true:=by
    by_cases hk:txOk (specF s)=true
    ·exact hk
    ·rw[txText_no hk] at h; exact absurd h.symm h0
   have e1:(txText (specF s) != s)=false:=by simp[h]
   rw[if_pos ⟨hok,h⟩,e1]; rfl
  ·have e1:(txText (specF s) != s)=true:=by simp[h]
   rw[if_neg (fun hh=>h hh.2),e1]; rfl
theorem strings_Cut_eq (s:List UInt8) (c:UInt8) (hs:s.length≤1073741824):strings_Cut (s,[c],())=some ((cutD c s s).1,(cutD c s s).2,(cutAt c s).isSome,()):=by
 unfold strings_Cut
 dsimp only
 rw[if_pos (by omega),lib_cut_eq]
 unfold cutD
 cases cutAt c s<;>rfl
theorem impl_TxOf_eq (s:List UInt8) (hs:s.length≤1073741824):impl_TxOf (s,())=some ((txOf s).1,(txOf s).2,()):=by
 have l1:=cutD_len 62 s s (Nat.le_refl _)
 have l2:=cutD_len 58 (cutD 62 s s).2 (cutD 62 s s).2 (Nat.le_refl _)
 rw[txOf_impl]
 unfold impl_TxOf
 simp only[strings_Cut_eq s 62 hs,strings_Cut_eq (cutD 62 s s).2 58 (by omega),strings_Cut_eq (cutD 58 (cutD 62 s s).2 (cutD 62 s s).2).2 35 (by omega),Option.bind_some]
 generalize hp:cutD 62 s s=p
 generalize hq:cutD 58 p.2 p.2=q
 generalize hr:cutD 35 q.2 q.2=r
 have ef:implF s=((number p.1).1,(number q.1).1,(number r.1).1,(number r.2).1):=by
  unfold implF; simp only[hp,hq,hr]
 refine (fill_loop [p.1,q.1,r.1,r.2] (fun x=>(number x).1) (fun out=>(impl_TxOk ((rd .i64 out 0,rd .i64 out 1,rd .i64 out 2,rd .i64 out 3),())).bind fun r5=>bif (!r5.1) then some ((0,0,0,0),false,()) else
   (impl_TxText ((rd .i64 out 0,rd .i64 out 1,rd .i64 out 2,rd .i64 out 3),())).bind fun r6=>bif (r6.1 != s) then some ((0,0,0,0),false,()) else some ((rd .i64 out 0,rd .i64 out 1,rd .i64 out 2,rd .i64 out 3),true,())) (by simp) ?_ ?_ _ (by simp)).trans ?_
 ·intro rec out ho
  have ho:out.length=4:=ho
  simp[ho]
 ·intro rec i out y hx hi ho
  have ho:out.length=4:=ho
  have hi':i<4:=hi
  simp only[Int.toNat_natCast,ho,ge_ok hi,decide_true,cond_true,if_true,and_self,rd_get (e:=.str) hx,impl_Number_eq y,Option.bind_some,wr_nat (show i<4611686018427387904 by omega)]
  rw[if_pos ⟨trivial,by omega⟩]
 ·simp only[List.map_cons,List.map_nil,rd,List.getD_cons_zero,List.getD_cons_succ]
  rw[←ef,impl_TxOk_eq,impl_TxText_eq]
  simp only[Option.bind_some]
  by_cases h:txOk (implF s)=true
  ·by_cases h2:txText (implF s)=s
   ·have e1:(txText (implF s) != s)=false:=by simp[h2]
    rw[if_pos ⟨h,h2⟩,e1,h]; rfl
   ·have e1:(txText (implF s) != s)=true:=by simp[h2]
    rw[if_neg (fun hh=>h2 hh.2),e1,h]; rfl
  ·have:txOk (implF s)=false:=by simpa using h
   rw[if_neg (fun hh=>h hh.1),this]; rfl
def txsGo:List (List UInt8)→List TTx→List TTx×Bool
 | [],out=>(out,true)
 | p::ps,out=>if (txOf p).2=true then txsGo ps (out++[(txOf p).1]) else ([],false)
def txsOf (s:List UInt8):List TTx×Bool:=if s=[] then ([],true) else txsGo (pieces 44 s) []
theorem pieces_mem (c:UInt8) : ∀ {s p:List UInt8},p∈pieces c s→p.length≤s.length
 | [],p,h=>by simp[pieces] at h; simp[h]
 | x::l,p,h=>by
  simp only[pieces] at h
  split at h
  ·rcases List.mem_cons.1 h with rfl|h
   ·simp
   ·have:=pieces_mem c h; simp; omega
  ·cases hp:pieces c l with
   | nil=>rw[hp] at h; simp[glue] at h; simp[h]
   | cons q r=>
    rw[hp] at h
    simp only[glue,List.mem_cons] at h
    rcases h with rfl|h
    ·have:=pieces_mem c (s:=l) (p:=q) (by rw[hp]; simp); simp; omega
    ·have:=pieces_mem c (s:=l) (p:=p) (by rw[hp]; simp[h]); simp; omega
theorem txs_loop {tx:List UInt8×Unit→Option (TTx×Bool×Unit)} (ps:List (List UInt8)) (hl:ps.length≤137438953473) (htx : ∀ p∈ps,tx (p,())=some ((txOf p).1,(txOf p).2,()))
  {G:(List TTx×Int×Unit→Option (List TTx×Bool×Unit))→List TTx×Int×Unit→Option (List TTx×Bool×Unit)}
  (hG : ∀ rec out (i:Int),G rec (out,i,())=bif decide (i<(ps.length:Int)) then (if 0≤i∧i<(ps.length:Int) then (tx (rd .str ps i.toNat,())).bind fun r2=>bif !r2.2.1 then some ([],false,()) else
   (if (out.length+[r2.1].length)*32≤70368744177664 then rec (out++[r2.1],wr (i+1),()) else none) else none) else some (out,true,())) :
  iter G fuel ([],0,())=some ((txsGo ps []).1,(txsGo ps []).2,()):=by
 refine (walk ps.length (fun i (out:List TTx)=>(out,i,())) (fun i out=>out.length=i) (fun i out=>some ((txsGo (ps.drop i) out).1,(txsGo (ps.drop i) out).2,())) (by omega) ?_ ?_ (s0:=[]) rfl).trans (by simp)
 ·intro rec out ho
  rw[hG]; simp[txsGo]
 ·intro rec i out hi ho
  have hx:ps[i]?=some ps[i]:=List.getElem?_eq_getElem hi
  rw[hG]
  simp only[ge_ok hi,decide_true,cond_true,and_self,if_true,Int.toNat_natCast,rd_get (e:=.str) hx,htx ps[i] (List.getElem_mem hi),Option.bind_some,wr_nat (show i<4611686018427387904 by omega),List.length_cons,List.length_nil]
  rw[List.drop_eq_getElem_cons hi]
  by_cases h:(txOf ps[i]).2=true
  ·right
   refine⟨out++[(txOf ps[i]).1],by simp[ho],?_,?_⟩
   ·rw[h]; simp only[Bool.not_true,cond_false]; rw[if_pos (by omega)]
   ·simp only[txsGo,h,if_true]
  ·left
   have h':(txOf ps[i]).2=false:=by simpa using h
   simp[txsGo,h']
theorem spec_TxsOf_eq (s:List UInt8) (hs:s.length≤137438953472):spec_TxsOf (s,())=some ((txsOf s).1,(txsOf s).2,()):=by
 unfold spec_TxsOf txsOf
 by_cases h0:s=[]
 ·subst h0; rfl
 ·have e0:(s==[])=false:=by simp[h0]
  rw[if_neg h0]
  simp only[e0,cond_false,show UInt8.ofNat (Int.toNat 44)=44 from rfl,spec_Split_eq s 44 hs,Option.bind_some]
  have hp:=pieces_len 44 s
  refine txs_loop (tx:=spec_TxOf) (pieces 44 s) (by omega) (fun p hm=>spec_TxOf_eq p (by have:=pieces_mem 44 hm; omega)) ?_
  intro rec out i; rfl
theorem impl_TxsOf_eq (s:List UInt8) (hs:s.length≤1073741824):impl_TxsOf (s,())=some ((txsOf s).1,(txsOf s).2,()):=by
 unfold impl_TxsOf txsOf
 by_cases h0:s=[]
 ·subst h0; rfl
 ·have e0:(s==[])=false:=by simp[h0]
  rw[if_neg h0]
  simp only[e0,cond_false,show UInt8.ofNat (Int.toNat 44)=44 from rfl,impl_Split_eq s 44 hs,Option.bind_some]
  have hp:=pieces_len 44 s
  refine txs_loop (tx:=impl_TxOf) (pieces 44 s) (by omega) (fun p hm=>impl_TxOf_eq p (by have:=pieces_mem 44 hm; omega)) ?_
  intro rec out i; rfl
end G448
namespace G448
open Ev Go
abbrev TStep:=Int×List TTx
def stepB (q:List UInt8×List UInt8) (prev:Int):Bool:=
 (number q.1).2 && ((txsOf q.2).2 && (decide (prev<(number q.1).1) && (decide ((number q.1).1≤60) && decide ((txsOf q.2).1.length≤2))))
def stepsGo:List (List UInt8)→Int→List TStep→List TStep×Bool
 | [],_,out=>(out,true)
 | p::ps,prev,out=>match cutAt 124 p with
  | none=>([],false)
  | some q=>if stepB q prev=true then
    stepsGo ps (number q.1).1 (out++[((number q.1).1,(txsOf q.2).1)]) else ([],false)
def steps (s:List UInt8):List TStep×Bool:=
 if s=[] then ([],true) else match pieces 47 s with
  | []=>([],false)
  | p::ps=>if p=[]∧ps.length≤30 then stepsGo ps 0 [] else ([],false)
theorem number_nn (s:List UInt8):0≤(number s).1:=by
 unfold number
 split<;>simp
theorem spec_Steps_eq (s:List UInt8) (hs:s.length≤137438953472):spec_Steps (s,())=some ((steps s).1,(steps s).2,()):=by
 unfold spec_Steps steps
 by_cases h0:s=[]
 ·subst h0; rfl
 have e0:(s==[])=false:=by simp[h0]
 rw[if_neg h0]
 simp only[e0,cond_false,show UInt8.ofNat (Int.toNat 47)=47 from rfl,show UInt8.ofNat (Int.toNat 124)=124 from rfl,spec_Split_eq s 47 hs,Option.bind_some]
 have hpl:=pieces_len 47 s
 have hpm : ∀ p∈pieces 47 s,p.length≤s.length:=fun p hm=>pieces_mem 47 hm
 cases hp:pieces 47 s with
 | nil=>exact absurd hp (pieces_ne _ _)
 | cons p ps=>
  rw[hp] at hpl hpm
  simp only[List.length_cons] at hpl
  rw[if_pos (by simp only[List.length_cons]; omega)]
  simp only[Int.toNat_zero,rd,List.getD_cons_zero]
  by_cases h1:p=[]
  ·subst h1
   simp only[bne_self_eq_false,cond_false]
   by_cases h2:(((([]:List UInt8)::ps).length:Nat):Int)>31
   ·rw[if_neg (by simp only[List.length_cons] at h2; omega)]
    simp only[h2,decide_true,cond_true]
   ·rw[if_pos (show True∧ps.length≤30 from⟨trivial,by simp only[List.length_cons] at h2; omega⟩)]
    simp only[h2,decide_false,cond_false]
    refine (walkFrom (([]:List UInt8)::ps).length (fun i (t:List TStep×Int)=>(t.1,t.2,i,())) (fun i t=>t.1.length≤i∧0≤t.2∧t.2≤60)
     (fun i t=>some ((stepsGo ((([]:List UInt8)::ps).drop i) t.2 t.1).1,(stepsGo ((([]:List UInt8)::ps).drop i) t.2 t.1).2,())) (by simp only[List.length_cons]; omega) ?_ ?_ (s0:=([],0)) 1 (by simp) ⟨by simp,by simp,by simp⟩).trans (by simp)
    ·intro rec t ht; simp[stepsGo]
    ·intro rec i t hi ht
     obtain⟨t1,t2,t3⟩:=ht
     have hx:(([]:List UInt8)::ps)[i]?=some (([]:List UInt8)::ps)[i]:=List.getElem?_eq_getElem hi
     have hlen:=hpm _ (List.getElem_mem hi)
     have hil:i≤s.length+1:=by simp only[List.length_cons] at hi; omega
     rw[List.drop_eq_getElem_cons hi]
     simp only[stepsGo]
     have hc:=cutD_len 124 (([]:List UInt8)::ps)[i] [] (by simp)
     simp only[ge_ok hi,decide_true,cond_true,and_self,if_true,Int.toNat_natCast,rd_get (e:=.str) hx,l2CutD _ 124 (show (([]:List UInt8)::ps)[i].length≤137438953472 by omega),spec_Number_eq,spec_TxsOf_eq _ (show (cutD 124 (([]:List UInt8)::ps)[i] []).2.length≤137438953472 by omega),Option.bind_some,
      wr_nat (show i<4611686018427387904 by omega)]
     generalize hq:cutAt 124 (([]:List UInt8)::ps)[i]=q
     cases q with
     | none=>left; simp
     | some q=>
      simp only[cutD,hq,Option.isSome_some,Bool.not_true,cond_false]
      by_cases c1:(number q.1).2=true
      ·by_cases c2:(txsOf q.2).2=true
       ·by_cases c3:t.2<(number q.1).1
        ·by_cases c4:(number q.1).1≤60
         ·by_cases c5:(txsOf q.2).1.length≤2
          ·right
           refine⟨(t.1++[((number q.1).1,(txsOf q.2).1)],(number q.1).1),⟨by simp; omega,number_nn _,c4⟩,?_,?_⟩
           ·simp only[c1,c2,Bool.not_true,cond_false,show ¬ (number q.1).1≤t.2 by omega,decide_false,show ¬ (number q.1).1>60 by omega,show ¬ ((txsOf q.2).1.length:Int)>2 by omega,List.length_cons,List.length_nil]
            rw[if_pos (by omega)]
           ·rw[if_pos (show stepB q t.2=true by simp[stepB,c1,c2,c3,c4,c5])]
          ·left
           have hB:stepB q t.2=false:=by simp[stepB,c5]
           rw[hB]
           simp[c1,c2,show ¬ (number q.1).1≤t.2 by omega,show ¬ (number q.1).1>60 by omega,show (2:Int)<((txsOf q.2).1.length:Int) by omega]
         ·left
          have hB:stepB q t.2=false:=by simp[stepB,c4]
          rw[hB]
          simp[c1,c2,show ¬ (number q.1).1≤t.2 by omega,show (number q.1).1>60 by omega]
        ·left
         have hB:stepB q t.2=false:=by simp[stepB,c3]
         rw[hB]
         simp[c1,c2,show (number q.1).1≤t.2 by omega]
       ·left
        have hB:stepB q t.2=false:=by simp[stepB,c2]
        rw[hB]
        have:(txsOf q.2).2=false:=by simpa using c2
        simp[c1,this]
      ·left
       have hB:stepB q t.2=false:=by simp[stepB,c1]
       rw[hB]
       have:(number q.1).2=false:=by simpa using c1
       simp[this]
  ·have e1:(p != [])=true:=by simp[h1]
   rw[if_neg (show ¬ (p=[]∧ps.length≤30) from fun h=>h1 h.1),e1]; rfl
theorem impl_Steps_eq (s:List UInt8) (hs:s.length≤1073741824):impl_Steps (s,())=some ((steps s).1,(steps s).2,()):=by
 unfold impl_Steps steps
 by_cases h0:s=[]
 ·subst h0; rfl
 have e0:(s==[])=false:=by simp[h0]
 rw[if_neg h0]
 simp only[e0,cond_false,show UInt8.ofNat (Int.toNat 47)=47 from rfl,impl_Split_eq s 47 hs,Option.bind_some]
 have hpl:=pieces_len 47 s
 have hpm : ∀ p∈pieces 47 s,p.length≤s.length:=fun p hm=>pieces_mem 47 hm
 cases hp:pieces 47 s with
 | nil=>exact absurd hp (pieces_ne _ _)
 | cons p ps=>
  rw[hp] at hpl hpm
  simp only[List.length_cons] at hpl
  rw[if_pos (by simp only[List.length_cons]; omega)]
  simp only[Int.toNat_zero,rd,List.getD_cons_zero]
  have hw:wr (((p::ps).length:Int) - 1)=(ps.length:Int):=by
   rw[wr_id' (by simp only[List.length_cons]; omega) (by simp only[List.length_cons]; omega)]
   simp only[List.length_cons]; omega
  rw[hw]
  have htd:List.take ((((p::ps).length:Nat):Int).toNat - Int.toNat 1) (List.drop (Int.toNat 1) (p::ps))=ps:=by
   simp
  rw[htd]
  by_cases h1:p=[]
  ·subst h1
   simp only[bne_self_eq_false,cond_false]
   by_cases h2:(ps.length:Int)>30
   ·rw[if_neg (show ¬ (True∧ps.length≤30) from fun h=>by have:=h.2; omega)]
    simp only[h2,decide_true,cond_true]
   ·rw[if_pos (show True∧ps.length≤30 from⟨trivial,by omega⟩)]
    simp only[h2,decide_false,cond_false]
    rw[if_pos (by simp only[List.length_cons]; omega)]
    refine (walk ps.length (fun i (t:List TStep×Int)=>(t.1,t.2,i,())) (fun i t=>t.1.length≤i∧0≤t.2∧t.2≤60)
     (fun i t=>some ((stepsGo (ps.drop i) t.2 t.1).1,(stepsGo (ps.drop i) t.2 t.1).2,())) (by omega) ?_ ?_ (s0:=([],0)) ⟨by simp,by simp,by simp⟩).trans (by simp)
    ·intro rec t ht; simp[stepsGo]
    ·intro rec i t hi ht
     obtain⟨t1,t2,t3⟩:=ht
     have hx:ps[i]?=some ps[i]:=List.getElem?_eq_getElem hi
     have hlen:=hpm _ (List.mem_cons_of_mem _ (List.getElem_mem hi))
     rw[List.drop_eq_getElem_cons hi]
     simp only[stepsGo]
     have hc:=cutD_len 124 ps[i] ps[i] (Nat.le_refl _)
     have hx':ps.getD i (dflt .str)=ps[i]:=rd_get (e:=.str) hx
     simp only[ge_ok hi,decide_true,cond_true,and_self,if_true,Int.toNat_natCast,hx',strings_Cut_eq _ 124 (show ps[i].length≤1073741824 by omega),impl_Number_eq,impl_TxsOf_eq _ (show (cutD 124 ps[i] ps[i]).2.length≤1073741824 by omega),Option.bind_some,
      wr_nat (show i<4611686018427387904 by omega),impl_in_eq,wr_id' (show (-9223372036854775808:Int)≤t.2+1 by omega) (show t.2+1≤9223372036854775807 by omega)]
     generalize hq:cutAt 124 ps[i]=q
     cases q with
     | none=>left; simp
     | some q=>
      simp only[cutD,hq,Option.isSome_some,Bool.not_true,cond_false]
      by_cases c1:(number q.1).2=true
      ·by_cases c2:(txsOf q.2).2=true
       ·by_cases c3:t.2<(number q.1).1
        ·by_cases c4:(number q.1).1≤60
         ·by_cases c5:(txsOf q.2).1.length≤2
          ·right
           refine⟨(t.1++[((number q.1).1,(txsOf q.2).1)],(number q.1).1),⟨by simp; omega,number_nn _,c4⟩,?_,?_⟩
           ·simp only[c1,c2,c4,Bool.not_true,cond_false,show (number q.1).1≥t.2+1 by omega,decide_true,Bool.and_self,show ¬ ((txsOf q.2).1.length:Int)>2 by omega,decide_false,List.length_cons,List.length_nil]
            rw[if_pos (by omega)]
           ·rw[if_pos (show stepB q t.2=true by simp[stepB,c1,c2,c3,c4,c5])]
          ·left
           have hB:stepB q t.2=false:=by simp[stepB,c5]
           rw[hB]
           simp[c1,c2,c4,show t.2+1≤(number q.1).1 by omega,show (2:Int)<((txsOf q.2).1.length:Int) by omega]
         ·left
          have hB:stepB q t.2=false:=by simp[stepB,c4]
          rw[hB]
          simp[c1,c2,c4]
        ·left
         have hB:stepB q t.2=false:=by simp[stepB,c3]
         rw[hB]
         simp[c1,c2,show ¬ t.2+1≤(number q.1).1 by omega]
       ·left
        have hB:stepB q t.2=false:=by simp[stepB,c2]
        rw[hB]
        have:(txsOf q.2).2=false:=by simpa using c2
        simp[c1,this]
      ·left
       have hB:stepB q t.2=false:=by simp[stepB,c1]
       rw[hB]
       have:(number q.1).2=false:=by simpa using c1
       simp[this]
  ·have e1:(p != [])=true:=by simp[h1]
   rw[if_neg (show ¬ (p=[]∧ps.length≤30) from fun h=>h1 h.1),e1]; rfl
end G448
namespace G448
open Ev Go
def confOk (c:TConf):Bool:=(decide (c.1≥4) && decide (c.1≤7)) && (decide (c.2≥1) && decide (c.2≤6))
theorem spec_ConfOk_eq (c:TConf):spec_ConfOk (c,())=some (confOk c,()):=by
 unfold spec_ConfOk confOk
 simp only[spec_in_eq,Option.bind_some]
 cases (decide (c.1≥4) && decide (c.1≤7))<;>rfl
theorem impl_ConfOk_eq (c:TConf):impl_ConfOk (c,())=some (confOk c,()):=by
 unfold impl_ConfOk confOk
 simp only[impl_in_eq,Option.bind_some]
 cases (decide (c.1≥4) && decide (c.1≤7))<;>rfl
theorem confOk_b {c:TConf} (h:confOk c=true):4≤c.1∧c.1≤7:=by
 unfold confOk at h
 simp only[Bool.and_eq_true,decide_eq_true_eq] at h
 omega
def nameOk (s:List UInt8):Bool:=(steps s).2
def viewOf (s:List UInt8):Int:=match (steps s).1.getLast? with|some x=>x.1|none=>0
theorem spec_NameOk_eq (s:List UInt8) (hs:s.length≤137438953472):spec_NameOk (s,())=some (nameOk s,()):=by
 unfold spec_NameOk nameOk
 simp only[spec_Steps_eq s hs,Option.bind_some]
theorem impl_NameOk_eq (s:List UInt8) (hs:s.length≤1073741824):impl_NameOk (s,())=some (nameOk s,()):=by
 unfold impl_NameOk nameOk
 simp only[impl_Steps_eq s hs,Option.bind_some]
theorem stepsGo_props : ∀ (ps:List (List UInt8)) (prev:Int) (out:List TStep),((stepsGo ps prev out).2=false→(stepsGo ps prev out).1=[])∧(stepsGo ps prev out).1.length≤out.length+ps.length
 | [],prev,out=>by simp[stepsGo]
 | p::ps,prev,out=>by
  simp only[stepsGo]
  cases cutAt 124 p with
  | none=>simp
  | some q=>
   simp only
   split
   ·obtain⟨h1,h2⟩:=stepsGo_props ps (number q.1).1 (out++[((number q.1).1,(txsOf q.2).1)])
    refine⟨h1,?_⟩
    simp only[List.length_append,List.length_cons,List.length_nil] at h2 ⊢
    omega
   ·simp
theorem steps_props (s:List UInt8):((steps s).2=false→(steps s).1=[])∧(steps s).1.length≤30:=by
 unfold steps
 split
 ·simp
 ·cases pieces 47 s with
  | nil=>simp
  | cons p ps=>
   simp only
   split
   ·next h=>
    obtain⟨h1,h2⟩:=stepsGo_props ps 0 []
    exact⟨h1,by simp only[List.length_nil] at h2; omega⟩
   ·simp
theorem last_get {l:List TStep} (h:l≠[]) : ∃ x,l.getLast?=some x∧l[l.length - 1]?=some x:=by
 have hl:l.length - 1<l.length:=by cases l with|nil=>exact absurd rfl h|cons _ _=>simp
 exact⟨l[l.length - 1],by rw[List.getLast?_eq_getElem?,List.getElem?_eq_getElem hl],List.getElem?_eq_getElem hl⟩
theorem spec_ViewOf_eq (s:List UInt8) (hs:s.length≤137438953472):spec_ViewOf (s,())=some (viewOf s,()):=by
 unfold spec_ViewOf viewOf
 simp only[spec_Steps_eq s hs,Option.bind_some]
 obtain⟨h1,h2⟩:=steps_props s
 by_cases h:(steps s).2=true
 ·rw[h]
  simp only[Bool.not_true,cond_false]
  by_cases h0:(steps s).1=[]
  ·simp[h0]
  ·obtain⟨x,e1,e2⟩:=last_get h0
   have hl:1≤(steps s).1.length:=by cases hh:(steps s).1 with|nil=>exact absurd hh h0|cons _ _=>simp
   have e3:(((steps s).1.length:Int)==0)=false:=by simp; omega
   simp only[e3,cond_false,e1,wr_id' (show (-9223372036854775808:Int)≤((steps s).1.length:Int) - 1 by omega) (show ((steps s).1.length:Int) - 1≤9223372036854775807 by omega)]
   rw[if_pos (by omega),show (((steps s).1.length:Int) - 1).toNat=(steps s).1.length - 1 by omega,rd_get e2]
 ·have h':(steps s).2=false:=by simpa using h
  rw[h',h1 h']; rfl
theorem impl_ViewOf_eq (s:List UInt8) (hs:s.length≤1073741824):impl_ViewOf (s,())=some (viewOf s,()):=by
 unfold impl_ViewOf viewOf
 simp only[impl_Steps_eq s hs,Option.bind_some]
 obtain⟨h1,h2⟩:=steps_props s
 by_cases h0:(steps s).1=[]
 ·simp[h0]
 ·obtain⟨x,e1,e2⟩:=last_get h0
  have hl:1≤(steps s).1.length:=by cases hh:(steps s).1 with|nil=>exact absurd hh h0|cons _ _=>simp
  have e3:(((steps s).1.length:Int)==0)=false:=by simp; omega
  simp only[e3,cond_false,e1,wr_id' (show (-9223372036854775808:Int)≤((steps s).1.length:Int) - 1 by omega) (show ((steps s).1.length:Int) - 1≤9223372036854775807 by omega)]
  rw[if_pos (by omega),show (((steps s).1.length:Int) - 1).toNat=(steps s).1.length - 1 by omega,rd_get e2]
theorem stepsGo_view : ∀ (ps:List (List UInt8)) (prev:Int) (out:List TStep),(out≠[]∨ps≠[])→0≤prev→(∀ x,out.getLast?=some x→1≤x.1∧x.1≤60)→(stepsGo ps prev out).2=true →
  ∃ x,(stepsGo ps prev out).1.getLast?=some x∧1≤x.1∧x.1≤60
 | [],prev,out,h,hp,ho,hok=>by
  have h0:out≠[]:=h.elim id (fun h=>absurd rfl h)
  obtain⟨x,e,_⟩:=last_get h0
  exact⟨x,e,ho x e⟩
 | p::ps,prev,out,h,hp,ho,hok=>by
  simp only[stepsGo] at hok ⊢
  cases hq:cutAt 124 p with
  | none=>rw[hq] at hok; simp at hok
  | some q=>
   rw[hq] at hok
   simp only at hok ⊢
   split at hok
   ·next hB=>
    rw[if_pos hB]
    simp only[stepB,Bool.and_eq_true,decide_eq_true_eq] at hB
    refine stepsGo_view ps (number q.1).1 _ (.inl (by simp)) (number_nn _) ?_ hok
    intro x hx
    simp at hx
    subst hx
    exact⟨by simp only; omega,hB.2.2.2.1⟩
   ·simp at hok
theorem name_view {s:List UInt8} (h:nameOk s=true) (h0:s≠[]):1≤viewOf s∧viewOf s≤60:=by
 unfold nameOk steps at h
 unfold viewOf steps
 rw[if_neg h0] at h ⊢
 cases hp:pieces 47 s with
 | nil=>exact absurd hp (pieces_ne _ _)
 | cons p ps=>
  rw[hp] at h
  simp only at h ⊢
  split at h
  ·next hc=>
   rw[if_pos hc]
   have hne:ps≠[]:=by
    rintro rfl
    obtain⟨rfl,_⟩:=hc
    cases s with
    | nil=>exact h0 rfl
    | cons x l=>
     simp only[pieces] at hp
     split at hp
     ·exact pieces_ne 47 l (by simpa using hp)
     ·cases hl:pieces 47 l with
      | nil=>exact pieces_ne 47 l hl
      | cons a b=>rw[hl] at hp; simp[glue] at hp
   obtain⟨x,e1,e2,e3⟩:=stepsGo_view ps 0 [] (.inr hne) (by decide) (by simp) h
   rw[e1]; exact⟨e2,e3⟩
  ·simp at h
theorem name_nil:nameOk []=true∧viewOf []=0:=by
 constructor<;>simp[nameOk,viewOf,steps]
def setGo (n:Int):Option Int→List Int→Bool
 | _,[]=>true
 | p,x::l => !decide (x<0) && (!decide (x≥n) && ((match p with|some y => !decide (y≥x)|none=>true) && setGo n (some x) l))
def setOk (n:Int) (l:List Int):Bool:=setGo n none l
theorem set_loop (n:Int) (l:List Int) (hl:l.length≤137438953472) {G:(Int×Unit→Option (Bool×Unit))→Int×Unit→Option (Bool×Unit)}
  (hend : ∀ rec,G rec ((l.length:Int),())=some (true,()))
  (h0 : ∀ rec x,l[0]?=some x→G rec (((0:Nat):Int),())=bif decide (x<0) then some (false,()) else bif decide (x≥n) then some (false,()) else rec (((0:Nat):Int)+1,()))
  (hstep : ∀ rec (i:Nat) x y,l[i]?=some x→l[i+1]?=some y→i+1<l.length→G rec (((i+1:Nat):Int),())=bif decide (y<0) then some (false,()) else bif decide (y≥n) then some (false,()) else bif decide (x≥y) then some (false,()) else rec (((i+1:Nat):Int)+1,())) :
  iter G fuel (0,())=some (setOk n l,()):=by
 let pv:Nat→Option Int:=fun i=>match i with|0=>none|i+1=>l[i]?
 refine (walk l.length (fun i (_:Unit)=>(i,())) (fun _ _=>True) (fun i _=>some (setGo n (pv i) (l.drop i),())) (by omega) ?_ ?_ (s0:=()) trivial).trans (by simp[setOk,pv])
 ·intro rec _ _
  rw[hend]; simp[setGo]
 ·intro rec i _ hi _
  have hx:l[i]?=some l[i]:=List.getElem?_eq_getElem hi
  have hpv:pv (i+1)=some l[i]:=hx
  rw[List.drop_eq_getElem_cons hi,hpv]
  cases i with
  | zero=>
   rw[h0 rec l[0] hx,show pv 0=none from rfl]
   simp only[setGo]
   by_cases c1:l[0]<0
   ·left; simp[c1]
   ·by_cases c2:l[0]≥n
    ·left; simp[c1,c2]
    ·right
     exact⟨(),trivial,by simp[c1,c2],by simp[c1,c2]⟩
  | succ i=>
   have hx':l[i]?=some l[i]:=List.getElem?_eq_getElem (by omega)
   rw[hstep rec i l[i] l[i+1] hx' hx hi,show pv (i+1)=some l[i] from hx']
   simp only[setGo]
   by_cases c1:l[i+1]<0
   ·left; simp[c1]
   ·by_cases c2:l[i+1]≥n
    ·left; simp[c1,c2]
    ·by_cases c3:l[i]≥l[i+1]
     ·left; simp[c1,c2,c3]
     ·right
      exact⟨(),trivial,by simp[c1,c2,c3],by simp[c1,c2,c3]⟩
theorem spec_SetOk_eq (n:Int) (l:List Int) (hl:l.length≤137438953472):spec_SetOk (n,l,())=some (setOk n l,()):=by
 unfold spec_SetOk
 refine set_loop n l hl ?_ ?_ ?_
 ·intro rec; simp
 ·intro rec x hx
  have hi:0<l.length:=by
   rcases Nat.eq_zero_or_pos l.length with h|h
   ·rw[List.getElem?_eq_none (by omega)] at hx; cases hx
   ·exact h
  simp only[ge_ok hi,decide_true,cond_true,and_self,if_true,Int.toNat_natCast,rd_get (e:=.i64) hx,wr_nat (show 0<4611686018427387904 by omega),show ¬ (((0:Nat):Int)>0) by omega,decide_false,cond_false]
 ·intro rec i x y hx hy hi
  have e:wr (((i+1:Nat):Int) - 1)=(i:Int):=by rw[wr_id' (by omega) (by omega)]; omega
  simp only[ge_ok hi,ge_ok (show i<l.length by omega),e,decide_true,cond_true,and_self,if_true,Int.toNat_natCast,rd_get (e:=.i64) hx,rd_get (e:=.i64) hy,wr_nat (show i+1<4611686018427387904 by omega),show (((i+1:Nat):Int)>0) by omega]
theorem impl_SetOk_eq (n:Int) (l:List Int) (hl:l.length≤137438953472):impl_SetOk (n,l,())=some (setOk n l,()):=by
 unfold impl_SetOk
 refine set_loop n l hl ?_ ?_ ?_
 ·intro rec; simp
 ·intro rec x hx
  have hi:0<l.length:=by
   rcases Nat.eq_zero_or_pos l.length with h|h
   ·rw[List.getElem?_eq_none (by omega)] at hx; cases hx
   ·exact h
  simp only[ge_ok hi,decide_true,cond_true,and_self,if_true,Int.toNat_natCast,rd_get (e:=.i64) hx,wr_nat (show 0<4611686018427387904 by omega),show ¬ (((0:Nat):Int)>0) by omega,decide_false,cond_false]
 ·intro rec i x y hx hy hi
  have e:wr (((i+1:Nat):Int) - 1)=(i:Int):=by rw[wr_id' (by omega) (by omega)]; omega
  simp only[ge_ok hi,ge_ok (show i<l.length by omega),e,decide_true,cond_true,and_self,if_true,Int.toNat_natCast,rd_get (e:=.i64) hx,rd_get (e:=.i64) hy,wr_nat (show i+1<4611686018427387904 by omega),show (((i+1:Nat):Int)>0) by omega]
def quorum (c:TConf):Int:=if confOk c=true then c.1 - (c.1 - 1) / 3 else 0
theorem spec_Quorum_eq (c:TConf):spec_Quorum (c,())=some (quorum c,()):=by
 unfold spec_Quorum quorum
 simp only[spec_ConfOk_eq,Option.bind_some]
 by_cases h:confOk c=true
 ·obtain⟨h1,h2⟩:=confOk_b h
  have e1:wr (c.1 - 1)=c.1 - 1:=wr_id' (by omega) (by omega)
  have e2:Int.tdiv (c.1 - 1) 3=(c.1 - 1) / 3:=Int.tdiv_eq_ediv_of_nonneg (by omega)
  simp only[h,Bool.not_true,cond_false,if_true,e1,e2]
  rw[wr_id' (n:=(c.1 - 1) / 3) (by omega) (by omega),wr_id' (by omega) (by omega)]
 ·have h':confOk c=false:=by simpa using h
  simp[h']
theorem impl_Quorum_eq (c:TConf):impl_Quorum (c,())=some (quorum c,()):=by
 unfold impl_Quorum impl_Faults quorum
 simp only[impl_ConfOk_eq,Option.bind_some]
 by_cases h:confOk c=true
 ·obtain⟨h1,h2⟩:=confOk_b h
  have e1:wr (c.1 - 1)=c.1 - 1:=wr_id' (by omega) (by omega)
  have e2:Int.tdiv (c.1 - 1) 3=(c.1 - 1) / 3:=Int.tdiv_eq_ediv_of_nonneg (by omega)
  simp only[h,Bool.not_true,cond_false,if_true,e1,e2,Option.bind_some]
  rw[wr_id' (n:=(c.1 - 1) / 3) (by omega) (by omega),wr_id' (by omega) (by omega)]
 ·have h':confOk c=false:=by simpa using h
  simp[h']
def lastIn (c:UInt8) (s:List UInt8):Nat→Option Nat
 | 0=>none
 | k+1=>if s.getD k 0=c then some k else lastIn c s k
def upOf (s:List UInt8):List UInt8:=if nameOk s=true then (match lastIn 47 s s.length with|some k=>s.take k|none=>[]) else []
theorem lastIn_lt (c:UInt8) (s:List UInt8) : ∀ k i,lastIn c s k=some i→i<k
 | 0,i,h=>by cases h
 | k+1,i,h=>by
  simp only[lastIn] at h
  split at h
  ·cases h; omega
  ·have:=lastIn_lt c s k i h; omega
theorem lib_last (c:UInt8) (s:List UInt8) : ∀ k,k≤s.length→Lib.lastIdx (ByteArray.mk ⟨s⟩) c.toNat k=match lastIn c s k with|some i=>(i:Int)|none => -1
 | 0,_=>rfl
 | k+1,h=>by
  have hk:k<s.length:=by omega
  have e:(ByteArray.mk ⟨s⟩).data[k]! = s.getD k 0:=by
   rw[List.getD_eq_getElem?_getD,List.getElem?_eq_getElem hk]
   simp[hk]
  simp only[Lib.lastIdx,lastIn,e]
  by_cases hc:s.getD k 0=c
  ·rw[if_pos (by rw[hc]),if_pos hc]
  ·rw[if_neg (fun h=>hc (UInt8.toNat_inj.1 (by omega))),if_neg hc,lib_last c s k (by omega)]
theorem name_slash {s:List UInt8} (h:nameOk s=true) (h0:s≠[]) : ∃ l,s=47::l:=by
 unfold nameOk steps at h
 rw[if_neg h0] at h
 cases hp:pieces 47 s with
 | nil=>exact absurd hp (pieces_ne _ _)
 | cons p ps=>
  rw[hp] at h
  simp only at h
  split at h
  ·next hc=>
   obtain⟨rfl,_⟩:=hc
   cases s with
   | nil=>exact absurd rfl h0
   | cons x l=>
    simp only[pieces] at hp
    split at hp
    ·next e=>exact⟨l,by rw[e]⟩
    ·cases hl:pieces 47 l with
     | nil=>exact absurd hl (pieces_ne 47 l)
     | cons a b=>rw[hl] at hp; simp[glue] at hp
  ·simp at h
theorem lastIn_some {c:UInt8} {l:List UInt8} : ∀ k,1≤k → ∃ i,lastIn c (c::l) k=some i
 | 0,h=>by omega
 | 1,_=>⟨0,by simp[lastIn]⟩
 | k+2,_=>by
  simp only[lastIn]
  split
  ·exact⟨_,rfl⟩
  ·exact lastIn_some (k+1) (by omega)
theorem spec_max_eq (a b:Int):spec_l1Max (a,b,())=some (max a b,()):=by
 unfold spec_l1Max
 by_cases h:a>b
 ·simp only[h,decide_true,cond_true]; congr 2; omega
 ·simp only[h,decide_false,cond_false]; congr 2; omega
theorem spec_UpOf_eq (s:List UInt8) (hs:s.length≤137438953472):spec_UpOf (s,())=some (upOf s,()):=by
 unfold spec_UpOf upOf
 simp only[spec_NameOk_eq s hs,Option.bind_some]
 by_cases h:nameOk s=true
 ·simp only[h,Bool.not_true,cond_false,if_true]
  refine (iter_eq (fun x:Int×Unit=>some ((match lastIn 47 s x.1.toNat with|some k=>s.take k|none=>[]),())) (fun x=>x.1.toNat) (fun x=>0≤x.1∧x.1≤(s.length:Int)) ?_ fuel ((s.length:Int),()) ⟨by simp,by simp⟩
   (by simp only[Int.toNat_natCast]; have:=fuel_gt (n:=s.length) (by omega); exact this)).trans (by simp)
  rintro rec ⟨v,⟨⟩⟩ ⟨h1,h2⟩ hrec
  obtain⟨n,rfl⟩ : ∃ n:Nat,v=(n:Int):=⟨v.toNat,by simp only at h1; omega⟩
  simp only at h2
  cases n with
  | zero=>
   have e1:wr (((0:Nat):Int) - 1) = -1:=wr_id' (by decide) (by decide)
   simp only[show ¬ (((0:Nat):Int)>0) by omega,decide_false,cond_false,e1,spec_max_eq,Option.bind_some,show max (-1:Int) 0=0 by decide]
   rw[if_pos (by omega)]
   simp[lastIn]
  | succ n=>
   have e1:wr (((n+1:Nat):Int) - 1)=(n:Int):=by rw[wr_id' (by omega) (by omega)]; omega
   simp only[show (((n+1:Nat):Int)>0) by omega,decide_true,cond_true,e1,spec_max_eq,Option.bind_some,Int.toNat_natCast,show max (n:Int) 0=(n:Int) by omega,lastIn,show UInt8.ofNat (Int.toNat 47)=47 from rfl]
   rw[if_pos (by omega)]
   by_cases hc:s.getD n 0=47
   ·have e2:(s.getD n 0 != 47)=false:=by rw[hc]; rfl
    rw[e2,if_pos hc]
    simp only[cond_false]
    rw[if_pos (by omega)]
    simp
   ·have e2:(s.getD n 0 != 47)=true:=bne_iff_ne.2 hc
    rw[e2,if_neg hc]
    simp only[cond_true]
    rw[hrec ((n:Int),()) ⟨by simp,by simp only; omega⟩ (by simp only[Int.toNat_natCast]; omega)]
    simp
 ·have h':nameOk s=false:=by simpa using h
  simp[h']
theorem impl_UpOf_eq (s:List UInt8) (hs:s.length≤1073741824):impl_UpOf (s,())=some (upOf s,()):=by
 unfold impl_UpOf upOf
 simp only[impl_NameOk_eq s hs,Option.bind_some]
 by_cases h:nameOk s=true
 ·simp only[h,Bool.not_true,cond_false,if_true]
  by_cases h0:s=[]
  ·subst h0; rfl
  ·have e0:(s==[])=false:=by simp[h0]
   obtain⟨l,rfl⟩:=name_slash h h0
   obtain⟨i,hi⟩:=lastIn_some (c:=47) (l:=l) (47::l).length (by simp)
   have hlt:=lastIn_lt _ _ _ _ hi
   have e1:strings_LastIndexByte (47::l,UInt8.ofNat (Int.toNat 47),())=some ((i:Int),()):=by
    unfold strings_LastIndexByte
    dsimp only
    rw[if_pos (by omega)]
    have:=lib_last 47 (47::l) (47::l).length (Nat.le_refl _)
    rw[hi] at this
    simp only at this
    rw[←this]; rfl
   simp only[e0,cond_false,e1,Option.bind_some,hi]
   rw[if_pos (by omega)]
   simp
 ·have h':nameOk s=false:=by simpa using h
  simp[h']
def qcOk (c:TConf) (q:TQc):Bool:=
 confOk c && (nameOk q.2.1 && (viewOf q.2.1==q.1 && (bif q.2.1==[] then ((q.2.2.length:Int)==0) else (setOk c.1 q.2.2 && decide ((q.2.2.length:Int)≥quorum c)))))
theorem spec_QcOk_eq (c:TConf) (q:TQc) (hw:wQc q≤137438953472):spec_QcOk (c,q,())=some (qcOk c q,()):=by
 have h1:q.2.1.length≤137438953472:=by simp only[wQc] at hw; omega
 have h2:q.2.2.length≤137438953472:=by simp only[wQc,wIntS] at hw; omega
 unfold spec_QcOk qcOk
 simp only[spec_ConfOk_eq,spec_NameOk_eq _ h1,spec_ViewOf_eq _ h1,spec_SetOk_eq _ _ h2,spec_Quorum_eq,Option.bind_some]
 cases confOk c
 ·rfl
 cases nameOk q.2.1
 ·rfl
 by_cases e:viewOf q.2.1=q.1
 ·have e1:(viewOf q.2.1 != q.1)=false:=by simp[e]
  have e2:(viewOf q.2.1==q.1)=true:=by simp[e]
  rw[e1,e2]
  cases (q.2.1==[])<;>cases setOk c.1 q.2.2<;>rfl
 ·have e1:(viewOf q.2.1 != q.1)=true:=by simp[e]
  have e2:(viewOf q.2.1==q.1)=false:=by simp[e]
  rw[e1,e2]; rfl
theorem impl_QcOk_eq (c:TConf) (q:TQc) (hw:wQc q≤1073741824):impl_QcOk (c,q,())=some (qcOk c q,()):=by
 have h1:q.2.1.length≤1073741824:=by simp only[wQc] at hw; omega
 have h2:q.2.2.length≤1073741824:=by simp only[wQc,wIntS] at hw; omega
 unfold impl_QcOk impl_QcFirst qcOk
 simp only[impl_ConfOk_eq,impl_NameOk_eq _ h1,impl_ViewOf_eq _ h1,impl_SetOk_eq _ _ (show q.2.2.length≤137438953472 by omega),impl_Quorum_eq,impl_QcSame_eq q _ (show q.2.2.length≤8796093022208 by omega),Option.bind_some]
 cases confOk c
 ·rfl
 simp only[Bool.not_true,cond_false,Bool.true_and]
 obtain⟨v,name,who⟩:=q
 simp only[qcSame]
 by_cases hn:name=[]
 ·subst hn
  obtain⟨k1,k2⟩:=name_nil
  rw[k1,k2]
  by_cases hv:v=0
  ·subst hv
   cases who with
   | nil=>rfl
   | cons a b=>
    simp
    omega
  ·have e1:(v==0)=false:=by simp[hv]
   have e2:((0:Int)==v)=false:=by simp; omega
   have e3:(v==(0:Int))=false:=e1
   rw[e1,e2]
   simp[hv]
 ·have e0:(name==[])=false:=by simp[hn]
  rw[e0]
  simp only[Bool.false_and,Bool.and_false,cond_false]
  by_cases hk:nameOk name=true
  ·obtain⟨w1,w2⟩:=name_view hk hn
   rw[hk]
   by_cases e:viewOf name=v
   ·have e1:(v==viewOf name)=true:=by simp[e]
    have e2:(viewOf name==v)=true:=by simp[e]
    have e3:decide (v≥1)=true:=by simp; omega
    rw[e1,e2,e3]
    cases setOk c.1 who<;>simp
   ·have e1:(v==viewOf name)=false:=by simp; omega
    have e2:(viewOf name==v)=false:=by simp[e]
    rw[e1,e2]
    cases decide (v≥1)<;>rfl
  ·have hk':nameOk name=false:=by simpa using hk
   rw[hk']
   cases decide (v≥1)<;>rfl
def blockOk (c:TConf) (b:TBlock):Bool:=qcOk c b.2 && (nameOk b.1 && (b.1 != [] && upOf b.1==b.2.2.1))
theorem spec_BlockOk_eq (c:TConf) (b:TBlock) (hw:wBlock b≤137438953472):spec_BlockOk (c,b,())=some (blockOk c b,()):=by
 have h1:b.1.length≤137438953472:=by simp only[wBlock] at hw; omega
 unfold spec_BlockOk blockOk
 simp only[spec_QcOk_eq c b.2 (by simp only[wBlock] at hw; omega),spec_NameOk_eq _ h1,spec_UpOf_eq _ h1,Option.bind_some]
 cases qcOk c b.2<;>cases nameOk b.1<;>cases (b.1 != [])<;>rfl
theorem impl_BlockOk_eq (c:TConf) (b:TBlock) (hw:wBlock b≤1073741824):impl_BlockOk (c,b,())=some (blockOk c b,()):=by
 have h1:b.1.length≤1073741824:=by simp only[wBlock] at hw; omega
 unfold impl_BlockOk blockOk
 simp only[impl_QcOk_eq c b.2 (by simp only[wBlock] at hw; omega),impl_NameOk_eq _ h1,impl_UpOf_eq _ h1,Option.bind_some]
 cases qcOk c b.2<;>cases nameOk b.1<;>cases (b.1 != [])<;>rfl
def partOk (c:TConf) (p:TPart):Bool:=
 confOk c && ((decide (p.1≥1) && decide (p.1≤60)) && (setOk c.1 p.2.2 && (decide ((p.2.2.length:Int)>0) && (p.2.1==[] || (nameOk p.2.1 && viewOf p.2.1==p.1)))))
theorem spec_PartOk_eq (c:TConf) (p:TPart) (hw:wPart p≤137438953472):spec_PartOk (c,p,())=some (partOk c p,()):=by
 have h1:p.2.1.length≤137438953472:=by simp only[wPart] at hw; omega
 have h2:p.2.2.length≤137438953472:=by simp only[wPart,wIntS] at hw; omega
 unfold spec_PartOk partOk
 simp only[spec_ConfOk_eq,spec_in_eq,spec_SetOk_eq _ _ h2,spec_NameOk_eq _ h1,spec_ViewOf_eq _ h1,Option.bind_some]
 have e:((p.2.2.length:Int)==0) = !decide ((p.2.2.length:Int)>0):=by
  generalize p.2.2.length=n
  cases n with
  | zero=>rfl
  | succ k=>
   have a1:(((k+1:Nat):Int)==0)=false:=by rw[beq_eq_false_iff_ne]; omega
   have a2:decide (((k+1:Nat):Int)>0)=true:=decide_eq_true (by omega)
   rw[a1,a2]; rfl
 rw[e]
 cases confOk c<;>cases (decide (p.1≥1) && decide (p.1≤60))<;>cases setOk c.1 p.2.2<;>cases decide ((p.2.2.length:Int)>0)<;>cases (p.2.1==[])<;>cases nameOk p.2.1<;>rfl
theorem impl_PartOk_eq (c:TConf) (p:TPart) (hw:wPart p≤1073741824):impl_PartOk (c,p,())=some (partOk c p,()):=by
 have h1:p.2.1.length≤1073741824:=by simp only[wPart] at hw; omega
 have h2:p.2.2.length≤137438953472:=by simp only[wPart,wIntS] at hw; omega
 unfold impl_PartOk partOk
 simp only[impl_ConfOk_eq,impl_in_eq,impl_SetOk_eq _ _ h2,impl_NameOk_eq _ h1,impl_ViewOf_eq _ h1,Option.bind_some]
 cases confOk c<;>cases (decide (p.1≥1) && decide (p.1≤60))<;>cases setOk c.1 p.2.2<;>cases (p.2.1==[])<;>cases nameOk p.2.1<;>cases (viewOf p.2.1==p.1)<;>cases decide ((p.2.2.length:Int)>0)<;>rfl
end G448
namespace G448
open Ev Go
theorem qcSame_iff (a b:TQc):qcSame a b=decide (a=b):=by
 obtain⟨a1,a2,a3⟩:=a
 obtain⟨b1,b2,b3⟩:=b
 unfold qcSame
 rw[Bool.eq_iff_iff]
 simp[Prod.ext_iff]
theorem blockSame_iff (a b:TBlock):blockSame a b=decide (a=b):=by
 obtain⟨a1,a2⟩:=a
 obtain⟨b1,b2⟩:=b
 unfold blockSame
 simp only[qcSame_iff]
 rw[Bool.eq_iff_iff]
 simp[Prod.ext_iff]
theorem txSame_iff (a b:TTx):txSame a b=decide (a=b):=by
 obtain⟨a1,a2,a3,a4⟩:=a
 obtain⟨b1,b2,b3,b4⟩:=b
 unfold txSame
 rw[Bool.eq_iff_iff]
 simp[Prod.ext_iff]
theorem msgSame_iff (a b:TMsg):msgSame a b=true↔a=b:=by
 obtain⟨a1,a2,a3,a4,a5,a6,a7⟩:=a
 obtain⟨b1,b2,b3,b4,b5,b6,b7⟩:=b
 unfold msgSame
 simp only[qcSame_iff,blockSame_iff,txSame_iff]
 simp only[Bool.and_eq_true,beq_iff_eq,decide_eq_true_eq,Prod.mk.injEq]
theorem msgSame_comm (a b:TMsg):msgSame a b=msgSame b a:=by
 rw[Bool.eq_iff_iff,msgSame_iff,msgSame_iff]
 exact⟨fun h=>h.symm,fun h=>h.symm⟩
def canon (m:TMsg):TMsg:=
 bif (m.1==1) then (m.1,0,m.2.2.1,(0,[],[]),(0,[],[]),0,(0,0,0,0)) else
 bif (m.1==2) then (m.1,0,([],0,[],[]),m.2.2.2.1,(0,[],[]),0,(0,0,0,0)) else
 bif (m.1==3) then (m.1,m.2.1,([],0,[],[]),(0,[],[]),m.2.2.2.2.1,m.2.2.2.2.2.1,(0,0,0,0)) else
 bif (m.1==4) then (m.1,0,([],0,[],[]),(0,[],[]),(0,[],[]),0,m.2.2.2.2.2.2) else
 (m.1,0,([],0,[],[]),(0,[],[]),(0,[],[]),0,(0,0,0,0))
theorem spec_l14Zero_eq (m:TMsg) (h:MsgW m):spec_l14Zero (m,())=some (msgSame (canon m) m,()):=by
 obtain⟨h1,h2,h3⟩:=h
 have hz:([]:List Int).length≤8796093022208:=by simp
 unfold spec_l14Zero canon
 dsimp only
 rw[spec_MsgSame_eq (m.1,0,m.2.2.1,(0,[],[]),(0,[],[]),0,(0,0,0,0)) m ⟨h1,hz,hz⟩,spec_MsgSame_eq (m.1,0,([],0,[],[]),m.2.2.2.1,(0,[],[]),0,(0,0,0,0)) m ⟨hz,h2,hz⟩,
  spec_MsgSame_eq (m.1,m.2.1,([],0,[],[]),(0,[],[]),m.2.2.2.2.1,m.2.2.2.2.2.1,(0,0,0,0)) m ⟨hz,hz,h3⟩,spec_MsgSame_eq (m.1,0,([],0,[],[]),(0,[],[]),(0,[],[]),0,m.2.2.2.2.2.2) m ⟨hz,hz,hz⟩,
  spec_MsgSame_eq (m.1,0,([],0,[],[]),(0,[],[]),(0,[],[]),0,(0,0,0,0)) m ⟨hz,hz,hz⟩]
 simp only[Option.bind_some]
 cases (m.1==1)<;>cases (m.1==2)<;>cases (m.1==3)<;>cases (m.1==4)<;>rfl
theorem impl_named_eq (m:TMsg):impl_named (m,())=some (canon m,()):=by
 unfold impl_named canon
 cases (m.1==1)<;>cases (m.1==2)<;>cases (m.1==3)<;>cases (m.1==4)<;>rfl
noncomputable def msgOk (c:TConf) (m:TMsg):Bool:=
 confOk c && (msgSame (canon m) m && (bif (m.1==1) then blockOk c m.2.2.1 else bif (m.1==2) then (partOk c m.2.2.2.1 && m.2.2.2.1.2.1 != []) else
  bif (m.1==3) then ((decide (m.2.1≥1) && decide (m.2.1≤60)) && (qcOk c m.2.2.2.2.1 && (decide (m.2.2.2.2.2.1≥0) && decide (m.2.2.2.2.2.1≤wr (c.1 - 1))))) else
  bif (m.1==4) then txOk m.2.2.2.2.2.2 else false))
theorem spec_MsgOk_eq (c:TConf) (m:TMsg) (hw:wMsg m≤137438953472):spec_MsgOk (c,m,())=some (msgOk c m,()):=by
 have hW:MsgW m:=MsgW.of (by omega)
 have h1:wBlock m.2.2.1≤137438953472:=by simp only[wMsg] at hw; omega
 have h2:wPart m.2.2.2.1≤137438953472:=by simp only[wMsg] at hw; omega
 have h3:wQc m.2.2.2.2.1≤137438953472:=by simp only[wMsg] at hw; omega
 unfold spec_MsgOk msgOk
 simp only[spec_ConfOk_eq,spec_l14Zero_eq m hW,spec_BlockOk_eq c _ h1,spec_PartOk_eq c _ h2,spec_QcOk_eq c _ h3,spec_in_eq,spec_TxOk_eq,Option.bind_some]
 cases confOk c
 ·rfl
 cases msgSame (canon m) m
 ·rfl
 cases (m.1==1)
 ·cases (m.1==2)
  ·cases (m.1==3)
   ·cases (m.1==4)<;>rfl
   ·cases (decide (m.2.1≥1) && decide (m.2.1≤60))<;>cases qcOk c m.2.2.2.2.1<;>rfl
  ·cases partOk c m.2.2.2.1<;>rfl
 ·rfl
theorem impl_MsgOk_eq (c:TConf) (m:TMsg) (hw:wMsg m≤1073741824):impl_MsgOk (c,m,())=some (msgOk c m,()):=by
 have hW:MsgW m:=MsgW.of (by omega)
 have h1:wBlock m.2.2.1≤1073741824:=by simp only[wMsg] at hw; omega
 have h2:wPart m.2.2.2.1≤1073741824:=by simp only[wMsg] at hw; omega
 have h3:wQc m.2.2.2.2.1≤1073741824:=by simp only[wMsg] at hw; omega
 unfold impl_MsgOk msgOk
 simp only[impl_ConfOk_eq,impl_named_eq,impl_MsgSame_eq m _ hW,msgSame_comm m (canon m),impl_BlockOk_eq c _ h1,impl_PartOk_eq c _ h2,impl_QcOk_eq c _ h3,impl_in_eq,impl_TxOk_eq,Option.bind_some]
 cases confOk c
 ·rfl
 cases msgSame (canon m) m
 ·rfl
 cases (m.1==1)
 ·cases (m.1==2)
  ·cases (m.1==3)
   ·cases (m.1==4)<;>rfl
   ·cases (decide (m.2.1≥1) && decide (m.2.1≤60))<;>cases qcOk c m.2.2.2.2.1<;>rfl
  ·cases partOk c m.2.2.2.1<;>rfl
 ·rfl
end G448
namespace G448
open Ev Go
abbrev ETx:Ty:=.pair .i64 (.pair .i64 (.pair .i64 .i64))
def beforePart (a b:TPart):Bool:=decide (a.1<b.1) || (a.1==b.1 && Go.Op.bytesLess a.2.1 b.2.1)
end G448
namespace G448
open Ev Go
end G448
namespace G448
open Ev
end G448
namespace G448
open Ev
abbrev TCur:=List UInt8×Int×Int
def CurOk (c:TCur):Prop:=c.1.length≤big∧0≤c.2.1
theorem band_255 (x:Int):0≤band x 255∧band x 255≤255:=by
 unfold band
 have h:(BitVec.ofInt 64 x &&& BitVec.ofInt 64 255).toNat≤255:=by
  rw[BitVec.toNat_and]
  exact Nat.le_trans Nat.and_le_right (by decide)
 rw[wr_id' (by omega) (by omega)]
 omega
theorem tmod_bnds {a n:Int} (ha:0≤a) (hn:0<n):0≤a.tmod n∧a.tmod n<n:=by
 rw[Int.tmod_eq_emod_of_nonneg ha]
 exact⟨Int.emod_nonneg _ (by omega),Int.emod_lt_of_pos _ hn⟩
theorem l1Byte_ens (c:TCur) (hc:CurOk c):Ens (spec_l1Byte (c,())) fun r=>0≤r.1.2.1∧0≤r.2.1∧r.2.1≤255:=by
 obtain⟨h1,h2⟩:=hc
 unfold spec_l1Byte
 refine Ens.cond (fun h => ?_) fun h=>Ens.some ⟨h2,band_255 _⟩
 have h:c.2.1<(c.1.length:Int):=by simpa using h
 refine Ens.ite ⟨h2,h⟩ (Ens.some ⟨?_,band_255 _⟩)
 dsimp only
 unfold big at h1
 rw[wr_id' (by omega) (by omega)]
 omega
theorem l1Below_ens (c:TCur) (n:Int) (hc:CurOk c):Ens (spec_l1Below (c,n,())) fun r=>0≤r.1.2.1∧0≤r.2.1∧(0<n→r.2.1<n):=by
 unfold spec_l1Below
 refine Ens.cond (fun h=>Ens.some ⟨hc.2,Int.le_refl _,fun h0=>h0⟩) fun h => ?_
 have h:0<n:=by simpa using h
 refine Ens.cond (fun _ => ?_) fun _ => ?_
 ·refine (l1Byte_ens c hc).bind fun r hr => ?_
  rw[if_neg (show ¬ n=0 by omega)]
  obtain⟨g1,g2⟩:=tmod_bnds hr.2.1 h
  exact Ens.some ⟨hr.1,g1,fun _=>g2⟩
 ·refine (l1Byte_ens c hc).bind fun r1 hr1 => ?_
  refine (l1Byte_ens (c.1,r1.1.2) ⟨hc.1,hr1.1⟩).bind fun r2 hr2 => ?_
  refine (l1Byte_ens (c.1,r2.1.2) ⟨hc.1,hr2.1⟩).bind fun r3 hr3 => ?_
  refine (l1Byte_ens (c.1,r3.1.2) ⟨hc.1,hr3.1⟩).bind fun r4 hr4 => ?_
  rw[if_neg (show ¬ n=0 by omega)]
  have e:wr (wr (wr (wr (r1.2.1*16777216)+wr (r2.2.1*65536))+wr (r3.2.1*256))+r4.2.1)=r1.2.1*16777216+r2.2.1*65536+r3.2.1*256+r4.2.1:=by
   rw[wr_id' (n:=r1.2.1*16777216) (by omega) (by omega),wr_id' (n:=r2.2.1*65536) (by omega) (by omega),wr_id' (n:=r3.2.1*256) (by omega) (by omega),wr_id' (n:=r1.2.1*16777216+r2.2.1*65536) (by omega) (by omega),
    wr_id' (n:=r1.2.1*16777216+r2.2.1*65536+r3.2.1*256) (by omega) (by omega),wr_id' (by omega) (by omega)]
  obtain⟨g1,g2⟩:=tmod_bnds (a:=wr (wr (wr (wr (r1.2.1*16777216)+wr (r2.2.1*65536))+wr (r3.2.1*256))+r4.2.1)) (by rw[e]; omega) h
  exact Ens.some ⟨hr4.1,g1,fun _=>g2⟩
theorem l1Once_ens (c:TCur) (n:Int) (hc:CurOk c):Ens (spec_l1Once (c,n,())) fun r=>0≤r.1.2.1:=by
 unfold spec_l1Once
 exact (l1Below_ens c n hc).bind fun r hr=>Ens.some hr.1
theorem rd_mem {e:Ty} {l:List (den e)} {i:Nat} (h:i<l.length):rd e l i∈l:=by
 rw[rd_get (List.getElem?_eq_getElem h)]
 exact List.getElem_mem h
theorem l1PickInt_ens (c:TCur) (l:List Int) (hc:CurOk c) (hl:0<l.length):Ens (spec_l1PickInt (c,l,())) fun r=>0≤r.1.2.1∧r.2.1∈l:=by
 unfold spec_l1PickInt
 refine (l1Below_ens c _ hc).bind fun r hr => ?_
 have h:r.2.1<(l.length:Int):=hr.2.2 (show (0:Int)<(l.length:Int) by omega)
 have h0:0≤r.2.1:=hr.2.1
 refine Ens.ite ⟨h0,h⟩ (Ens.some ⟨hr.1,rd_mem (e:=.i64) ?_⟩)
 show r.2.1.toNat<l.length
 omega
theorem l1New_ens (code:List UInt8) (hb:code.length≤big):Ens (spec_l1New (code,())) fun r=>CurOk r∧r.1=code:=by
 unfold spec_l1New
 refine Ens.loop (fun x=>0≤x.2.1) (fun x=>code.length - x.2.1.toNat) ?_ (Int.le_refl _) (by dsimp only; unfold big at hb; rw[fuel_def]; omega)
 intro rec x hx hrec
 refine Ens.cond (fun h => ?_) fun h=>Ens.some ⟨⟨hb,Int.le_refl _⟩,rfl⟩
 have h:x.2.1<(code.length:Int):=by simpa using h
 refine Ens.cond (fun h2 => ?_) fun h2=>Ens.some ⟨⟨hb,Int.le_refl _⟩,rfl⟩
 refine Ens.ite ⟨hx,h⟩ ?_
 unfold big at hb
 rw[wr_id' (n:=x.2.1+1) (by omega) (by omega)]
 refine hrec _ (by show 0≤x.2.1+1; omega) (by show code.length - (x.2.1+1).toNat<code.length - x.2.1.toNat; omega)
noncomputable def putN (n:Nat):List UInt8:=if h:n>127 then toB ((n % 128+128:Nat):Int)::putN (n / 128) else [toB (n:Int)]
termination_by n
decreasing_by omega
noncomputable def putNum (n:Int):List UInt8:=if 0≤n∧n≤2147483647 then putN n.toNat else []
theorem putN_big {n:Nat} (h:n>127):putN n=toB ((n % 128+128:Nat):Int)::putN (n / 128):=by rw[putN,dif_pos h]
theorem putN_small {n:Nat} (h : ¬ n>127):putN n=[toB (n:Int)]:=by rw[putN,dif_neg h]
theorem putN_len : ∀ (k n:Nat),n<128 ^ k→(putN n).length≤k+(if k=0 then 1 else 0)
 | 0,n,h=>by
  have:n=0:=by simpa using h
  subst this
  rw[putN_small (by omega)]
  simp
 | k+1,n,h=>by
  by_cases hn:n>127
  ·rw[putN_big hn]
   have h2:n / 128<128 ^ k:=by
    rw[Nat.pow_succ] at h
    omega
   have ih:=putN_len k (n / 128) h2
   cases k with
   | zero=>simp at h2; omega
   | succ k=>simp at ih ⊢; omega
  ·rw[putN_small hn]; simp
theorem putNum_len (n:Int):(putNum n).length≤5:=by
 unfold putNum
 split
 ·next h=>exact putN_len 5 n.toNat (by omega)
 ·simp
theorem put_loop {G:(Int×List UInt8×Unit→Option (List UInt8×Unit))→Int×List UInt8×Unit→Option (List UInt8×Unit)}
  (hend : ∀ rec (n:Nat) (out:List UInt8),¬ n>127→out.length≤1000→G rec ((n:Int),out,())=some (out++[toB (n:Int)],()))
  (hstep : ∀ rec (n:Nat) (out:List UInt8),n>127→n≤2147483647→out.length≤1000→G rec ((n:Int),out,())=rec (((n / 128:Nat):Int),out++[toB ((n % 128+128:Nat):Int)],())) :
  ∀ (m n:Nat) (out:List UInt8),n<m→n≤2147483647→(n<128 ^ 5→out.length+(putN n).length≤1000)→iter G m ((n:Int),out,())=some (out++putN n,())
 | 0,n,out,h,_,_=>by omega
 | m+1,n,out,h,hn,ho=>by
  have ho':=ho (by omega)
  by_cases hc:n>127
  ·have e1:iter G (m+1) ((n:Int),out,())=iter G m (((n / 128:Nat):Int),out++[toB ((n % 128+128:Nat):Int)],()):=hstep (iter G m) n out hc hn (by omega)
   rw[e1,put_loop hend hstep m (n / 128) _ (by omega) (by omega) (fun _=>by rw[putN_big hc] at ho'; simp at ho' ⊢; omega),putN_big hc]
   simp
  ·have e1:iter G (m+1) ((n:Int),out,())=some (out++[toB (n:Int)],()):=hend (iter G m) n out hc (by omega)
   rw[e1,putN_small hc]
theorem spec_l1In_eq (x lo hi:Int):spec_l1In (x,lo,hi,())=some (decide (x≥lo) && decide (x≤hi),()):=by
 unfold spec_l1In
 cases h:decide (x≥lo)<;>simp[h]
theorem tdiv_nat (n m:Nat):Int.tdiv (n:Int) (m:Int)=((n / m:Nat):Int):=by
 rw[Int.tdiv_eq_ediv_of_nonneg (by omega)]; rfl
theorem tmod_nat (n m:Nat):Int.tmod (n:Int) (m:Int)=((n % m:Nat):Int):=by
 rw[Int.tmod_eq_emod_of_nonneg (by omega)]; rfl
theorem spec_PutNum_eq (n:Int):spec_PutNum (n,())=some (putNum n,()):=by
 unfold spec_PutNum putNum
 simp only[spec_l1In_eq,Option.bind_some]
 by_cases h:0≤n∧n≤2147483647
 ·have e1:(decide (n≥0) && decide (n≤2147483647))=true:=by simp; omega
  simp only[e1,Bool.not_true,cond_false,if_pos h]
  obtain⟨m,rfl⟩:=Int.eq_ofNat_of_zero_le h.1
  have hm:m≤2147483647:=by omega
  have hl:=putN_len 5 m (by omega)
  refine (put_loop ?_ ?_ fuel m [] (by rw[fuel_def]; omega) hm (fun _=>by simp at hl ⊢; omega)).trans (by simp)
  ·intro rec k out hk ho
   have:decide ((k:Int)>127)=false:=by simp; omega
   simp only[this,cond_false,List.length_cons,List.length_nil]
   rw[if_pos (by omega)]
  ·intro rec k out hk hkm ho
   have:decide ((k:Int)>127)=true:=by simp; omega
   simp only[this,cond_true,List.length_cons,List.length_nil]
   rw[if_pos (by omega),show Int.tdiv (k:Int) 128=((k / 128:Nat):Int) from tdiv_nat k 128,show Int.tmod (k:Int) 128=((k % 128:Nat):Int) from tmod_nat k 128,wr_id' (by omega) (by omega),wr_id' (by omega) (by omega)]
   rfl
 ·have e1:(decide (n≥0) && decide (n≤2147483647))=false:=by simp; omega
  simp only[e1,Bool.not_false,cond_true,if_neg h]
end G448
namespace G448
open Ev Go
theorem impl_PutNum_eq (n:Int):impl_PutNum (n,())=some (putNum n,()):=by
 unfold impl_PutNum putNum
 simp only[impl_in_eq,Option.bind_some]
 by_cases h:0≤n∧n≤2147483647
 ·have e1:(decide (n≥0) && decide (n≤2147483647))=true:=by simp; omega
  simp only[e1,Bool.not_true,cond_false,if_pos h]
  obtain⟨m,rfl⟩:=Int.eq_ofNat_of_zero_le h.1
  have hm:m≤2147483647:=by omega
  have hl:=putN_len 5 m (by omega)
  refine (put_loop ?_ ?_ fuel m [] (by rw[fuel_def]; omega) hm (fun _=>by simp at hl ⊢; omega)).trans (by simp)
  ·intro rec k out hk ho
   have:decide ((k:Int)≥128)=false:=by simp; omega
   simp only[this,cond_false,List.length_cons,List.length_nil]
   rw[if_pos (by omega)]
  ·intro rec k out hk hk2 ho
   have:decide ((k:Int)≥128)=true:=by simp; omega
   have e2:Int.tmod (k:Int) 128=((k % 128:Nat):Int):=by simp[Int.tmod]
   have e3:Int.tdiv (k:Int) 128=((k / 128:Nat):Int):=by simp[Int.tdiv]
   simp only[this,cond_true,e2,e3,List.length_cons,List.length_nil]
   rw[if_pos (by omega),wr_id' (n:=((k % 128:Nat):Int)+128) (by omega) (by omega),wr_id' (n:=((k / 128:Nat):Int)) (by omega) (by omega)]
   rfl
 ·have e1:(decide (n≥0) && decide (n≤2147483647))=false:=by simp; omega
  simp only[e1,Bool.not_false,cond_true,if_neg h]
noncomputable def putText (s:List UInt8):List UInt8:=putNum (s.length:Int)++s
noncomputable def nums (l:List Int):List UInt8:=(l.map putNum).flatten
theorem putText_len (s:List UInt8):(putText s).length≤5+s.length:=by
 unfold putText
 have:=putNum_len (s.length:Int)
 rw[List.length_append]; omega
theorem nums_len : ∀ l:List Int,(nums l).length≤5*l.length
 | []=>by simp[nums]
 | x::l=>by
  have h1:=putNum_len x
  have h2:=nums_len l
  simp only[nums,List.map_cons,List.flatten_cons,List.length_append,List.length_cons] at *
  omega
theorem spec_PutText_eq (s:List UInt8) (h:s.length≤137438953472):spec_PutText (s,())=some (putText s,()):=by
 unfold spec_PutText putText
 simp only[spec_PutNum_eq,Option.bind_some]
 have:=putNum_len (s.length:Int)
 rw[if_pos (by omega)]
theorem impl_PutText_eq (s:List UInt8) (h:s.length≤137438953472):impl_PutText (s,())=some (putText s,()):=by
 unfold impl_PutText putText
 simp only[impl_PutNum_eq,Option.bind_some]
 have:=putNum_len (s.length:Int)
 rw[if_pos (by omega)]
theorem nums_fold : ∀ (l:List Int) (out:List UInt8),l.foldl (fun o x=>o++putNum x) out=out++nums l
 | [],out=>by simp[nums]
 | x::l,out=>by rw[List.foldl_cons,nums_fold l]; simp[nums]
theorem nums_loop {put:Int×Unit→Option (List UInt8×Unit)} (hp : ∀ n,put (n,())=some (putNum n,())) (l:List Int) (hl:l.length≤137438953472) (out:List UInt8) (ho:out.length≤1000000000000)
  {G:(List UInt8×Int×Unit→Option (List UInt8×Unit))→List UInt8×Int×Unit→Option (List UInt8×Unit)}
  (hG : ∀ rec o (i:Int),G rec (o,i,())=bif decide (i<(l.length:Int)) then (if 0≤i∧i<(l.length:Int) then (put (rd .i64 l i.toNat,())).bind fun r1=>
   if (o.length+r1.1.length)*1≤70368744177664 then rec (o++r1.1,wr (i+1),()) else none else none) else some (o,())) :
  iter G fuel (out,0,())=some (out++nums l,()):=by
 have:=fold_loop (fun i (o:List UInt8)=>(o,i,())) l (fun o x=>o++putNum x) (fun o=>some (o,())) (by omega) (fun i o=>o.length≤1000000000000+5*i) (G:=G) ?_ ?_ (s0:=out) (by omega)
 ·rw[this,nums_fold]
 ·intro rec o h; rw[hG]; simp
 ·intro rec i o x hx hi h
  have hpl:=putNum_len x
  refine⟨by rw[List.length_append]; omega,?_⟩
  rw[hG]
  simp only[ge_ok hi,decide_true,cond_true,and_self,if_true,Int.toNat_natCast,rd_get (e:=.i64) hx,hp,Option.bind_some,wr_nat (show i<4611686018427387904 by omega)]
  rw[if_pos (by omega)]
theorem spec_l14Nums_eq (l:List Int) (hl:l.length≤137438953472):spec_l14Nums (l,())=some (nums l,()):=by
 unfold spec_l14Nums
 exact (nums_loop (put:=spec_PutNum) spec_PutNum_eq l hl [] (by simp) (fun rec o i=>rfl)).trans (by simp)
theorem impl_putNums_eq (l:List Int) (hl:l.length≤137438953472):impl_putNums (l,())=some (nums l,()):=by
 unfold impl_putNums
 exact (nums_loop (put:=impl_PutNum) impl_PutNum_eq l hl [] (by simp) (fun rec o i=>rfl)).trans (by simp)
noncomputable def qcBytes (c:TConf) (q:TQc):List UInt8:=
 bif qcOk c q then ((putNum q.1++putText q.2.1)++putNum (q.2.2.length:Int))++nums q.2.2 else []
theorem qcBytes_len (c:TConf) (q:TQc):(qcBytes c q).length≤15+5*wQc q:=by
 unfold qcBytes
 cases qcOk c q
 ·simp
 ·have h1:=putNum_len q.1
  have h2:=putText_len q.2.1
  have h3:=putNum_len (q.2.2.length:Int)
  have h4:=nums_len q.2.2
  simp only[cond_true,List.length_append,wQc,wIntS]
  omega
theorem spec_QcBytes_eq (c:TConf) (q:TQc) (hw:wQc q≤137438953472):spec_QcBytes (c,q,())=some (qcBytes c q,()):=by
 have h1:q.2.1.length≤137438953472:=by simp only[wQc] at hw; omega
 have h2:q.2.2.length≤137438953472:=by simp only[wQc,wIntS] at hw; omega
 have l1:=putNum_len q.1
 have l2:=putText_len q.2.1
 have l3:=putNum_len (q.2.2.length:Int)
 unfold spec_QcBytes qcBytes
 simp only[spec_QcOk_eq c q hw,spec_PutNum_eq,spec_PutText_eq _ h1,Option.bind_some]
 cases qcOk c q
 ·rfl
 simp only[Bool.not_true,cond_false,cond_true,List.length_append]
 rw[if_pos (by omega),if_pos (by omega)]
 exact nums_loop (put:=spec_PutNum) spec_PutNum_eq q.2.2 h2 _ (by simp only[List.length_append]; omega) (fun rec o i=>by simp only[spec_PutNum_eq,Option.bind_some])
theorem impl_QcBytes_eq (c:TConf) (q:TQc) (hw:wQc q≤1073741824):impl_QcBytes (c,q,())=some (qcBytes c q,()):=by
 have h1:q.2.1.length≤137438953472:=by simp only[wQc] at hw; omega
 have h2:q.2.2.length≤137438953472:=by simp only[wQc,wIntS] at hw; omega
 have l1:=putNum_len q.1
 have l2:=putText_len q.2.1
 have l3:=putNum_len (q.2.2.length:Int)
 have l4:=nums_len q.2.2
 unfold impl_QcBytes qcBytes
 simp only[impl_QcOk_eq c q hw,impl_PutNum_eq,impl_PutText_eq _ h1,impl_putNums_eq _ h2,Option.bind_some]
 cases qcOk c q
 ·rfl
 simp only[Bool.not_true,cond_false,cond_true,List.length_append]
 rw[if_pos (by omega),if_pos (by omega),if_pos (by omega)]
noncomputable def msgBytes (c:TConf) (m:TMsg):List UInt8:=
 bif msgOk c m then (bif (m.1==1) then (putNum m.1++putText m.2.2.1.1)++qcBytes c m.2.2.1.2 else
  bif (m.1==2) then (((putNum m.1++putNum m.2.2.2.1.1)++putText m.2.2.2.1.2.1)++putNum (m.2.2.2.1.2.2.length:Int))++nums m.2.2.2.1.2.2 else
  bif (m.1==3) then (putNum m.1++nums [m.2.1,m.2.2.2.2.2.1])++qcBytes c m.2.2.2.2.1 else
  putNum m.1++nums [m.2.2.2.2.2.2.1,m.2.2.2.2.2.2.2.1,m.2.2.2.2.2.2.2.2.1,m.2.2.2.2.2.2.2.2.2]) else []
theorem msgBytes_len (c:TConf) (m:TMsg):(msgBytes c m).length≤60+5*wMsg m:=by
 unfold msgBytes
 have h0:=putNum_len m.1
 have h1:=putText_len m.2.2.1.1
 have h2:=qcBytes_len c m.2.2.1.2
 have h3:=putNum_len m.2.2.2.1.1
 have h4:=putText_len m.2.2.2.1.2.1
 have h5:=putNum_len (m.2.2.2.1.2.2.length:Int)
 have h6:=nums_len m.2.2.2.1.2.2
 have h7:=nums_len [m.2.1,m.2.2.2.2.2.1]
 have h8:=qcBytes_len c m.2.2.2.2.1
 have h9:=nums_len [m.2.2.2.2.2.2.1,m.2.2.2.2.2.2.2.1,m.2.2.2.2.2.2.2.2.1,m.2.2.2.2.2.2.2.2.2]
 simp only[List.length_cons,List.length_nil] at h7 h9
 cases msgOk c m
 ·simp
 cases (m.1==1)
 ·cases (m.1==2)
  ·cases (m.1==3)
   ·simp only[cond_true,cond_false,List.length_append]; omega
   ·simp only[cond_true,cond_false,List.length_append,wMsg]; omega
  ·simp only[cond_true,cond_false,List.length_append,wMsg,wPart,wIntS]; omega
 ·simp only[cond_true,List.length_append,wMsg,wBlock]; omega
theorem spec_MsgBytes_eq (c:TConf) (m:TMsg) (hw:wMsg m≤137438953472):spec_MsgBytes (c,m,())=some (msgBytes c m,()):=by
 have w1:m.2.2.1.1.length≤137438953472:=by simp only[wMsg,wBlock] at hw; omega
 have w2:wQc m.2.2.1.2≤137438953472:=by simp only[wMsg,wBlock] at hw; omega
 have w3:m.2.2.2.1.2.1.length≤137438953472:=by simp only[wMsg,wPart] at hw; omega
 have w4:m.2.2.2.1.2.2.length≤137438953472:=by simp only[wMsg,wPart,wIntS] at hw; omega
 have w5:wQc m.2.2.2.2.1≤137438953472:=by simp only[wMsg] at hw; omega
 have h0:=putNum_len m.1
 have h1:=putText_len m.2.2.1.1
 have h2:=qcBytes_len c m.2.2.1.2
 have h3:=putNum_len m.2.2.2.1.1
 have h4:=putText_len m.2.2.2.1.2.1
 have h5:=putNum_len (m.2.2.2.1.2.2.length:Int)
 have h6:=nums_len m.2.2.2.1.2.2
 have h7:=nums_len [m.2.1,m.2.2.2.2.2.1]
 have h8:=qcBytes_len c m.2.2.2.2.1
 have h9:=nums_len [m.2.2.2.2.2.2.1,m.2.2.2.2.2.2.2.1,m.2.2.2.2.2.2.2.2.1,m.2.2.2.2.2.2.2.2.2]
 simp only[List.length_cons,List.length_nil] at h7 h9
 unfold spec_MsgBytes msgBytes
 simp only[spec_MsgOk_eq c m hw,spec_PutNum_eq,spec_PutText_eq _ w1,spec_PutText_eq _ w3,spec_QcBytes_eq c _ w2,spec_QcBytes_eq c _ w5,spec_l14Nums_eq _ w4,spec_l14Nums_eq [m.2.1,m.2.2.2.2.2.1] (by simp),
  spec_l14Nums_eq [m.2.2.2.2.2.2.1,m.2.2.2.2.2.2.2.1,m.2.2.2.2.2.2.2.2.1,m.2.2.2.2.2.2.2.2.2] (by simp),Option.bind_some,List.length_append]
 cases msgOk c m
 ·rfl
 cases (m.1==1)
 ·cases (m.1==2)
  ·cases (m.1==3)
   ·simp only[Bool.not_true,cond_true,cond_false]; rw[if_pos (by omega)]
   ·simp only[Bool.not_true,cond_true,cond_false]; rw[if_pos (by omega),if_pos (by omega)]
  ·simp only[Bool.not_true,cond_true,cond_false]; rw[if_pos (by omega),if_pos (by omega),if_pos (by omega),if_pos (by omega)]
 ·simp only[Bool.not_true,cond_true,cond_false]; rw[if_pos (by omega),if_pos (by omega)]
theorem impl_MsgBytes_eq (c:TConf) (m:TMsg) (hw:wMsg m≤1073741824):impl_MsgBytes (c,m,())=some (msgBytes c m,()):=by
 have w1:m.2.2.1.1.length≤137438953472:=by simp only[wMsg,wBlock] at hw; omega
 have w2:wQc m.2.2.1.2≤1073741824:=by simp only[wMsg,wBlock] at hw; omega
 have w3:m.2.2.2.1.2.1.length≤137438953472:=by simp only[wMsg,wPart] at hw; omega
 have w4:m.2.2.2.1.2.2.length≤137438953472:=by simp only[wMsg,wPart,wIntS] at hw; omega
 have w5:wQc m.2.2.2.2.1≤1073741824:=by simp only[wMsg] at hw; omega
 have h0:=putNum_len m.1
 have h1:=putText_len m.2.2.1.1
 have h2:=qcBytes_len c m.2.2.1.2
 have h3:=putNum_len m.2.2.2.1.1
 have h4:=putText_len m.2.2.2.1.2.1
 have h5:=putNum_len (m.2.2.2.1.2.2.length:Int)
 have h6:=nums_len m.2.2.2.1.2.2
 have h7:=nums_len [m.2.1,m.2.2.2.2.2.1]
 have h8:=qcBytes_len c m.2.2.2.2.1
 have h9:=nums_len [m.2.2.2.2.2.2.1,m.2.2.2.2.2.2.2.1,m.2.2.2.2.2.2.2.2.1,m.2.2.2.2.2.2.2.2.2]
 simp only[List.length_cons,List.length_nil] at h7 h9
 unfold impl_MsgBytes msgBytes
 simp only[impl_MsgOk_eq c m hw,impl_PutNum_eq,impl_PutText_eq _ w1,impl_PutText_eq _ w3,impl_QcBytes_eq c _ w2,impl_QcBytes_eq c _ w5,impl_putNums_eq _ w4,impl_putNums_eq [m.2.1,m.2.2.2.2.2.1] (by simp),
  impl_putNums_eq [m.2.2.2.2.2.2.1,m.2.2.2.2.2.2.2.1,m.2.2.2.2.2.2.2.2.1,m.2.2.2.2.2.2.2.2.2] (by simp),Option.bind_some,List.length_append]
 cases msgOk c m
 ·rfl
 cases (m.1==1)
 ·cases (m.1==2)
  ·cases (m.1==3)
   ·simp only[Bool.not_true,cond_true,cond_false]; rw[if_pos (by omega)]
   ·simp only[Bool.not_true,cond_true,cond_false]; rw[if_pos (by omega),if_pos (by omega)]
  ·simp only[Bool.not_true,cond_true,cond_false]; rw[if_pos (by omega),if_pos (by omega),if_pos (by omega),if_pos (by omega)]
 ·simp only[Bool.not_true,cond_true,cond_false]; rw[if_pos (by omega),if_pos (by omega)]
end G448
namespace G448
open Ev Go
theorem shl_nat (b k:Nat) (hb:b<128) (hk:k≤4):shl (b:Int) (7*(k:Int))=((b*128 ^ k:Nat):Int):=by
 unfold shl
 have e:min (7*(k:Int)).toNat 64=7*k:=by omega
 rw[e]
 have e2:(2:Int) ^ (7*k)=((128 ^ k:Nat):Int):=by
  rw[Int.pow_mul]
  simp
 rw[e2,←Int.natCast_mul]
 have:b*128 ^ k≤127*128 ^ 4:=Nat.mul_le_mul (by omega) (Nat.pow_le_pow_right (by decide) hk)
 exact wr_id' (by omega) (by omega)
theorem bor_nat (v b k:Nat) (hv:v<128 ^ k) (hb:b<128) (hk:k≤4):bor (v:Int) ((b*128 ^ k:Nat):Int)=((v+b*128 ^ k:Nat):Int):=by
 have h4:128 ^ k≤128 ^ 4:=Nat.pow_le_pow_right (by decide) hk
 have hbk:b*128 ^ k≤127*128 ^ 4:=Nat.mul_le_mul (by omega) h4
 unfold bor
 have e1:(BitVec.ofInt 64 (v:Int)).toNat=v:=by
  rw[BitVec.toNat_ofInt]; omega
 have e2:(BitVec.ofInt 64 ((b*128 ^ k:Nat):Int)).toNat=b*128 ^ k:=by
  rw[BitVec.toNat_ofInt]; omega
 rw[BitVec.toNat_or,e1,e2]
 have e3:v ||| b*128 ^ k=v+b*128 ^ k:=by
  have:=Nat.two_pow_add_eq_or_of_lt (i:=7*k) (b:=v) (by rw[Nat.pow_mul]; exact hv) b
  rw[Nat.pow_mul,Nat.mul_comm] at this
  rw[Nat.or_comm,←this,Nat.add_comm]
 rw[e3]
 exact wr_id' (by omega) (by omega)
def getGo:List UInt8→Nat→Nat→Nat→Option (Nat×Nat)
 | [],_,_,_=>none
 | b::l,v,k,0=>none
 | b::l,v,k,n+1=>if b.toNat<128 then (if (k>0∧b.toNat=0)∨v+b.toNat*128 ^ k>2147483647 then none else some (v+b.toNat*128 ^ k,k+1)) else getGo l (v+(b.toNat % 128)*128 ^ k) (k+1) n
def getNum (s:List UInt8) (at_:Int):Int×Int×Bool:=
 if at_<0 then (0,0,false) else match getGo (s.drop at_.toNat) 0 0 5 with
  | some p=>((p.1:Int),at_+(p.2:Int),true)
  | none=>(0,0,false)
theorem putN_exact : ∀ (k n:Nat),n<128 ^ (k+1)→((putN n).length=k+1↔(k=0∨128 ^ k≤n))
 | 0,n,h=>by
  rw[putN_small (by simp at h; omega)]; simp
 | k+1,n,h=>by
  by_cases hn:n>127
  ·rw[putN_big hn,List.length_cons]
   have h2:n / 128<128 ^ (k+1):=by rw[Nat.pow_succ] at h; omega
   have ih:=putN_exact k (n / 128) h2
   have hp:128 ^ (k+1)=128 ^ k*128:=Nat.pow_succ ..
   constructor
   ·intro hl
    right
    rcases ih.1 (by omega) with rfl|h3
    ·simp; omega
    ·omega
   ·intro hl
    have h3:128 ^ (k+1)≤n:=by omega
    have:(putN (n / 128)).length=k+1:=ih.2 (by
     cases k with
     | zero=>left; rfl
     | succ k=>right; omega)
    omega
  ·rw[putN_small hn]
   have:128 ^ (k+1)>127:=by
    have:128 ^ 1≤128 ^ (k+1):=Nat.pow_le_pow_right (by decide) (by omega)
    omega
   simp
   omega
theorem getGo_nil (v k n:Nat):getGo [] v k n=none:=by cases n<;>rfl
theorem pow_le4 {k:Nat} (h:k≤4):128 ^ k≤268435456:=by
 have:128 ^ k≤128 ^ 4:=Nat.pow_le_pow_right (by decide) h
 omega
theorem spec_GetNum_eq (s:List UInt8) (at_:Int) (hs:s.length≤137438953472):spec_GetNum (s,at_,())=some ((getNum s at_).1,(getNum s at_).2.1,(getNum s at_).2.2,()):=by
 unfold spec_GetNum getNum
 dsimp only
 by_cases ha:at_<0
 ·rw[if_pos ha]
  refine (walk 5 (fun i (v:Nat)=>((v:Int),i,())) (fun i v=>True) (fun i v=>some (0,0,false,())) (by decide) ?_ ?_ (s0:=0) trivial).trans rfl
  ·intro rec v _; simp
  ·intro rec i v hi _
   left
   simp[ha,show (i:Int)<5 by omega]
 rw[if_neg ha]
 obtain⟨a,rfl⟩ : ∃ a:Nat,at_=(a:Int):=⟨at_.toNat,by omega⟩
 simp only[Int.toNat_natCast,ha,decide_false,cond_false]
 refine (walk 5 (fun i (v:Nat)=>((v:Int),i,())) (fun i v=>v<128 ^ i) (fun i v=>match getGo (s.drop (a+i)) v i (5 - i) with|some p=>some ((p.1:Int),(a:Int)+(p.2:Int),true,())|none=>some (0,0,false,())) (by decide) ?_ ?_ (s0:=0) (by decide)).trans ?_
 ·intro rec v hv
  have:getGo (s.drop (a+5)) v 5 0=none:=by cases s.drop (a+5)<;>rfl
  simp[this]
 ·intro rec i v hi hv
  have hp:=pow_le4 (k:=i) (by omega)
  have e1:wr ((s.length:Int) - (i:Int))=(s.length:Int) - (i:Int):=wr_id' (by omega) (by omega)
  have e5:((i:Int)<5):=by omega
  simp only[e5,decide_true,cond_true,e1]
  by_cases hlt:a+i<s.length
  ·have h1 : ¬ ((a:Int)≥(s.length:Int) - (i:Int)):=by omega
   have e2:wr ((a:Int)+(i:Int))=((a+i:Nat):Int):=by rw[wr_id' (by omega) (by omega)]; omega
   have e3:wr (7*(i:Int))=7*(i:Int):=wr_id' (by omega) (by omega)
   have hx:s[a+i]?=some s[a+i]:=List.getElem?_eq_getElem hlt
   simp only[h1,decide_false,cond_false,e2,e3,Int.toNat_natCast,rd_get (e:=.u8) hx]
   rw[if_pos (by omega),if_neg (by omega),List.drop_eq_getElem_cons hlt,show 5 - i=(5 - (i+1))+1 by omega]
   simp only[getGo]
   have e4:Int.tmod (((s[a+i].toNat:Nat):Int)) 128=((s[a+i].toNat % 128:Nat):Int):=by simp[Int.tmod]
   rw[e4,shl_nat _ i (Nat.mod_lt _ (by decide)) (by omega),bor_nat v _ i hv (Nat.mod_lt _ (by decide)) (by omega)]
   by_cases hb:s[a+i].toNat<128
   ·left
    have hm:s[a+i].toNat % 128=s[a+i].toNat:=Nat.mod_eq_of_lt hb
    have hb':(((s[a+i].toNat:Nat):Int)<128):=by omega
    simp only[hb',decide_true,cond_true,hm,hb,if_true]
    have hbk:s[a+i].toNat*128 ^ i≤127*268435456:=Nat.mul_le_mul (by omega) hp
    have e6:wr (((a+i:Nat):Int)+1)=(a:Int)+((i+1:Nat):Int):=by rw[wr_id' (by omega) (by omega)]; omega
    by_cases hz:i>0
    ·have hz':((i:Int)>0):=by omega
     simp only[hz',decide_true,cond_true]
     by_cases h0:s[a+i].toNat=0
     ·have:(((s[a+i].toNat:Nat):Int)==0)=true:=by simp[h0]
      rw[this,if_pos (.inl ⟨hz,h0⟩)]; rfl
     ·have:(((s[a+i].toNat:Nat):Int)==0)=false:=by rw[beq_eq_false_iff_ne]; omega
      rw[this]
      by_cases hbig:v+s[a+i].toNat*128 ^ i>2147483647
      ·rw[if_pos (.inr hbig)]
       simp only[cond_false,show (((v+s[a+i].toNat*128 ^ i:Nat):Int)>2147483647) by omega,decide_true,cond_true]
      ·rw[if_neg (by intro h; rcases h with h|h; exact h0 h.2; exact hbig h)]
       simp only[cond_false,show ¬ (((v+s[a+i].toNat*128 ^ i:Nat):Int)>2147483647) by omega,decide_false,e6]
    ·have hz' : ¬ ((i:Int)>0):=by omega
     simp only[hz',decide_false,cond_false]
     by_cases hbig:v+s[a+i].toNat*128 ^ i>2147483647
     ·rw[if_pos (.inr hbig)]
      simp only[show (((v+s[a+i].toNat*128 ^ i:Nat):Int)>2147483647) by omega,decide_true,cond_true]
     ·rw[if_neg (by intro h; rcases h with h|h; exact hz h.1; exact hbig h)]
      simp only[show ¬ (((v+s[a+i].toNat*128 ^ i:Nat):Int)>2147483647) by omega,decide_false,cond_false,e6]
   ·right
    have hb' : ¬ (((s[a+i].toNat:Nat):Int)<128):=by omega
    refine⟨v+s[a+i].toNat % 128*128 ^ i,?_,?_,?_⟩
    ·rw[Nat.pow_succ]
     have:s[a+i].toNat % 128*128 ^ i≤127*128 ^ i:=Nat.mul_le_mul (by omega) (Nat.le_refl _)
     omega
    ·simp only[hb',decide_false,cond_false,wr_nat (show i<4611686018427387904 by omega)]
    ·simp only[hb,if_false]
     rw[show a+(i+1)=a+i+1 by omega]
  ·left
   have h1:((a:Int)≥(s.length:Int) - (i:Int)):=by omega
   rw[List.drop_eq_nil_of_le (by omega),getGo_nil]
   simp only[h1,decide_true,cond_true]
 ·simp only[Nat.add_zero,Nat.sub_zero]
  cases getGo (s.drop a) 0 0 5<;>rfl
theorem put_len_iff (v b i:Nat) (hv:v<128 ^ i) (hb:b<128) (hi:i≤4):(putNum ((v+b*128 ^ i:Nat):Int)).length=i+1 ↔ ¬ ((i>0∧b=0)∨v+b*128 ^ i>2147483647):=by
 have hp:=pow_le4 hi
 have hlt:v+b*128 ^ i<128 ^ (i+1):=by
  rw[Nat.pow_succ]
  have:b*128 ^ i≤127*128 ^ i:=Nat.mul_le_mul (by omega) (Nat.le_refl _)
  omega
 unfold putNum
 by_cases hbig:v+b*128 ^ i>2147483647
 ·rw[if_neg (by omega)]
  simp[hbig]
 ·rw[if_pos (by omega),Int.toNat_natCast,putN_exact i _ hlt]
  cases i with
  | zero=>simp; omega
  | succ i=>
   constructor
   ·rintro (h|h) (h'|h')
    ·omega
    ·omega
    ·rw[h'.2] at h; omega
    ·omega
   ·intro h
    right
    have h0:b≠0:=fun e=>h (.inl ⟨by omega,e⟩)
    have:1*128 ^ (i+1)≤b*128 ^ (i+1):=Nat.mul_le_mul (by omega) (Nat.le_refl _)
    omega
theorem impl_GetNum_eq (s:List UInt8) (at_:Int) (hs:s.length≤137438953472):impl_GetNum (s,at_,())=some ((getNum s at_).1,(getNum s at_).2.1,(getNum s at_).2.2,()):=by
 unfold impl_GetNum getNum
 have e0:wr ((s.length:Int) - 1)=(s.length:Int) - 1:=wr_id' (by omega) (by omega)
 simp only[impl_in_eq,Option.bind_some,e0]
 by_cases ha:at_<0
 ·rw[if_pos ha]
  have:(decide (at_≥0) && decide (at_≤(s.length:Int) - 1))=false:=by simp; omega
  rw[this]; rfl
 rw[if_neg ha]
 obtain⟨a,rfl⟩ : ∃ a:Nat,at_=(a:Int):=⟨at_.toNat,by omega⟩
 simp only[Int.toNat_natCast]
 by_cases hal:a<s.length
 ·have:(decide ((a:Int)≥0) && decide ((a:Int)≤(s.length:Int) - 1))=true:=by simp; omega
  simp only[this,Bool.not_true,cond_false]
  refine (walk 5 (fun i (v:Nat)=>((v:Int),i,())) (fun i v=>v<128 ^ i) (fun i v=>match getGo (s.drop (a+i)) v i (5 - i) with|some p=>some ((p.1:Int),(a:Int)+(p.2:Int),true,())|none=>some (0,0,false,())) (by decide) ?_ ?_ (s0:=0) (by decide)).trans ?_
  ·intro rec v hv
   have:getGo (s.drop (a+5)) v 5 0=none:=by cases s.drop (a+5)<;>rfl
   simp[this]
  ·intro rec i v hi hv
   have hp:=pow_le4 (k:=i) (by omega)
   have e5:((i:Int)<5):=by omega
   have e2:wr ((a:Int)+(i:Int))=((a+i:Nat):Int):=by rw[wr_id' (by omega) (by omega)]; omega
   simp only[e5,decide_true,cond_true,e2]
   by_cases hlt:a+i<s.length
   ·have h1:(((a+i:Nat):Int)<(s.length:Int)):=by omega
    have e3:wr (7*(i:Int))=7*(i:Int):=wr_id' (by omega) (by omega)
    have hx:s[a+i]?=some s[a+i]:=List.getElem?_eq_getElem hlt
    simp only[h1,decide_true,cond_true,e3,Int.toNat_natCast,rd_get (e:=.u8) hx]
    rw[if_pos ⟨by omega,trivial⟩,if_neg (by omega),List.drop_eq_getElem_cons hlt,show 5 - i=(5 - (i+1))+1 by omega]
    simp only[getGo]
    have e4:Int.tmod (((s[a+i].toNat:Nat):Int)) 128=((s[a+i].toNat % 128:Nat):Int):=by simp[Int.tmod]
    have hmb:s[a+i].toNat % 128*128 ^ i≤127*268435456:=Nat.mul_le_mul (by omega) hp
    have e7:wr ((v:Int)+((s[a+i].toNat % 128*128 ^ i:Nat):Int))=((v+s[a+i].toNat % 128*128 ^ i:Nat):Int):=by rw[wr_id' (by omega) (by omega)]; omega
    rw[e4,shl_nat _ i (Nat.mod_lt _ (by decide)) (by omega),e7]
    by_cases hb:s[a+i].toNat<128
    ·left
     have hm:s[a+i].toNat % 128=s[a+i].toNat:=Nat.mod_eq_of_lt hb
     have hb':(((s[a+i].toNat:Nat):Int)<128):=by omega
     have e6:wr (((a+i:Nat):Int)+1)=(a:Int)+((i+1:Nat):Int):=by rw[wr_id' (by omega) (by omega)]; omega
     have e8:wr ((i:Int)+1)=((i+1:Nat):Int):=by rw[wr_id' (by omega) (by omega)]; omega
     simp only[hb',decide_true,cond_true,hm,hb,if_true,impl_PutNum_eq,Option.bind_some,e8,e6]
     by_cases hg:(putNum ((v+s[a+i].toNat*128 ^ i:Nat):Int)).length=i+1
     ·rw[if_neg ((put_len_iff v _ i hv hb (by omega)).1 hg)]
      have:(((putNum ((v+s[a+i].toNat*128 ^ i:Nat):Int)).length:Int) != ((i+1:Nat):Int))=false:=by rw[hg]; simp
      rw[this]; rfl
     ·rw[if_pos (Classical.not_not.1 (fun h=>hg ((put_len_iff v _ i hv hb (by omega)).2 h)))]
      have:(((putNum ((v+s[a+i].toNat*128 ^ i:Nat):Int)).length:Int) != ((i+1:Nat):Int))=true:=by rw[bne_iff_ne]; omega
      rw[this]; rfl
    ·right
     have hb' : ¬ (((s[a+i].toNat:Nat):Int)<128):=by omega
     refine⟨v+s[a+i].toNat % 128*128 ^ i,?_,?_,?_⟩
     ·rw[Nat.pow_succ]
      have:s[a+i].toNat % 128*128 ^ i≤127*128 ^ i:=Nat.mul_le_mul (by omega) (Nat.le_refl _)
      omega
     ·simp only[hb',decide_false,cond_false,wr_nat (show i<4611686018427387904 by omega)]
     ·simp only[hb,if_false]
      rw[show a+(i+1)=a+i+1 by omega]
   ·left
    have h1 : ¬ (((a+i:Nat):Int)<(s.length:Int)):=by omega
    rw[List.drop_eq_nil_of_le (by omega),getGo_nil]
    simp only[h1,decide_false,cond_false]
  ·simp only[Nat.add_zero,Nat.sub_zero]
   cases getGo (s.drop a) 0 0 5<;>rfl
 ·have:(decide ((a:Int)≥0) && decide ((a:Int)≤(s.length:Int) - 1))=false:=by simp; omega
  rw[this,List.drop_eq_nil_of_le (by omega),getGo_nil]; rfl
end G448
namespace G448
open Ev Go
abbrev RSt:=Int×Bool
def rdNum (s:List UInt8) (r:RSt):RSt×Int:=
 if (getNum s r.1).2.2=true∧r.2=true then (((getNum s r.1).2.1,true),(getNum s r.1).1) else ((r.1,false),0)
def getText (s:List UInt8) (at_:Int):List UInt8×Int×Bool:=
 if (getNum s at_).2.2=true∧(getNum s at_).1≤(s.length:Int) - (getNum s at_).2.1 then
  ((s.drop (getNum s at_).2.1.toNat).take (getNum s at_).1.toNat,(getNum s at_).2.1+(getNum s at_).1,true) else ([],0,false)
def rdText (s:List UInt8) (r:RSt):RSt×List UInt8:=
 if (getText s r.1).2.2=true∧r.2=true then (((getText s r.1).2.1,true),(getText s r.1).1) else ((r.1,false),[])
theorem getGo_some : ∀ (l:List UInt8) (v k n:Nat) {p:Nat×Nat},getGo l v k n=some p→p.1≤2147483647∧k+1≤p.2∧p.2≤k+l.length
 | [],v,k,n,p,h=>by rw[getGo_nil] at h; cases h
 | b::l,v,k,0,p,h=>by cases h
 | b::l,v,k,n+1,p,h=>by
  simp only[getGo] at h
  split at h
  ·split at h
   ·cases h
   ·next hc=>
    cases h
    simp only[List.length_cons]
    have : ¬ v+b.toNat*128 ^ k>2147483647:=fun hh=>hc (.inr hh)
    omega
  ·have:=getGo_some l _ _ n h
   simp only[List.length_cons]
   omega
theorem getNum_ok (s:List UInt8) (at_:Int) (h:(getNum s at_).2.2=true):0≤at_∧0≤(getNum s at_).1∧(getNum s at_).1≤2147483647∧at_+1≤(getNum s at_).2.1∧(getNum s at_).2.1≤(s.length:Int):=by
 unfold getNum at h ⊢
 split at h
 ·simp at h
 ·next ha=>
  rw[if_neg ha]
  cases hg:getGo (s.drop at_.toNat) 0 0 5 with
  | none=>rw[hg] at h; simp at h
  | some p=>
   have:=getGo_some _ _ _ _ hg
   simp only[List.length_drop] at this ⊢
   omega
theorem spec_l12Num_eq (s:List UInt8) (r:RSt) (hs:s.length≤137438953472):spec_l12Num ((s,r),())=some ((s,(rdNum s r).1),(rdNum s r).2,()):=by
 unfold spec_l12Num rdNum
 simp only[spec_GetNum_eq s r.1 hs,Option.bind_some]
 cases hg:(getNum s r.1).2.2<;>cases hr:r.2<;>simp
theorem impl_reader_num_eq (s:List UInt8) (r:RSt) (hs:s.length≤137438953472):impl_reader_num ((s,(r.1,!r.2)),())=some ((s,((rdNum s r).1.1,!(rdNum s r).1.2)),(rdNum s r).2,()):=by
 unfold impl_reader_num rdNum
 simp only[impl_GetNum_eq s r.1 hs,Option.bind_some]
 cases hg:(getNum s r.1).2.2<;>cases hr:r.2<;>simp
theorem text_cut (s:List UInt8) (n at_:Int) (h1:0≤n) (h2:0≤at_):List.take ((at_+n).toNat - at_.toNat) (List.drop at_.toNat s)=(s.drop at_.toNat).take n.toNat:=by
 congr 1; omega
theorem spec_GetText_eq (s:List UInt8) (at_:Int) (hs:s.length≤137438953472):spec_GetText (s,at_,())=some ((getText s at_).1,(getText s at_).2.1,(getText s at_).2.2,()):=by
 unfold spec_GetText getText
 simp only[spec_GetNum_eq s at_ hs,Option.bind_some]
 cases hg:(getNum s at_).2.2
 ·simp
 ·obtain⟨h0,h1,h2,h3,h4⟩:=getNum_ok s at_ hg
  have e1:wr ((s.length:Int) - (getNum s at_).2.1)=(s.length:Int) - (getNum s at_).2.1:=wr_id' (by omega) (by omega)
  have e2:wr ((getNum s at_).2.1+(getNum s at_).1)=(getNum s at_).2.1+(getNum s at_).1:=wr_id' (by omega) (by omega)
  simp only[e1,e2,Bool.not_true,cond_false]
  by_cases hc:(getNum s at_).1≤(s.length:Int) - (getNum s at_).2.1
  ·rw[if_pos (show True∧(getNum s at_).1≤(s.length:Int) - (getNum s at_).2.1 from⟨trivial,hc⟩)]
   simp only[show ¬ (getNum s at_).1>(s.length:Int) - (getNum s at_).2.1 by omega,decide_false,cond_false]
   rw[if_pos (by omega),text_cut _ _ _ h1 (by omega)]
  ·rw[if_neg (show ¬ (True∧(getNum s at_).1≤(s.length:Int) - (getNum s at_).2.1) from fun h=>hc h.2)]
   simp only[show (getNum s at_).1>(s.length:Int) - (getNum s at_).2.1 by omega,decide_true,cond_true]
theorem impl_GetText_eq (s:List UInt8) (at_:Int) (hs:s.length≤137438953472):impl_GetText (s,at_,())=some ((getText s at_).1,(getText s at_).2.1,(getText s at_).2.2,()):=by
 unfold impl_GetText getText
 simp only[impl_GetNum_eq s at_ hs,Option.bind_some]
 cases hg:(getNum s at_).2.2
 ·simp
 ·obtain⟨h0,h1,h2,h3,h4⟩:=getNum_ok s at_ hg
  have e1:wr ((s.length:Int) - (getNum s at_).2.1)=(s.length:Int) - (getNum s at_).2.1:=wr_id' (by omega) (by omega)
  have e2:wr ((getNum s at_).2.1+(getNum s at_).1)=(getNum s at_).2.1+(getNum s at_).1:=wr_id' (by omega) (by omega)
  simp only[e1,e2,Bool.not_true,cond_false]
  by_cases hc:(getNum s at_).1≤(s.length:Int) - (getNum s at_).2.1
  ·rw[if_pos (show True∧(getNum s at_).1≤(s.length:Int) - (getNum s at_).2.1 from⟨trivial,hc⟩)]
   simp only[show ¬ (getNum s at_).1>(s.length:Int) - (getNum s at_).2.1 by omega,decide_false,cond_false]
   rw[if_pos (by omega),text_cut _ _ _ h1 (by omega)]
  ·rw[if_neg (show ¬ (True∧(getNum s at_).1≤(s.length:Int) - (getNum s at_).2.1) from fun h=>hc h.2)]
   simp only[show (getNum s at_).1>(s.length:Int) - (getNum s at_).2.1 by omega,decide_true,cond_true]
theorem spec_l12Text_eq (s:List UInt8) (r:RSt) (hs:s.length≤137438953472):spec_l12Text ((s,r),())=some ((s,(rdText s r).1),(rdText s r).2,()):=by
 unfold spec_l12Text rdText
 simp only[spec_GetText_eq s r.1 hs,Option.bind_some]
 cases hg:(getText s r.1).2.2<;>cases hr:r.2<;>simp
theorem impl_reader_text_eq (s:List UInt8) (r:RSt) (hs:s.length≤137438953472):impl_reader_text ((s,(r.1,!r.2)),())=some ((s,((rdText s r).1.1,!(rdText s r).1.2)),(rdText s r).2,()):=by
 unfold impl_reader_text rdText
 simp only[impl_GetText_eq s r.1 hs,Option.bind_some]
 cases hg:(getText s r.1).2.2<;>cases hr:r.2<;>simp
def whoGo (s:List UInt8):Nat→RSt→List Int→RSt×List Int
 | 0,r,out=>(r,out)
 | n+1,r,out=>if r.2=true then whoGo s n (rdNum s r).1 (out++[(rdNum s r).2]) else (r,out)
def rdWho (s:List UInt8) (r:RSt):RSt×List Int:=whoGo s (rdNum s r).2.toNat (rdNum s r).1 []
theorem rdNum_b (s:List UInt8) (r:RSt):0≤(rdNum s r).2∧(rdNum s r).2≤2147483647:=by
 unfold rdNum
 split
 ·next h=>have:=getNum_ok s r.1 h.1; simp only; omega
 ·simp
theorem spec_l12Who_eq (s:List UInt8) (r:RSt) (hs:s.length≤137438953472):spec_l12Who ((s,r),())=some ((s,(rdWho s r).1),(rdWho s r).2,()):=by
 obtain⟨b1,b2⟩:=rdNum_b s r
 unfold spec_l12Who rdWho
 dsimp only
 rw[spec_l12Num_eq s r hs,Option.bind_some]
 dsimp only
 generalize hn:(rdNum s r).2=n at *
 obtain⟨n,rfl⟩ : ∃ m:Nat,n=(m:Int):=⟨n.toNat,by omega⟩
 simp only[Int.toNat_natCast]
 refine (walk n (fun i (t:List Int×RSt)=>(t.1,i,(s,t.2),())) (fun i t=>t.1.length≤i) (fun i t=>some ((s,(whoGo s (n - i) t.2 t.1).1),(whoGo s (n - i) t.2 t.1).2,())) (by omega) ?_ ?_ (s0:=([],(rdNum s r).1)) (by simp)).trans (by simp)
 ·intro rec t ht
  simp[whoGo]
 ·intro rec i t hi ht
  rw[show n - i=(n - (i+1))+1 by omega]
  simp only[whoGo,show ((i:Int)<(n:Int)) by omega,decide_true,cond_true]
  cases hr:t.2.2
  ·left
   simp
  ·right
   refine⟨(t.1++[(rdNum s t.2).2],(rdNum s t.2).1),by simp; omega,?_,by simp⟩
   simp only[cond_true]
   simp only[spec_l12Num_eq s t.2 hs,Option.bind_some,List.length_cons,List.length_nil,wr_nat (show i<4611686018427387904 by omega)]
   rw[if_pos (by omega)]
theorem impl_reader_nums_eq (s:List UInt8) (r:RSt) (hs:s.length≤137438953472):impl_reader_nums ((s,(r.1,!r.2)),())=some ((s,((rdWho s r).1.1,!(rdWho s r).1.2)),(rdWho s r).2,()):=by
 obtain⟨b1,b2⟩:=rdNum_b s r
 unfold impl_reader_nums rdWho
 dsimp only
 rw[impl_reader_num_eq s r hs,Option.bind_some]
 dsimp only
 generalize hn:(rdNum s r).2=n at *
 obtain⟨n,rfl⟩ : ∃ m:Nat,n=(m:Int):=⟨n.toNat,by omega⟩
 simp only[Int.toNat_natCast]
 refine (walk n (fun i (t:List Int×RSt)=>(t.1,i,(s,(t.2.1,!t.2.2)),())) (fun i t=>t.1.length≤i) (fun i t=>some ((s,((whoGo s (n - i) t.2 t.1).1.1,!(whoGo s (n - i) t.2 t.1).1.2)),(whoGo s (n - i) t.2 t.1).2,())) (by omega) ?_ ?_ (s0:=([],(rdNum s r).1)) (by simp)).trans (by simp)
 ·intro rec t ht
  simp[whoGo]
 ·intro rec i t hi ht
  rw[show n - i=(n - (i+1))+1 by omega]
  simp only[whoGo,show ((i:Int)<(n:Int)) by omega,decide_true,cond_true]
  have hnum:=impl_reader_num_eq s t.2 hs
  cases hr:t.2.2
  ·left
   simp[hr]
  ·right
   rw[hr] at hnum
   refine⟨(t.1++[(rdNum s t.2).2],(rdNum s t.2).1),by simp; omega,?_,by simp⟩
   simp only[Bool.not_true,Bool.not_false,cond_true] at hnum ⊢
   rw[hnum,Option.bind_some]
   simp only[List.length_cons,List.length_nil,wr_nat (show i<4611686018427387904 by omega)]
   rw[if_pos (by omega)]
end G448
namespace G448
open Ev Go
def rdQc (s:List UInt8) (r:RSt):RSt×TQc:=
 ((rdWho s (rdText s (rdNum s r).1).1).1,((rdNum s r).2,(rdText s (rdNum s r).1).2,(rdWho s (rdText s (rdNum s r).1).1).2))
theorem spec_l12Qc_eq (s:List UInt8) (r:RSt) (hs:s.length≤137438953472):spec_l12Qc ((s,r),())=some ((s,(rdQc s r).1),(rdQc s r).2,()):=by
 unfold spec_l12Qc
 dsimp only
 rw[spec_l12Num_eq s r hs,Option.bind_some]
 dsimp only
 rw[spec_l12Text_eq s _ hs,Option.bind_some]
 dsimp only
 rw[spec_l12Who_eq s _ hs,Option.bind_some]
 rfl
theorem impl_reader_qc_eq (s:List UInt8) (r:RSt) (hs:s.length≤137438953472):impl_reader_qc ((s,(r.1,!r.2)),())=some ((s,((rdQc s r).1.1,!(rdQc s r).1.2)),(rdQc s r).2,()):=by
 unfold impl_reader_qc
 dsimp only
 rw[impl_reader_num_eq s r hs,Option.bind_some]
 dsimp only
 rw[impl_reader_text_eq s _ hs,Option.bind_some]
 dsimp only
 rw[impl_reader_nums_eq s _ hs,Option.bind_some]
 rfl
theorem rdNum_ok {s:List UInt8} {r:RSt} (h:(rdNum s r).1.2=true):r.2=true∧0≤r.1∧r.1+1≤(rdNum s r).1.1∧(rdNum s r).1.1≤(s.length:Int):=by
 unfold rdNum at h ⊢
 split at h
 ·next hc=>
  rw[if_pos hc]
  have:=getNum_ok s r.1 hc.1
  exact⟨hc.2,this.1,this.2.2.2.1,this.2.2.2.2⟩
 ·simp at h
theorem rdText_ok {s:List UInt8} {r:RSt} (h:(rdText s r).1.2=true):r.2=true∧0≤r.1∧r.1+1+((rdText s r).2.length:Int)≤(rdText s r).1.1∧(rdText s r).1.1≤(s.length:Int):=by
 unfold rdText at h ⊢
 split at h
 ·next hc=>
  rw[if_pos hc]
  obtain⟨h1,h2⟩:=hc
  refine⟨h2,?_⟩
  unfold getText at h1 ⊢
  split at h1
  ·next hg=>
   rw[if_pos hg]
   have:=getNum_ok s r.1 hg.1
   simp only[List.length_take,List.length_drop]
   omega
  ·simp at h1
 ·simp at h
theorem whoGo_ok (s:List UInt8) : ∀ (n:Nat) (r:RSt) (out:List Int),(whoGo s n r out).1.2=true→r.2=true∧r.1+((whoGo s n r out).2.length:Int)≤(whoGo s n r out).1.1+(out.length:Int)∧out.length≤(whoGo s n r out).2.length ∧
  ((whoGo s n r out).1.1≤(s.length:Int)∨whoGo s n r out=(r,out))
 | 0,r,out,h=>⟨h,by simp[whoGo],by simp[whoGo],.inr rfl⟩
 | n+1,r,out,h=>by
  simp only[whoGo] at h ⊢
  split at h
  ·next hr=>
   rw[if_pos hr]
   obtain⟨h1,h2,h3,h4⟩:=whoGo_ok s n _ _ h
   obtain⟨g1,g2,g3,g4⟩:=rdNum_ok h1
   simp only[List.length_append,List.length_cons,List.length_nil] at h2 h3
   refine⟨hr,by omega,by omega,.inl ?_⟩
   rcases h4 with h4|h4
   ·exact h4
   ·rw[h4]; exact g4
  ·next hr=>exact absurd h hr
theorem rdWho_ok {s:List UInt8} {r:RSt} (h:(rdWho s r).1.2=true):r.2=true∧0≤r.1∧r.1+1+((rdWho s r).2.length:Int)≤(rdWho s r).1.1∧(rdWho s r).1.1≤(s.length:Int):=by
 unfold rdWho at h ⊢
 obtain⟨h1,h2,h3,h4⟩:=whoGo_ok s _ _ _ h
 obtain⟨g1,g2,g3,g4⟩:=rdNum_ok h1
 simp only[List.length_nil] at h2
 refine⟨g1,g2,by omega,?_⟩
 rcases h4 with h4|h4
 ·exact h4
 ·rw[h4]; exact g4
theorem rdQc_ok {s:List UInt8} {r:RSt} (h:(rdQc s r).1.2=true):r.2=true∧0≤r.1∧r.1+(wQc (rdQc s r).2:Int)≤(rdQc s r).1.1∧(rdQc s r).1.1≤(s.length:Int):=by
 unfold rdQc at h ⊢
 obtain⟨a1,a2,a3,a4⟩:=rdWho_ok h
 obtain⟨b1,b2,b3,b4⟩:=rdText_ok a1
 obtain⟨c1,c2,c3,c4⟩:=rdNum_ok b1
 simp only[wQc,wIntS]
 exact⟨c1,c2,by omega,a4⟩
def zMsg:TMsg:=(0,0,([],0,[],[]),(0,[],[]),(0,[],[]),0,(0,0,0,0))
noncomputable def finM (c:TConf) (s:List UInt8) (r:RSt) (m:TMsg):TMsg×Bool:=bif r.2 && (r.1==(s.length:Int) && msgOk c m) then (m,true) else (zMsg,false)
theorem spec_fin (c:TConf) (s:List UInt8) (r:RSt) (m:TMsg) (hw:r.2=true→r.1=(s.length:Int)→wMsg m≤1073741824) :
  (bif !r.2 then some (zMsg,false,()) else bif (r.1 != (s.length:Int)) then some (zMsg,false,()) else (spec_MsgOk (c,m,())).bind fun r3=>bif !r3.1 then some (zMsg,false,()) else some (m,true,()))=some ((finM c s r m).1,(finM c s r m).2,()):=by
 unfold finM
 cases hr:r.2
 ·rfl
 ·by_cases hl:r.1=(s.length:Int)
  ·have e:(r.1 != (s.length:Int))=false:=by simp[hl]
   have e':(r.1==(s.length:Int))=true:=by simp[hl]
   rw[e,e',spec_MsgOk_eq c m (by have:=hw hr hl; omega)]
   cases h:msgOk c m<;>simp[h]
  ·have e:(r.1 != (s.length:Int))=true:=by simp[hl]
   have e':(r.1==(s.length:Int))=false:=by simp[hl]
   rw[e,e']; rfl
theorem impl_fin (c:TConf) (s:List UInt8) (r:RSt) (m:TMsg) (hw:r.2=true→r.1=(s.length:Int)→wMsg m≤1073741824) :
  (bif !r.2 then some (zMsg,false,()) else bif (r.1 != (s.length:Int)) then some (zMsg,false,()) else (impl_MsgOk (c,m,())).bind fun r3=>bif !r3.1 then some (zMsg,false,()) else some (m,true,()))=some ((finM c s r m).1,(finM c s r m).2,()):=by
 unfold finM
 cases hr:r.2
 ·rfl
 ·by_cases hl:r.1=(s.length:Int)
  ·have e:(r.1 != (s.length:Int))=false:=by simp[hl]
   have e':(r.1==(s.length:Int))=true:=by simp[hl]
   rw[e,e',impl_MsgOk_eq c m (hw hr hl)]
   cases h:msgOk c m<;>simp[h]
  ·have e:(r.1 != (s.length:Int))=true:=by simp[hl]
   have e':(r.1==(s.length:Int))=false:=by simp[hl]
   rw[e,e']; rfl
noncomputable def msgOf (c:TConf) (s:List UInt8):TMsg×Bool:=
 let a:=rdNum s (0,true)
 bif (a.2==1) then finM c s (rdQc s (rdText s a.1).1).1 (a.2,0,((rdText s a.1).2,(rdQc s (rdText s a.1).1).2),(0,[],[]),(0,[],[]),0,(0,0,0,0)) else
 bif (a.2==2) then finM c s (rdWho s (rdText s (rdNum s a.1).1).1).1 (a.2,0,([],0,[],[]),((rdNum s a.1).2,(rdText s (rdNum s a.1).1).2,(rdWho s (rdText s (rdNum s a.1).1).1).2),(0,[],[]),0,(0,0,0,0)) else
 bif (a.2==3) then finM c s (rdQc s (rdNum s (rdNum s a.1).1).1).1 (a.2,(rdNum s a.1).2,([],0,[],[]),(0,[],[]),(rdQc s (rdNum s (rdNum s a.1).1).1).2,(rdNum s (rdNum s a.1).1).2,(0,0,0,0)) else
 bif (a.2==4) then finM c s (rdNum s (rdNum s (rdNum s (rdNum s a.1).1).1).1).1 (a.2,0,([],0,[],[]),(0,[],[]),(0,[],[]),0,((rdNum s a.1).2,(rdNum s (rdNum s a.1).1).2,(rdNum s (rdNum s (rdNum s a.1).1).1).2,(rdNum s (rdNum s (rdNum s (rdNum s a.1).1).1).1).2)) else
 finM c s a.1 (a.2,0,([],0,[],[]),(0,[],[]),(0,[],[]),0,(0,0,0,0))
theorem w1 (s:List UInt8) (a:RSt) (k:Int) (hs:s.length≤1073741824) (h:(rdQc s (rdText s a).1).1.2=true):wMsg (k,0,((rdText s a).2,(rdQc s (rdText s a).1).2),(0,[],[]),(0,[],[]),0,(0,0,0,0))≤1073741824:=by
 obtain⟨h1,h2,h3,h4⟩:=rdQc_ok h
 obtain⟨g1,g2,g3,g4⟩:=rdText_ok h1
 simp only[wMsg,wBlock,wPart,wQc,wIntS,List.length_nil] at h3 ⊢
 omega
theorem w2 (s:List UInt8) (a:RSt) (k x:Int) (hs:s.length≤1073741824) (h:(rdWho s (rdText s a).1).1.2=true):wMsg (k,0,([],0,[],[]),(x,(rdText s a).2,(rdWho s (rdText s a).1).2),(0,[],[]),0,(0,0,0,0))≤1073741824:=by
 obtain⟨h1,h2,h3,h4⟩:=rdWho_ok h
 obtain⟨g1,g2,g3,g4⟩:=rdText_ok h1
 simp only[wMsg,wBlock,wPart,wQc,wIntS,List.length_nil]
 omega
theorem w3 (s:List UInt8) (a:RSt) (k x y:Int) (hs:s.length≤1073741824) (h:(rdQc s a).1.2=true):wMsg (k,x,([],0,[],[]),(0,[],[]),(rdQc s a).2,y,(0,0,0,0))≤1073741824:=by
 obtain⟨h1,h2,h3,h4⟩:=rdQc_ok h
 simp only[wMsg,wBlock,wPart,wQc,wIntS,List.length_nil] at h3 ⊢
 omega
theorem w4 (k:Int) (t:TTx):wMsg (k,0,([],0,[],[]),(0,[],[]),(0,[],[]),0,t)≤1073741824:=by
 simp[wMsg,wBlock,wPart,wQc,wIntS]
theorem spec_MsgOf_eq (c:TConf) (s:List UInt8) (hs:s.length≤1073741824):spec_MsgOf (c,s,())=some ((msgOf c s).1,(msgOf c s).2,()):=by
 have hl:s.length≤137438953472:=by omega
 unfold spec_MsgOf msgOf
 simp only[spec_l12Num_eq s _ hl,spec_l12Text_eq s _ hl,spec_l12Who_eq s _ hl,spec_l12Qc_eq s _ hl,Option.bind_some]
 cases ((rdNum s (0,true)).2==1)
 ·cases ((rdNum s (0,true)).2==2)
  ·cases ((rdNum s (0,true)).2==3)
   ·cases ((rdNum s (0,true)).2==4)
    ·exact spec_fin c s _ _ (fun _ _=>w4 _ _)
    ·exact spec_fin c s _ _ (fun _ _=>w4 _ _)
   ·exact spec_fin c s _ _ (fun h _=>w3 s _ _ _ _ hs h)
  ·exact spec_fin c s _ _ (fun h _=>w2 s _ _ _ hs h)
 ·exact spec_fin c s _ _ (fun h _=>w1 s _ _ hs h)
theorem impl_MsgOf_eq (c:TConf) (s:List UInt8) (hs:s.length≤1073741824):impl_MsgOf (c,s,())=some ((msgOf c s).1,(msgOf c s).2,()):=by
 have hl:s.length≤137438953472:=by omega
 have e0:impl_reader_num ((s,(0,false)),())=some ((s,((rdNum s (0,true)).1.1,!(rdNum s (0,true)).1.2)),(rdNum s (0,true)).2,()):=impl_reader_num_eq s (0,true) hl
 unfold impl_MsgOf msgOf
 simp only[e0,impl_reader_num_eq s _ hl,impl_reader_text_eq s _ hl,impl_reader_nums_eq s _ hl,impl_reader_qc_eq s _ hl,Option.bind_some]
 cases ((rdNum s (0,true)).2==1)
 ·cases ((rdNum s (0,true)).2==2)
  ·cases ((rdNum s (0,true)).2==3)
   ·cases ((rdNum s (0,true)).2==4)
    ·exact impl_fin c s _ _ (fun _ _=>w4 _ _)
    ·exact impl_fin c s _ _ (fun _ _=>w4 _ _)
   ·exact impl_fin c s _ _ (fun h _=>w3 s _ _ _ _ hs h)
  ·exact impl_fin c s _ _ (fun h _=>w2 s _ _ _ hs h)
 ·exact impl_fin c s _ _ (fun h _=>w1 s _ _ hs h)
theorem finM_w (c:TConf) (s:List UInt8) (r:RSt) (m:TMsg) (hw:r.2=true→wMsg m≤1073741824):wMsg (finM c s r m).1≤1073741824:=by
 unfold finM
 cases hr:r.2
 ·simp[zMsg,wMsg,wBlock,wPart,wQc,wIntS]
 ·cases (r.1==(s.length:Int) && msgOk c m)
  ·simp[zMsg,wMsg,wBlock,wPart,wQc,wIntS]
  ·exact hw hr
theorem msgOf_w (c:TConf) (s:List UInt8) (hs:s.length≤1073741824):wMsg (msgOf c s).1≤1073741824:=by
 unfold msgOf
 dsimp only
 cases ((rdNum s (0,true)).2==1)
 ·cases ((rdNum s (0,true)).2==2)
  ·cases ((rdNum s (0,true)).2==3)
   ·cases ((rdNum s (0,true)).2==4)
    ·exact finM_w c s _ _ (fun _=>w4 _ _)
    ·exact finM_w c s _ _ (fun _=>w4 _ _)
   ·exact finM_w c s _ _ (fun h=>w3 s _ _ _ _ hs h)
  ·exact finM_w c s _ _ (fun h=>w2 s _ _ _ hs h)
 ·exact finM_w c s _ _ (fun h=>w1 s _ _ hs h)
end G448
namespace G448
open Ev Go
end G448
namespace G448
open Ev Go
end G448
namespace G448
open Ev Go
def WB (N:Nat) (w:TWorld):Prop:=
 (w.2.1.length≤137438953472∧w.2.2.1.length≤137438953472∧w.2.2.2.1.length≤137438953472∧w.2.2.2.2.length≤137438953472)∧(∀ r∈w.2.2.1,wRep r≤N)∧(∀ x∈w.2.2.2.1,x.2.length≤1073741824)∧(∀ s∈w.2.2.2.2,s.2.1.length≤N)
theorem WB.of {w:TWorld} {N:Nat} (h:wWorld w≤N) (hN:N≤1073741824):WB N w:=by
 simp only[wWorld,wIntS,wRepS,wWireS,wSaidS] at h
 refine⟨⟨by omega,by omega,by omega,by omega⟩,fun r hr => ?_,fun x hx => ?_,fun s hs => ?_⟩
 ·have:=sum_mem wRep hr; omega
 ·have:=sum_mem wWire hx; simp only[wWire,wByteS] at this; omega
 ·have:=sum_mem wSaid hs; simp only[wSaid] at this; omega
theorem ne_not (a b:Int):(a != b) = !(a==b):=rfl
theorem WB.mono {w:TWorld} {N M:Nat} (h:WB N w) (hm:N≤M):WB M w:=⟨h.1,fun r hr=>Nat.le_trans (h.2.1 r hr) hm,h.2.2.1,fun s hs=>Nat.le_trans (h.2.2.2 s hs) hm⟩
end G448
namespace G448
open Ev Go
def firstAt {α:Type} (q:α→Bool):Nat→List α→Nat
 | i,[]=>i
 | i,x::l=>bif q x then i else firstAt q (i+1) l
theorem firstAt_le {α:Type} (q:α→Bool) : ∀ (l:List α) (i:Nat),i≤firstAt q i l∧firstAt q i l≤i+l.length
 | [],i=>by simp[firstAt]
 | x::l,i=>by
  have:=firstAt_le q l (i+1)
  simp only[firstAt,List.length_cons]
  cases q x<;>simp only[cond_true,cond_false]<;>omega
end G448
namespace G448
open Ev Go
def txsTail (l:TTxS):List UInt8:=(l.map fun x=>44::txText x).flatten
def txsBody:TTxS→List UInt8
 | []=>[]
 | x::r=>txText x++txsTail r
def txsText (l:TTxS):List UInt8:=bif l.all txOk then txsBody l else []
def tailAt (i:Nat) (l:TTxS):List UInt8:=if i=0 then txsBody l else txsTail l
theorem txsTail_len : ∀ l:TTxS,(txsTail l).length≤28*l.length
 | []=>by simp[txsTail]
 | x::l=>by
  have h1:=txText_len x
  have h2:=txsTail_len l
  simp only[txsTail,List.map_cons,List.flatten_cons,List.length_append,List.length_cons] at *
  omega
theorem txsText_len (l:TTxS):(txsText l).length≤28*l.length:=by
 unfold txsText
 cases l.all txOk
 ·simp
 ·cases l with
  | nil=>simp[txsBody]
  | cons x r=>
   have h1:=txText_len x
   have h2:=txsTail_len r
   simp only[cond_true,txsBody,List.length_append,List.length_cons]
   omega
theorem spec_TxsText_eq (l:TTxS) (hl:l.length≤1000000):spec_TxsText (l,())=some (txsText l,()):=by
 unfold spec_TxsText txsText
 refine (walk l.length (fun i (o:List UInt8)=>(o,i,())) (fun i o=>o.length≤28*i) (fun i o=>some ((bif (l.drop i).all txOk then o++tailAt i (l.drop i) else []),())) (by omega) ?_ ?_ (s0:=[]) (by simp)).trans (by simp[tailAt])
 ·intro rec o _
  rw[List.drop_length]
  simp only[Int.lt_irrefl,decide_false,cond_false,List.all_nil,cond_true,tailAt]
  split<;>simp[txsBody,txsTail]
 ·intro rec i o hi ho
  have hx:l[i]?=some l[i]:=List.getElem?_eq_getElem hi
  have htl:=txText_len l[i]
  rw[List.drop_eq_getElem_cons hi]
  simp only[ge_ok hi,decide_true,cond_true,and_self,if_true,Int.toNat_natCast,rd_get (e:=ETx) hx,spec_TxOk_eq,spec_TxText_eq,Option.bind_some,wr_nat (show i<4611686018427387904 by omega),List.all_cons,List.length_append,List.length_cons,List.length_nil]
  cases hk:txOk l[i]
  ·left; simp only[Bool.not_false,cond_true,Bool.false_and,cond_false]
  ·right
   by_cases h0:i=0
   ·subst h0
    refine⟨o++txText l[0],by rw[List.length_append]; omega,?_,?_⟩
    ·simp only[Bool.not_true,cond_false,show ¬ (((0:Nat):Int)>0) by omega,decide_false]
     rw[if_pos (by omega)]
    ·simp[tailAt,txsBody]
   ·refine⟨o++[44]++txText l[i],by simp only[List.length_append,List.length_cons,List.length_nil]; omega,?_,?_⟩
    ·simp only[Bool.not_true,cond_false,show ((i:Int)>0) by omega,decide_true,cond_true]
     rw[if_pos (by omega),if_pos (by omega)]
    ·have e:o++tailAt i (l[i]::List.drop (i+1) l)=(o++[44]++txText l[i])++tailAt (i+1) (List.drop (i+1) l):=by
      unfold tailAt
      rw[if_neg h0,if_neg (by omega)]
      simp only[txsTail,List.map_cons,List.flatten_cons,List.append_assoc,List.cons_append,List.nil_append]
     rw[e]
     simp only[Bool.true_and]
def nameStr (up:List UInt8) (view:Int) (list:TTxS):List UInt8:=(((up++[47])++Lib.decDigits view.toNat)++[124])++txsText list
def nameOf (up:List UInt8) (view:Int) (list:TTxS):List UInt8:=bif list.all txOk && nameOk (nameStr up view list) then nameStr up view list else []
theorem nameStr_len (up:List UInt8) (view:Int) (list:TTxS) (h:view<1000000):(nameStr up view list).length≤up.length+8+28*list.length:=by
 have h1:=txsText_len list
 have h2:=dl view.toNat (by omega)
 unfold nameStr
 simp only[List.length_append,List.length_cons,List.length_nil]
 omega
theorem okK_loop (l:TTxS) (K:Option (List UInt8×Unit)) {G:(Int×Unit→Option (List UInt8×Unit))→Int×Unit→Option (List UInt8×Unit)} (hl:l.length≤1152921504606846976)
  (hend : ∀ rec,G rec ((l.length:Int),())=K)
  (hstep : ∀ rec (i:Nat) x,l[i]?=some x→i<l.length→G rec ((i:Int),())=bif txOk x then rec ((i:Int)+1,()) else some ([],())) :
  iter G fuel (0,())=bif l.all txOk then K else some ([],()):=by
 refine (walk l.length (fun i (_:Unit)=>(i,())) (fun _ _=>True) (fun i _=>bif (l.drop i).all txOk then K else some ([],())) hl ?_ ?_ (s0:=()) trivial).trans (by simp only[List.drop_zero])
 ·intro rec s _; rw[hend,List.drop_length]; rfl
 ·intro rec i s hi _
  rw[hstep rec i l[i] (List.getElem?_eq_getElem hi) hi,List.drop_eq_getElem_cons hi]
  simp only[List.all_cons]
  cases txOk l[i]
  ·left; rfl
  ·right; exact⟨(),trivial,rfl,rfl⟩
theorem spec_NameOf_eq (up:List UInt8) (view:Int) (list:TTxS) (hu:up.length≤1073741824) (hv:0≤view∧view<1000000) (hl:list.length≤1000000):spec_NameOf (up,view,list,())=some (nameOf up view list,()):=by
 have h1:=txsText_len list
 have h2:=dl view.toNat (by omega)
 have d:=spec_Digits_nat view.toNat (by omega)
 rw[Int.toNat_of_nonneg hv.1] at d
 have hn:=nameStr_len up view list hv.2
 unfold spec_NameOf nameOf
 refine (okK_loop list (bif nameOk (nameStr up view list) then some (nameStr up view list,()) else some ([],())) (by omega) ?_ ?_).trans ?_
 ·intro rec
  simp only[Int.lt_irrefl,decide_false,cond_false,d,spec_TxsText_eq list hl,Option.bind_some,List.length_append,List.length_cons,List.length_nil]
  rw[if_pos (by omega),if_pos (by omega),if_pos (by omega),if_pos (by omega)]
  have e:(((up++[47])++Lib.decDigits view.toNat)++[124])++txsText list=nameStr up view list:=rfl
  rw[e,spec_NameOk_eq _ (by omega),Option.bind_some]
  cases nameOk (nameStr up view list)<;>rfl
 ·intro rec i x hx hi
  simp only[ge_ok hi,decide_true,cond_true,and_self,if_true,Int.toNat_natCast,rd_get (e:=ETx) hx,spec_TxOk_eq,Option.bind_some,wr_nat (show i<4611686018427387904 by omega)]
  cases txOk x<;>rfl
 ·cases list.all txOk<;>cases nameOk (nameStr up view list)<;>rfl
theorem nameOf_len (up:List UInt8) (view:Int) (list:TTxS) (h:view<1000000):(nameOf up view list).length≤up.length+8+28*list.length:=by
 have:=nameStr_len up view list h
 unfold nameOf
 cases (list.all txOk && nameOk (nameStr up view list))
 ·simp
 ·exact this
def zBlock:TBlock:=([],0,[],[])
def blockNew (c:TConf) (q:TQc) (view:Int) (list:TTxS):TBlock×Bool:=
 bif blockOk c (nameOf q.2.1 view list,q) && viewOf (nameOf q.2.1 view list)==view then ((nameOf q.2.1 view list,q),true) else (zBlock,false)
theorem spec_BlockNew_eq (c:TConf) (q:TQc) (view:Int) (list:TTxS) (hq:wQc q≤500000000) (hv:0≤view∧view<1000000) (hl:list.length≤2):spec_BlockNew (c,q,view,list,())=some ((blockNew c q view list).1,(blockNew c q view list).2,()):=by
 have hu:q.2.1.length≤500000000:=by simp only[wQc] at hq; omega
 have hn:=nameOf_len q.2.1 view list hv.2
 unfold spec_BlockNew blockNew
 simp only[spec_NameOf_eq q.2.1 view list (by omega) hv (by omega),spec_l7Copy_eq q (by omega),spec_BlockOk_eq c (nameOf q.2.1 view list,q) (by simp only[wBlock]; omega),spec_ViewOf_eq (nameOf q.2.1 view list) (by omega),Option.bind_some,ne_not]
 cases blockOk c (nameOf q.2.1 view list,q)<;>cases (viewOf (nameOf q.2.1 view list)==view)<;>rfl
theorem blockNew_w (c:TConf) (q:TQc) (view:Int) (list:TTxS) (h:view<1000000):wBlock (blockNew c q view list).1≤2*wQc q+8+28*list.length:=by
 have hn:=nameOf_len q.2.1 view list h
 unfold blockNew
 cases (blockOk c (nameOf q.2.1 view list,q) && viewOf (nameOf q.2.1 view list)==view)
 ·simp[zBlock,wBlock,wQc,wIntS]
 ·simp only[cond_true,wBlock]
  have:q.2.1.length≤wQc q:=by simp only[wQc]; omega
  omega
end G448
namespace G448
open Ev Go
end G448
namespace G448
open Ev
set_option maxRecDepth 100000
end G448
namespace G448
open Ev Go
set_option maxRecDepth 100000
end G448
namespace G448
open Ev Go
set_option maxRecDepth 100000
noncomputable def seat (c:TConf) (v i:Int):Int:=bif confOk c && (!decide (v<0) && (decide (i≥0) && decide (i≤c.1 - 1))) then (i+c.1 - v % c.1) % c.1 else -1
noncomputable def sits (c:TConf) (v p:Int):Int:=bif confOk c && (!decide (v<0) && (decide (p≥0) && decide (p≤c.1 - 1))) then (v % c.1+p) % c.1 else -1
noncomputable def up (c:TConf) (v i:Int):Int:=bif decide (seat c v i≤0) then -1 else sits c v ((seat c v i - 1) / c.2)
end G448
namespace G448
open Ev Go
set_option maxRecDepth 100000
end G448
namespace G448
open Ev Go
set_option maxRecDepth 100000
theorem setIns (l:List Int) (x:Int) (i:Nat) (hi:i≤l.length) (hl:l.length≤137438953472) :
  ((if (((0:Int)≤0)∧((0≤(i:Int))∧((i:Int)≤(((List.length l):Nat):Int)))) then (if (((0+(List.length (List.take ((Int.toNat (i:Int)) - (Int.toNat 0)) (List.drop (Int.toNat 0) l))))*8)≤70368744177664) then (if ((((List.length ([]++(List.take ((Int.toNat (i:Int)) - (Int.toNat 0)) (List.drop (Int.toNat 0) l))))+(List.length (x::[])))*8)≤70368744177664) then (if ((0≤(i:Int))∧(((i:Int)≤(((List.length l):Nat):Int))∧((((List.length l):Nat):Int)≤(((List.length l):Nat):Int)))) then (if ((((List.length (([]++(List.take ((Int.toNat (i:Int)) - (Int.toNat 0)) (List.drop (Int.toNat 0) l)))++(x::[])))+(List.length (List.take ((Int.toNat (((List.length l):Nat):Int)) - (Int.toNat (i:Int))) (List.drop (Int.toNat (i:Int)) l))))*8)≤70368744177664) then some (((([]++(List.take ((Int.toNat (i:Int)) - (Int.toNat 0)) (List.drop (Int.toNat 0) l)))++(x::[]))++(List.take ((Int.toNat (((List.length l):Nat):Int)) - (Int.toNat (i:Int))) (List.drop (Int.toNat (i:Int)) l))),()) else none) else none) else none) else none) else none):Option (List Int×Unit))=some (l.take i++x::l.drop i,()):=by
 have h1:(l.take i).length=i:=by rw[List.length_take]; omega
 have h2:(l.drop i).length=l.length - i:=List.length_drop
 have h3:(l.drop i).take (l.length - i)=l.drop i:=List.take_of_length_le (by rw[h2]; exact Nat.le_refl _)
 simp only[Int.toNat_natCast,show Int.toNat 0=0 from rfl,Nat.sub_zero,List.drop_zero,List.nil_append,h3,List.length_append,h1,h2,List.length_cons,List.length_nil]
 rw[if_pos ⟨by omega,by omega,by omega⟩,if_pos (by omega),if_pos (by omega),if_pos ⟨by omega,by omega,by omega⟩,if_pos (by omega)]
 simp
noncomputable def setK (l:List Int) (x:Int):Nat:=firstAt (fun y=>decide (y≥x)) 0 l
noncomputable def setAdd (l:List Int) (x:Int):List Int:=bif l.any (· == x) then l else l.take (setK l x)++x::l.drop (setK l x)
theorem spec_SetAdd_eq (l:List Int) (x:Int) (hl:l.length≤137438953472):spec_SetAdd (l,x,())=some (setAdd l x,()):=by
 unfold spec_SetAdd setAdd
 dsimp only
 rw[spec_SetHas_eq l x (by omega),Option.bind_some]
 dsimp only
 cases l.any (· == x)
 ·simp only[cond_false]
  unfold setK
  refine (walk l.length (fun i (_:Unit)=>(i,())) (fun _ _=>True) (fun i _=>some (l.take (firstAt (fun y=>decide (y≥x)) i (l.drop i))++x::l.drop (firstAt (fun y=>decide (y≥x)) i (l.drop i)),())) (by omega) ?_ ?_ (s0:=()) trivial).trans (by simp only[List.drop_zero])
  ·intro rec s _
   have e:=setIns l x l.length (Nat.le_refl _) hl
   rw[List.drop_length] at e ⊢
   simp only[Int.lt_irrefl,decide_false,cond_false,firstAt]
   rw[List.drop_length]
   exact e
  ·intro rec i s hi _
   have hx:l[i]?=some l[i]:=List.getElem?_eq_getElem hi
   have e:=setIns l x i (Nat.le_of_lt hi) hl
   have hd0:decide ((i:Int)<((l.length:Nat):Int))=true:=decide_eq_true (by omega)
   have hr:rd .i64 l (Int.toNat (i:Int))=l[i]:=rd_get (e:=.i64) hx
   dsimp only
   by_cases hlt:l[i]<x
   ·right
    have hd:decide (l[i]≥x)=false:=decide_eq_false (by omega)
    refine⟨(),trivial,?_,?_⟩
    ·rw[hd0,cond_true,if_pos (ge_ok hi),hr,decide_eq_true hlt,cond_true,wr_nat (show i<4611686018427387904 by omega)]
    ·rw[List.drop_eq_getElem_cons hi]
     simp only[firstAt,hd,cond_false]
   ·left
    have hd:decide (l[i]≥x)=true:=decide_eq_true (by omega)
    rw[hd0,cond_true,if_pos (ge_ok hi),hr,decide_eq_false hlt,cond_false]
    refine e.trans ?_
    rw[show firstAt (fun y=>decide (y≥x)) i (l.drop i)=i by rw[List.drop_eq_getElem_cons hi]; simp only[firstAt,hd,cond_true]]
 ·simp only[cond_true,List.nil_append]
  rw[if_pos (by omega)]
theorem setAdd_len (l:List Int) (x:Int):(setAdd l x).length≤l.length+1:=by
 have hle:setK l x≤l.length:=by have:=(firstAt_le (fun y=>decide (y≥x)) l 0).2; unfold setK; omega
 unfold setAdd
 cases l.any (· == x)
 ·simp only[cond_false,List.length_append,List.length_cons,List.length_take,List.length_drop]; omega
 ·simp only[cond_true]; omega
end G448
namespace G448
open Ev Go
set_option maxRecDepth 100000
noncomputable def setJoin (a b:List Int):List Int:=b.foldl setAdd (a.foldl setAdd [])
theorem setFold_len : ∀ (l s:List Int),(l.foldl setAdd s).length≤s.length+l.length
 | [],s=>by simp
 | x::l,s=>by
  have h1:=setAdd_len s x
  have h2:=setFold_len l (setAdd s x)
  simp only[List.foldl_cons,List.length_cons]; omega
theorem setJoin_len (a b:List Int):(setJoin a b).length≤a.length+b.length:=by
 have h1:=setFold_len a []
 have h2:=setFold_len b (a.foldl setAdd [])
 simp only[setJoin,List.length_nil] at *; omega
noncomputable def partJoin (a b:TPart):TPart×Bool:=bif a.1==b.1 && a.2.1==b.2.1 then ((a.1,a.2.1,setJoin a.2.2 b.2.2),true) else ((0,[],[]),false)
theorem partJoin_w (a b:TPart):wPart (partJoin a b).1≤wPart a+wPart b:=by
 have h:=setJoin_len a.2.2 b.2.2
 unfold partJoin
 cases (a.1==b.1 && a.2.1==b.2.1)
 ·simp[wPart,wIntS]
 ·simp only[cond_true,wPart,wIntS]; omega
noncomputable def tabGo (p:TPart):TPartS→TPartS
 | []=>[p]
 | q::r=>bif beforePart q p then q::tabGo p r else bif (partJoin q p).2 then (partJoin q p).1::r else p::q::r
theorem tabGo_w (p:TPart) : ∀ (l:TPartS),wPartS (tabGo p l)≤wPartS l+wPart p+1
 | []=>by simp[tabGo,wPartS]; omega
 | q::r=>by
  have h:=tabGo_w p r
  have h2:=partJoin_w q p
  simp only[tabGo]
  cases beforePart q p
  ·cases (partJoin q p).2
   ·simp only[cond_false,wPartS,List.length_cons,List.map_cons,List.sum_cons]; omega
   ·simp only[cond_false,cond_true,wPartS,List.length_cons,List.map_cons,List.sum_cons]; omega
  ·simp only[cond_true,wPartS,List.length_cons,List.map_cons,List.sum_cons] at h ⊢; omega
end G448
namespace G448
open Ev Go
set_option maxRecDepth 100000
theorem wPartS_app (a b:TPartS):wPartS (a++b)=wPartS a+wPartS b:=by
 simp only[wPartS,List.length_append,List.map_append,List.sum_append]; omega
def TabI (l:TPartS) (p:TPart) (i:Nat) (s:TPartS×Bool):Prop:=
 (s.2=true∧s.1++l.drop i=tabGo p l)∨(s.2=false∧s.1++tabGo p (l.drop i)=tabGo p l)
theorem TabI.w {l:TPartS} {p:TPart} {i:Nat} {s:TPartS×Bool} (h:TabI l p i s):wPartS s.1≤wPartS l+wPart p+1:=by
 have h0:=tabGo_w p l
 rcases h with⟨_,h⟩|⟨_,h⟩<;>rw[←h,wPartS_app] at h0<;>omega
end G448
namespace G448
open Ev Go
set_option maxRecDepth 100000
end G448
namespace G448
open Ev Go
set_option maxRecDepth 100000
end G448
namespace G448
open Ev Go
set_option maxRecDepth 100000
end G448
namespace G448
open Ev Go
set_option maxRecDepth 100000
theorem pieces_sum (c:UInt8) : ∀ s:List UInt8,s.length+1=((pieces c s).map fun p=>p.length+1).sum
 | []=>by simp[pieces]
 | x::l=>by
  have ih:=pieces_sum c l
  simp only[pieces]
  split
  ·simp only[List.map_cons,List.sum_cons,List.length_nil,List.length_cons]; omega
  ·cases h:pieces c l with
   | nil=>exact absurd h (pieces_ne _ _)
   | cons p r=>
    rw[h] at ih
    simp only[glue,List.map_cons,List.sum_cons,List.length_append,List.length_cons,List.length_nil] at ih ⊢
    omega
theorem txOf_len {s:List UInt8} (h:(txOf s).2=true):s.length≤27:=by
 unfold txOf at h
 split at h
 ·next hh=>rw[←hh.2]; exact txText_len _
 ·cases h
theorem txsGo_sum : ∀ (ps:List (List UInt8)) (out:List TTx),(txsGo ps out).2=true→(txsGo ps out).1.length=out.length+ps.length∧(ps.map fun p=>p.length+1).sum≤28*ps.length
 | [],out,_=>by simp[txsGo]
 | p::ps,out,h=>by
  simp only[txsGo] at h ⊢
  split at h
  ·next hp=>
   have h1:=txOf_len hp
   obtain⟨h2,h3⟩:=txsGo_sum ps _ h
   rw[if_pos hp]
   simp only[List.length_append,List.length_cons,List.length_nil,List.map_cons,List.sum_cons] at h2 ⊢
   omega
  ·cases h
theorem txsOf_small {s:List UInt8} (h:(txsOf s).2=true):s.length≤28*(txsOf s).1.length:=by
 unfold txsOf at h ⊢
 split at h
 ·next e=>subst e; simp
 ·next e=>
  rw[if_neg e]
  obtain⟨h1,h2⟩:=txsGo_sum _ _ h
  have:=pieces_sum 44 s
  simp only[List.length_nil,Nat.zero_add] at h1
  omega
theorem number_len {s:List UInt8} (h:(number s).2=true):s.length≤6:=by
 unfold number at h
 split at h
 ·next hh=>exact hh.2.1
 ·cases h
theorem stepsGo_sum : ∀ (ps:List (List UInt8)) (prev:Int) (out:List TStep),(stepsGo ps prev out).2=true→(ps.map fun p=>p.length+1).sum≤64*ps.length
 | [],_,_,_=>by simp
 | p::ps,prev,out,h=>by
  simp only[stepsGo] at h
  cases hq:cutAt 124 p with
  | none=>rw[hq] at h; cases h
  | some q=>
   rw[hq] at h
   simp only at h
   split at h
   ·next hs=>
    unfold stepB at hs
    simp only[Bool.and_eq_true,decide_eq_true_eq] at hs
    obtain⟨a1,a2,-,-,a5⟩:=hs
    have b1:=number_len a1
    have b2:=txsOf_small a2
    obtain⟨q1,q2⟩:=q
    have b3:=(cutAt_len 124 hq).1
    have ih:=stepsGo_sum ps _ _ h
    simp only[List.map_cons,List.sum_cons,List.length_cons] at ih ⊢
    simp only at b1 b2 a5
    omega
   ·cases h
theorem nameOk_len {s:List UInt8} (h:nameOk s=true):s.length≤1920:=by
 unfold nameOk steps at h
 split at h
 ·next e=>subst e; simp
 ·have hs:=pieces_sum 47 s
  cases hp:pieces 47 s with
  | nil=>exact absurd hp (pieces_ne _ _)
  | cons p ps=>
   rw[hp] at h hs
   simp only at h
   split at h
   ·next hh=>
    obtain⟨rfl,h30⟩:=hh
    have:=stepsGo_sum ps _ _ h
    simp only[List.map_cons,List.sum_cons,List.length_nil] at hs
    omega
   ·cases h
theorem setGo_len (n:Int) : ∀ (l:List Int) (p:Int),setGo n (some p) l=true→p<n→(l.length:Int)≤n - 1 - p
 | [],p,_,hp=>by simp; omega
 | x::l,p,h,hp=>by
  simp only[setGo,Bool.and_eq_true,Bool.not_eq_true',decide_eq_false_iff_not] at h
  obtain⟨h1,h2,h3,h4⟩:=h
  have:=setGo_len n l x h4 (by omega)
  simp only[List.length_cons]
  omega
theorem setOk_len {n:Int} {l:List Int} (h:setOk n l=true) (hn:0≤n):(l.length:Int)≤n:=by
 unfold setOk at h
 cases l with
 | nil=>simpa using hn
 | cons x l=>
  simp only[setGo,Bool.and_eq_true,Bool.not_eq_true',decide_eq_false_iff_not] at h
  obtain⟨h1,h2,h3,h4⟩:=h
  have:=setGo_len n l x h4 (by omega)
  simp only[List.length_cons]
  omega
theorem setGo_mem (n:Int) : ∀ (l:List Int) (p:Option Int),setGo n p l=true → ∀ x∈l,0≤x∧x<n
 | [],_,_,x,hx=>by cases hx
 | y::l,p,h,x,hx=>by
  simp only[setGo,Bool.and_eq_true,Bool.not_eq_true',decide_eq_false_iff_not] at h
  obtain⟨h1,h2,h3,h4⟩:=h
  rcases List.mem_cons.1 hx with rfl|hx
  ·omega
  ·exact setGo_mem n l _ h4 x hx
theorem setOk_mem {n:Int} {l:List Int} (h:setOk n l=true) : ∀ x∈l,0≤x∧x<n:=setGo_mem n l none h
theorem qcOk_w {c:TConf} {q:TQc} (h:qcOk c q=true):wQc q≤1927:=by
 unfold qcOk at h
 simp only[Bool.and_eq_true] at h
 obtain⟨h1,h2,h3,h4⟩:=h
 have hc:=confOk_b h1
 have hn:=nameOk_len h2
 simp only[wQc,wIntS]
 cases he:(q.2.1==([]:List UInt8))<;>rw[he] at h4
 ·simp only[cond_false,Bool.and_eq_true] at h4
  have:=setOk_len h4.1 (by omega)
  omega
 ·simp only[cond_true,beq_iff_eq] at h4
  omega
theorem partOk_w {c:TConf} {p:TPart} (h:partOk c p=true):wPart p≤1927:=by
 unfold partOk at h
 simp only[Bool.and_eq_true,Bool.or_eq_true] at h
 obtain⟨h1,h2,h3,h4,h5⟩:=h
 have hc:=confOk_b h1
 have:=setOk_len h3 (by omega)
 simp only[wPart,wIntS]
 rcases h5 with h5|h5
 ·simp only[beq_iff_eq] at h5
  rw[h5]
  simp only[List.length_nil]
  omega
 ·have hn:=nameOk_len h5.1
  omega
theorem qcSame_eq {a b:TQc} (h:qcSame a b=true):a=b:=by
 unfold qcSame at h
 simp only[Bool.and_eq_true,beq_iff_eq,decide_eq_true_eq] at h
 obtain⟨a1,a2,a3⟩:=a
 obtain⟨b1,b2,b3⟩:=b
 simp only at h
 simp[h.1,h.2.1,h.2.2]
theorem msgSame_eq {a b:TMsg} (h:msgSame a b=true):a=b:=by
 unfold msgSame blockSame txSame at h
 simp only[Bool.and_eq_true,beq_iff_eq] at h
 obtain⟨a1,a2,⟨a3,a3'⟩,a4,a5,a6,a7⟩:=a
 obtain⟨b1,b2,⟨b3,b3'⟩,b4,b5,b6,b7⟩:=b
 simp only at h
 obtain⟨h1,h2,⟨h3,h3'⟩,h4,h5,h6,h7⟩:=h
 have e1:=qcSame_eq h3'
 have e2:a4=b4:=qcSame_eq h4
 have e3:=qcSame_eq h5
 subst h1 h2 h3 e1 e2 e3 h6
 obtain⟨x1,x2,x3,x4⟩:=a7
 obtain⟨y1,y2,y3,y4⟩:=b7
 simp only at h7
 obtain⟨k1,k2,k3,k4,-⟩:=h7
 subst k1 k2 k3 k4
 rfl
end G448
namespace G448
open Ev Go
set_option maxRecDepth 100000
theorem nameOk_nil:nameOk []=true:=by unfold nameOk steps; simp
theorem nameOf_ok (up:List UInt8) (view:Int) (list:TTxS):nameOk (nameOf up view list)=true:=by
 unfold nameOf
 cases h:(list.all txOk && nameOk (nameStr up view list))
 ·exact nameOk_nil
 ·simp only[Bool.and_eq_true] at h
  exact h.2
theorem viewOf_nil:viewOf []=0:=by unfold viewOf steps; simp
theorem viewOf_b {s:List UInt8} (h:nameOk s=true):0≤viewOf s∧viewOf s≤60:=by
 by_cases e:s=[]
 ·subst e; rw[viewOf_nil]; omega
 ·have:=name_view h e; omega
theorem l2DrawRight_ens (c:TCur) (hc:CurOk c):Ens (spec_l2DrawRight (c,())) fun r=>0≤r.1.2.1∧txOk r.2.1=true:=by
 unfold spec_l2DrawRight
 refine (l1Below_ens c 4 hc).bind fun r0 h0 => ?_
 refine (l1Below_ens (c.1,r0.1.2) 4 ⟨hc.1,h0.1⟩).bind fun r1 h1 => ?_
 refine (l1PickInt_ens (c.1,r1.1.2) _ ⟨hc.1,h1.1⟩ (by simp)).bind fun r2 h2 => ?_
 refine (l1Below_ens (c.1,r2.1.2) 3 ⟨hc.1,h2.1⟩).bind fun r3 h3 => ?_
 refine Ens.some ⟨h3.1,?_⟩
 have a0:=h0.2.2 (by decide)
 have a1:=h1.2.2 (by decide)
 have a3:=h3.2.2 (by decide)
 have a2:=h2.2
 simp only[List.mem_cons,List.not_mem_nil,or_false] at a2
 rw[txOk_iff]
 dsimp only
 omega
theorem l2Draw_ens (c:TCur) (hc:CurOk c):Ens (spec_l2Draw (c,())) fun r=>0≤r.1.2.1:=by
 unfold spec_l2Draw
 refine (l2DrawRight_ens c hc).bind fun r0 h0 => ?_
 refine (l1Below_ens (c.1,r0.1.2) 12 ⟨hc.1,h0.1⟩).bind fun r1 h1 => ?_
 refine Ens.cond (fun _ => ?_) fun _ => ?_
 ·exact (l1PickInt_ens (c.1,r1.1.2) _ ⟨hc.1,h1.1⟩ (by simp)).bind fun r2 h2=>Ens.some h2.1
 refine Ens.cond (fun _ => ?_) fun _ => ?_
 ·exact (l1PickInt_ens (c.1,r1.1.2) _ ⟨hc.1,h1.1⟩ (by simp)).bind fun r2 h2=>Ens.some h2.1
 refine Ens.cond (fun _ => ?_) fun _ => ?_
 ·exact (l1PickInt_ens (c.1,r1.1.2) _ ⟨hc.1,h1.1⟩ (by simp)).bind fun r2 h2=>Ens.some h2.1
 refine Ens.cond (fun _ => ?_) fun _ => ?_
 ·exact (l1PickInt_ens (c.1,r1.1.2) _ ⟨hc.1,h1.1⟩ (by simp)).bind fun r2 h2=>Ens.some h2.1
 exact Ens.some h1.1
theorem tdiv3 {a:Int} (h0:0≤a) (h1:a<4):0≤Int.tdiv a 3∧Int.tdiv a 3≤1:=by
 rw[Int.tdiv_eq_ediv_of_nonneg h0]
 omega
theorem l5DrawRight_ens (c:TCur) (hc:CurOk c):Ens (spec_l5DrawRight (c,())) fun r=>0≤r.1.2.1∧nameOk r.2.1=true:=by
 unfold spec_l5DrawRight
 refine Ens.loop (fun x=>nameOk x.1=true∧(0≤x.2.1∧x.2.1≤2*x.2.2.1)∧(0≤x.2.2.1∧x.2.2.1≤5)∧0≤x.2.2.2.1.2.1) (fun x=>(6 - x.2.2.1).toNat) ?_ ⟨nameOk_nil,by simp,by simp,hc.2⟩ (by dsimp only; rw[fuel_def]; omega)
 intro rec x hx hrec
 obtain⟨x1,x2,x3,x4⟩:=hx
 refine (l1Below_ens (c.1,x.2.2.2.1.2) 6 ⟨hc.1,x4⟩).bind fun r1 h1 => ?_
 have a1:=h1.2.2 (by decide)
 refine Ens.cond (fun h => ?_) fun h=>Ens.some ⟨h1.1,x1⟩
 have h:x.2.2.1<r1.2.1:=by simpa using h
 refine (l1Below_ens (c.1,r1.1.2) 4 ⟨hc.1,h1.1⟩).bind fun r2 h2 => ?_
 have a2:=h2.2.2 (by decide)
 have b2:=tdiv3 h2.2.1 a2
 refine Ens.loop (fun y=>(0≤y.2.1∧y.2.1≤2)∧(y.1.length:Int)≤y.2.1∧0≤y.2.2.1.2.1) (fun y=>(3 - y.2.1).toNat) ?_ ⟨by simp,by simp,h2.1⟩ (by dsimp only; rw[fuel_def]; omega)
 intro rec3 y hy hrec3
 obtain⟨y1,y2,y3⟩:=hy
 refine (l1Below_ens (c.1,y.2.2.1.2) 3 ⟨hc.1,y3⟩).bind fun r4 h4 => ?_
 have a4:=h4.2.2 (by decide)
 refine Ens.cond (fun h' => ?_) fun h' => ?_
 ·have h':y.2.1<r4.2.1:=by simpa using h'
  refine (l2DrawRight_ens (c.1,r4.1.2) ⟨hc.1,h4.1⟩).bind fun r5 h5 => ?_
  refine Ens.ite (by simp only[List.length_cons,List.length_nil]; omega) ?_
  rw[wr_id' (n:=y.2.1+1) (by omega) (by omega)]
  exact hrec3 _ ⟨⟨by dsimp only; omega,by dsimp only; omega⟩,by simp only[List.length_append,List.length_cons,List.length_nil]; omega,h5.1⟩ (by dsimp only; omega)
 ·have e1:wr (x.2.1+1)=x.2.1+1:=wr_id' (by omega) (by omega)
  have e2:wr (Int.tdiv r2.2.1 3)=Int.tdiv r2.2.1 3:=wr_id' (by omega) (by omega)
  have e3:wr (x.2.1+1+Int.tdiv r2.2.1 3)=x.2.1+1+Int.tdiv r2.2.1 3:=wr_id' (by omega) (by omega)
  have hlen:=nameOk_len x1
  rw[e1,e2,e3,spec_NameOf_eq x.1 _ y.1 (by omega) (by omega) (by omega),Option.bind_some,wr_id' (n:=x.2.2.1+1) (by omega) (by omega)]
  exact hrec _ ⟨nameOf_ok _ _ _,⟨by dsimp only; omega,by dsimp only; omega⟩,⟨by dsimp only; omega,by dsimp only; omega⟩,h4.1⟩ (by dsimp only; omega)
theorem l6DrawSet_ens (c:TCur) (n:Int) (hc:CurOk c) (hn:0<n):Ens (spec_l6DrawSet (c,n,())) fun r=>0≤r.1.2.1∧r.2.1.length≤8:=by
 unfold spec_l6DrawSet
 refine Ens.loop (fun x=>(0≤x.2.1∧x.2.1≤7)∧(x.1.length:Int)≤x.2.1∧0≤x.2.2.1.2.1) (fun x=>(8 - x.2.1).toNat) ?_ ⟨by simp,by simp,hc.2⟩ (by dsimp only; rw[fuel_def]; omega)
 intro rec x hx hrec
 obtain⟨x1,x2,x3⟩:=hx
 refine (l1Below_ens (c.1,x.2.2.1.2) 8 ⟨hc.1,x3⟩).bind fun r1 h1 => ?_
 have a1:=h1.2.2 (by decide)
 refine Ens.cond (fun h => ?_) fun h => ?_
 ·have h:x.2.1<r1.2.1:=by simpa using h
  refine (l1Below_ens (c.1,r1.1.2) n ⟨hc.1,h1.1⟩).bind fun r2 h2 => ?_
  have hl:=setAdd_len x.1 r2.2.1
  rw[spec_SetAdd_eq x.1 _ (by omega),Option.bind_some,wr_id' (n:=x.2.1+1) (by omega) (by omega)]
  exact hrec _ ⟨⟨by dsimp only; omega,by dsimp only; omega⟩,by dsimp only; omega,h2.1⟩ (by dsimp only; omega)
 ·refine (l1Once_ens (c.1,r1.1.2) 12 ⟨hc.1,h1.1⟩).bind fun r4 h4 => ?_
  refine Ens.cond (fun _ => ?_) fun _=>Ens.some ⟨h4,by dsimp only; omega⟩
  refine (l1PickInt_ens (c.1,r4.1.2) _ ⟨hc.1,h4⟩ (by simp)).bind fun r5 h5 => ?_
  refine Ens.ite (by simp only[List.length_cons,List.length_nil]; omega) (Ens.some ⟨h5.1,?_⟩)
  simp only[List.length_append,List.length_cons,List.length_nil]
  omega
theorem l7DrawConf_ens (c:TCur) (hc:CurOk c):Ens (spec_l7DrawConf (c,())) fun r=>0≤r.1.2.1∧confOk r.2.1=true:=by
 unfold spec_l7DrawConf
 refine (l1Below_ens c 4 hc).bind fun r0 h0 => ?_
 refine (l1Below_ens (c.1,r0.1.2) 3 ⟨hc.1,h0.1⟩).bind fun r1 h1 => ?_
 have a0:=h0.2.2 (by decide)
 have a1:=h1.2.2 (by decide)
 refine Ens.some ⟨h1.1,?_⟩
 rw[wr_id' (n:=4+r0.2.1) (by omega) (by omega),wr_id' (n:=1+r1.2.1) (by omega) (by omega)]
 unfold confOk
 simp only[Bool.and_eq_true,decide_eq_true_eq]
 omega
end G448
namespace G448
open Ev Go
set_option maxRecDepth 100000
theorem l7DrawOf_ens (c:TCur) (conf:TConf) (name:List UInt8) (hc:CurOk c) (hN:conf.1≤8) (hn:nameOk name=true) :
  Ens (spec_l7DrawOf (c,conf,name,())) fun r=>0≤r.1.2.1∧r.2.1.1=viewOf name∧r.2.1.2.1=name∧r.2.1.2.2.length≤8:=by
 have hl:=nameOk_len hn
 unfold spec_l7DrawOf
 dsimp only
 rw[spec_ViewOf_eq name (by omega),Option.bind_some]
 refine Ens.cond (fun _=>Ens.some ⟨hc.2,rfl,rfl,by simp⟩) fun _ => ?_
 refine Ens.loop (fun x=>(0≤x.1∧x.1≤8)∧(x.2.1.2.2.length:Int)≤x.1∧x.2.1.1=viewOf name∧x.2.1.2.1=name) (fun x=>(9 - x.1).toNat) ?_ ⟨by simp,by simp,rfl,rfl⟩ (by dsimp only; rw[fuel_def]; omega)
 intro rec x hx hrec
 obtain⟨x1,x2,x3,x4⟩:=hx
 refine Ens.cond (fun h => ?_) fun h => ?_
 ·have h:x.1<conf.1:=by simpa using h
  refine Ens.ite (by simp only[List.length_cons,List.length_nil]; omega) ?_
  rw[wr_id' (n:=x.1+1) (by omega) (by omega)]
  exact hrec _ ⟨⟨by dsimp only; omega,by dsimp only; omega⟩,by simp only[List.length_append,List.length_cons,List.length_nil]; omega,x3,x4⟩ (by dsimp only; omega)
 ·refine (l1Once_ens c 2 hc).bind fun r2 h2 => ?_
  refine Ens.cond (fun _ => ?_) fun _=>Ens.some ⟨h2,x3,x4,by dsimp only; omega⟩
  refine Ens.cond (fun h0 => ?_) fun _=>Ens.some ⟨h2,x3,x4,by dsimp only; omega⟩
  have h0:(x.2.1.2.2.length:Int)>0:=by simpa using h0
  refine (l1Below_ens (c.1,r2.1.2) _ ⟨hc.1,h2⟩).bind fun r3 h3 => ?_
  have a3:=h3.2.2 h0
  have b3:=h3.2.1
  have e1:wr (r3.2.1+1)=r3.2.1+1:=wr_id' (by omega) (by omega)
  refine Ens.ite (by omega) ?_
  refine Ens.ite (by simp only[List.length_take,List.length_drop]; omega) ?_
  refine Ens.ite (by rw[e1]; omega) ?_
  refine Ens.ite (by simp only[List.length_append,List.length_take,List.length_drop,List.length_nil]; omega) ?_
  refine Ens.some ⟨h3.1,x3,x4,?_⟩
  rw[e1]
  simp only[List.length_append,List.length_take,List.length_drop,List.length_nil]
  omega
theorem qc_w {q:TQc} {name:List UInt8} (h1:q.2.1=name) (h2:q.2.2.length≤8) (hn:name.length≤1920):wQc q≤1928:=by
 simp only[wQc,wIntS,h1]; omega
theorem l8DrawRight_ens (c:TCur) (conf:TConf) (hc:CurOk c) (hN:conf.1≤8):Ens (spec_l8DrawRight (c,conf,())) fun r=>0≤r.1.2.1∧wBlock r.2.1≤4000:=by
 unfold spec_l8DrawRight
 refine (l5DrawRight_ens c hc).bind fun r0 h0 => ?_
 have hl:=nameOk_len h0.2
 have hv:=viewOf_b h0.2
 refine (l7DrawOf_ens (c.1,r0.1.2) conf r0.2.1 ⟨hc.1,h0.1⟩ hN h0.2).bind fun r1 h1 => ?_
 obtain⟨k1,k2,k3,k4⟩:=h1
 have hw:=qc_w k3 k4 hl
 refine Ens.loop (fun y=>(0≤y.2.1∧y.2.1≤2)∧(y.1.length:Int)≤y.2.1∧0≤y.2.2.1.2.1) (fun y=>(3 - y.2.1).toNat) ?_ ⟨by simp,by simp,k1⟩ (by dsimp only; rw[fuel_def]; omega)
 intro rec y hy hrec
 obtain⟨y1,y2,y3⟩:=hy
 refine (l1Below_ens (c.1,y.2.2.1.2) 3 ⟨hc.1,y3⟩).bind fun r3 h3 => ?_
 have a3:=h3.2.2 (by decide)
 refine Ens.cond (fun h' => ?_) fun h' => ?_
 ·have h':y.2.1<r3.2.1:=by simpa using h'
  refine (l2DrawRight_ens (c.1,r3.1.2) ⟨hc.1,h3.1⟩).bind fun r4 h4 => ?_
  refine Ens.ite (by simp only[List.length_cons,List.length_nil]; omega) ?_
  rw[wr_id' (n:=y.2.1+1) (by omega) (by omega)]
  exact hrec _ ⟨⟨by dsimp only; omega,by dsimp only; omega⟩,by simp only[List.length_append,List.length_cons,List.length_nil]; omega,h4.1⟩ (by dsimp only; omega)
 ·refine (l1Below_ens (c.1,r3.1.2) 4 ⟨hc.1,h3.1⟩).bind fun r5 h5 => ?_
  have a5:=h5.2.2 (by decide)
  have b5:=tdiv3 h5.2.1 a5
  have e1:wr (r1.2.1.1+1)=r1.2.1.1+1:=wr_id' (by omega) (by omega)
  have e2:wr (Int.tdiv r5.2.1 3)=Int.tdiv r5.2.1 3:=wr_id' (by omega) (by omega)
  have e3:wr (r1.2.1.1+1+Int.tdiv r5.2.1 3)=r1.2.1.1+1+Int.tdiv r5.2.1 3:=wr_id' (by omega) (by omega)
  have hb:=blockNew_w conf r1.2.1 (r1.2.1.1+1+Int.tdiv r5.2.1 3) y.1 (by omega)
  rw[e1,e2,e3,spec_BlockNew_eq conf r1.2.1 _ y.1 (by omega) (by omega) (by omega),Option.bind_some]
  exact Ens.some ⟨h5.1,by dsimp only; omega⟩
theorem part_loop {G:(Int×TCur×TPart×Unit→Option (TCur×TPart×Unit))→Int×TCur×TPart×Unit→Option (TCur×TPart×Unit)} (b:List UInt8) (n:Int) (hb:b.length≤big) (nm:List UInt8) (p:TPart) (i h:Int) (hi:0≤i) (hp:p.2.1=nm) (hp2:p.2.2=[])
  (hG : ∀ rec x,G rec x=(spec_l1Below ((b,x.2.1.2),7,())).bind fun r5=>bif decide (x.1<wr (1+r5.2.1)) then (spec_l1Max (n,4,())).bind fun r6=>(spec_l1Below ((b,r5.1.2),r6.1,())).bind fun r7=>(spec_SetAdd (x.2.2.1.2.2,r7.2.1,())).bind fun r8=>rec (wr (x.1+1),(b,r7.1.2),(x.2.2.1.1,x.2.2.1.2.1,r8.1),()) else some ((b,r5.1.2),x.2.2.1,())) :
  Ens (iter G fuel (0,(b,i,h),p,())) fun r=>0≤r.1.2.1∧r.2.1.2.1=nm∧r.2.1.2.2.length≤7:=by
 refine Ens.loop (fun x=>(0≤x.1∧x.1≤7)∧0≤x.2.1.2.1∧x.2.2.1.2.1=nm∧(x.2.2.1.2.2.length:Int)≤x.1) (fun x=>(8 - x.1).toNat) ?_ ⟨by simp,hi,hp,by simp[hp2]⟩ (by dsimp only; rw[fuel_def]; omega)
 intro rec x hx hrec
 obtain⟨x1,x2,x3,x4⟩:=hx
 rw[hG]
 refine (l1Below_ens (b,x.2.1.2) 7 ⟨hb,x2⟩).bind fun r5 h5 => ?_
 have a5:=h5.2.2 (by decide)
 have b5:=h5.2.1
 rw[wr_id' (n:=1+r5.2.1) (by omega) (by omega)]
 refine Ens.cond (fun h => ?_) fun h=>Ens.some ⟨h5.1,x3,by dsimp only; omega⟩
 have h:x.1<1+r5.2.1:=by simpa using h
 rw[spec_max_eq,Option.bind_some]
 refine (l1Below_ens (b,r5.1.2) _ ⟨hb,h5.1⟩).bind fun r7 h7 => ?_
 have hl:=setAdd_len x.2.2.1.2.2 r7.2.1
 rw[spec_SetAdd_eq _ _ (by omega),Option.bind_some,wr_id' (n:=x.1+1) (by omega) (by omega)]
 exact hrec _ ⟨⟨by dsimp only; omega,by dsimp only; omega⟩,h7.1,x3,by dsimp only; omega⟩ (by dsimp only; omega)
theorem l10DrawRight_ens (c:TCur) (conf:TConf) (hc:CurOk c):Ens (spec_l10DrawRight (c,conf,())) fun r=>0≤r.1.2.1∧nameOk r.2.1.2.1=true∧r.2.1.2.2.length≤7:=by
 unfold spec_l10DrawRight
 refine (l5DrawRight_ens c hc).bind fun r0 h0 => ?_
 have hl:=nameOk_len h0.2
 dsimp only
 rw[spec_ViewOf_eq r0.2.1 (by omega),Option.bind_some]
 refine (l1Once_ens (c.1,r0.1.2) 4 ⟨hc.1,h0.1⟩).bind fun r2 h2 => ?_
 refine Ens.cond (fun _ => ?_) fun _ => ?_
 ·refine (l1Below_ens (c.1,r2.1.2) 4 ⟨hc.1,h2⟩).bind fun r3 h3 => ?_
  refine (part_loop c.1 conf.1 hc.1 [] _ r3.1.2.1 r3.1.2.2 h3.1 rfl rfl (fun _ _=>rfl)).mono fun r hr=>⟨hr.1,by rw[hr.2.1]; exact nameOk_nil,hr.2.2⟩
 ·refine Ens.cond (fun _ => ?_) fun _ => ?_
  ·refine (l1Below_ens (c.1,r2.1.2) 4 ⟨hc.1,h2⟩).bind fun r3 h3 => ?_
   refine (part_loop c.1 conf.1 hc.1 [] _ r3.1.2.1 r3.1.2.2 h3.1 rfl rfl (fun _ _=>rfl)).mono fun r hr=>⟨hr.1,by rw[hr.2.1]; exact nameOk_nil,hr.2.2⟩
  ·refine (part_loop c.1 conf.1 hc.1 r0.2.1 _ r2.1.2.1 r2.1.2.2 h2 rfl rfl (fun _ _=>rfl)).mono fun r hr=>⟨hr.1,by rw[hr.2.1]; exact h0.2,hr.2.2⟩
end G448
namespace G448
open Ev Go
set_option maxRecDepth 100000
theorem l1Pick_ens (c:TCur) (l:List (List UInt8)) (hc:CurOk c) (hl:0<l.length):Ens (spec_l1Pick (c,l,())) fun r=>0≤r.1.2.1∧r.2.1∈l:=by
 unfold spec_l1Pick
 refine (l1Below_ens c _ hc).bind fun r hr => ?_
 have h:r.2.1<(l.length:Int):=hr.2.2 (show (0:Int)<(l.length:Int) by omega)
 have h0:0≤r.2.1:=hr.2.1
 refine Ens.ite ⟨h0,h⟩ (Ens.some ⟨hr.1,rd_mem (e:=.str) ?_⟩)
 show r.2.1.toNat<l.length
 omega
theorem l2Dent_ens (c:TCur) (s:List UInt8) (hc:CurOk c) (hs:s.length≤100000):Ens (spec_l2Dent (c,s,())) fun r=>0≤r.1.2.1∧r.2.1.length≤s.length+1:=by
 unfold spec_l2Dent
 dsimp only
 have e0:wr ((s.length:Int)+1)=(s.length:Int)+1:=wr_id' (by omega) (by omega)
 rw[e0]
 refine (l1Below_ens c _ hc).bind fun r0 h0 => ?_
 have a0:=h0.2.2 (by omega)
 have b0:=h0.2.1
 refine (l1Below_ens (c.1,r0.1.2) 5 ⟨hc.1,h0.1⟩).bind fun r1 h1 => ?_
 refine Ens.cond (fun _ => ?_) fun _ => ?_
 ·refine Ens.ite (by omega) (Ens.some ⟨h1.1,?_⟩)
  simp only[List.length_take,List.length_drop]
  omega
 ·refine Ens.cond (fun _ => ?_) fun _=>Ens.some ⟨h1.1,by dsimp only; omega⟩
  refine Ens.ite (by omega) ?_
  refine (l1Pick_ens (c.1,r1.1.2) _ ⟨hc.1,h1.1⟩ (by simp)).bind fun r2 h2 => ?_
  have hp:r2.2.1.length=1:=by
   have:=h2.2
   simp only[List.mem_cons,List.not_mem_nil,or_false] at this
   rcases this with h|h|h|h|h|h|h<;>rw[h]<;>rfl
  refine Ens.ite (by simp only[List.length_take,List.length_drop]; omega) ?_
  refine Ens.ite (by omega) ?_
  refine Ens.ite (by simp only[List.length_append,List.length_take,List.length_drop]; omega) (Ens.some ⟨h2.1,?_⟩)
  simp only[List.length_append,List.length_take,List.length_drop]
  omega
theorem l5Draw_ens (c:TCur) (hc:CurOk c):Ens (spec_l5Draw (c,())) fun r=>0≤r.1.2.1∧r.2.1.length≤1930:=by
 unfold spec_l5Draw
 refine (l1Once_ens c 20 hc).bind fun r0 h0 => ?_
 refine Ens.cond (fun _ => ?_) fun _ => ?_
 ·refine Ens.loop (fun x=>(1≤x.2.1∧x.2.1≤32)∧(x.1.length:Int)≤8*x.2.1∧0≤x.2.2.1.2.1) (fun x=>(33 - x.2.1).toNat) ?_ ⟨by simp,by simp,h0⟩ (by dsimp only; rw[fuel_def]; omega)
  intro rec x hx hrec
  obtain⟨x1,x2,x3⟩:=hx
  refine (l1Below_ens (c.1,x.2.2.1.2) 2 ⟨hc.1,x3⟩).bind fun r2 h2 => ?_
  have a2:=h2.2.2 (by decide)
  have b2:=h2.2.1
  rw[wr_id' (n:=30+r2.2.1) (by omega) (by omega)]
  refine Ens.cond (fun h => ?_) fun h=>Ens.some ⟨h2.1,by dsimp only; omega⟩
  have h:x.2.1≤30+r2.2.1:=by simpa using h
  refine Ens.ite (by simp only[List.length_cons,List.length_nil]; omega) ?_
  obtain⟨u,hu⟩ : ∃ u:Nat,x.2.1=(u:Int):=⟨x.2.1.toNat,by omega⟩
  have hd:=dl u (by omega)
  rw[hu,spec_Digits_nat u (by omega),Option.bind_some]
  refine Ens.ite (by simp only[List.length_append,List.length_cons,List.length_nil]; omega) ?_
  refine Ens.ite (by simp only[List.length_append,List.length_cons,List.length_nil]; omega) ?_
  rw[←hu,wr_id' (n:=x.2.1+1) (by omega) (by omega)]
  exact hrec _ ⟨⟨by dsimp only; omega,by dsimp only; omega⟩,by simp only[List.length_append,List.length_cons,List.length_nil]; omega,h2.1⟩ (by dsimp only; omega)
 ·refine (l5DrawRight_ens (c.1,r0.1.2) ⟨hc.1,h0⟩).bind fun r4 h4 => ?_
  have hl:=nameOk_len h4.2
  exact (l2Dent_ens (c.1,r4.1.2) r4.2.1 ⟨hc.1,h4.1⟩ (by omega)).bind fun r5 h5=>Ens.some ⟨h5.1,by have:=h5.2; dsimp only; omega⟩
theorem l10Draw_ens (c:TCur) (conf:TConf) (hc:CurOk c):Ens (spec_l10Draw (c,conf,())) fun r=>0≤r.1.2.1∧r.2.1.2.1.length≤1930∧r.2.1.2.2.length≤8:=by
 unfold spec_l10Draw
 refine (l10DrawRight_ens c conf hc).bind fun r0 h0 => ?_
 have hl:=nameOk_len h0.2.1
 have hw:=h0.2.2
 refine (l1Below_ens (c.1,r0.1.2) 10 ⟨hc.1,h0.1⟩).bind fun r1 h1 => ?_
 refine Ens.cond (fun _ => ?_) fun _ => ?_
 ·exact (l1PickInt_ens (c.1,r1.1.2) _ ⟨hc.1,h1.1⟩ (by simp)).bind fun r2 h2=>Ens.some ⟨h2.1,by dsimp only; omega,by dsimp only; omega⟩
 refine Ens.cond (fun _ => ?_) fun _ => ?_
 ·exact (l6DrawSet_ens (c.1,r1.1.2) 7 ⟨hc.1,h1.1⟩ (by decide)).bind fun r2 h2=>Ens.some ⟨h2.1,by dsimp only; omega,h2.2⟩
 refine Ens.cond (fun _ => ?_) fun _ => ?_
 ·exact (l5Draw_ens (c.1,r1.1.2) ⟨hc.1,h1.1⟩).bind fun r2 h2=>Ens.some ⟨h2.1,h2.2,by dsimp only; omega⟩
 exact Ens.some ⟨h1.1,by dsimp only; omega,by dsimp only; omega⟩
theorem l14DrawRight_ens (c:TCur) (conf:TConf) (hc:CurOk c) (hN:conf.1≤8):Ens (spec_l14DrawRight (c,conf,())) fun r=>0≤r.1.2.1∧wMsg r.2.1≤4000:=by
 unfold spec_l14DrawRight
 refine (l1Below_ens c 4 hc).bind fun r0 h0 => ?_
 refine Ens.cond (fun _ => ?_) fun _ => ?_
 ·refine (l8DrawRight_ens (c.1,r0.1.2) conf ⟨hc.1,h0.1⟩ hN).bind fun r1 h1=>Ens.some ⟨h1.1,?_⟩
  have:=h1.2
  simp only[wMsg,wPart,wQc,wIntS,List.length_nil]
  omega
 refine Ens.cond (fun _ => ?_) fun _ => ?_
 ·refine (l10DrawRight_ens (c.1,r0.1.2) conf ⟨hc.1,h0.1⟩).bind fun r2 h2 => ?_
  have hl:=nameOk_len h2.2.1
  have hw:=h2.2.2
  refine Ens.cond (fun _ => ?_) fun _ => ?_
  ·have hn:=nameOf_len [] 1 [] (by decide)
   rw[spec_NameOf_eq [] 1 [] (by simp) (by decide) (by simp),Option.bind_some]
   refine Ens.some ⟨h2.1,?_⟩
   simp only[wMsg,wPart,wBlock,wQc,wIntS,List.length_nil] at hn ⊢
   omega
  ·refine Ens.some ⟨h2.1,?_⟩
   simp only[wMsg,wPart,wBlock,wQc,wIntS,List.length_nil]
   omega
 refine Ens.cond (fun _ => ?_) fun _ => ?_
 ·refine (l1Below_ens (c.1,r0.1.2) 6 ⟨hc.1,h0.1⟩).bind fun r4 h4 => ?_
  refine (l5DrawRight_ens (c.1,r4.1.2) ⟨hc.1,h4.1⟩).bind fun r5 h5 => ?_
  have hl:=nameOk_len h5.2
  refine (l7DrawOf_ens (c.1,r5.1.2) conf r5.2.1 ⟨hc.1,h5.1⟩ hN h5.2).bind fun r6 h6 => ?_
  obtain⟨k1,k2,k3,k4⟩:=h6
  have hw:=qc_w k3 k4 hl
  refine (l1Below_ens (c.1,r6.1.2) _ ⟨hc.1,k1⟩).bind fun r7 h7=>Ens.some ⟨h7.1,?_⟩
  simp only[wMsg,wPart,wBlock,wIntS,List.length_nil]
  simp only[wQc,wIntS,List.length_nil] at hw ⊢
  omega
 ·exact (l2DrawRight_ens (c.1,r0.1.2) ⟨hc.1,h0.1⟩).bind fun r8 h8=>Ens.some ⟨h8.1,by simp[wMsg,wPart,wBlock,wQc,wIntS]⟩
theorem l14Draw_ens (c:TCur) (conf:TConf) (hc:CurOk c) (hN:conf.1≤8):Ens (spec_l14Draw (c,conf,())) fun r=>0≤r.1.2.1∧wMsg r.2.1≤8000:=by
 unfold spec_l14Draw
 refine (l14DrawRight_ens c conf hc hN).bind fun r0 h0 => ?_
 have hw:=h0.2
 refine (l1Below_ens (c.1,r0.1.2) 12 ⟨hc.1,h0.1⟩).bind fun r1 h1 => ?_
 refine Ens.cond (fun _ => ?_) fun _ => ?_
 ·exact (l1Below_ens (c.1,r1.1.2) 7 ⟨hc.1,h1.1⟩).bind fun r2 h2=>Ens.some ⟨h2.1,by simp only[wMsg] at hw ⊢; omega⟩
 refine Ens.cond (fun _ => ?_) fun _ => ?_
 ·exact (l1PickInt_ens (c.1,r1.1.2) _ ⟨hc.1,h1.1⟩ (by simp)).bind fun r2 h2=>Ens.some ⟨h2.1,by simp only[wMsg] at hw ⊢; omega⟩
 refine Ens.cond (fun _ => ?_) fun _ => ?_
 ·exact (l1PickInt_ens (c.1,r1.1.2) _ ⟨hc.1,h1.1⟩ (by simp)).bind fun r2 h2=>Ens.some ⟨h2.1,by simp only[wMsg] at hw ⊢; omega⟩
 refine Ens.cond (fun _ => ?_) fun _ => ?_
 ·refine (l10Draw_ens (c.1,r1.1.2) conf ⟨hc.1,h1.1⟩).bind fun r2 h2=>Ens.some ⟨h2.1,?_⟩
  have:=h2.2
  simp only[wMsg,wPart,wIntS] at hw ⊢
  omega
 refine Ens.cond (fun _ => ?_) fun _ => ?_
 ·exact (l2Draw_ens (c.1,r1.1.2) ⟨hc.1,h1.1⟩).bind fun r2 h2=>Ens.some ⟨h2,by simp only[wMsg] at hw ⊢; omega⟩
 exact Ens.some ⟨h1.1,by dsimp only; omega⟩
theorem l12Dent_ens (c:TCur) (s:List UInt8) (hc:CurOk c) (hs:s.length≤100000):Ens (spec_l12Dent (c,s,())) fun r=>0≤r.1.2.1∧r.2.1.length≤s.length+1:=by
 unfold spec_l12Dent
 dsimp only
 have e0:wr ((s.length:Int)+1)=(s.length:Int)+1:=wr_id' (by omega) (by omega)
 rw[e0]
 refine (l1Below_ens c _ hc).bind fun r0 h0 => ?_
 have a0:=h0.2.2 (by omega)
 have b0:=h0.2.1
 refine (l1Below_ens (c.1,r0.1.2) 5 ⟨hc.1,h0.1⟩).bind fun r1 h1 => ?_
 refine Ens.cond (fun _ => ?_) fun _ => ?_
 ·refine Ens.ite (by omega) (Ens.some ⟨h1.1,?_⟩)
  simp only[List.length_take,List.length_drop]
  omega
 ·refine Ens.cond (fun _ => ?_) fun _=>Ens.some ⟨h1.1,by dsimp only; omega⟩
  refine Ens.ite (by omega) ?_
  refine Ens.ite (by simp only[List.length_take,List.length_drop]; omega) ?_
  refine (l1PickInt_ens (c.1,r1.1.2) _ ⟨hc.1,h1.1⟩ (by simp)).bind fun r2 h2 => ?_
  refine Ens.ite (by omega) ?_
  refine Ens.ite (by simp only[List.length_cons,List.length_nil,List.length_take,List.length_drop]; omega) ?_
  refine Ens.ite (by simp only[List.length_append,List.length_cons,List.length_nil,List.length_take,List.length_drop]; omega) (Ens.some ⟨h2.1,?_⟩)
  simp only[List.length_append,List.length_cons,List.length_nil,List.length_take,List.length_drop]
  omega
theorem DrawMsgOk_ens (code:List UInt8) (hb:code.length≤big):Ens (spec_DrawMsgOk (code,())) fun r=>confOk r.1=true∧wMsg r.2.1≤8000:=by
 unfold spec_DrawMsgOk
 refine (l1New_ens code hb).bind fun r0 h0 => ?_
 refine (l7DrawConf_ens r0 h0.1).bind fun r1 h1 => ?_
 have hN:=confOk_b h1.2
 exact (l14Draw_ens (r0.1,r1.1.2) r1.2.1 ⟨h0.1.1,h1.1⟩ (by omega)).bind fun r2 h2=>Ens.some ⟨h1.2,h2.2⟩
theorem DrawMsgOf_ens (code:List UInt8) (hb:code.length≤big):Ens (spec_DrawMsgOf (code,())) fun r=>confOk r.1=true∧r.2.1.length≤100000:=by
 unfold spec_DrawMsgOf
 refine (l1New_ens code hb).bind fun r0 h0 => ?_
 refine (l7DrawConf_ens r0 h0.1).bind fun r1 h1 => ?_
 have hN:=confOk_b h1.2
 refine (l14DrawRight_ens (r0.1,r1.1.2) r1.2.1 ⟨h0.1.1,h1.1⟩ (by omega)).bind fun r2 h2 => ?_
 have hw:=h2.2
 have hl:=msgBytes_len r1.2.1 r2.2.1
 rw[spec_MsgBytes_eq r1.2.1 r2.2.1 (by omega),Option.bind_some]
 exact (l12Dent_ens (r0.1,r2.1.2) _ ⟨h0.1.1,h2.1⟩ (by dsimp only; omega)).bind fun r4 h4=>Ens.some ⟨h1.2,by have:=h4.2; dsimp only at *; omega⟩
theorem DrawMsgSame_ens (code:List UInt8) (hb:code.length≤big):Ens (spec_DrawMsgSame (code,())) fun r=>wMsg r.1≤8000∧wMsg r.2.1≤8000:=by
 unfold spec_DrawMsgSame
 refine (l1New_ens code hb).bind fun r0 h0 => ?_
 refine (l7DrawConf_ens r0 h0.1).bind fun r1 h1 => ?_
 have hN:=confOk_b h1.2
 refine (l14Draw_ens (r0.1,r1.1.2) r1.2.1 ⟨h0.1.1,h1.1⟩ (by omega)).bind fun r2 h2 => ?_
 have hw:=h2.2
 refine (l1Once_ens (r0.1,r2.1.2) 2 ⟨h0.1.1,h2.1⟩).bind fun r3 h3 => ?_
 refine Ens.cond (fun _ => ?_) fun _ => ?_
 ·rw[spec_l14Copy_eq r2.2.1 (by omega),Option.bind_some]
  exact Ens.some ⟨hw,hw⟩
 ·exact (l14Draw_ens (r0.1,r3.1.2) r1.2.1 ⟨h0.1.1,h3⟩ (by omega)).bind fun r5 h5=>Ens.some ⟨hw,h5.2⟩
end G448
namespace G448
open Ev Go
set_option maxRecDepth 100000
theorem toB_small {n:Nat} (h:n<256):(toB (n:Int)).toNat=n:=by
 rw[toB_def]
 have e:((n:Int) % 256).toNat=n:=by omega
 rw[e]
 simp[UInt8.toNat_ofNat']
 omega
theorem toB_of (b:UInt8):toB (b.toNat:Int)=b:=by
 apply UInt8.toNat_inj.1
 exact toB_small (UInt8.toNat_lt b)
theorem putN_pos {n:Nat}:1≤(putN n).length:=by
 by_cases h:n>127
 ·rw[putN_big h]; simp
 ·rw[putN_small h]; simp
theorem getGo_put : ∀ (m n v k:Nat) (post:List UInt8),(putN n).length≤m→(k>0→n>0)→v+n*128 ^ k≤2147483647→getGo (putN n++post) v k m=some (v+n*128 ^ k,k+(putN n).length)
 | 0,n,v,k,post,h,_,_=>by have:=putN_pos (n:=n); omega
 | m+1,n,v,k,post,h,hk,hv=>by
  by_cases hn:n>127
  ·rw[putN_big hn] at h ⊢
   have hb:(toB ((n % 128+128:Nat):Int)).toNat=n % 128+128:=toB_small (by omega)
   simp only[List.cons_append,getGo,hb]
   rw[if_neg (by omega),show (n % 128+128) % 128=n % 128 by omega]
   have e:v+n % 128*128 ^ k+n / 128*128 ^ (k+1)=v+n*128 ^ k:=by
    rw[Nat.pow_succ,←Nat.mul_assoc,Nat.mul_right_comm,Nat.add_assoc,←Nat.add_mul]
    congr 2
    omega
   rw[getGo_put m (n / 128) _ (k+1) post (by simp at h; omega) (by omega) (by rw[e]; exact hv),e]
   simp
   omega
  ·rw[putN_small hn] at h ⊢
   have hb:(toB (n:Int)).toNat=n:=toB_small (by omega)
   simp only[List.cons_append,getGo,hb,List.nil_append]
   rw[if_pos (by omega),if_neg (by omega)]
   simp
theorem getGo_back : ∀ (l:List UInt8) (v k m:Nat) {p:Nat×Nat},getGo l v k m=some p → ∃ n post,l=putN n++post∧p.1=v+n*128 ^ k∧p.2=k+(putN n).length∧(k>0→n>0)
 | [],v,k,m,p,h=>by rw[getGo_nil] at h; cases h
 | b::l,v,k,0,p,h=>by cases h
 | b::l,v,k,m+1,p,h=>by
  simp only[getGo] at h
  split at h
  ·next hb=>
   split at h
   ·cases h
   ·next hc=>
    cases h
    refine⟨b.toNat,l,?_,rfl,?_,?_⟩
    ·rw[putN_small (by omega),toB_of]; rfl
    ·rw[putN_small (by omega)]; rfl
    ·intro hk
     rcases Nat.eq_zero_or_pos b.toNat with h0|h0
     ·exact absurd (.inl ⟨hk,h0⟩) hc
     ·exact h0
  ·next hb=>
   obtain⟨n',post,e1,e2,e3,e4⟩:=getGo_back l _ _ m h
   have hn':=e4 (by omega)
   have hlt:=UInt8.toNat_lt b
   have hn:n'*128+b.toNat % 128>127:=by omega
   have ed:(n'*128+b.toNat % 128) / 128=n':=by omega
   have em:(n'*128+b.toNat % 128) % 128+128=b.toNat:=by omega
   refine⟨n'*128+b.toNat % 128,post,?_,?_,?_,fun _=>by omega⟩
   ·rw[putN_big hn,ed,em,toB_of,e1]; rfl
   ·rw[e2,Nat.pow_succ,Nat.add_mul,←Nat.mul_assoc,Nat.mul_right_comm n' (128 ^ k) 128]
    omega
   ·rw[putN_big hn,ed,List.length_cons,e3]; omega
theorem putNum_nat {n:Nat} (h:n≤2147483647):putNum (n:Int)=putN n:=by
 unfold putNum
 rw[if_pos (by omega)]
 rfl
theorem getNum_fwd {s:List UInt8} {at_:Int} {n:Int} {post:List UInt8} (h0:0≤at_) (hn:0≤n∧n≤2147483647) (hs:s.drop at_.toNat=putNum n++post):getNum s at_=(n,at_+((putNum n).length:Int),true):=by
 obtain⟨k,rfl⟩:=Int.eq_ofNat_of_zero_le hn.1
 have hk:k≤2147483647:=by omega
 rw[putNum_nat hk] at hs ⊢
 unfold getNum
 have hl:=putN_len 5 k (by omega)
 rw[if_neg (by omega),hs,getGo_put 5 k 0 0 post (by simpa using hl) (by omega) (by simpa using hk)]
 simp
theorem getNum_bwd {s:List UInt8} {at_:Int} (h:(getNum s at_).2.2=true):(getNum s at_).2.1=at_+((putNum (getNum s at_).1).length:Int)∧s.drop at_.toNat=putNum (getNum s at_).1++s.drop (getNum s at_).2.1.toNat:=by
 have hb:=getNum_ok s at_ h
 unfold getNum at h hb ⊢
 split at h
 ·simp at h
 ·next ha=>
  rw[if_neg ha] at hb ⊢
  cases hg:getGo (s.drop at_.toNat) 0 0 5 with
  | none=>rw[hg] at h; simp at h
  | some p=>
   rw[hg] at hb
   obtain⟨n,post,e1,e2,e3,_⟩:=getGo_back _ _ _ _ hg
   simp only[Nat.pow_zero,Nat.mul_one,Nat.zero_add] at e2 e3
   simp only at hb ⊢
   rw[e2,putNum_nat (by omega),e3]
   refine⟨rfl,?_⟩
   have:(at_+((putN n).length:Int)).toNat=at_.toNat+(putN n).length:=by omega
   rw[this,←List.drop_drop,e1]
   simp
def Rds (s:List UInt8) (r r':RSt) (bs:List UInt8):Prop:=r.2=true∧0≤r.1∧r'=(r.1+(bs.length:Int),true)∧s.drop r.1.toNat=bs++s.drop r'.1.toNat
theorem Rds.app {s:List UInt8} {r r1 r2:RSt} {a b:List UInt8} (h1:Rds s r r1 a) (h2:Rds s r1 r2 b):Rds s r r2 (a++b):=by
 obtain⟨a1,a2,a3,a4⟩:=h1
 obtain⟨b1,b2,b3,b4⟩:=h2
 refine⟨a1,a2,?_,?_⟩
 ·rw[b3,a3,List.length_append]; simp only[Prod.mk.injEq,and_true]; omega
 ·rw[a4,b4,List.append_assoc]
theorem Rds.all {s:List UInt8} {r':RSt} {bs:List UInt8} (h:Rds s (0,true) r' bs) (hl:r'.1=(s.length:Int)):s=bs:=by
 obtain⟨_,_,_,h4⟩:=h
 rw[hl] at h4
 simpa using h4
theorem rdNum_fwd {s:List UInt8} {r:RSt} {n:Int} {post:List UInt8} (hr:r.2=true) (h0:0≤r.1) (hn:0≤n∧n≤2147483647) (hs:s.drop r.1.toNat=putNum n++post):rdNum s r=((r.1+((putNum n).length:Int),true),n)∧s.drop (r.1+((putNum n).length:Int)).toNat=post:=by
 unfold rdNum
 rw[getNum_fwd h0 hn hs,if_pos ⟨rfl,hr⟩]
 refine⟨rfl,?_⟩
 have:(r.1+((putNum n).length:Int)).toNat=r.1.toNat+(putNum n).length:=by omega
 rw[this,←List.drop_drop,hs]
 simp
theorem rdNum_bwd {s:List UInt8} {r:RSt} (h:(rdNum s r).1.2=true):Rds s r (rdNum s r).1 (putNum (rdNum s r).2):=by
 have h1:=rdNum_ok h
 unfold rdNum at h h1 ⊢
 split at h
 ·next hc=>
  rw[if_pos hc]
  obtain⟨e1,e2⟩:=getNum_bwd hc.1
  exact⟨hc.2,h1.2.1,by rw[e1],e2⟩
 ·simp at h
theorem rdText_fwd {s:List UInt8} {r:RSt} {t post:List UInt8} (hr:r.2=true) (h0:0≤r.1) (ht:t.length≤2147483647) (hs:s.drop r.1.toNat=putText t++post):rdText s r=((r.1+((putText t).length:Int),true),t)∧s.drop (r.1+((putText t).length:Int)).toNat=post:=by
 unfold putText at hs ⊢
 rw[List.append_assoc] at hs
 have hg:=getNum_fwd h0 (n:=(t.length:Int)) (by omega) hs
 have e1:(r.1+((putNum (t.length:Int)).length:Int)).toNat=r.1.toNat+(putNum (t.length:Int)).length:=by omega
 have e2:s.drop (r.1+((putNum (t.length:Int)).length:Int)).toNat=t++post:=by
  rw[e1,←List.drop_drop,hs]; simp
 have hlen:r.1.toNat+(putNum (t.length:Int)).length+t.length≤s.length:=by
  have:=congrArg List.length hs
  simp only[List.length_drop,List.length_append] at this
  have:=putN_pos (n:=t.length)
  rw[putNum_nat ht] at *
  omega
 have hgt:getText s r.1=(t,r.1+((putNum (t.length:Int)).length:Int)+(t.length:Int),true):=by
  unfold getText
  rw[hg]
  simp only
  rw[if_pos ⟨trivial,by omega⟩,e2]
  simp
 unfold rdText
 rw[hgt,if_pos ⟨rfl,hr⟩]
 simp only[List.length_append]
 refine⟨by simp only[Prod.mk.injEq,and_true]; omega,?_⟩
 have e3:(r.1+(((putNum (t.length:Int)).length+t.length:Nat):Int)).toNat=(r.1+((putNum (t.length:Int)).length:Int)).toNat+t.length:=by omega
 rw[e3,←List.drop_drop,e2]
 simp
theorem rdText_bwd {s:List UInt8} {r:RSt} (h:(rdText s r).1.2=true):Rds s r (rdText s r).1 (putText (rdText s r).2):=by
 have h1:=rdText_ok h
 unfold rdText at h h1 ⊢
 split at h
 ·next hc=>
  rw[if_pos hc]
  have hg:=hc.1
  unfold getText at hg ⊢
  split at hg
  ·next hh=>
   rw[if_pos hh]
   have hok:=getNum_ok s r.1 hh.1
   obtain⟨e1,e2⟩:=getNum_bwd hh.1
   have hle:=hh.2
   have hl:((s.drop (getNum s r.1).2.1.toNat).take (getNum s r.1).1.toNat).length=(getNum s r.1).1.toNat:=by
    simp only[List.length_take,List.length_drop]; omega
   unfold putText
   simp only
   rw[hl,show (((getNum s r.1).1.toNat:Nat):Int)=(getNum s r.1).1 by omega]
   refine⟨hc.2,hok.1,?_,?_⟩
   ·rw[List.length_append,hl]
    simp only[Prod.mk.injEq,and_true]
    omega
   ·rw[e2,List.append_assoc]
    congr 1
    have:((getNum s r.1).2.1+(getNum s r.1).1).toNat=(getNum s r.1).2.1.toNat+(getNum s r.1).1.toNat:=by omega
    rw[this,←List.drop_drop,List.take_append_drop]
  ·simp at hg
 ·simp at h
theorem nums_cons (x:Int) (l:List Int):nums (x::l)=putNum x++nums l:=by unfold nums; simp
theorem whoGo_fwd {s:List UInt8} : ∀ (l:List Int) (r:RSt) (out:List Int) (post:List UInt8),r.2=true→0≤r.1→(∀ x∈l,0≤x∧x≤2147483647)→s.drop r.1.toNat=nums l++post →
  whoGo s l.length r out=((r.1+((nums l).length:Int),true),out++l)∧s.drop (r.1+((nums l).length:Int)).toNat=post
 | [],r,out,post,hr,h0,_,hs=>by
  obtain⟨a,b⟩:=r
  simp only at hr
  subst hr
  refine⟨by simp[whoGo,nums],?_⟩
  simpa[nums] using hs
 | x::l,r,out,post,hr,h0,hx,hs=>by
  rw[nums_cons,List.append_assoc] at hs
  obtain⟨e1,e2⟩:=rdNum_fwd hr h0 (hx x (by simp)) hs
  obtain⟨k1,k2⟩:=whoGo_fwd l (r.1+((putNum x).length:Int),true) (out++[x]) post rfl (by simp only; omega) (fun y hy=>hx y (by simp[hy])) e2
  simp only[List.length_cons,whoGo]
  rw[if_pos hr,e1]
  simp only
  have e3:r.1+((putNum x).length:Int)+((nums l).length:Int)=r.1+((nums (x::l)).length:Int):=by rw[nums_cons,List.length_append]; omega
  rw[e3] at k1 k2
  exact⟨by rw[k1]; simp,k2⟩
theorem whoGo_bwd {s:List UInt8} : ∀ (n:Nat) (r:RSt) (out:List Int),r.2=true→(whoGo s n r out).1.2=true → ∃ l,(whoGo s n r out).2=out++l∧l.length=n∧(0≤r.1→Rds s r (whoGo s n r out).1 (nums l))
 | 0,r,out,hr,h=>⟨[],by simp[whoGo],rfl,fun h0=>⟨hr,h0,by obtain⟨a,b⟩:=r; simp only at hr; subst hr; simp[whoGo,nums],by simp[whoGo,nums]⟩⟩
 | n+1,r,out,hr,h=>by
  simp only[whoGo] at h ⊢
  rw[if_pos hr] at h ⊢
  cases hr1:(rdNum s r).1.2 with
  | false=>
   exfalso
   have : ∀ m o,(whoGo s m (rdNum s r).1 o).1.2=false:=by
    intro m o
    cases m with
    | zero=>exact hr1
    | succ m=>simp only[whoGo]; rw[if_neg (by rw[hr1]; decide)]; exact hr1
   rw[this] at h
   cases h
  | true=>
   obtain⟨l,e1,e2,e3⟩:=whoGo_bwd n (rdNum s r).1 (out++[(rdNum s r).2]) hr1 h
   have hb:=rdNum_bwd hr1
   have hk:=rdNum_ok hr1
   refine⟨(rdNum s r).2::l,by rw[e1]; simp,by simp[e2],fun h0 => ?_⟩
   rw[nums_cons]
   exact hb.app (e3 (by omega))
theorem rdWho_fwd {s:List UInt8} {r:RSt} {l:List Int} {post:List UInt8} (hr:r.2=true) (h0:0≤r.1) (hl:l.length≤2147483647) (hx : ∀ x∈l,0≤x∧x≤2147483647) (hs:s.drop r.1.toNat=putNum (l.length:Int)++(nums l++post)) :
  rdWho s r=((r.1+(((putNum (l.length:Int))++nums l).length:Int),true),l)∧s.drop (r.1+(((putNum (l.length:Int))++nums l).length:Int)).toNat=post:=by
 obtain⟨e1,e2⟩:=rdNum_fwd hr h0 (n:=(l.length:Int)) (by omega) hs
 unfold rdWho
 rw[e1]
 simp only[Int.toNat_natCast]
 obtain⟨k1,k2⟩:=whoGo_fwd l (r.1+((putNum (l.length:Int)).length:Int),true) [] post rfl (by simp only; omega) hx e2
 have e3:r.1+((putNum (l.length:Int)).length:Int)+((nums l).length:Int)=r.1+(((putNum (l.length:Int))++nums l).length:Int):=by rw[List.length_append]; omega
 simp only at k1 k2
 rw[e3] at k1 k2
 exact⟨by rw[k1]; simp,k2⟩
theorem rdWho_bwd {s:List UInt8} {r:RSt} (h:(rdWho s r).1.2=true):Rds s r (rdWho s r).1 (putNum ((rdWho s r).2.length:Int)++nums (rdWho s r).2):=by
 unfold rdWho at h ⊢
 cases hr1:(rdNum s r).1.2 with
 | false=>
  exfalso
  have : ∀ m o,(whoGo s m (rdNum s r).1 o).1.2=false:=by
   intro m o
   cases m with
   | zero=>exact hr1
   | succ m=>simp only[whoGo]; rw[if_neg (by rw[hr1]; decide)]; exact hr1
  rw[this] at h
  cases h
 | true=>
  obtain⟨l,e1,e2,e3⟩:=whoGo_bwd _ _ _ hr1 h
  have hb:=rdNum_bwd hr1
  have hk:=rdNum_ok hr1
  have hnb:=rdNum_b s r
  rw[e1]
  simp only[List.nil_append]
  rw[e2,show (((rdNum s r).2.toNat:Nat):Int)=(rdNum s r).2 by omega]
  exact hb.app (e3 (by omega))
end G448
namespace G448
open Ev Go
set_option maxRecDepth 100000
noncomputable def qcRaw (q:TQc):List UInt8:=putNum q.1++(putText q.2.1++(putNum (q.2.2.length:Int)++nums q.2.2))
theorem qcBytes_raw {c:TConf} {q:TQc} (h:qcOk c q=true):qcBytes c q=qcRaw q:=by
 unfold qcBytes qcRaw
 rw[h]
 simp only[cond_true,List.append_assoc]
theorem rdQc_fwd {s:List UInt8} {r:RSt} {q:TQc} {post:List UInt8} (hr:r.2=true) (h0:0≤r.1) (hv:0≤q.1∧q.1≤2147483647) (hn:q.2.1.length≤2147483647) (hl:q.2.2.length≤2147483647) (hx : ∀ x∈q.2.2,0≤x∧x≤2147483647)
  (hs:s.drop r.1.toNat=qcRaw q++post):rdQc s r=((r.1+((qcRaw q).length:Int),true),q)∧s.drop (r.1+((qcRaw q).length:Int)).toNat=post:=by
 unfold qcRaw at hs ⊢
 simp only[List.append_assoc] at hs
 obtain⟨a1,a2⟩:=rdNum_fwd hr h0 hv hs
 obtain⟨b1,b2⟩:=rdText_fwd (r:=(r.1+((putNum q.1).length:Int),true)) rfl (by simp only; omega) hn a2
 obtain⟨d1,d2⟩:=rdWho_fwd (r:=(r.1+((putNum q.1).length:Int)+((putText q.2.1).length:Int),true)) rfl (by simp only; omega) hl hx b2
 unfold rdQc
 rw[a1]
 simp only
 rw[b1]
 simp only
 rw[d1]
 simp only at d2
 have e:r.1+((putNum q.1).length:Int)+((putText q.2.1).length:Int)+(((putNum (q.2.2.length:Int))++nums q.2.2).length:Int)=r.1+((putNum q.1++(putText q.2.1++(putNum (q.2.2.length:Int)++nums q.2.2))).length:Int):=by
  simp only[List.length_append]; omega
 rw[e] at d2
 rw[e]
 exact⟨rfl,d2⟩
theorem rdQc_bwd {s:List UInt8} {r:RSt} (h:(rdQc s r).1.2=true):Rds s r (rdQc s r).1 (qcRaw (rdQc s r).2):=by
 unfold rdQc at h ⊢
 have h3:=rdWho_ok h
 have h2:=rdText_ok h3.1
 exact (rdNum_bwd h2.1).app ((rdText_bwd h3.1).app (rdWho_bwd h))
theorem nums_nil:nums []=[]:=by unfold nums; simp
theorem finM_ok {c:TConf} {s:List UInt8} {r:RSt} {m:TMsg} (h:(finM c s r m).2=true):r.2=true∧r.1=(s.length:Int)∧msgOk c m=true∧(finM c s r m).1=m:=by
 unfold finM at h ⊢
 cases hc:(r.2 && (r.1==(s.length:Int) && msgOk c m))
 ·rw[hc] at h; cases h
 ·simp only[Bool.and_eq_true,beq_iff_eq] at hc
  exact⟨hc.1,hc.2.1,hc.2.2,rfl⟩
theorem finM_fwd {c:TConf} {s:List UInt8} {r:RSt} {m:TMsg} (h1:r.2=true) (h2:r.1=(s.length:Int)) (h3:msgOk c m=true):finM c s r m=(m,true):=by
 unfold finM
 rw[h1,h2,h3]
 simp
theorem msgOk_q1 {c:TConf} {m:TMsg} (h:msgOk c m=true) (k:(m.1==1)=true):qcOk c m.2.2.1.2=true∧nameOk m.2.2.1.1=true:=by
 unfold msgOk at h
 rw[k] at h
 simp only[Bool.and_eq_true,cond_true] at h
 have:=h.2.2
 unfold blockOk at this
 simp only[Bool.and_eq_true] at this
 exact⟨this.1,this.2.1⟩
theorem msgOk_q3 {c:TConf} {m:TMsg} (h:msgOk c m=true) (k1:(m.1==1)=false) (k2:(m.1==2)=false) (k:(m.1==3)=true):qcOk c m.2.2.2.2.1=true∧(1≤m.2.1∧m.2.1≤60)∧(0≤m.2.2.2.2.2.1∧m.2.2.2.2.2.1≤7):=by
 unfold msgOk at h
 rw[k,k1,k2] at h
 simp only[Bool.and_eq_true,cond_true,cond_false,decide_eq_true_eq] at h
 obtain⟨h1,_,h3,h4,h5⟩:=h
 have hc:=confOk_b h1
 rw[wr_id' (n:=c.1 - 1) (by omega) (by omega)] at h5
 exact⟨h4,h3,by omega⟩
theorem msgOk_q2 {c:TConf} {m:TMsg} (h:msgOk c m=true) (k1:(m.1==1)=false) (k:(m.1==2)=true):partOk c m.2.2.2.1=true:=by
 unfold msgOk at h
 rw[k,k1] at h
 simp only[Bool.and_eq_true,cond_true,cond_false] at h
 exact h.2.2.1
theorem msgOk_q4 {c:TConf} {m:TMsg} (h:msgOk c m=true) (k1:(m.1==1)=false) (k2:(m.1==2)=false) (k3:(m.1==3)=false):m.1=4∧txOk m.2.2.2.2.2.2=true:=by
 unfold msgOk at h
 rw[k1,k2,k3] at h
 simp only[Bool.and_eq_true,cond_false] at h
 have:=h.2.2
 cases k4:(m.1==4)<;>rw[k4] at this
 ·cases this
 ·exact⟨by simpa using k4,this⟩
theorem msgOf_back {c:TConf} {s:List UInt8} (h:(msgOf c s).2=true):msgBytes c (msgOf c s).1=s:=by
 unfold msgOf at h ⊢
 simp only at h ⊢
 cases k1:((rdNum s (0,true)).2==1)<;>rw[k1] at h
 ·cases k2:((rdNum s (0,true)).2==2)<;>rw[k2] at h
  ·cases k3:((rdNum s (0,true)).2==3)<;>rw[k3] at h
   ·cases k4:((rdNum s (0,true)).2==4)<;>rw[k4] at h
    ·simp only[cond_false] at h ⊢
     obtain⟨g1,g2,g3,g4⟩:=finM_ok h
     obtain⟨q1,q2⟩:=msgOk_q4 g3 k1 k2 k3
     simp only at q1
     rw[q1] at k4
     cases k4
    ·simp only[cond_false,cond_true] at h ⊢
     obtain⟨g1,g2,g3,g4⟩:=finM_ok h
     rw[g4]
     have n4:=rdNum_ok g1
     have n3:=rdNum_ok n4.1
     have n2:=rdNum_ok n3.1
     have n1:=rdNum_ok n2.1
     have hb:=(rdNum_bwd n1.1).app ((rdNum_bwd n2.1).app ((rdNum_bwd n3.1).app ((rdNum_bwd n4.1).app (rdNum_bwd g1))))
     have hs:=hb.all g2
     unfold msgBytes
     rw[g3]
     simp only[cond_true]
     rw[k1,k2,k3]
     simp only[cond_false,nums_cons,nums_nil,List.append_nil]
     exact hs.symm
   ·simp only[cond_false,cond_true] at h ⊢
    obtain⟨g1,g2,g3,g4⟩:=finM_ok h
    rw[g4]
    obtain⟨q1,q2,q3⟩:=msgOk_q3 g3 k1 k2 k3
    have n4:=rdQc_ok g1
    have n3:=rdNum_ok n4.1
    have n2:=rdNum_ok n3.1
    have hb:=(rdNum_bwd n2.1).app ((rdNum_bwd n3.1).app ((rdNum_bwd n4.1).app (rdQc_bwd g1)))
    have hs:=hb.all g2
    unfold msgBytes
    rw[g3]
    simp only[cond_true]
    rw[k1,k2,k3]
    simp only[cond_false,cond_true,nums_cons,nums_nil,List.append_nil]
    rw[qcBytes_raw q1]
    simp only[List.append_assoc]
    exact hs.symm
  ·simp only[cond_false,cond_true] at h ⊢
   obtain⟨g1,g2,g3,g4⟩:=finM_ok h
   rw[g4]
   have n4:=rdWho_ok g1
   have n3:=rdText_ok n4.1
   have n2:=rdNum_ok n3.1
   have hb:=(rdNum_bwd n2.1).app ((rdNum_bwd n3.1).app ((rdText_bwd n4.1).app (rdWho_bwd g1)))
   have hs:=hb.all g2
   unfold msgBytes
   rw[g3]
   simp only[cond_true]
   rw[k1,k2]
   simp only[cond_false,cond_true,List.append_assoc]
   exact hs.symm
 ·simp only[cond_true] at h ⊢
  obtain⟨g1,g2,g3,g4⟩:=finM_ok h
  rw[g4]
  obtain⟨q1,q2⟩:=msgOk_q1 g3 k1
  have n3:=rdQc_ok g1
  have n2:=rdText_ok n3.1
  have hb:=(rdNum_bwd n2.1).app ((rdText_bwd n3.1).app (rdQc_bwd g1))
  have hs:=hb.all g2
  unfold msgBytes
  rw[g3]
  simp only[cond_true]
  rw[k1]
  simp only[cond_true]
  rw[qcBytes_raw q1,List.append_assoc]
  exact hs.symm
theorem view_rng {c:TConf} {q:TQc} (h:qcOk c q=true):(0≤q.1∧q.1≤2147483647)∧q.2.1.length≤2147483647∧q.2.2.length≤2147483647 ∧ ∀ x∈q.2.2,0≤x∧x≤2147483647:=by
 have hw:=qcOk_w h
 unfold qcOk at h
 simp only[Bool.and_eq_true,beq_iff_eq] at h
 obtain⟨h1,h2,h3,h4⟩:=h
 have hc:=confOk_b h1
 have hv:=viewOf_b h2
 simp only[wQc,wIntS] at hw
 refine⟨by omega,by omega,by omega,?_⟩
 cases he:(q.2.1==([]:List UInt8))<;>rw[he] at h4
 ·simp only[cond_false,Bool.and_eq_true] at h4
  intro x hx
  have:=setOk_mem h4.1 x hx
  omega
 ·simp only[cond_true,beq_iff_eq] at h4
  intro x hx
  have:q.2.2=[]:=List.length_eq_zero_iff.1 (by omega)
  rw[this] at hx
  cases hx
theorem msgOf_fwd {c:TConf} {m:TMsg} (h:msgOk c m=true):msgOf c (msgBytes c m)=(m,true):=by
 have hcan:canon m=m:=by
  have h':=h
  unfold msgOk at h'
  simp only[Bool.and_eq_true] at h'
  exact msgSame_eq h'.2.1
 generalize hs:msgBytes c m=s
 unfold msgBytes at hs
 rw[h] at hs
 simp only[cond_true] at hs
 unfold msgOf
 simp only
 unfold canon at hcan
 cases k1:(m.1==1)<;>rw[k1] at hs hcan
 ·cases k2:(m.1==2)<;>rw[k2] at hs hcan
  ·cases k3:(m.1==3)<;>rw[k3] at hs hcan
   ·obtain⟨q1,q2⟩:=msgOk_q4 h k1 k2 k3
    have q2:=(txOk_iff _).1 q2
    rw[show (m.1==4)=true by rw[q1]; rfl] at hcan
    simp only[cond_false,cond_true,nums_cons,nums_nil,List.append_nil] at hs hcan
    obtain⟨a1,a2⟩:=rdNum_fwd (s:=s) (r:=(0,true)) (n:=m.1) (post:=_) rfl (Int.le_refl _) (by omega) (by rw[←hs]; rfl)
    simp only[Int.zero_add] at a1 a2
    obtain⟨b1,b2⟩:=rdNum_fwd (r:=(((putNum m.1).length:Int),true)) rfl (by simp only; omega) (show 0≤m.2.2.2.2.2.2.1∧_ by omega) a2
    obtain⟨d1,d2⟩:=rdNum_fwd (r:=(((putNum m.1).length:Int)+((putNum m.2.2.2.2.2.2.1).length:Int),true)) rfl (by simp only; omega) (show 0≤m.2.2.2.2.2.2.2.1∧_ by omega) b2
    obtain⟨e1,e2⟩:=rdNum_fwd (r:=(((putNum m.1).length:Int)+((putNum m.2.2.2.2.2.2.1).length:Int)+((putNum m.2.2.2.2.2.2.2.1).length:Int),true)) rfl (by simp only; omega) (show 0≤m.2.2.2.2.2.2.2.2.1∧_ by omega) d2
    obtain⟨f1,f2⟩:=rdNum_fwd (r:=(((putNum m.1).length:Int)+((putNum m.2.2.2.2.2.2.1).length:Int)+((putNum m.2.2.2.2.2.2.2.1).length:Int)+((putNum m.2.2.2.2.2.2.2.2.1).length:Int),true)) (post:=[]) rfl (by simp only; omega) (show 0≤m.2.2.2.2.2.2.2.2.2∧_ by omega) (by rw[List.append_nil]; exact e2)
    rw[a1]
    simp only
    rw[b1]
    simp only
    rw[d1]
    simp only
    rw[e1]
    simp only
    rw[f1]
    simp only
    rw[k1,k2,k3,show (m.1==4)=true by rw[q1]; rfl]
    simp only[cond_false,cond_true]
    have hl:=congrArg List.length hs
    simp only[List.length_append] at hl
    rw[show (m.1,0,(([]:List UInt8),0,[],[]),(0,[],[]),(0,[],[]),0,m.2.2.2.2.2.2.1,m.2.2.2.2.2.2.2.1,m.2.2.2.2.2.2.2.2.1,m.2.2.2.2.2.2.2.2.2)=m from hcan]
    exact finM_fwd rfl (by simp only; omega) h
   ·obtain⟨q1,q2,q3⟩:=msgOk_q3 h k1 k2 k3
    obtain⟨v1,v2,v3,v4⟩:=view_rng q1
    have q0:m.1=3:=by simpa using k3
    simp only[cond_false,cond_true,nums_cons,nums_nil,List.append_nil] at hs hcan
    rw[qcBytes_raw q1] at hs
    simp only[List.append_assoc] at hs
    obtain⟨a1,a2⟩:=rdNum_fwd (s:=s) (r:=(0,true)) (n:=m.1) (post:=_) rfl (Int.le_refl _) (by omega) (by rw[←hs]; rfl)
    simp only[Int.zero_add] at a1 a2
    obtain⟨b1,b2⟩:=rdNum_fwd (r:=(((putNum m.1).length:Int),true)) rfl (by simp only; omega) (show 0≤m.2.1∧_ by omega) a2
    obtain⟨d1,d2⟩:=rdNum_fwd (r:=(((putNum m.1).length:Int)+((putNum m.2.1).length:Int),true)) rfl (by simp only; omega) (show 0≤m.2.2.2.2.2.1∧_ by omega) b2
    obtain⟨e1,e2⟩:=rdQc_fwd (r:=(((putNum m.1).length:Int)+((putNum m.2.1).length:Int)+((putNum m.2.2.2.2.2.1).length:Int),true)) (post:=[]) rfl (by simp only; omega) v1 v2 v3 v4 (by rw[List.append_nil]; exact d2)
    rw[a1]
    simp only
    rw[b1]
    simp only
    rw[d1]
    simp only
    rw[e1]
    simp only
    rw[k1,k2,k3]
    simp only[cond_false,cond_true]
    have hl:=congrArg List.length hs
    simp only[List.length_append] at hl
    rw[show (m.1,m.2.1,(([]:List UInt8),0,[],[]),(0,[],[]),m.2.2.2.2.1,m.2.2.2.2.2.1,0,0,0,0)=m from hcan]
    exact finM_fwd rfl (by simp only; omega) h
  ·have q1:=msgOk_q2 h k1 k2
   have hw:=partOk_w q1
   unfold partOk at q1
   simp only[Bool.and_eq_true,decide_eq_true_eq] at q1
   obtain⟨p1,p2,p3,p4,p5⟩:=q1
   have hc:=confOk_b p1
   have q0:m.1=2:=by simpa using k2
   simp only[wPart,wIntS] at hw
   simp only[cond_false,cond_true] at hs hcan
   simp only[List.append_assoc] at hs
   obtain⟨a1,a2⟩:=rdNum_fwd (s:=s) (r:=(0,true)) (n:=m.1) (post:=_) rfl (Int.le_refl _) (by omega) (by rw[←hs]; rfl)
   simp only[Int.zero_add] at a1 a2
   obtain⟨b1,b2⟩:=rdNum_fwd (r:=(((putNum m.1).length:Int),true)) rfl (by simp only; omega) (show 0≤m.2.2.2.1.1∧_ by omega) a2
   obtain⟨d1,d2⟩:=rdText_fwd (r:=(((putNum m.1).length:Int)+((putNum m.2.2.2.1.1).length:Int),true)) rfl (by simp only; omega) (show m.2.2.2.1.2.1.length≤_ by omega) b2
   obtain⟨e1,e2⟩:=rdWho_fwd (r:=(((putNum m.1).length:Int)+((putNum m.2.2.2.1.1).length:Int)+((putText m.2.2.2.1.2.1).length:Int),true)) (post:=[]) rfl (by simp only; omega) (show m.2.2.2.1.2.2.length≤_ by omega) (fun x hx=>by have:=setOk_mem p3 x hx; omega) (by rw[List.append_nil]; exact d2)
   rw[a1]
   simp only
   rw[b1]
   simp only
   rw[d1]
   simp only
   rw[e1]
   simp only
   rw[k1,k2]
   simp only[cond_false,cond_true]
   have hl:=congrArg List.length hs
   simp only[List.length_append] at hl
   rw[show (m.1,0,(([]:List UInt8),0,[],[]),(m.2.2.2.1.1,m.2.2.2.1.2.1,m.2.2.2.1.2.2),(0,[],[]),0,0,0,0,0)=m from hcan]
   exact finM_fwd rfl (by simp only[List.length_append]; omega) h
 ·obtain⟨q1,q2⟩:=msgOk_q1 h k1
  obtain⟨v1,v2,v3,v4⟩:=view_rng q1
  have hn:=nameOk_len q2
  have q0:m.1=1:=by simpa using k1
  simp only[cond_true] at hs hcan
  rw[qcBytes_raw q1] at hs
  simp only[List.append_assoc] at hs
  obtain⟨a1,a2⟩:=rdNum_fwd (s:=s) (r:=(0,true)) (n:=m.1) (post:=_) rfl (Int.le_refl _) (by omega) (by rw[←hs]; rfl)
  simp only[Int.zero_add] at a1 a2
  obtain⟨b1,b2⟩:=rdText_fwd (r:=(((putNum m.1).length:Int),true)) rfl (by simp only; omega) (show m.2.2.1.1.length≤_ by omega) a2
  obtain⟨d1,d2⟩:=rdQc_fwd (r:=(((putNum m.1).length:Int)+((putText m.2.2.1.1).length:Int),true)) (post:=[]) rfl (by simp only; omega) v1 v2 v3 v4 (by rw[List.append_nil]; exact b2)
  rw[a1]
  simp only
  rw[b1]
  simp only
  rw[d1]
  simp only
  rw[k1]
  simp only[cond_true]
  have hl:=congrArg List.length hs
  simp only[List.length_append] at hl
  rw[show (m.1,0,(m.2.2.1.1,m.2.2.1.2),(0,[],[]),(0,[],[]),0,0,0,0,0)=m from hcan]
  exact finM_fwd rfl (by simp only; omega) h
end G448
namespace G448
open Ev Go
set_option maxRecDepth 100000
theorem law_Messages (code:List UInt8) (hb:code.length≤big):laws_FnMessages (code,())=some (true,()):=by
 unfold laws_FnMessages laws_big
 dsimp only
 by_cases hbig:(code.length:Int)>1048576
 ·simp[hbig]
 simp only[hbig,decide_false,Option.bind_some,cond_false]
 obtain⟨⟨c,m,_⟩,e1,h1,h2⟩:=DrawMsgOk_ens code hb
 obtain⟨⟨d,x,_⟩,e2,h3,h4⟩:=DrawMsgOf_ens code hb
 obtain⟨⟨p,q,_⟩,e3,h5,h6⟩:=DrawMsgSame_ens code hb
 simp only at h1 h2 h3 h4 h5 h6
 have e1':spec_DrawMsgBytes (code,())=some (c,m,()):=by
  unfold spec_DrawMsgBytes
  rw[e1]
  rfl
 have hl:=msgBytes_len c m
 have hw:=msgOf_w d x (by omega)
 have hself : ∀ z:TMsg,msgSame z z=true:=fun z=>(msgSame_iff z z).2 rfl
 have hrd:impl_MsgOf (c,msgBytes c m,())=some ((msgOf c (msgBytes c m)).1,(msgOf c (msgBytes c m)).2,()):=impl_MsgOf_eq c (msgBytes c m) (by omega)
 have htail:((impl_MsgOk (c,m,())).bind fun r14=>bif !r14.1 then some (((msgBytes c m).length:Int)==0,()) else (impl_MsgOf (c,msgBytes c m,())).bind fun r15=>bif r15.2.1 then (impl_MsgSame (r15.1,m,())).bind fun r16=>some (r16.1,()) else some (false,()))=some (true,()):=by
  rw[impl_MsgOk_eq c m (by omega),Option.bind_some]
  cases hok:msgOk c m
  ·have e0:msgBytes c m=[]:=by unfold msgBytes; rw[hok]; rfl
   simp[e0]
  ·simp only[Bool.not_true,cond_false,hrd,Option.bind_some,msgOf_fwd hok,cond_true]
   rw[impl_MsgSame_eq m m (MsgW.of (by omega)),Option.bind_some,hself]
 simp only[e1',e2,e3,Option.bind_some,impl_MsgBytes_eq c m (by omega),spec_MsgBytes_eq c m (by omega),impl_MsgOf_eq d x (by omega),spec_MsgOf_eq d x (by omega),bne_self_eq_false,cond_false,impl_MsgSame_eq (msgOf d x).1 (msgOf d x).1 (MsgW.of (by omega)),hself,
  Bool.not_true,spec_MsgOk_eq c m (by omega),impl_MsgSame_eq p q (MsgW.of (by omega)),spec_MsgSame_eq p q (MsgW.of (by omega))]
 rw[impl_MsgOk_eq c m (by omega)]
 rw[impl_MsgOk_eq c m (by omega)] at htail
 simp only[Option.bind_some,bne_self_eq_false,cond_false] at htail ⊢
 cases hm:(msgOf d x).2
 ·simp only[cond_false]
  exact htail
 ·simp only[cond_true]
  rw[impl_MsgBytes_eq d (msgOf d x).1 (by omega),Option.bind_some,msgOf_back hm]
  simp only[bne_self_eq_false,cond_false]
  exact htail
end G448
