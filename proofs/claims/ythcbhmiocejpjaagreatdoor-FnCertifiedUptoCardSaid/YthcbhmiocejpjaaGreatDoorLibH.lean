/- The evaluator of the own library, part 8: contracts of functions of Go's library, out of the kit's. Conditions: none of its own. -/
import Derived.Test.YthcbhmiocejpjaaGreatDoorLibG
import Derived.Lib.ItoaNum
import Derived.Lib.Split
import Derived.Lib.Join
import Derived.Lib.LastIndexByte
import Derived.Lib.SplitLaws
import Derived.Shelf.Abstract
import Derived.WalkKit
import Derived.Laws.Rows
import Derived.Below
import Derived.Deep.Draws
import Derived.Sort.Grow
import Derived.Shelf.Spec.SlicesInsertGrow
import Derived.Shelf.SlicesE.Delete
set_option linter.unusedSimpArgs false
set_option linter.unusedVariables false
namespace G448
open Ev
def strconv_Itoa (a:Int×Unit):Option (List UInt8×Unit):=some (Go.Lib.itoa a.1,())
def strings_Cut (a:List UInt8×List UInt8×Unit):Option (List UInt8×List UInt8×Bool×Unit):=
 if a.1.length<4294967281 then some ((Go.Lib.cut a.1 a.2.1).1,(Go.Lib.cut a.1 a.2.1).2.1,(Go.Lib.cut a.1 a.2.1).2.2,()) else none
def strings_Split (a:List UInt8×List UInt8×Unit):Option (List (List UInt8)×Unit):=
 if a.1.length<4294967281/\1<=a.2.1.length then some (Go.Lib.split a.1 a.2.1,()) else none
def strings_Join (a:List (List UInt8)×List UInt8×Unit):Option (List UInt8×Unit):=
 if (Go.Lib.join a.1 a.2.1).length<=140737488355328 then some (Go.Lib.join a.1 a.2.1,()) else none
def strings_LastIndexByte (a:List UInt8×UInt8×Unit):Option (Int×Unit):=
 if a.1.length<4611686018427387904 then some (Go.Lib.lastIndexByte ⟨a.1.toArray⟩ a.2.1.toNat,()) else none
def Qu {α:Type} (a:List α×Int×List α×Unit):Option (List α×Unit):=
 if 0<=a.2.1/\a.2.1<=(a.1.length:Int)/\0<a.2.2.1.length/\(a.1.length+a.2.2.1.length)<=1099511627776 then some (a.1.take a.2.1.toNat++a.2.2.1++a.1.drop a.2.1.toNat,()) else none
def dN (a:List Int×Int×List Int×Unit):Option (List Int×Unit):=Qu a
def aq (a:List (Int×Int×Int×Int)×Int×List (Int×Int×Int×Int)×Unit):Option (List (Int×Int×Int×Int)×Unit):=Qu a
def N3 (a:List (Int×List UInt8×List Int)×Int×List (Int×List UInt8×List Int)×Unit):Option (List (Int×List UInt8×List Int)×Unit):=Qu a
def delAt {α:Type} (a:List α×Int×Int×Unit):Option (List α×Unit):=
 if 0<=a.2.1/\a.2.1<a.2.2.1/\a.2.2.1<=(a.1.length:Int) then some (a.1.take a.2.1.toNat++a.1.drop a.2.2.1.toNat,()) else none
def dL (a:List (Int×List UInt8)×Int×Int×Unit):Option (List (Int×List UInt8)×Unit):=delAt a
end G448
namespace Ev
open Go Go.RowKit Go.Sort
variable {P:Program} {gl:Glob} {f:FuncId}
theorem Jq {args:Array Value} {w:World} {Q:Ending->World->Prop} {R:Value->World->Prop} (he:∀ args w,(callFunc f args).run P w=.ok (.enter f args) w)
  (h:Calls P f args w Q) (hr:∀ e w',Q e w'->∃ v,e=.returned v/\R v w'):CallsTo P f args w R:=by
 unfold CallsTo;rw[he];refine Calls.mono h λ e w'' hq => ?_;obtain⟨v,rfl,hv⟩:=hr _ _ hq;exact hv
theorem A4 (w:World) (arr:Array Value) (T:TypeId):Keeps w.heap.size [] w (w.alloc (.cells arr T)):=by
 have hold:∀ k,k<w.heap.size->(w.alloc (.cells arr T)).heap[k]?=w.heap[k]?:=λ k hk=>by
  show (w.heap.push _)[k]?=_;rw[Array.getElem?_push]; rw[if_neg (by omega)]
 have ahw:(w.alloc (.cells arr T)).heap[w.heap.size]?=some (.cells arr T):=by
  show (w.heap.push _)[w.heap.size]?=_;simp
 refine⟨rfl,rfl,rfl,?_,λ k hk _=>hold k hk,?_,?_⟩
 ·show w.heap.size<=(w.heap.push _).size;simp
 ·intro k hu a T' fr' h';by_cases hk:k<w.heap.size
  ·rw[hold k hk] at h'; exact hu a T' fr' h'
  ·by_cases hk2:k=w.heap.size
   ·subst hk2;rw[ahw] at h';cases h';intro o ho;simp
   ·have:(w.alloc (.cells arr T)).heap[k]?=none:=by
     apply Array.getElem?_eq_none;show (w.heap.push _).size<=k;simp; omega
    rw[this] at h'; cases h'
 ·intro k;intro a T' fr' h';have hk:k<w.heap.size:=by
   rcases Nat.lt_or_ge k w.heap.size with h|h
   ·exact h
   ·rw[as3 h] at h'; cases h'
  exact⟨a,(hold k hk).trans h',rfl⟩
theorem EX [Tags] (w:World):∀ (l:List ByteArray),(∀ x∈l,x.size<=140737488355328)->RdL (Rd w .str) (l.map (·.data.toList)) (l.map Value.string) []
 | [],_=>rfl
 | x::l,h=>⟨[.string x],l.map Value.string,[],[],rfl,rfl,⟨rfl,rfl,h x (by simp)⟩,EX w l λ y hy=>h y (by simp[hy])⟩
theorem IL (sep:ByteArray):∀ (k:Nat) (s x:ByteArray),x∈Lib.splitB sep 0 k s->x.size<=s.size
 | 0,s,x,h=>by simp[Lib.splitB] at h; simp[h]
 | k+1,s,x,h=>by
  unfold Lib.splitB at h;split at h
  ·simp at h; simp[h]
  ·rcases List.mem_cons.1 h with rfl|h
   ·simp; omega
   ·have:=IL sep k _ x h;simp at this; omega
theorem afu [Tags] {T:TypeId} (hTp:T≠Tags.post) (he:∀ args w,(callFunc f args).run P w=.ok (.enter f args) w) {g:Nat} (hg:∀ w,gl.G w->∃ m,w.cell? ⟨g,0,none⟩=some (.int .i64 m))
  (hc:∀ (s sep:ByteArray) (m:Int) (w:World),s.size<4294967281->w.cell? ⟨g,0,none⟩=some (.int .i64 m)->1<=sep.size->
   Calls P f #[.string s,.string sep] w λ e w'=>e=.returned (.slice (some ⟨w.heap.size,0,none⟩) (Lib.countB s sep+1) (Lib.countB s sep+1))/\
    w'=w.alloc (.cells ((Lib.splitB sep 0 (Lib.countB s sep) s).map Value.string).toArray T)):
  Sound P gl f ⟨[(.rd,.str),(.rd,.str)],[.sl T .str],.uniq,G448.strings_Split⟩ where
 run:=by
  rintro w ⟨l,sep,⟨⟩⟩ vals r rp rc xo xp outs ⟨cs,vs,fp,r',rfl,h1,rfl,cs2,vs2,fp2,r2,rfl,h2,rfl,rfl,rfl,rfl,rfl,rfl,rfl⟩ - - hG - hf;obtain⟨rfl,rfl,hl⟩:=h1;obtain⟨rfl,rfl,hs⟩:=h2;simp only[G448.strings_Split] at hf;split at hf
  ·rename_i hb;cases hf;obtain⟨m,hm⟩:=hg w hG;have hlen:(Lib.splitB (ByteArray.mk ⟨sep⟩) 0 (Lib.countB (ByteArray.mk ⟨l⟩) (ByteArray.mk ⟨sep⟩)) (ByteArray.mk ⟨l⟩)).length=Lib.countB (ByteArray.mk ⟨l⟩) (ByteArray.mk ⟨sep⟩)+1:=
    Lib.splitB_all _ (by simpa[ByteArray.size] using hb.2) 0 _ _ rfl
   have aov:=Lib.splitB_data (ByteArray.mk ⟨sep⟩) 0 (Lib.countB (ByteArray.mk ⟨l⟩) (ByteArray.mk ⟨sep⟩)) (ByteArray.mk ⟨l⟩);have hle:=Lib.countB_le (ByteArray.mk ⟨sep⟩) (by simpa[ByteArray.size] using hb.2) l.length (ByteArray.mk ⟨l⟩) (by simp[ByteArray.size]);refine Jq he (hc (ByteArray.mk ⟨l⟩) (ByteArray.mk ⟨sep⟩) m w (by simpa[ByteArray.size] using hb.1) hm (by simpa[ByteArray.size] using hb.2)) ?_;rintro e w' ⟨rfl,rfl⟩;refine⟨_,rfl,(A4 w _ _).weak,[],rfl,?_⟩;have alt:Lib.split l sep=(Lib.splitB (ByteArray.mk ⟨sep⟩) 0 (Lib.countB (ByteArray.mk ⟨l⟩) (ByteArray.mk ⟨sep⟩)) (ByteArray.mk ⟨l⟩)).map (·.data.toList):=aov.symm;have hsl:(Lib.split l sep).length=Lib.countB (ByteArray.mk ⟨l⟩) (ByteArray.mk ⟨sep⟩)+1:=by rw[alt,arg,hlen]
   have hsz:(ByteArray.mk ⟨l⟩).size=l.length:=by simp[ByteArray.size]
   rw[hsz] at hle;have hl':l.length<=140737488355328:=hl;refine⟨[[.slice (some ⟨w.heap.size,0,none⟩) (Lib.split l sep).length (Lib.countB (ByteArray.mk ⟨l⟩) (ByteArray.mk ⟨sep⟩)+1)]],[w.heap.size],[],⟨_,[],[w.heap.size],[],[],[],rfl,rfl,rfl,Or.inr ⟨w.heap.size,_,
    ((Lib.splitB (ByteArray.mk ⟨sep⟩) 0 (Lib.countB (ByteArray.mk ⟨l⟩) (ByteArray.mk ⟨sep⟩)) (ByteArray.mk ⟨l⟩)).map Value.string).toArray,T,(0,0),rfl,?_,?_,?_,?_,?_,?_,rfl,Iff.rfl,λ k=>absurd k hTp⟩,rfl,rfl,rfl⟩,?_,?_⟩
   ·show (w.heap.push _)[w.heap.size]?=_;simp
   ·intro o ho; simp
   ·simp[hlen,Ty.size]
   ·show (Lib.split l sep).length<=_;omega
   ·show (Lib.split l sep).length<=_;have:=hb.1;omega
   ·show RdL _ (Lib.split l sep) _ _;rw[alt];exact EX _ _ λ x hx=>by
     have:=IL _ _ _ _ hx;rw[hsz] at this;exact Nat.le_trans this hl'
   ·show _=Value.slice _ _ _;rw[hsl]
   ·refine⟨⟨by simp,?_⟩,λ _ b hb=>by simp at hb⟩;intro b hb;simp at hb;subst hb;exact⟨Or.inl (Nat.le_refl _),by simp⟩
  ·cases hf
theorem aff [Tags] (he:∀ args w,(callFunc f args).run P w=.ok (.enter f args) w)
  (hc:∀ (s:ByteArray) (c:Int) (hs:s.size<4611686018427387904) (w:World),Calls P f #[.string s,.int .u8 c] w λ e w'=>e=.returned (.int .i64 (Lib.lastIndexByte s c))/\w'=w):
  Sound P gl f ⟨[(.rd,.str),(.rd,.u8)],[.i64],.uniq,G448.strings_LastIndexByte⟩ where
 run:=by
  rintro w ⟨l,c,⟨⟩⟩ vals r rp rc xo xp outs ⟨cs,vs,fp,r',rfl,h1,rfl,cs2,vs2,fp2,r2,rfl,h2,rfl,rfl,rfl,rfl,rfl,rfl,rfl⟩ - - hG - hf;obtain⟨rfl,rfl,hl⟩:=h1;obtain⟨rfl,rfl⟩:=h2;simp only[G448.strings_LastIndexByte] at hf;split at hf
  ·rename_i hb;cases hf;refine Jq he (hc (ByteArray.mk ⟨l⟩) _ (by simpa[ByteArray.size] using hb) w) ?_;rintro e w' ⟨rfl,rfl⟩;refine⟨_,rfl,KeepsW.refl _ _ _,[],rfl,[[_]],[],[],⟨_,[],[],[],[],[],rfl,rfl,rfl,⟨⟨rfl,rfl,?_⟩,rfl,rfl⟩,rfl,rfl,rfl⟩,rfl,?_,?_⟩
   ·have hsz:(ByteArray.mk ⟨l⟩).size=l.length:=by simp[ByteArray.size]
    have:=Lib.lastIndexByte_spec (ByteArray.mk ⟨l⟩) (c.toNat:Int);have hl':l.length<=140737488355328:=hl;show -9223372036854775808<=Lib.lastIndexByte (ByteArray.mk ⟨l⟩) (c.toNat:Int)/\Lib.lastIndexByte (ByteArray.mk ⟨l⟩) (c.toNat:Int)<=9223372036854775807;rcases this with⟨e,_⟩|⟨i,hi,e,_⟩
    ·rw[e]; decide
    ·rw[e]; omega
   ·exact⟨by simp,by simp⟩
   ·simp
  ·cases hf
theorem pZ [Tags] {w w':World} (h:Below w.heap.size w w'):KeepsW w.heap.size [] w w':=
 ⟨h.os,h.tape,h.output,h.size,λ k hk _=>h.block k hk,λ k hk hu arr T fr h'=>by rw[h.block k hk] at h'; exact hu arr T fr h',λ k arr T fr h0=>by
  have hlt:=Z0 h0;exact⟨arr,by rw[h.block k hlt]; exact h0,rfl⟩⟩
theorem UT (w:World) (n:Nat) (os:Array Obj):Below w.heap.size w (grow (w.drewN n) os):=
 ⟨rfl,rfl,rfl,by show w.heap.size<=(w.heap++os).size; simp,λ k hk=>by
  show (w.heap++os)[k]?=_;rw[Array.getElem?_append_left hk]⟩
theorem af3 [Tags] (he:∀ args w,(callFunc f args).run P w=.ok (.enter f args) w) {g:Nat} (hg:∀ w,gl.G w->∃ m,w.cell? ⟨g,0,none⟩=some (.int .i64 m))
  (hc:∀ (s sep:ByteArray) (m:Int) (w:World),s.size<4294967281->w.cell? ⟨g,0,none⟩=some (.int .i64 m)->
   Calls P f #[.string s,.string sep] w λ e w'=>e=.returned (.tuple #[.string ⟨(Lib.cut s.data.toList sep.data.toList).1.toArray⟩,.string ⟨(Lib.cut s.data.toList sep.data.toList).2.1.toArray⟩,.bool (Lib.cut s.data.toList sep.data.toList).2.2])/\
    ∃ n,w'=w.drewN n):
  Sound P gl f ⟨[(.rd,.str),(.rd,.str)],[.str,.str,.bool],.uniq,G448.strings_Cut⟩ where
 run:=by
  rintro w ⟨l,sep,⟨⟩⟩ vals r rp rc xo xp outs ⟨cs,vs,fp,r',rfl,h1,rfl,cs2,vs2,fp2,r2,rfl,h2,rfl,rfl,rfl,rfl,rfl,rfl,rfl⟩ - - hG - hf;obtain⟨rfl,rfl,hl⟩:=h1;obtain⟨rfl,rfl,hs⟩:=h2;simp only[G448.strings_Cut] at hf;split at hf
  ·rename_i hb;cases hf;obtain⟨m,hm⟩:=hg w hG;refine Jq he (hc (ByteArray.mk ⟨l⟩) (ByteArray.mk ⟨sep⟩) m w (by simpa[ByteArray.size] using hb) hm) ?_;rintro e w' ⟨rfl,n,rfl⟩;have hl':l.length<=140737488355328:=hl;have b1:(Lib.cut l sep).1.length<=l.length:=by unfold Lib.cut; split<;>simp; omega
   have b2:(Lib.cut l sep).2.1.length<=l.length:=by unfold Lib.cut; split<;>simp
   refine⟨_,rfl,pZ ⟨rfl,rfl,rfl,Nat.le_refl _,λ _ _=>rfl⟩,[],rfl,[[_],[_],[_]],[],[],⟨_,_,[],[],[],[],rfl,rfl,rfl,⟨⟨rfl,rfl,Nat.le_trans b1 hl'⟩,rfl,rfl⟩,_,_,[],[],[],[],rfl,rfl,rfl,⟨⟨rfl,rfl,Nat.le_trans b2 hl'⟩,rfl,rfl⟩,
    _,[],[],[],[],[],rfl,rfl,rfl,⟨⟨rfl,rfl⟩,rfl,rfl⟩,rfl,rfl,rfl⟩,rfl,⟨by simp,by simp⟩,by simp⟩
  ·cases hf
theorem rQ:∀ (k u:Nat),u<10 ^ (k+1)->Lib.nDigits u<=k+1
 | 0,u,h=>by rw[Lib.nDigits_small (by simpa using h)]; exact Nat.le_refl _
 | k+1,u,h=>by
  by_cases hu:u<10
  ·rw[Lib.nDigits_small hu]; omega
  ·rw[Lib.nDigits_big hu];have:=rQ k (u / 10) (by rw[arC] at h; omega)
   omega
theorem X4 [Tags] (n:Int) (h:Bnd .i64 n):(Lib.itoa n).length<=21:=by
 have h1 : -9223372036854775808<=n:=h.1;have h2:n<=9223372036854775807:=h.2;unfold Lib.itoa;split
 ·have:=rQ 19 n.natAbs (by
                    have:n.natAbs<=9223372036854775808:=by omega
                    exact Nat.lt_of_le_of_lt this (by decide))
  rw[aqG,Lib.decDigits_length]; omega
 ·have:=rQ 19 n.toNat (by
                   have:n.toNat<=9223372036854775807:=by omega
                   exact Nat.lt_of_le_of_lt this (by decide))
  rw[Lib.decDigits_length]; omega
theorem afc [Tags] (he:∀ args w,(callFunc f args).run P w=.ok (.enter f args) w) {T:World->Prop} (hT:∀ w,gl.G w->T w)
  (hc:∀ (n:Int) (h0 : -9223372036854775808<=n) (h1:n<=9223372036854775807) (w:World) (ht:T w),Calls P f #[.int .i64 n] w λ e w'=>e=.returned (.string ⟨(Lib.itoa n).toArray⟩)/\∃ k os,w'=grow (w.drewN k) os):
  Sound P gl f ⟨[(.rd,.i64)],[.str],.uniq,G448.strconv_Itoa⟩ where
 run:=by
  rintro w ⟨n,⟨⟩⟩ vals r rp rc xo xp outs ⟨cs,vs,fp,r',rfl,h1,rfl,rfl,rfl,rfl,rfl,rfl,rfl⟩ - - hG - hf;obtain⟨rfl,rfl,hb⟩:=h1;cases hf;refine Jq he (hc n hb.1 hb.2 w (hT w hG)) ?_;rintro e w' ⟨rfl,k,os,rfl⟩;refine⟨_,rfl,pZ (UT w k os),[],rfl,[[_]],[],[],⟨_,[],[],[],[],[],rfl,rfl,rfl,⟨⟨rfl,rfl,?_⟩,rfl,rfl⟩,rfl,rfl,rfl⟩,rfl,⟨by simp,by simp⟩,by simp⟩;have:=X4 n hb;show (Lib.itoa n).length<=_;omega
theorem EW [Tags] {w:World} {b:Nat} {arr:Array Value} {T:TypeId} {fr:Nat×Nat} (hh:w.heap[b]?=some (.cells arr T fr)):∀ (xs:List (List UInt8)) (o:Nat) (fp:List Nat),RdL (Rd w .str) xs (arr.toList.drop o) fp->
  ∀ (j:Nat) (x:ByteArray),(xs.map λ l=>(ByteArray.mk ⟨l⟩))[j]?=some x->w.cell? ⟨b,o+j,none⟩=some (.string x)
 | [],o,fp,h,j,x,hx=>by simp at hx
 | y::ys,o,fp,h,j,x,hx=>by
  obtain⟨c,rest,f1,f2,h1,h2,⟨rfl,rfl,_⟩,h4⟩:=h;have hd:arr.toList.drop (o+1)=rest:=by
   rw[←ark,h1]; simp
  cases j with
  | zero=>
   simp at hx;subst hx;have:arr.toList[o]?=some (.string (ByteArray.mk ⟨y⟩)):=by
    have:=congrArg (·[0]?) h1;simpa[arH] using this
   simp only[World.cell?,hh,arx];simpa using this
  | succ j=>
   have:=EW hh ys (o+1) f2 (by rw[hd]; exact h4) j x (by simpa using hx)
   rw[show o+(j+1)=o+1+j by omega];exact this
theorem afd [Tags] {TT:Nat} (he:∀ args w,(callFunc f args).run P w=.ok (.enter f args) w)
  (hc0:∀ (a:Option Addr) (c:Nat) (sep:ByteArray) (w:World),Calls P f #[.slice a 0 c,.string sep] w λ e w'=>e=.returned (.string ⟨#[]⟩)/\w'=w)
  (hc:∀ (bk o c:Nat) (xs:List ByteArray) (sep:ByteArray) (w:World) (hcells:∀ (j:Nat) x,xs[j]?=some x->w.cell? ⟨bk,o+j,none⟩=some (.string x))
   (hbk:bk<w.heap.size) (hN:xs.length<=140737488355328) (hcap:xs.length<=c) (hlen:(Lib.join (xs.map (·.data.toList)) sep.data.toList).length<=140737488355328),
   Calls P f #[.slice (some ⟨bk,o,none⟩) xs.length c,.string sep] w λ e w'=>e=.returned (.string ⟨(Lib.join (xs.map (·.data.toList)) sep.data.toList).toArray⟩)/\Below w.heap.size w w'):
  Sound P gl f ⟨[(.rd,.sl TT .str),(.rd,.str)],[.str],.uniq,G448.strings_Join⟩ where
 run:=by
  rintro w ⟨l,sep,⟨⟩⟩ vals r rp rc xo xp outs ⟨cs,vs,fp,r',rfl,h1,rfl,cs2,vs2,fp2,r2,rfl,h2,rfl,rfl,rfl,rfl,rfl,rfl,rfl⟩ - - hG - hf;obtain⟨a,n,c,rfl,rfl,p3,p4,p5⟩:=h1;obtain⟨rfl,rfl,hs⟩:=h2;simp only[G448.strings_Join] at hf;split at hf
  ·rename_i hb;cases hf;have fin:∀ w',Below w.heap.size w w'->KeepsW w.heap.size ([]++[]) w w'/\∃ pt,OutOk w w' w.heap.size .uniq (fp++([]++[])++[]++[]) [] pt [.str] (.string ⟨(Lib.join l sep).toArray⟩) [(.rd,.sl TT .str),(.rd,.str)] (Lib.join l sep,()) []:=by
    intro w' hw;exact⟨pZ hw,[],rfl,[[_]],[],[],⟨_,[],[],[],[],[],rfl,rfl,rfl,⟨⟨rfl,rfl,hb⟩,rfl,rfl⟩,rfl,rfl,rfl⟩,rfl,⟨by simp,by simp⟩,by simp⟩
   rcases p5 with⟨rfl,rfl,_⟩|⟨b,o,arr,T,fr,fp',rfl,hh,rfl,hl,_⟩
   ·refine Jq he (hc0 a c (ByteArray.mk ⟨sep⟩) w) ?_;rintro e w' ⟨rfl,rfl⟩;exact⟨_,rfl,fin _ (Below.refl _ _)⟩
   ·have ank:(l.map λ x=>(ByteArray.mk ⟨x⟩)).map (·.data.toList)=l:=by
     rw[List.map_map]; exact List.map_id l
    have key:=hc b o c (l.map λ x=>(ByteArray.mk ⟨x⟩)) (ByteArray.mk ⟨sep⟩) w (EW hh l o fp' hl) (Z0 hh) (by simpa using p4) (by simpa using p3) (by rw[ank]; exact hb)
    rw[ank] at key;simp only[arg] at key;refine Jq he key ?_;rintro e w' ⟨rfl,hw⟩;exact⟨_,rfl,fin _ hw⟩
  ·cases hf
end Ev
namespace Ev
open Go Go.Shelf Go.RowKit Go.Lib Go.Proofs
variable {P:Program} {ρ:Ren} {W B:Nat} {zc:Array Value}
noncomputable def AR (ρ:Ren) (nm:String):Func:={ Body2.n22 ρ with name:=nm }
theorem ku (ρ:Ren) (nm:String):(AR ρ nm).ntmps=95:=Body2.n22_ntmps ρ
structure Kv (P:Program) (ρ:Ren) (W:Nat) (zc:Array Value) (B:Nat):Prop where
 mixed:P.follows .mixedOrders=true
 f22:∃ nm,P.funcs[ρ.f 22]?=some (AR ρ nm)
 ov:∀ (args:Array Value) (w:World),(callFunc (ρ.f 29) args).run P w=((Extern.SlicesOverlaps.overlaps #[(ρ.t 24),(ρ.t 24)] #[(ρ.t 4)] args).run P w).andThen λ v w'=>.ok (.value v) w'
 t0:P.underlying (ρ.t 0)=some (TypeDesc.tuple #[])
 a0:∀ w,(isAgg (ρ.t 0)).run P w=.ok false w
 z0:∀ w,(Go.sizeOf (ρ.t 0)).run P w=.ok 1 w
 v0:∀ w,(zeroValue (ρ.t 0)).run P w=.ok (Value.tuple #[]) w
 t3:P.underlying (ρ.t 3)=some (TypeDesc.int IntKind.i64)
 a3:∀ w,(isAgg (ρ.t 3)).run P w=.ok false w
 z3:∀ w,(Go.sizeOf (ρ.t 3)).run P w=.ok 1 w
 v3:∀ w,(zeroValue (ρ.t 3)).run P w=.ok (Value.int IntKind.i64 0) w
 t4:P.underlying (ρ.t 4)=some (TypeDesc.bool)
 a4:∀ w,(isAgg (ρ.t 4)).run P w=.ok false w
 z4:∀ w,(Go.sizeOf (ρ.t 4)).run P w=.ok 1 w
 v4:∀ w,(zeroValue (ρ.t 4)).run P w=.ok (Value.bool false) w
 z9:∀ w,(Go.sizeOf (ρ.t 9)).run P w=.ok W w
 t24:P.underlying (ρ.t 24)=some (TypeDesc.slice (ρ.t 9))
 a24:∀ w,(isAgg (ρ.t 24)).run P w=.ok false w
 z24:∀ w,(Go.sizeOf (ρ.t 24)).run P w=.ok 1 w
 v24:∀ w,(zeroValue (ρ.t 24)).run P w=.ok (Value.slice none 0 0) w
 i9:(P.info? (ρ.t 9)).map (λ i=>(i.zero.map Value.cells,i.size,i.bytes))=some (some zc,W,B)
theorem kr {e:TypeId} (h:(P.info? e).map (λ i=>(i.zero.map Value.cells,i.size,i.bytes))=some (some zc,W,B)):
  ∃ i z,P.info? e=some i/\i.zero=some z/\z.cells=zc/\i.size=W/\i.bytes=B:=by
 cases hq:P.info? e with
 | none=>rw[hq] at h; cases h
 | some i=>
  rw[hq] at h;simp only[art,aqK,aqO,Option.map_eq_some_iff] at h;obtain⟨⟨z,h1,h2⟩,h3,h4⟩:=h;exact⟨i,z,rfl,h1,h2,h3,h4⟩
theorem mc (w:World) (dT sT ty elem:TypeId) (b o dLen dCap:Nat) (a:Addr) (sLen sCap:Nat) (cs:List Value) (k W:Nat)
  (hu:P.underlying dT=some (.slice elem)) (hs:(P.info? elem).map (·.size)=some W) (hk:k=Nat.min sLen dLen) (hn:cs.length=k*W)
  (ak1:∀ j v,cs[j]?=some v->w.cell? (a.add j)=some v) (hc:∀ j,j<cs.length->(w.cell? ⟨b,o+j,none⟩).isSome=true) (hf:∀ j,j<cs.length->w.frozen? ⟨b,o+j,none⟩=false) (h1:∀ v∈cs,v.oneCell'=true):
  (Builtin.copy_ #[dT,sT] ty #[.slice (some ⟨b,o,none⟩) dLen dCap,.slice (some a) sLen sCap]).run P w=.ok (goInt (k:Int)) (w.setCells b o cs):=by
 have hl:=run_loadCells_list (P:=P) w a cs ak1;have hst:=run_storeCells_cells (P:=P) b o cs 0 w (by simpa using hc) (by simpa using hf) h1;cases hq:P.info? elem with
 | none=>simp[hq] at hs
 | some i=>
  have hi:i.size=W:=by simpa[hq] using hs
  rw[hn] at hl;subst hk;simp[Builtin.copy_,run_underlying hu,Builtin.lenOf,Builtin.firstCells,Go.sizeOf,typeInfo,hq,hi,hl,hst]
theorem bq (cs:Array Value) (n:Nat):(Builtin.zeroCells cs n).size=n*cs.size:=by
 unfold Builtin.zeroCells;simp
set_option maxHeartbeats 4000000 in
set_option maxRecDepth 100000 in
theorem X0 (L:Kv P ρ W zc B) (hW:0<W) (b off n c i vb voff m vc:Nat) (cs vs:List Value) (w:World) (hi:i<n) (hm:0<m) (ahp:n+m<=c) (h63:n+m<=1099511627776) (hvb:vb≠b)
  (hcl:cs.length=n*W) (hvl:vs.length=m*W)
  (hcs:∀ j v,cs[j]?=some v->w.cell? ⟨b,off+j,none⟩=some v) (hsp:∀ j,j<(n+m)*W->(w.cell? ⟨b,off+j,none⟩).isSome=true) (hfz:∀ j,j<(n+m)*W->w.frozen? ⟨b,off+j,none⟩=false)
  (hvs:∀ j v,vs[j]?=some v->w.cell? ⟨vb,voff+j,none⟩=some v) (h1c:∀ v∈cs,v.oneCell'=true) (h1v:∀ v∈vs,v.oneCell'=true)
  (tA tB:TypeId) (kA kB:Nat) (hsa:w.shape? vb=some (tA,kA)) (hsb:w.shape? b=some (tB,kB)) (hkB:kB≠0) (hfa:w.frozen? ⟨vb,voff,none⟩=false) (hfe:w.frozen? ⟨vb,kA,none⟩=false):
  Calls P (ρ.f 22) #[.slice (some ⟨b,off,none⟩) n c,.int .i64 i,.slice (some ⟨vb,voff,none⟩) m vc] w λ e w'=>
   e=.returned (.slice (some ⟨b,off,none⟩) (n+m) c)/\w'=(w.drew.setCells b (off+(i+m)*W) (cs.drop (i*W))).setCells b (off+i*W) vs:=by
 have t0:=L.t0; have a0:=L.a0; have z0:=L.z0; have v0:=L.v0; have t3:=L.t3; have a3:=L.a3; have z3:=L.z3; have v3:=L.v3; have t4:=L.t4; have a4:=L.a4; have z4:=L.z4; have v4:=L.v4; have z9:=L.z9; have t24:=L.t24; have a24:=L.a24; have z24:=L.z24; have v24:=L.v24
 have u0:=run_underlying L.t0; have u3:=run_underlying L.t3; have u4:=run_underlying L.t4; have u24:=run_underlying L.t24
 have hz1:¬ ((m:Int)=0):=by omega
 have hz2:¬ ((i:Int)=(n:Int)):=by omega
 have hsz:(P.info? (ρ.t 9)).map (·.size)=some W:=by
  obtain⟨i0,z1,hi0,h0,hzq,h1,h2⟩:=kr L.i9;rw[hi0]; simp[h1]
 have hnm:(n+m)*W=n*W+m*W:=Nat.add_mul n m W;have him:(i+m)*W=i*W+m*W:=Nat.add_mul i m W;have ald:i*W<=n*W:=Nat.mul_le_mul_right W (Nat.le_of_lt hi);have hov:∀ lb cb,(callFunc (ρ.f 29) #[.slice (some ⟨vb,voff,none⟩) m vc,.slice (some ⟨b,off+(i+m)*W,none⟩) lb cb]).run P w=.ok (.value (.bool false)) w:=λ lb cb=>by
  rw[L.ov,
   Lib.run_overlaps_apart w (ρ.t 24) (ρ.t 4) (ρ.t 9) L.t24 W L.z9 ⟨vb,voff,none⟩ ⟨b,off+(i+m)*W,none⟩ m vc lb cb hvb tA tB kA kB hsa hsb hkB hfa hfe]
  rfl
 have hdl:(cs.drop (i*W)).length=(n - i)*W:=by rw[ar2,hcl,Nat.sub_mul]
 have alS:(cs.drop (i*W)).length=n*W - i*W:=by rw[ar2,hcl]
 have mixed:=L.mixed;have hw1:IntKind.i64.wrap ((i:Int)+(m:Int))=(i:Int)+(m:Int):=by rw[IntKind.wrap_i64]; omega
 have hb1:(0:Int)<=(i:Int)+(m:Int):=by omega
 have hin:i<=n:=by omega
 have htn:((i:Int)+(m:Int)).toNat=i+m:=by omega
 have hb2:¬ (c=i+m):=by omega
 have hb3:(i:Int)<=(n:Int)+(m:Int):=by omega
 have hb4:¬ (c=i):=by omega
 have amM:∀ ty dc sc,(Builtin.copy_ #[(ρ.t 24),(ρ.t 24)] ty #[.slice (some ⟨b,off+(i+m)*W,none⟩) (n+m - (i+m)) dc,.slice (some ⟨b,off+i*W,none⟩) (n+m - i) sc]).run P w.drew=.ok (goInt ((n - i:Nat):Int)) (w.drew.setCells b (off+(i+m)*W) (cs.drop (i*W))):=λ ty dc sc=>
  mc w.drew _ _ ty (ρ.t 9) b (off+(i+m)*W) (n+m - (i+m)) dc ⟨b,off+i*W,none⟩ (n+m - i) sc (cs.drop (i*W)) (n - i) W L.t24 hsz (by simp only[Nat.min_def]; split<;>omega) hdl
   (λ j v hj=>by rw[Addr.add_lit,aru]; exact hcs (i*W+j) v (by rwa [List.getElem?_drop] at hj))
   (λ j hj=>by rw[aru]; exact hsp _ (by omega)) (λ j hj=>by rw[aru]; exact hfz _ (by omega)) (λ v hv=>h1c v (List.mem_of_mem_drop hv))
 obtain⟨W1,hW1⟩:∃ W1,W1=w.drew.setCells b (off+(i+m)*W) (cs.drop (i*W)):=⟨_,rfl⟩
 have apH:∀ k,k<(n+m)*W->(W1.cell? ⟨b,off+k,none⟩).isSome=true:=λ k hk=>by
  rw[hW1];exact isSome_setCells b _ _ _ (λ j hj=>by rw[aru]; exact hsp _ (by omega)) _ (hsp k hk)
 have aoo:∀ (W0:World),(∀ x,W0.cell? x=W1.cell? x)->(∀ x,W0.frozen? x=W1.frozen? x)->∀ ty dc,(Builtin.copy_ #[(ρ.t 24),(ρ.t 24)] ty #[.slice (some ⟨b,off+i*W,none⟩) (n+m - i) dc,.slice (some ⟨vb,voff,none⟩) m vc]).run P W0=.ok (goInt ((m:Nat):Int)) (W0.setCells b (off+i*W) vs):=λ W0 hWc hWf ty dc=>
  mc W0 _ _ ty (ρ.t 9) b (off+i*W) (n+m - i) dc ⟨vb,voff,none⟩ m vc vs m W L.t24 hsz (by simp only[Nat.min_def]; split<;>omega) hvl
   (λ j v hj=>by
    rw[Addr.add_lit,hWc,hW1,World.cell?_setCells_out b _ _ _ _ (λ h _=>absurd h hvb)];exact hvs j v hj)
   (λ j hj=>by rw[hWc,aru]; exact apH _ (by omega)) (λ j hj=>by rw[hWf,hW1,World.frozen?_setCells,aru]; exact hfz _ (by omega)) h1v
 rw[←hW1] at amM;clear him hnm ald hdl alS;obtain⟨nm,f22⟩:=L.f22
 go_enter f22,ku ρ nm
 go_wp2_with (simp only[hov])
 go_region_law_o (refine step_copy_runI rfl _ _ (ρ.t 24) (ρ.t 24) rfl _ _ (by simp[Act.eval,Act.put]) (by simp[Act.eval,Act.put]) (amM _ _ _) ?_)
 go_wp2_with (at_builtin; refine wpList_copy_runI _ rfl _ _ (ρ.t 24) (ρ.t 24) rfl _ _ rfl rfl (aoo _ (λ _=>rfl) (λ _=>rfl) _ _) ?_)
 go_ret
 first|exact⟨rfl,rfl⟩|exact⟨rfl,by rw[hW1]⟩
set_option maxHeartbeats 4000000 in
set_option maxRecDepth 100000 in
theorem XX (L:Kv P ρ W zc B) (b off n c vb voff m vc:Nat) (vs:List Value) (w:World) (hm:0<m) (ahp:n+m<=c) (h63:n+m<=1099511627776)
  (hvl:vs.length=m*W) (hsp:∀ j,j<m*W->(w.cell? ⟨b,off+n*W+j,none⟩).isSome=true) (hfz:∀ j,j<m*W->w.frozen? ⟨b,off+n*W+j,none⟩=false)
  (hvs:∀ j v,vs[j]?=some v->w.cell? ⟨vb,voff+j,none⟩=some v) (h1v:∀ v∈vs,v.oneCell'=true):
  Calls P (ρ.f 22) #[.slice (some ⟨b,off,none⟩) n c,.int .i64 n,.slice (some ⟨vb,voff,none⟩) m vc] w λ e w'=>
   e=.returned (.slice (some ⟨b,off,none⟩) (n+m) c)/\w'=w.setCells b (off+n*W) vs:=by
 have t0:=L.t0; have a0:=L.a0; have z0:=L.z0; have v0:=L.v0; have t3:=L.t3; have a3:=L.a3; have z3:=L.z3; have v3:=L.v3; have t4:=L.t4; have a4:=L.a4; have z4:=L.z4; have v4:=L.v4; have z9:=L.z9; have t24:=L.t24; have a24:=L.a24; have z24:=L.z24; have v24:=L.v24
 have u0:=run_underlying L.t0; have u3:=run_underlying L.t3; have u4:=run_underlying L.t4; have u24:=run_underlying L.t24
 have mixed:=L.mixed;have hz1:¬ ((m:Int)=0):=by omega
 have ak1:Src P W (ρ.t 24) (.slice (some ⟨vb,voff,none⟩) m vc) m vs w:=Src.ofSlice w L.t24 ⟨vb,voff,none⟩ m vc vs hvl (λ j u hj=>by rw[Addr.add_lit]; exact hvs j u hj) h1v
 obtain⟨i0,z1,hi0,hz0,hzq,hzs,hzb⟩:=kr L.i9;have ah4:∀ ty,(Builtin.append_ #[(ρ.t 24),(ρ.t 24)] ty #[.slice (some ⟨b,off,none⟩) n c,.slice (some ⟨vb,voff,none⟩) m vc]).run P w=.ok (.slice (some ⟨b,off,none⟩) (n+m) c) (w.setCells b (off+n*W) vs):=λ ty=>by
  have h:=run_append_room_src w (ρ.t 24) (ρ.t 24) ty (ρ.t 9) i0 L.t24 hi0 b off n c (.slice (some ⟨vb,voff,none⟩) m vc) m vs (by rw[hzs]; exact ak1) ahp (by rw[hzs,hvl]; exact hsp) (by rw[hzs,hvl]; exact hfz)
  rwa [hzs] at h
 obtain⟨nm,f22⟩:=L.f22
 go_enter f22,ku ρ nm
 go_wp2_with (at_builtin; refine Lib.wpList_append_run _ rfl _ _ _ _ rfl _ _ rfl rfl _ _ (ah4 _) ?_)
 go_ret
 exact⟨rfl,rfl⟩
set_option maxHeartbeats 4000000 in
set_option maxRecDepth 100000 in
theorem AX (L:Kv P ρ W zc B) (base:Option Addr) (n c vb voff m vc:Nat) (cs vs:List Value) (w:World) (hm:0<m) (hnc:n<=c) (ahp:c<n+m) (h63:n+m<=1099511627776) (ahy:(n+m)*B<=140737488355328)
  (hcl:cs.length=n*W) (hvl:vs.length=m*W) (anq:base=none->n=0)
  (hcs:∀ a,base=some a->∀ j v,cs[j]?=some v->w.cell? (a.add j)=some v)
  (hvs:∀ j v,vs[j]?=some v->w.cell? ⟨vb,voff+j,none⟩=some v) (h1v:∀ v∈vs,v.oneCell'=true):
  Calls P (ρ.f 22) #[.slice base n c,.int .i64 n,.slice (some ⟨vb,voff,none⟩) m vc] w λ e w'=>
   e=.returned (.slice (some ⟨w.heap.size,0,none⟩) (n+m) (grownCap w (n+m) c (ρ.t 9)))/\
   w'=w.drew.alloc (.cells ((cs++vs).toArray++Builtin.zeroCells zc (grownCap w (n+m) c (ρ.t 9) - (n+m))) (ρ.t 9)):=by
 have t0:=L.t0; have a0:=L.a0; have z0:=L.z0; have v0:=L.v0; have t3:=L.t3; have a3:=L.a3; have z3:=L.z3; have v3:=L.v3; have t4:=L.t4; have a4:=L.a4; have z4:=L.z4; have v4:=L.v4; have z9:=L.z9; have t24:=L.t24; have a24:=L.a24; have z24:=L.z24; have v24:=L.v24
 have u0:=run_underlying L.t0; have u3:=run_underlying L.t3; have u4:=run_underlying L.t4; have u24:=run_underlying L.t24
 have mixed:=L.mixed;obtain⟨i0,z1,hi0,hz0,hzq,hzs,hzb⟩:=kr L.i9;have hz1:¬ ((m:Int)=0):=by omega
 have ak1:Src P i0.size (ρ.t 24) (.slice (some ⟨vb,voff,none⟩) m vc) m vs w:=by
  rw[hzs];exact Src.ofSlice w L.t24 ⟨vb,voff,none⟩ m vc vs hvl (λ j u hj=>by rw[Addr.add_lit]; exact hvs j u hj) h1v
 have hold:(Builtin.firstCells i0.size n (.slice base n c)).run P w.drew=.ok cs.toArray w.drew:=by
  rw[hzs];cases base with
  | none=>
   have h0:=anq rfl;subst h0;have aoq:cs=[]:=List.length_eq_zero_iff.1 (by rw[hcl,as6]);rw[aoq];exact run_firstCells_none w.drew W 0 0 c
  | some a=>exact run_firstCells_some w.drew W n a n c cs hcl (λ j v hj=>hcs a rfl j v hj)
 have ah4:∀ ty,(Builtin.append_ #[(ρ.t 24),(ρ.t 24)] ty #[.slice base n c,.slice (some ⟨vb,voff,none⟩) m vc]).run P w=.ok (.slice (some ⟨w.heap.size,0,none⟩) (n+m) (grownCap w (n+m) c (ρ.t 9))) (w.drew.alloc (.cells ((cs++vs).toArray++Builtin.zeroCells zc (grownCap w (n+m) c (ρ.t 9) - (n+m))) (ρ.t 9))):=λ ty=>by
  have h:=λ ty=>run_append_grow_src w (ρ.t 24) (ρ.t 24) ty (ρ.t 9) i0 _ L.t24 hi0 hz0 base n c cs hold _ m vs ak1 ahp (by omega) (by rw[hzb]; exact growslice_fits ahp ahy)
  simp only[hzq] at h;exact h ty
 clear hzq;obtain⟨nm,f22⟩:=L.f22
 go_enter f22,ku ρ nm
 cases base with
 | none=>
  have h0:=anq rfl;subst h0
  go_wp2_with (at_builtin; refine Lib.wpList_append_run _ rfl _ _ _ _ rfl _ _ rfl rfl _ _ (ah4 _) ?_)
  go_ret
  exact⟨rfl,rfl⟩
 | some a=>
  obtain⟨ab,ao,asp⟩:=a
  go_wp2_with (at_builtin; refine Lib.wpList_append_run _ rfl _ _ _ _ rfl _ _ rfl rfl _ _ (ah4 _) ?_)
  all_goals (go_ret; exact⟨rfl,rfl⟩)
set_option maxHeartbeats 4000000 in
set_option maxRecDepth 100000 in
theorem XY (L:Kv P ρ W zc B) (hW:0<W) (b off n c i vb voff m vc:Nat) (cs vs:List Value) (w:World) (hi:i<n) (hm:0<m) (hnc:n<=c) (ahp:c<n+m) (h63:n+m<=1099511627776) (ahy:(n+m)*B<=140737488355328)
  (hcl:cs.length=n*W) (hvl:vs.length=m*W) (hzc:zc.size=W)
  (hcs:∀ j v,cs[j]?=some v->w.cell? ⟨b,off+j,none⟩=some v)
  (hvs:∀ j v,vs[j]?=some v->w.cell? ⟨vb,voff+j,none⟩=some v) (h1c:∀ v∈cs,v.oneCell'=true) (h1v:∀ v∈vs,v.oneCell'=true):
  Calls P (ρ.f 22) #[.slice (some ⟨b,off,none⟩) n c,.int .i64 i,.slice (some ⟨vb,voff,none⟩) m vc] w λ e w'=>
   e=.returned (.slice (some ⟨w.heap.size,0,none⟩) (n+m) (grownCap w (n+m) c (ρ.t 9)))/\
   w'=(((w.alloc (.cells ((cs.take (i*W)).toArray++Builtin.zeroCells zc (n+m - i)++Builtin.zeroCells zc (grownCap w (n+m) c (ρ.t 9) - (n+m))) (ρ.t 9))).drew.setCells w.heap.size (i*W) vs).drew).setCells w.heap.size ((i+m)*W) (cs.drop (i*W)):=by
 have t0:=L.t0; have a0:=L.a0; have z0:=L.z0; have v0:=L.v0; have t3:=L.t3; have a3:=L.a3; have z3:=L.z3; have v3:=L.v3; have t4:=L.t4; have a4:=L.a4; have z4:=L.z4; have v4:=L.v4; have z9:=L.z9; have t24:=L.t24; have a24:=L.a24; have z24:=L.z24; have v24:=L.v24
 have u0:=run_underlying L.t0; have u3:=run_underlying L.t3; have u4:=run_underlying L.t4; have u24:=run_underlying L.t24
 have mixed:=L.mixed;obtain⟨i0,z1,hi0,hz0,hzq,hzs,hzb⟩:=kr L.i9;have hz1:¬ ((m:Int)=0):=by omega
 have hz2:¬ ((i:Int)=(n:Int)):=by omega
 have hz3:(c:Int)<(n:Int)+(m:Int):=by omega
 have hsz:(P.info? (ρ.t 9)).map (·.size)=some W:=by rw[hi0]; simp[hzs]
 have hnm:(n+m)*W=n*W+m*W:=Nat.add_mul n m W;have him:(i+m)*W=i*W+m*W:=Nat.add_mul i m W;have ald:i*W<=n*W:=Nat.mul_le_mul_right W (Nat.le_of_lt hi);have hiW:i*W<n*W:=Nat.mul_lt_mul_of_pos_right hi hW;have hmW:0<m*W:=Nat.mul_pos hm hW;have hbw:b<w.heap.size:=block_lt_of_cell (hcs 0 _ (List.getElem?_eq_getElem (by rw[hcl]; exact Nat.mul_pos (by omega) hW)))
 have hvw:vb<w.heap.size:=block_lt_of_cell (hvs 0 _ (List.getElem?_eq_getElem (by rw[hvl]; exact Nat.mul_pos hm hW)))
 have hkk:(n:Int)+(m:Int) - (i:Int)=((n+m - i:Nat):Int):=by omega
 have hik:i+(n+m - i)=n+m:=by omega
 have hold:(Builtin.firstCells i0.size i (.slice (some ⟨b,off,none⟩) i c)).run P w.drew=.ok (cs.take (i*W)).toArray w.drew:=by
  rw[hzs];exact run_firstCells_some w.drew W i ⟨b,off,none⟩ i c (cs.take (i*W)) (by rw[aqV]; omega) (λ j v hj=>by
   rw[Addr.add_lit];rw[arM] at hj;split at hj
   ·exact hcs j v hj
   ·cases hj)
 have hrz:∀ ty,(Builtin.append_ #[(ρ.t 24),(ρ.t 3)] ty #[.slice (some ⟨b,off,none⟩) i c,.int .i64 ((n:Int)+(m:Int) - (i:Int))]).run P w=
   .ok (.slice (some ⟨w.heap.size,0,none⟩) (n+m) (grownCap w (n+m) c (ρ.t 9))) (w.drew.alloc (.cells ((cs.take (i*W)).toArray++Builtin.zeroCells zc (n+m - i)++Builtin.zeroCells zc (grownCap w (n+m) c (ρ.t 9) - (n+m))) (ρ.t 9))):=λ ty=>by
  have h:=Lib.run_append_grow_zeros w (ρ.t 24) (ρ.t 3) ty (ρ.t 9) i0 _ .i64 .i64 L.t24 L.t3 hi0 hz0 (some ⟨b,off,none⟩) i c (cs.take (i*W)) hold (n+m - i) (by omega) (by omega) (by omega) (by omega) (by rw[hzb]; exact Nat.le_trans (Nat.mul_le_mul_right B (Nat.sub_le _ _)) (by omega)) (by rw[hzb,hik]; exact growslice_fits ahp ahy)
  rw[hik,hzq] at h;rw[hkk];exact h
 obtain⟨G,hG⟩:∃ G,G=grownCap w (n+m) c (ρ.t 9):=⟨_,rfl⟩
 obtain⟨ROW,ajJ⟩:∃ ROW:Array Value,ROW=(cs.take (i*W)).toArray++Builtin.zeroCells zc (n+m - i)++Builtin.zeroCells zc (G - (n+m)):=⟨_,rfl⟩
 rw[←hG] at hrz ⊢;rw[←ajJ] at hrz ⊢;have hRl:(n+m)*W<=ROW.size:=by
  have e1:(n+m)*W=i*W+(n+m - i)*W:=by rw[←arl]; congr 1; omega
  rw[ajJ,e1];simp only[arO,bq,ar8,aqV,hcl,hzc];have:min (i*W) (n*W)=i*W:=Nat.min_eq_left ald;omega
 obtain⟨W1,hW1⟩:∃ W1,W1=w.drew.alloc (.cells ROW (ρ.t 9)):=⟨_,rfl⟩
 rw[←hW1] at hrz;have hN:∀ j,j<(n+m)*W->(W1.cell? ⟨w.heap.size,j,none⟩).isSome=true:=λ j hj=>by
  rw[hW1,World.cell?_alloc_at (w:=w.drew) ROW _ w.heap.size j rfl,ars (by omega)]; rfl
 have hNf:∀ j,W1.frozen? ⟨w.heap.size,j,none⟩=false:=λ j=>by rw[hW1]; exact World.frozen?_alloc_at (w:=w.drew) ROW _ w.heap.size j rfl
 have hOb:∀ j v,w.cell? ⟨b,j,none⟩=some v->W1.cell? ⟨b,j,none⟩=some v:=λ j v h=>by rw[hW1,World.cell?_alloc_past (w:=w.drew) _ b j hbw]; exact h
 have hOv:∀ j v,w.cell? ⟨vb,j,none⟩=some v->W1.cell? ⟨vb,j,none⟩=some v:=λ j v h=>by rw[hW1,World.cell?_alloc_past (w:=w.drew) _ vb j hvw]; exact h
 have aop:∀ (W0:World),(∀ x,W0.cell? x=W1.cell? x)->(∀ x,W0.frozen? x=W1.frozen? x)->∀ ty dc,(Builtin.copy_ #[(ρ.t 24),(ρ.t 24)] ty #[.slice (some ⟨w.heap.size,i*W,none⟩) (n+m - i) dc,.slice (some ⟨vb,voff,none⟩) m vc]).run P W0=.ok (goInt ((m:Nat):Int)) (W0.setCells w.heap.size (i*W) vs):=λ W0 hWc hWf ty dc=>
  mc W0 _ _ ty (ρ.t 9) w.heap.size (i*W) (n+m - i) dc ⟨vb,voff,none⟩ m vc vs m W L.t24 hsz (by simp only[Nat.min_def]; split<;>omega) hvl
   (λ j v hj=>by rw[Addr.add_lit,hWc]; exact hOv _ v (hvs j v hj))
   (λ j hj=>by rw[hWc]; exact hN _ (by omega)) (λ j hj=>by rw[hWf]; exact hNf _) h1v
 have hGn:n+m<=G:=by rw[hG]; exact grownCap_ge w _ _ _
 have aq9:G<=9223372036854775807:=by
  have:=grownCap_le_maxLen w (n+m) c (ρ.t 9) (by unfold maxLen; omega)
  rw[←hG] at this;unfold maxLen at this;omega
 have hGi:¬ (G=i):=by omega
 have aqc:¬ (G=i+m):=by omega
 have hci:¬ (c=i):=by omega
 have hbN:b≠w.heap.size:=by omega
 have hdl:(cs.drop (i*W)).length=(n - i)*W:=by rw[ar2,hcl,Nat.sub_mul]
 have alS:(cs.drop (i*W)).length=n*W - i*W:=by rw[ar2,hcl]
 have amN:∀ (W0:World),(∀ x,W0.cell? x=(W1.setCells w.heap.size (i*W) vs).cell? x)->(∀ x,W0.frozen? x=(W1.setCells w.heap.size (i*W) vs).frozen? x)->∀ ty dc sc,(Builtin.copy_ #[(ρ.t 24),(ρ.t 24)] ty #[.slice (some ⟨w.heap.size,(i+m)*W,none⟩) (n+m - (i+m)) dc,.slice (some ⟨b,off+i*W,none⟩) (n - i) sc]).run P W0=.ok (goInt ((n - i:Nat):Int)) (W0.setCells w.heap.size ((i+m)*W) (cs.drop (i*W))):=λ W0 hWc hWf ty dc sc=>
  mc W0 _ _ ty (ρ.t 9) w.heap.size ((i+m)*W) (n+m - (i+m)) dc ⟨b,off+i*W,none⟩ (n - i) sc (cs.drop (i*W)) (n - i) W L.t24 hsz (by simp only[Nat.min_def]; split<;>omega) hdl
   (λ j v hj=>by
    rw[Addr.add_lit,hWc,World.cell?_setCells_out _ _ _ _ _ (λ h _=>absurd h hbN),aru];exact hOb _ v (hcs (i*W+j) v (by rwa [List.getElem?_drop] at hj)))
   (λ j hj=>by rw[hWc]; exact isSome_setCells _ _ _ _ (λ t ht=>hN _ (by omega)) _ (hN _ (by omega)))
   (λ j hj=>by rw[hWf,World.frozen?_setCells]; exact hNf _) (λ v hv=>h1c v (List.mem_of_mem_drop hv))
 subst hW1;have hE1:∀ x,((w.alloc (.cells ROW (ρ.t 9))).drew).cell? x=(w.drew.alloc (.cells ROW (ρ.t 9))).cell? x:=λ x=>rfl;have hE2:∀ x,((w.alloc (.cells ROW (ρ.t 9))).drew).frozen? x=(w.drew.alloc (.cells ROW (ρ.t 9))).frozen? x:=λ x=>rfl;have hF1:∀ x,(((w.alloc (.cells ROW (ρ.t 9))).drew.setCells w.heap.size (i*W) vs).drew).cell? x=((w.drew.alloc (.cells ROW (ρ.t 9))).setCells w.heap.size (i*W) vs).cell? x:=λ x=>rfl;have hF2:∀ x,(((w.alloc (.cells ROW (ρ.t 9))).drew.setCells w.heap.size (i*W) vs).drew).frozen? x=((w.drew.alloc (.cells ROW (ρ.t 9))).setCells w.heap.size (i*W) vs).frozen? x:=λ x=>rfl;have hw1:IntKind.i64.wrap ((i:Int)+(m:Int))=(i:Int)+(m:Int):=by rw[IntKind.wrap_i64]; omega
 have hb1:(0:Int)<=(i:Int)+(m:Int):=by omega
 have hin:i<=n:=by omega
 have htn:((i:Int)+(m:Int)).toNat=i+m:=by omega
 have hb3:(i:Int)<=(n:Int):=by omega
 clear hkk hik hold ajJ hG hRl him hnm ald hiW hmW hdl alS hzq;obtain⟨nm,f22⟩:=L.f22
 go_enter f22,ku ρ nm
 go_wp2_with (first
  | (at_builtin; refine Lib.wpList_append_run _ rfl _ _ _ _ rfl _ _ rfl rfl _ _ (hrz _) ?_)
  | (at_builtin; refine wpList_copy_runI _ rfl _ _ (ρ.t 24) (ρ.t 24) rfl _ _ rfl rfl (aop _ hE1 hE2 _ _) ?_)
  | (at_builtin; refine wpList_copy_runI _ rfl _ _ (ρ.t 24) (ρ.t 24) rfl _ _ rfl rfl (amN _ (λ _=>rfl) (λ _=>rfl) _ _ _) ?_))
 go_region_law_o (refine step_copy_runI rfl _ _ (ρ.t 24) (ρ.t 24) rfl (.slice (some ⟨w.heap.size,(i+m)*W,none⟩) (n+m - (i+m)) (G - (i+m))) (.slice (some ⟨b,off+i*W,none⟩) (n - i) (c - i)) (by simp[Act.eval,Act.put]) (by simp[Act.eval,Act.put]) (amN _ hF1 hF2 (ρ.t 3) (G - (i+m)) (c - i)) ?_)
 go_wp2
 go_ret
 exact⟨rfl,rfl⟩
end Ev
namespace Ev
open Go Go.RowKit Go.Shelf Go.Lib Go.Proofs
theorem ML [Tags] (b:Nat) (T:TypeId) (fr:Nat×Nat):∀ (vs:List Value) (o:Nat) (arr:Array Value) (w:World),w.heap[b]?=some (.cells arr T fr)->o+vs.length<=arr.size->
  w.setCells b o vs=y6 w b (.cells (setAt arr.toList o vs).toArray T fr)
 | [],o,arr,w,h,_=>by
  simp only[World.setCells,vj,Array.toArray_toList];rw[tZ h]
 | v::vs,o,arr,w,h,hl=>by
  have hlt:o<arr.size:=by simp at hl; omega
  rw[World.setCells,GO v h,ML b T fr vs (o+1) (arr.setIfInBounds o v) _ (Yu h) (by simp at hl ⊢; omega),lU]
  congr 3;rw[ast,vk _ _ _ _ (by simp at hl ⊢; omega)]
theorem mM {α:Type} (A B vs:List α) (k:Nat) (hk:k=A.length):setAt (A++B) k vs=A++(vs++B.drop vs.length):=by
 subst hk;simp[setAt]
theorem RdL.splitAt [Tags] {w:World} {e:Ty}:∀ {xs:List (den e)} {cs:List Value} {fp:List Nat} (n:Nat),RdL (Rd w e) xs cs fp->n<=xs.length->
  ∃ f1 f2,fp=f1++f2/\RdL (Rd w e) (xs.take n) (cs.take (n*e.size)) f1/\RdL (Rd w e) (xs.drop n) (cs.drop (n*e.size)) f2
 | xs,cs,fp,0,h,_=>⟨[],fp,by simp,by simp[RdL],by simpa using h⟩
 | [],_,fp,n+1,h,hn=>by simp at hn
 | x::xs,cs,fp,n+1,⟨c,rest,f1,f2,h1,h2,h3,h4⟩,hn=>by
  have l1:=h3.len;obtain⟨g1,g2,e1,e2,e3⟩:=RdL.splitAt n h4 (by simpa using hn);refine⟨f1++g1,g2,by rw[h2,e1]; simp,⟨c,rest.take (n*e.size),f1,g1,?_,rfl,h3,e2⟩,?_⟩
  ·rw[h1,are,as5,arI (by omega),l1];congr 2; omega
  ·have hd:c.drop (n*e.size+e.size)=[]:=List.drop_eq_nil_of_le (by omega);rw[h1,are,asw,hd,l1,ar6,Nat.add_sub_cancel];exact e3
theorem cv [Tags] {B:Nat} {X:List Nat} {w0 w:World} {b:Nat} {arr arr':Array Value} {T:TypeId} {fr:Nat×Nat} (h:KeepsW B X w0 w) (hb:w.heap[b]?=some (.cells arr T fr)) (hs:arr'.size=arr.size)
  (hx:b∈X∨B<=b):KeepsW B X w0 (y6 w b (.cells arr' T fr)):=by
 refine⟨h.os,h.tape,h.output,by simpa[y6] using h.size,λ k hk hkx => ?_,λ k hk hu => ?_,λ k => ?_⟩
 ·have:k≠b:=by rintro rfl; rcases hx with hx|hx; exact hkx hx; omega
  rw[YM this]; exact h.block k hk hkx
 ·by_cases hkb:k=b
  ·subst hkb;intro a T' fr' h';rw[Yu hb] at h';cases h';have:=h.free k hk hu arr T fr hb;rw[hs]; exact this
  ·exact (h.free k hk hu).congr (YM hkb)
 ·by_cases hkb:k=b
  ·subst hkb;intro a T' fr' h0;obtain⟨a1,e1,e2⟩:=h.shape k a T' fr' h0;rw[hb] at e1;cases e1;exact⟨arr',Yu hb,by omega⟩
  ·exact (h.shape k).trans (Shape.same (YM hkb))
theorem XZ [Tags] {w w':World} {T:Nat} {e:Ty} {xs vs:List (den e)} {i N cap:Nat} {arrR:Array Value} {Tt:TypeId} {fr:Nat×Nat} {P1 V P2 rest:List Value} {fa fb fv:List Nat}
  (hi:i<=xs.length) (hN:w'.heap[N]?=some (.cells arrR Tt fr)) (hf:frees fr arrR.size) (hs:arrR.size=cap*e.size) (hc:xs.length+vs.length<=cap) (hb:xs.length+vs.length<=140737488355328) (ak2:L0 T Tt/\(T=Tags.post->e.size=18))
  (hl:arrR.toList=P1++(V++(P2++rest))) (l1:P1.length=i*e.size) (l2:V.length=vs.length*e.size) (h1:RdL (Rd w e) (xs.take i) P1 fa) (h2:RdL (Rd w e) vs V fv) (h3:RdL (Rd w e) (xs.drop i) P2 fb)
  (hfr:∀ b∈fa++fv++fb,w'.heap[b]?=w.heap[b]?):
  RdO w' (.sl T e) (xs.take i++vs++xs.drop i) [.slice (some ⟨N,0,none⟩) (xs.length+vs.length) cap] [N] (fa++(fv++fb)):=by
 have hlen:(xs.take i++vs++xs.drop i).length=xs.length+vs.length:=by simp; omega
 refine .inr ⟨N,cap,arrR,Tt,fr,by rw[hlen],hN,hf,hs,by omega,by omega,?_,rfl,ak2⟩;rw[hl,ar7];refine RdL.app (h1.frame λ b hb=>hfr b (by simp[hb])) (by rw[l1,aqV,arR hi]) ?_;refine RdL.app (h2.frame λ b hb=>hfr b (by simp[hb])) l2 ?_;exact RdL.more _ (h3.frame λ b hb=>hfr b (by simp[hb]))
theorem pY [Tags] (w:World) (X:List Nat) (arr:Array Value) (T:TypeId):KeepsW w.heap.size X w (w.drew.alloc (.cells arr T)):=by
 have h:=(A4 w arr T).weak;exact⟨h.os,h.tape,h.output,h.size,λ k hk _=>h.block k hk (by simp),h.free,h.shape⟩
theorem X7 {B:Nat} {X:List Nat} {w0 w:World} (h:KeepsW B X w0 w):KeepsW B X w0 w.drew:=⟨h.os,h.tape,h.output,h.size,h.block,h.free,h.shape⟩
theorem oQ (w:World) (arr:Array Value) (T:TypeId):(w.drew.alloc (.cells arr T)).heap[w.heap.size]?=some (.cells arr T (0,0)):=by
 show (w.heap.push _)[w.heap.size]?=_;simp
theorem G1 {w:World} {b:Nat} {arr:Array Value} {T:TypeId} {fr:Nat×Nat} (h:w.heap[b]?=some (.cells arr T fr)):w.shape? b=some (T,arr.size):=by
 simp[World.shape?,h]
theorem WE {w:World} {b:Nat} {arr:Array Value} {T:TypeId} {fr:Nat×Nat} (h:w.heap[b]?=some (.cells arr T fr)) (hf:frees fr arr.size):w.frozen? ⟨b,arr.size,none⟩=false:=by
 obtain⟨lo,hi⟩:=fr;simp only[World.frozen?,h];exact hf _ (Nat.le_refl _)
theorem aez {α:Type} (l vs:List α) (j p:Nat) (h:p<=j) (hj:j<=l.length):(setAt l j vs).take p=l.take p:=by
 unfold setAt;rw[ar7,arN (by simp; omega),asd,arR h]
theorem aex {α:Type} (l vs:List α) (j:Nat) (hj:j<=l.length):(setAt l j vs).drop j=vs++l.drop (j+vs.length):=by
 unfold setAt;rw[ar7,asw,as4 (by simp; omega)]
 simp[arR hj]
variable {P:Program} {gl:Glob} {ρ:Ren} {zc:Array Value} {B:Nat}
def ks {α:Type} (a:List α×Int×List α×Unit):Option (List α×Unit):=
 if 0<=a.2.1/\a.2.1<=(a.1.length:Int)/\0<a.2.2.1.length/\(a.1.length+a.2.2.1.length)<=1099511627776 then some (a.1.take a.2.1.toNat++a.2.2.1++a.1.drop a.2.1.toNat,()) else none
theorem CallsTo.mono {f:FuncId} {args:Array Value} {w:World} {R R':Value->World->Prop} (h:CallsTo P f args w R) (hi:∀ v w',R v w'->R' v w'):CallsTo P f args w R':=by
 unfold CallsTo at h ⊢;split at h
 ·exact hi _ _ h
 ·refine Calls.mono h ?_;intro e w'' hR;cases e with
  | returned v=>exact hi _ _ hR
  | panicked _=>exact hR.elim
  | outgrown=>exact hR.elim
 ·exact Rows.mono h λ v w' hR=>hi _ _ hR
 ·exact h.elim
theorem RdO.noSlF [Tags] {w:World} {T:Nat} {e:Ty} (hns:e.hasSl=false) {v:List (den e)} {cs:List Value} {xs fs:List Nat} (h:RdO w (.sl T e) v cs xs fs):fs=[]:=by
 rcases h with⟨_,_,_,h⟩|⟨b,cap,arr,T',fr,_,_,_,_,_,_,h,_⟩
 ·exact h
 ·exact h.noSl hns
theorem AW [Tags] {T:Nat} {e:Ty} (L:Kv P ρ e.size zc B) (he:∀ args w,(callFunc (ρ.f 22) args).run P w=.ok (.enter (ρ.f 22) args) w) (hz:zc.size=e.size) (hB:B<=128) (hTg:T≠Tags.post/\ρ.t 9≠Tags.post) {w:World} {xs vs:List (den e)} {i:Int} {cs cs3:List Value} {xs1 xs3 fs1 fs3:List Nat} {o:List (den e)×Unit}
  (h1:RdO w (.sl T e) xs cs xs1 fs1) (h3:RdO w (.sl T e) vs cs3 xs3 fs3) (hnd:(xs1++xs3).Nodup) (ai0:∀ b∈xs1++xs3,b∉fs1++fs3) (hf:ks (α:=den e) (xs,i,vs,())=some o):
  CallsTo P (ρ.f 22) #[yD (.sl T e) cs,.int .i64 i,yD (.sl T e) cs3] w λ v w'=>KeepsW w.heap.size (xs1++xs3) w w'/\∃ N fa fb,fs1=fa++fb/\RdO w' (.sl T e) o.1 [v] [N] (fa++(fs3++fb))/\N∉fa++(fs3++fb)/\(w.heap.size<=N∨N∈xs1):=by
 simp only[ks] at hf;split at hf
 ·rename_i hc;cases hf;have c1:0<=i:=hc.1;have c2:i<=(xs.length:Int):=hc.2.1;have c3:0<vs.length:=hc.2.2.1;have c4:xs.length+vs.length<=1099511627776:=hc.2.2.2;clear hc;have hW:0<e.size:=Ty.size_pos e;obtain⟨k,rfl⟩:∃ k:Nat,i=(k:Int):=Int.eq_ofNat_of_zero_le c1;have hk:k<=xs.length:=Int.ofNat_le.1 c2;have ek:Int.toNat ((k:Nat):Int)=k:=rfl
-- what is put in
  rcases h3 with⟨rfl,_⟩|⟨vb,vcap,varr,vT,vfr,rfl,vh,vf,vs',vl,vl2,vr,rfl,_⟩
  ·simp at c3
  have hvs:∀ j v,(varr.toList.take (vs.length*e.size))[j]?=some v->w.cell? ⟨vb,0+j,none⟩=some v:=by
   intro j v hj;rw[M7 vh,arv];rw[arM] at hj;split at hj
   ·simpa using hj
   ·cases hj
  have vl:vs.length<=vcap:=vl;have vr:RdL (Rd w e) vs varr.toList fs3:=vr;have hle:vs.length*e.size<=varr.toList.length:=vr.le;have hvl:(varr.toList.take (vs.length*e.size)).length=vs.length*e.size:=by rw[aqV,arR hle]
  have hv1:=vr.one;have hvr:=vr.cut;have aoF:=vr.lt;have ahy:(xs.length+vs.length)*B<=140737488355328:=by
   have:=Nat.mul_le_mul c4 hB;omega
  have ahG:∀ {N cap:Nat} {w':World} {arrR:Array Value} {Tt:TypeId} {fr:Nat×Nat} {P1 P2 rest:List Value} {fa fb:List Nat},L0 T Tt->KeepsW w.heap.size (xs1++[vb]) w w'->w'.heap[N]?=some (.cells arrR Tt fr)->frees fr arrR.size->arrR.size=cap*e.size->
    xs.length+vs.length<=cap->arrR.toList=P1++(varr.toList.take (vs.length*e.size)++(P2++rest))->P1.length=k*e.size->RdL (Rd w e) (xs.take k) P1 fa->RdL (Rd w e) (xs.drop k) P2 fb->fs1=fa++fb->(w.heap.size<=N∨N∈xs1)->
    KeepsW w.heap.size (xs1++[vb]) w w'/\∃ N' fa fb,fs1=fa++fb/\RdO w' (.sl T e) (xs.take k++vs++xs.drop k) [.slice (some ⟨N,0,none⟩) (xs.length+vs.length) cap] [N'] (fa++(fs3++fb))/\N'∉fa++(fs3++fb)/\(w.heap.size<=N'∨N'∈xs1):=by
   intro N cap w' arrR Tt fr P1 P2 rest fa fb htt hkeep hN hf' hs hcap hl l1 q1 q3 hfs hNx;subst hfs;have hb1:∀ b∈fa++fs3++fb,b<w.heap.size/\b∉xs1++[vb]:=by
    intro b hb;refine⟨?_,?_⟩
    ·simp only[ar0] at hb;rcases hb with (hb|hb)|hb
     ·exact q1.lt b hb
     ·exact aoF b hb
     ·exact q3.lt b hb
    ·intro hx;have:=ai0 b (by simpa using hx);simp only[ar0] at hb;apply this;rcases hb with (hb|hb)|hb<;>simp[hb]
   have hO:=XZ (T:=T) hk hN hf' hs hcap (by omega) ⟨htt,λ k=>absurd k hTg.1⟩ hl l1 hvl q1 hvr q3 (λ b hb=>hkeep.block b (hb1 b hb).1 (hb1 b hb).2);have hNf:N∉fa++(fs3++fb):=by
    intro hm;have:=hb1 N (by simpa[ar7] using hm);rcases hNx with h|h
    ·omega
    ·exact this.2 (by simp[h])
   exact⟨hkeep,N,fa,fb,rfl,hO,hNf,hNx⟩
  have h1':(xs=[]/\cs=[.slice none 0 0]/\xs1=[]/\fs1=[])∨∃ b cap arr aT fr,cs=[.slice (some ⟨b,0,none⟩) xs.length cap]/\w.heap[b]?=some (.cells arr aT fr)/\frees fr arr.size/\arr.size=cap*e.size/\
   xs.length<=cap/\xs.length<=140737488355328/\RdL (Rd w e) xs arr.toList fs1/\xs1=[b]/\L0 T aT/\(T=Tags.post->e.size=18):=h1
  rcases h1' with⟨rfl,rfl,rfl,rfl⟩|⟨b,cap,arr,aT,fr,rfl,hb,hfr,hs,hl,hl2,hr,rfl,anL,_⟩
  ·have hk0:k=0:=by simpa using hk
   subst hk0;have aiI:=AX L none 0 0 vb 0 vs.length vcap [] _ w c3 (Nat.le_refl _) (by omega) (by simpa using c4) (by simpa using ahy) (by simp) hvl (λ _=>rfl) (λ a h=>by cases h) hvs hv1;refine Jq he aiI ?_;rintro e' w' ⟨rfl,rfl⟩;refine⟨_,rfl,?_⟩;have hG:vs.length<=grownCap w (0+vs.length) 0 (ρ.t 9):=by have:=grownCap_ge w (0+vs.length) 0 (ρ.t 9); omega
   refine ahG (P1:=[]) (P2:=[]) (rest:=(Builtin.zeroCells zc (grownCap w (0+vs.length) 0 (ρ.t 9) - (0+vs.length))).toList) (fa:=[]) (fb:=[]) ⟨λ k=>absurd k hTg.2,λ k=>absurd k hTg.1⟩ (pY w _ _ _) (oQ w _ _) (KA _) ?_ (by simpa using hG) (by simp) (by simp) rfl rfl rfl (.inl (Nat.le_refl _));rw[arO,bq,hz,ar8,ar6,hvl,←arl];congr 1;omega
  ·have hnW:xs.length*e.size<=arr.toList.length:=by
    have:=Nat.mul_le_mul_right e.size hl;simp only[ary]; omega
   have hkW:k*e.size<=xs.length*e.size:=Nat.mul_le_mul_right e.size hk;have ai2:(xs.length - k)*e.size=xs.length*e.size - k*e.size:=Nat.sub_mul _ _ _;obtain⟨fa,fb,ajO,q1,q3'⟩:=RdL.splitAt k hr hk;have q3:=q3'.cut;rw[ar2] at q3;obtain⟨P1,hP1⟩:∃ P1,P1=arr.toList.take (k*e.size):=⟨_,rfl⟩
   obtain⟨P2,hP2⟩:∃ P2,P2=(arr.toList.drop (k*e.size)).take ((xs.length - k)*e.size):=⟨_,rfl⟩
   obtain⟨R,hR⟩:∃ R,R=arr.toList.drop (xs.length*e.size):=⟨_,rfl⟩
   have l1:P1.length=k*e.size:=by rw[hP1,aqV]; omega
   have l2:P2.length=(xs.length - k)*e.size:=by rw[hP2,aqV,ar2]; omega
   have alt:arr.toList=P1++(P2++R):=by
    have h0:R=(arr.toList.drop (k*e.size)).drop ((xs.length - k)*e.size):=by
     rw[hR,ark]; congr 1; omega
    rw[h0,hP2,as0,hP1,as0]
   have aor:(arr.toList.take (xs.length*e.size)).take (k*e.size)=P1:=by rw[asd,arR hkW,hP1]
   have amO:(arr.toList.take (xs.length*e.size)).drop (k*e.size)=P2:=by rw[asv,hP2,ai2]
   rw[←hP1] at q1;rw[←hP2] at q3;have hcl:(arr.toList.take (xs.length*e.size)).length=xs.length*e.size:=by rw[aqV,arR hnW]
   have hcs:∀ j v,(arr.toList.take (xs.length*e.size))[j]?=some v->w.cell? ⟨b,0+j,none⟩=some v:=by
    intro j v hj;rw[M7 hb,arv];rw[arM] at hj;split at hj
    ·simpa using hj
    ·cases hj
   have h1c:=hr.one;have ak6:arr.toList.length=arr.size:=Array.length_toList;have hmW:(xs.length+vs.length)*e.size=xs.length*e.size+vs.length*e.size:=Nat.add_mul _ _ _;have hkm:(k+vs.length)*e.size=k*e.size+vs.length*e.size:=Nat.add_mul _ _ _;have hne:vb≠b:=by
    intro h;subst h;simp at hnd
   by_cases ahp:xs.length+vs.length<=cap
   ·have aqh:(xs.length+vs.length)*e.size<=arr.size:=by rw[hs]; exact Nat.mul_le_mul_right _ ahp
    have hsp:∀ j,j<(xs.length+vs.length)*e.size->(w.cell? ⟨b,0+j,none⟩).isSome=true:=by
     intro j hj;rw[M7 hb,ars (by omega)]; rfl
    have hfz:∀ j,j<(xs.length+vs.length)*e.size->w.frozen? ⟨b,0+j,none⟩=false:=λ j hj=>fU hb hfr (by omega);by_cases hkn:k=xs.length
    ·subst hkn;have aiI:=XX L b 0 xs.length cap vb 0 vs.length vcap _ w c3 ahp c4 hvl (λ j hj=>by have:=hsp (xs.length*e.size+j) (by omega); rwa [Nat.zero_add] at this ⊢) (λ j hj=>by have:=hfz (xs.length*e.size+j) (by omega); rwa [Nat.zero_add] at this ⊢) hvs hv1
     refine Jq he aiI ?_;rintro e' w' ⟨rfl,rfl⟩;refine⟨_,rfl,?_⟩;have al5:P2=[]:=List.length_eq_zero_iff.1 (by rw[l2]; simp)
     rw[Nat.zero_add,ML b aT fr _ _ arr w hb (by rw[hvl]; omega)]
     have hsa:=mM P1 (P2++R) (varr.toList.take (vs.length*e.size)) (xs.length*e.size) l1.symm;rw[←alt,al5,ar6] at hsa;have hsz:=YS (l:=arr.toList) (k:=xs.length*e.size) (vs:=varr.toList.take (vs.length*e.size)) (by rw[hvl]; omega)
     refine ahG (P1:=P1) (P2:=P2) (fa:=fa) (fb:=fb) (rest:=R.drop (varr.toList.take (vs.length*e.size)).length) anL (cv (KeepsW.refl _ _ _) hb (by simpa using hsz) (.inl (by simp))) (Yu hb) (by rw[ar8,hsz]; simpa using hfr) (by rw[ar8,hsz]; simpa using hs) ahp
      (by rw[al5,ar6]; exact hsa) l1 q1 q3 ajO (.inr (by simp))
    ·have am2:k<xs.length:=by omega
     have aiI:=X0 L hW b 0 xs.length cap k vb 0 vs.length vcap _ _ w am2 c3 ahp c4 hne hcl hvl hcs hsp hfz hvs h1c hv1 vT aT varr.size arr.size (G1 vh) (G1 hb) (by have:=Nat.mul_pos (show 0<xs.length+vs.length by omega) hW; omega)
      (fU vh vf (by have:=Nat.mul_pos c3 hW; simp at hle; omega)) (WE vh vf)
     refine Jq he aiI ?_;rintro e' w' ⟨rfl,rfl⟩;refine⟨_,rfl,?_⟩;rw[amO,arv,arv];have ao8:P2.length=xs.length*e.size - k*e.size:=by rw[l2,ai2]
     have hb':w.drew.heap[b]?=some (.cells arr aT fr):=hb;rw[ML b aT fr _ _ arr w.drew hb' (by omega)];have hsz:=YS (l:=arr.toList) (k:=(k+vs.length)*e.size) (vs:=P2) (by omega);rw[ML b aT fr _ _ _ _ (Yu hb') (by rw[ar8,hsz,hvl]; omega),lU]
     have hQ:(setAt arr.toList ((k+vs.length)*e.size) P2)=P1++(setAt arr.toList ((k+vs.length)*e.size) P2).drop (k*e.size):=by
      have:=aez arr.toList P2 ((k+vs.length)*e.size) (k*e.size) (by omega) (by omega);rw[hP1,←this,as0]
     have hD:((setAt arr.toList ((k+vs.length)*e.size) P2).drop (k*e.size)).drop (vs.length*e.size)=P2++arr.toList.drop ((k+vs.length)*e.size+P2.length):=by
      rw[ark,←hkm];exact aex _ _ _ (by omega)
     have hsa:=mM P1 ((setAt arr.toList ((k+vs.length)*e.size) P2).drop (k*e.size)) (varr.toList.take (vs.length*e.size)) (k*e.size) l1.symm;rw[hvl,hD,←hQ] at hsa;have ai3:=YS (l:=setAt arr.toList ((k+vs.length)*e.size) P2) (k:=k*e.size) (vs:=varr.toList.take (vs.length*e.size)) (by rw[hvl,hsz]; omega)
     rw[hsz] at ai3;have hkw:KeepsW w.heap.size ([b]++[vb]) w w.drew:=⟨rfl,rfl,rfl,Nat.le_refl _,λ _ _ _=>rfl,λ _ _ h=>h,Shape.refl w⟩
     refine ahG (P1:=P1) (P2:=P2) (fa:=fa) (fb:=fb) (rest:=arr.toList.drop ((k+vs.length)*e.size+P2.length)) anL (cv hkw hb' (by simpa using ai3) (.inl (by simp))) (Yu hb') (by rw[ar8]; simpa[ai3] using hfr) (by rw[ar8]; simpa[ai3] using hs) ahp
      (by simpa using hsa) l1 q1 q3 ajO (.inr (by simp))
   ·have hnr:cap<xs.length+vs.length:=by omega
    have hGe:=grownCap_ge w (xs.length+vs.length) cap (ρ.t 9);by_cases hkn:k=xs.length
    ·subst hkn;have aiI:=AX L (some ⟨b,0,none⟩) xs.length cap vb 0 vs.length vcap _ _ w c3 hl hnr c4 ahy hcl hvl (λ h=>by cases h) (λ a h j v hj=>by cases h; rw[M4]; exact hcs j v hj) hvs hv1
     refine Jq he aiI ?_;rintro e' w' ⟨rfl,rfl⟩;refine⟨_,rfl,?_⟩;have al5:P2=[]:=List.length_eq_zero_iff.1 (by rw[l2]; simp)
     have ao7:arr.toList.take (xs.length*e.size)=P1:=hP1.symm;refine ahG (P1:=P1) (P2:=P2) (fa:=fa) (fb:=fb) (rest:=(Builtin.zeroCells zc (grownCap w (xs.length+vs.length) cap (ρ.t 9) - (xs.length+vs.length))).toList) ⟨λ k=>absurd k hTg.2,λ k=>absurd k hTg.1⟩ (pY w _ _ _) (oQ w _ _) (KA _) ?_ hGe (by rw[ao7,al5]; simp) l1 q1 q3 ajO (.inl (Nat.le_refl _))
     rw[arO,bq,hz,ar8,aqM,hcl,hvl,←arl,←arl];congr 1;omega
    ·have am2:k<xs.length:=by omega
     have aiI:=XY L hW b 0 xs.length cap k vb 0 vs.length vcap _ _ w am2 c3 hl hnr c4 ahy hcl hvl hz hcs hvs h1c hv1;refine Jq he aiI ?_;rintro e' w' ⟨rfl,rfl⟩;refine⟨_,rfl,?_⟩;rw[aor,amO];obtain⟨G,hG⟩:∃ G,G=grownCap w (xs.length+vs.length) cap (ρ.t 9):=⟨_,rfl⟩
     rw[←hG] at hGe ⊢;obtain⟨Z,hZ⟩:∃ Z,Z=(Builtin.zeroCells zc (xs.length+vs.length - k)).toList++(Builtin.zeroCells zc (G - (xs.length+vs.length))).toList:=⟨_,rfl⟩
     obtain⟨ROW,ajJ⟩:∃ ROW,ROW=P1.toArray++Builtin.zeroCells zc (xs.length+vs.length - k)++Builtin.zeroCells zc (G - (xs.length+vs.length)):=⟨_,rfl⟩
     rw[←ajJ];have hRl:ROW.toList=P1++Z:=by rw[ajJ,hZ]; simp
     have hRs:ROW.size=G*e.size:=by
      rw[ajJ,arO,arO,bq,bq,hz,ar8,l1,←arl,←arl];congr 1;omega
     have alD:ROW.toList.length=G*e.size:=by rw[←hRs]; exact Array.length_toList
     have hGW:(xs.length+vs.length)*e.size<=G*e.size:=Nat.mul_le_mul_right _ hGe;have ao8:P2.length=xs.length*e.size - k*e.size:=by rw[l2,ai2]
     have hk0:KeepsW w.heap.size ([b]++[vb]) w (w.alloc (.cells ROW (ρ.t 9))).drew:=pY w _ _ _;have hg0:(w.alloc (.cells ROW (ρ.t 9))).drew.heap[w.heap.size]?=some (.cells ROW (ρ.t 9) (0,0)):=oQ w _ _;rw[ML w.heap.size (ρ.t 9) (0,0) _ _ ROW _ hg0 (by rw[hvl,←ary,alD]; omega)]
     have hsz:=YS (l:=ROW.toList) (k:=k*e.size) (vs:=varr.toList.take (vs.length*e.size)) (by rw[hvl,alD]; omega)
     rw[alD] at hsz;have hk1:=X7 (cv (arr':=(setAt ROW.toList (k*e.size) (varr.toList.take (vs.length*e.size))).toArray) hk0 hg0 (by rw[ar8,hsz,hRs]) (.inr (Nat.le_refl _)));have hg1:(y6 (w.alloc (.cells ROW (ρ.t 9))).drew w.heap.size (.cells (setAt ROW.toList (k*e.size) (varr.toList.take (vs.length*e.size))).toArray (ρ.t 9) (0,0))).drew.heap[w.heap.size]?=some (.cells (setAt ROW.toList (k*e.size) (varr.toList.take (vs.length*e.size))).toArray (ρ.t 9) (0,0)):=Yu hg0;rw[ML w.heap.size (ρ.t 9) (0,0) _ _ _ _ hg1 (by rw[ar8,hsz]; omega)]
     have ai3:=YS (l:=setAt ROW.toList (k*e.size) (varr.toList.take (vs.length*e.size))) (k:=(k+vs.length)*e.size) (vs:=P2) (by rw[hsz]; omega)
     rw[hsz] at ai3;have hA1:=mM P1 Z (varr.toList.take (vs.length*e.size)) (k*e.size) l1.symm;rw[←hRl,←ar7] at hA1;have hA2:=mM (P1++varr.toList.take (vs.length*e.size)) (Z.drop (varr.toList.take (vs.length*e.size)).length) P2 ((k+vs.length)*e.size) (by rw[aqM,l1,hvl,hkm]);rw[←hA1,ar7] at hA2;refine ahG (P1:=P1) (P2:=P2) (fa:=fa) (fb:=fb) (rest:=(Z.drop (varr.toList.take (vs.length*e.size)).length).drop P2.length) ⟨λ k=>absurd k hTg.2,λ k=>absurd k hTg.1⟩ (cv hk1 hg1 (by rw[ar8,ar8,ai3,hsz]) (.inr (Nat.le_refl _))) (Yu hg1) (KA _) (by rw[ar8,ai3]) hGe hA2 l1 q1 q3 ajO (.inl (Nat.le_refl _))
 ·cases hf
theorem Ig [Tags] {T:Nat} {e:Ty} {rk:RK} (L:Kv P ρ e.size zc B) (he:∀ args w,(callFunc (ρ.f 22) args).run P w=.ok (.enter (ρ.f 22) args) w) (hz:zc.size=e.size) (hB:B<=128) (hTg:T≠Tags.post/\ρ.t 9≠Tags.post) (hrk:rk=.own∨(rk=.uniq/\e.hasSl=false)):
  Sound P gl (ρ.f 22) ⟨[(.own,.sl T e),(.rd,.i64),(.own,.sl T e)],[.sl T e],rk,λ a=>ks (α:=den e) a⟩ where
 run:=by
  rintro w ⟨xs,i,vs,⟨⟩⟩ vals r rp rc xo xp outs ⟨cs,vs',xs1,fs1,r1,xo1,rfl,h1,rfl,rfl,cs2,vs2,fp2,r2,rfl,h2,rfl,cs3,vs3,xs3,fs3,r3,xo3,rfl,h3,rfl,rfl,rfl,rfl,rfl,rfl,rfl,rfl⟩ hnd ai0 hG - hf;obtain⟨rfl,rfl,-⟩:=h2;refine (AW L he hz hB hTg h1 h3 (by simpa using hnd) (λ b hb=>by simpa using (ai0 b (by simpa using hb)).1) hf).mono ?_;rintro v w' ⟨hkeep,N,fa,fb,rfl,hO,hNf,hNx⟩;refine⟨by simpa using hkeep,[],rfl,[[v]],[N],fa++(fs3++fb),⟨_,[],[N],[],fa++(fs3++fb),[],rfl,rfl,by simp,?_,rfl,rfl,rfl⟩,rfl,?_,?_⟩
  ·rcases hrk with rfl|⟨rfl,_⟩<;>exact hO
  ·rcases hrk with rfl|⟨rfl,hns⟩
   ·refine⟨by simp,λ b hb=>⟨?_,by simp⟩,λ b hb hb' => ?_,λ b hb => ?_⟩
    ·simp at hb; subst hb
     rcases hNx with h|h
     ·exact .inl h
     ·exact .inr (by simp[h])
    ·simp at hb; subst hb; exact hNf hb'
    ·refine .inr (.inl ?_);simp only[ar0] at hb;rcases hb with hb|hb|hb<;>simp[hb]
   ·have e1:=RdO.noSlF hns hO;rw[e1];refine⟨by simp,λ b hb=>⟨?_,by simp⟩⟩;simp at hb; subst hb
    rcases hNx with h|h
    ·exact .inl h
    ·exact .inr (by simp[h])
  ·rcases hrk with rfl|⟨rfl,hns⟩
   ·intro h; cases h
   ·intro _ b hb;rw[RdO.noSlF hns hO] at hb;simp at hb
theorem aeR [Tags] {T:Nat} {e:Ty} {rk:RK} (L:Kv P ρ e.size zc B) (he:∀ args w,(callFunc (ρ.f 22) args).run P w=.ok (.enter (ρ.f 22) args) w) (hz:zc.size=e.size) (hB:B<=128) (hTg:T≠Tags.post/\ρ.t 9≠Tags.post):
  Kx P gl (ρ.f 22) ⟨[(.own,.sl T e),(.rd,.i64),(.own,.sl T e)],[.sl T e],rk,λ a=>ks (α:=den e) a⟩ where
 run:=by
  rintro w ⟨xs,i,vs,⟨⟩⟩ vals r xo outs ⟨cs,vs',xs1,fs1,r1,xo1,rfl,h1,rfl,rfl,cs2,vs2,fp2,r2,rfl,h2,rfl,cs3,vs3,xs3,fs3,r3,xo3,rfl,h3,rfl,rfl,rfl,rfl,-,-,rfl,-⟩ hnd amc ai0 hG - hf;obtain⟨rfl,rfl,-⟩:=h2;refine (AW L he hz hB hTg h1 h3 (by simpa using hnd) (λ b hb=>by simpa using ai0 b (by simpa using hb)) hf).mono ?_;rintro v w' ⟨hkeep,N,fa,fb,rfl,hO,hNf,hNx⟩;have anz:(fa++(fs3++fb)).Perm ((fa++fb)++fs3):=by
   rw[ar7];exact List.Perm.append_left fa List.perm_append_comm
  have apd:(fa++(fs3++fb)).Nodup:=anz.nodup_iff.2 (by simpa using amc);refine⟨by simpa using hkeep,[[v]],[N],fa++(fs3++fb),⟨_,[],[N],[],fa++(fs3++fb),[],rfl,rfl,by simp,hO,rfl,rfl,rfl⟩,rfl,?_,?_,?_⟩
  ·exact List.nodup_cons.2 ⟨hNf,apd⟩
  ·intro b hb;simp at hb; subst hb
   rcases hNx with h|h
   ·exact .inl h
   ·exact .inr (by simp[h])
  ·intro b hb;have:=anz.mem_iff.1 hb;simpa using this
end Ev
set_option linter.unnecessarySimpa false
namespace Ev
open Go Go.Shelf Go.RowKit Go.Lib Go.Proofs
variable {P:Program} {ρ:Ren} {W:Nat} {zc:Array Value}
structure oH (P:Program) (ρ:Ren) (W:Nat) (zc:Array Value):Prop where
 mixed:P.follows .mixedOrders=true
 f45:Bears P (ρ.f 45) (SlBodyN.n45 ρ)
 t0:P.underlying (ρ.t 0)=some (TypeDesc.tuple #[])
 a0:∀ w,(isAgg (ρ.t 0)).run P w=.ok false w
 z0:∀ w,(Go.sizeOf (ρ.t 0)).run P w=.ok 1 w
 v0:∀ w,(zeroValue (ρ.t 0)).run P w=.ok (Value.tuple #[]) w
 t3:P.underlying (ρ.t 3)=some (TypeDesc.int IntKind.i64)
 a3:∀ w,(isAgg (ρ.t 3)).run P w=.ok false w
 z3:∀ w,(Go.sizeOf (ρ.t 3)).run P w=.ok 1 w
 v3:∀ w,(zeroValue (ρ.t 3)).run P w=.ok (Value.int IntKind.i64 0) w
 t4:P.underlying (ρ.t 4)=some (TypeDesc.bool)
 a4:∀ w,(isAgg (ρ.t 4)).run P w=.ok false w
 z4:∀ w,(Go.sizeOf (ρ.t 4)).run P w=.ok 1 w
 v4:∀ w,(zeroValue (ρ.t 4)).run P w=.ok (Value.bool false) w
 t22:P.underlying (ρ.t 22)=some (TypeDesc.slice (ρ.t 23))
 a22:∀ w,(isAgg (ρ.t 22)).run P w=.ok false w
 z22:∀ w,(Go.sizeOf (ρ.t 22)).run P w=.ok 1 w
 v22:∀ w,(zeroValue (ρ.t 22)).run P w=.ok (Value.slice none 0 0) w
 z23:∀ w,(Go.sizeOf (ρ.t 23)).run P w=.ok W w
 v23:∀ w,(zeroValue (ρ.t 23)).run P w=.ok (.agg zc) w
 i23:(P.info? (ρ.t 23)).map (·.size)=some W
 zs:zc.size=W
 z1:zc.toList.all (λ v=>v.oneCell')=true
theorem ah0 {cs:Array Value} (h:cs.toList.all (λ v=>v.oneCell')=true) (n:Nat):∀ v∈(Builtin.zeroCells cs n).toList,v.oneCell'=true:=by
 intro v hv;unfold Builtin.zeroCells at hv;simp only[asz,asj] at hv;obtain⟨i,hi,rfl⟩:=hv;have hi':i<n*cs.size:=by simpa using hi
 have hs:0<cs.size:=by
  rcases Nat.eq_zero_or_pos cs.size with h0|h0
  ·rw[h0,Nat.mul_zero] at hi'; omega
  ·exact h0
 have hm:=Nat.mod_lt i hs;rw[getElem!_pos cs _ hm];exact List.all_eq_true.1 h _ (by simp)
theorem abK (w:World) (t e ty:TypeId) (z:Value) (ht:P.underlying t=some (.slice e)) (hv:∀ w,(zeroValue e).run P w=.ok z w) (h1:z.cells.toList.all (λ v=>v.oneCell')=true) (b o n c:Nat) (hn:0<n)
  (hc:∀ j,j<n*z.cells.size->(w.cell? ⟨b,o+j,none⟩).isSome=true) (hf:∀ j,j<n*z.cells.size->w.frozen? ⟨b,o+j,none⟩=false):
  (Builtin.clear_ #[t] ty #[.slice (some ⟨b,o,none⟩) n c]).run P w=.ok (.tuple #[]) (w.setCells b o (Builtin.zeroCells z.cells n).toList):=by
 have hl:(Builtin.zeroCells z.cells n).toList.length=n*z.cells.size:=by simp[Builtin.zeroCells]
 have hst:=run_storeCells_cells (P:=P) b o (Builtin.zeroCells z.cells n).toList 0 w (by rw[hl]; simpa using hc) (by rw[hl]; simpa using hf) (ah0 h1 n)
 simp only[arx] at hst;obtain⟨m,rfl⟩:∃ m,n=m+1:=⟨n - 1,by omega⟩
 simp[Builtin.clear_,run_underlying ht,hv,hst]
set_option maxHeartbeats 4000000 in
set_option maxRecDepth 1000000 in
theorem VZ (L:oH P ρ W zc) (hW:0<W) (b off n c i j:Nat) (cs:List Value) (w:World) (hcl:cs.length=n*W) (hcs:∀ t v,cs[t]?=some v->w.cell? ⟨b,off+t,none⟩=some v) (hfz:∀ t,t<n*W->w.frozen? ⟨b,off+t,none⟩=false)
  (h1c:∀ v∈cs,v.oneCell'=true) (hnc:n<=c) (hij:i<j) (hj:j<=n):
  Calls P (ρ.f 45) #[.slice (some ⟨b,off,none⟩) n c,.int .i64 i,.int .i64 j] w λ e w'=>e=.returned (.slice (some ⟨b,off,none⟩) (n - (j - i)) c)/\
   w'=(w.drew.setCells b (off+i*W) (cs.drop (j*W))).setCells b (off+(i+(n - j))*W) (Builtin.zeroCells zc (n - (i+(n - j)))).toList:=by
 have mixed:=L.mixed; have t0:=L.t0; have a0:=L.a0; have z0:=L.z0; have v0:=L.v0; have t3:=L.t3; have a3:=L.a3; have z3:=L.z3; have v3:=L.v3; have t4:=L.t4; have a4:=L.a4; have z4:=L.z4; have v4:=L.v4; have t22:=L.t22; have a22:=L.a22; have z22:=L.z22; have v22:=L.v22; have z23:=L.z23
 obtain⟨i0,hi0,hz1⟩:∃ i0,P.info? (ρ.t 23)=some i0/\i0.size=W:=by
  have h:=L.i23;cases hq:P.info? (ρ.t 23) with
  | none=>rw[hq] at h; cases h
  | some i0=>rw[hq] at h; exact⟨i0,rfl,by simpa using h⟩
 have hjW:j*W<=n*W:=Nat.mul_le_mul_right W hj;have aoS:i*W<=j*W:=Nat.mul_le_mul_right W (Nat.le_of_lt hij);have apJ:(i+(n - j))*W=i*W+(n*W - j*W):=by rw[arl,Nat.sub_mul]
 have aje:(n - (i+(n - j)))*W=n*W - (i+(n - j))*W:=Nat.sub_mul _ _ _;obtain⟨news,akc⟩:∃ news,news=cs.drop (j*W):=⟨_,rfl⟩
 have hlen:news.length=(n - j)*W:=by rw[akc,ar2,hcl,Nat.sub_mul]
 have ap0:news.length=n*W - j*W:=by rw[akc,ar2,hcl]
 rw[←akc];obtain⟨A,hA,ak1⟩:∃ A:Addr,(if c=j then some (⟨b,off,none⟩:Addr) else some ⟨b,off+j*W,none⟩)=some A/\Hid (∀ t u,news[t]?=some u->w.drew.cell? (A.add t)=some u):=by
  by_cases h:c=j
  ·refine⟨⟨b,off,none⟩,by simp[h],λ t u hu => ?_⟩;have h0:news.length=0:=by rw[hlen,show n - j=0 by omega,as6]
   rw[List.length_eq_zero_iff.1 h0] at hu;simp at hu
  ·refine⟨⟨b,off+j*W,none⟩,by simp[h],λ t u hu => ?_⟩;rw[akc,arH] at hu;rw[Addr.add_lit,aru];exact hcs _ u hu
 have s1:Hid (news.length=(n - j)*W):=hlen;have s2:Hid (∀ u∈news,u.oneCell'=true):=by
  intro u hu;rw[akc] at hu;exact h1c u (List.mem_of_mem_drop hu)
 have akj:∀ t,t<n*W->(w.cell? ⟨b,off+t,none⟩).isSome=true:=by
  intro t ht;rw[hcs t _ (arf (by omega))]; rfl
 have s3:Hid (∀ t,t<news.length->(w.drew.cell? ⟨b,off+i*W+t,none⟩).isSome=true/\w.drew.frozen? ⟨b,off+i*W+t,none⟩=false):=by
  intro t ht;rw[aru];exact⟨akj _ (by omega),hfz _ (by omega)⟩
 obtain⟨W1,hW1⟩:∃ W1,W1=w.drew.setCells b (off+i*W) news:=⟨_,rfl⟩
 have aqj:∀ ty,(Builtin.clear_ #[ρ.t 22] ty #[.slice (some ⟨b,off+(i+(n - j))*W,none⟩) (n - (i+(n - j))) (c - (i+(n - j)))]).run P W1=.ok (.tuple #[]) (W1.setCells b (off+(i+(n - j))*W) (Builtin.zeroCells zc (n - (i+(n - j)))).toList):=
  λ ty=>abK W1 _ _ ty (.agg zc) t22 L.v23 (by simpa[Value.cells] using L.z1) b (off+(i+(n - j))*W) _ _ (by omega)
   (λ t ht=>by
    rw[show (Value.agg zc).cells=zc from rfl,L.zs,aje] at ht;rw[hW1,aru];exact isSome_setCells b _ _ _ (λ k hk=>by rw[aru]; exact akj _ (by omega)) _ (akj _ (by omega)))
   (λ t ht=>by
    rw[show (Value.agg zc).cells=zc from rfl,L.zs,aje] at ht;rw[hW1,World.frozen?_setCells,aru];exact hfz _ (by omega))
 rw[←hW1];have hWW:Hid (W1=w.drew.setCells b (off+i*W) news):=hW1;have hic:i<=c:=by omega
 have hjc:j<=c:=by omega
 clear hW1 akc hlen ap0 akj hjW aoS apJ aje;obtain⟨_,_,FG⟩:=L.f45
 go_enter FG,SlBodyN.n45_ntmps ρ
 go_wp2_with fail
 go_region_law_o (refine step_append_room rfl (.tmp 22) (.tmp 25) (ρ.t 22) rfl (ρ.t 23) i0 W t22 hi0 hz1 b off i c (by simp[Act.eval,Act.put]) A (n - j) (c - j) news (by simpa[Act.eval,Act.put] using hA) s1.out ak1.out s2.out (by omega) s3.out ?_; rw[←hWW.out])
 go_wp2
 all_goals (go_ret; exact⟨by rw[show n - (j - i)=i+(n - j) by omega]; rfl,rfl⟩)
end Ev
namespace Ev
open Go Go.RowKit Go.Shelf Go.Lib Go.Proofs
variable {P:Program} {gl:Glob} {ρ:Ren} {zc:Array Value}
theorem aeA {α:Type} (A N Z:List α) (k k2:Nat) (hk:k<=A.length) (h2:k2=k+N.length):setAt (setAt A k N) k2 Z=A.take k++(N++(Z++(setAt A k N).drop (k2+Z.length))):=by
 have hl:(A.take k).length=k:=by rw[aqV]; omega
 have e:(setAt A k N).take k2=A.take k++N:=by
  unfold setAt;rw[List.take_append_of_le_length (by rw[aqM,hl]; omega),List.take_of_length_le (by rw[aqM,hl]; omega)]
 have e0:setAt (setAt A k N) k2 Z=(setAt A k N).take k2++Z++(setAt A k N).drop (k2+Z.length):=rfl;rw[e0,e];simp[ar7]
theorem aeQ [Tags] {T:Nat} {e:Ty} {rk:RK} (L:oH P ρ e.size zc) (he:∀ args w,(callFunc (ρ.f 45) args).run P w=.ok (.enter (ρ.f 45) args) w):
  Kx P gl (ρ.f 45) ⟨[(.own,.sl T e),(.rd,.i64),(.rd,.i64)],[.sl T e],rk,λ a=>G448.delAt (α:=den e) a⟩ where
 run:=by
  rintro w ⟨xs,i,j,⟨⟩⟩ vals r xo outs ⟨cs,vs',xs1,fs1,r1,xo1,rfl,h1,rfl,rfl,cs2,vs2,fp2,r2,rfl,h2,rfl,cs3,vs3,fp3,r3,rfl,h3,rfl,rfl,rfl,-,-,rfl,-⟩ hnd amc ai0 hG - hf;obtain⟨rfl,rfl,-⟩:=h2;obtain⟨rfl,rfl,-⟩:=h3;simp only[G448.delAt] at hf;split at hf;case isFalse=>cases hf
  rename_i hc;cases hf;obtain⟨c1,c2,c3⟩:=hc;have hW:0<e.size:=Ty.size_pos e;obtain⟨i,rfl⟩:∃ k:Nat,i=(k:Int):=Int.eq_ofNat_of_zero_le c1;obtain⟨j,rfl⟩:∃ k:Nat,j=(k:Int):=Int.eq_ofNat_of_zero_le (by omega);have hij:i<j:=by omega
  have hj:j<=xs.length:=by omega
  rcases h1 with⟨rfl,-,-,-⟩|⟨b,cap,arr,aT,fr,rfl,hb,hfr,hs,hl,hl2,hr,rfl,htg⟩
  ·simp only[aqJ] at hj; omega
  have hl:xs.length<=cap:=hl;have hl2:xs.length<=140737488355328:=hl2;have hr:RdL (Rd w e) xs arr.toList fs1:=hr;have hnW:xs.length*e.size<=arr.toList.length:=hr.le;have ak6:arr.toList.length=arr.size:=Array.length_toList;have hjW:j*e.size<=xs.length*e.size:=Nat.mul_le_mul_right _ hj;have hiW:i*e.size<=j*e.size:=Nat.mul_le_mul_right _ (Nat.le_of_lt hij);obtain⟨C,hC⟩:∃ C,C=arr.toList.take (xs.length*e.size):=⟨_,rfl⟩
  have hCl:C.length=xs.length*e.size:=by rw[hC,aqV,arR hnW]
  have aiI:=VZ L hW b 0 xs.length cap i j C w hCl
   (λ t v ht=>by
    rw[M7 hb,arv];rw[hC,arM] at ht;split at ht
    ·simpa using ht
    ·cases ht)
   (λ t ht=>by rw[arv]; exact fU hb hfr (by omega))
   (λ v hv=>hr.one v (by rw[hC] at hv; exact hv)) hl hij hj
  refine Jq he aiI ?_;rintro e' w' ⟨rfl,rfl⟩;refine⟨_,rfl,?_⟩;have ai2:(xs.length - j)*e.size=xs.length*e.size - j*e.size:=Nat.sub_mul _ _ _;have hk2:(i+(xs.length - j))*e.size=i*e.size+(xs.length - j)*e.size:=Nat.add_mul _ _ _;have hNl:(C.drop (j*e.size)).length=(xs.length - j)*e.size:=by rw[ar2,hCl,ai2]
  have hZl:(Builtin.zeroCells zc (xs.length - (i+(xs.length - j)))).toList.length=(xs.length - (i+(xs.length - j)))*e.size:=by
   rw[ary,bq,L.zs]
  have hZs:(xs.length - (i+(xs.length - j)))*e.size=xs.length*e.size - (i+(xs.length - j))*e.size:=Nat.sub_mul _ _ _;obtain⟨Z,hZ⟩:∃ Z,Z=(Builtin.zeroCells zc (xs.length - (i+(xs.length - j)))).toList:=⟨_,rfl⟩
  rw[←hZ] at hZl ⊢;obtain⟨N,hN⟩:∃ N,N=C.drop (j*e.size):=⟨_,rfl⟩
  rw[←hN] at hNl ⊢;have hb':w.drew.heap[b]?=some (.cells arr aT fr):=hb;have hkw:KeepsW w.heap.size ([b]++[]) w w.drew:=⟨rfl,rfl,rfl,Nat.le_refl _,λ _ _ _=>rfl,λ _ _ h=>h,Shape.refl w⟩
  rw[Nat.zero_add,Nat.zero_add,ML b aT fr _ _ arr w.drew hb' (by rw[hNl]; omega)]
  have hsz:=YS (l:=arr.toList) (k:=i*e.size) (vs:=N) (by rw[hNl]; omega)
  rw[ML b aT fr _ _ _ _ (Yu hb') (by rw[ar8,hsz,hZl]; omega),lU]
  have ai3:=YS (l:=setAt arr.toList (i*e.size) N) (k:=(i+(xs.length - j))*e.size) (vs:=Z) (by rw[hZl,hsz]; omega)
  rw[hsz] at ai3;have ap1:=aeA arr.toList N Z (i*e.size) ((i+(xs.length - j))*e.size) (by omega) (by rw[hNl,hk2]);have hkeep:KeepsW w.heap.size ([b]++[]) w (y6 w.drew b (.cells (setAt (setAt arr.toList (i*e.size) N) ((i+(xs.length - j))*e.size) Z).toArray aT fr)):=
   cv hkw hb' (by rw[ar8,ai3]; exact ak6) (.inl (by simp))
  obtain⟨fa,fb,ajO,q1,q2⟩:=RdL.splitAt i hr (by omega);obtain⟨ga,gb,an0,q3,q4⟩:=RdL.splitAt (j - i) q2 (by rw[ar2]; omega)
  rw[List.drop_drop,List.drop_drop,show i+(j - i)=j by omega,show i*e.size+(j - i)*e.size=j*e.size by rw[←arl]; congr 1; omega] at q4
  have q4':=q4.cut;rw[ar2] at q4';have hNe:N=(arr.toList.drop (j*e.size)).take ((xs.length - j)*e.size):=by
   rw[hN,hC,asv,ai2]
  rw[←hNe] at q4';have hin:∀ x∈fa++gb,x∈fs1:=by
   intro x hx;rw[ajO,an0];simp only[ar0] at hx ⊢;rcases hx with hx|hx
   ·exact .inl hx
   ·exact .inr (.inr hx)
  have hsl:(fa++gb).Sublist fs1:=by
   rw[ajO,an0];exact List.Sublist.append (List.Sublist.refl _) (List.sublist_append_right _ _)
  have ape:fs1.Nodup:=by simpa using amc
  have amS:∀ x∈fs1,x≠b:=by
   rintro x hx rfl;exact ai0 x (by simp) (by simp[hx])
  have amY:∀ x∈fa++gb,(y6 w.drew b (.cells (setAt (setAt arr.toList (i*e.size) N) ((i+(xs.length - j))*e.size) Z).toArray aT fr)).heap[x]?=w.heap[x]?:=by
   intro x hx;refine hkeep.block x (hr.lt x (hin x hx)) ?_;have:=amS x (hin x hx);simpa using this
  have hlen:(xs.take i++xs.drop j).length=xs.length - (j - i):=by
   rw[aqM,aqV,ar2]; omega
  have hO:RdO (y6 w.drew b (.cells (setAt (setAt arr.toList (i*e.size) N) ((i+(xs.length - j))*e.size) Z).toArray aT fr)) (.sl T e) (xs.take i++xs.drop j) [.slice (some ⟨b,0,none⟩) (xs.length - (j - i)) cap] [b] (fa++gb):=by
   refine .inr ⟨b,cap,_,aT,fr,by rw[hlen],Yu hb',by rw[ar8,ai3,ak6]; exact hfr,by rw[ar8,ai3,ak6]; exact hs,by rw[hlen]; omega,by rw[hlen]; omega,?_,rfl,htg⟩
   have a1:=q1.frame λ x hx=>amY x (by simp[hx]);have a2:=q4'.frame λ x hx=>amY x (by simp[hx]);have h:=RdL.app a1 (by rw[aqV,aqV,arR (show i<=xs.length by omega)]; omega) (RdL.more (Z++(setAt arr.toList (i*e.size) N).drop ((i+(xs.length - j))*e.size+Z.length)) a2)
   rw[←ap1] at h;rw[asD];exact h
  refine⟨hkeep,[[_]],[b],fa++gb,⟨_,[],[b],[],fa++gb,[],rfl,rfl,by simp,hO,rfl,rfl,rfl⟩,rfl,?_,?_,?_⟩
  ·refine List.nodup_cons.2 ⟨λ hm=>amS b (hin b hm) rfl,hsl.nodup ape⟩
  ·intro x hx;simp only[aqW,aro,or_false] at hx;exact .inr (by simp[hx])
  ·intro x hx;have:=hin x hx;simp[this]
end Ev
