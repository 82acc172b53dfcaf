/- The evaluator of the own library, part 8: contracts of functions of Go's library, out of the kit's. Conditions: none of its own. -/
import Derived.Test.YtppjgjdlnikigaaGreatDoorLibG
import Derived.Lib.ItoaNum
import Derived.Lib.Split
import Derived.Lib.Join
import Derived.Lib.LastIndexByte
import Derived.Lib.SplitLaws
import Derived.Shelf.Abstract
import Derived.WalkKit
import Derived.Laws.Rows
import Derived.Below
import Derived.Deep.Draws
import Derived.Sort.Grow
import Derived.Shelf.Spec.SlicesInsertGrow
set_option linter.unusedSimpArgs false
set_option linter.unusedVariables false
namespace G448
open Ev
def strconv_Itoa (a:Int×Unit):Option (List UInt8×Unit):=some (Go.Lib.itoa a.1,())
def strings_Cut (a:List UInt8×List UInt8×Unit):Option (List UInt8×List UInt8×Bool×Unit):=
 if a.1.length<4294967281 then some ((Go.Lib.cut a.1 a.2.1).1,(Go.Lib.cut a.1 a.2.1).2.1,(Go.Lib.cut a.1 a.2.1).2.2,()) else none
def strings_Split (a:List UInt8×List UInt8×Unit):Option (List (List UInt8)×Unit):=
 if a.1.length<4294967281/\1<=a.2.1.length then some (Go.Lib.split a.1 a.2.1,()) else none
def strings_Join (a:List (List UInt8)×List UInt8×Unit):Option (List UInt8×Unit):=
 if (Go.Lib.join a.1 a.2.1).length<=140737488355328 then some (Go.Lib.join a.1 a.2.1,()) else none
def strings_LastIndexByte (a:List UInt8×UInt8×Unit):Option (Int×Unit):=
 if a.1.length<4611686018427387904 then some (Go.Lib.lastIndexByte ⟨a.1.toArray⟩ a.2.1.toNat,()) else none
def vv {α:Type} (a:List α×Int×List α×Unit):Option (List α×Unit):=
 if 0<=a.2.1/\a.2.1<=(a.1.length:Int)/\0<a.2.2.1.length/\(a.1.length+a.2.2.1.length)<=1099511627776 then some (a.1.take a.2.1.toNat++a.2.2.1++a.1.drop a.2.1.toNat,()) else none
def aaf (a:List Int×Int×List Int×Unit):Option (List Int×Unit):=vv a
def aae (a:List (Int×List UInt8×List Int)×Int×List (Int×List UInt8×List Int)×Unit):Option (List (Int×List UInt8×List Int)×Unit):=vv a
end G448
namespace Ev
open Go Go.RowKit Go.Sort
variable {P:Program} {gl:Glob} {f:FuncId}
theorem Jc {args:Array Value} {w:World} {Q:Ending->World->Prop} {R:Value->World->Prop} (he:∀ args w,(callFunc f args).run P w=.ok (.enter f args) w)
  (h:Calls P f args w Q) (hr:∀ e w',Q e w'->∃ v,e=.returned v/\R v w'):CallsTo P f args w R:=by
 unfold CallsTo;rw[he];refine Calls.mono h λ e w'' hq => ?_;obtain⟨v,rfl,hv⟩:=hr _ _ hq;exact hv
theorem vF (w:World) (arr:Array Value) (T:TypeId):Keeps w.heap.size [] w (w.alloc (.cells arr T)):=by
 have hold:∀ k,k<w.heap.size->(w.alloc (.cells arr T)).heap[k]?=w.heap[k]?:=λ k hk=>by
  show (w.heap.push _)[k]?=_;rw[Array.getElem?_push]; rw[if_neg (by omega)]
 have ad4:(w.alloc (.cells arr T)).heap[w.heap.size]?=some (.cells arr T):=by
  show (w.heap.push _)[w.heap.size]?=_;simp
 refine⟨rfl,rfl,rfl,?_,λ k hk _=>hold k hk,?_,?_⟩
 ·show w.heap.size<=(w.heap.push _).size;simp
 ·intro k hu a T' fr' h';by_cases hk:k<w.heap.size
  ·rw[hold k hk] at h'; exact hu a T' fr' h'
  ·by_cases hk2:k=w.heap.size
   ·subst hk2;rw[ad4] at h';cases h';intro o ho;simp
   ·have:(w.alloc (.cells arr T)).heap[k]?=none:=by
     apply Array.getElem?_eq_none;show (w.heap.push _).size<=k;simp; omega
    rw[this] at h'; cases h'
 ·intro k;intro a T' fr' h';have hk:k<w.heap.size:=by
   rcases Nat.lt_or_ge k w.heap.size with h|h
   ·exact h
   ·rw[amE h] at h'; cases h'
  exact⟨a,(hold k hk).trans h',rfl⟩
theorem Bx [Tags] (w:World):∀ (l:List ByteArray),(∀ x∈l,x.size<=140737488355328)->RdL (Rd w .str) (l.map (·.data.toList)) (l.map Value.string) []
 | [],_=>rfl
 | x::l,h=>⟨[.string x],l.map Value.string,[],[],rfl,rfl,⟨rfl,rfl,h x (by simp)⟩,Bx w l λ y hy=>h y (by simp[hy])⟩
theorem D0 (sep:ByteArray):∀ (k:Nat) (s x:ByteArray),x∈Lib.splitB sep 0 k s->x.size<=s.size
 | 0,s,x,h=>by simp[Lib.splitB] at h; simp[h]
 | k+1,s,x,h=>by
  unfold Lib.splitB at h;split at h
  ·simp at h; simp[h]
  ·rcases List.mem_cons.1 h with rfl|h
   ·simp; omega
   ·have:=D0 sep k _ x h;simp at this; omega
theorem aaU [Tags] {T:TypeId} (hTp:T≠Tags.post) (he:∀ args w,(callFunc f args).run P w=.ok (.enter f args) w) {g:Nat} (hg:∀ w,gl.G w->∃ m,w.cell? ⟨g,0,none⟩=some (.int .i64 m))
  (hc:∀ (s sep:ByteArray) (m:Int) (w:World),s.size<4294967281->w.cell? ⟨g,0,none⟩=some (.int .i64 m)->1<=sep.size->
   Calls P f #[.string s,.string sep] w λ e w'=>e=.returned (.slice (some ⟨w.heap.size,0,none⟩) (Lib.countB s sep+1) (Lib.countB s sep+1))/\
    w'=w.alloc (.cells ((Lib.splitB sep 0 (Lib.countB s sep) s).map Value.string).toArray T)):
  Sound P gl f ⟨[(.rd,.str),(.rd,.str)],[.sl T .str],.uniq,G448.strings_Split⟩ where
 run:=by
  rintro w ⟨l,sep,⟨⟩⟩ vals r rp rc xo xp outs ⟨cs,vs,fp,r',rfl,h1,rfl,cs2,vs2,fp2,r2,rfl,h2,rfl,rfl,rfl,rfl,rfl,rfl,rfl⟩ - - hG - hf;obtain⟨rfl,rfl,hl⟩:=h1;obtain⟨rfl,rfl,hs⟩:=h2;simp only[G448.strings_Split] at hf;split at hf
  ·rename_i hb;cases hf;obtain⟨m,hm⟩:=hg w hG;have hlen:(Lib.splitB (ByteArray.mk ⟨sep⟩) 0 (Lib.countB (ByteArray.mk ⟨l⟩) (ByteArray.mk ⟨sep⟩)) (ByteArray.mk ⟨l⟩)).length=Lib.countB (ByteArray.mk ⟨l⟩) (ByteArray.mk ⟨sep⟩)+1:=
    Lib.splitB_all _ (by simpa[ByteArray.size] using hb.2) 0 _ _ rfl
   have ajf:=Lib.splitB_data (ByteArray.mk ⟨sep⟩) 0 (Lib.countB (ByteArray.mk ⟨l⟩) (ByteArray.mk ⟨sep⟩)) (ByteArray.mk ⟨l⟩);have hle:=Lib.countB_le (ByteArray.mk ⟨sep⟩) (by simpa[ByteArray.size] using hb.2) l.length (ByteArray.mk ⟨l⟩) (by simp[ByteArray.size]);refine Jc he (hc (ByteArray.mk ⟨l⟩) (ByteArray.mk ⟨sep⟩) m w (by simpa[ByteArray.size] using hb.1) hm (by simpa[ByteArray.size] using hb.2)) ?_;rintro e w' ⟨rfl,rfl⟩;refine⟨_,rfl,(vF w _ _).weak,[],rfl,?_⟩;have agC:Lib.split l sep=(Lib.splitB (ByteArray.mk ⟨sep⟩) 0 (Lib.countB (ByteArray.mk ⟨l⟩) (ByteArray.mk ⟨sep⟩)) (ByteArray.mk ⟨l⟩)).map (·.data.toList):=ajf.symm;have hsl:(Lib.split l sep).length=Lib.countB (ByteArray.mk ⟨l⟩) (ByteArray.mk ⟨sep⟩)+1:=by rw[agC,amc,hlen]
   have hsz:(ByteArray.mk ⟨l⟩).size=l.length:=by simp[ByteArray.size]
   rw[hsz] at hle;have hl':l.length<=140737488355328:=hl;refine⟨[[.slice (some ⟨w.heap.size,0,none⟩) (Lib.split l sep).length (Lib.countB (ByteArray.mk ⟨l⟩) (ByteArray.mk ⟨sep⟩)+1)]],[w.heap.size],[],⟨_,[],[w.heap.size],[],[],[],rfl,rfl,rfl,Or.inr ⟨w.heap.size,_,
    ((Lib.splitB (ByteArray.mk ⟨sep⟩) 0 (Lib.countB (ByteArray.mk ⟨l⟩) (ByteArray.mk ⟨sep⟩)) (ByteArray.mk ⟨l⟩)).map Value.string).toArray,T,(0,0),rfl,?_,?_,?_,?_,?_,?_,rfl,Iff.rfl,λ k=>absurd k hTp⟩,rfl,rfl,rfl⟩,?_,?_⟩
   ·show (w.heap.push _)[w.heap.size]?=_;simp
   ·intro o ho; simp
   ·simp[hlen,Ty.size]
   ·show (Lib.split l sep).length<=_;omega
   ·show (Lib.split l sep).length<=_;have:=hb.1;omega
   ·show RdL _ (Lib.split l sep) _ _;rw[agC];exact Bx _ _ λ x hx=>by
     have:=D0 _ _ _ _ hx;rw[hsz] at this;exact Nat.le_trans this hl'
   ·show _=Value.slice _ _ _;rw[hsl]
   ·refine⟨⟨by simp,?_⟩,λ _ b hb=>by simp at hb⟩;intro b hb;simp at hb;subst hb;exact⟨Or.inl (Nat.le_refl _),by simp⟩
  ·cases hf
theorem aaF [Tags] (he:∀ args w,(callFunc f args).run P w=.ok (.enter f args) w)
  (hc:∀ (s:ByteArray) (c:Int) (hs:s.size<4611686018427387904) (w:World),Calls P f #[.string s,.int .u8 c] w λ e w'=>e=.returned (.int .i64 (Lib.lastIndexByte s c))/\w'=w):
  Sound P gl f ⟨[(.rd,.str),(.rd,.u8)],[.i64],.uniq,G448.strings_LastIndexByte⟩ where
 run:=by
  rintro w ⟨l,c,⟨⟩⟩ vals r rp rc xo xp outs ⟨cs,vs,fp,r',rfl,h1,rfl,cs2,vs2,fp2,r2,rfl,h2,rfl,rfl,rfl,rfl,rfl,rfl,rfl⟩ - - hG - hf;obtain⟨rfl,rfl,hl⟩:=h1;obtain⟨rfl,rfl⟩:=h2;simp only[G448.strings_LastIndexByte] at hf;split at hf
  ·rename_i hb;cases hf;refine Jc he (hc (ByteArray.mk ⟨l⟩) _ (by simpa[ByteArray.size] using hb) w) ?_;rintro e w' ⟨rfl,rfl⟩;refine⟨_,rfl,KeepsW.refl _ _ _,[],rfl,[[_]],[],[],⟨_,[],[],[],[],[],rfl,rfl,rfl,⟨⟨rfl,rfl,?_⟩,rfl,rfl⟩,rfl,rfl,rfl⟩,rfl,?_,?_⟩
   ·have hsz:(ByteArray.mk ⟨l⟩).size=l.length:=by simp[ByteArray.size]
    have:=Lib.lastIndexByte_spec (ByteArray.mk ⟨l⟩) (c.toNat:Int);have hl':l.length<=140737488355328:=hl;show -9223372036854775808<=Lib.lastIndexByte (ByteArray.mk ⟨l⟩) (c.toNat:Int)/\Lib.lastIndexByte (ByteArray.mk ⟨l⟩) (c.toNat:Int)<=9223372036854775807;rcases this with⟨e,_⟩|⟨i,hi,e,_⟩
    ·rw[e]; decide
    ·rw[e]; omega
   ·exact⟨by simp,by simp⟩
   ·simp
  ·cases hf
theorem mY [Tags] {w w':World} (h:Below w.heap.size w w'):KeepsW w.heap.size [] w w':=
 ⟨h.os,h.tape,h.output,h.size,λ k hk _=>h.block k hk,λ k hk hu arr T fr h'=>by rw[h.block k hk] at h'; exact hu arr T fr h',λ k arr T fr h0=>by
  have hlt:=ZE h0;exact⟨arr,by rw[h.block k hlt]; exact h0,rfl⟩⟩
theorem PC (w:World) (n:Nat) (os:Array Obj):Below w.heap.size w (grow (w.drewN n) os):=
 ⟨rfl,rfl,rfl,by show w.heap.size<=(w.heap++os).size; simp,λ k hk=>by
  show (w.heap++os)[k]?=_;rw[Array.getElem?_append_left hk]⟩
theorem aas [Tags] (he:∀ args w,(callFunc f args).run P w=.ok (.enter f args) w) {g:Nat} (hg:∀ w,gl.G w->∃ m,w.cell? ⟨g,0,none⟩=some (.int .i64 m))
  (hc:∀ (s sep:ByteArray) (m:Int) (w:World),s.size<4294967281->w.cell? ⟨g,0,none⟩=some (.int .i64 m)->
   Calls P f #[.string s,.string sep] w λ e w'=>e=.returned (.tuple #[.string ⟨(Lib.cut s.data.toList sep.data.toList).1.toArray⟩,.string ⟨(Lib.cut s.data.toList sep.data.toList).2.1.toArray⟩,.bool (Lib.cut s.data.toList sep.data.toList).2.2])/\
    ∃ n,w'=w.drewN n):
  Sound P gl f ⟨[(.rd,.str),(.rd,.str)],[.str,.str,.bool],.uniq,G448.strings_Cut⟩ where
 run:=by
  rintro w ⟨l,sep,⟨⟩⟩ vals r rp rc xo xp outs ⟨cs,vs,fp,r',rfl,h1,rfl,cs2,vs2,fp2,r2,rfl,h2,rfl,rfl,rfl,rfl,rfl,rfl,rfl⟩ - - hG - hf;obtain⟨rfl,rfl,hl⟩:=h1;obtain⟨rfl,rfl,hs⟩:=h2;simp only[G448.strings_Cut] at hf;split at hf
  ·rename_i hb;cases hf;obtain⟨m,hm⟩:=hg w hG;refine Jc he (hc (ByteArray.mk ⟨l⟩) (ByteArray.mk ⟨sep⟩) m w (by simpa[ByteArray.size] using hb) hm) ?_;rintro e w' ⟨rfl,n,rfl⟩;have hl':l.length<=140737488355328:=hl;have b1:(Lib.cut l sep).1.length<=l.length:=by unfold Lib.cut; split<;>simp; omega
   have b2:(Lib.cut l sep).2.1.length<=l.length:=by unfold Lib.cut; split<;>simp
   refine⟨_,rfl,mY ⟨rfl,rfl,rfl,Nat.le_refl _,λ _ _=>rfl⟩,[],rfl,[[_],[_],[_]],[],[],⟨_,_,[],[],[],[],rfl,rfl,rfl,⟨⟨rfl,rfl,Nat.le_trans b1 hl'⟩,rfl,rfl⟩,_,_,[],[],[],[],rfl,rfl,rfl,⟨⟨rfl,rfl,Nat.le_trans b2 hl'⟩,rfl,rfl⟩,
    _,[],[],[],[],[],rfl,rfl,rfl,⟨⟨rfl,rfl⟩,rfl,rfl⟩,rfl,rfl,rfl⟩,rfl,⟨by simp,by simp⟩,by simp⟩
  ·cases hf
theorem nO:∀ (k u:Nat),u<10 ^ (k+1)->Lib.nDigits u<=k+1
 | 0,u,h=>by rw[Lib.nDigits_small (by simpa using h)]; exact Nat.le_refl _
 | k+1,u,h=>by
  by_cases hu:u<10
  ·rw[Lib.nDigits_small hu]; omega
  ·rw[Lib.nDigits_big hu];have:=nO k (u / 10) (by rw[ame] at h; omega)
   omega
theorem Td [Tags] (n:Int) (h:Bnd .i64 n):(Lib.itoa n).length<=21:=by
 have h1 : -9223372036854775808<=n:=h.1;have h2:n<=9223372036854775807:=h.2;unfold Lib.itoa;split
 ·have:=nO 19 n.natAbs (by
                    have:n.natAbs<=9223372036854775808:=by omega
                    exact Nat.lt_of_le_of_lt this (by decide))
  rw[alr,Lib.decDigits_length]; omega
 ·have:=nO 19 n.toNat (by
                   have:n.toNat<=9223372036854775807:=by omega
                   exact Nat.lt_of_le_of_lt this (by decide))
  rw[Lib.decDigits_length]; omega
theorem aaC [Tags] (he:∀ args w,(callFunc f args).run P w=.ok (.enter f args) w) {T:World->Prop} (hT:∀ w,gl.G w->T w)
  (hc:∀ (n:Int) (h0 : -9223372036854775808<=n) (h1:n<=9223372036854775807) (w:World) (ht:T w),Calls P f #[.int .i64 n] w λ e w'=>e=.returned (.string ⟨(Lib.itoa n).toArray⟩)/\∃ k os,w'=grow (w.drewN k) os):
  Sound P gl f ⟨[(.rd,.i64)],[.str],.uniq,G448.strconv_Itoa⟩ where
 run:=by
  rintro w ⟨n,⟨⟩⟩ vals r rp rc xo xp outs ⟨cs,vs,fp,r',rfl,h1,rfl,rfl,rfl,rfl,rfl,rfl,rfl⟩ - - hG - hf;obtain⟨rfl,rfl,hb⟩:=h1;cases hf;refine Jc he (hc n hb.1 hb.2 w (hT w hG)) ?_;rintro e w' ⟨rfl,k,os,rfl⟩;refine⟨_,rfl,mY (PC w k os),[],rfl,[[_]],[],[],⟨_,[],[],[],[],[],rfl,rfl,rfl,⟨⟨rfl,rfl,?_⟩,rfl,rfl⟩,rfl,rfl,rfl⟩,rfl,⟨by simp,by simp⟩,by simp⟩;have:=Td n hb;show (Lib.itoa n).length<=_;omega
theorem Bw [Tags] {w:World} {b:Nat} {arr:Array Value} {T:TypeId} {fr:Nat×Nat} (hh:w.heap[b]?=some (.cells arr T fr)):∀ (xs:List (List UInt8)) (o:Nat) (fp:List Nat),RdL (Rd w .str) xs (arr.toList.drop o) fp->
  ∀ (j:Nat) (x:ByteArray),(xs.map λ l=>(ByteArray.mk ⟨l⟩))[j]?=some x->w.cell? ⟨b,o+j,none⟩=some (.string x)
 | [],o,fp,h,j,x,hx=>by simp at hx
 | y::ys,o,fp,h,j,x,hx=>by
  obtain⟨c,rest,f1,f2,h1,h2,⟨rfl,rfl,_⟩,h4⟩:=h;have hd:arr.toList.drop (o+1)=rest:=by
   rw[←alY,h1]; simp
  cases j with
  | zero=>
   simp at hx;subst hx;have:arr.toList[o]?=some (.string (ByteArray.mk ⟨y⟩)):=by
    have:=congrArg (·[0]?) h1;simpa[amp] using this
   simp only[World.cell?,hh,amf];simpa using this
  | succ j=>
   have:=Bw hh ys (o+1) f2 (by rw[hd]; exact h4) j x (by simpa using hx)
   rw[show o+(j+1)=o+1+j by omega];exact this
theorem aaD [Tags] {TT:Nat} (he:∀ args w,(callFunc f args).run P w=.ok (.enter f args) w)
  (hc0:∀ (a:Option Addr) (c:Nat) (sep:ByteArray) (w:World),Calls P f #[.slice a 0 c,.string sep] w λ e w'=>e=.returned (.string ⟨#[]⟩)/\w'=w)
  (hc:∀ (bk o c:Nat) (xs:List ByteArray) (sep:ByteArray) (w:World) (hcells:∀ (j:Nat) x,xs[j]?=some x->w.cell? ⟨bk,o+j,none⟩=some (.string x))
   (hbk:bk<w.heap.size) (hN:xs.length<=140737488355328) (hcap:xs.length<=c) (hlen:(Lib.join (xs.map (·.data.toList)) sep.data.toList).length<=140737488355328),
   Calls P f #[.slice (some ⟨bk,o,none⟩) xs.length c,.string sep] w λ e w'=>e=.returned (.string ⟨(Lib.join (xs.map (·.data.toList)) sep.data.toList).toArray⟩)/\Below w.heap.size w w'):
  Sound P gl f ⟨[(.rd,.sl TT .str),(.rd,.str)],[.str],.uniq,G448.strings_Join⟩ where
 run:=by
  rintro w ⟨l,sep,⟨⟩⟩ vals r rp rc xo xp outs ⟨cs,vs,fp,r',rfl,h1,rfl,cs2,vs2,fp2,r2,rfl,h2,rfl,rfl,rfl,rfl,rfl,rfl,rfl⟩ - - hG - hf;obtain⟨a,n,c,rfl,rfl,p3,p4,p5⟩:=h1;obtain⟨rfl,rfl,hs⟩:=h2;simp only[G448.strings_Join] at hf;split at hf
  ·rename_i hb;cases hf;have fin:∀ w',Below w.heap.size w w'->KeepsW w.heap.size ([]++[]) w w'/\∃ pt,OutOk w w' w.heap.size .uniq (fp++([]++[])++[]++[]) [] pt [.str] (.string ⟨(Lib.join l sep).toArray⟩) [(.rd,.sl TT .str),(.rd,.str)] (Lib.join l sep,()) []:=by
    intro w' hw;exact⟨mY hw,[],rfl,[[_]],[],[],⟨_,[],[],[],[],[],rfl,rfl,rfl,⟨⟨rfl,rfl,hb⟩,rfl,rfl⟩,rfl,rfl,rfl⟩,rfl,⟨by simp,by simp⟩,by simp⟩
   rcases p5 with⟨rfl,rfl,_⟩|⟨b,o,arr,T,fr,fp',rfl,hh,rfl,hl,_⟩
   ·refine Jc he (hc0 a c (ByteArray.mk ⟨sep⟩) w) ?_;rintro e w' ⟨rfl,rfl⟩;exact⟨_,rfl,fin _ (Below.refl _ _)⟩
   ·have aig:(l.map λ x=>(ByteArray.mk ⟨x⟩)).map (·.data.toList)=l:=by
     rw[List.map_map]; exact List.map_id l
    have key:=hc b o c (l.map λ x=>(ByteArray.mk ⟨x⟩)) (ByteArray.mk ⟨sep⟩) w (Bw hh l o fp' hl) (ZE hh) (by simpa using p4) (by simpa using p3) (by rw[aig]; exact hb)
    rw[aig] at key;simp only[amc] at key;refine Jc he key ?_;rintro e w' ⟨rfl,hw⟩;exact⟨_,rfl,fin _ hw⟩
  ·cases hf
end Ev
namespace Ev
open Go Go.Shelf Go.RowKit Go.Lib Go.Proofs
variable {P:Program} {ρ:Ren} {W B:Nat} {zc:Array Value}
noncomputable def vw (ρ:Ren) (nm:String):Func:={ Body2.n22 ρ with name:=nm }
theorem d6 (ρ:Ren) (nm:String):(vw ρ nm).ntmps=95:=Body2.n22_ntmps ρ
structure J7 (P:Program) (ρ:Ren) (W:Nat) (zc:Array Value) (B:Nat):Prop where
 mixed:P.follows .mixedOrders=true
 f22:∃ nm,P.funcs[ρ.f 22]?=some (vw ρ nm)
 ov:∀ (args:Array Value) (w:World),(callFunc (ρ.f 29) args).run P w=((Extern.SlicesOverlaps.overlaps #[(ρ.t 24),(ρ.t 24)] #[(ρ.t 4)] args).run P w).andThen λ v w'=>.ok (.value v) w'
 t0:P.underlying (ρ.t 0)=some (TypeDesc.tuple #[])
 a0:∀ w,(isAgg (ρ.t 0)).run P w=.ok false w
 z0:∀ w,(Go.sizeOf (ρ.t 0)).run P w=.ok 1 w
 v0:∀ w,(zeroValue (ρ.t 0)).run P w=.ok (Value.tuple #[]) w
 t3:P.underlying (ρ.t 3)=some (TypeDesc.int IntKind.i64)
 a3:∀ w,(isAgg (ρ.t 3)).run P w=.ok false w
 z3:∀ w,(Go.sizeOf (ρ.t 3)).run P w=.ok 1 w
 v3:∀ w,(zeroValue (ρ.t 3)).run P w=.ok (Value.int IntKind.i64 0) w
 t4:P.underlying (ρ.t 4)=some (TypeDesc.bool)
 a4:∀ w,(isAgg (ρ.t 4)).run P w=.ok false w
 z4:∀ w,(Go.sizeOf (ρ.t 4)).run P w=.ok 1 w
 v4:∀ w,(zeroValue (ρ.t 4)).run P w=.ok (Value.bool false) w
 z9:∀ w,(Go.sizeOf (ρ.t 9)).run P w=.ok W w
 t24:P.underlying (ρ.t 24)=some (TypeDesc.slice (ρ.t 9))
 a24:∀ w,(isAgg (ρ.t 24)).run P w=.ok false w
 z24:∀ w,(Go.sizeOf (ρ.t 24)).run P w=.ok 1 w
 v24:∀ w,(zeroValue (ρ.t 24)).run P w=.ok (Value.slice none 0 0) w
 i9:(P.info? (ρ.t 9)).map (λ i=>(i.zero.map Value.cells,i.size,i.bytes))=some (some zc,W,B)
theorem dZ {e:TypeId} (h:(P.info? e).map (λ i=>(i.zero.map Value.cells,i.size,i.bytes))=some (some zc,W,B)):
  ∃ i z,P.info? e=some i/\i.zero=some z/\z.cells=zc/\i.size=W/\i.bytes=B:=by
 cases hq:P.info? e with
 | none=>rw[hq] at h; cases h
 | some i=>
  rw[hq] at h;simp only[am4,alq,alw,Option.map_eq_some_iff] at h;obtain⟨⟨z,h1,h2⟩,h3,h4⟩:=h;exact⟨i,z,rfl,h1,h2,h3,h4⟩
theorem fX (w:World) (dT sT ty elem:TypeId) (b o dLen dCap:Nat) (a:Addr) (sLen sCap:Nat) (cs:List Value) (k W:Nat)
  (hu:P.underlying dT=some (.slice elem)) (hs:(P.info? elem).map (·.size)=some W) (hk:k=Nat.min sLen dLen) (hn:cs.length=k*W)
  (ag6:∀ j v,cs[j]?=some v->w.cell? (a.add j)=some v) (hc:∀ j,j<cs.length->(w.cell? ⟨b,o+j,none⟩).isSome=true) (hf:∀ j,j<cs.length->w.frozen? ⟨b,o+j,none⟩=false) (h1:∀ v∈cs,v.oneCell'=true):
  (Builtin.copy_ #[dT,sT] ty #[.slice (some ⟨b,o,none⟩) dLen dCap,.slice (some a) sLen sCap]).run P w=.ok (goInt (k:Int)) (w.setCells b o cs):=by
 have hl:=run_loadCells_list (P:=P) w a cs ag6;have hst:=run_storeCells_cells (P:=P) b o cs 0 w (by simpa using hc) (by simpa using hf) h1;cases hq:P.info? elem with
 | none=>simp[hq] at hs
 | some i=>
  have hi:i.size=W:=by simpa[hq] using hs
  rw[hn] at hl;subst hk;simp[Builtin.copy_,run_underlying hu,Builtin.lenOf,Builtin.firstCells,Go.sizeOf,typeInfo,hq,hi,hl,hst]
theorem cz (cs:Array Value) (n:Nat):(Builtin.zeroCells cs n).size=n*cs.size:=by
 unfold Builtin.zeroCells;simp
set_option maxHeartbeats 4000000 in
set_option maxRecDepth 100000 in
theorem S9 (L:J7 P ρ W zc B) (hW:0<W) (b off n c i vb voff m vc:Nat) (cs vs:List Value) (w:World) (hi:i<n) (hm:0<m) (acY:n+m<=c) (h63:n+m<=1099511627776) (hvb:vb≠b)
  (hcl:cs.length=n*W) (hvl:vs.length=m*W)
  (hcs:∀ j v,cs[j]?=some v->w.cell? ⟨b,off+j,none⟩=some v) (hsp:∀ j,j<(n+m)*W->(w.cell? ⟨b,off+j,none⟩).isSome=true) (hfz:∀ j,j<(n+m)*W->w.frozen? ⟨b,off+j,none⟩=false)
  (hvs:∀ j v,vs[j]?=some v->w.cell? ⟨vb,voff+j,none⟩=some v) (h1c:∀ v∈cs,v.oneCell'=true) (h1v:∀ v∈vs,v.oneCell'=true)
  (tA tB:TypeId) (kA kB:Nat) (hsa:w.shape? vb=some (tA,kA)) (hsb:w.shape? b=some (tB,kB)) (hkB:kB≠0) (hfa:w.frozen? ⟨vb,voff,none⟩=false) (hfe:w.frozen? ⟨vb,kA,none⟩=false):
  Calls P (ρ.f 22) #[.slice (some ⟨b,off,none⟩) n c,.int .i64 i,.slice (some ⟨vb,voff,none⟩) m vc] w λ e w'=>
   e=.returned (.slice (some ⟨b,off,none⟩) (n+m) c)/\w'=(w.drew.setCells b (off+(i+m)*W) (cs.drop (i*W))).setCells b (off+i*W) vs:=by
 have t0:=L.t0; have a0:=L.a0; have z0:=L.z0; have v0:=L.v0; have t3:=L.t3; have a3:=L.a3; have z3:=L.z3; have v3:=L.v3; have t4:=L.t4; have a4:=L.a4; have z4:=L.z4; have v4:=L.v4; have z9:=L.z9; have t24:=L.t24; have a24:=L.a24; have z24:=L.z24; have v24:=L.v24
 have u0:=run_underlying L.t0; have u3:=run_underlying L.t3; have u4:=run_underlying L.t4; have u24:=run_underlying L.t24
 have hz1:¬ ((m:Int)=0):=by omega
 have hz2:¬ ((i:Int)=(n:Int)):=by omega
 have hsz:(P.info? (ρ.t 9)).map (·.size)=some W:=by
  obtain⟨i0,z1,hi0,h0,hzq,h1,h2⟩:=dZ L.i9;rw[hi0]; simp[h1]
 have hnm:(n+m)*W=n*W+m*W:=Nat.add_mul n m W;have him:(i+m)*W=i*W+m*W:=Nat.add_mul i m W;have ago:i*W<=n*W:=Nat.mul_le_mul_right W (Nat.le_of_lt hi);have hov:∀ lb cb,(callFunc (ρ.f 29) #[.slice (some ⟨vb,voff,none⟩) m vc,.slice (some ⟨b,off+(i+m)*W,none⟩) lb cb]).run P w=.ok (.value (.bool false)) w:=λ lb cb=>by
  rw[L.ov,
   Lib.run_overlaps_apart w (ρ.t 24) (ρ.t 4) (ρ.t 9) L.t24 W L.z9 ⟨vb,voff,none⟩ ⟨b,off+(i+m)*W,none⟩ m vc lb cb hvb tA tB kA kB hsa hsb hkB hfa hfe]
  rfl
 have hdl:(cs.drop (i*W)).length=(n - i)*W:=by rw[alF,hcl,Nat.sub_mul]
 have agY:(cs.drop (i*W)).length=n*W - i*W:=by rw[alF,hcl]
 have mixed:=L.mixed;have hw1:IntKind.i64.wrap ((i:Int)+(m:Int))=(i:Int)+(m:Int):=by rw[IntKind.wrap_i64]; omega
 have hb1:(0:Int)<=(i:Int)+(m:Int):=by omega
 have hin:i<=n:=by omega
 have htn:((i:Int)+(m:Int)).toNat=i+m:=by omega
 have hb2:¬ (c=i+m):=by omega
 have hb3:(i:Int)<=(n:Int)+(m:Int):=by omega
 have hb4:¬ (c=i):=by omega
 have ahO:∀ ty dc sc,(Builtin.copy_ #[(ρ.t 24),(ρ.t 24)] ty #[.slice (some ⟨b,off+(i+m)*W,none⟩) (n+m - (i+m)) dc,.slice (some ⟨b,off+i*W,none⟩) (n+m - i) sc]).run P w.drew=.ok (goInt ((n - i:Nat):Int)) (w.drew.setCells b (off+(i+m)*W) (cs.drop (i*W))):=λ ty dc sc=>
  fX w.drew _ _ ty (ρ.t 9) b (off+(i+m)*W) (n+m - (i+m)) dc ⟨b,off+i*W,none⟩ (n+m - i) sc (cs.drop (i*W)) (n - i) W L.t24 hsz (by simp only[Nat.min_def]; split<;>omega) hdl
   (λ j v hj=>by rw[Addr.add_lit,aml]; exact hcs (i*W+j) v (by rwa [List.getElem?_drop] at hj))
   (λ j hj=>by rw[aml]; exact hsp _ (by omega)) (λ j hj=>by rw[aml]; exact hfz _ (by omega)) (λ v hv=>h1c v (List.mem_of_mem_drop hv))
 obtain⟨W1,hW1⟩:∃ W1,W1=w.drew.setCells b (off+(i+m)*W) (cs.drop (i*W)):=⟨_,rfl⟩
 have akr:∀ k,k<(n+m)*W->(W1.cell? ⟨b,off+k,none⟩).isSome=true:=λ k hk=>by
  rw[hW1];exact isSome_setCells b _ _ _ (λ j hj=>by rw[aml]; exact hsp _ (by omega)) _ (hsp k hk)
 have aj8:∀ (W0:World),(∀ x,W0.cell? x=W1.cell? x)->(∀ x,W0.frozen? x=W1.frozen? x)->∀ ty dc,(Builtin.copy_ #[(ρ.t 24),(ρ.t 24)] ty #[.slice (some ⟨b,off+i*W,none⟩) (n+m - i) dc,.slice (some ⟨vb,voff,none⟩) m vc]).run P W0=.ok (goInt ((m:Nat):Int)) (W0.setCells b (off+i*W) vs):=λ W0 hWc hWf ty dc=>
  fX W0 _ _ ty (ρ.t 9) b (off+i*W) (n+m - i) dc ⟨vb,voff,none⟩ m vc vs m W L.t24 hsz (by simp only[Nat.min_def]; split<;>omega) hvl
   (λ j v hj=>by
    rw[Addr.add_lit,hWc,hW1,World.cell?_setCells_out b _ _ _ _ (λ h _=>absurd h hvb)];exact hvs j v hj)
   (λ j hj=>by rw[hWc,aml]; exact akr _ (by omega)) (λ j hj=>by rw[hWf,hW1,World.frozen?_setCells,aml]; exact hfz _ (by omega)) h1v
 rw[←hW1] at ahO;clear him hnm ago hdl agY;obtain⟨nm,f22⟩:=L.f22
 go_enter f22,d6 ρ nm
 go_wp2_with (simp only[hov])
 go_region_law_o (refine step_copy_runI rfl _ _ (ρ.t 24) (ρ.t 24) rfl _ _ (by simp[Act.eval,Act.put]) (by simp[Act.eval,Act.put]) (ahO _ _ _) ?_)
 go_wp2_with (at_builtin; refine wpList_copy_runI _ rfl _ _ (ρ.t 24) (ρ.t 24) rfl _ _ rfl rfl (aj8 _ (λ _=>rfl) (λ _=>rfl) _ _) ?_)
 go_ret
 first|exact⟨rfl,rfl⟩|exact⟨rfl,by rw[hW1]⟩
set_option maxHeartbeats 4000000 in
set_option maxRecDepth 100000 in
theorem S6 (L:J7 P ρ W zc B) (b off n c vb voff m vc:Nat) (vs:List Value) (w:World) (hm:0<m) (acY:n+m<=c) (h63:n+m<=1099511627776)
  (hvl:vs.length=m*W) (hsp:∀ j,j<m*W->(w.cell? ⟨b,off+n*W+j,none⟩).isSome=true) (hfz:∀ j,j<m*W->w.frozen? ⟨b,off+n*W+j,none⟩=false)
  (hvs:∀ j v,vs[j]?=some v->w.cell? ⟨vb,voff+j,none⟩=some v) (h1v:∀ v∈vs,v.oneCell'=true):
  Calls P (ρ.f 22) #[.slice (some ⟨b,off,none⟩) n c,.int .i64 n,.slice (some ⟨vb,voff,none⟩) m vc] w λ e w'=>
   e=.returned (.slice (some ⟨b,off,none⟩) (n+m) c)/\w'=w.setCells b (off+n*W) vs:=by
 have t0:=L.t0; have a0:=L.a0; have z0:=L.z0; have v0:=L.v0; have t3:=L.t3; have a3:=L.a3; have z3:=L.z3; have v3:=L.v3; have t4:=L.t4; have a4:=L.a4; have z4:=L.z4; have v4:=L.v4; have z9:=L.z9; have t24:=L.t24; have a24:=L.a24; have z24:=L.z24; have v24:=L.v24
 have u0:=run_underlying L.t0; have u3:=run_underlying L.t3; have u4:=run_underlying L.t4; have u24:=run_underlying L.t24
 have mixed:=L.mixed;have hz1:¬ ((m:Int)=0):=by omega
 have ag6:Src P W (ρ.t 24) (.slice (some ⟨vb,voff,none⟩) m vc) m vs w:=Src.ofSlice w L.t24 ⟨vb,voff,none⟩ m vc vs hvl (λ j u hj=>by rw[Addr.add_lit]; exact hvs j u hj) h1v
 obtain⟨i0,z1,hi0,hz0,hzq,hzs,hzb⟩:=dZ L.i9;have acD:∀ ty,(Builtin.append_ #[(ρ.t 24),(ρ.t 24)] ty #[.slice (some ⟨b,off,none⟩) n c,.slice (some ⟨vb,voff,none⟩) m vc]).run P w=.ok (.slice (some ⟨b,off,none⟩) (n+m) c) (w.setCells b (off+n*W) vs):=λ ty=>by
  have h:=run_append_room_src w (ρ.t 24) (ρ.t 24) ty (ρ.t 9) i0 L.t24 hi0 b off n c (.slice (some ⟨vb,voff,none⟩) m vc) m vs (by rw[hzs]; exact ag6) acY (by rw[hzs,hvl]; exact hsp) (by rw[hzs,hvl]; exact hfz)
  rwa [hzs] at h
 obtain⟨nm,f22⟩:=L.f22
 go_enter f22,d6 ρ nm
 go_wp2_with (at_builtin; refine Lib.wpList_append_run _ rfl _ _ _ _ rfl _ _ rfl rfl _ _ (acD _) ?_)
 go_ret
 exact⟨rfl,rfl⟩
set_option maxHeartbeats 4000000 in
set_option maxRecDepth 100000 in
theorem vA (L:J7 P ρ W zc B) (base:Option Addr) (n c vb voff m vc:Nat) (cs vs:List Value) (w:World) (hm:0<m) (hnc:n<=c) (acY:c<n+m) (h63:n+m<=1099511627776) (ad5:(n+m)*B<=140737488355328)
  (hcl:cs.length=n*W) (hvl:vs.length=m*W) (ail:base=none->n=0)
  (hcs:∀ a,base=some a->∀ j v,cs[j]?=some v->w.cell? (a.add j)=some v)
  (hvs:∀ j v,vs[j]?=some v->w.cell? ⟨vb,voff+j,none⟩=some v) (h1v:∀ v∈vs,v.oneCell'=true):
  Calls P (ρ.f 22) #[.slice base n c,.int .i64 n,.slice (some ⟨vb,voff,none⟩) m vc] w λ e w'=>
   e=.returned (.slice (some ⟨w.heap.size,0,none⟩) (n+m) (grownCap w (n+m) c (ρ.t 9)))/\
   w'=w.drew.alloc (.cells ((cs++vs).toArray++Builtin.zeroCells zc (grownCap w (n+m) c (ρ.t 9) - (n+m))) (ρ.t 9)):=by
 have t0:=L.t0; have a0:=L.a0; have z0:=L.z0; have v0:=L.v0; have t3:=L.t3; have a3:=L.a3; have z3:=L.z3; have v3:=L.v3; have t4:=L.t4; have a4:=L.a4; have z4:=L.z4; have v4:=L.v4; have z9:=L.z9; have t24:=L.t24; have a24:=L.a24; have z24:=L.z24; have v24:=L.v24
 have u0:=run_underlying L.t0; have u3:=run_underlying L.t3; have u4:=run_underlying L.t4; have u24:=run_underlying L.t24
 have mixed:=L.mixed;obtain⟨i0,z1,hi0,hz0,hzq,hzs,hzb⟩:=dZ L.i9;have hz1:¬ ((m:Int)=0):=by omega
 have ag6:Src P i0.size (ρ.t 24) (.slice (some ⟨vb,voff,none⟩) m vc) m vs w:=by
  rw[hzs];exact Src.ofSlice w L.t24 ⟨vb,voff,none⟩ m vc vs hvl (λ j u hj=>by rw[Addr.add_lit]; exact hvs j u hj) h1v
 have hold:(Builtin.firstCells i0.size n (.slice base n c)).run P w.drew=.ok cs.toArray w.drew:=by
  rw[hzs];cases base with
  | none=>
   have h0:=ail rfl;subst h0;have aja:cs=[]:=List.length_eq_zero_iff.1 (by rw[hcl,amT]);rw[aja];exact run_firstCells_none w.drew W 0 0 c
  | some a=>exact run_firstCells_some w.drew W n a n c cs hcl (λ j v hj=>hcs a rfl j v hj)
 have acD:∀ ty,(Builtin.append_ #[(ρ.t 24),(ρ.t 24)] ty #[.slice base n c,.slice (some ⟨vb,voff,none⟩) m vc]).run P w=.ok (.slice (some ⟨w.heap.size,0,none⟩) (n+m) (grownCap w (n+m) c (ρ.t 9))) (w.drew.alloc (.cells ((cs++vs).toArray++Builtin.zeroCells zc (grownCap w (n+m) c (ρ.t 9) - (n+m))) (ρ.t 9))):=λ ty=>by
  have h:=λ ty=>run_append_grow_src w (ρ.t 24) (ρ.t 24) ty (ρ.t 9) i0 _ L.t24 hi0 hz0 base n c cs hold _ m vs ag6 acY (by omega) (by rw[hzb]; exact growslice_fits acY ad5)
  simp only[hzq] at h;exact h ty
 clear hzq;obtain⟨nm,f22⟩:=L.f22
 go_enter f22,d6 ρ nm
 cases base with
 | none=>
  have h0:=ail rfl;subst h0
  go_wp2_with (at_builtin; refine Lib.wpList_append_run _ rfl _ _ _ _ rfl _ _ rfl rfl _ _ (acD _) ?_)
  go_ret
  exact⟨rfl,rfl⟩
 | some a=>
  obtain⟨ab,ao,asp⟩:=a
  go_wp2_with (at_builtin; refine Lib.wpList_append_run _ rfl _ _ _ _ rfl _ _ rfl rfl _ _ (acD _) ?_)
  all_goals (go_ret; exact⟨rfl,rfl⟩)
set_option maxHeartbeats 4000000 in
set_option maxRecDepth 100000 in
theorem S7 (L:J7 P ρ W zc B) (hW:0<W) (b off n c i vb voff m vc:Nat) (cs vs:List Value) (w:World) (hi:i<n) (hm:0<m) (hnc:n<=c) (acY:c<n+m) (h63:n+m<=1099511627776) (ad5:(n+m)*B<=140737488355328)
  (hcl:cs.length=n*W) (hvl:vs.length=m*W) (hzc:zc.size=W)
  (hcs:∀ j v,cs[j]?=some v->w.cell? ⟨b,off+j,none⟩=some v)
  (hvs:∀ j v,vs[j]?=some v->w.cell? ⟨vb,voff+j,none⟩=some v) (h1c:∀ v∈cs,v.oneCell'=true) (h1v:∀ v∈vs,v.oneCell'=true):
  Calls P (ρ.f 22) #[.slice (some ⟨b,off,none⟩) n c,.int .i64 i,.slice (some ⟨vb,voff,none⟩) m vc] w λ e w'=>
   e=.returned (.slice (some ⟨w.heap.size,0,none⟩) (n+m) (grownCap w (n+m) c (ρ.t 9)))/\
   w'=(((w.alloc (.cells ((cs.take (i*W)).toArray++Builtin.zeroCells zc (n+m - i)++Builtin.zeroCells zc (grownCap w (n+m) c (ρ.t 9) - (n+m))) (ρ.t 9))).drew.setCells w.heap.size (i*W) vs).drew).setCells w.heap.size ((i+m)*W) (cs.drop (i*W)):=by
 have t0:=L.t0; have a0:=L.a0; have z0:=L.z0; have v0:=L.v0; have t3:=L.t3; have a3:=L.a3; have z3:=L.z3; have v3:=L.v3; have t4:=L.t4; have a4:=L.a4; have z4:=L.z4; have v4:=L.v4; have z9:=L.z9; have t24:=L.t24; have a24:=L.a24; have z24:=L.z24; have v24:=L.v24
 have u0:=run_underlying L.t0; have u3:=run_underlying L.t3; have u4:=run_underlying L.t4; have u24:=run_underlying L.t24
 have mixed:=L.mixed;obtain⟨i0,z1,hi0,hz0,hzq,hzs,hzb⟩:=dZ L.i9;have hz1:¬ ((m:Int)=0):=by omega
 have hz2:¬ ((i:Int)=(n:Int)):=by omega
 have hz3:(c:Int)<(n:Int)+(m:Int):=by omega
 have hsz:(P.info? (ρ.t 9)).map (·.size)=some W:=by rw[hi0]; simp[hzs]
 have hnm:(n+m)*W=n*W+m*W:=Nat.add_mul n m W;have him:(i+m)*W=i*W+m*W:=Nat.add_mul i m W;have ago:i*W<=n*W:=Nat.mul_le_mul_right W (Nat.le_of_lt hi);have hiW:i*W<n*W:=Nat.mul_lt_mul_of_pos_right hi hW;have hmW:0<m*W:=Nat.mul_pos hm hW;have hbw:b<w.heap.size:=block_lt_of_cell (hcs 0 _ (List.getElem?_eq_getElem (by rw[hcl]; exact Nat.mul_pos (by omega) hW)))
 have hvw:vb<w.heap.size:=block_lt_of_cell (hvs 0 _ (List.getElem?_eq_getElem (by rw[hvl]; exact Nat.mul_pos hm hW)))
 have hkk:(n:Int)+(m:Int) - (i:Int)=((n+m - i:Nat):Int):=by omega
 have hik:i+(n+m - i)=n+m:=by omega
 have hold:(Builtin.firstCells i0.size i (.slice (some ⟨b,off,none⟩) i c)).run P w.drew=.ok (cs.take (i*W)).toArray w.drew:=by
  rw[hzs];exact run_firstCells_some w.drew W i ⟨b,off,none⟩ i c (cs.take (i*W)) (by rw[alE]; omega) (λ j v hj=>by
   rw[Addr.add_lit];rw[amy] at hj;split at hj
   ·exact hcs j v hj
   ·cases hj)
 have hrz:∀ ty,(Builtin.append_ #[(ρ.t 24),(ρ.t 3)] ty #[.slice (some ⟨b,off,none⟩) i c,.int .i64 ((n:Int)+(m:Int) - (i:Int))]).run P w=
   .ok (.slice (some ⟨w.heap.size,0,none⟩) (n+m) (grownCap w (n+m) c (ρ.t 9))) (w.drew.alloc (.cells ((cs.take (i*W)).toArray++Builtin.zeroCells zc (n+m - i)++Builtin.zeroCells zc (grownCap w (n+m) c (ρ.t 9) - (n+m))) (ρ.t 9))):=λ ty=>by
  have h:=Lib.run_append_grow_zeros w (ρ.t 24) (ρ.t 3) ty (ρ.t 9) i0 _ .i64 .i64 L.t24 L.t3 hi0 hz0 (some ⟨b,off,none⟩) i c (cs.take (i*W)) hold (n+m - i) (by omega) (by omega) (by omega) (by omega) (by rw[hzb]; exact Nat.le_trans (Nat.mul_le_mul_right B (Nat.sub_le _ _)) (by omega)) (by rw[hzb,hik]; exact growslice_fits acY ad5)
  rw[hik,hzq] at h;rw[hkk];exact h
 obtain⟨G,hG⟩:∃ G,G=grownCap w (n+m) c (ρ.t 9):=⟨_,rfl⟩
 obtain⟨ROW,af2⟩:∃ ROW:Array Value,ROW=(cs.take (i*W)).toArray++Builtin.zeroCells zc (n+m - i)++Builtin.zeroCells zc (G - (n+m)):=⟨_,rfl⟩
 rw[←hG] at hrz ⊢;rw[←af2] at hrz ⊢;have hRl:(n+m)*W<=ROW.size:=by
  have e1:(n+m)*W=i*W+(n+m - i)*W:=by rw[←am3]; congr 1; omega
  rw[af2,e1];simp only[ams,cz,alR,alE,hcl,hzc];have:min (i*W) (n*W)=i*W:=Nat.min_eq_left ago;omega
 obtain⟨W1,hW1⟩:∃ W1,W1=w.drew.alloc (.cells ROW (ρ.t 9)):=⟨_,rfl⟩
 rw[←hW1] at hrz;have hN:∀ j,j<(n+m)*W->(W1.cell? ⟨w.heap.size,j,none⟩).isSome=true:=λ j hj=>by
  rw[hW1,World.cell?_alloc_at (w:=w.drew) ROW _ w.heap.size j rfl,am2 (by omega)]; rfl
 have hNf:∀ j,W1.frozen? ⟨w.heap.size,j,none⟩=false:=λ j=>by rw[hW1]; exact World.frozen?_alloc_at (w:=w.drew) ROW _ w.heap.size j rfl
 have hOb:∀ j v,w.cell? ⟨b,j,none⟩=some v->W1.cell? ⟨b,j,none⟩=some v:=λ j v h=>by rw[hW1,World.cell?_alloc_past (w:=w.drew) _ b j hbw]; exact h
 have hOv:∀ j v,w.cell? ⟨vb,j,none⟩=some v->W1.cell? ⟨vb,j,none⟩=some v:=λ j v h=>by rw[hW1,World.cell?_alloc_past (w:=w.drew) _ vb j hvw]; exact h
 have aj9:∀ (W0:World),(∀ x,W0.cell? x=W1.cell? x)->(∀ x,W0.frozen? x=W1.frozen? x)->∀ ty dc,(Builtin.copy_ #[(ρ.t 24),(ρ.t 24)] ty #[.slice (some ⟨w.heap.size,i*W,none⟩) (n+m - i) dc,.slice (some ⟨vb,voff,none⟩) m vc]).run P W0=.ok (goInt ((m:Nat):Int)) (W0.setCells w.heap.size (i*W) vs):=λ W0 hWc hWf ty dc=>
  fX W0 _ _ ty (ρ.t 9) w.heap.size (i*W) (n+m - i) dc ⟨vb,voff,none⟩ m vc vs m W L.t24 hsz (by simp only[Nat.min_def]; split<;>omega) hvl
   (λ j v hj=>by rw[Addr.add_lit,hWc]; exact hOv _ v (hvs j v hj))
   (λ j hj=>by rw[hWc]; exact hN _ (by omega)) (λ j hj=>by rw[hWf]; exact hNf _) h1v
 have hGn:n+m<=G:=by rw[hG]; exact grownCap_ge w _ _ _
 have akT:G<=9223372036854775807:=by
  have:=grownCap_le_maxLen w (n+m) c (ρ.t 9) (by unfold maxLen; omega)
  rw[←hG] at this;unfold maxLen at this;omega
 have hGi:¬ (G=i):=by omega
 have akW:¬ (G=i+m):=by omega
 have hci:¬ (c=i):=by omega
 have hbN:b≠w.heap.size:=by omega
 have hdl:(cs.drop (i*W)).length=(n - i)*W:=by rw[alF,hcl,Nat.sub_mul]
 have agY:(cs.drop (i*W)).length=n*W - i*W:=by rw[alF,hcl]
 have ahP:∀ (W0:World),(∀ x,W0.cell? x=(W1.setCells w.heap.size (i*W) vs).cell? x)->(∀ x,W0.frozen? x=(W1.setCells w.heap.size (i*W) vs).frozen? x)->∀ ty dc sc,(Builtin.copy_ #[(ρ.t 24),(ρ.t 24)] ty #[.slice (some ⟨w.heap.size,(i+m)*W,none⟩) (n+m - (i+m)) dc,.slice (some ⟨b,off+i*W,none⟩) (n - i) sc]).run P W0=.ok (goInt ((n - i:Nat):Int)) (W0.setCells w.heap.size ((i+m)*W) (cs.drop (i*W))):=λ W0 hWc hWf ty dc sc=>
  fX W0 _ _ ty (ρ.t 9) w.heap.size ((i+m)*W) (n+m - (i+m)) dc ⟨b,off+i*W,none⟩ (n - i) sc (cs.drop (i*W)) (n - i) W L.t24 hsz (by simp only[Nat.min_def]; split<;>omega) hdl
   (λ j v hj=>by
    rw[Addr.add_lit,hWc,World.cell?_setCells_out _ _ _ _ _ (λ h _=>absurd h hbN),aml];exact hOb _ v (hcs (i*W+j) v (by rwa [List.getElem?_drop] at hj)))
   (λ j hj=>by rw[hWc]; exact isSome_setCells _ _ _ _ (λ t ht=>hN _ (by omega)) _ (hN _ (by omega)))
   (λ j hj=>by rw[hWf,World.frozen?_setCells]; exact hNf _) (λ v hv=>h1c v (List.mem_of_mem_drop hv))
 subst hW1;have hE1:∀ x,((w.alloc (.cells ROW (ρ.t 9))).drew).cell? x=(w.drew.alloc (.cells ROW (ρ.t 9))).cell? x:=λ x=>rfl;have hE2:∀ x,((w.alloc (.cells ROW (ρ.t 9))).drew).frozen? x=(w.drew.alloc (.cells ROW (ρ.t 9))).frozen? x:=λ x=>rfl;have hF1:∀ x,(((w.alloc (.cells ROW (ρ.t 9))).drew.setCells w.heap.size (i*W) vs).drew).cell? x=((w.drew.alloc (.cells ROW (ρ.t 9))).setCells w.heap.size (i*W) vs).cell? x:=λ x=>rfl;have hF2:∀ x,(((w.alloc (.cells ROW (ρ.t 9))).drew.setCells w.heap.size (i*W) vs).drew).frozen? x=((w.drew.alloc (.cells ROW (ρ.t 9))).setCells w.heap.size (i*W) vs).frozen? x:=λ x=>rfl;have hw1:IntKind.i64.wrap ((i:Int)+(m:Int))=(i:Int)+(m:Int):=by rw[IntKind.wrap_i64]; omega
 have hb1:(0:Int)<=(i:Int)+(m:Int):=by omega
 have hin:i<=n:=by omega
 have htn:((i:Int)+(m:Int)).toNat=i+m:=by omega
 have hb3:(i:Int)<=(n:Int):=by omega
 clear hkk hik hold af2 hG hRl him hnm ago hiW hmW hdl agY hzq;obtain⟨nm,f22⟩:=L.f22
 go_enter f22,d6 ρ nm
 go_wp2_with (first
  | (at_builtin; refine Lib.wpList_append_run _ rfl _ _ _ _ rfl _ _ rfl rfl _ _ (hrz _) ?_)
  | (at_builtin; refine wpList_copy_runI _ rfl _ _ (ρ.t 24) (ρ.t 24) rfl _ _ rfl rfl (aj9 _ hE1 hE2 _ _) ?_)
  | (at_builtin; refine wpList_copy_runI _ rfl _ _ (ρ.t 24) (ρ.t 24) rfl _ _ rfl rfl (ahP _ (λ _=>rfl) (λ _=>rfl) _ _ _) ?_))
 go_region_law_o (refine step_copy_runI rfl _ _ (ρ.t 24) (ρ.t 24) rfl (.slice (some ⟨w.heap.size,(i+m)*W,none⟩) (n+m - (i+m)) (G - (i+m))) (.slice (some ⟨b,off+i*W,none⟩) (n - i) (c - i)) (by simp[Act.eval,Act.put]) (by simp[Act.eval,Act.put]) (ahP _ hF1 hF2 (ρ.t 3) (G - (i+m)) (c - i)) ?_)
 go_wp2
 go_ret
 exact⟨rfl,rfl⟩
end Ev
namespace Ev
open Go Go.RowKit Go.Shelf Go.Lib Go.Proofs
theorem qg [Tags] (b:Nat) (T:TypeId) (fr:Nat×Nat):∀ (vs:List Value) (o:Nat) (arr:Array Value) (w:World),w.heap[b]?=some (.cells arr T fr)->o+vs.length<=arr.size->
  w.setCells b o vs=yZ w b (.cells (setAt arr.toList o vs).toArray T fr)
 | [],o,arr,w,h,_=>by
  simp only[World.setCells,rT,Array.toArray_toList];rw[px h]
 | v::vs,o,arr,w,h,hl=>by
  have hlt:o<arr.size:=by simp at hl; omega
  rw[World.setCells,C2 v h,qg b T fr vs (o+1) (arr.setIfInBounds o v) _ (Yp h) (by simp at hl ⊢; omega),pw]
  congr 3;rw[an1,rU _ _ _ _ (by simp at hl ⊢; omega)]
theorem gx {α:Type} (A B vs:List α) (k:Nat) (hk:k=A.length):setAt (A++B) k vs=A++(vs++B.drop vs.length):=by
 subst hk;simp[setAt]
theorem RdL.splitAt [Tags] {w:World} {e:Ty}:∀ {xs:List (den e)} {cs:List Value} {fp:List Nat} (n:Nat),RdL (Rd w e) xs cs fp->n<=xs.length->
  ∃ f1 f2,fp=f1++f2/\RdL (Rd w e) (xs.take n) (cs.take (n*e.size)) f1/\RdL (Rd w e) (xs.drop n) (cs.drop (n*e.size)) f2
 | xs,cs,fp,0,h,_=>⟨[],fp,by simp,by simp[RdL],by simpa using h⟩
 | [],_,fp,n+1,h,hn=>by simp at hn
 | x::xs,cs,fp,n+1,⟨c,rest,f1,f2,h1,h2,h3,h4⟩,hn=>by
  have l1:=h3.len;obtain⟨g1,g2,e1,e2,e3⟩:=RdL.splitAt n h4 (by simpa using hn);refine⟨f1++g1,g2,by rw[h2,e1]; simp,⟨c,rest.take (n*e.size),f1,g1,?_,rfl,h3,e2⟩,?_⟩
  ·rw[h1,alV,amQ,amr (by omega),l1];congr 2; omega
  ·have hd:c.drop (n*e.size+e.size)=[]:=List.drop_eq_nil_of_le (by omega);rw[h1,alV,an3,hd,l1,alL,Nat.add_sub_cancel];exact e3
theorem d8 [Tags] {B:Nat} {X:List Nat} {w0 w:World} {b:Nat} {arr arr':Array Value} {T:TypeId} {fr:Nat×Nat} (h:KeepsW B X w0 w) (hb:w.heap[b]?=some (.cells arr T fr)) (hs:arr'.size=arr.size)
  (hx:b∈X∨B<=b):KeepsW B X w0 (yZ w b (.cells arr' T fr)):=by
 refine⟨h.os,h.tape,h.output,by simpa[yZ] using h.size,λ k hk hkx => ?_,λ k hk hu => ?_,λ k => ?_⟩
 ·have:k≠b:=by rintro rfl; rcases hx with hx|hx; exact hkx hx; omega
  rw[Z8 this]; exact h.block k hk hkx
 ·by_cases hkb:k=b
  ·subst hkb;intro a T' fr' h';rw[Yp hb] at h';cases h';have:=h.free k hk hu arr T fr hb;rw[hs]; exact this
  ·exact (h.free k hk hu).congr (Z8 hkb)
 ·by_cases hkb:k=b
  ·subst hkb;intro a T' fr' h0;obtain⟨a1,e1,e2⟩:=h.shape k a T' fr' h0;rw[hb] at e1;cases e1;exact⟨arr',Yp hb,by omega⟩
  ·exact (h.shape k).trans (Shape.same (Z8 hkb))
theorem S8 [Tags] {w w':World} {T:Nat} {e:Ty} {xs vs:List (den e)} {i N cap:Nat} {arrR:Array Value} {Tt:TypeId} {fr:Nat×Nat} {P1 V P2 rest:List Value} {fa fb fv:List Nat}
  (hi:i<=xs.length) (hN:w'.heap[N]?=some (.cells arrR Tt fr)) (hf:frees fr arrR.size) (hs:arrR.size=cap*e.size) (hc:xs.length+vs.length<=cap) (hb:xs.length+vs.length<=140737488355328) (afk:KW T Tt/\(T=Tags.post->e.size=18))
  (hl:arrR.toList=P1++(V++(P2++rest))) (l1:P1.length=i*e.size) (l2:V.length=vs.length*e.size) (h1:RdL (Rd w e) (xs.take i) P1 fa) (h2:RdL (Rd w e) vs V fv) (h3:RdL (Rd w e) (xs.drop i) P2 fb)
  (hfr:∀ b∈fa++fv++fb,w'.heap[b]?=w.heap[b]?):
  RdO w' (.sl T e) (xs.take i++vs++xs.drop i) [.slice (some ⟨N,0,none⟩) (xs.length+vs.length) cap] [N] (fa++(fv++fb)):=by
 have hlen:(xs.take i++vs++xs.drop i).length=xs.length+vs.length:=by simp; omega
 refine .inr ⟨N,cap,arrR,Tt,fr,by rw[hlen],hN,hf,hs,by omega,by omega,?_,rfl,afk⟩;rw[hl,alW];refine RdL.app (h1.frame λ b hb=>hfr b (by simp[hb])) (by rw[l1,alE,amN hi]) ?_;refine RdL.app (h2.frame λ b hb=>hfr b (by simp[hb])) l2 ?_;exact RdL.more _ (h3.frame λ b hb=>hfr b (by simp[hb]))
theorem mX [Tags] (w:World) (X:List Nat) (arr:Array Value) (T:TypeId):KeepsW w.heap.size X w (w.drew.alloc (.cells arr T)):=by
 have h:=(vF w arr T).weak;exact⟨h.os,h.tape,h.output,h.size,λ k hk _=>h.block k hk (by simp),h.free,h.shape⟩
theorem Tf {B:Nat} {X:List Nat} {w0 w:World} (h:KeepsW B X w0 w):KeepsW B X w0 w.drew:=⟨h.os,h.tape,h.output,h.size,h.block,h.free,h.shape⟩
theorem lW (w:World) (arr:Array Value) (T:TypeId):(w.drew.alloc (.cells arr T)).heap[w.heap.size]?=some (.cells arr T (0,0)):=by
 show (w.heap.push _)[w.heap.size]?=_;simp
theorem Dd {w:World} {b:Nat} {arr:Array Value} {T:TypeId} {fr:Nat×Nat} (h:w.heap[b]?=some (.cells arr T fr)):w.shape? b=some (T,arr.size):=by
 simp[World.shape?,h]
theorem Sb {w:World} {b:Nat} {arr:Array Value} {T:TypeId} {fr:Nat×Nat} (h:w.heap[b]?=some (.cells arr T fr)) (hf:frees fr arr.size):w.frozen? ⟨b,arr.size,none⟩=false:=by
 obtain⟨lo,hi⟩:=fr;simp only[World.frozen?,h];exact hf _ (Nat.le_refl _)
theorem aa9 {α:Type} (l vs:List α) (j p:Nat) (h:p<=j) (hj:j<=l.length):(setAt l j vs).take p=l.take p:=by
 unfold setAt;rw[alW,amz (by simp; omega),List.take_take,amN h]
theorem aa7 {α:Type} (l vs:List α) (j:Nat) (hj:j<=l.length):(setAt l j vs).drop j=vs++l.drop (j+vs.length):=by
 unfold setAt;rw[alW,an3,amF (by simp; omega)]
 simp[amN hj]
variable {P:Program} {gl:Glob} {ρ:Ren} {zc:Array Value} {B:Nat}
def d5 {α:Type} (a:List α×Int×List α×Unit):Option (List α×Unit):=
 if 0<=a.2.1/\a.2.1<=(a.1.length:Int)/\0<a.2.2.1.length/\(a.1.length+a.2.2.1.length)<=1099511627776 then some (a.1.take a.2.1.toNat++a.2.2.1++a.1.drop a.2.1.toNat,()) else none
theorem CallsTo.mono {f:FuncId} {args:Array Value} {w:World} {R R':Value->World->Prop} (h:CallsTo P f args w R) (hi:∀ v w',R v w'->R' v w'):CallsTo P f args w R':=by
 unfold CallsTo at h ⊢;split at h
 ·exact hi _ _ h
 ·refine Calls.mono h ?_;intro e w'' hR;cases e with
  | returned v=>exact hi _ _ hR
  | panicked _=>exact hR.elim
  | outgrown=>exact hR.elim
 ·exact Rows.mono h λ v w' hR=>hi _ _ hR
 ·exact h.elim
theorem RdO.noSlF [Tags] {w:World} {T:Nat} {e:Ty} (hns:e.hasSl=false) {v:List (den e)} {cs:List Value} {xs fs:List Nat} (h:RdO w (.sl T e) v cs xs fs):fs=[]:=by
 rcases h with⟨_,_,_,h⟩|⟨b,cap,arr,T',fr,_,_,_,_,_,_,h,_⟩
 ·exact h
 ·exact h.noSl hns
theorem vz [Tags] {T:Nat} {e:Ty} (L:J7 P ρ e.size zc B) (he:∀ args w,(callFunc (ρ.f 22) args).run P w=.ok (.enter (ρ.f 22) args) w) (hz:zc.size=e.size) (hB:B<=128) (hTg:T≠Tags.post/\ρ.t 9≠Tags.post) {w:World} {xs vs:List (den e)} {i:Int} {cs cs3:List Value} {xs1 xs3 fs1 fs3:List Nat} {o:List (den e)×Unit}
  (h1:RdO w (.sl T e) xs cs xs1 fs1) (h3:RdO w (.sl T e) vs cs3 xs3 fs3) (hnd:(xs1++xs3).Nodup) (adE:∀ b∈xs1++xs3,b∉fs1++fs3) (hf:d5 (α:=den e) (xs,i,vs,())=some o):
  CallsTo P (ρ.f 22) #[yp (.sl T e) cs,.int .i64 i,yp (.sl T e) cs3] w λ v w'=>KeepsW w.heap.size (xs1++xs3) w w'/\∃ N fa fb,fs1=fa++fb/\RdO w' (.sl T e) o.1 [v] [N] (fa++(fs3++fb))/\N∉fa++(fs3++fb)/\(w.heap.size<=N∨N∈xs1):=by
 simp only[d5] at hf;split at hf
 ·rename_i hc;cases hf;have c1:0<=i:=hc.1;have c2:i<=(xs.length:Int):=hc.2.1;have c3:0<vs.length:=hc.2.2.1;have c4:xs.length+vs.length<=1099511627776:=hc.2.2.2;clear hc;have hW:0<e.size:=Ty.size_pos e;obtain⟨k,rfl⟩:∃ k:Nat,i=(k:Int):=Int.eq_ofNat_of_zero_le c1;have hk:k<=xs.length:=Int.ofNat_le.1 c2;have ek:Int.toNat ((k:Nat):Int)=k:=rfl
-- what is put in
  rcases h3 with⟨rfl,_⟩|⟨vb,vcap,varr,vT,vfr,rfl,vh,vf,vs',vl,vl2,vr,rfl,_⟩
  ·simp at c3
  have hvs:∀ j v,(varr.toList.take (vs.length*e.size))[j]?=some v->w.cell? ⟨vb,0+j,none⟩=some v:=by
   intro j v hj;rw[M9 vh,amg];rw[amy] at hj;split at hj
   ·simpa using hj
   ·cases hj
  have vl:vs.length<=vcap:=vl;have vr:RdL (Rd w e) vs varr.toList fs3:=vr;have hle:vs.length*e.size<=varr.toList.length:=vr.le;have hvl:(varr.toList.take (vs.length*e.size)).length=vs.length*e.size:=by rw[alE,amN hle]
  have hv1:=vr.one;have hvr:=vr.cut;have ajp:=vr.lt;have ad5:(xs.length+vs.length)*B<=140737488355328:=by
   have:=Nat.mul_le_mul c4 hB;omega
  have adu:∀ {N cap:Nat} {w':World} {arrR:Array Value} {Tt:TypeId} {fr:Nat×Nat} {P1 P2 rest:List Value} {fa fb:List Nat},KW T Tt->KeepsW w.heap.size (xs1++[vb]) w w'->w'.heap[N]?=some (.cells arrR Tt fr)->frees fr arrR.size->arrR.size=cap*e.size->
    xs.length+vs.length<=cap->arrR.toList=P1++(varr.toList.take (vs.length*e.size)++(P2++rest))->P1.length=k*e.size->RdL (Rd w e) (xs.take k) P1 fa->RdL (Rd w e) (xs.drop k) P2 fb->fs1=fa++fb->(w.heap.size<=N∨N∈xs1)->
    KeepsW w.heap.size (xs1++[vb]) w w'/\∃ N' fa fb,fs1=fa++fb/\RdO w' (.sl T e) (xs.take k++vs++xs.drop k) [.slice (some ⟨N,0,none⟩) (xs.length+vs.length) cap] [N'] (fa++(fs3++fb))/\N'∉fa++(fs3++fb)/\(w.heap.size<=N'∨N'∈xs1):=by
   intro N cap w' arrR Tt fr P1 P2 rest fa fb htt hkeep hN hf' hs hcap hl l1 q1 q3 hfs hNx;subst hfs;have hb1:∀ b∈fa++fs3++fb,b<w.heap.size/\b∉xs1++[vb]:=by
    intro b hb;refine⟨?_,?_⟩
    ·simp only[alK] at hb;rcases hb with (hb|hb)|hb
     ·exact q1.lt b hb
     ·exact ajp b hb
     ·exact q3.lt b hb
    ·intro hx;have:=adE b (by simpa using hx);simp only[alK] at hb;apply this;rcases hb with (hb|hb)|hb<;>simp[hb]
   have hO:=S8 (T:=T) hk hN hf' hs hcap (by omega) ⟨htt,λ k=>absurd k hTg.1⟩ hl l1 hvl q1 hvr q3 (λ b hb=>hkeep.block b (hb1 b hb).1 (hb1 b hb).2);have hNf:N∉fa++(fs3++fb):=by
    intro hm;have:=hb1 N (by simpa[alW] using hm);rcases hNx with h|h
    ·omega
    ·exact this.2 (by simp[h])
   exact⟨hkeep,N,fa,fb,rfl,hO,hNf,hNx⟩
  have h1':(xs=[]/\cs=[.slice none 0 0]/\xs1=[]/\fs1=[])∨∃ b cap arr aT fr,cs=[.slice (some ⟨b,0,none⟩) xs.length cap]/\w.heap[b]?=some (.cells arr aT fr)/\frees fr arr.size/\arr.size=cap*e.size/\
   xs.length<=cap/\xs.length<=140737488355328/\RdL (Rd w e) xs arr.toList fs1/\xs1=[b]/\KW T aT/\(T=Tags.post->e.size=18):=h1
  rcases h1' with⟨rfl,rfl,rfl,rfl⟩|⟨b,cap,arr,aT,fr,rfl,hb,hfr,hs,hl,hl2,hr,rfl,aiE,_⟩
  ·have hk0:k=0:=by simpa using hk
   subst hk0;have aeE:=vA L none 0 0 vb 0 vs.length vcap [] _ w c3 (Nat.le_refl _) (by omega) (by simpa using c4) (by simpa using ad5) (by simp) hvl (λ _=>rfl) (λ a h=>by cases h) hvs hv1;refine Jc he aeE ?_;rintro e' w' ⟨rfl,rfl⟩;refine⟨_,rfl,?_⟩;have hG:vs.length<=grownCap w (0+vs.length) 0 (ρ.t 9):=by have:=grownCap_ge w (0+vs.length) 0 (ρ.t 9); omega
   refine adu (P1:=[]) (P2:=[]) (rest:=(Builtin.zeroCells zc (grownCap w (0+vs.length) 0 (ρ.t 9) - (0+vs.length))).toList) (fa:=[]) (fb:=[]) ⟨λ k=>absurd k hTg.2,λ k=>absurd k hTg.1⟩ (mX w _ _ _) (lW w _ _) (JO _) ?_ (by simpa using hG) (by simp) (by simp) rfl rfl rfl (.inl (Nat.le_refl _));rw[ams,cz,hz,alR,alL,hvl,←am3];congr 1;omega
  ·have hnW:xs.length*e.size<=arr.toList.length:=by
    have:=Nat.mul_le_mul_right e.size hl;simp only[amb]; omega
   have hkW:k*e.size<=xs.length*e.size:=Nat.mul_le_mul_right e.size hk;have adO:(xs.length - k)*e.size=xs.length*e.size - k*e.size:=Nat.sub_mul _ _ _;obtain⟨fa,fb,agl,q1,q3'⟩:=RdL.splitAt k hr hk;have q3:=q3'.cut;rw[alF] at q3;obtain⟨P1,hP1⟩:∃ P1,P1=arr.toList.take (k*e.size):=⟨_,rfl⟩
   obtain⟨P2,hP2⟩:∃ P2,P2=(arr.toList.drop (k*e.size)).take ((xs.length - k)*e.size):=⟨_,rfl⟩
   obtain⟨R,hR⟩:∃ R,R=arr.toList.drop (xs.length*e.size):=⟨_,rfl⟩
   have l1:P1.length=k*e.size:=by rw[hP1,alE]; omega
   have l2:P2.length=(xs.length - k)*e.size:=by rw[hP2,alE,alF]; omega
   have agC:arr.toList=P1++(P2++R):=by
    have h0:R=(arr.toList.drop (k*e.size)).drop ((xs.length - k)*e.size):=by
     rw[hR,alY]; congr 1; omega
    rw[h0,hP2,amL,hP1,amL]
   have ajb:(arr.toList.take (xs.length*e.size)).take (k*e.size)=P1:=by rw[List.take_take,amN hkW,hP1]
   have ahQ:(arr.toList.take (xs.length*e.size)).drop (k*e.size)=P2:=by rw[List.drop_take,hP2,adO]
   rw[←hP1] at q1;rw[←hP2] at q3;have hcl:(arr.toList.take (xs.length*e.size)).length=xs.length*e.size:=by rw[alE,amN hnW]
   have hcs:∀ j v,(arr.toList.take (xs.length*e.size))[j]?=some v->w.cell? ⟨b,0+j,none⟩=some v:=by
    intro j v hj;rw[M9 hb,amg];rw[amy] at hj;split at hj
    ·simpa using hj
    ·cases hj
   have h1c:=hr.one;have ahM:arr.toList.length=arr.size:=Array.length_toList;have hmW:(xs.length+vs.length)*e.size=xs.length*e.size+vs.length*e.size:=Nat.add_mul _ _ _;have hkm:(k+vs.length)*e.size=k*e.size+vs.length*e.size:=Nat.add_mul _ _ _;have hne:vb≠b:=by
    intro h;subst h;simp at hnd
   by_cases acY:xs.length+vs.length<=cap
   ·have al0:(xs.length+vs.length)*e.size<=arr.size:=by rw[hs]; exact Nat.mul_le_mul_right _ acY
    have hsp:∀ j,j<(xs.length+vs.length)*e.size->(w.cell? ⟨b,0+j,none⟩).isSome=true:=by
     intro j hj;rw[M9 hb,am2 (by omega)]; rfl
    have hfz:∀ j,j<(xs.length+vs.length)*e.size->w.frozen? ⟨b,0+j,none⟩=false:=λ j hj=>mI hb hfr (by omega);by_cases hkn:k=xs.length
    ·subst hkn;have aeE:=S6 L b 0 xs.length cap vb 0 vs.length vcap _ w c3 acY c4 hvl (λ j hj=>by have:=hsp (xs.length*e.size+j) (by omega); rwa [Nat.zero_add] at this ⊢) (λ j hj=>by have:=hfz (xs.length*e.size+j) (by omega); rwa [Nat.zero_add] at this ⊢) hvs hv1
     refine Jc he aeE ?_;rintro e' w' ⟨rfl,rfl⟩;refine⟨_,rfl,?_⟩;have agf:P2=[]:=List.length_eq_zero_iff.1 (by rw[l2]; simp)
     rw[Nat.zero_add,qg b aT fr _ _ arr w hb (by rw[hvl]; omega)]
     have hsa:=gx P1 (P2++R) (varr.toList.take (vs.length*e.size)) (xs.length*e.size) l1.symm;rw[←agC,agf,alL] at hsa;have hsz:=YZ (l:=arr.toList) (k:=xs.length*e.size) (vs:=varr.toList.take (vs.length*e.size)) (by rw[hvl]; omega)
     refine adu (P1:=P1) (P2:=P2) (fa:=fa) (fb:=fb) (rest:=R.drop (varr.toList.take (vs.length*e.size)).length) aiE (d8 (KeepsW.refl _ _ _) hb (by simpa using hsz) (.inl (by simp))) (Yp hb) (by rw[alR,hsz]; simpa using hfr) (by rw[alR,hsz]; simpa using hs) acY
      (by rw[agf,alL]; exact hsa) l1 q1 q3 agl (.inr (by simp))
    ·have ah9:k<xs.length:=by omega
     have aeE:=S9 L hW b 0 xs.length cap k vb 0 vs.length vcap _ _ w ah9 c3 acY c4 hne hcl hvl hcs hsp hfz hvs h1c hv1 vT aT varr.size arr.size (Dd vh) (Dd hb) (by have:=Nat.mul_pos (show 0<xs.length+vs.length by omega) hW; omega)
      (mI vh vf (by have:=Nat.mul_pos c3 hW; simp at hle; omega)) (Sb vh vf)
     refine Jc he aeE ?_;rintro e' w' ⟨rfl,rfl⟩;refine⟨_,rfl,?_⟩;rw[ahQ,amg,amg];have aiV:P2.length=xs.length*e.size - k*e.size:=by rw[l2,adO]
     have hb':w.drew.heap[b]?=some (.cells arr aT fr):=hb;rw[qg b aT fr _ _ arr w.drew hb' (by omega)];have hsz:=YZ (l:=arr.toList) (k:=(k+vs.length)*e.size) (vs:=P2) (by omega);rw[qg b aT fr _ _ _ _ (Yp hb') (by rw[alR,hsz,hvl]; omega),pw]
     have hQ:(setAt arr.toList ((k+vs.length)*e.size) P2)=P1++(setAt arr.toList ((k+vs.length)*e.size) P2).drop (k*e.size):=by
      have:=aa9 arr.toList P2 ((k+vs.length)*e.size) (k*e.size) (by omega) (by omega);rw[hP1,←this,amL]
     have hD:((setAt arr.toList ((k+vs.length)*e.size) P2).drop (k*e.size)).drop (vs.length*e.size)=P2++arr.toList.drop ((k+vs.length)*e.size+P2.length):=by
      rw[alY,←hkm];exact aa7 _ _ _ (by omega)
     have hsa:=gx P1 ((setAt arr.toList ((k+vs.length)*e.size) P2).drop (k*e.size)) (varr.toList.take (vs.length*e.size)) (k*e.size) l1.symm;rw[hvl,hD,←hQ] at hsa;have adS:=YZ (l:=setAt arr.toList ((k+vs.length)*e.size) P2) (k:=k*e.size) (vs:=varr.toList.take (vs.length*e.size)) (by rw[hvl,hsz]; omega)
     rw[hsz] at adS;have hkw:KeepsW w.heap.size ([b]++[vb]) w w.drew:=⟨rfl,rfl,rfl,Nat.le_refl _,λ _ _ _=>rfl,λ _ _ h=>h,Shape.refl w⟩
     refine adu (P1:=P1) (P2:=P2) (fa:=fa) (fb:=fb) (rest:=arr.toList.drop ((k+vs.length)*e.size+P2.length)) aiE (d8 hkw hb' (by simpa using adS) (.inl (by simp))) (Yp hb') (by rw[alR]; simpa[adS] using hfr) (by rw[alR]; simpa[adS] using hs) acY
      (by simpa using hsa) l1 q1 q3 agl (.inr (by simp))
   ·have hnr:cap<xs.length+vs.length:=by omega
    have hGe:=grownCap_ge w (xs.length+vs.length) cap (ρ.t 9);by_cases hkn:k=xs.length
    ·subst hkn;have aeE:=vA L (some ⟨b,0,none⟩) xs.length cap vb 0 vs.length vcap _ _ w c3 hl hnr c4 ad5 hcl hvl (λ h=>by cases h) (λ a h j v hj=>by cases h; rw[LR]; exact hcs j v hj) hvs hv1
     refine Jc he aeE ?_;rintro e' w' ⟨rfl,rfl⟩;refine⟨_,rfl,?_⟩;have agf:P2=[]:=List.length_eq_zero_iff.1 (by rw[l2]; simp)
     have aiU:arr.toList.take (xs.length*e.size)=P1:=hP1.symm;refine adu (P1:=P1) (P2:=P2) (fa:=fa) (fb:=fb) (rest:=(Builtin.zeroCells zc (grownCap w (xs.length+vs.length) cap (ρ.t 9) - (xs.length+vs.length))).toList) ⟨λ k=>absurd k hTg.2,λ k=>absurd k hTg.1⟩ (mX w _ _ _) (lW w _ _) (JO _) ?_ hGe (by rw[aiU,agf]; simp) l1 q1 q3 agl (.inl (Nat.le_refl _))
     rw[ams,cz,hz,alR,alv,hcl,hvl,←am3,←am3];congr 1;omega
    ·have ah9:k<xs.length:=by omega
     have aeE:=S7 L hW b 0 xs.length cap k vb 0 vs.length vcap _ _ w ah9 c3 hl hnr c4 ad5 hcl hvl hz hcs hvs h1c hv1;refine Jc he aeE ?_;rintro e' w' ⟨rfl,rfl⟩;refine⟨_,rfl,?_⟩;rw[ajb,ahQ];obtain⟨G,hG⟩:∃ G,G=grownCap w (xs.length+vs.length) cap (ρ.t 9):=⟨_,rfl⟩
     rw[←hG] at hGe ⊢;obtain⟨Z,hZ⟩:∃ Z,Z=(Builtin.zeroCells zc (xs.length+vs.length - k)).toList++(Builtin.zeroCells zc (G - (xs.length+vs.length))).toList:=⟨_,rfl⟩
     obtain⟨ROW,af2⟩:∃ ROW,ROW=P1.toArray++Builtin.zeroCells zc (xs.length+vs.length - k)++Builtin.zeroCells zc (G - (xs.length+vs.length)):=⟨_,rfl⟩
     rw[←af2];have hRl:ROW.toList=P1++Z:=by rw[af2,hZ]; simp
     have hRs:ROW.size=G*e.size:=by
      rw[af2,ams,ams,cz,cz,hz,alR,l1,←am3,←am3];congr 1;omega
     have agM:ROW.toList.length=G*e.size:=by rw[←hRs]; exact Array.length_toList
     have hGW:(xs.length+vs.length)*e.size<=G*e.size:=Nat.mul_le_mul_right _ hGe;have aiV:P2.length=xs.length*e.size - k*e.size:=by rw[l2,adO]
     have hk0:KeepsW w.heap.size ([b]++[vb]) w (w.alloc (.cells ROW (ρ.t 9))).drew:=mX w _ _ _;have hg0:(w.alloc (.cells ROW (ρ.t 9))).drew.heap[w.heap.size]?=some (.cells ROW (ρ.t 9) (0,0)):=lW w _ _;rw[qg w.heap.size (ρ.t 9) (0,0) _ _ ROW _ hg0 (by rw[hvl,←amb,agM]; omega)]
     have hsz:=YZ (l:=ROW.toList) (k:=k*e.size) (vs:=varr.toList.take (vs.length*e.size)) (by rw[hvl,agM]; omega)
     rw[agM] at hsz;have hk1:=Tf (d8 (arr':=(setAt ROW.toList (k*e.size) (varr.toList.take (vs.length*e.size))).toArray) hk0 hg0 (by rw[alR,hsz,hRs]) (.inr (Nat.le_refl _)));have hg1:(yZ (w.alloc (.cells ROW (ρ.t 9))).drew w.heap.size (.cells (setAt ROW.toList (k*e.size) (varr.toList.take (vs.length*e.size))).toArray (ρ.t 9) (0,0))).drew.heap[w.heap.size]?=some (.cells (setAt ROW.toList (k*e.size) (varr.toList.take (vs.length*e.size))).toArray (ρ.t 9) (0,0)):=Yp hg0;rw[qg w.heap.size (ρ.t 9) (0,0) _ _ _ _ hg1 (by rw[alR,hsz]; omega)]
     have adS:=YZ (l:=setAt ROW.toList (k*e.size) (varr.toList.take (vs.length*e.size))) (k:=(k+vs.length)*e.size) (vs:=P2) (by rw[hsz]; omega)
     rw[hsz] at adS;have hA1:=gx P1 Z (varr.toList.take (vs.length*e.size)) (k*e.size) l1.symm;rw[←hRl,←alW] at hA1;have hA2:=gx (P1++varr.toList.take (vs.length*e.size)) (Z.drop (varr.toList.take (vs.length*e.size)).length) P2 ((k+vs.length)*e.size) (by rw[alv,l1,hvl,hkm]);rw[←hA1,alW] at hA2;refine adu (P1:=P1) (P2:=P2) (fa:=fa) (fb:=fb) (rest:=(Z.drop (varr.toList.take (vs.length*e.size)).length).drop P2.length) ⟨λ k=>absurd k hTg.2,λ k=>absurd k hTg.1⟩ (d8 hk1 hg1 (by rw[alR,alR,adS,hsz]) (.inr (Nat.le_refl _))) (Yp hg1) (JO _) (by rw[alR,adS]) hGe hA2 l1 q1 q3 agl (.inl (Nat.le_refl _))
 ·cases hf
theorem aaB [Tags] {T:Nat} {e:Ty} {rk:RK} (L:J7 P ρ e.size zc B) (he:∀ args w,(callFunc (ρ.f 22) args).run P w=.ok (.enter (ρ.f 22) args) w) (hz:zc.size=e.size) (hB:B<=128) (hTg:T≠Tags.post/\ρ.t 9≠Tags.post) (hrk:rk=.own∨(rk=.uniq/\e.hasSl=false)):
  Sound P gl (ρ.f 22) ⟨[(.own,.sl T e),(.rd,.i64),(.own,.sl T e)],[.sl T e],rk,λ a=>d5 (α:=den e) a⟩ where
 run:=by
  rintro w ⟨xs,i,vs,⟨⟩⟩ vals r rp rc xo xp outs ⟨cs,vs',xs1,fs1,r1,xo1,rfl,h1,rfl,rfl,cs2,vs2,fp2,r2,rfl,h2,rfl,cs3,vs3,xs3,fs3,r3,xo3,rfl,h3,rfl,rfl,rfl,rfl,rfl,rfl,rfl,rfl⟩ hnd adE hG - hf;obtain⟨rfl,rfl,-⟩:=h2;refine (vz L he hz hB hTg h1 h3 (by simpa using hnd) (λ b hb=>by simpa using (adE b (by simpa using hb)).1) hf).mono ?_;rintro v w' ⟨hkeep,N,fa,fb,rfl,hO,hNf,hNx⟩;refine⟨by simpa using hkeep,[],rfl,[[v]],[N],fa++(fs3++fb),⟨_,[],[N],[],fa++(fs3++fb),[],rfl,rfl,by simp,?_,rfl,rfl,rfl⟩,rfl,?_,?_⟩
  ·rcases hrk with rfl|⟨rfl,_⟩<;>exact hO
  ·rcases hrk with rfl|⟨rfl,hns⟩
   ·refine⟨by simp,λ b hb=>⟨?_,by simp⟩,λ b hb hb' => ?_,λ b hb => ?_⟩
    ·simp at hb; subst hb
     rcases hNx with h|h
     ·exact .inl h
     ·exact .inr (by simp[h])
    ·simp at hb; subst hb; exact hNf hb'
    ·refine .inr (.inl ?_);simp only[alK] at hb;rcases hb with hb|hb|hb<;>simp[hb]
   ·have e1:=RdO.noSlF hns hO;rw[e1];refine⟨by simp,λ b hb=>⟨?_,by simp⟩⟩;simp at hb; subst hb
    rcases hNx with h|h
    ·exact .inl h
    ·exact .inr (by simp[h])
  ·rcases hrk with rfl|⟨rfl,hns⟩
   ·intro h; cases h
   ·intro _ b hb;rw[RdO.noSlF hns hO] at hb;simp at hb
theorem aag [Tags] {T:Nat} {e:Ty} {rk:RK} (L:J7 P ρ e.size zc B) (he:∀ args w,(callFunc (ρ.f 22) args).run P w=.ok (.enter (ρ.f 22) args) w) (hz:zc.size=e.size) (hB:B<=128) (hTg:T≠Tags.post/\ρ.t 9≠Tags.post):
  KU P gl (ρ.f 22) ⟨[(.own,.sl T e),(.rd,.i64),(.own,.sl T e)],[.sl T e],rk,λ a=>d5 (α:=den e) a⟩ where
 run:=by
  rintro w ⟨xs,i,vs,⟨⟩⟩ vals r xo outs ⟨cs,vs',xs1,fs1,r1,xo1,rfl,h1,rfl,rfl,cs2,vs2,fp2,r2,rfl,h2,rfl,cs3,vs3,xs3,fs3,r3,xo3,rfl,h3,rfl,rfl,rfl,rfl,-,-,rfl,-⟩ hnd ajY adE hG - hf;obtain⟨rfl,rfl,-⟩:=h2;refine (vz L he hz hB hTg h1 h3 (by simpa using hnd) (λ b hb=>by simpa using adE b (by simpa using hb)) hf).mono ?_;rintro v w' ⟨hkeep,N,fa,fb,rfl,hO,hNf,hNx⟩;have ait:(fa++(fs3++fb)).Perm ((fa++fb)++fs3):=by
   rw[alW];exact List.Perm.append_left fa List.perm_append_comm
  have ajX:(fa++(fs3++fb)).Nodup:=ait.nodup_iff.2 (by simpa using ajY);refine⟨by simpa using hkeep,[[v]],[N],fa++(fs3++fb),⟨_,[],[N],[],fa++(fs3++fb),[],rfl,rfl,by simp,hO,rfl,rfl,rfl⟩,rfl,?_,?_,?_⟩
  ·exact List.nodup_cons.2 ⟨hNf,ajX⟩
  ·intro b hb;simp at hb; subst hb
   rcases hNx with h|h
   ·exact .inl h
   ·exact .inr (by simp[h])
  ·intro b hb;have:=ait.mem_iff.1 hb;simpa using this
end Ev
