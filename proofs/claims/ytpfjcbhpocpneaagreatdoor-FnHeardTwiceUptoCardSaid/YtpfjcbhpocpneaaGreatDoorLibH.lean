/- The evaluator of the own library, part 8: contracts of functions of Go's library, out of the kit's. Conditions: none of its own. -/
import Derived.Test.YtpfjcbhpocpneaaGreatDoorLibG
import Derived.Lib.ItoaNum
import Derived.Lib.Split
import Derived.Lib.Join
import Derived.Lib.LastIndexByte
import Derived.Lib.SplitLaws
import Derived.Shelf.Abstract
import Derived.WalkKit
import Derived.Laws.Rows
import Derived.Below
import Derived.Deep.Draws
import Derived.Sort.Grow
import Derived.Shelf.Spec.SlicesInsertGrow
set_option linter.unusedSimpArgs false
set_option linter.unusedVariables false
namespace G448
open Ev
def strconv_Itoa (a:Int×Unit):Option (List UInt8×Unit):=some (Go.Lib.itoa a.1,())
def strings_Cut (a:List UInt8×List UInt8×Unit):Option (List UInt8×List UInt8×Bool×Unit):=
 if a.1.length<4294967281 then some ((Go.Lib.cut a.1 a.2.1).1,(Go.Lib.cut a.1 a.2.1).2.1,(Go.Lib.cut a.1 a.2.1).2.2,()) else none
def strings_Split (a:List UInt8×List UInt8×Unit):Option (List (List UInt8)×Unit):=
 if a.1.length<4294967281/\1<=a.2.1.length then some (Go.Lib.split a.1 a.2.1,()) else none
def strings_LastIndexByte (a:List UInt8×UInt8×Unit):Option (Int×Unit):=
 if a.1.length<4611686018427387904 then some (Go.Lib.lastIndexByte ⟨a.1.toArray⟩ a.2.1.toNat,()) else none
def QT {α:Type} (a:List α×Int×List α×Unit):Option (List α×Unit):=
 if 0<=a.2.1/\a.2.1<=(a.1.length:Int)/\0<a.2.2.1.length/\(a.1.length+a.2.2.1.length)<=1099511627776 then some (a.1.take a.2.1.toNat++a.2.2.1++a.1.drop a.2.1.toNat,()) else none
def bv (a:List Int×Int×List Int×Unit):Option (List Int×Unit):=QT a
def XU (a:List (Int×Int×Int×Int)×Int×List (Int×Int×Int×Int)×Unit):Option (List (Int×Int×Int×Int)×Unit):=QT a
def MC (a:List (Int×List UInt8×List Int)×Int×List (Int×List UInt8×List Int)×Unit):Option (List (Int×List UInt8×List Int)×Unit):=QT a
end G448
namespace Ev
open Go Go.RowKit Go.Sort
variable {P:Program} {gl:Glob} {f:FuncId}
theorem Kc {args:Array Value} {w:World} {Q:Ending->World->Prop} {R:Value->World->Prop} (he:∀ args w,(callFunc f args).run P w=.ok (.enter f args) w)
  (h:Calls P f args w Q) (hr:∀ e w',Q e w'->∃ v,e=.returned v/\R v w'):CallsTo P f args w R:=by
 unfold CallsTo;rw[he];refine Calls.mono h λ e w'' hq => ?_;obtain⟨v,rfl,hv⟩:=hr _ _ hq;exact hv
theorem vk (w:World) (arr:Array Value) (T:TypeId):Keeps w.heap.size [] w (w.alloc (.cells arr T)):=by
 have hold:∀ k,k<w.heap.size->(w.alloc (.cells arr T)).heap[k]?=w.heap[k]?:=λ k hk=>by
  show (w.heap.push _)[k]?=_;rw[Array.getElem?_push]; rw[if_neg (by omega)]
 have acs:(w.alloc (.cells arr T)).heap[w.heap.size]?=some (.cells arr T):=by
  show (w.heap.push _)[w.heap.size]?=_;simp
 refine⟨rfl,rfl,rfl,?_,λ k hk _=>hold k hk,?_,?_⟩
 ·show w.heap.size<=(w.heap.push _).size;simp
 ·intro k hu a T' fr' h';by_cases hk:k<w.heap.size
  ·rw[hold k hk] at h'; exact hu a T' fr' h'
  ·by_cases hk2:k=w.heap.size
   ·subst hk2;rw[acs] at h';cases h';intro o ho;simp
   ·have:(w.alloc (.cells arr T)).heap[k]?=none:=by
     apply Array.getElem?_eq_none;show (w.heap.push _).size<=k;simp; omega
    rw[this] at h'; cases h'
 ·intro k;intro a T' fr' h';have hk:k<w.heap.size:=by
   rcases Nat.lt_or_ge k w.heap.size with h|h
   ·exact h
   ·rw[alZ h] at h'; cases h'
  exact⟨a,(hold k hk).trans h',rfl⟩
theorem Bd [Tags] (w:World):∀ (l:List ByteArray),(∀ x∈l,x.size<=140737488355328)->RdL (Rd w .str) (l.map (·.data.toList)) (l.map Value.string) []
 | [],_=>rfl
 | x::l,h=>⟨[.string x],l.map Value.string,[],[],rfl,rfl,⟨rfl,rfl,h x (by simp)⟩,Bd w l λ y hy=>h y (by simp[hy])⟩
theorem Du (sep:ByteArray):∀ (k:Nat) (s x:ByteArray),x∈Lib.splitB sep 0 k s->x.size<=s.size
 | 0,s,x,h=>by simp[Lib.splitB] at h; simp[h]
 | k+1,s,x,h=>by
  unfold Lib.splitB at h;split at h
  ·simp at h; simp[h]
  ·rcases List.mem_cons.1 h with rfl|h
   ·simp; omega
   ·have:=Du sep k _ x h;simp at this; omega
theorem aam [Tags] {T:TypeId} (hTp:T≠Tags.post) (he:∀ args w,(callFunc f args).run P w=.ok (.enter f args) w) {g:Nat} (hg:∀ w,gl.G w->∃ m,w.cell? ⟨g,0,none⟩=some (.int .i64 m))
  (hc:∀ (s sep:ByteArray) (m:Int) (w:World),s.size<4294967281->w.cell? ⟨g,0,none⟩=some (.int .i64 m)->1<=sep.size->
   Calls P f #[.string s,.string sep] w λ e w'=>e=.returned (.slice (some ⟨w.heap.size,0,none⟩) (Lib.countB s sep+1) (Lib.countB s sep+1))/\
    w'=w.alloc (.cells ((Lib.splitB sep 0 (Lib.countB s sep) s).map Value.string).toArray T)):
  Sound P gl f ⟨[(.rd,.str),(.rd,.str)],[.sl T .str],.uniq,G448.strings_Split⟩ where
 run:=by
  rintro w ⟨l,sep,⟨⟩⟩ vals r rp rc xo xp outs ⟨cs,vs,fp,r',rfl,h1,rfl,cs2,vs2,fp2,r2,rfl,h2,rfl,rfl,rfl,rfl,rfl,rfl,rfl⟩ - - hG - hf;obtain⟨rfl,rfl,hl⟩:=h1;obtain⟨rfl,rfl,hs⟩:=h2;simp only[G448.strings_Split] at hf;split at hf
  ·rename_i hb;cases hf;obtain⟨m,hm⟩:=hg w hG;have ac1:(Lib.splitB (ByteArray.mk ⟨sep⟩) 0 (Lib.countB (ByteArray.mk ⟨l⟩) (ByteArray.mk ⟨sep⟩)) (ByteArray.mk ⟨l⟩)).length=Lib.countB (ByteArray.mk ⟨l⟩) (ByteArray.mk ⟨sep⟩)+1:=
    Lib.splitB_all _ (by simpa[ByteArray.size] using hb.2) 0 _ _ rfl
   have aiE:=Lib.splitB_data (ByteArray.mk ⟨sep⟩) 0 (Lib.countB (ByteArray.mk ⟨l⟩) (ByteArray.mk ⟨sep⟩)) (ByteArray.mk ⟨l⟩);have hle:=Lib.countB_le (ByteArray.mk ⟨sep⟩) (by simpa[ByteArray.size] using hb.2) l.length (ByteArray.mk ⟨l⟩) (by simp[ByteArray.size]);refine Kc he (hc (ByteArray.mk ⟨l⟩) (ByteArray.mk ⟨sep⟩) m w (by simpa[ByteArray.size] using hb.1) hm (by simpa[ByteArray.size] using hb.2)) ?_;rintro e w' ⟨rfl,rfl⟩;refine⟨_,rfl,(vk w _ _).weak,[],rfl,?_⟩;have ag5:Lib.split l sep=(Lib.splitB (ByteArray.mk ⟨sep⟩) 0 (Lib.countB (ByteArray.mk ⟨l⟩) (ByteArray.mk ⟨sep⟩)) (ByteArray.mk ⟨l⟩)).map (·.data.toList):=aiE.symm;have hsl:(Lib.split l sep).length=Lib.countB (ByteArray.mk ⟨l⟩) (ByteArray.mk ⟨sep⟩)+1:=by rw[ag5,alA,ac1]
   have hsz:(ByteArray.mk ⟨l⟩).size=l.length:=by simp[ByteArray.size]
   rw[hsz] at hle;have hl':l.length<=140737488355328:=hl;refine⟨[[.slice (some ⟨w.heap.size,0,none⟩) (Lib.split l sep).length (Lib.countB (ByteArray.mk ⟨l⟩) (ByteArray.mk ⟨sep⟩)+1)]],[w.heap.size],[],⟨_,[],[w.heap.size],[],[],[],rfl,rfl,rfl,Or.inr ⟨w.heap.size,_,
    ((Lib.splitB (ByteArray.mk ⟨sep⟩) 0 (Lib.countB (ByteArray.mk ⟨l⟩) (ByteArray.mk ⟨sep⟩)) (ByteArray.mk ⟨l⟩)).map Value.string).toArray,T,(0,0),rfl,?_,?_,?_,?_,?_,?_,rfl,Iff.rfl,λ k=>absurd k hTp⟩,rfl,rfl,rfl⟩,?_,?_⟩
   ·show (w.heap.push _)[w.heap.size]?=_;simp
   ·intro o ho; simp
   ·simp[ac1,Ty.size]
   ·show (Lib.split l sep).length<=_;omega
   ·show (Lib.split l sep).length<=_;have:=hb.1;omega
   ·show RdL _ (Lib.split l sep) _ _;rw[ag5];exact Bd _ _ λ x hx=>by
     have:=Du _ _ _ _ hx;rw[hsz] at this;exact Nat.le_trans this hl'
   ·show _=Value.slice _ _ _;rw[hsl]
   ·refine⟨⟨by simp,?_⟩,λ _ b hb=>by simp at hb⟩;intro b hb;simp at hb;subst hb;exact⟨Or.inl (Nat.le_refl _),by simp⟩
  ·cases hf
theorem aa7 [Tags] (he:∀ args w,(callFunc f args).run P w=.ok (.enter f args) w)
  (hc:∀ (s:ByteArray) (c:Int) (hs:s.size<4611686018427387904) (w:World),Calls P f #[.string s,.int .u8 c] w λ e w'=>e=.returned (.int .i64 (Lib.lastIndexByte s c))/\w'=w):
  Sound P gl f ⟨[(.rd,.str),(.rd,.u8)],[.i64],.uniq,G448.strings_LastIndexByte⟩ where
 run:=by
  rintro w ⟨l,c,⟨⟩⟩ vals r rp rc xo xp outs ⟨cs,vs,fp,r',rfl,h1,rfl,cs2,vs2,fp2,r2,rfl,h2,rfl,rfl,rfl,rfl,rfl,rfl,rfl⟩ - - hG - hf;obtain⟨rfl,rfl,hl⟩:=h1;obtain⟨rfl,rfl⟩:=h2;simp only[G448.strings_LastIndexByte] at hf;split at hf
  ·rename_i hb;cases hf;refine Kc he (hc (ByteArray.mk ⟨l⟩) _ (by simpa[ByteArray.size] using hb) w) ?_;rintro e w' ⟨rfl,rfl⟩;refine⟨_,rfl,KeepsW.refl _ _ _,[],rfl,[[_]],[],[],⟨_,[],[],[],[],[],rfl,rfl,rfl,⟨⟨rfl,rfl,?_⟩,rfl,rfl⟩,rfl,rfl,rfl⟩,rfl,?_,?_⟩
   ·have hsz:(ByteArray.mk ⟨l⟩).size=l.length:=by simp[ByteArray.size]
    have:=Lib.lastIndexByte_spec (ByteArray.mk ⟨l⟩) (c.toNat:Int);have hl':l.length<=140737488355328:=hl;show -9223372036854775808<=Lib.lastIndexByte (ByteArray.mk ⟨l⟩) (c.toNat:Int)/\Lib.lastIndexByte (ByteArray.mk ⟨l⟩) (c.toNat:Int)<=9223372036854775807;rcases this with⟨e,_⟩|⟨i,hi,e,_⟩
    ·rw[e]; decide
    ·rw[e]; omega
   ·exact⟨by simp,by simp⟩
   ·simp
  ·cases hf
theorem vj [Tags] {w w':World} (h:Below w.heap.size w w'):KeepsW w.heap.size [] w w':=
 ⟨h.os,h.tape,h.output,h.size,λ k hk _=>h.block k hk,λ k hk hu arr T fr h'=>by rw[h.block k hk] at h'; exact hu arr T fr h',λ k arr T fr h0=>by
  have hlt:=ZK h0;exact⟨arr,by rw[h.block k hlt]; exact h0,rfl⟩⟩
theorem O8 (w:World) (n:Nat) (os:Array Obj):Below w.heap.size w (grow (w.drewN n) os):=
 ⟨rfl,rfl,rfl,by show w.heap.size<=(w.heap++os).size; simp,λ k hk=>by
  show (w.heap++os)[k]?=_;rw[Array.getElem?_append_left hk]⟩
theorem X7 [Tags] (he:∀ args w,(callFunc f args).run P w=.ok (.enter f args) w) {g:Nat} (hg:∀ w,gl.G w->∃ m,w.cell? ⟨g,0,none⟩=some (.int .i64 m))
  (hc:∀ (s sep:ByteArray) (m:Int) (w:World),s.size<4294967281->w.cell? ⟨g,0,none⟩=some (.int .i64 m)->
   Calls P f #[.string s,.string sep] w λ e w'=>e=.returned (.tuple #[.string ⟨(Lib.cut s.data.toList sep.data.toList).1.toArray⟩,.string ⟨(Lib.cut s.data.toList sep.data.toList).2.1.toArray⟩,.bool (Lib.cut s.data.toList sep.data.toList).2.2])/\
    ∃ n,w'=w.drewN n):
  Sound P gl f ⟨[(.rd,.str),(.rd,.str)],[.str,.str,.bool],.uniq,G448.strings_Cut⟩ where
 run:=by
  rintro w ⟨l,sep,⟨⟩⟩ vals r rp rc xo xp outs ⟨cs,vs,fp,r',rfl,h1,rfl,cs2,vs2,fp2,r2,rfl,h2,rfl,rfl,rfl,rfl,rfl,rfl,rfl⟩ - - hG - hf;obtain⟨rfl,rfl,hl⟩:=h1;obtain⟨rfl,rfl,hs⟩:=h2;simp only[G448.strings_Cut] at hf;split at hf
  ·rename_i hb;cases hf;obtain⟨m,hm⟩:=hg w hG;refine Kc he (hc (ByteArray.mk ⟨l⟩) (ByteArray.mk ⟨sep⟩) m w (by simpa[ByteArray.size] using hb) hm) ?_;rintro e w' ⟨rfl,n,rfl⟩;have hl':l.length<=140737488355328:=hl;have b1:(Lib.cut l sep).1.length<=l.length:=by unfold Lib.cut; split<;>simp; omega
   have b2:(Lib.cut l sep).2.1.length<=l.length:=by unfold Lib.cut; split<;>simp
   refine⟨_,rfl,vj ⟨rfl,rfl,rfl,Nat.le_refl _,λ _ _=>rfl⟩,[],rfl,[[_],[_],[_]],[],[],⟨_,_,[],[],[],[],rfl,rfl,rfl,⟨⟨rfl,rfl,Nat.le_trans b1 hl'⟩,rfl,rfl⟩,_,_,[],[],[],[],rfl,rfl,rfl,⟨⟨rfl,rfl,Nat.le_trans b2 hl'⟩,rfl,rfl⟩,
    _,[],[],[],[],[],rfl,rfl,rfl,⟨⟨rfl,rfl⟩,rfl,rfl⟩,rfl,rfl,rfl⟩,rfl,⟨by simp,by simp⟩,by simp⟩
  ·cases hf
theorem nK:∀ (k u:Nat),u<10 ^ (k+1)->Lib.nDigits u<=k+1
 | 0,u,h=>by rw[Lib.nDigits_small (by simpa using h)]; exact Nat.le_refl _
 | k+1,u,h=>by
  by_cases hu:u<10
  ·rw[Lib.nDigits_small hu]; omega
  ·rw[Lib.nDigits_big hu];have:=nK k (u / 10) (by rw[am4] at h; omega)
   omega
theorem SH [Tags] (n:Int) (h:Bnd .i64 n):(Lib.itoa n).length<=21:=by
 have h1 : -9223372036854775808<=n:=h.1;have h2:n<=9223372036854775807:=h.2;unfold Lib.itoa;split
 ·have:=nK 19 n.natAbs (by
                    have:n.natAbs<=9223372036854775808:=by omega
                    exact Nat.lt_of_le_of_lt this (by decide))
  rw[akN,Lib.decDigits_length]; omega
 ·have:=nK 19 n.toNat (by
                   have:n.toNat<=9223372036854775807:=by omega
                   exact Nat.lt_of_le_of_lt this (by decide))
  rw[Lib.decDigits_length]; omega
theorem aa5 [Tags] (he:∀ args w,(callFunc f args).run P w=.ok (.enter f args) w) {T:World->Prop} (hT:∀ w,gl.G w->T w)
  (hc:∀ (n:Int) (h0 : -9223372036854775808<=n) (h1:n<=9223372036854775807) (w:World) (ht:T w),Calls P f #[.int .i64 n] w λ e w'=>e=.returned (.string ⟨(Lib.itoa n).toArray⟩)/\∃ k os,w'=grow (w.drewN k) os):
  Sound P gl f ⟨[(.rd,.i64)],[.str],.uniq,G448.strconv_Itoa⟩ where
 run:=by
  rintro w ⟨n,⟨⟩⟩ vals r rp rc xo xp outs ⟨cs,vs,fp,r',rfl,h1,rfl,rfl,rfl,rfl,rfl,rfl,rfl⟩ - - hG - hf;obtain⟨rfl,rfl,hb⟩:=h1;cases hf;refine Kc he (hc n hb.1 hb.2 w (hT w hG)) ?_;rintro e w' ⟨rfl,k,os,rfl⟩;refine⟨_,rfl,vj (O8 w k os),[],rfl,[[_]],[],[],⟨_,[],[],[],[],[],rfl,rfl,rfl,⟨⟨rfl,rfl,?_⟩,rfl,rfl⟩,rfl,rfl,rfl⟩,rfl,⟨by simp,by simp⟩,by simp⟩;have:=SH n hb;show (Lib.itoa n).length<=_;omega
end Ev
namespace Ev
open Go Go.Shelf Go.RowKit Go.Lib Go.Proofs
variable {P:Program} {ρ:Ren} {W B:Nat} {zc:Array Value}
noncomputable def uY (ρ:Ren) (nm:String):Func:={ Body2.n22 ρ with name:=nm }
theorem d7 (ρ:Ren) (nm:String):(uY ρ nm).ntmps=95:=Body2.n22_ntmps ρ
structure JB (P:Program) (ρ:Ren) (W:Nat) (zc:Array Value) (B:Nat):Prop where
 mixed:P.follows .mixedOrders=true
 f22:∃ nm,P.funcs[ρ.f 22]?=some (uY ρ nm)
 ov:∀ (args:Array Value) (w:World),(callFunc (ρ.f 29) args).run P w=((Extern.SlicesOverlaps.overlaps #[(ρ.t 24),(ρ.t 24)] #[(ρ.t 4)] args).run P w).andThen λ v w'=>.ok (.value v) w'
 t0:P.underlying (ρ.t 0)=some (TypeDesc.tuple #[])
 a0:∀ w,(isAgg (ρ.t 0)).run P w=.ok false w
 z0:∀ w,(Go.sizeOf (ρ.t 0)).run P w=.ok 1 w
 v0:∀ w,(zeroValue (ρ.t 0)).run P w=.ok (Value.tuple #[]) w
 t3:P.underlying (ρ.t 3)=some (TypeDesc.int IntKind.i64)
 a3:∀ w,(isAgg (ρ.t 3)).run P w=.ok false w
 z3:∀ w,(Go.sizeOf (ρ.t 3)).run P w=.ok 1 w
 v3:∀ w,(zeroValue (ρ.t 3)).run P w=.ok (Value.int IntKind.i64 0) w
 t4:P.underlying (ρ.t 4)=some (TypeDesc.bool)
 a4:∀ w,(isAgg (ρ.t 4)).run P w=.ok false w
 z4:∀ w,(Go.sizeOf (ρ.t 4)).run P w=.ok 1 w
 v4:∀ w,(zeroValue (ρ.t 4)).run P w=.ok (Value.bool false) w
 z9:∀ w,(Go.sizeOf (ρ.t 9)).run P w=.ok W w
 t24:P.underlying (ρ.t 24)=some (TypeDesc.slice (ρ.t 9))
 a24:∀ w,(isAgg (ρ.t 24)).run P w=.ok false w
 z24:∀ w,(Go.sizeOf (ρ.t 24)).run P w=.ok 1 w
 v24:∀ w,(zeroValue (ρ.t 24)).run P w=.ok (Value.slice none 0 0) w
 i9:(P.info? (ρ.t 9)).map (λ i=>(i.zero.map Value.cells,i.size,i.bytes))=some (some zc,W,B)
theorem d5 {e:TypeId} (h:(P.info? e).map (λ i=>(i.zero.map Value.cells,i.size,i.bytes))=some (some zc,W,B)):
  ∃ i z,P.info? e=some i/\i.zero=some z/\z.cells=zc/\i.size=W/\i.bytes=B:=by
 cases hq:P.info? e with
 | none=>rw[hq] at h; cases h
 | some i=>
  rw[hq] at h;simp only[alo,akL,akS,Option.map_eq_some_iff] at h;obtain⟨⟨z,h1,h2⟩,h3,h4⟩:=h;exact⟨i,z,rfl,h1,h2,h3,h4⟩
theorem fR (w:World) (dT sT ty elem:TypeId) (b o dLen dCap:Nat) (a:Addr) (sLen sCap:Nat) (cs:List Value) (k W:Nat)
  (hu:P.underlying dT=some (.slice elem)) (hs:(P.info? elem).map (·.size)=some W) (hk:k=Nat.min sLen dLen) (hn:cs.length=k*W)
  (afz:∀ j v,cs[j]?=some v->w.cell? (a.add j)=some v) (hc:∀ j,j<cs.length->(w.cell? ⟨b,o+j,none⟩).isSome=true) (hf:∀ j,j<cs.length->w.frozen? ⟨b,o+j,none⟩=false) (h1:∀ v∈cs,v.oneCell'=true):
  (Builtin.copy_ #[dT,sT] ty #[.slice (some ⟨b,o,none⟩) dLen dCap,.slice (some a) sLen sCap]).run P w=.ok (goInt (k:Int)) (w.setCells b o cs):=by
 have hl:=run_loadCells_list (P:=P) w a cs afz;have hst:=run_storeCells_cells (P:=P) b o cs 0 w (by simpa using hc) (by simpa using hf) h1;cases hq:P.info? elem with
 | none=>simp[hq] at hs
 | some i=>
  have hi:i.size=W:=by simpa[hq] using hs
  rw[hn] at hl;subst hk;simp[Builtin.copy_,run_underlying hu,Builtin.lenOf,Builtin.firstCells,Go.sizeOf,typeInfo,hq,hi,hl,hst]
theorem cx (cs:Array Value) (n:Nat):(Builtin.zeroCells cs n).size=n*cs.size:=by
 unfold Builtin.zeroCells;simp
set_option maxHeartbeats 4000000 in
set_option maxRecDepth 100000 in
theorem SD (L:JB P ρ W zc B) (hW:0<W) (b off n c i vb voff m vc:Nat) (cs vs:List Value) (w:World) (hi:i<n) (hm:0<m) (acm:n+m<=c) (h63:n+m<=1099511627776) (hvb:vb≠b)
  (hcl:cs.length=n*W) (hvl:vs.length=m*W)
  (hcs:∀ j v,cs[j]?=some v->w.cell? ⟨b,off+j,none⟩=some v) (hsp:∀ j,j<(n+m)*W->(w.cell? ⟨b,off+j,none⟩).isSome=true) (hfz:∀ j,j<(n+m)*W->w.frozen? ⟨b,off+j,none⟩=false)
  (hvs:∀ j v,vs[j]?=some v->w.cell? ⟨vb,voff+j,none⟩=some v) (h1c:∀ v∈cs,v.oneCell'=true) (h1v:∀ v∈vs,v.oneCell'=true)
  (tA tB:TypeId) (kA kB:Nat) (hsa:w.shape? vb=some (tA,kA)) (hsb:w.shape? b=some (tB,kB)) (hkB:kB≠0) (hfa:w.frozen? ⟨vb,voff,none⟩=false) (hfe:w.frozen? ⟨vb,kA,none⟩=false):
  Calls P (ρ.f 22) #[.slice (some ⟨b,off,none⟩) n c,.int .i64 i,.slice (some ⟨vb,voff,none⟩) m vc] w λ e w'=>
   e=.returned (.slice (some ⟨b,off,none⟩) (n+m) c)/\w'=(w.drew.setCells b (off+(i+m)*W) (cs.drop (i*W))).setCells b (off+i*W) vs:=by
 have t0:=L.t0; have a0:=L.a0; have z0:=L.z0; have v0:=L.v0; have t3:=L.t3; have a3:=L.a3; have z3:=L.z3; have v3:=L.v3; have t4:=L.t4; have a4:=L.a4; have z4:=L.z4; have v4:=L.v4; have z9:=L.z9; have t24:=L.t24; have a24:=L.a24; have z24:=L.z24; have v24:=L.v24
 have u0:=run_underlying L.t0; have u3:=run_underlying L.t3; have u4:=run_underlying L.t4; have u24:=run_underlying L.t24
 have hz1:¬ ((m:Int)=0):=by omega
 have hz2:¬ ((i:Int)=(n:Int)):=by omega
 have hsz:(P.info? (ρ.t 9)).map (·.size)=some W:=by
  obtain⟨i0,z1,hi0,h0,hzq,h1,h2⟩:=d5 L.i9;rw[hi0]; simp[h1]
 have hnm:(n+m)*W=n*W+m*W:=Nat.add_mul n m W;have him:(i+m)*W=i*W+m*W:=Nat.add_mul i m W;have afQ:i*W<=n*W:=Nat.mul_le_mul_right W (Nat.le_of_lt hi);have hov:∀ lb cb,(callFunc (ρ.f 29) #[.slice (some ⟨vb,voff,none⟩) m vc,.slice (some ⟨b,off+(i+m)*W,none⟩) lb cb]).run P w=.ok (.value (.bool false)) w:=λ lb cb=>by
  rw[L.ov,
   Lib.run_overlaps_apart w (ρ.t 24) (ρ.t 4) (ρ.t 9) L.t24 W L.z9 ⟨vb,voff,none⟩ ⟨b,off+(i+m)*W,none⟩ m vc lb cb hvb tA tB kA kB hsa hsb hkB hfa hfe]
  rfl
 have hdl:(cs.drop (i*W)).length=(n - i)*W:=by rw[al7,hcl,Nat.sub_mul]
 have agu:(cs.drop (i*W)).length=n*W - i*W:=by rw[al7,hcl]
 have mixed:=L.mixed;have hw1:IntKind.i64.wrap ((i:Int)+(m:Int))=(i:Int)+(m:Int):=by rw[IntKind.wrap_i64]; omega
 have hb1:(0:Int)<=(i:Int)+(m:Int):=by omega
 have hin:i<=n:=by omega
 have htn:((i:Int)+(m:Int)).toNat=i+m:=by omega
 have hb2:¬ (c=i+m):=by omega
 have hb3:(i:Int)<=(n:Int)+(m:Int):=by omega
 have hb4:¬ (c=i):=by omega
 have ahg:∀ ty dc sc,(Builtin.copy_ #[(ρ.t 24),(ρ.t 24)] ty #[.slice (some ⟨b,off+(i+m)*W,none⟩) (n+m - (i+m)) dc,.slice (some ⟨b,off+i*W,none⟩) (n+m - i) sc]).run P w.drew=.ok (goInt ((n - i:Nat):Int)) (w.drew.setCells b (off+(i+m)*W) (cs.drop (i*W))):=λ ty dc sc=>
  fR w.drew _ _ ty (ρ.t 9) b (off+(i+m)*W) (n+m - (i+m)) dc ⟨b,off+i*W,none⟩ (n+m - i) sc (cs.drop (i*W)) (n - i) W L.t24 hsz (by simp only[Nat.min_def]; split<;>omega) hdl
   (λ j v hj=>by rw[Addr.add_lit,alM]; exact hcs (i*W+j) v (by rwa [List.getElem?_drop] at hj))
   (λ j hj=>by rw[alM]; exact hsp _ (by omega)) (λ j hj=>by rw[alM]; exact hfz _ (by omega)) (λ v hv=>h1c v (List.mem_of_mem_drop hv))
 obtain⟨W1,hW1⟩:∃ W1,W1=w.drew.setCells b (off+(i+m)*W) (cs.drop (i*W)):=⟨_,rfl⟩
 have ajR:∀ k,k<(n+m)*W->(W1.cell? ⟨b,off+k,none⟩).isSome=true:=λ k hk=>by
  rw[hW1];exact isSome_setCells b _ _ _ (λ j hj=>by rw[alM]; exact hsp _ (by omega)) _ (hsp k hk)
 have aix:∀ (W0:World),(∀ x,W0.cell? x=W1.cell? x)->(∀ x,W0.frozen? x=W1.frozen? x)->∀ ty dc,(Builtin.copy_ #[(ρ.t 24),(ρ.t 24)] ty #[.slice (some ⟨b,off+i*W,none⟩) (n+m - i) dc,.slice (some ⟨vb,voff,none⟩) m vc]).run P W0=.ok (goInt ((m:Nat):Int)) (W0.setCells b (off+i*W) vs):=λ W0 hWc hWf ty dc=>
  fR W0 _ _ ty (ρ.t 9) b (off+i*W) (n+m - i) dc ⟨vb,voff,none⟩ m vc vs m W L.t24 hsz (by simp only[Nat.min_def]; split<;>omega) hvl
   (λ j v hj=>by
    rw[Addr.add_lit,hWc,hW1,World.cell?_setCells_out b _ _ _ _ (λ h _=>absurd h hvb)];exact hvs j v hj)
   (λ j hj=>by rw[hWc,alM]; exact ajR _ (by omega)) (λ j hj=>by rw[hWf,hW1,World.frozen?_setCells,alM]; exact hfz _ (by omega)) h1v
 rw[←hW1] at ahg;clear him hnm afQ hdl agu;obtain⟨nm,f22⟩:=L.f22
 go_enter f22,d7 ρ nm
 go_wp2_with (simp only[hov])
 go_region_law_o (refine step_copy_runI rfl _ _ (ρ.t 24) (ρ.t 24) rfl _ _ (by simp[Act.eval,Act.put]) (by simp[Act.eval,Act.put]) (ahg _ _ _) ?_)
 go_wp2_with (at_builtin; refine wpList_copy_runI _ rfl _ _ (ρ.t 24) (ρ.t 24) rfl _ _ rfl rfl (aix _ (λ _=>rfl) (λ _=>rfl) _ _) ?_)
 go_ret
 first|exact⟨rfl,rfl⟩|exact⟨rfl,by rw[hW1]⟩
set_option maxHeartbeats 4000000 in
set_option maxRecDepth 100000 in
theorem SA (L:JB P ρ W zc B) (b off n c vb voff m vc:Nat) (vs:List Value) (w:World) (hm:0<m) (acm:n+m<=c) (h63:n+m<=1099511627776)
  (hvl:vs.length=m*W) (hsp:∀ j,j<m*W->(w.cell? ⟨b,off+n*W+j,none⟩).isSome=true) (hfz:∀ j,j<m*W->w.frozen? ⟨b,off+n*W+j,none⟩=false)
  (hvs:∀ j v,vs[j]?=some v->w.cell? ⟨vb,voff+j,none⟩=some v) (h1v:∀ v∈vs,v.oneCell'=true):
  Calls P (ρ.f 22) #[.slice (some ⟨b,off,none⟩) n c,.int .i64 n,.slice (some ⟨vb,voff,none⟩) m vc] w λ e w'=>
   e=.returned (.slice (some ⟨b,off,none⟩) (n+m) c)/\w'=w.setCells b (off+n*W) vs:=by
 have t0:=L.t0; have a0:=L.a0; have z0:=L.z0; have v0:=L.v0; have t3:=L.t3; have a3:=L.a3; have z3:=L.z3; have v3:=L.v3; have t4:=L.t4; have a4:=L.a4; have z4:=L.z4; have v4:=L.v4; have z9:=L.z9; have t24:=L.t24; have a24:=L.a24; have z24:=L.z24; have v24:=L.v24
 have u0:=run_underlying L.t0; have u3:=run_underlying L.t3; have u4:=run_underlying L.t4; have u24:=run_underlying L.t24
 have mixed:=L.mixed;have hz1:¬ ((m:Int)=0):=by omega
 have afz:Src P W (ρ.t 24) (.slice (some ⟨vb,voff,none⟩) m vc) m vs w:=Src.ofSlice w L.t24 ⟨vb,voff,none⟩ m vc vs hvl (λ j u hj=>by rw[Addr.add_lit]; exact hvs j u hj) h1v
 obtain⟨i0,z1,hi0,hz0,hzq,hzs,hzb⟩:=d5 L.i9;have abZ:∀ ty,(Builtin.append_ #[(ρ.t 24),(ρ.t 24)] ty #[.slice (some ⟨b,off,none⟩) n c,.slice (some ⟨vb,voff,none⟩) m vc]).run P w=.ok (.slice (some ⟨b,off,none⟩) (n+m) c) (w.setCells b (off+n*W) vs):=λ ty=>by
  have h:=run_append_room_src w (ρ.t 24) (ρ.t 24) ty (ρ.t 9) i0 L.t24 hi0 b off n c (.slice (some ⟨vb,voff,none⟩) m vc) m vs (by rw[hzs]; exact afz) acm (by rw[hzs,hvl]; exact hsp) (by rw[hzs,hvl]; exact hfz)
  rwa [hzs] at h
 obtain⟨nm,f22⟩:=L.f22
 go_enter f22,d7 ρ nm
 go_wp2_with (at_builtin; refine Lib.wpList_append_run _ rfl _ _ _ _ rfl _ _ rfl rfl _ _ (abZ _) ?_)
 go_ret
 exact⟨rfl,rfl⟩
set_option maxHeartbeats 4000000 in
set_option maxRecDepth 100000 in
theorem u9 (L:JB P ρ W zc B) (base:Option Addr) (n c vb voff m vc:Nat) (cs vs:List Value) (w:World) (hm:0<m) (hnc:n<=c) (acm:c<n+m) (h63:n+m<=1099511627776) (acy:(n+m)*B<=140737488355328)
  (hcl:cs.length=n*W) (hvl:vs.length=m*W) (ahM:base=none->n=0)
  (hcs:∀ a,base=some a->∀ j v,cs[j]?=some v->w.cell? (a.add j)=some v)
  (hvs:∀ j v,vs[j]?=some v->w.cell? ⟨vb,voff+j,none⟩=some v) (h1v:∀ v∈vs,v.oneCell'=true):
  Calls P (ρ.f 22) #[.slice base n c,.int .i64 n,.slice (some ⟨vb,voff,none⟩) m vc] w λ e w'=>
   e=.returned (.slice (some ⟨w.heap.size,0,none⟩) (n+m) (grownCap w (n+m) c (ρ.t 9)))/\
   w'=w.drew.alloc (.cells ((cs++vs).toArray++Builtin.zeroCells zc (grownCap w (n+m) c (ρ.t 9) - (n+m))) (ρ.t 9)):=by
 have t0:=L.t0; have a0:=L.a0; have z0:=L.z0; have v0:=L.v0; have t3:=L.t3; have a3:=L.a3; have z3:=L.z3; have v3:=L.v3; have t4:=L.t4; have a4:=L.a4; have z4:=L.z4; have v4:=L.v4; have z9:=L.z9; have t24:=L.t24; have a24:=L.a24; have z24:=L.z24; have v24:=L.v24
 have u0:=run_underlying L.t0; have u3:=run_underlying L.t3; have u4:=run_underlying L.t4; have u24:=run_underlying L.t24
 have mixed:=L.mixed;obtain⟨i0,z1,hi0,hz0,hzq,hzs,hzb⟩:=d5 L.i9;have hz1:¬ ((m:Int)=0):=by omega
 have afz:Src P i0.size (ρ.t 24) (.slice (some ⟨vb,voff,none⟩) m vc) m vs w:=by
  rw[hzs];exact Src.ofSlice w L.t24 ⟨vb,voff,none⟩ m vc vs hvl (λ j u hj=>by rw[Addr.add_lit]; exact hvs j u hj) h1v
 have hold:(Builtin.firstCells i0.size n (.slice base n c)).run P w.drew=.ok cs.toArray w.drew:=by
  rw[hzs];cases base with
  | none=>
   have h0:=ahM rfl;subst h0;have aiz:cs=[]:=List.length_eq_zero_iff.1 (by rw[hcl,ama]);rw[aiz];exact run_firstCells_none w.drew W 0 0 c
  | some a=>exact run_firstCells_some w.drew W n a n c cs hcl (λ j v hj=>hcs a rfl j v hj)
 have abZ:∀ ty,(Builtin.append_ #[(ρ.t 24),(ρ.t 24)] ty #[.slice base n c,.slice (some ⟨vb,voff,none⟩) m vc]).run P w=.ok (.slice (some ⟨w.heap.size,0,none⟩) (n+m) (grownCap w (n+m) c (ρ.t 9))) (w.drew.alloc (.cells ((cs++vs).toArray++Builtin.zeroCells zc (grownCap w (n+m) c (ρ.t 9) - (n+m))) (ρ.t 9))):=λ ty=>by
  have h:=λ ty=>run_append_grow_src w (ρ.t 24) (ρ.t 24) ty (ρ.t 9) i0 _ L.t24 hi0 hz0 base n c cs hold _ m vs afz acm (by omega) (by rw[hzb]; exact growslice_fits acm acy)
  simp only[hzq] at h;exact h ty
 clear hzq;obtain⟨nm,f22⟩:=L.f22
 go_enter f22,d7 ρ nm
 cases base with
 | none=>
  have h0:=ahM rfl;subst h0
  go_wp2_with (at_builtin; refine Lib.wpList_append_run _ rfl _ _ _ _ rfl _ _ rfl rfl _ _ (abZ _) ?_)
  go_ret
  exact⟨rfl,rfl⟩
 | some a=>
  obtain⟨ab,ao,asp⟩:=a
  go_wp2_with (at_builtin; refine Lib.wpList_append_run _ rfl _ _ _ _ rfl _ _ rfl rfl _ _ (abZ _) ?_)
  all_goals (go_ret; exact⟨rfl,rfl⟩)
set_option maxHeartbeats 4000000 in
set_option maxRecDepth 100000 in
theorem SB (L:JB P ρ W zc B) (hW:0<W) (b off n c i vb voff m vc:Nat) (cs vs:List Value) (w:World) (hi:i<n) (hm:0<m) (hnc:n<=c) (acm:c<n+m) (h63:n+m<=1099511627776) (acy:(n+m)*B<=140737488355328)
  (hcl:cs.length=n*W) (hvl:vs.length=m*W) (hzc:zc.size=W)
  (hcs:∀ j v,cs[j]?=some v->w.cell? ⟨b,off+j,none⟩=some v)
  (hvs:∀ j v,vs[j]?=some v->w.cell? ⟨vb,voff+j,none⟩=some v) (h1c:∀ v∈cs,v.oneCell'=true) (h1v:∀ v∈vs,v.oneCell'=true):
  Calls P (ρ.f 22) #[.slice (some ⟨b,off,none⟩) n c,.int .i64 i,.slice (some ⟨vb,voff,none⟩) m vc] w λ e w'=>
   e=.returned (.slice (some ⟨w.heap.size,0,none⟩) (n+m) (grownCap w (n+m) c (ρ.t 9)))/\
   w'=(((w.alloc (.cells ((cs.take (i*W)).toArray++Builtin.zeroCells zc (n+m - i)++Builtin.zeroCells zc (grownCap w (n+m) c (ρ.t 9) - (n+m))) (ρ.t 9))).drew.setCells w.heap.size (i*W) vs).drew).setCells w.heap.size ((i+m)*W) (cs.drop (i*W)):=by
 have t0:=L.t0; have a0:=L.a0; have z0:=L.z0; have v0:=L.v0; have t3:=L.t3; have a3:=L.a3; have z3:=L.z3; have v3:=L.v3; have t4:=L.t4; have a4:=L.a4; have z4:=L.z4; have v4:=L.v4; have z9:=L.z9; have t24:=L.t24; have a24:=L.a24; have z24:=L.z24; have v24:=L.v24
 have u0:=run_underlying L.t0; have u3:=run_underlying L.t3; have u4:=run_underlying L.t4; have u24:=run_underlying L.t24
 have mixed:=L.mixed;obtain⟨i0,z1,hi0,hz0,hzq,hzs,hzb⟩:=d5 L.i9;have hz1:¬ ((m:Int)=0):=by omega
 have hz2:¬ ((i:Int)=(n:Int)):=by omega
 have hz3:(c:Int)<(n:Int)+(m:Int):=by omega
 have hsz:(P.info? (ρ.t 9)).map (·.size)=some W:=by rw[hi0]; simp[hzs]
 have hnm:(n+m)*W=n*W+m*W:=Nat.add_mul n m W;have him:(i+m)*W=i*W+m*W:=Nat.add_mul i m W;have afQ:i*W<=n*W:=Nat.mul_le_mul_right W (Nat.le_of_lt hi);have hiW:i*W<n*W:=Nat.mul_lt_mul_of_pos_right hi hW;have hmW:0<m*W:=Nat.mul_pos hm hW;have hbw:b<w.heap.size:=block_lt_of_cell (hcs 0 _ (List.getElem?_eq_getElem (by rw[hcl]; exact Nat.mul_pos (by omega) hW)))
 have hvw:vb<w.heap.size:=block_lt_of_cell (hvs 0 _ (List.getElem?_eq_getElem (by rw[hvl]; exact Nat.mul_pos hm hW)))
 have hkk:(n:Int)+(m:Int) - (i:Int)=((n+m - i:Nat):Int):=by omega
 have hik:i+(n+m - i)=n+m:=by omega
 have hold:(Builtin.firstCells i0.size i (.slice (some ⟨b,off,none⟩) i c)).run P w.drew=.ok (cs.take (i*W)).toArray w.drew:=by
  rw[hzs];exact run_firstCells_some w.drew W i ⟨b,off,none⟩ i c (cs.take (i*W)) (by rw[al0]; omega) (λ j v hj=>by
   rw[Addr.add_lit];rw[alR] at hj;split at hj
   ·exact hcs j v hj
   ·cases hj)
 have hrz:∀ ty,(Builtin.append_ #[(ρ.t 24),(ρ.t 3)] ty #[.slice (some ⟨b,off,none⟩) i c,.int .i64 ((n:Int)+(m:Int) - (i:Int))]).run P w=
   .ok (.slice (some ⟨w.heap.size,0,none⟩) (n+m) (grownCap w (n+m) c (ρ.t 9))) (w.drew.alloc (.cells ((cs.take (i*W)).toArray++Builtin.zeroCells zc (n+m - i)++Builtin.zeroCells zc (grownCap w (n+m) c (ρ.t 9) - (n+m))) (ρ.t 9))):=λ ty=>by
  have h:=Lib.run_append_grow_zeros w (ρ.t 24) (ρ.t 3) ty (ρ.t 9) i0 _ .i64 .i64 L.t24 L.t3 hi0 hz0 (some ⟨b,off,none⟩) i c (cs.take (i*W)) hold (n+m - i) (by omega) (by omega) (by omega) (by omega) (by rw[hzb]; exact Nat.le_trans (Nat.mul_le_mul_right B (Nat.sub_le _ _)) (by omega)) (by rw[hzb,hik]; exact growslice_fits acm acy)
  rw[hik,hzq] at h;rw[hkk];exact h
 obtain⟨G,hG⟩:∃ G,G=grownCap w (n+m) c (ρ.t 9):=⟨_,rfl⟩
 obtain⟨ROW,aer⟩:∃ ROW:Array Value,ROW=(cs.take (i*W)).toArray++Builtin.zeroCells zc (n+m - i)++Builtin.zeroCells zc (G - (n+m)):=⟨_,rfl⟩
 rw[←hG] at hrz ⊢;rw[←aer] at hrz ⊢;have hRl:(n+m)*W<=ROW.size:=by
  have e1:(n+m)*W=i*W+(n+m - i)*W:=by rw[←alu]; congr 1; omega
  rw[aer,e1];simp only[alK,cx,ald,al0,hcl,hzc];have:min (i*W) (n*W)=i*W:=Nat.min_eq_left afQ;omega
 obtain⟨W1,hW1⟩:∃ W1,W1=w.drew.alloc (.cells ROW (ρ.t 9)):=⟨_,rfl⟩
 rw[←hW1] at hrz;have hN:∀ j,j<(n+m)*W->(W1.cell? ⟨w.heap.size,j,none⟩).isSome=true:=λ j hj=>by
  rw[hW1,World.cell?_alloc_at (w:=w.drew) ROW _ w.heap.size j rfl,aln (by omega)]; rfl
 have hNf:∀ j,W1.frozen? ⟨w.heap.size,j,none⟩=false:=λ j=>by rw[hW1]; exact World.frozen?_alloc_at (w:=w.drew) ROW _ w.heap.size j rfl
 have hOb:∀ j v,w.cell? ⟨b,j,none⟩=some v->W1.cell? ⟨b,j,none⟩=some v:=λ j v h=>by rw[hW1,World.cell?_alloc_past (w:=w.drew) _ b j hbw]; exact h
 have hOv:∀ j v,w.cell? ⟨vb,j,none⟩=some v->W1.cell? ⟨vb,j,none⟩=some v:=λ j v h=>by rw[hW1,World.cell?_alloc_past (w:=w.drew) _ vb j hvw]; exact h
 have aiy:∀ (W0:World),(∀ x,W0.cell? x=W1.cell? x)->(∀ x,W0.frozen? x=W1.frozen? x)->∀ ty dc,(Builtin.copy_ #[(ρ.t 24),(ρ.t 24)] ty #[.slice (some ⟨w.heap.size,i*W,none⟩) (n+m - i) dc,.slice (some ⟨vb,voff,none⟩) m vc]).run P W0=.ok (goInt ((m:Nat):Int)) (W0.setCells w.heap.size (i*W) vs):=λ W0 hWc hWf ty dc=>
  fR W0 _ _ ty (ρ.t 9) w.heap.size (i*W) (n+m - i) dc ⟨vb,voff,none⟩ m vc vs m W L.t24 hsz (by simp only[Nat.min_def]; split<;>omega) hvl
   (λ j v hj=>by rw[Addr.add_lit,hWc]; exact hOv _ v (hvs j v hj))
   (λ j hj=>by rw[hWc]; exact hN _ (by omega)) (λ j hj=>by rw[hWf]; exact hNf _) h1v
 have hGn:n+m<=G:=by rw[hG]; exact grownCap_ge w _ _ _
 have akk:G<=9223372036854775807:=by
  have:=grownCap_le_maxLen w (n+m) c (ρ.t 9) (by unfold maxLen; omega)
  rw[←hG] at this;unfold maxLen at this;omega
 have hGi:¬ (G=i):=by omega
 have akn:¬ (G=i+m):=by omega
 have hci:¬ (c=i):=by omega
 have hbN:b≠w.heap.size:=by omega
 have hdl:(cs.drop (i*W)).length=(n - i)*W:=by rw[al7,hcl,Nat.sub_mul]
 have agu:(cs.drop (i*W)).length=n*W - i*W:=by rw[al7,hcl]
 have ahh:∀ (W0:World),(∀ x,W0.cell? x=(W1.setCells w.heap.size (i*W) vs).cell? x)->(∀ x,W0.frozen? x=(W1.setCells w.heap.size (i*W) vs).frozen? x)->∀ ty dc sc,(Builtin.copy_ #[(ρ.t 24),(ρ.t 24)] ty #[.slice (some ⟨w.heap.size,(i+m)*W,none⟩) (n+m - (i+m)) dc,.slice (some ⟨b,off+i*W,none⟩) (n - i) sc]).run P W0=.ok (goInt ((n - i:Nat):Int)) (W0.setCells w.heap.size ((i+m)*W) (cs.drop (i*W))):=λ W0 hWc hWf ty dc sc=>
  fR W0 _ _ ty (ρ.t 9) w.heap.size ((i+m)*W) (n+m - (i+m)) dc ⟨b,off+i*W,none⟩ (n - i) sc (cs.drop (i*W)) (n - i) W L.t24 hsz (by simp only[Nat.min_def]; split<;>omega) hdl
   (λ j v hj=>by
    rw[Addr.add_lit,hWc,World.cell?_setCells_out _ _ _ _ _ (λ h _=>absurd h hbN),alM];exact hOb _ v (hcs (i*W+j) v (by rwa [List.getElem?_drop] at hj)))
   (λ j hj=>by rw[hWc]; exact isSome_setCells _ _ _ _ (λ t ht=>hN _ (by omega)) _ (hN _ (by omega)))
   (λ j hj=>by rw[hWf,World.frozen?_setCells]; exact hNf _) (λ v hv=>h1c v (List.mem_of_mem_drop hv))
 subst hW1;have hE1:∀ x,((w.alloc (.cells ROW (ρ.t 9))).drew).cell? x=(w.drew.alloc (.cells ROW (ρ.t 9))).cell? x:=λ x=>rfl;have hE2:∀ x,((w.alloc (.cells ROW (ρ.t 9))).drew).frozen? x=(w.drew.alloc (.cells ROW (ρ.t 9))).frozen? x:=λ x=>rfl;have hF1:∀ x,(((w.alloc (.cells ROW (ρ.t 9))).drew.setCells w.heap.size (i*W) vs).drew).cell? x=((w.drew.alloc (.cells ROW (ρ.t 9))).setCells w.heap.size (i*W) vs).cell? x:=λ x=>rfl;have hF2:∀ x,(((w.alloc (.cells ROW (ρ.t 9))).drew.setCells w.heap.size (i*W) vs).drew).frozen? x=((w.drew.alloc (.cells ROW (ρ.t 9))).setCells w.heap.size (i*W) vs).frozen? x:=λ x=>rfl;have hw1:IntKind.i64.wrap ((i:Int)+(m:Int))=(i:Int)+(m:Int):=by rw[IntKind.wrap_i64]; omega
 have hb1:(0:Int)<=(i:Int)+(m:Int):=by omega
 have hin:i<=n:=by omega
 have htn:((i:Int)+(m:Int)).toNat=i+m:=by omega
 have hb3:(i:Int)<=(n:Int):=by omega
 clear hkk hik hold aer hG hRl him hnm afQ hiW hmW hdl agu hzq;obtain⟨nm,f22⟩:=L.f22
 go_enter f22,d7 ρ nm
 go_wp2_with (first
  | (at_builtin; refine Lib.wpList_append_run _ rfl _ _ _ _ rfl _ _ rfl rfl _ _ (hrz _) ?_)
  | (at_builtin; refine wpList_copy_runI _ rfl _ _ (ρ.t 24) (ρ.t 24) rfl _ _ rfl rfl (aiy _ hE1 hE2 _ _) ?_)
  | (at_builtin; refine wpList_copy_runI _ rfl _ _ (ρ.t 24) (ρ.t 24) rfl _ _ rfl rfl (ahh _ (λ _=>rfl) (λ _=>rfl) _ _ _) ?_))
 go_region_law_o (refine step_copy_runI rfl _ _ (ρ.t 24) (ρ.t 24) rfl (.slice (some ⟨w.heap.size,(i+m)*W,none⟩) (n+m - (i+m)) (G - (i+m))) (.slice (some ⟨b,off+i*W,none⟩) (n - i) (c - i)) (by simp[Act.eval,Act.put]) (by simp[Act.eval,Act.put]) (ahh _ hF1 hF2 (ρ.t 3) (G - (i+m)) (c - i)) ?_)
 go_wp2
 go_ret
 exact⟨rfl,rfl⟩
end Ev
namespace Ev
open Go Go.RowKit Go.Shelf Go.Lib Go.Proofs
theorem qo [Tags] (b:Nat) (T:TypeId) (fr:Nat×Nat):∀ (vs:List Value) (o:Nat) (arr:Array Value) (w:World),w.heap[b]?=some (.cells arr T fr)->o+vs.length<=arr.size->
  w.setCells b o vs=yX w b (.cells (setAt arr.toList o vs).toArray T fr)
 | [],o,arr,w,h,_=>by
  simp only[World.setCells,rG,Array.toArray_toList];rw[pm h]
 | v::vs,o,arr,w,h,hl=>by
  have hlt:o<arr.size:=by simp at hl; omega
  rw[World.setCells,CB v h,qo b T fr vs (o+1) (arr.setIfInBounds o v) _ (Yj h) (by simp at hl ⊢; omega),pk]
  congr 3;rw[amk,rH _ _ _ _ (by simp at hl ⊢; omega)]
theorem gx {α:Type} (A B vs:List α) (k:Nat) (hk:k=A.length):setAt (A++B) k vs=A++(vs++B.drop vs.length):=by
 subst hk;simp[setAt]
theorem RdL.splitAt [Tags] {w:World} {e:Ty}:∀ {xs:List (den e)} {cs:List Value} {fp:List Nat} (n:Nat),RdL (Rd w e) xs cs fp->n<=xs.length->
  ∃ f1 f2,fp=f1++f2/\RdL (Rd w e) (xs.take n) (cs.take (n*e.size)) f1/\RdL (Rd w e) (xs.drop n) (cs.drop (n*e.size)) f2
 | xs,cs,fp,0,h,_=>⟨[],fp,by simp,by simp[RdL],by simpa using h⟩
 | [],_,fp,n+1,h,hn=>by simp at hn
 | x::xs,cs,fp,n+1,⟨c,rest,f1,f2,h1,h2,h3,h4⟩,hn=>by
  have l1:=h3.len;obtain⟨g1,g2,e1,e2,e3⟩:=RdL.splitAt n h4 (by simpa using hn);refine⟨f1++g1,g2,by rw[h2,e1]; simp,⟨c,rest.take (n*e.size),f1,g1,?_,rfl,h3,e2⟩,?_⟩
  ·rw[h1,alf,amo,am1 (by omega),l1];congr 2; omega
  ·have hd:c.drop (n*e.size+e.size)=[]:=List.drop_eq_nil_of_le (by omega);rw[h1,alf,amm,hd,l1,al9,Nat.add_sub_cancel];exact e3
theorem ec [Tags] {B:Nat} {X:List Nat} {w0 w:World} {b:Nat} {arr arr':Array Value} {T:TypeId} {fr:Nat×Nat} (h:KeepsW B X w0 w) (hb:w.heap[b]?=some (.cells arr T fr)) (hs:arr'.size=arr.size)
  (hx:b∈X∨B<=b):KeepsW B X w0 (yX w b (.cells arr' T fr)):=by
 refine⟨h.os,h.tape,h.output,by simpa[yX] using h.size,λ k hk hkx => ?_,λ k hk hu => ?_,λ k => ?_⟩
 ·have:k≠b:=by rintro rfl; rcases hx with hx|hx; exact hkx hx; omega
  rw[Z5 this]; exact h.block k hk hkx
 ·by_cases hkb:k=b
  ·subst hkb;intro a T' fr' h';rw[Yj hb] at h';cases h';have:=h.free k hk hu arr T fr hb;rw[hs]; exact this
  ·exact (h.free k hk hu).congr (Z5 hkb)
 ·by_cases hkb:k=b
  ·subst hkb;intro a T' fr' h0;obtain⟨a1,e1,e2⟩:=h.shape k a T' fr' h0;rw[hb] at e1;cases e1;exact⟨arr',Yj hb,by omega⟩
  ·exact (h.shape k).trans (Shape.same (Z5 hkb))
theorem SC [Tags] {w w':World} {T:Nat} {e:Ty} {xs vs:List (den e)} {i N cap:Nat} {arrR:Array Value} {Tt:TypeId} {fr:Nat×Nat} {P1 V P2 rest:List Value} {fa fb fv:List Nat}
  (hi:i<=xs.length) (hN:w'.heap[N]?=some (.cells arrR Tt fr)) (hf:frees fr arrR.size) (hs:arrR.size=cap*e.size) (hc:xs.length+vs.length<=cap) (hb:xs.length+vs.length<=140737488355328) (aeL:KZ T Tt/\(T=Tags.post->e.size=18))
  (hl:arrR.toList=P1++(V++(P2++rest))) (l1:P1.length=i*e.size) (l2:V.length=vs.length*e.size) (h1:RdL (Rd w e) (xs.take i) P1 fa) (h2:RdL (Rd w e) vs V fv) (h3:RdL (Rd w e) (xs.drop i) P2 fb)
  (hfr:∀ b∈fa++fv++fb,w'.heap[b]?=w.heap[b]?):
  RdO w' (.sl T e) (xs.take i++vs++xs.drop i) [.slice (some ⟨N,0,none⟩) (xs.length+vs.length) cap] [N] (fa++(fv++fb)):=by
 have ac1:(xs.take i++vs++xs.drop i).length=xs.length+vs.length:=by simp; omega
 refine .inr ⟨N,cap,arrR,Tt,fr,by rw[ac1],hN,hf,hs,by omega,by omega,?_,rfl,aeL⟩;rw[hl,alr];refine RdL.app (h1.frame λ b hb=>hfr b (by simp[hb])) (by rw[l1,al0,am5 hi]) ?_;refine RdL.app (h2.frame λ b hb=>hfr b (by simp[hb])) l2 ?_;exact RdL.more _ (h3.frame λ b hb=>hfr b (by simp[hb]))
theorem mW [Tags] (w:World) (X:List Nat) (arr:Array Value) (T:TypeId):KeepsW w.heap.size X w (w.drew.alloc (.cells arr T)):=by
 have h:=(vk w arr T).weak;exact⟨h.os,h.tape,h.output,h.size,λ k hk _=>h.block k hk (by simp),h.free,h.shape⟩
theorem SJ {B:Nat} {X:List Nat} {w0 w:World} (h:KeepsW B X w0 w):KeepsW B X w0 w.drew:=⟨h.os,h.tape,h.output,h.size,h.block,h.free,h.shape⟩
theorem lW (w:World) (arr:Array Value) (T:TypeId):(w.drew.alloc (.cells arr T)).heap[w.heap.size]?=some (.cells arr T (0,0)):=by
 show (w.heap.push _)[w.heap.size]?=_;simp
theorem CK {w:World} {b:Nat} {arr:Array Value} {T:TypeId} {fr:Nat×Nat} (h:w.heap[b]?=some (.cells arr T fr)):w.shape? b=some (T,arr.size):=by
 simp[World.shape?,h]
theorem RF {w:World} {b:Nat} {arr:Array Value} {T:TypeId} {fr:Nat×Nat} (h:w.heap[b]?=some (.cells arr T fr)) (hf:frees fr arr.size):w.frozen? ⟨b,arr.size,none⟩=false:=by
 obtain⟨lo,hi⟩:=fr;simp only[World.frozen?,h];exact hf _ (Nat.le_refl _)
theorem XN {α:Type} (l vs:List α) (j p:Nat) (h:p<=j) (hj:j<=l.length):(setAt l j vs).take p=l.take p:=by
 unfold setAt;rw[alr,alS (by simp; omega),List.take_take,am5 h]
theorem XL {α:Type} (l vs:List α) (j:Nat) (hj:j<=l.length):(setAt l j vs).drop j=vs++l.drop (j+vs.length):=by
 unfold setAt;rw[alr,amm,amn (by simp; omega)]
 simp[am5 hj]
variable {P:Program} {gl:Glob} {ρ:Ren} {zc:Array Value} {B:Nat}
def d6 {α:Type} (a:List α×Int×List α×Unit):Option (List α×Unit):=
 if 0<=a.2.1/\a.2.1<=(a.1.length:Int)/\0<a.2.2.1.length/\(a.1.length+a.2.2.1.length)<=1099511627776 then some (a.1.take a.2.1.toNat++a.2.2.1++a.1.drop a.2.1.toNat,()) else none
theorem CallsTo.mono {f:FuncId} {args:Array Value} {w:World} {R R':Value->World->Prop} (h:CallsTo P f args w R) (hi:∀ v w',R v w'->R' v w'):CallsTo P f args w R':=by
 unfold CallsTo at h ⊢;split at h
 ·exact hi _ _ h
 ·refine Calls.mono h ?_;intro e w'' hR;cases e with
  | returned v=>exact hi _ _ hR
  | panicked _=>exact hR.elim
  | outgrown=>exact hR.elim
 ·exact Rows.mono h λ v w' hR=>hi _ _ hR
 ·exact h.elim
theorem RdO.noSlF [Tags] {w:World} {T:Nat} {e:Ty} (hns:e.hasSl=false) {v:List (den e)} {cs:List Value} {xs fs:List Nat} (h:RdO w (.sl T e) v cs xs fs):fs=[]:=by
 rcases h with⟨_,_,_,h⟩|⟨b,cap,arr,T',fr,_,_,_,_,_,_,h,_⟩
 ·exact h
 ·exact h.noSl hns
theorem u7 [Tags] {T:Nat} {e:Ty} (L:JB P ρ e.size zc B) (he:∀ args w,(callFunc (ρ.f 22) args).run P w=.ok (.enter (ρ.f 22) args) w) (hz:zc.size=e.size) (hB:B<=128) (hTg:T≠Tags.post/\ρ.t 9≠Tags.post) {w:World} {xs vs:List (den e)} {i:Int} {cs cs3:List Value} {xs1 xs3 fs1 fs3:List Nat} {o:List (den e)×Unit}
  (h1:RdO w (.sl T e) xs cs xs1 fs1) (h3:RdO w (.sl T e) vs cs3 xs3 fs3) (hnd:(xs1++xs3).Nodup) (ad0:∀ b∈xs1++xs3,b∉fs1++fs3) (hf:d6 (α:=den e) (xs,i,vs,())=some o):
  CallsTo P (ρ.f 22) #[yl (.sl T e) cs,.int .i64 i,yl (.sl T e) cs3] w λ v w'=>KeepsW w.heap.size (xs1++xs3) w w'/\∃ N fa fb,fs1=fa++fb/\RdO w' (.sl T e) o.1 [v] [N] (fa++(fs3++fb))/\N∉fa++(fs3++fb)/\(w.heap.size<=N∨N∈xs1):=by
 simp only[d6] at hf;split at hf
 ·rename_i hc;cases hf;have c1:0<=i:=hc.1;have c2:i<=(xs.length:Int):=hc.2.1;have c3:0<vs.length:=hc.2.2.1;have c4:xs.length+vs.length<=1099511627776:=hc.2.2.2;clear hc;have hW:0<e.size:=Ty.size_pos e;obtain⟨k,rfl⟩:∃ k:Nat,i=(k:Int):=Int.eq_ofNat_of_zero_le c1;have hk:k<=xs.length:=Int.ofNat_le.1 c2;have ek:Int.toNat ((k:Nat):Int)=k:=rfl
-- what is put in
  rcases h3 with⟨rfl,_⟩|⟨vb,vcap,varr,vT,vfr,rfl,vh,vf,vs',vl,vl2,vr,rfl,_⟩
  ·simp at c3
  have hvs:∀ j v,(varr.toList.take (vs.length*e.size))[j]?=some v->w.cell? ⟨vb,0+j,none⟩=some v:=by
   intro j v hj;rw[Nl vh,alE];rw[alR] at hj;split at hj
   ·simpa using hj
   ·cases hj
  have vl:vs.length<=vcap:=vl;have vr:RdL (Rd w e) vs varr.toList fs3:=vr;have hle:vs.length*e.size<=varr.toList.length:=vr.le;have hvl:(varr.toList.take (vs.length*e.size)).length=vs.length*e.size:=by rw[al0,am5 hle]
  have hv1:=vr.one;have hvr:=vr.cut;have aiN:=vr.lt;have acy:(xs.length+vs.length)*B<=140737488355328:=by
   have:=Nat.mul_le_mul c4 hB;omega
  have acC:∀ {N cap:Nat} {w':World} {arrR:Array Value} {Tt:TypeId} {fr:Nat×Nat} {P1 P2 rest:List Value} {fa fb:List Nat},KZ T Tt->KeepsW w.heap.size (xs1++[vb]) w w'->w'.heap[N]?=some (.cells arrR Tt fr)->frees fr arrR.size->arrR.size=cap*e.size->
    xs.length+vs.length<=cap->arrR.toList=P1++(varr.toList.take (vs.length*e.size)++(P2++rest))->P1.length=k*e.size->RdL (Rd w e) (xs.take k) P1 fa->RdL (Rd w e) (xs.drop k) P2 fb->fs1=fa++fb->(w.heap.size<=N∨N∈xs1)->
    KeepsW w.heap.size (xs1++[vb]) w w'/\∃ N' fa fb,fs1=fa++fb/\RdO w' (.sl T e) (xs.take k++vs++xs.drop k) [.slice (some ⟨N,0,none⟩) (xs.length+vs.length) cap] [N'] (fa++(fs3++fb))/\N'∉fa++(fs3++fb)/\(w.heap.size<=N'∨N'∈xs1):=by
   intro N cap w' arrR Tt fr P1 P2 rest fa fb htt hkeep hN hf' hs adO hl l1 q1 q3 hfs hNx;subst hfs;have hb1:∀ b∈fa++fs3++fb,b<w.heap.size/\b∉xs1++[vb]:=by
    intro b hb;refine⟨?_,?_⟩
    ·simp only[al5] at hb;rcases hb with (hb|hb)|hb
     ·exact q1.lt b hb
     ·exact aiN b hb
     ·exact q3.lt b hb
    ·intro hx;have:=ad0 b (by simpa using hx);simp only[al5] at hb;apply this;rcases hb with (hb|hb)|hb<;>simp[hb]
   have hO:=SC (T:=T) hk hN hf' hs adO (by omega) ⟨htt,λ k=>absurd k hTg.1⟩ hl l1 hvl q1 hvr q3 (λ b hb=>hkeep.block b (hb1 b hb).1 (hb1 b hb).2);have hNf:N∉fa++(fs3++fb):=by
    intro hm;have:=hb1 N (by simpa[alr] using hm);rcases hNx with h|h
    ·omega
    ·exact this.2 (by simp[h])
   exact⟨hkeep,N,fa,fb,rfl,hO,hNf,hNx⟩
  have h1':(xs=[]/\cs=[.slice none 0 0]/\xs1=[]/\fs1=[])∨∃ b cap arr aT fr,cs=[.slice (some ⟨b,0,none⟩) xs.length cap]/\w.heap[b]?=some (.cells arr aT fr)/\frees fr arr.size/\arr.size=cap*e.size/\
   xs.length<=cap/\xs.length<=140737488355328/\RdL (Rd w e) xs arr.toList fs1/\xs1=[b]/\KZ T aT/\(T=Tags.post->e.size=18):=h1
  rcases h1' with⟨rfl,rfl,rfl,rfl⟩|⟨b,cap,arr,aT,fr,rfl,hb,hfr,hs,hl,hl2,hr,rfl,ai4,_⟩
  ·have hk0:k=0:=by simpa using hk
   subst hk0;have ae2:=u9 L none 0 0 vb 0 vs.length vcap [] _ w c3 (Nat.le_refl _) (by omega) (by simpa using c4) (by simpa using acy) (by simp) hvl (λ _=>rfl) (λ a h=>by cases h) hvs hv1;refine Kc he ae2 ?_;rintro e' w' ⟨rfl,rfl⟩;refine⟨_,rfl,?_⟩;have hG:vs.length<=grownCap w (0+vs.length) 0 (ρ.t 9):=by have:=grownCap_ge w (0+vs.length) 0 (ρ.t 9); omega
   refine acC (P1:=[]) (P2:=[]) (rest:=(Builtin.zeroCells zc (grownCap w (0+vs.length) 0 (ρ.t 9) - (0+vs.length))).toList) (fa:=[]) (fb:=[]) ⟨λ k=>absurd k hTg.2,λ k=>absurd k hTg.1⟩ (mW w _ _ _) (lW w _ _) (JJ _) ?_ (by simpa using hG) (by simp) (by simp) rfl rfl rfl (.inl (Nat.le_refl _));rw[alK,cx,hz,ald,al9,hvl,←alu];congr 1;omega
  ·have hnW:xs.length*e.size<=arr.toList.length:=by
    have:=Nat.mul_le_mul_right e.size hl;simp only[alw]; omega
   have hkW:k*e.size<=xs.length*e.size:=Nat.mul_le_mul_right e.size hk;have ada:(xs.length - k)*e.size=xs.length*e.size - k*e.size:=Nat.sub_mul _ _ _;obtain⟨fa,fb,afM,q1,q3'⟩:=RdL.splitAt k hr hk;have q3:=q3'.cut;rw[al7] at q3;obtain⟨P1,hP1⟩:∃ P1,P1=arr.toList.take (k*e.size):=⟨_,rfl⟩
   obtain⟨P2,hP2⟩:∃ P2,P2=(arr.toList.drop (k*e.size)).take ((xs.length - k)*e.size):=⟨_,rfl⟩
   obtain⟨R,hR⟩:∃ R,R=arr.toList.drop (xs.length*e.size):=⟨_,rfl⟩
   have l1:P1.length=k*e.size:=by rw[hP1,al0]; omega
   have l2:P2.length=(xs.length - k)*e.size:=by rw[hP2,al0,al7]; omega
   have ag5:arr.toList=P1++(P2++R):=by
    have h0:R=(arr.toList.drop (k*e.size)).drop ((xs.length - k)*e.size):=by
     rw[hR,alD]; congr 1; omega
    rw[h0,hP2,amf,hP1,amf]
   have aiA:(arr.toList.take (xs.length*e.size)).take (k*e.size)=P1:=by rw[List.take_take,am5 hkW,hP1]
   have ahi:(arr.toList.take (xs.length*e.size)).drop (k*e.size)=P2:=by rw[List.drop_take,hP2,ada]
   rw[←hP1] at q1;rw[←hP2] at q3;have hcl:(arr.toList.take (xs.length*e.size)).length=xs.length*e.size:=by rw[al0,am5 hnW]
   have hcs:∀ j v,(arr.toList.take (xs.length*e.size))[j]?=some v->w.cell? ⟨b,0+j,none⟩=some v:=by
    intro j v hj;rw[Nl hb,alE];rw[alR] at hj;split at hj
    ·simpa using hj
    ·cases hj
   have h1c:=hr.one;have ahd:arr.toList.length=arr.size:=Array.length_toList;have hmW:(xs.length+vs.length)*e.size=xs.length*e.size+vs.length*e.size:=Nat.add_mul _ _ _;have hkm:(k+vs.length)*e.size=k*e.size+vs.length*e.size:=Nat.add_mul _ _ _;have hne:vb≠b:=by
    intro h;subst h;simp at hnd
   by_cases acm:xs.length+vs.length<=cap
   ·have akq:(xs.length+vs.length)*e.size<=arr.size:=by rw[hs]; exact Nat.mul_le_mul_right _ acm
    have hsp:∀ j,j<(xs.length+vs.length)*e.size->(w.cell? ⟨b,0+j,none⟩).isSome=true:=by
     intro j hj;rw[Nl hb,aln (by omega)]; rfl
    have hfz:∀ j,j<(xs.length+vs.length)*e.size->w.frozen? ⟨b,0+j,none⟩=false:=λ j hj=>mG hb hfr (by omega);by_cases hkn:k=xs.length
    ·subst hkn;have ae2:=SA L b 0 xs.length cap vb 0 vs.length vcap _ w c3 acm c4 hvl (λ j hj=>by have:=hsp (xs.length*e.size+j) (by omega); rwa [Nat.zero_add] at this ⊢) (λ j hj=>by have:=hfz (xs.length*e.size+j) (by omega); rwa [Nat.zero_add] at this ⊢) hvs hv1
     refine Kc he ae2 ?_;rintro e' w' ⟨rfl,rfl⟩;refine⟨_,rfl,?_⟩;have afI:P2=[]:=List.length_eq_zero_iff.1 (by rw[l2]; simp)
     rw[Nat.zero_add,qo b aT fr _ _ arr w hb (by rw[hvl]; omega)]
     have hsa:=gx P1 (P2++R) (varr.toList.take (vs.length*e.size)) (xs.length*e.size) l1.symm;rw[←ag5,afI,al9] at hsa;have hsz:=Y0 (l:=arr.toList) (k:=xs.length*e.size) (vs:=varr.toList.take (vs.length*e.size)) (by rw[hvl]; omega)
     refine acC (P1:=P1) (P2:=P2) (fa:=fa) (fb:=fb) (rest:=R.drop (varr.toList.take (vs.length*e.size)).length) ai4 (ec (KeepsW.refl _ _ _) hb (by simpa using hsz) (.inl (by simp))) (Yj hb) (by rw[ald,hsz]; simpa using hfr) (by rw[ald,hsz]; simpa using hs) acm
      (by rw[afI,al9]; exact hsa) l1 q1 q3 afM (.inr (by simp))
    ·have agF:k<xs.length:=by omega
     have ae2:=SD L hW b 0 xs.length cap k vb 0 vs.length vcap _ _ w agF c3 acm c4 hne hcl hvl hcs hsp hfz hvs h1c hv1 vT aT varr.size arr.size (CK vh) (CK hb) (by have:=Nat.mul_pos (show 0<xs.length+vs.length by omega) hW; omega)
      (mG vh vf (by have:=Nat.mul_pos c3 hW; simp at hle; omega)) (RF vh vf)
     refine Kc he ae2 ?_;rintro e' w' ⟨rfl,rfl⟩;refine⟨_,rfl,?_⟩;rw[ahi,alE,alE];have ail:P2.length=xs.length*e.size - k*e.size:=by rw[l2,ada]
     have hb':w.drew.heap[b]?=some (.cells arr aT fr):=hb;rw[qo b aT fr _ _ arr w.drew hb' (by omega)];have hsz:=Y0 (l:=arr.toList) (k:=(k+vs.length)*e.size) (vs:=P2) (by omega);rw[qo b aT fr _ _ _ _ (Yj hb') (by rw[ald,hsz,hvl]; omega),pk]
     have hQ:(setAt arr.toList ((k+vs.length)*e.size) P2)=P1++(setAt arr.toList ((k+vs.length)*e.size) P2).drop (k*e.size):=by
      have:=XN arr.toList P2 ((k+vs.length)*e.size) (k*e.size) (by omega) (by omega);rw[hP1,←this,amf]
     have hD:((setAt arr.toList ((k+vs.length)*e.size) P2).drop (k*e.size)).drop (vs.length*e.size)=P2++arr.toList.drop ((k+vs.length)*e.size+P2.length):=by
      rw[alD,←hkm];exact XL _ _ _ (by omega)
     have hsa:=gx P1 ((setAt arr.toList ((k+vs.length)*e.size) P2).drop (k*e.size)) (varr.toList.take (vs.length*e.size)) (k*e.size) l1.symm;rw[hvl,hD,←hQ] at hsa;have adg:=Y0 (l:=setAt arr.toList ((k+vs.length)*e.size) P2) (k:=k*e.size) (vs:=varr.toList.take (vs.length*e.size)) (by rw[hvl,hsz]; omega)
     rw[hsz] at adg;have hkw:KeepsW w.heap.size ([b]++[vb]) w w.drew:=⟨rfl,rfl,rfl,Nat.le_refl _,λ _ _ _=>rfl,λ _ _ h=>h,Shape.refl w⟩
     refine acC (P1:=P1) (P2:=P2) (fa:=fa) (fb:=fb) (rest:=arr.toList.drop ((k+vs.length)*e.size+P2.length)) ai4 (ec hkw hb' (by simpa using adg) (.inl (by simp))) (Yj hb') (by rw[ald]; simpa[adg] using hfr) (by rw[ald]; simpa[adg] using hs) acm
      (by simpa using hsa) l1 q1 q3 afM (.inr (by simp))
   ·have hnr:cap<xs.length+vs.length:=by omega
    have hGe:=grownCap_ge w (xs.length+vs.length) cap (ρ.t 9);by_cases hkn:k=xs.length
    ·subst hkn;have ae2:=u9 L (some ⟨b,0,none⟩) xs.length cap vb 0 vs.length vcap _ _ w c3 hl hnr c4 acy hcl hvl (λ h=>by cases h) (λ a h j v hj=>by cases h; rw[LT]; exact hcs j v hj) hvs hv1
     refine Kc he ae2 ?_;rintro e' w' ⟨rfl,rfl⟩;refine⟨_,rfl,?_⟩;have afI:P2=[]:=List.length_eq_zero_iff.1 (by rw[l2]; simp)
     have aik:arr.toList.take (xs.length*e.size)=P1:=hP1.symm;refine acC (P1:=P1) (P2:=P2) (fa:=fa) (fb:=fb) (rest:=(Builtin.zeroCells zc (grownCap w (xs.length+vs.length) cap (ρ.t 9) - (xs.length+vs.length))).toList) ⟨λ k=>absurd k hTg.2,λ k=>absurd k hTg.1⟩ (mW w _ _ _) (lW w _ _) (JJ _) ?_ hGe (by rw[aik,afI]; simp) l1 q1 q3 afM (.inl (Nat.le_refl _))
     rw[alK,cx,hz,ald,akR,hcl,hvl,←alu,←alu];congr 1;omega
    ·have agF:k<xs.length:=by omega
     have ae2:=SB L hW b 0 xs.length cap k vb 0 vs.length vcap _ _ w agF c3 hl hnr c4 acy hcl hvl hz hcs hvs h1c hv1;refine Kc he ae2 ?_;rintro e' w' ⟨rfl,rfl⟩;refine⟨_,rfl,?_⟩;rw[aiA,ahi];obtain⟨G,hG⟩:∃ G,G=grownCap w (xs.length+vs.length) cap (ρ.t 9):=⟨_,rfl⟩
     rw[←hG] at hGe ⊢;obtain⟨Z,hZ⟩:∃ Z,Z=(Builtin.zeroCells zc (xs.length+vs.length - k)).toList++(Builtin.zeroCells zc (G - (xs.length+vs.length))).toList:=⟨_,rfl⟩
     obtain⟨ROW,aer⟩:∃ ROW,ROW=P1.toArray++Builtin.zeroCells zc (xs.length+vs.length - k)++Builtin.zeroCells zc (G - (xs.length+vs.length)):=⟨_,rfl⟩
     rw[←aer];have hRl:ROW.toList=P1++Z:=by rw[aer,hZ]; simp
     have hRs:ROW.size=G*e.size:=by
      rw[aer,alK,alK,cx,cx,hz,ald,l1,←alu,←alu];congr 1;omega
     have agh:ROW.toList.length=G*e.size:=by rw[←hRs]; exact Array.length_toList
     have hGW:(xs.length+vs.length)*e.size<=G*e.size:=Nat.mul_le_mul_right _ hGe;have ail:P2.length=xs.length*e.size - k*e.size:=by rw[l2,ada]
     have hk0:KeepsW w.heap.size ([b]++[vb]) w (w.alloc (.cells ROW (ρ.t 9))).drew:=mW w _ _ _;have hg0:(w.alloc (.cells ROW (ρ.t 9))).drew.heap[w.heap.size]?=some (.cells ROW (ρ.t 9) (0,0)):=lW w _ _;rw[qo w.heap.size (ρ.t 9) (0,0) _ _ ROW _ hg0 (by rw[hvl,←alw,agh]; omega)]
     have hsz:=Y0 (l:=ROW.toList) (k:=k*e.size) (vs:=varr.toList.take (vs.length*e.size)) (by rw[hvl,agh]; omega)
     rw[agh] at hsz;have hk1:=SJ (ec (arr':=(setAt ROW.toList (k*e.size) (varr.toList.take (vs.length*e.size))).toArray) hk0 hg0 (by rw[ald,hsz,hRs]) (.inr (Nat.le_refl _)));have hg1:(yX (w.alloc (.cells ROW (ρ.t 9))).drew w.heap.size (.cells (setAt ROW.toList (k*e.size) (varr.toList.take (vs.length*e.size))).toArray (ρ.t 9) (0,0))).drew.heap[w.heap.size]?=some (.cells (setAt ROW.toList (k*e.size) (varr.toList.take (vs.length*e.size))).toArray (ρ.t 9) (0,0)):=Yj hg0;rw[qo w.heap.size (ρ.t 9) (0,0) _ _ _ _ hg1 (by rw[ald,hsz]; omega)]
     have adg:=Y0 (l:=setAt ROW.toList (k*e.size) (varr.toList.take (vs.length*e.size))) (k:=(k+vs.length)*e.size) (vs:=P2) (by rw[hsz]; omega)
     rw[hsz] at adg;have hA1:=gx P1 Z (varr.toList.take (vs.length*e.size)) (k*e.size) l1.symm;rw[←hRl,←alr] at hA1;have hA2:=gx (P1++varr.toList.take (vs.length*e.size)) (Z.drop (varr.toList.take (vs.length*e.size)).length) P2 ((k+vs.length)*e.size) (by rw[akR,l1,hvl,hkm]);rw[←hA1,alr] at hA2;refine acC (P1:=P1) (P2:=P2) (fa:=fa) (fb:=fb) (rest:=(Z.drop (varr.toList.take (vs.length*e.size)).length).drop P2.length) ⟨λ k=>absurd k hTg.2,λ k=>absurd k hTg.1⟩ (ec hk1 hg1 (by rw[ald,ald,adg,hsz]) (.inr (Nat.le_refl _))) (Yj hg1) (JJ _) (by rw[ald,adg]) hGe hA2 l1 q1 q3 afM (.inl (Nat.le_refl _))
 ·cases hf
theorem CZ [Tags] {T:Nat} {e:Ty} {rk:RK} (L:JB P ρ e.size zc B) (he:∀ args w,(callFunc (ρ.f 22) args).run P w=.ok (.enter (ρ.f 22) args) w) (hz:zc.size=e.size) (hB:B<=128) (hTg:T≠Tags.post/\ρ.t 9≠Tags.post) (hrk:rk=.own∨(rk=.uniq/\e.hasSl=false)):
  Sound P gl (ρ.f 22) ⟨[(.own,.sl T e),(.rd,.i64),(.own,.sl T e)],[.sl T e],rk,λ a=>d6 (α:=den e) a⟩ where
 run:=by
  rintro w ⟨xs,i,vs,⟨⟩⟩ vals r rp rc xo xp outs ⟨cs,vs',xs1,fs1,r1,xo1,rfl,h1,rfl,rfl,cs2,vs2,fp2,r2,rfl,h2,rfl,cs3,vs3,xs3,fs3,r3,xo3,rfl,h3,rfl,rfl,rfl,rfl,rfl,rfl,rfl,rfl⟩ hnd ad0 hG - hf;obtain⟨rfl,rfl,-⟩:=h2;refine (u7 L he hz hB hTg h1 h3 (by simpa using hnd) (λ b hb=>by simpa using (ad0 b (by simpa using hb)).1) hf).mono ?_;rintro v w' ⟨hkeep,N,fa,fb,rfl,hO,hNf,hNx⟩;refine⟨by simpa using hkeep,[],rfl,[[v]],[N],fa++(fs3++fb),⟨_,[],[N],[],fa++(fs3++fb),[],rfl,rfl,by simp,?_,rfl,rfl,rfl⟩,rfl,?_,?_⟩
  ·rcases hrk with rfl|⟨rfl,_⟩<;>exact hO
  ·rcases hrk with rfl|⟨rfl,hns⟩
   ·refine⟨by simp,λ b hb=>⟨?_,by simp⟩,λ b hb hb' => ?_,λ b hb => ?_⟩
    ·simp at hb; subst hb
     rcases hNx with h|h
     ·exact .inl h
     ·exact .inr (by simp[h])
    ·simp at hb; subst hb; exact hNf hb'
    ·refine .inr (.inl ?_);simp only[al5] at hb;rcases hb with hb|hb|hb<;>simp[hb]
   ·have e1:=RdO.noSlF hns hO;rw[e1];refine⟨by simp,λ b hb=>⟨?_,by simp⟩⟩;simp at hb; subst hb
    rcases hNx with h|h
    ·exact .inl h
    ·exact .inr (by simp[h])
  ·rcases hrk with rfl|⟨rfl,hns⟩
   ·intro h; cases h
   ·intro _ b hb;rw[RdO.noSlF hns hO] at hb;simp at hb
theorem XV [Tags] {T:Nat} {e:Ty} {rk:RK} (L:JB P ρ e.size zc B) (he:∀ args w,(callFunc (ρ.f 22) args).run P w=.ok (.enter (ρ.f 22) args) w) (hz:zc.size=e.size) (hB:B<=128) (hTg:T≠Tags.post/\ρ.t 9≠Tags.post):
  KX P gl (ρ.f 22) ⟨[(.own,.sl T e),(.rd,.i64),(.own,.sl T e)],[.sl T e],rk,λ a=>d6 (α:=den e) a⟩ where
 run:=by
  rintro w ⟨xs,i,vs,⟨⟩⟩ vals r xo outs ⟨cs,vs',xs1,fs1,r1,xo1,rfl,h1,rfl,rfl,cs2,vs2,fp2,r2,rfl,h2,rfl,cs3,vs3,xs3,fs3,r3,xo3,rfl,h3,rfl,rfl,rfl,rfl,-,-,rfl,-⟩ hnd ajn ad0 hG - hf;obtain⟨rfl,rfl,-⟩:=h2;refine (u7 L he hz hB hTg h1 h3 (by simpa using hnd) (λ b hb=>by simpa using ad0 b (by simpa using hb)) hf).mono ?_;rintro v w' ⟨hkeep,N,fa,fb,rfl,hO,hNf,hNx⟩;have ahU:(fa++(fs3++fb)).Perm ((fa++fb)++fs3):=by
   rw[alr];exact List.Perm.append_left fa List.perm_append_comm
  have ajm:(fa++(fs3++fb)).Nodup:=ahU.nodup_iff.2 (by simpa using ajn);refine⟨by simpa using hkeep,[[v]],[N],fa++(fs3++fb),⟨_,[],[N],[],fa++(fs3++fb),[],rfl,rfl,by simp,hO,rfl,rfl,rfl⟩,rfl,?_,?_,?_⟩
  ·exact List.nodup_cons.2 ⟨hNf,ajm⟩
  ·intro b hb;simp at hb; subst hb
   rcases hNx with h|h
   ·exact .inl h
   ·exact .inr (by simp[h])
  ·intro b hb;have:=ahU.mem_iff.1 hb;simpa using this
end Ev
