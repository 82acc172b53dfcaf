/- The evaluator of the own library, part 8: contracts of functions of Go's library, out of the kit's. Conditions: none of its own. -/
import Derived.Test.YtcjibmnpaojglaaGreatDoorLibG
import Derived.Lib.ItoaNum
import Derived.Lib.Split
import Derived.Lib.Join
import Derived.Lib.LastIndexByte
import Derived.Lib.SplitLaws
import Derived.Shelf.Abstract
import Derived.WalkKit
import Derived.Laws.Rows
import Derived.Below
import Derived.Deep.Draws
import Derived.Sort.Grow
set_option linter.unusedSimpArgs false
set_option linter.unusedVariables false
namespace G448
open Ev
def strconv_Itoa (a:Int×Unit):Option (List UInt8×Unit):=some (Go.Lib.itoa a.1,())
def strings_Cut (a:List UInt8×List UInt8×Unit):Option (List UInt8×List UInt8×Bool×Unit):=
 if a.1.length<4294967281 then some ((Go.Lib.cut a.1 a.2.1).1,(Go.Lib.cut a.1 a.2.1).2.1,(Go.Lib.cut a.1 a.2.1).2.2,()) else none
def strings_Split (a:List UInt8×List UInt8×Unit):Option (List (List UInt8)×Unit):=
 if a.1.length<4294967281∧1≤a.2.1.length then some (Go.Lib.split a.1 a.2.1,()) else none
def strings_Join (a:List (List UInt8)×List UInt8×Unit):Option (List UInt8×Unit):=
 if (Go.Lib.join a.1 a.2.1).length≤140737488355328 then some (Go.Lib.join a.1 a.2.1,()) else none
def strings_LastIndexByte (a:List UInt8×UInt8×Unit):Option (Int×Unit):=
 if a.1.length<4611686018427387904 then some (Go.Lib.lastIndexByte ⟨a.1.toArray⟩ a.2.1.toNat,()) else none
def insAt {α:Type} (a:List α×Int×List α×Unit):Option (List α×Unit):=
 if 0≤a.2.1∧a.2.1≤(a.1.length:Int)∧0<a.2.2.1.length∧(a.1.length+a.2.2.1.length)≤1099511627776 then some (a.1.take a.2.1.toNat++a.2.2.1++a.1.drop a.2.1.toNat,()) else none
def slices_Insert_int (a:List Int×Int×List Int×Unit):Option (List Int×Unit):=insAt a
def slices_Insert_impl_Tx (a:List (Int×Int×Int×Int)×Int×List (Int×Int×Int×Int)×Unit):Option (List (Int×Int×Int×Int)×Unit):=insAt a
def slices_Insert_impl_Part (a:List (Int×List UInt8×List Int)×Int×List (Int×List UInt8×List Int)×Unit):Option (List (Int×List UInt8×List Int)×Unit):=insAt a
def delAt {α:Type} (a:List α×Int×Int×Unit):Option (List α×Unit):=
 if 0≤a.2.1∧a.2.1≤a.2.2.1∧a.2.2.1≤(a.1.length:Int) then some (a.1.take a.2.1.toNat++a.1.drop a.2.2.1.toNat,()) else none
def slices_Delete_impl_Wire (a:List (Int×List UInt8)×Int×Int×Unit):Option (List (Int×List UInt8)×Unit):=delAt a
end G448
namespace Ev
open Go Go.RowKit Go.Sort
variable {P:Program} {gl:Glob} {f:FuncId}
theorem callsTo_of_calls {args:Array Value} {w:World} {Q:Ending→World→Prop} {R:Value→World→Prop} (he : ∀ args w,(callFunc f args).run P w = .ok (.enter f args) w)
  (h:Calls P f args w Q) (hr : ∀ e w',Q e w' → ∃ v,e = .returned v∧R v w'):CallsTo P f args w R:=by
 unfold CallsTo
 rw[he]
 refine Calls.mono h fun e w'' hq => ?_
 obtain⟨v,rfl,hv⟩:=hr _ _ hq
 exact hv
theorem keeps_alloc (w:World) (arr:Array Value) (T:TypeId):Keeps w.heap.size [] w (w.alloc (.cells arr T)):=by
 have hold : ∀ k,k<w.heap.size→(w.alloc (.cells arr T)).heap[k]?=w.heap[k]?:=fun k hk=>by
  show (w.heap.push _)[k]?=_
  rw[Array.getElem?_push]; rw[if_neg (by omega)]
 have hnew:(w.alloc (.cells arr T)).heap[w.heap.size]?=some (.cells arr T):=by
  show (w.heap.push _)[w.heap.size]?=_
  simp
 refine⟨rfl,rfl,rfl,?_,fun k hk _=>hold k hk,?_,?_⟩
 ·show w.heap.size≤(w.heap.push _).size
  simp
 ·intro k hu a T' fr' h'
  by_cases hk:k<w.heap.size
  ·rw[hold k hk] at h'; exact hu a T' fr' h'
  ·by_cases hk2:k=w.heap.size
   ·subst hk2
    rw[hnew] at h'
    cases h'
    intro o ho
    simp
   ·have:(w.alloc (.cells arr T)).heap[k]?=none:=by
     apply Array.getElem?_eq_none
     show (w.heap.push _).size≤k
     simp; omega
    rw[this] at h'; cases h'
 ·intro k
  intro a T' fr' h'
  have hk:k<w.heap.size:=by
   rcases Nat.lt_or_ge k w.heap.size with h|h
   ·exact h
   ·rw[Array.getElem?_eq_none h] at h'; cases h'
  exact⟨a,(hold k hk).trans h',rfl⟩
theorem rdL_strs (w:World) : ∀ (l:List ByteArray),(∀ x∈l,x.size≤140737488355328)→RdL (Rd w .str) (l.map (·.data.toList)) (l.map Value.string) []
 | [],_=>rfl
 | x::l,h=>⟨[.string x],l.map Value.string,[],[],rfl,rfl,⟨rfl,rfl,h x (by simp)⟩,rdL_strs w l fun y hy=>h y (by simp[hy])⟩
theorem splitB_size (sep:ByteArray) : ∀ (k:Nat) (s x:ByteArray),x∈Lib.splitB sep 0 k s→x.size≤s.size
 | 0,s,x,h=>by simp[Lib.splitB] at h; simp[h]
 | k+1,s,x,h=>by
  unfold Lib.splitB at h
  split at h
  ·simp at h; simp[h]
  ·rcases List.mem_cons.1 h with rfl|h
   ·simp; omega
   ·have:=splitB_size sep k _ x h
    simp at this; omega
theorem sound_split {T:TypeId} (he : ∀ args w,(callFunc f args).run P w = .ok (.enter f args) w) {g:Nat} (hg : ∀ w,gl.G w → ∃ m,w.cell? ⟨g,0,none⟩=some (.int .i64 m))
  (hc : ∀ (s sep:ByteArray) (m:Int) (w:World),s.size<4294967281→w.cell? ⟨g,0,none⟩=some (.int .i64 m)→1≤sep.size →
   Calls P f #[.string s,.string sep] w fun e w'=>e = .returned (.slice (some ⟨w.heap.size,0,none⟩) (Lib.countB s sep+1) (Lib.countB s sep+1)) ∧
    w'=w.alloc (.cells ((Lib.splitB sep 0 (Lib.countB s sep) s).map Value.string).toArray T)) :
  Sound P gl f ⟨[(.rd,.str),(.rd,.str)],[.sl T .str],.uniq,G448.strings_Split⟩ where
 run:=by
  rintro w ⟨l,sep,⟨⟩⟩ vals r rp rc xo xp outs ⟨cs,vs,fp,r',rfl,h1,rfl,cs2,vs2,fp2,r2,rfl,h2,rfl,rfl,rfl,rfl,rfl,rfl,rfl⟩ - - hG - hf
  obtain⟨rfl,rfl,hl⟩:=h1
  obtain⟨rfl,rfl,hs⟩:=h2
  simp only[G448.strings_Split] at hf
  split at hf
  ·rename_i hb
   cases hf
   obtain⟨m,hm⟩:=hg w hG
   have hlen:(Lib.splitB (ByteArray.mk ⟨sep⟩) 0 (Lib.countB (ByteArray.mk ⟨l⟩) (ByteArray.mk ⟨sep⟩)) (ByteArray.mk ⟨l⟩)).length=Lib.countB (ByteArray.mk ⟨l⟩) (ByteArray.mk ⟨sep⟩)+1:=
    Lib.splitB_all _ (by simpa[ByteArray.size] using hb.2) 0 _ _ rfl
   have hdat:=Lib.splitB_data (ByteArray.mk ⟨sep⟩) 0 (Lib.countB (ByteArray.mk ⟨l⟩) (ByteArray.mk ⟨sep⟩)) (ByteArray.mk ⟨l⟩)
   have hle:=Lib.countB_le (ByteArray.mk ⟨sep⟩) (by simpa[ByteArray.size] using hb.2) l.length (ByteArray.mk ⟨l⟩) (by simp[ByteArray.size])
   refine callsTo_of_calls he (hc (ByteArray.mk ⟨l⟩) (ByteArray.mk ⟨sep⟩) m w (by simpa[ByteArray.size] using hb.1) hm (by simpa[ByteArray.size] using hb.2)) ?_
   rintro e w' ⟨rfl,rfl⟩
   refine⟨_,rfl,(keeps_alloc w _ _).weak,[],rfl,?_⟩
   have hsplit:Lib.split l sep=(Lib.splitB (ByteArray.mk ⟨sep⟩) 0 (Lib.countB (ByteArray.mk ⟨l⟩) (ByteArray.mk ⟨sep⟩)) (ByteArray.mk ⟨l⟩)).map (·.data.toList):=hdat.symm
   have hsl:(Lib.split l sep).length=Lib.countB (ByteArray.mk ⟨l⟩) (ByteArray.mk ⟨sep⟩)+1:=by rw[hsplit,List.length_map,hlen]
   have hsz:(ByteArray.mk ⟨l⟩).size=l.length:=by simp[ByteArray.size]
   rw[hsz] at hle
   have hl':l.length≤140737488355328:=hl
   refine⟨[[.slice (some ⟨w.heap.size,0,none⟩) (Lib.split l sep).length (Lib.countB (ByteArray.mk ⟨l⟩) (ByteArray.mk ⟨sep⟩)+1)]],[w.heap.size],[],⟨_,[],[w.heap.size],[],[],[],rfl,rfl,rfl,Or.inr ⟨w.heap.size,_,
    ((Lib.splitB (ByteArray.mk ⟨sep⟩) 0 (Lib.countB (ByteArray.mk ⟨l⟩) (ByteArray.mk ⟨sep⟩)) (ByteArray.mk ⟨l⟩)).map Value.string).toArray,T,(0,0),rfl,?_,?_,?_,?_,?_,?_,rfl⟩,rfl,rfl,rfl⟩,?_,?_⟩
   ·show (w.heap.push _)[w.heap.size]?=_
    simp
   ·intro o ho; simp
   ·simp[hlen,Ty.size]
   ·show (Lib.split l sep).length≤_
    omega
   ·show (Lib.split l sep).length≤_
    have:=hb.1
    omega
   ·show RdL _ (Lib.split l sep) _ _
    rw[hsplit]
    exact rdL_strs _ _ fun x hx=>by
     have:=splitB_size _ _ _ _ hx
     rw[hsz] at this
     exact Nat.le_trans this hl'
   ·show _=Value.slice _ _ _
    rw[hsl]
   ·refine⟨⟨by simp,?_⟩,fun _ b hb=>by simp at hb⟩
    intro b hb
    simp at hb
    subst hb
    exact⟨Or.inl (Nat.le_refl _),by simp⟩
  ·cases hf
theorem sound_lastIndexByte (he : ∀ args w,(callFunc f args).run P w = .ok (.enter f args) w)
  (hc : ∀ (s:ByteArray) (c:Int) (hs:s.size<4611686018427387904) (w:World),Calls P f #[.string s,.int .u8 c] w fun e w'=>e = .returned (.int .i64 (Lib.lastIndexByte s c))∧w'=w) :
  Sound P gl f ⟨[(.rd,.str),(.rd,.u8)],[.i64],.uniq,G448.strings_LastIndexByte⟩ where
 run:=by
  rintro w ⟨l,c,⟨⟩⟩ vals r rp rc xo xp outs ⟨cs,vs,fp,r',rfl,h1,rfl,cs2,vs2,fp2,r2,rfl,h2,rfl,rfl,rfl,rfl,rfl,rfl,rfl⟩ - - hG - hf
  obtain⟨rfl,rfl,hl⟩:=h1
  obtain⟨rfl,rfl⟩:=h2
  simp only[G448.strings_LastIndexByte] at hf
  split at hf
  ·rename_i hb
   cases hf
   refine callsTo_of_calls he (hc (ByteArray.mk ⟨l⟩) _ (by simpa[ByteArray.size] using hb) w) ?_
   rintro e w' ⟨rfl,rfl⟩
   refine⟨_,rfl,KeepsW.refl _ _ _,[],rfl,[[_]],[],[],⟨_,[],[],[],[],[],rfl,rfl,rfl,⟨⟨rfl,rfl,?_⟩,rfl,rfl⟩,rfl,rfl,rfl⟩,rfl,?_,?_⟩
   ·have hsz:(ByteArray.mk ⟨l⟩).size=l.length:=by simp[ByteArray.size]
    have:=Lib.lastIndexByte_spec (ByteArray.mk ⟨l⟩) (c.toNat:Int)
    have hl':l.length≤140737488355328:=hl
    show -9223372036854775808≤Lib.lastIndexByte (ByteArray.mk ⟨l⟩) (c.toNat:Int)∧Lib.lastIndexByte (ByteArray.mk ⟨l⟩) (c.toNat:Int)≤9223372036854775807
    rcases this with⟨e,_⟩|⟨i,hi,e,_⟩
    ·rw[e]; decide
    ·rw[e]; omega
   ·exact⟨by simp,by simp⟩
   ·simp
  ·cases hf
theorem keepsW_of {w w':World} (h:Below w.heap.size w w'):KeepsW w.heap.size [] w w':=
 ⟨h.os,h.tape,h.output,h.size,fun k hk _=>h.block k hk,fun k hk hu arr T fr h'=>by rw[h.block k hk] at h'; exact hu arr T fr h',fun k arr T fr h0=>by
  have hlt:=lt_of_get h0
  exact⟨arr,by rw[h.block k hlt]; exact h0,rfl⟩⟩
theorem below_grow (w:World) (n:Nat) (os:Array Obj):Below w.heap.size w (grow (w.drewN n) os):=
 ⟨rfl,rfl,rfl,by show w.heap.size≤(w.heap++os).size; simp,fun k hk=>by
  show (w.heap++os)[k]?=_
  rw[Array.getElem?_append_left hk]⟩
theorem sound_cut (he : ∀ args w,(callFunc f args).run P w = .ok (.enter f args) w) {g:Nat} (hg : ∀ w,gl.G w → ∃ m,w.cell? ⟨g,0,none⟩=some (.int .i64 m))
  (hc : ∀ (s sep:ByteArray) (m:Int) (w:World),s.size<4294967281→w.cell? ⟨g,0,none⟩=some (.int .i64 m) →
   Calls P f #[.string s,.string sep] w fun e w'=>e = .returned (.tuple #[.string ⟨(Lib.cut s.data.toList sep.data.toList).1.toArray⟩,.string ⟨(Lib.cut s.data.toList sep.data.toList).2.1.toArray⟩,.bool (Lib.cut s.data.toList sep.data.toList).2.2]) ∧
    ∃ n,w'=w.drewN n) :
  Sound P gl f ⟨[(.rd,.str),(.rd,.str)],[.str,.str,.bool],.uniq,G448.strings_Cut⟩ where
 run:=by
  rintro w ⟨l,sep,⟨⟩⟩ vals r rp rc xo xp outs ⟨cs,vs,fp,r',rfl,h1,rfl,cs2,vs2,fp2,r2,rfl,h2,rfl,rfl,rfl,rfl,rfl,rfl,rfl⟩ - - hG - hf
  obtain⟨rfl,rfl,hl⟩:=h1
  obtain⟨rfl,rfl,hs⟩:=h2
  simp only[G448.strings_Cut] at hf
  split at hf
  ·rename_i hb
   cases hf
   obtain⟨m,hm⟩:=hg w hG
   refine callsTo_of_calls he (hc (ByteArray.mk ⟨l⟩) (ByteArray.mk ⟨sep⟩) m w (by simpa[ByteArray.size] using hb) hm) ?_
   rintro e w' ⟨rfl,n,rfl⟩
   have hl':l.length≤140737488355328:=hl
   have b1:(Lib.cut l sep).1.length≤l.length:=by unfold Lib.cut; split<;>simp; omega
   have b2:(Lib.cut l sep).2.1.length≤l.length:=by unfold Lib.cut; split<;>simp
   refine⟨_,rfl,keepsW_of ⟨rfl,rfl,rfl,Nat.le_refl _,fun _ _=>rfl⟩,[],rfl,[[_],[_],[_]],[],[],⟨_,_,[],[],[],[],rfl,rfl,rfl,⟨⟨rfl,rfl,Nat.le_trans b1 hl'⟩,rfl,rfl⟩,_,_,[],[],[],[],rfl,rfl,rfl,⟨⟨rfl,rfl,Nat.le_trans b2 hl'⟩,rfl,rfl⟩,
    _,[],[],[],[],[],rfl,rfl,rfl,⟨⟨rfl,rfl⟩,rfl,rfl⟩,rfl,rfl,rfl⟩,rfl,⟨by simp,by simp⟩,by simp⟩
  ·cases hf
theorem nDigits_le : ∀ (k u:Nat),u<10 ^ (k+1)→Lib.nDigits u≤k+1
 | 0,u,h=>by rw[Lib.nDigits_small (by simpa using h)]; exact Nat.le_refl _
 | k+1,u,h=>by
  by_cases hu:u<10
  ·rw[Lib.nDigits_small hu]; omega
  ·rw[Lib.nDigits_big hu]
   have:=nDigits_le k (u / 10) (by rw[Nat.pow_succ] at h; omega)
   omega
theorem itoa_len (n:Int) (h:Bnd .i64 n):(Lib.itoa n).length≤21:=by
 have h1 : -9223372036854775808≤n:=h.1
 have h2:n≤9223372036854775807:=h.2
 unfold Lib.itoa
 split
 ·have:=nDigits_le 19 n.natAbs (by
                    have:n.natAbs≤9223372036854775808:=by omega
                    exact Nat.lt_of_le_of_lt this (by decide))
  rw[List.length_cons,Lib.decDigits_length]; omega
 ·have:=nDigits_le 19 n.toNat (by
                   have:n.toNat≤9223372036854775807:=by omega
                   exact Nat.lt_of_le_of_lt this (by decide))
  rw[Lib.decDigits_length]; omega
theorem sound_itoa (he : ∀ args w,(callFunc f args).run P w = .ok (.enter f args) w) {T:World→Prop} (hT : ∀ w,gl.G w→T w)
  (hc : ∀ (n:Int) (h0 : -9223372036854775808≤n) (h1:n≤9223372036854775807) (w:World) (ht:T w),Calls P f #[.int .i64 n] w fun e w'=>e = .returned (.string ⟨(Lib.itoa n).toArray⟩) ∧ ∃ k os,w'=grow (w.drewN k) os) :
  Sound P gl f ⟨[(.rd,.i64)],[.str],.uniq,G448.strconv_Itoa⟩ where
 run:=by
  rintro w ⟨n,⟨⟩⟩ vals r rp rc xo xp outs ⟨cs,vs,fp,r',rfl,h1,rfl,rfl,rfl,rfl,rfl,rfl,rfl⟩ - - hG - hf
  obtain⟨rfl,rfl,hb⟩:=h1
  cases hf
  refine callsTo_of_calls he (hc n hb.1 hb.2 w (hT w hG)) ?_
  rintro e w' ⟨rfl,k,os,rfl⟩
  refine⟨_,rfl,keepsW_of (below_grow w k os),[],rfl,[[_]],[],[],⟨_,[],[],[],[],[],rfl,rfl,rfl,⟨⟨rfl,rfl,?_⟩,rfl,rfl⟩,rfl,rfl,rfl⟩,rfl,⟨by simp,by simp⟩,by simp⟩
  have:=itoa_len n hb
  show (Lib.itoa n).length≤_
  omega
theorem rdL_str_cells {w:World} {b:Nat} {arr:Array Value} {T:TypeId} {fr:Nat×Nat} (hh:w.heap[b]?=some (.cells arr T fr)) : ∀ (xs:List (List UInt8)) (o:Nat) (fp:List Nat),RdL (Rd w .str) xs (arr.toList.drop o) fp →
  ∀ (j:Nat) (x:ByteArray),(xs.map fun l=>(ByteArray.mk ⟨l⟩))[j]?=some x→w.cell? ⟨b,o+j,none⟩=some (.string x)
 | [],o,fp,h,j,x,hx=>by simp at hx
 | y::ys,o,fp,h,j,x,hx=>by
  obtain⟨c,rest,f1,f2,h1,h2,⟨rfl,rfl,_⟩,h4⟩:=h
  have hd:arr.toList.drop (o+1)=rest:=by
   rw[←List.drop_drop,h1]; simp
  cases j with
  | zero=>
   simp at hx
   subst hx
   have:arr.toList[o]?=some (.string (ByteArray.mk ⟨y⟩)):=by
    have:=congrArg (·[0]?) h1
    simpa[List.getElem?_drop] using this
   simp only[World.cell?,hh,Nat.add_zero]
   simpa using this
  | succ j=>
   have:=rdL_str_cells hh ys (o+1) f2 (by rw[hd]; exact h4) j x (by simpa using hx)
   rw[show o+(j+1)=o+1+j by omega]
   exact this
theorem sound_join {TT:Nat} (he : ∀ args w,(callFunc f args).run P w = .ok (.enter f args) w)
  (hc0 : ∀ (a:Option Addr) (c:Nat) (sep:ByteArray) (w:World),Calls P f #[.slice a 0 c,.string sep] w fun e w'=>e = .returned (.string ⟨#[]⟩)∧w'=w)
  (hc : ∀ (bk o c:Nat) (xs:List ByteArray) (sep:ByteArray) (w:World) (hcells : ∀ (j:Nat) x,xs[j]?=some x→w.cell? ⟨bk,o+j,none⟩=some (.string x))
   (hbk:bk<w.heap.size) (hN:xs.length≤140737488355328) (hcap:xs.length≤c) (hlen:(Lib.join (xs.map (·.data.toList)) sep.data.toList).length≤140737488355328),
   Calls P f #[.slice (some ⟨bk,o,none⟩) xs.length c,.string sep] w fun e w'=>e = .returned (.string ⟨(Lib.join (xs.map (·.data.toList)) sep.data.toList).toArray⟩)∧Below w.heap.size w w') :
  Sound P gl f ⟨[(.rd,.sl TT .str),(.rd,.str)],[.str],.uniq,G448.strings_Join⟩ where
 run:=by
  rintro w ⟨l,sep,⟨⟩⟩ vals r rp rc xo xp outs ⟨cs,vs,fp,r',rfl,h1,rfl,cs2,vs2,fp2,r2,rfl,h2,rfl,rfl,rfl,rfl,rfl,rfl,rfl⟩ - - hG - hf
  obtain⟨a,n,c,rfl,rfl,p3,p4,p5⟩:=h1
  obtain⟨rfl,rfl,hs⟩:=h2
  simp only[G448.strings_Join] at hf
  split at hf
  ·rename_i hb
   cases hf
   have fin : ∀ w',Below w.heap.size w w'→KeepsW w.heap.size ([]++[]) w w' ∧ ∃ pt,OutOk w w' w.heap.size .uniq (fp++([]++[])++[]++[]) [] pt [.str] (.string ⟨(Lib.join l sep).toArray⟩) [(.rd,.sl TT .str),(.rd,.str)] (Lib.join l sep,()) []:=by
    intro w' hw
    exact⟨keepsW_of hw,[],rfl,[[_]],[],[],⟨_,[],[],[],[],[],rfl,rfl,rfl,⟨⟨rfl,rfl,hb⟩,rfl,rfl⟩,rfl,rfl,rfl⟩,rfl,⟨by simp,by simp⟩,by simp⟩
   rcases p5 with⟨rfl,rfl⟩|⟨b,o,arr,T,fr,fp',rfl,hh,rfl,hl⟩
   ·refine callsTo_of_calls he (hc0 a c (ByteArray.mk ⟨sep⟩) w) ?_
    rintro e w' ⟨rfl,rfl⟩
    exact⟨_,rfl,fin _ (Below.refl _ _)⟩
   ·have hmap:(l.map fun x=>(ByteArray.mk ⟨x⟩)).map (·.data.toList)=l:=by
     rw[List.map_map]; exact List.map_id l
    have key:=hc b o c (l.map fun x=>(ByteArray.mk ⟨x⟩)) (ByteArray.mk ⟨sep⟩) w (rdL_str_cells hh l o fp' hl) (lt_of_get hh) (by simpa using p4) (by simpa using p3) (by rw[hmap]; exact hb)
    rw[hmap] at key
    simp only[List.length_map] at key
    refine callsTo_of_calls he key ?_
    rintro e w' ⟨rfl,hw⟩
    exact⟨_,rfl,fin _ hw⟩
  ·cases hf
end Ev
