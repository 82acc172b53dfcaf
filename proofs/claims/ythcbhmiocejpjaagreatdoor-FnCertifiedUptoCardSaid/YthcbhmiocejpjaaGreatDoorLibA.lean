/- The evaluator of the own library, part 1: its words, its soundness. Conditions: none of its own. -/
import GoSem.Step
import Derived.Calls
import Derived.Tactics
import Derived.Laws.Sem
import Derived.Laws.Entries
import Derived.Laws.Cells
set_option linter.unusedSimpArgs false
set_option linter.unusedVariables false
abbrev aqC:=@Option.bind_some
abbrev aqD:=@cond_false
abbrev aqE:=@cond_true
abbrev aqF:=@Bool.and_eq_true
abbrev aqG:=@List.length_cons
abbrev aqH:=@decide_true
abbrev aqI:=@Bool.not_true
abbrev aqJ:=@List.length_nil
abbrev aqK:=@Option.some.injEq
abbrev aqL:=@decide_false
abbrev aqM:=@List.length_append
abbrev aqN:=@Int.toNat_natCast
abbrev aqO:=@Prod.mk.injEq
abbrev aqP:=@decide_eq_true_eq
abbrev aqQ:=@Go.Result.andThen_ok
abbrev aqR:=@Go.Sem.run_pure
abbrev aqS:=@and_self
abbrev aqT:=@Go.Sem.run_bind
abbrev aqU:=@Bool.true_and
abbrev aqV:=@List.length_take
abbrev aqW:=@List.mem_cons
abbrev aqX:=@List.drop_eq_getElem_cons
abbrev aqY:=@Int.lt_irrefl
abbrev aqZ:=@List.map_cons
abbrev ar0:=@List.mem_append
abbrev ar1:=@Bool.not_false
abbrev ar2:=@List.length_drop
abbrev ar3:=@Bool.false_eq_true
abbrev ar4:=@List.drop_zero
abbrev ar5:=@beq_iff_eq
abbrev ar6:=@List.nil_append
abbrev ar7:=@List.append_assoc
abbrev ar8:=@List.size_toArray
abbrev ar9:=@List.getElem?_eq_none
abbrev ara:=@List.cons.injEq
abbrev arb:=@List.drop_length
abbrev arc:=@Bool.not_eq_true'
abbrev ard:=@List.all_cons
abbrev are:=@Nat.succ_mul
abbrev arf:=@List.getElem?_eq_getElem
abbrev arg:=@List.length_map
abbrev arh:=@List.sum_cons
abbrev ari:=@Bool.false_and
abbrev arj:=@Bool.or_eq_true
abbrev ark:=@List.drop_drop
abbrev arl:=@Nat.add_mul
abbrev arm:=@Array.getD_eq_getD_getElem?
abbrev arn:=@List.map_nil
abbrev aro:=@List.not_mem_nil
abbrev arp:=@Nat.le_refl
abbrev arq:=@Option.getD_some
abbrev ars:=@Array.getElem?_eq_getElem
abbrev art:=@Option.map_some
abbrev aru:=@Nat.add_assoc
abbrev arv:=@Nat.zero_add
abbrev arw:=@List.getD_eq_getElem?_getD
abbrev arx:=@Nat.add_zero
abbrev ary:=@Array.length_toList
abbrev arz:=@List.append_nil
abbrev arA:=@List.foldl_cons
abbrev arB:=@Bool.and_false
abbrev arC:=@Nat.pow_succ
abbrev arD:=@Bool.and_self
abbrev arE:=@List.cons_append
abbrev arF:=@List.take_length
abbrev arG:=@Int.toNat_zero
abbrev arH:=@List.getElem?_drop
abbrev arI:=@List.take_of_length_le
abbrev arJ:=@Array.getElem?_toList
abbrev arK:=@Nat.sub_zero
abbrev arL:=@Option.isNone_iff_eq_none
abbrev arM:=@List.getElem?_take
abbrev arN:=@List.take_append_of_le_length
abbrev arO:=@Array.size_append
abbrev arP:=@Option.none_or
abbrev arQ:=@List.mem_range
abbrev arR:=@Nat.min_eq_left
abbrev arS:=@List.length_range
abbrev arT:=@List.getElem?_set
abbrev arU:=@List.getElem?_append_left
abbrev arV:=@Bool.or_eq_false_iff
abbrev arW:=@List.map_append
abbrev arX:=@List.elem_eq_true_of_mem
abbrev arY:=@List.filterMap_cons
abbrev arZ:=@List.filter_cons
abbrev as0:=@List.take_append_drop
abbrev as1:=@decide_eq_false_iff_not
abbrev as2:=@Int.le_refl
abbrev as3:=@Array.getElem?_eq_none
abbrev as4:=@List.drop_eq_nil_of_le
abbrev as5:=@List.take_append
abbrev as6:=@Nat.zero_mul
abbrev as7:=@List.flatten_cons
abbrev as8:=@List.map_toArray
abbrev as9:=@List.mem_singleton
abbrev asa:=@List.take_add_one
abbrev asb:=@List.mem_filter
abbrev asc:=@List.getElem?_set_ne
abbrev asd:=@List.take_take
abbrev asg:=@List.length_set
abbrev ash:=@List.getElem?_map
abbrev asi:=@Int.toNat_of_nonneg
abbrev asj:=@List.mem_map
abbrev asl:=@Bool.false_or
abbrev asm:=@List.drop_of_length_le
abbrev asn:=@Bool.and_true
abbrev aso:=@List.sum_nil
abbrev asq:=@List.all_nil
abbrev asr:=@Bool.eq_iff_iff
abbrev ass:=@List.getElem?_append_right
abbrev ast:=@Array.toList_setIfInBounds
abbrev asu:=@Nat.mod_eq_of_lt
abbrev asv:=@List.drop_take
abbrev asw:=@List.drop_append
abbrev asy:=@List.replicate_succ
abbrev asz:=@Array.toList_map
abbrev asB:=@List.getElem?_toArray
abbrev asC:=@Option.isSome_none
abbrev asD:=@List.toList_toArray
abbrev asE:=@List.range_succ
abbrev asF:=@Array.getElem?_replicate
abbrev asK:=@List.sum_append
abbrev asL:=@Bool.eq_false_iff
abbrev asN:=@Array.getElem?_setIfInBounds_ne
abbrev asP:=@List.getElem?_take_of_lt
abbrev asQ:=@List.getElem?_cons_succ
abbrev asR:=@Array.getElem?_setIfInBounds
abbrev asS:=@List.drop_append_of_le_length
abbrev asU:=@List.getElem?_range
abbrev asW:=@Bool.and_eq_false_iff
abbrev asX:=@List.length_singleton
abbrev at0:=@List.getD_cons_zero
abbrev at3:=@List.getElem_range
abbrev atk:=@Array.all_eq_true_iff_forall_mem
namespace Ev
open Go
class Tags where
 post:Nat
inductive Ty where
 | i64|u8|bool|str
 | sl (E:Nat) (e:Ty)
 | pair (a b:Ty)
 deriving DecidableEq,Repr
@[reducible] def den:Ty->Type
 | .i64=>Int
 | .u8=>UInt8
 | .bool=>Bool
 | .str=>List UInt8
 | .sl _ e=>List (den e)
 | .pair a b=>den a×den b
def dflt:(t:Ty)->den t
 | .i64=>(0:Int)
 | .u8=>(0:UInt8)
 | .bool=>false
 | .str=>([]:List UInt8)
 | .sl _ e=>([]:List (den e))
 | .pair a b=>(dflt a,dflt b)
def Ty.size:Ty->Nat
 | .pair a b=>a.size+b.size
 | _=>1
def Ty.isPair:Ty->Bool
 | .pair _ _=>true
 | _=>false
def Ty.hasSl:Ty->Bool
 | .sl _ _=>true
 | .pair a b=>a.hasSl || b.hasSl
 | _=>false
theorem Ty.size_pos:∀ t:Ty,0<t.size
 | .i64 | .u8 | .bool | .str | .sl _ _=>by simp[Ty.size]
 | .pair a b=>by have:=Ty.size_pos a; simp[Ty.size]; omega
def RdL {α:Type} (R:α->List Value->List Nat->Prop):List α->List Value->List Nat->Prop
 | [],_,fp=>fp=[]
 | x::xs,cs,fp=>∃ c rest f1 f2,cs=c++rest/\fp=f1++f2/\R x c f1/\RdL R xs rest f2
def Bnd:(t:Ty)->den t->Prop
 | .i64,n => -9223372036854775808<=n/\n<=(9223372036854775807:Int)
 | .u8,_=>True
 | .bool,_=>True
 | .str,l=>l.length<=140737488355328
 | .sl _ e,xs=>xs.length<=140737488355328/\∀ x∈xs,Bnd e x
 | .pair a b,v=>Bnd a v.1/\Bnd b v.2
def frees (fr:Nat×Nat) (n:Nat):Prop:=∀ o≤n,(decide (fr.1<=o) && decide (o<fr.2))=false
def L0 [Tags] (E T:Nat):Prop:=T=Tags.post↔E=Tags.post
def Whole [Tags] (E:Nat) (e:Ty) (o c size:Nat) (fr:Nat×Nat):Prop:=E=Tags.post->e.size=18/\o=0/\size=c*e.size/\frees fr size
def Rd [Tags] (w:World):(t:Ty)->den t->List Value->List Nat->Prop
 | .i64,n,cs,fp=>cs=[.int .i64 n]/\fp=[]/\Bnd .i64 n
 | .u8,x,cs,fp=>cs=[.int .u8 (x.toNat:Int)]/\fp=[]
 | .bool,x,cs,fp=>cs=[.bool x]/\fp=[]
 | .str,l,cs,fp=>cs=[.string ⟨⟨l⟩⟩]/\fp=[]/\Bnd .str l
 | .sl E e,xs,cs,fp=>∃ a n c,cs=[.slice a n c]/\n=xs.length/\n<=c/\n<=140737488355328/\
   ((xs=[]/\fp=[]/\(E=Tags.post->a=none/\c=0))∨∃ b o arr T fr fp',a=some ⟨b,o,none⟩/\w.heap[b]?=some (.cells arr T fr)/\fp=b::fp'/\RdL (Rd w e) xs (arr.toList.drop o) fp'/\L0 E T/\Whole E e o c arr.size fr)
 | .pair a b,v,cs,fp=>∃ c1 c2 f1 f2,cs=c1++c2/\fp=f1++f2/\Rd w a v.1 c1 f1/\Rd w b v.2 c2 f2
theorem RdL.mono {α:Type} {R R':α->List Value->List Nat->Prop}:∀ {xs:List α} {cs fp},
  (∀ x c f,(∀ b∈f,b∈fp)->R x c f->R' x c f)->RdL R xs cs fp->RdL R' xs cs fp
 | [],_,_,_,h=>h
 | x::xs,cs,fp,hr,⟨c,rest,f1,f2,h1,h2,h3,h4⟩=>
  ⟨c,rest,f1,f2,h1,h2,hr x c f1 (λ b hb=>by rw[h2]; simp[hb]) h3,
   RdL.mono (λ x c f hf hR=>hr x c f (λ b hb=>by rw[h2]; simp[hf b hb]) hR) h4⟩
theorem Rd.len [Tags] {w:World}:∀ {t:Ty} {v:den t} {cs fp},Rd w t v cs fp->cs.length=t.size
 | .i64,_,_,_,h=>by simp[Rd] at h; simp[h.1,Ty.size]
 | .u8,_,_,_,h=>by simp[Rd] at h; simp[h.1,Ty.size]
 | .bool,_,_,_,h=>by simp[Rd] at h; simp[h.1,Ty.size]
 | .str,_,_,_,h=>by simp[Rd] at h; simp[h.1,Ty.size]
 | .sl _ _,_,_,_,h=>by obtain⟨a,n,c,h,_⟩:=h; simp[h,Ty.size]
 | .pair a b,_,_,_,h=>by
  obtain⟨c1,c2,f1,f2,rfl,_,h1,h2⟩:=h;simp[Rd.len h1,Rd.len h2,Ty.size]
theorem Rd.frame [Tags] {w w':World}:∀ {t:Ty} {v:den t} {cs fp},Rd w t v cs fp->(∀ b∈fp,w'.heap[b]?=w.heap[b]?)->Rd w' t v cs fp
 | .i64,_,_,_,h,_=>h
 | .u8,_,_,_,h,_=>h
 | .bool,_,_,_,h,_=>h
 | .str,_,_,_,h,_=>h
 | .sl _ e,xs,cs,fp,h,hf=>by
  obtain⟨a,n,c,h1,h2,h3,h3',h4⟩:=h;refine⟨a,n,c,h1,h2,h3,h3',?_⟩;rcases h4 with h4|⟨b,o,arr,T,fr,fp',ha,hb,hfp,hl,ht⟩
  ·exact .inl h4
  ·refine .inr ⟨b,o,arr,T,fr,fp',ha,?_,hfp,?_⟩
   ·rw[hf b (by simp[hfp])]; exact hb
   ·refine⟨RdL.mono (λ x c f ai2 hR=>Rd.frame hR (λ b hb=>hf b ?_)) hl,ht⟩;rw[hfp]; simp[ai2 b hb]
 | .pair a b,v,cs,fp,h,hf=>by
  obtain⟨c1,c2,f1,f2,h1,h2,h3,h4⟩:=h;exact⟨c1,c2,f1,f2,h1,h2,h3.frame (λ b hb=>hf b (by simp[h2,hb])),h4.frame (λ b hb=>hf b (by simp[h2,hb]))⟩
theorem RdL.all {α:Type} {R:α->List Value->List Nat->Prop} {S:α->Prop}:∀ {xs:List α} {cs fp},
  (∀ x c f,R x c f->S x)->RdL R xs cs fp->∀ x∈xs,S x
 | [],_,_,_,_=>by simp
 | x::xs,cs,fp,hr,⟨c,rest,f1,f2,h1,h2,h3,h4⟩=>by
  intro y hy;rcases List.mem_cons.1 hy with rfl|hy
  ·exact hr _ _ _ h3
  ·exact RdL.all hr h4 y hy
theorem Rd.bnd [Tags] {w:World}:∀ {t:Ty} {v:den t} {cs fp},Rd w t v cs fp->Bnd t v
 | .i64,_,_,_,h=>h.2.2
 | .u8,_,_,_,_=>trivial
 | .bool,_,_,_,_=>trivial
 | .str,_,_,_,h=>h.2.2
 | .sl _ e,xs,cs,fp,h=>by
  obtain⟨a,n,c,h1,h2,h3,h3',h4⟩:=h;refine⟨by omega,?_⟩;rcases h4 with h4|⟨b,o,arr,T,fr,fp',ha,hb,hfp,hl,ht⟩
  ·simp[h4.1]
  ·exact RdL.all (λ x c f hR=>Rd.bnd hR) hl
 | .pair a b,v,cs,fp,h=>by
  obtain⟨c1,c2,f1,f2,h1,h2,h3,h4⟩:=h;exact⟨h3.bnd,h4.bnd⟩
theorem RdL.mem {α:Type} {R:α->List Value->List Nat->Prop}:∀ {xs:List α} {cs fp},RdL R xs cs fp->∀ c∈fp,∃ x cs' f,R x cs' f/\c∈f
 | [],_,_,h,c,hc=>by simp[RdL] at h; simp[h] at hc
 | x::xs,_,_,⟨c0,rest,f1,f2,_,g2,g3,g4⟩,c,hc=>by
  rw[g2] at hc;rcases List.mem_append.1 hc with hc|hc
  ·exact⟨x,c0,f1,g3,hc⟩
  ·exact RdL.mem g4 c hc
theorem Rd.lt [Tags] {w:World}:∀ {t:Ty} {v:den t} {cs fp},Rd w t v cs fp->∀ b∈fp,b<w.heap.size
 | .i64,_,_,_,h=>by simp[h.2.1]
 | .u8,_,_,_,h=>by simp[h.2]
 | .bool,_,_,_,h=>by simp[h.2]
 | .str,_,_,_,h=>by simp[h.2.1]
 | .sl _ e,xs,cs,fp,h=>by
  obtain⟨a,n,c,h1,h2,h3,h3',h4⟩:=h;rcases h4 with h4|⟨b,o,arr,T,fr,fp',ha,hb,hfp,hl,ht⟩
  ·simp[h4.2]
  ·have hb':b<w.heap.size:=by
    rcases Nat.lt_or_ge b w.heap.size with h|h
    ·exact h
    ·simp[as3 h] at hb
   intro c hc;rw[hfp] at hc;rcases List.mem_cons.1 hc with rfl|hc
   ·exact hb'
   ·obtain⟨x,cs',f,hR,hcf⟩:=RdL.mem hl c hc;exact Rd.lt hR c hcf
 | .pair a b,v,cs,fp,h=>by
  obtain⟨c1,c2,f1,f2,h1,h2,h3,h4⟩:=h;intro c hc;rw[h2] at hc;rcases List.mem_append.1 hc with hc|hc
  ·exact h3.lt c hc
  ·exact h4.lt c hc
def RdO [Tags] (w:World):(t:Ty)->den t->List Value->(xs fs:List Nat)->Prop
 | .i64,n,cs,xs,fs=>Rd w .i64 n cs []/\xs=[]/\fs=[]
 | .u8,n,cs,xs,fs=>Rd w .u8 n cs []/\xs=[]/\fs=[]
 | .bool,n,cs,xs,fs=>Rd w .bool n cs []/\xs=[]/\fs=[]
 | .str,n,cs,xs,fs=>Rd w .str n cs []/\xs=[]/\fs=[]
 | .sl E e,v,cs,xs,fs=>(v=[]/\cs=[.slice none 0 0]/\xs=[]/\fs=[])∨
   ∃ b cap arr T fr,cs=[.slice (some ⟨b,0,none⟩) v.length cap]/\w.heap[b]?=some (.cells arr T fr)/\frees fr arr.size/\arr.size=cap*e.size/\
    v.length<=cap/\v.length<=140737488355328/\RdL (Rd w e) v arr.toList fs/\xs=[b]/\L0 E T/\(E=Tags.post->e.size=18)
 | .pair a b,v,cs,xs,fs=>∃ c1 c2 x1 x2 f1 f2,cs=c1++c2/\xs=x1++x2/\fs=f1++f2/\RdO w a v.1 c1 x1 f1/\RdO w b v.2 c2 x2 f2
theorem RdO.frame [Tags] {w w':World}:∀ {t:Ty} {v:den t} {cs xs fs},RdO w t v cs xs fs->(∀ b∈xs,w'.heap[b]?=w.heap[b]?)->(∀ b∈fs,w'.heap[b]?=w.heap[b]?)->RdO w' t v cs xs fs
 | .i64,_,_,_,_,h,_,_=>h
 | .u8,_,_,_,_,h,_,_=>h
 | .bool,_,_,_,_,h,_,_=>h
 | .str,_,_,_,_,h,_,_=>h
 | .sl _ e,v,cs,xs,fs,h,hx,hf=>by
  rcases h with h|⟨b,cap,arr,T,fr,h1,h2,h3,h4,h5,h6,h7,h8,h9⟩
  ·exact .inl h
  ·refine .inr ⟨b,cap,arr,T,fr,h1,?_,h3,h4,h5,h6,?_,h8,h9⟩
   ·rw[hx b (by simp[h8])]; exact h2
   ·exact RdL.mono (λ x c f ai2 hR=>Rd.frame hR (λ b hb=>hf b (ai2 b hb))) h7
 | .pair a b,v,cs,xs,fs,h,hx,hf=>by
  obtain⟨c1,c2,x1,x2,f1,f2,h1,h2,h3,h4,h5⟩:=h;exact⟨c1,c2,x1,x2,f1,f2,h1,h2,h3,h4.frame (λ b hb=>hx b (by simp[h2,hb])) (λ b hb=>hf b (by simp[h3,hb])),
   h5.frame (λ b hb=>hx b (by simp[h2,hb])) (λ b hb=>hf b (by simp[h3,hb]))⟩
theorem RdO.rd [Tags] {w:World}:∀ {t:Ty} {v:den t} {cs xs fs},RdO w t v cs xs fs->∃ fp,Rd w t v cs fp/\∀ b∈fp,b∈xs∨b∈fs
 | .i64,_,_,_,_,h=>⟨[],h.1,by simp⟩
 | .u8,_,_,_,_,h=>⟨[],h.1,by simp⟩
 | .bool,_,_,_,_,h=>⟨[],h.1,by simp⟩
 | .str,_,_,_,_,h=>⟨[],h.1,by simp⟩
 | .sl E e,v,cs,xs,fs,h=>by
  rcases h with⟨h1,h2,h3,h4⟩|⟨b,cap,arr,T,fr,h1,h2,h3,h4,h5,h6,h7,h8,h9⟩
  ·exact⟨[],⟨none,0,0,h2,by simp[h1],Nat.le_refl _,by simp,.inl ⟨h1,rfl,λ _=>⟨rfl,rfl⟩⟩⟩,by simp⟩
  ·exact⟨b::fs,⟨some ⟨b,0,none⟩,v.length,cap,h1,rfl,h5,h6,.inr ⟨b,0,arr,T,fr,fs,rfl,h2,rfl,by simpa using h7,h9.1,λ h=>⟨h9.2 h,rfl,h4,h3⟩⟩⟩,by simp[h8]⟩
 | .pair a b,v,cs,xs,fs,h=>by
  obtain⟨c1,c2,x1,x2,f1,f2,h1,h2,h3,h4,h5⟩:=h;obtain⟨p1,r1,s1⟩:=h4.rd;obtain⟨p2,r2,s2⟩:=h5.rd;refine⟨p1++p2,⟨c1,c2,p1,p2,h1,rfl,r1,r2⟩,?_⟩;intro b hb;rw[h2,h3];rcases List.mem_append.1 hb with hb|hb
  ·rcases s1 b hb with h|h<;>simp[h]
  ·rcases s2 b hb with h|h<;>simp[h]
theorem Z0 {w:World} {b:Nat} {o:Obj} (h:w.heap[b]?=some o):b<w.heap.size:=by
 rcases Nat.lt_or_ge b w.heap.size with h'|h'
 ·exact h'
 ·simp[as3 h'] at h
theorem RdL.lt [Tags] {w:World} {e:Ty} {v:List (den e)} {cs fs} (h:RdL (Rd w e) v cs fs):∀ b∈fs,b<w.heap.size:=by
 intro b hb;obtain⟨x,c,f,hR,hf⟩:=RdL.mem h b hb;exact hR.lt b hf
theorem RdO.lt [Tags] {w:World}:∀ {t:Ty} {v:den t} {cs xs fs},RdO w t v cs xs fs->(∀ b∈xs,b<w.heap.size)/\(∀ b∈fs,b<w.heap.size)
 | .i64,_,_,_,_,h=>by simp[h.2.1,h.2.2]
 | .u8,_,_,_,_,h=>by simp[h.2.1,h.2.2]
 | .bool,_,_,_,_,h=>by simp[h.2.1,h.2.2]
 | .str,_,_,_,_,h=>by simp[h.2.1,h.2.2]
 | .sl E e,v,cs,xs,fs,h=>by
  rcases h with⟨h1,h2,h3,h4⟩|⟨b,cap,arr,T,fr,h1,h2,h3,h4,h5,h6,h7,h8,h9⟩
  ·simp[h3,h4]
  ·exact⟨by simp[h8,Z0 h2],h7.lt⟩
 | .pair a b,v,cs,xs,fs,h=>by
  obtain⟨c1,c2,x1,x2,f1,f2,h1,h2,h3,h4,h5⟩:=h;have a1:=h4.lt; have a2:=h5.lt
  constructor
  ·intro b hb; rw[h2] at hb; rcases List.mem_append.1 hb with hb|hb; · exact a1.1 b hb
   ·exact a2.1 b hb
  ·intro b hb; rw[h3] at hb; rcases List.mem_append.1 hb with hb|hb; · exact a1.2 b hb
   ·exact a2.2 b hb
theorem RdO.len [Tags] {w:World} {t:Ty} {v:den t} {cs xs fs} (h:RdO w t v cs xs fs):cs.length=t.size:=by
 obtain⟨fp,hr,_⟩:=h.rd;exact hr.len
inductive Leaf where
 | i (n:Int)|u (x:UInt8)|b (x:Bool)|s (l:List UInt8)
 | nil
 | sl (id:Nat)
 | ptr (id off:Nat)
 | ep (id ix esz off:Nat)
 | fn (f:Nat) (caps:List Nat)
 | ap (id:Nat)
 | any
inductive V1 where
 | one (l:Leaf)
 | agg (ls:List Leaf)
 | any
inductive AV where
 | top
 | v (x:V1)
 | tup (xs:List V1)
inductive Kind where
 | imm (taint:Bool)
 | own (u:Bool)
 | lent
inductive Ent where
 | box (lvl:Nat) (cells:List Leaf)
 | cst (cells:List Leaf)
 | arr (k:Kind) (lvl:Nat) (E:Nat) (e:Ty) (xs:List (den e))
structure St where
 slots:List AV
 tab:List (Nat×Ent)
 nxt:Nat
 lvl:Nat
def look:List (Nat×Ent)->Nat->Option Ent
 | [],_=>none
 | (k,e)::r,i=>match Nat.beq k i with
  | true=>some e
  | false=>look r i
def erase:List (Nat×Ent)->Nat->List (Nat×Ent)
 | [],_=>[]
 | (k,e)::r,i=>match Nat.beq k i with
  | true=>erase r i
  | false=>(k,e)::erase r i
def yE:List (Nat×Ent)->Nat->Ent->List (Nat×Ent)
 | [],_,_=>[]
 | (k,e)::r,i,x=>match Nat.beq k i with
  | true=>(k,x)::yE r i x
  | false=>(k,e)::yE r i x
theorem zV (a b:Nat):Nat.beq a b=true↔a=b:=⟨Nat.eq_of_beq_eq_true,λ h=>by subst h; exact Nat.beq_refl a⟩
theorem ZR (a b:Nat):Nat.beq a b=false↔a≠b:=by
 cases h:Nat.beq a b with
 | true=>simp[(zV a b).1 h]
 | false=>simp; intro e; subst e; simp at h
theorem cB (t:List (Nat×Ent)) (i j:Nat):look (erase t i) j=if j=i then none else look t j:=by
 induction t with
 | nil=>simp[erase,look]
 | cons x r ih=>
  obtain⟨k,e⟩:=x;simp only[erase];cases h:Nat.beq k i with
  | true=>
   have:=(zV _ _).1 h; subst this
   simp only[look,ih];by_cases hj:j=k
   ·simp[hj]
   ·simp only[hj,if_false]; rw[(ZR k j).2 (λ e=>hj e.symm)]
  | false=>
   have hk:=(ZR _ _).1 h;simp only[look];cases h2:Nat.beq k j with
   | true=>have:=(zV _ _).1 h2; subst this; simp[hk]
   | false=>simp[ih]
theorem ZZ (t:List (Nat×Ent)) (i j:Nat) (x:Ent):look (yE t i x) j=if j=i then (look t i).map (λ _=>x) else look t j:=by
 induction t with
 | nil=>simp[yE,look]
 | cons y r ih=>
  obtain⟨k,e⟩:=y;simp only[yE];cases h:Nat.beq k i with
  | true=>
   have:=(zV _ _).1 h; subst this
   simp only[look,ih];by_cases hj:j=k
   ·subst hj; simp
   ·simp only[hj,if_false]; rw[(ZR k j).2 (λ e=>hj e.symm)]
  | false=>
   have hk:=(ZR _ _).1 h;simp only[look,h];cases h2:Nat.beq k j with
   | true=>have:=(zV _ _).1 h2; subst this; simp[hk]
   | false=>simp[ih]
theorem jf (t:List (Nat×Ent)) (k j:Nat) (e:Ent):look ((k,e)::t) j=if j=k then some e else look t j:=by
 simp only[look];cases h:Nat.beq k j with
 | true=>have:=(zV _ _).1 h; subst this; simp
 | false=>have:=(ZR _ _).1 h; rw[if_neg (λ e=>this (Eq.symm e))]
inductive Own where
 | persist
 | alien
 | top (id:Nat)
 | deep (id:Nat)
def LeafOk (loc:Nat->Value):Leaf->Value->Prop
 | .i n,v=>v=.int .i64 n/\Bnd .i64 n
 | .u x,v=>v=.int .u8 (x.toNat:Int)
 | .b x,v=>v=.bool x
 | .s l,v=>v=.string ⟨⟨l⟩⟩/\Bnd .str l
 | .nil,v=>v=.slice none 0 0
 | .sl id,v=>v=loc id/\∃ a n c,v=.slice a n c
 | .ptr id off,v=>∃ b,loc id=.pointer (some ⟨b,0,none⟩)/\v=.pointer (some ⟨b,off,none⟩)
 | .ep id ix esz off,v=>∃ b o n c,loc id=.slice (some ⟨b,o,none⟩) n c/\ix<n/\v=.pointer (some ⟨b,o+ix*esz+off,none⟩)
 | .fn f caps,v=>v=.func (.func f) #[] ((caps.map loc).toArray)/\∀ c∈caps,∃ b,loc c=.pointer (some ⟨b,0,none⟩)
 | .ap id,v=>∃ b n c,loc id=.slice (some ⟨b,0,none⟩) n c/\v=.pointer (some ⟨b,0,none⟩)
 | .any,v=>v.oneCell'=true
def Leaf.lt (n:Nat):Leaf->Prop
 | .sl id=>id<n
 | .ptr id _=>id<n
 | .ep id _ _ _=>id<n
 | .fn _ caps=>∀ c∈caps,c<n
 | .ap id=>id<n
 | _=>True
def All2 {α β:Type} (R:α->β->Prop):List α->List β->Prop
 | [],[]=>True
 | x::xs,y::ys=>R x y/\All2 R xs ys
 | _,_=>False
theorem All2.mono {α β:Type} {R R':α->β->Prop}:∀ {xs:List α} {ys:List β},(∀ x∈xs,∀ y,R x y->R' x y)->All2 R xs ys->All2 R' xs ys
 | [],[],_,_=>trivial
 | x::xs,y::ys,h,⟨h1,h2⟩=>⟨h x (by simp) y h1,All2.mono (λ a ha b hb=>h a (by simp[ha]) b hb) h2⟩
 | [],_::_,_,h=>h.elim
 | _::_,[],_,h=>h.elim
theorem All2.len {α β:Type} {R:α->β->Prop}:∀ {xs:List α} {ys:List β},All2 R xs ys->xs.length=ys.length
 | [],[],_=>rfl
 | _::_,_::_,⟨_,h⟩=>by simp[All2.len h]
 | [],_::_,h=>h.elim
 | _::_,[],h=>h.elim
theorem All2.append {α β:Type} {R:α->β->Prop}:∀ {xs xs':List α} {ys ys':List β},All2 R xs ys->All2 R xs' ys'->All2 R (xs++xs') (ys++ys')
 | [],_,[],_,_,h=>h
 | _::_,_,_::_,_,⟨h1,h2⟩,h=>⟨h1,All2.append h2 h⟩
 | [],_,_::_,_,h,_=>h.elim
 | _::_,_,[],_,h,_=>h.elim
theorem All2.get {α β:Type} {R:α->β->Prop}:∀ {xs:List α} {ys:List β},All2 R xs ys->∀ {i:Nat} {x:α},xs[i]?=some x->∃ y,ys[i]?=some y/\R x y
 | x::xs,y::ys,⟨h1,h2⟩,i,a,ha=>by
  cases i with
  | zero=>simp at ha; subst ha; exact⟨y,by simp,h1⟩
  | succ i=>simp at ha; obtain⟨b,hb,hr⟩:=All2.get h2 ha; exact⟨b,by simpa using hb,hr⟩
 | [],[],_,i,a,ha=>by simp at ha
 | [],_::_,h,_,_,_=>h.elim
 | _::_,[],h,_,_,_=>h.elim
theorem All2.set {α β:Type} {R:α->β->Prop}:∀ {xs:List α} {ys:List β},All2 R xs ys->∀ (i:Nat) {x:α} {y:β},R x y->All2 R (xs.set i x) (ys.set i y)
 | [],[],_,_,_,_,_=>trivial
 | _::_,_::_,⟨_,h2⟩,0,_,_,h=>⟨h,h2⟩
 | _::_,_::_,⟨h1,h2⟩,i+1,_,_,h=>⟨h1,All2.set h2 i h⟩
 | [],_::_,h,_,_,_,_=>h.elim
 | _::_,[],h,_,_,_,_=>h.elim
theorem All2.take {α β:Type} {R:α->β->Prop}:∀ {xs:List α} {ys:List β},All2 R xs ys->∀ (i:Nat),All2 R (xs.take i) (ys.take i)
 | [],[],_,i=>by simp[All2]
 | _::_,_::_,_,0=>by simp[All2]
 | _::_,_::_,⟨h1,h2⟩,i+1=>⟨h1,All2.take h2 i⟩
 | [],_::_,h,_=>h.elim
 | _::_,[],h,_=>h.elim
theorem All2.drop {α β:Type} {R:α->β->Prop}:∀ {xs:List α} {ys:List β},All2 R xs ys->∀ (i:Nat),All2 R (xs.drop i) (ys.drop i)
 | [],[],_,i=>by simp[All2]
 | _::_,_::_,h,0=>h
 | _::_,_::_,⟨_,h2⟩,i+1=>by simpa using All2.drop h2 i
 | [],_::_,h,_=>h.elim
 | _::_,[],h,_=>h.elim
def V1Ok (loc:Nat->Value):V1->Value->Prop
 | .one l,v=>LeafOk loc l v
 | .agg ls,v=>∃ vs:List Value,v=.agg vs.toArray/\All2 (LeafOk loc) ls vs
 | .any,_=>True
def V1.lt (n:Nat):V1->Prop
 | .one l=>l.lt n
 | .agg ls=>∀ l∈ls,l.lt n
 | .any=>True
def AVOk (loc:Nat->Value):AV->Value->Prop
 | .top,_=>True
 | .v x,v=>V1Ok loc x v
 | .tup xs,v=>∃ vs:List Value,v=.tuple vs.toArray/\All2 (V1Ok loc) xs vs
def AV.lt (n:Nat):AV->Prop
 | .top=>True
 | .v x=>x.lt n
 | .tup xs=>∀ x∈xs,x.lt n
theorem LeafOk.loc {loc loc':Nat->Value} {n:Nat} {l:Leaf} {v:Value} (h:LeafOk loc l v) (hl:l.lt n) (he:∀ i<n,loc' i=loc i):LeafOk loc' l v:=by
 cases l with
 | sl id=>simp only[LeafOk] at *; rw[he _ hl]; exact h
 | ptr id off=>simp only[LeafOk] at *; rw[he _ hl]; exact h
 | ep id ix esz off=>simp only[LeafOk] at *; rw[he _ hl]; exact h
 | ap id=>simp only[LeafOk] at *; rw[he _ hl]; exact h
 | fn f caps=>
  simp only[LeafOk] at *;refine⟨?_,λ c hc=>by rw[he c (hl c hc)]; exact h.2 c hc⟩
  rw[h.1];congr 2;exact List.map_congr_left (λ c hc=>(he c (hl c hc)).symm)
 | _=>exact h
theorem V1Ok.loc {loc loc':Nat->Value} {n:Nat} {x:V1} {v:Value} (h:V1Ok loc x v) (hl:x.lt n) (he:∀ i<n,loc' i=loc i):V1Ok loc' x v:=by
 cases x with
 | one l=>exact LeafOk.loc h hl he
 | agg ls=>obtain⟨vs,h1,h2⟩:=h; exact⟨vs,h1,h2.mono (λ l hm v hv=>hv.loc (hl l hm) he)⟩
 | any=>trivial
theorem AVOk.loc {loc loc':Nat->Value} {n:Nat} {x:AV} {v:Value} (h:AVOk loc x v) (hl:x.lt n) (he:∀ i<n,loc' i=loc i):AVOk loc' x v:=by
 cases x with
 | top=>trivial
 | v x=>exact V1Ok.loc h hl he
 | tup xs=>obtain⟨vs,h1,h2⟩:=h; exact⟨vs,h1,h2.mono (λ l hm v hv=>hv.loc (hl l hm) he)⟩
theorem Leaf.lt_mono {n m:Nat} (h:n<=m) {l:Leaf} (hl:l.lt n):l.lt m:=by
 cases l with
 | sl id=>exact Nat.lt_of_lt_of_le hl h
 | ptr id off=>exact Nat.lt_of_lt_of_le hl h
 | ep id ix esz off=>exact Nat.lt_of_lt_of_le hl h
 | ap id=>exact Nat.lt_of_lt_of_le hl h
 | fn f caps=>exact λ c hc=>Nat.lt_of_lt_of_le (hl c hc) h
 | _=>trivial
theorem V1.lt_mono {n m:Nat} (h:n<=m) {x:V1} (hl:x.lt n):x.lt m:=by
 cases x with
 | one l=>exact Leaf.lt_mono h hl
 | agg ls=>exact λ l hm=>Leaf.lt_mono h (hl l hm)
 | any=>trivial
theorem AV.lt_mono {n m:Nat} (h:n<=m) {x:AV} (hl:x.lt n):x.lt m:=by
 cases x with
 | top=>trivial
 | v x=>exact V1.lt_mono h hl
 | tup xs=>exact λ l hm=>V1.lt_mono h (hl l hm)
def Jv (γ:Nat->Own) (k:Kind) (id:Nat) (fp:List Nat):Prop:=
 match k with
 | .imm taint=>∀ b∈fp,γ b=.persist∨(taint=true/\∃ j,γ b=.deep j)
 | .own true=>fp.Nodup/\∀ b∈fp,γ b=.deep id
 | .own false=>∀ b∈fp,γ b=.persist
 | .lent=>fp.Nodup/\∀ b∈fp,γ b=.deep id
def EntOk [Tags] (γ:Nat->Own) (loc:Nat->Value) (w:World) (id:Nat):Ent->Prop
 | .box _ cells=>∃ b arr T fr,loc id=.pointer (some ⟨b,0,none⟩)/\w.heap[b]?=some (.cells arr T fr)/\frees fr arr.size/\γ b=.top id/\
   All2 (LeafOk loc) cells arr.toList
 | .arr (.imm taint) _ E e xs=>∃ fp,Rd w (.sl E e) xs [loc id] fp/\Jv γ (.imm taint) id fp
 | .arr .lent _ E e xs=>∃ fp,Rd w (.sl E e) xs [loc id] fp/\Jv γ .lent id fp
 | .cst cells=>∃ b arr T fr,loc id=.pointer (some ⟨b,0,none⟩)/\w.heap[b]?=some (.cells arr T fr)/\γ b=.persist/\
   All2 (LeafOk loc) cells arr.toList
 | .arr (.own u) _ E e v=>∃ xs fs,RdO w (.sl E e) v [loc id] xs fs/\(∀ b∈xs,γ b=.top id)/\Jv γ (.own u) id fs
def Ent.lt (n:Nat):Ent->Prop
 | .box _ cells=>∀ l∈cells,l.lt n
 | .cst cells=>∀ l∈cells,l.lt n
 | .arr .. => True
def Unfr (w:World) (b:Nat):Prop:=∀ arr T fr,w.heap[b]?=some (.cells arr T fr)->frees fr arr.size
theorem Unfr.of {w:World} {b:Nat} {arr:Array Value} {T:TypeId} {fr:Nat×Nat} (h:w.heap[b]?=some (.cells arr T fr)) (hf:frees fr arr.size):Unfr w b:=by
 intro arr' T' fr' h';rw[h] at h'; cases h'; exact hf
theorem Unfr.big [Tags] {w:World} {b:Nat} (h:w.heap.size<=b):Unfr w b:=by
 intro arr T fr h';have:=Z0 h';omega
theorem Unfr.congr {w w':World} {b:Nat} (h:Unfr w b) (he:w'.heap[b]?=w.heap[b]?):Unfr w' b:=by
 intro arr T fr h';rw[he] at h'; exact h arr T fr h'
def Shape (w0 w:World) (b:Nat):Prop:=∀ arr T fr,w0.heap[b]?=some (.cells arr T fr)->∃ arr',w.heap[b]?=some (.cells arr' T fr)/\arr'.size=arr.size
theorem Shape.refl (w:World) (b:Nat):Shape w w b:=λ arr _ _ h=>⟨arr,h,rfl⟩
theorem Shape.trans {w0 w1 w2:World} {b:Nat} (h:Shape w0 w1 b) (k:Shape w1 w2 b):Shape w0 w2 b:=by
 intro arr T fr h0;obtain⟨a1,h1,e1⟩:=h arr T fr h0;obtain⟨a2,h2,e2⟩:=k a1 T fr h1;exact⟨a2,h2,e2.trans e1⟩
theorem Shape.same {w0 w:World} {b:Nat} (h:w.heap[b]?=w0.heap[b]?):Shape w0 w b:=λ arr T fr h0=>⟨arr,by rw[h]; exact h0,rfl⟩
structure Keeps (B:Nat) (X:List Nat) (w0 w:World):Prop where
 os:w.os=w0.os
 tape:w.tape=w0.tape
 output:w.output=w0.output
 size:w0.heap.size<=w.heap.size
 block:∀ k,k<B->k∉X->w.heap[k]?=w0.heap[k]?
 free:∀ k,Unfr w0 k->Unfr w k
 shape:∀ k,Shape w0 w k
def owned:Own->Prop
 | .top _=>True
 | .deep _=>True
 | _=>False
structure KeepsW (B:Nat) (X:List Nat) (w0 w:World):Prop where
 os:w.os=w0.os
 tape:w.tape=w0.tape
 output:w.output=w0.output
 size:w0.heap.size<=w.heap.size
 block:∀ k,k<B->k∉X->w.heap[k]?=w0.heap[k]?
 free:∀ k,k<w0.heap.size->Unfr w0 k->Unfr w k
 shape:∀ k,Shape w0 w k
theorem KeepsW.refl [Tags] (B:Nat) (X:List Nat) (w:World):KeepsW B X w w:=⟨rfl,rfl,rfl,Nat.le_refl _,λ _ _ _=>rfl,λ _ _ h=>h,Shape.refl w⟩
theorem KeepsW.trans [Tags] {B:Nat} {X:List Nat} {a b c:World} (h:KeepsW B X a b) (k:KeepsW B X b c):KeepsW B X a c:=
 ⟨k.os.trans h.os,k.tape.trans h.tape,k.output.trans h.output,Nat.le_trans h.size k.size,λ i hi hx=>(k.block i hi hx).trans (h.block i hi hx),
  λ i hl hi=>k.free i (Nat.lt_of_lt_of_le hl h.size) (h.free i hl hi),λ i=>(h.shape i).trans (k.shape i)⟩
theorem Keeps.weak {B:Nat} {X:List Nat} {a b:World} (h:Keeps B X a b):KeepsW B X a b:=⟨h.os,h.tape,h.output,h.size,h.block,λ k _ hk=>h.free k hk,h.shape⟩
theorem Keeps.refl [Tags] (B:Nat) (X:List Nat) (w:World):Keeps B X w w:=⟨rfl,rfl,rfl,Nat.le_refl _,λ _ _ _=>rfl,λ _ h=>h,Shape.refl w⟩
theorem Keeps.trans [Tags] {B:Nat} {X:List Nat} {a b c:World} (h:Keeps B X a b) (k:Keeps B X b c):Keeps B X a c:=
 ⟨k.os.trans h.os,k.tape.trans h.tape,k.output.trans h.output,Nat.le_trans h.size k.size,λ i hi hx=>(k.block i hi hx).trans (h.block i hi hx),λ i hi=>k.free i (h.free i hi),λ i=>(h.shape i).trans (k.shape i)⟩
structure Glob where
 gb:List Nat
 G:World->Prop
 frame:∀ {w w':World},G w->(∀ b∈gb,w'.heap[b]?=w.heap[b]?)->G w'
def Glob.none:Glob:=⟨[],λ _=>True,λ _ _=>trivial⟩
structure UC (gl:Glob) (B:Nat) (X:List Nat) (w0:World):Prop where
 holds:gl.G w0
 apart:∀ b∈gl.gb,b<B/\b∉X
 start:w0.heap.size<=B
 xfree:∀ b∈X,Unfr w0 b
structure Ctx where
 rds:List Nat
 pins:List (Nat×Value)
 dl:List (Nat×Nat):=[]
 dps:List Nat:=[]
 hi:Nat:=0
 gl:Glob:=Glob.none
 tg:Bool:=false
structure Rel0 [Tags] (B:Nat) (X:List Nat) (A:Ctx) (w0:World) (γ:Nat->Own) (loc:Nat->Value) (st:St) (a:Act) (w:World):Prop where
 defers:a.defers=[]
 keeps:KeepsW B X w0 w
 unf:∀ b,owned (γ b)->Unfr w b
 old:∀ b,b<B->b∉X->γ b=.alien∨(γ b=.persist/\b∈A.rds)
 Ble:B<=w.heap.size
 size:st.slots.length=a.tmps.size
 slots:∀ (t:Nat) (v:AV),st.slots[t]?=some v->AVOk loc v (a.tmps.getD t undef)
 ents:∀ (id:Nat) (e:Ent),look st.tab id=some e->EntOk γ loc w id e
 slt:∀ (t:Nat) (v:AV),st.slots[t]?=some v->v.lt st.nxt
 elt:∀ (id:Nat) (e:Ent),look st.tab id=some e->e.lt st.nxt/\id<st.nxt
 pins:∀ p∈A.pins,p.1<st.nxt/\loc p.1=p.2
 dlab:∀ p∈A.dl,st.nxt<=A.hi->γ p.1=.deep p.2/\(p.2<st.nxt∨A.hi<=p.2)/\look st.tab p.2=none/\p.1<w.heap.size
 glob:UC A.gl B X w0
 dpc:∀ b∈A.dps,b<w.heap.size/\(γ b=.persist∨∃ j,γ b=.deep j)/\w.heap[b]?=w0.heap[b]?
 rtag:A.tg=true->∀ b∈A.rds,∀ arr fr,w0.heap[b]?≠some (.cells arr Tags.post fr)
theorem Rel0.globAt [Tags] {B:Nat} {X:List Nat} {A:Ctx} {w0:World} {γ:Nat->Own} {loc:Nat->Value} {st:St} {a:Act} {w:World} (h:Rel0 B X A w0 γ loc st a w):A.gl.G w:=
 A.gl.frame h.glob.holds λ b hb=>h.keeps.block b (h.glob.apart b hb).1 (h.glob.apart b hb).2
theorem Rel0.globApart [Tags] {B:Nat} {X:List Nat} {A:Ctx} {w0:World} {γ:Nat->Own} {loc:Nat->Value} {st:St} {a:Act} {w:World} (h:Rel0 B X A w0 γ loc st a w) {b:Nat} (hb:b∈A.gl.gb):
  b<w.heap.size/\(γ b=.alien∨γ b=.persist):=by
 obtain⟨h1,h2⟩:=h.glob.apart b hb;exact⟨Nat.lt_of_lt_of_le h1 h.Ble,(h.old b h1 h2).imp id And.left⟩
theorem Rel0.unfr [Tags] {B:Nat} {X:List Nat} {A:Ctx} {w0:World} {γ:Nat->Own} {loc:Nat->Value} {st:St} {a:Act} {w:World} (h:Rel0 B X A w0 γ loc st a w) {b:Nat}
  (h1:γ b ≠ .alien) (h2:γ b ≠ .persist):Unfr w b:=by
 refine h.unf b ?_;cases hg:γ b with
 | alien=>exact absurd hg h1
 | persist=>exact absurd hg h2
 | top i=>trivial
 | deep i=>trivial
def Rel [Tags] (B:Nat) (X:List Nat) (A:Ctx) (w0:World) (st:St) (a:Act) (w:World):Prop:=∃ γ loc,Rel0 B X A w0 γ loc st a w
noncomputable section
def lock:Bool:=Classical.choice ⟨true⟩
def wr (n:Int):Int:=bif lock then (n+9223372036854775808) % 18446744073709551616 - 9223372036854775808 else (n+9223372036854775808) % 18446744073709551616 - 9223372036854775808
theorem oC (n:Int):wr n=(n+9223372036854775808) % 18446744073709551616 - 9223372036854775808:=by unfold wr; cases lock<;>rfl
def band (x y:Int):Int:=wr (BitVec.ofInt 64 x &&& BitVec.ofInt 64 y).toNat
def bor (x y:Int):Int:=wr (BitVec.ofInt 64 x ||| BitVec.ofInt 64 y).toNat
def bxor (x y:Int):Int:=wr (BitVec.ofInt 64 x ^^^ BitVec.ofInt 64 y).toNat
def shl (x y:Int):Int:=wr (x*2 ^ min y.toNat 64)
def shr (x y:Int):Int:=x.fdiv (2 ^ min y.toNat 64)
def mx (x y:Int):Int:=bif lock then (if y>x then y else x) else (if y>x then y else x)
theorem Ms (x y:Int):mx x y=if y>x then y else x:=by unfold mx; cases lock<;>rfl
def mn (x y:Int):Int:=bif lock then (if y<x then y else x) else (if y<x then y else x)
theorem cD (x y:Int):mn x y=if y<x then y else x:=by unfold mn; cases lock<;>rfl
def y8 (n:Int):UInt8:=bif lock then UInt8.ofNat (n % 256).toNat else UInt8.ofNat (n % 256).toNat
theorem wc (n:Int):y8 n=UInt8.ofNat (n % 256).toNat:=by unfold y8; cases lock<;>rfl
@[reducible] def rd (e:Ty) (xs:List (den e)) (i:Nat):den e:=xs.getD i (dflt e)
structure TD where
 ty:Ty
 bytes:Nat
 flds:List (Nat×Nat)
 arr:Option Nat:=none
@[reducible] def dens:List Ty->Type
 | []=>Unit
 | t::ts=>den t×dens ts
inductive PK where
 | rd|ptr|own|cap|clo (f:Nat)
 deriving DecidableEq
def PK.upd:PK->Bool
 | .ptr=>true
 | _=>false
inductive RK where
 | uniq|own|shared
 deriving DecidableEq
@[reducible] def yc (ps:List (PK×Ty)):Type:=dens (ps.map (·.2))
@[reducible] def zW (ps:List (PK×Ty)) (rets:List Ty):Type:=dens (((ps.filter λ p=>p.1.upd).map (·.2))++rets)
structure PF where
 params:List (PK×Ty)
 rets:List Ty
 rk:RK
 fn:yc params->Option (zW params rets)
structure NF where
 params:List (PK×Ty)
 ret:Ty
 fn:yc params->Option (den ret)
structure MF where
 ty:Ty
 fn:den ty×Int×Unit->Option (den ty×Int×Unit)
structure Env where
 tys:List (Nat×TD)
 fns:List (Nat×PF)
 eqs:List Nat:=[]
 news:List (Nat×NF):=[]
 muts:List (Nat×MF):=[]
 frz:Bool:=false
 conds:List (Nat×PF):=[]
 joins:List (Nat×PF):=[]
 alts:List (Nat×PF):=[]
 hold:Bool:=false
 thaws:List (Nat×Nat):=[]
def lk {α:Type}:List (Nat×α)->Nat->Option α
 | [],_=>none
 | (k,e)::r,i=>match Nat.beq k i with
  | true=>some e
  | false=>lk r i
def St.put (st:St) (dst:Option Nat) (x:AV):St:=
 match dst with
 | none=>st
 | some d=>{ st with slots:=st.slots.set d x }
def Ic (n:Int):Bool:=decide (-9223372036854775808<=n) && decide (n<=9223372036854775807)
def pc:Value->Option AV
 | .int .i64 n=>match Ic n with|true=>some (.v (.one (.i n)))|false=>none
 | .int .u8 n=>match decide (0<=n) && decide (n<256) with|true=>some (.v (.one (.u (UInt8.ofNat n.toNat))))|false=>none
 | .bool b=>some (.v (.one (.b b)))
 | .string s=>match Nat.ble s.data.toList.length 140737488355328 with|true=>some (.v (.one (.s s.data.toList)))|false=>none
 | .slice none 0 0=>some (.v (.one .nil))
 | .pointer none=>some .top
 | _=>none
def opnd (st:St):Operand->Option AV
 | .tmp t=>st.slots[t]?
 | .const v=>pc v
 | .func f=>some (.v (.one (.fn f [])))
 | .global _=>none
def zC (st:St) (x:Operand):Option Leaf:=match opnd st x with|some (.v (.one l))=>some l|_=>none
def Kc (st:St) (x:Operand):Option (List Leaf):=match opnd st x with|some (.v (.one l))=>some [l]|some (.v (.agg ls))=>some ls|_=>none
def Lr (st:St):Option Operand->Option (Option Leaf)
 | none=>some none
 | some y=>match zC st y with|some l=>some (some l)|none=>none
def bnd (m:Int):Option Leaf->Option Int
 | none=>some m
 | some (.i a)=>some a
 | _=>none
def Yo (t:Ty) (ls:List Leaf):Option V1:=
 match t.isPair with
 | true=>some (.agg ls)
 | false=>match ls with|[l]=>some (.one l)|_=>none
def Yi:Ty->List Leaf
 | .i64=>[.i 0] | .u8=>[.u 0] | .bool=>[.b false] | .str=>[.s []] | .sl _ _=>[.nil]
 | .pair a b=>Yi a++Yi b
def ze (k:Kind) (lvl:Nat):(t:Ty)->den t->Nat->List Leaf×List (Nat×Ent)×Nat
 | .i64,n,j=>([.i n],[],j)
 | .u8,n,j=>([.u n],[],j)
 | .bool,n,j=>([.b n],[],j)
 | .str,n,j=>([.s n],[],j)
 | .sl E e,xs,j=>([.sl j],[(j,.arr k lvl E e xs)],j+1)
 | .pair a b,v,j=>
  match ze k lvl a v.1 j with
  | (l1,t1,j1)=>match ze k lvl b v.2 j1 with
   | (l2,t2,j2)=>(l1++l2,t1++t2,j2)
def bB (e e':Ty) (xs:List (den e)):Option (List (den e')):=if h:e=e' then some (h▸xs) else none
def fz (E E':Nat) (e e':Ty) (xs:List (den e)):Option (List (den e')):=match Nat.beq E E' with|true=>bB e e' xs|false=>none
def zQ (tab:List (Nat×Ent)):(t:Ty)->List Leaf->Option (den t×List Leaf)
 | .i64,.i n::r=>some (n,r)
 | .u8,.u n::r=>some (n,r)
 | .bool,.b n::r=>some (n,r)
 | .str,.s n::r=>some (n,r)
 | .sl _ _,.nil::r=>some ([],r)
 | .sl E e,.sl id::r=>match look tab id with
  | some (.arr _ _ E' e' xs)=>match fz E' E e' e xs with|some ys=>some (ys,r)|none=>none
  | _=>none
 | .pair a b,ls=>match zQ tab a ls with
  | some (x,r)=>match zQ tab b r with|some (y,r')=>some ((x,y),r')|none=>none
  | none=>none
 | _,_=>none
def jJ (tab:List (Nat×Ent)) (t:Ty) (ls:List Leaf):Option (den t):=
 match zQ tab t ls with|some (x,[])=>some x|_=>none
def part:(e:Ty)->den e->(off:Nat)->(t:Ty)->Option (den t)
 | .pair a b,v,off,t=>
  if h:off=0/\Ty.pair a b=t then some (h.2▸v)
  else if off<a.size then part a v.1 off t else part b v.2 (off - a.size) t
 | e,v,off,t=>if h:off=0/\e=t then some (h.2▸v) else none
def Jg:(e:Ty)->den e->(off:Nat)->(t:Ty)->den t->Option (den e)
 | .pair a b,v,off,t,x=>
  if h:off=0/\t=Ty.pair a b then some (h.2▸x)
  else if off<a.size then match Jg a v.1 off t x with|some y=>some (y,v.2)|none=>none
  else match Jg b v.2 (off - a.size) t x with|some y=>some (v.1,y)|none=>none
 | e,_,off,t,x=>if h:off=0/\t=e then some (h.2▸x) else none
def ak:(e:Ty)->(off:Nat)->(t:Ty)->Option (den t->den e->den e)
 | .pair a b,off,t=>
  if h:off=0/\t=Ty.pair a b then some (λ x _=>h.2▸x)
  else if off<a.size then match ak a off t with|some g=>some (λ x v=>(g x v.1,v.2))|none=>none
  else match ak b (off - a.size) t with|some g=>some (λ x v=>(v.1,g x v.2))|none=>none
 | e,off,t=>if h:off=0/\t=e then some (λ x _=>h.2▸x) else none
def modi (e:Ty) (xs:List (den e)) (i:Nat) (g:den e->den e):List (den e):=xs.set i (g (rd e xs i))
def vg (e:Ty) (off:Nat) (t:Ty):Option (List (den e)->Nat->den t->List (den e)):=
 if h:off=0/\t=e then some (λ xs i x=>xs.set i (h.2▸x))
 else match ak e off t with
  | some g=>some (λ xs i x=>modi e xs i (g x))
  | none=>none
def mO:List Leaf->Nat->List Leaf->List Leaf
 | ls,off,xs=>ls.take off++xs++ls.drop (off+xs.length)
def given (st:St):List Leaf->Option (List Nat)
 | []=>some []
 | .sl id::r=>match look st.tab id with
  | some (.arr (.own true) lvl _ _ _)=>match Nat.beq lvl st.lvl with
   | true=>match given st r with
    | some ids=>match ids.elem id with|true=>none|false=>some (id::ids)
    | none=>none
   | false=>none
  | _=>none
 | .i _::r | .u _::r | .b _::r | .s _::r | .nil::r=>given st r
 | _::_=>none
def yw (st:St):List Leaf->Option (List Nat)
 | []=>some []
 | .sl id::r=>match look st.tab id with
  | some (.arr (.own _) lvl _ _ _)=>match Nat.beq lvl st.lvl with
   | true=>match yw st r with
    | some ids=>match ids.elem id with|true=>none|false=>some (id::ids)
    | none=>none
   | false=>none
  | _=>none
 | .i _::r | .u _::r | .b _::r | .s _::r | .nil::r=>yw st r
 | _::_=>none
def yF (st:St):List Leaf->Bool
 | []=>true
 | .sl id::r=>match look st.tab id with
  | some (.arr (.imm false) _ _ _ _)=>yF st r
  | _=>false
 | .i _::r | .u _::r | .b _::r | .s _::r | .nil::r=>yF st r
 | _::_=>false
def ZB (tab:List (Nat×Ent)):List Nat->List (Nat×Ent)
 | []=>tab
 | i::r=>ZB (erase tab i) r
def bg (st:St) (u:Bool) (ls:List Leaf):Option (Bool×List (Nat×Ent)):=
 match u with
 | true=>match given st ls with
  | some ids=>some (true,ZB st.tab ids)
  | none=>none
 | false=>match yF st ls with
  | true=>some (false,st.tab)
  | false=>none
def YE:List Leaf->List Leaf->Option Bool
 | [],[]=>some true
 | .i a::r,.i b::s=>match YE r s with|some z=>some ((a==b) && z)|none=>none
 | .u a::r,.u b::s=>match YE r s with|some z=>some ((a==b) && z)|none=>none
 | .b a::r,.b b::s=>match YE r s with|some z=>some ((a==b) && z)|none=>none
 | .s a::r,.s b::s=>match YE r s with|some z=>some ((a==b) && z)|none=>none
 | _,_=>none
def jp {R:Type} (op:BinOp) (x y:AV) (k:Leaf->Option R):Option R:=
 match x,y with
 | .v (.one (.i a)),.v (.one (.i b))=>
  match op with
  | .add=>k (.i (wr (a+b)))
  | .sub=>k (.i (wr (a - b)))
  | .mul=>k (.i (wr (a*b)))
  | .quo=>if b=0 then none else k (.i (wr (a.tdiv b)))
  | .rem=>if b=0 then none else k (.i (a.tmod b))
  | .and=>k (.i (band a b))
  | .or=>k (.i (bor a b))
  | .xor=>k (.i (bxor a b))
  | .shl=>if b<0 then none else k (.i (shl a b))
  | .shr=>if b<0 then none else k (.i (shr a b))
  | .eql=>k (.b (a==b)) | .neq=>k (.b (a != b)) | .lss=>k (.b (decide (a<b))) | .leq=>k (.b (decide (a<=b)))
  | .gtr=>k (.b (decide (a>b))) | .geq=>k (.b (decide (a≥b)))
  | _=>none
 | .v (.one (.u a)),.v (.one (.u b))=>
  match op with
  | .add=>k (.u (a+b))
  | .sub=>k (.u (a - b))
  | .eql=>k (.b (a==b)) | .neq=>k (.b (a != b)) | .lss=>k (.b (decide (a<b))) | .leq=>k (.b (decide (a<=b)))
  | .gtr=>k (.b (decide (a>b))) | .geq=>k (.b (decide (a≥b)))
  | _=>none
 | .v (.one (.b a)),.v (.one (.b b))=>
  match op with
  | .eql=>k (.b (a==b)) | .neq=>k (.b (a != b))
  | _=>none
 | .v (.one (.s a)),.v (.one (.s b))=>
  match op with
  | .add=>if a.length+b.length<=140737488355328 then k (.s (a++b)) else none
  | .eql=>k (.b (a==b)) | .neq=>k (.b (a != b))
  | .lss=>k (.b (Op.bytesLess a b))
  | .leq=>k (.b (Op.bytesLess a b || a==b))
  | .gtr=>k (.b (!(Op.bytesLess a b || a==b)))
  | .geq=>k (.b (!Op.bytesLess a b))
  | _=>none
 | .v (.agg a),.v (.agg b)=>
  match op,YE a b with
  | .eql,some z=>k (.b z)
  | .neq,some z=>k (.b (!z))
  | _,_=>none
 | _,_=>none
def Mr:Ty->Leaf->Bool
 | .i64,.i _=>true
 | .u8,.u _=>true
 | .bool,.b _=>true
 | .str,.s _=>true
 | _,_=>false
def Nd:Ty->List Leaf->Bool
 | .pair a b,l::r=>Mr a l && Nd b r
 | t,[l]=>Mr t l
 | _,_=>false
def fK (E:Env) (T:Nat):AV->Bool
 | .v (.one (.b _))=>match lk E.tys T with|some { ty:=.bool,.. }=>true|_=>false
 | .v (.agg ls)=>E.eqs.elem T && (match lk E.tys T with|some d=>Nd d.ty ls|none=>false)
 | _=>true
def Nc {R:Type} (td ts:Ty) (st:St) (x:Leaf) (k:Leaf->List (Nat×Ent)->Nat->Option R):Option R:=
 match ts,td,x with
 | .i64,.u8,.i n=>k (.u (y8 n)) st.tab st.nxt
 | .u8,.i64,.u n=>k (.i (n.toNat:Int)) st.tab st.nxt
 | .i64,.i64,.i n=>k (.i n) st.tab st.nxt
 | .u8,.u8,.u n=>k (.u n) st.tab st.nxt
 | .str,.str,.s l=>k (.s l) st.tab st.nxt
 | .str,.sl E .u8,.s l=>k (.sl st.nxt) ((st.nxt,.arr (.imm false) st.lvl E .u8 l)::st.tab) (st.nxt+1)
 | .sl _ .u8,.str,.nil=>k (.s []) st.tab st.nxt
 | .sl _ .u8,.str,.sl id=>match look st.tab id with
  | some (.arr _ _ _ .u8 xs)=>k (.s xs) st.tab st.nxt
  | _=>none
 | _,_,_=>none
def qR (E:Env) (flds:List (Nat×Nat)) (st:St):List (Nat×Operand)->List Leaf->Option (List Leaf)
 | [],ls=>some ls
 | (i,x)::r,ls=>match flds[i]? with
  | some (off,ft)=>match lk E.tys ft,Kc st x with
   | some d,some xs=>match Nat.beq xs.length d.ty.size && Nat.ble (off+xs.length) ls.length with
    | true=>qR E flds st r (mO ls off xs)
    | false=>none
   | _,_=>none
  | none=>none
def Ju (st:St) (e:Ty):Nat->List (Nat×Operand)->Option (List (den e)×List Leaf)
 | _,[]=>some ([],[])
 | n,(i,x)::r=>match Nat.beq i n,Kc st x with
  | true,some ls=>match jJ st.tab e ls with
   | some v=>match Ju st e (n+1) r with
    | some (vs,ls')=>some (v::vs,ls++ls')
    | none=>none
   | none=>none
  | _,_=>none
def qD (t:Ty):AV->Option (List Leaf)
 | .v (.one l)=>match t.isPair with|false=>some [l]|true=>none
 | .v (.agg ls)=>match t.isPair with|true=>some ls|false=>none
 | _=>none
def yb:List Leaf->List Nat
 | []=>[]
 | .sl id::r=>id::yb r
 | _::r=>yb r
structure Given (ps:List (PK×Ty)) where
 vs:yc ps
 rl:List Leaf
 ol:List Leaf
 pl:List Leaf
 pids:List Nat
 cids:List Nat
def cellsOf (st:St) (id:Nat):Option (List Leaf):=match look st.tab id with
 | some (.box _ cells)=>some cells
 | some (.cst cells)=>some cells
 | _=>none
def zU (st:St):(ps:List (PK×Ty))->List AV->Option (Given ps)
 | [],[]=>some ⟨(),[],[],[],[],[]⟩
 | (.rd,t)::ps,x::xs=>match qD t x with
  | some ls=>match jJ st.tab t ls,zU st ps xs with
   | some v,some g=>some ⟨(v,g.vs),ls++g.rl,g.ol,g.pl,g.pids,g.cids⟩
   | _,_=>none
  | none=>none
 | (.own,t)::ps,x::xs=>match qD t x with
  | some ls=>match jJ st.tab t ls,zU st ps xs with
   | some v,some g=>some ⟨(v,g.vs),g.rl,ls++g.ol,g.pl,g.pids,g.cids⟩
   | _,_=>none
  | none=>none
 | (.ptr,t)::ps,x::xs=>match x with
  | .v (.one (.ptr id 0))=>match look st.tab id with
   | some (.box lvl cells)=>match Nat.beq lvl st.lvl,jJ st.tab t cells,zU st ps xs with
    | true,some v,some g=>some ⟨(v,g.vs),g.rl,g.ol,cells++g.pl,id::g.pids,g.cids⟩
    | _,_,_=>none
   | _=>none
  | _=>none
 | (.cap,t)::ps,x::xs=>match x with
  | .v (.one (.ptr id 0))=>match cellsOf st id with
   | some cells=>match jJ st.tab t cells,zU st ps xs with
    | some v,some g=>some ⟨(v,g.vs),cells++g.rl,g.ol,g.pl,g.pids,id::g.cids⟩
    | _,_=>none
   | _=>none
  | _=>none
 | (.clo f,t)::ps,x::xs=>match x with
  | .v (.one (.fn h [id]))=>match cellsOf st id with
   | some cells=>match Nat.beq h f,jJ st.tab t cells,zU st ps xs with
    | true,some v,some g=>some ⟨(v,g.vs),cells++g.rl,g.ol,g.pl,g.pids,id::g.cids⟩
    | _,_,_=>none
   | _=>none
  | _=>none
 | _,_=>none
def disj (a b:List Nat):Bool:=a.all λ x => !(b.elem x)
def cF:List Nat->Bool
 | []=>true
 | x::xs => !(xs.elem x) && cF xs
def mixLs:(t:Ty)->den t->List Leaf->List Leaf×List Leaf
 | .i64,n,_::r=>([.i n],r)
 | .u8,n,_::r=>([.u n],r)
 | .bool,n,_::r=>([.b n],r)
 | .str,n,_::r=>([.s n],r)
 | .sl _ _,_,l::r=>([l],r)
 | .pair a b,v,ls=>match mixLs a v.1 ls with
  | (x,r)=>match mixLs b v.2 r with
   | (y,r')=>(x++y,r')
 | _,_,[]=>([],[])
def Leaf.isSl:Leaf->Bool
 | .sl _=>true
 | .nil=>true
 | _=>false
def ZL:List Leaf->List Leaf->Bool
 | [],[]=>true
 | .sl i::r,.sl j::s=>Nat.beq i j && ZL r s
 | .nil::r,.nil::s=>ZL r s
 | x::r,y::s => !x.isSl && !y.isSl && ZL r s
 | _,_=>false
def Yt (rets:List Ty) (lvl:Nat):(ps:List (PK×Ty))->List Nat->zW ps rets->List (Nat×Ent)->Nat->Option (List (Nat×Ent)×Nat×dens rets)
 | [],_,v,tab,j=>some (tab,j,v)
 | (.ptr,t)::ps,ids,v,tab,j=>match ids with
  | id::ids=>match look tab id with
   | some (.box _ cells)=>Yt rets lvl ps ids v.2 (yE tab id (.box lvl (mixLs t v.1 cells).1)) j
   | _=>none
  | []=>none
 | (.rd,_)::ps,ids,v,tab,j=>Yt rets lvl ps ids v tab j
 | (.own,_)::ps,ids,v,tab,j=>Yt rets lvl ps ids v tab j
 | (.cap,_)::ps,ids,v,tab,j=>Yt rets lvl ps ids v tab j
 | (.clo _,_)::ps,ids,v,tab,j=>Yt rets lvl ps ids v tab j
def ZK (k:Kind) (lvl:Nat):(ts:List Ty)->dens ts->Nat->Option (List V1×List (Nat×Ent)×Nat)
 | [],_,j=>some ([],[],j)
 | t::ts,v,j=>match ze k lvl t v.1 j with
  | (ls,es,j')=>match Yo t ls,ZK k lvl ts v.2 j' with
   | some x,some (xs,es',j'')=>some (x::xs,es++es',j'')
   | _,_=>none
def RK.kind:RK->Kind
 | .uniq=>.own true
 | .own=>.own false
 | .shared=>.imm false
def RK.isUniq:RK->Bool
 | .uniq=>true
 | _=>false
def kP (st:St) {ps:List (PK×Ty)} (g:Given ps) (rk:RK) (oids:List Nat):Bool:=
 yF st g.pl && cF g.pids && disj oids (yb g.rl) && disj g.pids g.cids && (rk.isUniq || (yF st g.rl && g.cids.isEmpty))
def QS:List V1->AV
 | [x]=>.v x
 | xs=>.tup xs
def PK.isRd:PK->Bool
 | .rd=>true
 | _=>false
def fO {R:Type} (nf:NF) (args:List AV) (dst:Option Nat) (st:St) (k:St->Option R):Option R:=
 match zU st nf.params args with
 | none=>none
 | some g=>match (nf.params.all λ p=>p.1.isRd) && yF st g.rl with
  | false=>none
  | true=>(nf.fn g.vs).bind λ v=>match ze (.imm false) st.lvl nf.ret v (st.nxt+1) with
   | (ls,es,j)=>k (St.put { st with tab:=es++(st.nxt,.box st.lvl ls)::st.tab,nxt:=j } dst (.v (.one (.ptr st.nxt 0))))
def Zk (rets:List Ty):(ps:List (PK×Ty))->zW ps rets->dens rets
 | [],v=>v
 | (.ptr,_)::ps,v=>Zk rets ps v.2
 | (.rd,_)::ps,v=>Zk rets ps v
 | (.own,_)::ps,v=>Zk rets ps v
 | (.cap,_)::ps,v=>Zk rets ps v
 | (.clo _,_)::ps,v=>Zk rets ps v
def Yn:(ts:List Ty)->dens ts->Option Bool
 | [],_=>none
 | [.bool],v=>some v.1
 | _::ts,v=>Yn ts v.2
def aj (b:Bool):List V1->List V1
 | []=>[]
 | [_]=>[.one (.b b)]
 | x::r=>x::aj b r
def qA (t:Ty):V1:=if t.isPair then .agg (List.replicate t.size .any) else .one .any
def M5 (b:Bool):List Ty->List V1
 | []=>[]
 | [_]=>[.one (.b b)]
 | t::ts=>qA t::M5 b ts
def PK.isRo:PK->Bool
 | .rd=>true
 | .own=>true
 | _=>false
def qO {R:Type} (cf:PF) (args:List AV) (dst:Option Nat) (st:St) (k:St->Option R):Option R:=
 match zU st cf.params args with
 | none=>none
 | some g=>match yw st g.ol with
  | none=>none
  | some oids=>match kP st g cf.rk oids && (cf.params.all λ p=>p.1.isRo) with
   | false=>none
   | true=>(cf.fn g.vs).bind λ outs=>match Yn cf.rets (Zk cf.rets cf.params outs) with
    | none=>none
    | some b=>bif b
     then (match Yt cf.rets st.lvl cf.params g.pids outs (ZB st.tab oids) st.nxt with
      | none=>none
      | some (tab,j,rs)=>match ZK cf.rk.kind st.lvl cf.rets rs j with
       | none=>none
       | some (xs,es,j')=>k (St.put { st with tab:=es++tab,nxt:=j' } dst (QS (aj true xs))))
     else k (st.put dst (QS (M5 false cf.rets)))
def Ka:List (PK×Ty)->Bool
 | []=>true
 | (.own,_)::r=>Ka r
 | (.rd,t)::r => !t.hasSl && Ka r
 | _=>false
def sa:List Ty->Bool
 | [.sl _ _]=>true
 | _=>false
def qQ {R:Type} (cf:PF) (args:List AV) (dst:Option Nat) (st:St) (k:St->Option R):Option R:=
 match zU st cf.params args with
 | none=>none
 | some g=>match given st g.ol with
  | none=>none
  | some oids=>match Ka cf.params && sa cf.rets with
   | false=>none
   | true=>(cf.fn g.vs).bind λ outs=>match ZK (.own true) st.lvl cf.rets (Zk cf.rets cf.params outs) st.nxt with
    | none=>none
    | some (xs,es,j)=>k (St.put { st with tab:=es++ZB st.tab oids,nxt:=j } dst (QS xs))
def Nb {R:Type} (pf:PF) (args:List AV) (dst:Option Nat) (st:St) (k:St->Option R):Option R:=
 match zU st pf.params args with
 | none=>none
 | some g=>match yw st g.ol with
  | none=>none
  | some oids=>match kP st g pf.rk oids with
   | false=>none
   | true=>(pf.fn g.vs).bind λ outs=>
    match Yt pf.rets st.lvl pf.params g.pids outs (ZB st.tab oids) st.nxt with
    | none=>none
    | some (tab,j,rs)=>match ZK pf.rk.kind st.lvl pf.rets rs j with
     | none=>none
     | some (xs,es,j')=>k (St.put { st with tab:=es++tab,nxt:=j' } dst (QS xs))
def oR:(ts:List Ty)->dens ts->Option AV
 | [t,.i64],v=>some (.tup [qA t,.one (.i v.2.1)])
 | _,_=>none
def oS:(ts:List Ty)->dens ts->Bool
 | [_,.i64],v=>v.2.1 != 0
 | _,_=>false
def Me {α:Type} (o:Option α) (p:α->Bool):Bool:=match o with
 | some v=>p v
 | none=>false
def has {α:Type} (o:Option (α×Int×Unit)):Bool:=Me o λ v=>v.2.1 != 0
def fL {R:Type} (qf:PF) (args:List AV) (dst:Option Nat) (st:St) (k:St->Option R) (oth:Option R):Option R:=
 match zU st qf.params args with
 | none=>none
 | some g=>match qf.params.all λ p=>p.1.isRd with
  | false=>none
  | true=>bif Me (qf.fn g.vs) (λ outs=>oS qf.rets (Zk qf.rets qf.params outs))
   then ((qf.fn g.vs).bind λ outs=>match oR qf.rets (Zk qf.rets qf.params outs) with
    | none=>none
    | some v=>k (st.put dst v))
   else oth
def qN {R:Type} (E:Env) (f:Nat) (args:List AV) (dst:Option Nat) (st:St) (k:St->Option R):Option R:=
 match lk E.fns f with
 | none=>match lk E.news f with
  | none=>match lk E.conds f with
   | none=>match lk E.joins f with
    | none=>none
    | some cf=>qQ cf args dst st k
   | some cf=>qO cf args dst st k
  | some nf=>fO nf args dst st k
 | some pf=>match lk E.alts f with
  | none=>Nb pf args dst st k
  | some qf=>fL qf args dst st k (Nb pf args dst st k)
def opnds (st:St):List Operand->Option (List AV)
 | []=>some []
 | x::xs=>match opnd st x,opnds st xs with
  | some a,some as=>some (a::as)
  | _,_=>none
def Qx (k:Kind):Kind:=match k with | .imm t=>.imm t | .own true=>.imm true | .own false=>.imm false | .lent=>.imm true
def K9 {R:Type} (t:Ty) (p:Leaf) (st:St) (k:V1->St->Option R):Option R:=
 match p with
 | .ptr id off=>match look st.tab id with
  | some (.box _ cells)=>match Nat.ble (off+t.size) cells.length,Yo t ((cells.drop off).take t.size) with
   | true,some x=>k x st
   | _,_=>none
  | some (.cst cells)=>match Nat.ble (off+t.size) cells.length,Yo t ((cells.drop off).take t.size) with
   | true,some x=>k x st
   | _,_=>none
  | _=>none
 | .ep id ix esz off=>match look st.tab id with
  | some (.arr kd _ _ e xs)=>match Nat.beq e.size esz,part e (rd e xs ix) off t with
   | true,some v=>match ze (Qx kd) st.lvl t v st.nxt with
    | (ls,es,j)=>match Yo t ls with
     | some x=>k x { st with tab:=es++st.tab,nxt:=j }
     | none=>none
   | _,_=>none
  | _=>none
 | _=>none
def po (t:Ty) (p:Leaf) (ls:List Leaf) (st:St):Option St:=
 match p with
 | .ptr id off=>match look st.tab id with
  | some (.box lvl cells)=>match Nat.beq lvl st.lvl && Nat.beq ls.length t.size && Nat.ble (off+t.size) cells.length with
   | true=>some { st with tab:=yE st.tab id (.box lvl (mO cells off ls))}
   | false=>none
  | _=>none
 | .ep id ix esz off=>match look st.tab id with
  | some (.arr (.own u) lvl E e xs)=>match Nat.beq lvl st.lvl && Nat.beq e.size esz,jJ st.tab t ls with
   | true,some v=>match vg e off t,bg st (u && e.hasSl) ls with
    | some F,some (_,tab)=>match look tab id with
     | some _=>some { st with tab:=yE tab id (.arr (.own u) lvl E e (F xs ix v))}
     | none=>none
    | _,_=>none
   | _,_=>none
  | _=>none
 | _=>none
def YQ (E:Env) (T:Nat):Nat:=match lk E.tys T with|some d=>d.bytes|none=>0
def qB (st:St) (e:Ty) (u:Bool) (x:Leaf):Option (List (den e)×Bool×List (Nat×Ent)):=
 match x with
 | .nil=>some ([],u,st.tab)
 | .s l=>match e with | .u8=>some (l,u,st.tab)|_=>none
 | .sl id=>match look st.tab id with
  | some (.arr kd lvl _ e' xs)=>match bB e' e xs with
   | none=>none
   | some ys=>match e.hasSl with
    | false=>some (ys,u,st.tab)
    | true=>match kd with
     | .own true=>match Nat.beq lvl st.lvl with
      | true=>some (ys,u,erase st.tab id)
      | false=>none
     | .imm false=>some (ys,false,st.tab)
     | .own false=>some (ys,false,st.tab)
     | .imm true=>none
     | .lent=>none
  | _=>none
 | _=>none
def M6 (E:Env) (T:Nat):Bool:=match lk E.tys T with
 | some { ty:=.sl _ _,arr:=none,.. }=>true
 | some { ty:=.str,.. }=>true
 | _=>false
def L8 {R:Type} (E:Env) (T:Nat) (s x:Leaf) (dst:Option Nat) (st:St) (k:St->Option R):Option R:=
 match lk E.tys T with
 | some { ty:=.sl ET e,arr:=none,.. }=>match s with
  | .nil=>match qB st e (match x with | .sl id=>(match look st.tab id with|some (.arr (.own true) _ _ _ _)=>true|some (.arr _ _ _ e _) => !e.hasSl|_=>true)|_=>true) x with
   | some (ys,u,tab)=>if ys.length*YQ E ET<=70368744177664 then
     k (St.put { st with tab:=(st.nxt,.arr (.own u) st.lvl ET e ys)::tab,nxt:=st.nxt+1 } dst (.v (.one (.sl st.nxt)))) else none
   | none=>none
  | .sl id=>match look st.tab id with
   | some (.arr (.own u0) lvl E0 e' xs0)=>match fz E0 ET e' e xs0,Nat.beq lvl st.lvl with
    | some xs,true=>match qB st e u0 x with
     | some (ys,u,tab)=>match look tab id,(match x with | .sl i=>Nat.beq i id|_=>false) with
      | some _,false=>if (xs.length+ys.length)*YQ E ET<=70368744177664 then
        k (St.put { st with tab:=(st.nxt,.arr (.own u) st.lvl ET e (xs++ys))::erase tab id,nxt:=st.nxt+1 } dst (.v (.one (.sl st.nxt)))) else none
      | _,_=>none
     | none=>none
    | _,_=>none
   | _=>none
  | _=>none
 | _=>none
def cA (st:St):Leaf->Option Int
 | .nil=>some 0
 | .s l=>some (l.length:Int)
 | .sl id=>match look st.tab id with
  | some (.arr _ _ _ _ xs)=>some (xs.length:Int)
  | _=>none
 | _=>none
def rG (E:Env) (T:Nat) (l:Leaf):Bool:=match lk E.tys T,l with
 | some { ty:=.str,arr:=none,.. },.s _=>true
 | some { ty:=.sl _ _,arr:=none,.. },.nil=>true
 | some { ty:=.sl _ _,arr:=none,.. },.sl _=>true
 | _,_=>false
def J1 {R:Type} (T:Ty) (x:Leaf) (lo hi:Option Leaf) (st:St) (k:Leaf->St->Option R):Option R:=
 match x,T,bnd 0 lo with
 | .s l,.str,some a=>match bnd (l.length:Int) hi with
  | some b=>if 0<=a/\a<=b/\b<=(l.length:Int) then k (.s ((l.drop a.toNat).take (b.toNat - a.toNat))) st else none
  | none=>none
 | .nil,.sl _ _,some a=>match bnd 0 hi with
  | some b=>if 0<=a/\a<=b/\b<=(0:Int) then k .nil st else none
  | none=>none
 | .sl id,.sl _ e',some a=>match look st.tab id with
  | some (.arr kd lvl E e xs)=>match bnd (xs.length:Int) hi,decide (e=e') with
   | some b,true=>if 0<=a/\a<=b/\b<=(xs.length:Int) then
     match kd,lo with
     | .imm t,lo=>match lo.isSome && Nat.beq e.size 18 with
      | true=>none
      | false=>k (.sl st.nxt) { st with tab:=(st.nxt,.arr (.imm t) st.lvl E e ((xs.drop a.toNat).take (b.toNat - a.toNat)))::st.tab,nxt:=st.nxt+1 }
     | .own u,none=>match Nat.beq lvl st.lvl with
      | true=>k (.sl st.nxt) { st with tab:=(st.nxt,.arr (.own u) st.lvl E e (xs.take b.toNat))::erase st.tab id,nxt:=st.nxt+1 }
      | false=>none
     | .own _,some _=>match Nat.beq lvl st.lvl && !Nat.beq e.size 18 with
      | true=>k (.sl st.nxt) { st with tab:=(st.nxt,.arr (.imm false) st.lvl E e ((xs.drop a.toNat).take (b.toNat - a.toNat)))::erase st.tab id,nxt:=st.nxt+1 }
      | false=>none
     | _,_=>none
    else none
   | _,_=>none
  | _=>none
 | _,_,_=>none
def vt:BinOp->Operand->Option Int
 | .shl,.const (.int .u64 n)=>match decide (0<=n) with|true=>some n|false=>none
 | .shr,.const (.int .u64 n)=>match decide (0<=n) with|true=>some n|false=>none
 | _,_=>none
def mR (op:BinOp) (a n:Int):Int:=match op with | .shl=>shl a n|_=>shr a n
def yk {R:Type} (E:Env) (o:Oper) (st:St) (k:St->Option R):Option R:=
 match o.op with
 | .move x | .assign x=>match opnd st x with|some v=>k (st.put o.dst v)|none=>none
 | .pick c a b=>match zC st c with
  | some (.b x)=>bif x
   then (match opnd st a with|some v=>k (st.put o.dst v)|none=>none)
   else (match opnd st b with|some v=>k (st.put o.dst v)|none=>none)
  | _=>none
 | .alloc T=>match lk E.tys T with
  | some { ty:=.sl ET e,arr:=some n,.. }=>match Nat.ble n 140737488355328 with
   | true=>k (St.put { st with tab:=(st.nxt,.arr (.own true) st.lvl ET e (List.replicate n (dflt e)))::st.tab,nxt:=st.nxt+1 } o.dst (.v (.one (.ap st.nxt))))
   | false=>none
  | some d=>match d.arr with
   | some _=>none
   | none=>k (St.put { st with tab:=(st.nxt,.box st.lvl (Yi d.ty))::st.tab,nxt:=st.nxt+1 } o.dst (.v (.one (.ptr st.nxt 0))))
  | none=>none
 | .box T x=>match lk E.tys T,Kc st x with
  | some _,some ls=>k (St.put { st with tab:=(st.nxt,.box st.lvl ls)::st.tab,nxt:=st.nxt+1 } o.dst (.v (.one (.ptr st.nxt 0))))
  | _,_=>none
 | .build T ps=>match lk E.tys T with
  | some d=>match d.ty.isPair,qR E d.flds st ps.toList (Yi d.ty) with
   | true,some ls=>k (st.put o.dst (.v (.agg ls)))
   | _,_=>none
  | none=>none
 | .buildSlice T n ps=>match lk E.tys T with
  | some { ty:=.sl ET e,arr:=none,.. }=>match Ju st e 0 ps.toList,Nat.beq ps.toList.length n && Nat.ble (n*e.size) 16777216 with
   | some (vs,ls),true=>match bg st (match given st ls with|some _=>true|none => !e.hasSl) ls with
    | some (u,tab)=>k (St.put { st with tab:=(st.nxt,.arr (.own u) st.lvl ET e vs)::tab,nxt:=st.nxt+1 } o.dst (.v (.one (.sl st.nxt))))
    | none=>none
   | _,_=>none
  | _=>none
 | .load T a=>match lk E.tys T,zC st a with
  | some d,some p=>match d.arr with
   | none=>K9 d.ty p st λ x st'=>k (st'.put o.dst (.v x))
   | some _=>none
  | _,_=>none
 | .store T a x=>match lk E.tys T,zC st a,Kc st x with
  | some d,some p,some ls=>match d.arr,po d.ty p ls st with
   | none,some st'=>k (st'.put o.dst (.tup []))
   | _,_=>none
  | _,_,_=>none
 | .nilCheck x=>match zC st x with
  | some (.ptr id off)=>k (st.put o.dst (.v (.one (.ptr id off))))
  | some (.ep id ix esz off)=>k (st.put o.dst (.v (.one (.ep id ix esz off))))
  | some (.ap id)=>k (st.put o.dst (.v (.one (.ap id))))
  | _=>none
 | .binOp op T x y _=>match vt op y with
  | some n=>match zC st x with
   | some (.i a)=>k (st.put o.dst (.v (.one (.i (mR op a n)))))
   | _=>none
  | none=>match opnd st x,opnd st y with
   | some a,some b=>match fK E T a with
    | true=>jp op a b λ l=>k (st.put o.dst (.v (.one l)))
    | false=>none
   | _,_=>none
 | .unOp op _ x=>match op,zC st x with
  | .not,some (.b x)=>k (st.put o.dst (.v (.one (.b (!x)))))
  | .neg,some (.i n)=>k (st.put o.dst (.v (.one (.i (wr (0 - n))))))
  | _,_=>none
 | .convert s d x=>match lk E.tys s,lk E.tys d,zC st x with
  | some ds,some dd,some l=>match ds.arr,dd.arr with
   | none,none=>Nc dd.ty ds.ty st l λ l' tab j=>k (St.put { st with tab:=tab,nxt:=j } o.dst (.v (.one l')))
   | _,_=>none
  | _,_,_=>none
 | .makeFunc fn first caps=>match fn,first.toList,opnds st caps.toList with
  | .func f,[],some [.v (.one (.ptr id 0))]=>k (st.put o.dst (.v (.one (.fn f [id]))))
  | _,_,_=>none
 | .makeSlice T l c=>match lk E.tys T,zC st l,zC st c with
  | some { ty:=.sl ET e,arr:=none,.. },some (.i n),some (.i m)=>if n=m then (if 0<=n/\n.toNat*YQ E ET<=70368744177664 then
    k (St.put { st with tab:=(st.nxt,.arr (.own true) st.lvl ET e (List.replicate n.toNat (dflt e)))::st.tab,nxt:=st.nxt+1 } o.dst (.v (.one (.sl st.nxt)))) else none) else none
  | _,_,_=>none
 | .slice T x lo hi none=>match lk E.tys T,zC st x,Lr st lo,Lr st hi with
  | some d,some l,some a,some b=>match d.arr with
   | none=>J1 d.ty l a b st λ l' st'=>k (st'.put o.dst (.v (.one l')))
   | some _=>none
  | _,_,_,_=>none
 | .fieldAddr T x f=>match lk E.tys T,zC st x with
  | some d,some (.ptr id off)=>match d.flds[f]? with
   | some (fo,_)=>k (st.put o.dst (.v (.one (.ptr id (off+fo)))))
   | none=>none
  | some d,some (.ep id ix esz off)=>match d.flds[f]? with
   | some (fo,_)=>k (st.put o.dst (.v (.one (.ep id ix esz (off+fo)))))
   | none=>none
  | _,_=>none
 | .field T x f=>match lk E.tys T,opnd st x with
  | some d,some (.v (.agg ls))=>match d.flds[f]? with
   | some (fo,ft)=>match lk E.tys ft with
    | some fd=>match Nat.ble (fo+fd.ty.size) ls.length,Yo fd.ty ((ls.drop fo).take fd.ty.size) with
     | true,some x=>k (st.put o.dst (.v x))
     | _,_=>none
    | none=>none
   | none=>none
  | _,_=>none
 | .indexAddr T x ix=>match lk E.tys T,zC st x,zC st ix with
  | some { ty:=.sl _ e,arr:=some m,.. },some (.ap id),some (.i n)=>match look st.tab id with
   | some (.arr _ _ _ e' xs)=>match decide (e'=e) with
    | true=>if xs.length=m then (if 0<=n/\n<(m:Int) then k (st.put o.dst (.v (.one (.ep id n.toNat e.size 0)))) else none) else none
    | false=>none
   | _=>none
  | some { ty:=.sl _ e,arr:=none,.. },some (.sl id),some (.i n)=>match look st.tab id with
   | some (.arr _ _ _ e' xs)=>match decide (e'=e) with
    | true=>if 0<=n/\n<(xs.length:Int) then k (st.put o.dst (.v (.one (.ep id n.toNat e.size 0)))) else none
    | false=>none
   | _=>none
  | _,_,_=>none
 | .index T x ix=>match lk E.tys T,zC st x,zC st ix with
  | some { ty:=.str,arr:=none,.. },some (.s l),some (.i n)=>if 0<=n/\n<(l.length:Int) then k (st.put o.dst (.v (.one (.u (l.getD n.toNat 0))))) else none
  | _,_,_=>none
 | .extract t i=>match opnd st t with
  | some (.tup xs)=>match xs[i]? with
   | some x=>k (st.put o.dst (.v x))
   | none=>none
  | _=>none
 | .call c=>match c.callee with
  | .value f=>match zC st f,opnds st c.args.toList with
   | some (.fn f caps),some as=>qN E f (as++caps.map λ id=>.v (.one (.ptr id 0))) o.dst st k
   | _,_=>none
  | .builtin .len=>match c.args.toList,c.argTypes.toList with
   | [x],[T]=>match zC st x with
    | some l=>match rG E T l,cA st l with
     | true,some n=>k (st.put o.dst (.v (.one (.i n))))
     | _,_=>none
    | none=>none
   | _,_=>none
  | .builtin .append=>match c.args.toList,c.argTypes.toList with
   | [s,x],[T,T2]=>match zC st s,zC st x,M6 E T2 with
    | some a,some b,true=>L8 E T a b o.dst st k
    | _,_,_=>none
   | _,_=>none
  | .builtin .max=>match c.args.toList with
   | [x,y]=>match zC st x,zC st y with
    | some (.i a),some (.i b)=>k (st.put o.dst (.v (.one (.i (mx a b)))))
    | _,_=>none
   | [x,y,z]=>match zC st x,zC st y,zC st z with
    | some (.i a),some (.i b),some (.i c)=>k (st.put o.dst (.v (.one (.i (mx (mx a b) c)))))
    | _,_,_=>none
   | _=>none
  | .builtin .min=>match c.args.toList with
   | [x,y]=>match zC st x,zC st y with
    | some (.i a),some (.i b)=>k (st.put o.dst (.v (.one (.i (mn a b)))))
    | _,_=>none
   | _=>none
  | _=>none
 | _=>none
def Ym (st:St) (id:Nat):Bool:=match look st.tab id with
 | some (.arr (.own _) lvl _ _ _)=>Nat.beq lvl st.lvl
 | _=>false
def YF:List Nat->List (Nat×Ent)->List (Nat×Ent)
 | [],tab=>tab
 | id::r,tab=>match look tab id with
  | some (.arr (.own _) lvl E e xs)=>YF r (yE tab id (.arr (.imm false) lvl E e xs))
  | _=>YF r tab
def NE:List Nat->List (Nat×Ent)->List (Nat×Ent)
 | [],tab=>tab
 | id::r,tab=>match look tab id with
  | some (.arr (.own true) lvl E e xs)=>NE r (yE tab id (.arr (.own false) lvl E e xs))
  | _=>NE r tab
def cH (st:St):List (Nat×Operand)->List Leaf
 | []=>[]
 | (_,x)::r=>match Kc st x with
  | some ls=>ls++cH st r
  | none=>cH st r
def qo (E:Env) (st:St) (o:Oper):List Nat×List Nat:=
 match o.op with
 | .store _ a x=>match zC st a with
  | some (.ep id _ _ _)=>match look st.tab id with
   | some (.arr (.own u) _ _ e _)=>match e.hasSl with
    | false=>([],[])
    | true=>match Kc st x with
     | none=>([],[])
     | some ls=>match u with
      | false=>((yb ls).filter (Ym st),[])
      | true=>match given st ls with
       | some _=>([],[])
       | none=>((yb ls).filter (Ym st),[id].filter (Ym st))
   | _=>([],[])
  | _=>([],[])
 | .buildSlice T _ ps=>match lk E.tys T with
  | some { ty:=.sl _ e,.. }=>match e.hasSl with
   | false=>([],[])
   | true=>match E.hold,given st (cH st ps.toList) with
    | false,some _=>([],[])
    | _,_=>((yb (cH st ps.toList)).filter (Ym st),[])
  | _=>([],[])
 | .slice _ x _ _ _=>match E.frz with
  | false=>([],[])
  | true=>match zC st x with
   | some (.sl id)=>([id].filter (Ym st),[])
   | _=>([],[])
 | .call c=>match c.callee with
  | .value f=>match zC st f with
   | some (.fn f caps)=>match (lk E.fns f).or (lk E.conds f) with
    | none=>([],[])
    | some pf=>match pf.rk.isUniq with
     | true=>([],[])
     | false=>match opnds st c.args.toList with
      | none=>([],[])
      | some as=>match zU st pf.params (as++caps.map λ id=>.v (.one (.ptr id 0))) with
       | some g=>((yb g.rl).filter (Ym st),[])
       | none=>([],[])
   | _=>([],[])
  | _=>([],[])
 | _=>([],[])
def KM (st:St):List Nat×List Nat->St
 | ([],[])=>st
 | (a,b)=>{ st with tab:=NE b (YF a st.tab)}
def Kz {R:Type} (E:Env) (o:Oper) (st:St) (k:St->Option R):Option R:=yk E o (KM st (qo E st o)) k
def ZG (p:Nat):Ty->Bool
 | .sl E e=>Nat.beq E p || ZG p e
 | .pair a b=>ZG p a || ZG p b
 | _=>false
def o6 (p:Nat):Ent->Bool
 | .box _ _=>true
 | .cst _=>false
 | .arr _ _ E e _ => !Nat.beq E p && !ZG p e
def fB (p h:Nat):List (Nat×Ent)->Bool
 | []=>true
 | (k,e)::r=>(Nat.beq k h || o6 p e) && fB p h r
def pq (p:Nat):List (Nat×Ent)->Option Nat
 | []=>none
 | (k,.arr (.imm false) lvl E e xs)::r=>match Nat.beq E p with|true=>some k|false=>pq p r
 | _::r=>pq p r
def wa (p:Nat) (st:St):Option St:=match pq p st.tab with
 | none=>none
 | some h=>match look st.tab h with
  | some (.arr (.imm false) lvl E e xs)=>match Nat.beq E p && !ZG p e && Nat.beq lvl st.lvl && fB p h st.tab with
   | true=>some { st with tab:=yE st.tab h (.arr (.own false) lvl E e xs)}
   | false=>none
  | _=>none
def v8 (E:Env) (o:Oper):Option Nat:=match E.thaws with
 | []=>none
 | (f,p)::_=>match o.op with
  | .call c=>match c.callee with
   | .value (.func g)=>match Nat.beq f g with|true=>some p|false=>none
   | _=>none
  | _=>none
def pn {R:Type} (E:Env) (o:Oper) (st:St) (k:St->Option R):Option R:=match v8 E o with
 | none=>Kz E o st k
 | some p=>Kz E o st λ st'=>(wa p st').bind k
def evReg {R:Type} (E:Env) (all:List Oper):List Oper->St->(St->Option R)->Option R
 | [],st,k=>k st
 | o::r,st,k=>match o.guard with
  | none=>pn E o st λ st'=>evReg E all r st' k
  | some (j,want)=>match (all[j]?).bind (·.dst) with
   | none=>none
   | some d=>match st.slots[d]? with
    | some (.v (.one (.b x)))=>bif x
     then (match want with
      | true=>Kz E o (st.put (some d) (.v (.one (.b true)))) λ st'=>evReg E all r st' k
      | false=>evReg E all r ((st.put (some d) (.v (.one (.b true)))).put o.dst (.tup [])) k)
     else (match want with
      | true=>evReg E all r ((st.put (some d) (.v (.one (.b false)))).put o.dst (.tup [])) k
      | false=>Kz E o (st.put (some d) (.v (.one (.b false)))) λ st'=>evReg E all r st' k)
    | some (.tup [])=>evReg E all r (st.put o.dst (.tup [])) k
    | _=>none
def Ent.upto (n:Nat):Ent->Bool
 | .box lvl _=>Nat.ble lvl n
 | .cst _=>true
 | .arr _ lvl _ _ _=>Nat.ble lvl n
def kO (st:St):Bool:=st.tab.all λ x=>x.2.upto st.lvl
def j4 (hi lo:Nat):Ent->Ent
 | .box lvl cs=>match Nat.beq lvl hi with|true=>.box lo cs|false=>.box lvl cs
 | .arr k lvl E e xs=>match Nat.beq lvl hi with|true=>.arr k lo E e xs|false=>.arr k lvl E e xs
 | .cst cs=>.cst cs
def Leaf.ids:Leaf->List Nat
 | .sl id=>[id]
 | .ptr id _=>[id]
 | .ep id _ _ _=>[id]
 | .fn _ caps=>caps
 | .ap id=>[id]
 | _=>[]
def Jy:List Leaf->List Nat
 | []=>[]
 | l::r=>l.ids++Jy r
def V1.ids:V1->List Nat
 | .one l=>l.ids
 | .agg ls=>Jy ls
 | .any=>[]
def J4:List V1->List Nat
 | []=>[]
 | x::r=>x.ids++J4 r
def AV.ids:AV->List Nat
 | .top=>[]
 | .v x=>x.ids
 | .tup xs=>J4 xs
def Ent.ids:Ent->List Nat
 | .box _ cs=>Jy cs
 | .cst cs=>Jy cs
 | .arr .. => []
structure Rec where
 reach:List Nat
 wr:List Nat
 lo:Nat
 hi:Nat
 cf:List Nat
def L5 (op:Op) (wr l m:List Nat):List Nat:=match wr,op with
 | [],.move _=>[]
 | [],.assign _=>[]
 | [],.fieldAddr _ _ _=>[]
 | [],.load _ _=>l
 | _,_=>l++m
def bz:List Nat->List Nat->List Nat
 | [],acc=>acc
 | x::r,acc=>match acc.elem x with
  | true=>bz r acc
  | false=>bz r (x::acc)
def jI (ancs:List (List Nat)):List Edge->List Nat
 | []=>[]
 | e::r=>match Region.binds .any e with
  | true=>match ancs[e.on]? with
   | some l=>bz (e.on::l) (jI ancs r)
   | none=>jI ancs r
  | false=>jI ancs r
def L1:List Oper->List (List Nat)->List (List Nat)
 | [],acc=>acc
 | o::r,acc=>L1 r (acc++[jI acc o.after.toList])
def oz (all:List (List Nat)) (j i:Nat):Bool:=match all[j]? with|some l=>l.elem i|none=>false
def YH (all:List (List Nat)) (i:Nat) (anc:List Nat):List Oper->Nat->List Nat
 | [],_=>[]
 | o::r,j=>match o.dst with
  | some d=>match anc.elem j || oz all j i with
   | true=>YH all i anc r (j+1)
   | false=>d::YH all i anc r (j+1)
  | none=>YH all i anc r (j+1)
def YL (g:List AV) (hid:List Nat):List Operand->List AV
 | []=>g.map λ _=>.top
 | .tmp t::r=>match hid.elem t,g[t]? with
  | false,some v=>(YL g hid r).set t v
  | _,_=>YL g hid r
 | _::r=>YL g hid r
def Mg (st:St):List Operand->List Nat
 | []=>[]
 | x::r=>match opnd st x with
  | some v=>v.ids++Mg st r
  | none=>Mg st r
def bJ (tab:List (Nat×Ent)):List Nat->List Nat
 | []=>[]
 | id::r=>match look tab id with
  | some e=>e.ids++bJ tab r
  | none=>bJ tab r
def oB:List (PK×Ty)->List AV->List Nat
 | (.own,_)::ps,x::xs=>x.ids++oB ps xs
 | (.ptr,_)::ps,x::xs=>x.ids++oB ps xs
 | _::ps,_::xs=>oB ps xs
 | _,_=>[]
def Oo (E:Env) (st:St) (o:Oper):List Nat:=
 match o.op with
 | .store _ a x=>match zC st a with
  | some (.ptr id _)=>[id]
  | some (.ep id _ _ _)=>match look st.tab id with
   | some (.arr (.own true) _ _ e _)=>match e.hasSl,Kc st x with
    | true,some ls=>id::yb ls
    | _,_=>[id]
   | _=>[id]
  | _=>[]
 | .buildSlice _ _ ps=>match given st (cH st ps.toList) with
  | some ids=>ids
  | none=>[]
 | .slice _ x none _ _=>match zC st x with
  | some (.sl id)=>match look st.tab id with
   | some (.arr (.own _) _ _ _ _)=>[id]
   | _=>[]
  | _=>[]
 | .call c=>match c.callee with
  | .value f=>match zC st f,opnds st c.args.toList with
   | some (.fn f _),some as=>match ((lk E.fns f).or (lk E.conds f)).or (lk E.joins f) with
    | some pf=>oB pf.params as
    | none=>[]
   | _,_=>[]
  | .builtin .append=>match c.args.toList with
   | [s,x]=>(match zC st s with|some (.sl id)=>[id]|_=>[])++(match zC st x with
    | some (.sl id)=>match look st.tab id with
     | some (.arr (.own true) _ _ e _)=>match e.hasSl with|true=>[id]|false=>[]
     | _=>[]
    | _=>[])
   | _=>[]
  | _=>[]
 | _=>[]
def wt (E:Env) (st:St) (o:Oper):List Nat:=match qo E st o with
 | ([],[])=>Oo E st o
 | (a,b)=>Oo E (KM st (a,b)) o++(a++b)
def Ly (g:St) (wr:List Nat):List Nat->List (Nat×Ent)
 | []=>[]
 | id::r=>match look g.tab id with
  | some e=>(id,match wr.elem id with|true=>e|false=>j4 g.lvl (g.lvl+1) e)::Ly g wr r
  | none=>Ly g wr r
def dG (g:St) (R wr:List Nat):Bool:=
 (R.all λ id=>Nat.blt id g.nxt && match look g.tab id with
  | some e=>e.upto g.lvl && e.ids.all λ i=>R.elem i
  | none=>true) && wr.all λ id=>R.elem id && (look g.tab id).isSome
def clear (anc R wr cf:List Nat):List Rec->Nat->Bool
 | [],_=>true
 | c::r,j=>(anc.elem j || (disj c.wr cf && disj wr c.cf && R.all λ id=>Nat.blt id c.lo || Nat.ble c.hi id)) && clear anc R wr cf r (j+1)
def NI (R wr:List Nat) (lo:Nat) (dst:Option Nat) (p:St):Bool:=
 let ok:=λ i=>R.elem i || (Nat.ble lo i && Nat.blt i p.nxt)
 Nat.ble lo p.nxt && (match dst with|some d=>(match p.slots[d]? with|some v=>v.ids.all ok|none=>false)|none=>true) &&
  p.tab.all λ x=>Nat.blt x.1 p.nxt && match Nat.ble lo x.1 || wr.elem x.1 with|true=>x.2.ids.all ok|false=>true
def merge (g p:St) (wr:List Nat) (lo:Nat) (dst:Option Nat):St:=
 {slots:=(match dst with|some d=>(match p.slots[d]? with|some v=>g.slots.set d v|none=>g.slots)|none=>g.slots)
  tab:=(p.tab.filter λ x=>Nat.ble lo x.1 || wr.elem x.1)++ZB g.tab wr
  nxt:=p.nxt
  lvl:=g.lvl }
def kY:Nat->List V1->List V1
 | _,[]=>[]
 | 0,x::r=>x::r.map λ _=>.any
 | n+1,_::r=>.any::kY n r
def Lp (op:Op) (sl:List AV):List AV:=match op with
 | .extract (.tmp t) i=>match sl[t]? with
  | some (.tup xs)=>sl.set t (.tup (kY i xs))
  | _=>sl
 | _=>sl
def qP {R:Type} (E:Env) (ops:List Oper) (all:List (List Nat)) (anc:List Nat) (recs:List Rec) (g:St) (o:Oper) (k:Rec->St->Option R):Option R:=
 let p0:St:={ g with slots:=Lp o.op (YL g.slots (YH all recs.length anc ops 0) o.op.operands.toList)}
 let l:=Mg p0 o.op.operands.toList
 let m:=bJ g.tab l
 let rs:=l++m
 let wr:=wt E p0 o
 match dG g rs wr && clear anc rs wr (L5 o.op wr l m) recs 0 with
 | false=>none
 | true=>Kz E o { p0 with tab:=Ly g wr (L5 o.op wr l m)} λ p=>match NI rs wr g.nxt o.dst p with
  | true=>k ⟨rs,wr,g.nxt,p.nxt,L5 o.op wr l m⟩ (merge g p wr g.nxt o.dst)
  | false=>none
def J0 {R:Type} (E:Env) (ops:List Oper) (all:List (List Nat)):List Oper->List (List Nat)->List Rec->St->(St->Option R)->Option R
 | [],_,_,g,k=>k g
 | o::r,ancs,recs,g,k=>
  let anc:=jI ancs o.after.toList
  match o.guard with
  | none=>qP E ops all anc recs g o λ c g'=>J0 E ops all r (ancs++[anc]) (recs++[c]) g' k
  | some (j,want)=>match anc.elem j,(ops[j]?).bind (·.dst) with
   | true,some d=>match g.slots[d]? with
    | some (.v (.one (.b x)))=>bif x
     then (match want with
      | true=>qP E ops all anc recs (g.put (some d) (.v (.one (.b true)))) o λ c g'=>J0 E ops all r (ancs++[anc]) (recs++[c]) g' k
      | false=>J0 E ops all r (ancs++[anc]) (recs++[⟨[],[],g.nxt,g.nxt,[]⟩]) ((g.put (some d) (.v (.one (.b true)))).put o.dst (.tup [])) k)
     else (match want with
      | true=>J0 E ops all r (ancs++[anc]) (recs++[⟨[],[],g.nxt,g.nxt,[]⟩]) ((g.put (some d) (.v (.one (.b false)))).put o.dst (.tup [])) k
      | false=>qP E ops all anc recs (g.put (some d) (.v (.one (.b false)))) o λ c g'=>J0 E ops all r (ancs++[anc]) (recs++[c]) g' k)
    | some (.tup [])=>J0 E ops all r (ancs++[anc]) (recs++[⟨[],[],g.nxt,g.nxt,[]⟩]) (g.put o.dst (.tup [])) k
    | _=>none
   | _,_=>none
def qK:List Oper->Nat->Bool
 | [],_=>true
 | o::r,i=>(o.after.toList.all λ e => !Region.binds .any e || Nat.blt e.on i) && qK r (i+1)
def pk {R:Type} (E:Env) (ops:List Oper) (st:St) (k:St->Option R):Option R:=
 match qK ops 0 && cF (ops.filterMap (·.dst)) && kO st with
 | true=>J0 E ops (L1 ops []) ops [] [] st k
 | false=>none
inductive X where
 | normal|exit (id:Nat)|ret
inductive Item where
 | slot (t:Nat) (ty:Ty) (k:Kind)
 | box (id:Nat) (ty:Ty) (k:Kind)
 | row (id E:Nat) (e:Ty) (k:Kind)
 | keep (id:Nat) (ty:Ty) (tm:List Nat)
def y7:List Nat->List Leaf
 | []=>[]
 | 0::r=>.i 0::y7 r
 | (n+1)::r=>.sl n::y7 r
@[reducible] def Item.ty:Item->Ty
 | .slot _ ty _=>ty
 | .box _ ty _=>ty
 | .row _ E e _=>.sl E e
 | .keep _ ty _=>ty
def fits (st:St) (k:Kind) (ls:List Leaf):Option (List Nat):=match k with
 | .imm true=>none
 | .imm false=>match yF st ls with|true=>some []|false=>none
 | .own true=>given st ls
 | .own false=>yw st ls
 | .lent=>none
def u7:Kind->Kind->Bool
 | .own true,.own true=>true
 | .own false,.own false=>true
 | .lent,.lent=>true
 | _,_=>false
def Ki:List Item->List Nat
 | []=>[]
 | .row id _ _ _::r=>id::Ki r
 | .keep id _ _::r=>id::Ki r
 | _::r=>Ki r
def Lj (st:St):Item->Option (List Leaf)
 | .row _ _ _ _=>none
 | .keep _ _ _=>none
 | .slot t ty _=>match st.slots[t]? with|some x=>qD ty x|none=>none
 | .box id _ _=>match look st.tab id with
  | some (.box lvl cells)=>match Nat.beq lvl st.lvl with|true=>some cells|false=>none
  | _=>none
def ZX:Item->Kind
 | .slot _ _ k=>k
 | .box _ _ k=>k
 | .row _ _ _ k=>k
 | .keep _ _ _=>.imm false
def jO (st:St):(its:List Item)->Option (dens (its.map Item.ty)×List Nat)
 | []=>some ((),[])
 | .row id E e k::r=>match look st.tab id with
  | some (.arr k' lvl E' e' xs)=>match bB e' e xs,Nat.beq lvl st.lvl && u7 k k' && Nat.beq E E',jO st r with
   | some v,true,some (vs,ids)=>match ids.elem id with
    | false=>some ((v,vs),ids)
    | true=>none
   | _,_,_=>none
  | _=>none
 | .keep id ty tm::r=>match look st.tab id with
  | some (.box lvl cells)=>match jJ st.tab ty cells,Nat.beq lvl st.lvl && ZL (y7 tm) cells,jO st r with
   | some v,true,some (vs,ids)=>match ids.elem id with
    | false=>some ((v,vs),ids)
    | true=>none
   | _,_,_=>none
  | _=>none
 | it::r=>match Lj st it with
  | none=>none
  | some ls=>match jJ st.tab it.ty ls,fits st (ZX it) ls,jO st r with
   | some v,some ids,some (vs,ids')=>match disj ids ids' && disj ids (Ki r) with
    | true=>some ((v,vs),ids++ids')
    | false=>none
   | _,_,_=>none
def Mc:List AV->List Nat->List AV
 | sl,[]=>sl
 | sl,t::r=>Mc (sl.set t .top) r
def jM (lvl:Nat):(its:List Item)->dens (its.map Item.ty)->List AV->List (Nat×Ent)->Nat->Option (List AV×List (Nat×Ent)×Nat)
 | [],_,sl,tab,j=>some (sl,tab,j)
 | .slot t ty k::r,v,sl,tab,j=>match ze k lvl ty v.1 j with
  | (ls,es,j')=>match Yo ty ls with
   | some x=>jM lvl r v.2 (sl.set t (.v x)) (es++tab) j'
   | none=>none
 | .box id ty k::r,v,sl,tab,j=>match ze k lvl ty v.1 j with
  | (ls,es,j')=>jM lvl r v.2 sl (es++yE tab id (.box lvl ls)) j'
 | .row id E e k::r,v,sl,tab,j=>jM lvl r v.2 sl (yE tab id (.arr k lvl E e v.1)) j
 | .keep id ty tm::r,v,sl,tab,j=>jM lvl r v.2 sl (yE tab id (.box lvl (mixLs ty v.1 (y7 tm)).1)) j
def Item.within (D:List Nat):Item->Bool
 | .slot t _ _=>D.elem t
 | .box _ _ _=>true
 | .row _ _ _ _=>true
 | .keep _ _ _=>true
def Zr:Code->List Nat
 | .region _ ops _=>ops.toList.filterMap (·.dst)
 | .seq a b=>Zr a++Zr b
 | .cond _ a b=>Zr a++Zr b
 | .block _ b=>Zr b
 | .loop b=>Zr b
 | .scope b=>Zr b
 | _=>[]
def qU:Code->Nat
 | .region i _ _=>i
 | .seq a _=>qU a
 | .cond _ a _=>qU a
 | .block _ b=>qU b
 | .loop b=>qU b
 | .scope b=>qU b
 | _=>0
def qY (st:St) (body:Code) (its:List Item) (ids:List Nat) (vs:dens (its.map Item.ty)):Option St:=
 match jM (st.lvl+1) its vs (Mc st.slots (Zr body)) (ZB st.tab ids) st.nxt with
 | some (sl,tab,j)=>some { slots:=sl,tab:=tab,nxt:=j,lvl:=st.lvl+1 }
 | none=>none
def lower (st:St) (lo:Nat):St:={ st with tab:=st.tab.map λ x=>(x.1,j4 st.lvl lo x.2),lvl:=lo }
def iter {S R:Type} (G:(S->Option R)->S->Option R):Nat->S->Option R
 | 0=>λ _=>none
 | n+1=>G (iter G n)
def fuel:Nat:=bif lock then 18446744073709551616 else 18446744073709551616
theorem Zt:fuel=18446744073709551616:=by unfold fuel; cases lock<;>rfl
structure jv where
 E:Env
 loops:List (Nat×List Item)
def mS (E:Env):List Oper->List Nat
 | []=>[]
 | o::r=>match o.op with
  | .slice T _ _ _ _=>(match lk E.tys T with
   | some { ty:=.sl ET _,.. }=>ET::mS E r
   | _=>mS E r)
  | _=>mS E r
def WF (ets:List Nat) (st:St):List Nat:=(st.tab.filterMap λ x=>match x.2 with
 | .arr (.own _) _ ET _ _=>(match ets.elem ET with|true=>some x.1|false=>none)
 | _=>none).filter (Ym st)
def preDraw (E:Env) (ops:List Oper) (st:St):St:=match E.frz with
 | true=>KM st (WF (mS E ops) st,[])
 | false=>st
def bL (st:St):List Item->List Nat
 | []=>[]
 | it::r=>(match ZX it,Lj st it with
  | .imm false,some ls=>(yb ls).filter (Ym st)
  | _,_=>[])++bL st r
def preLoop (its:List Item) (st:St):St:=KM st (bL st its,[])
def re (c:Operand) (a:Code) (st:St):St:=match c,a with
 | .tmp t,.skip=>st.put (some t) (.v (.one (.b true)))
 | _,_=>st
def jT {R:Type} (F:jv):Code->St->(X->St->Option R)->Option R
 | .skip,st,k=>k .normal st
 | .label _,st,k=>k .normal st
 | .region _ ops draw,st,k=>match draw with
  | false=>evReg F.E ops.toList ops.toList st (k .normal)
  | true=>pk F.E ops.toList (preDraw F.E ops.toList st) (k .normal)
 | .seq a b,st,k=>jT F a st λ x st'=>match x with
  | .normal=>jT F b st' k
  | y=>k y st'
 | .cond c a b,st,k=>match zC st c with
  | some (.b x)=>bif x then jT F a (re c a st) k else jT F b st k
  | _=>none
 | .block id b,st,k=>jT F b st λ x st'=>match x with
  | .exit j=>match Nat.beq j id with
   | true=>k .normal st'
   | false=>k (.exit j) st'
  | y=>k y st'
 | .loop b,st,k=>match lk F.loops (qU b) with
  | none=>none
  | some its=>match jO (preLoop its st) its,kO (preLoop its st) && its.all (λ it=>it.within (Zr b)) with
   | some (vs,ids),true=>iter (λ rec vs=>match qY (preLoop its st) b its ids vs with
     | none=>none
     | some h=>jT F b h λ x st'=>match x with
      | .normal=>match jO st' its with
       | some (vs',_)=>rec vs'
       | none=>none
      | y=>k y (lower st' (preLoop its st).lvl)) fuel vs
   | _,_=>none
 | .exit id,st,k=>k (.exit id) st
 | .ret,st,k=>k .ret st
 | _,_,_=>none
def jo:(ps:List (PK×Ty))->yc ps->Nat->Option (List AV×List (Nat×Ent)×Nat)
 | [],_,j=>some ([],[],j)
 | (.rd,t)::ps,v,j=>match ze (.imm false) 0 t v.1 j with
  | (ls,es,j')=>match Yo t ls,jo ps v.2 j' with
   | some x,some (xs,es',j'')=>some (.v x::xs,es'++es,j'')
   | _,_=>none
 | (.own,t)::ps,v,j=>match ze (.own false) 0 t v.1 j with
  | (ls,es,j')=>match Yo t ls,jo ps v.2 j' with
   | some x,some (xs,es',j'')=>some (.v x::xs,es'++es,j'')
   | _,_=>none
 | (.ptr,t)::ps,v,j=>match ze (.imm false) 0 t v.1 (j+1) with
  | (ls,es,j')=>match jo ps v.2 j' with
   | some (xs,es',j'')=>some (.v (.one (.ptr j 0))::xs,es'++((j,.box 0 ls)::es),j'')
   | none=>none
 | (.cap,t)::ps,v,j=>match ze (.imm false) 0 t v.1 (j+1) with
  | (ls,es,j')=>match jo ps v.2 j' with
   | some (xs,es',j'')=>some (.v (.one (.ptr j 0))::xs,es'++((j,.cst ls)::es),j'')
   | none=>none
 | (.clo f,t)::ps,v,j=>match ze (.imm false) 0 t v.1 (j+1) with
  | (ls,es,j')=>match jo ps v.2 j' with
   | some (xs,es',j'')=>some (.v (.one (.fn f [j]))::xs,es'++((j,.cst ls)::es),j'')
   | none=>none
def ma (E:Env) (st:St) (t:Ty):ResultVar->Option (List Leaf)
 | .tmp s=>match st.slots[s]? with|some x=>qD t x|none=>none
 | .cell s T=>match st.slots[s]?,lk E.tys T with
  | some (.v (.one (.ptr id 0))),some d=>match look st.tab id,decide (d.ty=t) && d.arr.isNone with
   | some (.box _ cells),true=>some cells
   | _,_=>none
  | _,_=>none
def JM (E:Env) (st:St):(ts:List Ty)->List ResultVar->Option (dens ts×List Leaf)
 | [],[]=>some ((),[])
 | t::ts,r::rs=>match ma E st t r with
  | none=>none
  | some ls=>match jJ st.tab t ls,JM E st ts rs with
   | some v,some (vs,ls')=>some ((v,vs),ls++ls')
   | _,_=>none
 | _,_=>none
def Ks (st:St) (rets:List Ty) (rs:dens rets):(ps:List (PK×Ty))->yc ps->Nat->Option (zW ps rets)
 | [],_,_=>some rs
 | (.rd,t)::ps,v,j=>match ze (.imm false) 0 t v.1 j with
  | (_,_,j')=>Ks st rets rs ps v.2 j'
 | (.own,t)::ps,v,j=>match ze (.own false) 0 t v.1 j with
  | (_,_,j')=>Ks st rets rs ps v.2 j'
 | (.cap,t)::ps,v,j=>match ze (.imm false) 0 t v.1 (j+1) with
  | (_,_,j')=>Ks st rets rs ps v.2 j'
 | (.clo _,t)::ps,v,j=>match ze (.imm false) 0 t v.1 (j+1) with
  | (_,_,j')=>Ks st rets rs ps v.2 j'
 | (.ptr,t)::ps,v,j=>match ze (.imm false) 0 t v.1 (j+1) with
  | (ls,_,j')=>match look st.tab j with
   | some (.box _ cells)=>match ZL ls cells,jJ st.tab t cells,Ks st rets rs ps v.2 j' with
    | true,some x,some r=>some (x,r)
    | _,_,_=>none
   | _=>none
def QT (st:St) (ls:List Leaf):RK->Bool
 | .uniq=>(given st ls).isSome
 | .own=>(yw st ls).isSome
 | .shared=>true
def qS (F:jv) (fn:Func) (ps:List (PK×Ty)) (rets:List Ty) (rk:RK) (args:yc ps) (st:St):Option (zW ps rets):=
 match JM F.E st rets fn.results.toList with
 | some (rs,ls)=>match QT st ls rk with
  | true=>Ks st rets rs ps args 0
  | false=>none
 | none=>none
def fM (F:jv) (fn:Func) (ps:List (PK×Ty)) (rets:List Ty) (rk:RK) (args:yc ps):Option (zW ps rets):=
 match fn.body,jo ps args 0 with
 | some body,some (avs,es,j)=>
  jT F body { slots:=avs++List.replicate (fn.ntmps - avs.length) (.tup []),tab:=es,nxt:=j,lvl:=0 } λ x st=>
   match x with
   | .exit _=>none
   | .normal=>qS F fn ps rets rk args st
   | .ret=>qS F fn ps rets rk args st
 | _,_=>none
end
structure Moves (M:Nat->Prop) (γ γ':Nat->Own) (w w':World):Prop where
 persist:∀ b,b<w.heap.size->γ b=.persist->γ' b=.persist/\w'.heap[b]?=w.heap[b]?
 top:∀ b i,b<w.heap.size->γ b=.top i->¬ M i->γ' b=.top i/\w'.heap[b]?=w.heap[b]?
 deep:∀ b i,b<w.heap.size->γ b=.deep i->w'.heap[b]?=w.heap[b]?/\(¬ M i->γ' b=.deep i)/\(M i->γ' b=.persist∨∃ j,γ' b=.deep j)
theorem Moves.refl (M:Nat->Prop) (γ:Nat->Own) (w:World):Moves M γ γ w w:=
 ⟨λ _ _ h=>⟨h,rfl⟩,λ _ _ _ h _=>⟨h,rfl⟩,λ _ i _ h=>⟨rfl,λ _=>h,λ _=>.inr ⟨i,h⟩⟩⟩
theorem All2.leafLoc {loc loc':Nat->Value} {n:Nat} {ls:List Leaf} {vs:List Value} (h:All2 (LeafOk loc) ls vs) (hl:∀ l∈ls,l.lt n) (he:∀ i<n,loc' i=loc i):
  All2 (LeafOk loc') ls vs:=h.mono λ l hm v hv=>hv.loc (hl l hm) he
theorem EntOk.moves [Tags] {M:Nat->Prop} {γ γ':Nat->Own} {loc loc':Nat->Value} {w w':World} {n id:Nat} {e:Ent} (hm:Moves M γ γ' w w')
  (hid:¬ M id) (hel:e.lt n) (hin:id<n) (hl:∀ i<n,loc' i=loc i) (h:EntOk γ loc w id e):EntOk γ' loc' w' id e:=by
 have ahn:=hl id hin;cases e with
 | box lvl cells=>
  obtain⟨b,arr,T,fr,h1,h2,h3,h4,h5⟩:=h;obtain⟨g1,g2⟩:=hm.top b id (Z0 h2) h4 hid;exact⟨b,arr,T,fr,by rw[ahn]; exact h1,by rw[g2]; exact h2,h3,g1,h5.leafLoc hel hl⟩
 | cst cells=>
  obtain⟨b,arr,T,fr,h1,h2,h4,h5⟩:=h;obtain⟨g1,g2⟩:=hm.persist b (Z0 h2) h4;exact⟨b,arr,T,fr,by rw[ahn]; exact h1,by rw[g2]; exact h2,g1,h5.leafLoc hel hl⟩
 | arr k lvl E e xs=>
  cases k with
  | imm taint=>
   obtain⟨fp,h1,h2⟩:=h;refine⟨fp,?_,?_⟩
   ·rw[ahn];refine h1.frame λ b hb => ?_;have hlt:=h1.lt b hb;rcases h2 b hb with h|⟨_,j,h⟩
    ·exact (hm.persist b hlt h).2
    ·exact (hm.deep b j hlt h).1
   ·intro b hb;have hlt:=h1.lt b hb;rcases h2 b hb with h|⟨ht,j,h⟩
    ·exact .inl (hm.persist b hlt h).1
    ·by_cases hj:M j
     ·rcases (hm.deep b j hlt h).2.2 hj with h|h
      ·exact .inl h
      ·exact .inr ⟨ht,h⟩
     ·exact .inr ⟨ht,j,(hm.deep b j hlt h).2.1 hj⟩
  | lent=>
   obtain⟨fp,h1,h2⟩:=h;have hlt:=h1.lt;exact⟨fp,by rw[ahn]; exact h1.frame λ b hb=>(hm.deep b id (hlt b hb) (h2.2 b hb)).1,h2.1,λ b hb=>(hm.deep b id (hlt b hb) (h2.2 b hb)).2.1 hid⟩
  | own u=>
   obtain⟨xb,fs,h1,h2,h3⟩:=h;have hlt:=h1.lt;refine⟨xb,fs,?_,?_,?_⟩
   ·rw[ahn];refine h1.frame (λ b hb=>(hm.top b id (hlt.1 b hb) (h2 b hb) hid).2) (λ b hb => ?_);cases u with
    | true=>exact (hm.deep b id (hlt.2 b hb) (h3.2 b hb)).1
    | false=>exact (hm.persist b (hlt.2 b hb) (h3 b hb)).2
   ·exact λ b hb=>(hm.top b id (hlt.1 b hb) (h2 b hb) hid).1
   ·cases u with
    | true=>exact⟨h3.1,λ b hb=>(hm.deep b id (hlt.2 b hb) (h3.2 b hb)).2.1 hid⟩
    | false=>exact λ b hb=>(hm.persist b (hlt.2 b hb) (h3 b hb)).1
variable {B:Nat} {X:List Nat} {A:Ctx} {w0:World} {γ γ':Nat->Own} {loc loc':Nat->Value} {st st':St} {a:Act} {w w':World}
theorem Ent.lt_mono {n m:Nat} (h:n<=m) {e:Ent} (hl:e.lt n):e.lt m:=by
 cases e with
 | box lvl cells=>exact λ l hm=>Leaf.lt_mono h (hl l hm)
 | cst cells=>exact λ l hm=>Leaf.lt_mono h (hl l hm)
 | arr=>trivial
theorem Rel0.updW [Tags] {M:Nat->Prop} (h:Rel0 B X A w0 γ loc st a w) (hs:st'.slots=st.slots) (hn:st.nxt<=st'.nxt) (hk:KeepsW B X w w') (hu:∀ b,owned (γ' b)->Unfr w' b)
  (ho:∀ b,b<B->b∉X->γ' b=.alien∨(γ' b=.persist/\b∈A.rds)) (hl:∀ i<st.nxt,loc' i=loc i) (hm:Moves M γ γ' w w') (hM:∀ i,M i->∃ e,look st.tab i=some e)
  (ht:∀ (id:Nat) (e:Ent),look st'.tab id=some e->(look st.tab id=some e/\¬ M id)∨((EntOk γ' loc' w' id e/\e.lt st'.nxt/\id<st'.nxt)/\(st.nxt<=id∨∃ e0,look st.tab id=some e0))):
  Rel0 B X A w0 γ' loc' st' a w' where
 defers:=h.defers
 keeps:=h.keeps.trans hk
 unf:=hu
 old:=ho
 Ble:=Nat.le_trans h.Ble hk.size
 size:=by rw[hs]; exact h.size
 slots:=λ t v ht=>by rw[hs] at ht; exact (h.slots t v ht).loc (h.slt t v ht) hl
 ents:=λ id e hid=>by
  rcases ht id e hid with⟨h1,h2⟩|h1
  ·exact (h.ents id e h1).moves hm h2 (h.elt id e h1).1 (h.elt id e h1).2 hl
  ·exact h1.1.1
 slt:=λ t v ht=>by rw[hs] at ht; exact AV.lt_mono hn (h.slt t v ht)
 elt:=λ id e hid=>by
  rcases ht id e hid with⟨h1,h2⟩|h1
  ·exact⟨Ent.lt_mono hn (h.elt id e h1).1,Nat.lt_of_lt_of_le (h.elt id e h1).2 hn⟩
  ·exact h1.1.2
 pins:=λ p hp=>⟨Nat.lt_of_lt_of_le (h.pins p hp).1 hn,by rw[hl _ (h.pins p hp).1]; exact (h.pins p hp).2⟩
 dlab:=λ p hp hhi=>by
  obtain⟨k1,k2,k3,k4⟩:=h.dlab p hp (Nat.le_trans hn hhi);have hno:¬ M p.2:=λ hm'=>by obtain⟨e,he⟩:=hM _ hm'; rw[k3] at he; cases he
  refine⟨(hm.deep p.1 p.2 k4 k1).2.1 hno,by omega,?_,Nat.lt_of_lt_of_le k4 hk.size⟩;cases hlk:look st'.tab p.2 with
  | none=>rfl
  | some e=>
   rcases ht _ _ hlk with⟨h1,_⟩|⟨⟨_,_,h0⟩,h1|⟨e0,h1⟩⟩
   ·rw[k3] at h1; cases h1
   ·omega
   ·rw[k3] at h1; cases h1
 glob:=h.glob
 rtag:=h.rtag
 dpc:=λ b hb=>by
  obtain⟨k1,k2,k3⟩:=h.dpc b hb;refine⟨Nat.lt_of_lt_of_le k1 hk.size,?_⟩;rcases k2 with k2|⟨j,k2⟩
  ·exact⟨.inl (hm.persist b k1 k2).1,(hm.persist b k1 k2).2.trans k3⟩
  ·obtain⟨c1,c2,c3⟩:=hm.deep b j k1 k2;refine⟨?_,c1.trans k3⟩;by_cases hj:M j
   ·exact c3 hj
   ·exact .inr ⟨j,c2 hj⟩
theorem Rel0.upd [Tags] {M:Nat->Prop} (h:Rel0 B X A w0 γ loc st a w) (hs:st'.slots=st.slots) (hn:st.nxt<=st'.nxt) (hk:Keeps B X w w') (hu:∀ b,b<w.heap.size->owned (γ' b)->owned (γ b))
  (ho:∀ b,b<B->b∉X->γ' b=.alien∨(γ' b=.persist/\b∈A.rds)) (hl:∀ i<st.nxt,loc' i=loc i) (hm:Moves M γ γ' w w') (hM:∀ i,M i->∃ e,look st.tab i=some e)
  (ht:∀ (id:Nat) (e:Ent),look st'.tab id=some e->(look st.tab id=some e/\¬ M id)∨((EntOk γ' loc' w' id e/\e.lt st'.nxt/\id<st'.nxt)/\(st.nxt<=id∨∃ e0,look st.tab id=some e0))):
  Rel0 B X A w0 γ' loc' st' a w':=
 h.updW hs hn hk.weak (λ b hb=>hk.free b (by
  rcases Nat.lt_or_ge b w.heap.size with hlt|hge
  ·exact h.unf b (hu b hlt hb)
  ·exact Unfr.big hge)) ho hl hm hM ht
theorem Rel0.put [Tags] (h:Rel0 B X A w0 γ loc st a w) {x:AV} {v:Value} (dst:Option Nat) (hv:AVOk loc x v) (hx:x.lt st.nxt):
  Rel0 B X A w0 γ loc (st.put dst x) (a.put dst v) w:=by
 cases dst with
 | none=>exact h
 | some d=>
  refine { h with size:=by simp[St.put,Act.put,h.size],slots := ?_,slt := ?_,defers:=h.defers,ents:=h.ents,elt:=h.elt }
  ·intro t y hy;simp only[St.put,arT] at hy;have hsz:=h.size;by_cases hd:d=t
   ·subst hd;simp only[if_true] at hy;split at hy
    ·rename_i hlt;cases hy;rw[hsz] at hlt;simpa[Act.put,arm,hlt] using hv
    ·cases hy
   ·rw[if_neg hd] at hy;have:=h.slots t y hy;simpa[Act.put,arm,asN hd] using this
  ·intro t y hy;simp only[St.put,arT] at hy;by_cases hd:d=t
   ·subst hd;simp only[if_true] at hy;split at hy
    ·cases hy; exact hx
    ·cases hy
   ·rw[if_neg hd] at hy;exact h.slt t y hy
def Ent.prot (n:Nat):Ent->Prop
 | .box lvl _=>lvl≠n
 | .cst _=>True
 | .arr _ lvl _ _ _=>lvl≠n
structure Pres (D:List Nat) (st st':St):Prop where
 lvl:st'.lvl=st.lvl
 nxt:st.nxt<=st'.nxt
 tab:∀ (id:Nat) (e:Ent),look st.tab id=some e->e.prot st.lvl->look st'.tab id=some e
 slots:∀ t,t∉D->st'.slots[t]?=st.slots[t]?
 len:st'.slots.length=st.slots.length
theorem Pres.refl (D:List Nat) (st:St):Pres D st st:=⟨rfl,Nat.le_refl _,λ _ _ h _=>h,λ _ _=>rfl,rfl⟩
theorem Pres.trans {D D':List Nat} {s1 s2 s3:St} (h:Pres D s1 s2) (k:Pres D' s2 s3):Pres (D++D') s1 s3 where
 lvl:=k.lvl.trans h.lvl
 nxt:=Nat.le_trans h.nxt k.nxt
 tab:=λ id e he hp=>k.tab id e (h.tab id e he hp) (by rw[h.lvl]; exact hp)
 slots:=λ t ht=>by
  rw[k.slots t (λ h=>ht (by simp[h])),h.slots t (λ h=>ht (by simp[h]))]
 len:=k.len.trans h.len
theorem Pres.mono {D D':List Nat} {s1 s2:St} (h:Pres D s1 s2) (hd:∀ t∈D,t∈D'):Pres D' s1 s2:=
 ⟨h.lvl,h.nxt,h.tab,λ t ht=>h.slots t (λ h=>ht (hd t h)),h.len⟩
theorem Pres.put [Tags] (st:St) (dst:Option Nat) (x:AV):Pres dst.toList st (st.put dst x):=by
 cases dst with
 | none=>exact Pres.refl _ _
 | some d=>exact⟨rfl,Nat.le_refl _,λ _ _ h _=>h,λ t ht=>by simp at ht; simp[St.put,asc (λ h=>ht h.symm)],by simp[St.put]⟩
theorem Pres.putAfter [Tags] {st st':St} (h:Pres [] st st') (dst:Option Nat) (x:AV):Pres dst.toList st (st'.put dst x):=by
 simpa using h.trans (Pres.put st' dst x)
theorem LR (k:Kind) (lvl:Nat) (a b:Ty) (v:den (.pair a b)) (j:Nat):
  ze k lvl (.pair a b) v j=((ze k lvl a v.1 j).1++(ze k lvl b v.2 (ze k lvl a v.1 j).2.2).1,
   (ze k lvl a v.1 j).2.1++(ze k lvl b v.2 (ze k lvl a v.1 j).2.2).2.1,(ze k lvl b v.2 (ze k lvl a v.1 j).2.2).2.2):=rfl
theorem ZY (t1 t2:List (Nat×Ent)) (i:Nat):look (t1++t2) i=(look t1 i).or (look t2 i):=by
 induction t1 with
 | nil=>simp[look]
 | cons x r ih=>
  obtain⟨k,e⟩:=x;simp only[arE,look];cases h:Nat.beq k i with
  | true=>simp
  | false=>exact ih
structure UG (k:Kind) (lvl:Nat) (t:Ty) (v:den t) (j:Nat):Prop where
 len:(ze k lvl t v j).1.length=t.size
 le:j<=(ze k lvl t v j).2.2
 lt:∀ l∈(ze k lvl t v j).1,l.lt (ze k lvl t v j).2.2
 keys:∀ (id:Nat) (e:Ent),look (ze k lvl t v j).2.1 id=some e->j<=id/\id<(ze k lvl t v j).2.2/\∃ E e' xs,e=.arr k lvl E e' xs
theorem jB [Tags] (k:Kind) (lvl:Nat):∀ (t:Ty) (v:den t) (j:Nat),UG k lvl t v j
 | .i64,v,j=>⟨rfl,Nat.le_refl _,by simp[ze,Leaf.lt],by simp[ze,look]⟩
 | .u8,v,j=>⟨rfl,Nat.le_refl _,by simp[ze,Leaf.lt],by simp[ze,look]⟩
 | .bool,v,j=>⟨rfl,Nat.le_refl _,by simp[ze,Leaf.lt],by simp[ze,look]⟩
 | .str,v,j=>⟨rfl,Nat.le_refl _,by simp[ze,Leaf.lt],by simp[ze,look]⟩
 | .sl E e,v,j=>by
  refine⟨rfl,Nat.le_succ _,by simp[ze,Leaf.lt],?_⟩;intro id e' h;simp only[ze,jf,look] at h;split at h
  ·rename_i hid;cases h;exact⟨by omega,by simp[ze]; omega,E,e,v,rfl⟩
  ·cases h
 | .pair a b,v,j=>by
  have h1:=jB k lvl a v.1 j;have h2:=jB k lvl b v.2 (ze k lvl a v.1 j).2.2;have l1:=h1.le;have l2:=h2.le;refine⟨?_,?_,?_,?_⟩<;>simp only[LR]
  ·simp[h1.len,h2.len,Ty.size]
  ·omega
  ·intro l hl;rcases List.mem_append.1 hl with hl|hl
   ·exact Leaf.lt_mono l2 (h1.lt l hl)
   ·exact h2.lt l hl
  ·intro id e h;rw[ZY] at h;cases hh:look (ze k lvl a v.1 j).2.1 id with
   | some e'=>
    rw[hh] at h;simp at h;subst h;obtain⟨g1,g2,g3⟩:=h1.keys id _ hh;exact⟨g1,by omega,g3⟩
   | none=>
    rw[hh] at h;simp at h;obtain⟨g1,g2,g3⟩:=h2.keys id _ h;exact⟨by omega,g2,g3⟩
theorem EntOk.arrLoc [Tags] {γ:Nat->Own} {loc loc':Nat->Value} {w:World} {id:Nat} {k:Kind} {lvl E:Nat} {e:Ty} {xs:List (den e)} (h:loc' id=loc id)
  (g:EntOk γ loc w id (.arr k lvl E e xs)):EntOk γ loc' w id (.arr k lvl E e xs):=by
 cases k with
 | imm t=>simp only[EntOk] at *; rw[h]; exact g
 | own u=>simp only[EntOk] at *; rw[h]; exact g
 | lent=>simp only[EntOk] at *; rw[h]; exact g
theorem KW [Tags] {γ:Nat->Own} {w:World} {taint:Bool} (lvl:Nat):∀ (t:Ty) (v:den t) (j:Nat) (cs:List Value) (fp:List Nat) (loc:Nat->Value),
  Rd w t v cs fp->(∀ b∈fp,γ b=.persist∨(taint=true/\∃ i,γ b=.deep i))->
  ∃ loc',(∀ i,(i<j∨(ze (.imm taint) lvl t v j).2.2<=i)->loc' i=loc i)/\All2 (LeafOk loc') (ze (.imm taint) lvl t v j).1 cs/\
   ∀ (id:Nat) (e:Ent),look (ze (.imm taint) lvl t v j).2.1 id=some e->EntOk γ loc' w id e
 | .i64,v,j,cs,fp,loc,h,hf=>⟨loc,λ _ _=>rfl,by rw[h.1]; exact⟨⟨rfl,h.2.2⟩,trivial⟩,by simp[ze,look]⟩
 | .u8,v,j,cs,fp,loc,h,hf=>⟨loc,λ _ _=>rfl,by rw[h.1]; exact⟨rfl,trivial⟩,by simp[ze,look]⟩
 | .bool,v,j,cs,fp,loc,h,hf=>⟨loc,λ _ _=>rfl,by rw[h.1]; exact⟨rfl,trivial⟩,by simp[ze,look]⟩
 | .str,v,j,cs,fp,loc,h,hf=>⟨loc,λ _ _=>rfl,by rw[h.1]; exact⟨⟨rfl,h.2.2⟩,trivial⟩,by simp[ze,look]⟩
 | .sl E e,v,j,cs,fp,loc,h,hf=>by
  have hc:∃ c,cs=[c]/\∃ a n k,c=.slice a n k:=by obtain⟨a,n,c,h1,_⟩:=h; exact⟨_,h1,_,_,_,rfl⟩
  obtain⟨c,rfl,hsl⟩:=hc;refine⟨λ i=>if i=j then c else loc i,?_,?_,?_⟩
  ·intro i hi;have:i≠j:=by simp[ze] at hi; omega
   simp[this]
  ·exact⟨⟨by simp,hsl⟩,trivial⟩
  ·intro id e' hh;simp only[ze,jf,look] at hh;split at hh
   ·rename_i hid;cases hh;subst hid;refine⟨fp,?_,hf⟩;simp only[if_true];exact h
   ·cases hh
 | .pair a b,v,j,cs,fp,loc,h,hf=>by
  obtain⟨c1,c2,f1,f2,h1,h2,h3,h4⟩:=h;have s1:=jB (.imm taint) lvl a v.1 j;have s2:=jB (.imm taint) lvl b v.2 (ze (.imm taint) lvl a v.1 j).2.2;obtain⟨loc1,g1,g2,g3⟩:=KW lvl a v.1 j c1 f1 loc h3 (λ b hb=>hf b (by simp[h2,hb]));obtain⟨loc2,k1,k2,k3⟩:=KW lvl b v.2 (ze (.imm taint) lvl a v.1 j).2.2 c2 f2 loc1 h4 (λ b hb=>hf b (by simp[h2,hb]));have l1:=s1.le;have l2:=s2.le;refine⟨loc2,?_,?_,?_⟩
  ·intro i hi;simp only[LR] at hi;rw[k1 i (by omega),g1 i (by omega)]
  ·simp only[LR];rw[h1];refine All2.append ?_ k2;exact g2.leafLoc s1.lt (λ i hi=>k1 i (.inl hi))
  ·intro id e hh;simp only[LR] at hh;rw[ZY] at hh;cases hx:look (ze (.imm taint) lvl a v.1 j).2.1 id with
   | some e'=>
    rw[hx] at hh;simp at hh;subst hh;obtain⟨q1,q2,E,et,xs,rfl⟩:=s1.keys id _ hx;exact (g3 id _ hx).arrLoc (k1 id (.inl q2))
   | none=>
    rw[hx] at hh;simp at hh;exact k3 id e hh
theorem eG [Tags] {w:World} (u:Bool) (lvl:Nat):∀ (t:Ty) (v:den t) (j:Nat) (cs:List Value) (xs fs:List Nat) (loc:Nat->Value) (γ:Nat->Own),
  RdO w t v cs xs fs->xs.Nodup->(∀ b∈xs,b∉fs)->(u=true->fs.Nodup)->(u=false->∀ b∈fs,γ b=.persist)->
  ∃ (loc':Nat->Value) (γ':Nat->Own),(∀ i,(i<j∨(ze (.own u) lvl t v j).2.2<=i)->loc' i=loc i)/\All2 (LeafOk loc') (ze (.own u) lvl t v j).1 cs/\
   (∀ b,b∉xs->b∉fs->γ' b=γ b)/\(u=false->∀ b,b∉xs->γ' b=γ b)/\
   (∀ b∈xs,∃ id,j<=id/\id<(ze (.own u) lvl t v j).2.2/\γ' b=.top id)/\
   (u=true->∀ b∈fs,∃ id,j<=id/\id<(ze (.own u) lvl t v j).2.2/\γ' b=.deep id)/\
   ∀ γ'':Nat->Own,(∀ b∈xs,γ'' b=γ' b)->(∀ b∈fs,γ'' b=γ' b)->
    ∀ (id:Nat) (e:Ent),look (ze (.own u) lvl t v j).2.1 id=some e->EntOk γ'' loc' w id e
 | .i64,v,j,cs,xs,fs,loc,γ,h,_,_,_,_=>by
  obtain⟨h,rfl,rfl⟩:=h;exact⟨loc,γ,λ _ _=>rfl,by rw[h.1]; exact⟨⟨rfl,h.2.2⟩,trivial⟩,by simp,by simp,by simp,by simp,by simp[ze,look]⟩
 | .u8,v,j,cs,xs,fs,loc,γ,h,_,_,_,_=>by
  obtain⟨h,rfl,rfl⟩:=h;exact⟨loc,γ,λ _ _=>rfl,by rw[h.1]; exact⟨rfl,trivial⟩,by simp,by simp,by simp,by simp,by simp[ze,look]⟩
 | .bool,v,j,cs,xs,fs,loc,γ,h,_,_,_,_=>by
  obtain⟨h,rfl,rfl⟩:=h;exact⟨loc,γ,λ _ _=>rfl,by rw[h.1]; exact⟨rfl,trivial⟩,by simp,by simp,by simp,by simp,by simp[ze,look]⟩
 | .str,v,j,cs,xs,fs,loc,γ,h,_,_,_,_=>by
  obtain⟨h,rfl,rfl⟩:=h;exact⟨loc,γ,λ _ _=>rfl,by rw[h.1]; exact⟨⟨rfl,h.2.2⟩,trivial⟩,by simp,by simp,by simp,by simp,by simp[ze,look]⟩
 | .sl E e,v,j,cs,xs,fs,loc,γ,h,hnd,hxf,hfu,hfp=>by
  have hc:∃ c,cs=[c]/\∃ a n k,c=.slice a n k:=by
   rcases h with⟨_,h,_⟩|⟨b,cap,arr,T,fr,h,_⟩<;>exact⟨_,h,_,_,_,rfl⟩
  obtain⟨c,rfl,hsl⟩:=hc
  classical
  refine⟨λ i=>if i=j then c else loc i,λ b=>if b∈xs then .top j else if u=true/\b∈fs then .deep j else γ b,?_,⟨⟨by simp,hsl⟩,trivial⟩,?_,?_,?_,?_,?_⟩
  ·intro i hi;have:i≠j:=by simp[ze] at hi; omega
   simp[this]
  ·intro b h1 h2; simp[h1,h2]
  ·intro hu b h1; simp[hu,h1]
  ·intro b hb; exact⟨j,Nat.le_refl _,by simp[ze],by simp[hb]⟩
  ·intro hu b hb; refine⟨j,Nat.le_refl _,by simp[ze],?_⟩
   have:b∉xs:=λ hx=>hxf b hx hb;simp[this,hu,hb]
  ·intro γ'' hx hf id e' hh;simp only[ze,jf,look] at hh;split at hh
   ·rename_i hid;cases hh;subst hid;refine⟨xs,fs,?_,?_,?_⟩
    ·simp only[if_true]; exact h
    ·intro b hb; rw[hx b hb]; simp[hb]
    ·have nx:∀ b∈fs,b∉xs:=λ b hb hx=>hxf b hx hb;cases u with
     | true=>
      refine⟨hfu rfl,λ b hb => ?_⟩;rw[hf b hb]; simp[nx b hb,hb]
     | false=>
      intro b hb;rw[hf b hb]; simp[nx b hb,hfp rfl b hb]
   ·cases hh
 | .pair a b,v,j,cs,xs,fs,loc,γ,h,hnd,hxf,hfu,hfp=>by
  obtain⟨c1,c2,x1,x2,f1,f2,h1,h2,h3,h4,h5⟩:=h;subst h1; subst h2; subst h3
  have nd:=List.nodup_append.1 hnd;have s1:=jB (.own u) lvl a v.1 j;have s2:=jB (.own u) lvl b v.2 (ze (.own u) lvl a v.1 j).2.2;have l1:=s1.le;have l2:=s2.le;have fu1:u=true->f1.Nodup:=λ hu=>(List.nodup_append.1 (hfu hu)).1;have fu2:u=true->f2.Nodup:=λ hu=>(List.nodup_append.1 (hfu hu)).2.1;obtain⟨loc1,γ1,g1,g2,g3,g3',g4,g5,g6⟩:=eG u lvl a v.1 j c1 x1 f1 loc γ h4 nd.1 (λ b hb=>λ hf=>hxf b (by simp[hb]) (by simp[hf])) fu1
   (λ hu b hb=>hfp hu b (by simp[hb]))
  have pf2:u=false->∀ b∈f2,γ1 b=.persist:=λ hu b hb=>by
   rw[g3' hu b (λ hx=>hxf b (by simp[hx]) (by simp[hb]))]; exact hfp hu b (by simp[hb])
  obtain⟨loc2,γ2,k1,k2,k3,k3',k4,k5,k6⟩:=eG u lvl b v.2 (ze (.own u) lvl a v.1 j).2.2 c2 x2 f2 loc1 γ1 h5 nd.2.1
   (λ b hb=>λ hf=>hxf b (by simp[hb]) (by simp[hf])) fu2 pf2
  have same:∀ b,(b∈x1∨b∈f1)->γ2 b=γ1 b:=by
   intro b hb;have nx2:b∉x2:=λ hx=>by
    rcases hb with hb|hb
    ·exact nd.2.2 b hb b hx rfl
    ·exact hxf b (by simp[hx]) (by simp[hb])
   cases hu:u with
   | false=>exact k3' hu b nx2
   | true=>
    refine k3 b nx2 (λ hf => ?_);rcases hb with hb|hb
    ·exact hxf b (by simp[hb]) (by simp[hf])
    ·exact (List.nodup_append.1 (hfu hu)).2.2 b hb b hf rfl
  refine⟨loc2,γ2,?_,?_,?_,?_,?_,?_,?_⟩
  ·intro i hi;simp only[LR] at hi;rw[k1 i (by omega),g1 i (by omega)]
  ·simp only[LR];exact All2.append (g2.leafLoc s1.lt (λ i hi=>k1 i (.inl hi))) k2
  ·intro b hb hf;simp only[ar0,not_or] at hb hf;rw[k3 b hb.2 hf.2,g3 b hb.1 hf.1]
  ·intro hu b hb;simp only[ar0,not_or] at hb;rw[k3' hu b hb.2,g3' hu b hb.1]
  ·intro b hb;simp only[LR];rcases List.mem_append.1 hb with hb|hb
   ·obtain⟨id,q1,q2,q3⟩:=g4 b hb;exact⟨id,q1,by omega,by rw[same b (.inl hb)]; exact q3⟩
   ·obtain⟨id,q1,q2,q3⟩:=k4 b hb;exact⟨id,by omega,q2,q3⟩
  ·intro hu b hb;simp only[LR];rcases List.mem_append.1 hb with hb|hb
   ·obtain⟨id,q1,q2,q3⟩:=g5 hu b hb;exact⟨id,q1,by omega,by rw[same b (.inr hb)]; exact q3⟩
   ·obtain⟨id,q1,q2,q3⟩:=k5 hu b hb;exact⟨id,by omega,q2,q3⟩
  ·intro γ'' hx hf id e hh;simp only[LR] at hh;rw[ZY] at hh;cases hx1:look (ze (.own u) lvl a v.1 j).2.1 id with
   | some e'=>
    rw[hx1] at hh;simp at hh;subst hh;obtain⟨q1,q2,E,et,vs,rfl⟩:=s1.keys id _ hx1;exact (g6 γ'' (λ b hb=>by rw[hx b (by simp[hb]),same b (.inl hb)]) (λ b hb=>by rw[hf b (by simp[hb]),same b (.inr hb)]) id _ hx1).arrLoc (k1 id (.inl q2))
   | none=>
    rw[hx1] at hh;simp at hh;exact k6 γ'' (λ b hb=>hx b (by simp[hb])) (λ b hb=>hf b (by simp[hb])) id e hh
theorem o0 {e e':Ty} {xs:List (den e)} {ys:List (den e')} (h:bB e e' xs=some ys):∃ he:e=e',ys=he▸xs:=by
 unfold bB at h;split at h
 ·rename_i he; exact⟨he,by simpa using h.symm⟩
 ·cases h
theorem oZ [Tags] {E E':Nat} {e e':Ty} {xs:List (den e)} {ys:List (den e')} (h:fz E E' e e' xs=some ys):E=E'/\∃ he:e=e',ys=he▸xs:=by
 unfold fz at h;split at h
 ·next hE=>exact⟨(zV _ _).1 hE,o0 h⟩
 ·cases h
theorem pb [Tags] {γ:Nat->Own} {loc:Nat->Value} {w:World} {st:St} (hE:∀ (id:Nat) (e:Ent),look st.tab id=some e->EntOk γ loc w id e):
  ∀ (t:Ty) (ls:List Leaf) (vs:List Value) (v:den t) (r:List Leaf),zQ st.tab t ls=some (v,r)->All2 (LeafOk loc) ls vs->
   ∃ ls1 vs1 vs2 fp,ls=ls1++r/\vs=vs1++vs2/\All2 (LeafOk loc) ls1 vs1/\All2 (LeafOk loc) r vs2/\Rd w t v vs1 fp/\
    (∀ b∈fp,γ b ≠ .alien/\∀ i,γ b=.top i->i∈yb ls1)/\(yF st ls1=true->∀ b∈fp,γ b=.persist)
 | .i64,ls,vs,v,r,h,ha=>by
  match ls,vs,h,ha with
  | .i n::r',c::vs',h,ha=>
   simp only[zQ,aqK,aqO] at h;obtain⟨rfl,rfl⟩:=h;exact⟨[.i _],[c],vs',[],rfl,rfl,⟨ha.1,trivial⟩,ha.2,⟨by rw[ha.1.1],rfl,ha.1.2⟩,by simp,by simp⟩
 | .u8,ls,vs,v,r,h,ha=>by
  match ls,vs,h,ha with
  | .u n::r',c::vs',h,ha=>
   simp only[zQ,aqK,aqO] at h;obtain⟨rfl,rfl⟩:=h;exact⟨[.u _],[c],vs',[],rfl,rfl,⟨ha.1,trivial⟩,ha.2,⟨by rw[show c=_ from ha.1],rfl⟩,by simp,by simp⟩
 | .bool,ls,vs,v,r,h,ha=>by
  match ls,vs,h,ha with
  | .b n::r',c::vs',h,ha=>
   simp only[zQ,aqK,aqO] at h;obtain⟨rfl,rfl⟩:=h;exact⟨[.b _],[c],vs',[],rfl,rfl,⟨ha.1,trivial⟩,ha.2,⟨by rw[show c=_ from ha.1],rfl⟩,by simp,by simp⟩
 | .str,ls,vs,v,r,h,ha=>by
  match ls,vs,h,ha with
  | .s n::r',c::vs',h,ha=>
   simp only[zQ,aqK,aqO] at h;obtain⟨rfl,rfl⟩:=h;exact⟨[.s _],[c],vs',[],rfl,rfl,⟨ha.1,trivial⟩,ha.2,⟨by rw[ha.1.1],rfl,ha.1.2⟩,by simp,by simp⟩
 | .sl E e,ls,vs,v,r,h,ha=>by
  match ls,vs,h,ha with
  | .nil::r',c::vs',h,ha=>
   simp only[zQ,aqK,aqO] at h;obtain⟨rfl,rfl⟩:=h;exact⟨[.nil],[c],vs',[],rfl,rfl,⟨ha.1,trivial⟩,ha.2,⟨none,0,0,by rw[show c=_ from ha.1],rfl,Nat.le_refl _,by simp,.inl ⟨rfl,rfl,λ _=>⟨rfl,rfl⟩⟩⟩,by simp,by simp⟩
  | .sl id::r',c::vs',h,ha=>
   simp only[zQ] at h;split at h
   ·rename_i k lvl E' e' xs hl;split at h
    ·rename_i ys hc;simp only[aqK,aqO] at h;obtain⟨rfl,rfl⟩:=h;obtain⟨hEE,he,hys⟩:=oZ hc;subst hEE;subst he;simp only at hys;subst hys;have aiB:=hE id _ hl;have hc':c=loc id:=ha.1.1;cases k with
     | imm taint=>
      obtain⟨fp,g1,g2⟩:=aiB;refine⟨[.sl id],[c],vs',fp,rfl,rfl,⟨ha.1,trivial⟩,ha.2,by rw[hc']; exact g1,?_,?_⟩
      ·intro b hb;rcases g2 b hb with h|⟨_,i,h⟩<;>simp[h]
      ·intro hs b hb;simp only[yF,hl] at hs;cases taint with
       | true=>simp at hs
       | false=>
        rcases g2 b hb with h|⟨h,_⟩
        ·exact h
        ·cases h
     | lent=>
      obtain⟨fp,g1,g2⟩:=aiB;refine⟨[.sl id],[c],vs',fp,rfl,rfl,⟨ha.1,trivial⟩,ha.2,by rw[hc']; exact g1,?_,?_⟩
      ·intro b hb;rw[g2.2 b hb]; simp
      ·intro hs b hb;simp only[yF,hl] at hs;cases hs
     | own u=>
      obtain⟨xb,fs,g1,g2,g3⟩:=aiB;obtain⟨fp,q1,q2⟩:=g1.rd;refine⟨[.sl id],[c],vs',fp,rfl,rfl,⟨ha.1,trivial⟩,ha.2,by rw[hc']; exact q1,?_,?_⟩
      ·intro b hb;rcases q2 b hb with h|h
       ·rw[g2 b h]; simp[yb]
       ·cases u with
        | true=>rw[g3.2 b h]; simp
        | false=>rw[g3 b h]; simp
      ·intro hs b hb;simp only[yF,hl] at hs;cases hs
    ·cases h
   ·cases h
 | .pair a b,ls,vs,v,r,h,ha=>by
  simp only[zQ] at h;split at h
  ·rename_i x r1 h1;split at h
   ·rename_i y r2 h2;simp only[aqK,aqO] at h;obtain⟨rfl,rfl⟩:=h;obtain⟨ls1,vs1,vs2,fp1,p1,p2,p3,p4,p5,p6,p7⟩:=pb hE a ls vs x r1 h1 ha;obtain⟨ls2,vs3,vs4,fp2,q1,q2,q3,q4,q5,q6,q7⟩:=pb hE b r1 vs2 y _ h2 p4;refine⟨ls1++ls2,vs1++vs3,vs4,fp1++fp2,by simp[p1,q1],by simp[p2,q2],p3.append q3,q4,⟨vs1,vs3,fp1,fp2,rfl,rfl,p5,q5⟩,?_,?_⟩
    ·have sla:∀ l1 l2:List Leaf,yb (l1++l2)=yb l1++yb l2:=by
      intro l1 l2;induction l1 with
      | nil=>rfl
      | cons x l ih=>cases x<;>simp[yb,ih]
     intro b hb;rw[sla];rcases List.mem_append.1 hb with hb|hb
     ·exact⟨(p6 b hb).1,λ i hi=>by simp[(p6 b hb).2 i hi]⟩
     ·exact⟨(q6 b hb).1,λ i hi=>by simp[(q6 b hb).2 i hi]⟩
    ·have sta:∀ l1 l2:List Leaf,yF st (l1++l2)=true->yF st l1=true/\yF st l2=true:=by
      intro l1 l2;induction l1 with
      | nil=>intro h; exact⟨rfl,h⟩
      | cons x l ih=>
       intro h;cases x with
       | sl id=>
        simp only[arE,yF] at h ⊢;split at h
        ·first|exact ih h|(rename_i hl; rw[hl]; exact ih h)
        ·cases h
       | i n=>exact ih h
       | u n=>exact ih h
       | b n=>exact ih h
       | s n=>exact ih h
       | nil=>exact ih h
       | ptr _ _=>simp[yF] at h
       | ep _ _ _ _=>simp[yF] at h
       | fn _ _=>simp[yF] at h
       | any=>simp[yF] at h
       | ap _=>simp[yF] at h
     intro hs b hb;obtain⟨s1,s2⟩:=sta _ _ hs;rcases List.mem_append.1 hb with hb|hb
     ·exact p7 s1 b hb
     ·exact q7 s2 b hb
   ·cases h
  ·cases h
theorem am (l1 l2:List Leaf):yb (l1++l2)=yb l1++yb l2:=by
 induction l1 with
 | nil=>rfl
 | cons x l ih=>cases x<;>simp[yb,ih]
def jS (st:St) (i:Nat):Prop:=∃ u lvl E e xs,look st.tab i=some (.arr (.own u) lvl E e xs)/\lvl=st.lvl
def LX (st:St) (i:Nat):Prop:=∃ lvl E e xs,look st.tab i=some (.arr (.own true) lvl E e xs)
theorem xC {i:Nat} {l:List Nat} (h:l.elem i=false):i∉l:=by
 intro hm;have:l.elem i=true:=List.elem_eq_true_of_mem hm;rw[this] at h; cases h
theorem pB [Tags] {st:St} {id:Nat} {r:List Leaf} {ids:List Nat} (h:yw st (.sl id::r)=some ids):
  ∃ rest,yw st r=some rest/\ids=id::rest/\id∉rest/\jS st id:=by
 simp only[yw] at h;split at h
 ·rename_i u lvl E e xs hl;split at h
  ·rename_i hlv;split at h
   ·rename_i rest hr;split at h
    ·cases h
    ·rename_i he;cases h;exact⟨rest,hr,rfl,xC he,u,lvl,E,e,xs,hl,(zV _ _).1 hlv⟩
   ·cases h
  ·cases h
 ·cases h
theorem WH [Tags] {st:St} {id:Nat} {r:List Leaf} {ids:List Nat} (h:given st (.sl id::r)=some ids):
  ∃ rest,given st r=some rest/\ids=id::rest/\id∉rest/\jS st id/\LX st id:=by
 simp only[given] at h;split at h
 ·rename_i lvl E e xs hl;split at h
  ·rename_i hlv;split at h
   ·rename_i rest hr;split at h
    ·cases h
    ·rename_i he;cases h;exact⟨rest,hr,rfl,xC he,⟨true,lvl,E,e,xs,hl,(zV _ _).1 hlv⟩,⟨lvl,E,e,xs,hl⟩⟩
   ·cases h
  ·cases h
 ·cases h
theorem Jx [Tags] {st:St}:∀ {ls:List Leaf} {ids:List Nat},given st ls=some ids->yw st ls=some ids/\∀ i∈ids,LX st i
 | [],ids,h=>by simp[given] at h; subst h; simp[yw]
 | .sl id::r,ids,h=>by
  obtain⟨rest,h1,h2,h3,h4,h5⟩:=WH h;obtain⟨g1,g2⟩:=Jx h1;obtain⟨u,lvl,E,e,xs,hl,hv⟩:=h4;subst h2;refine⟨?_,?_⟩
  ·simp only[yw,hl,hv,g1,Nat.beq_refl];have:rest.elem id=false:=by
    cases he:rest.elem id with
    | false=>rfl
    | true=>exact absurd (List.mem_of_elem_eq_true he) h3
   rw[this]
  ·intro i hi;rcases List.mem_cons.1 hi with rfl|hi
   ·exact h5
   ·exact g2 i hi
 | .i _::r,ids,h=>Jx (ls:=r) h
 | .u _::r,ids,h=>Jx (ls:=r) h
 | .b _::r,ids,h=>Jx (ls:=r) h
 | .s _::r,ids,h=>Jx (ls:=r) h
 | .nil::r,ids,h=>Jx (ls:=r) h
 | .ptr _ _::r,ids,h=>by simp[given] at h
 | .ep _ _ _ _::r,ids,h=>by simp[given] at h
 | .fn _ _::r,ids,h=>by simp[given] at h
 | .any::r,ids,h=>by simp[given] at h
 | .ap _::r,ids,h=>by simp[given] at h
theorem J3 [Tags] {st:St}:∀ {l1 l2:List Leaf} {ids:List Nat},yw st (l1++l2)=some ids->
  ∃ i1 i2,yw st l1=some i1/\yw st l2=some i2/\ids=i1++i2/\∀ i∈i1,i∉i2
 | [],l2,ids,h=>⟨[],ids,rfl,h,rfl,by simp⟩
 | .sl id::r,l2,ids,h=>by
  obtain⟨rest,h1,h2,h3,u,lvl,E,e,xs,hl,hv⟩:=pB h;obtain⟨i1,i2,g1,g2,g3,g4⟩:=J3 h1;subst h2; subst g3
  have h3':id∉i1/\id∉i2:=by simpa using h3
  refine⟨id::i1,i2,?_,g2,rfl,?_⟩
  ·simp only[yw,hl,hv,g1,Nat.beq_refl];have:i1.elem id=false:=by
    cases he:i1.elem id with
    | false=>rfl
    | true=>exact absurd (List.mem_of_elem_eq_true he) h3'.1
   rw[this]
  ·intro i hi;rcases List.mem_cons.1 hi with rfl|hi
   ·exact h3'.2
   ·exact g4 i hi
 | .i _::r,l2,ids,h=>J3 (l1:=r) h
 | .u _::r,l2,ids,h=>J3 (l1:=r) h
 | .b _::r,l2,ids,h=>J3 (l1:=r) h
 | .s _::r,l2,ids,h=>J3 (l1:=r) h
 | .nil::r,l2,ids,h=>J3 (l1:=r) h
 | .ptr _ _::r,l2,ids,h=>by simp[yw] at h
 | .ep _ _ _ _::r,l2,ids,h=>by simp[yw] at h
 | .fn _ _::r,l2,ids,h=>by simp[yw] at h
 | .any::r,l2,ids,h=>by simp[yw] at h
 | .ap _::r,l2,ids,h=>by simp[yw] at h
theorem Jw [Tags] {st:St}:∀ {ls:List Leaf} {ids:List Nat},yw st ls=some ids->∀ i∈ids,jS st i
 | [],ids,h=>by simp[yw] at h; subst h; simp
 | .sl id::r,ids,h=>by
  obtain⟨rest,h1,h2,h3,h4⟩:=pB h;subst h2;intro i hi;rcases List.mem_cons.1 hi with rfl|hi
  ·exact h4
  ·exact Jw h1 i hi
 | .i _::r,ids,h=>Jw (ls:=r) h
 | .u _::r,ids,h=>Jw (ls:=r) h
 | .b _::r,ids,h=>Jw (ls:=r) h
 | .s _::r,ids,h=>Jw (ls:=r) h
 | .nil::r,ids,h=>Jw (ls:=r) h
 | .ptr _ _::r,ids,h=>by simp[yw] at h
 | .ep _ _ _ _::r,ids,h=>by simp[yw] at h
 | .fn _ _::r,ids,h=>by simp[yw] at h
 | .any::r,ids,h=>by simp[yw] at h
 | .ap _::r,ids,h=>by simp[yw] at h
theorem fF {tab:List (Nat×Ent)}:∀ (t:Ty) (ls:List Leaf) (v:den t) (r:List Leaf),zQ tab t ls=some (v,r)->∃ l1,ls=l1++r
 | .i64,ls,v,r,h=>by
  match ls,h with
  | .i n::r',h=>simp only[zQ,aqK,aqO] at h; exact⟨[.i n],by simp[h.2]⟩
 | .u8,ls,v,r,h=>by
  match ls,h with
  | .u n::r',h=>simp only[zQ,aqK,aqO] at h; exact⟨[.u n],by simp[h.2]⟩
 | .bool,ls,v,r,h=>by
  match ls,h with
  | .b n::r',h=>simp only[zQ,aqK,aqO] at h; exact⟨[.b n],by simp[h.2]⟩
 | .str,ls,v,r,h=>by
  match ls,h with
  | .s n::r',h=>simp only[zQ,aqK,aqO] at h; exact⟨[.s n],by simp[h.2]⟩
 | .sl E e,ls,v,r,h=>by
  match ls,h with
  | .nil::r',h=>simp only[zQ,aqK,aqO] at h; exact⟨[.nil],by simp[h.2]⟩
  | .sl id::r',h=>
   simp only[zQ] at h;split at h
   ·split at h
    ·simp only[aqK,aqO] at h; exact⟨[.sl id],by simp[h.2]⟩
    ·cases h
   ·cases h
 | .pair a b,ls,v,r,h=>by
  simp only[zQ] at h;split at h
  ·rename_i x r1 h1;split at h
   ·rename_i y r2 h2;simp only[aqK,aqO] at h;obtain⟨l1,e1⟩:=fF a ls x r1 h1;obtain⟨l2,e2⟩:=fF b r1 y r2 h2;exact⟨l1++l2,by simp[e1,e2,h.2]⟩
   ·cases h
  ·cases h
theorem Z3 {l1 l2:List Nat} (h1:l1.Nodup) (h2:l2.Nodup) (h:∀ x∈l1,x∉l2):(l1++l2).Nodup:=
 List.nodup_append.2 ⟨h1,h2,λ a ha b hb e=>h a ha (e▸hb)⟩
theorem pa [Tags] {γ:Nat->Own} {loc:Nat->Value} {w:World} {st:St} (hE:∀ (id:Nat) (e:Ent),look st.tab id=some e->EntOk γ loc w id e):
  ∀ (t:Ty) (ls:List Leaf) (vs:List Value) (v:den t) (r:List Leaf),zQ st.tab t ls=some (v,r)->All2 (LeafOk loc) ls vs->
   ∀ ls1 ids,ls=ls1++r->yw st ls1=some ids->
   ∃ vs1 vs2 xs fs,vs=vs1++vs2/\All2 (LeafOk loc) r vs2/\RdO w t v vs1 xs fs/\xs.Nodup/\(∀ b∈xs,∃ i∈ids,γ b=.top i)/\
    (∀ b∈fs,γ b=.persist∨∃ i∈ids,γ b=.deep i)/\((∀ i∈ids,LX st i)->fs.Nodup/\∀ b∈fs,∃ i∈ids,γ b=.deep i)
 | .i64,ls,vs,v,r,h,ha,ls1,ids,hls,hg=>by
  match ls,vs,h,ha with
  | .i n::r',c::vs',h,ha=>
   simp only[zQ,aqK,aqO] at h;obtain⟨rfl,rfl⟩:=h;exact⟨[c],vs',[],[],rfl,ha.2,⟨⟨by rw[ha.1.1],rfl,ha.1.2⟩,rfl,rfl⟩,by simp,by simp,by simp,by simp⟩
 | .u8,ls,vs,v,r,h,ha,ls1,ids,hls,hg=>by
  match ls,vs,h,ha with
  | .u n::r',c::vs',h,ha=>
   simp only[zQ,aqK,aqO] at h;obtain⟨rfl,rfl⟩:=h;exact⟨[c],vs',[],[],rfl,ha.2,⟨⟨by rw[show c=_ from ha.1],rfl⟩,rfl,rfl⟩,by simp,by simp,by simp,by simp⟩
 | .bool,ls,vs,v,r,h,ha,ls1,ids,hls,hg=>by
  match ls,vs,h,ha with
  | .b n::r',c::vs',h,ha=>
   simp only[zQ,aqK,aqO] at h;obtain⟨rfl,rfl⟩:=h;exact⟨[c],vs',[],[],rfl,ha.2,⟨⟨by rw[show c=_ from ha.1],rfl⟩,rfl,rfl⟩,by simp,by simp,by simp,by simp⟩
 | .str,ls,vs,v,r,h,ha,ls1,ids,hls,hg=>by
  match ls,vs,h,ha with
  | .s n::r',c::vs',h,ha=>
   simp only[zQ,aqK,aqO] at h;obtain⟨rfl,rfl⟩:=h;exact⟨[c],vs',[],[],rfl,ha.2,⟨⟨by rw[ha.1.1],rfl,ha.1.2⟩,rfl,rfl⟩,by simp,by simp,by simp,by simp⟩
 | .sl E e,ls,vs,v,r,h,ha,ls1,ids,hls,hg=>by
  match ls,vs,h,ha with
  | .nil::r',c::vs',h,ha=>
   simp only[zQ,aqK,aqO] at h;obtain⟨rfl,rfl⟩:=h;exact⟨[c],vs',[],[],rfl,ha.2,.inl ⟨rfl,by rw[show c=_ from ha.1],rfl,rfl⟩,by simp,by simp,by simp,by simp⟩
  | .sl id::r',c::vs',h,ha=>
   simp only[zQ] at h;split at h
   ·rename_i k lvl E' e' xs hl;split at h
    ·rename_i ys hc;simp only[aqK,aqO] at h;obtain⟨rfl,rfl⟩:=h;obtain⟨hEE,he,hys⟩:=oZ hc;subst hEE;subst he;simp only at hys;subst hys;have ap5:ls1=[.sl id]:=by
      have:[Leaf.sl id]++r'=ls1++r':=hls;exact (List.append_cancel_right this).symm
     subst ap5;obtain⟨rest,g1,g2,g3,u,lvl',E'',e'',xs',hl',hv⟩:=pB hg;rw[hl] at hl';cases hl';simp only[yw,aqK] at g1;subst g1; subst g2
     obtain⟨xb,fs,q1,q2,q3⟩:=hE id _ hl;have hc':c=loc id:=ha.1.1;refine⟨[c],vs',xb,fs,rfl,ha.2,by rw[hc']; exact q1,?_,?_,?_,?_⟩
     ·rcases q1 with⟨_,_,h,_⟩|⟨b,cap,arr,T,fr,_,_,_,_,_,_,_,h⟩<;>simp[h]
     ·intro b hb; exact⟨id,by simp,q2 b hb⟩
     ·intro b hb;cases u with
      | true=>exact .inr ⟨id,by simp,q3.2 b hb⟩
      | false=>exact .inl (q3 b hb)
     ·intro hu;obtain⟨l2,E2,e2,xs2,hl2⟩:=hu id (by simp);rw[hl] at hl2;cases hl2;exact⟨q3.1,λ b hb=>⟨id,by simp,q3.2 b hb⟩⟩
    ·cases h
   ·cases h
 | .pair a b,ls,vs,v,r,h,ha,ls1,ids,hls,hg=>by
  simp only[zQ] at h;split at h
  ·rename_i x r1 h1;split at h
   ·rename_i y r2 h2;simp only[aqK,aqO] at h;obtain⟨rfl,rfl⟩:=h;obtain⟨la,ea⟩:=fF a ls x r1 h1;obtain⟨lb,eb⟩:=fF b r1 y _ h2;have e1:ls1=la++lb:=by
     have:ls1++r2=(la++lb)++r2:=by rw[←hls,ea,eb]; simp
     exact List.append_cancel_right this
    subst e1;obtain⟨i1,i2,g1,g2,g3,g4⟩:=J3 hg;subst g3;obtain⟨vs1,vs2,xs1,fs1,p1,p2,p3,p4,p5,p6,p7⟩:=pa hE a ls vs x r1 h1 ha la i1 ea g1;obtain⟨vs3,vs4,xs2,fs2,q1,q2,q3,q4,q5,q6,q7⟩:=pa hE b r1 vs2 y _ h2 p2 lb i2 eb g2;refine⟨vs1++vs3,vs4,xs1++xs2,fs1++fs2,by simp[p1,q1],q2,⟨vs1,vs3,xs1,xs2,fs1,fs2,rfl,rfl,rfl,p3,q3⟩,?_,?_,?_,?_⟩
    ·refine Z3 p4 q4 (λ c hc hc' => ?_);obtain⟨i,hi,e1⟩:=p5 c hc;obtain⟨i',hi',e2⟩:=q5 c hc';rw[e1] at e2; cases e2
     exact g4 i hi hi'
    ·intro c hc;rcases List.mem_append.1 hc with hc|hc
     ·obtain⟨i,hi,e⟩:=p5 c hc; exact⟨i,by simp[hi],e⟩
     ·obtain⟨i,hi,e⟩:=q5 c hc; exact⟨i,by simp[hi],e⟩
    ·intro c hc;rcases List.mem_append.1 hc with hc|hc
     ·rcases p6 c hc with h|⟨i,hi,e⟩
      ·exact .inl h
      ·exact .inr ⟨i,by simp[hi],e⟩
     ·rcases q6 c hc with h|⟨i,hi,e⟩
      ·exact .inl h
      ·exact .inr ⟨i,by simp[hi],e⟩
    ·intro hu;obtain⟨n1,d1⟩:=p7 (λ i hi=>hu i (by simp[hi]));obtain⟨n2,d2⟩:=q7 (λ i hi=>hu i (by simp[hi]));refine⟨Z3 n1 n2 (λ c hc hc' => ?_),?_⟩
     ·obtain⟨i,hi,e1⟩:=d1 c hc;obtain⟨i',hi',e2⟩:=d2 c hc';rw[e1] at e2; cases e2
      exact g4 i hi hi'
     ·intro c hc;rcases List.mem_append.1 hc with hc|hc
      ·obtain⟨i,hi,e⟩:=d1 c hc; exact⟨i,by simp[hi],e⟩
      ·obtain⟨i,hi,e⟩:=d2 c hc; exact⟨i,by simp[hi],e⟩
   ·cases h
  ·cases h
def yd:Ty->List Value
 | .i64=>[.int .i64 0] | .u8=>[.int .u8 0] | .bool=>[.bool false] | .str=>[.string ⟨⟨[]⟩⟩] | .sl _ _=>[.slice none 0 0]
 | .pair a b=>yd a++yd b
def yD (t:Ty) (cs:List Value):Value:=if t.isPair then .agg cs.toArray else cs.headD undef
def Mq:Value->Value->Bool
 | .int .i64 0,.int .i64 0=>true
 | .int .u8 0,.int .u8 0=>true
 | .bool false,.bool false=>true
 | .string a,.string b=>a.data.toList.isEmpty && b.data.toList.isEmpty
 | .slice none 0 0,.slice none 0 0=>true
 | _,_=>false
theorem A0 {a b:Value} (h:Mq a b=true):a=b:=by
 unfold Mq at h;split at h
 ·rfl
 ·rfl
 ·rfl
 ·next x y=>
  simp only[aqF,List.isEmpty_iff] at h;obtain⟨⟨l⟩⟩:=x;obtain⟨⟨m⟩⟩:=y;simp only at h;obtain⟨rfl,rfl⟩:=h;rfl
 ·rfl
 ·cases h
def cu:List Value->List Value->Bool
 | [],[]=>true
 | a::r,b::s=>Mq a b && cu r s
 | _,_=>false
theorem pX [Tags]:∀ {a b:List Value},cu a b=true->a=b
 | [],[],_=>rfl
 | a::r,b::s,h=>by simp only[cu,aqF] at h; rw[A0 h.1,pX h.2]
 | [],_::_,h=>by cases h
 | _::_,[],h=>by cases h
def pW:Value->Ty->Bool
 | .agg cs,.pair a b=>cu cs.toList (yd (.pair a b))
 | v,.i64=>Mq v (.int .i64 0)
 | v,.u8=>Mq v (.int .u8 0)
 | v,.bool=>Mq v (.bool false)
 | v,.str=>Mq v (.string ⟨⟨[]⟩⟩)
 | v,.sl _ _=>Mq v (.slice none 0 0)
 | _,_=>false
theorem X3 [Tags] {v:Value} {t:Ty} (h:pW v t=true):v=yD t (yd t):=by
 unfold pW at h;split at h<;>first|exact A0 h|(cases h; done)|skip
 ·have:=pX h;simp only[yD,Ty.isPair,if_true];rw[←this]
def J2 (tys:List (Nat×TD)) (n:Nat):List Field->List (Nat×Nat)->Bool
 | [],[]=>true
 | f::fs,(off,ft)::r=>Nat.beq f.offset off && Nat.beq f.type ft && (match lk tys ft with
   | some d=>d.arr.isNone && Nat.ble (off+d.ty.size) n
   | none=>false) && J2 tys n fs r
 | _,_=>false
def KX (tys:List (Nat×TD)) (d:TD):TypeDesc->Bool
 | .int .i64=>decide (d.ty=.i64) && d.arr.isNone
 | .int .u8=>decide (d.ty=.u8) && d.arr.isNone
 | .bool=>decide (d.ty=.bool) && d.arr.isNone
 | .string=>decide (d.ty=.str) && d.arr.isNone
 | .slice E=>d.arr.isNone && (match d.ty with
  | .sl E' e=>Nat.beq E E' && (match lk tys E with|some de=>decide (de.ty=e) && de.arr.isNone|none=>false)
  | _=>false)
 | .array n E=>(match d.arr,d.ty with
  | some m,.sl E' e=>Nat.beq n m && Nat.beq E E' && (match lk tys E with|some de=>decide (de.ty=e) && de.arr.isNone|none=>false)
  | _,_=>false)
 | .struct fs=>d.arr.isNone && d.ty.isPair && J2 tys d.ty.size fs.toList d.flds
 | _=>false
def oF:Nat->List Value->List Value->Bool
 | 0,_,[]=>true
 | n+1,z,cs=>cu (cs.take z.length) z && oF n z (cs.drop z.length)
 | _,_,_=>false
def NC (d:TD) (i:TypeInfo):Bool:=
 (Nat.beq i.bytes d.bytes && Nat.ble 1 d.bytes) && (match d.arr with
  | none=>Nat.beq i.size d.ty.size && (match i.zero with|some v=>pW v d.ty|none=>false)
  | some n=>(match d.ty,i.zero with
   | .sl _ e,some (.agg cs)=>Nat.beq i.size (n*e.size) && oF n (yd e) cs.toList
   | _,_=>false))
def vZ (P:Program) (tys:List (Nat×TD)) (t:Nat) (d:TD):Bool:=
 (d.flds.isEmpty || (d.ty.isPair && d.arr.isNone)) &&   (match P.info? t with|some i=>NC d i|none=>false) && (match P.underlying t with|some u=>KX tys d u|none=>false)
def EN [Tags] (t:Nat) (d:TD):Bool:=match d.ty with
 | .sl E e => !Nat.beq E Tags.post && (d.arr.isNone || !Nat.beq t Tags.post) || (d.arr.isNone && Nat.beq e.size 18)
 | _=>true
def yA [Tags] (P:Program) (tys:List (Nat×TD)):Bool:=tys.all λ x=>vZ P tys x.1 x.2 && EN x.1 x.2
theorem Ll {α:Type}:∀ {l:List (Nat×α)} {i:Nat} {x:α},lk l i=some x->(i,x)∈l
 | [],_,_,h=>by cases h
 | (k,e)::r,i,x,h=>by
  simp only[lk] at h;cases hk:Nat.beq k i with
  | true=>rw[hk] at h; simp at h; subst h; rw[(zV _ _).1 hk]; simp
  | false=>rw[hk] at h; simp only at h; exact List.mem_cons_of_mem _ (Ll h)
theorem agu [Tags] {P:Program} {tys:List (Nat×TD)} (h:yA P tys=true) {t:Nat} {d:TD} (hd:lk tys t=some d):vZ P tys t d=true:=
 ((Bool.and_eq_true _ _).mp (List.all_eq_true.1 h _ (Ll hd))).1
theorem Mw [Tags] {P:Program} {tys:List (Nat×TD)} (h:yA P tys=true) {t:Nat} {d:TD} (hd:lk tys t=some d):(∀ {E:Nat} {e:Ty},d.ty=.sl E e->E=Tags.post->e.size=18)/\∀ {E n:Nat} {e:Ty},d.ty=.sl E e->d.arr=some n->E≠Tags.post/\t≠Tags.post:=by
 have h1:=((Bool.and_eq_true _ _).mp (List.all_eq_true.1 h _ (Ll hd))).2;unfold EN at h1;refine⟨λ {E e} he hE => ?_,λ {E n e} he ha => ?_⟩
 ·rw[he] at h1;simp only[arj,aqF,arc] at h1;rcases h1 with h1|h1
  ·exact absurd hE ((ZR _ _).1 h1.1)
  ·exact (zV _ _).1 h1.2
 ·rw[he,ha] at h1;simp only[arj,aqF,arc,Option.isNone_some,ar3,false_or,false_and,or_false] at h1;exact⟨(ZR _ _).1 h1.1,(ZR _ _).1 h1.2⟩
structure TOk (P:Program) (tys:List (Nat×TD)) (t:Nat) (d:TD):Prop where
 info:∃ i,P.info? t=some i/\NC d i=true
 und:∃ u,P.underlying t=some u/\KX tys d u=true
 flds:d.flds≠[]->d.ty.isPair=true/\d.arr=none
theorem yh [Tags] {P:Program} {tys:List (Nat×TD)} (h:yA P tys=true) {t:Nat} {d:TD} (hd:lk tys t=some d):TOk P tys t d:=by
 have:=agu h hd;unfold vZ at this;simp only[aqF] at this;obtain⟨⟨this0,this1⟩,this2⟩:=this;have this:=And.intro this1 this2;refine⟨?_,?_,?_⟩
 ·cases hi:P.info? t with
  | none=>rw[hi] at this; simp at this
  | some i=>rw[hi] at this; exact⟨i,rfl,this.1⟩
 ·cases hi:P.underlying t with
  | none=>rw[hi] at this; simp at this
  | some u=>rw[hi] at this; exact⟨u,rfl,this.2⟩
 ·intro hne;simp only[arj,List.isEmpty_iff,aqF,arL] at this0;exact this0.resolve_left hne
theorem mh {P:Program} {t:TypeId} {i:TypeInfo} (h:P.info? t=some i) (w:World):(typeInfo t).run P w=.ok i w:=by
 simp[typeInfo,h]
theorem yy {P:Program} {t:TypeId} {u:TypeDesc} (h:P.underlying t=some u) (w:World):(underlying t).run P w=.ok u w:=by
 simp[underlying,h]
theorem abO [Tags] {P:Program} {t:TypeId} {i:TypeInfo} (h:P.info? t=some i) (w:World):(Go.sizeOf t).run P w=.ok i.size w:=by
 simp[Go.sizeOf,mh h]
theorem Fo [Tags] {P:Program} {t:TypeId} {i:TypeInfo} {v:Value} (h:P.info? t=some i) (hz:i.zero=some v) (w:World):(zeroValue t).run P w=.ok v w:=by
 simp[zeroValue,mh h,hz]
variable {P:Program} {tys:List (Nat×TD)} {t:Nat} {d:TD}
theorem TOk.size [Tags] (h:TOk P tys t d) (ha:d.arr=none) (w:World):(Go.sizeOf t).run P w=.ok d.ty.size w:=by
 obtain⟨i,hi,hc⟩:=h.info;rw[abO hi];simp only[NC,ha,aqF] at hc;rw[(zV _ _).1 hc.2.1]
theorem TOk.bytes (h:TOk P tys t d):∃ i,P.info? t=some i/\i.bytes=d.bytes/\1<=d.bytes:=by
 obtain⟨i,hi,hc⟩:=h.info;simp only[NC,aqF] at hc;exact⟨i,hi,(zV _ _).1 hc.1.1,Nat.le_of_ble_eq_true hc.1.2⟩
theorem TOk.zero [Tags] (h:TOk P tys t d) (ha:d.arr=none) (w:World):(zeroValue t).run P w=.ok (yD d.ty (yd d.ty)) w:=by
 obtain⟨i,hi,hc⟩:=h.info;simp only[NC,ha,aqF] at hc;cases hz:i.zero with
 | none=>rw[hz] at hc; simp at hc
 | some v=>rw[hz] at hc; rw[Fo hi hz,X3 hc.2.2]
theorem TOk.isAgg [Tags] (h:TOk P tys t d) (ha:d.arr=none) (w:World):(isAgg t).run P w=.ok d.ty.isPair w:=by
 obtain⟨u,hu,hc⟩:=h.und;simp only[Go.isAgg,aqT,yy hu,aqQ];unfold KX at hc;split at hc
 ·simp only[aqF,aqP] at hc; rw[hc.1]; rfl
 ·simp only[aqF,aqP] at hc; rw[hc.1]; rfl
 ·simp only[aqF,aqP] at hc; rw[hc.1]; rfl
 ·simp only[aqF,aqP] at hc; rw[hc.1]; rfl
 ·simp only[aqF] at hc;split at hc
  ·next heq=>rw[heq]; rfl
  ·simp at hc
 ·rw[ha] at hc; simp at hc
 ·simp only[aqF] at hc; rw[hc.1.2]; rfl
 ·cases hc
theorem LV:∀ t:Ty,(yd t).length=t.size
 | .i64 | .u8 | .bool | .str | .sl _ _=>rfl
 | .pair a b=>by simp[yd,LV a,LV b,Ty.size]
theorem Oa {t:Ty} {cs:List Value} (h:cs.length=t.size) (h1:∀ c∈cs,c.oneCell'=true):(yD t cs).cells.toList=cs:=by
 unfold yD;cases hp:t.isPair with
 | true=>simp[Value.cells]
 | false=>
  have hs:t.size=1:=by cases t<;>simp_all [Ty.isPair,Ty.size]
  rw[hs] at h
  match cs,h with
  | [c],_=>
   have:=h1 c (by simp);cases c<;>simp_all [Value.cells,Value.oneCell']
def y6 (w:World) (b:Nat) (o:Obj):World:={ w with heap:=w.heap.setIfInBounds b o }
def jN (w:World) (o:Obj):World:={ w with heap:=w.heap.push o }
def setAt {α:Type} (l:List α) (k:Nat) (vs:List α):List α:=l.take k++vs++l.drop (k+vs.length)
theorem vj {α:Type} (l:List α) (k:Nat):setAt l k []=l:=by simp[setAt]
theorem YS {α:Type} {l:List α} {k:Nat} {vs:List α} (h:k+vs.length<=l.length):(setAt l k vs).length=l.length:=by
 simp[setAt]; omega
theorem dH {α:Type} (l:List α) (k:Nat) (vs:List α) (hk:k+vs.length<=l.length) (j:Nat):
  (setAt l k vs)[j]?=if j<k then l[j]? else if j<k+vs.length then vs[j - k]? else l[j]?:=by
 unfold setAt;by_cases h1:j<k
 ·rw[if_pos h1,arU (by simp; omega),arU (by simp; omega),asP h1]
 ·rw[if_neg h1];by_cases h2:j<k+vs.length
  ·rw[if_pos h2,arU (by simp; omega),ass (by simp; omega)]
   congr 1; simp; omega
  ·rw[if_neg h2,ass (by simp; omega),arH]
   congr 1; simp; omega
theorem vk [Tags] {α:Type} (l:List α) (k:Nat) (v:α) (vs:List α) (h:k+(vs.length+1)<=l.length):setAt (l.set k v) (k+1) vs=setAt l k (v::vs):=by
 apply List.ext_getElem?;intro j;rw[dH _ _ _ (by simp; omega),dH _ _ _ (by simp; omega)]
 by_cases h1:j<k
 ·rw[if_pos (by omega),if_pos h1,asc (by omega)]
 ·rw[if_neg h1];by_cases h2:j=k
  ·subst h2;rw[if_pos (by omega),if_pos (by simp)];simp[show j<l.length by omega]
  ·rw[if_neg (by omega)];by_cases h3:j<k+1+vs.length
   ·rw[if_pos h3,if_pos (by simp; omega),show j - k=(j - (k+1))+1 by omega,asQ]
   ·rw[if_neg h3,if_neg (by simp; omega),asc (by omega)]
theorem M4 (b o n:Nat):(⟨b,o,none⟩:Addr).add n=⟨b,o+n,none⟩:=by
 unfold Addr.add; split<;>simp_all
theorem M7 {w:World} {b o:Nat} {arr:Array Value} {T:TypeId} {fr:Nat×Nat} (h:w.heap[b]?=some (.cells arr T fr)):w.cell? ⟨b,o,none⟩=arr[o]?:=by
 simp[World.cell?,h]
theorem fU {w:World} {b o:Nat} {arr:Array Value} {T:TypeId} {fr:Nat×Nat} (h:w.heap[b]?=some (.cells arr T fr)) (hf:frees fr arr.size) (ho:o<arr.size):
  w.frozen? ⟨b,o,none⟩=false:=by
 obtain⟨lo,hi⟩:=fr;simp only[World.frozen?,h];exact hf o (Nat.le_of_lt ho)
theorem GO {w:World} {b o:Nat} {arr:Array Value} {T:TypeId} {fr:Nat×Nat} (v:Value) (h:w.heap[b]?=some (.cells arr T fr)):
  w.setCell ⟨b,o,none⟩ v=y6 w b (.cells (arr.setIfInBounds o v) T fr):=by
 unfold World.setCell y6;congr 1;apply Array.ext_getElem?;intro j;simp only[Array.getElem?_modify,asR];by_cases hj:b=j
 ·subst hj;obtain⟨hlt,he⟩:=Array.getElem?_eq_some_iff.1 h;simp[hlt,he]
 ·simp[hj]
theorem Yu [Tags] {w:World} {b:Nat} {o o':Obj} (h:w.heap[b]?=some o'):(y6 w b o).heap[b]?=some o:=by
 simp[y6,Z0 h]
theorem YM {w:World} {b c:Nat} {o:Obj} (h:c≠b):(y6 w b o).heap[c]?=w.heap[c]?:=by
 simp[y6,asN (λ e=>h e.symm)]
theorem lU (w:World) (b:Nat) (o o':Obj):y6 (y6 w b o) b o'=y6 w b o':=by
 simp[y6]
theorem tZ {w:World} {b:Nat} {o:Obj} (h:w.heap[b]?=some o):y6 w b o=w:=by
 unfold y6;congr 1;apply Array.ext_getElem?;intro j;simp only[asR];by_cases hj:b=j
 ·subst hj;obtain⟨hlt,he⟩:=Array.getElem?_eq_some_iff.1 h;simp[hlt,he]
 ·simp[hj]
theorem uu [Tags] {P:Program} (b o:Nat) (T:TypeId) (fr:Nat×Nat):∀ (vs:List Value) (i:Nat) (arr:Array Value) (w:World),
  w.heap[b]?=some (.cells arr T fr)->frees fr arr.size->o+i+vs.length<=arr.size->(∀ v∈vs,v.oneCell'=true)->
  (storeCells ⟨b,o,none⟩ vs i).run P w=.ok () (y6 w b (.cells (setAt arr.toList (o+i) vs).toArray T fr))
 | [],i,arr,w,h,_,_,_=>by
  simp only[storeCells,vj,Array.toArray_toList];rw[tZ h]; rfl
 | v::vs,i,arr,w,h,hf,hl,h1=>by
  have hlt:o+i<arr.size:=by simp at hl; omega
  have hst:(store ((⟨b,o,none⟩:Addr).add i) v).run P w=.ok () (y6 w b (.cells (arr.setIfInBounds (o+i) v) T fr)):=by
   rw[M4,run_store P w _ v _ (h1 v (by simp)),M7 h];simp only[ars hlt,fU h hf hlt,ar3,if_false];rw[GO v h]
  have ih:=uu (P:=P) b o T fr vs (i+1) (arr.setIfInBounds (o+i) v) (y6 w b (.cells (arr.setIfInBounds (o+i) v) T fr)) (Yu h)
   (by simpa using hf) (by simp at hl ⊢; omega) (λ x hx=>h1 x (by simp[hx]))
  simp only[storeCells,aqT,hst,aqQ,ih,lU];congr 4;rw[ast,show o+(i+1)=o+i+1 by omega,vk _ _ _ _ (by simp at hl ⊢; omega)]
theorem dw [Tags] {P:Program} {w:World} {b o n:Nat} {arr:Array Value} {T:TypeId} {fr:Nat×Nat} (h:w.heap[b]?=some (.cells arr T fr)) (hn:o+n<=arr.size):
  (loadCells ⟨b,o,none⟩ n).run P w=.ok ((arr.toList.drop o).take n).toArray w:=by
 have hlen:((arr.toList.drop o).take n).length=n:=by simp; omega
 have:=run_loadCells_list (P:=P) (w:=w) ⟨b,o,none⟩ ((arr.toList.drop o).take n) (λ j v hj=>by
  rw[M4,M7 h];rw[arM] at hj;split at hj
  ·rw[arH] at hj; simpa using hj
  ·cases hj)
 rw[hlen] at this;exact this
theorem Fl [Tags] (ht:TOk P tys t d) (ha:d.arr=none) {w:World} {b o:Nat} {arr:Array Value} {T:TypeId} {fr:Nat×Nat}
  (h:w.heap[b]?=some (.cells arr T fr)) (hn:o+d.ty.size<=arr.size):
  (loadVar t ⟨b,o,none⟩).run P w=.ok (yD d.ty ((arr.toList.drop o).take d.ty.size)) w:=by
 simp only[loadVar,aqT,ht.isAgg ha,aqQ];cases hp:d.ty.isPair with
 | true=>
  simp only[if_true,aqT,ht.size ha,aqQ,dw h hn,yD,hp];rfl
 | false=>
  have hs:d.ty.size=1:=by cases hd:d.ty<;>simp_all [Ty.isPair,Ty.size]
  have hlt:o<arr.size:=by omega
  simp only[ar3,if_false,run_load,M7 h,ars hlt,yD,hp,hs];have e:(arr.toList.drop o)=arr[o]::arr.toList.drop (o+1):=by
   rw[aqX (by simpa using hlt)]; simp
  rw[e]; rfl
theorem ur {t:TypeId} {v:Value} (w:World):(newVar t v).run P w=.ok ⟨w.heap.size,0,none⟩ (jN w (.cells v.cells t)):=by
 simp[newVar,newRow,jN]
theorem dg (w:World) (o:Obj):(jN w o).heap[w.heap.size]?=some o:=by
 show (w.heap.push o)[w.heap.size]?=_;simp
theorem Lz {w:World} {o:Obj} {b:Nat} (h:b<w.heap.size):(jN w o).heap[b]?=w.heap[b]?:=by
 simp only[jN,Array.getElem?_push];rw[if_neg (by omega)]
theorem lT (w:World) (o:Obj):(jN w o).heap.size=w.heap.size+1:=by simp[jN]
theorem KA (n:Nat):frees (0,0) n:=λ o _=>by simp
theorem uj {w:World} {b:Nat} {arr arr1:Array Value} {T:TypeId} {fr:Nat×Nat} (h:w.heap[b]?=some (.cells arr T fr)) (hs:arr1.size=arr.size):
  ∀ arr0 T0 fr0,w.heap[b]?=some (.cells arr0 T0 fr0)->∃ arr',Obj.cells arr1 T fr=.cells arr' T0 fr0/\arr'.size=arr0.size:=by
 intro arr0 T0 fr0 h0;rw[h] at h0;cases h0;exact⟨arr1,rfl,hs⟩
theorem whole {arr0:Array Value} {T0:TypeId} {fr0:Nat×Nat} (h0:frees fr0 arr0.size):∀ arr T fr,Obj.cells arr0 T0 fr0=.cells arr T fr->frees fr arr.size:=by
 intro arr T fr e;cases e;exact h0
variable {P:Program} {o:Oper} {a:Act} {w w':World} {next:Act->World->Prop} {Q:Exit->Act->World->Prop}
theorem agU {v:Value} (h:(execOp a.eval o).run P w=.ok (.value v) w') (hn:next (a.put o.dst v) w'):o.wp P a w next Q:=by
 unfold Oper.wp; rw[h]; exact hn
theorem agT (h:(execOp a.eval o).run P w=.ok .skip w') (hn:next (a.put o.dst undef) w'):o.wp P a w next Q:=by
 unfold Oper.wp; rw[h]; exact hn
variable {B:Nat} {X:List Nat} {A:Ctx} {w0:World} {γ γ':Nat->Own} {loc loc':Nat->Value} {st st1:St} {R:Type} {k:St->Option R} {r:R}
def yi [Tags] (B:Nat) (X:List Nat) (A:Ctx) (w0:World) (k:St->Option R) (r:R) (D:List Nat) (st:St) (next:Act->World->Prop):Prop:=
 ∀ st',k st'=some r->Pres D st st'->∀ a' w',Rel B X A w0 st' a' w'->next a' w'
theorem Zg [Tags] {x:AV} {v:Value} (hn:yi B X A w0 k r o.dst.toList st next) (ah4:(execOp a.eval o).run P w=.ok (.value v) w')
  (hr:Rel0 B X A w0 γ' loc' st1 a w') (hp:Pres [] st st1) (hv:AVOk loc' x v) (hx:x.lt st1.nxt) (hk:k (st1.put o.dst x)=some r):o.wp P a w next Q:=
 agU ah4 (hn _ hk (hp.putAfter o.dst x) _ _ ⟨γ',loc',hr.put o.dst hv hx⟩)
theorem ou (loc:Nat->Value):AVOk loc (.tup []) undef:=⟨[],rfl,trivial⟩
theorem xO [Tags] (hn:yi B X A w0 k r o.dst.toList st next) (ah4:(execOp a.eval o).run P w=.ok .skip w')
  (hr:Rel0 B X A w0 γ' loc' st1 a w') (hp:Pres [] st st1) (hk:k (st1.put o.dst (.tup []))=some r):o.wp P a w next Q:=
 agT ah4 (hn _ hk (hp.putAfter o.dst _) _ _ ⟨γ',loc',hr.put o.dst (ou loc') (by simp[AV.lt])⟩)
theorem VG {v:Value} {x:AV} (h:pc v=some x) (loc:Nat->Value) (n:Nat):AVOk loc x v/\x.lt n:=by
 unfold pc at h;split at h
 ·next m=>
  split at h
  ·next hs=>
   cases h;simp only[Ic,aqF,aqP] at hs;exact⟨⟨rfl,hs⟩,trivial⟩
  ·cases h
 ·next m=>
  split at h
  ·next hs=>
   cases h;simp only[aqF,aqP] at hs;refine⟨?_,trivial⟩;simp only[AVOk,V1Ok,LeafOk,Value.int.injEq,true_and];have:m.toNat<256:=by omega
   rw[UInt8.toNat_ofNat',asu (by simpa using this)];omega
  ·cases h
 ·cases h; exact⟨rfl,trivial⟩
 ·next s=>
  split at h
  ·next hs=>
   cases h;exact⟨⟨rfl,Nat.le_of_ble_eq_true hs⟩,trivial⟩
  ·cases h
 ·cases h; exact⟨rfl,trivial⟩
 ·cases h; exact⟨trivial,trivial⟩
 ·cases h
theorem Kd [Tags] (hr:Rel0 B X A w0 γ loc st a w) {x:Operand} {v:AV} (h:opnd st x=some v):AVOk loc v (a.eval x)/\v.lt st.nxt:=by
 cases x with
 | tmp t=>exact⟨hr.slots t v h,hr.slt t v h⟩
 | const c=>exact VG h loc st.nxt
 | func f=>simp only[opnd,aqK] at h; subst h; exact⟨by simp[AVOk,V1Ok,LeafOk,Act.eval],by simp[AV.lt,V1.lt,Leaf.lt]⟩
 | global g=>cases h
theorem y0 [Tags] (hr:Rel0 B X A w0 γ loc st a w) {x:Operand} {l:Leaf} (h:zC st x=some l):LeafOk loc l (a.eval x)/\l.lt st.nxt:=by
 unfold zC at h;split at h
 ·next l' ho=>cases h; exact Kd hr ho
 ·cases h
theorem Bq {loc:Nat->Value} {l:Leaf} {v:Value} (h:LeafOk loc l v):v.oneCell'=true:=by
 cases l with
 | i n=>rw[h.1]; rfl
 | u x=>rw[show v=_ from h]; rfl
 | b x=>rw[show v=_ from h]; rfl
 | s l=>rw[h.1]; rfl
 | nil=>rw[show v=_ from h]; rfl
 | sl id=>obtain⟨_,a,n,c,h⟩:=h; rw[h]; rfl
 | ptr id off=>obtain⟨b,_,h⟩:=h; rw[h]; rfl
 | ep id ix esz off=>obtain⟨b,o,n,c,_,_,h⟩:=h; rw[h]; rfl
 | fn f caps=>rw[h.1]; rfl
 | any=>exact h
 | ap id=>obtain⟨b,n,c,_,h⟩:=h; rw[h]; rfl
theorem QE [Tags] (hr:Rel0 B X A w0 γ loc st a w) {x:Operand} {ls:List Leaf} (h:Kc st x=some ls):
  All2 (LeafOk loc) ls (a.eval x).cells.toList/\∀ l∈ls,l.lt st.nxt:=by
 unfold Kc at h;split at h
 ·next l ho=>
  cases h;obtain⟨h1,h2⟩:=Kd hr ho;have:(a.eval x).cells = #[a.eval x]:=by
   have:=Bq h1;cases hv:a.eval x<;>simp_all [Value.cells,Value.oneCell']
  rw[this];exact⟨⟨h1,trivial⟩,λ l' hl=>by simp at hl; subst hl; exact h2⟩
 ·next ls' ho=>
  cases h;obtain⟨⟨vs,h1,h2⟩,h3⟩:=Kd hr ho;rw[h1];exact⟨by simpa[Value.cells] using h2,h3⟩
 ·cases h
theorem fw [Tags] {loc:Nat->Value}:∀ {ls:List Leaf} {vs:List Value},All2 (LeafOk loc) ls vs->∀ c∈vs,c.oneCell'=true
 | [],[],_=>by simp
 | l::ls,v::vs,⟨h1,h2⟩=>by
  intro c hc;rcases List.mem_cons.1 hc with rfl|hc
  ·exact Bq h1
  ·exact fw h2 c hc
 | [],_::_,h=>h.elim
 | _::_,[],h=>h.elim
theorem Moves.push [Tags] {γ:Nat->Own} {w:World} (ow:Own) (ob:Obj):Moves (λ _=>False) γ (λ b=>if b=w.heap.size then ow else γ b) w (jN w ob) where
 persist b hb h:=⟨by simp[show b≠w.heap.size by omega,h],Lz hb⟩
 top b i hb h _:=⟨by simp[show b≠w.heap.size by omega,h],Lz hb⟩
 deep b i hb h:=⟨Lz hb,λ _=>by simp[show b≠w.heap.size by omega,h],λ hf=>hf.elim⟩
theorem A5 [Tags] (B:Nat) (X:List Nat) {w:World} (h:B<=w.heap.size) (ob:Obj) (hu:∀ arr T fr,ob=.cells arr T fr->frees fr arr.size):Keeps B X w (jN w ob):=
 ⟨rfl,rfl,rfl,by rw[lT]; omega,λ b hb _=>Lz (by omega),λ b hb arr T fr h'=>by
  rcases Nat.lt_trichotomy b w.heap.size with h1|h1|h1
  ·rw[Lz h1] at h'; exact hb arr T fr h'
  ·subst h1; rw[dg] at h'; exact hu arr T fr (Option.some.inj h')
  ·have:=Z0 h'; rw[lT] at this; omega,λ b arr T fr h0=>⟨arr,by rw[Lz (Z0 h0)]; exact h0,rfl⟩⟩
theorem Rel0.alloc [Tags] (h:Rel0 B X A w0 γ loc st a w) (ob:Obj) (hu:∀ arr T fr,ob=.cells arr T fr->frees fr arr.size) (ow:Own) (val:Value) (e:Ent)
  (he:EntOk (λ b=>if b=w.heap.size then ow else γ b) (λ i=>if i=st.nxt then val else loc i) (jN w ob) st.nxt e) (hl:e.lt (st.nxt+1)):
  Rel0 B X A w0 (λ b=>if b=w.heap.size then ow else γ b) (λ i=>if i=st.nxt then val else loc i) { st with tab:=(st.nxt,e)::st.tab,nxt:=st.nxt+1 } a (jN w ob):=by
 refine h.upd (M:=λ _=>False) rfl (by simp) (A5 B X h.Ble ob hu) (λ b hb ho=>by simpa[show b≠w.heap.size by omega] using ho) ?_ ?_ (Moves.push ow ob) (λ _ h=>h.elim) ?_
 ·intro b hb hx;have:=h.Ble;simp only[show b≠w.heap.size by omega,if_false];exact h.old b hb hx
 ·intro i hi; simp[show i≠st.nxt by omega]
 ·intro id e' hid;rw[jf] at hid;split at hid
  ·rename_i aoP; cases hid; subst aoP; exact .inr ⟨⟨he,hl,by simp⟩,.inl (Nat.le_refl _)⟩
  ·exact .inl ⟨hid,λ h=>h⟩
theorem Pres.cons (h:∀ (id:Nat) (e:Ent),look st.tab id=some e->id<st.nxt) (e:Ent):Pres [] st { st with tab:=(st.nxt,e)::st.tab,nxt:=st.nxt+1 }:=
 ⟨rfl,by simp,λ id e' he _=>by
  have:=h id e' he;simp only[jf]; rw[if_neg (by omega)]; exact he,λ _ _=>rfl,rfl⟩
theorem bt (loc:Nat->Value):∀ t:Ty,All2 (LeafOk loc) (Yi t) (yd t)
 | .i64=>⟨⟨rfl,by constructor<;>decide⟩,trivial⟩
 | .u8=>⟨rfl,trivial⟩
 | .bool=>⟨rfl,trivial⟩
 | .str=>⟨⟨rfl,by simp[Bnd]⟩,trivial⟩
 | .sl _ _=>⟨rfl,trivial⟩
 | .pair a b=>(bt loc a).append (bt loc b)
theorem oE (n:Nat):∀ t:Ty,∀ l∈Yi t,l.lt n
 | .i64=>by simp[Yi,Leaf.lt]
 | .u8=>by simp[Yi,Leaf.lt]
 | .bool=>by simp[Yi,Leaf.lt]
 | .str=>by simp[Yi,Leaf.lt]
 | .sl _ _=>by simp[Yi,Leaf.lt]
 | .pair a b=>by
  intro l hl;rcases List.mem_append.1 (show l∈Yi a++Yi b from hl) with h|h
  ·exact oE n a l h
  ·exact oE n b l h
theorem Rel0.newBox [Tags] (h:Rel0 B X A w0 γ loc st a w) {T:TypeId} {ls:List Leaf} {cs:List Value} (ha:All2 (LeafOk loc) ls cs) (hl:∀ l∈ls,l.lt st.nxt):
  Rel0 B X A w0 (λ b=>if b=w.heap.size then .top st.nxt else γ b) (λ i=>if i=st.nxt then .pointer (some ⟨w.heap.size,0,none⟩) else loc i)
   { st with tab:=(st.nxt,.box st.lvl ls)::st.tab,nxt:=st.nxt+1 } a (jN w (.cells cs.toArray T)):=by
 refine h.alloc (.cells cs.toArray T) (whole (KA _)) (.top st.nxt) _ _ ?_ (λ l hm=>Leaf.lt_mono (by omega) (hl l hm));refine⟨w.heap.size,cs.toArray,T,(0,0),by simp,dg _ _,KA _,by simp,?_⟩;exact ha.leafLoc hl (λ i hi=>by simp[show i≠st.nxt by omega])
theorem BP (st:St) (w:World) (loc:Nat->Value):
  AVOk (λ i=>if i=st.nxt then Value.pointer (some ⟨w.heap.size,0,none⟩) else loc i) (.v (.one (.ptr st.nxt 0))) (.pointer (some ⟨w.heap.size,0,none⟩)):=
 ⟨w.heap.size,by simp,rfl⟩
theorem ids_lt [Tags] (h:Rel0 B X A w0 γ loc st a w) (id:Nat) (e:Ent) (he:look st.tab id=some e):id<st.nxt:=(h.elt id e he).2
variable {E:Env}
theorem aeS [Tags] (hT:yA P E.tys=true) {T:TypeId} (ho:o.op=.alloc T) {d:TD} (hd:lk E.tys T=some d) (ah5:d.arr=none) (hr:Rel0 B X A w0 γ loc st a w)
  (hk:k (St.put { st with tab:=(st.nxt,.box st.lvl (Yi d.ty))::st.tab,nxt:=st.nxt+1 } o.dst (.v (.one (.ptr st.nxt 0))))=some r)
  (hn:yi B X A w0 k r o.dst.toList st next):o.wp P a w next Q:=by
 have ht:=yh hT hd;have hc:=Oa (LV d.ty) (fw (bt loc d.ty));refine Zg hn (w':=jN w (.cells (yd d.ty).toArray T)) (v:=.pointer (some ⟨w.heap.size,0,none⟩)) ?_
  (hr.newBox (T:=T) (bt loc d.ty) (oE _ _)) (Pres.cons (ids_lt hr) _) (BP st w loc) (by simp[AV.lt,V1.lt,Leaf.lt]) hk
 have e:(yD d.ty (yd d.ty)).cells=(yd d.ty).toArray:=by apply Array.ext'; simp[hc]
 simp only[execOp,ho,Instr.alloc,aqT,ht.zero ah5,aqQ,ur,aqR,e]
theorem aeX [Tags] {T:TypeId} {x:Operand} (ho:o.op=.box T x) {ls:List Leaf} (hx:Kc st x=some ls) (hr:Rel0 B X A w0 γ loc st a w)
  (hk:k (St.put { st with tab:=(st.nxt,.box st.lvl ls)::st.tab,nxt:=st.nxt+1 } o.dst (.v (.one (.ptr st.nxt 0))))=some r)
  (hn:yi B X A w0 k r o.dst.toList st next):o.wp P a w next Q:=by
 obtain⟨h1,h2⟩:=QE hr hx;refine Zg hn (w':=jN w (.cells (a.eval x).cells T)) (v:=.pointer (some ⟨w.heap.size,0,none⟩)) ?_
  (by have:=hr.newBox (T:=T) h1 h2; simpa using this) (Pres.cons (ids_lt hr) _) (BP st w loc) (by simp[AV.lt,V1.lt,Leaf.lt]) hk
 simp only[execOp,ho,Instr.box,aqT,ur,aqQ,aqR]
theorem agt {α:Type} (l:List α) (a n b m:Nat) (h:b+m<=n):(((l.drop a).take n).drop b).take m=(l.drop (a+b)).take m:=by
 rw[asv,ark,asd];congr 1;omega
theorem abf [Tags] {w:World}:∀ (e:Ty) (v:den e) (off:Nat) (t:Ty) (v':den t) (cs:List Value) (fp:List Nat),part e v off t=some v'->Rd w e v cs fp->
  ∃ f,Rd w t v' ((cs.drop off).take t.size) f/\(∀ b∈f,b∈fp)/\off+t.size<=e.size:=by
 intro e;induction e with
 | pair a b iha ihb=>
  intro v off t v' cs fp h hr;simp only[part] at h;split at h
  ·rename_i hh;obtain⟨h0,ht⟩:=hh;subst h0; subst ht
   simp only[aqK] at h;subst h;refine⟨fp,?_,λ b hb=>hb,by simp⟩;have:=hr.len;rw[ar4,←this,arF]; exact hr
  ·obtain⟨c1,c2,f1,f2,h1,h2,h3,h4⟩:=hr;have l1:=h3.len;have l2:=h4.len;split at h
   ·rename_i hlt;obtain⟨f,g1,g2,g3⟩:=iha v.1 off t v' c1 f1 h h3;refine⟨f,?_,λ b hb=>by rw[h2]; simp[g2 b hb],by simp[Ty.size]; omega⟩
    rw[h1,asS (by omega),arN (by simp; omega)]
    exact g1
   ·rename_i hge;obtain⟨f,g1,g2,g3⟩:=ihb v.2 (off - a.size) t v' c2 f2 h h4;refine⟨f,?_,λ b hb=>by rw[h2]; simp[g2 b hb],by simp[Ty.size]; omega⟩
    rw[h1,asw,as4 (by omega),ar6,l1];exact g1
 | i64|u8|bool|str=>
  intro v off t v' cs fp h hr;simp only[part] at h;split at h
  ·rename_i hh;obtain⟨h0,ht⟩:=hh;subst h0; subst ht
   simp only[aqK] at h;subst h;refine⟨fp,?_,λ b hb=>hb,by simp⟩;have:=hr.len;rw[ar4,←this,arF]; exact hr
  ·cases h
 | sl E e ih=>
  intro v off t v' cs fp h hr;simp only[part] at h;split at h
  ·rename_i hh;obtain⟨h0,ht⟩:=hh;subst h0; subst ht
   simp only[aqK] at h;subst h;refine⟨fp,?_,λ b hb=>hb,by simp⟩;have:=hr.len;rw[ar4,←this,arF]; exact hr
  ·cases h
theorem GN {α:Type} {l1 l2:List α} {k:Nat} {vs:List α} (h:k+vs.length<=l1.length):setAt (l1++l2) k vs=setAt l1 k vs++l2:=by
 unfold setAt;rw[arN (by omega),asS (by omega)];simp
theorem vi {α:Type} {l1 l2:List α} {k:Nat} {vs:List α} (h:l1.length<=k):setAt (l1++l2) k vs=l1++setAt l2 (k - l1.length) vs:=by
 unfold setAt;rw[as5,asw,arI h,as4 (by omega)];simp[show k+vs.length - l1.length=k - l1.length+vs.length by omega]
theorem mL {α:Type} {l vs:List α} (h:vs.length=l.length):setAt l 0 vs=vs:=by
 simp[setAt,h]
theorem vo:∀ (e:Ty) (off:Nat) (t:Ty) {g:den t->den e->den e},ak e off t=some g->∀ (v:den e) (x:den t),Jg e v off t x=some (g x v)
 | .i64,off,t,g,h,v,x | .u8,off,t,g,h,v,x | .bool,off,t,g,h,v,x | .str,off,t,g,h,v,x | .sl _ _,off,t,g,h,v,x=>by
  simp only[ak] at h;split at h
  ·next hh=>cases h; simp only[Jg,dif_pos hh]
  ·cases h
 | .pair a b,off,t,g,h,v,x=>by
  simp only[ak] at h;split at h
  ·next hh=>cases h; simp only[Jg,dif_pos hh]
  ·next hh=>
   split at h
   ·next hlt=>
    split at h
    ·next g' hg=>cases h; simp only[Jg,dif_neg hh,if_pos hlt,vo a off t hg]
    ·cases h
   ·next hlt=>
    split at h
    ·next g' hg=>cases h; simp only[Jg,dif_neg hh,if_neg hlt,vo b _ t hg]
    ·cases h
theorem aew [Tags] {e:Ty} {off:Nat} {t:Ty} {F:List (den e)->Nat->den t->List (den e)} (h:vg e off t=some F) (xs:List (den e)) (i:Nat) (x:den t):
  ∃ y,Jg e (rd e xs i) off t x=some y/\F xs i x=xs.set i y:=by
 unfold vg at h;split at h
 ·next hh=>
  cases h;obtain⟨h0,h1⟩:=hh;subst h0 h1;refine⟨x,?_,rfl⟩;cases t<;>simp[Jg]
 ·split at h
  ·next g hg=>cases h; exact⟨_,vo e off t hg _ x,rfl⟩
  ·cases h
theorem aeD [Tags] {w:World}:∀ (e:Ty) (v:den e) (off:Nat) (t:Ty) (x:den t) (y:den e) (cs vs:List Value) (fp fv:List Nat),Jg e v off t x=some y->
  Rd w e v cs fp->Rd w t x vs fv->∃ f1 fm f2,fp=f1++fm++f2/\Rd w e y (setAt cs off vs) (f1++fv++f2)/\off+t.size<=e.size:=by
 intro e;induction e with
 | pair a b iha ihb=>
  intro v off t x y cs vs fp fv h hr hx;simp only[Jg] at h;split at h
  ·rename_i hh;obtain⟨h0,ht⟩:=hh;subst h0; subst ht
   simp only[aqK] at h;subst h;refine⟨[],fp,[],by simp,?_,by simp⟩;rw[mL (by rw[hr.len,hx.len])]; simpa using hx
  ·obtain⟨c1,c2,f1,f2,h1,h2,h3,h4⟩:=hr;have l1:=h3.len;have l2:=h4.len;have lx:=hx.len;split at h
   ·rename_i hlt;split at h
    ·rename_i y1 hy;cases h;obtain⟨g1,gm,g2,e1,e2,e3⟩:=iha v.1 off t x y1 c1 vs f1 fv hy h3 hx;refine⟨g1,gm,g2++f2,by rw[h2,e1]; simp,?_,by simp[Ty.size]; omega⟩
     refine⟨setAt c1 off vs,c2,g1++fv++g2,f2,?_,by simp,e2,h4⟩;rw[h1,GN (by omega)]
    ·cases h
   ·rename_i hge;split at h
    ·rename_i y1 hy;cases h;obtain⟨g1,gm,g2,e1,e2,e3⟩:=ihb v.2 (off - a.size) t x y1 c2 vs f2 fv hy h4 hx;refine⟨f1++g1,gm,g2,by rw[h2,e1]; simp,?_,by simp[Ty.size]; omega⟩
     refine⟨c1,setAt c2 (off - a.size) vs,f1,g1++fv++g2,?_,by simp,h3,e2⟩;rw[h1,vi (by omega),l1]
    ·cases h
 | i64|u8|bool|str=>
  intro v off t x y cs vs fp fv h hr hx;simp only[Jg] at h;split at h
  ·rename_i hh;obtain⟨h0,ht⟩:=hh;subst h0; subst ht
   simp only[aqK] at h;subst h;refine⟨[],fp,[],by simp,?_,by simp⟩;rw[mL (by rw[hr.len,hx.len])]; simpa using hx
  ·cases h
 | sl E e ih=>
  intro v off t x y cs vs fp fv h hr hx;simp only[Jg] at h;split at h
  ·rename_i hh;obtain⟨h0,ht⟩:=hh;subst h0; subst ht
   simp only[aqK] at h;subst h;refine⟨[],fp,[],by simp,?_,by simp⟩;rw[mL (by rw[hr.len,hx.len])]; simpa using hx
  ·cases h
theorem pi {α:Type} (c rest:List α) (i n:Nat) (h:c.length=n):(c++rest).drop ((i+1)*n)=rest.drop (i*n):=by
 rw[show (i+1)*n=n+i*n by rw[are,Nat.add_comm],←List.drop_drop,List.drop_left' h]
theorem RdL.getAt [Tags] {w:World} {e:Ty}:∀ {xs:List (den e)} {cs:List Value} {fp:List Nat} {i:Nat},RdL (Rd w e) xs cs fp->i<xs.length->
  ∃ f1 f f2,fp=f1++f++f2/\Rd w e (rd e xs i) ((cs.drop (i*e.size)).take e.size) f/\(i+1)*e.size<=cs.length
 | [],_,_,_,_,h=>by simp at h
 | x::xs,cs,fp,i,⟨c,rest,f1,f2,h1,h2,h3,h4⟩,hi=>by
  have l1:=h3.len;cases i with
  | zero=>
   refine⟨[],f1,f2,by simp[h2],?_,by rw[h1]; simp; omega⟩
   simp only[as6,ar4];rw[h1,arN (by omega),←l1,arF];exact h3
  | succ i=>
   obtain⟨g1,f,g2,e1,e2,e3⟩:=RdL.getAt h4 (by simpa using hi:i<xs.length);refine⟨f1++g1,f,g2,by rw[h2,e1]; simp,?_,?_⟩
   ·rw[h1,pi _ _ _ _ l1];exact e2
   ·rw[h1,aqM,l1,are]; omega
theorem RdL.setAt' [Tags] {w:World} {e:Ty}:∀ {xs:List (den e)} {cs:List Value} {fp:List Nat} {i:Nat},RdL (Rd w e) xs cs fp->i<xs.length->
  ∃ f1 f f2,fp=f1++f++f2/\Rd w e (rd e xs i) ((cs.drop (i*e.size)).take e.size) f/\(i+1)*e.size<=cs.length/\
   ∀ (y:den e) (c':List Value) (fy:List Nat),Rd w e y c' fy->RdL (Rd w e) (xs.set i y) (setAt cs (i*e.size) c') (f1++fy++f2)
 | [],_,_,_,_,h=>by simp at h
 | x::xs,cs,fp,i,⟨c,rest,f1,f2,h1,h2,h3,h4⟩,hi=>by
  have l1:=h3.len;cases i with
  | zero=>
   refine⟨[],f1,f2,by simp[h2],?_,by rw[h1]; simp; omega,?_⟩
   ·simp only[as6,ar4];rw[h1,arN (by omega),←l1,arF];exact h3
   ·intro y c' fy hy;have ly:=hy.len;refine⟨c',rest,fy,f2,?_,by simp,hy,h4⟩;rw[h1,as6,GN (by omega),mL (by omega)]
  | succ i=>
   obtain⟨g1,f,g2,e1,e2,e4,e3⟩:=RdL.setAt' h4 (by simpa using hi:i<xs.length);refine⟨f1++g1,f,g2,by rw[h2,e1]; simp,?_,?_,?_⟩
   ·rw[h1,pi _ _ _ _ l1];exact e2
   ·rw[h1,aqM,l1,are]; omega
   ·intro y c' fy hy;have ly:=hy.len;refine⟨c,setAt rest (i*e.size) c',f1,g1++fy++g2,?_,by simp,h3,e3 y c' fy hy⟩;rw[h1,vi (by rw[are]; omega),l1,Nat.succ_mul,Nat.add_sub_cancel]
theorem aey [Tags] {α:Type} (l vs:List α) (p n off:Nat) (h1:p+n<=l.length) (h2:off+vs.length<=n):setAt l p (setAt ((l.drop p).take n) off vs)=setAt l (p+off) vs:=by
 have hc:((l.drop p).take n).length=n:=by rw[aqV,ar2]; omega
 have l1:(setAt ((l.drop p).take n) off vs).length=n:=by rw[YS (by omega),hc]
 apply List.ext_getElem?;intro j;have eL:=dH l p (setAt ((l.drop p).take n) off vs) (by rw[l1]; omega) j
 have eM:=dH ((l.drop p).take n) off vs (by omega) (j - p);have eR:=dH l (p+off) vs (by omega) j;rw[eL,eR,eM,l1];by_cases c1:j<p
 ·rw[if_pos c1,if_pos (show j<p+off by omega)]
 ·rw[if_neg c1];by_cases c2:j<p+n
  ·rw[if_pos c2];by_cases c3:j - p<off
   ·rw[if_pos c3,if_pos (show j<p+off by omega),arM,if_pos (show j - p<n by omega),arH];congr 1; omega
   ·rw[if_neg c3,if_neg (show ¬ j<p+off by omega)];by_cases c4:j - p<off+vs.length
    ·rw[if_pos c4,if_pos (show j<p+off+vs.length by omega)];congr 1; omega
    ·rw[if_neg c4,if_neg (show ¬ j<p+off+vs.length by omega),arM,if_pos (show j - p<n by omega),arH];congr 1; omega
  ·rw[if_neg c2,if_neg (show ¬ j<p+off by omega),if_neg (show ¬ j<p+off+vs.length by omega)]
theorem RdL.app [Tags] {w:World} {e:Ty}:∀ {xs:List (den e)} {cs:List Value} {fp:List Nat} {ys:List (den e)} {ds:List Value} {gp:List Nat},
  RdL (Rd w e) xs cs fp->cs.length=xs.length*e.size->RdL (Rd w e) ys ds gp->RdL (Rd w e) (xs++ys) (cs++ds) (fp++gp)
 | [],cs,fp,ys,ds,gp,h,hl,hy=>by
  have:cs=[]:=by simpa using hl
  subst this;rw[show fp=[] from h];exact hy
 | x::xs,cs,fp,ys,ds,gp,⟨c,rest,f1,f2,h1,h2,h3,h4⟩,hl,hy=>by
  have l1:=h3.len;refine⟨c,rest++ds,f1,f2++gp,by simp[h1],by simp[h2],h3,RdL.app h4 ?_ hy⟩;rw[h1,aqM,l1,aqG,are] at hl;omega
theorem RdL.more [Tags] {w:World} {e:Ty}:∀ {xs:List (den e)} {cs:List Value} {fp:List Nat} (ds:List Value),RdL (Rd w e) xs cs fp->RdL (Rd w e) xs (cs++ds) fp
 | [],_,_,_,h=>h
 | x::xs,cs,fp,ds,⟨c,rest,f1,f2,h1,h2,h3,h4⟩=>⟨c,rest++ds,f1,f2,by simp[h1],h2,h3,RdL.more ds h4⟩
theorem RdL.le [Tags] {w:World} {e:Ty}:∀ {xs:List (den e)} {cs:List Value} {fp:List Nat},RdL (Rd w e) xs cs fp->xs.length*e.size<=cs.length
 | [],_,_,_=>by simp
 | x::xs,cs,fp,⟨c,rest,f1,f2,h1,h2,h3,h4⟩=>by
  have l1:=h3.len;have:=RdL.le h4;rw[h1,aqM,l1,aqG,are]; omega
theorem RdL.cut [Tags] {w:World} {e:Ty}:∀ {xs:List (den e)} {cs:List Value} {fp:List Nat},RdL (Rd w e) xs cs fp->RdL (Rd w e) xs (cs.take (xs.length*e.size)) fp
 | [],_,_,h=>h
 | x::xs,cs,fp,⟨c,rest,f1,f2,h1,h2,h3,h4⟩=>by
  have l1:=h3.len;refine⟨c,rest.take (xs.length*e.size),f1,f2,?_,h2,h3,RdL.cut h4⟩;rw[h1,aqG,are,as5,arI (by omega),l1];congr 2; omega
theorem RdL.takeN [Tags] {w:World} {e:Ty}:∀ {xs:List (den e)} {cs:List Value} {fp:List Nat} (n:Nat),RdL (Rd w e) xs cs fp->∃ f1 f2,fp=f1++f2/\RdL (Rd w e) (xs.take n) cs f1
 | [],_,fp,n,h=>⟨fp,[],by simp,by simpa using h⟩
 | x::xs,cs,fp,0,h=>⟨[],fp,by simp,by simp[RdL]⟩
 | x::xs,cs,fp,n+1,⟨c,rest,f1,f2,h1,h2,h3,h4⟩=>by
  obtain⟨g1,g2,e1,e2⟩:=RdL.takeN n h4;exact⟨f1++g1,g2,by rw[h2,e1]; simp,c,rest,f1,g1,h1,rfl,h3,e2⟩
theorem RdL.dropN [Tags] {w:World} {e:Ty}:∀ {xs:List (den e)} {cs:List Value} {fp:List Nat} (n:Nat),RdL (Rd w e) xs cs fp->n<=xs.length->
  ∃ f1 f2,fp=f1++f2/\RdL (Rd w e) (xs.drop n) (cs.drop (n*e.size)) f2
 | xs,cs,fp,0,h,_=>⟨[],fp,by simp,by simpa using h⟩
 | [],_,fp,n+1,h,hn=>by simp at hn
 | x::xs,cs,fp,n+1,⟨c,rest,f1,f2,h1,h2,h3,h4⟩,hn=>by
  have l1:=h3.len;obtain⟨g1,g2,e1,e2⟩:=RdL.dropN n h4 (by simpa using hn);refine⟨f1++g1,g2,by rw[h2,e1]; simp,?_⟩
  rw[h1,pi _ _ _ _ l1];exact e2
theorem Rd.noSl [Tags] {w:World}:∀ {t:Ty} {v:den t} {cs fp},t.hasSl=false->Rd w t v cs fp->fp=[]
 | .i64,_,_,_,_,h=>h.2.1
 | .u8,_,_,_,_,h=>h.2
 | .bool,_,_,_,_,h=>h.2
 | .str,_,_,_,_,h=>h.2.1
 | .sl _ _,_,_,_,hs,_=>by simp[Ty.hasSl] at hs
 | .pair a b,v,cs,fp,hs,h=>by
  simp only[Ty.hasSl,arV] at hs;obtain⟨c1,c2,f1,f2,h1,h2,h3,h4⟩:=h;rw[h2,h3.noSl hs.1,h4.noSl hs.2]; rfl
theorem RdL.noSl [Tags] {w:World} {e:Ty} (hs:e.hasSl=false):∀ {xs:List (den e)} {cs fp},RdL (Rd w e) xs cs fp->fp=[]
 | [],_,_,h=>h
 | x::xs,cs,fp,⟨c,rest,f1,f2,h1,h2,h3,h4⟩=>by rw[h2,h3.noSl hs,RdL.noSl hs h4]; rfl
theorem Ln {loc:Nat->Value} {t:Ty} {ls:List Leaf} {cs:List Value} {x:V1} {n:Nat} (h:Yo t ls=some x) (ha:All2 (LeafOk loc) ls cs) (hl:∀ l∈ls,l.lt n):
  V1Ok loc x (yD t cs)/\x.lt n:=by
 unfold Yo at h;cases hp:t.isPair with
 | true=>
  rw[hp] at h;simp only[aqK] at h;subst h;exact⟨⟨cs,by simp[yD,hp],ha⟩,hl⟩
 | false=>
  rw[hp] at h;simp only at h;split at h
  ·next l=>
   cases h
   match cs,ha with
   | [c],ha=>exact⟨by simpa[V1Ok,yD,hp] using ha.1,hl l (by simp)⟩
  ·cases h
theorem rH [Tags] {k:Kind} {lvl:Nat} {t:Ty} {v:den t} {j:Nat} {tab:List (Nat×Ent)} {id:Nat} (h:id<j):
  look ((ze k lvl t v j).2.1++tab) id=look tab id:=by
 rw[ZY];cases hh:look (ze k lvl t v j).2.1 id with
 | none=>rfl
 | some e=>have:=((jB k lvl t v j).keys id e hh).1; omega
theorem Rel0.addImm [Tags] (hr:Rel0 B X A w0 γ loc st a w) {taint:Bool} {lvl:Nat} {t:Ty} {v:den t} {cs:List Value} {fp:List Nat} (h:Rd w t v cs fp)
  (hf:∀ b∈fp,γ b=.persist∨(taint=true/\∃ i,γ b=.deep i)):
  ∃ loc',Rel0 B X A w0 γ loc' { st with tab:=(ze (.imm taint) lvl t v st.nxt).2.1++st.tab,nxt:=(ze (.imm taint) lvl t v st.nxt).2.2 } a w/\
   All2 (LeafOk loc') (ze (.imm taint) lvl t v st.nxt).1 cs/\(∀ i<st.nxt,loc' i=loc i):=by
 obtain⟨loc',h1,h2,h3⟩:=KW lvl t v st.nxt cs fp loc h hf;have so:=jB (.imm taint) lvl t v st.nxt;refine⟨loc',?_,h2,λ i hi=>h1 i (.inl hi)⟩;refine hr.upd (M:=λ _=>False) rfl so.le (Keeps.refl _ _ _) (λ _ _ h=>h) hr.old (λ i hi=>h1 i (.inl hi)) (Moves.refl _ _ _) (λ _ h=>h.elim) ?_;intro id e hid;rw[ZY] at hid;cases hh:look (ze (.imm taint) lvl t v st.nxt).2.1 id with
 | some e'=>
  rw[hh] at hid;simp at hid;subst hid;obtain⟨g1,g2,E',et,xs,rfl⟩:=so.keys id _ hh;exact .inr ⟨⟨h3 id _ hh,trivial,g2⟩,.inl g1⟩
 | none=>
  rw[hh] at hid;simp at hid;exact .inl ⟨hid,λ h=>h⟩
theorem Pres.addSpread [Tags] (hi:∀ (id:Nat) (e:Ent),look st.tab id=some e->id<st.nxt) (k:Kind) (lvl:Nat) (t:Ty) (v:den t):
  Pres [] st { st with tab:=(ze k lvl t v st.nxt).2.1++st.tab,nxt:=(ze k lvl t v st.nxt).2.2 }:=
 ⟨rfl,(jB k lvl t v st.nxt).le,λ id e he _=>by rw[rH (hi id e he)]; exact he,λ _ _=>rfl,rfl⟩
theorem uq [Tags] (hT:yA P E.tys=true) {T:TypeId} {d:TD} (hd:lk E.tys T=some d) (ah5:d.arr=none) {x:Operand} (ho:o.op=.load T x)
  {b off:Nat} (hx:a.eval x=.pointer (some ⟨b,off,none⟩)) {arr:Array Value} {T':TypeId} {fr:Nat×Nat} (h:w.heap[b]?=some (.cells arr T' fr)) (hn:off+d.ty.size<=arr.size):
  (execOp a.eval o).run P w=.ok (.value (yD d.ty ((arr.toList.drop off).take d.ty.size))) w:=by
 simp only[execOp,ho,Instr.loadAt,Instr.sureAddr,hx,pure_bind,aqT,Fl (yh hT hd) ah5 h hn,aqQ,aqR]
theorem Wf [Tags] (hr:Rel0 B X A w0 γ loc st a w) {id:Nat} {kd:Kind} {lvl EE:Nat} {e:Ty} {xs:List (den e)} (hl:look st.tab id=some (.arr kd lvl EE e xs))
  {b ob n c:Nat} (ahn:loc id=.slice (some ⟨b,ob,none⟩) n c) {ix:Nat} (hix:ix<n):
  ∃ arr T fr f,n=xs.length/\w.heap[b]?=some (.cells arr T fr)/\Rd w e (rd e xs ix) (((arr.toList.drop ob).drop (ix*e.size)).take e.size) f/\
   (ix+1)*e.size<=(arr.toList.drop ob).length/\(∀ b∈f,γ b=.persist∨((match Qx kd with | .imm t=>t=true|_=>False)/\∃ i,γ b=.deep i)):=by
 have hE:=hr.ents id _ hl;cases kd with
 | imm taint=>
  obtain⟨fp,⟨a1,n1,c1,h1,h2,h3,h3',h4⟩,hf⟩:=hE;rw[ahn] at h1;simp only[ara,Value.slice.injEq,and_true] at h1;obtain⟨e1,e2,e3⟩:=h1;subst e2;rcases h4 with⟨h4,_⟩|⟨b',o',arr,T,fr,fp',ha,hb,hfp,hl',htg⟩
  ·rw[h4] at h2; simp at h2; omega
  ·rw[←e1] at ha;simp only[aqK,Addr.mk.injEq] at ha;obtain⟨rfl,rfl,_⟩:=ha;obtain⟨f1,f,f2,q1,q2,q3⟩:=hl'.getAt (i:=ix) (by omega);refine⟨arr,T,fr,f,h2,hb,q2,q3,?_⟩;intro b hb';simpa[Qx] using hf b (by rw[hfp,q1]; simp[hb'])
 | lent=>
  obtain⟨fp,⟨a1,n1,c1,h1,h2,h3,h3',h4⟩,hf⟩:=hE;rw[ahn] at h1;simp only[ara,Value.slice.injEq,and_true] at h1;obtain⟨e1,e2,e3⟩:=h1;subst e2;rcases h4 with⟨h4,_⟩|⟨b',o',arr,T,fr,fp',ha,hb,hfp,hl',htg⟩
  ·rw[h4] at h2; simp at h2; omega
  ·rw[←e1] at ha;simp only[aqK,Addr.mk.injEq] at ha;obtain⟨rfl,rfl,_⟩:=ha;obtain⟨f1,f,f2,q1,q2,q3⟩:=hl'.getAt (i:=ix) (by omega);refine⟨arr,T,fr,f,h2,hb,q2,q3,?_⟩;intro b hb';exact .inr ⟨by simp[Qx],id,hf.2 b (by rw[hfp,q1]; simp[hb'])⟩
 | own u=>
  obtain⟨xb,fs,g1,g2,g3⟩:=hE;rcases g1 with⟨h1,h2,_⟩|⟨b',cap,arr,T,fr,h1,h2,h3,h4,h5,h6,h7,h8⟩
  ·rw[ahn] at h2; simp at h2
  ·rw[ahn] at h1;simp only[ara,Value.slice.injEq,and_true,aqK,Addr.mk.injEq] at h1;obtain⟨⟨rfl,rfl,_⟩,rfl,rfl⟩:=h1;obtain⟨f1,f,f2,q1,q2,q3⟩:=h7.getAt hix;refine⟨arr,T,fr,f,rfl,h2,by simpa using q2,by simpa using q3,?_⟩;intro b hb';cases u with
   | true=>right; exact⟨by simp[Qx],id,g3.2 b (by rw[q1]; simp[hb'])⟩
   | false=>left; exact g3 b (by rw[q1]; simp[hb'])
theorem X9 (kd:Kind):∃ t,Qx kd=.imm t:=by
 cases kd with
 | imm t=>exact⟨t,rfl⟩
 | own u=>cases u<;>exact⟨_,rfl⟩
 | lent=>exact⟨_,rfl⟩
theorem afh [Tags] (hT:yA P E.tys=true) {T:TypeId} {x:Operand} (ho:o.op=.load T x) {d:TD} (hd:lk E.tys T=some d) (ah5:d.arr=none) {p:Leaf} (hp:zC st x=some p)
  (hr:Rel0 B X A w0 γ loc st a w) (hk:(K9 d.ty p st λ x st'=>k (st'.put o.dst (.v x)))=some r)
  (hn:yi B X A w0 k r o.dst.toList st next):o.wp P a w next Q:=by
 obtain⟨hp1,hp2⟩:=y0 hr hp;unfold K9 at hk;split at hk
 ·next id off=>
  obtain⟨b,hb1,hb2⟩:=hp1;split at hk
  ·next lvl cells hl=>
   split at hk
   ·next xv hle hmk=>
    obtain⟨b',arr,T',fr,q1,q2,q3,q4,q5⟩:=hr.ents id _ hl;rw[hb1] at q1;simp only[Value.pointer.injEq,aqK,Addr.mk.injEq,and_true] at q1;subst q1;have hlen:=q5.len;have akE:=Nat.le_of_ble_eq_true hle;have hsz:off+d.ty.size<=arr.size:=by simp at hlen; omega
    obtain⟨v1,v2⟩:=Ln (n:=st.nxt) hmk ((q5.drop off).take d.ty.size) (λ l hm=>(hr.elt id _ hl).1 l (List.mem_of_mem_drop (List.mem_of_mem_take hm)));exact Zg (x:=.v xv) hn (uq hT hd ah5 ho hb2 q2 hsz) hr (Pres.refl _ _) v1 v2 hk
   ·cases hk
  ·next cells hl=>
   split at hk
   ·next xv hle hmk=>
    obtain⟨b',arr,T',fr,q1,q2,q4,q5⟩:=hr.ents id _ hl;rw[hb1] at q1;simp only[Value.pointer.injEq,aqK,Addr.mk.injEq,and_true] at q1;subst q1;have hlen:=q5.len;have akE:=Nat.le_of_ble_eq_true hle;have hsz:off+d.ty.size<=arr.size:=by simp at hlen; omega
    obtain⟨v1,v2⟩:=Ln (n:=st.nxt) hmk ((q5.drop off).take d.ty.size) (λ l hm=>(hr.elt id _ hl).1 l (List.mem_of_mem_drop (List.mem_of_mem_take hm)));exact Zg (x:=.v xv) hn (uq hT hd ah5 ho hb2 q2 hsz) hr (Pres.refl _ _) v1 v2 hk
   ·cases hk
  ·cases hk
 ·next id ix esz off=>
  obtain⟨b,ob,n,c,hb1,hix,hb2⟩:=hp1;split at hk
  ·next kd lvl EE e xs hl=>
   split at hk
   ·next v hsz apq=>
    have apK:=(zV _ _).1 hsz;subst apK;obtain⟨arr,T',fr,f,_,q2,q3,q4,q5⟩:=Wf hr hl hb1 hix;obtain⟨g,p1,p2,p3⟩:=abf e _ off d.ty v _ f apq q3;rw[agt _ _ _ _ _ p3,ark] at p1;have hlen:(arr.toList.drop ob).length=arr.size - ob:=by simp
    rw[hlen,are] at q4;have al6:ob+ix*e.size+off+d.ty.size<=arr.size:=by
     have:=d.ty.size_pos; omega
    obtain⟨tt,htt⟩:=X9 kd;rw[htt] at hk;have hg:∀ b∈g,γ b=.persist∨(tt=true/\∃ i,γ b=.deep i):=by
     intro b hb';have:=q5 b (p2 b hb');rw[htt] at this;simpa using this
    have pe:ob+(ix*e.size+off)=ob+ix*e.size+off:=by omega
    rw[pe] at p1;obtain⟨loc2,r1,r2,r3⟩:=hr.addImm (lvl:=st.lvl) p1 hg;cases hs:ze (.imm tt) st.lvl d.ty v st.nxt with
    | mk ls rest=>
     obtain⟨es,j⟩:=rest;rw[hs] at hk r1 r2;simp only at hk;have so:=jB (.imm tt) st.lvl d.ty v st.nxt;have slt:=so.lt;rw[hs] at slt;split at hk
     ·next xv hmk=>
      obtain⟨v1,v2⟩:=Ln (n:=j) hmk r2 slt;have ai7:=Pres.addSpread (ids_lt hr) (.imm tt) st.lvl d.ty v;rw[hs] at ai7;exact Zg (x:=.v xv) hn (uq hT hd ah5 ho hb2 q2 al6) r1 ai7 v1 v2 hk
     ·cases hk
   ·cases hk
  ·cases hk
 ·cases hk
theorem Moves.put [Tags] {M:Nat->Prop} {γ:Nat->Own} {w:World} {b id:Nat} (ob:Obj) (h:γ b=.top id) (hM:M id):Moves M γ γ w (y6 w b ob) where
 persist c hc h':=⟨h',YM (λ e=>by subst e; rw[h] at h'; cases h')⟩
 top c i hc h' hi:=⟨h',YM (λ e=>by subst e; rw[h] at h'; cases h'; exact hi hM)⟩
 deep c i hc h':=⟨YM (λ e=>by subst e; rw[h] at h'; cases h'),λ _=>h',λ _=>.inr ⟨i,h'⟩⟩
theorem ra [Tags] {B:Nat} {X:List Nat} {A:Ctx} {γ:Nat->Own} {w:World} {b id:Nat} (ho:∀ b,b<B->b∉X->γ b=.alien∨(γ b=.persist/\b∈A.rds)) (h:γ b=.top id) (ob:Obj) (hu:∀ arr T fr,ob=.cells arr T fr->frees fr arr.size) (hs:∀ arr T fr,w.heap[b]?=some (.cells arr T fr)->∃ arr',ob=.cells arr' T fr/\arr'.size=arr.size):
  Keeps B X w (y6 w b ob):=
 ⟨rfl,rfl,rfl,by simp[y6],λ c hc hx=>YM (λ e=>by
  subst e;rcases ho _ hc hx with h'|⟨h',_⟩<;>rw[h] at h'<;>cases h'),λ c hc arr T fr h'=>by
  by_cases e:c=b
  ·subst e;have hlt:=Z0 h';simp only[y6,Array.size_setIfInBounds] at hlt;simp only[y6,Array.getElem?_setIfInBounds_self_of_lt hlt,aqK] at h';exact hu arr T fr h'
  ·rw[YM e] at h'; exact hc arr T fr h',λ c arr T fr h0=>by
  by_cases e:c=b
  ·subst e;obtain⟨arr',e1,e2⟩:=hs arr T fr h0;exact⟨arr',by rw[←e1]; exact Yu h0,e2⟩
  ·exact⟨arr,by rw[YM e]; exact h0,rfl⟩⟩
theorem GV (ls:List Leaf) (off:Nat) (xs:List Leaf):mO ls off xs=setAt ls off xs:=rfl
theorem All2.setAt {α β:Type} {R:α->β->Prop} {xs:List α} {ys:List β} (h:All2 R xs ys) (k:Nat) {us:List α} {vs:List β} (h2:All2 R us vs):All2 R (setAt xs k us) (setAt ys k vs):=by
 unfold Ev.setAt;rw[h2.len];exact ((h.take k).append h2).append (h.drop _)
theorem BC {α:Type} {l vs:List α} {k:Nat} {x:α} (h:x∈setAt l k vs):x∈l∨x∈vs:=by
 unfold setAt at h;simp only[ar0] at h;rcases h with (h|h)|h
 ·exact .inl (List.mem_of_mem_take h)
 ·exact .inr h
 ·exact .inl (List.mem_of_mem_drop h)
theorem Fn [Tags] (hT:yA P E.tys=true) {T:TypeId} {d:TD} (hd:lk E.tys T=some d) (ah5:d.arr=none) {x y:Operand} (ho:o.op=.store T x y)
  {b off:Nat} (hx:a.eval x=.pointer (some ⟨b,off,none⟩)) {arr:Array Value} {T':TypeId} {fr:Nat×Nat} (h:w.heap[b]?=some (.cells arr T' fr)) (hf:frees fr arr.size)
  (hn:off+d.ty.size<=arr.size) (hl:(a.eval y).cells.toList.length=d.ty.size) (h1:∀ c∈(a.eval y).cells.toList,c.oneCell'=true):
  (execOp a.eval o).run P w=.ok .skip (y6 w b (.cells (setAt arr.toList off (a.eval y).cells.toList).toArray T' fr)):=by
 have ht:=yh hT hd;have hs:(a.eval y).cells.size=d.ty.size:=by rw[←hl]; simp
 have:=uu (P:=P) b off T' fr (a.eval y).cells.toList 0 arr w h hf (by omega) h1;rw[arx] at this;simp only[execOp,ho,Instr.storeAt,Instr.sureAddr,hx,pure_bind,aqT,storeVar,ht.size ah5,aqQ,hs,ne_eq,not_true_eq_false,if_false,this,aqR]
theorem JG:∀ (ids:List Nat) (tab:List (Nat×Ent)) (j:Nat),look (ZB tab ids) j=if j∈ids then none else look tab j
 | [],tab,j=>by simp[ZB]
 | i::r,tab,j=>by
  simp only[ZB,JG r,cB,aqW];by_cases h1:j=i
  ·simp[h1]
  ·simp[h1]
def relab (ids:List Nat) (ow:Own) (γ:Nat->Own) (b:Nat):Own:=
 match γ b with
 | .top i=>if i∈ids then ow else .top i
 | .deep i=>if i∈ids then ow else .deep i
 | x=>x
theorem Yv {ids:List Nat} {ow:Own} {γ:Nat->Own} {b:Nat} (h:γ b=.persist):relab ids ow γ b=.persist:=by simp[relab,h]
theorem abw {ids:List Nat} {ow:Own} {γ:Nat->Own} {b:Nat} (h:γ b=.alien):relab ids ow γ b=.alien:=by simp[relab,h]
theorem KO {ids:List Nat} {ow:Own} {γ:Nat->Own} {b i:Nat} (h:γ b=.top i):relab ids ow γ b=if i∈ids then ow else .top i:=by simp[relab,h]
theorem Jc {ids:List Nat} {ow:Own} {γ:Nat->Own} {b i:Nat} (h:γ b=.deep i):relab ids ow γ b=if i∈ids then ow else .deep i:=by simp[relab,h]
theorem NW {ids:List Nat} {ow:Own} {γ:Nat->Own} {b:Nat} (h:owned (relab ids ow γ b)):owned (γ b):=by
 unfold relab at h;cases hg:γ b with
 | alien=>rw[hg] at h; exact h
 | persist=>rw[hg] at h; exact h
 | top i=>trivial
 | deep i=>trivial
theorem NV [Tags] {ids:List Nat} {ow:Own} (h:∀ b,b<B->b∉X->γ b=.alien∨(γ b=.persist/\b∈A.rds)):∀ b,b<B->b∉X->relab ids ow γ b=.alien∨(relab ids ow γ b=.persist/\b∈A.rds):=by
 intro b hb hx;rcases h b hb hx with h|⟨h,h'⟩
 ·exact .inl (abw h)
 ·exact .inr ⟨Yv h,h'⟩
theorem Moves.relab [Tags] {ids:List Nat} {ow:Own} (how:ow=.persist∨∃ j,ow=.deep j) (γ:Nat->Own) (w:World):Moves (λ i=>i∈ids) γ (relab ids ow γ) w w where
 persist b _ h:=⟨Yv h,rfl⟩
 top b i _ h hi:=⟨by rw[KO h,if_neg hi],rfl⟩
 deep b i _ h:=⟨rfl,λ hi=>by rw[Jc h,if_neg hi],λ hi=>by rw[Jc h,if_pos hi]; exact how⟩
theorem Moves.trans {M M':Nat->Prop} {γ1 γ2 γ3:Nat->Own} {w1 w2 w3:World} (h:Moves M γ1 γ2 w1 w2) (h':Moves M' γ2 γ3 w2 w3) (hs:w1.heap.size<=w2.heap.size):
  Moves (λ i=>M i∨M' i) γ1 γ3 w1 w3 where
 persist b hb hp:=by
  obtain⟨a1,a2⟩:=h.persist b hb hp;obtain⟨b1,b2⟩:=h'.persist b (by omega) a1;exact⟨b1,b2.trans a2⟩
 top b i hb hp hm:=by
  obtain⟨a1,a2⟩:=h.top b i hb hp (λ h=>hm (.inl h));obtain⟨b1,b2⟩:=h'.top b i (by omega) a1 (λ h=>hm (.inr h));exact⟨b1,b2.trans a2⟩
 deep b i hb hp:=by
  obtain⟨a1,a2,a3⟩:=h.deep b i hb hp;by_cases hm:M i
  ·rcases a3 hm with hq|⟨j,hq⟩
   ·obtain⟨b1,b2⟩:=h'.persist b (by omega) hq;exact⟨b2.trans a1,λ hn=>absurd (.inl hm) hn,λ _=>.inl b1⟩
   ·obtain⟨b1,b2,b3⟩:=h'.deep b j (by omega) hq;refine⟨b1.trans a1,λ hn=>absurd (.inl hm) hn,λ _ => ?_⟩;by_cases hj:M' j
    ·exact b3 hj
    ·exact .inr ⟨j,b2 hj⟩
  ·have hq:=a2 hm;obtain⟨b1,b2,b3⟩:=h'.deep b i (by omega) hq;refine⟨b1.trans a1,λ hn=>b2 (λ h=>hn (.inr h)),λ hm' => ?_⟩;rcases hm' with h|h
   ·exact absurd h hm
   ·exact b3 h
theorem RdO.rdN [Tags] {w:World}:∀ {t:Ty} {v:den t} {cs xs fs},RdO w t v cs xs fs->∃ fp,Rd w t v cs fp/\(∀ b∈fp,b∈xs∨b∈fs)/\(xs.Nodup->fs.Nodup->(∀ b∈xs,b∉fs)->fp.Nodup)
 | .i64,_,_,_,_,h=>⟨[],h.1,by simp,by simp⟩
 | .u8,_,_,_,_,h=>⟨[],h.1,by simp,by simp⟩
 | .bool,_,_,_,_,h=>⟨[],h.1,by simp,by simp⟩
 | .str,_,_,_,_,h=>⟨[],h.1,by simp,by simp⟩
 | .sl E e,v,cs,xs,fs,h=>by
  rcases h with⟨h1,h2,h3,h4⟩|⟨b,cap,arr,T,fr,h1,h2,h3,h4,h5,h6,h7,h8,h9⟩
  ·exact⟨[],⟨none,0,0,h2,by simp[h1],Nat.le_refl _,by simp,.inl ⟨h1,rfl,λ _=>⟨rfl,rfl⟩⟩⟩,by simp,by simp⟩
  ·refine⟨b::fs,⟨some ⟨b,0,none⟩,v.length,cap,h1,rfl,h5,h6,.inr ⟨b,0,arr,T,fr,fs,rfl,h2,rfl,by simpa using h7,h9.1,λ h=>⟨h9.2 h,rfl,h4,h3⟩⟩⟩,by simp[h8],?_⟩;intro _ hf hd;exact List.nodup_cons.2 ⟨hd b (by simp[h8]),hf⟩
 | .pair a b,v,cs,xs,fs,h=>by
  obtain⟨c1,c2,x1,x2,f1,f2,h1,h2,h3,h4,h5⟩:=h;subst h2; subst h3
  obtain⟨p1,r1,s1,n1⟩:=h4.rdN;obtain⟨p2,r2,s2,n2⟩:=h5.rdN;refine⟨p1++p2,⟨c1,c2,p1,p2,h1,rfl,r1,r2⟩,?_,?_⟩
  ·intro b hb;rcases List.mem_append.1 hb with hb|hb
   ·rcases s1 b hb with h|h<;>simp[h]
   ·rcases s2 b hb with h|h<;>simp[h]
  ·intro hx hf hd;have hx':=List.nodup_append.1 hx;have hf':=List.nodup_append.1 hf;refine Z3 (n1 hx'.1 hf'.1 (λ b hb hb'=>hd b (by simp[hb]) (by simp[hb']))) (n2 hx'.2.1 hf'.2.1 (λ b hb hb'=>hd b (by simp[hb]) (by simp[hb']))) ?_;intro b hb hb';rcases s1 b hb with h|h<;>rcases s2 b hb' with h'|h'
   ·exact hx'.2.2 b h b h' rfl
   ·exact hd b (by simp[h]) (by simp[h'])
   ·exact hd b (by simp[h']) (by simp[h])
   ·exact hf'.2.2 b h b h' rfl
theorem ab4 [Tags] {f1 f2 fm fv:List Nat} (h:(f1++fm++f2).Nodup) (hv:fv.Nodup) (hd:∀ x∈fv,x∉f1/\x∉f2):(f1++fv++f2).Nodup:=by
 have h1:=List.nodup_append.1 h;have h2:=List.nodup_append.1 h1.1;refine Z3 (Z3 h2.1 hv (λ x hx hx'=>(hd x hx').1 hx)) h1.2.1 ?_;intro x hx;rcases List.mem_append.1 hx with hx|hx
 ·intro hx'; exact h1.2.2 x (by simp[hx]) x hx' rfl
 ·exact (hd x hx).2
theorem bC {tab:List (Nat×Ent)} {t:Ty} {ls:List Leaf} {v:den t} (h:jJ tab t ls=some v):zQ tab t ls=some (v,[]):=by
 unfold jJ at h;split at h
 ·next x hx=>cases h; exact hx
 ·cases h
theorem Js [Tags] (hr:Rel0 B X A w0 γ loc st a w) {t:Ty} {ls:List Leaf} {vs:List Value} {v:den t} (h:jJ st.tab t ls=some v) (ha:All2 (LeafOk loc) ls vs):
  ∃ fp,Rd w t v vs fp/\(∀ b∈fp,γ b ≠ .alien/\∀ i,γ b=.top i->i∈yb ls)/\(yF st ls=true->∀ b∈fp,γ b=.persist):=by
 obtain⟨ls1,vs1,vs2,fp,h1,h2,h3,h4,h5,h6,h7⟩:=pb hr.ents t ls vs v [] (bC h) ha;simp at h1;subst h1;have:vs2=[]:=by
  cases vs2 with
  | nil=>rfl
  | cons _ _=>exact h4.elim
 subst this;simp at h2;subst h2;exact⟨fp,h5,h6,h7⟩
theorem qG [Tags] (hr:Rel0 B X A w0 γ loc st a w) {t:Ty} {ls:List Leaf} {vs:List Value} {v:den t} {ids:List Nat} (h:jJ st.tab t ls=some v) (ha:All2 (LeafOk loc) ls vs)
  (hg:yw st ls=some ids):
  ∃ xs fs,RdO w t v vs xs fs/\xs.Nodup/\(∀ b∈xs,∃ i∈ids,γ b=.top i)/\(∀ b∈fs,γ b=.persist∨∃ i∈ids,γ b=.deep i)/\
   ((∀ i∈ids,LX st i)->fs.Nodup/\∀ b∈fs,∃ i∈ids,γ b=.deep i):=by
 obtain⟨vs1,vs2,xs,fs,h1,h2,h3,h4,h5,h6,h7⟩:=pa hr.ents t ls vs v [] (bC h) ha ls ids (by simp) hg;have:vs2=[]:=by
  cases vs2 with
  | nil=>rfl
  | cons _ _=>exact h2.elim
 subst this;simp at h1;subst h1;exact⟨xs,fs,h3,h4,h5,h6,h7⟩
theorem IW [Tags] (hr:Rel0 B X A w0 γ loc st a w) {u u':Bool} {ls:List Leaf} {tab:List (Nat×Ent)} (h:bg st u ls=some (u',tab)):
  u'=u/\∃ ids,(∀ j,look tab j=if j∈ids then none else look st.tab j)/\(∀ i∈ids,jS st i)/\
   ∀ {t:Ty} {v:den t} {vs:List Value},jJ st.tab t ls=some v->All2 (LeafOk loc) ls vs->
    ∃ fv,Rd w t v vs fv/\(u=true->fv.Nodup/\∀ b∈fv,∃ i∈ids,γ b=.top i∨γ b=.deep i)/\(u=false->ids=[]/\∀ b∈fv,γ b=.persist):=by
 unfold bg at h;cases u with
 | true=>
  simp only at h;split at h
  ·next ids hg=>
   cases h;obtain⟨g1,g2⟩:=Jx hg;refine⟨rfl,ids,λ j=>JG ids st.tab j,Jw g1,?_⟩;intro t v vs hc ha;obtain⟨xs,fs,h3,h4,h5,h6,h7⟩:=qG hr hc ha g1;obtain⟨n1,n2⟩:=h7 g2;obtain⟨fp,q1,q2,q3⟩:=h3.rdN;refine⟨fp,q1,λ _=>⟨q3 h4 n1 ?_,?_⟩,(λ h=>by cases h)⟩
   ·intro b hb hb';obtain⟨i,_,e1⟩:=h5 b hb;obtain⟨j,_,e2⟩:=n2 b hb';rw[e1] at e2; cases e2
   ·intro b hb;rcases q2 b hb with h|h
    ·obtain⟨i,hi,e⟩:=h5 b h; exact⟨i,hi,.inl e⟩
    ·obtain⟨i,hi,e⟩:=n2 b h; exact⟨i,hi,.inr e⟩
  ·cases h
 | false=>
  simp only at h;split at h
  ·next hs=>
   cases h;refine⟨rfl,[],by simp,by simp,?_⟩;intro t v vs hc ha;obtain⟨fp,q1,q2,q3⟩:=Js hr hc ha;exact⟨fp,q1,(λ h=>by cases h),λ _=>⟨rfl,q3 hs⟩⟩
  ·cases h
theorem RdL.frame [Tags] {w w':World} {e:Ty} {xs:List (den e)} {cs:List Value} {fp:List Nat} (h:RdL (Rd w e) xs cs fp) (hf:∀ b∈fp,w'.heap[b]?=w.heap[b]?):RdL (Rd w' e) xs cs fp:=
 RdL.mono (λ x c f ai2 hR=>hR.frame (λ b hb=>hf b (ai2 b hb))) h
theorem mN {tab:List (Nat×Ent)} {id:Nat} {e0:Ent} (h:look tab id=some e0) (x:Ent) (j:Nat):look (yE tab id x) j=if j=id then some x else look tab j:=by
 rw[ZZ];by_cases hj:j=id
 ·simp[hj,h]
 ·simp[hj]
theorem QH {i:Nat} (h:jS st i) (e:Ent) (he:look st.tab i=some e):¬ e.prot st.lvl:=by
 obtain⟨u,lvl,EE,et,xs,hl,hv⟩:=h;rw[hl] at he;cases he;simp[Ent.prot,hv]
theorem afv [Tags] (hT:yA P E.tys=true) {T:TypeId} {x y:Operand} (ho:o.op=.store T x y) {d:TD} (hd:lk E.tys T=some d) (ah5:d.arr=none) {p:Leaf} (hp:zC st x=some p)
  {ls:List Leaf} (hy:Kc st y=some ls) (hr:Rel0 B X A w0 γ loc st a w) {st':St} (hs:po d.ty p ls st=some st') (hk:k (st'.put o.dst (.tup []))=some r)
  (hn:yi B X A w0 k r o.dst.toList st next):o.wp P a w next Q:=by
 obtain⟨hp1,hp2⟩:=y0 hr hp;obtain⟨hy1,hy2⟩:=QE hr hy;have alm:=fw hy1;have amB:=hy1.len;unfold po at hs;split at hs
 ·next id off=>
  obtain⟨b,hb1,hb2⟩:=hp1;split at hs
  ·next lvl cells hl=>
   split at hs
   ·next hc=>
    cases hs;simp only[aqF] at hc;obtain⟨⟨hlv,hll⟩,hle⟩:=hc;have hlv:=(zV _ _).1 hlv;have hll:=(zV _ _).1 hll;have hle:=Nat.le_of_ble_eq_true hle;obtain⟨b',arr,T',fr,q1,q2,q3,q4,q5⟩:=hr.ents id _ hl;rw[hb1] at q1;simp only[Value.pointer.injEq,aqK,Addr.mk.injEq,and_true] at q1;subst q1;have hlen:=q5.len;have hsz:off+d.ty.size<=arr.size:=by simp at hlen; omega
    have ah4:=Fn (o:=o) (a:=a) hT hd ah5 ho hb2 q2 q3 hsz (by omega) alm;refine xO (γ':=γ) (loc':=loc) hn ah4 ?_ ?_ hk
    ·refine hr.upd (M:=λ i=>i=id) rfl (Nat.le_refl _) (ra hr.old q4 _ (whole (by have e1:=YS (l:=arr.toList) (k:=off) (vs:=(a.eval y).cells.toList) (by simp at hlen ⊢; simp at amB; omega); simpa[e1] using q3)) (uj q2 (by have e1:=YS (l:=arr.toList) (k:=off) (vs:=(a.eval y).cells.toList) (by simp at hlen ⊢; simp at amB; omega); simpa using e1))) (λ _ _ h=>h) hr.old (λ _ _=>rfl) (Moves.put _ q4 rfl) (λ i hi=>by subst hi; exact⟨_,hl⟩) ?_
     intro i e hi;rw[mN hl] at hi;split at hi
     ·rename_i hid;cases hi;subst hid;refine .inr ⟨⟨⟨b,_,T',fr,hb1,Yu q2,?_,q4,?_⟩,?_,(hr.elt _ _ hl).2⟩,.inr ⟨_,hl⟩⟩
      ·have e1:=YS (l:=arr.toList) (k:=off) (vs:=(a.eval y).cells.toList) (by simp at hlen ⊢; simp at amB; omega)
       simpa[e1] using q3
      ·rw[GV]; exact q5.setAt off hy1
      ·intro l hm;rcases BC hm with h|h
       ·exact (hr.elt _ _ hl).1 l h
       ·exact hy2 l h
     ·rename_i hid;exact .inl ⟨hi,hid⟩
    ·refine⟨rfl,Nat.le_refl _,?_,λ _ _=>rfl,rfl⟩;intro i e he hpr;rw[mN hl];split
     ·rename_i hid;subst hid;rw[hl] at he;cases he;simp[Ent.prot,hlv] at hpr
     ·exact he
   ·cases hs
  ·cases hs
 ·next id ix esz off=>
  obtain⟨b,ob,n,c,hb1,hix,hb2⟩:=hp1;split at hs
  ·next u lvl EE e xs hl=>
   split at hs
   ·next v hc aom=>
    simp only[aqF] at hc;obtain⟨hlv,hsz⟩:=hc;have hlv:=(zV _ _).1 hlv;have hsz:=(zV _ _).1 hsz;subst hsz;split at hs
    ·next F u' tab hF aiw=>
     obtain⟨y',ahr,hFx⟩:=aew hF xs ix v;rw[hFx] at hs;split at hs
     ·next e0 hl0=>
      cases hs;obtain⟨_,ids,ahq,ahd,hrd⟩:=IW hr aiw;obtain⟨fv,v1,v2,v3⟩:=hrd aom hy1;have hid:id∉ids:=by
       intro hm;rw[ahq,if_pos hm] at hl0;cases hl0
      obtain⟨xb,fs,g1,g2,g3⟩:=hr.ents id _ hl;rcases g1 with⟨_,h2,_⟩|⟨b',cap,arr,T',fr,h1,h2,h3,h4,h5,h6,h7,h8,h9⟩
      ·rw[hb1] at h2; simp at h2
      ·rw[hb1] at h1;simp only[ara,Value.slice.injEq,and_true,aqK,Addr.mk.injEq] at h1;obtain⟨⟨rfl,rfl,_⟩,rfl,rfl⟩:=h1;have gb:γ b=.top id:=g2 b (by simp[h8]);obtain⟨f1,f,f2,p1,p2,p3,p4⟩:=h7.setAt' hix;obtain⟨m1,mm,m2,s1,s2,s3⟩:=aeD e _ off d.ty v y' _ _ f fv ahr p2 v1;have z3:=p4 _ _ _ s2;have hvl:(a.eval y).cells.toList.length=d.ty.size:=v1.len;rw[are] at p3;have p3':ix*e.size+e.size<=arr.size:=by simpa using p3
       rw[aey _ _ _ _ _ p3 (by omega)] at z3;have al6:ix*e.size+off+d.ty.size<=arr.size:=by omega
       have aof:a.eval x=.pointer (some ⟨b,ix*e.size+off,none⟩):=by rw[hb2]; congr 4; omega
       have ah4:=Fn (o:=o) (a:=a) hT hd ah5 ho aof h2 h3 al6 hvl alm;have hb':relab ids (.deep id) γ b=.top id:=by rw[KO gb,if_neg hid]
       have hfs:∀ c∈fs,c≠b:=by
        intro c hc he;subst he;cases u with
        | true=>have:=g3.2 c hc; rw[gb] at this; cases this
        | false=>have:=g3 c hc; rw[gb] at this; cases this
       have hfv:∀ c∈fv,c≠b:=by
        intro c hc he;subst he;cases hu:(u && e.hasSl) with
        | true=>
         obtain⟨i,hi,h|h⟩:=(v2 hu).2 c hc<;>rw[gb] at h<;>cases h
         exact hid hi
        | false=>have:=(v3 hu).2 c hc; rw[gb] at this; cases this
       have hold:∀ c,c∈f1++m1++m2++f2->c∈fs:=by
        intro c hc;rw[p1,s1];simp only[ar0] at hc ⊢;rcases hc with ((h|h)|h)|h<;>simp[h]
       have z3':RdL (Rd (y6 w b (.cells (setAt arr.toList (ix*e.size+off) (a.eval y).cells.toList).toArray T' fr)) e) (xs.set ix y')
         (setAt arr.toList (ix*e.size+off) (a.eval y).cells.toList) (f1++(m1++fv++m2)++f2):=by
        refine z3.frame (λ c hc=>YM ?_);simp only[ar0] at hc;rcases hc with (h|((h|h)|h))|h
        ·exact hfs c (hold c (by simp[h]))
        ·exact hfs c (hold c (by simp[h]))
        ·exact hfv c h
        ·exact hfs c (hold c (by simp[h]))
        ·exact hfs c (hold c (by simp[h]))
       have ai3:(setAt arr.toList (ix*e.size+off) (a.eval y).cells.toList).length=arr.size:=by rw[YS (by rw[hvl,ary]; exact al6)]; simp
       refine xO (γ':=relab ids (.deep id) γ) (loc':=loc) hn ah4 ?_ ?_ hk
       ·refine hr.upd (M:=λ i=>i∈ids∨i=id) rfl (Nat.le_refl _) (ra hr.old gb _ (whole (by simpa[ai3] using h3)) (uj h2 (by simpa using ai3))) (λ _ _ h=>NW h) (NV hr.old) (λ _ _=>rfl)
         ((Moves.relab (.inr ⟨id,rfl⟩) γ w).trans (Moves.put _ hb' rfl) (Nat.le_refl _)) (λ i hi=>hi.elim (λ h=>by obtain⟨u,lvl,E',e,xs,h',_⟩:=ahd i h; exact⟨_,h'⟩) (λ h=>by subst h; exact⟨_,hl⟩)) ?_
        intro i e' hi;rw[mN hl0] at hi;split at hi
        ·rename_i hii;cases hi;subst hii;refine .inr ⟨⟨⟨[b],f1++(m1++fv++m2)++f2,?_,by simpa using hb',?_⟩,trivial,(hr.elt _ _ hl).2⟩,.inr ⟨_,hl⟩⟩
         ·refine .inr ⟨b,_,_,T',fr,by rw[hb1,asg],Yu h2,by simpa[ai3] using h3,by simpa[ai3] using h4,by simpa using h5,by simpa using h6,by simpa using z3',rfl,h9⟩
         ·cases u with
          | false=>
           have hv:=(v3 (by simp)).2;intro c hc;refine Yv ?_;simp only[ar0] at hc;rcases hc with (h|((h|h)|h))|h
           ·exact g3 c (hold c (by simp[h]))
           ·exact g3 c (hold c (by simp[h]))
           ·exact hv c h
           ·exact g3 c (hold c (by simp[h]))
           ·exact g3 c (hold c (by simp[h]))
          | true=>
           cases hh:e.hasSl with
           | false=>
            rw[z3'.noSl hh];exact⟨List.nodup_nil,by simp⟩
           | true=>
            obtain⟨nv,dv⟩:=v2 (by simp[hh]);obtain⟨nf,df⟩:=g3;have ai0:∀ c∈fv,c∉fs:=by
             intro c hc hc';obtain⟨i,hi,h|h⟩:=dv c hc<;>rw[df c hc'] at h<;>cases h
             exact hid hi
            refine⟨?_,?_⟩
            ·have e1:f1++(m1++fv++m2)++f2=(f1++m1)++fv++(m2++f2):=by simp
             have e2:fs=(f1++m1)++mm++(m2++f2):=by rw[p1,s1]; simp
             rw[e1];refine ab4 (fm:=mm) (by rw[←e2]; exact nf) nv (λ c hc=>⟨λ h=>ai0 c hc (hold c ?_),λ h=>ai0 c hc (hold c ?_)⟩)
             ·simp only[ar0] at h ⊢; rcases h with h|h<;>simp[h]
             ·simp only[ar0] at h ⊢; rcases h with h|h<;>simp[h]
            ·intro c hc;have hd':∀ c∈fs,relab ids (.deep i) γ c=.deep i:=λ c hc=>by rw[Jc (df c hc),if_neg hid]
             simp only[ar0] at hc;rcases hc with (h|((h|h)|h))|h
             ·exact hd' c (hold c (by simp[h]))
             ·exact hd' c (hold c (by simp[h]))
             ·obtain⟨j,hj,h'|h'⟩:=dv c h
              ·rw[KO h',if_pos hj]
              ·rw[Jc h',if_pos hj]
             ·exact hd' c (hold c (by simp[h]))
             ·exact hd' c (hold c (by simp[h]))
        ·rename_i hii;rw[ahq] at hi;split at hi
         ·cases hi
         ·rename_i hni;exact .inl ⟨hi,λ h=>h.elim hni hii⟩
       ·refine⟨rfl,Nat.le_refl _,?_,λ _ _=>rfl,rfl⟩;intro i e' he hpr;rw[mN hl0];split
        ·rename_i hii;subst hii;rw[hl] at he;cases he;simp[Ent.prot,hlv] at hpr
        ·rw[ahq];split
         ·rename_i hm; exact absurd hpr (QH (ahd i hm) _ he)
         ·exact he
     ·cases hs
    ·cases hs
   ·cases hs
  ·cases hs
 ·cases hs
end Ev
