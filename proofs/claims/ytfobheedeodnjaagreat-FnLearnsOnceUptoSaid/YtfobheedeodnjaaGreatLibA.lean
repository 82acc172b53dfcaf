/- The evaluator of the own library, part 1: its words, its soundness. Conditions: none of its own. -/
import GoSem.Step
import Derived.Calls
import Derived.Tactics
import Derived.Laws.Sem
import Derived.Laws.Entries
import Derived.Laws.Cells
set_option linter.unusedSimpArgs false
set_option linter.unusedVariables false

namespace Ev
open Go

class Tags where
 post:Nat


inductive Ty where
 | i64|u8|bool|str
 | sl (E:Nat) (e:Ty)
 | pair (a b:Ty)
 deriving DecidableEq,Repr

@[reducible] def den:Ty→Type
 | .i64=>Int
 | .u8=>UInt8
 | .bool=>Bool
 | .str=>List UInt8
 | .sl _ e=>List (den e)
 | .pair a b=>den a×den b

def dflt:(t:Ty)→den t
 | .i64=>(0:Int)
 | .u8=>(0:UInt8)
 | .bool=>false
 | .str=>([]:List UInt8)
 | .sl _ e=>([]:List (den e))
 | .pair a b=>(dflt a,dflt b)

def Ty.size:Ty→Nat
 | .pair a b=>a.size+b.size
 | _=>1

def Ty.isPair:Ty→Bool
 | .pair _ _=>true
 | _=>false

def Ty.hasSl:Ty→Bool
 | .sl _ _=>true
 | .pair a b=>a.hasSl || b.hasSl
 | _=>false

theorem Ty.size_pos : ∀ t:Ty,0<t.size
 | .i64 | .u8 | .bool | .str | .sl _ _=>by simp[Ty.size]
 | .pair a b=>by have:=Ty.size_pos a; simp[Ty.size]; omega

def RdL {α:Type} (R:α→List Value→List Nat→Prop):List α→List Value→List Nat→Prop
 | [],_,fp=>fp=[]
 | x::xs,cs,fp => ∃ c rest f1 f2,cs=c++rest∧fp=f1++f2∧R x c f1∧RdL R xs rest f2

def Bnd:(t:Ty)→den t→Prop
 | .i64,n => -9223372036854775808≤n∧n≤(9223372036854775807:Int)
 | .u8,_=>True
 | .bool,_=>True
 | .str,l=>l.length≤140737488355328
 | .sl _ e,xs=>xs.length≤140737488355328 ∧ ∀ x∈xs,Bnd e x
 | .pair a b,v=>Bnd a v.1∧Bnd b v.2

def frees (fr:Nat×Nat) (n:Nat):Prop := ∀ o≤n,(decide (fr.1≤o) && decide (o<fr.2))=false

def TagOk [Tags] (E T:Nat):Prop:=T=Tags.post↔E=Tags.post

def Whole [Tags] (E:Nat) (e:Ty) (o c size:Nat) (fr:Nat×Nat):Prop:=E=Tags.post→e.size=18∧o=0∧size=c*e.size∧frees fr size

def Rd [Tags] (w:World):(t:Ty)→den t→List Value→List Nat→Prop
 | .i64,n,cs,fp=>cs=[.int .i64 n]∧fp=[]∧Bnd .i64 n
 | .u8,x,cs,fp=>cs=[.int .u8 (x.toNat:Int)]∧fp=[]
 | .bool,x,cs,fp=>cs=[.bool x]∧fp=[]
 | .str,l,cs,fp=>cs=[.string ⟨⟨l⟩⟩]∧fp=[]∧Bnd .str l
 | .sl E e,xs,cs,fp => ∃ a n c,cs=[.slice a n c]∧n=xs.length∧n≤c∧n≤140737488355328 ∧
   ((xs=[]∧fp=[]∧(E=Tags.post→a=none∧c=0)) ∨ ∃ b o arr T fr fp',a=some ⟨b,o,none⟩∧w.heap[b]?=some (.cells arr T fr)∧fp=b::fp'∧RdL (Rd w e) xs (arr.toList.drop o) fp'∧TagOk E T∧Whole E e o c arr.size fr)
 | .pair a b,v,cs,fp => ∃ c1 c2 f1 f2,cs=c1++c2∧fp=f1++f2∧Rd w a v.1 c1 f1∧Rd w b v.2 c2 f2

theorem RdL.mono {α:Type} {R R':α→List Value→List Nat→Prop} : ∀ {xs:List α} {cs fp},
  (∀ x c f,(∀ b∈f,b∈fp)→R x c f→R' x c f)→RdL R xs cs fp→RdL R' xs cs fp
 | [],_,_,_,h=>h
 | x::xs,cs,fp,hr,⟨c,rest,f1,f2,h1,h2,h3,h4⟩=>
  ⟨c,rest,f1,f2,h1,h2,hr x c f1 (fun b hb=>by rw[h2]; simp[hb]) h3,
   RdL.mono (fun x c f hf hR=>hr x c f (fun b hb=>by rw[h2]; simp[hf b hb]) hR) h4⟩

theorem Rd.len [Tags] {w:World} : ∀ {t:Ty} {v:den t} {cs fp},Rd w t v cs fp→cs.length=t.size
 | .i64,_,_,_,h=>by simp[Rd] at h; simp[h.1,Ty.size]
 | .u8,_,_,_,h=>by simp[Rd] at h; simp[h.1,Ty.size]
 | .bool,_,_,_,h=>by simp[Rd] at h; simp[h.1,Ty.size]
 | .str,_,_,_,h=>by simp[Rd] at h; simp[h.1,Ty.size]
 | .sl _ _,_,_,_,h=>by obtain⟨a,n,c,h,_⟩:=h; simp[h,Ty.size]
 | .pair a b,_,_,_,h=>by
  obtain⟨c1,c2,f1,f2,rfl,_,h1,h2⟩:=h
  simp[Rd.len h1,Rd.len h2,Ty.size]

theorem Rd.frame [Tags] {w w':World} : ∀ {t:Ty} {v:den t} {cs fp},Rd w t v cs fp→(∀ b∈fp,w'.heap[b]?=w.heap[b]?)→Rd w' t v cs fp
 | .i64,_,_,_,h,_=>h
 | .u8,_,_,_,h,_=>h
 | .bool,_,_,_,h,_=>h
 | .str,_,_,_,h,_=>h
 | .sl _ e,xs,cs,fp,h,hf=>by
  obtain⟨a,n,c,h1,h2,h3,h3',h4⟩:=h
  refine⟨a,n,c,h1,h2,h3,h3',?_⟩
  rcases h4 with h4|⟨b,o,arr,T,fr,fp',ha,hb,hfp,hl,ht⟩
  ·exact .inl h4
  ·refine .inr ⟨b,o,arr,T,fr,fp',ha,?_,hfp,?_⟩
   ·rw[hf b (by simp[hfp])]; exact hb
   ·refine⟨RdL.mono (fun x c f hsub hR=>Rd.frame hR (fun b hb=>hf b ?_)) hl,ht⟩
    rw[hfp]; simp[hsub b hb]
 | .pair a b,v,cs,fp,h,hf=>by
  obtain⟨c1,c2,f1,f2,h1,h2,h3,h4⟩:=h
  exact⟨c1,c2,f1,f2,h1,h2,h3.frame (fun b hb=>hf b (by simp[h2,hb])),h4.frame (fun b hb=>hf b (by simp[h2,hb]))⟩

theorem RdL.all {α:Type} {R:α→List Value→List Nat→Prop} {S:α→Prop} : ∀ {xs:List α} {cs fp},
  (∀ x c f,R x c f→S x)→RdL R xs cs fp → ∀ x∈xs,S x
 | [],_,_,_,_=>by simp
 | x::xs,cs,fp,hr,⟨c,rest,f1,f2,h1,h2,h3,h4⟩=>by
  intro y hy
  rcases List.mem_cons.1 hy with rfl|hy
  ·exact hr _ _ _ h3
  ·exact RdL.all hr h4 y hy

theorem Rd.bnd [Tags] {w:World} : ∀ {t:Ty} {v:den t} {cs fp},Rd w t v cs fp→Bnd t v
 | .i64,_,_,_,h=>h.2.2
 | .u8,_,_,_,_=>trivial
 | .bool,_,_,_,_=>trivial
 | .str,_,_,_,h=>h.2.2
 | .sl _ e,xs,cs,fp,h=>by
  obtain⟨a,n,c,h1,h2,h3,h3',h4⟩:=h
  refine⟨by omega,?_⟩
  rcases h4 with h4|⟨b,o,arr,T,fr,fp',ha,hb,hfp,hl,ht⟩
  ·simp[h4.1]
  ·exact RdL.all (fun x c f hR=>Rd.bnd hR) hl
 | .pair a b,v,cs,fp,h=>by
  obtain⟨c1,c2,f1,f2,h1,h2,h3,h4⟩:=h
  exact⟨h3.bnd,h4.bnd⟩

theorem RdL.mem {α:Type} {R:α→List Value→List Nat→Prop} : ∀ {xs:List α} {cs fp},RdL R xs cs fp → ∀ c∈fp,∃ x cs' f,R x cs' f∧c∈f
 | [],_,_,h,c,hc=>by simp[RdL] at h; simp[h] at hc
 | x::xs,_,_,⟨c0,rest,f1,f2,_,g2,g3,g4⟩,c,hc=>by
  rw[g2] at hc
  rcases List.mem_append.1 hc with hc|hc
  ·exact⟨x,c0,f1,g3,hc⟩
  ·exact RdL.mem g4 c hc

theorem Rd.lt [Tags] {w:World} : ∀ {t:Ty} {v:den t} {cs fp},Rd w t v cs fp → ∀ b∈fp,b<w.heap.size
 | .i64,_,_,_,h=>by simp[h.2.1]
 | .u8,_,_,_,h=>by simp[h.2]
 | .bool,_,_,_,h=>by simp[h.2]
 | .str,_,_,_,h=>by simp[h.2.1]
 | .sl _ e,xs,cs,fp,h=>by
  obtain⟨a,n,c,h1,h2,h3,h3',h4⟩:=h
  rcases h4 with h4|⟨b,o,arr,T,fr,fp',ha,hb,hfp,hl,ht⟩
  ·simp[h4.2]
  ·have hb':b<w.heap.size:=by
    rcases Nat.lt_or_ge b w.heap.size with h|h
    ·exact h
    ·simp[Array.getElem?_eq_none h] at hb
   intro c hc
   rw[hfp] at hc
   rcases List.mem_cons.1 hc with rfl|hc
   ·exact hb'
   ·obtain⟨x,cs',f,hR,hcf⟩:=RdL.mem hl c hc
    exact Rd.lt hR c hcf
 | .pair a b,v,cs,fp,h=>by
  obtain⟨c1,c2,f1,f2,h1,h2,h3,h4⟩:=h
  intro c hc
  rw[h2] at hc
  rcases List.mem_append.1 hc with hc|hc
  ·exact h3.lt c hc
  ·exact h4.lt c hc

def RdO [Tags] (w:World):(t:Ty)→den t→List Value→(xs fs:List Nat)→Prop
 | .i64,n,cs,xs,fs=>Rd w .i64 n cs []∧xs=[]∧fs=[]
 | .u8,n,cs,xs,fs=>Rd w .u8 n cs []∧xs=[]∧fs=[]
 | .bool,n,cs,xs,fs=>Rd w .bool n cs []∧xs=[]∧fs=[]
 | .str,n,cs,xs,fs=>Rd w .str n cs []∧xs=[]∧fs=[]
 | .sl E e,v,cs,xs,fs=>(v=[]∧cs=[.slice none 0 0]∧xs=[]∧fs=[]) ∨
   ∃ b cap arr T fr,cs=[.slice (some ⟨b,0,none⟩) v.length cap]∧w.heap[b]?=some (.cells arr T fr)∧frees fr arr.size∧arr.size=cap*e.size ∧
    v.length≤cap∧v.length≤140737488355328∧RdL (Rd w e) v arr.toList fs∧xs=[b]∧TagOk E T∧(E=Tags.post→e.size=18)
 | .pair a b,v,cs,xs,fs => ∃ c1 c2 x1 x2 f1 f2,cs=c1++c2∧xs=x1++x2∧fs=f1++f2∧RdO w a v.1 c1 x1 f1∧RdO w b v.2 c2 x2 f2

theorem RdO.frame [Tags] {w w':World} : ∀ {t:Ty} {v:den t} {cs xs fs},RdO w t v cs xs fs→(∀ b∈xs,w'.heap[b]?=w.heap[b]?)→(∀ b∈fs,w'.heap[b]?=w.heap[b]?)→RdO w' t v cs xs fs
 | .i64,_,_,_,_,h,_,_=>h
 | .u8,_,_,_,_,h,_,_=>h
 | .bool,_,_,_,_,h,_,_=>h
 | .str,_,_,_,_,h,_,_=>h
 | .sl _ e,v,cs,xs,fs,h,hx,hf=>by
  rcases h with h|⟨b,cap,arr,T,fr,h1,h2,h3,h4,h5,h6,h7,h8,h9⟩
  ·exact .inl h
  ·refine .inr ⟨b,cap,arr,T,fr,h1,?_,h3,h4,h5,h6,?_,h8,h9⟩
   ·rw[hx b (by simp[h8])]; exact h2
   ·exact RdL.mono (fun x c f hsub hR=>Rd.frame hR (fun b hb=>hf b (hsub b hb))) h7
 | .pair a b,v,cs,xs,fs,h,hx,hf=>by
  obtain⟨c1,c2,x1,x2,f1,f2,h1,h2,h3,h4,h5⟩:=h
  exact⟨c1,c2,x1,x2,f1,f2,h1,h2,h3,h4.frame (fun b hb=>hx b (by simp[h2,hb])) (fun b hb=>hf b (by simp[h3,hb])),
   h5.frame (fun b hb=>hx b (by simp[h2,hb])) (fun b hb=>hf b (by simp[h3,hb]))⟩

theorem RdO.rd [Tags] {w:World} : ∀ {t:Ty} {v:den t} {cs xs fs},RdO w t v cs xs fs → ∃ fp,Rd w t v cs fp ∧ ∀ b∈fp,b∈xs∨b∈fs
 | .i64,_,_,_,_,h=>⟨[],h.1,by simp⟩
 | .u8,_,_,_,_,h=>⟨[],h.1,by simp⟩
 | .bool,_,_,_,_,h=>⟨[],h.1,by simp⟩
 | .str,_,_,_,_,h=>⟨[],h.1,by simp⟩
 | .sl E e,v,cs,xs,fs,h=>by
  rcases h with⟨h1,h2,h3,h4⟩|⟨b,cap,arr,T,fr,h1,h2,h3,h4,h5,h6,h7,h8,h9⟩
  ·exact⟨[],⟨none,0,0,h2,by simp[h1],Nat.le_refl _,by simp,.inl ⟨h1,rfl,fun _=>⟨rfl,rfl⟩⟩⟩,by simp⟩
  ·exact⟨b::fs,⟨some ⟨b,0,none⟩,v.length,cap,h1,rfl,h5,h6,.inr ⟨b,0,arr,T,fr,fs,rfl,h2,rfl,by simpa using h7,h9.1,fun h=>⟨h9.2 h,rfl,h4,h3⟩⟩⟩,by simp[h8]⟩
 | .pair a b,v,cs,xs,fs,h=>by
  obtain⟨c1,c2,x1,x2,f1,f2,h1,h2,h3,h4,h5⟩:=h
  obtain⟨p1,r1,s1⟩:=h4.rd
  obtain⟨p2,r2,s2⟩:=h5.rd
  refine⟨p1++p2,⟨c1,c2,p1,p2,h1,rfl,r1,r2⟩,?_⟩
  intro b hb
  rw[h2,h3]
  rcases List.mem_append.1 hb with hb|hb
  ·rcases s1 b hb with h|h<;>simp[h]
  ·rcases s2 b hb with h|h<;>simp[h]

theorem lt_of_get {w:World} {b:Nat} {o:Obj} (h:w.heap[b]?=some o):b<w.heap.size:=by
 rcases Nat.lt_or_ge b w.heap.size with h'|h'
 ·exact h'
 ·simp[Array.getElem?_eq_none h'] at h

theorem RdL.lt [Tags] {w:World} {e:Ty} {v:List (den e)} {cs fs} (h:RdL (Rd w e) v cs fs) : ∀ b∈fs,b<w.heap.size:=by
 intro b hb
 obtain⟨x,c,f,hR,hf⟩:=RdL.mem h b hb
 exact hR.lt b hf

theorem RdO.lt [Tags] {w:World} : ∀ {t:Ty} {v:den t} {cs xs fs},RdO w t v cs xs fs→(∀ b∈xs,b<w.heap.size)∧(∀ b∈fs,b<w.heap.size)
 | .i64,_,_,_,_,h=>by simp[h.2.1,h.2.2]
 | .u8,_,_,_,_,h=>by simp[h.2.1,h.2.2]
 | .bool,_,_,_,_,h=>by simp[h.2.1,h.2.2]
 | .str,_,_,_,_,h=>by simp[h.2.1,h.2.2]
 | .sl E e,v,cs,xs,fs,h=>by
  rcases h with⟨h1,h2,h3,h4⟩|⟨b,cap,arr,T,fr,h1,h2,h3,h4,h5,h6,h7,h8,h9⟩
  ·simp[h3,h4]
  ·exact⟨by simp[h8,lt_of_get h2],h7.lt⟩
 | .pair a b,v,cs,xs,fs,h=>by
  obtain⟨c1,c2,x1,x2,f1,f2,h1,h2,h3,h4,h5⟩:=h
  have a1:=h4.lt; have a2:=h5.lt
  constructor
  ·intro b hb; rw[h2] at hb; rcases List.mem_append.1 hb with hb|hb; · exact a1.1 b hb
   ·exact a2.1 b hb
  ·intro b hb; rw[h3] at hb; rcases List.mem_append.1 hb with hb|hb; · exact a1.2 b hb
   ·exact a2.2 b hb

theorem RdO.len [Tags] {w:World} {t:Ty} {v:den t} {cs xs fs} (h:RdO w t v cs xs fs):cs.length=t.size:=by
 obtain⟨fp,hr,_⟩:=h.rd
 exact hr.len

end Ev

namespace Ev
open Go

inductive Leaf where
 | i (n:Int)|u (x:UInt8)|b (x:Bool)|s (l:List UInt8)
 | nil
 | sl (id:Nat)
 | ptr (id off:Nat)
 | ep (id ix esz off:Nat)
 | fn (f:Nat) (caps:List Nat)
 | ap (id:Nat)
 | any

inductive V1 where
 | one (l:Leaf)
 | agg (ls:List Leaf)
 | any

inductive AV where
 | top
 | v (x:V1)
 | tup (xs:List V1)

inductive Kind where
 | imm (taint:Bool)
 | own (u:Bool)
 | lent

inductive Ent where
 | box (lvl:Nat) (cells:List Leaf)
 | cst (cells:List Leaf)
 | arr (k:Kind) (lvl:Nat) (E:Nat) (e:Ty) (xs:List (den e))

structure St where
 slots:List AV
 tab:List (Nat×Ent)
 nxt:Nat
 lvl:Nat

def look:List (Nat×Ent)→Nat→Option Ent
 | [],_=>none
 | (k,e)::r,i=>match Nat.beq k i with
  | true=>some e
  | false=>look r i

def erase:List (Nat×Ent)→Nat→List (Nat×Ent)
 | [],_=>[]
 | (k,e)::r,i=>match Nat.beq k i with
  | true=>erase r i
  | false=>(k,e)::erase r i

def setE:List (Nat×Ent)→Nat→Ent→List (Nat×Ent)
 | [],_,_=>[]
 | (k,e)::r,i,x=>match Nat.beq k i with
  | true=>(k,x)::setE r i x
  | false=>(k,e)::setE r i x

theorem beq_iff (a b:Nat):Nat.beq a b=true↔a=b:=⟨Nat.eq_of_beq_eq_true,fun h=>by subst h; exact Nat.beq_refl a⟩
theorem beq_ff (a b:Nat):Nat.beq a b=false↔a≠b:=by
 cases h:Nat.beq a b with
 | true=>simp[(beq_iff a b).1 h]
 | false=>simp; intro e; subst e; simp at h

theorem look_erase (t:List (Nat×Ent)) (i j:Nat):look (erase t i) j=if j=i then none else look t j:=by
 induction t with
 | nil=>simp[erase,look]
 | cons x r ih=>
  obtain⟨k,e⟩:=x
  simp only[erase]
  cases h:Nat.beq k i with
  | true=>
   have:=(beq_iff _ _).1 h; subst this
   simp only[look,ih]
   by_cases hj:j=k
   ·simp[hj]
   ·simp only[hj,if_false]; rw[(beq_ff k j).2 (fun e=>hj e.symm)]
  | false=>
   have hk:=(beq_ff _ _).1 h
   simp only[look]
   cases h2:Nat.beq k j with
   | true=>have:=(beq_iff _ _).1 h2; subst this; simp[hk]
   | false=>simp[ih]

theorem look_setE (t:List (Nat×Ent)) (i j:Nat) (x:Ent):look (setE t i x) j=if j=i then (look t i).map (fun _=>x) else look t j:=by
 induction t with
 | nil=>simp[setE,look]
 | cons y r ih=>
  obtain⟨k,e⟩:=y
  simp only[setE]
  cases h:Nat.beq k i with
  | true=>
   have:=(beq_iff _ _).1 h; subst this
   simp only[look,ih]
   by_cases hj:j=k
   ·subst hj; simp
   ·simp only[hj,if_false]; rw[(beq_ff k j).2 (fun e=>hj e.symm)]
  | false=>
   have hk:=(beq_ff _ _).1 h
   simp only[look,h]
   cases h2:Nat.beq k j with
   | true=>have:=(beq_iff _ _).1 h2; subst this; simp[hk]
   | false=>simp[ih]

theorem look_cons (t:List (Nat×Ent)) (k j:Nat) (e:Ent):look ((k,e)::t) j=if j=k then some e else look t j:=by
 simp only[look]
 cases h:Nat.beq k j with
 | true=>have:=(beq_iff _ _).1 h; subst this; simp
 | false=>have:=(beq_ff _ _).1 h; rw[if_neg (fun e=>this (Eq.symm e))]


inductive Own where
 | persist
 | alien
 | top (id:Nat)
 | deep (id:Nat)

def LeafOk (loc:Nat→Value):Leaf→Value→Prop
 | .i n,v=>v = .int .i64 n∧Bnd .i64 n
 | .u x,v=>v = .int .u8 (x.toNat:Int)
 | .b x,v=>v = .bool x
 | .s l,v=>v = .string ⟨⟨l⟩⟩∧Bnd .str l
 | .nil,v=>v = .slice none 0 0
 | .sl id,v=>v=loc id ∧ ∃ a n c,v = .slice a n c
 | .ptr id off,v => ∃ b,loc id = .pointer (some ⟨b,0,none⟩)∧v = .pointer (some ⟨b,off,none⟩)
 | .ep id ix esz off,v => ∃ b o n c,loc id = .slice (some ⟨b,o,none⟩) n c∧ix<n∧v = .pointer (some ⟨b,o+ix*esz+off,none⟩)
 | .fn f caps,v=>v = .func (.func f) #[] ((caps.map loc).toArray) ∧ ∀ c∈caps,∃ b,loc c = .pointer (some ⟨b,0,none⟩)
 | .ap id,v => ∃ b n c,loc id = .slice (some ⟨b,0,none⟩) n c∧v = .pointer (some ⟨b,0,none⟩)
 | .any,v=>v.oneCell'=true

def Leaf.lt (n:Nat):Leaf→Prop
 | .sl id=>id<n
 | .ptr id _=>id<n
 | .ep id _ _ _=>id<n
 | .fn _ caps => ∀ c∈caps,c<n
 | .ap id=>id<n
 | _=>True

def All2 {α β:Type} (R:α→β→Prop):List α→List β→Prop
 | [],[]=>True
 | x::xs,y::ys=>R x y∧All2 R xs ys
 | _,_=>False

theorem All2.mono {α β:Type} {R R':α→β→Prop} : ∀ {xs:List α} {ys:List β},(∀ x∈xs,∀ y,R x y→R' x y)→All2 R xs ys→All2 R' xs ys
 | [],[],_,_=>trivial
 | x::xs,y::ys,h,⟨h1,h2⟩=>⟨h x (by simp) y h1,All2.mono (fun a ha b hb=>h a (by simp[ha]) b hb) h2⟩
 | [],_::_,_,h=>h.elim
 | _::_,[],_,h=>h.elim

theorem All2.len {α β:Type} {R:α→β→Prop} : ∀ {xs:List α} {ys:List β},All2 R xs ys→xs.length=ys.length
 | [],[],_=>rfl
 | _::_,_::_,⟨_,h⟩=>by simp[All2.len h]
 | [],_::_,h=>h.elim
 | _::_,[],h=>h.elim

theorem All2.append {α β:Type} {R:α→β→Prop} : ∀ {xs xs':List α} {ys ys':List β},All2 R xs ys→All2 R xs' ys'→All2 R (xs++xs') (ys++ys')
 | [],_,[],_,_,h=>h
 | _::_,_,_::_,_,⟨h1,h2⟩,h=>⟨h1,All2.append h2 h⟩
 | [],_,_::_,_,h,_=>h.elim
 | _::_,_,[],_,h,_=>h.elim

theorem All2.get {α β:Type} {R:α→β→Prop} : ∀ {xs:List α} {ys:List β},All2 R xs ys → ∀ {i:Nat} {x:α},xs[i]?=some x → ∃ y,ys[i]?=some y∧R x y
 | x::xs,y::ys,⟨h1,h2⟩,i,a,ha=>by
  cases i with
  | zero=>simp at ha; subst ha; exact⟨y,by simp,h1⟩
  | succ i=>simp at ha; obtain⟨b,hb,hr⟩:=All2.get h2 ha; exact⟨b,by simpa using hb,hr⟩
 | [],[],_,i,a,ha=>by simp at ha
 | [],_::_,h,_,_,_=>h.elim
 | _::_,[],h,_,_,_=>h.elim

theorem All2.set {α β:Type} {R:α→β→Prop} : ∀ {xs:List α} {ys:List β},All2 R xs ys → ∀ (i:Nat) {x:α} {y:β},R x y→All2 R (xs.set i x) (ys.set i y)
 | [],[],_,_,_,_,_=>trivial
 | _::_,_::_,⟨_,h2⟩,0,_,_,h=>⟨h,h2⟩
 | _::_,_::_,⟨h1,h2⟩,i+1,_,_,h=>⟨h1,All2.set h2 i h⟩
 | [],_::_,h,_,_,_,_=>h.elim
 | _::_,[],h,_,_,_,_=>h.elim

theorem All2.take {α β:Type} {R:α→β→Prop} : ∀ {xs:List α} {ys:List β},All2 R xs ys → ∀ (i:Nat),All2 R (xs.take i) (ys.take i)
 | [],[],_,i=>by simp[All2]
 | _::_,_::_,_,0=>by simp[All2]
 | _::_,_::_,⟨h1,h2⟩,i+1=>⟨h1,All2.take h2 i⟩
 | [],_::_,h,_=>h.elim
 | _::_,[],h,_=>h.elim

theorem All2.drop {α β:Type} {R:α→β→Prop} : ∀ {xs:List α} {ys:List β},All2 R xs ys → ∀ (i:Nat),All2 R (xs.drop i) (ys.drop i)
 | [],[],_,i=>by simp[All2]
 | _::_,_::_,h,0=>h
 | _::_,_::_,⟨_,h2⟩,i+1=>by simpa using All2.drop h2 i
 | [],_::_,h,_=>h.elim
 | _::_,[],h,_=>h.elim

def V1Ok (loc:Nat→Value):V1→Value→Prop
 | .one l,v=>LeafOk loc l v
 | .agg ls,v => ∃ vs:List Value,v = .agg vs.toArray∧All2 (LeafOk loc) ls vs
 | .any,_=>True

def V1.lt (n:Nat):V1→Prop
 | .one l=>l.lt n
 | .agg ls => ∀ l∈ls,l.lt n
 | .any=>True

def AVOk (loc:Nat→Value):AV→Value→Prop
 | .top,_=>True
 | .v x,v=>V1Ok loc x v
 | .tup xs,v => ∃ vs:List Value,v = .tuple vs.toArray∧All2 (V1Ok loc) xs vs

def AV.lt (n:Nat):AV→Prop
 | .top=>True
 | .v x=>x.lt n
 | .tup xs => ∀ x∈xs,x.lt n

theorem LeafOk.loc {loc loc':Nat→Value} {n:Nat} {l:Leaf} {v:Value} (h:LeafOk loc l v) (hl:l.lt n) (he : ∀ i<n,loc' i=loc i):LeafOk loc' l v:=by
 cases l with
 | sl id=>simp only[LeafOk] at *; rw[he _ hl]; exact h
 | ptr id off=>simp only[LeafOk] at *; rw[he _ hl]; exact h
 | ep id ix esz off=>simp only[LeafOk] at *; rw[he _ hl]; exact h
 | ap id=>simp only[LeafOk] at *; rw[he _ hl]; exact h
 | fn f caps=>
  simp only[LeafOk] at *
  refine⟨?_,fun c hc=>by rw[he c (hl c hc)]; exact h.2 c hc⟩
  rw[h.1]
  congr 2
  exact List.map_congr_left (fun c hc=>(he c (hl c hc)).symm)
 | _=>exact h

theorem V1Ok.loc {loc loc':Nat→Value} {n:Nat} {x:V1} {v:Value} (h:V1Ok loc x v) (hl:x.lt n) (he : ∀ i<n,loc' i=loc i):V1Ok loc' x v:=by
 cases x with
 | one l=>exact LeafOk.loc h hl he
 | agg ls=>obtain⟨vs,h1,h2⟩:=h; exact⟨vs,h1,h2.mono (fun l hm v hv=>hv.loc (hl l hm) he)⟩
 | any=>trivial

theorem AVOk.loc {loc loc':Nat→Value} {n:Nat} {x:AV} {v:Value} (h:AVOk loc x v) (hl:x.lt n) (he : ∀ i<n,loc' i=loc i):AVOk loc' x v:=by
 cases x with
 | top=>trivial
 | v x=>exact V1Ok.loc h hl he
 | tup xs=>obtain⟨vs,h1,h2⟩:=h; exact⟨vs,h1,h2.mono (fun l hm v hv=>hv.loc (hl l hm) he)⟩

theorem Leaf.lt_mono {n m:Nat} (h:n≤m) {l:Leaf} (hl:l.lt n):l.lt m:=by
 cases l with
 | sl id=>exact Nat.lt_of_lt_of_le hl h
 | ptr id off=>exact Nat.lt_of_lt_of_le hl h
 | ep id ix esz off=>exact Nat.lt_of_lt_of_le hl h
 | ap id=>exact Nat.lt_of_lt_of_le hl h
 | fn f caps=>exact fun c hc=>Nat.lt_of_lt_of_le (hl c hc) h
 | _=>trivial

theorem V1.lt_mono {n m:Nat} (h:n≤m) {x:V1} (hl:x.lt n):x.lt m:=by
 cases x with
 | one l=>exact Leaf.lt_mono h hl
 | agg ls=>exact fun l hm=>Leaf.lt_mono h (hl l hm)
 | any=>trivial

theorem AV.lt_mono {n m:Nat} (h:n≤m) {x:AV} (hl:x.lt n):x.lt m:=by
 cases x with
 | top=>trivial
 | v x=>exact V1.lt_mono h hl
 | tup xs=>exact fun l hm=>V1.lt_mono h (hl l hm)


def fpOk (γ:Nat→Own) (k:Kind) (id:Nat) (fp:List Nat):Prop:=
 match k with
 | .imm taint => ∀ b∈fp,γ b = .persist∨(taint=true ∧ ∃ j,γ b = .deep j)
 | .own true=>fp.Nodup ∧ ∀ b∈fp,γ b = .deep id
 | .own false => ∀ b∈fp,γ b = .persist
 | .lent=>fp.Nodup ∧ ∀ b∈fp,γ b = .deep id

def EntOk [Tags] (γ:Nat→Own) (loc:Nat→Value) (w:World) (id:Nat):Ent→Prop
 | .box _ cells => ∃ b arr T fr,loc id = .pointer (some ⟨b,0,none⟩)∧w.heap[b]?=some (.cells arr T fr)∧frees fr arr.size∧γ b = .top id ∧
   All2 (LeafOk loc) cells arr.toList
 | .arr (.imm taint) _ E e xs => ∃ fp,Rd w (.sl E e) xs [loc id] fp∧fpOk γ (.imm taint) id fp
 | .arr .lent _ E e xs => ∃ fp,Rd w (.sl E e) xs [loc id] fp∧fpOk γ .lent id fp
 | .cst cells => ∃ b arr T fr,loc id = .pointer (some ⟨b,0,none⟩)∧w.heap[b]?=some (.cells arr T fr)∧γ b = .persist ∧
   All2 (LeafOk loc) cells arr.toList
 | .arr (.own u) _ E e v => ∃ xs fs,RdO w (.sl E e) v [loc id] xs fs∧(∀ b∈xs,γ b = .top id)∧fpOk γ (.own u) id fs

def Ent.lt (n:Nat):Ent→Prop
 | .box _ cells => ∀ l∈cells,l.lt n
 | .cst cells => ∀ l∈cells,l.lt n
 | .arr .. => True

def Unfr (w:World) (b:Nat):Prop := ∀ arr T fr,w.heap[b]?=some (.cells arr T fr)→frees fr arr.size

theorem Unfr.of {w:World} {b:Nat} {arr:Array Value} {T:TypeId} {fr:Nat×Nat} (h:w.heap[b]?=some (.cells arr T fr)) (hf:frees fr arr.size):Unfr w b:=by
 intro arr' T' fr' h'
 rw[h] at h'; cases h'; exact hf

theorem Unfr.big [Tags] {w:World} {b:Nat} (h:w.heap.size≤b):Unfr w b:=by
 intro arr T fr h'
 have:=lt_of_get h'
 omega

theorem Unfr.congr {w w':World} {b:Nat} (h:Unfr w b) (he:w'.heap[b]?=w.heap[b]?):Unfr w' b:=by
 intro arr T fr h'
 rw[he] at h'; exact h arr T fr h'

def Shape (w0 w:World) (b:Nat):Prop := ∀ arr T fr,w0.heap[b]?=some (.cells arr T fr) → ∃ arr',w.heap[b]?=some (.cells arr' T fr)∧arr'.size=arr.size

theorem Shape.refl (w:World) (b:Nat):Shape w w b:=fun arr _ _ h=>⟨arr,h,rfl⟩
theorem Shape.trans {w0 w1 w2:World} {b:Nat} (h:Shape w0 w1 b) (k:Shape w1 w2 b):Shape w0 w2 b:=by
 intro arr T fr h0
 obtain⟨a1,h1,e1⟩:=h arr T fr h0
 obtain⟨a2,h2,e2⟩:=k a1 T fr h1
 exact⟨a2,h2,e2.trans e1⟩
theorem Shape.same {w0 w:World} {b:Nat} (h:w.heap[b]?=w0.heap[b]?):Shape w0 w b:=fun arr T fr h0=>⟨arr,by rw[h]; exact h0,rfl⟩

structure Keeps (B:Nat) (X:List Nat) (w0 w:World):Prop where
 os:w.os=w0.os
 tape:w.tape=w0.tape
 output:w.output=w0.output
 size:w0.heap.size≤w.heap.size
 block : ∀ k,k<B→k∉X→w.heap[k]?=w0.heap[k]?
 free : ∀ k,Unfr w0 k→Unfr w k
 shape : ∀ k,Shape w0 w k

def owned:Own→Prop
 | .top _=>True
 | .deep _=>True
 | _=>False

structure KeepsW (B:Nat) (X:List Nat) (w0 w:World):Prop where
 os:w.os=w0.os
 tape:w.tape=w0.tape
 output:w.output=w0.output
 size:w0.heap.size≤w.heap.size
 block : ∀ k,k<B→k∉X→w.heap[k]?=w0.heap[k]?
 free : ∀ k,k<w0.heap.size→Unfr w0 k→Unfr w k
 shape : ∀ k,Shape w0 w k

theorem KeepsW.refl [Tags] (B:Nat) (X:List Nat) (w:World):KeepsW B X w w:=⟨rfl,rfl,rfl,Nat.le_refl _,fun _ _ _=>rfl,fun _ _ h=>h,Shape.refl w⟩
theorem KeepsW.trans [Tags] {B:Nat} {X:List Nat} {a b c:World} (h:KeepsW B X a b) (k:KeepsW B X b c):KeepsW B X a c:=
 ⟨k.os.trans h.os,k.tape.trans h.tape,k.output.trans h.output,Nat.le_trans h.size k.size,fun i hi hx=>(k.block i hi hx).trans (h.block i hi hx),
  fun i hl hi=>k.free i (Nat.lt_of_lt_of_le hl h.size) (h.free i hl hi),fun i=>(h.shape i).trans (k.shape i)⟩
theorem Keeps.weak {B:Nat} {X:List Nat} {a b:World} (h:Keeps B X a b):KeepsW B X a b:=⟨h.os,h.tape,h.output,h.size,h.block,fun k _ hk=>h.free k hk,h.shape⟩

theorem Keeps.refl [Tags] (B:Nat) (X:List Nat) (w:World):Keeps B X w w:=⟨rfl,rfl,rfl,Nat.le_refl _,fun _ _ _=>rfl,fun _ h=>h,Shape.refl w⟩
theorem Keeps.trans [Tags] {B:Nat} {X:List Nat} {a b c:World} (h:Keeps B X a b) (k:Keeps B X b c):Keeps B X a c:=
 ⟨k.os.trans h.os,k.tape.trans h.tape,k.output.trans h.output,Nat.le_trans h.size k.size,fun i hi hx=>(k.block i hi hx).trans (h.block i hi hx),fun i hi=>k.free i (h.free i hi),fun i=>(h.shape i).trans (k.shape i)⟩

structure Glob where
 gb:List Nat
 G:World→Prop
 frame : ∀ {w w':World},G w→(∀ b∈gb,w'.heap[b]?=w.heap[b]?)→G w'

def Glob.none:Glob:=⟨[],fun _=>True,fun _ _=>trivial⟩

structure GlobOk (gl:Glob) (B:Nat) (X:List Nat) (w0:World):Prop where
 holds:gl.G w0
 apart : ∀ b∈gl.gb,b<B∧b∉X
 start:w0.heap.size≤B
 xfree : ∀ b∈X,Unfr w0 b

structure Ctx where
 rds:List Nat
 pins:List (Nat×Value)
 dl:List (Nat×Nat):=[]
 dps:List Nat:=[]
 hi:Nat:=0
 gl:Glob:=Glob.none
 tg:Bool:=false

structure Rel0 [Tags] (B:Nat) (X:List Nat) (A:Ctx) (w0:World) (γ:Nat→Own) (loc:Nat→Value) (st:St) (a:Act) (w:World):Prop where
 defers:a.defers=[]
 keeps:KeepsW B X w0 w
 unf : ∀ b,owned (γ b)→Unfr w b
 old : ∀ b,b<B→b∉X→γ b = .alien∨(γ b = .persist∧b∈A.rds)
 Ble:B≤w.heap.size
 size:st.slots.length=a.tmps.size
 slots : ∀ (t:Nat) (v:AV),st.slots[t]?=some v→AVOk loc v (a.tmps.getD t undef)
 ents : ∀ (id:Nat) (e:Ent),look st.tab id=some e→EntOk γ loc w id e
 slt : ∀ (t:Nat) (v:AV),st.slots[t]?=some v→v.lt st.nxt
 elt : ∀ (id:Nat) (e:Ent),look st.tab id=some e→e.lt st.nxt∧id<st.nxt
 pins : ∀ p∈A.pins,p.1<st.nxt∧loc p.1=p.2
 dlab : ∀ p∈A.dl,st.nxt≤A.hi→γ p.1 = .deep p.2∧(p.2<st.nxt∨A.hi≤p.2)∧look st.tab p.2=none∧p.1<w.heap.size
 glob:GlobOk A.gl B X w0
 dpc : ∀ b∈A.dps,b<w.heap.size∧(γ b = .persist ∨ ∃ j,γ b = .deep j)∧w.heap[b]?=w0.heap[b]?
 rtag:A.tg=true → ∀ b∈A.rds,∀ arr fr,w0.heap[b]?≠some (.cells arr Tags.post fr)

theorem Rel0.globAt [Tags] {B:Nat} {X:List Nat} {A:Ctx} {w0:World} {γ:Nat→Own} {loc:Nat→Value} {st:St} {a:Act} {w:World} (h:Rel0 B X A w0 γ loc st a w):A.gl.G w:=
 A.gl.frame h.glob.holds fun b hb=>h.keeps.block b (h.glob.apart b hb).1 (h.glob.apart b hb).2

theorem Rel0.globApart [Tags] {B:Nat} {X:List Nat} {A:Ctx} {w0:World} {γ:Nat→Own} {loc:Nat→Value} {st:St} {a:Act} {w:World} (h:Rel0 B X A w0 γ loc st a w) {b:Nat} (hb:b∈A.gl.gb) :
  b<w.heap.size∧(γ b = .alien∨γ b = .persist):=by
 obtain⟨h1,h2⟩:=h.glob.apart b hb
 exact⟨Nat.lt_of_lt_of_le h1 h.Ble,(h.old b h1 h2).imp id And.left⟩

theorem Rel0.unfr [Tags] {B:Nat} {X:List Nat} {A:Ctx} {w0:World} {γ:Nat→Own} {loc:Nat→Value} {st:St} {a:Act} {w:World} (h:Rel0 B X A w0 γ loc st a w) {b:Nat}
  (h1:γ b ≠ .alien) (h2:γ b ≠ .persist):Unfr w b:=by
 refine h.unf b ?_
 cases hg:γ b with
 | alien=>exact absurd hg h1
 | persist=>exact absurd hg h2
 | top i=>trivial
 | deep i=>trivial

def Rel [Tags] (B:Nat) (X:List Nat) (A:Ctx) (w0:World) (st:St) (a:Act) (w:World):Prop := ∃ γ loc,Rel0 B X A w0 γ loc st a w

end Ev

namespace Ev
open Go

noncomputable section

def lock:Bool:=Classical.choice ⟨true⟩

def wr (n:Int):Int:=bif lock then (n+9223372036854775808) % 18446744073709551616 - 9223372036854775808 else (n+9223372036854775808) % 18446744073709551616 - 9223372036854775808
theorem wr_def (n:Int):wr n=(n+9223372036854775808) % 18446744073709551616 - 9223372036854775808:=by unfold wr; cases lock<;>rfl
def band (x y:Int):Int:=wr (BitVec.ofInt 64 x &&& BitVec.ofInt 64 y).toNat
def bor (x y:Int):Int:=wr (BitVec.ofInt 64 x ||| BitVec.ofInt 64 y).toNat
def bxor (x y:Int):Int:=wr (BitVec.ofInt 64 x ^^^ BitVec.ofInt 64 y).toNat
def shl (x y:Int):Int:=wr (x*2 ^ min y.toNat 64)
def shr (x y:Int):Int:=x.fdiv (2 ^ min y.toNat 64)
def mx (x y:Int):Int:=bif lock then (if y>x then y else x) else (if y>x then y else x)
theorem mx_def (x y:Int):mx x y=if y>x then y else x:=by unfold mx; cases lock<;>rfl
def mn (x y:Int):Int:=bif lock then (if y<x then y else x) else (if y<x then y else x)
theorem mn_def (x y:Int):mn x y=if y<x then y else x:=by unfold mn; cases lock<;>rfl
def toB (n:Int):UInt8:=bif lock then UInt8.ofNat (n % 256).toNat else UInt8.ofNat (n % 256).toNat
theorem toB_def (n:Int):toB n=UInt8.ofNat (n % 256).toNat:=by unfold toB; cases lock<;>rfl

@[reducible] def rd (e:Ty) (xs:List (den e)) (i:Nat):den e:=xs.getD i (dflt e)

structure TD where
 ty:Ty
 bytes:Nat
 flds:List (Nat×Nat)
 arr:Option Nat:=none

@[reducible] def dens:List Ty→Type
 | []=>Unit
 | t::ts=>den t×dens ts

inductive PK where
 | rd|ptr|own|cap|clo (f:Nat)
 deriving DecidableEq

def PK.upd:PK→Bool
 | .ptr=>true
 | _=>false

inductive RK where
 | uniq|own|shared
 deriving DecidableEq

@[reducible] def argT (ps:List (PK×Ty)):Type:=dens (ps.map (·.2))
@[reducible] def outT (ps:List (PK×Ty)) (rets:List Ty):Type:=dens (((ps.filter fun p=>p.1.upd).map (·.2))++rets)

structure PF where
 params:List (PK×Ty)
 rets:List Ty
 rk:RK
 fn:argT params→Option (outT params rets)

structure NF where
 params:List (PK×Ty)
 ret:Ty
 fn:argT params→Option (den ret)

structure MF where
 ty:Ty
 fn:den ty×Int×Unit→Option (den ty×Int×Unit)

structure Env where
 tys:List (Nat×TD)
 fns:List (Nat×PF)
 eqs:List Nat:=[]
 news:List (Nat×NF):=[]
 muts:List (Nat×MF):=[]
 frz:Bool:=false
 conds:List (Nat×PF):=[]
 joins:List (Nat×PF):=[]
 alts:List (Nat×PF):=[]
 hold:Bool:=false
 thaws:List (Nat×Nat):=[]

def lk {α:Type}:List (Nat×α)→Nat→Option α
 | [],_=>none
 | (k,e)::r,i=>match Nat.beq k i with
  | true=>some e
  | false=>lk r i

def St.put (st:St) (dst:Option Nat) (x:AV):St:=
 match dst with
 | none=>st
 | some d=>{ st with slots:=st.slots.set d x }

def smallI (n:Int):Bool:=decide (-9223372036854775808≤n) && decide (n≤9223372036854775807)

def constAV:Value→Option AV
 | .int .i64 n=>match smallI n with|true=>some (.v (.one (.i n)))|false=>none
 | .int .u8 n=>match decide (0≤n) && decide (n<256) with|true=>some (.v (.one (.u (UInt8.ofNat n.toNat))))|false=>none
 | .bool b=>some (.v (.one (.b b)))
 | .string s=>match Nat.ble s.data.toList.length 140737488355328 with|true=>some (.v (.one (.s s.data.toList)))|false=>none
 | .slice none 0 0=>some (.v (.one .nil))
 | .pointer none=>some .top
 | _=>none

def opnd (st:St):Operand→Option AV
 | .tmp t=>st.slots[t]?
 | .const v=>constAV v
 | .func f=>some (.v (.one (.fn f [])))
 | .global _=>none

def opL (st:St) (x:Operand):Option Leaf:=match opnd st x with|some (.v (.one l))=>some l|_=>none
def opLs (st:St) (x:Operand):Option (List Leaf):=match opnd st x with|some (.v (.one l))=>some [l]|some (.v (.agg ls))=>some ls|_=>none

def optL (st:St):Option Operand→Option (Option Leaf)
 | none=>some none
 | some y=>match opL st y with|some l=>some (some l)|none=>none

def bnd (m:Int):Option Leaf→Option Int
 | none=>some m
 | some (.i a)=>some a
 | _=>none

def mkV (t:Ty) (ls:List Leaf):Option V1:=
 match t.isPair with
 | true=>some (.agg ls)
 | false=>match ls with|[l]=>some (.one l)|_=>none

def zeroL:Ty→List Leaf
 | .i64=>[.i 0] | .u8=>[.u 0] | .bool=>[.b false] | .str=>[.s []] | .sl _ _=>[.nil]
 | .pair a b=>zeroL a++zeroL b

def spread (k:Kind) (lvl:Nat):(t:Ty)→den t→Nat→List Leaf×List (Nat×Ent)×Nat
 | .i64,n,j=>([.i n],[],j)
 | .u8,n,j=>([.u n],[],j)
 | .bool,n,j=>([.b n],[],j)
 | .str,n,j=>([.s n],[],j)
 | .sl E e,xs,j=>([.sl j],[(j,.arr k lvl E e xs)],j+1)
 | .pair a b,v,j=>
  match spread k lvl a v.1 j with
  | (l1,t1,j1)=>match spread k lvl b v.2 j1 with
   | (l2,t2,j2)=>(l1++l2,t1++t2,j2)

def castL (e e':Ty) (xs:List (den e)):Option (List (den e')):=if h:e=e' then some (h▸xs) else none

def castE (E E':Nat) (e e':Ty) (xs:List (den e)):Option (List (den e')):=match Nat.beq E E' with|true=>castL e e' xs|false=>none

def collect (tab:List (Nat×Ent)):(t:Ty)→List Leaf→Option (den t×List Leaf)
 | .i64,.i n::r=>some (n,r)
 | .u8,.u n::r=>some (n,r)
 | .bool,.b n::r=>some (n,r)
 | .str,.s n::r=>some (n,r)
 | .sl _ _,.nil::r=>some ([],r)
 | .sl E e,.sl id::r=>match look tab id with
  | some (.arr _ _ E' e' xs)=>match castE E' E e' e xs with|some ys=>some (ys,r)|none=>none
  | _=>none
 | .pair a b,ls=>match collect tab a ls with
  | some (x,r)=>match collect tab b r with|some (y,r')=>some ((x,y),r')|none=>none
  | none=>none
 | _,_=>none

def collect1 (tab:List (Nat×Ent)) (t:Ty) (ls:List Leaf):Option (den t):=
 match collect tab t ls with|some (x,[])=>some x|_=>none

def part:(e:Ty)→den e→(off:Nat)→(t:Ty)→Option (den t)
 | .pair a b,v,off,t=>
  if h:off=0∧Ty.pair a b=t then some (h.2▸v)
  else if off<a.size then part a v.1 off t else part b v.2 (off - a.size) t
 | e,v,off,t=>if h:off=0∧e=t then some (h.2▸v) else none

def setPart:(e:Ty)→den e→(off:Nat)→(t:Ty)→den t→Option (den e)
 | .pair a b,v,off,t,x=>
  if h:off=0∧t=Ty.pair a b then some (h.2▸x)
  else if off<a.size then match setPart a v.1 off t x with|some y=>some (y,v.2)|none=>none
  else match setPart b v.2 (off - a.size) t x with|some y=>some (v.1,y)|none=>none
 | e,_,off,t,x=>if h:off=0∧t=e then some (h.2▸x) else none

def setPartF:(e:Ty)→(off:Nat)→(t:Ty)→Option (den t→den e→den e)
 | .pair a b,off,t=>
  if h:off=0∧t=Ty.pair a b then some (fun x _=>h.2▸x)
  else if off<a.size then match setPartF a off t with|some g=>some (fun x v=>(g x v.1,v.2))|none=>none
  else match setPartF b (off - a.size) t with|some g=>some (fun x v=>(v.1,g x v.2))|none=>none
 | e,off,t=>if h:off=0∧t=e then some (fun x _=>h.2▸x) else none

def modi (e:Ty) (xs:List (den e)) (i:Nat) (g:den e→den e):List (den e):=xs.set i (g (rd e xs i))

def setAtF (e:Ty) (off:Nat) (t:Ty):Option (List (den e)→Nat→den t→List (den e)):=
 if h:off=0∧t=e then some (fun xs i x=>xs.set i (h.2▸x))
 else match setPartF e off t with
  | some g=>some (fun xs i x=>modi e xs i (g x))
  | none=>none

def setRange:List Leaf→Nat→List Leaf→List Leaf
 | ls,off,xs=>ls.take off++xs++ls.drop (off+xs.length)

def given (st:St):List Leaf→Option (List Nat)
 | []=>some []
 | .sl id::r=>match look st.tab id with
  | some (.arr (.own true) lvl _ _ _)=>match Nat.beq lvl st.lvl with
   | true=>match given st r with
    | some ids=>match ids.elem id with|true=>none|false=>some (id::ids)
    | none=>none
   | false=>none
  | _=>none
 | .i _::r | .u _::r | .b _::r | .s _::r | .nil::r=>given st r
 | _::_=>none

def givenO (st:St):List Leaf→Option (List Nat)
 | []=>some []
 | .sl id::r=>match look st.tab id with
  | some (.arr (.own _) lvl _ _ _)=>match Nat.beq lvl st.lvl with
   | true=>match givenO st r with
    | some ids=>match ids.elem id with|true=>none|false=>some (id::ids)
    | none=>none
   | false=>none
  | _=>none
 | .i _::r | .u _::r | .b _::r | .s _::r | .nil::r=>givenO st r
 | _::_=>none

def steady (st:St):List Leaf→Bool
 | []=>true
 | .sl id::r=>match look st.tab id with
  | some (.arr (.imm false) _ _ _ _)=>steady st r
  | _=>false
 | .i _::r | .u _::r | .b _::r | .s _::r | .nil::r=>steady st r
 | _::_=>false

def eraseAll (tab:List (Nat×Ent)):List Nat→List (Nat×Ent)
 | []=>tab
 | i::r=>eraseAll (erase tab i) r

def takeIn (st:St) (u:Bool) (ls:List Leaf):Option (Bool×List (Nat×Ent)):=
 match u with
 | true=>match given st ls with
  | some ids=>some (true,eraseAll st.tab ids)
  | none=>none
 | false=>match steady st ls with
  | true=>some (false,st.tab)
  | false=>none

def eqLs:List Leaf→List Leaf→Option Bool
 | [],[]=>some true
 | .i a::r,.i b::s=>match eqLs r s with|some z=>some ((a==b) && z)|none=>none
 | .u a::r,.u b::s=>match eqLs r s with|some z=>some ((a==b) && z)|none=>none
 | .b a::r,.b b::s=>match eqLs r s with|some z=>some ((a==b) && z)|none=>none
 | .s a::r,.s b::s=>match eqLs r s with|some z=>some ((a==b) && z)|none=>none
 | _,_=>none

def evBin {R:Type} (op:BinOp) (x y:AV) (k:Leaf→Option R):Option R:=
 match x,y with
 | .v (.one (.i a)),.v (.one (.i b))=>
  match op with
  | .add=>k (.i (wr (a+b)))
  | .sub=>k (.i (wr (a - b)))
  | .mul=>k (.i (wr (a*b)))
  | .quo=>if b=0 then none else k (.i (wr (a.tdiv b)))
  | .rem=>if b=0 then none else k (.i (a.tmod b))
  | .and=>k (.i (band a b))
  | .or=>k (.i (bor a b))
  | .xor=>k (.i (bxor a b))
  | .shl=>if b<0 then none else k (.i (shl a b))
  | .shr=>if b<0 then none else k (.i (shr a b))
  | .eql=>k (.b (a==b)) | .neq=>k (.b (a != b)) | .lss=>k (.b (decide (a<b))) | .leq=>k (.b (decide (a≤b)))
  | .gtr=>k (.b (decide (a>b))) | .geq=>k (.b (decide (a≥b)))
  | _=>none
 | .v (.one (.u a)),.v (.one (.u b))=>
  match op with
  | .add=>k (.u (a+b))
  | .sub=>k (.u (a - b))
  | .eql=>k (.b (a==b)) | .neq=>k (.b (a != b)) | .lss=>k (.b (decide (a<b))) | .leq=>k (.b (decide (a≤b)))
  | .gtr=>k (.b (decide (a>b))) | .geq=>k (.b (decide (a≥b)))
  | _=>none
 | .v (.one (.b a)),.v (.one (.b b))=>
  match op with
  | .eql=>k (.b (a==b)) | .neq=>k (.b (a != b))
  | _=>none
 | .v (.one (.s a)),.v (.one (.s b))=>
  match op with
  | .add=>if a.length+b.length≤140737488355328 then k (.s (a++b)) else none
  | .eql=>k (.b (a==b)) | .neq=>k (.b (a != b))
  | .lss=>k (.b (Op.bytesLess a b))
  | .leq=>k (.b (Op.bytesLess a b || a==b))
  | .gtr=>k (.b (!(Op.bytesLess a b || a==b)))
  | .geq=>k (.b (!Op.bytesLess a b))
  | _=>none
 | .v (.agg a),.v (.agg b)=>
  match op,eqLs a b with
  | .eql,some z=>k (.b z)
  | .neq,some z=>k (.b (!z))
  | _,_=>none
 | _,_=>none

def leafTy:Ty→Leaf→Bool
 | .i64,.i _=>true
 | .u8,.u _=>true
 | .bool,.b _=>true
 | .str,.s _=>true
 | _,_=>false

def flatLs:Ty→List Leaf→Bool
 | .pair a b,l::r=>leafTy a l && flatLs b r
 | t,[l]=>leafTy t l
 | _,_=>false

def eqT (E:Env) (T:Nat):AV→Bool
 | .v (.one (.b _))=>match lk E.tys T with|some { ty:=.bool,.. }=>true|_=>false
 | .v (.agg ls)=>E.eqs.elem T && (match lk E.tys T with|some d=>flatLs d.ty ls|none=>false)
 | _=>true

def evConv {R:Type} (td ts:Ty) (st:St) (x:Leaf) (k:Leaf→List (Nat×Ent)→Nat→Option R):Option R:=
 match ts,td,x with
 | .i64,.u8,.i n=>k (.u (toB n)) st.tab st.nxt
 | .u8,.i64,.u n=>k (.i (n.toNat:Int)) st.tab st.nxt
 | .i64,.i64,.i n=>k (.i n) st.tab st.nxt
 | .u8,.u8,.u n=>k (.u n) st.tab st.nxt
 | .str,.str,.s l=>k (.s l) st.tab st.nxt
 | .str,.sl E .u8,.s l=>k (.sl st.nxt) ((st.nxt,.arr (.imm false) st.lvl E .u8 l)::st.tab) (st.nxt+1)
 | .sl _ .u8,.str,.nil=>k (.s []) st.tab st.nxt
 | .sl _ .u8,.str,.sl id=>match look st.tab id with
  | some (.arr _ _ _ .u8 xs)=>k (.s xs) st.tab st.nxt
  | _=>none
 | _,_,_=>none

def fillL (E:Env) (flds:List (Nat×Nat)) (st:St):List (Nat×Operand)→List Leaf→Option (List Leaf)
 | [],ls=>some ls
 | (i,x)::r,ls=>match flds[i]? with
  | some (off,ft)=>match lk E.tys ft,opLs st x with
   | some d,some xs=>match Nat.beq xs.length d.ty.size && Nat.ble (off+xs.length) ls.length with
    | true=>fillL E flds st r (setRange ls off xs)
    | false=>none
   | _,_=>none
  | none=>none

def elemsL (st:St) (e:Ty):Nat→List (Nat×Operand)→Option (List (den e)×List Leaf)
 | _,[]=>some ([],[])
 | n,(i,x)::r=>match Nat.beq i n,opLs st x with
  | true,some ls=>match collect1 st.tab e ls with
   | some v=>match elemsL st e (n+1) r with
    | some (vs,ls')=>some (v::vs,ls++ls')
    | none=>none
   | none=>none
  | _,_=>none

def avT (t:Ty):AV→Option (List Leaf)
 | .v (.one l)=>match t.isPair with|false=>some [l]|true=>none
 | .v (.agg ls)=>match t.isPair with|true=>some ls|false=>none
 | _=>none

def slIds:List Leaf→List Nat
 | []=>[]
 | .sl id::r=>id::slIds r
 | _::r=>slIds r

structure Given (ps:List (PK×Ty)) where
 vs:argT ps
 rl:List Leaf
 ol:List Leaf
 pl:List Leaf
 pids:List Nat
 cids:List Nat

def cellsOf (st:St) (id:Nat):Option (List Leaf):=match look st.tab id with
 | some (.box _ cells)=>some cells
 | some (.cst cells)=>some cells
 | _=>none

def argsOf (st:St):(ps:List (PK×Ty))→List AV→Option (Given ps)
 | [],[]=>some ⟨(),[],[],[],[],[]⟩
 | (.rd,t)::ps,x::xs=>match avT t x with
  | some ls=>match collect1 st.tab t ls,argsOf st ps xs with
   | some v,some g=>some ⟨(v,g.vs),ls++g.rl,g.ol,g.pl,g.pids,g.cids⟩
   | _,_=>none
  | none=>none
 | (.own,t)::ps,x::xs=>match avT t x with
  | some ls=>match collect1 st.tab t ls,argsOf st ps xs with
   | some v,some g=>some ⟨(v,g.vs),g.rl,ls++g.ol,g.pl,g.pids,g.cids⟩
   | _,_=>none
  | none=>none
 | (.ptr,t)::ps,x::xs=>match x with
  | .v (.one (.ptr id 0))=>match look st.tab id with
   | some (.box lvl cells)=>match Nat.beq lvl st.lvl,collect1 st.tab t cells,argsOf st ps xs with
    | true,some v,some g=>some ⟨(v,g.vs),g.rl,g.ol,cells++g.pl,id::g.pids,g.cids⟩
    | _,_,_=>none
   | _=>none
  | _=>none
 | (.cap,t)::ps,x::xs=>match x with
  | .v (.one (.ptr id 0))=>match cellsOf st id with
   | some cells=>match collect1 st.tab t cells,argsOf st ps xs with
    | some v,some g=>some ⟨(v,g.vs),cells++g.rl,g.ol,g.pl,g.pids,id::g.cids⟩
    | _,_=>none
   | _=>none
  | _=>none
 | (.clo f,t)::ps,x::xs=>match x with
  | .v (.one (.fn h [id]))=>match cellsOf st id with
   | some cells=>match Nat.beq h f,collect1 st.tab t cells,argsOf st ps xs with
    | true,some v,some g=>some ⟨(v,g.vs),cells++g.rl,g.ol,g.pl,g.pids,id::g.cids⟩
    | _,_,_=>none
   | _=>none
  | _=>none
 | _,_=>none

def disj (a b:List Nat):Bool:=a.all fun x => !(b.elem x)

def nodupB:List Nat→Bool
 | []=>true
 | x::xs => !(xs.elem x) && nodupB xs

def mixLs:(t:Ty)→den t→List Leaf→List Leaf×List Leaf
 | .i64,n,_::r=>([.i n],r)
 | .u8,n,_::r=>([.u n],r)
 | .bool,n,_::r=>([.b n],r)
 | .str,n,_::r=>([.s n],r)
 | .sl _ _,_,l::r=>([l],r)
 | .pair a b,v,ls=>match mixLs a v.1 ls with
  | (x,r)=>match mixLs b v.2 r with
   | (y,r')=>(x++y,r')
 | _,_,[]=>([],[])

def Leaf.isSl:Leaf→Bool
 | .sl _=>true
 | .nil=>true
 | _=>false

def slEq:List Leaf→List Leaf→Bool
 | [],[]=>true
 | .sl i::r,.sl j::s=>Nat.beq i j && slEq r s
 | .nil::r,.nil::s=>slEq r s
 | x::r,y::s => !x.isSl && !y.isSl && slEq r s
 | _,_=>false

def putBack (rets:List Ty) (lvl:Nat):(ps:List (PK×Ty))→List Nat→outT ps rets→List (Nat×Ent)→Nat→Option (List (Nat×Ent)×Nat×dens rets)
 | [],_,v,tab,j=>some (tab,j,v)
 | (.ptr,t)::ps,ids,v,tab,j=>match ids with
  | id::ids=>match look tab id with
   | some (.box _ cells)=>putBack rets lvl ps ids v.2 (setE tab id (.box lvl (mixLs t v.1 cells).1)) j
   | _=>none
  | []=>none
 | (.rd,_)::ps,ids,v,tab,j=>putBack rets lvl ps ids v tab j
 | (.own,_)::ps,ids,v,tab,j=>putBack rets lvl ps ids v tab j
 | (.cap,_)::ps,ids,v,tab,j=>putBack rets lvl ps ids v tab j
 | (.clo _,_)::ps,ids,v,tab,j=>putBack rets lvl ps ids v tab j

def retsOf (k:Kind) (lvl:Nat):(ts:List Ty)→dens ts→Nat→Option (List V1×List (Nat×Ent)×Nat)
 | [],_,j=>some ([],[],j)
 | t::ts,v,j=>match spread k lvl t v.1 j with
  | (ls,es,j')=>match mkV t ls,retsOf k lvl ts v.2 j' with
   | some x,some (xs,es',j'')=>some (x::xs,es++es',j'')
   | _,_=>none

def RK.kind:RK→Kind
 | .uniq=>.own true
 | .own=>.own false
 | .shared=>.imm false

def RK.isUniq:RK→Bool
 | .uniq=>true
 | _=>false

def mayCall (st:St) {ps:List (PK×Ty)} (g:Given ps) (rk:RK) (oids:List Nat):Bool:=
 steady st g.pl && nodupB g.pids && disj oids (slIds g.rl) && disj g.pids g.cids && (rk.isUniq || (steady st g.rl && g.cids.isEmpty))

def resAV:List V1→AV
 | [x]=>.v x
 | xs=>.tup xs

def PK.isRd:PK→Bool
 | .rd=>true
 | _=>false

def evNew {R:Type} (nf:NF) (args:List AV) (dst:Option Nat) (st:St) (k:St→Option R):Option R:=
 match argsOf st nf.params args with
 | none=>none
 | some g=>match (nf.params.all fun p=>p.1.isRd) && steady st g.rl with
  | false=>none
  | true=>(nf.fn g.vs).bind fun v=>match spread (.imm false) st.lvl nf.ret v (st.nxt+1) with
   | (ls,es,j)=>k (St.put { st with tab:=es++(st.nxt,.box st.lvl ls)::st.tab,nxt:=j } dst (.v (.one (.ptr st.nxt 0))))

def retsPart (rets:List Ty):(ps:List (PK×Ty))→outT ps rets→dens rets
 | [],v=>v
 | (.ptr,_)::ps,v=>retsPart rets ps v.2
 | (.rd,_)::ps,v=>retsPart rets ps v
 | (.own,_)::ps,v=>retsPart rets ps v
 | (.cap,_)::ps,v=>retsPart rets ps v
 | (.clo _,_)::ps,v=>retsPart rets ps v

def lastB:(ts:List Ty)→dens ts→Option Bool
 | [],_=>none
 | [.bool],v=>some v.1
 | _::ts,v=>lastB ts v.2

def setLast (b:Bool):List V1→List V1
 | []=>[]
 | [_]=>[.one (.b b)]
 | x::r=>x::setLast b r

def anyV (t:Ty):V1:=if t.isPair then .agg (List.replicate t.size .any) else .one .any

def anyLast (b:Bool):List Ty→List V1
 | []=>[]
 | [_]=>[.one (.b b)]
 | t::ts=>anyV t::anyLast b ts

def PK.isRo:PK→Bool
 | .rd=>true
 | .own=>true
 | _=>false

def evCond {R:Type} (cf:PF) (args:List AV) (dst:Option Nat) (st:St) (k:St→Option R):Option R:=
 match argsOf st cf.params args with
 | none=>none
 | some g=>match givenO st g.ol with
  | none=>none
  | some oids=>match mayCall st g cf.rk oids && (cf.params.all fun p=>p.1.isRo) with
   | false=>none
   | true=>(cf.fn g.vs).bind fun outs=>match lastB cf.rets (retsPart cf.rets cf.params outs) with
    | none=>none
    | some b=>bif b
     then (match putBack cf.rets st.lvl cf.params g.pids outs (eraseAll st.tab oids) st.nxt with
      | none=>none
      | some (tab,j,rs)=>match retsOf cf.rk.kind st.lvl cf.rets rs j with
       | none=>none
       | some (xs,es,j')=>k (St.put { st with tab:=es++tab,nxt:=j' } dst (resAV (setLast true xs))))
     else k (st.put dst (resAV (anyLast false cf.rets)))

def joinPs:List (PK×Ty)→Bool
 | []=>true
 | (.own,_)::r=>joinPs r
 | (.rd,t)::r => !t.hasSl && joinPs r
 | _=>false

def oneRow:List Ty→Bool
 | [.sl _ _]=>true
 | _=>false

def evJoin {R:Type} (cf:PF) (args:List AV) (dst:Option Nat) (st:St) (k:St→Option R):Option R:=
 match argsOf st cf.params args with
 | none=>none
 | some g=>match given st g.ol with
  | none=>none
  | some oids=>match joinPs cf.params && oneRow cf.rets with
   | false=>none
   | true=>(cf.fn g.vs).bind fun outs=>match retsOf (.own true) st.lvl cf.rets (retsPart cf.rets cf.params outs) st.nxt with
    | none=>none
    | some (xs,es,j)=>k (St.put { st with tab:=es++eraseAll st.tab oids,nxt:=j } dst (resAV xs))

def evCallPf {R:Type} (pf:PF) (args:List AV) (dst:Option Nat) (st:St) (k:St→Option R):Option R:=
 match argsOf st pf.params args with
 | none=>none
 | some g=>match givenO st g.ol with
  | none=>none
  | some oids=>match mayCall st g pf.rk oids with
   | false=>none
   | true=>(pf.fn g.vs).bind fun outs=>
    match putBack pf.rets st.lvl pf.params g.pids outs (eraseAll st.tab oids) st.nxt with
    | none=>none
    | some (tab,j,rs)=>match retsOf pf.rk.kind st.lvl pf.rets rs j with
     | none=>none
     | some (xs,es,j')=>k (St.put { st with tab:=es++tab,nxt:=j' } dst (resAV xs))

def altAV:(ts:List Ty)→dens ts→Option AV
 | [t,.i64],v=>some (.tup [anyV t,.one (.i v.2.1)])
 | _,_=>none

def altGo:(ts:List Ty)→dens ts→Bool
 | [_,.i64],v=>v.2.1 != 0
 | _,_=>false

def hasP {α:Type} (o:Option α) (p:α→Bool):Bool:=match o with
 | some v=>p v
 | none=>false

def has {α:Type} (o:Option (α×Int×Unit)):Bool:=hasP o fun v=>v.2.1 != 0

def evAlt {R:Type} (qf:PF) (args:List AV) (dst:Option Nat) (st:St) (k:St→Option R) (oth:Option R):Option R:=
 match argsOf st qf.params args with
 | none=>none
 | some g=>match qf.params.all fun p=>p.1.isRd with
  | false=>none
  | true=>bif hasP (qf.fn g.vs) (fun outs=>altGo qf.rets (retsPart qf.rets qf.params outs))
   then ((qf.fn g.vs).bind fun outs=>match altAV qf.rets (retsPart qf.rets qf.params outs) with
    | none=>none
    | some v=>k (st.put dst v))
   else oth

def evCall {R:Type} (E:Env) (f:Nat) (args:List AV) (dst:Option Nat) (st:St) (k:St→Option R):Option R:=
 match lk E.fns f with
 | none=>match lk E.news f with
  | none=>match lk E.conds f with
   | none=>match lk E.joins f with
    | none=>none
    | some cf=>evJoin cf args dst st k
   | some cf=>evCond cf args dst st k
  | some nf=>evNew nf args dst st k
 | some pf=>match lk E.alts f with
  | none=>evCallPf pf args dst st k
  | some qf=>evAlt qf args dst st k (evCallPf pf args dst st k)

def opnds (st:St):List Operand→Option (List AV)
 | []=>some []
 | x::xs=>match opnd st x,opnds st xs with
  | some a,some as=>some (a::as)
  | _,_=>none

def kindOf (k:Kind):Kind:=match k with | .imm t=>.imm t | .own true=>.imm true | .own false=>.imm false | .lent=>.imm true

def evLoad {R:Type} (t:Ty) (p:Leaf) (st:St) (k:V1→St→Option R):Option R:=
 match p with
 | .ptr id off=>match look st.tab id with
  | some (.box _ cells)=>match Nat.ble (off+t.size) cells.length,mkV t ((cells.drop off).take t.size) with
   | true,some x=>k x st
   | _,_=>none
  | some (.cst cells)=>match Nat.ble (off+t.size) cells.length,mkV t ((cells.drop off).take t.size) with
   | true,some x=>k x st
   | _,_=>none
  | _=>none
 | .ep id ix esz off=>match look st.tab id with
  | some (.arr kd _ _ e xs)=>match Nat.beq e.size esz,part e (rd e xs ix) off t with
   | true,some v=>match spread (kindOf kd) st.lvl t v st.nxt with
    | (ls,es,j)=>match mkV t ls with
     | some x=>k x { st with tab:=es++st.tab,nxt:=j }
     | none=>none
   | _,_=>none
  | _=>none
 | _=>none

def evStore (t:Ty) (p:Leaf) (ls:List Leaf) (st:St):Option St:=
 match p with
 | .ptr id off=>match look st.tab id with
  | some (.box lvl cells)=>match Nat.beq lvl st.lvl && Nat.beq ls.length t.size && Nat.ble (off+t.size) cells.length with
   | true=>some { st with tab:=setE st.tab id (.box lvl (setRange cells off ls))}
   | false=>none
  | _=>none
 | .ep id ix esz off=>match look st.tab id with
  | some (.arr (.own u) lvl E e xs)=>match Nat.beq lvl st.lvl && Nat.beq e.size esz,collect1 st.tab t ls with
   | true,some v=>match setAtF e off t,takeIn st (u && e.hasSl) ls with
    | some F,some (_,tab)=>match look tab id with
     | some _=>some { st with tab:=setE tab id (.arr (.own u) lvl E e (F xs ix v))}
     | none=>none
    | _,_=>none
   | _,_=>none
  | _=>none
 | _=>none

def roomOf (E:Env) (T:Nat):Nat:=match lk E.tys T with|some d=>d.bytes|none=>0

def appended (st:St) (e:Ty) (u:Bool) (x:Leaf):Option (List (den e)×Bool×List (Nat×Ent)):=
 match x with
 | .nil=>some ([],u,st.tab)
 | .s l=>match e with | .u8=>some (l,u,st.tab)|_=>none
 | .sl id=>match look st.tab id with
  | some (.arr kd lvl _ e' xs)=>match castL e' e xs with
   | none=>none
   | some ys=>match e.hasSl with
    | false=>some (ys,u,st.tab)
    | true=>match kd with
     | .own true=>match Nat.beq lvl st.lvl with
      | true=>some (ys,u,erase st.tab id)
      | false=>none
     | .imm false=>some (ys,false,st.tab)
     | .own false=>some (ys,false,st.tab)
     | .imm true=>none
     | .lent=>none
  | _=>none
 | _=>none

def appT (E:Env) (T:Nat):Bool:=match lk E.tys T with
 | some { ty:=.sl _ _,arr:=none,.. }=>true
 | some { ty:=.str,.. }=>true
 | _=>false

def evAppend {R:Type} (E:Env) (T:Nat) (s x:Leaf) (dst:Option Nat) (st:St) (k:St→Option R):Option R:=
 match lk E.tys T with
 | some { ty:=.sl ET e,arr:=none,.. }=>match s with
  | .nil=>match appended st e (match x with | .sl id=>(match look st.tab id with|some (.arr (.own true) _ _ _ _)=>true|some (.arr _ _ _ e _) => !e.hasSl|_=>true)|_=>true) x with
   | some (ys,u,tab)=>if ys.length*roomOf E ET≤70368744177664 then
     k (St.put { st with tab:=(st.nxt,.arr (.own u) st.lvl ET e ys)::tab,nxt:=st.nxt+1 } dst (.v (.one (.sl st.nxt)))) else none
   | none=>none
  | .sl id=>match look st.tab id with
   | some (.arr (.own u0) lvl E0 e' xs0)=>match castE E0 ET e' e xs0,Nat.beq lvl st.lvl with
    | some xs,true=>match appended st e u0 x with
     | some (ys,u,tab)=>match look tab id,(match x with | .sl i=>Nat.beq i id|_=>false) with
      | some _,false=>if (xs.length+ys.length)*roomOf E ET≤70368744177664 then
        k (St.put { st with tab:=(st.nxt,.arr (.own u) st.lvl ET e (xs++ys))::erase tab id,nxt:=st.nxt+1 } dst (.v (.one (.sl st.nxt)))) else none
      | _,_=>none
     | none=>none
    | _,_=>none
   | _=>none
  | _=>none
 | _=>none

def lenL (st:St):Leaf→Option Int
 | .nil=>some 0
 | .s l=>some (l.length:Int)
 | .sl id=>match look st.tab id with
  | some (.arr _ _ _ _ xs)=>some (xs.length:Int)
  | _=>none
 | _=>none

def lenT (E:Env) (T:Nat) (l:Leaf):Bool:=match lk E.tys T,l with
 | some { ty:=.str,arr:=none,.. },.s _=>true
 | some { ty:=.sl _ _,arr:=none,.. },.nil=>true
 | some { ty:=.sl _ _,arr:=none,.. },.sl _=>true
 | _,_=>false

def evSlice {R:Type} (T:Ty) (x:Leaf) (lo hi:Option Leaf) (st:St) (k:Leaf→St→Option R):Option R:=
 match x,T,bnd 0 lo with
 | .s l,.str,some a=>match bnd (l.length:Int) hi with
  | some b=>if 0≤a∧a≤b∧b≤(l.length:Int) then k (.s ((l.drop a.toNat).take (b.toNat - a.toNat))) st else none
  | none=>none
 | .nil,.sl _ _,some a=>match bnd 0 hi with
  | some b=>if 0≤a∧a≤b∧b≤(0:Int) then k .nil st else none
  | none=>none
 | .sl id,.sl _ e',some a=>match look st.tab id with
  | some (.arr kd lvl E e xs)=>match bnd (xs.length:Int) hi,decide (e=e') with
   | some b,true=>if 0≤a∧a≤b∧b≤(xs.length:Int) then
     match kd,lo with
     | .imm t,lo=>match lo.isSome && Nat.beq e.size 18 with
      | true=>none
      | false=>k (.sl st.nxt) { st with tab:=(st.nxt,.arr (.imm t) st.lvl E e ((xs.drop a.toNat).take (b.toNat - a.toNat)))::st.tab,nxt:=st.nxt+1 }
     | .own u,none=>match Nat.beq lvl st.lvl with
      | true=>k (.sl st.nxt) { st with tab:=(st.nxt,.arr (.own u) st.lvl E e (xs.take b.toNat))::erase st.tab id,nxt:=st.nxt+1 }
      | false=>none
     | .own _,some _=>match Nat.beq lvl st.lvl && !Nat.beq e.size 18 with
      | true=>k (.sl st.nxt) { st with tab:=(st.nxt,.arr (.imm false) st.lvl E e ((xs.drop a.toNat).take (b.toNat - a.toNat)))::erase st.tab id,nxt:=st.nxt+1 }
      | false=>none
     | _,_=>none
    else none
   | _,_=>none
  | _=>none
 | _,_,_=>none

def shiftC:BinOp→Operand→Option Int
 | .shl,.const (.int .u64 n)=>match decide (0≤n) with|true=>some n|false=>none
 | .shr,.const (.int .u64 n)=>match decide (0≤n) with|true=>some n|false=>none
 | _,_=>none

def shiftBy (op:BinOp) (a n:Int):Int:=match op with | .shl=>shl a n|_=>shr a n

def evOp0 {R:Type} (E:Env) (o:Oper) (st:St) (k:St→Option R):Option R:=
 match o.op with
 | .move x | .assign x=>match opnd st x with|some v=>k (st.put o.dst v)|none=>none
 | .pick c a b=>match opL st c with
  | some (.b x)=>bif x
   then (match opnd st a with|some v=>k (st.put o.dst v)|none=>none)
   else (match opnd st b with|some v=>k (st.put o.dst v)|none=>none)
  | _=>none
 | .alloc T=>match lk E.tys T with
  | some { ty:=.sl ET e,arr:=some n,.. }=>match Nat.ble n 140737488355328 with
   | true=>k (St.put { st with tab:=(st.nxt,.arr (.own true) st.lvl ET e (List.replicate n (dflt e)))::st.tab,nxt:=st.nxt+1 } o.dst (.v (.one (.ap st.nxt))))
   | false=>none
  | some d=>match d.arr with
   | some _=>none
   | none=>k (St.put { st with tab:=(st.nxt,.box st.lvl (zeroL d.ty))::st.tab,nxt:=st.nxt+1 } o.dst (.v (.one (.ptr st.nxt 0))))
  | none=>none
 | .box T x=>match lk E.tys T,opLs st x with
  | some _,some ls=>k (St.put { st with tab:=(st.nxt,.box st.lvl ls)::st.tab,nxt:=st.nxt+1 } o.dst (.v (.one (.ptr st.nxt 0))))
  | _,_=>none
 | .build T ps=>match lk E.tys T with
  | some d=>match d.ty.isPair,fillL E d.flds st ps.toList (zeroL d.ty) with
   | true,some ls=>k (st.put o.dst (.v (.agg ls)))
   | _,_=>none
  | none=>none
 | .buildSlice T n ps=>match lk E.tys T with
  | some { ty:=.sl ET e,arr:=none,.. }=>match elemsL st e 0 ps.toList,Nat.beq ps.toList.length n && Nat.ble (n*e.size) 16777216 with
   | some (vs,ls),true=>match takeIn st (match given st ls with|some _=>true|none => !e.hasSl) ls with
    | some (u,tab)=>k (St.put { st with tab:=(st.nxt,.arr (.own u) st.lvl ET e vs)::tab,nxt:=st.nxt+1 } o.dst (.v (.one (.sl st.nxt))))
    | none=>none
   | _,_=>none
  | _=>none
 | .load T a=>match lk E.tys T,opL st a with
  | some d,some p=>match d.arr with
   | none=>evLoad d.ty p st fun x st'=>k (st'.put o.dst (.v x))
   | some _=>none
  | _,_=>none
 | .store T a x=>match lk E.tys T,opL st a,opLs st x with
  | some d,some p,some ls=>match d.arr,evStore d.ty p ls st with
   | none,some st'=>k (st'.put o.dst (.tup []))
   | _,_=>none
  | _,_,_=>none
 | .nilCheck x=>match opL st x with
  | some (.ptr id off)=>k (st.put o.dst (.v (.one (.ptr id off))))
  | some (.ep id ix esz off)=>k (st.put o.dst (.v (.one (.ep id ix esz off))))
  | some (.ap id)=>k (st.put o.dst (.v (.one (.ap id))))
  | _=>none
 | .binOp op T x y _=>match shiftC op y with
  | some n=>match opL st x with
   | some (.i a)=>k (st.put o.dst (.v (.one (.i (shiftBy op a n)))))
   | _=>none
  | none=>match opnd st x,opnd st y with
   | some a,some b=>match eqT E T a with
    | true=>evBin op a b fun l=>k (st.put o.dst (.v (.one l)))
    | false=>none
   | _,_=>none
 | .unOp op _ x=>match op,opL st x with
  | .not,some (.b x)=>k (st.put o.dst (.v (.one (.b (!x)))))
  | .neg,some (.i n)=>k (st.put o.dst (.v (.one (.i (wr (0 - n))))))
  | _,_=>none
 | .convert s d x=>match lk E.tys s,lk E.tys d,opL st x with
  | some ds,some dd,some l=>match ds.arr,dd.arr with
   | none,none=>evConv dd.ty ds.ty st l fun l' tab j=>k (St.put { st with tab:=tab,nxt:=j } o.dst (.v (.one l')))
   | _,_=>none
  | _,_,_=>none
 | .makeFunc fn first caps=>match fn,first.toList,opnds st caps.toList with
  | .func f,[],some [.v (.one (.ptr id 0))]=>k (st.put o.dst (.v (.one (.fn f [id]))))
  | _,_,_=>none
 | .makeSlice T l c=>match lk E.tys T,opL st l,opL st c with
  | some { ty:=.sl ET e,arr:=none,.. },some (.i n),some (.i m)=>if n=m then (if 0≤n∧n.toNat*roomOf E ET≤70368744177664 then
    k (St.put { st with tab:=(st.nxt,.arr (.own true) st.lvl ET e (List.replicate n.toNat (dflt e)))::st.tab,nxt:=st.nxt+1 } o.dst (.v (.one (.sl st.nxt)))) else none) else none
  | _,_,_=>none
 | .slice T x lo hi none=>match lk E.tys T,opL st x,optL st lo,optL st hi with
  | some d,some l,some a,some b=>match d.arr with
   | none=>evSlice d.ty l a b st fun l' st'=>k (st'.put o.dst (.v (.one l')))
   | some _=>none
  | _,_,_,_=>none
 | .fieldAddr T x f=>match lk E.tys T,opL st x with
  | some d,some (.ptr id off)=>match d.flds[f]? with
   | some (fo,_)=>k (st.put o.dst (.v (.one (.ptr id (off+fo)))))
   | none=>none
  | some d,some (.ep id ix esz off)=>match d.flds[f]? with
   | some (fo,_)=>k (st.put o.dst (.v (.one (.ep id ix esz (off+fo)))))
   | none=>none
  | _,_=>none
 | .field T x f=>match lk E.tys T,opnd st x with
  | some d,some (.v (.agg ls))=>match d.flds[f]? with
   | some (fo,ft)=>match lk E.tys ft with
    | some fd=>match Nat.ble (fo+fd.ty.size) ls.length,mkV fd.ty ((ls.drop fo).take fd.ty.size) with
     | true,some x=>k (st.put o.dst (.v x))
     | _,_=>none
    | none=>none
   | none=>none
  | _,_=>none
 | .indexAddr T x ix=>match lk E.tys T,opL st x,opL st ix with
  | some { ty:=.sl _ e,arr:=some m,.. },some (.ap id),some (.i n)=>match look st.tab id with
   | some (.arr _ _ _ e' xs)=>match decide (e'=e) with
    | true=>if xs.length=m then (if 0≤n∧n<(m:Int) then k (st.put o.dst (.v (.one (.ep id n.toNat e.size 0)))) else none) else none
    | false=>none
   | _=>none
  | some { ty:=.sl _ e,arr:=none,.. },some (.sl id),some (.i n)=>match look st.tab id with
   | some (.arr _ _ _ e' xs)=>match decide (e'=e) with
    | true=>if 0≤n∧n<(xs.length:Int) then k (st.put o.dst (.v (.one (.ep id n.toNat e.size 0)))) else none
    | false=>none
   | _=>none
  | _,_,_=>none
 | .index T x ix=>match lk E.tys T,opL st x,opL st ix with
  | some { ty:=.str,arr:=none,.. },some (.s l),some (.i n)=>if 0≤n∧n<(l.length:Int) then k (st.put o.dst (.v (.one (.u (l.getD n.toNat 0))))) else none
  | _,_,_=>none
 | .extract t i=>match opnd st t with
  | some (.tup xs)=>match xs[i]? with
   | some x=>k (st.put o.dst (.v x))
   | none=>none
  | _=>none
 | .call c=>match c.callee with
  | .value f=>match opL st f,opnds st c.args.toList with
   | some (.fn f caps),some as=>evCall E f (as++caps.map fun id=>.v (.one (.ptr id 0))) o.dst st k
   | _,_=>none
  | .builtin .len=>match c.args.toList,c.argTypes.toList with
   | [x],[T]=>match opL st x with
    | some l=>match lenT E T l,lenL st l with
     | true,some n=>k (st.put o.dst (.v (.one (.i n))))
     | _,_=>none
    | none=>none
   | _,_=>none
  | .builtin .append=>match c.args.toList,c.argTypes.toList with
   | [s,x],[T,T2]=>match opL st s,opL st x,appT E T2 with
    | some a,some b,true=>evAppend E T a b o.dst st k
    | _,_,_=>none
   | _,_=>none
  | .builtin .max=>match c.args.toList with
   | [x,y]=>match opL st x,opL st y with
    | some (.i a),some (.i b)=>k (st.put o.dst (.v (.one (.i (mx a b)))))
    | _,_=>none
   | [x,y,z]=>match opL st x,opL st y,opL st z with
    | some (.i a),some (.i b),some (.i c)=>k (st.put o.dst (.v (.one (.i (mx (mx a b) c)))))
    | _,_,_=>none
   | _=>none
  | .builtin .min=>match c.args.toList with
   | [x,y]=>match opL st x,opL st y with
    | some (.i a),some (.i b)=>k (st.put o.dst (.v (.one (.i (mn a b)))))
    | _,_=>none
   | _=>none
  | _=>none
 | _=>none


def isOwnAt (st:St) (id:Nat):Bool:=match look st.tab id with
 | some (.arr (.own _) lvl _ _ _)=>Nat.beq lvl st.lvl
 | _=>false

def frzTab:List Nat→List (Nat×Ent)→List (Nat×Ent)
 | [],tab=>tab
 | id::r,tab=>match look tab id with
  | some (.arr (.own _) lvl E e xs)=>frzTab r (setE tab id (.arr (.imm false) lvl E e xs))
  | _=>frzTab r tab

def looseTab:List Nat→List (Nat×Ent)→List (Nat×Ent)
 | [],tab=>tab
 | id::r,tab=>match look tab id with
  | some (.arr (.own true) lvl E e xs)=>looseTab r (setE tab id (.arr (.own false) lvl E e xs))
  | _=>looseTab r tab

def partLs (st:St):List (Nat×Operand)→List Leaf
 | []=>[]
 | (_,x)::r=>match opLs st x with
  | some ls=>ls++partLs st r
  | none=>partLs st r

def toFrz (E:Env) (st:St) (o:Oper):List Nat×List Nat:=
 match o.op with
 | .store _ a x=>match opL st a with
  | some (.ep id _ _ _)=>match look st.tab id with
   | some (.arr (.own u) _ _ e _)=>match e.hasSl with
    | false=>([],[])
    | true=>match opLs st x with
     | none=>([],[])
     | some ls=>match u with
      | false=>((slIds ls).filter (isOwnAt st),[])
      | true=>match given st ls with
       | some _=>([],[])
       | none=>((slIds ls).filter (isOwnAt st),[id].filter (isOwnAt st))
   | _=>([],[])
  | _=>([],[])
 | .buildSlice T _ ps=>match lk E.tys T with
  | some { ty:=.sl _ e,.. }=>match e.hasSl with
   | false=>([],[])
   | true=>match E.hold,given st (partLs st ps.toList) with
    | false,some _=>([],[])
    | _,_=>((slIds (partLs st ps.toList)).filter (isOwnAt st),[])
  | _=>([],[])
 | .slice _ x _ _ _=>match E.frz with
  | false=>([],[])
  | true=>match opL st x with
   | some (.sl id)=>([id].filter (isOwnAt st),[])
   | _=>([],[])
 | .call c=>match c.callee with
  | .value f=>match opL st f with
   | some (.fn f caps)=>match (lk E.fns f).or (lk E.conds f) with
    | none=>([],[])
    | some pf=>match pf.rk.isUniq with
     | true=>([],[])
     | false=>match opnds st c.args.toList with
      | none=>([],[])
      | some as=>match argsOf st pf.params (as++caps.map fun id=>.v (.one (.ptr id 0))) with
       | some g=>((slIds g.rl).filter (isOwnAt st),[])
       | none=>([],[])
   | _=>([],[])
  | _=>([],[])
 | _=>([],[])

def preSt (st:St):List Nat×List Nat→St
 | ([],[])=>st
 | (a,b)=>{ st with tab:=looseTab b (frzTab a st.tab)}

def evOp {R:Type} (E:Env) (o:Oper) (st:St) (k:St→Option R):Option R:=evOp0 E o (preSt st (toFrz E st o)) k


def mentions (p:Nat):Ty→Bool
 | .sl E e=>Nat.beq E p || mentions p e
 | .pair a b=>mentions p a || mentions p b
 | _=>false

def clearE (p:Nat):Ent→Bool
 | .box _ _=>true
 | .cst _=>false
 | .arr _ _ E e _ => !Nat.beq E p && !mentions p e

def clearT (p h:Nat):List (Nat×Ent)→Bool
 | []=>true
 | (k,e)::r=>(Nat.beq k h || clearE p e) && clearT p h r

def findP (p:Nat):List (Nat×Ent)→Option Nat
 | []=>none
 | (k,.arr (.imm false) lvl E e xs)::r=>match Nat.beq E p with|true=>some k|false=>findP p r
 | _::r=>findP p r

def thawSt (p:Nat) (st:St):Option St:=match findP p st.tab with
 | none=>none
 | some h=>match look st.tab h with
  | some (.arr (.imm false) lvl E e xs)=>match Nat.beq E p && !mentions p e && Nat.beq lvl st.lvl && clearT p h st.tab with
   | true=>some { st with tab:=setE st.tab h (.arr (.own false) lvl E e xs)}
   | false=>none
  | _=>none

def thawOf (E:Env) (o:Oper):Option Nat:=match E.thaws with
 | []=>none
 | (f,p)::_=>match o.op with
  | .call c=>match c.callee with
   | .value (.func g)=>match Nat.beq f g with|true=>some p|false=>none
   | _=>none
  | _=>none

def evOpT {R:Type} (E:Env) (o:Oper) (st:St) (k:St→Option R):Option R:=match thawOf E o with
 | none=>evOp E o st k
 | some p=>evOp E o st fun st'=>(thawSt p st').bind k

def evReg {R:Type} (E:Env) (all:List Oper):List Oper→St→(St→Option R)→Option R
 | [],st,k=>k st
 | o::r,st,k=>match o.guard with
  | none=>evOpT E o st fun st'=>evReg E all r st' k
  | some (j,want)=>match (all[j]?).bind (·.dst) with
   | none=>none
   | some d=>match st.slots[d]? with
    | some (.v (.one (.b x)))=>bif x
     then (match want with
      | true=>evOp E o (st.put (some d) (.v (.one (.b true)))) fun st'=>evReg E all r st' k
      | false=>evReg E all r ((st.put (some d) (.v (.one (.b true)))).put o.dst (.tup [])) k)
     else (match want with
      | true=>evReg E all r ((st.put (some d) (.v (.one (.b false)))).put o.dst (.tup [])) k
      | false=>evOp E o (st.put (some d) (.v (.one (.b false)))) fun st'=>evReg E all r st' k)
    | some (.tup [])=>evReg E all r (st.put o.dst (.tup [])) k
    | _=>none

def Ent.upto (n:Nat):Ent→Bool
 | .box lvl _=>Nat.ble lvl n
 | .cst _=>true
 | .arr _ lvl _ _ _=>Nat.ble lvl n

def lvlOk (st:St):Bool:=st.tab.all fun x=>x.2.upto st.lvl

def lowerE (hi lo:Nat):Ent→Ent
 | .box lvl cs=>match Nat.beq lvl hi with|true=>.box lo cs|false=>.box lvl cs
 | .arr k lvl E e xs=>match Nat.beq lvl hi with|true=>.arr k lo E e xs|false=>.arr k lvl E e xs
 | .cst cs=>.cst cs

def Leaf.ids:Leaf→List Nat
 | .sl id=>[id]
 | .ptr id _=>[id]
 | .ep id _ _ _=>[id]
 | .fn _ caps=>caps
 | .ap id=>[id]
 | _=>[]

def idsL:List Leaf→List Nat
 | []=>[]
 | l::r=>l.ids++idsL r

def V1.ids:V1→List Nat
 | .one l=>l.ids
 | .agg ls=>idsL ls
 | .any=>[]

def idsV:List V1→List Nat
 | []=>[]
 | x::r=>x.ids++idsV r

def AV.ids:AV→List Nat
 | .top=>[]
 | .v x=>x.ids
 | .tup xs=>idsV xs

def Ent.ids:Ent→List Nat
 | .box _ cs=>idsL cs
 | .cst cs=>idsL cs
 | .arr .. => []

structure Rec where
 reach:List Nat
 wr:List Nat
 lo:Nat
 hi:Nat
 cf:List Nat

def cfOf (op:Op) (wr l m:List Nat):List Nat:=match wr,op with
 | [],.move _=>[]
 | [],.assign _=>[]
 | [],.fieldAddr _ _ _=>[]
 | [],.load _ _=>l
 | _,_=>l++m

def addL:List Nat→List Nat→List Nat
 | [],acc=>acc
 | x::r,acc=>match acc.elem x with
  | true=>addL r acc
  | false=>addL r (x::acc)

def ancOf (ancs:List (List Nat)):List Edge→List Nat
 | []=>[]
 | e::r=>match Region.binds .any e with
  | true=>match ancs[e.on]? with
   | some l=>addL (e.on::l) (ancOf ancs r)
   | none=>ancOf ancs r
  | false=>ancOf ancs r

def ancsGo:List Oper→List (List Nat)→List (List Nat)
 | [],acc=>acc
 | o::r,acc=>ancsGo r (acc++[ancOf acc o.after.toList])

def waitsFor (all:List (List Nat)) (j i:Nat):Bool:=match all[j]? with|some l=>l.elem i|none=>false

def hidden (all:List (List Nat)) (i:Nat) (anc:List Nat):List Oper→Nat→List Nat
 | [],_=>[]
 | o::r,j=>match o.dst with
  | some d=>match anc.elem j || waitsFor all j i with
   | true=>hidden all i anc r (j+1)
   | false=>d::hidden all i anc r (j+1)
  | none=>hidden all i anc r (j+1)

def poorSlots (g:List AV) (hid:List Nat):List Operand→List AV
 | []=>g.map fun _=>.top
 | .tmp t::r=>match hid.elem t,g[t]? with
  | false,some v=>(poorSlots g hid r).set t v
  | _,_=>poorSlots g hid r
 | _::r=>poorSlots g hid r

def idsOps (st:St):List Operand→List Nat
 | []=>[]
 | x::r=>match opnd st x with
  | some v=>v.ids++idsOps st r
  | none=>idsOps st r

def idsEnts (tab:List (Nat×Ent)):List Nat→List Nat
 | []=>[]
 | id::r=>match look tab id with
  | some e=>e.ids++idsEnts tab r
  | none=>idsEnts tab r

def wrArgs:List (PK×Ty)→List AV→List Nat
 | (.own,_)::ps,x::xs=>x.ids++wrArgs ps xs
 | (.ptr,_)::ps,x::xs=>x.ids++wrArgs ps xs
 | _::ps,_::xs=>wrArgs ps xs
 | _,_=>[]

def wrOf0 (E:Env) (st:St) (o:Oper):List Nat:=
 match o.op with
 | .store _ a x=>match opL st a with
  | some (.ptr id _)=>[id]
  | some (.ep id _ _ _)=>match look st.tab id with
   | some (.arr (.own true) _ _ e _)=>match e.hasSl,opLs st x with
    | true,some ls=>id::slIds ls
    | _,_=>[id]
   | _=>[id]
  | _=>[]
 | .buildSlice _ _ ps=>match given st (partLs st ps.toList) with
  | some ids=>ids
  | none=>[]
 | .slice _ x none _ _=>match opL st x with
  | some (.sl id)=>match look st.tab id with
   | some (.arr (.own _) _ _ _ _)=>[id]
   | _=>[]
  | _=>[]
 | .call c=>match c.callee with
  | .value f=>match opL st f,opnds st c.args.toList with
   | some (.fn f _),some as=>match ((lk E.fns f).or (lk E.conds f)).or (lk E.joins f) with
    | some pf=>wrArgs pf.params as
    | none=>[]
   | _,_=>[]
  | .builtin .append=>match c.args.toList with
   | [s,x]=>(match opL st s with|some (.sl id)=>[id]|_=>[])++(match opL st x with
    | some (.sl id)=>match look st.tab id with
     | some (.arr (.own true) _ _ e _)=>match e.hasSl with|true=>[id]|false=>[]
     | _=>[]
    | _=>[])
   | _=>[]
  | _=>[]
 | _=>[]

def wrOf (E:Env) (st:St) (o:Oper):List Nat:=match toFrz E st o with
 | ([],[])=>wrOf0 E st o
 | (a,b)=>wrOf0 E (preSt st (a,b)) o++(a++b)

def poorTab (g:St) (wr:List Nat):List Nat→List (Nat×Ent)
 | []=>[]
 | id::r=>match look g.tab id with
  | some e=>(id,match wr.elem id with|true=>e|false=>lowerE g.lvl (g.lvl+1) e)::poorTab g wr r
  | none=>poorTab g wr r

def seenOk (g:St) (R wr:List Nat):Bool:=
 (R.all fun id=>Nat.blt id g.nxt && match look g.tab id with
  | some e=>e.upto g.lvl && e.ids.all fun i=>R.elem i
  | none=>true) && wr.all fun id=>R.elem id && (look g.tab id).isSome

def clear (anc R wr cf:List Nat):List Rec→Nat→Bool
 | [],_=>true
 | c::r,j=>(anc.elem j || (disj c.wr cf && disj wr c.cf && R.all fun id=>Nat.blt id c.lo || Nat.ble c.hi id)) && clear anc R wr cf r (j+1)

def outOk (R wr:List Nat) (lo:Nat) (dst:Option Nat) (p:St):Bool:=
 let ok:=fun i=>R.elem i || (Nat.ble lo i && Nat.blt i p.nxt)
 Nat.ble lo p.nxt && (match dst with|some d=>(match p.slots[d]? with|some v=>v.ids.all ok|none=>false)|none=>true) &&
  p.tab.all fun x=>Nat.blt x.1 p.nxt && match Nat.ble lo x.1 || wr.elem x.1 with|true=>x.2.ids.all ok|false=>true

def merge (g p:St) (wr:List Nat) (lo:Nat) (dst:Option Nat):St:=
 {slots:=(match dst with|some d=>(match p.slots[d]? with|some v=>g.slots.set d v|none=>g.slots)|none=>g.slots)
  tab:=(p.tab.filter fun x=>Nat.ble lo x.1 || wr.elem x.1)++eraseAll g.tab wr
  nxt:=p.nxt
  lvl:=g.lvl }

def onlyAt:Nat→List V1→List V1
 | _,[]=>[]
 | 0,x::r=>x::r.map fun _=>.any
 | n+1,_::r=>.any::onlyAt n r

def narrow (op:Op) (sl:List AV):List AV:=match op with
 | .extract (.tmp t) i=>match sl[t]? with
  | some (.tup xs)=>sl.set t (.tup (onlyAt i xs))
  | _=>sl
 | _=>sl

def evDrawOp {R:Type} (E:Env) (ops:List Oper) (all:List (List Nat)) (anc:List Nat) (recs:List Rec) (g:St) (o:Oper) (k:Rec→St→Option R):Option R:=
 let p0:St:={ g with slots:=narrow o.op (poorSlots g.slots (hidden all recs.length anc ops 0) o.op.operands.toList)}
 let l:=idsOps p0 o.op.operands.toList
 let m:=idsEnts g.tab l
 let rs:=l++m
 let wr:=wrOf E p0 o
 match seenOk g rs wr && clear anc rs wr (cfOf o.op wr l m) recs 0 with
 | false=>none
 | true=>evOp E o { p0 with tab:=poorTab g wr (cfOf o.op wr l m)} fun p=>match outOk rs wr g.nxt o.dst p with
  | true=>k ⟨rs,wr,g.nxt,p.nxt,cfOf o.op wr l m⟩ (merge g p wr g.nxt o.dst)
  | false=>none

def evDrawGo {R:Type} (E:Env) (ops:List Oper) (all:List (List Nat)):List Oper→List (List Nat)→List Rec→St→(St→Option R)→Option R
 | [],_,_,g,k=>k g
 | o::r,ancs,recs,g,k=>
  let anc:=ancOf ancs o.after.toList
  match o.guard with
  | none=>evDrawOp E ops all anc recs g o fun c g'=>evDrawGo E ops all r (ancs++[anc]) (recs++[c]) g' k
  | some (j,want)=>match anc.elem j,(ops[j]?).bind (·.dst) with
   | true,some d=>match g.slots[d]? with
    | some (.v (.one (.b x)))=>bif x
     then (match want with
      | true=>evDrawOp E ops all anc recs (g.put (some d) (.v (.one (.b true)))) o fun c g'=>evDrawGo E ops all r (ancs++[anc]) (recs++[c]) g' k
      | false=>evDrawGo E ops all r (ancs++[anc]) (recs++[⟨[],[],g.nxt,g.nxt,[]⟩]) ((g.put (some d) (.v (.one (.b true)))).put o.dst (.tup [])) k)
     else (match want with
      | true=>evDrawGo E ops all r (ancs++[anc]) (recs++[⟨[],[],g.nxt,g.nxt,[]⟩]) ((g.put (some d) (.v (.one (.b false)))).put o.dst (.tup [])) k
      | false=>evDrawOp E ops all anc recs (g.put (some d) (.v (.one (.b false)))) o fun c g'=>evDrawGo E ops all r (ancs++[anc]) (recs++[c]) g' k)
    | some (.tup [])=>evDrawGo E ops all r (ancs++[anc]) (recs++[⟨[],[],g.nxt,g.nxt,[]⟩]) (g.put o.dst (.tup [])) k
    | _=>none
   | _,_=>none

def edgesOk:List Oper→Nat→Bool
 | [],_=>true
 | o::r,i=>(o.after.toList.all fun e => !Region.binds .any e || Nat.blt e.on i) && edgesOk r (i+1)

def evDraw {R:Type} (E:Env) (ops:List Oper) (st:St) (k:St→Option R):Option R:=
 match edgesOk ops 0 && nodupB (ops.filterMap (·.dst)) && lvlOk st with
 | true=>evDrawGo E ops (ancsGo ops []) ops [] [] st k
 | false=>none

inductive X where
 | normal|exit (id:Nat)|ret

inductive Item where
 | slot (t:Nat) (ty:Ty) (k:Kind)
 | box (id:Nat) (ty:Ty) (k:Kind)
 | row (id E:Nat) (e:Ty) (k:Kind)
 | keep (id:Nat) (ty:Ty) (tm:List Nat)

def tmL:List Nat→List Leaf
 | []=>[]
 | 0::r=>.i 0::tmL r
 | (n+1)::r=>.sl n::tmL r

@[reducible] def Item.ty:Item→Ty
 | .slot _ ty _=>ty
 | .box _ ty _=>ty
 | .row _ E e _=>.sl E e
 | .keep _ ty _=>ty

def fits (st:St) (k:Kind) (ls:List Leaf):Option (List Nat):=match k with
 | .imm true=>none
 | .imm false=>match steady st ls with|true=>some []|false=>none
 | .own true=>given st ls
 | .own false=>givenO st ls
 | .lent=>none

def sameK:Kind→Kind→Bool
 | .own true,.own true=>true
 | .own false,.own false=>true
 | .lent,.lent=>true
 | _,_=>false

def rowIds:List Item→List Nat
 | []=>[]
 | .row id _ _ _::r=>id::rowIds r
 | .keep id _ _::r=>id::rowIds r
 | _::r=>rowIds r

def itemLs (st:St):Item→Option (List Leaf)
 | .row _ _ _ _=>none
 | .keep _ _ _=>none
 | .slot t ty _=>match st.slots[t]? with|some x=>avT ty x|none=>none
 | .box id _ _=>match look st.tab id with
  | some (.box lvl cells)=>match Nat.beq lvl st.lvl with|true=>some cells|false=>none
  | _=>none

def itemK:Item→Kind
 | .slot _ _ k=>k
 | .box _ _ k=>k
 | .row _ _ _ k=>k
 | .keep _ _ _=>.imm false

def readItems (st:St):(its:List Item)→Option (dens (its.map Item.ty)×List Nat)
 | []=>some ((),[])
 | .row id E e k::r=>match look st.tab id with
  | some (.arr k' lvl E' e' xs)=>match castL e' e xs,Nat.beq lvl st.lvl && sameK k k' && Nat.beq E E',readItems st r with
   | some v,true,some (vs,ids)=>match ids.elem id with
    | false=>some ((v,vs),ids)
    | true=>none
   | _,_,_=>none
  | _=>none
 | .keep id ty tm::r=>match look st.tab id with
  | some (.box lvl cells)=>match collect1 st.tab ty cells,Nat.beq lvl st.lvl && slEq (tmL tm) cells,readItems st r with
   | some v,true,some (vs,ids)=>match ids.elem id with
    | false=>some ((v,vs),ids)
    | true=>none
   | _,_,_=>none
  | _=>none
 | it::r=>match itemLs st it with
  | none=>none
  | some ls=>match collect1 st.tab it.ty ls,fits st (itemK it) ls,readItems st r with
   | some v,some ids,some (vs,ids')=>match disj ids ids' && disj ids (rowIds r) with
    | true=>some ((v,vs),ids++ids')
    | false=>none
   | _,_,_=>none

def forget:List AV→List Nat→List AV
 | sl,[]=>sl
 | sl,t::r=>forget (sl.set t .top) r

def layItems (lvl:Nat):(its:List Item)→dens (its.map Item.ty)→List AV→List (Nat×Ent)→Nat→Option (List AV×List (Nat×Ent)×Nat)
 | [],_,sl,tab,j=>some (sl,tab,j)
 | .slot t ty k::r,v,sl,tab,j=>match spread k lvl ty v.1 j with
  | (ls,es,j')=>match mkV ty ls with
   | some x=>layItems lvl r v.2 (sl.set t (.v x)) (es++tab) j'
   | none=>none
 | .box id ty k::r,v,sl,tab,j=>match spread k lvl ty v.1 j with
  | (ls,es,j')=>layItems lvl r v.2 sl (es++setE tab id (.box lvl ls)) j'
 | .row id E e k::r,v,sl,tab,j=>layItems lvl r v.2 sl (setE tab id (.arr k lvl E e v.1)) j
 | .keep id ty tm::r,v,sl,tab,j=>layItems lvl r v.2 sl (setE tab id (.box lvl (mixLs ty v.1 (tmL tm)).1)) j

def Item.within (D:List Nat):Item→Bool
 | .slot t _ _=>D.elem t
 | .box _ _ _=>true
 | .row _ _ _ _=>true
 | .keep _ _ _=>true

def assignedIn:Code→List Nat
 | .region _ ops _=>ops.toList.filterMap (·.dst)
 | .seq a b=>assignedIn a++assignedIn b
 | .cond _ a b=>assignedIn a++assignedIn b
 | .block _ b=>assignedIn b
 | .loop b=>assignedIn b
 | .scope b=>assignedIn b
 | _=>[]

def firstReg:Code→Nat
 | .region i _ _=>i
 | .seq a _=>firstReg a
 | .cond _ a _=>firstReg a
 | .block _ b=>firstReg b
 | .loop b=>firstReg b
 | .scope b=>firstReg b
 | _=>0

def headOf (st:St) (body:Code) (its:List Item) (ids:List Nat) (vs:dens (its.map Item.ty)):Option St:=
 match layItems (st.lvl+1) its vs (forget st.slots (assignedIn body)) (eraseAll st.tab ids) st.nxt with
 | some (sl,tab,j)=>some { slots:=sl,tab:=tab,nxt:=j,lvl:=st.lvl+1 }
 | none=>none

def lower (st:St) (lo:Nat):St:={ st with tab:=st.tab.map fun x=>(x.1,lowerE st.lvl lo x.2),lvl:=lo }

def iter {S R:Type} (G:(S→Option R)→S→Option R):Nat→S→Option R
 | 0=>fun _=>none
 | n+1=>G (iter G n)

def fuel:Nat:=bif lock then 18446744073709551616 else 18446744073709551616
theorem fuel_def:fuel=18446744073709551616:=by unfold fuel; cases lock<;>rfl

structure FEnv where
 E:Env
 loops:List (Nat×List Item)

def slTys (E:Env):List Oper→List Nat
 | []=>[]
 | o::r=>match o.op with
  | .slice T _ _ _ _=>(match lk E.tys T with
   | some { ty:=.sl ET _,.. }=>ET::slTys E r
   | _=>slTys E r)
  | _=>slTys E r

def frzAll (ets:List Nat) (st:St):List Nat:=(st.tab.filterMap fun x=>match x.2 with
 | .arr (.own _) _ ET _ _=>(match ets.elem ET with|true=>some x.1|false=>none)
 | _=>none).filter (isOwnAt st)

def preDraw (E:Env) (ops:List Oper) (st:St):St:=match E.frz with
 | true=>preSt st (frzAll (slTys E ops) st,[])
 | false=>st

def immIds (st:St):List Item→List Nat
 | []=>[]
 | it::r=>(match itemK it,itemLs st it with
  | .imm false,some ls=>(slIds ls).filter (isOwnAt st)
  | _,_=>[])++immIds st r

def preLoop (its:List Item) (st:St):St:=preSt st (immIds st its,[])

def knowT (c:Operand) (a:Code) (st:St):St:=match c,a with
 | .tmp t,.skip=>st.put (some t) (.v (.one (.b true)))
 | _,_=>st

def evCode {R:Type} (F:FEnv):Code→St→(X→St→Option R)→Option R
 | .skip,st,k=>k .normal st
 | .label _,st,k=>k .normal st
 | .region _ ops draw,st,k=>match draw with
  | false=>evReg F.E ops.toList ops.toList st (k .normal)
  | true=>evDraw F.E ops.toList (preDraw F.E ops.toList st) (k .normal)
 | .seq a b,st,k=>evCode F a st fun x st'=>match x with
  | .normal=>evCode F b st' k
  | y=>k y st'
 | .cond c a b,st,k=>match opL st c with
  | some (.b x)=>bif x then evCode F a (knowT c a st) k else evCode F b st k
  | _=>none
 | .block id b,st,k=>evCode F b st fun x st'=>match x with
  | .exit j=>match Nat.beq j id with
   | true=>k .normal st'
   | false=>k (.exit j) st'
  | y=>k y st'
 | .loop b,st,k=>match lk F.loops (firstReg b) with
  | none=>none
  | some its=>match readItems (preLoop its st) its,lvlOk (preLoop its st) && its.all (fun it=>it.within (assignedIn b)) with
   | some (vs,ids),true=>iter (fun rec vs=>match headOf (preLoop its st) b its ids vs with
     | none=>none
     | some h=>evCode F b h fun x st'=>match x with
      | .normal=>match readItems st' its with
       | some (vs',_)=>rec vs'
       | none=>none
      | y=>k y (lower st' (preLoop its st).lvl)) fuel vs
   | _,_=>none
 | .exit id,st,k=>k (.exit id) st
 | .ret,st,k=>k .ret st
 | _,_,_=>none

def enterArgs:(ps:List (PK×Ty))→argT ps→Nat→Option (List AV×List (Nat×Ent)×Nat)
 | [],_,j=>some ([],[],j)
 | (.rd,t)::ps,v,j=>match spread (.imm false) 0 t v.1 j with
  | (ls,es,j')=>match mkV t ls,enterArgs ps v.2 j' with
   | some x,some (xs,es',j'')=>some (.v x::xs,es'++es,j'')
   | _,_=>none
 | (.own,t)::ps,v,j=>match spread (.own false) 0 t v.1 j with
  | (ls,es,j')=>match mkV t ls,enterArgs ps v.2 j' with
   | some x,some (xs,es',j'')=>some (.v x::xs,es'++es,j'')
   | _,_=>none
 | (.ptr,t)::ps,v,j=>match spread (.imm false) 0 t v.1 (j+1) with
  | (ls,es,j')=>match enterArgs ps v.2 j' with
   | some (xs,es',j'')=>some (.v (.one (.ptr j 0))::xs,es'++((j,.box 0 ls)::es),j'')
   | none=>none
 | (.cap,t)::ps,v,j=>match spread (.imm false) 0 t v.1 (j+1) with
  | (ls,es,j')=>match enterArgs ps v.2 j' with
   | some (xs,es',j'')=>some (.v (.one (.ptr j 0))::xs,es'++((j,.cst ls)::es),j'')
   | none=>none
 | (.clo f,t)::ps,v,j=>match spread (.imm false) 0 t v.1 (j+1) with
  | (ls,es,j')=>match enterArgs ps v.2 j' with
   | some (xs,es',j'')=>some (.v (.one (.fn f [j]))::xs,es'++((j,.cst ls)::es),j'')
   | none=>none

def resLs (E:Env) (st:St) (t:Ty):ResultVar→Option (List Leaf)
 | .tmp s=>match st.slots[s]? with|some x=>avT t x|none=>none
 | .cell s T=>match st.slots[s]?,lk E.tys T with
  | some (.v (.one (.ptr id 0))),some d=>match look st.tab id,decide (d.ty=t) && d.arr.isNone with
   | some (.box _ cells),true=>some cells
   | _,_=>none
  | _,_=>none

def resAll (E:Env) (st:St):(ts:List Ty)→List ResultVar→Option (dens ts×List Leaf)
 | [],[]=>some ((),[])
 | t::ts,r::rs=>match resLs E st t r with
  | none=>none
  | some ls=>match collect1 st.tab t ls,resAll E st ts rs with
   | some v,some (vs,ls')=>some ((v,vs),ls++ls')
   | _,_=>none
 | _,_=>none

def updAll (st:St) (rets:List Ty) (rs:dens rets):(ps:List (PK×Ty))→argT ps→Nat→Option (outT ps rets)
 | [],_,_=>some rs
 | (.rd,t)::ps,v,j=>match spread (.imm false) 0 t v.1 j with
  | (_,_,j')=>updAll st rets rs ps v.2 j'
 | (.own,t)::ps,v,j=>match spread (.own false) 0 t v.1 j with
  | (_,_,j')=>updAll st rets rs ps v.2 j'
 | (.cap,t)::ps,v,j=>match spread (.imm false) 0 t v.1 (j+1) with
  | (_,_,j')=>updAll st rets rs ps v.2 j'
 | (.clo _,t)::ps,v,j=>match spread (.imm false) 0 t v.1 (j+1) with
  | (_,_,j')=>updAll st rets rs ps v.2 j'
 | (.ptr,t)::ps,v,j=>match spread (.imm false) 0 t v.1 (j+1) with
  | (ls,_,j')=>match look st.tab j with
   | some (.box _ cells)=>match slEq ls cells,collect1 st.tab t cells,updAll st rets rs ps v.2 j' with
    | true,some x,some r=>some (x,r)
    | _,_,_=>none
   | _=>none

def resOk (st:St) (ls:List Leaf):RK→Bool
 | .uniq=>(given st ls).isSome
 | .own=>(givenO st ls).isSome
 | .shared=>true

def finFun (F:FEnv) (fn:Func) (ps:List (PK×Ty)) (rets:List Ty) (rk:RK) (args:argT ps) (st:St):Option (outT ps rets):=
 match resAll F.E st rets fn.results.toList with
 | some (rs,ls)=>match resOk st ls rk with
  | true=>updAll st rets rs ps args 0
  | false=>none
 | none=>none

def evFun (F:FEnv) (fn:Func) (ps:List (PK×Ty)) (rets:List Ty) (rk:RK) (args:argT ps):Option (outT ps rets):=
 match fn.body,enterArgs ps args 0 with
 | some body,some (avs,es,j)=>
  evCode F body { slots:=avs++List.replicate (fn.ntmps - avs.length) (.tup []),tab:=es,nxt:=j,lvl:=0 } fun x st=>
   match x with
   | .exit _=>none
   | .normal=>finFun F fn ps rets rk args st
   | .ret=>finFun F fn ps rets rk args st
 | _,_=>none

end

end Ev

namespace Ev
open Go
set_option linter.unusedVariables false

structure Moves (M:Nat→Prop) (γ γ':Nat→Own) (w w':World):Prop where
 persist : ∀ b,b<w.heap.size→γ b = .persist→γ' b = .persist∧w'.heap[b]?=w.heap[b]?
 top : ∀ b i,b<w.heap.size→γ b = .top i → ¬ M i→γ' b = .top i∧w'.heap[b]?=w.heap[b]?
 deep : ∀ b i,b<w.heap.size→γ b = .deep i→w'.heap[b]?=w.heap[b]?∧(¬ M i→γ' b = .deep i)∧(M i→γ' b = .persist ∨ ∃ j,γ' b = .deep j)

theorem Moves.refl (M:Nat→Prop) (γ:Nat→Own) (w:World):Moves M γ γ w w:=
 ⟨fun _ _ h=>⟨h,rfl⟩,fun _ _ _ h _=>⟨h,rfl⟩,fun _ i _ h=>⟨rfl,fun _=>h,fun _=>.inr ⟨i,h⟩⟩⟩

theorem All2.leafLoc {loc loc':Nat→Value} {n:Nat} {ls:List Leaf} {vs:List Value} (h:All2 (LeafOk loc) ls vs) (hl : ∀ l∈ls,l.lt n) (he : ∀ i<n,loc' i=loc i) :
  All2 (LeafOk loc') ls vs:=h.mono fun l hm v hv=>hv.loc (hl l hm) he

theorem EntOk.moves [Tags] {M:Nat→Prop} {γ γ':Nat→Own} {loc loc':Nat→Value} {w w':World} {n id:Nat} {e:Ent} (hm:Moves M γ γ' w w')
  (hid : ¬ M id) (hel:e.lt n) (hin:id<n) (hl : ∀ i<n,loc' i=loc i) (h:EntOk γ loc w id e):EntOk γ' loc' w' id e:=by
 have hloc:=hl id hin
 cases e with
 | box lvl cells=>
  obtain⟨b,arr,T,fr,h1,h2,h3,h4,h5⟩:=h
  obtain⟨g1,g2⟩:=hm.top b id (lt_of_get h2) h4 hid
  exact⟨b,arr,T,fr,by rw[hloc]; exact h1,by rw[g2]; exact h2,h3,g1,h5.leafLoc hel hl⟩
 | cst cells=>
  obtain⟨b,arr,T,fr,h1,h2,h4,h5⟩:=h
  obtain⟨g1,g2⟩:=hm.persist b (lt_of_get h2) h4
  exact⟨b,arr,T,fr,by rw[hloc]; exact h1,by rw[g2]; exact h2,g1,h5.leafLoc hel hl⟩
 | arr k lvl E e xs=>
  cases k with
  | imm taint=>
   obtain⟨fp,h1,h2⟩:=h
   refine⟨fp,?_,?_⟩
   ·rw[hloc]
    refine h1.frame fun b hb => ?_
    have hlt:=h1.lt b hb
    rcases h2 b hb with h|⟨_,j,h⟩
    ·exact (hm.persist b hlt h).2
    ·exact (hm.deep b j hlt h).1
   ·intro b hb
    have hlt:=h1.lt b hb
    rcases h2 b hb with h|⟨ht,j,h⟩
    ·exact .inl (hm.persist b hlt h).1
    ·by_cases hj:M j
     ·rcases (hm.deep b j hlt h).2.2 hj with h|h
      ·exact .inl h
      ·exact .inr ⟨ht,h⟩
     ·exact .inr ⟨ht,j,(hm.deep b j hlt h).2.1 hj⟩
  | lent=>
   obtain⟨fp,h1,h2⟩:=h
   have hlt:=h1.lt
   exact⟨fp,by rw[hloc]; exact h1.frame fun b hb=>(hm.deep b id (hlt b hb) (h2.2 b hb)).1,h2.1,fun b hb=>(hm.deep b id (hlt b hb) (h2.2 b hb)).2.1 hid⟩
  | own u=>
   obtain⟨xb,fs,h1,h2,h3⟩:=h
   have hlt:=h1.lt
   refine⟨xb,fs,?_,?_,?_⟩
   ·rw[hloc]
    refine h1.frame (fun b hb=>(hm.top b id (hlt.1 b hb) (h2 b hb) hid).2) (fun b hb => ?_)
    cases u with
    | true=>exact (hm.deep b id (hlt.2 b hb) (h3.2 b hb)).1
    | false=>exact (hm.persist b (hlt.2 b hb) (h3 b hb)).2
   ·exact fun b hb=>(hm.top b id (hlt.1 b hb) (h2 b hb) hid).1
   ·cases u with
    | true=>exact⟨h3.1,fun b hb=>(hm.deep b id (hlt.2 b hb) (h3.2 b hb)).2.1 hid⟩
    | false=>exact fun b hb=>(hm.persist b (hlt.2 b hb) (h3 b hb)).1

variable {B:Nat} {X:List Nat} {A:Ctx} {w0:World} {γ γ':Nat→Own} {loc loc':Nat→Value} {st st':St} {a:Act} {w w':World}

theorem Ent.lt_mono {n m:Nat} (h:n≤m) {e:Ent} (hl:e.lt n):e.lt m:=by
 cases e with
 | box lvl cells=>exact fun l hm=>Leaf.lt_mono h (hl l hm)
 | cst cells=>exact fun l hm=>Leaf.lt_mono h (hl l hm)
 | arr=>trivial

theorem Rel0.updW [Tags] {M:Nat→Prop} (h:Rel0 B X A w0 γ loc st a w) (hs:st'.slots=st.slots) (hn:st.nxt≤st'.nxt) (hk:KeepsW B X w w') (hu : ∀ b,owned (γ' b)→Unfr w' b)
  (ho : ∀ b,b<B→b∉X→γ' b = .alien∨(γ' b = .persist∧b∈A.rds)) (hl : ∀ i<st.nxt,loc' i=loc i) (hm:Moves M γ γ' w w') (hM : ∀ i,M i → ∃ e,look st.tab i=some e)
  (ht : ∀ (id:Nat) (e:Ent),look st'.tab id=some e→(look st.tab id=some e ∧ ¬ M id)∨((EntOk γ' loc' w' id e∧e.lt st'.nxt∧id<st'.nxt)∧(st.nxt≤id ∨ ∃ e0,look st.tab id=some e0))) :
  Rel0 B X A w0 γ' loc' st' a w' where
 defers:=h.defers
 keeps:=h.keeps.trans hk
 unf:=hu
 old:=ho
 Ble:=Nat.le_trans h.Ble hk.size
 size:=by rw[hs]; exact h.size
 slots:=fun t v ht=>by rw[hs] at ht; exact (h.slots t v ht).loc (h.slt t v ht) hl
 ents:=fun id e hid=>by
  rcases ht id e hid with⟨h1,h2⟩|h1
  ·exact (h.ents id e h1).moves hm h2 (h.elt id e h1).1 (h.elt id e h1).2 hl
  ·exact h1.1.1
 slt:=fun t v ht=>by rw[hs] at ht; exact AV.lt_mono hn (h.slt t v ht)
 elt:=fun id e hid=>by
  rcases ht id e hid with⟨h1,h2⟩|h1
  ·exact⟨Ent.lt_mono hn (h.elt id e h1).1,Nat.lt_of_lt_of_le (h.elt id e h1).2 hn⟩
  ·exact h1.1.2
 pins:=fun p hp=>⟨Nat.lt_of_lt_of_le (h.pins p hp).1 hn,by rw[hl _ (h.pins p hp).1]; exact (h.pins p hp).2⟩
 dlab:=fun p hp hhi=>by
  obtain⟨k1,k2,k3,k4⟩:=h.dlab p hp (Nat.le_trans hn hhi)
  have hno : ¬ M p.2:=fun hm'=>by obtain⟨e,he⟩:=hM _ hm'; rw[k3] at he; cases he
  refine⟨(hm.deep p.1 p.2 k4 k1).2.1 hno,by omega,?_,Nat.lt_of_lt_of_le k4 hk.size⟩
  cases hlk:look st'.tab p.2 with
  | none=>rfl
  | some e=>
   rcases ht _ _ hlk with⟨h1,_⟩|⟨⟨_,_,h0⟩,h1|⟨e0,h1⟩⟩
   ·rw[k3] at h1; cases h1
   ·omega
   ·rw[k3] at h1; cases h1
 glob:=h.glob
 rtag:=h.rtag
 dpc:=fun b hb=>by
  obtain⟨k1,k2,k3⟩:=h.dpc b hb
  refine⟨Nat.lt_of_lt_of_le k1 hk.size,?_⟩
  rcases k2 with k2|⟨j,k2⟩
  ·exact⟨.inl (hm.persist b k1 k2).1,(hm.persist b k1 k2).2.trans k3⟩
  ·obtain⟨c1,c2,c3⟩:=hm.deep b j k1 k2
   refine⟨?_,c1.trans k3⟩
   by_cases hj:M j
   ·exact c3 hj
   ·exact .inr ⟨j,c2 hj⟩

theorem Rel0.upd [Tags] {M:Nat→Prop} (h:Rel0 B X A w0 γ loc st a w) (hs:st'.slots=st.slots) (hn:st.nxt≤st'.nxt) (hk:Keeps B X w w') (hu : ∀ b,b<w.heap.size→owned (γ' b)→owned (γ b))
  (ho : ∀ b,b<B→b∉X→γ' b = .alien∨(γ' b = .persist∧b∈A.rds)) (hl : ∀ i<st.nxt,loc' i=loc i) (hm:Moves M γ γ' w w') (hM : ∀ i,M i → ∃ e,look st.tab i=some e)
  (ht : ∀ (id:Nat) (e:Ent),look st'.tab id=some e→(look st.tab id=some e ∧ ¬ M id)∨((EntOk γ' loc' w' id e∧e.lt st'.nxt∧id<st'.nxt)∧(st.nxt≤id ∨ ∃ e0,look st.tab id=some e0))) :
  Rel0 B X A w0 γ' loc' st' a w':=
 h.updW hs hn hk.weak (fun b hb=>hk.free b (by
  rcases Nat.lt_or_ge b w.heap.size with hlt|hge
  ·exact h.unf b (hu b hlt hb)
  ·exact Unfr.big hge)) ho hl hm hM ht

theorem Rel0.put [Tags] (h:Rel0 B X A w0 γ loc st a w) {x:AV} {v:Value} (dst:Option Nat) (hv:AVOk loc x v) (hx:x.lt st.nxt) :
  Rel0 B X A w0 γ loc (st.put dst x) (a.put dst v) w:=by
 cases dst with
 | none=>exact h
 | some d=>
  refine { h with size:=by simp[St.put,Act.put,h.size],slots := ?_,slt := ?_,defers:=h.defers,ents:=h.ents,elt:=h.elt }
  ·intro t y hy
   simp only[St.put,List.getElem?_set] at hy
   have hsz:=h.size
   by_cases hd:d=t
   ·subst hd
    simp only[if_true] at hy
    split at hy
    ·rename_i hlt
     cases hy
     rw[hsz] at hlt
     simpa[Act.put,Array.getD_eq_getD_getElem?,hlt] using hv
    ·cases hy
   ·rw[if_neg hd] at hy
    have:=h.slots t y hy
    simpa[Act.put,Array.getD_eq_getD_getElem?,Array.getElem?_setIfInBounds_ne hd] using this
  ·intro t y hy
   simp only[St.put,List.getElem?_set] at hy
   by_cases hd:d=t
   ·subst hd
    simp only[if_true] at hy
    split at hy
    ·cases hy; exact hx
    ·cases hy
   ·rw[if_neg hd] at hy
    exact h.slt t y hy

def Ent.prot (n:Nat):Ent→Prop
 | .box lvl _=>lvl≠n
 | .cst _=>True
 | .arr _ lvl _ _ _=>lvl≠n

structure Pres (D:List Nat) (st st':St):Prop where
 lvl:st'.lvl=st.lvl
 nxt:st.nxt≤st'.nxt
 tab : ∀ (id:Nat) (e:Ent),look st.tab id=some e→e.prot st.lvl→look st'.tab id=some e
 slots : ∀ t,t∉D→st'.slots[t]?=st.slots[t]?
 len:st'.slots.length=st.slots.length

theorem Pres.refl (D:List Nat) (st:St):Pres D st st:=⟨rfl,Nat.le_refl _,fun _ _ h _=>h,fun _ _=>rfl,rfl⟩

theorem Pres.trans {D D':List Nat} {s1 s2 s3:St} (h:Pres D s1 s2) (k:Pres D' s2 s3):Pres (D++D') s1 s3 where
 lvl:=k.lvl.trans h.lvl
 nxt:=Nat.le_trans h.nxt k.nxt
 tab:=fun id e he hp=>k.tab id e (h.tab id e he hp) (by rw[h.lvl]; exact hp)
 slots:=fun t ht=>by
  rw[k.slots t (fun h=>ht (by simp[h])),h.slots t (fun h=>ht (by simp[h]))]
 len:=k.len.trans h.len

theorem Pres.mono {D D':List Nat} {s1 s2:St} (h:Pres D s1 s2) (hd : ∀ t∈D,t∈D'):Pres D' s1 s2:=
 ⟨h.lvl,h.nxt,h.tab,fun t ht=>h.slots t (fun h=>ht (hd t h)),h.len⟩

theorem Pres.put [Tags] (st:St) (dst:Option Nat) (x:AV):Pres dst.toList st (st.put dst x):=by
 cases dst with
 | none=>exact Pres.refl _ _
 | some d=>exact⟨rfl,Nat.le_refl _,fun _ _ h _=>h,fun t ht=>by simp at ht; simp[St.put,List.getElem?_set_ne (fun h=>ht h.symm)],by simp[St.put]⟩

theorem Pres.putAfter [Tags] {st st':St} (h:Pres [] st st') (dst:Option Nat) (x:AV):Pres dst.toList st (st'.put dst x):=by
 simpa using h.trans (Pres.put st' dst x)

end Ev

namespace Ev
open Go
set_option linter.unusedVariables false

theorem spread_pair (k:Kind) (lvl:Nat) (a b:Ty) (v:den (.pair a b)) (j:Nat) :
  spread k lvl (.pair a b) v j=((spread k lvl a v.1 j).1++(spread k lvl b v.2 (spread k lvl a v.1 j).2.2).1,
   (spread k lvl a v.1 j).2.1++(spread k lvl b v.2 (spread k lvl a v.1 j).2.2).2.1,(spread k lvl b v.2 (spread k lvl a v.1 j).2.2).2.2):=rfl

theorem look_append (t1 t2:List (Nat×Ent)) (i:Nat):look (t1++t2) i=(look t1 i).or (look t2 i):=by
 induction t1 with
 | nil=>simp[look]
 | cons x r ih=>
  obtain⟨k,e⟩:=x
  simp only[List.cons_append,look]
  cases h:Nat.beq k i with
  | true=>simp
  | false=>exact ih

structure SpreadOk (k:Kind) (lvl:Nat) (t:Ty) (v:den t) (j:Nat):Prop where
 len:(spread k lvl t v j).1.length=t.size
 le:j≤(spread k lvl t v j).2.2
 lt : ∀ l∈(spread k lvl t v j).1,l.lt (spread k lvl t v j).2.2
 keys : ∀ (id:Nat) (e:Ent),look (spread k lvl t v j).2.1 id=some e→j≤id∧id<(spread k lvl t v j).2.2 ∧ ∃ E e' xs,e = .arr k lvl E e' xs

theorem spreadOk [Tags] (k:Kind) (lvl:Nat) : ∀ (t:Ty) (v:den t) (j:Nat),SpreadOk k lvl t v j
 | .i64,v,j=>⟨rfl,Nat.le_refl _,by simp[spread,Leaf.lt],by simp[spread,look]⟩
 | .u8,v,j=>⟨rfl,Nat.le_refl _,by simp[spread,Leaf.lt],by simp[spread,look]⟩
 | .bool,v,j=>⟨rfl,Nat.le_refl _,by simp[spread,Leaf.lt],by simp[spread,look]⟩
 | .str,v,j=>⟨rfl,Nat.le_refl _,by simp[spread,Leaf.lt],by simp[spread,look]⟩
 | .sl E e,v,j=>by
  refine⟨rfl,Nat.le_succ _,by simp[spread,Leaf.lt],?_⟩
  intro id e' h
  simp only[spread,look_cons,look] at h
  split at h
  ·rename_i hid
   cases h
   exact⟨by omega,by simp[spread]; omega,E,e,v,rfl⟩
  ·cases h
 | .pair a b,v,j=>by
  have h1:=spreadOk k lvl a v.1 j
  have h2:=spreadOk k lvl b v.2 (spread k lvl a v.1 j).2.2
  have l1:=h1.le
  have l2:=h2.le
  refine⟨?_,?_,?_,?_⟩<;>simp only[spread_pair]
  ·simp[h1.len,h2.len,Ty.size]
  ·omega
  ·intro l hl
   rcases List.mem_append.1 hl with hl|hl
   ·exact Leaf.lt_mono l2 (h1.lt l hl)
   ·exact h2.lt l hl
  ·intro id e h
   rw[look_append] at h
   cases hh:look (spread k lvl a v.1 j).2.1 id with
   | some e'=>
    rw[hh] at h
    simp at h
    subst h
    obtain⟨g1,g2,g3⟩:=h1.keys id _ hh
    exact⟨g1,by omega,g3⟩
   | none=>
    rw[hh] at h
    simp at h
    obtain⟨g1,g2,g3⟩:=h2.keys id _ h
    exact⟨by omega,g2,g3⟩

theorem EntOk.arrLoc [Tags] {γ:Nat→Own} {loc loc':Nat→Value} {w:World} {id:Nat} {k:Kind} {lvl E:Nat} {e:Ty} {xs:List (den e)} (h:loc' id=loc id)
  (g:EntOk γ loc w id (.arr k lvl E e xs)):EntOk γ loc' w id (.arr k lvl E e xs):=by
 cases k with
 | imm t=>simp only[EntOk] at *; rw[h]; exact g
 | own u=>simp only[EntOk] at *; rw[h]; exact g
 | lent=>simp only[EntOk] at *; rw[h]; exact g

theorem spread_imm [Tags] {γ:Nat→Own} {w:World} {taint:Bool} (lvl:Nat) : ∀ (t:Ty) (v:den t) (j:Nat) (cs:List Value) (fp:List Nat) (loc:Nat→Value),
  Rd w t v cs fp→(∀ b∈fp,γ b = .persist∨(taint=true ∧ ∃ i,γ b = .deep i)) →
  ∃ loc',(∀ i,(i<j∨(spread (.imm taint) lvl t v j).2.2≤i)→loc' i=loc i)∧All2 (LeafOk loc') (spread (.imm taint) lvl t v j).1 cs ∧
   ∀ (id:Nat) (e:Ent),look (spread (.imm taint) lvl t v j).2.1 id=some e→EntOk γ loc' w id e
 | .i64,v,j,cs,fp,loc,h,hf=>⟨loc,fun _ _=>rfl,by rw[h.1]; exact⟨⟨rfl,h.2.2⟩,trivial⟩,by simp[spread,look]⟩
 | .u8,v,j,cs,fp,loc,h,hf=>⟨loc,fun _ _=>rfl,by rw[h.1]; exact⟨rfl,trivial⟩,by simp[spread,look]⟩
 | .bool,v,j,cs,fp,loc,h,hf=>⟨loc,fun _ _=>rfl,by rw[h.1]; exact⟨rfl,trivial⟩,by simp[spread,look]⟩
 | .str,v,j,cs,fp,loc,h,hf=>⟨loc,fun _ _=>rfl,by rw[h.1]; exact⟨⟨rfl,h.2.2⟩,trivial⟩,by simp[spread,look]⟩
 | .sl E e,v,j,cs,fp,loc,h,hf=>by
  have hc : ∃ c,cs=[c] ∧ ∃ a n k,c = .slice a n k:=by obtain⟨a,n,c,h1,_⟩:=h; exact⟨_,h1,_,_,_,rfl⟩
  obtain⟨c,rfl,hsl⟩:=hc
  refine⟨fun i=>if i=j then c else loc i,?_,?_,?_⟩
  ·intro i hi
   have:i≠j:=by simp[spread] at hi; omega
   simp[this]
  ·exact⟨⟨by simp,hsl⟩,trivial⟩
  ·intro id e' hh
   simp only[spread,look_cons,look] at hh
   split at hh
   ·rename_i hid
    cases hh
    subst hid
    refine⟨fp,?_,hf⟩
    simp only[if_true]
    exact h
   ·cases hh
 | .pair a b,v,j,cs,fp,loc,h,hf=>by
  obtain⟨c1,c2,f1,f2,h1,h2,h3,h4⟩:=h
  have s1:=spreadOk (.imm taint) lvl a v.1 j
  have s2:=spreadOk (.imm taint) lvl b v.2 (spread (.imm taint) lvl a v.1 j).2.2
  obtain⟨loc1,g1,g2,g3⟩:=spread_imm lvl a v.1 j c1 f1 loc h3 (fun b hb=>hf b (by simp[h2,hb]))
  obtain⟨loc2,k1,k2,k3⟩:=spread_imm lvl b v.2 (spread (.imm taint) lvl a v.1 j).2.2 c2 f2 loc1 h4 (fun b hb=>hf b (by simp[h2,hb]))
  have l1:=s1.le
  have l2:=s2.le
  refine⟨loc2,?_,?_,?_⟩
  ·intro i hi
   simp only[spread_pair] at hi
   rw[k1 i (by omega),g1 i (by omega)]
  ·simp only[spread_pair]
   rw[h1]
   refine All2.append ?_ k2
   exact g2.leafLoc s1.lt (fun i hi=>k1 i (.inl hi))
  ·intro id e hh
   simp only[spread_pair] at hh
   rw[look_append] at hh
   cases hx:look (spread (.imm taint) lvl a v.1 j).2.1 id with
   | some e'=>
    rw[hx] at hh
    simp at hh
    subst hh
    obtain⟨q1,q2,E,et,xs,rfl⟩:=s1.keys id _ hx
    exact (g3 id _ hx).arrLoc (k1 id (.inl q2))
   | none=>
    rw[hx] at hh
    simp at hh
    exact k3 id e hh

theorem spread_own [Tags] {w:World} (u:Bool) (lvl:Nat) : ∀ (t:Ty) (v:den t) (j:Nat) (cs:List Value) (xs fs:List Nat) (loc:Nat→Value) (γ:Nat→Own),
  RdO w t v cs xs fs→xs.Nodup→(∀ b∈xs,b∉fs)→(u=true→fs.Nodup)→(u=false → ∀ b∈fs,γ b = .persist) →
  ∃ (loc':Nat→Value) (γ':Nat→Own),(∀ i,(i<j∨(spread (.own u) lvl t v j).2.2≤i)→loc' i=loc i)∧All2 (LeafOk loc') (spread (.own u) lvl t v j).1 cs ∧
   (∀ b,b∉xs→b∉fs→γ' b=γ b)∧(u=false → ∀ b,b∉xs→γ' b=γ b) ∧
   (∀ b∈xs,∃ id,j≤id∧id<(spread (.own u) lvl t v j).2.2∧γ' b = .top id) ∧
   (u=true → ∀ b∈fs,∃ id,j≤id∧id<(spread (.own u) lvl t v j).2.2∧γ' b = .deep id) ∧
   ∀ γ'':Nat→Own,(∀ b∈xs,γ'' b=γ' b)→(∀ b∈fs,γ'' b=γ' b) →
    ∀ (id:Nat) (e:Ent),look (spread (.own u) lvl t v j).2.1 id=some e→EntOk γ'' loc' w id e
 | .i64,v,j,cs,xs,fs,loc,γ,h,_,_,_,_=>by
  obtain⟨h,rfl,rfl⟩:=h
  exact⟨loc,γ,fun _ _=>rfl,by rw[h.1]; exact⟨⟨rfl,h.2.2⟩,trivial⟩,by simp,by simp,by simp,by simp,by simp[spread,look]⟩
 | .u8,v,j,cs,xs,fs,loc,γ,h,_,_,_,_=>by
  obtain⟨h,rfl,rfl⟩:=h
  exact⟨loc,γ,fun _ _=>rfl,by rw[h.1]; exact⟨rfl,trivial⟩,by simp,by simp,by simp,by simp,by simp[spread,look]⟩
 | .bool,v,j,cs,xs,fs,loc,γ,h,_,_,_,_=>by
  obtain⟨h,rfl,rfl⟩:=h
  exact⟨loc,γ,fun _ _=>rfl,by rw[h.1]; exact⟨rfl,trivial⟩,by simp,by simp,by simp,by simp,by simp[spread,look]⟩
 | .str,v,j,cs,xs,fs,loc,γ,h,_,_,_,_=>by
  obtain⟨h,rfl,rfl⟩:=h
  exact⟨loc,γ,fun _ _=>rfl,by rw[h.1]; exact⟨⟨rfl,h.2.2⟩,trivial⟩,by simp,by simp,by simp,by simp,by simp[spread,look]⟩
 | .sl E e,v,j,cs,xs,fs,loc,γ,h,hnd,hxf,hfu,hfp=>by
  have hc : ∃ c,cs=[c] ∧ ∃ a n k,c = .slice a n k:=by
   rcases h with⟨_,h,_⟩|⟨b,cap,arr,T,fr,h,_⟩<;>exact⟨_,h,_,_,_,rfl⟩
  obtain⟨c,rfl,hsl⟩:=hc
  classical
  refine⟨fun i=>if i=j then c else loc i,fun b=>if b∈xs then .top j else if u=true∧b∈fs then .deep j else γ b,?_,⟨⟨by simp,hsl⟩,trivial⟩,?_,?_,?_,?_,?_⟩
  ·intro i hi
   have:i≠j:=by simp[spread] at hi; omega
   simp[this]
  ·intro b h1 h2; simp[h1,h2]
  ·intro hu b h1; simp[hu,h1]
  ·intro b hb; exact⟨j,Nat.le_refl _,by simp[spread],by simp[hb]⟩
  ·intro hu b hb; refine⟨j,Nat.le_refl _,by simp[spread],?_⟩
   have:b∉xs:=fun hx=>hxf b hx hb
   simp[this,hu,hb]
  ·intro γ'' hx hf id e' hh
   simp only[spread,look_cons,look] at hh
   split at hh
   ·rename_i hid
    cases hh
    subst hid
    refine⟨xs,fs,?_,?_,?_⟩
    ·simp only[if_true]; exact h
    ·intro b hb; rw[hx b hb]; simp[hb]
    ·have nx : ∀ b∈fs,b∉xs:=fun b hb hx=>hxf b hx hb
     cases u with
     | true=>
      refine⟨hfu rfl,fun b hb => ?_⟩
      rw[hf b hb]; simp[nx b hb,hb]
     | false=>
      intro b hb
      rw[hf b hb]; simp[nx b hb,hfp rfl b hb]
   ·cases hh
 | .pair a b,v,j,cs,xs,fs,loc,γ,h,hnd,hxf,hfu,hfp=>by
  obtain⟨c1,c2,x1,x2,f1,f2,h1,h2,h3,h4,h5⟩:=h
  subst h1; subst h2; subst h3
  have nd:=List.nodup_append.1 hnd
  have s1:=spreadOk (.own u) lvl a v.1 j
  have s2:=spreadOk (.own u) lvl b v.2 (spread (.own u) lvl a v.1 j).2.2
  have l1:=s1.le
  have l2:=s2.le
  have fu1:u=true→f1.Nodup:=fun hu=>(List.nodup_append.1 (hfu hu)).1
  have fu2:u=true→f2.Nodup:=fun hu=>(List.nodup_append.1 (hfu hu)).2.1
  obtain⟨loc1,γ1,g1,g2,g3,g3',g4,g5,g6⟩:=spread_own u lvl a v.1 j c1 x1 f1 loc γ h4 nd.1 (fun b hb=>fun hf=>hxf b (by simp[hb]) (by simp[hf])) fu1
   (fun hu b hb=>hfp hu b (by simp[hb]))
  have pf2:u=false → ∀ b∈f2,γ1 b = .persist:=fun hu b hb=>by
   rw[g3' hu b (fun hx=>hxf b (by simp[hx]) (by simp[hb]))]; exact hfp hu b (by simp[hb])
  obtain⟨loc2,γ2,k1,k2,k3,k3',k4,k5,k6⟩:=spread_own u lvl b v.2 (spread (.own u) lvl a v.1 j).2.2 c2 x2 f2 loc1 γ1 h5 nd.2.1
   (fun b hb=>fun hf=>hxf b (by simp[hb]) (by simp[hf])) fu2 pf2
  have same : ∀ b,(b∈x1∨b∈f1)→γ2 b=γ1 b:=by
   intro b hb
   have nx2:b∉x2:=fun hx=>by
    rcases hb with hb|hb
    ·exact nd.2.2 b hb b hx rfl
    ·exact hxf b (by simp[hx]) (by simp[hb])
   cases hu:u with
   | false=>exact k3' hu b nx2
   | true=>
    refine k3 b nx2 (fun hf => ?_)
    rcases hb with hb|hb
    ·exact hxf b (by simp[hb]) (by simp[hf])
    ·exact (List.nodup_append.1 (hfu hu)).2.2 b hb b hf rfl
  refine⟨loc2,γ2,?_,?_,?_,?_,?_,?_,?_⟩
  ·intro i hi
   simp only[spread_pair] at hi
   rw[k1 i (by omega),g1 i (by omega)]
  ·simp only[spread_pair]
   exact All2.append (g2.leafLoc s1.lt (fun i hi=>k1 i (.inl hi))) k2
  ·intro b hb hf
   simp only[List.mem_append,not_or] at hb hf
   rw[k3 b hb.2 hf.2,g3 b hb.1 hf.1]
  ·intro hu b hb
   simp only[List.mem_append,not_or] at hb
   rw[k3' hu b hb.2,g3' hu b hb.1]
  ·intro b hb
   simp only[spread_pair]
   rcases List.mem_append.1 hb with hb|hb
   ·obtain⟨id,q1,q2,q3⟩:=g4 b hb
    exact⟨id,q1,by omega,by rw[same b (.inl hb)]; exact q3⟩
   ·obtain⟨id,q1,q2,q3⟩:=k4 b hb
    exact⟨id,by omega,q2,q3⟩
  ·intro hu b hb
   simp only[spread_pair]
   rcases List.mem_append.1 hb with hb|hb
   ·obtain⟨id,q1,q2,q3⟩:=g5 hu b hb
    exact⟨id,q1,by omega,by rw[same b (.inr hb)]; exact q3⟩
   ·obtain⟨id,q1,q2,q3⟩:=k5 hu b hb
    exact⟨id,by omega,q2,q3⟩
  ·intro γ'' hx hf id e hh
   simp only[spread_pair] at hh
   rw[look_append] at hh
   cases hx1:look (spread (.own u) lvl a v.1 j).2.1 id with
   | some e'=>
    rw[hx1] at hh
    simp at hh
    subst hh
    obtain⟨q1,q2,E,et,vs,rfl⟩:=s1.keys id _ hx1
    exact (g6 γ'' (fun b hb=>by rw[hx b (by simp[hb]),same b (.inl hb)]) (fun b hb=>by rw[hf b (by simp[hb]),same b (.inr hb)]) id _ hx1).arrLoc (k1 id (.inl q2))
   | none=>
    rw[hx1] at hh
    simp at hh
    exact k6 γ'' (fun b hb=>hx b (by simp[hb])) (fun b hb=>hf b (by simp[hb])) id e hh


theorem castL_some {e e':Ty} {xs:List (den e)} {ys:List (den e')} (h:castL e e' xs=some ys) : ∃ he:e=e',ys=he▸xs:=by
 unfold castL at h
 split at h
 ·rename_i he; exact⟨he,by simpa using h.symm⟩
 ·cases h

theorem castE_some [Tags] {E E':Nat} {e e':Ty} {xs:List (den e)} {ys:List (den e')} (h:castE E E' e e' xs=some ys):E=E' ∧ ∃ he:e=e',ys=he▸xs:=by
 unfold castE at h
 split at h
 ·next hE=>exact⟨(beq_iff _ _).1 hE,castL_some h⟩
 ·cases h

theorem collect_rd [Tags] {γ:Nat→Own} {loc:Nat→Value} {w:World} {st:St} (hE : ∀ (id:Nat) (e:Ent),look st.tab id=some e→EntOk γ loc w id e) :
  ∀ (t:Ty) (ls:List Leaf) (vs:List Value) (v:den t) (r:List Leaf),collect st.tab t ls=some (v,r)→All2 (LeafOk loc) ls vs →
   ∃ ls1 vs1 vs2 fp,ls=ls1++r∧vs=vs1++vs2∧All2 (LeafOk loc) ls1 vs1∧All2 (LeafOk loc) r vs2∧Rd w t v vs1 fp ∧
    (∀ b∈fp,γ b ≠ .alien ∧ ∀ i,γ b = .top i→i∈slIds ls1)∧(steady st ls1=true → ∀ b∈fp,γ b = .persist)
 | .i64,ls,vs,v,r,h,ha=>by
  match ls,vs,h,ha with
  | .i n::r',c::vs',h,ha=>
   simp only[collect,Option.some.injEq,Prod.mk.injEq] at h
   obtain⟨rfl,rfl⟩:=h
   exact⟨[.i _],[c],vs',[],rfl,rfl,⟨ha.1,trivial⟩,ha.2,⟨by rw[ha.1.1],rfl,ha.1.2⟩,by simp,by simp⟩
 | .u8,ls,vs,v,r,h,ha=>by
  match ls,vs,h,ha with
  | .u n::r',c::vs',h,ha=>
   simp only[collect,Option.some.injEq,Prod.mk.injEq] at h
   obtain⟨rfl,rfl⟩:=h
   exact⟨[.u _],[c],vs',[],rfl,rfl,⟨ha.1,trivial⟩,ha.2,⟨by rw[show c=_ from ha.1],rfl⟩,by simp,by simp⟩
 | .bool,ls,vs,v,r,h,ha=>by
  match ls,vs,h,ha with
  | .b n::r',c::vs',h,ha=>
   simp only[collect,Option.some.injEq,Prod.mk.injEq] at h
   obtain⟨rfl,rfl⟩:=h
   exact⟨[.b _],[c],vs',[],rfl,rfl,⟨ha.1,trivial⟩,ha.2,⟨by rw[show c=_ from ha.1],rfl⟩,by simp,by simp⟩
 | .str,ls,vs,v,r,h,ha=>by
  match ls,vs,h,ha with
  | .s n::r',c::vs',h,ha=>
   simp only[collect,Option.some.injEq,Prod.mk.injEq] at h
   obtain⟨rfl,rfl⟩:=h
   exact⟨[.s _],[c],vs',[],rfl,rfl,⟨ha.1,trivial⟩,ha.2,⟨by rw[ha.1.1],rfl,ha.1.2⟩,by simp,by simp⟩
 | .sl E e,ls,vs,v,r,h,ha=>by
  match ls,vs,h,ha with
  | .nil::r',c::vs',h,ha=>
   simp only[collect,Option.some.injEq,Prod.mk.injEq] at h
   obtain⟨rfl,rfl⟩:=h
   exact⟨[.nil],[c],vs',[],rfl,rfl,⟨ha.1,trivial⟩,ha.2,⟨none,0,0,by rw[show c=_ from ha.1],rfl,Nat.le_refl _,by simp,.inl ⟨rfl,rfl,fun _=>⟨rfl,rfl⟩⟩⟩,by simp,by simp⟩
  | .sl id::r',c::vs',h,ha=>
   simp only[collect] at h
   split at h
   ·rename_i k lvl E' e' xs hl
    split at h
    ·rename_i ys hc
     simp only[Option.some.injEq,Prod.mk.injEq] at h
     obtain⟨rfl,rfl⟩:=h
     obtain⟨hEE,he,hys⟩:=castE_some hc
     subst hEE
     subst he
     simp only at hys
     subst hys
     have hent:=hE id _ hl
     have hc':c=loc id:=ha.1.1
     cases k with
     | imm taint=>
      obtain⟨fp,g1,g2⟩:=hent
      refine⟨[.sl id],[c],vs',fp,rfl,rfl,⟨ha.1,trivial⟩,ha.2,by rw[hc']; exact g1,?_,?_⟩
      ·intro b hb
       rcases g2 b hb with h|⟨_,i,h⟩<;>simp[h]
      ·intro hs b hb
       simp only[steady,hl] at hs
       cases taint with
       | true=>simp at hs
       | false=>
        rcases g2 b hb with h|⟨h,_⟩
        ·exact h
        ·cases h
     | lent=>
      obtain⟨fp,g1,g2⟩:=hent
      refine⟨[.sl id],[c],vs',fp,rfl,rfl,⟨ha.1,trivial⟩,ha.2,by rw[hc']; exact g1,?_,?_⟩
      ·intro b hb
       rw[g2.2 b hb]; simp
      ·intro hs b hb
       simp only[steady,hl] at hs
       cases hs
     | own u=>
      obtain⟨xb,fs,g1,g2,g3⟩:=hent
      obtain⟨fp,q1,q2⟩:=g1.rd
      refine⟨[.sl id],[c],vs',fp,rfl,rfl,⟨ha.1,trivial⟩,ha.2,by rw[hc']; exact q1,?_,?_⟩
      ·intro b hb
       rcases q2 b hb with h|h
       ·rw[g2 b h]; simp[slIds]
       ·cases u with
        | true=>rw[g3.2 b h]; simp
        | false=>rw[g3 b h]; simp
      ·intro hs b hb
       simp only[steady,hl] at hs
       cases hs
    ·cases h
   ·cases h
 | .pair a b,ls,vs,v,r,h,ha=>by
  simp only[collect] at h
  split at h
  ·rename_i x r1 h1
   split at h
   ·rename_i y r2 h2
    simp only[Option.some.injEq,Prod.mk.injEq] at h
    obtain⟨rfl,rfl⟩:=h
    obtain⟨ls1,vs1,vs2,fp1,p1,p2,p3,p4,p5,p6,p7⟩:=collect_rd hE a ls vs x r1 h1 ha
    obtain⟨ls2,vs3,vs4,fp2,q1,q2,q3,q4,q5,q6,q7⟩:=collect_rd hE b r1 vs2 y _ h2 p4
    refine⟨ls1++ls2,vs1++vs3,vs4,fp1++fp2,by simp[p1,q1],by simp[p2,q2],p3.append q3,q4,⟨vs1,vs3,fp1,fp2,rfl,rfl,p5,q5⟩,?_,?_⟩
    ·have sla : ∀ l1 l2:List Leaf,slIds (l1++l2)=slIds l1++slIds l2:=by
      intro l1 l2
      induction l1 with
      | nil=>rfl
      | cons x l ih=>cases x<;>simp[slIds,ih]
     intro b hb
     rw[sla]
     rcases List.mem_append.1 hb with hb|hb
     ·exact⟨(p6 b hb).1,fun i hi=>by simp[(p6 b hb).2 i hi]⟩
     ·exact⟨(q6 b hb).1,fun i hi=>by simp[(q6 b hb).2 i hi]⟩
    ·have sta : ∀ l1 l2:List Leaf,steady st (l1++l2)=true→steady st l1=true∧steady st l2=true:=by
      intro l1 l2
      induction l1 with
      | nil=>intro h; exact⟨rfl,h⟩
      | cons x l ih=>
       intro h
       cases x with
       | sl id=>
        simp only[List.cons_append,steady] at h ⊢
        split at h
        ·first|exact ih h|(rename_i hl; rw[hl]; exact ih h)
        ·cases h
       | i n=>exact ih h
       | u n=>exact ih h
       | b n=>exact ih h
       | s n=>exact ih h
       | nil=>exact ih h
       | ptr _ _=>simp[steady] at h
       | ep _ _ _ _=>simp[steady] at h
       | fn _ _=>simp[steady] at h
       | any=>simp[steady] at h
       | ap _=>simp[steady] at h
     intro hs b hb
     obtain⟨s1,s2⟩:=sta _ _ hs
     rcases List.mem_append.1 hb with hb|hb
     ·exact p7 s1 b hb
     ·exact q7 s2 b hb
   ·cases h
  ·cases h

theorem slIds_append (l1 l2:List Leaf):slIds (l1++l2)=slIds l1++slIds l2:=by
 induction l1 with
 | nil=>rfl
 | cons x l ih=>cases x<;>simp[slIds,ih]

end Ev

namespace Ev
open Go
set_option linter.unusedVariables false

def IsOwn (st:St) (i:Nat):Prop := ∃ u lvl E e xs,look st.tab i=some (.arr (.own u) lvl E e xs)∧lvl=st.lvl
def IsUniq (st:St) (i:Nat):Prop := ∃ lvl E e xs,look st.tab i=some (.arr (.own true) lvl E e xs)

theorem elem_false {i:Nat} {l:List Nat} (h:l.elem i=false):i∉l:=by
 intro hm
 have:l.elem i=true:=List.elem_eq_true_of_mem hm
 rw[this] at h; cases h

theorem givenO_sl [Tags] {st:St} {id:Nat} {r:List Leaf} {ids:List Nat} (h:givenO st (.sl id::r)=some ids) :
  ∃ rest,givenO st r=some rest∧ids=id::rest∧id∉rest∧IsOwn st id:=by
 simp only[givenO] at h
 split at h
 ·rename_i u lvl E e xs hl
  split at h
  ·rename_i hlv
   split at h
   ·rename_i rest hr
    split at h
    ·cases h
    ·rename_i he
     cases h
     exact⟨rest,hr,rfl,elem_false he,u,lvl,E,e,xs,hl,(beq_iff _ _).1 hlv⟩
   ·cases h
  ·cases h
 ·cases h

theorem given_sl [Tags] {st:St} {id:Nat} {r:List Leaf} {ids:List Nat} (h:given st (.sl id::r)=some ids) :
  ∃ rest,given st r=some rest∧ids=id::rest∧id∉rest∧IsOwn st id∧IsUniq st id:=by
 simp only[given] at h
 split at h
 ·rename_i lvl E e xs hl
  split at h
  ·rename_i hlv
   split at h
   ·rename_i rest hr
    split at h
    ·cases h
    ·rename_i he
     cases h
     exact⟨rest,hr,rfl,elem_false he,⟨true,lvl,E,e,xs,hl,(beq_iff _ _).1 hlv⟩,⟨lvl,E,e,xs,hl⟩⟩
   ·cases h
  ·cases h
 ·cases h

theorem given_givenO [Tags] {st:St} : ∀ {ls:List Leaf} {ids:List Nat},given st ls=some ids→givenO st ls=some ids ∧ ∀ i∈ids,IsUniq st i
 | [],ids,h=>by simp[given] at h; subst h; simp[givenO]
 | .sl id::r,ids,h=>by
  obtain⟨rest,h1,h2,h3,h4,h5⟩:=given_sl h
  obtain⟨g1,g2⟩:=given_givenO h1
  obtain⟨u,lvl,E,e,xs,hl,hv⟩:=h4
  subst h2
  refine⟨?_,?_⟩
  ·simp only[givenO,hl,hv,g1,Nat.beq_refl]
   have:rest.elem id=false:=by
    cases he:rest.elem id with
    | false=>rfl
    | true=>exact absurd (List.mem_of_elem_eq_true he) h3
   rw[this]
  ·intro i hi
   rcases List.mem_cons.1 hi with rfl|hi
   ·exact h5
   ·exact g2 i hi
 | .i _::r,ids,h=>given_givenO (ls:=r) h
 | .u _::r,ids,h=>given_givenO (ls:=r) h
 | .b _::r,ids,h=>given_givenO (ls:=r) h
 | .s _::r,ids,h=>given_givenO (ls:=r) h
 | .nil::r,ids,h=>given_givenO (ls:=r) h
 | .ptr _ _::r,ids,h=>by simp[given] at h
 | .ep _ _ _ _::r,ids,h=>by simp[given] at h
 | .fn _ _::r,ids,h=>by simp[given] at h
 | .any::r,ids,h=>by simp[given] at h
 | .ap _::r,ids,h=>by simp[given] at h

theorem givenO_append [Tags] {st:St} : ∀ {l1 l2:List Leaf} {ids:List Nat},givenO st (l1++l2)=some ids →
  ∃ i1 i2,givenO st l1=some i1∧givenO st l2=some i2∧ids=i1++i2 ∧ ∀ i∈i1,i∉i2
 | [],l2,ids,h=>⟨[],ids,rfl,h,rfl,by simp⟩
 | .sl id::r,l2,ids,h=>by
  obtain⟨rest,h1,h2,h3,u,lvl,E,e,xs,hl,hv⟩:=givenO_sl h
  obtain⟨i1,i2,g1,g2,g3,g4⟩:=givenO_append h1
  subst h2; subst g3
  have h3':id∉i1∧id∉i2:=by simpa using h3
  refine⟨id::i1,i2,?_,g2,rfl,?_⟩
  ·simp only[givenO,hl,hv,g1,Nat.beq_refl]
   have:i1.elem id=false:=by
    cases he:i1.elem id with
    | false=>rfl
    | true=>exact absurd (List.mem_of_elem_eq_true he) h3'.1
   rw[this]
  ·intro i hi
   rcases List.mem_cons.1 hi with rfl|hi
   ·exact h3'.2
   ·exact g4 i hi
 | .i _::r,l2,ids,h=>givenO_append (l1:=r) h
 | .u _::r,l2,ids,h=>givenO_append (l1:=r) h
 | .b _::r,l2,ids,h=>givenO_append (l1:=r) h
 | .s _::r,l2,ids,h=>givenO_append (l1:=r) h
 | .nil::r,l2,ids,h=>givenO_append (l1:=r) h
 | .ptr _ _::r,l2,ids,h=>by simp[givenO] at h
 | .ep _ _ _ _::r,l2,ids,h=>by simp[givenO] at h
 | .fn _ _::r,l2,ids,h=>by simp[givenO] at h
 | .any::r,l2,ids,h=>by simp[givenO] at h
 | .ap _::r,l2,ids,h=>by simp[givenO] at h

theorem givenO_own [Tags] {st:St} : ∀ {ls:List Leaf} {ids:List Nat},givenO st ls=some ids → ∀ i∈ids,IsOwn st i
 | [],ids,h=>by simp[givenO] at h; subst h; simp
 | .sl id::r,ids,h=>by
  obtain⟨rest,h1,h2,h3,h4⟩:=givenO_sl h
  subst h2
  intro i hi
  rcases List.mem_cons.1 hi with rfl|hi
  ·exact h4
  ·exact givenO_own h1 i hi
 | .i _::r,ids,h=>givenO_own (ls:=r) h
 | .u _::r,ids,h=>givenO_own (ls:=r) h
 | .b _::r,ids,h=>givenO_own (ls:=r) h
 | .s _::r,ids,h=>givenO_own (ls:=r) h
 | .nil::r,ids,h=>givenO_own (ls:=r) h
 | .ptr _ _::r,ids,h=>by simp[givenO] at h
 | .ep _ _ _ _::r,ids,h=>by simp[givenO] at h
 | .fn _ _::r,ids,h=>by simp[givenO] at h
 | .any::r,ids,h=>by simp[givenO] at h
 | .ap _::r,ids,h=>by simp[givenO] at h

theorem collect_split {tab:List (Nat×Ent)} : ∀ (t:Ty) (ls:List Leaf) (v:den t) (r:List Leaf),collect tab t ls=some (v,r) → ∃ l1,ls=l1++r
 | .i64,ls,v,r,h=>by
  match ls,h with
  | .i n::r',h=>simp only[collect,Option.some.injEq,Prod.mk.injEq] at h; exact⟨[.i n],by simp[h.2]⟩
 | .u8,ls,v,r,h=>by
  match ls,h with
  | .u n::r',h=>simp only[collect,Option.some.injEq,Prod.mk.injEq] at h; exact⟨[.u n],by simp[h.2]⟩
 | .bool,ls,v,r,h=>by
  match ls,h with
  | .b n::r',h=>simp only[collect,Option.some.injEq,Prod.mk.injEq] at h; exact⟨[.b n],by simp[h.2]⟩
 | .str,ls,v,r,h=>by
  match ls,h with
  | .s n::r',h=>simp only[collect,Option.some.injEq,Prod.mk.injEq] at h; exact⟨[.s n],by simp[h.2]⟩
 | .sl E e,ls,v,r,h=>by
  match ls,h with
  | .nil::r',h=>simp only[collect,Option.some.injEq,Prod.mk.injEq] at h; exact⟨[.nil],by simp[h.2]⟩
  | .sl id::r',h=>
   simp only[collect] at h
   split at h
   ·split at h
    ·simp only[Option.some.injEq,Prod.mk.injEq] at h; exact⟨[.sl id],by simp[h.2]⟩
    ·cases h
   ·cases h
 | .pair a b,ls,v,r,h=>by
  simp only[collect] at h
  split at h
  ·rename_i x r1 h1
   split at h
   ·rename_i y r2 h2
    simp only[Option.some.injEq,Prod.mk.injEq] at h
    obtain⟨l1,e1⟩:=collect_split a ls x r1 h1
    obtain⟨l2,e2⟩:=collect_split b r1 y r2 h2
    exact⟨l1++l2,by simp[e1,e2,h.2]⟩
   ·cases h
  ·cases h

theorem nodup_append' {l1 l2:List Nat} (h1:l1.Nodup) (h2:l2.Nodup) (h : ∀ x∈l1,x∉l2):(l1++l2).Nodup:=
 List.nodup_append.2 ⟨h1,h2,fun a ha b hb e=>h a ha (e▸hb)⟩

theorem collect_own [Tags] {γ:Nat→Own} {loc:Nat→Value} {w:World} {st:St} (hE : ∀ (id:Nat) (e:Ent),look st.tab id=some e→EntOk γ loc w id e) :
  ∀ (t:Ty) (ls:List Leaf) (vs:List Value) (v:den t) (r:List Leaf),collect st.tab t ls=some (v,r)→All2 (LeafOk loc) ls vs →
   ∀ ls1 ids,ls=ls1++r→givenO st ls1=some ids →
   ∃ vs1 vs2 xs fs,vs=vs1++vs2∧All2 (LeafOk loc) r vs2∧RdO w t v vs1 xs fs∧xs.Nodup∧(∀ b∈xs,∃ i∈ids,γ b = .top i) ∧
    (∀ b∈fs,γ b = .persist ∨ ∃ i∈ids,γ b = .deep i)∧((∀ i∈ids,IsUniq st i)→fs.Nodup ∧ ∀ b∈fs,∃ i∈ids,γ b = .deep i)
 | .i64,ls,vs,v,r,h,ha,ls1,ids,hls,hg=>by
  match ls,vs,h,ha with
  | .i n::r',c::vs',h,ha=>
   simp only[collect,Option.some.injEq,Prod.mk.injEq] at h
   obtain⟨rfl,rfl⟩:=h
   exact⟨[c],vs',[],[],rfl,ha.2,⟨⟨by rw[ha.1.1],rfl,ha.1.2⟩,rfl,rfl⟩,by simp,by simp,by simp,by simp⟩
 | .u8,ls,vs,v,r,h,ha,ls1,ids,hls,hg=>by
  match ls,vs,h,ha with
  | .u n::r',c::vs',h,ha=>
   simp only[collect,Option.some.injEq,Prod.mk.injEq] at h
   obtain⟨rfl,rfl⟩:=h
   exact⟨[c],vs',[],[],rfl,ha.2,⟨⟨by rw[show c=_ from ha.1],rfl⟩,rfl,rfl⟩,by simp,by simp,by simp,by simp⟩
 | .bool,ls,vs,v,r,h,ha,ls1,ids,hls,hg=>by
  match ls,vs,h,ha with
  | .b n::r',c::vs',h,ha=>
   simp only[collect,Option.some.injEq,Prod.mk.injEq] at h
   obtain⟨rfl,rfl⟩:=h
   exact⟨[c],vs',[],[],rfl,ha.2,⟨⟨by rw[show c=_ from ha.1],rfl⟩,rfl,rfl⟩,by simp,by simp,by simp,by simp⟩
 | .str,ls,vs,v,r,h,ha,ls1,ids,hls,hg=>by
  match ls,vs,h,ha with
  | .s n::r',c::vs',h,ha=>
   simp only[collect,Option.some.injEq,Prod.mk.injEq] at h
   obtain⟨rfl,rfl⟩:=h
   exact⟨[c],vs',[],[],rfl,ha.2,⟨⟨by rw[ha.1.1],rfl,ha.1.2⟩,rfl,rfl⟩,by simp,by simp,by simp,by simp⟩
 | .sl E e,ls,vs,v,r,h,ha,ls1,ids,hls,hg=>by
  match ls,vs,h,ha with
  | .nil::r',c::vs',h,ha=>
   simp only[collect,Option.some.injEq,Prod.mk.injEq] at h
   obtain⟨rfl,rfl⟩:=h
   exact⟨[c],vs',[],[],rfl,ha.2,.inl ⟨rfl,by rw[show c=_ from ha.1],rfl,rfl⟩,by simp,by simp,by simp,by simp⟩
  | .sl id::r',c::vs',h,ha=>
   simp only[collect] at h
   split at h
   ·rename_i k lvl E' e' xs hl
    split at h
    ·rename_i ys hc
     simp only[Option.some.injEq,Prod.mk.injEq] at h
     obtain⟨rfl,rfl⟩:=h
     obtain⟨hEE,he,hys⟩:=castE_some hc
     subst hEE
     subst he
     simp only at hys
     subst hys
     have hls1:ls1=[.sl id]:=by
      have:[Leaf.sl id]++r'=ls1++r':=hls
      exact (List.append_cancel_right this).symm
     subst hls1
     obtain⟨rest,g1,g2,g3,u,lvl',E'',e'',xs',hl',hv⟩:=givenO_sl hg
     rw[hl] at hl'
     cases hl'
     simp only[givenO,Option.some.injEq] at g1
     subst g1; subst g2
     obtain⟨xb,fs,q1,q2,q3⟩:=hE id _ hl
     have hc':c=loc id:=ha.1.1
     refine⟨[c],vs',xb,fs,rfl,ha.2,by rw[hc']; exact q1,?_,?_,?_,?_⟩
     ·rcases q1 with⟨_,_,h,_⟩|⟨b,cap,arr,T,fr,_,_,_,_,_,_,_,h⟩<;>simp[h]
     ·intro b hb; exact⟨id,by simp,q2 b hb⟩
     ·intro b hb
      cases u with
      | true=>exact .inr ⟨id,by simp,q3.2 b hb⟩
      | false=>exact .inl (q3 b hb)
     ·intro hu
      obtain⟨l2,E2,e2,xs2,hl2⟩:=hu id (by simp)
      rw[hl] at hl2
      cases hl2
      exact⟨q3.1,fun b hb=>⟨id,by simp,q3.2 b hb⟩⟩
    ·cases h
   ·cases h
 | .pair a b,ls,vs,v,r,h,ha,ls1,ids,hls,hg=>by
  simp only[collect] at h
  split at h
  ·rename_i x r1 h1
   split at h
   ·rename_i y r2 h2
    simp only[Option.some.injEq,Prod.mk.injEq] at h
    obtain⟨rfl,rfl⟩:=h
    obtain⟨la,ea⟩:=collect_split a ls x r1 h1
    obtain⟨lb,eb⟩:=collect_split b r1 y _ h2
    have e1:ls1=la++lb:=by
     have:ls1++r2=(la++lb)++r2:=by rw[←hls,ea,eb]; simp
     exact List.append_cancel_right this
    subst e1
    obtain⟨i1,i2,g1,g2,g3,g4⟩:=givenO_append hg
    subst g3
    obtain⟨vs1,vs2,xs1,fs1,p1,p2,p3,p4,p5,p6,p7⟩:=collect_own hE a ls vs x r1 h1 ha la i1 ea g1
    obtain⟨vs3,vs4,xs2,fs2,q1,q2,q3,q4,q5,q6,q7⟩:=collect_own hE b r1 vs2 y _ h2 p2 lb i2 eb g2
    refine⟨vs1++vs3,vs4,xs1++xs2,fs1++fs2,by simp[p1,q1],q2,⟨vs1,vs3,xs1,xs2,fs1,fs2,rfl,rfl,rfl,p3,q3⟩,?_,?_,?_,?_⟩
    ·refine nodup_append' p4 q4 (fun c hc hc' => ?_)
     obtain⟨i,hi,e1⟩:=p5 c hc
     obtain⟨i',hi',e2⟩:=q5 c hc'
     rw[e1] at e2; cases e2
     exact g4 i hi hi'
    ·intro c hc
     rcases List.mem_append.1 hc with hc|hc
     ·obtain⟨i,hi,e⟩:=p5 c hc; exact⟨i,by simp[hi],e⟩
     ·obtain⟨i,hi,e⟩:=q5 c hc; exact⟨i,by simp[hi],e⟩
    ·intro c hc
     rcases List.mem_append.1 hc with hc|hc
     ·rcases p6 c hc with h|⟨i,hi,e⟩
      ·exact .inl h
      ·exact .inr ⟨i,by simp[hi],e⟩
     ·rcases q6 c hc with h|⟨i,hi,e⟩
      ·exact .inl h
      ·exact .inr ⟨i,by simp[hi],e⟩
    ·intro hu
     obtain⟨n1,d1⟩:=p7 (fun i hi=>hu i (by simp[hi]))
     obtain⟨n2,d2⟩:=q7 (fun i hi=>hu i (by simp[hi]))
     refine⟨nodup_append' n1 n2 (fun c hc hc' => ?_),?_⟩
     ·obtain⟨i,hi,e1⟩:=d1 c hc
      obtain⟨i',hi',e2⟩:=d2 c hc'
      rw[e1] at e2; cases e2
      exact g4 i hi hi'
     ·intro c hc
      rcases List.mem_append.1 hc with hc|hc
      ·obtain⟨i,hi,e⟩:=d1 c hc; exact⟨i,by simp[hi],e⟩
      ·obtain⟨i,hi,e⟩:=d2 c hc; exact⟨i,by simp[hi],e⟩
   ·cases h
  ·cases h

end Ev

namespace Ev
open Go
set_option linter.unusedVariables false


def zeroV:Ty→List Value
 | .i64=>[.int .i64 0] | .u8=>[.int .u8 0] | .bool=>[.bool false] | .str=>[.string ⟨⟨[]⟩⟩] | .sl _ _=>[.slice none 0 0]
 | .pair a b=>zeroV a++zeroV b

def valOf (t:Ty) (cs:List Value):Value:=if t.isPair then .agg cs.toArray else cs.headD undef

def isZ1:Value→Value→Bool
 | .int .i64 0,.int .i64 0=>true
 | .int .u8 0,.int .u8 0=>true
 | .bool false,.bool false=>true
 | .string a,.string b=>a.data.toList.isEmpty && b.data.toList.isEmpty
 | .slice none 0 0,.slice none 0 0=>true
 | _,_=>false

theorem isZ1_eq {a b:Value} (h:isZ1 a b=true):a=b:=by
 unfold isZ1 at h
 split at h
 ·rfl
 ·rfl
 ·rfl
 ·next x y=>
  simp only[Bool.and_eq_true,List.isEmpty_iff] at h
  obtain⟨⟨l⟩⟩:=x
  obtain⟨⟨m⟩⟩:=y
  simp only at h
  obtain⟨rfl,rfl⟩:=h
  rfl
 ·rfl
 ·cases h

def isZs:List Value→List Value→Bool
 | [],[]=>true
 | a::r,b::s=>isZ1 a b && isZs r s
 | _,_=>false

theorem isZs_eq [Tags] : ∀ {a b:List Value},isZs a b=true→a=b
 | [],[],_=>rfl
 | a::r,b::s,h=>by simp only[isZs,Bool.and_eq_true] at h; rw[isZ1_eq h.1,isZs_eq h.2]
 | [],_::_,h=>by cases h
 | _::_,[],h=>by cases h

def isZ:Value→Ty→Bool
 | .agg cs,.pair a b=>isZs cs.toList (zeroV (.pair a b))
 | v,.i64=>isZ1 v (.int .i64 0)
 | v,.u8=>isZ1 v (.int .u8 0)
 | v,.bool=>isZ1 v (.bool false)
 | v,.str=>isZ1 v (.string ⟨⟨[]⟩⟩)
 | v,.sl _ _=>isZ1 v (.slice none 0 0)
 | _,_=>false

theorem isZ_eq [Tags] {v:Value} {t:Ty} (h:isZ v t=true):v=valOf t (zeroV t):=by
 unfold isZ at h
 split at h<;>first|exact isZ1_eq h|(cases h; done)|skip
 ·have:=isZs_eq h
  simp only[valOf,Ty.isPair,if_true]
  rw[←this]

def fldsOk (tys:List (Nat×TD)) (n:Nat):List Field→List (Nat×Nat)→Bool
 | [],[]=>true
 | f::fs,(off,ft)::r=>Nat.beq f.offset off && Nat.beq f.type ft && (match lk tys ft with
   | some d=>d.arr.isNone && Nat.ble (off+d.ty.size) n
   | none=>false) && fldsOk tys n fs r
 | _,_=>false

def undOk (tys:List (Nat×TD)) (d:TD):TypeDesc→Bool
 | .int .i64=>decide (d.ty = .i64) && d.arr.isNone
 | .int .u8=>decide (d.ty = .u8) && d.arr.isNone
 | .bool=>decide (d.ty = .bool) && d.arr.isNone
 | .string=>decide (d.ty = .str) && d.arr.isNone
 | .slice E=>d.arr.isNone && (match d.ty with
  | .sl E' e=>Nat.beq E E' && (match lk tys E with|some de=>decide (de.ty=e) && de.arr.isNone|none=>false)
  | _=>false)
 | .array n E=>(match d.arr,d.ty with
  | some m,.sl E' e=>Nat.beq n m && Nat.beq E E' && (match lk tys E with|some de=>decide (de.ty=e) && de.arr.isNone|none=>false)
  | _,_=>false)
 | .struct fs=>d.arr.isNone && d.ty.isPair && fldsOk tys d.ty.size fs.toList d.flds
 | _=>false

def zsOk:Nat→List Value→List Value→Bool
 | 0,_,[]=>true
 | n+1,z,cs=>isZs (cs.take z.length) z && zsOk n z (cs.drop z.length)
 | _,_,_=>false

def infoOk (d:TD) (i:TypeInfo):Bool:=
 (Nat.beq i.bytes d.bytes && Nat.ble 1 d.bytes) && (match d.arr with
  | none=>Nat.beq i.size d.ty.size && (match i.zero with|some v=>isZ v d.ty|none=>false)
  | some n=>(match d.ty,i.zero with
   | .sl _ e,some (.agg cs)=>Nat.beq i.size (n*e.size) && zsOk n (zeroV e) cs.toList
   | _,_=>false))

def tdOk (P:Program) (tys:List (Nat×TD)) (t:Nat) (d:TD):Bool:=
 (d.flds.isEmpty || (d.ty.isPair && d.arr.isNone)) &&   (match P.info? t with|some i=>infoOk d i|none=>false) && (match P.underlying t with|some u=>undOk tys d u|none=>false)

def postOk [Tags] (d:TD):Bool:=d.arr.isNone && (match d.ty with | .sl E e => !Nat.beq E Tags.post || Nat.beq e.size 18|_=>true)

def tysOk [Tags] (P:Program) (tys:List (Nat×TD)):Bool:=tys.all fun x=>tdOk P tys x.1 x.2 && postOk x.2

theorem lk_mem {α:Type} : ∀ {l:List (Nat×α)} {i:Nat} {x:α},lk l i=some x→(i,x)∈l
 | [],_,_,h=>by cases h
 | (k,e)::r,i,x,h=>by
  simp only[lk] at h
  cases hk:Nat.beq k i with
  | true=>rw[hk] at h; simp at h; subst h; rw[(beq_iff _ _).1 hk]; simp
  | false=>rw[hk] at h; simp only at h; exact List.mem_cons_of_mem _ (lk_mem h)

theorem tdOk_of [Tags] {P:Program} {tys:List (Nat×TD)} (h:tysOk P tys=true) {t:Nat} {d:TD} (hd:lk tys t=some d):tdOk P tys t d=true:=
 ((Bool.and_eq_true _ _).mp (List.all_eq_true.1 h _ (lk_mem hd))).1

theorem post_of [Tags] {P:Program} {tys:List (Nat×TD)} (h:tysOk P tys=true) {t:Nat} {d:TD} (hd:lk tys t=some d):d.arr=none ∧ ∀ {E:Nat} {e:Ty},d.ty = .sl E e→E=Tags.post→e.size=18:=by
 have h1:=((Bool.and_eq_true _ _).mp (List.all_eq_true.1 h _ (lk_mem hd))).2
 simp only[postOk,Bool.and_eq_true,Option.isNone_iff_eq_none] at h1
 refine⟨h1.1,fun {E e} he hE => ?_⟩
 have h2:=h1.2
 rw[he] at h2
 simp only[Bool.or_eq_true,Bool.not_eq_true'] at h2
 rcases h2 with h2|h2
 ·exact absurd hE ((beq_ff _ _).1 h2)
 ·exact (beq_iff _ _).1 h2

structure TOk (P:Program) (tys:List (Nat×TD)) (t:Nat) (d:TD):Prop where
 info : ∃ i,P.info? t=some i∧infoOk d i=true
 und : ∃ u,P.underlying t=some u∧undOk tys d u=true
 flds:d.flds≠[]→d.ty.isPair=true∧d.arr=none

theorem tOk [Tags] {P:Program} {tys:List (Nat×TD)} (h:tysOk P tys=true) {t:Nat} {d:TD} (hd:lk tys t=some d):TOk P tys t d:=by
 have:=tdOk_of h hd
 unfold tdOk at this
 simp only[Bool.and_eq_true] at this
 obtain⟨⟨this0,this1⟩,this2⟩:=this
 have this:=And.intro this1 this2
 refine⟨?_,?_,?_⟩
 ·cases hi:P.info? t with
  | none=>rw[hi] at this; simp at this
  | some i=>rw[hi] at this; exact⟨i,rfl,this.1⟩
 ·cases hi:P.underlying t with
  | none=>rw[hi] at this; simp at this
  | some u=>rw[hi] at this; exact⟨u,rfl,this.2⟩
 ·intro hne
  simp only[Bool.or_eq_true,List.isEmpty_iff,Bool.and_eq_true,Option.isNone_iff_eq_none] at this0
  exact this0.resolve_left hne

theorem run_typeInfo' {P:Program} {t:TypeId} {i:TypeInfo} (h:P.info? t=some i) (w:World):(typeInfo t).run P w = .ok i w:=by
 simp[typeInfo,h]

theorem run_und {P:Program} {t:TypeId} {u:TypeDesc} (h:P.underlying t=some u) (w:World):(underlying t).run P w = .ok u w:=by
 simp[underlying,h]

theorem run_sizeOf [Tags] {P:Program} {t:TypeId} {i:TypeInfo} (h:P.info? t=some i) (w:World):(Go.sizeOf t).run P w = .ok i.size w:=by
 simp[Go.sizeOf,run_typeInfo' h]

theorem run_zeroValue [Tags] {P:Program} {t:TypeId} {i:TypeInfo} {v:Value} (h:P.info? t=some i) (hz:i.zero=some v) (w:World):(zeroValue t).run P w = .ok v w:=by
 simp[zeroValue,run_typeInfo' h,hz]

variable {P:Program} {tys:List (Nat×TD)} {t:Nat} {d:TD}

theorem TOk.size [Tags] (h:TOk P tys t d) (ha:d.arr=none) (w:World):(Go.sizeOf t).run P w = .ok d.ty.size w:=by
 obtain⟨i,hi,hc⟩:=h.info
 rw[run_sizeOf hi]
 simp only[infoOk,ha,Bool.and_eq_true] at hc
 rw[(beq_iff _ _).1 hc.2.1]

theorem TOk.bytes (h:TOk P tys t d) : ∃ i,P.info? t=some i∧i.bytes=d.bytes∧1≤d.bytes:=by
 obtain⟨i,hi,hc⟩:=h.info
 simp only[infoOk,Bool.and_eq_true] at hc
 exact⟨i,hi,(beq_iff _ _).1 hc.1.1,Nat.le_of_ble_eq_true hc.1.2⟩

theorem TOk.zero [Tags] (h:TOk P tys t d) (ha:d.arr=none) (w:World):(zeroValue t).run P w = .ok (valOf d.ty (zeroV d.ty)) w:=by
 obtain⟨i,hi,hc⟩:=h.info
 simp only[infoOk,ha,Bool.and_eq_true] at hc
 cases hz:i.zero with
 | none=>rw[hz] at hc; simp at hc
 | some v=>rw[hz] at hc; rw[run_zeroValue hi hz,isZ_eq hc.2.2]

theorem TOk.isAgg [Tags] (h:TOk P tys t d) (ha:d.arr=none) (w:World):(isAgg t).run P w = .ok d.ty.isPair w:=by
 obtain⟨u,hu,hc⟩:=h.und
 simp only[Go.isAgg,Sem.run_bind,run_und hu,Result.andThen_ok]
 unfold undOk at hc
 split at hc
 ·simp only[Bool.and_eq_true,decide_eq_true_eq] at hc; rw[hc.1]; rfl
 ·simp only[Bool.and_eq_true,decide_eq_true_eq] at hc; rw[hc.1]; rfl
 ·simp only[Bool.and_eq_true,decide_eq_true_eq] at hc; rw[hc.1]; rfl
 ·simp only[Bool.and_eq_true,decide_eq_true_eq] at hc; rw[hc.1]; rfl
 ·simp only[Bool.and_eq_true] at hc
  split at hc
  ·next heq=>rw[heq]; rfl
  ·simp at hc
 ·rw[ha] at hc; simp at hc
 ·simp only[Bool.and_eq_true] at hc; rw[hc.1.2]; rfl
 ·cases hc

theorem zeroV_len : ∀ t:Ty,(zeroV t).length=t.size
 | .i64 | .u8 | .bool | .str | .sl _ _=>rfl
 | .pair a b=>by simp[zeroV,zeroV_len a,zeroV_len b,Ty.size]

theorem valOf_cells {t:Ty} {cs:List Value} (h:cs.length=t.size) (h1 : ∀ c∈cs,c.oneCell'=true):(valOf t cs).cells.toList=cs:=by
 unfold valOf
 cases hp:t.isPair with
 | true=>simp[Value.cells]
 | false=>
  have hs:t.size=1:=by cases t<;>simp_all [Ty.isPair,Ty.size]
  rw[hs] at h
  match cs,h with
  | [c],_=>
   have:=h1 c (by simp)
   cases c<;>simp_all [Value.cells,Value.oneCell']

end Ev

namespace Ev
open Go
set_option linter.unusedVariables false

def putBlk (w:World) (b:Nat) (o:Obj):World:={ w with heap:=w.heap.setIfInBounds b o }
def pushBlk (w:World) (o:Obj):World:={ w with heap:=w.heap.push o }

def setAt {α:Type} (l:List α) (k:Nat) (vs:List α):List α:=l.take k++vs++l.drop (k+vs.length)

theorem setAt_nil {α:Type} (l:List α) (k:Nat):setAt l k []=l:=by simp[setAt]

theorem setAt_len {α:Type} {l:List α} {k:Nat} {vs:List α} (h:k+vs.length≤l.length):(setAt l k vs).length=l.length:=by
 simp[setAt]; omega

theorem setAt_get {α:Type} (l:List α) (k:Nat) (vs:List α) (hk:k+vs.length≤l.length) (j:Nat) :
  (setAt l k vs)[j]?=if j<k then l[j]? else if j<k+vs.length then vs[j - k]? else l[j]?:=by
 unfold setAt
 by_cases h1:j<k
 ·rw[if_pos h1,List.getElem?_append_left (by simp; omega),List.getElem?_append_left (by simp; omega),List.getElem?_take_of_lt h1]
 ·rw[if_neg h1]
  by_cases h2:j<k+vs.length
  ·rw[if_pos h2,List.getElem?_append_left (by simp; omega),List.getElem?_append_right (by simp; omega)]
   congr 1; simp; omega
  ·rw[if_neg h2,List.getElem?_append_right (by simp; omega),List.getElem?_drop]
   congr 1; simp; omega

theorem setAt_set [Tags] {α:Type} (l:List α) (k:Nat) (v:α) (vs:List α) (h:k+(vs.length+1)≤l.length):setAt (l.set k v) (k+1) vs=setAt l k (v::vs):=by
 apply List.ext_getElem?
 intro j
 rw[setAt_get _ _ _ (by simp; omega),setAt_get _ _ _ (by simp; omega)]
 by_cases h1:j<k
 ·rw[if_pos (by omega),if_pos h1,List.getElem?_set_ne (by omega)]
 ·rw[if_neg h1]
  by_cases h2:j=k
  ·subst h2
   rw[if_pos (by omega),if_pos (by simp)]
   simp[show j<l.length by omega]
  ·rw[if_neg (by omega)]
   by_cases h3:j<k+1+vs.length
   ·rw[if_pos h3,if_pos (by simp; omega),show j - k=(j - (k+1))+1 by omega,List.getElem?_cons_succ]
   ·rw[if_neg h3,if_neg (by simp; omega),List.getElem?_set_ne (by omega)]

theorem add_plain (b o n:Nat):(⟨b,o,none⟩:Addr).add n=⟨b,o+n,none⟩:=by
 unfold Addr.add; split<;>simp_all

theorem cell_at {w:World} {b o:Nat} {arr:Array Value} {T:TypeId} {fr:Nat×Nat} (h:w.heap[b]?=some (.cells arr T fr)):w.cell? ⟨b,o,none⟩=arr[o]?:=by
 simp[World.cell?,h]

theorem frozen_at {w:World} {b o:Nat} {arr:Array Value} {T:TypeId} {fr:Nat×Nat} (h:w.heap[b]?=some (.cells arr T fr)) (hf:frees fr arr.size) (ho:o<arr.size) :
  w.frozen? ⟨b,o,none⟩=false:=by
 obtain⟨lo,hi⟩:=fr
 simp only[World.frozen?,h]
 exact hf o (Nat.le_of_lt ho)

theorem setCell_at {w:World} {b o:Nat} {arr:Array Value} {T:TypeId} {fr:Nat×Nat} (v:Value) (h:w.heap[b]?=some (.cells arr T fr)) :
  w.setCell ⟨b,o,none⟩ v=putBlk w b (.cells (arr.setIfInBounds o v) T fr):=by
 unfold World.setCell putBlk
 congr 1
 apply Array.ext_getElem?
 intro j
 simp only[Array.getElem?_modify,Array.getElem?_setIfInBounds]
 by_cases hj:b=j
 ·subst hj
  obtain⟨hlt,he⟩:=Array.getElem?_eq_some_iff.1 h
  simp[hlt,he]
 ·simp[hj]

theorem putBlk_get [Tags] {w:World} {b:Nat} {o o':Obj} (h:w.heap[b]?=some o'):(putBlk w b o).heap[b]?=some o:=by
 simp[putBlk,lt_of_get h]

theorem putBlk_ne {w:World} {b c:Nat} {o:Obj} (h:c≠b):(putBlk w b o).heap[c]?=w.heap[c]?:=by
 simp[putBlk,Array.getElem?_setIfInBounds_ne (fun e=>h e.symm)]

theorem putBlk_put (w:World) (b:Nat) (o o':Obj):putBlk (putBlk w b o) b o'=putBlk w b o':=by
 simp[putBlk]

theorem putBlk_self {w:World} {b:Nat} {o:Obj} (h:w.heap[b]?=some o):putBlk w b o=w:=by
 unfold putBlk
 congr 1
 apply Array.ext_getElem?
 intro j
 simp only[Array.getElem?_setIfInBounds]
 by_cases hj:b=j
 ·subst hj
  obtain⟨hlt,he⟩:=Array.getElem?_eq_some_iff.1 h
  simp[hlt,he]
 ·simp[hj]

theorem run_storeCells' [Tags] {P:Program} (b o:Nat) (T:TypeId) (fr:Nat×Nat) : ∀ (vs:List Value) (i:Nat) (arr:Array Value) (w:World),
  w.heap[b]?=some (.cells arr T fr)→frees fr arr.size→o+i+vs.length≤arr.size→(∀ v∈vs,v.oneCell'=true) →
  (storeCells ⟨b,o,none⟩ vs i).run P w = .ok () (putBlk w b (.cells (setAt arr.toList (o+i) vs).toArray T fr))
 | [],i,arr,w,h,_,_,_=>by
  simp only[storeCells,setAt_nil,Array.toArray_toList]
  rw[putBlk_self h]; rfl
 | v::vs,i,arr,w,h,hf,hl,h1=>by
  have hlt:o+i<arr.size:=by simp at hl; omega
  have hst:(store ((⟨b,o,none⟩:Addr).add i) v).run P w = .ok () (putBlk w b (.cells (arr.setIfInBounds (o+i) v) T fr)):=by
   rw[add_plain,run_store P w _ v _ (h1 v (by simp)),cell_at h]
   simp only[Array.getElem?_eq_getElem hlt,frozen_at h hf hlt,Bool.false_eq_true,if_false]
   rw[setCell_at v h]
  have ih:=run_storeCells' (P:=P) b o T fr vs (i+1) (arr.setIfInBounds (o+i) v) (putBlk w b (.cells (arr.setIfInBounds (o+i) v) T fr)) (putBlk_get h)
   (by simpa using hf) (by simp at hl ⊢; omega) (fun x hx=>h1 x (by simp[hx]))
  simp only[storeCells,Sem.run_bind,hst,Result.andThen_ok,ih,putBlk_put]
  congr 4
  rw[Array.toList_setIfInBounds,show o+(i+1)=o+i+1 by omega,setAt_set _ _ _ _ (by simp at hl ⊢; omega)]

theorem run_loadCells' [Tags] {P:Program} {w:World} {b o n:Nat} {arr:Array Value} {T:TypeId} {fr:Nat×Nat} (h:w.heap[b]?=some (.cells arr T fr)) (hn:o+n≤arr.size) :
  (loadCells ⟨b,o,none⟩ n).run P w = .ok ((arr.toList.drop o).take n).toArray w:=by
 have hlen:((arr.toList.drop o).take n).length=n:=by simp; omega
 have:=run_loadCells_list (P:=P) (w:=w) ⟨b,o,none⟩ ((arr.toList.drop o).take n) (fun j v hj=>by
  rw[add_plain,cell_at h]
  rw[List.getElem?_take] at hj
  split at hj
  ·rw[List.getElem?_drop] at hj; simpa using hj
  ·cases hj)
 rw[hlen] at this
 exact this

variable {P:Program} {tys:List (Nat×TD)} {t:Nat} {d:TD}

theorem run_loadVar [Tags] (ht:TOk P tys t d) (ha:d.arr=none) {w:World} {b o:Nat} {arr:Array Value} {T:TypeId} {fr:Nat×Nat}
  (h:w.heap[b]?=some (.cells arr T fr)) (hn:o+d.ty.size≤arr.size) :
  (loadVar t ⟨b,o,none⟩).run P w = .ok (valOf d.ty ((arr.toList.drop o).take d.ty.size)) w:=by
 simp only[loadVar,Sem.run_bind,ht.isAgg ha,Result.andThen_ok]
 cases hp:d.ty.isPair with
 | true=>
  simp only[if_true,Sem.run_bind,ht.size ha,Result.andThen_ok,run_loadCells' h hn,valOf,hp]
  rfl
 | false=>
  have hs:d.ty.size=1:=by cases hd:d.ty<;>simp_all [Ty.isPair,Ty.size]
  have hlt:o<arr.size:=by omega
  simp only[Bool.false_eq_true,if_false,run_load,cell_at h,Array.getElem?_eq_getElem hlt,valOf,hp,hs]
  have e:(arr.toList.drop o)=arr[o]::arr.toList.drop (o+1):=by
   rw[List.drop_eq_getElem_cons (by simpa using hlt)]; simp
  rw[e]; rfl

theorem run_newVar {t:TypeId} {v:Value} (w:World):(newVar t v).run P w = .ok ⟨w.heap.size,0,none⟩ (pushBlk w (.cells v.cells t)):=by
 simp[newVar,newRow,pushBlk]

theorem pushBlk_get (w:World) (o:Obj):(pushBlk w o).heap[w.heap.size]?=some o:=by
 show (w.heap.push o)[w.heap.size]?=_
 simp
theorem pushBlk_lt {w:World} {o:Obj} {b:Nat} (h:b<w.heap.size):(pushBlk w o).heap[b]?=w.heap[b]?:=by
 simp only[pushBlk,Array.getElem?_push]
 rw[if_neg (by omega)]
theorem pushBlk_size (w:World) (o:Obj):(pushBlk w o).heap.size=w.heap.size+1:=by simp[pushBlk]

theorem frees0 (n:Nat):frees (0,0) n:=fun o _=>by simp

theorem reshape {w:World} {b:Nat} {arr arr1:Array Value} {T:TypeId} {fr:Nat×Nat} (h:w.heap[b]?=some (.cells arr T fr)) (hs:arr1.size=arr.size) :
  ∀ arr0 T0 fr0,w.heap[b]?=some (.cells arr0 T0 fr0) → ∃ arr',Obj.cells arr1 T fr = .cells arr' T0 fr0∧arr'.size=arr0.size:=by
 intro arr0 T0 fr0 h0
 rw[h] at h0
 cases h0
 exact⟨arr1,rfl,hs⟩

theorem whole {arr0:Array Value} {T0:TypeId} {fr0:Nat×Nat} (h0:frees fr0 arr0.size) : ∀ arr T fr,Obj.cells arr0 T0 fr0 = .cells arr T fr→frees fr arr.size:=by
 intro arr T fr e
 cases e
 exact h0

end Ev

namespace Ev
open Go
set_option linter.unusedVariables false

variable {P:Program} {o:Oper} {a:Act} {w w':World} {next:Act→World→Prop} {Q:Exit→Act→World→Prop}

theorem wp_val {v:Value} (h:(execOp a.eval o).run P w = .ok (.value v) w') (hn:next (a.put o.dst v) w'):o.wp P a w next Q:=by
 unfold Oper.wp; rw[h]; exact hn

theorem wp_skp (h:(execOp a.eval o).run P w = .ok .skip w') (hn:next (a.put o.dst undef) w'):o.wp P a w next Q:=by
 unfold Oper.wp; rw[h]; exact hn

variable {B:Nat} {X:List Nat} {A:Ctx} {w0:World} {γ γ':Nat→Own} {loc loc':Nat→Value} {st st1:St} {R:Type} {k:St→Option R} {r:R}

def Follows [Tags] (B:Nat) (X:List Nat) (A:Ctx) (w0:World) (k:St→Option R) (r:R) (D:List Nat) (st:St) (next:Act→World→Prop):Prop:=
 ∀ st',k st'=some r→Pres D st st' → ∀ a' w',Rel B X A w0 st' a' w'→next a' w'

theorem fin_val [Tags] {x:AV} {v:Value} (hn:Follows B X A w0 k r o.dst.toList st next) (hrun:(execOp a.eval o).run P w = .ok (.value v) w')
  (hr:Rel0 B X A w0 γ' loc' st1 a w') (hp:Pres [] st st1) (hv:AVOk loc' x v) (hx:x.lt st1.nxt) (hk:k (st1.put o.dst x)=some r):o.wp P a w next Q:=
 wp_val hrun (hn _ hk (hp.putAfter o.dst x) _ _ ⟨γ',loc',hr.put o.dst hv hx⟩)

theorem undefOk (loc:Nat→Value):AVOk loc (.tup []) undef:=⟨[],rfl,trivial⟩

theorem fin_skp [Tags] (hn:Follows B X A w0 k r o.dst.toList st next) (hrun:(execOp a.eval o).run P w = .ok .skip w')
  (hr:Rel0 B X A w0 γ' loc' st1 a w') (hp:Pres [] st st1) (hk:k (st1.put o.dst (.tup []))=some r):o.wp P a w next Q:=
 wp_skp hrun (hn _ hk (hp.putAfter o.dst _) _ _ ⟨γ',loc',hr.put o.dst (undefOk loc') (by simp[AV.lt])⟩)


theorem constAV_ok {v:Value} {x:AV} (h:constAV v=some x) (loc:Nat→Value) (n:Nat):AVOk loc x v∧x.lt n:=by
 unfold constAV at h
 split at h
 ·next m=>
  split at h
  ·next hs=>
   cases h
   simp only[smallI,Bool.and_eq_true,decide_eq_true_eq] at hs
   exact⟨⟨rfl,hs⟩,trivial⟩
  ·cases h
 ·next m=>
  split at h
  ·next hs=>
   cases h
   simp only[Bool.and_eq_true,decide_eq_true_eq] at hs
   refine⟨?_,trivial⟩
   simp only[AVOk,V1Ok,LeafOk,Value.int.injEq,true_and]
   have:m.toNat<256:=by omega
   rw[UInt8.toNat_ofNat',Nat.mod_eq_of_lt (by simpa using this)]
   omega
  ·cases h
 ·cases h; exact⟨rfl,trivial⟩
 ·next s=>
  split at h
  ·next hs=>
   cases h
   exact⟨⟨rfl,Nat.le_of_ble_eq_true hs⟩,trivial⟩
  ·cases h
 ·cases h; exact⟨rfl,trivial⟩
 ·cases h; exact⟨trivial,trivial⟩
 ·cases h

theorem opnd_ok [Tags] (hr:Rel0 B X A w0 γ loc st a w) {x:Operand} {v:AV} (h:opnd st x=some v):AVOk loc v (a.eval x)∧v.lt st.nxt:=by
 cases x with
 | tmp t=>exact⟨hr.slots t v h,hr.slt t v h⟩
 | const c=>exact constAV_ok h loc st.nxt
 | func f=>simp only[opnd,Option.some.injEq] at h; subst h; exact⟨by simp[AVOk,V1Ok,LeafOk,Act.eval],by simp[AV.lt,V1.lt,Leaf.lt]⟩
 | global g=>cases h

theorem opL_ok [Tags] (hr:Rel0 B X A w0 γ loc st a w) {x:Operand} {l:Leaf} (h:opL st x=some l):LeafOk loc l (a.eval x)∧l.lt st.nxt:=by
 unfold opL at h
 split at h
 ·next l' ho=>cases h; exact opnd_ok hr ho
 ·cases h

theorem leaf_one {loc:Nat→Value} {l:Leaf} {v:Value} (h:LeafOk loc l v):v.oneCell'=true:=by
 cases l with
 | i n=>rw[h.1]; rfl
 | u x=>rw[show v=_ from h]; rfl
 | b x=>rw[show v=_ from h]; rfl
 | s l=>rw[h.1]; rfl
 | nil=>rw[show v=_ from h]; rfl
 | sl id=>obtain⟨_,a,n,c,h⟩:=h; rw[h]; rfl
 | ptr id off=>obtain⟨b,_,h⟩:=h; rw[h]; rfl
 | ep id ix esz off=>obtain⟨b,o,n,c,_,_,h⟩:=h; rw[h]; rfl
 | fn f caps=>rw[h.1]; rfl
 | any=>exact h
 | ap id=>obtain⟨b,n,c,_,h⟩:=h; rw[h]; rfl

theorem opLs_ok [Tags] (hr:Rel0 B X A w0 γ loc st a w) {x:Operand} {ls:List Leaf} (h:opLs st x=some ls) :
  All2 (LeafOk loc) ls (a.eval x).cells.toList ∧ ∀ l∈ls,l.lt st.nxt:=by
 unfold opLs at h
 split at h
 ·next l ho=>
  cases h
  obtain⟨h1,h2⟩:=opnd_ok hr ho
  have:(a.eval x).cells = #[a.eval x]:=by
   have:=leaf_one h1
   cases hv:a.eval x<;>simp_all [Value.cells,Value.oneCell']
  rw[this]
  exact⟨⟨h1,trivial⟩,fun l' hl=>by simp at hl; subst hl; exact h2⟩
 ·next ls' ho=>
  cases h
  obtain⟨⟨vs,h1,h2⟩,h3⟩:=opnd_ok hr ho
  rw[h1]
  exact⟨by simpa[Value.cells] using h2,h3⟩
 ·cases h

theorem all_one [Tags] {loc:Nat→Value} : ∀ {ls:List Leaf} {vs:List Value},All2 (LeafOk loc) ls vs → ∀ c∈vs,c.oneCell'=true
 | [],[],_=>by simp
 | l::ls,v::vs,⟨h1,h2⟩=>by
  intro c hc
  rcases List.mem_cons.1 hc with rfl|hc
  ·exact leaf_one h1
  ·exact all_one h2 c hc
 | [],_::_,h=>h.elim
 | _::_,[],h=>h.elim


theorem Moves.push [Tags] {γ:Nat→Own} {w:World} (ow:Own) (ob:Obj):Moves (fun _=>False) γ (fun b=>if b=w.heap.size then ow else γ b) w (pushBlk w ob) where
 persist b hb h:=⟨by simp[show b≠w.heap.size by omega,h],pushBlk_lt hb⟩
 top b i hb h _:=⟨by simp[show b≠w.heap.size by omega,h],pushBlk_lt hb⟩
 deep b i hb h:=⟨pushBlk_lt hb,fun _=>by simp[show b≠w.heap.size by omega,h],fun hf=>hf.elim⟩

theorem keeps_push [Tags] (B:Nat) (X:List Nat) {w:World} (h:B≤w.heap.size) (ob:Obj) (hu : ∀ arr T fr,ob = .cells arr T fr→frees fr arr.size):Keeps B X w (pushBlk w ob):=
 ⟨rfl,rfl,rfl,by rw[pushBlk_size]; omega,fun b hb _=>pushBlk_lt (by omega),fun b hb arr T fr h'=>by
  rcases Nat.lt_trichotomy b w.heap.size with h1|h1|h1
  ·rw[pushBlk_lt h1] at h'; exact hb arr T fr h'
  ·subst h1; rw[pushBlk_get] at h'; exact hu arr T fr (Option.some.inj h')
  ·have:=lt_of_get h'; rw[pushBlk_size] at this; omega,fun b arr T fr h0=>⟨arr,by rw[pushBlk_lt (lt_of_get h0)]; exact h0,rfl⟩⟩

theorem Rel0.alloc [Tags] (h:Rel0 B X A w0 γ loc st a w) (ob:Obj) (hu : ∀ arr T fr,ob = .cells arr T fr→frees fr arr.size) (ow:Own) (val:Value) (e:Ent)
  (he:EntOk (fun b=>if b=w.heap.size then ow else γ b) (fun i=>if i=st.nxt then val else loc i) (pushBlk w ob) st.nxt e) (hl:e.lt (st.nxt+1)) :
  Rel0 B X A w0 (fun b=>if b=w.heap.size then ow else γ b) (fun i=>if i=st.nxt then val else loc i) { st with tab:=(st.nxt,e)::st.tab,nxt:=st.nxt+1 } a (pushBlk w ob):=by
 refine h.upd (M:=fun _=>False) rfl (by simp) (keeps_push B X h.Ble ob hu) (fun b hb ho=>by simpa[show b≠w.heap.size by omega] using ho) ?_ ?_ (Moves.push ow ob) (fun _ h=>h.elim) ?_
 ·intro b hb hx
  have:=h.Ble
  simp only[show b≠w.heap.size by omega,if_false]
  exact h.old b hb hx
 ·intro i hi; simp[show i≠st.nxt by omega]
 ·intro id e' hid
  rw[look_cons] at hid
  split at hid
  ·rename_i hid'; cases hid; subst hid'; exact .inr ⟨⟨he,hl,by simp⟩,.inl (Nat.le_refl _)⟩
  ·exact .inl ⟨hid,fun h=>h⟩

theorem Pres.cons (h : ∀ (id:Nat) (e:Ent),look st.tab id=some e→id<st.nxt) (e:Ent):Pres [] st { st with tab:=(st.nxt,e)::st.tab,nxt:=st.nxt+1 } :=
 ⟨rfl,by simp,fun id e' he _=>by
  have:=h id e' he
  simp only[look_cons]; rw[if_neg (by omega)]; exact he,fun _ _=>rfl,rfl⟩

theorem zeroL_ok (loc:Nat→Value) : ∀ t:Ty,All2 (LeafOk loc) (zeroL t) (zeroV t)
 | .i64=>⟨⟨rfl,by constructor<;>decide⟩,trivial⟩
 | .u8=>⟨rfl,trivial⟩
 | .bool=>⟨rfl,trivial⟩
 | .str=>⟨⟨rfl,by simp[Bnd]⟩,trivial⟩
 | .sl _ _=>⟨rfl,trivial⟩
 | .pair a b=>(zeroL_ok loc a).append (zeroL_ok loc b)

theorem zeroL_lt (n:Nat) : ∀ t:Ty,∀ l∈zeroL t,l.lt n
 | .i64=>by simp[zeroL,Leaf.lt]
 | .u8=>by simp[zeroL,Leaf.lt]
 | .bool=>by simp[zeroL,Leaf.lt]
 | .str=>by simp[zeroL,Leaf.lt]
 | .sl _ _=>by simp[zeroL,Leaf.lt]
 | .pair a b=>by
  intro l hl
  rcases List.mem_append.1 (show l∈zeroL a++zeroL b from hl) with h|h
  ·exact zeroL_lt n a l h
  ·exact zeroL_lt n b l h

theorem Rel0.newBox [Tags] (h:Rel0 B X A w0 γ loc st a w) {T:TypeId} {ls:List Leaf} {cs:List Value} (ha:All2 (LeafOk loc) ls cs) (hl : ∀ l∈ls,l.lt st.nxt) :
  Rel0 B X A w0 (fun b=>if b=w.heap.size then .top st.nxt else γ b) (fun i=>if i=st.nxt then .pointer (some ⟨w.heap.size,0,none⟩) else loc i)
   { st with tab:=(st.nxt,.box st.lvl ls)::st.tab,nxt:=st.nxt+1 } a (pushBlk w (.cells cs.toArray T)):=by
 refine h.alloc (.cells cs.toArray T) (whole (frees0 _)) (.top st.nxt) _ _ ?_ (fun l hm=>Leaf.lt_mono (by omega) (hl l hm))
 refine⟨w.heap.size,cs.toArray,T,(0,0),by simp,pushBlk_get _ _,frees0 _,by simp,?_⟩
 exact ha.leafLoc hl (fun i hi=>by simp[show i≠st.nxt by omega])

theorem newBox_ptr (st:St) (w:World) (loc:Nat→Value) :
  AVOk (fun i=>if i=st.nxt then Value.pointer (some ⟨w.heap.size,0,none⟩) else loc i) (.v (.one (.ptr st.nxt 0))) (.pointer (some ⟨w.heap.size,0,none⟩)):=
 ⟨w.heap.size,by simp,rfl⟩

theorem ids_lt [Tags] (h:Rel0 B X A w0 γ loc st a w) (id:Nat) (e:Ent) (he:look st.tab id=some e):id<st.nxt:=(h.elt id e he).2

variable {E:Env}

theorem sound_alloc [Tags] (hT:tysOk P E.tys=true) {T:TypeId} (ho:o.op = .alloc T) {d:TD} (hd:lk E.tys T=some d) (harr:d.arr=none) (hr:Rel0 B X A w0 γ loc st a w)
  (hk:k (St.put { st with tab:=(st.nxt,.box st.lvl (zeroL d.ty))::st.tab,nxt:=st.nxt+1 } o.dst (.v (.one (.ptr st.nxt 0))))=some r)
  (hn:Follows B X A w0 k r o.dst.toList st next):o.wp P a w next Q:=by
 have ht:=tOk hT hd
 have hc:=valOf_cells (zeroV_len d.ty) (all_one (zeroL_ok loc d.ty))
 refine fin_val hn (w':=pushBlk w (.cells (zeroV d.ty).toArray T)) (v:=.pointer (some ⟨w.heap.size,0,none⟩)) ?_
  (hr.newBox (T:=T) (zeroL_ok loc d.ty) (zeroL_lt _ _)) (Pres.cons (ids_lt hr) _) (newBox_ptr st w loc) (by simp[AV.lt,V1.lt,Leaf.lt]) hk
 have e:(valOf d.ty (zeroV d.ty)).cells=(zeroV d.ty).toArray:=by apply Array.ext'; simp[hc]
 simp only[execOp,ho,Instr.alloc,Sem.run_bind,ht.zero harr,Result.andThen_ok,run_newVar,Sem.run_pure,e]

theorem sound_box [Tags] {T:TypeId} {x:Operand} (ho:o.op = .box T x) {ls:List Leaf} (hx:opLs st x=some ls) (hr:Rel0 B X A w0 γ loc st a w)
  (hk:k (St.put { st with tab:=(st.nxt,.box st.lvl ls)::st.tab,nxt:=st.nxt+1 } o.dst (.v (.one (.ptr st.nxt 0))))=some r)
  (hn:Follows B X A w0 k r o.dst.toList st next):o.wp P a w next Q:=by
 obtain⟨h1,h2⟩:=opLs_ok hr hx
 refine fin_val hn (w':=pushBlk w (.cells (a.eval x).cells T)) (v:=.pointer (some ⟨w.heap.size,0,none⟩)) ?_
  (by have:=hr.newBox (T:=T) h1 h2; simpa using this) (Pres.cons (ids_lt hr) _) (newBox_ptr st w loc) (by simp[AV.lt,V1.lt,Leaf.lt]) hk
 simp only[execOp,ho,Instr.box,Sem.run_bind,run_newVar,Result.andThen_ok,Sem.run_pure]

end Ev

namespace Ev
open Go
set_option linter.unusedVariables false

theorem take_drop_take {α:Type} (l:List α) (a n b m:Nat) (h:b+m≤n):(((l.drop a).take n).drop b).take m=(l.drop (a+b)).take m:=by
 rw[List.drop_take,List.drop_drop,List.take_take]
 congr 1
 omega

theorem part_ok [Tags] {w:World} : ∀ (e:Ty) (v:den e) (off:Nat) (t:Ty) (v':den t) (cs:List Value) (fp:List Nat),part e v off t=some v'→Rd w e v cs fp →
  ∃ f,Rd w t v' ((cs.drop off).take t.size) f∧(∀ b∈f,b∈fp)∧off+t.size≤e.size:=by
 intro e
 induction e with
 | pair a b iha ihb=>
  intro v off t v' cs fp h hr
  simp only[part] at h
  split at h
  ·rename_i hh
   obtain⟨h0,ht⟩:=hh
   subst h0; subst ht
   simp only[Option.some.injEq] at h
   subst h
   refine⟨fp,?_,fun b hb=>hb,by simp⟩
   have:=hr.len
   rw[List.drop_zero,←this,List.take_length]; exact hr
  ·obtain⟨c1,c2,f1,f2,h1,h2,h3,h4⟩:=hr
   have l1:=h3.len
   have l2:=h4.len
   split at h
   ·rename_i hlt
    obtain⟨f,g1,g2,g3⟩:=iha v.1 off t v' c1 f1 h h3
    refine⟨f,?_,fun b hb=>by rw[h2]; simp[g2 b hb],by simp[Ty.size]; omega⟩
    rw[h1,List.drop_append_of_le_length (by omega),List.take_append_of_le_length (by simp; omega)]
    exact g1
   ·rename_i hge
    obtain⟨f,g1,g2,g3⟩:=ihb v.2 (off - a.size) t v' c2 f2 h h4
    refine⟨f,?_,fun b hb=>by rw[h2]; simp[g2 b hb],by simp[Ty.size]; omega⟩
    rw[h1,List.drop_append,List.drop_eq_nil_of_le (by omega),List.nil_append,l1]
    exact g1
 | i64|u8|bool|str=>
  intro v off t v' cs fp h hr
  simp only[part] at h
  split at h
  ·rename_i hh
   obtain⟨h0,ht⟩:=hh
   subst h0; subst ht
   simp only[Option.some.injEq] at h
   subst h
   refine⟨fp,?_,fun b hb=>hb,by simp⟩
   have:=hr.len
   rw[List.drop_zero,←this,List.take_length]; exact hr
  ·cases h
 | sl E e ih=>
  intro v off t v' cs fp h hr
  simp only[part] at h
  split at h
  ·rename_i hh
   obtain⟨h0,ht⟩:=hh
   subst h0; subst ht
   simp only[Option.some.injEq] at h
   subst h
   refine⟨fp,?_,fun b hb=>hb,by simp⟩
   have:=hr.len
   rw[List.drop_zero,←this,List.take_length]; exact hr
  ·cases h

theorem setAt_append_left {α:Type} {l1 l2:List α} {k:Nat} {vs:List α} (h:k+vs.length≤l1.length):setAt (l1++l2) k vs=setAt l1 k vs++l2:=by
 unfold setAt
 rw[List.take_append_of_le_length (by omega),List.drop_append_of_le_length (by omega)]
 simp

theorem setAt_append_right {α:Type} {l1 l2:List α} {k:Nat} {vs:List α} (h:l1.length≤k):setAt (l1++l2) k vs=l1++setAt l2 (k - l1.length) vs:=by
 unfold setAt
 rw[List.take_append,List.drop_append,List.take_of_length_le h,List.drop_eq_nil_of_le (by omega)]
 simp[show k+vs.length - l1.length=k - l1.length+vs.length by omega]

theorem setAt_all {α:Type} {l vs:List α} (h:vs.length=l.length):setAt l 0 vs=vs:=by
 simp[setAt,h]

theorem setPartF_ok : ∀ (e:Ty) (off:Nat) (t:Ty) {g:den t→den e→den e},setPartF e off t=some g → ∀ (v:den e) (x:den t),setPart e v off t x=some (g x v)
 | .i64,off,t,g,h,v,x | .u8,off,t,g,h,v,x | .bool,off,t,g,h,v,x | .str,off,t,g,h,v,x | .sl _ _,off,t,g,h,v,x=>by
  simp only[setPartF] at h
  split at h
  ·next hh=>cases h; simp only[setPart,dif_pos hh]
  ·cases h
 | .pair a b,off,t,g,h,v,x=>by
  simp only[setPartF] at h
  split at h
  ·next hh=>cases h; simp only[setPart,dif_pos hh]
  ·next hh=>
   split at h
   ·next hlt=>
    split at h
    ·next g' hg=>cases h; simp only[setPart,dif_neg hh,if_pos hlt,setPartF_ok a off t hg]
    ·cases h
   ·next hlt=>
    split at h
    ·next g' hg=>cases h; simp only[setPart,dif_neg hh,if_neg hlt,setPartF_ok b _ t hg]
    ·cases h

theorem setAtF_ok [Tags] {e:Ty} {off:Nat} {t:Ty} {F:List (den e)→Nat→den t→List (den e)} (h:setAtF e off t=some F) (xs:List (den e)) (i:Nat) (x:den t) :
  ∃ y,setPart e (rd e xs i) off t x=some y∧F xs i x=xs.set i y:=by
 unfold setAtF at h
 split at h
 ·next hh=>
  cases h
  obtain⟨h0,h1⟩:=hh
  subst h0 h1
  refine⟨x,?_,rfl⟩
  cases t<;>simp[setPart]
 ·split at h
  ·next g hg=>cases h; exact⟨_,setPartF_ok e off t hg _ x,rfl⟩
  ·cases h

theorem setPart_ok [Tags] {w:World} : ∀ (e:Ty) (v:den e) (off:Nat) (t:Ty) (x:den t) (y:den e) (cs vs:List Value) (fp fv:List Nat),setPart e v off t x=some y →
  Rd w e v cs fp→Rd w t x vs fv → ∃ f1 fm f2,fp=f1++fm++f2∧Rd w e y (setAt cs off vs) (f1++fv++f2)∧off+t.size≤e.size:=by
 intro e
 induction e with
 | pair a b iha ihb=>
  intro v off t x y cs vs fp fv h hr hx
  simp only[setPart] at h
  split at h
  ·rename_i hh
   obtain⟨h0,ht⟩:=hh
   subst h0; subst ht
   simp only[Option.some.injEq] at h
   subst h
   refine⟨[],fp,[],by simp,?_,by simp⟩
   rw[setAt_all (by rw[hr.len,hx.len])]; simpa using hx
  ·obtain⟨c1,c2,f1,f2,h1,h2,h3,h4⟩:=hr
   have l1:=h3.len
   have l2:=h4.len
   have lx:=hx.len
   split at h
   ·rename_i hlt
    split at h
    ·rename_i y1 hy
     cases h
     obtain⟨g1,gm,g2,e1,e2,e3⟩:=iha v.1 off t x y1 c1 vs f1 fv hy h3 hx
     refine⟨g1,gm,g2++f2,by rw[h2,e1]; simp,?_,by simp[Ty.size]; omega⟩
     refine⟨setAt c1 off vs,c2,g1++fv++g2,f2,?_,by simp,e2,h4⟩
     rw[h1,setAt_append_left (by omega)]
    ·cases h
   ·rename_i hge
    split at h
    ·rename_i y1 hy
     cases h
     obtain⟨g1,gm,g2,e1,e2,e3⟩:=ihb v.2 (off - a.size) t x y1 c2 vs f2 fv hy h4 hx
     refine⟨f1++g1,gm,g2,by rw[h2,e1]; simp,?_,by simp[Ty.size]; omega⟩
     refine⟨c1,setAt c2 (off - a.size) vs,f1,g1++fv++g2,?_,by simp,h3,e2⟩
     rw[h1,setAt_append_right (by omega),l1]
    ·cases h
 | i64|u8|bool|str=>
  intro v off t x y cs vs fp fv h hr hx
  simp only[setPart] at h
  split at h
  ·rename_i hh
   obtain⟨h0,ht⟩:=hh
   subst h0; subst ht
   simp only[Option.some.injEq] at h
   subst h
   refine⟨[],fp,[],by simp,?_,by simp⟩
   rw[setAt_all (by rw[hr.len,hx.len])]; simpa using hx
  ·cases h
 | sl E e ih=>
  intro v off t x y cs vs fp fv h hr hx
  simp only[setPart] at h
  split at h
  ·rename_i hh
   obtain⟨h0,ht⟩:=hh
   subst h0; subst ht
   simp only[Option.some.injEq] at h
   subst h
   refine⟨[],fp,[],by simp,?_,by simp⟩
   rw[setAt_all (by rw[hr.len,hx.len])]; simpa using hx
  ·cases h

theorem dropS {α:Type} (c rest:List α) (i n:Nat) (h:c.length=n):(c++rest).drop ((i+1)*n)=rest.drop (i*n):=by
 rw[show (i+1)*n=n+i*n by rw[Nat.succ_mul,Nat.add_comm],←List.drop_drop,List.drop_left' h]

theorem RdL.getAt [Tags] {w:World} {e:Ty} : ∀ {xs:List (den e)} {cs:List Value} {fp:List Nat} {i:Nat},RdL (Rd w e) xs cs fp→i<xs.length →
  ∃ f1 f f2,fp=f1++f++f2∧Rd w e (rd e xs i) ((cs.drop (i*e.size)).take e.size) f∧(i+1)*e.size≤cs.length
 | [],_,_,_,_,h=>by simp at h
 | x::xs,cs,fp,i,⟨c,rest,f1,f2,h1,h2,h3,h4⟩,hi=>by
  have l1:=h3.len
  cases i with
  | zero=>
   refine⟨[],f1,f2,by simp[h2],?_,by rw[h1]; simp; omega⟩
   simp only[Nat.zero_mul,List.drop_zero]
   rw[h1,List.take_append_of_le_length (by omega),←l1,List.take_length]
   exact h3
  | succ i=>
   obtain⟨g1,f,g2,e1,e2,e3⟩:=RdL.getAt h4 (by simpa using hi:i<xs.length)
   refine⟨f1++g1,f,g2,by rw[h2,e1]; simp,?_,?_⟩
   ·rw[h1,dropS _ _ _ _ l1]
    exact e2
   ·rw[h1,List.length_append,l1,Nat.succ_mul]; omega

theorem RdL.setAt' [Tags] {w:World} {e:Ty} : ∀ {xs:List (den e)} {cs:List Value} {fp:List Nat} {i:Nat},RdL (Rd w e) xs cs fp→i<xs.length →
  ∃ f1 f f2,fp=f1++f++f2∧Rd w e (rd e xs i) ((cs.drop (i*e.size)).take e.size) f∧(i+1)*e.size≤cs.length ∧
   ∀ (y:den e) (c':List Value) (fy:List Nat),Rd w e y c' fy→RdL (Rd w e) (xs.set i y) (setAt cs (i*e.size) c') (f1++fy++f2)
 | [],_,_,_,_,h=>by simp at h
 | x::xs,cs,fp,i,⟨c,rest,f1,f2,h1,h2,h3,h4⟩,hi=>by
  have l1:=h3.len
  cases i with
  | zero=>
   refine⟨[],f1,f2,by simp[h2],?_,by rw[h1]; simp; omega,?_⟩
   ·simp only[Nat.zero_mul,List.drop_zero]
    rw[h1,List.take_append_of_le_length (by omega),←l1,List.take_length]
    exact h3
   ·intro y c' fy hy
    have ly:=hy.len
    refine⟨c',rest,fy,f2,?_,by simp,hy,h4⟩
    rw[h1,Nat.zero_mul,setAt_append_left (by omega),setAt_all (by omega)]
  | succ i=>
   obtain⟨g1,f,g2,e1,e2,e4,e3⟩:=RdL.setAt' h4 (by simpa using hi:i<xs.length)
   refine⟨f1++g1,f,g2,by rw[h2,e1]; simp,?_,?_,?_⟩
   ·rw[h1,dropS _ _ _ _ l1]
    exact e2
   ·rw[h1,List.length_append,l1,Nat.succ_mul]; omega
   ·intro y c' fy hy
    have ly:=hy.len
    refine⟨c,setAt rest (i*e.size) c',f1,g1++fy++g2,?_,by simp,h3,e3 y c' fy hy⟩
    rw[h1,setAt_append_right (by rw[Nat.succ_mul]; omega),l1,Nat.succ_mul,Nat.add_sub_cancel]

theorem setAt_in [Tags] {α:Type} (l vs:List α) (p n off:Nat) (h1:p+n≤l.length) (h2:off+vs.length≤n):setAt l p (setAt ((l.drop p).take n) off vs)=setAt l (p+off) vs:=by
 have hc:((l.drop p).take n).length=n:=by rw[List.length_take,List.length_drop]; omega
 have l1:(setAt ((l.drop p).take n) off vs).length=n:=by rw[setAt_len (by omega),hc]
 apply List.ext_getElem?
 intro j
 have eL:=setAt_get l p (setAt ((l.drop p).take n) off vs) (by rw[l1]; omega) j
 have eM:=setAt_get ((l.drop p).take n) off vs (by omega) (j - p)
 have eR:=setAt_get l (p+off) vs (by omega) j
 rw[eL,eR,eM,l1]
 by_cases c1:j<p
 ·rw[if_pos c1,if_pos (show j<p+off by omega)]
 ·rw[if_neg c1]
  by_cases c2:j<p+n
  ·rw[if_pos c2]
   by_cases c3:j - p<off
   ·rw[if_pos c3,if_pos (show j<p+off by omega),List.getElem?_take,if_pos (show j - p<n by omega),List.getElem?_drop]
    congr 1; omega
   ·rw[if_neg c3,if_neg (show ¬ j<p+off by omega)]
    by_cases c4:j - p<off+vs.length
    ·rw[if_pos c4,if_pos (show j<p+off+vs.length by omega)]
     congr 1; omega
    ·rw[if_neg c4,if_neg (show ¬ j<p+off+vs.length by omega),List.getElem?_take,if_pos (show j - p<n by omega),List.getElem?_drop]
     congr 1; omega
  ·rw[if_neg c2,if_neg (show ¬ j<p+off by omega),if_neg (show ¬ j<p+off+vs.length by omega)]

theorem RdL.app [Tags] {w:World} {e:Ty} : ∀ {xs:List (den e)} {cs:List Value} {fp:List Nat} {ys:List (den e)} {ds:List Value} {gp:List Nat},
  RdL (Rd w e) xs cs fp→cs.length=xs.length*e.size→RdL (Rd w e) ys ds gp→RdL (Rd w e) (xs++ys) (cs++ds) (fp++gp)
 | [],cs,fp,ys,ds,gp,h,hl,hy=>by
  have:cs=[]:=by simpa using hl
  subst this
  rw[show fp=[] from h]
  exact hy
 | x::xs,cs,fp,ys,ds,gp,⟨c,rest,f1,f2,h1,h2,h3,h4⟩,hl,hy=>by
  have l1:=h3.len
  refine⟨c,rest++ds,f1,f2++gp,by simp[h1],by simp[h2],h3,RdL.app h4 ?_ hy⟩
  rw[h1,List.length_append,l1,List.length_cons,Nat.succ_mul] at hl
  omega

theorem RdL.more [Tags] {w:World} {e:Ty} : ∀ {xs:List (den e)} {cs:List Value} {fp:List Nat} (ds:List Value),RdL (Rd w e) xs cs fp→RdL (Rd w e) xs (cs++ds) fp
 | [],_,_,_,h=>h
 | x::xs,cs,fp,ds,⟨c,rest,f1,f2,h1,h2,h3,h4⟩=>⟨c,rest++ds,f1,f2,by simp[h1],h2,h3,RdL.more ds h4⟩

theorem RdL.le [Tags] {w:World} {e:Ty} : ∀ {xs:List (den e)} {cs:List Value} {fp:List Nat},RdL (Rd w e) xs cs fp→xs.length*e.size≤cs.length
 | [],_,_,_=>by simp
 | x::xs,cs,fp,⟨c,rest,f1,f2,h1,h2,h3,h4⟩=>by
  have l1:=h3.len
  have:=RdL.le h4
  rw[h1,List.length_append,l1,List.length_cons,Nat.succ_mul]; omega

theorem RdL.cut [Tags] {w:World} {e:Ty} : ∀ {xs:List (den e)} {cs:List Value} {fp:List Nat},RdL (Rd w e) xs cs fp→RdL (Rd w e) xs (cs.take (xs.length*e.size)) fp
 | [],_,_,h=>h
 | x::xs,cs,fp,⟨c,rest,f1,f2,h1,h2,h3,h4⟩=>by
  have l1:=h3.len
  refine⟨c,rest.take (xs.length*e.size),f1,f2,?_,h2,h3,RdL.cut h4⟩
  rw[h1,List.length_cons,Nat.succ_mul,List.take_append,List.take_of_length_le (by omega),l1]
  congr 2; omega

theorem RdL.takeN [Tags] {w:World} {e:Ty} : ∀ {xs:List (den e)} {cs:List Value} {fp:List Nat} (n:Nat),RdL (Rd w e) xs cs fp → ∃ f1 f2,fp=f1++f2∧RdL (Rd w e) (xs.take n) cs f1
 | [],_,fp,n,h=>⟨fp,[],by simp,by simpa using h⟩
 | x::xs,cs,fp,0,h=>⟨[],fp,by simp,by simp[RdL]⟩
 | x::xs,cs,fp,n+1,⟨c,rest,f1,f2,h1,h2,h3,h4⟩=>by
  obtain⟨g1,g2,e1,e2⟩:=RdL.takeN n h4
  exact⟨f1++g1,g2,by rw[h2,e1]; simp,c,rest,f1,g1,h1,rfl,h3,e2⟩

theorem RdL.dropN [Tags] {w:World} {e:Ty} : ∀ {xs:List (den e)} {cs:List Value} {fp:List Nat} (n:Nat),RdL (Rd w e) xs cs fp→n≤xs.length →
  ∃ f1 f2,fp=f1++f2∧RdL (Rd w e) (xs.drop n) (cs.drop (n*e.size)) f2
 | xs,cs,fp,0,h,_=>⟨[],fp,by simp,by simpa using h⟩
 | [],_,fp,n+1,h,hn=>by simp at hn
 | x::xs,cs,fp,n+1,⟨c,rest,f1,f2,h1,h2,h3,h4⟩,hn=>by
  have l1:=h3.len
  obtain⟨g1,g2,e1,e2⟩:=RdL.dropN n h4 (by simpa using hn)
  refine⟨f1++g1,g2,by rw[h2,e1]; simp,?_⟩
  rw[h1,dropS _ _ _ _ l1]
  exact e2

theorem Rd.noSl [Tags] {w:World} : ∀ {t:Ty} {v:den t} {cs fp},t.hasSl=false→Rd w t v cs fp→fp=[]
 | .i64,_,_,_,_,h=>h.2.1
 | .u8,_,_,_,_,h=>h.2
 | .bool,_,_,_,_,h=>h.2
 | .str,_,_,_,_,h=>h.2.1
 | .sl _ _,_,_,_,hs,_=>by simp[Ty.hasSl] at hs
 | .pair a b,v,cs,fp,hs,h=>by
  simp only[Ty.hasSl,Bool.or_eq_false_iff] at hs
  obtain⟨c1,c2,f1,f2,h1,h2,h3,h4⟩:=h
  rw[h2,h3.noSl hs.1,h4.noSl hs.2]; rfl

theorem RdL.noSl [Tags] {w:World} {e:Ty} (hs:e.hasSl=false) : ∀ {xs:List (den e)} {cs fp},RdL (Rd w e) xs cs fp→fp=[]
 | [],_,_,h=>h
 | x::xs,cs,fp,⟨c,rest,f1,f2,h1,h2,h3,h4⟩=>by rw[h2,h3.noSl hs,RdL.noSl hs h4]; rfl

end Ev

namespace Ev
open Go
set_option linter.unusedVariables false

variable {P:Program} {o:Oper} {a:Act} {w w':World} {next:Act→World→Prop} {Q:Exit→Act→World→Prop}
variable {B:Nat} {X:List Nat} {A:Ctx} {w0:World} {γ γ':Nat→Own} {loc loc':Nat→Value} {st st1:St} {R:Type} {k:St→Option R} {r:R} {E:Env}

theorem mkV_ok {loc:Nat→Value} {t:Ty} {ls:List Leaf} {cs:List Value} {x:V1} {n:Nat} (h:mkV t ls=some x) (ha:All2 (LeafOk loc) ls cs) (hl : ∀ l∈ls,l.lt n) :
  V1Ok loc x (valOf t cs)∧x.lt n:=by
 unfold mkV at h
 cases hp:t.isPair with
 | true=>
  rw[hp] at h
  simp only[Option.some.injEq] at h
  subst h
  exact⟨⟨cs,by simp[valOf,hp],ha⟩,hl⟩
 | false=>
  rw[hp] at h
  simp only at h
  split at h
  ·next l=>
   cases h
   match cs,ha with
   | [c],ha=>exact⟨by simpa[V1Ok,valOf,hp] using ha.1,hl l (by simp)⟩
  ·cases h

theorem look_below [Tags] {k:Kind} {lvl:Nat} {t:Ty} {v:den t} {j:Nat} {tab:List (Nat×Ent)} {id:Nat} (h:id<j) :
  look ((spread k lvl t v j).2.1++tab) id=look tab id:=by
 rw[look_append]
 cases hh:look (spread k lvl t v j).2.1 id with
 | none=>rfl
 | some e=>have:=((spreadOk k lvl t v j).keys id e hh).1; omega

theorem Rel0.addImm [Tags] (hr:Rel0 B X A w0 γ loc st a w) {taint:Bool} {lvl:Nat} {t:Ty} {v:den t} {cs:List Value} {fp:List Nat} (h:Rd w t v cs fp)
  (hf : ∀ b∈fp,γ b = .persist∨(taint=true ∧ ∃ i,γ b = .deep i)) :
  ∃ loc',Rel0 B X A w0 γ loc' { st with tab:=(spread (.imm taint) lvl t v st.nxt).2.1++st.tab,nxt:=(spread (.imm taint) lvl t v st.nxt).2.2 } a w ∧
   All2 (LeafOk loc') (spread (.imm taint) lvl t v st.nxt).1 cs∧(∀ i<st.nxt,loc' i=loc i):=by
 obtain⟨loc',h1,h2,h3⟩:=spread_imm lvl t v st.nxt cs fp loc h hf
 have so:=spreadOk (.imm taint) lvl t v st.nxt
 refine⟨loc',?_,h2,fun i hi=>h1 i (.inl hi)⟩
 refine hr.upd (M:=fun _=>False) rfl so.le (Keeps.refl _ _ _) (fun _ _ h=>h) hr.old (fun i hi=>h1 i (.inl hi)) (Moves.refl _ _ _) (fun _ h=>h.elim) ?_
 intro id e hid
 rw[look_append] at hid
 cases hh:look (spread (.imm taint) lvl t v st.nxt).2.1 id with
 | some e'=>
  rw[hh] at hid
  simp at hid
  subst hid
  obtain⟨g1,g2,E',et,xs,rfl⟩:=so.keys id _ hh
  exact .inr ⟨⟨h3 id _ hh,trivial,g2⟩,.inl g1⟩
 | none=>
  rw[hh] at hid
  simp at hid
  exact .inl ⟨hid,fun h=>h⟩

theorem Pres.addSpread [Tags] (hi : ∀ (id:Nat) (e:Ent),look st.tab id=some e→id<st.nxt) (k:Kind) (lvl:Nat) (t:Ty) (v:den t) :
  Pres [] st { st with tab:=(spread k lvl t v st.nxt).2.1++st.tab,nxt:=(spread k lvl t v st.nxt).2.2 } :=
 ⟨rfl,(spreadOk k lvl t v st.nxt).le,fun id e he _=>by rw[look_below (hi id e he)]; exact he,fun _ _=>rfl,rfl⟩

theorem run_loadAt [Tags] (hT:tysOk P E.tys=true) {T:TypeId} {d:TD} (hd:lk E.tys T=some d) (harr:d.arr=none) {x:Operand} (ho:o.op = .load T x)
  {b off:Nat} (hx:a.eval x = .pointer (some ⟨b,off,none⟩)) {arr:Array Value} {T':TypeId} {fr:Nat×Nat} (h:w.heap[b]?=some (.cells arr T' fr)) (hn:off+d.ty.size≤arr.size) :
  (execOp a.eval o).run P w = .ok (.value (valOf d.ty ((arr.toList.drop off).take d.ty.size))) w:=by
 simp only[execOp,ho,Instr.loadAt,Instr.sureAddr,hx,pure_bind,Sem.run_bind,run_loadVar (tOk hT hd) harr h hn,Result.andThen_ok,Sem.run_pure]

theorem ent_elem [Tags] (hr:Rel0 B X A w0 γ loc st a w) {id:Nat} {kd:Kind} {lvl EE:Nat} {e:Ty} {xs:List (den e)} (hl:look st.tab id=some (.arr kd lvl EE e xs))
  {b ob n c:Nat} (hloc:loc id = .slice (some ⟨b,ob,none⟩) n c) {ix:Nat} (hix:ix<n) :
  ∃ arr T fr f,n=xs.length∧w.heap[b]?=some (.cells arr T fr)∧Rd w e (rd e xs ix) (((arr.toList.drop ob).drop (ix*e.size)).take e.size) f ∧
   (ix+1)*e.size≤(arr.toList.drop ob).length∧(∀ b∈f,γ b = .persist∨((match kindOf kd with | .imm t=>t=true|_=>False) ∧ ∃ i,γ b = .deep i)):=by
 have hE:=hr.ents id _ hl
 cases kd with
 | imm taint=>
  obtain⟨fp,⟨a1,n1,c1,h1,h2,h3,h3',h4⟩,hf⟩:=hE
  rw[hloc] at h1
  simp only[List.cons.injEq,Value.slice.injEq,and_true] at h1
  obtain⟨e1,e2,e3⟩:=h1
  subst e2
  rcases h4 with⟨h4,_⟩|⟨b',o',arr,T,fr,fp',ha,hb,hfp,hl',htg⟩
  ·rw[h4] at h2; simp at h2; omega
  ·rw[←e1] at ha
   simp only[Option.some.injEq,Addr.mk.injEq] at ha
   obtain⟨rfl,rfl,_⟩:=ha
   obtain⟨f1,f,f2,q1,q2,q3⟩:=hl'.getAt (i:=ix) (by omega)
   refine⟨arr,T,fr,f,h2,hb,q2,q3,?_⟩
   intro b hb'
   simpa[kindOf] using hf b (by rw[hfp,q1]; simp[hb'])
 | lent=>
  obtain⟨fp,⟨a1,n1,c1,h1,h2,h3,h3',h4⟩,hf⟩:=hE
  rw[hloc] at h1
  simp only[List.cons.injEq,Value.slice.injEq,and_true] at h1
  obtain⟨e1,e2,e3⟩:=h1
  subst e2
  rcases h4 with⟨h4,_⟩|⟨b',o',arr,T,fr,fp',ha,hb,hfp,hl',htg⟩
  ·rw[h4] at h2; simp at h2; omega
  ·rw[←e1] at ha
   simp only[Option.some.injEq,Addr.mk.injEq] at ha
   obtain⟨rfl,rfl,_⟩:=ha
   obtain⟨f1,f,f2,q1,q2,q3⟩:=hl'.getAt (i:=ix) (by omega)
   refine⟨arr,T,fr,f,h2,hb,q2,q3,?_⟩
   intro b hb'
   exact .inr ⟨by simp[kindOf],id,hf.2 b (by rw[hfp,q1]; simp[hb'])⟩
 | own u=>
  obtain⟨xb,fs,g1,g2,g3⟩:=hE
  rcases g1 with⟨h1,h2,_⟩|⟨b',cap,arr,T,fr,h1,h2,h3,h4,h5,h6,h7,h8⟩
  ·rw[hloc] at h2; simp at h2
  ·rw[hloc] at h1
   simp only[List.cons.injEq,Value.slice.injEq,and_true,Option.some.injEq,Addr.mk.injEq] at h1
   obtain⟨⟨rfl,rfl,_⟩,rfl,rfl⟩:=h1
   obtain⟨f1,f,f2,q1,q2,q3⟩:=h7.getAt hix
   refine⟨arr,T,fr,f,rfl,h2,by simpa using q2,by simpa using q3,?_⟩
   intro b hb'
   cases u with
   | true=>right; exact⟨by simp[kindOf],id,g3.2 b (by rw[q1]; simp[hb'])⟩
   | false=>left; exact g3 b (by rw[q1]; simp[hb'])

theorem kindOf_imm (kd:Kind) : ∃ t,kindOf kd = .imm t:=by
 cases kd with
 | imm t=>exact⟨t,rfl⟩
 | own u=>cases u<;>exact⟨_,rfl⟩
 | lent=>exact⟨_,rfl⟩

theorem sound_load [Tags] (hT:tysOk P E.tys=true) {T:TypeId} {x:Operand} (ho:o.op = .load T x) {d:TD} (hd:lk E.tys T=some d) (harr:d.arr=none) {p:Leaf} (hp:opL st x=some p)
  (hr:Rel0 B X A w0 γ loc st a w) (hk:(evLoad d.ty p st fun x st'=>k (st'.put o.dst (.v x)))=some r)
  (hn:Follows B X A w0 k r o.dst.toList st next):o.wp P a w next Q:=by
 obtain⟨hp1,hp2⟩:=opL_ok hr hp
 unfold evLoad at hk
 split at hk
 ·next id off=>
  obtain⟨b,hb1,hb2⟩:=hp1
  split at hk
  ·next lvl cells hl=>
   split at hk
   ·next xv hle hmk=>
    obtain⟨b',arr,T',fr,q1,q2,q3,q4,q5⟩:=hr.ents id _ hl
    rw[hb1] at q1
    simp only[Value.pointer.injEq,Option.some.injEq,Addr.mk.injEq,and_true] at q1
    subst q1
    have hlen:=q5.len
    have hle':=Nat.le_of_ble_eq_true hle
    have hsz:off+d.ty.size≤arr.size:=by simp at hlen; omega
    obtain⟨v1,v2⟩:=mkV_ok (n:=st.nxt) hmk ((q5.drop off).take d.ty.size) (fun l hm=>(hr.elt id _ hl).1 l (List.mem_of_mem_drop (List.mem_of_mem_take hm)))
    exact fin_val (x:=.v xv) hn (run_loadAt hT hd harr ho hb2 q2 hsz) hr (Pres.refl _ _) v1 v2 hk
   ·cases hk
  ·next cells hl=>
   split at hk
   ·next xv hle hmk=>
    obtain⟨b',arr,T',fr,q1,q2,q4,q5⟩:=hr.ents id _ hl
    rw[hb1] at q1
    simp only[Value.pointer.injEq,Option.some.injEq,Addr.mk.injEq,and_true] at q1
    subst q1
    have hlen:=q5.len
    have hle':=Nat.le_of_ble_eq_true hle
    have hsz:off+d.ty.size≤arr.size:=by simp at hlen; omega
    obtain⟨v1,v2⟩:=mkV_ok (n:=st.nxt) hmk ((q5.drop off).take d.ty.size) (fun l hm=>(hr.elt id _ hl).1 l (List.mem_of_mem_drop (List.mem_of_mem_take hm)))
    exact fin_val (x:=.v xv) hn (run_loadAt hT hd harr ho hb2 q2 hsz) hr (Pres.refl _ _) v1 v2 hk
   ·cases hk
  ·cases hk
 ·next id ix esz off=>
  obtain⟨b,ob,n,c,hb1,hix,hb2⟩:=hp1
  split at hk
  ·next kd lvl EE e xs hl=>
   split at hk
   ·next v hsz hpart=>
    have hsz':=(beq_iff _ _).1 hsz
    subst hsz'
    obtain⟨arr,T',fr,f,_,q2,q3,q4,q5⟩:=ent_elem hr hl hb1 hix
    obtain⟨g,p1,p2,p3⟩:=part_ok e _ off d.ty v _ f hpart q3
    rw[take_drop_take _ _ _ _ _ p3,List.drop_drop] at p1
    have hlen:(arr.toList.drop ob).length=arr.size - ob:=by simp
    rw[hlen,Nat.succ_mul] at q4
    have hadr:ob+ix*e.size+off+d.ty.size≤arr.size:=by
     have:=d.ty.size_pos; omega
    obtain⟨tt,htt⟩:=kindOf_imm kd
    rw[htt] at hk
    have hg : ∀ b∈g,γ b = .persist∨(tt=true ∧ ∃ i,γ b = .deep i):=by
     intro b hb'
     have:=q5 b (p2 b hb')
     rw[htt] at this
     simpa using this
    have pe:ob+(ix*e.size+off)=ob+ix*e.size+off:=by omega
    rw[pe] at p1
    obtain⟨loc2,r1,r2,r3⟩:=hr.addImm (lvl:=st.lvl) p1 hg
    cases hs:spread (.imm tt) st.lvl d.ty v st.nxt with
    | mk ls rest=>
     obtain⟨es,j⟩:=rest
     rw[hs] at hk r1 r2
     simp only at hk
     have so:=spreadOk (.imm tt) st.lvl d.ty v st.nxt
     have slt:=so.lt
     rw[hs] at slt
     split at hk
     ·next xv hmk=>
      obtain⟨v1,v2⟩:=mkV_ok (n:=j) hmk r2 slt
      have hpres:=Pres.addSpread (ids_lt hr) (.imm tt) st.lvl d.ty v
      rw[hs] at hpres
      exact fin_val (x:=.v xv) hn (run_loadAt hT hd harr ho hb2 q2 hadr) r1 hpres v1 v2 hk
     ·cases hk
   ·cases hk
  ·cases hk
 ·cases hk


theorem Moves.put [Tags] {M:Nat→Prop} {γ:Nat→Own} {w:World} {b id:Nat} (ob:Obj) (h:γ b = .top id) (hM:M id):Moves M γ γ w (putBlk w b ob) where
 persist c hc h':=⟨h',putBlk_ne (fun e=>by subst e; rw[h] at h'; cases h')⟩
 top c i hc h' hi:=⟨h',putBlk_ne (fun e=>by subst e; rw[h] at h'; cases h'; exact hi hM)⟩
 deep c i hc h':=⟨putBlk_ne (fun e=>by subst e; rw[h] at h'; cases h'),fun _=>h',fun _=>.inr ⟨i,h'⟩⟩

theorem keeps_put [Tags] {B:Nat} {X:List Nat} {A:Ctx} {γ:Nat→Own} {w:World} {b id:Nat} (ho : ∀ b,b<B→b∉X→γ b = .alien∨(γ b = .persist∧b∈A.rds)) (h:γ b = .top id) (ob:Obj) (hu : ∀ arr T fr,ob = .cells arr T fr→frees fr arr.size) (hs : ∀ arr T fr,w.heap[b]?=some (.cells arr T fr) → ∃ arr',ob = .cells arr' T fr∧arr'.size=arr.size) :
  Keeps B X w (putBlk w b ob):=
 ⟨rfl,rfl,rfl,by simp[putBlk],fun c hc hx=>putBlk_ne (fun e=>by
  subst e
  rcases ho _ hc hx with h'|⟨h',_⟩<;>rw[h] at h'<;>cases h'),fun c hc arr T fr h'=>by
  by_cases e:c=b
  ·subst e
   have hlt:=lt_of_get h'
   simp only[putBlk,Array.size_setIfInBounds] at hlt
   simp only[putBlk,Array.getElem?_setIfInBounds_self_of_lt hlt,Option.some.injEq] at h'
   exact hu arr T fr h'
  ·rw[putBlk_ne e] at h'; exact hc arr T fr h',fun c arr T fr h0=>by
  by_cases e:c=b
  ·subst e
   obtain⟨arr',e1,e2⟩:=hs arr T fr h0
   exact⟨arr',by rw[←e1]; exact putBlk_get h0,e2⟩
  ·exact⟨arr,by rw[putBlk_ne e]; exact h0,rfl⟩⟩

theorem setRange_eq (ls:List Leaf) (off:Nat) (xs:List Leaf):setRange ls off xs=setAt ls off xs:=rfl

theorem All2.setAt {α β:Type} {R:α→β→Prop} {xs:List α} {ys:List β} (h:All2 R xs ys) (k:Nat) {us:List α} {vs:List β} (h2:All2 R us vs):All2 R (setAt xs k us) (setAt ys k vs):=by
 unfold Ev.setAt
 rw[h2.len]
 exact ((h.take k).append h2).append (h.drop _)

theorem mem_setAt {α:Type} {l vs:List α} {k:Nat} {x:α} (h:x∈setAt l k vs):x∈l∨x∈vs:=by
 unfold setAt at h
 simp only[List.mem_append] at h
 rcases h with (h|h)|h
 ·exact .inl (List.mem_of_mem_take h)
 ·exact .inr h
 ·exact .inl (List.mem_of_mem_drop h)

theorem run_storeAt [Tags] (hT:tysOk P E.tys=true) {T:TypeId} {d:TD} (hd:lk E.tys T=some d) (harr:d.arr=none) {x y:Operand} (ho:o.op = .store T x y)
  {b off:Nat} (hx:a.eval x = .pointer (some ⟨b,off,none⟩)) {arr:Array Value} {T':TypeId} {fr:Nat×Nat} (h:w.heap[b]?=some (.cells arr T' fr)) (hf:frees fr arr.size)
  (hn:off+d.ty.size≤arr.size) (hl:(a.eval y).cells.toList.length=d.ty.size) (h1 : ∀ c∈(a.eval y).cells.toList,c.oneCell'=true) :
  (execOp a.eval o).run P w = .ok .skip (putBlk w b (.cells (setAt arr.toList off (a.eval y).cells.toList).toArray T' fr)):=by
 have ht:=tOk hT hd
 have hs:(a.eval y).cells.size=d.ty.size:=by rw[←hl]; simp
 have:=run_storeCells' (P:=P) b off T' fr (a.eval y).cells.toList 0 arr w h hf (by omega) h1
 rw[Nat.add_zero] at this
 simp only[execOp,ho,Instr.storeAt,Instr.sureAddr,hx,pure_bind,Sem.run_bind,storeVar,ht.size harr,Result.andThen_ok,hs,ne_eq,not_true_eq_false,if_false,this,Sem.run_pure]

end Ev

namespace Ev
open Go
set_option linter.unusedVariables false

variable {P:Program} {o:Oper} {a:Act} {w w':World} {next:Act→World→Prop} {Q:Exit→Act→World→Prop}
variable {B:Nat} {X:List Nat} {A:Ctx} {w0:World} {γ γ':Nat→Own} {loc loc':Nat→Value} {st st1:St} {R:Type} {k:St→Option R} {r:R} {E:Env}

theorem look_eraseAll : ∀ (ids:List Nat) (tab:List (Nat×Ent)) (j:Nat),look (eraseAll tab ids) j=if j∈ids then none else look tab j
 | [],tab,j=>by simp[eraseAll]
 | i::r,tab,j=>by
  simp only[eraseAll,look_eraseAll r,look_erase,List.mem_cons]
  by_cases h1:j=i
  ·simp[h1]
  ·simp[h1]

def relab (ids:List Nat) (ow:Own) (γ:Nat→Own) (b:Nat):Own:=
 match γ b with
 | .top i=>if i∈ids then ow else .top i
 | .deep i=>if i∈ids then ow else .deep i
 | x=>x

theorem relab_persist {ids:List Nat} {ow:Own} {γ:Nat→Own} {b:Nat} (h:γ b = .persist):relab ids ow γ b = .persist:=by simp[relab,h]
theorem relab_alien {ids:List Nat} {ow:Own} {γ:Nat→Own} {b:Nat} (h:γ b = .alien):relab ids ow γ b = .alien:=by simp[relab,h]
theorem relab_top {ids:List Nat} {ow:Own} {γ:Nat→Own} {b i:Nat} (h:γ b = .top i):relab ids ow γ b=if i∈ids then ow else .top i:=by simp[relab,h]
theorem relab_deep {ids:List Nat} {ow:Own} {γ:Nat→Own} {b i:Nat} (h:γ b = .deep i):relab ids ow γ b=if i∈ids then ow else .deep i:=by simp[relab,h]

theorem relab_owned {ids:List Nat} {ow:Own} {γ:Nat→Own} {b:Nat} (h:owned (relab ids ow γ b)):owned (γ b):=by
 unfold relab at h
 cases hg:γ b with
 | alien=>rw[hg] at h; exact h
 | persist=>rw[hg] at h; exact h
 | top i=>trivial
 | deep i=>trivial

theorem relab_old [Tags] {ids:List Nat} {ow:Own} (h : ∀ b,b<B→b∉X→γ b = .alien∨(γ b = .persist∧b∈A.rds)) : ∀ b,b<B→b∉X→relab ids ow γ b = .alien∨(relab ids ow γ b = .persist∧b∈A.rds):=by
 intro b hb hx
 rcases h b hb hx with h|⟨h,h'⟩
 ·exact .inl (relab_alien h)
 ·exact .inr ⟨relab_persist h,h'⟩

theorem Moves.relab [Tags] {ids:List Nat} {ow:Own} (how:ow = .persist ∨ ∃ j,ow = .deep j) (γ:Nat→Own) (w:World):Moves (fun i=>i∈ids) γ (relab ids ow γ) w w where
 persist b _ h:=⟨relab_persist h,rfl⟩
 top b i _ h hi:=⟨by rw[relab_top h,if_neg hi],rfl⟩
 deep b i _ h:=⟨rfl,fun hi=>by rw[relab_deep h,if_neg hi],fun hi=>by rw[relab_deep h,if_pos hi]; exact how⟩

theorem Moves.trans {M M':Nat→Prop} {γ1 γ2 γ3:Nat→Own} {w1 w2 w3:World} (h:Moves M γ1 γ2 w1 w2) (h':Moves M' γ2 γ3 w2 w3) (hs:w1.heap.size≤w2.heap.size) :
  Moves (fun i=>M i∨M' i) γ1 γ3 w1 w3 where
 persist b hb hp:=by
  obtain⟨a1,a2⟩:=h.persist b hb hp
  obtain⟨b1,b2⟩:=h'.persist b (by omega) a1
  exact⟨b1,b2.trans a2⟩
 top b i hb hp hm:=by
  obtain⟨a1,a2⟩:=h.top b i hb hp (fun h=>hm (.inl h))
  obtain⟨b1,b2⟩:=h'.top b i (by omega) a1 (fun h=>hm (.inr h))
  exact⟨b1,b2.trans a2⟩
 deep b i hb hp:=by
  obtain⟨a1,a2,a3⟩:=h.deep b i hb hp
  by_cases hm:M i
  ·rcases a3 hm with hq|⟨j,hq⟩
   ·obtain⟨b1,b2⟩:=h'.persist b (by omega) hq
    exact⟨b2.trans a1,fun hn=>absurd (.inl hm) hn,fun _=>.inl b1⟩
   ·obtain⟨b1,b2,b3⟩:=h'.deep b j (by omega) hq
    refine⟨b1.trans a1,fun hn=>absurd (.inl hm) hn,fun _ => ?_⟩
    by_cases hj:M' j
    ·exact b3 hj
    ·exact .inr ⟨j,b2 hj⟩
  ·have hq:=a2 hm
   obtain⟨b1,b2,b3⟩:=h'.deep b i (by omega) hq
   refine⟨b1.trans a1,fun hn=>b2 (fun h=>hn (.inr h)),fun hm' => ?_⟩
   rcases hm' with h|h
   ·exact absurd h hm
   ·exact b3 h

theorem RdO.rdN [Tags] {w:World} : ∀ {t:Ty} {v:den t} {cs xs fs},RdO w t v cs xs fs → ∃ fp,Rd w t v cs fp∧(∀ b∈fp,b∈xs∨b∈fs)∧(xs.Nodup→fs.Nodup→(∀ b∈xs,b∉fs)→fp.Nodup)
 | .i64,_,_,_,_,h=>⟨[],h.1,by simp,by simp⟩
 | .u8,_,_,_,_,h=>⟨[],h.1,by simp,by simp⟩
 | .bool,_,_,_,_,h=>⟨[],h.1,by simp,by simp⟩
 | .str,_,_,_,_,h=>⟨[],h.1,by simp,by simp⟩
 | .sl E e,v,cs,xs,fs,h=>by
  rcases h with⟨h1,h2,h3,h4⟩|⟨b,cap,arr,T,fr,h1,h2,h3,h4,h5,h6,h7,h8,h9⟩
  ·exact⟨[],⟨none,0,0,h2,by simp[h1],Nat.le_refl _,by simp,.inl ⟨h1,rfl,fun _=>⟨rfl,rfl⟩⟩⟩,by simp,by simp⟩
  ·refine⟨b::fs,⟨some ⟨b,0,none⟩,v.length,cap,h1,rfl,h5,h6,.inr ⟨b,0,arr,T,fr,fs,rfl,h2,rfl,by simpa using h7,h9.1,fun h=>⟨h9.2 h,rfl,h4,h3⟩⟩⟩,by simp[h8],?_⟩
   intro _ hf hd
   exact List.nodup_cons.2 ⟨hd b (by simp[h8]),hf⟩
 | .pair a b,v,cs,xs,fs,h=>by
  obtain⟨c1,c2,x1,x2,f1,f2,h1,h2,h3,h4,h5⟩:=h
  subst h2; subst h3
  obtain⟨p1,r1,s1,n1⟩:=h4.rdN
  obtain⟨p2,r2,s2,n2⟩:=h5.rdN
  refine⟨p1++p2,⟨c1,c2,p1,p2,h1,rfl,r1,r2⟩,?_,?_⟩
  ·intro b hb
   rcases List.mem_append.1 hb with hb|hb
   ·rcases s1 b hb with h|h<;>simp[h]
   ·rcases s2 b hb with h|h<;>simp[h]
  ·intro hx hf hd
   have hx':=List.nodup_append.1 hx
   have hf':=List.nodup_append.1 hf
   refine nodup_append' (n1 hx'.1 hf'.1 (fun b hb hb'=>hd b (by simp[hb]) (by simp[hb']))) (n2 hx'.2.1 hf'.2.1 (fun b hb hb'=>hd b (by simp[hb]) (by simp[hb']))) ?_
   intro b hb hb'
   rcases s1 b hb with h|h<;>rcases s2 b hb' with h'|h'
   ·exact hx'.2.2 b h b h' rfl
   ·exact hd b (by simp[h]) (by simp[h'])
   ·exact hd b (by simp[h']) (by simp[h])
   ·exact hf'.2.2 b h b h' rfl

theorem nodup_swap [Tags] {f1 f2 fm fv:List Nat} (h:(f1++fm++f2).Nodup) (hv:fv.Nodup) (hd : ∀ x∈fv,x∉f1∧x∉f2):(f1++fv++f2).Nodup:=by
 have h1:=List.nodup_append.1 h
 have h2:=List.nodup_append.1 h1.1
 refine nodup_append' (nodup_append' h2.1 hv (fun x hx hx'=>(hd x hx').1 hx)) h1.2.1 ?_
 intro x hx
 rcases List.mem_append.1 hx with hx|hx
 ·intro hx'; exact h1.2.2 x (by simp[hx]) x hx' rfl
 ·exact (hd x hx).2

theorem collect1_eq {tab:List (Nat×Ent)} {t:Ty} {ls:List Leaf} {v:den t} (h:collect1 tab t ls=some v):collect tab t ls=some (v,[]):=by
 unfold collect1 at h
 split at h
 ·next x hx=>cases h; exact hx
 ·cases h

theorem collect1_rd [Tags] (hr:Rel0 B X A w0 γ loc st a w) {t:Ty} {ls:List Leaf} {vs:List Value} {v:den t} (h:collect1 st.tab t ls=some v) (ha:All2 (LeafOk loc) ls vs) :
  ∃ fp,Rd w t v vs fp∧(∀ b∈fp,γ b ≠ .alien ∧ ∀ i,γ b = .top i→i∈slIds ls)∧(steady st ls=true → ∀ b∈fp,γ b = .persist):=by
 obtain⟨ls1,vs1,vs2,fp,h1,h2,h3,h4,h5,h6,h7⟩:=collect_rd hr.ents t ls vs v [] (collect1_eq h) ha
 simp at h1
 subst h1
 have:vs2=[]:=by
  cases vs2 with
  | nil=>rfl
  | cons _ _=>exact h4.elim
 subst this
 simp at h2
 subst h2
 exact⟨fp,h5,h6,h7⟩

theorem collect1_own [Tags] (hr:Rel0 B X A w0 γ loc st a w) {t:Ty} {ls:List Leaf} {vs:List Value} {v:den t} {ids:List Nat} (h:collect1 st.tab t ls=some v) (ha:All2 (LeafOk loc) ls vs)
  (hg:givenO st ls=some ids) :
  ∃ xs fs,RdO w t v vs xs fs∧xs.Nodup∧(∀ b∈xs,∃ i∈ids,γ b = .top i)∧(∀ b∈fs,γ b = .persist ∨ ∃ i∈ids,γ b = .deep i) ∧
   ((∀ i∈ids,IsUniq st i)→fs.Nodup ∧ ∀ b∈fs,∃ i∈ids,γ b = .deep i):=by
 obtain⟨vs1,vs2,xs,fs,h1,h2,h3,h4,h5,h6,h7⟩:=collect_own hr.ents t ls vs v [] (collect1_eq h) ha ls ids (by simp) hg
 have:vs2=[]:=by
  cases vs2 with
  | nil=>rfl
  | cons _ _=>exact h2.elim
 subst this
 simp at h1
 subst h1
 exact⟨xs,fs,h3,h4,h5,h6,h7⟩

theorem takeIn_ok [Tags] (hr:Rel0 B X A w0 γ loc st a w) {u u':Bool} {ls:List Leaf} {tab:List (Nat×Ent)} (h:takeIn st u ls=some (u',tab)) :
  u'=u ∧ ∃ ids,(∀ j,look tab j=if j∈ids then none else look st.tab j)∧(∀ i∈ids,IsOwn st i) ∧
   ∀ {t:Ty} {v:den t} {vs:List Value},collect1 st.tab t ls=some v→All2 (LeafOk loc) ls vs →
    ∃ fv,Rd w t v vs fv∧(u=true→fv.Nodup ∧ ∀ b∈fv,∃ i∈ids,γ b = .top i∨γ b = .deep i)∧(u=false→ids=[] ∧ ∀ b∈fv,γ b = .persist):=by
 unfold takeIn at h
 cases u with
 | true=>
  simp only at h
  split at h
  ·next ids hg=>
   cases h
   obtain⟨g1,g2⟩:=given_givenO hg
   refine⟨rfl,ids,fun j=>look_eraseAll ids st.tab j,givenO_own g1,?_⟩
   intro t v vs hc ha
   obtain⟨xs,fs,h3,h4,h5,h6,h7⟩:=collect1_own hr hc ha g1
   obtain⟨n1,n2⟩:=h7 g2
   obtain⟨fp,q1,q2,q3⟩:=h3.rdN
   refine⟨fp,q1,fun _=>⟨q3 h4 n1 ?_,?_⟩,(fun h=>by cases h)⟩
   ·intro b hb hb'
    obtain⟨i,_,e1⟩:=h5 b hb
    obtain⟨j,_,e2⟩:=n2 b hb'
    rw[e1] at e2; cases e2
   ·intro b hb
    rcases q2 b hb with h|h
    ·obtain⟨i,hi,e⟩:=h5 b h; exact⟨i,hi,.inl e⟩
    ·obtain⟨i,hi,e⟩:=n2 b h; exact⟨i,hi,.inr e⟩
  ·cases h
 | false=>
  simp only at h
  split at h
  ·next hs=>
   cases h
   refine⟨rfl,[],by simp,by simp,?_⟩
   intro t v vs hc ha
   obtain⟨fp,q1,q2,q3⟩:=collect1_rd hr hc ha
   exact⟨fp,q1,(fun h=>by cases h),fun _=>⟨rfl,q3 hs⟩⟩
  ·cases h

theorem RdL.frame [Tags] {w w':World} {e:Ty} {xs:List (den e)} {cs:List Value} {fp:List Nat} (h:RdL (Rd w e) xs cs fp) (hf : ∀ b∈fp,w'.heap[b]?=w.heap[b]?):RdL (Rd w' e) xs cs fp:=
 RdL.mono (fun x c f hsub hR=>hR.frame (fun b hb=>hf b (hsub b hb))) h

theorem setE_look {tab:List (Nat×Ent)} {id:Nat} {e0:Ent} (h:look tab id=some e0) (x:Ent) (j:Nat):look (setE tab id x) j=if j=id then some x else look tab j:=by
 rw[look_setE]
 by_cases hj:j=id
 ·simp[hj,h]
 ·simp[hj]

theorem own_lvl {i:Nat} (h:IsOwn st i) (e:Ent) (he:look st.tab i=some e) : ¬ e.prot st.lvl:=by
 obtain⟨u,lvl,EE,et,xs,hl,hv⟩:=h
 rw[hl] at he
 cases he
 simp[Ent.prot,hv]

theorem sound_store [Tags] (hT:tysOk P E.tys=true) {T:TypeId} {x y:Operand} (ho:o.op = .store T x y) {d:TD} (hd:lk E.tys T=some d) (harr:d.arr=none) {p:Leaf} (hp:opL st x=some p)
  {ls:List Leaf} (hy:opLs st y=some ls) (hr:Rel0 B X A w0 γ loc st a w) {st':St} (hs:evStore d.ty p ls st=some st') (hk:k (st'.put o.dst (.tup []))=some r)
  (hn:Follows B X A w0 k r o.dst.toList st next):o.wp P a w next Q:=by
 obtain⟨hp1,hp2⟩:=opL_ok hr hp
 obtain⟨hy1,hy2⟩:=opLs_ok hr hy
 have hone:=all_one hy1
 have hylen:=hy1.len
 unfold evStore at hs
 split at hs
 ·next id off=>
  obtain⟨b,hb1,hb2⟩:=hp1
  split at hs
  ·next lvl cells hl=>
   split at hs
   ·next hc=>
    cases hs
    simp only[Bool.and_eq_true] at hc
    obtain⟨⟨hlv,hll⟩,hle⟩:=hc
    have hlv:=(beq_iff _ _).1 hlv
    have hll:=(beq_iff _ _).1 hll
    have hle:=Nat.le_of_ble_eq_true hle
    obtain⟨b',arr,T',fr,q1,q2,q3,q4,q5⟩:=hr.ents id _ hl
    rw[hb1] at q1
    simp only[Value.pointer.injEq,Option.some.injEq,Addr.mk.injEq,and_true] at q1
    subst q1
    have hlen:=q5.len
    have hsz:off+d.ty.size≤arr.size:=by simp at hlen; omega
    have hrun:=run_storeAt (o:=o) (a:=a) hT hd harr ho hb2 q2 q3 hsz (by omega) hone
    refine fin_skp (γ':=γ) (loc':=loc) hn hrun ?_ ?_ hk
    ·refine hr.upd (M:=fun i=>i=id) rfl (Nat.le_refl _) (keeps_put hr.old q4 _ (whole (by have e1:=setAt_len (l:=arr.toList) (k:=off) (vs:=(a.eval y).cells.toList) (by simp at hlen ⊢; simp at hylen; omega); simpa[e1] using q3)) (reshape q2 (by have e1:=setAt_len (l:=arr.toList) (k:=off) (vs:=(a.eval y).cells.toList) (by simp at hlen ⊢; simp at hylen; omega); simpa using e1))) (fun _ _ h=>h) hr.old (fun _ _=>rfl) (Moves.put _ q4 rfl) (fun i hi=>by subst hi; exact⟨_,hl⟩) ?_
     intro i e hi
     rw[setE_look hl] at hi
     split at hi
     ·rename_i hid
      cases hi
      subst hid
      refine .inr ⟨⟨⟨b,_,T',fr,hb1,putBlk_get q2,?_,q4,?_⟩,?_,(hr.elt _ _ hl).2⟩,.inr ⟨_,hl⟩⟩
      ·have e1:=setAt_len (l:=arr.toList) (k:=off) (vs:=(a.eval y).cells.toList) (by simp at hlen ⊢; simp at hylen; omega)
       simpa[e1] using q3
      ·rw[setRange_eq]; exact q5.setAt off hy1
      ·intro l hm
       rcases mem_setAt hm with h|h
       ·exact (hr.elt _ _ hl).1 l h
       ·exact hy2 l h
     ·rename_i hid
      exact .inl ⟨hi,hid⟩
    ·refine⟨rfl,Nat.le_refl _,?_,fun _ _=>rfl,rfl⟩
     intro i e he hpr
     rw[setE_look hl]
     split
     ·rename_i hid
      subst hid
      rw[hl] at he
      cases he
      simp[Ent.prot,hlv] at hpr
     ·exact he
   ·cases hs
  ·cases hs
 ·next id ix esz off=>
  obtain⟨b,ob,n,c,hb1,hix,hb2⟩:=hp1
  split at hs
  ·next u lvl EE e xs hl=>
   split at hs
   ·next v hc hcol=>
    simp only[Bool.and_eq_true] at hc
    obtain⟨hlv,hsz⟩:=hc
    have hlv:=(beq_iff _ _).1 hlv
    have hsz:=(beq_iff _ _).1 hsz
    subst hsz
    split at hs
    ·next F u' tab hF htake=>
     obtain⟨y',hset,hFx⟩:=setAtF_ok hF xs ix v
     rw[hFx] at hs
     split at hs
     ·next e0 hl0=>
      cases hs
      obtain⟨_,ids,hlook,hown,hrd⟩:=takeIn_ok hr htake
      obtain⟨fv,v1,v2,v3⟩:=hrd hcol hy1
      have hid:id∉ids:=by
       intro hm
       rw[hlook,if_pos hm] at hl0
       cases hl0
      obtain⟨xb,fs,g1,g2,g3⟩:=hr.ents id _ hl
      rcases g1 with⟨_,h2,_⟩|⟨b',cap,arr,T',fr,h1,h2,h3,h4,h5,h6,h7,h8,h9⟩
      ·rw[hb1] at h2; simp at h2
      ·rw[hb1] at h1
       simp only[List.cons.injEq,Value.slice.injEq,and_true,Option.some.injEq,Addr.mk.injEq] at h1
       obtain⟨⟨rfl,rfl,_⟩,rfl,rfl⟩:=h1
       have gb:γ b = .top id:=g2 b (by simp[h8])
       obtain⟨f1,f,f2,p1,p2,p3,p4⟩:=h7.setAt' hix
       obtain⟨m1,mm,m2,s1,s2,s3⟩:=setPart_ok e _ off d.ty v y' _ _ f fv hset p2 v1
       have z3:=p4 _ _ _ s2
       have hvl:(a.eval y).cells.toList.length=d.ty.size:=v1.len
       rw[Nat.succ_mul] at p3
       have p3':ix*e.size+e.size≤arr.size:=by simpa using p3
       rw[setAt_in _ _ _ _ _ p3 (by omega)] at z3
       have hadr:ix*e.size+off+d.ty.size≤arr.size:=by omega
       have hb2':a.eval x = .pointer (some ⟨b,ix*e.size+off,none⟩):=by rw[hb2]; congr 4; omega
       have hrun:=run_storeAt (o:=o) (a:=a) hT hd harr ho hb2' h2 h3 hadr hvl hone
       have hb':relab ids (.deep id) γ b = .top id:=by rw[relab_top gb,if_neg hid]
       have hfs : ∀ c∈fs,c≠b:=by
        intro c hc he
        subst he
        cases u with
        | true=>have:=g3.2 c hc; rw[gb] at this; cases this
        | false=>have:=g3 c hc; rw[gb] at this; cases this
       have hfv : ∀ c∈fv,c≠b:=by
        intro c hc he
        subst he
        cases hu:(u && e.hasSl) with
        | true=>
         obtain⟨i,hi,h|h⟩:=(v2 hu).2 c hc<;>rw[gb] at h<;>cases h
         exact hid hi
        | false=>have:=(v3 hu).2 c hc; rw[gb] at this; cases this
       have hold : ∀ c,c∈f1++m1++m2++f2→c∈fs:=by
        intro c hc
        rw[p1,s1]
        simp only[List.mem_append] at hc ⊢
        rcases hc with ((h|h)|h)|h<;>simp[h]
       have z3':RdL (Rd (putBlk w b (.cells (setAt arr.toList (ix*e.size+off) (a.eval y).cells.toList).toArray T' fr)) e) (xs.set ix y')
         (setAt arr.toList (ix*e.size+off) (a.eval y).cells.toList) (f1++(m1++fv++m2)++f2):=by
        refine z3.frame (fun c hc=>putBlk_ne ?_)
        simp only[List.mem_append] at hc
        rcases hc with (h|((h|h)|h))|h
        ·exact hfs c (hold c (by simp[h]))
        ·exact hfs c (hold c (by simp[h]))
        ·exact hfv c h
        ·exact hfs c (hold c (by simp[h]))
        ·exact hfs c (hold c (by simp[h]))
       have hsz2:(setAt arr.toList (ix*e.size+off) (a.eval y).cells.toList).length=arr.size:=by rw[setAt_len (by rw[hvl,Array.length_toList]; exact hadr)]; simp
       refine fin_skp (γ':=relab ids (.deep id) γ) (loc':=loc) hn hrun ?_ ?_ hk
       ·refine hr.upd (M:=fun i=>i∈ids∨i=id) rfl (Nat.le_refl _) (keeps_put hr.old gb _ (whole (by simpa[hsz2] using h3)) (reshape h2 (by simpa using hsz2))) (fun _ _ h=>relab_owned h) (relab_old hr.old) (fun _ _=>rfl)
         ((Moves.relab (.inr ⟨id,rfl⟩) γ w).trans (Moves.put _ hb' rfl) (Nat.le_refl _)) (fun i hi=>hi.elim (fun h=>by obtain⟨u,lvl,E',e,xs,h',_⟩:=hown i h; exact⟨_,h'⟩) (fun h=>by subst h; exact⟨_,hl⟩)) ?_
        intro i e' hi
        rw[setE_look hl0] at hi
        split at hi
        ·rename_i hii
         cases hi
         subst hii
         refine .inr ⟨⟨⟨[b],f1++(m1++fv++m2)++f2,?_,by simpa using hb',?_⟩,trivial,(hr.elt _ _ hl).2⟩,.inr ⟨_,hl⟩⟩
         ·refine .inr ⟨b,_,_,T',fr,by rw[hb1,List.length_set],putBlk_get h2,by simpa[hsz2] using h3,by simpa[hsz2] using h4,by simpa using h5,by simpa using h6,by simpa using z3',rfl,h9⟩
         ·cases u with
          | false=>
           have hv:=(v3 (by simp)).2
           intro c hc
           refine relab_persist ?_
           simp only[List.mem_append] at hc
           rcases hc with (h|((h|h)|h))|h
           ·exact g3 c (hold c (by simp[h]))
           ·exact g3 c (hold c (by simp[h]))
           ·exact hv c h
           ·exact g3 c (hold c (by simp[h]))
           ·exact g3 c (hold c (by simp[h]))
          | true=>
           cases hh:e.hasSl with
           | false=>
            rw[z3'.noSl hh]
            exact⟨List.nodup_nil,by simp⟩
           | true=>
            obtain⟨nv,dv⟩:=v2 (by simp[hh])
            obtain⟨nf,df⟩:=g3
            have hdis : ∀ c∈fv,c∉fs:=by
             intro c hc hc'
             obtain⟨i,hi,h|h⟩:=dv c hc<;>rw[df c hc'] at h<;>cases h
             exact hid hi
            refine⟨?_,?_⟩
            ·have e1:f1++(m1++fv++m2)++f2=(f1++m1)++fv++(m2++f2):=by simp
             have e2:fs=(f1++m1)++mm++(m2++f2):=by rw[p1,s1]; simp
             rw[e1]
             refine nodup_swap (fm:=mm) (by rw[←e2]; exact nf) nv (fun c hc=>⟨fun h=>hdis c hc (hold c ?_),fun h=>hdis c hc (hold c ?_)⟩)
             ·simp only[List.mem_append] at h ⊢; rcases h with h|h<;>simp[h]
             ·simp only[List.mem_append] at h ⊢; rcases h with h|h<;>simp[h]
            ·intro c hc
             have hd' : ∀ c∈fs,relab ids (.deep i) γ c = .deep i:=fun c hc=>by rw[relab_deep (df c hc),if_neg hid]
             simp only[List.mem_append] at hc
             rcases hc with (h|((h|h)|h))|h
             ·exact hd' c (hold c (by simp[h]))
             ·exact hd' c (hold c (by simp[h]))
             ·obtain⟨j,hj,h'|h'⟩:=dv c h
              ·rw[relab_top h',if_pos hj]
              ·rw[relab_deep h',if_pos hj]
             ·exact hd' c (hold c (by simp[h]))
             ·exact hd' c (hold c (by simp[h]))
        ·rename_i hii
         rw[hlook] at hi
         split at hi
         ·cases hi
         ·rename_i hni
          exact .inl ⟨hi,fun h=>h.elim hni hii⟩
       ·refine⟨rfl,Nat.le_refl _,?_,fun _ _=>rfl,rfl⟩
        intro i e' he hpr
        rw[setE_look hl0]
        split
        ·rename_i hii
         subst hii
         rw[hl] at he
         cases he
         simp[Ent.prot,hlv] at hpr
        ·rw[hlook]
         split
         ·rename_i hm; exact absurd hpr (own_lvl (hown i hm) _ he)
         ·exact he
     ·cases hs
    ·cases hs
   ·cases hs
  ·cases hs
 ·cases hs

end Ev
