/- The evaluator of the own library, part 3: its words, its soundness. Conditions: none of its own. -/
import Derived.Test.YthcbhmiocejpjaaGreatDoorLibB
import Derived.Laws.Strings
import Derived.Laws.StructEq
import Derived.Lib.ConvBytes
import Derived.Laws.BytesString
set_option linter.unusedSimpArgs false
set_option linter.unusedVariables false
namespace Ev
open Go
variable {P:Program} {o:Oper} {a:Act} {w w':World} {next:Act->World->Prop} {Q:Exit->Act->World->Prop}
variable {B:Nat} {X:List Nat} {A:Ctx} {w0:World} {γ γ':Nat->Own} {loc loc':Nat->Value} {st st1:St} {R:Type} {k:St->Option R} {r:R} {E:Env}
theorem L3 (n:Int):Bnd .i64 n↔(-9223372036854775808<=n/\n<=9223372036854775807):=Iff.rfl
theorem Jm (n:Int):IntKind.i64.wrap n=wr n:=by
 have h:IntKind.i64.wrap n=if n % 18446744073709551616≥9223372036854775808 then n % 18446744073709551616 - 18446744073709551616 else n % 18446744073709551616:=by
  simp[IntKind.wrap,IntKind.bits,IntKind.signed]
 rw[h];rw[oC];split<;>omega
theorem K1 [Tags] (n:Int):Bnd .i64 (wr n):=by
 rw[L3];rw[oC];omega
theorem wu [Tags] {n:Int} (h:Bnd .i64 n):wr n=n:=by
 rw[L3] at h;rw[oC];omega
theorem yR [Tags] {x:AV} {v:Value} (hn:yi B X A w0 k r o.dst.toList st next) (hr:Rel0 B X A w0 γ loc st a w) (ah4:(execOp a.eval o).run P w=.ok (.value v) w)
  (hv:AVOk loc x v) (hx:x.lt st.nxt) (hk:k (st.put o.dst x)=some r):o.wp P a w next Q:=
 Zg hn ah4 hr (Pres.refl _ _) hv hx hk
theorem agy [Tags] {x y:Int} (hx:Bnd .i64 x):Bnd .i64 (x.tmod y):=by
 rw[L3] at *;have h3:(x.tmod y).natAbs<=x.natAbs:=by rw[Int.natAbs_tmod x y]; exact Nat.mod_le _ _
 have h4:x<0->x.tmod y<=0:=by
  intro hx0;have:=Int.tmod_nonneg (a := -x) y (by omega);rw[Int.neg_tmod] at this;omega
 omega
theorem xK [Tags] {x:Int} (hx:Bnd .i64 x) (n:Nat):Bnd .i64 (x.fdiv (2 ^ n)):=by
 rw[L3] at *;have hp:(0:Int)<2 ^ n:=Int.pow_pos (by decide);have hp1:(1:Int)<=2 ^ n:=hp;rw[Int.fdiv_eq_ediv_of_nonneg _ (Int.le_of_lt hp)];rcases Int.lt_or_le x 0 with h|h
 ·have h1:x<=x / 2 ^ n:=by
   rw[Int.le_ediv_iff_mul_le hp];have:=Int.mul_le_mul_of_nonpos_left (Int.le_of_lt h) hp1;omega
  have h2:=Int.ediv_neg_of_neg_of_pos h hp;omega
 ·have h1:=Int.ediv_nonneg h (Int.le_of_lt hp);have h2:=Int.ediv_le_self (2 ^ n) h;omega
theorem ot (n:Int):IntKind.u8.wrap n=n % 256:=by
 simp[IntKind.wrap,IntKind.bits,IntKind.signed]
theorem agB (n:Int):((y8 n).toNat:Int)=n % 256:=by
 rw[wc];have:(n % 256).toNat<256:=by omega
 rw[UInt8.toNat_ofNat',asu (by simpa using this)];omega
theorem abH [Tags] {op:BinOp} {x y:Int} {l:Leaf} (hx:Bnd .i64 x) (hy:Bnd .i64 y) {T:TypeId} {loc:Nat->Value}
  (h:jp (R:=Leaf) op (.v (.one (.i x))) (.v (.one (.i y))) some=some l):
  ∃ v,(binOp op T (.int .i64 x) (.int .i64 y)).run P w=.ok v w/\LeafOk loc l v/\∀ n,l.lt n:=by
 unfold jp at h;simp only at h;cases op<;>simp only[] at h
 case add=>cases h; exact⟨_,by simp[binOp,Op.intArith,Jm],⟨rfl,K1 _⟩,λ _=>trivial⟩
 case sub=>cases h; exact⟨_,by simp[binOp,Op.intArith,Jm],⟨rfl,K1 _⟩,λ _=>trivial⟩
 case mul=>cases h; exact⟨_,by simp[binOp,Op.intArith,Jm],⟨rfl,K1 _⟩,λ _=>trivial⟩
 case quo=>
  split at h
  ·cases h
  ·rename_i hz; cases h; exact⟨_,by simp[binOp,Op.intDiv,Jm,hz],⟨rfl,K1 _⟩,λ _=>trivial⟩
 case rem=>
  split at h
  ·cases h
  ·rename_i hz; cases h; exact⟨_,by simp[binOp,Op.intDiv,hz],⟨rfl,agy hx⟩,λ _=>trivial⟩
 case and=>cases h; exact⟨_,by simp[binOp,Op.intBits,Jm]; rfl,⟨rfl,K1 _⟩,λ _=>trivial⟩
 case or=>cases h; exact⟨_,by simp[binOp,Op.intBits,Jm]; rfl,⟨rfl,K1 _⟩,λ _=>trivial⟩
 case xor=>cases h; exact⟨_,by simp[binOp,Op.intBits,Jm]; rfl,⟨rfl,K1 _⟩,λ _=>trivial⟩
 case shl=>
  split at h
  ·cases h
  ·rename_i hz; cases h; exact⟨_,by simp[binOp,Op.shift,hz,Jm]; rfl,⟨rfl,K1 _⟩,λ _=>trivial⟩
 case shr=>
  split at h
  ·cases h
  ·rename_i hz; cases h; exact⟨_,by simp[binOp,Op.shift,hz]; rfl,⟨rfl,xK hx _⟩,λ _=>trivial⟩
 case andNot=>cases h
 case eql=>cases h; exact⟨_,by simp[binOp,Op.intCmp],rfl,λ _=>trivial⟩
 case neq=>cases h; exact⟨_,by simp[binOp,Op.intCmp],rfl,λ _=>trivial⟩
 case lss=>cases h; exact⟨_,by simp[binOp,Op.intCmp],rfl,λ _=>trivial⟩
 case leq=>cases h; exact⟨_,by simp[binOp,Op.intCmp],rfl,λ _=>trivial⟩
 case gtr=>cases h; exact⟨_,by simp[binOp,Op.intCmp],rfl,λ _=>trivial⟩
 case geq=>cases h; exact⟨_,by simp[binOp,Op.intCmp],rfl,λ _=>trivial⟩
theorem wj (x y:UInt8):((x.toNat:Int)==(y.toNat:Int))=(x==y):=by
 by_cases h:x=y
 ·simp[h]
 ·have:x.toNat≠y.toNat:=λ e=>h (UInt8.toNat_inj.1 e);have h2:((x.toNat:Int)==(y.toNat:Int))=false:=by simp; omega
  rw[h2]; simp[h]
theorem abJ [Tags] {op:BinOp} {x y:UInt8} {l:Leaf} {T:TypeId} {loc:Nat->Value}
  (h:jp (R:=Leaf) op (.v (.one (.u x))) (.v (.one (.u y))) some=some l):
  ∃ v,(binOp op T (.int .u8 (x.toNat:Int)) (.int .u8 (y.toNat:Int))).run P w=.ok v w/\LeafOk loc l v/\∀ n,l.lt n:=by
 unfold jp at h;simp only at h;have hx:=x.toNat_lt;have hy:=y.toNat_lt;cases op<;>simp only[] at h<;>first|(cases h; done)|skip
 case add=>
  cases h;refine⟨_,by simp[binOp,Op.intArith]; rfl,?_,λ _=>trivial⟩
  simp only[LeafOk,ot,UInt8.toNat_add];congr 1
 case sub=>
  cases h;refine⟨_,by simp[binOp,Op.intArith]; rfl,?_,λ _=>trivial⟩
  simp only[LeafOk,ot,UInt8.toNat_sub];congr 1;omega
 case eql=>cases h; exact⟨_,by simp[binOp,Op.intCmp]; rfl,by rw[LeafOk,wj],λ _=>trivial⟩
 case neq=>cases h; exact⟨_,by simp[binOp,Op.intCmp]; rfl,by rw[LeafOk,bne,wj]; rfl,λ _=>trivial⟩
 case lss=>cases h; exact⟨_,by simp[binOp,Op.intCmp]; rfl,by simp[LeafOk,UInt8.lt_iff_toNat_lt],λ _=>trivial⟩
 case leq=>cases h; exact⟨_,by simp[binOp,Op.intCmp]; rfl,by simp[LeafOk,UInt8.le_iff_toNat_le],λ _=>trivial⟩
 case gtr=>cases h; exact⟨_,by simp[binOp,Op.intCmp]; rfl,by simp[LeafOk,UInt8.lt_iff_toNat_lt],λ _=>trivial⟩
 case geq=>cases h; exact⟨_,by simp[binOp,Op.intCmp]; rfl,by simp[LeafOk,UInt8.le_iff_toNat_le],λ _=>trivial⟩
theorem L4 (l:List UInt8):(⟨⟨l⟩⟩:ByteArray).toList=l:=ByteArray.toList_eq _
theorem U0 (l m:List UInt8):(⟨⟨l⟩⟩:ByteArray)++⟨⟨m⟩⟩=⟨⟨l++m⟩⟩:=rfl
theorem abI [Tags] {op:BinOp} {x y:List UInt8} {l:Leaf} {T:TypeId} {loc:Nat->Value} (hx:Bnd .str x) (hy:Bnd .str y)
  (h:jp (R:=Leaf) op (.v (.one (.s x))) (.v (.one (.s y))) some=some l):
  ∃ v,(binOp op T (.string ⟨⟨x⟩⟩) (.string ⟨⟨y⟩⟩)).run P w=.ok v w/\LeafOk loc l v/\∀ n,l.lt n:=by
 unfold jp at h;simp only at h;cases op<;>simp only[] at h<;>first|(cases h; done)|skip
 case add=>
  split at h
  ·next hle=>
   cases h;refine⟨.string (⟨⟨x⟩⟩++⟨⟨y⟩⟩),?_,⟨by rw[U0],by simp only[Bnd,aqM]; exact hle⟩,λ _=>trivial⟩
   simp only[binOp,Op.stringOp];rw[if_neg]
   ·rfl
   ·have e1:(⟨⟨x⟩⟩:ByteArray).size=x.length:=rfl;have e2:(⟨⟨y⟩⟩:ByteArray).size=y.length:=rfl;rw[e1,e2];simp[IntKind.max,IntKind.signed,IntKind.bits];omega
  ·cases h
 case eql=>cases h; exact⟨_,by simp only[binOp,Op.stringOp,L4,aqR],rfl,λ _=>trivial⟩
 case neq=>cases h; exact⟨.bool (!(x==y)),by simp only[binOp,Op.stringOp,L4,aqR],rfl,λ _=>trivial⟩
 case lss=>cases h; exact⟨_,by simp only[binOp,Op.stringOp,L4,aqR],rfl,λ _=>trivial⟩
 case leq=>cases h; exact⟨_,by simp only[binOp,Op.stringOp,L4,aqR],rfl,λ _=>trivial⟩
 case gtr=>cases h; exact⟨_,by simp only[binOp,Op.stringOp,L4,aqR],rfl,λ _=>trivial⟩
 case geq=>cases h; exact⟨_,by simp only[binOp,Op.stringOp,L4,aqR],rfl,λ _=>trivial⟩
theorem xI {op:BinOp} {x y:AV} {f:Leaf->Option R} (h:jp op x y f=some r):∃ l,jp (R:=Leaf) op x y some=some l/\f l=some r:=by
 unfold jp at h ⊢;split at h
 ·cases op<;>first|exact⟨_,rfl,h⟩|(cases h; done)|(simp only at h ⊢; split at h<;>first|(cases h; done)|(rename_i hz; rw[if_neg hz]; exact⟨_,rfl,h⟩))
 ·cases op<;>first|exact⟨_,rfl,h⟩|(cases h; done)
 ·cases op<;>first|exact⟨_,rfl,h⟩|(cases h; done)
 ·cases op<;>first|exact⟨_,rfl,h⟩|(cases h; done)|(simp only at h ⊢; split at h<;>first|(cases h; done)|(rename_i hz; rw[if_pos hz]; exact⟨_,rfl,h⟩))
 ·split at h
  ·next h1=>first|exact⟨_,rfl,h⟩|(rw[h1]; exact⟨_,rfl,h⟩)
  ·next h1=>first|exact⟨_,rfl,h⟩|(rw[h1]; exact⟨_,rfl,h⟩)
  ·cases h
 ·cases h
theorem ah {op:BinOp} {T:TypeId} {x y:Operand} {u v:Value} (h:∀ cs,u ≠ .agg cs) (h2:u ≠ .nilIface) (w:World):(eqGuard op T x y u v).run P w=.ok () w:=by
 unfold eqGuard;cases op<;>first|rfl|(cases u<;>cases v<;>first|rfl|(exact absurd rfl (h _))|(exact absurd rfl h2))
theorem abL [Tags] {T:TypeId} (hu:P.underlying T=some .bool) (n:Nat) (x y:Bool) (w:World):(Op.equalIn (n+1) T (.bool x) (.bool y)).run P w=.ok (x==y) w:=by
 unfold Op.equalIn;simp[yy hu]
theorem Fk [Tags] {T:TypeId} (hu:P.underlying T=some .bool) (x y:Bool) (w:World):(Op.equal T (.bool x) (.bool y)).run P w=.ok (x==y) w:=
 abL hu 9999 x y w
theorem TOk.bool {tys:List (Nat×TD)} {t:Nat} {d:TD} (h:TOk P tys t d) (hty:d.ty=.bool):P.underlying t=some .bool:=by
 obtain⟨u,hu,hc⟩:=h.und;rw[hu];unfold KX at hc;split at hc
 ·simp[hty] at hc
 ·simp[hty] at hc
 ·rfl
 ·simp[hty] at hc
 ·simp[hty] at hc
 ·simp only[hty] at hc;split at hc
  ·next h1 h2=>cases h2
  ·cases hc
 ·simp[hty,Ty.isPair] at hc
 ·cases hc
theorem abG [Tags] {op:BinOp} {x y:Bool} {l:Leaf} {T:TypeId} (hu:P.underlying T=some .bool) {loc:Nat->Value}
  (h:jp (R:=Leaf) op (.v (.one (.b x))) (.v (.one (.b y))) some=some l):
  ∃ v,(binOp op T (.bool x) (.bool y)).run P w=.ok v w/\LeafOk loc l v/\∀ n,l.lt n:=by
 unfold jp at h;simp only at h;cases op<;>simp only[] at h<;>first|(cases h; done)|skip
 case eql=>
  cases h;refine⟨.bool (x==y),?_,rfl,λ _=>trivial⟩;unfold binOp;simp only[aqT,Fk hu,aqQ,aqR]
 case neq=>
  cases h;refine⟨.bool (!(x==y)),?_,rfl,λ _=>trivial⟩;unfold binOp;simp only[aqT,Fk hu,aqQ,aqR]
def MK (P:Program) (ft:TypeId) (t:Ty):Bool:=
 match P.underlying ft,t with
 | some (.int .i64),.i64=>true
 | some (.int .u8),.u8=>true
 | some .bool,.bool=>true
 | some .string,.str=>true
 | _,_=>false
def Nf (P:Program):List Field->Ty->Nat->Bool
 | [],_,_=>false
 | [f],t,n=>(f.name != "_") && Nat.beq f.offset n && MK P f.type t
 | f::fs,.pair a b,n=>(f.name != "_") && Nat.beq f.offset n && MK P f.type a && Nf P fs b (n+1)
 | _,_,_=>false
def Na (P:Program) (tys:List (Nat×TD)) (t:Nat):Bool:=
 (match lk tys t with|some d=>(match P.underlying t with|some (.struct fs)=>Nf P fs.toList d.ty 0|_=>false)|none=>false) && !P.stoodInHeld t && !P.eqGuardType P.depth t
theorem U1 [Tags] (l m:List UInt8):((⟨⟨l⟩⟩:ByteArray)==⟨⟨m⟩⟩)=(l==m):=by
 rw[beq_toListBytes,L4,L4]
def qM:Leaf->Leaf->Option Bool
 | .i a,.i b=>some (a==b)
 | .u a,.u b=>some (a==b)
 | .b a,.b b=>some (a==b)
 | .s a,.s b=>some (a==b)
 | _,_=>none
theorem xH {x y:Leaf} {xs ys:List Leaf} {z:Bool} (h:YE (x::xs) (y::ys)=some z):∃ z1 z2,qM x y=some z1/\YE xs ys=some z2/\z=(z1 && z2):=by
 cases x<;>cases y<;>simp only[YE] at h<;>first|(cases h; done)|(split at h<;>first|(cases h; done)|(rename_i z2 hz; cases h; exact⟨_,z2,rfl,hz,rfl⟩))
theorem Fj [Tags] {x y:Leaf} {u v:Value} {z:Bool} (h:qM x y=some z) (hx:LeafOk loc x u) (hy:LeafOk loc y v) {ft:TypeId} {t:Ty} (hs:MK P ft t=true) (n:Nat)
  (ht:Mr t x=true):(Op.equalIn (n+1) ft u v).run P w=.ok z w:=by
 unfold MK at hs;split at hs
 ·next hu=>
  cases x<;>simp only[Mr] at ht<;>first|(cases ht; done)|skip
  cases y<;>simp only[qM] at h<;>first|(cases h; done)|skip
  cases h;rw[hx.1,hy.1];unfold Op.equalIn;simp[yy hu]
 ·next hu=>
  cases x<;>simp only[Mr] at ht<;>first|(cases ht; done)|skip
  cases y<;>simp only[qM] at h<;>first|(cases h; done)|skip
  cases h;rw[show u=_ from hx,show v=_ from hy];unfold Op.equalIn;simp[yy hu,wj]
 ·next hu=>
  cases x<;>simp only[Mr] at ht<;>first|(cases ht; done)|skip
  cases y<;>simp only[qM] at h<;>first|(cases h; done)|skip
  cases h;rw[show u=_ from hx,show v=_ from hy];unfold Op.equalIn;simp[yy hu]
 ·next hu=>
  cases x<;>simp only[Mr] at ht<;>first|(cases ht; done)|skip
  cases y<;>simp only[qM] at h<;>first|(cases h; done)|skip
  cases h;rw[hx.1,hy.1];unfold Op.equalIn;simp only[aqT,yy hu,aqQ,aqR,U1]
 ·cases hs
theorem aer [Tags] {ft:TypeId} {t:Ty} (hs:MK P ft t=true) (w:World):(Go.isAgg ft).run P w=.ok false w:=by
 unfold MK at hs;split at hs
 ·next hu=>simp[Go.isAgg,yy hu]
 ·next hu=>simp[Go.isAgg,yy hu]
 ·next hu=>simp[Go.isAgg,yy hu]
 ·next hu=>simp[Go.isAgg,yy hu]
 ·cases hs
theorem mg [Tags] {ft:TypeId} {t:Ty} (hs:MK P ft t=true) {cs:List Value} {n:Nat} {v:Value} (h:cs[n]?=some v) (w:World):(Go.part ft cs.toArray n).run P w=.ok v w:=by
 simp only[Go.part,aqT,aer hs,aqQ,ar3,if_false,asB,h,aqR]
theorem qJ {α:Type} {l r:List α} {n:Nat} {x:α} (h:l.drop n=x::r):l[n]?=some x/\l.drop (n+1)=r:=by
 refine⟨?_,?_⟩
 ·have:=List.getElem?_drop (xs:=l) (i:=n) (j:=0);rw[h] at this;simpa using this.symm
 ·rw[show n+1=n+1 from rfl,←ark,h]; rfl
theorem xR [Tags] (d:Nat) (us vs:List Value):∀ (fs:List Field) (t:Ty) (n:Nat) (l1 l2:List Leaf) (u2 v2:List Value) (z:Bool),Nf P fs t n=true->us.drop n=u2->vs.drop n=v2->
  All2 (LeafOk loc) l1 u2->All2 (LeafOk loc) l2 v2->YE l1 l2=some z->Nd t l1=true->(Op.eqFields (d+1) us.toArray vs.toArray fs).run P w=.ok z w
 | [],t,n,l1,l2,u2,v2,z,h,_,_,_,_,_,_=>by simp[Nf] at h
 | [f],t,n,l1,l2,u2,v2,z,h,hu,hv,h1,h2,he,hf=>by
  simp only[Nf,aqF] at h;obtain⟨⟨hn,ho⟩,hs⟩:=h;have ho:=(zV _ _).1 ho;have hn':f.name ≠ "_" := by simpa using hn
  have hnp:∀ a b,t ≠ .pair a b:=by
   intro a b e; subst e
   unfold MK at hs;split at hs<;>first|(cases hs; done)|(rename_i h1 h2; cases h2)|skip
   all_goals simp_all
  have hl1:∃ x,l1=[x]/\Mr t x=true:=by
   cases l1 with
   | nil=>cases t<;>simp[Nd] at hf
   | cons x l1=>
    cases l1 with
    | nil=>exact⟨x,rfl,by cases t<;>first|exact hf|(exact absurd rfl (hnp _ _))⟩
    | cons y l1=>exfalso; cases t<;>first|(simp[Nd] at hf; done)|(exact absurd rfl (hnp _ _))
  obtain⟨x,rfl,hx⟩:=hl1;cases u2 with
  | nil=>exact h1.elim
  | cons u u2=>
   cases l2 with
   | nil=>simp[YE] at he
   | cons y l2=>
   cases v2 with
   | nil=>exact h2.elim
   | cons v v2=>
    obtain⟨z1,z2,e1,e2,e3⟩:=xH he;have hz2:z2=true:=by
     cases l2 with
     | nil=>simpa[YE] using e2.symm
     | cons _ _=>simp[YE] at e2
    have r1:=Fj (P:=P) (w:=w) e1 h1.1 h2.1 hs d hx;simp only[Op.eqFields,if_pos hn',aqT,ho,mg hs (qJ hu).1,mg hs (qJ hv).1,r1,aqQ];rw[e3,hz2];cases z1<;>simp
 | f::g::fs,t,n,l1,l2,u2,v2,z,h,hu,hv,h1,h2,he,hf=>by
  cases t with
  | pair a b=>
   simp only[Nf,aqF] at h;obtain⟨⟨⟨hn,ho⟩,hs⟩,hr⟩:=h;have ho:=(zV _ _).1 ho;have hn':f.name ≠ "_" := by simpa using hn
   cases l1 with
   | nil=>simp[Nd] at hf
   | cons x l1=>
    cases u2 with
    | nil=>exact h1.elim
    | cons u u2=>
    cases l2 with
    | nil=>simp[YE] at he
    | cons y l2=>
     cases v2 with
     | nil=>exact h2.elim
     | cons v v2=>
     obtain⟨z1,z2,e1,e2,e3⟩:=xH he;simp only[Nd,aqF] at hf;have r1:=Fj (P:=P) (w:=w) e1 h1.1 h2.1 hs d hf.1;have r2:=xR d us vs (g::fs) b (n+1) l1 l2 u2 v2 z2 hr (qJ hu).2 (qJ hv).2 h1.2 h2.2 e2 hf.2;rw[Op.eqFields];simp only[if_pos hn',aqT,ho,mg hs (qJ hu).1,mg hs (qJ hv).1,r1,aqQ];rw[e3];cases z1
     ·simp
     ·simpa using r2
  | _=>simp[Nf] at h
theorem Wn {E:Env} (hQ:E.eqs.all (Na P E.tys)=true) {T:Nat} (h:E.eqs.elem T=true):Na P E.tys T=true:=
 List.all_eq_true.1 hQ _ (List.mem_of_elem_eq_true h)
theorem aeW [Tags] (hT:yA P E.tys=true) (hQ:E.eqs.all (Na P E.tys)=true) {op:BinOp} {T yT:TypeId} {x y:Operand} (ho:o.op=.binOp op T x y yT) {u v:AV} (hx:opnd st x=some u) (hy:opnd st y=some v)
  (hq:fK E T u=true) (hr:Rel0 B X A w0 γ loc st a w) (hk:(jp op u v λ l=>k (st.put o.dst (.v (.one l))))=some r) (hn:yi B X A w0 k r o.dst.toList st next):o.wp P a w next Q:=by
 obtain⟨hx1,hx2⟩:=Kd hr hx;obtain⟨hy1,hy2⟩:=Kd hr hy;obtain⟨l,hl,hk'⟩:=xI hk;have hex:∀ {f:Value},(eqGuard op T x y (a.eval x) (a.eval y)).run P w=.ok () w->(binOp op T (a.eval x) (a.eval y)).run P w=.ok f w->(execOp a.eval o).run P w=.ok (.value f) w:=by
  intro f h1 h2;simp only[execOp,ho,aqT,h1,h2,aqQ,aqR]
 cases u with
 | v u1=>
  cases u1 with
  | one lu=>
   cases v with
   | v v1=>
    cases v1 with
    | one lv=>
     cases lu<;>cases lv<;>first|(simp only[jp] at hl; cases hl; done)|skip
     ·obtain⟨f,q1,q2,q3⟩:=abH (P:=P) (w:=w) (T:=T) (loc:=loc) hx1.2 hy1.2 hl;have e1:a.eval x=_:=hx1.1;have e2:a.eval y=_:=hy1.1;refine yR (x:=.v (.one l)) hn hr (hex (ah (by rw[e1]; simp) (by rw[e1]; simp) w) (by rw[e1,e2]; exact q1)) q2 (q3 _) hk'
     ·obtain⟨f,q1,q2,q3⟩:=abJ (P:=P) (w:=w) (T:=T) (loc:=loc) hl;have e1:a.eval x=_:=hx1;have e2:a.eval y=_:=hy1;refine yR (x:=.v (.one l)) hn hr (hex (ah (by rw[e1]; simp) (by rw[e1]; simp) w) (by rw[e1,e2]; exact q1)) q2 (q3 _) hk'
     ·simp only[fK] at hq;split at hq
      ·next hd=>
       obtain⟨f,q1,q2,q3⟩:=abG (P:=P) (w:=w) (T:=T) (loc:=loc) ((yh hT hd).bool rfl) hl;have e1:a.eval x=_:=hx1;have e2:a.eval y=_:=hy1;refine yR (x:=.v (.one l)) hn hr (hex (ah (by rw[e1]; simp) (by rw[e1]; simp) w) (by rw[e1,e2]; exact q1)) q2 (q3 _) hk'
      ·cases hq
     ·obtain⟨f,q1,q2,q3⟩:=abI (P:=P) (w:=w) (T:=T) (loc:=loc) hx1.2 hy1.2 hl;have e1:a.eval x=_:=hx1.1;have e2:a.eval y=_:=hy1.1;refine yR (x:=.v (.one l)) hn hr (hex (ah (by rw[e1]; simp) (by rw[e1]; simp) w) (by rw[e1,e2]; exact q1)) q2 (q3 _) hk'
    | agg ls=>cases lu<;>(simp only[jp] at hl; cases hl)
    | any=>cases lu<;>(simp only[jp] at hl; cases hl)
   | _=>cases lu<;>(simp only[jp] at hl; cases hl)
  | any=>simp only[jp] at hl; cases hl
  | agg ls=>
   cases v with
   | v v1=>
    cases v1 with
    | one lv=>simp only[jp] at hl; cases hl
    | any=>simp only[jp] at hl; cases hl
    | agg ms=>
     simp only[jp] at hl;obtain⟨us,e1,h1⟩:=hx1;obtain⟨vs,e2,h2⟩:=hy1;simp only[fK,aqF] at hq;obtain⟨hq1,hq2⟩:=hq;have hok:=Wn hQ hq1;simp only[Na,aqF,arc] at hok;obtain⟨⟨hf,hs⟩,hg⟩:=hok;split at hq2
     ·next d hd=>
      rw[hd] at hf;simp only at hf;split at hf
      ·next fs hu=>
       have ah4:∀ z,YE ls ms=some z->(Op.equal T (a.eval x) (a.eval y)).run P w=.ok z w:=by
        intro z hz;have:=xR (P:=P) (w:=w) (loc:=loc) 9998 us vs fs.toList d.ty 0 ls ms us vs z hf rfl rfl h1 h2 hz hq2;have hfo:P.fieldsOf T=fs:=by simp[Program.fieldsOf,hu]
        rw[e1,e2];show (Op.equalIn (9999+1) T _ _).run P w=_;rw[run_equalIn_struct (P:=P) w 9999 T us.toArray vs.toArray (by rw[hfo]; exact hu) hs,hfo]
        exact this
       have hgd:(eqGuard op T x y (a.eval x) (a.eval y)).run P w=.ok () w:=by
        rw[e1,e2];unfold eqGuard;cases op<;>first|rfl|simp[hg]
       split at hl
       ·next z hz=>
        cases hl;refine yR (x:=.v (.one (.b z))) (v:=.bool z) hn hr (hex hgd ?_) rfl trivial hk';have:=ah4 z hz;rw[e1,e2] at this ⊢;unfold binOp;simp only[aqT,this,aqQ,aqR]
       ·next z hz=>
        cases hl;refine yR (x:=.v (.one (.b (!z)))) (v:=.bool (!z)) hn hr (hex hgd ?_) rfl trivial hk';have:=ah4 z hz;rw[e1,e2] at this ⊢;unfold binOp;simp only[aqT,this,aqQ,aqR]
       ·cases hl
      ·cases hf
     ·cases hq2
   | _=>simp only[jp] at hl; cases hl
 | _=>cases v<;>(simp only[jp] at hl; cases hl)
theorem Ik [Tags] {op:UnOp} {T:TypeId} {x:Operand} (ho:o.op=.unOp op T x) {l l':Leaf} (hx:zC st x=some l) (hr:Rel0 B X A w0 γ loc st a w)
  (hl:(op=.not/\∃ b,l=.b b/\l'=.b (!b))∨(op=.neg/\∃ n,l=.i n/\l'=.i (wr (0 - n)))) (hk:k (st.put o.dst (.v (.one l')))=some r)
  (hn:yi B X A w0 k r o.dst.toList st next):o.wp P a w next Q:=by
 obtain⟨h1,h2⟩:=y0 hr hx;rcases hl with⟨rfl,b,rfl,rfl⟩|⟨rfl,n,rfl,rfl⟩
 ·refine yR (x:=.v (.one (.b (!b)))) (v:=.bool (!b)) hn hr ?_ rfl trivial hk;simp only[execOp,ho,show a.eval x=_ from h1,Op.unary,aqT,aqR,aqQ]
 ·refine yR (x:=.v (.one (.i (wr (0 - n))))) (v:=.int .i64 (wr (0 - n))) hn hr ?_ ⟨rfl,K1 _⟩ trivial hk;simp only[execOp,ho,show a.eval x=_ from h1.1,Op.unary,Op.intArith,aqT,aqR,aqQ,Jm]
theorem wg {tys:List (Nat×TD)} {t:Nat} {d:TD} (h:TOk P tys t d) (ha:d.arr=none):∃ u,P.underlying t=some u/\
  (match d.ty,u with | .i64,.int .i64=>True | .u8,.int .u8=>True | .bool,.bool=>True | .str,.string=>True | .sl E _,.slice E'=>E=E' | .pair _ _,.struct _=>True|_,_=>False):=by
 obtain⟨u,hu,hc⟩:=h.und;refine⟨u,hu,?_⟩;unfold KX at hc;split at hc
 ·simp only[aqF,aqP] at hc; rw[hc.1]; trivial
 ·simp only[aqF,aqP] at hc; rw[hc.1]; trivial
 ·simp only[aqF,aqP] at hc; rw[hc.1]; trivial
 ·simp only[aqF,aqP] at hc; rw[hc.1]; trivial
 ·simp only[aqF] at hc;obtain⟨_,hc⟩:=hc;split at hc
  ·next E' e heq=>
   simp only[aqF] at hc;rw[heq];exact ((zV _ _).1 hc.1).symm
  ·cases hc
 ·rw[ha] at hc; simp at hc
 ·simp only[aqF] at hc;have:=hc.1.2;cases hd:d.ty<;>rw[hd] at this<;>first|trivial|(simp[Ty.isPair] at this)
 ·cases hc
theorem agS {w w':World} (h1:w.os=w'.os) (h2:w.tape=w'.tape) (h3:w.drawn=w'.drawn) (h4:w.output=w'.output) (h5:w.heap=w'.heap):w=w':=by
 cases w; cases w'; simp_all
theorem UZ [Tags] (w:World) (e:TypeId) (s:ByteArray):Lib.bytesWorld w e s=jN (jK w) (.cells (Lib.bytesCells w e s) e ((Lib.bytesCells w e s).size,(Lib.bytesCells w e s).size+1)):=by
 refine agS ?_ ?_ ?_ ?_ ?_
 ·rfl
 ·rfl
 ·rfl
 ·rfl
 ·apply Array.ext_getElem?;intro j;by_cases h1:j<w.heap.size
  ·rw[Lib.bytesWorld_at_old _ _ _ _ h1]; exact (Lz (w:=jK w) h1).symm
  ·by_cases h2:j=w.heap.size
   ·subst h2; rw[Lib.bytesWorld_at_new]; exact (dg (jK w) _).symm
   ·rw[as3,as3]
    ·rw[lT]; show w.heap.size+1<=j; omega
    ·rw[Lib.bytesWorld_size]; omega
theorem UY (w:World) (e:TypeId) (l:List UInt8):l.length<=grownCap w l.length 0 e/\
  (Lib.bytesCells w e ⟨⟨l⟩⟩).toList=(l.map λ b=>Value.int .u8 (b.toNat:Int))++List.replicate (grownCap w l.length 0 e - l.length) (.int .u8 0):=by
 refine⟨by unfold grownCap; simp only[Question.cut]; omega,?_⟩
 have e1:(⟨⟨l⟩⟩:ByteArray).size=l.length:=rfl;simp only[Lib.bytesCells,e1,Array.toList_append,asz,Array.toList_replicate]
theorem WC (l m:List UInt8):(l.map λ b=>(b.toNat:Int)).foldl (λ r n=>ByteArray.push r (UInt8.ofNat n.toNat)) ⟨⟨m⟩⟩=⟨⟨m++l⟩⟩:=by
 induction l generalizing m with
 | nil=>simp
 | cons x l ih=>
  simp only[aqZ,arA];have e1:ByteArray.push ⟨⟨m⟩⟩ (UInt8.ofNat ((x.toNat:Int)).toNat)=⟨⟨m++[x]⟩⟩:=by
   have:(UInt8.ofNat ((x.toNat:Int)).toNat)=x:=by simp
   rw[this];simp[ByteArray.push]
  rw[e1,ih];simp
theorem E6 [Tags] {w:World}:∀ {xs:List UInt8} {cs:List Value} {fp:List Nat},RdL (Rd w .u8) xs cs fp->cs.take xs.length=xs.map λ b=>Value.int .u8 (b.toNat:Int)
 | [],_,_,_=>by simp
 | x::xs,cs,fp,⟨c,rest,f1,f2,h1,h2,h3,h4⟩=>by
  have e:=h3.1;subst e;rw[h1];simp[E6 h4]
theorem abF [Tags] {w:World} {b ob n c:Nat} {arr:Array Value} {T:TypeId} {fr:Nat×Nat} {xs:List UInt8} {fp:List Nat} (hn:n=xs.length) (hh:w.heap[b]?=some (.cells arr T fr))
  (hrd:RdL (Rd w .u8) xs (arr.toList.drop ob) fp):(Conv.bytesToString (.slice (some ⟨b,ob,none⟩) n c)).run P w=.ok (.string ⟨⟨xs⟩⟩) w:=by
 have hle:=hrd.le;have hz:(loadCells ⟨b,ob,none⟩ n).run P w=.ok ((xs.map λ b=>(b.toNat:Int)).map (Value.int .u8)).toArray w:=by
  rw[List.map_map];have e1:=E6 hrd;by_cases h0:xs=[]
  ·subst h0; subst hn; simp[loadCells,loadCellsFrom]
  ·have ajZ:0<xs.length:=List.length_pos_iff.2 h0;have:=dw (P:=P) (n:=n) hh (o:=ob) (by simp[Ty.size] at hle; omega)
   rw[this,hn,e1];rfl
 rw[run_bytesToString w _ n c _ hz];congr 2;have h:=WC xs [];rw[ar6] at h;exact h
theorem TOk.i64 [Tags] {tys:List (Nat×TD)} {t:Nat} {d:TD} (h:TOk P tys t d) (hty:d.ty=.i64) (ha:d.arr=none):P.underlying t=some (.int .i64):=by
 obtain⟨u,hu,hm⟩:=wg h ha;rw[hty] at hm;cases u with
 | int k=>cases k<;>first|exact hu|exact hm.elim
 | _=>exact hm.elim
theorem TOk.u8 [Tags] {tys:List (Nat×TD)} {t:Nat} {d:TD} (h:TOk P tys t d) (hty:d.ty=.u8) (ha:d.arr=none):P.underlying t=some (.int .u8):=by
 obtain⟨u,hu,hm⟩:=wg h ha;rw[hty] at hm;cases u with
 | int k=>cases k<;>first|exact hu|exact hm.elim
 | _=>exact hm.elim
theorem TOk.str [Tags] {tys:List (Nat×TD)} {t:Nat} {d:TD} (h:TOk P tys t d) (hty:d.ty=.str) (ha:d.arr=none):P.underlying t=some .string:=by
 obtain⟨u,hu,hm⟩:=wg h ha;rw[hty] at hm;cases u with
 | string=>exact hu
 | _=>exact hm.elim
theorem Rel0.still [Tags] (hr:Rel0 B X A w0 γ loc st a w) (hkeep:KeepsW w.heap.size [] w w'):Rel0 B X A w0 (λ b=>if b<w.heap.size then γ b else .persist) loc st a w':=by
 have hB:=hr.Ble;refine hr.updW (M:=λ _=>False) rfl (Nat.le_refl _) ⟨hkeep.os,hkeep.tape,hkeep.output,hkeep.size,λ b hb hx=>hkeep.block b (by omega) (by simp),hkeep.free,hkeep.shape⟩ (λ b hb=>by
  by_cases hlt:b<w.heap.size
  ·simp only[hlt,if_true] at hb;exact hkeep.free b hlt (hr.unf b hb)
  ·simp[hlt,owned] at hb) ?_ (λ _ _=>rfl) ?_ (λ _ h=>h.elim) (λ id e he=>.inl ⟨he,λ h=>h⟩)
 ·intro b hb hx;have:b<w.heap.size:=by omega
  simp only[this,if_true];exact hr.old b hb hx
 ·refine⟨λ b hb h=>⟨by simp only[hb,if_true]; exact h,hkeep.block b hb (by simp)⟩,λ b i hb h _=>⟨by simp only[hb,if_true]; exact h,hkeep.block b hb (by simp)⟩,λ b i hb h=>⟨hkeep.block b hb (by simp),λ _=>by simp only[hb,if_true]; exact h,λ h=>h.elim⟩⟩
theorem af2 [Tags] (hT:yA P E.tys=true) {S D:TypeId} {x:Operand} (ho:o.op=.convert S D x) {ds dd:TD} (hs:lk E.tys S=some ds) (hd:lk E.tys D=some dd) (has:ds.arr=none) (had:dd.arr=none)
  {l:Leaf} (hx:zC st x=some l) (hr:Rel0 B X A w0 γ loc st a w) (hk:(Nc dd.ty ds.ty st l λ l' tab j=>k (St.put { st with tab:=tab,nxt:=j } o.dst (.v (.one l'))))=some r)
  (hn:yi B X A w0 k r o.dst.toList st next):o.wp P a w next Q:=by
 obtain⟨h1,h2⟩:=y0 hr hx;have hts:=yh hT hs;have htd:=yh hT hd;have hex:∀ {f:Value} {w':World},(convert S D (a.eval x)).run P w=.ok f w'->(execOp a.eval o).run P w=.ok (.value f) w':=by
  intro f w' h;simp only[execOp,ho,aqT,h,aqQ,aqR]
 unfold Nc at hk;split at hk
 ·next n e1 e2=>
  refine yR (x:=.v (.one (.u (y8 n)))) (v:=.int .u8 (n % 256)) hn hr (hex ?_) (by simp only[AVOk,V1Ok,LeafOk,agB]) trivial hk;rw[show a.eval x=_ from h1.1];simp only[convert,aqT,yy (hts.i64 e1 has),yy (htd.u8 e2 had),aqQ,Conv.intToInt,aqR,ot]
 ·next n e1 e2=>
  have hb:Bnd .i64 (n.toNat:Int):=by rw[L3]; have:=n.toNat_lt; omega
  refine yR (x:=.v (.one (.i (n.toNat:Int)))) (v:=.int .i64 (n.toNat:Int)) hn hr (hex ?_) ⟨rfl,hb⟩ trivial hk;rw[show a.eval x=_ from h1];simp only[convert,aqT,yy (hts.u8 e1 has),yy (htd.i64 e2 had),aqQ,Conv.intToInt,aqR,Jm,wu hb]
 ·next n e1 e2=>
  refine yR (x:=.v (.one (.i n))) (v:=.int .i64 n) hn hr (hex ?_) ⟨rfl,h1.2⟩ trivial hk;rw[show a.eval x=_ from h1.1];simp only[convert,aqT,yy (hts.i64 e1 has),yy (htd.i64 e2 had),aqQ,Conv.intToInt,aqR,Jm,wu h1.2]
 ·next n e1 e2=>
  refine yR (x:=.v (.one (.u n))) (v:=.int .u8 (n.toNat:Int)) hn hr (hex ?_) rfl trivial hk;rw[show a.eval x=_ from h1];have:(n.toNat:Int) % 256=n.toNat:=by have:=n.toNat_lt; omega
  simp only[convert,aqT,yy (hts.u8 e1 has),yy (htd.u8 e2 had),aqQ,Conv.intToInt,aqR,ot,this]
 ·next l' e1 e2=>
  refine yR (x:=.v (.one (.s l'))) (v:=.string ⟨⟨l'⟩⟩) hn hr (hex ?_) ⟨rfl,h1.2⟩ trivial hk;rw[show a.eval x=_ from h1.1];simp only[convert,aqT,yy (hts.str e1 has),yy (htd.str e2 had),aqQ,aqR]
 ·next ET l' e1 e2=>
  obtain⟨hu,de,hde,hdt,hda⟩:=htd.slice e2 had;have alT:=hex (f:=.slice (some ⟨w.heap.size,0,none⟩) l'.length (grownCap w l'.length 0 ET)) (w':=Lib.bytesWorld w ET ⟨⟨l'⟩⟩) (by
   rw[show a.eval x=_ from h1.1];have:=Lib.run_convert_string_bytes (P:=P) w S D ET ⟨⟨l'⟩⟩ (hts.str e1 has) hu ((yh hT hde).u8 hdt hda);exact this)
  rw[UZ] at alT;obtain⟨c1,c2⟩:=UY w ET l';have hsz:(Lib.bytesCells w ET ⟨⟨l'⟩⟩).size=grownCap w l'.length 0 ET:=by
   rw[←ary,c2]; simp; omega
  obtain⟨W1,hW1⟩:∃ W1,W1=jN (jK w) (.cells (Lib.bytesCells w ET ⟨⟨l'⟩⟩) ET ((Lib.bytesCells w ET ⟨⟨l'⟩⟩).size,(Lib.bytesCells w ET ⟨⟨l'⟩⟩).size+1)):=⟨_,rfl⟩
  have hold:∀ b,b<w.heap.size->W1.heap[b]?=w.heap[b]?:=λ b hb=>by rw[hW1]; exact Lz (w:=jK w) hb
  have ajr:W1.heap[w.heap.size]?=some (.cells (Lib.bytesCells w ET ⟨⟨l'⟩⟩) ET ((Lib.bytesCells w ET ⟨⟨l'⟩⟩).size,(Lib.bytesCells w ET ⟨⟨l'⟩⟩).size+1)):=by rw[hW1]; exact dg (jK w) _
  have hkeep:KeepsW w.heap.size [] w W1:=by
   refine⟨by rw[hW1]; rfl,by rw[hW1]; rfl,by rw[hW1]; rfl,?_,λ k hk _=>hold k hk,λ k hk hu=>hu.congr (hold k hk),λ k => ?_⟩
   ·rw[hW1,lT]; show w.heap.size<=w.heap.size+1; omega
   ·intro arr T fr h0;exact Shape.same (hold k (Z0 h0)) arr T fr h0
  rw[←hW1] at alT;obtain⟨loc2,ahw,hl2,ahn⟩:=(hr.still hkeep).addImm (taint:=false) (lvl:=st.lvl) (t:=.sl ET .u8) (v:=l') (cs:=[.slice (some ⟨w.heap.size,0,none⟩) l'.length (grownCap w l'.length 0 ET)]) (fp:=[w.heap.size])
   ⟨_,_,_,rfl,rfl,c1,h1.2,.inr ⟨w.heap.size,0,_,_,_,[],rfl,ajr,rfl,by rw[ar4,c2]; exact RdL.more _ (ue _ l'),Iff.rfl,λ h=>absurd ((Mw hT hd).1 e2 h) (by decide)⟩⟩ (λ b hb=>.inl (by simp at hb; subst hb; simp))
  exact Zg (x:=.v (.one (.sl st.nxt))) hn alT ahw (Pres.addSpread (ids_lt hr) (.imm false) st.lvl (.sl ET .u8) l') hl2.1 (by simp[AV.lt,V1.lt,Leaf.lt,ze]) hk
 ·next ET e1 e2=>
  obtain⟨hu,de,hde,hdt,hda⟩:=hts.slice e1 has;refine yR (x:=.v (.one (.s []))) (v:=.string ⟨⟨[]⟩⟩) hn hr (hex ?_) ⟨rfl,by simp[Bnd]⟩ trivial hk;rw[show a.eval x=_ from h1,run_convert_bytes_string w S D ET none 0 0 hu ((yh hT hde).u8 hdt hda) (htd.str e2 had)];rfl
 ·next ET id e1 e2=>
  obtain⟨hu,de,hde,hdt,hda⟩:=hts.slice e1 has;split at hk
  ·next kd lvl EE xs hl=>
   have hE:=hr.ents id _ hl;have:∃ fp,Rd w (.sl EE .u8) xs [a.eval x] fp:=by
    rw[h1.1];cases kd with
    | imm t=>obtain⟨fp,h1,_⟩:=hE; exact⟨fp,h1⟩
    | lent=>obtain⟨fp,h1,_⟩:=hE; exact⟨fp,h1⟩
    | own u=>obtain⟨xb,fs,h1,_⟩:=hE; obtain⟨fp,h2,_⟩:=h1.rd; exact⟨fp,h2⟩
   obtain⟨fp,a1,n1,c,q1,q2,q3,q4,q5⟩:=this;simp only[ara,and_true] at q1;refine yR (x:=.v (.one (.s xs))) (v:=.string ⟨⟨xs⟩⟩) hn hr (hex ?_) ⟨rfl,by simp only[Bnd]; omega⟩ trivial hk
   rw[q1,run_convert_bytes_string w S D ET a1 n1 c hu ((yh hT hde).u8 hdt hda) (htd.str e2 had)];rcases q5 with⟨q5,q6⟩|⟨b,ob,arr,T,fr,fp',ha,hb,hfp,hl',_⟩
   ·subst q5;have h0:n1=0:=by simpa using q2
    subst h0;cases a1 with
    | none=>rfl
    | some a1=>
     have:=run_bytesToString (P:=P) w a1 0 c [] (by simp[loadCells,loadCellsFrom]);rw[this]; rfl
   ·rw[ha];exact abF q2 hb hl'
  ·cases hk
 ·cases hk
theorem afs [Tags] {op:BinOp} {T yT:TypeId} {x y:Operand} (ho:o.op=.binOp op T x y yT) {n m:Int} (hy:vt op y=some n) (hx:zC st x=some (.i m))
  (hr:Rel0 B X A w0 γ loc st a w) (hk:k (st.put o.dst (.v (.one (.i (mR op m n)))))=some r) (hn:yi B X A w0 k r o.dst.toList st next):o.wp P a w next Q:=by
 obtain⟨⟨hx1,hx2⟩,_⟩:=y0 hr hx;have hex:∀ {f:Value},(eqGuard op T x y (a.eval x) (a.eval y)).run P w=.ok () w->(binOp op T (a.eval x) (a.eval y)).run P w=.ok f w->(execOp a.eval o).run P w=.ok (.value f) w:=by
  intro f h1 h2;simp only[execOp,ho,aqT,h1,h2,aqQ,aqR]
 unfold vt at hy;split at hy
 ·next n0=>
  split at hy
  ·next h0=>
   cases hy;have hz:¬ n<0:=by have:=of_decide_eq_true h0; omega
   have e2:a.eval (.const (.int .u64 n))=.int .u64 n:=rfl;exact yR (x:=.v (.one (.i (mR .shl m n)))) hn hr (hex (ah (by rw[hx1]; simp) (by rw[hx1]; simp) w) (by rw[hx1,e2]; simp[binOp,Op.shift,hz,Jm]; rfl)) ⟨rfl,K1 _⟩ trivial hk
  ·cases hy
 ·next n0=>
  split at hy
  ·next h0=>
   cases hy;have hz:¬ n<0:=by have:=of_decide_eq_true h0; omega
   have e2:a.eval (.const (.int .u64 n))=.int .u64 n:=rfl;exact yR (x:=.v (.one (.i (mR .shr m n)))) hn hr (hex (ah (by rw[hx1]; simp) (by rw[hx1]; simp) w) (by rw[hx1,e2]; simp[binOp,Op.shift,hz]; rfl)) ⟨rfl,xK hx2 _⟩ trivial hk
  ·cases hy
 ·cases hy
theorem afk [Tags] (hT:yA P E.tys=true) {T:TypeId} {x y:Operand} (ho:o.op=.makeSlice T x y) {d:TD} {ET:Nat} {e:Ty} (hd:lk E.tys T=some d) (hty:d.ty=.sl ET e) (ah5:d.arr=none)
  {n:Int} (hx:zC st x=some (.i n)) (hy:zC st y=some (.i n)) (h0:0<=n) (ahp:n.toNat*YQ E ET<=70368744177664) (hr:Rel0 B X A w0 γ loc st a w)
  (hk:k (St.put { st with tab:=(st.nxt,.arr (.own true) st.lvl ET e (List.replicate n.toNat (dflt e)))::st.tab,nxt:=st.nxt+1 } o.dst (.v (.one (.sl st.nxt))))=some r)
  (hn:yi B X A w0 k r o.dst.toList st next):o.wp P a w next Q:=by
 obtain⟨⟨hx1,hb⟩,_⟩:=y0 hr hx;obtain⟨⟨hy1,_⟩,_⟩:=y0 hr hy;have ht:=yh hT hd;obtain⟨hu,de,hde,hdt,hda⟩:=ht.slice hty ah5;subst hdt;have hte:=yh hT hde;obtain⟨i,hi,hib,hb1⟩:=hte.bytes;have aim:=Ff hT hd hty ah5 ahp;have hrm:YQ E ET=de.bytes:=by simp[YQ,hde]
 rw[hrm] at ahp;rw[L3] at hb;have hw:wr n=n:=wu ((L3 n).2 hb);have ahy:¬ ((de.bytes:Int)*n>2 ^ 48):=by
  have h1:(de.bytes:Int)*n=((n.toNat*de.bytes:Nat):Int):=by
   rw[Int.natCast_mul,asi h0,Int.mul_comm]
  rw[h1];omega
 have hz:=hte.zero hda w;have hzl:(yd de.ty).length=de.ty.size:=LV _;have ajZ:=de.ty.size_pos;have hzr:=EV (yd de.ty) (by omega) n.toNat;rw[hzl] at hzr;have ahw:=hr.newOwn (Kb st.tab) (by simp) true st.lvl ET (T:=ET) (fr:=(0,0)) (cap:=n.toNat) (xs:=List.replicate n.toNat (dflt de.ty)) (fp:=[])
  (arr:=(List.replicate n.toNat (yd de.ty)).flatten.toArray) (by have:=uf w de.ty n.toNat []; simpa using this) (wv _ _) (by simp) (by simp; omega) (KA _) ⟨Iff.rfl,(Mw hT hd).1 hty⟩ (py _ _ _)
 rw[List.length_replicate] at ahw;refine Zg (x:=.v (.one (.sl st.nxt))) (v:=.slice (some ⟨w.heap.size,0,none⟩) n.toNat n.toNat) hn ?_ ahw (Pres.newTab (ids_lt hr) (Kb st.tab) (by simp) _) (kT st w loc _ _) (by simp[AV.lt,V1.lt,Leaf.lt]) hk;have apf:¬ n<0:=by omega
 simp only[execOp,ho,Instr.makeSlice,hx1,hy1,asInt,asIntOf,aqT,yy hu,mh hi,aqQ,aqR,pure_bind,Jm,hw,hib];simp only[apf,ahy,aqL,Bool.or_self,ar3,if_false,gt_iff_lt,aqY,aqT,run_askRoom,aqQ,hte.size hda];have e1:((Array.range (n.toNat*de.ty.size)).map λ i=>(yd de.ty).toArray[i % (yd de.ty).toArray.size]!)=(List.replicate n.toNat (yd de.ty)).flatten.toArray:=by
  apply Array.ext';rw[hzr]
 by_cases h:n.toNat*de.ty.size=0
 ·have hn0:n.toNat=0:=by
   rcases Nat.mul_eq_zero.1 h with h|h
   ·exact h
   ·omega
  have hz0:(Array.map (λ _=>(default:Value)) (Array.range 0)) = #[]:=by apply Array.ext'; simp
  simp[hn0,newRow,jN,hz0]
 ·simp only[if_neg h,aqT,hz,aqQ,o4,aqR,e1];simp[newRow,jN]
theorem ut {v:Value} {n:Int} {m:Nat} {code:BoundsCode} (hv:v=.int .i64 n) (h:0<=n/\n<=(m:Int)) (w:World):(Instr.sliceBound v m code).run P w=.ok n.toNat w:=by
 subst hv;simp only[Instr.sliceBound,asIntOf,pure_bind,if_pos h,aqR]
theorem Fi [Tags] {lo hi:Option Value} {len cap:Nat} {x y:Int} (b:Bool) (hlo:lo=some (.int .i64 x)∨(lo=none/\x=0)) (hhi:hi=some (.int .i64 y)∨(hi=none/\y=(len:Int)))
  (h:0<=x/\x<=y/\y<=(len:Int)) (hc:len<=cap) (w:World):(Instr.sliceBounds b len cap lo hi none).run P w=.ok (x.toNat,y.toNat,cap) w:=by
 obtain⟨h1,h2,h3⟩:=h;have hx:(Instr.sliceBound (.int .i64 x) y.toNat .sliceB).run P w=.ok x.toNat w:=ut rfl (by omega) w;have hyc:∀ code,(Instr.sliceBound (.int .i64 y) cap code).run P w=.ok y.toNat w:=λ code=>ut rfl (by omega) w;rcases hlo with rfl|⟨rfl,rfl⟩<;>rcases hhi with rfl|⟨rfl,rfl⟩
 ·simp only[Instr.sliceBounds,pure_bind,aqT,hyc,aqQ,asC,ar3,if_false,hx,aqR]
 ·have hx':(Instr.sliceBound (.int .i64 x) len .sliceB).run P w=.ok x.toNat w:=ut rfl (by omega) w;simp only[Instr.sliceBounds,pure_bind,aqT,aqQ,asC,ar3,if_false,hx',aqR,aqN]
 ·simp only[Instr.sliceBounds,pure_bind,aqT,hyc,aqQ,aqR]; rfl
 ·simp only[Instr.sliceBounds,pure_bind,aqT,aqQ,aqR,aqN]; rfl
theorem agq (l:List UInt8) (x y:Nat) (h:x<=y) (h2:y<=l.length):(⟨⟨l⟩⟩:ByteArray).extract x y=⟨⟨(l.drop x).take (y - x)⟩⟩:=by
 have:((⟨⟨l⟩⟩:ByteArray).extract x y).data.toList=(l.drop x).take (y - x):=by
  simp[ByteArray.extract,ByteArray.copySlice]
 generalize hz:(⟨⟨l⟩⟩:ByteArray).extract x y=z at this;obtain⟨⟨z⟩⟩:=z;simp only at this;rw[this]
theorem B4 {lo:Option Operand} {la:Option Leaf} (h:Lr st lo=some la):(lo=none/\la=none)∨∃ y l,lo=some y/\la=some l/\zC st y=some l:=by
 cases lo with
 | none=>simp only[Lr,aqK] at h; exact .inl ⟨rfl,h.symm⟩
 | some y=>
  simp only[Lr] at h;split at h
  ·next l hy=>cases h; exact .inr ⟨y,l,rfl,rfl,hy⟩
  ·cases h
theorem QF [Tags] (hr:Rel0 B X A w0 γ loc st a w) {lo:Option Operand} {la:Option Leaf} (h:Lr st lo=some la) {m n:Int}
  (hn:bnd m la=some n):lo.map a.eval=some (.int .i64 n)∨(lo.map a.eval=none/\n=m):=by
 rcases B4 h with⟨rfl,rfl⟩|⟨y,l,rfl,rfl,hy⟩
 ·simp[bnd] at hn; exact .inr ⟨rfl,hn.symm⟩
 ·obtain⟨q1,_⟩:=y0 hr hy;cases l<;>simp[bnd] at hn
  subst hn;left; simp[q1.1]
theorem abc [Tags] {lo:Option Operand} {la:Option Leaf} (h:Lr st lo=some la) (hn:la=none):lo=none:=by
 rcases B4 h with⟨rfl,rfl⟩|⟨y,l,rfl,rfl,hy⟩
 ·rfl
 ·cases hn
theorem dy [Tags] (hT:yA P E.tys=true) {T:TypeId} {d:TD} (hd:lk E.tys T=some d) (ah5:d.arr=none) {ET:Nat} {e:Ty} (hty:d.ty=.sl ET e) {b:Option Addr} {n cap:Nat} {lo hi:Option Value} {x y:Int}
  (hlo:lo=some (.int .i64 x)∨(lo=none/\x=0)) (hhi:hi=some (.int .i64 y)∨(hi=none/\y=(n:Int))) (h:0<=x/\x<=y/\y<=(n:Int)) (hc:n<=cap) (w:World):
  (Instr.sliceAt T (.slice b n cap) lo hi none).run P w=.ok (.slice (if cap=x.toNat then b else b.map (·.add (x.toNat*e.size))) (y.toNat - x.toNat) (cap - x.toNat)) w:=by
 obtain⟨hu,de,hde,hdt,hda⟩:=(yh hT hd).slice hty ah5;subst hdt;simp only[Instr.sliceAt,Instr.slice,aqT,yy hu,aqQ,Fi (P:=P) true hlo hhi h hc w,(yh hT hde).size hda,aqR]
theorem E5 [Tags] {w:World} {EE:Nat} {e:Ty} {xs:List (den e)} {v:Value} {fp:List Nat} {n m:Int} (h:Rd w (.sl EE e) xs [v] fp) (hb:0<=n/\n<=m/\m<=(xs.length:Int)) (hw:n=0∨e.size≠18):
  ∃ a1 c,v=.slice a1 xs.length c/\xs.length<=c/\∃ fp',(∀ b∈fp',b∈fp)/\
   Rd w (.sl EE e) ((xs.drop n.toNat).take (m.toNat - n.toNat)) [.slice (if c=n.toNat then a1 else a1.map (·.add (n.toNat*e.size))) (m.toNat - n.toNat) (c - n.toNat)] fp':=by
 obtain⟨hb1,hb2,hb3⟩:=hb;obtain⟨a1,n1,c,p1,p2,p3,p4,p5⟩:=h;simp only[ara,and_true] at p1;subst p1;subst p2;have hlen:((xs.drop n.toNat).take (m.toNat - n.toNat)).length=m.toNat - n.toNat:=by rw[aqV,ar2]; omega
 refine⟨a1,c,rfl,p3,?_⟩;rcases p5 with⟨p5,p6,p7⟩|⟨b,ob,arr,T',fr,fp',ha,hb',hfp,hl',ht1,ht2⟩
 ·exact⟨[],by simp,_,_,_,rfl,hlen.symm,by omega,by omega,.inl ⟨by simp[p5],rfl,λ h=>by obtain⟨q1,q2⟩:=p7 h; simp[q1,q2]⟩⟩
 ·by_cases hz:m.toNat - n.toNat=0/\EE≠Tags.post
  ·exact⟨[],by simp,_,_,_,rfl,hlen.symm,by omega,by omega,.inl ⟨by simp[hz.1],rfl,λ h=>absurd h hz.2⟩⟩
  ·have hn:EE=Tags.post->n=0:=λ h=>hw.resolve_right λ k=>k (ht2 h).1;obtain⟨f1,f2,g1,g2⟩:=hl'.dropN n.toNat (by omega);obtain⟨f3,f4,g3,g4⟩:=g2.takeN (m.toNat - n.toNat);refine⟨b::f3,?_,_,_,_,rfl,hlen.symm,by omega,by omega,.inr ⟨b,ob+n.toNat*e.size,arr,T',fr,f3,?_,hb',rfl,?_,ht1,λ h => ?_⟩⟩
   ·intro c' hc';rw[hfp,g1,g3];rcases List.mem_cons.1 hc' with rfl|hc'<;>simp_all
   ·by_cases h0:n=0
    ·subst h0;rw[ha];simp[Addr.add]
    ·have:EE≠Tags.post:=λ h=>h0 (hn h);have:m.toNat - n.toNat≠0:=λ h=>hz ⟨h,this⟩;rw[if_neg (by omega),ha];simp[M4]
   ·rw[ark] at g4;exact g4
   ·have:=hn h;subst this;simpa using ht2 h
theorem aft [Tags] (hT:yA P E.tys=true) {T:TypeId} {x:Operand} {lo hi:Option Operand} (ho:o.op=.slice T x lo hi none) {d:TD} (hd:lk E.tys T=some d) (ah5:d.arr=none)
  {l:Leaf} (hx:zC st x=some l) {la lb:Option Leaf} (hlo:Lr st lo=some la) (hhi:Lr st hi=some lb)
  (hr:Rel0 B X A w0 γ loc st a w) (hk:(J1 d.ty l la lb st λ l' st'=>k (st'.put o.dst (.v (.one l'))))=some r)
  (hn:yi B X A w0 k r o.dst.toList st next):o.wp P a w next Q:=by
 obtain⟨h1,h2⟩:=y0 hr hx;have ht:=yh hT hd;have hex:∀ {f:Value} {w':World},(Instr.sliceAt T (a.eval x) (lo.map a.eval) (hi.map a.eval) none).run P w=.ok f w'->(execOp a.eval o).run P w=.ok (.value f) w':=by
  intro f w' h;simp only[execOp,ho,Option.map_none,aqT,h,aqQ,aqR]
 unfold J1 at hk;split at hk
 ·next l0 n hty hn0=>
  split at hk
  ·next m hm=>
   split at hk
   ·next hb=>
    have q1:=QF hr hlo hn0;have q2:=QF hr hhi hm;obtain⟨hb1,hb2,hb3⟩:=hb;have ah4:(Instr.sliceAt T (a.eval x) (lo.map a.eval) (hi.map a.eval) none).run P w=.ok (.string ⟨⟨(l0.drop n.toNat).take (m.toNat - n.toNat)⟩⟩) w:=by
     rw[show a.eval x=_ from h1.1];have e1:(⟨⟨l0⟩⟩:ByteArray).size=l0.length:=rfl;have:=Fi (P:=P) (cap:=l0.length) false q1 q2 ⟨hb1,hb2,hb3⟩ (Nat.le_refl _) w;simp only[Instr.sliceAt,Instr.slice,aqT,yy (ht.str hty ah5),aqQ,asC,ar3,if_false,e1,this,aqR];rw[agq _ _ _ (by omega) (by omega)]
    refine yR (x:=.v (.one (.s _))) hn hr (hex ah4) ⟨rfl,?_⟩ trivial hk;have:=h1.2;simp only[Bnd] at this ⊢;rw[aqV,ar2]; omega
   ·cases hk
  ·cases hk
 ·next ET e n hty hn0=>
  split at hk
  ·next m hm=>
   split at hk
   ·next hb=>
    obtain⟨hb1,hb2,hb3⟩:=hb;have q1:=QF hr hlo hn0;have q2:=QF hr hhi hm;have e1:n=0:=by omega
    have e2:m=0:=by omega
    subst e1; subst e2
    have ah4:=dy (P:=P) (n:=0) (cap:=0) (b:=none) hT hd ah5 hty q1 q2 (by omega) (Nat.le_refl _) w;have h1':a.eval x=.slice none 0 0:=h1;rw[←h1'] at ah4;exact yR (x:=.v (.one .nil)) (v:=.slice none 0 0) hn hr (hex (by rw[ah4]; rfl)) rfl trivial hk
   ·cases hk
  ·cases hk
 ·next id ET e' n hty hn0=>
  split at hk
  ·next kd lvl EE e xs hl=>
   split at hk
   ·next m hm he=>
    have he:e=e':=by simpa using he
    subst he;split at hk
    ·next hb=>
     have q1:=QF hr hlo hn0;have q2:=QF hr hhi hm;obtain⟨hb1,hb2,hb3⟩:=hb;have hsv:a.eval x=loc id:=h1.1;have hE:=hr.ents id _ hl;split at hk
     ·next t=>
      split at hk
      ·cases hk
      next hwh=>
      obtain⟨fp,hrd,hf⟩:=hE;have hw:n=0∨e.size≠18:=by
       simp only[asW] at hwh;rcases hwh with h|h
       ·left;cases la with
        | none=>simp only[bnd,aqK] at hn0; exact hn0.symm
        | some _=>simp at h
       ·exact .inr ((ZR _ _).1 h)
      obtain⟨a1,c,p1,p3,ahw⟩:=E5 hrd ⟨hb1,hb2,hb3⟩ hw;rw[←hsv] at p1;have ah4:=dy (P:=P) (n:=xs.length) (cap:=c) (b:=a1) hT hd ah5 hty q1 q2 ⟨hb1,hb2,hb3⟩ p3 w;rw[←p1] at ah4;obtain⟨fp',r1,r2⟩:=ahw;refine Zg (x:=.v (.one (.sl st.nxt))) (γ':=γ) (loc':=λ i=>if i=st.nxt then .slice (if c=n.toNat then a1 else a1.map (·.add (n.toNat*e.size))) (m.toNat - n.toNat) (c - n.toNat) else loc i) hn (hex ah4) ?_ (Pres.newTab (ids_lt hr) (Kb st.tab) (by simp) _) ⟨by simp,_,_,_,rfl⟩ (by simp[AV.lt,V1.lt,Leaf.lt]) hk;refine hr.upd (M:=λ _=>False) rfl (by simp) (Keeps.refl _ _ _) (λ _ _ h=>h) hr.old (λ i hi=>by simp[show i≠st.nxt by omega]) (Moves.refl _ _ _) (λ _ h=>h.elim) ?_;intro i e' hi;rw[jf] at hi;split at hi
      ·rename_i hii;cases hi;subst hii;exact .inr ⟨⟨⟨fp',by simpa using r2,λ b hb=>hf b (r1 b hb)⟩,trivial,by simp⟩,.inl (Nat.le_refl _)⟩
      ·exact .inl ⟨hi,λ h=>h⟩
     ·next kdx lax u=>
      have hln:=abc hlo rfl;split at hk
      ·next hlv=>
       simp only[bnd,aqK] at hn0;subst hn0;obtain⟨xb,fs,g1,g2,g3⟩:=hE;have ahd:∀ i∈[id],jS st i:=by
        intro i hi;have:i=id:=by simpa using hi
        subst this;exact⟨u,lvl,EE,e,_,hl,(zV _ _).1 hlv⟩
       have ahq:∀ j,look (erase st.tab id) j=if j∈[id] then none else look st.tab j:=by
        intro j; rw[cB]; simp
       rcases g1 with⟨p1,p2,p3,p4⟩|⟨b,cap,arr,T',fr,p1,p2,p3,p4,p5,p6,p7,p8,p9⟩
       ·simp only[ara,and_true] at p2;subst p1;have e2:m=0:=by simp at hb3; omega
        subst e2;have ah4:=dy (P:=P) (n:=0) (cap:=0) (b:=none) hT hd ah5 hty q1 q2 (by omega) (Nat.le_refl _) w;rw[←p2,←hsv] at ah4;have ahw:=hr.nilOwn ahq ahd u st.lvl EE e;exact Zg (x:=.v (.one (.sl st.nxt))) (v:=.slice none 0 0) hn (hex (by rw[ah4]; rfl)) ahw (Pres.newTab (ids_lt hr) ahq ahd _) (BQ st loc) (by simp[AV.lt,V1.lt,Leaf.lt]) (by simpa using hk)
       ·simp only[ara,and_true] at p1;have ah4:=dy (P:=P) (n:=xs.length) (cap:=cap) (b:=some ⟨b,0,none⟩) hT hd ah5 hty q1 q2 ⟨hb1,hb2,hb3⟩ p5 w;rw[←p1,←hsv] at ah4;have hval:(Value.slice (if cap=(0:Int).toNat then some ⟨b,0,none⟩ else (some ⟨b,0,none⟩:Option Addr).map (·.add ((0:Int).toNat*e.size))) (m.toNat - (0:Int).toNat) (cap - (0:Int).toNat))=.slice (some ⟨b,0,none⟩) m.toNat cap:=by
         simp[Addr.add]
        rw[hval] at ah4;obtain⟨f1,f2,r1,r2⟩:=p7.takeN m.toNat;have hbo:γ b=.top id:=g2 b (by simp[p8]);have hlen:(xs.take m.toNat).length=m.toNat:=by rw[aqV]; omega
        have hnb:b∉f1:=by
         intro hm';have hm2:b∈fs:=by rw[r1]; simp[hm']
         cases u with
         | true=>have:=g3.2 b hm2; rw[hbo] at this; cases this
         | false=>have:=g3 b hm2; rw[hbo] at this; cases this
        have hfp:Jv (relab [id] (ZI u st.nxt) γ) (.own u) st.nxt f1:=by
         cases u with
         | true=>
          obtain⟨n1,d1⟩:=g3;rw[r1] at n1;exact⟨(List.nodup_append.1 n1).1,λ c hc=>by rw[MB (d1 c (by rw[r1]; simp[hc])) (by simp)]; rfl⟩
         | false=>exact λ c hc=>Yv (g3 c (by rw[r1]; simp[hc]))
        have ahw:=hr.grow ahq ahd u st.lvl EE (xs:=xs.take m.toNat) (cap:=cap) (arr':=arr) (fp:=f1) (id:=id) (by simp) hbo p2 r2 p4 (by omega) (by omega) p3 rfl p9 hfp hnb;rw[tZ p2,hlen] at ahw;exact Zg (x:=.v (.one (.sl st.nxt))) (v:=.slice (some ⟨b,0,none⟩) m.toNat cap) hn (hex ah4) ahw (Pres.newTab (ids_lt hr) ahq ahd _) ⟨by simp,_,_,_,rfl⟩ (by simp[AV.lt,V1.lt,Leaf.lt]) hk
      ·cases hk
     ·next u lo0=>
      split at hk
      ·next ang=>
       simp only[aqF,arc] at ang;obtain⟨hlv,hwh⟩:=ang;obtain⟨xb,fs,g1,g2,g3⟩:=hE;have ahd:∀ i∈[id],jS st i:=by
        intro i hi;have:i=id:=by simpa using hi
        subst this;exact⟨u,lvl,EE,e,_,hl,(zV _ _).1 hlv⟩
       have ahq:∀ j,look (erase st.tab id) j=if j∈[id] then none else look st.tab j:=by
        intro j; rw[cB]; simp
       obtain⟨fp,hrd,hfp⟩:=g1.rd;obtain⟨a1,c,hv,hc,fp',r1,r2⟩:=E5 (n:=n) (m:=m) hrd ⟨hb1,hb2,hb3⟩ (.inr ((ZR _ _).1 hwh));have ah4:=dy (P:=P) (n:=xs.length) (cap:=c) (b:=a1) hT hd ah5 hty q1 q2 ⟨hb1,hb2,hb3⟩ hc w;rw[←hv,←hsv] at ah4;have ajw:∀ b∈fp',relab [id] .persist γ b=.persist:=by
        intro b hb';rcases hfp b (r1 b hb') with h'|h'
        ·exact abx (g2 b h') (by simp)
        ·cases u with
         | true=>exact MB (g3.2 b h') (by simp)
         | false=>exact Yv (g3 b h')
       refine Zg (x:=.v (.one (.sl st.nxt))) (γ':=relab [id] .persist γ) (loc':=λ i=>if i=st.nxt then .slice (if c=n.toNat then a1 else a1.map (·.add (n.toNat*e.size))) (m.toNat - n.toNat) (c - n.toNat) else loc i) hn (hex ah4) ?_ (Pres.newTab (ids_lt hr) ahq ahd _) ⟨by simp,_,_,_,rfl⟩ (by simp[AV.lt,V1.lt,Leaf.lt]) hk;refine hr.upd (M:=λ i=>i∈[id]) rfl (by simp) (Keeps.refl _ _ _) (λ _ _ h=>NW h) (NV hr.old) (λ i hi=>by simp[show i≠st.nxt by omega]) (Moves.relab (.inl rfl) γ w) (λ i h=>by obtain⟨u,lvl,E',e,xs,h',_⟩:=ahd i h; exact⟨_,h'⟩) ?_
       intro i e' hi;rw[jf] at hi;split at hi
       ·rename_i hii;cases hi;subst hii;exact .inr ⟨⟨⟨fp',by simpa using r2,λ b hb=>.inl (ajw b hb)⟩,trivial,by simp⟩,.inl (Nat.le_refl _)⟩
       ·rw[ahq] at hi;split at hi
        ·cases hi
        ·rename_i hni; exact .inl ⟨hi,hni⟩
      ·cases hk
     ·cases hk
    ·cases hk
   ·cases hk
  ·cases hk
 ·cases hk
theorem Ih [Tags] {x:Operand} (ho:o.op=.move x∨o.op=.assign x) {v:AV} (hx:opnd st x=some v) (hr:Rel0 B X A w0 γ loc st a w) (hk:k (st.put o.dst v)=some r)
  (hn:yi B X A w0 k r o.dst.toList st next):o.wp P a w next Q:=by
 obtain⟨h1,h2⟩:=Kd hr hx;refine yR hn hr (v:=a.eval x) ?_ h1 h2 hk;rcases ho with ho|ho<;>simp only[execOp,ho,aqR]
theorem Ii [Tags] {c x y:Operand} (ho:o.op=.pick c x y) {z:Bool} (hc:zC st c=some (.b z)) {v:AV} (hx:opnd st (bif z then x else y)=some v) (hr:Rel0 B X A w0 γ loc st a w)
  (hk:k (st.put o.dst v)=some r) (hn:yi B X A w0 k r o.dst.toList st next):o.wp P a w next Q:=by
 obtain⟨h1,h2⟩:=Kd hr hx;obtain⟨h3,_⟩:=y0 hr hc;refine yR hn hr (v:=a.eval (bif z then x else y)) ?_ h1 h2 hk;have h3':a.eval c=.bool z:=h3;cases z<;>simp[execOp,ho,h3',asBool]
theorem vx [Tags] {x:Operand} (ho:o.op=.nilCheck x) {l:Leaf} (hx:zC st x=some l) (hl:∀ v,LeafOk loc l v->∃ ad,v=.pointer (some ad)) (hr:Rel0 B X A w0 γ loc st a w)
  (hk:k (st.put o.dst (.v (.one l)))=some r) (hn:yi B X A w0 k r o.dst.toList st next):o.wp P a w next Q:=by
 obtain⟨h1,h2⟩:=y0 hr hx;obtain⟨ad,hl⟩:=hl _ h1;refine yR (x:=.v (.one l)) hn hr (v:=a.eval x) ?_ h1 h2 hk;rw[hl];simp only[execOp,ho,hl,aqR]
theorem Ie [Tags] (hT:yA P E.tys=true) {T:TypeId} {x:Operand} {f:Nat} (ho:o.op=.fieldAddr T x f) {d:TD} (hd:lk E.tys T=some d) {l l':Leaf} (hx:zC st x=some l)
  {fo ft:Nat} (hf:d.flds[f]?=some (fo,ft)) (hll:∀ v,LeafOk loc l v->∃ ad:Addr,v=.pointer (some ad)/\LeafOk loc l' (.pointer (some (ad.add fo)))) (hlt:l.lt st.nxt->l'.lt st.nxt)
  (hr:Rel0 B X A w0 γ loc st a w)
  (hk:k (st.put o.dst (.v (.one l')))=some r) (hn:yi B X A w0 k r o.dst.toList st next):o.wp P a w next Q:=by
 obtain⟨h1,h2⟩:=y0 hr hx;have ht:=yh hT hd;obtain⟨hp,ha⟩:=ht.flds (by intro h; rw[h] at hf; simp at hf)
 obtain⟨fs,hu,hfs⟩:=ht.struct hp ha;obtain⟨fd,g1,g2,g3,d',g4,g5,g6⟩:=pu hfs hf;obtain⟨ad,q1,q2⟩:=hll _ h1;refine yR (x:=.v (.one l')) hn hr (v:=.pointer (some (ad.add fo))) ?_ q2 (hlt h2) hk;have hsz:=(yh hT g4).size g5 w;have hs0:d'.ty.size≠0:=by have:=d'.ty.size_pos; omega
 have g1':fs[f]?=some fd:=by rw[←arJ]; exact g1
 simp only[execOp,ho,Instr.fieldAt,aqT,yy hu,aqQ,g1',q1,Instr.sureAddr,aqR,fieldPlace,g3,hsz,if_neg hs0,g2]
theorem af6 [Tags] (hT:yA P E.tys=true) {T:TypeId} {x:Operand} {f:Nat} (ho:o.op=.field T x f) {d:TD} (hd:lk E.tys T=some d) {ls:List Leaf} (hx:opnd st x=some (.v (.agg ls)))
  {fo ft:Nat} (hf:d.flds[f]?=some (fo,ft)) {fd:TD} (hfd:lk E.tys ft=some fd) (hle:fo+fd.ty.size<=ls.length) {xv:V1} (hmk:Yo fd.ty ((ls.drop fo).take fd.ty.size)=some xv)
  (hr:Rel0 B X A w0 γ loc st a w)
  (hk:k (st.put o.dst (.v xv))=some r) (hn:yi B X A w0 k r o.dst.toList st next):o.wp P a w next Q:=by
 obtain⟨h1,h2⟩:=Kd hr hx;have ht:=yh hT hd;obtain⟨hp,ha⟩:=ht.flds (by intro h; rw[h] at hf; simp at hf)
 obtain⟨fs,hu,hfs⟩:=ht.struct hp ha;obtain⟨fdd,g1,g2,g3,d',g4,g5,g6⟩:=pu hfs hf;rw[hfd] at g4;cases g4;obtain⟨vs,e1,e2⟩:=h1;have g1':fs[f]?=some fdd:=by rw[←arJ]; exact g1
 obtain⟨v1,v2⟩:=Ln (n:=st.nxt) hmk ((e2.drop fo).take fd.ty.size) (λ l hm=>h2 l (List.mem_of_mem_drop (List.mem_of_mem_take hm)));refine yR (x:=.v xv) hn hr (v:=_) ?_ v1 v2 hk;have hag:=(yh hT hfd).isAgg g5 w;have hsz:=(yh hT hfd).size g5 w;have hlen:ls.length=vs.length:=e2.len;simp only[execOp,ho,Instr.field,aqT,yy hu,aqQ,g1',e1,asAgg,aqR,Go.part,g3,hag,g2];cases hpp:fd.ty.isPair with
 | true=>
  simp only[if_true,aqT,hsz,aqQ,aqR,yD,hpp];congr 3;apply Array.ext';simp[List.extract_eq_take_drop]
 | false=>
  have hs1:fd.ty.size=1:=by cases h:fd.ty<;>simp_all [Ty.isPair,Ty.size]
  have hlt:fo<vs.length:=by omega
  have:vs.toArray[fo]?=some vs[fo]:=by simp[hlt]
  simp only[ar3,if_false,this,aqR,yD,hpp,hs1,aqQ];have hd1:((vs.drop fo).take 1).headD undef=vs[fo]:=by
   rw[aqX hlt]; rfl
  rw[hd1]
theorem abN [Tags] (hT:yA P E.tys=true) {T:TypeId} {d:TD} (hd:lk E.tys T=some d) (ah5:d.arr=none) {ET:Nat} {e:Ty} (hty:d.ty=.sl ET e) {b:Addr} {n c:Nat} {i:Int} (h:0<=i/\i<(n:Int)) (w:World):
  (Instr.indexAt T (.slice (some b) n c) (.int .i64 i)).run P w=.ok (.pointer (some (b.add (i.toNat*e.size)))) w:=by
 obtain⟨hu,de,hde,hdt,hda⟩:=(yh hT hd).slice hty ah5;subst hdt;simp only[Instr.indexAt,asIntOf,pure_bind,aqT,yy hu,aqQ,aqR,if_pos h,(yh hT hde).size hda]
theorem abM [Tags] (hT:yA P E.tys=true) {T:TypeId} {d:TD} (hd:lk E.tys T=some d) {m:Nat} (ah5:d.arr=some m) {ET:Nat} {e:Ty} (hty:d.ty=.sl ET e) {b:Addr} {i:Int} (h:0<=i/\i<(m:Int)) (w:World):
  (Instr.indexAt T (.pointer (some b)) (.int .i64 i)).run P w=.ok (.pointer (some (b.add (i.toNat*e.size)))) w:=by
 obtain⟨hu,de,hde,hdt,hda⟩:=(yh hT hd).array hty ah5;subst hdt;simp only[Instr.indexAt,asIntOf,pure_bind,aqT,yy hu,aqQ,aqR,Instr.sureAddr,if_pos h,(yh hT hde).size hda]
theorem wS [Tags] (hr:Rel0 B X A w0 γ loc st a w) {id:Nat} {kd:Kind} {lvl EE:Nat} {e:Ty} {xs:List (den e)} (hl:look st.tab id=some (.arr kd lvl EE e xs)) (hne:xs≠[]):
  ∃ b o c,loc id=.slice (some ⟨b,o,none⟩) xs.length c:=by
 have hE:=hr.ents id _ hl;cases kd with
 | imm t=>
  obtain⟨fp,⟨a1,n1,c,p1,p2,p3,p4,p5⟩,hf⟩:=hE;simp only[ara,and_true] at p1;rcases p5 with⟨p5,p6⟩|⟨b,ob,arr,T',fr,fp',ha,hb',hfp,hl'⟩
  ·exact absurd p5 hne
  ·exact⟨b,ob,c,by rw[p1,ha,p2]⟩
 | lent=>
  obtain⟨fp,⟨a1,n1,c,p1,p2,p3,p4,p5⟩,hf⟩:=hE;simp only[ara,and_true] at p1;rcases p5 with⟨p5,p6⟩|⟨b,ob,arr,T',fr,fp',ha,hb',hfp,hl'⟩
  ·exact absurd p5 hne
  ·exact⟨b,ob,c,by rw[p1,ha,p2]⟩
 | own u=>
  obtain⟨xb,fs,g1,g2,g3⟩:=hE;rcases g1 with⟨p1,p2,p3,p4⟩|⟨b,cap,arr,T',fr,p1,p2,p3,p4,p5,p6,p7,p8⟩
  ·exact absurd p1 hne
  ·simp only[ara,and_true] at p1;exact⟨b,0,cap,p1⟩
theorem afa [Tags] (hT:yA P E.tys=true) {T:TypeId} {x y:Operand} (ho:o.op=.indexAddr T x y) {d:TD} (hd:lk E.tys T=some d) (ah5:d.arr=none) {ET:Nat} {e:Ty} (hty:d.ty=.sl ET e)
  {id:Nat} (hx:zC st x=some (.sl id)) {n:Int} (hy:zC st y=some (.i n)) {kd:Kind} {lvl EE:Nat} {xs:List (den e)} (hl:look st.tab id=some (.arr kd lvl EE e xs)) (hb:0<=n/\n<(xs.length:Int))
  (hr:Rel0 B X A w0 γ loc st a w)
  (hk:k (st.put o.dst (.v (.one (.ep id n.toNat e.size 0))))=some r) (hn:yi B X A w0 k r o.dst.toList st next):o.wp P a w next Q:=by
 obtain⟨h1,h2⟩:=y0 hr hx;obtain⟨h3,_⟩:=y0 hr hy;have hne:xs≠[]:=by intro h; subst h; simp at hb; omega
 obtain⟨b,ob,c,ahn⟩:=wS hr hl hne;have hxv:a.eval x=.slice (some ⟨b,ob,none⟩) xs.length c:=by rw[h1.1,ahn]
 have hyv:a.eval y=.int .i64 n:=h3.1;refine yR (x:=.v (.one (.ep id n.toNat e.size 0))) (v:=.pointer (some ⟨b,ob+n.toNat*e.size,none⟩)) hn hr ?_ ⟨b,ob,xs.length,c,ahn,by omega,by simp⟩ h2 hk;simp only[execOp,ho,hxv,hyv,aqT,abN hT hd ah5 hty hb,aqQ,aqR,M4]
theorem af9 [Tags] (hT:yA P E.tys=true) {T:TypeId} {x y:Operand} (ho:o.op=.indexAddr T x y) {d:TD} (hd:lk E.tys T=some d) {m:Nat} (ah5:d.arr=some m) {ET:Nat} {e:Ty} (hty:d.ty=.sl ET e)
  {id:Nat} (hx:zC st x=some (.ap id)) {n:Int} (hy:zC st y=some (.i n)) {kd:Kind} {lvl EE:Nat} {xs:List (den e)} (hl:look st.tab id=some (.arr kd lvl EE e xs)) (hm:m=xs.length) (hb:0<=n/\n<(xs.length:Int))
  (hr:Rel0 B X A w0 γ loc st a w)
  (hk:k (st.put o.dst (.v (.one (.ep id n.toNat e.size 0))))=some r) (hn:yi B X A w0 k r o.dst.toList st next):o.wp P a w next Q:=by
 obtain⟨h1,h2⟩:=y0 hr hx;obtain⟨h3,_⟩:=y0 hr hy;have hne:xs≠[]:=by intro h; subst h; simp at hb; omega
 obtain⟨b,ob,c,ahn⟩:=wS hr hl hne;obtain⟨b',n',c',am5,hxv⟩:=h1;rw[ahn] at am5;simp only[Value.slice.injEq,aqK,Addr.mk.injEq,and_true] at am5;obtain⟨⟨rfl,rfl⟩,rfl,rfl⟩:=am5;have hyv:a.eval y=.int .i64 n:=h3.1;subst hm;refine yR (x:=.v (.one (.ep id n.toNat e.size 0))) (v:=.pointer (some ⟨b,0+n.toNat*e.size,none⟩)) hn hr ?_ ⟨b,0,xs.length,c,ahn,by omega,by simp⟩ h2 hk;simp only[execOp,ho,hxv,hyv,aqT,abM hT hd ah5 hty hb,aqQ,aqR,M4]
theorem afb [Tags] (hT:yA P E.tys=true) {T:TypeId} {x y:Operand} (ho:o.op=.index T x y) {d:TD} (hd:lk E.tys T=some d) (ah5:d.arr=none) (hty:d.ty=.str)
  {l:List UInt8} (hx:zC st x=some (.s l)) {n:Int} (hy:zC st y=some (.i n)) (hb:0<=n/\n<(l.length:Int))
  (hr:Rel0 B X A w0 γ loc st a w)
  (hk:k (st.put o.dst (.v (.one (.u (l.getD n.toNat 0)))))=some r) (hn:yi B X A w0 k r o.dst.toList st next):o.wp P a w next Q:=by
 obtain⟨h1,h2⟩:=y0 hr hx;obtain⟨h3,_⟩:=y0 hr hy;have hxv:a.eval x=.string ⟨⟨l⟩⟩:=h1.1;have hyv:a.eval y=.int .i64 n:=h3.1;refine yR (x:=.v (.one (.u _))) (v:=.int .u8 ((l.getD n.toNat 0).toNat:Int)) hn hr ?_ rfl trivial hk;have hlt:n.toNat<l.length:=by omega
 have hg:(⟨⟨l⟩⟩:ByteArray)[n.toNat]?=some (l.getD n.toNat 0):=by
  have hs:n.toNat<(⟨⟨l⟩⟩:ByteArray).size:=hlt;rw[getElem?_pos (⟨⟨l⟩⟩:ByteArray) n.toNat hs];have:(⟨⟨l⟩⟩:ByteArray)[n.toNat]=l[n.toNat]:=rfl;rw[this];simp[List.getD,hlt]
 simp only[execOp,ho,hxv,hyv,Instr.index,asIntOf,pure_bind,aqT,yy ((yh hT hd).str hty ah5),aqQ,if_pos hb.1,hg,aqR]
theorem af5 [Tags] {t:Operand} {i:Nat} (ho:o.op=.extract t i) {xs:List V1} (hx:opnd st t=some (.tup xs)) {x:V1} (hi:xs[i]?=some x) (hr:Rel0 B X A w0 γ loc st a w)
  (hk:k (st.put o.dst (.v x))=some r) (hn:yi B X A w0 k r o.dst.toList st next):o.wp P a w next Q:=by
 obtain⟨h1,h2⟩:=Kd hr hx;obtain⟨vs,e1,e2⟩:=h1;obtain⟨v,g1,g2⟩:=e2.get hi;refine yR (x:=.v x) (v:=v) hn hr ?_ g2 (h2 x (List.mem_of_getElem? hi)) hk;have g1':vs.toArray[i]?=some v:=by simpa using g1
 simp only[execOp,ho,e1,Instr.extract,g1',aqT,aqR,aqQ]
theorem afj [Tags] {f:Nat} {x:Array Operand} {caps:Array Operand} (ho:o.op=.makeFunc (.func f) x caps) (hx:x.toList=[]) {y:Operand} (hc:caps.toList=[y]) {id:Nat} (hy:opnd st y=some (.v (.one (.ptr id 0))))
  (hr:Rel0 B X A w0 γ loc st a w) (hk:k (st.put o.dst (.v (.one (.fn f [id]))))=some r) (hn:yi B X A w0 k r o.dst.toList st next):o.wp P a w next Q:=by
 obtain⟨h1,h2⟩:=Kd hr hy;obtain⟨b,g1,g2⟩:=h1;refine yR (x:=.v (.one (.fn f [id]))) (v:=.func (.func f) #[] #[loc id]) hn hr ?_ ⟨rfl,λ c hc=>by simp at hc; subst hc; exact⟨b,g1⟩⟩ ?_ hk
 ·have e1:x = #[]:=K6 hx;have e2:caps = #[y]:=K6 hc;subst e1; subst e2
  simp only[execOp,ho,Instr.makeFunc,aqT,aqR,aqQ,as8,aqZ,arn,g2,g1]
 ·intro c hc; simp at hc; subst hc; exact h2
theorem afg [Tags] (hT:yA P E.tys=true) {c:Call} (hc:o.op=.call c) (hb:c.callee=.builtin .len) {x:Operand} (hargs:c.args.toList=[x]) {T:Nat} (hty:c.argTypes.toList=[T])
  {l:Leaf} (hx:zC st x=some l) (hlt:rG E T l=true) {n:Int} (hlen:cA st l=some n) (hr:Rel0 B X A w0 γ loc st a w) (hk:k (st.put o.dst (.v (.one (.i n))))=some r)
  (hn:yi B X A w0 k r o.dst.toList st next):o.wp P a w next Q:=by
 obtain⟨h1,h2⟩:=y0 hr hx;have e1:=K6 hargs;have e2:=K6 hty;have ahG:(∃ m:Nat,n=(m:Int)/\m<=140737488355328/\(Builtin.len_ #[T] o.type #[a.eval x]).run P w=.ok (.int .i64 m) w)->o.wp P a w next Q:=by
  rintro⟨m,rfl,hm,ah4⟩;refine yR (x:=.v (.one (.i m))) (v:=.int .i64 m) hn hr ?_ ⟨rfl,?_⟩ trivial hk
  ·simp only[execOp,hc,resolve,hb,e1,e2,invoke,builtin,aqT,aqR,aqQ];simp only[as8,aqZ,arn,ah4,aqQ]
  ·rw[L3]; omega
 apply ahG;unfold rG at hlt;split at hlt
 ·next b f s hd=>
  simp only[cA,aqK] at hlen;refine⟨s.length,hlen.symm,h1.2,?_⟩;have e3:(⟨⟨s⟩⟩:ByteArray).size=s.length:=rfl;simp[Builtin.len_,yy ((yh hT hd).str rfl rfl),h1.1,goInt,e3]
 ·next ET e b f hd=>
  simp only[cA,aqK] at hlen;refine⟨0,hlen.symm,by omega,?_⟩;obtain⟨hu,_⟩:=(yh hT hd).slice rfl rfl;have h1':a.eval x=.slice none 0 0:=h1;simp[Builtin.len_,yy hu,h1',goInt]
 ·next ET e b f id hd=>
  obtain⟨hu,_⟩:=(yh hT hd).slice rfl rfl;simp only[cA] at hlen;split at hlen
  ·next kd lvl EE e' xs hl=>
   simp only[aqK] at hlen;have hE:=hr.ents id _ hl;have:∃ a1 c1,loc id=.slice a1 xs.length c1/\xs.length<=140737488355328:=by
    cases kd with
    | imm t=>
     obtain⟨fp,⟨a1,n1,c,p1,p2,p3,p4,p5⟩,hf⟩:=hE;simp only[ara,and_true] at p1;exact⟨a1,c,by rw[p1,p2],by omega⟩
    | lent=>
     obtain⟨fp,⟨a1,n1,c,p1,p2,p3,p4,p5⟩,hf⟩:=hE;simp only[ara,and_true] at p1;exact⟨a1,c,by rw[p1,p2],by omega⟩
    | own u=>
     obtain⟨xb,fs,g1,g2,g3⟩:=hE;rcases g1 with⟨p1,p2,p3,p4⟩|⟨b,cap,arr,T',fr,p1,p2,p3,p4,p5,p6,p7,p8⟩
     ·simp only[ara,and_true] at p2;exact⟨none,0,by rw[p2,p1]; rfl,by rw[p1]; simp⟩
     ·simp only[ara,and_true] at p1;exact⟨_,cap,p1,by omega⟩
   obtain⟨a1,c1,q1,q2⟩:=this;refine⟨xs.length,hlen.symm,q2,?_⟩;simp[Builtin.len_,yy hu,h1.1,q1,goInt]
  ·cases hlen
 ·cases hlt
theorem md {f:Value->Value->Sem Value} {g:Int->Int->Int} (h:∀ x y,f (.int .i64 x) (.int .i64 y)=pure (.int .i64 (g x y))) (w:World):∀ (ys:List Int) (x:Int),
  ((ys.map λ y=>Value.int .i64 y).foldlM f (.int .i64 x)).run P w=.ok (.int .i64 (ys.foldl g x)) w
 | [],x=>by simp
 | y::ys,x=>by
  simp only[aqZ,List.foldlM_cons,h,pure_bind,arA];exact md h w ys (g x y)
theorem rP {x y:Int} (h1:Bnd .i64 x) (h2:Bnd .i64 y):Bnd .i64 (mx x y):=by rw[Ms]; split<;>assumption
theorem aaQ {x y:Int} (h1:Bnd .i64 x) (h2:Bnd .i64 y):Bnd .i64 (mn x y):=by rw[cD]; split<;>assumption
theorem afl [Tags] {c:Call} (hc:o.op=.call c) (hb:c.callee=.builtin .max) {x y:Operand} (hargs:c.args.toList=[x,y])
  {m n:Int} (hx:zC st x=some (.i m)) (hy:zC st y=some (.i n)) (hr:Rel0 B X A w0 γ loc st a w) (hk:k (st.put o.dst (.v (.one (.i (mx m n)))))=some r)
  (hn:yi B X A w0 k r o.dst.toList st next):o.wp P a w next Q:=by
 obtain⟨⟨h1,b1⟩,_⟩:=y0 hr hx;obtain⟨⟨h2,b2⟩,_⟩:=y0 hr hy;have e1:=K6 hargs;refine yR (x:=.v (.one (.i _))) (v:=.int .i64 (mx m n)) hn hr ?_ ⟨rfl,rP b1 b2⟩ trivial hk;have:=md (P:=P) (f:=Builtin.max2) (g:=mx) (λ x y=>by rw[Ms]; rfl) w [n] m
 simp only[execOp,hc,resolve,hb,e1,invoke,builtin,aqT,aqR,aqQ];simp only[as8,aqZ,arn,h1,h2,Builtin.max_,asD] at this ⊢;rw[this]; rfl
theorem afm [Tags] {c:Call} (hc:o.op=.call c) (hb:c.callee=.builtin .max) {x y z:Operand} (hargs:c.args.toList=[x,y,z])
  {m n l:Int} (hx:zC st x=some (.i m)) (hy:zC st y=some (.i n)) (hz:zC st z=some (.i l)) (hr:Rel0 B X A w0 γ loc st a w) (hk:k (st.put o.dst (.v (.one (.i (mx (mx m n) l)))))=some r)
  (hn:yi B X A w0 k r o.dst.toList st next):o.wp P a w next Q:=by
 obtain⟨⟨h1,b1⟩,_⟩:=y0 hr hx;obtain⟨⟨h2,b2⟩,_⟩:=y0 hr hy;obtain⟨⟨h3,b3⟩,_⟩:=y0 hr hz;have e1:=K6 hargs;refine yR (x:=.v (.one (.i _))) (v:=.int .i64 (mx (mx m n) l)) hn hr ?_ ⟨rfl,rP (rP b1 b2) b3⟩ trivial hk;have:=md (P:=P) (f:=Builtin.max2) (g:=mx) (λ x y=>by rw[Ms]; rfl) w [n,l] m
 simp only[execOp,hc,resolve,hb,e1,invoke,builtin,aqT,aqR,aqQ];simp only[as8,aqZ,arn,h1,h2,h3,Builtin.max_,asD] at this ⊢;rw[this]; rfl
theorem afn [Tags] {c:Call} (hc:o.op=.call c) (hb:c.callee=.builtin .min) {x y:Operand} (hargs:c.args.toList=[x,y])
  {m n:Int} (hx:zC st x=some (.i m)) (hy:zC st y=some (.i n)) (hr:Rel0 B X A w0 γ loc st a w) (hk:k (st.put o.dst (.v (.one (.i (mn m n)))))=some r)
  (hn:yi B X A w0 k r o.dst.toList st next):o.wp P a w next Q:=by
 obtain⟨⟨h1,b1⟩,_⟩:=y0 hr hx;obtain⟨⟨h2,b2⟩,_⟩:=y0 hr hy;have e1:=K6 hargs;refine yR (x:=.v (.one (.i _))) (v:=.int .i64 (mn m n)) hn hr ?_ ⟨rfl,aaQ b1 b2⟩ trivial hk;have:=md (P:=P) (f:=Builtin.min2) (g:=mn) (λ x y=>by rw[cD]; rfl) w [n] m
 simp only[execOp,hc,resolve,hb,e1,invoke,builtin,aqT,aqR,aqQ];simp only[as8,aqZ,arn,h1,h2,Builtin.min_,asD] at this ⊢;rw[this]; rfl
def ArgsOk [Tags] (w:World):(ps:List (PK×Ty))->yc ps->List Value->(r rp rc xo xp:List Nat)->Prop
 | [],_,vals,r,rp,rc,xo,xp=>vals=[]/\r=[]/\rp=[]/\rc=[]/\xo=[]/\xp=[]
 | (.rd,t)::ps,v,vals,r,rp,rc,xo,xp=>∃ cs vs fp r',vals=yD t cs::vs/\Rd w t v.1 cs fp/\r=fp++r'/\ArgsOk w ps v.2 vs r' rp rc xo xp
 | (.own,t)::ps,v,vals,r,rp,rc,xo,xp=>∃ cs vs xs fs r' xo',vals=yD t cs::vs/\RdO w t v.1 cs xs fs/\r=fs++r'/\xo=xs++xo'/\ArgsOk w ps v.2 vs r' rp rc xo' xp
 | (.ptr,t)::ps,v,vals,r,rp,rc,xo,xp=>∃ b vs arr T fr fp rp' xp',vals=.pointer (some ⟨b,0,none⟩)::vs/\w.heap[b]?=some (.cells arr T fr)/\frees fr arr.size/\
   Rd w t v.1 arr.toList fp/\rp=fp++rp'/\xp=b::xp'/\ArgsOk w ps v.2 vs r rp' rc xo xp'
 | (.cap,t)::ps,v,vals,r,rp,rc,xo,xp=>∃ b vs arr T fr fp r' rc',vals=.pointer (some ⟨b,0,none⟩)::vs/\w.heap[b]?=some (.cells arr T fr)/\
   Rd w t v.1 arr.toList fp/\r=fp++r'/\rc=b::rc'/\ArgsOk w ps v.2 vs r' rp rc' xo xp
 | (.clo f,t)::ps,v,vals,r,rp,rc,xo,xp=>∃ b vs arr T fr fp r' rc',vals=.func (.func f) #[] #[.pointer (some ⟨b,0,none⟩)]::vs/\w.heap[b]?=some (.cells arr T fr)/\
   Rd w t v.1 arr.toList fp/\r=fp++r'/\rc=b::rc'/\ArgsOk w ps v.2 vs r' rp rc' xo xp
theorem RdO.unfr [Tags] {w:World}:∀ {t:Ty} {v:den t} {cs xs fs},RdO w t v cs xs fs->∀ b∈xs,Unfr w b
 | .i64,_,_,_,_,h=>by simp[h.2.1]
 | .u8,_,_,_,_,h=>by simp[h.2.1]
 | .bool,_,_,_,_,h=>by simp[h.2.1]
 | .str,_,_,_,_,h=>by simp[h.2.1]
 | .sl E e,v,cs,xs,fs,h=>by
  rcases h with⟨h1,h2,h3,h4⟩|⟨b,cap,arr,T,fr,h1,h2,h3,h4,h5,h6,h7,h8,h9⟩
  ·simp[h3]
  ·intro c hc;rw[h8] at hc;simp only[as9] at hc;subst hc;exact Unfr.of h2 h3
 | .pair a b,v,cs,xs,fs,h=>by
  obtain⟨c1,c2,x1,x2,f1,f2,h1,h2,h3,h4,h5⟩:=h;intro c hc;rw[h2] at hc;rcases List.mem_append.1 hc with hc|hc
  ·exact h4.unfr c hc
  ·exact h5.unfr c hc
theorem ArgsOk.unfr [Tags] {w:World}:∀ {ps:List (PK×Ty)} {v:yc ps} {vals:List Value} {r rp rc xo xp:List Nat},ArgsOk w ps v vals r rp rc xo xp->∀ b∈xo++xp,Unfr w b
 | [],_,_,_,_,_,_,_,h=>by obtain⟨_,_,_,_,rfl,rfl⟩:=h; simp
 | (.rd,t)::ps,v,_,_,_,_,_,_,h=>by obtain⟨cs,vs,fp,r',_,_,_,h'⟩:=h; exact h'.unfr
 | (.own,t)::ps,v,_,_,_,_,_,_,h=>by
  obtain⟨cs,vs,xs,fs,r',xo',_,h2,_,rfl,h'⟩:=h;intro b hb;simp only[ar0] at hb;rcases hb with (hb|hb)|hb
  ·exact h2.unfr b hb
  ·exact h'.unfr b (by simp[hb])
  ·exact h'.unfr b (by simp[hb])
 | (.ptr,t)::ps,v,_,_,_,_,_,_,h=>by
  obtain⟨c,vs,arr,T,fr,fp,rp',xp',_,h2,h3,_,_,rfl,h'⟩:=h;intro b hb;simp only[ar0,aqW] at hb;rcases hb with hb|rfl|hb
  ·exact h'.unfr b (by simp[hb])
  ·exact Unfr.of h2 h3
  ·exact h'.unfr b (by simp[hb])
 | (.cap,t)::ps,v,_,_,_,_,_,_,h=>by obtain⟨c,vs,arr,T,fr,fp,r',rc',_,_,_,_,_,h'⟩:=h; exact h'.unfr
 | (.clo f,t)::ps,v,_,_,_,_,_,_,h=>by obtain⟨c,vs,arr,T,fr,fp,r',rc',_,_,_,_,_,h'⟩:=h; exact h'.unfr
def wD [Tags] (w:World) (rk:RK) (t:Ty) (v:den t) (cs:List Value) (xs fs:List Nat):Prop:=
 match rk with
 | .shared=>xs=[]/\Rd w t v cs fs
 | _=>RdO w t v cs xs fs
def RetL [Tags] (w:World) (rk:RK):(ts:List Ty)->dens ts->List (List Value)->(xs fs:List Nat)->Prop
 | [],_,css,xs,fs=>css=[]/\xs=[]/\fs=[]
 | t::ts,v,css,xs,fs=>∃ cs css' x1 x2 f1 f2,css=cs::css'/\xs=x1++x2/\fs=f1++f2/\wD w rk t v.1 cs x1 f1/\RetL w rk ts v.2 css' x2 f2
def ZP:List Ty->List (List Value)->List Value
 | t::ts,cs::css=>yD t cs::ZP ts css
 | _,_=>[]
def YP (vs:List Value):Value:=match vs with|[v]=>v|_=>.tuple vs.toArray
def From (n:Nat) (rr xo:List Nat) (b:Nat):Prop:=n<=b∨b∈rr∨b∈xo
def UE (rk:RK) (n:Nat) (rr xo pt xs fs:List Nat):Prop:=
 match rk with
 | .uniq=>(xs++fs).Nodup/\∀ b∈xs++fs,(n<=b∨b∈xo)/\b∉pt
 | .own=>xs.Nodup/\(∀ b∈xs,(n<=b∨b∈xo)/\b∉pt)/\(∀ b∈xs,b∉fs)/\(∀ b∈fs,From n rr xo b)
 | .shared=>∀ b∈fs,From n rr xo b
def K3 [Tags] (w:World) (n:Nat) (rk:RK) (rr xo pt:List Nat) (rets:List Ty) (v:Value) (outs:dens rets):Prop:=
 ∃ css xs fs,RetL w rk rets outs css xs fs/\v=YP (ZP rets css)/\UE rk n rr xo pt xs fs/\(rk=.uniq->∀ b∈fs,Unfr w b)
def qt:(t:Ty)->den t->List Value->List Value->Prop
 | .i64,n,cs,cs'=>cs.length=1/\cs'=[.int .i64 n]/\Bnd .i64 n
 | .u8,n,cs,cs'=>cs.length=1/\cs'=[.int .u8 (n.toNat:Int)]
 | .bool,n,cs,cs'=>cs.length=1/\cs'=[.bool n]
 | .str,n,cs,cs'=>cs.length=1/\cs'=[.string ⟨⟨n⟩⟩]/\Bnd .str n
 | .sl _ _,_,cs,cs'=>cs.length=1/\cs'=cs
 | .pair a b,v,cs,cs'=>∃ c1 c2 d1 d2,cs=c1++c2/\cs'=d1++d2/\qt a v.1 c1 d1/\qt b v.2 c2 d2
def OutOk [Tags] (w0 w:World) (n:Nat) (rk:RK) (rr xo pt:List Nat) (rets:List Ty) (v:Value):(ps:List (PK×Ty))->zW ps rets->List Nat->Prop
 | [],outs,xp=>xp=[]/\K3 w n rk rr xo pt rets v outs
 | (.ptr,t)::ps,outs,xp=>∃ b xp' arr0 T0 fr0 arr T fr,xp=b::xp'/\w0.heap[b]?=some (.cells arr0 T0 fr0)/\w.heap[b]?=some (.cells arr T fr)/\frees fr arr.size/\qt t outs.1 arr0.toList arr.toList/\
   OutOk w0 w n rk rr xo pt rets v ps outs.2 xp'
 | (.rd,_)::ps,outs,xp=>OutOk w0 w n rk rr xo pt rets v ps outs xp
 | (.own,_)::ps,outs,xp=>OutOk w0 w n rk rr xo pt rets v ps outs xp
 | (.cap,_)::ps,outs,xp=>OutOk w0 w n rk rr xo pt rets v ps outs xp
 | (.clo _,_)::ps,outs,xp=>OutOk w0 w n rk rr xo pt rets v ps outs xp
def CallsTo (P:Program) (f:FuncId) (args:Array Value) (w:World) (R:Value->World->Prop):Prop:=
 match (callFunc f args).run P w with
 | .ok (.value v) w'=>R v w'
 | .ok (.enter g as) w'=>Calls P g as w' λ e w''=>match e with | .returned v=>R v w''|_=>False
 | .ok (.row row as) w'=>Rows P row as w' R
 | _=>False
structure Sound [Tags] (P:Program) (gl:Glob) (f:FuncId) (pf:PF):Prop where
 run:∀ (w:World) (args:yc pf.params) (vals:List Value) (r rp rc xo xp:List Nat) (outs:zW pf.params pf.rets),ArgsOk w pf.params args vals r rp rc xo xp->
  (xo++xp).Nodup->(∀ b∈xo++xp,b∉r/\b∉rp/\b∉rc)->gl.G w->(∀ b∈gl.gb,b<w.heap.size/\b∉xo++xp)->pf.fn args=some outs->
  CallsTo P f vals.toArray w λ v w'=>KeepsW w.heap.size (xo++xp) w w'/\∃ pt,OutOk w w' w.heap.size pf.rk (r++rp++rc) xo pt pf.rets v pf.params outs xp
def qz (b:Bool):List Ty->List (List Value)->Prop
 | [t],[cs]=>yD t cs=.bool b
 | t::u::ts,cs::css=>cs.length=t.size/\(∀ c∈cs,c.oneCell'=true)/\qz b (u::ts) css
 | _,_=>False
structure K4 [Tags] (P:Program) (gl:Glob) (f:FuncId) (pf:PF):Prop where
 run:∀ (w:World) (args:yc pf.params) (vals:List Value) (r rp rc xo xp:List Nat) (outs:zW pf.params pf.rets),ArgsOk w pf.params args vals r rp rc xo xp->
  (xo++xp).Nodup->(∀ b∈xo++xp,b∉r/\b∉rp/\b∉rc)->gl.G w->(∀ b∈gl.gb,b<w.heap.size/\b∉xo++xp)->pf.fn args=some outs->
  CallsTo P f vals.toArray w λ v w'=>KeepsW w.heap.size [] w w'/\∃ css b,v=YP (ZP pf.rets css)/\qz b pf.rets css/\Yn pf.rets (Zk pf.rets pf.params outs)=some b/\
   (b=true->∃ pt,OutOk w w' w.heap.size pf.rk (r++rp++rc) xo pt pf.rets v pf.params outs xp)
structure Kx [Tags] (P:Program) (gl:Glob) (f:FuncId) (pf:PF):Prop where
 run:∀ (w:World) (args:yc pf.params) (vals:List Value) (r xo:List Nat) (outs:zW pf.params pf.rets),ArgsOk w pf.params args vals r [] [] xo []->
  xo.Nodup->r.Nodup->(∀ b∈xo,b∉r)->gl.G w->(∀ b∈gl.gb,b<w.heap.size/\b∉xo)->pf.fn args=some outs->
  CallsTo P f vals.toArray w λ v w'=>KeepsW w.heap.size xo w w'/\∃ css xs fs,RetL w' .uniq pf.rets (Zk pf.rets pf.params outs) css xs fs/\v=YP (ZP pf.rets css)/\
   (xs++fs).Nodup/\(∀ b∈xs,w.heap.size<=b∨b∈xo)/\∀ b∈fs,b∈r
structure LZ [Tags] (P:Program) (gl:Glob) (f:FuncId) (nf:NF):Prop where
 run:∀ (w:World) (args:yc nf.params) (vals:List Value) (r:List Nat) (v:den nf.ret),ArgsOk w nf.params args vals r [] [] [] []->
  gl.G w->(∀ b∈gl.gb,b<w.heap.size)->nf.fn args=some v->
  CallsTo P f vals.toArray w λ u w'=>KeepsW w.heap.size [] w w'/\∃ b arr T fr fs,u=.pointer (some ⟨b,0,none⟩)/\w.heap.size<=b/\w'.heap[b]?=some (.cells arr T fr)/\frees fr arr.size/\
   Rd w' nf.ret v arr.toList fs/\∀ c∈fs,c≠b/\(w.heap.size<=c∨c∈r)
structure fl [Tags] (P:Program) (gl:Glob) (f:FuncId) (mf:MF):Prop where
 run:∀ (w:World) (v:den mf.ty) (n:Int) (cs:List Value) (fp:List Nat) (r:den mf.ty×Int×Unit),Rd w mf.ty v cs fp->Bnd .i64 n->fp.Nodup->(∀ b∈fp,Unfr w b)->gl.G w->
  (∀ b∈gl.gb,b<w.heap.size/\b∉fp)->mf.fn (v,n,())=some r->
  CallsTo P f #[yD mf.ty cs,.int .i64 n] w λ u w'=>KeepsW w.heap.size fp w w'/\u=.int .i64 r.2.1/\Bnd .i64 r.2.1/\∃ fp',Rd w' mf.ty r.1 cs fp'/\fp'.Nodup/\∀ b∈fp',(b∈fp∨w.heap.size<=b)/\Unfr w' b
theorem CallsTo.upon {P:Program} {o:Oper} {a:Act} {next:Act->World->Prop} {Q:Exit->Act->World->Prop} {f:FuncId} {args:Array Value} {w:World} {R:Value->World->Prop}
  (h:CallsTo P f args w R) (hn:∀ v w',R v w'->next (a.put o.dst v) w'):o.upon P a next Q ((callFunc f args).run P w):=by
 unfold CallsTo at h;split at h
 ·next v w' he=>rw[he]; exact hn _ _ h
 ·next g as w' he=>
  rw[he];rw[Oper.upon_enter];refine Calls.mono h ?_;intro e w'' hR;cases e with
  | returned v=>exact hn _ _ hR
  | panicked _=>exact hR.elim
  | outgrown=>exact hR.elim
 ·next row as w' he=>
  rw[he];rw[Oper.upon_row];exact Rows.mono h (λ v w' hR=>hn _ _ hR)
 ·exact h.elim
theorem mb {P:Program} {o:Oper} {a:Act} {w:World} {c:Call} (hc:o.op=.call c) {fo:Operand} (hf:c.callee=.value fo) {f:FuncId} {first caps:List Value}
  (hv:a.eval fo=.func (.func f) first.toArray caps.toArray):(execOp a.eval o).run P w=(callFunc f (first++c.args.toList.map a.eval++caps).toArray).run P w:=by
 simp only[execOp,hc,resolve,hf,hv,Deferred.ofValue,aqT,aqR,aqQ,invoke];congr 2;apply Array.ext';simp
theorem qE {t:Ty} {x:AV} {v:Value} {ls:List Leaf} (h:qD t x=some ls) (hv:AVOk loc x v):∃ cs,v=yD t cs/\All2 (LeafOk loc) ls cs:=by
 unfold qD at h;split at h
 ·next l=>
  split at h
  ·next hp=>cases h; exact⟨[v],by simp[yD,hp],hv,trivial⟩
  ·cases h
 ·next ls'=>
  split at h
  ·next hp=>
   cases h;obtain⟨vs,e,ha⟩:=hv;exact⟨vs,by simp[yD,hp,e],ha⟩
  ·cases h
 ·cases h
theorem wY [Tags] (hr:Rel0 B X A w0 γ loc st a w) {id:Nat} {cells:List Leaf} (h:cellsOf st id=some cells):
  ∃ b arr T fr,loc id=.pointer (some ⟨b,0,none⟩)/\w.heap[b]?=some (.cells arr T fr)/\(γ b=.persist∨γ b=.top id)/\All2 (LeafOk loc) cells arr.toList:=by
 unfold cellsOf at h;split at h
 ·next lvl cs hl=>
  cases h;obtain⟨b,arr,T,fr,h1,h2,h3,h4,h5⟩:=hr.ents id _ hl;exact⟨b,arr,T,fr,h1,h2,.inr h4,h5⟩
 ·next cs hl=>
  cases h;obtain⟨b,arr,T,fr,h1,h2,h4,h5⟩:=hr.ents id _ hl;exact⟨b,arr,T,fr,h1,h2,.inl h4,h5⟩
 ·cases h
def eW (st:St) (i:Nat):Prop:=∃ lvl cells,look st.tab i=some (.box lvl cells)/\lvl=st.lvl
theorem L2 [Tags] (hr:Rel0 B X A w0 γ loc st a w):∀ (ps:List (PK×Ty)) (xs:List AV) (g:Given ps) (vals:List Value) (oids:List Nat),zU st ps xs=some g->All2 (AVOk loc) xs vals->
  yw st g.ol=some oids->yF st g.pl=true->
  ∃ r rp rc xo xp,ArgsOk w ps g.vs vals r rp rc xo xp/\(∀ b∈r,γ b ≠ .alien/\∀ i,γ b=.top i->i∈yb g.rl)/\
   (yF st g.rl=true->∀ b∈r,γ b=.persist∨∃ i∈oids,γ b=.deep i)/\(∀ b∈rp,γ b=.persist)/\(∀ b∈rc,γ b=.persist∨∃ i∈g.cids,γ b=.top i)/\
   xo.Nodup/\(∀ b∈xo,∃ i∈oids,γ b=.top i)/\All2 (λ i b=>loc i=.pointer (some ⟨b,0,none⟩)/\γ b=.top i) g.pids xp/\(∀ i∈g.pids,eW st i)
 | [],[],g,vals,oids,h,ha,hg,hs=>by
  cases vals with
  | cons _ _=>exact ha.elim
  | nil=>
   simp only[zU,aqK] at h;subst h;exact⟨[],[],[],[],[],⟨rfl,rfl,rfl,rfl,rfl,rfl⟩,by simp,by simp,by simp,by simp,by simp,by simp,trivial,by simp⟩
 | (.rd,t)::ps,x::xs,g,vals,oids,h,ha,hg,hs=>by
  match vals,ha with
  | v::vs,ha=>
   simp only[zU] at h;split at h
   ·next ls hls=>
    split at h
    ·next u g' hc ah3=>
     cases h;obtain⟨cs,e1,e2⟩:=qE hls ha.1;obtain⟨fp,q1,q2,q3⟩:=Js hr hc e2;obtain⟨r,rp,rc,xo,xp,k1,k2,k3,k4,k5,k6,k7,k8,k9⟩:=L2 hr ps xs g' vs oids ah3 ha.2 hg hs;refine⟨fp++r,rp,rc,xo,xp,⟨cs,vs,fp,r,by rw[e1],q1,rfl,k1⟩,?_,?_,k4,k5,k6,k7,k8,k9⟩
     ·intro b hb;simp only[am];rcases List.mem_append.1 hb with hb|hb
      ·exact⟨(q2 b hb).1,λ i hi=>List.mem_append_left _ ((q2 b hb).2 i hi)⟩
      ·exact⟨(k2 b hb).1,λ i hi=>List.mem_append_right _ ((k2 b hb).2 i hi)⟩
     ·intro hst b hb;have hst:=Ko hst;rcases List.mem_append.1 hb with hb|hb
      ·exact .inl (q3 hst.1 b hb)
      ·exact k3 hst.2 b hb
    ·cases h
   ·cases h
 | (.own,t)::ps,x::xs,g,vals,oids,h,ha,hg,hs=>by
  match vals,ha with
  | v::vs,ha=>
   simp only[zU] at h;split at h
   ·next ls hls=>
    split at h
    ·next u g' hc ah3=>
     cases h;obtain⟨cs,e1,e2⟩:=qE hls ha.1;obtain⟨i1,i2,g1,g2,g3,g4⟩:=J3 hg;obtain⟨xb,fs,q1,q2,q3,q4,_⟩:=qG hr hc e2 g1;obtain⟨r,rp,rc,xo,xp,k1,k2,k3,k4,k5,k6,k7,k8,k9⟩:=L2 hr ps xs g' vs i2 ah3 ha.2 g2 hs;subst g3;refine⟨fs++r,rp,rc,xb++xo,xp,⟨cs,vs,xb,fs,r,xo,by rw[e1],q1,rfl,rfl,k1⟩,?_,?_,k4,k5,?_,?_,k8,k9⟩
     ·intro b hb;rcases List.mem_append.1 hb with hb|hb
      ·rcases q4 b hb with h|⟨i,hi,h⟩<;>simp[h]
      ·exact k2 b hb
     ·intro hst b hb;rcases List.mem_append.1 hb with hb|hb
      ·rcases q4 b hb with h|⟨i,hi,h⟩
       ·exact .inl h
       ·exact .inr ⟨i,by simp[hi],h⟩
      ·rcases k3 hst b hb with h|⟨i,hi,h⟩
       ·exact .inl h
       ·exact .inr ⟨i,by simp[hi],h⟩
     ·refine Z3 q2 k6 ?_;intro b hb hb';obtain⟨i,hi,e⟩:=q3 b hb;obtain⟨j,hj,e'⟩:=k7 b hb';rw[e] at e';cases e';exact g4 i hi hj
     ·intro b hb;rcases List.mem_append.1 hb with hb|hb
      ·obtain⟨i,hi,h⟩:=q3 b hb; exact⟨i,by simp[hi],h⟩
      ·obtain⟨i,hi,h⟩:=k7 b hb; exact⟨i,by simp[hi],h⟩
    ·cases h
   ·cases h
 | (.ptr,t)::ps,x::xs,g,vals,oids,h,ha,hg,hs=>by
  match vals,ha with
  | v::vs,ha=>
   simp only[zU] at h;split at h
   ·next id ha=>
    split at h
    ·next lvl cells hl=>
     split at h
     ·next u g' hlv hc ah3=>
      cases h;obtain⟨b0,e1,e2⟩:=ha.1;obtain⟨b,arr,T,fr,h1,h2,h3,h4,h5⟩:=hr.ents id _ hl;rw[h1] at e1;simp only[Value.pointer.injEq,aqK,Addr.mk.injEq,and_true] at e1;subst e1;have hs:=Ko hs;obtain⟨fp,q1,q2,q3⟩:=Js hr hc h5;obtain⟨r,rp,rc,xo,xp,k1,k2,k3,k4,k5,k6,k7,k8,k9⟩:=L2 hr ps xs g' vs oids ah3 ha.2 hg hs.2;refine⟨r,fp++rp,rc,xo,b::xp,⟨b,vs,arr,T,fr,fp,rp,xp,by rw[e2],h2,h3,q1,rfl,rfl,k1⟩,k2,k3,?_,k5,k6,k7,⟨⟨h1,h4⟩,k8⟩,?_⟩
      ·intro c hc';rcases List.mem_append.1 hc' with hc'|hc'
       ·exact q3 hs.1 c hc'
       ·exact k4 c hc'
      ·intro i hi;rcases List.mem_cons.1 hi with rfl|hi
       ·exact⟨lvl,cells,hl,(zV _ _).1 hlv⟩
       ·exact k9 i hi
     ·cases h
    ·cases h
   ·cases h
 | (.cap,t)::ps,x::xs,g,vals,oids,h,ha,hg,hs=>by
  match vals,ha with
  | v::vs,ha=>
   simp only[zU] at h;split at h
   ·next id ha=>
    split at h
    ·next cells aiL=>
     split at h
     ·next u g' hc ah3=>
      cases h;obtain⟨b0,e1,e2⟩:=ha.1;obtain⟨b,arr,T,fr,h1,h2,h4,h5⟩:=wY hr aiL;rw[h1] at e1;simp only[Value.pointer.injEq,aqK,Addr.mk.injEq,and_true] at e1;subst e1;obtain⟨fp,q1,q2,q3⟩:=Js hr hc h5;obtain⟨r,rp,rc,xo,xp,k1,k2,k3,k4,k5,k6,k7,k8,k9⟩:=L2 hr ps xs g' vs oids ah3 ha.2 hg hs;refine⟨fp++r,rp,b::rc,xo,xp,⟨b,vs,arr,T,fr,fp,r,rc,by rw[e2],h2,q1,rfl,rfl,k1⟩,?_,?_,k4,?_,k6,k7,k8,k9⟩
      ·intro b hb;simp only[am];rcases List.mem_append.1 hb with hb|hb
       ·exact⟨(q2 b hb).1,λ i hi=>List.mem_append_left _ ((q2 b hb).2 i hi)⟩
       ·exact⟨(k2 b hb).1,λ i hi=>List.mem_append_right _ ((k2 b hb).2 i hi)⟩
      ·intro hst b hb;have hst:=Ko hst;rcases List.mem_append.1 hb with hb|hb
       ·exact .inl (q3 hst.1 b hb)
       ·exact k3 hst.2 b hb
      ·intro c hc';rcases List.mem_cons.1 hc' with rfl|hc'
       ·rcases h4 with h4|h4
        ·exact .inl h4
        ·exact .inr ⟨id,by simp,h4⟩
       ·rcases k5 c hc' with h|⟨i,hi,h⟩
        ·exact .inl h
        ·exact .inr ⟨i,by simp[hi],h⟩
     ·cases h
    ·cases h
   ·cases h
 | (.clo f,t)::ps,x::xs,g,vals,oids,h,ha,hg,hs=>by
  match vals,ha with
  | v::vs,ha=>
   simp only[zU] at h;split at h
   ·next f' id ha=>
    split at h
    ·next cells aiL=>
     split at h
     ·next u g' hff hc ah3=>
      cases h;have aoE:=(zV _ _).1 hff;subst aoE;have e2:=ha.1.1;simp only[aqZ,arn] at e2;obtain⟨b,arr,T,fr,h1,h2,h4,h5⟩:=wY hr aiL;rw[h1] at e2;obtain⟨fp,q1,q2,q3⟩:=Js hr hc h5;obtain⟨r,rp,rc,xo,xp,k1,k2,k3,k4,k5,k6,k7,k8,k9⟩:=L2 hr ps xs g' vs oids ah3 ha.2 hg hs;refine⟨fp++r,rp,b::rc,xo,xp,⟨b,vs,arr,T,fr,fp,r,rc,by rw[e2],h2,q1,rfl,rfl,k1⟩,?_,?_,k4,?_,k6,k7,k8,k9⟩
      ·intro b hb;simp only[am];rcases List.mem_append.1 hb with hb|hb
       ·exact⟨(q2 b hb).1,λ i hi=>List.mem_append_left _ ((q2 b hb).2 i hi)⟩
       ·exact⟨(k2 b hb).1,λ i hi=>List.mem_append_right _ ((k2 b hb).2 i hi)⟩
      ·intro hst b hb;have hst:=Ko hst;rcases List.mem_append.1 hb with hb|hb
       ·exact .inl (q3 hst.1 b hb)
       ·exact k3 hst.2 b hb
      ·intro c hc';rcases List.mem_cons.1 hc' with rfl|hc'
       ·rcases h4 with h4|h4
        ·exact .inl h4
        ·exact .inr ⟨id,by simp,h4⟩
       ·rcases k5 c hc' with h|⟨i,hi,h⟩
        ·exact .inl h
        ·exact .inr ⟨i,by simp[hi],h⟩
     ·cases h
    ·cases h
   ·cases h
 | [],_::_,g,vals,oids,h,ha,hg,hs=>by simp[zU] at h
 | (.rd,_)::_,[],g,vals,oids,h,ha,hg,hs=>by simp[zU] at h
 | (.own,_)::_,[],g,vals,oids,h,ha,hg,hs=>by simp[zU] at h
 | (.ptr,_)::_,[],g,vals,oids,h,ha,hg,hs=>by simp[zU] at h
 | (.cap,_)::_,[],g,vals,oids,h,ha,hg,hs=>by simp[zU] at h
 | (.clo _,_)::_,[],g,vals,oids,h,ha,hg,hs=>by simp[zU] at h
theorem qH {a b:List Nat} (h:disj a b=true):∀ x∈a,x∉b:=by
 intro x hx hb;have:=List.all_eq_true.1 h x hx;simp[hb] at this
theorem kU:∀ {l:List Nat},cF l=true->l.Nodup
 | [],_=>List.nodup_nil
 | x::xs,h=>by
  simp only[cF,aqF] at h;refine List.nodup_cons.2 ⟨?_,kU h.2⟩;intro hm;simp[hm] at h
theorem EJ:∀ {is bs:List Nat},All2 (λ i b=>loc i=.pointer (some ⟨b,0,none⟩)/\γ b=.top i) is bs->is.Nodup->bs.Nodup/\∀ b∈bs,∃ i∈is,γ b=.top i
 | [],[],_,_=>by simp
 | i::is,b::bs,h,hn=>by
  obtain⟨n1,n2⟩:=List.nodup_cons.1 hn;obtain⟨q1,q2⟩:=EJ h.2 n2;refine⟨List.nodup_cons.2 ⟨?_,q1⟩,?_⟩
  ·intro hm;obtain⟨j,hj,e⟩:=q2 b hm;rw[h.1.2] at e;cases e;exact n1 hj
  ·intro c hc;rcases List.mem_cons.1 hc with rfl|hc
   ·exact⟨i,by simp,h.1.2⟩
   ·obtain⟨j,hj,e⟩:=q2 c hc; exact⟨j,by simp[hj],e⟩
 | [],_::_,h,_=>h.elim
 | _::_,[],h,_=>h.elim
end Ev
