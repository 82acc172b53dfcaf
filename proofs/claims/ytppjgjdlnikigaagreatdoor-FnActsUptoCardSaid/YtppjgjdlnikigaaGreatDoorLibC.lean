/- The evaluator of the own library, part 3: its words, its soundness. Conditions: none of its own. -/
import Derived.Test.YtppjgjdlnikigaaGreatDoorLibB
import Derived.Laws.Strings
import Derived.Laws.StructEq
import Derived.Lib.ConvBytes
import Derived.Laws.BytesString
set_option linter.unusedSimpArgs false
set_option linter.unusedVariables false
namespace Ev
open Go
variable {P:Program} {o:Oper} {a:Act} {w w':World} {next:Act->World->Prop} {Q:Exit->Act->World->Prop}
variable {B:Nat} {X:List Nat} {A:Ctx} {w0:World} {γ γ':Nat->Own} {loc loc':Nat->Value} {st st1:St} {R:Type} {k:St->Option R} {r:R} {E:Env}
theorem K0 (n:Int):Bnd .i64 n↔(-9223372036854775808<=n/\n<=9223372036854775807):=Iff.rfl
theorem Yy (n:Int):IntKind.i64.wrap n=wr n:=by
 have h:IntKind.i64.wrap n=if n % 18446744073709551616≥9223372036854775808 then n % 18446744073709551616 - 18446744073709551616 else n % 18446744073709551616:=by
  simp[IntKind.wrap,IntKind.bits,IntKind.signed]
 rw[h];rw[lH];split<;>omega
theorem J6 [Tags] (n:Int):Bnd .i64 (wr n):=by
 rw[K0];rw[lH];omega
theorem th [Tags] {n:Int} (h:Bnd .i64 n):wr n=n:=by
 rw[K0] at h;rw[lH];omega
theorem yz [Tags] {x:AV} {v:Value} (hn:yd B X A w0 k r o.dst.toList st next) (hr:Rel0 B X A w0 γ loc st a w) (acD:(execOp a.eval o).run P w=.ok (.value v) w)
  (hv:AVOk loc x v) (hx:x.lt st.nxt) (hk:k (st.put o.dst x)=some r):o.wp P a w next Q:=
 jY hn acD hr (Pres.refl _ _) hv hx hk
theorem abW [Tags] {x y:Int} (hx:Bnd .i64 x):Bnd .i64 (x.tmod y):=by
 rw[K0] at *;have h3:(x.tmod y).natAbs<=x.natAbs:=by rw[Int.natAbs_tmod x y]; exact Nat.mod_le _ _
 have h4:x<0->x.tmod y<=0:=by
  intro hx0;have:=Int.tmod_nonneg (a := -x) y (by omega);rw[Int.neg_tmod] at this;omega
 omega
theorem ux [Tags] {x:Int} (hx:Bnd .i64 x) (n:Nat):Bnd .i64 (x.fdiv (2 ^ n)):=by
 rw[K0] at *;have hp:(0:Int)<2 ^ n:=Int.pow_pos (by decide);have hp1:(1:Int)<=2 ^ n:=hp;rw[Int.fdiv_eq_ediv_of_nonneg _ (Int.le_of_lt hp)];rcases Int.lt_or_le x 0 with h|h
 ·have h1:x<=x / 2 ^ n:=by
   rw[Int.le_ediv_iff_mul_le hp];have:=Int.mul_le_mul_of_nonpos_left (Int.le_of_lt h) hp1;omega
  have h2:=Int.ediv_neg_of_neg_of_pos h hp;omega
 ·have h1:=Int.ediv_nonneg h (Int.le_of_lt hp);have h2:=Int.ediv_le_self (2 ^ n) h;omega
theorem lB (n:Int):IntKind.u8.wrap n=n % 256:=by
 simp[IntKind.wrap,IntKind.bits,IntKind.signed]
theorem abZ (n:Int):((yy n).toNat:Int)=n % 256:=by
 rw[sP];have:(n % 256).toNat<256:=by omega
 rw[UInt8.toNat_ofNat',an2 (by simpa using this)];omega
theorem VB [Tags] {op:BinOp} {x y:Int} {l:Leaf} (hx:Bnd .i64 x) (hy:Bnd .i64 y) {T:TypeId} {loc:Nat->Value}
  (h:y8 (R:=Leaf) op (.v (.one (.i x))) (.v (.one (.i y))) some=some l):
  ∃ v,(binOp op T (.int .i64 x) (.int .i64 y)).run P w=.ok v w/\LeafOk loc l v/\∀ n,l.lt n:=by
 unfold y8 at h;simp only at h;cases op<;>simp only[] at h
 case add=>cases h; exact⟨_,by simp[binOp,Op.intArith,Yy],⟨rfl,J6 _⟩,λ _=>trivial⟩
 case sub=>cases h; exact⟨_,by simp[binOp,Op.intArith,Yy],⟨rfl,J6 _⟩,λ _=>trivial⟩
 case mul=>cases h; exact⟨_,by simp[binOp,Op.intArith,Yy],⟨rfl,J6 _⟩,λ _=>trivial⟩
 case quo=>
  split at h
  ·cases h
  ·rename_i hz; cases h; exact⟨_,by simp[binOp,Op.intDiv,Yy,hz],⟨rfl,J6 _⟩,λ _=>trivial⟩
 case rem=>
  split at h
  ·cases h
  ·rename_i hz; cases h; exact⟨_,by simp[binOp,Op.intDiv,hz],⟨rfl,abW hx⟩,λ _=>trivial⟩
 case and=>cases h; exact⟨_,by simp[binOp,Op.intBits,Yy]; rfl,⟨rfl,J6 _⟩,λ _=>trivial⟩
 case or=>cases h; exact⟨_,by simp[binOp,Op.intBits,Yy]; rfl,⟨rfl,J6 _⟩,λ _=>trivial⟩
 case xor=>cases h; exact⟨_,by simp[binOp,Op.intBits,Yy]; rfl,⟨rfl,J6 _⟩,λ _=>trivial⟩
 case shl=>
  split at h
  ·cases h
  ·rename_i hz; cases h; exact⟨_,by simp[binOp,Op.shift,hz,Yy]; rfl,⟨rfl,J6 _⟩,λ _=>trivial⟩
 case shr=>
  split at h
  ·cases h
  ·rename_i hz; cases h; exact⟨_,by simp[binOp,Op.shift,hz]; rfl,⟨rfl,ux hx _⟩,λ _=>trivial⟩
 case andNot=>cases h
 case eql=>cases h; exact⟨_,by simp[binOp,Op.intCmp],rfl,λ _=>trivial⟩
 case neq=>cases h; exact⟨_,by simp[binOp,Op.intCmp],rfl,λ _=>trivial⟩
 case lss=>cases h; exact⟨_,by simp[binOp,Op.intCmp],rfl,λ _=>trivial⟩
 case leq=>cases h; exact⟨_,by simp[binOp,Op.intCmp],rfl,λ _=>trivial⟩
 case gtr=>cases h; exact⟨_,by simp[binOp,Op.intCmp],rfl,λ _=>trivial⟩
 case geq=>cases h; exact⟨_,by simp[binOp,Op.intCmp],rfl,λ _=>trivial⟩
theorem sW (x y:UInt8):((x.toNat:Int)==(y.toNat:Int))=(x==y):=by
 by_cases h:x=y
 ·simp[h]
 ·have:x.toNat≠y.toNat:=λ e=>h (UInt8.toNat_inj.1 e);have h2:((x.toNat:Int)==(y.toNat:Int))=false:=by simp; omega
  rw[h2]; simp[h]
theorem VD [Tags] {op:BinOp} {x y:UInt8} {l:Leaf} {T:TypeId} {loc:Nat->Value}
  (h:y8 (R:=Leaf) op (.v (.one (.u x))) (.v (.one (.u y))) some=some l):
  ∃ v,(binOp op T (.int .u8 (x.toNat:Int)) (.int .u8 (y.toNat:Int))).run P w=.ok v w/\LeafOk loc l v/\∀ n,l.lt n:=by
 unfold y8 at h;simp only at h;have hx:=x.toNat_lt;have hy:=y.toNat_lt;cases op<;>simp only[] at h<;>first|(cases h; done)|skip
 case add=>
  cases h;refine⟨_,by simp[binOp,Op.intArith]; rfl,?_,λ _=>trivial⟩
  simp only[LeafOk,lB,UInt8.toNat_add];congr 1
 case sub=>
  cases h;refine⟨_,by simp[binOp,Op.intArith]; rfl,?_,λ _=>trivial⟩
  simp only[LeafOk,lB,UInt8.toNat_sub];congr 1;omega
 case eql=>cases h; exact⟨_,by simp[binOp,Op.intCmp]; rfl,by rw[LeafOk,sW],λ _=>trivial⟩
 case neq=>cases h; exact⟨_,by simp[binOp,Op.intCmp]; rfl,by rw[LeafOk,bne,sW]; rfl,λ _=>trivial⟩
 case lss=>cases h; exact⟨_,by simp[binOp,Op.intCmp]; rfl,by simp[LeafOk,UInt8.lt_iff_toNat_lt],λ _=>trivial⟩
 case leq=>cases h; exact⟨_,by simp[binOp,Op.intCmp]; rfl,by simp[LeafOk,UInt8.le_iff_toNat_le],λ _=>trivial⟩
 case gtr=>cases h; exact⟨_,by simp[binOp,Op.intCmp]; rfl,by simp[LeafOk,UInt8.lt_iff_toNat_lt],λ _=>trivial⟩
 case geq=>cases h; exact⟨_,by simp[binOp,Op.intCmp]; rfl,by simp[LeafOk,UInt8.le_iff_toNat_le],λ _=>trivial⟩
theorem K1 (l:List UInt8):(⟨⟨l⟩⟩:ByteArray).toList=l:=ByteArray.toList_eq _
theorem PL (l m:List UInt8):(⟨⟨l⟩⟩:ByteArray)++⟨⟨m⟩⟩=⟨⟨l++m⟩⟩:=rfl
theorem VC [Tags] {op:BinOp} {x y:List UInt8} {l:Leaf} {T:TypeId} {loc:Nat->Value} (hx:Bnd .str x) (hy:Bnd .str y)
  (h:y8 (R:=Leaf) op (.v (.one (.s x))) (.v (.one (.s y))) some=some l):
  ∃ v,(binOp op T (.string ⟨⟨x⟩⟩) (.string ⟨⟨y⟩⟩)).run P w=.ok v w/\LeafOk loc l v/\∀ n,l.lt n:=by
 unfold y8 at h;simp only at h;cases op<;>simp only[] at h<;>first|(cases h; done)|skip
 case add=>
  split at h
  ·next hle=>
   cases h;refine⟨.string (⟨⟨x⟩⟩++⟨⟨y⟩⟩),?_,⟨by rw[PL],by simp only[Bnd,alv]; exact hle⟩,λ _=>trivial⟩
   simp only[binOp,Op.stringOp];rw[if_neg]
   ·rfl
   ·have e1:(⟨⟨x⟩⟩:ByteArray).size=x.length:=rfl;have e2:(⟨⟨y⟩⟩:ByteArray).size=y.length:=rfl;rw[e1,e2];simp[IntKind.max,IntKind.signed,IntKind.bits];omega
  ·cases h
 case eql=>cases h; exact⟨_,by simp only[binOp,Op.stringOp,K1,alB],rfl,λ _=>trivial⟩
 case neq=>cases h; exact⟨.bool (!(x==y)),by simp only[binOp,Op.stringOp,K1,alB],rfl,λ _=>trivial⟩
 case lss=>cases h; exact⟨_,by simp only[binOp,Op.stringOp,K1,alB],rfl,λ _=>trivial⟩
 case leq=>cases h; exact⟨_,by simp only[binOp,Op.stringOp,K1,alB],rfl,λ _=>trivial⟩
 case gtr=>cases h; exact⟨_,by simp only[binOp,Op.stringOp,K1,alB],rfl,λ _=>trivial⟩
 case geq=>cases h; exact⟨_,by simp only[binOp,Op.stringOp,K1,alB],rfl,λ _=>trivial⟩
theorem uv {op:BinOp} {x y:AV} {f:Leaf->Option R} (h:y8 op x y f=some r):∃ l,y8 (R:=Leaf) op x y some=some l/\f l=some r:=by
 unfold y8 at h ⊢;split at h
 ·cases op<;>first|exact⟨_,rfl,h⟩|(cases h; done)|(simp only at h ⊢; split at h<;>first|(cases h; done)|(rename_i hz; rw[if_neg hz]; exact⟨_,rfl,h⟩))
 ·cases op<;>first|exact⟨_,rfl,h⟩|(cases h; done)
 ·cases op<;>first|exact⟨_,rfl,h⟩|(cases h; done)
 ·cases op<;>first|exact⟨_,rfl,h⟩|(cases h; done)|(simp only at h ⊢; split at h<;>first|(cases h; done)|(rename_i hz; rw[if_pos hz]; exact⟨_,rfl,h⟩))
 ·split at h
  ·next h1=>first|exact⟨_,rfl,h⟩|(rw[h1]; exact⟨_,rfl,h⟩)
  ·next h1=>first|exact⟨_,rfl,h⟩|(rw[h1]; exact⟨_,rfl,h⟩)
  ·cases h
 ·cases h
theorem qd {op:BinOp} {T:TypeId} {x y:Operand} {u v:Value} (h:∀ cs,u ≠ .agg cs) (h2:u ≠ .nilIface) (w:World):(eqGuard op T x y u v).run P w=.ok () w:=by
 unfold eqGuard;cases op<;>first|rfl|(cases u<;>cases v<;>first|rfl|(exact absurd rfl (h _))|(exact absurd rfl h2))
theorem VE [Tags] {T:TypeId} (hu:P.underlying T=some .bool) (n:Nat) (x y:Bool) (w:World):(Op.equalIn (n+1) T (.bool x) (.bool y)).run P w=.ok (x==y) w:=by
 unfold Op.equalIn;simp[yl hu]
theorem BR [Tags] {T:TypeId} (hu:P.underlying T=some .bool) (x y:Bool) (w:World):(Op.equal T (.bool x) (.bool y)).run P w=.ok (x==y) w:=
 VE hu 9999 x y w
theorem TOk.bool {tys:List (Nat×TD)} {t:Nat} {d:TD} (h:TOk P tys t d) (hty:d.ty=.bool):P.underlying t=some .bool:=by
 obtain⟨u,hu,hc⟩:=h.und;rw[hu];unfold J5 at hc;split at hc
 ·simp[hty] at hc
 ·simp[hty] at hc
 ·rfl
 ·simp[hty] at hc
 ·simp[hty] at hc
 ·simp only[hty] at hc;split at hc
  ·next h1 h2=>cases h2
  ·cases hc
 ·simp[hty,Ty.isPair] at hc
 ·cases hc
theorem VA [Tags] {op:BinOp} {x y:Bool} {l:Leaf} {T:TypeId} (hu:P.underlying T=some .bool) {loc:Nat->Value}
  (h:y8 (R:=Leaf) op (.v (.one (.b x))) (.v (.one (.b y))) some=some l):
  ∃ v,(binOp op T (.bool x) (.bool y)).run P w=.ok v w/\LeafOk loc l v/\∀ n,l.lt n:=by
 unfold y8 at h;simp only at h;cases op<;>simp only[] at h<;>first|(cases h; done)|skip
 case eql=>
  cases h;refine⟨.bool (x==y),?_,rfl,λ _=>trivial⟩;unfold binOp;simp only[alC,BR hu,alA,alB]
 case neq=>
  cases h;refine⟨.bool (!(x==y)),?_,rfl,λ _=>trivial⟩;unfold binOp;simp only[alC,BR hu,alA,alB]
def Ls (P:Program) (ft:TypeId) (t:Ty):Bool:=
 match P.underlying ft,t with
 | some (.int .i64),.i64=>true
 | some (.int .u8),.u8=>true
 | some .bool,.bool=>true
 | some .string,.str=>true
 | _,_=>false
def L0 (P:Program):List Field->Ty->Nat->Bool
 | [],_,_=>false
 | [f],t,n=>(f.name != "_") && Nat.beq f.offset n && Ls P f.type t
 | f::fs,.pair a b,n=>(f.name != "_") && Nat.beq f.offset n && Ls P f.type a && L0 P fs b (n+1)
 | _,_,_=>false
def LV (P:Program) (tys:List (Nat×TD)) (t:Nat):Bool:=
 (match lk tys t with|some d=>(match P.underlying t with|some (.struct fs)=>L0 P fs.toList d.ty 0|_=>false)|none=>false) && !P.stoodInHeld t && !P.eqGuardType P.depth t
theorem PM [Tags] (l m:List UInt8):((⟨⟨l⟩⟩:ByteArray)==⟨⟨m⟩⟩)=(l==m):=by
 rw[beq_toListBytes,K1,K1]
def Nh:Leaf->Leaf->Option Bool
 | .i a,.i b=>some (a==b)
 | .u a,.u b=>some (a==b)
 | .b a,.b b=>some (a==b)
 | .s a,.s b=>some (a==b)
 | _,_=>none
theorem uu {x y:Leaf} {xs ys:List Leaf} {z:Bool} (h:Z1 (x::xs) (y::ys)=some z):∃ z1 z2,Nh x y=some z1/\Z1 xs ys=some z2/\z=(z1 && z2):=by
 cases x<;>cases y<;>simp only[Z1] at h<;>first|(cases h; done)|(split at h<;>first|(cases h; done)|(rename_i z2 hz; cases h; exact⟨_,z2,rfl,hz,rfl⟩))
theorem BQ [Tags] {x y:Leaf} {u v:Value} {z:Bool} (h:Nh x y=some z) (hx:LeafOk loc x u) (hy:LeafOk loc y v) {ft:TypeId} {t:Ty} (hs:Ls P ft t=true) (n:Nat)
  (ht:Lf t x=true):(Op.equalIn (n+1) ft u v).run P w=.ok z w:=by
 unfold Ls at hs;split at hs
 ·next hu=>
  cases x<;>simp only[Lf] at ht<;>first|(cases ht; done)|skip
  cases y<;>simp only[Nh] at h<;>first|(cases h; done)|skip
  cases h;rw[hx.1,hy.1];unfold Op.equalIn;simp[yl hu]
 ·next hu=>
  cases x<;>simp only[Lf] at ht<;>first|(cases ht; done)|skip
  cases y<;>simp only[Nh] at h<;>first|(cases h; done)|skip
  cases h;rw[show u=_ from hx,show v=_ from hy];unfold Op.equalIn;simp[yl hu,sW]
 ·next hu=>
  cases x<;>simp only[Lf] at ht<;>first|(cases ht; done)|skip
  cases y<;>simp only[Nh] at h<;>first|(cases h; done)|skip
  cases h;rw[show u=_ from hx,show v=_ from hy];unfold Op.equalIn;simp[yl hu]
 ·next hu=>
  cases x<;>simp only[Lf] at ht<;>first|(cases ht; done)|skip
  cases y<;>simp only[Nh] at h<;>first|(cases h; done)|skip
  cases h;rw[hx.1,hy.1];unfold Op.equalIn;simp only[alC,yl hu,alA,alB,PM]
 ·cases hs
theorem aa2 [Tags] {ft:TypeId} {t:Ty} (hs:Ls P ft t=true) (w:World):(Go.isAgg ft).run P w=.ok false w:=by
 unfold Ls at hs;split at hs
 ·next hu=>simp[Go.isAgg,yl hu]
 ·next hu=>simp[Go.isAgg,yl hu]
 ·next hu=>simp[Go.isAgg,yl hu]
 ·next hu=>simp[Go.isAgg,yl hu]
 ·cases hs
theorem fZ [Tags] {ft:TypeId} {t:Ty} (hs:Ls P ft t=true) {cs:List Value} {n:Nat} {v:Value} (h:cs[n]?=some v) (w:World):(Go.part ft cs.toArray n).run P w=.ok v w:=by
 simp only[Go.part,alC,aa2 hs,alA,alM,if_false,an8,h,alB]
theorem Nd {α:Type} {l r:List α} {n:Nat} {x:α} (h:l.drop n=x::r):l[n]?=some x/\l.drop (n+1)=r:=by
 refine⟨?_,?_⟩
 ·have:=List.getElem?_drop (xs:=l) (i:=n) (j:=0);rw[h] at this;simpa using this.symm
 ·rw[show n+1=n+1 from rfl,←alY,h]; rfl
theorem uD [Tags] (d:Nat) (us vs:List Value):∀ (fs:List Field) (t:Ty) (n:Nat) (l1 l2:List Leaf) (u2 v2:List Value) (z:Bool),L0 P fs t n=true->us.drop n=u2->vs.drop n=v2->
  All2 (LeafOk loc) l1 u2->All2 (LeafOk loc) l2 v2->Z1 l1 l2=some z->LZ t l1=true->(Op.eqFields (d+1) us.toArray vs.toArray fs).run P w=.ok z w
 | [],t,n,l1,l2,u2,v2,z,h,_,_,_,_,_,_=>by simp[L0] at h
 | [f],t,n,l1,l2,u2,v2,z,h,hu,hv,h1,h2,he,hf=>by
  simp only[L0,alp] at h;obtain⟨⟨hn,ho⟩,hs⟩:=h;have ho:=(zQ _ _).1 ho;have hn':f.name ≠ "_" := by simpa using hn
  have hnp:∀ a b,t ≠ .pair a b:=by
   intro a b e; subst e
   unfold Ls at hs;split at hs<;>first|(cases hs; done)|(rename_i h1 h2; cases h2)|skip
   all_goals simp_all
  have hl1:∃ x,l1=[x]/\Lf t x=true:=by
   cases l1 with
   | nil=>cases t<;>simp[LZ] at hf
   | cons x l1=>
    cases l1 with
    | nil=>exact⟨x,rfl,by cases t<;>first|exact hf|(exact absurd rfl (hnp _ _))⟩
    | cons y l1=>exfalso; cases t<;>first|(simp[LZ] at hf; done)|(exact absurd rfl (hnp _ _))
  obtain⟨x,rfl,hx⟩:=hl1;cases u2 with
  | nil=>exact h1.elim
  | cons u u2=>
   cases l2 with
   | nil=>simp[Z1] at he
   | cons y l2=>
   cases v2 with
   | nil=>exact h2.elim
   | cons v v2=>
    obtain⟨z1,z2,e1,e2,e3⟩:=uu he;have hz2:z2=true:=by
     cases l2 with
     | nil=>simpa[Z1] using e2.symm
     | cons _ _=>simp[Z1] at e2
    have r1:=BQ (P:=P) (w:=w) e1 h1.1 h2.1 hs d hx;simp only[Op.eqFields,if_pos hn',alC,ho,fZ hs (Nd hu).1,fZ hs (Nd hv).1,r1,alA];rw[e3,hz2];cases z1<;>simp
 | f::g::fs,t,n,l1,l2,u2,v2,z,h,hu,hv,h1,h2,he,hf=>by
  cases t with
  | pair a b=>
   simp only[L0,alp] at h;obtain⟨⟨⟨hn,ho⟩,hs⟩,hr⟩:=h;have ho:=(zQ _ _).1 ho;have hn':f.name ≠ "_" := by simpa using hn
   cases l1 with
   | nil=>simp[LZ] at hf
   | cons x l1=>
    cases u2 with
    | nil=>exact h1.elim
    | cons u u2=>
    cases l2 with
    | nil=>simp[Z1] at he
    | cons y l2=>
     cases v2 with
     | nil=>exact h2.elim
     | cons v v2=>
     obtain⟨z1,z2,e1,e2,e3⟩:=uu he;simp only[LZ,alp] at hf;have r1:=BQ (P:=P) (w:=w) e1 h1.1 h2.1 hs d hf.1;have r2:=uD d us vs (g::fs) b (n+1) l1 l2 u2 v2 z2 hr (Nd hu).2 (Nd hv).2 h1.2 h2.2 e2 hf.2;rw[Op.eqFields];simp only[if_pos hn',alC,ho,fZ hs (Nd hu).1,fZ hs (Nd hv).1,r1,alA];rw[e3];cases z1
     ·simp
     ·simpa using r2
  | _=>simp[L0] at h
theorem RU {E:Env} (hQ:E.eqs.all (LV P E.tys)=true) {T:Nat} (h:E.eqs.elem T=true):LV P E.tys T=true:=
 List.all_eq_true.1 hQ _ (List.mem_of_elem_eq_true h)
theorem aal [Tags] (hT:ym P E.tys=true) (hQ:E.eqs.all (LV P E.tys)=true) {op:BinOp} {T yT:TypeId} {x y:Operand} (ho:o.op=.binOp op T x y yT) {u v:AV} (hx:opnd st x=some u) (hy:opnd st y=some v)
  (hq:cU E T u=true) (hr:Rel0 B X A w0 γ loc st a w) (hk:(y8 op u v λ l=>k (st.put o.dst (.v (.one l))))=some r) (hn:yd B X A w0 k r o.dst.toList st next):o.wp P a w next Q:=by
 obtain⟨hx1,hx2⟩:=Jp hr hx;obtain⟨hy1,hy2⟩:=Jp hr hy;obtain⟨l,hl,hk'⟩:=uv hk;have hex:∀ {f:Value},(eqGuard op T x y (a.eval x) (a.eval y)).run P w=.ok () w->(binOp op T (a.eval x) (a.eval y)).run P w=.ok f w->(execOp a.eval o).run P w=.ok (.value f) w:=by
  intro f h1 h2;simp only[execOp,ho,alC,h1,h2,alA,alB]
 cases u with
 | v u1=>
  cases u1 with
  | one lu=>
   cases v with
   | v v1=>
    cases v1 with
    | one lv=>
     cases lu<;>cases lv<;>first|(simp only[y8] at hl; cases hl; done)|skip
     ·obtain⟨f,q1,q2,q3⟩:=VB (P:=P) (w:=w) (T:=T) (loc:=loc) hx1.2 hy1.2 hl;have e1:a.eval x=_:=hx1.1;have e2:a.eval y=_:=hy1.1;refine yz (x:=.v (.one l)) hn hr (hex (qd (by rw[e1]; simp) (by rw[e1]; simp) w) (by rw[e1,e2]; exact q1)) q2 (q3 _) hk'
     ·obtain⟨f,q1,q2,q3⟩:=VD (P:=P) (w:=w) (T:=T) (loc:=loc) hl;have e1:a.eval x=_:=hx1;have e2:a.eval y=_:=hy1;refine yz (x:=.v (.one l)) hn hr (hex (qd (by rw[e1]; simp) (by rw[e1]; simp) w) (by rw[e1,e2]; exact q1)) q2 (q3 _) hk'
     ·simp only[cU] at hq;split at hq
      ·next hd=>
       obtain⟨f,q1,q2,q3⟩:=VA (P:=P) (w:=w) (T:=T) (loc:=loc) ((yc hT hd).bool rfl) hl;have e1:a.eval x=_:=hx1;have e2:a.eval y=_:=hy1;refine yz (x:=.v (.one l)) hn hr (hex (qd (by rw[e1]; simp) (by rw[e1]; simp) w) (by rw[e1,e2]; exact q1)) q2 (q3 _) hk'
      ·cases hq
     ·obtain⟨f,q1,q2,q3⟩:=VC (P:=P) (w:=w) (T:=T) (loc:=loc) hx1.2 hy1.2 hl;have e1:a.eval x=_:=hx1.1;have e2:a.eval y=_:=hy1.1;refine yz (x:=.v (.one l)) hn hr (hex (qd (by rw[e1]; simp) (by rw[e1]; simp) w) (by rw[e1,e2]; exact q1)) q2 (q3 _) hk'
    | agg ls=>cases lu<;>(simp only[y8] at hl; cases hl)
    | any=>cases lu<;>(simp only[y8] at hl; cases hl)
   | _=>cases lu<;>(simp only[y8] at hl; cases hl)
  | any=>simp only[y8] at hl; cases hl
  | agg ls=>
   cases v with
   | v v1=>
    cases v1 with
    | one lv=>simp only[y8] at hl; cases hl
    | any=>simp only[y8] at hl; cases hl
    | agg ms=>
     simp only[y8] at hl;obtain⟨us,e1,h1⟩:=hx1;obtain⟨vs,e2,h2⟩:=hy1;simp only[cU,alp] at hq;obtain⟨hq1,hq2⟩:=hq;have hok:=RU hQ hq1;simp only[LV,alp,alU] at hok;obtain⟨⟨hf,hs⟩,hg⟩:=hok;split at hq2
     ·next d hd=>
      rw[hd] at hf;simp only at hf;split at hf
      ·next fs hu=>
       have acD:∀ z,Z1 ls ms=some z->(Op.equal T (a.eval x) (a.eval y)).run P w=.ok z w:=by
        intro z hz;have:=uD (P:=P) (w:=w) (loc:=loc) 9998 us vs fs.toList d.ty 0 ls ms us vs z hf rfl rfl h1 h2 hz hq2;have hfo:P.fieldsOf T=fs:=by simp[Program.fieldsOf,hu]
        rw[e1,e2];show (Op.equalIn (9999+1) T _ _).run P w=_;rw[run_equalIn_struct (P:=P) w 9999 T us.toArray vs.toArray (by rw[hfo]; exact hu) hs,hfo]
        exact this
       have hgd:(eqGuard op T x y (a.eval x) (a.eval y)).run P w=.ok () w:=by
        rw[e1,e2];unfold eqGuard;cases op<;>first|rfl|simp[hg]
       split at hl
       ·next z hz=>
        cases hl;refine yz (x:=.v (.one (.b z))) (v:=.bool z) hn hr (hex hgd ?_) rfl trivial hk';have:=acD z hz;rw[e1,e2] at this ⊢;unfold binOp;simp only[alC,this,alA,alB]
       ·next z hz=>
        cases hl;refine yz (x:=.v (.one (.b (!z)))) (v:=.bool (!z)) hn hr (hex hgd ?_) rfl trivial hk';have:=acD z hz;rw[e1,e2] at this ⊢;unfold binOp;simp only[alC,this,alA,alB]
       ·cases hl
      ·cases hf
     ·cases hq2
   | _=>simp only[y8] at hl; cases hl
 | _=>cases v<;>(simp only[y8] at hl; cases hl)
theorem Dv [Tags] {op:UnOp} {T:TypeId} {x:Operand} (ho:o.op=.unOp op T x) {l l':Leaf} (hx:zy st x=some l) (hr:Rel0 B X A w0 γ loc st a w)
  (hl:(op=.not/\∃ b,l=.b b/\l'=.b (!b))∨(op=.neg/\∃ n,l=.i n/\l'=.i (wr (0 - n)))) (hk:k (st.put o.dst (.v (.one l')))=some r)
  (hn:yd B X A w0 k r o.dst.toList st next):o.wp P a w next Q:=by
 obtain⟨h1,h2⟩:=yF hr hx;rcases hl with⟨rfl,b,rfl,rfl⟩|⟨rfl,n,rfl,rfl⟩
 ·refine yz (x:=.v (.one (.b (!b)))) (v:=.bool (!b)) hn hr ?_ rfl trivial hk;simp only[execOp,ho,show a.eval x=_ from h1,Op.unary,alC,alB,alA]
 ·refine yz (x:=.v (.one (.i (wr (0 - n))))) (v:=.int .i64 (wr (0 - n))) hn hr ?_ ⟨rfl,J6 _⟩ trivial hk;simp only[execOp,ho,show a.eval x=_ from h1.1,Op.unary,Op.intArith,alC,alB,alA,Yy]
theorem sU {tys:List (Nat×TD)} {t:Nat} {d:TD} (h:TOk P tys t d) (ha:d.arr=none):∃ u,P.underlying t=some u/\
  (match d.ty,u with | .i64,.int .i64=>True | .u8,.int .u8=>True | .bool,.bool=>True | .str,.string=>True | .sl E _,.slice E'=>E=E' | .pair _ _,.struct _=>True|_,_=>False):=by
 obtain⟨u,hu,hc⟩:=h.und;refine⟨u,hu,?_⟩;unfold J5 at hc;split at hc
 ·simp only[alp,alz] at hc; rw[hc.1]; trivial
 ·simp only[alp,alz] at hc; rw[hc.1]; trivial
 ·simp only[alp,alz] at hc; rw[hc.1]; trivial
 ·simp only[alp,alz] at hc; rw[hc.1]; trivial
 ·simp only[alp] at hc;obtain⟨_,hc⟩:=hc;split at hc
  ·next E' e heq=>
   simp only[alp] at hc;rw[heq];exact ((zQ _ _).1 hc.1).symm
  ·cases hc
 ·rw[ha] at hc; simp at hc
 ·simp only[alp] at hc;have:=hc.1.2;cases hd:d.ty<;>rw[hd] at this<;>first|trivial|(simp[Ty.isPair] at this)
 ·cases hc
theorem acn {w w':World} (h1:w.os=w'.os) (h2:w.tape=w'.tape) (h3:w.drawn=w'.drawn) (h4:w.output=w'.output) (h5:w.heap=w'.heap):w=w':=by
 cases w; cases w'; simp_all
theorem PJ [Tags] (w:World) (e:TypeId) (s:ByteArray):Lib.bytesWorld w e s=jv (jt w) (.cells (Lib.bytesCells w e s) e ((Lib.bytesCells w e s).size,(Lib.bytesCells w e s).size+1)):=by
 refine acn ?_ ?_ ?_ ?_ ?_
 ·rfl
 ·rfl
 ·rfl
 ·rfl
 ·apply Array.ext_getElem?;intro j;by_cases h1:j<w.heap.size
  ·rw[Lib.bytesWorld_at_old _ _ _ _ h1]; exact (Kx (w:=jt w) h1).symm
  ·by_cases h2:j=w.heap.size
   ·subst h2; rw[Lib.bytesWorld_at_new]; exact (aP (jt w) _).symm
   ·rw[amE,amE]
    ·rw[fM]; show w.heap.size+1<=j; omega
    ·rw[Lib.bytesWorld_size]; omega
theorem PI (w:World) (e:TypeId) (l:List UInt8):l.length<=grownCap w l.length 0 e/\
  (Lib.bytesCells w e ⟨⟨l⟩⟩).toList=(l.map λ b=>Value.int .u8 (b.toNat:Int))++List.replicate (grownCap w l.length 0 e - l.length) (.int .u8 0):=by
 refine⟨by unfold grownCap; simp only[Question.cut]; omega,?_⟩
 have e1:(⟨⟨l⟩⟩:ByteArray).size=l.length:=rfl;simp only[Lib.bytesCells,e1,Array.toList_append,Array.toList_map,Array.toList_replicate]
theorem R9 (l m:List UInt8):(l.map λ b=>(b.toNat:Int)).foldl (λ r n=>ByteArray.push r (UInt8.ofNat n.toNat)) ⟨⟨m⟩⟩=⟨⟨m++l⟩⟩:=by
 induction l generalizing m with
 | nil=>simp
 | cons x l ih=>
  simp only[alG,ama];have e1:ByteArray.push ⟨⟨m⟩⟩ (UInt8.ofNat ((x.toNat:Int)).toNat)=⟨⟨m++[x]⟩⟩:=by
   have:(UInt8.ofNat ((x.toNat:Int)).toNat)=x:=by simp
   rw[this];simp[ByteArray.push]
  rw[e1,ih];simp
theorem BD [Tags] {w:World}:∀ {xs:List UInt8} {cs:List Value} {fp:List Nat},RdL (Rd w .u8) xs cs fp->cs.take xs.length=xs.map λ b=>Value.int .u8 (b.toNat:Int)
 | [],_,_,_=>by simp
 | x::xs,cs,fp,⟨c,rest,f1,f2,h1,h2,h3,h4⟩=>by
  have e:=h3.1;subst e;rw[h1];simp[BD h4]
theorem Vz [Tags] {w:World} {b ob n c:Nat} {arr:Array Value} {T:TypeId} {fr:Nat×Nat} {xs:List UInt8} {fp:List Nat} (hn:n=xs.length) (hh:w.heap[b]?=some (.cells arr T fr))
  (hrd:RdL (Rd w .u8) xs (arr.toList.drop ob) fp):(Conv.bytesToString (.slice (some ⟨b,ob,none⟩) n c)).run P w=.ok (.string ⟨⟨xs⟩⟩) w:=by
 have hle:=hrd.le;have hz:(loadCells ⟨b,ob,none⟩ n).run P w=.ok ((xs.map λ b=>(b.toNat:Int)).map (Value.int .u8)).toArray w:=by
  rw[List.map_map];have e1:=BD hrd;by_cases h0:xs=[]
  ·subst h0; subst hn; simp[loadCells,loadCellsFrom]
  ·have afZ:0<xs.length:=List.length_pos_iff.2 h0;have:=be (P:=P) (n:=n) hh (o:=ob) (by simp[Ty.size] at hle; omega)
   rw[this,hn,e1];rfl
 rw[run_bytesToString w _ n c _ hz];congr 2;have h:=R9 xs [];rw[alL] at h;exact h
theorem TOk.i64 [Tags] {tys:List (Nat×TD)} {t:Nat} {d:TD} (h:TOk P tys t d) (hty:d.ty=.i64) (ha:d.arr=none):P.underlying t=some (.int .i64):=by
 obtain⟨u,hu,hm⟩:=sU h ha;rw[hty] at hm;cases u with
 | int k=>cases k<;>first|exact hu|exact hm.elim
 | _=>exact hm.elim
theorem TOk.u8 [Tags] {tys:List (Nat×TD)} {t:Nat} {d:TD} (h:TOk P tys t d) (hty:d.ty=.u8) (ha:d.arr=none):P.underlying t=some (.int .u8):=by
 obtain⟨u,hu,hm⟩:=sU h ha;rw[hty] at hm;cases u with
 | int k=>cases k<;>first|exact hu|exact hm.elim
 | _=>exact hm.elim
theorem TOk.str [Tags] {tys:List (Nat×TD)} {t:Nat} {d:TD} (h:TOk P tys t d) (hty:d.ty=.str) (ha:d.arr=none):P.underlying t=some .string:=by
 obtain⟨u,hu,hm⟩:=sU h ha;rw[hty] at hm;cases u with
 | string=>exact hu
 | _=>exact hm.elim
theorem Rel0.still [Tags] (hr:Rel0 B X A w0 γ loc st a w) (hkeep:KeepsW w.heap.size [] w w'):Rel0 B X A w0 (λ b=>if b<w.heap.size then γ b else .persist) loc st a w':=by
 have hB:=hr.Ble;refine hr.updW (M:=λ _=>False) rfl (Nat.le_refl _) ⟨hkeep.os,hkeep.tape,hkeep.output,hkeep.size,λ b hb hx=>hkeep.block b (by omega) (by simp),hkeep.free,hkeep.shape⟩ (λ b hb=>by
  by_cases hlt:b<w.heap.size
  ·simp only[hlt,if_true] at hb;exact hkeep.free b hlt (hr.unf b hb)
  ·simp[hlt,owned] at hb) ?_ (λ _ _=>rfl) ?_ (λ _ h=>h.elim) (λ id e he=>.inl ⟨he,λ h=>h⟩)
 ·intro b hb hx;have:b<w.heap.size:=by omega
  simp only[this,if_true];exact hr.old b hb hx
 ·refine⟨λ b hb h=>⟨by simp only[hb,if_true]; exact h,hkeep.block b hb (by simp)⟩,λ b i hb h _=>⟨by simp only[hb,if_true]; exact h,hkeep.block b hb (by simp)⟩,λ b i hb h=>⟨hkeep.block b hb (by simp),λ _=>by simp only[hb,if_true]; exact h,λ h=>h.elim⟩⟩
theorem aar [Tags] (hT:ym P E.tys=true) {S D:TypeId} {x:Operand} (ho:o.op=.convert S D x) {ds dd:TD} (hs:lk E.tys S=some ds) (hd:lk E.tys D=some dd) (has:ds.arr=none) (had:dd.arr=none)
  {l:Leaf} (hx:zy st x=some l) (hr:Rel0 B X A w0 γ loc st a w) (hk:(LX dd.ty ds.ty st l λ l' tab j=>k (St.put { st with tab:=tab,nxt:=j } o.dst (.v (.one l'))))=some r)
  (hn:yd B X A w0 k r o.dst.toList st next):o.wp P a w next Q:=by
 obtain⟨h1,h2⟩:=yF hr hx;have hts:=yc hT hs;have htd:=yc hT hd;have hex:∀ {f:Value} {w':World},(convert S D (a.eval x)).run P w=.ok f w'->(execOp a.eval o).run P w=.ok (.value f) w':=by
  intro f w' h;simp only[execOp,ho,alC,h,alA,alB]
 unfold LX at hk;split at hk
 ·next n e1 e2=>
  refine yz (x:=.v (.one (.u (yy n)))) (v:=.int .u8 (n % 256)) hn hr (hex ?_) (by simp only[AVOk,V1Ok,LeafOk,abZ]) trivial hk;rw[show a.eval x=_ from h1.1];simp only[convert,alC,yl (hts.i64 e1 has),yl (htd.u8 e2 had),alA,Conv.intToInt,alB,lB]
 ·next n e1 e2=>
  have hb:Bnd .i64 (n.toNat:Int):=by rw[K0]; have:=n.toNat_lt; omega
  refine yz (x:=.v (.one (.i (n.toNat:Int)))) (v:=.int .i64 (n.toNat:Int)) hn hr (hex ?_) ⟨rfl,hb⟩ trivial hk;rw[show a.eval x=_ from h1];simp only[convert,alC,yl (hts.u8 e1 has),yl (htd.i64 e2 had),alA,Conv.intToInt,alB,Yy,th hb]
 ·next n e1 e2=>
  refine yz (x:=.v (.one (.i n))) (v:=.int .i64 n) hn hr (hex ?_) ⟨rfl,h1.2⟩ trivial hk;rw[show a.eval x=_ from h1.1];simp only[convert,alC,yl (hts.i64 e1 has),yl (htd.i64 e2 had),alA,Conv.intToInt,alB,Yy,th h1.2]
 ·next n e1 e2=>
  refine yz (x:=.v (.one (.u n))) (v:=.int .u8 (n.toNat:Int)) hn hr (hex ?_) rfl trivial hk;rw[show a.eval x=_ from h1];have:(n.toNat:Int) % 256=n.toNat:=by have:=n.toNat_lt; omega
  simp only[convert,alC,yl (hts.u8 e1 has),yl (htd.u8 e2 had),alA,Conv.intToInt,alB,lB,this]
 ·next l' e1 e2=>
  refine yz (x:=.v (.one (.s l'))) (v:=.string ⟨⟨l'⟩⟩) hn hr (hex ?_) ⟨rfl,h1.2⟩ trivial hk;rw[show a.eval x=_ from h1.1];simp only[convert,alC,yl (hts.str e1 has),yl (htd.str e2 had),alA,alB]
 ·next ET l' e1 e2=>
  obtain⟨hu,de,hde,hdt,hda⟩:=htd.slice e2 had;have agZ:=hex (f:=.slice (some ⟨w.heap.size,0,none⟩) l'.length (grownCap w l'.length 0 ET)) (w':=Lib.bytesWorld w ET ⟨⟨l'⟩⟩) (by
   rw[show a.eval x=_ from h1.1];have:=Lib.run_convert_string_bytes (P:=P) w S D ET ⟨⟨l'⟩⟩ (hts.str e1 has) hu ((yc hT hde).u8 hdt hda);exact this)
  rw[PJ] at agZ;obtain⟨c1,c2⟩:=PI w ET l';have hsz:(Lib.bytesCells w ET ⟨⟨l'⟩⟩).size=grownCap w l'.length 0 ET:=by
   rw[←amb,c2]; simp; omega
  obtain⟨W1,hW1⟩:∃ W1,W1=jv (jt w) (.cells (Lib.bytesCells w ET ⟨⟨l'⟩⟩) ET ((Lib.bytesCells w ET ⟨⟨l'⟩⟩).size,(Lib.bytesCells w ET ⟨⟨l'⟩⟩).size+1)):=⟨_,rfl⟩
  have hold:∀ b,b<w.heap.size->W1.heap[b]?=w.heap[b]?:=λ b hb=>by rw[hW1]; exact Kx (w:=jt w) hb
  have aeN:W1.heap[w.heap.size]?=some (.cells (Lib.bytesCells w ET ⟨⟨l'⟩⟩) ET ((Lib.bytesCells w ET ⟨⟨l'⟩⟩).size,(Lib.bytesCells w ET ⟨⟨l'⟩⟩).size+1)):=by rw[hW1]; exact aP (jt w) _
  have hkeep:KeepsW w.heap.size [] w W1:=by
   refine⟨by rw[hW1]; rfl,by rw[hW1]; rfl,by rw[hW1]; rfl,?_,λ k hk _=>hold k hk,λ k hk hu=>hu.congr (hold k hk),λ k => ?_⟩
   ·rw[hW1,fM]; show w.heap.size<=w.heap.size+1; omega
   ·intro arr T fr h0;exact Shape.same (hold k (ZE h0)) arr T fr h0
  rw[←hW1] at agZ;obtain⟨loc2,ad4,hl2,acW⟩:=(hr.still hkeep).addImm (taint:=false) (lvl:=st.lvl) (t:=.sl ET .u8) (v:=l') (cs:=[.slice (some ⟨w.heap.size,0,none⟩) l'.length (grownCap w l'.length 0 ET)]) (fp:=[w.heap.size])
   ⟨_,_,_,rfl,rfl,c1,h1.2,.inr ⟨w.heap.size,0,_,_,_,[],rfl,aeN,rfl,by rw[alN,c2]; exact RdL.more _ (pI _ l'),Iff.rfl,λ h=>absurd ((Lj hT hd).1 e2 h) (by decide)⟩⟩ (λ b hb=>.inl (by simp at hb; subst hb; simp))
  exact jY (x:=.v (.one (.sl st.nxt))) hn agZ ad4 (Pres.addSpread (ids_lt hr) (.imm false) st.lvl (.sl ET .u8) l') hl2.1 (by simp[AV.lt,V1.lt,Leaf.lt,zd]) hk
 ·next ET e1 e2=>
  obtain⟨hu,de,hde,hdt,hda⟩:=hts.slice e1 has;refine yz (x:=.v (.one (.s []))) (v:=.string ⟨⟨[]⟩⟩) hn hr (hex ?_) ⟨rfl,by simp[Bnd]⟩ trivial hk;rw[show a.eval x=_ from h1,run_convert_bytes_string w S D ET none 0 0 hu ((yc hT hde).u8 hdt hda) (htd.str e2 had)];rfl
 ·next ET id e1 e2=>
  obtain⟨hu,de,hde,hdt,hda⟩:=hts.slice e1 has;split at hk
  ·next kd lvl EE xs hl=>
   have hE:=hr.ents id _ hl;have:∃ fp,Rd w (.sl EE .u8) xs [a.eval x] fp:=by
    rw[h1.1];cases kd with
    | imm t=>obtain⟨fp,h1,_⟩:=hE; exact⟨fp,h1⟩
    | lent=>obtain⟨fp,h1,_⟩:=hE; exact⟨fp,h1⟩
    | own u=>obtain⟨xb,fs,h1,_⟩:=hE; obtain⟨fp,h2,_⟩:=h1.rd; exact⟨fp,h2⟩
   obtain⟨fp,a1,n1,c,q1,q2,q3,q4,q5⟩:=this;simp only[alQ,and_true] at q1;refine yz (x:=.v (.one (.s xs))) (v:=.string ⟨⟨xs⟩⟩) hn hr (hex ?_) ⟨rfl,by simp only[Bnd]; omega⟩ trivial hk
   rw[q1,run_convert_bytes_string w S D ET a1 n1 c hu ((yc hT hde).u8 hdt hda) (htd.str e2 had)];rcases q5 with⟨q5,q6⟩|⟨b,ob,arr,T,fr,fp',ha,hb,hfp,hl',_⟩
   ·subst q5;have h0:n1=0:=by simpa using q2
    subst h0;cases a1 with
    | none=>rfl
    | some a1=>
     have:=run_bytesToString (P:=P) w a1 0 c [] (by simp[loadCells,loadCellsFrom]);rw[this]; rfl
   ·rw[ha];exact Vz q2 hb hl'
  ·cases hk
 ·cases hk
theorem aaS [Tags] {op:BinOp} {T yT:TypeId} {x y:Operand} (ho:o.op=.binOp op T x y yT) {n m:Int} (hy:rX op y=some n) (hx:zy st x=some (.i m))
  (hr:Rel0 B X A w0 γ loc st a w) (hk:k (st.put o.dst (.v (.one (.i (gC op m n)))))=some r) (hn:yd B X A w0 k r o.dst.toList st next):o.wp P a w next Q:=by
 obtain⟨⟨hx1,hx2⟩,_⟩:=yF hr hx;have hex:∀ {f:Value},(eqGuard op T x y (a.eval x) (a.eval y)).run P w=.ok () w->(binOp op T (a.eval x) (a.eval y)).run P w=.ok f w->(execOp a.eval o).run P w=.ok (.value f) w:=by
  intro f h1 h2;simp only[execOp,ho,alC,h1,h2,alA,alB]
 unfold rX at hy;split at hy
 ·next n0=>
  split at hy
  ·next h0=>
   cases hy;have hz:¬ n<0:=by have:=of_decide_eq_true h0; omega
   have e2:a.eval (.const (.int .u64 n))=.int .u64 n:=rfl;exact yz (x:=.v (.one (.i (gC .shl m n)))) hn hr (hex (qd (by rw[hx1]; simp) (by rw[hx1]; simp) w) (by rw[hx1,e2]; simp[binOp,Op.shift,hz,Yy]; rfl)) ⟨rfl,J6 _⟩ trivial hk
  ·cases hy
 ·next n0=>
  split at hy
  ·next h0=>
   cases hy;have hz:¬ n<0:=by have:=of_decide_eq_true h0; omega
   have e2:a.eval (.const (.int .u64 n))=.int .u64 n:=rfl;exact yz (x:=.v (.one (.i (gC .shr m n)))) hn hr (hex (qd (by rw[hx1]; simp) (by rw[hx1]; simp) w) (by rw[hx1,e2]; simp[binOp,Op.shift,hz]; rfl)) ⟨rfl,ux hx2 _⟩ trivial hk
  ·cases hy
 ·cases hy
theorem aaK [Tags] (hT:ym P E.tys=true) {T:TypeId} {x y:Operand} (ho:o.op=.makeSlice T x y) {d:TD} {ET:Nat} {e:Ty} (hd:lk E.tys T=some d) (hty:d.ty=.sl ET e) (acE:d.arr=none)
  {n:Int} (hx:zy st x=some (.i n)) (hy:zy st y=some (.i n)) (h0:0<=n) (acY:n.toNat*Ya E ET<=70368744177664) (hr:Rel0 B X A w0 γ loc st a w)
  (hk:k (St.put { st with tab:=(st.nxt,.arr (.own true) st.lvl ET e (List.replicate n.toNat (dflt e)))::st.tab,nxt:=st.nxt+1 } o.dst (.v (.one (.sl st.nxt))))=some r)
  (hn:yd B X A w0 k r o.dst.toList st next):o.wp P a w next Q:=by
 obtain⟨⟨hx1,hb⟩,_⟩:=yF hr hx;obtain⟨⟨hy1,_⟩,_⟩:=yF hr hy;have ht:=yc hT hd;obtain⟨hu,de,hde,hdt,hda⟩:=ht.slice hty acE;subst hdt;have hte:=yc hT hde;obtain⟨i,hi,hib,hb1⟩:=hte.bytes;have adR:=BM hT hd hty acE acY;have hrm:Ya E ET=de.bytes:=by simp[Ya,hde]
 rw[hrm] at acY;rw[K0] at hb;have hw:wr n=n:=th ((K0 n).2 hb);have ad5:¬ ((de.bytes:Int)*n>2 ^ 48):=by
  have h1:(de.bytes:Int)*n=((n.toNat*de.bytes:Nat):Int):=by
   rw[Int.natCast_mul,an9 h0,Int.mul_comm]
  rw[h1];omega
 have hz:=hte.zero hda w;have hzl:(zZ de.ty).length=de.ty.size:=KQ _;have afZ:=de.ty.size_pos;have hzr:=Bv (zZ de.ty) (by omega) n.toNat;rw[hzl] at hzr;have ad4:=hr.newOwn (Jm st.tab) (by simp) true st.lvl ET (T:=ET) (fr:=(0,0)) (cap:=n.toNat) (xs:=List.replicate n.toNat (dflt de.ty)) (fp:=[])
  (arr:=(List.replicate n.toNat (zZ de.ty)).flatten.toArray) (by have:=pJ w de.ty n.toNat []; simpa using this) (tk _ _) (by simp) (by simp; omega) (JO _) ⟨Iff.rfl,(Lj hT hd).1 hty⟩ (mH _ _ _)
 rw[List.length_replicate] at ad4;refine jY (x:=.v (.one (.sl st.nxt))) (v:=.slice (some ⟨w.heap.size,0,none⟩) n.toNat n.toNat) hn ?_ ad4 (Pres.newTab (ids_lt hr) (Jm st.tab) (by simp) _) (eJ st w loc _ _) (by simp[AV.lt,V1.lt,Leaf.lt]) hk;have ajZ:¬ n<0:=by omega
 simp only[execOp,ho,Instr.makeSlice,hx1,hy1,asInt,asIntOf,alC,yl hu,f0 hi,alA,alB,pure_bind,Yy,hw,hib];simp only[ajZ,ad5,alx,Bool.or_self,alM,if_false,gt_iff_lt,alS,alC,run_askRoom,alA,hte.size hda];have e1:((Array.range (n.toNat*de.ty.size)).map λ i=>(zZ de.ty).toArray[i % (zZ de.ty).toArray.size]!)=(List.replicate n.toNat (zZ de.ty)).flatten.toArray:=by
  apply Array.ext';rw[hzr]
 by_cases h:n.toNat*de.ty.size=0
 ·have hn0:n.toNat=0:=by
   rcases Nat.mul_eq_zero.1 h with h|h
   ·exact h
   ·omega
  have hz0:(Array.map (λ _=>(default:Value)) (Array.range 0)) = #[]:=by apply Array.ext'; simp
  simp[hn0,newRow,jv,hz0]
 ·simp only[if_neg h,alC,hz,alA,mg,alB,e1];simp[newRow,jv]
theorem pW {v:Value} {n:Int} {m:Nat} {code:BoundsCode} (hv:v=.int .i64 n) (h:0<=n/\n<=(m:Int)) (w:World):(Instr.sliceBound v m code).run P w=.ok n.toNat w:=by
 subst hv;simp only[Instr.sliceBound,asIntOf,pure_bind,if_pos h,alB]
theorem BP [Tags] {lo hi:Option Value} {len cap:Nat} {x y:Int} (b:Bool) (hlo:lo=some (.int .i64 x)∨(lo=none/\x=0)) (hhi:hi=some (.int .i64 y)∨(hi=none/\y=(len:Int)))
  (h:0<=x/\x<=y/\y<=(len:Int)) (hc:len<=cap) (w:World):(Instr.sliceBounds b len cap lo hi none).run P w=.ok (x.toNat,y.toNat,cap) w:=by
 obtain⟨h1,h2,h3⟩:=h;have hx:(Instr.sliceBound (.int .i64 x) y.toNat .sliceB).run P w=.ok x.toNat w:=pW rfl (by omega) w;have hyc:∀ code,(Instr.sliceBound (.int .i64 y) cap code).run P w=.ok y.toNat w:=λ code=>pW rfl (by omega) w;rcases hlo with rfl|⟨rfl,rfl⟩<;>rcases hhi with rfl|⟨rfl,rfl⟩
 ·simp only[Instr.sliceBounds,pure_bind,alC,hyc,alA,ana,alM,if_false,hx,alB]
 ·have hx':(Instr.sliceBound (.int .i64 x) len .sliceB).run P w=.ok x.toNat w:=pW rfl (by omega) w;simp only[Instr.sliceBounds,pure_bind,alC,alA,ana,alM,if_false,hx',alB,aly]
 ·simp only[Instr.sliceBounds,pure_bind,alC,hyc,alA,alB]; rfl
 ·simp only[Instr.sliceBounds,pure_bind,alC,alA,alB,aly]; rfl
theorem abM (l:List UInt8) (x y:Nat) (h:x<=y) (h2:y<=l.length):(⟨⟨l⟩⟩:ByteArray).extract x y=⟨⟨(l.drop x).take (y - x)⟩⟩:=by
 have:((⟨⟨l⟩⟩:ByteArray).extract x y).data.toList=(l.drop x).take (y - x):=by
  simp[ByteArray.extract,ByteArray.copySlice]
 generalize hz:(⟨⟨l⟩⟩:ByteArray).extract x y=z at this;obtain⟨⟨z⟩⟩:=z;simp only at this;rw[this]
theorem wD {lo:Option Operand} {la:Option Leaf} (h:Ks st lo=some la):(lo=none/\la=none)∨∃ y l,lo=some y/\la=some l/\zy st y=some l:=by
 cases lo with
 | none=>simp only[Ks,alq] at h; exact .inl ⟨rfl,h.symm⟩
 | some y=>
  simp only[Ks] at h;split at h
  ·next l hy=>cases h; exact .inr ⟨y,l,rfl,rfl,hy⟩
  ·cases h
theorem NL [Tags] (hr:Rel0 B X A w0 γ loc st a w) {lo:Option Operand} {la:Option Leaf} (h:Ks st lo=some la) {m n:Int}
  (hn:bnd m la=some n):lo.map a.eval=some (.int .i64 n)∨(lo.map a.eval=none/\n=m):=by
 rcases wD h with⟨rfl,rfl⟩|⟨y,l,rfl,rfl,hy⟩
 ·simp[bnd] at hn; exact .inr ⟨rfl,hn.symm⟩
 ·obtain⟨q1,_⟩:=yF hr hy;cases l<;>simp[bnd] at hn
  subst hn;left; simp[q1.1]
theorem UZ [Tags] {lo:Option Operand} {la:Option Leaf} (h:Ks st lo=some la) (hn:la=none):lo=none:=by
 rcases wD h with⟨rfl,rfl⟩|⟨y,l,rfl,rfl,hy⟩
 ·rfl
 ·cases hn
theorem bg [Tags] (hT:ym P E.tys=true) {T:TypeId} {d:TD} (hd:lk E.tys T=some d) (acE:d.arr=none) {ET:Nat} {e:Ty} (hty:d.ty=.sl ET e) {b:Option Addr} {n cap:Nat} {lo hi:Option Value} {x y:Int}
  (hlo:lo=some (.int .i64 x)∨(lo=none/\x=0)) (hhi:hi=some (.int .i64 y)∨(hi=none/\y=(n:Int))) (h:0<=x/\x<=y/\y<=(n:Int)) (hc:n<=cap) (w:World):
  (Instr.sliceAt T (.slice b n cap) lo hi none).run P w=.ok (.slice (if cap=x.toNat then b else b.map (·.add (x.toNat*e.size))) (y.toNat - x.toNat) (cap - x.toNat)) w:=by
 obtain⟨hu,de,hde,hdt,hda⟩:=(yc hT hd).slice hty acE;subst hdt;simp only[Instr.sliceAt,Instr.slice,alC,yl hu,alA,BP (P:=P) true hlo hhi h hc w,(yc hT hde).size hda,alB]
theorem BC [Tags] {w:World} {EE:Nat} {e:Ty} {xs:List (den e)} {v:Value} {fp:List Nat} {n m:Int} (h:Rd w (.sl EE e) xs [v] fp) (hb:0<=n/\n<=m/\m<=(xs.length:Int)) (hw:n=0∨e.size≠18):
  ∃ a1 c,v=.slice a1 xs.length c/\xs.length<=c/\∃ fp',(∀ b∈fp',b∈fp)/\
   Rd w (.sl EE e) ((xs.drop n.toNat).take (m.toNat - n.toNat)) [.slice (if c=n.toNat then a1 else a1.map (·.add (n.toNat*e.size))) (m.toNat - n.toNat) (c - n.toNat)] fp':=by
 obtain⟨hb1,hb2,hb3⟩:=hb;obtain⟨a1,n1,c,p1,p2,p3,p4,p5⟩:=h;simp only[alQ,and_true] at p1;subst p1;subst p2;have hlen:((xs.drop n.toNat).take (m.toNat - n.toNat)).length=m.toNat - n.toNat:=by rw[alE,alF]; omega
 refine⟨a1,c,rfl,p3,?_⟩;rcases p5 with⟨p5,p6,p7⟩|⟨b,ob,arr,T',fr,fp',ha,hb',hfp,hl',ht1,ht2⟩
 ·exact⟨[],by simp,_,_,_,rfl,hlen.symm,by omega,by omega,.inl ⟨by simp[p5],rfl,λ h=>by obtain⟨q1,q2⟩:=p7 h; simp[q1,q2]⟩⟩
 ·by_cases hz:m.toNat - n.toNat=0/\EE≠Tags.post
  ·exact⟨[],by simp,_,_,_,rfl,hlen.symm,by omega,by omega,.inl ⟨by simp[hz.1],rfl,λ h=>absurd h hz.2⟩⟩
  ·have hn:EE=Tags.post->n=0:=λ h=>hw.resolve_right λ k=>k (ht2 h).1;obtain⟨f1,f2,g1,g2⟩:=hl'.dropN n.toNat (by omega);obtain⟨f3,f4,g3,g4⟩:=g2.takeN (m.toNat - n.toNat);refine⟨b::f3,?_,_,_,_,rfl,hlen.symm,by omega,by omega,.inr ⟨b,ob+n.toNat*e.size,arr,T',fr,f3,?_,hb',rfl,?_,ht1,λ h => ?_⟩⟩
   ·intro c' hc';rw[hfp,g1,g3];rcases List.mem_cons.1 hc' with rfl|hc'<;>simp_all
   ·by_cases h0:n=0
    ·subst h0;rw[ha];simp[Addr.add]
    ·have:EE≠Tags.post:=λ h=>h0 (hn h);have:m.toNat - n.toNat≠0:=λ h=>hz ⟨h,this⟩;rw[if_neg (by omega),ha];simp[LR]
   ·rw[alY] at g4;exact g4
   ·have:=hn h;subst this;simpa using ht2 h
theorem aaT [Tags] (hT:ym P E.tys=true) {T:TypeId} {x:Operand} {lo hi:Option Operand} (ho:o.op=.slice T x lo hi none) {d:TD} (hd:lk E.tys T=some d) (acE:d.arr=none)
  {l:Leaf} (hx:zy st x=some l) {la lb:Option Leaf} (hlo:Ks st lo=some la) (hhi:Ks st hi=some lb)
  (hr:Rel0 B X A w0 γ loc st a w) (hk:(Jg d.ty l la lb st λ l' st'=>k (st'.put o.dst (.v (.one l'))))=some r)
  (hn:yd B X A w0 k r o.dst.toList st next):o.wp P a w next Q:=by
 obtain⟨h1,h2⟩:=yF hr hx;have ht:=yc hT hd;have hex:∀ {f:Value} {w':World},(Instr.sliceAt T (a.eval x) (lo.map a.eval) (hi.map a.eval) none).run P w=.ok f w'->(execOp a.eval o).run P w=.ok (.value f) w':=by
  intro f w' h;simp only[execOp,ho,Option.map_none,alC,h,alA,alB]
 unfold Jg at hk;split at hk
 ·next l0 n hty hn0=>
  split at hk
  ·next m hm=>
   split at hk
   ·next hb=>
    have q1:=NL hr hlo hn0;have q2:=NL hr hhi hm;obtain⟨hb1,hb2,hb3⟩:=hb;have acD:(Instr.sliceAt T (a.eval x) (lo.map a.eval) (hi.map a.eval) none).run P w=.ok (.string ⟨⟨(l0.drop n.toNat).take (m.toNat - n.toNat)⟩⟩) w:=by
     rw[show a.eval x=_ from h1.1];have e1:(⟨⟨l0⟩⟩:ByteArray).size=l0.length:=rfl;have:=BP (P:=P) (cap:=l0.length) false q1 q2 ⟨hb1,hb2,hb3⟩ (Nat.le_refl _) w;simp only[Instr.sliceAt,Instr.slice,alC,yl (ht.str hty acE),alA,ana,alM,if_false,e1,this,alB];rw[abM _ _ _ (by omega) (by omega)]
    refine yz (x:=.v (.one (.s _))) hn hr (hex acD) ⟨rfl,?_⟩ trivial hk;have:=h1.2;simp only[Bnd] at this ⊢;rw[alE,alF]; omega
   ·cases hk
  ·cases hk
 ·next ET e n hty hn0=>
  split at hk
  ·next m hm=>
   split at hk
   ·next hb=>
    obtain⟨hb1,hb2,hb3⟩:=hb;have q1:=NL hr hlo hn0;have q2:=NL hr hhi hm;have e1:n=0:=by omega
    have e2:m=0:=by omega
    subst e1; subst e2
    have acD:=bg (P:=P) (n:=0) (cap:=0) (b:=none) hT hd acE hty q1 q2 (by omega) (Nat.le_refl _) w;have h1':a.eval x=.slice none 0 0:=h1;rw[←h1'] at acD;exact yz (x:=.v (.one .nil)) (v:=.slice none 0 0) hn hr (hex (by rw[acD]; rfl)) rfl trivial hk
   ·cases hk
  ·cases hk
 ·next id ET e' n hty hn0=>
  split at hk
  ·next kd lvl EE e xs hl=>
   split at hk
   ·next m hm he=>
    have he:e=e':=by simpa using he
    subst he;split at hk
    ·next hb=>
     have q1:=NL hr hlo hn0;have q2:=NL hr hhi hm;obtain⟨hb1,hb2,hb3⟩:=hb;have hsv:a.eval x=loc id:=h1.1;have hE:=hr.ents id _ hl;split at hk
     ·next t=>
      split at hk
      ·cases hk
      next hwh=>
      obtain⟨fp,hrd,hf⟩:=hE;have hw:n=0∨e.size≠18:=by
       simp only[anz] at hwh;rcases hwh with h|h
       ·left;cases la with
        | none=>simp only[bnd,alq] at hn0; exact hn0.symm
        | some _=>simp at h
       ·exact .inr ((ZA _ _).1 h)
      obtain⟨a1,c,p1,p3,ad4⟩:=BC hrd ⟨hb1,hb2,hb3⟩ hw;rw[←hsv] at p1;have acD:=bg (P:=P) (n:=xs.length) (cap:=c) (b:=a1) hT hd acE hty q1 q2 ⟨hb1,hb2,hb3⟩ p3 w;rw[←p1] at acD;obtain⟨fp',r1,r2⟩:=ad4;refine jY (x:=.v (.one (.sl st.nxt))) (γ':=γ) (loc':=λ i=>if i=st.nxt then .slice (if c=n.toNat then a1 else a1.map (·.add (n.toNat*e.size))) (m.toNat - n.toNat) (c - n.toNat) else loc i) hn (hex acD) ?_ (Pres.newTab (ids_lt hr) (Jm st.tab) (by simp) _) ⟨by simp,_,_,_,rfl⟩ (by simp[AV.lt,V1.lt,Leaf.lt]) hk;refine hr.upd (M:=λ _=>False) rfl (by simp) (Keeps.refl _ _ _) (λ _ _ h=>h) hr.old (λ i hi=>by simp[show i≠st.nxt by omega]) (Moves.refl _ _ _) (λ _ h=>h.elim) ?_;intro i e' hi;rw[yS] at hi;split at hi
      ·rename_i hii;cases hi;subst hii;exact .inr ⟨⟨⟨fp',by simpa using r2,λ b hb=>hf b (r1 b hb)⟩,trivial,by simp⟩,.inl (Nat.le_refl _)⟩
      ·exact .inl ⟨hi,λ h=>h⟩
     ·next kdx lax u=>
      have hln:=UZ hlo rfl;split at hk
      ·next hlv=>
       simp only[bnd,alq] at hn0;subst hn0;obtain⟨xb,fs,g1,g2,g3⟩:=hE;have acL:∀ i∈[id],jA st i:=by
        intro i hi;have:i=id:=by simpa using hi
        subst this;exact⟨u,lvl,EE,e,_,hl,(zQ _ _).1 hlv⟩
       have ad0:∀ j,look (erase st.tab id) j=if j∈[id] then none else look st.tab j:=by
        intro j; rw[ah]; simp
       rcases g1 with⟨p1,p2,p3,p4⟩|⟨b,cap,arr,T',fr,p1,p2,p3,p4,p5,p6,p7,p8,p9⟩
       ·simp only[alQ,and_true] at p2;subst p1;have e2:m=0:=by simp at hb3; omega
        subst e2;have acD:=bg (P:=P) (n:=0) (cap:=0) (b:=none) hT hd acE hty q1 q2 (by omega) (Nat.le_refl _) w;rw[←p2,←hsv] at acD;have ad4:=hr.nilOwn ad0 acL u st.lvl EE e;exact jY (x:=.v (.one (.sl st.nxt))) (v:=.slice none 0 0) hn (hex (by rw[acD]; rfl)) ad4 (Pres.newTab (ids_lt hr) ad0 acL _) (wt st loc) (by simp[AV.lt,V1.lt,Leaf.lt]) (by simpa using hk)
       ·simp only[alQ,and_true] at p1;have acD:=bg (P:=P) (n:=xs.length) (cap:=cap) (b:=some ⟨b,0,none⟩) hT hd acE hty q1 q2 ⟨hb1,hb2,hb3⟩ p5 w;rw[←p1,←hsv] at acD;have hval:(Value.slice (if cap=(0:Int).toNat then some ⟨b,0,none⟩ else (some ⟨b,0,none⟩:Option Addr).map (·.add ((0:Int).toNat*e.size))) (m.toNat - (0:Int).toNat) (cap - (0:Int).toNat))=.slice (some ⟨b,0,none⟩) m.toNat cap:=by
         simp[Addr.add]
        rw[hval] at acD;obtain⟨f1,f2,r1,r2⟩:=p7.takeN m.toNat;have hbo:γ b=.top id:=g2 b (by simp[p8]);have hlen:(xs.take m.toNat).length=m.toNat:=by rw[alE]; omega
        have hnb:b∉f1:=by
         intro hm';have hm2:b∈fs:=by rw[r1]; simp[hm']
         cases u with
         | true=>have:=g3.2 b hm2; rw[hbo] at this; cases this
         | false=>have:=g3 b hm2; rw[hbo] at this; cases this
        have hfp:YH (relab [id] (Zo u st.nxt) γ) (.own u) st.nxt f1:=by
         cases u with
         | true=>
          obtain⟨n1,d1⟩:=g3;rw[r1] at n1;exact⟨(List.nodup_append.1 n1).1,λ c hc=>by rw[Lm (d1 c (by rw[r1]; simp[hc])) (by simp)]; rfl⟩
         | false=>exact λ c hc=>ZU (g3 c (by rw[r1]; simp[hc]))
        have ad4:=hr.grow ad0 acL u st.lvl EE (xs:=xs.take m.toNat) (cap:=cap) (arr':=arr) (fp:=f1) (id:=id) (by simp) hbo p2 r2 p4 (by omega) (by omega) p3 rfl p9 hfp hnb;rw[px p2,hlen] at ad4;exact jY (x:=.v (.one (.sl st.nxt))) (v:=.slice (some ⟨b,0,none⟩) m.toNat cap) hn (hex acD) ad4 (Pres.newTab (ids_lt hr) ad0 acL _) ⟨by simp,_,_,_,rfl⟩ (by simp[AV.lt,V1.lt,Leaf.lt]) hk
      ·cases hk
     ·next u lo0=>
      split at hk
      ·next aic=>
       simp only[alp,alU] at aic;obtain⟨hlv,hwh⟩:=aic;obtain⟨xb,fs,g1,g2,g3⟩:=hE;have acL:∀ i∈[id],jA st i:=by
        intro i hi;have:i=id:=by simpa using hi
        subst this;exact⟨u,lvl,EE,e,_,hl,(zQ _ _).1 hlv⟩
       have ad0:∀ j,look (erase st.tab id) j=if j∈[id] then none else look st.tab j:=by
        intro j; rw[ah]; simp
       obtain⟨fp,hrd,hfp⟩:=g1.rd;obtain⟨a1,c,hv,hc,fp',r1,r2⟩:=BC (n:=n) (m:=m) hrd ⟨hb1,hb2,hb3⟩ (.inr ((ZA _ _).1 hwh));have acD:=bg (P:=P) (n:=xs.length) (cap:=c) (b:=a1) hT hd acE hty q1 q2 ⟨hb1,hb2,hb3⟩ hc w;rw[←hv,←hsv] at acD;have aeS:∀ b∈fp',relab [id] .persist γ b=.persist:=by
        intro b hb';rcases hfp b (r1 b hb') with h'|h'
        ·exact Vp (g2 b h') (by simp)
        ·cases u with
         | true=>exact Lm (g3.2 b h') (by simp)
         | false=>exact ZU (g3 b h')
       refine jY (x:=.v (.one (.sl st.nxt))) (γ':=relab [id] .persist γ) (loc':=λ i=>if i=st.nxt then .slice (if c=n.toNat then a1 else a1.map (·.add (n.toNat*e.size))) (m.toNat - n.toNat) (c - n.toNat) else loc i) hn (hex acD) ?_ (Pres.newTab (ids_lt hr) ad0 acL _) ⟨by simp,_,_,_,rfl⟩ (by simp[AV.lt,V1.lt,Leaf.lt]) hk;refine hr.upd (M:=λ i=>i∈[id]) rfl (by simp) (Keeps.refl _ _ _) (λ _ _ h=>Mo h) (Mn hr.old) (λ i hi=>by simp[show i≠st.nxt by omega]) (Moves.relab (.inl rfl) γ w) (λ i h=>by obtain⟨u,lvl,E',e,xs,h',_⟩:=acL i h; exact⟨_,h'⟩) ?_
       intro i e' hi;rw[yS] at hi;split at hi
       ·rename_i hii;cases hi;subst hii;exact .inr ⟨⟨⟨fp',by simpa using r2,λ b hb=>.inl (aeS b hb)⟩,trivial,by simp⟩,.inl (Nat.le_refl _)⟩
       ·rw[ad0] at hi;split at hi
        ·cases hi
        ·rename_i hni; exact .inl ⟨hi,hni⟩
      ·cases hk
     ·cases hk
    ·cases hk
   ·cases hk
  ·cases hk
 ·cases hk
theorem Ds [Tags] {x:Operand} (ho:o.op=.move x∨o.op=.assign x) {v:AV} (hx:opnd st x=some v) (hr:Rel0 B X A w0 γ loc st a w) (hk:k (st.put o.dst v)=some r)
  (hn:yd B X A w0 k r o.dst.toList st next):o.wp P a w next Q:=by
 obtain⟨h1,h2⟩:=Jp hr hx;refine yz hn hr (v:=a.eval x) ?_ h1 h2 hk;rcases ho with ho|ho<;>simp only[execOp,ho,alB]
theorem Dt [Tags] {c x y:Operand} (ho:o.op=.pick c x y) {z:Bool} (hc:zy st c=some (.b z)) {v:AV} (hx:opnd st (bif z then x else y)=some v) (hr:Rel0 B X A w0 γ loc st a w)
  (hk:k (st.put o.dst v)=some r) (hn:yd B X A w0 k r o.dst.toList st next):o.wp P a w next Q:=by
 obtain⟨h1,h2⟩:=Jp hr hx;obtain⟨h3,_⟩:=yF hr hc;refine yz hn hr (v:=a.eval (bif z then x else y)) ?_ h1 h2 hk;have h3':a.eval c=.bool z:=h3;cases z<;>simp[execOp,ho,h3',asBool]
theorem rY [Tags] {x:Operand} (ho:o.op=.nilCheck x) {l:Leaf} (hx:zy st x=some l) (hl:∀ v,LeafOk loc l v->∃ ad,v=.pointer (some ad)) (hr:Rel0 B X A w0 γ loc st a w)
  (hk:k (st.put o.dst (.v (.one l)))=some r) (hn:yd B X A w0 k r o.dst.toList st next):o.wp P a w next Q:=by
 obtain⟨h1,h2⟩:=yF hr hx;obtain⟨ad,hl⟩:=hl _ h1;refine yz (x:=.v (.one l)) hn hr (v:=a.eval x) ?_ h1 h2 hk;rw[hl];simp only[execOp,ho,hl,alB]
theorem Dq [Tags] (hT:ym P E.tys=true) {T:TypeId} {x:Operand} {f:Nat} (ho:o.op=.fieldAddr T x f) {d:TD} (hd:lk E.tys T=some d) {l l':Leaf} (hx:zy st x=some l)
  {fo ft:Nat} (hf:d.flds[f]?=some (fo,ft)) (hll:∀ v,LeafOk loc l v->∃ ad:Addr,v=.pointer (some ad)/\LeafOk loc l' (.pointer (some (ad.add fo)))) (hlt:l.lt st.nxt->l'.lt st.nxt)
  (hr:Rel0 B X A w0 γ loc st a w)
  (hk:k (st.put o.dst (.v (.one l')))=some r) (hn:yd B X A w0 k r o.dst.toList st next):o.wp P a w next Q:=by
 obtain⟨h1,h2⟩:=yF hr hx;have ht:=yc hT hd;obtain⟨hp,ha⟩:=ht.flds (by intro h; rw[h] at hf; simp at hf)
 obtain⟨fs,hu,hfs⟩:=ht.struct hp ha;obtain⟨fd,g1,g2,g3,d',g4,g5,g6⟩:=mE hfs hf;obtain⟨ad,q1,q2⟩:=hll _ h1;refine yz (x:=.v (.one l')) hn hr (v:=.pointer (some (ad.add fo))) ?_ q2 (hlt h2) hk;have hsz:=(yc hT g4).size g5 w;have hs0:d'.ty.size≠0:=by have:=d'.ty.size_pos; omega
 have g1':fs[f]?=some fd:=by rw[←amk]; exact g1
 simp only[execOp,ho,Instr.fieldAt,alC,yl hu,alA,g1',q1,Instr.sureAddr,alB,fieldPlace,g3,hsz,if_neg hs0,g2]
theorem aav [Tags] (hT:ym P E.tys=true) {T:TypeId} {x:Operand} {f:Nat} (ho:o.op=.field T x f) {d:TD} (hd:lk E.tys T=some d) {ls:List Leaf} (hx:opnd st x=some (.v (.agg ls)))
  {fo ft:Nat} (hf:d.flds[f]?=some (fo,ft)) {fd:TD} (hfd:lk E.tys ft=some fd) (hle:fo+fd.ty.size<=ls.length) {xv:V1} (hmk:ZR fd.ty ((ls.drop fo).take fd.ty.size)=some xv)
  (hr:Rel0 B X A w0 γ loc st a w)
  (hk:k (st.put o.dst (.v xv))=some r) (hn:yd B X A w0 k r o.dst.toList st next):o.wp P a w next Q:=by
 obtain⟨h1,h2⟩:=Jp hr hx;have ht:=yc hT hd;obtain⟨hp,ha⟩:=ht.flds (by intro h; rw[h] at hf; simp at hf)
 obtain⟨fs,hu,hfs⟩:=ht.struct hp ha;obtain⟨fdd,g1,g2,g3,d',g4,g5,g6⟩:=mE hfs hf;rw[hfd] at g4;cases g4;obtain⟨vs,e1,e2⟩:=h1;have g1':fs[f]?=some fdd:=by rw[←amk]; exact g1
 obtain⟨v1,v2⟩:=Km (n:=st.nxt) hmk ((e2.drop fo).take fd.ty.size) (λ l hm=>h2 l (List.mem_of_mem_drop (List.mem_of_mem_take hm)));refine yz (x:=.v xv) hn hr (v:=_) ?_ v1 v2 hk;have hag:=(yc hT hfd).isAgg g5 w;have hsz:=(yc hT hfd).size g5 w;have hlen:ls.length=vs.length:=e2.len;simp only[execOp,ho,Instr.field,alC,yl hu,alA,g1',e1,asAgg,alB,Go.part,g3,hag,g2];cases hpp:fd.ty.isPair with
 | true=>
  simp only[if_true,alC,hsz,alA,alB,yp,hpp];congr 3;apply Array.ext';simp[List.extract_eq_take_drop]
 | false=>
  have hs1:fd.ty.size=1:=by cases h:fd.ty<;>simp_all [Ty.isPair,Ty.size]
  have hlt:fo<vs.length:=by omega
  have:vs.toArray[fo]?=some vs[fo]:=by simp[hlt]
  simp only[alM,if_false,this,alB,yp,hpp,hs1,alA];have hd1:((vs.drop fo).take 1).headD undef=vs[fo]:=by
   rw[alJ hlt]; rfl
  rw[hd1]
theorem VG [Tags] (hT:ym P E.tys=true) {T:TypeId} {d:TD} (hd:lk E.tys T=some d) (acE:d.arr=none) {ET:Nat} {e:Ty} (hty:d.ty=.sl ET e) {b:Addr} {n c:Nat} {i:Int} (h:0<=i/\i<(n:Int)) (w:World):
  (Instr.indexAt T (.slice (some b) n c) (.int .i64 i)).run P w=.ok (.pointer (some (b.add (i.toNat*e.size)))) w:=by
 obtain⟨hu,de,hde,hdt,hda⟩:=(yc hT hd).slice hty acE;subst hdt;simp only[Instr.indexAt,asIntOf,pure_bind,alC,yl hu,alA,alB,if_pos h,(yc hT hde).size hda]
theorem VF [Tags] (hT:ym P E.tys=true) {T:TypeId} {d:TD} (hd:lk E.tys T=some d) {m:Nat} (acE:d.arr=some m) {ET:Nat} {e:Ty} (hty:d.ty=.sl ET e) {b:Addr} {i:Int} (h:0<=i/\i<(m:Int)) (w:World):
  (Instr.indexAt T (.pointer (some b)) (.int .i64 i)).run P w=.ok (.pointer (some (b.add (i.toNat*e.size)))) w:=by
 obtain⟨hu,de,hde,hdt,hda⟩:=(yc hT hd).array hty acE;subst hdt;simp only[Instr.indexAt,asIntOf,pure_bind,alC,yl hu,alA,alB,Instr.sureAddr,if_pos h,(yc hT hde).size hda]
theorem tP [Tags] (hr:Rel0 B X A w0 γ loc st a w) {id:Nat} {kd:Kind} {lvl EE:Nat} {e:Ty} {xs:List (den e)} (hl:look st.tab id=some (.arr kd lvl EE e xs)) (hne:xs≠[]):
  ∃ b o c,loc id=.slice (some ⟨b,o,none⟩) xs.length c:=by
 have hE:=hr.ents id _ hl;cases kd with
 | imm t=>
  obtain⟨fp,⟨a1,n1,c,p1,p2,p3,p4,p5⟩,hf⟩:=hE;simp only[alQ,and_true] at p1;rcases p5 with⟨p5,p6⟩|⟨b,ob,arr,T',fr,fp',ha,hb',hfp,hl'⟩
  ·exact absurd p5 hne
  ·exact⟨b,ob,c,by rw[p1,ha,p2]⟩
 | lent=>
  obtain⟨fp,⟨a1,n1,c,p1,p2,p3,p4,p5⟩,hf⟩:=hE;simp only[alQ,and_true] at p1;rcases p5 with⟨p5,p6⟩|⟨b,ob,arr,T',fr,fp',ha,hb',hfp,hl'⟩
  ·exact absurd p5 hne
  ·exact⟨b,ob,c,by rw[p1,ha,p2]⟩
 | own u=>
  obtain⟨xb,fs,g1,g2,g3⟩:=hE;rcases g1 with⟨p1,p2,p3,p4⟩|⟨b,cap,arr,T',fr,p1,p2,p3,p4,p5,p6,p7,p8⟩
  ·exact absurd p1 hne
  ·simp only[alQ,and_true] at p1;exact⟨b,0,cap,p1⟩
theorem aaz [Tags] (hT:ym P E.tys=true) {T:TypeId} {x y:Operand} (ho:o.op=.indexAddr T x y) {d:TD} (hd:lk E.tys T=some d) (acE:d.arr=none) {ET:Nat} {e:Ty} (hty:d.ty=.sl ET e)
  {id:Nat} (hx:zy st x=some (.sl id)) {n:Int} (hy:zy st y=some (.i n)) {kd:Kind} {lvl EE:Nat} {xs:List (den e)} (hl:look st.tab id=some (.arr kd lvl EE e xs)) (hb:0<=n/\n<(xs.length:Int))
  (hr:Rel0 B X A w0 γ loc st a w)
  (hk:k (st.put o.dst (.v (.one (.ep id n.toNat e.size 0))))=some r) (hn:yd B X A w0 k r o.dst.toList st next):o.wp P a w next Q:=by
 obtain⟨h1,h2⟩:=yF hr hx;obtain⟨h3,_⟩:=yF hr hy;have hne:xs≠[]:=by intro h; subst h; simp at hb; omega
 obtain⟨b,ob,c,acW⟩:=tP hr hl hne;have hxv:a.eval x=.slice (some ⟨b,ob,none⟩) xs.length c:=by rw[h1.1,acW]
 have hyv:a.eval y=.int .i64 n:=h3.1;refine yz (x:=.v (.one (.ep id n.toNat e.size 0))) (v:=.pointer (some ⟨b,ob+n.toNat*e.size,none⟩)) hn hr ?_ ⟨b,ob,xs.length,c,acW,by omega,by simp⟩ h2 hk;simp only[execOp,ho,hxv,hyv,alC,VG hT hd acE hty hb,alA,alB,LR]
theorem aay [Tags] (hT:ym P E.tys=true) {T:TypeId} {x y:Operand} (ho:o.op=.indexAddr T x y) {d:TD} (hd:lk E.tys T=some d) {m:Nat} (acE:d.arr=some m) {ET:Nat} {e:Ty} (hty:d.ty=.sl ET e)
  {id:Nat} (hx:zy st x=some (.ap id)) {n:Int} (hy:zy st y=some (.i n)) {kd:Kind} {lvl EE:Nat} {xs:List (den e)} (hl:look st.tab id=some (.arr kd lvl EE e xs)) (hm:m=xs.length) (hb:0<=n/\n<(xs.length:Int))
  (hr:Rel0 B X A w0 γ loc st a w)
  (hk:k (st.put o.dst (.v (.one (.ep id n.toNat e.size 0))))=some r) (hn:yd B X A w0 k r o.dst.toList st next):o.wp P a w next Q:=by
 obtain⟨h1,h2⟩:=yF hr hx;obtain⟨h3,_⟩:=yF hr hy;have hne:xs≠[]:=by intro h; subst h; simp at hb; omega
 obtain⟨b,ob,c,acW⟩:=tP hr hl hne;obtain⟨b',n',c',aha,hxv⟩:=h1;rw[acW] at aha;simp only[Value.slice.injEq,alq,Addr.mk.injEq,and_true] at aha;obtain⟨⟨rfl,rfl⟩,rfl,rfl⟩:=aha;have hyv:a.eval y=.int .i64 n:=h3.1;subst hm;refine yz (x:=.v (.one (.ep id n.toNat e.size 0))) (v:=.pointer (some ⟨b,0+n.toNat*e.size,none⟩)) hn hr ?_ ⟨b,0,xs.length,c,acW,by omega,by simp⟩ h2 hk;simp only[execOp,ho,hxv,hyv,alC,VF hT hd acE hty hb,alA,alB,LR]
theorem aaA [Tags] (hT:ym P E.tys=true) {T:TypeId} {x y:Operand} (ho:o.op=.index T x y) {d:TD} (hd:lk E.tys T=some d) (acE:d.arr=none) (hty:d.ty=.str)
  {l:List UInt8} (hx:zy st x=some (.s l)) {n:Int} (hy:zy st y=some (.i n)) (hb:0<=n/\n<(l.length:Int))
  (hr:Rel0 B X A w0 γ loc st a w)
  (hk:k (st.put o.dst (.v (.one (.u (l.getD n.toNat 0)))))=some r) (hn:yd B X A w0 k r o.dst.toList st next):o.wp P a w next Q:=by
 obtain⟨h1,h2⟩:=yF hr hx;obtain⟨h3,_⟩:=yF hr hy;have hxv:a.eval x=.string ⟨⟨l⟩⟩:=h1.1;have hyv:a.eval y=.int .i64 n:=h3.1;refine yz (x:=.v (.one (.u _))) (v:=.int .u8 ((l.getD n.toNat 0).toNat:Int)) hn hr ?_ rfl trivial hk;have hlt:n.toNat<l.length:=by omega
 have hg:(⟨⟨l⟩⟩:ByteArray)[n.toNat]?=some (l.getD n.toNat 0):=by
  have hs:n.toNat<(⟨⟨l⟩⟩:ByteArray).size:=hlt;rw[getElem?_pos (⟨⟨l⟩⟩:ByteArray) n.toNat hs];have:(⟨⟨l⟩⟩:ByteArray)[n.toNat]=l[n.toNat]:=rfl;rw[this];simp[List.getD,hlt]
 simp only[execOp,ho,hxv,hyv,Instr.index,asIntOf,pure_bind,alC,yl ((yc hT hd).str hty acE),alA,if_pos hb.1,hg,alB]
theorem aau [Tags] {t:Operand} {i:Nat} (ho:o.op=.extract t i) {xs:List V1} (hx:opnd st t=some (.tup xs)) {x:V1} (hi:xs[i]?=some x) (hr:Rel0 B X A w0 γ loc st a w)
  (hk:k (st.put o.dst (.v x))=some r) (hn:yd B X A w0 k r o.dst.toList st next):o.wp P a w next Q:=by
 obtain⟨h1,h2⟩:=Jp hr hx;obtain⟨vs,e1,e2⟩:=h1;obtain⟨v,g1,g2⟩:=e2.get hi;refine yz (x:=.v x) (v:=v) hn hr ?_ g2 (h2 x (List.mem_of_getElem? hi)) hk;have g1':vs.toArray[i]?=some v:=by simpa using g1
 simp only[execOp,ho,e1,Instr.extract,g1',alC,alB,alA]
theorem aaJ [Tags] {f:Nat} {x:Array Operand} {caps:Array Operand} (ho:o.op=.makeFunc (.func f) x caps) (hx:x.toList=[]) {y:Operand} (hc:caps.toList=[y]) {id:Nat} (hy:opnd st y=some (.v (.one (.ptr id 0))))
  (hr:Rel0 B X A w0 γ loc st a w) (hk:k (st.put o.dst (.v (.one (.fn f [id]))))=some r) (hn:yd B X A w0 k r o.dst.toList st next):o.wp P a w next Q:=by
 obtain⟨h1,h2⟩:=Jp hr hy;obtain⟨b,g1,g2⟩:=h1;refine yz (x:=.v (.one (.fn f [id]))) (v:=.func (.func f) #[] #[loc id]) hn hr ?_ ⟨rfl,λ c hc=>by simp at hc; subst hc; exact⟨b,g1⟩⟩ ?_ hk
 ·have e1:x = #[]:=Ka hx;have e2:caps = #[y]:=Ka hc;subst e1; subst e2
  simp only[execOp,ho,Instr.makeFunc,alC,alB,alA,amJ,alG,am8,g2,g1]
 ·intro c hc; simp at hc; subst hc; exact h2
theorem aaG [Tags] (hT:ym P E.tys=true) {c:Call} (hc:o.op=.call c) (hb:c.callee=.builtin .len) {x:Operand} (hargs:c.args.toList=[x]) {T:Nat} (hty:c.argTypes.toList=[T])
  {l:Leaf} (hx:zy st x=some l) (hlt:nE E T l=true) {n:Int} (hlen:ag st l=some n) (hr:Rel0 B X A w0 γ loc st a w) (hk:k (st.put o.dst (.v (.one (.i n))))=some r)
  (hn:yd B X A w0 k r o.dst.toList st next):o.wp P a w next Q:=by
 obtain⟨h1,h2⟩:=yF hr hx;have e1:=Ka hargs;have e2:=Ka hty;have adu:(∃ m:Nat,n=(m:Int)/\m<=140737488355328/\(Builtin.len_ #[T] o.type #[a.eval x]).run P w=.ok (.int .i64 m) w)->o.wp P a w next Q:=by
  rintro⟨m,rfl,hm,acD⟩;refine yz (x:=.v (.one (.i m))) (v:=.int .i64 m) hn hr ?_ ⟨rfl,?_⟩ trivial hk
  ·simp only[execOp,hc,resolve,hb,e1,e2,invoke,builtin,alC,alB,alA];simp only[amJ,alG,am8,acD,alA]
  ·rw[K0]; omega
 apply adu;unfold nE at hlt;split at hlt
 ·next b f s hd=>
  simp only[ag,alq] at hlen;refine⟨s.length,hlen.symm,h1.2,?_⟩;have e3:(⟨⟨s⟩⟩:ByteArray).size=s.length:=rfl;simp[Builtin.len_,yl ((yc hT hd).str rfl rfl),h1.1,goInt,e3]
 ·next ET e b f hd=>
  simp only[ag,alq] at hlen;refine⟨0,hlen.symm,by omega,?_⟩;obtain⟨hu,_⟩:=(yc hT hd).slice rfl rfl;have h1':a.eval x=.slice none 0 0:=h1;simp[Builtin.len_,yl hu,h1',goInt]
 ·next ET e b f id hd=>
  obtain⟨hu,_⟩:=(yc hT hd).slice rfl rfl;simp only[ag] at hlen;split at hlen
  ·next kd lvl EE e' xs hl=>
   simp only[alq] at hlen;have hE:=hr.ents id _ hl;have:∃ a1 c1,loc id=.slice a1 xs.length c1/\xs.length<=140737488355328:=by
    cases kd with
    | imm t=>
     obtain⟨fp,⟨a1,n1,c,p1,p2,p3,p4,p5⟩,hf⟩:=hE;simp only[alQ,and_true] at p1;exact⟨a1,c,by rw[p1,p2],by omega⟩
    | lent=>
     obtain⟨fp,⟨a1,n1,c,p1,p2,p3,p4,p5⟩,hf⟩:=hE;simp only[alQ,and_true] at p1;exact⟨a1,c,by rw[p1,p2],by omega⟩
    | own u=>
     obtain⟨xb,fs,g1,g2,g3⟩:=hE;rcases g1 with⟨p1,p2,p3,p4⟩|⟨b,cap,arr,T',fr,p1,p2,p3,p4,p5,p6,p7,p8⟩
     ·simp only[alQ,and_true] at p2;exact⟨none,0,by rw[p2,p1]; rfl,by rw[p1]; simp⟩
     ·simp only[alQ,and_true] at p1;exact⟨_,cap,p1,by omega⟩
   obtain⟨a1,c1,q1,q2⟩:=this;refine⟨xs.length,hlen.symm,q2,?_⟩;simp[Builtin.len_,yl hu,h1.1,q1,goInt]
  ·cases hlen
 ·cases hlt
theorem fY {f:Value->Value->Sem Value} {g:Int->Int->Int} (h:∀ x y,f (.int .i64 x) (.int .i64 y)=pure (.int .i64 (g x y))) (w:World):∀ (ys:List Int) (x:Int),
  ((ys.map λ y=>Value.int .i64 y).foldlM f (.int .i64 x)).run P w=.ok (.int .i64 (ys.foldl g x)) w
 | [],x=>by simp
 | y::ys,x=>by
  simp only[alG,List.foldlM_cons,h,pure_bind,ama];exact fY h w ys (g x y)
theorem nN {x y:Int} (h1:Bnd .i64 x) (h2:Bnd .i64 y):Bnd .i64 (mx x y):=by rw[eI]; split<;>assumption
theorem Ux {x y:Int} (h1:Bnd .i64 x) (h2:Bnd .i64 y):Bnd .i64 (mn x y):=by rw[nM]; split<;>assumption
theorem aaL [Tags] {c:Call} (hc:o.op=.call c) (hb:c.callee=.builtin .max) {x y:Operand} (hargs:c.args.toList=[x,y])
  {m n:Int} (hx:zy st x=some (.i m)) (hy:zy st y=some (.i n)) (hr:Rel0 B X A w0 γ loc st a w) (hk:k (st.put o.dst (.v (.one (.i (mx m n)))))=some r)
  (hn:yd B X A w0 k r o.dst.toList st next):o.wp P a w next Q:=by
 obtain⟨⟨h1,b1⟩,_⟩:=yF hr hx;obtain⟨⟨h2,b2⟩,_⟩:=yF hr hy;have e1:=Ka hargs;refine yz (x:=.v (.one (.i _))) (v:=.int .i64 (mx m n)) hn hr ?_ ⟨rfl,nN b1 b2⟩ trivial hk;have:=fY (P:=P) (f:=Builtin.max2) (g:=mx) (λ x y=>by rw[eI]; rfl) w [n] m
 simp only[execOp,hc,resolve,hb,e1,invoke,builtin,alC,alB,alA];simp only[amJ,alG,am8,h1,h2,Builtin.max_,anA] at this ⊢;rw[this]; rfl
theorem aaM [Tags] {c:Call} (hc:o.op=.call c) (hb:c.callee=.builtin .max) {x y z:Operand} (hargs:c.args.toList=[x,y,z])
  {m n l:Int} (hx:zy st x=some (.i m)) (hy:zy st y=some (.i n)) (hz:zy st z=some (.i l)) (hr:Rel0 B X A w0 γ loc st a w) (hk:k (st.put o.dst (.v (.one (.i (mx (mx m n) l)))))=some r)
  (hn:yd B X A w0 k r o.dst.toList st next):o.wp P a w next Q:=by
 obtain⟨⟨h1,b1⟩,_⟩:=yF hr hx;obtain⟨⟨h2,b2⟩,_⟩:=yF hr hy;obtain⟨⟨h3,b3⟩,_⟩:=yF hr hz;have e1:=Ka hargs;refine yz (x:=.v (.one (.i _))) (v:=.int .i64 (mx (mx m n) l)) hn hr ?_ ⟨rfl,nN (nN b1 b2) b3⟩ trivial hk;have:=fY (P:=P) (f:=Builtin.max2) (g:=mx) (λ x y=>by rw[eI]; rfl) w [n,l] m
 simp only[execOp,hc,resolve,hb,e1,invoke,builtin,alC,alB,alA];simp only[amJ,alG,am8,h1,h2,h3,Builtin.max_,anA] at this ⊢;rw[this]; rfl
theorem aaN [Tags] {c:Call} (hc:o.op=.call c) (hb:c.callee=.builtin .min) {x y:Operand} (hargs:c.args.toList=[x,y])
  {m n:Int} (hx:zy st x=some (.i m)) (hy:zy st y=some (.i n)) (hr:Rel0 B X A w0 γ loc st a w) (hk:k (st.put o.dst (.v (.one (.i (mn m n)))))=some r)
  (hn:yd B X A w0 k r o.dst.toList st next):o.wp P a w next Q:=by
 obtain⟨⟨h1,b1⟩,_⟩:=yF hr hx;obtain⟨⟨h2,b2⟩,_⟩:=yF hr hy;have e1:=Ka hargs;refine yz (x:=.v (.one (.i _))) (v:=.int .i64 (mn m n)) hn hr ?_ ⟨rfl,Ux b1 b2⟩ trivial hk;have:=fY (P:=P) (f:=Builtin.min2) (g:=mn) (λ x y=>by rw[nM]; rfl) w [n] m
 simp only[execOp,hc,resolve,hb,e1,invoke,builtin,alC,alB,alA];simp only[amJ,alG,am8,h1,h2,Builtin.min_,anA] at this ⊢;rw[this]; rfl
def ArgsOk [Tags] (w:World):(ps:List (PK×Ty))->z7 ps->List Value->(r rp rc xo xp:List Nat)->Prop
 | [],_,vals,r,rp,rc,xo,xp=>vals=[]/\r=[]/\rp=[]/\rc=[]/\xo=[]/\xp=[]
 | (.rd,t)::ps,v,vals,r,rp,rc,xo,xp=>∃ cs vs fp r',vals=yp t cs::vs/\Rd w t v.1 cs fp/\r=fp++r'/\ArgsOk w ps v.2 vs r' rp rc xo xp
 | (.own,t)::ps,v,vals,r,rp,rc,xo,xp=>∃ cs vs xs fs r' xo',vals=yp t cs::vs/\RdO w t v.1 cs xs fs/\r=fs++r'/\xo=xs++xo'/\ArgsOk w ps v.2 vs r' rp rc xo' xp
 | (.ptr,t)::ps,v,vals,r,rp,rc,xo,xp=>∃ b vs arr T fr fp rp' xp',vals=.pointer (some ⟨b,0,none⟩)::vs/\w.heap[b]?=some (.cells arr T fr)/\frees fr arr.size/\
   Rd w t v.1 arr.toList fp/\rp=fp++rp'/\xp=b::xp'/\ArgsOk w ps v.2 vs r rp' rc xo xp'
 | (.cap,t)::ps,v,vals,r,rp,rc,xo,xp=>∃ b vs arr T fr fp r' rc',vals=.pointer (some ⟨b,0,none⟩)::vs/\w.heap[b]?=some (.cells arr T fr)/\
   Rd w t v.1 arr.toList fp/\r=fp++r'/\rc=b::rc'/\ArgsOk w ps v.2 vs r' rp rc' xo xp
 | (.clo f,t)::ps,v,vals,r,rp,rc,xo,xp=>∃ b vs arr T fr fp r' rc',vals=.func (.func f) #[] #[.pointer (some ⟨b,0,none⟩)]::vs/\w.heap[b]?=some (.cells arr T fr)/\
   Rd w t v.1 arr.toList fp/\r=fp++r'/\rc=b::rc'/\ArgsOk w ps v.2 vs r' rp rc' xo xp
theorem RdO.unfr [Tags] {w:World}:∀ {t:Ty} {v:den t} {cs xs fs},RdO w t v cs xs fs->∀ b∈xs,Unfr w b
 | .i64,_,_,_,_,h=>by simp[h.2.1]
 | .u8,_,_,_,_,h=>by simp[h.2.1]
 | .bool,_,_,_,_,h=>by simp[h.2.1]
 | .str,_,_,_,_,h=>by simp[h.2.1]
 | .sl E e,v,cs,xs,fs,h=>by
  rcases h with⟨h1,h2,h3,h4⟩|⟨b,cap,arr,T,fr,h1,h2,h3,h4,h5,h6,h7,h8,h9⟩
  ·simp[h3]
  ·intro c hc;rw[h8] at hc;simp only[amA] at hc;subst hc;exact Unfr.of h2 h3
 | .pair a b,v,cs,xs,fs,h=>by
  obtain⟨c1,c2,x1,x2,f1,f2,h1,h2,h3,h4,h5⟩:=h;intro c hc;rw[h2] at hc;rcases List.mem_append.1 hc with hc|hc
  ·exact h4.unfr c hc
  ·exact h5.unfr c hc
theorem ArgsOk.unfr [Tags] {w:World}:∀ {ps:List (PK×Ty)} {v:z7 ps} {vals:List Value} {r rp rc xo xp:List Nat},ArgsOk w ps v vals r rp rc xo xp->∀ b∈xo++xp,Unfr w b
 | [],_,_,_,_,_,_,_,h=>by obtain⟨_,_,_,_,rfl,rfl⟩:=h; simp
 | (.rd,t)::ps,v,_,_,_,_,_,_,h=>by obtain⟨cs,vs,fp,r',_,_,_,h'⟩:=h; exact h'.unfr
 | (.own,t)::ps,v,_,_,_,_,_,_,h=>by
  obtain⟨cs,vs,xs,fs,r',xo',_,h2,_,rfl,h'⟩:=h;intro b hb;simp only[alK] at hb;rcases hb with (hb|hb)|hb
  ·exact h2.unfr b hb
  ·exact h'.unfr b (by simp[hb])
  ·exact h'.unfr b (by simp[hb])
 | (.ptr,t)::ps,v,_,_,_,_,_,_,h=>by
  obtain⟨c,vs,arr,T,fr,fp,rp',xp',_,h2,h3,_,_,rfl,h'⟩:=h;intro b hb;simp only[alK,alH] at hb;rcases hb with hb|rfl|hb
  ·exact h'.unfr b (by simp[hb])
  ·exact Unfr.of h2 h3
  ·exact h'.unfr b (by simp[hb])
 | (.cap,t)::ps,v,_,_,_,_,_,_,h=>by obtain⟨c,vs,arr,T,fr,fp,r',rc',_,_,_,_,_,h'⟩:=h; exact h'.unfr
 | (.clo f,t)::ps,v,_,_,_,_,_,_,h=>by obtain⟨c,vs,arr,T,fr,fp,r',rc',_,_,_,_,_,h'⟩:=h; exact h'.unfr
def tv [Tags] (w:World) (rk:RK) (t:Ty) (v:den t) (cs:List Value) (xs fs:List Nat):Prop:=
 match rk with
 | .shared=>xs=[]/\Rd w t v cs fs
 | _=>RdO w t v cs xs fs
def RetL [Tags] (w:World) (rk:RK):(ts:List Ty)->dens ts->List (List Value)->(xs fs:List Nat)->Prop
 | [],_,css,xs,fs=>css=[]/\xs=[]/\fs=[]
 | t::ts,v,css,xs,fs=>∃ cs css' x1 x2 f1 f2,css=cs::css'/\xs=x1++x2/\fs=f1++f2/\tv w rk t v.1 cs x1 f1/\RetL w rk ts v.2 css' x2 f2
def Zy:List Ty->List (List Value)->List Value
 | t::ts,cs::css=>yp t cs::Zy ts css
 | _,_=>[]
def Z9 (vs:List Value):Value:=match vs with|[v]=>v|_=>.tuple vs.toArray
def From (n:Nat) (rr xo:List Nat) (b:Nat):Prop:=n<=b∨b∈rr∨b∈xo
def Pp (rk:RK) (n:Nat) (rr xo pt xs fs:List Nat):Prop:=
 match rk with
 | .uniq=>(xs++fs).Nodup/\∀ b∈xs++fs,(n<=b∨b∈xo)/\b∉pt
 | .own=>xs.Nodup/\(∀ b∈xs,(n<=b∨b∈xo)/\b∉pt)/\(∀ b∈xs,b∉fs)/\(∀ b∈fs,From n rr xo b)
 | .shared=>∀ b∈fs,From n rr xo b
def J8 [Tags] (w:World) (n:Nat) (rk:RK) (rr xo pt:List Nat) (rets:List Ty) (v:Value) (outs:dens rets):Prop:=
 ∃ css xs fs,RetL w rk rets outs css xs fs/\v=Z9 (Zy rets css)/\Pp rk n rr xo pt xs fs/\(rk=.uniq->∀ b∈fs,Unfr w b)
def MZ:(t:Ty)->den t->List Value->List Value->Prop
 | .i64,n,cs,cs'=>cs.length=1/\cs'=[.int .i64 n]/\Bnd .i64 n
 | .u8,n,cs,cs'=>cs.length=1/\cs'=[.int .u8 (n.toNat:Int)]
 | .bool,n,cs,cs'=>cs.length=1/\cs'=[.bool n]
 | .str,n,cs,cs'=>cs.length=1/\cs'=[.string ⟨⟨n⟩⟩]/\Bnd .str n
 | .sl _ _,_,cs,cs'=>cs.length=1/\cs'=cs
 | .pair a b,v,cs,cs'=>∃ c1 c2 d1 d2,cs=c1++c2/\cs'=d1++d2/\MZ a v.1 c1 d1/\MZ b v.2 c2 d2
def OutOk [Tags] (w0 w:World) (n:Nat) (rk:RK) (rr xo pt:List Nat) (rets:List Ty) (v:Value):(ps:List (PK×Ty))->zR ps rets->List Nat->Prop
 | [],outs,xp=>xp=[]/\J8 w n rk rr xo pt rets v outs
 | (.ptr,t)::ps,outs,xp=>∃ b xp' arr0 T0 fr0 arr T fr,xp=b::xp'/\w0.heap[b]?=some (.cells arr0 T0 fr0)/\w.heap[b]?=some (.cells arr T fr)/\frees fr arr.size/\MZ t outs.1 arr0.toList arr.toList/\
   OutOk w0 w n rk rr xo pt rets v ps outs.2 xp'
 | (.rd,_)::ps,outs,xp=>OutOk w0 w n rk rr xo pt rets v ps outs xp
 | (.own,_)::ps,outs,xp=>OutOk w0 w n rk rr xo pt rets v ps outs xp
 | (.cap,_)::ps,outs,xp=>OutOk w0 w n rk rr xo pt rets v ps outs xp
 | (.clo _,_)::ps,outs,xp=>OutOk w0 w n rk rr xo pt rets v ps outs xp
def CallsTo (P:Program) (f:FuncId) (args:Array Value) (w:World) (R:Value->World->Prop):Prop:=
 match (callFunc f args).run P w with
 | .ok (.value v) w'=>R v w'
 | .ok (.enter g as) w'=>Calls P g as w' λ e w''=>match e with | .returned v=>R v w''|_=>False
 | .ok (.row row as) w'=>Rows P row as w' R
 | _=>False
structure Sound [Tags] (P:Program) (gl:Glob) (f:FuncId) (pf:PF):Prop where
 run:∀ (w:World) (args:z7 pf.params) (vals:List Value) (r rp rc xo xp:List Nat) (outs:zR pf.params pf.rets),ArgsOk w pf.params args vals r rp rc xo xp->
  (xo++xp).Nodup->(∀ b∈xo++xp,b∉r/\b∉rp/\b∉rc)->gl.G w->(∀ b∈gl.gb,b<w.heap.size/\b∉xo++xp)->pf.fn args=some outs->
  CallsTo P f vals.toArray w λ v w'=>KeepsW w.heap.size (xo++xp) w w'/\∃ pt,OutOk w w' w.heap.size pf.rk (r++rp++rc) xo pt pf.rets v pf.params outs xp
def M2 (b:Bool):List Ty->List (List Value)->Prop
 | [t],[cs]=>yp t cs=.bool b
 | t::u::ts,cs::css=>cs.length=t.size/\(∀ c∈cs,c.oneCell'=true)/\M2 b (u::ts) css
 | _,_=>False
structure KT [Tags] (P:Program) (gl:Glob) (f:FuncId) (pf:PF):Prop where
 run:∀ (w:World) (args:z7 pf.params) (vals:List Value) (r rp rc xo xp:List Nat) (outs:zR pf.params pf.rets),ArgsOk w pf.params args vals r rp rc xo xp->
  (xo++xp).Nodup->(∀ b∈xo++xp,b∉r/\b∉rp/\b∉rc)->gl.G w->(∀ b∈gl.gb,b<w.heap.size/\b∉xo++xp)->pf.fn args=some outs->
  CallsTo P f vals.toArray w λ v w'=>KeepsW w.heap.size [] w w'/\∃ css b,v=Z9 (Zy pf.rets css)/\M2 b pf.rets css/\ZQ pf.rets (j0 pf.rets pf.params outs)=some b/\
   (b=true->∃ pt,OutOk w w' w.heap.size pf.rk (r++rp++rc) xo pt pf.rets v pf.params outs xp)
structure KU [Tags] (P:Program) (gl:Glob) (f:FuncId) (pf:PF):Prop where
 run:∀ (w:World) (args:z7 pf.params) (vals:List Value) (r xo:List Nat) (outs:zR pf.params pf.rets),ArgsOk w pf.params args vals r [] [] xo []->
  xo.Nodup->r.Nodup->(∀ b∈xo,b∉r)->gl.G w->(∀ b∈gl.gb,b<w.heap.size/\b∉xo)->pf.fn args=some outs->
  CallsTo P f vals.toArray w λ v w'=>KeepsW w.heap.size xo w w'/\∃ css xs fs,RetL w' .uniq pf.rets (j0 pf.rets pf.params outs) css xs fs/\v=Z9 (Zy pf.rets css)/\
   (xs++fs).Nodup/\(∀ b∈xs,w.heap.size<=b∨b∈xo)/\∀ b∈fs,b∈r
structure KV [Tags] (P:Program) (gl:Glob) (f:FuncId) (nf:NF):Prop where
 run:∀ (w:World) (args:z7 nf.params) (vals:List Value) (r:List Nat) (v:den nf.ret),ArgsOk w nf.params args vals r [] [] [] []->
  gl.G w->(∀ b∈gl.gb,b<w.heap.size)->nf.fn args=some v->
  CallsTo P f vals.toArray w λ u w'=>KeepsW w.heap.size [] w w'/\∃ b arr T fr fs,u=.pointer (some ⟨b,0,none⟩)/\w.heap.size<=b/\w'.heap[b]?=some (.cells arr T fr)/\frees fr arr.size/\
   Rd w' nf.ret v arr.toList fs/\∀ c∈fs,c≠b/\(w.heap.size<=c∨c∈r)
structure cI [Tags] (P:Program) (gl:Glob) (f:FuncId) (mf:MF):Prop where
 run:∀ (w:World) (v:den mf.ty) (n:Int) (cs:List Value) (fp:List Nat) (r:den mf.ty×Int×Unit),Rd w mf.ty v cs fp->Bnd .i64 n->fp.Nodup->(∀ b∈fp,Unfr w b)->gl.G w->
  (∀ b∈gl.gb,b<w.heap.size/\b∉fp)->mf.fn (v,n,())=some r->
  CallsTo P f #[yp mf.ty cs,.int .i64 n] w λ u w'=>KeepsW w.heap.size fp w w'/\u=.int .i64 r.2.1/\Bnd .i64 r.2.1/\∃ fp',Rd w' mf.ty r.1 cs fp'/\fp'.Nodup/\∀ b∈fp',(b∈fp∨w.heap.size<=b)/\Unfr w' b
theorem CallsTo.upon {P:Program} {o:Oper} {a:Act} {next:Act->World->Prop} {Q:Exit->Act->World->Prop} {f:FuncId} {args:Array Value} {w:World} {R:Value->World->Prop}
  (h:CallsTo P f args w R) (hn:∀ v w',R v w'->next (a.put o.dst v) w'):o.upon P a next Q ((callFunc f args).run P w):=by
 unfold CallsTo at h;split at h
 ·next v w' he=>rw[he]; exact hn _ _ h
 ·next g as w' he=>
  rw[he];rw[Oper.upon_enter];refine Calls.mono h ?_;intro e w'' hR;cases e with
  | returned v=>exact hn _ _ hR
  | panicked _=>exact hR.elim
  | outgrown=>exact hR.elim
 ·next row as w' he=>
  rw[he];rw[Oper.upon_row];exact Rows.mono h (λ v w' hR=>hn _ _ hR)
 ·exact h.elim
theorem fW {P:Program} {o:Oper} {a:Act} {w:World} {c:Call} (hc:o.op=.call c) {fo:Operand} (hf:c.callee=.value fo) {f:FuncId} {first caps:List Value}
  (hv:a.eval fo=.func (.func f) first.toArray caps.toArray):(execOp a.eval o).run P w=(callFunc f (first++c.args.toList.map a.eval++caps).toArray).run P w:=by
 simp only[execOp,hc,resolve,hf,hv,Deferred.ofValue,alC,alB,alA,invoke];congr 2;apply Array.ext';simp
theorem M7 {t:Ty} {x:AV} {v:Value} {ls:List Leaf} (h:M6 t x=some ls) (hv:AVOk loc x v):∃ cs,v=yp t cs/\All2 (LeafOk loc) ls cs:=by
 unfold M6 at h;split at h
 ·next l=>
  split at h
  ·next hp=>cases h; exact⟨[v],by simp[yp,hp],hv,trivial⟩
  ·cases h
 ·next ls'=>
  split at h
  ·next hp=>
   cases h;obtain⟨vs,e,ha⟩:=hv;exact⟨vs,by simp[yp,hp,e],ha⟩
  ·cases h
 ·cases h
theorem tV [Tags] (hr:Rel0 B X A w0 γ loc st a w) {id:Nat} {cells:List Leaf} (h:cellsOf st id=some cells):
  ∃ b arr T fr,loc id=.pointer (some ⟨b,0,none⟩)/\w.heap[b]?=some (.cells arr T fr)/\(γ b=.persist∨γ b=.top id)/\All2 (LeafOk loc) cells arr.toList:=by
 unfold cellsOf at h;split at h
 ·next lvl cs hl=>
  cases h;obtain⟨b,arr,T,fr,h1,h2,h3,h4,h5⟩:=hr.ents id _ hl;exact⟨b,arr,T,fr,h1,h2,.inr h4,h5⟩
 ·next cs hl=>
  cases h;obtain⟨b,arr,T,fr,h1,h2,h4,h5⟩:=hr.ents id _ hl;exact⟨b,arr,T,fr,h1,h2,.inl h4,h5⟩
 ·cases h
def cA (st:St) (i:Nat):Prop:=∃ lvl cells,look st.tab i=some (.box lvl cells)/\lvl=st.lvl
theorem KY [Tags] (hr:Rel0 B X A w0 γ loc st a w):∀ (ps:List (PK×Ty)) (xs:List AV) (g:Given ps) (vals:List Value) (oids:List Nat),zP st ps xs=some g->All2 (AVOk loc) xs vals->
  yk st g.ol=some oids->yr st g.pl=true->
  ∃ r rp rc xo xp,ArgsOk w ps g.vs vals r rp rc xo xp/\(∀ b∈r,γ b ≠ .alien/\∀ i,γ b=.top i->i∈zV g.rl)/\
   (yr st g.rl=true->∀ b∈r,γ b=.persist∨∃ i∈oids,γ b=.deep i)/\(∀ b∈rp,γ b=.persist)/\(∀ b∈rc,γ b=.persist∨∃ i∈g.cids,γ b=.top i)/\
   xo.Nodup/\(∀ b∈xo,∃ i∈oids,γ b=.top i)/\All2 (λ i b=>loc i=.pointer (some ⟨b,0,none⟩)/\γ b=.top i) g.pids xp/\(∀ i∈g.pids,cA st i)
 | [],[],g,vals,oids,h,ha,hg,hs=>by
  cases vals with
  | cons _ _=>exact ha.elim
  | nil=>
   simp only[zP,alq] at h;subst h;exact⟨[],[],[],[],[],⟨rfl,rfl,rfl,rfl,rfl,rfl⟩,by simp,by simp,by simp,by simp,by simp,by simp,trivial,by simp⟩
 | (.rd,t)::ps,x::xs,g,vals,oids,h,ha,hg,hs=>by
  match vals,ha with
  | v::vs,ha=>
   simp only[zP] at h;split at h
   ·next ls hls=>
    split at h
    ·next u g' hc acB=>
     cases h;obtain⟨cs,e1,e2⟩:=M7 hls ha.1;obtain⟨fp,q1,q2,q3⟩:=YF hr hc e2;obtain⟨r,rp,rc,xo,xp,k1,k2,k3,k4,k5,k6,k7,k8,k9⟩:=KY hr ps xs g' vs oids acB ha.2 hg hs;refine⟨fp++r,rp,rc,xo,xp,⟨cs,vs,fp,r,by rw[e1],q1,rfl,k1⟩,?_,?_,k4,k5,k6,k7,k8,k9⟩
     ·intro b hb;simp only[qj];rcases List.mem_append.1 hb with hb|hb
      ·exact⟨(q2 b hb).1,λ i hi=>List.mem_append_left _ ((q2 b hb).2 i hi)⟩
      ·exact⟨(k2 b hb).1,λ i hi=>List.mem_append_right _ ((k2 b hb).2 i hi)⟩
     ·intro hst b hb;have hst:=JA hst;rcases List.mem_append.1 hb with hb|hb
      ·exact .inl (q3 hst.1 b hb)
      ·exact k3 hst.2 b hb
    ·cases h
   ·cases h
 | (.own,t)::ps,x::xs,g,vals,oids,h,ha,hg,hs=>by
  match vals,ha with
  | v::vs,ha=>
   simp only[zP] at h;split at h
   ·next ls hls=>
    split at h
    ·next u g' hc acB=>
     cases h;obtain⟨cs,e1,e2⟩:=M7 hls ha.1;obtain⟨i1,i2,g1,g2,g3,g4⟩:=Jj hg;obtain⟨xb,fs,q1,q2,q3,q4,_⟩:=Na hr hc e2 g1;obtain⟨r,rp,rc,xo,xp,k1,k2,k3,k4,k5,k6,k7,k8,k9⟩:=KY hr ps xs g' vs i2 acB ha.2 g2 hs;subst g3;refine⟨fs++r,rp,rc,xb++xo,xp,⟨cs,vs,xb,fs,r,xo,by rw[e1],q1,rfl,rfl,k1⟩,?_,?_,k4,k5,?_,?_,k8,k9⟩
     ·intro b hb;rcases List.mem_append.1 hb with hb|hb
      ·rcases q4 b hb with h|⟨i,hi,h⟩<;>simp[h]
      ·exact k2 b hb
     ·intro hst b hb;rcases List.mem_append.1 hb with hb|hb
      ·rcases q4 b hb with h|⟨i,hi,h⟩
       ·exact .inl h
       ·exact .inr ⟨i,by simp[hi],h⟩
      ·rcases k3 hst b hb with h|⟨i,hi,h⟩
       ·exact .inl h
       ·exact .inr ⟨i,by simp[hi],h⟩
     ·refine ZG q2 k6 ?_;intro b hb hb';obtain⟨i,hi,e⟩:=q3 b hb;obtain⟨j,hj,e'⟩:=k7 b hb';rw[e] at e';cases e';exact g4 i hi hj
     ·intro b hb;rcases List.mem_append.1 hb with hb|hb
      ·obtain⟨i,hi,h⟩:=q3 b hb; exact⟨i,by simp[hi],h⟩
      ·obtain⟨i,hi,h⟩:=k7 b hb; exact⟨i,by simp[hi],h⟩
    ·cases h
   ·cases h
 | (.ptr,t)::ps,x::xs,g,vals,oids,h,ha,hg,hs=>by
  match vals,ha with
  | v::vs,ha=>
   simp only[zP] at h;split at h
   ·next id ha=>
    split at h
    ·next lvl cells hl=>
     split at h
     ·next u g' hlv hc acB=>
      cases h;obtain⟨b0,e1,e2⟩:=ha.1;obtain⟨b,arr,T,fr,h1,h2,h3,h4,h5⟩:=hr.ents id _ hl;rw[h1] at e1;simp only[Value.pointer.injEq,alq,Addr.mk.injEq,and_true] at e1;subst e1;have hs:=JA hs;obtain⟨fp,q1,q2,q3⟩:=YF hr hc h5;obtain⟨r,rp,rc,xo,xp,k1,k2,k3,k4,k5,k6,k7,k8,k9⟩:=KY hr ps xs g' vs oids acB ha.2 hg hs.2;refine⟨r,fp++rp,rc,xo,b::xp,⟨b,vs,arr,T,fr,fp,rp,xp,by rw[e2],h2,h3,q1,rfl,rfl,k1⟩,k2,k3,?_,k5,k6,k7,⟨⟨h1,h4⟩,k8⟩,?_⟩
      ·intro c hc';rcases List.mem_append.1 hc' with hc'|hc'
       ·exact q3 hs.1 c hc'
       ·exact k4 c hc'
      ·intro i hi;rcases List.mem_cons.1 hi with rfl|hi
       ·exact⟨lvl,cells,hl,(zQ _ _).1 hlv⟩
       ·exact k9 i hi
     ·cases h
    ·cases h
   ·cases h
 | (.cap,t)::ps,x::xs,g,vals,oids,h,ha,hg,hs=>by
  match vals,ha with
  | v::vs,ha=>
   simp only[zP] at h;split at h
   ·next id ha=>
    split at h
    ·next cells aef=>
     split at h
     ·next u g' hc acB=>
      cases h;obtain⟨b0,e1,e2⟩:=ha.1;obtain⟨b,arr,T,fr,h1,h2,h4,h5⟩:=tV hr aef;rw[h1] at e1;simp only[Value.pointer.injEq,alq,Addr.mk.injEq,and_true] at e1;subst e1;obtain⟨fp,q1,q2,q3⟩:=YF hr hc h5;obtain⟨r,rp,rc,xo,xp,k1,k2,k3,k4,k5,k6,k7,k8,k9⟩:=KY hr ps xs g' vs oids acB ha.2 hg hs;refine⟨fp++r,rp,b::rc,xo,xp,⟨b,vs,arr,T,fr,fp,r,rc,by rw[e2],h2,q1,rfl,rfl,k1⟩,?_,?_,k4,?_,k6,k7,k8,k9⟩
      ·intro b hb;simp only[qj];rcases List.mem_append.1 hb with hb|hb
       ·exact⟨(q2 b hb).1,λ i hi=>List.mem_append_left _ ((q2 b hb).2 i hi)⟩
       ·exact⟨(k2 b hb).1,λ i hi=>List.mem_append_right _ ((k2 b hb).2 i hi)⟩
      ·intro hst b hb;have hst:=JA hst;rcases List.mem_append.1 hb with hb|hb
       ·exact .inl (q3 hst.1 b hb)
       ·exact k3 hst.2 b hb
      ·intro c hc';rcases List.mem_cons.1 hc' with rfl|hc'
       ·rcases h4 with h4|h4
        ·exact .inl h4
        ·exact .inr ⟨id,by simp,h4⟩
       ·rcases k5 c hc' with h|⟨i,hi,h⟩
        ·exact .inl h
        ·exact .inr ⟨i,by simp[hi],h⟩
     ·cases h
    ·cases h
   ·cases h
 | (.clo f,t)::ps,x::xs,g,vals,oids,h,ha,hg,hs=>by
  match vals,ha with
  | v::vs,ha=>
   simp only[zP] at h;split at h
   ·next f' id ha=>
    split at h
    ·next cells aef=>
     split at h
     ·next u g' hff hc acB=>
      cases h;have ajn:=(zQ _ _).1 hff;subst ajn;have e2:=ha.1.1;simp only[alG,am8] at e2;obtain⟨b,arr,T,fr,h1,h2,h4,h5⟩:=tV hr aef;rw[h1] at e2;obtain⟨fp,q1,q2,q3⟩:=YF hr hc h5;obtain⟨r,rp,rc,xo,xp,k1,k2,k3,k4,k5,k6,k7,k8,k9⟩:=KY hr ps xs g' vs oids acB ha.2 hg hs;refine⟨fp++r,rp,b::rc,xo,xp,⟨b,vs,arr,T,fr,fp,r,rc,by rw[e2],h2,q1,rfl,rfl,k1⟩,?_,?_,k4,?_,k6,k7,k8,k9⟩
      ·intro b hb;simp only[qj];rcases List.mem_append.1 hb with hb|hb
       ·exact⟨(q2 b hb).1,λ i hi=>List.mem_append_left _ ((q2 b hb).2 i hi)⟩
       ·exact⟨(k2 b hb).1,λ i hi=>List.mem_append_right _ ((k2 b hb).2 i hi)⟩
      ·intro hst b hb;have hst:=JA hst;rcases List.mem_append.1 hb with hb|hb
       ·exact .inl (q3 hst.1 b hb)
       ·exact k3 hst.2 b hb
      ·intro c hc';rcases List.mem_cons.1 hc' with rfl|hc'
       ·rcases h4 with h4|h4
        ·exact .inl h4
        ·exact .inr ⟨id,by simp,h4⟩
       ·rcases k5 c hc' with h|⟨i,hi,h⟩
        ·exact .inl h
        ·exact .inr ⟨i,by simp[hi],h⟩
     ·cases h
    ·cases h
   ·cases h
 | [],_::_,g,vals,oids,h,ha,hg,hs=>by simp[zP] at h
 | (.rd,_)::_,[],g,vals,oids,h,ha,hg,hs=>by simp[zP] at h
 | (.own,_)::_,[],g,vals,oids,h,ha,hg,hs=>by simp[zP] at h
 | (.ptr,_)::_,[],g,vals,oids,h,ha,hg,hs=>by simp[zP] at h
 | (.cap,_)::_,[],g,vals,oids,h,ha,hg,hs=>by simp[zP] at h
 | (.clo _,_)::_,[],g,vals,oids,h,ha,hg,hs=>by simp[zP] at h
theorem Nc {a b:List Nat} (h:disj a b=true):∀ x∈a,x∉b:=by
 intro x hx hb;have:=List.all_eq_true.1 h x hx;simp[hb] at this
theorem eN:∀ {l:List Nat},aq l=true->l.Nodup
 | [],_=>List.nodup_nil
 | x::xs,h=>by
  simp only[aq,alp] at h;refine List.nodup_cons.2 ⟨?_,eN h.2⟩;intro hm;simp[hm] at h
theorem Bk:∀ {is bs:List Nat},All2 (λ i b=>loc i=.pointer (some ⟨b,0,none⟩)/\γ b=.top i) is bs->is.Nodup->bs.Nodup/\∀ b∈bs,∃ i∈is,γ b=.top i
 | [],[],_,_=>by simp
 | i::is,b::bs,h,hn=>by
  obtain⟨n1,n2⟩:=List.nodup_cons.1 hn;obtain⟨q1,q2⟩:=Bk h.2 n2;refine⟨List.nodup_cons.2 ⟨?_,q1⟩,?_⟩
  ·intro hm;obtain⟨j,hj,e⟩:=q2 b hm;rw[h.1.2] at e;cases e;exact n1 hj
  ·intro c hc;rcases List.mem_cons.1 hc with rfl|hc
   ·exact⟨i,by simp,h.1.2⟩
   ·obtain⟨j,hj,e⟩:=q2 c hc; exact⟨j,by simp[hj],e⟩
 | [],_::_,h,_=>h.elim
 | _::_,[],h,_=>h.elim
end Ev
