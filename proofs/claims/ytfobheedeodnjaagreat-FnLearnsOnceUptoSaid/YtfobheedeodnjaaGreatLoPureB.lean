/- Plain laws, part 2: what the functions compute. No program in sight. -/
import Derived.Test.YtfobheedeodnjaaGreatLoPureA
set_option linter.unusedSimpArgs false
set_option linter.unusedVariables false
namespace G448
open Ev Go
set_option maxRecDepth 100000
noncomputable def late (c:TConf) (r:TRep):TRep×Bool:=
 bif !repOk c r then (r,false) else bif decide (r.2.1≥60) then (r,false) else
 bif rootOf c (r.2.1+1)==r.1 then
  (bif !(tableAdd c r.2.2.2.2.2.1 (r.2.1+1,[],[r.1])).2 then (r,false) else (withTable (inView r (r.2.1+1)) (tableAdd c r.2.2.2.2.2.1 (r.2.1+1,[],[r.1])).1,true))
 else
  (bif !(tellOwn c (inView r (r.2.1+1)) (rootOf c (r.2.1+1)) (3,r.2.1+1,([],0,[],[]),(0,[],[]),r.2.2.2.1.2.2.1,r.1,0,0,0,0)).2 then (r,false) else
   ((tellOwn c (inView r (r.2.1+1)) (rootOf c (r.2.1+1)) (3,r.2.1+1,([],0,[],[]),(0,[],[]),r.2.2.2.1.2.2.1,r.1,0,0,0,0)).1,true))
theorem spec_Late_eq (c:TConf) (r:TRep) (hr:wRep r≤2000000):spec_Late (c,r,())=some ((late c r).1,(late c r).2,()):=by
 have ht:wPartS r.2.2.2.2.2.1≤2000000:=by simp only[wRep] at hr; omega
 have hq:wQc r.2.2.2.1.2.2.1≤2000000:=by simp only[wRep,wSafe] at hr; omega
 unfold spec_Late late
 dsimp only
 rw[spec_l15Copy_eq r (by omega),Option.bind_some,spec_RepOk_eq c r (by omega),Option.bind_some]
 cases hok:repOk c r
 ·rfl
 ·have hv:=repOk_view hok
  have hp:=wName (r.2.1+1) r.1 []
  have hm:=msg3_w r.2.2.2.1.2.2.1 (r.2.1+1) r.1
  simp only[Bool.not_true,cond_false,wr_id' (show -9223372036854775808≤r.2.1+1 by omega) (show r.2.1+1≤9223372036854775807 by omega),spec_Root_eq,Option.bind_some]
  cases decide (r.2.1≥60)
  ·simp only[cond_false]
   cases (rootOf c (r.2.1+1)==r.1)
   ·simp only[cond_false]
    show ((spec_l16Tell (c,inView r (r.2.1+1),rootOf c (r.2.1+1),(3,r.2.1+1,([],0,[],[]),(0,[],[]),r.2.2.2.1.2.2.1,r.1,0,0,0,0),())).bind _)=_
    rw[spec_l16Tell_eq c (inView r (r.2.1+1)) _ _ (repOk_conf hok) (by show wRep r≤_; omega) (by omega),Option.bind_some]
    cases (tellOwn c (inView r (r.2.1+1)) (rootOf c (r.2.1+1)) (3,r.2.1+1,([],0,[],[]),(0,[],[]),r.2.2.2.1.2.2.1,r.1,0,0,0,0)).2<;>rfl
   ·simp only[cond_true]
    rw[spec_TableAdd_eq c r.2.2.2.2.2.1 (r.2.1+1,[],[r.1]) (by omega) (by simp only[List.length_nil] at hp; omega),Option.bind_some]
    cases (tableAdd c r.2.2.2.2.2.1 (r.2.1+1,[],[r.1])).2<;>rfl
  ·rfl
end G448
namespace G448
open Ev Go
set_option maxRecDepth 100000
theorem pieces_sum (c:UInt8) : ∀ s:List UInt8,s.length+1=((pieces c s).map fun p=>p.length+1).sum
 | []=>by simp[pieces]
 | x::l=>by
  have ih:=pieces_sum c l
  simp only[pieces]
  split
  ·simp only[List.map_cons,List.sum_cons,List.length_nil,List.length_cons]; omega
  ·cases h:pieces c l with
   | nil=>exact absurd h (pieces_ne _ _)
   | cons p r=>
    rw[h] at ih
    simp only[glue,List.map_cons,List.sum_cons,List.length_append,List.length_cons,List.length_nil] at ih ⊢
    omega
theorem txOf_len {s:List UInt8} (h:(txOf s).2=true):s.length≤27:=by
 unfold txOf at h
 split at h
 ·next hh=>rw[←hh.2]; exact txText_len _
 ·cases h
theorem txsGo_sum : ∀ (ps:List (List UInt8)) (out:List TTx),(txsGo ps out).2=true→(txsGo ps out).1.length=out.length+ps.length∧(ps.map fun p=>p.length+1).sum≤28*ps.length
 | [],out,_=>by simp[txsGo]
 | p::ps,out,h=>by
  simp only[txsGo] at h ⊢
  split at h
  ·next hp=>
   have h1:=txOf_len hp
   obtain⟨h2,h3⟩:=txsGo_sum ps _ h
   rw[if_pos hp]
   simp only[List.length_append,List.length_cons,List.length_nil,List.map_cons,List.sum_cons] at h2 ⊢
   omega
  ·cases h
theorem txsOf_small {s:List UInt8} (h:(txsOf s).2=true):s.length≤28*(txsOf s).1.length:=by
 unfold txsOf at h ⊢
 split at h
 ·next e=>subst e; simp
 ·next e=>
  rw[if_neg e]
  obtain⟨h1,h2⟩:=txsGo_sum _ _ h
  have:=pieces_sum 44 s
  simp only[List.length_nil,Nat.zero_add] at h1
  omega
theorem number_len {s:List UInt8} (h:(number s).2=true):s.length≤6:=by
 unfold number at h
 split at h
 ·next hh=>exact hh.2.1
 ·cases h
theorem stepsGo_sum : ∀ (ps:List (List UInt8)) (prev:Int) (out:List TStep),(stepsGo ps prev out).2=true→(ps.map fun p=>p.length+1).sum≤64*ps.length
 | [],_,_,_=>by simp
 | p::ps,prev,out,h=>by
  simp only[stepsGo] at h
  cases hq:cutAt 124 p with
  | none=>rw[hq] at h; cases h
  | some q=>
   rw[hq] at h
   simp only at h
   split at h
   ·next hs=>
    unfold stepB at hs
    simp only[Bool.and_eq_true,decide_eq_true_eq] at hs
    obtain⟨a1,a2,-,-,a5⟩:=hs
    have b1:=number_len a1
    have b2:=txsOf_small a2
    obtain⟨q1,q2⟩:=q
    have b3:=(cutAt_len 124 hq).1
    have ih:=stepsGo_sum ps _ _ h
    simp only[List.map_cons,List.sum_cons,List.length_cons] at ih ⊢
    simp only at b1 b2 a5
    omega
   ·cases h
theorem nameOk_len {s:List UInt8} (h:nameOk s=true):s.length≤1920:=by
 unfold nameOk steps at h
 split at h
 ·next e=>subst e; simp
 ·have hs:=pieces_sum 47 s
  cases hp:pieces 47 s with
  | nil=>exact absurd hp (pieces_ne _ _)
  | cons p ps=>
   rw[hp] at h hs
   simp only at h
   split at h
   ·next hh=>
    obtain⟨rfl,h30⟩:=hh
    have:=stepsGo_sum ps _ _ h
    simp only[List.map_cons,List.sum_cons,List.length_nil] at hs
    omega
   ·cases h
theorem setGo_len (n:Int) : ∀ (l:List Int) (p:Int),setGo n (some p) l=true→p<n→(l.length:Int)≤n - 1 - p
 | [],p,_,hp=>by simp; omega
 | x::l,p,h,hp=>by
  simp only[setGo,Bool.and_eq_true,Bool.not_eq_true',decide_eq_false_iff_not] at h
  obtain⟨h1,h2,h3,h4⟩:=h
  have:=setGo_len n l x h4 (by omega)
  simp only[List.length_cons]
  omega
theorem setOk_len {n:Int} {l:List Int} (h:setOk n l=true) (hn:0≤n):(l.length:Int)≤n:=by
 unfold setOk at h
 cases l with
 | nil=>simpa using hn
 | cons x l=>
  simp only[setGo,Bool.and_eq_true,Bool.not_eq_true',decide_eq_false_iff_not] at h
  obtain⟨h1,h2,h3,h4⟩:=h
  have:=setGo_len n l x h4 (by omega)
  simp only[List.length_cons]
  omega
theorem setGo_mem (n:Int) : ∀ (l:List Int) (p:Option Int),setGo n p l=true → ∀ x∈l,0≤x∧x<n
 | [],_,_,x,hx=>by cases hx
 | y::l,p,h,x,hx=>by
  simp only[setGo,Bool.and_eq_true,Bool.not_eq_true',decide_eq_false_iff_not] at h
  obtain⟨h1,h2,h3,h4⟩:=h
  rcases List.mem_cons.1 hx with rfl|hx
  ·omega
  ·exact setGo_mem n l _ h4 x hx
theorem setOk_mem {n:Int} {l:List Int} (h:setOk n l=true) : ∀ x∈l,0≤x∧x<n:=setGo_mem n l none h
theorem qcOk_w {c:TConf} {q:TQc} (h:qcOk c q=true):wQc q≤1927:=by
 unfold qcOk at h
 simp only[Bool.and_eq_true] at h
 obtain⟨h1,h2,h3,h4⟩:=h
 have hc:=confOk_b h1
 have hn:=nameOk_len h2
 simp only[wQc,wIntS]
 cases he:(q.2.1==([]:List UInt8))<;>rw[he] at h4
 ·simp only[cond_false,Bool.and_eq_true] at h4
  have:=setOk_len h4.1 (by omega)
  omega
 ·simp only[cond_true,beq_iff_eq] at h4
  omega
theorem partOk_w {c:TConf} {p:TPart} (h:partOk c p=true):wPart p≤1927:=by
 unfold partOk at h
 simp only[Bool.and_eq_true,Bool.or_eq_true] at h
 obtain⟨h1,h2,h3,h4,h5⟩:=h
 have hc:=confOk_b h1
 have:=setOk_len h3 (by omega)
 simp only[wPart,wIntS]
 rcases h5 with h5|h5
 ·simp only[beq_iff_eq] at h5
  rw[h5]
  simp only[List.length_nil]
  omega
 ·have hn:=nameOk_len h5.1
  omega
theorem blockOk_w {c:TConf} {b:TBlock} (h:blockOk c b=true):wBlock b≤3847:=by
 unfold blockOk at h
 simp only[Bool.and_eq_true] at h
 have h1:=qcOk_w h.1
 have h2:=nameOk_len h.2.1
 simp only[wBlock]
 omega
theorem qcSame_eq {a b:TQc} (h:qcSame a b=true):a=b:=by
 unfold qcSame at h
 simp only[Bool.and_eq_true,beq_iff_eq,decide_eq_true_eq] at h
 obtain⟨a1,a2,a3⟩:=a
 obtain⟨b1,b2,b3⟩:=b
 simp only at h
 simp[h.1,h.2.1,h.2.2]
theorem qcSame_self (a:TQc):qcSame a a=true:=by
 unfold qcSame
 simp
theorem msgSame_eq {a b:TMsg} (h:msgSame a b=true):a=b:=by
 unfold msgSame blockSame txSame at h
 simp only[Bool.and_eq_true,beq_iff_eq] at h
 obtain⟨a1,a2,⟨a3,a3'⟩,a4,a5,a6,a7⟩:=a
 obtain⟨b1,b2,⟨b3,b3'⟩,b4,b5,b6,b7⟩:=b
 simp only at h
 obtain⟨h1,h2,⟨h3,h3'⟩,h4,h5,h6,h7⟩:=h
 have e1:=qcSame_eq h3'
 have e2:a4=b4:=qcSame_eq h4
 have e3:=qcSame_eq h5
 subst h1 h2 h3 e1 e2 e3 h6
 obtain⟨x1,x2,x3,x4⟩:=a7
 obtain⟨y1,y2,y3,y4⟩:=b7
 simp only at h7
 obtain⟨k1,k2,k3,k4,-⟩:=h7
 subst k1 k2 k3 k4
 rfl
theorem msgOk_w {c:TConf} {m:TMsg} (h:msgOk c m=true):wMsg m≤3847:=by
 unfold msgOk at h
 simp only[Bool.and_eq_true] at h
 obtain⟨h1,h2,h3⟩:=h
 have e:=msgSame_eq h2
 rw[←e]
 unfold canon
 cases k1:(m.1==1)
 ·cases k2:(m.1==2)
  ·cases k3:(m.1==3)
   ·cases k4:(m.1==4)
    ·simp[wMsg,wBlock,wQc,wPart,wIntS]
    ·simp[wMsg,wBlock,wQc,wPart,wIntS]
   ·rw[k1,k2,k3] at h3
    simp only[cond_false,cond_true,Bool.and_eq_true] at h3
    have:=qcOk_w h3.2.1
    simp only[cond_false,cond_true,wMsg,wBlock,wPart,wIntS,List.length_nil]
    simp only[wQc,wIntS,List.length_nil] at this ⊢
    omega
  ·rw[k1,k2] at h3
   simp only[cond_false,cond_true,Bool.and_eq_true] at h3
   have:=partOk_w h3.1
   simp only[cond_false,cond_true,wMsg,wBlock,wQc,wIntS,List.length_nil]
   simp only[wPart,wIntS] at this ⊢
   omega
 ·rw[k1] at h3
  simp only[cond_true] at h3
  have:=blockOk_w h3
  simp only[cond_true,wMsg,wQc,wPart,wIntS,List.length_nil]
  simp only[wBlock,wQc,wIntS] at this ⊢
  omega
theorem safeOk_w {c:TConf} {s:TSafe} (h:safeOk c s=true):wSafe s≤3847:=by
 unfold safeOk at h
 simp only[Bool.and_eq_true] at h
 have h1:=qcOk_w h.2.2.1
 have h2:=nameOk_len h.2.2.2
 simp only[wSafe]
 omega
theorem sum_bnd {α:Type} (f:α→Nat) (k:Nat) : ∀ (l:List α),(∀ x∈l,f x≤k)→(l.map f).sum≤k*l.length
 | [],_=>by simp
 | x::l,h=>by
  have h1:=h x (by simp)
  have h2:=sum_bnd f k l fun y hy=>h y (by simp[hy])
  simp only[List.map_cons,List.sum_cons,List.length_cons,Nat.mul_add,Nat.mul_one]
  omega
theorem chainB_mem {α:Type} {ok:α→Bool} {lt:α→α→Bool} : ∀ {l:List α} {p:Option α},chainB ok lt p l=true → ∀ x∈l,ok x=true
 | [],_,_,x,hx=>by cases hx
 | y::l,p,h,x,hx=>by
  simp only[chainB,Bool.and_eq_true] at h
  rcases List.mem_cons.1 hx with rfl|hx
  ·exact h.1
  ·exact chainB_mem h.2.2 x hx
theorem tableOk_w {c:TConf} {l:TPartS} (h:tableOk c l=true):wPartS l≤38560:=by
 unfold tableOk at h
 simp only[Bool.and_eq_true,decide_eq_true_eq] at h
 have h1:=sum_bnd wPart 1927 l fun x hx=>partOk_w (chainB_mem h.1 x hx)
 simp only[wPartS]
 omega
theorem repOk_parts {c:TConf} {r:TRep} (h:repOk c r=true):confOk c=true∧(0≤r.1∧r.1≤c.1 - 1)∧(1≤r.2.1∧r.2.1≤60)∧(0≤r.2.2.1∧r.2.2.1≤60)∧safeOk c r.2.2.2.1=true∧poolOk r.2.2.2.2.1=true ∧
  tableOk c r.2.2.2.2.2.1=true∧diskOk r.2.2.2.2.2.2.1=true∧r.2.2.2.2.2.2.2.length≤30 ∧ ∀ x∈r.2.2.2.2.2.2.2,heldOk c r.1 x=true:=by
 unfold repOk at h
 simp only[Bool.and_eq_true,decide_eq_true_eq,List.all_eq_true] at h
 obtain⟨h1,h2,h3,h4,h5,h6,h7,h8,h9,h10⟩:=h
 exact⟨h1,h2,h3,h4,h5,h6,h7,h8,by omega,h10⟩
theorem repOk_w {c:TConf} {r:TRep} (h:repOk c r=true):wRep r≤260000:=by
 obtain⟨h1,h2,h3,h4,h5,h6,h7,h8,h9,h10⟩:=repOk_parts h
 have a5:=safeOk_w h5
 have a7:=tableOk_w h7
 unfold poolOk at h6
 unfold diskOk at h8
 simp only[Bool.and_eq_true,decide_eq_true_eq] at h6 h8
 have a10:=sum_bnd wPost 3847 r.2.2.2.2.2.2.2 fun x hx=>by
  have:=h10 x hx
  unfold heldOk at this
  simp only[Bool.and_eq_true] at this
  exact msgOk_w this.1
 simp only[wRep,wTxS,wDisk,wPostS]
 omega
end G448
namespace G448
open Ev Go
set_option maxRecDepth 100000
theorem nameOk_nil:nameOk []=true:=by unfold nameOk steps; simp
theorem nameOf_ok (up:List UInt8) (view:Int) (list:TTxS):nameOk (nameOf up view list)=true:=by
 unfold nameOf
 cases h:(list.all txOk && nameOk (nameStr up view list))
 ·exact nameOk_nil
 ·simp only[Bool.and_eq_true] at h
  exact h.2
theorem viewOf_nil:viewOf []=0:=by unfold viewOf steps; simp
theorem viewOf_b {s:List UInt8} (h:nameOk s=true):0≤viewOf s∧viewOf s≤60:=by
 by_cases e:s=[]
 ·subst e; rw[viewOf_nil]; omega
 ·have:=name_view h e; omega
theorem l2DrawRight_ens (c:TCur) (hc:CurOk c):Ens (spec_l2DrawRight (c,())) fun r=>0≤r.1.2.1∧txOk r.2.1=true:=by
 unfold spec_l2DrawRight
 refine (l1Below_ens c 4 hc).bind fun r0 h0 => ?_
 refine (l1Below_ens (c.1,r0.1.2) 4 ⟨hc.1,h0.1⟩).bind fun r1 h1 => ?_
 refine (l1PickInt_ens (c.1,r1.1.2) _ ⟨hc.1,h1.1⟩ (by simp)).bind fun r2 h2 => ?_
 refine (l1Below_ens (c.1,r2.1.2) 3 ⟨hc.1,h2.1⟩).bind fun r3 h3 => ?_
 refine Ens.some ⟨h3.1,?_⟩
 have a0:=h0.2.2 (by decide)
 have a1:=h1.2.2 (by decide)
 have a3:=h3.2.2 (by decide)
 have a2:=h2.2
 simp only[List.mem_cons,List.not_mem_nil,or_false] at a2
 rw[txOk_iff]
 dsimp only
 omega
theorem l2Draw_ens (c:TCur) (hc:CurOk c):Ens (spec_l2Draw (c,())) fun r=>0≤r.1.2.1:=by
 unfold spec_l2Draw
 refine (l2DrawRight_ens c hc).bind fun r0 h0 => ?_
 refine (l1Below_ens (c.1,r0.1.2) 12 ⟨hc.1,h0.1⟩).bind fun r1 h1 => ?_
 refine Ens.cond (fun _ => ?_) fun _ => ?_
 ·exact (l1PickInt_ens (c.1,r1.1.2) _ ⟨hc.1,h1.1⟩ (by simp)).bind fun r2 h2=>Ens.some h2.1
 refine Ens.cond (fun _ => ?_) fun _ => ?_
 ·exact (l1PickInt_ens (c.1,r1.1.2) _ ⟨hc.1,h1.1⟩ (by simp)).bind fun r2 h2=>Ens.some h2.1
 refine Ens.cond (fun _ => ?_) fun _ => ?_
 ·exact (l1PickInt_ens (c.1,r1.1.2) _ ⟨hc.1,h1.1⟩ (by simp)).bind fun r2 h2=>Ens.some h2.1
 refine Ens.cond (fun _ => ?_) fun _ => ?_
 ·exact (l1PickInt_ens (c.1,r1.1.2) _ ⟨hc.1,h1.1⟩ (by simp)).bind fun r2 h2=>Ens.some h2.1
 exact Ens.some h1.1
theorem tdiv3 {a:Int} (h0:0≤a) (h1:a<4):0≤Int.tdiv a 3∧Int.tdiv a 3≤1:=by
 rw[Int.tdiv_eq_ediv_of_nonneg h0]
 omega
theorem l5DrawRight_ens (c:TCur) (hc:CurOk c):Ens (spec_l5DrawRight (c,())) fun r=>0≤r.1.2.1∧nameOk r.2.1=true:=by
 unfold spec_l5DrawRight
 refine Ens.loop (fun x=>nameOk x.1=true∧(0≤x.2.1∧x.2.1≤2*x.2.2.1)∧(0≤x.2.2.1∧x.2.2.1≤5)∧0≤x.2.2.2.1.2.1) (fun x=>(6 - x.2.2.1).toNat) ?_ ⟨nameOk_nil,by simp,by simp,hc.2⟩ (by dsimp only; rw[fuel_def]; omega)
 intro rec x hx hrec
 obtain⟨x1,x2,x3,x4⟩:=hx
 refine (l1Below_ens (c.1,x.2.2.2.1.2) 6 ⟨hc.1,x4⟩).bind fun r1 h1 => ?_
 have a1:=h1.2.2 (by decide)
 refine Ens.cond (fun h => ?_) fun h=>Ens.some ⟨h1.1,x1⟩
 have h:x.2.2.1<r1.2.1:=by simpa using h
 refine (l1Below_ens (c.1,r1.1.2) 4 ⟨hc.1,h1.1⟩).bind fun r2 h2 => ?_
 have a2:=h2.2.2 (by decide)
 have b2:=tdiv3 h2.2.1 a2
 refine Ens.loop (fun y=>(0≤y.2.1∧y.2.1≤2)∧(y.1.length:Int)≤y.2.1∧0≤y.2.2.1.2.1) (fun y=>(3 - y.2.1).toNat) ?_ ⟨by simp,by simp,h2.1⟩ (by dsimp only; rw[fuel_def]; omega)
 intro rec3 y hy hrec3
 obtain⟨y1,y2,y3⟩:=hy
 refine (l1Below_ens (c.1,y.2.2.1.2) 3 ⟨hc.1,y3⟩).bind fun r4 h4 => ?_
 have a4:=h4.2.2 (by decide)
 refine Ens.cond (fun h' => ?_) fun h' => ?_
 ·have h':y.2.1<r4.2.1:=by simpa using h'
  refine (l2DrawRight_ens (c.1,r4.1.2) ⟨hc.1,h4.1⟩).bind fun r5 h5 => ?_
  refine Ens.ite (by simp only[List.length_cons,List.length_nil]; omega) ?_
  rw[wr_id' (n:=y.2.1+1) (by omega) (by omega)]
  exact hrec3 _ ⟨⟨by dsimp only; omega,by dsimp only; omega⟩,by simp only[List.length_append,List.length_cons,List.length_nil]; omega,h5.1⟩ (by dsimp only; omega)
 ·have e1:wr (x.2.1+1)=x.2.1+1:=wr_id' (by omega) (by omega)
  have e2:wr (Int.tdiv r2.2.1 3)=Int.tdiv r2.2.1 3:=wr_id' (by omega) (by omega)
  have e3:wr (x.2.1+1+Int.tdiv r2.2.1 3)=x.2.1+1+Int.tdiv r2.2.1 3:=wr_id' (by omega) (by omega)
  have hlen:=nameOk_len x1
  rw[e1,e2,e3,spec_NameOf_eq x.1 _ y.1 (by omega) (by omega) (by omega),Option.bind_some,wr_id' (n:=x.2.2.1+1) (by omega) (by omega)]
  exact hrec _ ⟨nameOf_ok _ _ _,⟨by dsimp only; omega,by dsimp only; omega⟩,⟨by dsimp only; omega,by dsimp only; omega⟩,h4.1⟩ (by dsimp only; omega)
theorem l6DrawSet_ens (c:TCur) (n:Int) (hc:CurOk c) (hn:0<n):Ens (spec_l6DrawSet (c,n,())) fun r=>0≤r.1.2.1∧r.2.1.length≤8:=by
 unfold spec_l6DrawSet
 refine Ens.loop (fun x=>(0≤x.2.1∧x.2.1≤7)∧(x.1.length:Int)≤x.2.1∧0≤x.2.2.1.2.1) (fun x=>(8 - x.2.1).toNat) ?_ ⟨by simp,by simp,hc.2⟩ (by dsimp only; rw[fuel_def]; omega)
 intro rec x hx hrec
 obtain⟨x1,x2,x3⟩:=hx
 refine (l1Below_ens (c.1,x.2.2.1.2) 8 ⟨hc.1,x3⟩).bind fun r1 h1 => ?_
 have a1:=h1.2.2 (by decide)
 refine Ens.cond (fun h => ?_) fun h => ?_
 ·have h:x.2.1<r1.2.1:=by simpa using h
  refine (l1Below_ens (c.1,r1.1.2) n ⟨hc.1,h1.1⟩).bind fun r2 h2 => ?_
  have hl:=setAdd_len x.1 r2.2.1
  rw[spec_SetAdd_eq x.1 _ (by omega),Option.bind_some,wr_id' (n:=x.2.1+1) (by omega) (by omega)]
  exact hrec _ ⟨⟨by dsimp only; omega,by dsimp only; omega⟩,by dsimp only; omega,h2.1⟩ (by dsimp only; omega)
 ·refine (l1Once_ens (c.1,r1.1.2) 12 ⟨hc.1,h1.1⟩).bind fun r4 h4 => ?_
  refine Ens.cond (fun _ => ?_) fun _=>Ens.some ⟨h4,by dsimp only; omega⟩
  refine (l1PickInt_ens (c.1,r4.1.2) _ ⟨hc.1,h4⟩ (by simp)).bind fun r5 h5 => ?_
  refine Ens.ite (by simp only[List.length_cons,List.length_nil]; omega) (Ens.some ⟨h5.1,?_⟩)
  simp only[List.length_append,List.length_cons,List.length_nil]
  omega
theorem l7DrawConf_ens (c:TCur) (hc:CurOk c):Ens (spec_l7DrawConf (c,())) fun r=>0≤r.1.2.1∧confOk r.2.1=true:=by
 unfold spec_l7DrawConf
 refine (l1Below_ens c 4 hc).bind fun r0 h0 => ?_
 refine (l1Below_ens (c.1,r0.1.2) 3 ⟨hc.1,h0.1⟩).bind fun r1 h1 => ?_
 have a0:=h0.2.2 (by decide)
 have a1:=h1.2.2 (by decide)
 refine Ens.some ⟨h1.1,?_⟩
 rw[wr_id' (n:=4+r0.2.1) (by omega) (by omega),wr_id' (n:=1+r1.2.1) (by omega) (by omega)]
 unfold confOk
 simp only[Bool.and_eq_true,decide_eq_true_eq]
 omega
end G448
namespace G448
open Ev Go
set_option maxRecDepth 100000
theorem l7DrawOf_ens (c:TCur) (conf:TConf) (name:List UInt8) (hc:CurOk c) (hN:conf.1≤8) (hn:nameOk name=true) :
  Ens (spec_l7DrawOf (c,conf,name,())) fun r=>0≤r.1.2.1∧r.2.1.1=viewOf name∧r.2.1.2.1=name∧r.2.1.2.2.length≤8:=by
 have hl:=nameOk_len hn
 unfold spec_l7DrawOf
 dsimp only
 rw[spec_ViewOf_eq name (by omega),Option.bind_some]
 refine Ens.cond (fun _=>Ens.some ⟨hc.2,rfl,rfl,by simp⟩) fun _ => ?_
 refine Ens.loop (fun x=>(0≤x.1∧x.1≤8)∧(x.2.1.2.2.length:Int)≤x.1∧x.2.1.1=viewOf name∧x.2.1.2.1=name) (fun x=>(9 - x.1).toNat) ?_ ⟨by simp,by simp,rfl,rfl⟩ (by dsimp only; rw[fuel_def]; omega)
 intro rec x hx hrec
 obtain⟨x1,x2,x3,x4⟩:=hx
 refine Ens.cond (fun h => ?_) fun h => ?_
 ·have h:x.1<conf.1:=by simpa using h
  refine Ens.ite (by simp only[List.length_cons,List.length_nil]; omega) ?_
  rw[wr_id' (n:=x.1+1) (by omega) (by omega)]
  exact hrec _ ⟨⟨by dsimp only; omega,by dsimp only; omega⟩,by simp only[List.length_append,List.length_cons,List.length_nil]; omega,x3,x4⟩ (by dsimp only; omega)
 ·refine (l1Once_ens c 2 hc).bind fun r2 h2 => ?_
  refine Ens.cond (fun _ => ?_) fun _=>Ens.some ⟨h2,x3,x4,by dsimp only; omega⟩
  refine Ens.cond (fun h0 => ?_) fun _=>Ens.some ⟨h2,x3,x4,by dsimp only; omega⟩
  have h0:(x.2.1.2.2.length:Int)>0:=by simpa using h0
  refine (l1Below_ens (c.1,r2.1.2) _ ⟨hc.1,h2⟩).bind fun r3 h3 => ?_
  have a3:=h3.2.2 h0
  have b3:=h3.2.1
  have e1:wr (r3.2.1+1)=r3.2.1+1:=wr_id' (by omega) (by omega)
  refine Ens.ite (by omega) ?_
  refine Ens.ite (by simp only[List.length_take,List.length_drop]; omega) ?_
  refine Ens.ite (by rw[e1]; omega) ?_
  refine Ens.ite (by simp only[List.length_append,List.length_take,List.length_drop,List.length_nil]; omega) ?_
  refine Ens.some ⟨h3.1,x3,x4,?_⟩
  rw[e1]
  simp only[List.length_append,List.length_take,List.length_drop,List.length_nil]
  omega
theorem qc_w {q:TQc} {name:List UInt8} (h1:q.2.1=name) (h2:q.2.2.length≤8) (hn:name.length≤1920):wQc q≤1928:=by
 simp only[wQc,wIntS,h1]; omega
theorem l8DrawRight_ens (c:TCur) (conf:TConf) (hc:CurOk c) (hN:conf.1≤8):Ens (spec_l8DrawRight (c,conf,())) fun r=>0≤r.1.2.1∧wBlock r.2.1≤4000:=by
 unfold spec_l8DrawRight
 refine (l5DrawRight_ens c hc).bind fun r0 h0 => ?_
 have hl:=nameOk_len h0.2
 have hv:=viewOf_b h0.2
 refine (l7DrawOf_ens (c.1,r0.1.2) conf r0.2.1 ⟨hc.1,h0.1⟩ hN h0.2).bind fun r1 h1 => ?_
 obtain⟨k1,k2,k3,k4⟩:=h1
 have hw:=qc_w k3 k4 hl
 refine Ens.loop (fun y=>(0≤y.2.1∧y.2.1≤2)∧(y.1.length:Int)≤y.2.1∧0≤y.2.2.1.2.1) (fun y=>(3 - y.2.1).toNat) ?_ ⟨by simp,by simp,k1⟩ (by dsimp only; rw[fuel_def]; omega)
 intro rec y hy hrec
 obtain⟨y1,y2,y3⟩:=hy
 refine (l1Below_ens (c.1,y.2.2.1.2) 3 ⟨hc.1,y3⟩).bind fun r3 h3 => ?_
 have a3:=h3.2.2 (by decide)
 refine Ens.cond (fun h' => ?_) fun h' => ?_
 ·have h':y.2.1<r3.2.1:=by simpa using h'
  refine (l2DrawRight_ens (c.1,r3.1.2) ⟨hc.1,h3.1⟩).bind fun r4 h4 => ?_
  refine Ens.ite (by simp only[List.length_cons,List.length_nil]; omega) ?_
  rw[wr_id' (n:=y.2.1+1) (by omega) (by omega)]
  exact hrec _ ⟨⟨by dsimp only; omega,by dsimp only; omega⟩,by simp only[List.length_append,List.length_cons,List.length_nil]; omega,h4.1⟩ (by dsimp only; omega)
 ·refine (l1Below_ens (c.1,r3.1.2) 4 ⟨hc.1,h3.1⟩).bind fun r5 h5 => ?_
  have a5:=h5.2.2 (by decide)
  have b5:=tdiv3 h5.2.1 a5
  have e1:wr (r1.2.1.1+1)=r1.2.1.1+1:=wr_id' (by omega) (by omega)
  have e2:wr (Int.tdiv r5.2.1 3)=Int.tdiv r5.2.1 3:=wr_id' (by omega) (by omega)
  have e3:wr (r1.2.1.1+1+Int.tdiv r5.2.1 3)=r1.2.1.1+1+Int.tdiv r5.2.1 3:=wr_id' (by omega) (by omega)
  have hb:=blockNew_w conf r1.2.1 (r1.2.1.1+1+Int.tdiv r5.2.1 3) y.1 (by omega)
  rw[e1,e2,e3,spec_BlockNew_eq conf r1.2.1 _ y.1 (by omega) (by omega) (by omega),Option.bind_some]
  exact Ens.some ⟨h5.1,by dsimp only; omega⟩
theorem part_loop {G:(Int×TCur×TPart×Unit→Option (TCur×TPart×Unit))→Int×TCur×TPart×Unit→Option (TCur×TPart×Unit)} (b:List UInt8) (n:Int) (hb:b.length≤big) (nm:List UInt8) (p:TPart) (i h:Int) (hi:0≤i) (hp:p.2.1=nm) (hp2:p.2.2=[])
  (hG : ∀ rec x,G rec x=(spec_l1Below ((b,x.2.1.2),7,())).bind fun r5=>bif decide (x.1<wr (1+r5.2.1)) then (spec_l1Max (n,4,())).bind fun r6=>(spec_l1Below ((b,r5.1.2),r6.1,())).bind fun r7=>(spec_SetAdd (x.2.2.1.2.2,r7.2.1,())).bind fun r8=>rec (wr (x.1+1),(b,r7.1.2),(x.2.2.1.1,x.2.2.1.2.1,r8.1),()) else some ((b,r5.1.2),x.2.2.1,())) :
  Ens (iter G fuel (0,(b,i,h),p,())) fun r=>0≤r.1.2.1∧r.2.1.2.1=nm∧r.2.1.2.2.length≤7:=by
 refine Ens.loop (fun x=>(0≤x.1∧x.1≤7)∧0≤x.2.1.2.1∧x.2.2.1.2.1=nm∧(x.2.2.1.2.2.length:Int)≤x.1) (fun x=>(8 - x.1).toNat) ?_ ⟨by simp,hi,hp,by simp[hp2]⟩ (by dsimp only; rw[fuel_def]; omega)
 intro rec x hx hrec
 obtain⟨x1,x2,x3,x4⟩:=hx
 rw[hG]
 refine (l1Below_ens (b,x.2.1.2) 7 ⟨hb,x2⟩).bind fun r5 h5 => ?_
 have a5:=h5.2.2 (by decide)
 have b5:=h5.2.1
 rw[wr_id' (n:=1+r5.2.1) (by omega) (by omega)]
 refine Ens.cond (fun h => ?_) fun h=>Ens.some ⟨h5.1,x3,by dsimp only; omega⟩
 have h:x.1<1+r5.2.1:=by simpa using h
 rw[spec_max_eq,Option.bind_some]
 refine (l1Below_ens (b,r5.1.2) _ ⟨hb,h5.1⟩).bind fun r7 h7 => ?_
 have hl:=setAdd_len x.2.2.1.2.2 r7.2.1
 rw[spec_SetAdd_eq _ _ (by omega),Option.bind_some,wr_id' (n:=x.1+1) (by omega) (by omega)]
 exact hrec _ ⟨⟨by dsimp only; omega,by dsimp only; omega⟩,h7.1,x3,by dsimp only; omega⟩ (by dsimp only; omega)
theorem l10DrawRight_ens (c:TCur) (conf:TConf) (hc:CurOk c):Ens (spec_l10DrawRight (c,conf,())) fun r=>0≤r.1.2.1∧nameOk r.2.1.2.1=true∧r.2.1.2.2.length≤7:=by
 unfold spec_l10DrawRight
 refine (l5DrawRight_ens c hc).bind fun r0 h0 => ?_
 have hl:=nameOk_len h0.2
 dsimp only
 rw[spec_ViewOf_eq r0.2.1 (by omega),Option.bind_some]
 refine (l1Once_ens (c.1,r0.1.2) 4 ⟨hc.1,h0.1⟩).bind fun r2 h2 => ?_
 refine Ens.cond (fun _ => ?_) fun _ => ?_
 ·refine (l1Below_ens (c.1,r2.1.2) 4 ⟨hc.1,h2⟩).bind fun r3 h3 => ?_
  refine (part_loop c.1 conf.1 hc.1 [] _ r3.1.2.1 r3.1.2.2 h3.1 rfl rfl (fun _ _=>rfl)).mono fun r hr=>⟨hr.1,by rw[hr.2.1]; exact nameOk_nil,hr.2.2⟩
 ·refine Ens.cond (fun _ => ?_) fun _ => ?_
  ·refine (l1Below_ens (c.1,r2.1.2) 4 ⟨hc.1,h2⟩).bind fun r3 h3 => ?_
   refine (part_loop c.1 conf.1 hc.1 [] _ r3.1.2.1 r3.1.2.2 h3.1 rfl rfl (fun _ _=>rfl)).mono fun r hr=>⟨hr.1,by rw[hr.2.1]; exact nameOk_nil,hr.2.2⟩
  ·refine (part_loop c.1 conf.1 hc.1 r0.2.1 _ r2.1.2.1 r2.1.2.2 h2 rfl rfl (fun _ _=>rfl)).mono fun r hr=>⟨hr.1,by rw[hr.2.1]; exact h0.2,hr.2.2⟩
end G448
namespace G448
open Ev Go
set_option maxRecDepth 100000
theorem l1Pick_ens (c:TCur) (l:List (List UInt8)) (hc:CurOk c) (hl:0<l.length):Ens (spec_l1Pick (c,l,())) fun r=>0≤r.1.2.1∧r.2.1∈l:=by
 unfold spec_l1Pick
 refine (l1Below_ens c _ hc).bind fun r hr => ?_
 have h:r.2.1<(l.length:Int):=hr.2.2 (show (0:Int)<(l.length:Int) by omega)
 have h0:0≤r.2.1:=hr.2.1
 refine Ens.ite ⟨h0,h⟩ (Ens.some ⟨hr.1,rd_mem (e:=.str) ?_⟩)
 show r.2.1.toNat<l.length
 omega
theorem l2Dent_ens (c:TCur) (s:List UInt8) (hc:CurOk c) (hs:s.length≤100000):Ens (spec_l2Dent (c,s,())) fun r=>0≤r.1.2.1∧r.2.1.length≤s.length+1:=by
 unfold spec_l2Dent
 dsimp only
 have e0:wr ((s.length:Int)+1)=(s.length:Int)+1:=wr_id' (by omega) (by omega)
 rw[e0]
 refine (l1Below_ens c _ hc).bind fun r0 h0 => ?_
 have a0:=h0.2.2 (by omega)
 have b0:=h0.2.1
 refine (l1Below_ens (c.1,r0.1.2) 5 ⟨hc.1,h0.1⟩).bind fun r1 h1 => ?_
 refine Ens.cond (fun _ => ?_) fun _ => ?_
 ·refine Ens.ite (by omega) (Ens.some ⟨h1.1,?_⟩)
  simp only[List.length_take,List.length_drop]
  omega
 ·refine Ens.cond (fun _ => ?_) fun _=>Ens.some ⟨h1.1,by dsimp only; omega⟩
  refine Ens.ite (by omega) ?_
  refine (l1Pick_ens (c.1,r1.1.2) _ ⟨hc.1,h1.1⟩ (by simp)).bind fun r2 h2 => ?_
  have hp:r2.2.1.length=1:=by
   have:=h2.2
   simp only[List.mem_cons,List.not_mem_nil,or_false] at this
   rcases this with h|h|h|h|h|h|h<;>rw[h]<;>rfl
  refine Ens.ite (by simp only[List.length_take,List.length_drop]; omega) ?_
  refine Ens.ite (by omega) ?_
  refine Ens.ite (by simp only[List.length_append,List.length_take,List.length_drop]; omega) (Ens.some ⟨h2.1,?_⟩)
  simp only[List.length_append,List.length_take,List.length_drop]
  omega
theorem l5Draw_ens (c:TCur) (hc:CurOk c):Ens (spec_l5Draw (c,())) fun r=>0≤r.1.2.1∧r.2.1.length≤1930:=by
 unfold spec_l5Draw
 refine (l1Once_ens c 20 hc).bind fun r0 h0 => ?_
 refine Ens.cond (fun _ => ?_) fun _ => ?_
 ·refine Ens.loop (fun x=>(1≤x.2.1∧x.2.1≤32)∧(x.1.length:Int)≤8*x.2.1∧0≤x.2.2.1.2.1) (fun x=>(33 - x.2.1).toNat) ?_ ⟨by simp,by simp,h0⟩ (by dsimp only; rw[fuel_def]; omega)
  intro rec x hx hrec
  obtain⟨x1,x2,x3⟩:=hx
  refine (l1Below_ens (c.1,x.2.2.1.2) 2 ⟨hc.1,x3⟩).bind fun r2 h2 => ?_
  have a2:=h2.2.2 (by decide)
  have b2:=h2.2.1
  rw[wr_id' (n:=30+r2.2.1) (by omega) (by omega)]
  refine Ens.cond (fun h => ?_) fun h=>Ens.some ⟨h2.1,by dsimp only; omega⟩
  have h:x.2.1≤30+r2.2.1:=by simpa using h
  refine Ens.ite (by simp only[List.length_cons,List.length_nil]; omega) ?_
  obtain⟨u,hu⟩ : ∃ u:Nat,x.2.1=(u:Int):=⟨x.2.1.toNat,by omega⟩
  have hd:=dl u (by omega)
  rw[hu,spec_Digits_nat u (by omega),Option.bind_some]
  refine Ens.ite (by simp only[List.length_append,List.length_cons,List.length_nil]; omega) ?_
  refine Ens.ite (by simp only[List.length_append,List.length_cons,List.length_nil]; omega) ?_
  rw[←hu,wr_id' (n:=x.2.1+1) (by omega) (by omega)]
  exact hrec _ ⟨⟨by dsimp only; omega,by dsimp only; omega⟩,by simp only[List.length_append,List.length_cons,List.length_nil]; omega,h2.1⟩ (by dsimp only; omega)
 ·refine (l5DrawRight_ens (c.1,r0.1.2) ⟨hc.1,h0⟩).bind fun r4 h4 => ?_
  have hl:=nameOk_len h4.2
  exact (l2Dent_ens (c.1,r4.1.2) r4.2.1 ⟨hc.1,h4.1⟩ (by omega)).bind fun r5 h5=>Ens.some ⟨h5.1,by have:=h5.2; dsimp only; omega⟩
theorem l10Draw_ens (c:TCur) (conf:TConf) (hc:CurOk c):Ens (spec_l10Draw (c,conf,())) fun r=>0≤r.1.2.1∧r.2.1.2.1.length≤1930∧r.2.1.2.2.length≤8:=by
 unfold spec_l10Draw
 refine (l10DrawRight_ens c conf hc).bind fun r0 h0 => ?_
 have hl:=nameOk_len h0.2.1
 have hw:=h0.2.2
 refine (l1Below_ens (c.1,r0.1.2) 10 ⟨hc.1,h0.1⟩).bind fun r1 h1 => ?_
 refine Ens.cond (fun _ => ?_) fun _ => ?_
 ·exact (l1PickInt_ens (c.1,r1.1.2) _ ⟨hc.1,h1.1⟩ (by simp)).bind fun r2 h2=>Ens.some ⟨h2.1,by dsimp only; omega,by dsimp only; omega⟩
 refine Ens.cond (fun _ => ?_) fun _ => ?_
 ·exact (l6DrawSet_ens (c.1,r1.1.2) 7 ⟨hc.1,h1.1⟩ (by decide)).bind fun r2 h2=>Ens.some ⟨h2.1,by dsimp only; omega,h2.2⟩
 refine Ens.cond (fun _ => ?_) fun _ => ?_
 ·exact (l5Draw_ens (c.1,r1.1.2) ⟨hc.1,h1.1⟩).bind fun r2 h2=>Ens.some ⟨h2.1,h2.2,by dsimp only; omega⟩
 exact Ens.some ⟨h1.1,by dsimp only; omega,by dsimp only; omega⟩
theorem l14DrawRight_ens (c:TCur) (conf:TConf) (hc:CurOk c) (hN:conf.1≤8):Ens (spec_l14DrawRight (c,conf,())) fun r=>0≤r.1.2.1∧wMsg r.2.1≤4000:=by
 unfold spec_l14DrawRight
 refine (l1Below_ens c 4 hc).bind fun r0 h0 => ?_
 refine Ens.cond (fun _ => ?_) fun _ => ?_
 ·refine (l8DrawRight_ens (c.1,r0.1.2) conf ⟨hc.1,h0.1⟩ hN).bind fun r1 h1=>Ens.some ⟨h1.1,?_⟩
  have:=h1.2
  simp only[wMsg,wPart,wQc,wIntS,List.length_nil]
  omega
 refine Ens.cond (fun _ => ?_) fun _ => ?_
 ·refine (l10DrawRight_ens (c.1,r0.1.2) conf ⟨hc.1,h0.1⟩).bind fun r2 h2 => ?_
  have hl:=nameOk_len h2.2.1
  have hw:=h2.2.2
  refine Ens.cond (fun _ => ?_) fun _ => ?_
  ·have hn:=nameOf_len [] 1 [] (by decide)
   rw[spec_NameOf_eq [] 1 [] (by simp) (by decide) (by simp),Option.bind_some]
   refine Ens.some ⟨h2.1,?_⟩
   simp only[wMsg,wPart,wBlock,wQc,wIntS,List.length_nil] at hn ⊢
   omega
  ·refine Ens.some ⟨h2.1,?_⟩
   simp only[wMsg,wPart,wBlock,wQc,wIntS,List.length_nil]
   omega
 refine Ens.cond (fun _ => ?_) fun _ => ?_
 ·refine (l1Below_ens (c.1,r0.1.2) 6 ⟨hc.1,h0.1⟩).bind fun r4 h4 => ?_
  refine (l5DrawRight_ens (c.1,r4.1.2) ⟨hc.1,h4.1⟩).bind fun r5 h5 => ?_
  have hl:=nameOk_len h5.2
  refine (l7DrawOf_ens (c.1,r5.1.2) conf r5.2.1 ⟨hc.1,h5.1⟩ hN h5.2).bind fun r6 h6 => ?_
  obtain⟨k1,k2,k3,k4⟩:=h6
  have hw:=qc_w k3 k4 hl
  refine (l1Below_ens (c.1,r6.1.2) _ ⟨hc.1,k1⟩).bind fun r7 h7=>Ens.some ⟨h7.1,?_⟩
  simp only[wMsg,wPart,wBlock,wIntS,List.length_nil]
  simp only[wQc,wIntS,List.length_nil] at hw ⊢
  omega
 ·exact (l2DrawRight_ens (c.1,r0.1.2) ⟨hc.1,h0.1⟩).bind fun r8 h8=>Ens.some ⟨h8.1,by simp[wMsg,wPart,wBlock,wQc,wIntS]⟩
theorem l14Draw_ens (c:TCur) (conf:TConf) (hc:CurOk c) (hN:conf.1≤8):Ens (spec_l14Draw (c,conf,())) fun r=>0≤r.1.2.1∧wMsg r.2.1≤8000:=by
 unfold spec_l14Draw
 refine (l14DrawRight_ens c conf hc hN).bind fun r0 h0 => ?_
 have hw:=h0.2
 refine (l1Below_ens (c.1,r0.1.2) 12 ⟨hc.1,h0.1⟩).bind fun r1 h1 => ?_
 refine Ens.cond (fun _ => ?_) fun _ => ?_
 ·exact (l1Below_ens (c.1,r1.1.2) 7 ⟨hc.1,h1.1⟩).bind fun r2 h2=>Ens.some ⟨h2.1,by simp only[wMsg] at hw ⊢; omega⟩
 refine Ens.cond (fun _ => ?_) fun _ => ?_
 ·exact (l1PickInt_ens (c.1,r1.1.2) _ ⟨hc.1,h1.1⟩ (by simp)).bind fun r2 h2=>Ens.some ⟨h2.1,by simp only[wMsg] at hw ⊢; omega⟩
 refine Ens.cond (fun _ => ?_) fun _ => ?_
 ·exact (l1PickInt_ens (c.1,r1.1.2) _ ⟨hc.1,h1.1⟩ (by simp)).bind fun r2 h2=>Ens.some ⟨h2.1,by simp only[wMsg] at hw ⊢; omega⟩
 refine Ens.cond (fun _ => ?_) fun _ => ?_
 ·refine (l10Draw_ens (c.1,r1.1.2) conf ⟨hc.1,h1.1⟩).bind fun r2 h2=>Ens.some ⟨h2.1,?_⟩
  have:=h2.2
  simp only[wMsg,wPart,wIntS] at hw ⊢
  omega
 refine Ens.cond (fun _ => ?_) fun _ => ?_
 ·exact (l2Draw_ens (c.1,r1.1.2) ⟨hc.1,h1.1⟩).bind fun r2 h2=>Ens.some ⟨h2,by simp only[wMsg] at hw ⊢; omega⟩
 exact Ens.some ⟨h1.1,by dsimp only; omega⟩
end G448
namespace G448
open Ev Go
set_option maxRecDepth 100000
def Kp (c:TConf) (r r':TRep):Prop:=repOk c r'=true∧r'.1=r.1
theorem Kp.refl {c:TConf} {r:TRep} (h:repOk c r=true):Kp c r r:=⟨h,rfl⟩
theorem Kp.trans {c:TConf} {a b d:TRep} (h1:Kp c a b) (h2:Kp c b d):Kp c a d:=⟨h2.1,h2.2.trans h1.2⟩
theorem kp_tellOwn {c:TConf} {r:TRep} (h:repOk c r=true) (to:Int) (m:TMsg):Kp c r (tellOwn c r to m).1:=by
 have e:=tell_own to m h
 cases hf:(tellOwn c r to m).2 with
 | true=>
  rw[e] at hf ⊢
  exact tell_ok hf
 | false=>
  unfold tellOwn at hf ⊢
  cases hc:(!decide ((r.2.2.2.2.2.2.2.length:Int)≥30) && heldOk c r.1 (to,m))
  ·exact Kp.refl h
  ·rw[hc] at hf; cases hf
theorem kp_writeOwn {c:TConf} {r:TRep} (h:repOk c r=true) (s:TSafe):Kp c r (writeOwn c r s).1∧(writeOwn c r s).1.2.1=r.2.1:=by
 cases hf:(writeOwn c r s).2 with
 | true=>obtain⟨a,b,d⟩:=writeOwn_ok h hf; exact⟨⟨a,b⟩,d⟩
 | false=>rw[writeOwn_no hf]; exact⟨Kp.refl h,rfl⟩
theorem kp_inView {c:TConf} {r:TRep} {v:Int} (h:repOk c r=true) (hv:1≤v∧v≤60):Kp c r (inView r v):=⟨inView_ok h hv,rfl⟩
theorem kp_top {c:TConf} {r:TRep} (h:repOk c r=true) (q:TQc):Kp c r (top c r q).1:=by
 obtain⟨k1,k2⟩:=kp_writeOwn h (see c r.2.2.2.1 q)
 have hv:=repOk_view h
 unfold top
 cases (writeOwn c r (see c r.2.2.2.1 q)).2
 ·exact Kp.refl h
 ·simp only[Bool.not_true,cond_false]
  by_cases h60:q.1+1>60
  ·simp only[h60,decide_true,cond_true]; exact k1
  ·have k3:Kp c r (inView (writeOwn c r (see c r.2.2.2.1 q)).1 (max (writeOwn c r (see c r.2.2.2.1 q)).1.2.1 (q.1+1))):=k1.trans (kp_inView k1.1 (by rw[k2]; omega))
   simp only[h60,decide_false,cond_false]
   cases (rootOf c (q.1+1)==r.1)
   ·exact k3.trans (kp_tellOwn k3.1 _ _)
   ·exact k3
theorem kp_climbIn {c:TConf} {r:TRep} (h:repOk c r=true) (v:Int) (name:List UInt8) (force:Bool):Kp c r (climbIn c r v name force).1:=by
 unfold climbIn
 cases (((tableGet r.2.2.2.2.2.1 v name).2.2.length:Int)==0)
 ·cases (name==([]:List UInt8))
  ·simp only[cond_false]
   cases (rootOf c v==r.1)
   ·simp only[cond_false]
    cases (!force && decide ((common (under c v r.1) (tableGet r.2.2.2.2.2.1 v name).2.2:Int)<((under c v r.1).length:Int)))
    ·exact kp_tellOwn h _ _
    ·exact Kp.refl h
   ·simp only[cond_true]
    cases (partQc c (tableGet r.2.2.2.2.2.1 v name)).2
    ·exact Kp.refl h
    ·exact kp_top h _
  ·exact Kp.refl h
 ·exact Kp.refl h
theorem kp_climb {c:TConf} {r:TRep} (h:repOk c r=true) (v:Int) (name:List UInt8) (force:Bool):Kp c r (climb c r v name force).1:=by
 unfold climb
 cases (repOk c r && (climbIn c r v name force).2)
 ·exact Kp.refl h
 ·exact kp_climbIn h v name force
theorem kp_table {c:TConf} {r:TRep} {t:TPartS} (h:repOk c r=true) (ht:tableOk c t=true):Kp c r (withTable r t):=⟨withTable_ok h ht,rfl⟩
theorem kp_voted {c:TConf} {r0 w:TRep} (h0:repOk c r0=true) (h:repOk c w=true) (e:w.1=r0.1) (name:List UInt8):Kp c r0 (voted c r0 w name).1:=by
 unfold voted
 cases ht:(tableAdd c w.2.2.2.2.2.1 (viewOf name,name,[w.1])).2
 ·exact Kp.refl h0
 ·have k:=kp_table (t:=(tableAdd c w.2.2.2.2.2.1 (viewOf name,name,[w.1])).1) h (tableAdd_ok ht)
  have k2:=k.trans (kp_climb k.1 (viewOf name) name false)
  exact⟨k2.1,k2.2.trans e⟩
theorem kp_hearBlock {c:TConf} {r:TRep} (h:repOk c r=true) (b:TBlock):Kp c r (hearBlock c r b).1:=by
 unfold hearBlock
 rw[h]
 simp only[Bool.not_true,cond_false]
 cases hbo:blockOk c b
 ·exact Kp.refl h
 ·simp only[Bool.not_true,cond_false]
  have hn:nameOk b.1=true∧b.1≠[]:=by
   unfold blockOk at hbo
   simp only[Bool.and_eq_true,bne_iff_ne,ne_eq] at hbo
   exact⟨hbo.2.1,hbo.2.2.1⟩
  have hnv:=name_view hn.1 hn.2
  cases decide (viewOf b.1≥r.2.1)
  ·simp only[cond_false]
   obtain⟨k1,_⟩:=kp_writeOwn h (see c r.2.2.2.1 b.2)
   cases (writeOwn c r (see c r.2.2.2.1 b.2)).2
   ·exact Kp.refl h
   ·exact k1
  ·simp only[cond_true]
   have ki:=kp_inView (v:=viewOf b.1) h hnv
   obtain⟨k1,_⟩:=kp_writeOwn ki.1 (vote c (see c r.2.2.2.1 b.2) b)
   have k1:=ki.trans k1
   cases (writeOwn c (inView r (viewOf b.1)) (vote c (see c r.2.2.2.1 b.2) b)).2
   ·exact Kp.refl h
   ·simp only[Bool.not_true,cond_false]
    cases mayVote c (see c r.2.2.2.1 b.2) b
    ·exact k1
    ·exact kp_voted h k1.1 k1.2 b.1
theorem kp_hearPart {c:TConf} {r:TRep} (h:repOk c r=true) (p:TPart):Kp c r (hearPart c r p).1:=by
 unfold hearPart
 rw[h]
 simp only[Bool.not_true,cond_false]
 cases partOk c p
 ·exact Kp.refl h
 cases (p.2.1==([]:List UInt8))
 ·cases decide (p.1<r.2.1)
  ·simp only[Bool.not_true,cond_false]
   cases ht:(tableAdd c r.2.2.2.2.2.1 p).2
   ·exact Kp.refl h
   ·have k:=kp_table (t:=(tableAdd c r.2.2.2.2.2.1 p).1) h (tableAdd_ok ht)
    exact k.trans (kp_climb k.1 p.1 p.2.1 false)
  ·exact Kp.refl h
 ·exact Kp.refl h
theorem kp_late {c:TConf} {r:TRep} (h:repOk c r=true):Kp c r (late c r).1:=by
 have hv:=repOk_view h
 unfold late
 rw[h]
 simp only[Bool.not_true,cond_false]
 by_cases h60:r.2.1≥60
 ·simp only[h60,decide_true,cond_true]; exact Kp.refl h
 ·have ki:=kp_inView (v:=r.2.1+1) h (by omega)
  simp only[h60,decide_false,cond_false]
  cases (rootOf c (r.2.1+1)==r.1)
  ·simp only[cond_false]
   have k:=ki.trans (kp_tellOwn ki.1 (rootOf c (r.2.1+1)) (3,r.2.1+1,([],0,[],[]),(0,[],[]),r.2.2.2.1.2.2.1,r.1,0,0,0,0))
   cases (tellOwn c (inView r (r.2.1+1)) (rootOf c (r.2.1+1)) (3,r.2.1+1,([],0,[],[]),(0,[],[]),r.2.2.2.1.2.2.1,r.1,0,0,0,0)).2
   ·exact Kp.refl h
   ·exact k
  ·simp only[cond_true]
   cases ht:(tableAdd c r.2.2.2.2.2.1 (r.2.1+1,[],[r.1])).2
   ·exact Kp.refl h
   ·exact ki.trans (kp_table ki.1 (tableAdd_ok ht))
theorem kp_tellGo {c:TConf} {r:TRep} (hr:repOk c r=true) (m:TMsg) : ∀ (n i:Nat) (out:TRep),Kp c r out→Kp c r (tellGo c r m n i out).1
 | 0,_,out,h=>h
 | n+1,i,out,h=>by
  simp only[tellGo]
  cases ((i:Int)==r.1)
  ·simp only[cond_false]
   cases ht:(tell c out i m).2
   ·exact Kp.refl hr
   ·exact kp_tellGo hr m n (i+1) _ (h.trans (tell_ok ht))
  ·exact kp_tellGo hr m n (i+1) out h
theorem kp_tellAll {c:TConf} {r:TRep} (h:repOk c r=true) (m:TMsg):Kp c r (tellAll c r m).1:=by
 unfold tellAll
 rw[h]
 exact kp_tellGo h m _ 0 r (Kp.refl h)
theorem poolAdd_ok {p:TTxS} {x:TTx} (hp:poolOk p=true):poolOk (poolAdd p x).1=true:=by
 unfold poolAdd poolAt
 generalize firstAt (fun y => !beforeTx y x) 0 p=k
 cases h:poolOk (p.take k++x::p.drop k)
 ·exact hp
 ·exact h
theorem repOk_pool {c:TConf} {a v k:Int} {sf:TSafe} {p p':TTxS} {rest:TPartS×TDisk×TPostS} (h:repOk c (a,v,k,sf,p,rest)=true) (hp:poolOk p'=true):repOk c (a,v,k,sf,p',rest)=true:=by
 unfold repOk at h ⊢
 simp only[Bool.and_eq_true] at h ⊢
 obtain⟨a1,a2,a3,a4,a5,a6,a7⟩:=h
 exact⟨a1,a2,a3,a4,a5,hp,a7⟩
theorem kp_hearTx {c:TConf} {r:TRep} (h:repOk c r=true) (x:TTx):Kp c r (hearTx c r x).1:=by
 obtain⟨a,v,k,sf,p,rest⟩:=r
 have hp:=(repOk_parts h).2.2.2.2.2.1
 unfold hearTx
 rw[h]
 exact⟨repOk_pool h (poolAdd_ok hp),rfl⟩
end G448
namespace G448
open Ev Go
set_option maxRecDepth 100000
theorem safeOk_z {c:TConf} (h:confOk c=true):safeOk c zSafe=true:=by
 unfold safeOk zSafe qcOk
 simp[h,nameOk_nil,viewOf_nil]
theorem safeOf_ok {c:TConf} {s:List UInt8} (h:(safeOf c s).2=true):safeOk c (safeOf c s).1=true:=by
 unfold safeOf at h ⊢
 cases hc:((rdSafe s).1.2 && ((rdSafe s).1.1==(s.length:Int) && safeOk c (rdSafe s).2))
 ·rw[hc] at h; cases h
 ·simp only[Bool.and_eq_true] at hc
  exact hc.2.2
theorem lastGo_ok (c:TConf) (s:List UInt8) : ∀ (n at_:Nat) (old:TSafe),safeOk c old=true→safeOk c (lastGo c s n at_ old).1=true
 | 0,_,_,h=>h
 | n+1,at_,old,h=>by
  simp only[lastGo]
  cases hc:((getText s at_).2.2 && (decide ((getText s at_).2.1<(s.length:Int)) && (s.getD (getText s at_).2.1.toNat 0==10 && (safeOf c (getText s at_).1).2)))
  ·exact h
  ·simp only[Bool.and_eq_true] at hc
   exact lastGo_ok c s n _ _ (safeOf_ok hc.2.2.2)
theorem lastNote_ok {c:TConf} (h:confOk c=true) (s:List UInt8):safeOk c (lastNote c s).1=true:=lastGo_ok c s _ 0 zSafe (safeOk_z h)
theorem safeOk_rng {c:TConf} {s:TSafe} (h:safeOk c s=true):(0≤s.1∧s.1≤60)∧(0≤s.2.2.1.1∧s.2.2.1.1≤60):=by
 unfold safeOk at h
 simp only[Bool.and_eq_true,decide_eq_true_eq] at h
 refine⟨h.1,?_⟩
 have hq:=h.2.2.1
 unfold qcOk at hq
 simp only[Bool.and_eq_true,beq_iff_eq] at hq
 have:=viewOf_b hq.2.1
 omega
theorem kp_rise {c:TConf} {r:TRep} (h:repOk c r=true):Kp c r (rise c r):=by
 obtain⟨h1,h2,h3,h4,h5,h6,h7,h8,h9,h10⟩:=repOk_parts h
 unfold rise
 rw[h]
 simp only[cond_true]
 refine⟨?_,rfl⟩
 have hs:=lastNote_ok h1 r.2.2.2.2.2.2.1.1
 obtain⟨b1,b2,b3⟩:=lastNote_b c r.2.2.2.2.2.2.1.1
 obtain⟨s1,s2⟩:=safeOk_rng hs
 unfold diskOk at h8
 simp only[Bool.and_eq_true,decide_eq_true_eq] at h8
 unfold repOk
 simp only[Bool.and_eq_true,decide_eq_true_eq]
 have hv:1≤riseV (lastNote c r.2.2.2.2.2.2.1.1).1∧riseV (lastNote c r.2.2.2.2.2.2.1.1).1≤60:=by
  unfold riseV
  rw[wr_id' (by omega) (by omega)]
  omega
 refine⟨h1,h2,hv,by omega,hs,rfl,rfl,?_,by simp,by simp⟩
 unfold diskOk
 simp only[Bool.and_eq_true,decide_eq_true_eq,List.length_take]
 omega
theorem kp_sureNow {c:TConf} {r:TRep} (h:repOk c r=true):Kp c r (sureNow c r).1:=by
 obtain⟨h1,h2,h3,h4,h5,h6,h7,h8,h9,h10⟩:=repOk_parts h
 unfold sureNow
 rw[h]
 simp only[cond_true]
 refine⟨?_,rfl⟩
 unfold repOk
 simp only[Bool.and_eq_true,decide_eq_true_eq]
 refine⟨h1,h2,h3,h4,h5,h6,h7,?_,by simp,by simp⟩
 unfold syncM
 rw[if_pos h8]
 unfold diskOk at h8 ⊢
 simp only[Bool.and_eq_true,decide_eq_true_eq] at h8 ⊢
 omega
noncomputable def viewIn (q:TQc) (w:TRep) (v:Int):TRep:=inView w (max v (min (q.1+1) 60))
noncomputable def hearViewS (c:TConf) (r:TRep) (v:Int) (q:TQc) (who:Int):TRep×Bool:=
 bif !repOk c r then (r,false) else bif !(decide (v≥1) && decide (v≤60)) then (r,false) else bif !qcOk c q then (r,false) else bif !(decide (who≥0) && decide (who≤wr (c.1 - 1))) then (r,false) else
 bif (writeOwn c r (see c r.2.2.2.1 q)).2 then
  (bif rootOf c v==r.1 then
   (bif decide (v≥r.2.1) then
    (bif !(tableAdd c (writeOwn c r (see c r.2.2.2.1 q)).1.2.2.2.2.2.1 (v,[],[who])).2 then (r,false) else
     bif decide (((tableGet (tableAdd c (writeOwn c r (see c r.2.2.2.1 q)).1.2.2.2.2.2.1 (v,[],[who])).1 v []).2.2.length:Int)≥quorum c) then
      (viewIn q (withTable (writeOwn c r (see c r.2.2.2.1 q)).1 (tableAdd c (writeOwn c r (see c r.2.2.2.1 q)).1.2.2.2.2.2.1 (v,[],[who])).1) (max (writeOwn c r (see c r.2.2.2.1 q)).1.2.1 v),true)
     else (viewIn q (withTable (writeOwn c r (see c r.2.2.2.1 q)).1 (tableAdd c (writeOwn c r (see c r.2.2.2.1 q)).1.2.2.2.2.2.1 (v,[],[who])).1) (writeOwn c r (see c r.2.2.2.1 q)).1.2.1,true))
    else (viewIn q (writeOwn c r (see c r.2.2.2.1 q)).1 (writeOwn c r (see c r.2.2.2.1 q)).1.2.1,true))
   else (viewIn q (writeOwn c r (see c r.2.2.2.1 q)).1 (writeOwn c r (see c r.2.2.2.1 q)).1.2.1,true))
 else (r,false)
theorem spec_min_eq (a b:Int):spec_l1Min (a,b,())=some (min a b,()):=by
 rw[l1Min_eq]
 congr 2
 split<;>omega
theorem spec_HearView_eq (c:TConf) (r:TRep) (v:Int) (q:TQc) (who:Int) (hr:wRep r≤2000000) (hq:wQc q≤2000000):spec_HearView (c,r,v,q,who,())=some ((hearViewS c r v q who).1,(hearViewS c r v q who).2,()):=by
 have hs:wSafe r.2.2.2.1≤2000000:=by simp only[wRep] at hr; omega
 have hsee:=see_w c r.2.2.2.1 q
 have hww:=own_w c r (see c r.2.2.2.1 q)
 have hwt:wPartS (writeOwn c r (see c r.2.2.2.1 q)).1.2.2.2.2.2.1≤100000000:=by simp only[wRep] at *; omega
 have hp:=wName v who []
 simp only[List.length_nil] at hp
 have hta:=tableAdd_w c (writeOwn c r (see c r.2.2.2.1 q)).1.2.2.2.2.2.1 (v,[],[who])
 unfold spec_HearView hearViewS
 dsimp only
 rw[spec_l15Copy_eq r (by omega),Option.bind_some,spec_RepOk_eq c r (by omega),Option.bind_some,spec_in_eq,Option.bind_some,spec_QcOk_eq c q (by omega),Option.bind_some,spec_in_eq,Option.bind_some,Option.bind_some,spec_See_eq c r.2.2.2.1 q (by omega) (by omega),Option.bind_some,spec_l15Write_eq c r (see c r.2.2.2.1 q) (by omega) (by omega),Option.bind_some,spec_Root_eq,Option.bind_some,
  spec_TableAdd_eq c (writeOwn c r (see c r.2.2.2.1 q)).1.2.2.2.2.2.1 (v,[],[who]) hwt (by omega),Option.bind_some,spec_TableGet_eq (tableAdd c (writeOwn c r (see c r.2.2.2.1 q)).1.2.2.2.2.2.1 (v,[],[who])).1 v [] (by omega),Option.bind_some,spec_Quorum_eq,Option.bind_some]
 cases hok:repOk c r
 ·rfl
 cases (decide (v≥1) && decide (v≤60))
 ·rfl
 cases hqo:qcOk c q
 ·rfl
 cases (decide (who≥0) && decide (who≤wr (c.1 - 1)))
 ·rfl
 have hqv:0≤q.1∧q.1≤60:=by
  unfold qcOk at hqo
  simp only[Bool.and_eq_true,beq_iff_eq] at hqo
  have:=viewOf_b hqo.2.1
  omega
 have e1:wr (q.1+1)=q.1+1:=wr_id' (by omega) (by omega)
 simp only[Bool.not_true,cond_false,e1,spec_min_eq,spec_max_eq,Option.bind_some]
 cases (writeOwn c r (see c r.2.2.2.1 q)).2
 ·rfl
 cases (rootOf c v==r.1)
 ·rfl
 cases decide (v≥r.2.1)
 ·rfl
 cases (tableAdd c (writeOwn c r (see c r.2.2.2.1 q)).1.2.2.2.2.2.1 (v,[],[who])).2
 ·rfl
 cases decide (((tableGet (tableAdd c (writeOwn c r (see c r.2.2.2.1 q)).1.2.2.2.2.2.1 (v,[],[who])).1 v []).2.2.length:Int)≥quorum c)<;>rfl
theorem kp_viewIn {c:TConf} {w:TRep} {q:TQc} {v:Int} (h:repOk c w=true) (hq:0≤q.1) (hv:1≤v∧v≤60):Kp c w (viewIn q w v):=kp_inView h (by omega)
theorem kp_hearViewS {c:TConf} {r:TRep} (h:repOk c r=true) (v:Int) (q:TQc) (who:Int):Kp c r (hearViewS c r v q who).1:=by
 have hv:=repOk_view h
 obtain⟨k1,k2⟩:=kp_writeOwn h (see c r.2.2.2.1 q)
 unfold hearViewS
 rw[h]
 simp only[Bool.not_true,cond_false]
 cases hvv:(decide (v≥1) && decide (v≤60))
 ·exact Kp.refl h
 simp only[Bool.and_eq_true,decide_eq_true_eq] at hvv
 cases hqo:qcOk c q
 ·exact Kp.refl h
 have hqv:0≤q.1∧q.1≤60:=by
  unfold qcOk at hqo
  simp only[Bool.and_eq_true,beq_iff_eq] at hqo
  have:=viewOf_b hqo.2.1
  omega
 cases (decide (who≥0) && decide (who≤wr (c.1 - 1)))
 ·exact Kp.refl h
 simp only[Bool.not_true,cond_false]
 cases (writeOwn c r (see c r.2.2.2.1 q)).2
 ·exact Kp.refl h
 simp only[cond_true]
 have kw:=k1.trans (kp_viewIn (q:=q) (v:=(writeOwn c r (see c r.2.2.2.1 q)).1.2.1) k1.1 hqv.1 (by rw[k2]; exact hv))
 cases (rootOf c v==r.1)
 ·exact kw
 cases decide (v≥r.2.1)
 ·exact kw
 simp only[cond_true]
 cases ht:(tableAdd c (writeOwn c r (see c r.2.2.2.1 q)).1.2.2.2.2.2.1 (v,[],[who])).2
 ·exact Kp.refl h
 have kt:=k1.trans (kp_table k1.1 (tableAdd_ok ht))
 simp only[Bool.not_true,cond_false]
 cases decide (((tableGet (tableAdd c (writeOwn c r (see c r.2.2.2.1 q)).1.2.2.2.2.2.1 (v,[],[who])).1 v []).2.2.length:Int)≥quorum c)
 ·exact kt.trans (kp_viewIn kt.1 hqv.1 (by rw[k2]; exact hv))
 ·exact kt.trans (kp_viewIn kt.1 hqv.1 (by rw[k2]; omega))
end G448
namespace G448
open Ev Go
set_option maxRecDepth 100000
def tableDrop (l:TPartS) (v:Int):TPartS:=l.filter fun p=>decide (p.1≥v)
noncomputable def poolDrop (p:TTxS) (l:TLedger):TTxS:=p.filter fun x=>(pay l x).2 != 2
theorem filter_drop {α:Type} (q:α→Bool) {l:List α} {i:Nat} (hi:i<l.length):(l.drop i).filter q=(if q l[i]=true then [l[i]] else [])++(l.drop (i+1)).filter q:=by
 rw[List.drop_eq_getElem_cons hi,List.filter_cons]
 split<;>rfl
theorem spec_TableDrop_eq (l:TPartS) (v:Int) (hl:wPartS l≤137438953472):spec_TableDrop (l,v,())=some (tableDrop l v,()):=by
 have hll:=wPartS_len l
 unfold spec_TableDrop tableDrop
 dsimp only
 refine (walk l.length (fun i (s:TPartS)=>(s,i,())) (fun i s=>s.length≤i) (fun i s=>some (s++(l.drop i).filter (fun p=>decide (p.1≥v)),())) (by omega) ?_ ?_ (s0:=[]) (Nat.le_refl _)).trans (by simp)
 ·intro rec s hs
  simp
 ·intro rec i s hi hs
  have hx:l[i]?=some l[i]:=List.getElem?_eq_getElem hi
  have hw:wPart l[i]≤137438953472:=wPart_mem hl hx
  right
  simp only[ge_ok hi,decide_true,cond_true,and_self,if_true,Int.toNat_natCast,rd_get (e:=EPart) hx,spec_l10Copy_eq l[i] hw,Option.bind_some,wr_nat (show i<4611686018427387904 by omega),filter_drop (fun p:TPart=>decide (p.1≥v)) hi]
  by_cases hq:l[i].1≥v
  ·simp only[hq,decide_true,cond_true,if_true]
   rw[if_pos (by simp only[List.length_cons,List.length_nil]; omega)]
   exact⟨s++[l[i]],by simp only[List.length_append,List.length_cons,List.length_nil]; omega,rfl,by simp⟩
  ·simp only[hq,decide_false,cond_false,Bool.false_eq_true,if_false]
   exact⟨s,by omega,rfl,by simp⟩
theorem spec_PoolDrop_eq (p:TTxS) (l:TLedger) (hp:p.length≤137438953472) (h1:l.1.length≤137438953472) (h2:l.2.length≤137438953472):spec_PoolDrop (p,l,())=some (poolDrop p l,()):=by
 unfold spec_PoolDrop poolDrop
 dsimp only
 refine (walk p.length (fun i (s:TTxS)=>(s,i,())) (fun i s=>s.length≤i) (fun i s=>some (s++(p.drop i).filter (fun x=>(pay l x).2 != 2),())) (by omega) ?_ ?_ (s0:=[]) (Nat.le_refl _)).trans (by simp)
 ·intro rec s hs
  simp
 ·intro rec i s hi hs
  have hx:p[i]?=some p[i]:=List.getElem?_eq_getElem hi
  right
  simp only[ge_ok hi,decide_true,cond_true,and_self,if_true,Int.toNat_natCast,rd_get (e:=ETx) hx,spec_Pay_eq l p[i] h1 h2,Option.bind_some,wr_nat (show i<4611686018427387904 by omega),filter_drop (fun x:TTx=>(pay l x).2 != 2) hi]
  cases hq:((pay l p[i]).2 != 2)
  ·simp only[cond_false,Bool.false_eq_true,if_false]
   exact⟨s,by omega,rfl,by simp⟩
  ·simp only[cond_true,if_true]
   rw[if_pos (by simp only[List.length_cons,List.length_nil]; omega)]
   exact⟨s++[p[i]],by simp only[List.length_append,List.length_cons,List.length_nil]; omega,rfl,by simp⟩
theorem chainB_weak {α:Type} {ok:α→Bool} {lt:α→α→Bool} (ht : ∀ a b d,lt a b=true→lt b d=true→lt a d=true) : ∀ {l:List α} {x y:α},chainB ok lt (some y) l=true→lt x y=true→chainB ok lt (some x) l=true
 | [],_,_,_,_=>rfl
 | z::l,x,y,h,hxy=>by
  simp only[chainB,Bool.and_eq_true] at h ⊢
  exact⟨h.1,ht _ _ _ hxy h.2.1,h.2.2⟩
theorem chainB_none {α:Type} {ok:α→Bool} {lt:α→α→Bool} : ∀ {l:List α} {p:Option α},chainB ok lt p l=true→chainB ok lt none l=true
 | [],_,_=>rfl
 | z::l,p,h=>by
  simp only[chainB,Bool.and_eq_true] at h ⊢
  exact⟨h.1,trivial,h.2.2⟩
theorem chainB_filter {α:Type} {ok:α→Bool} {lt:α→α→Bool} (ht : ∀ a b d,lt a b=true→lt b d=true→lt a d=true) (q:α→Bool) : ∀ {l:List α} {p:Option α},chainB ok lt p l=true→chainB ok lt p (l.filter q)=true
 | [],_,_=>rfl
 | z::l,p,h=>by
  simp only[chainB,Bool.and_eq_true] at h
  have ih:=chainB_filter ht q h.2.2
  rw[List.filter_cons]
  split
  ·simp only[chainB,Bool.and_eq_true]
   exact⟨h.1,h.2.1,ih⟩
  ·cases p with
   | none=>exact chainB_none ih
   | some y=>exact chainB_weak ht ih h.2.1
theorem chainB_top {α:Type} {ok:α→Bool} {lt:α→α→Bool} (key:α→Int) (hk : ∀ a b,lt a b=true→key a≤key b) (v:Int) : ∀ {l:List α} {p:Option α},chainB ok lt p l=true→(∃ y,p=some y∧key y≥v)→l.filter (fun x=>decide (key x≥v))=l
 | [],_,_,_=>rfl
 | z::l,p,h,hp=>by
  obtain⟨y,rfl,hy⟩:=hp
  simp only[chainB,Bool.and_eq_true] at h
  have:=hk _ _ h.2.1
  have hz:key z≥v:=by omega
  rw[List.filter_cons,if_pos (by simpa using hz),chainB_top key hk v h.2.2 ⟨z,rfl,hz⟩]
theorem chainB_drop {α:Type} {ok:α→Bool} {lt:α→α→Bool} (key:α→Int) (hk : ∀ a b,lt a b=true→key a≤key b) (v:Int) : ∀ {l:List α} {p:Option α},chainB ok lt p l=true→chainB ok lt none (l.filter (fun x=>decide (key x≥v)))=true
 | [],_,_=>rfl
 | z::l,p,h=>by
  have h':=h
  simp only[chainB,Bool.and_eq_true] at h
  rw[List.filter_cons]
  split
  ·next hz=>
   have hz:key z≥v:=by simpa using hz
   rw[chainB_top key hk v h.2.2 ⟨z,rfl,hz⟩]
   exact chainB_none h'
  ·exact chainB_drop key hk v h.2.2
theorem beforePart_view (a b:TPart) (h:beforePart a b=true):a.1≤b.1:=by
 unfold beforePart at h
 simp only[Bool.or_eq_true,Bool.and_eq_true,decide_eq_true_eq,beq_iff_eq] at h
 omega
theorem tableDrop_ok {c:TConf} {l:TPartS} (h:tableOk c l=true) (v:Int):tableOk c (tableDrop l v)=true:=by
 unfold tableOk tableDrop at *
 simp only[Bool.and_eq_true,decide_eq_true_eq] at h ⊢
 have hl:=List.length_filter_le (fun p:TPart=>decide (p.1≥v)) l
 exact⟨chainB_drop (fun p:TPart=>p.1) beforePart_view v h.1,by omega⟩
theorem beforeTx_trans (a b d:TTx) (h1:beforeTx a b=true) (h2:beforeTx b d=true):beforeTx a d=true:=by
 unfold beforeTx at *
 simp only[Bool.or_eq_true,Bool.and_eq_true,decide_eq_true_eq,beq_iff_eq] at *
 omega
theorem poolDrop_ok {p:TTxS} (h:poolOk p=true) (l:TLedger):poolOk (poolDrop p l)=true:=by
 unfold poolOk poolDrop at *
 simp only[Bool.and_eq_true,decide_eq_true_eq] at h ⊢
 have hl:=List.length_filter_le (fun x=>(pay l x).2 != 2) p
 exact⟨chainB_filter beforeTx_trans _ h.1,by omega⟩
noncomputable def hearK (c:TConf) (r:TRep) (m:TMsg):TRep×Bool:=
 bif m.1==1 then hearBlock c r m.2.2.1 else bif m.1==2 then hearPart c r m.2.2.2.1 else bif m.1==3 then hearViewS c r m.2.1 m.2.2.2.2.1 m.2.2.2.2.2.1 else hearTx c r m.2.2.2.2.2.2
noncomputable def swept (c:TConf) (r:TRep):TRep:=
 (r.1,r.2.1,r.2.2.1,r.2.2.2.1,poolDrop r.2.2.2.2.1 (state c (withTable r (tableDrop r.2.2.2.2.2.1 (r.2.1 - 1)))),tableDrop r.2.2.2.2.2.1 (r.2.1 - 1),r.2.2.2.2.2.2)
noncomputable def hearS (c:TConf) (r:TRep) (m:TMsg):TRep×Bool:=
 bif !repOk c r then (r,false) else bif !msgOk c m then (r,false) else bif !(hearK c r m).2 then (r,false) else (swept c (hearK c r m).1,true)
theorem kp_hearK {c:TConf} {r:TRep} (h:repOk c r=true) (m:TMsg):Kp c r (hearK c r m).1:=by
 unfold hearK
 cases (m.1==1)
 ·cases (m.1==2)
  ·cases (m.1==3)
   ·exact kp_hearTx h _
   ·exact kp_hearViewS h _ _ _
  ·exact kp_hearPart h _
 ·exact kp_hearBlock h _
theorem kp_swept {c:TConf} {r:TRep} (h:repOk c r=true):Kp c r (swept c r):=by
 obtain⟨h1,h2,h3,h4,h5,h6,h7,h8,h9,h10⟩:=repOk_parts h
 have k:=withTable_ok h (tableDrop_ok h7 (r.2.1 - 1))
 unfold swept
 generalize state c (withTable r (tableDrop r.2.2.2.2.2.1 (r.2.1 - 1)))=l
 exact⟨repOk_pool (p:=r.2.2.2.2.1) k (poolDrop_ok h6 l),rfl⟩
theorem kp_hearS {c:TConf} {r:TRep} (h:repOk c r=true) (m:TMsg):Kp c r (hearS c r m).1:=by
 have k:=kp_hearK h m
 unfold hearS
 rw[h]
 simp only[Bool.not_true,cond_false]
 cases msgOk c m
 ·exact Kp.refl h
 ·simp only[Bool.not_true,cond_false]
  cases (hearK c r m).2
  ·exact Kp.refl h
  ·exact k.trans (kp_swept k.1)
theorem spec_l17Hear_eq {c:TConf} {r:TRep} {m:TMsg} (hr:repOk c r=true) (hm:msgOk c m=true):spec_l17Hear (c,r,m,())=some ((hearK c r m).1,(hearK c r m).2,()):=by
 have hw:=repOk_w hr
 have hmw:=msgOk_w hm
 have w1:wBlock m.2.2.1≤3847:=by simp only[wMsg] at hmw; omega
 have w2:wPart m.2.2.2.1≤3847:=by simp only[wMsg] at hmw; omega
 have w3:wQc m.2.2.2.2.1≤3847:=by simp only[wMsg] at hmw; omega
 unfold spec_l17Hear hearK
 dsimp only
 rw[spec_HearBlock_eq c r m.2.2.1 (by omega),spec_HearPart_eq c r m.2.2.2.1 (by omega) (by omega),spec_HearView_eq c r m.2.1 m.2.2.2.2.1 m.2.2.2.2.2.1 (by omega) (by omega),spec_HearTx_eq c r m.2.2.2.2.2.2 (by omega)]
 cases (m.1==1)<;>cases (m.1==2)<;>cases (m.1==3)<;>rfl
theorem spec_Hear_eq (c:TConf) (r:TRep) (m:TMsg) (hr:wRep r≤137438953472) (hm:wMsg m≤137438953472):spec_Hear (c,r,m,())=some ((hearS c r m).1,(hearS c r m).2,()):=by
 unfold spec_Hear hearS
 dsimp only
 rw[spec_RepOk_eq c r hr,Option.bind_some,spec_l15Copy_eq r hr,spec_MsgOk_eq c m hm,Option.bind_some,Option.bind_some]
 cases hok:repOk c r
 ·rfl
 cases hmo:msgOk c m
 ·rfl
 simp only[Bool.not_true,cond_false]
 rw[spec_l17Hear_eq hok hmo,Option.bind_some]
 dsimp only
 cases (hearK c r m).2
 ·rfl
 have k:=(kp_hearK hok m).1
 obtain⟨h1,h2,h3,h4,h5,h6,h7,h8,h9,h10⟩:=repOk_parts k
 have hw:=repOk_w k
 have hkt:=kp_table k (tableDrop_ok h7 ((hearK c r m).1.2.1 - 1))
 have hw2:=repOk_w hkt.1
 have hsw:=state_w c (withTable (hearK c r m).1 (tableDrop (hearK c r m).1.2.2.2.2.2.1 ((hearK c r m).1.2.1 - 1)))
 have ht:=tableOk_w h7
 simp only[wLedger,wIntS] at hsw
 have hpl:(hearK c r m).1.2.2.2.2.1.length≤260000:=by simp only[wRep,wTxS] at hw; omega
 simp only[Bool.not_true,cond_false]
 rw[wr_id' (n:=(hearK c r m).1.2.1 - 1) (by omega) (by omega),spec_TableDrop_eq _ _ (by omega),Option.bind_some]
 dsimp only
 have es:spec_State (c,withTable (hearK c r m).1 (tableDrop (hearK c r m).1.2.2.2.2.2.1 ((hearK c r m).1.2.1 - 1)),())=some (state c (withTable (hearK c r m).1 (tableDrop (hearK c r m).1.2.2.2.2.2.1 ((hearK c r m).1.2.1 - 1))),()):=spec_State_eq c _ (by omega)
 have ep:spec_PoolDrop ((hearK c r m).1.2.2.2.2.1,state c (withTable (hearK c r m).1 (tableDrop (hearK c r m).1.2.2.2.2.2.1 ((hearK c r m).1.2.1 - 1))),())=some (poolDrop (hearK c r m).1.2.2.2.2.1 (state c (withTable (hearK c r m).1 (tableDrop (hearK c r m).1.2.2.2.2.2.1 ((hearK c r m).1.2.1 - 1)))),()):=spec_PoolDrop_eq _ _ (by omega) (by omega) (by omega)
 unfold withTable at es ep
 rw[es,Option.bind_some,ep,Option.bind_some]
 rfl
end G448
namespace G448
open Ev Go
set_option maxRecDepth 100000
theorem newRep_ok {c:TConf} {i:Int} (h:confOk c=true) (h0:0≤i) (h1:i<c.1):repOk c (newRep i)=true:=by
 unfold repOk newRep
 simp only[h,safeOk_z h,poolOk,tableOk,chainB,diskOk,List.length_nil,List.all_nil,Bool.and_true,Bool.true_and,Bool.and_eq_true,decide_eq_true_eq]
 omega
theorem idxAll_iff {α:Type} (p:Nat→α→Bool) : ∀ (l:List α) (k:Nat),idxAll p k l=true ↔ ∀ i (h:i<l.length),p (k+i) l[i]=true
 | [],k=>by simp[idxAll]
 | x::l,k=>by
  unfold idxAll
  simp only[Bool.and_eq_true,idxAll_iff p l (k+1)]
  constructor
  ·rintro⟨a,b⟩ i h
   cases i with
   | zero=>exact a
   | succ i=>have:=b i (by simpa using h); simp only[List.getElem_cons_succ]; rw[show k+(i+1)=k+1+i by omega]; exact this
  ·intro hh
   refine⟨hh 0 (by simp),fun i h => ?_⟩
   have:=hh (i+1) (by simpa using h)
   simp only[List.getElem_cons_succ] at this
   rw[show k+1+i=k+(i+1) by omega]; exact this
theorem repNew_eq {c:TConf} {i:Int} (h:confOk c=true) (h0:0≤i) (h1:i<c.1):repNew c i=(newRep i,true):=by
 unfold repNew
 rw[newRep_ok h h0 h1]; rfl
structure WI (w:TWorld):Prop where
 conf:confOk w.1=true
 liars:w.2.1.length≤7 ∧ ∀ x∈w.2.1,0≤x∧x<w.1.1
 len:(w.2.2.1.length:Int)=w.1.1
 reps : ∀ i (h:i<w.2.2.1.length),repOk w.1 w.2.2.1[i]=true∧(w.2.2.1[i]).1=(i:Int)
 net:w.2.2.2.1.length≤60 ∧ ∀ x∈w.2.2.2.1,(0≤x.1∧x.1<w.1.1)∧x.2.length≤1000000
 said:w.2.2.2.2.length≤300 ∧ ∀ s∈w.2.2.2.2,(nameOk s.2.1=true∧viewOf s.2.1=s.1)∧(0≤s.2.2∧s.2.2<w.1.1)
theorem newReps_eq {c:TConf} (h:confOk c=true):newReps c=(List.range c.1.toNat).map (fun (i:Nat)=>newRep (i:Int)):=by
 have hb:=confOk_b h
 unfold newReps
 rw[if_pos h]
 refine List.map_congr_left fun i hi => ?_
 have:=List.mem_range.1 hi
 rw[repNew_eq h (by omega) (by omega)]
theorem newWorld_WI {c:TConf} {liars:TIntS} (h:confOk c=true) (hl:liars.length≤7) (hm : ∀ x∈liars,0≤x∧x<c.1):WI (newWorld c liars):=by
 have hb:=confOk_b h
 refine⟨h,⟨hl,hm⟩,?_,?_,⟨by simp[newWorld],by simp[newWorld]⟩,⟨by simp[newWorld],by simp[newWorld]⟩⟩
 ·simp only[newWorld,newReps_eq h,List.length_map,List.length_range]; omega
 ·intro i hi
  simp only[newWorld,newReps_eq h,List.length_map,List.length_range] at hi
  simp only[newWorld,newReps_eq h,List.getElem_map,List.getElem_range]
  exact⟨newRep_ok h (by omega) (by omega),rfl⟩
end G448
namespace G448
open Ev Go
set_option maxRecDepth 100000
theorem WI.setRep {c:TConf} {l:TIntS} {reps:TRepS} {rest:TWireS×TSaidS} (h:WI (c,l,reps,rest)) {i:Nat} (hi:i<reps.length) {r:TRep} (k:Kp c reps[i] r):WI (c,l,reps.set i r,rest):=by
 obtain⟨h1,h2,h3,h4,h5,h6⟩:=h
 refine⟨h1,h2,?_,?_,h5,h6⟩
 ·dsimp only at h3 ⊢
  rw[List.length_set]; exact h3
 ·intro j hj
  dsimp only at hj h4 ⊢
  rw[List.length_set] at hj
  rw[List.getElem_set]
  by_cases e:i=j
  ·subst e
   rw[if_pos rfl]
   exact⟨k.1,k.2.trans (h4 i hi).2⟩
  ·rw[if_neg e]
   exact h4 j hj
def Step (w:TWorld) (o o':Option (TWorld×Int×Unit)):Prop:=
 (∃ w',o=some (w',0,())∧WI w'∧has o'=false)∨(∃ n:Int,n≠0∧o=some (w,n,())∧o'=some (w,n,()))
theorem Step.same {w:TWorld} {n:Int} (hn:n≠0):Step w (some (w,n,())) (some (w,n,())):=.inr ⟨n,hn,rfl,rfl⟩
theorem Step.next {w w':TWorld} {o':Option (TWorld×Int×Unit)} (h:WI w') (ho:has o'=false):Step w (some (w',0,())) o':=.inl ⟨w',rfl,h,ho⟩
theorem Step.wrap {w:TWorld} {o o':Option (TWorld×Int×Unit)} (h:Step w o o'):Step w (o.bind fun r=>some (r.1,r.2.1,())) (o'.bind fun r=>some (r.1,r.2.1,())):=by
 rcases h with⟨w',rfl,h,k⟩|⟨n,hn,rfl,rfl⟩
 ·refine .inl ⟨w',rfl,h,?_⟩
  cases o' with
  | none=>rfl
  | some r=>exact k
 ·exact .inr ⟨n,hn,rfl,rfl⟩
theorem WI.rep {c:TConf} {l:TIntS} {reps:TRepS} {rest:TWireS×TSaidS} (h:WI (c,l,reps,rest)) {i:Int} (h0:0≤i) (h1:i<(reps.length:Int)) : ∃ r,reps[i.toNat]?=some r∧repOk c r=true∧wRep r≤260000 ∧ ∀ r',Kp c r r'→WI (c,l,reps.set i.toNat r',rest):=by
 have hi:i.toNat<reps.length:=by omega
 have k:=(h.reps i.toNat hi).1
 exact⟨reps[i.toNat],List.getElem?_eq_getElem hi,k,repOk_w k,fun r' kk=>h.setRep hi kk⟩
theorem kp_asked {c:TConf} {r:TRep} (h:repOk c r=true):Kp c r (r.1,r.2.1,r.2.1,r.2.2.2):=by
 refine⟨?_,rfl⟩
 unfold repOk at h ⊢
 simp only[Bool.and_eq_true,decide_eq_true_eq] at h ⊢
 exact⟨h.1,h.2.1,h.2.2.1,⟨by have:=h.2.2.1; omega,by have:=h.2.2.1; omega⟩,h.2.2.2.2⟩
theorem l20Ask_step {w:TWorld} (h:WI w) (i:Int) (h0:0≤i) (h1:i<(w.2.2.1.length:Int)):Step w (spec_l20Ask (w,i,())) (spec_l20Ask_rd (w,i,())):=by
 obtain⟨c,l,reps,rest⟩:=w
 obtain⟨r,hr,hok,hw,hset⟩:=h.rep h0 h1
 have ha:=ask_w c r
 have kt:=(kp_asked hok).trans (kp_tellAll (kp_asked hok).1 (1,0,(ask c r).1,(0,[],[]),(0,[],[]),0,0,0,0,0))
 have hw2:=repOk_w kt.1
 have hw1:=repOk_w (kp_asked hok).1
 have kb:=kt.trans (kp_hearBlock kt.1 (ask c r).1)
 dsimp only at h1
 unfold spec_l20Ask spec_l20Ask_rd
 simp only[h0,h1,and_self,if_true,rd_get (e:=ERep) hr,spec_Ask_eq c r (by omega),Option.bind_some]
 cases (ask c r).2
 ·exact Step.same (show (_:Int)≠0 from by first|exact (by decide:(3:Int)≠0)|exact (by decide:(4:Int)≠0))
 have e1:=spec_TellAll_eq c (r.1,r.2.1,r.2.1,r.2.2.2) (1,0,(ask c r).1,(0,[],[]),(0,[],[]),0,0,0,0,0) (by omega) (by simp only[wMsg,wPart,wQc,wIntS,List.length_nil]; omega)
 have e2:=spec_HearBlock_eq c (tellAll c (r.1,r.2.1,r.2.1,r.2.2.2) (1,0,(ask c r).1,(0,[],[]),(0,[],[]),0,0,0,0,0)).1 (ask c r).1 (by omega)
 simp only[Bool.not_true,cond_false,spec_l15Copy_eq r (by omega),Option.bind_some,e1,e2]
 cases (tellAll c (r.1,r.2.1,r.2.1,r.2.2.2) (1,0,(ask c r).1,(0,[],[]),(0,[],[]),0,0,0,0,0)).2
 ·exact Step.same (show (_:Int)≠0 from by first|exact (by decide:(3:Int)≠0)|exact (by decide:(4:Int)≠0))
 cases (hearBlock c (tellAll c (r.1,r.2.1,r.2.1,r.2.2.2) (1,0,(ask c r).1,(0,[],[]),(0,[],[]),0,0,0,0,0)).1 (ask c r).1).2
 ·exact Step.same (show (_:Int)≠0 from by first|exact (by decide:(3:Int)≠0)|exact (by decide:(4:Int)≠0))
 exact Step.next (hset _ kb) rfl
end G448
namespace G448
open Ev
def hasSaid (l:TSaidS) (v:TSaid):Bool:=l.any (fun x=>x.1==v.1 && (x.2.1==v.2.1 && x.2.2==v.2.2))
def learnIn (acc:TSaidS) (x:TSaid):TSaidS:=bif decide ((acc.length:Int)<300) && !hasSaid acc x then acc++[x] else acc
def learnPost (id:Int) (acc:TSaidS) (p:TPost):TSaidS:=(saidOf id p.2).foldl learnIn acc
def learn (w:TWorld) (id:Int) (sent:TPostS):TWorld:=
 bif (honest w).any (· == id) then (w.1,w.2.1,w.2.2.1,w.2.2.2.1,sent.foldl (learnPost id) w.2.2.2.2) else w
theorem learnIn_len (acc:TSaidS) (x:TSaid) (h:acc.length≤137438953472):(learnIn acc x).length≤137438953472:=by
 unfold learnIn
 by_cases hc:(acc.length:Int)<300
 ·cases hasSaid acc x<;>simp[hc]<;>omega
 ·simp[hc]; omega
theorem learnPost_len (id:Int) (p:TPost) (acc:TSaidS) (h:acc.length≤137438953472):(learnPost id acc p).length≤137438953472:=
 fold_inv (saidOf id p.2) learnIn (fun _ s=>s.length≤137438953472) (fun _ s x _ _ hs=>learnIn_len s x hs) h
theorem learnIn_w (acc:TSaidS) (x:TSaid):wSaidS (learnIn acc x)≤wSaidS acc+(1+wSaid x):=by
 unfold learnIn
 cases (decide ((acc.length:Int)<300) && !hasSaid acc x)
 ·simp
 ·simp[wSaidS]; omega
theorem learnIns_w : ∀ (l:TSaidS) (acc:TSaidS),wSaidS (l.foldl learnIn acc)≤wSaidS acc+wSaidS l
 | [],acc=>by simp[wSaidS]
 | x::l,acc=>by
  rw[List.foldl_cons]
  have h1:=learnIns_w l (learnIn acc x)
  have h2:=learnIn_w acc x
  simp only[wSaidS,List.length_cons,List.map_cons,List.sum_cons] at *
  omega
theorem learnPost_w (id:Int) (p:TPost) (acc:TSaidS):wSaidS (learnPost id acc p)≤wSaidS acc+(1+wPost p):=by
 have h1:=learnIns_w (saidOf id p.2) acc
 have h2:=saidOf_w id p.2
 unfold learnPost
 simp only[wPost]
 omega
theorem learnPosts_w (id:Int) : ∀ (l:TPostS) (acc:TSaidS),wSaidS (l.foldl (learnPost id) acc)≤wSaidS acc+wPostS l
 | [],acc=>by simp[wPostS]
 | p::l,acc=>by
  rw[List.foldl_cons]
  have h1:=learnPosts_w id l (learnPost id acc p)
  have h2:=learnPost_w id p acc
  simp only[wPostS,List.length_cons,List.map_cons,List.sum_cons] at *
  omega
theorem learn_w (w:TWorld) (id:Int) (sent:TPostS):wWorld (learn w id sent)≤wWorld w+wPostS sent:=by
 unfold learn
 have:=learnPosts_w id sent w.2.2.2.2
 cases (honest w).any (· == id)
 ·simp
 ·simp only[cond_true,wWorld]; omega
theorem spec_Learn_eq (w:TWorld) (id:Int) (sent:TPostS) (hw:wWorld w≤137438953472) (hs:wPostS sent≤137438953472):spec_Learn (w,id,sent,())=some (learn w id sent,()):=by
 have h1:w.2.1.length≤137438953472:=by simp only[wWorld,wIntS] at hw; omega
 have h2:w.2.2.1.length≤137438953472:=by simp only[wWorld,wRepS] at hw; omega
 have h3:w.2.2.2.2.length≤137438953472:=by simp only[wWorld,wSaidS] at hw; omega
 have h4:=honest_len w
 have hl:sent.length≤137438953472:=by simp only[wPostS] at hs; omega
 unfold spec_Learn learn
 simp only[spec_l19Copy_eq w hw,spec_Honest_eq w h1 h2,spec_SetHas_eq (honest w) id (by omega),Option.bind_some]
 cases (honest w).any (· == id)
 ·rfl
 simp only[Bool.not_true,cond_false,cond_true]
 refine (fold_loop (fun i (s:TSaidS)=>(i,(w.1,w.2.1,w.2.2.1,w.2.2.2.1,s),())) sent (learnPost id) (fun s=>some ((w.1,w.2.1,w.2.2.1,w.2.2.2.1,s),())) (by omega) (fun _ s=>s.length≤137438953472) ?_ ?_ h3)
 ·intro rec s hs'; simp
 ·intro rec i s p hx hi hs'
  refine⟨learnPost_len id p s hs',?_⟩
  have hp:wMsg p.2≤137438953472:=by have:=sum_mem wPost (List.mem_of_getElem? hx); simp only[wPost] at this; unfold wPostS at hs; omega
  have hso:=saidOf_w id p.2
  have hsl:(saidOf id p.2).length≤137438953473:=by simp only[wSaidS] at hso; omega
  simp only[Int.toNat_natCast,ge_ok hi,decide_true,cond_true,if_true,and_self,rd_get (e:=(.pair .i64 (.pair .i64 (.pair .i64 (.pair (.pair .str (.pair .i64 (.pair .str (.sl 0 .i64)))) (.pair (.pair .i64 (.pair .str (.sl 0 .i64))) (.pair (.pair .i64 (.pair .str (.sl 0 .i64))) (.pair .i64 (.pair .i64 (.pair .i64 (.pair .i64 .i64))))))))))) hx,
   spec_SaidOf_eq id p.2 (MsgW.of (by omega)),Option.bind_some,wr_nat (show i<4611686018427387904 by omega)]
  refine fold_loop (fun j (s:TSaidS)=>(j,(w.1,w.2.1,w.2.2.1,w.2.2.2.1,s),())) (saidOf id p.2) learnIn (fun s=>rec ((i:Int)+1,(w.1,w.2.1,w.2.2.1,w.2.2.2.1,s),())) (by omega) (fun _ s=>s.length≤137438953472) ?_ ?_ hs'
  ·intro rec2 t ht; simp
  ·intro rec2 j t x hy hj ht
   refine⟨learnIn_len t x ht,?_⟩
   simp only[Int.toNat_natCast,ge_ok hj,decide_true,cond_true,if_true,and_self,rd_get (e:=(.pair .i64 (.pair .str .i64))) hy,spec_l18Has_eq t x.1 x.2.1 x.2.2 (by omega),Option.bind_some,wr_nat (show j<4611686018427387904 by omega),List.length_cons,List.length_nil]
   unfold learnIn hasSaid
   by_cases hc:(t.length:Int)<300
   ·simp only[hc,decide_true,cond_true,Bool.true_and]
    cases t.any (fun y=>y.1==x.1 && (y.2.1==x.2.1 && y.2.2==x.2.2))
    ·simp only[Bool.not_false,cond_true]
     rw[if_pos (by omega)]
    ·rfl
   ·simp only[hc,decide_false,cond_false,Bool.false_and]
theorem impl_Learn_eq (w:TWorld) (id:Int) (sent:TPostS) (hw:wWorld w≤137438953472) (hs:wPostS sent≤137438953472):impl_Learn (w,id,sent,())=some (learn w id sent,()):=by
 have h1:w.2.1.length≤137438953472:=by simp only[wWorld,wIntS] at hw; omega
 have h2:w.2.2.1.length≤137438953472:=by simp only[wWorld,wRepS] at hw; omega
 have h3:w.2.2.2.2.length≤137438953472:=by simp only[wWorld,wSaidS] at hw; omega
 have h4:=honest_len w
 have hl:sent.length≤137438953472:=by simp only[wPostS] at hs; omega
 unfold impl_Learn learn
 simp only[impl_copyWorld_eq w hw,impl_Honest_eq w h1 h2,impl_SetHas_eq (honest w) id (by omega),Option.bind_some]
 cases (honest w).any (· == id)
 ·rfl
 simp only[Bool.not_true,cond_false,cond_true]
 refine (fold_loop (fun i (s:TSaidS)=>(i,(w.1,w.2.1,w.2.2.1,w.2.2.2.1,s),())) sent (learnPost id) (fun s=>some ((w.1,w.2.1,w.2.2.1,w.2.2.2.1,s),())) (by omega) (fun _ s=>s.length≤137438953472) ?_ ?_ h3)
 ·intro rec s hs'; simp
 ·intro rec i s p hx hi hs'
  refine⟨learnPost_len id p s hs',?_⟩
  have hp:wMsg p.2≤137438953472:=by have:=sum_mem wPost (List.mem_of_getElem? hx); simp only[wPost] at this; unfold wPostS at hs; omega
  have hso:=saidOf_w id p.2
  have hsl:(saidOf id p.2).length≤137438953473:=by simp only[wSaidS] at hso; omega
  simp only[Int.toNat_natCast,ge_ok hi,decide_true,cond_true,if_true,and_self,rd_get (e:=(.pair .i64 (.pair .i64 (.pair .i64 (.pair (.pair .str (.pair .i64 (.pair .str (.sl 0 .i64)))) (.pair (.pair .i64 (.pair .str (.sl 0 .i64))) (.pair (.pair .i64 (.pair .str (.sl 0 .i64))) (.pair .i64 (.pair .i64 (.pair .i64 (.pair .i64 .i64))))))))))) hx,
   impl_SaidOf_eq id p.2 (MsgW.of (by omega)),Option.bind_some,wr_nat (show i<4611686018427387904 by omega)]
  refine fold_loop (fun j (s:TSaidS)=>(j,(w.1,w.2.1,w.2.2.1,w.2.2.2.1,s),())) (saidOf id p.2) learnIn (fun s=>rec ((i:Int)+1,(w.1,w.2.1,w.2.2.1,w.2.2.2.1,s),())) (by omega) (fun _ s=>s.length≤137438953472) ?_ ?_ hs'
  ·intro rec2 t ht; simp
  ·intro rec2 j t x hy hj ht
   refine⟨learnIn_len t x ht,?_⟩
   simp only[Int.toNat_natCast,ge_ok hj,decide_true,cond_true,if_true,and_self,rd_get (e:=(.pair .i64 (.pair .str .i64))) hy,Contains_Said_eq t x (by omega),Option.bind_some,wr_nat (show j<4611686018427387904 by omega),List.length_cons,List.length_nil]
   unfold learnIn hasSaid
   cases t.any (fun y=>y.1==x.1 && (y.2.1==x.2.1 && y.2.2==x.2.2))
   ·simp only[Bool.not_false,cond_true,Bool.and_true]
    by_cases hc:(t.length:Int)<300
    ·simp only[hc,decide_true,cond_true]
     rw[if_pos (by omega)]
    ·simp only[hc,decide_false,cond_false]
   ·simp only[Bool.not_true,cond_false,Bool.and_false]
end G448
namespace G448
open Ev Go
set_option maxRecDepth 100000
theorem late_step {c:TConf} {l:TIntS} {reps:TRepS} {rest:TWireS×TSaidS} {i:Int} {r:TRep} (hok:repOk c r=true) (hw:wRep r≤260000) (hset : ∀ r',Kp c r r'→WI (c,l,reps.set i.toNat r',rest)) :
  Step (c,l,reps,rest) ((spec_Late (c,r,())).bind fun r6=>bif !r6.2.1 then some ((c,l,reps,rest),3,()) else some ((c,l,reps.set i.toNat r6.1,rest),0,())) ((spec_Late (c,r,())).bind fun r6=>bif !r6.2.1 then some ((c,l,reps,rest),3,()) else none):=by
 rw[spec_Late_eq c r (by omega),Option.bind_some,Option.bind_some]
 dsimp only
 cases (late c r).2
 ·exact Step.same (show (3:Int)≠0 by decide)
 ·exact Step.next (hset _ (kp_late hok)) rfl
theorem fall_step {c:TConf} {l:TIntS} {reps:TRepS} {rest:TWireS×TSaidS} {i:Int} {r:TRep} (keep:Int) (hok:repOk c r=true) (hf:diskOk (fallM r.2.2.2.2.2.2.1 keep)=true) (hset : ∀ r',Kp c r r'→WI (c,l,reps.set i.toNat r',rest)) :
  WI (c,l,reps.set i.toNat (rise c (r.1,r.2.1,r.2.2.1,r.2.2.2.1,r.2.2.2.2.1,r.2.2.2.2.2.1,fallM r.2.2.2.2.2.2.1 keep,r.2.2.2.2.2.2.2)),rest):=by
 refine hset _ ?_
 have h:repOk c (r.1,r.2.1,r.2.2.1,r.2.2.2.1,r.2.2.2.2.1,r.2.2.2.2.2.1,fallM r.2.2.2.2.2.2.1 keep,r.2.2.2.2.2.2.2)=true:=by
  unfold repOk at hok ⊢
  simp only[Bool.and_eq_true] at hok ⊢
  obtain⟨a1,a2,a3,a4,a5,a6,a7,a8,a9⟩:=hok
  exact⟨a1,a2,a3,a4,a5,a6,a7,hf,a9⟩
 exact⟨(kp_rise h).1,(kp_rise h).2⟩
theorem hear_step {c:TConf} {l:TIntS} {reps:TRepS} {rest:TWireS×TSaidS} {i:Int} {r:TRep} {m:TMsg} (hok:repOk c r=true) (hw:wRep r≤260000) (hm:wMsg m≤137438953472) (hset : ∀ r',Kp c r r'→WI (c,l,reps.set i.toNat r',rest)) :
  Step (c,l,reps,rest) ((spec_Hear (c,r,m,())).bind fun r7=>bif !r7.2.1 then some ((c,l,reps,rest),3,()) else bif m.1 != 4 then some ((c,l,reps,rest),3,()) else some ((c,l,reps.set i.toNat r7.1,rest),0,())) ((spec_Hear (c,r,m,())).bind fun r7=>bif !r7.2.1 then some ((c,l,reps,rest),3,()) else bif m.1 != 4 then some ((c,l,reps,rest),3,()) else none):=by
 rw[spec_Hear_eq c r m (by omega) hm,Option.bind_some,Option.bind_some]
 dsimp only
 cases (hearS c r m).2
 ·exact Step.same (show (3:Int)≠0 by decide)
 cases (m.1 != 4)
 ·exact Step.next (hset _ (kp_hearS hok m)) rfl
 ·exact Step.same (show (3:Int)≠0 by decide)
end G448
namespace G448
open Ev Go
set_option maxRecDepth 100000
theorem fallM_ok {d:TDisk} (h:diskOk d=true) (keep:Int):diskOk (fallM d keep)=true:=by
 have hb:=fallN_bnd h keep
 have h':=diskOk_iff.1 h
 unfold fallM
 rw[if_pos h]
 refine diskOk_iff.2 ?_
 dsimp only
 rw[List.length_take]
 omega
end G448
namespace G448
open Ev Go
set_option maxRecDepth 100000
theorem part_name {r:TRep} (hw:wRep r≤260000) {p:TPart} (hp:p∈r.2.2.2.2.2.1):p.2.1.length≤260000:=by
 have h:=sum_mem wPart hp
 simp only[wRep,wPartS] at hw
 simp only[wPart] at h
 omega
theorem step_loop {w:TWorld} {G G':(Int×TWorld×TWorld×Unit→Option (TWorld×Int×Unit))→Int×TWorld×TWorld×Unit→Option (TWorld×Int×Unit)} {z:TWorld} (n0:Nat)
  (h0 : ∀ rec rec',Step w (G rec (-1,w,z,())) (G' rec' (-1,w,z,())))
  (hs : ∀ rec rec' (j:Nat),j<n0→(Step w (rec ((j:Int) - 1,w,z,())) (rec' ((j:Int) - 1,w,z,())))→Step w (G rec ((j:Int),w,z,())) (G' rec' ((j:Int),w,z,()))) :
  ∀ (n m:Nat),m≤n0→m<n→Step w (iter G n ((m:Int) - 1,w,z,())) (iter G' n ((m:Int) - 1,w,z,()))
 | 0,m,_,h=>by omega
 | n+1,0,_,_=>h0 _ _
 | n+1,m+1,hm,h=>by
  have e:(((m+1:Nat):Int) - 1)=(m:Int):=by omega
  rw[e]
  exact hs _ _ m (by omega) (step_loop n0 h0 hs n m (by omega) (by omega))
theorem l20Push_step {w:TWorld} (h:WI w) (i:Int) (h0:0≤i) (h1:i<(w.2.2.1.length:Int)):Step w (spec_l20Push (w,i,())) (spec_l20Push_rd (w,i,())):=by
 obtain⟨c,l,reps,rest⟩:=w
 obtain⟨r,hr,hok,hw,hset⟩:=h.rep h0 h1
 dsimp only at h1
 have ht:(r.2.2.2.2.2.1.length:Int)≤260000:=by simp only[wRep,wPartS] at hw; omega
 unfold spec_l20Push spec_l20Push_rd
 simp only[h0,h1,and_self,if_true,rd_get (e:=ERep) hr]
 rw[wr_id' (n:=(r.2.2.2.2.2.1.length:Int) - 1) (by omega) (by omega)]
 refine step_loop r.2.2.2.2.2.1.length ?_ ?_ fuel _ (Nat.le_refl _) (by rw[fuel_def]; omega)
 ·intro rec rec'
  exact Step.same (show (3:Int)≠0 by decide)
 ·intro rec rec' j hj hrec
  have hx:=List.getElem?_eq_getElem hj
  have hj':(j:Int)<(r.2.2.2.2.2.1.length:Int):=by omega
  have hn:=part_name hw (List.getElem_mem hj)
  simp only[ge_ok,hj',Int.natCast_nonneg,ge_iff_le,decide_true,cond_true,and_self,if_true,Int.toNat_natCast,rd_get (e:=EPart) hx]
  cases ((r.2.2.2.2.2.1[j]).2.1==[])
  ·simp only[cond_false,spec_Climb_eq c r _ _ true (show wRep r≤15000000 by omega) (show (r.2.2.2.2.2.1[j]).2.1.length≤5000000 by omega),Option.bind_some,h0,h1,and_self,if_true]
   cases (climb c r (r.2.2.2.2.2.1[j]).1 (r.2.2.2.2.2.1[j]).2.1 true).2
   ·exact Step.same (show (3:Int)≠0 by decide)
   ·exact Step.next (hset _ (kp_climb hok _ _ _)) rfl
  ·simp only[cond_true]
   rw[wr_id' (n:=(j:Int) - 1) (by omega) (by omega)]
   exact hrec
end G448
namespace G448
open Ev Go
set_option maxRecDepth 100000
def SaidI (n:Int) (l:TSaidS):Prop:=l.length≤300 ∧ ∀ s∈l,(nameOk s.2.1=true∧viewOf s.2.1=s.1)∧(0≤s.2.2∧s.2.2<n)
theorem learnIn_I {n:Int} {acc:TSaidS} {x:TSaid} (h:SaidI n acc) (hx:(nameOk x.2.1=true∧viewOf x.2.1=x.1)∧(0≤x.2.2∧x.2.2<n)):SaidI n (learnIn acc x):=by
 unfold learnIn
 cases hc:decide ((acc.length:Int)<300) && !hasSaid acc x
 ·exact h
 ·simp only[Bool.and_eq_true,decide_eq_true_eq] at hc
  refine⟨by simp only[cond_true,List.length_append,List.length_cons,List.length_nil]; omega,fun s hs => ?_⟩
  simp only[cond_true,List.mem_append,List.mem_cons,List.not_mem_nil,or_false] at hs
  rcases hs with hs|rfl
  ·exact h.2 s hs
  ·exact hx
theorem saidOf_who {id:Int} {m:TMsg} : ∀ s∈saidOf id m,s.2.2=id:=by
 unfold saidOf
 repeat' split
 all_goals simp
theorem qcOk_said {c:TConf} {q:TQc} (h:qcOk c q=true):nameOk q.2.1=true∧viewOf q.2.1=q.1:=by
 unfold qcOk at h
 simp only[Bool.and_eq_true,beq_iff_eq] at h
 exact⟨h.2.1,h.2.2.1⟩
theorem saidPart_ok {c:TConf} {m:TMsg} (hm:msgOk c m=true) (h4 : ¬ m.1=4) (h : ¬ (saidPart m).2.1=[]):nameOk (saidPart m).2.1=true∧viewOf (saidPart m).2.1=(saidPart m).1:=by
 unfold msgOk at hm
 unfold saidPart at h ⊢
 simp only[Bool.and_eq_true] at hm
 have k:=hm.2.2
 clear hm
 by_cases e2:m.1=2
 ·have e1:(m.1==1)=false:=by rw[e2]; rfl
  have e22:(m.1==2)=true:=by rw[e2]; rfl
  rw[e1,e22] at k
  rw[if_pos e2] at h ⊢
  simp only[cond_true,cond_false,Bool.and_eq_true,partOk,Bool.or_eq_true,beq_iff_eq] at k
  rcases k.1.2.2.2.2 with e|e
  ·exact absurd e h
  ·exact e
 by_cases e1:m.1=1
 ·have e11:(m.1==1)=true:=by rw[e1]; rfl
  rw[e11] at k
  rw[if_neg e2,if_pos e1] at h ⊢
  simp only[cond_true,blockOk,Bool.and_eq_true] at k
  exact qcOk_said k.1
 rw[if_neg e2,if_neg e1] at h ⊢
 have e11:(m.1==1)=false:=by simp[e1]
 have e22:(m.1==2)=false:=by simp[e2]
 have e44:(m.1==4)=false:=by simp[h4]
 rw[e11,e22,e44] at k
 cases e33:(m.1==3)
 ·rw[e33] at k; simp at k
 ·rw[e33] at k
  simp only[cond_true,cond_false,Bool.and_eq_true] at k
  exact qcOk_said k.2.1
theorem saidOf_name {c:TConf} {id:Int} {m:TMsg} (hm:msgOk c m=true) : ∀ s∈saidOf id m,nameOk s.2.1=true∧viewOf s.2.1=s.1:=by
 unfold saidOf
 by_cases h4:m.1=4
 ·simp[h4]
 rw[if_neg h4]
 by_cases h:(saidPart m).2.1=[]
 ·simp[h]
 rw[if_neg h]
 have k:=saidPart_ok hm h4 h
 split
 ·intro s hs
  simp only[List.mem_cons,List.not_mem_nil,or_false] at hs
  rw[hs]; exact k
 ·simp
theorem learnAll_I {n:Int} : ∀ (l:TSaidS) {acc:TSaidS},SaidI n acc→(∀ x∈l,(nameOk x.2.1=true∧viewOf x.2.1=x.1)∧(0≤x.2.2∧x.2.2<n))→SaidI n (l.foldl learnIn acc)
 | [],_,h,_=>h
 | x::l,_,h,hl=>learnAll_I l (learnIn_I h (hl x (by simp))) fun y hy=>hl y (by simp[hy])
theorem learnPosts_I {c:TConf} {n:Int} {id:Int} (hid:0≤id∧id<n) : ∀ (ps:TPostS) {acc:TSaidS},SaidI n acc→(∀ p∈ps,msgOk c p.2=true)→SaidI n (ps.foldl (learnPost id) acc)
 | [],_,h,_=>h
 | p::ps,_,h,hp=>by
  refine learnPosts_I hid ps ?_ fun q hq=>hp q (by simp[hq])
  refine learnAll_I _ h fun x hx=>⟨saidOf_name (hp p (by simp)) x hx,?_⟩
  rw[saidOf_who x hx]; exact hid
theorem learn_WI {w:TWorld} (h:WI w) {id:Int} (hid:0≤id∧id<w.1.1) {ps:TPostS} (hp : ∀ p∈ps,msgOk w.1 p.2=true):WI (learn w id ps):=by
 unfold learn
 cases (honest w).any (· == id)
 ·exact h
 ·exact⟨h.conf,h.liars,h.len,h.reps,h.net,learnPosts_I hid ps h.said hp⟩
end G448
namespace G448
open Ev Go
set_option maxRecDepth 100000
def NetI (n:Int) (l:TWireS):Prop:=l.length≤60 ∧ ∀ x∈l,(0≤x.1∧x.1<n)∧x.2.length≤1000000
theorem sendOne_I {c:TConf} (hc:confOk c=true) {ws:TWireS} {p:TPost} (h:NetI c.1 ws) (hp:wMsg p.2≤100000):NetI c.1 (sendOne c ws p):=by
 have hb:=confOk_b hc
 have hl:=msgBytes_len c p.2
 unfold sendOne
 rw[wr_id' (n:=c.1 - 1) (by omega) (by omega)]
 cases decide (((msgBytes c p.2).length:Int)>0)
 ·exact h
 cases hr:decide (p.1≥0) && decide (p.1≤c.1 - 1)
 ·exact h
 cases hs:decide ((ws.length:Int)<60)
 ·exact h
 simp only[Bool.and_eq_true,decide_eq_true_eq] at hr hs
 refine⟨by simp only[cond_true,List.length_append,List.length_cons,List.length_nil]; omega,fun x hx => ?_⟩
 simp only[cond_true,List.mem_append,List.mem_cons,List.not_mem_nil,or_false] at hx
 rcases hx with hx|rfl
 ·exact h.2 x hx
 ·exact⟨⟨by omega,by dsimp only; omega⟩,by dsimp only; omega⟩
theorem sendAll_I {c:TConf} (hc:confOk c=true) : ∀ (ps:TPostS) {ws:TWireS},NetI c.1 ws→(∀ p∈ps,wMsg p.2≤100000)→NetI c.1 (sendAll c ws ps)
 | [],_,h,_=>h
 | p::ps,_,h,hp=>sendAll_I hc ps (sendOne_I hc h (hp p (by simp))) fun q hq=>hp q (by simp[hq])
theorem send_WI {w:TWorld} (h:WI w) {ps:TPostS} (hp : ∀ p∈ps,wMsg p.2≤100000):WI (w.1,w.2.1,w.2.2.1,sendAll w.1 w.2.2.2.1 ps,w.2.2.2.2):=
 ⟨h.conf,h.liars,h.len,h.reps,sendAll_I h.conf ps h.net hp,h.said⟩
end G448
namespace G448
open Ev Go
set_option maxRecDepth 100000
theorem sure_posts {c:TConf} {r:TRep} (hok:repOk c r=true):((∀ p∈(sureNow c r).2,wMsg p.2≤100000) ∧ ∀ p∈(sureNow c r).2,msgOk c p.2=true)∧(sureNow c r).2.length≤30∧wPostS (sureNow c r).2≤260000:=by
 obtain⟨h1,h2,h3,h4,h5,h6,h7,h8,h9,h10⟩:=repOk_parts hok
 have hw:=repOk_w hok
 have hs:=(sureNow_w c r).2
 refine⟨?_,?_,by omega⟩
 ·unfold sureNow
  rw[hok]
  have key : ∀ p∈r.2.2.2.2.2.2.2,msgOk c p.2=true:=fun p hp=>by
   have hk:=h10 p hp
   unfold heldOk at hk
   simp only[Bool.and_eq_true] at hk
   exact hk.1
  exact⟨fun p hp=>by have:=msgOk_w (key p hp); omega,key⟩
 ·unfold sureNow
  rw[hok]; exact h9
theorem WI.w_leS {w:TWorld} (h:WI w):wWorld w≤500000000:=by
 have hb:=confOk_b h.conf
 have key : ∀ {α:Type} (f:α→Nat) (N:Nat) (l:List α),(∀ x∈l,f x≤N)→(l.map f).sum≤l.length*N:=by
  intro α f N l
  induction l with
  | nil=>intro _; simp
  | cons x l ih=>
   intro hx
   have a:=hx x (by simp)
   have b:=ih fun y hy=>hx y (by simp[hy])
   simp only[List.map_cons,List.sum_cons,List.length_cons,Nat.succ_mul]
   omega
 have hl:=h.len
 have r1:=key wRep 260000 w.2.2.1 fun x hx=>by
  obtain⟨i,hi,rfl⟩:=List.getElem_of_mem hx
  exact repOk_w (h.reps i hi).1
 have r2:=key wWire 1000000 w.2.2.2.1 fun x hx=>(h.net.2 x hx).2
 have r3:=key wSaid 1000000 w.2.2.2.2 fun x hx=>by have:=nameOk_len (h.said.2 x hx).1.1; simp only[wSaid]; omega
 have e1:w.2.2.1.length*260000≤7*260000:=Nat.mul_le_mul_right _ (by omega)
 have e2:w.2.2.2.1.length*1000000≤60*1000000:=Nat.mul_le_mul_right _ h.net.1
 have e3:w.2.2.2.2.length*1000000≤300*1000000:=Nat.mul_le_mul_right _ h.said.1
 have:=h.liars.1; have:=h.net.1; have:=h.said.1
 simp only[wWorld,wIntS,wRepS,wWireS,wSaidS]
 omega
theorem WI.w_le {w:TWorld} (h:WI w):wWorld w≤137438953472:=Nat.le_trans h.w_leS (by decide)
end G448
namespace G448
open Ev Go
set_option maxRecDepth 100000
theorem l20Sure_step {w:TWorld} (h:WI w) (i:Int) (h0:0≤i) (h1:i<(w.2.2.1.length:Int)):Step w (spec_l20Sure (w,i,())) (spec_l20Sure_rd (w,i,())):=by
 obtain⟨c,l,reps,net,said⟩:=w
 obtain⟨r,hr,hok,hw,hset⟩:=h.rep h0 h1
 obtain⟨p1,p2,p3⟩:=sure_posts hok
 have hn:=h.net.1
 have hd:=h.said.1
 have hlen:=h.len
 dsimp only at h1 hn hd hlen
 have hW:=hset _ (kp_sureNow hok)
 have hL:=learn_WI hW (id:=i) (by dsimp only; omega) (ps:=(sureNow c r).2) p1.2
 have hS:=send_WI hL (ps:=(sureNow c r).2) p1.1
 unfold spec_l20Sure spec_l20Sure_rd
 simp only[h0,h1,and_self,if_true,rd_get (e:=ERep) hr,spec_SureNow_eq c r (by omega),Option.bind_some]
 cases decide (wr ((net.length:Int)+((sureNow c r).2.length:Int))>60)
 case true=>exact Step.same (show (4:Int)≠0 by decide)
 cases decide (wr ((said.length:Int)+((sureNow c r).2.length:Int))>300)
 case true=>exact Step.same (show (4:Int)≠0 by decide)
 simp only[cond_false,h0,h1,and_self,if_true]
 rw[spec_Learn_eq _ i _ hW.w_le (by omega),Option.bind_some]
 dsimp only
 rw[spec_l19Send_eq _ _ (by omega),Option.bind_some]
 exact Step.next hS rfl
end G448
namespace G448
open Ev Go
set_option maxRecDepth 100000
theorem l20Own_step {w:TWorld} (h:WI w) (d:TDeed) (h0:0≤d.2.1) (h1:d.2.1<(w.2.2.1.length:Int)) (hm:wMsg d.2.2.2≤137438953472):Step w (spec_l20Own (w,d,())) (spec_l20Own_rd (w,d,())):=by
 have hA:=l20Ask_step h d.2.1 h0 h1
 have hB:=l20Sure_step h d.2.1 h0 h1
 have hC:=l20Push_step h d.2.1 h0 h1
 obtain⟨c,l,reps,rest⟩:=w
 obtain⟨r,hr,hok,hw,hset⟩:=h.rep h0 h1
 have hdisk:=(repOk_parts hok).2.2.2.2.2.2.2.1
 have hf:=fallM_ok hdisk d.2.2.1
 have hW:=fall_step (i:=d.2.1) d.2.2.1 hok hf hset
 dsimp only at h1
 unfold spec_l20Own spec_l20Own_rd
 simp only[h0,h1,and_self,if_true,rd_get (e:=ERep) hr]
 cases d.1==1
 case true=>exact hA.wrap
 cases d.1==2
 case true=>exact hB.wrap
 cases d.1==6
 case true=>exact hC.wrap
 simp only[cond_false]
 cases d.1==8
 case true=>
  have hd:=diskOk_iff.1 hdisk
  have hd2:=diskOk_iff.1 hf
  have hwr:wRep (r.1,r.2.1,r.2.2.1,r.2.2.2.1,r.2.2.2.2.1,r.2.2.2.2.2.1,fallM r.2.2.2.2.2.2.1 d.2.2.1,r.2.2.2.2.2.2.2)≤1073741824:=by
   simp only[wRep,wDisk] at hw ⊢
   omega
  simp only[cond_true,spec_l15Copy_eq r (by omega),spec_FallTo_eq _ _ (show r.2.2.2.2.2.2.1.1.length≤17592186044416 by omega),Option.bind_some,spec_Rise_eq c _ hwr]
  exact Step.next hW rfl
 simp only[cond_false]
 cases d.1==7
 case true=>exact late_step hok hw hset
 exact hear_step hok hw hm hset
end G448
namespace G448
open Ev Go
set_option maxRecDepth 100000
theorem l20Lie_step {w:TWorld} (h:WI w) (d:TDeed) (hm:wMsg d.2.2.2≤137438953472):Step w (spec_l20Lie (w,d,())) (spec_l20Lie_rd (w,d,())):=by
 have hl:=h.liars.1
 have hs:=h.said.1
 unfold spec_l20Lie spec_l20Lie_rd
 simp only[spec_in_eq,Option.bind_some,spec_MayLie_eq w.1 w.2.1 w.2.2.2.2 d.2.2.2 (show wMsg d.2.2.2≤137438953472 by omega) (by omega) (by omega)]
 cases (decide (d.2.1≥0) && decide (d.2.1≤wr (w.1.1 - 1)))
 ·exact Step.same (show (2:Int)≠0 by decide)
 cases hml:mayLie w.1 w.2.1 w.2.2.2.2 d.2.2.2
 ·exact Step.same (show (5:Int)≠0 by decide)
 have hk:wMsg d.2.2.2≤3847:=by
  unfold mayLie at hml
  simp only[Bool.and_eq_true] at hml
  exact msgOk_w hml.1
 have hS:=send_WI h (ps:=[(d.2.1,d.2.2.2)]) fun p hp=>by
  simp only[List.mem_cons,List.not_mem_nil,or_false] at hp
  rw[hp]; dsimp only; omega
 cases decide ((w.2.2.2.1.length:Int)≥60)
 case true=>exact Step.same (show (4:Int)≠0 by decide)
 simp only[Bool.not_true,cond_false]
 rw[spec_l19Send_eq w _ (show wPostS [(d.2.1,d.2.2.2)]≤1073741824 by simp only[wPostS,wPost,List.map_cons,List.map_nil,List.sum_cons,List.sum_nil,List.length_cons,List.length_nil]; omega),Option.bind_some]
 exact Step.next hS rfl
end G448
namespace G448
open Ev Go
set_option maxRecDepth 100000
theorem cut_net {n:Int} {net:TWireS} (h:NetI n net) (i:Nat) (hi:i<net.length):NetI n ([]++(net.drop 0).take i++(net.drop (i+1)).take (net.length - (i+1))):=by
 refine⟨?_,fun x hx => ?_⟩
 ·have:=h.1
  simp only[List.nil_append,List.drop_zero,List.length_append,List.length_take,List.length_drop]
  omega
 ·simp only[List.nil_append,List.drop_zero,List.mem_append] at hx
  rcases hx with hx|hx
  ·exact h.2 x (List.mem_of_mem_take hx)
  ·exact h.2 x (List.mem_of_mem_drop (List.mem_of_mem_take hx))
theorem dup_net {n:Int} {net:TWireS} (h:NetI n net) (hl:net.length<60) {x:TWire} (hx:x∈net):NetI n (net++[(x.1,[]++x.2)]):=by
 refine⟨by simp only[List.length_append,List.length_cons,List.length_nil]; omega,fun y hy => ?_⟩
 simp only[List.mem_append,List.mem_cons,List.not_mem_nil,or_false] at hy
 rcases hy with hy|rfl
 ·exact h.2 y hy
 ·exact h.2 x hx
end G448
namespace G448
open Ev Go
set_option maxRecDepth 100000
theorem WI.withNet {c:TConf} {l:TIntS} {reps:TRepS} {net net':TWireS} {said:TSaidS} (h:WI (c,l,reps,net,said)) (hn:NetI c.1 net'):WI (c,l,reps,net',said):=
 ⟨h.conf,h.liars,h.len,h.reps,hn,h.said⟩
theorem honest_rng {w:TWorld} (hl:(w.2.2.1.length:Int)=w.1.1) {x:Int} (hx:(honest w).any (· == x)=true):0≤x∧x<(w.2.2.1.length:Int):=by
 unfold honest at hx
 simp at hx
 omega
end G448
namespace G448
open Ev Go
set_option maxRecDepth 100000
theorem l20Net_step {w:TWorld} (h:WI w) (d:TDeed):Step w (spec_l20Net (w,d,())) (spec_l20Net_rd (w,d,())):=by
 obtain⟨c,l,reps,net,said⟩:=w
 have hn:=h.net
 have hlen:=h.len
 have hl:=h.liars.1
 have hb:=confOk_b h.conf
 dsimp only at hn hlen hl hb
 unfold spec_l20Net spec_l20Net_rd
 dsimp only
 rw[wr_id' (n:=(net.length:Int) - 1) (by omega) (by omega),spec_in_eq]
 simp only[Option.bind_some]
 cases hin:decide (d.2.1≥0) && decide (d.2.1≤(net.length:Int) - 1)
 ·exact Step.same (show (2:Int)≠0 by decide)
 simp only[Bool.and_eq_true,decide_eq_true_eq] at hin
 have h0:0≤d.2.1:=hin.1
 have h1:d.2.1<(net.length:Int):=by omega
 have hi:d.2.1.toNat<net.length:=by omega
 have hx:=List.getElem?_eq_getElem hi
 have hmem:=List.getElem_mem hi
 generalize net[d.2.1.toNat]=x at hx hmem
 have hxb:=hn.2 x hmem
 have h2:d.2.1≤(net.length:Int):=by omega
 simp only[Bool.not_true,cond_false,h0,h1,and_self,if_true,rd_get (e:=EWire) hx]
 cases d.1==5
 case true=>
  simp only[cond_true]
  cases h60:decide ((net.length:Int)≥60)
  case true=>exact Step.same (show (4:Int)≠0 by decide)
  simp only[decide_eq_false_iff_not] at h60
  have e1:(0+x.2.length)*1≤70368744177664:=by omega
  have e2:(net.length+List.length [(x.1,[]++x.2)])*32≤70368744177664:=by simp only[List.length_cons,List.length_nil]; omega
  simp only[cond_false,e1,e2,if_true]
  exact Step.next (h.withNet (dup_net hn (by omega) hmem)) rfl
 have hcut:=cut_net hn d.2.1.toNat hi
 have hw1:wr (d.2.1+1)=d.2.1+1:=wr_id' (by omega) (by omega)
 have et:(d.2.1+1).toNat=d.2.1.toNat+1:=by omega
 have e3:0≤d.2.1+1∧d.2.1+1≤(net.length:Int)∧(net.length:Int)≤(net.length:Int):=⟨by omega,by omega,Int.le_refl _⟩
 have e4:(0+List.length (List.take (d.2.1.toNat - Int.toNat 0) (List.drop (Int.toNat 0) net)))*32≤70368744177664:=by
  have:=List.length_take_le (d.2.1.toNat - Int.toNat 0) (List.drop (Int.toNat 0) net); omega
 have e5:(List.length ([]++List.take (d.2.1.toNat - Int.toNat 0) (List.drop (Int.toNat 0) net))+List.length (List.take (Int.toNat (net.length:Int) - (d.2.1.toNat+1)) (List.drop (d.2.1.toNat+1) net)))*32≤70368744177664:=by
  have a1:=List.length_take_le (d.2.1.toNat - Int.toNat 0) (List.drop (Int.toNat 0) net)
  have a2:=List.length_take_le (Int.toNat (net.length:Int) - (d.2.1.toNat+1)) (List.drop (d.2.1.toNat+1) net)
  simp only[List.nil_append]
  omega
 simp only[cond_false,hw1,et,e4,e5,h0,h2,e3,Int.le_refl,and_self,if_true,true_and]
 have hcut':NetI c.1 ([]++List.take (d.2.1.toNat - Int.toNat 0) (List.drop (Int.toNat 0) net)++List.take (Int.toNat (net.length:Int) - (d.2.1.toNat+1)) (List.drop (d.2.1.toNat+1) net)):=hcut
 clear hcut
 generalize []++List.take (d.2.1.toNat - Int.toNat 0) (List.drop (Int.toNat 0) net)++List.take (Int.toNat (net.length:Int) - (d.2.1.toNat+1)) (List.drop (d.2.1.toNat+1) net)=net' at hcut'
 have hW:=h.withNet hcut'
 cases d.1==3
 ·exact Step.next hW rfl
 rw[spec_SetHas_eq l x.1 (by omega),Option.bind_some,Option.bind_some]
 dsimp only
 cases l.any (· == x.1)
 case true=>exact Step.next hW rfl
 have x0:0≤x.1:=hxb.1.1
 have x1:x.1<(reps.length:Int):=by omega
 obtain⟨r,hr,hok,hw,hset⟩:=hW.rep x0 x1
 have hm:=msgOf_w c x.2 (by omega)
 simp only[cond_true,Bool.not_false,spec_MsgOf_eq c x.2 (by omega),Option.bind_some,x0,x1,and_self,if_true,rd_get (e:=ERep) hr,spec_Hear_eq c r (msgOf c x.2).1 (by omega) (show wMsg (msgOf c x.2).1≤137438953472 by omega)]
 cases (hearS c r (msgOf c x.2).1).2
 ·exact Step.next hW rfl
 ·exact Step.next (hset _ (kp_hearS hok _)) rfl
end G448
namespace G448
open Ev Go
set_option maxRecDepth 100000
theorem l20One_step {w:TWorld} (h:WI w) (d:TDeed) (hm:wMsg d.2.2.2≤137438953472):Step w (spec_l20One (w,d,())) (spec_l20One_rd (w,d,())):=by
 have hN:=l20Net_step h d
 have hL:=l20Lie_step h d hm
 have hl:=h.liars.1
 have hlen:=h.len
 have hb:=confOk_b h.conf
 have hhl:(honest w).length≤w.2.2.1.length:=by
  unfold honest
  rw[List.length_map]
  have:=List.length_filter_le (fun (i:Nat) => !(w.2.1.any (· == (i:Int)))) (List.range w.2.2.1.length)
  rw[List.length_range] at this
  exact this
 unfold spec_l20One spec_l20One_rd
 dsimp only
 cases d.1==3
 case true=>exact hN.wrap
 cases d.1==4
 case true=>exact hN.wrap
 cases d.1==5
 case true=>exact hN.wrap
 cases d.1==10
 case true=>exact hL.wrap
 simp only[cond_false]
 rw[spec_Honest_eq w (by omega) (by omega),Option.bind_some,Option.bind_some]
 dsimp only
 rw[spec_SetHas_eq (honest w) d.2.1 (by omega),Option.bind_some,Option.bind_some]
 dsimp only
 cases hh:(honest w).any (· == d.2.1)
 ·exact Step.same (show (2:Int)≠0 by decide)
 have hr:=honest_rng hlen hh
 exact (l20Own_step h d hr.1 hr.2 hm).wrap
theorem l20Play_ens {w:TWorld} (h:WI w) (d:TDeed) (hm:wMsg d.2.2.2≤137438953472):Ens (spec_l20Play (w,d,())) fun r=>WI r.1:=by
 unfold spec_l20Play
 dsimp only
 rcases l20One_step h d hm with⟨w',e,k,e'⟩|⟨n,hn,e,e'⟩
 ·rw[e',e]
  exact Ens.some k
 ·rw[e',e]
  have:(n != 0)=true:=by simp[hn]
  simp only[has,hasP,Option.bind_some,this,cond_true]
  exact Ens.some h
end G448
namespace G448
open Ev Go
set_option maxRecDepth 100000
theorem newWorld_ok {c:TConf} {liars:TIntS} (h:confOk c=true) (hl:setOk c.1 liars=true) (hf:(liars.length:Int)≤faults c):worldOk (newWorld c liars)=true:=by
 have hb:=confOk_b h
 unfold worldOk newWorld
 simp only[h,hl,hf,newReps_eq h,List.length_map,List.length_range,List.length_nil,idxAll,Bool.and_eq_true,decide_eq_true_eq,beq_iff_eq,and_true,true_and]
 refine⟨by omega,by omega,by omega,(idxAll_iff _ _ 0).2 fun i hi => ?_⟩
 simp only[List.length_map,List.length_range] at hi
 simp only[List.getElem_map,List.getElem_range,repAt,Bool.and_eq_true,beq_iff_eq]
 refine⟨newRep_ok h (by omega) (by omega),?_⟩
 simp only[newRep,Nat.zero_add]
theorem start_ens {c:TConf} {liars:TIntS} (h:confOk c=true) (hl:setOk c.1 liars=true) (hf:(liars.length:Int)≤faults c):(worldNew c liars).1=newWorld c liars∧WI (newWorld c liars):=by
 have hb:=confOk_b h
 refine⟨?_,newWorld_WI h ?_ (setOk_mem hl)⟩
 ·unfold worldNew
  rw[newWorld_ok h hl hf]; rfl
 ·have:faults c≤7:=by
   unfold faults
   rw[if_pos h]; omega
  omega
theorem l20DrawStart_ens (c:TCur) (hc:CurOk c):Ens (spec_l20DrawStart (c,())) fun r=>0≤r.1.2.1∧WI r.2.1:=by
 unfold spec_l20DrawStart
 refine (l1PickInt_ens c _ hc (by simp)).bind fun r0 h0 => ?_
 refine (l1Below_ens (c.1,r0.1.2) 3 ⟨hc.1,h0.1⟩).bind fun r1 h1 => ?_
 refine (l1Once_ens (c.1,r1.1.2) 3 ⟨hc.1,h1.1⟩).bind fun r2 h2 => ?_
 have a1:=h1.2.2 (by decide)
 have hN:4≤r0.2.1∧r0.2.1≤7:=by
  have:=h0.2
  simp only[List.mem_cons,List.not_mem_nil,or_false] at this
  omega
 rw[wr_id' (n:=1+r1.2.1) (by omega) (by omega)]
 have hconf:confOk (r0.2.1,1+r1.2.1)=true:=by
  unfold confOk
  simp only[Bool.and_eq_true,decide_eq_true_eq]
  omega
 have hfa:(1:Int)≤faults (r0.2.1,1+r1.2.1):=by
  unfold faults
  rw[if_pos hconf]
  dsimp only; omega
 refine Ens.cond (fun _ => ?_) fun _ => ?_
 ·refine (l1Below_ens (c.1,r2.1.2) r0.2.1 ⟨hc.1,h2⟩).bind fun r3 h3 => ?_
  have a3:=h3.2.2 (by omega)
  have hs:setOk (r0.2.1,1+r1.2.1).1 [r3.2.1]=true:=by
   unfold setOk
   simp only[setGo,Bool.and_true,Bool.and_eq_true,Bool.not_eq_true',decide_eq_false_iff_not]
   omega
  have k:=start_ens hconf hs (by simpa using hfa)
  rw[spec_WorldNew_eq _ _ (by simp),Option.bind_some,k.1]
  exact Ens.some ⟨h3.1,k.2⟩
 ·have k:=start_ens (liars:=[]) hconf rfl (by simp only[List.length_nil]; omega)
  rw[spec_WorldNew_eq _ _ (by simp),Option.bind_some,k.1]
  exact Ens.some ⟨h2,k.2⟩
def VotesP (r:TCur×TMsg×Unit):Prop:=0≤r.1.2.1∧wMsg r.2.1≤4000∧(0≤r.2.1.2.2.2.1.1∧r.2.1.2.2.2.1.1≤60)∧nameOk r.2.1.2.2.2.1.2.1=true∧r.2.1.2.2.2.1.2.2.length≤400
theorem votes_loop (cur:TCur) (liars:TIntS) (said:TSaidS) (view:Int) (name:List UInt8) (hc:0≤cur.2.1) (hl:liars.length≤7) (hs:said.length≤300) (hv:0≤view∧view≤60) (hn:nameOk name=true) :
  Ens (iter (fun rec7 (x7:List Int×Int×Unit)=>bif decide (x7.2.1<(said.length:Int)) then if 0≤x7.2.1∧x7.2.1<(said.length:Int) then bif (rd ESaid said x7.2.1.toNat).1==view then if 0≤x7.2.1∧x7.2.1<(said.length:Int) then bif (rd ESaid said x7.2.1.toNat).2.1==name then if 0≤x7.2.1∧x7.2.1<(said.length:Int) then (spec_SetAdd (x7.1,(rd ESaid said x7.2.1.toNat).2.2,())).bind fun r8=>rec7 (r8.1,wr (x7.2.1+1),()) else none else rec7 (x7.1,wr (x7.2.1+1),()) else none else rec7 (x7.1,wr (x7.2.1+1),()) else none else some ((cur,((2,0,([],0,[],[]),(view,name,x7.1),(0,[],[]),0,0,0,0,0):TMsg),()):TCur×TMsg×Unit)) fuel ([]++liars,0,())) VotesP:=by
 refine Ens.loop (fun x=>(0≤x.2.1∧x.2.1≤(said.length:Int))∧(x.1.length:Int)≤7+x.2.1) (fun x=>((said.length:Int) - x.2.1).toNat) ?_ ⟨by simp,by simp; omega⟩ (by dsimp only; rw[fuel_def]; omega)
 intro rec x hx hrec
 obtain⟨x1,x2⟩:=hx
 refine Ens.cond (fun h => ?_) fun h => ?_
 ·have h:x.2.1<(said.length:Int):=by simpa using h
  have e1:wr (x.2.1+1)=x.2.1+1:=wr_id' (by omega) (by omega)
  rw[e1]
  have hno:Ens (rec (x.1,x.2.1+1,())) VotesP:=hrec _ ⟨⟨by dsimp only; omega,by dsimp only; omega⟩,by dsimp only; omega⟩ (by dsimp only; omega)
  refine Ens.ite ⟨x1.1,h⟩ (Ens.cond (fun _ => ?_) fun _=>hno)
  refine Ens.ite ⟨x1.1,h⟩ (Ens.cond (fun _ => ?_) fun _=>hno)
  refine Ens.ite ⟨x1.1,h⟩ ?_
  have hl:=setAdd_len x.1 (rd ESaid said x.2.1.toNat).2.2
  rw[spec_SetAdd_eq x.1 _ (by omega),Option.bind_some]
  exact hrec _ ⟨⟨by dsimp only; omega,by dsimp only; omega⟩,by dsimp only; omega⟩ (by dsimp only; omega)
 ·have hnl:=nameOk_len hn
  refine Ens.some ⟨hc,?_,hv,hn,by dsimp only; omega⟩
  simp only[wMsg,wBlock,wQc,wPart,wIntS,List.length_nil]
  omega
theorem l20DrawVotes_ens (c:TCur) {w:TWorld} (hc:CurOk c) (h:WI w):Ens (spec_l20DrawVotes (c,w,())) VotesP:=by
 have hl:=h.liars.1
 have hs:=h.said.1
 unfold spec_l20DrawVotes
 dsimp only
 refine (l1Below_ens c 4 hc).bind fun r0 h0 => ?_
 have a0:=h0.2.2 (by decide)
 rw[wr_id' (n:=1+r0.2.1) (by omega) (by omega),spec_NameOf_eq [] _ [] (by simp) (by omega) (by simp),Option.bind_some]
 refine Ens.ite (by omega) (Ens.cond (fun hp => ?_) fun _=>votes_loop (c.1,r0.1.2) w.2.1 w.2.2.2.2 _ _ h0.1 hl hs (by omega) (nameOf_ok _ _ _))
 have hp:(w.2.2.2.2.length:Int)>0:=by simpa using hp
 have hmin:spec_l1Min ((w.2.2.2.2.length:Int),8,())=some (if (w.2.2.2.2.length:Int)<8 then (w.2.2.2.2.length:Int) else 8,()):=by
  unfold spec_l1Min
  by_cases e:(w.2.2.2.2.length:Int)<8<;>simp[e]
 rw[hmin,Option.bind_some]
 have hmb:0<(if (w.2.2.2.2.length:Int)<8 then (w.2.2.2.2.length:Int) else 8)∧(if (w.2.2.2.2.length:Int)<8 then (w.2.2.2.2.length:Int) else 8)≤(w.2.2.2.2.length:Int):=by
  split<;>omega
 generalize (if (w.2.2.2.2.length:Int)<8 then (w.2.2.2.2.length:Int) else 8)=n at hmb
 refine (l1Below_ens (c.1,r0.1.2) n ⟨hc.1,h0.1⟩).bind fun r3 h3 => ?_
 have a3:=h3.2.2 hmb.1
 have e1:wr ((w.2.2.2.2.length:Int) - 1)=(w.2.2.2.2.length:Int) - 1:=wr_id' (by omega) (by omega)
 have e2:wr ((w.2.2.2.2.length:Int) - 1 - r3.2.1)=(w.2.2.2.2.length:Int) - 1 - r3.2.1:=wr_id' (by omega) (by omega)
 rw[e1,e2]
 refine Ens.ite (by omega) ?_
 have hi:((w.2.2.2.2.length:Int) - 1 - r3.2.1).toNat<w.2.2.2.2.length:=by omega
 have hx:=List.getElem?_eq_getElem hi
 have hmem:=List.getElem_mem hi
 generalize w.2.2.2.2[((w.2.2.2.2.length:Int) - 1 - r3.2.1).toNat]=x at hx hmem
 have hxb:=(h.said.2 x hmem).1
 have hvb:=viewOf_b hxb.1
 have hxl:=nameOk_len hxb.1
 rw[hxb.2] at hvb
 rw[rd_get (e:=ESaid) hx]
 refine (l1Once_ens (c.1,r3.1.2) 3 ⟨hc.1,h3.1⟩).bind fun r4 h4 => ?_
 refine Ens.cond (fun _ => ?_) fun _=>votes_loop (c.1,r4.1.2) w.2.1 w.2.2.2.2 _ _ h4 hl hs hvb hxb.1
 have hu:=upOf_len x.2.1
 rw[spec_UpOf_eq x.2.1 (by omega),Option.bind_some,spec_NameOf_eq (upOf x.2.1) x.1 _ (by omega) (by omega) (by simp),Option.bind_some]
 exact votes_loop (c.1,r4.1.2) w.2.1 w.2.2.2.2 _ _ h4 hl hs hvb (nameOf_ok _ _ _)
end G448
namespace G448
open Ev Go
set_option maxRecDepth 100000
def LieP (r:TCur×TMsg×Unit):Prop:=0≤r.1.2.1∧wMsg r.2.1≤8000
theorem blockNew_small (c:TConf) (q:TQc) (v:Int) (l:TTxS):wBlock (blockNew c q v l).1≤3847:=by
 unfold blockNew
 cases hb:blockOk c (nameOf q.2.1 v l,q) && viewOf (nameOf q.2.1 v l)==v
 ·simp[zBlock,wBlock,wQc,wIntS]
 ·simp only[Bool.and_eq_true] at hb
  exact blockOk_w hb.1
theorem lie_block (code:List UInt8) (p:Int×Int) (c:TConf) (q:TQc) (v:Int) (hc:CurOk (code,p)) (hq:wQc q≤5000) (hv:0≤v∧v≤61):Ens ((spec_l2DrawRight ((code,p),())).bind fun r25=>(spec_BlockNew (c,q,v,[r25.2.1],())).bind fun r26=>some ((code,r25.1.2),(1,0,r26.1,(0,[],[]),(0,[],[]),0,0,0,0,0),())) LieP:=by
 refine (l2DrawRight_ens (code,p) hc).bind fun r hr => ?_
 rw[spec_BlockNew_eq c q v [r.2.1] (by omega) (by omega) (by simp),Option.bind_some]
 have:=blockNew_small c q v [r.2.1]
 refine Ens.some ⟨hr.1,?_⟩
 simp only[wMsg,wQc,wPart,wIntS,List.length_nil]
 omega
theorem lie_tail (code:List UInt8) (p:Int×Int) (w:TWorld) (m:TMsg) (q:TQc) (who:Int) (hc:CurOk (code,p)) (hm:wMsg m≤4000) (hq:wQc q≤5000) (hq1:0≤q.1∧q.1≤60) :
  Ens ((spec_l1Below ((code,p),4,())).bind fun r18=>bif r18.2.1==0 then some (((code,r18.1.2),m,()):TCur×TMsg×Unit) else bif r18.2.1==1 then (spec_l1Below ((code,r18.1.2),2,())).bind fun r19=>(spec_l1Min (wr (wr (q.1+1)+r19.2.1),60,())).bind fun r20=>some ((code,r19.1.2),(3,r20.1,([],0,[],[]),(0,[],[]),q,who,0,0,0,0),()) else iter (fun rec21 (x21:Int×Int×Unit)=>bif decide (x21.2.1<7) then bif decide (x21.1<60) then (spec_Root (w.1,x21.1,())).bind fun r22=>bif r22.1 != who then rec21 (wr (x21.1+1),wr (x21.2.1+1),()) else (spec_l2DrawRight ((code,r18.1.2),())).bind fun r23=>(spec_BlockNew (w.1,q,x21.1,[r23.2.1],())).bind fun r24=>some ((code,r23.1.2),(1,0,r24.1,(0,[],[]),(0,[],[]),0,0,0,0,0),()) else (spec_l2DrawRight ((code,r18.1.2),())).bind fun r25=>(spec_BlockNew (w.1,q,x21.1,[r25.2.1],())).bind fun r26=>some ((code,r25.1.2),(1,0,r26.1,(0,[],[]),(0,[],[]),0,0,0,0,0),()) else (spec_l2DrawRight ((code,r18.1.2),())).bind fun r27=>(spec_BlockNew (w.1,q,x21.1,[r27.2.1],())).bind fun r28=>some ((code,r27.1.2),(1,0,r28.1,(0,[],[]),(0,[],[]),0,0,0,0,0),())) fuel (wr (q.1+1),0,())) LieP:=by
 refine (l1Below_ens (code,p) 4 hc).bind fun r0 h0 => ?_
 refine Ens.cond (fun _=>Ens.some ⟨h0.1,by dsimp only; omega⟩) fun _ => ?_
 have e1:wr (q.1+1)=q.1+1:=wr_id' (by omega) (by omega)
 rw[e1]
 refine Ens.cond (fun _ => ?_) fun _ => ?_
 ·refine (l1Below_ens (code,r0.1.2) 2 ⟨hc.1,h0.1⟩).bind fun r1 h1 => ?_
  have hmin : ∀ a b:Int,spec_l1Min (a,b,())=some (if a<b then a else b,()):=by
   intro a b
   unfold spec_l1Min
   by_cases e:a<b<;>simp[e]
  rw[hmin,Option.bind_some]
  refine Ens.some ⟨h1.1,?_⟩
  simp only[wMsg,wBlock,wQc,wPart,wIntS,List.length_nil] at hq ⊢
  omega
 ·refine Ens.loop (fun x=>(0≤x.2.1∧x.2.1≤7)∧(0≤x.1∧x.1≤61)) (fun x=>(8 - x.2.1).toNat) ?_ ⟨by simp,by dsimp only; omega⟩ (by dsimp only; rw[fuel_def]; omega)
  intro rec x hx hrec
  obtain⟨x1,x2⟩:=hx
  have hb:=lie_block code r0.1.2 w.1 q x.1 ⟨hc.1,h0.1⟩ hq x2
  refine Ens.cond (fun h => ?_) fun _=>hb
  have h:x.2.1<7:=by simpa using h
  refine Ens.cond (fun h' => ?_) fun _=>hb
  have h':x.1<60:=by simpa using h'
  rw[spec_Root_eq,Option.bind_some]
  refine Ens.cond (fun _ => ?_) fun _=>hb
  rw[wr_id' (n:=x.1+1) (by omega) (by omega),wr_id' (n:=x.2.1+1) (by omega) (by omega)]
  exact hrec _ ⟨by dsimp only; omega,by dsimp only; omega⟩ (by dsimp only; omega)
theorem lie_who (code:List UInt8) (p:Int×Int) (w:TWorld) (m:TMsg) (q:TQc) (hc:CurOk (code,p)) (hm:wMsg m≤4000) (hq:wQc q≤5000) (hq1:0≤q.1∧q.1≤60) :
  Ens (bif decide ((w.2.1.length:Int)>0) then (spec_l1Below ((code,p),(w.2.1.length:Int),())).bind fun r6=>if 0≤r6.2.1∧r6.2.1<(w.2.1.length:Int) then (spec_l1Below ((code,r6.1.2),4,())).bind fun r7=>bif r7.2.1==0 then some (((code,r7.1.2),m,()):TCur×TMsg×Unit) else bif r7.2.1==1 then (spec_l1Below ((code,r7.1.2),2,())).bind fun r8=>(spec_l1Min (wr (wr (q.1+1)+r8.2.1),60,())).bind fun r9=>some ((code,r8.1.2),(3,r9.1,([],0,[],[]),(0,[],[]),q,rd .i64 w.2.1 r6.2.1.toNat,0,0,0,0),()) else iter (fun rec10 (x10:Int×Int×Unit)=>bif decide (x10.2.1<7) then bif decide (x10.1<60) then (spec_Root (w.1,x10.1,())).bind fun r11=>bif r11.1 != rd .i64 w.2.1 r6.2.1.toNat then rec10 (wr (x10.1+1),wr (x10.2.1+1),()) else (spec_l2DrawRight ((code,r7.1.2),())).bind fun r12=>(spec_BlockNew (w.1,q,x10.1,[r12.2.1],())).bind fun r13=>some ((code,r12.1.2),(1,0,r13.1,(0,[],[]),(0,[],[]),0,0,0,0,0),()) else (spec_l2DrawRight ((code,r7.1.2),())).bind fun r14=>(spec_BlockNew (w.1,q,x10.1,[r14.2.1],())).bind fun r15=>some ((code,r14.1.2),(1,0,r15.1,(0,[],[]),(0,[],[]),0,0,0,0,0),()) else (spec_l2DrawRight ((code,r7.1.2),())).bind fun r16=>(spec_BlockNew (w.1,q,x10.1,[r16.2.1],())).bind fun r17=>some ((code,r16.1.2),(1,0,r17.1,(0,[],[]),(0,[],[]),0,0,0,0,0),())) fuel (wr (q.1+1),0,()) else none else (spec_l1Below ((code,p),4,())).bind fun r18=>bif r18.2.1==0 then some ((code,r18.1.2),m,()) else bif r18.2.1==1 then (spec_l1Below ((code,r18.1.2),2,())).bind fun r19=>(spec_l1Min (wr (wr (q.1+1)+r19.2.1),60,())).bind fun r20=>some ((code,r19.1.2),(3,r20.1,([],0,[],[]),(0,[],[]),q,0,0,0,0,0),()) else iter (fun rec21 (x21:Int×Int×Unit)=>bif decide (x21.2.1<7) then bif decide (x21.1<60) then (spec_Root (w.1,x21.1,())).bind fun r22=>bif r22.1 != 0 then rec21 (wr (x21.1+1),wr (x21.2.1+1),()) else (spec_l2DrawRight ((code,r18.1.2),())).bind fun r23=>(spec_BlockNew (w.1,q,x21.1,[r23.2.1],())).bind fun r24=>some ((code,r23.1.2),(1,0,r24.1,(0,[],[]),(0,[],[]),0,0,0,0,0),()) else (spec_l2DrawRight ((code,r18.1.2),())).bind fun r25=>(spec_BlockNew (w.1,q,x21.1,[r25.2.1],())).bind fun r26=>some ((code,r25.1.2),(1,0,r26.1,(0,[],[]),(0,[],[]),0,0,0,0,0),()) else (spec_l2DrawRight ((code,r18.1.2),())).bind fun r27=>(spec_BlockNew (w.1,q,x21.1,[r27.2.1],())).bind fun r28=>some ((code,r27.1.2),(1,0,r28.1,(0,[],[]),(0,[],[]),0,0,0,0,0),())) fuel (wr (q.1+1),0,())) LieP:=by
 refine Ens.cond (fun h => ?_) fun _=>lie_tail code p w m q 0 hc hm hq hq1
 have h:(w.2.1.length:Int)>0:=by simpa using h
 refine (l1Below_ens (code,p) _ hc).bind fun r1 h1 => ?_
 have a1:=h1.2.2 h
 exact Ens.ite ⟨h1.2.1,a1⟩ (lie_tail code r1.1.2 w m q _ ⟨hc.1,h1.1⟩ hm hq hq1)
theorem l20DrawLie_ens (c:TCur) {w:TWorld} (hc:CurOk c) (h:WI w):Ens (spec_l20DrawLie (c,w,())) LieP:=by
 unfold spec_l20DrawLie spec_l20DrawLieT spec_l20DrawLieF spec_l20DrawLieZ spec_l20DrawLieB
 refine (l20DrawVotes_ens c hc h).bind fun r0 h0 => ?_
 obtain⟨k1,k2,k3,k4,k5⟩:=h0
 have hq:wQc r0.2.1.2.2.2.1≤4000:=by
  simp only[wMsg,wPart] at k2
  simp only[wQc]; omega
 rw[spec_QcOk_eq w.1 r0.2.1.2.2.2.1 (by omega),Option.bind_some]
 refine Ens.cond (fun _ => ?_) fun _=>lie_who c.1 r0.1.2 w r0.2.1 r0.2.1.2.2.2.1 ⟨hc.1,k1⟩ k2 (by omega) k3
 have hf:spec_QcFirst ()=some ((0,[],[]),()):=rfl
 have hz:wQc ((0,[],[]):TQc)≤5000:=by simp[wQc,wIntS]
 rw[hf,Option.bind_some]
 refine Ens.cond (fun hp => ?_) fun _=>lie_who c.1 r0.1.2 w r0.2.1 (0,[],[]) ⟨hc.1,k1⟩ k2 hz (by dsimp only; omega)
 have hp:(w.2.2.1.length:Int)>0:=by simpa using hp
 refine (l1Once_ens (c.1,r0.1.2) 2 ⟨hc.1,k1⟩).bind fun r3 h3 => ?_
 refine Ens.cond (fun _ => ?_) fun _=>lie_who c.1 r3.1.2 w r0.2.1 (0,[],[]) ⟨hc.1,h3⟩ k2 hz (by dsimp only; omega)
 refine (l1Below_ens (c.1,r3.1.2) _ ⟨hc.1,h3⟩).bind fun r4 h4 => ?_
 have a4:=h4.2.2 hp
 refine Ens.ite ⟨h4.2.1,a4⟩ ?_
 obtain⟨r,hr,hok,hw,-⟩:=WI.rep (c:=w.1) (l:=w.2.1) (reps:=w.2.2.1) (rest:=w.2.2.2) h h4.2.1 a4
 rw[rd_get (e:=ERep) hr]
 have hs:=(repOk_parts hok).2.2.2.2.1
 have hqk:qcOk w.1 r.2.2.2.1.2.2.1=true:=by
  unfold safeOk at hs
  simp only[Bool.and_eq_true] at hs
  exact hs.2.2.1
 have hqw:=qcOk_w hqk
 have hqn:=qcOk_said hqk
 have hqv:=viewOf_b hqn.1
 rw[hqn.2] at hqv
 rw[spec_l7Copy_eq r.2.2.2.1.2.2.1 (by omega),Option.bind_some]
 exact lie_who c.1 r4.1.2 w r0.2.1 r.2.2.2.1.2.2.1 ⟨hc.1,h4.1⟩ k2 (by omega) hqv
end G448
namespace G448
open Ev Go
set_option maxRecDepth 100000
def DeedP (r:TCur×TDeed×Unit):Prop:=0≤r.1.2.1∧wMsg r.2.1.2.2.2≤10000
theorem deed_none (code:List UInt8) (p:Int×Int) (k i j:Int) (h:0≤p.1):DeedP ((code,p),(k,i,j,0,0,([],0,[],[]),(0,[],[]),(0,[],[]),0,0,0,0,0),()):=
 ⟨h,by simp[wMsg,wBlock,wQc,wPart,wIntS]⟩
theorem deed_give (code:List UInt8) (p:Int×Int) (w:TWorld) (k:Int) (hc:CurOk (code,p)):Ens (bif (w.2.2.2.1.length:Int)==0 then some (((code,p),(2,k,0,0,0,([],0,[],[]),(0,[],[]),(0,[],[]),0,0,0,0,0),()):TCur×TDeed×Unit) else (spec_l1Min ((w.2.2.2.1.length:Int),4,())).bind fun r13=>(spec_l1Below ((code,p),r13.1,())).bind fun r14=>some ((code,r14.1.2),(3,r14.2.1,0,0,0,([],0,[],[]),(0,[],[]),(0,[],[]),0,0,0,0,0),())) DeedP:=by
 refine Ens.cond (fun _=>Ens.some (deed_none _ _ _ _ _ hc.2)) fun _ => ?_
 have hmin : ∀ a b:Int,spec_l1Min (a,b,())=some (if a<b then a else b,()):=by
  intro a b
  unfold spec_l1Min
  by_cases e:a<b<;>simp[e]
 rw[hmin,Option.bind_some]
 exact (l1Below_ens (code,p) _ hc).bind fun r1 h1=>Ens.some (deed_none _ _ _ _ _ h1.1)
theorem rep_at {w:TWorld} (h:WI w) {i:Int} (h0:0≤i) (h1:i<(w.2.2.1.length:Int)) : ∃ r,w.2.2.1[i.toNat]?=some r∧repOk w.1 r=true∧wRep r≤260000:=by
 obtain⟨r,hr,hok,hw,-⟩:=WI.rep (c:=w.1) (l:=w.2.1) (reps:=w.2.2.1) (rest:=w.2.2.2) h h0 h1
 exact⟨r,hr,hok,hw⟩
theorem deed_ask (code:List UInt8) (p:Int×Int) (w:TWorld) (k:Int) (hc:CurOk (code,p)) (h:WI w) (hk:0≤k∧k≤8):Ens (α:=TCur×TDeed×Unit) (iter (fun rec3 (x3:Int×TDeed×Unit)=>bif decide (x3.1<(w.2.2.1.length:Int)) then if (w.2.2.1.length:Int)=0 then none else if 0≤Int.tmod (wr (k+x3.1)) (w.2.2.1.length:Int)∧Int.tmod (wr (k+x3.1)) (w.2.2.1.length:Int)<(w.2.2.1.length:Int) then (spec_Ask (w.1,rd (.pair .i64 (.pair .i64 (.pair .i64 (.pair (.pair .i64 (.pair .i64 (.pair (.pair .i64 (.pair .str (.sl 0 .i64))) .str))) (.pair (.sl 0 (.pair .i64 (.pair .i64 (.pair .i64 .i64)))) (.pair (.sl 0 (.pair .i64 (.pair .str (.sl 0 .i64)))) (.pair (.pair (.sl 0 .u8) .i64) (.sl 0 (.pair .i64 (.pair .i64 (.pair .i64 (.pair (.pair .str (.pair .i64 (.pair .str (.sl 0 .i64)))) (.pair (.pair .i64 (.pair .str (.sl 0 .i64))) (.pair (.pair .i64 (.pair .str (.sl 0 .i64))) (.pair .i64 (.pair .i64 (.pair .i64 (.pair .i64 .i64)))))))))))))))))) w.2.2.1 (Int.toNat (Int.tmod (wr (k+x3.1)) (w.2.2.1.length:Int))),())).bind fun r4=>bif r4.2.1 then if (w.2.2.1.length:Int)=0 then none else (spec_SetHas (w.2.1,Int.tmod (wr (k+x3.1)) (w.2.2.1.length:Int),())).bind fun r5=>bif !r5.1 then if (w.2.2.1.length:Int)=0 then none else some ((code,p),(1,Int.tmod (wr (k+x3.1)) (w.2.2.1.length:Int),0,0,0,([],0,[],[]),(0,[],[]),(0,[],[]),0,0,0,0,0),()) else rec3 (wr (x3.1+1),x3.2.1,()) else rec3 (wr (x3.1+1),x3.2.1,()) else none else some ((code,p),(7,k,0,0,0,([],0,[],[]),(0,[],[]),(0,[],[]),0,0,0,0,0),())) fuel (0,(0,0,0,0,0,([],0,[],[]),(0,[],[]),(0,[],[]),0,0,0,0,0),())) DeedP:=by
 have hb:=confOk_b h.conf
 have hlen:=h.len
 have hl:=h.liars.1
 refine Ens.loop (fun x=>(0≤x.1∧x.1≤8)) (fun x=>(9 - x.1).toNat) ?_ (by simp) (by dsimp only; rw[fuel_def]; omega)
 intro rec x hx hrec
 have hn : ¬ (w.2.2.1.length:Int)=0:=by omega
 refine Ens.cond (fun hh => ?_) fun hh=>Ens.some (deed_none _ _ _ _ _ hc.2)
 have hh:x.1<(w.2.2.1.length:Int):=by simpa using hh
 rw[if_neg hn,wr_id' (n:=k+x.1) (by omega) (by omega),wr_id' (n:=x.1+1) (by omega) (by omega)]
 have hno:Ens (rec (x.1+1,x.2.1,())) DeedP:=hrec _ (by dsimp only; omega) (by dsimp only; omega)
 have t0:0≤Int.tmod (k+x.1) (w.2.2.1.length:Int):=Int.tmod_nonneg _ (by omega)
 have t1:Int.tmod (k+x.1) (w.2.2.1.length:Int)<(w.2.2.1.length:Int):=Int.tmod_lt_of_pos _ (by omega)
 refine Ens.ite ⟨t0,t1⟩ ?_
 obtain⟨r,hr,hok,hw⟩:=rep_at h t0 t1
 rw[rd_get (e:=ERep) hr,spec_Ask_eq w.1 r (by omega),Option.bind_some]
 refine Ens.cond (fun _ => ?_) fun _=>hno
 rw[if_neg hn,spec_SetHas_eq w.2.1 _ (by omega),Option.bind_some]
 refine Ens.cond (fun _ => ?_) fun _=>hno
 rw[if_neg hn]
 exact Ens.some (deed_none _ _ _ _ _ hc.2)
theorem deed_sure (code:List UInt8) (p:Int×Int) (w:TWorld) (k:Int) (hc:CurOk (code,p)) (h:WI w) (hk:0≤k∧k≤8):Ens (α:=TCur×TDeed×Unit) (iter (fun rec12 (x12:Int×TDeed×Unit)=>bif decide (x12.1<(w.2.2.1.length:Int)) then if (w.2.2.1.length:Int)=0 then none else if 0≤Int.tmod (wr (k+x12.1)) (w.2.2.1.length:Int)∧Int.tmod (wr (k+x12.1)) (w.2.2.1.length:Int)<(w.2.2.1.length:Int) then bif decide ((List.length (rd (.pair .i64 (.pair .i64 (.pair .i64 (.pair (.pair .i64 (.pair .i64 (.pair (.pair .i64 (.pair .str (.sl 0 .i64))) .str))) (.pair (.sl 0 (.pair .i64 (.pair .i64 (.pair .i64 .i64)))) (.pair (.sl 0 (.pair .i64 (.pair .str (.sl 0 .i64)))) (.pair (.pair (.sl 0 .u8) .i64) (.sl 0 (.pair .i64 (.pair .i64 (.pair .i64 (.pair (.pair .str (.pair .i64 (.pair .str (.sl 0 .i64)))) (.pair (.pair .i64 (.pair .str (.sl 0 .i64))) (.pair (.pair .i64 (.pair .str (.sl 0 .i64))) (.pair .i64 (.pair .i64 (.pair .i64 (.pair .i64 .i64)))))))))))))))))) w.2.2.1 (Int.toNat (Int.tmod (wr (k+x12.1)) (w.2.2.1.length:Int)))).2.2.2.2.2.2.2:Int)>0) then if (w.2.2.1.length:Int)=0 then none else some ((code,p),(2,Int.tmod (wr (k+x12.1)) (w.2.2.1.length:Int),0,0,0,([],0,[],[]),(0,[],[]),(0,[],[]),0,0,0,0,0),()) else rec12 (wr (x12.1+1),x12.2.1,()) else none else bif (w.2.2.2.1.length:Int)==0 then some ((code,p),(2,k,0,0,0,([],0,[],[]),(0,[],[]),(0,[],[]),0,0,0,0,0),()) else (spec_l1Min ((w.2.2.2.1.length:Int),4,())).bind fun r13=>(spec_l1Below ((code,p),r13.1,())).bind fun r14=>some ((code,r14.1.2),(3,r14.2.1,0,0,0,([],0,[],[]),(0,[],[]),(0,[],[]),0,0,0,0,0),())) fuel (0,(0,0,0,0,0,([],0,[],[]),(0,[],[]),(0,[],[]),0,0,0,0,0),())) DeedP:=by
 have hb:=confOk_b h.conf
 have hlen:=h.len
 have hl:=h.liars.1
 refine Ens.loop (fun x=>(0≤x.1∧x.1≤8)) (fun x=>(9 - x.1).toNat) ?_ (by simp) (by dsimp only; rw[fuel_def]; omega)
 intro rec x hx hrec
 have hn : ¬ (w.2.2.1.length:Int)=0:=by omega
 refine Ens.cond (fun hh => ?_) fun hh=>deed_give code p w k hc
 have hh:x.1<(w.2.2.1.length:Int):=by simpa using hh
 rw[if_neg hn,wr_id' (n:=k+x.1) (by omega) (by omega),wr_id' (n:=x.1+1) (by omega) (by omega)]
 have hno:Ens (rec (x.1+1,x.2.1,())) DeedP:=hrec _ (by dsimp only; omega) (by dsimp only; omega)
 have t0:0≤Int.tmod (k+x.1) (w.2.2.1.length:Int):=Int.tmod_nonneg _ (by omega)
 have t1:Int.tmod (k+x.1) (w.2.2.1.length:Int)<(w.2.2.1.length:Int):=Int.tmod_lt_of_pos _ (by omega)
 refine Ens.ite ⟨t0,t1⟩ ?_
 obtain⟨r,hr,hok,hw⟩:=rep_at h t0 t1
 rw[rd_get (e:=ERep) hr]
 refine Ens.cond (fun _ => ?_) fun _=>hno
 rw[if_neg hn]
 exact Ens.some (deed_none _ _ _ _ _ hc.2)
theorem l20DrawDeed_ens (c:TCur) {w:TWorld} (hc:CurOk c) (h:WI w):Ens (spec_l20DrawDeed (c,w,())) DeedP:=by
 have hb:=confOk_b h.conf
 have hlen:=h.len
 unfold spec_l20DrawDeed
 have hmax:spec_l1Max ((w.2.2.1.length:Int),1,())=some ((w.2.2.1.length:Int),()):=by
  unfold spec_l1Max
  have:(w.2.2.1.length:Int)>1:=by omega
  simp[this]
 dsimp only
 rw[hmax,Option.bind_some]
 refine (l1Below_ens c _ hc).bind fun r1 h1 => ?_
 have a1:=h1.2.2 (by dsimp only; omega)
 dsimp only at a1
 refine (l1Below_ens (c.1,r1.1.2) 20 ⟨hc.1,h1.1⟩).bind fun r2 h2 => ?_
 have c2:CurOk (c.1,r2.1.2):=⟨hc.1,h2.1⟩
 have hk:0≤r1.2.1∧r1.2.1≤8:=⟨h1.2.1,by omega⟩
 have A:=deed_ask c.1 r2.1.2 w r1.2.1 c2 h hk
 have S:=deed_sure c.1 r2.1.2 w r1.2.1 c2 h hk
 have G:=deed_give c.1 r2.1.2 w r1.2.1 c2
 have L:=l20DrawLie_ens (c.1,r2.1.2) c2 h
 refine Ens.cond (fun _=>A) fun _ => ?_
 refine Ens.cond (fun _=>A) fun _ => ?_
 refine Ens.cond (fun _=>A) fun _ => ?_
 refine Ens.cond (fun _=>S) fun _ => ?_
 refine Ens.cond (fun _=>S) fun _ => ?_
 refine Ens.cond (fun _=>S) fun _ => ?_
 refine Ens.cond (fun _=>S) fun _ => ?_
 refine Ens.cond (fun _=>Ens.some (deed_none _ _ _ _ _ h2.1)) fun _ => ?_
 refine Ens.cond (fun _=>Ens.some (deed_none _ _ _ _ _ h2.1)) fun _ => ?_
 refine Ens.cond (fun _ => ?_) fun _ => ?_
 ·refine (l1Once_ens (c.1,r2.1.2) 2 c2).bind fun r3 h3 => ?_
  refine Ens.cond (fun _ => ?_) fun _ => ?_
  ·exact (l1PickInt_ens (c.1,r3.1.2) _ ⟨hc.1,h3⟩ (by simp)).bind fun r4 h4=>Ens.some (deed_none _ _ _ _ _ h4.1)
  ·refine (l1Below_ens (c.1,r3.1.2) 2 ⟨hc.1,h3⟩).bind fun r4 h4 => ?_
   have hmax2 : ∃ n,spec_l1Max ((w.2.2.2.1.length:Int),1,())=some (n,()):=by
    unfold spec_l1Max
    cases decide ((w.2.2.2.1.length:Int)>1)<;>exact⟨_,rfl⟩
   obtain⟨n,hmax2⟩:=hmax2
   rw[hmax2,Option.bind_some]
   exact (l1Below_ens (c.1,r4.1.2) _ ⟨hc.1,h4.1⟩).bind fun r5 h5=>Ens.some (deed_none _ _ _ _ _ h5.1)
 refine Ens.cond (fun _ => ?_) fun _ => ?_
 ·refine (l2DrawRight_ens (c.1,r2.1.2) c2).bind fun r3 h3=>Ens.some ⟨h3.1,?_⟩
  simp[wMsg,wBlock,wQc,wPart,wIntS]
 refine Ens.cond (fun _ => ?_) fun _ => ?_
 ·exact Ens.cond (fun _=>L.bind fun r3 h3=>Ens.some ⟨h3.1,by have:=h3.2; dsimp only; omega⟩) fun _=>G
 refine Ens.cond (fun _ => ?_) fun _ => ?_
 ·exact Ens.cond (fun _=>L.bind fun r3 h3=>Ens.some ⟨h3.1,by have:=h3.2; dsimp only; omega⟩) fun _=>G
 refine Ens.cond (fun _ => ?_) fun _=>G
 ·exact Ens.cond (fun _=>L.bind fun r3 h3=>Ens.some ⟨h3.1,by have:=h3.2; dsimp only; omega⟩) fun _=>G
theorem l20DrawRight_ens (c:TCur) (hc:CurOk c):Ens (spec_l20DrawRight (c,())) fun r=>0≤r.1.2.1∧WI r.2.1:=by
 unfold spec_l20DrawRight
 refine (l20DrawStart_ens c hc).bind fun r0 h0 => ?_
 refine (l1Below_ens (c.1,r0.1.2) 45 ⟨hc.1,h0.1⟩).bind fun r1 h1 => ?_
 have a1:=h1.2.2 (by decide)
 refine Ens.loop (fun x=>(0≤x.1∧x.1≤45)∧0≤x.2.1.2.1∧WI x.2.2.1) (fun x=>(46 - x.1).toNat) ?_ ⟨by simp,h1.1,h0.2⟩ (by dsimp only; rw[fuel_def]; omega)
 intro rec x hx hrec
 obtain⟨x1,x2,x3⟩:=hx
 refine Ens.cond (fun h => ?_) fun _=>Ens.some ⟨x2,x3⟩
 have h:x.1<r1.2.1:=by simpa using h
 refine (l20DrawDeed_ens (c.1,x.2.1.2) ⟨hc.1,x2⟩ x3).bind fun r3 h3 => ?_
 refine (l20Play_ens x3 r3.2.1 (by have:=h3.2; omega)).bind fun r4 h4 => ?_
 rw[wr_id' (n:=x.1+1) (by omega) (by omega)]
 exact hrec _ ⟨⟨by dsimp only; omega,by dsimp only; omega⟩,h3.1,h4⟩ (by dsimp only; omega)
end G448
namespace G448
open Ev Go
set_option maxRecDepth 100000
theorem l18DrawSaid_ens (c:TCur) (hc:CurOk c):Ens (spec_l18DrawSaid (c,())) fun r=>0≤r.1.2.1∧r.2.1.length≤8 ∧ ∀ s∈r.2.1,s.2.1.length≤1920:=by
 unfold spec_l18DrawSaid
 refine Ens.loop (fun x=>(0≤x.2.1∧x.2.1≤8)∧(x.1.length:Int)≤x.2.1∧0≤x.2.2.1.2.1 ∧ ∀ s∈x.1,s.2.1.length≤1920) (fun x=>(9 - x.2.1).toNat) ?_ ⟨by simp,by simp,hc.2,by simp⟩ (by dsimp only; rw[fuel_def]; omega)
 intro rec x hx hrec
 obtain⟨x1,x2,x3,x4⟩:=hx
 refine (l1Below_ens (c.1,x.2.2.1.2) 8 ⟨hc.1,x3⟩).bind fun r1 h1 => ?_
 have a1:=h1.2.2 (by decide)
 refine Ens.cond (fun h => ?_) fun h=>Ens.some ⟨h1.1,by dsimp only; omega,x4⟩
 have h:x.2.1<r1.2.1:=by simpa using h
 refine (l5DrawRight_ens (c.1,r1.1.2) ⟨hc.1,h1.1⟩).bind fun r2 h2 => ?_
 have hl:=nameOk_len h2.2
 rw[spec_ViewOf_eq _ (by omega),Option.bind_some]
 refine (l1Below_ens (c.1,r2.1.2) 4 ⟨hc.1,h2.1⟩).bind fun r4 h4 => ?_
 refine Ens.ite (by simp only[List.length_cons,List.length_nil]; omega) ?_
 rw[wr_id' (n:=x.2.1+1) (by omega) (by omega)]
 refine hrec _ ⟨⟨by dsimp only; omega,by dsimp only; omega⟩,by simp only[List.length_append,List.length_cons,List.length_nil]; omega,h4.1,fun s hs => ?_⟩ (by dsimp only; omega)
 simp only[List.mem_append,List.mem_cons,List.not_mem_nil,or_false] at hs
 rcases hs with hs|rfl
 ·exact x4 s hs
 ·exact hl
end G448
namespace G448
open Ev Go
set_option maxRecDepth 100000
theorem l7Draw_ens (c:TCur) (conf:TConf) (hc:CurOk c) (hN:conf.1≤8):Ens (spec_l7Draw (c,conf,())) fun r=>0≤r.1.2.1∧wQc r.2.1≤4000:=by
 unfold spec_l7Draw
 refine (l5DrawRight_ens c hc).bind fun r0 h0 => ?_
 refine (l7DrawOf_ens (c.1,r0.1.2) conf r0.2.1 ⟨hc.1,h0.1⟩ hN h0.2).bind fun r1 h1 => ?_
 have hw:wQc r1.2.1≤2000:=by
  have h4:=nameOk_len h0.2
  have h5:=h1.2.2.2
  have h6:=h1.2.2.1
  simp only[wQc,wIntS]
  rw[h6]
  omega
 refine (l1Below_ens (c.1,r1.1.2) 12 ⟨hc.1,h1.1⟩).bind fun r2 h2 => ?_
 refine Ens.cond (fun _=>Ens.some ⟨h2.1,by simp only[wQc] at hw ⊢; omega⟩) fun _ => ?_
 refine Ens.cond (fun _ => ?_) fun _ => ?_
 ·refine (l6DrawSet_ens (c.1,r2.1.2) 7 ⟨hc.1,h2.1⟩ (by decide)).bind fun r3 h3=>Ens.some ⟨h3.1,?_⟩
  have:=h3.2
  simp only[wQc,wIntS] at hw ⊢; omega
 refine Ens.cond (fun _ => ?_) fun _=>Ens.some ⟨h2.1,by dsimp only; omega⟩
 refine (l5Draw_ens (c.1,r2.1.2) ⟨hc.1,h2.1⟩).bind fun r4 h4=>Ens.some ⟨h4.1,?_⟩
 have:=h4.2
 simp only[wQc] at hw ⊢; omega
theorem l11DrawRight_ens (c:TCur) (conf:TConf) (hc:CurOk c) (hN:conf.1≤8):Ens (spec_l11DrawRight (c,conf,())) fun r=>0≤r.1.2.1∧wSafe r.2.1≤60000:=by
 unfold spec_l11DrawRight spec_SafeNew
 rw[Option.bind_some]
 refine Ens.loop (fun x=>(0≤x.1∧x.1≤5)∧0≤x.2.1.2.1∧(wSafe x.2.2.1:Int)≤10000*(x.1+1)) (fun x=>(6 - x.1).toNat) ?_ ⟨by simp,hc.2,by simp[wSafe,wQc,wIntS]⟩ (by dsimp only; rw[fuel_def]; omega)
 intro rec x hx hrec
 obtain⟨x1,x2,x3⟩:=hx
 refine (l1Below_ens (c.1,x.2.1.2) 5 ⟨hc.1,x2⟩).bind fun r2 h2 => ?_
 have a2:=h2.2.2 (by decide)
 refine Ens.cond (fun h => ?_) fun _=>Ens.some ⟨h2.1,by dsimp only; omega⟩
 have h:x.1<r2.2.1:=by simpa using h
 refine (l8DrawRight_ens (c.1,r2.1.2) conf ⟨hc.1,h2.1⟩ hN).bind fun r3 h3 => ?_
 have hb:=h3.2
 have hq:wQc r3.2.1.2≤4000:=by simp only[wBlock] at hb; omega
 rw[spec_See_eq _ _ _ (by omega) (by omega),Option.bind_some]
 have hs:=see_w conf x.2.2.1 r3.2.1.2
 refine (l1Once_ens (c.1,r3.1.2) 3 ⟨hc.1,h3.1⟩).bind fun r5 h5 => ?_
 rw[wr_id' (n:=x.1+1) (by omega) (by omega)]
 refine Ens.cond (fun _ => ?_) fun _ => ?_
 ·dsimp only
  rw[spec_Vote_eq conf (see conf x.2.2.1 r3.2.1.2) r3.2.1 (by omega) (by omega),Option.bind_some]
  have hv:=vote_w conf (see conf x.2.2.1 r3.2.1.2) r3.2.1
  exact hrec _ ⟨⟨by dsimp only; omega,by dsimp only; omega⟩,h5,by dsimp only; omega⟩ (by dsimp only; omega)
 ·exact hrec _ ⟨⟨by dsimp only; omega,by dsimp only; omega⟩,h5,by dsimp only; omega⟩ (by dsimp only; omega)
theorem l11Draw_ens (c:TCur) (conf:TConf) (hc:CurOk c) (hN:conf.1≤8):Ens (spec_l11Draw (c,conf,())) fun r=>0≤r.1.2.1∧wSafe r.2.1≤70000:=by
 unfold spec_l11Draw
 refine (l11DrawRight_ens c conf hc hN).bind fun r0 h0 => ?_
 have hw:=h0.2
 refine (l1Below_ens (c.1,r0.1.2) 10 ⟨hc.1,h0.1⟩).bind fun r1 h1 => ?_
 refine Ens.cond (fun _ => ?_) fun _ => ?_
 ·exact (l1PickInt_ens (c.1,r1.1.2) _ ⟨hc.1,h1.1⟩ (by simp)).bind fun r2 h2=>Ens.some ⟨h2.1,by simp only[wSafe] at hw ⊢; omega⟩
 refine Ens.cond (fun _ => ?_) fun _ => ?_
 ·exact (l1PickInt_ens (c.1,r1.1.2) _ ⟨hc.1,h1.1⟩ (by simp)).bind fun r2 h2=>Ens.some ⟨h2.1,by simp only[wSafe] at hw ⊢; omega⟩
 refine Ens.cond (fun _ => ?_) fun _ => ?_
 ·exact (l5Draw_ens (c.1,r1.1.2) ⟨hc.1,h1.1⟩).bind fun r2 h2=>Ens.some ⟨h2.1,by have:=h2.2; simp only[wSafe] at hw ⊢; omega⟩
 refine Ens.cond (fun _ => ?_) fun _=>Ens.some ⟨h1.1,by dsimp only; omega⟩
 exact (l7Draw_ens (c.1,r1.1.2) conf ⟨hc.1,h1.1⟩ hN).bind fun r2 h2=>Ens.some ⟨h2.1,by have:=h2.2; simp only[wSafe] at hw ⊢; omega⟩
theorem l4DrawRight_ens (c:TCur) (hc:CurOk c):Ens (spec_l4DrawRight (c,())) fun r=>0≤r.1.2.1∧r.2.1.length≤9:=by
 unfold spec_l4DrawRight
 refine Ens.loop (fun x=>(0≤x.2.1∧x.2.1≤9)∧0≤x.2.2.1.2.1∧(x.1.length:Int)≤x.2.1) (fun x=>(10 - x.2.1).toNat) ?_ ⟨by simp,hc.2,by simp⟩ (by dsimp only; rw[fuel_def]; omega)
 intro rec x hx hrec
 obtain⟨x1,x2,x3⟩:=hx
 refine (l1Below_ens (c.1,x.2.2.1.2) 9 ⟨hc.1,x2⟩).bind fun r1 h1 => ?_
 have a1:=h1.2.2 (by decide)
 refine Ens.cond (fun h => ?_) fun _=>Ens.some ⟨h1.1,by dsimp only; omega⟩
 have h:x.2.1<r1.2.1:=by simpa using h
 refine (l2DrawRight_ens (c.1,r1.1.2) ⟨hc.1,h1.1⟩).bind fun r2 h2 => ?_
 rw[spec_PoolAdd_eq _ _ (by omega),Option.bind_some,wr_id' (n:=x.2.1+1) (by omega) (by omega)]
 have hl:=poolAdd_len x.1 r2.2.1
 exact hrec _ ⟨⟨by dsimp only; omega,by dsimp only; omega⟩,h2.1,by dsimp only; omega⟩ (by dsimp only; omega)
theorem l4Draw_ens (c:TCur) (hc:CurOk c):Ens (spec_l4Draw (c,())) fun r=>0≤r.1.2.1∧r.2.1.length≤40:=by
 unfold spec_l4Draw
 refine (l4DrawRight_ens c hc).bind fun r0 h0 => ?_
 have hw:=h0.2
 refine (l1Below_ens (c.1,r0.1.2) 8 ⟨hc.1,h0.1⟩).bind fun r1 h1 => ?_
 refine Ens.cond (fun _ => ?_) fun _ => ?_
 ·refine (l2Draw_ens (c.1,r1.1.2) ⟨hc.1,h1.1⟩).bind fun r2 h2=>Ens.ite (by simp only[List.length_cons,List.length_nil]; omega) (Ens.some ⟨h2,?_⟩)
  simp only[List.length_append,List.length_cons,List.length_nil]; omega
 refine Ens.cond (fun _ => ?_) fun _=>Ens.some ⟨h1.1,by dsimp only; omega⟩
 refine Ens.loop (fun x=>(0≤x.2.1∧x.2.1≤4)∧(x.1.length:Int)≤9+4*x.2.1) (fun x=>(5 - x.2.1).toNat) ?_ ⟨by simp,by dsimp only; omega⟩ (by dsimp only; rw[fuel_def]; omega)
 intro rec x hx hrec
 obtain⟨x1,x3⟩:=hx
 refine Ens.cond (fun h => ?_) fun _=>Ens.some ⟨h1.1,by dsimp only; omega⟩
 have h:x.2.1<4:=by simpa using h
 refine Ens.loop (fun y=>(0≤y.2.1∧y.2.1≤4)∧(y.1.length:Int)≤9+4*x.2.1+y.2.1) (fun y=>(5 - y.2.1).toNat) ?_ ⟨by simp,by dsimp only; omega⟩ (by dsimp only; rw[fuel_def]; omega)
 intro rec2 y hy hrec2
 obtain⟨y1,y3⟩:=hy
 refine Ens.cond (fun h => ?_) fun hn => ?_
 ·have h:y.2.1<4:=by simpa using h
  rw[spec_PoolAdd_eq _ _ (by omega),Option.bind_some,wr_id' (n:=y.2.1+1) (by omega) (by omega)]
  have hl:=poolAdd_len y.1 (x.2.1,0,0,y.2.1)
  exact hrec2 _ ⟨⟨by dsimp only; omega,by dsimp only; omega⟩,by dsimp only; omega⟩ (by dsimp only; omega)
 ·have hn : ¬ y.2.1<4:=by simpa using hn
  rw[wr_id' (n:=x.2.1+1) (by omega) (by omega)]
  exact hrec _ ⟨⟨by dsimp only; omega,by dsimp only; omega⟩,by dsimp only; omega⟩ (by dsimp only; omega)
theorem wPartS_one (l:TPartS) (p:TPart):wPartS (l++[p])=wPartS l+(1+wPart p):=by
 rw[wPartS_app]; simp[wPartS]
theorem l10DrawTable_ens (c:TCur) (conf:TConf) (hc:CurOk c):Ens (spec_l10DrawTable (c,conf,())) fun r=>0≤r.1.2.1∧wPartS r.2.1≤30000:=by
 unfold spec_l10DrawTable
 refine Ens.loop (fun x=>(0≤x.2.1∧x.2.1≤5)∧0≤x.2.2.1.2.1∧(wPartS x.1:Int)≤2000*x.2.1) (fun x=>(6 - x.2.1).toNat) ?_ ⟨by simp,hc.2,by simp[wPartS]⟩ (by dsimp only; rw[fuel_def]; omega)
 intro rec x hx hrec
 obtain⟨x1,x2,x3⟩:=hx
 refine (l1Below_ens (c.1,x.2.2.1.2) 5 ⟨hc.1,x2⟩).bind fun r1 h1 => ?_
 have a1:=h1.2.2 (by decide)
 refine Ens.cond (fun h => ?_) fun _ => ?_
 ·have h:x.2.1<r1.2.1:=by simpa using h
  refine (l10DrawRight_ens (c.1,r1.1.2) conf ⟨hc.1,h1.1⟩).bind fun r2 h2 => ?_
  have hn:=nameOk_len h2.2.1
  have hp:wPart r2.2.1≤1940:=by have:=h2.2.2; simp only[wPart,wIntS]; omega
  rw[spec_TableAdd_eq _ _ _ (by omega) (by omega),Option.bind_some,wr_id' (n:=x.2.1+1) (by omega) (by omega)]
  have hl:=tableAdd_w conf x.1 r2.2.1
  exact hrec _ ⟨⟨by dsimp only; omega,by dsimp only; omega⟩,h2.1,by dsimp only; omega⟩ (by dsimp only; omega)
 ·refine (l1Once_ens (c.1,r1.1.2) 8 ⟨hc.1,h1.1⟩).bind fun r4 h4 => ?_
  refine Ens.cond (fun _ => ?_) fun _=>Ens.some ⟨h4,by dsimp only; omega⟩
  refine (l10Draw_ens (c.1,r4.1.2) conf ⟨hc.1,h4⟩).bind fun r5 h5 => ?_
  have hl:=wPartS_len x.1
  refine Ens.ite (by simp only[List.length_cons,List.length_nil]; omega) (Ens.some ⟨h5.1,?_⟩)
  dsimp only
  rw[wPartS_one]
  have:=h5.2
  simp only[wPart,wIntS]
  omega
theorem l15DrawRight_ens (c:TCur) (hc:CurOk c):Ens (spec_l15DrawRight (c,())) fun r=>0≤r.1.2.1∧confOk r.2.1=true∧repOk r.2.1 r.2.2.1=true:=by
 unfold spec_l15DrawRight
 refine (l20DrawRight_ens c hc).bind fun r0 h0 => ?_
 obtain⟨h0,h⟩:=h0
 have hl:=h.len
 have hb:=confOk_b h.conf
 refine (l1Below_ens (c.1,r0.1.2) _ ⟨hc.1,h0⟩).bind fun r1 h1 => ?_
 have a1:=h1.2.2 (by omega)
 refine Ens.ite ⟨h1.2.1,a1⟩ ?_
 obtain⟨r,hr,hok,-⟩:=rep_at h h1.2.1 a1
 rw[rd_get (e:=ERep) hr]
 exact Ens.some ⟨h1.1,h.conf,hok⟩
def RepP (r:TCur×TConf×TRep×Unit):Prop:=0≤r.1.2.1∧confOk r.2.1=true∧wRep r.2.2.1≤2000000∧(0≤r.2.2.1.2.1∧r.2.2.1.2.1≤61)
theorem wPostS_one (l:TPostS) (p:TPost):wPostS (l++[p])=wPostS l+(1+wPost p):=by
 simp[wPostS]; omega
theorem l15Draw_ens (c:TCur) (hc:CurOk c):Ens (spec_l15Draw (c,())) RepP:=by
 unfold spec_l15Draw RepP
 refine (l15DrawRight_ens c hc).bind fun r0 h0 => ?_
 obtain⟨h0,hcf,hok⟩:=h0
 have hb:=confOk_b hcf
 have hw:=repOk_w hok
 obtain⟨-,-,hv,-⟩:=repOk_parts hok
 refine (l1Below_ens (c.1,r0.1.2) 16 ⟨hc.1,h0⟩).bind fun r1 h1 => ?_
 refine Ens.cond (fun _ => ?_) fun _ => ?_
 ·exact (l1PickInt_ens (c.1,r1.1.2) _ ⟨hc.1,h1.1⟩ (by simp)).bind fun r2 h2=>Ens.some ⟨h2.1,hcf,by simp only[wRep] at hw ⊢; omega,by dsimp only; omega⟩
 refine Ens.cond (fun _ => ?_) fun _ => ?_
 ·refine (l1PickInt_ens (c.1,r1.1.2) _ ⟨hc.1,h1.1⟩ (by simp)).bind fun r2 h2=>Ens.some ⟨h2.1,hcf,by simp only[wRep] at hw ⊢; omega,?_⟩
  have:=h2.2
  simp only[List.mem_cons,List.not_mem_nil,or_false] at this
  dsimp only; omega
 refine Ens.cond (fun _ => ?_) fun _ => ?_
 ·exact (l1PickInt_ens (c.1,r1.1.2) _ ⟨hc.1,h1.1⟩ (by simp)).bind fun r2 h2=>Ens.some ⟨h2.1,hcf,by simp only[wRep] at hw ⊢; omega,by dsimp only; omega⟩
 refine Ens.cond (fun _ => ?_) fun _ => ?_
 ·exact (l11Draw_ens (c.1,r1.1.2) r0.2.1 ⟨hc.1,h1.1⟩ (by omega)).bind fun r2 h2=>Ens.some ⟨h2.1,hcf,by have:=h2.2; simp only[wRep] at hw ⊢; omega,by dsimp only; omega⟩
 refine Ens.cond (fun _ => ?_) fun _ => ?_
 ·exact (l4Draw_ens (c.1,r1.1.2) ⟨hc.1,h1.1⟩).bind fun r2 h2=>Ens.some ⟨h2.1,hcf,by have:=h2.2; simp only[wRep,wTxS] at hw ⊢; omega,by dsimp only; omega⟩
 refine Ens.cond (fun _ => ?_) fun _ => ?_
 ·exact (l10DrawTable_ens (c.1,r1.1.2) r0.2.1 ⟨hc.1,h1.1⟩).bind fun r2 h2=>Ens.some ⟨h2.1,hcf,by have:=h2.2; simp only[wRep] at hw ⊢; omega,by dsimp only; omega⟩
 refine Ens.cond (fun _ => ?_) fun _ => ?_
 ·exact (l13Draw_ens (c.1,r1.1.2) ⟨hc.1,h1.1⟩).bind fun r2 h2=>Ens.some ⟨h2.1,hcf,by have:=h2.2; simp only[wRep,wDisk] at hw ⊢; omega,by dsimp only; omega⟩
 refine Ens.cond (fun _ => ?_) fun _=>Ens.some ⟨h1.1,hcf,by dsimp only; omega,by dsimp only; omega⟩
 refine (l1Below_ens (c.1,r1.1.2) 5 ⟨hc.1,h1.1⟩).bind fun r2 h2 => ?_
 refine (l14Draw_ens (c.1,r2.1.2) r0.2.1 ⟨hc.1,h2.1⟩ (by omega)).bind fun r3 h3 => ?_
 have hl:r0.2.2.1.2.2.2.2.2.2.2.length≤260000:=by simp only[wRep,wPostS] at hw; omega
 refine Ens.ite (by simp only[List.length_cons,List.length_nil]; omega) (Ens.some ⟨h3.1,hcf,?_,by dsimp only; omega⟩)
 have:=h3.2
 simp only[wRep,wPostS_one,wPost] at hw ⊢; omega
end G448
namespace G448
open Ev Go
set_option maxRecDepth 100000
theorem blockSame_self (a:TBlock):blockSame a a=true:=by simp[blockSame,qcSame_self]
theorem msgSame_self (a:TMsg):msgSame a a=true:=by simp[msgSame,blockSame_self,qcSame_self,txSame]
theorem safeSame_self (a:TSafe):safeSame a a=true:=by simp[safeSame,qcSame_self]
theorem sameInts_self (l:List Int) (h:l.length≤137438953472):laws_sameInts (l,l,())=some (true,()):=by
 unfold laws_sameInts
 simp only[bne_self_eq_false,cond_false]
 refine eq_loop l (true,()) (by omega) ?_ ?_
 ·intro rec s; simp
 ·intro rec i s x hx hi
  simp only[Int.toNat_natCast,ge_ok hi,decide_true,cond_true,if_true,and_self,rd,List.getD_eq_getElem?_getD,hx,Option.getD_some,wr_nat (show i<4611686018427387904 by omega),bne_self_eq_false,cond_false]
theorem sameTxs_self (l:TTxS) (h:l.length≤137438953472):laws_sameTxs (l,l,())=some (true,()):=by
 unfold laws_sameTxs
 simp only[bne_self_eq_false,cond_false]
 refine eq_loop l (true,()) (by omega) ?_ ?_
 ·intro rec s; simp
 ·intro rec i s x hx hi
  simp only[Int.toNat_natCast,ge_ok hi,decide_true,cond_true,if_true,and_self,rd,List.getD_eq_getElem?_getD,hx,Option.getD_some,wr_nat (show i<4611686018427387904 by omega),beq_self_eq_true,Bool.and_self,Bool.not_true,cond_false]
theorem samePart_self (p:TPart) (h:wPart p≤137438953472):laws_samePart (p,p,())=some (true,()):=by
 unfold laws_samePart
 simp only[beq_self_eq_true,cond_true,sameInts_self p.2.2 (by simp only[wPart,wIntS] at h; omega),Option.bind_some]
theorem wPart_at {l:TPartS} {x:TPart} {N:Nat} (hw:wPartS l≤N) {i:Nat} (hx:l[i]?=some x):wPart x≤N:=by
 have:=sum_mem wPart (List.mem_of_getElem? hx); unfold wPartS at hw; omega
theorem sameTable_self (l:TPartS) (h:wPartS l≤137438953472):laws_sameTable (l,l,())=some (true,()):=by
 have hl:=wPartS_len l
 unfold laws_sameTable
 simp only[bne_self_eq_false,cond_false]
 refine eq_loop l (true,()) (by omega) ?_ ?_
 ·intro rec s; simp
 ·intro rec i s x hx hi
  simp only[Int.toNat_natCast,ge_ok hi,decide_true,cond_true,if_true,and_self,rd,List.getD_eq_getElem?_getD,hx,Option.getD_some,wr_nat (show i<4611686018427387904 by omega),samePart_self x (wPart_at h hx),Option.bind_some,Bool.not_true,cond_false]
theorem sameRep_self (r:TRep) (h:wRep r≤137438953472):laws_sameRep (r,r,())=some (true,()):=by
 have h':=h
 simp only[wRep,wTxS,wPostS] at h
 unfold laws_sameRep
 simp only[bne_self_eq_false,cond_false,spec_SafeSame_eq r.2.2.2.1 r.2.2.2.1 (by omega),safeSame_self,Option.bind_some,Bool.not_true,sameTxs_self r.2.2.2.2.1 (by omega),sameTable_self r.2.2.2.2.2.1 (by omega),sameDisk_self]
 refine eq_loop r.2.2.2.2.2.2.2 (true,()) (by omega) ?_ ?_
 ·intro rec s; simp
 ·intro rec i s x hx hi
  have hm:wMsg x.2≤137438953472:=wPost_mem (N:=137438953472) (by simp only[wPostS]; omega) hx
  simp only[Int.toNat_natCast,ge_ok hi,decide_true,cond_true,if_true,and_self,rd,List.getD_eq_getElem?_getD,hx,Option.getD_some,wr_nat (show i<4611686018427387904 by omega),bne_self_eq_false,cond_false,spec_MsgSame_eq x.2 x.2 (MsgW.of hm),msgSame_self,Option.bind_some,Bool.not_true]
theorem sameWorld_self (w:TWorld) (h:wWorld w≤137438953472):laws_sameWorld (w,w,())=some (true,()):=by
 simp only[wWorld,wIntS,wRepS,wWireS,wSaidS] at h
 unfold laws_sameWorld
 simp only[beq_self_eq_true,Bool.and_self,Bool.not_true,cond_false,sameInts_self w.2.1 (by omega),Option.bind_some,bne_self_eq_false]
 have l3 : ∀ {G:(Int×Unit→Option (Bool×Unit))→Int×Unit→Option (Bool×Unit)},(∀ rec s,G rec ((w.2.2.2.2.length:Int),s)=some (true,())) →
   (∀ rec (i:Nat) s x,w.2.2.2.2[i]?=some x→i<w.2.2.2.2.length→G rec ((i:Int),s)=rec ((i:Int)+1,s))→iter G fuel (0,())=some (true,()):=fun h1 h2=>eq_loop w.2.2.2.2 (true,()) (by omega) h1 h2
 refine eq_loop w.2.2.1 (true,()) (by omega) ?_ ?_
 ·intro rec s
  simp only[Int.lt_irrefl,decide_false,cond_false]
  refine eq_loop w.2.2.2.1 (true,()) (by omega) ?_ ?_
  ·intro rec s
   simp only[Int.lt_irrefl,decide_false,cond_false]
   refine l3 ?_ ?_
   ·intro rec s; simp
   ·intro rec i s x hx hi
    simp only[Int.toNat_natCast,ge_ok hi,decide_true,cond_true,if_true,and_self,rd,List.getD_eq_getElem?_getD,hx,Option.getD_some,wr_nat (show i<4611686018427387904 by omega),beq_self_eq_true,Bool.and_self,Bool.not_true,cond_false]
  ·intro rec i s x hx hi
   simp only[Int.toNat_natCast,ge_ok hi,decide_true,cond_true,if_true,and_self,rd,List.getD_eq_getElem?_getD,hx,Option.getD_some,wr_nat (show i<4611686018427387904 by omega),bne_self_eq_false,cond_false]
 ·intro rec i s x hx hi
  have hm:wRep x≤137438953472:=by have:=sum_mem wRep (List.mem_of_getElem? hx); omega
  simp only[Int.toNat_natCast,ge_ok hi,decide_true,cond_true,if_true,and_self,rd,List.getD_eq_getElem?_getD,hx,Option.getD_some,wr_nat (show i<4611686018427387904 by omega),sameRep_self x hm,Option.bind_some,Bool.not_true,cond_false]
end G448
namespace G448
open Ev Go
set_option maxRecDepth 100000
theorem l7DrawBent_ens (c:TCur) (hc:CurOk c):Ens (spec_l7DrawBent (c,())) fun r=>0≤r.1.2.1∧r.2.1.1≤8:=by
 unfold spec_l7DrawBent
 refine (l7DrawConf_ens c hc).bind fun r0 h0 => ?_
 have hb:=confOk_b h0.2
 refine (l1Below_ens (c.1,r0.1.2) 12 ⟨hc.1,h0.1⟩).bind fun r1 h1 => ?_
 refine Ens.cond (fun _ => ?_) fun _ => ?_
 ·refine (l1PickInt_ens (c.1,r1.1.2) _ ⟨hc.1,h1.1⟩ (by simp)).bind fun r2 h2=>Ens.some ⟨h2.1,?_⟩
  have:=h2.2
  simp only[List.mem_cons,List.not_mem_nil,or_false] at this
  dsimp only; omega
 refine Ens.cond (fun _ => ?_) fun _=>Ens.some ⟨h1.1,by dsimp only; omega⟩
 exact (l1PickInt_ens (c.1,r1.1.2) _ ⟨hc.1,h1.1⟩ (by simp)).bind fun r2 h2=>Ens.some ⟨h2.1,by dsimp only; omega⟩
theorem l19DrawPosts_ens (c:TCur) (conf:TConf) (hc:CurOk c) (hN:conf.1≤8):Ens (spec_l19DrawPosts (c,conf,())) fun r=>0≤r.1.2.1∧wPostS r.2.1≤100000:=by
 unfold spec_l19DrawPosts
 refine Ens.loop (fun x=>(0≤x.2.1∧x.2.1≤4)∧0≤x.2.2.1.2.1∧(wPostS x.1:Int)≤8010*x.2.1) (fun x=>(5 - x.2.1).toNat) ?_ ⟨by simp,hc.2,by simp[wPostS]⟩ (by dsimp only; rw[fuel_def]; omega)
 intro rec x hx hrec
 obtain⟨x1,x2,x3⟩:=hx
 have hl:x.1.length≤wPostS x.1:=by unfold wPostS; omega
 refine (l1Below_ens (c.1,x.2.2.1.2) 4 ⟨hc.1,x2⟩).bind fun r1 h1 => ?_
 have a1:=h1.2.2 (by decide)
 refine Ens.cond (fun h => ?_) fun _=>Ens.some ⟨h1.1,by dsimp only; omega⟩
 have h:x.2.1<r1.2.1:=by simpa using h
 refine (l1Below_ens (c.1,r1.1.2) 6 ⟨hc.1,h1.1⟩).bind fun r2 h2 => ?_
 refine (l14Draw_ens (c.1,r2.1.2) conf ⟨hc.1,h2.1⟩ hN).bind fun r3 h3 => ?_
 refine Ens.ite (by simp only[List.length_cons,List.length_nil]; omega) ?_
 rw[wr_id' (n:=x.2.1+1) (by omega) (by omega)]
 refine hrec _ ⟨⟨by dsimp only; omega,by dsimp only; omega⟩,h3.1,?_⟩ (by dsimp only; omega)
 have:=h3.2
 dsimp only
 rw[wPostS_one]
 simp only[wPost]
 omega
theorem wWireS_one (l:TWireS) (x:TWire):wWireS (l++[x])=wWireS l+(1+x.2.length):=by
 simp[wWireS,wWire,wByteS]; omega
theorem set_sum {α:Type} (f:α→Nat) : ∀ (l:List α) (i:Nat) (x:α),((l.set i x).map f).sum≤(l.map f).sum+f x
 | [],_,_=>by simp
 | y::l,0,x=>by simp; omega
 | y::l,i+1,x=>by have:=set_sum f l i x; simp at this ⊢; omega
theorem take_sum {α:Type} (f:α→Nat) : ∀ (l:List α) (i:Nat),((l.take i).map f).sum≤(l.map f).sum
 | [],_=>by simp
 | y::l,0=>by simp
 | y::l,i+1=>by have:=take_sum f l i; simp at this ⊢; omega
def WorP (r:TCur×TWorld×Unit):Prop:=0≤r.1.2.1∧r.2.1.1.1≤8∧wWorld r.2.1≤600000000
theorem l20Draw_ens (c:TCur) (hc:CurOk c):Ens (spec_l20Draw (c,())) WorP:=by
 unfold spec_l20Draw WorP
 refine (l20DrawRight_ens c hc).bind fun r0 h0 => ?_
 obtain⟨h0,h⟩:=h0
 have hw:=h.w_leS
 have hb:=confOk_b h.conf
 have hlen:=h.len
 have hn:=h.net.1
 have hs:=h.said.1
 refine (l1Below_ens (c.1,r0.1.2) 20 ⟨hc.1,h0⟩).bind fun r1 h1 => ?_
 refine Ens.cond (fun _ => ?_) fun _ => ?_
 ·exact (l7DrawBent_ens (c.1,r1.1.2) ⟨hc.1,h1.1⟩).bind fun r2 h2=>Ens.some ⟨h2.1,h2.2,by simp only[wWorld] at hw ⊢; omega⟩
 refine Ens.cond (fun _ => ?_) fun _ => ?_
 ·exact (l6DrawSet_ens (c.1,r1.1.2) 4 ⟨hc.1,h1.1⟩ (by decide)).bind fun r2 h2=>Ens.some ⟨h2.1,by dsimp only; omega,by have:=h2.2; simp only[wWorld,wIntS] at hw ⊢; omega⟩
 refine Ens.cond (fun _ => ?_) fun _ => ?_
 ·refine (l15Draw_ens (c.1,r1.1.2) ⟨hc.1,h1.1⟩).bind fun r2 h2=>Ens.ite ⟨Int.le_refl _,by omega⟩ (Ens.some ⟨h2.1,by dsimp only; omega,?_⟩)
  have h3:=set_sum wRep r0.2.1.2.2.1 (Int.toNat 0) r2.2.2.1
  have h4:=h2.2.2.1
  simp only[wWorld,wRepS,List.length_set] at hw ⊢
  omega
 refine Ens.cond (fun _ => ?_) fun _ => ?_
 ·refine (l1Below_ens (c.1,r1.1.2) 8 ⟨hc.1,h1.1⟩).bind fun r2 h2 => ?_
  refine (l14Draw_ens (c.1,r2.1.2) r0.2.1.1 ⟨hc.1,h2.1⟩ (by omega)).bind fun r3 h3 => ?_
  have h4:=h3.2
  rw[spec_MsgBytes_eq _ _ (by omega),Option.bind_some]
  have hl:=msgBytes_len r0.2.1.1 r3.2.1
  refine Ens.ite (by simp only[List.length_cons,List.length_nil]; omega) (Ens.some ⟨h3.1,by dsimp only; omega,?_⟩)
  simp only[wWorld,wWireS_one] at hw ⊢
  omega
 refine Ens.cond (fun _ => ?_) fun _ => ?_
 ·refine (l18DrawSaid_ens (c.1,r1.1.2) ⟨hc.1,h1.1⟩).bind fun r2 h2=>Ens.ite (by have:=h2.2.1; omega) (Ens.some ⟨h2.1,by dsimp only; omega,?_⟩)
  have h3:=sum_bnd wSaid 2000 r2.2.1 fun s hs=>by have:=h2.2.2 s hs; simp only[wSaid]; omega
  have h4:=h2.2.1
  have h5:2000*r2.2.1.length≤2000*8:=Nat.mul_le_mul_left _ h4
  simp only[wWorld,wSaidS,List.length_append,List.map_append,List.sum_append] at hw ⊢
  omega
 refine Ens.cond (fun _ => ?_) fun _ => ?_
 ·refine (l11DrawRight_ens (c.1,r1.1.2) r0.2.1.1 ⟨hc.1,h1.1⟩ (by omega)).bind fun r2 h2=>Ens.ite ⟨by decide,by omega⟩ (Ens.some ⟨h2.1,by dsimp only; omega,?_⟩)
  have hi:Int.toNat 1<r0.2.1.2.2.1.length:=by omega
  have hg:=List.getElem?_eq_getElem hi
  unfold modi
  rw[rd_get (e:=ERep) hg]
  have hr:=sum_mem wRep (List.getElem_mem hi)
  have h3:=set_sum wRep r0.2.1.2.2.1 (Int.toNat 1) ((r0.2.1.2.2.1[Int.toNat 1]).1,(r0.2.1.2.2.1[Int.toNat 1]).2.1,(r0.2.1.2.2.1[Int.toNat 1]).2.2.1,r2.2.1,(r0.2.1.2.2.1[Int.toNat 1]).2.2.2.2)
  have h4:=h2.2
  have h6:=repOk_w (h.reps _ hi).1
  have h5:wRep ((r0.2.1.2.2.1[Int.toNat 1]).1,(r0.2.1.2.2.1[Int.toNat 1]).2.1,(r0.2.1.2.2.1[Int.toNat 1]).2.2.1,r2.2.1,(r0.2.1.2.2.1[Int.toNat 1]).2.2.2.2)≤60000+260000:=by
   simp only[wRep] at h6 ⊢; omega
  simp only[wWorld,wRepS,List.length_set] at hw ⊢
  omega
 refine Ens.cond (fun _ => ?_) fun _=>Ens.some ⟨h1.1,by dsimp only; omega,by dsimp only; omega⟩
 rw[wr_id' (n:=((r0.2.1.2.2.1.length:Nat):Int) - 1) (by omega) (by omega)]
 refine Ens.ite ⟨Int.le_refl _,by omega,by omega⟩ (Ens.some ⟨h1.1,by dsimp only; omega,?_⟩)
 have h3:=take_sum wRep r0.2.1.2.2.1 (Int.toNat (((r0.2.1.2.2.1.length:Nat):Int) - 1))
 have h4:(List.take (Int.toNat (((r0.2.1.2.2.1.length:Nat):Int) - 1)) r0.2.1.2.2.1).length≤r0.2.1.2.2.1.length:=by simp
 simp only[wWorld,wRepS] at hw ⊢
 omega
end G448
namespace G448
open Ev Go
set_option maxRecDepth 100000
def Knows (acc:TSaidS) (x:TSaid):Prop := ¬ (acc.length:Int)<300∨hasSaid acc x=true
theorem learnIn_knows {acc:TSaidS} {x:TSaid} (h:Knows acc x):learnIn acc x=acc:=by
 unfold learnIn
 rcases h with h|h
 ·simp[h]
 ·simp[h]
theorem hasSaid_app (a b:TSaidS) (x:TSaid):hasSaid (a++b) x=(hasSaid a x || hasSaid b x):=by simp[hasSaid]
theorem hasSaid_one (x:TSaid):hasSaid [x] x=true:=by simp[hasSaid]
theorem knows_learnIn {acc:TSaidS} (x y:TSaid) (h:Knows acc y):Knows (learnIn acc x) y:=by
 unfold learnIn
 cases decide ((acc.length:Int)<300) && !hasSaid acc x
 ·exact h
 ·rcases h with h|h
  ·exact .inl (by simp only[cond_true,List.length_append,List.length_cons,List.length_nil]; omega)
  ·exact .inr (by rw[cond_true,hasSaid_app,h]; rfl)
theorem knows_self (acc:TSaidS) (x:TSaid):Knows (learnIn acc x) x:=by
 unfold learnIn
 by_cases h1:(acc.length:Int)<300
 ·cases h2:hasSaid acc x
  ·simp only[h1,decide_true,Bool.not_false,Bool.and_self,cond_true]
   exact .inr (by rw[hasSaid_app,hasSaid_one,Bool.or_true])
  ·simp only[Bool.not_true,Bool.and_false,cond_false]; exact .inr h2
 ·simp only[h1,decide_false,Bool.false_and,cond_false]; exact .inl h1
theorem knows_fold (y:TSaid) : ∀ (l:TSaidS) (acc:TSaidS),Knows acc y→Knows (l.foldl learnIn acc) y
 | [],_,h=>h
 | x::l,acc,h=>by rw[List.foldl_cons]; exact knows_fold y l _ (knows_learnIn x y h)
theorem knows_in : ∀ (l:TSaidS) (acc:TSaidS),∀ x∈l,Knows (l.foldl learnIn acc) x
 | [],_,_,h=>by simp at h
 | y::l,acc,x,h=>by
  rw[List.foldl_cons]
  rcases List.mem_cons.1 h with rfl|h
  ·exact knows_fold x l _ (knows_self acc x)
  ·exact knows_in l _ x h
theorem fold_knows : ∀ (l:TSaidS) (acc:TSaidS),(∀ x∈l,Knows acc x)→l.foldl learnIn acc=acc
 | [],_,_=>rfl
 | x::l,acc,h=>by rw[List.foldl_cons,learnIn_knows (h x (by simp))]; exact fold_knows l acc fun y hy=>h y (by simp[hy])
theorem knows_posts (id:Int) (y:TSaid) : ∀ (ps:TPostS) (acc:TSaidS),Knows acc y→Knows (ps.foldl (learnPost id) acc) y
 | [],_,h=>h
 | p::ps,acc,h=>by rw[List.foldl_cons]; exact knows_posts id y ps _ (knows_fold y _ acc h)
theorem posts_in (id:Int) : ∀ (ps:TPostS) (acc:TSaidS),∀ p∈ps,∀ x∈saidOf id p.2,Knows (ps.foldl (learnPost id) acc) x
 | [],_,_,h=>by simp at h
 | q::ps,acc,p,h=>by
  rw[List.foldl_cons]
  rcases List.mem_cons.1 h with rfl|h
  ·exact fun x hx=>knows_posts id x ps _ (knows_in _ acc x hx)
  ·exact posts_in id ps _ p h
theorem posts_knows (id:Int) : ∀ (ps:TPostS) (acc:TSaidS),(∀ p∈ps,∀ x∈saidOf id p.2,Knows acc x)→ps.foldl (learnPost id) acc=acc
 | [],_,_=>rfl
 | p::ps,acc,h=>by
  rw[List.foldl_cons,show learnPost id acc p=acc from fold_knows _ acc (h p (by simp))]
  exact posts_knows id ps acc fun q hq=>h q (by simp[hq])
theorem honest_said (c:TConf) (l:TIntS) (rs:TRepS) (ws:TWireS) (s t:TSaidS):honest (c,l,rs,ws,s)=honest (c,l,rs,ws,t):=rfl
theorem learn_twice (w:TWorld) (id:Int) (ps:TPostS):learn (learn w id ps) id ps=learn w id ps:=by
 cases h:(honest w).any (· == id)
 ·unfold learn; rw[h,cond_false,h,cond_false]
 ·have e:learn w id ps=(w.1,w.2.1,w.2.2.1,w.2.2.2.1,ps.foldl (learnPost id) w.2.2.2.2):=by unfold learn; rw[h]; rfl
  rw[e]
  unfold learn
  rw[honest_said _ _ _ _ _ w.2.2.2.2,show (w.1,w.2.1,w.2.2.1,w.2.2.2.1,w.2.2.2.2)=w from rfl,h,cond_true]
  dsimp only
  rw[posts_knows id ps _ (posts_in id ps w.2.2.2.2)]
theorem learn_honest (w:TWorld) (id:Int) (ps:TPostS):honest (learn w id ps)=honest w:=by
 unfold learn
 cases (honest w).any (· == id)
 ·rfl
 ·exact honest_said _ _ _ _ _ _
theorem DrawLearn_ens (code:List UInt8) (hb:code.length≤big):Ens (spec_DrawLearn (code,())) fun r=>wWorld r.1≤600000000∧wPostS r.2.2.1≤100000:=by
 unfold spec_DrawLearn
 refine (l1New_ens code hb).bind fun r0 h0 => ?_
 refine (l20Draw_ens r0 h0.1).bind fun r1 h1 => ?_
 refine (l1Below_ens (r0.1,r1.1.2) 6 ⟨h0.1.1,h1.1⟩).bind fun r2 h2 => ?_
 exact (l19DrawPosts_ens (r0.1,r2.1.2) r1.2.1.1 ⟨h0.1.1,h2.1⟩ h1.2.1).bind fun r3 h3=>Ens.some ⟨h1.2.2,h3.2⟩
theorem law_LearnsOnce (code:List UInt8) (hb:code.length≤big):laws_FnLearnsOnce (code,())=some (true,()):=by
 suffices h:Ens (laws_FnLearnsOnce (code,())) fun r=>r=(true,()) by
  obtain⟨y,hy,rfl⟩:=h
  exact hy
 unfold laws_FnLearnsOnce laws_big
 dsimp only
 by_cases hbig:(code.length:Int)>1048576
 ·simp only[hbig,decide_true,Option.bind_some,cond_true]
  exact Ens.some rfl
 simp only[hbig,decide_false,Option.bind_some,cond_false]
 refine (DrawLearn_ens code hb).bind fun r1 h1 => ?_
 obtain⟨hw,hp⟩:=h1
 have hl:=learn_w r1.1 r1.2.1 r1.2.2.1
 have hr:r1.1.2.2.1.length≤wWorld r1.1∧r1.1.2.1.length≤wWorld r1.1:=by simp only[wWorld,wRepS,wIntS]; omega
 have hr2:(learn r1.1 r1.2.1 r1.2.2.1).2.2.1.length≤wWorld (learn r1.1 r1.2.1 r1.2.2.1)∧(learn r1.1 r1.2.1 r1.2.2.1).2.1.length≤wWorld (learn r1.1 r1.2.1 r1.2.2.1):=by simp only[wWorld,wRepS,wIntS]; omega
 rw[impl_Learn_eq _ _ _ (by omega) (by omega),Option.bind_some]
 dsimp only
 rw[impl_Learn_eq (learn r1.1 r1.2.1 r1.2.2.1) _ _ (by omega) (by omega),Option.bind_some,spec_Learn_eq _ _ _ (by omega) (by omega),Option.bind_some]
 dsimp only
 rw[learn_twice,sameWorld_self _ (by omega),Option.bind_some,cond_true,Option.bind_some,cond_true,impl_Honest_eq _ (by omega) (by omega),Option.bind_some,impl_Honest_eq _ (by omega) (by omega),Option.bind_some,learn_honest]
 have hh:=honest_len r1.1
 dsimp only
 rw[sameInts_self _ (by omega),Option.bind_some]
 exact Ens.some rfl
end G448
