/- Plain laws, part 2: what the functions compute. No program in sight. -/
import Derived.Test.YtnkmhndcjjoacaaGreatDoorHbPureA
set_option linter.unusedSimpArgs false
set_option linter.unusedVariables false
namespace G448
open Ev Go
set_option maxRecDepth 100000
def inView (r:TRep) (v:Int):TRep:=(r.1,v,r.2.2)
theorem inView_ok {c:TConf} {r:TRep} {v:Int} (h:repOk c r=true) (hv:1≤v∧v≤60):repOk c (inView r v)=true:=by
 obtain⟨a,v0,k,sf,pool,tab,dk,held⟩:=r
 show repOk c (a,v,k,sf,pool,tab,dk,held)=true
 unfold repOk at h ⊢
 simp only[Bool.and_eq_true,decide_eq_true_eq] at h ⊢
 exact⟨h.1,h.2.1,hv,h.2.2.2⟩
noncomputable def top (c:TConf) (r:TRep) (q:TQc):TRep×Bool:=
 bif !(writeOwn c r (see c r.2.2.2.1 q)).2 then (r,false) else
 bif decide (q.1+1>60) then ((writeOwn c r (see c r.2.2.2.1 q)).1,true) else
 bif rootOf c (q.1+1)==r.1 then (inView (writeOwn c r (see c r.2.2.2.1 q)).1 (max (writeOwn c r (see c r.2.2.2.1 q)).1.2.1 (q.1+1)),true) else
 tellOwn c (inView (writeOwn c r (see c r.2.2.2.1 q)).1 (max (writeOwn c r (see c r.2.2.2.1 q)).1.2.1 (q.1+1))) (rootOf c (q.1+1)) (3,q.1+1,([],0,[],[]),(0,[],[]),q,r.1,0,0,0,0)
theorem writeOwn_ok {c:TConf} {r:TRep} {s:TSafe} (hr:repOk c r=true) (h:(writeOwn c r s).2=true):repOk c (writeOwn c r s).1=true∧(writeOwn c r s).1.1=r.1∧(writeOwn c r s).1.2.1=r.2.1:=by
 unfold writeOwn at *
 cases h1:safeSame r.2.2.2.1 s
 ·rw[h1] at h
  cases h2:(appendM r.2.2.2.2.2.2.1 (noteBytes c s)).2
  ·rw[h2] at h; cases h
  ·cases h3:safeOk c s
   ·rw[h2,h3] at h; cases h
   ·simp only[cond_false,Bool.and_self,cond_true]
    exact⟨by rw[withSafe_ok hr (appendM_ok h2),h3],rfl,rfl⟩
 ·exact⟨hr,rfl,rfl⟩
theorem qc_view {c:TConf} {q:TQc} (h:qcOk c q=true):0≤q.1∧q.1≤60:=by
 unfold qcOk at h
 simp only[Bool.and_eq_true,beq_iff_eq] at h
 obtain⟨_,hn,hv,_⟩:=h
 by_cases h0:q.2.1=[]
 ·have:=name_nil.2
  rw[←h0,hv] at this
  omega
 ·have:=name_view hn h0
  omega
theorem msg3_w (q:TQc) (v me:Int):wMsg (3,v,([],0,[],[]),(0,[],[]),q,me,0,0,0,0)=wQc q:=by
 simp[wMsg,wBlock,wPart,wQc,wIntS]
theorem wOwn_w (c:TConf) (r:TRep) (s:TSafe):wRep (writeOwn c r s).1≤wRep r+wSafe s+(r.2.2.2.2.2.2.1.1.length+(noteBytes c s).length):=by
 unfold writeOwn
 cases safeSame r.2.2.2.1 s
 ·cases h2:((appendM r.2.2.2.2.2.2.1 (noteBytes c s)).2 && safeOk c s)
  ·simp only[cond_false]; omega
  ·simp only[cond_false,cond_true]
   have:=withSafe_w r s (appendM r.2.2.2.2.2.2.1 (noteBytes c s)).1
   have h3:(appendM r.2.2.2.2.2.2.1 (noteBytes c s)).1.1.length≤r.2.2.2.2.2.2.1.1.length+(noteBytes c s).length:=by
    unfold appendM
    split
    ·simp
    ·simp
   omega
 ·simp only[cond_true]; omega
theorem own_w (c:TConf) (r:TRep) (s:TSafe):wRep (writeOwn c r s).1≤40+2*wRep r+6*wSafe s:=by
 have h1:=wOwn_w c r s
 have h3:=noteBytes_len c s
 have h4:r.2.2.2.2.2.2.1.1.length≤wRep r:=by simp only[wRep,wDisk]; omega
 omega
theorem write_w2 (c:TConf) (r:TRep) (q:TQc):wRep (writeOwn c r (see c r.2.2.2.1 q)).1≤40+8*wRep r+12*wQc q:=by
 have h1:=own_w c r (see c r.2.2.2.1 q)
 have h2:=see_w c r.2.2.2.1 q
 have h4:wSafe r.2.2.2.1≤wRep r:=by simp only[wRep]; omega
 omega
theorem spec_l16Top_eq (c:TConf) (r:TRep) (p:TPart) (hok:repOk c r=true) (hr:wRep r≤20000000) (hp:wPart p≤20000000) :
  spec_l16Top (c,r,p,())=some ((bif (partQc c p).2 then top c r p else (r,false)).1,(bif (partQc c p).2 then top c r p else (r,false)).2,()):=by
 have hs:wSafe r.2.2.2.1≤20000000:=by simp only[wRep] at hr; omega
 have hpq:wQc p≤20000000:=hp
 unfold spec_l16Top
 dsimp only
 rw[spec_PartQc_eq c p (by omega),Option.bind_some]
 cases h:(partQc c p).2
 ·rfl
 ·obtain⟨e,hq⟩:=partQc_ok h
  have hv:=qc_view hq
  have hsee:=see_w c r.2.2.2.1 p
  have hww:=write_w2 c r p
  dsimp only
  simp only[Bool.not_true,cond_false,cond_true]
  rw[e,spec_See_eq c r.2.2.2.1 p (by omega) (by omega),Option.bind_some,spec_l15Write_eq c r (see c r.2.2.2.1 p) (by omega) (by omega),Option.bind_some,wr_id' (show -9223372036854775808≤p.1+1 by omega) (by omega)]
  unfold top
  cases hw:(writeOwn c r (see c r.2.2.2.1 p)).2
  ·rfl
  ·obtain⟨o1,o2,o3⟩:=writeOwn_ok hok hw
   simp only[Bool.not_true,cond_false,cond_true,spec_max_eq,spec_Root_eq,Option.bind_some]
   cases decide (p.1+1>60)
   ·simp only[cond_false]
    cases (rootOf c (p.1+1)==r.1)
    ·simp only[cond_false]
     have hm:=msg3_w p (p.1+1) r.1
     rw[spec_l16Tell_eq c _ _ _ (repOk_conf hok) (by show wRep (inView (writeOwn c r (see c r.2.2.2.1 p)).1 _)≤_; simp only[inView,wRep] at hww hr ⊢; omega) (by omega),Option.bind_some]
     rfl
    ·rfl
   ·rfl
theorem impl_crown_eq (c:TConf) (r:TRep) (p:TQc) (hok:repOk c r=true) (hq:qcOk c p=true) (hr:wRep r≤20000000) (hp:wQc p≤20000000) :
  impl_crown (c,r,p,())=some ((top c r p).1,(top c r p).2,()):=by
 have hs:wSafe r.2.2.2.1≤20000000:=by simp only[wRep] at hr; omega
 have hv:=qc_view hq
 have hsee:=see_w c r.2.2.2.1 p
 have hww:=write_w2 c r p
 have hwe:write c r (see c r.2.2.2.1 p)=writeOwn c r (see c r.2.2.2.1 p):=by unfold write; rw[hok]; rfl
 unfold impl_crown
 dsimp only
 rw[impl_See_eq c r.2.2.2.1 p (by omega) (by omega),Option.bind_some,impl_Write_eq c r (see c r.2.2.2.1 p) (by omega) (by omega),Option.bind_some,wr_id' (show -9223372036854775808≤p.1+1 by omega) (by omega),hwe]
 unfold top
 cases hw:(writeOwn c r (see c r.2.2.2.1 p)).2
 ·rfl
 ·obtain⟨o1,o2,o3⟩:=writeOwn_ok hok hw
  simp only[Bool.not_true,cond_false,cond_true,mx_max,impl_Root_eq,Option.bind_some]
  by_cases h60:p.1+1>60
  ·simp only[h60,decide_true,cond_true]
  ·simp only[h60,decide_false,cond_false,bne]
   cases (rootOf c (p.1+1)==r.1)
   ·simp only[cond_false,cond_true,Bool.not_false]
    have hm:=msg3_w p (p.1+1) r.1
    have hrv:=repOk_view hok
    have hk:=inView_ok (v:=max (writeOwn c r (see c r.2.2.2.1 p)).1.2.1 (p.1+1)) o1 (by rw[o3]; omega)
    rw[impl_Tell_eq c _ _ _ (by show wRep (inView (writeOwn c r (see c r.2.2.2.1 p)).1 _)≤_; simp only[inView,wRep] at hww hr ⊢; omega) (by omega),Option.bind_some]
    show (bif (tell c (inView (writeOwn c r (see c r.2.2.2.1 p)).1 (max (writeOwn c r (see c r.2.2.2.1 p)).1.2.1 (p.1+1))) _ _).2 then some ((tell c (inView _ _) _ _).1,(tell c (inView _ _) _ _).2,()) else some ((tell c (inView _ _) _ _).1,(tell c (inView _ _) _ _).2,()))=_
    rw[←tell_own _ _ hk]
    cases (tellOwn c (inView (writeOwn c r (see c r.2.2.2.1 p)).1 (max (writeOwn c r (see c r.2.2.2.1 p)).1.2.1 (p.1+1))) (rootOf c (p.1+1)) (3,p.1+1,([],0,[],[]),(0,[],[]),p,r.1,0,0,0,0)).2<;>rfl
   ·rfl
noncomputable def climbIn (c:TConf) (r:TRep) (v:Int) (name:List UInt8) (force:Bool):TRep×Bool:=
 bif (((tableGet r.2.2.2.2.2.1 v name).2.2.length:Int)==0) then (r,false) else bif name==[] then (r,false) else
 bif rootOf c v==r.1 then (bif (partQc c (tableGet r.2.2.2.2.2.1 v name)).2 then top c r (tableGet r.2.2.2.2.2.1 v name) else (r,false)) else
 bif !force && decide ((common (under c v r.1) (tableGet r.2.2.2.2.2.1 v name).2.2:Int)<((under c v r.1).length:Int)) then (r,false) else
 tellOwn c r (up c v r.1) (2,0,([],0,[],[]),tableGet r.2.2.2.2.2.1 v name,(0,[],[]),0,0,0,0,0)
noncomputable def climb (c:TConf) (r:TRep) (v:Int) (name:List UInt8) (force:Bool):TRep×Bool:=
 bif repOk c r && (climbIn c r v name force).2 then ((climbIn c r v name force).1,true) else (r,false)
theorem tableGet_w (l:TPartS) (v:Int) (name:List UInt8):wPart (tableGet l v name)≤wPartS l+name.length:=by
 unfold tableGet
 cases h:l.find? (fun p=>p.1==v && p.2.1==name) with
 | none=>simp[wPart,wIntS]
 | some p=>
  have:=sum_mem wPart (List.mem_of_find?_eq_some h)
  simp only[wPartS]; omega
theorem msg2_w (p:TPart):wMsg (2,0,([],0,[],[]),p,(0,[],[]),0,0,0,0,0)=wPart p:=by
 simp[wMsg,wBlock,wPart,wQc,wIntS]
theorem spec_l16Climb_eq (c:TConf) (r:TRep) (v:Int) (name:List UInt8) (force:Bool) (hok:repOk c r=true) (hr:wRep r≤15000000) (hn:name.length≤5000000) :
  spec_l16Climb (c,r,v,name,force,())=some ((climbIn c r v name force).1,(climbIn c r v name force).2,()):=by
 have ht:wPartS r.2.2.2.2.2.1≤15000000:=by simp only[wRep] at hr; omega
 have hg:=tableGet_w r.2.2.2.2.2.1 v name
 have hl:(tableGet r.2.2.2.2.2.1 v name).2.2.length≤20000000:=by
  have:(tableGet r.2.2.2.2.2.1 v name).2.2.length≤wPart (tableGet r.2.2.2.2.2.1 v name):=by simp only[wPart,wIntS]; omega
  omega
 have hu:=under_len c v r.1
 unfold spec_l16Climb climbIn
 dsimp only
 rw[spec_TableGet_eq _ v name (by omega),Option.bind_some]
 generalize hP:tableGet r.2.2.2.2.2.1 v name=p at *
 dsimp only
 cases ((p.2.2.length:Int)==0)
 ·simp only[cond_false]
  cases (name==([]:List UInt8))
  ·simp only[cond_false,spec_Root_eq,Option.bind_some]
   cases (rootOf c v==r.1)
   ·simp only[cond_false,spec_Under_eq,Option.bind_some,spec_Common_eq _ p.2.2 (show (under c v r.1).length≤1073741824 by omega) (by omega),spec_Up_eq]
    have hm:=msg2_w p
    rw[spec_l16Tell_eq c r _ _ (repOk_conf hok) (by omega) (by omega)]
    cases force
    ·simp only[Bool.not_false,cond_true,Bool.true_and]
     cases decide ((common (under c v r.1) p.2.2:Int)<((under c v r.1).length:Int))<;>rfl
    ·rfl
   ·simp only[cond_true]
    rw[spec_l16Top_eq c r p hok (by omega) (by omega),Option.bind_some]
  ·rfl
 ·rfl
theorem tell_no {c:TConf} {r:TRep} {to:Int} {m:TMsg} (h:(tellOwn c r to m).2=false):(tellOwn c r to m).1=r:=by
 unfold tellOwn at *
 cases hc:(!decide ((r.2.2.2.2.2.2.2.length:Int)≥30) && heldOk c r.1 (to,m))
 ·rfl
 ·rw[hc] at h; cases h
theorem impl_Climb_eq (c:TConf) (r:TRep) (v:Int) (name:List UInt8) (force:Bool) (hr:wRep r≤15000000) (hn:name.length≤5000000) :
  impl_Climb (c,r,v,name,force,())=some ((climb c r v name force).1,(climb c r v name force).2,()):=by
 have ht:wPartS r.2.2.2.2.2.1≤15000000:=by simp only[wRep] at hr; omega
 have hg:=tableGet_w r.2.2.2.2.2.1 v name
 have hl:(tableGet r.2.2.2.2.2.1 v name).2.2.length≤20000000:=by
  have:(tableGet r.2.2.2.2.2.1 v name).2.2.length≤wPart (tableGet r.2.2.2.2.2.1 v name):=by simp only[wPart,wIntS]; omega
  omega
 have hu:=under_len c v r.1
 unfold impl_Climb climb climbIn
 dsimp only
 rw[impl_TableGet_eq _ v name (by omega),Option.bind_some]
 generalize hP:tableGet r.2.2.2.2.2.1 v name=p at *
 dsimp only
 rw[impl_copyRep_eq r (by omega),impl_RepOk_eq c r (by omega),Option.bind_some,Option.bind_some]
 cases ((p.2.2.length:Int)==0)
 ·cases hok:repOk c r
  ·rfl
  ·simp only[cond_false,Bool.not_true,Bool.true_and]
   cases (name==([]:List UInt8))
   ·simp only[cond_false,impl_Root_eq,Option.bind_some]
    cases (rootOf c v==r.1)
    ·simp only[cond_false,impl_Under_eq,Option.bind_some,impl_Common_eq _ p.2.2 (show (under c v r.1).length≤1073741824 by omega) (by omega),impl_Up_eq]
     have hm:=msg2_w p
     rw[impl_Tell_eq c r _ _ (by omega) (by omega),←tell_own _ _ hok,Option.bind_some]
     cases ht2:(tellOwn c r (up c v r.1) (2,0,([],0,[],[]),p,(0,[],[]),0,0,0,0,0)).2
     ·have hno:=tell_no ht2
      cases force
      ·simp only[Bool.not_false,cond_true,Bool.true_and]
       cases decide ((common (under c v r.1) p.2.2:Int)<((under c v r.1).length:Int))
       ·simp only[cond_false,hno,ht2]
       ·rfl
      ·simp only[Bool.not_true,Bool.false_and,cond_false,hno,ht2]
     ·cases force
      ·simp only[Bool.not_false,cond_true,Bool.true_and]
       cases decide ((common (under c v r.1) p.2.2:Int)<((under c v r.1).length:Int))
       ·simp only[cond_false,ht2,cond_true]
       ·rfl
      ·simp only[Bool.not_true,Bool.false_and,cond_false,ht2,cond_true]
    ·simp only[cond_true]
     rw[impl_PartQc_eq c p (by omega),Option.bind_some]
     cases h:(partQc c p).2
     ·rfl
     ·obtain⟨e,hq⟩:=partQc_ok h
      have hpq:wQc p≤20000000:=(by omega:wPart p≤20000000)
      dsimp only
      simp only[Bool.not_true,cond_false,cond_true]
      rw[e,impl_crown_eq c r p hok hq (by omega) hpq,Option.bind_some]
      cases (top c r p).2<;>rfl
   ·rfl
 ·cases repOk c r<;>rfl
theorem top_w (c:TConf) (r:TRep) (q:TQc):wRep (top c r q).1≤200+21*wRep r+21*wQc q:=by
 have hww:=write_w2 c r q
 unfold top
 cases (writeOwn c r (see c r.2.2.2.1 q)).2
 ·simp only[Bool.not_false,cond_true]; omega
 ·cases decide (q.1+1>60)
  ·cases (rootOf c (q.1+1)==r.1)
   ·simp only[Bool.not_true,cond_false]
    unfold tellOwn
    cases (!decide (((inView (writeOwn c r (see c r.2.2.2.1 q)).1 (max (writeOwn c r (see c r.2.2.2.1 q)).1.2.1 (q.1+1))).2.2.2.2.2.2.2.length:Int)≥30) && heldOk c (inView (writeOwn c r (see c r.2.2.2.1 q)).1 (max (writeOwn c r (see c r.2.2.2.1 q)).1.2.1 (q.1+1))).1 (rootOf c (q.1+1),(3,q.1+1,([],0,[],[]),(0,[],[]),q,r.1,0,0,0,0)))
    ·simp only[cond_false,inView,wRep] at hww ⊢; omega
    ·simp only[cond_true,holdOne,inView,wRep,wPostS,wPost,List.length_append,List.map_append,List.sum_append,List.map_cons,List.map_nil,List.sum_cons,List.sum_nil,List.length_cons,List.length_nil,msg3_w] at hww ⊢
     omega
   ·simp only[Bool.not_true,cond_false,cond_true,inView,wRep] at hww ⊢; omega
  ·simp only[Bool.not_true,cond_false,cond_true]; omega
theorem climb_w (c:TConf) (r:TRep) (v:Int) (name:List UInt8) (force:Bool):wRep (climb c r v name force).1≤300+50*wRep r+50*name.length:=by
 have hg:=tableGet_w r.2.2.2.2.2.1 v name
 have ht:wPartS r.2.2.2.2.2.1≤wRep r:=by simp only[wRep]; omega
 have h1:=top_w c r (tableGet r.2.2.2.2.2.1 v name)
 have h2:wQc (tableGet r.2.2.2.2.2.1 v name)≤wRep r+name.length:=(by omega:wPart (tableGet r.2.2.2.2.2.1 v name)≤wRep r+name.length)
 unfold climb
 cases (repOk c r && (climbIn c r v name force).2)
 ·simp only[cond_false]; omega
 ·simp only[cond_true]
  unfold climbIn
  cases (((tableGet r.2.2.2.2.2.1 v name).2.2.length:Int)==0)
  ·cases (name==([]:List UInt8))
   ·cases (rootOf c v==r.1)
    ·simp only[cond_false]
     cases (!force && decide ((common (under c v r.1) (tableGet r.2.2.2.2.2.1 v name).2.2:Int)<((under c v r.1).length:Int)))
     ·simp only[cond_false]
      unfold tellOwn
      have hm:=msg2_w (tableGet r.2.2.2.2.2.1 v name)
      generalize tableGet r.2.2.2.2.2.1 v name=p at *
      cases (!decide ((r.2.2.2.2.2.2.2.length:Int)≥30) && heldOk c r.1 (up c v r.1,(2,0,([],0,[],[]),p,(0,[],[]),0,0,0,0,0)))
      ·simp only[cond_false]; omega
      ·simp only[cond_true,holdOne,wRep,wPostS,wPost,List.length_append,List.map_append,List.sum_append,List.map_cons,List.map_nil,List.sum_cons,List.sum_nil,List.length_cons,List.length_nil,hm] at *
       omega
     ·simp only[cond_true]; omega
    ·simp only[cond_false,cond_true]
     cases (partQc c (tableGet r.2.2.2.2.2.1 v name)).2
     ·simp only[cond_false]; omega
     ·simp only[cond_true]; omega
   ·simp only[cond_false,cond_true]; omega
  ·simp only[cond_true]; omega
end G448
namespace G448
open Ev Go
set_option maxRecDepth 100000
theorem setIns (l:List Int) (x:Int) (i:Nat) (hi:i≤l.length) (hl:l.length≤137438953472) :
  ((if (((0:Int)≤0)∧((0≤(i:Int))∧((i:Int)≤(((List.length l):Nat):Int)))) then (if (((0+(List.length (List.take ((Int.toNat (i:Int)) - (Int.toNat 0)) (List.drop (Int.toNat 0) l))))*8)≤70368744177664) then (if ((((List.length ([]++(List.take ((Int.toNat (i:Int)) - (Int.toNat 0)) (List.drop (Int.toNat 0) l))))+(List.length (x::[])))*8)≤70368744177664) then (if ((0≤(i:Int))∧(((i:Int)≤(((List.length l):Nat):Int))∧((((List.length l):Nat):Int)≤(((List.length l):Nat):Int)))) then (if ((((List.length (([]++(List.take ((Int.toNat (i:Int)) - (Int.toNat 0)) (List.drop (Int.toNat 0) l)))++(x::[])))+(List.length (List.take ((Int.toNat (((List.length l):Nat):Int)) - (Int.toNat (i:Int))) (List.drop (Int.toNat (i:Int)) l))))*8)≤70368744177664) then some (((([]++(List.take ((Int.toNat (i:Int)) - (Int.toNat 0)) (List.drop (Int.toNat 0) l)))++(x::[]))++(List.take ((Int.toNat (((List.length l):Nat):Int)) - (Int.toNat (i:Int))) (List.drop (Int.toNat (i:Int)) l))),()) else none) else none) else none) else none) else none):Option (List Int×Unit))=some (l.take i++x::l.drop i,()):=by
 have h1:(l.take i).length=i:=by rw[List.length_take]; omega
 have h2:(l.drop i).length=l.length - i:=List.length_drop
 have h3:(l.drop i).take (l.length - i)=l.drop i:=List.take_of_length_le (by rw[h2]; exact Nat.le_refl _)
 simp only[Int.toNat_natCast,show Int.toNat 0=0 from rfl,Nat.sub_zero,List.drop_zero,List.nil_append,h3,List.length_append,h1,h2,List.length_cons,List.length_nil]
 rw[if_pos ⟨by omega,by omega,by omega⟩,if_pos (by omega),if_pos (by omega),if_pos ⟨by omega,by omega,by omega⟩,if_pos (by omega)]
 simp
noncomputable def setK (l:List Int) (x:Int):Nat:=firstAt (fun y=>decide (y≥x)) 0 l
noncomputable def setAdd (l:List Int) (x:Int):List Int:=bif l.any (· == x) then l else l.take (setK l x)++x::l.drop (setK l x)
theorem spec_SetAdd_eq (l:List Int) (x:Int) (hl:l.length≤137438953472):spec_SetAdd (l,x,())=some (setAdd l x,()):=by
 unfold spec_SetAdd setAdd
 dsimp only
 rw[spec_SetHas_eq l x (by omega),Option.bind_some]
 dsimp only
 cases l.any (· == x)
 ·simp only[cond_false]
  unfold setK
  refine (walk l.length (fun i (_:Unit)=>(i,())) (fun _ _=>True) (fun i _=>some (l.take (firstAt (fun y=>decide (y≥x)) i (l.drop i))++x::l.drop (firstAt (fun y=>decide (y≥x)) i (l.drop i)),())) (by omega) ?_ ?_ (s0:=()) trivial).trans (by simp only[List.drop_zero])
  ·intro rec s _
   have e:=setIns l x l.length (Nat.le_refl _) hl
   rw[List.drop_length] at e ⊢
   simp only[Int.lt_irrefl,decide_false,cond_false,firstAt]
   rw[List.drop_length]
   exact e
  ·intro rec i s hi _
   have hx:l[i]?=some l[i]:=List.getElem?_eq_getElem hi
   have e:=setIns l x i (Nat.le_of_lt hi) hl
   have hd0:decide ((i:Int)<((l.length:Nat):Int))=true:=decide_eq_true (by omega)
   have hr:rd .i64 l (Int.toNat (i:Int))=l[i]:=rd_get (e:=.i64) hx
   dsimp only
   by_cases hlt:l[i]<x
   ·right
    have hd:decide (l[i]≥x)=false:=decide_eq_false (by omega)
    refine⟨(),trivial,?_,?_⟩
    ·rw[hd0,cond_true,if_pos (ge_ok hi),hr,decide_eq_true hlt,cond_true,wr_nat (show i<4611686018427387904 by omega)]
    ·rw[List.drop_eq_getElem_cons hi]
     simp only[firstAt,hd,cond_false]
   ·left
    have hd:decide (l[i]≥x)=true:=decide_eq_true (by omega)
    rw[hd0,cond_true,if_pos (ge_ok hi),hr,decide_eq_false hlt,cond_false]
    refine e.trans ?_
    rw[show firstAt (fun y=>decide (y≥x)) i (l.drop i)=i by rw[List.drop_eq_getElem_cons hi]; simp only[firstAt,hd,cond_true]]
 ·simp only[cond_true,List.nil_append]
  rw[if_pos (by omega)]
theorem impl_IndexInt_eq (l:List Int) (x:Int) (hl:l.length≤137438953472):slices_IndexFunc_int (l,x,())=some ((if setK l x<l.length then ((setK l x:Nat):Int) else -1),()):=by
 unfold slices_IndexFunc_int setK
 refine (walk l.length (fun i (_:Unit)=>(i,())) (fun _ _=>True) (fun i _=>some ((if firstAt (fun y=>decide (y≥x)) i (l.drop i)<l.length then ((firstAt (fun y=>decide (y≥x)) i (l.drop i):Nat):Int) else -1),())) (by omega) ?_ ?_ (s0:=()) trivial).trans (by simp only[List.drop_zero])
 ·intro rec s _
  rw[List.drop_length]
  simp only[Int.lt_irrefl,decide_false,cond_false,firstAt,Nat.lt_irrefl,if_false]
 ·intro rec i s hi _
  have hx:l[i]?=some l[i]:=List.getElem?_eq_getElem hi
  rw[List.drop_eq_getElem_cons hi]
  unfold impl_SetAdd_1
  simp only[ge_ok hi,decide_true,cond_true,and_self,if_true,Int.toNat_natCast,rd_get (e:=.i64) hx,Option.bind_some,wr_nat (show i<4611686018427387904 by omega),firstAt]
  by_cases hb:l[i]≥x
  ·left
   simp only[hb,decide_true,cond_true,hi,if_true]
  ·right
   exact⟨(),trivial,by simp only[hb,decide_false,cond_false],by simp only[hb,decide_false,cond_false]⟩
theorem insert_int (l:List Int) (x:Int) (k:Nat) (hk:k≤l.length) (hl:l.length≤137438953472):slices_Insert_int (l,(k:Int),[x],())=some (l.take k++x::l.drop k,()):=by
 unfold slices_Insert_int insAt
 dsimp only
 simp only[List.length_cons,List.length_nil]
 rw[if_pos (by omega),Int.toNat_natCast]
 simp
theorem impl_SetAdd_eq (l:List Int) (x:Int) (hl:l.length≤137438953472):impl_SetAdd (l,x,())=some (setAdd l x,()):=by
 have hle:setK l x≤l.length:=by have:=(firstAt_le (fun y=>decide (y≥x)) l 0).2; unfold setK; omega
 unfold impl_SetAdd setAdd
 dsimp only
 rw[impl_SetHas_eq l x (by omega),Option.bind_some,impl_copyInts_eq l hl,impl_IndexInt_eq l x hl]
 simp only[Option.bind_some]
 cases l.any (· == x)
 ·simp only[cond_false]
  by_cases hlt:setK l x<l.length
  ·rw[if_pos hlt]
   have:decide (((setK l x:Nat):Int)<0)=false:=decide_eq_false (by omega)
   rw[this,cond_false,insert_int l x _ hle hl,Option.bind_some]
  ·rw[if_neg hlt]
   have:decide ((-1:Int)<0)=true:=rfl
   rw[this,cond_true,insert_int l x l.length (Nat.le_refl _) hl,Option.bind_some,show setK l x=l.length by omega]
 ·rfl
theorem setAdd_len (l:List Int) (x:Int):(setAdd l x).length≤l.length+1:=by
 have hle:setK l x≤l.length:=by have:=(firstAt_le (fun y=>decide (y≥x)) l 0).2; unfold setK; omega
 unfold setAdd
 cases l.any (· == x)
 ·simp only[cond_false,List.length_append,List.length_cons,List.length_take,List.length_drop]; omega
 ·simp only[cond_true]; omega
end G448
namespace G448
open Ev Go
set_option maxRecDepth 100000
noncomputable def setJoin (a b:List Int):List Int:=b.foldl setAdd (a.foldl setAdd [])
theorem setFold_len : ∀ (l s:List Int),(l.foldl setAdd s).length≤s.length+l.length
 | [],s=>by simp
 | x::l,s=>by
  have h1:=setAdd_len s x
  have h2:=setFold_len l (setAdd s x)
  simp only[List.foldl_cons,List.length_cons]; omega
theorem setJoin_len (a b:List Int):(setJoin a b).length≤a.length+b.length:=by
 have h1:=setFold_len a []
 have h2:=setFold_len b (a.foldl setAdd [])
 simp only[setJoin,List.length_nil] at *; omega
theorem join_loop {K:List Int→Option (List Int×Unit)} (l s0:List Int) (hl:l.length≤1152921504606846976) {G:(List Int×Int×Unit→Option (List Int×Unit))→List Int×Int×Unit→Option (List Int×Unit)}
  (hon : ∀ (rec:List Int×Int×Unit→Option (List Int×Unit)) (i:Nat) (s:List Int) (h:i<l.length),s.length≤s0.length+i→G rec (s,(i:Int),())=rec (setAdd s l[i],(i:Int)+1,()))
  (hoff : ∀ (rec:List Int×Int×Unit→Option (List Int×Unit)) (s:List Int),s.length≤s0.length+l.length→G rec (s,(l.length:Int),())=K s) :
  iter G fuel (s0,0,())=K (l.foldl setAdd s0):=by
 refine (walk l.length (fun i (s:List Int)=>(s,i,())) (fun i s=>s.length≤s0.length+i) (fun i s=>K ((l.drop i).foldl setAdd s)) hl ?_ ?_ (s0:=s0) (by simp)).trans (by simp only[List.drop_zero])
 ·intro rec s hI
  rw[hoff rec s hI,List.drop_length]
  rfl
 ·intro rec i s hi hI
  have:=setAdd_len s l[i]
  exact .inr ⟨setAdd s l[i],by omega,hon rec i s hi hI,by rw[List.drop_eq_getElem_cons hi]; rfl⟩
theorem spec_SetJoin_eq (a b:List Int) (ha:a.length≤1073741824) (hb:b.length≤1073741824):spec_SetJoin (a,b,())=some (setJoin a b,()):=by
 unfold spec_SetJoin
 refine join_loop (K:=fun s=>some (b.foldl setAdd s,())) a [] (by omega) ?_ ?_
 ·intro rec i s hi hI
  have hx:a[i]?=some a[i]:=List.getElem?_eq_getElem hi
  simp only[List.length_nil] at hI
  simp only[ge_ok hi,decide_true,cond_true,and_self,if_true,Int.toNat_natCast,rd_get (e:=.i64) hx,spec_SetAdd_eq s a[i] (by omega),Option.bind_some,wr_nat (show i<4611686018427387904 by omega)]
 ·intro rec s hI
  simp only[List.length_nil] at hI
  simp only[Int.lt_irrefl,decide_false,cond_false]
  refine join_loop (K:=fun s=>some (s,())) b s (by omega) ?_ ?_
  ·intro rec i s2 hi hI2
   have hx:b[i]?=some b[i]:=List.getElem?_eq_getElem hi
   simp only[ge_ok hi,decide_true,cond_true,and_self,if_true,Int.toNat_natCast,rd_get (e:=.i64) hx,spec_SetAdd_eq s2 b[i] (by omega),Option.bind_some,wr_nat (show i<4611686018427387904 by omega)]
  ·intro rec s2 _
   simp only[Int.lt_irrefl,decide_false,cond_false]
theorem impl_SetJoin_eq (a b:List Int) (ha:a.length≤1073741824) (hb:b.length≤1073741824):impl_SetJoin (a,b,())=some (setJoin a b,()):=by
 unfold impl_SetJoin
 refine join_loop (K:=fun s=>some (b.foldl setAdd s,())) a [] (by omega) ?_ ?_
 ·intro rec i s hi hI
  have hx:a[i]?=some a[i]:=List.getElem?_eq_getElem hi
  simp only[List.length_nil] at hI
  simp only[ge_ok hi,decide_true,cond_true,and_self,if_true,Int.toNat_natCast,rd_get (e:=.i64) hx,impl_SetAdd_eq s a[i] (by omega),Option.bind_some,wr_nat (show i<4611686018427387904 by omega)]
 ·intro rec s hI
  simp only[List.length_nil] at hI
  simp only[Int.lt_irrefl,decide_false,cond_false]
  refine join_loop (K:=fun s=>some (s,())) b s (by omega) ?_ ?_
  ·intro rec i s2 hi hI2
   have hx:b[i]?=some b[i]:=List.getElem?_eq_getElem hi
   simp only[ge_ok hi,decide_true,cond_true,and_self,if_true,Int.toNat_natCast,rd_get (e:=.i64) hx,impl_SetAdd_eq s2 b[i] (by omega),Option.bind_some,wr_nat (show i<4611686018427387904 by omega)]
  ·intro rec s2 _
   simp only[Int.lt_irrefl,decide_false,cond_false]
noncomputable def partJoin (a b:TPart):TPart×Bool:=bif a.1==b.1 && a.2.1==b.2.1 then ((a.1,a.2.1,setJoin a.2.2 b.2.2),true) else ((0,[],[]),false)
theorem spec_PartJoin_eq (a b:TPart) (ha:wPart a≤1073741824) (hb:wPart b≤1073741824):spec_PartJoin (a,b,())=some ((partJoin a b).1,(partJoin a b).2,()):=by
 have h1:a.2.2.length≤1073741824∧b.2.2.length≤1073741824:=by simp only[wPart,wIntS] at ha hb; omega
 unfold spec_PartJoin partJoin
 dsimp only
 rw[spec_SetJoin_eq _ _ h1.1 h1.2,Option.bind_some]
 simp only[bne]
 cases (a.1==b.1)<;>cases (a.2.1==b.2.1)<;>rfl
theorem impl_PartJoin_eq (a b:TPart) (ha:wPart a≤1073741824) (hb:wPart b≤1073741824):impl_PartJoin (a,b,())=some ((partJoin a b).1,(partJoin a b).2,()):=by
 have h1:a.2.2.length≤1073741824∧b.2.2.length≤1073741824:=by simp only[wPart,wIntS] at ha hb; omega
 unfold impl_PartJoin partJoin
 dsimp only
 rw[impl_SetJoin_eq _ _ h1.1 h1.2,Option.bind_some]
 simp only[bne]
 cases (a.1==b.1)<;>cases (a.2.1==b.2.1)<;>rfl
theorem partJoin_w (a b:TPart):wPart (partJoin a b).1≤wPart a+wPart b:=by
 have h:=setJoin_len a.2.2 b.2.2
 unfold partJoin
 cases (a.1==b.1 && a.2.1==b.2.1)
 ·simp[wPart,wIntS]
 ·simp only[cond_true,wPart,wIntS]; omega
noncomputable def tabGo (p:TPart):TPartS→TPartS
 | []=>[p]
 | q::r=>bif beforePart q p then q::tabGo p r else bif (partJoin q p).2 then (partJoin q p).1::r else p::q::r
theorem tabGo_w (p:TPart) : ∀ (l:TPartS),wPartS (tabGo p l)≤wPartS l+wPart p+1
 | []=>by simp[tabGo,wPartS]; omega
 | q::r=>by
  have h:=tabGo_w p r
  have h2:=partJoin_w q p
  simp only[tabGo]
  cases beforePart q p
  ·cases (partJoin q p).2
   ·simp only[cond_false,wPartS,List.length_cons,List.map_cons,List.sum_cons]; omega
   ·simp only[cond_false,cond_true,wPartS,List.length_cons,List.map_cons,List.sum_cons]; omega
  ·simp only[cond_true,wPartS,List.length_cons,List.map_cons,List.sum_cons] at h ⊢; omega
noncomputable def tableAdd (c:TConf) (l:TPartS) (p:TPart):TPartS×Bool:=bif partOk c p && tableOk c (tabGo p l) then (tabGo p l,true) else (l,false)
end G448
namespace G448
open Ev Go
set_option maxRecDepth 100000
theorem wPartS_app (a b:TPartS):wPartS (a++b)=wPartS a+wPartS b:=by
 simp only[wPartS,List.length_append,List.map_append,List.sum_append]; omega
theorem wPartS_len (a:TPartS):a.length≤wPartS a:=by unfold wPartS; omega
def TabI (l:TPartS) (p:TPart) (i:Nat) (s:TPartS×Bool):Prop:=
 (s.2=true∧s.1++l.drop i=tabGo p l)∨(s.2=false∧s.1++tabGo p (l.drop i)=tabGo p l)
theorem TabI.w {l:TPartS} {p:TPart} {i:Nat} {s:TPartS×Bool} (h:TabI l p i s):wPartS s.1≤wPartS l+wPart p+1:=by
 have h0:=tabGo_w p l
 rcases h with⟨_,h⟩|⟨_,h⟩<;>rw[←h,wPartS_app] at h0<;>omega
theorem spec_TableAdd_eq (c:TConf) (l:TPartS) (p:TPart) (hl:wPartS l≤100000000) (hp:wPart p≤100000000):spec_TableAdd (c,l,p,())=some ((tableAdd c l p).1,(tableAdd c l p).2,()):=by
 have hll:=wPartS_len l
 have htw:=tabGo_w p l
 have hfin : ∀ out:TPartS,out=tabGo p l→((spec_TableOk (c,out,())).bind fun r10=>(bif (!r10.1) then ((spec_l10Table (l,())).bind fun r11=>some (r11.1,(false,()))) else ((spec_PartOk (c,(p,()))).bind fun r12=>(bif (!r12.1) then ((spec_l10Table (l,())).bind fun r13=>some (r13.1,(false,()))) else some (out,(true,()))))))=some ((tableAdd c l p).1,(tableAdd c l p).2,()):=by
  intro out ho
  subst ho
  rw[spec_TableOk_eq c _ (by omega),Option.bind_some,spec_l10Table_eq l (by omega),spec_PartOk_eq c p (by omega)]
  unfold tableAdd
  cases tableOk c (tabGo p l)<;>cases partOk c p<;>rfl
 unfold spec_TableAdd
 dsimp only
 refine walk l.length (fun i (s:TPartS×Bool)=>(s.1,s.2,i,())) (fun i s=>TabI l p i s) (fun _ _=>some ((tableAdd c l p).1,(tableAdd c l p).2,())) (by omega) ?_ ?_ (s0:=([],false)) (.inr ⟨rfl,rfl⟩)
 ·rintro rec ⟨out,put⟩ hI
  have hw:=hI.w
  have hol:=wPartS_len out
  unfold TabI at hI
  rw[List.drop_length] at hI
  simp only[Int.lt_irrefl,decide_false,cond_false]
  cases put
  ·rcases hI with⟨h,_⟩|⟨_,h⟩
   ·cases h
   ·simp only[Bool.not_false,cond_true]
    rw[spec_l10Copy_eq p (by omega),Option.bind_some,if_pos (by simp only[List.length_cons,List.length_nil]; simp only at hw hol; omega)]
    exact hfin (out++[p]) h
  ·rcases hI with⟨_,h⟩|⟨h,_⟩
   ·simp only[Bool.not_true,cond_false]
    exact hfin out (by simpa using h)
   ·cases h
 ·rintro rec i ⟨out,put⟩ hi hI
  have hx:l[i]?=some l[i]:=List.getElem?_eq_getElem hi
  have hpw:wPart l[i]≤100000000:=wPart_mem hl hx
  have hw:=hI.w
  have hol:=wPartS_len out
  simp only at hw hol
  unfold TabI at hI
  rw[List.drop_eq_getElem_cons hi] at hI
  right
  simp only[ge_ok hi,decide_true,cond_true,and_self,if_true,Int.toNat_natCast,rd_get (e:=EPart) hx,spec_l10Copy_eq l[i] (by omega),Option.bind_some,wr_nat (show i<4611686018427387904 by omega)]
  cases put
  ·rcases hI with⟨h,_⟩|⟨_,h⟩
   ·cases h
   ·simp only[Bool.not_false,cond_true,spec_l10Before_eq,Option.bind_some]
    simp only[tabGo] at h
    cases hb:beforePart l[i] p
    ·rw[hb] at h
     simp only[cond_false] at h
     simp only[Bool.not_false,cond_true,spec_PartJoin_eq l[i] p (by omega) (by omega),Option.bind_some,spec_l10Copy_eq p (show wPart p≤137438953472 by omega)]
     cases hj:(partJoin l[i] p).2
     ·rw[hj] at h
      simp only[cond_false] at h ⊢
      rw[if_pos (by simp only[List.length_cons,List.length_nil]; omega),if_pos (by simp only[List.length_append,List.length_cons,List.length_nil]; omega)]
      exact⟨(out++[p]++[l[i]],true),.inl ⟨rfl,by simpa using h⟩,rfl,trivial⟩
     ·rw[hj] at h
      simp only[cond_true] at h ⊢
      rw[if_pos (by simp only[List.length_cons,List.length_nil]; omega)]
      exact⟨(out++[(partJoin l[i] p).1],true),.inl ⟨rfl,by simpa using h⟩,rfl,trivial⟩
    ·rw[hb] at h
     simp only[cond_true] at h
     simp only[Bool.not_true,cond_false]
     rw[if_pos (by simp only[List.length_cons,List.length_nil]; omega)]
     exact⟨(out++[l[i]],false),.inr ⟨rfl,by simpa using h⟩,rfl,trivial⟩
  ·rcases hI with⟨_,h⟩|⟨h,_⟩
   ·simp only[Bool.not_true,cond_false]
    rw[if_pos (by simp only[List.length_cons,List.length_nil]; omega)]
    exact⟨(out++[l[i]],true),.inl ⟨rfl,by simpa using h⟩,rfl,trivial⟩
   ·cases h
theorem place_before (a b:TPart):decide (placePart a b<0)=beforePart a b:=by
 have h:=placePart_neg a b
 by_cases hp:placePart a b<0
 ·have : ¬ placePart a b≥0:=by omega
  simp only[this,decide_false] at h
  simp only[hp,decide_true]
  cases hb:beforePart a b
  ·rw[hb] at h; cases h
  ·rfl
 ·have:placePart a b≥0:=by omega
  simp only[this,decide_true] at h
  simp only[hp,decide_false]
  cases hb:beforePart a b
  ·rfl
  ·rw[hb] at h; cases h
theorem place_same {a b:TPart} (h:beforePart a b=false):(placePart a b==0)=(partJoin a b).2:=by
 have hj:(partJoin a b).2=(a.1==b.1 && a.2.1==b.2.1):=by unfold partJoin; cases (a.1==b.1 && a.2.1==b.2.1)<;>rfl
 rw[hj]
 unfold beforePart at h
 unfold placePart
 by_cases h1:a.1<b.1
 ·simp[h1] at h
 ·by_cases h2:a.1>b.1
  ·have : ¬ a.1=b.1:=by omega
   simp[h1,h2,this]
  ·have he:a.1=b.1:=by omega
   simp only[he,decide_eq_true_eq,Bool.or_eq_false_iff,beq_self_eq_true,Bool.true_and] at h
   have h3:=h.2
   simp only[he,Int.lt_irrefl,if_false,h3,Bool.false_eq_true,beq_self_eq_true,Bool.true_and,gt_iff_lt]
   by_cases h4:a.2.1=b.2.1
   ·simp[h4]
   ·simp[h4]
theorem insert_part (l:TPartS) (x:TPart) (k:Nat) (hk:k≤l.length) (hl:l.length≤137438953471):slices_Insert_impl_Part (l,(k:Int),[x],())=some (l.take k++x::l.drop k,()):=by
 unfold slices_Insert_impl_Part insAt
 dsimp only
 simp only[List.length_cons,List.length_nil]
 rw[if_pos (by omega),Int.toNat_natCast]
 simp
theorem impl_TableAdd_eq (c:TConf) (l:TPartS) (p:TPart) (hl:wPartS l≤100000000) (hp:wPart p≤100000000):impl_TableAdd (c,l,p,())=some ((tableAdd c l p).1,(tableAdd c l p).2,()):=by
 have hll:=wPartS_len l
 have htw:=tabGo_w p l
 unfold impl_TableAdd
 dsimp only
 rw[impl_PartOk_eq c p (by omega),Option.bind_some,impl_copyTable_eq l (by omega),Option.bind_some,Option.bind_some]
 cases hpo:partOk c p
 ·simp only[Bool.not_false,cond_true]
  unfold tableAdd
  rw[hpo]
  rfl
 ·simp only[Bool.not_true,cond_false]
  have hfin : ∀ out:TPartS,out=tabGo p l→((impl_TableOk (c,out,())).bind fun r7=>(bif (!r7.1) then some (l,(false,())) else some (out,(true,()))))=some ((tableAdd c l p).1,(tableAdd c l p).2,()):=by
   intro out ho
   subst ho
   rw[impl_TableOk_eq c _ (by omega),Option.bind_some]
   unfold tableAdd
   rw[hpo]
   cases tableOk c (tabGo p l)<;>rfl
  refine walk l.length (fun i (_:Unit)=>(i,())) (fun i _=>l.take i++tabGo p (l.drop i)=tabGo p l) (fun _ _=>some ((tableAdd c l p).1,(tableAdd c l p).2,())) (by omega) ?_ ?_ (s0:=()) (by simp)
  ·intro rec s hI
   rw[List.drop_length] at hI
   simp only[Int.lt_irrefl,decide_false,cond_false]
   rw[impl_copyPart_eq p (by omega),Option.bind_some,insert_part l p l.length (Nat.le_refl _) (by omega),Option.bind_some,List.drop_length]
   exact hfin _ hI
  ·intro rec i s hi hI
   have hx:l[i]?=some l[i]:=List.getElem?_eq_getElem hi
   have hpw:wPart l[i]≤100000000:=wPart_mem hl hx
   rw[List.drop_eq_getElem_cons hi] at hI
   simp only[tabGo] at hI
   simp only[ge_ok hi,decide_true,cond_true,and_self,if_true,Int.toNat_natCast,rd_get (e:=EPart) hx,impl_comparePlace_eq,Option.bind_some,place_before,wr_nat (show i<4611686018427387904 by omega)]
   cases hb:beforePart l[i] p
   ·left
    rw[hb] at hI
    simp only[cond_false] at hI ⊢
    rw[place_same hb]
    cases hj:(partJoin l[i] p).2
    ·rw[hj] at hI
     simp only[cond_false] at hI ⊢
     rw[impl_copyPart_eq p (by omega),Option.bind_some,insert_part l p i (Nat.le_of_lt hi) (by omega),Option.bind_some,List.drop_eq_getElem_cons hi]
     exact hfin _ hI
    ·rw[hj] at hI
     simp only[cond_true] at hI ⊢
     rw[impl_PartJoin_eq l[i] p (by omega) (by omega),Option.bind_some]
     dsimp only
     rw[List.set_eq_take_append_cons_drop,if_pos hi]
     exact hfin _ hI
   ·right
    rw[hb] at hI
    simp only[cond_true] at hI
    have e:l.take (i+1)=l.take i++[l[i]]:=by rw[List.take_add_one,hx]; rfl
    refine⟨(),?_,by simp only[cond_true],trivial⟩
    rw[e,List.append_assoc]
    exact hI
end G448
namespace G448
open Ev Go
set_option maxRecDepth 100000
def withTable (r:TRep) (t:TPartS):TRep:=(r.1,r.2.1,r.2.2.1,r.2.2.2.1,r.2.2.2.2.1,t,r.2.2.2.2.2.2)
theorem withTable_ok {c:TConf} {r:TRep} {t:TPartS} (h:repOk c r=true) (ht:tableOk c t=true):repOk c (withTable r t)=true:=by
 obtain⟨a,v,k,sf,pool,tab,dk,held⟩:=r
 show repOk c (a,v,k,sf,pool,t,dk,held)=true
 unfold repOk at h ⊢
 simp only[Bool.and_eq_true] at h ⊢
 obtain⟨a1,a2,a3,a4,a5,a6,a7,a8⟩:=h
 exact⟨a1,a2,a3,a4,a5,a6,ht,a8⟩
theorem tableAdd_ok {c:TConf} {l:TPartS} {p:TPart} (h:(tableAdd c l p).2=true):tableOk c (tableAdd c l p).1=true:=by
 unfold tableAdd at *
 cases h1:(partOk c p && tableOk c (tabGo p l))
 ·rw[h1] at h; cases h
 ·simp only[Bool.and_eq_true] at h1
  exact h1.2
theorem tableAdd_w (c:TConf) (l:TPartS) (p:TPart):wPartS (tableAdd c l p).1≤wPartS l+wPart p+1:=by
 have h:=tabGo_w p l
 unfold tableAdd
 cases (partOk c p && tableOk c (tabGo p l))
 ·simp only[cond_false]; omega
 ·exact h
end G448
namespace G448
open Ev Go
set_option maxRecDepth 100000
noncomputable def mayVote (c:TConf) (s:TSafe) (b:TBlock):Bool:=safeOk c s && (blockOk c b && (decide (viewOf b.1>s.1) && decide (b.2.1≥s.2.1)))
theorem spec_MayVote_eq (c:TConf) (s:TSafe) (b:TBlock) (hs:wSafe s≤137438953472) (hb:wBlock b≤137438953472):spec_MayVote (c,s,b,())=some (mayVote c s b,()):=by
 have h1:b.1.length≤137438953472:=by simp only[wBlock] at hb; omega
 unfold spec_MayVote mayVote
 dsimp only
 rw[spec_SafeOk_eq c s hs,Option.bind_some,spec_BlockOk_eq c b hb,Option.bind_some,spec_ViewOf_eq b.1 h1,Option.bind_some]
 cases safeOk c s<;>cases blockOk c b<;>cases decide (viewOf b.1>s.1)<;>rfl
theorem impl_MayVote_eq (c:TConf) (s:TSafe) (b:TBlock) (hs:wSafe s≤1073741824) (hb:wBlock b≤1073741824):impl_MayVote (c,s,b,())=some (mayVote c s b,()):=by
 have h1:b.1.length≤1073741824:=by simp only[wBlock] at hb; omega
 unfold impl_MayVote mayVote
 dsimp only
 rw[impl_SafeOk_eq c s hs,Option.bind_some,impl_BlockOk_eq c b hb,Option.bind_some,impl_ViewOf_eq b.1 h1,Option.bind_some]
 cases safeOk c s<;>cases blockOk c b<;>cases decide (viewOf b.1>s.1)<;>rfl
noncomputable def vote (c:TConf) (s:TSafe) (b:TBlock):TSafe:=bif mayVote c s b then (viewOf b.1,s.2) else s
theorem spec_Vote_eq (c:TConf) (s:TSafe) (b:TBlock) (hs:wSafe s≤137438953472) (hb:wBlock b≤137438953472):spec_Vote (c,s,b,())=some (vote c s b,mayVote c s b,()):=by
 have h1:b.1.length≤137438953472:=by simp only[wBlock] at hb; omega
 unfold spec_Vote vote
 dsimp only
 rw[spec_l11Copy_eq s hs,Option.bind_some,spec_MayVote_eq c s b hs hb,Option.bind_some,spec_ViewOf_eq b.1 h1,Option.bind_some]
 cases mayVote c s b<;>rfl
theorem impl_Vote_eq (c:TConf) (s:TSafe) (b:TBlock) (hs:wSafe s≤1073741824) (hb:wBlock b≤1073741824):impl_Vote (c,s,b,())=some (vote c s b,mayVote c s b,()):=by
 have h1:b.1.length≤1073741824:=by simp only[wBlock] at hb; omega
 unfold impl_Vote vote
 dsimp only
 rw[impl_copySafe_eq s (by omega),Option.bind_some,impl_MayVote_eq c s b hs hb,Option.bind_some,impl_ViewOf_eq b.1 h1,Option.bind_some]
 cases mayVote c s b<;>rfl
theorem vote_w (c:TConf) (s:TSafe) (b:TBlock):wSafe (vote c s b)≤wSafe s:=by
 unfold vote
 cases mayVote c s b
 ·exact Nat.le_refl _
 ·exact Nat.le_refl _
noncomputable def voted (c:TConf) (r0 w:TRep) (name:List UInt8):TRep×Bool:=
 bif !(tableAdd c w.2.2.2.2.2.1 (viewOf name,name,[w.1])).2 then (r0,false) else ((climb c (withTable w (tableAdd c w.2.2.2.2.2.1 (viewOf name,name,[w.1])).1) (viewOf name) name false).1,true)
noncomputable def hearBlock (c:TConf) (r:TRep) (b:TBlock):TRep×Bool:=
 bif !repOk c r then (r,false) else bif !blockOk c b then (r,false) else
 bif decide (viewOf b.1≥r.2.1) then
  (bif !(writeOwn c (inView r (viewOf b.1)) (vote c (see c r.2.2.2.1 b.2) b)).2 then (r,false) else
   bif !mayVote c (see c r.2.2.2.1 b.2) b then ((writeOwn c (inView r (viewOf b.1)) (vote c (see c r.2.2.2.1 b.2) b)).1,true) else
   voted c r (writeOwn c (inView r (viewOf b.1)) (vote c (see c r.2.2.2.1 b.2) b)).1 b.1)
 else (bif !(writeOwn c r (see c r.2.2.2.1 b.2)).2 then (r,false) else ((writeOwn c r (see c r.2.2.2.1 b.2)).1,true))
theorem wName (v me:Int) (name:List UInt8):wPart (v,name,[me])=name.length+1:=by simp[wPart,wIntS]
theorem spec_l17Own_eq (c:TConf) (w:TRep) (name:List UInt8) (hok:repOk c w=true) (hw:wRep w≤13000000) (hn:name.length≤1100000) :
  spec_l17Own (c,w,name,())=some ((voted c w w name).1,(voted c w w name).2,()):=by
 have ht:wPartS w.2.2.2.2.2.1≤13000000:=by simp only[wRep] at hw; omega
 have hp:=wName (viewOf name) w.1 name
 have hta:=tableAdd_w c w.2.2.2.2.2.1 (viewOf name,name,[w.1])
 have hwr:wRep (withTable w (tableAdd c w.2.2.2.2.2.1 (viewOf name,name,[w.1])).1)≤15000000:=by simp only[withTable,wRep] at *; omega
 unfold spec_l17Own voted
 dsimp only
 rw[spec_ViewOf_eq name (by omega),Option.bind_some]
 dsimp only
 rw[spec_TableAdd_eq c w.2.2.2.2.2.1 (viewOf name,name,[w.1]) (by omega) (by omega),Option.bind_some]
 cases h:(tableAdd c w.2.2.2.2.2.1 (viewOf name,name,[w.1])).2
 ·rfl
 ·have hok2:=withTable_ok (t:=(tableAdd c w.2.2.2.2.2.1 (viewOf name,name,[w.1])).1) hok (tableAdd_ok h)
  simp only[Bool.not_true,cond_false]
  show ((spec_l15Copy (withTable w (tableAdd c w.2.2.2.2.2.1 (viewOf name,name,[w.1])).1,())).bind _)=_
  rw[spec_l15Copy_eq _ (by omega),Option.bind_some,Option.bind_some]
  dsimp only
  rw[spec_l16Climb_eq c _ (viewOf name) name false hok2 hwr (by omega),Option.bind_some]
  unfold climb
  rw[hok2]
  cases (climbIn c (withTable w (tableAdd c w.2.2.2.2.2.1 (viewOf name,name,[w.1])).1) (viewOf name) name false).2<;>rfl
theorem voted_flag (c:TConf) (r0 w:TRep) (name:List UInt8):(voted c r0 w name).2=(tableAdd c w.2.2.2.2.2.1 (viewOf name,name,[w.1])).2∧((voted c r0 w name).2=true→(voted c w w name).1=(voted c r0 w name).1)∧((voted c r0 w name).2=false→(voted c r0 w name).1=r0)∧(voted c w w name).2=(voted c r0 w name).2:=by
 unfold voted
 cases (tableAdd c w.2.2.2.2.2.1 (viewOf name,name,[w.1])).2
 ·exact⟨rfl,fun h=>(by cases h),fun _=>rfl,rfl⟩
 ·exact⟨rfl,fun _=>rfl,fun h=>(by cases h),rfl⟩
theorem spec_HearBlock_eq (c:TConf) (r:TRep) (b:TBlock) (hrb:wRep r+wBlock b≤1048576):spec_HearBlock (c,r,b,())=some ((hearBlock c r b).1,(hearBlock c r b).2,()):=by
 have hs:wSafe r.2.2.2.1≤wRep r:=by simp only[wRep]; omega
 have hq:wQc b.2≤wBlock b∧b.1.length≤wBlock b:=by simp only[wBlock]; omega
 have hsee:=see_w c r.2.2.2.1 b.2
 have hvote:=vote_w c (see c r.2.2.2.1 b.2) b
 have hiv:wRep (inView r (viewOf b.1))=wRep r:=rfl
 unfold spec_HearBlock hearBlock
 dsimp only
 rw[spec_l15Copy_eq r (by omega),Option.bind_some,spec_RepOk_eq c r (by omega),Option.bind_some,spec_BlockOk_eq c b (by omega),Option.bind_some,Option.bind_some,spec_See_eq c r.2.2.2.1 b.2 (by omega) (by omega),Option.bind_some,spec_ViewOf_eq b.1 (by omega),Option.bind_some,spec_MayVote_eq c (see c r.2.2.2.1 b.2) b (by omega) (by omega),Option.bind_some,spec_Vote_eq c (see c r.2.2.2.1 b.2) b (by omega) (by omega)]
 simp only[Option.bind_some]
 cases hok:repOk c r
 ·rfl
 cases hbo:blockOk c b
 ·rfl
 by_cases hv:viewOf b.1≥r.2.1
 ·have hn:nameOk b.1=true∧b.1≠[]:=by
   unfold blockOk at hbo
   simp only[Bool.and_eq_true,bne_iff_ne,ne_eq] at hbo
   exact⟨hbo.2.1,hbo.2.2.1⟩
  have hnv:=name_view hn.1 hn.2
  have hok1:=inView_ok (v:=viewOf b.1) hok hnv
  simp only[hv,decide_true,cond_true,Bool.not_true,cond_false]
  cases hm:mayVote c (see c r.2.2.2.1 b.2) b
  ·have e:vote c (see c r.2.2.2.1 b.2) b=see c r.2.2.2.1 b.2:=by unfold vote; rw[hm]; rfl
   simp only[cond_false,Bool.not_false,cond_true,e]
   show ((spec_l15Write (c,inView r (viewOf b.1),see c r.2.2.2.1 b.2,())).bind _)=_
   rw[spec_l15Write_eq c (inView r (viewOf b.1)) (see c r.2.2.2.1 b.2) (by omega) (by omega),Option.bind_some]
   cases (writeOwn c (inView r (viewOf b.1)) (see c r.2.2.2.1 b.2)).2<;>rfl
  ·simp only[cond_true,Bool.not_true,cond_false]
   have hww:=own_w c (inView r (viewOf b.1)) (vote c (see c r.2.2.2.1 b.2) b)
   show ((spec_l15Write (c,inView r (viewOf b.1),vote c (see c r.2.2.2.1 b.2) b,())).bind _)=_
   rw[spec_l15Write_eq c (inView r (viewOf b.1)) (vote c (see c r.2.2.2.1 b.2) b) (by omega) (by omega),Option.bind_some]
   cases hw:(writeOwn c (inView r (viewOf b.1)) (vote c (see c r.2.2.2.1 b.2) b)).2
   ·rfl
   ·obtain⟨o1,o2,o3⟩:=writeOwn_ok hok1 hw
    obtain⟨f1,f2,f3,f4⟩:=voted_flag c r (writeOwn c (inView r (viewOf b.1)) (vote c (see c r.2.2.2.1 b.2) b)).1 b.1
    simp only[cond_true,Bool.not_true,cond_false]
    rw[spec_l17Own_eq c _ b.1 o1 (by omega) (by omega),Option.bind_some]
    dsimp only
    rw[f4]
    cases hf:(voted c r (writeOwn c (inView r (viewOf b.1)) (vote c (see c r.2.2.2.1 b.2) b)).1 b.1).2
    ·simp only[Bool.not_false,cond_true,f3 hf]
    ·simp only[Bool.not_true,cond_false,f2 hf]
 ·simp only[hv,decide_false,cond_false,Bool.not_true]
  rw[spec_l15Write_eq c r (see c r.2.2.2.1 b.2) (by omega) (by omega),Option.bind_some]
  cases (writeOwn c r (see c r.2.2.2.1 b.2)).2<;>rfl
theorem impl_HearBlock_eq (c:TConf) (r:TRep) (b:TBlock) (hrb:wRep r+wBlock b≤1048576):impl_HearBlock (c,r,b,())=some ((hearBlock c r b).1,(hearBlock c r b).2,()):=by
 have hs:wSafe r.2.2.2.1≤wRep r:=by simp only[wRep]; omega
 have hq:wQc b.2≤wBlock b∧b.1.length≤wBlock b:=by simp only[wBlock]; omega
 have hsee:=see_w c r.2.2.2.1 b.2
 have hvote:=vote_w c (see c r.2.2.2.1 b.2) b
 have hiv:wRep (inView r (viewOf b.1))=wRep r:=rfl
 unfold impl_HearBlock hearBlock
 dsimp only
 rw[impl_copyRep_eq r (by omega),impl_RepOk_eq c r (by omega),Option.bind_some,impl_BlockOk_eq c b (by omega),impl_See_eq c r.2.2.2.1 b.2 (by omega) (by omega),impl_ViewOf_eq b.1 (by omega)]
 simp only[Option.bind_some]
 rw[impl_Vote_eq c (see c r.2.2.2.1 b.2) b (by omega) (by omega)]
 simp only[Option.bind_some]
 cases hok:repOk c r
 ·rfl
 cases hbo:blockOk c b
 ·rfl
 by_cases hv:viewOf b.1≥r.2.1
 ·have hn:nameOk b.1=true∧b.1≠[]:=by
   unfold blockOk at hbo
   simp only[Bool.and_eq_true,bne_iff_ne,ne_eq] at hbo
   exact⟨hbo.2.1,hbo.2.2.1⟩
  have hnv:=name_view hn.1 hn.2
  have hok1:=inView_ok (v:=viewOf b.1) hok hnv
  have hww:=own_w c (inView r (viewOf b.1)) (vote c (see c r.2.2.2.1 b.2) b)
  have hwe:write c (inView r (viewOf b.1)) (vote c (see c r.2.2.2.1 b.2) b)=writeOwn c (inView r (viewOf b.1)) (vote c (see c r.2.2.2.1 b.2) b):=by unfold write; rw[hok1]; rfl
  simp only[hv,decide_true,cond_true,Bool.not_true,cond_false]
  show ((impl_Write (c,inView r (viewOf b.1),vote c (see c r.2.2.2.1 b.2) b,())).bind _)=_
  rw[impl_Write_eq c (inView r (viewOf b.1)) (vote c (see c r.2.2.2.1 b.2) b) (by omega) (by omega),Option.bind_some,hwe]
  cases hw:(writeOwn c (inView r (viewOf b.1)) (vote c (see c r.2.2.2.1 b.2) b)).2
  ·rfl
  ·obtain⟨o1,o2,o3⟩:=writeOwn_ok hok1 hw
   have o2:(writeOwn c (inView r (viewOf b.1)) (vote c (see c r.2.2.2.1 b.2) b)).1.1=r.1:=o2
   cases hm:mayVote c (see c r.2.2.2.1 b.2) b
   ·rfl
   ·simp only[Bool.not_true,cond_false]
    unfold voted
    rw[←o2]
    generalize (writeOwn c (inView r (viewOf b.1)) (vote c (see c r.2.2.2.1 b.2) b)).1=w at *
    have ht:wPartS w.2.2.2.2.2.1≤wRep w:=by simp only[wRep]; omega
    have hp:=wName (viewOf b.1) w.1 b.1
    have hta:=tableAdd_w c w.2.2.2.2.2.1 (viewOf b.1,b.1,[w.1])
    have hwr:wRep (withTable w (tableAdd c w.2.2.2.2.2.1 (viewOf b.1,b.1,[w.1])).1)≤wRep w+b.1.length+2:=by simp only[withTable,wRep] at *; omega
    rw[impl_TableAdd_eq c w.2.2.2.2.2.1 (viewOf b.1,b.1,[w.1]) (by omega) (by omega),Option.bind_some]
    cases h:(tableAdd c w.2.2.2.2.2.1 (viewOf b.1,b.1,[w.1])).2
    ·rfl
    ·simp only[Bool.not_true,cond_false]
     show ((impl_Climb (c,withTable w (tableAdd c w.2.2.2.2.2.1 (viewOf b.1,b.1,[w.1])).1,viewOf b.1,b.1,false,())).bind _)=_
     rw[impl_Climb_eq c _ (viewOf b.1) b.1 false (by omega) (by omega),Option.bind_some]
 ·have hwe:write c r (see c r.2.2.2.1 b.2)=writeOwn c r (see c r.2.2.2.1 b.2):=by unfold write; rw[hok]; rfl
  simp only[hv,decide_false,cond_false,Bool.not_true]
  rw[impl_Write_eq c r (see c r.2.2.2.1 b.2) (by omega) (by omega),Option.bind_some,hwe]
  cases (writeOwn c r (see c r.2.2.2.1 b.2)).2<;>rfl
theorem hearBlock_w (c:TConf) (r:TRep) (b:TBlock):wRep (hearBlock c r b).1≤3000+400*wRep r+800*wBlock b:=by
 have hs:wSafe r.2.2.2.1≤wRep r:=by simp only[wRep]; omega
 have hq:wQc b.2≤wBlock b∧b.1.length≤wBlock b:=by simp only[wBlock]; omega
 have hsee:=see_w c r.2.2.2.1 b.2
 have hvote:=vote_w c (see c r.2.2.2.1 b.2) b
 have hiv:wRep (inView r (viewOf b.1))=wRep r:=rfl
 have hw1:=own_w c (inView r (viewOf b.1)) (vote c (see c r.2.2.2.1 b.2) b)
 have hw2:=own_w c r (see c r.2.2.2.1 b.2)
 unfold hearBlock
 cases repOk c r
 ·simp only[Bool.not_false,cond_true]; omega
 cases blockOk c b
 ·simp only[Bool.not_false,Bool.not_true,cond_true,cond_false]; omega
 cases decide (viewOf b.1≥r.2.1)
 ·cases (writeOwn c r (see c r.2.2.2.1 b.2)).2
  ·simp only[Bool.not_false,Bool.not_true,cond_true,cond_false]; omega
  ·simp only[Bool.not_true,cond_false]; omega
 ·cases (writeOwn c (inView r (viewOf b.1)) (vote c (see c r.2.2.2.1 b.2) b)).2
  ·simp only[Bool.not_false,Bool.not_true,cond_true,cond_false]; omega
  ·cases mayVote c (see c r.2.2.2.1 b.2) b
   ·simp only[Bool.not_false,Bool.not_true,cond_true,cond_false]; omega
   ·simp only[Bool.not_true,cond_false,cond_true]
    unfold voted
    generalize (writeOwn c (inView r (viewOf b.1)) (vote c (see c r.2.2.2.1 b.2) b)).1=w at *
    have hp:=wName (viewOf b.1) w.1 b.1
    have hta:=tableAdd_w c w.2.2.2.2.2.1 (viewOf b.1,b.1,[w.1])
    have hc:=climb_w c (withTable w (tableAdd c w.2.2.2.2.2.1 (viewOf b.1,b.1,[w.1])).1) (viewOf b.1) b.1 false
    have hwr:wRep (withTable w (tableAdd c w.2.2.2.2.2.1 (viewOf b.1,b.1,[w.1])).1)≤wRep w+b.1.length+2:=by simp only[withTable,wRep] at *; omega
    cases (tableAdd c w.2.2.2.2.2.1 (viewOf b.1,b.1,[w.1])).2
    ·simp only[Bool.not_false,cond_true]; omega
    ·simp only[Bool.not_true,cond_false]; omega
theorem law_HearBlock (c:TConf) (r:TRep) (b:TBlock) (hb:bRep r) (hb2:bBlock b):laws_FnExactHearBlock (c,r,b,())=some (true,()):=by
 unfold laws_FnExactHearBlock
 simp only[szRep_eq r 1048576 (by decide) (by decide) hb,Option.bind_some]
 by_cases k:sub 1048576 (wRep r)<0
 ·simp only[k,decide_true,cond_true]
 have g:=(sub_nonneg k).1
 have g0:=(sub_nonneg k).2
 simp only[k,decide_false,cond_false,szBlock_eq b _ (show 0≤sub 1048576 (wRep r) by omega) (show sub 1048576 (wRep r)≤1048576 by omega) hb2,Option.bind_some]
 by_cases k2:sub (sub 1048576 (wRep r)) (wBlock b)<0
 ·simp only[k2,decide_true,cond_true]
 have g3:=(sub_nonneg k2).1
 have w1:=hearBlock_w c r b
 have hd:=dRep_le r
 have hd2:=dBlock_le b
 have hd1:=dRep_le (hearBlock c r b).1
 simp only[k2,decide_false,cond_false,toConf_eq,toRep_eq r (by omega),toBlock_eq b (by omega),Option.bind_some,spec_HearBlock_eq c r b (by omega),impl_HearBlock_eq c r b (by omega),eqRep_self r (by omega),eqBlock_self b (by omega),eqRep_self (hearBlock c r b).1 (by omega),Bool.not_true,bne_self_eq_false,
  markRep_eq' r 1 (by decide) (by omega),markBlock_eq' b (1+(dRep r:Nat)) (by omega) (by omega),show decide (1+(dRep r:Int)+(dBlock b:Nat)<0)=false by simp; omega,
  markRep_eq' (hearBlock c r b).1 1 (by decide) (by omega),heldRep_eq' (hearBlock c r b).1 _ _ _ _ _ _ _ _ _ 1 (by decide) (by omega),neg_no (n:=dRep (hearBlock c r b).1) (show (0:Int)≤1 by decide)]
end G448
namespace G448
open Ev Go
set_option maxRecDepth 100000
end G448
