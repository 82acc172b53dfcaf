/- The law itself, in pieces. (Printed by our own program.) -/
import Derived.Test.YtohchhblpcckmaaGreatDoorPdEqs
set_option linter.unusedSimpArgs false
set_option linter.unusedVariables false
namespace G448
open Ev Go Go.Proofs
set_option maxRecDepth 100000
noncomputable section
def ad8:=fe [(6,wO),(20,ab8),(21,abd),(22,mZ),(10,uC),(16,mQ),(23,aaA)] []
def pf5:PF:=⟨[R (.sl 5 .u8)],[.bool],.uniq,laws_FnPushed⟩
def kk_vb:Code:=match Tryz.f5.body with | some b=>b | none=>.skip
def kk_vx1:Code:=Ji kk_vb
def kk_vx3:Code:=Ji kk_vx1
def kk_vx4:Code:=Ji kk_vx3
def kk_vx5:Code:=Ji kk_vx4
def kk_vx6:Code:=Ji kk_vx5
def kk_vr:Code:=Ji kk_vx6
def kk_v0:Code:=Lw kk_vb
def kk_v1:Code:=Lw (Lw kk_vx1)
def kk_vc:Code:=Ji (Lw kk_vx1)
def kk_v3:Code:=Lw kk_vx3
def kk_v4:Code:=Lw kk_vx4
def kk_v5:Code:=Lw kk_vx5
def kk_v6:Code:=Lw kk_vx6
abbrev kk_O1:=zM ab8.params ab8.rets
abbrev kk_O2:=zM abd.params abd.rets
abbrev kk_O4:=zM mZ.params mZ.rets
def kk_z0 (a:zW pf5.params) (r0:zM wO.params wO.rets):St:=rn (fe [(6,oP wO r0)] []) (.seq kk_v0 kk_v1) (en Tryz.f5 pf5.params a)
def kk_z3 (a:zW pf5.params) (r0:zM wO.params wO.rets) (r1:kk_O1):St:=rn (fe [(20,oP ab8 r1)] []) kk_v3 (kk_z0 a r0)
def kk_z4 (a:zW pf5.params) (r0:zM wO.params wO.rets) (r1:kk_O1) (r2:kk_O2):St:=rn (fe [(21,oP abd r2)] []) kk_v4 (kk_z3 a r0 r1)
def kk_z5 (a:zW pf5.params) (r0:zM wO.params wO.rets) (r1:kk_O1) (r2 r3:kk_O2):St:=rn (fe [(21,oP abd r3)] []) kk_v5 (kk_z4 a r0 r1 r2)
def kk_z6 (a:zW pf5.params) (r0:zM wO.params wO.rets) (r1:kk_O1) (r2 r3:kk_O2) (r4:kk_O4):St:=rn (fe [(22,oP mZ r4)] []) kk_v6 (kk_z5 a r0 r1 r2 r3)
abbrev kk_qz (a:zW pf5.params) (c:Code) (st:St):Option (zM pf5.params pf5.rets):=qM ad8 Tryz.f5 pf5.params pf5.rets pf5.rk a c st
def kk_TL (r1:kk_O1) (r2 r3:kk_O2) (r4:kk_O4):Option (zM pf5.params pf5.rets):=
  bif r2.2.1 != r4.2.1 then some (false,()) else (Qq (r2.1,r4.1,())).bind λ r5=>bif !r5.1 then some (false,()) else bif r3.2.1 then bif !r2.2.1 then some (false,()) else bif r3.2.1 then (Qq (r2.1,r3.1,())).bind λ r6=>bif !r6.1 then some (false,()) else bif !r2.2.1 then bif r2.2.1 then some (true,()) else (Qq (r2.1,r1.2.1,())).bind λ r7=>some (r7.1,()) else (qZ (r1.1,r1.2.2.1,())).bind λ r8=>bif r8.1==r1.2.1.1 then bif r2.2.1 then some (true,()) else (Qq (r2.1,r1.2.1,())).bind λ r9=>some (r9.1,()) else if 0<=wr ((r2.1.2.2.2.2.2.2.2.length:Int) - 1)/\wr ((r2.1.2.2.2.2.2.2.2.length:Int) - 1)<(r2.1.2.2.2.2.2.2.2.length:Int) then (F4 (r1.1,r1.2.2.1,r1.2.1.1,())).bind λ r10=>bif (rd y5 r2.1.2.2.2.2.2.2.2 (Int.toNat (wr ((r2.1.2.2.2.2.2.2.2.length:Int) - 1)))).1==r10.1 then bif (rd y5 r2.1.2.2.2.2.2.2.2 (Int.toNat (wr ((r2.1.2.2.2.2.2.2.2.length:Int) - 1)))).2.1==2 then bif (rd y5 r2.1.2.2.2.2.2.2.2 (Int.toNat (wr ((r2.1.2.2.2.2.2.2.2.length:Int) - 1)))).2.2.2.2.1.2.1==r1.2.2.2.1 then some ((r2.1.2.2.2.2.2.2.2.length:Int)==wr ((r1.2.1.2.2.2.2.2.2.2.length:Int)+1),()) else some (false,()) else some (false,()) else some (false,()) else none else bif !r2.2.1 then bif r2.2.1 then some (true,()) else (Qq (r2.1,r1.2.1,())).bind λ r11=>some (r11.1,()) else (qZ (r1.1,r1.2.2.1,())).bind λ r12=>bif r12.1==r1.2.1.1 then bif r2.2.1 then some (true,()) else (Qq (r2.1,r1.2.1,())).bind λ r13=>some (r13.1,()) else if 0<=wr ((r2.1.2.2.2.2.2.2.2.length:Int) - 1)/\wr ((r2.1.2.2.2.2.2.2.2.length:Int) - 1)<(r2.1.2.2.2.2.2.2.2.length:Int) then (F4 (r1.1,r1.2.2.1,r1.2.1.1,())).bind λ r14=>bif (rd y5 r2.1.2.2.2.2.2.2.2 (Int.toNat (wr ((r2.1.2.2.2.2.2.2.2.length:Int) - 1)))).1==r14.1 then bif (rd y5 r2.1.2.2.2.2.2.2.2 (Int.toNat (wr ((r2.1.2.2.2.2.2.2.2.length:Int) - 1)))).2.1==2 then bif (rd y5 r2.1.2.2.2.2.2.2.2 (Int.toNat (wr ((r2.1.2.2.2.2.2.2.2.length:Int) - 1)))).2.2.2.2.1.2.1==r1.2.2.2.1 then some ((r2.1.2.2.2.2.2.2.2.length:Int)==wr ((r1.2.1.2.2.2.2.2.2.2.length:Int)+1),()) else some (false,()) else some (false,()) else some (false,()) else none else bif r3.2.1 then (Qq (r2.1,r3.1,())).bind λ r15=>bif !r15.1 then some (false,()) else bif !r2.2.1 then bif r2.2.1 then some (true,()) else (Qq (r2.1,r1.2.1,())).bind λ r16=>some (r16.1,()) else (qZ (r1.1,r1.2.2.1,())).bind λ r17=>bif r17.1==r1.2.1.1 then bif r2.2.1 then some (true,()) else (Qq (r2.1,r1.2.1,())).bind λ r18=>some (r18.1,()) else if 0<=wr ((r2.1.2.2.2.2.2.2.2.length:Int) - 1)/\wr ((r2.1.2.2.2.2.2.2.2.length:Int) - 1)<(r2.1.2.2.2.2.2.2.2.length:Int) then (F4 (r1.1,r1.2.2.1,r1.2.1.1,())).bind λ r19=>bif (rd y5 r2.1.2.2.2.2.2.2.2 (Int.toNat (wr ((r2.1.2.2.2.2.2.2.2.length:Int) - 1)))).1==r19.1 then bif (rd y5 r2.1.2.2.2.2.2.2.2 (Int.toNat (wr ((r2.1.2.2.2.2.2.2.2.length:Int) - 1)))).2.1==2 then bif (rd y5 r2.1.2.2.2.2.2.2.2 (Int.toNat (wr ((r2.1.2.2.2.2.2.2.2.length:Int) - 1)))).2.2.2.2.1.2.1==r1.2.2.2.1 then some ((r2.1.2.2.2.2.2.2.2.length:Int)==wr ((r1.2.1.2.2.2.2.2.2.2.length:Int)+1),()) else some (false,()) else some (false,()) else some (false,()) else none else bif !r2.2.1 then bif r2.2.1 then some (true,()) else (Qq (r2.1,r1.2.1,())).bind λ r20=>some (r20.1,()) else (qZ (r1.1,r1.2.2.1,())).bind λ r21=>bif r21.1==r1.2.1.1 then bif r2.2.1 then some (true,()) else (Qq (r2.1,r1.2.1,())).bind λ r22=>some (r22.1,()) else if 0<=wr ((r2.1.2.2.2.2.2.2.2.length:Int) - 1)/\wr ((r2.1.2.2.2.2.2.2.2.length:Int) - 1)<(r2.1.2.2.2.2.2.2.2.length:Int) then (F4 (r1.1,r1.2.2.1,r1.2.1.1,())).bind λ r23=>bif (rd y5 r2.1.2.2.2.2.2.2.2 (Int.toNat (wr ((r2.1.2.2.2.2.2.2.2.length:Int) - 1)))).1==r23.1 then bif (rd y5 r2.1.2.2.2.2.2.2.2 (Int.toNat (wr ((r2.1.2.2.2.2.2.2.2.length:Int) - 1)))).2.1==2 then bif (rd y5 r2.1.2.2.2.2.2.2.2 (Int.toNat (wr ((r2.1.2.2.2.2.2.2.2.length:Int) - 1)))).2.2.2.2.1.2.1==r1.2.2.2.1 then some ((r2.1.2.2.2.2.2.2.2.length:Int)==wr ((r1.2.1.2.2.2.2.2.2.2.length:Int)+1),()) else some (false,()) else some (false,()) else some (false,()) else none
theorem kk_vfr (rest:Code) (a:zW pf5.params):kk_qz a (.seq kk_v0 (.seq (.seq kk_v1 kk_vc) (.seq kk_v3 (.seq kk_v4 (.seq kk_v5 (.seq kk_v6 rest)))))) (en Tryz.f5 pf5.params a)=(mc (a.1,())).bind λ r0=>bif r0.1 then some (true,()) else (aaD (a.1,())).bind λ r1=>(aa4 (r1.1,r1.2.1,r1.2.2.1,r1.2.2.2.1,true,())).bind λ r2=>(aa4 (r1.1,r1.2.1,r1.2.2.1,r1.2.2.2.1,false,())).bind λ r3=>(aC (r1.1,r1.2.1,r1.2.2.1,r1.2.2.2.1,true,())).bind λ r4=> kk_qz a rest (kk_z6 a r0 r1 r2 r3 r4):=by kernel_rfl
theorem kk_vla (a:zW pf5.params):laws_FnPushed a=(mc (a.1,())).bind λ r0=>bif r0.1 then some (true,()) else (aaD (a.1,())).bind λ r1=>(aa4 (r1.1,r1.2.1,r1.2.2.1,r1.2.2.2.1,true,())).bind λ r2=>(aa4 (r1.1,r1.2.1,r1.2.2.1,r1.2.2.2.1,false,())).bind λ r3=>(aC (r1.1,r1.2.1,r1.2.2.1,r1.2.2.2.1,true,())).bind λ r4=> kk_TL r1 r2 r3 r4:=by kernel_rfl
theorem kk_vev (a:zW pf5.params):qN ad8 Tryz.f5 pf5.params pf5.rets pf5.rk a=kk_qz a (.seq kk_v0 (.seq (.seq kk_v1 kk_vc) (.seq kk_v3 (.seq kk_v4 (.seq kk_v5 (.seq kk_v6 kk_vr)))))) (en Tryz.f5 pf5.params a):=by kernel_rfl
theorem kk_vt0 (a:zW pf5.params) (r0:zM wO.params wO.rets) (r1:kk_O1) (x y z:den q1):kk_qz a kk_vr (kk_z6 a r0 r1 (x,true,()) (y,true,()) (z,true,()))=kk_TL r1 (x,true,()) (y,true,()) (z,true,()):=by kernel_rfl
theorem kk_vt1 (a:zW pf5.params) (r0:zM wO.params wO.rets) (r1:kk_O1) (x y z:den q1):kk_qz a kk_vr (kk_z6 a r0 r1 (x,true,()) (y,true,()) (z,false,()))=kk_TL r1 (x,true,()) (y,true,()) (z,false,()):=by kernel_rfl
theorem kk_vt2 (a:zW pf5.params) (r0:zM wO.params wO.rets) (r1:kk_O1) (x y z:den q1):kk_qz a kk_vr (kk_z6 a r0 r1 (x,true,()) (y,false,()) (z,true,()))=kk_TL r1 (x,true,()) (y,false,()) (z,true,()):=by kernel_rfl
theorem kk_vt3 (a:zW pf5.params) (r0:zM wO.params wO.rets) (r1:kk_O1) (x y z:den q1):kk_qz a kk_vr (kk_z6 a r0 r1 (x,true,()) (y,false,()) (z,false,()))=kk_TL r1 (x,true,()) (y,false,()) (z,false,()):=by kernel_rfl
theorem kk_vt4 (a:zW pf5.params) (r0:zM wO.params wO.rets) (r1:kk_O1) (x y z:den q1):kk_qz a kk_vr (kk_z6 a r0 r1 (x,false,()) (y,true,()) (z,true,()))=kk_TL r1 (x,false,()) (y,true,()) (z,true,()):=by kernel_rfl
theorem kk_vt5 (a:zW pf5.params) (r0:zM wO.params wO.rets) (r1:kk_O1) (x y z:den q1):kk_qz a kk_vr (kk_z6 a r0 r1 (x,false,()) (y,true,()) (z,false,()))=kk_TL r1 (x,false,()) (y,true,()) (z,false,()):=by kernel_rfl
theorem kk_vt6 (a:zW pf5.params) (r0:zM wO.params wO.rets) (r1:kk_O1) (x y z:den q1):kk_qz a kk_vr (kk_z6 a r0 r1 (x,false,()) (y,false,()) (z,true,()))=kk_TL r1 (x,false,()) (y,false,()) (z,true,()):=by kernel_rfl
theorem kk_vt7 (a:zW pf5.params) (r0:zM wO.params wO.rets) (r1:kk_O1) (x y z:den q1):kk_qz a kk_vr (kk_z6 a r0 r1 (x,false,()) (y,false,()) (z,false,()))=kk_TL r1 (x,false,()) (y,false,()) (z,false,()):=by kernel_rfl
theorem kk_vta (a:zW pf5.params) (r0:zM wO.params wO.rets) (r1:kk_O1):∀ (r2 r3:kk_O2) (r4:kk_O4),kk_qz a kk_vr (kk_z6 a r0 r1 r2 r3 r4)=kk_TL r1 r2 r3 r4
  | (x,true,()),(y,true,()),(z,true,())=>kk_vt0 a r0 r1 x y z
  | (x,true,()),(y,true,()),(z,false,())=>kk_vt1 a r0 r1 x y z
  | (x,true,()),(y,false,()),(z,true,())=>kk_vt2 a r0 r1 x y z
  | (x,true,()),(y,false,()),(z,false,())=>kk_vt3 a r0 r1 x y z
  | (x,false,()),(y,true,()),(z,true,())=>kk_vt4 a r0 r1 x y z
  | (x,false,()),(y,true,()),(z,false,())=>kk_vt5 a r0 r1 x y z
  | (x,false,()),(y,false,()),(z,true,())=>kk_vt6 a r0 r1 x y z
  | (x,false,()),(y,false,()),(z,false,())=>kk_vt7 a r0 r1 x y z
theorem s5:Sd 5 pf5:=sf (F:=ad8) (ek ⟨s6,s20,s21,An,SP,Ae,s23,trivial⟩) Tryz.func5 λ a=>(kk_vev a).trans ((kk_vfr kk_vr a).trans ((bc λ r0=>cc rfl (bc λ r1=>bc λ r2=>bc λ r3=>bc λ r4=>kk_vta a r0 r1 r2 r3 r4)).trans (kk_vla a).symm))
end
end G448
