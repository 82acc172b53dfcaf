/- The law itself, item by item. (Printed by our own program.) -/
import Derived.Test.YtppjgjdlnikigaaGreatDoorAcEqsB
set_option linter.unusedSimpArgs false
set_option linter.unusedVariables false
namespace G448
open Ev Go Go.Proofs
set_option maxRecDepth 100000
noncomputable section
variable (a:z7 pf4.params) (r0:kk_O0) (r1:kk_O1) (r2:kk_O2) (r3:kk_O3) (r4:kk_O4) (r5:kk_O5) (r6:kk_O6) (r7:kk_O7) (r8:kk_O8) (r9:kk_O9) (r10:kk_O10) (r11:kk_O11) (r12:kk_O12) (r13:kk_O13) (r14:kk_O14) (r15:kk_O15) (r16 r17 r18 r19:kk_O16) (r20:kk_O17) (r21:kk_O18) (r22:kk_O19) (r23:kk_O20) (r24:kk_O16) (r25:kk_O21) (r26 r27:kk_O22) (r28 r29 r46 r47:kk_O21) (r30:kk_O23) (r31:kk_O24) (r32:kk_O23) (r33:kk_O24) (r34:kk_O23) (r35:kk_O24) (r36:kk_O23) (r37:kk_O24) (u22 u23:List AV)
theorem kk_e23ft:kk_q a kk_n23 (kk_s23 a r0 r1 (r2.1,false,()) r3 r4 r5 r6 r7 r8 r9 r10 (r11.1,true,()) r12 r13 r14 r15 r16 r17 r18 r19 r20 r21 r22 r23 r24 r25 r26 u22 u23)=kk_T23 r1 (r2.1,false,()) r10 (r11.1,true,()) r13 r14:=by kernel_rfl
theorem kk_f20 (rest:Code):kk_q a (.seq kk_v20 rest) (kk_s20 a r0 r1 r2 r3 r4 r5 r6 r7 r8 r9 r10 r11 r12 r13 r14 r15 r16 r17 r18 r19 r20 r21 r22)=((bR (r21.1, (r21.2.1, ()))).bind λ r23=>(kk_q a rest (kk_s21 a r0 r1 r2 r3 r4 r5 r6 r7 r8 r9 r10 r11 r12 r13 r14 r15 r16 r17 r18 r19 r20 r21 r22 r23))):=by kernel_rfl
theorem kk_f17 (rest:Code):kk_q a (.seq kk_v17 rest) (kk_s17 a r0 r1 r2 r3 r4 r5 r6 r7 r8 r9 r10 r11 r12 r13 r14 r15)=(bif (r2.2.1 != r3.2.1) then some (false, ()) else ((NI (r2.1, (r3.1, ()))).bind λ r16=>(bif (!r16.1) then some (false, ()) else (bif (r5.2.1 != r6.2.1) then some (false, ()) else ((NI (r5.1, (r6.1, ()))).bind λ r17=>(bif (!r17.1) then some (false, ()) else (bif (r8.2.1 != r9.2.1) then some (false, ()) else ((NI (r8.1, (r9.1, ()))).bind λ r18=>(bif (!r18.1) then some (false, ()) else (bif (r11.2.1 != r12.2.1) then some (false, ()) else ((NI (r11.1, (r12.1, ()))).bind λ r19=>(bif (!r19.1) then some (false, ()) else (bif (r14.2.1 != r15.2.1) then some (false, ()) else ((dj (r14.1, (r15.1, ()))).bind λ r20=>(bif (!r20.1) then some (false, ()) else (kk_q a rest (kk_s18 a r0 r1 r2 r3 r4 r5 r6 r7 r8 r9 r10 r11 r12 r13 r14 r15 r16 r17 r18 r19 r20))))))))))))))))):=by kernel_rfl
theorem kk_f14 (rest:Code):kk_q a (.seq kk_v14 rest) (kk_s14 a r0 r1 r2 r3 r4 r5 r6 r7 r8 r9 r10 r11 r12)=((adp (a.1, ())).bind λ r13=>(kk_q a rest (kk_s15 a r0 r1 r2 r3 r4 r5 r6 r7 r8 r9 r10 r11 r12 r13))):=by kernel_rfl
theorem kk_f11 (rest:Code):kk_q a (.seq kk_v11 rest) (kk_s11 a r0 r1 r2 r3 r4 r5 r6 r7 r8 r9)=((adr (a.1, ())).bind λ r10=>(kk_q a rest (kk_s12 a r0 r1 r2 r3 r4 r5 r6 r7 r8 r9 r10))):=by kernel_rfl
theorem kk_f8 (rest:Code):kk_q a (.seq kk_v8 rest) (kk_s8 a r0 r1 r2 r3 r4 r5 r6)=((adq (a.1, ())).bind λ r7=>(kk_q a rest (kk_s9 a r0 r1 r2 r3 r4 r5 r6 r7))):=by kernel_rfl
theorem kk_f5 (rest:Code):kk_q a (.seq kk_v5 rest) (kk_s5 a r0 r1 r2 r3)=((adv (a.1, ())).bind λ r4=>(kk_q a rest (kk_s6 a r0 r1 r2 r3 r4))):=by kernel_rfl
theorem kk_f2 (rest:Code):kk_q a (.seq kk_v2 rest) (kk_s2 a r0)=((adt (a.1, ())).bind λ r1=>(kk_q a rest (kk_s3 a r0 r1))):=by kernel_rfl
theorem kk_ev:Qp ai7 Tryz.f4 pf4.params pf4.rets pf4.rk a=kk_q a kk_n0 (kk_s0 a):=by kernel_rfl
end
end G448
