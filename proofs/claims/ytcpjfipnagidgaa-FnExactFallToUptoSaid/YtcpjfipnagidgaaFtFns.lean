/- The Go functions, as the evaluator prints them. (Printed by our own program.) -/
import Derived.Test.YtcpjfipnagidgaaLibG
set_option linter.unusedSimpArgs false
set_option linter.unusedVariables false

namespace G448
open Ev
noncomputable section

def laws_szByteS (a : (List (UInt8)) × ((Int) × (Unit))) : Option ((Int) × (Unit)) :=
  (bif (decide ((wr (a.2.1 - (((List.length a.1) : Nat) : Int))) < 0)) then some ((-1), ()) else some ((wr (a.2.1 - (((List.length a.1) : Nat) : Int))), ()))
def laws_szDisk (a : ((List (UInt8)) × (Int)) × ((Int) × (Unit))) : Option ((Int) × (Unit)) :=
  ((laws_szByteS (a.1.1, (a.2.1, ()))).bind fun r0 => (bif (decide (r0.1 < 0)) then some ((-1), ()) else some (r0.1, ())))
def laws_toByteS (a : (List (UInt8)) × (Unit)) : Option ((List (UInt8)) × (Unit)) :=
  (if ((((List.length a.1) : Nat) : Int) = (((List.length a.1) : Nat) : Int)) then (if ((0 ≤ (((List.length a.1) : Nat) : Int)) ∧ (((Int.toNat (((List.length a.1) : Nat) : Int)) * 1) ≤ 70368744177664)) then (iter (fun rec0 (x0 : (Int) × ((List (UInt8)) × (Unit))) => (bif (decide (x0.1 < (((List.length a.1) : Nat) : Int))) then (if ((0 ≤ x0.1) ∧ (x0.1 < (((List.length a.1) : Nat) : Int))) then (if ((0 ≤ x0.1) ∧ (x0.1 < (((List.length x0.2.1) : Nat) : Int))) then (rec0 ((wr (x0.1 + 1)), ((List.set x0.2.1 (Int.toNat x0.1) (rd .u8 a.1 (Int.toNat x0.1))), ()))) else none) else none) else some (x0.2.1, ()))) fuel (0, ((List.replicate (Int.toNat (((List.length a.1) : Nat) : Int)) 0), ()))) else none) else none)
def laws_toDisk (a : ((List (UInt8)) × (Int)) × (Unit)) : Option (((List (UInt8)) × (Int)) × (Unit)) :=
  ((laws_toByteS (a.1.1, ())).bind fun r0 => some ((r0.1, a.1.2), ()))
def spec_l13Copy (a : ((List (UInt8)) × (Int)) × (Unit)) : Option (((List (UInt8)) × (Int)) × (Unit)) :=
  (if (((0 + (List.length a.1.1)) * 1) ≤ 70368744177664) then some ((([] ++ a.1.1), a.1.2), ()) else none)
def spec_l1In (a : (Int) × ((Int) × ((Int) × (Unit)))) : Option ((Bool) × (Unit)) :=
  (bif (decide (a.1 ≥ a.2.1)) then some ((decide (a.1 ≤ a.2.2.1)), ()) else some (false, ()))
def spec_DiskOk (a : ((List (UInt8)) × (Int)) × (Unit)) : Option ((Bool) × (Unit)) :=
  (bif (decide ((((List.length a.1.1) : Nat) : Int) ≤ 100000)) then ((spec_l1In (a.1.2, (0, ((((List.length a.1.1) : Nat) : Int), ())))).bind fun r0 => some (r0.1, ())) else some (false, ()))
def spec_Append (a : ((List (UInt8)) × (Int)) × ((List (UInt8)) × (Unit))) : Option (((List (UInt8)) × (Int)) × ((Bool) × (Unit))) :=
  ((spec_l13Copy (a.1, ())).bind fun r0 => (if ((((List.length r0.1.1) + (List.length a.2.1)) * 1) ≤ 70368744177664) then ((spec_DiskOk (a.1, ())).bind fun r1 => (bif (!r1.1) then ((spec_l13Copy (a.1, ())).bind fun r2 => some (r2.1, (false, ()))) else ((spec_DiskOk (((r0.1.1 ++ a.2.1), r0.1.2), ())).bind fun r3 => (bif (!r3.1) then ((spec_l13Copy (a.1, ())).bind fun r4 => some (r4.1, (false, ()))) else some (((r0.1.1 ++ a.2.1), r0.1.2), (true, ())))))) else none))
def impl_copyDisk (a : ((List (UInt8)) × (Int)) × (Unit)) : Option (((List (UInt8)) × (Int)) × (Unit)) :=
  (if (((List.length a.1.1) * 1) ≤ 70368744177664) then some (a.1, ()) else none)
def impl_within (a : (Int) × ((Int) × ((Int) × (Unit)))) : Option ((Bool) × (Unit)) :=
  (bif (decide (a.1 ≥ a.2.1)) then some ((decide (a.1 ≤ a.2.2.1)), ()) else some (false, ()))
def impl_DiskOk (a : ((List (UInt8)) × (Int)) × (Unit)) : Option ((Bool) × (Unit)) :=
  (bif (decide ((((List.length a.1.1) : Nat) : Int) ≤ 100000)) then ((impl_within (a.1.2, (0, ((((List.length a.1.1) : Nat) : Int), ())))).bind fun r0 => some (r0.1, ())) else some (false, ()))
def impl_Append (a : ((List (UInt8)) × (Int)) × ((List (UInt8)) × (Unit))) : Option (((List (UInt8)) × (Int)) × ((Bool) × (Unit))) :=
  ((impl_copyDisk (a.1, ())).bind fun r0 => ((impl_DiskOk (a.1, ())).bind fun r1 => (bif (!r1.1) then some (r0.1, (false, ())) else (bif (decide ((wr ((((List.length a.1.1) : Nat) : Int) + (((List.length a.2.1) : Nat) : Int))) > 100000)) then some (r0.1, (false, ())) else (if ((((List.length r0.1.1) + (List.length a.2.1)) * 1) ≤ 70368744177664) then some (((r0.1.1 ++ a.2.1), r0.1.2), (true, ())) else none)))))
def laws_eqByteS (a : (List (UInt8)) × ((List (UInt8)) × (Unit))) : Option ((Bool) × (Unit)) :=
  (bif ((((List.length a.1) : Nat) : Int) != (((List.length a.2.1) : Nat) : Int)) then some (false, ()) else (iter (fun rec0 (x0 : (Int) × (Unit)) => (bif (decide (x0.1 < (((List.length a.1) : Nat) : Int))) then (if ((0 ≤ x0.1) ∧ (x0.1 < (((List.length a.1) : Nat) : Int))) then (if ((0 ≤ x0.1) ∧ (x0.1 < (((List.length a.2.1) : Nat) : Int))) then (bif ((rd .u8 a.1 (Int.toNat x0.1)) != (rd .u8 a.2.1 (Int.toNat x0.1))) then some (false, ()) else (rec0 ((wr (x0.1 + 1)), ()))) else none) else none) else some (true, ()))) fuel (0, ())))
def laws_eqDisk (a : ((List (UInt8)) × (Int)) × (((List (UInt8)) × (Int)) × (Unit))) : Option ((Bool) × (Unit)) :=
  ((laws_eqByteS (a.1.1, (a.2.1.1, ()))).bind fun r0 => (bif (!r0.1) then some (false, ()) else (bif (a.1.2 != a.2.1.2) then some (false, ()) else some (true, ()))))
def laws_markByteS (a : (List (UInt8)) × ((Int) × (Unit))) : Option ((List (UInt8)) × ((Int) × (Unit))) :=
  (iter (fun rec0 (x0 : (Int) × ((Int) × ((List (UInt8)) × (Unit)))) => (bif (decide (x0.2.1 < (((List.length x0.2.2.1) : Nat) : Int))) then (if ((0 ≤ x0.2.1) ∧ (x0.2.1 < (((List.length x0.2.2.1) : Nat) : Int))) then (rec0 ((wr (x0.1 + 1)), ((wr (x0.2.1 + 1)), ((List.set x0.2.2.1 (Int.toNat x0.2.1) (toB x0.1)), ())))) else none) else some (x0.2.2.1, (x0.1, ())))) fuel (a.2.1, (0, (a.1, ()))))
def laws_markDisk (a : ((List (UInt8)) × (Int)) × ((Int) × (Unit))) : Option (((List (UInt8)) × (Int)) × ((Int) × (Unit))) :=
  ((laws_markByteS (a.1.1, (a.2.1, ()))).bind fun r0 => some ((r0.1, a.1.2), (r0.2.1, ())))
def laws_heldByteS (a : (List (UInt8)) × ((Int) × (Unit))) : Option ((Int) × (Unit)) :=
  (iter (fun rec0 (x0 : (Int) × ((Int) × (Unit))) => (bif (decide (x0.2.1 < (((List.length a.1) : Nat) : Int))) then (if ((0 ≤ x0.2.1) ∧ (x0.2.1 < (((List.length a.1) : Nat) : Int))) then (bif ((rd .u8 a.1 (Int.toNat x0.2.1)) != (toB x0.1)) then some ((-1), ()) else (rec0 ((wr (x0.1 + 1)), ((wr (x0.2.1 + 1)), ())))) else none) else some (x0.1, ()))) fuel (a.2.1, (0, ())))
def laws_heldDisk (a : ((List (UInt8)) × (Int)) × ((Int) × (Unit))) : Option ((Int) × (Unit)) :=
  ((laws_heldByteS (a.1.1, (a.2.1, ()))).bind fun r0 => (bif (decide (r0.1 < 0)) then some ((-1), ()) else some (r0.1, ())))
def laws_FnExactAppend (a : ((List (UInt8)) × (Int)) × ((List (UInt8)) × (Unit))) : Option ((Bool) × (Unit)) :=
  (bif (decide ((((List.length a.2.1) : Nat) : Int) > 1048576)) then some (true, ()) else ((laws_szDisk (a.1, (1048576, ()))).bind fun r0 => (bif (decide (r0.1 < 0)) then some (true, ()) else ((laws_toDisk (a.1, ())).bind fun r1 => ((laws_toByteS (a.2.1, ())).bind fun r2 => ((spec_Append (r1.1, (r2.1, ()))).bind fun r3 => ((laws_toDisk (a.1, ())).bind fun r4 => ((laws_toByteS (a.2.1, ())).bind fun r5 => ((impl_Append (r4.1, (r5.1, ()))).bind fun r6 => ((laws_eqDisk (r6.1, (r3.1, ()))).bind fun r7 => (bif (!r7.1) then some (false, ()) else (bif (r6.2.1 != r3.2.1) then some (false, ()) else ((laws_toDisk (a.1, ())).bind fun r8 => ((laws_eqDisk (r4.1, (r8.1, ()))).bind fun r9 => (bif (!r9.1) then some (false, ()) else ((laws_toByteS (a.2.1, ())).bind fun r10 => ((laws_eqByteS (r5.1, (r10.1, ()))).bind fun r11 => (bif (!r11.1) then some (false, ()) else ((laws_markDisk (r4.1, (1, ()))).bind fun r12 => ((laws_markByteS (r5.1, (r12.2.1, ()))).bind fun r13 => (bif (decide (r13.2.1 < 0)) then some (false, ()) else ((laws_eqDisk (r6.1, (r3.1, ()))).bind fun r14 => (bif (!r14.1) then some (false, ()) else (bif (r6.2.1 != r3.2.1) then some (false, ()) else ((laws_markDisk (r6.1, (1, ()))).bind fun r15 => ((laws_heldDisk ((r15.1.1, r6.1.2), (1, ()))).bind fun r16 => (bif (decide (r16.1 < 0)) then some (false, ()) else (bif (r16.1 != r15.2.1) then some (false, ()) else ((laws_toDisk (a.1, ())).bind fun r17 => ((laws_toByteS (a.2.1, ())).bind fun r18 => ((impl_Append (r17.1, (r18.1, ()))).bind fun r19 => ((laws_eqDisk (r19.1, (r3.1, ()))).bind fun r20 => (bif (!r20.1) then some (false, ()) else (bif (r19.2.1 != r3.2.1) then some (false, ()) else ((laws_heldDisk ((r15.1.1, r6.1.2), (1, ()))).bind fun r21 => (bif (decide (r21.1 < 0)) then some (false, ()) else (bif (r21.1 != r15.2.1) then some (false, ()) else some (true, ()))))))))))))))))))))))))))))))))))))))
def spec_l1Min (a : (Int) × ((Int) × (Unit))) : Option ((Int) × (Unit)) :=
  (bif (decide (a.1 < a.2.1)) then some (a.1, ()) else some (a.2.1, ()))
def spec_l1Max (a : (Int) × ((Int) × (Unit))) : Option ((Int) × (Unit)) :=
  (bif (decide (a.1 > a.2.1)) then some (a.1, ()) else some (a.2.1, ()))
def spec_FallTo (a : ((List (UInt8)) × (Int)) × ((Int) × (Unit))) : Option (((List (UInt8)) × (Int)) × (Unit)) :=
  ((spec_l13Copy (a.1, ())).bind fun r0 => ((spec_DiskOk (a.1, ())).bind fun r1 => (bif (!r1.1) then some (r0.1, ()) else ((spec_l1Min (a.2.1, ((wr ((((List.length a.1.1) : Nat) : Int) - a.1.2)), ()))).bind fun r2 => ((spec_l1Max (0, (r2.1, ()))).bind fun r3 => (if (((0 : Int) ≤ 0) ∧ ((0 ≤ (wr (a.1.2 + r3.1))) ∧ ((wr (a.1.2 + r3.1)) ≤ (((List.length a.1.1) : Nat) : Int)))) then (if (((0 + (List.length (List.take ((Int.toNat (wr (a.1.2 + r3.1))) - (Int.toNat 0)) (List.drop (Int.toNat 0) a.1.1)))) * 1) ≤ 70368744177664) then some ((([] ++ (List.take ((Int.toNat (wr (a.1.2 + r3.1))) - (Int.toNat 0)) (List.drop (Int.toNat 0) a.1.1))), (wr (a.1.2 + r3.1))), ()) else none) else none))))))
def impl_FallTo (a : ((List (UInt8)) × (Int)) × ((Int) × (Unit))) : Option (((List (UInt8)) × (Int)) × (Unit)) :=
  ((impl_copyDisk (a.1, ())).bind fun r0 => ((impl_DiskOk (a.1, ())).bind fun r1 => (bif r1.1 then (if (((0 : Int) ≤ 0) ∧ ((0 ≤ (wr (a.1.2 + (mn (mx a.2.1 0) (wr ((((List.length a.1.1) : Nat) : Int) - a.1.2)))))) ∧ ((wr (a.1.2 + (mn (mx a.2.1 0) (wr ((((List.length a.1.1) : Nat) : Int) - a.1.2))))) ≤ (((List.length r0.1.1) : Nat) : Int)))) then some (((List.take (Int.toNat (wr (a.1.2 + (mn (mx a.2.1 0) (wr ((((List.length a.1.1) : Nat) : Int) - a.1.2)))))) r0.1.1), (((List.length (List.take (Int.toNat (wr (a.1.2 + (mn (mx a.2.1 0) (wr ((((List.length a.1.1) : Nat) : Int) - a.1.2)))))) r0.1.1)) : Nat) : Int)), ()) else none) else some (r0.1, ()))))
def laws_FnExactFallTo (a : ((List (UInt8)) × (Int)) × ((Int) × (Unit))) : Option ((Bool) × (Unit)) :=
  ((laws_szDisk (a.1, (1048576, ()))).bind fun r0 => (bif (decide (r0.1 < 0)) then some (true, ()) else ((laws_toDisk (a.1, ())).bind fun r1 => ((spec_FallTo (r1.1, (a.2.1, ()))).bind fun r2 => ((laws_toDisk (a.1, ())).bind fun r3 => ((impl_FallTo (r3.1, (a.2.1, ()))).bind fun r4 => ((laws_eqDisk (r4.1, (r2.1, ()))).bind fun r5 => (bif (!r5.1) then some (false, ()) else ((laws_toDisk (a.1, ())).bind fun r6 => ((laws_eqDisk (r3.1, (r6.1, ()))).bind fun r7 => (bif (!r7.1) then some (false, ()) else ((laws_markDisk (r3.1, (1, ()))).bind fun r8 => (bif (decide (r8.2.1 < 0)) then some (false, ()) else ((laws_eqDisk (r4.1, (r2.1, ()))).bind fun r9 => (bif (!r9.1) then some (false, ()) else ((laws_markDisk (r4.1, (1, ()))).bind fun r10 => ((laws_heldDisk ((r10.1.1, r4.1.2), (1, ()))).bind fun r11 => (bif (decide (r11.1 < 0)) then some (false, ()) else (bif (r11.1 != r10.2.1) then some (false, ()) else ((laws_toDisk (a.1, ())).bind fun r12 => ((impl_FallTo (r12.1, (a.2.1, ()))).bind fun r13 => ((laws_eqDisk (r13.1, (r2.1, ()))).bind fun r14 => (bif (!r14.1) then some (false, ()) else ((laws_heldDisk ((r10.1.1, r4.1.2), (1, ()))).bind fun r15 => (bif (decide (r15.1 < 0)) then some (false, ()) else (bif (r15.1 != r10.2.1) then some (false, ()) else some (true, ())))))))))))))))))))))))))))
def impl_Sync (a : ((List (UInt8)) × (Int)) × (Unit)) : Option (((List (UInt8)) × (Int)) × (Unit)) :=
  ((impl_copyDisk (a.1, ())).bind fun r0 => ((impl_DiskOk (a.1, ())).bind fun r1 => (bif r1.1 then some ((r0.1.1, (((List.length a.1.1) : Nat) : Int)), ()) else some (r0.1, ()))))
def spec_Sync (a : ((List (UInt8)) × (Int)) × (Unit)) : Option (((List (UInt8)) × (Int)) × (Unit)) :=
  ((spec_l13Copy (a.1, ())).bind fun r0 => ((spec_DiskOk (a.1, ())).bind fun r1 => (bif r1.1 then some ((r0.1.1, (((List.length a.1.1) : Nat) : Int)), ()) else some (r0.1, ()))))

end
end G448
