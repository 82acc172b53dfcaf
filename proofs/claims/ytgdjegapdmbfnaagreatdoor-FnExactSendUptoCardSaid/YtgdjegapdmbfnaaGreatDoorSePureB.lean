/- Plain laws, part 2: what the functions compute. No program in sight. -/
import Derived.Test.YtgdjegapdmbfnaaGreatDoorSePureA
set_option linter.unusedSimpArgs false
set_option linter.unusedVariables false

namespace G448

open Ev Go

set_option linter.unusedVariables false

def rdQc (s : List UInt8) (r : RSt) : RSt × TQc :=
 ((rdWho s (rdText s (rdNum s r).1).1).1, ((rdNum s r).2, (rdText s (rdNum s r).1).2, (rdWho s (rdText s (rdNum s r).1).1).2))

theorem spec_l12Qc_eq (s : List UInt8) (r : RSt) (hs : s.length ≤ 137438953472) : spec_l12Qc ((s, r), ()) = some ((s, (rdQc s r).1), (rdQc s r).2, ()) := by
 unfold spec_l12Qc
 dsimp only
 rw [spec_l12Num_eq s r hs, Option.bind_some]
 dsimp only
 rw [spec_l12Text_eq s _ hs, Option.bind_some]
 dsimp only
 rw [spec_l12Who_eq s _ hs, Option.bind_some]
 rfl

theorem impl_reader_qc_eq (s : List UInt8) (r : RSt) (hs : s.length ≤ 137438953472) : impl_reader_qc ((s, (r.1, !r.2)), ()) = some ((s, ((rdQc s r).1.1, !(rdQc s r).1.2)), (rdQc s r).2, ()) := by
 unfold impl_reader_qc
 dsimp only
 rw [impl_reader_num_eq s r hs, Option.bind_some]
 dsimp only
 rw [impl_reader_text_eq s _ hs, Option.bind_some]
 dsimp only
 rw [impl_reader_nums_eq s _ hs, Option.bind_some]
 rfl

theorem rdNum_ok {s : List UInt8} {r : RSt} (h : (rdNum s r).1.2 = true) : r.2 = true ∧ 0 ≤ r.1 ∧ r.1 + 1 ≤ (rdNum s r).1.1 ∧ (rdNum s r).1.1 ≤ (s.length : Int) := by
 unfold rdNum at h ⊢
 split at h
 ·next hc =>
  rw [if_pos hc]
  have := getNum_ok s r.1 hc.1
  exact ⟨hc.2, this.1, this.2.2.2.1, this.2.2.2.2⟩
 ·simp at h

theorem rdText_ok {s : List UInt8} {r : RSt} (h : (rdText s r).1.2 = true) : r.2 = true ∧ 0 ≤ r.1 ∧ r.1 + 1 + ((rdText s r).2.length : Int) ≤ (rdText s r).1.1 ∧ (rdText s r).1.1 ≤ (s.length : Int) := by
 unfold rdText at h ⊢
 split at h
 ·next hc =>
  rw [if_pos hc]
  obtain ⟨h1, h2⟩ := hc
  refine ⟨h2, ?_⟩
  unfold getText at h1 ⊢
  split at h1
  ·next hg =>
   rw [if_pos hg]
   have := getNum_ok s r.1 hg.1
   simp only [List.length_take, List.length_drop]
   omega
  ·simp at h1
 ·simp at h

theorem whoGo_ok (s : List UInt8) : ∀ (n : Nat) (r : RSt) (out : List Int), (whoGo s n r out).1.2 = true → r.2 = true ∧ r.1 + ((whoGo s n r out).2.length : Int) ≤ (whoGo s n r out).1.1 + (out.length : Int) ∧ out.length ≤ (whoGo s n r out).2.length ∧
  ((whoGo s n r out).1.1 ≤ (s.length : Int) ∨ whoGo s n r out = (r, out))
 | 0, r, out, h => ⟨h, by simp [whoGo], by simp [whoGo], .inr rfl⟩
 | n + 1, r, out, h => by
  simp only [whoGo] at h ⊢
  split at h
  ·next hr =>
   rw [if_pos hr]
   obtain ⟨h1, h2, h3, h4⟩ := whoGo_ok s n _ _ h
   obtain ⟨g1, g2, g3, g4⟩ := rdNum_ok h1
   simp only [List.length_append, List.length_cons, List.length_nil] at h2 h3
   refine ⟨hr, by omega, by omega, .inl ?_⟩
   rcases h4 with h4 | h4
   ·exact h4
   ·rw [h4]; exact g4
  ·next hr => exact absurd h hr

theorem rdWho_ok {s : List UInt8} {r : RSt} (h : (rdWho s r).1.2 = true) : r.2 = true ∧ 0 ≤ r.1 ∧ r.1 + 1 + ((rdWho s r).2.length : Int) ≤ (rdWho s r).1.1 ∧ (rdWho s r).1.1 ≤ (s.length : Int) := by
 unfold rdWho at h ⊢
 obtain ⟨h1, h2, h3, h4⟩ := whoGo_ok s _ _ _ h
 obtain ⟨g1, g2, g3, g4⟩ := rdNum_ok h1
 simp only [List.length_nil] at h2
 refine ⟨g1, g2, by omega, ?_⟩
 rcases h4 with h4 | h4
 ·exact h4
 ·rw [h4]; exact g4

theorem rdQc_ok {s : List UInt8} {r : RSt} (h : (rdQc s r).1.2 = true) : r.2 = true ∧ 0 ≤ r.1 ∧ r.1 + (wQc (rdQc s r).2 : Int) ≤ (rdQc s r).1.1 ∧ (rdQc s r).1.1 ≤ (s.length : Int) := by
 unfold rdQc at h ⊢
 obtain ⟨a1, a2, a3, a4⟩ := rdWho_ok h
 obtain ⟨b1, b2, b3, b4⟩ := rdText_ok a1
 obtain ⟨c1, c2, c3, c4⟩ := rdNum_ok b1
 simp only [wQc, wIntS]
 exact ⟨c1, c2, by omega, a4⟩

def zMsg : TMsg := (0, 0, ([], 0, [], []), (0, [], []), (0, [], []), 0, (0, 0, 0, 0))

noncomputable def finM (c : TConf) (s : List UInt8) (r : RSt) (m : TMsg) : TMsg × Bool := bif r.2 && (r.1 == (s.length : Int) && msgOk c m) then (m, true) else (zMsg, false)

theorem spec_fin (c : TConf) (s : List UInt8) (r : RSt) (m : TMsg) (hw : r.2 = true → r.1 = (s.length : Int) → wMsg m ≤ 1073741824) :
  (bif !r.2 then some (zMsg, false, ()) else bif (r.1 != (s.length : Int)) then some (zMsg, false, ()) else (spec_MsgOk (c, m, ())).bind fun r3 => bif !r3.1 then some (zMsg, false, ()) else some (m, true, ())) = some ((finM c s r m).1, (finM c s r m).2, ()) := by
 unfold finM
 cases hr : r.2
 ·rfl
 ·by_cases hl : r.1 = (s.length : Int)
  ·have e : (r.1 != (s.length : Int)) = false := by simp [hl]
   have e' : (r.1 == (s.length : Int)) = true := by simp [hl]
   rw [e, e', spec_MsgOk_eq c m (by have := hw hr hl; omega)]
   cases h : msgOk c m <;> simp [h]
  ·have e : (r.1 != (s.length : Int)) = true := by simp [hl]
   have e' : (r.1 == (s.length : Int)) = false := by simp [hl]
   rw [e, e']; rfl

theorem impl_fin (c : TConf) (s : List UInt8) (r : RSt) (m : TMsg) (hw : r.2 = true → r.1 = (s.length : Int) → wMsg m ≤ 1073741824) :
  (bif !r.2 then some (zMsg, false, ()) else bif (r.1 != (s.length : Int)) then some (zMsg, false, ()) else (impl_MsgOk (c, m, ())).bind fun r3 => bif !r3.1 then some (zMsg, false, ()) else some (m, true, ())) = some ((finM c s r m).1, (finM c s r m).2, ()) := by
 unfold finM
 cases hr : r.2
 ·rfl
 ·by_cases hl : r.1 = (s.length : Int)
  ·have e : (r.1 != (s.length : Int)) = false := by simp [hl]
   have e' : (r.1 == (s.length : Int)) = true := by simp [hl]
   rw [e, e', impl_MsgOk_eq c m (hw hr hl)]
   cases h : msgOk c m <;> simp [h]
  ·have e : (r.1 != (s.length : Int)) = true := by simp [hl]
   have e' : (r.1 == (s.length : Int)) = false := by simp [hl]
   rw [e, e']; rfl

noncomputable def msgOf (c : TConf) (s : List UInt8) : TMsg × Bool :=
 let a := rdNum s (0, true)
 bif (a.2 == 1) then finM c s (rdQc s (rdText s a.1).1).1 (a.2, 0, ((rdText s a.1).2, (rdQc s (rdText s a.1).1).2), (0, [], []), (0, [], []), 0, (0, 0, 0, 0)) else
 bif (a.2 == 2) then finM c s (rdWho s (rdText s (rdNum s a.1).1).1).1 (a.2, 0, ([], 0, [], []), ((rdNum s a.1).2, (rdText s (rdNum s a.1).1).2, (rdWho s (rdText s (rdNum s a.1).1).1).2), (0, [], []), 0, (0, 0, 0, 0)) else
 bif (a.2 == 3) then finM c s (rdQc s (rdNum s (rdNum s a.1).1).1).1 (a.2, (rdNum s a.1).2, ([], 0, [], []), (0, [], []), (rdQc s (rdNum s (rdNum s a.1).1).1).2, (rdNum s (rdNum s a.1).1).2, (0, 0, 0, 0)) else
 bif (a.2 == 4) then finM c s (rdNum s (rdNum s (rdNum s (rdNum s a.1).1).1).1).1 (a.2, 0, ([], 0, [], []), (0, [], []), (0, [], []), 0, ((rdNum s a.1).2, (rdNum s (rdNum s a.1).1).2, (rdNum s (rdNum s (rdNum s a.1).1).1).2, (rdNum s (rdNum s (rdNum s (rdNum s a.1).1).1).1).2)) else
 finM c s a.1 (a.2, 0, ([], 0, [], []), (0, [], []), (0, [], []), 0, (0, 0, 0, 0))

theorem w1 (s : List UInt8) (a : RSt) (k : Int) (hs : s.length ≤ 1073741824) (h : (rdQc s (rdText s a).1).1.2 = true) : wMsg (k, 0, ((rdText s a).2, (rdQc s (rdText s a).1).2), (0, [], []), (0, [], []), 0, (0, 0, 0, 0)) ≤ 1073741824 := by
 obtain ⟨h1, h2, h3, h4⟩ := rdQc_ok h
 obtain ⟨g1, g2, g3, g4⟩ := rdText_ok h1
 simp only [wMsg, wBlock, wPart, wQc, wIntS, List.length_nil] at h3 ⊢
 omega

theorem w2 (s : List UInt8) (a : RSt) (k x : Int) (hs : s.length ≤ 1073741824) (h : (rdWho s (rdText s a).1).1.2 = true) : wMsg (k, 0, ([], 0, [], []), (x, (rdText s a).2, (rdWho s (rdText s a).1).2), (0, [], []), 0, (0, 0, 0, 0)) ≤ 1073741824 := by
 obtain ⟨h1, h2, h3, h4⟩ := rdWho_ok h
 obtain ⟨g1, g2, g3, g4⟩ := rdText_ok h1
 simp only [wMsg, wBlock, wPart, wQc, wIntS, List.length_nil]
 omega

theorem w3 (s : List UInt8) (a : RSt) (k x y : Int) (hs : s.length ≤ 1073741824) (h : (rdQc s a).1.2 = true) : wMsg (k, x, ([], 0, [], []), (0, [], []), (rdQc s a).2, y, (0, 0, 0, 0)) ≤ 1073741824 := by
 obtain ⟨h1, h2, h3, h4⟩ := rdQc_ok h
 simp only [wMsg, wBlock, wPart, wQc, wIntS, List.length_nil] at h3 ⊢
 omega

theorem w4 (k : Int) (t : TTx) : wMsg (k, 0, ([], 0, [], []), (0, [], []), (0, [], []), 0, t) ≤ 1073741824 := by
 simp [wMsg, wBlock, wPart, wQc, wIntS]

theorem spec_MsgOf_eq (c : TConf) (s : List UInt8) (hs : s.length ≤ 1073741824) : spec_MsgOf (c, s, ()) = some ((msgOf c s).1, (msgOf c s).2, ()) := by
 have hl : s.length ≤ 137438953472 := by omega
 unfold spec_MsgOf msgOf
 simp only [spec_l12Num_eq s _ hl, spec_l12Text_eq s _ hl, spec_l12Who_eq s _ hl, spec_l12Qc_eq s _ hl, Option.bind_some]
 cases ((rdNum s (0, true)).2 == 1)
 ·cases ((rdNum s (0, true)).2 == 2)
  ·cases ((rdNum s (0, true)).2 == 3)
   ·cases ((rdNum s (0, true)).2 == 4)
    ·exact spec_fin c s _ _ (fun _ _ => w4 _ _)
    ·exact spec_fin c s _ _ (fun _ _ => w4 _ _)
   ·exact spec_fin c s _ _ (fun h _ => w3 s _ _ _ _ hs h)
  ·exact spec_fin c s _ _ (fun h _ => w2 s _ _ _ hs h)
 ·exact spec_fin c s _ _ (fun h _ => w1 s _ _ hs h)

theorem impl_MsgOf_eq (c : TConf) (s : List UInt8) (hs : s.length ≤ 1073741824) : impl_MsgOf (c, s, ()) = some ((msgOf c s).1, (msgOf c s).2, ()) := by
 have hl : s.length ≤ 137438953472 := by omega
 have e0 : impl_reader_num ((s, (0, false)), ()) = some ((s, ((rdNum s (0, true)).1.1, !(rdNum s (0, true)).1.2)), (rdNum s (0, true)).2, ()) := impl_reader_num_eq s (0, true) hl
 unfold impl_MsgOf msgOf
 simp only [e0, impl_reader_num_eq s _ hl, impl_reader_text_eq s _ hl, impl_reader_nums_eq s _ hl, impl_reader_qc_eq s _ hl, Option.bind_some]
 cases ((rdNum s (0, true)).2 == 1)
 ·cases ((rdNum s (0, true)).2 == 2)
  ·cases ((rdNum s (0, true)).2 == 3)
   ·cases ((rdNum s (0, true)).2 == 4)
    ·exact impl_fin c s _ _ (fun _ _ => w4 _ _)
    ·exact impl_fin c s _ _ (fun _ _ => w4 _ _)
   ·exact impl_fin c s _ _ (fun h _ => w3 s _ _ _ _ hs h)
  ·exact impl_fin c s _ _ (fun h _ => w2 s _ _ _ hs h)
 ·exact impl_fin c s _ _ (fun h _ => w1 s _ _ hs h)

end G448

namespace G448

open Ev Go

set_option linter.unusedVariables false

end G448

namespace G448

open Ev Go

set_option linter.unusedVariables false

def ledgerNew : TLedger := ([100, 100, 100, 100], [0, 0, 0, 0])

def txsIn (s : List UInt8) : TTxS := ((steps s).1.map fun x => x.2).flatten

def within (lo hi x : Int) : Bool := decide (x ≥ lo) && decide (x ≤ hi)

def ledgerOk (l : TLedger) : Bool := decide (l.1.length = 4) && (decide (l.2.length = 4) && (l.1.all (within 0 400) && l.2.all (within 0 100)))

noncomputable def pay (l : TLedger) (x : TTx) : TLedger × Int :=
 if ledgerOk l = true ∧ txOk x = true then
  (if x.2.2.2 < rd .i64 l.2 x.1.toNat then (l, 2) else if x.2.2.2 > rd .i64 l.2 x.1.toNat then (l, 3) else
   if x.2.2.1 > rd .i64 l.1 x.1.toNat then ((l.1, l.2.set x.1.toNat (wr (x.2.2.2 + 1))), 4) else
   let h := l.1.set x.1.toNat (wr (rd .i64 l.1 x.1.toNat - x.2.2.1))
   let m : TLedger := (h.set x.2.1.toNat (wr (rd .i64 h x.2.1.toNat + x.2.2.1)), l.2.set x.1.toNat (wr (x.2.2.2 + 1)))
   if ledgerOk m = true then (m, 0) else (l, 1))
 else (l, 1)

noncomputable def payF (s : List Int × TLedger) (x : TTx) : List Int × TLedger := (s.1 ++ [(pay s.2 x).2], (pay s.2 x).1)

noncomputable def payAll (l : TLedger) (xs : TTxS) : List Int × TLedger := xs.foldl payF ([], l)

noncomputable def state (c : TConf) (r : TRep) : TLedger := bif repOk c r then (payAll ledgerNew (txsIn r.2.2.2.1.2.2.2)).2 else ([], [])

end G448

namespace G448

open Ev Go

set_option linter.unusedVariables false

abbrev ERep : Ty := .pair .i64 (.pair .i64 (.pair .i64 (.pair (.pair .i64 (.pair .i64 (.pair (.pair .i64 (.pair .str (.sl 0 .i64))) .str))) (.pair (.sl 0 (.pair .i64 (.pair .i64 (.pair .i64 .i64)))) (.pair (.sl 0 (.pair .i64 (.pair .str (.sl 0 .i64)))) (.pair (.pair (.sl 0 .u8) .i64) (.sl 0 (.pair .i64 (.pair .i64 (.pair .i64 (.pair (.pair .str (.pair .i64 (.pair .str (.sl 0 .i64)))) (.pair (.pair .i64 (.pair .str (.sl 0 .i64))) (.pair (.pair .i64 (.pair .str (.sl 0 .i64))) (.pair .i64 (.pair .i64 (.pair .i64 (.pair .i64 .i64)))))))))))))))))

abbrev EWire : Ty := .pair .i64 (.sl 0 .u8)

abbrev ESaid : Ty := .pair .i64 (.pair .str .i64)

def idxAll {α : Type} (p : Nat → α → Bool) : Nat → List α → Bool
 | _, [] => true
 | i, x :: l => p i x && idxAll p (i + 1) l

theorem idxK_loop {α : Type} (p : Nat → α → Bool) (l : List α) (K : Option (Bool × Unit)) {G : (Int × Unit → Option (Bool × Unit)) → Int × Unit → Option (Bool × Unit)} (hl : l.length ≤ 1152921504606846976)
  (hend : ∀ rec, G rec ((l.length : Int), ()) = K)
  (hstep : ∀ rec (i : Nat) x, l[i]? = some x → i < l.length → G rec ((i : Int), ()) = bif p i x then rec ((i : Int) + 1, ()) else some (false, ())) :
  iter G fuel (0, ()) = bif idxAll p 0 l then K else some (false, ()) := by
 refine (walk l.length (fun i (_ : Unit) => (i, ())) (fun _ _ => True) (fun i _ => bif idxAll p i (l.drop i) then K else some (false, ())) hl ?_ ?_ (s0 := ()) trivial).trans (by simp only [List.drop_zero])
 ·intro rec s _; rw [hend, List.drop_length]; rfl
 ·intro rec i s hi _
  rw [hstep rec i l[i] (List.getElem?_eq_getElem hi) hi, List.drop_eq_getElem_cons hi]
  simp only [idxAll]
  cases p i l[i]
  ·left; rfl
  ·right; exact ⟨(), trivial, rfl, rfl⟩

def faults (c : TConf) : Int := if confOk c = true then (c.1 - 1) / 3 else 0

theorem spec_Faults_eq (c : TConf) : spec_Faults (c, ()) = some (faults c, ()) := by
 unfold spec_Faults faults
 simp only [spec_ConfOk_eq, Option.bind_some]
 by_cases h : confOk c = true
 ·obtain ⟨h1, h2⟩ := confOk_b h
  have e1 : wr (c.1 - 1) = c.1 - 1 := wr_id' (by omega) (by omega)
  have e2 : Int.tdiv (c.1 - 1) 3 = (c.1 - 1) / 3 := Int.tdiv_eq_ediv_of_nonneg (by omega)
  simp only [h, Bool.not_true, cond_false, if_true, e1, e2]
  rw [wr_id' (n := (c.1 - 1) / 3) (by omega) (by omega)]
 ·have h' : confOk c = false := by simpa using h
  simp [h']

theorem impl_Faults_eq (c : TConf) : impl_Faults (c, ()) = some (faults c, ()) := by
 unfold impl_Faults faults
 simp only [impl_ConfOk_eq, Option.bind_some]
 by_cases h : confOk c = true
 ·obtain ⟨h1, h2⟩ := confOk_b h
  have e1 : wr (c.1 - 1) = c.1 - 1 := wr_id' (by omega) (by omega)
  have e2 : Int.tdiv (c.1 - 1) 3 = (c.1 - 1) / 3 := Int.tdiv_eq_ediv_of_nonneg (by omega)
  simp only [h, Bool.not_true, cond_false, if_true, e1, e2]
  rw [wr_id' (n := (c.1 - 1) / 3) (by omega) (by omega)]
 ·have h' : confOk c = false := by simpa using h
  simp [h']

noncomputable def repAt (c : TConf) (i : Nat) (r : TRep) : Bool := repOk c r && r.1 == (i : Int)

noncomputable def wireOk (c : TConf) (_ : Nat) (x : TWire) : Bool := (msgOf c x.2).2 && (decide (x.1 ≥ 0) && decide (x.1 ≤ c.1 - 1))

def saidOk (c : TConf) (_ : Nat) (s : TSaid) : Bool := (decide (s.2.2 ≥ 0) && decide (s.2.2 ≤ c.1 - 1)) && (nameOk s.2.1 && viewOf s.2.1 == s.1)

noncomputable def worldOk (w : TWorld) : Bool :=
 confOk w.1 && (setOk w.1.1 w.2.1 && (decide ((w.2.1.length : Int) ≤ faults w.1) && (((w.2.2.1.length : Int) == w.1.1) && (decide ((w.2.2.2.1.length : Int) ≤ 60) && (decide ((w.2.2.2.2.length : Int) ≤ 300) &&
  (idxAll (repAt w.1) 0 w.2.2.1 && (idxAll (wireOk w.1) 0 w.2.2.2.1 && idxAll (saidOk w.1) 0 w.2.2.2.2)))))))

/-- The world's parts are small. -/
def WB (N : Nat) (w : TWorld) : Prop :=
 (w.2.1.length ≤ 137438953472 ∧ w.2.2.1.length ≤ 137438953472 ∧ w.2.2.2.1.length ≤ 137438953472 ∧ w.2.2.2.2.length ≤ 137438953472) ∧ (∀ r ∈ w.2.2.1, wRep r ≤ N) ∧ (∀ x ∈ w.2.2.2.1, x.2.length ≤ 1073741824) ∧ (∀ s ∈ w.2.2.2.2, s.2.1.length ≤ N)

theorem WB.of {w : TWorld} {N : Nat} (h : wWorld w ≤ N) (hN : N ≤ 1073741824) : WB N w := by
 simp only [wWorld, wIntS, wRepS, wWireS, wSaidS] at h
 refine ⟨⟨by omega, by omega, by omega, by omega⟩, fun r hr => ?_, fun x hx => ?_, fun s hs => ?_⟩
 ·have := sum_mem wRep hr; omega
 ·have := sum_mem wWire hx; simp only [wWire, wByteS] at this; omega
 ·have := sum_mem wSaid hs; simp only [wSaid] at this; omega

theorem ne_not (a b : Int) : (a != b) = !(a == b) := rfl

theorem spec_WorldOk_eq (w : TWorld) (hb : WB 137438953472 w) : spec_WorldOk (w, ()) = some (worldOk w, ()) := by
 obtain ⟨⟨l1, l2, l3, l4⟩, br, bx, bs⟩ := hb
 unfold spec_WorldOk worldOk
 simp only [spec_ConfOk_eq, Option.bind_some]
 cases hc : confOk w.1
 ·rfl
 obtain ⟨hc1, hc2⟩ := confOk_b hc
 have e1 : wr (w.1.1 - 1) = w.1.1 - 1 := wr_id' (by omega) (by omega)
 simp only [Bool.not_true, cond_false, Bool.true_and, e1, spec_SetOk_eq _ _ l1, spec_Faults_eq, spec_in_eq, Option.bind_some, gt_le ((w.2.1.length : Nat) : Int) _, gt_le ((w.2.2.2.1.length : Nat) : Int) 60, gt_le ((w.2.2.2.2.length : Nat) : Int) 300, ne_not ((w.2.2.1.length : Nat) : Int) w.1.1]
 cases setOk w.1.1 w.2.1
 ·rfl
 cases decide ((w.2.1.length : Int) ≤ faults w.1)
 ·rfl
 cases ((w.2.2.1.length : Int) == w.1.1)
 ·rfl
 cases decide ((w.2.2.2.1.length : Int) ≤ 60)
 ·rfl
 cases decide ((w.2.2.2.2.length : Int) ≤ 300)
 ·rfl
 simp only [Bool.not_true, cond_false, Bool.true_and]
 refine (idxK_loop (repAt w.1) w.2.2.1 (bif idxAll (wireOk w.1) 0 w.2.2.2.1 then (bif idxAll (saidOk w.1) 0 w.2.2.2.2 then some (true, ()) else some (false, ())) else some (false, ())) (by omega) ?_ ?_).trans ?_
 ·intro rec
  simp only [Int.lt_irrefl, decide_false, cond_false]
  refine idxK_loop (wireOk w.1) w.2.2.2.1 (bif idxAll (saidOk w.1) 0 w.2.2.2.2 then some (true, ()) else some (false, ())) (by omega) ?_ ?_
  ·intro rec
   simp only [Int.lt_irrefl, decide_false, cond_false]
   refine idxK_loop (saidOk w.1) w.2.2.2.2 (some (true, ())) (by omega) ?_ ?_
   ·intro rec; simp only [Int.lt_irrefl, decide_false, cond_false]
   ·intro rec i s hx hi
    have hs := bs s (List.mem_of_getElem? hx)
    simp only [ge_ok hi, decide_true, cond_true, and_self, if_true, Int.toNat_natCast, rd_get (e := ESaid) hx, spec_NameOk_eq s.2.1 hs, spec_ViewOf_eq s.2.1 hs, Option.bind_some, wr_nat (show i < 4611686018427387904 by omega), saidOk, ne_not]
    cases (decide (s.2.2 ≥ 0) && decide (s.2.2 ≤ w.1.1 - 1)) <;> cases nameOk s.2.1 <;> cases (viewOf s.2.1 == s.1) <;> rfl
  ·intro rec i x hx hi
   have hs := bx x (List.mem_of_getElem? hx)
   simp only [ge_ok hi, decide_true, cond_true, and_self, if_true, Int.toNat_natCast, rd_get (e := EWire) hx, spec_MsgOf_eq w.1 x.2 hs, Option.bind_some, wr_nat (show i < 4611686018427387904 by omega), wireOk]
   cases (msgOf w.1 x.2).2 <;> cases (decide (x.1 ≥ 0) && decide (x.1 ≤ w.1.1 - 1)) <;> rfl
 ·intro rec i r hx hi
  have hs := br r (List.mem_of_getElem? hx)
  simp only [ge_ok hi, decide_true, cond_true, and_self, if_true, Int.toNat_natCast, rd_get (e := ERep) hx, spec_RepOk_eq w.1 r hs, Option.bind_some, wr_nat (show i < 4611686018427387904 by omega), repAt, ne_not]
  cases repOk w.1 r <;> cases (r.1 == (i : Int)) <;> rfl
 ·cases idxAll (repAt w.1) 0 w.2.2.1 <;> cases idxAll (wireOk w.1) 0 w.2.2.2.1 <;> cases idxAll (saidOk w.1) 0 w.2.2.2.2 <;> rfl

theorem impl_WorldOk_eq (w : TWorld) (hb : WB 1073741824 w) : impl_WorldOk (w, ()) = some (worldOk w, ()) := by
 obtain ⟨⟨l1, l2, l3, l4⟩, br, bx, bs⟩ := hb
 unfold impl_WorldOk worldOk
 simp only [impl_ConfOk_eq, Option.bind_some]
 cases hc : confOk w.1
 ·rfl
 obtain ⟨hc1, hc2⟩ := confOk_b hc
 have e1 : wr (w.1.1 - 1) = w.1.1 - 1 := wr_id' (by omega) (by omega)
 simp only [Bool.not_true, cond_false, Bool.true_and, e1, impl_SetOk_eq _ _ l1, impl_Faults_eq, impl_in_eq, Option.bind_some, gt_le ((w.2.1.length : Nat) : Int) _, gt_le ((w.2.2.2.1.length : Nat) : Int) 60, gt_le ((w.2.2.2.2.length : Nat) : Int) 300, ne_not ((w.2.2.1.length : Nat) : Int) w.1.1]
 cases setOk w.1.1 w.2.1
 ·rfl
 cases decide ((w.2.1.length : Int) ≤ faults w.1)
 ·rfl
 cases ((w.2.2.1.length : Int) == w.1.1)
 ·rfl
 cases decide ((w.2.2.2.1.length : Int) ≤ 60)
 ·rfl
 cases decide ((w.2.2.2.2.length : Int) ≤ 300)
 ·rfl
 simp only [Bool.not_true, cond_false, Bool.true_and]
 refine (idxK_loop (repAt w.1) w.2.2.1 (bif idxAll (wireOk w.1) 0 w.2.2.2.1 then (bif idxAll (saidOk w.1) 0 w.2.2.2.2 then some (true, ()) else some (false, ())) else some (false, ())) (by omega) ?_ ?_).trans ?_
 ·intro rec
  simp only [Int.lt_irrefl, decide_false, cond_false]
  refine idxK_loop (wireOk w.1) w.2.2.2.1 (bif idxAll (saidOk w.1) 0 w.2.2.2.2 then some (true, ()) else some (false, ())) (by omega) ?_ ?_
  ·intro rec
   simp only [Int.lt_irrefl, decide_false, cond_false]
   refine idxK_loop (saidOk w.1) w.2.2.2.2 (some (true, ())) (by omega) ?_ ?_
   ·intro rec; simp only [Int.lt_irrefl, decide_false, cond_false]
   ·intro rec i s hx hi
    have hs := bs s (List.mem_of_getElem? hx)
    simp only [ge_ok hi, decide_true, cond_true, and_self, if_true, Int.toNat_natCast, rd_get (e := ESaid) hx, impl_NameOk_eq s.2.1 hs, impl_ViewOf_eq s.2.1 hs, Option.bind_some, wr_nat (show i < 4611686018427387904 by omega), saidOk, ne_not]
    cases (decide (s.2.2 ≥ 0) && decide (s.2.2 ≤ w.1.1 - 1)) <;> cases nameOk s.2.1 <;> cases (viewOf s.2.1 == s.1) <;> rfl
  ·intro rec i x hx hi
   have hs := bx x (List.mem_of_getElem? hx)
   simp only [ge_ok hi, decide_true, cond_true, and_self, if_true, Int.toNat_natCast, rd_get (e := EWire) hx, impl_MsgOf_eq w.1 x.2 hs, Option.bind_some, wr_nat (show i < 4611686018427387904 by omega), wireOk]
   cases (msgOf w.1 x.2).2 <;> cases (decide (x.1 ≥ 0) && decide (x.1 ≤ w.1.1 - 1)) <;> rfl
 ·intro rec i r hx hi
  have hs := br r (List.mem_of_getElem? hx)
  simp only [ge_ok hi, decide_true, cond_true, and_self, if_true, Int.toNat_natCast, rd_get (e := ERep) hx, impl_RepOk_eq w.1 r hs, Option.bind_some, wr_nat (show i < 4611686018427387904 by omega), repAt, ne_not]
  cases repOk w.1 r <;> cases (r.1 == (i : Int)) <;> rfl
 ·cases idxAll (repAt w.1) 0 w.2.2.1 <;> cases idxAll (wireOk w.1) 0 w.2.2.2.1 <;> cases idxAll (saidOk w.1) 0 w.2.2.2.2 <;> rfl

theorem WB.mono {w : TWorld} {N M : Nat} (h : WB N w) (hm : N ≤ M) : WB M w := ⟨h.1, fun r hr => Nat.le_trans (h.2.1 r hr) hm, h.2.2.1, fun s hs => Nat.le_trans (h.2.2.2 s hs) hm⟩

end G448

namespace G448

open Ev Go

set_option linter.unusedVariables false

end G448

namespace G448

open Ev Go

set_option linter.unusedVariables false

end G448

namespace G448

open Ev Go

set_option linter.unusedVariables false

end G448

namespace G448

open Ev

set_option linter.unusedVariables false

set_option maxRecDepth 100000

noncomputable def sendOne (c : TConf) (ws : TWireS) (p : TPost) : TWireS :=
 bif decide (((msgBytes c p.2).length : Int) > 0) then (bif (decide (p.1 ≥ 0) && decide (p.1 ≤ wr (c.1 - 1))) then (bif decide ((ws.length : Int) < 60) then ws ++ [(p.1, msgBytes c p.2)] else ws) else ws) else ws

noncomputable def sendAll (c : TConf) (ws : TWireS) (ps : TPostS) : TWireS := ps.foldl (sendOne c) ws

noncomputable def send (w : TWorld) (ps : TPostS) : TWorld := bif worldOk w then (w.1, w.2.1, w.2.2.1, sendAll w.1 w.2.2.2.1 ps, w.2.2.2.2) else w

theorem sendOne_w (c : TConf) (ws : TWireS) (p : TPost) : wWireS (sendOne c ws p) ≤ wWireS ws + 61 + 5 * wPost p := by
 have h := msgBytes_len c p.2
 unfold sendOne
 cases decide (((msgBytes c p.2).length : Int) > 0)
 ·simp only [cond_false]; omega
 ·cases (decide (p.1 ≥ 0) && decide (p.1 ≤ wr (c.1 - 1)))
  ·simp only [cond_false, cond_true]; omega
  ·cases decide ((ws.length : Int) < 60)
   ·simp only [cond_false, cond_true]; omega
   ·simp only [cond_true, wWireS, wWire, wByteS, wPost, List.length_append, List.map_append, List.sum_append, List.map_cons, List.map_nil, List.sum_cons, List.sum_nil, List.length_cons, List.length_nil] at *
    omega

theorem sendAll_w (c : TConf) : ∀ (ps : TPostS) (ws : TWireS), wWireS (sendAll c ws ps) ≤ wWireS ws + 61 * wPostS ps
 | [], ws => by simp [sendAll]
 | p :: ps, ws => by
  have h1 := sendOne_w c ws p
  have h2 := sendAll_w c ps (sendOne c ws p)
  have e : sendAll c ws (p :: ps) = sendAll c (sendOne c ws p) ps := rfl
  rw [e]
  simp only [wPostS, List.length_cons, List.map_cons, List.sum_cons] at *
  omega

theorem send_w (w : TWorld) (ps : TPostS) : wWorld (send w ps) ≤ wWorld w + 61 * wPostS ps := by
 have h := sendAll_w w.1 ps w.2.2.2.1
 unfold send
 cases worldOk w
 ·simp only [cond_false]; omega
 ·simp only [cond_true, wWorld] at *; omega

theorem send_loop (c : TConf) (l : TIntS) (rs : TRepS) (sd : TSaidS) (ps : TPostS) (ws : TWireS) {G : (Int × TWorld × Unit → Option (TWorld × Unit)) → Int × TWorld × Unit → Option (TWorld × Unit)} (hn : ps.length ≤ 1073741824)
  (hstep : ∀ (rec : Int × TWorld × Unit → Option (TWorld × Unit)) (i : Nat) (s : TWireS) (h : i < ps.length), G rec ((i : Int), (c, l, rs, s, sd), ()) = rec ((i : Int) + 1, (c, l, rs, sendOne c s ps[i], sd), ()))
  (hend : ∀ (rec : Int × TWorld × Unit → Option (TWorld × Unit)) (s : TWireS), G rec ((ps.length : Int), (c, l, rs, s, sd), ()) = some ((c, l, rs, s, sd), ())) :
  iter G fuel (0, (c, l, rs, ws, sd), ()) = some ((c, l, rs, sendAll c ws ps, sd), ()) := by
 refine (walk ps.length (fun i (s : TWireS) => (i, (c, l, rs, s, sd), ())) (fun _ _ => True) (fun i s => some ((c, l, rs, sendAll c s (ps.drop i), sd), ())) (by omega) ?_ ?_ (s0 := ws) trivial).trans (by simp only [List.drop_zero])
 ·intro rec s _
  rw [hend, List.drop_length]
  rfl
 ·intro rec i s hi _
  exact .inr ⟨sendOne c s ps[i], trivial, hstep rec i s hi, by rw [List.drop_eq_getElem_cons hi]; rfl⟩

theorem spec_l19Send_eq (w : TWorld) (ps : TPostS) (hp : wPostS ps ≤ 1073741824) : spec_l19Send (w, ps, ()) = some ((w.1, w.2.1, w.2.2.1, sendAll w.1 w.2.2.2.1 ps, w.2.2.2.2), ()) := by
 have hl : ps.length ≤ 1073741824 := by simp only [wPostS] at hp; omega
 unfold spec_l19Send
 refine send_loop w.1 w.2.1 w.2.2.1 w.2.2.2.2 ps w.2.2.2.1 hl ?_ ?_
 ·intro rec i s hi
  have hx : ps[i]? = some ps[i] := List.getElem?_eq_getElem hi
  have hm := wPost_mem (Nat.le_refl (wPostS ps)) hx
  have hlt : decide ((i : Int) < (ps.length : Int)) = true := by simp; omega
  simp only [hlt, cond_true, show (0 : Int) ≤ (i : Int) ∧ (i : Int) < (ps.length : Int) from ⟨by omega, by omega⟩, and_self, if_true, Int.toNat_natCast, rd_get (e := EPost) hx, spec_MsgBytes_eq w.1 ps[i].2 (by omega), Option.bind_some, spec_l1In_eq, wr_nat (show i < 4611686018427387904 by omega), sendOne]
  by_cases h60 : (s.length : Int) < 60
  ·simp only [h60, decide_true, cond_true]
   rw [if_pos (by simp only [List.length_cons, List.length_nil]; omega)]
   cases decide (((msgBytes w.1 ps[i].2).length : Int) > 0) <;> cases (decide (ps[i].1 ≥ 0) && decide (ps[i].1 ≤ wr (w.1.1 - 1))) <;> rfl
  ·simp only [h60, decide_false, cond_false]
   cases decide (((msgBytes w.1 ps[i].2).length : Int) > 0) <;> cases (decide (ps[i].1 ≥ 0) && decide (ps[i].1 ≤ wr (w.1.1 - 1))) <;> rfl
 ·intro rec s
  simp only [Int.lt_irrefl, decide_false, cond_false]

theorem spec_Send_eq (w : TWorld) (ps : TPostS) (hw : wWorld w ≤ 1073741824) (hp : wPostS ps ≤ 1073741824) : spec_Send (w, ps, ()) = some (send w ps, ()) := by
 unfold spec_Send send
 dsimp only
 rw [spec_l19Copy_eq w (by omega), Option.bind_some, spec_WorldOk_eq w ((WB.of hw (Nat.le_refl _)).mono (by decide)), Option.bind_some]
 cases worldOk w
 ·rfl
 ·simp only [Bool.not_true, cond_false, cond_true]
  rw [spec_l19Send_eq w ps hp]
  rfl

theorem impl_Send_eq (w : TWorld) (ps : TPostS) (hw : wWorld w ≤ 1073741824) (hp : wPostS ps ≤ 1073741824) : impl_Send (w, ps, ()) = some (send w ps, ()) := by
 have hl : ps.length ≤ 1073741824 := by simp only [wPostS] at hp; omega
 unfold impl_Send send
 dsimp only
 rw [impl_copyWorld_eq w (by omega), Option.bind_some, impl_WorldOk_eq w (WB.of hw (Nat.le_refl _)), Option.bind_some]
 cases worldOk w
 ·rfl
 ·simp only [Bool.not_true, cond_false, cond_true]
  refine send_loop w.1 w.2.1 w.2.2.1 w.2.2.2.2 ps w.2.2.2.1 hl ?_ ?_
  ·intro rec i s hi
   have hx : ps[i]? = some ps[i] := List.getElem?_eq_getElem hi
   have hm := wPost_mem (Nat.le_refl (wPostS ps)) hx
   have hlt : decide ((i : Int) < (ps.length : Int)) = true := by simp; omega
   simp only [hlt, cond_true, show (0 : Int) ≤ (i : Int) ∧ (i : Int) < (ps.length : Int) from ⟨by omega, by omega⟩, and_self, if_true, Int.toNat_natCast, rd_get (e := EPost) hx, impl_MsgBytes_eq w.1 ps[i].2 (by omega), Option.bind_some, impl_within_eq, wr_nat (show i < 4611686018427387904 by omega), sendOne]
   by_cases h60 : (s.length : Int) < 60
   ·simp only [h60, decide_true, cond_true]
    rw [if_pos (by simp only [List.length_cons, List.length_nil]; omega)]
    cases decide (((msgBytes w.1 ps[i].2).length : Int) > 0) <;> cases (decide (ps[i].1 ≥ 0) && decide (ps[i].1 ≤ wr (w.1.1 - 1))) <;> rfl
   ·simp only [h60, decide_false, cond_false]
    cases decide (((msgBytes w.1 ps[i].2).length : Int) > 0) <;> cases (decide (ps[i].1 ≥ 0) && decide (ps[i].1 ≤ wr (w.1.1 - 1))) <;> rfl
  ·intro rec s
   simp only [Int.lt_irrefl, decide_false, cond_false]

theorem law_Send (w : TWorld) (ps : TPostS) (hb : bWorld w) (hb2 : bPostS ps) : laws_FnExactSend (w, ps, ()) = some (true, ()) := by
 unfold laws_FnExactSend
 simp only [szWorld_eq w 1048576 (by decide) (by decide) hb, Option.bind_some]
 by_cases k : sub 1048576 (wWorld w) < 0
 ·simp only [k, decide_true, cond_true]
 have g := (sub_nonneg k).1
 have g0 := (sub_nonneg k).2
 simp only [k, decide_false, cond_false, szPostS_eq ps _ (show 0 ≤ sub 1048576 (wWorld w) by omega) (show sub 1048576 (wWorld w) ≤ 1048576 by omega) hb2, Option.bind_some]
 by_cases k2 : sub (sub 1048576 (wWorld w)) (wPostS ps) < 0
 ·simp only [k2, decide_true, cond_true]
 have g3 := (sub_nonneg k2).1
 have w1 := send_w w ps
 have hd := dWorld_le w
 have hd2 := dPostS_le ps
 have hd1 := dWorld_le (send w ps)
 simp only [k2, decide_false, cond_false, toWorld_eq w (by omega), toPostS_eq ps (by omega), Option.bind_some, spec_Send_eq w ps (by omega) (by omega), impl_Send_eq w ps (by omega) (by omega), eqWorld_self w (by omega), eqPostS_self ps (by omega), eqWorld_self (send w ps) (by omega), Bool.not_true, bne_self_eq_false,
  markWorld_eq' w 1 (by decide) (by omega), markPostS_eq' ps (1 + (dWorld w : Nat)) (by omega) (by omega), show decide (1 + (dWorld w : Int) + (dPostS ps : Nat) < 0) = false by simp; omega,
  markWorld_eq' (send w ps) 1 (by decide) (by omega), heldWorld_eq' (send w ps) _ _ 1 (by decide) (by omega), neg_no (n := dWorld (send w ps)) (show (0 : Int) ≤ 1 by decide)]

end G448
