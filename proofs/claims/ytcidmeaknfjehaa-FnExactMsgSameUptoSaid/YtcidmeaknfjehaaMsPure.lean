/- The plain functions of FnExactMsgSame answer true wherever nothing is longer than 2^47. Conditions: the lengths. -/
import Derived.Test.YtcidmeaknfjehaaSmPure
set_option linter.unusedSimpArgs false
set_option linter.unusedVariables false

namespace G448
open Ev
set_option linter.unusedVariables false

abbrev TQc := Int × List UInt8 × List Int
abbrev TBlock := List UInt8 × TQc
abbrev TTx := Int × Int × Int × Int
abbrev TMsg := Int × Int × TBlock × TQc × TQc × Int × TTx

theorem lt_sub {left : Int} {n : Nat} (h : sub left n < 0) : left - (n : Int) < 0 := by have := (sub_neg h).2; omega
theorem nlt_sub {left : Int} {n : Nat} (h : ¬ sub left n < 0) : ¬ left - (n : Int) < 0 ∧ left - (n : Int) = sub left n := by have := sub_nonneg h; omega

theorem szIntS_eq (l : List Int) (left : Int) (h0 : 0 ≤ left) (h1 : left ≤ 1048576) (hl : l.length ≤ big) : laws_szIntS (l, left, ()) = some (sub left l.length, ()) := by
  unfold laws_szIntS
  exact sz_one h0 h1 hl

def wQc (q : TQc) : Nat := q.2.1.length + q.2.2.length
def QcB (q : TQc) : Prop := q.2.1.length ≤ big ∧ q.2.2.length ≤ big

theorem szQc_eq (q : TQc) (left : Int) (h0 : 0 ≤ left) (h1 : left ≤ 1048576) (hb : QcB q) : laws_szQc (q, left, ()) = some (sub left (wQc q), ()) := by
  unfold laws_szQc
  simp only [wr_sub h0 h1 hb.1]
  by_cases h : sub left q.2.1.length < 0
  · simp only [lt_sub h, h, decide_true, cond_true, wQc, sub_more h]
  · simp only [(nlt_sub h).2, h, decide_false, cond_false, szIntS_eq q.2.2 (sub left q.2.1.length) (by omega) (sub_le h1) hb.2, Option.bind_some, sub_add h, wQc]
    exact sz_end

theorem szPart_eq (q : TQc) (left : Int) (h0 : 0 ≤ left) (h1 : left ≤ 1048576) (hb : QcB q) : laws_szPart (q, left, ()) = some (sub left (wQc q), ()) := by
  unfold laws_szPart
  simp only [wr_sub h0 h1 hb.1]
  by_cases h : sub left q.2.1.length < 0
  · simp only [lt_sub h, h, decide_true, cond_true, wQc, sub_more h]
  · simp only [(nlt_sub h).2, h, decide_false, cond_false, szIntS_eq q.2.2 (sub left q.2.1.length) (by omega) (sub_le h1) hb.2, Option.bind_some, sub_add h, wQc]
    exact sz_end

def wBlock (b : TBlock) : Nat := b.1.length + wQc b.2

theorem szBlock_eq (b : TBlock) (left : Int) (h0 : 0 ≤ left) (h1 : left ≤ 1048576) (hb1 : b.1.length ≤ big) (hb2 : QcB b.2) : laws_szBlock (b, left, ()) = some (sub left (wBlock b), ()) := by
  unfold laws_szBlock
  simp only [wr_sub h0 h1 hb1]
  by_cases h : sub left b.1.length < 0
  · simp only [lt_sub h, h, decide_true, cond_true, wBlock, sub_more h]
  · simp only [(nlt_sub h).2, h, decide_false, cond_false, szQc_eq b.2 (sub left b.1.length) (by omega) (sub_le h1) hb2, Option.bind_some, sub_add h, wBlock]
    exact sz_end

def wMsg (m : TMsg) : Nat := wBlock m.2.2.1 + wQc m.2.2.2.1 + wQc m.2.2.2.2.1
def MsgB (m : TMsg) : Prop := m.2.2.1.1.length ≤ big ∧ QcB m.2.2.1.2 ∧ QcB m.2.2.2.1 ∧ QcB m.2.2.2.2.1

theorem szMsg_eq (m : TMsg) (left : Int) (h0 : 0 ≤ left) (h1 : left ≤ 1048576) (hb : MsgB m) : laws_szMsg (m, left, ()) = some (sub left (wMsg m), ()) := by
  obtain ⟨b1, b2, b3, b4⟩ := hb
  unfold laws_szMsg
  simp only [szBlock_eq m.2.2.1 left h0 h1 b1 b2, Option.bind_some]
  by_cases h : sub left (wBlock m.2.2.1) < 0
  · simp only [h, decide_true, cond_true, wMsg, Nat.add_assoc, sub_more h]
  · simp only [h, decide_false, cond_false, szPart_eq m.2.2.2.1 (sub left (wBlock m.2.2.1)) (by omega) (sub_le h1) b3, Option.bind_some, sub_add h]
    by_cases h2 : sub left (wBlock m.2.2.1 + wQc m.2.2.2.1) < 0
    · simp only [h2, decide_true, cond_true, wMsg, sub_more h2]
    · simp only [h2, decide_false, cond_false, szQc_eq m.2.2.2.2.1 (sub left (wBlock m.2.2.1 + wQc m.2.2.2.1)) (by omega) (sub_le h1) b4, Option.bind_some, sub_add h2, wMsg]
      exact sz_end

theorem toQc_eq (q : TQc) (h : q.2.2.length ≤ 8796093022208) : laws_toQc (q, ()) = some (q, ()) := by
  unfold laws_toQc
  simp only [toIntS_eq q.2.2 h, Option.bind_some]

theorem toPart_eq (q : TQc) (h : q.2.2.length ≤ 8796093022208) : laws_toPart (q, ()) = some (q, ()) := by
  unfold laws_toPart
  simp only [toIntS_eq q.2.2 h, Option.bind_some]

theorem toBlock_eq (b : TBlock) (h : b.2.2.2.length ≤ 8796093022208) : laws_toBlock (b, ()) = some (b, ()) := by
  unfold laws_toBlock
  simp only [toQc_eq b.2 h, Option.bind_some]

theorem toTx_eq (x : TTx) : laws_toTx (x, ()) = some (x, ()) := rfl

/-- The rows that a message holds are short. -/
def MsgW (m : TMsg) : Prop := m.2.2.1.2.2.2.length ≤ 8796093022208 ∧ m.2.2.2.1.2.2.length ≤ 8796093022208 ∧ m.2.2.2.2.1.2.2.length ≤ 8796093022208

theorem MsgW.of {m : TMsg} (h : (wMsg m : Int) ≤ 1048576) : MsgW m := by
  unfold wMsg wBlock wQc at h
  unfold MsgW
  omega

theorem toMsg_eq (m : TMsg) (h : MsgW m) : laws_toMsg (m, ()) = some (m, ()) := by
  unfold laws_toMsg
  simp only [toBlock_eq m.2.2.1 h.1, toPart_eq m.2.2.2.1 h.2.1, toQc_eq m.2.2.2.2.1 h.2.2, toTx_eq, Option.bind_some]

theorem eqQc_self (q : TQc) (h : q.2.2.length ≤ 8796093022208) : laws_eqQc (q, q, ()) = some (true, ()) := by
  unfold laws_eqQc
  simp only [bne_self_eq_false, cond_false, eqIntS_self q.2.2 (by omega), Option.bind_some, Bool.not_true]

theorem eqPart_self (q : TQc) (h : q.2.2.length ≤ 8796093022208) : laws_eqPart (q, q, ()) = some (true, ()) := by
  unfold laws_eqPart
  simp only [bne_self_eq_false, cond_false, eqIntS_self q.2.2 (by omega), Option.bind_some, Bool.not_true]

theorem eqBlock_self (b : TBlock) (h : b.2.2.2.length ≤ 8796093022208) : laws_eqBlock (b, b, ()) = some (true, ()) := by
  unfold laws_eqBlock
  simp only [bne_self_eq_false, cond_false, eqQc_self b.2 h, Option.bind_some, Bool.not_true]

theorem eqTx_self (x : TTx) : laws_eqTx (x, x, ()) = some (true, ()) := by
  unfold laws_eqTx
  simp only [bne_self_eq_false, cond_false]

theorem eqMsg_self (m : TMsg) (h : MsgW m) : laws_eqMsg (m, m, ()) = some (true, ()) := by
  unfold laws_eqMsg
  simp only [bne_self_eq_false, cond_false, eqBlock_self m.2.2.1 h.1, eqPart_self m.2.2.2.1 h.2.1, eqQc_self m.2.2.2.2.1 h.2.2, eqTx_self, Option.bind_some, Bool.not_true]

/-- A loop that holds two lists against each other, from the front. -/
theorem cmp_loop {R : Type} (l m : List Int) {G : (Int × Unit → Option R) → Int × Unit → Option R} (yes no : R) (hl : l.length ≤ 1152921504606846976)
    (hend : ∀ rec (i : Nat) s, i ≤ l.length → i ≤ m.length → (i = l.length ∨ i = m.length) → G rec ((i : Int), s) = some (if l.length = m.length then yes else no))
    (hstep : ∀ rec (i : Nat) s x y, l[i]? = some x → m[i]? = some y → i < l.length → i < m.length → G rec ((i : Int), s) = bif x != y then some no else rec ((i : Int) + 1, s)) :
    iter G fuel (0, ()) = some (if l = m then yes else no) := by
  have key : ∀ n i, i ≤ l.length → i ≤ m.length → l.length - i < n → iter G n ((i : Int), ()) = some (if l.drop i = m.drop i then yes else no) := by
    intro n
    induction n with
    | zero => intro i h1 h2 h3; omega
    | succ n ih =>
      intro i hi hi2 hn
      by_cases he : i = l.length ∨ i = m.length
      · have e1 : iter G (n + 1) ((i : Int), ()) = some (if l.length = m.length then yes else no) := hend (iter G n) i () hi hi2 he
        have e2 : (l.drop i = m.drop i) = (l.length = m.length) := by
          apply propext
          constructor
          · intro e
            have := congrArg List.length e
            simp only [List.length_drop] at this
            omega
          · intro e
            rw [List.drop_of_length_le (by omega), List.drop_of_length_le (by omega)]
        simp only [e1, e2]
      · have h : i < l.length := by omega
        have hm : i < m.length := by omega
        have e1 : iter G (n + 1) ((i : Int), ()) = bif l[i] != m[i] then some no else iter G n ((i : Int) + 1, ()) := hstep (iter G n) i () l[i] m[i] (List.getElem?_eq_getElem h) (List.getElem?_eq_getElem hm) h hm
        rw [e1, List.drop_eq_getElem_cons h, List.drop_eq_getElem_cons hm]
        by_cases he : l[i] = m[i]
        · rw [he]
          simp only [bne_self_eq_false, cond_false, List.cons.injEq, true_and]
          exact ih (i + 1) h hm (by omega)
        · have : (l[i] != m[i]) = true := by simpa using he
          rw [this, cond_true, if_neg (fun e => he (List.cons.inj e).1)]
  have := key fuel 0 (Nat.zero_le _) (Nat.zero_le _) (by simpa using fuel_gt hl)
  simpa only [List.drop_zero, Int.natCast_zero] using this

theorem Equal_int_eq (l m : List Int) (hl : l.length ≤ 1152921504606846976) : slices_Equal_int (l, m, ()) = some (decide (l = m), ()) := by
  unfold slices_Equal_int
  by_cases hlm : l.length = m.length
  · simp only [hlm, bne_self_eq_false, cond_false]
    rw [← hlm]
    refine (cmp_loop l m (true, ()) (false, ()) hl ?_ ?_).trans (by by_cases h : l = m <;> simp [h])
    · intro rec i s h1 h2 h3
      have hnl : ¬ (i : Int) < (l.length : Int) := by omega
      simp only [hlm] at hnl ⊢
      simp [hnl]
    · intro rec i s x y hx hy hi hm
      simp only [Int.toNat_natCast, (ge_ok hi).1, (ge_ok hi).2, (ge_ok hm).2, decide_true, cond_true, if_true, and_self, rd, List.getD_eq_getElem?_getD, hx, hy, Option.getD_some, wr_nat (show i < 4611686018427387904 by omega)]
  · have h1 : (((l.length : Nat) : Int) != ((m.length : Nat) : Int)) = true := bne_iff_ne.2 (by omega)
    have h2 : ¬ l = m := fun h => hlm (by rw [h])
    simp [h1, h2]

theorem l7Ints_eq (l m : List Int) (hl : l.length ≤ 1152921504606846976) : spec_l7Ints (l, m, ()) = some (decide (l = m), ()) := by
  unfold spec_l7Ints
  refine (cmp_loop l m (true, ()) (false, ()) hl ?_ ?_).trans (by by_cases h : l = m <;> simp [h])
  · intro rec i s h1 h2 h3
    rcases Nat.lt_or_ge i l.length with h | h
    · have hm : i = m.length := by omega
      have hnm : ¬ (i : Int) < (m.length : Int) := by omega
      have hbe : (((l.length : Nat) : Int) == ((m.length : Nat) : Int)) = false := by simp; omega
      have hne : ¬ l.length = m.length := by omega
      simp only [ge_ok h, hnm, decide_true, decide_false, cond_true, cond_false, hbe, if_neg hne]
    · have hnl : ¬ (i : Int) < (l.length : Int) := by omega
      simp only [hnl, decide_false, cond_false]
      by_cases e : l.length = m.length
      · simp [e]
      · have hbe : (((l.length : Nat) : Int) == ((m.length : Nat) : Int)) = false := by simp; omega
        simp only [hbe, if_neg e]
  · intro rec i s x y hx hy hi hm
    simp only [Int.toNat_natCast, (ge_ok hi).1, (ge_ok hi).2, (ge_ok hm).2, decide_true, cond_true, if_true, and_self, rd, List.getD_eq_getElem?_getD, hx, hy, Option.getD_some, wr_nat (show i < 4611686018427387904 by omega)]

def qcSame (a b : TQc) : Bool := a.1 == b.1 && (a.2.1 == b.2.1 && decide (a.2.2 = b.2.2))

theorem spec_QcSame_eq (a b : TQc) (h : a.2.2.length ≤ 8796093022208) : spec_QcSame (a, b, ()) = some (qcSame a b, ()) := by
  unfold spec_QcSame qcSame
  simp only [l7Ints_eq a.2.2 b.2.2 (by omega), Option.bind_some]
  cases a.1 == b.1 <;> cases a.2.1 == b.2.1 <;> simp

theorem impl_QcSame_eq (a b : TQc) (h : a.2.2.length ≤ 8796093022208) : impl_QcSame (a, b, ()) = some (qcSame a b, ()) := by
  unfold impl_QcSame qcSame
  simp only [Equal_int_eq a.2.2 b.2.2 (by omega), Option.bind_some]
  cases a.1 == b.1 <;> cases a.2.1 == b.2.1 <;> simp

theorem spec_l14Part_eq (a b : TQc) (h : a.2.2.length ≤ 8796093022208) : spec_l14Part (a, b, ()) = some (qcSame a b, ()) := by
  unfold spec_l14Part qcSame
  simp only [l7Ints_eq a.2.2 b.2.2 (by omega), Option.bind_some]
  cases a.1 == b.1 <;> cases a.2.1 == b.2.1 <;> simp

theorem impl_partSame_eq (a b : TQc) (h : a.2.2.length ≤ 8796093022208) : impl_partSame (a, b, ()) = some (qcSame a b, ()) := by
  unfold impl_partSame qcSame
  simp only [Equal_int_eq a.2.2 b.2.2 (by omega), Option.bind_some]
  cases a.1 == b.1 <;> cases a.2.1 == b.2.1 <;> simp

def blockSame (a b : TBlock) : Bool := a.1 == b.1 && qcSame a.2 b.2

theorem spec_BlockSame_eq (a b : TBlock) (h : a.2.2.2.length ≤ 8796093022208) : spec_BlockSame (a, b, ()) = some (blockSame a b, ()) := by
  unfold spec_BlockSame blockSame
  simp only [spec_QcSame_eq a.2 b.2 h, Option.bind_some]
  cases a.1 == b.1 <;> simp

theorem impl_BlockSame_eq (a b : TBlock) (h : a.2.2.2.length ≤ 8796093022208) : impl_BlockSame (a, b, ()) = some (blockSame a b, ()) := by
  unfold impl_BlockSame blockSame
  simp only [impl_QcSame_eq a.2 b.2 h, Option.bind_some]
  cases a.1 == b.1 <;> simp

def txSame (a b : TTx) : Bool := a.1 == b.1 && (a.2.1 == b.2.1 && (a.2.2.1 == b.2.2.1 && (a.2.2.2 == b.2.2.2 && true)))

def msgSame (a b : TMsg) : Bool :=
  a.1 == b.1 && (a.2.1 == b.2.1 && (blockSame a.2.2.1 b.2.2.1 && (qcSame a.2.2.2.1 b.2.2.2.1 && (qcSame a.2.2.2.2.1 b.2.2.2.2.1 && (a.2.2.2.2.2.1 == b.2.2.2.2.2.1 && txSame a.2.2.2.2.2.2 b.2.2.2.2.2.2)))))

theorem spec_MsgSame_eq (a b : TMsg) (h : MsgW a) : spec_MsgSame (a, b, ()) = some (msgSame a b, ()) := by
  unfold spec_MsgSame msgSame txSame
  simp only [spec_BlockSame_eq a.2.2.1 b.2.2.1 h.1, spec_l14Part_eq a.2.2.2.1 b.2.2.2.1 h.2.1, spec_QcSame_eq a.2.2.2.2.1 b.2.2.2.2.1 h.2.2, Option.bind_some]
  cases a.1 == b.1 <;> cases a.2.1 == b.2.1 <;> cases blockSame a.2.2.1 b.2.2.1 <;> cases qcSame a.2.2.2.1 b.2.2.2.1 <;> cases qcSame a.2.2.2.2.1 b.2.2.2.2.1 <;> cases a.2.2.2.2.2.1 == b.2.2.2.2.2.1 <;> rfl

theorem impl_MsgSame_eq (a b : TMsg) (h : MsgW a) : impl_MsgSame (a, b, ()) = some (msgSame a b, ()) := by
  unfold impl_MsgSame msgSame txSame
  simp only [impl_BlockSame_eq a.2.2.1 b.2.2.1 h.1, impl_partSame_eq a.2.2.2.1 b.2.2.2.1 h.2.1, impl_QcSame_eq a.2.2.2.2.1 b.2.2.2.2.1 h.2.2, Option.bind_some]
  cases a.1 == b.1 <;> cases a.2.1 == b.2.1 <;> cases blockSame a.2.2.1 b.2.2.1 <;> cases qcSame a.2.2.2.1 b.2.2.2.1 <;> cases qcSame a.2.2.2.2.1 b.2.2.2.2.1 <;> cases a.2.2.2.2.2.1 == b.2.2.2.2.2.1 <;> rfl

theorem law_MsgSame (a b : TMsg) (ha : MsgB a) (hb : MsgB b) : laws_FnExactMsgSame (a, b, ()) = some (true, ()) := by
  unfold laws_FnExactMsgSame
  simp only [szMsg_eq a 1048576 (by decide) (by decide) ha, Option.bind_some]
  by_cases h1 : sub 1048576 (wMsg a) < 0
  · simp only [h1, decide_true, cond_true]
  have g1 := sub_nonneg h1
  have wa := MsgW.of g1.1
  simp only [h1, decide_false, cond_false, szMsg_eq b (sub 1048576 (wMsg a)) (by omega) (sub_le (by decide)) hb, Option.bind_some]
  by_cases h2 : sub (sub 1048576 (wMsg a)) (wMsg b) < 0
  · simp only [h2, decide_true, cond_true]
  have g2 := sub_nonneg h2
  have wb : MsgW b := MsgW.of (by omega)
  simp only [h2, decide_false, cond_false, toMsg_eq a wa, toMsg_eq b wb, Option.bind_some, spec_MsgSame_eq a b wa, impl_MsgSame_eq a b wa, bne_self_eq_false, eqMsg_self a wa, eqMsg_self b wb, Bool.not_true]

theorem MsgB.of {m : TMsg} (h : Bnd (.pair .i64 (.pair .i64 (.pair (.pair .str (.pair .i64 (.pair .str (.sl 3 .i64)))) (.pair (.pair .i64 (.pair .str (.sl 3 .i64))) (.pair (.pair .i64 (.pair .str (.sl 3 .i64))) (.pair .i64 (.pair .i64 (.pair .i64 (.pair .i64 .i64)))))))) ) m) : MsgB m :=
  ⟨h.2.2.1.1, ⟨h.2.2.1.2.2.1, h.2.2.1.2.2.2.1⟩, ⟨h.2.2.2.1.2.1, h.2.2.2.1.2.2.1⟩, ⟨h.2.2.2.2.1.2.1, h.2.2.2.2.1.2.2.1⟩⟩

end G448
