/- The plain functions answer as the law says, wherever nothing is longer than 2^47. Conditions: the lengths. -/
import Derived.Test.YtcidmeaknfjehaaSmFns
set_option linter.unusedSimpArgs false
set_option linter.unusedVariables false

namespace G448
open Ev
set_option linter.unusedVariables false

theorem toIntS_eq (l : List Int) (h : l.length ≤ 8796093022208) : laws_toIntS (l, ()) = some (l, ()) := by
  unfold laws_toIntS
  have h1 : (0 : Int) ≤ (l.length : Int) ∧ (Int.toNat (l.length : Int)) * 8 ≤ 70368744177664 := by
    rw [Int.toNat_natCast]; omega
  simp only [if_true]
  rw [if_pos h1]
  refine (fill_loop l (fun x => x) (fun out => some (out, ())) (by omega) ?_ ?_ _ (by simp)).trans (by simp)
  · intro rec out ho; simp
  · intro rec i out x hx hi ho
    simp only [Int.toNat_natCast, ho, ge_ok hi, decide_true, cond_true, if_true, and_self, rd, List.getD_eq_getElem?_getD, hx, Option.getD_some, wr_nat (show i < 4611686018427387904 by omega)]

abbrev TSaid := Int × List UInt8 × Int

theorem toSaidS_eq (l : List TSaid) (h : l.length ≤ 2199023255552) : laws_toSaidS (l, ()) = some (l, ()) := by
  unfold laws_toSaidS
  have h1 : (0 : Int) ≤ (l.length : Int) ∧ (Int.toNat (l.length : Int)) * 32 ≤ 70368744177664 := by
    rw [Int.toNat_natCast]; omega
  simp only [if_true]
  rw [if_pos h1]
  refine (fill_loop l (fun x => x) (fun out => some (out, ())) (by omega) ?_ ?_ _ (by simp)).trans (by simp)
  · intro rec out ho; simp
  · intro rec i out x hx hi ho
    simp only [laws_toSaid, Option.bind_some, Int.toNat_natCast, ho, ge_ok hi, decide_true, cond_true, if_true, and_self, rd, List.getD_eq_getElem?_getD, hx, Option.getD_some, wr_nat (show i < 4611686018427387904 by omega)]

theorem spec_SetHas_eq (l : List Int) (v : Int) (h : l.length ≤ 1152921504606846976) : spec_SetHas (l, v, ()) = some (l.any (· == v), ()) := by
  unfold spec_SetHas
  refine (forK l (fun x s rec => bif x == v then some (true, ()) else rec s) (fun s => some (false, ())) (fun i s => (i, s)) h ?_ ?_ ?_ ()).trans (foldK_any _ _)
  · intro rec s; simp
  · intro rec i s x hx hi
    simp only [Int.toNat_natCast, ge_ok hi, decide_true, cond_true, if_true, and_self, rd, List.getD_eq_getElem?_getD, hx, Option.getD_some, wr_nat (show i < 4611686018427387904 by omega)]
  · intro x s r1 r2 hr; simp [hr]

theorem spec_l18Has_eq (l : List TSaid) (view : Int) (name : List UInt8) (who : Int) (h : l.length ≤ 1152921504606846976) :
    spec_l18Has (l, view, name, who, ()) = some (l.any (fun x => x.1 == view && (x.2.1 == name && x.2.2 == who)), ()) := by
  unfold spec_l18Has
  refine (forK l (fun x s rec => bif (x.1 == view && (x.2.1 == name && x.2.2 == who)) then some (true, ()) else rec s) (fun s => some (false, ())) (fun i s => (i, s)) h ?_ ?_ ?_ ()).trans (foldK_any _ _)
  · intro rec s; simp
  · intro rec i s x hx hi
    simp only [Int.toNat_natCast, ge_ok hi, decide_true, cond_true, if_true, and_self, rd, List.getD_eq_getElem?_getD, hx, Option.getD_some, wr_nat (show i < 4611686018427387904 by omega)]
    cases x.1 == view <;> cases x.2.1 == name <;> cases x.2.2 == who <;> rfl
  · intro x s r1 r2 hr; simp [hr]

/-- slices.Index. -/
theorem index_loop {α : Type} (p : α → Bool) (l : List α) {G : (Int × Unit → Option (Int × Unit)) → Int × Unit → Option (Int × Unit)} (hl : l.length ≤ 1152921504606846976)
    (hend : ∀ rec s, G rec ((l.length : Int), s) = some (-1, ()))
    (hstep : ∀ rec (i : Nat) s x, l[i]? = some x → i < l.length → G rec ((i : Int), s) = bif p x then some ((i : Int), ()) else rec ((i : Int) + 1, s)) :
    ∃ r : Int, iter G fuel (0, ()) = some (r, ()) ∧ decide (r ≥ 0) = l.any p := by
  have key : ∀ n i, i ≤ l.length → l.length - i < n → ∃ r : Int, iter G n ((i : Int), ()) = some (r, ()) ∧ decide (r ≥ 0) = (l.drop i).any p := by
    intro n
    induction n with
    | zero => intro i h1 h2; omega
    | succ n ih =>
      intro i hi hn
      rcases Nat.lt_or_ge i l.length with h | h
      · have e1 : iter G (n + 1) ((i : Int), ()) = bif p l[i] then some ((i : Int), ()) else iter G n ((i : Int) + 1, ()) := hstep (iter G n) i () l[i] (List.getElem?_eq_getElem h) h
        rw [List.drop_eq_getElem_cons h, List.any_cons, e1]
        cases hp : p l[i] with
        | true => exact ⟨i, rfl, by simp⟩
        | false =>
          obtain ⟨r, h1, h2⟩ := ih (i + 1) h (by omega)
          exact ⟨r, h1, by simpa using h2⟩
      · have hi' : i = l.length := by omega
        subst hi'
        exact ⟨-1, hend (iter G n) (), by simp⟩
  simpa using key fuel 0 (Nat.zero_le _) (by simpa using fuel_gt hl)

theorem index_bind {α : Type} (p : α → Bool) (l : List α) {G : (Int × Unit → Option (Int × Unit)) → Int × Unit → Option (Int × Unit)} (hl : l.length ≤ 1152921504606846976)
    (hend : ∀ rec s, G rec ((l.length : Int), s) = some (-1, ()))
    (hstep : ∀ rec (i : Nat) s x, l[i]? = some x → i < l.length → G rec ((i : Int), s) = bif p x then some ((i : Int), ()) else rec ((i : Int) + 1, s)) :
    ((iter G fuel (0, ())).bind fun r => some (decide (r.1 ≥ 0), ())) = some (l.any p, ()) := by
  obtain ⟨r, h1, h2⟩ := index_loop p l hl hend hstep
  rw [h1, Option.bind_some, ← h2]

theorem Contains_int_eq (l : List Int) (v : Int) (h : l.length ≤ 1152921504606846976) : slices_Contains_int (l, v, ()) = some (l.any (v == ·), ()) := by
  unfold slices_Contains_int slices_Index_int
  refine index_bind (v == ·) l h ?_ ?_
  · intro rec s; simp
  · intro rec i s x hx hi
    simp only [Int.toNat_natCast, ge_ok hi, decide_true, cond_true, if_true, and_self, rd, List.getD_eq_getElem?_getD, hx, Option.getD_some, wr_nat (show i < 4611686018427387904 by omega)]

theorem impl_SetHas_eq (l : List Int) (v : Int) (h : l.length ≤ 1152921504606846976) : impl_SetHas (l, v, ()) = some (l.any (· == v), ()) := by
  unfold impl_SetHas
  simp only [Contains_int_eq l v h, Option.bind_some]
  congr 2
  apply congrArg (fun f => l.any f)
  funext x
  exact Bool.beq_comm

theorem Contains_Said_eq (l : List TSaid) (v : TSaid) (h : l.length ≤ 1152921504606846976) : slices_Contains_impl_Said (l, v, ()) = some (l.any (fun x => x.1 == v.1 && (x.2.1 == v.2.1 && x.2.2 == v.2.2)), ()) := by
  unfold slices_Contains_impl_Said slices_Index_impl_Said
  refine index_bind _ l h ?_ ?_
  · intro rec s; simp
  · intro rec i s x hx hi
    simp only [Int.toNat_natCast, ge_ok hi, decide_true, cond_true, if_true, and_self, rd, List.getD_eq_getElem?_getD, hx, Option.getD_some, wr_nat (show i < 4611686018427387904 by omega), Bool.and_true]
    rw [Bool.beq_comm (a := v.1), Bool.beq_comm (a := v.2.1), Bool.beq_comm (a := v.2.2)]

/-- Signed. -/
def signed (liars : List Int) (list : List TSaid) (view : Int) (name : List UInt8) (who : List Int) : Bool :=
  who.all fun i => liars.any (· == i) || list.any (fun x => x.1 == view && (x.2.1 == name && x.2.2 == i))

theorem spec_Signed_eq (liars : List Int) (list : List TSaid) (view : Int) (name : List UInt8) (who : List Int) (h1 : liars.length ≤ 1152921504606846976) (h2 : list.length ≤ 1152921504606846976) (h3 : who.length ≤ 1152921504606846976) :
    spec_Signed (liars, list, view, name, who, ()) = some (signed liars list view name who, ()) := by
  unfold spec_Signed
  refine (forK who (fun x s rec => bif (liars.any (· == x) || list.any (fun y => y.1 == view && (y.2.1 == name && y.2.2 == x))) then rec s else some (false, ())) (fun s => some (true, ())) (fun i s => (i, s)) h3 ?_ ?_ ?_ ()).trans (foldK_all _ _)
  · intro rec s; simp
  · intro rec i s x hx hi
    simp only [Int.toNat_natCast, ge_ok hi, decide_true, cond_true, if_true, and_self, rd, List.getD_eq_getElem?_getD, hx, Option.getD_some, wr_nat (show i < 4611686018427387904 by omega), spec_SetHas_eq liars x h1, spec_l18Has_eq list view name x h2, Option.bind_some]
    cases liars.any (· == x) <;> cases list.any (fun y => y.1 == view && (y.2.1 == name && y.2.2 == x)) <;> rfl
  · intro x s r1 r2 hr; simp [hr]

theorem impl_Signed_eq (liars : List Int) (list : List TSaid) (view : Int) (name : List UInt8) (who : List Int) (h1 : liars.length ≤ 1152921504606846976) (h2 : list.length ≤ 1152921504606846976) (h3 : who.length ≤ 1152921504606846976) :
    impl_Signed (liars, list, view, name, who, ()) = some (signed liars list view name who, ()) := by
  unfold impl_Signed
  refine (forK who (fun x s rec => bif (liars.any (· == x) || list.any (fun y => y.1 == view && (y.2.1 == name && y.2.2 == x))) then rec s else some (false, ())) (fun s => some (true, ())) (fun i s => (i, s)) h3 ?_ ?_ ?_ ()).trans (foldK_all _ _)
  · intro rec s; simp
  · intro rec i s x hx hi
    simp only [Int.toNat_natCast, ge_ok hi, decide_true, cond_true, if_true, and_self, rd, List.getD_eq_getElem?_getD, hx, Option.getD_some, wr_nat (show i < 4611686018427387904 by omega), impl_SetHas_eq liars x h1, Contains_Said_eq list (view, name, x) h2, Option.bind_some]
    cases liars.any (· == x) <;> cases list.any (fun y => y.1 == view && (y.2.1 == name && y.2.2 == x)) <;> rfl
  · intro x s r1 r2 hr; simp [hr]

end G448

namespace G448
open Ev
set_option linter.unusedVariables false

def big : Nat := 140737488355328

theorem szSaid_eq (s : TSaid) (left : Int) (h0 : 0 ≤ left) (h1 : left ≤ 1048576) (hs : s.2.1.length ≤ big) : laws_szSaid (s, left, ()) = some (sub left s.2.1.length, ()) := by
  unfold laws_szSaid
  exact sz_one h0 h1 hs

def wSaidS (l : List TSaid) : Nat := l.length + (l.map fun s => s.2.1.length).sum

theorem szSaidS_eq (l : List TSaid) (left : Int) (h0 : 0 ≤ left) (h1 : left ≤ 1048576) (hl : l.length ≤ big) (hs : ∀ s ∈ l, s.2.1.length ≤ big) : laws_szSaidS (l, left, ()) = some (sub left (wSaidS l), ()) := by
  unfold laws_szSaidS
  simp only [wr_sub h0 h1 hl]
  by_cases hneg : sub left l.length < 0
  · have : left - (l.length : Int) < 0 := by have := (sub_neg hneg).2; omega
    simp only [this, decide_true, cond_true]
    rw [wSaidS, sub_more hneg]
  · obtain ⟨g1, g2⟩ := sub_nonneg hneg
    have : ¬ left - (l.length : Int) < 0 := by omega
    simp only [this, decide_false, cond_false]
    rw [← g2]
    refine (forK l (fun x s rec => (laws_szSaid (x, s, ())).bind fun r => bif decide (r.1 < 0) then some (-1, ()) else rec r.1) (fun s => some (s, ())) (fun i s => (s, (i, ()))) (by unfold big at hl; omega) ?_ ?_ ?_ (sub left l.length)).trans ?_
    · intro rec s; simp
    · intro rec i s x hx hi
      simp only [Int.toNat_natCast, ge_ok hi, decide_true, cond_true, if_true, and_self, rd, List.getD_eq_getElem?_getD, hx, Option.getD_some, wr_nat (show i < 4611686018427387904 by unfold big at hl; omega)]
    · intro x s r1 r2 hr; simp [hr]
    · rw [sz_loop (fun s => s.2.1.length) (fun x s => laws_szSaid (x, s, ())) l _ (by omega) (sub_le h1) (fun x hx z hz0 hz1 => szSaid_eq x z hz0 hz1 (hs x hx)), sub_add hneg]
      rfl

/-- Loops that hold two lists against each other, at equal lists. -/
theorem eq_loop {α R : Type} (l : List α) {G : (Int × Unit → Option R) → Int × Unit → Option R} (b : R) (hl : l.length ≤ 1152921504606846976)
    (hend : ∀ rec s, G rec ((l.length : Int), s) = some b)
    (hstep : ∀ rec (i : Nat) s x, l[i]? = some x → i < l.length → G rec ((i : Int), s) = rec ((i : Int) + 1, s)) : iter G fuel (0, ()) = some b := by
  refine (forK l (fun x s rec => rec s) (fun s => some b) (fun i s => (i, s)) hl hend hstep (fun x s r1 r2 hr => hr s) ()).trans ?_
  clear hend hstep hl
  induction l with
  | nil => rfl
  | cons x xs ih => rw [foldK_cons, ih]

theorem eqIntS_self (l : List Int) (h : l.length ≤ 1152921504606846976) : laws_eqIntS (l, l, ()) = some (true, ()) := by
  unfold laws_eqIntS
  simp only [bne_self_eq_false, cond_false]
  refine eq_loop l (true, ()) h ?_ ?_
  · intro rec s; simp
  · intro rec i s x hx hi
    simp only [Int.toNat_natCast, ge_ok hi, decide_true, cond_true, if_true, and_self, rd, List.getD_eq_getElem?_getD, hx, Option.getD_some, wr_nat (show i < 4611686018427387904 by omega), bne_self_eq_false, cond_false]

theorem eqSaid_self (s : TSaid) : laws_eqSaid (s, s, ()) = some (true, ()) := by
  unfold laws_eqSaid
  simp

theorem eqSaidS_self (l : List TSaid) (h : l.length ≤ 1152921504606846976) : laws_eqSaidS (l, l, ()) = some (true, ()) := by
  unfold laws_eqSaidS
  simp only [bne_self_eq_false, cond_false]
  refine eq_loop l (true, ()) h ?_ ?_
  · intro rec s; simp
  · intro rec i s x hx hi
    simp only [Int.toNat_natCast, ge_ok hi, decide_true, cond_true, if_true, and_self, rd, List.getD_eq_getElem?_getD, hx, Option.getD_some, wr_nat (show i < 4611686018427387904 by omega), eqSaid_self, Option.bind_some, Bool.not_true, cond_false]

theorem law_Signed (liars : List Int) (list : List TSaid) (view : Int) (name : List UInt8) (who : List Int) (h1 : liars.length ≤ big) (h2 : list.length ≤ big) (h3 : ∀ s ∈ list, s.2.1.length ≤ big) (h4 : name.length ≤ big) (h5 : who.length ≤ big) :
    laws_FnExactSigned (liars, list, view, name, who, ()) = some (true, ()) := by
  unfold laws_FnExactSigned
  simp only [szSaidS_eq list 1048576 (by decide) (by decide) h2 h3, Option.bind_some]
  by_cases c1 : (liars.length : Int) > 1048576
  · simp only [c1, decide_true, cond_true]
  by_cases c2 : (name.length : Int) > 1048576
  · simp only [c1, c2, decide_true, decide_false, cond_true, cond_false]
  by_cases c3 : (who.length : Int) > 1048576
  · simp only [c1, c2, c3, decide_true, decide_false, cond_true, cond_false]
  by_cases c4 : sub 1048576 (wSaidS list) < 0
  · simp only [c1, c2, c3, c4, decide_true, decide_false, cond_true, cond_false]
  have hw := (sub_nonneg c4).1
  have hl : list.length ≤ wSaidS list := by unfold wSaidS; omega
  simp only [c1, c2, c3, c4, decide_false, cond_false, toIntS_eq liars (by omega), toIntS_eq who (by omega), toSaidS_eq list (by omega), Option.bind_some,
    spec_Signed_eq liars list view name who (by omega) (by omega) (by omega), impl_Signed_eq liars list view name who (by omega) (by omega) (by omega), bne_self_eq_false,
    eqIntS_self liars (by omega), eqIntS_self who (by omega), eqSaidS_self list (by omega), Bool.not_true]

end G448
