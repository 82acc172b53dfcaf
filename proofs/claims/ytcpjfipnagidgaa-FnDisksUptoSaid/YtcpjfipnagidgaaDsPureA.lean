/- Plain laws, part 1: what the functions compute. No program in sight. -/
import Derived.Test.YtcpjfipnagidgaaDsFns
set_option linter.unusedSimpArgs false
set_option linter.unusedVariables false

namespace G448
open Ev
set_option linter.unusedVariables false

theorem iter_eq {S R : Type} {G : (S → Option R) → S → Option R} (f : S → Option R) (μ : S → Nat) (I : S → Prop)
    (h : ∀ (rec : S → Option R) (x : S), I x → (∀ y, I y → μ y < μ x → rec y = f y) → G rec x = f x) : ∀ (n : Nat) (x : S), I x → μ x < n → iter G n x = f x
  | 0, x, _, hn => by omega
  | n + 1, x, hx, hn => h (iter G n) x hx fun y hy hlt => iter_eq f μ I h n y hy (by omega)

/-- A loop over a list, with a state: what is left of the loop is handed to the body. -/
def foldK {α S R : Type} (body : α → S → (S → Option R) → Option R) (k : S → Option R) : List α → S → Option R
  | [], s => k s
  | x :: xs, s => body x s (foldK body k xs)

theorem foldK_nil {α S R : Type} (body : α → S → (S → Option R) → Option R) (k : S → Option R) (s : S) : foldK body k [] s = k s := rfl
theorem foldK_cons {α S R : Type} (body : α → S → (S → Option R) → Option R) (k : S → Option R) (x : α) (xs : List α) (s : S) : foldK body k (x :: xs) s = body x s (foldK body k xs) := rfl

theorem iter_for {X S R : Type} (len : Nat) {G : (X → Option R) → X → Option R} (mk : Int → S → X) (f : Nat → S → Option R) (hlen : len ≤ 1152921504606846976)
    (hend : ∀ rec s, G rec (mk (len : Int) s) = f len s)
    (hstep : ∀ rec (i : Nat) s, i < len → (∀ s', rec (mk ((i : Int) + 1) s') = f (i + 1) s') → G rec (mk (i : Int) s) = f i s) :
    ∀ n i s, i ≤ len → len - i < n → iter G n (mk (i : Int) s) = f i s
  | 0, i, s, _, hn => by omega
  | n + 1, i, s, hi, hn => by
    rcases Nat.lt_or_ge i len with h | h
    · exact hstep (iter G n) i s h fun s' => iter_for len mk f hlen hend hstep n (i + 1) s' (by omega) (by omega)
    · have : i = len := by omega
      subst this
      exact hend (iter G n) s

theorem fuel_gt {n : Nat} (h : n ≤ 1152921504606846976) : n < fuel := by unfold fuel; omega

/-- A Go loop 'for i := 0; i < len(l); i++' is a walk through the list. -/
theorem forK {α X S R : Type} (l : List α) {G : (X → Option R) → X → Option R} (body : α → S → (S → Option R) → Option R) (k : S → Option R) (mk : Int → S → X) (hl : l.length ≤ 1152921504606846976)
    (hend : ∀ rec s, G rec (mk (l.length : Int) s) = k s)
    (hstep : ∀ rec (i : Nat) s (x : α), l[i]? = some x → i < l.length → G rec (mk (i : Int) s) = body x s (fun s' => rec (mk ((i : Int) + 1) s')))
    (hcong : ∀ x s (r1 r2 : S → Option R), (∀ s', r1 s' = r2 s') → body x s r1 = body x s r2) (s : S) : iter G fuel (mk 0 s) = foldK body k l s := by
  have := iter_for l.length mk (fun i s => foldK body k (l.drop i) s) hl (fun rec s => by simpa [foldK] using hend rec s) (fun rec i s hi hrec => by
    rw [hstep rec i s l[i] (List.getElem?_eq_getElem hi) hi, List.drop_eq_getElem_cons hi]
    exact hcong _ _ _ _ hrec) fuel 0 s (Nat.zero_le _) (by simpa using fuel_gt hl)
  simpa using this

theorem fuel_gt2 {n : Nat} (h : n ≤ 4611686018427387904) : n < fuel := by unfold fuel; omega

theorem wr_id' {n : Int} (h1 : -9223372036854775808 ≤ n) (h2 : n ≤ 9223372036854775807) : wr n = n := by rw [wr_def]; omega

theorem wr_nat {i : Nat} (h : i < 4611686018427387904) : wr ((i : Int) + 1) = (i : Int) + 1 := wr_id' (by omega) (by omega)

theorem rd_get {e : Ty} {l : List (den e)} {i : Nat} {x : den e} (h : l[i]? = some x) : rd e l i = x := by
  simp [rd, List.getD_eq_getElem?_getD, h]

theorem ge_ok {α : Type} {l : List α} {i : Nat} (h : i < l.length) : (0 : Int) ≤ (i : Int) ∧ (i : Int) < (l.length : Int) := by omega

/-- The list that a loop 'out[i] = g(a[i])' fills. -/
theorem fill_step {α β : Type} {l : List α} {out : List β} {i : Nat} (y : β) (g : α → β) (h : i < l.length) (ho : out.length = l.length) (hy : y = g l[i]) :
    (out.set i y).take (i + 1) ++ (l.drop (i + 1)).map g = out.take i ++ (l.drop i).map g := by
  have hi : i < out.length := by omega
  rw [List.drop_eq_getElem_cons h, List.map_cons, ← hy, List.take_add_one, List.take_set_of_le (Nat.le_refl i), List.getElem?_set_self hi]
  simp

/-- A loop 'for i := 0; i < len(a); i++ { out[i] = g(a[i]) }'. -/
theorem fill_loop {α β R : Type} (l : List α) (g : α → β) {G : (Int × List β × Unit → Option R) → Int × List β × Unit → Option R} (k : List β → Option R) (hl : l.length ≤ 1152921504606846976)
    (hend : ∀ rec out, out.length = l.length → G rec ((l.length : Int), out, ()) = k out)
    (hstep : ∀ rec (i : Nat) out x, l[i]? = some x → i < l.length → out.length = l.length → G rec ((i : Int), out, ()) = rec ((i : Int) + 1, out.set i (g x), ())) (out : List β) (ho : out.length = l.length) :
    iter G fuel (0, out, ()) = k (l.map g) := by
  have key : ∀ n i (out : List β), i ≤ l.length → out.length = l.length → l.length - i < n → iter G n ((i : Int), out, ()) = k (out.take i ++ (l.drop i).map g) := by
    intro n
    induction n with
    | zero => intro i out h1 h2 h3; omega
    | succ n ih =>
      intro i out hi ho hn
      rcases Nat.lt_or_ge i l.length with h | h
      · have e1 : iter G (n + 1) ((i : Int), out, ()) = iter G n ((i : Int) + 1, out.set i (g l[i]), ()) := hstep (iter G n) i out l[i] (List.getElem?_eq_getElem h) h ho
        have e2 := ih (i + 1) (out.set i (g l[i])) h (by simpa using ho) (by omega)
        rw [fill_step (g l[i]) g h ho rfl] at e2
        rw [e1]
        exact e2
      · have hi' : i = l.length := by omega
        subst hi'
        have e1 : iter G (n + 1) ((l.length : Int), out, ()) = k out := hend (iter G n) out ho
        rw [e1, List.take_of_length_le (by omega), List.drop_of_length_le (Nat.le_refl _)]
        simp
  have := key fuel 0 out (Nat.zero_le _) ho (by simpa using fuel_gt hl)
  simpa using this

theorem foldK_any {α : Type} (p : α → Bool) (l : List α) : foldK (S := Unit) (fun x s rec => bif p x then some (true, ()) else rec s) (fun _ => some (false, ())) l () = some (l.any p, ()) := by
  induction l with
  | nil => rfl
  | cons x xs ih => rw [foldK_cons, ih]; cases h : p x <;> simp [h]

theorem foldK_all {α : Type} (p : α → Bool) (l : List α) : foldK (S := Unit) (fun x s rec => bif p x then rec s else some (false, ())) (fun _ => some (true, ())) l () = some (l.all p, ()) := by
  induction l with
  | nil => rfl
  | cons x xs ih => rw [foldK_cons, ih]; cases h : p x <;> simp [h]

/-- What is left of a size; -1: too little. -/
def sub (left : Int) (w : Nat) : Int := if left < (w : Int) then -1 else left - w

theorem sub_zero {left : Int} (h : 0 ≤ left) : sub left 0 = left := by unfold sub; rw [if_neg (by simpa using h)]; simp

theorem sub_nonneg {left : Int} {w : Nat} (h : ¬ sub left w < 0) : (w : Int) ≤ left ∧ sub left w = left - w := by
  unfold sub at *
  split at h
  · omega
  · next hh => exact ⟨by omega, by rw [if_neg hh]⟩

theorem sub_neg {left : Int} {w : Nat} (h : sub left w < 0) : sub left w = -1 ∧ left < w := by
  unfold sub at *
  split at h
  · next hh => exact ⟨by rw [if_pos hh], hh⟩
  · next hh => omega

theorem sub_add {left : Int} {a b : Nat} (h : ¬ sub left a < 0) : sub (sub left a) b = sub left (a + b) := by
  obtain ⟨h1, h2⟩ := sub_nonneg h
  rw [h2]
  unfold sub
  split <;> split <;> first | rfl | omega

theorem sub_more {left : Int} {a b : Nat} (h : sub left a < 0) : sub left (a + b) = -1 := by
  obtain ⟨_, h2⟩ := sub_neg h
  unfold sub
  rw [if_pos (by omega)]

theorem wr_sub {left : Int} {n : Nat} (h1 : 0 ≤ left) (h2 : left ≤ 1048576) (h3 : n ≤ 140737488355328) : wr (left - (n : Int)) = left - n := wr_id' (by omega) (by omega)

theorem sz_first {left : Int} {n : Nat} (h1 : 0 ≤ left) (h2 : left ≤ 1048576) (h3 : n ≤ 140737488355328) {R : Type} (k : Option R) (f : Int → Option R) :
    (bif decide (wr (left - (n : Int)) < 0) then k else f (wr (left - (n : Int)))) = if sub left n < 0 then k else f (sub left n) := by
  rw [wr_sub h1 h2 h3]
  unfold sub
  by_cases h : left - (n : Int) < 0
  · have h' : left < n := by omega
    simp [h, h']
  · have h' : ¬ left < n := by omega
    simp [h, h']

theorem sz_one {left : Int} {n : Nat} (h1 : 0 ≤ left) (h2 : left ≤ 1048576) (h3 : n ≤ 140737488355328) :
    (bif decide (wr (left - (n : Int)) < 0) then some ((-1 : Int), ()) else some (wr (left - (n : Int)), ())) = some (sub left n, ()) := by
  rw [sz_first h1 h2 h3 (some ((-1 : Int), ())) (fun z => some (z, ()))]
  split
  · next h => rw [(sub_neg h).1]
  · rfl

theorem sub_le {left : Int} {w : Nat} (h : left ≤ 1048576) : sub left w ≤ 1048576 := by unfold sub; split <;> omega

/-- 'left = szX(..); if left < 0 { return -1 }', and on. -/
theorem sz_next {left : Int} {a b : Nat} {f : Int → Option (Int × Unit)} (h0 : 0 ≤ left) (h1 : left ≤ 1048576) (hf : ∀ z, 0 ≤ z → z ≤ 1048576 → f z = some (sub z b, ())) :
    (bif decide (sub left a < 0) then some ((-1 : Int), ()) else f (sub left a)) = some (sub left (a + b), ()) := by
  by_cases h : sub left a < 0
  · simp only [h, decide_true, cond_true]
    rw [sub_more h]
  · simp only [h, decide_false, cond_false]
    rw [hf _ (by omega) (sub_le h1), sub_add h]

theorem sz_end {left : Int} {a : Nat} : (bif decide (sub left a < 0) then some ((-1 : Int), ()) else some (sub left a, ())) = some (sub left a, ()) := by
  by_cases h : sub left a < 0
  · simp only [h, decide_true, cond_true]; rw [(sub_neg h).1]
  · simp only [h, decide_false, cond_false]

theorem sz_loop {α : Type} (w : α → Nat) (f : α → Int → Option (Int × Unit)) : ∀ (l : List α) (left : Int), 0 ≤ left → left ≤ 1048576 → (∀ x ∈ l, ∀ z, 0 ≤ z → z ≤ 1048576 → f x z = some (sub z (w x), ())) →
    foldK (fun x s rec => (f x s).bind fun r => bif decide (r.1 < 0) then some ((-1 : Int), ()) else rec r.1) (fun s => some (s, ())) l left = some (sub left ((l.map w).sum), ())
  | [], left, h0, h1, hf => by simp [foldK, sub_zero h0]
  | x :: xs, left, h0, h1, hf => by
    rw [foldK_cons, hf x (by simp) left h0 h1]
    simp only [Option.bind_some, List.map_cons, List.sum_cons]
    exact sz_next h0 h1 fun z hz0 hz1 => sz_loop w f xs z hz0 hz1 fun y hy => hf y (by simp [hy])

end G448

namespace G448
open Ev
set_option linter.unusedVariables false

/-- What comes back, and what is so of it. -/
def Ens {α : Type} (o : Option α) (P : α → Prop) : Prop := ∃ y, o = some y ∧ P y

theorem Ens.bind {α β : Type} {x : Option α} {f : α → Option β} {P : α → Prop} {Q : β → Prop} (h : Ens x P) (hf : ∀ y, P y → Ens (f y) Q) : Ens (x.bind f) Q := by
  obtain ⟨y, rfl, hy⟩ := h
  exact hf y hy

theorem Ens.some {α : Type} {x : α} {P : α → Prop} (h : P x) : Ens (some x) P := ⟨x, rfl, h⟩

theorem Ens.mono {α : Type} {o : Option α} {P Q : α → Prop} (h : Ens o P) (hq : ∀ y, P y → Q y) : Ens o Q := by
  obtain ⟨y, e, hy⟩ := h
  exact ⟨y, e, hq y hy⟩

theorem Ens.cond {α : Type} {c : Bool} {a b : Option α} {P : α → Prop} (ha : c = true → Ens a P) (hb : c = false → Ens b P) : Ens (bif c then a else b) P := by
  cases c with
  | true => exact ha rfl
  | false => exact hb rfl

theorem Ens.ite {α : Type} {c : Prop} [Decidable c] {a b : Option α} {P : α → Prop} (hc : c) (ha : Ens a P) : Ens (if c then a else b) P := by
  rw [if_pos hc]; exact ha

theorem Ens.eq {α : Type} {o : Option α} {x : α} {P : α → Prop} (h : o = .some x) (hp : P x) : Ens o P := ⟨x, h, hp⟩

/-- A loop: what holds at each round, and what grows less. -/
theorem Ens.loop {S R : Type} {G : (S → Option R) → S → Option R} (I : S → Prop) (μ : S → Nat) {P : R → Prop}
    (h : ∀ (rec : S → Option R) (x : S), I x → (∀ y, I y → μ y < μ x → Ens (rec y) P) → Ens (G rec x) P) {x : S} (hx : I x) (hm : μ x < fuel) : Ens (iter G fuel x) P := by
  have key : ∀ (n : Nat) (x : S), I x → μ x < n → Ens (iter G n x) P := by
    intro n
    induction n with
    | zero => intro x _ hn; omega
    | succ n ih => intro x hx hn; exact h (iter G n) x hx fun y hy hlt => ih y hy (by omega)
  exact key fuel x hx hm

/-- A loop 'for i := 0; i < len(l); i++ { l[i] = .. }' that turns a list in place and reckons on. -/
def mapA {α β : Type} (f : α → β → α × β) : List α → β → List α × β
  | [], k => ([], k)
  | x :: r, k => let y := f x k; let z := mapA f r y.2; (y.1 :: z.1, z.2)

theorem mapA_len {α β : Type} (f : α → β → α × β) : ∀ (l : List α) (k : β), (mapA f l k).1.length = l.length
  | [], k => rfl
  | x :: r, k => by simp [mapA, mapA_len f r]

theorem set_at {α : Type} {pre : List α} {x y : α} {r : List α} : (pre ++ x :: r).set pre.length y = pre ++ y :: r := by
  rw [List.set_append_right _ _ (Nat.le_refl _)]; simp

theorem get_at {α : Type} {pre : List α} {x : α} {r : List α} : (pre ++ x :: r)[pre.length]? = some x := by simp

theorem rd_at {e : Ty} {pre : List (den e)} {x : den e} {r : List (den e)} : rd e (pre ++ x :: r) pre.length = x := rd_get get_at

theorem modi_at {e : Ty} {pre : List (den e)} {x : den e} {r : List (den e)} {g : den e → den e} : modi e (pre ++ x :: r) pre.length g = pre ++ g x :: r := by
  unfold modi; rw [rd_at, set_at]

def big : Nat := 140737488355328

/-- Loops that hold two lists against each other, at equal lists. -/
theorem eq_loop {α R : Type} (l : List α) {G : (Int × Unit → Option R) → Int × Unit → Option R} (b : R) (hl : l.length ≤ 1152921504606846976)
    (hend : ∀ rec s, G rec ((l.length : Int), s) = some b)
    (hstep : ∀ rec (i : Nat) s x, l[i]? = some x → i < l.length → G rec ((i : Int), s) = rec ((i : Int) + 1, s)) : iter G fuel (0, ()) = some b := by
  refine (forK l (fun x s rec => rec s) (fun s => some b) (fun i s => (i, s)) hl hend hstep (fun x s r1 r2 hr => hr s) ()).trans ?_
  clear hend hstep hl
  induction l with
  | nil => rfl
  | cons x xs ih => rw [foldK_cons, ih]

/-- slices.Index. -/
theorem index_loop {α : Type} (p : α → Bool) (l : List α) {G : (Int × Unit → Option (Int × Unit)) → Int × Unit → Option (Int × Unit)} (hl : l.length ≤ 1152921504606846976)
    (hend : ∀ rec s, G rec ((l.length : Int), s) = some (-1, ()))
    (hstep : ∀ rec (i : Nat) s x, l[i]? = some x → i < l.length → G rec ((i : Int), s) = bif p x then some ((i : Int), ()) else rec ((i : Int) + 1, s)) :
    ∃ r : Int, iter G fuel (0, ()) = some (r, ()) ∧ decide (r ≥ 0) = l.any p := by
  have key : ∀ n i, i ≤ l.length → l.length - i < n → ∃ r : Int, iter G n ((i : Int), ()) = some (r, ()) ∧ decide (r ≥ 0) = (l.drop i).any p := by
    intro n
    induction n with
    | zero => intro i h1 h2; omega
    | succ n ih =>
      intro i hi hn
      rcases Nat.lt_or_ge i l.length with h | h
      · have e1 : iter G (n + 1) ((i : Int), ()) = bif p l[i] then some ((i : Int), ()) else iter G n ((i : Int) + 1, ()) := hstep (iter G n) i () l[i] (List.getElem?_eq_getElem h) h
        rw [List.drop_eq_getElem_cons h, List.any_cons, e1]
        cases hp : p l[i] with
        | true => exact ⟨i, rfl, by simp⟩
        | false =>
          obtain ⟨r, h1, h2⟩ := ih (i + 1) h (by omega)
          exact ⟨r, h1, by simpa using h2⟩
      · have hi' : i = l.length := by omega
        subst hi'
        exact ⟨-1, hend (iter G n) (), by simp⟩
  simpa using key fuel 0 (Nat.zero_le _) (by simpa using fuel_gt hl)

theorem index_bind {α : Type} (p : α → Bool) (l : List α) {G : (Int × Unit → Option (Int × Unit)) → Int × Unit → Option (Int × Unit)} (hl : l.length ≤ 1152921504606846976)
    (hend : ∀ rec s, G rec ((l.length : Int), s) = some (-1, ()))
    (hstep : ∀ rec (i : Nat) s x, l[i]? = some x → i < l.length → G rec ((i : Int), s) = bif p x then some ((i : Int), ()) else rec ((i : Int) + 1, s)) :
    ((iter G fuel (0, ())).bind fun r => some (decide (r.1 ≥ 0), ())) = some (l.any p, ()) := by
  obtain ⟨r, h1, h2⟩ := index_loop p l hl hend hstep
  rw [h1, Option.bind_some, ← h2]

/-- A loop that holds two lists against each other, from the front. -/
theorem cmp_loop {R : Type} (l m : List Int) {G : (Int × Unit → Option R) → Int × Unit → Option R} (yes no : R) (hl : l.length ≤ 1152921504606846976)
    (hend : ∀ rec (i : Nat) s, i ≤ l.length → i ≤ m.length → (i = l.length ∨ i = m.length) → G rec ((i : Int), s) = some (if l.length = m.length then yes else no))
    (hstep : ∀ rec (i : Nat) s x y, l[i]? = some x → m[i]? = some y → i < l.length → i < m.length → G rec ((i : Int), s) = bif x != y then some no else rec ((i : Int) + 1, s)) :
    iter G fuel (0, ()) = some (if l = m then yes else no) := by
  have key : ∀ n i, i ≤ l.length → i ≤ m.length → l.length - i < n → iter G n ((i : Int), ()) = some (if l.drop i = m.drop i then yes else no) := by
    intro n
    induction n with
    | zero => intro i h1 h2 h3; omega
    | succ n ih =>
      intro i hi hi2 hn
      by_cases he : i = l.length ∨ i = m.length
      · have e1 : iter G (n + 1) ((i : Int), ()) = some (if l.length = m.length then yes else no) := hend (iter G n) i () hi hi2 he
        have e2 : (l.drop i = m.drop i) = (l.length = m.length) := by
          apply propext
          constructor
          · intro e
            have := congrArg List.length e
            simp only [List.length_drop] at this
            omega
          · intro e
            rw [List.drop_of_length_le (by omega), List.drop_of_length_le (by omega)]
        simp only [e1, e2]
      · have h : i < l.length := by omega
        have hm : i < m.length := by omega
        have e1 : iter G (n + 1) ((i : Int), ()) = bif l[i] != m[i] then some no else iter G n ((i : Int) + 1, ()) := hstep (iter G n) i () l[i] m[i] (List.getElem?_eq_getElem h) (List.getElem?_eq_getElem hm) h hm
        rw [e1, List.drop_eq_getElem_cons h, List.drop_eq_getElem_cons hm]
        by_cases he : l[i] = m[i]
        · rw [he]
          simp only [bne_self_eq_false, cond_false, List.cons.injEq, true_and]
          exact ih (i + 1) h hm (by omega)
        · have : (l[i] != m[i]) = true := by simpa using he
          rw [this, cond_true, if_neg (fun e => he (List.cons.inj e).1)]
  have := key fuel 0 (Nat.zero_le _) (Nat.zero_le _) (by simpa using fuel_gt hl)
  simpa only [List.drop_zero, Int.natCast_zero] using this

theorem lt_sub {left : Int} {n : Nat} (h : sub left n < 0) : left - (n : Int) < 0 := by have := (sub_neg h).2; omega
theorem nlt_sub {left : Int} {n : Nat} (h : ¬ sub left n < 0) : ¬ left - (n : Int) < 0 ∧ left - (n : Int) = sub left n := by have := sub_nonneg h; omega

end G448

namespace G448
open Ev
set_option linter.unusedVariables false

theorem mark_loop {e : Ty} {G : (Int × Int × List (den e) × Unit → Option (List (den e) × Int × Unit)) → Int × Int × List (den e) × Unit → Option (List (den e) × Int × Unit)} (F : den e → Int → den e × Int) (c : den e → Nat)
    (hF : ∀ x k, (F x k).2 = k + c x) (l : List (den e)) (k : Int) (hk : 0 ≤ k) (hM : k + ((l.map c).sum : Nat) ≤ 4611686018427387904) (hlen : l.length ≤ 4611686018427387904)
    (hend : ∀ rec (pre : List (den e)) k, pre.length = l.length → G rec (k, (pre.length : Int), pre, ()) = some (pre, k, ()))
    (hstep : ∀ rec (pre : List (den e)) (x : den e) (r : List (den e)) (k : Int), pre.length + 1 + r.length = l.length → 0 ≤ k → k + c x ≤ 4611686018427387904 →
      G rec (k, (pre.length : Int), pre ++ x :: r, ()) = rec ((F x k).2, (pre.length : Int) + 1, pre ++ (F x k).1 :: r, ())) :
    iter G fuel (k, 0, l, ()) = some ((mapA F l k).1, (mapA F l k).2, ()) := by
  have key : ∀ (n : Nat) (r pre : List (den e)) (k : Int), r.length < n → pre.length + r.length = l.length → 0 ≤ k → k + ((r.map c).sum : Nat) ≤ 4611686018427387904 →
      iter G n (k, (pre.length : Int), pre ++ r, ()) = some (pre ++ (mapA F r k).1, (mapA F r k).2, ()) := by
    intro n
    induction n with
    | zero => intro r pre k h; omega
    | succ n ih =>
      intro r pre k h1 h2 h3 h4
      cases r with
      | nil =>
        simp only [List.append_nil, mapA]
        exact hend (iter G n) pre k (by simpa using h2)
      | cons x r =>
        simp only [List.map_cons, List.sum_cons] at h4
        simp only [List.length_cons] at h1 h2
        have e1 : iter G (n + 1) (k, (pre.length : Int), pre ++ x :: r, ()) = iter G n ((F x k).2, (pre.length : Int) + 1, pre ++ (F x k).1 :: r, ()) := hstep (iter G n) pre x r k (by omega) h3 (by omega)
        have e2 := ih r (pre ++ [(F x k).1]) (F x k).2 (by omega) (by simp; omega) (by rw [hF]; omega) (by rw [hF]; omega)
        simp only [List.length_append, List.length_cons, List.length_nil, List.append_assoc, List.cons_append, List.nil_append] at e2
        rw [e1]
        refine Eq.trans ?_ e2
        simp
  have := key fuel l [] k (by have := fuel_gt2 hlen; omega) (by simp) hk hM
  simpa using this

/-- The reading of a marked row: m: the row that is read. -/
theorem held_loop {e : Ty} (m : List (den e)) {G : (Int × Int × Unit → Option (Int × Unit)) → Int × Int × Unit → Option (Int × Unit)} (F : den e → Int → den e × Int) (c : den e → Nat)
    (hF : ∀ x k, (F x k).2 = k + c x) (l : List (den e)) (k : Int) (hk : 0 ≤ k) (hM : k + ((l.map c).sum : Nat) ≤ 4611686018427387904) (hlen : l.length ≤ 4611686018427387904) (hm : m = (mapA F l k).1)
    (hend : ∀ rec k, G rec (k, (m.length : Int), ()) = some (k, ()))
    (hstep : ∀ rec (i : Nat) (x : den e) (k : Int), m[i]? = some (F x k).1 → i < m.length → 0 ≤ k → k + c x ≤ 4611686018427387904 → G rec (k, (i : Int), ()) = rec ((F x k).2, (i : Int) + 1, ())) :
    iter G fuel (k, 0, ()) = some ((mapA F l k).2, ()) := by
  have key : ∀ (n : Nat) (r : List (den e)) (pre : List (den e)) (k : Int), r.length < n → m = pre ++ (mapA F r k).1 → 0 ≤ k → k + ((r.map c).sum : Nat) ≤ 4611686018427387904 →
      iter G n (k, (pre.length : Int), ()) = some ((mapA F r k).2, ()) := by
    intro n
    induction n with
    | zero => intro r pre k h; omega
    | succ n ih =>
      intro r pre k h1 h2 h3 h4
      cases r with
      | nil =>
        simp only [mapA, List.append_nil] at h2 ⊢
        subst h2
        exact hend (iter G n) k
      | cons x r =>
        simp only [List.map_cons, List.sum_cons] at h4
        simp only [List.length_cons] at h1
        have hm1 : m = pre ++ (F x k).1 :: (mapA F r (F x k).2).1 := h2
        have hi : m[pre.length]? = some (F x k).1 := by rw [hm1]; simp
        have hil : pre.length < m.length := by rw [hm1]; simp
        have e1 : iter G (n + 1) (k, (pre.length : Int), ()) = iter G n ((F x k).2, (pre.length : Int) + 1, ()) := hstep (iter G n) pre.length x k hi hil h3 (by omega)
        have e2 := ih r (pre ++ [(F x k).1]) (F x k).2 (by omega) (by rw [hm1]; simp) (by rw [hF]; omega) (by rw [hF]; omega)
        simp only [List.length_append, List.length_cons, List.length_nil] at e2
        rw [e1]
        refine Eq.trans ?_ e2
        simp
  have := key fuel l [] k (by have := fuel_gt2 hlen; omega) (by simpa using hm) hk hM
  simpa using this

theorem mapA_cnt {α : Type} {F : α → Int → α × Int} {c : α → Nat} (hF : ∀ x k, (F x k).2 = k + c x) : ∀ (l : List α) (k : Int), (mapA F l k).2 = k + ((l.map c).sum : Nat)
  | [], k => by simp [mapA]
  | x :: r, k => by simp only [mapA, mapA_cnt hF r, hF, List.map_cons, List.sum_cons]; omega

theorem walk_lt {α : Type} {pre r : List α} {x : α} : (pre.length : Int) < ((pre ++ x :: r).length : Nat) := by simp; omega

theorem sum_one {α : Type} (l : List α) : (l.map fun _ => 1).sum = l.length := by
  induction l with
  | nil => rfl
  | cons x r ih => simp only [List.map_cons, List.sum_cons, ih, List.length_cons]; omega

end G448

namespace G448
open Ev
set_option linter.unusedVariables false

abbrev TDisk := List UInt8 × Int

theorem toByteS_eq (l : List UInt8) (h : l.length ≤ 35184372088832) : laws_toByteS (l, ()) = some (l, ()) := by
  unfold laws_toByteS
  have h1 : (0 : Int) ≤ (l.length : Int) ∧ (Int.toNat (l.length : Int)) * 1 ≤ 70368744177664 := by
    rw [Int.toNat_natCast]; omega
  simp only [if_true]
  rw [if_pos h1]
  refine (fill_loop l (fun x => x) (fun out => some (out, ())) (by omega) ?_ ?_ _ (by simp)).trans (by simp)
  · intro rec out ho; simp
  · intro rec i out x hx hi ho
    simp only [Int.toNat_natCast, ho, ge_ok hi, decide_true, cond_true, if_true, and_self, rd, List.getD_eq_getElem?_getD, hx, Option.getD_some, wr_nat (show i < 4611686018427387904 by omega)]

theorem eqByteS_self (l : List UInt8) (h : l.length ≤ 1152921504606846976) : laws_eqByteS (l, l, ()) = some (true, ()) := by
  unfold laws_eqByteS
  simp only [bne_self_eq_false, cond_false]
  refine eq_loop l (true, ()) h ?_ ?_
  · intro rec s; simp
  · intro rec i s x hx hi
    simp only [Int.toNat_natCast, ge_ok hi, decide_true, cond_true, if_true, and_self, rd, List.getD_eq_getElem?_getD, hx, Option.getD_some, wr_nat (show i < 4611686018427387904 by omega), bne_self_eq_false, cond_false]

noncomputable def FB (_ : UInt8) (k : Int) : UInt8 × Int := (toB k, k + 1)
theorem FB_cnt (x : UInt8) (k : Int) : (FB x k).2 = k + ((1 : Nat) : Int) := rfl
theorem FB_all (l : List UInt8) (k : Int) : (mapA FB l k).2 = k + l.length := by rw [mapA_cnt (c := fun _ => 1) FB_cnt, sum_one]

theorem markByteS_eq (l : List UInt8) (k : Int) (h0 : 0 ≤ k) (hM : k + l.length ≤ 4611686018427387904) (h : l.length ≤ 4611686018427387904) : laws_markByteS (l, k, ()) = some ((mapA FB l k).1, k + l.length, ()) := by
  unfold laws_markByteS
  rw [← FB_all]
  refine mark_loop (e := .u8) FB (fun _ => 1) FB_cnt l k h0 (by rw [sum_one]; exact hM) h ?_ ?_
  · intro rec pre k hp; simp
  · intro rec pre x r k hp hk hkM
    have hi : (pre.length : Int) < ((pre ++ x :: r).length : Nat) := walk_lt
    simp only [Int.toNat_natCast, Int.natCast_nonneg, hi, decide_true, cond_true, and_self, if_true, set_at, wr_nat (show pre.length < 4611686018427387904 by omega), FB, wr_id' (show (-9223372036854775808 : Int) ≤ k + 1 by omega) (show k + 1 ≤ 9223372036854775807 by omega)]

theorem heldByteS_eq (l : List UInt8) (k : Int) (h0 : 0 ≤ k) (hM : k + l.length ≤ 4611686018427387904) (h : l.length ≤ 4611686018427387904) : laws_heldByteS ((mapA FB l k).1, k, ()) = some (k + l.length, ()) := by
  unfold laws_heldByteS
  rw [← FB_all]
  refine held_loop (e := .u8) (mapA FB l k).1 FB (fun _ => 1) FB_cnt l k h0 (by rw [sum_one]; exact hM) h rfl ?_ ?_
  · intro rec k; simp
  · intro rec i x k hx hi hk hkM
    have hi2 : i < l.length := by rw [mapA_len] at hi; exact hi
    simp only [Int.toNat_natCast, ge_ok hi, decide_true, cond_true, and_self, if_true, rd_get (e := .u8) hx, FB, bne_self_eq_false, cond_false, wr_nat (show i < 4611686018427387904 by omega), wr_id' (show (-9223372036854775808 : Int) ≤ k + 1 by omega) (show k + 1 ≤ 9223372036854775807 by omega)]

/-! ### Disks -/

def DiskB (d : TDisk) : Prop := d.1.length ≤ big

theorem szDisk_eq (d : TDisk) (left : Int) (h0 : 0 ≤ left) (h1 : left ≤ 1048576) (hb : DiskB d) : laws_szDisk (d, left, ()) = some (sub left d.1.length, ()) := by
  unfold laws_szDisk laws_szByteS
  rw [sz_one h0 h1 hb]
  simp only [Option.bind_some]
  exact sz_end

theorem toDisk_eq (d : TDisk) (h : d.1.length ≤ 35184372088832) : laws_toDisk (d, ()) = some (d, ()) := by
  unfold laws_toDisk
  simp only [toByteS_eq d.1 h, Option.bind_some]

theorem eqDisk_self (d : TDisk) (h : d.1.length ≤ 35184372088832) : laws_eqDisk (d, d, ()) = some (true, ()) := by
  unfold laws_eqDisk
  simp only [eqByteS_self d.1 (by omega), Option.bind_some, Bool.not_true, cond_false, bne_self_eq_false]

theorem markDisk_eq (d : TDisk) (k : Int) (h0 : 0 ≤ k) (hk : k ≤ 1152921504606846976) (h : d.1.length ≤ 35184372088832) : laws_markDisk (d, k, ()) = some (((mapA FB d.1 k).1, d.2), k + d.1.length, ()) := by
  unfold laws_markDisk
  simp only [markByteS_eq d.1 k h0 (by omega) (by omega), Option.bind_some]

theorem heldDisk_eq (d : TDisk) (n : Int) (k : Int) (h0 : 0 ≤ k) (hk : k ≤ 1152921504606846976) (h : d.1.length ≤ 35184372088832) : laws_heldDisk (((mapA FB d.1 k).1, n), k, ()) = some (k + d.1.length, ()) := by
  unfold laws_heldDisk
  simp only [heldByteS_eq d.1 k h0 (by omega) (by omega), Option.bind_some]
  rw [show decide (k + (d.1.length : Int) < 0) = false by simp; omega]
  rfl

def diskOk (d : TDisk) : Bool := decide ((d.1.length : Int) ≤ 100000) && (decide (d.2 ≥ 0) && decide (d.2 ≤ (d.1.length : Int)))

theorem spec_DiskOk_eq (d : TDisk) : spec_DiskOk (d, ()) = some (diskOk d, ()) := by
  unfold spec_DiskOk spec_l1In diskOk
  cases h1 : decide ((d.1.length : Int) ≤ 100000) <;> cases h2 : decide (d.2 ≥ 0) <;> simp [h1, h2]

theorem impl_DiskOk_eq (d : TDisk) : impl_DiskOk (d, ()) = some (diskOk d, ()) := by
  unfold impl_DiskOk impl_within diskOk
  cases h1 : decide ((d.1.length : Int) ≤ 100000) <;> cases h2 : decide (d.2 ≥ 0) <;> simp [h1, h2]

theorem spec_l13Copy_eq (d : TDisk) (h : d.1.length ≤ 35184372088832) : spec_l13Copy (d, ()) = some (d, ()) := by
  unfold spec_l13Copy
  dsimp only
  rw [if_pos (by omega)]
  rfl

theorem impl_copyDisk_eq (d : TDisk) (h : d.1.length ≤ 35184372088832) : impl_copyDisk (d, ()) = some (d, ()) := by
  unfold impl_copyDisk
  dsimp only
  rw [if_pos (by omega)]

def appendM (d : TDisk) (b : List UInt8) : TDisk × Bool := if diskOk d = true ∧ d.1.length + b.length ≤ 100000 then ((d.1 ++ b, d.2), true) else (d, false)

theorem spec_Append_eq (d : TDisk) (b : List UInt8) (h : d.1.length ≤ 17592186044416) (hb : b.length ≤ 17592186044416) : spec_Append (d, b, ()) = some ((appendM d b).1, (appendM d b).2, ()) := by
  unfold spec_Append appendM
  simp only [spec_l13Copy_eq d (by omega), Option.bind_some, spec_DiskOk_eq]
  rw [if_pos (by omega)]
  cases h1 : diskOk d with
  | false => simp
  | true =>
    simp only [Bool.not_true, cond_false, true_and]
    have h2 : diskOk (d.1 ++ b, d.2) = decide (d.1.length + b.length ≤ 100000) := by
      simp only [diskOk, Bool.and_eq_true, decide_eq_true_eq] at h1
      obtain ⟨g1, g2, g3⟩ := h1
      by_cases h3 : d.1.length + b.length ≤ 100000
      · simp [diskOk, h3, g2]; omega
      · simp [diskOk, h3]; omega
    rw [h2]
    by_cases h3 : d.1.length + b.length ≤ 100000
    · simp [h3]
    · simp [h3]

theorem impl_Append_eq (d : TDisk) (b : List UInt8) (h : d.1.length ≤ 17592186044416) (hb : b.length ≤ 17592186044416) : impl_Append (d, b, ()) = some ((appendM d b).1, (appendM d b).2, ()) := by
  unfold impl_Append appendM
  simp only [impl_copyDisk_eq d (by omega), Option.bind_some, impl_DiskOk_eq]
  rw [if_pos (by omega)]
  cases h1 : diskOk d with
  | false => simp
  | true =>
    simp only [Bool.not_true, cond_false, true_and]
    rw [wr_id' (by omega) (by omega)]
    by_cases h3 : d.1.length + b.length ≤ 100000
    · have : decide ((d.1.length : Int) + b.length > 100000) = false := by simp; omega
      simp [h3, this]
    · have : decide ((d.1.length : Int) + b.length > 100000) = true := by simp; omega
      simp [h3, this]

theorem appendM_len (d : TDisk) (b : List UInt8) : (appendM d b).1.1.length ≤ d.1.length + b.length := by
  unfold appendM
  split <;> simp

theorem law_Append (d : TDisk) (b : List UInt8) (hd : DiskB d) (hb : b.length ≤ big) : laws_FnExactAppend (d, b, ()) = some (true, ()) := by
  unfold laws_FnExactAppend
  by_cases c1 : (b.length : Int) > 1048576
  · simp only [c1, decide_true, cond_true]
  simp only [c1, decide_false, cond_false, szDisk_eq d 1048576 (by decide) (by decide) hd, Option.bind_some]
  by_cases c2 : sub 1048576 d.1.length < 0
  · simp only [c2, decide_true, cond_true]
  have g := (sub_nonneg c2).1
  have hl := appendM_len d b
  have h1 : d.1.length ≤ 1048576 := by omega
  have h2 : b.length ≤ 1048576 := by omega
  simp only [c2, decide_false, cond_false, toDisk_eq d (by omega), toByteS_eq b (by omega), Option.bind_some, spec_Append_eq d b (by omega) (by omega), impl_Append_eq d b (by omega) (by omega),
    eqDisk_self _ (show (appendM d b).1.1.length ≤ 35184372088832 by omega), eqDisk_self d (by omega), eqByteS_self b (by omega), Bool.not_true, bne_self_eq_false,
    markDisk_eq d 1 (by decide) (by decide) (by omega), markByteS_eq b (1 + (d.1.length : Int)) (by omega) (by omega) (by omega),
    show decide (1 + (d.1.length : Int) + b.length < 0) = false by simp; omega,
    markDisk_eq (appendM d b).1 1 (by decide) (by decide) (by omega), heldDisk_eq (appendM d b).1 _ 1 (by decide) (by decide) (by omega),
    show decide (1 + ((appendM d b).1.1.length : Int) < 0) = false by simp; omega]

end G448

namespace G448
open Ev
set_option linter.unusedVariables false

theorem l1Min_eq (a b : Int) : spec_l1Min (a, b, ()) = some (if a < b then a else b, ()) := by
  unfold spec_l1Min
  dsimp only
  by_cases h : a < b
  · simp [h]
  · simp [h]

theorem l1Max_eq (a b : Int) : spec_l1Max (a, b, ()) = some (if a > b then a else b, ()) := by
  unfold spec_l1Max
  dsimp only
  by_cases h : a > b
  · simp [h]
  · simp [h]

/-- How much of a disk is left. -/
def fallN (d : TDisk) (keep : Int) : Int := d.2 + (if 0 > (if keep < (d.1.length : Int) - d.2 then keep else (d.1.length : Int) - d.2) then 0 else (if keep < (d.1.length : Int) - d.2 then keep else (d.1.length : Int) - d.2))

def fallM (d : TDisk) (keep : Int) : TDisk := if diskOk d = true then (d.1.take (fallN d keep).toNat, fallN d keep) else d

theorem diskOk_iff {d : TDisk} : diskOk d = true ↔ (d.1.length : Int) ≤ 100000 ∧ 0 ≤ d.2 ∧ d.2 ≤ (d.1.length : Int) := by
  simp [diskOk]

theorem fallN_bnd {d : TDisk} (h : diskOk d = true) (keep : Int) : 0 ≤ fallN d keep ∧ fallN d keep ≤ (d.1.length : Int) ∧ fallN d keep ≤ 100000 := by
  obtain ⟨h1, h2, h3⟩ := diskOk_iff.1 h
  unfold fallN
  split <;> split <;> omega

theorem spec_FallTo_eq (d : TDisk) (keep : Int) (h : d.1.length ≤ 17592186044416) : spec_FallTo (d, keep, ()) = some (fallM d keep, ()) := by
  unfold spec_FallTo fallM
  simp only [spec_l13Copy_eq d (by omega), spec_DiskOk_eq, Option.bind_some]
  cases hd : diskOk d with
  | false => simp
  | true =>
    obtain ⟨h1, h2, h3⟩ := diskOk_iff.1 hd
    obtain ⟨g1, g2, g3⟩ := fallN_bnd hd keep
    simp only [Bool.not_true, cond_false, wr_id' (show (-9223372036854775808 : Int) ≤ (d.1.length : Int) - d.2 by omega) (show (d.1.length : Int) - d.2 ≤ 9223372036854775807 by omega), l1Min_eq, l1Max_eq, Option.bind_some, if_true]
    rw [show d.2 + (if 0 > (if keep < (d.1.length : Int) - d.2 then keep else (d.1.length : Int) - d.2) then 0 else (if keep < (d.1.length : Int) - d.2 then keep else (d.1.length : Int) - d.2)) = fallN d keep from rfl,
      wr_id' (by omega) (by omega), if_pos ⟨Int.le_refl 0, g1, g2⟩]
    simp only [Int.toNat_zero, List.drop_zero, Nat.sub_zero, List.nil_append]
    rw [if_pos (by rw [List.length_take]; omega)]

theorem impl_FallTo_eq (d : TDisk) (keep : Int) (h : d.1.length ≤ 17592186044416) : impl_FallTo (d, keep, ()) = some (fallM d keep, ()) := by
  unfold impl_FallTo fallM
  simp only [impl_copyDisk_eq d (by omega), impl_DiskOk_eq, Option.bind_some]
  cases hd : diskOk d with
  | false => simp
  | true =>
    obtain ⟨h1, h2, h3⟩ := diskOk_iff.1 hd
    obtain ⟨g1, g2, g3⟩ := fallN_bnd hd keep
    have e : d.2 + mn (mx keep 0) ((d.1.length : Int) - d.2) = fallN d keep := by
      rw [mn_def, mx_def]
      unfold fallN
      repeat' split
      all_goals omega
    simp only [cond_true, wr_id' (show (-9223372036854775808 : Int) ≤ (d.1.length : Int) - d.2 by omega) (show (d.1.length : Int) - d.2 ≤ 9223372036854775807 by omega), e, if_true]
    rw [wr_id' (by omega) (by omega), if_pos ⟨Int.le_refl 0, g1, g2⟩]
    congr 3
    rw [List.length_take]
    omega

theorem fallM_len (d : TDisk) (keep : Int) : (fallM d keep).1.length ≤ d.1.length := by
  unfold fallM
  split
  · simp only [List.length_take]; omega
  · exact Nat.le_refl _

theorem law_FallTo (d : TDisk) (keep : Int) (hd : DiskB d) : laws_FnExactFallTo (d, keep, ()) = some (true, ()) := by
  unfold laws_FnExactFallTo
  simp only [szDisk_eq d 1048576 (by decide) (by decide) hd, Option.bind_some]
  by_cases c2 : sub 1048576 d.1.length < 0
  · simp only [c2, decide_true, cond_true]
  have g := (sub_nonneg c2).1
  have hl := fallM_len d keep
  have h1 : d.1.length ≤ 1048576 := by omega
  simp only [c2, decide_false, cond_false, toDisk_eq d (by omega), Option.bind_some, spec_FallTo_eq d keep (by omega), impl_FallTo_eq d keep (by omega),
    eqDisk_self _ (show (fallM d keep).1.length ≤ 35184372088832 by omega), eqDisk_self d (by omega), Bool.not_true, bne_self_eq_false,
    markDisk_eq d 1 (by decide) (by decide) (by omega), show decide (1 + (d.1.length : Int) < 0) = false by simp; omega,
    markDisk_eq (fallM d keep) 1 (by decide) (by decide) (by omega), heldDisk_eq (fallM d keep) _ 1 (by decide) (by decide) (by omega),
    show decide (1 + ((fallM d keep).1.length : Int) < 0) = false by simp; omega]

def syncM (d : TDisk) : TDisk := if diskOk d = true then (d.1, (d.1.length : Int)) else d

theorem spec_Sync_eq (d : TDisk) (h : d.1.length ≤ 17592186044416) : spec_Sync (d, ()) = some (syncM d, ()) := by
  unfold spec_Sync syncM
  simp only [spec_l13Copy_eq d (by omega), spec_DiskOk_eq, Option.bind_some]
  cases hd : diskOk d <;> simp

theorem impl_Sync_eq (d : TDisk) (h : d.1.length ≤ 17592186044416) : impl_Sync (d, ()) = some (syncM d, ()) := by
  unfold impl_Sync syncM
  simp only [impl_copyDisk_eq d (by omega), impl_DiskOk_eq, Option.bind_some]
  cases hd : diskOk d <;> simp

end G448

namespace G448
open Ev
set_option linter.unusedVariables false

abbrev TCur := List UInt8 × Int × Int

def CurOk (c : TCur) : Prop := c.1.length ≤ big ∧ 0 ≤ c.2.1

theorem band_255 (x : Int) : 0 ≤ band x 255 ∧ band x 255 ≤ 255 := by
  unfold band
  have h : (BitVec.ofInt 64 x &&& BitVec.ofInt 64 255).toNat ≤ 255 := by
    rw [BitVec.toNat_and]
    exact Nat.le_trans Nat.and_le_right (by decide)
  rw [wr_id' (by omega) (by omega)]
  omega

theorem tmod_bnds {a n : Int} (ha : 0 ≤ a) (hn : 0 < n) : 0 ≤ a.tmod n ∧ a.tmod n < n := by
  rw [Int.tmod_eq_emod_of_nonneg ha]
  exact ⟨Int.emod_nonneg _ (by omega), Int.emod_lt_of_pos _ hn⟩

theorem l1Byte_ens (c : TCur) (hc : CurOk c) : Ens (spec_l1Byte (c, ())) fun r => 0 ≤ r.1.2.1 ∧ 0 ≤ r.2.1 ∧ r.2.1 ≤ 255 := by
  obtain ⟨h1, h2⟩ := hc
  unfold spec_l1Byte
  refine Ens.cond (fun h => ?_) fun h => Ens.some ⟨h2, band_255 _⟩
  have h : c.2.1 < (c.1.length : Int) := by simpa using h
  refine Ens.ite ⟨h2, h⟩ (Ens.some ⟨?_, band_255 _⟩)
  dsimp only
  unfold big at h1
  rw [wr_id' (by omega) (by omega)]
  omega

theorem l1Below_ens (c : TCur) (n : Int) (hc : CurOk c) : Ens (spec_l1Below (c, n, ())) fun r => 0 ≤ r.1.2.1 ∧ 0 ≤ r.2.1 ∧ (0 < n → r.2.1 < n) := by
  unfold spec_l1Below
  refine Ens.cond (fun h => Ens.some ⟨hc.2, Int.le_refl _, fun h0 => h0⟩) fun h => ?_
  have h : 0 < n := by simpa using h
  refine Ens.cond (fun _ => ?_) fun _ => ?_
  · refine (l1Byte_ens c hc).bind fun r hr => ?_
    rw [if_neg (show ¬ n = 0 by omega)]
    obtain ⟨g1, g2⟩ := tmod_bnds hr.2.1 h
    exact Ens.some ⟨hr.1, g1, fun _ => g2⟩
  · refine (l1Byte_ens c hc).bind fun r1 hr1 => ?_
    refine (l1Byte_ens (c.1, r1.1.2) ⟨hc.1, hr1.1⟩).bind fun r2 hr2 => ?_
    refine (l1Byte_ens (c.1, r2.1.2) ⟨hc.1, hr2.1⟩).bind fun r3 hr3 => ?_
    refine (l1Byte_ens (c.1, r3.1.2) ⟨hc.1, hr3.1⟩).bind fun r4 hr4 => ?_
    rw [if_neg (show ¬ n = 0 by omega)]
    have e : wr (wr (wr (wr (r1.2.1 * 16777216) + wr (r2.2.1 * 65536)) + wr (r3.2.1 * 256)) + r4.2.1) = r1.2.1 * 16777216 + r2.2.1 * 65536 + r3.2.1 * 256 + r4.2.1 := by
      rw [wr_id' (n := r1.2.1 * 16777216) (by omega) (by omega), wr_id' (n := r2.2.1 * 65536) (by omega) (by omega), wr_id' (n := r3.2.1 * 256) (by omega) (by omega), wr_id' (n := r1.2.1 * 16777216 + r2.2.1 * 65536) (by omega) (by omega),
        wr_id' (n := r1.2.1 * 16777216 + r2.2.1 * 65536 + r3.2.1 * 256) (by omega) (by omega), wr_id' (by omega) (by omega)]
    obtain ⟨g1, g2⟩ := tmod_bnds (a := wr (wr (wr (wr (r1.2.1 * 16777216) + wr (r2.2.1 * 65536)) + wr (r3.2.1 * 256)) + r4.2.1)) (by rw [e]; omega) h
    exact Ens.some ⟨hr4.1, g1, fun _ => g2⟩

theorem l1Once_ens (c : TCur) (n : Int) (hc : CurOk c) : Ens (spec_l1Once (c, n, ())) fun r => 0 ≤ r.1.2.1 := by
  unfold spec_l1Once
  exact (l1Below_ens c n hc).bind fun r hr => Ens.some hr.1

theorem rd_mem {e : Ty} {l : List (den e)} {i : Nat} (h : i < l.length) : rd e l i ∈ l := by
  rw [rd_get (List.getElem?_eq_getElem h)]
  exact List.getElem_mem h

theorem l1PickInt_ens (c : TCur) (l : List Int) (hc : CurOk c) (hl : 0 < l.length) : Ens (spec_l1PickInt (c, l, ())) fun r => 0 ≤ r.1.2.1 ∧ r.2.1 ∈ l := by
  unfold spec_l1PickInt
  refine (l1Below_ens c _ hc).bind fun r hr => ?_
  have h : r.2.1 < (l.length : Int) := hr.2.2 (show (0 : Int) < (l.length : Int) by omega)
  have h0 : 0 ≤ r.2.1 := hr.2.1
  refine Ens.ite ⟨h0, h⟩ (Ens.some ⟨hr.1, rd_mem (e := .i64) ?_⟩)
  show r.2.1.toNat < l.length
  omega

theorem l1New_ens (code : List UInt8) (hb : code.length ≤ big) : Ens (spec_l1New (code, ())) fun r => CurOk r ∧ r.1 = code := by
  unfold spec_l1New
  refine Ens.loop (fun x => 0 ≤ x.2.1) (fun x => code.length - x.2.1.toNat) ?_ (Int.le_refl _) (by dsimp only; unfold big at hb; unfold fuel; omega)
  intro rec x hx hrec
  refine Ens.cond (fun h => ?_) fun h => Ens.some ⟨⟨hb, Int.le_refl _⟩, rfl⟩
  have h : x.2.1 < (code.length : Int) := by simpa using h
  refine Ens.cond (fun h2 => ?_) fun h2 => Ens.some ⟨⟨hb, Int.le_refl _⟩, rfl⟩
  refine Ens.ite ⟨hx, h⟩ ?_
  unfold big at hb
  rw [wr_id' (n := x.2.1 + 1) (by omega) (by omega)]
  refine hrec _ (by show 0 ≤ x.2.1 + 1; omega) (by show code.length - (x.2.1 + 1).toNat < code.length - x.2.1.toNat; omega)

/-! ### Numbers as bytes -/

/-- A number's bytes. -/
noncomputable def putN (n : Nat) : List UInt8 := if h : n > 127 then toB ((n % 128 + 128 : Nat) : Int) :: putN (n / 128) else [toB (n : Int)]
termination_by n
decreasing_by omega

noncomputable def putNum (n : Int) : List UInt8 := if 0 ≤ n ∧ n ≤ 2147483647 then putN n.toNat else []

theorem putN_big {n : Nat} (h : n > 127) : putN n = toB ((n % 128 + 128 : Nat) : Int) :: putN (n / 128) := by rw [putN, dif_pos h]
theorem putN_small {n : Nat} (h : ¬ n > 127) : putN n = [toB (n : Int)] := by rw [putN, dif_neg h]

theorem putN_len : ∀ (k n : Nat), n < 128 ^ k → (putN n).length ≤ k + (if k = 0 then 1 else 0)
  | 0, n, h => by
    have : n = 0 := by simpa using h
    subst this
    rw [putN_small (by omega)]
    simp
  | k + 1, n, h => by
    by_cases hn : n > 127
    · rw [putN_big hn]
      have h2 : n / 128 < 128 ^ k := by
        rw [Nat.pow_succ] at h
        omega
      have ih := putN_len k (n / 128) h2
      cases k with
      | zero => simp at h2; omega
      | succ k => simp at ih ⊢; omega
    · rw [putN_small hn]; simp

theorem putNum_len (n : Int) : (putNum n).length ≤ 5 := by
  unfold putNum
  split
  · next h => exact putN_len 5 n.toNat (by omega)
  · simp

theorem put_loop {G : (Int × List UInt8 × Unit → Option (List UInt8 × Unit)) → Int × List UInt8 × Unit → Option (List UInt8 × Unit)}
    (hend : ∀ rec (n : Nat) (out : List UInt8), ¬ n > 127 → out.length ≤ 1000 → G rec ((n : Int), out, ()) = some (out ++ [toB (n : Int)], ()))
    (hstep : ∀ rec (n : Nat) (out : List UInt8), n > 127 → n ≤ 2147483647 → out.length ≤ 1000 → G rec ((n : Int), out, ()) = rec (((n / 128 : Nat) : Int), out ++ [toB ((n % 128 + 128 : Nat) : Int)], ())) :
    ∀ (m n : Nat) (out : List UInt8), n < m → n ≤ 2147483647 → (n < 128 ^ 5 → out.length + (putN n).length ≤ 1000) → iter G m ((n : Int), out, ()) = some (out ++ putN n, ())
  | 0, n, out, h, _, _ => by omega
  | m + 1, n, out, h, hn, ho => by
    have ho' := ho (by omega)
    by_cases hc : n > 127
    · have e1 : iter G (m + 1) ((n : Int), out, ()) = iter G m (((n / 128 : Nat) : Int), out ++ [toB ((n % 128 + 128 : Nat) : Int)], ()) := hstep (iter G m) n out hc hn (by omega)
      rw [e1, put_loop hend hstep m (n / 128) _ (by omega) (by omega) (fun _ => by rw [putN_big hc] at ho'; simp at ho' ⊢; omega), putN_big hc]
      simp
    · have e1 : iter G (m + 1) ((n : Int), out, ()) = some (out ++ [toB (n : Int)], ()) := hend (iter G m) n out hc (by omega)
      rw [e1, putN_small hc]

theorem spec_l1In_eq (x lo hi : Int) : spec_l1In (x, lo, hi, ()) = some (decide (x ≥ lo) && decide (x ≤ hi), ()) := by
  unfold spec_l1In
  cases h : decide (x ≥ lo) <;> simp [h]

theorem impl_within_eq (x lo hi : Int) : impl_within (x, lo, hi, ()) = some (decide (x ≥ lo) && decide (x ≤ hi), ()) := by
  unfold impl_within
  cases h : decide (x ≥ lo) <;> simp [h]

theorem tdiv_nat (n m : Nat) : Int.tdiv (n : Int) (m : Int) = ((n / m : Nat) : Int) := by
  rw [Int.tdiv_eq_ediv_of_nonneg (by omega)]; rfl
theorem tmod_nat (n m : Nat) : Int.tmod (n : Int) (m : Int) = ((n % m : Nat) : Int) := by
  rw [Int.tmod_eq_emod_of_nonneg (by omega)]; rfl

theorem spec_PutNum_eq (n : Int) : spec_PutNum (n, ()) = some (putNum n, ()) := by
  unfold spec_PutNum putNum
  simp only [spec_l1In_eq, Option.bind_some]
  by_cases h : 0 ≤ n ∧ n ≤ 2147483647
  · have e1 : (decide (n ≥ 0) && decide (n ≤ 2147483647)) = true := by simp; omega
    simp only [e1, Bool.not_true, cond_false, if_pos h]
    obtain ⟨m, rfl⟩ := Int.eq_ofNat_of_zero_le h.1
    have hm : m ≤ 2147483647 := by omega
    have hl := putN_len 5 m (by omega)
    refine (put_loop ?_ ?_ fuel m [] (by unfold fuel; omega) hm (fun _ => by simp at hl ⊢; omega)).trans (by simp)
    · intro rec k out hk ho
      have : decide ((k : Int) > 127) = false := by simp; omega
      simp only [this, cond_false, List.length_cons, List.length_nil]
      rw [if_pos (by omega)]
    · intro rec k out hk hkm ho
      have : decide ((k : Int) > 127) = true := by simp; omega
      simp only [this, cond_true, List.length_cons, List.length_nil]
      rw [if_pos (by omega), show Int.tdiv (k : Int) 128 = ((k / 128 : Nat) : Int) from tdiv_nat k 128, show Int.tmod (k : Int) 128 = ((k % 128 : Nat) : Int) from tmod_nat k 128, wr_id' (by omega) (by omega), wr_id' (by omega) (by omega)]
      rfl
  · have e1 : (decide (n ≥ 0) && decide (n ≤ 2147483647)) = false := by simp; omega
    simp only [e1, Bool.not_false, cond_true, if_neg h]

/-! ### Drawn disks -/

theorem l1DrawNums_ens (c : TCur) (hc : CurOk c) : Ens (spec_l1DrawNums (c, ())) fun r => 0 ≤ r.1.2.1 ∧ r.2.1.length ≤ 1000 := by
  unfold spec_l1DrawNums
  refine Ens.loop (fun x => 0 ≤ x.2.1 ∧ x.2.1 ≤ 3 ∧ (x.1.length : Int) ≤ 5 * x.2.1 ∧ 0 ≤ x.2.2.1.2.1) (fun x => (4 - x.2.1).toNat) ?_ ⟨Int.le_refl _, (show (0 : Int) ≤ 3 by decide), by simp, hc.2⟩ (by dsimp only; unfold fuel; omega)
  intro rec x hx hrec
  obtain ⟨x1, x2, x3, x4⟩ := hx
  refine (l1Below_ens (c.1, x.2.2.1.2) 4 ⟨hc.1, x4⟩).bind fun r1 hr1 => ?_
  have h4 := hr1.2.2 (by decide)
  refine Ens.cond (fun h => ?_) fun h => ?_
  · have h : x.2.1 < r1.2.1 := by simpa using h
    refine (l1PickInt_ens (c.1, r1.1.2) _ ⟨hc.1, hr1.1⟩ (by simp)).bind fun r2 hr2 => ?_
    simp only [spec_PutNum_eq, Option.bind_some]
    have hl := putNum_len r2.2.1
    refine Ens.ite (by omega) ?_
    rw [wr_id' (n := x.2.1 + 1) (by omega) (by omega)]
    refine hrec _ ⟨?_, ?_, ?_, hr2.1⟩ ?_
    · show 0 ≤ x.2.1 + 1; omega
    · show x.2.1 + 1 ≤ 3; omega
    · show ((x.1 ++ putNum r2.2.1).length : Int) ≤ 5 * (x.2.1 + 1)
      simp only [List.length_append]; omega
    · show (4 - (x.2.1 + 1)).toNat < (4 - x.2.1).toNat; omega
  · refine (l1Once_ens (c.1, r1.1.2) 3 ⟨hc.1, hr1.1⟩).bind fun r4 hr4 => ?_
    refine Ens.cond (fun _ => ?_) fun _ => Ens.some ⟨hr4, by dsimp only; omega⟩
    refine (l1PickInt_ens (c.1, r4.1.2) _ ⟨hc.1, hr4⟩ (by simp)).bind fun r5 hr5 => ?_
    refine (l1Below_ens (c.1, r5.1.2) 3 ⟨hc.1, hr5.1⟩).bind fun r6 hr6 => ?_
    refine Ens.ite (by simp only [List.length_cons, List.length_nil]; omega) (Ens.some ⟨hr6.1, ?_⟩)
    simp only [List.length_append, List.length_cons, List.length_nil]; omega

theorem l13Draw_ens (c : TCur) (hc : CurOk c) : Ens (spec_l13Draw (c, ())) fun r => 0 ≤ r.1.2.1 ∧ r.2.1.1.length ≤ 1000000 := by
  unfold spec_l13Draw
  refine (l1DrawNums_ens c hc).bind fun r0 hr0 => ?_
  refine Ens.ite (by omega) ?_
  refine (l1Below_ens (c.1, r0.1.2) _ ⟨hc.1, hr0.1⟩).bind fun r1 hr1 => ?_
  refine (l1Below_ens (c.1, r1.1.2) 12 ⟨hc.1, hr1.1⟩).bind fun r2 hr2 => ?_
  refine Ens.cond (fun _ => ?_) fun _ => Ens.cond (fun _ => ?_) fun _ => ?_
  · refine (l1PickInt_ens (c.1, r2.1.2) _ ⟨hc.1, hr2.1⟩ (by simp)).bind fun r3 hr3 => Ens.some ⟨hr3.1, ?_⟩
    simp only [List.nil_append]; omega
  · refine (l1Below_ens (c.1, r2.1.2) 2 ⟨hc.1, hr2.1⟩).bind fun r4 hr4 => ?_
    have h := hr4.2.2 (by decide)
    have h0 := hr4.2.1
    rw [wr_id' (n := 100000 + r4.2.1) (by omega) (by omega)]
    refine Ens.ite rfl (Ens.ite (by omega) (Ens.some ⟨hr4.1, ?_⟩))
    simp only [List.length_replicate]; omega
  · refine Ens.some ⟨hr2.1, ?_⟩
    simp only [List.nil_append]; omega

theorem DrawFallTo_ens (code : List UInt8) (hb : code.length ≤ big) : Ens (spec_DrawFallTo (code, ())) fun r => r.1.1.length ≤ 1000000 := by
  unfold spec_DrawFallTo
  refine (l1New_ens code hb).bind fun r0 hr0 => (l13Draw_ens r0 hr0.1).bind fun r1 hr1 => ?_
  exact (l1PickInt_ens (r0.1, r1.1.2) _ ⟨hr0.1.1, hr1.1⟩ (by simp)).bind fun r2 hr2 => Ens.some hr1.2

theorem DrawAppend_ens (code : List UInt8) (hb : code.length ≤ big) : Ens (spec_DrawAppend (code, ())) fun r => r.1.1.length ≤ 1000000 ∧ r.2.1.length ≤ 1000 := by
  unfold spec_DrawAppend
  refine (l1New_ens code hb).bind fun r0 hr0 => (l13Draw_ens r0 hr0.1).bind fun r1 hr1 => ?_
  exact (l1DrawNums_ens (r0.1, r1.1.2) ⟨hr0.1.1, hr1.1⟩).bind fun r2 hr2 => Ens.some ⟨hr1.2, hr2.2⟩

theorem sameDisk_self (d : TDisk) : laws_sameDisk (d, d, ()) = some (true, ()) := by
  unfold laws_sameDisk
  simp

theorem law_Disks (code : List UInt8) (hb : code.length ≤ big) : laws_FnDisks (code, ()) = some (true, ()) := by
  unfold laws_FnDisks laws_big
  dsimp only
  by_cases hbig : (code.length : Int) > 1048576
  · simp [hbig]
  simp only [hbig, decide_false, Option.bind_some, cond_false]
  obtain ⟨⟨d, keep, _⟩, e1, h1⟩ := DrawFallTo_ens code hb
  obtain ⟨⟨d2, b2, _⟩, e2, h2, h3⟩ := DrawAppend_ens code hb
  simp only at h1 h2 h3
  simp only [e1, e2, Option.bind_some, impl_FallTo_eq d keep (by omega), spec_FallTo_eq d keep (by omega), impl_Append_eq d2 b2 (by omega) (by omega), spec_Append_eq d2 b2 (by omega) (by omega), impl_Sync_eq d (by omega), spec_Sync_eq d (by omega),
    sameDisk_self, Bool.not_true, cond_false, bne_self_eq_false, impl_DiskOk_eq, spec_DiskOk_eq]
  cases hd : diskOk d with
  | false =>
    have f1 : fallM d keep = d := by simp [fallM, hd]
    have f2 : syncM d = d := by simp [syncM, hd]
    simp only [f1, f2, Bool.not_false, cond_true, sameDisk_self, Option.bind_some]
  | true =>
    obtain ⟨g1, g2, g3⟩ := fallN_bnd hd keep
    obtain ⟨k1, k2, k3⟩ := diskOk_iff.1 hd
    have f1 : fallM d keep = (d.1.take (fallN d keep).toNat, fallN d keep) := by simp [fallM, hd]
    have f2 : syncM d = (d.1, (d.1.length : Int)) := by simp [syncM, hd]
    have hl : (d.1.take (fallN d keep).toNat).length = (fallN d keep).toNat := by rw [List.length_take]; omega
    have hs : d.2 ≤ fallN d keep := by
      unfold fallN
      repeat' split
      all_goals omega
    simp only [f1, f2, Bool.not_true, cond_false, hl]
    have h4 : decide ((((fallN d keep).toNat : Nat) : Int) ≥ d.2) = true := by simp; omega
    simp only [h4, cond_true]
    rw [if_pos ⟨Int.le_refl 0, by omega, by omega⟩]
    have h5 : (((fallN d keep).toNat : Nat) : Int) = fallN d keep := by omega
    simp only [Int.toNat_natCast, beq_self_eq_true, cond_true, h5]

end G448
