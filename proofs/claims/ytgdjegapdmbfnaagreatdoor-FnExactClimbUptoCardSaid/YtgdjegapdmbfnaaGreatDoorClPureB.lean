/- Plain laws, part 2: what the functions compute. No program in sight. -/
import Derived.Test.YtgdjegapdmbfnaaGreatDoorClPureA
set_option linter.unusedSimpArgs false
set_option linter.unusedVariables false

namespace G448

open Ev Go

set_option linter.unusedVariables false

set_option maxRecDepth 100000

/-- A replica in another view. -/
def inView (r : TRep) (v : Int) : TRep := (r.1, v, r.2.2)

theorem inView_ok {c : TConf} {r : TRep} {v : Int} (h : repOk c r = true) (hv : 1 ≤ v ∧ v ≤ 60) : repOk c (inView r v) = true := by
 obtain ⟨a, v0, k, sf, pool, tab, dk, held⟩ := r
 show repOk c (a, v, k, sf, pool, tab, dk, held) = true
 unfold repOk at h ⊢
 simp only [Bool.and_eq_true, decide_eq_true_eq] at h ⊢
 exact ⟨h.1, h.2.1, hv, h.2.2.2⟩

noncomputable def top (c : TConf) (r : TRep) (q : TQc) : TRep × Bool :=
 bif !(writeOwn c r (see c r.2.2.2.1 q)).2 then (r, false) else
 bif decide (q.1 + 1 > 60) then ((writeOwn c r (see c r.2.2.2.1 q)).1, true) else
 bif rootOf c (q.1 + 1) == r.1 then (inView (writeOwn c r (see c r.2.2.2.1 q)).1 (max (writeOwn c r (see c r.2.2.2.1 q)).1.2.1 (q.1 + 1)), true) else
 tellOwn c (inView (writeOwn c r (see c r.2.2.2.1 q)).1 (max (writeOwn c r (see c r.2.2.2.1 q)).1.2.1 (q.1 + 1))) (rootOf c (q.1 + 1)) (3, q.1 + 1, ([], 0, [], []), (0, [], []), q, r.1, 0, 0, 0, 0)

theorem writeOwn_ok {c : TConf} {r : TRep} {s : TSafe} (hr : repOk c r = true) (h : (writeOwn c r s).2 = true) : repOk c (writeOwn c r s).1 = true ∧ (writeOwn c r s).1.1 = r.1 ∧ (writeOwn c r s).1.2.1 = r.2.1 := by
 unfold writeOwn at *
 cases h1 : safeSame r.2.2.2.1 s
 ·rw [h1] at h
  cases h2 : (appendM r.2.2.2.2.2.2.1 (noteBytes c s)).2
  ·rw [h2] at h; cases h
  ·cases h3 : safeOk c s
   ·rw [h2, h3] at h; cases h
   ·simp only [cond_false, Bool.and_self, cond_true]
    exact ⟨by rw [withSafe_ok hr (appendM_ok h2), h3], rfl, rfl⟩
 ·exact ⟨hr, rfl, rfl⟩

theorem qc_view {c : TConf} {q : TQc} (h : qcOk c q = true) : 0 ≤ q.1 ∧ q.1 ≤ 60 := by
 unfold qcOk at h
 simp only [Bool.and_eq_true, beq_iff_eq] at h
 obtain ⟨_, hn, hv, _⟩ := h
 by_cases h0 : q.2.1 = []
 ·have := name_nil.2
  rw [← h0, hv] at this
  omega
 ·have := name_view hn h0
  omega

theorem msg3_w (q : TQc) (v me : Int) : wMsg (3, v, ([], 0, [], []), (0, [], []), q, me, 0, 0, 0, 0) = wQc q := by
 simp [wMsg, wBlock, wPart, wQc, wIntS]

theorem wOwn_w (c : TConf) (r : TRep) (s : TSafe) : wRep (writeOwn c r s).1 ≤ wRep r + wSafe s + (r.2.2.2.2.2.2.1.1.length + (noteBytes c s).length) := by
 unfold writeOwn
 cases safeSame r.2.2.2.1 s
 ·cases h2 : ((appendM r.2.2.2.2.2.2.1 (noteBytes c s)).2 && safeOk c s)
  ·simp only [cond_false]; omega
  ·simp only [cond_false, cond_true]
   have := withSafe_w r s (appendM r.2.2.2.2.2.2.1 (noteBytes c s)).1
   have h3 : (appendM r.2.2.2.2.2.2.1 (noteBytes c s)).1.1.length ≤ r.2.2.2.2.2.2.1.1.length + (noteBytes c s).length := by
    unfold appendM
    split
    ·simp
    ·simp
   omega
 ·simp only [cond_true]; omega

theorem write_w2 (c : TConf) (r : TRep) (q : TQc) : wRep (writeOwn c r (see c r.2.2.2.1 q)).1 ≤ 100 + 20 * wRep r + 20 * wQc q := by
 have h1 := wOwn_w c r (see c r.2.2.2.1 q)
 have h2 := see_w c r.2.2.2.1 q
 have h3 := noteBytes_len c (see c r.2.2.2.1 q)
 have h4 : wSafe r.2.2.2.1 + r.2.2.2.2.2.2.1.1.length ≤ wRep r := by simp only [wRep, wDisk]; omega
 omega

theorem spec_l16Top_eq (c : TConf) (r : TRep) (p : TPart) (hok : repOk c r = true) (hr : wRep r ≤ 10000000) (hp : wPart p ≤ 10000000) :
  spec_l16Top (c, r, p, ()) = some ((bif (partQc c p).2 then top c r p else (r, false)).1, (bif (partQc c p).2 then top c r p else (r, false)).2, ()) := by
 have hs : wSafe r.2.2.2.1 ≤ 10000000 := by simp only [wRep] at hr; omega
 have hpq : wQc p ≤ 10000000 := hp
 unfold spec_l16Top
 dsimp only
 rw [spec_PartQc_eq c p (by omega), Option.bind_some]
 cases h : (partQc c p).2
 ·rfl
 ·obtain ⟨e, hq⟩ := partQc_ok h
  have hv := qc_view hq
  have hsee := see_w c r.2.2.2.1 p
  have hww := write_w2 c r p
  dsimp only
  simp only [Bool.not_true, cond_false, cond_true]
  rw [e, spec_See_eq c r.2.2.2.1 p (by omega) (by omega), Option.bind_some, spec_l15Write_eq c r (see c r.2.2.2.1 p) (by omega) (by omega), Option.bind_some, wr_id' (show -9223372036854775808 ≤ p.1 + 1 by omega) (by omega)]
  unfold top
  cases hw : (writeOwn c r (see c r.2.2.2.1 p)).2
  ·rfl
  ·obtain ⟨o1, o2, o3⟩ := writeOwn_ok hok hw
   simp only [Bool.not_true, cond_false, cond_true, spec_max_eq, spec_Root_eq, Option.bind_some]
   cases decide (p.1 + 1 > 60)
   ·simp only [cond_false]
    cases (rootOf c (p.1 + 1) == r.1)
    ·simp only [cond_false]
     have hm := msg3_w p (p.1 + 1) r.1
     rw [spec_l16Tell_eq c _ _ _ (repOk_conf hok) (by show wRep (inView (writeOwn c r (see c r.2.2.2.1 p)).1 _) ≤ _; simp only [inView, wRep] at hww hr ⊢; omega) (by omega), Option.bind_some]
     rfl
    ·rfl
   ·rfl

theorem impl_crown_eq (c : TConf) (r : TRep) (p : TQc) (hok : repOk c r = true) (hq : qcOk c p = true) (hr : wRep r ≤ 10000000) (hp : wQc p ≤ 10000000) :
  impl_crown (c, r, p, ()) = some ((top c r p).1, (top c r p).2, ()) := by
 have hs : wSafe r.2.2.2.1 ≤ 10000000 := by simp only [wRep] at hr; omega
 have hv := qc_view hq
 have hsee := see_w c r.2.2.2.1 p
 have hww := write_w2 c r p
 have hwe : write c r (see c r.2.2.2.1 p) = writeOwn c r (see c r.2.2.2.1 p) := by unfold write; rw [hok]; rfl
 unfold impl_crown
 dsimp only
 rw [impl_See_eq c r.2.2.2.1 p (by omega) (by omega), Option.bind_some, impl_Write_eq c r (see c r.2.2.2.1 p) (by omega) (by omega), Option.bind_some, wr_id' (show -9223372036854775808 ≤ p.1 + 1 by omega) (by omega), hwe]
 unfold top
 cases hw : (writeOwn c r (see c r.2.2.2.1 p)).2
 ·rfl
 ·obtain ⟨o1, o2, o3⟩ := writeOwn_ok hok hw
  simp only [Bool.not_true, cond_false, cond_true, mx_max, impl_Root_eq, Option.bind_some]
  by_cases h60 : p.1 + 1 > 60
  ·simp only [h60, decide_true, cond_true]
  ·simp only [h60, decide_false, cond_false, bne]
   cases (rootOf c (p.1 + 1) == r.1)
   ·simp only [cond_false, cond_true, Bool.not_false]
    have hm := msg3_w p (p.1 + 1) r.1
    have hrv := repOk_view hok
    have hk := inView_ok (v := max (writeOwn c r (see c r.2.2.2.1 p)).1.2.1 (p.1 + 1)) o1 (by rw [o3]; omega)
    rw [impl_Tell_eq c _ _ _ (by show wRep (inView (writeOwn c r (see c r.2.2.2.1 p)).1 _) ≤ _; simp only [inView, wRep] at hww hr ⊢; omega) (by omega), Option.bind_some]
    show (bif (tell c (inView (writeOwn c r (see c r.2.2.2.1 p)).1 (max (writeOwn c r (see c r.2.2.2.1 p)).1.2.1 (p.1 + 1))) _ _).2 then some ((tell c (inView _ _) _ _).1, (tell c (inView _ _) _ _).2, ()) else some ((tell c (inView _ _) _ _).1, (tell c (inView _ _) _ _).2, ())) = _
    rw [← tell_own _ _ hk]
    cases (tellOwn c (inView (writeOwn c r (see c r.2.2.2.1 p)).1 (max (writeOwn c r (see c r.2.2.2.1 p)).1.2.1 (p.1 + 1))) (rootOf c (p.1 + 1)) (3, p.1 + 1, ([], 0, [], []), (0, [], []), p, r.1, 0, 0, 0, 0)).2 <;> rfl
   ·rfl

noncomputable def climbIn (c : TConf) (r : TRep) (v : Int) (name : List UInt8) (force : Bool) : TRep × Bool :=
 bif (((tableGet r.2.2.2.2.2.1 v name).2.2.length : Int) == 0) then (r, false) else bif name == [] then (r, false) else
 bif rootOf c v == r.1 then (bif (partQc c (tableGet r.2.2.2.2.2.1 v name)).2 then top c r (tableGet r.2.2.2.2.2.1 v name) else (r, false)) else
 bif !force && decide ((common (under c v r.1) (tableGet r.2.2.2.2.2.1 v name).2.2 : Int) < ((under c v r.1).length : Int)) then (r, false) else
 tellOwn c r (up c v r.1) (2, 0, ([], 0, [], []), tableGet r.2.2.2.2.2.1 v name, (0, [], []), 0, 0, 0, 0, 0)

noncomputable def climb (c : TConf) (r : TRep) (v : Int) (name : List UInt8) (force : Bool) : TRep × Bool :=
 bif repOk c r && (climbIn c r v name force).2 then ((climbIn c r v name force).1, true) else (r, false)

theorem tableGet_w (l : TPartS) (v : Int) (name : List UInt8) : wPart (tableGet l v name) ≤ wPartS l + name.length := by
 unfold tableGet
 cases h : l.find? (fun p => p.1 == v && p.2.1 == name) with
 | none => simp [wPart, wIntS]
 | some p =>
  have := sum_mem wPart (List.mem_of_find?_eq_some h)
  simp only [wPartS]; omega

theorem msg2_w (p : TPart) : wMsg (2, 0, ([], 0, [], []), p, (0, [], []), 0, 0, 0, 0, 0) = wPart p := by
 simp [wMsg, wBlock, wPart, wQc, wIntS]

theorem spec_l16Climb_eq (c : TConf) (r : TRep) (v : Int) (name : List UInt8) (force : Bool) (hok : repOk c r = true) (hr : wRep r ≤ 5000000) (hn : name.length ≤ 5000000) :
  spec_l16Climb (c, r, v, name, force, ()) = some ((climbIn c r v name force).1, (climbIn c r v name force).2, ()) := by
 have ht : wPartS r.2.2.2.2.2.1 ≤ 5000000 := by simp only [wRep] at hr; omega
 have hg := tableGet_w r.2.2.2.2.2.1 v name
 have hl : (tableGet r.2.2.2.2.2.1 v name).2.2.length ≤ 10000000 := by
  have : (tableGet r.2.2.2.2.2.1 v name).2.2.length ≤ wPart (tableGet r.2.2.2.2.2.1 v name) := by simp only [wPart, wIntS]; omega
  omega
 have hu := under_len c v r.1
 unfold spec_l16Climb climbIn
 dsimp only
 rw [spec_TableGet_eq _ v name (by omega), Option.bind_some]
 generalize hP : tableGet r.2.2.2.2.2.1 v name = p at *
 dsimp only
 cases ((p.2.2.length : Int) == 0)
 ·simp only [cond_false]
  cases (name == ([] : List UInt8))
  ·simp only [cond_false, spec_Root_eq, Option.bind_some]
   cases (rootOf c v == r.1)
   ·simp only [cond_false, spec_Under_eq, Option.bind_some, spec_Common_eq _ p.2.2 (show (under c v r.1).length ≤ 1073741824 by omega) (by omega), spec_Up_eq]
    have hm := msg2_w p
    rw [spec_l16Tell_eq c r _ _ (repOk_conf hok) (by omega) (by omega)]
    cases force
    ·simp only [Bool.not_false, cond_true, Bool.true_and]
     cases decide ((common (under c v r.1) p.2.2 : Int) < ((under c v r.1).length : Int)) <;> rfl
    ·rfl
   ·simp only [cond_true]
    rw [spec_l16Top_eq c r p hok (by omega) (by omega), Option.bind_some]
  ·rfl
 ·rfl

theorem spec_Climb_eq (c : TConf) (r : TRep) (v : Int) (name : List UInt8) (force : Bool) (hr : wRep r ≤ 5000000) (hn : name.length ≤ 5000000) :
  spec_Climb (c, r, v, name, force, ()) = some ((climb c r v name force).1, (climb c r v name force).2, ()) := by
 unfold spec_Climb climb
 dsimp only
 rw [spec_RepOk_eq c r (by omega), Option.bind_some, spec_l15Copy_eq r (by omega), Option.bind_some, Option.bind_some]
 cases hok : repOk c r
 ·rfl
 ·simp only [Bool.not_true, cond_false, Bool.true_and]
  rw [spec_l16Climb_eq c r v name force hok hr hn, Option.bind_some]
  cases (climbIn c r v name force).2 <;> rfl

theorem tell_no {c : TConf} {r : TRep} {to : Int} {m : TMsg} (h : (tellOwn c r to m).2 = false) : (tellOwn c r to m).1 = r := by
 unfold tellOwn at *
 cases hc : (!decide ((r.2.2.2.2.2.2.2.length : Int) ≥ 30) && heldOk c r.1 (to, m))
 ·rfl
 ·rw [hc] at h; cases h

theorem impl_Climb_eq (c : TConf) (r : TRep) (v : Int) (name : List UInt8) (force : Bool) (hr : wRep r ≤ 5000000) (hn : name.length ≤ 5000000) :
  impl_Climb (c, r, v, name, force, ()) = some ((climb c r v name force).1, (climb c r v name force).2, ()) := by
 have ht : wPartS r.2.2.2.2.2.1 ≤ 5000000 := by simp only [wRep] at hr; omega
 have hg := tableGet_w r.2.2.2.2.2.1 v name
 have hl : (tableGet r.2.2.2.2.2.1 v name).2.2.length ≤ 10000000 := by
  have : (tableGet r.2.2.2.2.2.1 v name).2.2.length ≤ wPart (tableGet r.2.2.2.2.2.1 v name) := by simp only [wPart, wIntS]; omega
  omega
 have hu := under_len c v r.1
 unfold impl_Climb climb climbIn
 dsimp only
 rw [impl_TableGet_eq _ v name (by omega), Option.bind_some]
 generalize hP : tableGet r.2.2.2.2.2.1 v name = p at *
 dsimp only
 rw [impl_copyRep_eq r (by omega), impl_RepOk_eq c r (by omega), Option.bind_some, Option.bind_some]
 cases ((p.2.2.length : Int) == 0)
 ·cases hok : repOk c r
  ·rfl
  ·simp only [cond_false, Bool.not_true, Bool.true_and]
   cases (name == ([] : List UInt8))
   ·simp only [cond_false, impl_Root_eq, Option.bind_some]
    cases (rootOf c v == r.1)
    ·simp only [cond_false, impl_Under_eq, Option.bind_some, impl_Common_eq _ p.2.2 (show (under c v r.1).length ≤ 1073741824 by omega) (by omega), impl_Up_eq]
     have hm := msg2_w p
     rw [impl_Tell_eq c r _ _ (by omega) (by omega), ← tell_own _ _ hok, Option.bind_some]
     cases ht2 : (tellOwn c r (up c v r.1) (2, 0, ([], 0, [], []), p, (0, [], []), 0, 0, 0, 0, 0)).2
     ·have hno := tell_no ht2
      cases force
      ·simp only [Bool.not_false, cond_true, Bool.true_and]
       cases decide ((common (under c v r.1) p.2.2 : Int) < ((under c v r.1).length : Int))
       ·simp only [cond_false, hno, ht2]
       ·rfl
      ·simp only [Bool.not_true, Bool.false_and, cond_false, hno, ht2]
     ·cases force
      ·simp only [Bool.not_false, cond_true, Bool.true_and]
       cases decide ((common (under c v r.1) p.2.2 : Int) < ((under c v r.1).length : Int))
       ·simp only [cond_false, ht2, cond_true]
       ·rfl
      ·simp only [Bool.not_true, Bool.false_and, cond_false, ht2, cond_true]
    ·simp only [cond_true]
     rw [impl_PartQc_eq c p (by omega), Option.bind_some]
     cases h : (partQc c p).2
     ·rfl
     ·obtain ⟨e, hq⟩ := partQc_ok h
      have hpq : wQc p ≤ 10000000 := (by omega : wPart p ≤ 10000000)
      dsimp only
      simp only [Bool.not_true, cond_false, cond_true]
      rw [e, impl_crown_eq c r p hok hq (by omega) hpq, Option.bind_some]
      cases (top c r p).2 <;> rfl
   ·rfl
 ·cases repOk c r <;> rfl

theorem top_w (c : TConf) (r : TRep) (q : TQc) : wRep (top c r q).1 ≤ 200 + 21 * wRep r + 21 * wQc q := by
 have hww := write_w2 c r q
 unfold top
 cases (writeOwn c r (see c r.2.2.2.1 q)).2
 ·simp only [Bool.not_false, cond_true]; omega
 ·cases decide (q.1 + 1 > 60)
  ·cases (rootOf c (q.1 + 1) == r.1)
   ·simp only [Bool.not_true, cond_false]
    unfold tellOwn
    cases (!decide (((inView (writeOwn c r (see c r.2.2.2.1 q)).1 (max (writeOwn c r (see c r.2.2.2.1 q)).1.2.1 (q.1 + 1))).2.2.2.2.2.2.2.length : Int) ≥ 30) && heldOk c (inView (writeOwn c r (see c r.2.2.2.1 q)).1 (max (writeOwn c r (see c r.2.2.2.1 q)).1.2.1 (q.1 + 1))).1 (rootOf c (q.1 + 1), (3, q.1 + 1, ([], 0, [], []), (0, [], []), q, r.1, 0, 0, 0, 0)))
    ·simp only [cond_false, inView, wRep] at hww ⊢; omega
    ·simp only [cond_true, holdOne, inView, wRep, wPostS, wPost, List.length_append, List.map_append, List.sum_append, List.map_cons, List.map_nil, List.sum_cons, List.sum_nil, List.length_cons, List.length_nil, msg3_w] at hww ⊢
     omega
   ·simp only [Bool.not_true, cond_false, cond_true, inView, wRep] at hww ⊢; omega
  ·simp only [Bool.not_true, cond_false, cond_true]; omega

theorem climb_w (c : TConf) (r : TRep) (v : Int) (name : List UInt8) (force : Bool) : wRep (climb c r v name force).1 ≤ 300 + 50 * wRep r + 50 * name.length := by
 have hg := tableGet_w r.2.2.2.2.2.1 v name
 have ht : wPartS r.2.2.2.2.2.1 ≤ wRep r := by simp only [wRep]; omega
 have h1 := top_w c r (tableGet r.2.2.2.2.2.1 v name)
 have h2 : wQc (tableGet r.2.2.2.2.2.1 v name) ≤ wRep r + name.length := (by omega : wPart (tableGet r.2.2.2.2.2.1 v name) ≤ wRep r + name.length)
 unfold climb
 cases (repOk c r && (climbIn c r v name force).2)
 ·simp only [cond_false]; omega
 ·simp only [cond_true]
  unfold climbIn
  cases (((tableGet r.2.2.2.2.2.1 v name).2.2.length : Int) == 0)
  ·cases (name == ([] : List UInt8))
   ·cases (rootOf c v == r.1)
    ·simp only [cond_false]
     cases (!force && decide ((common (under c v r.1) (tableGet r.2.2.2.2.2.1 v name).2.2 : Int) < ((under c v r.1).length : Int)))
     ·simp only [cond_false]
      unfold tellOwn
      have hm := msg2_w (tableGet r.2.2.2.2.2.1 v name)
      generalize tableGet r.2.2.2.2.2.1 v name = p at *
      cases (!decide ((r.2.2.2.2.2.2.2.length : Int) ≥ 30) && heldOk c r.1 (up c v r.1, (2, 0, ([], 0, [], []), p, (0, [], []), 0, 0, 0, 0, 0)))
      ·simp only [cond_false]; omega
      ·simp only [cond_true, holdOne, wRep, wPostS, wPost, List.length_append, List.map_append, List.sum_append, List.map_cons, List.map_nil, List.sum_cons, List.sum_nil, List.length_cons, List.length_nil, hm] at *
       omega
     ·simp only [cond_true]; omega
    ·simp only [cond_false, cond_true]
     cases (partQc c (tableGet r.2.2.2.2.2.1 v name)).2
     ·simp only [cond_false]; omega
     ·simp only [cond_true]; omega
   ·simp only [cond_false, cond_true]; omega
  ·simp only [cond_true]; omega

theorem law_Climb (c : TConf) (r : TRep) (v : Int) (name : List UInt8) (force : Bool) (hb : bRep r) : laws_FnExactClimb (c, r, v, name, force, ()) = some (true, ()) := by
 unfold laws_FnExactClimb
 by_cases k0 : (name.length : Int) > 1048576
 ·simp only [k0, decide_true, cond_true]
 simp only [k0, decide_false, cond_false, szRep_eq r 1048576 (by decide) (by decide) hb, Option.bind_some]
 by_cases k : sub 1048576 (wRep r) < 0
 ·simp only [k, decide_true, cond_true]
 have g := (sub_nonneg k).1
 have w1 := climb_w c r v name force
 have hd := dRep_le r
 have hd1 := dRep_le (climb c r v name force).1
 simp only [k, decide_false, cond_false, toConf_eq, toRep_eq r (by omega), Option.bind_some, spec_Climb_eq c r v name force (by omega) (by omega), impl_Climb_eq c r v name force (by omega) (by omega), eqRep_self r (by omega), eqRep_self (climb c r v name force).1 (by omega), Bool.not_true, bne_self_eq_false,
  markRep_eq' r 1 (by decide) (by omega), neg_no (n := dRep r) (show (0 : Int) ≤ 1 by decide), markRep_eq' (climb c r v name force).1 1 (by decide) (by omega), heldRep_eq' (climb c r v name force).1 _ _ _ _ _ _ _ _ _ 1 (by decide) (by omega), neg_no (n := dRep (climb c r v name force).1) (show (0 : Int) ≤ 1 by decide)]

end G448

namespace G448

open Ev Go

set_option linter.unusedVariables false

set_option maxRecDepth 100000

noncomputable def setK (l : List Int) (x : Int) : Nat := firstAt (fun y => decide (y ≥ x)) 0 l

noncomputable def setAdd (l : List Int) (x : Int) : List Int := bif l.any (· == x) then l else l.take (setK l x) ++ x :: l.drop (setK l x)

theorem setAdd_len (l : List Int) (x : Int) : (setAdd l x).length ≤ l.length + 1 := by
 have hle : setK l x ≤ l.length := by have := (firstAt_le (fun y => decide (y ≥ x)) l 0).2; unfold setK; omega
 unfold setAdd
 cases l.any (· == x)
 ·simp only [cond_false, List.length_append, List.length_cons, List.length_take, List.length_drop]; omega
 ·simp only [cond_true]; omega

end G448

namespace G448

open Ev Go

set_option linter.unusedVariables false

set_option maxRecDepth 100000

noncomputable def setJoin (a b : List Int) : List Int := b.foldl setAdd (a.foldl setAdd [])

theorem setFold_len : ∀ (l s : List Int), (l.foldl setAdd s).length ≤ s.length + l.length
 | [], s => by simp
 | x :: l, s => by
  have h1 := setAdd_len s x
  have h2 := setFold_len l (setAdd s x)
  simp only [List.foldl_cons, List.length_cons]; omega

theorem setJoin_len (a b : List Int) : (setJoin a b).length ≤ a.length + b.length := by
 have h1 := setFold_len a []
 have h2 := setFold_len b (a.foldl setAdd [])
 simp only [setJoin, List.length_nil] at *; omega

noncomputable def partJoin (a b : TPart) : TPart × Bool := bif a.1 == b.1 && a.2.1 == b.2.1 then ((a.1, a.2.1, setJoin a.2.2 b.2.2), true) else ((0, [], []), false)

theorem partJoin_w (a b : TPart) : wPart (partJoin a b).1 ≤ wPart a + wPart b := by
 have h := setJoin_len a.2.2 b.2.2
 unfold partJoin
 cases (a.1 == b.1 && a.2.1 == b.2.1)
 ·simp [wPart, wIntS]
 ·simp only [cond_true, wPart, wIntS]; omega

noncomputable def tabGo (p : TPart) : TPartS → TPartS
 | [] => [p]
 | q :: r => bif beforePart q p then q :: tabGo p r else bif (partJoin q p).2 then (partJoin q p).1 :: r else p :: q :: r

theorem tabGo_w (p : TPart) : ∀ (l : TPartS), wPartS (tabGo p l) ≤ wPartS l + wPart p + 1
 | [] => by simp [tabGo, wPartS]; omega
 | q :: r => by
  have h := tabGo_w p r
  have h2 := partJoin_w q p
  simp only [tabGo]
  cases beforePart q p
  ·cases (partJoin q p).2
   ·simp only [cond_false, wPartS, List.length_cons, List.map_cons, List.sum_cons]; omega
   ·simp only [cond_false, cond_true, wPartS, List.length_cons, List.map_cons, List.sum_cons]; omega
  ·simp only [cond_true, wPartS, List.length_cons, List.map_cons, List.sum_cons] at h ⊢; omega

end G448

namespace G448

open Ev Go

set_option linter.unusedVariables false

set_option maxRecDepth 100000

theorem wPartS_app (a b : TPartS) : wPartS (a ++ b) = wPartS a + wPartS b := by
 simp only [wPartS, List.length_append, List.map_append, List.sum_append]; omega

def TabI (l : TPartS) (p : TPart) (i : Nat) (s : TPartS × Bool) : Prop :=
 (s.2 = true ∧ s.1 ++ l.drop i = tabGo p l) ∨ (s.2 = false ∧ s.1 ++ tabGo p (l.drop i) = tabGo p l)

theorem TabI.w {l : TPartS} {p : TPart} {i : Nat} {s : TPartS × Bool} (h : TabI l p i s) : wPartS s.1 ≤ wPartS l + wPart p + 1 := by
 have h0 := tabGo_w p l
 rcases h with ⟨_, h⟩ | ⟨_, h⟩ <;> rw [← h, wPartS_app] at h0 <;> omega

end G448
