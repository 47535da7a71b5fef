/-
  Plain mathematics of the hours' walks: the two calendars. No Go in it. No condition.
-/
import Derived.RowKit
set_option linter.unusedVariables false
namespace Go.Proofs.YtomlfliebolkmaaDoor.Pl

def lpC (y : Int) : Int := y / 4 - y / 128
def lpM (y : Int) : Int := (11 * y + 14) / 30
def stC (y : Int) : Int := 365 * (y - 1) + lpC (y - 1)
def stM (y : Int) : Int := 354 * (y - 1) + lpM (y - 1)
def mlC (y m : Int) : Int := if m ≤ 12 then 30 else 5 + (lpC y - lpC (y - 1))
def mlM (y m : Int) : Int := if m = 12 then 29 + (lpM y - lpM (y - 1)) else 30 - (m - 1) % 2
def cuC (m : Int) : Int := 30 * (m - 1)
def cuM (m : Int) : Int := 59 * ((m - 1) / 2) + 30 * ((m - 1) % 2)

theorem lpC_step (y : Int) : 0 ≤ lpC y - lpC (y - 1) ∧ lpC y - lpC (y - 1) ≤ 1 := by unfold lpC; omega
theorem lpM_step (y : Int) : 0 ≤ lpM y - lpM (y - 1) ∧ lpM y - lpM (y - 1) ≤ 1 := by unfold lpM; omega
theorem stC_step (y : Int) : stC (y + 1) = stC y + 365 + (lpC y - lpC (y - 1)) := by unfold stC; rw [show y + 1 - 1 = y by omega]; omega
theorem stM_step (y : Int) : stM (y + 1) = stM y + 354 + (lpM y - lpM (y - 1)) := by unfold stM; rw [show y + 1 - 1 = y by omega]; omega
theorem stC_add (y : Int) (n : Nat) : stC y + 365 * n ≤ stC (y + n) := by
  induction n with
  | zero => simp
  | succ n ih =>
    have h := stC_step (y + n); have := lpC_step (y + n)
    rw [show y + ((n + 1 : Nat) : Int) = y + n + 1 by omega]; omega
theorem stM_add (y : Int) (n : Nat) : stM y + 354 * n ≤ stM (y + n) := by
  induction n with
  | zero => simp
  | succ n ih =>
    have h := stM_step (y + n); have := lpM_step (y + n)
    rw [show y + ((n + 1 : Nat) : Int) = y + n + 1 by omega]; omega
theorem stC_mono {y z : Int} (h : y ≤ z) : stC y + 365 * (z - y) ≤ stC z := by
  have := stC_add y (z - y).toNat; rw [show y + ((z - y).toNat : Int) = z by omega] at this; omega
theorem stM_mono {y z : Int} (h : y ≤ z) : stM y + 354 * (z - y) ≤ stM z := by
  have := stM_add y (z - y).toNat; rw [show y + ((z - y).toNat : Int) = z by omega] at this; omega

/-- y is the year of the day. -/
def YrC (day y : Int) : Prop := 1 ≤ y ∧ y ≤ 9999 ∧ stC y ≤ day ∧ day < stC (y + 1)
def YrM (day y : Int) : Prop := 1 ≤ y ∧ y ≤ 9999 ∧ stM y ≤ day ∧ day < stM (y + 1)
theorem YrC.unique {day y z : Int} (h : YrC day y) (k : YrC day z) : y = z := by
  obtain ⟨_, _, a, b⟩ := h; obtain ⟨_, _, c, d⟩ := k
  rcases Int.lt_trichotomy y z with e | e | e
  · have := stC_mono (show y + 1 ≤ z by omega); omega
  · exact e
  · have := stC_mono (show z + 1 ≤ y by omega); omega
theorem YrM.unique {day y z : Int} (h : YrM day y) (k : YrM day z) : y = z := by
  obtain ⟨_, _, a, b⟩ := h; obtain ⟨_, _, c, d⟩ := k
  rcases Int.lt_trichotomy y z with e | e | e
  · have := stM_mono (show y + 1 ≤ z by omega); omega
  · exact e
  · have := stM_mono (show z + 1 ≤ y by omega); omega

def IsC (day y m d : Int) : Prop := 1 ≤ y ∧ y ≤ 9999 ∧ 1 ≤ m ∧ m ≤ 13 ∧ 1 ≤ d ∧ d ≤ mlC y m ∧ day = stC y + cuC m + d - 1
def IsM (day y m d : Int) : Prop := 1 ≤ y ∧ y ≤ 9999 ∧ 1 ≤ m ∧ m ≤ 12 ∧ 1 ≤ d ∧ d ≤ mlM y m ∧ day = stM y + cuM m + d - 1

theorem cuC_step (y m : Int) (h : m ≤ 12) : cuC (m + 1) = cuC m + mlC y m := by unfold cuC mlC; rw [if_pos h]; omega
theorem cuM_step (y m : Int) (h : m ≤ 11) : cuM (m + 1) = cuM m + mlM y m := by unfold cuM mlM; rw [if_neg (by omega)]; rcases Int.emod_two_eq (m - 1) with e | e <;> omega
theorem cuC_last (y : Int) : cuC 13 + mlC y 13 = stC (y + 1) - stC y := by
  rw [stC_step]; unfold cuC mlC; rw [if_neg (by omega)]; omega
theorem cuM_last (y : Int) : cuM 12 + mlM y 12 = stM (y + 1) - stM y := by
  rw [stM_step]; unfold cuM mlM; rw [if_pos rfl]; omega
theorem mlC_bd (y m : Int) : 5 ≤ mlC y m ∧ mlC y m ≤ 30 := by have := lpC_step y; unfold mlC; split <;> omega
theorem mlM_bd (y m : Int) : 29 ≤ mlM y m ∧ mlM y m ≤ 30 := by have := lpM_step y; unfold mlM; split <;> omega
theorem cuC_mono {y m n : Int} (h : m < n) (hn : n ≤ 13) : cuC m + mlC y m ≤ cuC n := by unfold cuC mlC; rw [if_pos (by omega)]; omega
theorem cuM_le {m n : Int} (h : m ≤ n) : cuM m ≤ cuM n := by unfold cuM; rcases Int.emod_two_eq (m - 1) with e | e <;> rcases Int.emod_two_eq (n - 1) with f | f <;> omega
theorem cuM_mono {y m n : Int} (h : m < n) (hn : n ≤ 12) : cuM m + mlM y m ≤ cuM n := by rw [← cuM_step y m (by omega)]; exact cuM_le (by omega)

theorem IsC.yr {day y m d : Int} (h : IsC day y m d) : YrC day y := by
  obtain ⟨a, b, c, e, f, g, rfl⟩ := h
  refine ⟨a, b, by unfold cuC; omega, ?_⟩
  have h1 := cuC_last y
  rcases Int.lt_or_eq_of_le e with e | rfl
  · have h2 := cuC_mono (y := y) e (Int.le_refl _); have := mlC_bd y 13; omega
  · omega
theorem IsM.yr {day y m d : Int} (h : IsM day y m d) : YrM day y := by
  obtain ⟨a, b, c, e, f, g, rfl⟩ := h
  refine ⟨a, b, by unfold cuM; omega, ?_⟩
  have h1 := cuM_last y
  rcases Int.lt_or_eq_of_le e with e | rfl
  · have h2 := cuM_mono (y := y) e (Int.le_refl _); have := mlM_bd y 12; omega
  · omega

theorem IsC.unique {day y m d y' m' d' : Int} (h : IsC day y m d) (k : IsC day y' m' d') : y = y' ∧ m = m' ∧ d = d' := by
  obtain rfl := h.yr.unique k.yr
  refine ⟨rfl, ?_⟩
  obtain ⟨_, _, c, e, f, g, h1⟩ := h; obtain ⟨_, _, c', e', f', g', h2⟩ := k
  rcases Int.lt_trichotomy m m' with h | h | h
  · have := cuC_mono (y := y) h e'; omega
  · subst h; exact ⟨rfl, by omega⟩
  · have := cuC_mono (y := y) h e; omega
theorem IsM.unique {day y m d y' m' d' : Int} (h : IsM day y m d) (k : IsM day y' m' d') : y = y' ∧ m = m' ∧ d = d' := by
  obtain rfl := h.yr.unique k.yr
  refine ⟨rfl, ?_⟩
  obtain ⟨_, _, c, e, f, g, h1⟩ := h; obtain ⟨_, _, c', e', f', g', h2⟩ := k
  rcases Int.lt_trichotomy m m' with h | h | h
  · have := cuM_mono (y := y) h e'; omega
  · subst h; exact ⟨rfl, by omega⟩
  · have := cuM_mono (y := y) h e; omega

/-- The year, computed: from a guess downwards. -/
def downTo (st : Int → Int) (day : Int) : Nat → Int
  | 0 => 0
  | k + 1 => if st ((k : Int) + 1) ≤ day then (k : Int) + 1 else downTo st day k
def yrC (day : Int) : Int := downTo stC day (min (day / 365 + 1) 9999).toNat
def yrM (day : Int) : Int := downTo stM day (min (day / 354 + 1) 9999).toNat

theorem downTo_spec (st : Int → Int) (day : Int) : ∀ k : Nat, st 1 ≤ day → 1 ≤ k → day < st ((k : Int) + 1) →
    1 ≤ downTo st day k ∧ downTo st day k ≤ k ∧ st (downTo st day k) ≤ day ∧ day < st (downTo st day k + 1) := by
  intro k
  induction k with
  | zero => intro _ h; omega
  | succ k ih =>
    intro h1 hk hd
    unfold downTo
    by_cases h : st ((k : Int) + 1) ≤ day
    · rw [if_pos h]; exact ⟨by omega, by omega, h, by simpa using hd⟩
    · rw [if_neg h]
      by_cases hk0 : k = 0
      · subst hk0; exact absurd h1 (by simpa using h)
      · obtain ⟨a, b, c, d⟩ := ih h1 (by omega) (by omega)
        exact ⟨a, by omega, c, d⟩
theorem stC_one : stC 1 = 0 := by decide
theorem stM_one : stM 1 = 0 := by decide
theorem stC_top : stC 10000 = 3652056 := by decide
theorem stM_top : stM 10000 = 3543312 := by decide

theorem guessC (day : Int) (h0 : 0 ≤ day) (h : day < 3652056) : 1 ≤ min (day / 365 + 1) 9999 ∧ min (day / 365 + 1) 9999 ≤ 9999 ∧ day < stC (min (day / 365 + 1) 9999 + 1) := by
  refine ⟨by omega, by omega, ?_⟩
  by_cases e : day / 365 + 1 ≤ 9999
  · rw [Int.min_eq_left e]
    have := stC_mono (show (1 : Int) ≤ day / 365 + 1 + 1 by omega); rw [stC_one] at this; omega
  · rw [Int.min_eq_right (by omega)]; have := stC_top; simp only [Int.reduceAdd]; omega
theorem guessM (day : Int) (h0 : 0 ≤ day) (h : day < 3543312) : 1 ≤ min (day / 354 + 1) 9999 ∧ min (day / 354 + 1) 9999 ≤ 9999 ∧ day < stM (min (day / 354 + 1) 9999 + 1) := by
  refine ⟨by omega, by omega, ?_⟩
  by_cases e : day / 354 + 1 ≤ 9999
  · rw [Int.min_eq_left e]
    have := stM_mono (show (1 : Int) ≤ day / 354 + 1 + 1 by omega); rw [stM_one] at this; omega
  · rw [Int.min_eq_right (by omega)]; have := stM_top; simp only [Int.reduceAdd]; omega

theorem yrC_spec (day : Int) (h0 : 0 ≤ day) (h : day < 3652056) : YrC day (yrC day) := by
  obtain ⟨a, b, c⟩ := guessC day h0 h
  unfold yrC
  have := downTo_spec stC day (min (day / 365 + 1) 9999).toNat (by rw [stC_one]; exact h0) (by omega) (by rw [Int.toNat_of_nonneg (by omega)]; exact c)
  exact ⟨this.1, by omega, this.2.2.1, this.2.2.2⟩
theorem yrM_spec (day : Int) (h0 : 0 ≤ day) (h : day < 3543312) : YrM day (yrM day) := by
  obtain ⟨a, b, c⟩ := guessM day h0 h
  unfold yrM
  have := downTo_spec stM day (min (day / 354 + 1) 9999).toNat (by rw [stM_one]; exact h0) (by omega) (by rw [Int.toNat_of_nonneg (by omega)]; exact c)
  exact ⟨this.1, by omega, this.2.2.1, this.2.2.2⟩

/-- Month and day out of the day of the year. -/
def moC (day : Int) : Int := 1 + (day - stC (yrC day)) / 30
def daC (day : Int) : Int := 1 + (day - stC (yrC day)) % 30
def cuX (m : Int) : Int := if m = 13 then 356 else cuM m
def moM (day : Int) : Int := downTo cuX (day - stM (yrM day)) 12
def daM (day : Int) : Int := day - stM (yrM day) - cuM (moM day) + 1

theorem isC (day : Int) (h0 : 0 ≤ day) (h : day < 3652056) : IsC day (yrC day) (moC day) (daC day) := by
  obtain ⟨a, b, c, d⟩ := yrC_spec day h0 h
  rw [stC_step] at d
  have hl := lpC_step (yrC day)
  have hm : moC day = 1 + (day - stC (yrC day)) / 30 := rfl
  have hd : daC day = 1 + (day - stC (yrC day)) % 30 := rfl
  refine ⟨a, b, by omega, by omega, by omega, ?_, by unfold cuC; omega⟩
  unfold mlC; split <;> omega
theorem isM (day : Int) (h0 : 0 ≤ day) (h : day < 3543312) : IsM day (yrM day) (moM day) (daM day) := by
  obtain ⟨a, b, c, d⟩ := yrM_spec day h0 h
  rw [stM_step] at d
  have hl := lpM_step (yrM day)
  have hd : daM day = day - stM (yrM day) - cuM (moM day) + 1 := rfl
  have hm := downTo_spec cuX (day - stM (yrM day)) 12 (by show cuX 1 ≤ _; rw [show cuX 1 = 0 from rfl]; omega) (by omega) (by show _ < cuX 13; rw [show cuX 13 = 356 from rfl]; omega)
  have e : downTo cuX (day - stM (yrM day)) 12 = moM day := rfl
  rw [e] at hm
  obtain ⟨m1, m2, m3, m4⟩ := hm
  have m2' : moM day ≤ 12 := m2
  have h3 : cuM (moM day) ≤ day - stM (yrM day) := by rw [cuX, if_neg (by omega)] at m3; exact m3
  refine ⟨a, b, m1, m2', by omega, ?_, by omega⟩
  rcases Int.lt_or_eq_of_le m2' with h5 | h5
  · rw [cuX, if_neg (by omega)] at m4
    rw [cuM_step (yrM day) _ (by omega)] at m4; omega
  · have := cuM_last (yrM day); rw [stM_step] at this; rw [h5] at hd ⊢; omega
theorem IsC.eq {day y m d : Int} (h0 : 0 ≤ day) (h : day < 3652056) (k : IsC day y m d) : y = yrC day ∧ m = moC day ∧ d = daC day := k.unique (isC day h0 h)
theorem IsM.eq {day y m d : Int} (h0 : 0 ≤ day) (h : day < 3543312) (k : IsM day y m d) : y = yrM day ∧ m = moM day ∧ d = daM day := k.unique (isM day h0 h)
theorem IsC.range {day y m d : Int} (k : IsC day y m d) : 0 ≤ day ∧ day < 3652056 := by
  obtain ⟨a, b, c, e⟩ := k.yr
  have h1 := stC_mono a; have h2 := stC_mono (show y + 1 ≤ 10000 by omega)
  rw [stC_one] at h1; rw [stC_top] at h2; omega
theorem IsM.range {day y m d : Int} (k : IsM day y m d) : 0 ≤ day ∧ day < 3543312 := by
  obtain ⟨a, b, c, e⟩ := k.yr
  have h1 := stM_mono a; have h2 := stM_mono (show y + 1 ≤ 10000 by omega)
  rw [stM_one] at h1; rw [stM_top] at h2; omega
end Go.Proofs.YtomlfliebolkmaaDoor.Pl
