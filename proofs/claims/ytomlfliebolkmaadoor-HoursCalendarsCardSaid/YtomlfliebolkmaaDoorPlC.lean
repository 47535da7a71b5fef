/-
  Plain law, continued: no condition.
-/
import Derived.Test.YtomlfliebolkmaaDoorPlA
set_option linter.unusedVariables false
namespace Go.Proofs.YtomlfliebolkmaaDoor.Pl
theorem lt_or_ge_i (a b : Int) : a < b ∨ b ≤ a := by omega
theorem stC_per (y k : Int) : stC (y + 128 * k) = stC y + 46751 * k := by unfold stC lpC; omega
theorem stM_per (y k : Int) : stM (y + 30 * k) = stM y + 10631 * k := by unfold stM lpM; omega
theorem mlC_per (y k m : Int) : mlC (y + 128 * k) m = mlC y m := by
  have : lpC (y + 128 * k) - lpC (y + 128 * k - 1) = lpC y - lpC (y - 1) := by unfold lpC; omega
  unfold mlC; rw [this]
theorem mlM_per (y k m : Int) : mlM (y + 30 * k) m = mlM y m := by
  have h1 : ∀ z : Int, lpM (z + 30 * k) = lpM z + 11 * k := fun z => by unfold lpM; omega
  have : lpM (y + 30 * k) - lpM (y + 30 * k - 1) = lpM y - lpM (y - 1) := by rw [show y + 30 * k - 1 = y - 1 + 30 * k by omega, h1, h1]; omega
  unfold mlM; rw [this]
theorem IsC.per {day y m d : Int} (h : IsC day y m d) (k : Int) (hk : 0 ≤ k) (hy : y + 128 * k ≤ 9999) : IsC (day + 46751 * k) (y + 128 * k) m d := by
  obtain ⟨a, b, c, e, f, g, r⟩ := h
  exact ⟨by omega, hy, c, e, f, by rw [mlC_per]; exact g, by rw [stC_per]; omega⟩
theorem IsM.per {day y m d : Int} (h : IsM day y m d) (k : Int) (hk : 0 ≤ k) (hy : y + 30 * k ≤ 9999) : IsM (day + 10631 * k) (y + 30 * k) m d := by
  obtain ⟨a, b, c, e, f, g, r⟩ := h
  exact ⟨by omega, hy, c, e, f, by rw [mlM_per]; exact g, by rw [stM_per]; omega⟩
theorem cycC_eq {day k : Int} (h0 : 0 ≤ day) (h : day < 3652056) (hk : 0 ≤ k) (hy : yrC day + 128 * k ≤ 9999) :
    day + 46751 * k < 3652056 ∧ yrC (day + 46751 * k) = yrC day + 128 * k ∧ moC (day + 46751 * k) = moC day ∧ daC (day + 46751 * k) = daC day := by
  have hp := (isC day h0 h).per k hk hy
  have hr := hp.range
  obtain ⟨a, b, c⟩ := hp.eq hr.1 hr.2
  exact ⟨hr.2, a.symm, b.symm, c.symm⟩
theorem cycM_eq {day k : Int} (h0 : 0 ≤ day) (h : day < 3543312) (hk : 0 ≤ k) (hy : yrM day + 30 * k ≤ 9999) :
    day + 10631 * k < 3543312 ∧ yrM (day + 10631 * k) = yrM day + 30 * k ∧ moM (day + 10631 * k) = moM day ∧ daM (day + 10631 * k) = daM day := by
  have hp := (isM day h0 h).per k hk hy
  have hr := hp.range
  obtain ⟨a, b, c⟩ := hp.eq hr.1 hr.2
  exact ⟨hr.2, a.symm, b.symm, c.symm⟩
theorem cycC_no {day k : Int} (h0 : 0 ≤ day) (h : day < 3652056) (hy : ¬ yrC day + 128 * k ≤ 9999) : 3652056 ≤ day + 46751 * k := by
  obtain ⟨_, _, a, _⟩ := yrC_spec day h0 h
  have h1 := stC_mono (show (10000 : Int) ≤ yrC day + 128 * k by omega)
  rw [stC_top, stC_per] at h1; omega
theorem cycM_no {day k : Int} (h0 : 0 ≤ day) (h : day < 3543312) (hy : ¬ yrM day + 30 * k ≤ 9999) : 3543312 ≤ day + 10631 * k := by
  obtain ⟨_, _, a, _⟩ := yrM_spec day h0 h
  have h1 := stM_mono (show (10000 : Int) ≤ yrM day + 30 * k by omega)
  rw [stM_top, stM_per] at h1; omega

theorem nextC {day : Int} (h0 : 0 ≤ day) (h : day + 1 < 3652056) :
    (yrC (day + 1) = yrC day ∧ moC (day + 1) = moC day ∧ daC (day + 1) = daC day + 1) ∨
    (daC (day + 1) = 1 ∧ ((yrC (day + 1) = yrC day ∧ moC (day + 1) = moC day + 1) ∨ (yrC (day + 1) = yrC day + 1 ∧ moC (day + 1) = 1 ∧ moC day = 13))) := by
  obtain ⟨a, b, c, e, f, g, r⟩ := isC day h0 (by omega)
  by_cases hd : daC day < mlC (yrC day) (moC day)
  · have k : IsC (day + 1) (yrC day) (moC day) (daC day + 1) := ⟨a, b, c, e, by omega, by omega, by omega⟩
    obtain ⟨x, y, z⟩ := k.eq (by omega) h
    exact .inl ⟨x.symm, y.symm, z.symm⟩
  · by_cases hm : moC day ≤ 12
    · have hs := cuC_step (yrC day) (moC day) hm
      have hb := mlC_bd (yrC day) (moC day + 1)
      have k : IsC (day + 1) (yrC day) (moC day + 1) 1 := ⟨a, b, by omega, by omega, by omega, by omega, by omega⟩
      obtain ⟨x, y, z⟩ := k.eq (by omega) h
      exact .inr ⟨z.symm, .inl ⟨x.symm, y.symm⟩⟩
    · have e13 : moC day = 13 := by omega
      have hl := cuC_last (yrC day)
      rw [e13] at g r hd
      have hb := mlC_bd (yrC day + 1) 1
      have hy : yrC day + 1 ≤ 9999 := by
        rcases lt_or_ge_i (yrC day) 9999 with q | q
        · omega
        · have := stC_mono (show (10000 : Int) ≤ yrC day + 1 by omega); rw [stC_top] at this; omega
      have k : IsC (day + 1) (yrC day + 1) 1 1 := ⟨by omega, hy, by omega, by omega, by omega, by omega, by show day + 1 = stC (yrC day + 1) + 30 * (1 - 1) + 1 - 1; omega⟩
      obtain ⟨x, y, z⟩ := k.eq (by omega) h
      exact .inr ⟨z.symm, .inr ⟨x.symm, y.symm, e13⟩⟩
/-- The first day of the month behind. -/
theorem beginM {n : Int} (h0 : 0 ≤ n) (h : n < 3543312) (h2 : n + (mlM (yrM n) (moM n) - daM n + 1) < 3543312) :
    daM (n + (mlM (yrM n) (moM n) - daM n + 1)) = 1 ∧ ((yrM (n + (mlM (yrM n) (moM n) - daM n + 1)) = yrM n ∧ moM (n + (mlM (yrM n) (moM n) - daM n + 1)) = moM n + 1) ∨ (yrM (n + (mlM (yrM n) (moM n) - daM n + 1)) = yrM n + 1 ∧ moM (n + (mlM (yrM n) (moM n) - daM n + 1)) = 1 ∧ moM n = 12)) := by
  obtain ⟨a, b, c, e, f, g, r⟩ := isM n h0 h
  by_cases hm : moM n ≤ 11
  · have hs := cuM_step (yrM n) (moM n) hm
    have hb := mlM_bd (yrM n) (moM n + 1)
    have k : IsM (n + (mlM (yrM n) (moM n) - daM n + 1)) (yrM n) (moM n + 1) 1 := ⟨a, b, by omega, by omega, by omega, by omega, by omega⟩
    obtain ⟨x, y, z⟩ := k.eq (by omega) h2
    exact ⟨z.symm, .inl ⟨x.symm, y.symm⟩⟩
  · have e12 : moM n = 12 := by omega
    have hl := cuM_last (yrM n)
    rw [e12] at g r h2 ⊢
    have hb := mlM_bd (yrM n + 1) 1
    have hy : yrM n + 1 ≤ 9999 := by
      rcases lt_or_ge_i (yrM n) 9999 with q | q
      · omega
      · have := stM_mono (show (10000 : Int) ≤ yrM n + 1 by omega); rw [stM_top] at this; omega
    have k : IsM (n + (mlM (yrM n) 12 - daM n + 1)) (yrM n + 1) 1 1 := ⟨by omega, hy, by omega, by omega, by omega, by omega, by have : cuM 1 = 0 := rfl; omega⟩
    obtain ⟨x, y, z⟩ := k.eq (by omega) h2
    exact ⟨z.symm, .inr ⟨x.symm, y.symm, rfl⟩⟩
theorem inM {n x : Int} (h0 : 0 ≤ n) (h : n < 3543312) (hx : n ≤ x) (hx2 : x ≤ n + (mlM (yrM n) (moM n) - daM n)) : x < 3543312 ∧ yrM x = yrM n ∧ moM x = moM n ∧ daM x = daM n + (x - n) := by
  obtain ⟨a, b, c, e, f, g, r⟩ := isM n h0 h
  have k : IsM x (yrM n) (moM n) (daM n + (x - n)) := ⟨a, b, c, e, by omega, by omega, by omega⟩
  have hr := k.range
  obtain ⟨p, q, s⟩ := k.eq hr.1 hr.2
  exact ⟨hr.2, p.symm, q.symm, s.symm⟩
theorem nextM {day : Int} (h0 : 0 ≤ day) (h : day + 1 < 3543312) :
    (yrM (day + 1) = yrM day ∧ moM (day + 1) = moM day ∧ daM (day + 1) = daM day + 1) ∨
    (daM (day + 1) = 1 ∧ ((yrM (day + 1) = yrM day ∧ moM (day + 1) = moM day + 1) ∨ (yrM (day + 1) = yrM day + 1 ∧ moM (day + 1) = 1 ∧ moM day = 12))) := by
  obtain ⟨a, b, c, e, f, g, r⟩ := isM day h0 (by omega)
  by_cases hd : daM day < mlM (yrM day) (moM day)
  · obtain ⟨_, x, y, z⟩ := inM (n := day) (x := day + 1) h0 (by omega) (by omega) (by omega)
    exact .inl ⟨x, y, by omega⟩
  · have e1 : mlM (yrM day) (moM day) - daM day + 1 = 1 := by omega
    have := beginM (n := day) h0 (by omega) (by omega)
    rw [e1] at this
    exact .inr this
theorem daM_bd {n : Int} (h0 : 0 ≤ n) (h : n < 3543312) : 1 ≤ daM n ∧ daM n ≤ mlM (yrM n) (moM n) ∧ 29 ≤ mlM (yrM n) (moM n) ∧ mlM (yrM n) (moM n) ≤ 30 := by
  obtain ⟨a, b, c, e, f, g, r⟩ := isM n h0 h
  have := mlM_bd (yrM n) (moM n); omega
/-- Among thirty days one begins a month; of twenty-nine at most one. -/
theorem month30 {n : Int} (h0 : 0 ≤ n) (h : n + 29 < 3543312) : ∃ j : Nat, j < 30 ∧ daM (n + j) = 1 := by
  obtain ⟨a, b, c, d⟩ := daM_bd h0 (by omega)
  by_cases h1 : daM n = 1
  · exact ⟨0, by omega, by simpa using h1⟩
  · have := beginM (n := n) h0 (by omega) (by omega)
    refine ⟨(mlM (yrM n) (moM n) - daM n + 1).toNat, by omega, ?_⟩
    rw [Int.toNat_of_nonneg (by omega)]; exact this.1
theorem month29 {n x : Int} (h0 : 0 ≤ n) (h : n < 3543312) (h1 : daM n = 1) (hx : n < x) (hx2 : x < n + 29) : daM x ≠ 1 := by
  obtain ⟨a, b, c, d⟩ := daM_bd h0 h
  have := (inM h0 h (Int.le_of_lt hx) (by omega)).2.2.2
  omega

theorem yrC_le {day : Int} (h0 : 0 ≤ day) (h : day < 3652056) (y : Int) (hy : day < stC (y + 1)) : yrC day ≤ y := by
  obtain ⟨_, _, a, _⟩ := yrC_spec day h0 h
  rcases lt_or_ge_i y (yrC day) with q | q
  · have := stC_mono (show y + 1 ≤ yrC day by omega); omega
  · exact q
theorem yrM_le {day : Int} (h0 : 0 ≤ day) (h : day < 3543312) (y : Int) (hy : day < stM (y + 1)) : yrM day ≤ y := by
  obtain ⟨_, _, a, _⟩ := yrM_spec day h0 h
  rcases lt_or_ge_i y (yrM day) with q | q
  · have := stM_mono (show y + 1 ≤ yrM day by omega); omega
  · exact q
theorem num_back {day : Int} (h0 : 0 ≤ day) (h : day < 3652056) : stC (yrC day) + cuC (moC day) + daC day - 1 = day := by
  obtain ⟨_, _, _, _, _, _, r⟩ := isC day h0 h; omega
theorem num_backM {day : Int} (h0 : 0 ≤ day) (h : day < 3543312) : stM (yrM day) + cuM (moM day) + daM day - 1 = day := by
  obtain ⟨_, _, _, _, _, _, r⟩ := isM day h0 h; omega
end Go.Proofs.YtomlfliebolkmaaDoor.Pl
