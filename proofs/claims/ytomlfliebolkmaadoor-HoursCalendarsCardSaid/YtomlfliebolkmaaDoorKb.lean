/-
  The reference's calendars, by contract. No condition beyond what each states.
-/
import Derived.Test.YtomlfliebolkmaaDoorCD
import Derived.Test.YtomlfliebolkmaaDoorPlC
set_option linter.unusedVariables false
set_option linter.unusedSimpArgs false
namespace Go.Proofs.YtomlfliebolkmaaDoor
open Go Go.Proofs Go.RowKit Pl

/- The reference's calendars. -/
theorem rCYear_any (y : Int) (w : World) (h : 1 ≤ y ∧ y ≤ 20000) : Calls Tryd.prog 98 #[.int .i64 y] w fun e w' => e = .returned (.int .i64 (stC y)) ∧ w = w' := by
  go_enter Tryd.func98, Tryd.ntmps98
  go_wp2
  go_ret
  exact ⟨ret_int (by unfold stC lpC; omega), rfl⟩

/-- A leap year of the market. -/
def leapB (y : Int) : Bool := decide (lpM y - lpM (y - 1) = 1)
theorem leap_tab : ∀ r : Nat, r < 30 → (lpM (r : Int) - lpM ((r : Int) - 1) = 1 ↔ (r = 2 ∨ r = 5 ∨ r = 7 ∨ r = 10 ∨ r = 13 ∨ r = 16 ∨ r = 18 ∨ r = 21 ∨ r = 24 ∨ r = 26 ∨ r = 29)) := by decide
theorem leap_mod (y : Int) : lpM y - lpM (y - 1) = lpM (y % 30) - lpM (y % 30 - 1) := by
  have e := Int.mul_ediv_add_emod y 30
  have h1 : ∀ z k : Int, lpM (z + 30 * k) = lpM z + 11 * k := fun z k => by unfold lpM; omega
  have a := h1 (y % 30) (y / 30)
  have b := h1 (y % 30 - 1) (y / 30)
  rw [show y % 30 + 30 * (y / 30) = y by omega] at a
  rw [show y % 30 - 1 + 30 * (y / 30) = y - 1 by omega] at b
  omega
theorem leap_iff (y : Int) : leapB y = true ↔ (y % 30 = 2 ∨ y % 30 = 5 ∨ y % 30 = 7 ∨ y % 30 = 10 ∨ y % 30 = 13 ∨ y % 30 = 16 ∨ y % 30 = 18 ∨ y % 30 = 21 ∨ y % 30 = 24 ∨ y % 30 = 26 ∨ y % 30 = 29) := by
  unfold leapB
  rw [decide_eq_true_iff, leap_mod]
  have := leap_tab (y % 30).toNat (by omega)
  rw [show (((y % 30).toNat : Nat) : Int) = y % 30 by omega] at this
  rw [this]; omega
theorem leap_lp (y : Int) : lpM y = lpM (y - 1) + if leapB y = true then 1 else 0 := by
  have := lpM_step y
  unfold leapB
  by_cases h : lpM y - lpM (y - 1) = 1
  · rw [decide_eq_true h, if_pos rfl]; omega
  · rw [decide_eq_false h, if_neg (by decide)]; omega

set_option maxHeartbeats 4000000 in
theorem rLeap_any (y : Int) (w : World) (h : 0 ≤ y ∧ y ≤ 20000) : Calls Tryd.prog 116 #[.int .i64 y] w fun e w' => e = .returned (.bool (leapB y)) ∧ w = w' := by
  have HI := Lib.hid (leap_iff y)
  have r0 : 0 ≤ y % 30 := by omega
  have r1 : y % 30 < 30 := by omega
  have hv : leapB y = true ∨ leapB y = false := by cases leapB y <;> simp
  generalize leapB y = v at *
  go_enter Tryd.func116, Tryd.ntmps116
  go_wp2
  all_goals
    go_ret
    refine ⟨?_, rfl⟩
    rcases hv with rfl | rfl
    · have := HI.out.1 rfl
      first | rfl | (exfalso; omega) | (simp <;> omega)
    · have : ¬ (y % 30 = 2 ∨ y % 30 = 5 ∨ y % 30 = 7 ∨ y % 30 = 10 ∨ y % 30 = 13 ∨ y % 30 = 16 ∨ y % 30 = 18 ∨ y % 30 = 21 ∨ y % 30 = 24 ∨ y % 30 = 26 ∨ y % 30 = 29) := fun k => by have := HI.out.2 k; cases this
      first | rfl | (exfalso; omega) | (simp <;> omega)


set_option maxHeartbeats 4000000 in
theorem rMYear_any (y : Int) (w : World) (h : 1 ≤ y ∧ y ≤ 20000) : Calls Tryd.prog 102 #[.int .i64 y] w fun e w' => e = .returned (.int .i64 (Pl.stM y)) ∧ w = w' := by
  have HR := Lib.hid (show ∀ k : Int, k = (y - 1) % 30 → 354 * (y - 1) + 11 * ((y - 1) / 30) + lpM k = Pl.stM y from fun k hk => by subst hk; unfold Pl.stM lpM; omega)
  have HL := Lib.hid leap_lp
  go_enter Tryd.func102, Tryd.ntmps102
  go_wp2
  go_loop [4, 5] (fun vn vk => ∃ k : Nat, (k : Int) ≤ (y - 1) % 30 ∧ vk = .int .i64 ((k : Int) + 1) ∧ vn = .int .i64 (354 * (y - 1) + 11 * ((y - 1) / 30) + lpM k)) (fun _ vk => 100 - (intOf vk).toNat)
  case atStart => exact ⟨0, by omega, by go_num, by rw [show lpM ((0 : Nat) : Int) = 0 from rfl]; go_num⟩
  case round =>
    obtain ⟨k, hk, rfl, rfl⟩ := hrel
    have hb : 0 ≤ lpM (k : Int) ∧ lpM (k : Int) ≤ 1000 := by unfold lpM; omega
    by_cases hlt : (k : Int) + 1 ≤ (y - 1) % 30
    · cases hl : leapB ((k : Int) + 1)
      · have HE := Lib.hid (show lpM ((k + 1 : Nat) : Int) = lpM (k : Int) by
          have := HL.out ((k : Int) + 1); rw [hl, if_neg (by decide), show (k : Int) + 1 - 1 = k by omega] at this
          rw [show ((k + 1 : Nat) : Int) = (k : Int) + 1 by omega]; omega)
        go_wp2_with (go_at_call 116; refine (rLeap_any _ _ (by omega)).mono ?_; rintro e w1 ⟨rfl, rfl⟩)
        go_round
        case rel => exact ⟨k + 1, by omega, by go_num, by rw [HE.out]⟩
        case measure => simp [intOf]; omega
      · have HE := Lib.hid (show lpM ((k + 1 : Nat) : Int) = lpM (k : Int) + 1 by
          have := HL.out ((k : Int) + 1); rw [hl, if_pos rfl, show (k : Int) + 1 - 1 = k by omega] at this
          rw [show ((k + 1 : Nat) : Int) = (k : Int) + 1 by omega]; omega)
        go_wp2_with (go_at_call 116; refine (rLeap_any _ _ (by omega)).mono ?_; rintro e w1 ⟨rfl, rfl⟩)
        go_round
        case rel => exact ⟨k + 1, by omega, by go_num, by rw [HE.out]; go_num⟩
        case measure => simp [intOf]; omega
    · have HK := Lib.hid (show (k : Int) = (y - 1) % 30 by omega)
      go_wp2
      go_ret
      exact ⟨ret_int (HR.out _ HK.out), rfl⟩

/-- The length of a month, 0: there is none. -/
def cmF (y m : Int) : Int := if (wi y 1 9999 && wi m 1 13) = true then mlC y m else 0
def mmF (y m : Int) : Int := if (wi y 1 9999 && wi m 1 12) = true then mlM y m else 0
set_option maxHeartbeats 4000000 in
theorem rCMonth_any (y m : Int) (w : World) : Calls Tryd.prog 101 #[.int .i64 y, .int .i64 m] w fun e w' => e = .returned (.int .i64 (cmF y m)) ∧ w = w' := by
  unfold cmF
  cases hy : wi y 1 9999
  · go_enter Tryd.func101, Tryd.ntmps101
    go_wp2_with (go_at_call 79; refine (rwithin_any _ _ _ _).mono ?_; rintro e w1 ⟨rfl, rfl⟩)
    go_ret
    exact ⟨rfl, rfl⟩
  · cases hm : wi m 1 13
    · go_enter Tryd.func101, Tryd.ntmps101
      go_wp2_with (go_at_call 79; refine (rwithin_any _ _ _ _).mono ?_; rintro e w1 ⟨rfl, rfl⟩)
      go_ret
      exact ⟨rfl, rfl⟩
    · have hy1 := (wi_iff _ _ _).1 hy
      have hm1 := (wi_iff _ _ _).1 hm
      by_cases h13 : m < 13
      · have HE := Lib.hid (show mlC y m = 30 by unfold mlC; rw [if_pos (by omega)])
        go_enter Tryd.func101, Tryd.ntmps101
        go_wp2_with (go_at_call 79; refine (rwithin_any _ _ _ _).mono ?_; rintro e w1 ⟨rfl, rfl⟩)
        go_ret
        exact ⟨ret_int HE.out.symm, rfl⟩
      · have HE := Lib.hid (show mlC y m = 5 + (lpC y - lpC (y - 1)) by unfold mlC; rw [if_neg (by omega)])
        by_cases e4 : y % 4 = 0
        · by_cases e128 : y % 128 = 0
          · have HV := Lib.hid (show (5 : Int) = mlC y m by rw [HE.out]; unfold lpC; omega)
            go_enter Tryd.func101, Tryd.ntmps101
            go_wp2_with (go_at_call 79; refine (rwithin_any _ _ _ _).mono ?_; rintro e w1 ⟨rfl, rfl⟩)
            go_ret
            exact ⟨ret_int HV.out, rfl⟩
          · have HV := Lib.hid (show (6 : Int) = mlC y m by rw [HE.out]; unfold lpC; omega)
            go_enter Tryd.func101, Tryd.ntmps101
            go_wp2_with (go_at_call 79; refine (rwithin_any _ _ _ _).mono ?_; rintro e w1 ⟨rfl, rfl⟩)
            go_ret
            exact ⟨ret_int HV.out, rfl⟩
        · have HV := Lib.hid (show (5 : Int) = mlC y m by rw [HE.out]; unfold lpC; omega)
          go_enter Tryd.func101, Tryd.ntmps101
          go_wp2_with (go_at_call 79; refine (rwithin_any _ _ _ _).mono ?_; rintro e w1 ⟨rfl, rfl⟩)
          go_ret
          exact ⟨ret_int HV.out, rfl⟩
set_option maxHeartbeats 4000000 in
theorem rMMonth_any (y m : Int) (w : World) : Calls Tryd.prog 103 #[.int .i64 y, .int .i64 m] w fun e w' => e = .returned (.int .i64 (mmF y m)) ∧ w = w' := by
  unfold mmF
  cases hy : wi y 1 9999
  · go_enter Tryd.func103, Tryd.ntmps103
    go_wp2_with (go_at_call 79; refine (rwithin_any _ _ _ _).mono ?_; rintro e w1 ⟨rfl, rfl⟩)
    go_ret
    exact ⟨rfl, rfl⟩
  · cases hm : wi m 1 12
    · go_enter Tryd.func103, Tryd.ntmps103
      go_wp2_with (go_at_call 79; refine (rwithin_any _ _ _ _).mono ?_; rintro e w1 ⟨rfl, rfl⟩)
      go_ret
      exact ⟨rfl, rfl⟩
    · have hy1 := (wi_iff _ _ _).1 hy
      have hm1 := (wi_iff _ _ _).1 hm
      by_cases h12 : m = 12
      · subst h12
        have HE := Lib.hid (show mlM y 12 = 29 + (lpM y - lpM (y - 1)) by unfold mlM; rw [if_pos rfl])
        have HL := Lib.hid (leap_lp y)
        cases hl : leapB y
        all_goals
          go_enter Tryd.func103, Tryd.ntmps103
          go_wp2_with (first | (go_at_call 79; refine (rwithin_any _ _ _ _).mono ?_; rintro e w1 ⟨rfl, rfl⟩) | (go_at_call 116; refine (rLeap_any _ _ (by omega)).mono ?_; rintro e w1 ⟨rfl, rfl⟩))
          go_ret
          exact ⟨ret_int (by show _ = mlM y 12; have h := HL.out; rw [hl] at h; rw [HE.out]; first | (rw [if_pos rfl] at h; omega) | (rw [if_neg (by decide)] at h; omega)), rfl⟩
      · have HE := Lib.hid (show mlM y m = 30 - (m - 1) % 2 by unfold mlM; rw [if_neg h12])
        go_enter Tryd.func103, Tryd.ntmps103
        go_wp2_with (go_at_call 79; refine (rwithin_any _ _ _ _).mono ?_; rintro e w1 ⟨rfl, rfl⟩)
        all_goals
          go_ret
          exact ⟨ret_int (by show _ = mlM y m; rw [HE.out]; omega), rfl⟩

theorem stC_le_iff {day : Int} (h0 : 0 ≤ day) (h : day < 3652056) (m : Int) : stC m ≤ day ↔ m ≤ yrC day := by
  obtain ⟨a, b, c, d⟩ := yrC_spec day h0 h
  constructor
  · intro k
    apply Classical.byContradiction; intro n
    have := stC_mono (show yrC day + 1 ≤ m by omega); omega
  · intro k; have := stC_mono k; omega
theorem stM_le_iff {day : Int} (h0 : 0 ≤ day) (h : day < 3543312) (m : Int) : Pl.stM m ≤ day ↔ m ≤ yrM day := by
  obtain ⟨a, b, c, d⟩ := yrM_spec day h0 h
  constructor
  · intro k
    apply Classical.byContradiction; intro n
    have := stM_mono (show yrM day + 1 ≤ m by omega); omega
  · intro k; have := stM_mono k; omega
set_option maxHeartbeats 4000000 in
theorem rYearC_any (day : Int) (w : World) (h0 : 0 ≤ day) (h : day < 3652056) : Calls Tryd.prog 99 #[.int .i64 day, .bool false] w fun e w' => e = .returned (.int .i64 (yrC day)) ∧ w = w' := by
  have hy := yrC_spec day h0 h
  have HS := Lib.hid (stC_le_iff h0 h)
  obtain ⟨y1, y2, _, _⟩ := hy
  generalize yrC day = Y at *
  go_enter Tryd.func99, Tryd.ntmps99
  go_wp2
  go_loop [5, 6] (fun va vb => ∃ a b : Int, 1 ≤ a ∧ a ≤ Y ∧ Y ≤ b ∧ b ≤ 9999 ∧ va = .int .i64 a ∧ vb = .int .i64 b) (fun va vb => (intOf vb - intOf va).toNat)
  case atStart => exact ⟨1, 9999, by omega, y1, y2, by omega, rfl, rfl⟩
  case round =>
    obtain ⟨a, b, a1, a2, b1, b2, rfl, rfl⟩ := hrel
    by_cases hlt : a < b
    · by_cases hle : stC ((a + b + 1) / 2) ≤ day
      · have hm := (HS.out _).1 hle
        go_wp2_with (go_at_call 98; refine (rCYear_any _ _ (by omega)).mono ?_; rintro e w1 ⟨rfl, rfl⟩)
        go_round
        case rel => exact ⟨(a + b + 1) / 2, b, by omega, hm, b1, b2, rfl, rfl⟩
        case measure => simp [intOf]; omega
      · have hm : ¬ (a + b + 1) / 2 ≤ Y := fun k => hle ((HS.out _).2 k)
        go_wp2_with (go_at_call 98; refine (rCYear_any _ _ (by omega)).mono ?_; rintro e w1 ⟨rfl, rfl⟩)
        go_round
        case rel => exact ⟨a, (a + b + 1) / 2 - 1, a1, a2, by omega, by omega, rfl, rfl⟩
        case measure => simp [intOf]; omega
    · have e1 : a = Y := by omega
      have E := Lib.hid e1; clear e1
      go_wp2
      go_ret
      exact ⟨ret_int E.out, rfl⟩
set_option maxHeartbeats 4000000 in
theorem rYearM_any (day : Int) (w : World) (h0 : 0 ≤ day) (h : day < 3543312) : Calls Tryd.prog 99 #[.int .i64 day, .bool true] w fun e w' => e = .returned (.int .i64 (yrM day)) ∧ w = w' := by
  have hy := yrM_spec day h0 h
  have HS := Lib.hid (stM_le_iff h0 h)
  obtain ⟨y1, y2, _, _⟩ := hy
  generalize yrM day = Y at *
  go_enter Tryd.func99, Tryd.ntmps99
  go_wp2
  go_loop [5, 6] (fun va vb => ∃ a b : Int, 1 ≤ a ∧ a ≤ Y ∧ Y ≤ b ∧ b ≤ 9999 ∧ va = .int .i64 a ∧ vb = .int .i64 b) (fun va vb => (intOf vb - intOf va).toNat)
  case atStart => exact ⟨1, 9999, by omega, y1, y2, by omega, rfl, rfl⟩
  case round =>
    obtain ⟨a, b, a1, a2, b1, b2, rfl, rfl⟩ := hrel
    by_cases hlt : a < b
    · by_cases hle : Pl.stM ((a + b + 1) / 2) ≤ day
      · have hm := (HS.out _).1 hle
        go_wp2_with (first | (go_at_call 98; refine (rCYear_any _ _ (by omega)).mono ?_; rintro e w1 ⟨rfl, rfl⟩) | (go_at_call 102; refine (rMYear_any _ _ (by omega)).mono ?_; rintro e w1 ⟨rfl, rfl⟩))
        go_round
        case rel => exact ⟨(a + b + 1) / 2, b, by omega, hm, b1, b2, rfl, rfl⟩
        case measure => simp [intOf]; omega
      · have hm : ¬ (a + b + 1) / 2 ≤ Y := fun k => hle ((HS.out _).2 k)
        go_wp2_with (first | (go_at_call 98; refine (rCYear_any _ _ (by omega)).mono ?_; rintro e w1 ⟨rfl, rfl⟩) | (go_at_call 102; refine (rMYear_any _ _ (by omega)).mono ?_; rintro e w1 ⟨rfl, rfl⟩))
        go_round
        case rel => exact ⟨a, (a + b + 1) / 2 - 1, a1, a2, by omega, by omega, rfl, rfl⟩
        case measure => simp [intOf]; omega
    · have e1 : a = Y := by omega
      have E := Lib.hid e1; clear e1
      go_wp2
      go_ret
      exact ⟨ret_int E.out, rfl⟩


theorem stC_bd {y : Int} (h : 1 ≤ y ∧ y ≤ 10000) : 0 ≤ stC y ∧ stC y ≤ 4000000 := by unfold stC lpC; omega
theorem stM_bd {y : Int} (h : 1 ≤ y ∧ y ≤ 10000) : 0 ≤ Pl.stM y ∧ Pl.stM y ≤ 4000000 := by unfold Pl.stM lpM; omega
set_option maxHeartbeats 4000000 in
theorem rCourt_any (day : Int) (w : World) : Calls Tryd.prog 44 #[.int .i64 day] w fun e w' => e = .returned (.tuple #[.agg #[.int .i64 (onOk (dayE 3652055 day) (yrC day)), .int .i64 (onOk (dayE 3652055 day) (moC day)), .int .i64 (onOk (dayE 3652055 day) (daC day))], .int .i64 (dayE 3652055 day)]) ∧ Below w.heap.size w w' := by
  have hst : stC 10000 = 3652056 := stC_top
  by_cases h : 0 ≤ day ∧ day ≤ 3652055
  · rw [dayE_yes h]
    have hwi : wi day 0 3652055 = true := wi_mk h
    have hy := yrC_spec day h.1 (by omega)
    have hd := stC_step (yrC day)
    have hl := lpC_step (yrC day)
    have hb := stC_bd (y := yrC day) ⟨hy.1, by have := hy.2.1; omega⟩
    have hm : moC day = 1 + (day - stC (yrC day)) / 30 := rfl
    have hdd : daC day = 1 + (day - stC (yrC day)) % 30 := rfl
    rw [hm, hdd]
    have HC := Lib.hid (fun (W : World) => rYearC_any day W h.1 (by omega))
    obtain ⟨y1, y2, y3, y4⟩ := hy
    have y5 : day < stC (yrC day) + 366 := by omega
    clear hm hdd hd hl y4
    generalize yrC day = Y at *
    go_enter Tryd.func44, Tryd.ntmps44
    go_wp2_with (first | (go_at_call 98; refine (rCYear_any _ _ (by omega)).mono ?_; rintro e w1 ⟨rfl, rfl⟩) | (go_at_call 79; refine (rwithin_any _ _ _ _).mono ?_; rintro e w1 ⟨rfl, rfl⟩) | (go_at_call 99; refine (HC.out _).mono ?_; rintro e w1 ⟨rfl, rfl⟩))
    refine bodyPost_ret (v := .tuple #[.agg #[.int .i64 Y, .int .i64 (1 + (day - stC Y) / 30), .int .i64 (1 + (day - stC Y) % 30)], .int .i64 0]) (by simp [results, Tryd.results44, go_sem]) rfl ?_
    exact ⟨by rw [onOk_ok, onOk_ok, onOk_ok], by go_grown⟩
  · rw [dayE_no h]
    have hwi : wi day 0 3652055 = false := wi_no h
    go_enter Tryd.func44, Tryd.ntmps44
    go_wp2_with (first | (go_at_call 98; refine (rCYear_any _ _ (by omega)).mono ?_; rintro e w1 ⟨rfl, rfl⟩) | (go_at_call 79; refine (rwithin_any _ _ _ _).mono ?_; rintro e w1 ⟨rfl, rfl⟩))
    refine bodyPost_ret (v := .tuple #[.agg #[.int .i64 0, .int .i64 0, .int .i64 0], .int .i64 1]) (by simp [results, Tryd.results44, go_sem]) rfl ?_
    exact ⟨rfl, by go_grown⟩

theorem cm_dv (y m d : Int) : wi d 1 (cmF y m) = dvC y m d := by
  unfold cmF dvC
  cases h : (wi y 1 9999 && wi m 1 13)
  · rw [if_neg (by decide)]; exact wi_no (by omega)
  · rw [if_pos rfl]; rfl
theorem mm_dv (y m d : Int) : wi d 1 (mmF y m) = dvM y m d := by
  unfold mmF dvM
  cases h : (wi y 1 9999 && wi m 1 12)
  · rw [if_neg (by decide)]; exact wi_no (by omega)
  · rw [if_pos rfl]; rfl
set_option maxHeartbeats 8000000 in
theorem rCDay_any (y m d : Int) (w : World) : Calls Tryd.prog 46 #[.agg #[.int .i64 y, .int .i64 m, .int .i64 d]] w fun e w' => e = .returned (.tuple #[.int .i64 (onOk (numEC y m d) (stC y + cuC m + d - 1)), .int .i64 (numEC y m d)]) ∧ Below w.heap.size w w' := by
  have hcd := cm_dv y m d
  cases hv : dvC y m d
  · have HP := Lib.hid (numEC_no (y := y) (m := m) (d := d) (by rw [hv]; decide))
    rw [hv] at hcd
    clear hv
    go_enter Tryd.func46, Tryd.ntmps46
    go_wp2
    go_quiet (first | (go_at_call 101; first | exact quiet_one (rCMonth_any _ _ _) | exact quiet_add (rCMonth_any _ _ _)) | (go_at_call 79; first | exact quiet_one (rwithin_any _ _ _ _) | exact quiet_add (rwithin_any _ _ _ _)))
    go_wp2
    go_ret2
    exact ⟨by rw [HP.out]; rfl, by (repeat refine below_drewN ?_ _); go_grown⟩
  · have HP := Lib.hid (numEC_yes hv)
    obtain ⟨i1, i2, i3⟩ := (dvC_iff _ _ _).1 hv
    have hmb := mlC_bd y m
    have hsb := stC_bd (y := y) ⟨i1.1, by omega⟩
    rw [hv] at hcd
    clear hv
    go_enter Tryd.func46, Tryd.ntmps46
    go_wp2
    go_quiet (first | (go_at_call 101; first | exact quiet_one (rCMonth_any _ _ _) | exact quiet_add (rCMonth_any _ _ _)) | (go_at_call 79; first | exact quiet_one (rwithin_any _ _ _ _) | exact quiet_add (rwithin_any _ _ _ _)))
    go_wp2
    have s1 := IntWalk.i64_in (m - 1) (by omega)
    have s2 := IntWalk.i64_in (30 * (m - 1)) (by omega)
    have s3 := IntWalk.i64_in (stC y + 30 * (m - 1)) (by omega)
    have s4 := IntWalk.i64_in (stC y + 30 * (m - 1) + d) (by omega)
    have s5 := IntWalk.i64_in (stC y + 30 * (m - 1) + d - 1) (by omega)
    have HY := Lib.hid (show 1 ≤ y ∧ y ≤ 20000 by omega)
    go_quiet ((go_at_call 98; first | exact quiet_one (rCYear_any _ _ HY.out) | exact quiet_add (rCYear_any _ _ HY.out)))
    go_wp2
    go_ret2
    exact ⟨by rw [HP.out, onOk_ok]; exact ret_pair rfl, by (repeat refine below_drewN ?_ _); go_grown⟩

set_option maxHeartbeats 8000000 in
theorem rMarket_any (day : Int) (w : World) : Calls Tryd.prog 47 #[.int .i64 day] w fun e w' => e = .returned (.tuple #[.agg #[.int .i64 (onOk (dayE 3543311 day) (yrM day)), .int .i64 (onOk (dayE 3543311 day) (moM day)), .int .i64 (onOk (dayE 3543311 day) (daM day))], .int .i64 (dayE 3543311 day)]) ∧ Below w.heap.size w w' := by
  have hst : Pl.stM 10000 = 3543312 := stM_top
  by_cases h : 0 ≤ day ∧ day ≤ 3543311
  · rw [dayE_yes h]
    have hwi : wi day 0 3543311 = true := wi_mk h
    have hy := yrM_spec day h.1 (by omega)
    have hd := stM_step (yrM day)
    have hl := lpM_step (yrM day)
    have hb := stM_bd (y := yrM day) ⟨hy.1, by have := hy.2.1; omega⟩
    have HC := Lib.hid (fun (W : World) => rYearM_any day W h.1 (by omega))
    have HI := Lib.hid (fun (m d : Int) (k : IsM day (yrM day) m d) => k.eq h.1 (by omega))
    obtain ⟨y1, y2, y3, y4⟩ := hy
    have y5 : day < Pl.stM (yrM day) + 355 := by omega
    have HX := Lib.hid (show day < Pl.stM (yrM day + 1) from y4)
    clear hd hl y4
    generalize yrM day = Y at *
    generalize moM day = MM at *
    generalize daM day = DD at *
    go_enter Tryd.func47, Tryd.ntmps47
    go_wp2_with (first | (go_at_call 102; refine (rMYear_any _ _ (by omega)).mono ?_; rintro e w1 ⟨rfl, rfl⟩) | (go_at_call 79; refine (rwithin_any _ _ _ _).mono ?_; rintro e w1 ⟨rfl, rfl⟩) | (go_at_call 99; refine (HC.out _).mono ?_; rintro e w1 ⟨rfl, rfl⟩))
    go_loop [5, 6] (fun vn vk => ∃ k : Nat, k < 12 ∧ vk = .int .i64 ((k : Int) + 1) ∧ 0 ≤ day - Pl.stM Y - cuM ((k : Int) + 1) ∧ vn = .int .i64 (day - Pl.stM Y - cuM ((k : Int) + 1))) (fun _ vk => 100 - (intOf vk).toNat)
    case atStart => exact ⟨0, by omega, by go_num, by have : cuM (((0 : Nat) : Int) + 1) = 0 := rfl; omega, by have : cuM (((0 : Nat) : Int) + 1) = 0 := rfl; rw [this]; go_num⟩
    case round =>
      obtain ⟨k, hk, rfl, hn, rfl⟩ := hrel
      have hcb : 0 ≤ cuM ((k : Int) + 1) ∧ cuM ((k : Int) + 1) ≤ 400 := by unfold cuM; omega
      have hE : mmF Y ((k : Int) + 1) = mlM Y ((k : Int) + 1) := by unfold mmF; rw [wi_mk ⟨y1, y2⟩, wi_mk (by omega)]; rfl
      have hmb := mlM_bd Y ((k : Int) + 1)
      rw [← hE] at hmb
      by_cases hge : mlM Y ((k : Int) + 1) ≤ day - Pl.stM Y - cuM ((k : Int) + 1)
      · have h11 : k < 11 := by
          rcases Nat.lt_or_ge k 11 with q | q
          · exact q
          · have e : k = 11 := by omega
            subst e
            have := cuM_last Y
            have := HX.out
            rw [show (((11 : Nat) : Int) + 1) = 12 from rfl] at hge; omega
        have HS := Lib.hid (cuM_step Y ((k : Int) + 1) (by omega))
        rw [← hE] at hge
        have HE := Lib.hid hE; clear hE
        go_wp2_with (go_at_call 103; refine (rMMonth_any _ _ _).mono ?_; rintro e w1 ⟨rfl, rfl⟩)
        go_round
        case rel => exact ⟨k + 1, by omega, by go_num, by rw [show (((k + 1 : Nat) : Int) + 1) = (k : Int) + 1 + 1 by omega, HS.out, ← HE.out]; omega, by rw [show (((k + 1 : Nat) : Int) + 1) = (k : Int) + 1 + 1 by omega, HS.out, ← HE.out]; go_num⟩
        case measure => simp [intOf]; omega
      · have HI2 := Lib.hid (HI.out ((k : Int) + 1) (day - Pl.stM Y - cuM ((k : Int) + 1) + 1) ⟨y1, y2, by omega, by omega, by omega, by omega, by omega⟩)
        rw [← hE] at hge
        clear hE
        go_wp2_with (go_at_call 103; refine (rMMonth_any _ _ _).mono ?_; rintro e w1 ⟨rfl, rfl⟩)
        refine bodyPost_ret (v := .tuple #[.agg #[.int .i64 Y, .int .i64 ((k : Int) + 1), .int .i64 (1 + (day - Pl.stM Y - cuM ((k : Int) + 1)))], .int .i64 0]) (by simp [results, Tryd.results47, go_sem]) rfl ?_
        exact ⟨by rw [onOk_ok, onOk_ok, onOk_ok]; exact ret_date rfl HI2.out.2.1 (by have := HI2.out.2.2; omega), by go_grown⟩
  · rw [dayE_no h]
    have hwi : wi day 0 3543311 = false := wi_no h
    go_enter Tryd.func47, Tryd.ntmps47
    go_wp2_with (first | (go_at_call 102; refine (rMYear_any _ _ (by omega)).mono ?_; rintro e w1 ⟨rfl, rfl⟩) | (go_at_call 79; refine (rwithin_any _ _ _ _).mono ?_; rintro e w1 ⟨rfl, rfl⟩))
    refine bodyPost_ret (v := .tuple #[.agg #[.int .i64 0, .int .i64 0, .int .i64 0], .int .i64 1]) (by simp [results, Tryd.results47, go_sem]) rfl ?_
    exact ⟨rfl, by go_grown⟩

set_option maxHeartbeats 8000000 in
theorem rMDay_any (y m d : Int) (w : World) : Calls Tryd.prog 49 #[.agg #[.int .i64 y, .int .i64 m, .int .i64 d]] w fun e w' => e = .returned (.tuple #[.int .i64 (onOk (numEM y m d) (Pl.stM y + cuM m + d - 1)), .int .i64 (numEM y m d)]) ∧ Below w.heap.size w w' := by
  have hcd := mm_dv y m d
  cases hv : dvM y m d
  · have HP := Lib.hid (numEM_no (y := y) (m := m) (d := d) (by rw [hv]; decide))
    rw [hv] at hcd
    clear hv
    go_enter Tryd.func49, Tryd.ntmps49
    go_wp2
    go_quiet (first | (go_at_call 103; first | exact quiet_one (rMMonth_any _ _ _) | exact quiet_add (rMMonth_any _ _ _)) | (go_at_call 79; first | exact quiet_one (rwithin_any _ _ _ _) | exact quiet_add (rwithin_any _ _ _ _)))
    go_wp2
    go_ret2
    exact ⟨by rw [HP.out]; rfl, by (repeat refine below_drewN ?_ _); go_grown⟩
  · have HP := Lib.hid (numEM_yes hv)
    obtain ⟨i1, i2, i3⟩ := (dvM_iff _ _ _).1 hv
    have hmb := mlM_bd y m
    have hsb := stM_bd (y := y) ⟨i1.1, by omega⟩
    rw [hv] at hcd
    clear hv
    go_enter Tryd.func49, Tryd.ntmps49
    go_wp2
    go_quiet (first | (go_at_call 103; first | exact quiet_one (rMMonth_any _ _ _) | exact quiet_add (rMMonth_any _ _ _)) | (go_at_call 79; first | exact quiet_one (rwithin_any _ _ _ _) | exact quiet_add (rwithin_any _ _ _ _)))
    go_wp2
    have s3 := IntWalk.i64_in (Pl.stM y + d) (by omega)
    have s4 := IntWalk.i64_in (Pl.stM y + d - 1) (by omega)
    have HY := Lib.hid (show 1 ≤ y ∧ y ≤ 20000 by omega)
    go_quiet ((go_at_call 102; first | exact quiet_one (rMYear_any _ _ HY.out) | exact quiet_add (rMYear_any _ _ HY.out)))
    clear s3 s4
    go_wp2
    clear hcd
    go_loopw [4, 5] (fun vn vk wr => ∃ k : Nat, (k : Int) < m ∧ vk = .int .i64 ((k : Int) + 1) ∧ vn = .int .i64 (Pl.stM y + d - 1 + cuM ((k : Int) + 1)) ∧ (wr.cell? ⟨w.heap.size, 0, none⟩ = some (.int .i64 y) ∧ wr.cell? ⟨w.heap.size, 1, none⟩ = some (.int .i64 m)) ∧ Below w.heap.size w wr) (fun _ vk _ => 100 - (intOf vk).toNat)
    case atStart => exact ⟨0, by omega, by go_num, by have : cuM (((0 : Nat) : Int) + 1) = 0 := rfl; rw [this]; go_num, ⟨by simp [go_sem], by simp [go_sem]⟩, by (repeat refine below_drewN ?_ _); go_grown⟩
    case round =>
      obtain ⟨k, hk, rfl, rfl, ⟨q0, q1⟩, hbw⟩ := hrel
      have HB := Lib.hid hbw; clear hbw
      have Q0 := Lib.hid q0; have Q1 := Lib.hid q1
      have hcb : 0 ≤ cuM ((k : Int) + 1) ∧ cuM ((k : Int) + 1) ≤ 400 := by unfold cuM; omega
      by_cases hlt : (k : Int) + 1 < m
      · have hE : mmF y ((k : Int) + 1) = mlM y ((k : Int) + 1) := by unfold mmF; rw [wi_mk i1, wi_mk (by omega)]; rfl
        have hb2 := mlM_bd y ((k : Int) + 1)
        rw [← hE] at hb2
        have HS := Lib.hid (cuM_step y ((k : Int) + 1) (by omega))
        have HE := Lib.hid hE; clear hE
        go_wp2_with (go_at_call 103; refine (rMMonth_any _ _ _).mono ?_; rintro e w1 ⟨rfl, rfl⟩)
        go_roundw
        case rel => exact ⟨k + 1, by omega, by go_num, by rw [show (((k + 1 : Nat) : Int) + 1) = (k : Int) + 1 + 1 by omega, HS.out, ← HE.out]; go_num, ⟨Q0.out, Q1.out⟩, HB.out⟩
        case measure => simp [intOf]; omega
      · have HM := Lib.hid (show (k : Int) + 1 = m by omega)
        go_wp2
        go_ret2
        exact ⟨by rw [HP.out, onOk_ok, HM.out]; exact ret_pair (by omega), HB.out⟩

end Go.Proofs.YtomlfliebolkmaaDoor
