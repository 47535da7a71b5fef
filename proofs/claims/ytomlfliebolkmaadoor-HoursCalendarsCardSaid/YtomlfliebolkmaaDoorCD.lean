/-
  Dates and days of both calendars, by contract. No condition beyond what each states.
-/
import Derived.Test.YtomlfliebolkmaaDoorCC
import Derived.Test.YtomlfliebolkmaaDoorWH
set_option linter.unusedVariables false
set_option linter.unusedSimpArgs false
namespace Go.Proofs.YtomlfliebolkmaaDoor
open Go Go.Proofs Go.RowKit Pl

/-- The error of a day. -/
def dayE (top day : Int) : Int := if wi day 0 top = true then 0 else 1
theorem dayE_yes {top day : Int} (h : 0 ≤ day ∧ day ≤ top) : dayE top day = 0 := if_pos (wi_mk h)
theorem dayE_no {top day : Int} (h : ¬ (0 ≤ day ∧ day ≤ top)) : dayE top day = 1 := by unfold dayE; rw [wi_no h]; rfl

set_option maxHeartbeats 2000000 in
theorem cDate_any (day : Int) (w : World) : Calls Tryd.prog 90 #[.iface 100 (.agg #[]), .int .i64 day] w fun e w' => e = .returned (.tuple #[.agg #[.int .i64 (onOk (dayE 3652055 day) (yrC day)), .int .i64 (onOk (dayE 3652055 day) (moC day)), .int .i64 (onOk (dayE 3652055 day) (daC day))], .int .i64 (dayE 3652055 day)]) ∧ Below w.heap.size w w' := by
  by_cases h : 0 ≤ day ∧ day ≤ 3652055
  · rw [dayE_yes h]
    exact cDate_yes day w (by omega)
  · rw [dayE_no h]
    have hst : stC 10000 = 3652056 := stC_top
    have hwi : wi day 0 3652055 = false := wi_no h
    go_enter Tryd.func90, Tryd.ntmps90
    go_wp2_with fail
    refine (cStart_any 10000 _ (by omega)).mono ?_
    rintro e w1 ⟨rfl, hb1⟩
    have rc0 := keep_cell (b := w.heap.size) (o := 0) (v := .int .i64 0) hb1 (by simp) (by simp)
    have rc1 := keep_cell (b := w.heap.size) (o := 1) (v := .int .i64 0) hb1 (by simp) (by simp)
    have rc2 := keep_cell (b := w.heap.size) (o := 2) (v := .int .i64 0) hb1 (by simp) (by simp)
    have rf0 := keep_fr (b := w.heap.size) (o := 0) hb1 (by simp) (by simp)
    have rf1 := keep_fr (b := w.heap.size) (o := 1) hb1 (by simp) (by simp)
    have rf2 := keep_fr (b := w.heap.size) (o := 2) hb1 (by simp) (by simp)
    have rl := keep_lt (b := w.heap.size) hb1 (by simp)
    have HB := Lib.hid (bjoin (w := w) (by go_grown) hb1); clear hb1
    go_wp2_with (go_at_call 77; refine (within_any _ _ _ _).mono ?_; rintro e w2 ⟨rfl, rfl⟩)
    refine bodyPost_ret (v := .tuple #[.agg #[.int .i64 0, .int .i64 0, .int .i64 0], .int .i64 1]) (by simp [results, Tryd.results90, go_sem, rc0, rc1, rc2]) rfl ?_
    exact ⟨rfl, (((HB.out.setCell (p := ⟨w.heap.size, 0, none⟩) (Nat.le_refl _) _).setCell (p := ⟨w.heap.size, 1, none⟩) (Nat.le_refl _) _).setCell (p := ⟨w.heap.size, 2, none⟩) (Nat.le_refl _) _)⟩

set_option maxHeartbeats 2000000 in
theorem cOf_any (day : Int) (w : World) : Calls Tryd.prog 34 #[.int .i64 day] w fun e w' => e = .returned (.tuple #[.agg #[.int .i64 (onOk (dayE 3652055 day) (yrC day)), .int .i64 (onOk (dayE 3652055 day) (moC day)), .int .i64 (onOk (dayE 3652055 day) (daC day))], .int .i64 (dayE 3652055 day)]) ∧ Below w.heap.size w w' := by
  go_enter Tryd.func34, Tryd.ntmps34
  go_wp2_with fail
  refine (cDate_any day _).mono ?_
  rintro e w1 ⟨rfl, hb1⟩
  have rc0 := keep_cell (b := w.heap.size) (o := 0) (v := .int .i64 0) hb1 (by simp) (by simp)
  have rc1 := keep_cell (b := w.heap.size) (o := 1) (v := .int .i64 0) hb1 (by simp) (by simp)
  have rc2 := keep_cell (b := w.heap.size) (o := 2) (v := .int .i64 0) hb1 (by simp) (by simp)
  have rf0 := keep_fr (b := w.heap.size) (o := 0) hb1 (by simp) (by simp)
  have rf1 := keep_fr (b := w.heap.size) (o := 1) hb1 (by simp) (by simp)
  have rf2 := keep_fr (b := w.heap.size) (o := 2) hb1 (by simp) (by simp)
  have rl := keep_lt (b := w.heap.size) hb1 (by simp)
  have HB := Lib.hid (bjoin (w := w) (by go_grown) hb1); clear hb1
  go_wp2
  refine bodyPost_ret (v := .tuple #[.agg #[.int .i64 (onOk (dayE 3652055 day) (yrC day)), .int .i64 (onOk (dayE 3652055 day) (moC day)), .int .i64 (onOk (dayE 3652055 day) (daC day))], .int .i64 (dayE 3652055 day)]) (by simp [results, Tryd.results34, go_sem, rc0, rc1, rc2]) rfl ?_
  exact ⟨rfl, (((HB.out.setCell (p := ⟨w.heap.size, 0, none⟩) (Nat.le_refl _) _).setCell (p := ⟨w.heap.size, 1, none⟩) (Nat.le_refl _) _).setCell (p := ⟨w.heap.size, 2, none⟩) (Nat.le_refl _) _)⟩

/-- A month of the calendar begins on the day. -/
def begC (day : Int) : Bool := decide (dayE 3652055 day = 0) && decide (daC day = 1)
set_option maxHeartbeats 2000000 in
theorem cBegins_any (day : Int) (w : World) : Calls Tryd.prog 104 #[.iface 100 (.agg #[]), .int .i64 day] w fun e w' => e = .returned (.bool (begC day)) ∧ Below w.heap.size w w' := by
  by_cases h : 0 ≤ day ∧ day ≤ 3652055
  · have hE := dayE_yes h
    have HG := Lib.hid (show begC day = decide (daC day = 1) by unfold begC; rw [hE]; rfl)
    go_enter Tryd.func104, Tryd.ntmps104
    go_wp2_with fail
    refine (cDate_any day _).mono ?_
    rintro e w1 ⟨rfl, hb1⟩
    have HB := Lib.hid hb1; clear hb1
    rw [hE, onOk_ok, onOk_ok, onOk_ok]
    go_wp2
    go_ret
    exact ⟨ret_bool (by rw [HG.out]; rfl), HB.out.alloc HB.out.size _⟩
  · have hE := dayE_no h
    have HG := Lib.hid (show begC day = false by unfold begC; rw [hE]; rfl)
    go_enter Tryd.func104, Tryd.ntmps104
    go_wp2_with fail
    refine (cDate_any day _).mono ?_
    rintro e w1 ⟨rfl, hb1⟩
    have HB := Lib.hid hb1; clear hb1
    rw [hE]
    go_wp2
    go_ret
    exact ⟨ret_bool HG.out.symm, HB.out.alloc HB.out.size _⟩

set_option maxHeartbeats 2000000 in
theorem mDate_any (day : Int) (w : World) : Calls Tryd.prog 90 #[.iface 101 (.agg #[]), .int .i64 day] w fun e w' => e = .returned (.tuple #[.agg #[.int .i64 (onOk (dayE 3543311 day) (yrM day)), .int .i64 (onOk (dayE 3543311 day) (moM day)), .int .i64 (onOk (dayE 3543311 day) (daM day))], .int .i64 (dayE 3543311 day)]) ∧ Below w.heap.size w w' := by
  by_cases h : 0 ≤ day ∧ day ≤ 3543311
  · rw [dayE_yes h]
    exact mDate_yes day w (by omega)
  · rw [dayE_no h]
    have hst : Pl.stM 10000 = 3543312 := stM_top
    have hwi : wi day 0 3543311 = false := wi_no h
    go_enter Tryd.func90, Tryd.ntmps90
    go_wp2_with fail
    refine (mStart_any 10000 _ (by omega)).mono ?_
    rintro e w1 ⟨rfl, hb1⟩
    have rc0 := keep_cell (b := w.heap.size) (o := 0) (v := .int .i64 0) hb1 (by simp) (by simp)
    have rc1 := keep_cell (b := w.heap.size) (o := 1) (v := .int .i64 0) hb1 (by simp) (by simp)
    have rc2 := keep_cell (b := w.heap.size) (o := 2) (v := .int .i64 0) hb1 (by simp) (by simp)
    have rf0 := keep_fr (b := w.heap.size) (o := 0) hb1 (by simp) (by simp)
    have rf1 := keep_fr (b := w.heap.size) (o := 1) hb1 (by simp) (by simp)
    have rf2 := keep_fr (b := w.heap.size) (o := 2) hb1 (by simp) (by simp)
    have rl := keep_lt (b := w.heap.size) hb1 (by simp)
    have HB := Lib.hid (bjoin (w := w) (by go_grown) hb1); clear hb1
    go_wp2_with (go_at_call 77; refine (within_any _ _ _ _).mono ?_; rintro e w2 ⟨rfl, rfl⟩)
    refine bodyPost_ret (v := .tuple #[.agg #[.int .i64 0, .int .i64 0, .int .i64 0], .int .i64 1]) (by simp [results, Tryd.results90, go_sem, rc0, rc1, rc2]) rfl ?_
    exact ⟨rfl, (((HB.out.setCell (p := ⟨w.heap.size, 0, none⟩) (Nat.le_refl _) _).setCell (p := ⟨w.heap.size, 1, none⟩) (Nat.le_refl _) _).setCell (p := ⟨w.heap.size, 2, none⟩) (Nat.le_refl _) _)⟩

set_option maxHeartbeats 2000000 in
theorem mOf_any (day : Int) (w : World) : Calls Tryd.prog 35 #[.int .i64 day] w fun e w' => e = .returned (.tuple #[.agg #[.int .i64 (onOk (dayE 3543311 day) (yrM day)), .int .i64 (onOk (dayE 3543311 day) (moM day)), .int .i64 (onOk (dayE 3543311 day) (daM day))], .int .i64 (dayE 3543311 day)]) ∧ Below w.heap.size w w' := by
  go_enter Tryd.func35, Tryd.ntmps35
  go_wp2_with fail
  refine (mDate_any day _).mono ?_
  rintro e w1 ⟨rfl, hb1⟩
  have rc0 := keep_cell (b := w.heap.size) (o := 0) (v := .int .i64 0) hb1 (by simp) (by simp)
  have rc1 := keep_cell (b := w.heap.size) (o := 1) (v := .int .i64 0) hb1 (by simp) (by simp)
  have rc2 := keep_cell (b := w.heap.size) (o := 2) (v := .int .i64 0) hb1 (by simp) (by simp)
  have rf0 := keep_fr (b := w.heap.size) (o := 0) hb1 (by simp) (by simp)
  have rf1 := keep_fr (b := w.heap.size) (o := 1) hb1 (by simp) (by simp)
  have rf2 := keep_fr (b := w.heap.size) (o := 2) hb1 (by simp) (by simp)
  have rl := keep_lt (b := w.heap.size) hb1 (by simp)
  have HB := Lib.hid (bjoin (w := w) (by go_grown) hb1); clear hb1
  go_wp2
  refine bodyPost_ret (v := .tuple #[.agg #[.int .i64 (onOk (dayE 3543311 day) (yrM day)), .int .i64 (onOk (dayE 3543311 day) (moM day)), .int .i64 (onOk (dayE 3543311 day) (daM day))], .int .i64 (dayE 3543311 day)]) (by simp [results, Tryd.results35, go_sem, rc0, rc1, rc2]) rfl ?_
  exact ⟨rfl, (((HB.out.setCell (p := ⟨w.heap.size, 0, none⟩) (Nat.le_refl _) _).setCell (p := ⟨w.heap.size, 1, none⟩) (Nat.le_refl _) _).setCell (p := ⟨w.heap.size, 2, none⟩) (Nat.le_refl _) _)⟩

/-- A month of the calendar begins on the day. -/
def begM (day : Int) : Bool := decide (dayE 3543311 day = 0) && decide (daM day = 1)
set_option maxHeartbeats 2000000 in
theorem mBegins_any (day : Int) (w : World) : Calls Tryd.prog 104 #[.iface 101 (.agg #[]), .int .i64 day] w fun e w' => e = .returned (.bool (begM day)) ∧ Below w.heap.size w w' := by
  by_cases h : 0 ≤ day ∧ day ≤ 3543311
  · have hE := dayE_yes h
    have HG := Lib.hid (show begM day = decide (daM day = 1) by unfold begM; rw [hE]; rfl)
    go_enter Tryd.func104, Tryd.ntmps104
    go_wp2_with fail
    refine (mDate_any day _).mono ?_
    rintro e w1 ⟨rfl, hb1⟩
    have HB := Lib.hid hb1; clear hb1
    rw [hE, onOk_ok, onOk_ok, onOk_ok]
    go_wp2
    go_ret
    exact ⟨ret_bool (by rw [HG.out]; rfl), HB.out.alloc HB.out.size _⟩
  · have hE := dayE_no h
    have HG := Lib.hid (show begM day = false by unfold begM; rw [hE]; rfl)
    go_enter Tryd.func104, Tryd.ntmps104
    go_wp2_with fail
    refine (mDate_any day _).mono ?_
    rintro e w1 ⟨rfl, hb1⟩
    have HB := Lib.hid hb1; clear hb1
    rw [hE]
    go_wp2
    go_ret
    exact ⟨ret_bool HG.out.symm, HB.out.alloc HB.out.size _⟩

/-- A date is valid in the calendar. -/
def dvC (y m d : Int) : Bool := wi y 1 9999 && wi m 1 13 && wi d 1 (mlC y m)
def numEC (y m d : Int) : Int := if dvC y m d = true then 0 else 1
theorem dvC_iff (y m d : Int) : dvC y m d = true ↔ (1 ≤ y ∧ y ≤ 9999) ∧ (1 ≤ m ∧ m ≤ 13) ∧ (1 ≤ d ∧ d ≤ mlC y m) := by
  unfold dvC; rw [Bool.and_eq_true, Bool.and_eq_true, wi_iff, wi_iff, wi_iff]; exact ⟨fun ⟨⟨a, b⟩, c⟩ => ⟨a, b, c⟩, fun ⟨a, b, c⟩ => ⟨⟨a, b⟩, c⟩⟩
theorem numEC_no {y m d : Int} (h : ¬ dvC y m d = true) : numEC y m d = 1 := if_neg h
theorem numEC_yes {y m d : Int} (h : dvC y m d = true) : numEC y m d = 0 := if_pos h

set_option maxRecDepth 100000 in
set_option maxHeartbeats 4000000 in
theorem cNumber_any (y m d : Int) (w : World) : Calls Tryd.prog 100 #[.iface 100 (.agg #[]), .agg #[.int .i64 y, .int .i64 m, .int .i64 d]] w fun e w' => e = .returned (.tuple #[.int .i64 (onOk (numEC y m d) (stC y + cuC m + d - 1)), .int .i64 (numEC y m d)]) ∧ Below w.heap.size w w' := by
  cases hy : wi y 1 9999
  · have HP := Lib.hid (numEC_no (y := y) (m := m) (d := d) (by simp [dvC, hy]))
    go_enter Tryd.func100, Tryd.ntmps100
    go_wp2_with (go_at_call 77; refine (within_any _ _ _ _).mono ?_; rintro e w1 ⟨rfl, rfl⟩)
    go_ret2
    exact ⟨by rw [HP.out]; rfl, by go_grown⟩
  · have hy1 := (wi_iff _ _ _).1 hy
    cases hm : wi m 1 13
    · have HP := Lib.hid (numEC_no (y := y) (m := m) (d := d) (by simp [dvC, hm]))
      go_enter Tryd.func100, Tryd.ntmps100
      go_wp2_with (go_at_call 77; refine (within_any _ _ _ _).mono ?_; rintro e w1 ⟨rfl, rfl⟩)
      refine (cMonths_any y _ (by omega)).mono ?_
      rintro e w2 ⟨bm, rfl, hn, hb2⟩
      have HN := Lib.hid hn; clear hn
      obtain ⟨hc2, hf2⟩ := bcell hb2
      have HB2 := Lib.hid (bjoin (w := w) (by go_grown) hb2)
      have HC2 := Lib.hid hb2; clear hb2
      clear hy1
      have qd0 := keep_cell (b := w.heap.size) (o := 0) (v := .int .i64 y) HC2.out (by simp) (by simp)
      have qd1 := keep_cell (b := w.heap.size) (o := 1) (v := .int .i64 m) HC2.out (by simp) (by simp)
      have qd2 := keep_cell (b := w.heap.size) (o := 2) (v := .int .i64 d) HC2.out (by simp) (by simp)
      go_wp2
      go_quiet ((go_at_call 77; first | exact quiet_one (within_any _ _ _ _) | exact quiet_add (within_any _ _ _ _)))
      go_wp2
      go_ret2
      exact ⟨by rw [HP.out]; rfl, by (repeat refine below_drewN ?_ _); exact HB2.out⟩
    · have hm1 := (wi_iff _ _ _).1 hm
      obtain ⟨k, rfl⟩ : ∃ k : Nat, m = (k : Int) + 1 := ⟨(m - 1).toNat, by omega⟩
      have hk : k < 13 := by omega
      have hmb := mlC_bd y ((k : Int) + 1)
      have hml := mlCL_at y k hk
      have HML := Lib.hid hml
      have hlb : 0 ≤ (mlCL y)[k]?.getD 0 ∧ (mlCL y)[k]?.getD 0 ≤ 30 := by rw [hml]; omega
      cases hd : wi d 1 (mlC y ((k : Int) + 1))
      · have HP := Lib.hid (numEC_no (y := y) (m := (k : Int) + 1) (d := d) (by simp [dvC, hy, hm, hd]))
        rw [← hml] at hd
        clear hml hmb
        go_enter Tryd.func100, Tryd.ntmps100
        go_wp2_with (go_at_call 77; refine (within_any _ _ _ _).mono ?_; rintro e w1 ⟨rfl, rfl⟩)
        refine (cMonths_any y _ (by omega)).mono ?_
        rintro e w2 ⟨bm, rfl, hn, hb2⟩
        have HN := Lib.hid hn; clear hn
        obtain ⟨hc2, hf2⟩ := bcell hb2
        have HB2 := Lib.hid (bjoin (w := w) (by go_grown) hb2)
        have HC2 := Lib.hid hb2; clear hb2
        have qd0 := keep_cell (b := w.heap.size) (o := 0) (v := .int .i64 y) HC2.out (by simp) (by simp)
        have qd1 := keep_cell (b := w.heap.size) (o := 1) (v := .int .i64 ((k : Int) + 1)) HC2.out (by simp) (by simp)
        have qd2 := keep_cell (b := w.heap.size) (o := 2) (v := .int .i64 d) HC2.out (by simp) (by simp)
        have qk := HN.out.cell k (by rw [mlCL_len]; exact hk)
        have hw1 := IntWalk.i64_in ((k : Int) + 1 - 1) (by omega)
        go_wp2
        go_quiet ((go_at_call 77; first | exact quiet_one (within_any _ _ _ _) | exact quiet_add (within_any _ _ _ _)))
        go_wp2
        go_ret2
        exact ⟨by rw [HP.out]; rfl, by (repeat refine below_drewN ?_ _); exact HB2.out⟩
      · have hd1 := (wi_iff _ _ _).1 hd
        have HP := Lib.hid (numEC_yes (y := y) (m := (k : Int) + 1) (d := d) (by simp [dvC, hy, hm, hd]))
        have hdb : 1 ≤ d ∧ d ≤ 30 := by omega
        rw [← hml] at hd
        clear hml hmb hd1 hm1
        have hsb : 0 ≤ stC y ∧ stC y ≤ 4000000 := by
          have ha := stC_mono hy1.1; have hb := stC_mono (show y ≤ 10000 by omega)
          rw [stC_one] at ha; rw [stC_top] at hb; omega
        go_enter Tryd.func100, Tryd.ntmps100
        go_wp2_with (go_at_call 77; refine (within_any _ _ _ _).mono ?_; rintro e w1 ⟨rfl, rfl⟩)
        refine (cMonths_any y _ (by omega)).mono ?_
        rintro e w2 ⟨bm, rfl, hn, hb2⟩
        have HN := Lib.hid hn; clear hn
        obtain ⟨hc2, hf2⟩ := bcell hb2
        have HB2 := Lib.hid (bjoin (w := w) (by go_grown) hb2)
        have HC2 := Lib.hid hb2; clear hb2
        have qd0 := keep_cell (b := w.heap.size) (o := 0) (v := .int .i64 y) HC2.out (by simp) (by simp)
        have qd1 := keep_cell (b := w.heap.size) (o := 1) (v := .int .i64 ((k : Int) + 1)) HC2.out (by simp) (by simp)
        have qd2 := keep_cell (b := w.heap.size) (o := 2) (v := .int .i64 d) HC2.out (by simp) (by simp)
        have ql := keep_lt (b := w.heap.size) HC2.out (by simp)
        have qk := HN.out.cell k (by rw [mlCL_len]; exact hk)
        have HNL := Lib.hid (show ∀ i, i < 13 → w2.cell? ⟨bm, i, none⟩ = some (.int .i64 ((mlCL y)[i]?.getD 0)) from fun i hi => HN.out.cell i (by rw [mlCL_len]; exact hi))
        have hw1 := IntWalk.i64_in ((k : Int) + 1 - 1) (by omega)
        have hw2 := IntWalk.i64_in (stC y + d) (by omega)
        have hw3 := IntWalk.i64_in (stC y + d - 1) (by omega)
        have HQ := Lib.hid (show ∀ W', Below w2.heap.size w2 W' → W'.cell? ⟨w.heap.size, 0, none⟩ = some (.int .i64 y) ∧ W'.cell? ⟨w.heap.size, 1, none⟩ = some (.int .i64 ((k : Int) + 1)) ∧ W'.cell? ⟨w.heap.size, 2, none⟩ = some (.int .i64 d) ∧ Below w2.heap.size w2 W' from fun W' hBW => ⟨keep_cell hBW ql qd0, keep_cell hBW ql qd1, keep_cell hBW ql qd2, hBW⟩)
        go_wp2
        go_quiet ((go_at_call 77; first | exact quiet_one (within_any _ _ _ _) | exact quiet_add (within_any _ _ _ _)))
        go_wp2
        go_region_held3 (fun W' => W'.cell? ⟨w.heap.size, 0, none⟩ = some (.int .i64 y) ∧ W'.cell? ⟨w.heap.size, 1, none⟩ = some (.int .i64 ((k : Int) + 1)) ∧ W'.cell? ⟨w.heap.size, 2, none⟩ = some (.int .i64 d) ∧ Below w2.heap.size w2 W') ((refine HQ.out _ ?_; first | assumption | ((repeat first | refine Below.drew ?_ | refine below_drewN ?_ _); exact Below.refl _ _))) (first | (go_at_call 105; obtain ⟨_, _, _, hBW⟩ := ‹_ ∧ _ ∧ _ ∧ Below w2.heap.size w2 _›; ((with_reducible refine (cStart_any y _ (by omega)).mono ?_); rintro e wn ⟨rfl, hbn⟩; have hBN := bjoin hBW hbn)))
        obtain ⟨_, _, _, hBW⟩ := ‹_ ∧ _ ∧ _ ∧ Below w2.heap.size w2 _›
        have HNW := Lib.hid (show ∀ i, i < 13 → wn.cell? ⟨bm, i, none⟩ = some (.int .i64 ((mlCL y)[i]?.getD 0)) from fun i hi => ((bcell hBW).1 _ _ HN.out.hi).trans (HNL.out i hi))
        have HBN := Lib.hid (bjoin HB2.out hBW)
        clear qd0 qd1 qd2 qk HQ hBW hw1
        go_wp2
        have HCU := Lib.hid (csumC y k hk)
        go_loop [7, 50] (fun v7 v50 => ∃ j : Nat, j ≤ k ∧ v50 = .int .i64 j ∧ v7 = .int .i64 (stC y + d - 1 + csum (mlCL y) j)) (fun _ v50 => 13 - (intOf v50).toNat)
        case atStart => exact ⟨0, by omega, rfl, by rw [csum, Int.add_zero]⟩
        case round =>
          obtain ⟨j, hj, rfl, rfl⟩ := hrel
          have hub : csum (mlCL y) j ≤ 4000000 ∧ 0 ≤ csum (mlCL y) j := by rw [csumC y j (by omega)]; unfold cuC; omega
          by_cases hlt : j < k
          · have hcj := HNW.out j (by omega)
            have hbj : 0 ≤ (mlCL y)[j]?.getD 0 ∧ (mlCL y)[j]?.getD 0 ≤ 30 := by
              have := mlC_bd y ((j : Int) + 1)
              rw [mlCL_at y j (by omega)]; omega
            have HCS := Lib.hid (show csum (mlCL y) (j + 1) = csum (mlCL y) j + (mlCL y)[j]?.getD 0 from rfl)
            go_wp2
            go_round
            case rel => exact ⟨j + 1, by omega, by go_num, by rw [HCS.out]; go_num⟩
            case measure => simp [intOf]; omega
          · obtain rfl : j = k := by omega
            go_wp2
            go_ret2
            exact ⟨by rw [HP.out]; exact ret_pair (by rw [onOk_ok]; have := HCU.out; omega), HBN.out⟩

/-- A date is valid in the calendar. -/
def dvM (y m d : Int) : Bool := wi y 1 9999 && wi m 1 12 && wi d 1 (mlM y m)
def numEM (y m d : Int) : Int := if dvM y m d = true then 0 else 1
theorem dvM_iff (y m d : Int) : dvM y m d = true ↔ (1 ≤ y ∧ y ≤ 9999) ∧ (1 ≤ m ∧ m ≤ 12) ∧ (1 ≤ d ∧ d ≤ mlM y m) := by
  unfold dvM; rw [Bool.and_eq_true, Bool.and_eq_true, wi_iff, wi_iff, wi_iff]; exact ⟨fun ⟨⟨a, b⟩, c⟩ => ⟨a, b, c⟩, fun ⟨a, b, c⟩ => ⟨⟨a, b⟩, c⟩⟩
theorem numEM_no {y m d : Int} (h : ¬ dvM y m d = true) : numEM y m d = 1 := if_neg h
theorem numEM_yes {y m d : Int} (h : dvM y m d = true) : numEM y m d = 0 := if_pos h

set_option maxRecDepth 100000 in
set_option maxHeartbeats 4000000 in
theorem mNumber_any (y m d : Int) (w : World) : Calls Tryd.prog 100 #[.iface 101 (.agg #[]), .agg #[.int .i64 y, .int .i64 m, .int .i64 d]] w fun e w' => e = .returned (.tuple #[.int .i64 (onOk (numEM y m d) (Pl.stM y + cuM m + d - 1)), .int .i64 (numEM y m d)]) ∧ Below w.heap.size w w' := by
  cases hy : wi y 1 9999
  · have HP := Lib.hid (numEM_no (y := y) (m := m) (d := d) (by simp [dvM, hy]))
    go_enter Tryd.func100, Tryd.ntmps100
    go_wp2_with (go_at_call 77; refine (within_any _ _ _ _).mono ?_; rintro e w1 ⟨rfl, rfl⟩)
    go_ret2
    exact ⟨by rw [HP.out]; rfl, by go_grown⟩
  · have hy1 := (wi_iff _ _ _).1 hy
    cases hm : wi m 1 12
    · have HP := Lib.hid (numEM_no (y := y) (m := m) (d := d) (by simp [dvM, hm]))
      go_enter Tryd.func100, Tryd.ntmps100
      go_wp2_with (go_at_call 77; refine (within_any _ _ _ _).mono ?_; rintro e w1 ⟨rfl, rfl⟩)
      refine (mMonths_any y _ (by omega)).mono ?_
      rintro e w2 ⟨bm, rfl, hn, hb2⟩
      have HN := Lib.hid hn; clear hn
      obtain ⟨hc2, hf2⟩ := bcell hb2
      have HB2 := Lib.hid (bjoin (w := w) (by go_grown) hb2)
      have HC2 := Lib.hid hb2; clear hb2
      clear hy1
      have qd0 := keep_cell (b := w.heap.size) (o := 0) (v := .int .i64 y) HC2.out (by simp) (by simp)
      have qd1 := keep_cell (b := w.heap.size) (o := 1) (v := .int .i64 m) HC2.out (by simp) (by simp)
      have qd2 := keep_cell (b := w.heap.size) (o := 2) (v := .int .i64 d) HC2.out (by simp) (by simp)
      go_wp2
      go_quiet ((go_at_call 77; first | exact quiet_one (within_any _ _ _ _) | exact quiet_add (within_any _ _ _ _)))
      go_wp2
      go_ret2
      exact ⟨by rw [HP.out]; rfl, by (repeat refine below_drewN ?_ _); exact HB2.out⟩
    · have hm1 := (wi_iff _ _ _).1 hm
      obtain ⟨k, rfl⟩ : ∃ k : Nat, m = (k : Int) + 1 := ⟨(m - 1).toNat, by omega⟩
      have hk : k < 12 := by omega
      have hmb := mlM_bd y ((k : Int) + 1)
      have hml := mlML_at y k hk
      have HML := Lib.hid hml
      have hlb : 0 ≤ (mlML y)[k]?.getD 0 ∧ (mlML y)[k]?.getD 0 ≤ 30 := by rw [hml]; omega
      cases hd : wi d 1 (mlM y ((k : Int) + 1))
      · have HP := Lib.hid (numEM_no (y := y) (m := (k : Int) + 1) (d := d) (by simp [dvM, hy, hm, hd]))
        rw [← hml] at hd
        clear hml hmb
        go_enter Tryd.func100, Tryd.ntmps100
        go_wp2_with (go_at_call 77; refine (within_any _ _ _ _).mono ?_; rintro e w1 ⟨rfl, rfl⟩)
        refine (mMonths_any y _ (by omega)).mono ?_
        rintro e w2 ⟨bm, rfl, hn, hb2⟩
        have HN := Lib.hid hn; clear hn
        obtain ⟨hc2, hf2⟩ := bcell hb2
        have HB2 := Lib.hid (bjoin (w := w) (by go_grown) hb2)
        have HC2 := Lib.hid hb2; clear hb2
        have qd0 := keep_cell (b := w.heap.size) (o := 0) (v := .int .i64 y) HC2.out (by simp) (by simp)
        have qd1 := keep_cell (b := w.heap.size) (o := 1) (v := .int .i64 ((k : Int) + 1)) HC2.out (by simp) (by simp)
        have qd2 := keep_cell (b := w.heap.size) (o := 2) (v := .int .i64 d) HC2.out (by simp) (by simp)
        have qk := HN.out.cell k (by rw [mlML_len]; exact hk)
        have hw1 := IntWalk.i64_in ((k : Int) + 1 - 1) (by omega)
        go_wp2
        go_quiet ((go_at_call 77; first | exact quiet_one (within_any _ _ _ _) | exact quiet_add (within_any _ _ _ _)))
        go_wp2
        go_ret2
        exact ⟨by rw [HP.out]; rfl, by (repeat refine below_drewN ?_ _); exact HB2.out⟩
      · have hd1 := (wi_iff _ _ _).1 hd
        have HP := Lib.hid (numEM_yes (y := y) (m := (k : Int) + 1) (d := d) (by simp [dvM, hy, hm, hd]))
        have hdb : 1 ≤ d ∧ d ≤ 30 := by omega
        rw [← hml] at hd
        clear hml hmb hd1 hm1
        have hsb : 0 ≤ Pl.stM y ∧ Pl.stM y ≤ 4000000 := by
          have ha := stM_mono hy1.1; have hb := stM_mono (show y ≤ 10000 by omega)
          rw [stM_one] at ha; rw [stM_top] at hb; omega
        go_enter Tryd.func100, Tryd.ntmps100
        go_wp2_with (go_at_call 77; refine (within_any _ _ _ _).mono ?_; rintro e w1 ⟨rfl, rfl⟩)
        refine (mMonths_any y _ (by omega)).mono ?_
        rintro e w2 ⟨bm, rfl, hn, hb2⟩
        have HN := Lib.hid hn; clear hn
        obtain ⟨hc2, hf2⟩ := bcell hb2
        have HB2 := Lib.hid (bjoin (w := w) (by go_grown) hb2)
        have HC2 := Lib.hid hb2; clear hb2
        have qd0 := keep_cell (b := w.heap.size) (o := 0) (v := .int .i64 y) HC2.out (by simp) (by simp)
        have qd1 := keep_cell (b := w.heap.size) (o := 1) (v := .int .i64 ((k : Int) + 1)) HC2.out (by simp) (by simp)
        have qd2 := keep_cell (b := w.heap.size) (o := 2) (v := .int .i64 d) HC2.out (by simp) (by simp)
        have ql := keep_lt (b := w.heap.size) HC2.out (by simp)
        have qk := HN.out.cell k (by rw [mlML_len]; exact hk)
        have HNL := Lib.hid (show ∀ i, i < 12 → w2.cell? ⟨bm, i, none⟩ = some (.int .i64 ((mlML y)[i]?.getD 0)) from fun i hi => HN.out.cell i (by rw [mlML_len]; exact hi))
        have hw1 := IntWalk.i64_in ((k : Int) + 1 - 1) (by omega)
        have hw2 := IntWalk.i64_in (Pl.stM y + d) (by omega)
        have hw3 := IntWalk.i64_in (Pl.stM y + d - 1) (by omega)
        have HQ := Lib.hid (show ∀ W', Below w2.heap.size w2 W' → W'.cell? ⟨w.heap.size, 0, none⟩ = some (.int .i64 y) ∧ W'.cell? ⟨w.heap.size, 1, none⟩ = some (.int .i64 ((k : Int) + 1)) ∧ W'.cell? ⟨w.heap.size, 2, none⟩ = some (.int .i64 d) ∧ Below w2.heap.size w2 W' from fun W' hBW => ⟨keep_cell hBW ql qd0, keep_cell hBW ql qd1, keep_cell hBW ql qd2, hBW⟩)
        go_wp2
        go_quiet ((go_at_call 77; first | exact quiet_one (within_any _ _ _ _) | exact quiet_add (within_any _ _ _ _)))
        go_wp2
        go_region_held3 (fun W' => W'.cell? ⟨w.heap.size, 0, none⟩ = some (.int .i64 y) ∧ W'.cell? ⟨w.heap.size, 1, none⟩ = some (.int .i64 ((k : Int) + 1)) ∧ W'.cell? ⟨w.heap.size, 2, none⟩ = some (.int .i64 d) ∧ Below w2.heap.size w2 W') ((refine HQ.out _ ?_; first | assumption | ((repeat first | refine Below.drew ?_ | refine below_drewN ?_ _); exact Below.refl _ _))) (first | (go_at_call 105; obtain ⟨_, _, _, hBW⟩ := ‹_ ∧ _ ∧ _ ∧ Below w2.heap.size w2 _›; ((with_reducible refine (mStart_any y _ (by omega)).mono ?_); rintro e wn ⟨rfl, hbn⟩; have hBN := bjoin hBW hbn)))
        obtain ⟨_, _, _, hBW⟩ := ‹_ ∧ _ ∧ _ ∧ Below w2.heap.size w2 _›
        have HNW := Lib.hid (show ∀ i, i < 12 → wn.cell? ⟨bm, i, none⟩ = some (.int .i64 ((mlML y)[i]?.getD 0)) from fun i hi => ((bcell hBW).1 _ _ HN.out.hi).trans (HNL.out i hi))
        have HBN := Lib.hid (bjoin HB2.out hBW)
        clear qd0 qd1 qd2 qk HQ hBW hw1
        go_wp2
        have HCU := Lib.hid (csumM y k hk)
        go_loop [7, 50] (fun v7 v50 => ∃ j : Nat, j ≤ k ∧ v50 = .int .i64 j ∧ v7 = .int .i64 (Pl.stM y + d - 1 + csum (mlML y) j)) (fun _ v50 => 12 - (intOf v50).toNat)
        case atStart => exact ⟨0, by omega, rfl, by rw [csum, Int.add_zero]⟩
        case round =>
          obtain ⟨j, hj, rfl, rfl⟩ := hrel
          have hub : csum (mlML y) j ≤ 4000000 ∧ 0 ≤ csum (mlML y) j := by rw [csumM y j (by omega)]; unfold cuM; omega
          by_cases hlt : j < k
          · have hcj := HNW.out j (by omega)
            have hbj : 0 ≤ (mlML y)[j]?.getD 0 ∧ (mlML y)[j]?.getD 0 ≤ 30 := by
              have := mlM_bd y ((j : Int) + 1)
              rw [mlML_at y j (by omega)]; omega
            have HCS := Lib.hid (show csum (mlML y) (j + 1) = csum (mlML y) j + (mlML y)[j]?.getD 0 from rfl)
            go_wp2
            go_round
            case rel => exact ⟨j + 1, by omega, by go_num, by rw [HCS.out]; go_num⟩
            case measure => simp [intOf]; omega
          · obtain rfl : j = k := by omega
            go_wp2
            go_ret2
            exact ⟨by rw [HP.out]; exact ret_pair (by rw [onOk_ok]; have := HCU.out; omega), HBN.out⟩

set_option maxHeartbeats 2000000 in
theorem cDay_any (y m d : Int) (w : World) : Calls Tryd.prog 45 #[.agg #[.int .i64 y, .int .i64 m, .int .i64 d]] w fun e w' => e = .returned (.tuple #[.int .i64 (onOk (numEC y m d) (stC y + cuC m + d - 1)), .int .i64 (numEC y m d)]) ∧ Below w.heap.size w w' := by
  go_enter Tryd.func45, Tryd.ntmps45
  go_wp2_with fail
  refine (cNumber_any y m d _).mono ?_
  rintro e w1 ⟨rfl, hb1⟩
  have HB := Lib.hid (bjoin (w := w) (by go_grown) hb1); clear hb1
  go_wp2
  go_ret2
  exact ⟨rfl, HB.out⟩

set_option maxHeartbeats 2000000 in
theorem mDay_any (y m d : Int) (w : World) : Calls Tryd.prog 48 #[.agg #[.int .i64 y, .int .i64 m, .int .i64 d]] w fun e w' => e = .returned (.tuple #[.int .i64 (onOk (numEM y m d) (Pl.stM y + cuM m + d - 1)), .int .i64 (numEM y m d)]) ∧ Below w.heap.size w w' := by
  go_enter Tryd.func48, Tryd.ntmps48
  go_wp2_with fail
  refine (mNumber_any y m d _).mono ?_
  rintro e w1 ⟨rfl, hb1⟩
  have HB := Lib.hid (bjoin (w := w) (by go_grown) hb1); clear hb1
  go_wp2
  go_ret2
  exact ⟨rfl, HB.out⟩

end Go.Proofs.YtomlfliebolkmaaDoor
