/-
  HoursCycles: the walk; the dates of the program by cases. No condition.
-/
import Derived.Test.YtomlfliebolkmaaDoorCJ
import Derived.Test.YtomlfliebolkmaaDoorPlC
import Derived.ChangeAlike
import Derived.RegionTactic
set_option linter.unusedVariables false
set_option linter.unusedSimpArgs false
namespace Go.Proofs.YtomlfliebolkmaaDoor
open Go Go.Proofs Go.RowKit Pl

theorem cOf_yes (day : Int) (w : World) (h : 0 ≤ day ∧ day ≤ 3652055) : Calls Tryd.prog 34 #[.int .i64 day] w fun e w' => e = .returned (.tuple #[.agg #[.int .i64 (yrC day), .int .i64 (moC day), .int .i64 (daC day)], .int .i64 0]) ∧ Below w.heap.size w w' := by
  have c := cOf_any day w
  rw [dayE_yes h] at c
  simpa only [onOk_ok] using c
theorem cOf_no (day : Int) (w : World) (h : ¬ (0 ≤ day ∧ day ≤ 3652055)) : Calls Tryd.prog 34 #[.int .i64 day] w fun e w' => e = .returned (.tuple #[.agg #[.int .i64 0, .int .i64 0, .int .i64 0], .int .i64 1]) ∧ Below w.heap.size w w' := by
  have c := cOf_any day w
  rw [dayE_no h] at c
  have h1 : (1 : Int) ≠ 0 := by decide
  simpa only [onOk_no h1] using c
theorem mOf_yes (day : Int) (w : World) (h : 0 ≤ day ∧ day ≤ 3543311) : Calls Tryd.prog 35 #[.int .i64 day] w fun e w' => e = .returned (.tuple #[.agg #[.int .i64 (yrM day), .int .i64 (moM day), .int .i64 (daM day)], .int .i64 0]) ∧ Below w.heap.size w w' := by
  have c := mOf_any day w
  rw [dayE_yes h] at c
  simpa only [onOk_ok] using c
theorem mOf_no (day : Int) (w : World) (h : ¬ (0 ≤ day ∧ day ≤ 3543311)) : Calls Tryd.prog 35 #[.int .i64 day] w fun e w' => e = .returned (.tuple #[.agg #[.int .i64 0, .int .i64 0, .int .i64 0], .int .i64 1]) ∧ Below w.heap.size w w' := by
  have c := mOf_any day w
  rw [dayE_no h] at c
  have h1 : (1 : Int) ≠ 0 := by decide
  simpa only [onOk_no h1] using c
theorem cOf_fit (day k : Int) (w : World) (h0 : 0 ≤ day ∧ day ≤ 3000000) (hk : 0 ≤ k) (hy : yrC day + 128 * k ≤ 9999) : Calls Tryd.prog 34 #[.int .i64 (day + 46751 * k)] w fun e w' => e = .returned (.tuple #[.agg #[.int .i64 (yrC day + 128 * k), .int .i64 (moC day), .int .i64 (daC day)], .int .i64 0]) ∧ Below w.heap.size w w' := by
  obtain ⟨a, b, c, d⟩ := cycC_eq h0.1 (by omega) hk hy
  have k := cOf_yes (day + 46751 * k) w (by omega)
  rw [b, c, d] at k
  exact k
theorem mOf_fit (day k : Int) (w : World) (h0 : 0 ≤ day ∧ day ≤ 3000000) (hk : 0 ≤ k) (hy : yrM day + 30 * k ≤ 9999) : Calls Tryd.prog 35 #[.int .i64 (day + 10631 * k)] w fun e w' => e = .returned (.tuple #[.agg #[.int .i64 (yrM day + 30 * k), .int .i64 (moM day), .int .i64 (daM day)], .int .i64 0]) ∧ Below w.heap.size w w' := by
  obtain ⟨a, b, c, d⟩ := cycM_eq h0.1 (by omega) hk hy
  have k := mOf_yes (day + 10631 * k) w (by omega)
  rw [b, c, d] at k
  exact k

set_option maxRecDepth 100000 in
set_option maxHeartbeats 20000000 in
theorem Cycles_any (day many : Int) (w : World) : Calls Tryd.prog 5 #[.int .i64 day, .int .i64 many] w fun e w' => e = .returned (.bool true) ∧ Below w.heap.size w w' := by
  by_cases hg : (0 ≤ day ∧ day ≤ 3000000) ∧ (0 ≤ many ∧ many ≤ 400)
  · have HG := Lib.hid hg
    have HYC := Lib.hid (yrC_spec day hg.1.1 (by omega))
    have HYM := Lib.hid (yrM_spec day hg.1.1 (by omega))
    obtain ⟨⟨h0, h1⟩, h2, h3⟩ := hg
    go_enter Tryd.func5, Tryd.ntmps5
    go_wp2_with fail
    refine (sane_any _).mono ?_
    rintro e w1 ⟨rfl, hb⟩
    have HB1 := Lib.hid hb; clear hb
    go_wp2_with fail
    go_loopw [31] (fun vi wr => ∃ k : Nat, k ≤ 2 ∧ vi = .int .i64 k ∧ wr.cell? ⟨w1.heap.size, 0, none⟩ = some (.func (.func 34) #[] #[]) ∧ wr.cell? ⟨w1.heap.size, 1, none⟩ = some (.func (.func 35) #[] #[]) ∧ w1.heap.size < wr.heap.size ∧ Below w.heap.size w wr) (fun vi _ => 10 - (intOf vi).toNat)
    case atStart => exact ⟨0, by omega, rfl, by simp [go_sem], by simp [go_sem], by simp, by have hb' := HB1.out; have hb'' := hb'.size; go_grown⟩
    case round =>
      obtain ⟨k, hk, rfl, q0, q1, hl, hbr⟩ := hrel
      have HBR := Lib.hid hbr; clear hbr
      have Q0 := Lib.hid q0; have Q1 := Lib.hid q1
      have hk3 : k = 0 ∨ k = 1 ∨ k = 2 := by omega
      rcases hk3 with rfl | rfl | rfl
      · have s1 := IntWalk.i64_in (46751 * many) (by omega)
        have s2 := IntWalk.i64_in (128 * many) (by omega)
        have yb : 1 ≤ yrC day ∧ yrC day ≤ 9999 := ⟨HYC.out.1, HYC.out.2.1⟩
        go_wp2_with fail
        go_region
        all_goals
          clear q0 q1
          go_wp2_with fail
          refine (cOf_yes day _ (by omega)).mono ?_
          rintro e w2 ⟨rfl, hb⟩
          have hbw : Below wr.heap.size wr w2 := bjoin (w := wr) (by go_grown) hb
          have q0 := keep_cell (b := w1.heap.size) (o := 0) hbw hl Q0.out
          have q1 := keep_cell (b := w1.heap.size) (o := 1) hbw hl Q1.out
          have hl2 := keep_lt (b := w1.heap.size) hbw hl
          have HB2 := Lib.hid (bjoin HBR.out hbw)
          clear hb hbw
          have Q0' := Lib.hid q0; have Q1' := Lib.hid q1; clear q0 q1
          by_cases hf : yrC day + 128 * many ≤ 9999
          · go_wp2_with fail
            refine (cOf_fit day many _ HG.out.1 HG.out.2.1 hf).mono ?_
            rintro e w3 ⟨rfl, hb⟩
            have ta := keep_cell (b := w2.heap.size) (o := 0) (v := .int .i64 (yrC day)) hb (by simp) (by simp [go_sem])
            have tb := keep_cell (b := w2.heap.size) (o := 1) (v := .int .i64 (moC day)) hb (by simp) (by simp [go_sem])
            have tc := keep_cell (b := w2.heap.size) (o := 2) (v := .int .i64 (daC day)) hb (by simp) (by simp [go_sem])
            have fa := keep_fr (b := w2.heap.size) (o := 0) hb (by simp) (by simp [go_sem])
            have hz := keep_lt (b := w2.heap.size) hb (by simp)
            have hbw : Below w2.heap.size w2 w3 := bjoin (w := w2) (by go_grown) hb
            have q0 := keep_cell (b := w1.heap.size) (o := 0) hbw hl2 Q0'.out
            have q1 := keep_cell (b := w1.heap.size) (o := 1) hbw hl2 Q1'.out
            have hl3 := keep_lt (b := w1.heap.size) hbw hl2
            have HB3 := Lib.hid (bjoin HB2.out hbw)
            have hws := HB2.out.size
            clear hb hbw
            have Q0x := Lib.hid q0; have Q1x := Lib.hid q1; clear q0 q1
            go_wp2
            go_roundw
            case rel => exact ⟨1, by omega, rfl, by first | exact Q0x.out | exact cell_alloc_l _ Q0x.out | (rw [cell_set_ne _ (by omega)]; first | exact Q0x.out | exact cell_alloc_l _ Q0x.out) | (refine cell_alloc_l _ ?_; rw [cell_set_ne _ (by omega)]; exact Q0x.out), by first | exact Q1x.out | exact cell_alloc_l _ Q1x.out | (rw [cell_set_ne _ (by omega)]; first | exact Q1x.out | exact cell_alloc_l _ Q1x.out) | (refine cell_alloc_l _ ?_; rw [cell_set_ne _ (by omega)]; exact Q1x.out), by simp; omega, by have hb' := HB3.out; have hb'' := hb'.size; go_grown⟩
            case measure => simp [intOf]
          · have hn := cycC_no h0 (show day < _ by omega) hf
            go_wp2_with fail
            refine (cOf_no _ _ (by omega)).mono ?_
            rintro e w3 ⟨rfl, hb⟩
            have ta := keep_cell (b := w2.heap.size) (o := 0) (v := .int .i64 (yrC day)) hb (by simp) (by simp [go_sem])
            have tb := keep_cell (b := w2.heap.size) (o := 1) (v := .int .i64 (moC day)) hb (by simp) (by simp [go_sem])
            have tc := keep_cell (b := w2.heap.size) (o := 2) (v := .int .i64 (daC day)) hb (by simp) (by simp [go_sem])
            have fa := keep_fr (b := w2.heap.size) (o := 0) hb (by simp) (by simp [go_sem])
            have hz := keep_lt (b := w2.heap.size) hb (by simp)
            have hbw : Below w2.heap.size w2 w3 := bjoin (w := w2) (by go_grown) hb
            have q0 := keep_cell (b := w1.heap.size) (o := 0) hbw hl2 Q0'.out
            have q1 := keep_cell (b := w1.heap.size) (o := 1) hbw hl2 Q1'.out
            have hl3 := keep_lt (b := w1.heap.size) hbw hl2
            have HB3 := Lib.hid (bjoin HB2.out hbw)
            have hws := HB2.out.size
            clear hb hbw
            have Q0x := Lib.hid q0; have Q1x := Lib.hid q1; clear q0 q1
            go_wp2
            go_roundw
            case rel => exact ⟨1, by omega, rfl, by first | exact Q0x.out | exact cell_alloc_l _ Q0x.out | (rw [cell_set_ne _ (by omega)]; first | exact Q0x.out | exact cell_alloc_l _ Q0x.out) | (refine cell_alloc_l _ ?_; rw [cell_set_ne _ (by omega)]; exact Q0x.out), by first | exact Q1x.out | exact cell_alloc_l _ Q1x.out | (rw [cell_set_ne _ (by omega)]; first | exact Q1x.out | exact cell_alloc_l _ Q1x.out) | (refine cell_alloc_l _ ?_; rw [cell_set_ne _ (by omega)]; exact Q1x.out), by simp; omega, by have hb' := HB3.out; have hb'' := hb'.size; go_grown⟩
            case measure => simp [intOf]
      · have s1 := IntWalk.i64_in (10631 * many) (by omega)
        have s2 := IntWalk.i64_in (30 * many) (by omega)
        have yb : 1 ≤ yrM day ∧ yrM day ≤ 9999 := ⟨HYM.out.1, HYM.out.2.1⟩
        go_wp2_with fail
        go_region
        all_goals
          clear q0 q1
          go_wp2_with fail
          refine (mOf_yes day _ (by omega)).mono ?_
          rintro e w2 ⟨rfl, hb⟩
          have hbw : Below wr.heap.size wr w2 := bjoin (w := wr) (by go_grown) hb
          have q0 := keep_cell (b := w1.heap.size) (o := 0) hbw hl Q0.out
          have q1 := keep_cell (b := w1.heap.size) (o := 1) hbw hl Q1.out
          have hl2 := keep_lt (b := w1.heap.size) hbw hl
          have HB2 := Lib.hid (bjoin HBR.out hbw)
          clear hb hbw
          have Q0' := Lib.hid q0; have Q1' := Lib.hid q1; clear q0 q1
          by_cases hf : yrM day + 30 * many ≤ 9999
          · go_wp2_with fail
            refine (mOf_fit day many _ HG.out.1 HG.out.2.1 hf).mono ?_
            rintro e w3 ⟨rfl, hb⟩
            have ta := keep_cell (b := w2.heap.size) (o := 0) (v := .int .i64 (yrM day)) hb (by simp) (by simp [go_sem])
            have tb := keep_cell (b := w2.heap.size) (o := 1) (v := .int .i64 (moM day)) hb (by simp) (by simp [go_sem])
            have tc := keep_cell (b := w2.heap.size) (o := 2) (v := .int .i64 (daM day)) hb (by simp) (by simp [go_sem])
            have fa := keep_fr (b := w2.heap.size) (o := 0) hb (by simp) (by simp [go_sem])
            have hz := keep_lt (b := w2.heap.size) hb (by simp)
            have hbw : Below w2.heap.size w2 w3 := bjoin (w := w2) (by go_grown) hb
            have q0 := keep_cell (b := w1.heap.size) (o := 0) hbw hl2 Q0'.out
            have q1 := keep_cell (b := w1.heap.size) (o := 1) hbw hl2 Q1'.out
            have hl3 := keep_lt (b := w1.heap.size) hbw hl2
            have HB3 := Lib.hid (bjoin HB2.out hbw)
            have hws := HB2.out.size
            clear hb hbw
            have Q0x := Lib.hid q0; have Q1x := Lib.hid q1; clear q0 q1
            go_wp2
            go_roundw
            case rel => exact ⟨2, by omega, rfl, by first | exact Q0x.out | exact cell_alloc_l _ Q0x.out | (rw [cell_set_ne _ (by omega)]; first | exact Q0x.out | exact cell_alloc_l _ Q0x.out) | (refine cell_alloc_l _ ?_; rw [cell_set_ne _ (by omega)]; exact Q0x.out), by first | exact Q1x.out | exact cell_alloc_l _ Q1x.out | (rw [cell_set_ne _ (by omega)]; first | exact Q1x.out | exact cell_alloc_l _ Q1x.out) | (refine cell_alloc_l _ ?_; rw [cell_set_ne _ (by omega)]; exact Q1x.out), by simp; omega, by have hb' := HB3.out; have hb'' := hb'.size; go_grown⟩
            case measure => simp [intOf]
          · have hn := cycM_no h0 (show day < _ by omega) hf
            go_wp2_with fail
            refine (mOf_no _ _ (by omega)).mono ?_
            rintro e w3 ⟨rfl, hb⟩
            have ta := keep_cell (b := w2.heap.size) (o := 0) (v := .int .i64 (yrM day)) hb (by simp) (by simp [go_sem])
            have tb := keep_cell (b := w2.heap.size) (o := 1) (v := .int .i64 (moM day)) hb (by simp) (by simp [go_sem])
            have tc := keep_cell (b := w2.heap.size) (o := 2) (v := .int .i64 (daM day)) hb (by simp) (by simp [go_sem])
            have fa := keep_fr (b := w2.heap.size) (o := 0) hb (by simp) (by simp [go_sem])
            have hz := keep_lt (b := w2.heap.size) hb (by simp)
            have hbw : Below w2.heap.size w2 w3 := bjoin (w := w2) (by go_grown) hb
            have q0 := keep_cell (b := w1.heap.size) (o := 0) hbw hl2 Q0'.out
            have q1 := keep_cell (b := w1.heap.size) (o := 1) hbw hl2 Q1'.out
            have hl3 := keep_lt (b := w1.heap.size) hbw hl2
            have HB3 := Lib.hid (bjoin HB2.out hbw)
            have hws := HB2.out.size
            clear hb hbw
            have Q0x := Lib.hid q0; have Q1x := Lib.hid q1; clear q0 q1
            go_wp2
            go_roundw
            case rel => exact ⟨2, by omega, rfl, by first | exact Q0x.out | exact cell_alloc_l _ Q0x.out | (rw [cell_set_ne _ (by omega)]; first | exact Q0x.out | exact cell_alloc_l _ Q0x.out) | (refine cell_alloc_l _ ?_; rw [cell_set_ne _ (by omega)]; exact Q0x.out), by first | exact Q1x.out | exact cell_alloc_l _ Q1x.out | (rw [cell_set_ne _ (by omega)]; first | exact Q1x.out | exact cell_alloc_l _ Q1x.out) | (refine cell_alloc_l _ ?_; rw [cell_set_ne _ (by omega)]; exact Q1x.out), by simp; omega, by have hb' := HB3.out; have hb'' := hb'.size; go_grown⟩
            case measure => simp [intOf]
      · go_wp2
        go_ret
        exact ⟨rfl, HBR.out⟩
  · go_enter Tryd.func5, Tryd.ntmps5
    go_wp2_with fail
    refine (sane_any _).mono ?_
    rintro e w1 ⟨rfl, hb⟩
    have HB1 := Lib.hid hb; clear hb
    by_cases h0 : 0 ≤ day
    · by_cases h1 : day ≤ 3000000
      · by_cases h2 : 0 ≤ many
        · have h3 : ¬ many ≤ 400 := fun h => hg ⟨⟨h0, h1⟩, h2, h⟩
          clear hg
          go_wp2
          go_ret
          exact ⟨rfl, HB1.out⟩
        · clear hg
          go_wp2
          go_ret
          exact ⟨rfl, HB1.out⟩
      · clear hg
        go_wp2
        go_ret
        exact ⟨rfl, HB1.out⟩
    · clear hg
      go_wp2
      go_ret
      exact ⟨rfl, HB1.out⟩

end Go.Proofs.YtomlfliebolkmaaDoor
