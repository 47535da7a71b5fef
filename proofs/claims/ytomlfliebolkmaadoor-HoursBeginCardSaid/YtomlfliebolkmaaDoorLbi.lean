/-
  HoursBegin: the walk where there is no feast. No condition beyond what it states.
-/
import Derived.Test.YtomlfliebolkmaaDoorLbf
set_option linter.unusedVariables false
set_option linter.unusedSimpArgs false
namespace Go.Proofs.YtomlfliebolkmaaDoor
open Go Go.Proofs Go.RowKit Pl

set_option maxRecDepth 100000 in
set_option maxHeartbeats 20000000 in
theorem Begin_none (day year between : Int) (w : World) (hd : 0 ≤ day ∧ day ≤ 3000000) (he : feE day ≠ 0) :
   Calls Tryd.prog 15 #[.int .i64 day, .int .i64 year, .int .i64 between] w fun e w' => e = .returned (.bool true) ∧ Below w.heap.size w w' := by
  have HMO := Lib.hid (fun W => Months_any year W)
  have HME := Lib.hid (show 1 ≤ year ∧ year ≤ 9000 → yrE year = 0 ∧ 12 ≤ onOk (yrE year) (monF year) ∧ onOk (yrE year) (monF year) ≤ 13 from fun h => by rw [yrE_yes h, onOk_ok]; exact ⟨rfl, monF_bd h⟩)
  generalize onOk (yrE year) (monF year) = mN at *
  generalize yrE year = mE at *
  · obtain ⟨f1, hf⟩ := fe_not hd he
    have HF := Lib.hid hf; clear hf
    have HFE := Lib.hid (fun W => Feast_any day W)
    rw [f1, onOk_no (show (4 : Int) ≠ 0 by decide)] at HFE
    clear f1 he
    obtain ⟨h0, h1⟩ := hd
    go_enter Tryd.func15, Tryd.ntmps15
    go_wp2_with fail
    refine (sane_any _).mono ?_
    rintro e w1 ⟨rfl, hb⟩
    have HB1 := Lib.hid hb; clear hb
    go_wp2_with fail
    refine (HMO.out _).mono ?_
    rintro e w2 ⟨rfl, hb⟩
    have HB2 := Lib.hid (bjoin HB1.out hb); clear hb
    go_wp2_with fail
    all_goals try (exfalso; have := HME.out; omega)
    all_goals
      refine (HFE.out _).mono ?_
      rintro e w3 ⟨rfl, hb⟩
      have HB3 := Lib.hid (bjoin HB2.out hb); clear hb
      go_wp2_with fail
      have HB4 := Lib.hid HB3.out
      go_loopw [70] (fun vk wr => ∃ k : Nat, k ≤ 2000 ∧ vk = .int .i64 k ∧ Below w.heap.size w wr) (fun vk _ => 5000 - (intOf vk).toNat)
      case atStart => exact ⟨0, by omega, rfl, HB4.out⟩
      case round =>
        obtain ⟨k, hk, rfl, hbr⟩ := hrel
        have HBR := Lib.hid hbr; clear hbr
        by_cases hlt : k < 2000
        · have HM := Lib.hid (show ∃ z : Int, 0 ≤ z ∧ z < 3500001 ∧ z = (if between < 0 then 0 else between) % 3500001 from ⟨_, by omega, by omega, rfl⟩)
          by_cases hbt : between < 0
          · by_cases hx : day + (k : Int) < 3500001
            · by_cases hy : day + (k : Int) < 3500001
              · have HX := Lib.hid (fun W => both_no (day + (k : Int)) W (HF.out _ (by omega) hx))
                have HYY := Lib.hid (fun W => both_no (day + (k : Int)) W (HF.out _ (by omega) hy))
                go_wp2_with (go_at_call 59; first | ((with_reducible refine (HX.out _).mono ?_); rintro e wx ⟨rfl, hbx⟩; have HBR := Lib.hid (bjoin HBR.out hbx); clear hbx) | ((with_reducible refine (HYY.out _).mono ?_); rintro e wx ⟨rfl, hbx⟩; have HBR := Lib.hid (bjoin HBR.out hbx); clear hbx))
                go_roundw
                case rel => exact ⟨k + 1, by omega, by go_num, HBR.out⟩
                case measure => simp [intOf]; omega
              · have HX := Lib.hid (fun W => both_no (day + (k : Int)) W (HF.out _ (by omega) hx))
                skip
                exfalso; omega
            · by_cases hy : day + (k : Int) < 3500001
              · skip
                have HYY := Lib.hid (fun W => both_no (day + (k : Int)) W (HF.out _ (by omega) hy))
                exfalso; omega
              · skip
                skip
                exfalso; omega
          · by_cases hx : day + (k : Int) < 3500001
            · by_cases hy : day + between % 3500001 + (k : Int) < 3500001
              · have HX := Lib.hid (fun W => both_no (day + (k : Int)) W (HF.out _ (by omega) hx))
                have HYY := Lib.hid (fun W => both_no (day + between % 3500001 + (k : Int)) W (HF.out _ (by omega) hy))
                go_wp2_with (go_at_call 59; first | ((with_reducible refine (HX.out _).mono ?_); rintro e wx ⟨rfl, hbx⟩; have HBR := Lib.hid (bjoin HBR.out hbx); clear hbx) | ((with_reducible refine (HYY.out _).mono ?_); rintro e wx ⟨rfl, hbx⟩; have HBR := Lib.hid (bjoin HBR.out hbx); clear hbx))
                go_roundw
                case rel => exact ⟨k + 1, by omega, by go_num, HBR.out⟩
                case measure => simp [intOf]; omega
              · have HX := Lib.hid (fun W => both_no (day + (k : Int)) W (HF.out _ (by omega) hx))
                skip
                go_wp2_with (go_at_call 59; first | ((with_reducible refine (HX.out _).mono ?_); rintro e wx ⟨rfl, hbx⟩; have HBR := Lib.hid (bjoin HBR.out hbx); clear hbx))
                go_roundw
                case rel => exact ⟨k + 1, by omega, by go_num, HBR.out⟩
                case measure => simp [intOf]; omega
            · by_cases hy : day + between % 3500001 + (k : Int) < 3500001
              · skip
                have HYY := Lib.hid (fun W => both_no (day + between % 3500001 + (k : Int)) W (HF.out _ (by omega) hy))
                exfalso; omega
              · skip
                skip
                exfalso; omega
        · obtain rfl : k = 2000 := by omega
          go_wp2
          go_ret
          exact ⟨rfl, HBR.out⟩

end Go.Proofs.YtomlfliebolkmaaDoor
