/-
  The calendars' own tables, by contract. No condition beyond what each states.
-/
import Derived.Test.YtomlfliebolkmaaDoorWC
import Derived.Deep.DeepCutAuto
set_option linter.unusedVariables false
set_option linter.unusedSimpArgs false
namespace Go.Proofs.YtomlfliebolkmaaDoor
open Go Go.Proofs Go.RowKit Pl

theorem cLeaps_any (y : Int) (w : World) (_h : 0 ≤ y ∧ y ≤ 20000) : Calls Tryd.prog 162 #[.agg #[], .int .i64 y] w fun e w' => e = .returned (.int .i64 (lpC y)) ∧ Below w.heap.size w w' := by
  go_enter Tryd.func162, Tryd.ntmps162
  go_wp2
  go_ret
  exact ⟨rfl, by go_grown⟩

/-- Leap years of the market among the first r of a cycle, the first k of the list looked at. -/
def cyc (r : Int) : Nat → Int
  | 0 => 0
  | k + 1 => if [(2 : Int), 5, 7, 10, 13, 16, 18, 21, 24, 26, 29][k]?.getD 0 ≤ r then cyc r k + 1 else cyc r k
theorem cyc_bd (r : Int) (k : Nat) : 0 ≤ cyc r k ∧ cyc r k ≤ k := by
  induction k with
  | zero => simp [cyc]
  | succ k ih => unfold cyc; split <;> omega
theorem cyc_all (y : Int) (h : 0 ≤ y) : y / 30 * 11 + cyc (y % 30) 11 = lpM y := by
  have h1 : ∀ r : Nat, r < 30 → cyc r 11 = (11 * (r : Int) + 14) / 30 := by decide
  have h2 := h1 (y % 30).toNat (by omega)
  rw [show (((y % 30).toNat : Nat) : Int) = y % 30 by omega] at h2
  rw [h2]; unfold lpM; omega

set_option maxHeartbeats 1000000 in
theorem mLeaps_any (y : Int) (w : World) (h : 0 ≤ y ∧ y ≤ 20000) : Calls Tryd.prog 164 #[.agg #[], .int .i64 y] w fun e w' => e = .returned (.int .i64 (lpM y)) ∧ Below w.heap.size w w' := by
  have HA := Lib.hid (cyc_all y h.1)
  go_enter Tryd.func164, Tryd.ntmps164
  go_wp2
  go_loop [5, 12] (fun vn vi => ∃ k : Nat, k ≤ 11 ∧ vi = .int .i64 k ∧ vn = .int .i64 (y / 30 * 11 + cyc (y % 30) k)) (fun _ vi => 11 - (intOf vi).toNat)
  case atStart => exact ⟨0, by omega, rfl, by rw [show cyc (y % 30) 0 = 0 from rfl, Int.add_zero]⟩
  case round =>
    obtain ⟨k, hk, rfl, rfl⟩ := hrel
    have hc := cyc_bd (y % 30) k
    by_cases hlt : k < 11
    · have hx : ∀ w, (Instr.index 177 (.agg #[.int .i64 2, .int .i64 5, .int .i64 7, .int .i64 10, .int .i64 13, .int .i64 16, .int .i64 18, .int .i64 21, .int .i64 24, .int .i64 26, .int .i64 29]) (.int .i64 (k : Int))).run Tryd.prog w = .ok (.int .i64 ([(2 : Int), 5, 7, 10, 13, 16, 18, 21, 24, 26, 29][k]?.getD 0)) w := by
        intro w
        have : k = 0 ∨ k = 1 ∨ k = 2 ∨ k = 3 ∨ k = 4 ∨ k = 5 ∨ k = 6 ∨ k = 7 ∨ k = 8 ∨ k = 9 ∨ k = 10 := by omega
        rcases this with rfl | rfl | rfl | rfl | rfl | rfl | rfl | rfl | rfl | rfl | rfl <;> (show (_ : Result Value) = _; kernel_rfl)
      by_cases hle : [(2 : Int), 5, 7, 10, 13, 16, 18, 21, 24, 26, 29][k]?.getD 0 ≤ y % 30
      · have HN := Lib.hid (show cyc (y % 30) (k + 1) = cyc (y % 30) k + 1 by rw [cyc, if_pos hle])
        generalize [(2 : Int), 5, 7, 10, 13, 16, 18, 21, 24, 26, 29][k]?.getD 0 = x at *
        go_wp2
        go_round
        case rel => exact ⟨k + 1, by omega, by go_num, by rw [HN.out]; go_num⟩
        case measure => simp [intOf]; omega
      · have HN := Lib.hid (show cyc (y % 30) (k + 1) = cyc (y % 30) k by rw [cyc, if_neg hle])
        generalize [(2 : Int), 5, 7, 10, 13, 16, 18, 21, 24, 26, 29][k]?.getD 0 = x at *
        go_wp2
        go_round
        case rel => exact ⟨k + 1, by omega, by go_num, by rw [HN.out]⟩
        case measure => simp [intOf]; omega
    · obtain rfl : k = 11 := by omega
      go_wp2
      go_ret
      exact ⟨ret_int HA.out, by go_grown⟩

/-- A new slice of numbers, just made: its cells may be written. -/
structure NewS (w w' : World) (b : Nat) (xs : List Int) : Prop where
  lo : w.heap.size ≤ b
  hi : b < w'.heap.size
  cell : ∀ i, i < xs.length → w'.cell? ⟨b, i, none⟩ = some (.int .i64 (xs[i]?.getD 0))
  fr : ∀ i, i < xs.length → w'.frozen? ⟨b, i, none⟩ = false
def RetNew (n : Nat) (xs : List Int) (w : World) (e : Ending) (w' : World) : Prop := ∃ b, e = .returned (.slice (some ⟨b, 0, none⟩) n n) ∧ NewS w w' b xs ∧ Below w.heap.size w w'
def plC : List Int := [30, 30, 30, 30, 30, 30, 30, 30, 30, 30, 30, 30, 5]
def plM : List Int := [30, 29, 30, 29, 30, 29, 30, 29, 30, 29, 30, 29]

set_option maxHeartbeats 2000000 in
theorem cPlain_any (w : World) : Calls Tryd.prog 163 #[.agg #[]] w (RetNew 13 plC w) := by
  go_enter Tryd.func163, Tryd.ntmps163
  go_wp2
  go_rounds 13
  go_ret
  refine ⟨w.heap.size + 1, rfl, ⟨by omega, by simp, ?_, ?_⟩, by go_grown⟩
  · intro i hi
    have h13 : i = 0 ∨ i = 1 ∨ i = 2 ∨ i = 3 ∨ i = 4 ∨ i = 5 ∨ i = 6 ∨ i = 7 ∨ i = 8 ∨ i = 9 ∨ i = 10 ∨ i = 11 ∨ i = 12 := by simp [plC] at hi; omega
    rcases h13 with rfl | rfl | rfl | rfl | rfl | rfl | rfl | rfl | rfl | rfl | rfl | rfl | rfl <;> simp [go_sem, plC]
  · intro i hi
    simp [go_sem]

set_option maxHeartbeats 2000000 in
theorem mPlain_any (w : World) : Calls Tryd.prog 165 #[.agg #[]] w (RetNew 12 plM w) := by
  go_enter Tryd.func165, Tryd.ntmps165
  go_wp2
  go_rounds 13
  go_ret
  refine ⟨w.heap.size + 1, rfl, ⟨by omega, by simp, ?_, ?_⟩, by go_grown⟩
  · intro i hi
    have h13 : i = 0 ∨ i = 1 ∨ i = 2 ∨ i = 3 ∨ i = 4 ∨ i = 5 ∨ i = 6 ∨ i = 7 ∨ i = 8 ∨ i = 9 ∨ i = 10 ∨ i = 11 := by simp [plM] at hi; omega
    rcases h13 with rfl | rfl | rfl | rfl | rfl | rfl | rfl | rfl | rfl | rfl | rfl | rfl <;> simp [go_sem, plM]
  · intro i hi
    simp [go_sem]
end Go.Proofs.YtomlfliebolkmaaDoor
