/-
  The example season, and what the functions answer for it. No condition beyond what each states.
-/
import Derived.Test.YtomlfliebolkmaaDoorCG
import Derived.Test.YtomlfliebolkmaaDoorCH
import Derived.Test.YtomlfliebolkmaaDoorWI
set_option linter.unusedVariables false
set_option linter.unusedSimpArgs false
namespace Go.Proofs.YtomlfliebolkmaaDoor
open Go Go.Proofs Go.RowKit Pl

set_option maxHeartbeats 2000000 in
theorem example_any (w : World) : Calls Tryd.prog 67 #[] w fun e w' => ∃ b1 b2 b3 : Nat, e = .returned (.agg #[.int .i64 365, .slice (some ⟨b1, 0, none⟩) 2 2, .slice (some ⟨b2, 0, none⟩) 2 2, .slice (some ⟨b3, 0, none⟩) 2 2]) ∧ Below w.heap.size w w' ∧ SeaO w' (some ⟨b1, 0, none⟩) 2 (some ⟨b2, 0, none⟩) 2 (some ⟨b3, 0, none⟩) 2 [0, 180] [400, 300] [1000, 1140] := by
  go_enter Tryd.func67, Tryd.ntmps67
  go_wp2
  refine bodyPost_ret (v := .agg #[.int .i64 365, .slice (some ⟨w.heap.size + 1, 0, none⟩) 2 2, .slice (some ⟨w.heap.size + 1 + 1, 0, none⟩) 2 2, .slice (some ⟨w.heap.size + 1 + 1 + 1, 0, none⟩) 2 2]) (by simp [results, Tryd.results67, go_sem]) rfl ?_
  refine ⟨_, _, _, rfl, by go_grown, ⟨⟨rfl, .inr ⟨_, _, rfl, rfl, ?_, by simp⟩⟩, ⟨rfl, .inr ⟨_, _, rfl, rfl, ?_, by simp⟩⟩, ⟨rfl, .inr ⟨_, _, rfl, rfl, ?_, by simp⟩⟩, by omega, by omega, by omega⟩⟩ <;>
  · intro i hi
    match i, hi with
    | 0, _ => simp [go_sem]
    | 1, _ => simp [go_sem]

/-- Whether the lists are short. -/
def fewB (n1 n2 n3 : Nat) : Bool := decide (n1 ≤ 30) && (decide (n2 ≤ 30) && decide (n3 ≤ 30))

set_option maxHeartbeats 2000000 in
theorem few_any {L : Int} {n1 n2 n3 c1 c2 c3 : Nat} {a1 a2 a3 : Option Addr} (w : World) : Calls Tryd.prog 19 #[.agg #[.int .i64 L, .slice a1 n1 c1, .slice a2 n2 c2, .slice a3 n3 c3]] w fun e w' => e = .returned (.bool (fewB n1 n2 n3)) ∧ Below w.heap.size w w' := by
  unfold fewB
  by_cases h1 : n1 ≤ 30
  · have g1 : (n1 : Int) ≤ 30 := by omega
    rw [decide_eq_true h1]
    by_cases h2 : n2 ≤ 30
    · have g2 : (n2 : Int) ≤ 30 := by omega
      rw [decide_eq_true h2]
      by_cases h3 : n3 ≤ 30
      · have g3 : (n3 : Int) ≤ 30 := by omega
        rw [decide_eq_true h3]
        go_enter Tryd.func19, Tryd.ntmps19
        go_wp2
        go_ret
        exact ⟨rfl, by go_grown⟩
      · have g3 : ¬ (n3 : Int) ≤ 30 := by omega
        rw [decide_eq_false h3]
        go_enter Tryd.func19, Tryd.ntmps19
        go_wp2
        go_ret
        exact ⟨rfl, by go_grown⟩
    · have g2 : ¬ (n2 : Int) ≤ 30 := by omega
      rw [decide_eq_false h2]
      go_enter Tryd.func19, Tryd.ntmps19
      go_wp2
      go_ret
      exact ⟨rfl, by go_grown⟩
  · have g1 : ¬ (n1 : Int) ≤ 30 := by omega
    rw [decide_eq_false h1]
    go_enter Tryd.func19, Tryd.ntmps19
    go_wp2
    go_ret
    exact ⟨rfl, by go_grown⟩


theorem exOk : Ok 365 [0, 180] [400, 300] [1000, 1140] := by
  refine ⟨by decide, by decide, by decide, by decide, by decide, by decide, ?_, ?_, ?_, ?_⟩
  · intro i hi; match i, hi with
    | 0, _ => decide
    | 1, _ => decide
  · intro i h1 hi; match i, h1, hi with
    | 1, _, _ => decide
  · intro i hi; match i, hi with
    | 0, _ => decide
    | 1, _ => decide
  · intro i hi; match i, hi with
    | 0, _ => decide
    | 1, _ => decide
theorem exAsk (day h p : Int) (h1 : wi day 0 11000 = true) (h2 : hrOk h p = true) : askH 365 [0, 180] [400, 300] [1000, 1140] day h p = 0 := askH_ok day h p exOk h1 h2
theorem amax_first {f : Int → Int} {j : Nat} (h1 : ∀ i : Nat, i < j → f i < f j) : ∀ k : Nat, (∀ i : Nat, i ≤ k → f i ≤ f j) → (k < j → 0 ≤ amax f k ∧ amax f k < j) ∧ (j ≤ k → amax f k = j)
  | 0, _ => by
    constructor
    · intro h
      show (0 : Int) ≤ 0 ∧ (0 : Int) < j
      omega
    · intro h
      show (0 : Int) = j
      omega
  | k + 1, h2 => by
    obtain ⟨i1, i2⟩ := amax_first h1 k (fun i hi => h2 i (by omega))
    have hk := h2 (k + 1) (Nat.le_refl _)
    unfold amax
    rw [show ((k : Int) + 1) = ((k + 1 : Nat) : Int) by omega]
    constructor
    · intro h
      have := i1 (by omega)
      split <;> omega
    · intro h
      rcases Nat.lt_or_ge k j with g | g
      · obtain rfl : j = k + 1 := by omega
        obtain ⟨b1, b2⟩ := i1 (by omega)
        have := h1 (amax f k).toNat (by omega)
        rw [show (((amax f k).toNat : Nat) : Int) = amax f k by omega] at this
        rw [if_pos this]
      · rw [i2 g, if_neg (by omega)]
theorem amin_zero {f : Int → Int} : ∀ k : Nat, (∀ i : Nat, i ≤ k → f 0 ≤ f i) → amin f k = 0
  | 0, _ => rfl
  | k + 1, h => by
    have := amin_zero k (fun i hi => h i (by omega))
    have hk := h (k + 1) (Nat.le_refl _)
    unfold amin
    rw [this, show ((k : Int) + 1) = ((k + 1 : Nat) : Int) by omega, if_neg (by omega)]
theorem all_le {p : Nat → Prop} [DecidablePred p] (N : Nat) (h : (List.range N).all (fun k => decide (p k)) = true) : ∀ k : Nat, k < N → p k := fun k hk => of_decide_eq_true (List.all_eq_true.1 h k (List.mem_range.2 hk))
theorem exMax : amax (lightF 365 [0, 180] [400, 300] [1000, 1140]) 364 = 180 :=
  (amax_first (j := 180) (all_le (p := fun i : Nat => lightF 365 [0, 180] [400, 300] [1000, 1140] i < lightF 365 [0, 180] [400, 300] [1000, 1140] (180 : Nat)) 180 (by kernel_rfl)) 364
    (fun i hi => all_le (p := fun i : Nat => lightF 365 [0, 180] [400, 300] [1000, 1140] i ≤ lightF 365 [0, 180] [400, 300] [1000, 1140] (180 : Nat)) 365 (by kernel_rfl) i (by omega))).2 (by omega)
theorem exMin : amin (lightF 365 [0, 180] [400, 300] [1000, 1140]) 364 = 0 :=
  amin_zero 364 (fun i hi => all_le (p := fun i : Nat => lightF 365 [0, 180] [400, 300] [1000, 1140] 0 ≤ lightF 365 [0, 180] [400, 300] [1000, 1140] i) 365 (by kernel_rfl) i (by omega))
theorem exRise {b1 b2 b3 : Nat} (w : World) (hs : SeaO w (some ⟨b1, 0, none⟩) 2 (some ⟨b2, 0, none⟩) 2 (some ⟨b3, 0, none⟩) 2 [0, 180] [400, 300] [1000, 1140]) : Calls Tryd.prog 20 #[.agg #[.int .i64 365, .slice (some ⟨b1, 0, none⟩) 2 2, .slice (some ⟨b2, 0, none⟩) 2 2, .slice (some ⟨b3, 0, none⟩) 2 2], .int .i64 91] w fun e w' => e = .returned (.tuple #[.int .i64 349, .int .i64 0]) ∧ Below w.heap.size w w' :=
  (Rise_any 91 w hs).mono (by
    rintro e w' ⟨rfl, hb⟩
    refine ⟨?_, hb⟩
    rw [exAsk _ _ _ (by decide) (by decide)]; kernel_rfl)
theorem exSet {b1 b2 b3 : Nat} (w : World) (hs : SeaO w (some ⟨b1, 0, none⟩) 2 (some ⟨b2, 0, none⟩) 2 (some ⟨b3, 0, none⟩) 2 [0, 180] [400, 300] [1000, 1140]) : Calls Tryd.prog 22 #[.agg #[.int .i64 365, .slice (some ⟨b1, 0, none⟩) 2 2, .slice (some ⟨b2, 0, none⟩) 2 2, .slice (some ⟨b3, 0, none⟩) 2 2], .int .i64 270] w fun e w' => e = .returned (.tuple #[.int .i64 1071, .int .i64 0]) ∧ Below w.heap.size w w' :=
  (Set_any 270 w hs).mono (by
    rintro e w' ⟨rfl, hb⟩
    refine ⟨?_, hb⟩
    rw [exAsk _ _ _ (by decide) (by decide)]; kernel_rfl)
theorem exLength {b1 b2 b3 : Nat} (w : World) (hs : SeaO w (some ⟨b1, 0, none⟩) 2 (some ⟨b2, 0, none⟩) 2 (some ⟨b3, 0, none⟩) 2 [0, 180] [400, 300] [1000, 1140]) : Calls Tryd.prog 24 #[.agg #[.int .i64 365, .slice (some ⟨b1, 0, none⟩) 2 2, .slice (some ⟨b2, 0, none⟩) 2 2, .slice (some ⟨b3, 0, none⟩) 2 2], .int .i64 0, .bool true] w fun e w' => e = .returned (.tuple #[.agg #[.int .i64 839, .int .i64 12], .int .i64 0]) ∧ Below w.heap.size w w' :=
  (Length_any 0 true w hs).mono (by
    rintro e w' ⟨rfl, hb⟩
    refine ⟨?_, hb⟩
    rw [exAsk _ _ _ (by decide) (by decide)]; kernel_rfl)
theorem exExact {b1 b2 b3 : Nat} (w : World) (hs : SeaO w (some ⟨b1, 0, none⟩) 2 (some ⟨b2, 0, none⟩) 2 (some ⟨b3, 0, none⟩) 2 [0, 180] [400, 300] [1000, 1140]) : Calls Tryd.prog 60 #[.agg #[.int .i64 365, .slice (some ⟨b1, 0, none⟩) 2 2, .slice (some ⟨b2, 0, none⟩) 2 2, .slice (some ⟨b3, 0, none⟩) 2 2], .int .i64 0, .agg #[.bool false, .int .i64 1, .int .i64 30]] w fun e w' => e = .returned (.tuple #[.agg #[.int .i64 475, .int .i64 1], .int .i64 0]) ∧ Below w.heap.size w w' :=
  (Exact_any 0 false 1 30 w hs).mono (by
    rintro e w' ⟨rfl, hb⟩
    refine ⟨?_, hb⟩
    rw [exAsk _ _ _ (by decide) (by decide)]; kernel_rfl)
theorem exFirst {b1 b2 b3 : Nat} (w : World) (hs : SeaO w (some ⟨b1, 0, none⟩) 2 (some ⟨b2, 0, none⟩) 2 (some ⟨b3, 0, none⟩) 2 [0, 180] [400, 300] [1000, 1140]) : Calls Tryd.prog 54 #[.agg #[.int .i64 365, .slice (some ⟨b1, 0, none⟩) 2 2, .slice (some ⟨b2, 0, none⟩) 2 2, .slice (some ⟨b3, 0, none⟩) 2 2], .int .i64 0, .agg #[.bool true, .int .i64 1, .int .i64 0]] w fun e w' => e = .returned (.tuple #[.int .i64 1070, .int .i64 0]) ∧ Below w.heap.size w w' :=
  (First_any 0 true 1 0 w hs).mono (by
    rintro e w' ⟨rfl, hb⟩
    refine ⟨?_, hb⟩
    rw [exAsk _ _ _ (by decide) (by decide)]; kernel_rfl)
theorem exTold {b1 b2 b3 : Nat} (w : World) (hs : SeaO w (some ⟨b1, 0, none⟩) 2 (some ⟨b2, 0, none⟩) 2 (some ⟨b3, 0, none⟩) 2 [0, 180] [400, 300] [1000, 1140]) : Calls Tryd.prog 55 #[.agg #[.int .i64 365, .slice (some ⟨b1, 0, none⟩) 2 2, .slice (some ⟨b2, 0, none⟩) 2 2, .slice (some ⟨b3, 0, none⟩) 2 2], .int .i64 1069] w fun e w' => e = .returned (.tuple #[.int .i64 0, .agg #[.bool true, .int .i64 0, .int .i64 59], .int .i64 0]) ∧ Below w.heap.size w w' :=
  (Told_any 1069 w hs).mono (by
    rintro e w' ⟨rfl, hb⟩
    refine ⟨?_, hb⟩
    rw [toldE_ok exOk (by decide) (by decide)]; kernel_rfl)
theorem exLater {b1 b2 b3 : Nat} (w : World) (hs : SeaO w (some ⟨b1, 0, none⟩) 2 (some ⟨b2, 0, none⟩) 2 (some ⟨b3, 0, none⟩) 2 [0, 180] [400, 300] [1000, 1140]) : Calls Tryd.prog 28 #[.agg #[.int .i64 365, .slice (some ⟨b1, 0, none⟩) 2 2, .slice (some ⟨b2, 0, none⟩) 2 2, .slice (some ⟨b3, 0, none⟩) 2 2], .int .i64 0, .agg #[.bool false, .int .i64 11, .int .i64 5], .int .i64 2] w fun e w' => e = .returned (.tuple #[.int .i64 0, .agg #[.bool true, .int .i64 1, .int .i64 5], .int .i64 0]) ∧ Below w.heap.size w w' :=
  (Later_any 0 false 11 5 2 w hs).mono (by
    rintro e w' ⟨rfl, hb⟩
    refine ⟨?_, hb⟩
    rw [exAsk _ _ _ (by decide) (by decide)]; kernel_rfl)
theorem exPassed {b1 b2 b3 : Nat} (w : World) (hs : SeaO w (some ⟨b1, 0, none⟩) 2 (some ⟨b2, 0, none⟩) 2 (some ⟨b3, 0, none⟩) 2 [0, 180] [400, 300] [1000, 1140]) : Calls Tryd.prog 30 #[.agg #[.int .i64 365, .slice (some ⟨b1, 0, none⟩) 2 2, .slice (some ⟨b2, 0, none⟩) 2 2, .slice (some ⟨b3, 0, none⟩) 2 2], .int .i64 0, .agg #[.bool false, .int .i64 0, .int .i64 0], .int .i64 0, .agg #[.bool true, .int .i64 1, .int .i64 0]] w fun e w' => e = .returned (.tuple #[.agg #[.int .i64 669, .int .i64 670], .int .i64 0]) ∧ Below w.heap.size w w' :=
  (Passed_any 0 false 0 0 0 true 1 0 w hs).mono (by
    rintro e w' ⟨rfl, hb⟩
    refine ⟨?_, hb⟩
    rw [exAsk 0 0 0 (by decide) (by decide), exAsk 0 1 0 (by decide) (by decide)]; kernel_rfl)
theorem exLongest {b1 b2 b3 : Nat} (w : World) (hs : SeaO w (some ⟨b1, 0, none⟩) 2 (some ⟨b2, 0, none⟩) 2 (some ⟨b3, 0, none⟩) 2 [0, 180] [400, 300] [1000, 1140]) : Calls Tryd.prog 32 #[.agg #[.int .i64 365, .slice (some ⟨b1, 0, none⟩) 2 2, .slice (some ⟨b2, 0, none⟩) 2 2, .slice (some ⟨b3, 0, none⟩) 2 2]] w fun e w' => e = .returned (.tuple #[.int .i64 180, .int .i64 0, .int .i64 0]) ∧ Below w.heap.size w w' :=
  (Longest_any w hs).mono (by
    rintro e w' ⟨rfl, hb⟩
    refine ⟨?_, hb⟩
    rw [ck_yes exOk, show topF 365 = 364 from rfl, exMax, exMin]; kernel_rfl)
theorem exTold2 {b1 b2 b3 : Nat} (w : World) (hs : SeaO w (some ⟨b1, 0, none⟩) 2 (some ⟨b2, 0, none⟩) 2 (some ⟨b3, 0, none⟩) 2 [0, 180] [400, 300] [1000, 1140]) : Calls Tryd.prog 55 #[.agg #[.int .i64 365, .slice (some ⟨b1, 0, none⟩) 2 2, .slice (some ⟨b2, 0, none⟩) 2 2, .slice (some ⟨b3, 0, none⟩) 2 2], .int .i64 399] w fun e w' => e = .returned (.tuple #[.int .i64 0, .agg #[.bool false, .int .i64 0, .int .i64 0], .int .i64 4]) ∧ Below w.heap.size w w' :=
  (Told_any 399 w hs).mono (by
    rintro e w' ⟨rfl, hb⟩
    refine ⟨?_, hb⟩
    rw [toldE_none exOk (by decide) (by decide)]; kernel_rfl)
theorem exCourt (w : World) : Calls Tryd.prog 34 #[.int .i64 1460] w fun e w' => e = .returned (.tuple #[.agg #[.int .i64 4, .int .i64 13, .int .i64 6], .int .i64 0]) ∧ Below w.heap.size w w' :=
  (cOf_any 1460 w).mono (by
    rintro e w' ⟨rfl, hb⟩
    refine ⟨?_, hb⟩
    kernel_rfl)
theorem exMarket (w : World) : Calls Tryd.prog 48 #[.agg #[.int .i64 2, .int .i64 12, .int .i64 30]] w fun e w' => e = .returned (.tuple #[.int .i64 708, .int .i64 0]) ∧ Below w.heap.size w w' :=
  (mDay_any 2 12 30 w).mono (by
    rintro e w' ⟨rfl, hb⟩
    refine ⟨?_, hb⟩
    kernel_rfl)
theorem exMonths (w : World) : Calls Tryd.prog 52 #[.int .i64 1] w fun e w' => e = .returned (.tuple #[.int .i64 13, .int .i64 0]) ∧ Below w.heap.size w w' :=
  (Months_any 1 w).mono (by
    rintro e w' ⟨rfl, hb⟩
    refine ⟨?_, hb⟩
    kernel_rfl)
theorem exPrint (w : World) : Calls Tryd.prog 40 #[.agg #[.bool true, .int .i64 3, .int .i64 7]] w fun e w' => e = .returned (.tuple #[.string ⟨#[110, 105, 103, 104, 116, 32, 51, 58, 48, 55]⟩, .int .i64 0]) ∧ Below w.heap.size w w' :=
  (Print_any true 3 7 w).mono (by
    rintro e w' ⟨rfl, hb⟩
    refine ⟨?_, hb⟩
    kernel_rfl)
theorem exNil (w : World) : Calls Tryd.prog 26 #[.agg #[.int .i64 0, .slice none 0 0, .slice none 0 0, .slice none 0 0]] w fun e w' => e = .returned (.int .i64 50) ∧ Below w.heap.size w w' :=
  (check_any (D := []) (R := []) (S := []) w ⟨rfl, .inl rfl⟩ ⟨rfl, .inl rfl⟩ ⟨rfl, .inl rfl⟩ (Nat.zero_le _) (Nat.zero_le _) (Nat.zero_le _)).mono (by
    rintro e w' ⟨rfl, hb⟩
    refine ⟨?_, hb⟩
    rw [ck_no (fun h => by have := h.L1; omega)])

end Go.Proofs.YtomlfliebolkmaaDoor
