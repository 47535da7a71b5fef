/-
  The first day of a year, the months of a year, by contract. No condition beyond what each states.
-/
import Derived.Test.YtomlfliebolkmaaDoorCA
set_option linter.unusedVariables false
set_option linter.unusedSimpArgs false
namespace Go.Proofs.YtomlfliebolkmaaDoor
open Go Go.Proofs Go.RowKit Pl

theorem NewS.store {w w1 wn : World} {b : Nat} {xs : List Int} (h : NewS w w1 b xs) (hb : Below w1.heap.size w1 wn) (j : Nat) (v : Int) : NewS w (wn.setCell ⟨b, j, none⟩ (.int .i64 v)) b (xs.set j v) := by
  have hsz : (xs.set j v).length = xs.length := List.length_set
  refine ⟨h.lo, by have := hb.size; have := h.hi; simp; omega, fun i hi => ?_, fun i hi => ?_⟩
  · rw [hsz] at hi
    have hc := ((bcell hb).1 _ i h.hi).trans (h.cell i hi)
    by_cases e : i = j
    · subst e
      rw [World.cell?_setCell_same' _ _ _ (by rw [hc]; rfl)]
      simp [hi]
    · rw [World.cell?_setCell_other _ _ _ _ (by intro h'; cases h'; exact e rfl), hc]
      rw [List.getElem?_set_ne (by omega)]
  · rw [hsz] at hi
    rw [World.frozen?_setCell]
    exact ((bcell hb).2 _ i h.hi).trans (h.fr i hi)

set_option maxRecDepth 100000 in
set_option maxHeartbeats 2000000 in
theorem cCommon_any (w : World) : Calls Tryd.prog 109 #[.iface 100 (.agg #[])] w fun e w' => e = .returned (.int .i64 365) ∧ Below w.heap.size w w' := by
  go_enter Tryd.func109, Tryd.ntmps109
  go_wp2_with (go_at_call 163; refine (cPlain_any _).mono ?_; rintro e w1 ⟨b, rfl, hn, hb⟩)
  have qc0 : w1.cell? ⟨b, 0, none⟩ = some (.int .i64 30) := hn.cell 0 (by decide)
  have qc1 : w1.cell? ⟨b, 1, none⟩ = some (.int .i64 30) := hn.cell 1 (by decide)
  have qc2 : w1.cell? ⟨b, 2, none⟩ = some (.int .i64 30) := hn.cell 2 (by decide)
  have qc3 : w1.cell? ⟨b, 3, none⟩ = some (.int .i64 30) := hn.cell 3 (by decide)
  have qc4 : w1.cell? ⟨b, 4, none⟩ = some (.int .i64 30) := hn.cell 4 (by decide)
  have qc5 : w1.cell? ⟨b, 5, none⟩ = some (.int .i64 30) := hn.cell 5 (by decide)
  have qc6 : w1.cell? ⟨b, 6, none⟩ = some (.int .i64 30) := hn.cell 6 (by decide)
  have qc7 : w1.cell? ⟨b, 7, none⟩ = some (.int .i64 30) := hn.cell 7 (by decide)
  have qc8 : w1.cell? ⟨b, 8, none⟩ = some (.int .i64 30) := hn.cell 8 (by decide)
  have qc9 : w1.cell? ⟨b, 9, none⟩ = some (.int .i64 30) := hn.cell 9 (by decide)
  have qc10 : w1.cell? ⟨b, 10, none⟩ = some (.int .i64 30) := hn.cell 10 (by decide)
  have qc11 : w1.cell? ⟨b, 11, none⟩ = some (.int .i64 30) := hn.cell 11 (by decide)
  have qc12 : w1.cell? ⟨b, 12, none⟩ = some (.int .i64 5) := hn.cell 12 (by decide)
  have HB := Lib.hid hb; clear hb hn
  go_rounds 14
  go_ret
  exact ⟨rfl, HB.out⟩

set_option maxHeartbeats 2000000 in
theorem cStart_any (y : Int) (w : World) (h : 1 ≤ y ∧ y ≤ 20000) : Calls Tryd.prog 105 #[.iface 100 (.agg #[]), .int .i64 y] w fun e w' => e = .returned (.int .i64 (stC y)) ∧ Below w.heap.size w w' := by
  have hl : 0 ≤ lpC (y - 1) ∧ lpC (y - 1) ≤ 20000 := by unfold lpC; omega
  go_enter Tryd.func105, Tryd.ntmps105
  go_wp2_with fail
  refine (cCommon_any _).mono ?_
  rintro e w1 ⟨rfl, hb1⟩
  have HB := Lib.hid hb1; clear hb1
  go_wp2_with fail
  refine (cLeaps_any _ _ (by omega)).mono ?_
  rintro e w2 ⟨rfl, hb2⟩
  have HB2 := Lib.hid (bjoin HB.out hb2); clear hb2
  go_wp2
  go_ret
  exact ⟨ret_int (by unfold stC; omega), HB2.out⟩

/-- The months' lengths of a year. -/
def mlCL (y : Int) : List Int := plC.set 12 (5 + (lpC y - lpC (y - 1)))
set_option maxHeartbeats 2000000 in
theorem cMonths_any (y : Int) (w : World) (h : 1 ≤ y ∧ y ≤ 20000) : Calls Tryd.prog 110 #[.iface 100 (.agg #[]), .int .i64 y] w (RetNew 13 (mlCL y) w) := by
  have hl : 0 ≤ lpC (y - 1) ∧ lpC (y - 1) ≤ 20000 := by unfold lpC; omega
  have hl2 : 0 ≤ lpC y ∧ lpC y ≤ 20000 := by unfold lpC; omega
  go_enter Tryd.func110, Tryd.ntmps110
  go_wp2_with fail
  refine (cPlain_any _).mono ?_
  rintro e w1 ⟨b, rfl, hn, hb⟩
  have HB := Lib.hid hb; have HN := Lib.hid hn
  have hq := hn.cell 12 (by decide)
  have hf := hn.fr 12 (by decide)
  have hlt := hn.hi
  have hq0 : w1.cell? ⟨b, 12, none⟩ = some (.int .i64 5) := hq
  clear hb hn hq
  have hw1 := IntWalk.i64_in (y - 1) (by omega)
  have hw2 := IntWalk.i64_in (lpC y - lpC (y - 1)) (by omega)
  have hw3 := IntWalk.i64_in (5 + (lpC y - lpC (y - 1))) (by omega)
  have HQ := Lib.hid (show ∀ W', Below w1.heap.size w1 W' → W'.cell? ⟨b, 12, none⟩ = some (.int .i64 5) ∧ W'.frozen? ⟨b, 12, none⟩ = false ∧ b < W'.heap.size ∧ Below w1.heap.size w1 W' from fun W' hB => ⟨((bcell hB).1 _ _ hlt).trans hq0, ((bcell hB).2 _ _ hlt).trans hf, Nat.lt_of_lt_of_le hlt hB.size, hB⟩)
  go_wp2
  go_region_with (go_at_call 162; first | ((with_reducible refine (cLeaps_any y _ (by omega)).mono ?_); rintro e wn ⟨rfl, hbn⟩; obtain ⟨qa, qb, qc, qd⟩ := HQ.out wn (by first | exact bjoin (Below.refl _ _).drew hbn | exact bjoin (by assumption) hbn); clear hbn) | ((with_reducible refine (cLeaps_any (y - 1) _ (by omega)).mono ?_); rintro e wn ⟨rfl, hbn⟩; obtain ⟨qa, qb, qc, qd⟩ := HQ.out wn (by first | exact bjoin (Below.refl _ _).drew hbn | exact bjoin (by assumption) hbn); clear hbn))
  all_goals go_wp2
  all_goals go_ret
  all_goals exact ⟨b, rfl, HN.out.store qd 12 _, (bjoin HB.out qd).setCell (p := ⟨b, 12, none⟩) HN.out.lo _⟩

set_option maxRecDepth 100000 in
set_option maxHeartbeats 2000000 in
theorem mCommon_any (w : World) : Calls Tryd.prog 109 #[.iface 101 (.agg #[])] w fun e w' => e = .returned (.int .i64 354) ∧ Below w.heap.size w w' := by
  go_enter Tryd.func109, Tryd.ntmps109
  go_wp2_with (go_at_call 165; refine (mPlain_any _).mono ?_; rintro e w1 ⟨b, rfl, hn, hb⟩)
  have qc0 : w1.cell? ⟨b, 0, none⟩ = some (.int .i64 30) := hn.cell 0 (by decide)
  have qc1 : w1.cell? ⟨b, 1, none⟩ = some (.int .i64 29) := hn.cell 1 (by decide)
  have qc2 : w1.cell? ⟨b, 2, none⟩ = some (.int .i64 30) := hn.cell 2 (by decide)
  have qc3 : w1.cell? ⟨b, 3, none⟩ = some (.int .i64 29) := hn.cell 3 (by decide)
  have qc4 : w1.cell? ⟨b, 4, none⟩ = some (.int .i64 30) := hn.cell 4 (by decide)
  have qc5 : w1.cell? ⟨b, 5, none⟩ = some (.int .i64 29) := hn.cell 5 (by decide)
  have qc6 : w1.cell? ⟨b, 6, none⟩ = some (.int .i64 30) := hn.cell 6 (by decide)
  have qc7 : w1.cell? ⟨b, 7, none⟩ = some (.int .i64 29) := hn.cell 7 (by decide)
  have qc8 : w1.cell? ⟨b, 8, none⟩ = some (.int .i64 30) := hn.cell 8 (by decide)
  have qc9 : w1.cell? ⟨b, 9, none⟩ = some (.int .i64 29) := hn.cell 9 (by decide)
  have qc10 : w1.cell? ⟨b, 10, none⟩ = some (.int .i64 30) := hn.cell 10 (by decide)
  have qc11 : w1.cell? ⟨b, 11, none⟩ = some (.int .i64 29) := hn.cell 11 (by decide)
  have HB := Lib.hid hb; clear hb hn
  go_rounds 14
  go_ret
  exact ⟨rfl, HB.out⟩

set_option maxHeartbeats 2000000 in
theorem mStart_any (y : Int) (w : World) (h : 1 ≤ y ∧ y ≤ 20000) : Calls Tryd.prog 105 #[.iface 101 (.agg #[]), .int .i64 y] w fun e w' => e = .returned (.int .i64 (Pl.stM y)) ∧ Below w.heap.size w w' := by
  have hl : 0 ≤ lpM (y - 1) ∧ lpM (y - 1) ≤ 20000 := by unfold lpM; omega
  go_enter Tryd.func105, Tryd.ntmps105
  go_wp2_with fail
  refine (mCommon_any _).mono ?_
  rintro e w1 ⟨rfl, hb1⟩
  have HB := Lib.hid hb1; clear hb1
  go_wp2_with fail
  refine (mLeaps_any _ _ (by omega)).mono ?_
  rintro e w2 ⟨rfl, hb2⟩
  have HB2 := Lib.hid (bjoin HB.out hb2); clear hb2
  go_wp2
  go_ret
  exact ⟨ret_int (by unfold Pl.stM; omega), HB2.out⟩

/-- The months' lengths of a year. -/
def mlML (y : Int) : List Int := plM.set 11 (29 + (lpM y - lpM (y - 1)))
set_option maxHeartbeats 2000000 in
theorem mMonths_any (y : Int) (w : World) (h : 1 ≤ y ∧ y ≤ 20000) : Calls Tryd.prog 110 #[.iface 101 (.agg #[]), .int .i64 y] w (RetNew 12 (mlML y) w) := by
  have hl : 0 ≤ lpM (y - 1) ∧ lpM (y - 1) ≤ 20000 := by unfold lpM; omega
  have hl2 : 0 ≤ lpM y ∧ lpM y ≤ 20000 := by unfold lpM; omega
  go_enter Tryd.func110, Tryd.ntmps110
  go_wp2_with fail
  refine (mPlain_any _).mono ?_
  rintro e w1 ⟨b, rfl, hn, hb⟩
  have HB := Lib.hid hb; have HN := Lib.hid hn
  have hq := hn.cell 11 (by decide)
  have hf := hn.fr 11 (by decide)
  have hlt := hn.hi
  have hq0 : w1.cell? ⟨b, 11, none⟩ = some (.int .i64 29) := hq
  clear hb hn hq
  have hw1 := IntWalk.i64_in (y - 1) (by omega)
  have hw2 := IntWalk.i64_in (lpM y - lpM (y - 1)) (by omega)
  have hw3 := IntWalk.i64_in (29 + (lpM y - lpM (y - 1))) (by omega)
  have HQ := Lib.hid (show ∀ W', Below w1.heap.size w1 W' → W'.cell? ⟨b, 11, none⟩ = some (.int .i64 29) ∧ W'.frozen? ⟨b, 11, none⟩ = false ∧ b < W'.heap.size ∧ Below w1.heap.size w1 W' from fun W' hB => ⟨((bcell hB).1 _ _ hlt).trans hq0, ((bcell hB).2 _ _ hlt).trans hf, Nat.lt_of_lt_of_le hlt hB.size, hB⟩)
  go_wp2
  go_region_with (go_at_call 164; first | ((with_reducible refine (mLeaps_any y _ (by omega)).mono ?_); rintro e wn ⟨rfl, hbn⟩; obtain ⟨qa, qb, qc, qd⟩ := HQ.out wn (by first | exact bjoin (Below.refl _ _).drew hbn | exact bjoin (by assumption) hbn); clear hbn) | ((with_reducible refine (mLeaps_any (y - 1) _ (by omega)).mono ?_); rintro e wn ⟨rfl, hbn⟩; obtain ⟨qa, qb, qc, qd⟩ := HQ.out wn (by first | exact bjoin (Below.refl _ _).drew hbn | exact bjoin (by assumption) hbn); clear hbn))
  all_goals go_wp2
  all_goals go_ret
  all_goals exact ⟨b, rfl, HN.out.store qd 11 _, (bjoin HB.out qd).setCell (p := ⟨b, 11, none⟩) HN.out.lo _⟩
end Go.Proofs.YtomlfliebolkmaaDoor
