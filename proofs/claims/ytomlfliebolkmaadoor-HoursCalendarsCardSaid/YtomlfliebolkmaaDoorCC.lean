/-
  The date of a day, in both calendars, by contract. No condition beyond what each states.
-/
import Derived.Test.YtomlfliebolkmaaDoorCB
set_option linter.unusedVariables false
set_option linter.unusedSimpArgs false
namespace Go.Proofs.YtomlfliebolkmaaDoor
open Go Go.Proofs Go.RowKit Pl

/-- A date that is being made (at block BD), the result's place (ahead of it), and what lay before. -/
structure DW (w wr : World) (BD : Nat) (y m d : Int) : Prop where
  y0 : wr.cell? ⟨BD, 0, none⟩ = some (.int .i64 y)
  m0 : wr.cell? ⟨BD, 1, none⟩ = some (.int .i64 m)
  d0 : wr.cell? ⟨BD, 2, none⟩ = some (.int .i64 d)
  fy : wr.frozen? ⟨BD, 0, none⟩ = false
  fm : wr.frozen? ⟨BD, 1, none⟩ = false
  fd : wr.frozen? ⟨BD, 2, none⟩ = false
  lt : BD < wr.heap.size
  r0 : wr.cell? ⟨w.heap.size, 0, none⟩ = some (.int .i64 0)
  r1 : wr.cell? ⟨w.heap.size, 1, none⟩ = some (.int .i64 0)
  r2 : wr.cell? ⟨w.heap.size, 2, none⟩ = some (.int .i64 0)
  g0 : wr.frozen? ⟨w.heap.size, 0, none⟩ = false
  g1 : wr.frozen? ⟨w.heap.size, 1, none⟩ = false
  g2 : wr.frozen? ⟨w.heap.size, 2, none⟩ = false
  lo : w.heap.size < BD
  b : Below w.heap.size w wr
theorem dw_new {w w2 : World} {t u : TypeId} (y m d : Int) (hb : Below (w.alloc (.cells #[.int .i64 0, .int .i64 0, .int .i64 0] t)).heap.size (w.alloc (.cells #[.int .i64 0, .int .i64 0, .int .i64 0] t)) w2) :
    DW w (w2.alloc (.cells #[.int .i64 y, .int .i64 m, .int .i64 d] u)) w2.heap.size y m d := by
  obtain ⟨hc, hf⟩ := bcell hb
  have hs : w.heap.size < w2.heap.size := by have := hb.size; simp at this; omega
  have hs1 : w.heap.size < (w.alloc (.cells #[.int .i64 0, .int .i64 0, .int .i64 0] t)).heap.size := by simp
  have hb2 : Below w2.heap.size w2 (w2.alloc (.cells #[.int .i64 y, .int .i64 m, .int .i64 d] u)) := (Below.refl _ _).alloc (Nat.le_refl _) _
  obtain ⟨hc2, hf2⟩ := bcell hb2
  refine ⟨by simp, by simp, by simp, by simp, by simp, by simp, by simp, ?_, ?_, ?_, ?_, ?_, ?_, hs, bjoin (bjoin (by go_grown) hb) hb2⟩
  · exact (hc2 _ _ hs).trans ((hc _ _ hs1).trans (by simp))
  · exact (hc2 _ _ hs).trans ((hc _ _ hs1).trans (by simp))
  · exact (hc2 _ _ hs).trans ((hc _ _ hs1).trans (by simp))
  · exact (hf2 _ _ hs).trans ((hf _ _ hs1).trans (by simp))
  · exact (hf2 _ _ hs).trans ((hf _ _ hs1).trans (by simp))
  · exact (hf2 _ _ hs).trans ((hf _ _ hs1).trans (by simp))
theorem DW.on {w wr w1 : World} {BD : Nat} {y m d : Int} (h : DW w wr BD y m d) (hb : Below wr.heap.size wr w1) : DW w w1 BD y m d := by
  obtain ⟨hc, hf⟩ := bcell hb
  have hr : w.heap.size < wr.heap.size := Nat.lt_trans h.lo h.lt
  exact ⟨(hc _ _ h.lt).trans h.y0, (hc _ _ h.lt).trans h.m0, (hc _ _ h.lt).trans h.d0, (hf _ _ h.lt).trans h.fy, (hf _ _ h.lt).trans h.fm, (hf _ _ h.lt).trans h.fd, Nat.lt_of_lt_of_le h.lt hb.size,
    (hc _ _ hr).trans h.r0, (hc _ _ hr).trans h.r1, (hc _ _ hr).trans h.r2, (hf _ _ hr).trans h.g0, (hf _ _ hr).trans h.g1, (hf _ _ hr).trans h.g2, h.lo, bjoin h.b hb⟩
theorem cell_set_ne {w : World} {b b' o o' : Nat} (v : Value) (h : ¬ (b = b' ∧ o = o')) : (w.setCell ⟨b', o', none⟩ v).cell? ⟨b, o, none⟩ = w.cell? ⟨b, o, none⟩ :=
  World.cell?_setCell_other _ _ _ _ (by intro h'; cases h'; exact h ⟨rfl, rfl⟩)
theorem DW.set0 {w wr : World} {BD : Nat} {y m d : Int} (h : DW w wr BD y m d) (y' : Int) : DW w (wr.setCell ⟨BD, 0, none⟩ (.int .i64 y')) BD y' m d := by
  have hl := h.lo
  refine ⟨World.cell?_setCell_same' _ _ _ (by rw [h.y0]; rfl), ?_, ?_, ?_, ?_, ?_, ?_, ?_, ?_, ?_, ?_, ?_, ?_, h.lo, h.b.setCell (p := ⟨BD, 0, none⟩) (Nat.le_of_lt h.lo) _⟩
  all_goals first | (rw [World.frozen?_setCell]; first | exact h.fy | exact h.fm | exact h.fd | exact h.g0 | exact h.g1 | exact h.g2) | (rw [cell_set_ne _ (by omega)]; first | exact h.m0 | exact h.d0 | exact h.r0 | exact h.r1 | exact h.r2) | (have := h.lt; simpa using this)
theorem DW.set1 {w wr : World} {BD : Nat} {y m d : Int} (h : DW w wr BD y m d) (m' : Int) : DW w (wr.setCell ⟨BD, 1, none⟩ (.int .i64 m')) BD y m' d := by
  have hl := h.lo
  refine ⟨?_, World.cell?_setCell_same' _ _ _ (by rw [h.m0]; rfl), ?_, ?_, ?_, ?_, ?_, ?_, ?_, ?_, ?_, ?_, ?_, h.lo, h.b.setCell (p := ⟨BD, 1, none⟩) (Nat.le_of_lt h.lo) _⟩
  all_goals first | (rw [World.frozen?_setCell]; first | exact h.fy | exact h.fm | exact h.fd | exact h.g0 | exact h.g1 | exact h.g2) | (rw [cell_set_ne _ (by omega)]; first | exact h.y0 | exact h.d0 | exact h.r0 | exact h.r1 | exact h.r2) | (have := h.lt; simpa using this)
theorem DW.set2 {w wr : World} {BD : Nat} {y m d : Int} (h : DW w wr BD y m d) (d' : Int) : DW w (wr.setCell ⟨BD, 2, none⟩ (.int .i64 d')) BD y m d' := by
  have hl := h.lo
  refine ⟨?_, ?_, World.cell?_setCell_same' _ _ _ (by rw [h.d0]; rfl), ?_, ?_, ?_, ?_, ?_, ?_, ?_, ?_, ?_, ?_, h.lo, h.b.setCell (p := ⟨BD, 2, none⟩) (Nat.le_of_lt h.lo) _⟩
  all_goals first | (rw [World.frozen?_setCell]; first | exact h.fy | exact h.fm | exact h.fd | exact h.g0 | exact h.g1 | exact h.g2) | (rw [cell_set_ne _ (by omega)]; first | exact h.y0 | exact h.m0 | exact h.r0 | exact h.r1 | exact h.r2) | (have := h.lt; simpa using this)

theorem ret_date {a b c a' b' c' : Int} {v : Value} (h1 : a = a') (h2 : b = b') (h3 : c = c') : Ending.returned (.tuple #[.agg #[.int .i64 a, .int .i64 b, .int .i64 c], v]) = .returned (.tuple #[.agg #[.int .i64 a', .int .i64 b', .int .i64 c'], v]) := by rw [h1, h2, h3]
/-- The sum of the first k. -/
def csum (xs : List Int) : Nat → Int
  | 0 => 0
  | k + 1 => csum xs k + xs[k]?.getD 0

theorem mlCL_at (y : Int) (k : Nat) (hk : k < 13) : (mlCL y)[k]?.getD 0 = mlC y ((k : Int) + 1) := by
  have h : k = 0 ∨ k = 1 ∨ k = 2 ∨ k = 3 ∨ k = 4 ∨ k = 5 ∨ k = 6 ∨ k = 7 ∨ k = 8 ∨ k = 9 ∨ k = 10 ∨ k = 11 ∨ k = 12 := by omega
  rcases h with rfl | rfl | rfl | rfl | rfl | rfl | rfl | rfl | rfl | rfl | rfl | rfl | rfl <;> simp [mlCL, plC, mlC]
theorem csumC (y : Int) (k : Nat) (hk : k < 13) : csum (mlCL y) k = cuC ((k : Int) + 1) := by
  induction k with
  | zero => rfl
  | succ k ih =>
    rw [csum, ih (by omega), mlCL_at y k (by omega)]
    have := cuC_step y ((k : Int) + 1) (by omega)
    rw [show ((k + 1 : Nat) : Int) + 1 = (k : Int) + 1 + 1 by omega, this]
theorem csumC_all (y : Int) : csum (mlCL y) 13 = stC (y + 1) - stC y := by
  rw [show (13 : Nat) = 12 + 1 from rfl, csum, csumC y 12 (by omega), mlCL_at y 12 (by omega)]
  exact cuC_last y
theorem mlCL_len (y : Int) : (mlCL y).length = 13 := by simp [mlCL, plC]
/-- Where the walk over the months stops, there is the date. -/
theorem isC_of (day y : Int) (k : Nat) (hy : YrC day y) (hk : k < 13) (h0 : 0 ≤ day - stC y - csum (mlCL y) k) (h1 : day - stC y - csum (mlCL y) k < (mlCL y)[k]?.getD 0) :
    y = yrC day ∧ (k : Int) + 1 = moC day ∧ day - stC y - csum (mlCL y) k + 1 = daC day := by
  have hd : IsC day y ((k : Int) + 1) (day - stC y - csum (mlCL y) k + 1) := by
    rw [mlCL_at y k hk] at h1
    refine ⟨hy.1, hy.2.1, by omega, by omega, by omega, by omega, ?_⟩
    rw [csumC y k hk]; omega
  exact hd.eq hd.range.1 hd.range.2

theorem mlML_at (y : Int) (k : Nat) (hk : k < 12) : (mlML y)[k]?.getD 0 = mlM y ((k : Int) + 1) := by
  have h : k = 0 ∨ k = 1 ∨ k = 2 ∨ k = 3 ∨ k = 4 ∨ k = 5 ∨ k = 6 ∨ k = 7 ∨ k = 8 ∨ k = 9 ∨ k = 10 ∨ k = 11 := by omega
  rcases h with rfl | rfl | rfl | rfl | rfl | rfl | rfl | rfl | rfl | rfl | rfl | rfl <;> simp [mlML, plM, mlM]
theorem csumM (y : Int) (k : Nat) (hk : k < 12) : csum (mlML y) k = cuM ((k : Int) + 1) := by
  induction k with
  | zero => rfl
  | succ k ih =>
    rw [csum, ih (by omega), mlML_at y k (by omega)]
    have := cuM_step y ((k : Int) + 1) (by omega)
    rw [show ((k + 1 : Nat) : Int) + 1 = (k : Int) + 1 + 1 by omega, this]
theorem csumM_all (y : Int) : csum (mlML y) 12 = Pl.stM (y + 1) - Pl.stM y := by
  rw [show (12 : Nat) = 11 + 1 from rfl, csum, csumM y 11 (by omega), mlML_at y 11 (by omega)]
  exact cuM_last y
theorem mlML_len (y : Int) : (mlML y).length = 12 := by simp [mlML, plM]
/-- Where the walk over the months stops, there is the date. -/
theorem isM_of (day y : Int) (k : Nat) (hy : YrM day y) (hk : k < 12) (h0 : 0 ≤ day - Pl.stM y - csum (mlML y) k) (h1 : day - Pl.stM y - csum (mlML y) k < (mlML y)[k]?.getD 0) :
    y = yrM day ∧ (k : Int) + 1 = moM day ∧ day - Pl.stM y - csum (mlML y) k + 1 = daM day := by
  have hd : IsM day y ((k : Int) + 1) (day - Pl.stM y - csum (mlML y) k + 1) := by
    rw [mlML_at y k hk] at h1
    refine ⟨hy.1, hy.2.1, by omega, by omega, by omega, by omega, ?_⟩
    rw [csumM y k hk]; omega
  exact hd.eq hd.range.1 hd.range.2

set_option maxRecDepth 100000 in
set_option maxHeartbeats 4000000 in
theorem cDate_yes (day : Int) (w : World) (h : 0 ≤ day ∧ day < 3652056) : Calls Tryd.prog 90 #[.iface 100 (.agg #[]), .int .i64 day] w fun e w' => e = .returned (.tuple #[.agg #[.int .i64 (yrC day), .int .i64 (moC day), .int .i64 (daC day)], .int .i64 0]) ∧ Below w.heap.size w w' := by
  have hst : stC 10000 = 3652056 := stC_top
  have hwi : wi day 0 3652055 = true := wi_mk (by omega)
  have HG := Lib.hid (guessC day h.1 h.2)
  go_enter Tryd.func90, Tryd.ntmps90
  go_wp2_with fail
  refine (cStart_any 10000 _ (by omega)).mono ?_
  rintro e w1 ⟨rfl, hb1⟩
  go_wp2_with (go_at_call 77; refine (within_any _ _ _ _).mono ?_; rintro e w2 ⟨rfl, rfl⟩)
  refine (cCommon_any _).mono ?_
  rintro e w2 ⟨rfl, hb2⟩
  have HB := Lib.hid (bjoin hb1 hb2); clear hb1 hb2 hst hwi
  go_wp2
  · have hX := dw_new (u := 50) (9999) 1 0 HB.out
    generalize w2.alloc _ = W at hX ⊢
    generalize w2.heap.size = BD at hX ⊢
    go_loopw [25] (fun _ wr => ∃ y : Int, 1 ≤ y ∧ y ≤ 9999 ∧ day < stC (y + 1) ∧ DW w wr BD y 1 0) (fun _ wr => (intOf ((wr.cell? ⟨BD, 0, none⟩).getD undef)).toNat)
    case atStart => exact ⟨_, by omega, by omega, by have := HG.out.2.2; rwa [Int.min_eq_right (by omega)] at this, hX⟩
    case round =>
      obtain ⟨y, hy1, hy2, hy3, hD⟩ := hrel
      have hsb : 0 ≤ stC y ∧ stC y ≤ 4000000 := by
        have ha := stC_mono hy1; have hb := stC_mono (show y ≤ 10000 by omega)
        rw [stC_one] at ha; rw [stC_top] at hb; omega
      have HY3 := Lib.hid hy3; clear hy3
      have e0 := hD.y0; have e1 := hD.m0; have e2 := hD.d0; have e3 := hD.fy; have e4 := hD.fm; have e5 := hD.fd; have e6 := hD.lt
      have HD := Lib.hid hD; clear hD
      go_wp2_with fail
      refine (cStart_any y _ (by omega)).mono ?_
      rintro e w3 ⟨rfl, hb3⟩
      have hD := HD.out.on hb3
      have hcw : (wr.cell? ⟨BD, 0, none⟩).getD undef = .int .i64 y := by rw [e0]; rfl
      have HCW := Lib.hid hcw
      clear hb3 HD e0 e1 e2 e3 e4 e5 e6 hcw
      have e0 := hD.y0; have e1 := hD.m0; have e2 := hD.d0; have e3 := hD.fy; have e4 := hD.fm; have e5 := hD.fd; have e6 := hD.lt
      have HD := Lib.hid hD; clear hD
      by_cases hgt : day < stC y
      · have hy2' : 2 ≤ y := by
          rcases Int.lt_or_eq_of_le hy1 with e | e
          · omega
          · rw [← e, stC_one] at hgt; omega
        go_wp2
        go_roundw
        case rel => exact ⟨y - 1, by omega, by omega, by rw [show y - 1 + 1 = y by omega]; exact hgt, HD.out.set0 _⟩
        case measure =>
          have hq := (HD.out.set0 (y - 1)).y0
          rw [hq, HCW.out]; simp [intOf]; omega
      · have HYR := Lib.hid (show YrC day y from ⟨hy1, hy2, by omega, HY3.out⟩)
        go_wp2_with fail
        refine (cStart_any y _ (by omega)).mono ?_
        rintro e w4 ⟨rfl, hb4⟩
        have hD := HD.out.on hb4
        clear hb4 HD e0 e1 e2 e3 e4 e5 e6
        have e0 := hD.y0; have e1 := hD.m0; have e2 := hD.d0; have e3 := hD.fy; have e4 := hD.fm; have e5 := hD.fd; have e6 := hD.lt
        have HD := Lib.hid hD; clear hD
        go_wp2_with fail
        have HLT := Lib.hid HD.out.lt
        refine (cMonths_any y _ (by omega)).mono ?_
        rintro e w5 ⟨bm, rfl, hn, hb5⟩
        have hD := HD.out.on hb5
        clear hb5 HD e0 e1 e2 e3 e4 e5 e6
        have HN := Lib.hid hn; clear hn
        have HNB := Lib.hid (show ∀ i, i < 13 → w5.cell? ⟨bm, i, none⟩ = some (.int .i64 ((mlCL y)[i]?.getD 0)) from fun i hi => HN.out.cell i (by rw [mlCL_len]; exact hi))
        have HD := Lib.hid hD; clear hD
        have hbm := HN.out.hi
        have hnm : BD < bm := Nat.lt_of_lt_of_le HLT.out HN.out.lo
        clear HLT
        go_wp2
        clear hbm
        go_loopw [1, 44] (fun v1 v44 wx => ∃ k : Nat, k ≤ 13 ∧ v44 = .int .i64 k ∧ v1 = .int .i64 (day - stC y - csum (mlCL y) k) ∧ 0 ≤ day - stC y - csum (mlCL y) k ∧ DW w wx BD y ((k : Int) + 1) 0 ∧ ∀ i, i < 13 → wx.cell? ⟨bm, i, none⟩ = some (.int .i64 ((mlCL y)[i]?.getD 0))) (fun _ v44 _ => 13 - (intOf v44).toNat)
        case atStart => exact ⟨0, by omega, rfl, by rw [csum, Int.sub_zero], by rw [csum]; omega, HD.out, HNB.out⟩
        case round =>
          obtain ⟨k, hk, rfl, rfl, hge, hD, hcells⟩ := hrel
          clear HD HNB
          have HC := Lib.hid hcells; clear hcells
          have HD := Lib.hid hD; clear hD
          have hlt : k < 13 := by
            rcases Nat.lt_or_eq_of_le hk with e | e
            · exact e
            · have h1 := csumC_all y
              have h2 := HYR.out.2.2.2
              rw [e, h1] at hge; omega
          have hck := HC.out k hlt
          have hmb := mlC_bd y ((k : Int) + 1)
          have hmb' : 0 ≤ (mlCL y)[k]?.getD 0 ∧ (mlCL y)[k]?.getD 0 ≤ 30 := by rw [mlCL_at y k hlt]; omega
          have hub : csum (mlCL y) k ≤ 4000000 ∧ 0 ≤ csum (mlCL y) k := by rw [csumC y k hlt]; unfold cuC; omega
          have e0 := HD.out.y0; have e1 := HD.out.m0; have e2 := HD.out.d0; have e3 := HD.out.fy; have e4 := HD.out.fm; have e5 := HD.out.fd; have e6 := HD.out.lt
          by_cases hbr : day - stC y - csum (mlCL y) k < (mlCL y)[k]?.getD 0
          · have HF := Lib.hid (isC_of day y k HYR.out hlt hge hbr)
            have f0 := HD.out.r0; have f1 := HD.out.r1; have f2 := HD.out.r2; have f3 := HD.out.g0; have f4 := HD.out.g1; have f5 := HD.out.g2; have f6 := HD.out.lo
            have hne1 : ¬ BD = w.heap.size := by omega
            have hne2 : ¬ w.heap.size = BD := by omega
            generalize csum (mlCL y) k = CS at *
            go_wp2
            refine bodyPost_ret (v := .tuple #[.agg #[.int .i64 y, .int .i64 ((k : Int) + 1), .int .i64 (day - stC y - CS + 1)], .int .i64 0]) (by simp [results, Tryd.results90, go_sem, f0, f1, f2]) rfl ?_
            exact ⟨ret_date HF.out.1 HF.out.2.1 HF.out.2.2, ((((HD.out.set2 _).b.setCell (p := ⟨w.heap.size, 0, none⟩) (Nat.le_refl _) _).setCell (p := ⟨w.heap.size, 1, none⟩) (Nat.le_refl _) _).setCell (p := ⟨w.heap.size, 2, none⟩) (Nat.le_refl _) _)⟩
          · have HCS := Lib.hid (show csum (mlCL y) (k + 1) = csum (mlCL y) k + (mlCL y)[k]?.getD 0 from rfl)
            go_wp2
            go_roundw
            case rel => exact ⟨k + 1, by omega, by go_num, by rw [HCS.out]; go_num, by rw [HCS.out]; omega, HD.out.set1 _, fun i hi => (cell_set_ne _ (by omega)).trans (HC.out i hi)⟩
            case measure => simp [intOf]; omega
  · have hX := dw_new (u := 50) (day / 365 + 1) 1 0 HB.out
    generalize w2.alloc _ = W at hX ⊢
    generalize w2.heap.size = BD at hX ⊢
    go_loopw [25] (fun _ wr => ∃ y : Int, 1 ≤ y ∧ y ≤ 9999 ∧ day < stC (y + 1) ∧ DW w wr BD y 1 0) (fun _ wr => (intOf ((wr.cell? ⟨BD, 0, none⟩).getD undef)).toNat)
    case atStart => exact ⟨_, by omega, by omega, by have := HG.out.2.2; rwa [Int.min_eq_left (by omega)] at this, hX⟩
    case round =>
      obtain ⟨y, hy1, hy2, hy3, hD⟩ := hrel
      have hsb : 0 ≤ stC y ∧ stC y ≤ 4000000 := by
        have ha := stC_mono hy1; have hb := stC_mono (show y ≤ 10000 by omega)
        rw [stC_one] at ha; rw [stC_top] at hb; omega
      have HY3 := Lib.hid hy3; clear hy3
      have e0 := hD.y0; have e1 := hD.m0; have e2 := hD.d0; have e3 := hD.fy; have e4 := hD.fm; have e5 := hD.fd; have e6 := hD.lt
      have HD := Lib.hid hD; clear hD
      go_wp2_with fail
      refine (cStart_any y _ (by omega)).mono ?_
      rintro e w3 ⟨rfl, hb3⟩
      have hD := HD.out.on hb3
      have hcw : (wr.cell? ⟨BD, 0, none⟩).getD undef = .int .i64 y := by rw [e0]; rfl
      have HCW := Lib.hid hcw
      clear hb3 HD e0 e1 e2 e3 e4 e5 e6 hcw
      have e0 := hD.y0; have e1 := hD.m0; have e2 := hD.d0; have e3 := hD.fy; have e4 := hD.fm; have e5 := hD.fd; have e6 := hD.lt
      have HD := Lib.hid hD; clear hD
      by_cases hgt : day < stC y
      · have hy2' : 2 ≤ y := by
          rcases Int.lt_or_eq_of_le hy1 with e | e
          · omega
          · rw [← e, stC_one] at hgt; omega
        go_wp2
        go_roundw
        case rel => exact ⟨y - 1, by omega, by omega, by rw [show y - 1 + 1 = y by omega]; exact hgt, HD.out.set0 _⟩
        case measure =>
          have hq := (HD.out.set0 (y - 1)).y0
          rw [hq, HCW.out]; simp [intOf]; omega
      · have HYR := Lib.hid (show YrC day y from ⟨hy1, hy2, by omega, HY3.out⟩)
        go_wp2_with fail
        refine (cStart_any y _ (by omega)).mono ?_
        rintro e w4 ⟨rfl, hb4⟩
        have hD := HD.out.on hb4
        clear hb4 HD e0 e1 e2 e3 e4 e5 e6
        have e0 := hD.y0; have e1 := hD.m0; have e2 := hD.d0; have e3 := hD.fy; have e4 := hD.fm; have e5 := hD.fd; have e6 := hD.lt
        have HD := Lib.hid hD; clear hD
        go_wp2_with fail
        have HLT := Lib.hid HD.out.lt
        refine (cMonths_any y _ (by omega)).mono ?_
        rintro e w5 ⟨bm, rfl, hn, hb5⟩
        have hD := HD.out.on hb5
        clear hb5 HD e0 e1 e2 e3 e4 e5 e6
        have HN := Lib.hid hn; clear hn
        have HNB := Lib.hid (show ∀ i, i < 13 → w5.cell? ⟨bm, i, none⟩ = some (.int .i64 ((mlCL y)[i]?.getD 0)) from fun i hi => HN.out.cell i (by rw [mlCL_len]; exact hi))
        have HD := Lib.hid hD; clear hD
        have hbm := HN.out.hi
        have hnm : BD < bm := Nat.lt_of_lt_of_le HLT.out HN.out.lo
        clear HLT
        go_wp2
        clear hbm
        go_loopw [1, 44] (fun v1 v44 wx => ∃ k : Nat, k ≤ 13 ∧ v44 = .int .i64 k ∧ v1 = .int .i64 (day - stC y - csum (mlCL y) k) ∧ 0 ≤ day - stC y - csum (mlCL y) k ∧ DW w wx BD y ((k : Int) + 1) 0 ∧ ∀ i, i < 13 → wx.cell? ⟨bm, i, none⟩ = some (.int .i64 ((mlCL y)[i]?.getD 0))) (fun _ v44 _ => 13 - (intOf v44).toNat)
        case atStart => exact ⟨0, by omega, rfl, by rw [csum, Int.sub_zero], by rw [csum]; omega, HD.out, HNB.out⟩
        case round =>
          obtain ⟨k, hk, rfl, rfl, hge, hD, hcells⟩ := hrel
          clear HD HNB
          have HC := Lib.hid hcells; clear hcells
          have HD := Lib.hid hD; clear hD
          have hlt : k < 13 := by
            rcases Nat.lt_or_eq_of_le hk with e | e
            · exact e
            · have h1 := csumC_all y
              have h2 := HYR.out.2.2.2
              rw [e, h1] at hge; omega
          have hck := HC.out k hlt
          have hmb := mlC_bd y ((k : Int) + 1)
          have hmb' : 0 ≤ (mlCL y)[k]?.getD 0 ∧ (mlCL y)[k]?.getD 0 ≤ 30 := by rw [mlCL_at y k hlt]; omega
          have hub : csum (mlCL y) k ≤ 4000000 ∧ 0 ≤ csum (mlCL y) k := by rw [csumC y k hlt]; unfold cuC; omega
          have e0 := HD.out.y0; have e1 := HD.out.m0; have e2 := HD.out.d0; have e3 := HD.out.fy; have e4 := HD.out.fm; have e5 := HD.out.fd; have e6 := HD.out.lt
          by_cases hbr : day - stC y - csum (mlCL y) k < (mlCL y)[k]?.getD 0
          · have HF := Lib.hid (isC_of day y k HYR.out hlt hge hbr)
            have f0 := HD.out.r0; have f1 := HD.out.r1; have f2 := HD.out.r2; have f3 := HD.out.g0; have f4 := HD.out.g1; have f5 := HD.out.g2; have f6 := HD.out.lo
            have hne1 : ¬ BD = w.heap.size := by omega
            have hne2 : ¬ w.heap.size = BD := by omega
            generalize csum (mlCL y) k = CS at *
            go_wp2
            refine bodyPost_ret (v := .tuple #[.agg #[.int .i64 y, .int .i64 ((k : Int) + 1), .int .i64 (day - stC y - CS + 1)], .int .i64 0]) (by simp [results, Tryd.results90, go_sem, f0, f1, f2]) rfl ?_
            exact ⟨ret_date HF.out.1 HF.out.2.1 HF.out.2.2, ((((HD.out.set2 _).b.setCell (p := ⟨w.heap.size, 0, none⟩) (Nat.le_refl _) _).setCell (p := ⟨w.heap.size, 1, none⟩) (Nat.le_refl _) _).setCell (p := ⟨w.heap.size, 2, none⟩) (Nat.le_refl _) _)⟩
          · have HCS := Lib.hid (show csum (mlCL y) (k + 1) = csum (mlCL y) k + (mlCL y)[k]?.getD 0 from rfl)
            go_wp2
            go_roundw
            case rel => exact ⟨k + 1, by omega, by go_num, by rw [HCS.out]; go_num, by rw [HCS.out]; omega, HD.out.set1 _, fun i hi => (cell_set_ne _ (by omega)).trans (HC.out i hi)⟩
            case measure => simp [intOf]; omega
set_option maxRecDepth 100000 in
set_option maxHeartbeats 4000000 in
theorem mDate_yes (day : Int) (w : World) (h : 0 ≤ day ∧ day < 3543312) : Calls Tryd.prog 90 #[.iface 101 (.agg #[]), .int .i64 day] w fun e w' => e = .returned (.tuple #[.agg #[.int .i64 (yrM day), .int .i64 (moM day), .int .i64 (daM day)], .int .i64 0]) ∧ Below w.heap.size w w' := by
  have hst : Pl.stM 10000 = 3543312 := stM_top
  have hwi : wi day 0 3543311 = true := wi_mk (by omega)
  have HG := Lib.hid (guessM day h.1 h.2)
  go_enter Tryd.func90, Tryd.ntmps90
  go_wp2_with fail
  refine (mStart_any 10000 _ (by omega)).mono ?_
  rintro e w1 ⟨rfl, hb1⟩
  go_wp2_with (go_at_call 77; refine (within_any _ _ _ _).mono ?_; rintro e w2 ⟨rfl, rfl⟩)
  refine (mCommon_any _).mono ?_
  rintro e w2 ⟨rfl, hb2⟩
  have HB := Lib.hid (bjoin hb1 hb2); clear hb1 hb2 hst hwi
  go_wp2
  · have hX := dw_new (u := 50) (9999) 1 0 HB.out
    generalize w2.alloc _ = W at hX ⊢
    generalize w2.heap.size = BD at hX ⊢
    go_loopw [25] (fun _ wr => ∃ y : Int, 1 ≤ y ∧ y ≤ 9999 ∧ day < Pl.stM (y + 1) ∧ DW w wr BD y 1 0) (fun _ wr => (intOf ((wr.cell? ⟨BD, 0, none⟩).getD undef)).toNat)
    case atStart => exact ⟨_, by omega, by omega, by have := HG.out.2.2; rwa [Int.min_eq_right (by omega)] at this, hX⟩
    case round =>
      obtain ⟨y, hy1, hy2, hy3, hD⟩ := hrel
      have hsb : 0 ≤ Pl.stM y ∧ Pl.stM y ≤ 4000000 := by
        have ha := stM_mono hy1; have hb := stM_mono (show y ≤ 10000 by omega)
        rw [stM_one] at ha; rw [stM_top] at hb; omega
      have HY3 := Lib.hid hy3; clear hy3
      have e0 := hD.y0; have e1 := hD.m0; have e2 := hD.d0; have e3 := hD.fy; have e4 := hD.fm; have e5 := hD.fd; have e6 := hD.lt
      have HD := Lib.hid hD; clear hD
      go_wp2_with fail
      refine (mStart_any y _ (by omega)).mono ?_
      rintro e w3 ⟨rfl, hb3⟩
      have hD := HD.out.on hb3
      have hcw : (wr.cell? ⟨BD, 0, none⟩).getD undef = .int .i64 y := by rw [e0]; rfl
      have HCW := Lib.hid hcw
      clear hb3 HD e0 e1 e2 e3 e4 e5 e6 hcw
      have e0 := hD.y0; have e1 := hD.m0; have e2 := hD.d0; have e3 := hD.fy; have e4 := hD.fm; have e5 := hD.fd; have e6 := hD.lt
      have HD := Lib.hid hD; clear hD
      by_cases hgt : day < Pl.stM y
      · have hy2' : 2 ≤ y := by
          rcases Int.lt_or_eq_of_le hy1 with e | e
          · omega
          · rw [← e, stM_one] at hgt; omega
        go_wp2
        go_roundw
        case rel => exact ⟨y - 1, by omega, by omega, by rw [show y - 1 + 1 = y by omega]; exact hgt, HD.out.set0 _⟩
        case measure =>
          have hq := (HD.out.set0 (y - 1)).y0
          rw [hq, HCW.out]; simp [intOf]; omega
      · have HYR := Lib.hid (show YrM day y from ⟨hy1, hy2, by omega, HY3.out⟩)
        go_wp2_with fail
        refine (mStart_any y _ (by omega)).mono ?_
        rintro e w4 ⟨rfl, hb4⟩
        have hD := HD.out.on hb4
        clear hb4 HD e0 e1 e2 e3 e4 e5 e6
        have e0 := hD.y0; have e1 := hD.m0; have e2 := hD.d0; have e3 := hD.fy; have e4 := hD.fm; have e5 := hD.fd; have e6 := hD.lt
        have HD := Lib.hid hD; clear hD
        go_wp2_with fail
        have HLT := Lib.hid HD.out.lt
        refine (mMonths_any y _ (by omega)).mono ?_
        rintro e w5 ⟨bm, rfl, hn, hb5⟩
        have hD := HD.out.on hb5
        clear hb5 HD e0 e1 e2 e3 e4 e5 e6
        have HN := Lib.hid hn; clear hn
        have HNB := Lib.hid (show ∀ i, i < 12 → w5.cell? ⟨bm, i, none⟩ = some (.int .i64 ((mlML y)[i]?.getD 0)) from fun i hi => HN.out.cell i (by rw [mlML_len]; exact hi))
        have HD := Lib.hid hD; clear hD
        have hbm := HN.out.hi
        have hnm : BD < bm := Nat.lt_of_lt_of_le HLT.out HN.out.lo
        clear HLT
        go_wp2
        clear hbm
        go_loopw [1, 44] (fun v1 v44 wx => ∃ k : Nat, k ≤ 12 ∧ v44 = .int .i64 k ∧ v1 = .int .i64 (day - Pl.stM y - csum (mlML y) k) ∧ 0 ≤ day - Pl.stM y - csum (mlML y) k ∧ DW w wx BD y ((k : Int) + 1) 0 ∧ ∀ i, i < 12 → wx.cell? ⟨bm, i, none⟩ = some (.int .i64 ((mlML y)[i]?.getD 0))) (fun _ v44 _ => 12 - (intOf v44).toNat)
        case atStart => exact ⟨0, by omega, rfl, by rw [csum, Int.sub_zero], by rw [csum]; omega, HD.out, HNB.out⟩
        case round =>
          obtain ⟨k, hk, rfl, rfl, hge, hD, hcells⟩ := hrel
          clear HD HNB
          have HC := Lib.hid hcells; clear hcells
          have HD := Lib.hid hD; clear hD
          have hlt : k < 12 := by
            rcases Nat.lt_or_eq_of_le hk with e | e
            · exact e
            · have h1 := csumM_all y
              have h2 := HYR.out.2.2.2
              rw [e, h1] at hge; omega
          have hck := HC.out k hlt
          have hmb := mlM_bd y ((k : Int) + 1)
          have hmb' : 0 ≤ (mlML y)[k]?.getD 0 ∧ (mlML y)[k]?.getD 0 ≤ 30 := by rw [mlML_at y k hlt]; omega
          have hub : csum (mlML y) k ≤ 4000000 ∧ 0 ≤ csum (mlML y) k := by rw [csumM y k hlt]; unfold cuM; omega
          have e0 := HD.out.y0; have e1 := HD.out.m0; have e2 := HD.out.d0; have e3 := HD.out.fy; have e4 := HD.out.fm; have e5 := HD.out.fd; have e6 := HD.out.lt
          by_cases hbr : day - Pl.stM y - csum (mlML y) k < (mlML y)[k]?.getD 0
          · have HF := Lib.hid (isM_of day y k HYR.out hlt hge hbr)
            have f0 := HD.out.r0; have f1 := HD.out.r1; have f2 := HD.out.r2; have f3 := HD.out.g0; have f4 := HD.out.g1; have f5 := HD.out.g2; have f6 := HD.out.lo
            have hne1 : ¬ BD = w.heap.size := by omega
            have hne2 : ¬ w.heap.size = BD := by omega
            generalize csum (mlML y) k = CS at *
            go_wp2
            refine bodyPost_ret (v := .tuple #[.agg #[.int .i64 y, .int .i64 ((k : Int) + 1), .int .i64 (day - Pl.stM y - CS + 1)], .int .i64 0]) (by simp [results, Tryd.results90, go_sem, f0, f1, f2]) rfl ?_
            exact ⟨ret_date HF.out.1 HF.out.2.1 HF.out.2.2, ((((HD.out.set2 _).b.setCell (p := ⟨w.heap.size, 0, none⟩) (Nat.le_refl _) _).setCell (p := ⟨w.heap.size, 1, none⟩) (Nat.le_refl _) _).setCell (p := ⟨w.heap.size, 2, none⟩) (Nat.le_refl _) _)⟩
          · have HCS := Lib.hid (show csum (mlML y) (k + 1) = csum (mlML y) k + (mlML y)[k]?.getD 0 from rfl)
            go_wp2
            go_roundw
            case rel => exact ⟨k + 1, by omega, by go_num, by rw [HCS.out]; go_num, by rw [HCS.out]; omega, HD.out.set1 _, fun i hi => (cell_set_ne _ (by omega)).trans (HC.out i hi)⟩
            case measure => simp [intOf]; omega
  · have hX := dw_new (u := 50) (day / 354 + 1) 1 0 HB.out
    generalize w2.alloc _ = W at hX ⊢
    generalize w2.heap.size = BD at hX ⊢
    go_loopw [25] (fun _ wr => ∃ y : Int, 1 ≤ y ∧ y ≤ 9999 ∧ day < Pl.stM (y + 1) ∧ DW w wr BD y 1 0) (fun _ wr => (intOf ((wr.cell? ⟨BD, 0, none⟩).getD undef)).toNat)
    case atStart => exact ⟨_, by omega, by omega, by have := HG.out.2.2; rwa [Int.min_eq_left (by omega)] at this, hX⟩
    case round =>
      obtain ⟨y, hy1, hy2, hy3, hD⟩ := hrel
      have hsb : 0 ≤ Pl.stM y ∧ Pl.stM y ≤ 4000000 := by
        have ha := stM_mono hy1; have hb := stM_mono (show y ≤ 10000 by omega)
        rw [stM_one] at ha; rw [stM_top] at hb; omega
      have HY3 := Lib.hid hy3; clear hy3
      have e0 := hD.y0; have e1 := hD.m0; have e2 := hD.d0; have e3 := hD.fy; have e4 := hD.fm; have e5 := hD.fd; have e6 := hD.lt
      have HD := Lib.hid hD; clear hD
      go_wp2_with fail
      refine (mStart_any y _ (by omega)).mono ?_
      rintro e w3 ⟨rfl, hb3⟩
      have hD := HD.out.on hb3
      have hcw : (wr.cell? ⟨BD, 0, none⟩).getD undef = .int .i64 y := by rw [e0]; rfl
      have HCW := Lib.hid hcw
      clear hb3 HD e0 e1 e2 e3 e4 e5 e6 hcw
      have e0 := hD.y0; have e1 := hD.m0; have e2 := hD.d0; have e3 := hD.fy; have e4 := hD.fm; have e5 := hD.fd; have e6 := hD.lt
      have HD := Lib.hid hD; clear hD
      by_cases hgt : day < Pl.stM y
      · have hy2' : 2 ≤ y := by
          rcases Int.lt_or_eq_of_le hy1 with e | e
          · omega
          · rw [← e, stM_one] at hgt; omega
        go_wp2
        go_roundw
        case rel => exact ⟨y - 1, by omega, by omega, by rw [show y - 1 + 1 = y by omega]; exact hgt, HD.out.set0 _⟩
        case measure =>
          have hq := (HD.out.set0 (y - 1)).y0
          rw [hq, HCW.out]; simp [intOf]; omega
      · have HYR := Lib.hid (show YrM day y from ⟨hy1, hy2, by omega, HY3.out⟩)
        go_wp2_with fail
        refine (mStart_any y _ (by omega)).mono ?_
        rintro e w4 ⟨rfl, hb4⟩
        have hD := HD.out.on hb4
        clear hb4 HD e0 e1 e2 e3 e4 e5 e6
        have e0 := hD.y0; have e1 := hD.m0; have e2 := hD.d0; have e3 := hD.fy; have e4 := hD.fm; have e5 := hD.fd; have e6 := hD.lt
        have HD := Lib.hid hD; clear hD
        go_wp2_with fail
        have HLT := Lib.hid HD.out.lt
        refine (mMonths_any y _ (by omega)).mono ?_
        rintro e w5 ⟨bm, rfl, hn, hb5⟩
        have hD := HD.out.on hb5
        clear hb5 HD e0 e1 e2 e3 e4 e5 e6
        have HN := Lib.hid hn; clear hn
        have HNB := Lib.hid (show ∀ i, i < 12 → w5.cell? ⟨bm, i, none⟩ = some (.int .i64 ((mlML y)[i]?.getD 0)) from fun i hi => HN.out.cell i (by rw [mlML_len]; exact hi))
        have HD := Lib.hid hD; clear hD
        have hbm := HN.out.hi
        have hnm : BD < bm := Nat.lt_of_lt_of_le HLT.out HN.out.lo
        clear HLT
        go_wp2
        clear hbm
        go_loopw [1, 44] (fun v1 v44 wx => ∃ k : Nat, k ≤ 12 ∧ v44 = .int .i64 k ∧ v1 = .int .i64 (day - Pl.stM y - csum (mlML y) k) ∧ 0 ≤ day - Pl.stM y - csum (mlML y) k ∧ DW w wx BD y ((k : Int) + 1) 0 ∧ ∀ i, i < 12 → wx.cell? ⟨bm, i, none⟩ = some (.int .i64 ((mlML y)[i]?.getD 0))) (fun _ v44 _ => 12 - (intOf v44).toNat)
        case atStart => exact ⟨0, by omega, rfl, by rw [csum, Int.sub_zero], by rw [csum]; omega, HD.out, HNB.out⟩
        case round =>
          obtain ⟨k, hk, rfl, rfl, hge, hD, hcells⟩ := hrel
          clear HD HNB
          have HC := Lib.hid hcells; clear hcells
          have HD := Lib.hid hD; clear hD
          have hlt : k < 12 := by
            rcases Nat.lt_or_eq_of_le hk with e | e
            · exact e
            · have h1 := csumM_all y
              have h2 := HYR.out.2.2.2
              rw [e, h1] at hge; omega
          have hck := HC.out k hlt
          have hmb := mlM_bd y ((k : Int) + 1)
          have hmb' : 0 ≤ (mlML y)[k]?.getD 0 ∧ (mlML y)[k]?.getD 0 ≤ 30 := by rw [mlML_at y k hlt]; omega
          have hub : csum (mlML y) k ≤ 4000000 ∧ 0 ≤ csum (mlML y) k := by rw [csumM y k hlt]; unfold cuM; omega
          have e0 := HD.out.y0; have e1 := HD.out.m0; have e2 := HD.out.d0; have e3 := HD.out.fy; have e4 := HD.out.fm; have e5 := HD.out.fd; have e6 := HD.out.lt
          by_cases hbr : day - Pl.stM y - csum (mlML y) k < (mlML y)[k]?.getD 0
          · have HF := Lib.hid (isM_of day y k HYR.out hlt hge hbr)
            have f0 := HD.out.r0; have f1 := HD.out.r1; have f2 := HD.out.r2; have f3 := HD.out.g0; have f4 := HD.out.g1; have f5 := HD.out.g2; have f6 := HD.out.lo
            have hne1 : ¬ BD = w.heap.size := by omega
            have hne2 : ¬ w.heap.size = BD := by omega
            generalize csum (mlML y) k = CS at *
            go_wp2
            refine bodyPost_ret (v := .tuple #[.agg #[.int .i64 y, .int .i64 ((k : Int) + 1), .int .i64 (day - Pl.stM y - CS + 1)], .int .i64 0]) (by simp [results, Tryd.results90, go_sem, f0, f1, f2]) rfl ?_
            exact ⟨ret_date HF.out.1 HF.out.2.1 HF.out.2.2, ((((HD.out.set2 _).b.setCell (p := ⟨w.heap.size, 0, none⟩) (Nat.le_refl _) _).setCell (p := ⟨w.heap.size, 1, none⟩) (Nat.le_refl _) _).setCell (p := ⟨w.heap.size, 2, none⟩) (Nat.le_refl _) _)⟩
          · have HCS := Lib.hid (show csum (mlML y) (k + 1) = csum (mlML y) k + (mlML y)[k]?.getD 0 from rfl)
            go_wp2
            go_roundw
            case rel => exact ⟨k + 1, by omega, by go_num, by rw [HCS.out]; go_num, by rw [HCS.out]; omega, HD.out.set1 _, fun i hi => (cell_set_ne _ (by omega)).trans (HC.out i hi)⟩
            case measure => simp [intOf]; omega
end Go.Proofs.YtomlfliebolkmaaDoor
