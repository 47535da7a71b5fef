/-
  The text of an hour, by contract. No condition beyond what each states.
-/
import Derived.Test.YtomlfliebolkmaaDoorWL
import Derived.Test.YtomlfliebolkmaaDoorCF
set_option linter.unusedVariables false
set_option linter.unusedSimpArgs false
namespace Go.Proofs.YtomlfliebolkmaaDoor
open Go Go.Proofs Go.RowKit Pl

/-- The text of a number below one hundred. -/
def digs (n : Int) : ByteArray := if n < 10 then ⟨#[48 + n.toNat.toUInt8]⟩ else ⟨#[48 + (n.toNat / 10).toUInt8, 48 + (n.toNat % 10).toUInt8]⟩
theorem all_lt {f g : Nat → ByteArray} (lo N : Nat) (h : (List.range N).all (fun k => decide (k < lo ∨ f k = g k)) = true) : ∀ k : Nat, (lo : Int) ≤ (k : Int) → k < N → f k = g k := by
  intro k hlo hk
  have := List.all_eq_true.1 h k (List.mem_range.2 hk)
  exact (of_decide_eq_true this).resolve_left (by omega)

set_option maxRecDepth 100000 in
set_option maxHeartbeats 1000000 in
theorem small_any (n : Int) (w : World) (h0 : 0 ≤ n) (h1 : n < 100) : Calls Tryd.prog 125 #[.int .i64 n] w fun e w' => e = .returned (.string (digs n)) ∧ w' = w := by
  by_cases h : n < 10
  · go_enter Tryd.func125, Tryd.ntmps125
    go_wp2
    go_ret
    refine ⟨congrArg (fun s => Ending.returned (.string s)) ?_, rfl⟩
    obtain ⟨k, rfl⟩ := Int.eq_ofNat_of_zero_le h0
    refine all_lt (f := fun k : Nat => ByteArray.extract _ ((k : Int)).toNat ((k : Int) + 1).toNat) (g := fun k : Nat => digs k) 0 10 ?_ k (by omega) (by omega)
    kernel_rfl
  · go_enter Tryd.func125, Tryd.ntmps125
    go_wp2
    go_ret
    refine ⟨congrArg (fun s => Ending.returned (.string s)) ?_, rfl⟩
    obtain ⟨k, rfl⟩ := Int.eq_ofNat_of_zero_le h0
    refine all_lt (f := fun k : Nat => ByteArray.extract _ ((k : Int) * 2).toNat ((k : Int) * 2 + 2).toNat) (g := fun k : Nat => digs k) 10 100 ?_ k (by omega) (by omega)
    kernel_rfl

set_option maxHeartbeats 1000000 in
theorem Format_any (n : Int) (w : World) (h0 : 0 ≤ n) (h1 : n < 100) : Calls Tryd.prog 118 #[.int .i64 n, .int .i64 10] w fun e w' => e = .returned (.string (digs n)) ∧ w' = w := by
  go_enter Tryd.func118, Tryd.ntmps118
  go_wp2_with fail
  refine (small_any _ _ h0 h1).mono ?_
  rintro e w1 ⟨rfl, rfl⟩
  go_wp2
  go_ret
  exact ⟨rfl, rfl⟩

set_option maxHeartbeats 1000000 in
theorem Itoa0_any (n : Int) (w : World) (h0 : 0 ≤ n) (h1 : n < 100) : Calls Tryd.prog 112 #[.int .i64 n] w fun e w' => e = .returned (.string (digs n)) ∧ w' = w := by
  go_enter Tryd.func112, Tryd.ntmps112
  go_wp2_with fail
  refine (Format_any _ _ h0 h1).mono ?_
  rintro e w1 ⟨rfl, rfl⟩
  go_wp2
  go_ret
  exact ⟨rfl, rfl⟩

set_option maxHeartbeats 1000000 in
theorem Itoa_any (n : Int) (w : World) (h0 : 0 ≤ n) (h1 : n < 100) : Calls Tryd.prog 94 #[.int .i64 n] w fun e w' => e = .returned (.string (digs n)) ∧ w' = w := by
  go_enter Tryd.func94, Tryd.ntmps94
  go_wp2_with fail
  refine (Itoa0_any _ _ h0 h1).mono ?_
  rintro e w1 ⟨rfl, rfl⟩
  go_wp2
  go_ret
  exact ⟨rfl, rfl⟩


theorem digs_le (n : Int) : (digs n).size ≤ 2 := by unfold digs; split <;> (first | (show 1 ≤ 2; omega) | (show 2 ≤ 2; omega))
/-- The text of an hour. -/
def txtB (b : Bool) (h p : Int) : ByteArray := (if p < 10 then (if b = true then ⟨#[110, 105, 103, 104, 116, 32]⟩ else ⟨#[100, 97, 121, 32]⟩) ++ (digs h ++ ⟨#[58]⟩) ++ ⟨#[48]⟩ else (if b = true then ⟨#[110, 105, 103, 104, 116, 32]⟩ else ⟨#[100, 97, 121, 32]⟩) ++ (digs h ++ ⟨#[58]⟩)) ++ digs p
theorem txtB_lo (b : Bool) (h p : Int) (hp : p < 10) : txtB b h p = (if b = true then ⟨#[110, 105, 103, 104, 116, 32]⟩ else ⟨#[100, 97, 121, 32]⟩) ++ (digs h ++ ⟨#[58]⟩) ++ ⟨#[48]⟩ ++ digs p := by unfold txtB; rw [if_pos hp]
theorem txtB_hi (b : Bool) (h p : Int) (hp : ¬ p < 10) : txtB b h p = (if b = true then ⟨#[110, 105, 103, 104, 116, 32]⟩ else ⟨#[100, 97, 121, 32]⟩) ++ (digs h ++ ⟨#[58]⟩) ++ digs p := by unfold txtB; rw [if_neg hp]
def prE (h p : Int) : Int := if hrOk h p = true then 0 else 1
def prT (b : Bool) (h p : Int) : ByteArray := if hrOk h p = true then txtB b h p else ⟨#[]⟩

set_option maxHeartbeats 4000000 in
theorem Print_any (b : Bool) (h p : Int) (w : World) : Calls Tryd.prog 40 #[.agg #[.bool b, .int .i64 h, .int .i64 p]] w fun e w' => e = .returned (.tuple #[.string (prT b h p), .int .i64 (prE h p)]) ∧ Below w.heap.size w w' := by
  cases hv : hrOk h p
  · have HT := Lib.hid (show prT b h p = ⟨#[]⟩ by unfold prT; rw [hv]; rfl)
    have HE := Lib.hid (show prE h p = 1 by unfold prE; rw [hv]; rfl)
    go_enter Tryd.func40, Tryd.ntmps40
    go_wp2_with fail
    refine (isHour_any _ _ _ _).mono ?_
    rintro e w1 ⟨rfl, hb1⟩
    have HB := Lib.hid (bjoin (w := w) (by go_grown) hb1); clear hb1
    rw [hv]
    go_wp2
    refine bodyPost_ret (v := .tuple #[.string ⟨#[]⟩, .int .i64 1]) (by simp [results, Tryd.results40, go_sem]) rfl ?_
    rw [HT.out, HE.out]
    exact ⟨rfl, HB.out⟩
  · have HT := Lib.hid (show prT b h p = txtB b h p by unfold prT; rw [hv]; rfl)
    have HE := Lib.hid (show prE h p = 0 by unfold prE; rw [hv]; rfl)
    have hb := (hrOk_iff _ _).1 hv
    cases b
    · by_cases hp : p < 10
      · go_enter Tryd.func40, Tryd.ntmps40
        go_wp2_with fail
        refine (isHour_any _ _ _ _).mono ?_
        rintro e w1 ⟨rfl, hb1⟩
        have qc0 := keep_cell (b := w.heap.size) (o := 0) (v := .bool false) hb1 (by simp <;> omega) (by simp [go_sem])
        have qc1 := keep_cell (b := w.heap.size) (o := 1) (v := .int .i64 h) hb1 (by simp <;> omega) (by simp [go_sem])
        have qc2 := keep_cell (b := w.heap.size) (o := 2) (v := .int .i64 p) hb1 (by simp <;> omega) (by simp [go_sem])
        have HB := Lib.hid (bjoin (w := w) (by go_grown) hb1); clear hb1
        rw [hv]
        have HX := Lib.hid (txtB_lo false h p hp)
        have hd1 := digs_le h; have hd2 := digs_le p
        go_wp2_with fail
        refine (Itoa_any _ _ (by omega) (by omega)).mono ?_
        rintro e w2 ⟨rfl, rfl⟩
        go_wp2_with fail
        refine (Itoa_any _ _ (by omega) (by omega)).mono ?_
        rintro e w3 ⟨rfl, rfl⟩
        go_wp2
        refine bodyPost_ret (v := .tuple #[.string (txtB false h p), .int .i64 0]) (by rw [HX.out]; simp [results, Tryd.results40, go_sem]) rfl ?_
        rw [HT.out, HE.out]
        exact ⟨rfl, HB.out⟩
      · go_enter Tryd.func40, Tryd.ntmps40
        go_wp2_with fail
        refine (isHour_any _ _ _ _).mono ?_
        rintro e w1 ⟨rfl, hb1⟩
        have qc0 := keep_cell (b := w.heap.size) (o := 0) (v := .bool false) hb1 (by simp <;> omega) (by simp [go_sem])
        have qc1 := keep_cell (b := w.heap.size) (o := 1) (v := .int .i64 h) hb1 (by simp <;> omega) (by simp [go_sem])
        have qc2 := keep_cell (b := w.heap.size) (o := 2) (v := .int .i64 p) hb1 (by simp <;> omega) (by simp [go_sem])
        have HB := Lib.hid (bjoin (w := w) (by go_grown) hb1); clear hb1
        rw [hv]
        have HX := Lib.hid (txtB_hi false h p (Int.not_lt.2 hp))
        have hd1 := digs_le h; have hd2 := digs_le p
        go_wp2_with fail
        refine (Itoa_any _ _ (by omega) (by omega)).mono ?_
        rintro e w2 ⟨rfl, rfl⟩
        go_wp2_with fail
        refine (Itoa_any _ _ (by omega) (by omega)).mono ?_
        rintro e w3 ⟨rfl, rfl⟩
        go_wp2
        refine bodyPost_ret (v := .tuple #[.string (txtB false h p), .int .i64 0]) (by rw [HX.out]; simp [results, Tryd.results40, go_sem]) rfl ?_
        rw [HT.out, HE.out]
        exact ⟨rfl, HB.out⟩
    · by_cases hp : p < 10
      · go_enter Tryd.func40, Tryd.ntmps40
        go_wp2_with fail
        refine (isHour_any _ _ _ _).mono ?_
        rintro e w1 ⟨rfl, hb1⟩
        have qc0 := keep_cell (b := w.heap.size) (o := 0) (v := .bool true) hb1 (by simp <;> omega) (by simp [go_sem])
        have qc1 := keep_cell (b := w.heap.size) (o := 1) (v := .int .i64 h) hb1 (by simp <;> omega) (by simp [go_sem])
        have qc2 := keep_cell (b := w.heap.size) (o := 2) (v := .int .i64 p) hb1 (by simp <;> omega) (by simp [go_sem])
        have HB := Lib.hid (bjoin (w := w) (by go_grown) hb1); clear hb1
        rw [hv]
        have HX := Lib.hid (txtB_lo true h p hp)
        have hd1 := digs_le h; have hd2 := digs_le p
        go_wp2_with fail
        refine (Itoa_any _ _ (by omega) (by omega)).mono ?_
        rintro e w2 ⟨rfl, rfl⟩
        go_wp2_with fail
        refine (Itoa_any _ _ (by omega) (by omega)).mono ?_
        rintro e w3 ⟨rfl, rfl⟩
        go_wp2
        refine bodyPost_ret (v := .tuple #[.string (txtB true h p), .int .i64 0]) (by rw [HX.out]; simp [results, Tryd.results40, go_sem]) rfl ?_
        rw [HT.out, HE.out]
        exact ⟨rfl, HB.out⟩
      · go_enter Tryd.func40, Tryd.ntmps40
        go_wp2_with fail
        refine (isHour_any _ _ _ _).mono ?_
        rintro e w1 ⟨rfl, hb1⟩
        have qc0 := keep_cell (b := w.heap.size) (o := 0) (v := .bool true) hb1 (by simp <;> omega) (by simp [go_sem])
        have qc1 := keep_cell (b := w.heap.size) (o := 1) (v := .int .i64 h) hb1 (by simp <;> omega) (by simp [go_sem])
        have qc2 := keep_cell (b := w.heap.size) (o := 2) (v := .int .i64 p) hb1 (by simp <;> omega) (by simp [go_sem])
        have HB := Lib.hid (bjoin (w := w) (by go_grown) hb1); clear hb1
        rw [hv]
        have HX := Lib.hid (txtB_hi true h p (Int.not_lt.2 hp))
        have hd1 := digs_le h; have hd2 := digs_le p
        go_wp2_with fail
        refine (Itoa_any _ _ (by omega) (by omega)).mono ?_
        rintro e w2 ⟨rfl, rfl⟩
        go_wp2_with fail
        refine (Itoa_any _ _ (by omega) (by omega)).mono ?_
        rintro e w3 ⟨rfl, rfl⟩
        go_wp2
        refine bodyPost_ret (v := .tuple #[.string (txtB true h p), .int .i64 0]) (by rw [HX.out]; simp [results, Tryd.results40, go_sem]) rfl ?_
        rw [HT.out, HE.out]
        exact ⟨rfl, HB.out⟩

end Go.Proofs.YtomlfliebolkmaaDoor
