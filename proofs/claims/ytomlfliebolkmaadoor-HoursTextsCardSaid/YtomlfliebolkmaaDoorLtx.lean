/-
  HoursTexts: the law's own walk.
-/
import Derived.Test.YtomlfliebolkmaaDoorCJ
import Derived.Test.YtomlfliebolkmaaDoorTb
set_option linter.unusedVariables false
set_option linter.unusedSimpArgs false
namespace Go.Proofs.YtomlfliebolkmaaDoor
open Go Go.Proofs Go.RowKit Pl

set_option maxRecDepth 100000 in
theorem hT_le_all : (List.range 1440).all (fun n => decide ((hT n).size ≤ 100)) = true := by kernel_rfl
theorem hT_le {n : Nat} (h : n < 1440) : (hT n).size ≤ 100 := of_decide_eq_true (List.all_eq_true.1 hT_le_all n (List.mem_range.2 h))
/-- Parse of what Print made. -/
theorem Parse_back (b : Bool) (h p : Int) (w : World) (ht : TxW w) (hv : hrOk h p = true) :
    Calls Tryd.prog 42 #[.string (prT b h p)] w fun e w' => e = .returned (.tuple #[.agg #[.bool b, .int .i64 h, .int .i64 p], .int .i64 0]) ∧ Below w.heap.size w w' := by
  obtain ⟨a1, a2, a3, a4⟩ := hN_spec (b := b) hv
  have e : prT b h p = hT (hN b h p) := by unfold prT; rw [if_pos hv]; exact txt_hT hv
  rw [e]
  have k := Parse_yes (hN b h p) _ w ht (hT_le a1) a1 rfl
  rw [a2, a3, a4] at k
  exact k
theorem Print_hour (n : Nat) (s : ByteArray) (w : World) (hs : hT n = s) :
    Calls Tryd.prog 40 #[.agg #[.bool (decide (720 ≤ (n : Int))), .int .i64 ((n : Int) / 60 % 12), .int .i64 ((n : Int) % 60)]] w fun e w' => e = .returned (.tuple #[.string s, .int .i64 0]) ∧ Below w.heap.size w w' := by
  have k := Print_any (decide (720 ≤ (n : Int))) ((n : Int) / 60 % 12) ((n : Int) % 60) w
  have e1 : prT (decide (720 ≤ (n : Int))) ((n : Int) / 60 % 12) ((n : Int) % 60) = s := by unfold prT; rw [if_pos (hT_ok n)]; exact hs
  have e2 : prE ((n : Int) / 60 % 12) ((n : Int) % 60) = 0 := by unfold prE; rw [if_pos (hT_ok n)]
  rw [e1, e2] at k
  exact k

set_option maxRecDepth 100000 in
set_option maxHeartbeats 20000000 in
theorem Texts_any (b : Bool) (h p : Int) (s : ByteArray) (w : World) (ht : TxW w) :
   Calls Tryd.prog 7 #[.agg #[.bool b, .int .i64 h, .int .i64 p], .string s] w fun e w' => e = .returned (.bool true) ∧ Below w.heap.size w w' := by
  have HT := Lib.hid ht; clear ht
  by_cases hs : 100 < s.size
  · have hs' : (100 : Int) < (s.size : Int) := by omega
    go_enter Tryd.func7, Tryd.ntmps7
    go_wp2_with fail
    refine (sane_any _).mono ?_
    rintro e w1 ⟨rfl, hb⟩
    have HB1 := Lib.hid (bjoin (w := w) ((Below.refl w.heap.size w).alloc (by first | (simp; done) | (have := (Below.refl w.heap.size w).size; simp; omega) | (have := (Below.refl w.heap.size w).size; omega)) _) hb)
    have t1_l0 := keep_lt (b := w.heap.size) hb (by first | omega | (simp; done) | (simp; omega))
    have t1_0_0 := keep_cell (b := w.heap.size) (o := 0) (v := .bool b) hb (by first | omega | (simp; done) | (simp; omega)) (by first | assumption | exact cell_alloc_l _ (by assumption) | exact cell_alloc_l _ (cell_alloc_l _ (by assumption)) | simp [go_sem])
    have t1_0_1 := keep_cell (b := w.heap.size) (o := 1) (v := .int .i64 h) hb (by first | omega | (simp; done) | (simp; omega)) (by first | assumption | exact cell_alloc_l _ (by assumption) | exact cell_alloc_l _ (cell_alloc_l _ (by assumption)) | simp [go_sem])
    have t1_0_2 := keep_cell (b := w.heap.size) (o := 2) (v := .int .i64 p) hb (by first | omega | (simp; done) | (simp; omega)) (by first | assumption | exact cell_alloc_l _ (by assumption) | exact cell_alloc_l _ (cell_alloc_l _ (by assumption)) | simp [go_sem])
    clear hb
    go_wp2_with fail
    go_ret
    exact ⟨rfl, HB1.out⟩
  · have hs' : ¬ (100 : Int) < (s.size : Int) := by omega
    have hle : s.size ≤ 100 := by omega
    by_cases hyes : ∃ n, n < 1440 ∧ hT n = s
    · obtain ⟨n, hn, hsn⟩ := hyes
      have HSN := Lib.hid hsn; clear hsn
      rcases Bool.eq_false_or_eq_true (hrOk h p) with hv | hv
      · have HV := Lib.hid hv
        have HE := Lib.hid (show prE h p = 0 by unfold prE; rw [if_pos hv])
        clear hv
        go_enter Tryd.func7, Tryd.ntmps7
        go_wp2_with fail
        refine (sane_any _).mono ?_
        rintro e w1 ⟨rfl, hb⟩
        have HB1 := Lib.hid (bjoin (w := w) ((Below.refl w.heap.size w).alloc (by first | (simp; done) | (have := (Below.refl w.heap.size w).size; simp; omega) | (have := (Below.refl w.heap.size w).size; omega)) _) hb)
        have t1_l0 := keep_lt (b := w.heap.size) hb (by first | omega | (simp; done) | (simp; omega))
        have t1_0_0 := keep_cell (b := w.heap.size) (o := 0) (v := .bool b) hb (by first | omega | (simp; done) | (simp; omega)) (by first | assumption | exact cell_alloc_l _ (by assumption) | exact cell_alloc_l _ (cell_alloc_l _ (by assumption)) | simp [go_sem])
        have t1_0_1 := keep_cell (b := w.heap.size) (o := 1) (v := .int .i64 h) hb (by first | omega | (simp; done) | (simp; omega)) (by first | assumption | exact cell_alloc_l _ (by assumption) | exact cell_alloc_l _ (cell_alloc_l _ (by assumption)) | simp [go_sem])
        have t1_0_2 := keep_cell (b := w.heap.size) (o := 2) (v := .int .i64 p) hb (by first | omega | (simp; done) | (simp; omega)) (by first | assumption | exact cell_alloc_l _ (by assumption) | exact cell_alloc_l _ (cell_alloc_l _ (by assumption)) | simp [go_sem])
        clear hb
        go_wp2_with fail
        refine (Print_any b h p _).mono ?_
        rintro e w2 ⟨rfl, hb⟩
        have HB2 := Lib.hid (bjoin (w := w) HB1.out hb)
        have t2_l0 := keep_lt (b := w.heap.size) hb (by first | omega | (simp; done) | (simp; omega))
        have t2_0_0 := keep_cell (b := w.heap.size) (o := 0) (v := .bool b) hb (by first | omega | (simp; done) | (simp; omega)) (by first | assumption | exact cell_alloc_l _ (by assumption) | exact cell_alloc_l _ (cell_alloc_l _ (by assumption)) | simp [go_sem])
        have t2_0_1 := keep_cell (b := w.heap.size) (o := 1) (v := .int .i64 h) hb (by first | omega | (simp; done) | (simp; omega)) (by first | assumption | exact cell_alloc_l _ (by assumption) | exact cell_alloc_l _ (cell_alloc_l _ (by assumption)) | simp [go_sem])
        have t2_0_2 := keep_cell (b := w.heap.size) (o := 2) (v := .int .i64 p) hb (by first | omega | (simp; done) | (simp; omega)) (by first | assumption | exact cell_alloc_l _ (by assumption) | exact cell_alloc_l _ (cell_alloc_l _ (by assumption)) | simp [go_sem])
        clear t1_0_0 t1_0_1 t1_0_2 t1_l0
        clear hb
        go_wp2_with fail
        refine (rPrint_any b h p _).mono ?_
        rintro e w3 ⟨rfl, hb⟩
        have HB3 := Lib.hid (bjoin (w := w) HB2.out hb)
        have t3_l0 := keep_lt (b := w.heap.size) hb (by first | omega | (simp; done) | (simp; omega))
        have t3_0_0 := keep_cell (b := w.heap.size) (o := 0) (v := .bool b) hb (by first | omega | (simp; done) | (simp; omega)) (by first | assumption | exact cell_alloc_l _ (by assumption) | exact cell_alloc_l _ (cell_alloc_l _ (by assumption)) | simp [go_sem])
        have t3_0_1 := keep_cell (b := w.heap.size) (o := 1) (v := .int .i64 h) hb (by first | omega | (simp; done) | (simp; omega)) (by first | assumption | exact cell_alloc_l _ (by assumption) | exact cell_alloc_l _ (cell_alloc_l _ (by assumption)) | simp [go_sem])
        have t3_0_2 := keep_cell (b := w.heap.size) (o := 2) (v := .int .i64 p) hb (by first | omega | (simp; done) | (simp; omega)) (by first | assumption | exact cell_alloc_l _ (by assumption) | exact cell_alloc_l _ (cell_alloc_l _ (by assumption)) | simp [go_sem])
        clear t2_0_0 t2_0_1 t2_0_2 t2_l0
        clear hb
        go_wp2_with fail
        refine (Parse_yes n s _ (HT.out.to HB3.out) hle hn HSN.out).mono ?_
        rintro e w4 ⟨rfl, hb⟩
        have HB4 := Lib.hid (bjoin (w := w) HB3.out hb)
        have t4_l0 := keep_lt (b := w.heap.size) hb (by first | omega | (simp; done) | (simp; omega))
        have t4_0_0 := keep_cell (b := w.heap.size) (o := 0) (v := .bool b) hb (by first | omega | (simp; done) | (simp; omega)) (by first | assumption | exact cell_alloc_l _ (by assumption) | exact cell_alloc_l _ (cell_alloc_l _ (by assumption)) | simp [go_sem])
        have t4_0_1 := keep_cell (b := w.heap.size) (o := 1) (v := .int .i64 h) hb (by first | omega | (simp; done) | (simp; omega)) (by first | assumption | exact cell_alloc_l _ (by assumption) | exact cell_alloc_l _ (cell_alloc_l _ (by assumption)) | simp [go_sem])
        have t4_0_2 := keep_cell (b := w.heap.size) (o := 2) (v := .int .i64 p) hb (by first | omega | (simp; done) | (simp; omega)) (by first | assumption | exact cell_alloc_l _ (by assumption) | exact cell_alloc_l _ (cell_alloc_l _ (by assumption)) | simp [go_sem])
        clear t3_0_0 t3_0_1 t3_0_2 t3_l0
        clear hb
        go_wp2_with fail
        refine (rParse_yes n s _ hn HSN.out).mono ?_
        rintro e w5 ⟨rfl, hb⟩
        have HB5 := Lib.hid (bjoin (w := w) (HB4.out.alloc (by first | (simp; done) | (have := HB4.out.size; simp; omega) | (have := HB4.out.size; omega)) _) hb)
        have t5_l0 := keep_lt (b := w.heap.size) hb (by first | omega | (simp; done) | (simp; omega))
        have t5_0_0 := keep_cell (b := w.heap.size) (o := 0) (v := .bool b) hb (by first | omega | (simp; done) | (simp; omega)) (by first | assumption | exact cell_alloc_l _ (by assumption) | exact cell_alloc_l _ (cell_alloc_l _ (by assumption)) | simp [go_sem])
        have t5_0_1 := keep_cell (b := w.heap.size) (o := 1) (v := .int .i64 h) hb (by first | omega | (simp; done) | (simp; omega)) (by first | assumption | exact cell_alloc_l _ (by assumption) | exact cell_alloc_l _ (cell_alloc_l _ (by assumption)) | simp [go_sem])
        have t5_0_2 := keep_cell (b := w.heap.size) (o := 2) (v := .int .i64 p) hb (by first | omega | (simp; done) | (simp; omega)) (by first | assumption | exact cell_alloc_l _ (by assumption) | exact cell_alloc_l _ (cell_alloc_l _ (by assumption)) | simp [go_sem])
        have t5_l1 := keep_lt (b := w4.heap.size) hb (by first | omega | (simp; done) | (simp; omega))
        have t5_1_0 := keep_cell (b := w4.heap.size) (o := 0) (v := .bool (decide (720 ≤ (n : Int)))) hb (by first | omega | (simp; done) | (simp; omega)) (by first | assumption | exact cell_alloc_l _ (by assumption) | exact cell_alloc_l _ (cell_alloc_l _ (by assumption)) | simp [go_sem])
        have t5_1_1 := keep_cell (b := w4.heap.size) (o := 1) (v := .int .i64 ((n : Int) / 60 % 12)) hb (by first | omega | (simp; done) | (simp; omega)) (by first | assumption | exact cell_alloc_l _ (by assumption) | exact cell_alloc_l _ (cell_alloc_l _ (by assumption)) | simp [go_sem])
        have t5_1_2 := keep_cell (b := w4.heap.size) (o := 2) (v := .int .i64 ((n : Int) % 60)) hb (by first | omega | (simp; done) | (simp; omega)) (by first | assumption | exact cell_alloc_l _ (by assumption) | exact cell_alloc_l _ (cell_alloc_l _ (by assumption)) | simp [go_sem])
        clear t4_0_0 t4_0_1 t4_0_2 t4_l0
        clear hb
        rw [HE.out]
        go_wp2_with fail
        refine (Parse_back b h p _ (HT.out.to (HB5.out.alloc (by first | (simp; done) | (have := HB5.out.size; simp; omega) | (have := HB5.out.size; omega)) _)) HV.out).mono ?_
        rintro e w6 ⟨rfl, hb⟩
        have HB6 := Lib.hid (bjoin (w := w) (HB5.out.alloc (by first | (simp; done) | (have := HB5.out.size; simp; omega) | (have := HB5.out.size; omega)) _) hb)
        have t6_l0 := keep_lt (b := w.heap.size) hb (by first | omega | (simp; done) | (simp; omega))
        have t6_0_0 := keep_cell (b := w.heap.size) (o := 0) (v := .bool b) hb (by first | omega | (simp; done) | (simp; omega)) (by first | assumption | exact cell_alloc_l _ (by assumption) | exact cell_alloc_l _ (cell_alloc_l _ (by assumption)) | simp [go_sem])
        have t6_0_1 := keep_cell (b := w.heap.size) (o := 1) (v := .int .i64 h) hb (by first | omega | (simp; done) | (simp; omega)) (by first | assumption | exact cell_alloc_l _ (by assumption) | exact cell_alloc_l _ (cell_alloc_l _ (by assumption)) | simp [go_sem])
        have t6_0_2 := keep_cell (b := w.heap.size) (o := 2) (v := .int .i64 p) hb (by first | omega | (simp; done) | (simp; omega)) (by first | assumption | exact cell_alloc_l _ (by assumption) | exact cell_alloc_l _ (cell_alloc_l _ (by assumption)) | simp [go_sem])
        have t6_l1 := keep_lt (b := w4.heap.size) hb (by first | omega | (simp; done) | (simp; omega))
        have t6_1_0 := keep_cell (b := w4.heap.size) (o := 0) (v := .bool (decide (720 ≤ (n : Int)))) hb (by first | omega | (simp; done) | (simp; omega)) (by first | assumption | exact cell_alloc_l _ (by assumption) | exact cell_alloc_l _ (cell_alloc_l _ (by assumption)) | simp [go_sem])
        have t6_1_1 := keep_cell (b := w4.heap.size) (o := 1) (v := .int .i64 ((n : Int) / 60 % 12)) hb (by first | omega | (simp; done) | (simp; omega)) (by first | assumption | exact cell_alloc_l _ (by assumption) | exact cell_alloc_l _ (cell_alloc_l _ (by assumption)) | simp [go_sem])
        have t6_1_2 := keep_cell (b := w4.heap.size) (o := 2) (v := .int .i64 ((n : Int) % 60)) hb (by first | omega | (simp; done) | (simp; omega)) (by first | assumption | exact cell_alloc_l _ (by assumption) | exact cell_alloc_l _ (cell_alloc_l _ (by assumption)) | simp [go_sem])
        have t6_l2 := keep_lt (b := w5.heap.size) hb (by first | omega | (simp; done) | (simp; omega))
        have t6_2_0 := keep_cell (b := w5.heap.size) (o := 0) (v := .bool (decide (720 ≤ (n : Int)))) hb (by first | omega | (simp; done) | (simp; omega)) (by first | assumption | exact cell_alloc_l _ (by assumption) | exact cell_alloc_l _ (cell_alloc_l _ (by assumption)) | simp [go_sem])
        have t6_2_1 := keep_cell (b := w5.heap.size) (o := 1) (v := .int .i64 ((n : Int) / 60 % 12)) hb (by first | omega | (simp; done) | (simp; omega)) (by first | assumption | exact cell_alloc_l _ (by assumption) | exact cell_alloc_l _ (cell_alloc_l _ (by assumption)) | simp [go_sem])
        have t6_2_2 := keep_cell (b := w5.heap.size) (o := 2) (v := .int .i64 ((n : Int) % 60)) hb (by first | omega | (simp; done) | (simp; omega)) (by first | assumption | exact cell_alloc_l _ (by assumption) | exact cell_alloc_l _ (cell_alloc_l _ (by assumption)) | simp [go_sem])
        clear t5_0_0 t5_0_1 t5_0_2 t5_l0 t5_1_0 t5_1_1 t5_1_2 t5_l1
        clear hb
        go_wp2_with fail
        refine (Print_hour n s _ HSN.out).mono ?_
        rintro e w7 ⟨rfl, hb⟩
        have HB7 := Lib.hid (bjoin (w := w) (HB6.out.alloc (by first | (simp; done) | (have := HB6.out.size; simp; omega) | (have := HB6.out.size; omega)) _) hb)
        have t7_l0 := keep_lt (b := w.heap.size) hb (by first | omega | (simp; done) | (simp; omega))
        have t7_0_0 := keep_cell (b := w.heap.size) (o := 0) (v := .bool b) hb (by first | omega | (simp; done) | (simp; omega)) (by first | assumption | exact cell_alloc_l _ (by assumption) | exact cell_alloc_l _ (cell_alloc_l _ (by assumption)) | simp [go_sem])
        have t7_0_1 := keep_cell (b := w.heap.size) (o := 1) (v := .int .i64 h) hb (by first | omega | (simp; done) | (simp; omega)) (by first | assumption | exact cell_alloc_l _ (by assumption) | exact cell_alloc_l _ (cell_alloc_l _ (by assumption)) | simp [go_sem])
        have t7_0_2 := keep_cell (b := w.heap.size) (o := 2) (v := .int .i64 p) hb (by first | omega | (simp; done) | (simp; omega)) (by first | assumption | exact cell_alloc_l _ (by assumption) | exact cell_alloc_l _ (cell_alloc_l _ (by assumption)) | simp [go_sem])
        have t7_l1 := keep_lt (b := w4.heap.size) hb (by first | omega | (simp; done) | (simp; omega))
        have t7_1_0 := keep_cell (b := w4.heap.size) (o := 0) (v := .bool (decide (720 ≤ (n : Int)))) hb (by first | omega | (simp; done) | (simp; omega)) (by first | assumption | exact cell_alloc_l _ (by assumption) | exact cell_alloc_l _ (cell_alloc_l _ (by assumption)) | simp [go_sem])
        have t7_1_1 := keep_cell (b := w4.heap.size) (o := 1) (v := .int .i64 ((n : Int) / 60 % 12)) hb (by first | omega | (simp; done) | (simp; omega)) (by first | assumption | exact cell_alloc_l _ (by assumption) | exact cell_alloc_l _ (cell_alloc_l _ (by assumption)) | simp [go_sem])
        have t7_1_2 := keep_cell (b := w4.heap.size) (o := 2) (v := .int .i64 ((n : Int) % 60)) hb (by first | omega | (simp; done) | (simp; omega)) (by first | assumption | exact cell_alloc_l _ (by assumption) | exact cell_alloc_l _ (cell_alloc_l _ (by assumption)) | simp [go_sem])
        have t7_l2 := keep_lt (b := w5.heap.size) hb (by first | omega | (simp; done) | (simp; omega))
        have t7_2_0 := keep_cell (b := w5.heap.size) (o := 0) (v := .bool (decide (720 ≤ (n : Int)))) hb (by first | omega | (simp; done) | (simp; omega)) (by first | assumption | exact cell_alloc_l _ (by assumption) | exact cell_alloc_l _ (cell_alloc_l _ (by assumption)) | simp [go_sem])
        have t7_2_1 := keep_cell (b := w5.heap.size) (o := 1) (v := .int .i64 ((n : Int) / 60 % 12)) hb (by first | omega | (simp; done) | (simp; omega)) (by first | assumption | exact cell_alloc_l _ (by assumption) | exact cell_alloc_l _ (cell_alloc_l _ (by assumption)) | simp [go_sem])
        have t7_2_2 := keep_cell (b := w5.heap.size) (o := 2) (v := .int .i64 ((n : Int) % 60)) hb (by first | omega | (simp; done) | (simp; omega)) (by first | assumption | exact cell_alloc_l _ (by assumption) | exact cell_alloc_l _ (cell_alloc_l _ (by assumption)) | simp [go_sem])
        have t7_l3 := keep_lt (b := w6.heap.size) hb (by first | omega | (simp; done) | (simp; omega))
        have t7_3_0 := keep_cell (b := w6.heap.size) (o := 0) (v := .bool b) hb (by first | omega | (simp; done) | (simp; omega)) (by first | assumption | exact cell_alloc_l _ (by assumption) | exact cell_alloc_l _ (cell_alloc_l _ (by assumption)) | simp [go_sem])
        have t7_3_1 := keep_cell (b := w6.heap.size) (o := 1) (v := .int .i64 h) hb (by first | omega | (simp; done) | (simp; omega)) (by first | assumption | exact cell_alloc_l _ (by assumption) | exact cell_alloc_l _ (cell_alloc_l _ (by assumption)) | simp [go_sem])
        have t7_3_2 := keep_cell (b := w6.heap.size) (o := 2) (v := .int .i64 p) hb (by first | omega | (simp; done) | (simp; omega)) (by first | assumption | exact cell_alloc_l _ (by assumption) | exact cell_alloc_l _ (cell_alloc_l _ (by assumption)) | simp [go_sem])
        clear t6_0_0 t6_0_1 t6_0_2 t6_l0 t6_1_0 t6_1_1 t6_1_2 t6_l1 t6_2_0 t6_2_1 t6_2_2 t6_l2
        clear hb
        go_wp2_with fail
        go_ret
        exact ⟨rfl, HB7.out⟩
      · have HE := Lib.hid (show prE h p = 1 by unfold prE; rw [if_neg (by rw [hv]; decide)])
        clear hv
        go_enter Tryd.func7, Tryd.ntmps7
        go_wp2_with fail
        refine (sane_any _).mono ?_
        rintro e w1 ⟨rfl, hb⟩
        have HB1 := Lib.hid (bjoin (w := w) ((Below.refl w.heap.size w).alloc (by first | (simp; done) | (have := (Below.refl w.heap.size w).size; simp; omega) | (have := (Below.refl w.heap.size w).size; omega)) _) hb)
        have t1_l0 := keep_lt (b := w.heap.size) hb (by first | omega | (simp; done) | (simp; omega))
        have t1_0_0 := keep_cell (b := w.heap.size) (o := 0) (v := .bool b) hb (by first | omega | (simp; done) | (simp; omega)) (by first | assumption | exact cell_alloc_l _ (by assumption) | exact cell_alloc_l _ (cell_alloc_l _ (by assumption)) | simp [go_sem])
        have t1_0_1 := keep_cell (b := w.heap.size) (o := 1) (v := .int .i64 h) hb (by first | omega | (simp; done) | (simp; omega)) (by first | assumption | exact cell_alloc_l _ (by assumption) | exact cell_alloc_l _ (cell_alloc_l _ (by assumption)) | simp [go_sem])
        have t1_0_2 := keep_cell (b := w.heap.size) (o := 2) (v := .int .i64 p) hb (by first | omega | (simp; done) | (simp; omega)) (by first | assumption | exact cell_alloc_l _ (by assumption) | exact cell_alloc_l _ (cell_alloc_l _ (by assumption)) | simp [go_sem])
        clear hb
        go_wp2_with fail
        refine (Print_any b h p _).mono ?_
        rintro e w2 ⟨rfl, hb⟩
        have HB2 := Lib.hid (bjoin (w := w) HB1.out hb)
        have t2_l0 := keep_lt (b := w.heap.size) hb (by first | omega | (simp; done) | (simp; omega))
        have t2_0_0 := keep_cell (b := w.heap.size) (o := 0) (v := .bool b) hb (by first | omega | (simp; done) | (simp; omega)) (by first | assumption | exact cell_alloc_l _ (by assumption) | exact cell_alloc_l _ (cell_alloc_l _ (by assumption)) | simp [go_sem])
        have t2_0_1 := keep_cell (b := w.heap.size) (o := 1) (v := .int .i64 h) hb (by first | omega | (simp; done) | (simp; omega)) (by first | assumption | exact cell_alloc_l _ (by assumption) | exact cell_alloc_l _ (cell_alloc_l _ (by assumption)) | simp [go_sem])
        have t2_0_2 := keep_cell (b := w.heap.size) (o := 2) (v := .int .i64 p) hb (by first | omega | (simp; done) | (simp; omega)) (by first | assumption | exact cell_alloc_l _ (by assumption) | exact cell_alloc_l _ (cell_alloc_l _ (by assumption)) | simp [go_sem])
        clear t1_0_0 t1_0_1 t1_0_2 t1_l0
        clear hb
        go_wp2_with fail
        refine (rPrint_any b h p _).mono ?_
        rintro e w3 ⟨rfl, hb⟩
        have HB3 := Lib.hid (bjoin (w := w) HB2.out hb)
        have t3_l0 := keep_lt (b := w.heap.size) hb (by first | omega | (simp; done) | (simp; omega))
        have t3_0_0 := keep_cell (b := w.heap.size) (o := 0) (v := .bool b) hb (by first | omega | (simp; done) | (simp; omega)) (by first | assumption | exact cell_alloc_l _ (by assumption) | exact cell_alloc_l _ (cell_alloc_l _ (by assumption)) | simp [go_sem])
        have t3_0_1 := keep_cell (b := w.heap.size) (o := 1) (v := .int .i64 h) hb (by first | omega | (simp; done) | (simp; omega)) (by first | assumption | exact cell_alloc_l _ (by assumption) | exact cell_alloc_l _ (cell_alloc_l _ (by assumption)) | simp [go_sem])
        have t3_0_2 := keep_cell (b := w.heap.size) (o := 2) (v := .int .i64 p) hb (by first | omega | (simp; done) | (simp; omega)) (by first | assumption | exact cell_alloc_l _ (by assumption) | exact cell_alloc_l _ (cell_alloc_l _ (by assumption)) | simp [go_sem])
        clear t2_0_0 t2_0_1 t2_0_2 t2_l0
        clear hb
        go_wp2_with fail
        refine (Parse_yes n s _ (HT.out.to HB3.out) hle hn HSN.out).mono ?_
        rintro e w4 ⟨rfl, hb⟩
        have HB4 := Lib.hid (bjoin (w := w) HB3.out hb)
        have t4_l0 := keep_lt (b := w.heap.size) hb (by first | omega | (simp; done) | (simp; omega))
        have t4_0_0 := keep_cell (b := w.heap.size) (o := 0) (v := .bool b) hb (by first | omega | (simp; done) | (simp; omega)) (by first | assumption | exact cell_alloc_l _ (by assumption) | exact cell_alloc_l _ (cell_alloc_l _ (by assumption)) | simp [go_sem])
        have t4_0_1 := keep_cell (b := w.heap.size) (o := 1) (v := .int .i64 h) hb (by first | omega | (simp; done) | (simp; omega)) (by first | assumption | exact cell_alloc_l _ (by assumption) | exact cell_alloc_l _ (cell_alloc_l _ (by assumption)) | simp [go_sem])
        have t4_0_2 := keep_cell (b := w.heap.size) (o := 2) (v := .int .i64 p) hb (by first | omega | (simp; done) | (simp; omega)) (by first | assumption | exact cell_alloc_l _ (by assumption) | exact cell_alloc_l _ (cell_alloc_l _ (by assumption)) | simp [go_sem])
        clear t3_0_0 t3_0_1 t3_0_2 t3_l0
        clear hb
        go_wp2_with fail
        refine (rParse_yes n s _ hn HSN.out).mono ?_
        rintro e w5 ⟨rfl, hb⟩
        have HB5 := Lib.hid (bjoin (w := w) (HB4.out.alloc (by first | (simp; done) | (have := HB4.out.size; simp; omega) | (have := HB4.out.size; omega)) _) hb)
        have t5_l0 := keep_lt (b := w.heap.size) hb (by first | omega | (simp; done) | (simp; omega))
        have t5_0_0 := keep_cell (b := w.heap.size) (o := 0) (v := .bool b) hb (by first | omega | (simp; done) | (simp; omega)) (by first | assumption | exact cell_alloc_l _ (by assumption) | exact cell_alloc_l _ (cell_alloc_l _ (by assumption)) | simp [go_sem])
        have t5_0_1 := keep_cell (b := w.heap.size) (o := 1) (v := .int .i64 h) hb (by first | omega | (simp; done) | (simp; omega)) (by first | assumption | exact cell_alloc_l _ (by assumption) | exact cell_alloc_l _ (cell_alloc_l _ (by assumption)) | simp [go_sem])
        have t5_0_2 := keep_cell (b := w.heap.size) (o := 2) (v := .int .i64 p) hb (by first | omega | (simp; done) | (simp; omega)) (by first | assumption | exact cell_alloc_l _ (by assumption) | exact cell_alloc_l _ (cell_alloc_l _ (by assumption)) | simp [go_sem])
        have t5_l1 := keep_lt (b := w4.heap.size) hb (by first | omega | (simp; done) | (simp; omega))
        have t5_1_0 := keep_cell (b := w4.heap.size) (o := 0) (v := .bool (decide (720 ≤ (n : Int)))) hb (by first | omega | (simp; done) | (simp; omega)) (by first | assumption | exact cell_alloc_l _ (by assumption) | exact cell_alloc_l _ (cell_alloc_l _ (by assumption)) | simp [go_sem])
        have t5_1_1 := keep_cell (b := w4.heap.size) (o := 1) (v := .int .i64 ((n : Int) / 60 % 12)) hb (by first | omega | (simp; done) | (simp; omega)) (by first | assumption | exact cell_alloc_l _ (by assumption) | exact cell_alloc_l _ (cell_alloc_l _ (by assumption)) | simp [go_sem])
        have t5_1_2 := keep_cell (b := w4.heap.size) (o := 2) (v := .int .i64 ((n : Int) % 60)) hb (by first | omega | (simp; done) | (simp; omega)) (by first | assumption | exact cell_alloc_l _ (by assumption) | exact cell_alloc_l _ (cell_alloc_l _ (by assumption)) | simp [go_sem])
        clear t4_0_0 t4_0_1 t4_0_2 t4_l0
        clear hb
        rw [HE.out]
        go_wp2_with fail
        refine (Print_hour n s _ HSN.out).mono ?_
        rintro e w6 ⟨rfl, hb⟩
        have HB6 := Lib.hid (bjoin (w := w) (HB5.out.alloc (by first | (simp; done) | (have := HB5.out.size; simp; omega) | (have := HB5.out.size; omega)) _) hb)
        have t6_l0 := keep_lt (b := w.heap.size) hb (by first | omega | (simp; done) | (simp; omega))
        have t6_0_0 := keep_cell (b := w.heap.size) (o := 0) (v := .bool b) hb (by first | omega | (simp; done) | (simp; omega)) (by first | assumption | exact cell_alloc_l _ (by assumption) | exact cell_alloc_l _ (cell_alloc_l _ (by assumption)) | simp [go_sem])
        have t6_0_1 := keep_cell (b := w.heap.size) (o := 1) (v := .int .i64 h) hb (by first | omega | (simp; done) | (simp; omega)) (by first | assumption | exact cell_alloc_l _ (by assumption) | exact cell_alloc_l _ (cell_alloc_l _ (by assumption)) | simp [go_sem])
        have t6_0_2 := keep_cell (b := w.heap.size) (o := 2) (v := .int .i64 p) hb (by first | omega | (simp; done) | (simp; omega)) (by first | assumption | exact cell_alloc_l _ (by assumption) | exact cell_alloc_l _ (cell_alloc_l _ (by assumption)) | simp [go_sem])
        have t6_l1 := keep_lt (b := w4.heap.size) hb (by first | omega | (simp; done) | (simp; omega))
        have t6_1_0 := keep_cell (b := w4.heap.size) (o := 0) (v := .bool (decide (720 ≤ (n : Int)))) hb (by first | omega | (simp; done) | (simp; omega)) (by first | assumption | exact cell_alloc_l _ (by assumption) | exact cell_alloc_l _ (cell_alloc_l _ (by assumption)) | simp [go_sem])
        have t6_1_1 := keep_cell (b := w4.heap.size) (o := 1) (v := .int .i64 ((n : Int) / 60 % 12)) hb (by first | omega | (simp; done) | (simp; omega)) (by first | assumption | exact cell_alloc_l _ (by assumption) | exact cell_alloc_l _ (cell_alloc_l _ (by assumption)) | simp [go_sem])
        have t6_1_2 := keep_cell (b := w4.heap.size) (o := 2) (v := .int .i64 ((n : Int) % 60)) hb (by first | omega | (simp; done) | (simp; omega)) (by first | assumption | exact cell_alloc_l _ (by assumption) | exact cell_alloc_l _ (cell_alloc_l _ (by assumption)) | simp [go_sem])
        have t6_l2 := keep_lt (b := w5.heap.size) hb (by first | omega | (simp; done) | (simp; omega))
        have t6_2_0 := keep_cell (b := w5.heap.size) (o := 0) (v := .bool (decide (720 ≤ (n : Int)))) hb (by first | omega | (simp; done) | (simp; omega)) (by first | assumption | exact cell_alloc_l _ (by assumption) | exact cell_alloc_l _ (cell_alloc_l _ (by assumption)) | simp [go_sem])
        have t6_2_1 := keep_cell (b := w5.heap.size) (o := 1) (v := .int .i64 ((n : Int) / 60 % 12)) hb (by first | omega | (simp; done) | (simp; omega)) (by first | assumption | exact cell_alloc_l _ (by assumption) | exact cell_alloc_l _ (cell_alloc_l _ (by assumption)) | simp [go_sem])
        have t6_2_2 := keep_cell (b := w5.heap.size) (o := 2) (v := .int .i64 ((n : Int) % 60)) hb (by first | omega | (simp; done) | (simp; omega)) (by first | assumption | exact cell_alloc_l _ (by assumption) | exact cell_alloc_l _ (cell_alloc_l _ (by assumption)) | simp [go_sem])
        clear t5_0_0 t5_0_1 t5_0_2 t5_l0 t5_1_0 t5_1_1 t5_1_2 t5_l1
        clear hb
        go_wp2_with fail
        go_ret
        exact ⟨rfl, HB6.out⟩
    · have HNO := Lib.hid (show ∀ n < 1440, hT n ≠ s from fun n hn e => hyes ⟨n, hn, e⟩)
      clear hyes
      rcases Bool.eq_false_or_eq_true (hrOk h p) with hv | hv
      · have HV := Lib.hid hv
        have HE := Lib.hid (show prE h p = 0 by unfold prE; rw [if_pos hv])
        clear hv
        go_enter Tryd.func7, Tryd.ntmps7
        go_wp2_with fail
        refine (sane_any _).mono ?_
        rintro e w1 ⟨rfl, hb⟩
        have HB1 := Lib.hid (bjoin (w := w) ((Below.refl w.heap.size w).alloc (by first | (simp; done) | (have := (Below.refl w.heap.size w).size; simp; omega) | (have := (Below.refl w.heap.size w).size; omega)) _) hb)
        have t1_l0 := keep_lt (b := w.heap.size) hb (by first | omega | (simp; done) | (simp; omega))
        have t1_0_0 := keep_cell (b := w.heap.size) (o := 0) (v := .bool b) hb (by first | omega | (simp; done) | (simp; omega)) (by first | assumption | exact cell_alloc_l _ (by assumption) | exact cell_alloc_l _ (cell_alloc_l _ (by assumption)) | simp [go_sem])
        have t1_0_1 := keep_cell (b := w.heap.size) (o := 1) (v := .int .i64 h) hb (by first | omega | (simp; done) | (simp; omega)) (by first | assumption | exact cell_alloc_l _ (by assumption) | exact cell_alloc_l _ (cell_alloc_l _ (by assumption)) | simp [go_sem])
        have t1_0_2 := keep_cell (b := w.heap.size) (o := 2) (v := .int .i64 p) hb (by first | omega | (simp; done) | (simp; omega)) (by first | assumption | exact cell_alloc_l _ (by assumption) | exact cell_alloc_l _ (cell_alloc_l _ (by assumption)) | simp [go_sem])
        clear hb
        go_wp2_with fail
        refine (Print_any b h p _).mono ?_
        rintro e w2 ⟨rfl, hb⟩
        have HB2 := Lib.hid (bjoin (w := w) HB1.out hb)
        have t2_l0 := keep_lt (b := w.heap.size) hb (by first | omega | (simp; done) | (simp; omega))
        have t2_0_0 := keep_cell (b := w.heap.size) (o := 0) (v := .bool b) hb (by first | omega | (simp; done) | (simp; omega)) (by first | assumption | exact cell_alloc_l _ (by assumption) | exact cell_alloc_l _ (cell_alloc_l _ (by assumption)) | simp [go_sem])
        have t2_0_1 := keep_cell (b := w.heap.size) (o := 1) (v := .int .i64 h) hb (by first | omega | (simp; done) | (simp; omega)) (by first | assumption | exact cell_alloc_l _ (by assumption) | exact cell_alloc_l _ (cell_alloc_l _ (by assumption)) | simp [go_sem])
        have t2_0_2 := keep_cell (b := w.heap.size) (o := 2) (v := .int .i64 p) hb (by first | omega | (simp; done) | (simp; omega)) (by first | assumption | exact cell_alloc_l _ (by assumption) | exact cell_alloc_l _ (cell_alloc_l _ (by assumption)) | simp [go_sem])
        clear t1_0_0 t1_0_1 t1_0_2 t1_l0
        clear hb
        go_wp2_with fail
        refine (rPrint_any b h p _).mono ?_
        rintro e w3 ⟨rfl, hb⟩
        have HB3 := Lib.hid (bjoin (w := w) HB2.out hb)
        have t3_l0 := keep_lt (b := w.heap.size) hb (by first | omega | (simp; done) | (simp; omega))
        have t3_0_0 := keep_cell (b := w.heap.size) (o := 0) (v := .bool b) hb (by first | omega | (simp; done) | (simp; omega)) (by first | assumption | exact cell_alloc_l _ (by assumption) | exact cell_alloc_l _ (cell_alloc_l _ (by assumption)) | simp [go_sem])
        have t3_0_1 := keep_cell (b := w.heap.size) (o := 1) (v := .int .i64 h) hb (by first | omega | (simp; done) | (simp; omega)) (by first | assumption | exact cell_alloc_l _ (by assumption) | exact cell_alloc_l _ (cell_alloc_l _ (by assumption)) | simp [go_sem])
        have t3_0_2 := keep_cell (b := w.heap.size) (o := 2) (v := .int .i64 p) hb (by first | omega | (simp; done) | (simp; omega)) (by first | assumption | exact cell_alloc_l _ (by assumption) | exact cell_alloc_l _ (cell_alloc_l _ (by assumption)) | simp [go_sem])
        clear t2_0_0 t2_0_1 t2_0_2 t2_l0
        clear hb
        go_wp2_with fail
        refine (Parse_no s _ (HT.out.to HB3.out) hle HNO.out).mono ?_
        rintro e w4 ⟨rfl, hb⟩
        have HB4 := Lib.hid (bjoin (w := w) HB3.out hb)
        have t4_l0 := keep_lt (b := w.heap.size) hb (by first | omega | (simp; done) | (simp; omega))
        have t4_0_0 := keep_cell (b := w.heap.size) (o := 0) (v := .bool b) hb (by first | omega | (simp; done) | (simp; omega)) (by first | assumption | exact cell_alloc_l _ (by assumption) | exact cell_alloc_l _ (cell_alloc_l _ (by assumption)) | simp [go_sem])
        have t4_0_1 := keep_cell (b := w.heap.size) (o := 1) (v := .int .i64 h) hb (by first | omega | (simp; done) | (simp; omega)) (by first | assumption | exact cell_alloc_l _ (by assumption) | exact cell_alloc_l _ (cell_alloc_l _ (by assumption)) | simp [go_sem])
        have t4_0_2 := keep_cell (b := w.heap.size) (o := 2) (v := .int .i64 p) hb (by first | omega | (simp; done) | (simp; omega)) (by first | assumption | exact cell_alloc_l _ (by assumption) | exact cell_alloc_l _ (cell_alloc_l _ (by assumption)) | simp [go_sem])
        clear t3_0_0 t3_0_1 t3_0_2 t3_l0
        clear hb
        go_wp2_with fail
        refine (rParse_no s _ HNO.out).mono ?_
        rintro e w5 ⟨rfl, hb⟩
        have HB5 := Lib.hid (bjoin (w := w) (HB4.out.alloc (by first | (simp; done) | (have := HB4.out.size; simp; omega) | (have := HB4.out.size; omega)) _) hb)
        have t5_l0 := keep_lt (b := w.heap.size) hb (by first | omega | (simp; done) | (simp; omega))
        have t5_0_0 := keep_cell (b := w.heap.size) (o := 0) (v := .bool b) hb (by first | omega | (simp; done) | (simp; omega)) (by first | assumption | exact cell_alloc_l _ (by assumption) | exact cell_alloc_l _ (cell_alloc_l _ (by assumption)) | simp [go_sem])
        have t5_0_1 := keep_cell (b := w.heap.size) (o := 1) (v := .int .i64 h) hb (by first | omega | (simp; done) | (simp; omega)) (by first | assumption | exact cell_alloc_l _ (by assumption) | exact cell_alloc_l _ (cell_alloc_l _ (by assumption)) | simp [go_sem])
        have t5_0_2 := keep_cell (b := w.heap.size) (o := 2) (v := .int .i64 p) hb (by first | omega | (simp; done) | (simp; omega)) (by first | assumption | exact cell_alloc_l _ (by assumption) | exact cell_alloc_l _ (cell_alloc_l _ (by assumption)) | simp [go_sem])
        have t5_l1 := keep_lt (b := w4.heap.size) hb (by first | omega | (simp; done) | (simp; omega))
        have t5_1_0 := keep_cell (b := w4.heap.size) (o := 0) (v := .bool false) hb (by first | omega | (simp; done) | (simp; omega)) (by first | assumption | exact cell_alloc_l _ (by assumption) | exact cell_alloc_l _ (cell_alloc_l _ (by assumption)) | simp [go_sem])
        have t5_1_1 := keep_cell (b := w4.heap.size) (o := 1) (v := .int .i64 0) hb (by first | omega | (simp; done) | (simp; omega)) (by first | assumption | exact cell_alloc_l _ (by assumption) | exact cell_alloc_l _ (cell_alloc_l _ (by assumption)) | simp [go_sem])
        have t5_1_2 := keep_cell (b := w4.heap.size) (o := 2) (v := .int .i64 0) hb (by first | omega | (simp; done) | (simp; omega)) (by first | assumption | exact cell_alloc_l _ (by assumption) | exact cell_alloc_l _ (cell_alloc_l _ (by assumption)) | simp [go_sem])
        clear t4_0_0 t4_0_1 t4_0_2 t4_l0
        clear hb
        rw [HE.out]
        go_wp2_with fail
        refine (Parse_back b h p _ (HT.out.to (HB5.out.alloc (by first | (simp; done) | (have := HB5.out.size; simp; omega) | (have := HB5.out.size; omega)) _)) HV.out).mono ?_
        rintro e w6 ⟨rfl, hb⟩
        have HB6 := Lib.hid (bjoin (w := w) (HB5.out.alloc (by first | (simp; done) | (have := HB5.out.size; simp; omega) | (have := HB5.out.size; omega)) _) hb)
        have t6_l0 := keep_lt (b := w.heap.size) hb (by first | omega | (simp; done) | (simp; omega))
        have t6_0_0 := keep_cell (b := w.heap.size) (o := 0) (v := .bool b) hb (by first | omega | (simp; done) | (simp; omega)) (by first | assumption | exact cell_alloc_l _ (by assumption) | exact cell_alloc_l _ (cell_alloc_l _ (by assumption)) | simp [go_sem])
        have t6_0_1 := keep_cell (b := w.heap.size) (o := 1) (v := .int .i64 h) hb (by first | omega | (simp; done) | (simp; omega)) (by first | assumption | exact cell_alloc_l _ (by assumption) | exact cell_alloc_l _ (cell_alloc_l _ (by assumption)) | simp [go_sem])
        have t6_0_2 := keep_cell (b := w.heap.size) (o := 2) (v := .int .i64 p) hb (by first | omega | (simp; done) | (simp; omega)) (by first | assumption | exact cell_alloc_l _ (by assumption) | exact cell_alloc_l _ (cell_alloc_l _ (by assumption)) | simp [go_sem])
        have t6_l1 := keep_lt (b := w4.heap.size) hb (by first | omega | (simp; done) | (simp; omega))
        have t6_1_0 := keep_cell (b := w4.heap.size) (o := 0) (v := .bool false) hb (by first | omega | (simp; done) | (simp; omega)) (by first | assumption | exact cell_alloc_l _ (by assumption) | exact cell_alloc_l _ (cell_alloc_l _ (by assumption)) | simp [go_sem])
        have t6_1_1 := keep_cell (b := w4.heap.size) (o := 1) (v := .int .i64 0) hb (by first | omega | (simp; done) | (simp; omega)) (by first | assumption | exact cell_alloc_l _ (by assumption) | exact cell_alloc_l _ (cell_alloc_l _ (by assumption)) | simp [go_sem])
        have t6_1_2 := keep_cell (b := w4.heap.size) (o := 2) (v := .int .i64 0) hb (by first | omega | (simp; done) | (simp; omega)) (by first | assumption | exact cell_alloc_l _ (by assumption) | exact cell_alloc_l _ (cell_alloc_l _ (by assumption)) | simp [go_sem])
        have t6_l2 := keep_lt (b := w5.heap.size) hb (by first | omega | (simp; done) | (simp; omega))
        have t6_2_0 := keep_cell (b := w5.heap.size) (o := 0) (v := .bool false) hb (by first | omega | (simp; done) | (simp; omega)) (by first | assumption | exact cell_alloc_l _ (by assumption) | exact cell_alloc_l _ (cell_alloc_l _ (by assumption)) | simp [go_sem])
        have t6_2_1 := keep_cell (b := w5.heap.size) (o := 1) (v := .int .i64 0) hb (by first | omega | (simp; done) | (simp; omega)) (by first | assumption | exact cell_alloc_l _ (by assumption) | exact cell_alloc_l _ (cell_alloc_l _ (by assumption)) | simp [go_sem])
        have t6_2_2 := keep_cell (b := w5.heap.size) (o := 2) (v := .int .i64 0) hb (by first | omega | (simp; done) | (simp; omega)) (by first | assumption | exact cell_alloc_l _ (by assumption) | exact cell_alloc_l _ (cell_alloc_l _ (by assumption)) | simp [go_sem])
        clear t5_0_0 t5_0_1 t5_0_2 t5_l0 t5_1_0 t5_1_1 t5_1_2 t5_l1
        clear hb
        go_wp2_with fail
        refine (Print_any false 0 0 _).mono ?_
        rintro e w7 ⟨rfl, hb⟩
        have HB7 := Lib.hid (bjoin (w := w) (HB6.out.alloc (by first | (simp; done) | (have := HB6.out.size; simp; omega) | (have := HB6.out.size; omega)) _) hb)
        have t7_l0 := keep_lt (b := w.heap.size) hb (by first | omega | (simp; done) | (simp; omega))
        have t7_0_0 := keep_cell (b := w.heap.size) (o := 0) (v := .bool b) hb (by first | omega | (simp; done) | (simp; omega)) (by first | assumption | exact cell_alloc_l _ (by assumption) | exact cell_alloc_l _ (cell_alloc_l _ (by assumption)) | simp [go_sem])
        have t7_0_1 := keep_cell (b := w.heap.size) (o := 1) (v := .int .i64 h) hb (by first | omega | (simp; done) | (simp; omega)) (by first | assumption | exact cell_alloc_l _ (by assumption) | exact cell_alloc_l _ (cell_alloc_l _ (by assumption)) | simp [go_sem])
        have t7_0_2 := keep_cell (b := w.heap.size) (o := 2) (v := .int .i64 p) hb (by first | omega | (simp; done) | (simp; omega)) (by first | assumption | exact cell_alloc_l _ (by assumption) | exact cell_alloc_l _ (cell_alloc_l _ (by assumption)) | simp [go_sem])
        have t7_l1 := keep_lt (b := w4.heap.size) hb (by first | omega | (simp; done) | (simp; omega))
        have t7_1_0 := keep_cell (b := w4.heap.size) (o := 0) (v := .bool false) hb (by first | omega | (simp; done) | (simp; omega)) (by first | assumption | exact cell_alloc_l _ (by assumption) | exact cell_alloc_l _ (cell_alloc_l _ (by assumption)) | simp [go_sem])
        have t7_1_1 := keep_cell (b := w4.heap.size) (o := 1) (v := .int .i64 0) hb (by first | omega | (simp; done) | (simp; omega)) (by first | assumption | exact cell_alloc_l _ (by assumption) | exact cell_alloc_l _ (cell_alloc_l _ (by assumption)) | simp [go_sem])
        have t7_1_2 := keep_cell (b := w4.heap.size) (o := 2) (v := .int .i64 0) hb (by first | omega | (simp; done) | (simp; omega)) (by first | assumption | exact cell_alloc_l _ (by assumption) | exact cell_alloc_l _ (cell_alloc_l _ (by assumption)) | simp [go_sem])
        have t7_l2 := keep_lt (b := w5.heap.size) hb (by first | omega | (simp; done) | (simp; omega))
        have t7_2_0 := keep_cell (b := w5.heap.size) (o := 0) (v := .bool false) hb (by first | omega | (simp; done) | (simp; omega)) (by first | assumption | exact cell_alloc_l _ (by assumption) | exact cell_alloc_l _ (cell_alloc_l _ (by assumption)) | simp [go_sem])
        have t7_2_1 := keep_cell (b := w5.heap.size) (o := 1) (v := .int .i64 0) hb (by first | omega | (simp; done) | (simp; omega)) (by first | assumption | exact cell_alloc_l _ (by assumption) | exact cell_alloc_l _ (cell_alloc_l _ (by assumption)) | simp [go_sem])
        have t7_2_2 := keep_cell (b := w5.heap.size) (o := 2) (v := .int .i64 0) hb (by first | omega | (simp; done) | (simp; omega)) (by first | assumption | exact cell_alloc_l _ (by assumption) | exact cell_alloc_l _ (cell_alloc_l _ (by assumption)) | simp [go_sem])
        have t7_l3 := keep_lt (b := w6.heap.size) hb (by first | omega | (simp; done) | (simp; omega))
        have t7_3_0 := keep_cell (b := w6.heap.size) (o := 0) (v := .bool b) hb (by first | omega | (simp; done) | (simp; omega)) (by first | assumption | exact cell_alloc_l _ (by assumption) | exact cell_alloc_l _ (cell_alloc_l _ (by assumption)) | simp [go_sem])
        have t7_3_1 := keep_cell (b := w6.heap.size) (o := 1) (v := .int .i64 h) hb (by first | omega | (simp; done) | (simp; omega)) (by first | assumption | exact cell_alloc_l _ (by assumption) | exact cell_alloc_l _ (cell_alloc_l _ (by assumption)) | simp [go_sem])
        have t7_3_2 := keep_cell (b := w6.heap.size) (o := 2) (v := .int .i64 p) hb (by first | omega | (simp; done) | (simp; omega)) (by first | assumption | exact cell_alloc_l _ (by assumption) | exact cell_alloc_l _ (cell_alloc_l _ (by assumption)) | simp [go_sem])
        clear t6_0_0 t6_0_1 t6_0_2 t6_l0 t6_1_0 t6_1_1 t6_1_2 t6_l1 t6_2_0 t6_2_1 t6_2_2 t6_l2
        clear hb
        go_wp2_with fail
        go_ret
        exact ⟨rfl, HB7.out⟩
      · have HE := Lib.hid (show prE h p = 1 by unfold prE; rw [if_neg (by rw [hv]; decide)])
        clear hv
        go_enter Tryd.func7, Tryd.ntmps7
        go_wp2_with fail
        refine (sane_any _).mono ?_
        rintro e w1 ⟨rfl, hb⟩
        have HB1 := Lib.hid (bjoin (w := w) ((Below.refl w.heap.size w).alloc (by first | (simp; done) | (have := (Below.refl w.heap.size w).size; simp; omega) | (have := (Below.refl w.heap.size w).size; omega)) _) hb)
        have t1_l0 := keep_lt (b := w.heap.size) hb (by first | omega | (simp; done) | (simp; omega))
        have t1_0_0 := keep_cell (b := w.heap.size) (o := 0) (v := .bool b) hb (by first | omega | (simp; done) | (simp; omega)) (by first | assumption | exact cell_alloc_l _ (by assumption) | exact cell_alloc_l _ (cell_alloc_l _ (by assumption)) | simp [go_sem])
        have t1_0_1 := keep_cell (b := w.heap.size) (o := 1) (v := .int .i64 h) hb (by first | omega | (simp; done) | (simp; omega)) (by first | assumption | exact cell_alloc_l _ (by assumption) | exact cell_alloc_l _ (cell_alloc_l _ (by assumption)) | simp [go_sem])
        have t1_0_2 := keep_cell (b := w.heap.size) (o := 2) (v := .int .i64 p) hb (by first | omega | (simp; done) | (simp; omega)) (by first | assumption | exact cell_alloc_l _ (by assumption) | exact cell_alloc_l _ (cell_alloc_l _ (by assumption)) | simp [go_sem])
        clear hb
        go_wp2_with fail
        refine (Print_any b h p _).mono ?_
        rintro e w2 ⟨rfl, hb⟩
        have HB2 := Lib.hid (bjoin (w := w) HB1.out hb)
        have t2_l0 := keep_lt (b := w.heap.size) hb (by first | omega | (simp; done) | (simp; omega))
        have t2_0_0 := keep_cell (b := w.heap.size) (o := 0) (v := .bool b) hb (by first | omega | (simp; done) | (simp; omega)) (by first | assumption | exact cell_alloc_l _ (by assumption) | exact cell_alloc_l _ (cell_alloc_l _ (by assumption)) | simp [go_sem])
        have t2_0_1 := keep_cell (b := w.heap.size) (o := 1) (v := .int .i64 h) hb (by first | omega | (simp; done) | (simp; omega)) (by first | assumption | exact cell_alloc_l _ (by assumption) | exact cell_alloc_l _ (cell_alloc_l _ (by assumption)) | simp [go_sem])
        have t2_0_2 := keep_cell (b := w.heap.size) (o := 2) (v := .int .i64 p) hb (by first | omega | (simp; done) | (simp; omega)) (by first | assumption | exact cell_alloc_l _ (by assumption) | exact cell_alloc_l _ (cell_alloc_l _ (by assumption)) | simp [go_sem])
        clear t1_0_0 t1_0_1 t1_0_2 t1_l0
        clear hb
        go_wp2_with fail
        refine (rPrint_any b h p _).mono ?_
        rintro e w3 ⟨rfl, hb⟩
        have HB3 := Lib.hid (bjoin (w := w) HB2.out hb)
        have t3_l0 := keep_lt (b := w.heap.size) hb (by first | omega | (simp; done) | (simp; omega))
        have t3_0_0 := keep_cell (b := w.heap.size) (o := 0) (v := .bool b) hb (by first | omega | (simp; done) | (simp; omega)) (by first | assumption | exact cell_alloc_l _ (by assumption) | exact cell_alloc_l _ (cell_alloc_l _ (by assumption)) | simp [go_sem])
        have t3_0_1 := keep_cell (b := w.heap.size) (o := 1) (v := .int .i64 h) hb (by first | omega | (simp; done) | (simp; omega)) (by first | assumption | exact cell_alloc_l _ (by assumption) | exact cell_alloc_l _ (cell_alloc_l _ (by assumption)) | simp [go_sem])
        have t3_0_2 := keep_cell (b := w.heap.size) (o := 2) (v := .int .i64 p) hb (by first | omega | (simp; done) | (simp; omega)) (by first | assumption | exact cell_alloc_l _ (by assumption) | exact cell_alloc_l _ (cell_alloc_l _ (by assumption)) | simp [go_sem])
        clear t2_0_0 t2_0_1 t2_0_2 t2_l0
        clear hb
        go_wp2_with fail
        refine (Parse_no s _ (HT.out.to HB3.out) hle HNO.out).mono ?_
        rintro e w4 ⟨rfl, hb⟩
        have HB4 := Lib.hid (bjoin (w := w) HB3.out hb)
        have t4_l0 := keep_lt (b := w.heap.size) hb (by first | omega | (simp; done) | (simp; omega))
        have t4_0_0 := keep_cell (b := w.heap.size) (o := 0) (v := .bool b) hb (by first | omega | (simp; done) | (simp; omega)) (by first | assumption | exact cell_alloc_l _ (by assumption) | exact cell_alloc_l _ (cell_alloc_l _ (by assumption)) | simp [go_sem])
        have t4_0_1 := keep_cell (b := w.heap.size) (o := 1) (v := .int .i64 h) hb (by first | omega | (simp; done) | (simp; omega)) (by first | assumption | exact cell_alloc_l _ (by assumption) | exact cell_alloc_l _ (cell_alloc_l _ (by assumption)) | simp [go_sem])
        have t4_0_2 := keep_cell (b := w.heap.size) (o := 2) (v := .int .i64 p) hb (by first | omega | (simp; done) | (simp; omega)) (by first | assumption | exact cell_alloc_l _ (by assumption) | exact cell_alloc_l _ (cell_alloc_l _ (by assumption)) | simp [go_sem])
        clear t3_0_0 t3_0_1 t3_0_2 t3_l0
        clear hb
        go_wp2_with fail
        refine (rParse_no s _ HNO.out).mono ?_
        rintro e w5 ⟨rfl, hb⟩
        have HB5 := Lib.hid (bjoin (w := w) (HB4.out.alloc (by first | (simp; done) | (have := HB4.out.size; simp; omega) | (have := HB4.out.size; omega)) _) hb)
        have t5_l0 := keep_lt (b := w.heap.size) hb (by first | omega | (simp; done) | (simp; omega))
        have t5_0_0 := keep_cell (b := w.heap.size) (o := 0) (v := .bool b) hb (by first | omega | (simp; done) | (simp; omega)) (by first | assumption | exact cell_alloc_l _ (by assumption) | exact cell_alloc_l _ (cell_alloc_l _ (by assumption)) | simp [go_sem])
        have t5_0_1 := keep_cell (b := w.heap.size) (o := 1) (v := .int .i64 h) hb (by first | omega | (simp; done) | (simp; omega)) (by first | assumption | exact cell_alloc_l _ (by assumption) | exact cell_alloc_l _ (cell_alloc_l _ (by assumption)) | simp [go_sem])
        have t5_0_2 := keep_cell (b := w.heap.size) (o := 2) (v := .int .i64 p) hb (by first | omega | (simp; done) | (simp; omega)) (by first | assumption | exact cell_alloc_l _ (by assumption) | exact cell_alloc_l _ (cell_alloc_l _ (by assumption)) | simp [go_sem])
        have t5_l1 := keep_lt (b := w4.heap.size) hb (by first | omega | (simp; done) | (simp; omega))
        have t5_1_0 := keep_cell (b := w4.heap.size) (o := 0) (v := .bool false) hb (by first | omega | (simp; done) | (simp; omega)) (by first | assumption | exact cell_alloc_l _ (by assumption) | exact cell_alloc_l _ (cell_alloc_l _ (by assumption)) | simp [go_sem])
        have t5_1_1 := keep_cell (b := w4.heap.size) (o := 1) (v := .int .i64 0) hb (by first | omega | (simp; done) | (simp; omega)) (by first | assumption | exact cell_alloc_l _ (by assumption) | exact cell_alloc_l _ (cell_alloc_l _ (by assumption)) | simp [go_sem])
        have t5_1_2 := keep_cell (b := w4.heap.size) (o := 2) (v := .int .i64 0) hb (by first | omega | (simp; done) | (simp; omega)) (by first | assumption | exact cell_alloc_l _ (by assumption) | exact cell_alloc_l _ (cell_alloc_l _ (by assumption)) | simp [go_sem])
        clear t4_0_0 t4_0_1 t4_0_2 t4_l0
        clear hb
        rw [HE.out]
        go_wp2_with fail
        refine (Print_any false 0 0 _).mono ?_
        rintro e w6 ⟨rfl, hb⟩
        have HB6 := Lib.hid (bjoin (w := w) (HB5.out.alloc (by first | (simp; done) | (have := HB5.out.size; simp; omega) | (have := HB5.out.size; omega)) _) hb)
        have t6_l0 := keep_lt (b := w.heap.size) hb (by first | omega | (simp; done) | (simp; omega))
        have t6_0_0 := keep_cell (b := w.heap.size) (o := 0) (v := .bool b) hb (by first | omega | (simp; done) | (simp; omega)) (by first | assumption | exact cell_alloc_l _ (by assumption) | exact cell_alloc_l _ (cell_alloc_l _ (by assumption)) | simp [go_sem])
        have t6_0_1 := keep_cell (b := w.heap.size) (o := 1) (v := .int .i64 h) hb (by first | omega | (simp; done) | (simp; omega)) (by first | assumption | exact cell_alloc_l _ (by assumption) | exact cell_alloc_l _ (cell_alloc_l _ (by assumption)) | simp [go_sem])
        have t6_0_2 := keep_cell (b := w.heap.size) (o := 2) (v := .int .i64 p) hb (by first | omega | (simp; done) | (simp; omega)) (by first | assumption | exact cell_alloc_l _ (by assumption) | exact cell_alloc_l _ (cell_alloc_l _ (by assumption)) | simp [go_sem])
        have t6_l1 := keep_lt (b := w4.heap.size) hb (by first | omega | (simp; done) | (simp; omega))
        have t6_1_0 := keep_cell (b := w4.heap.size) (o := 0) (v := .bool false) hb (by first | omega | (simp; done) | (simp; omega)) (by first | assumption | exact cell_alloc_l _ (by assumption) | exact cell_alloc_l _ (cell_alloc_l _ (by assumption)) | simp [go_sem])
        have t6_1_1 := keep_cell (b := w4.heap.size) (o := 1) (v := .int .i64 0) hb (by first | omega | (simp; done) | (simp; omega)) (by first | assumption | exact cell_alloc_l _ (by assumption) | exact cell_alloc_l _ (cell_alloc_l _ (by assumption)) | simp [go_sem])
        have t6_1_2 := keep_cell (b := w4.heap.size) (o := 2) (v := .int .i64 0) hb (by first | omega | (simp; done) | (simp; omega)) (by first | assumption | exact cell_alloc_l _ (by assumption) | exact cell_alloc_l _ (cell_alloc_l _ (by assumption)) | simp [go_sem])
        have t6_l2 := keep_lt (b := w5.heap.size) hb (by first | omega | (simp; done) | (simp; omega))
        have t6_2_0 := keep_cell (b := w5.heap.size) (o := 0) (v := .bool false) hb (by first | omega | (simp; done) | (simp; omega)) (by first | assumption | exact cell_alloc_l _ (by assumption) | exact cell_alloc_l _ (cell_alloc_l _ (by assumption)) | simp [go_sem])
        have t6_2_1 := keep_cell (b := w5.heap.size) (o := 1) (v := .int .i64 0) hb (by first | omega | (simp; done) | (simp; omega)) (by first | assumption | exact cell_alloc_l _ (by assumption) | exact cell_alloc_l _ (cell_alloc_l _ (by assumption)) | simp [go_sem])
        have t6_2_2 := keep_cell (b := w5.heap.size) (o := 2) (v := .int .i64 0) hb (by first | omega | (simp; done) | (simp; omega)) (by first | assumption | exact cell_alloc_l _ (by assumption) | exact cell_alloc_l _ (cell_alloc_l _ (by assumption)) | simp [go_sem])
        clear t5_0_0 t5_0_1 t5_0_2 t5_l0 t5_1_0 t5_1_1 t5_1_2 t5_l1
        clear hb
        go_wp2_with fail
        go_ret
        exact ⟨rfl, HB6.out⟩

end Go.Proofs.YtomlfliebolkmaaDoor
