/-
  The checks of the examples, which all statements ask first: they hold. No condition.
-/
import Derived.Test.YtomlfliebolkmaaDoorCI
set_option linter.unusedVariables false
set_option linter.unusedSimpArgs false
namespace Go.Proofs.YtomlfliebolkmaaDoor
open Go Go.Proofs Go.RowKit Pl

set_option maxRecDepth 100000 in
set_option maxHeartbeats 20000000 in
theorem sane_any (w : World) : Calls Tryd.prog 18 #[] w fun e w' => e = .returned (.bool true) ∧ Below w.heap.size w w' := by
  go_enter Tryd.func18, Tryd.ntmps18
  go_wp2_with fail
  refine (example_any _).mono ?_
  rintro e w1 ⟨b1, b2, b3, rfl, hb1, hs⟩
  have HS := Lib.hid hs; clear hs
  have HB1 := Lib.hid hb1; clear hb1
  have HC1 := Lib.hid (Below.refl w1.heap.size w1)
  go_wp2_with fail
  refine (exRise _ (HS.out.to (HC1.out.alloc (by have := HC1.out.size; omega) _))).mono ?_
  rintro e w2 ⟨rfl, hb⟩
  have HB2 := Lib.hid (bjoin (w := w) (HB1.out.alloc (by have := HB1.out.size; omega) _) hb)
  have HC2 := Lib.hid (bjoin (w := w1) (HC1.out.alloc (by have := HC1.out.size; omega) _) hb)
  have t2_l0 := keep_lt (b := w1.heap.size) hb (by first | omega | (simp; done) | (simp; omega))
  have t2_0_0 := keep_cell (b := w1.heap.size) (o := 0) (v := .int .i64 365) hb (by first | omega | (simp; done) | (simp; omega)) (by first | assumption | exact cell_alloc_l _ (by assumption) | simp [go_sem])
  have t2_0_1 := keep_cell (b := w1.heap.size) (o := 1) (v := .slice (some ⟨b1, 0, none⟩) 2 2) hb (by first | omega | (simp; done) | (simp; omega)) (by first | assumption | exact cell_alloc_l _ (by assumption) | simp [go_sem])
  have t2_0_2 := keep_cell (b := w1.heap.size) (o := 2) (v := .slice (some ⟨b2, 0, none⟩) 2 2) hb (by first | omega | (simp; done) | (simp; omega)) (by first | assumption | exact cell_alloc_l _ (by assumption) | simp [go_sem])
  have t2_0_3 := keep_cell (b := w1.heap.size) (o := 3) (v := .slice (some ⟨b3, 0, none⟩) 2 2) hb (by first | omega | (simp; done) | (simp; omega)) (by first | assumption | exact cell_alloc_l _ (by assumption) | simp [go_sem])
  clear hb
  go_wp2_with fail
  refine (exSet _ (HS.out.to HC2.out)).mono ?_
  rintro e w3 ⟨rfl, hb⟩
  have HB3 := Lib.hid (bjoin (w := w) HB2.out hb)
  have HC3 := Lib.hid (bjoin (w := w1) HC2.out hb)
  have t3_l0 := keep_lt (b := w1.heap.size) hb (by first | omega | (simp; done) | (simp; omega))
  have t3_0_0 := keep_cell (b := w1.heap.size) (o := 0) (v := .int .i64 365) hb (by first | omega | (simp; done) | (simp; omega)) (by first | assumption | exact cell_alloc_l _ (by assumption) | simp [go_sem])
  have t3_0_1 := keep_cell (b := w1.heap.size) (o := 1) (v := .slice (some ⟨b1, 0, none⟩) 2 2) hb (by first | omega | (simp; done) | (simp; omega)) (by first | assumption | exact cell_alloc_l _ (by assumption) | simp [go_sem])
  have t3_0_2 := keep_cell (b := w1.heap.size) (o := 2) (v := .slice (some ⟨b2, 0, none⟩) 2 2) hb (by first | omega | (simp; done) | (simp; omega)) (by first | assumption | exact cell_alloc_l _ (by assumption) | simp [go_sem])
  have t3_0_3 := keep_cell (b := w1.heap.size) (o := 3) (v := .slice (some ⟨b3, 0, none⟩) 2 2) hb (by first | omega | (simp; done) | (simp; omega)) (by first | assumption | exact cell_alloc_l _ (by assumption) | simp [go_sem])
  clear t2_0_0 t2_0_1 t2_0_2 t2_0_3 t2_l0
  clear hb
  go_wp2_with fail
  refine (exLength _ (HS.out.to HC3.out)).mono ?_
  rintro e w4 ⟨rfl, hb⟩
  have HB4 := Lib.hid (bjoin (w := w) HB3.out hb)
  have HC4 := Lib.hid (bjoin (w := w1) HC3.out hb)
  have t4_l0 := keep_lt (b := w1.heap.size) hb (by first | omega | (simp; done) | (simp; omega))
  have t4_0_0 := keep_cell (b := w1.heap.size) (o := 0) (v := .int .i64 365) hb (by first | omega | (simp; done) | (simp; omega)) (by first | assumption | exact cell_alloc_l _ (by assumption) | simp [go_sem])
  have t4_0_1 := keep_cell (b := w1.heap.size) (o := 1) (v := .slice (some ⟨b1, 0, none⟩) 2 2) hb (by first | omega | (simp; done) | (simp; omega)) (by first | assumption | exact cell_alloc_l _ (by assumption) | simp [go_sem])
  have t4_0_2 := keep_cell (b := w1.heap.size) (o := 2) (v := .slice (some ⟨b2, 0, none⟩) 2 2) hb (by first | omega | (simp; done) | (simp; omega)) (by first | assumption | exact cell_alloc_l _ (by assumption) | simp [go_sem])
  have t4_0_3 := keep_cell (b := w1.heap.size) (o := 3) (v := .slice (some ⟨b3, 0, none⟩) 2 2) hb (by first | omega | (simp; done) | (simp; omega)) (by first | assumption | exact cell_alloc_l _ (by assumption) | simp [go_sem])
  clear t3_0_0 t3_0_1 t3_0_2 t3_0_3 t3_l0
  clear hb
  go_wp2_with fail
  refine (exExact _ (HS.out.to (HC4.out.alloc (by have := HC4.out.size; omega) _))).mono ?_
  rintro e w5 ⟨rfl, hb⟩
  have HB5 := Lib.hid (bjoin (w := w) (HB4.out.alloc (by have := HB4.out.size; omega) _) hb)
  have HC5 := Lib.hid (bjoin (w := w1) (HC4.out.alloc (by have := HC4.out.size; omega) _) hb)
  have t5_l0 := keep_lt (b := w1.heap.size) hb (by first | omega | (simp; done) | (simp; omega))
  have t5_0_0 := keep_cell (b := w1.heap.size) (o := 0) (v := .int .i64 365) hb (by first | omega | (simp; done) | (simp; omega)) (by first | assumption | exact cell_alloc_l _ (by assumption) | simp [go_sem])
  have t5_0_1 := keep_cell (b := w1.heap.size) (o := 1) (v := .slice (some ⟨b1, 0, none⟩) 2 2) hb (by first | omega | (simp; done) | (simp; omega)) (by first | assumption | exact cell_alloc_l _ (by assumption) | simp [go_sem])
  have t5_0_2 := keep_cell (b := w1.heap.size) (o := 2) (v := .slice (some ⟨b2, 0, none⟩) 2 2) hb (by first | omega | (simp; done) | (simp; omega)) (by first | assumption | exact cell_alloc_l _ (by assumption) | simp [go_sem])
  have t5_0_3 := keep_cell (b := w1.heap.size) (o := 3) (v := .slice (some ⟨b3, 0, none⟩) 2 2) hb (by first | omega | (simp; done) | (simp; omega)) (by first | assumption | exact cell_alloc_l _ (by assumption) | simp [go_sem])
  have t5_l1 := keep_lt (b := w4.heap.size) hb (by first | omega | (simp; done) | (simp; omega))
  have t5_1_0 := keep_cell (b := w4.heap.size) (o := 0) (v := .int .i64 839) hb (by first | omega | (simp; done) | (simp; omega)) (by first | assumption | exact cell_alloc_l _ (by assumption) | simp [go_sem])
  have t5_1_1 := keep_cell (b := w4.heap.size) (o := 1) (v := .int .i64 12) hb (by first | omega | (simp; done) | (simp; omega)) (by first | assumption | exact cell_alloc_l _ (by assumption) | simp [go_sem])
  clear t4_0_0 t4_0_1 t4_0_2 t4_0_3 t4_l0
  clear hb
  go_wp2_with fail
  refine (exFirst _ (HS.out.to (HC5.out.alloc (by have := HC5.out.size; omega) _))).mono ?_
  rintro e w6 ⟨rfl, hb⟩
  have HB6 := Lib.hid (bjoin (w := w) (HB5.out.alloc (by have := HB5.out.size; omega) _) hb)
  have HC6 := Lib.hid (bjoin (w := w1) (HC5.out.alloc (by have := HC5.out.size; omega) _) hb)
  have t6_l0 := keep_lt (b := w1.heap.size) hb (by first | omega | (simp; done) | (simp; omega))
  have t6_0_0 := keep_cell (b := w1.heap.size) (o := 0) (v := .int .i64 365) hb (by first | omega | (simp; done) | (simp; omega)) (by first | assumption | exact cell_alloc_l _ (by assumption) | simp [go_sem])
  have t6_0_1 := keep_cell (b := w1.heap.size) (o := 1) (v := .slice (some ⟨b1, 0, none⟩) 2 2) hb (by first | omega | (simp; done) | (simp; omega)) (by first | assumption | exact cell_alloc_l _ (by assumption) | simp [go_sem])
  have t6_0_2 := keep_cell (b := w1.heap.size) (o := 2) (v := .slice (some ⟨b2, 0, none⟩) 2 2) hb (by first | omega | (simp; done) | (simp; omega)) (by first | assumption | exact cell_alloc_l _ (by assumption) | simp [go_sem])
  have t6_0_3 := keep_cell (b := w1.heap.size) (o := 3) (v := .slice (some ⟨b3, 0, none⟩) 2 2) hb (by first | omega | (simp; done) | (simp; omega)) (by first | assumption | exact cell_alloc_l _ (by assumption) | simp [go_sem])
  have t6_l1 := keep_lt (b := w4.heap.size) hb (by first | omega | (simp; done) | (simp; omega))
  have t6_1_0 := keep_cell (b := w4.heap.size) (o := 0) (v := .int .i64 839) hb (by first | omega | (simp; done) | (simp; omega)) (by first | assumption | exact cell_alloc_l _ (by assumption) | simp [go_sem])
  have t6_1_1 := keep_cell (b := w4.heap.size) (o := 1) (v := .int .i64 12) hb (by first | omega | (simp; done) | (simp; omega)) (by first | assumption | exact cell_alloc_l _ (by assumption) | simp [go_sem])
  have t6_l2 := keep_lt (b := w5.heap.size) hb (by first | omega | (simp; done) | (simp; omega))
  have t6_2_0 := keep_cell (b := w5.heap.size) (o := 0) (v := .int .i64 475) hb (by first | omega | (simp; done) | (simp; omega)) (by first | assumption | exact cell_alloc_l _ (by assumption) | simp [go_sem])
  have t6_2_1 := keep_cell (b := w5.heap.size) (o := 1) (v := .int .i64 1) hb (by first | omega | (simp; done) | (simp; omega)) (by first | assumption | exact cell_alloc_l _ (by assumption) | simp [go_sem])
  clear t5_0_0 t5_0_1 t5_0_2 t5_0_3 t5_l0 t5_1_0 t5_1_1 t5_l1
  clear hb
  go_wp2_with fail
  refine (exTold _ (HS.out.to HC6.out)).mono ?_
  rintro e w7 ⟨rfl, hb⟩
  have HB7 := Lib.hid (bjoin (w := w) HB6.out hb)
  have HC7 := Lib.hid (bjoin (w := w1) HC6.out hb)
  have t7_l0 := keep_lt (b := w1.heap.size) hb (by first | omega | (simp; done) | (simp; omega))
  have t7_0_0 := keep_cell (b := w1.heap.size) (o := 0) (v := .int .i64 365) hb (by first | omega | (simp; done) | (simp; omega)) (by first | assumption | exact cell_alloc_l _ (by assumption) | simp [go_sem])
  have t7_0_1 := keep_cell (b := w1.heap.size) (o := 1) (v := .slice (some ⟨b1, 0, none⟩) 2 2) hb (by first | omega | (simp; done) | (simp; omega)) (by first | assumption | exact cell_alloc_l _ (by assumption) | simp [go_sem])
  have t7_0_2 := keep_cell (b := w1.heap.size) (o := 2) (v := .slice (some ⟨b2, 0, none⟩) 2 2) hb (by first | omega | (simp; done) | (simp; omega)) (by first | assumption | exact cell_alloc_l _ (by assumption) | simp [go_sem])
  have t7_0_3 := keep_cell (b := w1.heap.size) (o := 3) (v := .slice (some ⟨b3, 0, none⟩) 2 2) hb (by first | omega | (simp; done) | (simp; omega)) (by first | assumption | exact cell_alloc_l _ (by assumption) | simp [go_sem])
  have t7_l1 := keep_lt (b := w4.heap.size) hb (by first | omega | (simp; done) | (simp; omega))
  have t7_1_0 := keep_cell (b := w4.heap.size) (o := 0) (v := .int .i64 839) hb (by first | omega | (simp; done) | (simp; omega)) (by first | assumption | exact cell_alloc_l _ (by assumption) | simp [go_sem])
  have t7_1_1 := keep_cell (b := w4.heap.size) (o := 1) (v := .int .i64 12) hb (by first | omega | (simp; done) | (simp; omega)) (by first | assumption | exact cell_alloc_l _ (by assumption) | simp [go_sem])
  have t7_l2 := keep_lt (b := w5.heap.size) hb (by first | omega | (simp; done) | (simp; omega))
  have t7_2_0 := keep_cell (b := w5.heap.size) (o := 0) (v := .int .i64 475) hb (by first | omega | (simp; done) | (simp; omega)) (by first | assumption | exact cell_alloc_l _ (by assumption) | simp [go_sem])
  have t7_2_1 := keep_cell (b := w5.heap.size) (o := 1) (v := .int .i64 1) hb (by first | omega | (simp; done) | (simp; omega)) (by first | assumption | exact cell_alloc_l _ (by assumption) | simp [go_sem])
  clear t6_0_0 t6_0_1 t6_0_2 t6_0_3 t6_l0 t6_1_0 t6_1_1 t6_l1 t6_2_0 t6_2_1 t6_l2
  clear hb
  go_wp2_with fail
  refine (exLater _ (HS.out.to (HC7.out.alloc (by have := HC7.out.size; omega) _))).mono ?_
  rintro e w8 ⟨rfl, hb⟩
  have HB8 := Lib.hid (bjoin (w := w) (HB7.out.alloc (by have := HB7.out.size; omega) _) hb)
  have HC8 := Lib.hid (bjoin (w := w1) (HC7.out.alloc (by have := HC7.out.size; omega) _) hb)
  have t8_l0 := keep_lt (b := w1.heap.size) hb (by first | omega | (simp; done) | (simp; omega))
  have t8_0_0 := keep_cell (b := w1.heap.size) (o := 0) (v := .int .i64 365) hb (by first | omega | (simp; done) | (simp; omega)) (by first | assumption | exact cell_alloc_l _ (by assumption) | simp [go_sem])
  have t8_0_1 := keep_cell (b := w1.heap.size) (o := 1) (v := .slice (some ⟨b1, 0, none⟩) 2 2) hb (by first | omega | (simp; done) | (simp; omega)) (by first | assumption | exact cell_alloc_l _ (by assumption) | simp [go_sem])
  have t8_0_2 := keep_cell (b := w1.heap.size) (o := 2) (v := .slice (some ⟨b2, 0, none⟩) 2 2) hb (by first | omega | (simp; done) | (simp; omega)) (by first | assumption | exact cell_alloc_l _ (by assumption) | simp [go_sem])
  have t8_0_3 := keep_cell (b := w1.heap.size) (o := 3) (v := .slice (some ⟨b3, 0, none⟩) 2 2) hb (by first | omega | (simp; done) | (simp; omega)) (by first | assumption | exact cell_alloc_l _ (by assumption) | simp [go_sem])
  have t8_l1 := keep_lt (b := w4.heap.size) hb (by first | omega | (simp; done) | (simp; omega))
  have t8_1_0 := keep_cell (b := w4.heap.size) (o := 0) (v := .int .i64 839) hb (by first | omega | (simp; done) | (simp; omega)) (by first | assumption | exact cell_alloc_l _ (by assumption) | simp [go_sem])
  have t8_1_1 := keep_cell (b := w4.heap.size) (o := 1) (v := .int .i64 12) hb (by first | omega | (simp; done) | (simp; omega)) (by first | assumption | exact cell_alloc_l _ (by assumption) | simp [go_sem])
  have t8_l2 := keep_lt (b := w5.heap.size) hb (by first | omega | (simp; done) | (simp; omega))
  have t8_2_0 := keep_cell (b := w5.heap.size) (o := 0) (v := .int .i64 475) hb (by first | omega | (simp; done) | (simp; omega)) (by first | assumption | exact cell_alloc_l _ (by assumption) | simp [go_sem])
  have t8_2_1 := keep_cell (b := w5.heap.size) (o := 1) (v := .int .i64 1) hb (by first | omega | (simp; done) | (simp; omega)) (by first | assumption | exact cell_alloc_l _ (by assumption) | simp [go_sem])
  have t8_l3 := keep_lt (b := w7.heap.size) hb (by first | omega | (simp; done) | (simp; omega))
  have t8_3_0 := keep_cell (b := w7.heap.size) (o := 0) (v := .bool true) hb (by first | omega | (simp; done) | (simp; omega)) (by first | assumption | exact cell_alloc_l _ (by assumption) | simp [go_sem])
  have t8_3_1 := keep_cell (b := w7.heap.size) (o := 1) (v := .int .i64 0) hb (by first | omega | (simp; done) | (simp; omega)) (by first | assumption | exact cell_alloc_l _ (by assumption) | simp [go_sem])
  have t8_3_2 := keep_cell (b := w7.heap.size) (o := 2) (v := .int .i64 59) hb (by first | omega | (simp; done) | (simp; omega)) (by first | assumption | exact cell_alloc_l _ (by assumption) | simp [go_sem])
  clear t7_0_0 t7_0_1 t7_0_2 t7_0_3 t7_l0 t7_1_0 t7_1_1 t7_l1 t7_2_0 t7_2_1 t7_l2
  clear hb
  go_wp2_with fail
  refine (exPassed _ (HS.out.to (HC8.out.alloc (by have := HC8.out.size; omega) _))).mono ?_
  rintro e w9 ⟨rfl, hb⟩
  have HB9 := Lib.hid (bjoin (w := w) (HB8.out.alloc (by have := HB8.out.size; omega) _) hb)
  have HC9 := Lib.hid (bjoin (w := w1) (HC8.out.alloc (by have := HC8.out.size; omega) _) hb)
  have t9_l0 := keep_lt (b := w1.heap.size) hb (by first | omega | (simp; done) | (simp; omega))
  have t9_0_0 := keep_cell (b := w1.heap.size) (o := 0) (v := .int .i64 365) hb (by first | omega | (simp; done) | (simp; omega)) (by first | assumption | exact cell_alloc_l _ (by assumption) | simp [go_sem])
  have t9_0_1 := keep_cell (b := w1.heap.size) (o := 1) (v := .slice (some ⟨b1, 0, none⟩) 2 2) hb (by first | omega | (simp; done) | (simp; omega)) (by first | assumption | exact cell_alloc_l _ (by assumption) | simp [go_sem])
  have t9_0_2 := keep_cell (b := w1.heap.size) (o := 2) (v := .slice (some ⟨b2, 0, none⟩) 2 2) hb (by first | omega | (simp; done) | (simp; omega)) (by first | assumption | exact cell_alloc_l _ (by assumption) | simp [go_sem])
  have t9_0_3 := keep_cell (b := w1.heap.size) (o := 3) (v := .slice (some ⟨b3, 0, none⟩) 2 2) hb (by first | omega | (simp; done) | (simp; omega)) (by first | assumption | exact cell_alloc_l _ (by assumption) | simp [go_sem])
  have t9_l1 := keep_lt (b := w4.heap.size) hb (by first | omega | (simp; done) | (simp; omega))
  have t9_1_0 := keep_cell (b := w4.heap.size) (o := 0) (v := .int .i64 839) hb (by first | omega | (simp; done) | (simp; omega)) (by first | assumption | exact cell_alloc_l _ (by assumption) | simp [go_sem])
  have t9_1_1 := keep_cell (b := w4.heap.size) (o := 1) (v := .int .i64 12) hb (by first | omega | (simp; done) | (simp; omega)) (by first | assumption | exact cell_alloc_l _ (by assumption) | simp [go_sem])
  have t9_l2 := keep_lt (b := w5.heap.size) hb (by first | omega | (simp; done) | (simp; omega))
  have t9_2_0 := keep_cell (b := w5.heap.size) (o := 0) (v := .int .i64 475) hb (by first | omega | (simp; done) | (simp; omega)) (by first | assumption | exact cell_alloc_l _ (by assumption) | simp [go_sem])
  have t9_2_1 := keep_cell (b := w5.heap.size) (o := 1) (v := .int .i64 1) hb (by first | omega | (simp; done) | (simp; omega)) (by first | assumption | exact cell_alloc_l _ (by assumption) | simp [go_sem])
  have t9_l3 := keep_lt (b := w7.heap.size) hb (by first | omega | (simp; done) | (simp; omega))
  have t9_3_0 := keep_cell (b := w7.heap.size) (o := 0) (v := .bool true) hb (by first | omega | (simp; done) | (simp; omega)) (by first | assumption | exact cell_alloc_l _ (by assumption) | simp [go_sem])
  have t9_3_1 := keep_cell (b := w7.heap.size) (o := 1) (v := .int .i64 0) hb (by first | omega | (simp; done) | (simp; omega)) (by first | assumption | exact cell_alloc_l _ (by assumption) | simp [go_sem])
  have t9_3_2 := keep_cell (b := w7.heap.size) (o := 2) (v := .int .i64 59) hb (by first | omega | (simp; done) | (simp; omega)) (by first | assumption | exact cell_alloc_l _ (by assumption) | simp [go_sem])
  have t9_l4 := keep_lt (b := w8.heap.size) hb (by first | omega | (simp; done) | (simp; omega))
  have t9_4_0 := keep_cell (b := w8.heap.size) (o := 0) (v := .bool true) hb (by first | omega | (simp; done) | (simp; omega)) (by first | assumption | exact cell_alloc_l _ (by assumption) | simp [go_sem])
  have t9_4_1 := keep_cell (b := w8.heap.size) (o := 1) (v := .int .i64 1) hb (by first | omega | (simp; done) | (simp; omega)) (by first | assumption | exact cell_alloc_l _ (by assumption) | simp [go_sem])
  have t9_4_2 := keep_cell (b := w8.heap.size) (o := 2) (v := .int .i64 5) hb (by first | omega | (simp; done) | (simp; omega)) (by first | assumption | exact cell_alloc_l _ (by assumption) | simp [go_sem])
  clear t8_0_0 t8_0_1 t8_0_2 t8_0_3 t8_l0 t8_1_0 t8_1_1 t8_l1 t8_2_0 t8_2_1 t8_l2 t8_3_0 t8_3_1 t8_3_2 t8_l3
  clear hb
  go_wp2_with fail
  refine (exLongest _ (HS.out.to (HC9.out.alloc (by have := HC9.out.size; omega) _))).mono ?_
  rintro e w10 ⟨rfl, hb⟩
  have HB10 := Lib.hid (bjoin (w := w) (HB9.out.alloc (by have := HB9.out.size; omega) _) hb)
  have HC10 := Lib.hid (bjoin (w := w1) (HC9.out.alloc (by have := HC9.out.size; omega) _) hb)
  have t10_l0 := keep_lt (b := w1.heap.size) hb (by first | omega | (simp; done) | (simp; omega))
  have t10_0_0 := keep_cell (b := w1.heap.size) (o := 0) (v := .int .i64 365) hb (by first | omega | (simp; done) | (simp; omega)) (by first | assumption | exact cell_alloc_l _ (by assumption) | simp [go_sem])
  have t10_0_1 := keep_cell (b := w1.heap.size) (o := 1) (v := .slice (some ⟨b1, 0, none⟩) 2 2) hb (by first | omega | (simp; done) | (simp; omega)) (by first | assumption | exact cell_alloc_l _ (by assumption) | simp [go_sem])
  have t10_0_2 := keep_cell (b := w1.heap.size) (o := 2) (v := .slice (some ⟨b2, 0, none⟩) 2 2) hb (by first | omega | (simp; done) | (simp; omega)) (by first | assumption | exact cell_alloc_l _ (by assumption) | simp [go_sem])
  have t10_0_3 := keep_cell (b := w1.heap.size) (o := 3) (v := .slice (some ⟨b3, 0, none⟩) 2 2) hb (by first | omega | (simp; done) | (simp; omega)) (by first | assumption | exact cell_alloc_l _ (by assumption) | simp [go_sem])
  have t10_l1 := keep_lt (b := w4.heap.size) hb (by first | omega | (simp; done) | (simp; omega))
  have t10_1_0 := keep_cell (b := w4.heap.size) (o := 0) (v := .int .i64 839) hb (by first | omega | (simp; done) | (simp; omega)) (by first | assumption | exact cell_alloc_l _ (by assumption) | simp [go_sem])
  have t10_1_1 := keep_cell (b := w4.heap.size) (o := 1) (v := .int .i64 12) hb (by first | omega | (simp; done) | (simp; omega)) (by first | assumption | exact cell_alloc_l _ (by assumption) | simp [go_sem])
  have t10_l2 := keep_lt (b := w5.heap.size) hb (by first | omega | (simp; done) | (simp; omega))
  have t10_2_0 := keep_cell (b := w5.heap.size) (o := 0) (v := .int .i64 475) hb (by first | omega | (simp; done) | (simp; omega)) (by first | assumption | exact cell_alloc_l _ (by assumption) | simp [go_sem])
  have t10_2_1 := keep_cell (b := w5.heap.size) (o := 1) (v := .int .i64 1) hb (by first | omega | (simp; done) | (simp; omega)) (by first | assumption | exact cell_alloc_l _ (by assumption) | simp [go_sem])
  have t10_l3 := keep_lt (b := w7.heap.size) hb (by first | omega | (simp; done) | (simp; omega))
  have t10_3_0 := keep_cell (b := w7.heap.size) (o := 0) (v := .bool true) hb (by first | omega | (simp; done) | (simp; omega)) (by first | assumption | exact cell_alloc_l _ (by assumption) | simp [go_sem])
  have t10_3_1 := keep_cell (b := w7.heap.size) (o := 1) (v := .int .i64 0) hb (by first | omega | (simp; done) | (simp; omega)) (by first | assumption | exact cell_alloc_l _ (by assumption) | simp [go_sem])
  have t10_3_2 := keep_cell (b := w7.heap.size) (o := 2) (v := .int .i64 59) hb (by first | omega | (simp; done) | (simp; omega)) (by first | assumption | exact cell_alloc_l _ (by assumption) | simp [go_sem])
  have t10_l4 := keep_lt (b := w8.heap.size) hb (by first | omega | (simp; done) | (simp; omega))
  have t10_4_0 := keep_cell (b := w8.heap.size) (o := 0) (v := .bool true) hb (by first | omega | (simp; done) | (simp; omega)) (by first | assumption | exact cell_alloc_l _ (by assumption) | simp [go_sem])
  have t10_4_1 := keep_cell (b := w8.heap.size) (o := 1) (v := .int .i64 1) hb (by first | omega | (simp; done) | (simp; omega)) (by first | assumption | exact cell_alloc_l _ (by assumption) | simp [go_sem])
  have t10_4_2 := keep_cell (b := w8.heap.size) (o := 2) (v := .int .i64 5) hb (by first | omega | (simp; done) | (simp; omega)) (by first | assumption | exact cell_alloc_l _ (by assumption) | simp [go_sem])
  have t10_l5 := keep_lt (b := w9.heap.size) hb (by first | omega | (simp; done) | (simp; omega))
  have t10_5_0 := keep_cell (b := w9.heap.size) (o := 0) (v := .int .i64 669) hb (by first | omega | (simp; done) | (simp; omega)) (by first | assumption | exact cell_alloc_l _ (by assumption) | simp [go_sem])
  have t10_5_1 := keep_cell (b := w9.heap.size) (o := 1) (v := .int .i64 670) hb (by first | omega | (simp; done) | (simp; omega)) (by first | assumption | exact cell_alloc_l _ (by assumption) | simp [go_sem])
  clear t9_0_0 t9_0_1 t9_0_2 t9_0_3 t9_l0 t9_1_0 t9_1_1 t9_l1 t9_2_0 t9_2_1 t9_l2 t9_3_0 t9_3_1 t9_3_2 t9_l3 t9_4_0 t9_4_1 t9_4_2 t9_l4
  clear hb
  go_wp2_with fail
  refine (exTold2 _ (HS.out.to HC10.out)).mono ?_
  rintro e w11 ⟨rfl, hb⟩
  have HB11 := Lib.hid (bjoin (w := w) HB10.out hb)
  have HC11 := Lib.hid (bjoin (w := w1) HC10.out hb)
  have t11_l0 := keep_lt (b := w1.heap.size) hb (by first | omega | (simp; done) | (simp; omega))
  have t11_0_0 := keep_cell (b := w1.heap.size) (o := 0) (v := .int .i64 365) hb (by first | omega | (simp; done) | (simp; omega)) (by first | assumption | exact cell_alloc_l _ (by assumption) | simp [go_sem])
  have t11_0_1 := keep_cell (b := w1.heap.size) (o := 1) (v := .slice (some ⟨b1, 0, none⟩) 2 2) hb (by first | omega | (simp; done) | (simp; omega)) (by first | assumption | exact cell_alloc_l _ (by assumption) | simp [go_sem])
  have t11_0_2 := keep_cell (b := w1.heap.size) (o := 2) (v := .slice (some ⟨b2, 0, none⟩) 2 2) hb (by first | omega | (simp; done) | (simp; omega)) (by first | assumption | exact cell_alloc_l _ (by assumption) | simp [go_sem])
  have t11_0_3 := keep_cell (b := w1.heap.size) (o := 3) (v := .slice (some ⟨b3, 0, none⟩) 2 2) hb (by first | omega | (simp; done) | (simp; omega)) (by first | assumption | exact cell_alloc_l _ (by assumption) | simp [go_sem])
  have t11_l1 := keep_lt (b := w4.heap.size) hb (by first | omega | (simp; done) | (simp; omega))
  have t11_1_0 := keep_cell (b := w4.heap.size) (o := 0) (v := .int .i64 839) hb (by first | omega | (simp; done) | (simp; omega)) (by first | assumption | exact cell_alloc_l _ (by assumption) | simp [go_sem])
  have t11_1_1 := keep_cell (b := w4.heap.size) (o := 1) (v := .int .i64 12) hb (by first | omega | (simp; done) | (simp; omega)) (by first | assumption | exact cell_alloc_l _ (by assumption) | simp [go_sem])
  have t11_l2 := keep_lt (b := w5.heap.size) hb (by first | omega | (simp; done) | (simp; omega))
  have t11_2_0 := keep_cell (b := w5.heap.size) (o := 0) (v := .int .i64 475) hb (by first | omega | (simp; done) | (simp; omega)) (by first | assumption | exact cell_alloc_l _ (by assumption) | simp [go_sem])
  have t11_2_1 := keep_cell (b := w5.heap.size) (o := 1) (v := .int .i64 1) hb (by first | omega | (simp; done) | (simp; omega)) (by first | assumption | exact cell_alloc_l _ (by assumption) | simp [go_sem])
  have t11_l3 := keep_lt (b := w7.heap.size) hb (by first | omega | (simp; done) | (simp; omega))
  have t11_3_0 := keep_cell (b := w7.heap.size) (o := 0) (v := .bool true) hb (by first | omega | (simp; done) | (simp; omega)) (by first | assumption | exact cell_alloc_l _ (by assumption) | simp [go_sem])
  have t11_3_1 := keep_cell (b := w7.heap.size) (o := 1) (v := .int .i64 0) hb (by first | omega | (simp; done) | (simp; omega)) (by first | assumption | exact cell_alloc_l _ (by assumption) | simp [go_sem])
  have t11_3_2 := keep_cell (b := w7.heap.size) (o := 2) (v := .int .i64 59) hb (by first | omega | (simp; done) | (simp; omega)) (by first | assumption | exact cell_alloc_l _ (by assumption) | simp [go_sem])
  have t11_l4 := keep_lt (b := w8.heap.size) hb (by first | omega | (simp; done) | (simp; omega))
  have t11_4_0 := keep_cell (b := w8.heap.size) (o := 0) (v := .bool true) hb (by first | omega | (simp; done) | (simp; omega)) (by first | assumption | exact cell_alloc_l _ (by assumption) | simp [go_sem])
  have t11_4_1 := keep_cell (b := w8.heap.size) (o := 1) (v := .int .i64 1) hb (by first | omega | (simp; done) | (simp; omega)) (by first | assumption | exact cell_alloc_l _ (by assumption) | simp [go_sem])
  have t11_4_2 := keep_cell (b := w8.heap.size) (o := 2) (v := .int .i64 5) hb (by first | omega | (simp; done) | (simp; omega)) (by first | assumption | exact cell_alloc_l _ (by assumption) | simp [go_sem])
  have t11_l5 := keep_lt (b := w9.heap.size) hb (by first | omega | (simp; done) | (simp; omega))
  have t11_5_0 := keep_cell (b := w9.heap.size) (o := 0) (v := .int .i64 669) hb (by first | omega | (simp; done) | (simp; omega)) (by first | assumption | exact cell_alloc_l _ (by assumption) | simp [go_sem])
  have t11_5_1 := keep_cell (b := w9.heap.size) (o := 1) (v := .int .i64 670) hb (by first | omega | (simp; done) | (simp; omega)) (by first | assumption | exact cell_alloc_l _ (by assumption) | simp [go_sem])
  clear t10_0_0 t10_0_1 t10_0_2 t10_0_3 t10_l0 t10_1_0 t10_1_1 t10_l1 t10_2_0 t10_2_1 t10_l2 t10_3_0 t10_3_1 t10_3_2 t10_l3 t10_4_0 t10_4_1 t10_4_2 t10_l4 t10_5_0 t10_5_1 t10_l5
  clear hb
  go_wp2_with fail
  refine (exCourt _).mono ?_
  rintro e w12 ⟨rfl, hb⟩
  have HB12 := Lib.hid (bjoin (w := w) HB11.out hb)
  have HC12 := Lib.hid (bjoin (w := w1) HC11.out hb)
  have t12_l0 := keep_lt (b := w1.heap.size) hb (by first | omega | (simp; done) | (simp; omega))
  have t12_0_0 := keep_cell (b := w1.heap.size) (o := 0) (v := .int .i64 365) hb (by first | omega | (simp; done) | (simp; omega)) (by first | assumption | exact cell_alloc_l _ (by assumption) | simp [go_sem])
  have t12_0_1 := keep_cell (b := w1.heap.size) (o := 1) (v := .slice (some ⟨b1, 0, none⟩) 2 2) hb (by first | omega | (simp; done) | (simp; omega)) (by first | assumption | exact cell_alloc_l _ (by assumption) | simp [go_sem])
  have t12_0_2 := keep_cell (b := w1.heap.size) (o := 2) (v := .slice (some ⟨b2, 0, none⟩) 2 2) hb (by first | omega | (simp; done) | (simp; omega)) (by first | assumption | exact cell_alloc_l _ (by assumption) | simp [go_sem])
  have t12_0_3 := keep_cell (b := w1.heap.size) (o := 3) (v := .slice (some ⟨b3, 0, none⟩) 2 2) hb (by first | omega | (simp; done) | (simp; omega)) (by first | assumption | exact cell_alloc_l _ (by assumption) | simp [go_sem])
  have t12_l1 := keep_lt (b := w4.heap.size) hb (by first | omega | (simp; done) | (simp; omega))
  have t12_1_0 := keep_cell (b := w4.heap.size) (o := 0) (v := .int .i64 839) hb (by first | omega | (simp; done) | (simp; omega)) (by first | assumption | exact cell_alloc_l _ (by assumption) | simp [go_sem])
  have t12_1_1 := keep_cell (b := w4.heap.size) (o := 1) (v := .int .i64 12) hb (by first | omega | (simp; done) | (simp; omega)) (by first | assumption | exact cell_alloc_l _ (by assumption) | simp [go_sem])
  have t12_l2 := keep_lt (b := w5.heap.size) hb (by first | omega | (simp; done) | (simp; omega))
  have t12_2_0 := keep_cell (b := w5.heap.size) (o := 0) (v := .int .i64 475) hb (by first | omega | (simp; done) | (simp; omega)) (by first | assumption | exact cell_alloc_l _ (by assumption) | simp [go_sem])
  have t12_2_1 := keep_cell (b := w5.heap.size) (o := 1) (v := .int .i64 1) hb (by first | omega | (simp; done) | (simp; omega)) (by first | assumption | exact cell_alloc_l _ (by assumption) | simp [go_sem])
  have t12_l3 := keep_lt (b := w7.heap.size) hb (by first | omega | (simp; done) | (simp; omega))
  have t12_3_0 := keep_cell (b := w7.heap.size) (o := 0) (v := .bool true) hb (by first | omega | (simp; done) | (simp; omega)) (by first | assumption | exact cell_alloc_l _ (by assumption) | simp [go_sem])
  have t12_3_1 := keep_cell (b := w7.heap.size) (o := 1) (v := .int .i64 0) hb (by first | omega | (simp; done) | (simp; omega)) (by first | assumption | exact cell_alloc_l _ (by assumption) | simp [go_sem])
  have t12_3_2 := keep_cell (b := w7.heap.size) (o := 2) (v := .int .i64 59) hb (by first | omega | (simp; done) | (simp; omega)) (by first | assumption | exact cell_alloc_l _ (by assumption) | simp [go_sem])
  have t12_l4 := keep_lt (b := w8.heap.size) hb (by first | omega | (simp; done) | (simp; omega))
  have t12_4_0 := keep_cell (b := w8.heap.size) (o := 0) (v := .bool true) hb (by first | omega | (simp; done) | (simp; omega)) (by first | assumption | exact cell_alloc_l _ (by assumption) | simp [go_sem])
  have t12_4_1 := keep_cell (b := w8.heap.size) (o := 1) (v := .int .i64 1) hb (by first | omega | (simp; done) | (simp; omega)) (by first | assumption | exact cell_alloc_l _ (by assumption) | simp [go_sem])
  have t12_4_2 := keep_cell (b := w8.heap.size) (o := 2) (v := .int .i64 5) hb (by first | omega | (simp; done) | (simp; omega)) (by first | assumption | exact cell_alloc_l _ (by assumption) | simp [go_sem])
  have t12_l5 := keep_lt (b := w9.heap.size) hb (by first | omega | (simp; done) | (simp; omega))
  have t12_5_0 := keep_cell (b := w9.heap.size) (o := 0) (v := .int .i64 669) hb (by first | omega | (simp; done) | (simp; omega)) (by first | assumption | exact cell_alloc_l _ (by assumption) | simp [go_sem])
  have t12_5_1 := keep_cell (b := w9.heap.size) (o := 1) (v := .int .i64 670) hb (by first | omega | (simp; done) | (simp; omega)) (by first | assumption | exact cell_alloc_l _ (by assumption) | simp [go_sem])
  clear t11_0_0 t11_0_1 t11_0_2 t11_0_3 t11_l0 t11_1_0 t11_1_1 t11_l1 t11_2_0 t11_2_1 t11_l2 t11_3_0 t11_3_1 t11_3_2 t11_l3 t11_4_0 t11_4_1 t11_4_2 t11_l4 t11_5_0 t11_5_1 t11_l5
  clear hb
  go_wp2_with fail
  refine (exMarket _).mono ?_
  rintro e w13 ⟨rfl, hb⟩
  have HB13 := Lib.hid (bjoin (w := w) (HB12.out.alloc (by have := HB12.out.size; omega) _) hb)
  have HC13 := Lib.hid (bjoin (w := w1) (HC12.out.alloc (by have := HC12.out.size; omega) _) hb)
  have t13_l0 := keep_lt (b := w1.heap.size) hb (by first | omega | (simp; done) | (simp; omega))
  have t13_0_0 := keep_cell (b := w1.heap.size) (o := 0) (v := .int .i64 365) hb (by first | omega | (simp; done) | (simp; omega)) (by first | assumption | exact cell_alloc_l _ (by assumption) | simp [go_sem])
  have t13_0_1 := keep_cell (b := w1.heap.size) (o := 1) (v := .slice (some ⟨b1, 0, none⟩) 2 2) hb (by first | omega | (simp; done) | (simp; omega)) (by first | assumption | exact cell_alloc_l _ (by assumption) | simp [go_sem])
  have t13_0_2 := keep_cell (b := w1.heap.size) (o := 2) (v := .slice (some ⟨b2, 0, none⟩) 2 2) hb (by first | omega | (simp; done) | (simp; omega)) (by first | assumption | exact cell_alloc_l _ (by assumption) | simp [go_sem])
  have t13_0_3 := keep_cell (b := w1.heap.size) (o := 3) (v := .slice (some ⟨b3, 0, none⟩) 2 2) hb (by first | omega | (simp; done) | (simp; omega)) (by first | assumption | exact cell_alloc_l _ (by assumption) | simp [go_sem])
  have t13_l1 := keep_lt (b := w4.heap.size) hb (by first | omega | (simp; done) | (simp; omega))
  have t13_1_0 := keep_cell (b := w4.heap.size) (o := 0) (v := .int .i64 839) hb (by first | omega | (simp; done) | (simp; omega)) (by first | assumption | exact cell_alloc_l _ (by assumption) | simp [go_sem])
  have t13_1_1 := keep_cell (b := w4.heap.size) (o := 1) (v := .int .i64 12) hb (by first | omega | (simp; done) | (simp; omega)) (by first | assumption | exact cell_alloc_l _ (by assumption) | simp [go_sem])
  have t13_l2 := keep_lt (b := w5.heap.size) hb (by first | omega | (simp; done) | (simp; omega))
  have t13_2_0 := keep_cell (b := w5.heap.size) (o := 0) (v := .int .i64 475) hb (by first | omega | (simp; done) | (simp; omega)) (by first | assumption | exact cell_alloc_l _ (by assumption) | simp [go_sem])
  have t13_2_1 := keep_cell (b := w5.heap.size) (o := 1) (v := .int .i64 1) hb (by first | omega | (simp; done) | (simp; omega)) (by first | assumption | exact cell_alloc_l _ (by assumption) | simp [go_sem])
  have t13_l3 := keep_lt (b := w7.heap.size) hb (by first | omega | (simp; done) | (simp; omega))
  have t13_3_0 := keep_cell (b := w7.heap.size) (o := 0) (v := .bool true) hb (by first | omega | (simp; done) | (simp; omega)) (by first | assumption | exact cell_alloc_l _ (by assumption) | simp [go_sem])
  have t13_3_1 := keep_cell (b := w7.heap.size) (o := 1) (v := .int .i64 0) hb (by first | omega | (simp; done) | (simp; omega)) (by first | assumption | exact cell_alloc_l _ (by assumption) | simp [go_sem])
  have t13_3_2 := keep_cell (b := w7.heap.size) (o := 2) (v := .int .i64 59) hb (by first | omega | (simp; done) | (simp; omega)) (by first | assumption | exact cell_alloc_l _ (by assumption) | simp [go_sem])
  have t13_l4 := keep_lt (b := w8.heap.size) hb (by first | omega | (simp; done) | (simp; omega))
  have t13_4_0 := keep_cell (b := w8.heap.size) (o := 0) (v := .bool true) hb (by first | omega | (simp; done) | (simp; omega)) (by first | assumption | exact cell_alloc_l _ (by assumption) | simp [go_sem])
  have t13_4_1 := keep_cell (b := w8.heap.size) (o := 1) (v := .int .i64 1) hb (by first | omega | (simp; done) | (simp; omega)) (by first | assumption | exact cell_alloc_l _ (by assumption) | simp [go_sem])
  have t13_4_2 := keep_cell (b := w8.heap.size) (o := 2) (v := .int .i64 5) hb (by first | omega | (simp; done) | (simp; omega)) (by first | assumption | exact cell_alloc_l _ (by assumption) | simp [go_sem])
  have t13_l5 := keep_lt (b := w9.heap.size) hb (by first | omega | (simp; done) | (simp; omega))
  have t13_5_0 := keep_cell (b := w9.heap.size) (o := 0) (v := .int .i64 669) hb (by first | omega | (simp; done) | (simp; omega)) (by first | assumption | exact cell_alloc_l _ (by assumption) | simp [go_sem])
  have t13_5_1 := keep_cell (b := w9.heap.size) (o := 1) (v := .int .i64 670) hb (by first | omega | (simp; done) | (simp; omega)) (by first | assumption | exact cell_alloc_l _ (by assumption) | simp [go_sem])
  have t13_l6 := keep_lt (b := w12.heap.size) hb (by first | omega | (simp; done) | (simp; omega))
  have t13_6_0 := keep_cell (b := w12.heap.size) (o := 0) (v := .int .i64 4) hb (by first | omega | (simp; done) | (simp; omega)) (by first | assumption | exact cell_alloc_l _ (by assumption) | simp [go_sem])
  have t13_6_1 := keep_cell (b := w12.heap.size) (o := 1) (v := .int .i64 13) hb (by first | omega | (simp; done) | (simp; omega)) (by first | assumption | exact cell_alloc_l _ (by assumption) | simp [go_sem])
  have t13_6_2 := keep_cell (b := w12.heap.size) (o := 2) (v := .int .i64 6) hb (by first | omega | (simp; done) | (simp; omega)) (by first | assumption | exact cell_alloc_l _ (by assumption) | simp [go_sem])
  clear t12_0_0 t12_0_1 t12_0_2 t12_0_3 t12_l0 t12_1_0 t12_1_1 t12_l1 t12_2_0 t12_2_1 t12_l2 t12_3_0 t12_3_1 t12_3_2 t12_l3 t12_4_0 t12_4_1 t12_4_2 t12_l4 t12_5_0 t12_5_1 t12_l5
  clear hb
  go_wp2_with fail
  refine (exMonths _).mono ?_
  rintro e w14 ⟨rfl, hb⟩
  have HB14 := Lib.hid (bjoin (w := w) HB13.out hb)
  have HC14 := Lib.hid (bjoin (w := w1) HC13.out hb)
  have t14_l0 := keep_lt (b := w1.heap.size) hb (by first | omega | (simp; done) | (simp; omega))
  have t14_0_0 := keep_cell (b := w1.heap.size) (o := 0) (v := .int .i64 365) hb (by first | omega | (simp; done) | (simp; omega)) (by first | assumption | exact cell_alloc_l _ (by assumption) | simp [go_sem])
  have t14_0_1 := keep_cell (b := w1.heap.size) (o := 1) (v := .slice (some ⟨b1, 0, none⟩) 2 2) hb (by first | omega | (simp; done) | (simp; omega)) (by first | assumption | exact cell_alloc_l _ (by assumption) | simp [go_sem])
  have t14_0_2 := keep_cell (b := w1.heap.size) (o := 2) (v := .slice (some ⟨b2, 0, none⟩) 2 2) hb (by first | omega | (simp; done) | (simp; omega)) (by first | assumption | exact cell_alloc_l _ (by assumption) | simp [go_sem])
  have t14_0_3 := keep_cell (b := w1.heap.size) (o := 3) (v := .slice (some ⟨b3, 0, none⟩) 2 2) hb (by first | omega | (simp; done) | (simp; omega)) (by first | assumption | exact cell_alloc_l _ (by assumption) | simp [go_sem])
  have t14_l1 := keep_lt (b := w4.heap.size) hb (by first | omega | (simp; done) | (simp; omega))
  have t14_1_0 := keep_cell (b := w4.heap.size) (o := 0) (v := .int .i64 839) hb (by first | omega | (simp; done) | (simp; omega)) (by first | assumption | exact cell_alloc_l _ (by assumption) | simp [go_sem])
  have t14_1_1 := keep_cell (b := w4.heap.size) (o := 1) (v := .int .i64 12) hb (by first | omega | (simp; done) | (simp; omega)) (by first | assumption | exact cell_alloc_l _ (by assumption) | simp [go_sem])
  have t14_l2 := keep_lt (b := w5.heap.size) hb (by first | omega | (simp; done) | (simp; omega))
  have t14_2_0 := keep_cell (b := w5.heap.size) (o := 0) (v := .int .i64 475) hb (by first | omega | (simp; done) | (simp; omega)) (by first | assumption | exact cell_alloc_l _ (by assumption) | simp [go_sem])
  have t14_2_1 := keep_cell (b := w5.heap.size) (o := 1) (v := .int .i64 1) hb (by first | omega | (simp; done) | (simp; omega)) (by first | assumption | exact cell_alloc_l _ (by assumption) | simp [go_sem])
  have t14_l3 := keep_lt (b := w7.heap.size) hb (by first | omega | (simp; done) | (simp; omega))
  have t14_3_0 := keep_cell (b := w7.heap.size) (o := 0) (v := .bool true) hb (by first | omega | (simp; done) | (simp; omega)) (by first | assumption | exact cell_alloc_l _ (by assumption) | simp [go_sem])
  have t14_3_1 := keep_cell (b := w7.heap.size) (o := 1) (v := .int .i64 0) hb (by first | omega | (simp; done) | (simp; omega)) (by first | assumption | exact cell_alloc_l _ (by assumption) | simp [go_sem])
  have t14_3_2 := keep_cell (b := w7.heap.size) (o := 2) (v := .int .i64 59) hb (by first | omega | (simp; done) | (simp; omega)) (by first | assumption | exact cell_alloc_l _ (by assumption) | simp [go_sem])
  have t14_l4 := keep_lt (b := w8.heap.size) hb (by first | omega | (simp; done) | (simp; omega))
  have t14_4_0 := keep_cell (b := w8.heap.size) (o := 0) (v := .bool true) hb (by first | omega | (simp; done) | (simp; omega)) (by first | assumption | exact cell_alloc_l _ (by assumption) | simp [go_sem])
  have t14_4_1 := keep_cell (b := w8.heap.size) (o := 1) (v := .int .i64 1) hb (by first | omega | (simp; done) | (simp; omega)) (by first | assumption | exact cell_alloc_l _ (by assumption) | simp [go_sem])
  have t14_4_2 := keep_cell (b := w8.heap.size) (o := 2) (v := .int .i64 5) hb (by first | omega | (simp; done) | (simp; omega)) (by first | assumption | exact cell_alloc_l _ (by assumption) | simp [go_sem])
  have t14_l5 := keep_lt (b := w9.heap.size) hb (by first | omega | (simp; done) | (simp; omega))
  have t14_5_0 := keep_cell (b := w9.heap.size) (o := 0) (v := .int .i64 669) hb (by first | omega | (simp; done) | (simp; omega)) (by first | assumption | exact cell_alloc_l _ (by assumption) | simp [go_sem])
  have t14_5_1 := keep_cell (b := w9.heap.size) (o := 1) (v := .int .i64 670) hb (by first | omega | (simp; done) | (simp; omega)) (by first | assumption | exact cell_alloc_l _ (by assumption) | simp [go_sem])
  have t14_l6 := keep_lt (b := w12.heap.size) hb (by first | omega | (simp; done) | (simp; omega))
  have t14_6_0 := keep_cell (b := w12.heap.size) (o := 0) (v := .int .i64 4) hb (by first | omega | (simp; done) | (simp; omega)) (by first | assumption | exact cell_alloc_l _ (by assumption) | simp [go_sem])
  have t14_6_1 := keep_cell (b := w12.heap.size) (o := 1) (v := .int .i64 13) hb (by first | omega | (simp; done) | (simp; omega)) (by first | assumption | exact cell_alloc_l _ (by assumption) | simp [go_sem])
  have t14_6_2 := keep_cell (b := w12.heap.size) (o := 2) (v := .int .i64 6) hb (by first | omega | (simp; done) | (simp; omega)) (by first | assumption | exact cell_alloc_l _ (by assumption) | simp [go_sem])
  clear t13_0_0 t13_0_1 t13_0_2 t13_0_3 t13_l0 t13_1_0 t13_1_1 t13_l1 t13_2_0 t13_2_1 t13_l2 t13_3_0 t13_3_1 t13_3_2 t13_l3 t13_4_0 t13_4_1 t13_4_2 t13_l4 t13_5_0 t13_5_1 t13_l5 t13_6_0 t13_6_1 t13_6_2 t13_l6
  clear hb
  go_wp2_with fail
  refine (exPrint _).mono ?_
  rintro e w15 ⟨rfl, hb⟩
  have HB15 := Lib.hid (bjoin (w := w) HB14.out hb)
  have HC15 := Lib.hid (bjoin (w := w1) HC14.out hb)
  have t15_l0 := keep_lt (b := w1.heap.size) hb (by first | omega | (simp; done) | (simp; omega))
  have t15_0_0 := keep_cell (b := w1.heap.size) (o := 0) (v := .int .i64 365) hb (by first | omega | (simp; done) | (simp; omega)) (by first | assumption | exact cell_alloc_l _ (by assumption) | simp [go_sem])
  have t15_0_1 := keep_cell (b := w1.heap.size) (o := 1) (v := .slice (some ⟨b1, 0, none⟩) 2 2) hb (by first | omega | (simp; done) | (simp; omega)) (by first | assumption | exact cell_alloc_l _ (by assumption) | simp [go_sem])
  have t15_0_2 := keep_cell (b := w1.heap.size) (o := 2) (v := .slice (some ⟨b2, 0, none⟩) 2 2) hb (by first | omega | (simp; done) | (simp; omega)) (by first | assumption | exact cell_alloc_l _ (by assumption) | simp [go_sem])
  have t15_0_3 := keep_cell (b := w1.heap.size) (o := 3) (v := .slice (some ⟨b3, 0, none⟩) 2 2) hb (by first | omega | (simp; done) | (simp; omega)) (by first | assumption | exact cell_alloc_l _ (by assumption) | simp [go_sem])
  have t15_l1 := keep_lt (b := w4.heap.size) hb (by first | omega | (simp; done) | (simp; omega))
  have t15_1_0 := keep_cell (b := w4.heap.size) (o := 0) (v := .int .i64 839) hb (by first | omega | (simp; done) | (simp; omega)) (by first | assumption | exact cell_alloc_l _ (by assumption) | simp [go_sem])
  have t15_1_1 := keep_cell (b := w4.heap.size) (o := 1) (v := .int .i64 12) hb (by first | omega | (simp; done) | (simp; omega)) (by first | assumption | exact cell_alloc_l _ (by assumption) | simp [go_sem])
  have t15_l2 := keep_lt (b := w5.heap.size) hb (by first | omega | (simp; done) | (simp; omega))
  have t15_2_0 := keep_cell (b := w5.heap.size) (o := 0) (v := .int .i64 475) hb (by first | omega | (simp; done) | (simp; omega)) (by first | assumption | exact cell_alloc_l _ (by assumption) | simp [go_sem])
  have t15_2_1 := keep_cell (b := w5.heap.size) (o := 1) (v := .int .i64 1) hb (by first | omega | (simp; done) | (simp; omega)) (by first | assumption | exact cell_alloc_l _ (by assumption) | simp [go_sem])
  have t15_l3 := keep_lt (b := w7.heap.size) hb (by first | omega | (simp; done) | (simp; omega))
  have t15_3_0 := keep_cell (b := w7.heap.size) (o := 0) (v := .bool true) hb (by first | omega | (simp; done) | (simp; omega)) (by first | assumption | exact cell_alloc_l _ (by assumption) | simp [go_sem])
  have t15_3_1 := keep_cell (b := w7.heap.size) (o := 1) (v := .int .i64 0) hb (by first | omega | (simp; done) | (simp; omega)) (by first | assumption | exact cell_alloc_l _ (by assumption) | simp [go_sem])
  have t15_3_2 := keep_cell (b := w7.heap.size) (o := 2) (v := .int .i64 59) hb (by first | omega | (simp; done) | (simp; omega)) (by first | assumption | exact cell_alloc_l _ (by assumption) | simp [go_sem])
  have t15_l4 := keep_lt (b := w8.heap.size) hb (by first | omega | (simp; done) | (simp; omega))
  have t15_4_0 := keep_cell (b := w8.heap.size) (o := 0) (v := .bool true) hb (by first | omega | (simp; done) | (simp; omega)) (by first | assumption | exact cell_alloc_l _ (by assumption) | simp [go_sem])
  have t15_4_1 := keep_cell (b := w8.heap.size) (o := 1) (v := .int .i64 1) hb (by first | omega | (simp; done) | (simp; omega)) (by first | assumption | exact cell_alloc_l _ (by assumption) | simp [go_sem])
  have t15_4_2 := keep_cell (b := w8.heap.size) (o := 2) (v := .int .i64 5) hb (by first | omega | (simp; done) | (simp; omega)) (by first | assumption | exact cell_alloc_l _ (by assumption) | simp [go_sem])
  have t15_l5 := keep_lt (b := w9.heap.size) hb (by first | omega | (simp; done) | (simp; omega))
  have t15_5_0 := keep_cell (b := w9.heap.size) (o := 0) (v := .int .i64 669) hb (by first | omega | (simp; done) | (simp; omega)) (by first | assumption | exact cell_alloc_l _ (by assumption) | simp [go_sem])
  have t15_5_1 := keep_cell (b := w9.heap.size) (o := 1) (v := .int .i64 670) hb (by first | omega | (simp; done) | (simp; omega)) (by first | assumption | exact cell_alloc_l _ (by assumption) | simp [go_sem])
  have t15_l6 := keep_lt (b := w12.heap.size) hb (by first | omega | (simp; done) | (simp; omega))
  have t15_6_0 := keep_cell (b := w12.heap.size) (o := 0) (v := .int .i64 4) hb (by first | omega | (simp; done) | (simp; omega)) (by first | assumption | exact cell_alloc_l _ (by assumption) | simp [go_sem])
  have t15_6_1 := keep_cell (b := w12.heap.size) (o := 1) (v := .int .i64 13) hb (by first | omega | (simp; done) | (simp; omega)) (by first | assumption | exact cell_alloc_l _ (by assumption) | simp [go_sem])
  have t15_6_2 := keep_cell (b := w12.heap.size) (o := 2) (v := .int .i64 6) hb (by first | omega | (simp; done) | (simp; omega)) (by first | assumption | exact cell_alloc_l _ (by assumption) | simp [go_sem])
  clear t14_0_0 t14_0_1 t14_0_2 t14_0_3 t14_l0 t14_1_0 t14_1_1 t14_l1 t14_2_0 t14_2_1 t14_l2 t14_3_0 t14_3_1 t14_3_2 t14_l3 t14_4_0 t14_4_1 t14_4_2 t14_l4 t14_5_0 t14_5_1 t14_l5 t14_6_0 t14_6_1 t14_6_2 t14_l6
  clear hb
  go_wp2_with fail
  refine (exNil _).mono ?_
  rintro e w16 ⟨rfl, hb⟩
  have HB16 := Lib.hid (bjoin (w := w) HB15.out hb)
  have HC16 := Lib.hid (bjoin (w := w1) HC15.out hb)
  have t16_l0 := keep_lt (b := w1.heap.size) hb (by first | omega | (simp; done) | (simp; omega))
  have t16_0_0 := keep_cell (b := w1.heap.size) (o := 0) (v := .int .i64 365) hb (by first | omega | (simp; done) | (simp; omega)) (by first | assumption | exact cell_alloc_l _ (by assumption) | simp [go_sem])
  have t16_0_1 := keep_cell (b := w1.heap.size) (o := 1) (v := .slice (some ⟨b1, 0, none⟩) 2 2) hb (by first | omega | (simp; done) | (simp; omega)) (by first | assumption | exact cell_alloc_l _ (by assumption) | simp [go_sem])
  have t16_0_2 := keep_cell (b := w1.heap.size) (o := 2) (v := .slice (some ⟨b2, 0, none⟩) 2 2) hb (by first | omega | (simp; done) | (simp; omega)) (by first | assumption | exact cell_alloc_l _ (by assumption) | simp [go_sem])
  have t16_0_3 := keep_cell (b := w1.heap.size) (o := 3) (v := .slice (some ⟨b3, 0, none⟩) 2 2) hb (by first | omega | (simp; done) | (simp; omega)) (by first | assumption | exact cell_alloc_l _ (by assumption) | simp [go_sem])
  have t16_l1 := keep_lt (b := w4.heap.size) hb (by first | omega | (simp; done) | (simp; omega))
  have t16_1_0 := keep_cell (b := w4.heap.size) (o := 0) (v := .int .i64 839) hb (by first | omega | (simp; done) | (simp; omega)) (by first | assumption | exact cell_alloc_l _ (by assumption) | simp [go_sem])
  have t16_1_1 := keep_cell (b := w4.heap.size) (o := 1) (v := .int .i64 12) hb (by first | omega | (simp; done) | (simp; omega)) (by first | assumption | exact cell_alloc_l _ (by assumption) | simp [go_sem])
  have t16_l2 := keep_lt (b := w5.heap.size) hb (by first | omega | (simp; done) | (simp; omega))
  have t16_2_0 := keep_cell (b := w5.heap.size) (o := 0) (v := .int .i64 475) hb (by first | omega | (simp; done) | (simp; omega)) (by first | assumption | exact cell_alloc_l _ (by assumption) | simp [go_sem])
  have t16_2_1 := keep_cell (b := w5.heap.size) (o := 1) (v := .int .i64 1) hb (by first | omega | (simp; done) | (simp; omega)) (by first | assumption | exact cell_alloc_l _ (by assumption) | simp [go_sem])
  have t16_l3 := keep_lt (b := w7.heap.size) hb (by first | omega | (simp; done) | (simp; omega))
  have t16_3_0 := keep_cell (b := w7.heap.size) (o := 0) (v := .bool true) hb (by first | omega | (simp; done) | (simp; omega)) (by first | assumption | exact cell_alloc_l _ (by assumption) | simp [go_sem])
  have t16_3_1 := keep_cell (b := w7.heap.size) (o := 1) (v := .int .i64 0) hb (by first | omega | (simp; done) | (simp; omega)) (by first | assumption | exact cell_alloc_l _ (by assumption) | simp [go_sem])
  have t16_3_2 := keep_cell (b := w7.heap.size) (o := 2) (v := .int .i64 59) hb (by first | omega | (simp; done) | (simp; omega)) (by first | assumption | exact cell_alloc_l _ (by assumption) | simp [go_sem])
  have t16_l4 := keep_lt (b := w8.heap.size) hb (by first | omega | (simp; done) | (simp; omega))
  have t16_4_0 := keep_cell (b := w8.heap.size) (o := 0) (v := .bool true) hb (by first | omega | (simp; done) | (simp; omega)) (by first | assumption | exact cell_alloc_l _ (by assumption) | simp [go_sem])
  have t16_4_1 := keep_cell (b := w8.heap.size) (o := 1) (v := .int .i64 1) hb (by first | omega | (simp; done) | (simp; omega)) (by first | assumption | exact cell_alloc_l _ (by assumption) | simp [go_sem])
  have t16_4_2 := keep_cell (b := w8.heap.size) (o := 2) (v := .int .i64 5) hb (by first | omega | (simp; done) | (simp; omega)) (by first | assumption | exact cell_alloc_l _ (by assumption) | simp [go_sem])
  have t16_l5 := keep_lt (b := w9.heap.size) hb (by first | omega | (simp; done) | (simp; omega))
  have t16_5_0 := keep_cell (b := w9.heap.size) (o := 0) (v := .int .i64 669) hb (by first | omega | (simp; done) | (simp; omega)) (by first | assumption | exact cell_alloc_l _ (by assumption) | simp [go_sem])
  have t16_5_1 := keep_cell (b := w9.heap.size) (o := 1) (v := .int .i64 670) hb (by first | omega | (simp; done) | (simp; omega)) (by first | assumption | exact cell_alloc_l _ (by assumption) | simp [go_sem])
  have t16_l6 := keep_lt (b := w12.heap.size) hb (by first | omega | (simp; done) | (simp; omega))
  have t16_6_0 := keep_cell (b := w12.heap.size) (o := 0) (v := .int .i64 4) hb (by first | omega | (simp; done) | (simp; omega)) (by first | assumption | exact cell_alloc_l _ (by assumption) | simp [go_sem])
  have t16_6_1 := keep_cell (b := w12.heap.size) (o := 1) (v := .int .i64 13) hb (by first | omega | (simp; done) | (simp; omega)) (by first | assumption | exact cell_alloc_l _ (by assumption) | simp [go_sem])
  have t16_6_2 := keep_cell (b := w12.heap.size) (o := 2) (v := .int .i64 6) hb (by first | omega | (simp; done) | (simp; omega)) (by first | assumption | exact cell_alloc_l _ (by assumption) | simp [go_sem])
  clear t15_0_0 t15_0_1 t15_0_2 t15_0_3 t15_l0 t15_1_0 t15_1_1 t15_l1 t15_2_0 t15_2_1 t15_l2 t15_3_0 t15_3_1 t15_3_2 t15_l3 t15_4_0 t15_4_1 t15_4_2 t15_l4 t15_5_0 t15_5_1 t15_l5 t15_6_0 t15_6_1 t15_6_2 t15_l6
  clear hb
  go_wp2_with fail
  go_ret
  exact ⟨rfl, HB16.out⟩

end Go.Proofs.YtomlfliebolkmaaDoor
