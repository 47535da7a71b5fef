/-
  HoursDates: the walk. No condition.
-/
import Derived.Test.YtomlfliebolkmaaDoorCJ
import Derived.Test.YtomlfliebolkmaaDoorKb
set_option linter.unusedVariables false
set_option linter.unusedSimpArgs false
namespace Go.Proofs.YtomlfliebolkmaaDoor
open Go Go.Proofs Go.RowKit Pl

set_option maxRecDepth 100000 in
set_option maxHeartbeats 20000000 in
theorem Dates_any (day y m d : Int) (w : World) :
   Calls Tryd.prog 8 #[.int .i64 day, .agg #[.int .i64 y, .int .i64 m, .int .i64 d]] w fun e w' => e = .returned (.bool true) ∧ Below w.heap.size w w' := by
  go_enter Tryd.func8, Tryd.ntmps8
  go_wp2_with fail
  refine (sane_any _).mono ?_
  rintro e w1 ⟨rfl, hb⟩
  have HB1 := Lib.hid (bjoin (w := w) ((Below.refl w.heap.size w).alloc (by first | (simp; done) | (have := (Below.refl w.heap.size w).size; simp; omega) | (have := (Below.refl w.heap.size w).size; omega)) _) hb)
  have t1_l0 := keep_lt (b := w.heap.size) hb (by first | omega | (simp; done) | (simp; omega))
  have t1_0_0 := keep_cell (b := w.heap.size) (o := 0) (v := .int .i64 y) hb (by first | omega | (simp; done) | (simp; omega)) (by first | assumption | exact cell_alloc_l _ (by assumption) | exact cell_alloc_l _ (cell_alloc_l _ (by assumption)) | simp [go_sem])
  have t1_0_1 := keep_cell (b := w.heap.size) (o := 1) (v := .int .i64 m) hb (by first | omega | (simp; done) | (simp; omega)) (by first | assumption | exact cell_alloc_l _ (by assumption) | exact cell_alloc_l _ (cell_alloc_l _ (by assumption)) | simp [go_sem])
  have t1_0_2 := keep_cell (b := w.heap.size) (o := 2) (v := .int .i64 d) hb (by first | omega | (simp; done) | (simp; omega)) (by first | assumption | exact cell_alloc_l _ (by assumption) | exact cell_alloc_l _ (cell_alloc_l _ (by assumption)) | simp [go_sem])
  clear hb
  go_wp2_with fail
  refine (cOf_any day _).mono ?_
  rintro e w2 ⟨rfl, hb⟩
  have HB2 := Lib.hid (bjoin (w := w) HB1.out hb)
  have t2_l0 := keep_lt (b := w.heap.size) hb (by first | omega | (simp; done) | (simp; omega))
  have t2_0_0 := keep_cell (b := w.heap.size) (o := 0) (v := .int .i64 y) hb (by first | omega | (simp; done) | (simp; omega)) (by first | assumption | exact cell_alloc_l _ (by assumption) | exact cell_alloc_l _ (cell_alloc_l _ (by assumption)) | simp [go_sem])
  have t2_0_1 := keep_cell (b := w.heap.size) (o := 1) (v := .int .i64 m) hb (by first | omega | (simp; done) | (simp; omega)) (by first | assumption | exact cell_alloc_l _ (by assumption) | exact cell_alloc_l _ (cell_alloc_l _ (by assumption)) | simp [go_sem])
  have t2_0_2 := keep_cell (b := w.heap.size) (o := 2) (v := .int .i64 d) hb (by first | omega | (simp; done) | (simp; omega)) (by first | assumption | exact cell_alloc_l _ (by assumption) | exact cell_alloc_l _ (cell_alloc_l _ (by assumption)) | simp [go_sem])
  clear t1_0_0 t1_0_1 t1_0_2 t1_l0
  clear hb
  go_wp2_with fail
  refine (rCourt_any day _).mono ?_
  rintro e w3 ⟨rfl, hb⟩
  have HB3 := Lib.hid (bjoin (w := w) (HB2.out.alloc (by first | (simp; done) | (have := HB2.out.size; simp; omega) | (have := HB2.out.size; omega)) _) hb)
  have t3_l0 := keep_lt (b := w.heap.size) hb (by first | omega | (simp; done) | (simp; omega))
  have t3_0_0 := keep_cell (b := w.heap.size) (o := 0) (v := .int .i64 y) hb (by first | omega | (simp; done) | (simp; omega)) (by first | assumption | exact cell_alloc_l _ (by assumption) | exact cell_alloc_l _ (cell_alloc_l _ (by assumption)) | simp [go_sem])
  have t3_0_1 := keep_cell (b := w.heap.size) (o := 1) (v := .int .i64 m) hb (by first | omega | (simp; done) | (simp; omega)) (by first | assumption | exact cell_alloc_l _ (by assumption) | exact cell_alloc_l _ (cell_alloc_l _ (by assumption)) | simp [go_sem])
  have t3_0_2 := keep_cell (b := w.heap.size) (o := 2) (v := .int .i64 d) hb (by first | omega | (simp; done) | (simp; omega)) (by first | assumption | exact cell_alloc_l _ (by assumption) | exact cell_alloc_l _ (cell_alloc_l _ (by assumption)) | simp [go_sem])
  have t3_l1 := keep_lt (b := w2.heap.size) hb (by first | omega | (simp; done) | (simp; omega))
  have t3_1_0 := keep_cell (b := w2.heap.size) (o := 0) (v := .int .i64 (onOk (dayE 3652055 day) (yrC day))) hb (by first | omega | (simp; done) | (simp; omega)) (by first | assumption | exact cell_alloc_l _ (by assumption) | exact cell_alloc_l _ (cell_alloc_l _ (by assumption)) | simp [go_sem])
  have t3_1_1 := keep_cell (b := w2.heap.size) (o := 1) (v := .int .i64 (onOk (dayE 3652055 day) (moC day))) hb (by first | omega | (simp; done) | (simp; omega)) (by first | assumption | exact cell_alloc_l _ (by assumption) | exact cell_alloc_l _ (cell_alloc_l _ (by assumption)) | simp [go_sem])
  have t3_1_2 := keep_cell (b := w2.heap.size) (o := 2) (v := .int .i64 (onOk (dayE 3652055 day) (daC day))) hb (by first | omega | (simp; done) | (simp; omega)) (by first | assumption | exact cell_alloc_l _ (by assumption) | exact cell_alloc_l _ (cell_alloc_l _ (by assumption)) | simp [go_sem])
  clear t2_0_0 t2_0_1 t2_0_2 t2_l0
  clear hb
  go_wp2_with fail
  refine (cDay_any y m d _).mono ?_
  rintro e w4 ⟨rfl, hb⟩
  have HB4 := Lib.hid (bjoin (w := w) (HB3.out.alloc (by first | (simp; done) | (have := HB3.out.size; simp; omega) | (have := HB3.out.size; omega)) _) hb)
  have t4_l0 := keep_lt (b := w.heap.size) hb (by first | omega | (simp; done) | (simp; omega))
  have t4_0_0 := keep_cell (b := w.heap.size) (o := 0) (v := .int .i64 y) hb (by first | omega | (simp; done) | (simp; omega)) (by first | assumption | exact cell_alloc_l _ (by assumption) | exact cell_alloc_l _ (cell_alloc_l _ (by assumption)) | simp [go_sem])
  have t4_0_1 := keep_cell (b := w.heap.size) (o := 1) (v := .int .i64 m) hb (by first | omega | (simp; done) | (simp; omega)) (by first | assumption | exact cell_alloc_l _ (by assumption) | exact cell_alloc_l _ (cell_alloc_l _ (by assumption)) | simp [go_sem])
  have t4_0_2 := keep_cell (b := w.heap.size) (o := 2) (v := .int .i64 d) hb (by first | omega | (simp; done) | (simp; omega)) (by first | assumption | exact cell_alloc_l _ (by assumption) | exact cell_alloc_l _ (cell_alloc_l _ (by assumption)) | simp [go_sem])
  have t4_l1 := keep_lt (b := w2.heap.size) hb (by first | omega | (simp; done) | (simp; omega))
  have t4_1_0 := keep_cell (b := w2.heap.size) (o := 0) (v := .int .i64 (onOk (dayE 3652055 day) (yrC day))) hb (by first | omega | (simp; done) | (simp; omega)) (by first | assumption | exact cell_alloc_l _ (by assumption) | exact cell_alloc_l _ (cell_alloc_l _ (by assumption)) | simp [go_sem])
  have t4_1_1 := keep_cell (b := w2.heap.size) (o := 1) (v := .int .i64 (onOk (dayE 3652055 day) (moC day))) hb (by first | omega | (simp; done) | (simp; omega)) (by first | assumption | exact cell_alloc_l _ (by assumption) | exact cell_alloc_l _ (cell_alloc_l _ (by assumption)) | simp [go_sem])
  have t4_1_2 := keep_cell (b := w2.heap.size) (o := 2) (v := .int .i64 (onOk (dayE 3652055 day) (daC day))) hb (by first | omega | (simp; done) | (simp; omega)) (by first | assumption | exact cell_alloc_l _ (by assumption) | exact cell_alloc_l _ (cell_alloc_l _ (by assumption)) | simp [go_sem])
  have t4_l2 := keep_lt (b := w3.heap.size) hb (by first | omega | (simp; done) | (simp; omega))
  have t4_2_0 := keep_cell (b := w3.heap.size) (o := 0) (v := .int .i64 (onOk (dayE 3652055 day) (yrC day))) hb (by first | omega | (simp; done) | (simp; omega)) (by first | assumption | exact cell_alloc_l _ (by assumption) | exact cell_alloc_l _ (cell_alloc_l _ (by assumption)) | simp [go_sem])
  have t4_2_1 := keep_cell (b := w3.heap.size) (o := 1) (v := .int .i64 (onOk (dayE 3652055 day) (moC day))) hb (by first | omega | (simp; done) | (simp; omega)) (by first | assumption | exact cell_alloc_l _ (by assumption) | exact cell_alloc_l _ (cell_alloc_l _ (by assumption)) | simp [go_sem])
  have t4_2_2 := keep_cell (b := w3.heap.size) (o := 2) (v := .int .i64 (onOk (dayE 3652055 day) (daC day))) hb (by first | omega | (simp; done) | (simp; omega)) (by first | assumption | exact cell_alloc_l _ (by assumption) | exact cell_alloc_l _ (cell_alloc_l _ (by assumption)) | simp [go_sem])
  clear t3_0_0 t3_0_1 t3_0_2 t3_l0 t3_1_0 t3_1_1 t3_1_2 t3_l1
  clear hb
  go_wp2_with fail
  refine (rCDay_any y m d _).mono ?_
  rintro e w5 ⟨rfl, hb⟩
  have HB5 := Lib.hid (bjoin (w := w) HB4.out hb)
  have t5_l0 := keep_lt (b := w.heap.size) hb (by first | omega | (simp; done) | (simp; omega))
  have t5_0_0 := keep_cell (b := w.heap.size) (o := 0) (v := .int .i64 y) hb (by first | omega | (simp; done) | (simp; omega)) (by first | assumption | exact cell_alloc_l _ (by assumption) | exact cell_alloc_l _ (cell_alloc_l _ (by assumption)) | simp [go_sem])
  have t5_0_1 := keep_cell (b := w.heap.size) (o := 1) (v := .int .i64 m) hb (by first | omega | (simp; done) | (simp; omega)) (by first | assumption | exact cell_alloc_l _ (by assumption) | exact cell_alloc_l _ (cell_alloc_l _ (by assumption)) | simp [go_sem])
  have t5_0_2 := keep_cell (b := w.heap.size) (o := 2) (v := .int .i64 d) hb (by first | omega | (simp; done) | (simp; omega)) (by first | assumption | exact cell_alloc_l _ (by assumption) | exact cell_alloc_l _ (cell_alloc_l _ (by assumption)) | simp [go_sem])
  have t5_l1 := keep_lt (b := w2.heap.size) hb (by first | omega | (simp; done) | (simp; omega))
  have t5_1_0 := keep_cell (b := w2.heap.size) (o := 0) (v := .int .i64 (onOk (dayE 3652055 day) (yrC day))) hb (by first | omega | (simp; done) | (simp; omega)) (by first | assumption | exact cell_alloc_l _ (by assumption) | exact cell_alloc_l _ (cell_alloc_l _ (by assumption)) | simp [go_sem])
  have t5_1_1 := keep_cell (b := w2.heap.size) (o := 1) (v := .int .i64 (onOk (dayE 3652055 day) (moC day))) hb (by first | omega | (simp; done) | (simp; omega)) (by first | assumption | exact cell_alloc_l _ (by assumption) | exact cell_alloc_l _ (cell_alloc_l _ (by assumption)) | simp [go_sem])
  have t5_1_2 := keep_cell (b := w2.heap.size) (o := 2) (v := .int .i64 (onOk (dayE 3652055 day) (daC day))) hb (by first | omega | (simp; done) | (simp; omega)) (by first | assumption | exact cell_alloc_l _ (by assumption) | exact cell_alloc_l _ (cell_alloc_l _ (by assumption)) | simp [go_sem])
  have t5_l2 := keep_lt (b := w3.heap.size) hb (by first | omega | (simp; done) | (simp; omega))
  have t5_2_0 := keep_cell (b := w3.heap.size) (o := 0) (v := .int .i64 (onOk (dayE 3652055 day) (yrC day))) hb (by first | omega | (simp; done) | (simp; omega)) (by first | assumption | exact cell_alloc_l _ (by assumption) | exact cell_alloc_l _ (cell_alloc_l _ (by assumption)) | simp [go_sem])
  have t5_2_1 := keep_cell (b := w3.heap.size) (o := 1) (v := .int .i64 (onOk (dayE 3652055 day) (moC day))) hb (by first | omega | (simp; done) | (simp; omega)) (by first | assumption | exact cell_alloc_l _ (by assumption) | exact cell_alloc_l _ (cell_alloc_l _ (by assumption)) | simp [go_sem])
  have t5_2_2 := keep_cell (b := w3.heap.size) (o := 2) (v := .int .i64 (onOk (dayE 3652055 day) (daC day))) hb (by first | omega | (simp; done) | (simp; omega)) (by first | assumption | exact cell_alloc_l _ (by assumption) | exact cell_alloc_l _ (cell_alloc_l _ (by assumption)) | simp [go_sem])
  clear t4_0_0 t4_0_1 t4_0_2 t4_l0 t4_1_0 t4_1_1 t4_1_2 t4_l1 t4_2_0 t4_2_1 t4_2_2 t4_l2
  clear hb
  go_wp2_with fail
  refine (mOf_any day _).mono ?_
  rintro e w6 ⟨rfl, hb⟩
  have HB6 := Lib.hid (bjoin (w := w) HB5.out hb)
  have t6_l0 := keep_lt (b := w.heap.size) hb (by first | omega | (simp; done) | (simp; omega))
  have t6_0_0 := keep_cell (b := w.heap.size) (o := 0) (v := .int .i64 y) hb (by first | omega | (simp; done) | (simp; omega)) (by first | assumption | exact cell_alloc_l _ (by assumption) | exact cell_alloc_l _ (cell_alloc_l _ (by assumption)) | simp [go_sem])
  have t6_0_1 := keep_cell (b := w.heap.size) (o := 1) (v := .int .i64 m) hb (by first | omega | (simp; done) | (simp; omega)) (by first | assumption | exact cell_alloc_l _ (by assumption) | exact cell_alloc_l _ (cell_alloc_l _ (by assumption)) | simp [go_sem])
  have t6_0_2 := keep_cell (b := w.heap.size) (o := 2) (v := .int .i64 d) hb (by first | omega | (simp; done) | (simp; omega)) (by first | assumption | exact cell_alloc_l _ (by assumption) | exact cell_alloc_l _ (cell_alloc_l _ (by assumption)) | simp [go_sem])
  have t6_l1 := keep_lt (b := w2.heap.size) hb (by first | omega | (simp; done) | (simp; omega))
  have t6_1_0 := keep_cell (b := w2.heap.size) (o := 0) (v := .int .i64 (onOk (dayE 3652055 day) (yrC day))) hb (by first | omega | (simp; done) | (simp; omega)) (by first | assumption | exact cell_alloc_l _ (by assumption) | exact cell_alloc_l _ (cell_alloc_l _ (by assumption)) | simp [go_sem])
  have t6_1_1 := keep_cell (b := w2.heap.size) (o := 1) (v := .int .i64 (onOk (dayE 3652055 day) (moC day))) hb (by first | omega | (simp; done) | (simp; omega)) (by first | assumption | exact cell_alloc_l _ (by assumption) | exact cell_alloc_l _ (cell_alloc_l _ (by assumption)) | simp [go_sem])
  have t6_1_2 := keep_cell (b := w2.heap.size) (o := 2) (v := .int .i64 (onOk (dayE 3652055 day) (daC day))) hb (by first | omega | (simp; done) | (simp; omega)) (by first | assumption | exact cell_alloc_l _ (by assumption) | exact cell_alloc_l _ (cell_alloc_l _ (by assumption)) | simp [go_sem])
  have t6_l2 := keep_lt (b := w3.heap.size) hb (by first | omega | (simp; done) | (simp; omega))
  have t6_2_0 := keep_cell (b := w3.heap.size) (o := 0) (v := .int .i64 (onOk (dayE 3652055 day) (yrC day))) hb (by first | omega | (simp; done) | (simp; omega)) (by first | assumption | exact cell_alloc_l _ (by assumption) | exact cell_alloc_l _ (cell_alloc_l _ (by assumption)) | simp [go_sem])
  have t6_2_1 := keep_cell (b := w3.heap.size) (o := 1) (v := .int .i64 (onOk (dayE 3652055 day) (moC day))) hb (by first | omega | (simp; done) | (simp; omega)) (by first | assumption | exact cell_alloc_l _ (by assumption) | exact cell_alloc_l _ (cell_alloc_l _ (by assumption)) | simp [go_sem])
  have t6_2_2 := keep_cell (b := w3.heap.size) (o := 2) (v := .int .i64 (onOk (dayE 3652055 day) (daC day))) hb (by first | omega | (simp; done) | (simp; omega)) (by first | assumption | exact cell_alloc_l _ (by assumption) | exact cell_alloc_l _ (cell_alloc_l _ (by assumption)) | simp [go_sem])
  clear t5_0_0 t5_0_1 t5_0_2 t5_l0 t5_1_0 t5_1_1 t5_1_2 t5_l1 t5_2_0 t5_2_1 t5_2_2 t5_l2
  clear hb
  go_wp2_with fail
  refine (rMarket_any day _).mono ?_
  rintro e w7 ⟨rfl, hb⟩
  have HB7 := Lib.hid (bjoin (w := w) (HB6.out.alloc (by first | (simp; done) | (have := HB6.out.size; simp; omega) | (have := HB6.out.size; omega)) _) hb)
  have t7_l0 := keep_lt (b := w.heap.size) hb (by first | omega | (simp; done) | (simp; omega))
  have t7_0_0 := keep_cell (b := w.heap.size) (o := 0) (v := .int .i64 y) hb (by first | omega | (simp; done) | (simp; omega)) (by first | assumption | exact cell_alloc_l _ (by assumption) | exact cell_alloc_l _ (cell_alloc_l _ (by assumption)) | simp [go_sem])
  have t7_0_1 := keep_cell (b := w.heap.size) (o := 1) (v := .int .i64 m) hb (by first | omega | (simp; done) | (simp; omega)) (by first | assumption | exact cell_alloc_l _ (by assumption) | exact cell_alloc_l _ (cell_alloc_l _ (by assumption)) | simp [go_sem])
  have t7_0_2 := keep_cell (b := w.heap.size) (o := 2) (v := .int .i64 d) hb (by first | omega | (simp; done) | (simp; omega)) (by first | assumption | exact cell_alloc_l _ (by assumption) | exact cell_alloc_l _ (cell_alloc_l _ (by assumption)) | simp [go_sem])
  have t7_l1 := keep_lt (b := w2.heap.size) hb (by first | omega | (simp; done) | (simp; omega))
  have t7_1_0 := keep_cell (b := w2.heap.size) (o := 0) (v := .int .i64 (onOk (dayE 3652055 day) (yrC day))) hb (by first | omega | (simp; done) | (simp; omega)) (by first | assumption | exact cell_alloc_l _ (by assumption) | exact cell_alloc_l _ (cell_alloc_l _ (by assumption)) | simp [go_sem])
  have t7_1_1 := keep_cell (b := w2.heap.size) (o := 1) (v := .int .i64 (onOk (dayE 3652055 day) (moC day))) hb (by first | omega | (simp; done) | (simp; omega)) (by first | assumption | exact cell_alloc_l _ (by assumption) | exact cell_alloc_l _ (cell_alloc_l _ (by assumption)) | simp [go_sem])
  have t7_1_2 := keep_cell (b := w2.heap.size) (o := 2) (v := .int .i64 (onOk (dayE 3652055 day) (daC day))) hb (by first | omega | (simp; done) | (simp; omega)) (by first | assumption | exact cell_alloc_l _ (by assumption) | exact cell_alloc_l _ (cell_alloc_l _ (by assumption)) | simp [go_sem])
  have t7_l2 := keep_lt (b := w3.heap.size) hb (by first | omega | (simp; done) | (simp; omega))
  have t7_2_0 := keep_cell (b := w3.heap.size) (o := 0) (v := .int .i64 (onOk (dayE 3652055 day) (yrC day))) hb (by first | omega | (simp; done) | (simp; omega)) (by first | assumption | exact cell_alloc_l _ (by assumption) | exact cell_alloc_l _ (cell_alloc_l _ (by assumption)) | simp [go_sem])
  have t7_2_1 := keep_cell (b := w3.heap.size) (o := 1) (v := .int .i64 (onOk (dayE 3652055 day) (moC day))) hb (by first | omega | (simp; done) | (simp; omega)) (by first | assumption | exact cell_alloc_l _ (by assumption) | exact cell_alloc_l _ (cell_alloc_l _ (by assumption)) | simp [go_sem])
  have t7_2_2 := keep_cell (b := w3.heap.size) (o := 2) (v := .int .i64 (onOk (dayE 3652055 day) (daC day))) hb (by first | omega | (simp; done) | (simp; omega)) (by first | assumption | exact cell_alloc_l _ (by assumption) | exact cell_alloc_l _ (cell_alloc_l _ (by assumption)) | simp [go_sem])
  have t7_l3 := keep_lt (b := w6.heap.size) hb (by first | omega | (simp; done) | (simp; omega))
  have t7_3_0 := keep_cell (b := w6.heap.size) (o := 0) (v := .int .i64 (onOk (dayE 3543311 day) (yrM day))) hb (by first | omega | (simp; done) | (simp; omega)) (by first | assumption | exact cell_alloc_l _ (by assumption) | exact cell_alloc_l _ (cell_alloc_l _ (by assumption)) | simp [go_sem])
  have t7_3_1 := keep_cell (b := w6.heap.size) (o := 1) (v := .int .i64 (onOk (dayE 3543311 day) (moM day))) hb (by first | omega | (simp; done) | (simp; omega)) (by first | assumption | exact cell_alloc_l _ (by assumption) | exact cell_alloc_l _ (cell_alloc_l _ (by assumption)) | simp [go_sem])
  have t7_3_2 := keep_cell (b := w6.heap.size) (o := 2) (v := .int .i64 (onOk (dayE 3543311 day) (daM day))) hb (by first | omega | (simp; done) | (simp; omega)) (by first | assumption | exact cell_alloc_l _ (by assumption) | exact cell_alloc_l _ (cell_alloc_l _ (by assumption)) | simp [go_sem])
  clear t6_0_0 t6_0_1 t6_0_2 t6_l0 t6_1_0 t6_1_1 t6_1_2 t6_l1 t6_2_0 t6_2_1 t6_2_2 t6_l2
  clear hb
  go_wp2_with fail
  refine (mDay_any y m d _).mono ?_
  rintro e w8 ⟨rfl, hb⟩
  have HB8 := Lib.hid (bjoin (w := w) (HB7.out.alloc (by first | (simp; done) | (have := HB7.out.size; simp; omega) | (have := HB7.out.size; omega)) _) hb)
  have t8_l0 := keep_lt (b := w.heap.size) hb (by first | omega | (simp; done) | (simp; omega))
  have t8_0_0 := keep_cell (b := w.heap.size) (o := 0) (v := .int .i64 y) hb (by first | omega | (simp; done) | (simp; omega)) (by first | assumption | exact cell_alloc_l _ (by assumption) | exact cell_alloc_l _ (cell_alloc_l _ (by assumption)) | simp [go_sem])
  have t8_0_1 := keep_cell (b := w.heap.size) (o := 1) (v := .int .i64 m) hb (by first | omega | (simp; done) | (simp; omega)) (by first | assumption | exact cell_alloc_l _ (by assumption) | exact cell_alloc_l _ (cell_alloc_l _ (by assumption)) | simp [go_sem])
  have t8_0_2 := keep_cell (b := w.heap.size) (o := 2) (v := .int .i64 d) hb (by first | omega | (simp; done) | (simp; omega)) (by first | assumption | exact cell_alloc_l _ (by assumption) | exact cell_alloc_l _ (cell_alloc_l _ (by assumption)) | simp [go_sem])
  have t8_l1 := keep_lt (b := w2.heap.size) hb (by first | omega | (simp; done) | (simp; omega))
  have t8_1_0 := keep_cell (b := w2.heap.size) (o := 0) (v := .int .i64 (onOk (dayE 3652055 day) (yrC day))) hb (by first | omega | (simp; done) | (simp; omega)) (by first | assumption | exact cell_alloc_l _ (by assumption) | exact cell_alloc_l _ (cell_alloc_l _ (by assumption)) | simp [go_sem])
  have t8_1_1 := keep_cell (b := w2.heap.size) (o := 1) (v := .int .i64 (onOk (dayE 3652055 day) (moC day))) hb (by first | omega | (simp; done) | (simp; omega)) (by first | assumption | exact cell_alloc_l _ (by assumption) | exact cell_alloc_l _ (cell_alloc_l _ (by assumption)) | simp [go_sem])
  have t8_1_2 := keep_cell (b := w2.heap.size) (o := 2) (v := .int .i64 (onOk (dayE 3652055 day) (daC day))) hb (by first | omega | (simp; done) | (simp; omega)) (by first | assumption | exact cell_alloc_l _ (by assumption) | exact cell_alloc_l _ (cell_alloc_l _ (by assumption)) | simp [go_sem])
  have t8_l2 := keep_lt (b := w3.heap.size) hb (by first | omega | (simp; done) | (simp; omega))
  have t8_2_0 := keep_cell (b := w3.heap.size) (o := 0) (v := .int .i64 (onOk (dayE 3652055 day) (yrC day))) hb (by first | omega | (simp; done) | (simp; omega)) (by first | assumption | exact cell_alloc_l _ (by assumption) | exact cell_alloc_l _ (cell_alloc_l _ (by assumption)) | simp [go_sem])
  have t8_2_1 := keep_cell (b := w3.heap.size) (o := 1) (v := .int .i64 (onOk (dayE 3652055 day) (moC day))) hb (by first | omega | (simp; done) | (simp; omega)) (by first | assumption | exact cell_alloc_l _ (by assumption) | exact cell_alloc_l _ (cell_alloc_l _ (by assumption)) | simp [go_sem])
  have t8_2_2 := keep_cell (b := w3.heap.size) (o := 2) (v := .int .i64 (onOk (dayE 3652055 day) (daC day))) hb (by first | omega | (simp; done) | (simp; omega)) (by first | assumption | exact cell_alloc_l _ (by assumption) | exact cell_alloc_l _ (cell_alloc_l _ (by assumption)) | simp [go_sem])
  have t8_l3 := keep_lt (b := w6.heap.size) hb (by first | omega | (simp; done) | (simp; omega))
  have t8_3_0 := keep_cell (b := w6.heap.size) (o := 0) (v := .int .i64 (onOk (dayE 3543311 day) (yrM day))) hb (by first | omega | (simp; done) | (simp; omega)) (by first | assumption | exact cell_alloc_l _ (by assumption) | exact cell_alloc_l _ (cell_alloc_l _ (by assumption)) | simp [go_sem])
  have t8_3_1 := keep_cell (b := w6.heap.size) (o := 1) (v := .int .i64 (onOk (dayE 3543311 day) (moM day))) hb (by first | omega | (simp; done) | (simp; omega)) (by first | assumption | exact cell_alloc_l _ (by assumption) | exact cell_alloc_l _ (cell_alloc_l _ (by assumption)) | simp [go_sem])
  have t8_3_2 := keep_cell (b := w6.heap.size) (o := 2) (v := .int .i64 (onOk (dayE 3543311 day) (daM day))) hb (by first | omega | (simp; done) | (simp; omega)) (by first | assumption | exact cell_alloc_l _ (by assumption) | exact cell_alloc_l _ (cell_alloc_l _ (by assumption)) | simp [go_sem])
  have t8_l4 := keep_lt (b := w7.heap.size) hb (by first | omega | (simp; done) | (simp; omega))
  have t8_4_0 := keep_cell (b := w7.heap.size) (o := 0) (v := .int .i64 (onOk (dayE 3543311 day) (yrM day))) hb (by first | omega | (simp; done) | (simp; omega)) (by first | assumption | exact cell_alloc_l _ (by assumption) | exact cell_alloc_l _ (cell_alloc_l _ (by assumption)) | simp [go_sem])
  have t8_4_1 := keep_cell (b := w7.heap.size) (o := 1) (v := .int .i64 (onOk (dayE 3543311 day) (moM day))) hb (by first | omega | (simp; done) | (simp; omega)) (by first | assumption | exact cell_alloc_l _ (by assumption) | exact cell_alloc_l _ (cell_alloc_l _ (by assumption)) | simp [go_sem])
  have t8_4_2 := keep_cell (b := w7.heap.size) (o := 2) (v := .int .i64 (onOk (dayE 3543311 day) (daM day))) hb (by first | omega | (simp; done) | (simp; omega)) (by first | assumption | exact cell_alloc_l _ (by assumption) | exact cell_alloc_l _ (cell_alloc_l _ (by assumption)) | simp [go_sem])
  clear t7_0_0 t7_0_1 t7_0_2 t7_l0 t7_1_0 t7_1_1 t7_1_2 t7_l1 t7_2_0 t7_2_1 t7_2_2 t7_l2 t7_3_0 t7_3_1 t7_3_2 t7_l3
  clear hb
  go_wp2_with fail
  refine (rMDay_any y m d _).mono ?_
  rintro e w9 ⟨rfl, hb⟩
  have HB9 := Lib.hid (bjoin (w := w) HB8.out hb)
  have t9_l0 := keep_lt (b := w.heap.size) hb (by first | omega | (simp; done) | (simp; omega))
  have t9_0_0 := keep_cell (b := w.heap.size) (o := 0) (v := .int .i64 y) hb (by first | omega | (simp; done) | (simp; omega)) (by first | assumption | exact cell_alloc_l _ (by assumption) | exact cell_alloc_l _ (cell_alloc_l _ (by assumption)) | simp [go_sem])
  have t9_0_1 := keep_cell (b := w.heap.size) (o := 1) (v := .int .i64 m) hb (by first | omega | (simp; done) | (simp; omega)) (by first | assumption | exact cell_alloc_l _ (by assumption) | exact cell_alloc_l _ (cell_alloc_l _ (by assumption)) | simp [go_sem])
  have t9_0_2 := keep_cell (b := w.heap.size) (o := 2) (v := .int .i64 d) hb (by first | omega | (simp; done) | (simp; omega)) (by first | assumption | exact cell_alloc_l _ (by assumption) | exact cell_alloc_l _ (cell_alloc_l _ (by assumption)) | simp [go_sem])
  have t9_l1 := keep_lt (b := w2.heap.size) hb (by first | omega | (simp; done) | (simp; omega))
  have t9_1_0 := keep_cell (b := w2.heap.size) (o := 0) (v := .int .i64 (onOk (dayE 3652055 day) (yrC day))) hb (by first | omega | (simp; done) | (simp; omega)) (by first | assumption | exact cell_alloc_l _ (by assumption) | exact cell_alloc_l _ (cell_alloc_l _ (by assumption)) | simp [go_sem])
  have t9_1_1 := keep_cell (b := w2.heap.size) (o := 1) (v := .int .i64 (onOk (dayE 3652055 day) (moC day))) hb (by first | omega | (simp; done) | (simp; omega)) (by first | assumption | exact cell_alloc_l _ (by assumption) | exact cell_alloc_l _ (cell_alloc_l _ (by assumption)) | simp [go_sem])
  have t9_1_2 := keep_cell (b := w2.heap.size) (o := 2) (v := .int .i64 (onOk (dayE 3652055 day) (daC day))) hb (by first | omega | (simp; done) | (simp; omega)) (by first | assumption | exact cell_alloc_l _ (by assumption) | exact cell_alloc_l _ (cell_alloc_l _ (by assumption)) | simp [go_sem])
  have t9_l2 := keep_lt (b := w3.heap.size) hb (by first | omega | (simp; done) | (simp; omega))
  have t9_2_0 := keep_cell (b := w3.heap.size) (o := 0) (v := .int .i64 (onOk (dayE 3652055 day) (yrC day))) hb (by first | omega | (simp; done) | (simp; omega)) (by first | assumption | exact cell_alloc_l _ (by assumption) | exact cell_alloc_l _ (cell_alloc_l _ (by assumption)) | simp [go_sem])
  have t9_2_1 := keep_cell (b := w3.heap.size) (o := 1) (v := .int .i64 (onOk (dayE 3652055 day) (moC day))) hb (by first | omega | (simp; done) | (simp; omega)) (by first | assumption | exact cell_alloc_l _ (by assumption) | exact cell_alloc_l _ (cell_alloc_l _ (by assumption)) | simp [go_sem])
  have t9_2_2 := keep_cell (b := w3.heap.size) (o := 2) (v := .int .i64 (onOk (dayE 3652055 day) (daC day))) hb (by first | omega | (simp; done) | (simp; omega)) (by first | assumption | exact cell_alloc_l _ (by assumption) | exact cell_alloc_l _ (cell_alloc_l _ (by assumption)) | simp [go_sem])
  have t9_l3 := keep_lt (b := w6.heap.size) hb (by first | omega | (simp; done) | (simp; omega))
  have t9_3_0 := keep_cell (b := w6.heap.size) (o := 0) (v := .int .i64 (onOk (dayE 3543311 day) (yrM day))) hb (by first | omega | (simp; done) | (simp; omega)) (by first | assumption | exact cell_alloc_l _ (by assumption) | exact cell_alloc_l _ (cell_alloc_l _ (by assumption)) | simp [go_sem])
  have t9_3_1 := keep_cell (b := w6.heap.size) (o := 1) (v := .int .i64 (onOk (dayE 3543311 day) (moM day))) hb (by first | omega | (simp; done) | (simp; omega)) (by first | assumption | exact cell_alloc_l _ (by assumption) | exact cell_alloc_l _ (cell_alloc_l _ (by assumption)) | simp [go_sem])
  have t9_3_2 := keep_cell (b := w6.heap.size) (o := 2) (v := .int .i64 (onOk (dayE 3543311 day) (daM day))) hb (by first | omega | (simp; done) | (simp; omega)) (by first | assumption | exact cell_alloc_l _ (by assumption) | exact cell_alloc_l _ (cell_alloc_l _ (by assumption)) | simp [go_sem])
  have t9_l4 := keep_lt (b := w7.heap.size) hb (by first | omega | (simp; done) | (simp; omega))
  have t9_4_0 := keep_cell (b := w7.heap.size) (o := 0) (v := .int .i64 (onOk (dayE 3543311 day) (yrM day))) hb (by first | omega | (simp; done) | (simp; omega)) (by first | assumption | exact cell_alloc_l _ (by assumption) | exact cell_alloc_l _ (cell_alloc_l _ (by assumption)) | simp [go_sem])
  have t9_4_1 := keep_cell (b := w7.heap.size) (o := 1) (v := .int .i64 (onOk (dayE 3543311 day) (moM day))) hb (by first | omega | (simp; done) | (simp; omega)) (by first | assumption | exact cell_alloc_l _ (by assumption) | exact cell_alloc_l _ (cell_alloc_l _ (by assumption)) | simp [go_sem])
  have t9_4_2 := keep_cell (b := w7.heap.size) (o := 2) (v := .int .i64 (onOk (dayE 3543311 day) (daM day))) hb (by first | omega | (simp; done) | (simp; omega)) (by first | assumption | exact cell_alloc_l _ (by assumption) | exact cell_alloc_l _ (cell_alloc_l _ (by assumption)) | simp [go_sem])
  clear t8_0_0 t8_0_1 t8_0_2 t8_l0 t8_1_0 t8_1_1 t8_1_2 t8_l1 t8_2_0 t8_2_1 t8_2_2 t8_l2 t8_3_0 t8_3_1 t8_3_2 t8_l3 t8_4_0 t8_4_1 t8_4_2 t8_l4
  clear hb
  go_wp2_with fail
  go_ret
  exact ⟨rfl, HB9.out⟩

end Go.Proofs.YtomlfliebolkmaaDoor
