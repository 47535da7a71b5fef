/-
  HoursMoved: the law's own walk.
-/
import Derived.Test.YtomlfliebolkmaaDoorKi
set_option linter.unusedVariables false
set_option linter.unusedSimpArgs false
namespace Go.Proofs.YtomlfliebolkmaaDoor
open Go Go.Proofs Go.RowKit Pl

set_option maxRecDepth 100000 in
set_option maxHeartbeats 20000000 in
theorem Moved_no {L : Int} {n1 n2 n3 c1 c2 c3 : Nat} {a1 a2 a3 : Option Addr} {D R S : List Int} (day : Int) (b : Bool) (h p m t : Int) (w : World) (hD : LstO w a1 n1 D) (hR : LstO w a2 n2 R) (hS : LstO w a3 n3 S) (hr : rightB L n1 n2 n3 D R S [day] (hrOk h p) = false) :
   Calls Tryd.prog 14 #[.agg #[.int .i64 L, .slice a1 n1 c1, .slice a2 n2 c2, .slice a3 n3 c3], .int .i64 day, .agg #[.bool b, .int .i64 h, .int .i64 p], .int .i64 m, .int .i64 t] w fun e w' => e = .returned (.bool true) ∧ Below w.heap.size w w' := by
  have HD := Lib.hid hD; have HR := Lib.hid hR; have HS := Lib.hid hS
  have HRB := Lib.hid hr; clear hr hD hR hS
  go_enter Tryd.func14, Tryd.ntmps14
  go_wp2_with fail
  refine (sane_any _).mono ?_
  rintro e w1 ⟨rfl, hb⟩
  have HB1 := Lib.hid (bjoin (w := w) (by have hb' := (Below.refl w.heap.size w); have hb'' := hb'.size; (repeat refine below_drewN ?_ _); go_grown) hb)
  have z1_0 := lt_id (b := w.heap.size) hb (by first | omega | (simp; done) | (simp; omega))
  have t1_l0 := keep_lt (b := w.heap.size) hb z1_0
  have t1_0_0 := keep_cell (b := w.heap.size) (o := 0) (v := .int .i64 L) hb z1_0 (by first | (with_reducible assumption) | (with_reducible exact cell_alloc_l _ (by assumption)) | (with_reducible exact cell_alloc_l _ (cell_alloc_l _ (by assumption))) | (simp [go_sem]; done) | assumption | exact cell_alloc_l _ (by assumption) | exact cell_alloc_l _ (cell_alloc_l _ (by assumption)) | (simp [go_sem, *]; done))
  have t1_0_1 := keep_cell (b := w.heap.size) (o := 1) (v := .slice a1 n1 c1) hb z1_0 (by first | (with_reducible assumption) | (with_reducible exact cell_alloc_l _ (by assumption)) | (with_reducible exact cell_alloc_l _ (cell_alloc_l _ (by assumption))) | (simp [go_sem]; done) | assumption | exact cell_alloc_l _ (by assumption) | exact cell_alloc_l _ (cell_alloc_l _ (by assumption)) | (simp [go_sem, *]; done))
  have t1_0_2 := keep_cell (b := w.heap.size) (o := 2) (v := .slice a2 n2 c2) hb z1_0 (by first | (with_reducible assumption) | (with_reducible exact cell_alloc_l _ (by assumption)) | (with_reducible exact cell_alloc_l _ (cell_alloc_l _ (by assumption))) | (simp [go_sem]; done) | assumption | exact cell_alloc_l _ (by assumption) | exact cell_alloc_l _ (cell_alloc_l _ (by assumption)) | (simp [go_sem, *]; done))
  have t1_0_3 := keep_cell (b := w.heap.size) (o := 3) (v := .slice a3 n3 c3) hb z1_0 (by first | (with_reducible assumption) | (with_reducible exact cell_alloc_l _ (by assumption)) | (with_reducible exact cell_alloc_l _ (cell_alloc_l _ (by assumption))) | (simp [go_sem]; done) | assumption | exact cell_alloc_l _ (by assumption) | exact cell_alloc_l _ (cell_alloc_l _ (by assumption)) | (simp [go_sem, *]; done))
  have z1_1 := lt_id (b := w.heap.size + 1) hb (by first | omega | (simp; done) | (simp; omega))
  have t1_l1 := keep_lt (b := w.heap.size + 1) hb z1_1
  have t1_1_0 := keep_cell (b := w.heap.size + 1) (o := 0) (v := .bool b) hb z1_1 (by first | (with_reducible assumption) | (with_reducible exact cell_alloc_l _ (by assumption)) | (with_reducible exact cell_alloc_l _ (cell_alloc_l _ (by assumption))) | (simp [go_sem]; done) | assumption | exact cell_alloc_l _ (by assumption) | exact cell_alloc_l _ (cell_alloc_l _ (by assumption)) | (simp [go_sem, *]; done))
  have t1_1_1 := keep_cell (b := w.heap.size + 1) (o := 1) (v := .int .i64 h) hb z1_1 (by first | (with_reducible assumption) | (with_reducible exact cell_alloc_l _ (by assumption)) | (with_reducible exact cell_alloc_l _ (cell_alloc_l _ (by assumption))) | (simp [go_sem]; done) | assumption | exact cell_alloc_l _ (by assumption) | exact cell_alloc_l _ (cell_alloc_l _ (by assumption)) | (simp [go_sem, *]; done))
  have t1_1_2 := keep_cell (b := w.heap.size + 1) (o := 2) (v := .int .i64 p) hb z1_1 (by first | (with_reducible assumption) | (with_reducible exact cell_alloc_l _ (by assumption)) | (with_reducible exact cell_alloc_l _ (cell_alloc_l _ (by assumption))) | (simp [go_sem]; done) | assumption | exact cell_alloc_l _ (by assumption) | exact cell_alloc_l _ (cell_alloc_l _ (by assumption)) | (simp [go_sem, *]; done))
  clear z1_0 z1_1
  clear hb
  go_wp2_with fail
  refine (right1_any (days := [day]) (w1.heap.size + 1) _ b h p _ (HD.out.to (by have hb' := HB1.out; have hb'' := hb'.size; (repeat refine below_drewN ?_ _); go_grown)) (HR.out.to (by have hb' := HB1.out; have hb'' := hb'.size; (repeat refine below_drewN ?_ _); go_grown)) (HS.out.to (by have hb' := HB1.out; have hb'' := hb'.size; (repeat refine below_drewN ?_ _); go_grown)) (lst1 (b := w1.heap.size) (by simp [go_sem]) (by first | (simp; done) | (simp; omega))) (by omega) (by first | (simp; done) | (simp; omega)) (by simp [go_sem]) (by simp [go_sem]) (by simp [go_sem])).mono ?_
  rintro e w2 ⟨rfl, hb⟩
  have HB2 := Lib.hid (bjoin (w := w) (by have hb' := HB1.out; have hb'' := hb'.size; (repeat refine below_drewN ?_ _); go_grown) hb)
  have z2_0 := lt_id (b := w.heap.size) hb (by first | omega | (simp; done) | (simp; omega))
  have t2_l0 := keep_lt (b := w.heap.size) hb z2_0
  have t2_0_0 := keep_cell (b := w.heap.size) (o := 0) (v := .int .i64 L) hb z2_0 (by first | (with_reducible assumption) | (with_reducible exact cell_alloc_l _ (by assumption)) | (with_reducible exact cell_alloc_l _ (cell_alloc_l _ (by assumption))) | (simp [go_sem]; done) | assumption | exact cell_alloc_l _ (by assumption) | exact cell_alloc_l _ (cell_alloc_l _ (by assumption)) | (simp [go_sem, *]; done))
  have t2_0_1 := keep_cell (b := w.heap.size) (o := 1) (v := .slice a1 n1 c1) hb z2_0 (by first | (with_reducible assumption) | (with_reducible exact cell_alloc_l _ (by assumption)) | (with_reducible exact cell_alloc_l _ (cell_alloc_l _ (by assumption))) | (simp [go_sem]; done) | assumption | exact cell_alloc_l _ (by assumption) | exact cell_alloc_l _ (cell_alloc_l _ (by assumption)) | (simp [go_sem, *]; done))
  have t2_0_2 := keep_cell (b := w.heap.size) (o := 2) (v := .slice a2 n2 c2) hb z2_0 (by first | (with_reducible assumption) | (with_reducible exact cell_alloc_l _ (by assumption)) | (with_reducible exact cell_alloc_l _ (cell_alloc_l _ (by assumption))) | (simp [go_sem]; done) | assumption | exact cell_alloc_l _ (by assumption) | exact cell_alloc_l _ (cell_alloc_l _ (by assumption)) | (simp [go_sem, *]; done))
  have t2_0_3 := keep_cell (b := w.heap.size) (o := 3) (v := .slice a3 n3 c3) hb z2_0 (by first | (with_reducible assumption) | (with_reducible exact cell_alloc_l _ (by assumption)) | (with_reducible exact cell_alloc_l _ (cell_alloc_l _ (by assumption))) | (simp [go_sem]; done) | assumption | exact cell_alloc_l _ (by assumption) | exact cell_alloc_l _ (cell_alloc_l _ (by assumption)) | (simp [go_sem, *]; done))
  have z2_1 := lt_id (b := w.heap.size + 1) hb (by first | omega | (simp; done) | (simp; omega))
  have t2_l1 := keep_lt (b := w.heap.size + 1) hb z2_1
  have t2_1_0 := keep_cell (b := w.heap.size + 1) (o := 0) (v := .bool b) hb z2_1 (by first | (with_reducible assumption) | (with_reducible exact cell_alloc_l _ (by assumption)) | (with_reducible exact cell_alloc_l _ (cell_alloc_l _ (by assumption))) | (simp [go_sem]; done) | assumption | exact cell_alloc_l _ (by assumption) | exact cell_alloc_l _ (cell_alloc_l _ (by assumption)) | (simp [go_sem, *]; done))
  have t2_1_1 := keep_cell (b := w.heap.size + 1) (o := 1) (v := .int .i64 h) hb z2_1 (by first | (with_reducible assumption) | (with_reducible exact cell_alloc_l _ (by assumption)) | (with_reducible exact cell_alloc_l _ (cell_alloc_l _ (by assumption))) | (simp [go_sem]; done) | assumption | exact cell_alloc_l _ (by assumption) | exact cell_alloc_l _ (cell_alloc_l _ (by assumption)) | (simp [go_sem, *]; done))
  have t2_1_2 := keep_cell (b := w.heap.size + 1) (o := 2) (v := .int .i64 p) hb z2_1 (by first | (with_reducible assumption) | (with_reducible exact cell_alloc_l _ (by assumption)) | (with_reducible exact cell_alloc_l _ (cell_alloc_l _ (by assumption))) | (simp [go_sem]; done) | assumption | exact cell_alloc_l _ (by assumption) | exact cell_alloc_l _ (cell_alloc_l _ (by assumption)) | (simp [go_sem, *]; done))
  have z2_2 := lt_id (b := w1.heap.size) hb (by first | omega | (simp; done) | (simp; omega))
  have t2_l2 := keep_lt (b := w1.heap.size) hb z2_2
  have t2_2_0 := keep_cell (b := w1.heap.size) (o := 0) (v := .int .i64 (day)) hb z2_2 (by first | (with_reducible assumption) | (with_reducible exact cell_alloc_l _ (by assumption)) | (with_reducible exact cell_alloc_l _ (cell_alloc_l _ (by assumption))) | (simp [go_sem]; done) | assumption | exact cell_alloc_l _ (by assumption) | exact cell_alloc_l _ (cell_alloc_l _ (by assumption)) | (simp [go_sem, *]; done))
  have z2_3 := lt_id (b := w1.heap.size + 1) hb (by first | omega | (simp; done) | (simp; omega))
  have t2_l3 := keep_lt (b := w1.heap.size + 1) hb z2_3
  have t2_3_0 := keep_cell (b := w1.heap.size + 1) (o := 0) (v := .bool b) hb z2_3 (by first | (with_reducible assumption) | (with_reducible exact cell_alloc_l _ (by assumption)) | (with_reducible exact cell_alloc_l _ (cell_alloc_l _ (by assumption))) | (simp [go_sem]; done) | assumption | exact cell_alloc_l _ (by assumption) | exact cell_alloc_l _ (cell_alloc_l _ (by assumption)) | (simp [go_sem, *]; done))
  have t2_3_1 := keep_cell (b := w1.heap.size + 1) (o := 1) (v := .int .i64 h) hb z2_3 (by first | (with_reducible assumption) | (with_reducible exact cell_alloc_l _ (by assumption)) | (with_reducible exact cell_alloc_l _ (cell_alloc_l _ (by assumption))) | (simp [go_sem]; done) | assumption | exact cell_alloc_l _ (by assumption) | exact cell_alloc_l _ (cell_alloc_l _ (by assumption)) | (simp [go_sem, *]; done))
  have t2_3_2 := keep_cell (b := w1.heap.size + 1) (o := 2) (v := .int .i64 p) hb z2_3 (by first | (with_reducible assumption) | (with_reducible exact cell_alloc_l _ (by assumption)) | (with_reducible exact cell_alloc_l _ (cell_alloc_l _ (by assumption))) | (simp [go_sem]; done) | assumption | exact cell_alloc_l _ (by assumption) | exact cell_alloc_l _ (cell_alloc_l _ (by assumption)) | (simp [go_sem, *]; done))
  clear z2_0 z2_1 z2_2 z2_3
  clear t1_0_0 t1_0_1 t1_0_2 t1_0_3 t1_l0 t1_1_0 t1_1_1 t1_1_2 t1_l1
  clear hb
  clear t2_2_0 t2_l2 t2_3_0 t2_3_1 t2_3_2 t2_l3
  rw [HRB.out]
  go_wp2_with fail
  go_ret
  exact ⟨rfl, by have hb' := HB2.out; have hb'' := hb'.size; go_grown⟩

set_option maxRecDepth 100000 in
set_option maxHeartbeats 20000000 in
theorem Moved_out {L : Int} {n1 n2 n3 c1 c2 c3 : Nat} {a1 a2 a3 : Option Addr} {D R S : List Int} (day : Int) (b : Bool) (h p m t : Int) (w : World) (hD : LstO w a1 n1 D) (hR : LstO w a2 n2 R) (hS : LstO w a3 n3 S) (hr : rightB L n1 n2 n3 D R S [day] (hrOk h p) = true) (ho : ¬ (-1440 ≤ t ∧ t ≤ 1440)) :
   Calls Tryd.prog 14 #[.agg #[.int .i64 L, .slice a1 n1 c1, .slice a2 n2 c2, .slice a3 n3 c3], .int .i64 day, .agg #[.bool b, .int .i64 h, .int .i64 p], .int .i64 m, .int .i64 t] w fun e w' => e = .returned (.bool true) ∧ Below w.heap.size w w' := by
  have HD := Lib.hid hD; have HR := Lib.hid hR; have HS := Lib.hid hS
  have HRB := Lib.hid hr; clear hr hD hR hS
  have HO := Lib.hid ho; clear ho
  go_enter Tryd.func14, Tryd.ntmps14
  go_wp2_with fail
  refine (sane_any _).mono ?_
  rintro e w1 ⟨rfl, hb⟩
  have HB1 := Lib.hid (bjoin (w := w) (by have hb' := (Below.refl w.heap.size w); have hb'' := hb'.size; (repeat refine below_drewN ?_ _); go_grown) hb)
  have z1_0 := lt_id (b := w.heap.size) hb (by first | omega | (simp; done) | (simp; omega))
  have t1_l0 := keep_lt (b := w.heap.size) hb z1_0
  have t1_0_0 := keep_cell (b := w.heap.size) (o := 0) (v := .int .i64 L) hb z1_0 (by first | (with_reducible assumption) | (with_reducible exact cell_alloc_l _ (by assumption)) | (with_reducible exact cell_alloc_l _ (cell_alloc_l _ (by assumption))) | (simp [go_sem]; done) | assumption | exact cell_alloc_l _ (by assumption) | exact cell_alloc_l _ (cell_alloc_l _ (by assumption)) | (simp [go_sem, *]; done))
  have t1_0_1 := keep_cell (b := w.heap.size) (o := 1) (v := .slice a1 n1 c1) hb z1_0 (by first | (with_reducible assumption) | (with_reducible exact cell_alloc_l _ (by assumption)) | (with_reducible exact cell_alloc_l _ (cell_alloc_l _ (by assumption))) | (simp [go_sem]; done) | assumption | exact cell_alloc_l _ (by assumption) | exact cell_alloc_l _ (cell_alloc_l _ (by assumption)) | (simp [go_sem, *]; done))
  have t1_0_2 := keep_cell (b := w.heap.size) (o := 2) (v := .slice a2 n2 c2) hb z1_0 (by first | (with_reducible assumption) | (with_reducible exact cell_alloc_l _ (by assumption)) | (with_reducible exact cell_alloc_l _ (cell_alloc_l _ (by assumption))) | (simp [go_sem]; done) | assumption | exact cell_alloc_l _ (by assumption) | exact cell_alloc_l _ (cell_alloc_l _ (by assumption)) | (simp [go_sem, *]; done))
  have t1_0_3 := keep_cell (b := w.heap.size) (o := 3) (v := .slice a3 n3 c3) hb z1_0 (by first | (with_reducible assumption) | (with_reducible exact cell_alloc_l _ (by assumption)) | (with_reducible exact cell_alloc_l _ (cell_alloc_l _ (by assumption))) | (simp [go_sem]; done) | assumption | exact cell_alloc_l _ (by assumption) | exact cell_alloc_l _ (cell_alloc_l _ (by assumption)) | (simp [go_sem, *]; done))
  have z1_1 := lt_id (b := w.heap.size + 1) hb (by first | omega | (simp; done) | (simp; omega))
  have t1_l1 := keep_lt (b := w.heap.size + 1) hb z1_1
  have t1_1_0 := keep_cell (b := w.heap.size + 1) (o := 0) (v := .bool b) hb z1_1 (by first | (with_reducible assumption) | (with_reducible exact cell_alloc_l _ (by assumption)) | (with_reducible exact cell_alloc_l _ (cell_alloc_l _ (by assumption))) | (simp [go_sem]; done) | assumption | exact cell_alloc_l _ (by assumption) | exact cell_alloc_l _ (cell_alloc_l _ (by assumption)) | (simp [go_sem, *]; done))
  have t1_1_1 := keep_cell (b := w.heap.size + 1) (o := 1) (v := .int .i64 h) hb z1_1 (by first | (with_reducible assumption) | (with_reducible exact cell_alloc_l _ (by assumption)) | (with_reducible exact cell_alloc_l _ (cell_alloc_l _ (by assumption))) | (simp [go_sem]; done) | assumption | exact cell_alloc_l _ (by assumption) | exact cell_alloc_l _ (cell_alloc_l _ (by assumption)) | (simp [go_sem, *]; done))
  have t1_1_2 := keep_cell (b := w.heap.size + 1) (o := 2) (v := .int .i64 p) hb z1_1 (by first | (with_reducible assumption) | (with_reducible exact cell_alloc_l _ (by assumption)) | (with_reducible exact cell_alloc_l _ (cell_alloc_l _ (by assumption))) | (simp [go_sem]; done) | assumption | exact cell_alloc_l _ (by assumption) | exact cell_alloc_l _ (cell_alloc_l _ (by assumption)) | (simp [go_sem, *]; done))
  clear z1_0 z1_1
  clear hb
  go_wp2_with fail
  refine (right1_any (days := [day]) (w1.heap.size + 1) _ b h p _ (HD.out.to (by have hb' := HB1.out; have hb'' := hb'.size; (repeat refine below_drewN ?_ _); go_grown)) (HR.out.to (by have hb' := HB1.out; have hb'' := hb'.size; (repeat refine below_drewN ?_ _); go_grown)) (HS.out.to (by have hb' := HB1.out; have hb'' := hb'.size; (repeat refine below_drewN ?_ _); go_grown)) (lst1 (b := w1.heap.size) (by simp [go_sem]) (by first | (simp; done) | (simp; omega))) (by omega) (by first | (simp; done) | (simp; omega)) (by simp [go_sem]) (by simp [go_sem]) (by simp [go_sem])).mono ?_
  rintro e w2 ⟨rfl, hb⟩
  have HB2 := Lib.hid (bjoin (w := w) (by have hb' := HB1.out; have hb'' := hb'.size; (repeat refine below_drewN ?_ _); go_grown) hb)
  have z2_0 := lt_id (b := w.heap.size) hb (by first | omega | (simp; done) | (simp; omega))
  have t2_l0 := keep_lt (b := w.heap.size) hb z2_0
  have t2_0_0 := keep_cell (b := w.heap.size) (o := 0) (v := .int .i64 L) hb z2_0 (by first | (with_reducible assumption) | (with_reducible exact cell_alloc_l _ (by assumption)) | (with_reducible exact cell_alloc_l _ (cell_alloc_l _ (by assumption))) | (simp [go_sem]; done) | assumption | exact cell_alloc_l _ (by assumption) | exact cell_alloc_l _ (cell_alloc_l _ (by assumption)) | (simp [go_sem, *]; done))
  have t2_0_1 := keep_cell (b := w.heap.size) (o := 1) (v := .slice a1 n1 c1) hb z2_0 (by first | (with_reducible assumption) | (with_reducible exact cell_alloc_l _ (by assumption)) | (with_reducible exact cell_alloc_l _ (cell_alloc_l _ (by assumption))) | (simp [go_sem]; done) | assumption | exact cell_alloc_l _ (by assumption) | exact cell_alloc_l _ (cell_alloc_l _ (by assumption)) | (simp [go_sem, *]; done))
  have t2_0_2 := keep_cell (b := w.heap.size) (o := 2) (v := .slice a2 n2 c2) hb z2_0 (by first | (with_reducible assumption) | (with_reducible exact cell_alloc_l _ (by assumption)) | (with_reducible exact cell_alloc_l _ (cell_alloc_l _ (by assumption))) | (simp [go_sem]; done) | assumption | exact cell_alloc_l _ (by assumption) | exact cell_alloc_l _ (cell_alloc_l _ (by assumption)) | (simp [go_sem, *]; done))
  have t2_0_3 := keep_cell (b := w.heap.size) (o := 3) (v := .slice a3 n3 c3) hb z2_0 (by first | (with_reducible assumption) | (with_reducible exact cell_alloc_l _ (by assumption)) | (with_reducible exact cell_alloc_l _ (cell_alloc_l _ (by assumption))) | (simp [go_sem]; done) | assumption | exact cell_alloc_l _ (by assumption) | exact cell_alloc_l _ (cell_alloc_l _ (by assumption)) | (simp [go_sem, *]; done))
  have z2_1 := lt_id (b := w.heap.size + 1) hb (by first | omega | (simp; done) | (simp; omega))
  have t2_l1 := keep_lt (b := w.heap.size + 1) hb z2_1
  have t2_1_0 := keep_cell (b := w.heap.size + 1) (o := 0) (v := .bool b) hb z2_1 (by first | (with_reducible assumption) | (with_reducible exact cell_alloc_l _ (by assumption)) | (with_reducible exact cell_alloc_l _ (cell_alloc_l _ (by assumption))) | (simp [go_sem]; done) | assumption | exact cell_alloc_l _ (by assumption) | exact cell_alloc_l _ (cell_alloc_l _ (by assumption)) | (simp [go_sem, *]; done))
  have t2_1_1 := keep_cell (b := w.heap.size + 1) (o := 1) (v := .int .i64 h) hb z2_1 (by first | (with_reducible assumption) | (with_reducible exact cell_alloc_l _ (by assumption)) | (with_reducible exact cell_alloc_l _ (cell_alloc_l _ (by assumption))) | (simp [go_sem]; done) | assumption | exact cell_alloc_l _ (by assumption) | exact cell_alloc_l _ (cell_alloc_l _ (by assumption)) | (simp [go_sem, *]; done))
  have t2_1_2 := keep_cell (b := w.heap.size + 1) (o := 2) (v := .int .i64 p) hb z2_1 (by first | (with_reducible assumption) | (with_reducible exact cell_alloc_l _ (by assumption)) | (with_reducible exact cell_alloc_l _ (cell_alloc_l _ (by assumption))) | (simp [go_sem]; done) | assumption | exact cell_alloc_l _ (by assumption) | exact cell_alloc_l _ (cell_alloc_l _ (by assumption)) | (simp [go_sem, *]; done))
  have z2_2 := lt_id (b := w1.heap.size) hb (by first | omega | (simp; done) | (simp; omega))
  have t2_l2 := keep_lt (b := w1.heap.size) hb z2_2
  have t2_2_0 := keep_cell (b := w1.heap.size) (o := 0) (v := .int .i64 (day)) hb z2_2 (by first | (with_reducible assumption) | (with_reducible exact cell_alloc_l _ (by assumption)) | (with_reducible exact cell_alloc_l _ (cell_alloc_l _ (by assumption))) | (simp [go_sem]; done) | assumption | exact cell_alloc_l _ (by assumption) | exact cell_alloc_l _ (cell_alloc_l _ (by assumption)) | (simp [go_sem, *]; done))
  have z2_3 := lt_id (b := w1.heap.size + 1) hb (by first | omega | (simp; done) | (simp; omega))
  have t2_l3 := keep_lt (b := w1.heap.size + 1) hb z2_3
  have t2_3_0 := keep_cell (b := w1.heap.size + 1) (o := 0) (v := .bool b) hb z2_3 (by first | (with_reducible assumption) | (with_reducible exact cell_alloc_l _ (by assumption)) | (with_reducible exact cell_alloc_l _ (cell_alloc_l _ (by assumption))) | (simp [go_sem]; done) | assumption | exact cell_alloc_l _ (by assumption) | exact cell_alloc_l _ (cell_alloc_l _ (by assumption)) | (simp [go_sem, *]; done))
  have t2_3_1 := keep_cell (b := w1.heap.size + 1) (o := 1) (v := .int .i64 h) hb z2_3 (by first | (with_reducible assumption) | (with_reducible exact cell_alloc_l _ (by assumption)) | (with_reducible exact cell_alloc_l _ (cell_alloc_l _ (by assumption))) | (simp [go_sem]; done) | assumption | exact cell_alloc_l _ (by assumption) | exact cell_alloc_l _ (cell_alloc_l _ (by assumption)) | (simp [go_sem, *]; done))
  have t2_3_2 := keep_cell (b := w1.heap.size + 1) (o := 2) (v := .int .i64 p) hb z2_3 (by first | (with_reducible assumption) | (with_reducible exact cell_alloc_l _ (by assumption)) | (with_reducible exact cell_alloc_l _ (cell_alloc_l _ (by assumption))) | (simp [go_sem]; done) | assumption | exact cell_alloc_l _ (by assumption) | exact cell_alloc_l _ (cell_alloc_l _ (by assumption)) | (simp [go_sem, *]; done))
  clear z2_0 z2_1 z2_2 z2_3
  clear t1_0_0 t1_0_1 t1_0_2 t1_0_3 t1_l0 t1_1_0 t1_1_1 t1_1_2 t1_l1
  clear hb
  clear t2_2_0 t2_l2 t2_3_0 t2_3_1 t2_3_2 t2_l3
  rw [HRB.out]
  go_wp2_with fail
  all_goals first | (go_ret; exact ⟨rfl, by have hb' := HB2.out; have hb'' := hb'.size; go_grown⟩) | (exfalso; have := HO.out; omega)


set_option maxRecDepth 100000 in
set_option maxHeartbeats 40000000 in
theorem Moved_yes {L : Int} {n b1 o1 c1 b2 o2 c2 b3 o3 c3 : Nat} {D R S : List Int} (day : Int) (b : Bool) (h p m t : Int) (w : World) (hs : SeaO w (some ⟨b1, o1, none⟩) n (some ⟨b2, o2, none⟩) n (some ⟨b3, o3, none⟩) n D R S) (hsea : Sea w n b1 o1 b2 o2 b3 o3 D R S) (hok : Ok L D R S) (hf : fewB n n n = true) (hd : 0 ≤ day ∧ day ≤ 11000) (hh : (0 ≤ h ∧ h ≤ 11) ∧ (0 ≤ p ∧ p ≤ 59)) (ht : -1440 ≤ t ∧ t ≤ 1440) (hr : rightB L n n n D R S [day] (hrOk h p) = true) :
   Calls Tryd.prog 14 #[.agg #[.int .i64 L, .slice (some ⟨b1, o1, none⟩) n c1, .slice (some ⟨b2, o2, none⟩) n c2, .slice (some ⟨b3, o3, none⟩) n c3], .int .i64 day, .agg #[.bool b, .int .i64 h, .int .i64 p], .int .i64 m, .int .i64 t] w fun e w' => e = .returned (.bool true) ∧ Below w.heap.size w w' := by
  have HD := Lib.hid hs.D; have HR := Lib.hid hs.R; have HS := Lib.hid hs.S
  have HRB := Lib.hid hr; have HSEA := Lib.hid hs; have HSE := Lib.hid hsea; have HO := Lib.hid hok; have HDY := Lib.hid hd; have HHH := Lib.hid hh
  have hn30 : n ≤ 30 := by unfold fewB at hf; simp at hf; omega
  have hnD := hs.D.1
  clear hs hsea hok hr hd hh hf
  obtain ⟨t0, t1⟩ := ht
  go_enter Tryd.func14, Tryd.ntmps14
  go_wp2_with fail
  refine (sane_any _).mono ?_
  rintro e w1 ⟨rfl, hb⟩
  have HB1 := Lib.hid (bjoin (w := w) (by have hb' := (Below.refl w.heap.size w); have hb'' := hb'.size; (repeat refine below_drewN ?_ _); go_grown) hb)
  have z1_0 := lt_id (b := w.heap.size) hb (by first | omega | (simp; done) | (simp; omega))
  have t1_l0 := keep_lt (b := w.heap.size) hb z1_0
  have t1_0_0 := keep_cell (b := w.heap.size) (o := 0) (v := .int .i64 L) hb z1_0 (by first | (with_reducible assumption) | (with_reducible exact cell_alloc_l _ (by assumption)) | (with_reducible exact cell_alloc_l _ (cell_alloc_l _ (by assumption))) | (simp [go_sem]; done) | assumption | exact cell_alloc_l _ (by assumption) | exact cell_alloc_l _ (cell_alloc_l _ (by assumption)) | (simp [go_sem, *]; done))
  have t1_0_1 := keep_cell (b := w.heap.size) (o := 1) (v := .slice (some ⟨b1, o1, none⟩) n c1) hb z1_0 (by first | (with_reducible assumption) | (with_reducible exact cell_alloc_l _ (by assumption)) | (with_reducible exact cell_alloc_l _ (cell_alloc_l _ (by assumption))) | (simp [go_sem]; done) | assumption | exact cell_alloc_l _ (by assumption) | exact cell_alloc_l _ (cell_alloc_l _ (by assumption)) | (simp [go_sem, *]; done))
  have t1_0_2 := keep_cell (b := w.heap.size) (o := 2) (v := .slice (some ⟨b2, o2, none⟩) n c2) hb z1_0 (by first | (with_reducible assumption) | (with_reducible exact cell_alloc_l _ (by assumption)) | (with_reducible exact cell_alloc_l _ (cell_alloc_l _ (by assumption))) | (simp [go_sem]; done) | assumption | exact cell_alloc_l _ (by assumption) | exact cell_alloc_l _ (cell_alloc_l _ (by assumption)) | (simp [go_sem, *]; done))
  have t1_0_3 := keep_cell (b := w.heap.size) (o := 3) (v := .slice (some ⟨b3, o3, none⟩) n c3) hb z1_0 (by first | (with_reducible assumption) | (with_reducible exact cell_alloc_l _ (by assumption)) | (with_reducible exact cell_alloc_l _ (cell_alloc_l _ (by assumption))) | (simp [go_sem]; done) | assumption | exact cell_alloc_l _ (by assumption) | exact cell_alloc_l _ (cell_alloc_l _ (by assumption)) | (simp [go_sem, *]; done))
  have z1_1 := lt_id (b := w.heap.size + 1) hb (by first | omega | (simp; done) | (simp; omega))
  have t1_l1 := keep_lt (b := w.heap.size + 1) hb z1_1
  have t1_1_0 := keep_cell (b := w.heap.size + 1) (o := 0) (v := .bool b) hb z1_1 (by first | (with_reducible assumption) | (with_reducible exact cell_alloc_l _ (by assumption)) | (with_reducible exact cell_alloc_l _ (cell_alloc_l _ (by assumption))) | (simp [go_sem]; done) | assumption | exact cell_alloc_l _ (by assumption) | exact cell_alloc_l _ (cell_alloc_l _ (by assumption)) | (simp [go_sem, *]; done))
  have t1_1_1 := keep_cell (b := w.heap.size + 1) (o := 1) (v := .int .i64 h) hb z1_1 (by first | (with_reducible assumption) | (with_reducible exact cell_alloc_l _ (by assumption)) | (with_reducible exact cell_alloc_l _ (cell_alloc_l _ (by assumption))) | (simp [go_sem]; done) | assumption | exact cell_alloc_l _ (by assumption) | exact cell_alloc_l _ (cell_alloc_l _ (by assumption)) | (simp [go_sem, *]; done))
  have t1_1_2 := keep_cell (b := w.heap.size + 1) (o := 2) (v := .int .i64 p) hb z1_1 (by first | (with_reducible assumption) | (with_reducible exact cell_alloc_l _ (by assumption)) | (with_reducible exact cell_alloc_l _ (cell_alloc_l _ (by assumption))) | (simp [go_sem]; done) | assumption | exact cell_alloc_l _ (by assumption) | exact cell_alloc_l _ (cell_alloc_l _ (by assumption)) | (simp [go_sem, *]; done))
  clear z1_0 z1_1
  clear hb
  go_wp2_with fail
  refine (right1_any (days := [day]) (w1.heap.size + 1) _ b h p _ (HD.out.to (by have hb' := HB1.out; have hb'' := hb'.size; (repeat refine below_drewN ?_ _); go_grown)) (HR.out.to (by have hb' := HB1.out; have hb'' := hb'.size; (repeat refine below_drewN ?_ _); go_grown)) (HS.out.to (by have hb' := HB1.out; have hb'' := hb'.size; (repeat refine below_drewN ?_ _); go_grown)) (lst1 (b := w1.heap.size) (by simp [go_sem]) (by first | (simp; done) | (simp; omega))) (by omega) (by first | (simp; done) | (simp; omega)) (by simp [go_sem]) (by simp [go_sem]) (by simp [go_sem])).mono ?_
  rintro e w2 ⟨rfl, hb⟩
  have HB2 := Lib.hid (bjoin (w := w) (by have hb' := HB1.out; have hb'' := hb'.size; (repeat refine below_drewN ?_ _); go_grown) hb)
  have z2_0 := lt_id (b := w.heap.size) hb (by first | omega | (simp; done) | (simp; omega))
  have t2_l0 := keep_lt (b := w.heap.size) hb z2_0
  have t2_0_0 := keep_cell (b := w.heap.size) (o := 0) (v := .int .i64 L) hb z2_0 (by first | (with_reducible assumption) | (with_reducible exact cell_alloc_l _ (by assumption)) | (with_reducible exact cell_alloc_l _ (cell_alloc_l _ (by assumption))) | (simp [go_sem]; done) | assumption | exact cell_alloc_l _ (by assumption) | exact cell_alloc_l _ (cell_alloc_l _ (by assumption)) | (simp [go_sem, *]; done))
  have t2_0_1 := keep_cell (b := w.heap.size) (o := 1) (v := .slice (some ⟨b1, o1, none⟩) n c1) hb z2_0 (by first | (with_reducible assumption) | (with_reducible exact cell_alloc_l _ (by assumption)) | (with_reducible exact cell_alloc_l _ (cell_alloc_l _ (by assumption))) | (simp [go_sem]; done) | assumption | exact cell_alloc_l _ (by assumption) | exact cell_alloc_l _ (cell_alloc_l _ (by assumption)) | (simp [go_sem, *]; done))
  have t2_0_2 := keep_cell (b := w.heap.size) (o := 2) (v := .slice (some ⟨b2, o2, none⟩) n c2) hb z2_0 (by first | (with_reducible assumption) | (with_reducible exact cell_alloc_l _ (by assumption)) | (with_reducible exact cell_alloc_l _ (cell_alloc_l _ (by assumption))) | (simp [go_sem]; done) | assumption | exact cell_alloc_l _ (by assumption) | exact cell_alloc_l _ (cell_alloc_l _ (by assumption)) | (simp [go_sem, *]; done))
  have t2_0_3 := keep_cell (b := w.heap.size) (o := 3) (v := .slice (some ⟨b3, o3, none⟩) n c3) hb z2_0 (by first | (with_reducible assumption) | (with_reducible exact cell_alloc_l _ (by assumption)) | (with_reducible exact cell_alloc_l _ (cell_alloc_l _ (by assumption))) | (simp [go_sem]; done) | assumption | exact cell_alloc_l _ (by assumption) | exact cell_alloc_l _ (cell_alloc_l _ (by assumption)) | (simp [go_sem, *]; done))
  have z2_1 := lt_id (b := w.heap.size + 1) hb (by first | omega | (simp; done) | (simp; omega))
  have t2_l1 := keep_lt (b := w.heap.size + 1) hb z2_1
  have t2_1_0 := keep_cell (b := w.heap.size + 1) (o := 0) (v := .bool b) hb z2_1 (by first | (with_reducible assumption) | (with_reducible exact cell_alloc_l _ (by assumption)) | (with_reducible exact cell_alloc_l _ (cell_alloc_l _ (by assumption))) | (simp [go_sem]; done) | assumption | exact cell_alloc_l _ (by assumption) | exact cell_alloc_l _ (cell_alloc_l _ (by assumption)) | (simp [go_sem, *]; done))
  have t2_1_1 := keep_cell (b := w.heap.size + 1) (o := 1) (v := .int .i64 h) hb z2_1 (by first | (with_reducible assumption) | (with_reducible exact cell_alloc_l _ (by assumption)) | (with_reducible exact cell_alloc_l _ (cell_alloc_l _ (by assumption))) | (simp [go_sem]; done) | assumption | exact cell_alloc_l _ (by assumption) | exact cell_alloc_l _ (cell_alloc_l _ (by assumption)) | (simp [go_sem, *]; done))
  have t2_1_2 := keep_cell (b := w.heap.size + 1) (o := 2) (v := .int .i64 p) hb z2_1 (by first | (with_reducible assumption) | (with_reducible exact cell_alloc_l _ (by assumption)) | (with_reducible exact cell_alloc_l _ (cell_alloc_l _ (by assumption))) | (simp [go_sem]; done) | assumption | exact cell_alloc_l _ (by assumption) | exact cell_alloc_l _ (cell_alloc_l _ (by assumption)) | (simp [go_sem, *]; done))
  have z2_2 := lt_id (b := w1.heap.size) hb (by first | omega | (simp; done) | (simp; omega))
  have t2_l2 := keep_lt (b := w1.heap.size) hb z2_2
  have t2_2_0 := keep_cell (b := w1.heap.size) (o := 0) (v := .int .i64 (day)) hb z2_2 (by first | (with_reducible assumption) | (with_reducible exact cell_alloc_l _ (by assumption)) | (with_reducible exact cell_alloc_l _ (cell_alloc_l _ (by assumption))) | (simp [go_sem]; done) | assumption | exact cell_alloc_l _ (by assumption) | exact cell_alloc_l _ (cell_alloc_l _ (by assumption)) | (simp [go_sem, *]; done))
  have z2_3 := lt_id (b := w1.heap.size + 1) hb (by first | omega | (simp; done) | (simp; omega))
  have t2_l3 := keep_lt (b := w1.heap.size + 1) hb z2_3
  have t2_3_0 := keep_cell (b := w1.heap.size + 1) (o := 0) (v := .bool b) hb z2_3 (by first | (with_reducible assumption) | (with_reducible exact cell_alloc_l _ (by assumption)) | (with_reducible exact cell_alloc_l _ (cell_alloc_l _ (by assumption))) | (simp [go_sem]; done) | assumption | exact cell_alloc_l _ (by assumption) | exact cell_alloc_l _ (cell_alloc_l _ (by assumption)) | (simp [go_sem, *]; done))
  have t2_3_1 := keep_cell (b := w1.heap.size + 1) (o := 1) (v := .int .i64 h) hb z2_3 (by first | (with_reducible assumption) | (with_reducible exact cell_alloc_l _ (by assumption)) | (with_reducible exact cell_alloc_l _ (cell_alloc_l _ (by assumption))) | (simp [go_sem]; done) | assumption | exact cell_alloc_l _ (by assumption) | exact cell_alloc_l _ (cell_alloc_l _ (by assumption)) | (simp [go_sem, *]; done))
  have t2_3_2 := keep_cell (b := w1.heap.size + 1) (o := 2) (v := .int .i64 p) hb z2_3 (by first | (with_reducible assumption) | (with_reducible exact cell_alloc_l _ (by assumption)) | (with_reducible exact cell_alloc_l _ (cell_alloc_l _ (by assumption))) | (simp [go_sem]; done) | assumption | exact cell_alloc_l _ (by assumption) | exact cell_alloc_l _ (cell_alloc_l _ (by assumption)) | (simp [go_sem, *]; done))
  clear z2_0 z2_1 z2_2 z2_3
  clear t1_0_0 t1_0_1 t1_0_2 t1_0_3 t1_l0 t1_1_0 t1_1_1 t1_1_2 t1_l1
  clear hb
  clear t2_2_0 t2_l2 t2_3_0 t2_3_1 t2_3_2 t2_l3
  rw [HRB.out]
  go_wp2_with fail
  have HU2 := Lib.hid HB2.out
  go_loopw [48] (fun vk wr => ∃ (k : Nat) (v2 v3 : Value), k ≤ n ∧ vk = .int .i64 k ∧ RG w2 wr L (.slice (some ⟨b1, o1, none⟩) n c1) v2 v3 k k ((mvL R t k).map (Value.int .i64)) ((mvL S t k).map (Value.int .i64)) v2 v3) (fun vk _ => 100 - (intOf vk).toNat)
  case atStart => exact ⟨0, _, _, by omega, rfl, RG.new _ _ _⟩
  case round =>
    obtain ⟨k, v2, v3, hk, rfl, hmr⟩ := hrel
    have HM := Lib.hid hmr; clear hmr
    by_cases hlt : k < n
    · have HNE := Lib.hid hlt
      have hlt' : (k : Int) < (n : Int) := by omega
      have x2 := keep_cell HM.out.hb t2_l0 t2_0_2
      have x3 := keep_cell HM.out.hb t2_l0 t2_0_3
      have xr := (((HSE.out.to HU2.out).to HM.out.hb).R).cell k hlt
      have xs := (((HSE.out.to HU2.out).to HM.out.hb).S).cell k hlt
      have br := HSE.out.Rb HO.out k hlt
      have bs := HSE.out.Sb HO.out k hlt
      have HPR := Lib.hid (fun x (hx : x = R[k]?.getD 0 + t) => mvV_succ R t (k := k) (by have := HSE.out.R.len; omega) hx)
      have HPS := Lib.hid (fun x (hx : x = S[k]?.getD 0 + t) => mvV_succ S t (k := k) (by have := HSE.out.S.len; omega) hx)
      have zr := ((HSE.out.to HU2.out).R).cell k hlt
      have zs := ((HSE.out.to HU2.out).S).cell k hlt
      generalize R[k]?.getD 0 = r at *
      generalize S[k]?.getD 0 = s at *
      have y2 := HM.out.c2; have y3 := HM.out.c3
      have hg2 := HM.out.gt
      have xl2 : b2 < w2.heap.size := (HSE.out.to HU2.out).R.lt
      have xl3 : b3 < w2.heap.size := (HSE.out.to HU2.out).S.lt
      have HCW := Lib.hid (show ∀ W', Below w2.heap.size w2 W' → (W'.cell? ⟨w.heap.size, 2, none⟩ = some (.slice (some ⟨b2, o2, none⟩) n c2) ∧ W'.cell? ⟨w.heap.size, 3, none⟩ = some (.slice (some ⟨b3, o3, none⟩) n c3) ∧ W'.cell? ⟨b2, o2 + k, none⟩ = some (.int .i64 r) ∧ W'.cell? ⟨b3, o3 + k, none⟩ = some (.int .i64 s)) from fun W' hb => ⟨keep_cell hb t2_l0 t2_0_2, keep_cell hb t2_l0 t2_0_3, keep_cell hb xl2 zr, keep_cell hb xl3 zs⟩)
      clear zr zs
      clear t2_0_0 t2_0_1 t2_0_2 t2_0_3 t2_l0 t2_1_0 t2_1_1 t2_1_2 t2_l1
      go_wp2_with fail
      have er : IntKind.i64.wrap (r + t) = r + t := wrap_in (by omega) (by omega)
      have es : IntKind.i64.wrap (s + t) = s + t := wrap_in (by omega) (by omega)
      have HM' := Lib.hid HM.out.drew
      have HT := Lib.hid (show (false = false → wr.drew.cell? ⟨w2.heap.size, 2, none⟩ = some v2) ∧ (false = false → wr.drew.cell? ⟨w2.heap.size, 3, none⟩ = some v3) ∧ (wr.drew.cell? ⟨w.heap.size, 2, none⟩ = some (.slice (some ⟨b2, o2, none⟩) n c2) ∧ wr.drew.cell? ⟨w.heap.size, 3, none⟩ = some (.slice (some ⟨b3, o3, none⟩) n c3) ∧ wr.drew.cell? ⟨b2, o2 + k, none⟩ = some (.int .i64 r) ∧ wr.drew.cell? ⟨b3, o3 + k, none⟩ = some (.int .i64 s)) from ⟨fun _ => HM'.out.c2, fun _ => HM'.out.c3, HCW.out _ HM'.out.hb⟩)
      refine wp_region_G 23 25 (fun d2 d3 W' => (d2 = false → W'.cell? ⟨w2.heap.size, 2, none⟩ = some v2) ∧ (d3 = false → W'.cell? ⟨w2.heap.size, 3, none⟩ = some v3) ∧ (W'.cell? ⟨w.heap.size, 2, none⟩ = some (.slice (some ⟨b2, o2, none⟩) n c2) ∧ W'.cell? ⟨w.heap.size, 3, none⟩ = some (.slice (some ⟨b3, o3, none⟩) n c3) ∧ W'.cell? ⟨b2, o2 + k, none⟩ = some (.int .i64 r) ∧ W'.cell? ⟨b3, o3 + k, none⟩ = some (.int .i64 s))) 26 #[false, false, false, false, false, false, false, false, false, false, false, false, false, false, false, false, false, false, false, false, false, false, false, false, false, false] (by rfl) (by rfl) (by kernel_rfl) ?_
      clear y2 y3 hg2
      generalize wr.drew = wd at HM' HT ⊢
      refine wpAnyG_take (i := 0) 25 false false (S0 := fun W' => (W'.cell? ⟨w.heap.size, 2, none⟩ = some (.slice (some ⟨b2, o2, none⟩) n c2) ∧ W'.cell? ⟨w.heap.size, 3, none⟩ = some (.slice (some ⟨b3, o3, none⟩) n c3) ∧ W'.cell? ⟨b2, o2 + k, none⟩ = some (.int .i64 r) ∧ W'.cell? ⟨b3, o3 + k, none⟩ = some (.int .i64 s))) (v := ?_) rfl (by kernel_rfl) (by kernel_rfl) (by kernel_rfl) (by kernel_rfl) (by decide) (by decide) (by rfl) (fun l w hl hT => hT.2.2) (fun _ _ _ h => h) (by rfl) (by rfl) HT.out (Or.inl ⟨by rfl, ?_⟩) ?_
      rotate_left
      · (intro w hSw; (try dsimp only at hSw); go_simp; try (with_reducible rfl))
      try simp only [Act.put, List.setIfInBounds_toArray, List.set_cons_zero, List.set_cons_succ]
      refine wpAnyG_take (i := 1) 23 false false (S0 := fun W' => W'.cell? ⟨w2.heap.size, 2, none⟩ = some v2) (v := ?_) rfl (by kernel_rfl) (by kernel_rfl) (by kernel_rfl) (by kernel_rfl) (by decide) (by decide) (by rfl) (fun l w hl hT => hT.1 hl) (fun _ _ _ h => h) (by rfl) (by rfl) HT.out (Or.inl ⟨by rfl, ?_⟩) ?_
      rotate_left
      · (intro w hSw; (try dsimp only at hSw); go_simp; try (with_reducible rfl))
      try simp only [Act.put, List.setIfInBounds_toArray, List.set_cons_zero, List.set_cons_succ]
      refine wpAnyG_take (i := 2) 25 false false (S0 := fun W' => (W'.cell? ⟨w.heap.size, 2, none⟩ = some (.slice (some ⟨b2, o2, none⟩) n c2) ∧ W'.cell? ⟨w.heap.size, 3, none⟩ = some (.slice (some ⟨b3, o3, none⟩) n c3) ∧ W'.cell? ⟨b2, o2 + k, none⟩ = some (.int .i64 r) ∧ W'.cell? ⟨b3, o3 + k, none⟩ = some (.int .i64 s))) (v := ?_) rfl (by kernel_rfl) (by kernel_rfl) (by kernel_rfl) (by kernel_rfl) (by decide) (by decide) (by rfl) (fun l w hl hT => hT.2.2) (fun _ _ _ h => h) (by rfl) (by rfl) HT.out (Or.inl ⟨by rfl, ?_⟩) ?_
      rotate_left
      · (intro w hSw; (try dsimp only at hSw); go_simp; try (with_reducible rfl))
      try simp only [Act.put, List.setIfInBounds_toArray, List.set_cons_zero, List.set_cons_succ]
      refine wpAnyG_take (i := 3) 25 false false (S0 := fun W' => (W'.cell? ⟨w.heap.size, 2, none⟩ = some (.slice (some ⟨b2, o2, none⟩) n c2) ∧ W'.cell? ⟨w.heap.size, 3, none⟩ = some (.slice (some ⟨b3, o3, none⟩) n c3) ∧ W'.cell? ⟨b2, o2 + k, none⟩ = some (.int .i64 r) ∧ W'.cell? ⟨b3, o3 + k, none⟩ = some (.int .i64 s))) (v := ?_) rfl (by kernel_rfl) (by kernel_rfl) (by kernel_rfl) (by kernel_rfl) (by decide) (by decide) (by rfl) (fun l w hl hT => hT.2.2) (fun _ _ _ h => h) (by rfl) (by rfl) HT.out (Or.inl ⟨by rfl, ?_⟩) ?_
      rotate_left
      · (intro w hSw; (try dsimp only at hSw); go_simp; try (with_reducible rfl))
      try simp only [Act.put, List.setIfInBounds_toArray, List.set_cons_zero, List.set_cons_succ]
      refine wpAnyG_take (i := 4) 25 false false (S0 := fun W' => (W'.cell? ⟨w.heap.size, 2, none⟩ = some (.slice (some ⟨b2, o2, none⟩) n c2) ∧ W'.cell? ⟨w.heap.size, 3, none⟩ = some (.slice (some ⟨b3, o3, none⟩) n c3) ∧ W'.cell? ⟨b2, o2 + k, none⟩ = some (.int .i64 r) ∧ W'.cell? ⟨b3, o3 + k, none⟩ = some (.int .i64 s))) (v := ?_) rfl (by kernel_rfl) (by kernel_rfl) (by kernel_rfl) (by kernel_rfl) (by decide) (by decide) (by rfl) (fun l w hl hT => hT.2.2) (fun _ _ _ h => h) (by rfl) (by rfl) HT.out (Or.inl ⟨by rfl, ?_⟩) ?_
      rotate_left
      · (intro w hSw; (try dsimp only at hSw); go_simp; try (with_reducible rfl))
      try simp only [Act.put, List.setIfInBounds_toArray, List.set_cons_zero, List.set_cons_succ]
      refine wpAnyG_take (i := 5) 25 false false (S0 := fun W' => (W'.cell? ⟨w.heap.size, 2, none⟩ = some (.slice (some ⟨b2, o2, none⟩) n c2) ∧ W'.cell? ⟨w.heap.size, 3, none⟩ = some (.slice (some ⟨b3, o3, none⟩) n c3) ∧ W'.cell? ⟨b2, o2 + k, none⟩ = some (.int .i64 r) ∧ W'.cell? ⟨b3, o3 + k, none⟩ = some (.int .i64 s))) (v := ?_) rfl (by kernel_rfl) (by kernel_rfl) (by kernel_rfl) (by kernel_rfl) (by decide) (by decide) (by rfl) (fun l w hl hT => hT.2.2) (fun _ _ _ h => h) (by rfl) (by rfl) HT.out (Or.inl ⟨by rfl, ?_⟩) ?_
      rotate_left
      · (intro w hSw; (try dsimp only at hSw); go_simp; try (with_reducible rfl))
      try simp only [Act.put, List.setIfInBounds_toArray, List.set_cons_zero, List.set_cons_succ]
      refine wpAnyG_take (i := 6) 25 false false (S0 := fun W' => (W'.cell? ⟨w.heap.size, 2, none⟩ = some (.slice (some ⟨b2, o2, none⟩) n c2) ∧ W'.cell? ⟨w.heap.size, 3, none⟩ = some (.slice (some ⟨b3, o3, none⟩) n c3) ∧ W'.cell? ⟨b2, o2 + k, none⟩ = some (.int .i64 r) ∧ W'.cell? ⟨b3, o3 + k, none⟩ = some (.int .i64 s))) (v := ?_) rfl (by kernel_rfl) (by kernel_rfl) (by kernel_rfl) (by kernel_rfl) (by decide) (by decide) (by rfl) (fun l w hl hT => hT.2.2) (fun _ _ _ h => h) (by rfl) (by rfl) HT.out (Or.inl ⟨by rfl, ?_⟩) ?_
      rotate_left
      · (intro w hSw; (try dsimp only at hSw); go_simp; try (with_reducible rfl))
      try simp only [Act.put, List.setIfInBounds_toArray, List.set_cons_zero, List.set_cons_succ]
      refine wpAnyG_take (i := 7) 25 false false (S0 := fun W' => (W'.cell? ⟨w.heap.size, 2, none⟩ = some (.slice (some ⟨b2, o2, none⟩) n c2) ∧ W'.cell? ⟨w.heap.size, 3, none⟩ = some (.slice (some ⟨b3, o3, none⟩) n c3) ∧ W'.cell? ⟨b2, o2 + k, none⟩ = some (.int .i64 r) ∧ W'.cell? ⟨b3, o3 + k, none⟩ = some (.int .i64 s))) (v := ?_) rfl (by kernel_rfl) (by kernel_rfl) (by kernel_rfl) (by kernel_rfl) (by decide) (by decide) (by rfl) (fun l w hl hT => hT.2.2) (fun _ _ _ h => h) (by rfl) (by rfl) HT.out (Or.inl ⟨by rfl, ?_⟩) ?_
      rotate_left
      · (intro w hSw; (try dsimp only at hSw); go_simp; try (with_reducible rfl))
      try simp only [Act.put, List.setIfInBounds_toArray, List.set_cons_zero, List.set_cons_succ]
      refine wpAnyG_take (i := 8) 25 false false (S0 := fun W' => (W'.cell? ⟨w.heap.size, 2, none⟩ = some (.slice (some ⟨b2, o2, none⟩) n c2) ∧ W'.cell? ⟨w.heap.size, 3, none⟩ = some (.slice (some ⟨b3, o3, none⟩) n c3) ∧ W'.cell? ⟨b2, o2 + k, none⟩ = some (.int .i64 r) ∧ W'.cell? ⟨b3, o3 + k, none⟩ = some (.int .i64 s))) (v := ?_) rfl (by kernel_rfl) (by kernel_rfl) (by kernel_rfl) (by kernel_rfl) (by decide) (by decide) (by rfl) (fun l w hl hT => hT.2.2) (fun _ _ _ h => h) (by rfl) (by rfl) HT.out (Or.inl ⟨by rfl, ?_⟩) ?_
      rotate_left
      · (intro w hSw; (try dsimp only at hSw); go_simp; try (with_reducible rfl))
      try simp only [Act.put, List.setIfInBounds_toArray, List.set_cons_zero, List.set_cons_succ]
      refine wpAnyG_take (i := 11) 25 false false (S0 := fun W' => (W'.cell? ⟨w.heap.size, 2, none⟩ = some (.slice (some ⟨b2, o2, none⟩) n c2) ∧ W'.cell? ⟨w.heap.size, 3, none⟩ = some (.slice (some ⟨b3, o3, none⟩) n c3) ∧ W'.cell? ⟨b2, o2 + k, none⟩ = some (.int .i64 r) ∧ W'.cell? ⟨b3, o3 + k, none⟩ = some (.int .i64 s))) (v := ?_) rfl (by kernel_rfl) (by kernel_rfl) (by kernel_rfl) (by kernel_rfl) (by decide) (by decide) (by rfl) (fun l w hl hT => hT.2.2) (fun _ _ _ h => h) (by rfl) (by rfl) HT.out (Or.inl ⟨by rfl, ?_⟩) ?_
      rotate_left
      · (intro w hSw; (try dsimp only at hSw); go_simp; try (with_reducible rfl))
      try simp only [Act.put, List.setIfInBounds_toArray, List.set_cons_zero, List.set_cons_succ]
      refine wpAnyG_take (i := 12) 25 false false (S0 := fun W' => W'.cell? ⟨w2.heap.size, 3, none⟩ = some v3) (v := ?_) rfl (by kernel_rfl) (by kernel_rfl) (by kernel_rfl) (by kernel_rfl) (by decide) (by decide) (by rfl) (fun l w hl hT => hT.2.1 hl) (fun _ _ _ h => h) (by rfl) (by rfl) HT.out (Or.inl ⟨by rfl, ?_⟩) ?_
      rotate_left
      · (intro w hSw; (try dsimp only at hSw); go_simp; try (with_reducible rfl))
      try simp only [Act.put, List.setIfInBounds_toArray, List.set_cons_zero, List.set_cons_succ]
      refine wpAnyG_take (i := 13) 25 false false (S0 := fun W' => (W'.cell? ⟨w.heap.size, 2, none⟩ = some (.slice (some ⟨b2, o2, none⟩) n c2) ∧ W'.cell? ⟨w.heap.size, 3, none⟩ = some (.slice (some ⟨b3, o3, none⟩) n c3) ∧ W'.cell? ⟨b2, o2 + k, none⟩ = some (.int .i64 r) ∧ W'.cell? ⟨b3, o3 + k, none⟩ = some (.int .i64 s))) (v := ?_) rfl (by kernel_rfl) (by kernel_rfl) (by kernel_rfl) (by kernel_rfl) (by decide) (by decide) (by rfl) (fun l w hl hT => hT.2.2) (fun _ _ _ h => h) (by rfl) (by rfl) HT.out (Or.inl ⟨by rfl, ?_⟩) ?_
      rotate_left
      · (intro w hSw; (try dsimp only at hSw); go_simp; try (with_reducible rfl))
      try simp only [Act.put, List.setIfInBounds_toArray, List.set_cons_zero, List.set_cons_succ]
      refine wpAnyG_take (i := 14) 25 false false (S0 := fun W' => (W'.cell? ⟨w.heap.size, 2, none⟩ = some (.slice (some ⟨b2, o2, none⟩) n c2) ∧ W'.cell? ⟨w.heap.size, 3, none⟩ = some (.slice (some ⟨b3, o3, none⟩) n c3) ∧ W'.cell? ⟨b2, o2 + k, none⟩ = some (.int .i64 r) ∧ W'.cell? ⟨b3, o3 + k, none⟩ = some (.int .i64 s))) (v := ?_) rfl (by kernel_rfl) (by kernel_rfl) (by kernel_rfl) (by kernel_rfl) (by decide) (by decide) (by rfl) (fun l w hl hT => hT.2.2) (fun _ _ _ h => h) (by rfl) (by rfl) HT.out (Or.inl ⟨by rfl, ?_⟩) ?_
      rotate_left
      · (intro w hSw; (try dsimp only at hSw); go_simp; try (with_reducible rfl))
      try simp only [Act.put, List.setIfInBounds_toArray, List.set_cons_zero, List.set_cons_succ]
      refine wpAnyG_take (i := 15) 25 false false (S0 := fun W' => (W'.cell? ⟨w.heap.size, 2, none⟩ = some (.slice (some ⟨b2, o2, none⟩) n c2) ∧ W'.cell? ⟨w.heap.size, 3, none⟩ = some (.slice (some ⟨b3, o3, none⟩) n c3) ∧ W'.cell? ⟨b2, o2 + k, none⟩ = some (.int .i64 r) ∧ W'.cell? ⟨b3, o3 + k, none⟩ = some (.int .i64 s))) (v := ?_) rfl (by kernel_rfl) (by kernel_rfl) (by kernel_rfl) (by kernel_rfl) (by decide) (by decide) (by rfl) (fun l w hl hT => hT.2.2) (fun _ _ _ h => h) (by rfl) (by rfl) HT.out (Or.inl ⟨by rfl, ?_⟩) ?_
      rotate_left
      · (intro w hSw; (try dsimp only at hSw); go_simp; try (with_reducible rfl))
      try simp only [Act.put, List.setIfInBounds_toArray, List.set_cons_zero, List.set_cons_succ]
      refine wpAnyG_take (i := 16) 25 false false (S0 := fun W' => (W'.cell? ⟨w.heap.size, 2, none⟩ = some (.slice (some ⟨b2, o2, none⟩) n c2) ∧ W'.cell? ⟨w.heap.size, 3, none⟩ = some (.slice (some ⟨b3, o3, none⟩) n c3) ∧ W'.cell? ⟨b2, o2 + k, none⟩ = some (.int .i64 r) ∧ W'.cell? ⟨b3, o3 + k, none⟩ = some (.int .i64 s))) (v := ?_) rfl (by kernel_rfl) (by kernel_rfl) (by kernel_rfl) (by kernel_rfl) (by decide) (by decide) (by rfl) (fun l w hl hT => hT.2.2) (fun _ _ _ h => h) (by rfl) (by rfl) HT.out (Or.inl ⟨by rfl, ?_⟩) ?_
      rotate_left
      · (intro w hSw; (try dsimp only at hSw); go_simp; try (with_reducible rfl))
      try simp only [Act.put, List.setIfInBounds_toArray, List.set_cons_zero, List.set_cons_succ]
      refine wpAnyG_take (i := 17) 25 false false (S0 := fun W' => (W'.cell? ⟨w.heap.size, 2, none⟩ = some (.slice (some ⟨b2, o2, none⟩) n c2) ∧ W'.cell? ⟨w.heap.size, 3, none⟩ = some (.slice (some ⟨b3, o3, none⟩) n c3) ∧ W'.cell? ⟨b2, o2 + k, none⟩ = some (.int .i64 r) ∧ W'.cell? ⟨b3, o3 + k, none⟩ = some (.int .i64 s))) (v := ?_) rfl (by kernel_rfl) (by kernel_rfl) (by kernel_rfl) (by kernel_rfl) (by decide) (by decide) (by rfl) (fun l w hl hT => hT.2.2) (fun _ _ _ h => h) (by rfl) (by rfl) HT.out (Or.inl ⟨by rfl, ?_⟩) ?_
      rotate_left
      · (intro w hSw; (try dsimp only at hSw); go_simp; try (with_reducible rfl))
      try simp only [Act.put, List.setIfInBounds_toArray, List.set_cons_zero, List.set_cons_succ]
      refine wpAnyG_take (i := 18) 25 false false (S0 := fun W' => (W'.cell? ⟨w.heap.size, 2, none⟩ = some (.slice (some ⟨b2, o2, none⟩) n c2) ∧ W'.cell? ⟨w.heap.size, 3, none⟩ = some (.slice (some ⟨b3, o3, none⟩) n c3) ∧ W'.cell? ⟨b2, o2 + k, none⟩ = some (.int .i64 r) ∧ W'.cell? ⟨b3, o3 + k, none⟩ = some (.int .i64 s))) (v := ?_) rfl (by kernel_rfl) (by kernel_rfl) (by kernel_rfl) (by kernel_rfl) (by decide) (by decide) (by rfl) (fun l w hl hT => hT.2.2) (fun _ _ _ h => h) (by rfl) (by rfl) HT.out (Or.inl ⟨by rfl, ?_⟩) ?_
      rotate_left
      · (intro w hSw; (try dsimp only at hSw); go_simp; try (with_reducible rfl))
      try simp only [Act.put, List.setIfInBounds_toArray, List.set_cons_zero, List.set_cons_succ]
      refine wpAnyG_take (i := 19) 25 false false (S0 := fun W' => (W'.cell? ⟨w.heap.size, 2, none⟩ = some (.slice (some ⟨b2, o2, none⟩) n c2) ∧ W'.cell? ⟨w.heap.size, 3, none⟩ = some (.slice (some ⟨b3, o3, none⟩) n c3) ∧ W'.cell? ⟨b2, o2 + k, none⟩ = some (.int .i64 r) ∧ W'.cell? ⟨b3, o3 + k, none⟩ = some (.int .i64 s))) (v := ?_) rfl (by kernel_rfl) (by kernel_rfl) (by kernel_rfl) (by kernel_rfl) (by decide) (by decide) (by rfl) (fun l w hl hT => hT.2.2) (fun _ _ _ h => h) (by rfl) (by rfl) HT.out (Or.inl ⟨by rfl, ?_⟩) ?_
      rotate_left
      · (intro w hSw; (try dsimp only at hSw); go_simp; try (with_reducible rfl))
      try simp only [Act.put, List.setIfInBounds_toArray, List.set_cons_zero, List.set_cons_succ]
      clear er es
      refine wpAnyG_ready (rs := [9, 20]) (by kernel_rfl) (by simp) ?_
      refine AllReadyG.cons false false rfl (by rfl) (by rfl) (fun K hK => ?_) ?_
      · skip
        go_simp
        have HG1 := Lib.hid (HM'.out.alloc (.cells #[.int .i64 (r + t)] 3))
        have qa1_1 : (wd.alloc (.cells #[.int .i64 (r + t)] 3)).cell? ⟨wd.heap.size, 0, none⟩ = some (.int .i64 (r + t)) := by simp [go_sem]
        have la1_1 : wd.heap.size ≤ wd.heap.size := by omega
        refine hK.out _ _ (show (false = false → (wd.alloc (.cells #[.int .i64 (r + t)] 3)).cell? ⟨w2.heap.size, 2, none⟩ = some v2) ∧ (false = false → (wd.alloc (.cells #[.int .i64 (r + t)] 3)).cell? ⟨w2.heap.size, 3, none⟩ = some v3) ∧ ((wd.alloc (.cells #[.int .i64 (r + t)] 3)).cell? ⟨w.heap.size, 2, none⟩ = some (.slice (some ⟨b2, o2, none⟩) n c2) ∧ (wd.alloc (.cells #[.int .i64 (r + t)] 3)).cell? ⟨w.heap.size, 3, none⟩ = some (.slice (some ⟨b3, o3, none⟩) n c3) ∧ (wd.alloc (.cells #[.int .i64 (r + t)] 3)).cell? ⟨b2, o2 + k, none⟩ = some (.int .i64 r) ∧ (wd.alloc (.cells #[.int .i64 (r + t)] 3)).cell? ⟨b3, o3 + k, none⟩ = some (.int .i64 s)) from ⟨fun _ => HG1.out.c2, fun _ => HG1.out.c3, HCW.out _ HG1.out.hb⟩) (fun hT => ?_)
        try simp only [Act.put, List.setIfInBounds_toArray, List.set_cons_zero, List.set_cons_succ]
        clear hT
        refine wpAnyG_ready (rs := [10, 20]) (by kernel_rfl) (by simp) ?_
        refine AllReadyG.cons false false rfl (by rfl) (by rfl) (fun K hK => ?_) ?_
        · skip
          refine step_app2 HG1.out rfl _ _ rfl rfl ⟨wd.heap.size, 0, none⟩ (r + t) rfl qa1_1 (by omega) (fun g2 cap2 W2 hrg hgr => ?_)
          have HG2 := Lib.hid hrg; clear hrg
          have le2 : wd.heap.size ≤ W2.heap.size := by have h9 := hgr.size; (try simp at h9); omega
          clear hgr
          refine hK.out _ _ (show (false = false → W2.cell? ⟨w2.heap.size, 2, none⟩ = some v2) ∧ (false = false → W2.cell? ⟨w2.heap.size, 3, none⟩ = some v3) ∧ (W2.cell? ⟨w.heap.size, 2, none⟩ = some (.slice (some ⟨b2, o2, none⟩) n c2) ∧ W2.cell? ⟨w.heap.size, 3, none⟩ = some (.slice (some ⟨b3, o3, none⟩) n c3) ∧ W2.cell? ⟨b2, o2 + k, none⟩ = some (.int .i64 r) ∧ W2.cell? ⟨b3, o3 + k, none⟩ = some (.int .i64 s)) from ⟨fun _ => HG2.out.c2, fun _ => HG2.out.c3, HCW.out _ HG2.out.hb⟩) (fun hT => ?_)
          try simp only [Act.put, List.setIfInBounds_toArray, List.set_cons_zero, List.set_cons_succ]
          clear hT
          have HT2 := Lib.hid (show (false = false → W2.cell? ⟨w2.heap.size, 2, none⟩ = some v2) ∧ (false = false → W2.cell? ⟨w2.heap.size, 3, none⟩ = some v3) ∧ (W2.cell? ⟨w.heap.size, 2, none⟩ = some (.slice (some ⟨b2, o2, none⟩) n c2) ∧ W2.cell? ⟨w.heap.size, 3, none⟩ = some (.slice (some ⟨b3, o3, none⟩) n c3) ∧ W2.cell? ⟨b2, o2 + k, none⟩ = some (.int .i64 r) ∧ W2.cell? ⟨b3, o3 + k, none⟩ = some (.int .i64 s)) from ⟨fun _ => HG2.out.c2, fun _ => HG2.out.c3, HCW.out _ HG2.out.hb⟩)
          refine wpAnyG_take (i := 22) 25 false false (S0 := fun W' => (W'.cell? ⟨w.heap.size, 2, none⟩ = some (.slice (some ⟨b2, o2, none⟩) n c2) ∧ W'.cell? ⟨w.heap.size, 3, none⟩ = some (.slice (some ⟨b3, o3, none⟩) n c3) ∧ W'.cell? ⟨b2, o2 + k, none⟩ = some (.int .i64 r) ∧ W'.cell? ⟨b3, o3 + k, none⟩ = some (.int .i64 s))) (v := ?_) rfl (by kernel_rfl) (by kernel_rfl) (by kernel_rfl) (by kernel_rfl) (by decide) (by decide) (by rfl) (fun l w hl hT => hT.2.2) (fun _ _ _ h => h) (by rfl) (by rfl) HT2.out (Or.inl ⟨by rfl, ?_⟩) ?_
          rotate_left
          · (intro w hSw; (try dsimp only at hSw); go_simp; try (with_reducible rfl))
          try simp only [Act.put, List.setIfInBounds_toArray, List.set_cons_zero, List.set_cons_succ]
          refine wpAnyG_ready (rs := [20]) (by kernel_rfl) (by simp) ?_
          refine AllReadyG.cons false false rfl (by rfl) (by rfl) (fun K hK => ?_) ?_
          · skip
            go_simp
            have HG3 := Lib.hid (HG2.out.alloc (.cells #[.int .i64 (s + t)] 3))
            have qa2_3 : (W2.alloc (.cells #[.int .i64 (s + t)] 3)).cell? ⟨W2.heap.size, 0, none⟩ = some (.int .i64 (s + t)) := by simp [go_sem]
            have la2_3 : wd.heap.size ≤ W2.heap.size := by omega
            refine hK.out _ _ (show (false = false → (W2.alloc (.cells #[.int .i64 (s + t)] 3)).cell? ⟨w2.heap.size, 2, none⟩ = some v2) ∧ (false = false → (W2.alloc (.cells #[.int .i64 (s + t)] 3)).cell? ⟨w2.heap.size, 3, none⟩ = some v3) ∧ ((W2.alloc (.cells #[.int .i64 (s + t)] 3)).cell? ⟨w.heap.size, 2, none⟩ = some (.slice (some ⟨b2, o2, none⟩) n c2) ∧ (W2.alloc (.cells #[.int .i64 (s + t)] 3)).cell? ⟨w.heap.size, 3, none⟩ = some (.slice (some ⟨b3, o3, none⟩) n c3) ∧ (W2.alloc (.cells #[.int .i64 (s + t)] 3)).cell? ⟨b2, o2 + k, none⟩ = some (.int .i64 r) ∧ (W2.alloc (.cells #[.int .i64 (s + t)] 3)).cell? ⟨b3, o3 + k, none⟩ = some (.int .i64 s)) from ⟨fun _ => HG3.out.c2, fun _ => HG3.out.c3, HCW.out _ HG3.out.hb⟩) (fun hT => ?_)
            try simp only [Act.put, List.setIfInBounds_toArray, List.set_cons_zero, List.set_cons_succ]
            clear hT
            refine wpAnyG_ready (rs := [21]) (by kernel_rfl) (by simp) ?_
            refine AllReadyG.cons false false rfl (by rfl) (by rfl) (fun K hK => ?_) ?_
            · skip
              refine step_app3 HG3.out rfl _ _ rfl rfl ⟨W2.heap.size, 0, none⟩ (s + t) rfl qa2_3 (by omega) (fun g4 cap4 W4 hrg hgr => ?_)
              have HG4 := Lib.hid hrg; clear hrg
              have le4 : wd.heap.size ≤ W4.heap.size := by have h9 := hgr.size; (try simp at h9); omega
              clear hgr
              refine hK.out _ _ (show (false = false → W4.cell? ⟨w2.heap.size, 2, none⟩ = some v2) ∧ (false = false → W4.cell? ⟨w2.heap.size, 3, none⟩ = some v3) ∧ (W4.cell? ⟨w.heap.size, 2, none⟩ = some (.slice (some ⟨b2, o2, none⟩) n c2) ∧ W4.cell? ⟨w.heap.size, 3, none⟩ = some (.slice (some ⟨b3, o3, none⟩) n c3) ∧ W4.cell? ⟨b2, o2 + k, none⟩ = some (.int .i64 r) ∧ W4.cell? ⟨b3, o3 + k, none⟩ = some (.int .i64 s)) from ⟨fun _ => HG4.out.c2, fun _ => HG4.out.c3, HCW.out _ HG4.out.hb⟩) (fun hT => ?_)
              try simp only [Act.put, List.setIfInBounds_toArray, List.set_cons_zero, List.set_cons_succ]
              clear hT
              refine wpAnyG_ready (rs := [23]) (by kernel_rfl) (by simp) ?_
              refine AllReadyG.cons true false rfl (by rfl) (by rfl) (fun K hK => ?_) ?_
              · skip
                have yc := HG4.out.c2; have yf := HG4.out.f2
                go_simp
                clear yc yf
                have HG5 := Lib.hid (HG4.out.set2 (.slice (some ⟨g2, 0, none⟩) (k + 1) cap2))
                refine hK.out _ _ (show (true = false → (W4.setCell ⟨w2.heap.size, 2, none⟩ (.slice (some ⟨g2, 0, none⟩) (k + 1) cap2)).cell? ⟨w2.heap.size, 2, none⟩ = some v2) ∧ (false = false → (W4.setCell ⟨w2.heap.size, 2, none⟩ (.slice (some ⟨g2, 0, none⟩) (k + 1) cap2)).cell? ⟨w2.heap.size, 3, none⟩ = some v3) ∧ ((W4.setCell ⟨w2.heap.size, 2, none⟩ (.slice (some ⟨g2, 0, none⟩) (k + 1) cap2)).cell? ⟨w.heap.size, 2, none⟩ = some (.slice (some ⟨b2, o2, none⟩) n c2) ∧ (W4.setCell ⟨w2.heap.size, 2, none⟩ (.slice (some ⟨g2, 0, none⟩) (k + 1) cap2)).cell? ⟨w.heap.size, 3, none⟩ = some (.slice (some ⟨b3, o3, none⟩) n c3) ∧ (W4.setCell ⟨w2.heap.size, 2, none⟩ (.slice (some ⟨g2, 0, none⟩) (k + 1) cap2)).cell? ⟨b2, o2 + k, none⟩ = some (.int .i64 r) ∧ (W4.setCell ⟨w2.heap.size, 2, none⟩ (.slice (some ⟨g2, 0, none⟩) (k + 1) cap2)).cell? ⟨b3, o3 + k, none⟩ = some (.int .i64 s)) from ⟨(fun h => by cases h), fun _ => HG5.out.c3, HCW.out _ HG5.out.hb⟩) (fun hT => ?_)
                try simp only [Act.put, List.setIfInBounds_toArray, List.set_cons_zero, List.set_cons_succ]
                clear hT
                have HT5 := Lib.hid (show (true = false → (W4.setCell ⟨w2.heap.size, 2, none⟩ (.slice (some ⟨g2, 0, none⟩) (k + 1) cap2)).cell? ⟨w2.heap.size, 2, none⟩ = some v2) ∧ (false = false → (W4.setCell ⟨w2.heap.size, 2, none⟩ (.slice (some ⟨g2, 0, none⟩) (k + 1) cap2)).cell? ⟨w2.heap.size, 3, none⟩ = some v3) ∧ ((W4.setCell ⟨w2.heap.size, 2, none⟩ (.slice (some ⟨g2, 0, none⟩) (k + 1) cap2)).cell? ⟨w.heap.size, 2, none⟩ = some (.slice (some ⟨b2, o2, none⟩) n c2) ∧ (W4.setCell ⟨w2.heap.size, 2, none⟩ (.slice (some ⟨g2, 0, none⟩) (k + 1) cap2)).cell? ⟨w.heap.size, 3, none⟩ = some (.slice (some ⟨b3, o3, none⟩) n c3) ∧ (W4.setCell ⟨w2.heap.size, 2, none⟩ (.slice (some ⟨g2, 0, none⟩) (k + 1) cap2)).cell? ⟨b2, o2 + k, none⟩ = some (.int .i64 r) ∧ (W4.setCell ⟨w2.heap.size, 2, none⟩ (.slice (some ⟨g2, 0, none⟩) (k + 1) cap2)).cell? ⟨b3, o3 + k, none⟩ = some (.int .i64 s)) from ⟨(fun h => by cases h), fun _ => HG5.out.c3, HCW.out _ HG5.out.hb⟩)
                refine wpAnyG_take (i := 24) 25 true false (S0 := fun W' => (W'.cell? ⟨w.heap.size, 2, none⟩ = some (.slice (some ⟨b2, o2, none⟩) n c2) ∧ W'.cell? ⟨w.heap.size, 3, none⟩ = some (.slice (some ⟨b3, o3, none⟩) n c3) ∧ W'.cell? ⟨b2, o2 + k, none⟩ = some (.int .i64 r) ∧ W'.cell? ⟨b3, o3 + k, none⟩ = some (.int .i64 s))) (v := ?_) rfl (by kernel_rfl) (by kernel_rfl) (by kernel_rfl) (by kernel_rfl) (by decide) (by decide) (by rfl) (fun l w hl hT => hT.2.2) (fun _ _ _ h => h) (by rfl) (by rfl) HT5.out (Or.inl ⟨by rfl, ?_⟩) ?_
                rotate_left
                · (intro w hSw; (try dsimp only at hSw); go_simp; try (with_reducible rfl))
                try simp only [Act.put, List.setIfInBounds_toArray, List.set_cons_zero, List.set_cons_succ]
                refine wpAnyG_ready (rs := [25]) (by kernel_rfl) (by simp) ?_
                refine AllReadyG.cons true true rfl (by rfl) (by rfl) (fun K hK => ?_) ?_
                · skip
                  have yc := HG5.out.c3; have yf := HG5.out.f3
                  go_simp
                  clear yc yf
                  have HG6 := Lib.hid (HG5.out.set3 (.slice (some ⟨g4, 0, none⟩) (k + 1) cap4))
                  refine hK.out _ _ (show (true = false → ((W4.setCell ⟨w2.heap.size, 2, none⟩ (.slice (some ⟨g2, 0, none⟩) (k + 1) cap2)).setCell ⟨w2.heap.size, 3, none⟩ (.slice (some ⟨g4, 0, none⟩) (k + 1) cap4)).cell? ⟨w2.heap.size, 2, none⟩ = some v2) ∧ (true = false → ((W4.setCell ⟨w2.heap.size, 2, none⟩ (.slice (some ⟨g2, 0, none⟩) (k + 1) cap2)).setCell ⟨w2.heap.size, 3, none⟩ (.slice (some ⟨g4, 0, none⟩) (k + 1) cap4)).cell? ⟨w2.heap.size, 3, none⟩ = some v3) ∧ (((W4.setCell ⟨w2.heap.size, 2, none⟩ (.slice (some ⟨g2, 0, none⟩) (k + 1) cap2)).setCell ⟨w2.heap.size, 3, none⟩ (.slice (some ⟨g4, 0, none⟩) (k + 1) cap4)).cell? ⟨w.heap.size, 2, none⟩ = some (.slice (some ⟨b2, o2, none⟩) n c2) ∧ ((W4.setCell ⟨w2.heap.size, 2, none⟩ (.slice (some ⟨g2, 0, none⟩) (k + 1) cap2)).setCell ⟨w2.heap.size, 3, none⟩ (.slice (some ⟨g4, 0, none⟩) (k + 1) cap4)).cell? ⟨w.heap.size, 3, none⟩ = some (.slice (some ⟨b3, o3, none⟩) n c3) ∧ ((W4.setCell ⟨w2.heap.size, 2, none⟩ (.slice (some ⟨g2, 0, none⟩) (k + 1) cap2)).setCell ⟨w2.heap.size, 3, none⟩ (.slice (some ⟨g4, 0, none⟩) (k + 1) cap4)).cell? ⟨b2, o2 + k, none⟩ = some (.int .i64 r) ∧ ((W4.setCell ⟨w2.heap.size, 2, none⟩ (.slice (some ⟨g2, 0, none⟩) (k + 1) cap2)).setCell ⟨w2.heap.size, 3, none⟩ (.slice (some ⟨g4, 0, none⟩) (k + 1) cap4)).cell? ⟨b3, o3 + k, none⟩ = some (.int .i64 s)) from ⟨(fun h => by cases h), (fun h => by cases h), HCW.out _ HG6.out.hb⟩) (fun hT => ?_)
                  try simp only [Act.put, List.setIfInBounds_toArray, List.set_cons_zero, List.set_cons_succ]
                  clear hT
                  refine wpAnyG_done (by kernel_rfl) ?_ _
                  go_wp2
                  go_roundw
                  case rel => exact ⟨k + 1, _, _, by have := HNE.out; omega, by go_num, by have h9 := HG6.out; rw [HPR.out _ rfl, HPS.out _ rfl] at h9; exact h9⟩
                  case measure => have := HNE.out; simp [intOf]; omega
                exact AllReadyG.nil
              exact AllReadyG.nil
            exact AllReadyG.nil
          exact AllReadyG.nil
        refine AllReadyG.cons false false rfl (by rfl) (by rfl) (fun K hK => ?_) ?_
        · skip
          go_simp
          have HG7 := Lib.hid (HG1.out.alloc (.cells #[.int .i64 (s + t)] 3))
          have qa2_7 : ((wd.alloc (.cells #[.int .i64 (r + t)] 3)).alloc (.cells #[.int .i64 (s + t)] 3)).cell? ⟨wd.heap.size + 1, 0, none⟩ = some (.int .i64 (s + t)) := by simp [go_sem]
          have la2_7 : wd.heap.size ≤ wd.heap.size + 1 := by omega
          have qa1_7 : ((wd.alloc (.cells #[.int .i64 (r + t)] 3)).alloc (.cells #[.int .i64 (s + t)] 3)).cell? ⟨wd.heap.size, 0, none⟩ = some (.int .i64 (r + t)) := cell_alloc_l _ qa1_1
          refine hK.out _ _ (show (false = false → ((wd.alloc (.cells #[.int .i64 (r + t)] 3)).alloc (.cells #[.int .i64 (s + t)] 3)).cell? ⟨w2.heap.size, 2, none⟩ = some v2) ∧ (false = false → ((wd.alloc (.cells #[.int .i64 (r + t)] 3)).alloc (.cells #[.int .i64 (s + t)] 3)).cell? ⟨w2.heap.size, 3, none⟩ = some v3) ∧ (((wd.alloc (.cells #[.int .i64 (r + t)] 3)).alloc (.cells #[.int .i64 (s + t)] 3)).cell? ⟨w.heap.size, 2, none⟩ = some (.slice (some ⟨b2, o2, none⟩) n c2) ∧ ((wd.alloc (.cells #[.int .i64 (r + t)] 3)).alloc (.cells #[.int .i64 (s + t)] 3)).cell? ⟨w.heap.size, 3, none⟩ = some (.slice (some ⟨b3, o3, none⟩) n c3) ∧ ((wd.alloc (.cells #[.int .i64 (r + t)] 3)).alloc (.cells #[.int .i64 (s + t)] 3)).cell? ⟨b2, o2 + k, none⟩ = some (.int .i64 r) ∧ ((wd.alloc (.cells #[.int .i64 (r + t)] 3)).alloc (.cells #[.int .i64 (s + t)] 3)).cell? ⟨b3, o3 + k, none⟩ = some (.int .i64 s)) from ⟨fun _ => HG7.out.c2, fun _ => HG7.out.c3, HCW.out _ HG7.out.hb⟩) (fun hT => ?_)
          try simp only [Act.put, List.setIfInBounds_toArray, List.set_cons_zero, List.set_cons_succ]
          clear hT
          refine wpAnyG_ready (rs := [10]) (by kernel_rfl) (by simp) ?_
          refine AllReadyG.cons false false rfl (by rfl) (by rfl) (fun K hK => ?_) ?_
          · skip
            refine step_app2 HG7.out rfl _ _ rfl rfl ⟨wd.heap.size, 0, none⟩ (r + t) rfl qa1_7 (by omega) (fun g8 cap8 W8 hrg hgr => ?_)
            have HG8 := Lib.hid hrg; clear hrg
            have le8 : wd.heap.size ≤ W8.heap.size := by have h9 := hgr.size; (try simp at h9); omega
            have qa2_8 := hgr.cell qa2_7 (fun e => by have h8 : wd.heap.size + 1 < wd.heap.size := (HM'.out.o2.lt _ e.symm).2; omega)
            clear hgr
            refine hK.out _ _ (show (false = false → W8.cell? ⟨w2.heap.size, 2, none⟩ = some v2) ∧ (false = false → W8.cell? ⟨w2.heap.size, 3, none⟩ = some v3) ∧ (W8.cell? ⟨w.heap.size, 2, none⟩ = some (.slice (some ⟨b2, o2, none⟩) n c2) ∧ W8.cell? ⟨w.heap.size, 3, none⟩ = some (.slice (some ⟨b3, o3, none⟩) n c3) ∧ W8.cell? ⟨b2, o2 + k, none⟩ = some (.int .i64 r) ∧ W8.cell? ⟨b3, o3 + k, none⟩ = some (.int .i64 s)) from ⟨fun _ => HG8.out.c2, fun _ => HG8.out.c3, HCW.out _ HG8.out.hb⟩) (fun hT => ?_)
            try simp only [Act.put, List.setIfInBounds_toArray, List.set_cons_zero, List.set_cons_succ]
            clear hT
            have HT8 := Lib.hid (show (false = false → W8.cell? ⟨w2.heap.size, 2, none⟩ = some v2) ∧ (false = false → W8.cell? ⟨w2.heap.size, 3, none⟩ = some v3) ∧ (W8.cell? ⟨w.heap.size, 2, none⟩ = some (.slice (some ⟨b2, o2, none⟩) n c2) ∧ W8.cell? ⟨w.heap.size, 3, none⟩ = some (.slice (some ⟨b3, o3, none⟩) n c3) ∧ W8.cell? ⟨b2, o2 + k, none⟩ = some (.int .i64 r) ∧ W8.cell? ⟨b3, o3 + k, none⟩ = some (.int .i64 s)) from ⟨fun _ => HG8.out.c2, fun _ => HG8.out.c3, HCW.out _ HG8.out.hb⟩)
            refine wpAnyG_take (i := 22) 25 false false (S0 := fun W' => (W'.cell? ⟨w.heap.size, 2, none⟩ = some (.slice (some ⟨b2, o2, none⟩) n c2) ∧ W'.cell? ⟨w.heap.size, 3, none⟩ = some (.slice (some ⟨b3, o3, none⟩) n c3) ∧ W'.cell? ⟨b2, o2 + k, none⟩ = some (.int .i64 r) ∧ W'.cell? ⟨b3, o3 + k, none⟩ = some (.int .i64 s))) (v := ?_) rfl (by kernel_rfl) (by kernel_rfl) (by kernel_rfl) (by kernel_rfl) (by decide) (by decide) (by rfl) (fun l w hl hT => hT.2.2) (fun _ _ _ h => h) (by rfl) (by rfl) HT8.out (Or.inl ⟨by rfl, ?_⟩) ?_
            rotate_left
            · (intro w hSw; (try dsimp only at hSw); go_simp; try (with_reducible rfl))
            try simp only [Act.put, List.setIfInBounds_toArray, List.set_cons_zero, List.set_cons_succ]
            refine wpAnyG_ready (rs := [21]) (by kernel_rfl) (by simp) ?_
            refine AllReadyG.cons false false rfl (by rfl) (by rfl) (fun K hK => ?_) ?_
            · skip
              refine step_app3 HG8.out rfl _ _ rfl rfl ⟨wd.heap.size + 1, 0, none⟩ (s + t) rfl qa2_8 (by omega) (fun g9 cap9 W9 hrg hgr => ?_)
              have HG9 := Lib.hid hrg; clear hrg
              have le9 : wd.heap.size ≤ W9.heap.size := by have h9 := hgr.size; (try simp at h9); omega
              clear hgr
              refine hK.out _ _ (show (false = false → W9.cell? ⟨w2.heap.size, 2, none⟩ = some v2) ∧ (false = false → W9.cell? ⟨w2.heap.size, 3, none⟩ = some v3) ∧ (W9.cell? ⟨w.heap.size, 2, none⟩ = some (.slice (some ⟨b2, o2, none⟩) n c2) ∧ W9.cell? ⟨w.heap.size, 3, none⟩ = some (.slice (some ⟨b3, o3, none⟩) n c3) ∧ W9.cell? ⟨b2, o2 + k, none⟩ = some (.int .i64 r) ∧ W9.cell? ⟨b3, o3 + k, none⟩ = some (.int .i64 s)) from ⟨fun _ => HG9.out.c2, fun _ => HG9.out.c3, HCW.out _ HG9.out.hb⟩) (fun hT => ?_)
              try simp only [Act.put, List.setIfInBounds_toArray, List.set_cons_zero, List.set_cons_succ]
              clear hT
              refine wpAnyG_ready (rs := [23]) (by kernel_rfl) (by simp) ?_
              refine AllReadyG.cons true false rfl (by rfl) (by rfl) (fun K hK => ?_) ?_
              · skip
                have yc := HG9.out.c2; have yf := HG9.out.f2
                go_simp
                clear yc yf
                have HG10 := Lib.hid (HG9.out.set2 (.slice (some ⟨g8, 0, none⟩) (k + 1) cap8))
                refine hK.out _ _ (show (true = false → (W9.setCell ⟨w2.heap.size, 2, none⟩ (.slice (some ⟨g8, 0, none⟩) (k + 1) cap8)).cell? ⟨w2.heap.size, 2, none⟩ = some v2) ∧ (false = false → (W9.setCell ⟨w2.heap.size, 2, none⟩ (.slice (some ⟨g8, 0, none⟩) (k + 1) cap8)).cell? ⟨w2.heap.size, 3, none⟩ = some v3) ∧ ((W9.setCell ⟨w2.heap.size, 2, none⟩ (.slice (some ⟨g8, 0, none⟩) (k + 1) cap8)).cell? ⟨w.heap.size, 2, none⟩ = some (.slice (some ⟨b2, o2, none⟩) n c2) ∧ (W9.setCell ⟨w2.heap.size, 2, none⟩ (.slice (some ⟨g8, 0, none⟩) (k + 1) cap8)).cell? ⟨w.heap.size, 3, none⟩ = some (.slice (some ⟨b3, o3, none⟩) n c3) ∧ (W9.setCell ⟨w2.heap.size, 2, none⟩ (.slice (some ⟨g8, 0, none⟩) (k + 1) cap8)).cell? ⟨b2, o2 + k, none⟩ = some (.int .i64 r) ∧ (W9.setCell ⟨w2.heap.size, 2, none⟩ (.slice (some ⟨g8, 0, none⟩) (k + 1) cap8)).cell? ⟨b3, o3 + k, none⟩ = some (.int .i64 s)) from ⟨(fun h => by cases h), fun _ => HG10.out.c3, HCW.out _ HG10.out.hb⟩) (fun hT => ?_)
                try simp only [Act.put, List.setIfInBounds_toArray, List.set_cons_zero, List.set_cons_succ]
                clear hT
                have HT10 := Lib.hid (show (true = false → (W9.setCell ⟨w2.heap.size, 2, none⟩ (.slice (some ⟨g8, 0, none⟩) (k + 1) cap8)).cell? ⟨w2.heap.size, 2, none⟩ = some v2) ∧ (false = false → (W9.setCell ⟨w2.heap.size, 2, none⟩ (.slice (some ⟨g8, 0, none⟩) (k + 1) cap8)).cell? ⟨w2.heap.size, 3, none⟩ = some v3) ∧ ((W9.setCell ⟨w2.heap.size, 2, none⟩ (.slice (some ⟨g8, 0, none⟩) (k + 1) cap8)).cell? ⟨w.heap.size, 2, none⟩ = some (.slice (some ⟨b2, o2, none⟩) n c2) ∧ (W9.setCell ⟨w2.heap.size, 2, none⟩ (.slice (some ⟨g8, 0, none⟩) (k + 1) cap8)).cell? ⟨w.heap.size, 3, none⟩ = some (.slice (some ⟨b3, o3, none⟩) n c3) ∧ (W9.setCell ⟨w2.heap.size, 2, none⟩ (.slice (some ⟨g8, 0, none⟩) (k + 1) cap8)).cell? ⟨b2, o2 + k, none⟩ = some (.int .i64 r) ∧ (W9.setCell ⟨w2.heap.size, 2, none⟩ (.slice (some ⟨g8, 0, none⟩) (k + 1) cap8)).cell? ⟨b3, o3 + k, none⟩ = some (.int .i64 s)) from ⟨(fun h => by cases h), fun _ => HG10.out.c3, HCW.out _ HG10.out.hb⟩)
                refine wpAnyG_take (i := 24) 25 true false (S0 := fun W' => (W'.cell? ⟨w.heap.size, 2, none⟩ = some (.slice (some ⟨b2, o2, none⟩) n c2) ∧ W'.cell? ⟨w.heap.size, 3, none⟩ = some (.slice (some ⟨b3, o3, none⟩) n c3) ∧ W'.cell? ⟨b2, o2 + k, none⟩ = some (.int .i64 r) ∧ W'.cell? ⟨b3, o3 + k, none⟩ = some (.int .i64 s))) (v := ?_) rfl (by kernel_rfl) (by kernel_rfl) (by kernel_rfl) (by kernel_rfl) (by decide) (by decide) (by rfl) (fun l w hl hT => hT.2.2) (fun _ _ _ h => h) (by rfl) (by rfl) HT10.out (Or.inl ⟨by rfl, ?_⟩) ?_
                rotate_left
                · (intro w hSw; (try dsimp only at hSw); go_simp; try (with_reducible rfl))
                try simp only [Act.put, List.setIfInBounds_toArray, List.set_cons_zero, List.set_cons_succ]
                refine wpAnyG_ready (rs := [25]) (by kernel_rfl) (by simp) ?_
                refine AllReadyG.cons true true rfl (by rfl) (by rfl) (fun K hK => ?_) ?_
                · skip
                  have yc := HG10.out.c3; have yf := HG10.out.f3
                  go_simp
                  clear yc yf
                  have HG11 := Lib.hid (HG10.out.set3 (.slice (some ⟨g9, 0, none⟩) (k + 1) cap9))
                  refine hK.out _ _ (show (true = false → ((W9.setCell ⟨w2.heap.size, 2, none⟩ (.slice (some ⟨g8, 0, none⟩) (k + 1) cap8)).setCell ⟨w2.heap.size, 3, none⟩ (.slice (some ⟨g9, 0, none⟩) (k + 1) cap9)).cell? ⟨w2.heap.size, 2, none⟩ = some v2) ∧ (true = false → ((W9.setCell ⟨w2.heap.size, 2, none⟩ (.slice (some ⟨g8, 0, none⟩) (k + 1) cap8)).setCell ⟨w2.heap.size, 3, none⟩ (.slice (some ⟨g9, 0, none⟩) (k + 1) cap9)).cell? ⟨w2.heap.size, 3, none⟩ = some v3) ∧ (((W9.setCell ⟨w2.heap.size, 2, none⟩ (.slice (some ⟨g8, 0, none⟩) (k + 1) cap8)).setCell ⟨w2.heap.size, 3, none⟩ (.slice (some ⟨g9, 0, none⟩) (k + 1) cap9)).cell? ⟨w.heap.size, 2, none⟩ = some (.slice (some ⟨b2, o2, none⟩) n c2) ∧ ((W9.setCell ⟨w2.heap.size, 2, none⟩ (.slice (some ⟨g8, 0, none⟩) (k + 1) cap8)).setCell ⟨w2.heap.size, 3, none⟩ (.slice (some ⟨g9, 0, none⟩) (k + 1) cap9)).cell? ⟨w.heap.size, 3, none⟩ = some (.slice (some ⟨b3, o3, none⟩) n c3) ∧ ((W9.setCell ⟨w2.heap.size, 2, none⟩ (.slice (some ⟨g8, 0, none⟩) (k + 1) cap8)).setCell ⟨w2.heap.size, 3, none⟩ (.slice (some ⟨g9, 0, none⟩) (k + 1) cap9)).cell? ⟨b2, o2 + k, none⟩ = some (.int .i64 r) ∧ ((W9.setCell ⟨w2.heap.size, 2, none⟩ (.slice (some ⟨g8, 0, none⟩) (k + 1) cap8)).setCell ⟨w2.heap.size, 3, none⟩ (.slice (some ⟨g9, 0, none⟩) (k + 1) cap9)).cell? ⟨b3, o3 + k, none⟩ = some (.int .i64 s)) from ⟨(fun h => by cases h), (fun h => by cases h), HCW.out _ HG11.out.hb⟩) (fun hT => ?_)
                  try simp only [Act.put, List.setIfInBounds_toArray, List.set_cons_zero, List.set_cons_succ]
                  clear hT
                  refine wpAnyG_done (by kernel_rfl) ?_ _
                  go_wp2
                  go_roundw
                  case rel => exact ⟨k + 1, _, _, by have := HNE.out; omega, by go_num, by have h9 := HG11.out; rw [HPR.out _ rfl, HPS.out _ rfl] at h9; exact h9⟩
                  case measure => have := HNE.out; simp [intOf]; omega
                exact AllReadyG.nil
              exact AllReadyG.nil
            exact AllReadyG.nil
          exact AllReadyG.nil
        exact AllReadyG.nil
      refine AllReadyG.cons false false rfl (by rfl) (by rfl) (fun K hK => ?_) ?_
      · skip
        go_simp
        have HG12 := Lib.hid (HM'.out.alloc (.cells #[.int .i64 (s + t)] 3))
        have qa2_12 : (wd.alloc (.cells #[.int .i64 (s + t)] 3)).cell? ⟨wd.heap.size, 0, none⟩ = some (.int .i64 (s + t)) := by simp [go_sem]
        have la2_12 : wd.heap.size ≤ wd.heap.size := by omega
        refine hK.out _ _ (show (false = false → (wd.alloc (.cells #[.int .i64 (s + t)] 3)).cell? ⟨w2.heap.size, 2, none⟩ = some v2) ∧ (false = false → (wd.alloc (.cells #[.int .i64 (s + t)] 3)).cell? ⟨w2.heap.size, 3, none⟩ = some v3) ∧ ((wd.alloc (.cells #[.int .i64 (s + t)] 3)).cell? ⟨w.heap.size, 2, none⟩ = some (.slice (some ⟨b2, o2, none⟩) n c2) ∧ (wd.alloc (.cells #[.int .i64 (s + t)] 3)).cell? ⟨w.heap.size, 3, none⟩ = some (.slice (some ⟨b3, o3, none⟩) n c3) ∧ (wd.alloc (.cells #[.int .i64 (s + t)] 3)).cell? ⟨b2, o2 + k, none⟩ = some (.int .i64 r) ∧ (wd.alloc (.cells #[.int .i64 (s + t)] 3)).cell? ⟨b3, o3 + k, none⟩ = some (.int .i64 s)) from ⟨fun _ => HG12.out.c2, fun _ => HG12.out.c3, HCW.out _ HG12.out.hb⟩) (fun hT => ?_)
        try simp only [Act.put, List.setIfInBounds_toArray, List.set_cons_zero, List.set_cons_succ]
        clear hT
        refine wpAnyG_ready (rs := [9]) (by kernel_rfl) (by simp) ?_
        refine AllReadyG.cons false false rfl (by rfl) (by rfl) (fun K hK => ?_) ?_
        · skip
          go_simp
          have HG13 := Lib.hid (HG12.out.alloc (.cells #[.int .i64 (r + t)] 3))
          have qa1_13 : ((wd.alloc (.cells #[.int .i64 (s + t)] 3)).alloc (.cells #[.int .i64 (r + t)] 3)).cell? ⟨wd.heap.size + 1, 0, none⟩ = some (.int .i64 (r + t)) := by simp [go_sem]
          have la1_13 : wd.heap.size ≤ wd.heap.size + 1 := by omega
          have qa2_13 : ((wd.alloc (.cells #[.int .i64 (s + t)] 3)).alloc (.cells #[.int .i64 (r + t)] 3)).cell? ⟨wd.heap.size, 0, none⟩ = some (.int .i64 (s + t)) := cell_alloc_l _ qa2_12
          refine hK.out _ _ (show (false = false → ((wd.alloc (.cells #[.int .i64 (s + t)] 3)).alloc (.cells #[.int .i64 (r + t)] 3)).cell? ⟨w2.heap.size, 2, none⟩ = some v2) ∧ (false = false → ((wd.alloc (.cells #[.int .i64 (s + t)] 3)).alloc (.cells #[.int .i64 (r + t)] 3)).cell? ⟨w2.heap.size, 3, none⟩ = some v3) ∧ (((wd.alloc (.cells #[.int .i64 (s + t)] 3)).alloc (.cells #[.int .i64 (r + t)] 3)).cell? ⟨w.heap.size, 2, none⟩ = some (.slice (some ⟨b2, o2, none⟩) n c2) ∧ ((wd.alloc (.cells #[.int .i64 (s + t)] 3)).alloc (.cells #[.int .i64 (r + t)] 3)).cell? ⟨w.heap.size, 3, none⟩ = some (.slice (some ⟨b3, o3, none⟩) n c3) ∧ ((wd.alloc (.cells #[.int .i64 (s + t)] 3)).alloc (.cells #[.int .i64 (r + t)] 3)).cell? ⟨b2, o2 + k, none⟩ = some (.int .i64 r) ∧ ((wd.alloc (.cells #[.int .i64 (s + t)] 3)).alloc (.cells #[.int .i64 (r + t)] 3)).cell? ⟨b3, o3 + k, none⟩ = some (.int .i64 s)) from ⟨fun _ => HG13.out.c2, fun _ => HG13.out.c3, HCW.out _ HG13.out.hb⟩) (fun hT => ?_)
          try simp only [Act.put, List.setIfInBounds_toArray, List.set_cons_zero, List.set_cons_succ]
          clear hT
          refine wpAnyG_ready (rs := [10]) (by kernel_rfl) (by simp) ?_
          refine AllReadyG.cons false false rfl (by rfl) (by rfl) (fun K hK => ?_) ?_
          · skip
            refine step_app2 HG13.out rfl _ _ rfl rfl ⟨wd.heap.size + 1, 0, none⟩ (r + t) rfl qa1_13 (by omega) (fun g14 cap14 W14 hrg hgr => ?_)
            have HG14 := Lib.hid hrg; clear hrg
            have le14 : wd.heap.size ≤ W14.heap.size := by have h9 := hgr.size; (try simp at h9); omega
            have qa2_14 := hgr.cell qa2_13 (fun e => by have h8 : wd.heap.size < wd.heap.size := (HM'.out.o2.lt _ e.symm).2; omega)
            clear hgr
            refine hK.out _ _ (show (false = false → W14.cell? ⟨w2.heap.size, 2, none⟩ = some v2) ∧ (false = false → W14.cell? ⟨w2.heap.size, 3, none⟩ = some v3) ∧ (W14.cell? ⟨w.heap.size, 2, none⟩ = some (.slice (some ⟨b2, o2, none⟩) n c2) ∧ W14.cell? ⟨w.heap.size, 3, none⟩ = some (.slice (some ⟨b3, o3, none⟩) n c3) ∧ W14.cell? ⟨b2, o2 + k, none⟩ = some (.int .i64 r) ∧ W14.cell? ⟨b3, o3 + k, none⟩ = some (.int .i64 s)) from ⟨fun _ => HG14.out.c2, fun _ => HG14.out.c3, HCW.out _ HG14.out.hb⟩) (fun hT => ?_)
            try simp only [Act.put, List.setIfInBounds_toArray, List.set_cons_zero, List.set_cons_succ]
            clear hT
            have HT14 := Lib.hid (show (false = false → W14.cell? ⟨w2.heap.size, 2, none⟩ = some v2) ∧ (false = false → W14.cell? ⟨w2.heap.size, 3, none⟩ = some v3) ∧ (W14.cell? ⟨w.heap.size, 2, none⟩ = some (.slice (some ⟨b2, o2, none⟩) n c2) ∧ W14.cell? ⟨w.heap.size, 3, none⟩ = some (.slice (some ⟨b3, o3, none⟩) n c3) ∧ W14.cell? ⟨b2, o2 + k, none⟩ = some (.int .i64 r) ∧ W14.cell? ⟨b3, o3 + k, none⟩ = some (.int .i64 s)) from ⟨fun _ => HG14.out.c2, fun _ => HG14.out.c3, HCW.out _ HG14.out.hb⟩)
            refine wpAnyG_take (i := 22) 25 false false (S0 := fun W' => (W'.cell? ⟨w.heap.size, 2, none⟩ = some (.slice (some ⟨b2, o2, none⟩) n c2) ∧ W'.cell? ⟨w.heap.size, 3, none⟩ = some (.slice (some ⟨b3, o3, none⟩) n c3) ∧ W'.cell? ⟨b2, o2 + k, none⟩ = some (.int .i64 r) ∧ W'.cell? ⟨b3, o3 + k, none⟩ = some (.int .i64 s))) (v := ?_) rfl (by kernel_rfl) (by kernel_rfl) (by kernel_rfl) (by kernel_rfl) (by decide) (by decide) (by rfl) (fun l w hl hT => hT.2.2) (fun _ _ _ h => h) (by rfl) (by rfl) HT14.out (Or.inl ⟨by rfl, ?_⟩) ?_
            rotate_left
            · (intro w hSw; (try dsimp only at hSw); go_simp; try (with_reducible rfl))
            try simp only [Act.put, List.setIfInBounds_toArray, List.set_cons_zero, List.set_cons_succ]
            refine wpAnyG_ready (rs := [21]) (by kernel_rfl) (by simp) ?_
            refine AllReadyG.cons false false rfl (by rfl) (by rfl) (fun K hK => ?_) ?_
            · skip
              refine step_app3 HG14.out rfl _ _ rfl rfl ⟨wd.heap.size, 0, none⟩ (s + t) rfl qa2_14 (by omega) (fun g15 cap15 W15 hrg hgr => ?_)
              have HG15 := Lib.hid hrg; clear hrg
              have le15 : wd.heap.size ≤ W15.heap.size := by have h9 := hgr.size; (try simp at h9); omega
              clear hgr
              refine hK.out _ _ (show (false = false → W15.cell? ⟨w2.heap.size, 2, none⟩ = some v2) ∧ (false = false → W15.cell? ⟨w2.heap.size, 3, none⟩ = some v3) ∧ (W15.cell? ⟨w.heap.size, 2, none⟩ = some (.slice (some ⟨b2, o2, none⟩) n c2) ∧ W15.cell? ⟨w.heap.size, 3, none⟩ = some (.slice (some ⟨b3, o3, none⟩) n c3) ∧ W15.cell? ⟨b2, o2 + k, none⟩ = some (.int .i64 r) ∧ W15.cell? ⟨b3, o3 + k, none⟩ = some (.int .i64 s)) from ⟨fun _ => HG15.out.c2, fun _ => HG15.out.c3, HCW.out _ HG15.out.hb⟩) (fun hT => ?_)
              try simp only [Act.put, List.setIfInBounds_toArray, List.set_cons_zero, List.set_cons_succ]
              clear hT
              refine wpAnyG_ready (rs := [23]) (by kernel_rfl) (by simp) ?_
              refine AllReadyG.cons true false rfl (by rfl) (by rfl) (fun K hK => ?_) ?_
              · skip
                have yc := HG15.out.c2; have yf := HG15.out.f2
                go_simp
                clear yc yf
                have HG16 := Lib.hid (HG15.out.set2 (.slice (some ⟨g14, 0, none⟩) (k + 1) cap14))
                refine hK.out _ _ (show (true = false → (W15.setCell ⟨w2.heap.size, 2, none⟩ (.slice (some ⟨g14, 0, none⟩) (k + 1) cap14)).cell? ⟨w2.heap.size, 2, none⟩ = some v2) ∧ (false = false → (W15.setCell ⟨w2.heap.size, 2, none⟩ (.slice (some ⟨g14, 0, none⟩) (k + 1) cap14)).cell? ⟨w2.heap.size, 3, none⟩ = some v3) ∧ ((W15.setCell ⟨w2.heap.size, 2, none⟩ (.slice (some ⟨g14, 0, none⟩) (k + 1) cap14)).cell? ⟨w.heap.size, 2, none⟩ = some (.slice (some ⟨b2, o2, none⟩) n c2) ∧ (W15.setCell ⟨w2.heap.size, 2, none⟩ (.slice (some ⟨g14, 0, none⟩) (k + 1) cap14)).cell? ⟨w.heap.size, 3, none⟩ = some (.slice (some ⟨b3, o3, none⟩) n c3) ∧ (W15.setCell ⟨w2.heap.size, 2, none⟩ (.slice (some ⟨g14, 0, none⟩) (k + 1) cap14)).cell? ⟨b2, o2 + k, none⟩ = some (.int .i64 r) ∧ (W15.setCell ⟨w2.heap.size, 2, none⟩ (.slice (some ⟨g14, 0, none⟩) (k + 1) cap14)).cell? ⟨b3, o3 + k, none⟩ = some (.int .i64 s)) from ⟨(fun h => by cases h), fun _ => HG16.out.c3, HCW.out _ HG16.out.hb⟩) (fun hT => ?_)
                try simp only [Act.put, List.setIfInBounds_toArray, List.set_cons_zero, List.set_cons_succ]
                clear hT
                have HT16 := Lib.hid (show (true = false → (W15.setCell ⟨w2.heap.size, 2, none⟩ (.slice (some ⟨g14, 0, none⟩) (k + 1) cap14)).cell? ⟨w2.heap.size, 2, none⟩ = some v2) ∧ (false = false → (W15.setCell ⟨w2.heap.size, 2, none⟩ (.slice (some ⟨g14, 0, none⟩) (k + 1) cap14)).cell? ⟨w2.heap.size, 3, none⟩ = some v3) ∧ ((W15.setCell ⟨w2.heap.size, 2, none⟩ (.slice (some ⟨g14, 0, none⟩) (k + 1) cap14)).cell? ⟨w.heap.size, 2, none⟩ = some (.slice (some ⟨b2, o2, none⟩) n c2) ∧ (W15.setCell ⟨w2.heap.size, 2, none⟩ (.slice (some ⟨g14, 0, none⟩) (k + 1) cap14)).cell? ⟨w.heap.size, 3, none⟩ = some (.slice (some ⟨b3, o3, none⟩) n c3) ∧ (W15.setCell ⟨w2.heap.size, 2, none⟩ (.slice (some ⟨g14, 0, none⟩) (k + 1) cap14)).cell? ⟨b2, o2 + k, none⟩ = some (.int .i64 r) ∧ (W15.setCell ⟨w2.heap.size, 2, none⟩ (.slice (some ⟨g14, 0, none⟩) (k + 1) cap14)).cell? ⟨b3, o3 + k, none⟩ = some (.int .i64 s)) from ⟨(fun h => by cases h), fun _ => HG16.out.c3, HCW.out _ HG16.out.hb⟩)
                refine wpAnyG_take (i := 24) 25 true false (S0 := fun W' => (W'.cell? ⟨w.heap.size, 2, none⟩ = some (.slice (some ⟨b2, o2, none⟩) n c2) ∧ W'.cell? ⟨w.heap.size, 3, none⟩ = some (.slice (some ⟨b3, o3, none⟩) n c3) ∧ W'.cell? ⟨b2, o2 + k, none⟩ = some (.int .i64 r) ∧ W'.cell? ⟨b3, o3 + k, none⟩ = some (.int .i64 s))) (v := ?_) rfl (by kernel_rfl) (by kernel_rfl) (by kernel_rfl) (by kernel_rfl) (by decide) (by decide) (by rfl) (fun l w hl hT => hT.2.2) (fun _ _ _ h => h) (by rfl) (by rfl) HT16.out (Or.inl ⟨by rfl, ?_⟩) ?_
                rotate_left
                · (intro w hSw; (try dsimp only at hSw); go_simp; try (with_reducible rfl))
                try simp only [Act.put, List.setIfInBounds_toArray, List.set_cons_zero, List.set_cons_succ]
                refine wpAnyG_ready (rs := [25]) (by kernel_rfl) (by simp) ?_
                refine AllReadyG.cons true true rfl (by rfl) (by rfl) (fun K hK => ?_) ?_
                · skip
                  have yc := HG16.out.c3; have yf := HG16.out.f3
                  go_simp
                  clear yc yf
                  have HG17 := Lib.hid (HG16.out.set3 (.slice (some ⟨g15, 0, none⟩) (k + 1) cap15))
                  refine hK.out _ _ (show (true = false → ((W15.setCell ⟨w2.heap.size, 2, none⟩ (.slice (some ⟨g14, 0, none⟩) (k + 1) cap14)).setCell ⟨w2.heap.size, 3, none⟩ (.slice (some ⟨g15, 0, none⟩) (k + 1) cap15)).cell? ⟨w2.heap.size, 2, none⟩ = some v2) ∧ (true = false → ((W15.setCell ⟨w2.heap.size, 2, none⟩ (.slice (some ⟨g14, 0, none⟩) (k + 1) cap14)).setCell ⟨w2.heap.size, 3, none⟩ (.slice (some ⟨g15, 0, none⟩) (k + 1) cap15)).cell? ⟨w2.heap.size, 3, none⟩ = some v3) ∧ (((W15.setCell ⟨w2.heap.size, 2, none⟩ (.slice (some ⟨g14, 0, none⟩) (k + 1) cap14)).setCell ⟨w2.heap.size, 3, none⟩ (.slice (some ⟨g15, 0, none⟩) (k + 1) cap15)).cell? ⟨w.heap.size, 2, none⟩ = some (.slice (some ⟨b2, o2, none⟩) n c2) ∧ ((W15.setCell ⟨w2.heap.size, 2, none⟩ (.slice (some ⟨g14, 0, none⟩) (k + 1) cap14)).setCell ⟨w2.heap.size, 3, none⟩ (.slice (some ⟨g15, 0, none⟩) (k + 1) cap15)).cell? ⟨w.heap.size, 3, none⟩ = some (.slice (some ⟨b3, o3, none⟩) n c3) ∧ ((W15.setCell ⟨w2.heap.size, 2, none⟩ (.slice (some ⟨g14, 0, none⟩) (k + 1) cap14)).setCell ⟨w2.heap.size, 3, none⟩ (.slice (some ⟨g15, 0, none⟩) (k + 1) cap15)).cell? ⟨b2, o2 + k, none⟩ = some (.int .i64 r) ∧ ((W15.setCell ⟨w2.heap.size, 2, none⟩ (.slice (some ⟨g14, 0, none⟩) (k + 1) cap14)).setCell ⟨w2.heap.size, 3, none⟩ (.slice (some ⟨g15, 0, none⟩) (k + 1) cap15)).cell? ⟨b3, o3 + k, none⟩ = some (.int .i64 s)) from ⟨(fun h => by cases h), (fun h => by cases h), HCW.out _ HG17.out.hb⟩) (fun hT => ?_)
                  try simp only [Act.put, List.setIfInBounds_toArray, List.set_cons_zero, List.set_cons_succ]
                  clear hT
                  refine wpAnyG_done (by kernel_rfl) ?_ _
                  go_wp2
                  go_roundw
                  case rel => exact ⟨k + 1, _, _, by have := HNE.out; omega, by go_num, by have h9 := HG17.out; rw [HPR.out _ rfl, HPS.out _ rfl] at h9; exact h9⟩
                  case measure => have := HNE.out; simp [intOf]; omega
                exact AllReadyG.nil
              exact AllReadyG.nil
            exact AllReadyG.nil
          exact AllReadyG.nil
        exact AllReadyG.nil
      exact AllReadyG.nil
    · obtain rfl : k = n := by omega
      have hn1 : 0 < k := by have := HO.out.n1; omega
      have HD0 := Lib.hid hnD
      have hlt' : ¬ (k : Int) < (k : Int) := by omega
      obtain ⟨g2, q2, rfl, hl2⟩ := row_lst (T := R) (t := t) HM.out.o2 hn1 (by have := HSE.out.R.len; omega)
      obtain ⟨g3, q3, rfl, hl3⟩ := row_lst (T := S) (t := t) HM.out.o3 hn1 (by have := HSE.out.S.len; omega)
      obtain ⟨w3, rfl⟩ : ∃ w3, w3 = wr := ⟨_, rfl⟩
      have H0 := Lib.hid (show Below w.heap.size w w3 from HU2.out.trans (HM.out.hb.mono HU2.out.size))
      have HS3 := Lib.hid (HSEA.out.to H0.out)
      have HSM := Lib.hid (show SeaO w3 (some ⟨b1, o1, none⟩) k (some ⟨g2, 0, none⟩) k (some ⟨g3, 0, none⟩) k D (R.map (· + t)) (S.map (· + t)) from ⟨HS3.out.D, ⟨hl2.len, .inr ⟨_, _, rfl, hl2⟩⟩, ⟨hl3.len, .inr ⟨_, _, rfl, hl3⟩⟩, by omega, by omega, by omega⟩)
      clear hl2 hl3
      have t3_0_0 := keep_cell HM.out.hb t2_l0 t2_0_0
      have t3_0_1 := keep_cell HM.out.hb t2_l0 t2_0_1
      have t3_0_2 := keep_cell HM.out.hb t2_l0 t2_0_2
      have t3_0_3 := keep_cell HM.out.hb t2_l0 t2_0_3
      have t3_l0 := keep_lt HM.out.hb t2_l0
      have t3_1_0 := keep_cell HM.out.hb t2_l1 t2_1_0
      have t3_1_1 := keep_cell HM.out.hb t2_l1 t2_1_1
      have t3_1_2 := keep_cell HM.out.hb t2_l1 t2_1_2
      have t3_l1 := keep_lt HM.out.hb t2_l1
      have t3_2_0 := HM.out.c0
      have t3_2_1 := HM.out.c1
      have t3_2_2 := HM.out.c2
      have t3_2_3 := HM.out.c3
      have t3_l2 := HM.out.gt
      clear t2_0_0 t2_0_1 t2_0_2 t2_0_3 t2_l0 t2_1_0 t2_1_1 t2_1_2 t2_l1
      have HB3 := Lib.hid (Below.refl w3.heap.size w3)
      have HMM := HM; clear HM
      by_cases hok : Ok L D (R.map (· + t)) (S.map (· + t))
      · have HOM := Lib.hid hok; clear hok
        have HCH := Lib.hid (fun W hW => Check_yes (c1 := c1) (c2 := q2) (c3 := q3) W (HSM.out.to hW) HOM.out)
        have HA := Lib.hid (fun W hW => exact_Mo (c1 := c1) (c2 := c2) (c3 := c3) day b h p W (HS3.out.to hW) HO.out HDY.out HHH.out)
        have HE := Lib.hid (fun W hW => exact_Mo (c1 := c1) (c2 := q2) (c3 := q3) day b h p W (HSM.out.to hW) HOM.out HDY.out HHH.out)
        have HX := Lib.hid (fun W hW => Length_ok (c1 := c1) (c2 := c2) (c3 := c3) day b W (HS3.out.to hW) HO.out HDY.out)
        have HY := Lib.hid (fun W hW => Length_ok (c1 := c1) (c2 := q2) (c3 := q3) day b W (HSM.out.to hW) HOM.out HDY.out)
        rw [Mo_map HO.out] at HE
        rw [last_map HO.out] at HY
        have m0 := Mo_nonneg HO.out (n := ord day b h p) (ord_bd HDY.out HHH.out).1
        have m1 := Mo_top HO.out (n := ord day b h p) 11001 (by have := (ord_bd (b := b) HDY.out HHH.out).2; omega)
        have HTM := Lib.hid (told_map HO.out t HOM.out m)
        generalize Mo L D R S (ord day b h p) = A at *
        generalize lastF L D R S day b / gF (lastF L D R S day b) 12 = X at *
        generalize 12 / gF (lastF L D R S day b) 12 = Y at *
        go_wp2_with fail
        refine (HCH.out _ (by have hb' := HB3.out; have hb'' := hb'.size; (repeat refine below_drewN ?_ _); go_grown)).mono ?_
        rintro e w4 ⟨rfl, hb⟩
        have HB4 := Lib.hid (bjoin (w := w3) (by have hb' := HB3.out; have hb'' := hb'.size; (repeat refine below_drewN ?_ _); go_grown) hb)
        have z4_0 := lt_id (b := w.heap.size) hb (by first | omega | (simp; done) | (simp; omega))
        have t4_l0 := keep_lt (b := w.heap.size) hb z4_0
        have t4_0_0 := keep_cell (b := w.heap.size) (o := 0) (v := .int .i64 L) hb z4_0 (by first | (with_reducible assumption) | (with_reducible exact cell_alloc_l _ (by assumption)) | (with_reducible exact cell_alloc_l _ (cell_alloc_l _ (by assumption))) | (simp [go_sem]; done) | assumption | exact cell_alloc_l _ (by assumption) | exact cell_alloc_l _ (cell_alloc_l _ (by assumption)) | (simp [go_sem, *]; done))
        have t4_0_1 := keep_cell (b := w.heap.size) (o := 1) (v := .slice (some ⟨b1, o1, none⟩) k c1) hb z4_0 (by first | (with_reducible assumption) | (with_reducible exact cell_alloc_l _ (by assumption)) | (with_reducible exact cell_alloc_l _ (cell_alloc_l _ (by assumption))) | (simp [go_sem]; done) | assumption | exact cell_alloc_l _ (by assumption) | exact cell_alloc_l _ (cell_alloc_l _ (by assumption)) | (simp [go_sem, *]; done))
        have t4_0_2 := keep_cell (b := w.heap.size) (o := 2) (v := .slice (some ⟨b2, o2, none⟩) k c2) hb z4_0 (by first | (with_reducible assumption) | (with_reducible exact cell_alloc_l _ (by assumption)) | (with_reducible exact cell_alloc_l _ (cell_alloc_l _ (by assumption))) | (simp [go_sem]; done) | assumption | exact cell_alloc_l _ (by assumption) | exact cell_alloc_l _ (cell_alloc_l _ (by assumption)) | (simp [go_sem, *]; done))
        have t4_0_3 := keep_cell (b := w.heap.size) (o := 3) (v := .slice (some ⟨b3, o3, none⟩) k c3) hb z4_0 (by first | (with_reducible assumption) | (with_reducible exact cell_alloc_l _ (by assumption)) | (with_reducible exact cell_alloc_l _ (cell_alloc_l _ (by assumption))) | (simp [go_sem]; done) | assumption | exact cell_alloc_l _ (by assumption) | exact cell_alloc_l _ (cell_alloc_l _ (by assumption)) | (simp [go_sem, *]; done))
        have z4_1 := lt_id (b := w.heap.size + 1) hb (by first | omega | (simp; done) | (simp; omega))
        have t4_l1 := keep_lt (b := w.heap.size + 1) hb z4_1
        have t4_1_0 := keep_cell (b := w.heap.size + 1) (o := 0) (v := .bool b) hb z4_1 (by first | (with_reducible assumption) | (with_reducible exact cell_alloc_l _ (by assumption)) | (with_reducible exact cell_alloc_l _ (cell_alloc_l _ (by assumption))) | (simp [go_sem]; done) | assumption | exact cell_alloc_l _ (by assumption) | exact cell_alloc_l _ (cell_alloc_l _ (by assumption)) | (simp [go_sem, *]; done))
        have t4_1_1 := keep_cell (b := w.heap.size + 1) (o := 1) (v := .int .i64 h) hb z4_1 (by first | (with_reducible assumption) | (with_reducible exact cell_alloc_l _ (by assumption)) | (with_reducible exact cell_alloc_l _ (cell_alloc_l _ (by assumption))) | (simp [go_sem]; done) | assumption | exact cell_alloc_l _ (by assumption) | exact cell_alloc_l _ (cell_alloc_l _ (by assumption)) | (simp [go_sem, *]; done))
        have t4_1_2 := keep_cell (b := w.heap.size + 1) (o := 2) (v := .int .i64 p) hb z4_1 (by first | (with_reducible assumption) | (with_reducible exact cell_alloc_l _ (by assumption)) | (with_reducible exact cell_alloc_l _ (cell_alloc_l _ (by assumption))) | (simp [go_sem]; done) | assumption | exact cell_alloc_l _ (by assumption) | exact cell_alloc_l _ (cell_alloc_l _ (by assumption)) | (simp [go_sem, *]; done))
        have z4_2 := lt_id (b := w2.heap.size) hb (by first | omega | (simp; done) | (simp; omega))
        have t4_l2 := keep_lt (b := w2.heap.size) hb z4_2
        have t4_2_0 := keep_cell (b := w2.heap.size) (o := 0) (v := .int .i64 L) hb z4_2 (by first | (with_reducible assumption) | (with_reducible exact cell_alloc_l _ (by assumption)) | (with_reducible exact cell_alloc_l _ (cell_alloc_l _ (by assumption))) | (simp [go_sem]; done) | assumption | exact cell_alloc_l _ (by assumption) | exact cell_alloc_l _ (cell_alloc_l _ (by assumption)) | (simp [go_sem, *]; done))
        have t4_2_1 := keep_cell (b := w2.heap.size) (o := 1) (v := .slice (some ⟨b1, o1, none⟩) k c1) hb z4_2 (by first | (with_reducible assumption) | (with_reducible exact cell_alloc_l _ (by assumption)) | (with_reducible exact cell_alloc_l _ (cell_alloc_l _ (by assumption))) | (simp [go_sem]; done) | assumption | exact cell_alloc_l _ (by assumption) | exact cell_alloc_l _ (cell_alloc_l _ (by assumption)) | (simp [go_sem, *]; done))
        have t4_2_2 := keep_cell (b := w2.heap.size) (o := 2) (v := .slice (some ⟨g2, 0, none⟩) k q2) hb z4_2 (by first | (with_reducible assumption) | (with_reducible exact cell_alloc_l _ (by assumption)) | (with_reducible exact cell_alloc_l _ (cell_alloc_l _ (by assumption))) | (simp [go_sem]; done) | assumption | exact cell_alloc_l _ (by assumption) | exact cell_alloc_l _ (cell_alloc_l _ (by assumption)) | (simp [go_sem, *]; done))
        have t4_2_3 := keep_cell (b := w2.heap.size) (o := 3) (v := .slice (some ⟨g3, 0, none⟩) k q3) hb z4_2 (by first | (with_reducible assumption) | (with_reducible exact cell_alloc_l _ (by assumption)) | (with_reducible exact cell_alloc_l _ (cell_alloc_l _ (by assumption))) | (simp [go_sem]; done) | assumption | exact cell_alloc_l _ (by assumption) | exact cell_alloc_l _ (cell_alloc_l _ (by assumption)) | (simp [go_sem, *]; done))
        clear z4_0 z4_1 z4_2
        clear t3_0_0 t3_0_1 t3_0_2 t3_0_3 t3_l0 t3_1_0 t3_1_1 t3_1_2 t3_l1 t3_2_0 t3_2_1 t3_2_2 t3_2_3 t3_l2
        clear hb
        go_wp2_with fail
        refine wp_name ?_
        intro W0 hW0
        have HBW := Lib.hid (show Below w3.heap.size w3 W0 from hW0 ▸ (by have hb' := HB4.out; have hb'' := hb'.size; (repeat refine below_drewN ?_ _); go_grown))
        have g_l0 : w.heap.size < W0.heap.size := by rw [← hW0]; first | omega | (simp; done) | (simp; omega)
        have g_0_0 : W0.cell? ⟨w.heap.size, 0, none⟩ = some (.int .i64 L) := by rw [← hW0]; first | (with_reducible assumption) | (with_reducible exact cell_alloc_l _ (by assumption)) | (with_reducible exact cell_alloc_l _ (cell_alloc_l _ (by assumption))) | (simp [go_sem]; done) | (simp [go_sem, t4_0_0, t4_0_1, t4_0_2, t4_0_3, t4_1_0, t4_1_1, t4_1_2, t4_2_0, t4_2_1, t4_2_2, t4_2_3]; done) | assumption | exact cell_alloc_l _ (by assumption) | exact cell_alloc_l _ (cell_alloc_l _ (by assumption))
        have g_0_1 : W0.cell? ⟨w.heap.size, 1, none⟩ = some (.slice (some ⟨b1, o1, none⟩) k c1) := by rw [← hW0]; first | (with_reducible assumption) | (with_reducible exact cell_alloc_l _ (by assumption)) | (with_reducible exact cell_alloc_l _ (cell_alloc_l _ (by assumption))) | (simp [go_sem]; done) | (simp [go_sem, t4_0_0, t4_0_1, t4_0_2, t4_0_3, t4_1_0, t4_1_1, t4_1_2, t4_2_0, t4_2_1, t4_2_2, t4_2_3]; done) | assumption | exact cell_alloc_l _ (by assumption) | exact cell_alloc_l _ (cell_alloc_l _ (by assumption))
        have g_0_2 : W0.cell? ⟨w.heap.size, 2, none⟩ = some (.slice (some ⟨b2, o2, none⟩) k c2) := by rw [← hW0]; first | (with_reducible assumption) | (with_reducible exact cell_alloc_l _ (by assumption)) | (with_reducible exact cell_alloc_l _ (cell_alloc_l _ (by assumption))) | (simp [go_sem]; done) | (simp [go_sem, t4_0_0, t4_0_1, t4_0_2, t4_0_3, t4_1_0, t4_1_1, t4_1_2, t4_2_0, t4_2_1, t4_2_2, t4_2_3]; done) | assumption | exact cell_alloc_l _ (by assumption) | exact cell_alloc_l _ (cell_alloc_l _ (by assumption))
        have g_0_3 : W0.cell? ⟨w.heap.size, 3, none⟩ = some (.slice (some ⟨b3, o3, none⟩) k c3) := by rw [← hW0]; first | (with_reducible assumption) | (with_reducible exact cell_alloc_l _ (by assumption)) | (with_reducible exact cell_alloc_l _ (cell_alloc_l _ (by assumption))) | (simp [go_sem]; done) | (simp [go_sem, t4_0_0, t4_0_1, t4_0_2, t4_0_3, t4_1_0, t4_1_1, t4_1_2, t4_2_0, t4_2_1, t4_2_2, t4_2_3]; done) | assumption | exact cell_alloc_l _ (by assumption) | exact cell_alloc_l _ (cell_alloc_l _ (by assumption))
        have g_l1 : w.heap.size + 1 < W0.heap.size := by rw [← hW0]; first | omega | (simp; done) | (simp; omega)
        have g_1_0 : W0.cell? ⟨w.heap.size + 1, 0, none⟩ = some (.bool b) := by rw [← hW0]; first | (with_reducible assumption) | (with_reducible exact cell_alloc_l _ (by assumption)) | (with_reducible exact cell_alloc_l _ (cell_alloc_l _ (by assumption))) | (simp [go_sem]; done) | (simp [go_sem, t4_0_0, t4_0_1, t4_0_2, t4_0_3, t4_1_0, t4_1_1, t4_1_2, t4_2_0, t4_2_1, t4_2_2, t4_2_3]; done) | assumption | exact cell_alloc_l _ (by assumption) | exact cell_alloc_l _ (cell_alloc_l _ (by assumption))
        have g_1_1 : W0.cell? ⟨w.heap.size + 1, 1, none⟩ = some (.int .i64 h) := by rw [← hW0]; first | (with_reducible assumption) | (with_reducible exact cell_alloc_l _ (by assumption)) | (with_reducible exact cell_alloc_l _ (cell_alloc_l _ (by assumption))) | (simp [go_sem]; done) | (simp [go_sem, t4_0_0, t4_0_1, t4_0_2, t4_0_3, t4_1_0, t4_1_1, t4_1_2, t4_2_0, t4_2_1, t4_2_2, t4_2_3]; done) | assumption | exact cell_alloc_l _ (by assumption) | exact cell_alloc_l _ (cell_alloc_l _ (by assumption))
        have g_1_2 : W0.cell? ⟨w.heap.size + 1, 2, none⟩ = some (.int .i64 p) := by rw [← hW0]; first | (with_reducible assumption) | (with_reducible exact cell_alloc_l _ (by assumption)) | (with_reducible exact cell_alloc_l _ (cell_alloc_l _ (by assumption))) | (simp [go_sem]; done) | (simp [go_sem, t4_0_0, t4_0_1, t4_0_2, t4_0_3, t4_1_0, t4_1_1, t4_1_2, t4_2_0, t4_2_1, t4_2_2, t4_2_3]; done) | assumption | exact cell_alloc_l _ (by assumption) | exact cell_alloc_l _ (cell_alloc_l _ (by assumption))
        have g_l2 : w2.heap.size < W0.heap.size := by rw [← hW0]; first | omega | (simp; done) | (simp; omega)
        have g_2_0 : W0.cell? ⟨w2.heap.size, 0, none⟩ = some (.int .i64 L) := by rw [← hW0]; first | (with_reducible assumption) | (with_reducible exact cell_alloc_l _ (by assumption)) | (with_reducible exact cell_alloc_l _ (cell_alloc_l _ (by assumption))) | (simp [go_sem]; done) | (simp [go_sem, t4_0_0, t4_0_1, t4_0_2, t4_0_3, t4_1_0, t4_1_1, t4_1_2, t4_2_0, t4_2_1, t4_2_2, t4_2_3]; done) | assumption | exact cell_alloc_l _ (by assumption) | exact cell_alloc_l _ (cell_alloc_l _ (by assumption))
        have g_2_1 : W0.cell? ⟨w2.heap.size, 1, none⟩ = some (.slice (some ⟨b1, o1, none⟩) k c1) := by rw [← hW0]; first | (with_reducible assumption) | (with_reducible exact cell_alloc_l _ (by assumption)) | (with_reducible exact cell_alloc_l _ (cell_alloc_l _ (by assumption))) | (simp [go_sem]; done) | (simp [go_sem, t4_0_0, t4_0_1, t4_0_2, t4_0_3, t4_1_0, t4_1_1, t4_1_2, t4_2_0, t4_2_1, t4_2_2, t4_2_3]; done) | assumption | exact cell_alloc_l _ (by assumption) | exact cell_alloc_l _ (cell_alloc_l _ (by assumption))
        have g_2_2 : W0.cell? ⟨w2.heap.size, 2, none⟩ = some (.slice (some ⟨g2, 0, none⟩) k q2) := by rw [← hW0]; first | (with_reducible assumption) | (with_reducible exact cell_alloc_l _ (by assumption)) | (with_reducible exact cell_alloc_l _ (cell_alloc_l _ (by assumption))) | (simp [go_sem]; done) | (simp [go_sem, t4_0_0, t4_0_1, t4_0_2, t4_0_3, t4_1_0, t4_1_1, t4_1_2, t4_2_0, t4_2_1, t4_2_2, t4_2_3]; done) | assumption | exact cell_alloc_l _ (by assumption) | exact cell_alloc_l _ (cell_alloc_l _ (by assumption))
        have g_2_3 : W0.cell? ⟨w2.heap.size, 3, none⟩ = some (.slice (some ⟨g3, 0, none⟩) k q3) := by rw [← hW0]; first | (with_reducible assumption) | (with_reducible exact cell_alloc_l _ (by assumption)) | (with_reducible exact cell_alloc_l _ (cell_alloc_l _ (by assumption))) | (simp [go_sem]; done) | (simp [go_sem, t4_0_0, t4_0_1, t4_0_2, t4_0_3, t4_1_0, t4_1_1, t4_1_2, t4_2_0, t4_2_1, t4_2_2, t4_2_3]; done) | assumption | exact cell_alloc_l _ (by assumption) | exact cell_alloc_l _ (cell_alloc_l _ (by assumption))
        clear t4_0_0 t4_0_1 t4_0_2 t4_0_3 t4_l0 t4_1_0 t4_1_1 t4_1_2 t4_l1 t4_2_0 t4_2_1 t4_2_2 t4_2_3 t4_l2
        clear hW0
        have HQ := Lib.hid (show ∀ W', Below W0.heap.size W0 W' → W'.cell? ⟨w.heap.size, 0, none⟩ = some (.int .i64 L) ∧ W'.cell? ⟨w.heap.size, 1, none⟩ = some (.slice (some ⟨b1, o1, none⟩) k c1) ∧ W'.cell? ⟨w.heap.size, 2, none⟩ = some (.slice (some ⟨b2, o2, none⟩) k c2) ∧ W'.cell? ⟨w.heap.size, 3, none⟩ = some (.slice (some ⟨b3, o3, none⟩) k c3) ∧ W'.cell? ⟨w.heap.size + 1, 0, none⟩ = some (.bool b) ∧ W'.cell? ⟨w.heap.size + 1, 1, none⟩ = some (.int .i64 h) ∧ W'.cell? ⟨w.heap.size + 1, 2, none⟩ = some (.int .i64 p) ∧ W'.cell? ⟨w2.heap.size, 0, none⟩ = some (.int .i64 L) ∧ W'.cell? ⟨w2.heap.size, 1, none⟩ = some (.slice (some ⟨b1, o1, none⟩) k c1) ∧ W'.cell? ⟨w2.heap.size, 2, none⟩ = some (.slice (some ⟨g2, 0, none⟩) k q2) ∧ W'.cell? ⟨w2.heap.size, 3, none⟩ = some (.slice (some ⟨g3, 0, none⟩) k q3) ∧ Below W0.heap.size W0 W' from fun W' hBW => ⟨keep_cell hBW g_l0 g_0_0, keep_cell hBW g_l0 g_0_1, keep_cell hBW g_l0 g_0_2, keep_cell hBW g_l0 g_0_3, keep_cell hBW g_l1 g_1_0, keep_cell hBW g_l1 g_1_1, keep_cell hBW g_l1 g_1_2, keep_cell hBW g_l2 g_2_0, keep_cell hBW g_l2 g_2_1, keep_cell hBW g_l2 g_2_2, keep_cell hBW g_l2 g_2_3, hBW⟩)
        go_region_held3 (fun W' => W'.cell? ⟨w.heap.size, 0, none⟩ = some (.int .i64 L) ∧ W'.cell? ⟨w.heap.size, 1, none⟩ = some (.slice (some ⟨b1, o1, none⟩) k c1) ∧ W'.cell? ⟨w.heap.size, 2, none⟩ = some (.slice (some ⟨b2, o2, none⟩) k c2) ∧ W'.cell? ⟨w.heap.size, 3, none⟩ = some (.slice (some ⟨b3, o3, none⟩) k c3) ∧ W'.cell? ⟨w.heap.size + 1, 0, none⟩ = some (.bool b) ∧ W'.cell? ⟨w.heap.size + 1, 1, none⟩ = some (.int .i64 h) ∧ W'.cell? ⟨w.heap.size + 1, 2, none⟩ = some (.int .i64 p) ∧ W'.cell? ⟨w2.heap.size, 0, none⟩ = some (.int .i64 L) ∧ W'.cell? ⟨w2.heap.size, 1, none⟩ = some (.slice (some ⟨b1, o1, none⟩) k c1) ∧ W'.cell? ⟨w2.heap.size, 2, none⟩ = some (.slice (some ⟨g2, 0, none⟩) k q2) ∧ W'.cell? ⟨w2.heap.size, 3, none⟩ = some (.slice (some ⟨g3, 0, none⟩) k q3) ∧ Below W0.heap.size W0 W') ((refine HQ.out _ ?_; first | exact (Below.refl _ _).drew | assumption)) (first | (go_at_call 58; obtain ⟨_, _, _, _, _, _, _, _, _, _, _, hBW⟩ := ‹_ ∧ _ ∧ _ ∧ _ ∧ _ ∧ _ ∧ _ ∧ _ ∧ _ ∧ _ ∧ _ ∧ Below W0.heap.size W0 _›; (with_reducible refine (HA.out _ (bjoin HBW.out hBW)).mono ?_); rintro e wn ⟨rfl, hbn⟩; have hBN := bjoin hBW hbn) | (go_at_call 58; obtain ⟨_, _, _, _, _, _, _, _, _, _, _, hBW⟩ := ‹_ ∧ _ ∧ _ ∧ _ ∧ _ ∧ _ ∧ _ ∧ _ ∧ _ ∧ _ ∧ _ ∧ Below W0.heap.size W0 _›; (with_reducible refine (HE.out _ (bjoin HBW.out hBW)).mono ?_); rintro e wn ⟨rfl, hbn⟩; have hBN := bjoin hBW hbn))
        all_goals obtain ⟨_, _, _, _, _, _, _, _, _, _, _, hBZ⟩ := ‹_ ∧ _ ∧ _ ∧ _ ∧ _ ∧ _ ∧ _ ∧ _ ∧ _ ∧ _ ∧ _ ∧ Below W0.heap.size W0 _›
        all_goals have HZ := Lib.hid (bjoin HBW.out hBZ)
        all_goals have HBZ := Lib.hid hBZ
        all_goals clear hBZ
        go_wp2_with fail
        refine calls_name ?_
        intro w5 hw5
        have t5_l0 : w.heap.size < w5.heap.size := by rw [← hw5]; have := HBZ.out.size; omega
        have t5_0_0 : w5.cell? ⟨w.heap.size, 0, none⟩ = some (.int .i64 L) := by rw [← hw5]; with_reducible assumption
        have t5_0_1 : w5.cell? ⟨w.heap.size, 1, none⟩ = some (.slice (some ⟨b1, o1, none⟩) k c1) := by rw [← hw5]; with_reducible assumption
        have t5_0_2 : w5.cell? ⟨w.heap.size, 2, none⟩ = some (.slice (some ⟨b2, o2, none⟩) k c2) := by rw [← hw5]; with_reducible assumption
        have t5_0_3 : w5.cell? ⟨w.heap.size, 3, none⟩ = some (.slice (some ⟨b3, o3, none⟩) k c3) := by rw [← hw5]; with_reducible assumption
        have t5_l1 : w.heap.size + 1 < w5.heap.size := by rw [← hw5]; have := HBZ.out.size; omega
        have t5_1_0 : w5.cell? ⟨w.heap.size + 1, 0, none⟩ = some (.bool b) := by rw [← hw5]; with_reducible assumption
        have t5_1_1 : w5.cell? ⟨w.heap.size + 1, 1, none⟩ = some (.int .i64 h) := by rw [← hw5]; with_reducible assumption
        have t5_1_2 : w5.cell? ⟨w.heap.size + 1, 2, none⟩ = some (.int .i64 p) := by rw [← hw5]; with_reducible assumption
        have t5_l2 : w2.heap.size < w5.heap.size := by rw [← hw5]; have := HBZ.out.size; omega
        have t5_2_0 : w5.cell? ⟨w2.heap.size, 0, none⟩ = some (.int .i64 L) := by rw [← hw5]; with_reducible assumption
        have t5_2_1 : w5.cell? ⟨w2.heap.size, 1, none⟩ = some (.slice (some ⟨b1, o1, none⟩) k c1) := by rw [← hw5]; with_reducible assumption
        have t5_2_2 : w5.cell? ⟨w2.heap.size, 2, none⟩ = some (.slice (some ⟨g2, 0, none⟩) k q2) := by rw [← hw5]; with_reducible assumption
        have t5_2_3 : w5.cell? ⟨w2.heap.size, 3, none⟩ = some (.slice (some ⟨g3, 0, none⟩) k q3) := by rw [← hw5]; with_reducible assumption
        have HB5 := Lib.hid (show Below w3.heap.size w3 w5 from hw5 ▸ HZ.out)
        clear hw5
        refine (HX.out _ (by have hb' := HB5.out; have hb'' := hb'.size; (repeat refine below_drewN ?_ _); go_grown)).mono ?_
        rintro e w6 ⟨rfl, hb⟩
        have HB6 := Lib.hid (bjoin (w := w3) (by have hb' := HB5.out; have hb'' := hb'.size; (repeat refine below_drewN ?_ _); go_grown) hb)
        have z6_0 := lt_id (b := w.heap.size) hb (by first | omega | (simp; done) | (simp; omega))
        have t6_l0 := keep_lt (b := w.heap.size) hb z6_0
        have t6_0_0 := keep_cell (b := w.heap.size) (o := 0) (v := .int .i64 L) hb z6_0 (by first | (with_reducible assumption) | (with_reducible exact cell_alloc_l _ (by assumption)) | (with_reducible exact cell_alloc_l _ (cell_alloc_l _ (by assumption))) | (simp [go_sem]; done) | assumption | exact cell_alloc_l _ (by assumption) | exact cell_alloc_l _ (cell_alloc_l _ (by assumption)) | (simp [go_sem, *]; done))
        have t6_0_1 := keep_cell (b := w.heap.size) (o := 1) (v := .slice (some ⟨b1, o1, none⟩) k c1) hb z6_0 (by first | (with_reducible assumption) | (with_reducible exact cell_alloc_l _ (by assumption)) | (with_reducible exact cell_alloc_l _ (cell_alloc_l _ (by assumption))) | (simp [go_sem]; done) | assumption | exact cell_alloc_l _ (by assumption) | exact cell_alloc_l _ (cell_alloc_l _ (by assumption)) | (simp [go_sem, *]; done))
        have t6_0_2 := keep_cell (b := w.heap.size) (o := 2) (v := .slice (some ⟨b2, o2, none⟩) k c2) hb z6_0 (by first | (with_reducible assumption) | (with_reducible exact cell_alloc_l _ (by assumption)) | (with_reducible exact cell_alloc_l _ (cell_alloc_l _ (by assumption))) | (simp [go_sem]; done) | assumption | exact cell_alloc_l _ (by assumption) | exact cell_alloc_l _ (cell_alloc_l _ (by assumption)) | (simp [go_sem, *]; done))
        have t6_0_3 := keep_cell (b := w.heap.size) (o := 3) (v := .slice (some ⟨b3, o3, none⟩) k c3) hb z6_0 (by first | (with_reducible assumption) | (with_reducible exact cell_alloc_l _ (by assumption)) | (with_reducible exact cell_alloc_l _ (cell_alloc_l _ (by assumption))) | (simp [go_sem]; done) | assumption | exact cell_alloc_l _ (by assumption) | exact cell_alloc_l _ (cell_alloc_l _ (by assumption)) | (simp [go_sem, *]; done))
        have z6_1 := lt_id (b := w.heap.size + 1) hb (by first | omega | (simp; done) | (simp; omega))
        have t6_l1 := keep_lt (b := w.heap.size + 1) hb z6_1
        have t6_1_0 := keep_cell (b := w.heap.size + 1) (o := 0) (v := .bool b) hb z6_1 (by first | (with_reducible assumption) | (with_reducible exact cell_alloc_l _ (by assumption)) | (with_reducible exact cell_alloc_l _ (cell_alloc_l _ (by assumption))) | (simp [go_sem]; done) | assumption | exact cell_alloc_l _ (by assumption) | exact cell_alloc_l _ (cell_alloc_l _ (by assumption)) | (simp [go_sem, *]; done))
        have t6_1_1 := keep_cell (b := w.heap.size + 1) (o := 1) (v := .int .i64 h) hb z6_1 (by first | (with_reducible assumption) | (with_reducible exact cell_alloc_l _ (by assumption)) | (with_reducible exact cell_alloc_l _ (cell_alloc_l _ (by assumption))) | (simp [go_sem]; done) | assumption | exact cell_alloc_l _ (by assumption) | exact cell_alloc_l _ (cell_alloc_l _ (by assumption)) | (simp [go_sem, *]; done))
        have t6_1_2 := keep_cell (b := w.heap.size + 1) (o := 2) (v := .int .i64 p) hb z6_1 (by first | (with_reducible assumption) | (with_reducible exact cell_alloc_l _ (by assumption)) | (with_reducible exact cell_alloc_l _ (cell_alloc_l _ (by assumption))) | (simp [go_sem]; done) | assumption | exact cell_alloc_l _ (by assumption) | exact cell_alloc_l _ (cell_alloc_l _ (by assumption)) | (simp [go_sem, *]; done))
        have z6_2 := lt_id (b := w2.heap.size) hb (by first | omega | (simp; done) | (simp; omega))
        have t6_l2 := keep_lt (b := w2.heap.size) hb z6_2
        have t6_2_0 := keep_cell (b := w2.heap.size) (o := 0) (v := .int .i64 L) hb z6_2 (by first | (with_reducible assumption) | (with_reducible exact cell_alloc_l _ (by assumption)) | (with_reducible exact cell_alloc_l _ (cell_alloc_l _ (by assumption))) | (simp [go_sem]; done) | assumption | exact cell_alloc_l _ (by assumption) | exact cell_alloc_l _ (cell_alloc_l _ (by assumption)) | (simp [go_sem, *]; done))
        have t6_2_1 := keep_cell (b := w2.heap.size) (o := 1) (v := .slice (some ⟨b1, o1, none⟩) k c1) hb z6_2 (by first | (with_reducible assumption) | (with_reducible exact cell_alloc_l _ (by assumption)) | (with_reducible exact cell_alloc_l _ (cell_alloc_l _ (by assumption))) | (simp [go_sem]; done) | assumption | exact cell_alloc_l _ (by assumption) | exact cell_alloc_l _ (cell_alloc_l _ (by assumption)) | (simp [go_sem, *]; done))
        have t6_2_2 := keep_cell (b := w2.heap.size) (o := 2) (v := .slice (some ⟨g2, 0, none⟩) k q2) hb z6_2 (by first | (with_reducible assumption) | (with_reducible exact cell_alloc_l _ (by assumption)) | (with_reducible exact cell_alloc_l _ (cell_alloc_l _ (by assumption))) | (simp [go_sem]; done) | assumption | exact cell_alloc_l _ (by assumption) | exact cell_alloc_l _ (cell_alloc_l _ (by assumption)) | (simp [go_sem, *]; done))
        have t6_2_3 := keep_cell (b := w2.heap.size) (o := 3) (v := .slice (some ⟨g3, 0, none⟩) k q3) hb z6_2 (by first | (with_reducible assumption) | (with_reducible exact cell_alloc_l _ (by assumption)) | (with_reducible exact cell_alloc_l _ (cell_alloc_l _ (by assumption))) | (simp [go_sem]; done) | assumption | exact cell_alloc_l _ (by assumption) | exact cell_alloc_l _ (cell_alloc_l _ (by assumption)) | (simp [go_sem, *]; done))
        clear z6_0 z6_1 z6_2
        clear t5_0_0 t5_0_1 t5_0_2 t5_0_3 t5_l0 t5_1_0 t5_1_1 t5_1_2 t5_l1 t5_2_0 t5_2_1 t5_2_2 t5_2_3 t5_l2
        clear hb
        go_wp2_with fail
        refine (HY.out _ (by have hb' := HB6.out; have hb'' := hb'.size; (repeat refine below_drewN ?_ _); go_grown)).mono ?_
        rintro e w7 ⟨rfl, hb⟩
        have HB7 := Lib.hid (bjoin (w := w3) (by have hb' := HB6.out; have hb'' := hb'.size; (repeat refine below_drewN ?_ _); go_grown) hb)
        have z7_0 := lt_id (b := w.heap.size) hb (by first | omega | (simp; done) | (simp; omega))
        have t7_l0 := keep_lt (b := w.heap.size) hb z7_0
        have t7_0_0 := keep_cell (b := w.heap.size) (o := 0) (v := .int .i64 L) hb z7_0 (by first | (with_reducible assumption) | (with_reducible exact cell_alloc_l _ (by assumption)) | (with_reducible exact cell_alloc_l _ (cell_alloc_l _ (by assumption))) | (simp [go_sem]; done) | assumption | exact cell_alloc_l _ (by assumption) | exact cell_alloc_l _ (cell_alloc_l _ (by assumption)) | (simp [go_sem, *]; done))
        have t7_0_1 := keep_cell (b := w.heap.size) (o := 1) (v := .slice (some ⟨b1, o1, none⟩) k c1) hb z7_0 (by first | (with_reducible assumption) | (with_reducible exact cell_alloc_l _ (by assumption)) | (with_reducible exact cell_alloc_l _ (cell_alloc_l _ (by assumption))) | (simp [go_sem]; done) | assumption | exact cell_alloc_l _ (by assumption) | exact cell_alloc_l _ (cell_alloc_l _ (by assumption)) | (simp [go_sem, *]; done))
        have t7_0_2 := keep_cell (b := w.heap.size) (o := 2) (v := .slice (some ⟨b2, o2, none⟩) k c2) hb z7_0 (by first | (with_reducible assumption) | (with_reducible exact cell_alloc_l _ (by assumption)) | (with_reducible exact cell_alloc_l _ (cell_alloc_l _ (by assumption))) | (simp [go_sem]; done) | assumption | exact cell_alloc_l _ (by assumption) | exact cell_alloc_l _ (cell_alloc_l _ (by assumption)) | (simp [go_sem, *]; done))
        have t7_0_3 := keep_cell (b := w.heap.size) (o := 3) (v := .slice (some ⟨b3, o3, none⟩) k c3) hb z7_0 (by first | (with_reducible assumption) | (with_reducible exact cell_alloc_l _ (by assumption)) | (with_reducible exact cell_alloc_l _ (cell_alloc_l _ (by assumption))) | (simp [go_sem]; done) | assumption | exact cell_alloc_l _ (by assumption) | exact cell_alloc_l _ (cell_alloc_l _ (by assumption)) | (simp [go_sem, *]; done))
        have z7_1 := lt_id (b := w.heap.size + 1) hb (by first | omega | (simp; done) | (simp; omega))
        have t7_l1 := keep_lt (b := w.heap.size + 1) hb z7_1
        have t7_1_0 := keep_cell (b := w.heap.size + 1) (o := 0) (v := .bool b) hb z7_1 (by first | (with_reducible assumption) | (with_reducible exact cell_alloc_l _ (by assumption)) | (with_reducible exact cell_alloc_l _ (cell_alloc_l _ (by assumption))) | (simp [go_sem]; done) | assumption | exact cell_alloc_l _ (by assumption) | exact cell_alloc_l _ (cell_alloc_l _ (by assumption)) | (simp [go_sem, *]; done))
        have t7_1_1 := keep_cell (b := w.heap.size + 1) (o := 1) (v := .int .i64 h) hb z7_1 (by first | (with_reducible assumption) | (with_reducible exact cell_alloc_l _ (by assumption)) | (with_reducible exact cell_alloc_l _ (cell_alloc_l _ (by assumption))) | (simp [go_sem]; done) | assumption | exact cell_alloc_l _ (by assumption) | exact cell_alloc_l _ (cell_alloc_l _ (by assumption)) | (simp [go_sem, *]; done))
        have t7_1_2 := keep_cell (b := w.heap.size + 1) (o := 2) (v := .int .i64 p) hb z7_1 (by first | (with_reducible assumption) | (with_reducible exact cell_alloc_l _ (by assumption)) | (with_reducible exact cell_alloc_l _ (cell_alloc_l _ (by assumption))) | (simp [go_sem]; done) | assumption | exact cell_alloc_l _ (by assumption) | exact cell_alloc_l _ (cell_alloc_l _ (by assumption)) | (simp [go_sem, *]; done))
        have z7_2 := lt_id (b := w2.heap.size) hb (by first | omega | (simp; done) | (simp; omega))
        have t7_l2 := keep_lt (b := w2.heap.size) hb z7_2
        have t7_2_0 := keep_cell (b := w2.heap.size) (o := 0) (v := .int .i64 L) hb z7_2 (by first | (with_reducible assumption) | (with_reducible exact cell_alloc_l _ (by assumption)) | (with_reducible exact cell_alloc_l _ (cell_alloc_l _ (by assumption))) | (simp [go_sem]; done) | assumption | exact cell_alloc_l _ (by assumption) | exact cell_alloc_l _ (cell_alloc_l _ (by assumption)) | (simp [go_sem, *]; done))
        have t7_2_1 := keep_cell (b := w2.heap.size) (o := 1) (v := .slice (some ⟨b1, o1, none⟩) k c1) hb z7_2 (by first | (with_reducible assumption) | (with_reducible exact cell_alloc_l _ (by assumption)) | (with_reducible exact cell_alloc_l _ (cell_alloc_l _ (by assumption))) | (simp [go_sem]; done) | assumption | exact cell_alloc_l _ (by assumption) | exact cell_alloc_l _ (cell_alloc_l _ (by assumption)) | (simp [go_sem, *]; done))
        have t7_2_2 := keep_cell (b := w2.heap.size) (o := 2) (v := .slice (some ⟨g2, 0, none⟩) k q2) hb z7_2 (by first | (with_reducible assumption) | (with_reducible exact cell_alloc_l _ (by assumption)) | (with_reducible exact cell_alloc_l _ (cell_alloc_l _ (by assumption))) | (simp [go_sem]; done) | assumption | exact cell_alloc_l _ (by assumption) | exact cell_alloc_l _ (cell_alloc_l _ (by assumption)) | (simp [go_sem, *]; done))
        have t7_2_3 := keep_cell (b := w2.heap.size) (o := 3) (v := .slice (some ⟨g3, 0, none⟩) k q3) hb z7_2 (by first | (with_reducible assumption) | (with_reducible exact cell_alloc_l _ (by assumption)) | (with_reducible exact cell_alloc_l _ (cell_alloc_l _ (by assumption))) | (simp [go_sem]; done) | assumption | exact cell_alloc_l _ (by assumption) | exact cell_alloc_l _ (cell_alloc_l _ (by assumption)) | (simp [go_sem, *]; done))
        have z7_3 := lt_id (b := w6.heap.size) hb (by first | omega | (simp; done) | (simp; omega))
        have t7_l3 := keep_lt (b := w6.heap.size) hb z7_3
        have t7_3_0 := keep_cell (b := w6.heap.size) (o := 0) (v := .int .i64 X) hb z7_3 (by first | (with_reducible assumption) | (with_reducible exact cell_alloc_l _ (by assumption)) | (with_reducible exact cell_alloc_l _ (cell_alloc_l _ (by assumption))) | (simp [go_sem]; done) | assumption | exact cell_alloc_l _ (by assumption) | exact cell_alloc_l _ (cell_alloc_l _ (by assumption)) | (simp [go_sem, *]; done))
        have t7_3_1 := keep_cell (b := w6.heap.size) (o := 1) (v := .int .i64 Y) hb z7_3 (by first | (with_reducible assumption) | (with_reducible exact cell_alloc_l _ (by assumption)) | (with_reducible exact cell_alloc_l _ (cell_alloc_l _ (by assumption))) | (simp [go_sem]; done) | assumption | exact cell_alloc_l _ (by assumption) | exact cell_alloc_l _ (cell_alloc_l _ (by assumption)) | (simp [go_sem, *]; done))
        clear z7_0 z7_1 z7_2 z7_3
        clear t6_0_0 t6_0_1 t6_0_2 t6_0_3 t6_l0 t6_1_0 t6_1_1 t6_1_2 t6_l1 t6_2_0 t6_2_1 t6_2_2 t6_2_3 t6_l2
        clear hb
        go_upto_region 18 with fail
        by_cases ha : m < 0
        · go_wp2_with fail
          go_ret
          exact ⟨by first | rfl | (simp; done) | (simp; omega), bjoin H0.out (by have hb' := HB7.out; have hb'' := hb'.size; (repeat refine below_drewN ?_ _); go_grown)⟩
        · by_cases hb : 15840000 < m
          · go_wp2_with fail
            all_goals go_ret
            all_goals exact ⟨by first | rfl | (simp; done) | (simp; omega), bjoin H0.out (by have hb' := HB7.out; have hb'' := hb'.size; (repeat refine below_drewN ?_ _); go_grown)⟩
          · by_cases hc : m + t < 0
            · go_wp2_with fail
              go_ret
              exact ⟨by first | rfl | (simp; done) | (simp; omega), bjoin H0.out (by have hb' := HB7.out; have hb'' := hb'.size; (repeat refine below_drewN ?_ _); go_grown)⟩
            · by_cases hd : 15840000 < m + t
              · go_wp2_with fail
                all_goals go_ret
                all_goals exact ⟨by first | rfl | (simp; done) | (simp; omega), bjoin H0.out (by have hb' := HB7.out; have hb'' := hb'.size; (repeat refine below_drewN ?_ _); go_grown)⟩
              · by_cases hn : 0 ≤ toldN L D R S m
                · have HT1 := Lib.hid (fun W hW => Told_ok (c1 := c1) (c2 := c2) (c3 := c3) m W (HS3.out.to hW) HO.out (by omega) (by omega))
                  have HT2 := Lib.hid (fun W hW => Told_ok (c1 := c1) (c2 := q2) (c3 := q3) (m + t) W (HSM.out.to hW) HOM.out (by omega) (by rw [HTM.out]; omega))
                  rw [HTM.out] at HT2
                  generalize toldN L D R S m = N at *
                  by_cases hmx : m < m + t
                  · go_wp2_with fail
                    refine (HT1.out _ (by have hb' := HB7.out; have hb'' := hb'.size; (repeat refine below_drewN ?_ _); go_grown)).mono ?_
                    rintro e w8 ⟨rfl, hb⟩
                    have HB8 := Lib.hid (bjoin (w := w3) (by have hb' := HB7.out; have hb'' := hb'.size; (repeat refine below_drewN ?_ _); go_grown) hb)
                    have z8_0 := lt_id (b := w.heap.size) hb (by first | omega | (simp; done) | (simp; omega))
                    have t8_l0 := keep_lt (b := w.heap.size) hb z8_0
                    have t8_0_0 := keep_cell (b := w.heap.size) (o := 0) (v := .int .i64 L) hb z8_0 (by first | (with_reducible assumption) | (with_reducible exact cell_alloc_l _ (by assumption)) | (with_reducible exact cell_alloc_l _ (cell_alloc_l _ (by assumption))) | (simp [go_sem]; done) | assumption | exact cell_alloc_l _ (by assumption) | exact cell_alloc_l _ (cell_alloc_l _ (by assumption)) | (simp [go_sem, *]; done))
                    have t8_0_1 := keep_cell (b := w.heap.size) (o := 1) (v := .slice (some ⟨b1, o1, none⟩) k c1) hb z8_0 (by first | (with_reducible assumption) | (with_reducible exact cell_alloc_l _ (by assumption)) | (with_reducible exact cell_alloc_l _ (cell_alloc_l _ (by assumption))) | (simp [go_sem]; done) | assumption | exact cell_alloc_l _ (by assumption) | exact cell_alloc_l _ (cell_alloc_l _ (by assumption)) | (simp [go_sem, *]; done))
                    have t8_0_2 := keep_cell (b := w.heap.size) (o := 2) (v := .slice (some ⟨b2, o2, none⟩) k c2) hb z8_0 (by first | (with_reducible assumption) | (with_reducible exact cell_alloc_l _ (by assumption)) | (with_reducible exact cell_alloc_l _ (cell_alloc_l _ (by assumption))) | (simp [go_sem]; done) | assumption | exact cell_alloc_l _ (by assumption) | exact cell_alloc_l _ (cell_alloc_l _ (by assumption)) | (simp [go_sem, *]; done))
                    have t8_0_3 := keep_cell (b := w.heap.size) (o := 3) (v := .slice (some ⟨b3, o3, none⟩) k c3) hb z8_0 (by first | (with_reducible assumption) | (with_reducible exact cell_alloc_l _ (by assumption)) | (with_reducible exact cell_alloc_l _ (cell_alloc_l _ (by assumption))) | (simp [go_sem]; done) | assumption | exact cell_alloc_l _ (by assumption) | exact cell_alloc_l _ (cell_alloc_l _ (by assumption)) | (simp [go_sem, *]; done))
                    have z8_1 := lt_id (b := w.heap.size + 1) hb (by first | omega | (simp; done) | (simp; omega))
                    have t8_l1 := keep_lt (b := w.heap.size + 1) hb z8_1
                    have t8_1_0 := keep_cell (b := w.heap.size + 1) (o := 0) (v := .bool b) hb z8_1 (by first | (with_reducible assumption) | (with_reducible exact cell_alloc_l _ (by assumption)) | (with_reducible exact cell_alloc_l _ (cell_alloc_l _ (by assumption))) | (simp [go_sem]; done) | assumption | exact cell_alloc_l _ (by assumption) | exact cell_alloc_l _ (cell_alloc_l _ (by assumption)) | (simp [go_sem, *]; done))
                    have t8_1_1 := keep_cell (b := w.heap.size + 1) (o := 1) (v := .int .i64 h) hb z8_1 (by first | (with_reducible assumption) | (with_reducible exact cell_alloc_l _ (by assumption)) | (with_reducible exact cell_alloc_l _ (cell_alloc_l _ (by assumption))) | (simp [go_sem]; done) | assumption | exact cell_alloc_l _ (by assumption) | exact cell_alloc_l _ (cell_alloc_l _ (by assumption)) | (simp [go_sem, *]; done))
                    have t8_1_2 := keep_cell (b := w.heap.size + 1) (o := 2) (v := .int .i64 p) hb z8_1 (by first | (with_reducible assumption) | (with_reducible exact cell_alloc_l _ (by assumption)) | (with_reducible exact cell_alloc_l _ (cell_alloc_l _ (by assumption))) | (simp [go_sem]; done) | assumption | exact cell_alloc_l _ (by assumption) | exact cell_alloc_l _ (cell_alloc_l _ (by assumption)) | (simp [go_sem, *]; done))
                    have z8_2 := lt_id (b := w2.heap.size) hb (by first | omega | (simp; done) | (simp; omega))
                    have t8_l2 := keep_lt (b := w2.heap.size) hb z8_2
                    have t8_2_0 := keep_cell (b := w2.heap.size) (o := 0) (v := .int .i64 L) hb z8_2 (by first | (with_reducible assumption) | (with_reducible exact cell_alloc_l _ (by assumption)) | (with_reducible exact cell_alloc_l _ (cell_alloc_l _ (by assumption))) | (simp [go_sem]; done) | assumption | exact cell_alloc_l _ (by assumption) | exact cell_alloc_l _ (cell_alloc_l _ (by assumption)) | (simp [go_sem, *]; done))
                    have t8_2_1 := keep_cell (b := w2.heap.size) (o := 1) (v := .slice (some ⟨b1, o1, none⟩) k c1) hb z8_2 (by first | (with_reducible assumption) | (with_reducible exact cell_alloc_l _ (by assumption)) | (with_reducible exact cell_alloc_l _ (cell_alloc_l _ (by assumption))) | (simp [go_sem]; done) | assumption | exact cell_alloc_l _ (by assumption) | exact cell_alloc_l _ (cell_alloc_l _ (by assumption)) | (simp [go_sem, *]; done))
                    have t8_2_2 := keep_cell (b := w2.heap.size) (o := 2) (v := .slice (some ⟨g2, 0, none⟩) k q2) hb z8_2 (by first | (with_reducible assumption) | (with_reducible exact cell_alloc_l _ (by assumption)) | (with_reducible exact cell_alloc_l _ (cell_alloc_l _ (by assumption))) | (simp [go_sem]; done) | assumption | exact cell_alloc_l _ (by assumption) | exact cell_alloc_l _ (cell_alloc_l _ (by assumption)) | (simp [go_sem, *]; done))
                    have t8_2_3 := keep_cell (b := w2.heap.size) (o := 3) (v := .slice (some ⟨g3, 0, none⟩) k q3) hb z8_2 (by first | (with_reducible assumption) | (with_reducible exact cell_alloc_l _ (by assumption)) | (with_reducible exact cell_alloc_l _ (cell_alloc_l _ (by assumption))) | (simp [go_sem]; done) | assumption | exact cell_alloc_l _ (by assumption) | exact cell_alloc_l _ (cell_alloc_l _ (by assumption)) | (simp [go_sem, *]; done))
                    clear z8_0 z8_1 z8_2
                    clear t7_0_0 t7_0_1 t7_0_2 t7_0_3 t7_l0 t7_1_0 t7_1_1 t7_1_2 t7_l1 t7_2_0 t7_2_1 t7_2_2 t7_2_3 t7_l2
                    clear hb
                    go_wp2_with fail
                    refine (HT2.out _ (by have hb' := HB8.out; have hb'' := hb'.size; (repeat refine below_drewN ?_ _); go_grown)).mono ?_
                    rintro e w9 ⟨rfl, hb⟩
                    have HB9 := Lib.hid (bjoin (w := w3) (by have hb' := HB8.out; have hb'' := hb'.size; (repeat refine below_drewN ?_ _); go_grown) hb)
                    have z9_0 := lt_id (b := w.heap.size) hb (by first | omega | (simp; done) | (simp; omega))
                    have t9_l0 := keep_lt (b := w.heap.size) hb z9_0
                    have t9_0_0 := keep_cell (b := w.heap.size) (o := 0) (v := .int .i64 L) hb z9_0 (by first | (with_reducible assumption) | (with_reducible exact cell_alloc_l _ (by assumption)) | (with_reducible exact cell_alloc_l _ (cell_alloc_l _ (by assumption))) | (simp [go_sem]; done) | assumption | exact cell_alloc_l _ (by assumption) | exact cell_alloc_l _ (cell_alloc_l _ (by assumption)) | (simp [go_sem, *]; done))
                    have t9_0_1 := keep_cell (b := w.heap.size) (o := 1) (v := .slice (some ⟨b1, o1, none⟩) k c1) hb z9_0 (by first | (with_reducible assumption) | (with_reducible exact cell_alloc_l _ (by assumption)) | (with_reducible exact cell_alloc_l _ (cell_alloc_l _ (by assumption))) | (simp [go_sem]; done) | assumption | exact cell_alloc_l _ (by assumption) | exact cell_alloc_l _ (cell_alloc_l _ (by assumption)) | (simp [go_sem, *]; done))
                    have t9_0_2 := keep_cell (b := w.heap.size) (o := 2) (v := .slice (some ⟨b2, o2, none⟩) k c2) hb z9_0 (by first | (with_reducible assumption) | (with_reducible exact cell_alloc_l _ (by assumption)) | (with_reducible exact cell_alloc_l _ (cell_alloc_l _ (by assumption))) | (simp [go_sem]; done) | assumption | exact cell_alloc_l _ (by assumption) | exact cell_alloc_l _ (cell_alloc_l _ (by assumption)) | (simp [go_sem, *]; done))
                    have t9_0_3 := keep_cell (b := w.heap.size) (o := 3) (v := .slice (some ⟨b3, o3, none⟩) k c3) hb z9_0 (by first | (with_reducible assumption) | (with_reducible exact cell_alloc_l _ (by assumption)) | (with_reducible exact cell_alloc_l _ (cell_alloc_l _ (by assumption))) | (simp [go_sem]; done) | assumption | exact cell_alloc_l _ (by assumption) | exact cell_alloc_l _ (cell_alloc_l _ (by assumption)) | (simp [go_sem, *]; done))
                    have z9_1 := lt_id (b := w.heap.size + 1) hb (by first | omega | (simp; done) | (simp; omega))
                    have t9_l1 := keep_lt (b := w.heap.size + 1) hb z9_1
                    have t9_1_0 := keep_cell (b := w.heap.size + 1) (o := 0) (v := .bool b) hb z9_1 (by first | (with_reducible assumption) | (with_reducible exact cell_alloc_l _ (by assumption)) | (with_reducible exact cell_alloc_l _ (cell_alloc_l _ (by assumption))) | (simp [go_sem]; done) | assumption | exact cell_alloc_l _ (by assumption) | exact cell_alloc_l _ (cell_alloc_l _ (by assumption)) | (simp [go_sem, *]; done))
                    have t9_1_1 := keep_cell (b := w.heap.size + 1) (o := 1) (v := .int .i64 h) hb z9_1 (by first | (with_reducible assumption) | (with_reducible exact cell_alloc_l _ (by assumption)) | (with_reducible exact cell_alloc_l _ (cell_alloc_l _ (by assumption))) | (simp [go_sem]; done) | assumption | exact cell_alloc_l _ (by assumption) | exact cell_alloc_l _ (cell_alloc_l _ (by assumption)) | (simp [go_sem, *]; done))
                    have t9_1_2 := keep_cell (b := w.heap.size + 1) (o := 2) (v := .int .i64 p) hb z9_1 (by first | (with_reducible assumption) | (with_reducible exact cell_alloc_l _ (by assumption)) | (with_reducible exact cell_alloc_l _ (cell_alloc_l _ (by assumption))) | (simp [go_sem]; done) | assumption | exact cell_alloc_l _ (by assumption) | exact cell_alloc_l _ (cell_alloc_l _ (by assumption)) | (simp [go_sem, *]; done))
                    have z9_2 := lt_id (b := w2.heap.size) hb (by first | omega | (simp; done) | (simp; omega))
                    have t9_l2 := keep_lt (b := w2.heap.size) hb z9_2
                    have t9_2_0 := keep_cell (b := w2.heap.size) (o := 0) (v := .int .i64 L) hb z9_2 (by first | (with_reducible assumption) | (with_reducible exact cell_alloc_l _ (by assumption)) | (with_reducible exact cell_alloc_l _ (cell_alloc_l _ (by assumption))) | (simp [go_sem]; done) | assumption | exact cell_alloc_l _ (by assumption) | exact cell_alloc_l _ (cell_alloc_l _ (by assumption)) | (simp [go_sem, *]; done))
                    have t9_2_1 := keep_cell (b := w2.heap.size) (o := 1) (v := .slice (some ⟨b1, o1, none⟩) k c1) hb z9_2 (by first | (with_reducible assumption) | (with_reducible exact cell_alloc_l _ (by assumption)) | (with_reducible exact cell_alloc_l _ (cell_alloc_l _ (by assumption))) | (simp [go_sem]; done) | assumption | exact cell_alloc_l _ (by assumption) | exact cell_alloc_l _ (cell_alloc_l _ (by assumption)) | (simp [go_sem, *]; done))
                    have t9_2_2 := keep_cell (b := w2.heap.size) (o := 2) (v := .slice (some ⟨g2, 0, none⟩) k q2) hb z9_2 (by first | (with_reducible assumption) | (with_reducible exact cell_alloc_l _ (by assumption)) | (with_reducible exact cell_alloc_l _ (cell_alloc_l _ (by assumption))) | (simp [go_sem]; done) | assumption | exact cell_alloc_l _ (by assumption) | exact cell_alloc_l _ (cell_alloc_l _ (by assumption)) | (simp [go_sem, *]; done))
                    have t9_2_3 := keep_cell (b := w2.heap.size) (o := 3) (v := .slice (some ⟨g3, 0, none⟩) k q3) hb z9_2 (by first | (with_reducible assumption) | (with_reducible exact cell_alloc_l _ (by assumption)) | (with_reducible exact cell_alloc_l _ (cell_alloc_l _ (by assumption))) | (simp [go_sem]; done) | assumption | exact cell_alloc_l _ (by assumption) | exact cell_alloc_l _ (cell_alloc_l _ (by assumption)) | (simp [go_sem, *]; done))
                    have z9_3 := lt_id (b := w8.heap.size) hb (by first | omega | (simp; done) | (simp; omega))
                    have t9_l3 := keep_lt (b := w8.heap.size) hb z9_3
                    have t9_3_0 := keep_cell (b := w8.heap.size) (o := 0) (v := .bool (decide (720 ≤ N % 1440))) hb z9_3 (by first | (with_reducible assumption) | (with_reducible exact cell_alloc_l _ (by assumption)) | (with_reducible exact cell_alloc_l _ (cell_alloc_l _ (by assumption))) | (simp [go_sem]; done) | assumption | exact cell_alloc_l _ (by assumption) | exact cell_alloc_l _ (cell_alloc_l _ (by assumption)) | (simp [go_sem, *]; done))
                    have t9_3_1 := keep_cell (b := w8.heap.size) (o := 1) (v := .int .i64 (N % 1440 / 60 % 12)) hb z9_3 (by first | (with_reducible assumption) | (with_reducible exact cell_alloc_l _ (by assumption)) | (with_reducible exact cell_alloc_l _ (cell_alloc_l _ (by assumption))) | (simp [go_sem]; done) | assumption | exact cell_alloc_l _ (by assumption) | exact cell_alloc_l _ (cell_alloc_l _ (by assumption)) | (simp [go_sem, *]; done))
                    have t9_3_2 := keep_cell (b := w8.heap.size) (o := 2) (v := .int .i64 (N % 60)) hb z9_3 (by first | (with_reducible assumption) | (with_reducible exact cell_alloc_l _ (by assumption)) | (with_reducible exact cell_alloc_l _ (cell_alloc_l _ (by assumption))) | (simp [go_sem]; done) | assumption | exact cell_alloc_l _ (by assumption) | exact cell_alloc_l _ (cell_alloc_l _ (by assumption)) | (simp [go_sem, *]; done))
                    clear z9_0 z9_1 z9_2 z9_3
                    clear t8_0_0 t8_0_1 t8_0_2 t8_0_3 t8_l0 t8_1_0 t8_1_1 t8_1_2 t8_l1 t8_2_0 t8_2_1 t8_2_2 t8_2_3 t8_l2
                    clear hb
                    go_wp2_with fail
                    go_ret
                    exact ⟨by first | rfl | (simp; done) | (simp; omega), bjoin H0.out (by have hb' := HB9.out; have hb'' := hb'.size; (repeat refine below_drewN ?_ _); go_grown)⟩
                  · go_wp2_with fail
                    refine (HT1.out _ (by have hb' := HB7.out; have hb'' := hb'.size; (repeat refine below_drewN ?_ _); go_grown)).mono ?_
                    rintro e w8 ⟨rfl, hb⟩
                    have HB8 := Lib.hid (bjoin (w := w3) (by have hb' := HB7.out; have hb'' := hb'.size; (repeat refine below_drewN ?_ _); go_grown) hb)
                    have z8_0 := lt_id (b := w.heap.size) hb (by first | omega | (simp; done) | (simp; omega))
                    have t8_l0 := keep_lt (b := w.heap.size) hb z8_0
                    have t8_0_0 := keep_cell (b := w.heap.size) (o := 0) (v := .int .i64 L) hb z8_0 (by first | (with_reducible assumption) | (with_reducible exact cell_alloc_l _ (by assumption)) | (with_reducible exact cell_alloc_l _ (cell_alloc_l _ (by assumption))) | (simp [go_sem]; done) | assumption | exact cell_alloc_l _ (by assumption) | exact cell_alloc_l _ (cell_alloc_l _ (by assumption)) | (simp [go_sem, *]; done))
                    have t8_0_1 := keep_cell (b := w.heap.size) (o := 1) (v := .slice (some ⟨b1, o1, none⟩) k c1) hb z8_0 (by first | (with_reducible assumption) | (with_reducible exact cell_alloc_l _ (by assumption)) | (with_reducible exact cell_alloc_l _ (cell_alloc_l _ (by assumption))) | (simp [go_sem]; done) | assumption | exact cell_alloc_l _ (by assumption) | exact cell_alloc_l _ (cell_alloc_l _ (by assumption)) | (simp [go_sem, *]; done))
                    have t8_0_2 := keep_cell (b := w.heap.size) (o := 2) (v := .slice (some ⟨b2, o2, none⟩) k c2) hb z8_0 (by first | (with_reducible assumption) | (with_reducible exact cell_alloc_l _ (by assumption)) | (with_reducible exact cell_alloc_l _ (cell_alloc_l _ (by assumption))) | (simp [go_sem]; done) | assumption | exact cell_alloc_l _ (by assumption) | exact cell_alloc_l _ (cell_alloc_l _ (by assumption)) | (simp [go_sem, *]; done))
                    have t8_0_3 := keep_cell (b := w.heap.size) (o := 3) (v := .slice (some ⟨b3, o3, none⟩) k c3) hb z8_0 (by first | (with_reducible assumption) | (with_reducible exact cell_alloc_l _ (by assumption)) | (with_reducible exact cell_alloc_l _ (cell_alloc_l _ (by assumption))) | (simp [go_sem]; done) | assumption | exact cell_alloc_l _ (by assumption) | exact cell_alloc_l _ (cell_alloc_l _ (by assumption)) | (simp [go_sem, *]; done))
                    have z8_1 := lt_id (b := w.heap.size + 1) hb (by first | omega | (simp; done) | (simp; omega))
                    have t8_l1 := keep_lt (b := w.heap.size + 1) hb z8_1
                    have t8_1_0 := keep_cell (b := w.heap.size + 1) (o := 0) (v := .bool b) hb z8_1 (by first | (with_reducible assumption) | (with_reducible exact cell_alloc_l _ (by assumption)) | (with_reducible exact cell_alloc_l _ (cell_alloc_l _ (by assumption))) | (simp [go_sem]; done) | assumption | exact cell_alloc_l _ (by assumption) | exact cell_alloc_l _ (cell_alloc_l _ (by assumption)) | (simp [go_sem, *]; done))
                    have t8_1_1 := keep_cell (b := w.heap.size + 1) (o := 1) (v := .int .i64 h) hb z8_1 (by first | (with_reducible assumption) | (with_reducible exact cell_alloc_l _ (by assumption)) | (with_reducible exact cell_alloc_l _ (cell_alloc_l _ (by assumption))) | (simp [go_sem]; done) | assumption | exact cell_alloc_l _ (by assumption) | exact cell_alloc_l _ (cell_alloc_l _ (by assumption)) | (simp [go_sem, *]; done))
                    have t8_1_2 := keep_cell (b := w.heap.size + 1) (o := 2) (v := .int .i64 p) hb z8_1 (by first | (with_reducible assumption) | (with_reducible exact cell_alloc_l _ (by assumption)) | (with_reducible exact cell_alloc_l _ (cell_alloc_l _ (by assumption))) | (simp [go_sem]; done) | assumption | exact cell_alloc_l _ (by assumption) | exact cell_alloc_l _ (cell_alloc_l _ (by assumption)) | (simp [go_sem, *]; done))
                    have z8_2 := lt_id (b := w2.heap.size) hb (by first | omega | (simp; done) | (simp; omega))
                    have t8_l2 := keep_lt (b := w2.heap.size) hb z8_2
                    have t8_2_0 := keep_cell (b := w2.heap.size) (o := 0) (v := .int .i64 L) hb z8_2 (by first | (with_reducible assumption) | (with_reducible exact cell_alloc_l _ (by assumption)) | (with_reducible exact cell_alloc_l _ (cell_alloc_l _ (by assumption))) | (simp [go_sem]; done) | assumption | exact cell_alloc_l _ (by assumption) | exact cell_alloc_l _ (cell_alloc_l _ (by assumption)) | (simp [go_sem, *]; done))
                    have t8_2_1 := keep_cell (b := w2.heap.size) (o := 1) (v := .slice (some ⟨b1, o1, none⟩) k c1) hb z8_2 (by first | (with_reducible assumption) | (with_reducible exact cell_alloc_l _ (by assumption)) | (with_reducible exact cell_alloc_l _ (cell_alloc_l _ (by assumption))) | (simp [go_sem]; done) | assumption | exact cell_alloc_l _ (by assumption) | exact cell_alloc_l _ (cell_alloc_l _ (by assumption)) | (simp [go_sem, *]; done))
                    have t8_2_2 := keep_cell (b := w2.heap.size) (o := 2) (v := .slice (some ⟨g2, 0, none⟩) k q2) hb z8_2 (by first | (with_reducible assumption) | (with_reducible exact cell_alloc_l _ (by assumption)) | (with_reducible exact cell_alloc_l _ (cell_alloc_l _ (by assumption))) | (simp [go_sem]; done) | assumption | exact cell_alloc_l _ (by assumption) | exact cell_alloc_l _ (cell_alloc_l _ (by assumption)) | (simp [go_sem, *]; done))
                    have t8_2_3 := keep_cell (b := w2.heap.size) (o := 3) (v := .slice (some ⟨g3, 0, none⟩) k q3) hb z8_2 (by first | (with_reducible assumption) | (with_reducible exact cell_alloc_l _ (by assumption)) | (with_reducible exact cell_alloc_l _ (cell_alloc_l _ (by assumption))) | (simp [go_sem]; done) | assumption | exact cell_alloc_l _ (by assumption) | exact cell_alloc_l _ (cell_alloc_l _ (by assumption)) | (simp [go_sem, *]; done))
                    clear z8_0 z8_1 z8_2
                    clear t7_0_0 t7_0_1 t7_0_2 t7_0_3 t7_l0 t7_1_0 t7_1_1 t7_1_2 t7_l1 t7_2_0 t7_2_1 t7_2_2 t7_2_3 t7_l2
                    clear hb
                    go_wp2_with fail
                    refine (HT2.out _ (by have hb' := HB8.out; have hb'' := hb'.size; (repeat refine below_drewN ?_ _); go_grown)).mono ?_
                    rintro e w9 ⟨rfl, hb⟩
                    have HB9 := Lib.hid (bjoin (w := w3) (by have hb' := HB8.out; have hb'' := hb'.size; (repeat refine below_drewN ?_ _); go_grown) hb)
                    have z9_0 := lt_id (b := w.heap.size) hb (by first | omega | (simp; done) | (simp; omega))
                    have t9_l0 := keep_lt (b := w.heap.size) hb z9_0
                    have t9_0_0 := keep_cell (b := w.heap.size) (o := 0) (v := .int .i64 L) hb z9_0 (by first | (with_reducible assumption) | (with_reducible exact cell_alloc_l _ (by assumption)) | (with_reducible exact cell_alloc_l _ (cell_alloc_l _ (by assumption))) | (simp [go_sem]; done) | assumption | exact cell_alloc_l _ (by assumption) | exact cell_alloc_l _ (cell_alloc_l _ (by assumption)) | (simp [go_sem, *]; done))
                    have t9_0_1 := keep_cell (b := w.heap.size) (o := 1) (v := .slice (some ⟨b1, o1, none⟩) k c1) hb z9_0 (by first | (with_reducible assumption) | (with_reducible exact cell_alloc_l _ (by assumption)) | (with_reducible exact cell_alloc_l _ (cell_alloc_l _ (by assumption))) | (simp [go_sem]; done) | assumption | exact cell_alloc_l _ (by assumption) | exact cell_alloc_l _ (cell_alloc_l _ (by assumption)) | (simp [go_sem, *]; done))
                    have t9_0_2 := keep_cell (b := w.heap.size) (o := 2) (v := .slice (some ⟨b2, o2, none⟩) k c2) hb z9_0 (by first | (with_reducible assumption) | (with_reducible exact cell_alloc_l _ (by assumption)) | (with_reducible exact cell_alloc_l _ (cell_alloc_l _ (by assumption))) | (simp [go_sem]; done) | assumption | exact cell_alloc_l _ (by assumption) | exact cell_alloc_l _ (cell_alloc_l _ (by assumption)) | (simp [go_sem, *]; done))
                    have t9_0_3 := keep_cell (b := w.heap.size) (o := 3) (v := .slice (some ⟨b3, o3, none⟩) k c3) hb z9_0 (by first | (with_reducible assumption) | (with_reducible exact cell_alloc_l _ (by assumption)) | (with_reducible exact cell_alloc_l _ (cell_alloc_l _ (by assumption))) | (simp [go_sem]; done) | assumption | exact cell_alloc_l _ (by assumption) | exact cell_alloc_l _ (cell_alloc_l _ (by assumption)) | (simp [go_sem, *]; done))
                    have z9_1 := lt_id (b := w.heap.size + 1) hb (by first | omega | (simp; done) | (simp; omega))
                    have t9_l1 := keep_lt (b := w.heap.size + 1) hb z9_1
                    have t9_1_0 := keep_cell (b := w.heap.size + 1) (o := 0) (v := .bool b) hb z9_1 (by first | (with_reducible assumption) | (with_reducible exact cell_alloc_l _ (by assumption)) | (with_reducible exact cell_alloc_l _ (cell_alloc_l _ (by assumption))) | (simp [go_sem]; done) | assumption | exact cell_alloc_l _ (by assumption) | exact cell_alloc_l _ (cell_alloc_l _ (by assumption)) | (simp [go_sem, *]; done))
                    have t9_1_1 := keep_cell (b := w.heap.size + 1) (o := 1) (v := .int .i64 h) hb z9_1 (by first | (with_reducible assumption) | (with_reducible exact cell_alloc_l _ (by assumption)) | (with_reducible exact cell_alloc_l _ (cell_alloc_l _ (by assumption))) | (simp [go_sem]; done) | assumption | exact cell_alloc_l _ (by assumption) | exact cell_alloc_l _ (cell_alloc_l _ (by assumption)) | (simp [go_sem, *]; done))
                    have t9_1_2 := keep_cell (b := w.heap.size + 1) (o := 2) (v := .int .i64 p) hb z9_1 (by first | (with_reducible assumption) | (with_reducible exact cell_alloc_l _ (by assumption)) | (with_reducible exact cell_alloc_l _ (cell_alloc_l _ (by assumption))) | (simp [go_sem]; done) | assumption | exact cell_alloc_l _ (by assumption) | exact cell_alloc_l _ (cell_alloc_l _ (by assumption)) | (simp [go_sem, *]; done))
                    have z9_2 := lt_id (b := w2.heap.size) hb (by first | omega | (simp; done) | (simp; omega))
                    have t9_l2 := keep_lt (b := w2.heap.size) hb z9_2
                    have t9_2_0 := keep_cell (b := w2.heap.size) (o := 0) (v := .int .i64 L) hb z9_2 (by first | (with_reducible assumption) | (with_reducible exact cell_alloc_l _ (by assumption)) | (with_reducible exact cell_alloc_l _ (cell_alloc_l _ (by assumption))) | (simp [go_sem]; done) | assumption | exact cell_alloc_l _ (by assumption) | exact cell_alloc_l _ (cell_alloc_l _ (by assumption)) | (simp [go_sem, *]; done))
                    have t9_2_1 := keep_cell (b := w2.heap.size) (o := 1) (v := .slice (some ⟨b1, o1, none⟩) k c1) hb z9_2 (by first | (with_reducible assumption) | (with_reducible exact cell_alloc_l _ (by assumption)) | (with_reducible exact cell_alloc_l _ (cell_alloc_l _ (by assumption))) | (simp [go_sem]; done) | assumption | exact cell_alloc_l _ (by assumption) | exact cell_alloc_l _ (cell_alloc_l _ (by assumption)) | (simp [go_sem, *]; done))
                    have t9_2_2 := keep_cell (b := w2.heap.size) (o := 2) (v := .slice (some ⟨g2, 0, none⟩) k q2) hb z9_2 (by first | (with_reducible assumption) | (with_reducible exact cell_alloc_l _ (by assumption)) | (with_reducible exact cell_alloc_l _ (cell_alloc_l _ (by assumption))) | (simp [go_sem]; done) | assumption | exact cell_alloc_l _ (by assumption) | exact cell_alloc_l _ (cell_alloc_l _ (by assumption)) | (simp [go_sem, *]; done))
                    have t9_2_3 := keep_cell (b := w2.heap.size) (o := 3) (v := .slice (some ⟨g3, 0, none⟩) k q3) hb z9_2 (by first | (with_reducible assumption) | (with_reducible exact cell_alloc_l _ (by assumption)) | (with_reducible exact cell_alloc_l _ (cell_alloc_l _ (by assumption))) | (simp [go_sem]; done) | assumption | exact cell_alloc_l _ (by assumption) | exact cell_alloc_l _ (cell_alloc_l _ (by assumption)) | (simp [go_sem, *]; done))
                    have z9_3 := lt_id (b := w8.heap.size) hb (by first | omega | (simp; done) | (simp; omega))
                    have t9_l3 := keep_lt (b := w8.heap.size) hb z9_3
                    have t9_3_0 := keep_cell (b := w8.heap.size) (o := 0) (v := .bool (decide (720 ≤ N % 1440))) hb z9_3 (by first | (with_reducible assumption) | (with_reducible exact cell_alloc_l _ (by assumption)) | (with_reducible exact cell_alloc_l _ (cell_alloc_l _ (by assumption))) | (simp [go_sem]; done) | assumption | exact cell_alloc_l _ (by assumption) | exact cell_alloc_l _ (cell_alloc_l _ (by assumption)) | (simp [go_sem, *]; done))
                    have t9_3_1 := keep_cell (b := w8.heap.size) (o := 1) (v := .int .i64 (N % 1440 / 60 % 12)) hb z9_3 (by first | (with_reducible assumption) | (with_reducible exact cell_alloc_l _ (by assumption)) | (with_reducible exact cell_alloc_l _ (cell_alloc_l _ (by assumption))) | (simp [go_sem]; done) | assumption | exact cell_alloc_l _ (by assumption) | exact cell_alloc_l _ (cell_alloc_l _ (by assumption)) | (simp [go_sem, *]; done))
                    have t9_3_2 := keep_cell (b := w8.heap.size) (o := 2) (v := .int .i64 (N % 60)) hb z9_3 (by first | (with_reducible assumption) | (with_reducible exact cell_alloc_l _ (by assumption)) | (with_reducible exact cell_alloc_l _ (cell_alloc_l _ (by assumption))) | (simp [go_sem]; done) | assumption | exact cell_alloc_l _ (by assumption) | exact cell_alloc_l _ (cell_alloc_l _ (by assumption)) | (simp [go_sem, *]; done))
                    clear z9_0 z9_1 z9_2 z9_3
                    clear t8_0_0 t8_0_1 t8_0_2 t8_0_3 t8_l0 t8_1_0 t8_1_1 t8_1_2 t8_l1 t8_2_0 t8_2_1 t8_2_2 t8_2_3 t8_l2
                    clear hb
                    go_wp2_with fail
                    go_ret
                    exact ⟨by first | rfl | (simp; done) | (simp; omega), bjoin H0.out (by have hb' := HB9.out; have hb'' := hb'.size; (repeat refine below_drewN ?_ _); go_grown)⟩
                · have HT1 := Lib.hid (fun W hW => Told_none (c1 := c1) (c2 := c2) (c3 := c3) m W (HS3.out.to hW) HO.out (by omega) (by omega))
                  have HT2 := Lib.hid (fun W hW => Told_none (c1 := c1) (c2 := q2) (c3 := q3) (m + t) W (HSM.out.to hW) HOM.out (by omega) (by rw [HTM.out]; omega))
                  by_cases hmx : m < m + t
                  · go_wp2_with fail
                    refine (HT1.out _ (by have hb' := HB7.out; have hb'' := hb'.size; (repeat refine below_drewN ?_ _); go_grown)).mono ?_
                    rintro e w8 ⟨rfl, hb⟩
                    have HB8 := Lib.hid (bjoin (w := w3) (by have hb' := HB7.out; have hb'' := hb'.size; (repeat refine below_drewN ?_ _); go_grown) hb)
                    have z8_0 := lt_id (b := w.heap.size) hb (by first | omega | (simp; done) | (simp; omega))
                    have t8_l0 := keep_lt (b := w.heap.size) hb z8_0
                    have t8_0_0 := keep_cell (b := w.heap.size) (o := 0) (v := .int .i64 L) hb z8_0 (by first | (with_reducible assumption) | (with_reducible exact cell_alloc_l _ (by assumption)) | (with_reducible exact cell_alloc_l _ (cell_alloc_l _ (by assumption))) | (simp [go_sem]; done) | assumption | exact cell_alloc_l _ (by assumption) | exact cell_alloc_l _ (cell_alloc_l _ (by assumption)) | (simp [go_sem, *]; done))
                    have t8_0_1 := keep_cell (b := w.heap.size) (o := 1) (v := .slice (some ⟨b1, o1, none⟩) k c1) hb z8_0 (by first | (with_reducible assumption) | (with_reducible exact cell_alloc_l _ (by assumption)) | (with_reducible exact cell_alloc_l _ (cell_alloc_l _ (by assumption))) | (simp [go_sem]; done) | assumption | exact cell_alloc_l _ (by assumption) | exact cell_alloc_l _ (cell_alloc_l _ (by assumption)) | (simp [go_sem, *]; done))
                    have t8_0_2 := keep_cell (b := w.heap.size) (o := 2) (v := .slice (some ⟨b2, o2, none⟩) k c2) hb z8_0 (by first | (with_reducible assumption) | (with_reducible exact cell_alloc_l _ (by assumption)) | (with_reducible exact cell_alloc_l _ (cell_alloc_l _ (by assumption))) | (simp [go_sem]; done) | assumption | exact cell_alloc_l _ (by assumption) | exact cell_alloc_l _ (cell_alloc_l _ (by assumption)) | (simp [go_sem, *]; done))
                    have t8_0_3 := keep_cell (b := w.heap.size) (o := 3) (v := .slice (some ⟨b3, o3, none⟩) k c3) hb z8_0 (by first | (with_reducible assumption) | (with_reducible exact cell_alloc_l _ (by assumption)) | (with_reducible exact cell_alloc_l _ (cell_alloc_l _ (by assumption))) | (simp [go_sem]; done) | assumption | exact cell_alloc_l _ (by assumption) | exact cell_alloc_l _ (cell_alloc_l _ (by assumption)) | (simp [go_sem, *]; done))
                    have z8_1 := lt_id (b := w.heap.size + 1) hb (by first | omega | (simp; done) | (simp; omega))
                    have t8_l1 := keep_lt (b := w.heap.size + 1) hb z8_1
                    have t8_1_0 := keep_cell (b := w.heap.size + 1) (o := 0) (v := .bool b) hb z8_1 (by first | (with_reducible assumption) | (with_reducible exact cell_alloc_l _ (by assumption)) | (with_reducible exact cell_alloc_l _ (cell_alloc_l _ (by assumption))) | (simp [go_sem]; done) | assumption | exact cell_alloc_l _ (by assumption) | exact cell_alloc_l _ (cell_alloc_l _ (by assumption)) | (simp [go_sem, *]; done))
                    have t8_1_1 := keep_cell (b := w.heap.size + 1) (o := 1) (v := .int .i64 h) hb z8_1 (by first | (with_reducible assumption) | (with_reducible exact cell_alloc_l _ (by assumption)) | (with_reducible exact cell_alloc_l _ (cell_alloc_l _ (by assumption))) | (simp [go_sem]; done) | assumption | exact cell_alloc_l _ (by assumption) | exact cell_alloc_l _ (cell_alloc_l _ (by assumption)) | (simp [go_sem, *]; done))
                    have t8_1_2 := keep_cell (b := w.heap.size + 1) (o := 2) (v := .int .i64 p) hb z8_1 (by first | (with_reducible assumption) | (with_reducible exact cell_alloc_l _ (by assumption)) | (with_reducible exact cell_alloc_l _ (cell_alloc_l _ (by assumption))) | (simp [go_sem]; done) | assumption | exact cell_alloc_l _ (by assumption) | exact cell_alloc_l _ (cell_alloc_l _ (by assumption)) | (simp [go_sem, *]; done))
                    have z8_2 := lt_id (b := w2.heap.size) hb (by first | omega | (simp; done) | (simp; omega))
                    have t8_l2 := keep_lt (b := w2.heap.size) hb z8_2
                    have t8_2_0 := keep_cell (b := w2.heap.size) (o := 0) (v := .int .i64 L) hb z8_2 (by first | (with_reducible assumption) | (with_reducible exact cell_alloc_l _ (by assumption)) | (with_reducible exact cell_alloc_l _ (cell_alloc_l _ (by assumption))) | (simp [go_sem]; done) | assumption | exact cell_alloc_l _ (by assumption) | exact cell_alloc_l _ (cell_alloc_l _ (by assumption)) | (simp [go_sem, *]; done))
                    have t8_2_1 := keep_cell (b := w2.heap.size) (o := 1) (v := .slice (some ⟨b1, o1, none⟩) k c1) hb z8_2 (by first | (with_reducible assumption) | (with_reducible exact cell_alloc_l _ (by assumption)) | (with_reducible exact cell_alloc_l _ (cell_alloc_l _ (by assumption))) | (simp [go_sem]; done) | assumption | exact cell_alloc_l _ (by assumption) | exact cell_alloc_l _ (cell_alloc_l _ (by assumption)) | (simp [go_sem, *]; done))
                    have t8_2_2 := keep_cell (b := w2.heap.size) (o := 2) (v := .slice (some ⟨g2, 0, none⟩) k q2) hb z8_2 (by first | (with_reducible assumption) | (with_reducible exact cell_alloc_l _ (by assumption)) | (with_reducible exact cell_alloc_l _ (cell_alloc_l _ (by assumption))) | (simp [go_sem]; done) | assumption | exact cell_alloc_l _ (by assumption) | exact cell_alloc_l _ (cell_alloc_l _ (by assumption)) | (simp [go_sem, *]; done))
                    have t8_2_3 := keep_cell (b := w2.heap.size) (o := 3) (v := .slice (some ⟨g3, 0, none⟩) k q3) hb z8_2 (by first | (with_reducible assumption) | (with_reducible exact cell_alloc_l _ (by assumption)) | (with_reducible exact cell_alloc_l _ (cell_alloc_l _ (by assumption))) | (simp [go_sem]; done) | assumption | exact cell_alloc_l _ (by assumption) | exact cell_alloc_l _ (cell_alloc_l _ (by assumption)) | (simp [go_sem, *]; done))
                    clear z8_0 z8_1 z8_2
                    clear t7_0_0 t7_0_1 t7_0_2 t7_0_3 t7_l0 t7_1_0 t7_1_1 t7_1_2 t7_l1 t7_2_0 t7_2_1 t7_2_2 t7_2_3 t7_l2
                    clear hb
                    go_wp2_with fail
                    refine (HT2.out _ (by have hb' := HB8.out; have hb'' := hb'.size; (repeat refine below_drewN ?_ _); go_grown)).mono ?_
                    rintro e w9 ⟨rfl, hb⟩
                    have HB9 := Lib.hid (bjoin (w := w3) (by have hb' := HB8.out; have hb'' := hb'.size; (repeat refine below_drewN ?_ _); go_grown) hb)
                    have z9_0 := lt_id (b := w.heap.size) hb (by first | omega | (simp; done) | (simp; omega))
                    have t9_l0 := keep_lt (b := w.heap.size) hb z9_0
                    have t9_0_0 := keep_cell (b := w.heap.size) (o := 0) (v := .int .i64 L) hb z9_0 (by first | (with_reducible assumption) | (with_reducible exact cell_alloc_l _ (by assumption)) | (with_reducible exact cell_alloc_l _ (cell_alloc_l _ (by assumption))) | (simp [go_sem]; done) | assumption | exact cell_alloc_l _ (by assumption) | exact cell_alloc_l _ (cell_alloc_l _ (by assumption)) | (simp [go_sem, *]; done))
                    have t9_0_1 := keep_cell (b := w.heap.size) (o := 1) (v := .slice (some ⟨b1, o1, none⟩) k c1) hb z9_0 (by first | (with_reducible assumption) | (with_reducible exact cell_alloc_l _ (by assumption)) | (with_reducible exact cell_alloc_l _ (cell_alloc_l _ (by assumption))) | (simp [go_sem]; done) | assumption | exact cell_alloc_l _ (by assumption) | exact cell_alloc_l _ (cell_alloc_l _ (by assumption)) | (simp [go_sem, *]; done))
                    have t9_0_2 := keep_cell (b := w.heap.size) (o := 2) (v := .slice (some ⟨b2, o2, none⟩) k c2) hb z9_0 (by first | (with_reducible assumption) | (with_reducible exact cell_alloc_l _ (by assumption)) | (with_reducible exact cell_alloc_l _ (cell_alloc_l _ (by assumption))) | (simp [go_sem]; done) | assumption | exact cell_alloc_l _ (by assumption) | exact cell_alloc_l _ (cell_alloc_l _ (by assumption)) | (simp [go_sem, *]; done))
                    have t9_0_3 := keep_cell (b := w.heap.size) (o := 3) (v := .slice (some ⟨b3, o3, none⟩) k c3) hb z9_0 (by first | (with_reducible assumption) | (with_reducible exact cell_alloc_l _ (by assumption)) | (with_reducible exact cell_alloc_l _ (cell_alloc_l _ (by assumption))) | (simp [go_sem]; done) | assumption | exact cell_alloc_l _ (by assumption) | exact cell_alloc_l _ (cell_alloc_l _ (by assumption)) | (simp [go_sem, *]; done))
                    have z9_1 := lt_id (b := w.heap.size + 1) hb (by first | omega | (simp; done) | (simp; omega))
                    have t9_l1 := keep_lt (b := w.heap.size + 1) hb z9_1
                    have t9_1_0 := keep_cell (b := w.heap.size + 1) (o := 0) (v := .bool b) hb z9_1 (by first | (with_reducible assumption) | (with_reducible exact cell_alloc_l _ (by assumption)) | (with_reducible exact cell_alloc_l _ (cell_alloc_l _ (by assumption))) | (simp [go_sem]; done) | assumption | exact cell_alloc_l _ (by assumption) | exact cell_alloc_l _ (cell_alloc_l _ (by assumption)) | (simp [go_sem, *]; done))
                    have t9_1_1 := keep_cell (b := w.heap.size + 1) (o := 1) (v := .int .i64 h) hb z9_1 (by first | (with_reducible assumption) | (with_reducible exact cell_alloc_l _ (by assumption)) | (with_reducible exact cell_alloc_l _ (cell_alloc_l _ (by assumption))) | (simp [go_sem]; done) | assumption | exact cell_alloc_l _ (by assumption) | exact cell_alloc_l _ (cell_alloc_l _ (by assumption)) | (simp [go_sem, *]; done))
                    have t9_1_2 := keep_cell (b := w.heap.size + 1) (o := 2) (v := .int .i64 p) hb z9_1 (by first | (with_reducible assumption) | (with_reducible exact cell_alloc_l _ (by assumption)) | (with_reducible exact cell_alloc_l _ (cell_alloc_l _ (by assumption))) | (simp [go_sem]; done) | assumption | exact cell_alloc_l _ (by assumption) | exact cell_alloc_l _ (cell_alloc_l _ (by assumption)) | (simp [go_sem, *]; done))
                    have z9_2 := lt_id (b := w2.heap.size) hb (by first | omega | (simp; done) | (simp; omega))
                    have t9_l2 := keep_lt (b := w2.heap.size) hb z9_2
                    have t9_2_0 := keep_cell (b := w2.heap.size) (o := 0) (v := .int .i64 L) hb z9_2 (by first | (with_reducible assumption) | (with_reducible exact cell_alloc_l _ (by assumption)) | (with_reducible exact cell_alloc_l _ (cell_alloc_l _ (by assumption))) | (simp [go_sem]; done) | assumption | exact cell_alloc_l _ (by assumption) | exact cell_alloc_l _ (cell_alloc_l _ (by assumption)) | (simp [go_sem, *]; done))
                    have t9_2_1 := keep_cell (b := w2.heap.size) (o := 1) (v := .slice (some ⟨b1, o1, none⟩) k c1) hb z9_2 (by first | (with_reducible assumption) | (with_reducible exact cell_alloc_l _ (by assumption)) | (with_reducible exact cell_alloc_l _ (cell_alloc_l _ (by assumption))) | (simp [go_sem]; done) | assumption | exact cell_alloc_l _ (by assumption) | exact cell_alloc_l _ (cell_alloc_l _ (by assumption)) | (simp [go_sem, *]; done))
                    have t9_2_2 := keep_cell (b := w2.heap.size) (o := 2) (v := .slice (some ⟨g2, 0, none⟩) k q2) hb z9_2 (by first | (with_reducible assumption) | (with_reducible exact cell_alloc_l _ (by assumption)) | (with_reducible exact cell_alloc_l _ (cell_alloc_l _ (by assumption))) | (simp [go_sem]; done) | assumption | exact cell_alloc_l _ (by assumption) | exact cell_alloc_l _ (cell_alloc_l _ (by assumption)) | (simp [go_sem, *]; done))
                    have t9_2_3 := keep_cell (b := w2.heap.size) (o := 3) (v := .slice (some ⟨g3, 0, none⟩) k q3) hb z9_2 (by first | (with_reducible assumption) | (with_reducible exact cell_alloc_l _ (by assumption)) | (with_reducible exact cell_alloc_l _ (cell_alloc_l _ (by assumption))) | (simp [go_sem]; done) | assumption | exact cell_alloc_l _ (by assumption) | exact cell_alloc_l _ (cell_alloc_l _ (by assumption)) | (simp [go_sem, *]; done))
                    have z9_3 := lt_id (b := w8.heap.size) hb (by first | omega | (simp; done) | (simp; omega))
                    have t9_l3 := keep_lt (b := w8.heap.size) hb z9_3
                    have t9_3_0 := keep_cell (b := w8.heap.size) (o := 0) (v := .bool false) hb z9_3 (by first | (with_reducible assumption) | (with_reducible exact cell_alloc_l _ (by assumption)) | (with_reducible exact cell_alloc_l _ (cell_alloc_l _ (by assumption))) | (simp [go_sem]; done) | assumption | exact cell_alloc_l _ (by assumption) | exact cell_alloc_l _ (cell_alloc_l _ (by assumption)) | (simp [go_sem, *]; done))
                    have t9_3_1 := keep_cell (b := w8.heap.size) (o := 1) (v := .int .i64 0) hb z9_3 (by first | (with_reducible assumption) | (with_reducible exact cell_alloc_l _ (by assumption)) | (with_reducible exact cell_alloc_l _ (cell_alloc_l _ (by assumption))) | (simp [go_sem]; done) | assumption | exact cell_alloc_l _ (by assumption) | exact cell_alloc_l _ (cell_alloc_l _ (by assumption)) | (simp [go_sem, *]; done))
                    have t9_3_2 := keep_cell (b := w8.heap.size) (o := 2) (v := .int .i64 0) hb z9_3 (by first | (with_reducible assumption) | (with_reducible exact cell_alloc_l _ (by assumption)) | (with_reducible exact cell_alloc_l _ (cell_alloc_l _ (by assumption))) | (simp [go_sem]; done) | assumption | exact cell_alloc_l _ (by assumption) | exact cell_alloc_l _ (cell_alloc_l _ (by assumption)) | (simp [go_sem, *]; done))
                    clear z9_0 z9_1 z9_2 z9_3
                    clear t8_0_0 t8_0_1 t8_0_2 t8_0_3 t8_l0 t8_1_0 t8_1_1 t8_1_2 t8_l1 t8_2_0 t8_2_1 t8_2_2 t8_2_3 t8_l2
                    clear hb
                    go_wp2_with fail
                    go_ret
                    exact ⟨by first | rfl | (simp; done) | (simp; omega), bjoin H0.out (by have hb' := HB9.out; have hb'' := hb'.size; (repeat refine below_drewN ?_ _); go_grown)⟩
                  · go_wp2_with fail
                    refine (HT1.out _ (by have hb' := HB7.out; have hb'' := hb'.size; (repeat refine below_drewN ?_ _); go_grown)).mono ?_
                    rintro e w8 ⟨rfl, hb⟩
                    have HB8 := Lib.hid (bjoin (w := w3) (by have hb' := HB7.out; have hb'' := hb'.size; (repeat refine below_drewN ?_ _); go_grown) hb)
                    have z8_0 := lt_id (b := w.heap.size) hb (by first | omega | (simp; done) | (simp; omega))
                    have t8_l0 := keep_lt (b := w.heap.size) hb z8_0
                    have t8_0_0 := keep_cell (b := w.heap.size) (o := 0) (v := .int .i64 L) hb z8_0 (by first | (with_reducible assumption) | (with_reducible exact cell_alloc_l _ (by assumption)) | (with_reducible exact cell_alloc_l _ (cell_alloc_l _ (by assumption))) | (simp [go_sem]; done) | assumption | exact cell_alloc_l _ (by assumption) | exact cell_alloc_l _ (cell_alloc_l _ (by assumption)) | (simp [go_sem, *]; done))
                    have t8_0_1 := keep_cell (b := w.heap.size) (o := 1) (v := .slice (some ⟨b1, o1, none⟩) k c1) hb z8_0 (by first | (with_reducible assumption) | (with_reducible exact cell_alloc_l _ (by assumption)) | (with_reducible exact cell_alloc_l _ (cell_alloc_l _ (by assumption))) | (simp [go_sem]; done) | assumption | exact cell_alloc_l _ (by assumption) | exact cell_alloc_l _ (cell_alloc_l _ (by assumption)) | (simp [go_sem, *]; done))
                    have t8_0_2 := keep_cell (b := w.heap.size) (o := 2) (v := .slice (some ⟨b2, o2, none⟩) k c2) hb z8_0 (by first | (with_reducible assumption) | (with_reducible exact cell_alloc_l _ (by assumption)) | (with_reducible exact cell_alloc_l _ (cell_alloc_l _ (by assumption))) | (simp [go_sem]; done) | assumption | exact cell_alloc_l _ (by assumption) | exact cell_alloc_l _ (cell_alloc_l _ (by assumption)) | (simp [go_sem, *]; done))
                    have t8_0_3 := keep_cell (b := w.heap.size) (o := 3) (v := .slice (some ⟨b3, o3, none⟩) k c3) hb z8_0 (by first | (with_reducible assumption) | (with_reducible exact cell_alloc_l _ (by assumption)) | (with_reducible exact cell_alloc_l _ (cell_alloc_l _ (by assumption))) | (simp [go_sem]; done) | assumption | exact cell_alloc_l _ (by assumption) | exact cell_alloc_l _ (cell_alloc_l _ (by assumption)) | (simp [go_sem, *]; done))
                    have z8_1 := lt_id (b := w.heap.size + 1) hb (by first | omega | (simp; done) | (simp; omega))
                    have t8_l1 := keep_lt (b := w.heap.size + 1) hb z8_1
                    have t8_1_0 := keep_cell (b := w.heap.size + 1) (o := 0) (v := .bool b) hb z8_1 (by first | (with_reducible assumption) | (with_reducible exact cell_alloc_l _ (by assumption)) | (with_reducible exact cell_alloc_l _ (cell_alloc_l _ (by assumption))) | (simp [go_sem]; done) | assumption | exact cell_alloc_l _ (by assumption) | exact cell_alloc_l _ (cell_alloc_l _ (by assumption)) | (simp [go_sem, *]; done))
                    have t8_1_1 := keep_cell (b := w.heap.size + 1) (o := 1) (v := .int .i64 h) hb z8_1 (by first | (with_reducible assumption) | (with_reducible exact cell_alloc_l _ (by assumption)) | (with_reducible exact cell_alloc_l _ (cell_alloc_l _ (by assumption))) | (simp [go_sem]; done) | assumption | exact cell_alloc_l _ (by assumption) | exact cell_alloc_l _ (cell_alloc_l _ (by assumption)) | (simp [go_sem, *]; done))
                    have t8_1_2 := keep_cell (b := w.heap.size + 1) (o := 2) (v := .int .i64 p) hb z8_1 (by first | (with_reducible assumption) | (with_reducible exact cell_alloc_l _ (by assumption)) | (with_reducible exact cell_alloc_l _ (cell_alloc_l _ (by assumption))) | (simp [go_sem]; done) | assumption | exact cell_alloc_l _ (by assumption) | exact cell_alloc_l _ (cell_alloc_l _ (by assumption)) | (simp [go_sem, *]; done))
                    have z8_2 := lt_id (b := w2.heap.size) hb (by first | omega | (simp; done) | (simp; omega))
                    have t8_l2 := keep_lt (b := w2.heap.size) hb z8_2
                    have t8_2_0 := keep_cell (b := w2.heap.size) (o := 0) (v := .int .i64 L) hb z8_2 (by first | (with_reducible assumption) | (with_reducible exact cell_alloc_l _ (by assumption)) | (with_reducible exact cell_alloc_l _ (cell_alloc_l _ (by assumption))) | (simp [go_sem]; done) | assumption | exact cell_alloc_l _ (by assumption) | exact cell_alloc_l _ (cell_alloc_l _ (by assumption)) | (simp [go_sem, *]; done))
                    have t8_2_1 := keep_cell (b := w2.heap.size) (o := 1) (v := .slice (some ⟨b1, o1, none⟩) k c1) hb z8_2 (by first | (with_reducible assumption) | (with_reducible exact cell_alloc_l _ (by assumption)) | (with_reducible exact cell_alloc_l _ (cell_alloc_l _ (by assumption))) | (simp [go_sem]; done) | assumption | exact cell_alloc_l _ (by assumption) | exact cell_alloc_l _ (cell_alloc_l _ (by assumption)) | (simp [go_sem, *]; done))
                    have t8_2_2 := keep_cell (b := w2.heap.size) (o := 2) (v := .slice (some ⟨g2, 0, none⟩) k q2) hb z8_2 (by first | (with_reducible assumption) | (with_reducible exact cell_alloc_l _ (by assumption)) | (with_reducible exact cell_alloc_l _ (cell_alloc_l _ (by assumption))) | (simp [go_sem]; done) | assumption | exact cell_alloc_l _ (by assumption) | exact cell_alloc_l _ (cell_alloc_l _ (by assumption)) | (simp [go_sem, *]; done))
                    have t8_2_3 := keep_cell (b := w2.heap.size) (o := 3) (v := .slice (some ⟨g3, 0, none⟩) k q3) hb z8_2 (by first | (with_reducible assumption) | (with_reducible exact cell_alloc_l _ (by assumption)) | (with_reducible exact cell_alloc_l _ (cell_alloc_l _ (by assumption))) | (simp [go_sem]; done) | assumption | exact cell_alloc_l _ (by assumption) | exact cell_alloc_l _ (cell_alloc_l _ (by assumption)) | (simp [go_sem, *]; done))
                    clear z8_0 z8_1 z8_2
                    clear t7_0_0 t7_0_1 t7_0_2 t7_0_3 t7_l0 t7_1_0 t7_1_1 t7_1_2 t7_l1 t7_2_0 t7_2_1 t7_2_2 t7_2_3 t7_l2
                    clear hb
                    go_wp2_with fail
                    refine (HT2.out _ (by have hb' := HB8.out; have hb'' := hb'.size; (repeat refine below_drewN ?_ _); go_grown)).mono ?_
                    rintro e w9 ⟨rfl, hb⟩
                    have HB9 := Lib.hid (bjoin (w := w3) (by have hb' := HB8.out; have hb'' := hb'.size; (repeat refine below_drewN ?_ _); go_grown) hb)
                    have z9_0 := lt_id (b := w.heap.size) hb (by first | omega | (simp; done) | (simp; omega))
                    have t9_l0 := keep_lt (b := w.heap.size) hb z9_0
                    have t9_0_0 := keep_cell (b := w.heap.size) (o := 0) (v := .int .i64 L) hb z9_0 (by first | (with_reducible assumption) | (with_reducible exact cell_alloc_l _ (by assumption)) | (with_reducible exact cell_alloc_l _ (cell_alloc_l _ (by assumption))) | (simp [go_sem]; done) | assumption | exact cell_alloc_l _ (by assumption) | exact cell_alloc_l _ (cell_alloc_l _ (by assumption)) | (simp [go_sem, *]; done))
                    have t9_0_1 := keep_cell (b := w.heap.size) (o := 1) (v := .slice (some ⟨b1, o1, none⟩) k c1) hb z9_0 (by first | (with_reducible assumption) | (with_reducible exact cell_alloc_l _ (by assumption)) | (with_reducible exact cell_alloc_l _ (cell_alloc_l _ (by assumption))) | (simp [go_sem]; done) | assumption | exact cell_alloc_l _ (by assumption) | exact cell_alloc_l _ (cell_alloc_l _ (by assumption)) | (simp [go_sem, *]; done))
                    have t9_0_2 := keep_cell (b := w.heap.size) (o := 2) (v := .slice (some ⟨b2, o2, none⟩) k c2) hb z9_0 (by first | (with_reducible assumption) | (with_reducible exact cell_alloc_l _ (by assumption)) | (with_reducible exact cell_alloc_l _ (cell_alloc_l _ (by assumption))) | (simp [go_sem]; done) | assumption | exact cell_alloc_l _ (by assumption) | exact cell_alloc_l _ (cell_alloc_l _ (by assumption)) | (simp [go_sem, *]; done))
                    have t9_0_3 := keep_cell (b := w.heap.size) (o := 3) (v := .slice (some ⟨b3, o3, none⟩) k c3) hb z9_0 (by first | (with_reducible assumption) | (with_reducible exact cell_alloc_l _ (by assumption)) | (with_reducible exact cell_alloc_l _ (cell_alloc_l _ (by assumption))) | (simp [go_sem]; done) | assumption | exact cell_alloc_l _ (by assumption) | exact cell_alloc_l _ (cell_alloc_l _ (by assumption)) | (simp [go_sem, *]; done))
                    have z9_1 := lt_id (b := w.heap.size + 1) hb (by first | omega | (simp; done) | (simp; omega))
                    have t9_l1 := keep_lt (b := w.heap.size + 1) hb z9_1
                    have t9_1_0 := keep_cell (b := w.heap.size + 1) (o := 0) (v := .bool b) hb z9_1 (by first | (with_reducible assumption) | (with_reducible exact cell_alloc_l _ (by assumption)) | (with_reducible exact cell_alloc_l _ (cell_alloc_l _ (by assumption))) | (simp [go_sem]; done) | assumption | exact cell_alloc_l _ (by assumption) | exact cell_alloc_l _ (cell_alloc_l _ (by assumption)) | (simp [go_sem, *]; done))
                    have t9_1_1 := keep_cell (b := w.heap.size + 1) (o := 1) (v := .int .i64 h) hb z9_1 (by first | (with_reducible assumption) | (with_reducible exact cell_alloc_l _ (by assumption)) | (with_reducible exact cell_alloc_l _ (cell_alloc_l _ (by assumption))) | (simp [go_sem]; done) | assumption | exact cell_alloc_l _ (by assumption) | exact cell_alloc_l _ (cell_alloc_l _ (by assumption)) | (simp [go_sem, *]; done))
                    have t9_1_2 := keep_cell (b := w.heap.size + 1) (o := 2) (v := .int .i64 p) hb z9_1 (by first | (with_reducible assumption) | (with_reducible exact cell_alloc_l _ (by assumption)) | (with_reducible exact cell_alloc_l _ (cell_alloc_l _ (by assumption))) | (simp [go_sem]; done) | assumption | exact cell_alloc_l _ (by assumption) | exact cell_alloc_l _ (cell_alloc_l _ (by assumption)) | (simp [go_sem, *]; done))
                    have z9_2 := lt_id (b := w2.heap.size) hb (by first | omega | (simp; done) | (simp; omega))
                    have t9_l2 := keep_lt (b := w2.heap.size) hb z9_2
                    have t9_2_0 := keep_cell (b := w2.heap.size) (o := 0) (v := .int .i64 L) hb z9_2 (by first | (with_reducible assumption) | (with_reducible exact cell_alloc_l _ (by assumption)) | (with_reducible exact cell_alloc_l _ (cell_alloc_l _ (by assumption))) | (simp [go_sem]; done) | assumption | exact cell_alloc_l _ (by assumption) | exact cell_alloc_l _ (cell_alloc_l _ (by assumption)) | (simp [go_sem, *]; done))
                    have t9_2_1 := keep_cell (b := w2.heap.size) (o := 1) (v := .slice (some ⟨b1, o1, none⟩) k c1) hb z9_2 (by first | (with_reducible assumption) | (with_reducible exact cell_alloc_l _ (by assumption)) | (with_reducible exact cell_alloc_l _ (cell_alloc_l _ (by assumption))) | (simp [go_sem]; done) | assumption | exact cell_alloc_l _ (by assumption) | exact cell_alloc_l _ (cell_alloc_l _ (by assumption)) | (simp [go_sem, *]; done))
                    have t9_2_2 := keep_cell (b := w2.heap.size) (o := 2) (v := .slice (some ⟨g2, 0, none⟩) k q2) hb z9_2 (by first | (with_reducible assumption) | (with_reducible exact cell_alloc_l _ (by assumption)) | (with_reducible exact cell_alloc_l _ (cell_alloc_l _ (by assumption))) | (simp [go_sem]; done) | assumption | exact cell_alloc_l _ (by assumption) | exact cell_alloc_l _ (cell_alloc_l _ (by assumption)) | (simp [go_sem, *]; done))
                    have t9_2_3 := keep_cell (b := w2.heap.size) (o := 3) (v := .slice (some ⟨g3, 0, none⟩) k q3) hb z9_2 (by first | (with_reducible assumption) | (with_reducible exact cell_alloc_l _ (by assumption)) | (with_reducible exact cell_alloc_l _ (cell_alloc_l _ (by assumption))) | (simp [go_sem]; done) | assumption | exact cell_alloc_l _ (by assumption) | exact cell_alloc_l _ (cell_alloc_l _ (by assumption)) | (simp [go_sem, *]; done))
                    have z9_3 := lt_id (b := w8.heap.size) hb (by first | omega | (simp; done) | (simp; omega))
                    have t9_l3 := keep_lt (b := w8.heap.size) hb z9_3
                    have t9_3_0 := keep_cell (b := w8.heap.size) (o := 0) (v := .bool false) hb z9_3 (by first | (with_reducible assumption) | (with_reducible exact cell_alloc_l _ (by assumption)) | (with_reducible exact cell_alloc_l _ (cell_alloc_l _ (by assumption))) | (simp [go_sem]; done) | assumption | exact cell_alloc_l _ (by assumption) | exact cell_alloc_l _ (cell_alloc_l _ (by assumption)) | (simp [go_sem, *]; done))
                    have t9_3_1 := keep_cell (b := w8.heap.size) (o := 1) (v := .int .i64 0) hb z9_3 (by first | (with_reducible assumption) | (with_reducible exact cell_alloc_l _ (by assumption)) | (with_reducible exact cell_alloc_l _ (cell_alloc_l _ (by assumption))) | (simp [go_sem]; done) | assumption | exact cell_alloc_l _ (by assumption) | exact cell_alloc_l _ (cell_alloc_l _ (by assumption)) | (simp [go_sem, *]; done))
                    have t9_3_2 := keep_cell (b := w8.heap.size) (o := 2) (v := .int .i64 0) hb z9_3 (by first | (with_reducible assumption) | (with_reducible exact cell_alloc_l _ (by assumption)) | (with_reducible exact cell_alloc_l _ (cell_alloc_l _ (by assumption))) | (simp [go_sem]; done) | assumption | exact cell_alloc_l _ (by assumption) | exact cell_alloc_l _ (cell_alloc_l _ (by assumption)) | (simp [go_sem, *]; done))
                    clear z9_0 z9_1 z9_2 z9_3
                    clear t8_0_0 t8_0_1 t8_0_2 t8_0_3 t8_l0 t8_1_0 t8_1_1 t8_1_2 t8_l1 t8_2_0 t8_2_1 t8_2_2 t8_2_3 t8_l2
                    clear hb
                    go_wp2_with fail
                    go_ret
                    exact ⟨by first | rfl | (simp; done) | (simp; omega), bjoin H0.out (by have hb' := HB9.out; have hb'' := hb'.size; (repeat refine below_drewN ?_ _); go_grown)⟩
      · have HCH := Lib.hid (fun W hW => Check_not (c1 := c1) (c2 := q2) (c3 := q3) W (HSM.out.to hW) hok)
        clear hok
        go_wp2_with fail
        refine (HCH.out _ (by have hb' := HB3.out; have hb'' := hb'.size; (repeat refine below_drewN ?_ _); go_grown)).mono ?_
        rintro e w4 ⟨rfl, hb⟩
        have HB4 := Lib.hid (bjoin (w := w3) (by have hb' := HB3.out; have hb'' := hb'.size; (repeat refine below_drewN ?_ _); go_grown) hb)
        have z4_0 := lt_id (b := w.heap.size) hb (by first | omega | (simp; done) | (simp; omega))
        have t4_l0 := keep_lt (b := w.heap.size) hb z4_0
        have t4_0_0 := keep_cell (b := w.heap.size) (o := 0) (v := .int .i64 L) hb z4_0 (by first | (with_reducible assumption) | (with_reducible exact cell_alloc_l _ (by assumption)) | (with_reducible exact cell_alloc_l _ (cell_alloc_l _ (by assumption))) | (simp [go_sem]; done) | assumption | exact cell_alloc_l _ (by assumption) | exact cell_alloc_l _ (cell_alloc_l _ (by assumption)) | (simp [go_sem, *]; done))
        have t4_0_1 := keep_cell (b := w.heap.size) (o := 1) (v := .slice (some ⟨b1, o1, none⟩) k c1) hb z4_0 (by first | (with_reducible assumption) | (with_reducible exact cell_alloc_l _ (by assumption)) | (with_reducible exact cell_alloc_l _ (cell_alloc_l _ (by assumption))) | (simp [go_sem]; done) | assumption | exact cell_alloc_l _ (by assumption) | exact cell_alloc_l _ (cell_alloc_l _ (by assumption)) | (simp [go_sem, *]; done))
        have t4_0_2 := keep_cell (b := w.heap.size) (o := 2) (v := .slice (some ⟨b2, o2, none⟩) k c2) hb z4_0 (by first | (with_reducible assumption) | (with_reducible exact cell_alloc_l _ (by assumption)) | (with_reducible exact cell_alloc_l _ (cell_alloc_l _ (by assumption))) | (simp [go_sem]; done) | assumption | exact cell_alloc_l _ (by assumption) | exact cell_alloc_l _ (cell_alloc_l _ (by assumption)) | (simp [go_sem, *]; done))
        have t4_0_3 := keep_cell (b := w.heap.size) (o := 3) (v := .slice (some ⟨b3, o3, none⟩) k c3) hb z4_0 (by first | (with_reducible assumption) | (with_reducible exact cell_alloc_l _ (by assumption)) | (with_reducible exact cell_alloc_l _ (cell_alloc_l _ (by assumption))) | (simp [go_sem]; done) | assumption | exact cell_alloc_l _ (by assumption) | exact cell_alloc_l _ (cell_alloc_l _ (by assumption)) | (simp [go_sem, *]; done))
        have z4_1 := lt_id (b := w.heap.size + 1) hb (by first | omega | (simp; done) | (simp; omega))
        have t4_l1 := keep_lt (b := w.heap.size + 1) hb z4_1
        have t4_1_0 := keep_cell (b := w.heap.size + 1) (o := 0) (v := .bool b) hb z4_1 (by first | (with_reducible assumption) | (with_reducible exact cell_alloc_l _ (by assumption)) | (with_reducible exact cell_alloc_l _ (cell_alloc_l _ (by assumption))) | (simp [go_sem]; done) | assumption | exact cell_alloc_l _ (by assumption) | exact cell_alloc_l _ (cell_alloc_l _ (by assumption)) | (simp [go_sem, *]; done))
        have t4_1_1 := keep_cell (b := w.heap.size + 1) (o := 1) (v := .int .i64 h) hb z4_1 (by first | (with_reducible assumption) | (with_reducible exact cell_alloc_l _ (by assumption)) | (with_reducible exact cell_alloc_l _ (cell_alloc_l _ (by assumption))) | (simp [go_sem]; done) | assumption | exact cell_alloc_l _ (by assumption) | exact cell_alloc_l _ (cell_alloc_l _ (by assumption)) | (simp [go_sem, *]; done))
        have t4_1_2 := keep_cell (b := w.heap.size + 1) (o := 2) (v := .int .i64 p) hb z4_1 (by first | (with_reducible assumption) | (with_reducible exact cell_alloc_l _ (by assumption)) | (with_reducible exact cell_alloc_l _ (cell_alloc_l _ (by assumption))) | (simp [go_sem]; done) | assumption | exact cell_alloc_l _ (by assumption) | exact cell_alloc_l _ (cell_alloc_l _ (by assumption)) | (simp [go_sem, *]; done))
        have z4_2 := lt_id (b := w2.heap.size) hb (by first | omega | (simp; done) | (simp; omega))
        have t4_l2 := keep_lt (b := w2.heap.size) hb z4_2
        have t4_2_0 := keep_cell (b := w2.heap.size) (o := 0) (v := .int .i64 L) hb z4_2 (by first | (with_reducible assumption) | (with_reducible exact cell_alloc_l _ (by assumption)) | (with_reducible exact cell_alloc_l _ (cell_alloc_l _ (by assumption))) | (simp [go_sem]; done) | assumption | exact cell_alloc_l _ (by assumption) | exact cell_alloc_l _ (cell_alloc_l _ (by assumption)) | (simp [go_sem, *]; done))
        have t4_2_1 := keep_cell (b := w2.heap.size) (o := 1) (v := .slice (some ⟨b1, o1, none⟩) k c1) hb z4_2 (by first | (with_reducible assumption) | (with_reducible exact cell_alloc_l _ (by assumption)) | (with_reducible exact cell_alloc_l _ (cell_alloc_l _ (by assumption))) | (simp [go_sem]; done) | assumption | exact cell_alloc_l _ (by assumption) | exact cell_alloc_l _ (cell_alloc_l _ (by assumption)) | (simp [go_sem, *]; done))
        have t4_2_2 := keep_cell (b := w2.heap.size) (o := 2) (v := .slice (some ⟨g2, 0, none⟩) k q2) hb z4_2 (by first | (with_reducible assumption) | (with_reducible exact cell_alloc_l _ (by assumption)) | (with_reducible exact cell_alloc_l _ (cell_alloc_l _ (by assumption))) | (simp [go_sem]; done) | assumption | exact cell_alloc_l _ (by assumption) | exact cell_alloc_l _ (cell_alloc_l _ (by assumption)) | (simp [go_sem, *]; done))
        have t4_2_3 := keep_cell (b := w2.heap.size) (o := 3) (v := .slice (some ⟨g3, 0, none⟩) k q3) hb z4_2 (by first | (with_reducible assumption) | (with_reducible exact cell_alloc_l _ (by assumption)) | (with_reducible exact cell_alloc_l _ (cell_alloc_l _ (by assumption))) | (simp [go_sem]; done) | assumption | exact cell_alloc_l _ (by assumption) | exact cell_alloc_l _ (cell_alloc_l _ (by assumption)) | (simp [go_sem, *]; done))
        clear z4_0 z4_1 z4_2
        clear t3_0_0 t3_0_1 t3_0_2 t3_0_3 t3_l0 t3_1_0 t3_1_1 t3_1_2 t3_l1 t3_2_0 t3_2_1 t3_2_2 t3_2_3 t3_l2
        clear hb
        go_wp2_with fail
        go_ret
        exact ⟨by first | rfl | (simp; done) | (simp; omega), bjoin H0.out (by have hb' := HB4.out; have hb'' := hb'.size; (repeat refine below_drewN ?_ _); go_grown)⟩

set_option maxRecDepth 100000 in
set_option maxHeartbeats 20000000 in
theorem Moved_any {L : Int} {n1 n2 n3 c1 c2 c3 : Nat} {a1 a2 a3 : Option Addr} {D R S : List Int} (day : Int) (b : Bool) (h p m t : Int) (w : World) (hD : LstO w a1 n1 D) (hR : LstO w a2 n2 R) (hS : LstO w a3 n3 S) :
   Calls Tryd.prog 14 #[.agg #[.int .i64 L, .slice a1 n1 c1, .slice a2 n2 c2, .slice a3 n3 c3], .int .i64 day, .agg #[.bool b, .int .i64 h, .int .i64 p], .int .i64 m, .int .i64 t] w fun e w' => e = .returned (.bool true) ∧ Below w.heap.size w w' := by
  cases hr : rightB L n1 n2 n3 D R S [day] (hrOk h p)
  · exact Moved_no day b h p m t w hD hR hS hr
  · by_cases ho : -1440 ≤ t ∧ t ≤ 1440
    · obtain ⟨hf, hok, hda, hhr⟩ := rightB_iff.1 hr
      have hs := seaO_of hD hR hS hf
      obtain ⟨b1, o1, b2, o2, b3, o3, rfl, rfl, rfl, rfl, rfl, hsea⟩ := hs.sea hok
      exact Moved_yes day b h p m t w hs hsea hok hf (days_one.1 hda) ((hrOk_iff h p).1 hhr) ho hr
    · exact Moved_out day b h p m t w hD hR hS hr ho

end Go.Proofs.YtomlfliebolkmaaDoor
