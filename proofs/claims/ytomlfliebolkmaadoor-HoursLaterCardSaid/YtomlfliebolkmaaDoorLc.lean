/-
  HoursLater: the walk. No condition.
-/
import Derived.Test.YtomlfliebolkmaaDoorLa
set_option linter.unusedVariables false
set_option linter.unusedSimpArgs false
namespace Go.Proofs.YtomlfliebolkmaaDoor
open Go Go.Proofs Go.RowKit Pl

set_option maxRecDepth 100000 in
set_option maxHeartbeats 20000000 in
theorem LaterL_any {L : Int} {n1 n2 n3 c1 c2 c3 : Nat} {a1 a2 a3 : Option Addr} {D R S : List Int} (day : Int) (b : Bool) (h p day' : Int) (b' : Bool) (h' p' n : Int) (w : World) (hD : LstO w a1 n1 D) (hR : LstO w a2 n2 R) (hS : LstO w a3 n3 S) :
   Calls Tryd.prog 4 #[.agg #[.int .i64 L, .slice a1 n1 c1, .slice a2 n2 c2, .slice a3 n3 c3], .int .i64 day, .agg #[.bool b, .int .i64 h, .int .i64 p], .int .i64 day', .agg #[.bool b', .int .i64 h', .int .i64 p'], .int .i64 n] w fun e w' => e = .returned (.bool true) ∧ Below w.heap.size w w' := by
  cases hf : fewB n1 n2 n3
  · clear hD hR hS
    go_enter Tryd.func4, Tryd.ntmps4
    go_wp2_with fail
    refine (sane_any _).mono ?_
    rintro e w1 ⟨rfl, hb⟩
    have HB1 := Lib.hid (bjoin (w := w) ((((Below.refl w.heap.size w).alloc (by first | (simp; done) | (have := (Below.refl w.heap.size w).size; simp; omega) | (have := (Below.refl w.heap.size w).size; omega)) _).alloc (by first | (simp; done) | (have := (Below.refl w.heap.size w).size; simp; omega) | (have := (Below.refl w.heap.size w).size; omega)) _).alloc (by first | (simp; done) | (have := (Below.refl w.heap.size w).size; simp; omega) | (have := (Below.refl w.heap.size w).size; omega)) _) hb)
    have t1_l0 := keep_lt (b := w.heap.size) hb (by first | omega | (simp; done) | (simp; omega))
    have t1_0_0 := keep_cell (b := w.heap.size) (o := 0) (v := .int .i64 L) hb (by first | omega | (simp; done) | (simp; omega)) (by first | assumption | exact cell_alloc_l _ (by assumption) | exact cell_alloc_l _ (cell_alloc_l _ (by assumption)) | simp [go_sem])
    have t1_0_1 := keep_cell (b := w.heap.size) (o := 1) (v := .slice a1 n1 c1) hb (by first | omega | (simp; done) | (simp; omega)) (by first | assumption | exact cell_alloc_l _ (by assumption) | exact cell_alloc_l _ (cell_alloc_l _ (by assumption)) | simp [go_sem])
    have t1_0_2 := keep_cell (b := w.heap.size) (o := 2) (v := .slice a2 n2 c2) hb (by first | omega | (simp; done) | (simp; omega)) (by first | assumption | exact cell_alloc_l _ (by assumption) | exact cell_alloc_l _ (cell_alloc_l _ (by assumption)) | simp [go_sem])
    have t1_0_3 := keep_cell (b := w.heap.size) (o := 3) (v := .slice a3 n3 c3) hb (by first | omega | (simp; done) | (simp; omega)) (by first | assumption | exact cell_alloc_l _ (by assumption) | exact cell_alloc_l _ (cell_alloc_l _ (by assumption)) | simp [go_sem])
    have t1_l1 := keep_lt (b := w.heap.size + 1) hb (by first | omega | (simp; done) | (simp; omega))
    have t1_1_0 := keep_cell (b := w.heap.size + 1) (o := 0) (v := .bool b) hb (by first | omega | (simp; done) | (simp; omega)) (by first | assumption | exact cell_alloc_l _ (by assumption) | exact cell_alloc_l _ (cell_alloc_l _ (by assumption)) | simp [go_sem])
    have t1_1_1 := keep_cell (b := w.heap.size + 1) (o := 1) (v := .int .i64 h) hb (by first | omega | (simp; done) | (simp; omega)) (by first | assumption | exact cell_alloc_l _ (by assumption) | exact cell_alloc_l _ (cell_alloc_l _ (by assumption)) | simp [go_sem])
    have t1_1_2 := keep_cell (b := w.heap.size + 1) (o := 2) (v := .int .i64 p) hb (by first | omega | (simp; done) | (simp; omega)) (by first | assumption | exact cell_alloc_l _ (by assumption) | exact cell_alloc_l _ (cell_alloc_l _ (by assumption)) | simp [go_sem])
    have t1_l2 := keep_lt (b := w.heap.size + 1 + 1) hb (by first | omega | (simp; done) | (simp; omega))
    have t1_2_0 := keep_cell (b := w.heap.size + 1 + 1) (o := 0) (v := .bool b') hb (by first | omega | (simp; done) | (simp; omega)) (by first | assumption | exact cell_alloc_l _ (by assumption) | exact cell_alloc_l _ (cell_alloc_l _ (by assumption)) | simp [go_sem])
    have t1_2_1 := keep_cell (b := w.heap.size + 1 + 1) (o := 1) (v := .int .i64 h') hb (by first | omega | (simp; done) | (simp; omega)) (by first | assumption | exact cell_alloc_l _ (by assumption) | exact cell_alloc_l _ (cell_alloc_l _ (by assumption)) | simp [go_sem])
    have t1_2_2 := keep_cell (b := w.heap.size + 1 + 1) (o := 2) (v := .int .i64 p') hb (by first | omega | (simp; done) | (simp; omega)) (by first | assumption | exact cell_alloc_l _ (by assumption) | exact cell_alloc_l _ (cell_alloc_l _ (by assumption)) | simp [go_sem])
    clear hb
    go_wp2_with fail
    refine (few_any _).mono ?_
    rintro e w2 ⟨rfl, hb⟩
    have HB2 := Lib.hid (bjoin (w := w) HB1.out hb)
    have t2_l0 := keep_lt (b := w.heap.size) hb (by first | omega | (simp; done) | (simp; omega))
    have t2_0_0 := keep_cell (b := w.heap.size) (o := 0) (v := .int .i64 L) hb (by first | omega | (simp; done) | (simp; omega)) (by first | assumption | exact cell_alloc_l _ (by assumption) | exact cell_alloc_l _ (cell_alloc_l _ (by assumption)) | simp [go_sem])
    have t2_0_1 := keep_cell (b := w.heap.size) (o := 1) (v := .slice a1 n1 c1) hb (by first | omega | (simp; done) | (simp; omega)) (by first | assumption | exact cell_alloc_l _ (by assumption) | exact cell_alloc_l _ (cell_alloc_l _ (by assumption)) | simp [go_sem])
    have t2_0_2 := keep_cell (b := w.heap.size) (o := 2) (v := .slice a2 n2 c2) hb (by first | omega | (simp; done) | (simp; omega)) (by first | assumption | exact cell_alloc_l _ (by assumption) | exact cell_alloc_l _ (cell_alloc_l _ (by assumption)) | simp [go_sem])
    have t2_0_3 := keep_cell (b := w.heap.size) (o := 3) (v := .slice a3 n3 c3) hb (by first | omega | (simp; done) | (simp; omega)) (by first | assumption | exact cell_alloc_l _ (by assumption) | exact cell_alloc_l _ (cell_alloc_l _ (by assumption)) | simp [go_sem])
    have t2_l1 := keep_lt (b := w.heap.size + 1) hb (by first | omega | (simp; done) | (simp; omega))
    have t2_1_0 := keep_cell (b := w.heap.size + 1) (o := 0) (v := .bool b) hb (by first | omega | (simp; done) | (simp; omega)) (by first | assumption | exact cell_alloc_l _ (by assumption) | exact cell_alloc_l _ (cell_alloc_l _ (by assumption)) | simp [go_sem])
    have t2_1_1 := keep_cell (b := w.heap.size + 1) (o := 1) (v := .int .i64 h) hb (by first | omega | (simp; done) | (simp; omega)) (by first | assumption | exact cell_alloc_l _ (by assumption) | exact cell_alloc_l _ (cell_alloc_l _ (by assumption)) | simp [go_sem])
    have t2_1_2 := keep_cell (b := w.heap.size + 1) (o := 2) (v := .int .i64 p) hb (by first | omega | (simp; done) | (simp; omega)) (by first | assumption | exact cell_alloc_l _ (by assumption) | exact cell_alloc_l _ (cell_alloc_l _ (by assumption)) | simp [go_sem])
    have t2_l2 := keep_lt (b := w.heap.size + 1 + 1) hb (by first | omega | (simp; done) | (simp; omega))
    have t2_2_0 := keep_cell (b := w.heap.size + 1 + 1) (o := 0) (v := .bool b') hb (by first | omega | (simp; done) | (simp; omega)) (by first | assumption | exact cell_alloc_l _ (by assumption) | exact cell_alloc_l _ (cell_alloc_l _ (by assumption)) | simp [go_sem])
    have t2_2_1 := keep_cell (b := w.heap.size + 1 + 1) (o := 1) (v := .int .i64 h') hb (by first | omega | (simp; done) | (simp; omega)) (by first | assumption | exact cell_alloc_l _ (by assumption) | exact cell_alloc_l _ (cell_alloc_l _ (by assumption)) | simp [go_sem])
    have t2_2_2 := keep_cell (b := w.heap.size + 1 + 1) (o := 2) (v := .int .i64 p') hb (by first | omega | (simp; done) | (simp; omega)) (by first | assumption | exact cell_alloc_l _ (by assumption) | exact cell_alloc_l _ (cell_alloc_l _ (by assumption)) | simp [go_sem])
    clear t1_0_0 t1_0_1 t1_0_2 t1_0_3 t1_l0 t1_1_0 t1_1_1 t1_1_2 t1_l1 t1_2_0 t1_2_1 t1_2_2 t1_l2
    clear hb
    rw [hf]
    go_wp2_with fail
    go_ret
    exact ⟨rfl, HB2.out⟩
  · have hs := seaO_of hD hR hS hf
    have HS := Lib.hid hs; clear hs hD hR hS
    go_enter Tryd.func4, Tryd.ntmps4
    go_wp2_with fail
    refine (sane_any _).mono ?_
    rintro e w1 ⟨rfl, hb⟩
    have HB1 := Lib.hid (bjoin (w := w) ((((Below.refl w.heap.size w).alloc (by first | (simp; done) | (have := (Below.refl w.heap.size w).size; simp; omega) | (have := (Below.refl w.heap.size w).size; omega)) _).alloc (by first | (simp; done) | (have := (Below.refl w.heap.size w).size; simp; omega) | (have := (Below.refl w.heap.size w).size; omega)) _).alloc (by first | (simp; done) | (have := (Below.refl w.heap.size w).size; simp; omega) | (have := (Below.refl w.heap.size w).size; omega)) _) hb)
    have t1_l0 := keep_lt (b := w.heap.size) hb (by first | omega | (simp; done) | (simp; omega))
    have t1_0_0 := keep_cell (b := w.heap.size) (o := 0) (v := .int .i64 L) hb (by first | omega | (simp; done) | (simp; omega)) (by first | assumption | exact cell_alloc_l _ (by assumption) | exact cell_alloc_l _ (cell_alloc_l _ (by assumption)) | simp [go_sem])
    have t1_0_1 := keep_cell (b := w.heap.size) (o := 1) (v := .slice a1 n1 c1) hb (by first | omega | (simp; done) | (simp; omega)) (by first | assumption | exact cell_alloc_l _ (by assumption) | exact cell_alloc_l _ (cell_alloc_l _ (by assumption)) | simp [go_sem])
    have t1_0_2 := keep_cell (b := w.heap.size) (o := 2) (v := .slice a2 n2 c2) hb (by first | omega | (simp; done) | (simp; omega)) (by first | assumption | exact cell_alloc_l _ (by assumption) | exact cell_alloc_l _ (cell_alloc_l _ (by assumption)) | simp [go_sem])
    have t1_0_3 := keep_cell (b := w.heap.size) (o := 3) (v := .slice a3 n3 c3) hb (by first | omega | (simp; done) | (simp; omega)) (by first | assumption | exact cell_alloc_l _ (by assumption) | exact cell_alloc_l _ (cell_alloc_l _ (by assumption)) | simp [go_sem])
    have t1_l1 := keep_lt (b := w.heap.size + 1) hb (by first | omega | (simp; done) | (simp; omega))
    have t1_1_0 := keep_cell (b := w.heap.size + 1) (o := 0) (v := .bool b) hb (by first | omega | (simp; done) | (simp; omega)) (by first | assumption | exact cell_alloc_l _ (by assumption) | exact cell_alloc_l _ (cell_alloc_l _ (by assumption)) | simp [go_sem])
    have t1_1_1 := keep_cell (b := w.heap.size + 1) (o := 1) (v := .int .i64 h) hb (by first | omega | (simp; done) | (simp; omega)) (by first | assumption | exact cell_alloc_l _ (by assumption) | exact cell_alloc_l _ (cell_alloc_l _ (by assumption)) | simp [go_sem])
    have t1_1_2 := keep_cell (b := w.heap.size + 1) (o := 2) (v := .int .i64 p) hb (by first | omega | (simp; done) | (simp; omega)) (by first | assumption | exact cell_alloc_l _ (by assumption) | exact cell_alloc_l _ (cell_alloc_l _ (by assumption)) | simp [go_sem])
    have t1_l2 := keep_lt (b := w.heap.size + 1 + 1) hb (by first | omega | (simp; done) | (simp; omega))
    have t1_2_0 := keep_cell (b := w.heap.size + 1 + 1) (o := 0) (v := .bool b') hb (by first | omega | (simp; done) | (simp; omega)) (by first | assumption | exact cell_alloc_l _ (by assumption) | exact cell_alloc_l _ (cell_alloc_l _ (by assumption)) | simp [go_sem])
    have t1_2_1 := keep_cell (b := w.heap.size + 1 + 1) (o := 1) (v := .int .i64 h') hb (by first | omega | (simp; done) | (simp; omega)) (by first | assumption | exact cell_alloc_l _ (by assumption) | exact cell_alloc_l _ (cell_alloc_l _ (by assumption)) | simp [go_sem])
    have t1_2_2 := keep_cell (b := w.heap.size + 1 + 1) (o := 2) (v := .int .i64 p') hb (by first | omega | (simp; done) | (simp; omega)) (by first | assumption | exact cell_alloc_l _ (by assumption) | exact cell_alloc_l _ (cell_alloc_l _ (by assumption)) | simp [go_sem])
    clear hb
    go_wp2_with fail
    refine (few_any _).mono ?_
    rintro e w2 ⟨rfl, hb⟩
    have HB2 := Lib.hid (bjoin (w := w) HB1.out hb)
    have t2_l0 := keep_lt (b := w.heap.size) hb (by first | omega | (simp; done) | (simp; omega))
    have t2_0_0 := keep_cell (b := w.heap.size) (o := 0) (v := .int .i64 L) hb (by first | omega | (simp; done) | (simp; omega)) (by first | assumption | exact cell_alloc_l _ (by assumption) | exact cell_alloc_l _ (cell_alloc_l _ (by assumption)) | simp [go_sem])
    have t2_0_1 := keep_cell (b := w.heap.size) (o := 1) (v := .slice a1 n1 c1) hb (by first | omega | (simp; done) | (simp; omega)) (by first | assumption | exact cell_alloc_l _ (by assumption) | exact cell_alloc_l _ (cell_alloc_l _ (by assumption)) | simp [go_sem])
    have t2_0_2 := keep_cell (b := w.heap.size) (o := 2) (v := .slice a2 n2 c2) hb (by first | omega | (simp; done) | (simp; omega)) (by first | assumption | exact cell_alloc_l _ (by assumption) | exact cell_alloc_l _ (cell_alloc_l _ (by assumption)) | simp [go_sem])
    have t2_0_3 := keep_cell (b := w.heap.size) (o := 3) (v := .slice a3 n3 c3) hb (by first | omega | (simp; done) | (simp; omega)) (by first | assumption | exact cell_alloc_l _ (by assumption) | exact cell_alloc_l _ (cell_alloc_l _ (by assumption)) | simp [go_sem])
    have t2_l1 := keep_lt (b := w.heap.size + 1) hb (by first | omega | (simp; done) | (simp; omega))
    have t2_1_0 := keep_cell (b := w.heap.size + 1) (o := 0) (v := .bool b) hb (by first | omega | (simp; done) | (simp; omega)) (by first | assumption | exact cell_alloc_l _ (by assumption) | exact cell_alloc_l _ (cell_alloc_l _ (by assumption)) | simp [go_sem])
    have t2_1_1 := keep_cell (b := w.heap.size + 1) (o := 1) (v := .int .i64 h) hb (by first | omega | (simp; done) | (simp; omega)) (by first | assumption | exact cell_alloc_l _ (by assumption) | exact cell_alloc_l _ (cell_alloc_l _ (by assumption)) | simp [go_sem])
    have t2_1_2 := keep_cell (b := w.heap.size + 1) (o := 2) (v := .int .i64 p) hb (by first | omega | (simp; done) | (simp; omega)) (by first | assumption | exact cell_alloc_l _ (by assumption) | exact cell_alloc_l _ (cell_alloc_l _ (by assumption)) | simp [go_sem])
    have t2_l2 := keep_lt (b := w.heap.size + 1 + 1) hb (by first | omega | (simp; done) | (simp; omega))
    have t2_2_0 := keep_cell (b := w.heap.size + 1 + 1) (o := 0) (v := .bool b') hb (by first | omega | (simp; done) | (simp; omega)) (by first | assumption | exact cell_alloc_l _ (by assumption) | exact cell_alloc_l _ (cell_alloc_l _ (by assumption)) | simp [go_sem])
    have t2_2_1 := keep_cell (b := w.heap.size + 1 + 1) (o := 1) (v := .int .i64 h') hb (by first | omega | (simp; done) | (simp; omega)) (by first | assumption | exact cell_alloc_l _ (by assumption) | exact cell_alloc_l _ (cell_alloc_l _ (by assumption)) | simp [go_sem])
    have t2_2_2 := keep_cell (b := w.heap.size + 1 + 1) (o := 2) (v := .int .i64 p') hb (by first | omega | (simp; done) | (simp; omega)) (by first | assumption | exact cell_alloc_l _ (by assumption) | exact cell_alloc_l _ (cell_alloc_l _ (by assumption)) | simp [go_sem])
    clear t1_0_0 t1_0_1 t1_0_2 t1_0_3 t1_l0 t1_1_0 t1_1_1 t1_1_2 t1_l1 t1_2_0 t1_2_1 t1_2_2 t1_l2
    clear hb
    rw [hf]
    go_wp2_with fail
    refine (Later_any day b h p n _ (HS.out.to HB2.out)).mono ?_
    rintro e w3 ⟨rfl, hb⟩
    have HB3 := Lib.hid (bjoin (w := w) HB2.out hb)
    have t3_l0 := keep_lt (b := w.heap.size) hb (by first | omega | (simp; done) | (simp; omega))
    have t3_0_0 := keep_cell (b := w.heap.size) (o := 0) (v := .int .i64 L) hb (by first | omega | (simp; done) | (simp; omega)) (by first | assumption | exact cell_alloc_l _ (by assumption) | exact cell_alloc_l _ (cell_alloc_l _ (by assumption)) | simp [go_sem])
    have t3_0_1 := keep_cell (b := w.heap.size) (o := 1) (v := .slice a1 n1 c1) hb (by first | omega | (simp; done) | (simp; omega)) (by first | assumption | exact cell_alloc_l _ (by assumption) | exact cell_alloc_l _ (cell_alloc_l _ (by assumption)) | simp [go_sem])
    have t3_0_2 := keep_cell (b := w.heap.size) (o := 2) (v := .slice a2 n2 c2) hb (by first | omega | (simp; done) | (simp; omega)) (by first | assumption | exact cell_alloc_l _ (by assumption) | exact cell_alloc_l _ (cell_alloc_l _ (by assumption)) | simp [go_sem])
    have t3_0_3 := keep_cell (b := w.heap.size) (o := 3) (v := .slice a3 n3 c3) hb (by first | omega | (simp; done) | (simp; omega)) (by first | assumption | exact cell_alloc_l _ (by assumption) | exact cell_alloc_l _ (cell_alloc_l _ (by assumption)) | simp [go_sem])
    have t3_l1 := keep_lt (b := w.heap.size + 1) hb (by first | omega | (simp; done) | (simp; omega))
    have t3_1_0 := keep_cell (b := w.heap.size + 1) (o := 0) (v := .bool b) hb (by first | omega | (simp; done) | (simp; omega)) (by first | assumption | exact cell_alloc_l _ (by assumption) | exact cell_alloc_l _ (cell_alloc_l _ (by assumption)) | simp [go_sem])
    have t3_1_1 := keep_cell (b := w.heap.size + 1) (o := 1) (v := .int .i64 h) hb (by first | omega | (simp; done) | (simp; omega)) (by first | assumption | exact cell_alloc_l _ (by assumption) | exact cell_alloc_l _ (cell_alloc_l _ (by assumption)) | simp [go_sem])
    have t3_1_2 := keep_cell (b := w.heap.size + 1) (o := 2) (v := .int .i64 p) hb (by first | omega | (simp; done) | (simp; omega)) (by first | assumption | exact cell_alloc_l _ (by assumption) | exact cell_alloc_l _ (cell_alloc_l _ (by assumption)) | simp [go_sem])
    have t3_l2 := keep_lt (b := w.heap.size + 1 + 1) hb (by first | omega | (simp; done) | (simp; omega))
    have t3_2_0 := keep_cell (b := w.heap.size + 1 + 1) (o := 0) (v := .bool b') hb (by first | omega | (simp; done) | (simp; omega)) (by first | assumption | exact cell_alloc_l _ (by assumption) | exact cell_alloc_l _ (cell_alloc_l _ (by assumption)) | simp [go_sem])
    have t3_2_1 := keep_cell (b := w.heap.size + 1 + 1) (o := 1) (v := .int .i64 h') hb (by first | omega | (simp; done) | (simp; omega)) (by first | assumption | exact cell_alloc_l _ (by assumption) | exact cell_alloc_l _ (cell_alloc_l _ (by assumption)) | simp [go_sem])
    have t3_2_2 := keep_cell (b := w.heap.size + 1 + 1) (o := 2) (v := .int .i64 p') hb (by first | omega | (simp; done) | (simp; omega)) (by first | assumption | exact cell_alloc_l _ (by assumption) | exact cell_alloc_l _ (cell_alloc_l _ (by assumption)) | simp [go_sem])
    clear t2_0_0 t2_0_1 t2_0_2 t2_0_3 t2_l0 t2_1_0 t2_1_1 t2_1_2 t2_l1 t2_2_0 t2_2_1 t2_2_2 t2_l2
    clear hb
    go_wp2_with fail
    refine (rLater_any day b h p n _ (HS.out.to (HB3.out.alloc (by first | (simp; done) | (have := HB3.out.size; simp; omega) | (have := HB3.out.size; omega)) _))).mono ?_
    rintro e w4 ⟨rfl, hb⟩
    have HB4 := Lib.hid (bjoin (w := w) (HB3.out.alloc (by first | (simp; done) | (have := HB3.out.size; simp; omega) | (have := HB3.out.size; omega)) _) hb)
    have t4_l0 := keep_lt (b := w.heap.size) hb (by first | omega | (simp; done) | (simp; omega))
    have t4_0_0 := keep_cell (b := w.heap.size) (o := 0) (v := .int .i64 L) hb (by first | omega | (simp; done) | (simp; omega)) (by first | assumption | exact cell_alloc_l _ (by assumption) | exact cell_alloc_l _ (cell_alloc_l _ (by assumption)) | simp [go_sem])
    have t4_0_1 := keep_cell (b := w.heap.size) (o := 1) (v := .slice a1 n1 c1) hb (by first | omega | (simp; done) | (simp; omega)) (by first | assumption | exact cell_alloc_l _ (by assumption) | exact cell_alloc_l _ (cell_alloc_l _ (by assumption)) | simp [go_sem])
    have t4_0_2 := keep_cell (b := w.heap.size) (o := 2) (v := .slice a2 n2 c2) hb (by first | omega | (simp; done) | (simp; omega)) (by first | assumption | exact cell_alloc_l _ (by assumption) | exact cell_alloc_l _ (cell_alloc_l _ (by assumption)) | simp [go_sem])
    have t4_0_3 := keep_cell (b := w.heap.size) (o := 3) (v := .slice a3 n3 c3) hb (by first | omega | (simp; done) | (simp; omega)) (by first | assumption | exact cell_alloc_l _ (by assumption) | exact cell_alloc_l _ (cell_alloc_l _ (by assumption)) | simp [go_sem])
    have t4_l1 := keep_lt (b := w.heap.size + 1) hb (by first | omega | (simp; done) | (simp; omega))
    have t4_1_0 := keep_cell (b := w.heap.size + 1) (o := 0) (v := .bool b) hb (by first | omega | (simp; done) | (simp; omega)) (by first | assumption | exact cell_alloc_l _ (by assumption) | exact cell_alloc_l _ (cell_alloc_l _ (by assumption)) | simp [go_sem])
    have t4_1_1 := keep_cell (b := w.heap.size + 1) (o := 1) (v := .int .i64 h) hb (by first | omega | (simp; done) | (simp; omega)) (by first | assumption | exact cell_alloc_l _ (by assumption) | exact cell_alloc_l _ (cell_alloc_l _ (by assumption)) | simp [go_sem])
    have t4_1_2 := keep_cell (b := w.heap.size + 1) (o := 2) (v := .int .i64 p) hb (by first | omega | (simp; done) | (simp; omega)) (by first | assumption | exact cell_alloc_l _ (by assumption) | exact cell_alloc_l _ (cell_alloc_l _ (by assumption)) | simp [go_sem])
    have t4_l2 := keep_lt (b := w.heap.size + 1 + 1) hb (by first | omega | (simp; done) | (simp; omega))
    have t4_2_0 := keep_cell (b := w.heap.size + 1 + 1) (o := 0) (v := .bool b') hb (by first | omega | (simp; done) | (simp; omega)) (by first | assumption | exact cell_alloc_l _ (by assumption) | exact cell_alloc_l _ (cell_alloc_l _ (by assumption)) | simp [go_sem])
    have t4_2_1 := keep_cell (b := w.heap.size + 1 + 1) (o := 1) (v := .int .i64 h') hb (by first | omega | (simp; done) | (simp; omega)) (by first | assumption | exact cell_alloc_l _ (by assumption) | exact cell_alloc_l _ (cell_alloc_l _ (by assumption)) | simp [go_sem])
    have t4_2_2 := keep_cell (b := w.heap.size + 1 + 1) (o := 2) (v := .int .i64 p') hb (by first | omega | (simp; done) | (simp; omega)) (by first | assumption | exact cell_alloc_l _ (by assumption) | exact cell_alloc_l _ (cell_alloc_l _ (by assumption)) | simp [go_sem])
    have t4_l3 := keep_lt (b := w3.heap.size) hb (by first | omega | (simp; done) | (simp; omega))
    have t4_3_0 := keep_cell (b := w3.heap.size) (o := 0) (v := .bool (onB (laterE (askH L D R S day h p) n (laterN day b h p n)) (decide (720 ≤ laterN day b h p n % 1440)))) hb (by first | omega | (simp; done) | (simp; omega)) (by first | assumption | exact cell_alloc_l _ (by assumption) | exact cell_alloc_l _ (cell_alloc_l _ (by assumption)) | simp [go_sem])
    have t4_3_1 := keep_cell (b := w3.heap.size) (o := 1) (v := .int .i64 (onOk (laterE (askH L D R S day h p) n (laterN day b h p n)) (laterN day b h p n % 1440 / 60 % 12))) hb (by first | omega | (simp; done) | (simp; omega)) (by first | assumption | exact cell_alloc_l _ (by assumption) | exact cell_alloc_l _ (cell_alloc_l _ (by assumption)) | simp [go_sem])
    have t4_3_2 := keep_cell (b := w3.heap.size) (o := 2) (v := .int .i64 (onOk (laterE (askH L D R S day h p) n (laterN day b h p n)) (laterN day b h p n % 60))) hb (by first | omega | (simp; done) | (simp; omega)) (by first | assumption | exact cell_alloc_l _ (by assumption) | exact cell_alloc_l _ (cell_alloc_l _ (by assumption)) | simp [go_sem])
    clear t3_0_0 t3_0_1 t3_0_2 t3_0_3 t3_l0 t3_1_0 t3_1_1 t3_1_2 t3_l1 t3_2_0 t3_2_1 t3_2_2 t3_l2
    clear hb
    go_wp2_with fail
    refine (Passed_any day b h p day' b' h' p' _ (HS.out.to (HB4.out.alloc (by first | (simp; done) | (have := HB4.out.size; simp; omega) | (have := HB4.out.size; omega)) _))).mono ?_
    rintro e w5 ⟨rfl, hb⟩
    have HB5 := Lib.hid (bjoin (w := w) (HB4.out.alloc (by first | (simp; done) | (have := HB4.out.size; simp; omega) | (have := HB4.out.size; omega)) _) hb)
    have t5_l0 := keep_lt (b := w.heap.size) hb (by first | omega | (simp; done) | (simp; omega))
    have t5_0_0 := keep_cell (b := w.heap.size) (o := 0) (v := .int .i64 L) hb (by first | omega | (simp; done) | (simp; omega)) (by first | assumption | exact cell_alloc_l _ (by assumption) | exact cell_alloc_l _ (cell_alloc_l _ (by assumption)) | simp [go_sem])
    have t5_0_1 := keep_cell (b := w.heap.size) (o := 1) (v := .slice a1 n1 c1) hb (by first | omega | (simp; done) | (simp; omega)) (by first | assumption | exact cell_alloc_l _ (by assumption) | exact cell_alloc_l _ (cell_alloc_l _ (by assumption)) | simp [go_sem])
    have t5_0_2 := keep_cell (b := w.heap.size) (o := 2) (v := .slice a2 n2 c2) hb (by first | omega | (simp; done) | (simp; omega)) (by first | assumption | exact cell_alloc_l _ (by assumption) | exact cell_alloc_l _ (cell_alloc_l _ (by assumption)) | simp [go_sem])
    have t5_0_3 := keep_cell (b := w.heap.size) (o := 3) (v := .slice a3 n3 c3) hb (by first | omega | (simp; done) | (simp; omega)) (by first | assumption | exact cell_alloc_l _ (by assumption) | exact cell_alloc_l _ (cell_alloc_l _ (by assumption)) | simp [go_sem])
    have t5_l1 := keep_lt (b := w.heap.size + 1) hb (by first | omega | (simp; done) | (simp; omega))
    have t5_1_0 := keep_cell (b := w.heap.size + 1) (o := 0) (v := .bool b) hb (by first | omega | (simp; done) | (simp; omega)) (by first | assumption | exact cell_alloc_l _ (by assumption) | exact cell_alloc_l _ (cell_alloc_l _ (by assumption)) | simp [go_sem])
    have t5_1_1 := keep_cell (b := w.heap.size + 1) (o := 1) (v := .int .i64 h) hb (by first | omega | (simp; done) | (simp; omega)) (by first | assumption | exact cell_alloc_l _ (by assumption) | exact cell_alloc_l _ (cell_alloc_l _ (by assumption)) | simp [go_sem])
    have t5_1_2 := keep_cell (b := w.heap.size + 1) (o := 2) (v := .int .i64 p) hb (by first | omega | (simp; done) | (simp; omega)) (by first | assumption | exact cell_alloc_l _ (by assumption) | exact cell_alloc_l _ (cell_alloc_l _ (by assumption)) | simp [go_sem])
    have t5_l2 := keep_lt (b := w.heap.size + 1 + 1) hb (by first | omega | (simp; done) | (simp; omega))
    have t5_2_0 := keep_cell (b := w.heap.size + 1 + 1) (o := 0) (v := .bool b') hb (by first | omega | (simp; done) | (simp; omega)) (by first | assumption | exact cell_alloc_l _ (by assumption) | exact cell_alloc_l _ (cell_alloc_l _ (by assumption)) | simp [go_sem])
    have t5_2_1 := keep_cell (b := w.heap.size + 1 + 1) (o := 1) (v := .int .i64 h') hb (by first | omega | (simp; done) | (simp; omega)) (by first | assumption | exact cell_alloc_l _ (by assumption) | exact cell_alloc_l _ (cell_alloc_l _ (by assumption)) | simp [go_sem])
    have t5_2_2 := keep_cell (b := w.heap.size + 1 + 1) (o := 2) (v := .int .i64 p') hb (by first | omega | (simp; done) | (simp; omega)) (by first | assumption | exact cell_alloc_l _ (by assumption) | exact cell_alloc_l _ (cell_alloc_l _ (by assumption)) | simp [go_sem])
    have t5_l3 := keep_lt (b := w3.heap.size) hb (by first | omega | (simp; done) | (simp; omega))
    have t5_3_0 := keep_cell (b := w3.heap.size) (o := 0) (v := .bool (onB (laterE (askH L D R S day h p) n (laterN day b h p n)) (decide (720 ≤ laterN day b h p n % 1440)))) hb (by first | omega | (simp; done) | (simp; omega)) (by first | assumption | exact cell_alloc_l _ (by assumption) | exact cell_alloc_l _ (cell_alloc_l _ (by assumption)) | simp [go_sem])
    have t5_3_1 := keep_cell (b := w3.heap.size) (o := 1) (v := .int .i64 (onOk (laterE (askH L D R S day h p) n (laterN day b h p n)) (laterN day b h p n % 1440 / 60 % 12))) hb (by first | omega | (simp; done) | (simp; omega)) (by first | assumption | exact cell_alloc_l _ (by assumption) | exact cell_alloc_l _ (cell_alloc_l _ (by assumption)) | simp [go_sem])
    have t5_3_2 := keep_cell (b := w3.heap.size) (o := 2) (v := .int .i64 (onOk (laterE (askH L D R S day h p) n (laterN day b h p n)) (laterN day b h p n % 60))) hb (by first | omega | (simp; done) | (simp; omega)) (by first | assumption | exact cell_alloc_l _ (by assumption) | exact cell_alloc_l _ (cell_alloc_l _ (by assumption)) | simp [go_sem])
    have t5_l4 := keep_lt (b := w4.heap.size) hb (by first | omega | (simp; done) | (simp; omega))
    have t5_4_0 := keep_cell (b := w4.heap.size) (o := 0) (v := .bool (onB (laterE (askH L D R S day h p) n (laterN day b h p n)) (decide (720 ≤ laterN day b h p n % 1440)))) hb (by first | omega | (simp; done) | (simp; omega)) (by first | assumption | exact cell_alloc_l _ (by assumption) | exact cell_alloc_l _ (cell_alloc_l _ (by assumption)) | simp [go_sem])
    have t5_4_1 := keep_cell (b := w4.heap.size) (o := 1) (v := .int .i64 (onOk (laterE (askH L D R S day h p) n (laterN day b h p n)) (laterN day b h p n % 1440 / 60 % 12))) hb (by first | omega | (simp; done) | (simp; omega)) (by first | assumption | exact cell_alloc_l _ (by assumption) | exact cell_alloc_l _ (cell_alloc_l _ (by assumption)) | simp [go_sem])
    have t5_4_2 := keep_cell (b := w4.heap.size) (o := 2) (v := .int .i64 (onOk (laterE (askH L D R S day h p) n (laterN day b h p n)) (laterN day b h p n % 60))) hb (by first | omega | (simp; done) | (simp; omega)) (by first | assumption | exact cell_alloc_l _ (by assumption) | exact cell_alloc_l _ (cell_alloc_l _ (by assumption)) | simp [go_sem])
    clear t4_0_0 t4_0_1 t4_0_2 t4_0_3 t4_l0 t4_1_0 t4_1_1 t4_1_2 t4_l1 t4_2_0 t4_2_1 t4_2_2 t4_l2 t4_3_0 t4_3_1 t4_3_2 t4_l3
    clear hb
    go_wp2_with fail
    refine (rPassed_any day b h p day' b' h' p' _ (HS.out.to (HB5.out.alloc (by first | (simp; done) | (have := HB5.out.size; simp; omega) | (have := HB5.out.size; omega)) _))).mono ?_
    rintro e w6 ⟨rfl, hb⟩
    have HB6 := Lib.hid (bjoin (w := w) (HB5.out.alloc (by first | (simp; done) | (have := HB5.out.size; simp; omega) | (have := HB5.out.size; omega)) _) hb)
    have t6_l0 := keep_lt (b := w.heap.size) hb (by first | omega | (simp; done) | (simp; omega))
    have t6_0_0 := keep_cell (b := w.heap.size) (o := 0) (v := .int .i64 L) hb (by first | omega | (simp; done) | (simp; omega)) (by first | assumption | exact cell_alloc_l _ (by assumption) | exact cell_alloc_l _ (cell_alloc_l _ (by assumption)) | simp [go_sem])
    have t6_0_1 := keep_cell (b := w.heap.size) (o := 1) (v := .slice a1 n1 c1) hb (by first | omega | (simp; done) | (simp; omega)) (by first | assumption | exact cell_alloc_l _ (by assumption) | exact cell_alloc_l _ (cell_alloc_l _ (by assumption)) | simp [go_sem])
    have t6_0_2 := keep_cell (b := w.heap.size) (o := 2) (v := .slice a2 n2 c2) hb (by first | omega | (simp; done) | (simp; omega)) (by first | assumption | exact cell_alloc_l _ (by assumption) | exact cell_alloc_l _ (cell_alloc_l _ (by assumption)) | simp [go_sem])
    have t6_0_3 := keep_cell (b := w.heap.size) (o := 3) (v := .slice a3 n3 c3) hb (by first | omega | (simp; done) | (simp; omega)) (by first | assumption | exact cell_alloc_l _ (by assumption) | exact cell_alloc_l _ (cell_alloc_l _ (by assumption)) | simp [go_sem])
    have t6_l1 := keep_lt (b := w.heap.size + 1) hb (by first | omega | (simp; done) | (simp; omega))
    have t6_1_0 := keep_cell (b := w.heap.size + 1) (o := 0) (v := .bool b) hb (by first | omega | (simp; done) | (simp; omega)) (by first | assumption | exact cell_alloc_l _ (by assumption) | exact cell_alloc_l _ (cell_alloc_l _ (by assumption)) | simp [go_sem])
    have t6_1_1 := keep_cell (b := w.heap.size + 1) (o := 1) (v := .int .i64 h) hb (by first | omega | (simp; done) | (simp; omega)) (by first | assumption | exact cell_alloc_l _ (by assumption) | exact cell_alloc_l _ (cell_alloc_l _ (by assumption)) | simp [go_sem])
    have t6_1_2 := keep_cell (b := w.heap.size + 1) (o := 2) (v := .int .i64 p) hb (by first | omega | (simp; done) | (simp; omega)) (by first | assumption | exact cell_alloc_l _ (by assumption) | exact cell_alloc_l _ (cell_alloc_l _ (by assumption)) | simp [go_sem])
    have t6_l2 := keep_lt (b := w.heap.size + 1 + 1) hb (by first | omega | (simp; done) | (simp; omega))
    have t6_2_0 := keep_cell (b := w.heap.size + 1 + 1) (o := 0) (v := .bool b') hb (by first | omega | (simp; done) | (simp; omega)) (by first | assumption | exact cell_alloc_l _ (by assumption) | exact cell_alloc_l _ (cell_alloc_l _ (by assumption)) | simp [go_sem])
    have t6_2_1 := keep_cell (b := w.heap.size + 1 + 1) (o := 1) (v := .int .i64 h') hb (by first | omega | (simp; done) | (simp; omega)) (by first | assumption | exact cell_alloc_l _ (by assumption) | exact cell_alloc_l _ (cell_alloc_l _ (by assumption)) | simp [go_sem])
    have t6_2_2 := keep_cell (b := w.heap.size + 1 + 1) (o := 2) (v := .int .i64 p') hb (by first | omega | (simp; done) | (simp; omega)) (by first | assumption | exact cell_alloc_l _ (by assumption) | exact cell_alloc_l _ (cell_alloc_l _ (by assumption)) | simp [go_sem])
    have t6_l3 := keep_lt (b := w3.heap.size) hb (by first | omega | (simp; done) | (simp; omega))
    have t6_3_0 := keep_cell (b := w3.heap.size) (o := 0) (v := .bool (onB (laterE (askH L D R S day h p) n (laterN day b h p n)) (decide (720 ≤ laterN day b h p n % 1440)))) hb (by first | omega | (simp; done) | (simp; omega)) (by first | assumption | exact cell_alloc_l _ (by assumption) | exact cell_alloc_l _ (cell_alloc_l _ (by assumption)) | simp [go_sem])
    have t6_3_1 := keep_cell (b := w3.heap.size) (o := 1) (v := .int .i64 (onOk (laterE (askH L D R S day h p) n (laterN day b h p n)) (laterN day b h p n % 1440 / 60 % 12))) hb (by first | omega | (simp; done) | (simp; omega)) (by first | assumption | exact cell_alloc_l _ (by assumption) | exact cell_alloc_l _ (cell_alloc_l _ (by assumption)) | simp [go_sem])
    have t6_3_2 := keep_cell (b := w3.heap.size) (o := 2) (v := .int .i64 (onOk (laterE (askH L D R S day h p) n (laterN day b h p n)) (laterN day b h p n % 60))) hb (by first | omega | (simp; done) | (simp; omega)) (by first | assumption | exact cell_alloc_l _ (by assumption) | exact cell_alloc_l _ (cell_alloc_l _ (by assumption)) | simp [go_sem])
    have t6_l4 := keep_lt (b := w4.heap.size) hb (by first | omega | (simp; done) | (simp; omega))
    have t6_4_0 := keep_cell (b := w4.heap.size) (o := 0) (v := .bool (onB (laterE (askH L D R S day h p) n (laterN day b h p n)) (decide (720 ≤ laterN day b h p n % 1440)))) hb (by first | omega | (simp; done) | (simp; omega)) (by first | assumption | exact cell_alloc_l _ (by assumption) | exact cell_alloc_l _ (cell_alloc_l _ (by assumption)) | simp [go_sem])
    have t6_4_1 := keep_cell (b := w4.heap.size) (o := 1) (v := .int .i64 (onOk (laterE (askH L D R S day h p) n (laterN day b h p n)) (laterN day b h p n % 1440 / 60 % 12))) hb (by first | omega | (simp; done) | (simp; omega)) (by first | assumption | exact cell_alloc_l _ (by assumption) | exact cell_alloc_l _ (cell_alloc_l _ (by assumption)) | simp [go_sem])
    have t6_4_2 := keep_cell (b := w4.heap.size) (o := 2) (v := .int .i64 (onOk (laterE (askH L D R S day h p) n (laterN day b h p n)) (laterN day b h p n % 60))) hb (by first | omega | (simp; done) | (simp; omega)) (by first | assumption | exact cell_alloc_l _ (by assumption) | exact cell_alloc_l _ (cell_alloc_l _ (by assumption)) | simp [go_sem])
    have t6_l5 := keep_lt (b := w5.heap.size) hb (by first | omega | (simp; done) | (simp; omega))
    have t6_5_0 := keep_cell (b := w5.heap.size) (o := 0) (v := .int .i64 (onOk (passE (askH L D R S day h p) (askH L D R S day' h' p') (momF L D R S day' b' (60 * h' + p') - momF L D R S day b (60 * h + p))) ((momF L D R S day' b' (60 * h' + p') - momF L D R S day b (60 * h + p)) / 720))) hb (by first | omega | (simp; done) | (simp; omega)) (by first | assumption | exact cell_alloc_l _ (by assumption) | exact cell_alloc_l _ (cell_alloc_l _ (by assumption)) | simp [go_sem])
    have t6_5_1 := keep_cell (b := w5.heap.size) (o := 1) (v := .int .i64 (onOk (passE (askH L D R S day h p) (askH L D R S day' h' p') (momF L D R S day' b' (60 * h' + p') - momF L D R S day b (60 * h + p))) (upF (momF L D R S day' b' (60 * h' + p') - momF L D R S day b (60 * h + p))))) hb (by first | omega | (simp; done) | (simp; omega)) (by first | assumption | exact cell_alloc_l _ (by assumption) | exact cell_alloc_l _ (cell_alloc_l _ (by assumption)) | simp [go_sem])
    clear t5_0_0 t5_0_1 t5_0_2 t5_0_3 t5_l0 t5_1_0 t5_1_1 t5_1_2 t5_l1 t5_2_0 t5_2_1 t5_2_2 t5_l2 t5_3_0 t5_3_1 t5_3_2 t5_l3 t5_4_0 t5_4_1 t5_4_2 t5_l4
    clear hb
    go_wp2_with fail
    refine (Longest_any _ (HS.out.to (HB6.out.alloc (by first | (simp; done) | (have := HB6.out.size; simp; omega) | (have := HB6.out.size; omega)) _))).mono ?_
    rintro e w7 ⟨rfl, hb⟩
    have HB7 := Lib.hid (bjoin (w := w) (HB6.out.alloc (by first | (simp; done) | (have := HB6.out.size; simp; omega) | (have := HB6.out.size; omega)) _) hb)
    have t7_l0 := keep_lt (b := w.heap.size) hb (by first | omega | (simp; done) | (simp; omega))
    have t7_0_0 := keep_cell (b := w.heap.size) (o := 0) (v := .int .i64 L) hb (by first | omega | (simp; done) | (simp; omega)) (by first | assumption | exact cell_alloc_l _ (by assumption) | exact cell_alloc_l _ (cell_alloc_l _ (by assumption)) | simp [go_sem])
    have t7_0_1 := keep_cell (b := w.heap.size) (o := 1) (v := .slice a1 n1 c1) hb (by first | omega | (simp; done) | (simp; omega)) (by first | assumption | exact cell_alloc_l _ (by assumption) | exact cell_alloc_l _ (cell_alloc_l _ (by assumption)) | simp [go_sem])
    have t7_0_2 := keep_cell (b := w.heap.size) (o := 2) (v := .slice a2 n2 c2) hb (by first | omega | (simp; done) | (simp; omega)) (by first | assumption | exact cell_alloc_l _ (by assumption) | exact cell_alloc_l _ (cell_alloc_l _ (by assumption)) | simp [go_sem])
    have t7_0_3 := keep_cell (b := w.heap.size) (o := 3) (v := .slice a3 n3 c3) hb (by first | omega | (simp; done) | (simp; omega)) (by first | assumption | exact cell_alloc_l _ (by assumption) | exact cell_alloc_l _ (cell_alloc_l _ (by assumption)) | simp [go_sem])
    have t7_l1 := keep_lt (b := w.heap.size + 1) hb (by first | omega | (simp; done) | (simp; omega))
    have t7_1_0 := keep_cell (b := w.heap.size + 1) (o := 0) (v := .bool b) hb (by first | omega | (simp; done) | (simp; omega)) (by first | assumption | exact cell_alloc_l _ (by assumption) | exact cell_alloc_l _ (cell_alloc_l _ (by assumption)) | simp [go_sem])
    have t7_1_1 := keep_cell (b := w.heap.size + 1) (o := 1) (v := .int .i64 h) hb (by first | omega | (simp; done) | (simp; omega)) (by first | assumption | exact cell_alloc_l _ (by assumption) | exact cell_alloc_l _ (cell_alloc_l _ (by assumption)) | simp [go_sem])
    have t7_1_2 := keep_cell (b := w.heap.size + 1) (o := 2) (v := .int .i64 p) hb (by first | omega | (simp; done) | (simp; omega)) (by first | assumption | exact cell_alloc_l _ (by assumption) | exact cell_alloc_l _ (cell_alloc_l _ (by assumption)) | simp [go_sem])
    have t7_l2 := keep_lt (b := w.heap.size + 1 + 1) hb (by first | omega | (simp; done) | (simp; omega))
    have t7_2_0 := keep_cell (b := w.heap.size + 1 + 1) (o := 0) (v := .bool b') hb (by first | omega | (simp; done) | (simp; omega)) (by first | assumption | exact cell_alloc_l _ (by assumption) | exact cell_alloc_l _ (cell_alloc_l _ (by assumption)) | simp [go_sem])
    have t7_2_1 := keep_cell (b := w.heap.size + 1 + 1) (o := 1) (v := .int .i64 h') hb (by first | omega | (simp; done) | (simp; omega)) (by first | assumption | exact cell_alloc_l _ (by assumption) | exact cell_alloc_l _ (cell_alloc_l _ (by assumption)) | simp [go_sem])
    have t7_2_2 := keep_cell (b := w.heap.size + 1 + 1) (o := 2) (v := .int .i64 p') hb (by first | omega | (simp; done) | (simp; omega)) (by first | assumption | exact cell_alloc_l _ (by assumption) | exact cell_alloc_l _ (cell_alloc_l _ (by assumption)) | simp [go_sem])
    have t7_l3 := keep_lt (b := w3.heap.size) hb (by first | omega | (simp; done) | (simp; omega))
    have t7_3_0 := keep_cell (b := w3.heap.size) (o := 0) (v := .bool (onB (laterE (askH L D R S day h p) n (laterN day b h p n)) (decide (720 ≤ laterN day b h p n % 1440)))) hb (by first | omega | (simp; done) | (simp; omega)) (by first | assumption | exact cell_alloc_l _ (by assumption) | exact cell_alloc_l _ (cell_alloc_l _ (by assumption)) | simp [go_sem])
    have t7_3_1 := keep_cell (b := w3.heap.size) (o := 1) (v := .int .i64 (onOk (laterE (askH L D R S day h p) n (laterN day b h p n)) (laterN day b h p n % 1440 / 60 % 12))) hb (by first | omega | (simp; done) | (simp; omega)) (by first | assumption | exact cell_alloc_l _ (by assumption) | exact cell_alloc_l _ (cell_alloc_l _ (by assumption)) | simp [go_sem])
    have t7_3_2 := keep_cell (b := w3.heap.size) (o := 2) (v := .int .i64 (onOk (laterE (askH L D R S day h p) n (laterN day b h p n)) (laterN day b h p n % 60))) hb (by first | omega | (simp; done) | (simp; omega)) (by first | assumption | exact cell_alloc_l _ (by assumption) | exact cell_alloc_l _ (cell_alloc_l _ (by assumption)) | simp [go_sem])
    have t7_l4 := keep_lt (b := w4.heap.size) hb (by first | omega | (simp; done) | (simp; omega))
    have t7_4_0 := keep_cell (b := w4.heap.size) (o := 0) (v := .bool (onB (laterE (askH L D R S day h p) n (laterN day b h p n)) (decide (720 ≤ laterN day b h p n % 1440)))) hb (by first | omega | (simp; done) | (simp; omega)) (by first | assumption | exact cell_alloc_l _ (by assumption) | exact cell_alloc_l _ (cell_alloc_l _ (by assumption)) | simp [go_sem])
    have t7_4_1 := keep_cell (b := w4.heap.size) (o := 1) (v := .int .i64 (onOk (laterE (askH L D R S day h p) n (laterN day b h p n)) (laterN day b h p n % 1440 / 60 % 12))) hb (by first | omega | (simp; done) | (simp; omega)) (by first | assumption | exact cell_alloc_l _ (by assumption) | exact cell_alloc_l _ (cell_alloc_l _ (by assumption)) | simp [go_sem])
    have t7_4_2 := keep_cell (b := w4.heap.size) (o := 2) (v := .int .i64 (onOk (laterE (askH L D R S day h p) n (laterN day b h p n)) (laterN day b h p n % 60))) hb (by first | omega | (simp; done) | (simp; omega)) (by first | assumption | exact cell_alloc_l _ (by assumption) | exact cell_alloc_l _ (cell_alloc_l _ (by assumption)) | simp [go_sem])
    have t7_l5 := keep_lt (b := w5.heap.size) hb (by first | omega | (simp; done) | (simp; omega))
    have t7_5_0 := keep_cell (b := w5.heap.size) (o := 0) (v := .int .i64 (onOk (passE (askH L D R S day h p) (askH L D R S day' h' p') (momF L D R S day' b' (60 * h' + p') - momF L D R S day b (60 * h + p))) ((momF L D R S day' b' (60 * h' + p') - momF L D R S day b (60 * h + p)) / 720))) hb (by first | omega | (simp; done) | (simp; omega)) (by first | assumption | exact cell_alloc_l _ (by assumption) | exact cell_alloc_l _ (cell_alloc_l _ (by assumption)) | simp [go_sem])
    have t7_5_1 := keep_cell (b := w5.heap.size) (o := 1) (v := .int .i64 (onOk (passE (askH L D R S day h p) (askH L D R S day' h' p') (momF L D R S day' b' (60 * h' + p') - momF L D R S day b (60 * h + p))) (upF (momF L D R S day' b' (60 * h' + p') - momF L D R S day b (60 * h + p))))) hb (by first | omega | (simp; done) | (simp; omega)) (by first | assumption | exact cell_alloc_l _ (by assumption) | exact cell_alloc_l _ (cell_alloc_l _ (by assumption)) | simp [go_sem])
    have t7_l6 := keep_lt (b := w6.heap.size) hb (by first | omega | (simp; done) | (simp; omega))
    have t7_6_0 := keep_cell (b := w6.heap.size) (o := 0) (v := .int .i64 (onOk (passE (askH L D R S day h p) (askH L D R S day' h' p') (momF L D R S day' b' (60 * h' + p') - momF L D R S day b (60 * h + p))) ((momF L D R S day' b' (60 * h' + p') - momF L D R S day b (60 * h + p)) / 720))) hb (by first | omega | (simp; done) | (simp; omega)) (by first | assumption | exact cell_alloc_l _ (by assumption) | exact cell_alloc_l _ (cell_alloc_l _ (by assumption)) | simp [go_sem])
    have t7_6_1 := keep_cell (b := w6.heap.size) (o := 1) (v := .int .i64 (onOk (passE (askH L D R S day h p) (askH L D R S day' h' p') (momF L D R S day' b' (60 * h' + p') - momF L D R S day b (60 * h + p))) (upF (momF L D R S day' b' (60 * h' + p') - momF L D R S day b (60 * h + p))))) hb (by first | omega | (simp; done) | (simp; omega)) (by first | assumption | exact cell_alloc_l _ (by assumption) | exact cell_alloc_l _ (cell_alloc_l _ (by assumption)) | simp [go_sem])
    clear t6_0_0 t6_0_1 t6_0_2 t6_0_3 t6_l0 t6_1_0 t6_1_1 t6_1_2 t6_l1 t6_2_0 t6_2_1 t6_2_2 t6_l2 t6_3_0 t6_3_1 t6_3_2 t6_l3 t6_4_0 t6_4_1 t6_4_2 t6_l4 t6_5_0 t6_5_1 t6_l5
    clear hb
    go_wp2_with fail
    refine (rLongest_any _ (HS.out.to HB7.out)).mono ?_
    rintro e w8 ⟨rfl, hb⟩
    have HB8 := Lib.hid (bjoin (w := w) HB7.out hb)
    have t8_l0 := keep_lt (b := w.heap.size) hb (by first | omega | (simp; done) | (simp; omega))
    have t8_0_0 := keep_cell (b := w.heap.size) (o := 0) (v := .int .i64 L) hb (by first | omega | (simp; done) | (simp; omega)) (by first | assumption | exact cell_alloc_l _ (by assumption) | exact cell_alloc_l _ (cell_alloc_l _ (by assumption)) | simp [go_sem])
    have t8_0_1 := keep_cell (b := w.heap.size) (o := 1) (v := .slice a1 n1 c1) hb (by first | omega | (simp; done) | (simp; omega)) (by first | assumption | exact cell_alloc_l _ (by assumption) | exact cell_alloc_l _ (cell_alloc_l _ (by assumption)) | simp [go_sem])
    have t8_0_2 := keep_cell (b := w.heap.size) (o := 2) (v := .slice a2 n2 c2) hb (by first | omega | (simp; done) | (simp; omega)) (by first | assumption | exact cell_alloc_l _ (by assumption) | exact cell_alloc_l _ (cell_alloc_l _ (by assumption)) | simp [go_sem])
    have t8_0_3 := keep_cell (b := w.heap.size) (o := 3) (v := .slice a3 n3 c3) hb (by first | omega | (simp; done) | (simp; omega)) (by first | assumption | exact cell_alloc_l _ (by assumption) | exact cell_alloc_l _ (cell_alloc_l _ (by assumption)) | simp [go_sem])
    have t8_l1 := keep_lt (b := w.heap.size + 1) hb (by first | omega | (simp; done) | (simp; omega))
    have t8_1_0 := keep_cell (b := w.heap.size + 1) (o := 0) (v := .bool b) hb (by first | omega | (simp; done) | (simp; omega)) (by first | assumption | exact cell_alloc_l _ (by assumption) | exact cell_alloc_l _ (cell_alloc_l _ (by assumption)) | simp [go_sem])
    have t8_1_1 := keep_cell (b := w.heap.size + 1) (o := 1) (v := .int .i64 h) hb (by first | omega | (simp; done) | (simp; omega)) (by first | assumption | exact cell_alloc_l _ (by assumption) | exact cell_alloc_l _ (cell_alloc_l _ (by assumption)) | simp [go_sem])
    have t8_1_2 := keep_cell (b := w.heap.size + 1) (o := 2) (v := .int .i64 p) hb (by first | omega | (simp; done) | (simp; omega)) (by first | assumption | exact cell_alloc_l _ (by assumption) | exact cell_alloc_l _ (cell_alloc_l _ (by assumption)) | simp [go_sem])
    have t8_l2 := keep_lt (b := w.heap.size + 1 + 1) hb (by first | omega | (simp; done) | (simp; omega))
    have t8_2_0 := keep_cell (b := w.heap.size + 1 + 1) (o := 0) (v := .bool b') hb (by first | omega | (simp; done) | (simp; omega)) (by first | assumption | exact cell_alloc_l _ (by assumption) | exact cell_alloc_l _ (cell_alloc_l _ (by assumption)) | simp [go_sem])
    have t8_2_1 := keep_cell (b := w.heap.size + 1 + 1) (o := 1) (v := .int .i64 h') hb (by first | omega | (simp; done) | (simp; omega)) (by first | assumption | exact cell_alloc_l _ (by assumption) | exact cell_alloc_l _ (cell_alloc_l _ (by assumption)) | simp [go_sem])
    have t8_2_2 := keep_cell (b := w.heap.size + 1 + 1) (o := 2) (v := .int .i64 p') hb (by first | omega | (simp; done) | (simp; omega)) (by first | assumption | exact cell_alloc_l _ (by assumption) | exact cell_alloc_l _ (cell_alloc_l _ (by assumption)) | simp [go_sem])
    have t8_l3 := keep_lt (b := w3.heap.size) hb (by first | omega | (simp; done) | (simp; omega))
    have t8_3_0 := keep_cell (b := w3.heap.size) (o := 0) (v := .bool (onB (laterE (askH L D R S day h p) n (laterN day b h p n)) (decide (720 ≤ laterN day b h p n % 1440)))) hb (by first | omega | (simp; done) | (simp; omega)) (by first | assumption | exact cell_alloc_l _ (by assumption) | exact cell_alloc_l _ (cell_alloc_l _ (by assumption)) | simp [go_sem])
    have t8_3_1 := keep_cell (b := w3.heap.size) (o := 1) (v := .int .i64 (onOk (laterE (askH L D R S day h p) n (laterN day b h p n)) (laterN day b h p n % 1440 / 60 % 12))) hb (by first | omega | (simp; done) | (simp; omega)) (by first | assumption | exact cell_alloc_l _ (by assumption) | exact cell_alloc_l _ (cell_alloc_l _ (by assumption)) | simp [go_sem])
    have t8_3_2 := keep_cell (b := w3.heap.size) (o := 2) (v := .int .i64 (onOk (laterE (askH L D R S day h p) n (laterN day b h p n)) (laterN day b h p n % 60))) hb (by first | omega | (simp; done) | (simp; omega)) (by first | assumption | exact cell_alloc_l _ (by assumption) | exact cell_alloc_l _ (cell_alloc_l _ (by assumption)) | simp [go_sem])
    have t8_l4 := keep_lt (b := w4.heap.size) hb (by first | omega | (simp; done) | (simp; omega))
    have t8_4_0 := keep_cell (b := w4.heap.size) (o := 0) (v := .bool (onB (laterE (askH L D R S day h p) n (laterN day b h p n)) (decide (720 ≤ laterN day b h p n % 1440)))) hb (by first | omega | (simp; done) | (simp; omega)) (by first | assumption | exact cell_alloc_l _ (by assumption) | exact cell_alloc_l _ (cell_alloc_l _ (by assumption)) | simp [go_sem])
    have t8_4_1 := keep_cell (b := w4.heap.size) (o := 1) (v := .int .i64 (onOk (laterE (askH L D R S day h p) n (laterN day b h p n)) (laterN day b h p n % 1440 / 60 % 12))) hb (by first | omega | (simp; done) | (simp; omega)) (by first | assumption | exact cell_alloc_l _ (by assumption) | exact cell_alloc_l _ (cell_alloc_l _ (by assumption)) | simp [go_sem])
    have t8_4_2 := keep_cell (b := w4.heap.size) (o := 2) (v := .int .i64 (onOk (laterE (askH L D R S day h p) n (laterN day b h p n)) (laterN day b h p n % 60))) hb (by first | omega | (simp; done) | (simp; omega)) (by first | assumption | exact cell_alloc_l _ (by assumption) | exact cell_alloc_l _ (cell_alloc_l _ (by assumption)) | simp [go_sem])
    have t8_l5 := keep_lt (b := w5.heap.size) hb (by first | omega | (simp; done) | (simp; omega))
    have t8_5_0 := keep_cell (b := w5.heap.size) (o := 0) (v := .int .i64 (onOk (passE (askH L D R S day h p) (askH L D R S day' h' p') (momF L D R S day' b' (60 * h' + p') - momF L D R S day b (60 * h + p))) ((momF L D R S day' b' (60 * h' + p') - momF L D R S day b (60 * h + p)) / 720))) hb (by first | omega | (simp; done) | (simp; omega)) (by first | assumption | exact cell_alloc_l _ (by assumption) | exact cell_alloc_l _ (cell_alloc_l _ (by assumption)) | simp [go_sem])
    have t8_5_1 := keep_cell (b := w5.heap.size) (o := 1) (v := .int .i64 (onOk (passE (askH L D R S day h p) (askH L D R S day' h' p') (momF L D R S day' b' (60 * h' + p') - momF L D R S day b (60 * h + p))) (upF (momF L D R S day' b' (60 * h' + p') - momF L D R S day b (60 * h + p))))) hb (by first | omega | (simp; done) | (simp; omega)) (by first | assumption | exact cell_alloc_l _ (by assumption) | exact cell_alloc_l _ (cell_alloc_l _ (by assumption)) | simp [go_sem])
    have t8_l6 := keep_lt (b := w6.heap.size) hb (by first | omega | (simp; done) | (simp; omega))
    have t8_6_0 := keep_cell (b := w6.heap.size) (o := 0) (v := .int .i64 (onOk (passE (askH L D R S day h p) (askH L D R S day' h' p') (momF L D R S day' b' (60 * h' + p') - momF L D R S day b (60 * h + p))) ((momF L D R S day' b' (60 * h' + p') - momF L D R S day b (60 * h + p)) / 720))) hb (by first | omega | (simp; done) | (simp; omega)) (by first | assumption | exact cell_alloc_l _ (by assumption) | exact cell_alloc_l _ (cell_alloc_l _ (by assumption)) | simp [go_sem])
    have t8_6_1 := keep_cell (b := w6.heap.size) (o := 1) (v := .int .i64 (onOk (passE (askH L D R S day h p) (askH L D R S day' h' p') (momF L D R S day' b' (60 * h' + p') - momF L D R S day b (60 * h + p))) (upF (momF L D R S day' b' (60 * h' + p') - momF L D R S day b (60 * h + p))))) hb (by first | omega | (simp; done) | (simp; omega)) (by first | assumption | exact cell_alloc_l _ (by assumption) | exact cell_alloc_l _ (cell_alloc_l _ (by assumption)) | simp [go_sem])
    clear t7_0_0 t7_0_1 t7_0_2 t7_0_3 t7_l0 t7_1_0 t7_1_1 t7_1_2 t7_l1 t7_2_0 t7_2_1 t7_2_2 t7_l2 t7_3_0 t7_3_1 t7_3_2 t7_l3 t7_4_0 t7_4_1 t7_4_2 t7_l4 t7_5_0 t7_5_1 t7_l5 t7_6_0 t7_6_1 t7_l6
    clear hb
    go_wp2_with fail
    go_ret
    exact ⟨rfl, HB8.out⟩

end Go.Proofs.YtomlfliebolkmaaDoor
