/-
  HoursLight, walked. No condition.
-/
import Derived.Test.YtomlfliebolkmaaDoorCJ
set_option linter.unusedVariables false
set_option linter.unusedSimpArgs false
namespace Go.Proofs.YtomlfliebolkmaaDoor
open Go Go.Proofs Go.RowKit Pl
theorem seaO_of {w : World} {a1 a2 a3 : Option Addr} {n1 n2 n3 : Nat} {D R S : List Int} (hD : LstO w a1 n1 D) (hR : LstO w a2 n2 R) (hS : LstO w a3 n3 S) (hf : fewB n1 n2 n3 = true) : SeaO w a1 n1 a2 n2 a3 n3 D R S := by
  unfold fewB at hf
  simp at hf
  exact ⟨hD, hR, hS, by omega, by omega, by omega⟩

set_option maxRecDepth 100000 in
set_option maxHeartbeats 20000000 in
theorem Light_any {L : Int} {n1 n2 n3 c1 c2 c3 : Nat} {a1 a2 a3 : Option Addr} {D R S : List Int} (day : Int) (night : Bool) (w : World) (hD : LstO w a1 n1 D) (hR : LstO w a2 n2 R) (hS : LstO w a3 n3 S) :
   Calls Tryd.prog 3 #[.agg #[.int .i64 L, .slice a1 n1 c1, .slice a2 n2 c2, .slice a3 n3 c3], .int .i64 day, .bool night] w fun e w' => e = .returned (.bool true) ∧ Below w.heap.size w w' := by
  cases hf : fewB n1 n2 n3
  · clear hD hR hS
    go_enter Tryd.func3, Tryd.ntmps3
    go_wp2_with fail
    refine (sane_any _).mono ?_
    rintro e w1 ⟨rfl, hb⟩
    have HB1 := Lib.hid (bjoin (w := w) ((Below.refl w.heap.size w).alloc (by first | (simp; done) | (have := (Below.refl w.heap.size w).size; simp; omega) | (have := (Below.refl w.heap.size w).size; omega)) _) hb)
    have t1_l0 := keep_lt (b := w.heap.size) hb (by first | omega | (simp; done) | (simp; omega))
    have t1_0_0 := keep_cell (b := w.heap.size) (o := 0) (v := .int .i64 L) hb (by first | omega | (simp; done) | (simp; omega)) (by first | assumption | exact cell_alloc_l _ (by assumption) | exact cell_alloc_l _ (cell_alloc_l _ (by assumption)) | simp [go_sem])
    have t1_0_1 := keep_cell (b := w.heap.size) (o := 1) (v := .slice a1 n1 c1) hb (by first | omega | (simp; done) | (simp; omega)) (by first | assumption | exact cell_alloc_l _ (by assumption) | exact cell_alloc_l _ (cell_alloc_l _ (by assumption)) | simp [go_sem])
    have t1_0_2 := keep_cell (b := w.heap.size) (o := 2) (v := .slice a2 n2 c2) hb (by first | omega | (simp; done) | (simp; omega)) (by first | assumption | exact cell_alloc_l _ (by assumption) | exact cell_alloc_l _ (cell_alloc_l _ (by assumption)) | simp [go_sem])
    have t1_0_3 := keep_cell (b := w.heap.size) (o := 3) (v := .slice a3 n3 c3) hb (by first | omega | (simp; done) | (simp; omega)) (by first | assumption | exact cell_alloc_l _ (by assumption) | exact cell_alloc_l _ (cell_alloc_l _ (by assumption)) | simp [go_sem])
    clear hb
    go_wp2_with fail
    refine (few_any _).mono ?_
    rintro e w2 ⟨rfl, hb⟩
    have HB2 := Lib.hid (bjoin (w := w) HB1.out hb)
    have t2_l0 := keep_lt (b := w.heap.size) hb (by first | omega | (simp; done) | (simp; omega))
    have t2_0_0 := keep_cell (b := w.heap.size) (o := 0) (v := .int .i64 L) hb (by first | omega | (simp; done) | (simp; omega)) (by first | assumption | exact cell_alloc_l _ (by assumption) | exact cell_alloc_l _ (cell_alloc_l _ (by assumption)) | simp [go_sem])
    have t2_0_1 := keep_cell (b := w.heap.size) (o := 1) (v := .slice a1 n1 c1) hb (by first | omega | (simp; done) | (simp; omega)) (by first | assumption | exact cell_alloc_l _ (by assumption) | exact cell_alloc_l _ (cell_alloc_l _ (by assumption)) | simp [go_sem])
    have t2_0_2 := keep_cell (b := w.heap.size) (o := 2) (v := .slice a2 n2 c2) hb (by first | omega | (simp; done) | (simp; omega)) (by first | assumption | exact cell_alloc_l _ (by assumption) | exact cell_alloc_l _ (cell_alloc_l _ (by assumption)) | simp [go_sem])
    have t2_0_3 := keep_cell (b := w.heap.size) (o := 3) (v := .slice a3 n3 c3) hb (by first | omega | (simp; done) | (simp; omega)) (by first | assumption | exact cell_alloc_l _ (by assumption) | exact cell_alloc_l _ (cell_alloc_l _ (by assumption)) | simp [go_sem])
    clear t1_0_0 t1_0_1 t1_0_2 t1_0_3 t1_l0
    clear hb
    rw [hf]
    go_wp2_with fail
    go_ret
    exact ⟨rfl, HB2.out⟩
  · have hs := seaO_of hD hR hS hf
    have HS := Lib.hid hs; clear hs hD hR hS
    go_enter Tryd.func3, Tryd.ntmps3
    go_wp2_with fail
    refine (sane_any _).mono ?_
    rintro e w1 ⟨rfl, hb⟩
    have HB1 := Lib.hid (bjoin (w := w) ((Below.refl w.heap.size w).alloc (by first | (simp; done) | (have := (Below.refl w.heap.size w).size; simp; omega) | (have := (Below.refl w.heap.size w).size; omega)) _) hb)
    have t1_l0 := keep_lt (b := w.heap.size) hb (by first | omega | (simp; done) | (simp; omega))
    have t1_0_0 := keep_cell (b := w.heap.size) (o := 0) (v := .int .i64 L) hb (by first | omega | (simp; done) | (simp; omega)) (by first | assumption | exact cell_alloc_l _ (by assumption) | exact cell_alloc_l _ (cell_alloc_l _ (by assumption)) | simp [go_sem])
    have t1_0_1 := keep_cell (b := w.heap.size) (o := 1) (v := .slice a1 n1 c1) hb (by first | omega | (simp; done) | (simp; omega)) (by first | assumption | exact cell_alloc_l _ (by assumption) | exact cell_alloc_l _ (cell_alloc_l _ (by assumption)) | simp [go_sem])
    have t1_0_2 := keep_cell (b := w.heap.size) (o := 2) (v := .slice a2 n2 c2) hb (by first | omega | (simp; done) | (simp; omega)) (by first | assumption | exact cell_alloc_l _ (by assumption) | exact cell_alloc_l _ (cell_alloc_l _ (by assumption)) | simp [go_sem])
    have t1_0_3 := keep_cell (b := w.heap.size) (o := 3) (v := .slice a3 n3 c3) hb (by first | omega | (simp; done) | (simp; omega)) (by first | assumption | exact cell_alloc_l _ (by assumption) | exact cell_alloc_l _ (cell_alloc_l _ (by assumption)) | simp [go_sem])
    clear hb
    go_wp2_with fail
    refine (few_any _).mono ?_
    rintro e w2 ⟨rfl, hb⟩
    have HB2 := Lib.hid (bjoin (w := w) HB1.out hb)
    have t2_l0 := keep_lt (b := w.heap.size) hb (by first | omega | (simp; done) | (simp; omega))
    have t2_0_0 := keep_cell (b := w.heap.size) (o := 0) (v := .int .i64 L) hb (by first | omega | (simp; done) | (simp; omega)) (by first | assumption | exact cell_alloc_l _ (by assumption) | exact cell_alloc_l _ (cell_alloc_l _ (by assumption)) | simp [go_sem])
    have t2_0_1 := keep_cell (b := w.heap.size) (o := 1) (v := .slice a1 n1 c1) hb (by first | omega | (simp; done) | (simp; omega)) (by first | assumption | exact cell_alloc_l _ (by assumption) | exact cell_alloc_l _ (cell_alloc_l _ (by assumption)) | simp [go_sem])
    have t2_0_2 := keep_cell (b := w.heap.size) (o := 2) (v := .slice a2 n2 c2) hb (by first | omega | (simp; done) | (simp; omega)) (by first | assumption | exact cell_alloc_l _ (by assumption) | exact cell_alloc_l _ (cell_alloc_l _ (by assumption)) | simp [go_sem])
    have t2_0_3 := keep_cell (b := w.heap.size) (o := 3) (v := .slice a3 n3 c3) hb (by first | omega | (simp; done) | (simp; omega)) (by first | assumption | exact cell_alloc_l _ (by assumption) | exact cell_alloc_l _ (cell_alloc_l _ (by assumption)) | simp [go_sem])
    clear t1_0_0 t1_0_1 t1_0_2 t1_0_3 t1_l0
    clear hb
    rw [hf]
    go_wp2_with fail
    refine (Rise_any day _ (HS.out.to HB2.out)).mono ?_
    rintro e w3 ⟨rfl, hb⟩
    have HB3 := Lib.hid (bjoin (w := w) HB2.out hb)
    have t3_l0 := keep_lt (b := w.heap.size) hb (by first | omega | (simp; done) | (simp; omega))
    have t3_0_0 := keep_cell (b := w.heap.size) (o := 0) (v := .int .i64 L) hb (by first | omega | (simp; done) | (simp; omega)) (by first | assumption | exact cell_alloc_l _ (by assumption) | exact cell_alloc_l _ (cell_alloc_l _ (by assumption)) | simp [go_sem])
    have t3_0_1 := keep_cell (b := w.heap.size) (o := 1) (v := .slice a1 n1 c1) hb (by first | omega | (simp; done) | (simp; omega)) (by first | assumption | exact cell_alloc_l _ (by assumption) | exact cell_alloc_l _ (cell_alloc_l _ (by assumption)) | simp [go_sem])
    have t3_0_2 := keep_cell (b := w.heap.size) (o := 2) (v := .slice a2 n2 c2) hb (by first | omega | (simp; done) | (simp; omega)) (by first | assumption | exact cell_alloc_l _ (by assumption) | exact cell_alloc_l _ (cell_alloc_l _ (by assumption)) | simp [go_sem])
    have t3_0_3 := keep_cell (b := w.heap.size) (o := 3) (v := .slice a3 n3 c3) hb (by first | omega | (simp; done) | (simp; omega)) (by first | assumption | exact cell_alloc_l _ (by assumption) | exact cell_alloc_l _ (cell_alloc_l _ (by assumption)) | simp [go_sem])
    clear t2_0_0 t2_0_1 t2_0_2 t2_0_3 t2_l0
    clear hb
    go_wp2_with fail
    refine (rRise_any day _ (HS.out.to HB3.out)).mono ?_
    rintro e w4 ⟨rfl, hb⟩
    have HB4 := Lib.hid (bjoin (w := w) HB3.out hb)
    have t4_l0 := keep_lt (b := w.heap.size) hb (by first | omega | (simp; done) | (simp; omega))
    have t4_0_0 := keep_cell (b := w.heap.size) (o := 0) (v := .int .i64 L) hb (by first | omega | (simp; done) | (simp; omega)) (by first | assumption | exact cell_alloc_l _ (by assumption) | exact cell_alloc_l _ (cell_alloc_l _ (by assumption)) | simp [go_sem])
    have t4_0_1 := keep_cell (b := w.heap.size) (o := 1) (v := .slice a1 n1 c1) hb (by first | omega | (simp; done) | (simp; omega)) (by first | assumption | exact cell_alloc_l _ (by assumption) | exact cell_alloc_l _ (cell_alloc_l _ (by assumption)) | simp [go_sem])
    have t4_0_2 := keep_cell (b := w.heap.size) (o := 2) (v := .slice a2 n2 c2) hb (by first | omega | (simp; done) | (simp; omega)) (by first | assumption | exact cell_alloc_l _ (by assumption) | exact cell_alloc_l _ (cell_alloc_l _ (by assumption)) | simp [go_sem])
    have t4_0_3 := keep_cell (b := w.heap.size) (o := 3) (v := .slice a3 n3 c3) hb (by first | omega | (simp; done) | (simp; omega)) (by first | assumption | exact cell_alloc_l _ (by assumption) | exact cell_alloc_l _ (cell_alloc_l _ (by assumption)) | simp [go_sem])
    clear t3_0_0 t3_0_1 t3_0_2 t3_0_3 t3_l0
    clear hb
    go_wp2_with fail
    refine (Set_any day _ (HS.out.to HB4.out)).mono ?_
    rintro e w5 ⟨rfl, hb⟩
    have HB5 := Lib.hid (bjoin (w := w) HB4.out hb)
    have t5_l0 := keep_lt (b := w.heap.size) hb (by first | omega | (simp; done) | (simp; omega))
    have t5_0_0 := keep_cell (b := w.heap.size) (o := 0) (v := .int .i64 L) hb (by first | omega | (simp; done) | (simp; omega)) (by first | assumption | exact cell_alloc_l _ (by assumption) | exact cell_alloc_l _ (cell_alloc_l _ (by assumption)) | simp [go_sem])
    have t5_0_1 := keep_cell (b := w.heap.size) (o := 1) (v := .slice a1 n1 c1) hb (by first | omega | (simp; done) | (simp; omega)) (by first | assumption | exact cell_alloc_l _ (by assumption) | exact cell_alloc_l _ (cell_alloc_l _ (by assumption)) | simp [go_sem])
    have t5_0_2 := keep_cell (b := w.heap.size) (o := 2) (v := .slice a2 n2 c2) hb (by first | omega | (simp; done) | (simp; omega)) (by first | assumption | exact cell_alloc_l _ (by assumption) | exact cell_alloc_l _ (cell_alloc_l _ (by assumption)) | simp [go_sem])
    have t5_0_3 := keep_cell (b := w.heap.size) (o := 3) (v := .slice a3 n3 c3) hb (by first | omega | (simp; done) | (simp; omega)) (by first | assumption | exact cell_alloc_l _ (by assumption) | exact cell_alloc_l _ (cell_alloc_l _ (by assumption)) | simp [go_sem])
    clear t4_0_0 t4_0_1 t4_0_2 t4_0_3 t4_l0
    clear hb
    go_wp2_with fail
    refine (rSet_any day _ (HS.out.to HB5.out)).mono ?_
    rintro e w6 ⟨rfl, hb⟩
    have HB6 := Lib.hid (bjoin (w := w) HB5.out hb)
    have t6_l0 := keep_lt (b := w.heap.size) hb (by first | omega | (simp; done) | (simp; omega))
    have t6_0_0 := keep_cell (b := w.heap.size) (o := 0) (v := .int .i64 L) hb (by first | omega | (simp; done) | (simp; omega)) (by first | assumption | exact cell_alloc_l _ (by assumption) | exact cell_alloc_l _ (cell_alloc_l _ (by assumption)) | simp [go_sem])
    have t6_0_1 := keep_cell (b := w.heap.size) (o := 1) (v := .slice a1 n1 c1) hb (by first | omega | (simp; done) | (simp; omega)) (by first | assumption | exact cell_alloc_l _ (by assumption) | exact cell_alloc_l _ (cell_alloc_l _ (by assumption)) | simp [go_sem])
    have t6_0_2 := keep_cell (b := w.heap.size) (o := 2) (v := .slice a2 n2 c2) hb (by first | omega | (simp; done) | (simp; omega)) (by first | assumption | exact cell_alloc_l _ (by assumption) | exact cell_alloc_l _ (cell_alloc_l _ (by assumption)) | simp [go_sem])
    have t6_0_3 := keep_cell (b := w.heap.size) (o := 3) (v := .slice a3 n3 c3) hb (by first | omega | (simp; done) | (simp; omega)) (by first | assumption | exact cell_alloc_l _ (by assumption) | exact cell_alloc_l _ (cell_alloc_l _ (by assumption)) | simp [go_sem])
    clear t5_0_0 t5_0_1 t5_0_2 t5_0_3 t5_l0
    clear hb
    go_wp2_with fail
    refine (Length_any day night _ (HS.out.to HB6.out)).mono ?_
    rintro e w7 ⟨rfl, hb⟩
    have HB7 := Lib.hid (bjoin (w := w) HB6.out hb)
    have t7_l0 := keep_lt (b := w.heap.size) hb (by first | omega | (simp; done) | (simp; omega))
    have t7_0_0 := keep_cell (b := w.heap.size) (o := 0) (v := .int .i64 L) hb (by first | omega | (simp; done) | (simp; omega)) (by first | assumption | exact cell_alloc_l _ (by assumption) | exact cell_alloc_l _ (cell_alloc_l _ (by assumption)) | simp [go_sem])
    have t7_0_1 := keep_cell (b := w.heap.size) (o := 1) (v := .slice a1 n1 c1) hb (by first | omega | (simp; done) | (simp; omega)) (by first | assumption | exact cell_alloc_l _ (by assumption) | exact cell_alloc_l _ (cell_alloc_l _ (by assumption)) | simp [go_sem])
    have t7_0_2 := keep_cell (b := w.heap.size) (o := 2) (v := .slice a2 n2 c2) hb (by first | omega | (simp; done) | (simp; omega)) (by first | assumption | exact cell_alloc_l _ (by assumption) | exact cell_alloc_l _ (cell_alloc_l _ (by assumption)) | simp [go_sem])
    have t7_0_3 := keep_cell (b := w.heap.size) (o := 3) (v := .slice a3 n3 c3) hb (by first | omega | (simp; done) | (simp; omega)) (by first | assumption | exact cell_alloc_l _ (by assumption) | exact cell_alloc_l _ (cell_alloc_l _ (by assumption)) | simp [go_sem])
    clear t6_0_0 t6_0_1 t6_0_2 t6_0_3 t6_l0
    clear hb
    go_wp2_with fail
    refine (rLength_any day night _ (HS.out.to (HB7.out.alloc (by first | (simp; done) | (have := HB7.out.size; simp; omega) | (have := HB7.out.size; omega)) _))).mono ?_
    rintro e w8 ⟨rfl, hb⟩
    have HB8 := Lib.hid (bjoin (w := w) (HB7.out.alloc (by first | (simp; done) | (have := HB7.out.size; simp; omega) | (have := HB7.out.size; omega)) _) hb)
    have t8_l0 := keep_lt (b := w.heap.size) hb (by first | omega | (simp; done) | (simp; omega))
    have t8_0_0 := keep_cell (b := w.heap.size) (o := 0) (v := .int .i64 L) hb (by first | omega | (simp; done) | (simp; omega)) (by first | assumption | exact cell_alloc_l _ (by assumption) | exact cell_alloc_l _ (cell_alloc_l _ (by assumption)) | simp [go_sem])
    have t8_0_1 := keep_cell (b := w.heap.size) (o := 1) (v := .slice a1 n1 c1) hb (by first | omega | (simp; done) | (simp; omega)) (by first | assumption | exact cell_alloc_l _ (by assumption) | exact cell_alloc_l _ (cell_alloc_l _ (by assumption)) | simp [go_sem])
    have t8_0_2 := keep_cell (b := w.heap.size) (o := 2) (v := .slice a2 n2 c2) hb (by first | omega | (simp; done) | (simp; omega)) (by first | assumption | exact cell_alloc_l _ (by assumption) | exact cell_alloc_l _ (cell_alloc_l _ (by assumption)) | simp [go_sem])
    have t8_0_3 := keep_cell (b := w.heap.size) (o := 3) (v := .slice a3 n3 c3) hb (by first | omega | (simp; done) | (simp; omega)) (by first | assumption | exact cell_alloc_l _ (by assumption) | exact cell_alloc_l _ (cell_alloc_l _ (by assumption)) | simp [go_sem])
    have t8_l1 := keep_lt (b := w7.heap.size) hb (by first | omega | (simp; done) | (simp; omega))
    have t8_1_0 := keep_cell (b := w7.heap.size) (o := 0) (v := .int .i64 (onOk (askH L D R S day 0 0) (lastF L D R S day night / gF (lastF L D R S day night) 12))) hb (by first | omega | (simp; done) | (simp; omega)) (by first | assumption | exact cell_alloc_l _ (by assumption) | exact cell_alloc_l _ (cell_alloc_l _ (by assumption)) | simp [go_sem])
    have t8_1_1 := keep_cell (b := w7.heap.size) (o := 1) (v := .int .i64 (onOk (askH L D R S day 0 0) (12 / gF (lastF L D R S day night) 12))) hb (by first | omega | (simp; done) | (simp; omega)) (by first | assumption | exact cell_alloc_l _ (by assumption) | exact cell_alloc_l _ (cell_alloc_l _ (by assumption)) | simp [go_sem])
    clear t7_0_0 t7_0_1 t7_0_2 t7_0_3 t7_l0
    clear hb
    go_wp2_with fail
    obtain ⟨W0, hW0⟩ : ∃ W0, W0 = (w8.alloc (.cells #[.int .i64 (onOk (askH L D R S day 0 0) (lastF L D R S day night / gF (lastF L D R S day night) 12)), .int .i64 (onOk (askH L D R S day 0 0) (12 / gF (lastF L D R S day night) 12))] 31)) := ⟨_, rfl⟩
    have HBW := Lib.hid (show Below w.heap.size w W0 from hW0 ▸ (HB8.out.alloc (by first | (simp; done) | (have := HB8.out.size; simp; omega) | (have := HB8.out.size; omega)) _))
    have g_l0 : w.heap.size < W0.heap.size := by rw [hW0]; first | omega | (simp; done) | (simp; omega)
    have g_0_0 : W0.cell? ⟨w.heap.size, 0, none⟩ = some (.int .i64 L) := by rw [hW0]; first | assumption | exact cell_alloc_l _ (by assumption) | exact cell_alloc_l _ (cell_alloc_l _ (by assumption)) | simp [go_sem]
    have g_0_1 : W0.cell? ⟨w.heap.size, 1, none⟩ = some (.slice a1 n1 c1) := by rw [hW0]; first | assumption | exact cell_alloc_l _ (by assumption) | exact cell_alloc_l _ (cell_alloc_l _ (by assumption)) | simp [go_sem]
    have g_0_2 : W0.cell? ⟨w.heap.size, 2, none⟩ = some (.slice a2 n2 c2) := by rw [hW0]; first | assumption | exact cell_alloc_l _ (by assumption) | exact cell_alloc_l _ (cell_alloc_l _ (by assumption)) | simp [go_sem]
    have g_0_3 : W0.cell? ⟨w.heap.size, 3, none⟩ = some (.slice a3 n3 c3) := by rw [hW0]; first | assumption | exact cell_alloc_l _ (by assumption) | exact cell_alloc_l _ (cell_alloc_l _ (by assumption)) | simp [go_sem]
    have g_l1 : w7.heap.size < W0.heap.size := by rw [hW0]; first | omega | (simp; done) | (simp; omega)
    have g_1_0 : W0.cell? ⟨w7.heap.size, 0, none⟩ = some (.int .i64 (onOk (askH L D R S day 0 0) (lastF L D R S day night / gF (lastF L D R S day night) 12))) := by rw [hW0]; first | assumption | exact cell_alloc_l _ (by assumption) | exact cell_alloc_l _ (cell_alloc_l _ (by assumption)) | simp [go_sem]
    have g_1_1 : W0.cell? ⟨w7.heap.size, 1, none⟩ = some (.int .i64 (onOk (askH L D R S day 0 0) (12 / gF (lastF L D R S day night) 12))) := by rw [hW0]; first | assumption | exact cell_alloc_l _ (by assumption) | exact cell_alloc_l _ (cell_alloc_l _ (by assumption)) | simp [go_sem]
    have g_l2 : w8.heap.size < W0.heap.size := by rw [hW0]; first | omega | (simp; done) | (simp; omega)
    have g_2_0 : W0.cell? ⟨w8.heap.size, 0, none⟩ = some (.int .i64 (onOk (askH L D R S day 0 0) (lastF L D R S day night / gF (lastF L D R S day night) 12))) := by rw [hW0]; first | assumption | exact cell_alloc_l _ (by assumption) | exact cell_alloc_l _ (cell_alloc_l _ (by assumption)) | simp [go_sem]
    have g_2_1 : W0.cell? ⟨w8.heap.size, 1, none⟩ = some (.int .i64 (onOk (askH L D R S day 0 0) (12 / gF (lastF L D R S day night) 12))) := by rw [hW0]; first | assumption | exact cell_alloc_l _ (by assumption) | exact cell_alloc_l _ (cell_alloc_l _ (by assumption)) | simp [go_sem]
    clear t8_0_0 t8_0_1 t8_0_2 t8_0_3 t8_l0 t8_1_0 t8_1_1 t8_l1
    rw [← hW0]
    clear hW0
    have HQ := Lib.hid (show ∀ W', Below W0.heap.size W0 W' → W'.cell? ⟨w.heap.size, 0, none⟩ = some (.int .i64 L) ∧ W'.cell? ⟨w.heap.size, 1, none⟩ = some (.slice a1 n1 c1) ∧ W'.cell? ⟨w.heap.size, 2, none⟩ = some (.slice a2 n2 c2) ∧ W'.cell? ⟨w.heap.size, 3, none⟩ = some (.slice a3 n3 c3) ∧ W'.cell? ⟨w7.heap.size, 0, none⟩ = some (.int .i64 (onOk (askH L D R S day 0 0) (lastF L D R S day night / gF (lastF L D R S day night) 12))) ∧ W'.cell? ⟨w7.heap.size, 1, none⟩ = some (.int .i64 (onOk (askH L D R S day 0 0) (12 / gF (lastF L D R S day night) 12))) ∧ W'.cell? ⟨w8.heap.size, 0, none⟩ = some (.int .i64 (onOk (askH L D R S day 0 0) (lastF L D R S day night / gF (lastF L D R S day night) 12))) ∧ W'.cell? ⟨w8.heap.size, 1, none⟩ = some (.int .i64 (onOk (askH L D R S day 0 0) (12 / gF (lastF L D R S day night) 12))) ∧ Below W0.heap.size W0 W' from fun W' hBW => ⟨keep_cell hBW g_l0 g_0_0, keep_cell hBW g_l0 g_0_1, keep_cell hBW g_l0 g_0_2, keep_cell hBW g_l0 g_0_3, keep_cell hBW g_l1 g_1_0, keep_cell hBW g_l1 g_1_1, keep_cell hBW g_l2 g_2_0, keep_cell hBW g_l2 g_2_1, hBW⟩)
    go_region_held3 (fun W' => W'.cell? ⟨w.heap.size, 0, none⟩ = some (.int .i64 L) ∧ W'.cell? ⟨w.heap.size, 1, none⟩ = some (.slice a1 n1 c1) ∧ W'.cell? ⟨w.heap.size, 2, none⟩ = some (.slice a2 n2 c2) ∧ W'.cell? ⟨w.heap.size, 3, none⟩ = some (.slice a3 n3 c3) ∧ W'.cell? ⟨w7.heap.size, 0, none⟩ = some (.int .i64 (onOk (askH L D R S day 0 0) (lastF L D R S day night / gF (lastF L D R S day night) 12))) ∧ W'.cell? ⟨w7.heap.size, 1, none⟩ = some (.int .i64 (onOk (askH L D R S day 0 0) (12 / gF (lastF L D R S day night) 12))) ∧ W'.cell? ⟨w8.heap.size, 0, none⟩ = some (.int .i64 (onOk (askH L D R S day 0 0) (lastF L D R S day night / gF (lastF L D R S day night) 12))) ∧ W'.cell? ⟨w8.heap.size, 1, none⟩ = some (.int .i64 (onOk (askH L D R S day 0 0) (12 / gF (lastF L D R S day night) 12))) ∧ Below W0.heap.size W0 W') ((refine HQ.out _ ?_; first | exact (Below.refl _ _).drew | assumption)) (first | (go_at_call 26; obtain ⟨_, _, _, _, _, _, _, _, hBW⟩ := ‹_ ∧ _ ∧ _ ∧ _ ∧ _ ∧ _ ∧ _ ∧ _ ∧ Below W0.heap.size W0 _›; (with_reducible refine (check_any _ (HS.out.to (bjoin HBW.out hBW)).D (HS.out.to (bjoin HBW.out hBW)).R (HS.out.to (bjoin HBW.out hBW)).S HS.out.d HS.out.r HS.out.s).mono ?_); rintro e wn ⟨rfl, hbn⟩; have hBN := bjoin hBW hbn) | (go_at_call 27; obtain ⟨_, _, _, _, _, _, _, _, hBW⟩ := ‹_ ∧ _ ∧ _ ∧ _ ∧ _ ∧ _ ∧ _ ∧ _ ∧ Below W0.heap.size W0 _›; (with_reducible refine (rcheck_any _ (HS.out.to (bjoin HBW.out hBW)).D (HS.out.to (bjoin HBW.out hBW)).R (HS.out.to (bjoin HBW.out hBW)).S HS.out.d HS.out.r HS.out.s).mono ?_); rintro e wn ⟨rfl, hbn⟩; have hBN := bjoin hBW hbn))
    all_goals obtain ⟨_, _, _, _, _, _, _, _, hBZ⟩ := ‹_ ∧ _ ∧ _ ∧ _ ∧ _ ∧ _ ∧ _ ∧ _ ∧ Below W0.heap.size W0 _›
    all_goals have HZ := Lib.hid (bjoin HBW.out hBZ)
    all_goals clear hBZ
    all_goals go_wp2
    all_goals go_ret
    all_goals exact ⟨rfl, HZ.out⟩
end Go.Proofs.YtomlfliebolkmaaDoor
