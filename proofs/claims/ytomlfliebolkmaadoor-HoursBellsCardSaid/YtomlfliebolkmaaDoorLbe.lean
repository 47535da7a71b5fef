/-
  HoursBells: the law's own walk.
-/
import Derived.Test.YtomlfliebolkmaaDoorKj
set_option linter.unusedVariables false
set_option linter.unusedSimpArgs false
namespace Go.Proofs.YtomlfliebolkmaaDoor
open Go Go.Proofs Go.RowKit Pl

set_option maxRecDepth 100000 in
set_option maxHeartbeats 20000000 in
theorem BellsL_no {L : Int} {n1 n2 n3 c1 c2 c3 : Nat} {a1 a2 a3 : Option Addr} {D R S : List Int} (day : Int) (w : World) (hD : LstO w a1 n1 D) (hR : LstO w a2 n2 R) (hS : LstO w a3 n3 S) (hr : ∀ x : Int, (x = day + 2 ∨ ¬ (0 ≤ day ∧ day ≤ 11000)) → rightB L n1 n2 n3 D R S [day, x] true = false) :
   Calls Tryd.prog 17 #[.agg #[.int .i64 L, .slice a1 n1 c1, .slice a2 n2 c2, .slice a3 n3 c3], .int .i64 day] w fun e w' => e = .returned (.bool true) ∧ Below w.heap.size w w' := by
  have HD := Lib.hid hD; have HR := Lib.hid hR; have HS := Lib.hid hS
  have HRB := Lib.hid hr; clear hr hD hR hS
  by_cases hd : 0 ≤ day ∧ day ≤ 11000
  · have HRX := Lib.hid (HRB.out (day + 2) (.inl rfl))
    obtain ⟨d0, d1⟩ := hd
    clear HRB
    go_enter Tryd.func17, Tryd.ntmps17
    go_wp2_with fail
    refine (sane_any _).mono ?_
    rintro e w1 ⟨rfl, hb⟩
    have HB1 := Lib.hid (bjoin (w := w) (by have hb' := (Below.refl w.heap.size w); have hb'' := hb'.size; (repeat refine below_drewN ?_ _); go_grown) hb)
    have z1_0 := lt_id (b := w.heap.size) hb (by first | omega | (simp; done) | (simp; omega))
    have t1_l0 := keep_lt (b := w.heap.size) hb z1_0
    have t1_0_0 := keep_cell (b := w.heap.size) (o := 0) (v := .int .i64 L) hb z1_0 (by first | (with_reducible assumption) | (with_reducible exact cell_alloc_l _ (by assumption)) | (with_reducible exact cell_alloc_l _ (cell_alloc_l _ (by assumption))) | (simp [go_sem]; done) | assumption | exact cell_alloc_l _ (by assumption) | exact cell_alloc_l _ (cell_alloc_l _ (by assumption)) | (simp [go_sem, *]; done))
    have t1_0_1 := keep_cell (b := w.heap.size) (o := 1) (v := .slice a1 n1 c1) hb z1_0 (by first | (with_reducible assumption) | (with_reducible exact cell_alloc_l _ (by assumption)) | (with_reducible exact cell_alloc_l _ (cell_alloc_l _ (by assumption))) | (simp [go_sem]; done) | assumption | exact cell_alloc_l _ (by assumption) | exact cell_alloc_l _ (cell_alloc_l _ (by assumption)) | (simp [go_sem, *]; done))
    have t1_0_2 := keep_cell (b := w.heap.size) (o := 2) (v := .slice a2 n2 c2) hb z1_0 (by first | (with_reducible assumption) | (with_reducible exact cell_alloc_l _ (by assumption)) | (with_reducible exact cell_alloc_l _ (cell_alloc_l _ (by assumption))) | (simp [go_sem]; done) | assumption | exact cell_alloc_l _ (by assumption) | exact cell_alloc_l _ (cell_alloc_l _ (by assumption)) | (simp [go_sem, *]; done))
    have t1_0_3 := keep_cell (b := w.heap.size) (o := 3) (v := .slice a3 n3 c3) hb z1_0 (by first | (with_reducible assumption) | (with_reducible exact cell_alloc_l _ (by assumption)) | (with_reducible exact cell_alloc_l _ (cell_alloc_l _ (by assumption))) | (simp [go_sem]; done) | assumption | exact cell_alloc_l _ (by assumption) | exact cell_alloc_l _ (cell_alloc_l _ (by assumption)) | (simp [go_sem, *]; done))
    clear z1_0
    clear hb
    go_wp2_with fail
    refine (right0_any (days := [day, day + 2]) _ (HD.out.to (by have hb' := HB1.out; have hb'' := hb'.size; (repeat refine below_drewN ?_ _); go_grown)) (HR.out.to (by have hb' := HB1.out; have hb'' := hb'.size; (repeat refine below_drewN ?_ _); go_grown)) (HS.out.to (by have hb' := HB1.out; have hb'' := hb'.size; (repeat refine below_drewN ?_ _); go_grown)) (lst2 (b := w1.heap.size) (by simp [go_sem]) (by simp [go_sem]) (by first | (simp; done) | (simp; omega))) (by omega)).mono ?_
    rintro e w2 ⟨rfl, hb⟩
    have HB2 := Lib.hid (bjoin (w := w) (by have hb' := HB1.out; have hb'' := hb'.size; (repeat refine below_drewN ?_ _); go_grown) hb)
    have z2_0 := lt_id (b := w.heap.size) hb (by first | omega | (simp; done) | (simp; omega))
    have t2_l0 := keep_lt (b := w.heap.size) hb z2_0
    have t2_0_0 := keep_cell (b := w.heap.size) (o := 0) (v := .int .i64 L) hb z2_0 (by first | (with_reducible assumption) | (with_reducible exact cell_alloc_l _ (by assumption)) | (with_reducible exact cell_alloc_l _ (cell_alloc_l _ (by assumption))) | (simp [go_sem]; done) | assumption | exact cell_alloc_l _ (by assumption) | exact cell_alloc_l _ (cell_alloc_l _ (by assumption)) | (simp [go_sem, *]; done))
    have t2_0_1 := keep_cell (b := w.heap.size) (o := 1) (v := .slice a1 n1 c1) hb z2_0 (by first | (with_reducible assumption) | (with_reducible exact cell_alloc_l _ (by assumption)) | (with_reducible exact cell_alloc_l _ (cell_alloc_l _ (by assumption))) | (simp [go_sem]; done) | assumption | exact cell_alloc_l _ (by assumption) | exact cell_alloc_l _ (cell_alloc_l _ (by assumption)) | (simp [go_sem, *]; done))
    have t2_0_2 := keep_cell (b := w.heap.size) (o := 2) (v := .slice a2 n2 c2) hb z2_0 (by first | (with_reducible assumption) | (with_reducible exact cell_alloc_l _ (by assumption)) | (with_reducible exact cell_alloc_l _ (cell_alloc_l _ (by assumption))) | (simp [go_sem]; done) | assumption | exact cell_alloc_l _ (by assumption) | exact cell_alloc_l _ (cell_alloc_l _ (by assumption)) | (simp [go_sem, *]; done))
    have t2_0_3 := keep_cell (b := w.heap.size) (o := 3) (v := .slice a3 n3 c3) hb z2_0 (by first | (with_reducible assumption) | (with_reducible exact cell_alloc_l _ (by assumption)) | (with_reducible exact cell_alloc_l _ (cell_alloc_l _ (by assumption))) | (simp [go_sem]; done) | assumption | exact cell_alloc_l _ (by assumption) | exact cell_alloc_l _ (cell_alloc_l _ (by assumption)) | (simp [go_sem, *]; done))
    have z2_1 := lt_id (b := w1.heap.size) hb (by first | omega | (simp; done) | (simp; omega))
    have t2_l1 := keep_lt (b := w1.heap.size) hb z2_1
    have t2_1_0 := keep_cell (b := w1.heap.size) (o := 0) (v := .int .i64 (day)) hb z2_1 (by first | (with_reducible assumption) | (with_reducible exact cell_alloc_l _ (by assumption)) | (with_reducible exact cell_alloc_l _ (cell_alloc_l _ (by assumption))) | (simp [go_sem]; done) | assumption | exact cell_alloc_l _ (by assumption) | exact cell_alloc_l _ (cell_alloc_l _ (by assumption)) | (simp [go_sem, *]; done))
    have t2_1_1 := keep_cell (b := w1.heap.size) (o := 1) (v := .int .i64 (day + 2)) hb z2_1 (by first | (with_reducible assumption) | (with_reducible exact cell_alloc_l _ (by assumption)) | (with_reducible exact cell_alloc_l _ (cell_alloc_l _ (by assumption))) | (simp [go_sem]; done) | assumption | exact cell_alloc_l _ (by assumption) | exact cell_alloc_l _ (cell_alloc_l _ (by assumption)) | (simp [go_sem, *]; done))
    clear z2_0 z2_1
    clear t1_0_0 t1_0_1 t1_0_2 t1_0_3 t1_l0
    clear hb
    clear t2_1_0 t2_1_1 t2_l1
    rw [HRX.out]
    go_wp2_with fail
    go_ret
    exact ⟨rfl, by have hb' := HB2.out; have hb'' := hb'.size; go_grown⟩
  · have HRX := Lib.hid (fun x : Int => HRB.out x (.inr hd))
    clear HRB hd
    go_enter Tryd.func17, Tryd.ntmps17
    go_wp2_with fail
    refine (sane_any _).mono ?_
    rintro e w1 ⟨rfl, hb⟩
    have HB1 := Lib.hid (bjoin (w := w) (by have hb' := (Below.refl w.heap.size w); have hb'' := hb'.size; (repeat refine below_drewN ?_ _); go_grown) hb)
    have z1_0 := lt_id (b := w.heap.size) hb (by first | omega | (simp; done) | (simp; omega))
    have t1_l0 := keep_lt (b := w.heap.size) hb z1_0
    have t1_0_0 := keep_cell (b := w.heap.size) (o := 0) (v := .int .i64 L) hb z1_0 (by first | (with_reducible assumption) | (with_reducible exact cell_alloc_l _ (by assumption)) | (with_reducible exact cell_alloc_l _ (cell_alloc_l _ (by assumption))) | (simp [go_sem]; done) | assumption | exact cell_alloc_l _ (by assumption) | exact cell_alloc_l _ (cell_alloc_l _ (by assumption)) | (simp [go_sem, *]; done))
    have t1_0_1 := keep_cell (b := w.heap.size) (o := 1) (v := .slice a1 n1 c1) hb z1_0 (by first | (with_reducible assumption) | (with_reducible exact cell_alloc_l _ (by assumption)) | (with_reducible exact cell_alloc_l _ (cell_alloc_l _ (by assumption))) | (simp [go_sem]; done) | assumption | exact cell_alloc_l _ (by assumption) | exact cell_alloc_l _ (cell_alloc_l _ (by assumption)) | (simp [go_sem, *]; done))
    have t1_0_2 := keep_cell (b := w.heap.size) (o := 2) (v := .slice a2 n2 c2) hb z1_0 (by first | (with_reducible assumption) | (with_reducible exact cell_alloc_l _ (by assumption)) | (with_reducible exact cell_alloc_l _ (cell_alloc_l _ (by assumption))) | (simp [go_sem]; done) | assumption | exact cell_alloc_l _ (by assumption) | exact cell_alloc_l _ (cell_alloc_l _ (by assumption)) | (simp [go_sem, *]; done))
    have t1_0_3 := keep_cell (b := w.heap.size) (o := 3) (v := .slice a3 n3 c3) hb z1_0 (by first | (with_reducible assumption) | (with_reducible exact cell_alloc_l _ (by assumption)) | (with_reducible exact cell_alloc_l _ (cell_alloc_l _ (by assumption))) | (simp [go_sem]; done) | assumption | exact cell_alloc_l _ (by assumption) | exact cell_alloc_l _ (cell_alloc_l _ (by assumption)) | (simp [go_sem, *]; done))
    clear z1_0
    clear hb
    go_wp2_with fail
    refine (right0_any (days := [day, wrap64 (day + 2)]) _ (HD.out.to (by have hb' := HB1.out; have hb'' := hb'.size; (repeat refine below_drewN ?_ _); go_grown)) (HR.out.to (by have hb' := HB1.out; have hb'' := hb'.size; (repeat refine below_drewN ?_ _); go_grown)) (HS.out.to (by have hb' := HB1.out; have hb'' := hb'.size; (repeat refine below_drewN ?_ _); go_grown)) (lst2 (b := w1.heap.size) (by simp [go_sem]) (by simp [go_sem]) (by first | (simp; done) | (simp; omega))) (by omega)).mono ?_
    rintro e w2 ⟨rfl, hb⟩
    have HB2 := Lib.hid (bjoin (w := w) (by have hb' := HB1.out; have hb'' := hb'.size; (repeat refine below_drewN ?_ _); go_grown) hb)
    have z2_0 := lt_id (b := w.heap.size) hb (by first | omega | (simp; done) | (simp; omega))
    have t2_l0 := keep_lt (b := w.heap.size) hb z2_0
    have t2_0_0 := keep_cell (b := w.heap.size) (o := 0) (v := .int .i64 L) hb z2_0 (by first | (with_reducible assumption) | (with_reducible exact cell_alloc_l _ (by assumption)) | (with_reducible exact cell_alloc_l _ (cell_alloc_l _ (by assumption))) | (simp [go_sem]; done) | assumption | exact cell_alloc_l _ (by assumption) | exact cell_alloc_l _ (cell_alloc_l _ (by assumption)) | (simp [go_sem, *]; done))
    have t2_0_1 := keep_cell (b := w.heap.size) (o := 1) (v := .slice a1 n1 c1) hb z2_0 (by first | (with_reducible assumption) | (with_reducible exact cell_alloc_l _ (by assumption)) | (with_reducible exact cell_alloc_l _ (cell_alloc_l _ (by assumption))) | (simp [go_sem]; done) | assumption | exact cell_alloc_l _ (by assumption) | exact cell_alloc_l _ (cell_alloc_l _ (by assumption)) | (simp [go_sem, *]; done))
    have t2_0_2 := keep_cell (b := w.heap.size) (o := 2) (v := .slice a2 n2 c2) hb z2_0 (by first | (with_reducible assumption) | (with_reducible exact cell_alloc_l _ (by assumption)) | (with_reducible exact cell_alloc_l _ (cell_alloc_l _ (by assumption))) | (simp [go_sem]; done) | assumption | exact cell_alloc_l _ (by assumption) | exact cell_alloc_l _ (cell_alloc_l _ (by assumption)) | (simp [go_sem, *]; done))
    have t2_0_3 := keep_cell (b := w.heap.size) (o := 3) (v := .slice a3 n3 c3) hb z2_0 (by first | (with_reducible assumption) | (with_reducible exact cell_alloc_l _ (by assumption)) | (with_reducible exact cell_alloc_l _ (cell_alloc_l _ (by assumption))) | (simp [go_sem]; done) | assumption | exact cell_alloc_l _ (by assumption) | exact cell_alloc_l _ (cell_alloc_l _ (by assumption)) | (simp [go_sem, *]; done))
    have z2_1 := lt_id (b := w1.heap.size) hb (by first | omega | (simp; done) | (simp; omega))
    have t2_l1 := keep_lt (b := w1.heap.size) hb z2_1
    have t2_1_0 := keep_cell (b := w1.heap.size) (o := 0) (v := .int .i64 (day)) hb z2_1 (by first | (with_reducible assumption) | (with_reducible exact cell_alloc_l _ (by assumption)) | (with_reducible exact cell_alloc_l _ (cell_alloc_l _ (by assumption))) | (simp [go_sem]; done) | assumption | exact cell_alloc_l _ (by assumption) | exact cell_alloc_l _ (cell_alloc_l _ (by assumption)) | (simp [go_sem, *]; done))
    have t2_1_1 := keep_cell (b := w1.heap.size) (o := 1) (v := .int .i64 (wrap64 (day + 2))) hb z2_1 (by first | (with_reducible assumption) | (with_reducible exact cell_alloc_l _ (by assumption)) | (with_reducible exact cell_alloc_l _ (cell_alloc_l _ (by assumption))) | (simp [go_sem]; done) | assumption | exact cell_alloc_l _ (by assumption) | exact cell_alloc_l _ (cell_alloc_l _ (by assumption)) | (simp [go_sem, *]; done))
    clear z2_0 z2_1
    clear t1_0_0 t1_0_1 t1_0_2 t1_0_3 t1_l0
    clear hb
    clear t2_1_0 t2_1_1 t2_l1
    rw [HRX.out]
    go_wp2_with fail
    go_ret
    exact ⟨rfl, by have hb' := HB2.out; have hb'' := hb'.size; go_grown⟩

set_option maxRecDepth 100000 in
set_option maxHeartbeats 40000000 in
theorem BellsL_yes {L : Int} {n b1 o1 c1 b2 o2 c2 b3 o3 c3 : Nat} {D R S : List Int} (day : Int) (w : World) (hs : SeaO w (some ⟨b1, o1, none⟩) n (some ⟨b2, o2, none⟩) n (some ⟨b3, o3, none⟩) n D R S) (hsea : Sea w n b1 o1 b2 o2 b3 o3 D R S) (hok : Ok L D R S) (hd : 0 ≤ day ∧ day ≤ 10998) (hr : rightB L n n n D R S [day, day + 2] true = true) :
   Calls Tryd.prog 17 #[.agg #[.int .i64 L, .slice (some ⟨b1, o1, none⟩) n c1, .slice (some ⟨b2, o2, none⟩) n c2, .slice (some ⟨b3, o3, none⟩) n c3], .int .i64 day] w fun e w' => e = .returned (.bool true) ∧ Below w.heap.size w w' := by
  have HD := Lib.hid hs.D; have HR := Lib.hid hs.R; have HS := Lib.hid hs.S
  have HRB := Lib.hid hr; have HSEA := Lib.hid hs; have HSE := Lib.hid hsea; have HO := Lib.hid hok; have HDY := Lib.hid hd
  clear hs hsea hok hr
  obtain ⟨d0, d1⟩ := hd
  go_enter Tryd.func17, Tryd.ntmps17
  go_wp2_with fail
  refine (sane_any _).mono ?_
  rintro e w1 ⟨rfl, hb⟩
  have HB1 := Lib.hid (bjoin (w := w) (by have hb' := (Below.refl w.heap.size w); have hb'' := hb'.size; (repeat refine below_drewN ?_ _); go_grown) hb)
  have z1_0 := lt_id (b := w.heap.size) hb (by first | omega | (simp; done) | (simp; omega))
  have t1_l0 := keep_lt (b := w.heap.size) hb z1_0
  have t1_0_0 := keep_cell (b := w.heap.size) (o := 0) (v := .int .i64 L) hb z1_0 (by first | (with_reducible assumption) | (with_reducible exact cell_alloc_l _ (by assumption)) | (with_reducible exact cell_alloc_l _ (cell_alloc_l _ (by assumption))) | (simp [go_sem]; done) | assumption | exact cell_alloc_l _ (by assumption) | exact cell_alloc_l _ (cell_alloc_l _ (by assumption)) | (simp [go_sem, *]; done))
  have t1_0_1 := keep_cell (b := w.heap.size) (o := 1) (v := .slice (some ⟨b1, o1, none⟩) n c1) hb z1_0 (by first | (with_reducible assumption) | (with_reducible exact cell_alloc_l _ (by assumption)) | (with_reducible exact cell_alloc_l _ (cell_alloc_l _ (by assumption))) | (simp [go_sem]; done) | assumption | exact cell_alloc_l _ (by assumption) | exact cell_alloc_l _ (cell_alloc_l _ (by assumption)) | (simp [go_sem, *]; done))
  have t1_0_2 := keep_cell (b := w.heap.size) (o := 2) (v := .slice (some ⟨b2, o2, none⟩) n c2) hb z1_0 (by first | (with_reducible assumption) | (with_reducible exact cell_alloc_l _ (by assumption)) | (with_reducible exact cell_alloc_l _ (cell_alloc_l _ (by assumption))) | (simp [go_sem]; done) | assumption | exact cell_alloc_l _ (by assumption) | exact cell_alloc_l _ (cell_alloc_l _ (by assumption)) | (simp [go_sem, *]; done))
  have t1_0_3 := keep_cell (b := w.heap.size) (o := 3) (v := .slice (some ⟨b3, o3, none⟩) n c3) hb z1_0 (by first | (with_reducible assumption) | (with_reducible exact cell_alloc_l _ (by assumption)) | (with_reducible exact cell_alloc_l _ (cell_alloc_l _ (by assumption))) | (simp [go_sem]; done) | assumption | exact cell_alloc_l _ (by assumption) | exact cell_alloc_l _ (cell_alloc_l _ (by assumption)) | (simp [go_sem, *]; done))
  clear z1_0
  clear hb
  go_wp2_with fail
  refine (right0_any (days := [day, day + 2]) _ (HD.out.to (by have hb' := HB1.out; have hb'' := hb'.size; (repeat refine below_drewN ?_ _); go_grown)) (HR.out.to (by have hb' := HB1.out; have hb'' := hb'.size; (repeat refine below_drewN ?_ _); go_grown)) (HS.out.to (by have hb' := HB1.out; have hb'' := hb'.size; (repeat refine below_drewN ?_ _); go_grown)) (lst2 (b := w1.heap.size) (by simp [go_sem]) (by simp [go_sem]) (by first | (simp; done) | (simp; omega))) (by omega)).mono ?_
  rintro e w2 ⟨rfl, hb⟩
  have HB2 := Lib.hid (bjoin (w := w) (by have hb' := HB1.out; have hb'' := hb'.size; (repeat refine below_drewN ?_ _); go_grown) hb)
  have z2_0 := lt_id (b := w.heap.size) hb (by first | omega | (simp; done) | (simp; omega))
  have t2_l0 := keep_lt (b := w.heap.size) hb z2_0
  have t2_0_0 := keep_cell (b := w.heap.size) (o := 0) (v := .int .i64 L) hb z2_0 (by first | (with_reducible assumption) | (with_reducible exact cell_alloc_l _ (by assumption)) | (with_reducible exact cell_alloc_l _ (cell_alloc_l _ (by assumption))) | (simp [go_sem]; done) | assumption | exact cell_alloc_l _ (by assumption) | exact cell_alloc_l _ (cell_alloc_l _ (by assumption)) | (simp [go_sem, *]; done))
  have t2_0_1 := keep_cell (b := w.heap.size) (o := 1) (v := .slice (some ⟨b1, o1, none⟩) n c1) hb z2_0 (by first | (with_reducible assumption) | (with_reducible exact cell_alloc_l _ (by assumption)) | (with_reducible exact cell_alloc_l _ (cell_alloc_l _ (by assumption))) | (simp [go_sem]; done) | assumption | exact cell_alloc_l _ (by assumption) | exact cell_alloc_l _ (cell_alloc_l _ (by assumption)) | (simp [go_sem, *]; done))
  have t2_0_2 := keep_cell (b := w.heap.size) (o := 2) (v := .slice (some ⟨b2, o2, none⟩) n c2) hb z2_0 (by first | (with_reducible assumption) | (with_reducible exact cell_alloc_l _ (by assumption)) | (with_reducible exact cell_alloc_l _ (cell_alloc_l _ (by assumption))) | (simp [go_sem]; done) | assumption | exact cell_alloc_l _ (by assumption) | exact cell_alloc_l _ (cell_alloc_l _ (by assumption)) | (simp [go_sem, *]; done))
  have t2_0_3 := keep_cell (b := w.heap.size) (o := 3) (v := .slice (some ⟨b3, o3, none⟩) n c3) hb z2_0 (by first | (with_reducible assumption) | (with_reducible exact cell_alloc_l _ (by assumption)) | (with_reducible exact cell_alloc_l _ (cell_alloc_l _ (by assumption))) | (simp [go_sem]; done) | assumption | exact cell_alloc_l _ (by assumption) | exact cell_alloc_l _ (cell_alloc_l _ (by assumption)) | (simp [go_sem, *]; done))
  have z2_1 := lt_id (b := w1.heap.size) hb (by first | omega | (simp; done) | (simp; omega))
  have t2_l1 := keep_lt (b := w1.heap.size) hb z2_1
  have t2_1_0 := keep_cell (b := w1.heap.size) (o := 0) (v := .int .i64 (day)) hb z2_1 (by first | (with_reducible assumption) | (with_reducible exact cell_alloc_l _ (by assumption)) | (with_reducible exact cell_alloc_l _ (cell_alloc_l _ (by assumption))) | (simp [go_sem]; done) | assumption | exact cell_alloc_l _ (by assumption) | exact cell_alloc_l _ (cell_alloc_l _ (by assumption)) | (simp [go_sem, *]; done))
  have t2_1_1 := keep_cell (b := w1.heap.size) (o := 1) (v := .int .i64 (day + 2)) hb z2_1 (by first | (with_reducible assumption) | (with_reducible exact cell_alloc_l _ (by assumption)) | (with_reducible exact cell_alloc_l _ (cell_alloc_l _ (by assumption))) | (simp [go_sem]; done) | assumption | exact cell_alloc_l _ (by assumption) | exact cell_alloc_l _ (cell_alloc_l _ (by assumption)) | (simp [go_sem, *]; done))
  clear z2_0 z2_1
  clear t1_0_0 t1_0_1 t1_0_2 t1_0_3 t1_l0
  clear hb
  clear t2_1_0 t2_1_1 t2_l1
  rw [HRB.out]
  go_wp2_with fail
  refine (Bells_ok day _ (HSEA.out.to (by have hb' := HB2.out; have hb'' := hb'.size; (repeat refine below_drewN ?_ _); go_grown)) (HSE.out.to (by have hb' := HB2.out; have hb'' := hb'.size; (repeat refine below_drewN ?_ _); go_grown)) HO.out (by have := HDY.out; omega)).mono ?_
  rintro e w3 ⟨vp, rfl, hbp⟩
  have hb := hbp.hb
  have HOW := Lib.hid hbp.own
  obtain ⟨gp, cp, rfl, hlp⟩ := hbp.lst
  clear hlp hbp
  have HB3 := Lib.hid (bjoin (w := w) (by have hb' := HB2.out; have hb'' := hb'.size; (repeat refine below_drewN ?_ _); go_grown) hb)
  have z3_0 := lt_id (b := w.heap.size) hb (by first | omega | (simp; done) | (simp; omega))
  have t3_l0 := keep_lt (b := w.heap.size) hb z3_0
  have t3_0_0 := keep_cell (b := w.heap.size) (o := 0) (v := .int .i64 L) hb z3_0 (by first | (with_reducible assumption) | (with_reducible exact cell_alloc_l _ (by assumption)) | (with_reducible exact cell_alloc_l _ (cell_alloc_l _ (by assumption))) | (simp [go_sem]; done) | assumption | exact cell_alloc_l _ (by assumption) | exact cell_alloc_l _ (cell_alloc_l _ (by assumption)) | (simp [go_sem, *]; done))
  have t3_0_1 := keep_cell (b := w.heap.size) (o := 1) (v := .slice (some ⟨b1, o1, none⟩) n c1) hb z3_0 (by first | (with_reducible assumption) | (with_reducible exact cell_alloc_l _ (by assumption)) | (with_reducible exact cell_alloc_l _ (cell_alloc_l _ (by assumption))) | (simp [go_sem]; done) | assumption | exact cell_alloc_l _ (by assumption) | exact cell_alloc_l _ (cell_alloc_l _ (by assumption)) | (simp [go_sem, *]; done))
  have t3_0_2 := keep_cell (b := w.heap.size) (o := 2) (v := .slice (some ⟨b2, o2, none⟩) n c2) hb z3_0 (by first | (with_reducible assumption) | (with_reducible exact cell_alloc_l _ (by assumption)) | (with_reducible exact cell_alloc_l _ (cell_alloc_l _ (by assumption))) | (simp [go_sem]; done) | assumption | exact cell_alloc_l _ (by assumption) | exact cell_alloc_l _ (cell_alloc_l _ (by assumption)) | (simp [go_sem, *]; done))
  have t3_0_3 := keep_cell (b := w.heap.size) (o := 3) (v := .slice (some ⟨b3, o3, none⟩) n c3) hb z3_0 (by first | (with_reducible assumption) | (with_reducible exact cell_alloc_l _ (by assumption)) | (with_reducible exact cell_alloc_l _ (cell_alloc_l _ (by assumption))) | (simp [go_sem]; done) | assumption | exact cell_alloc_l _ (by assumption) | exact cell_alloc_l _ (cell_alloc_l _ (by assumption)) | (simp [go_sem, *]; done))
  clear z3_0
  clear t2_0_0 t2_0_1 t2_0_2 t2_0_3 t2_l0
  clear hb
  go_wp2_with fail
  refine (Bells_ok (day + 1) _ (HSEA.out.to (by have hb' := HB3.out; have hb'' := hb'.size; (repeat refine below_drewN ?_ _); go_grown)) (HSE.out.to (by have hb' := HB3.out; have hb'' := hb'.size; (repeat refine below_drewN ?_ _); go_grown)) HO.out (by have := HDY.out; omega)).mono ?_
  rintro e w4 ⟨vq, rfl, hbq⟩
  have hb := hbq.hb
  obtain ⟨gq, cq, rfl, hlq⟩ := hbq.lst
  have HOX := Lib.hid (ownsRow_below HOW.out hb); have HLQ := Lib.hid hlq; clear hlq hbq HOW
  have HB4 := Lib.hid (bjoin (w := w) (by have hb' := HB3.out; have hb'' := hb'.size; (repeat refine below_drewN ?_ _); go_grown) hb)
  have z4_0 := lt_id (b := w.heap.size) hb (by first | omega | (simp; done) | (simp; omega))
  have t4_l0 := keep_lt (b := w.heap.size) hb z4_0
  have t4_0_0 := keep_cell (b := w.heap.size) (o := 0) (v := .int .i64 L) hb z4_0 (by first | (with_reducible assumption) | (with_reducible exact cell_alloc_l _ (by assumption)) | (with_reducible exact cell_alloc_l _ (cell_alloc_l _ (by assumption))) | (simp [go_sem]; done) | assumption | exact cell_alloc_l _ (by assumption) | exact cell_alloc_l _ (cell_alloc_l _ (by assumption)) | (simp [go_sem, *]; done))
  have t4_0_1 := keep_cell (b := w.heap.size) (o := 1) (v := .slice (some ⟨b1, o1, none⟩) n c1) hb z4_0 (by first | (with_reducible assumption) | (with_reducible exact cell_alloc_l _ (by assumption)) | (with_reducible exact cell_alloc_l _ (cell_alloc_l _ (by assumption))) | (simp [go_sem]; done) | assumption | exact cell_alloc_l _ (by assumption) | exact cell_alloc_l _ (cell_alloc_l _ (by assumption)) | (simp [go_sem, *]; done))
  have t4_0_2 := keep_cell (b := w.heap.size) (o := 2) (v := .slice (some ⟨b2, o2, none⟩) n c2) hb z4_0 (by first | (with_reducible assumption) | (with_reducible exact cell_alloc_l _ (by assumption)) | (with_reducible exact cell_alloc_l _ (cell_alloc_l _ (by assumption))) | (simp [go_sem]; done) | assumption | exact cell_alloc_l _ (by assumption) | exact cell_alloc_l _ (cell_alloc_l _ (by assumption)) | (simp [go_sem, *]; done))
  have t4_0_3 := keep_cell (b := w.heap.size) (o := 3) (v := .slice (some ⟨b3, o3, none⟩) n c3) hb z4_0 (by first | (with_reducible assumption) | (with_reducible exact cell_alloc_l _ (by assumption)) | (with_reducible exact cell_alloc_l _ (cell_alloc_l _ (by assumption))) | (simp [go_sem]; done) | assumption | exact cell_alloc_l _ (by assumption) | exact cell_alloc_l _ (cell_alloc_l _ (by assumption)) | (simp [go_sem, *]; done))
  clear z4_0
  clear t3_0_0 t3_0_1 t3_0_2 t3_0_3 t3_l0
  clear hb
  have qn := HLQ.out.cell 0 (by omega)
  rw [Nat.zero_add, blL_at _ _ _ _ _ _ _ (by omega), bl_next] at qn
  have hgq := HLQ.out.lt
  have hz3 := HB3.out.size
  have hy4 := HB4.out.size
  have hv2 := HB2.out.size
  have hx4 : w2.heap.size < w4.heap.size := (HOX.out.lt gp rfl).1 |> fun h => by have := (HOX.out.lt gp rfl).2; omega
  go_wp2_with (at_builtin; refine app_one rfl _ _ rfl (w2.heap.size + 1) _ 24 _ rfl (HOX.out.alloc _) ⟨w4.heap.size, 0, none⟩ (bl L D R S day 24) rfl (by simp [go_sem]) (by omega) (by simp; omega) ?_; intro v' w5 hown' hgrow; obtain ⟨gr, cr, rfl, hcr, hlr⟩ := row25 hown')
  have hne : some w.heap.size ≠ (Value.slice (some ⟨gp, 0, none⟩) 24 cp).ownBlock := fun h => by have h2 : w.heap.size = gp := Option.some.inj h; have := (HOX.out.lt gp rfl).1; omega
  have u0 := hgrow.cell (cell_alloc_l _ t4_0_0) hne
  have u1 := hgrow.cell (cell_alloc_l _ t4_0_1) hne
  have u2 := hgrow.cell (cell_alloc_l _ t4_0_2) hne
  have u3 := hgrow.cell (cell_alloc_l _ t4_0_3) hne
  have hl5 : w.heap.size < w5.heap.size := by have := hgrow.size; simp at this; omega
  have HB5 := Lib.hid ((HB4.out.alloc HB4.out.size _).grown hgrow (by simp; omega) (fun j hj => by have h2 : gp = j := Option.some.inj hj; have := (HOX.out.lt gp rfl).1; omega))
  have HROW := Lib.hid (show ∀ (W : World), Below w5.heap.size w5 W → ∀ i, i < 25 → W.cell? ⟨gr, i, none⟩ = some (.int .i64 (bl L D R S day i)) from fun W hW i hi => by have h := keep_cell hW hlr.lt (hlr.cell i hi); rwa [Nat.zero_add, blL_at _ _ _ _ _ _ _ hi] at h)
  have U0 := Lib.hid u0
  have U1 := Lib.hid u1
  have U2 := Lib.hid u2
  have U3 := Lib.hid u3
  clear hgrow hown' hlr qn hgq u0 u1 u2 u3 t4_0_0 t4_0_1 t4_0_2 t4_0_3 t4_l0
  go_loopw [63] (fun vk wr => ∃ k : Nat, k ≤ 24 ∧ vk = .int .i64 k ∧ Below w5.heap.size w5 wr ∧ Below w.heap.size w wr) (fun vk _ => 100 - (intOf vk).toNat)
  case atStart => exact ⟨0, by omega, rfl, Below.refl _ _, HB5.out⟩
  case round =>
    obtain ⟨k, hk, rfl, hb5, hbw⟩ := hrel
    obtain ⟨w10, rfl⟩ : ∃ w10, w10 = wr := ⟨_, rfl⟩
    have HB10 := Lib.hid hbw; have H5 := Lib.hid hb5; clear hbw
    by_cases hlt : k < 24
    · have hbb := bl_bd HO.out HDY.out (show k ≤ 24 by omega)
      have hri := bl_rise HO.out day k
      obtain ⟨_, _, g3, g4, _⟩ := bell_at HO.out (day * 1440 + 60 * (k : Int))
      have e0 : upF (Mo L D R S (day * 1440 + 60 * (k : Int))) = bl L D R S day k := rfl
      rw [e0] at g3 g4
      have HFI := Lib.hid (fun W hW => First_ok (c1 := c1) (c2 := c2) (c3 := c3) day (decide (12 ≤ (k : Int))) ((k : Int) % 12) 0 W (HSEA.out.to hW) HO.out (by have := HDY.out; omega) (by omega))
      rw [bl_k _ _ _ _ _ _ hlt] at HFI
      have HTB := Lib.hid (fun W hW => told_bell (c1 := c1) (c2 := c2) (c3 := c3) day k W (HSEA.out.to hW) HO.out HDY.out hlt)
      have HOK := Lib.hid (fun W => Order_any day (decide (12 ≤ (k : Int))) ((k : Int) % 12) 0 W (by have := HDY.out; omega) (by omega) (by omega))
      rw [ord_k day k hlt] at HOK
      have htt := toldN_top HO.out (m := bl L D R S day k - 1) (by omega)
      have r0 := HROW.out _ H5.out k (by omega)
      have R1 := Lib.hid (HROW.out · · (k + 1) (by omega))
      have t10_0_0 := keep_cell H5.out hl5 U0.out
      have t10_0_1 := keep_cell H5.out hl5 U1.out
      have t10_0_2 := keep_cell H5.out hl5 U2.out
      have t10_0_3 := keep_cell H5.out hl5 U3.out
      have t10_l0 := keep_lt H5.out hl5
      clear e0 hb5
      by_cases hT : 0 ≤ toldN L D R S (bl L D R S day k - 1)
      · have HTT := Lib.hid (fun W hW => Told_ok (c1 := c1) (c2 := c2) (c3 := c3) (bl L D R S day k - 1) W (HSEA.out.to hW) HO.out (by omega) (by omega))
        have hT2 : 0 ≤ toldN L D R S (bl L D R S day k - 1) ∧ toldN L D R S (bl L D R S day k - 1) ≤ 20000000 := by omega
        generalize toldN L D R S (bl L D R S day k - 1) = T2 at *
        generalize toldN L D R S (bl L D R S day k) % 60 = T1 at *
        generalize bl L D R S day (k + 1) = X1 at *
        generalize bl L D R S day k = X0 at *
        go_wp2_with fail
        refine (HFI.out _ (by have hb' := HB10.out; have hb'' := hb'.size; (repeat refine below_drewN ?_ _); go_grown)).mono ?_
        rintro e w11 ⟨rfl, hb⟩
        have HB11 := Lib.hid (bjoin (w := w) (by have hb' := HB10.out; have hb'' := hb'.size; (repeat refine below_drewN ?_ _); go_grown) hb)
        have HC11 := Lib.hid (bjoin (w := w10) (by have hb' := (Below.refl w10.heap.size w10); have hb'' := hb'.size; go_grown) hb)
        have z11_0 := lt_id (b := w.heap.size) hb (by first | omega | (simp; done) | (simp; omega))
        have t11_l0 := keep_lt (b := w.heap.size) hb z11_0
        have t11_0_0 := keep_cell (b := w.heap.size) (o := 0) (v := .int .i64 L) hb z11_0 (by first | (with_reducible assumption) | (with_reducible exact cell_alloc_l _ (by assumption)) | (with_reducible exact cell_alloc_l _ (cell_alloc_l _ (by assumption))) | (simp [go_sem]; done) | assumption | exact cell_alloc_l _ (by assumption) | exact cell_alloc_l _ (cell_alloc_l _ (by assumption)) | (simp [go_sem, *]; done))
        have t11_0_1 := keep_cell (b := w.heap.size) (o := 1) (v := .slice (some ⟨b1, o1, none⟩) n c1) hb z11_0 (by first | (with_reducible assumption) | (with_reducible exact cell_alloc_l _ (by assumption)) | (with_reducible exact cell_alloc_l _ (cell_alloc_l _ (by assumption))) | (simp [go_sem]; done) | assumption | exact cell_alloc_l _ (by assumption) | exact cell_alloc_l _ (cell_alloc_l _ (by assumption)) | (simp [go_sem, *]; done))
        have t11_0_2 := keep_cell (b := w.heap.size) (o := 2) (v := .slice (some ⟨b2, o2, none⟩) n c2) hb z11_0 (by first | (with_reducible assumption) | (with_reducible exact cell_alloc_l _ (by assumption)) | (with_reducible exact cell_alloc_l _ (cell_alloc_l _ (by assumption))) | (simp [go_sem]; done) | assumption | exact cell_alloc_l _ (by assumption) | exact cell_alloc_l _ (cell_alloc_l _ (by assumption)) | (simp [go_sem, *]; done))
        have t11_0_3 := keep_cell (b := w.heap.size) (o := 3) (v := .slice (some ⟨b3, o3, none⟩) n c3) hb z11_0 (by first | (with_reducible assumption) | (with_reducible exact cell_alloc_l _ (by assumption)) | (with_reducible exact cell_alloc_l _ (cell_alloc_l _ (by assumption))) | (simp [go_sem]; done) | assumption | exact cell_alloc_l _ (by assumption) | exact cell_alloc_l _ (cell_alloc_l _ (by assumption)) | (simp [go_sem, *]; done))
        have z11_1 := lt_id (b := w10.heap.size) hb (by first | omega | (simp; done) | (simp; omega))
        have t11_l1 := keep_lt (b := w10.heap.size) hb z11_1
        have t11_1_0 := keep_cell (b := w10.heap.size) (o := 0) (v := .bool (decide (12 ≤ (k : Int)))) hb z11_1 (by first | (with_reducible assumption) | (with_reducible exact cell_alloc_l _ (by assumption)) | (with_reducible exact cell_alloc_l _ (cell_alloc_l _ (by assumption))) | (simp [go_sem]; done) | assumption | exact cell_alloc_l _ (by assumption) | exact cell_alloc_l _ (cell_alloc_l _ (by assumption)) | (simp [go_sem, *]; done))
        have t11_1_1 := keep_cell (b := w10.heap.size) (o := 1) (v := .int .i64 ((k : Int) % 12)) hb z11_1 (by first | (with_reducible assumption) | (with_reducible exact cell_alloc_l _ (by assumption)) | (with_reducible exact cell_alloc_l _ (cell_alloc_l _ (by assumption))) | (simp [go_sem]; done) | assumption | exact cell_alloc_l _ (by assumption) | exact cell_alloc_l _ (cell_alloc_l _ (by assumption)) | (simp [go_sem, *]; done))
        have t11_1_2 := keep_cell (b := w10.heap.size) (o := 2) (v := .int .i64 0) hb z11_1 (by first | (with_reducible assumption) | (with_reducible exact cell_alloc_l _ (by assumption)) | (with_reducible exact cell_alloc_l _ (cell_alloc_l _ (by assumption))) | (simp [go_sem]; done) | assumption | exact cell_alloc_l _ (by assumption) | exact cell_alloc_l _ (cell_alloc_l _ (by assumption)) | (simp [go_sem, *]; done))
        clear z11_0 z11_1
        clear t10_0_0 t10_0_1 t10_0_2 t10_0_3 t10_l0
        clear hb
        have r1 := R1.out _ (bjoin H5.out HC11.out)
        clear r0
        go_wp2_with fail
        refine (HTB.out _ (by have hb' := HB11.out; have hb'' := hb'.size; (repeat refine below_drewN ?_ _); go_grown)).mono ?_
        rintro e w12 ⟨rfl, hb⟩
        have HB12 := Lib.hid (bjoin (w := w) (by have hb' := HB11.out; have hb'' := hb'.size; (repeat refine below_drewN ?_ _); go_grown) hb)
        have HC12 := Lib.hid (bjoin (w := w10) (by have hb' := HC11.out; have hb'' := hb'.size; go_grown) hb)
        have z12_0 := lt_id (b := w.heap.size) hb (by first | omega | (simp; done) | (simp; omega))
        have t12_l0 := keep_lt (b := w.heap.size) hb z12_0
        have t12_0_0 := keep_cell (b := w.heap.size) (o := 0) (v := .int .i64 L) hb z12_0 (by first | (with_reducible assumption) | (with_reducible exact cell_alloc_l _ (by assumption)) | (with_reducible exact cell_alloc_l _ (cell_alloc_l _ (by assumption))) | (simp [go_sem]; done) | assumption | exact cell_alloc_l _ (by assumption) | exact cell_alloc_l _ (cell_alloc_l _ (by assumption)) | (simp [go_sem, *]; done))
        have t12_0_1 := keep_cell (b := w.heap.size) (o := 1) (v := .slice (some ⟨b1, o1, none⟩) n c1) hb z12_0 (by first | (with_reducible assumption) | (with_reducible exact cell_alloc_l _ (by assumption)) | (with_reducible exact cell_alloc_l _ (cell_alloc_l _ (by assumption))) | (simp [go_sem]; done) | assumption | exact cell_alloc_l _ (by assumption) | exact cell_alloc_l _ (cell_alloc_l _ (by assumption)) | (simp [go_sem, *]; done))
        have t12_0_2 := keep_cell (b := w.heap.size) (o := 2) (v := .slice (some ⟨b2, o2, none⟩) n c2) hb z12_0 (by first | (with_reducible assumption) | (with_reducible exact cell_alloc_l _ (by assumption)) | (with_reducible exact cell_alloc_l _ (cell_alloc_l _ (by assumption))) | (simp [go_sem]; done) | assumption | exact cell_alloc_l _ (by assumption) | exact cell_alloc_l _ (cell_alloc_l _ (by assumption)) | (simp [go_sem, *]; done))
        have t12_0_3 := keep_cell (b := w.heap.size) (o := 3) (v := .slice (some ⟨b3, o3, none⟩) n c3) hb z12_0 (by first | (with_reducible assumption) | (with_reducible exact cell_alloc_l _ (by assumption)) | (with_reducible exact cell_alloc_l _ (cell_alloc_l _ (by assumption))) | (simp [go_sem]; done) | assumption | exact cell_alloc_l _ (by assumption) | exact cell_alloc_l _ (cell_alloc_l _ (by assumption)) | (simp [go_sem, *]; done))
        have z12_1 := lt_id (b := w10.heap.size) hb (by first | omega | (simp; done) | (simp; omega))
        have t12_l1 := keep_lt (b := w10.heap.size) hb z12_1
        have t12_1_0 := keep_cell (b := w10.heap.size) (o := 0) (v := .bool (decide (12 ≤ (k : Int)))) hb z12_1 (by first | (with_reducible assumption) | (with_reducible exact cell_alloc_l _ (by assumption)) | (with_reducible exact cell_alloc_l _ (cell_alloc_l _ (by assumption))) | (simp [go_sem]; done) | assumption | exact cell_alloc_l _ (by assumption) | exact cell_alloc_l _ (cell_alloc_l _ (by assumption)) | (simp [go_sem, *]; done))
        have t12_1_1 := keep_cell (b := w10.heap.size) (o := 1) (v := .int .i64 ((k : Int) % 12)) hb z12_1 (by first | (with_reducible assumption) | (with_reducible exact cell_alloc_l _ (by assumption)) | (with_reducible exact cell_alloc_l _ (cell_alloc_l _ (by assumption))) | (simp [go_sem]; done) | assumption | exact cell_alloc_l _ (by assumption) | exact cell_alloc_l _ (cell_alloc_l _ (by assumption)) | (simp [go_sem, *]; done))
        have t12_1_2 := keep_cell (b := w10.heap.size) (o := 2) (v := .int .i64 0) hb z12_1 (by first | (with_reducible assumption) | (with_reducible exact cell_alloc_l _ (by assumption)) | (with_reducible exact cell_alloc_l _ (cell_alloc_l _ (by assumption))) | (simp [go_sem]; done) | assumption | exact cell_alloc_l _ (by assumption) | exact cell_alloc_l _ (cell_alloc_l _ (by assumption)) | (simp [go_sem, *]; done))
        clear z12_0 z12_1
        clear t11_0_0 t11_0_1 t11_0_2 t11_0_3 t11_l0 t11_1_0 t11_1_1 t11_1_2 t11_l1
        clear hb
        go_wp2_with fail
        clear r1
        have zz2 : w.heap.size ≤ w12.heap.size := HB12.out.size
        have ne2_0 : ¬ (w.heap.size) = w12.heap.size := by omega
        have nf2_0 : ¬ (w12.heap.size) = w.heap.size := by omega
        have ne2_1 : ¬ (w10.heap.size) = w12.heap.size := by omega
        have nf2_1 : ¬ (w12.heap.size) = w10.heap.size := by omega
        refine (HTT.out _ (by have hb' := HB12.out; have hb'' := hb'.size; (repeat refine below_drewN ?_ _); go_grown)).mono ?_
        rintro e w13 ⟨rfl, hb⟩
        have HB13 := Lib.hid (bjoin (w := w) (by have hb' := HB12.out; have hb'' := hb'.size; (repeat refine below_drewN ?_ _); go_grown) hb)
        have HC13 := Lib.hid (bjoin (w := w10) (by have hb' := HC12.out; have hb'' := hb'.size; go_grown) hb)
        have z13_0 := lt_id (b := w.heap.size) hb (by first | omega | (simp; done) | (simp; omega))
        have t13_l0 := keep_lt (b := w.heap.size) hb z13_0
        have t13_0_0 := keep_cell (b := w.heap.size) (o := 0) (v := .int .i64 L) hb z13_0 (by first | (with_reducible assumption) | (with_reducible exact cell_alloc_l _ (by assumption)) | (with_reducible exact cell_alloc_l _ (cell_alloc_l _ (by assumption))) | (simp [go_sem]; done) | assumption | exact cell_alloc_l _ (by assumption) | exact cell_alloc_l _ (cell_alloc_l _ (by assumption)) | (simp [go_sem, *]; done))
        have t13_0_1 := keep_cell (b := w.heap.size) (o := 1) (v := .slice (some ⟨b1, o1, none⟩) n c1) hb z13_0 (by first | (with_reducible assumption) | (with_reducible exact cell_alloc_l _ (by assumption)) | (with_reducible exact cell_alloc_l _ (cell_alloc_l _ (by assumption))) | (simp [go_sem]; done) | assumption | exact cell_alloc_l _ (by assumption) | exact cell_alloc_l _ (cell_alloc_l _ (by assumption)) | (simp [go_sem, *]; done))
        have t13_0_2 := keep_cell (b := w.heap.size) (o := 2) (v := .slice (some ⟨b2, o2, none⟩) n c2) hb z13_0 (by first | (with_reducible assumption) | (with_reducible exact cell_alloc_l _ (by assumption)) | (with_reducible exact cell_alloc_l _ (cell_alloc_l _ (by assumption))) | (simp [go_sem]; done) | assumption | exact cell_alloc_l _ (by assumption) | exact cell_alloc_l _ (cell_alloc_l _ (by assumption)) | (simp [go_sem, *]; done))
        have t13_0_3 := keep_cell (b := w.heap.size) (o := 3) (v := .slice (some ⟨b3, o3, none⟩) n c3) hb z13_0 (by first | (with_reducible assumption) | (with_reducible exact cell_alloc_l _ (by assumption)) | (with_reducible exact cell_alloc_l _ (cell_alloc_l _ (by assumption))) | (simp [go_sem]; done) | assumption | exact cell_alloc_l _ (by assumption) | exact cell_alloc_l _ (cell_alloc_l _ (by assumption)) | (simp [go_sem, *]; done))
        have z13_1 := lt_id (b := w10.heap.size) hb (by first | omega | (simp; done) | (simp; omega))
        have t13_l1 := keep_lt (b := w10.heap.size) hb z13_1
        have t13_1_0 := keep_cell (b := w10.heap.size) (o := 0) (v := .bool (decide (12 ≤ (k : Int)))) hb z13_1 (by first | (with_reducible assumption) | (with_reducible exact cell_alloc_l _ (by assumption)) | (with_reducible exact cell_alloc_l _ (cell_alloc_l _ (by assumption))) | (simp [go_sem]; done) | assumption | exact cell_alloc_l _ (by assumption) | exact cell_alloc_l _ (cell_alloc_l _ (by assumption)) | (simp [go_sem, *]; done))
        have t13_1_1 := keep_cell (b := w10.heap.size) (o := 1) (v := .int .i64 ((k : Int) % 12)) hb z13_1 (by first | (with_reducible assumption) | (with_reducible exact cell_alloc_l _ (by assumption)) | (with_reducible exact cell_alloc_l _ (cell_alloc_l _ (by assumption))) | (simp [go_sem]; done) | assumption | exact cell_alloc_l _ (by assumption) | exact cell_alloc_l _ (cell_alloc_l _ (by assumption)) | (simp [go_sem, *]; done))
        have t13_1_2 := keep_cell (b := w10.heap.size) (o := 2) (v := .int .i64 0) hb z13_1 (by first | (with_reducible assumption) | (with_reducible exact cell_alloc_l _ (by assumption)) | (with_reducible exact cell_alloc_l _ (cell_alloc_l _ (by assumption))) | (simp [go_sem]; done) | assumption | exact cell_alloc_l _ (by assumption) | exact cell_alloc_l _ (cell_alloc_l _ (by assumption)) | (simp [go_sem, *]; done))
        have z13_2 := lt_id (b := w12.heap.size) hb (by first | omega | (simp; done) | (simp; omega))
        have t13_l2 := keep_lt (b := w12.heap.size) hb z13_2
        have t13_2_0 := keep_cell (b := w12.heap.size) (o := 0) (v := .bool (decide (12 ≤ (k : Int)))) hb z13_2 (by first | (with_reducible assumption) | (with_reducible exact cell_alloc_l _ (by assumption)) | (with_reducible exact cell_alloc_l _ (cell_alloc_l _ (by assumption))) | (simp [go_sem]; done) | assumption | exact cell_alloc_l _ (by assumption) | exact cell_alloc_l _ (cell_alloc_l _ (by assumption)) | (simp [go_sem, *]; done))
        have t13_2_1 := keep_cell (b := w12.heap.size) (o := 1) (v := .int .i64 ((k : Int) % 12)) hb z13_2 (by first | (with_reducible assumption) | (with_reducible exact cell_alloc_l _ (by assumption)) | (with_reducible exact cell_alloc_l _ (cell_alloc_l _ (by assumption))) | (simp [go_sem]; done) | assumption | exact cell_alloc_l _ (by assumption) | exact cell_alloc_l _ (cell_alloc_l _ (by assumption)) | (simp [go_sem, *]; done))
        have t13_2_2 := keep_cell (b := w12.heap.size) (o := 2) (v := .int .i64 T1) hb z13_2 (by first | (with_reducible assumption) | (with_reducible exact cell_alloc_l _ (by assumption)) | (with_reducible exact cell_alloc_l _ (cell_alloc_l _ (by assumption))) | (simp [go_sem]; done) | assumption | exact cell_alloc_l _ (by assumption) | exact cell_alloc_l _ (cell_alloc_l _ (by assumption)) | (simp [go_sem, *]; done))
        have f13_2_0 := keep_fr (b := w12.heap.size) (o := 0) hb z13_2 (by first | (with_reducible assumption) | (simp [go_sem]; done) | (simp [go_sem, *]; done))
        have f13_2_1 := keep_fr (b := w12.heap.size) (o := 1) hb z13_2 (by first | (with_reducible assumption) | (simp [go_sem]; done) | (simp [go_sem, *]; done))
        have f13_2_2 := keep_fr (b := w12.heap.size) (o := 2) hb z13_2 (by first | (with_reducible assumption) | (simp [go_sem]; done) | (simp [go_sem, *]; done))
        clear z13_0 z13_1 z13_2
        clear t12_0_0 t12_0_1 t12_0_2 t12_0_3 t12_l0 t12_1_0 t12_1_1 t12_1_2 t12_l1
        clear hb
        go_wp2_with fail
        refine wp_name ?_
        intro W0 hW0
        have HBW := Lib.hid (show Below w.heap.size w W0 from hW0 ▸ (by have hb' := HB13.out; have hb'' := hb'.size; (repeat refine below_drewN ?_ _); go_grown))
        have zz10 : w10.heap.size ≤ w12.heap.size := HC12.out.size
        have HCW := Lib.hid (show Below w10.heap.size w10 W0 from hW0 ▸ (by have hb' := HC13.out; have hb'' := hb'.size; go_grown <;> exact zz10))
        clear zz10
        have g_l1 : w10.heap.size < W0.heap.size := by rw [← hW0]; first | omega | (simp; done) | (simp; omega)
        have g_1_0 : W0.cell? ⟨w10.heap.size, 0, none⟩ = some (.bool (decide (12 ≤ (k : Int)))) := by rw [← hW0]; first | (with_reducible assumption) | (with_reducible exact cell_after3 (by assumption) (by omega)) | (with_reducible exact (cell_new3 (by assumption) (by assumption) (by assumption)).1) | (with_reducible exact (cell_new3 (by assumption) (by assumption) (by assumption)).2.1) | (with_reducible exact (cell_new3 (by assumption) (by assumption) (by assumption)).2.2)
        have g_1_1 : W0.cell? ⟨w10.heap.size, 1, none⟩ = some (.int .i64 ((k : Int) % 12)) := by rw [← hW0]; first | (with_reducible assumption) | (with_reducible exact cell_after3 (by assumption) (by omega)) | (with_reducible exact (cell_new3 (by assumption) (by assumption) (by assumption)).1) | (with_reducible exact (cell_new3 (by assumption) (by assumption) (by assumption)).2.1) | (with_reducible exact (cell_new3 (by assumption) (by assumption) (by assumption)).2.2)
        have g_1_2 : W0.cell? ⟨w10.heap.size, 2, none⟩ = some (.int .i64 0) := by rw [← hW0]; first | (with_reducible assumption) | (with_reducible exact cell_after3 (by assumption) (by omega)) | (with_reducible exact (cell_new3 (by assumption) (by assumption) (by assumption)).1) | (with_reducible exact (cell_new3 (by assumption) (by assumption) (by assumption)).2.1) | (with_reducible exact (cell_new3 (by assumption) (by assumption) (by assumption)).2.2)
        have g_l2 : w12.heap.size < W0.heap.size := by rw [← hW0]; first | omega | (simp; done) | (simp; omega)
        have g_2_0 : W0.cell? ⟨w12.heap.size, 0, none⟩ = some (.bool (decide (720 ≤ T2 % 1440))) := by rw [← hW0]; first | (with_reducible assumption) | (with_reducible exact cell_after3 (by assumption) (by omega)) | (with_reducible exact (cell_new3 (by assumption) (by assumption) (by assumption)).1) | (with_reducible exact (cell_new3 (by assumption) (by assumption) (by assumption)).2.1) | (with_reducible exact (cell_new3 (by assumption) (by assumption) (by assumption)).2.2)
        have g_2_1 : W0.cell? ⟨w12.heap.size, 1, none⟩ = some (.int .i64 (T2 % 1440 / 60 % 12)) := by rw [← hW0]; first | (with_reducible assumption) | (with_reducible exact cell_after3 (by assumption) (by omega)) | (with_reducible exact (cell_new3 (by assumption) (by assumption) (by assumption)).1) | (with_reducible exact (cell_new3 (by assumption) (by assumption) (by assumption)).2.1) | (with_reducible exact (cell_new3 (by assumption) (by assumption) (by assumption)).2.2)
        have g_2_2 : W0.cell? ⟨w12.heap.size, 2, none⟩ = some (.int .i64 (T2 % 60)) := by rw [← hW0]; first | (with_reducible assumption) | (with_reducible exact cell_after3 (by assumption) (by omega)) | (with_reducible exact (cell_new3 (by assumption) (by assumption) (by assumption)).1) | (with_reducible exact (cell_new3 (by assumption) (by assumption) (by assumption)).2.1) | (with_reducible exact (cell_new3 (by assumption) (by assumption) (by assumption)).2.2)
        clear t13_0_0 t13_0_1 t13_0_2 t13_0_3 t13_l0 t13_1_0 t13_1_1 t13_1_2 t13_l1 t13_2_0 t13_2_1 t13_2_2 t13_l2 f13_2_0 f13_2_1 f13_2_2
        clear hW0
        have HQ := Lib.hid (show ∀ W', Below W0.heap.size W0 W' → W'.cell? ⟨w10.heap.size, 0, none⟩ = some (.bool (decide (12 ≤ (k : Int)))) ∧ W'.cell? ⟨w10.heap.size, 1, none⟩ = some (.int .i64 ((k : Int) % 12)) ∧ W'.cell? ⟨w10.heap.size, 2, none⟩ = some (.int .i64 0) ∧ W'.cell? ⟨w12.heap.size, 0, none⟩ = some (.bool (decide (720 ≤ T2 % 1440))) ∧ W'.cell? ⟨w12.heap.size, 1, none⟩ = some (.int .i64 (T2 % 1440 / 60 % 12)) ∧ W'.cell? ⟨w12.heap.size, 2, none⟩ = some (.int .i64 (T2 % 60)) ∧ Below W0.heap.size W0 W' from fun W' hBW => ⟨keep_cell hBW g_l1 g_1_0, keep_cell hBW g_l1 g_1_1, keep_cell hBW g_l1 g_1_2, keep_cell hBW g_l2 g_2_0, keep_cell hBW g_l2 g_2_1, keep_cell hBW g_l2 g_2_2, hBW⟩)
        clear g_l1 g_l2 g_1_0 g_1_1 g_1_2 g_2_0 g_2_1 g_2_2
        refine wp_region_held_lit (S := fun W' => W'.cell? ⟨w10.heap.size, 0, none⟩ = some (.bool (decide (12 ≤ (k : Int)))) ∧ W'.cell? ⟨w10.heap.size, 1, none⟩ = some (.int .i64 ((k : Int) % 12)) ∧ W'.cell? ⟨w10.heap.size, 2, none⟩ = some (.int .i64 0) ∧ W'.cell? ⟨w12.heap.size, 0, none⟩ = some (.bool (decide (720 ≤ T2 % 1440))) ∧ W'.cell? ⟨w12.heap.size, 1, none⟩ = some (.int .i64 (T2 % 1440 / 60 % 12)) ∧ W'.cell? ⟨w12.heap.size, 2, none⟩ = some (.int .i64 (T2 % 60)) ∧ Below W0.heap.size W0 W') 27 #[false, false, false, false, false, false, false, false, false, false, false, false, false, false, false, false, false, false, false, false, false, false, false, false, false, false, false] (by rfl) (by rfl) (by kernel_rfl) (HQ.out _ (Below.refl _ _).drew) ?_
        intro hHeld
        have HH := Lib.hid hHeld; clear hHeld
        refine wpAnyH_take_at (i := 0) (some 132) (v := ?_) rfl rfl (by kernel_rfl) (by kernel_rfl) (by kernel_rfl) (fun _ _ _ h => h) (Or.inl ⟨by kernel_rfl, ?_⟩) HH.out ?_
        rotate_left
        · (intro w hSw; (try dsimp only at hSw); go_simp; try (with_reducible rfl))
        try simp only [Act.put, List.setIfInBounds_toArray, List.set_cons_zero, List.set_cons_succ]
        refine wpAnyH_take_at (i := 1) (some 133) (v := ?_) rfl rfl (by kernel_rfl) (by kernel_rfl) (by kernel_rfl) (fun _ _ _ h => h) (Or.inl ⟨by kernel_rfl, ?_⟩) HH.out ?_
        rotate_left
        · (intro w hSw; (try dsimp only at hSw); go_simp; try (with_reducible rfl))
        try simp only [Act.put, List.setIfInBounds_toArray, List.set_cons_zero, List.set_cons_succ]
        refine wpAnyH_take_at (i := 2) (some 134) (v := ?_) rfl rfl (by kernel_rfl) (by kernel_rfl) (by kernel_rfl) (fun _ _ _ h => h) (Or.inl ⟨by kernel_rfl, ?_⟩) HH.out ?_
        rotate_left
        · (intro w hSw; (try dsimp only at hSw); go_simp; try (with_reducible rfl))
        try simp only [Act.put, List.setIfInBounds_toArray, List.set_cons_zero, List.set_cons_succ]
        refine wpAnyH_take_at (i := 3) (some 135) (v := undef) rfl rfl (by kernel_rfl) (by kernel_rfl) (by kernel_rfl) (fun _ _ _ h => h) (Or.inr ⟨by kernel_rfl, rfl⟩) HH.out ?_
        try simp only [Act.put, List.setIfInBounds_toArray, List.set_cons_zero, List.set_cons_succ]
        refine wpAnyH_take_at (i := 4) (some 136) (v := undef) rfl rfl (by kernel_rfl) (by kernel_rfl) (by kernel_rfl) (fun _ _ _ h => h) (Or.inr ⟨by kernel_rfl, rfl⟩) HH.out ?_
        try simp only [Act.put, List.setIfInBounds_toArray, List.set_cons_zero, List.set_cons_succ]
        refine wpAnyH_take_at (i := 5) (some 137) (v := undef) rfl rfl (by kernel_rfl) (by kernel_rfl) (by kernel_rfl) (fun _ _ _ h => h) (Or.inr ⟨by kernel_rfl, rfl⟩) HH.out ?_
        try simp only [Act.put, List.setIfInBounds_toArray, List.set_cons_zero, List.set_cons_succ]
        refine wpAnyH_take_at (i := 6) (some 138) (v := undef) rfl rfl (by kernel_rfl) (by kernel_rfl) (by kernel_rfl) (fun _ _ _ h => h) (Or.inr ⟨by kernel_rfl, rfl⟩) HH.out ?_
        try simp only [Act.put, List.setIfInBounds_toArray, List.set_cons_zero, List.set_cons_succ]
        refine wpAnyH_take_at (i := 7) (some 139) (v := undef) rfl rfl (by kernel_rfl) (by kernel_rfl) (by kernel_rfl) (fun _ _ _ h => h) (Or.inr ⟨by kernel_rfl, rfl⟩) HH.out ?_
        try simp only [Act.put, List.setIfInBounds_toArray, List.set_cons_zero, List.set_cons_succ]
        refine wpAnyH_take_at (i := 8) (some 140) (v := undef) rfl rfl (by kernel_rfl) (by kernel_rfl) (by kernel_rfl) (fun _ _ _ h => h) (Or.inr ⟨by kernel_rfl, rfl⟩) HH.out ?_
        try simp only [Act.put, List.setIfInBounds_toArray, List.set_cons_zero, List.set_cons_succ]
        refine wpAnyH_take_at (i := 9) (some 141) (v := undef) rfl rfl (by kernel_rfl) (by kernel_rfl) (by kernel_rfl) (fun _ _ _ h => h) (Or.inr ⟨by kernel_rfl, rfl⟩) HH.out ?_
        try simp only [Act.put, List.setIfInBounds_toArray, List.set_cons_zero, List.set_cons_succ]
        refine wpAnyH_take_at (i := 10) (some 142) (v := undef) rfl rfl (by kernel_rfl) (by kernel_rfl) (by kernel_rfl) (fun _ _ _ h => h) (Or.inr ⟨by kernel_rfl, rfl⟩) HH.out ?_
        try simp only [Act.put, List.setIfInBounds_toArray, List.set_cons_zero, List.set_cons_succ]
        refine wpAnyH_take_at (i := 11) (some 143) (v := undef) rfl rfl (by kernel_rfl) (by kernel_rfl) (by kernel_rfl) (fun _ _ _ h => h) (Or.inr ⟨by kernel_rfl, rfl⟩) HH.out ?_
        try simp only [Act.put, List.setIfInBounds_toArray, List.set_cons_zero, List.set_cons_succ]
        refine wpAnyH_take_at (i := 12) (some 144) (v := undef) rfl rfl (by kernel_rfl) (by kernel_rfl) (by kernel_rfl) (fun _ _ _ h => h) (Or.inr ⟨by kernel_rfl, rfl⟩) HH.out ?_
        try simp only [Act.put, List.setIfInBounds_toArray, List.set_cons_zero, List.set_cons_succ]
        refine wpAnyH_take_at (i := 13) (some 145) (v := ?_) rfl rfl (by kernel_rfl) (by kernel_rfl) (by kernel_rfl) (fun _ _ _ h => h) (Or.inl ⟨by kernel_rfl, ?_⟩) HH.out ?_
        rotate_left
        · (intro w hSw; (try dsimp only at hSw); go_simp; try (with_reducible rfl))
        try simp only [Act.put, List.setIfInBounds_toArray, List.set_cons_zero, List.set_cons_succ]
        refine wpAnyH_take_at (i := 14) (some 146) (v := ?_) rfl rfl (by kernel_rfl) (by kernel_rfl) (by kernel_rfl) (fun _ _ _ h => h) (Or.inl ⟨by kernel_rfl, ?_⟩) HH.out ?_
        rotate_left
        · (intro w hSw; (try dsimp only at hSw); go_simp; try (with_reducible rfl))
        try simp only [Act.put, List.setIfInBounds_toArray, List.set_cons_zero, List.set_cons_succ]
        refine wpAnyH_take_at (i := 15) (some 147) (v := ?_) rfl rfl (by kernel_rfl) (by kernel_rfl) (by kernel_rfl) (fun _ _ _ h => h) (Or.inl ⟨by kernel_rfl, ?_⟩) HH.out ?_
        rotate_left
        · (intro w hSw; (try dsimp only at hSw); go_simp; try (with_reducible rfl))
        try simp only [Act.put, List.setIfInBounds_toArray, List.set_cons_zero, List.set_cons_succ]
        refine wpAnyH_take_at (i := 16) (some 148) (v := ?_) rfl rfl (by kernel_rfl) (by kernel_rfl) (by kernel_rfl) (fun _ _ _ h => h) (Or.inl ⟨by kernel_rfl, ?_⟩) HH.out ?_
        rotate_left
        · (intro w hSw; (try dsimp only at hSw); go_simp; try (with_reducible rfl))
        try simp only [Act.put, List.setIfInBounds_toArray, List.set_cons_zero, List.set_cons_succ]
        refine wpAnyH_take_at (i := 17) (some 149) (v := ?_) rfl rfl (by kernel_rfl) (by kernel_rfl) (by kernel_rfl) (fun _ _ _ h => h) (Or.inl ⟨by kernel_rfl, ?_⟩) HH.out ?_
        rotate_left
        · (intro w hSw; (try dsimp only at hSw); go_simp; try (with_reducible rfl))
        try simp only [Act.put, List.setIfInBounds_toArray, List.set_cons_zero, List.set_cons_succ]
        refine wpAnyH_take_at (i := 18) (some 150) (v := ?_) rfl rfl (by kernel_rfl) (by kernel_rfl) (by kernel_rfl) (fun _ _ _ h => h) (Or.inl ⟨by kernel_rfl, ?_⟩) HH.out ?_
        rotate_left
        · (intro w hSw; (try dsimp only at hSw); go_simp; try (with_reducible rfl))
        try simp only [Act.put, List.setIfInBounds_toArray, List.set_cons_zero, List.set_cons_succ]
        refine wpAnyH_take_at (i := 19) (some 151) (v := ?_) rfl rfl (by kernel_rfl) (by kernel_rfl) (by kernel_rfl) (fun _ _ _ h => h) (Or.inl ⟨by kernel_rfl, ?_⟩) HH.out ?_
        rotate_left
        · (intro w hSw; (try dsimp only at hSw); go_simp; try (with_reducible rfl))
        try simp only [Act.put, List.setIfInBounds_toArray, List.set_cons_zero, List.set_cons_succ]
        refine wpAnyH_take_at (i := 21) (some 153) (v := ?_) rfl rfl (by kernel_rfl) (by kernel_rfl) (by kernel_rfl) (fun _ _ _ h => h) (Or.inl ⟨by kernel_rfl, ?_⟩) HH.out ?_
        rotate_left
        · (intro w hSw; (try dsimp only at hSw); go_simp; try (with_reducible rfl))
        try simp only [Act.put, List.setIfInBounds_toArray, List.set_cons_zero, List.set_cons_succ]
        refine wpAnyH_take_at (i := 22) (some 154) (v := ?_) rfl rfl (by kernel_rfl) (by kernel_rfl) (by kernel_rfl) (fun _ _ _ h => h) (Or.inl ⟨by kernel_rfl, ?_⟩) HH.out ?_
        rotate_left
        · (intro w hSw; (try dsimp only at hSw); go_simp; try (with_reducible rfl))
        try simp only [Act.put, List.setIfInBounds_toArray, List.set_cons_zero, List.set_cons_succ]
        refine wpAnyH_ready (rs := [20]) (by kernel_rfl) (by simp) ?_
        refine AllReadyH.cons rfl (fun K hK => ?_) AllReadyH.nil
        go_simp
        (with_reducible refine (Order_back T2 _ hT2).mono ?_)
        rintro e wob1 ⟨rfl, hbob1⟩
        have HBb1 := Lib.hid (show Below W0.heap.size W0 wob1 from bjoin (w := W0) (by have hb0 := (Below.refl W0.heap.size W0); first | exact hb0 | exact hb0.drew) hbob1)
        clear hbob1
        refine hK.out _ _ (HQ.out _ HBb1.out) (fun hHeld => ?_)
        try simp only [Act.put, List.setIfInBounds_toArray, List.set_cons_zero, List.set_cons_succ]
        have HHb1 := Lib.hid hHeld; clear hHeld
        refine wpAnyH_ready (rs := [23]) (by kernel_rfl) (by simp) ?_
        refine AllReadyH.cons rfl (fun K hK => ?_) AllReadyH.nil
        go_simp
        (with_reducible refine (HOK.out _).mono ?_)
        rintro e wob2 ⟨rfl, hbob2⟩
        have HBb2 := Lib.hid (show Below W0.heap.size W0 wob2 from bjoin (w := W0) (by have hb0 := HBb1.out; first | exact hb0 | exact hb0.drew) hbob2)
        clear hbob2
        refine hK.out _ _ (HQ.out _ HBb2.out) (fun hHeld => ?_)
        try simp only [Act.put, List.setIfInBounds_toArray, List.set_cons_zero, List.set_cons_succ]
        have HHb2 := Lib.hid hHeld; clear hHeld
        refine wpAnyH_take_at (i := 24) (some 156) (v := ?_) rfl rfl (by kernel_rfl) (by kernel_rfl) (by kernel_rfl) (fun _ _ _ h => h) (Or.inl ⟨by kernel_rfl, ?_⟩) HHb2.out ?_
        rotate_left
        · (intro w hSw; (try dsimp only at hSw); go_simp; try (with_reducible rfl))
        try simp only [Act.put, List.setIfInBounds_toArray, List.set_cons_zero, List.set_cons_succ]
        refine wpAnyH_take_at (i := 25) (some 157) (v := ?_) rfl rfl (by kernel_rfl) (by kernel_rfl) (by kernel_rfl) (fun _ _ _ h => h) (Or.inl ⟨by kernel_rfl, ?_⟩) HHb2.out ?_
        rotate_left
        · (intro w hSw; (try dsimp only at hSw); go_simp; try (with_reducible rfl))
        try simp only [Act.put, List.setIfInBounds_toArray, List.set_cons_zero, List.set_cons_succ]
        refine wpAnyH_take_at (i := 26) (some 158) (v := ?_) rfl rfl (by kernel_rfl) (by kernel_rfl) (by kernel_rfl) (fun _ _ _ h => h) (Or.inl ⟨by kernel_rfl, ?_⟩) HHb2.out ?_
        rotate_left
        · (intro w hSw; (try dsimp only at hSw); go_simp; try (with_reducible rfl))
        try simp only [Act.put, List.setIfInBounds_toArray, List.set_cons_zero, List.set_cons_succ]
        refine wpAnyH_done (by kernel_rfl) ?_ _
        go_wp2
        go_roundw
        case rel => exact ⟨k + 1, by omega, by go_num, bjoin H5.out (bjoin HCW.out HBb2.out), bjoin HBW.out HBb2.out⟩
        case measure => simp [intOf]; omega
      · have HTT := Lib.hid (fun W hW => Told_none (c1 := c1) (c2 := c2) (c3 := c3) (bl L D R S day k - 1) W (HSEA.out.to hW) HO.out (by omega) (by omega))
        have hk0 : k = 0 ∧ day ≤ 0 := by omega
        have hk1 : k ≤ 0 := by omega
        have hd0 := hk0.2
        clear hk0
        generalize toldN L D R S (bl L D R S day k - 1) = T2 at *
        generalize toldN L D R S (bl L D R S day k) % 60 = T1 at *
        generalize bl L D R S day (k + 1) = X1 at *
        generalize bl L D R S day k = X0 at *
        go_wp2_with fail
        refine (HFI.out _ (by have hb' := HB10.out; have hb'' := hb'.size; (repeat refine below_drewN ?_ _); go_grown)).mono ?_
        rintro e w11 ⟨rfl, hb⟩
        have HB11 := Lib.hid (bjoin (w := w) (by have hb' := HB10.out; have hb'' := hb'.size; (repeat refine below_drewN ?_ _); go_grown) hb)
        have HC11 := Lib.hid (bjoin (w := w10) (by have hb' := (Below.refl w10.heap.size w10); have hb'' := hb'.size; go_grown) hb)
        have z11_0 := lt_id (b := w.heap.size) hb (by first | omega | (simp; done) | (simp; omega))
        have t11_l0 := keep_lt (b := w.heap.size) hb z11_0
        have t11_0_0 := keep_cell (b := w.heap.size) (o := 0) (v := .int .i64 L) hb z11_0 (by first | (with_reducible assumption) | (with_reducible exact cell_alloc_l _ (by assumption)) | (with_reducible exact cell_alloc_l _ (cell_alloc_l _ (by assumption))) | (simp [go_sem]; done) | assumption | exact cell_alloc_l _ (by assumption) | exact cell_alloc_l _ (cell_alloc_l _ (by assumption)) | (simp [go_sem, *]; done))
        have t11_0_1 := keep_cell (b := w.heap.size) (o := 1) (v := .slice (some ⟨b1, o1, none⟩) n c1) hb z11_0 (by first | (with_reducible assumption) | (with_reducible exact cell_alloc_l _ (by assumption)) | (with_reducible exact cell_alloc_l _ (cell_alloc_l _ (by assumption))) | (simp [go_sem]; done) | assumption | exact cell_alloc_l _ (by assumption) | exact cell_alloc_l _ (cell_alloc_l _ (by assumption)) | (simp [go_sem, *]; done))
        have t11_0_2 := keep_cell (b := w.heap.size) (o := 2) (v := .slice (some ⟨b2, o2, none⟩) n c2) hb z11_0 (by first | (with_reducible assumption) | (with_reducible exact cell_alloc_l _ (by assumption)) | (with_reducible exact cell_alloc_l _ (cell_alloc_l _ (by assumption))) | (simp [go_sem]; done) | assumption | exact cell_alloc_l _ (by assumption) | exact cell_alloc_l _ (cell_alloc_l _ (by assumption)) | (simp [go_sem, *]; done))
        have t11_0_3 := keep_cell (b := w.heap.size) (o := 3) (v := .slice (some ⟨b3, o3, none⟩) n c3) hb z11_0 (by first | (with_reducible assumption) | (with_reducible exact cell_alloc_l _ (by assumption)) | (with_reducible exact cell_alloc_l _ (cell_alloc_l _ (by assumption))) | (simp [go_sem]; done) | assumption | exact cell_alloc_l _ (by assumption) | exact cell_alloc_l _ (cell_alloc_l _ (by assumption)) | (simp [go_sem, *]; done))
        have z11_1 := lt_id (b := w10.heap.size) hb (by first | omega | (simp; done) | (simp; omega))
        have t11_l1 := keep_lt (b := w10.heap.size) hb z11_1
        have t11_1_0 := keep_cell (b := w10.heap.size) (o := 0) (v := .bool (decide (12 ≤ (k : Int)))) hb z11_1 (by first | (with_reducible assumption) | (with_reducible exact cell_alloc_l _ (by assumption)) | (with_reducible exact cell_alloc_l _ (cell_alloc_l _ (by assumption))) | (simp [go_sem]; done) | assumption | exact cell_alloc_l _ (by assumption) | exact cell_alloc_l _ (cell_alloc_l _ (by assumption)) | (simp [go_sem, *]; done))
        have t11_1_1 := keep_cell (b := w10.heap.size) (o := 1) (v := .int .i64 ((k : Int) % 12)) hb z11_1 (by first | (with_reducible assumption) | (with_reducible exact cell_alloc_l _ (by assumption)) | (with_reducible exact cell_alloc_l _ (cell_alloc_l _ (by assumption))) | (simp [go_sem]; done) | assumption | exact cell_alloc_l _ (by assumption) | exact cell_alloc_l _ (cell_alloc_l _ (by assumption)) | (simp [go_sem, *]; done))
        have t11_1_2 := keep_cell (b := w10.heap.size) (o := 2) (v := .int .i64 0) hb z11_1 (by first | (with_reducible assumption) | (with_reducible exact cell_alloc_l _ (by assumption)) | (with_reducible exact cell_alloc_l _ (cell_alloc_l _ (by assumption))) | (simp [go_sem]; done) | assumption | exact cell_alloc_l _ (by assumption) | exact cell_alloc_l _ (cell_alloc_l _ (by assumption)) | (simp [go_sem, *]; done))
        clear z11_0 z11_1
        clear t10_0_0 t10_0_1 t10_0_2 t10_0_3 t10_l0
        clear hb
        have r1 := R1.out _ (bjoin H5.out HC11.out)
        clear r0
        go_wp2_with fail
        refine (HTB.out _ (by have hb' := HB11.out; have hb'' := hb'.size; (repeat refine below_drewN ?_ _); go_grown)).mono ?_
        rintro e w12 ⟨rfl, hb⟩
        have HB12 := Lib.hid (bjoin (w := w) (by have hb' := HB11.out; have hb'' := hb'.size; (repeat refine below_drewN ?_ _); go_grown) hb)
        have HC12 := Lib.hid (bjoin (w := w10) (by have hb' := HC11.out; have hb'' := hb'.size; go_grown) hb)
        have z12_0 := lt_id (b := w.heap.size) hb (by first | omega | (simp; done) | (simp; omega))
        have t12_l0 := keep_lt (b := w.heap.size) hb z12_0
        have t12_0_0 := keep_cell (b := w.heap.size) (o := 0) (v := .int .i64 L) hb z12_0 (by first | (with_reducible assumption) | (with_reducible exact cell_alloc_l _ (by assumption)) | (with_reducible exact cell_alloc_l _ (cell_alloc_l _ (by assumption))) | (simp [go_sem]; done) | assumption | exact cell_alloc_l _ (by assumption) | exact cell_alloc_l _ (cell_alloc_l _ (by assumption)) | (simp [go_sem, *]; done))
        have t12_0_1 := keep_cell (b := w.heap.size) (o := 1) (v := .slice (some ⟨b1, o1, none⟩) n c1) hb z12_0 (by first | (with_reducible assumption) | (with_reducible exact cell_alloc_l _ (by assumption)) | (with_reducible exact cell_alloc_l _ (cell_alloc_l _ (by assumption))) | (simp [go_sem]; done) | assumption | exact cell_alloc_l _ (by assumption) | exact cell_alloc_l _ (cell_alloc_l _ (by assumption)) | (simp [go_sem, *]; done))
        have t12_0_2 := keep_cell (b := w.heap.size) (o := 2) (v := .slice (some ⟨b2, o2, none⟩) n c2) hb z12_0 (by first | (with_reducible assumption) | (with_reducible exact cell_alloc_l _ (by assumption)) | (with_reducible exact cell_alloc_l _ (cell_alloc_l _ (by assumption))) | (simp [go_sem]; done) | assumption | exact cell_alloc_l _ (by assumption) | exact cell_alloc_l _ (cell_alloc_l _ (by assumption)) | (simp [go_sem, *]; done))
        have t12_0_3 := keep_cell (b := w.heap.size) (o := 3) (v := .slice (some ⟨b3, o3, none⟩) n c3) hb z12_0 (by first | (with_reducible assumption) | (with_reducible exact cell_alloc_l _ (by assumption)) | (with_reducible exact cell_alloc_l _ (cell_alloc_l _ (by assumption))) | (simp [go_sem]; done) | assumption | exact cell_alloc_l _ (by assumption) | exact cell_alloc_l _ (cell_alloc_l _ (by assumption)) | (simp [go_sem, *]; done))
        have z12_1 := lt_id (b := w10.heap.size) hb (by first | omega | (simp; done) | (simp; omega))
        have t12_l1 := keep_lt (b := w10.heap.size) hb z12_1
        have t12_1_0 := keep_cell (b := w10.heap.size) (o := 0) (v := .bool (decide (12 ≤ (k : Int)))) hb z12_1 (by first | (with_reducible assumption) | (with_reducible exact cell_alloc_l _ (by assumption)) | (with_reducible exact cell_alloc_l _ (cell_alloc_l _ (by assumption))) | (simp [go_sem]; done) | assumption | exact cell_alloc_l _ (by assumption) | exact cell_alloc_l _ (cell_alloc_l _ (by assumption)) | (simp [go_sem, *]; done))
        have t12_1_1 := keep_cell (b := w10.heap.size) (o := 1) (v := .int .i64 ((k : Int) % 12)) hb z12_1 (by first | (with_reducible assumption) | (with_reducible exact cell_alloc_l _ (by assumption)) | (with_reducible exact cell_alloc_l _ (cell_alloc_l _ (by assumption))) | (simp [go_sem]; done) | assumption | exact cell_alloc_l _ (by assumption) | exact cell_alloc_l _ (cell_alloc_l _ (by assumption)) | (simp [go_sem, *]; done))
        have t12_1_2 := keep_cell (b := w10.heap.size) (o := 2) (v := .int .i64 0) hb z12_1 (by first | (with_reducible assumption) | (with_reducible exact cell_alloc_l _ (by assumption)) | (with_reducible exact cell_alloc_l _ (cell_alloc_l _ (by assumption))) | (simp [go_sem]; done) | assumption | exact cell_alloc_l _ (by assumption) | exact cell_alloc_l _ (cell_alloc_l _ (by assumption)) | (simp [go_sem, *]; done))
        clear z12_0 z12_1
        clear t11_0_0 t11_0_1 t11_0_2 t11_0_3 t11_l0 t11_1_0 t11_1_1 t11_1_2 t11_l1
        clear hb
        go_wp2_with fail
        clear r1
        have zz2 : w.heap.size ≤ w12.heap.size := HB12.out.size
        have ne2_0 : ¬ (w.heap.size) = w12.heap.size := by omega
        have nf2_0 : ¬ (w12.heap.size) = w.heap.size := by omega
        have ne2_1 : ¬ (w10.heap.size) = w12.heap.size := by omega
        have nf2_1 : ¬ (w12.heap.size) = w10.heap.size := by omega
        refine (HTT.out _ (by have hb' := HB12.out; have hb'' := hb'.size; (repeat refine below_drewN ?_ _); go_grown)).mono ?_
        rintro e w13 ⟨rfl, hb⟩
        have HB13 := Lib.hid (bjoin (w := w) (by have hb' := HB12.out; have hb'' := hb'.size; (repeat refine below_drewN ?_ _); go_grown) hb)
        have HC13 := Lib.hid (bjoin (w := w10) (by have hb' := HC12.out; have hb'' := hb'.size; go_grown) hb)
        have z13_0 := lt_id (b := w.heap.size) hb (by first | omega | (simp; done) | (simp; omega))
        have t13_l0 := keep_lt (b := w.heap.size) hb z13_0
        have t13_0_0 := keep_cell (b := w.heap.size) (o := 0) (v := .int .i64 L) hb z13_0 (by first | (with_reducible assumption) | (with_reducible exact cell_alloc_l _ (by assumption)) | (with_reducible exact cell_alloc_l _ (cell_alloc_l _ (by assumption))) | (simp [go_sem]; done) | assumption | exact cell_alloc_l _ (by assumption) | exact cell_alloc_l _ (cell_alloc_l _ (by assumption)) | (simp [go_sem, *]; done))
        have t13_0_1 := keep_cell (b := w.heap.size) (o := 1) (v := .slice (some ⟨b1, o1, none⟩) n c1) hb z13_0 (by first | (with_reducible assumption) | (with_reducible exact cell_alloc_l _ (by assumption)) | (with_reducible exact cell_alloc_l _ (cell_alloc_l _ (by assumption))) | (simp [go_sem]; done) | assumption | exact cell_alloc_l _ (by assumption) | exact cell_alloc_l _ (cell_alloc_l _ (by assumption)) | (simp [go_sem, *]; done))
        have t13_0_2 := keep_cell (b := w.heap.size) (o := 2) (v := .slice (some ⟨b2, o2, none⟩) n c2) hb z13_0 (by first | (with_reducible assumption) | (with_reducible exact cell_alloc_l _ (by assumption)) | (with_reducible exact cell_alloc_l _ (cell_alloc_l _ (by assumption))) | (simp [go_sem]; done) | assumption | exact cell_alloc_l _ (by assumption) | exact cell_alloc_l _ (cell_alloc_l _ (by assumption)) | (simp [go_sem, *]; done))
        have t13_0_3 := keep_cell (b := w.heap.size) (o := 3) (v := .slice (some ⟨b3, o3, none⟩) n c3) hb z13_0 (by first | (with_reducible assumption) | (with_reducible exact cell_alloc_l _ (by assumption)) | (with_reducible exact cell_alloc_l _ (cell_alloc_l _ (by assumption))) | (simp [go_sem]; done) | assumption | exact cell_alloc_l _ (by assumption) | exact cell_alloc_l _ (cell_alloc_l _ (by assumption)) | (simp [go_sem, *]; done))
        have z13_1 := lt_id (b := w10.heap.size) hb (by first | omega | (simp; done) | (simp; omega))
        have t13_l1 := keep_lt (b := w10.heap.size) hb z13_1
        have t13_1_0 := keep_cell (b := w10.heap.size) (o := 0) (v := .bool (decide (12 ≤ (k : Int)))) hb z13_1 (by first | (with_reducible assumption) | (with_reducible exact cell_alloc_l _ (by assumption)) | (with_reducible exact cell_alloc_l _ (cell_alloc_l _ (by assumption))) | (simp [go_sem]; done) | assumption | exact cell_alloc_l _ (by assumption) | exact cell_alloc_l _ (cell_alloc_l _ (by assumption)) | (simp [go_sem, *]; done))
        have t13_1_1 := keep_cell (b := w10.heap.size) (o := 1) (v := .int .i64 ((k : Int) % 12)) hb z13_1 (by first | (with_reducible assumption) | (with_reducible exact cell_alloc_l _ (by assumption)) | (with_reducible exact cell_alloc_l _ (cell_alloc_l _ (by assumption))) | (simp [go_sem]; done) | assumption | exact cell_alloc_l _ (by assumption) | exact cell_alloc_l _ (cell_alloc_l _ (by assumption)) | (simp [go_sem, *]; done))
        have t13_1_2 := keep_cell (b := w10.heap.size) (o := 2) (v := .int .i64 0) hb z13_1 (by first | (with_reducible assumption) | (with_reducible exact cell_alloc_l _ (by assumption)) | (with_reducible exact cell_alloc_l _ (cell_alloc_l _ (by assumption))) | (simp [go_sem]; done) | assumption | exact cell_alloc_l _ (by assumption) | exact cell_alloc_l _ (cell_alloc_l _ (by assumption)) | (simp [go_sem, *]; done))
        have z13_2 := lt_id (b := w12.heap.size) hb (by first | omega | (simp; done) | (simp; omega))
        have t13_l2 := keep_lt (b := w12.heap.size) hb z13_2
        have t13_2_0 := keep_cell (b := w12.heap.size) (o := 0) (v := .bool (decide (12 ≤ (k : Int)))) hb z13_2 (by first | (with_reducible assumption) | (with_reducible exact cell_alloc_l _ (by assumption)) | (with_reducible exact cell_alloc_l _ (cell_alloc_l _ (by assumption))) | (simp [go_sem]; done) | assumption | exact cell_alloc_l _ (by assumption) | exact cell_alloc_l _ (cell_alloc_l _ (by assumption)) | (simp [go_sem, *]; done))
        have t13_2_1 := keep_cell (b := w12.heap.size) (o := 1) (v := .int .i64 ((k : Int) % 12)) hb z13_2 (by first | (with_reducible assumption) | (with_reducible exact cell_alloc_l _ (by assumption)) | (with_reducible exact cell_alloc_l _ (cell_alloc_l _ (by assumption))) | (simp [go_sem]; done) | assumption | exact cell_alloc_l _ (by assumption) | exact cell_alloc_l _ (cell_alloc_l _ (by assumption)) | (simp [go_sem, *]; done))
        have t13_2_2 := keep_cell (b := w12.heap.size) (o := 2) (v := .int .i64 T1) hb z13_2 (by first | (with_reducible assumption) | (with_reducible exact cell_alloc_l _ (by assumption)) | (with_reducible exact cell_alloc_l _ (cell_alloc_l _ (by assumption))) | (simp [go_sem]; done) | assumption | exact cell_alloc_l _ (by assumption) | exact cell_alloc_l _ (cell_alloc_l _ (by assumption)) | (simp [go_sem, *]; done))
        have f13_2_0 := keep_fr (b := w12.heap.size) (o := 0) hb z13_2 (by first | (with_reducible assumption) | (simp [go_sem]; done) | (simp [go_sem, *]; done))
        have f13_2_1 := keep_fr (b := w12.heap.size) (o := 1) hb z13_2 (by first | (with_reducible assumption) | (simp [go_sem]; done) | (simp [go_sem, *]; done))
        have f13_2_2 := keep_fr (b := w12.heap.size) (o := 2) hb z13_2 (by first | (with_reducible assumption) | (simp [go_sem]; done) | (simp [go_sem, *]; done))
        clear z13_0 z13_1 z13_2
        clear t12_0_0 t12_0_1 t12_0_2 t12_0_3 t12_l0 t12_1_0 t12_1_1 t12_1_2 t12_l1
        clear hb
        go_wp2_with fail
        have cb1 : decide ((0 : Int) < day) = false := decide_eq_false (by omega)
        have cb2 : decide ((0 : Int) < (k : Int)) = false := decide_eq_false (by omega)
        have cb3 : decide (0 < k) = false := decide_eq_false (by omega)
        refine wp_name ?_
        intro W0 hW0
        have HBW := Lib.hid (show Below w.heap.size w W0 from hW0 ▸ (by have hb' := HB13.out; have hb'' := hb'.size; (repeat refine below_drewN ?_ _); go_grown))
        have zz10 : w10.heap.size ≤ w12.heap.size := HC12.out.size
        have HCW := Lib.hid (show Below w10.heap.size w10 W0 from hW0 ▸ (by have hb' := HC13.out; have hb'' := hb'.size; go_grown <;> exact zz10))
        clear zz10
        have g_l1 : w10.heap.size < W0.heap.size := by rw [← hW0]; first | omega | (simp; done) | (simp; omega)
        have g_1_0 : W0.cell? ⟨w10.heap.size, 0, none⟩ = some (.bool (decide (12 ≤ (k : Int)))) := by rw [← hW0]; first | (with_reducible assumption) | (with_reducible exact cell_after3 (by assumption) (by omega)) | (with_reducible exact (cell_new3 (by assumption) (by assumption) (by assumption)).1) | (with_reducible exact (cell_new3 (by assumption) (by assumption) (by assumption)).2.1) | (with_reducible exact (cell_new3 (by assumption) (by assumption) (by assumption)).2.2)
        have g_1_1 : W0.cell? ⟨w10.heap.size, 1, none⟩ = some (.int .i64 ((k : Int) % 12)) := by rw [← hW0]; first | (with_reducible assumption) | (with_reducible exact cell_after3 (by assumption) (by omega)) | (with_reducible exact (cell_new3 (by assumption) (by assumption) (by assumption)).1) | (with_reducible exact (cell_new3 (by assumption) (by assumption) (by assumption)).2.1) | (with_reducible exact (cell_new3 (by assumption) (by assumption) (by assumption)).2.2)
        have g_1_2 : W0.cell? ⟨w10.heap.size, 2, none⟩ = some (.int .i64 0) := by rw [← hW0]; first | (with_reducible assumption) | (with_reducible exact cell_after3 (by assumption) (by omega)) | (with_reducible exact (cell_new3 (by assumption) (by assumption) (by assumption)).1) | (with_reducible exact (cell_new3 (by assumption) (by assumption) (by assumption)).2.1) | (with_reducible exact (cell_new3 (by assumption) (by assumption) (by assumption)).2.2)
        have g_l2 : w12.heap.size < W0.heap.size := by rw [← hW0]; first | omega | (simp; done) | (simp; omega)
        have g_2_0 : W0.cell? ⟨w12.heap.size, 0, none⟩ = some (.bool false) := by rw [← hW0]; first | (with_reducible assumption) | (with_reducible exact cell_after3 (by assumption) (by omega)) | (with_reducible exact (cell_new3 (by assumption) (by assumption) (by assumption)).1) | (with_reducible exact (cell_new3 (by assumption) (by assumption) (by assumption)).2.1) | (with_reducible exact (cell_new3 (by assumption) (by assumption) (by assumption)).2.2)
        have g_2_1 : W0.cell? ⟨w12.heap.size, 1, none⟩ = some (.int .i64 0) := by rw [← hW0]; first | (with_reducible assumption) | (with_reducible exact cell_after3 (by assumption) (by omega)) | (with_reducible exact (cell_new3 (by assumption) (by assumption) (by assumption)).1) | (with_reducible exact (cell_new3 (by assumption) (by assumption) (by assumption)).2.1) | (with_reducible exact (cell_new3 (by assumption) (by assumption) (by assumption)).2.2)
        have g_2_2 : W0.cell? ⟨w12.heap.size, 2, none⟩ = some (.int .i64 0) := by rw [← hW0]; first | (with_reducible assumption) | (with_reducible exact cell_after3 (by assumption) (by omega)) | (with_reducible exact (cell_new3 (by assumption) (by assumption) (by assumption)).1) | (with_reducible exact (cell_new3 (by assumption) (by assumption) (by assumption)).2.1) | (with_reducible exact (cell_new3 (by assumption) (by assumption) (by assumption)).2.2)
        clear t13_0_0 t13_0_1 t13_0_2 t13_0_3 t13_l0 t13_1_0 t13_1_1 t13_1_2 t13_l1 t13_2_0 t13_2_1 t13_2_2 t13_l2 f13_2_0 f13_2_1 f13_2_2
        clear hW0
        have HQ := Lib.hid (show ∀ W', Below W0.heap.size W0 W' → W'.cell? ⟨w10.heap.size, 0, none⟩ = some (.bool (decide (12 ≤ (k : Int)))) ∧ W'.cell? ⟨w10.heap.size, 1, none⟩ = some (.int .i64 ((k : Int) % 12)) ∧ W'.cell? ⟨w10.heap.size, 2, none⟩ = some (.int .i64 0) ∧ W'.cell? ⟨w12.heap.size, 0, none⟩ = some (.bool false) ∧ W'.cell? ⟨w12.heap.size, 1, none⟩ = some (.int .i64 0) ∧ W'.cell? ⟨w12.heap.size, 2, none⟩ = some (.int .i64 0) ∧ Below W0.heap.size W0 W' from fun W' hBW => ⟨keep_cell hBW g_l1 g_1_0, keep_cell hBW g_l1 g_1_1, keep_cell hBW g_l1 g_1_2, keep_cell hBW g_l2 g_2_0, keep_cell hBW g_l2 g_2_1, keep_cell hBW g_l2 g_2_2, hBW⟩)
        clear g_l1 g_l2 g_1_0 g_1_1 g_1_2 g_2_0 g_2_1 g_2_2
        refine wp_region_held_lit (S := fun W' => W'.cell? ⟨w10.heap.size, 0, none⟩ = some (.bool (decide (12 ≤ (k : Int)))) ∧ W'.cell? ⟨w10.heap.size, 1, none⟩ = some (.int .i64 ((k : Int) % 12)) ∧ W'.cell? ⟨w10.heap.size, 2, none⟩ = some (.int .i64 0) ∧ W'.cell? ⟨w12.heap.size, 0, none⟩ = some (.bool false) ∧ W'.cell? ⟨w12.heap.size, 1, none⟩ = some (.int .i64 0) ∧ W'.cell? ⟨w12.heap.size, 2, none⟩ = some (.int .i64 0) ∧ Below W0.heap.size W0 W') 27 #[false, false, false, false, false, false, false, false, false, false, false, false, false, false, false, false, false, false, false, false, false, false, false, false, false, false, false] (by rfl) (by rfl) (by kernel_rfl) (HQ.out _ (Below.refl _ _).drew) ?_
        intro hHeld
        have HH := Lib.hid hHeld; clear hHeld
        refine wpAnyH_take_at (i := 0) (some 132) (v := ?_) rfl rfl (by kernel_rfl) (by kernel_rfl) (by kernel_rfl) (fun _ _ _ h => h) (Or.inl ⟨by kernel_rfl, ?_⟩) HH.out ?_
        rotate_left
        · (intro w hSw; (try dsimp only at hSw); go_simp; try (with_reducible rfl))
        try simp only [Act.put, List.setIfInBounds_toArray, List.set_cons_zero, List.set_cons_succ]
        refine wpAnyH_take_at (i := 1) (some 133) (v := ?_) rfl rfl (by kernel_rfl) (by kernel_rfl) (by kernel_rfl) (fun _ _ _ h => h) (Or.inl ⟨by kernel_rfl, ?_⟩) HH.out ?_
        rotate_left
        · (intro w hSw; (try dsimp only at hSw); go_simp; try (with_reducible rfl))
        try simp only [Act.put, List.setIfInBounds_toArray, List.set_cons_zero, List.set_cons_succ]
        refine wpAnyH_take_at (i := 2) (some 134) (v := ?_) rfl rfl (by kernel_rfl) (by kernel_rfl) (by kernel_rfl) (fun _ _ _ h => h) (Or.inl ⟨by kernel_rfl, ?_⟩) HH.out ?_
        rotate_left
        · (intro w hSw; (try dsimp only at hSw); go_simp; try (with_reducible rfl))
        try simp only [Act.put, List.setIfInBounds_toArray, List.set_cons_zero, List.set_cons_succ]
        refine wpAnyH_take_at (i := 3) (some 135) (v := ?_) rfl rfl (by kernel_rfl) (by kernel_rfl) (by kernel_rfl) (fun _ _ _ h => h) (Or.inl ⟨by kernel_rfl, ?_⟩) HH.out ?_
        rotate_left
        · (intro w hSw; (try dsimp only at hSw); go_simp; try (with_reducible rfl))
        try simp only [Act.put, List.setIfInBounds_toArray, List.set_cons_zero, List.set_cons_succ]
        refine wpAnyH_take_at (i := 4) (some 136) (v := ?_) rfl rfl (by kernel_rfl) (by kernel_rfl) (by kernel_rfl) (fun _ _ _ h => h) (Or.inl ⟨by kernel_rfl, ?_⟩) HH.out ?_
        rotate_left
        · (intro w hSw; (try dsimp only at hSw); go_simp; try (with_reducible rfl))
        try simp only [Act.put, List.setIfInBounds_toArray, List.set_cons_zero, List.set_cons_succ]
        refine wpAnyH_take_at (i := 5) (some 137) (v := ?_) rfl rfl (by kernel_rfl) (by kernel_rfl) (by kernel_rfl) (fun _ _ _ h => h) (Or.inl ⟨by kernel_rfl, ?_⟩) HH.out ?_
        rotate_left
        · (intro w hSw; (try dsimp only at hSw); go_simp; try (with_reducible rfl))
        try simp only [Act.put, List.setIfInBounds_toArray, List.set_cons_zero, List.set_cons_succ]
        refine wpAnyH_take_at (i := 6) (some 138) (v := ?_) rfl rfl (by kernel_rfl) (by kernel_rfl) (by kernel_rfl) (fun _ _ _ h => h) (Or.inl ⟨by kernel_rfl, ?_⟩) HH.out ?_
        rotate_left
        · (intro w hSw; (try dsimp only at hSw); go_simp; try (with_reducible rfl))
        try simp only [Act.put, List.setIfInBounds_toArray, List.set_cons_zero, List.set_cons_succ]
        refine wpAnyH_take_at (i := 7) (some 139) (v := ?_) rfl rfl (by kernel_rfl) (by kernel_rfl) (by kernel_rfl) (fun _ _ _ h => h) (Or.inl ⟨by kernel_rfl, ?_⟩) HH.out ?_
        rotate_left
        · (intro w hSw; (try dsimp only at hSw); go_simp; try (with_reducible rfl))
        try simp only [Act.put, List.setIfInBounds_toArray, List.set_cons_zero, List.set_cons_succ]
        refine wpAnyH_take_at (i := 8) (some 140) (v := ?_) rfl rfl (by kernel_rfl) (by kernel_rfl) (by kernel_rfl) (fun _ _ _ h => h) (Or.inl ⟨by kernel_rfl, ?_⟩) HH.out ?_
        rotate_left
        · (intro w hSw; (try dsimp only at hSw); go_simp; try (with_reducible rfl))
        try simp only [Act.put, List.setIfInBounds_toArray, List.set_cons_zero, List.set_cons_succ]
        refine wpAnyH_take_at (i := 9) (some 141) (v := ?_) rfl rfl (by kernel_rfl) (by kernel_rfl) (by kernel_rfl) (fun _ _ _ h => h) (Or.inl ⟨by kernel_rfl, ?_⟩) HH.out ?_
        rotate_left
        · (intro w hSw; (try dsimp only at hSw); go_simp; try (with_reducible rfl))
        try simp only [Act.put, List.setIfInBounds_toArray, List.set_cons_zero, List.set_cons_succ]
        refine wpAnyH_take_at (i := 10) (some 142) (v := ?_) rfl rfl (by kernel_rfl) (by kernel_rfl) (by kernel_rfl) (fun _ _ _ h => h) (Or.inl ⟨by kernel_rfl, ?_⟩) HH.out ?_
        rotate_left
        · (intro w hSw; (try dsimp only at hSw); go_simp; try (with_reducible rfl))
        try simp only [Act.put, List.setIfInBounds_toArray, List.set_cons_zero, List.set_cons_succ]
        refine wpAnyH_take_at (i := 11) (some 143) (v := ?_) rfl rfl (by kernel_rfl) (by kernel_rfl) (by kernel_rfl) (fun _ _ _ h => h) (Or.inl ⟨by kernel_rfl, ?_⟩) HH.out ?_
        rotate_left
        · (intro w hSw; (try dsimp only at hSw); go_simp; try (with_reducible rfl))
        try simp only [Act.put, List.setIfInBounds_toArray, List.set_cons_zero, List.set_cons_succ]
        refine wpAnyH_take_at (i := 12) (some 144) (v := ?_) rfl rfl (by kernel_rfl) (by kernel_rfl) (by kernel_rfl) (fun _ _ _ h => h) (Or.inl ⟨by kernel_rfl, ?_⟩) HH.out ?_
        rotate_left
        · (intro w hSw; (try dsimp only at hSw); go_simp; try (with_reducible rfl))
        try simp only [Act.put, List.setIfInBounds_toArray, List.set_cons_zero, List.set_cons_succ]
        refine wpAnyH_take_at (i := 13) (some 145) (v := ?_) rfl rfl (by kernel_rfl) (by kernel_rfl) (by kernel_rfl) (fun _ _ _ h => h) (Or.inl ⟨by kernel_rfl, ?_⟩) HH.out ?_
        rotate_left
        · (intro w hSw; (try dsimp only at hSw); go_simp; try (with_reducible rfl))
        try simp only [Act.put, List.setIfInBounds_toArray, List.set_cons_zero, List.set_cons_succ]
        refine wpAnyH_take_at (i := 14) (some 146) (v := ?_) rfl rfl (by kernel_rfl) (by kernel_rfl) (by kernel_rfl) (fun _ _ _ h => h) (Or.inl ⟨by kernel_rfl, ?_⟩) HH.out ?_
        rotate_left
        · (intro w hSw; (try dsimp only at hSw); go_simp; try (with_reducible rfl))
        try simp only [Act.put, List.setIfInBounds_toArray, List.set_cons_zero, List.set_cons_succ]
        refine wpAnyH_take_at (i := 15) (some 147) (v := ?_) rfl rfl (by kernel_rfl) (by kernel_rfl) (by kernel_rfl) (fun _ _ _ h => h) (Or.inl ⟨by kernel_rfl, ?_⟩) HH.out ?_
        rotate_left
        · (intro w hSw; (try dsimp only at hSw); go_simp; try (with_reducible rfl))
        try simp only [Act.put, List.setIfInBounds_toArray, List.set_cons_zero, List.set_cons_succ]
        refine wpAnyH_take_at (i := 16) (some 148) (v := ?_) rfl rfl (by kernel_rfl) (by kernel_rfl) (by kernel_rfl) (fun _ _ _ h => h) (Or.inl ⟨by kernel_rfl, ?_⟩) HH.out ?_
        rotate_left
        · (intro w hSw; (try dsimp only at hSw); go_simp; try (with_reducible rfl))
        try simp only [Act.put, List.setIfInBounds_toArray, List.set_cons_zero, List.set_cons_succ]
        refine wpAnyH_take_at (i := 17) (some 149) (v := ?_) rfl rfl (by kernel_rfl) (by kernel_rfl) (by kernel_rfl) (fun _ _ _ h => h) (Or.inl ⟨by kernel_rfl, ?_⟩) HH.out ?_
        rotate_left
        · (intro w hSw; (try dsimp only at hSw); go_simp; try (with_reducible rfl))
        try simp only [Act.put, List.setIfInBounds_toArray, List.set_cons_zero, List.set_cons_succ]
        refine wpAnyH_take_at (i := 18) (some 150) (v := undef) rfl rfl (by kernel_rfl) (by kernel_rfl) (by kernel_rfl) (fun _ _ _ h => h) (Or.inr ⟨by kernel_rfl, rfl⟩) HH.out ?_
        try simp only [Act.put, List.setIfInBounds_toArray, List.set_cons_zero, List.set_cons_succ]
        refine wpAnyH_take_at (i := 19) (some 151) (v := undef) rfl rfl (by kernel_rfl) (by kernel_rfl) (by kernel_rfl) (fun _ _ _ h => h) (Or.inr ⟨by kernel_rfl, rfl⟩) HH.out ?_
        try simp only [Act.put, List.setIfInBounds_toArray, List.set_cons_zero, List.set_cons_succ]
        refine wpAnyH_take_at (i := 20) (some 152) (v := undef) rfl rfl (by kernel_rfl) (by kernel_rfl) (by kernel_rfl) (fun _ _ _ h => h) (Or.inr ⟨by kernel_rfl, rfl⟩) HH.out ?_
        try simp only [Act.put, List.setIfInBounds_toArray, List.set_cons_zero, List.set_cons_succ]
        refine wpAnyH_take_at (i := 21) (some 153) (v := undef) rfl rfl (by kernel_rfl) (by kernel_rfl) (by kernel_rfl) (fun _ _ _ h => h) (Or.inr ⟨by kernel_rfl, rfl⟩) HH.out ?_
        try simp only [Act.put, List.setIfInBounds_toArray, List.set_cons_zero, List.set_cons_succ]
        refine wpAnyH_take_at (i := 22) (some 154) (v := undef) rfl rfl (by kernel_rfl) (by kernel_rfl) (by kernel_rfl) (fun _ _ _ h => h) (Or.inr ⟨by kernel_rfl, rfl⟩) HH.out ?_
        try simp only [Act.put, List.setIfInBounds_toArray, List.set_cons_zero, List.set_cons_succ]
        refine wpAnyH_take_at (i := 23) (some 155) (v := undef) rfl rfl (by kernel_rfl) (by kernel_rfl) (by kernel_rfl) (fun _ _ _ h => h) (Or.inr ⟨by kernel_rfl, rfl⟩) HH.out ?_
        try simp only [Act.put, List.setIfInBounds_toArray, List.set_cons_zero, List.set_cons_succ]
        refine wpAnyH_take_at (i := 24) (some 156) (v := undef) rfl rfl (by kernel_rfl) (by kernel_rfl) (by kernel_rfl) (fun _ _ _ h => h) (Or.inr ⟨by kernel_rfl, rfl⟩) HH.out ?_
        try simp only [Act.put, List.setIfInBounds_toArray, List.set_cons_zero, List.set_cons_succ]
        refine wpAnyH_take_at (i := 25) (some 157) (v := ?_) rfl rfl (by kernel_rfl) (by kernel_rfl) (by kernel_rfl) (fun _ _ _ h => h) (Or.inl ⟨by kernel_rfl, ?_⟩) HH.out ?_
        rotate_left
        · (intro w hSw; (try dsimp only at hSw); go_simp; try (with_reducible rfl))
        try simp only [Act.put, List.setIfInBounds_toArray, List.set_cons_zero, List.set_cons_succ]
        refine wpAnyH_take_at (i := 26) (some 158) (v := ?_) rfl rfl (by kernel_rfl) (by kernel_rfl) (by kernel_rfl) (fun _ _ _ h => h) (Or.inl ⟨by kernel_rfl, ?_⟩) HH.out ?_
        rotate_left
        · (intro w hSw; (try dsimp only at hSw); go_simp; try (with_reducible rfl))
        try simp only [Act.put, List.setIfInBounds_toArray, List.set_cons_zero, List.set_cons_succ]
        refine wpAnyH_done (by kernel_rfl) ?_ _
        clear cb1 cb2 cb3 hk1 hd0
        go_wp2
        go_roundw
        case rel => exact ⟨k + 1, by omega, by go_num, bjoin H5.out (bjoin HCW.out (Below.refl W0.heap.size W0).drew), bjoin HBW.out (Below.refl W0.heap.size W0).drew⟩
        case measure => simp [intOf]; omega
    · obtain rfl : k = 24 := by omega
      go_wp2
      go_ret
      exact ⟨rfl, HB10.out⟩

set_option maxHeartbeats 2000000 in
theorem BellsL_any {L : Int} {n1 n2 n3 c1 c2 c3 : Nat} {a1 a2 a3 : Option Addr} {D R S : List Int} (day : Int) (w : World) (hD : LstO w a1 n1 D) (hR : LstO w a2 n2 R) (hS : LstO w a3 n3 S) :
   Calls Tryd.prog 17 #[.agg #[.int .i64 L, .slice a1 n1 c1, .slice a2 n2 c2, .slice a3 n3 c3], .int .i64 day] w fun e w' => e = .returned (.bool true) ∧ Below w.heap.size w w' := by
  cases hr : rightB L n1 n2 n3 D R S [day, day + 2] true
  · refine BellsL_no day w hD hR hS (fun x hx => ?_)
    rcases hx with rfl | hx
    · exact hr
    · exact rightB_no (fun ⟨_, _, c, _⟩ => hx (by have := (allB_iff _ _ _).1 c 0 (by simp); simpa using this))
  · obtain ⟨hf, hok, hda, _⟩ := rightB_iff.1 hr
    have hs := seaO_of hD hR hS hf
    obtain ⟨b1, o1, b2, o2, b3, o3, rfl, rfl, rfl, rfl, rfl, hsea⟩ := hs.sea hok
    have h0 := (allB_iff _ _ _).1 hda 0 (by simp)
    have h1 := (allB_iff _ _ _).1 hda 1 (by simp)
    simp at h0 h1
    exact BellsL_yes day w hs hsea hok (by omega) hr

end Go.Proofs.YtomlfliebolkmaaDoor
