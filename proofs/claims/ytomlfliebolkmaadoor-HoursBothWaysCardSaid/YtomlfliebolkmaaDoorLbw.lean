/-
  HoursBothWays: the walk. No condition.
-/
import Derived.Test.YtomlfliebolkmaaDoorKc
set_option linter.unusedVariables false
set_option linter.unusedSimpArgs false
namespace Go.Proofs.YtomlfliebolkmaaDoor
open Go Go.Proofs Go.RowKit Pl

set_option maxRecDepth 100000 in
set_option maxHeartbeats 20000000 in
theorem Both_any {L : Int} {n1 n2 n3 c1 c2 c3 : Nat} {a1 a2 a3 : Option Addr} {D R S : List Int} (day : Int) (b : Bool) (h p minute : Int) (w : World) (hD : LstO w a1 n1 D) (hR : LstO w a2 n2 R) (hS : LstO w a3 n3 S) :
   Calls Tryd.prog 11 #[.agg #[.int .i64 L, .slice a1 n1 c1, .slice a2 n2 c2, .slice a3 n3 c3], .int .i64 day, .agg #[.bool b, .int .i64 h, .int .i64 p], .int .i64 minute] w fun e w' => e = .returned (.bool true) ∧ Below w.heap.size w w' := by
  have HD := Lib.hid hD; have HR := Lib.hid hR; have HS := Lib.hid hS
  cases hr : rightB L n1 n2 n3 D R S [day] (hrOk h p)
  · have HRB := Lib.hid hr; clear hr hD hR hS
    go_enter Tryd.func11, Tryd.ntmps11
    go_wp2_with fail
    refine (sane_any _).mono ?_
    rintro e w1 ⟨rfl, hb⟩
    have HB1 := Lib.hid (bjoin (w := w) (by have hb' := (Below.refl w.heap.size w); have hb'' := hb'.size; go_grown) hb)
    have t1_l0 := keep_lt (b := w.heap.size) hb (by first | omega | (simp; done) | (simp; omega))
    have t1_0_0 := keep_cell (b := w.heap.size) (o := 0) (v := .int .i64 L) hb (by first | omega | (simp; done) | (simp; omega)) (by first | assumption | exact cell_alloc_l _ (by assumption) | exact cell_alloc_l _ (cell_alloc_l _ (by assumption)) | (simp [go_sem]; done) | (simp [go_sem, *]; done))
    have t1_0_1 := keep_cell (b := w.heap.size) (o := 1) (v := .slice a1 n1 c1) hb (by first | omega | (simp; done) | (simp; omega)) (by first | assumption | exact cell_alloc_l _ (by assumption) | exact cell_alloc_l _ (cell_alloc_l _ (by assumption)) | (simp [go_sem]; done) | (simp [go_sem, *]; done))
    have t1_0_2 := keep_cell (b := w.heap.size) (o := 2) (v := .slice a2 n2 c2) hb (by first | omega | (simp; done) | (simp; omega)) (by first | assumption | exact cell_alloc_l _ (by assumption) | exact cell_alloc_l _ (cell_alloc_l _ (by assumption)) | (simp [go_sem]; done) | (simp [go_sem, *]; done))
    have t1_0_3 := keep_cell (b := w.heap.size) (o := 3) (v := .slice a3 n3 c3) hb (by first | omega | (simp; done) | (simp; omega)) (by first | assumption | exact cell_alloc_l _ (by assumption) | exact cell_alloc_l _ (cell_alloc_l _ (by assumption)) | (simp [go_sem]; done) | (simp [go_sem, *]; done))
    have t1_l1 := keep_lt (b := w.heap.size + 1) hb (by first | omega | (simp; done) | (simp; omega))
    have t1_1_0 := keep_cell (b := w.heap.size + 1) (o := 0) (v := .bool b) hb (by first | omega | (simp; done) | (simp; omega)) (by first | assumption | exact cell_alloc_l _ (by assumption) | exact cell_alloc_l _ (cell_alloc_l _ (by assumption)) | (simp [go_sem]; done) | (simp [go_sem, *]; done))
    have t1_1_1 := keep_cell (b := w.heap.size + 1) (o := 1) (v := .int .i64 h) hb (by first | omega | (simp; done) | (simp; omega)) (by first | assumption | exact cell_alloc_l _ (by assumption) | exact cell_alloc_l _ (cell_alloc_l _ (by assumption)) | (simp [go_sem]; done) | (simp [go_sem, *]; done))
    have t1_1_2 := keep_cell (b := w.heap.size + 1) (o := 2) (v := .int .i64 p) hb (by first | omega | (simp; done) | (simp; omega)) (by first | assumption | exact cell_alloc_l _ (by assumption) | exact cell_alloc_l _ (cell_alloc_l _ (by assumption)) | (simp [go_sem]; done) | (simp [go_sem, *]; done))
    clear hb
    go_wp2_with fail
    refine (right1_any (days := [day]) (w1.heap.size + 1) _ b h p _ (HD.out.to (by have hb' := HB1.out; have hb'' := hb'.size; go_grown)) (HR.out.to (by have hb' := HB1.out; have hb'' := hb'.size; go_grown)) (HS.out.to (by have hb' := HB1.out; have hb'' := hb'.size; go_grown)) (lst1 (b := w1.heap.size) (by simp [go_sem]) (by first | (simp; done) | (simp; omega))) (by omega) (by first | (simp; done) | (simp; omega)) (by simp [go_sem]) (by simp [go_sem]) (by simp [go_sem])).mono ?_
    rintro e w2 ⟨rfl, hb⟩
    have HB2 := Lib.hid (bjoin (w := w) (by have hb' := HB1.out; have hb'' := hb'.size; go_grown) hb)
    have t2_l0 := keep_lt (b := w.heap.size) hb (by first | omega | (simp; done) | (simp; omega))
    have t2_0_0 := keep_cell (b := w.heap.size) (o := 0) (v := .int .i64 L) hb (by first | omega | (simp; done) | (simp; omega)) (by first | assumption | exact cell_alloc_l _ (by assumption) | exact cell_alloc_l _ (cell_alloc_l _ (by assumption)) | (simp [go_sem]; done) | (simp [go_sem, *]; done))
    have t2_0_1 := keep_cell (b := w.heap.size) (o := 1) (v := .slice a1 n1 c1) hb (by first | omega | (simp; done) | (simp; omega)) (by first | assumption | exact cell_alloc_l _ (by assumption) | exact cell_alloc_l _ (cell_alloc_l _ (by assumption)) | (simp [go_sem]; done) | (simp [go_sem, *]; done))
    have t2_0_2 := keep_cell (b := w.heap.size) (o := 2) (v := .slice a2 n2 c2) hb (by first | omega | (simp; done) | (simp; omega)) (by first | assumption | exact cell_alloc_l _ (by assumption) | exact cell_alloc_l _ (cell_alloc_l _ (by assumption)) | (simp [go_sem]; done) | (simp [go_sem, *]; done))
    have t2_0_3 := keep_cell (b := w.heap.size) (o := 3) (v := .slice a3 n3 c3) hb (by first | omega | (simp; done) | (simp; omega)) (by first | assumption | exact cell_alloc_l _ (by assumption) | exact cell_alloc_l _ (cell_alloc_l _ (by assumption)) | (simp [go_sem]; done) | (simp [go_sem, *]; done))
    have t2_l1 := keep_lt (b := w.heap.size + 1) hb (by first | omega | (simp; done) | (simp; omega))
    have t2_1_0 := keep_cell (b := w.heap.size + 1) (o := 0) (v := .bool b) hb (by first | omega | (simp; done) | (simp; omega)) (by first | assumption | exact cell_alloc_l _ (by assumption) | exact cell_alloc_l _ (cell_alloc_l _ (by assumption)) | (simp [go_sem]; done) | (simp [go_sem, *]; done))
    have t2_1_1 := keep_cell (b := w.heap.size + 1) (o := 1) (v := .int .i64 h) hb (by first | omega | (simp; done) | (simp; omega)) (by first | assumption | exact cell_alloc_l _ (by assumption) | exact cell_alloc_l _ (cell_alloc_l _ (by assumption)) | (simp [go_sem]; done) | (simp [go_sem, *]; done))
    have t2_1_2 := keep_cell (b := w.heap.size + 1) (o := 2) (v := .int .i64 p) hb (by first | omega | (simp; done) | (simp; omega)) (by first | assumption | exact cell_alloc_l _ (by assumption) | exact cell_alloc_l _ (cell_alloc_l _ (by assumption)) | (simp [go_sem]; done) | (simp [go_sem, *]; done))
    have t2_l2 := keep_lt (b := w1.heap.size) hb (by first | omega | (simp; done) | (simp; omega))
    have t2_2_0 := keep_cell (b := w1.heap.size) (o := 0) (v := .int .i64 (day)) hb (by first | omega | (simp; done) | (simp; omega)) (by first | assumption | exact cell_alloc_l _ (by assumption) | exact cell_alloc_l _ (cell_alloc_l _ (by assumption)) | (simp [go_sem]; done) | (simp [go_sem, *]; done))
    have t2_l3 := keep_lt (b := w1.heap.size + 1) hb (by first | omega | (simp; done) | (simp; omega))
    have t2_3_0 := keep_cell (b := w1.heap.size + 1) (o := 0) (v := .bool b) hb (by first | omega | (simp; done) | (simp; omega)) (by first | assumption | exact cell_alloc_l _ (by assumption) | exact cell_alloc_l _ (cell_alloc_l _ (by assumption)) | (simp [go_sem]; done) | (simp [go_sem, *]; done))
    have t2_3_1 := keep_cell (b := w1.heap.size + 1) (o := 1) (v := .int .i64 h) hb (by first | omega | (simp; done) | (simp; omega)) (by first | assumption | exact cell_alloc_l _ (by assumption) | exact cell_alloc_l _ (cell_alloc_l _ (by assumption)) | (simp [go_sem]; done) | (simp [go_sem, *]; done))
    have t2_3_2 := keep_cell (b := w1.heap.size + 1) (o := 2) (v := .int .i64 p) hb (by first | omega | (simp; done) | (simp; omega)) (by first | assumption | exact cell_alloc_l _ (by assumption) | exact cell_alloc_l _ (cell_alloc_l _ (by assumption)) | (simp [go_sem]; done) | (simp [go_sem, *]; done))
    clear t1_0_0 t1_0_1 t1_0_2 t1_0_3 t1_l0 t1_1_0 t1_1_1 t1_1_2 t1_l1
    clear hb
    clear t2_2_0 t2_l2 t2_3_0 t2_3_1 t2_3_2 t2_l3
    rw [HRB.out]
    go_wp2_with fail
    go_ret
    exact ⟨rfl, by have hb' := HB2.out; have hb'' := hb'.size; go_grown⟩
  · obtain ⟨hf, hok, hda, hhr⟩ := rightB_iff.1 hr
    have HRB := Lib.hid hr; clear hr
    have HSEA := Lib.hid (seaO_of hD hR hS hf)
    have HO := Lib.hid hok
    have hd := days_one.1 hda
    have hh := (hrOk_iff h p).1 hhr
    clear hD hR hS hf hda hhr
    by_cases hm : 0 ≤ minute ∧ minute ≤ 15840000
    · have HM := Lib.hid hm
      have HDY := Lib.hid hd; have HHH := Lib.hid hh
      have hup := up_le (momF L D R S day b (60 * h + p)) minute
      have hto := told_iff hok minute (ord day b h p)
      rw [← mom_ord L D R S day b h p hh] at hto
      have hiff : upF (momF L D R S day b (60 * h + p)) ≤ minute ↔ ord day b h p ≤ toldN L D R S minute := hup.trans hto
      have htop := toldN_top hok hm
      have hob := ord_bd (b := b) hd hh
      clear hok hup hto
      obtain ⟨m0, m1⟩ := hm
      obtain ⟨d0, d1⟩ := hd
      obtain ⟨⟨h0, h1⟩, p0, p1⟩ := hh
      by_cases ht : 0 ≤ toldN L D R S minute
      · have HT := Lib.hid ht
        have HF := Lib.hid (fun W hW => First_ok (c1 := c1) (c2 := c2) (c3 := c3) day b h p W (HSEA.out.to hW) HO.out HDY.out HHH.out)
        have HTT := Lib.hid (fun W hW => Told_ok (c1 := c1) (c2 := c2) (c3 := c3) minute W (HSEA.out.to hW) HO.out HM.out HT.out)
        have HOO := Lib.hid (fun W => Order_any day b h p W (by omega) HHH.out.1 HHH.out.2)
        generalize upF (momF L D R S day b (60 * h + p)) = u at *
        generalize toldN L D R S minute = T at *
        generalize ord day b h p = o at *
        have hg1 : 0 ≤ T / 1440 := by omega
        have hg2 : decide (0 ≤ T / 1440) = true := decide_eq_true hg1
        by_cases hle : u ≤ minute
        · have hle2 := hiff.1 hle
          clear hiff
          go_enter Tryd.func11, Tryd.ntmps11
          go_wp2_with fail
          refine (sane_any _).mono ?_
          rintro e w1 ⟨rfl, hb⟩
          have HB1 := Lib.hid (bjoin (w := w) (by have hb' := (Below.refl w.heap.size w); have hb'' := hb'.size; go_grown) hb)
          have t1_l0 := keep_lt (b := w.heap.size) hb (by first | omega | (simp; done) | (simp; omega))
          have t1_0_0 := keep_cell (b := w.heap.size) (o := 0) (v := .int .i64 L) hb (by first | omega | (simp; done) | (simp; omega)) (by first | assumption | exact cell_alloc_l _ (by assumption) | exact cell_alloc_l _ (cell_alloc_l _ (by assumption)) | (simp [go_sem]; done) | (simp [go_sem, *]; done))
          have t1_0_1 := keep_cell (b := w.heap.size) (o := 1) (v := .slice a1 n1 c1) hb (by first | omega | (simp; done) | (simp; omega)) (by first | assumption | exact cell_alloc_l _ (by assumption) | exact cell_alloc_l _ (cell_alloc_l _ (by assumption)) | (simp [go_sem]; done) | (simp [go_sem, *]; done))
          have t1_0_2 := keep_cell (b := w.heap.size) (o := 2) (v := .slice a2 n2 c2) hb (by first | omega | (simp; done) | (simp; omega)) (by first | assumption | exact cell_alloc_l _ (by assumption) | exact cell_alloc_l _ (cell_alloc_l _ (by assumption)) | (simp [go_sem]; done) | (simp [go_sem, *]; done))
          have t1_0_3 := keep_cell (b := w.heap.size) (o := 3) (v := .slice a3 n3 c3) hb (by first | omega | (simp; done) | (simp; omega)) (by first | assumption | exact cell_alloc_l _ (by assumption) | exact cell_alloc_l _ (cell_alloc_l _ (by assumption)) | (simp [go_sem]; done) | (simp [go_sem, *]; done))
          have t1_l1 := keep_lt (b := w.heap.size + 1) hb (by first | omega | (simp; done) | (simp; omega))
          have t1_1_0 := keep_cell (b := w.heap.size + 1) (o := 0) (v := .bool b) hb (by first | omega | (simp; done) | (simp; omega)) (by first | assumption | exact cell_alloc_l _ (by assumption) | exact cell_alloc_l _ (cell_alloc_l _ (by assumption)) | (simp [go_sem]; done) | (simp [go_sem, *]; done))
          have t1_1_1 := keep_cell (b := w.heap.size + 1) (o := 1) (v := .int .i64 h) hb (by first | omega | (simp; done) | (simp; omega)) (by first | assumption | exact cell_alloc_l _ (by assumption) | exact cell_alloc_l _ (cell_alloc_l _ (by assumption)) | (simp [go_sem]; done) | (simp [go_sem, *]; done))
          have t1_1_2 := keep_cell (b := w.heap.size + 1) (o := 2) (v := .int .i64 p) hb (by first | omega | (simp; done) | (simp; omega)) (by first | assumption | exact cell_alloc_l _ (by assumption) | exact cell_alloc_l _ (cell_alloc_l _ (by assumption)) | (simp [go_sem]; done) | (simp [go_sem, *]; done))
          clear hb
          go_wp2_with fail
          refine (right1_any (days := [day]) (w1.heap.size + 1) _ b h p _ (HD.out.to (by have hb' := HB1.out; have hb'' := hb'.size; go_grown)) (HR.out.to (by have hb' := HB1.out; have hb'' := hb'.size; go_grown)) (HS.out.to (by have hb' := HB1.out; have hb'' := hb'.size; go_grown)) (lst1 (b := w1.heap.size) (by simp [go_sem]) (by first | (simp; done) | (simp; omega))) (by omega) (by first | (simp; done) | (simp; omega)) (by simp [go_sem]) (by simp [go_sem]) (by simp [go_sem])).mono ?_
          rintro e w2 ⟨rfl, hb⟩
          have HB2 := Lib.hid (bjoin (w := w) (by have hb' := HB1.out; have hb'' := hb'.size; go_grown) hb)
          have t2_l0 := keep_lt (b := w.heap.size) hb (by first | omega | (simp; done) | (simp; omega))
          have t2_0_0 := keep_cell (b := w.heap.size) (o := 0) (v := .int .i64 L) hb (by first | omega | (simp; done) | (simp; omega)) (by first | assumption | exact cell_alloc_l _ (by assumption) | exact cell_alloc_l _ (cell_alloc_l _ (by assumption)) | (simp [go_sem]; done) | (simp [go_sem, *]; done))
          have t2_0_1 := keep_cell (b := w.heap.size) (o := 1) (v := .slice a1 n1 c1) hb (by first | omega | (simp; done) | (simp; omega)) (by first | assumption | exact cell_alloc_l _ (by assumption) | exact cell_alloc_l _ (cell_alloc_l _ (by assumption)) | (simp [go_sem]; done) | (simp [go_sem, *]; done))
          have t2_0_2 := keep_cell (b := w.heap.size) (o := 2) (v := .slice a2 n2 c2) hb (by first | omega | (simp; done) | (simp; omega)) (by first | assumption | exact cell_alloc_l _ (by assumption) | exact cell_alloc_l _ (cell_alloc_l _ (by assumption)) | (simp [go_sem]; done) | (simp [go_sem, *]; done))
          have t2_0_3 := keep_cell (b := w.heap.size) (o := 3) (v := .slice a3 n3 c3) hb (by first | omega | (simp; done) | (simp; omega)) (by first | assumption | exact cell_alloc_l _ (by assumption) | exact cell_alloc_l _ (cell_alloc_l _ (by assumption)) | (simp [go_sem]; done) | (simp [go_sem, *]; done))
          have t2_l1 := keep_lt (b := w.heap.size + 1) hb (by first | omega | (simp; done) | (simp; omega))
          have t2_1_0 := keep_cell (b := w.heap.size + 1) (o := 0) (v := .bool b) hb (by first | omega | (simp; done) | (simp; omega)) (by first | assumption | exact cell_alloc_l _ (by assumption) | exact cell_alloc_l _ (cell_alloc_l _ (by assumption)) | (simp [go_sem]; done) | (simp [go_sem, *]; done))
          have t2_1_1 := keep_cell (b := w.heap.size + 1) (o := 1) (v := .int .i64 h) hb (by first | omega | (simp; done) | (simp; omega)) (by first | assumption | exact cell_alloc_l _ (by assumption) | exact cell_alloc_l _ (cell_alloc_l _ (by assumption)) | (simp [go_sem]; done) | (simp [go_sem, *]; done))
          have t2_1_2 := keep_cell (b := w.heap.size + 1) (o := 2) (v := .int .i64 p) hb (by first | omega | (simp; done) | (simp; omega)) (by first | assumption | exact cell_alloc_l _ (by assumption) | exact cell_alloc_l _ (cell_alloc_l _ (by assumption)) | (simp [go_sem]; done) | (simp [go_sem, *]; done))
          have t2_l2 := keep_lt (b := w1.heap.size) hb (by first | omega | (simp; done) | (simp; omega))
          have t2_2_0 := keep_cell (b := w1.heap.size) (o := 0) (v := .int .i64 (day)) hb (by first | omega | (simp; done) | (simp; omega)) (by first | assumption | exact cell_alloc_l _ (by assumption) | exact cell_alloc_l _ (cell_alloc_l _ (by assumption)) | (simp [go_sem]; done) | (simp [go_sem, *]; done))
          have t2_l3 := keep_lt (b := w1.heap.size + 1) hb (by first | omega | (simp; done) | (simp; omega))
          have t2_3_0 := keep_cell (b := w1.heap.size + 1) (o := 0) (v := .bool b) hb (by first | omega | (simp; done) | (simp; omega)) (by first | assumption | exact cell_alloc_l _ (by assumption) | exact cell_alloc_l _ (cell_alloc_l _ (by assumption)) | (simp [go_sem]; done) | (simp [go_sem, *]; done))
          have t2_3_1 := keep_cell (b := w1.heap.size + 1) (o := 1) (v := .int .i64 h) hb (by first | omega | (simp; done) | (simp; omega)) (by first | assumption | exact cell_alloc_l _ (by assumption) | exact cell_alloc_l _ (cell_alloc_l _ (by assumption)) | (simp [go_sem]; done) | (simp [go_sem, *]; done))
          have t2_3_2 := keep_cell (b := w1.heap.size + 1) (o := 2) (v := .int .i64 p) hb (by first | omega | (simp; done) | (simp; omega)) (by first | assumption | exact cell_alloc_l _ (by assumption) | exact cell_alloc_l _ (cell_alloc_l _ (by assumption)) | (simp [go_sem]; done) | (simp [go_sem, *]; done))
          clear t1_0_0 t1_0_1 t1_0_2 t1_0_3 t1_l0 t1_1_0 t1_1_1 t1_1_2 t1_l1
          clear hb
          clear t2_2_0 t2_l2 t2_3_0 t2_3_1 t2_3_2 t2_l3
          rw [HRB.out]
          go_wp2_with fail
          refine (HF.out _ (by have hb' := HB2.out; have hb'' := hb'.size; go_grown)).mono ?_
          rintro e w3 ⟨rfl, hb⟩
          have HB3 := Lib.hid (bjoin (w := w) (by have hb' := HB2.out; have hb'' := hb'.size; go_grown) hb)
          have t3_l0 := keep_lt (b := w.heap.size) hb (by first | omega | (simp; done) | (simp; omega))
          have t3_0_0 := keep_cell (b := w.heap.size) (o := 0) (v := .int .i64 L) hb (by first | omega | (simp; done) | (simp; omega)) (by first | assumption | exact cell_alloc_l _ (by assumption) | exact cell_alloc_l _ (cell_alloc_l _ (by assumption)) | (simp [go_sem]; done) | (simp [go_sem, *]; done))
          have t3_0_1 := keep_cell (b := w.heap.size) (o := 1) (v := .slice a1 n1 c1) hb (by first | omega | (simp; done) | (simp; omega)) (by first | assumption | exact cell_alloc_l _ (by assumption) | exact cell_alloc_l _ (cell_alloc_l _ (by assumption)) | (simp [go_sem]; done) | (simp [go_sem, *]; done))
          have t3_0_2 := keep_cell (b := w.heap.size) (o := 2) (v := .slice a2 n2 c2) hb (by first | omega | (simp; done) | (simp; omega)) (by first | assumption | exact cell_alloc_l _ (by assumption) | exact cell_alloc_l _ (cell_alloc_l _ (by assumption)) | (simp [go_sem]; done) | (simp [go_sem, *]; done))
          have t3_0_3 := keep_cell (b := w.heap.size) (o := 3) (v := .slice a3 n3 c3) hb (by first | omega | (simp; done) | (simp; omega)) (by first | assumption | exact cell_alloc_l _ (by assumption) | exact cell_alloc_l _ (cell_alloc_l _ (by assumption)) | (simp [go_sem]; done) | (simp [go_sem, *]; done))
          have t3_l1 := keep_lt (b := w.heap.size + 1) hb (by first | omega | (simp; done) | (simp; omega))
          have t3_1_0 := keep_cell (b := w.heap.size + 1) (o := 0) (v := .bool b) hb (by first | omega | (simp; done) | (simp; omega)) (by first | assumption | exact cell_alloc_l _ (by assumption) | exact cell_alloc_l _ (cell_alloc_l _ (by assumption)) | (simp [go_sem]; done) | (simp [go_sem, *]; done))
          have t3_1_1 := keep_cell (b := w.heap.size + 1) (o := 1) (v := .int .i64 h) hb (by first | omega | (simp; done) | (simp; omega)) (by first | assumption | exact cell_alloc_l _ (by assumption) | exact cell_alloc_l _ (cell_alloc_l _ (by assumption)) | (simp [go_sem]; done) | (simp [go_sem, *]; done))
          have t3_1_2 := keep_cell (b := w.heap.size + 1) (o := 2) (v := .int .i64 p) hb (by first | omega | (simp; done) | (simp; omega)) (by first | assumption | exact cell_alloc_l _ (by assumption) | exact cell_alloc_l _ (cell_alloc_l _ (by assumption)) | (simp [go_sem]; done) | (simp [go_sem, *]; done))
          clear t2_0_0 t2_0_1 t2_0_2 t2_0_3 t2_l0 t2_1_0 t2_1_1 t2_1_2 t2_l1
          clear hb
          go_wp2_with fail
          refine (HTT.out _ (by have hb' := HB3.out; have hb'' := hb'.size; go_grown)).mono ?_
          rintro e w4 ⟨rfl, hb⟩
          have HB4 := Lib.hid (bjoin (w := w) (by have hb' := HB3.out; have hb'' := hb'.size; go_grown) hb)
          have t4_l0 := keep_lt (b := w.heap.size) hb (by first | omega | (simp; done) | (simp; omega))
          have t4_0_0 := keep_cell (b := w.heap.size) (o := 0) (v := .int .i64 L) hb (by first | omega | (simp; done) | (simp; omega)) (by first | assumption | exact cell_alloc_l _ (by assumption) | exact cell_alloc_l _ (cell_alloc_l _ (by assumption)) | (simp [go_sem]; done) | (simp [go_sem, *]; done))
          have t4_0_1 := keep_cell (b := w.heap.size) (o := 1) (v := .slice a1 n1 c1) hb (by first | omega | (simp; done) | (simp; omega)) (by first | assumption | exact cell_alloc_l _ (by assumption) | exact cell_alloc_l _ (cell_alloc_l _ (by assumption)) | (simp [go_sem]; done) | (simp [go_sem, *]; done))
          have t4_0_2 := keep_cell (b := w.heap.size) (o := 2) (v := .slice a2 n2 c2) hb (by first | omega | (simp; done) | (simp; omega)) (by first | assumption | exact cell_alloc_l _ (by assumption) | exact cell_alloc_l _ (cell_alloc_l _ (by assumption)) | (simp [go_sem]; done) | (simp [go_sem, *]; done))
          have t4_0_3 := keep_cell (b := w.heap.size) (o := 3) (v := .slice a3 n3 c3) hb (by first | omega | (simp; done) | (simp; omega)) (by first | assumption | exact cell_alloc_l _ (by assumption) | exact cell_alloc_l _ (cell_alloc_l _ (by assumption)) | (simp [go_sem]; done) | (simp [go_sem, *]; done))
          have t4_l1 := keep_lt (b := w.heap.size + 1) hb (by first | omega | (simp; done) | (simp; omega))
          have t4_1_0 := keep_cell (b := w.heap.size + 1) (o := 0) (v := .bool b) hb (by first | omega | (simp; done) | (simp; omega)) (by first | assumption | exact cell_alloc_l _ (by assumption) | exact cell_alloc_l _ (cell_alloc_l _ (by assumption)) | (simp [go_sem]; done) | (simp [go_sem, *]; done))
          have t4_1_1 := keep_cell (b := w.heap.size + 1) (o := 1) (v := .int .i64 h) hb (by first | omega | (simp; done) | (simp; omega)) (by first | assumption | exact cell_alloc_l _ (by assumption) | exact cell_alloc_l _ (cell_alloc_l _ (by assumption)) | (simp [go_sem]; done) | (simp [go_sem, *]; done))
          have t4_1_2 := keep_cell (b := w.heap.size + 1) (o := 2) (v := .int .i64 p) hb (by first | omega | (simp; done) | (simp; omega)) (by first | assumption | exact cell_alloc_l _ (by assumption) | exact cell_alloc_l _ (cell_alloc_l _ (by assumption)) | (simp [go_sem]; done) | (simp [go_sem, *]; done))
          clear t3_0_0 t3_0_1 t3_0_2 t3_0_3 t3_l0 t3_1_0 t3_1_1 t3_1_2 t3_l1
          clear hb
          go_wp2_with fail
          refine wp_name ?_
          intro W0 hW0
          have HBW := Lib.hid (show Below w.heap.size w W0 from hW0 ▸ (by have hb' := HB4.out; have hb'' := hb'.size; go_grown))
          have g_l0 : w.heap.size < W0.heap.size := by rw [← hW0]; first | omega | (simp; done) | (simp; omega)
          have g_0_0 : W0.cell? ⟨w.heap.size, 0, none⟩ = some (.int .i64 L) := by rw [← hW0]; first | assumption | exact cell_alloc_l _ (by assumption) | exact cell_alloc_l _ (cell_alloc_l _ (by assumption)) | (simp [go_sem]; done) | (simp [go_sem, *]; done)
          have g_0_1 : W0.cell? ⟨w.heap.size, 1, none⟩ = some (.slice a1 n1 c1) := by rw [← hW0]; first | assumption | exact cell_alloc_l _ (by assumption) | exact cell_alloc_l _ (cell_alloc_l _ (by assumption)) | (simp [go_sem]; done) | (simp [go_sem, *]; done)
          have g_0_2 : W0.cell? ⟨w.heap.size, 2, none⟩ = some (.slice a2 n2 c2) := by rw [← hW0]; first | assumption | exact cell_alloc_l _ (by assumption) | exact cell_alloc_l _ (cell_alloc_l _ (by assumption)) | (simp [go_sem]; done) | (simp [go_sem, *]; done)
          have g_0_3 : W0.cell? ⟨w.heap.size, 3, none⟩ = some (.slice a3 n3 c3) := by rw [← hW0]; first | assumption | exact cell_alloc_l _ (by assumption) | exact cell_alloc_l _ (cell_alloc_l _ (by assumption)) | (simp [go_sem]; done) | (simp [go_sem, *]; done)
          have g_l1 : w.heap.size + 1 < W0.heap.size := by rw [← hW0]; first | omega | (simp; done) | (simp; omega)
          have g_1_0 : W0.cell? ⟨w.heap.size + 1, 0, none⟩ = some (.bool b) := by rw [← hW0]; first | assumption | exact cell_alloc_l _ (by assumption) | exact cell_alloc_l _ (cell_alloc_l _ (by assumption)) | (simp [go_sem]; done) | (simp [go_sem, *]; done)
          have g_1_1 : W0.cell? ⟨w.heap.size + 1, 1, none⟩ = some (.int .i64 h) := by rw [← hW0]; first | assumption | exact cell_alloc_l _ (by assumption) | exact cell_alloc_l _ (cell_alloc_l _ (by assumption)) | (simp [go_sem]; done) | (simp [go_sem, *]; done)
          have g_1_2 : W0.cell? ⟨w.heap.size + 1, 2, none⟩ = some (.int .i64 p) := by rw [← hW0]; first | assumption | exact cell_alloc_l _ (by assumption) | exact cell_alloc_l _ (cell_alloc_l _ (by assumption)) | (simp [go_sem]; done) | (simp [go_sem, *]; done)
          have g_l2 : w4.heap.size < W0.heap.size := by rw [← hW0]; first | omega | (simp; done) | (simp; omega)
          have g_2_0 : W0.cell? ⟨w4.heap.size, 0, none⟩ = some (.bool (decide (720 ≤ T % 1440))) := by rw [← hW0]; first | assumption | exact cell_alloc_l _ (by assumption) | exact cell_alloc_l _ (cell_alloc_l _ (by assumption)) | (simp [go_sem]; done) | (simp [go_sem, *]; done)
          have g_2_1 : W0.cell? ⟨w4.heap.size, 1, none⟩ = some (.int .i64 (T % 1440 / 60 % 12)) := by rw [← hW0]; first | assumption | exact cell_alloc_l _ (by assumption) | exact cell_alloc_l _ (cell_alloc_l _ (by assumption)) | (simp [go_sem]; done) | (simp [go_sem, *]; done)
          have g_2_2 : W0.cell? ⟨w4.heap.size, 2, none⟩ = some (.int .i64 (T % 60)) := by rw [← hW0]; first | assumption | exact cell_alloc_l _ (by assumption) | exact cell_alloc_l _ (cell_alloc_l _ (by assumption)) | (simp [go_sem]; done) | (simp [go_sem, *]; done)
          clear t4_0_0 t4_0_1 t4_0_2 t4_0_3 t4_l0 t4_1_0 t4_1_1 t4_1_2 t4_l1
          clear hW0
          have HQ := Lib.hid (show ∀ W', Below W0.heap.size W0 W' → W'.cell? ⟨w.heap.size, 0, none⟩ = some (.int .i64 L) ∧ W'.cell? ⟨w.heap.size, 1, none⟩ = some (.slice a1 n1 c1) ∧ W'.cell? ⟨w.heap.size, 2, none⟩ = some (.slice a2 n2 c2) ∧ W'.cell? ⟨w.heap.size, 3, none⟩ = some (.slice a3 n3 c3) ∧ W'.cell? ⟨w.heap.size + 1, 0, none⟩ = some (.bool b) ∧ W'.cell? ⟨w.heap.size + 1, 1, none⟩ = some (.int .i64 h) ∧ W'.cell? ⟨w.heap.size + 1, 2, none⟩ = some (.int .i64 p) ∧ W'.cell? ⟨w4.heap.size, 0, none⟩ = some (.bool (decide (720 ≤ T % 1440))) ∧ W'.cell? ⟨w4.heap.size, 1, none⟩ = some (.int .i64 (T % 1440 / 60 % 12)) ∧ W'.cell? ⟨w4.heap.size, 2, none⟩ = some (.int .i64 (T % 60)) ∧ Below W0.heap.size W0 W' from fun W' hBW => ⟨keep_cell hBW g_l0 g_0_0, keep_cell hBW g_l0 g_0_1, keep_cell hBW g_l0 g_0_2, keep_cell hBW g_l0 g_0_3, keep_cell hBW g_l1 g_1_0, keep_cell hBW g_l1 g_1_1, keep_cell hBW g_l1 g_1_2, keep_cell hBW g_l2 g_2_0, keep_cell hBW g_l2 g_2_1, keep_cell hBW g_l2 g_2_2, hBW⟩)
          go_region_held3 (fun W' => W'.cell? ⟨w.heap.size, 0, none⟩ = some (.int .i64 L) ∧ W'.cell? ⟨w.heap.size, 1, none⟩ = some (.slice a1 n1 c1) ∧ W'.cell? ⟨w.heap.size, 2, none⟩ = some (.slice a2 n2 c2) ∧ W'.cell? ⟨w.heap.size, 3, none⟩ = some (.slice a3 n3 c3) ∧ W'.cell? ⟨w.heap.size + 1, 0, none⟩ = some (.bool b) ∧ W'.cell? ⟨w.heap.size + 1, 1, none⟩ = some (.int .i64 h) ∧ W'.cell? ⟨w.heap.size + 1, 2, none⟩ = some (.int .i64 p) ∧ W'.cell? ⟨w4.heap.size, 0, none⟩ = some (.bool (decide (720 ≤ T % 1440))) ∧ W'.cell? ⟨w4.heap.size, 1, none⟩ = some (.int .i64 (T % 1440 / 60 % 12)) ∧ W'.cell? ⟨w4.heap.size, 2, none⟩ = some (.int .i64 (T % 60)) ∧ Below W0.heap.size W0 W') ((refine HQ.out _ ?_; first | exact (Below.refl _ _).drew | assumption)) (first | (go_at_call 56; obtain ⟨_, _, _, _, _, _, _, _, _, _, hBW⟩ := ‹_ ∧ _ ∧ _ ∧ _ ∧ _ ∧ _ ∧ _ ∧ _ ∧ _ ∧ _ ∧ Below W0.heap.size W0 _›; (with_reducible refine (rHour_yes _ _ _ _ (ord_hour T)).mono ?_); rintro e wn ⟨rfl, hbn⟩; have hBN := bjoin hBW hbn) | (go_at_call 57; obtain ⟨_, _, _, _, _, _, _, _, _, _, hBW⟩ := ‹_ ∧ _ ∧ _ ∧ _ ∧ _ ∧ _ ∧ _ ∧ _ ∧ _ ∧ _ ∧ Below W0.heap.size W0 _›; (with_reducible refine (Order_back T _ (by omega)).mono ?_); rintro e wn ⟨rfl, hbn⟩; have hBN := bjoin hBW hbn) | (go_at_call 57; obtain ⟨_, _, _, _, _, _, _, _, _, _, hBW⟩ := ‹_ ∧ _ ∧ _ ∧ _ ∧ _ ∧ _ ∧ _ ∧ _ ∧ _ ∧ _ ∧ Below W0.heap.size W0 _›; (with_reducible refine (HOO.out _).mono ?_); rintro e wn ⟨rfl, hbn⟩; have hBN := bjoin hBW hbn))
          all_goals obtain ⟨_, _, _, _, _, _, _, _, _, _, hBZ⟩ := ‹_ ∧ _ ∧ _ ∧ _ ∧ _ ∧ _ ∧ _ ∧ _ ∧ _ ∧ _ ∧ Below W0.heap.size W0 _›
          all_goals have HZ := Lib.hid (bjoin HBW.out hBZ)
          all_goals clear hBZ
          all_goals go_wp2
          all_goals go_ret
          all_goals exact ⟨by first | rfl | (simp; done) | (simp; omega), HZ.out⟩
        · have hle2 : ¬ o ≤ T := fun k => hle (hiff.2 k)
          clear hiff
          go_enter Tryd.func11, Tryd.ntmps11
          go_wp2_with fail
          refine (sane_any _).mono ?_
          rintro e w1 ⟨rfl, hb⟩
          have HB1 := Lib.hid (bjoin (w := w) (by have hb' := (Below.refl w.heap.size w); have hb'' := hb'.size; go_grown) hb)
          have t1_l0 := keep_lt (b := w.heap.size) hb (by first | omega | (simp; done) | (simp; omega))
          have t1_0_0 := keep_cell (b := w.heap.size) (o := 0) (v := .int .i64 L) hb (by first | omega | (simp; done) | (simp; omega)) (by first | assumption | exact cell_alloc_l _ (by assumption) | exact cell_alloc_l _ (cell_alloc_l _ (by assumption)) | (simp [go_sem]; done) | (simp [go_sem, *]; done))
          have t1_0_1 := keep_cell (b := w.heap.size) (o := 1) (v := .slice a1 n1 c1) hb (by first | omega | (simp; done) | (simp; omega)) (by first | assumption | exact cell_alloc_l _ (by assumption) | exact cell_alloc_l _ (cell_alloc_l _ (by assumption)) | (simp [go_sem]; done) | (simp [go_sem, *]; done))
          have t1_0_2 := keep_cell (b := w.heap.size) (o := 2) (v := .slice a2 n2 c2) hb (by first | omega | (simp; done) | (simp; omega)) (by first | assumption | exact cell_alloc_l _ (by assumption) | exact cell_alloc_l _ (cell_alloc_l _ (by assumption)) | (simp [go_sem]; done) | (simp [go_sem, *]; done))
          have t1_0_3 := keep_cell (b := w.heap.size) (o := 3) (v := .slice a3 n3 c3) hb (by first | omega | (simp; done) | (simp; omega)) (by first | assumption | exact cell_alloc_l _ (by assumption) | exact cell_alloc_l _ (cell_alloc_l _ (by assumption)) | (simp [go_sem]; done) | (simp [go_sem, *]; done))
          have t1_l1 := keep_lt (b := w.heap.size + 1) hb (by first | omega | (simp; done) | (simp; omega))
          have t1_1_0 := keep_cell (b := w.heap.size + 1) (o := 0) (v := .bool b) hb (by first | omega | (simp; done) | (simp; omega)) (by first | assumption | exact cell_alloc_l _ (by assumption) | exact cell_alloc_l _ (cell_alloc_l _ (by assumption)) | (simp [go_sem]; done) | (simp [go_sem, *]; done))
          have t1_1_1 := keep_cell (b := w.heap.size + 1) (o := 1) (v := .int .i64 h) hb (by first | omega | (simp; done) | (simp; omega)) (by first | assumption | exact cell_alloc_l _ (by assumption) | exact cell_alloc_l _ (cell_alloc_l _ (by assumption)) | (simp [go_sem]; done) | (simp [go_sem, *]; done))
          have t1_1_2 := keep_cell (b := w.heap.size + 1) (o := 2) (v := .int .i64 p) hb (by first | omega | (simp; done) | (simp; omega)) (by first | assumption | exact cell_alloc_l _ (by assumption) | exact cell_alloc_l _ (cell_alloc_l _ (by assumption)) | (simp [go_sem]; done) | (simp [go_sem, *]; done))
          clear hb
          go_wp2_with fail
          refine (right1_any (days := [day]) (w1.heap.size + 1) _ b h p _ (HD.out.to (by have hb' := HB1.out; have hb'' := hb'.size; go_grown)) (HR.out.to (by have hb' := HB1.out; have hb'' := hb'.size; go_grown)) (HS.out.to (by have hb' := HB1.out; have hb'' := hb'.size; go_grown)) (lst1 (b := w1.heap.size) (by simp [go_sem]) (by first | (simp; done) | (simp; omega))) (by omega) (by first | (simp; done) | (simp; omega)) (by simp [go_sem]) (by simp [go_sem]) (by simp [go_sem])).mono ?_
          rintro e w2 ⟨rfl, hb⟩
          have HB2 := Lib.hid (bjoin (w := w) (by have hb' := HB1.out; have hb'' := hb'.size; go_grown) hb)
          have t2_l0 := keep_lt (b := w.heap.size) hb (by first | omega | (simp; done) | (simp; omega))
          have t2_0_0 := keep_cell (b := w.heap.size) (o := 0) (v := .int .i64 L) hb (by first | omega | (simp; done) | (simp; omega)) (by first | assumption | exact cell_alloc_l _ (by assumption) | exact cell_alloc_l _ (cell_alloc_l _ (by assumption)) | (simp [go_sem]; done) | (simp [go_sem, *]; done))
          have t2_0_1 := keep_cell (b := w.heap.size) (o := 1) (v := .slice a1 n1 c1) hb (by first | omega | (simp; done) | (simp; omega)) (by first | assumption | exact cell_alloc_l _ (by assumption) | exact cell_alloc_l _ (cell_alloc_l _ (by assumption)) | (simp [go_sem]; done) | (simp [go_sem, *]; done))
          have t2_0_2 := keep_cell (b := w.heap.size) (o := 2) (v := .slice a2 n2 c2) hb (by first | omega | (simp; done) | (simp; omega)) (by first | assumption | exact cell_alloc_l _ (by assumption) | exact cell_alloc_l _ (cell_alloc_l _ (by assumption)) | (simp [go_sem]; done) | (simp [go_sem, *]; done))
          have t2_0_3 := keep_cell (b := w.heap.size) (o := 3) (v := .slice a3 n3 c3) hb (by first | omega | (simp; done) | (simp; omega)) (by first | assumption | exact cell_alloc_l _ (by assumption) | exact cell_alloc_l _ (cell_alloc_l _ (by assumption)) | (simp [go_sem]; done) | (simp [go_sem, *]; done))
          have t2_l1 := keep_lt (b := w.heap.size + 1) hb (by first | omega | (simp; done) | (simp; omega))
          have t2_1_0 := keep_cell (b := w.heap.size + 1) (o := 0) (v := .bool b) hb (by first | omega | (simp; done) | (simp; omega)) (by first | assumption | exact cell_alloc_l _ (by assumption) | exact cell_alloc_l _ (cell_alloc_l _ (by assumption)) | (simp [go_sem]; done) | (simp [go_sem, *]; done))
          have t2_1_1 := keep_cell (b := w.heap.size + 1) (o := 1) (v := .int .i64 h) hb (by first | omega | (simp; done) | (simp; omega)) (by first | assumption | exact cell_alloc_l _ (by assumption) | exact cell_alloc_l _ (cell_alloc_l _ (by assumption)) | (simp [go_sem]; done) | (simp [go_sem, *]; done))
          have t2_1_2 := keep_cell (b := w.heap.size + 1) (o := 2) (v := .int .i64 p) hb (by first | omega | (simp; done) | (simp; omega)) (by first | assumption | exact cell_alloc_l _ (by assumption) | exact cell_alloc_l _ (cell_alloc_l _ (by assumption)) | (simp [go_sem]; done) | (simp [go_sem, *]; done))
          have t2_l2 := keep_lt (b := w1.heap.size) hb (by first | omega | (simp; done) | (simp; omega))
          have t2_2_0 := keep_cell (b := w1.heap.size) (o := 0) (v := .int .i64 (day)) hb (by first | omega | (simp; done) | (simp; omega)) (by first | assumption | exact cell_alloc_l _ (by assumption) | exact cell_alloc_l _ (cell_alloc_l _ (by assumption)) | (simp [go_sem]; done) | (simp [go_sem, *]; done))
          have t2_l3 := keep_lt (b := w1.heap.size + 1) hb (by first | omega | (simp; done) | (simp; omega))
          have t2_3_0 := keep_cell (b := w1.heap.size + 1) (o := 0) (v := .bool b) hb (by first | omega | (simp; done) | (simp; omega)) (by first | assumption | exact cell_alloc_l _ (by assumption) | exact cell_alloc_l _ (cell_alloc_l _ (by assumption)) | (simp [go_sem]; done) | (simp [go_sem, *]; done))
          have t2_3_1 := keep_cell (b := w1.heap.size + 1) (o := 1) (v := .int .i64 h) hb (by first | omega | (simp; done) | (simp; omega)) (by first | assumption | exact cell_alloc_l _ (by assumption) | exact cell_alloc_l _ (cell_alloc_l _ (by assumption)) | (simp [go_sem]; done) | (simp [go_sem, *]; done))
          have t2_3_2 := keep_cell (b := w1.heap.size + 1) (o := 2) (v := .int .i64 p) hb (by first | omega | (simp; done) | (simp; omega)) (by first | assumption | exact cell_alloc_l _ (by assumption) | exact cell_alloc_l _ (cell_alloc_l _ (by assumption)) | (simp [go_sem]; done) | (simp [go_sem, *]; done))
          clear t1_0_0 t1_0_1 t1_0_2 t1_0_3 t1_l0 t1_1_0 t1_1_1 t1_1_2 t1_l1
          clear hb
          clear t2_2_0 t2_l2 t2_3_0 t2_3_1 t2_3_2 t2_l3
          rw [HRB.out]
          go_wp2_with fail
          refine (HF.out _ (by have hb' := HB2.out; have hb'' := hb'.size; go_grown)).mono ?_
          rintro e w3 ⟨rfl, hb⟩
          have HB3 := Lib.hid (bjoin (w := w) (by have hb' := HB2.out; have hb'' := hb'.size; go_grown) hb)
          have t3_l0 := keep_lt (b := w.heap.size) hb (by first | omega | (simp; done) | (simp; omega))
          have t3_0_0 := keep_cell (b := w.heap.size) (o := 0) (v := .int .i64 L) hb (by first | omega | (simp; done) | (simp; omega)) (by first | assumption | exact cell_alloc_l _ (by assumption) | exact cell_alloc_l _ (cell_alloc_l _ (by assumption)) | (simp [go_sem]; done) | (simp [go_sem, *]; done))
          have t3_0_1 := keep_cell (b := w.heap.size) (o := 1) (v := .slice a1 n1 c1) hb (by first | omega | (simp; done) | (simp; omega)) (by first | assumption | exact cell_alloc_l _ (by assumption) | exact cell_alloc_l _ (cell_alloc_l _ (by assumption)) | (simp [go_sem]; done) | (simp [go_sem, *]; done))
          have t3_0_2 := keep_cell (b := w.heap.size) (o := 2) (v := .slice a2 n2 c2) hb (by first | omega | (simp; done) | (simp; omega)) (by first | assumption | exact cell_alloc_l _ (by assumption) | exact cell_alloc_l _ (cell_alloc_l _ (by assumption)) | (simp [go_sem]; done) | (simp [go_sem, *]; done))
          have t3_0_3 := keep_cell (b := w.heap.size) (o := 3) (v := .slice a3 n3 c3) hb (by first | omega | (simp; done) | (simp; omega)) (by first | assumption | exact cell_alloc_l _ (by assumption) | exact cell_alloc_l _ (cell_alloc_l _ (by assumption)) | (simp [go_sem]; done) | (simp [go_sem, *]; done))
          have t3_l1 := keep_lt (b := w.heap.size + 1) hb (by first | omega | (simp; done) | (simp; omega))
          have t3_1_0 := keep_cell (b := w.heap.size + 1) (o := 0) (v := .bool b) hb (by first | omega | (simp; done) | (simp; omega)) (by first | assumption | exact cell_alloc_l _ (by assumption) | exact cell_alloc_l _ (cell_alloc_l _ (by assumption)) | (simp [go_sem]; done) | (simp [go_sem, *]; done))
          have t3_1_1 := keep_cell (b := w.heap.size + 1) (o := 1) (v := .int .i64 h) hb (by first | omega | (simp; done) | (simp; omega)) (by first | assumption | exact cell_alloc_l _ (by assumption) | exact cell_alloc_l _ (cell_alloc_l _ (by assumption)) | (simp [go_sem]; done) | (simp [go_sem, *]; done))
          have t3_1_2 := keep_cell (b := w.heap.size + 1) (o := 2) (v := .int .i64 p) hb (by first | omega | (simp; done) | (simp; omega)) (by first | assumption | exact cell_alloc_l _ (by assumption) | exact cell_alloc_l _ (cell_alloc_l _ (by assumption)) | (simp [go_sem]; done) | (simp [go_sem, *]; done))
          clear t2_0_0 t2_0_1 t2_0_2 t2_0_3 t2_l0 t2_1_0 t2_1_1 t2_1_2 t2_l1
          clear hb
          go_wp2_with fail
          refine (HTT.out _ (by have hb' := HB3.out; have hb'' := hb'.size; go_grown)).mono ?_
          rintro e w4 ⟨rfl, hb⟩
          have HB4 := Lib.hid (bjoin (w := w) (by have hb' := HB3.out; have hb'' := hb'.size; go_grown) hb)
          have t4_l0 := keep_lt (b := w.heap.size) hb (by first | omega | (simp; done) | (simp; omega))
          have t4_0_0 := keep_cell (b := w.heap.size) (o := 0) (v := .int .i64 L) hb (by first | omega | (simp; done) | (simp; omega)) (by first | assumption | exact cell_alloc_l _ (by assumption) | exact cell_alloc_l _ (cell_alloc_l _ (by assumption)) | (simp [go_sem]; done) | (simp [go_sem, *]; done))
          have t4_0_1 := keep_cell (b := w.heap.size) (o := 1) (v := .slice a1 n1 c1) hb (by first | omega | (simp; done) | (simp; omega)) (by first | assumption | exact cell_alloc_l _ (by assumption) | exact cell_alloc_l _ (cell_alloc_l _ (by assumption)) | (simp [go_sem]; done) | (simp [go_sem, *]; done))
          have t4_0_2 := keep_cell (b := w.heap.size) (o := 2) (v := .slice a2 n2 c2) hb (by first | omega | (simp; done) | (simp; omega)) (by first | assumption | exact cell_alloc_l _ (by assumption) | exact cell_alloc_l _ (cell_alloc_l _ (by assumption)) | (simp [go_sem]; done) | (simp [go_sem, *]; done))
          have t4_0_3 := keep_cell (b := w.heap.size) (o := 3) (v := .slice a3 n3 c3) hb (by first | omega | (simp; done) | (simp; omega)) (by first | assumption | exact cell_alloc_l _ (by assumption) | exact cell_alloc_l _ (cell_alloc_l _ (by assumption)) | (simp [go_sem]; done) | (simp [go_sem, *]; done))
          have t4_l1 := keep_lt (b := w.heap.size + 1) hb (by first | omega | (simp; done) | (simp; omega))
          have t4_1_0 := keep_cell (b := w.heap.size + 1) (o := 0) (v := .bool b) hb (by first | omega | (simp; done) | (simp; omega)) (by first | assumption | exact cell_alloc_l _ (by assumption) | exact cell_alloc_l _ (cell_alloc_l _ (by assumption)) | (simp [go_sem]; done) | (simp [go_sem, *]; done))
          have t4_1_1 := keep_cell (b := w.heap.size + 1) (o := 1) (v := .int .i64 h) hb (by first | omega | (simp; done) | (simp; omega)) (by first | assumption | exact cell_alloc_l _ (by assumption) | exact cell_alloc_l _ (cell_alloc_l _ (by assumption)) | (simp [go_sem]; done) | (simp [go_sem, *]; done))
          have t4_1_2 := keep_cell (b := w.heap.size + 1) (o := 2) (v := .int .i64 p) hb (by first | omega | (simp; done) | (simp; omega)) (by first | assumption | exact cell_alloc_l _ (by assumption) | exact cell_alloc_l _ (cell_alloc_l _ (by assumption)) | (simp [go_sem]; done) | (simp [go_sem, *]; done))
          clear t3_0_0 t3_0_1 t3_0_2 t3_0_3 t3_l0 t3_1_0 t3_1_1 t3_1_2 t3_l1
          clear hb
          go_wp2_with fail
          refine wp_name ?_
          intro W0 hW0
          have HBW := Lib.hid (show Below w.heap.size w W0 from hW0 ▸ (by have hb' := HB4.out; have hb'' := hb'.size; go_grown))
          have g_l0 : w.heap.size < W0.heap.size := by rw [← hW0]; first | omega | (simp; done) | (simp; omega)
          have g_0_0 : W0.cell? ⟨w.heap.size, 0, none⟩ = some (.int .i64 L) := by rw [← hW0]; first | assumption | exact cell_alloc_l _ (by assumption) | exact cell_alloc_l _ (cell_alloc_l _ (by assumption)) | (simp [go_sem]; done) | (simp [go_sem, *]; done)
          have g_0_1 : W0.cell? ⟨w.heap.size, 1, none⟩ = some (.slice a1 n1 c1) := by rw [← hW0]; first | assumption | exact cell_alloc_l _ (by assumption) | exact cell_alloc_l _ (cell_alloc_l _ (by assumption)) | (simp [go_sem]; done) | (simp [go_sem, *]; done)
          have g_0_2 : W0.cell? ⟨w.heap.size, 2, none⟩ = some (.slice a2 n2 c2) := by rw [← hW0]; first | assumption | exact cell_alloc_l _ (by assumption) | exact cell_alloc_l _ (cell_alloc_l _ (by assumption)) | (simp [go_sem]; done) | (simp [go_sem, *]; done)
          have g_0_3 : W0.cell? ⟨w.heap.size, 3, none⟩ = some (.slice a3 n3 c3) := by rw [← hW0]; first | assumption | exact cell_alloc_l _ (by assumption) | exact cell_alloc_l _ (cell_alloc_l _ (by assumption)) | (simp [go_sem]; done) | (simp [go_sem, *]; done)
          have g_l1 : w.heap.size + 1 < W0.heap.size := by rw [← hW0]; first | omega | (simp; done) | (simp; omega)
          have g_1_0 : W0.cell? ⟨w.heap.size + 1, 0, none⟩ = some (.bool b) := by rw [← hW0]; first | assumption | exact cell_alloc_l _ (by assumption) | exact cell_alloc_l _ (cell_alloc_l _ (by assumption)) | (simp [go_sem]; done) | (simp [go_sem, *]; done)
          have g_1_1 : W0.cell? ⟨w.heap.size + 1, 1, none⟩ = some (.int .i64 h) := by rw [← hW0]; first | assumption | exact cell_alloc_l _ (by assumption) | exact cell_alloc_l _ (cell_alloc_l _ (by assumption)) | (simp [go_sem]; done) | (simp [go_sem, *]; done)
          have g_1_2 : W0.cell? ⟨w.heap.size + 1, 2, none⟩ = some (.int .i64 p) := by rw [← hW0]; first | assumption | exact cell_alloc_l _ (by assumption) | exact cell_alloc_l _ (cell_alloc_l _ (by assumption)) | (simp [go_sem]; done) | (simp [go_sem, *]; done)
          have g_l2 : w4.heap.size < W0.heap.size := by rw [← hW0]; first | omega | (simp; done) | (simp; omega)
          have g_2_0 : W0.cell? ⟨w4.heap.size, 0, none⟩ = some (.bool (decide (720 ≤ T % 1440))) := by rw [← hW0]; first | assumption | exact cell_alloc_l _ (by assumption) | exact cell_alloc_l _ (cell_alloc_l _ (by assumption)) | (simp [go_sem]; done) | (simp [go_sem, *]; done)
          have g_2_1 : W0.cell? ⟨w4.heap.size, 1, none⟩ = some (.int .i64 (T % 1440 / 60 % 12)) := by rw [← hW0]; first | assumption | exact cell_alloc_l _ (by assumption) | exact cell_alloc_l _ (cell_alloc_l _ (by assumption)) | (simp [go_sem]; done) | (simp [go_sem, *]; done)
          have g_2_2 : W0.cell? ⟨w4.heap.size, 2, none⟩ = some (.int .i64 (T % 60)) := by rw [← hW0]; first | assumption | exact cell_alloc_l _ (by assumption) | exact cell_alloc_l _ (cell_alloc_l _ (by assumption)) | (simp [go_sem]; done) | (simp [go_sem, *]; done)
          clear t4_0_0 t4_0_1 t4_0_2 t4_0_3 t4_l0 t4_1_0 t4_1_1 t4_1_2 t4_l1
          clear hW0
          have HQ := Lib.hid (show ∀ W', Below W0.heap.size W0 W' → W'.cell? ⟨w.heap.size, 0, none⟩ = some (.int .i64 L) ∧ W'.cell? ⟨w.heap.size, 1, none⟩ = some (.slice a1 n1 c1) ∧ W'.cell? ⟨w.heap.size, 2, none⟩ = some (.slice a2 n2 c2) ∧ W'.cell? ⟨w.heap.size, 3, none⟩ = some (.slice a3 n3 c3) ∧ W'.cell? ⟨w.heap.size + 1, 0, none⟩ = some (.bool b) ∧ W'.cell? ⟨w.heap.size + 1, 1, none⟩ = some (.int .i64 h) ∧ W'.cell? ⟨w.heap.size + 1, 2, none⟩ = some (.int .i64 p) ∧ W'.cell? ⟨w4.heap.size, 0, none⟩ = some (.bool (decide (720 ≤ T % 1440))) ∧ W'.cell? ⟨w4.heap.size, 1, none⟩ = some (.int .i64 (T % 1440 / 60 % 12)) ∧ W'.cell? ⟨w4.heap.size, 2, none⟩ = some (.int .i64 (T % 60)) ∧ Below W0.heap.size W0 W' from fun W' hBW => ⟨keep_cell hBW g_l0 g_0_0, keep_cell hBW g_l0 g_0_1, keep_cell hBW g_l0 g_0_2, keep_cell hBW g_l0 g_0_3, keep_cell hBW g_l1 g_1_0, keep_cell hBW g_l1 g_1_1, keep_cell hBW g_l1 g_1_2, keep_cell hBW g_l2 g_2_0, keep_cell hBW g_l2 g_2_1, keep_cell hBW g_l2 g_2_2, hBW⟩)
          go_region_held3 (fun W' => W'.cell? ⟨w.heap.size, 0, none⟩ = some (.int .i64 L) ∧ W'.cell? ⟨w.heap.size, 1, none⟩ = some (.slice a1 n1 c1) ∧ W'.cell? ⟨w.heap.size, 2, none⟩ = some (.slice a2 n2 c2) ∧ W'.cell? ⟨w.heap.size, 3, none⟩ = some (.slice a3 n3 c3) ∧ W'.cell? ⟨w.heap.size + 1, 0, none⟩ = some (.bool b) ∧ W'.cell? ⟨w.heap.size + 1, 1, none⟩ = some (.int .i64 h) ∧ W'.cell? ⟨w.heap.size + 1, 2, none⟩ = some (.int .i64 p) ∧ W'.cell? ⟨w4.heap.size, 0, none⟩ = some (.bool (decide (720 ≤ T % 1440))) ∧ W'.cell? ⟨w4.heap.size, 1, none⟩ = some (.int .i64 (T % 1440 / 60 % 12)) ∧ W'.cell? ⟨w4.heap.size, 2, none⟩ = some (.int .i64 (T % 60)) ∧ Below W0.heap.size W0 W') ((refine HQ.out _ ?_; first | exact (Below.refl _ _).drew | assumption)) (first | (go_at_call 56; obtain ⟨_, _, _, _, _, _, _, _, _, _, hBW⟩ := ‹_ ∧ _ ∧ _ ∧ _ ∧ _ ∧ _ ∧ _ ∧ _ ∧ _ ∧ _ ∧ Below W0.heap.size W0 _›; (with_reducible refine (rHour_yes _ _ _ _ (ord_hour T)).mono ?_); rintro e wn ⟨rfl, hbn⟩; have hBN := bjoin hBW hbn) | (go_at_call 57; obtain ⟨_, _, _, _, _, _, _, _, _, _, hBW⟩ := ‹_ ∧ _ ∧ _ ∧ _ ∧ _ ∧ _ ∧ _ ∧ _ ∧ _ ∧ _ ∧ Below W0.heap.size W0 _›; (with_reducible refine (Order_back T _ (by omega)).mono ?_); rintro e wn ⟨rfl, hbn⟩; have hBN := bjoin hBW hbn) | (go_at_call 57; obtain ⟨_, _, _, _, _, _, _, _, _, _, hBW⟩ := ‹_ ∧ _ ∧ _ ∧ _ ∧ _ ∧ _ ∧ _ ∧ _ ∧ _ ∧ _ ∧ Below W0.heap.size W0 _›; (with_reducible refine (HOO.out _).mono ?_); rintro e wn ⟨rfl, hbn⟩; have hBN := bjoin hBW hbn))
          all_goals obtain ⟨_, _, _, _, _, _, _, _, _, _, hBZ⟩ := ‹_ ∧ _ ∧ _ ∧ _ ∧ _ ∧ _ ∧ _ ∧ _ ∧ _ ∧ _ ∧ Below W0.heap.size W0 _›
          all_goals have HZ := Lib.hid (bjoin HBW.out hBZ)
          all_goals clear hBZ
          all_goals go_wp2
          all_goals go_ret
          all_goals exact ⟨by first | rfl | (simp; done) | (simp; omega), HZ.out⟩
      · have hgt : minute < upF (momF L D R S day b (60 * h + p)) := by
          rcases lt_or_ge_x minute (upF (momF L D R S day b (60 * h + p))) with k | k
          · exact k
          · have := hiff.1 k; omega
        have HT := Lib.hid (show toldN L D R S minute < 0 by omega)
        have HF := Lib.hid (fun W hW => First_ok (c1 := c1) (c2 := c2) (c3 := c3) day b h p W (HSEA.out.to hW) HO.out HDY.out HHH.out)
        have HTT := Lib.hid (fun W hW => Told_none (c1 := c1) (c2 := c2) (c3 := c3) minute W (HSEA.out.to hW) HO.out HM.out HT.out)
        clear hiff ht htop
        generalize upF (momF L D R S day b (60 * h + p)) = u at *
        go_enter Tryd.func11, Tryd.ntmps11
        go_wp2_with fail
        refine (sane_any _).mono ?_
        rintro e w1 ⟨rfl, hb⟩
        have HB1 := Lib.hid (bjoin (w := w) (by have hb' := (Below.refl w.heap.size w); have hb'' := hb'.size; go_grown) hb)
        have t1_l0 := keep_lt (b := w.heap.size) hb (by first | omega | (simp; done) | (simp; omega))
        have t1_0_0 := keep_cell (b := w.heap.size) (o := 0) (v := .int .i64 L) hb (by first | omega | (simp; done) | (simp; omega)) (by first | assumption | exact cell_alloc_l _ (by assumption) | exact cell_alloc_l _ (cell_alloc_l _ (by assumption)) | (simp [go_sem]; done) | (simp [go_sem, *]; done))
        have t1_0_1 := keep_cell (b := w.heap.size) (o := 1) (v := .slice a1 n1 c1) hb (by first | omega | (simp; done) | (simp; omega)) (by first | assumption | exact cell_alloc_l _ (by assumption) | exact cell_alloc_l _ (cell_alloc_l _ (by assumption)) | (simp [go_sem]; done) | (simp [go_sem, *]; done))
        have t1_0_2 := keep_cell (b := w.heap.size) (o := 2) (v := .slice a2 n2 c2) hb (by first | omega | (simp; done) | (simp; omega)) (by first | assumption | exact cell_alloc_l _ (by assumption) | exact cell_alloc_l _ (cell_alloc_l _ (by assumption)) | (simp [go_sem]; done) | (simp [go_sem, *]; done))
        have t1_0_3 := keep_cell (b := w.heap.size) (o := 3) (v := .slice a3 n3 c3) hb (by first | omega | (simp; done) | (simp; omega)) (by first | assumption | exact cell_alloc_l _ (by assumption) | exact cell_alloc_l _ (cell_alloc_l _ (by assumption)) | (simp [go_sem]; done) | (simp [go_sem, *]; done))
        have t1_l1 := keep_lt (b := w.heap.size + 1) hb (by first | omega | (simp; done) | (simp; omega))
        have t1_1_0 := keep_cell (b := w.heap.size + 1) (o := 0) (v := .bool b) hb (by first | omega | (simp; done) | (simp; omega)) (by first | assumption | exact cell_alloc_l _ (by assumption) | exact cell_alloc_l _ (cell_alloc_l _ (by assumption)) | (simp [go_sem]; done) | (simp [go_sem, *]; done))
        have t1_1_1 := keep_cell (b := w.heap.size + 1) (o := 1) (v := .int .i64 h) hb (by first | omega | (simp; done) | (simp; omega)) (by first | assumption | exact cell_alloc_l _ (by assumption) | exact cell_alloc_l _ (cell_alloc_l _ (by assumption)) | (simp [go_sem]; done) | (simp [go_sem, *]; done))
        have t1_1_2 := keep_cell (b := w.heap.size + 1) (o := 2) (v := .int .i64 p) hb (by first | omega | (simp; done) | (simp; omega)) (by first | assumption | exact cell_alloc_l _ (by assumption) | exact cell_alloc_l _ (cell_alloc_l _ (by assumption)) | (simp [go_sem]; done) | (simp [go_sem, *]; done))
        clear hb
        go_wp2_with fail
        refine (right1_any (days := [day]) (w1.heap.size + 1) _ b h p _ (HD.out.to (by have hb' := HB1.out; have hb'' := hb'.size; go_grown)) (HR.out.to (by have hb' := HB1.out; have hb'' := hb'.size; go_grown)) (HS.out.to (by have hb' := HB1.out; have hb'' := hb'.size; go_grown)) (lst1 (b := w1.heap.size) (by simp [go_sem]) (by first | (simp; done) | (simp; omega))) (by omega) (by first | (simp; done) | (simp; omega)) (by simp [go_sem]) (by simp [go_sem]) (by simp [go_sem])).mono ?_
        rintro e w2 ⟨rfl, hb⟩
        have HB2 := Lib.hid (bjoin (w := w) (by have hb' := HB1.out; have hb'' := hb'.size; go_grown) hb)
        have t2_l0 := keep_lt (b := w.heap.size) hb (by first | omega | (simp; done) | (simp; omega))
        have t2_0_0 := keep_cell (b := w.heap.size) (o := 0) (v := .int .i64 L) hb (by first | omega | (simp; done) | (simp; omega)) (by first | assumption | exact cell_alloc_l _ (by assumption) | exact cell_alloc_l _ (cell_alloc_l _ (by assumption)) | (simp [go_sem]; done) | (simp [go_sem, *]; done))
        have t2_0_1 := keep_cell (b := w.heap.size) (o := 1) (v := .slice a1 n1 c1) hb (by first | omega | (simp; done) | (simp; omega)) (by first | assumption | exact cell_alloc_l _ (by assumption) | exact cell_alloc_l _ (cell_alloc_l _ (by assumption)) | (simp [go_sem]; done) | (simp [go_sem, *]; done))
        have t2_0_2 := keep_cell (b := w.heap.size) (o := 2) (v := .slice a2 n2 c2) hb (by first | omega | (simp; done) | (simp; omega)) (by first | assumption | exact cell_alloc_l _ (by assumption) | exact cell_alloc_l _ (cell_alloc_l _ (by assumption)) | (simp [go_sem]; done) | (simp [go_sem, *]; done))
        have t2_0_3 := keep_cell (b := w.heap.size) (o := 3) (v := .slice a3 n3 c3) hb (by first | omega | (simp; done) | (simp; omega)) (by first | assumption | exact cell_alloc_l _ (by assumption) | exact cell_alloc_l _ (cell_alloc_l _ (by assumption)) | (simp [go_sem]; done) | (simp [go_sem, *]; done))
        have t2_l1 := keep_lt (b := w.heap.size + 1) hb (by first | omega | (simp; done) | (simp; omega))
        have t2_1_0 := keep_cell (b := w.heap.size + 1) (o := 0) (v := .bool b) hb (by first | omega | (simp; done) | (simp; omega)) (by first | assumption | exact cell_alloc_l _ (by assumption) | exact cell_alloc_l _ (cell_alloc_l _ (by assumption)) | (simp [go_sem]; done) | (simp [go_sem, *]; done))
        have t2_1_1 := keep_cell (b := w.heap.size + 1) (o := 1) (v := .int .i64 h) hb (by first | omega | (simp; done) | (simp; omega)) (by first | assumption | exact cell_alloc_l _ (by assumption) | exact cell_alloc_l _ (cell_alloc_l _ (by assumption)) | (simp [go_sem]; done) | (simp [go_sem, *]; done))
        have t2_1_2 := keep_cell (b := w.heap.size + 1) (o := 2) (v := .int .i64 p) hb (by first | omega | (simp; done) | (simp; omega)) (by first | assumption | exact cell_alloc_l _ (by assumption) | exact cell_alloc_l _ (cell_alloc_l _ (by assumption)) | (simp [go_sem]; done) | (simp [go_sem, *]; done))
        have t2_l2 := keep_lt (b := w1.heap.size) hb (by first | omega | (simp; done) | (simp; omega))
        have t2_2_0 := keep_cell (b := w1.heap.size) (o := 0) (v := .int .i64 (day)) hb (by first | omega | (simp; done) | (simp; omega)) (by first | assumption | exact cell_alloc_l _ (by assumption) | exact cell_alloc_l _ (cell_alloc_l _ (by assumption)) | (simp [go_sem]; done) | (simp [go_sem, *]; done))
        have t2_l3 := keep_lt (b := w1.heap.size + 1) hb (by first | omega | (simp; done) | (simp; omega))
        have t2_3_0 := keep_cell (b := w1.heap.size + 1) (o := 0) (v := .bool b) hb (by first | omega | (simp; done) | (simp; omega)) (by first | assumption | exact cell_alloc_l _ (by assumption) | exact cell_alloc_l _ (cell_alloc_l _ (by assumption)) | (simp [go_sem]; done) | (simp [go_sem, *]; done))
        have t2_3_1 := keep_cell (b := w1.heap.size + 1) (o := 1) (v := .int .i64 h) hb (by first | omega | (simp; done) | (simp; omega)) (by first | assumption | exact cell_alloc_l _ (by assumption) | exact cell_alloc_l _ (cell_alloc_l _ (by assumption)) | (simp [go_sem]; done) | (simp [go_sem, *]; done))
        have t2_3_2 := keep_cell (b := w1.heap.size + 1) (o := 2) (v := .int .i64 p) hb (by first | omega | (simp; done) | (simp; omega)) (by first | assumption | exact cell_alloc_l _ (by assumption) | exact cell_alloc_l _ (cell_alloc_l _ (by assumption)) | (simp [go_sem]; done) | (simp [go_sem, *]; done))
        clear t1_0_0 t1_0_1 t1_0_2 t1_0_3 t1_l0 t1_1_0 t1_1_1 t1_1_2 t1_l1
        clear hb
        clear t2_2_0 t2_l2 t2_3_0 t2_3_1 t2_3_2 t2_l3
        rw [HRB.out]
        go_wp2_with fail
        refine (HF.out _ (by have hb' := HB2.out; have hb'' := hb'.size; go_grown)).mono ?_
        rintro e w3 ⟨rfl, hb⟩
        have HB3 := Lib.hid (bjoin (w := w) (by have hb' := HB2.out; have hb'' := hb'.size; go_grown) hb)
        have t3_l0 := keep_lt (b := w.heap.size) hb (by first | omega | (simp; done) | (simp; omega))
        have t3_0_0 := keep_cell (b := w.heap.size) (o := 0) (v := .int .i64 L) hb (by first | omega | (simp; done) | (simp; omega)) (by first | assumption | exact cell_alloc_l _ (by assumption) | exact cell_alloc_l _ (cell_alloc_l _ (by assumption)) | (simp [go_sem]; done) | (simp [go_sem, *]; done))
        have t3_0_1 := keep_cell (b := w.heap.size) (o := 1) (v := .slice a1 n1 c1) hb (by first | omega | (simp; done) | (simp; omega)) (by first | assumption | exact cell_alloc_l _ (by assumption) | exact cell_alloc_l _ (cell_alloc_l _ (by assumption)) | (simp [go_sem]; done) | (simp [go_sem, *]; done))
        have t3_0_2 := keep_cell (b := w.heap.size) (o := 2) (v := .slice a2 n2 c2) hb (by first | omega | (simp; done) | (simp; omega)) (by first | assumption | exact cell_alloc_l _ (by assumption) | exact cell_alloc_l _ (cell_alloc_l _ (by assumption)) | (simp [go_sem]; done) | (simp [go_sem, *]; done))
        have t3_0_3 := keep_cell (b := w.heap.size) (o := 3) (v := .slice a3 n3 c3) hb (by first | omega | (simp; done) | (simp; omega)) (by first | assumption | exact cell_alloc_l _ (by assumption) | exact cell_alloc_l _ (cell_alloc_l _ (by assumption)) | (simp [go_sem]; done) | (simp [go_sem, *]; done))
        have t3_l1 := keep_lt (b := w.heap.size + 1) hb (by first | omega | (simp; done) | (simp; omega))
        have t3_1_0 := keep_cell (b := w.heap.size + 1) (o := 0) (v := .bool b) hb (by first | omega | (simp; done) | (simp; omega)) (by first | assumption | exact cell_alloc_l _ (by assumption) | exact cell_alloc_l _ (cell_alloc_l _ (by assumption)) | (simp [go_sem]; done) | (simp [go_sem, *]; done))
        have t3_1_1 := keep_cell (b := w.heap.size + 1) (o := 1) (v := .int .i64 h) hb (by first | omega | (simp; done) | (simp; omega)) (by first | assumption | exact cell_alloc_l _ (by assumption) | exact cell_alloc_l _ (cell_alloc_l _ (by assumption)) | (simp [go_sem]; done) | (simp [go_sem, *]; done))
        have t3_1_2 := keep_cell (b := w.heap.size + 1) (o := 2) (v := .int .i64 p) hb (by first | omega | (simp; done) | (simp; omega)) (by first | assumption | exact cell_alloc_l _ (by assumption) | exact cell_alloc_l _ (cell_alloc_l _ (by assumption)) | (simp [go_sem]; done) | (simp [go_sem, *]; done))
        clear t2_0_0 t2_0_1 t2_0_2 t2_0_3 t2_l0 t2_1_0 t2_1_1 t2_1_2 t2_l1
        clear hb
        go_wp2_with fail
        refine (HTT.out _ (by have hb' := HB3.out; have hb'' := hb'.size; go_grown)).mono ?_
        rintro e w4 ⟨rfl, hb⟩
        have HB4 := Lib.hid (bjoin (w := w) (by have hb' := HB3.out; have hb'' := hb'.size; go_grown) hb)
        have t4_l0 := keep_lt (b := w.heap.size) hb (by first | omega | (simp; done) | (simp; omega))
        have t4_0_0 := keep_cell (b := w.heap.size) (o := 0) (v := .int .i64 L) hb (by first | omega | (simp; done) | (simp; omega)) (by first | assumption | exact cell_alloc_l _ (by assumption) | exact cell_alloc_l _ (cell_alloc_l _ (by assumption)) | (simp [go_sem]; done) | (simp [go_sem, *]; done))
        have t4_0_1 := keep_cell (b := w.heap.size) (o := 1) (v := .slice a1 n1 c1) hb (by first | omega | (simp; done) | (simp; omega)) (by first | assumption | exact cell_alloc_l _ (by assumption) | exact cell_alloc_l _ (cell_alloc_l _ (by assumption)) | (simp [go_sem]; done) | (simp [go_sem, *]; done))
        have t4_0_2 := keep_cell (b := w.heap.size) (o := 2) (v := .slice a2 n2 c2) hb (by first | omega | (simp; done) | (simp; omega)) (by first | assumption | exact cell_alloc_l _ (by assumption) | exact cell_alloc_l _ (cell_alloc_l _ (by assumption)) | (simp [go_sem]; done) | (simp [go_sem, *]; done))
        have t4_0_3 := keep_cell (b := w.heap.size) (o := 3) (v := .slice a3 n3 c3) hb (by first | omega | (simp; done) | (simp; omega)) (by first | assumption | exact cell_alloc_l _ (by assumption) | exact cell_alloc_l _ (cell_alloc_l _ (by assumption)) | (simp [go_sem]; done) | (simp [go_sem, *]; done))
        have t4_l1 := keep_lt (b := w.heap.size + 1) hb (by first | omega | (simp; done) | (simp; omega))
        have t4_1_0 := keep_cell (b := w.heap.size + 1) (o := 0) (v := .bool b) hb (by first | omega | (simp; done) | (simp; omega)) (by first | assumption | exact cell_alloc_l _ (by assumption) | exact cell_alloc_l _ (cell_alloc_l _ (by assumption)) | (simp [go_sem]; done) | (simp [go_sem, *]; done))
        have t4_1_1 := keep_cell (b := w.heap.size + 1) (o := 1) (v := .int .i64 h) hb (by first | omega | (simp; done) | (simp; omega)) (by first | assumption | exact cell_alloc_l _ (by assumption) | exact cell_alloc_l _ (cell_alloc_l _ (by assumption)) | (simp [go_sem]; done) | (simp [go_sem, *]; done))
        have t4_1_2 := keep_cell (b := w.heap.size + 1) (o := 2) (v := .int .i64 p) hb (by first | omega | (simp; done) | (simp; omega)) (by first | assumption | exact cell_alloc_l _ (by assumption) | exact cell_alloc_l _ (cell_alloc_l _ (by assumption)) | (simp [go_sem]; done) | (simp [go_sem, *]; done))
        clear t3_0_0 t3_0_1 t3_0_2 t3_0_3 t3_l0 t3_1_0 t3_1_1 t3_1_2 t3_l1
        clear hb
        go_wp2_with fail
        go_ret
        exact ⟨by first | rfl | (simp; done) | (simp; omega), by have hb' := HB4.out; have hb'' := hb'.size; go_grown⟩
    · by_cases m0 : 0 ≤ minute
      · have m1 : ¬ minute ≤ 15840000 := fun k => hm ⟨m0, k⟩
        clear hm hok hd hh
        go_enter Tryd.func11, Tryd.ntmps11
        go_wp2_with fail
        refine (sane_any _).mono ?_
        rintro e w1 ⟨rfl, hb⟩
        have HB1 := Lib.hid (bjoin (w := w) (by have hb' := (Below.refl w.heap.size w); have hb'' := hb'.size; go_grown) hb)
        have t1_l0 := keep_lt (b := w.heap.size) hb (by first | omega | (simp; done) | (simp; omega))
        have t1_0_0 := keep_cell (b := w.heap.size) (o := 0) (v := .int .i64 L) hb (by first | omega | (simp; done) | (simp; omega)) (by first | assumption | exact cell_alloc_l _ (by assumption) | exact cell_alloc_l _ (cell_alloc_l _ (by assumption)) | (simp [go_sem]; done) | (simp [go_sem, *]; done))
        have t1_0_1 := keep_cell (b := w.heap.size) (o := 1) (v := .slice a1 n1 c1) hb (by first | omega | (simp; done) | (simp; omega)) (by first | assumption | exact cell_alloc_l _ (by assumption) | exact cell_alloc_l _ (cell_alloc_l _ (by assumption)) | (simp [go_sem]; done) | (simp [go_sem, *]; done))
        have t1_0_2 := keep_cell (b := w.heap.size) (o := 2) (v := .slice a2 n2 c2) hb (by first | omega | (simp; done) | (simp; omega)) (by first | assumption | exact cell_alloc_l _ (by assumption) | exact cell_alloc_l _ (cell_alloc_l _ (by assumption)) | (simp [go_sem]; done) | (simp [go_sem, *]; done))
        have t1_0_3 := keep_cell (b := w.heap.size) (o := 3) (v := .slice a3 n3 c3) hb (by first | omega | (simp; done) | (simp; omega)) (by first | assumption | exact cell_alloc_l _ (by assumption) | exact cell_alloc_l _ (cell_alloc_l _ (by assumption)) | (simp [go_sem]; done) | (simp [go_sem, *]; done))
        have t1_l1 := keep_lt (b := w.heap.size + 1) hb (by first | omega | (simp; done) | (simp; omega))
        have t1_1_0 := keep_cell (b := w.heap.size + 1) (o := 0) (v := .bool b) hb (by first | omega | (simp; done) | (simp; omega)) (by first | assumption | exact cell_alloc_l _ (by assumption) | exact cell_alloc_l _ (cell_alloc_l _ (by assumption)) | (simp [go_sem]; done) | (simp [go_sem, *]; done))
        have t1_1_1 := keep_cell (b := w.heap.size + 1) (o := 1) (v := .int .i64 h) hb (by first | omega | (simp; done) | (simp; omega)) (by first | assumption | exact cell_alloc_l _ (by assumption) | exact cell_alloc_l _ (cell_alloc_l _ (by assumption)) | (simp [go_sem]; done) | (simp [go_sem, *]; done))
        have t1_1_2 := keep_cell (b := w.heap.size + 1) (o := 2) (v := .int .i64 p) hb (by first | omega | (simp; done) | (simp; omega)) (by first | assumption | exact cell_alloc_l _ (by assumption) | exact cell_alloc_l _ (cell_alloc_l _ (by assumption)) | (simp [go_sem]; done) | (simp [go_sem, *]; done))
        clear hb
        go_wp2_with fail
        refine (right1_any (days := [day]) (w1.heap.size + 1) _ b h p _ (HD.out.to (by have hb' := HB1.out; have hb'' := hb'.size; go_grown)) (HR.out.to (by have hb' := HB1.out; have hb'' := hb'.size; go_grown)) (HS.out.to (by have hb' := HB1.out; have hb'' := hb'.size; go_grown)) (lst1 (b := w1.heap.size) (by simp [go_sem]) (by first | (simp; done) | (simp; omega))) (by omega) (by first | (simp; done) | (simp; omega)) (by simp [go_sem]) (by simp [go_sem]) (by simp [go_sem])).mono ?_
        rintro e w2 ⟨rfl, hb⟩
        have HB2 := Lib.hid (bjoin (w := w) (by have hb' := HB1.out; have hb'' := hb'.size; go_grown) hb)
        have t2_l0 := keep_lt (b := w.heap.size) hb (by first | omega | (simp; done) | (simp; omega))
        have t2_0_0 := keep_cell (b := w.heap.size) (o := 0) (v := .int .i64 L) hb (by first | omega | (simp; done) | (simp; omega)) (by first | assumption | exact cell_alloc_l _ (by assumption) | exact cell_alloc_l _ (cell_alloc_l _ (by assumption)) | (simp [go_sem]; done) | (simp [go_sem, *]; done))
        have t2_0_1 := keep_cell (b := w.heap.size) (o := 1) (v := .slice a1 n1 c1) hb (by first | omega | (simp; done) | (simp; omega)) (by first | assumption | exact cell_alloc_l _ (by assumption) | exact cell_alloc_l _ (cell_alloc_l _ (by assumption)) | (simp [go_sem]; done) | (simp [go_sem, *]; done))
        have t2_0_2 := keep_cell (b := w.heap.size) (o := 2) (v := .slice a2 n2 c2) hb (by first | omega | (simp; done) | (simp; omega)) (by first | assumption | exact cell_alloc_l _ (by assumption) | exact cell_alloc_l _ (cell_alloc_l _ (by assumption)) | (simp [go_sem]; done) | (simp [go_sem, *]; done))
        have t2_0_3 := keep_cell (b := w.heap.size) (o := 3) (v := .slice a3 n3 c3) hb (by first | omega | (simp; done) | (simp; omega)) (by first | assumption | exact cell_alloc_l _ (by assumption) | exact cell_alloc_l _ (cell_alloc_l _ (by assumption)) | (simp [go_sem]; done) | (simp [go_sem, *]; done))
        have t2_l1 := keep_lt (b := w.heap.size + 1) hb (by first | omega | (simp; done) | (simp; omega))
        have t2_1_0 := keep_cell (b := w.heap.size + 1) (o := 0) (v := .bool b) hb (by first | omega | (simp; done) | (simp; omega)) (by first | assumption | exact cell_alloc_l _ (by assumption) | exact cell_alloc_l _ (cell_alloc_l _ (by assumption)) | (simp [go_sem]; done) | (simp [go_sem, *]; done))
        have t2_1_1 := keep_cell (b := w.heap.size + 1) (o := 1) (v := .int .i64 h) hb (by first | omega | (simp; done) | (simp; omega)) (by first | assumption | exact cell_alloc_l _ (by assumption) | exact cell_alloc_l _ (cell_alloc_l _ (by assumption)) | (simp [go_sem]; done) | (simp [go_sem, *]; done))
        have t2_1_2 := keep_cell (b := w.heap.size + 1) (o := 2) (v := .int .i64 p) hb (by first | omega | (simp; done) | (simp; omega)) (by first | assumption | exact cell_alloc_l _ (by assumption) | exact cell_alloc_l _ (cell_alloc_l _ (by assumption)) | (simp [go_sem]; done) | (simp [go_sem, *]; done))
        have t2_l2 := keep_lt (b := w1.heap.size) hb (by first | omega | (simp; done) | (simp; omega))
        have t2_2_0 := keep_cell (b := w1.heap.size) (o := 0) (v := .int .i64 (day)) hb (by first | omega | (simp; done) | (simp; omega)) (by first | assumption | exact cell_alloc_l _ (by assumption) | exact cell_alloc_l _ (cell_alloc_l _ (by assumption)) | (simp [go_sem]; done) | (simp [go_sem, *]; done))
        have t2_l3 := keep_lt (b := w1.heap.size + 1) hb (by first | omega | (simp; done) | (simp; omega))
        have t2_3_0 := keep_cell (b := w1.heap.size + 1) (o := 0) (v := .bool b) hb (by first | omega | (simp; done) | (simp; omega)) (by first | assumption | exact cell_alloc_l _ (by assumption) | exact cell_alloc_l _ (cell_alloc_l _ (by assumption)) | (simp [go_sem]; done) | (simp [go_sem, *]; done))
        have t2_3_1 := keep_cell (b := w1.heap.size + 1) (o := 1) (v := .int .i64 h) hb (by first | omega | (simp; done) | (simp; omega)) (by first | assumption | exact cell_alloc_l _ (by assumption) | exact cell_alloc_l _ (cell_alloc_l _ (by assumption)) | (simp [go_sem]; done) | (simp [go_sem, *]; done))
        have t2_3_2 := keep_cell (b := w1.heap.size + 1) (o := 2) (v := .int .i64 p) hb (by first | omega | (simp; done) | (simp; omega)) (by first | assumption | exact cell_alloc_l _ (by assumption) | exact cell_alloc_l _ (cell_alloc_l _ (by assumption)) | (simp [go_sem]; done) | (simp [go_sem, *]; done))
        clear t1_0_0 t1_0_1 t1_0_2 t1_0_3 t1_l0 t1_1_0 t1_1_1 t1_1_2 t1_l1
        clear hb
        clear t2_2_0 t2_l2 t2_3_0 t2_3_1 t2_3_2 t2_l3
        rw [HRB.out]
        go_wp2_with fail
        go_ret
        exact ⟨rfl, by have hb' := HB2.out; have hb'' := hb'.size; go_grown⟩
      · clear hm hok hd hh
        go_enter Tryd.func11, Tryd.ntmps11
        go_wp2_with fail
        refine (sane_any _).mono ?_
        rintro e w1 ⟨rfl, hb⟩
        have HB1 := Lib.hid (bjoin (w := w) (by have hb' := (Below.refl w.heap.size w); have hb'' := hb'.size; go_grown) hb)
        have t1_l0 := keep_lt (b := w.heap.size) hb (by first | omega | (simp; done) | (simp; omega))
        have t1_0_0 := keep_cell (b := w.heap.size) (o := 0) (v := .int .i64 L) hb (by first | omega | (simp; done) | (simp; omega)) (by first | assumption | exact cell_alloc_l _ (by assumption) | exact cell_alloc_l _ (cell_alloc_l _ (by assumption)) | (simp [go_sem]; done) | (simp [go_sem, *]; done))
        have t1_0_1 := keep_cell (b := w.heap.size) (o := 1) (v := .slice a1 n1 c1) hb (by first | omega | (simp; done) | (simp; omega)) (by first | assumption | exact cell_alloc_l _ (by assumption) | exact cell_alloc_l _ (cell_alloc_l _ (by assumption)) | (simp [go_sem]; done) | (simp [go_sem, *]; done))
        have t1_0_2 := keep_cell (b := w.heap.size) (o := 2) (v := .slice a2 n2 c2) hb (by first | omega | (simp; done) | (simp; omega)) (by first | assumption | exact cell_alloc_l _ (by assumption) | exact cell_alloc_l _ (cell_alloc_l _ (by assumption)) | (simp [go_sem]; done) | (simp [go_sem, *]; done))
        have t1_0_3 := keep_cell (b := w.heap.size) (o := 3) (v := .slice a3 n3 c3) hb (by first | omega | (simp; done) | (simp; omega)) (by first | assumption | exact cell_alloc_l _ (by assumption) | exact cell_alloc_l _ (cell_alloc_l _ (by assumption)) | (simp [go_sem]; done) | (simp [go_sem, *]; done))
        have t1_l1 := keep_lt (b := w.heap.size + 1) hb (by first | omega | (simp; done) | (simp; omega))
        have t1_1_0 := keep_cell (b := w.heap.size + 1) (o := 0) (v := .bool b) hb (by first | omega | (simp; done) | (simp; omega)) (by first | assumption | exact cell_alloc_l _ (by assumption) | exact cell_alloc_l _ (cell_alloc_l _ (by assumption)) | (simp [go_sem]; done) | (simp [go_sem, *]; done))
        have t1_1_1 := keep_cell (b := w.heap.size + 1) (o := 1) (v := .int .i64 h) hb (by first | omega | (simp; done) | (simp; omega)) (by first | assumption | exact cell_alloc_l _ (by assumption) | exact cell_alloc_l _ (cell_alloc_l _ (by assumption)) | (simp [go_sem]; done) | (simp [go_sem, *]; done))
        have t1_1_2 := keep_cell (b := w.heap.size + 1) (o := 2) (v := .int .i64 p) hb (by first | omega | (simp; done) | (simp; omega)) (by first | assumption | exact cell_alloc_l _ (by assumption) | exact cell_alloc_l _ (cell_alloc_l _ (by assumption)) | (simp [go_sem]; done) | (simp [go_sem, *]; done))
        clear hb
        go_wp2_with fail
        refine (right1_any (days := [day]) (w1.heap.size + 1) _ b h p _ (HD.out.to (by have hb' := HB1.out; have hb'' := hb'.size; go_grown)) (HR.out.to (by have hb' := HB1.out; have hb'' := hb'.size; go_grown)) (HS.out.to (by have hb' := HB1.out; have hb'' := hb'.size; go_grown)) (lst1 (b := w1.heap.size) (by simp [go_sem]) (by first | (simp; done) | (simp; omega))) (by omega) (by first | (simp; done) | (simp; omega)) (by simp [go_sem]) (by simp [go_sem]) (by simp [go_sem])).mono ?_
        rintro e w2 ⟨rfl, hb⟩
        have HB2 := Lib.hid (bjoin (w := w) (by have hb' := HB1.out; have hb'' := hb'.size; go_grown) hb)
        have t2_l0 := keep_lt (b := w.heap.size) hb (by first | omega | (simp; done) | (simp; omega))
        have t2_0_0 := keep_cell (b := w.heap.size) (o := 0) (v := .int .i64 L) hb (by first | omega | (simp; done) | (simp; omega)) (by first | assumption | exact cell_alloc_l _ (by assumption) | exact cell_alloc_l _ (cell_alloc_l _ (by assumption)) | (simp [go_sem]; done) | (simp [go_sem, *]; done))
        have t2_0_1 := keep_cell (b := w.heap.size) (o := 1) (v := .slice a1 n1 c1) hb (by first | omega | (simp; done) | (simp; omega)) (by first | assumption | exact cell_alloc_l _ (by assumption) | exact cell_alloc_l _ (cell_alloc_l _ (by assumption)) | (simp [go_sem]; done) | (simp [go_sem, *]; done))
        have t2_0_2 := keep_cell (b := w.heap.size) (o := 2) (v := .slice a2 n2 c2) hb (by first | omega | (simp; done) | (simp; omega)) (by first | assumption | exact cell_alloc_l _ (by assumption) | exact cell_alloc_l _ (cell_alloc_l _ (by assumption)) | (simp [go_sem]; done) | (simp [go_sem, *]; done))
        have t2_0_3 := keep_cell (b := w.heap.size) (o := 3) (v := .slice a3 n3 c3) hb (by first | omega | (simp; done) | (simp; omega)) (by first | assumption | exact cell_alloc_l _ (by assumption) | exact cell_alloc_l _ (cell_alloc_l _ (by assumption)) | (simp [go_sem]; done) | (simp [go_sem, *]; done))
        have t2_l1 := keep_lt (b := w.heap.size + 1) hb (by first | omega | (simp; done) | (simp; omega))
        have t2_1_0 := keep_cell (b := w.heap.size + 1) (o := 0) (v := .bool b) hb (by first | omega | (simp; done) | (simp; omega)) (by first | assumption | exact cell_alloc_l _ (by assumption) | exact cell_alloc_l _ (cell_alloc_l _ (by assumption)) | (simp [go_sem]; done) | (simp [go_sem, *]; done))
        have t2_1_1 := keep_cell (b := w.heap.size + 1) (o := 1) (v := .int .i64 h) hb (by first | omega | (simp; done) | (simp; omega)) (by first | assumption | exact cell_alloc_l _ (by assumption) | exact cell_alloc_l _ (cell_alloc_l _ (by assumption)) | (simp [go_sem]; done) | (simp [go_sem, *]; done))
        have t2_1_2 := keep_cell (b := w.heap.size + 1) (o := 2) (v := .int .i64 p) hb (by first | omega | (simp; done) | (simp; omega)) (by first | assumption | exact cell_alloc_l _ (by assumption) | exact cell_alloc_l _ (cell_alloc_l _ (by assumption)) | (simp [go_sem]; done) | (simp [go_sem, *]; done))
        have t2_l2 := keep_lt (b := w1.heap.size) hb (by first | omega | (simp; done) | (simp; omega))
        have t2_2_0 := keep_cell (b := w1.heap.size) (o := 0) (v := .int .i64 (day)) hb (by first | omega | (simp; done) | (simp; omega)) (by first | assumption | exact cell_alloc_l _ (by assumption) | exact cell_alloc_l _ (cell_alloc_l _ (by assumption)) | (simp [go_sem]; done) | (simp [go_sem, *]; done))
        have t2_l3 := keep_lt (b := w1.heap.size + 1) hb (by first | omega | (simp; done) | (simp; omega))
        have t2_3_0 := keep_cell (b := w1.heap.size + 1) (o := 0) (v := .bool b) hb (by first | omega | (simp; done) | (simp; omega)) (by first | assumption | exact cell_alloc_l _ (by assumption) | exact cell_alloc_l _ (cell_alloc_l _ (by assumption)) | (simp [go_sem]; done) | (simp [go_sem, *]; done))
        have t2_3_1 := keep_cell (b := w1.heap.size + 1) (o := 1) (v := .int .i64 h) hb (by first | omega | (simp; done) | (simp; omega)) (by first | assumption | exact cell_alloc_l _ (by assumption) | exact cell_alloc_l _ (cell_alloc_l _ (by assumption)) | (simp [go_sem]; done) | (simp [go_sem, *]; done))
        have t2_3_2 := keep_cell (b := w1.heap.size + 1) (o := 2) (v := .int .i64 p) hb (by first | omega | (simp; done) | (simp; omega)) (by first | assumption | exact cell_alloc_l _ (by assumption) | exact cell_alloc_l _ (cell_alloc_l _ (by assumption)) | (simp [go_sem]; done) | (simp [go_sem, *]; done))
        clear t1_0_0 t1_0_1 t1_0_2 t1_0_3 t1_l0 t1_1_0 t1_1_1 t1_1_2 t1_l1
        clear hb
        clear t2_2_0 t2_l2 t2_3_0 t2_3_1 t2_3_2 t2_l3
        rw [HRB.out]
        go_wp2_with fail
        go_ret
        exact ⟨rfl, by have hb' := HB2.out; have hb'' := hb'.size; go_grown⟩

end Go.Proofs.YtomlfliebolkmaaDoor
