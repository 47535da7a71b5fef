/-
  HoursLines: the first walks. No condition beyond what each states.
-/
import Derived.Test.YtomlfliebolkmaaDoorKd
import Derived.Test.YtomlfliebolkmaaDoorKe
set_option linter.unusedVariables false
set_option linter.unusedSimpArgs false
namespace Go.Proofs.YtomlfliebolkmaaDoor
open Go Go.Proofs Go.RowKit Pl

theorem prod_le {X Z x1 y1 x3 y3 : Int} (h1 : X * y1 = 12 * x1) (h3 : Z * y3 = 12 * x3) (hXZ : Z ≤ X) (p1 : 1 ≤ y1) (p3 : 1 ≤ y3) : x3 * y1 ≤ x1 * y3 := by
  have a : X * y1 * y3 = 12 * (x1 * y3) := by rw [h1, Int.mul_assoc]
  have b : Z * y3 * y1 = 12 * (x3 * y1) := by rw [h3, Int.mul_assoc]
  have c : Z * (y1 * y3) ≤ X * (y1 * y3) := Int.mul_le_mul_of_nonneg_right hXZ (Int.mul_nonneg (by omega) (by omega))
  rw [Int.mul_assoc] at a b
  rw [Int.mul_comm y3 y1] at b
  omega
theorem prod_bd {x y : Int} (h0 : 0 ≤ x) (h1 : x ≤ 1400) (k0 : 1 ≤ y) (k1 : y ≤ 12) : 0 ≤ x * y ∧ x * y ≤ 16800 := by
  refine ⟨Int.mul_nonneg h0 (by omega), ?_⟩
  have a := Int.mul_le_mul_of_nonneg_left k1 h0
  omega
theorem tmod_L {day L : Int} (h : 0 ≤ day) : day.tmod L = day % L := Int.tmod_eq_emod_of_nonneg h

set_option maxRecDepth 100000 in
set_option maxHeartbeats 20000000 in
theorem Lines_no {L : Int} {n1 n2 n3 c1 c2 c3 : Nat} {a1 a2 a3 : Option Addr} {D R S : List Int} (day : Int) (w : World) (hD : LstO w a1 n1 D) (hR : LstO w a2 n2 R) (hS : LstO w a3 n3 S) (hr : rightB L n1 n2 n3 D R S [day] true = false) :
   Calls Tryd.prog 6 #[.agg #[.int .i64 L, .slice a1 n1 c1, .slice a2 n2 c2, .slice a3 n3 c3], .int .i64 day] w fun e w' => e = .returned (.bool true) ∧ Below w.heap.size w w' := by
  have HD := Lib.hid hD; have HR := Lib.hid hR; have HS := Lib.hid hS
  have HRB := Lib.hid hr; clear hr hD hR hS
  go_enter Tryd.func6, Tryd.ntmps6
  go_wp2_with fail
  refine (sane_any _).mono ?_
  rintro e w1 ⟨rfl, hb⟩
  have HB1 := Lib.hid (bjoin (w := w) (by have hb' := (Below.refl w.heap.size w); have hb'' := hb'.size; (repeat refine below_drewN ?_ _); go_grown) hb)
  have t1_l0 := keep_lt (b := w.heap.size) hb (by first | omega | (simp; done) | (simp; omega))
  have t1_0_0 := keep_cell (b := w.heap.size) (o := 0) (v := .int .i64 L) hb (by first | omega | (simp; done) | (simp; omega)) (by first | (with_reducible assumption) | (with_reducible exact cell_alloc_l _ (by assumption)) | (with_reducible exact cell_alloc_l _ (cell_alloc_l _ (by assumption))) | (simp [go_sem]; done) | assumption | exact cell_alloc_l _ (by assumption) | exact cell_alloc_l _ (cell_alloc_l _ (by assumption)) | (simp [go_sem, *]; done))
  have t1_0_1 := keep_cell (b := w.heap.size) (o := 1) (v := .slice a1 n1 c1) hb (by first | omega | (simp; done) | (simp; omega)) (by first | (with_reducible assumption) | (with_reducible exact cell_alloc_l _ (by assumption)) | (with_reducible exact cell_alloc_l _ (cell_alloc_l _ (by assumption))) | (simp [go_sem]; done) | assumption | exact cell_alloc_l _ (by assumption) | exact cell_alloc_l _ (cell_alloc_l _ (by assumption)) | (simp [go_sem, *]; done))
  have t1_0_2 := keep_cell (b := w.heap.size) (o := 2) (v := .slice a2 n2 c2) hb (by first | omega | (simp; done) | (simp; omega)) (by first | (with_reducible assumption) | (with_reducible exact cell_alloc_l _ (by assumption)) | (with_reducible exact cell_alloc_l _ (cell_alloc_l _ (by assumption))) | (simp [go_sem]; done) | assumption | exact cell_alloc_l _ (by assumption) | exact cell_alloc_l _ (cell_alloc_l _ (by assumption)) | (simp [go_sem, *]; done))
  have t1_0_3 := keep_cell (b := w.heap.size) (o := 3) (v := .slice a3 n3 c3) hb (by first | omega | (simp; done) | (simp; omega)) (by first | (with_reducible assumption) | (with_reducible exact cell_alloc_l _ (by assumption)) | (with_reducible exact cell_alloc_l _ (cell_alloc_l _ (by assumption))) | (simp [go_sem]; done) | assumption | exact cell_alloc_l _ (by assumption) | exact cell_alloc_l _ (cell_alloc_l _ (by assumption)) | (simp [go_sem, *]; done))
  clear hb
  go_wp2_with fail
  refine (right0_any (days := [day]) _ (HD.out.to (by have hb' := HB1.out; have hb'' := hb'.size; (repeat refine below_drewN ?_ _); go_grown)) (HR.out.to (by have hb' := HB1.out; have hb'' := hb'.size; (repeat refine below_drewN ?_ _); go_grown)) (HS.out.to (by have hb' := HB1.out; have hb'' := hb'.size; (repeat refine below_drewN ?_ _); go_grown)) (lst1 (b := w1.heap.size) (by simp [go_sem]) (by first | (simp; done) | (simp; omega))) (by omega)).mono ?_
  rintro e w2 ⟨rfl, hb⟩
  have HB2 := Lib.hid (bjoin (w := w) (by have hb' := HB1.out; have hb'' := hb'.size; (repeat refine below_drewN ?_ _); go_grown) hb)
  have t2_l0 := keep_lt (b := w.heap.size) hb (by first | omega | (simp; done) | (simp; omega))
  have t2_0_0 := keep_cell (b := w.heap.size) (o := 0) (v := .int .i64 L) hb (by first | omega | (simp; done) | (simp; omega)) (by first | (with_reducible assumption) | (with_reducible exact cell_alloc_l _ (by assumption)) | (with_reducible exact cell_alloc_l _ (cell_alloc_l _ (by assumption))) | (simp [go_sem]; done) | assumption | exact cell_alloc_l _ (by assumption) | exact cell_alloc_l _ (cell_alloc_l _ (by assumption)) | (simp [go_sem, *]; done))
  have t2_0_1 := keep_cell (b := w.heap.size) (o := 1) (v := .slice a1 n1 c1) hb (by first | omega | (simp; done) | (simp; omega)) (by first | (with_reducible assumption) | (with_reducible exact cell_alloc_l _ (by assumption)) | (with_reducible exact cell_alloc_l _ (cell_alloc_l _ (by assumption))) | (simp [go_sem]; done) | assumption | exact cell_alloc_l _ (by assumption) | exact cell_alloc_l _ (cell_alloc_l _ (by assumption)) | (simp [go_sem, *]; done))
  have t2_0_2 := keep_cell (b := w.heap.size) (o := 2) (v := .slice a2 n2 c2) hb (by first | omega | (simp; done) | (simp; omega)) (by first | (with_reducible assumption) | (with_reducible exact cell_alloc_l _ (by assumption)) | (with_reducible exact cell_alloc_l _ (cell_alloc_l _ (by assumption))) | (simp [go_sem]; done) | assumption | exact cell_alloc_l _ (by assumption) | exact cell_alloc_l _ (cell_alloc_l _ (by assumption)) | (simp [go_sem, *]; done))
  have t2_0_3 := keep_cell (b := w.heap.size) (o := 3) (v := .slice a3 n3 c3) hb (by first | omega | (simp; done) | (simp; omega)) (by first | (with_reducible assumption) | (with_reducible exact cell_alloc_l _ (by assumption)) | (with_reducible exact cell_alloc_l _ (cell_alloc_l _ (by assumption))) | (simp [go_sem]; done) | assumption | exact cell_alloc_l _ (by assumption) | exact cell_alloc_l _ (cell_alloc_l _ (by assumption)) | (simp [go_sem, *]; done))
  have t2_l1 := keep_lt (b := w1.heap.size) hb (by first | omega | (simp; done) | (simp; omega))
  have t2_1_0 := keep_cell (b := w1.heap.size) (o := 0) (v := .int .i64 (day)) hb (by first | omega | (simp; done) | (simp; omega)) (by first | (with_reducible assumption) | (with_reducible exact cell_alloc_l _ (by assumption)) | (with_reducible exact cell_alloc_l _ (cell_alloc_l _ (by assumption))) | (simp [go_sem]; done) | assumption | exact cell_alloc_l _ (by assumption) | exact cell_alloc_l _ (cell_alloc_l _ (by assumption)) | (simp [go_sem, *]; done))
  clear t1_0_0 t1_0_1 t1_0_2 t1_0_3 t1_l0
  clear hb
  clear t2_1_0 t2_l1
  rw [HRB.out]
  go_wp2_with fail
  go_ret
  exact ⟨rfl, by have hb' := HB2.out; have hb'' := hb'.size; go_grown⟩

set_option maxRecDepth 100000 in
set_option maxHeartbeats 20000000 in
theorem Lines_miss_end {L : Int} {n b1 o1 c1 b2 o2 c2 b3 o3 c3 : Nat} {D R S : List Int} (day : Int) (w : World) (hs : SeaO w (some ⟨b1, o1, none⟩) n (some ⟨b2, o2, none⟩) n (some ⟨b3, o3, none⟩) n D R S) (hsea : Sea w n b1 o1 b2 o2 b3 o3 D R S) (hok : Ok L D R S) (hn : 1 ≤ n ∧ n ≤ 30)
   (hd : 0 ≤ day ∧ day ≤ 11000) (hr : rightB L n n n D R S [day] true = true) (hm : ¬ day + L ≤ 11000) (hi : ixG D (day % L) n 0 = -1) :
   Calls Tryd.prog 6 #[.agg #[.int .i64 L, .slice (some ⟨b1, o1, none⟩) n c1, .slice (some ⟨b2, o2, none⟩) n c2, .slice (some ⟨b3, o3, none⟩) n c3], .int .i64 day] w fun e w' => e = .returned (.bool true) ∧ Below w.heap.size w w' := by
  have HD := Lib.hid hs.D; have HR := Lib.hid hs.R; have HS := Lib.hid hs.S
  have HRB := Lib.hid hr; clear hr
  have HSEA := Lib.hid hs; have HSE := Lib.hid hsea
  have HO := Lib.hid hok; have HDY := Lib.hid hd; have HN := Lib.hid hn
  have hL1 := hok.L1; have hL2 := hok.L2
  have HT := Lib.hid (tmod_L (L := L) hd.1)
  have eD : D.length = n := hsea.D.len
  have eR : R.length = n := hsea.R.len
  have eS : S.length = n := hsea.S.len
  have m0 := Int.emod_nonneg day (show L ≠ 0 by omega)
  have m1 := Int.emod_lt_of_pos day (show 0 < L by omega)
  have t1 := tab_bd hok hok.nR (lo := mnF R (n - 1)) (hi := mxF R (n - 1)) (fun i hi => ⟨mnF_le R (n - 1) i (by omega), mxF_le R (n - 1) i (by omega)⟩) (day % L) m0 m1
  have t2 := tab_bd hok hok.nS (lo := mnF S (n - 1)) (hi := mxF S (n - 1)) (fun i hi => ⟨mnF_le S (n - 1) i (by omega), mxF_le S (n - 1) i (by omega)⟩) (day % L) m0 m1
  have e1 : tab L D R (day % L) = riseF L D R day := rfl
  have e2 : tab L D S (day % L) = riseF L D S day := rfl
  rw [e1] at t1
  rw [e2] at t2
  have b1' := hok.rise day; have b2' := hok.set day
  have HR1 := Lib.hid (fun W hW => Rise_ok (c1 := c1) (c2 := c2) (c3 := c3) day W (HSEA.out.to hW) HO.out HDY.out)
  have HS1 := Lib.hid (fun W hW => Set_ok (c1 := c1) (c2 := c2) (c3 := c3) day W (HSEA.out.to hW) HO.out HDY.out)
  have HM1 := Lib.hid (fun W (hW : Below w.heap.size w W) => slMin_any (c := c2) W (HSE.out.to hW).R HN.out.1 (by omega))
  have HM2 := Lib.hid (fun W (hW : Below w.heap.size w W) => slMax_any (c := c2) W (HSE.out.to hW).R HN.out.1 (by omega))
  have HM3 := Lib.hid (fun W (hW : Below w.heap.size w W) => slMin_any (c := c3) W (HSE.out.to hW).S HN.out.1 (by omega))
  have HM4 := Lib.hid (fun W (hW : Below w.heap.size w W) => slMax_any (c := c3) W (HSE.out.to hW).S HN.out.1 (by omega))
  have HIX := Lib.hid (fun W (hW : Below w.heap.size w W) => slIndex_any (c := c1) (day % L) W (HSE.out.to hW).D (by omega))
  rw [hi] at HIX
  have HLO := Lib.hid (fun W hW => Longest_ok (c1 := c1) (c2 := c2) (c3 := c3) W (HSEA.out.to hW) HO.out)
  have ta := amax_bd (lightF L D R S) (topF L)
  have tb := amin_bd (lightF L D R S) (topF L)
  have tt : ((topF L : Nat) : Int) = L - 1 := by unfold topF; omega
  have lm : lightF L D R S (day % L) = lightF L D R S day := by
    unfold lightF lastF
    simp only [Bool.false_eq_true, if_false]
    rw [riseF_mod, riseF_mod]
  have ua := amax_le (lightF L D R S) (topF L) (day % L) ⟨m0, by omega⟩
  have ub := amin_le (lightF L D R S) (topF L) (day % L) ⟨m0, by omega⟩
  rw [lm] at ua ub
  rw [tt] at ta tb
  clear lm tt
  generalize amax (lightF L D R S) (topF L) = g at *
  generalize amin (lightF L D R S) (topF L) = q at *
  have HL1 := Lib.hid (fun W hW => Length_ok (c1 := c1) (c2 := c2) (c3 := c3) g false W (HSEA.out.to hW) HO.out (by omega))
  have HL2 := Lib.hid (fun W hW => Length_ok (c1 := c1) (c2 := c2) (c3 := c3) q false W (HSEA.out.to hW) HO.out (by omega))
  have HL3 := Lib.hid (fun W hW => Length_ok (c1 := c1) (c2 := c2) (c3 := c3) day false W (HSEA.out.to hW) HO.out HDY.out)
  unfold lightF at ua ub
  have k1 := hok.last g false; have k2 := hok.last q false; have k3 := hok.last day false
  obtain ⟨a1, a2, a3, a4, a5⟩ := gF_12 (lastF L D R S g false) (by omega)
  obtain ⟨d1, d2, d3, d4, d5⟩ := gF_12 (lastF L D R S q false) (by omega)
  obtain ⟨z1, z2, z3, z4, z5⟩ := gF_12 (lastF L D R S day false) (by omega)
  have P1 := prod_le a5 z5 ua a3 z3
  have P2 := prod_le z5 d5 ub z3 d3
  have B1 := prod_bd a1 a2 z3 z4; have B2 := prod_bd z1 z2 a3 a4
  have B3 := prod_bd d1 d2 z3 z4; have B4 := prod_bd z1 z2 d3 d4
  clear a5 d5 z5 ua ub
  generalize lastF L D R S g false / gF (lastF L D R S g false) 12 = xg at *
  generalize 12 / gF (lastF L D R S g false) 12 = yg at *
  generalize lastF L D R S q false / gF (lastF L D R S q false) 12 = xq at *
  generalize 12 / gF (lastF L D R S q false) 12 = yq at *
  generalize lastF L D R S day false / gF (lastF L D R S day false) 12 = xd at *
  generalize 12 / gF (lastF L D R S day false) 12 = yd at *
  generalize mnF R (n - 1) = lo2 at *
  generalize mxF R (n - 1) = hi2 at *
  generalize mnF S (n - 1) = lo3 at *
  generalize mxF S (n - 1) = hi3 at *
  generalize riseF L D R day = r at *
  generalize riseF L D S day = s at *
  clear e1 e2 hs hsea hok eD eR eS k1 k2 k3
  obtain ⟨n1, n30⟩ := hn
  obtain ⟨d0, d11⟩ := hd
  clear hi
  go_enter Tryd.func6, Tryd.ntmps6
  go_wp2_with fail
  refine (sane_any _).mono ?_
  rintro e w1 ⟨rfl, hb⟩
  have HB1 := Lib.hid (bjoin (w := w) (by have hb' := (Below.refl w.heap.size w); have hb'' := hb'.size; (repeat refine below_drewN ?_ _); go_grown) hb)
  have t1_l0 := keep_lt (b := w.heap.size) hb (by first | omega | (simp; done) | (simp; omega))
  have t1_0_0 := keep_cell (b := w.heap.size) (o := 0) (v := .int .i64 L) hb (by first | omega | (simp; done) | (simp; omega)) (by first | (with_reducible assumption) | (with_reducible exact cell_alloc_l _ (by assumption)) | (with_reducible exact cell_alloc_l _ (cell_alloc_l _ (by assumption))) | (simp [go_sem]; done) | assumption | exact cell_alloc_l _ (by assumption) | exact cell_alloc_l _ (cell_alloc_l _ (by assumption)) | (simp [go_sem, *]; done))
  have t1_0_1 := keep_cell (b := w.heap.size) (o := 1) (v := .slice (some ⟨b1, o1, none⟩) n c1) hb (by first | omega | (simp; done) | (simp; omega)) (by first | (with_reducible assumption) | (with_reducible exact cell_alloc_l _ (by assumption)) | (with_reducible exact cell_alloc_l _ (cell_alloc_l _ (by assumption))) | (simp [go_sem]; done) | assumption | exact cell_alloc_l _ (by assumption) | exact cell_alloc_l _ (cell_alloc_l _ (by assumption)) | (simp [go_sem, *]; done))
  have t1_0_2 := keep_cell (b := w.heap.size) (o := 2) (v := .slice (some ⟨b2, o2, none⟩) n c2) hb (by first | omega | (simp; done) | (simp; omega)) (by first | (with_reducible assumption) | (with_reducible exact cell_alloc_l _ (by assumption)) | (with_reducible exact cell_alloc_l _ (cell_alloc_l _ (by assumption))) | (simp [go_sem]; done) | assumption | exact cell_alloc_l _ (by assumption) | exact cell_alloc_l _ (cell_alloc_l _ (by assumption)) | (simp [go_sem, *]; done))
  have t1_0_3 := keep_cell (b := w.heap.size) (o := 3) (v := .slice (some ⟨b3, o3, none⟩) n c3) hb (by first | omega | (simp; done) | (simp; omega)) (by first | (with_reducible assumption) | (with_reducible exact cell_alloc_l _ (by assumption)) | (with_reducible exact cell_alloc_l _ (cell_alloc_l _ (by assumption))) | (simp [go_sem]; done) | assumption | exact cell_alloc_l _ (by assumption) | exact cell_alloc_l _ (cell_alloc_l _ (by assumption)) | (simp [go_sem, *]; done))
  clear hb
  go_wp2_with fail
  refine (right0_any (days := [day]) _ (HD.out.to (by have hb' := HB1.out; have hb'' := hb'.size; (repeat refine below_drewN ?_ _); go_grown)) (HR.out.to (by have hb' := HB1.out; have hb'' := hb'.size; (repeat refine below_drewN ?_ _); go_grown)) (HS.out.to (by have hb' := HB1.out; have hb'' := hb'.size; (repeat refine below_drewN ?_ _); go_grown)) (lst1 (b := w1.heap.size) (by simp [go_sem]) (by first | (simp; done) | (simp; omega))) (by omega)).mono ?_
  rintro e w2 ⟨rfl, hb⟩
  have HB2 := Lib.hid (bjoin (w := w) (by have hb' := HB1.out; have hb'' := hb'.size; (repeat refine below_drewN ?_ _); go_grown) hb)
  have t2_l0 := keep_lt (b := w.heap.size) hb (by first | omega | (simp; done) | (simp; omega))
  have t2_0_0 := keep_cell (b := w.heap.size) (o := 0) (v := .int .i64 L) hb (by first | omega | (simp; done) | (simp; omega)) (by first | (with_reducible assumption) | (with_reducible exact cell_alloc_l _ (by assumption)) | (with_reducible exact cell_alloc_l _ (cell_alloc_l _ (by assumption))) | (simp [go_sem]; done) | assumption | exact cell_alloc_l _ (by assumption) | exact cell_alloc_l _ (cell_alloc_l _ (by assumption)) | (simp [go_sem, *]; done))
  have t2_0_1 := keep_cell (b := w.heap.size) (o := 1) (v := .slice (some ⟨b1, o1, none⟩) n c1) hb (by first | omega | (simp; done) | (simp; omega)) (by first | (with_reducible assumption) | (with_reducible exact cell_alloc_l _ (by assumption)) | (with_reducible exact cell_alloc_l _ (cell_alloc_l _ (by assumption))) | (simp [go_sem]; done) | assumption | exact cell_alloc_l _ (by assumption) | exact cell_alloc_l _ (cell_alloc_l _ (by assumption)) | (simp [go_sem, *]; done))
  have t2_0_2 := keep_cell (b := w.heap.size) (o := 2) (v := .slice (some ⟨b2, o2, none⟩) n c2) hb (by first | omega | (simp; done) | (simp; omega)) (by first | (with_reducible assumption) | (with_reducible exact cell_alloc_l _ (by assumption)) | (with_reducible exact cell_alloc_l _ (cell_alloc_l _ (by assumption))) | (simp [go_sem]; done) | assumption | exact cell_alloc_l _ (by assumption) | exact cell_alloc_l _ (cell_alloc_l _ (by assumption)) | (simp [go_sem, *]; done))
  have t2_0_3 := keep_cell (b := w.heap.size) (o := 3) (v := .slice (some ⟨b3, o3, none⟩) n c3) hb (by first | omega | (simp; done) | (simp; omega)) (by first | (with_reducible assumption) | (with_reducible exact cell_alloc_l _ (by assumption)) | (with_reducible exact cell_alloc_l _ (cell_alloc_l _ (by assumption))) | (simp [go_sem]; done) | assumption | exact cell_alloc_l _ (by assumption) | exact cell_alloc_l _ (cell_alloc_l _ (by assumption)) | (simp [go_sem, *]; done))
  have t2_l1 := keep_lt (b := w1.heap.size) hb (by first | omega | (simp; done) | (simp; omega))
  have t2_1_0 := keep_cell (b := w1.heap.size) (o := 0) (v := .int .i64 (day)) hb (by first | omega | (simp; done) | (simp; omega)) (by first | (with_reducible assumption) | (with_reducible exact cell_alloc_l _ (by assumption)) | (with_reducible exact cell_alloc_l _ (cell_alloc_l _ (by assumption))) | (simp [go_sem]; done) | assumption | exact cell_alloc_l _ (by assumption) | exact cell_alloc_l _ (cell_alloc_l _ (by assumption)) | (simp [go_sem, *]; done))
  clear t1_0_0 t1_0_1 t1_0_2 t1_0_3 t1_l0
  clear hb
  clear t2_1_0 t2_l1
  rw [HRB.out]
  go_wp2_with fail
  refine (HR1.out _ (by have hb' := HB2.out; have hb'' := hb'.size; (repeat refine below_drewN ?_ _); go_grown)).mono ?_
  rintro e w3 ⟨rfl, hb⟩
  have HB3 := Lib.hid (bjoin (w := w) (by have hb' := HB2.out; have hb'' := hb'.size; (repeat refine below_drewN ?_ _); go_grown) hb)
  have t3_l0 := keep_lt (b := w.heap.size) hb (by first | omega | (simp; done) | (simp; omega))
  have t3_0_0 := keep_cell (b := w.heap.size) (o := 0) (v := .int .i64 L) hb (by first | omega | (simp; done) | (simp; omega)) (by first | (with_reducible assumption) | (with_reducible exact cell_alloc_l _ (by assumption)) | (with_reducible exact cell_alloc_l _ (cell_alloc_l _ (by assumption))) | (simp [go_sem]; done) | assumption | exact cell_alloc_l _ (by assumption) | exact cell_alloc_l _ (cell_alloc_l _ (by assumption)) | (simp [go_sem, *]; done))
  have t3_0_1 := keep_cell (b := w.heap.size) (o := 1) (v := .slice (some ⟨b1, o1, none⟩) n c1) hb (by first | omega | (simp; done) | (simp; omega)) (by first | (with_reducible assumption) | (with_reducible exact cell_alloc_l _ (by assumption)) | (with_reducible exact cell_alloc_l _ (cell_alloc_l _ (by assumption))) | (simp [go_sem]; done) | assumption | exact cell_alloc_l _ (by assumption) | exact cell_alloc_l _ (cell_alloc_l _ (by assumption)) | (simp [go_sem, *]; done))
  have t3_0_2 := keep_cell (b := w.heap.size) (o := 2) (v := .slice (some ⟨b2, o2, none⟩) n c2) hb (by first | omega | (simp; done) | (simp; omega)) (by first | (with_reducible assumption) | (with_reducible exact cell_alloc_l _ (by assumption)) | (with_reducible exact cell_alloc_l _ (cell_alloc_l _ (by assumption))) | (simp [go_sem]; done) | assumption | exact cell_alloc_l _ (by assumption) | exact cell_alloc_l _ (cell_alloc_l _ (by assumption)) | (simp [go_sem, *]; done))
  have t3_0_3 := keep_cell (b := w.heap.size) (o := 3) (v := .slice (some ⟨b3, o3, none⟩) n c3) hb (by first | omega | (simp; done) | (simp; omega)) (by first | (with_reducible assumption) | (with_reducible exact cell_alloc_l _ (by assumption)) | (with_reducible exact cell_alloc_l _ (cell_alloc_l _ (by assumption))) | (simp [go_sem]; done) | assumption | exact cell_alloc_l _ (by assumption) | exact cell_alloc_l _ (cell_alloc_l _ (by assumption)) | (simp [go_sem, *]; done))
  clear t2_0_0 t2_0_1 t2_0_2 t2_0_3 t2_l0
  clear hb
  go_wp2_with fail
  refine (HS1.out _ (by have hb' := HB3.out; have hb'' := hb'.size; (repeat refine below_drewN ?_ _); go_grown)).mono ?_
  rintro e w4 ⟨rfl, hb⟩
  have HB4 := Lib.hid (bjoin (w := w) (by have hb' := HB3.out; have hb'' := hb'.size; (repeat refine below_drewN ?_ _); go_grown) hb)
  have t4_l0 := keep_lt (b := w.heap.size) hb (by first | omega | (simp; done) | (simp; omega))
  have t4_0_0 := keep_cell (b := w.heap.size) (o := 0) (v := .int .i64 L) hb (by first | omega | (simp; done) | (simp; omega)) (by first | (with_reducible assumption) | (with_reducible exact cell_alloc_l _ (by assumption)) | (with_reducible exact cell_alloc_l _ (cell_alloc_l _ (by assumption))) | (simp [go_sem]; done) | assumption | exact cell_alloc_l _ (by assumption) | exact cell_alloc_l _ (cell_alloc_l _ (by assumption)) | (simp [go_sem, *]; done))
  have t4_0_1 := keep_cell (b := w.heap.size) (o := 1) (v := .slice (some ⟨b1, o1, none⟩) n c1) hb (by first | omega | (simp; done) | (simp; omega)) (by first | (with_reducible assumption) | (with_reducible exact cell_alloc_l _ (by assumption)) | (with_reducible exact cell_alloc_l _ (cell_alloc_l _ (by assumption))) | (simp [go_sem]; done) | assumption | exact cell_alloc_l _ (by assumption) | exact cell_alloc_l _ (cell_alloc_l _ (by assumption)) | (simp [go_sem, *]; done))
  have t4_0_2 := keep_cell (b := w.heap.size) (o := 2) (v := .slice (some ⟨b2, o2, none⟩) n c2) hb (by first | omega | (simp; done) | (simp; omega)) (by first | (with_reducible assumption) | (with_reducible exact cell_alloc_l _ (by assumption)) | (with_reducible exact cell_alloc_l _ (cell_alloc_l _ (by assumption))) | (simp [go_sem]; done) | assumption | exact cell_alloc_l _ (by assumption) | exact cell_alloc_l _ (cell_alloc_l _ (by assumption)) | (simp [go_sem, *]; done))
  have t4_0_3 := keep_cell (b := w.heap.size) (o := 3) (v := .slice (some ⟨b3, o3, none⟩) n c3) hb (by first | omega | (simp; done) | (simp; omega)) (by first | (with_reducible assumption) | (with_reducible exact cell_alloc_l _ (by assumption)) | (with_reducible exact cell_alloc_l _ (cell_alloc_l _ (by assumption))) | (simp [go_sem]; done) | assumption | exact cell_alloc_l _ (by assumption) | exact cell_alloc_l _ (cell_alloc_l _ (by assumption)) | (simp [go_sem, *]; done))
  clear t3_0_0 t3_0_1 t3_0_2 t3_0_3 t3_l0
  clear hb
  go_wp2_with (first | (go_at_call 37; first | ((with_reducible refine (HM1.out _ HB4.out).mono ?_); rintro e wz ⟨rfl, rfl⟩) | ((with_reducible refine (HM3.out _ HB4.out).mono ?_); rintro e wz ⟨rfl, rfl⟩)) | (go_at_call 38; first | ((with_reducible refine (HM2.out _ HB4.out).mono ?_); rintro e wz ⟨rfl, rfl⟩) | ((with_reducible refine (HM4.out _ HB4.out).mono ?_); rintro e wz ⟨rfl, rfl⟩)))
  have ht := HT.out
  go_quiet ((go_at_call 39; first | exact quiet_one (HIX.out _ (by (repeat refine below_drewN ?_ _); exact HB4.out)) | exact quiet_add (HIX.out _ (by (repeat refine below_drewN ?_ _); exact HB4.out))))
  clear ht
  go_wp2_with fail
  refine (HLO.out _ (by have hb' := HB4.out; have hb'' := hb'.size; (repeat refine below_drewN ?_ _); go_grown)).mono ?_
  rintro e w5 ⟨rfl, hb⟩
  have HB5 := Lib.hid (bjoin (w := w) (by have hb' := HB4.out; have hb'' := hb'.size; (repeat refine below_drewN ?_ _); go_grown) hb)
  have t5_l0 := keep_lt (b := w.heap.size) hb (by first | omega | (simp; done) | (simp; omega))
  have t5_0_0 := keep_cell (b := w.heap.size) (o := 0) (v := .int .i64 L) hb (by first | omega | (simp; done) | (simp; omega)) (by first | (with_reducible assumption) | (with_reducible exact cell_alloc_l _ (by assumption)) | (with_reducible exact cell_alloc_l _ (cell_alloc_l _ (by assumption))) | (simp [go_sem]; done) | assumption | exact cell_alloc_l _ (by assumption) | exact cell_alloc_l _ (cell_alloc_l _ (by assumption)) | (simp [go_sem, *]; done))
  have t5_0_1 := keep_cell (b := w.heap.size) (o := 1) (v := .slice (some ⟨b1, o1, none⟩) n c1) hb (by first | omega | (simp; done) | (simp; omega)) (by first | (with_reducible assumption) | (with_reducible exact cell_alloc_l _ (by assumption)) | (with_reducible exact cell_alloc_l _ (cell_alloc_l _ (by assumption))) | (simp [go_sem]; done) | assumption | exact cell_alloc_l _ (by assumption) | exact cell_alloc_l _ (cell_alloc_l _ (by assumption)) | (simp [go_sem, *]; done))
  have t5_0_2 := keep_cell (b := w.heap.size) (o := 2) (v := .slice (some ⟨b2, o2, none⟩) n c2) hb (by first | omega | (simp; done) | (simp; omega)) (by first | (with_reducible assumption) | (with_reducible exact cell_alloc_l _ (by assumption)) | (with_reducible exact cell_alloc_l _ (cell_alloc_l _ (by assumption))) | (simp [go_sem]; done) | assumption | exact cell_alloc_l _ (by assumption) | exact cell_alloc_l _ (cell_alloc_l _ (by assumption)) | (simp [go_sem, *]; done))
  have t5_0_3 := keep_cell (b := w.heap.size) (o := 3) (v := .slice (some ⟨b3, o3, none⟩) n c3) hb (by first | omega | (simp; done) | (simp; omega)) (by first | (with_reducible assumption) | (with_reducible exact cell_alloc_l _ (by assumption)) | (with_reducible exact cell_alloc_l _ (cell_alloc_l _ (by assumption))) | (simp [go_sem]; done) | assumption | exact cell_alloc_l _ (by assumption) | exact cell_alloc_l _ (cell_alloc_l _ (by assumption)) | (simp [go_sem, *]; done))
  clear t4_0_0 t4_0_1 t4_0_2 t4_0_3 t4_l0
  clear hb
  go_wp2_with fail
  refine (HL1.out _ (by have hb' := HB5.out; have hb'' := hb'.size; (repeat refine below_drewN ?_ _); go_grown)).mono ?_
  rintro e w6 ⟨rfl, hb⟩
  have HB6 := Lib.hid (bjoin (w := w) (by have hb' := HB5.out; have hb'' := hb'.size; (repeat refine below_drewN ?_ _); go_grown) hb)
  have t6_l0 := keep_lt (b := w.heap.size) hb (by first | omega | (simp; done) | (simp; omega))
  have t6_0_0 := keep_cell (b := w.heap.size) (o := 0) (v := .int .i64 L) hb (by first | omega | (simp; done) | (simp; omega)) (by first | (with_reducible assumption) | (with_reducible exact cell_alloc_l _ (by assumption)) | (with_reducible exact cell_alloc_l _ (cell_alloc_l _ (by assumption))) | (simp [go_sem]; done) | assumption | exact cell_alloc_l _ (by assumption) | exact cell_alloc_l _ (cell_alloc_l _ (by assumption)) | (simp [go_sem, *]; done))
  have t6_0_1 := keep_cell (b := w.heap.size) (o := 1) (v := .slice (some ⟨b1, o1, none⟩) n c1) hb (by first | omega | (simp; done) | (simp; omega)) (by first | (with_reducible assumption) | (with_reducible exact cell_alloc_l _ (by assumption)) | (with_reducible exact cell_alloc_l _ (cell_alloc_l _ (by assumption))) | (simp [go_sem]; done) | assumption | exact cell_alloc_l _ (by assumption) | exact cell_alloc_l _ (cell_alloc_l _ (by assumption)) | (simp [go_sem, *]; done))
  have t6_0_2 := keep_cell (b := w.heap.size) (o := 2) (v := .slice (some ⟨b2, o2, none⟩) n c2) hb (by first | omega | (simp; done) | (simp; omega)) (by first | (with_reducible assumption) | (with_reducible exact cell_alloc_l _ (by assumption)) | (with_reducible exact cell_alloc_l _ (cell_alloc_l _ (by assumption))) | (simp [go_sem]; done) | assumption | exact cell_alloc_l _ (by assumption) | exact cell_alloc_l _ (cell_alloc_l _ (by assumption)) | (simp [go_sem, *]; done))
  have t6_0_3 := keep_cell (b := w.heap.size) (o := 3) (v := .slice (some ⟨b3, o3, none⟩) n c3) hb (by first | omega | (simp; done) | (simp; omega)) (by first | (with_reducible assumption) | (with_reducible exact cell_alloc_l _ (by assumption)) | (with_reducible exact cell_alloc_l _ (cell_alloc_l _ (by assumption))) | (simp [go_sem]; done) | assumption | exact cell_alloc_l _ (by assumption) | exact cell_alloc_l _ (cell_alloc_l _ (by assumption)) | (simp [go_sem, *]; done))
  clear t5_0_0 t5_0_1 t5_0_2 t5_0_3 t5_l0
  clear hb
  go_wp2_with fail
  refine (HL2.out _ (by have hb' := HB6.out; have hb'' := hb'.size; (repeat refine below_drewN ?_ _); go_grown)).mono ?_
  rintro e w7 ⟨rfl, hb⟩
  have HB7 := Lib.hid (bjoin (w := w) (by have hb' := HB6.out; have hb'' := hb'.size; (repeat refine below_drewN ?_ _); go_grown) hb)
  have t7_l0 := keep_lt (b := w.heap.size) hb (by first | omega | (simp; done) | (simp; omega))
  have t7_0_0 := keep_cell (b := w.heap.size) (o := 0) (v := .int .i64 L) hb (by first | omega | (simp; done) | (simp; omega)) (by first | (with_reducible assumption) | (with_reducible exact cell_alloc_l _ (by assumption)) | (with_reducible exact cell_alloc_l _ (cell_alloc_l _ (by assumption))) | (simp [go_sem]; done) | assumption | exact cell_alloc_l _ (by assumption) | exact cell_alloc_l _ (cell_alloc_l _ (by assumption)) | (simp [go_sem, *]; done))
  have t7_0_1 := keep_cell (b := w.heap.size) (o := 1) (v := .slice (some ⟨b1, o1, none⟩) n c1) hb (by first | omega | (simp; done) | (simp; omega)) (by first | (with_reducible assumption) | (with_reducible exact cell_alloc_l _ (by assumption)) | (with_reducible exact cell_alloc_l _ (cell_alloc_l _ (by assumption))) | (simp [go_sem]; done) | assumption | exact cell_alloc_l _ (by assumption) | exact cell_alloc_l _ (cell_alloc_l _ (by assumption)) | (simp [go_sem, *]; done))
  have t7_0_2 := keep_cell (b := w.heap.size) (o := 2) (v := .slice (some ⟨b2, o2, none⟩) n c2) hb (by first | omega | (simp; done) | (simp; omega)) (by first | (with_reducible assumption) | (with_reducible exact cell_alloc_l _ (by assumption)) | (with_reducible exact cell_alloc_l _ (cell_alloc_l _ (by assumption))) | (simp [go_sem]; done) | assumption | exact cell_alloc_l _ (by assumption) | exact cell_alloc_l _ (cell_alloc_l _ (by assumption)) | (simp [go_sem, *]; done))
  have t7_0_3 := keep_cell (b := w.heap.size) (o := 3) (v := .slice (some ⟨b3, o3, none⟩) n c3) hb (by first | omega | (simp; done) | (simp; omega)) (by first | (with_reducible assumption) | (with_reducible exact cell_alloc_l _ (by assumption)) | (with_reducible exact cell_alloc_l _ (cell_alloc_l _ (by assumption))) | (simp [go_sem]; done) | assumption | exact cell_alloc_l _ (by assumption) | exact cell_alloc_l _ (cell_alloc_l _ (by assumption)) | (simp [go_sem, *]; done))
  have t7_l1 := keep_lt (b := w6.heap.size) hb (by first | omega | (simp; done) | (simp; omega))
  have t7_1_0 := keep_cell (b := w6.heap.size) (o := 0) (v := .int .i64 xg) hb (by first | omega | (simp; done) | (simp; omega)) (by first | (with_reducible assumption) | (with_reducible exact cell_alloc_l _ (by assumption)) | (with_reducible exact cell_alloc_l _ (cell_alloc_l _ (by assumption))) | (simp [go_sem]; done) | assumption | exact cell_alloc_l _ (by assumption) | exact cell_alloc_l _ (cell_alloc_l _ (by assumption)) | (simp [go_sem, *]; done))
  have t7_1_1 := keep_cell (b := w6.heap.size) (o := 1) (v := .int .i64 yg) hb (by first | omega | (simp; done) | (simp; omega)) (by first | (with_reducible assumption) | (with_reducible exact cell_alloc_l _ (by assumption)) | (with_reducible exact cell_alloc_l _ (cell_alloc_l _ (by assumption))) | (simp [go_sem]; done) | assumption | exact cell_alloc_l _ (by assumption) | exact cell_alloc_l _ (cell_alloc_l _ (by assumption)) | (simp [go_sem, *]; done))
  clear t6_0_0 t6_0_1 t6_0_2 t6_0_3 t6_l0
  clear hb
  go_wp2_with fail
  refine (HL3.out _ (by have hb' := HB7.out; have hb'' := hb'.size; (repeat refine below_drewN ?_ _); go_grown)).mono ?_
  rintro e w8 ⟨rfl, hb⟩
  have HB8 := Lib.hid (bjoin (w := w) (by have hb' := HB7.out; have hb'' := hb'.size; (repeat refine below_drewN ?_ _); go_grown) hb)
  have t8_l0 := keep_lt (b := w.heap.size) hb (by first | omega | (simp; done) | (simp; omega))
  have t8_0_0 := keep_cell (b := w.heap.size) (o := 0) (v := .int .i64 L) hb (by first | omega | (simp; done) | (simp; omega)) (by first | (with_reducible assumption) | (with_reducible exact cell_alloc_l _ (by assumption)) | (with_reducible exact cell_alloc_l _ (cell_alloc_l _ (by assumption))) | (simp [go_sem]; done) | assumption | exact cell_alloc_l _ (by assumption) | exact cell_alloc_l _ (cell_alloc_l _ (by assumption)) | (simp [go_sem, *]; done))
  have t8_0_1 := keep_cell (b := w.heap.size) (o := 1) (v := .slice (some ⟨b1, o1, none⟩) n c1) hb (by first | omega | (simp; done) | (simp; omega)) (by first | (with_reducible assumption) | (with_reducible exact cell_alloc_l _ (by assumption)) | (with_reducible exact cell_alloc_l _ (cell_alloc_l _ (by assumption))) | (simp [go_sem]; done) | assumption | exact cell_alloc_l _ (by assumption) | exact cell_alloc_l _ (cell_alloc_l _ (by assumption)) | (simp [go_sem, *]; done))
  have t8_0_2 := keep_cell (b := w.heap.size) (o := 2) (v := .slice (some ⟨b2, o2, none⟩) n c2) hb (by first | omega | (simp; done) | (simp; omega)) (by first | (with_reducible assumption) | (with_reducible exact cell_alloc_l _ (by assumption)) | (with_reducible exact cell_alloc_l _ (cell_alloc_l _ (by assumption))) | (simp [go_sem]; done) | assumption | exact cell_alloc_l _ (by assumption) | exact cell_alloc_l _ (cell_alloc_l _ (by assumption)) | (simp [go_sem, *]; done))
  have t8_0_3 := keep_cell (b := w.heap.size) (o := 3) (v := .slice (some ⟨b3, o3, none⟩) n c3) hb (by first | omega | (simp; done) | (simp; omega)) (by first | (with_reducible assumption) | (with_reducible exact cell_alloc_l _ (by assumption)) | (with_reducible exact cell_alloc_l _ (cell_alloc_l _ (by assumption))) | (simp [go_sem]; done) | assumption | exact cell_alloc_l _ (by assumption) | exact cell_alloc_l _ (cell_alloc_l _ (by assumption)) | (simp [go_sem, *]; done))
  have t8_l1 := keep_lt (b := w6.heap.size) hb (by first | omega | (simp; done) | (simp; omega))
  have t8_1_0 := keep_cell (b := w6.heap.size) (o := 0) (v := .int .i64 xg) hb (by first | omega | (simp; done) | (simp; omega)) (by first | (with_reducible assumption) | (with_reducible exact cell_alloc_l _ (by assumption)) | (with_reducible exact cell_alloc_l _ (cell_alloc_l _ (by assumption))) | (simp [go_sem]; done) | assumption | exact cell_alloc_l _ (by assumption) | exact cell_alloc_l _ (cell_alloc_l _ (by assumption)) | (simp [go_sem, *]; done))
  have t8_1_1 := keep_cell (b := w6.heap.size) (o := 1) (v := .int .i64 yg) hb (by first | omega | (simp; done) | (simp; omega)) (by first | (with_reducible assumption) | (with_reducible exact cell_alloc_l _ (by assumption)) | (with_reducible exact cell_alloc_l _ (cell_alloc_l _ (by assumption))) | (simp [go_sem]; done) | assumption | exact cell_alloc_l _ (by assumption) | exact cell_alloc_l _ (cell_alloc_l _ (by assumption)) | (simp [go_sem, *]; done))
  have t8_l2 := keep_lt (b := w7.heap.size) hb (by first | omega | (simp; done) | (simp; omega))
  have t8_2_0 := keep_cell (b := w7.heap.size) (o := 0) (v := .int .i64 xq) hb (by first | omega | (simp; done) | (simp; omega)) (by first | (with_reducible assumption) | (with_reducible exact cell_alloc_l _ (by assumption)) | (with_reducible exact cell_alloc_l _ (cell_alloc_l _ (by assumption))) | (simp [go_sem]; done) | assumption | exact cell_alloc_l _ (by assumption) | exact cell_alloc_l _ (cell_alloc_l _ (by assumption)) | (simp [go_sem, *]; done))
  have t8_2_1 := keep_cell (b := w7.heap.size) (o := 1) (v := .int .i64 yq) hb (by first | omega | (simp; done) | (simp; omega)) (by first | (with_reducible assumption) | (with_reducible exact cell_alloc_l _ (by assumption)) | (with_reducible exact cell_alloc_l _ (cell_alloc_l _ (by assumption))) | (simp [go_sem]; done) | assumption | exact cell_alloc_l _ (by assumption) | exact cell_alloc_l _ (cell_alloc_l _ (by assumption)) | (simp [go_sem, *]; done))
  clear t7_0_0 t7_0_1 t7_0_2 t7_0_3 t7_l0 t7_1_0 t7_1_1 t7_l1
  clear hb
  go_wp2_with fail
  go_ret
  exact ⟨by first | rfl | (simp; done) | (simp; omega), by have hb' := HB8.out; have hb'' := hb'.size; go_grown⟩

set_option maxRecDepth 100000 in
set_option maxHeartbeats 20000000 in
theorem Lines_miss_more {L : Int} {n b1 o1 c1 b2 o2 c2 b3 o3 c3 : Nat} {D R S : List Int} (day : Int) (w : World) (hs : SeaO w (some ⟨b1, o1, none⟩) n (some ⟨b2, o2, none⟩) n (some ⟨b3, o3, none⟩) n D R S) (hsea : Sea w n b1 o1 b2 o2 b3 o3 D R S) (hok : Ok L D R S) (hn : 1 ≤ n ∧ n ≤ 30)
   (hd : 0 ≤ day ∧ day ≤ 11000) (hr : rightB L n n n D R S [day] true = true) (hm : day + L ≤ 11000) (hi : ixG D (day % L) n 0 = -1) :
   Calls Tryd.prog 6 #[.agg #[.int .i64 L, .slice (some ⟨b1, o1, none⟩) n c1, .slice (some ⟨b2, o2, none⟩) n c2, .slice (some ⟨b3, o3, none⟩) n c3], .int .i64 day] w fun e w' => e = .returned (.bool true) ∧ Below w.heap.size w w' := by
  have HD := Lib.hid hs.D; have HR := Lib.hid hs.R; have HS := Lib.hid hs.S
  have HRB := Lib.hid hr; clear hr
  have HSEA := Lib.hid hs; have HSE := Lib.hid hsea
  have HO := Lib.hid hok; have HDY := Lib.hid hd; have HN := Lib.hid hn
  have hL1 := hok.L1; have hL2 := hok.L2
  have HT := Lib.hid (tmod_L (L := L) hd.1)
  have eD : D.length = n := hsea.D.len
  have eR : R.length = n := hsea.R.len
  have eS : S.length = n := hsea.S.len
  have m0 := Int.emod_nonneg day (show L ≠ 0 by omega)
  have m1 := Int.emod_lt_of_pos day (show 0 < L by omega)
  have t1 := tab_bd hok hok.nR (lo := mnF R (n - 1)) (hi := mxF R (n - 1)) (fun i hi => ⟨mnF_le R (n - 1) i (by omega), mxF_le R (n - 1) i (by omega)⟩) (day % L) m0 m1
  have t2 := tab_bd hok hok.nS (lo := mnF S (n - 1)) (hi := mxF S (n - 1)) (fun i hi => ⟨mnF_le S (n - 1) i (by omega), mxF_le S (n - 1) i (by omega)⟩) (day % L) m0 m1
  have e1 : tab L D R (day % L) = riseF L D R day := rfl
  have e2 : tab L D S (day % L) = riseF L D S day := rfl
  rw [e1] at t1
  rw [e2] at t2
  have b1' := hok.rise day; have b2' := hok.set day
  have HR1 := Lib.hid (fun W hW => Rise_ok (c1 := c1) (c2 := c2) (c3 := c3) day W (HSEA.out.to hW) HO.out HDY.out)
  have HS1 := Lib.hid (fun W hW => Set_ok (c1 := c1) (c2 := c2) (c3 := c3) day W (HSEA.out.to hW) HO.out HDY.out)
  have HR2 := Lib.hid (fun W hW => Rise_ok (c1 := c1) (c2 := c2) (c3 := c3) (day + L) W (HSEA.out.to hW) HO.out ⟨by have := HDY.out; omega, hm⟩)
  have HS2 := Lib.hid (fun W hW => Set_ok (c1 := c1) (c2 := c2) (c3 := c3) (day + L) W (HSEA.out.to hW) HO.out ⟨by have := HDY.out; omega, hm⟩)
  rw [riseF_per] at HR2 HS2
  have HM1 := Lib.hid (fun W (hW : Below w.heap.size w W) => slMin_any (c := c2) W (HSE.out.to hW).R HN.out.1 (by omega))
  have HM2 := Lib.hid (fun W (hW : Below w.heap.size w W) => slMax_any (c := c2) W (HSE.out.to hW).R HN.out.1 (by omega))
  have HM3 := Lib.hid (fun W (hW : Below w.heap.size w W) => slMin_any (c := c3) W (HSE.out.to hW).S HN.out.1 (by omega))
  have HM4 := Lib.hid (fun W (hW : Below w.heap.size w W) => slMax_any (c := c3) W (HSE.out.to hW).S HN.out.1 (by omega))
  have HIX := Lib.hid (fun W (hW : Below w.heap.size w W) => slIndex_any (c := c1) (day % L) W (HSE.out.to hW).D (by omega))
  rw [hi] at HIX
  have HLO := Lib.hid (fun W hW => Longest_ok (c1 := c1) (c2 := c2) (c3 := c3) W (HSEA.out.to hW) HO.out)
  have ta := amax_bd (lightF L D R S) (topF L)
  have tb := amin_bd (lightF L D R S) (topF L)
  have tt : ((topF L : Nat) : Int) = L - 1 := by unfold topF; omega
  have lm : lightF L D R S (day % L) = lightF L D R S day := by
    unfold lightF lastF
    simp only [Bool.false_eq_true, if_false]
    rw [riseF_mod, riseF_mod]
  have ua := amax_le (lightF L D R S) (topF L) (day % L) ⟨m0, by omega⟩
  have ub := amin_le (lightF L D R S) (topF L) (day % L) ⟨m0, by omega⟩
  rw [lm] at ua ub
  rw [tt] at ta tb
  clear lm tt
  generalize amax (lightF L D R S) (topF L) = g at *
  generalize amin (lightF L D R S) (topF L) = q at *
  have HL1 := Lib.hid (fun W hW => Length_ok (c1 := c1) (c2 := c2) (c3 := c3) g false W (HSEA.out.to hW) HO.out (by omega))
  have HL2 := Lib.hid (fun W hW => Length_ok (c1 := c1) (c2 := c2) (c3 := c3) q false W (HSEA.out.to hW) HO.out (by omega))
  have HL3 := Lib.hid (fun W hW => Length_ok (c1 := c1) (c2 := c2) (c3 := c3) day false W (HSEA.out.to hW) HO.out HDY.out)
  unfold lightF at ua ub
  have k1 := hok.last g false; have k2 := hok.last q false; have k3 := hok.last day false
  obtain ⟨a1, a2, a3, a4, a5⟩ := gF_12 (lastF L D R S g false) (by omega)
  obtain ⟨d1, d2, d3, d4, d5⟩ := gF_12 (lastF L D R S q false) (by omega)
  obtain ⟨z1, z2, z3, z4, z5⟩ := gF_12 (lastF L D R S day false) (by omega)
  have P1 := prod_le a5 z5 ua a3 z3
  have P2 := prod_le z5 d5 ub z3 d3
  have B1 := prod_bd a1 a2 z3 z4; have B2 := prod_bd z1 z2 a3 a4
  have B3 := prod_bd d1 d2 z3 z4; have B4 := prod_bd z1 z2 d3 d4
  clear a5 d5 z5 ua ub
  generalize lastF L D R S g false / gF (lastF L D R S g false) 12 = xg at *
  generalize 12 / gF (lastF L D R S g false) 12 = yg at *
  generalize lastF L D R S q false / gF (lastF L D R S q false) 12 = xq at *
  generalize 12 / gF (lastF L D R S q false) 12 = yq at *
  generalize lastF L D R S day false / gF (lastF L D R S day false) 12 = xd at *
  generalize 12 / gF (lastF L D R S day false) 12 = yd at *
  generalize mnF R (n - 1) = lo2 at *
  generalize mxF R (n - 1) = hi2 at *
  generalize mnF S (n - 1) = lo3 at *
  generalize mxF S (n - 1) = hi3 at *
  generalize riseF L D R day = r at *
  generalize riseF L D S day = s at *
  clear e1 e2 hs hsea hok eD eR eS k1 k2 k3
  obtain ⟨n1, n30⟩ := hn
  obtain ⟨d0, d11⟩ := hd
  clear hi
  go_enter Tryd.func6, Tryd.ntmps6
  go_wp2_with fail
  refine (sane_any _).mono ?_
  rintro e w1 ⟨rfl, hb⟩
  have HB1 := Lib.hid (bjoin (w := w) (by have hb' := (Below.refl w.heap.size w); have hb'' := hb'.size; (repeat refine below_drewN ?_ _); go_grown) hb)
  have t1_l0 := keep_lt (b := w.heap.size) hb (by first | omega | (simp; done) | (simp; omega))
  have t1_0_0 := keep_cell (b := w.heap.size) (o := 0) (v := .int .i64 L) hb (by first | omega | (simp; done) | (simp; omega)) (by first | (with_reducible assumption) | (with_reducible exact cell_alloc_l _ (by assumption)) | (with_reducible exact cell_alloc_l _ (cell_alloc_l _ (by assumption))) | (simp [go_sem]; done) | assumption | exact cell_alloc_l _ (by assumption) | exact cell_alloc_l _ (cell_alloc_l _ (by assumption)) | (simp [go_sem, *]; done))
  have t1_0_1 := keep_cell (b := w.heap.size) (o := 1) (v := .slice (some ⟨b1, o1, none⟩) n c1) hb (by first | omega | (simp; done) | (simp; omega)) (by first | (with_reducible assumption) | (with_reducible exact cell_alloc_l _ (by assumption)) | (with_reducible exact cell_alloc_l _ (cell_alloc_l _ (by assumption))) | (simp [go_sem]; done) | assumption | exact cell_alloc_l _ (by assumption) | exact cell_alloc_l _ (cell_alloc_l _ (by assumption)) | (simp [go_sem, *]; done))
  have t1_0_2 := keep_cell (b := w.heap.size) (o := 2) (v := .slice (some ⟨b2, o2, none⟩) n c2) hb (by first | omega | (simp; done) | (simp; omega)) (by first | (with_reducible assumption) | (with_reducible exact cell_alloc_l _ (by assumption)) | (with_reducible exact cell_alloc_l _ (cell_alloc_l _ (by assumption))) | (simp [go_sem]; done) | assumption | exact cell_alloc_l _ (by assumption) | exact cell_alloc_l _ (cell_alloc_l _ (by assumption)) | (simp [go_sem, *]; done))
  have t1_0_3 := keep_cell (b := w.heap.size) (o := 3) (v := .slice (some ⟨b3, o3, none⟩) n c3) hb (by first | omega | (simp; done) | (simp; omega)) (by first | (with_reducible assumption) | (with_reducible exact cell_alloc_l _ (by assumption)) | (with_reducible exact cell_alloc_l _ (cell_alloc_l _ (by assumption))) | (simp [go_sem]; done) | assumption | exact cell_alloc_l _ (by assumption) | exact cell_alloc_l _ (cell_alloc_l _ (by assumption)) | (simp [go_sem, *]; done))
  clear hb
  go_wp2_with fail
  refine (right0_any (days := [day]) _ (HD.out.to (by have hb' := HB1.out; have hb'' := hb'.size; (repeat refine below_drewN ?_ _); go_grown)) (HR.out.to (by have hb' := HB1.out; have hb'' := hb'.size; (repeat refine below_drewN ?_ _); go_grown)) (HS.out.to (by have hb' := HB1.out; have hb'' := hb'.size; (repeat refine below_drewN ?_ _); go_grown)) (lst1 (b := w1.heap.size) (by simp [go_sem]) (by first | (simp; done) | (simp; omega))) (by omega)).mono ?_
  rintro e w2 ⟨rfl, hb⟩
  have HB2 := Lib.hid (bjoin (w := w) (by have hb' := HB1.out; have hb'' := hb'.size; (repeat refine below_drewN ?_ _); go_grown) hb)
  have t2_l0 := keep_lt (b := w.heap.size) hb (by first | omega | (simp; done) | (simp; omega))
  have t2_0_0 := keep_cell (b := w.heap.size) (o := 0) (v := .int .i64 L) hb (by first | omega | (simp; done) | (simp; omega)) (by first | (with_reducible assumption) | (with_reducible exact cell_alloc_l _ (by assumption)) | (with_reducible exact cell_alloc_l _ (cell_alloc_l _ (by assumption))) | (simp [go_sem]; done) | assumption | exact cell_alloc_l _ (by assumption) | exact cell_alloc_l _ (cell_alloc_l _ (by assumption)) | (simp [go_sem, *]; done))
  have t2_0_1 := keep_cell (b := w.heap.size) (o := 1) (v := .slice (some ⟨b1, o1, none⟩) n c1) hb (by first | omega | (simp; done) | (simp; omega)) (by first | (with_reducible assumption) | (with_reducible exact cell_alloc_l _ (by assumption)) | (with_reducible exact cell_alloc_l _ (cell_alloc_l _ (by assumption))) | (simp [go_sem]; done) | assumption | exact cell_alloc_l _ (by assumption) | exact cell_alloc_l _ (cell_alloc_l _ (by assumption)) | (simp [go_sem, *]; done))
  have t2_0_2 := keep_cell (b := w.heap.size) (o := 2) (v := .slice (some ⟨b2, o2, none⟩) n c2) hb (by first | omega | (simp; done) | (simp; omega)) (by first | (with_reducible assumption) | (with_reducible exact cell_alloc_l _ (by assumption)) | (with_reducible exact cell_alloc_l _ (cell_alloc_l _ (by assumption))) | (simp [go_sem]; done) | assumption | exact cell_alloc_l _ (by assumption) | exact cell_alloc_l _ (cell_alloc_l _ (by assumption)) | (simp [go_sem, *]; done))
  have t2_0_3 := keep_cell (b := w.heap.size) (o := 3) (v := .slice (some ⟨b3, o3, none⟩) n c3) hb (by first | omega | (simp; done) | (simp; omega)) (by first | (with_reducible assumption) | (with_reducible exact cell_alloc_l _ (by assumption)) | (with_reducible exact cell_alloc_l _ (cell_alloc_l _ (by assumption))) | (simp [go_sem]; done) | assumption | exact cell_alloc_l _ (by assumption) | exact cell_alloc_l _ (cell_alloc_l _ (by assumption)) | (simp [go_sem, *]; done))
  have t2_l1 := keep_lt (b := w1.heap.size) hb (by first | omega | (simp; done) | (simp; omega))
  have t2_1_0 := keep_cell (b := w1.heap.size) (o := 0) (v := .int .i64 (day)) hb (by first | omega | (simp; done) | (simp; omega)) (by first | (with_reducible assumption) | (with_reducible exact cell_alloc_l _ (by assumption)) | (with_reducible exact cell_alloc_l _ (cell_alloc_l _ (by assumption))) | (simp [go_sem]; done) | assumption | exact cell_alloc_l _ (by assumption) | exact cell_alloc_l _ (cell_alloc_l _ (by assumption)) | (simp [go_sem, *]; done))
  clear t1_0_0 t1_0_1 t1_0_2 t1_0_3 t1_l0
  clear hb
  clear t2_1_0 t2_l1
  rw [HRB.out]
  go_wp2_with fail
  refine (HR1.out _ (by have hb' := HB2.out; have hb'' := hb'.size; (repeat refine below_drewN ?_ _); go_grown)).mono ?_
  rintro e w3 ⟨rfl, hb⟩
  have HB3 := Lib.hid (bjoin (w := w) (by have hb' := HB2.out; have hb'' := hb'.size; (repeat refine below_drewN ?_ _); go_grown) hb)
  have t3_l0 := keep_lt (b := w.heap.size) hb (by first | omega | (simp; done) | (simp; omega))
  have t3_0_0 := keep_cell (b := w.heap.size) (o := 0) (v := .int .i64 L) hb (by first | omega | (simp; done) | (simp; omega)) (by first | (with_reducible assumption) | (with_reducible exact cell_alloc_l _ (by assumption)) | (with_reducible exact cell_alloc_l _ (cell_alloc_l _ (by assumption))) | (simp [go_sem]; done) | assumption | exact cell_alloc_l _ (by assumption) | exact cell_alloc_l _ (cell_alloc_l _ (by assumption)) | (simp [go_sem, *]; done))
  have t3_0_1 := keep_cell (b := w.heap.size) (o := 1) (v := .slice (some ⟨b1, o1, none⟩) n c1) hb (by first | omega | (simp; done) | (simp; omega)) (by first | (with_reducible assumption) | (with_reducible exact cell_alloc_l _ (by assumption)) | (with_reducible exact cell_alloc_l _ (cell_alloc_l _ (by assumption))) | (simp [go_sem]; done) | assumption | exact cell_alloc_l _ (by assumption) | exact cell_alloc_l _ (cell_alloc_l _ (by assumption)) | (simp [go_sem, *]; done))
  have t3_0_2 := keep_cell (b := w.heap.size) (o := 2) (v := .slice (some ⟨b2, o2, none⟩) n c2) hb (by first | omega | (simp; done) | (simp; omega)) (by first | (with_reducible assumption) | (with_reducible exact cell_alloc_l _ (by assumption)) | (with_reducible exact cell_alloc_l _ (cell_alloc_l _ (by assumption))) | (simp [go_sem]; done) | assumption | exact cell_alloc_l _ (by assumption) | exact cell_alloc_l _ (cell_alloc_l _ (by assumption)) | (simp [go_sem, *]; done))
  have t3_0_3 := keep_cell (b := w.heap.size) (o := 3) (v := .slice (some ⟨b3, o3, none⟩) n c3) hb (by first | omega | (simp; done) | (simp; omega)) (by first | (with_reducible assumption) | (with_reducible exact cell_alloc_l _ (by assumption)) | (with_reducible exact cell_alloc_l _ (cell_alloc_l _ (by assumption))) | (simp [go_sem]; done) | assumption | exact cell_alloc_l _ (by assumption) | exact cell_alloc_l _ (cell_alloc_l _ (by assumption)) | (simp [go_sem, *]; done))
  clear t2_0_0 t2_0_1 t2_0_2 t2_0_3 t2_l0
  clear hb
  go_wp2_with fail
  refine (HS1.out _ (by have hb' := HB3.out; have hb'' := hb'.size; (repeat refine below_drewN ?_ _); go_grown)).mono ?_
  rintro e w4 ⟨rfl, hb⟩
  have HB4 := Lib.hid (bjoin (w := w) (by have hb' := HB3.out; have hb'' := hb'.size; (repeat refine below_drewN ?_ _); go_grown) hb)
  have t4_l0 := keep_lt (b := w.heap.size) hb (by first | omega | (simp; done) | (simp; omega))
  have t4_0_0 := keep_cell (b := w.heap.size) (o := 0) (v := .int .i64 L) hb (by first | omega | (simp; done) | (simp; omega)) (by first | (with_reducible assumption) | (with_reducible exact cell_alloc_l _ (by assumption)) | (with_reducible exact cell_alloc_l _ (cell_alloc_l _ (by assumption))) | (simp [go_sem]; done) | assumption | exact cell_alloc_l _ (by assumption) | exact cell_alloc_l _ (cell_alloc_l _ (by assumption)) | (simp [go_sem, *]; done))
  have t4_0_1 := keep_cell (b := w.heap.size) (o := 1) (v := .slice (some ⟨b1, o1, none⟩) n c1) hb (by first | omega | (simp; done) | (simp; omega)) (by first | (with_reducible assumption) | (with_reducible exact cell_alloc_l _ (by assumption)) | (with_reducible exact cell_alloc_l _ (cell_alloc_l _ (by assumption))) | (simp [go_sem]; done) | assumption | exact cell_alloc_l _ (by assumption) | exact cell_alloc_l _ (cell_alloc_l _ (by assumption)) | (simp [go_sem, *]; done))
  have t4_0_2 := keep_cell (b := w.heap.size) (o := 2) (v := .slice (some ⟨b2, o2, none⟩) n c2) hb (by first | omega | (simp; done) | (simp; omega)) (by first | (with_reducible assumption) | (with_reducible exact cell_alloc_l _ (by assumption)) | (with_reducible exact cell_alloc_l _ (cell_alloc_l _ (by assumption))) | (simp [go_sem]; done) | assumption | exact cell_alloc_l _ (by assumption) | exact cell_alloc_l _ (cell_alloc_l _ (by assumption)) | (simp [go_sem, *]; done))
  have t4_0_3 := keep_cell (b := w.heap.size) (o := 3) (v := .slice (some ⟨b3, o3, none⟩) n c3) hb (by first | omega | (simp; done) | (simp; omega)) (by first | (with_reducible assumption) | (with_reducible exact cell_alloc_l _ (by assumption)) | (with_reducible exact cell_alloc_l _ (cell_alloc_l _ (by assumption))) | (simp [go_sem]; done) | assumption | exact cell_alloc_l _ (by assumption) | exact cell_alloc_l _ (cell_alloc_l _ (by assumption)) | (simp [go_sem, *]; done))
  clear t3_0_0 t3_0_1 t3_0_2 t3_0_3 t3_l0
  clear hb
  go_wp2_with (first | (go_at_call 37; first | ((with_reducible refine (HM1.out _ HB4.out).mono ?_); rintro e wz ⟨rfl, rfl⟩) | ((with_reducible refine (HM3.out _ HB4.out).mono ?_); rintro e wz ⟨rfl, rfl⟩)) | (go_at_call 38; first | ((with_reducible refine (HM2.out _ HB4.out).mono ?_); rintro e wz ⟨rfl, rfl⟩) | ((with_reducible refine (HM4.out _ HB4.out).mono ?_); rintro e wz ⟨rfl, rfl⟩)))
  have ht := HT.out
  go_quiet ((go_at_call 39; first | exact quiet_one (HIX.out _ (by (repeat refine below_drewN ?_ _); exact HB4.out)) | exact quiet_add (HIX.out _ (by (repeat refine below_drewN ?_ _); exact HB4.out))))
  clear ht
  go_wp2_with fail
  refine (HR2.out _ (by have hb' := HB4.out; have hb'' := hb'.size; (repeat refine below_drewN ?_ _); go_grown)).mono ?_
  rintro e w5 ⟨rfl, hb⟩
  have HB5 := Lib.hid (bjoin (w := w) (by have hb' := HB4.out; have hb'' := hb'.size; (repeat refine below_drewN ?_ _); go_grown) hb)
  have t5_l0 := keep_lt (b := w.heap.size) hb (by first | omega | (simp; done) | (simp; omega))
  have t5_0_0 := keep_cell (b := w.heap.size) (o := 0) (v := .int .i64 L) hb (by first | omega | (simp; done) | (simp; omega)) (by first | (with_reducible assumption) | (with_reducible exact cell_alloc_l _ (by assumption)) | (with_reducible exact cell_alloc_l _ (cell_alloc_l _ (by assumption))) | (simp [go_sem]; done) | assumption | exact cell_alloc_l _ (by assumption) | exact cell_alloc_l _ (cell_alloc_l _ (by assumption)) | (simp [go_sem, *]; done))
  have t5_0_1 := keep_cell (b := w.heap.size) (o := 1) (v := .slice (some ⟨b1, o1, none⟩) n c1) hb (by first | omega | (simp; done) | (simp; omega)) (by first | (with_reducible assumption) | (with_reducible exact cell_alloc_l _ (by assumption)) | (with_reducible exact cell_alloc_l _ (cell_alloc_l _ (by assumption))) | (simp [go_sem]; done) | assumption | exact cell_alloc_l _ (by assumption) | exact cell_alloc_l _ (cell_alloc_l _ (by assumption)) | (simp [go_sem, *]; done))
  have t5_0_2 := keep_cell (b := w.heap.size) (o := 2) (v := .slice (some ⟨b2, o2, none⟩) n c2) hb (by first | omega | (simp; done) | (simp; omega)) (by first | (with_reducible assumption) | (with_reducible exact cell_alloc_l _ (by assumption)) | (with_reducible exact cell_alloc_l _ (cell_alloc_l _ (by assumption))) | (simp [go_sem]; done) | assumption | exact cell_alloc_l _ (by assumption) | exact cell_alloc_l _ (cell_alloc_l _ (by assumption)) | (simp [go_sem, *]; done))
  have t5_0_3 := keep_cell (b := w.heap.size) (o := 3) (v := .slice (some ⟨b3, o3, none⟩) n c3) hb (by first | omega | (simp; done) | (simp; omega)) (by first | (with_reducible assumption) | (with_reducible exact cell_alloc_l _ (by assumption)) | (with_reducible exact cell_alloc_l _ (cell_alloc_l _ (by assumption))) | (simp [go_sem]; done) | assumption | exact cell_alloc_l _ (by assumption) | exact cell_alloc_l _ (cell_alloc_l _ (by assumption)) | (simp [go_sem, *]; done))
  clear t4_0_0 t4_0_1 t4_0_2 t4_0_3 t4_l0
  clear hb
  go_wp2_with fail
  refine (HS2.out _ (by have hb' := HB5.out; have hb'' := hb'.size; (repeat refine below_drewN ?_ _); go_grown)).mono ?_
  rintro e w6 ⟨rfl, hb⟩
  have HB6 := Lib.hid (bjoin (w := w) (by have hb' := HB5.out; have hb'' := hb'.size; (repeat refine below_drewN ?_ _); go_grown) hb)
  have t6_l0 := keep_lt (b := w.heap.size) hb (by first | omega | (simp; done) | (simp; omega))
  have t6_0_0 := keep_cell (b := w.heap.size) (o := 0) (v := .int .i64 L) hb (by first | omega | (simp; done) | (simp; omega)) (by first | (with_reducible assumption) | (with_reducible exact cell_alloc_l _ (by assumption)) | (with_reducible exact cell_alloc_l _ (cell_alloc_l _ (by assumption))) | (simp [go_sem]; done) | assumption | exact cell_alloc_l _ (by assumption) | exact cell_alloc_l _ (cell_alloc_l _ (by assumption)) | (simp [go_sem, *]; done))
  have t6_0_1 := keep_cell (b := w.heap.size) (o := 1) (v := .slice (some ⟨b1, o1, none⟩) n c1) hb (by first | omega | (simp; done) | (simp; omega)) (by first | (with_reducible assumption) | (with_reducible exact cell_alloc_l _ (by assumption)) | (with_reducible exact cell_alloc_l _ (cell_alloc_l _ (by assumption))) | (simp [go_sem]; done) | assumption | exact cell_alloc_l _ (by assumption) | exact cell_alloc_l _ (cell_alloc_l _ (by assumption)) | (simp [go_sem, *]; done))
  have t6_0_2 := keep_cell (b := w.heap.size) (o := 2) (v := .slice (some ⟨b2, o2, none⟩) n c2) hb (by first | omega | (simp; done) | (simp; omega)) (by first | (with_reducible assumption) | (with_reducible exact cell_alloc_l _ (by assumption)) | (with_reducible exact cell_alloc_l _ (cell_alloc_l _ (by assumption))) | (simp [go_sem]; done) | assumption | exact cell_alloc_l _ (by assumption) | exact cell_alloc_l _ (cell_alloc_l _ (by assumption)) | (simp [go_sem, *]; done))
  have t6_0_3 := keep_cell (b := w.heap.size) (o := 3) (v := .slice (some ⟨b3, o3, none⟩) n c3) hb (by first | omega | (simp; done) | (simp; omega)) (by first | (with_reducible assumption) | (with_reducible exact cell_alloc_l _ (by assumption)) | (with_reducible exact cell_alloc_l _ (cell_alloc_l _ (by assumption))) | (simp [go_sem]; done) | assumption | exact cell_alloc_l _ (by assumption) | exact cell_alloc_l _ (cell_alloc_l _ (by assumption)) | (simp [go_sem, *]; done))
  clear t5_0_0 t5_0_1 t5_0_2 t5_0_3 t5_l0
  clear hb
  go_wp2_with fail
  refine (HLO.out _ (by have hb' := HB6.out; have hb'' := hb'.size; (repeat refine below_drewN ?_ _); go_grown)).mono ?_
  rintro e w7 ⟨rfl, hb⟩
  have HB7 := Lib.hid (bjoin (w := w) (by have hb' := HB6.out; have hb'' := hb'.size; (repeat refine below_drewN ?_ _); go_grown) hb)
  have t7_l0 := keep_lt (b := w.heap.size) hb (by first | omega | (simp; done) | (simp; omega))
  have t7_0_0 := keep_cell (b := w.heap.size) (o := 0) (v := .int .i64 L) hb (by first | omega | (simp; done) | (simp; omega)) (by first | (with_reducible assumption) | (with_reducible exact cell_alloc_l _ (by assumption)) | (with_reducible exact cell_alloc_l _ (cell_alloc_l _ (by assumption))) | (simp [go_sem]; done) | assumption | exact cell_alloc_l _ (by assumption) | exact cell_alloc_l _ (cell_alloc_l _ (by assumption)) | (simp [go_sem, *]; done))
  have t7_0_1 := keep_cell (b := w.heap.size) (o := 1) (v := .slice (some ⟨b1, o1, none⟩) n c1) hb (by first | omega | (simp; done) | (simp; omega)) (by first | (with_reducible assumption) | (with_reducible exact cell_alloc_l _ (by assumption)) | (with_reducible exact cell_alloc_l _ (cell_alloc_l _ (by assumption))) | (simp [go_sem]; done) | assumption | exact cell_alloc_l _ (by assumption) | exact cell_alloc_l _ (cell_alloc_l _ (by assumption)) | (simp [go_sem, *]; done))
  have t7_0_2 := keep_cell (b := w.heap.size) (o := 2) (v := .slice (some ⟨b2, o2, none⟩) n c2) hb (by first | omega | (simp; done) | (simp; omega)) (by first | (with_reducible assumption) | (with_reducible exact cell_alloc_l _ (by assumption)) | (with_reducible exact cell_alloc_l _ (cell_alloc_l _ (by assumption))) | (simp [go_sem]; done) | assumption | exact cell_alloc_l _ (by assumption) | exact cell_alloc_l _ (cell_alloc_l _ (by assumption)) | (simp [go_sem, *]; done))
  have t7_0_3 := keep_cell (b := w.heap.size) (o := 3) (v := .slice (some ⟨b3, o3, none⟩) n c3) hb (by first | omega | (simp; done) | (simp; omega)) (by first | (with_reducible assumption) | (with_reducible exact cell_alloc_l _ (by assumption)) | (with_reducible exact cell_alloc_l _ (cell_alloc_l _ (by assumption))) | (simp [go_sem]; done) | assumption | exact cell_alloc_l _ (by assumption) | exact cell_alloc_l _ (cell_alloc_l _ (by assumption)) | (simp [go_sem, *]; done))
  clear t6_0_0 t6_0_1 t6_0_2 t6_0_3 t6_l0
  clear hb
  go_wp2_with fail
  refine (HL1.out _ (by have hb' := HB7.out; have hb'' := hb'.size; (repeat refine below_drewN ?_ _); go_grown)).mono ?_
  rintro e w8 ⟨rfl, hb⟩
  have HB8 := Lib.hid (bjoin (w := w) (by have hb' := HB7.out; have hb'' := hb'.size; (repeat refine below_drewN ?_ _); go_grown) hb)
  have t8_l0 := keep_lt (b := w.heap.size) hb (by first | omega | (simp; done) | (simp; omega))
  have t8_0_0 := keep_cell (b := w.heap.size) (o := 0) (v := .int .i64 L) hb (by first | omega | (simp; done) | (simp; omega)) (by first | (with_reducible assumption) | (with_reducible exact cell_alloc_l _ (by assumption)) | (with_reducible exact cell_alloc_l _ (cell_alloc_l _ (by assumption))) | (simp [go_sem]; done) | assumption | exact cell_alloc_l _ (by assumption) | exact cell_alloc_l _ (cell_alloc_l _ (by assumption)) | (simp [go_sem, *]; done))
  have t8_0_1 := keep_cell (b := w.heap.size) (o := 1) (v := .slice (some ⟨b1, o1, none⟩) n c1) hb (by first | omega | (simp; done) | (simp; omega)) (by first | (with_reducible assumption) | (with_reducible exact cell_alloc_l _ (by assumption)) | (with_reducible exact cell_alloc_l _ (cell_alloc_l _ (by assumption))) | (simp [go_sem]; done) | assumption | exact cell_alloc_l _ (by assumption) | exact cell_alloc_l _ (cell_alloc_l _ (by assumption)) | (simp [go_sem, *]; done))
  have t8_0_2 := keep_cell (b := w.heap.size) (o := 2) (v := .slice (some ⟨b2, o2, none⟩) n c2) hb (by first | omega | (simp; done) | (simp; omega)) (by first | (with_reducible assumption) | (with_reducible exact cell_alloc_l _ (by assumption)) | (with_reducible exact cell_alloc_l _ (cell_alloc_l _ (by assumption))) | (simp [go_sem]; done) | assumption | exact cell_alloc_l _ (by assumption) | exact cell_alloc_l _ (cell_alloc_l _ (by assumption)) | (simp [go_sem, *]; done))
  have t8_0_3 := keep_cell (b := w.heap.size) (o := 3) (v := .slice (some ⟨b3, o3, none⟩) n c3) hb (by first | omega | (simp; done) | (simp; omega)) (by first | (with_reducible assumption) | (with_reducible exact cell_alloc_l _ (by assumption)) | (with_reducible exact cell_alloc_l _ (cell_alloc_l _ (by assumption))) | (simp [go_sem]; done) | assumption | exact cell_alloc_l _ (by assumption) | exact cell_alloc_l _ (cell_alloc_l _ (by assumption)) | (simp [go_sem, *]; done))
  clear t7_0_0 t7_0_1 t7_0_2 t7_0_3 t7_l0
  clear hb
  go_wp2_with fail
  refine (HL2.out _ (by have hb' := HB8.out; have hb'' := hb'.size; (repeat refine below_drewN ?_ _); go_grown)).mono ?_
  rintro e w9 ⟨rfl, hb⟩
  have HB9 := Lib.hid (bjoin (w := w) (by have hb' := HB8.out; have hb'' := hb'.size; (repeat refine below_drewN ?_ _); go_grown) hb)
  have t9_l0 := keep_lt (b := w.heap.size) hb (by first | omega | (simp; done) | (simp; omega))
  have t9_0_0 := keep_cell (b := w.heap.size) (o := 0) (v := .int .i64 L) hb (by first | omega | (simp; done) | (simp; omega)) (by first | (with_reducible assumption) | (with_reducible exact cell_alloc_l _ (by assumption)) | (with_reducible exact cell_alloc_l _ (cell_alloc_l _ (by assumption))) | (simp [go_sem]; done) | assumption | exact cell_alloc_l _ (by assumption) | exact cell_alloc_l _ (cell_alloc_l _ (by assumption)) | (simp [go_sem, *]; done))
  have t9_0_1 := keep_cell (b := w.heap.size) (o := 1) (v := .slice (some ⟨b1, o1, none⟩) n c1) hb (by first | omega | (simp; done) | (simp; omega)) (by first | (with_reducible assumption) | (with_reducible exact cell_alloc_l _ (by assumption)) | (with_reducible exact cell_alloc_l _ (cell_alloc_l _ (by assumption))) | (simp [go_sem]; done) | assumption | exact cell_alloc_l _ (by assumption) | exact cell_alloc_l _ (cell_alloc_l _ (by assumption)) | (simp [go_sem, *]; done))
  have t9_0_2 := keep_cell (b := w.heap.size) (o := 2) (v := .slice (some ⟨b2, o2, none⟩) n c2) hb (by first | omega | (simp; done) | (simp; omega)) (by first | (with_reducible assumption) | (with_reducible exact cell_alloc_l _ (by assumption)) | (with_reducible exact cell_alloc_l _ (cell_alloc_l _ (by assumption))) | (simp [go_sem]; done) | assumption | exact cell_alloc_l _ (by assumption) | exact cell_alloc_l _ (cell_alloc_l _ (by assumption)) | (simp [go_sem, *]; done))
  have t9_0_3 := keep_cell (b := w.heap.size) (o := 3) (v := .slice (some ⟨b3, o3, none⟩) n c3) hb (by first | omega | (simp; done) | (simp; omega)) (by first | (with_reducible assumption) | (with_reducible exact cell_alloc_l _ (by assumption)) | (with_reducible exact cell_alloc_l _ (cell_alloc_l _ (by assumption))) | (simp [go_sem]; done) | assumption | exact cell_alloc_l _ (by assumption) | exact cell_alloc_l _ (cell_alloc_l _ (by assumption)) | (simp [go_sem, *]; done))
  have t9_l1 := keep_lt (b := w8.heap.size) hb (by first | omega | (simp; done) | (simp; omega))
  have t9_1_0 := keep_cell (b := w8.heap.size) (o := 0) (v := .int .i64 xg) hb (by first | omega | (simp; done) | (simp; omega)) (by first | (with_reducible assumption) | (with_reducible exact cell_alloc_l _ (by assumption)) | (with_reducible exact cell_alloc_l _ (cell_alloc_l _ (by assumption))) | (simp [go_sem]; done) | assumption | exact cell_alloc_l _ (by assumption) | exact cell_alloc_l _ (cell_alloc_l _ (by assumption)) | (simp [go_sem, *]; done))
  have t9_1_1 := keep_cell (b := w8.heap.size) (o := 1) (v := .int .i64 yg) hb (by first | omega | (simp; done) | (simp; omega)) (by first | (with_reducible assumption) | (with_reducible exact cell_alloc_l _ (by assumption)) | (with_reducible exact cell_alloc_l _ (cell_alloc_l _ (by assumption))) | (simp [go_sem]; done) | assumption | exact cell_alloc_l _ (by assumption) | exact cell_alloc_l _ (cell_alloc_l _ (by assumption)) | (simp [go_sem, *]; done))
  clear t8_0_0 t8_0_1 t8_0_2 t8_0_3 t8_l0
  clear hb
  go_wp2_with fail
  refine (HL3.out _ (by have hb' := HB9.out; have hb'' := hb'.size; (repeat refine below_drewN ?_ _); go_grown)).mono ?_
  rintro e w10 ⟨rfl, hb⟩
  have HB10 := Lib.hid (bjoin (w := w) (by have hb' := HB9.out; have hb'' := hb'.size; (repeat refine below_drewN ?_ _); go_grown) hb)
  have t10_l0 := keep_lt (b := w.heap.size) hb (by first | omega | (simp; done) | (simp; omega))
  have t10_0_0 := keep_cell (b := w.heap.size) (o := 0) (v := .int .i64 L) hb (by first | omega | (simp; done) | (simp; omega)) (by first | (with_reducible assumption) | (with_reducible exact cell_alloc_l _ (by assumption)) | (with_reducible exact cell_alloc_l _ (cell_alloc_l _ (by assumption))) | (simp [go_sem]; done) | assumption | exact cell_alloc_l _ (by assumption) | exact cell_alloc_l _ (cell_alloc_l _ (by assumption)) | (simp [go_sem, *]; done))
  have t10_0_1 := keep_cell (b := w.heap.size) (o := 1) (v := .slice (some ⟨b1, o1, none⟩) n c1) hb (by first | omega | (simp; done) | (simp; omega)) (by first | (with_reducible assumption) | (with_reducible exact cell_alloc_l _ (by assumption)) | (with_reducible exact cell_alloc_l _ (cell_alloc_l _ (by assumption))) | (simp [go_sem]; done) | assumption | exact cell_alloc_l _ (by assumption) | exact cell_alloc_l _ (cell_alloc_l _ (by assumption)) | (simp [go_sem, *]; done))
  have t10_0_2 := keep_cell (b := w.heap.size) (o := 2) (v := .slice (some ⟨b2, o2, none⟩) n c2) hb (by first | omega | (simp; done) | (simp; omega)) (by first | (with_reducible assumption) | (with_reducible exact cell_alloc_l _ (by assumption)) | (with_reducible exact cell_alloc_l _ (cell_alloc_l _ (by assumption))) | (simp [go_sem]; done) | assumption | exact cell_alloc_l _ (by assumption) | exact cell_alloc_l _ (cell_alloc_l _ (by assumption)) | (simp [go_sem, *]; done))
  have t10_0_3 := keep_cell (b := w.heap.size) (o := 3) (v := .slice (some ⟨b3, o3, none⟩) n c3) hb (by first | omega | (simp; done) | (simp; omega)) (by first | (with_reducible assumption) | (with_reducible exact cell_alloc_l _ (by assumption)) | (with_reducible exact cell_alloc_l _ (cell_alloc_l _ (by assumption))) | (simp [go_sem]; done) | assumption | exact cell_alloc_l _ (by assumption) | exact cell_alloc_l _ (cell_alloc_l _ (by assumption)) | (simp [go_sem, *]; done))
  have t10_l1 := keep_lt (b := w8.heap.size) hb (by first | omega | (simp; done) | (simp; omega))
  have t10_1_0 := keep_cell (b := w8.heap.size) (o := 0) (v := .int .i64 xg) hb (by first | omega | (simp; done) | (simp; omega)) (by first | (with_reducible assumption) | (with_reducible exact cell_alloc_l _ (by assumption)) | (with_reducible exact cell_alloc_l _ (cell_alloc_l _ (by assumption))) | (simp [go_sem]; done) | assumption | exact cell_alloc_l _ (by assumption) | exact cell_alloc_l _ (cell_alloc_l _ (by assumption)) | (simp [go_sem, *]; done))
  have t10_1_1 := keep_cell (b := w8.heap.size) (o := 1) (v := .int .i64 yg) hb (by first | omega | (simp; done) | (simp; omega)) (by first | (with_reducible assumption) | (with_reducible exact cell_alloc_l _ (by assumption)) | (with_reducible exact cell_alloc_l _ (cell_alloc_l _ (by assumption))) | (simp [go_sem]; done) | assumption | exact cell_alloc_l _ (by assumption) | exact cell_alloc_l _ (cell_alloc_l _ (by assumption)) | (simp [go_sem, *]; done))
  have t10_l2 := keep_lt (b := w9.heap.size) hb (by first | omega | (simp; done) | (simp; omega))
  have t10_2_0 := keep_cell (b := w9.heap.size) (o := 0) (v := .int .i64 xq) hb (by first | omega | (simp; done) | (simp; omega)) (by first | (with_reducible assumption) | (with_reducible exact cell_alloc_l _ (by assumption)) | (with_reducible exact cell_alloc_l _ (cell_alloc_l _ (by assumption))) | (simp [go_sem]; done) | assumption | exact cell_alloc_l _ (by assumption) | exact cell_alloc_l _ (cell_alloc_l _ (by assumption)) | (simp [go_sem, *]; done))
  have t10_2_1 := keep_cell (b := w9.heap.size) (o := 1) (v := .int .i64 yq) hb (by first | omega | (simp; done) | (simp; omega)) (by first | (with_reducible assumption) | (with_reducible exact cell_alloc_l _ (by assumption)) | (with_reducible exact cell_alloc_l _ (cell_alloc_l _ (by assumption))) | (simp [go_sem]; done) | assumption | exact cell_alloc_l _ (by assumption) | exact cell_alloc_l _ (cell_alloc_l _ (by assumption)) | (simp [go_sem, *]; done))
  clear t9_0_0 t9_0_1 t9_0_2 t9_0_3 t9_l0 t9_1_0 t9_1_1 t9_l1
  clear hb
  go_wp2_with fail
  go_ret
  exact ⟨by first | rfl | (simp; done) | (simp; omega), by have hb' := HB10.out; have hb'' := hb'.size; go_grown⟩


end Go.Proofs.YtomlfliebolkmaaDoor
