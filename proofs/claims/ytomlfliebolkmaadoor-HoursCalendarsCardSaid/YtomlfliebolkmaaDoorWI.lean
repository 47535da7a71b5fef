/-
  Passed, in the program and in the reference, by contract. No condition beyond what each states.
-/
import Derived.Test.YtomlfliebolkmaaDoorWH
set_option linter.unusedVariables false
set_option linter.unusedSimpArgs false
namespace Go.Proofs.YtomlfliebolkmaaDoor
open Go Go.Proofs Go.RowKit Pl

/-- The error of two hours whose moments are n apart. -/
def passE (a1 a2 n : Int) : Int := if a1 ≠ 0 then a1 else if a2 ≠ 0 then a2 else if n < 0 then 4 else 0

set_option maxHeartbeats 2000000 in
theorem Passed_any {L : Int} {n1 n2 n3 c1 c2 c3 : Nat} {a1 a2 a3 : Option Addr} {D R S : List Int} (day : Int) (b : Bool) (h p : Int) (day' : Int) (b' : Bool) (h' p' : Int) (w : World) (hs : SeaO w a1 n1 a2 n2 a3 n3 D R S) :
   Calls Tryd.prog 30 #[.agg #[.int .i64 L, .slice a1 n1 c1, .slice a2 n2 c2, .slice a3 n3 c3], .int .i64 day, .agg #[.bool b, .int .i64 h, .int .i64 p], .int .i64 day', .agg #[.bool b', .int .i64 h', .int .i64 p']] w
     fun e w' => e = .returned (.tuple #[.agg #[.int .i64 (onOk (passE (askH L D R S day h p) (askH L D R S day' h' p') (momF L D R S day' b' (60 * h' + p') - momF L D R S day b (60 * h + p))) ((momF L D R S day' b' (60 * h' + p') - momF L D R S day b (60 * h + p)) / 720)), .int .i64 (onOk (passE (askH L D R S day h p) (askH L D R S day' h' p') (momF L D R S day' b' (60 * h' + p') - momF L D R S day b (60 * h + p))) (upF (momF L D R S day' b' (60 * h' + p') - momF L D R S day b (60 * h + p))))], .int .i64 (passE (askH L D R S day h p) (askH L D R S day' h' p') (momF L D R S day' b' (60 * h' + p') - momF L D R S day b (60 * h + p)))]) ∧ Below w.heap.size w w' := by
  rcases askH_or L D R S day h p with ⟨hA, hok, hday, hh, hp⟩ | hA
  · rcases askH_or L D R S day' h' p' with ⟨hA', _, hday', hh', hp'⟩ | hA'
    · obtain ⟨b1, o1, b2, o2, b3, o3, rfl, rfl, rfl, rfl, rfl, hsea⟩ := hs.sea hok
      obtain ⟨_, _, q3, q4⟩ := hok.mom day b (60 * h + p) (by omega) (by omega) (by omega)
      obtain ⟨_, _, q7, q8⟩ := hok.mom day' b' (60 * h' + p') (by omega) (by omega) (by omega)
      have hm1 : 0 ≤ momF L D R S day b (60 * h + p) ∧ momF L D R S day b (60 * h + p) ≤ 30000000000 := by unfold momF; omega
      have hm2 : 0 ≤ momF L D R S day' b' (60 * h' + p') ∧ momF L D R S day' b' (60 * h' + p') ≤ 30000000000 := by unfold momF; omega
      clear q3 q4 q7 q8
      have HS := Lib.hid hs; have HE := Lib.hid hsea; have HO := Lib.hid hok; clear hs hsea hok
      have hw0 := IntWalk.i64_in (momF L D R S day' b' (60 * h' + p') - momF L D R S day b (60 * h + p)) (by omega)
      go_enter Tryd.func30, Tryd.ntmps30
      go_wp2_with fail
      refine (asks_any day b h p _ (HS.out.to (by go_grown))).mono ?_
      rintro e w1 ⟨rfl, hb1⟩
      obtain ⟨hc, hf⟩ := bcell hb1
      have HB := Lib.hid (bjoin (w := w) (by go_grown) hb1)
      have HC := Lib.hid hb1; clear hb1
      go_wp2_with fail
      refine (asks_any day' b' h' p' _ (HS.out.to HB.out)).mono ?_
      rintro e w2 ⟨rfl, hb2⟩
      have HB2 := Lib.hid (bjoin HB.out hb2)
      have HC2 := Lib.hid (bjoin HC.out hb2); clear hb2
      have ql0 := keep_lt (b := w.heap.size) HC2.out (by simp <;> omega)
      have qc0_0 := keep_cell (b := w.heap.size) (o := 0) (v := .int .i64 L) HC2.out (by simp <;> omega) (by simp [go_sem])
      have qc0_1 := keep_cell (b := w.heap.size) (o := 1) (v := .slice (some ⟨b1, o1, none⟩) n3 c1) HC2.out (by simp <;> omega) (by simp [go_sem])
      have qc0_2 := keep_cell (b := w.heap.size) (o := 2) (v := .slice (some ⟨b2, o2, none⟩) n3 c2) HC2.out (by simp <;> omega) (by simp [go_sem])
      have qc0_3 := keep_cell (b := w.heap.size) (o := 3) (v := .slice (some ⟨b3, o3, none⟩) n3 c3) HC2.out (by simp <;> omega) (by simp [go_sem])
      have ql1 := keep_lt (b := w.heap.size + 1) HC2.out (by simp <;> omega)
      have qc1_0 := keep_cell (b := w.heap.size + 1) (o := 0) (v := .bool b) HC2.out (by simp <;> omega) (by simp [go_sem])
      have qc1_1 := keep_cell (b := w.heap.size + 1) (o := 1) (v := .int .i64 h) HC2.out (by simp <;> omega) (by simp [go_sem])
      have qc1_2 := keep_cell (b := w.heap.size + 1) (o := 2) (v := .int .i64 p) HC2.out (by simp <;> omega) (by simp [go_sem])
      have ql2 := keep_lt (b := w.heap.size + 1 + 1) HC2.out (by simp <;> omega)
      have qc2_0 := keep_cell (b := w.heap.size + 1 + 1) (o := 0) (v := .bool b') HC2.out (by simp <;> omega) (by simp [go_sem])
      have qc2_1 := keep_cell (b := w.heap.size + 1 + 1) (o := 1) (v := .int .i64 h') HC2.out (by simp <;> omega) (by simp [go_sem])
      have qc2_2 := keep_cell (b := w.heap.size + 1 + 1) (o := 2) (v := .int .i64 p') HC2.out (by simp <;> omega) (by simp [go_sem])
      have HQ := Lib.hid (show ∀ W', Below w2.heap.size w2 W' → W'.cell? ⟨w.heap.size, 0, none⟩ = some (.int .i64 L) ∧ W'.cell? ⟨w.heap.size, 1, none⟩ = some (.slice (some ⟨b1, o1, none⟩) n3 c1) ∧ W'.cell? ⟨w.heap.size, 2, none⟩ = some (.slice (some ⟨b2, o2, none⟩) n3 c2) ∧ W'.cell? ⟨w.heap.size, 3, none⟩ = some (.slice (some ⟨b3, o3, none⟩) n3 c3) ∧ W'.cell? ⟨w.heap.size + 1, 0, none⟩ = some (.bool b) ∧ W'.cell? ⟨w.heap.size + 1, 1, none⟩ = some (.int .i64 h) ∧ W'.cell? ⟨w.heap.size + 1, 2, none⟩ = some (.int .i64 p) ∧ W'.cell? ⟨w.heap.size + 1 + 1, 0, none⟩ = some (.bool b') ∧ W'.cell? ⟨w.heap.size + 1 + 1, 1, none⟩ = some (.int .i64 h') ∧ W'.cell? ⟨w.heap.size + 1 + 1, 2, none⟩ = some (.int .i64 p') ∧ Below w2.heap.size w2 W' from fun W' hBW => ⟨keep_cell hBW ql0 qc0_0, keep_cell hBW ql0 qc0_1, keep_cell hBW ql0 qc0_2, keep_cell hBW ql0 qc0_3, keep_cell hBW ql1 qc1_0, keep_cell hBW ql1 qc1_1, keep_cell hBW ql1 qc1_2, keep_cell hBW ql2 qc2_0, keep_cell hBW ql2 qc2_1, keep_cell hBW ql2 qc2_2, hBW⟩)
      go_wp2
      go_region_held3 (fun W' => W'.cell? ⟨w.heap.size, 0, none⟩ = some (.int .i64 L) ∧ W'.cell? ⟨w.heap.size, 1, none⟩ = some (.slice (some ⟨b1, o1, none⟩) n3 c1) ∧ W'.cell? ⟨w.heap.size, 2, none⟩ = some (.slice (some ⟨b2, o2, none⟩) n3 c2) ∧ W'.cell? ⟨w.heap.size, 3, none⟩ = some (.slice (some ⟨b3, o3, none⟩) n3 c3) ∧ W'.cell? ⟨w.heap.size + 1, 0, none⟩ = some (.bool b) ∧ W'.cell? ⟨w.heap.size + 1, 1, none⟩ = some (.int .i64 h) ∧ W'.cell? ⟨w.heap.size + 1, 2, none⟩ = some (.int .i64 p) ∧ W'.cell? ⟨w.heap.size + 1 + 1, 0, none⟩ = some (.bool b') ∧ W'.cell? ⟨w.heap.size + 1 + 1, 1, none⟩ = some (.int .i64 h') ∧ W'.cell? ⟨w.heap.size + 1 + 1, 2, none⟩ = some (.int .i64 p') ∧ Below w2.heap.size w2 W') ((refine HQ.out _ ?_; first | exact (Below.refl _ _).drew | assumption)) (first | (go_at_call 85; obtain ⟨_, _, _, _, _, _, _, _, _, _, hBW⟩ := ‹_ ∧ _ ∧ _ ∧ _ ∧ _ ∧ _ ∧ _ ∧ _ ∧ _ ∧ _ ∧ Below w2.heap.size w2 _›; first | ((with_reducible refine (moment_any day b h p _ (HE.out.to (bjoin HB2.out hBW)) HO.out (by omega) (by omega) hh hp).mono ?_); rintro e wn ⟨rfl, hbn⟩; have hBN := bjoin hBW hbn) | ((with_reducible refine (moment_any day' b' h' p' _ (HE.out.to (bjoin HB2.out hBW)) HO.out (by omega) (by omega) hh' hp').mono ?_); rintro e wn ⟨rfl, hbn⟩; have hBN := bjoin hBW hbn)))
      obtain ⟨_, _, _, _, _, _, _, _, _, _, hBW⟩ := ‹_ ∧ _ ∧ _ ∧ _ ∧ _ ∧ _ ∧ _ ∧ _ ∧ _ ∧ _ ∧ Below w2.heap.size w2 _›
      have HZ := Lib.hid hBW; clear hBW
      have hw0 := IntWalk.i64_in (momF L D R S day' b' (60 * h' + p') - momF L D R S day b (60 * h + p)) (by omega)
      have HC3 := Lib.hid (bjoin HC2.out HZ.out)
      have HB3 := Lib.hid (bjoin HB2.out HZ.out)
      have rc0 := keep_cell (b := w.heap.size + 1 + 1 + 1) (o := 0) (v := .int .i64 0) HC3.out (by simp) (by simp [go_sem])
      have rf0 := keep_fr (b := w.heap.size + 1 + 1 + 1) (o := 0) HC3.out (by simp) (by simp [go_sem])
      have rc1 := keep_cell (b := w.heap.size + 1 + 1 + 1) (o := 1) (v := .int .i64 0) HC3.out (by simp) (by simp [go_sem])
      have rf1 := keep_fr (b := w.heap.size + 1 + 1 + 1) (o := 1) HC3.out (by simp) (by simp [go_sem])
      have rl := keep_lt (b := w.heap.size + 1 + 1 + 1) HC3.out (by simp)
      by_cases hneg : momF L D R S day' b' (60 * h' + p') - momF L D R S day b (60 * h + p) < 0
      · have HP := Lib.hid (show passE 0 0 (momF L D R S day' b' (60 * h' + p') - momF L D R S day b (60 * h + p)) = 4 by unfold passE; rw [if_neg (by decide), if_neg (by decide), if_pos hneg])
        generalize hXX2 : momF L D R S day' b' (60 * h' + p') = X2 at *
        have HX2 := Lib.hid hXX2; clear hXX2
        generalize hXX1 : momF L D R S day b (60 * h + p) = X1 at *
        have HX1 := Lib.hid hXX1; clear hXX1
        go_wp2
        refine bodyPost_ret (v := .tuple #[.agg #[.int .i64 (0), .int .i64 (0)], .int .i64 4]) (by simp [results, Tryd.results30, go_sem, rc0, rc1]) rfl ?_
        exact ⟨by simp only [hA, hA', HX2.out, HX1.out, HP.out]; exact ret_rat (onOk_no (by decide) _).symm (onOk_no (by decide) _).symm, ((HB3.out).setCell (p := ⟨w.heap.size + 1 + 1 + 1, 0, none⟩) (by simp; try omega) _).setCell (p := ⟨w.heap.size + 1 + 1 + 1, 1, none⟩) (by simp; try omega) _⟩
      · have HP := Lib.hid (show passE 0 0 (momF L D R S day' b' (60 * h' + p') - momF L D R S day b (60 * h + p)) = 0 by unfold passE; rw [if_neg (by decide), if_neg (by decide), if_neg hneg])
        generalize hXX2 : momF L D R S day' b' (60 * h' + p') = X2 at *
        have HX2 := Lib.hid hXX2; clear hXX2
        generalize hXX1 : momF L D R S day b (60 * h + p) = X1 at *
        have HX1 := Lib.hid hXX1; clear hXX1
        have hup : upF (X2 - X1) = (X2 - X1 + 720 - 1) / 720 := by unfold upF; congr 1; omega
        have HUP := Lib.hid hup; clear hup
        go_wp2
        refine bodyPost_ret (v := .tuple #[.agg #[.int .i64 ((X2 - X1) / 720), .int .i64 ((X2 - X1 + 720 - 1) / 720)], .int .i64 0]) (by simp [results, Tryd.results30, go_sem, rc0, rc1]) rfl ?_
        exact ⟨by simp only [hA, hA', HX2.out, HX1.out, HP.out]; exact ret_rat (onOk_ok _).symm (by rw [onOk_ok, HUP.out]), ((HB3.out).setCell (p := ⟨w.heap.size + 1 + 1 + 1, 0, none⟩) (by simp; try omega) _).setCell (p := ⟨w.heap.size + 1 + 1 + 1, 1, none⟩) (by simp; try omega) _⟩
    · have HS := Lib.hid hs; clear hs
      generalize hG : askH L D R S day' h' p' = A at hA' ⊢
      have HG := Lib.hid hG; clear hG
      have hA1 : (A != 0) = true := by rw [bne_iff_ne]; exact hA'
      have HP := Lib.hid (show passE (askH L D R S day h p) A (momF L D R S day' b' (60 * h' + p') - momF L D R S day b (60 * h + p)) = A by unfold passE; rw [hA, if_neg (by decide), if_pos hA'])
      go_enter Tryd.func30, Tryd.ntmps30
      go_wp2_with fail
      refine (asks_any day b h p _ (HS.out.to (by go_grown))).mono ?_
      rintro e w1 ⟨rfl, hb1⟩
      obtain ⟨hc, hf⟩ := bcell hb1
      have HB := Lib.hid (bjoin (w := w) (by go_grown) hb1)
      have HC := Lib.hid hb1; clear hb1
      go_wp2_with fail
      refine (asks_any day' b' h' p' _ (HS.out.to HB.out)).mono ?_
      rintro e w2 ⟨rfl, hb2⟩
      rw [HG.out]
      have HB2 := Lib.hid (bjoin HB.out hb2)
      have HC2 := Lib.hid (bjoin HC.out hb2); clear hb2
      have rc0 := keep_cell (b := w.heap.size + 1 + 1 + 1) (o := 0) (v := .int .i64 0) HC2.out (by simp) (by simp [go_sem])
      have rf0 := keep_fr (b := w.heap.size + 1 + 1 + 1) (o := 0) HC2.out (by simp) (by simp [go_sem])
      have rc1 := keep_cell (b := w.heap.size + 1 + 1 + 1) (o := 1) (v := .int .i64 0) HC2.out (by simp) (by simp [go_sem])
      have rf1 := keep_fr (b := w.heap.size + 1 + 1 + 1) (o := 1) HC2.out (by simp) (by simp [go_sem])
      have rl := keep_lt (b := w.heap.size + 1 + 1 + 1) HC2.out (by simp)
      go_wp2
      refine bodyPost_ret (v := .tuple #[.agg #[.int .i64 (0), .int .i64 (0)], .int .i64 A]) (by simp [results, Tryd.results30, go_sem, rc0, rc1]) rfl ?_
      exact ⟨by rw [HP.out]; exact ret_rat (onOk_no hA' _).symm (onOk_no hA' _).symm, ((HB2.out).setCell (p := ⟨w.heap.size + 1 + 1 + 1, 0, none⟩) (by simp; try omega) _).setCell (p := ⟨w.heap.size + 1 + 1 + 1, 1, none⟩) (by simp; try omega) _⟩
  · have HS := Lib.hid hs; clear hs
    generalize hG : askH L D R S day h p = A at hA ⊢
    have HG := Lib.hid hG; clear hG
    have hA1 : (A != 0) = true := by rw [bne_iff_ne]; exact hA
    have HP := Lib.hid (show passE A (askH L D R S day' h' p') (momF L D R S day' b' (60 * h' + p') - momF L D R S day b (60 * h + p)) = A by unfold passE; rw [if_pos hA])
    go_enter Tryd.func30, Tryd.ntmps30
    go_wp2_with fail
    refine (asks_any day b h p _ (HS.out.to (by go_grown))).mono ?_
    rintro e w1 ⟨rfl, hb1⟩
    rw [HG.out]
    obtain ⟨hc, hf⟩ := bcell hb1
    have HB := Lib.hid (bjoin (w := w) (by go_grown) hb1)
    have HC := Lib.hid hb1; clear hb1
    have rc0 := keep_cell (b := w.heap.size + 1 + 1 + 1) (o := 0) (v := .int .i64 0) HC.out (by simp) (by simp [go_sem])
    have rf0 := keep_fr (b := w.heap.size + 1 + 1 + 1) (o := 0) HC.out (by simp) (by simp [go_sem])
    have rc1 := keep_cell (b := w.heap.size + 1 + 1 + 1) (o := 1) (v := .int .i64 0) HC.out (by simp) (by simp [go_sem])
    have rf1 := keep_fr (b := w.heap.size + 1 + 1 + 1) (o := 1) HC.out (by simp) (by simp [go_sem])
    have rl := keep_lt (b := w.heap.size + 1 + 1 + 1) HC.out (by simp)
    go_wp2
    refine bodyPost_ret (v := .tuple #[.agg #[.int .i64 (0), .int .i64 (0)], .int .i64 A]) (by simp [results, Tryd.results30, go_sem, rc0, rc1]) rfl ?_
    exact ⟨by rw [HP.out]; exact ret_rat (onOk_no hA _).symm (onOk_no hA _).symm, ((HB.out).setCell (p := ⟨w.heap.size + 1 + 1 + 1, 0, none⟩) (by simp; try omega) _).setCell (p := ⟨w.heap.size + 1 + 1 + 1, 1, none⟩) (by simp; try omega) _⟩

set_option maxHeartbeats 2000000 in
theorem rPassed_any {L : Int} {n1 n2 n3 c1 c2 c3 : Nat} {a1 a2 a3 : Option Addr} {D R S : List Int} (day : Int) (b : Bool) (h p : Int) (day' : Int) (b' : Bool) (h' p' : Int) (w : World) (hs : SeaO w a1 n1 a2 n2 a3 n3 D R S) :
   Calls Tryd.prog 31 #[.agg #[.int .i64 L, .slice a1 n1 c1, .slice a2 n2 c2, .slice a3 n3 c3], .int .i64 day, .agg #[.bool b, .int .i64 h, .int .i64 p], .int .i64 day', .agg #[.bool b', .int .i64 h', .int .i64 p']] w
     fun e w' => e = .returned (.tuple #[.agg #[.int .i64 (onOk (passE (askH L D R S day h p) (askH L D R S day' h' p') (momF L D R S day' b' (60 * h' + p') - momF L D R S day b (60 * h + p))) ((momF L D R S day' b' (60 * h' + p') - momF L D R S day b (60 * h + p)) / 720)), .int .i64 (onOk (passE (askH L D R S day h p) (askH L D R S day' h' p') (momF L D R S day' b' (60 * h' + p') - momF L D R S day b (60 * h + p))) (upF (momF L D R S day' b' (60 * h' + p') - momF L D R S day b (60 * h + p))))], .int .i64 (passE (askH L D R S day h p) (askH L D R S day' h' p') (momF L D R S day' b' (60 * h' + p') - momF L D R S day b (60 * h + p)))]) ∧ Below w.heap.size w w' := by
  rcases askH_or L D R S day h p with ⟨hA, hok, hday, hh, hp⟩ | hA
  · rcases askH_or L D R S day' h' p' with ⟨hA', _, hday', hh', hp'⟩ | hA'
    · obtain ⟨b1, o1, b2, o2, b3, o3, rfl, rfl, rfl, rfl, rfl, hsea⟩ := hs.sea hok
      obtain ⟨_, _, q3, q4⟩ := hok.mom day b (60 * h + p) (by omega) (by omega) (by omega)
      obtain ⟨_, _, q7, q8⟩ := hok.mom day' b' (60 * h' + p') (by omega) (by omega) (by omega)
      have hm1 : 0 ≤ momF L D R S day b (60 * h + p) ∧ momF L D R S day b (60 * h + p) ≤ 30000000000 := by unfold momF; omega
      have hm2 : 0 ≤ momF L D R S day' b' (60 * h' + p') ∧ momF L D R S day' b' (60 * h' + p') ≤ 30000000000 := by unfold momF; omega
      clear q3 q4 q7 q8
      have HS := Lib.hid hs; have HE := Lib.hid hsea; have HO := Lib.hid hok; clear hs hsea hok
      have hw0 := IntWalk.i64_in (momF L D R S day' b' (60 * h' + p') - momF L D R S day b (60 * h + p)) (by omega)
      go_enter Tryd.func31, Tryd.ntmps31
      go_wp2_with fail
      refine (ready_any day b h p _ (HS.out.to (by go_grown))).mono ?_
      rintro e w1 ⟨rfl, hb1⟩
      obtain ⟨hc, hf⟩ := bcell hb1
      have HB := Lib.hid (bjoin (w := w) (by go_grown) hb1)
      have HC := Lib.hid hb1; clear hb1
      go_wp2_with fail
      refine (ready_any day' b' h' p' _ (HS.out.to HB.out)).mono ?_
      rintro e w2 ⟨rfl, hb2⟩
      have HB2 := Lib.hid (bjoin HB.out hb2)
      have HC2 := Lib.hid (bjoin HC.out hb2); clear hb2
      have ql0 := keep_lt (b := w.heap.size) HC2.out (by simp <;> omega)
      have qc0_0 := keep_cell (b := w.heap.size) (o := 0) (v := .int .i64 L) HC2.out (by simp <;> omega) (by simp [go_sem])
      have qc0_1 := keep_cell (b := w.heap.size) (o := 1) (v := .slice (some ⟨b1, o1, none⟩) n3 c1) HC2.out (by simp <;> omega) (by simp [go_sem])
      have qc0_2 := keep_cell (b := w.heap.size) (o := 2) (v := .slice (some ⟨b2, o2, none⟩) n3 c2) HC2.out (by simp <;> omega) (by simp [go_sem])
      have qc0_3 := keep_cell (b := w.heap.size) (o := 3) (v := .slice (some ⟨b3, o3, none⟩) n3 c3) HC2.out (by simp <;> omega) (by simp [go_sem])
      have ql1 := keep_lt (b := w.heap.size + 1) HC2.out (by simp <;> omega)
      have qc1_0 := keep_cell (b := w.heap.size + 1) (o := 0) (v := .bool b) HC2.out (by simp <;> omega) (by simp [go_sem])
      have qc1_1 := keep_cell (b := w.heap.size + 1) (o := 1) (v := .int .i64 h) HC2.out (by simp <;> omega) (by simp [go_sem])
      have qc1_2 := keep_cell (b := w.heap.size + 1) (o := 2) (v := .int .i64 p) HC2.out (by simp <;> omega) (by simp [go_sem])
      have ql2 := keep_lt (b := w.heap.size + 1 + 1) HC2.out (by simp <;> omega)
      have qc2_0 := keep_cell (b := w.heap.size + 1 + 1) (o := 0) (v := .bool b') HC2.out (by simp <;> omega) (by simp [go_sem])
      have qc2_1 := keep_cell (b := w.heap.size + 1 + 1) (o := 1) (v := .int .i64 h') HC2.out (by simp <;> omega) (by simp [go_sem])
      have qc2_2 := keep_cell (b := w.heap.size + 1 + 1) (o := 2) (v := .int .i64 p') HC2.out (by simp <;> omega) (by simp [go_sem])
      have HQ := Lib.hid (show ∀ W', Below w2.heap.size w2 W' → W'.cell? ⟨w.heap.size, 0, none⟩ = some (.int .i64 L) ∧ W'.cell? ⟨w.heap.size, 1, none⟩ = some (.slice (some ⟨b1, o1, none⟩) n3 c1) ∧ W'.cell? ⟨w.heap.size, 2, none⟩ = some (.slice (some ⟨b2, o2, none⟩) n3 c2) ∧ W'.cell? ⟨w.heap.size, 3, none⟩ = some (.slice (some ⟨b3, o3, none⟩) n3 c3) ∧ W'.cell? ⟨w.heap.size + 1, 0, none⟩ = some (.bool b) ∧ W'.cell? ⟨w.heap.size + 1, 1, none⟩ = some (.int .i64 h) ∧ W'.cell? ⟨w.heap.size + 1, 2, none⟩ = some (.int .i64 p) ∧ W'.cell? ⟨w.heap.size + 1 + 1, 0, none⟩ = some (.bool b') ∧ W'.cell? ⟨w.heap.size + 1 + 1, 1, none⟩ = some (.int .i64 h') ∧ W'.cell? ⟨w.heap.size + 1 + 1, 2, none⟩ = some (.int .i64 p') ∧ Below w2.heap.size w2 W' from fun W' hBW => ⟨keep_cell hBW ql0 qc0_0, keep_cell hBW ql0 qc0_1, keep_cell hBW ql0 qc0_2, keep_cell hBW ql0 qc0_3, keep_cell hBW ql1 qc1_0, keep_cell hBW ql1 qc1_1, keep_cell hBW ql1 qc1_2, keep_cell hBW ql2 qc2_0, keep_cell hBW ql2 qc2_1, keep_cell hBW ql2 qc2_2, hBW⟩)
      go_wp2
      go_region_held3 (fun W' => W'.cell? ⟨w.heap.size, 0, none⟩ = some (.int .i64 L) ∧ W'.cell? ⟨w.heap.size, 1, none⟩ = some (.slice (some ⟨b1, o1, none⟩) n3 c1) ∧ W'.cell? ⟨w.heap.size, 2, none⟩ = some (.slice (some ⟨b2, o2, none⟩) n3 c2) ∧ W'.cell? ⟨w.heap.size, 3, none⟩ = some (.slice (some ⟨b3, o3, none⟩) n3 c3) ∧ W'.cell? ⟨w.heap.size + 1, 0, none⟩ = some (.bool b) ∧ W'.cell? ⟨w.heap.size + 1, 1, none⟩ = some (.int .i64 h) ∧ W'.cell? ⟨w.heap.size + 1, 2, none⟩ = some (.int .i64 p) ∧ W'.cell? ⟨w.heap.size + 1 + 1, 0, none⟩ = some (.bool b') ∧ W'.cell? ⟨w.heap.size + 1 + 1, 1, none⟩ = some (.int .i64 h') ∧ W'.cell? ⟨w.heap.size + 1 + 1, 2, none⟩ = some (.int .i64 p') ∧ Below w2.heap.size w2 W') ((refine HQ.out _ ?_; first | exact (Below.refl _ _).drew | assumption)) (first | (go_at_call 86; obtain ⟨_, _, _, _, _, _, _, _, _, _, hBW⟩ := ‹_ ∧ _ ∧ _ ∧ _ ∧ _ ∧ _ ∧ _ ∧ _ ∧ _ ∧ _ ∧ Below w2.heap.size w2 _›; first | ((with_reducible refine (rMoment_any day b h p _ (HE.out.to (bjoin HB2.out hBW)) HO.out (by omega) (by omega) hh hp).mono ?_); rintro e wn ⟨rfl, hbn⟩; have hBN := bjoin hBW hbn) | ((with_reducible refine (rMoment_any day' b' h' p' _ (HE.out.to (bjoin HB2.out hBW)) HO.out (by omega) (by omega) hh' hp').mono ?_); rintro e wn ⟨rfl, hbn⟩; have hBN := bjoin hBW hbn)))
      obtain ⟨_, _, _, _, _, _, _, _, _, _, hBW⟩ := ‹_ ∧ _ ∧ _ ∧ _ ∧ _ ∧ _ ∧ _ ∧ _ ∧ _ ∧ _ ∧ Below w2.heap.size w2 _›
      have HZ := Lib.hid hBW; clear hBW
      have hw0 := IntWalk.i64_in (momF L D R S day' b' (60 * h' + p') - momF L D R S day b (60 * h + p)) (by omega)
      have HC3 := Lib.hid (bjoin HC2.out HZ.out)
      have HB3 := Lib.hid (bjoin HB2.out HZ.out)
      have rc0 := keep_cell (b := w.heap.size + 1 + 1 + 1) (o := 0) (v := .int .i64 0) HC3.out (by simp) (by simp [go_sem])
      have rf0 := keep_fr (b := w.heap.size + 1 + 1 + 1) (o := 0) HC3.out (by simp) (by simp [go_sem])
      have rc1 := keep_cell (b := w.heap.size + 1 + 1 + 1) (o := 1) (v := .int .i64 0) HC3.out (by simp) (by simp [go_sem])
      have rf1 := keep_fr (b := w.heap.size + 1 + 1 + 1) (o := 1) HC3.out (by simp) (by simp [go_sem])
      have rl := keep_lt (b := w.heap.size + 1 + 1 + 1) HC3.out (by simp)
      by_cases hneg : momF L D R S day' b' (60 * h' + p') - momF L D R S day b (60 * h + p) < 0
      · have HP := Lib.hid (show passE 0 0 (momF L D R S day' b' (60 * h' + p') - momF L D R S day b (60 * h + p)) = 4 by unfold passE; rw [if_neg (by decide), if_neg (by decide), if_pos hneg])
        generalize hXX2 : momF L D R S day' b' (60 * h' + p') = X2 at *
        have HX2 := Lib.hid hXX2; clear hXX2
        generalize hXX1 : momF L D R S day b (60 * h + p) = X1 at *
        have HX1 := Lib.hid hXX1; clear hXX1
        go_wp2
        refine bodyPost_ret (v := .tuple #[.agg #[.int .i64 (0), .int .i64 (0)], .int .i64 4]) (by simp [results, Tryd.results31, go_sem, rc0, rc1]) rfl ?_
        exact ⟨by simp only [hA, hA', HX2.out, HX1.out, HP.out]; exact ret_rat (onOk_no (by decide) _).symm (onOk_no (by decide) _).symm, ((HB3.out).setCell (p := ⟨w.heap.size + 1 + 1 + 1, 0, none⟩) (by simp; try omega) _).setCell (p := ⟨w.heap.size + 1 + 1 + 1, 1, none⟩) (by simp; try omega) _⟩
      · have HP := Lib.hid (show passE 0 0 (momF L D R S day' b' (60 * h' + p') - momF L D R S day b (60 * h + p)) = 0 by unfold passE; rw [if_neg (by decide), if_neg (by decide), if_neg hneg])
        generalize hXX2 : momF L D R S day' b' (60 * h' + p') = X2 at *
        have HX2 := Lib.hid hXX2; clear hXX2
        generalize hXX1 : momF L D R S day b (60 * h + p) = X1 at *
        have HX1 := Lib.hid hXX1; clear hXX1
        have hup : upF (X2 - X1) = (X2 - X1 + 720 - 1) / 720 := by unfold upF; congr 1; omega
        have HUP := Lib.hid hup; clear hup
        go_wp2_with (go_at_call 87; refine (up_any _ _ (by omega)).mono ?_; rintro e w4 ⟨rfl, rfl⟩)
        refine bodyPost_ret (v := .tuple #[.agg #[.int .i64 ((X2 - X1) / 720), .int .i64 (upF (X2 - X1))], .int .i64 0]) (by simp [results, Tryd.results31, go_sem, rc0, rc1]) rfl ?_
        exact ⟨by simp only [hA, hA', HX2.out, HX1.out, HP.out]; exact ret_rat (onOk_ok _).symm (onOk_ok _).symm, ((HB3.out).setCell (p := ⟨w.heap.size + 1 + 1 + 1, 0, none⟩) (by simp; try omega) _).setCell (p := ⟨w.heap.size + 1 + 1 + 1, 1, none⟩) (by simp; try omega) _⟩
    · have HS := Lib.hid hs; clear hs
      generalize hG : askH L D R S day' h' p' = A at hA' ⊢
      have HG := Lib.hid hG; clear hG
      have hA1 : (A != 0) = true := by rw [bne_iff_ne]; exact hA'
      have HP := Lib.hid (show passE (askH L D R S day h p) A (momF L D R S day' b' (60 * h' + p') - momF L D R S day b (60 * h + p)) = A by unfold passE; rw [hA, if_neg (by decide), if_pos hA'])
      go_enter Tryd.func31, Tryd.ntmps31
      go_wp2_with fail
      refine (ready_any day b h p _ (HS.out.to (by go_grown))).mono ?_
      rintro e w1 ⟨rfl, hb1⟩
      obtain ⟨hc, hf⟩ := bcell hb1
      have HB := Lib.hid (bjoin (w := w) (by go_grown) hb1)
      have HC := Lib.hid hb1; clear hb1
      go_wp2_with fail
      refine (ready_any day' b' h' p' _ (HS.out.to HB.out)).mono ?_
      rintro e w2 ⟨rfl, hb2⟩
      rw [HG.out]
      have HB2 := Lib.hid (bjoin HB.out hb2)
      have HC2 := Lib.hid (bjoin HC.out hb2); clear hb2
      have rc0 := keep_cell (b := w.heap.size + 1 + 1 + 1) (o := 0) (v := .int .i64 0) HC2.out (by simp) (by simp [go_sem])
      have rf0 := keep_fr (b := w.heap.size + 1 + 1 + 1) (o := 0) HC2.out (by simp) (by simp [go_sem])
      have rc1 := keep_cell (b := w.heap.size + 1 + 1 + 1) (o := 1) (v := .int .i64 0) HC2.out (by simp) (by simp [go_sem])
      have rf1 := keep_fr (b := w.heap.size + 1 + 1 + 1) (o := 1) HC2.out (by simp) (by simp [go_sem])
      have rl := keep_lt (b := w.heap.size + 1 + 1 + 1) HC2.out (by simp)
      go_wp2
      refine bodyPost_ret (v := .tuple #[.agg #[.int .i64 (0), .int .i64 (0)], .int .i64 A]) (by simp [results, Tryd.results31, go_sem, rc0, rc1]) rfl ?_
      exact ⟨by rw [HP.out]; exact ret_rat (onOk_no hA' _).symm (onOk_no hA' _).symm, ((HB2.out).setCell (p := ⟨w.heap.size + 1 + 1 + 1, 0, none⟩) (by simp; try omega) _).setCell (p := ⟨w.heap.size + 1 + 1 + 1, 1, none⟩) (by simp; try omega) _⟩
  · have HS := Lib.hid hs; clear hs
    generalize hG : askH L D R S day h p = A at hA ⊢
    have HG := Lib.hid hG; clear hG
    have hA1 : (A != 0) = true := by rw [bne_iff_ne]; exact hA
    have HP := Lib.hid (show passE A (askH L D R S day' h' p') (momF L D R S day' b' (60 * h' + p') - momF L D R S day b (60 * h + p)) = A by unfold passE; rw [if_pos hA])
    go_enter Tryd.func31, Tryd.ntmps31
    go_wp2_with fail
    refine (ready_any day b h p _ (HS.out.to (by go_grown))).mono ?_
    rintro e w1 ⟨rfl, hb1⟩
    rw [HG.out]
    obtain ⟨hc, hf⟩ := bcell hb1
    have HB := Lib.hid (bjoin (w := w) (by go_grown) hb1)
    have HC := Lib.hid hb1; clear hb1
    have rc0 := keep_cell (b := w.heap.size + 1 + 1 + 1) (o := 0) (v := .int .i64 0) HC.out (by simp) (by simp [go_sem])
    have rf0 := keep_fr (b := w.heap.size + 1 + 1 + 1) (o := 0) HC.out (by simp) (by simp [go_sem])
    have rc1 := keep_cell (b := w.heap.size + 1 + 1 + 1) (o := 1) (v := .int .i64 0) HC.out (by simp) (by simp [go_sem])
    have rf1 := keep_fr (b := w.heap.size + 1 + 1 + 1) (o := 1) HC.out (by simp) (by simp [go_sem])
    have rl := keep_lt (b := w.heap.size + 1 + 1 + 1) HC.out (by simp)
    go_wp2
    refine bodyPost_ret (v := .tuple #[.agg #[.int .i64 (0), .int .i64 (0)], .int .i64 A]) (by simp [results, Tryd.results31, go_sem, rc0, rc1]) rfl ?_
    exact ⟨by rw [HP.out]; exact ret_rat (onOk_no hA _).symm (onOk_no hA _).symm, ((HB.out).setCell (p := ⟨w.heap.size + 1 + 1 + 1, 0, none⟩) (by simp; try omega) _).setCell (p := ⟨w.heap.size + 1 + 1 + 1, 1, none⟩) (by simp; try omega) _⟩
end Go.Proofs.YtomlfliebolkmaaDoor
