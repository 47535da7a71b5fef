/-
  Length, First and Exact, in the program and in the reference, by contract. No condition beyond what each states.
-/
import Derived.Test.YtomlfliebolkmaaDoorWG
namespace Go.Proofs.YtomlfliebolkmaaDoor
open Go Go.Proofs Go.RowKit Pl

theorem keep_cell {W0 w1 : World} {b o : Nat} {v : Value} (hb : Below W0.heap.size W0 w1) (hlt : b < W0.heap.size) (h : W0.cell? ⟨b, o, none⟩ = some v) : w1.cell? ⟨b, o, none⟩ = some v :=
  ((bcell hb).1 _ _ hlt).trans h
theorem keep_fr {W0 w1 : World} {b o : Nat} (hb : Below W0.heap.size W0 w1) (hlt : b < W0.heap.size) (h : W0.frozen? ⟨b, o, none⟩ = false) : w1.frozen? ⟨b, o, none⟩ = false :=
  ((bcell hb).2 _ _ hlt).trans h
theorem keep_lt {W0 w1 : World} {b : Nat} (hb : Below W0.heap.size W0 w1) (hlt : b < W0.heap.size) : b < w1.heap.size := Nat.lt_of_lt_of_le hlt hb.size

set_option maxHeartbeats 1000000 in
theorem Length_any {L : Int} {n1 n2 n3 c1 c2 c3 : Nat} {a1 a2 a3 : Option Addr} {D R S : List Int} (day : Int) (night : Bool) (w : World) (hs : SeaO w a1 n1 a2 n2 a3 n3 D R S) :
   Calls Tryd.prog 24 #[.agg #[.int .i64 L, .slice a1 n1 c1, .slice a2 n2 c2, .slice a3 n3 c3], .int .i64 day, .bool night] w
     fun e w' => e = .returned (.tuple #[.agg #[.int .i64 (onOk (askH L D R S day 0 0) (lastF L D R S day night / gF (lastF L D R S day night) 12)), .int .i64 (onOk (askH L D R S day 0 0) (12 / gF (lastF L D R S day night) 12))], .int .i64 (askH L D R S day 0 0)]) ∧ Below w.heap.size w w' := by
  rcases askH_or L D R S day 0 0 with ⟨hA, hok, hday, hh, hp⟩ | hA
  · obtain ⟨b1, o1, b2, o2, b3, o3, rfl, rfl, rfl, rfl, rfl, hsea⟩ := hs.sea hok
    have HS := Lib.hid hs; have HE := Lib.hid hsea; have HO := Lib.hid hok; clear hs hsea hok
    have hl := HO.out.last day night
    go_enter Tryd.func24, Tryd.ntmps24
    go_wp2_with fail
    refine (asked_any day _ (HS.out.to (by go_grown)) (lst_one _ _ _ _ _ (by simp))).mono ?_
    rintro e w1 ⟨rfl, hb1⟩
    obtain ⟨hc, hf⟩ := bcell hb1
    have HB := Lib.hid (bjoin (w := w) (by go_grown) hb1)
    have HC := Lib.hid hb1; clear hb1
    go_wp2_with fail
    refine (span_any day night _ (HE.out.to HB.out) HO.out (by omega) (by omega)).mono ?_
    rintro e w2 ⟨rfl, hb2⟩
    obtain ⟨hc1, hf1⟩ := bcell hb2
    have HB1 := Lib.hid (bjoin HB.out hb2)
    have HC1 := Lib.hid (bjoin HC.out hb2); clear hb2
    have hsub : begF L D R S day night + lastF L D R S day night - begF L D R S day night = lastF L D R S day night := by omega
    have hm := HO.out.mom day night 0 (by omega) (by omega) (by omega)
    generalize begF L D R S day night = B0 at *
    go_wp2_with fail
    refine (lowest_any _ _ _ (by omega) (by omega)).mono ?_
    rintro e w3 ⟨rfl, hb3⟩
    obtain ⟨hc2, hf2⟩ := bcell hb3
    have HB2 := Lib.hid (bjoin HB1.out hb3)
    have HC2 := Lib.hid (bjoin HC1.out hb3); clear hb3
    have rc0 := keep_cell (b := w.heap.size + 1) (o := 0) (v := .int .i64 0) HC2.out (by simp) (by simp [go_sem])
    have rf0 := keep_fr (b := w.heap.size + 1) (o := 0) HC2.out (by simp) (by simp [go_sem])
    have rc1 := keep_cell (b := w.heap.size + 1) (o := 1) (v := .int .i64 0) HC2.out (by simp) (by simp [go_sem])
    have rf1 := keep_fr (b := w.heap.size + 1) (o := 1) HC2.out (by simp) (by simp [go_sem])
    have rl := keep_lt (b := w.heap.size + 1) HC2.out (by simp)
    go_wp2
    refine bodyPost_ret (v := .tuple #[.agg #[.int .i64 (lastF L D R S day night / gF (lastF L D R S day night) 12), .int .i64 (12 / gF (lastF L D R S day night) 12)], .int .i64 0]) (by simp [results, Tryd.results24, go_sem, rc0, rc1]) rfl ?_
    exact ⟨by rw [hA]; exact ret_rat (onOk_ok _).symm (onOk_ok _).symm, ((HB2.out).setCell (p := ⟨w.heap.size + 1, 0, none⟩) (by simp; try omega) _).setCell (p := ⟨w.heap.size + 1, 1, none⟩) (by simp; try omega) _⟩
  · have HS := Lib.hid hs; clear hs
    generalize hG : askH L D R S day 0 0 = A at hA ⊢
    have HG := Lib.hid hG; clear hG
    have hA1 : (A != 0) = true := by rw [bne_iff_ne]; exact hA
    go_enter Tryd.func24, Tryd.ntmps24
    go_wp2_with fail
    refine (asked_any day _ (HS.out.to (by go_grown)) (lst_one _ _ _ _ _ (by simp))).mono ?_
    rintro e w1 ⟨rfl, hb1⟩
    rw [HG.out]
    obtain ⟨hc, hf⟩ := bcell hb1
    have HB := Lib.hid (bjoin (w := w) (by go_grown) hb1)
    have HC := Lib.hid hb1; clear hb1
    have rc0 := keep_cell (b := w.heap.size + 1) (o := 0) (v := .int .i64 0) HC.out (by simp) (by simp [go_sem])
    have rf0 := keep_fr (b := w.heap.size + 1) (o := 0) HC.out (by simp) (by simp [go_sem])
    have rc1 := keep_cell (b := w.heap.size + 1) (o := 1) (v := .int .i64 0) HC.out (by simp) (by simp [go_sem])
    have rf1 := keep_fr (b := w.heap.size + 1) (o := 1) HC.out (by simp) (by simp [go_sem])
    have rl := keep_lt (b := w.heap.size + 1) HC.out (by simp)
    go_wp2
    refine bodyPost_ret (v := .tuple #[.agg #[.int .i64 0, .int .i64 0], .int .i64 A]) (by simp [results, Tryd.results24, go_sem, rc0, rc1]) rfl ?_
    exact ⟨ret_rat (onOk_no hA _).symm (onOk_no hA _).symm, ((HB.out).setCell (p := ⟨w.heap.size + 1, 0, none⟩) (by simp; try omega) _).setCell (p := ⟨w.heap.size + 1, 1, none⟩) (by simp; try omega) _⟩

set_option maxHeartbeats 1000000 in
theorem rLength_any {L : Int} {n1 n2 n3 c1 c2 c3 : Nat} {a1 a2 a3 : Option Addr} {D R S : List Int} (day : Int) (night : Bool) (w : World) (hs : SeaO w a1 n1 a2 n2 a3 n3 D R S) :
   Calls Tryd.prog 25 #[.agg #[.int .i64 L, .slice a1 n1 c1, .slice a2 n2 c2, .slice a3 n3 c3], .int .i64 day, .bool night] w
     fun e w' => e = .returned (.tuple #[.agg #[.int .i64 (onOk (askH L D R S day 0 0) (lastF L D R S day night / gF (lastF L D R S day night) 12)), .int .i64 (onOk (askH L D R S day 0 0) (12 / gF (lastF L D R S day night) 12))], .int .i64 (askH L D R S day 0 0)]) ∧ Below w.heap.size w w' := by
  rcases askH_or L D R S day 0 0 with ⟨hA, hok, hday, hh, hp⟩ | hA
  · obtain ⟨b1, o1, b2, o2, b3, o3, rfl, rfl, rfl, rfl, rfl, hsea⟩ := hs.sea hok
    have HS := Lib.hid hs; have HE := Lib.hid hsea; have HO := Lib.hid hok; clear hs hsea hok
    have hl := HO.out.last day night
    go_enter Tryd.func25, Tryd.ntmps25
    go_wp2_with fail
    refine (ready_any day false 0 0 _ (HS.out.to (by go_grown))).mono ?_
    rintro e w1 ⟨rfl, hb1⟩
    obtain ⟨hc, hf⟩ := bcell hb1
    have HB := Lib.hid (bjoin (w := w) (by go_grown) hb1)
    have HC := Lib.hid hb1; clear hb1
    go_wp2_with fail
    refine (lasts_any day night _ (HE.out.to HB.out) HO.out (by omega) (by omega)).mono ?_
    rintro e w2 ⟨rfl, hb2⟩
    obtain ⟨hc1, hf1⟩ := bcell hb2
    have HB1 := Lib.hid (bjoin HB.out hb2)
    have HC1 := Lib.hid (bjoin HC.out hb2); clear hb2
    go_wp2_with fail
    refine (rlowest_any _ _ _ (by omega) (by omega)).mono ?_
    rintro e w3 ⟨rfl, hb3⟩
    obtain ⟨hc2, hf2⟩ := bcell hb3
    have HB2 := Lib.hid (bjoin HB1.out hb3)
    have HC2 := Lib.hid (bjoin HC1.out hb3); clear hb3
    have rc0 := keep_cell (b := w.heap.size + 1) (o := 0) (v := .int .i64 0) HC2.out (by simp) (by simp [go_sem])
    have rf0 := keep_fr (b := w.heap.size + 1) (o := 0) HC2.out (by simp) (by simp [go_sem])
    have rc1 := keep_cell (b := w.heap.size + 1) (o := 1) (v := .int .i64 0) HC2.out (by simp) (by simp [go_sem])
    have rf1 := keep_fr (b := w.heap.size + 1) (o := 1) HC2.out (by simp) (by simp [go_sem])
    have rl := keep_lt (b := w.heap.size + 1) HC2.out (by simp)
    go_wp2
    refine bodyPost_ret (v := .tuple #[.agg #[.int .i64 (lastF L D R S day night / gF (lastF L D R S day night) 12), .int .i64 (12 / gF (lastF L D R S day night) 12)], .int .i64 0]) (by simp [results, Tryd.results25, go_sem, rc0, rc1]) rfl ?_
    exact ⟨by rw [hA]; exact ret_rat (onOk_ok _).symm (onOk_ok _).symm, ((HB2.out).setCell (p := ⟨w.heap.size + 1, 0, none⟩) (by simp; try omega) _).setCell (p := ⟨w.heap.size + 1, 1, none⟩) (by simp; try omega) _⟩
  · have HS := Lib.hid hs; clear hs
    generalize hG : askH L D R S day 0 0 = A at hA ⊢
    have HG := Lib.hid hG; clear hG
    have hA1 : (A != 0) = true := by rw [bne_iff_ne]; exact hA
    go_enter Tryd.func25, Tryd.ntmps25
    go_wp2_with fail
    refine (ready_any day false 0 0 _ (HS.out.to (by go_grown))).mono ?_
    rintro e w1 ⟨rfl, hb1⟩
    rw [HG.out]
    obtain ⟨hc, hf⟩ := bcell hb1
    have HB := Lib.hid (bjoin (w := w) (by go_grown) hb1)
    have HC := Lib.hid hb1; clear hb1
    have rc0 := keep_cell (b := w.heap.size + 1) (o := 0) (v := .int .i64 0) HC.out (by simp) (by simp [go_sem])
    have rf0 := keep_fr (b := w.heap.size + 1) (o := 0) HC.out (by simp) (by simp [go_sem])
    have rc1 := keep_cell (b := w.heap.size + 1) (o := 1) (v := .int .i64 0) HC.out (by simp) (by simp [go_sem])
    have rf1 := keep_fr (b := w.heap.size + 1) (o := 1) HC.out (by simp) (by simp [go_sem])
    have rl := keep_lt (b := w.heap.size + 1) HC.out (by simp)
    go_wp2
    refine bodyPost_ret (v := .tuple #[.agg #[.int .i64 0, .int .i64 0], .int .i64 A]) (by simp [results, Tryd.results25, go_sem, rc0, rc1]) rfl ?_
    exact ⟨ret_rat (onOk_no hA _).symm (onOk_no hA _).symm, ((HB.out).setCell (p := ⟨w.heap.size + 1, 0, none⟩) (by simp; try omega) _).setCell (p := ⟨w.heap.size + 1, 1, none⟩) (by simp; try omega) _⟩

set_option maxHeartbeats 1000000 in
theorem First_any {L : Int} {n1 n2 n3 c1 c2 c3 : Nat} {a1 a2 a3 : Option Addr} {D R S : List Int} (day : Int) (b : Bool) (h p : Int) (w : World) (hs : SeaO w a1 n1 a2 n2 a3 n3 D R S) :
   Calls Tryd.prog 54 #[.agg #[.int .i64 L, .slice a1 n1 c1, .slice a2 n2 c2, .slice a3 n3 c3], .int .i64 day, .agg #[.bool b, .int .i64 h, .int .i64 p]] w
     fun e w' => e = .returned (.tuple #[.int .i64 (onOk (askH L D R S day h p) (upF (momF L D R S day b (60 * h + p)))), .int .i64 (askH L D R S day h p)]) ∧ Below w.heap.size w w' := by
  rcases askH_or L D R S day h p with ⟨hA, hok, hday, hh, hp⟩ | hA
  · obtain ⟨b1, o1, b2, o2, b3, o3, rfl, rfl, rfl, rfl, rfl, hsea⟩ := hs.sea hok
    have HS := Lib.hid hs; have HE := Lib.hid hsea; have HO := Lib.hid hok; clear hs hsea hok
    obtain ⟨q1, q2, q3, q4⟩ := HO.out.mom day b (60 * h + p) (by omega) (by omega) (by omega)
    have hm : 0 ≤ momF L D R S day b (60 * h + p) ∧ momF L D R S day b (60 * h + p) ≤ 30000000000 := by unfold momF; omega
    clear q1 q2 q3 q4
    go_enter Tryd.func54, Tryd.ntmps54
    go_wp2_with fail
    refine (asks_any day b h p _ (HS.out.to (by go_grown))).mono ?_
    rintro e w1 ⟨rfl, hb1⟩
    obtain ⟨hc, hf⟩ := bcell hb1
    have HB := Lib.hid (bjoin (w := w) (by go_grown) hb1)
    have HC := Lib.hid hb1; clear hb1
    go_wp2_with fail
    refine (first_any day b h p _ (HE.out.to HB.out) HO.out (by omega) (by omega) hh hp).mono ?_
    rintro e w2 ⟨rfl, hb2⟩
    obtain ⟨hc1, hf1⟩ := bcell hb2
    have HB1 := Lib.hid (bjoin HB.out hb2)
    have HC1 := Lib.hid (bjoin HC.out hb2); clear hb2
    go_wp2
    go_ret2
    exact ⟨by rw [hA]; exact ret_pair (onOk_ok _).symm, HB1.out⟩
  · have HS := Lib.hid hs; clear hs
    generalize hG : askH L D R S day h p = A at hA ⊢
    have HG := Lib.hid hG; clear hG
    have hA1 : (A != 0) = true := by rw [bne_iff_ne]; exact hA
    go_enter Tryd.func54, Tryd.ntmps54
    go_wp2_with fail
    refine (asks_any day b h p _ (HS.out.to (by go_grown))).mono ?_
    rintro e w1 ⟨rfl, hb1⟩
    rw [HG.out]
    obtain ⟨hc, hf⟩ := bcell hb1
    have HB := Lib.hid (bjoin (w := w) (by go_grown) hb1)
    have HC := Lib.hid hb1; clear hb1
    go_wp2
    go_ret2
    exact ⟨ret_pair (onOk_no hA _).symm, HB.out⟩

set_option maxHeartbeats 1000000 in
theorem rFirst_any {L : Int} {n1 n2 n3 c1 c2 c3 : Nat} {a1 a2 a3 : Option Addr} {D R S : List Int} (day : Int) (b : Bool) (h p : Int) (w : World) (hs : SeaO w a1 n1 a2 n2 a3 n3 D R S) :
   Calls Tryd.prog 62 #[.agg #[.int .i64 L, .slice a1 n1 c1, .slice a2 n2 c2, .slice a3 n3 c3], .int .i64 day, .agg #[.bool b, .int .i64 h, .int .i64 p]] w
     fun e w' => e = .returned (.tuple #[.int .i64 (onOk (askH L D R S day h p) (upF (momF L D R S day b (60 * h + p)))), .int .i64 (askH L D R S day h p)]) ∧ Below w.heap.size w w' := by
  rcases askH_or L D R S day h p with ⟨hA, hok, hday, hh, hp⟩ | hA
  · obtain ⟨b1, o1, b2, o2, b3, o3, rfl, rfl, rfl, rfl, rfl, hsea⟩ := hs.sea hok
    have HS := Lib.hid hs; have HE := Lib.hid hsea; have HO := Lib.hid hok; clear hs hsea hok
    obtain ⟨q1, q2, q3, q4⟩ := HO.out.mom day b (60 * h + p) (by omega) (by omega) (by omega)
    have hm : 0 ≤ momF L D R S day b (60 * h + p) ∧ momF L D R S day b (60 * h + p) ≤ 30000000000 := by unfold momF; omega
    clear q1 q2 q3 q4
    go_enter Tryd.func62, Tryd.ntmps62
    go_wp2_with fail
    refine (ready_any day b h p _ (HS.out.to (by go_grown))).mono ?_
    rintro e w1 ⟨rfl, hb1⟩
    obtain ⟨hc, hf⟩ := bcell hb1
    have HB := Lib.hid (bjoin (w := w) (by go_grown) hb1)
    have HC := Lib.hid hb1; clear hb1
    go_wp2_with fail
    refine (rMoment_any day b h p _ (HE.out.to HB.out) HO.out (by omega) (by omega) hh hp).mono ?_
    rintro e w2 ⟨rfl, hb2⟩
    obtain ⟨hc1, hf1⟩ := bcell hb2
    have HB1 := Lib.hid (bjoin HB.out hb2)
    have HC1 := Lib.hid (bjoin HC.out hb2); clear hb2
    go_wp2_with fail
    refine (up_any _ _ hm).mono ?_
    rintro e w3 ⟨rfl, rfl⟩
    go_wp2
    go_ret2
    exact ⟨by rw [hA]; exact ret_pair (onOk_ok _).symm, HB1.out⟩
  · have HS := Lib.hid hs; clear hs
    generalize hG : askH L D R S day h p = A at hA ⊢
    have HG := Lib.hid hG; clear hG
    have hA1 : (A != 0) = true := by rw [bne_iff_ne]; exact hA
    go_enter Tryd.func62, Tryd.ntmps62
    go_wp2_with fail
    refine (ready_any day b h p _ (HS.out.to (by go_grown))).mono ?_
    rintro e w1 ⟨rfl, hb1⟩
    rw [HG.out]
    obtain ⟨hc, hf⟩ := bcell hb1
    have HB := Lib.hid (bjoin (w := w) (by go_grown) hb1)
    have HC := Lib.hid hb1; clear hb1
    go_wp2
    go_ret2
    exact ⟨ret_pair (onOk_no hA _).symm, HB.out⟩

set_option maxHeartbeats 1000000 in
theorem Exact_any {L : Int} {n1 n2 n3 c1 c2 c3 : Nat} {a1 a2 a3 : Option Addr} {D R S : List Int} (day : Int) (b : Bool) (h p : Int) (w : World) (hs : SeaO w a1 n1 a2 n2 a3 n3 D R S) :
   Calls Tryd.prog 60 #[.agg #[.int .i64 L, .slice a1 n1 c1, .slice a2 n2 c2, .slice a3 n3 c3], .int .i64 day, .agg #[.bool b, .int .i64 h, .int .i64 p]] w
     fun e w' => e = .returned (.tuple #[.agg #[.int .i64 (onOk (askH L D R S day h p) (momF L D R S day b (60 * h + p) / gF (momF L D R S day b (60 * h + p)) 720)), .int .i64 (onOk (askH L D R S day h p) (720 / gF (momF L D R S day b (60 * h + p)) 720))], .int .i64 (askH L D R S day h p)]) ∧ Below w.heap.size w w' := by
  rcases askH_or L D R S day h p with ⟨hA, hok, hday, hh, hp⟩ | hA
  · obtain ⟨b1, o1, b2, o2, b3, o3, rfl, rfl, rfl, rfl, rfl, hsea⟩ := hs.sea hok
    have HS := Lib.hid hs; have HE := Lib.hid hsea; have HO := Lib.hid hok; clear hs hsea hok
    obtain ⟨q1, q2, q3, q4⟩ := HO.out.mom day b (60 * h + p) (by omega) (by omega) (by omega)
    have hm : 0 ≤ momF L D R S day b (60 * h + p) ∧ momF L D R S day b (60 * h + p) ≤ 30000000000 := by unfold momF; omega
    clear q1 q2 q3 q4
    go_enter Tryd.func60, Tryd.ntmps60
    go_wp2_with fail
    refine (asks_any day b h p _ (HS.out.to (by go_grown))).mono ?_
    rintro e w1 ⟨rfl, hb1⟩
    obtain ⟨hc, hf⟩ := bcell hb1
    have HB := Lib.hid (bjoin (w := w) (by go_grown) hb1)
    have HC := Lib.hid hb1; clear hb1
    go_wp2_with fail
    refine (moment_any day b h p _ (HE.out.to HB.out) HO.out (by omega) (by omega) hh hp).mono ?_
    rintro e w2 ⟨rfl, hb2⟩
    obtain ⟨hc1, hf1⟩ := bcell hb2
    have HB1 := Lib.hid (bjoin HB.out hb2)
    have HC1 := Lib.hid (bjoin HC.out hb2); clear hb2
    go_wp2_with fail
    refine (lowest_any _ _ _ (by omega) (by omega)).mono ?_
    rintro e w3 ⟨rfl, hb3⟩
    obtain ⟨hc2, hf2⟩ := bcell hb3
    have HB2 := Lib.hid (bjoin HB1.out hb3)
    have HC2 := Lib.hid (bjoin HC1.out hb3); clear hb3
    have rc0 := keep_cell (b := w.heap.size + 1 + 1) (o := 0) (v := .int .i64 0) HC2.out (by simp) (by simp [go_sem])
    have rf0 := keep_fr (b := w.heap.size + 1 + 1) (o := 0) HC2.out (by simp) (by simp [go_sem])
    have rc1 := keep_cell (b := w.heap.size + 1 + 1) (o := 1) (v := .int .i64 0) HC2.out (by simp) (by simp [go_sem])
    have rf1 := keep_fr (b := w.heap.size + 1 + 1) (o := 1) HC2.out (by simp) (by simp [go_sem])
    have rl := keep_lt (b := w.heap.size + 1 + 1) HC2.out (by simp)
    go_wp2
    refine bodyPost_ret (v := .tuple #[.agg #[.int .i64 (momF L D R S day b (60 * h + p) / gF (momF L D R S day b (60 * h + p)) 720), .int .i64 (720 / gF (momF L D R S day b (60 * h + p)) 720)], .int .i64 0]) (by simp [results, Tryd.results60, go_sem, rc0, rc1]) rfl ?_
    exact ⟨by rw [hA]; exact ret_rat (onOk_ok _).symm (onOk_ok _).symm, ((HB2.out).setCell (p := ⟨w.heap.size + 1 + 1, 0, none⟩) (by simp; try omega) _).setCell (p := ⟨w.heap.size + 1 + 1, 1, none⟩) (by simp; try omega) _⟩
  · have HS := Lib.hid hs; clear hs
    generalize hG : askH L D R S day h p = A at hA ⊢
    have HG := Lib.hid hG; clear hG
    have hA1 : (A != 0) = true := by rw [bne_iff_ne]; exact hA
    go_enter Tryd.func60, Tryd.ntmps60
    go_wp2_with fail
    refine (asks_any day b h p _ (HS.out.to (by go_grown))).mono ?_
    rintro e w1 ⟨rfl, hb1⟩
    rw [HG.out]
    obtain ⟨hc, hf⟩ := bcell hb1
    have HB := Lib.hid (bjoin (w := w) (by go_grown) hb1)
    have HC := Lib.hid hb1; clear hb1
    have rc0 := keep_cell (b := w.heap.size + 1 + 1) (o := 0) (v := .int .i64 0) HC.out (by simp) (by simp [go_sem])
    have rf0 := keep_fr (b := w.heap.size + 1 + 1) (o := 0) HC.out (by simp) (by simp [go_sem])
    have rc1 := keep_cell (b := w.heap.size + 1 + 1) (o := 1) (v := .int .i64 0) HC.out (by simp) (by simp [go_sem])
    have rf1 := keep_fr (b := w.heap.size + 1 + 1) (o := 1) HC.out (by simp) (by simp [go_sem])
    have rl := keep_lt (b := w.heap.size + 1 + 1) HC.out (by simp)
    go_wp2
    refine bodyPost_ret (v := .tuple #[.agg #[.int .i64 0, .int .i64 0], .int .i64 A]) (by simp [results, Tryd.results60, go_sem, rc0, rc1]) rfl ?_
    exact ⟨ret_rat (onOk_no hA _).symm (onOk_no hA _).symm, ((HB.out).setCell (p := ⟨w.heap.size + 1 + 1, 0, none⟩) (by simp; try omega) _).setCell (p := ⟨w.heap.size + 1 + 1, 1, none⟩) (by simp; try omega) _⟩

set_option maxHeartbeats 1000000 in
theorem rExact_any {L : Int} {n1 n2 n3 c1 c2 c3 : Nat} {a1 a2 a3 : Option Addr} {D R S : List Int} (day : Int) (b : Bool) (h p : Int) (w : World) (hs : SeaO w a1 n1 a2 n2 a3 n3 D R S) :
   Calls Tryd.prog 61 #[.agg #[.int .i64 L, .slice a1 n1 c1, .slice a2 n2 c2, .slice a3 n3 c3], .int .i64 day, .agg #[.bool b, .int .i64 h, .int .i64 p]] w
     fun e w' => e = .returned (.tuple #[.agg #[.int .i64 (onOk (askH L D R S day h p) (momF L D R S day b (60 * h + p) / gF (momF L D R S day b (60 * h + p)) 720)), .int .i64 (onOk (askH L D R S day h p) (720 / gF (momF L D R S day b (60 * h + p)) 720))], .int .i64 (askH L D R S day h p)]) ∧ Below w.heap.size w w' := by
  rcases askH_or L D R S day h p with ⟨hA, hok, hday, hh, hp⟩ | hA
  · obtain ⟨b1, o1, b2, o2, b3, o3, rfl, rfl, rfl, rfl, rfl, hsea⟩ := hs.sea hok
    have HS := Lib.hid hs; have HE := Lib.hid hsea; have HO := Lib.hid hok; clear hs hsea hok
    obtain ⟨q1, q2, q3, q4⟩ := HO.out.mom day b (60 * h + p) (by omega) (by omega) (by omega)
    have hm : 0 ≤ momF L D R S day b (60 * h + p) ∧ momF L D R S day b (60 * h + p) ≤ 30000000000 := by unfold momF; omega
    clear q1 q2 q3 q4
    go_enter Tryd.func61, Tryd.ntmps61
    go_wp2_with fail
    refine (ready_any day b h p _ (HS.out.to (by go_grown))).mono ?_
    rintro e w1 ⟨rfl, hb1⟩
    obtain ⟨hc, hf⟩ := bcell hb1
    have HB := Lib.hid (bjoin (w := w) (by go_grown) hb1)
    have HC := Lib.hid hb1; clear hb1
    go_wp2_with fail
    refine (rMoment_any day b h p _ (HE.out.to HB.out) HO.out (by omega) (by omega) hh hp).mono ?_
    rintro e w2 ⟨rfl, hb2⟩
    obtain ⟨hc1, hf1⟩ := bcell hb2
    have HB1 := Lib.hid (bjoin HB.out hb2)
    have HC1 := Lib.hid (bjoin HC.out hb2); clear hb2
    go_wp2_with fail
    refine (rlowest_any _ _ _ (by omega) (by omega)).mono ?_
    rintro e w3 ⟨rfl, hb3⟩
    obtain ⟨hc2, hf2⟩ := bcell hb3
    have HB2 := Lib.hid (bjoin HB1.out hb3)
    have HC2 := Lib.hid (bjoin HC1.out hb3); clear hb3
    have rc0 := keep_cell (b := w.heap.size + 1 + 1) (o := 0) (v := .int .i64 0) HC2.out (by simp) (by simp [go_sem])
    have rf0 := keep_fr (b := w.heap.size + 1 + 1) (o := 0) HC2.out (by simp) (by simp [go_sem])
    have rc1 := keep_cell (b := w.heap.size + 1 + 1) (o := 1) (v := .int .i64 0) HC2.out (by simp) (by simp [go_sem])
    have rf1 := keep_fr (b := w.heap.size + 1 + 1) (o := 1) HC2.out (by simp) (by simp [go_sem])
    have rl := keep_lt (b := w.heap.size + 1 + 1) HC2.out (by simp)
    go_wp2
    refine bodyPost_ret (v := .tuple #[.agg #[.int .i64 (momF L D R S day b (60 * h + p) / gF (momF L D R S day b (60 * h + p)) 720), .int .i64 (720 / gF (momF L D R S day b (60 * h + p)) 720)], .int .i64 0]) (by simp [results, Tryd.results61, go_sem, rc0, rc1]) rfl ?_
    exact ⟨by rw [hA]; exact ret_rat (onOk_ok _).symm (onOk_ok _).symm, ((HB2.out).setCell (p := ⟨w.heap.size + 1 + 1, 0, none⟩) (by simp; try omega) _).setCell (p := ⟨w.heap.size + 1 + 1, 1, none⟩) (by simp; try omega) _⟩
  · have HS := Lib.hid hs; clear hs
    generalize hG : askH L D R S day h p = A at hA ⊢
    have HG := Lib.hid hG; clear hG
    have hA1 : (A != 0) = true := by rw [bne_iff_ne]; exact hA
    go_enter Tryd.func61, Tryd.ntmps61
    go_wp2_with fail
    refine (ready_any day b h p _ (HS.out.to (by go_grown))).mono ?_
    rintro e w1 ⟨rfl, hb1⟩
    rw [HG.out]
    obtain ⟨hc, hf⟩ := bcell hb1
    have HB := Lib.hid (bjoin (w := w) (by go_grown) hb1)
    have HC := Lib.hid hb1; clear hb1
    have rc0 := keep_cell (b := w.heap.size + 1 + 1) (o := 0) (v := .int .i64 0) HC.out (by simp) (by simp [go_sem])
    have rf0 := keep_fr (b := w.heap.size + 1 + 1) (o := 0) HC.out (by simp) (by simp [go_sem])
    have rc1 := keep_cell (b := w.heap.size + 1 + 1) (o := 1) (v := .int .i64 0) HC.out (by simp) (by simp [go_sem])
    have rf1 := keep_fr (b := w.heap.size + 1 + 1) (o := 1) HC.out (by simp) (by simp [go_sem])
    have rl := keep_lt (b := w.heap.size + 1 + 1) HC.out (by simp)
    go_wp2
    refine bodyPost_ret (v := .tuple #[.agg #[.int .i64 0, .int .i64 0], .int .i64 A]) (by simp [results, Tryd.results61, go_sem, rc0, rc1]) rfl ?_
    exact ⟨ret_rat (onOk_no hA _).symm (onOk_no hA _).symm, ((HB.out).setCell (p := ⟨w.heap.size + 1 + 1, 0, none⟩) (by simp; try omega) _).setCell (p := ⟨w.heap.size + 1 + 1, 1, none⟩) (by simp; try omega) _⟩
end Go.Proofs.YtomlfliebolkmaaDoor
