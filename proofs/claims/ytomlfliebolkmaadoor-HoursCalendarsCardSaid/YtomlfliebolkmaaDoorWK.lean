/-
  Later in the reference; Told in the program, by contract. No condition beyond what each states.
-/
import Derived.Test.YtomlfliebolkmaaDoorWJ
namespace Go.Proofs.YtomlfliebolkmaaDoor
open Go Go.Proofs Go.RowKit Pl

set_option maxHeartbeats 2000000 in
theorem rLater_any {L : Int} {n1 n2 n3 c1 c2 c3 : Nat} {a1 a2 a3 : Option Addr} {D R S : List Int} (day : Int) (b : Bool) (h p k : Int) (w : World) (hs : SeaO w a1 n1 a2 n2 a3 n3 D R S) :
   Calls Tryd.prog 29 #[.agg #[.int .i64 L, .slice a1 n1 c1, .slice a2 n2 c2, .slice a3 n3 c3], .int .i64 day, .agg #[.bool b, .int .i64 h, .int .i64 p], .int .i64 k] w
     fun e w' => e = .returned (.tuple #[.int .i64 (onOk (laterE (askH L D R S day h p) k (laterN day b h p k)) (laterN day b h p k / 1440)), .agg #[.bool (onB (laterE (askH L D R S day h p) k (laterN day b h p k)) (decide (720 ≤ laterN day b h p k % 1440))), .int .i64 (onOk (laterE (askH L D R S day h p) k (laterN day b h p k)) (laterN day b h p k % 1440 / 60 % 12)), .int .i64 (onOk (laterE (askH L D R S day h p) k (laterN day b h p k)) (laterN day b h p k % 60))], .int .i64 (laterE (askH L D R S day h p) k (laterN day b h p k))]) ∧ Below w.heap.size w w' := by
  rcases askH_or L D R S day h p with ⟨hA, hok, hday, hh, hp⟩ | hA
  · have HS := Lib.hid hs; clear hs hok
    cases hwi : wi k (-300000) 300000
    · have HP := Lib.hid (show laterE (askH L D R S day h p) k (laterN day b h p k) = 1 by unfold laterE; rw [hA, if_neg (by decide), if_pos hwi])
      go_enter Tryd.func29, Tryd.ntmps29
      go_wp2_with fail
      refine (ready_any day _ h p _ (HS.out.to (by go_grown))).mono ?_
      rintro e w1 ⟨rfl, hb1⟩
      rw [hA]
      obtain ⟨hc, hf⟩ := bcell hb1
      have HB := Lib.hid (bjoin (w := w) (by go_grown) hb1)
      have HC := Lib.hid hb1; clear hb1
      have rc0 := keep_cell (b := w.heap.size + 1 + 1) (o := 0) (v := .bool false) HC.out (by simp <;> omega) (by simp [go_sem])
      have rf0 := keep_fr (b := w.heap.size + 1 + 1) (o := 0) HC.out (by simp <;> omega) (by simp [go_sem])
      have rc1 := keep_cell (b := w.heap.size + 1 + 1) (o := 1) (v := .int .i64 0) HC.out (by simp <;> omega) (by simp [go_sem])
      have rf1 := keep_fr (b := w.heap.size + 1 + 1) (o := 1) HC.out (by simp <;> omega) (by simp [go_sem])
      have rc2 := keep_cell (b := w.heap.size + 1 + 1) (o := 2) (v := .int .i64 0) HC.out (by simp <;> omega) (by simp [go_sem])
      have rf2 := keep_fr (b := w.heap.size + 1 + 1) (o := 2) HC.out (by simp <;> omega) (by simp [go_sem])
      have rl := keep_lt (b := w.heap.size + 1 + 1) HC.out (by simp)
      go_wp2_with (go_at_call 79; refine (rwithin_any _ _ _ _).mono ?_; rintro e w2 ⟨rfl, rfl⟩)
      refine bodyPost_ret (v := .tuple #[.int .i64 (0), .agg #[.bool (false), .int .i64 (0), .int .i64 (0)], .int .i64 (1)]) (by simp [results, Tryd.results29, go_sem, rc0, rc1, rc2]) rfl ?_
      exact ⟨ret_later_no HP.out (by decide), (((HB.out).setCell (p := ⟨w.heap.size + 1 + 1, 0, none⟩) (by simp; try omega) _).setCell (p := ⟨w.heap.size + 1 + 1, 1, none⟩) (by simp; try omega) _).setCell (p := ⟨w.heap.size + 1 + 1, 2, none⟩) (by simp; try omega) _⟩
    · have hk := (wi_iff _ _ _).1 hwi
      have hN : laterN day b h p k = 60 * (24 * day + h + k + (if b then 12 else 0)) + p := by unfold laterN ord; cases b <;> simp <;> omega
      have hob : 0 ≤ ord day b h p ∧ ord day b h p ≤ 20000000 := by unfold ord; split <;> omega
      generalize hN0 : laterN day b h p k = M at *
      have HM := Lib.hid hN0; clear hN
      have hN : ord day b h p + 60 * k = M := hN0
      clear hN0
      have hM : ord day b h p + 60 * k = M := hN
      by_cases hneg : M < 0
      · have HP := Lib.hid (show laterE (askH L D R S day h p) k M = 4 by unfold laterE; rw [hA, if_neg (by decide), if_neg (by rw [hwi]; decide), if_pos (by omega)])
        go_enter Tryd.func29, Tryd.ntmps29
        go_wp2_with fail
        refine (ready_any day b h p _ (HS.out.to (by go_grown))).mono ?_
        rintro e w1 ⟨rfl, hb1⟩
        rw [hA]
        obtain ⟨hc, hf⟩ := bcell hb1
        have HB := Lib.hid (bjoin (w := w) (by go_grown) hb1)
        have HC := Lib.hid hb1; clear hb1
        go_wp2_with (go_at_call 79; refine (rwithin_any _ _ _ _).mono ?_; rintro e w2 ⟨rfl, rfl⟩)
        refine (Order_any day b h p _ (by omega) hh hp).mono ?_
        rintro e w2 ⟨rfl, hb2⟩
        obtain ⟨hc2, hf2⟩ := bcell hb2
        have HB2 := Lib.hid (bjoin HB.out hb2)
        have HC2 := Lib.hid (bjoin HC.out hb2); clear hb2
        have rc0 := keep_cell (b := w.heap.size + 1 + 1) (o := 0) (v := .bool false) HC2.out (by simp <;> omega) (by simp [go_sem])
        have rf0 := keep_fr (b := w.heap.size + 1 + 1) (o := 0) HC2.out (by simp <;> omega) (by simp [go_sem])
        have rc1 := keep_cell (b := w.heap.size + 1 + 1) (o := 1) (v := .int .i64 0) HC2.out (by simp <;> omega) (by simp [go_sem])
        have rf1 := keep_fr (b := w.heap.size + 1 + 1) (o := 1) HC2.out (by simp <;> omega) (by simp [go_sem])
        have rc2 := keep_cell (b := w.heap.size + 1 + 1) (o := 2) (v := .int .i64 0) HC2.out (by simp <;> omega) (by simp [go_sem])
        have rf2 := keep_fr (b := w.heap.size + 1 + 1) (o := 2) HC2.out (by simp <;> omega) (by simp [go_sem])
        have rl := keep_lt (b := w.heap.size + 1 + 1) HC2.out (by simp)
        go_wp2
        refine bodyPost_ret (v := .tuple #[.int .i64 (0), .agg #[.bool (false), .int .i64 (0), .int .i64 (0)], .int .i64 (4)]) (by simp [results, Tryd.results29, go_sem, rc0, rc1, rc2]) rfl ?_
        exact ⟨ret_later_no HP.out (by decide), (((HB2.out).setCell (p := ⟨w.heap.size + 1 + 1, 0, none⟩) (by simp; try omega) _).setCell (p := ⟨w.heap.size + 1 + 1, 1, none⟩) (by simp; try omega) _).setCell (p := ⟨w.heap.size + 1 + 1, 2, none⟩) (by simp; try omega) _⟩
      · by_cases hbad : 11000 < M / 1440
        · have HP := Lib.hid (show laterE (askH L D R S day h p) k M = 4 by unfold laterE; rw [hA, if_neg (by decide), if_neg (by rw [hwi]; decide), if_pos (by omega)])
          have hwd : wi (M / 1440) 0 11000 = false := wi_no (by omega)
          clear hbad
          go_enter Tryd.func29, Tryd.ntmps29
          go_wp2_with fail
          refine (ready_any day b h p _ (HS.out.to (by go_grown))).mono ?_
          rintro e w1 ⟨rfl, hb1⟩
          rw [hA]
          obtain ⟨hc, hf⟩ := bcell hb1
          have HB := Lib.hid (bjoin (w := w) (by go_grown) hb1)
          have HC := Lib.hid hb1; clear hb1
          go_wp2_with (go_at_call 79; refine (rwithin_any _ _ _ _).mono ?_; rintro e w2 ⟨rfl, rfl⟩)
          refine (Order_any day b h p _ (by omega) hh hp).mono ?_
          rintro e w2 ⟨rfl, hb2⟩
          obtain ⟨hc2, hf2⟩ := bcell hb2
          have HB2 := Lib.hid (bjoin HB.out hb2)
          have HC2 := Lib.hid (bjoin HC.out hb2); clear hb2
          have rc0 := keep_cell (b := w.heap.size + 1 + 1) (o := 0) (v := .bool false) HC2.out (by simp <;> omega) (by simp [go_sem])
          have rf0 := keep_fr (b := w.heap.size + 1 + 1) (o := 0) HC2.out (by simp <;> omega) (by simp [go_sem])
          have rc1 := keep_cell (b := w.heap.size + 1 + 1) (o := 1) (v := .int .i64 0) HC2.out (by simp <;> omega) (by simp [go_sem])
          have rf1 := keep_fr (b := w.heap.size + 1 + 1) (o := 1) HC2.out (by simp <;> omega) (by simp [go_sem])
          have rc2 := keep_cell (b := w.heap.size + 1 + 1) (o := 2) (v := .int .i64 0) HC2.out (by simp <;> omega) (by simp [go_sem])
          have rf2 := keep_fr (b := w.heap.size + 1 + 1) (o := 2) HC2.out (by simp <;> omega) (by simp [go_sem])
          have rl := keep_lt (b := w.heap.size + 1 + 1) HC2.out (by simp)
          go_wp2_with (go_at_call 83; refine (rDay_any _ _).mono ?_; rintro e w3 ⟨rfl, rfl⟩)
          refine bodyPost_ret (v := .tuple #[.int .i64 (0), .agg #[.bool (false), .int .i64 (0), .int .i64 (0)], .int .i64 (4)]) (by simp [results, Tryd.results29, go_sem, rc0, rc1, rc2]) rfl ?_
          exact ⟨ret_later_no HP.out (by decide), (((HB2.out).setCell (p := ⟨w.heap.size + 1 + 1, 0, none⟩) (by simp; try omega) _).setCell (p := ⟨w.heap.size + 1 + 1, 1, none⟩) (by simp; try omega) _).setCell (p := ⟨w.heap.size + 1 + 1, 2, none⟩) (by simp; try omega) _⟩
        · have HP := Lib.hid (show laterE (askH L D R S day h p) k M = 0 by unfold laterE; rw [hA, if_neg (by decide), if_neg (by rw [hwi]; decide), if_neg (by omega)])
          have hwd : wi (M / 1440) 0 11000 = true := wi_mk (by omega)
          have hr0 : 0 ≤ M % 1440 ∧ M % 1440 < 1440 := by omega
          clear hbad
          go_enter Tryd.func29, Tryd.ntmps29
          go_wp2_with fail
          refine (ready_any day b h p _ (HS.out.to (by go_grown))).mono ?_
          rintro e w1 ⟨rfl, hb1⟩
          rw [hA]
          obtain ⟨hc, hf⟩ := bcell hb1
          have HB := Lib.hid (bjoin (w := w) (by go_grown) hb1)
          have HC := Lib.hid hb1; clear hb1
          go_wp2_with (go_at_call 79; refine (rwithin_any _ _ _ _).mono ?_; rintro e w2 ⟨rfl, rfl⟩)
          refine (Order_any day b h p _ (by omega) hh hp).mono ?_
          rintro e w2 ⟨rfl, hb2⟩
          obtain ⟨hc2, hf2⟩ := bcell hb2
          have HB2 := Lib.hid (bjoin HB.out hb2)
          have HC2 := Lib.hid (bjoin HC.out hb2); clear hb2
          go_wp2_with (go_at_call 83; refine (rDay_any _ _).mono ?_; rintro e w3 ⟨rfl, rfl⟩)
          refine (hour_any (M % 1440) _ (by omega)).mono ?_
          rintro e w3 ⟨rfl, hb3⟩
          have HB3 := Lib.hid (bjoin HB2.out hb3)
          have HC3 := Lib.hid (bjoin HC2.out hb3); clear hb3
          have rc0 := keep_cell (b := w.heap.size + 1 + 1) (o := 0) (v := .bool false) HC3.out (by simp <;> omega) (by simp [go_sem])
          have rf0 := keep_fr (b := w.heap.size + 1 + 1) (o := 0) HC3.out (by simp <;> omega) (by simp [go_sem])
          have rc1 := keep_cell (b := w.heap.size + 1 + 1) (o := 1) (v := .int .i64 0) HC3.out (by simp <;> omega) (by simp [go_sem])
          have rf1 := keep_fr (b := w.heap.size + 1 + 1) (o := 1) HC3.out (by simp <;> omega) (by simp [go_sem])
          have rc2 := keep_cell (b := w.heap.size + 1 + 1) (o := 2) (v := .int .i64 0) HC3.out (by simp <;> omega) (by simp [go_sem])
          have rf2 := keep_fr (b := w.heap.size + 1 + 1) (o := 2) HC3.out (by simp <;> omega) (by simp [go_sem])
          have rl := keep_lt (b := w.heap.size + 1 + 1) HC3.out (by simp)
          go_wp2
          refine bodyPost_ret (v := .tuple #[.int .i64 (M / 1440), .agg #[.bool (decide (720 ≤ M % 1440)), .int .i64 (M % 1440 / 60 % 12), .int .i64 (M % 1440 % 60)], .int .i64 (0)]) (by simp [results, Tryd.results29, go_sem, rc0, rc1, rc2]) rfl ?_
          exact ⟨ret_later_ok HP.out rfl rfl rfl (by omega), (((HB3.out).setCell (p := ⟨w.heap.size + 1 + 1, 0, none⟩) (by simp; try omega) _).setCell (p := ⟨w.heap.size + 1 + 1, 1, none⟩) (by simp; try omega) _).setCell (p := ⟨w.heap.size + 1 + 1, 2, none⟩) (by simp; try omega) _⟩
  · have HS := Lib.hid hs; clear hs
    generalize hG : askH L D R S day h p = A at hA ⊢
    have HG := Lib.hid hG; clear hG
    have hA1 : (A != 0) = true := by rw [bne_iff_ne]; exact hA
    have HP := Lib.hid (show laterE A k (laterN day b h p k) = A by unfold laterE; rw [if_pos hA])
    go_enter Tryd.func29, Tryd.ntmps29
    go_wp2_with fail
    refine (ready_any day _ h p _ (HS.out.to (by go_grown))).mono ?_
    rintro e w1 ⟨rfl, hb1⟩
    rw [HG.out]
    obtain ⟨hc, hf⟩ := bcell hb1
    have HB := Lib.hid (bjoin (w := w) (by go_grown) hb1)
    have HC := Lib.hid hb1; clear hb1
    have rc0 := keep_cell (b := w.heap.size + 1 + 1) (o := 0) (v := .bool false) HC.out (by simp <;> omega) (by simp [go_sem])
    have rf0 := keep_fr (b := w.heap.size + 1 + 1) (o := 0) HC.out (by simp <;> omega) (by simp [go_sem])
    have rc1 := keep_cell (b := w.heap.size + 1 + 1) (o := 1) (v := .int .i64 0) HC.out (by simp <;> omega) (by simp [go_sem])
    have rf1 := keep_fr (b := w.heap.size + 1 + 1) (o := 1) HC.out (by simp <;> omega) (by simp [go_sem])
    have rc2 := keep_cell (b := w.heap.size + 1 + 1) (o := 2) (v := .int .i64 0) HC.out (by simp <;> omega) (by simp [go_sem])
    have rf2 := keep_fr (b := w.heap.size + 1 + 1) (o := 2) HC.out (by simp <;> omega) (by simp [go_sem])
    have rl := keep_lt (b := w.heap.size + 1 + 1) HC.out (by simp)
    go_wp2
    refine bodyPost_ret (v := .tuple #[.int .i64 (0), .agg #[.bool (false), .int .i64 (0), .int .i64 (0)], .int .i64 (A)]) (by simp [results, Tryd.results29, go_sem, rc0, rc1, rc2]) rfl ?_
    exact ⟨ret_later_no HP.out hA, (((HB.out).setCell (p := ⟨w.heap.size + 1 + 1, 0, none⟩) (by simp; try omega) _).setCell (p := ⟨w.heap.size + 1 + 1, 1, none⟩) (by simp; try omega) _).setCell (p := ⟨w.heap.size + 1 + 1, 2, none⟩) (by simp; try omega) _⟩

open Classical in
/-- The error of a season and a minute. -/
noncomputable def toldE (L : Int) (D R S : List Int) (m : Int) : Int := if Ok L D R S then (if wi m 0 15840000 = true then (if toldN L D R S m < 0 then 4 else 0) else 1) else 50
theorem toldE_season {L : Int} {D R S : List Int} {m : Int} (h : ¬ Ok L D R S) : toldE L D R S m = 50 := if_neg h
theorem toldE_arg {L : Int} {D R S : List Int} {m : Int} (h : Ok L D R S) (k : wi m 0 15840000 = false) : toldE L D R S m = 1 := by unfold toldE; rw [if_pos h, if_neg (by rw [k]; decide)]
theorem toldE_none {L : Int} {D R S : List Int} {m : Int} (h : Ok L D R S) (k : wi m 0 15840000 = true) (j : toldN L D R S m < 0) : toldE L D R S m = 4 := by unfold toldE; rw [if_pos h, if_pos k, if_pos j]
theorem toldE_ok {L : Int} {D R S : List Int} {m : Int} (h : Ok L D R S) (k : wi m 0 15840000 = true) (j : ¬ toldN L D R S m < 0) : toldE L D R S m = 0 := by unfold toldE; rw [if_pos h, if_pos k, if_neg j]
theorem beg_true (L : Int) (D R S : List Int) (d : Int) : begF L D R S d false + lastF L D R S d false = begF L D R S d true := by unfold begF lastF; simp; omega
theorem toldD_lt {L : Int} {D R S : List Int} {m : Int} (h : m < begF L D R S (m / 1440) false) : toldD L D R m = m / 1440 - 1 ∧ toldB L D R S m = true := by
  have h' : m < m / 1440 * 1440 + riseF L D R (m / 1440) := by simpa [begF] using h
  exact ⟨if_pos h', decide_eq_true (Or.inl h')⟩
theorem toldD_ge {L : Int} {D R S : List Int} {m : Int} (h : ¬ m < begF L D R S (m / 1440) false) (h2 : begF L D R S (m / 1440) true ≤ m) : toldD L D R m = m / 1440 ∧ toldB L D R S m = true := by
  have h' : ¬ m < m / 1440 * 1440 + riseF L D R (m / 1440) := by simpa [begF] using h
  have h2' : m / 1440 * 1440 + riseF L D S (m / 1440) ≤ m := by simpa [begF] using h2
  exact ⟨if_neg h', decide_eq_true (Or.inr h2')⟩
theorem toldD_in {L : Int} {D R S : List Int} {m : Int} (h : ¬ m < begF L D R S (m / 1440) false) (h2 : ¬ begF L D R S (m / 1440) true ≤ m) : toldD L D R m = m / 1440 ∧ toldB L D R S m = false := by
  have h' : ¬ m < m / 1440 * 1440 + riseF L D R (m / 1440) := by simpa [begF] using h
  have h2' : ¬ m / 1440 * 1440 + riseF L D S (m / 1440) ≤ m := by simpa [begF] using h2
  exact ⟨if_neg h', decide_eq_false (by omega)⟩
/-- What the told number is made of, d and b its day and half. -/
theorem told_made {L : Int} {D R S : List Int} (hok : Ok L D R S) {m d : Int} {b : Bool} (h1 : toldD L D R m = d) (h2 : toldB L D R S m = b) :
    let P := (m - begF L D R S d b) * 720 / lastF L D R S d b
    begF L D R S d b ≤ m ∧ m < begF L D R S d b + lastF L D R S d b ∧ 0 ≤ P ∧ P < 720 ∧ toldN L D R S m / 1440 = d ∧ decide (720 ≤ toldN L D R S m % 1440) = b ∧ toldN L D R S m % 720 = P := by
  subst h1 h2
  obtain ⟨a1, a2⟩ := told_in hok m
  obtain ⟨p1, p2⟩ := toldP_bd hok m
  obtain ⟨e1, e2, e3⟩ := toldN_parts hok m
  exact ⟨a1, a2, p1, p2, e1, e2, e3⟩

set_option maxHeartbeats 4000000 in
theorem Told_any {L : Int} {n1 n2 n3 c1 c2 c3 : Nat} {a1 a2 a3 : Option Addr} {D R S : List Int} (m : Int) (w : World) (hs : SeaO w a1 n1 a2 n2 a3 n3 D R S) :
   Calls Tryd.prog 55 #[.agg #[.int .i64 L, .slice a1 n1 c1, .slice a2 n2 c2, .slice a3 n3 c3], .int .i64 m] w
     fun e w' => e = .returned (.tuple #[.int .i64 (onOk (toldE L D R S m) (toldN L D R S m / 1440)), .agg #[.bool (onB (toldE L D R S m) (decide (720 ≤ toldN L D R S m % 1440))), .int .i64 (onOk (toldE L D R S m) (toldN L D R S m % 1440 / 60 % 12)), .int .i64 (onOk (toldE L D R S m) (toldN L D R S m % 60))], .int .i64 (toldE L D R S m)]) ∧ Below w.heap.size w w' := by
  by_cases hok : Ok L D R S
  · have hck := ck_yes hok
    cases hwi : wi m 0 15840000
    · have HP := Lib.hid (toldE_arg hok hwi)
      have HS := Lib.hid hs; clear hs hok
      go_enter Tryd.func55, Tryd.ntmps55
      go_wp2_with fail
      refine (check_any _ (HS.out.to (by go_grown)).D (HS.out.to (by go_grown)).R (HS.out.to (by go_grown)).S HS.out.d HS.out.r HS.out.s).mono ?_
      rintro e w1 ⟨rfl, hb1⟩
      obtain ⟨hc, hf⟩ := bcell hb1
      have HB := Lib.hid (bjoin (w := w) (by go_grown) hb1)
      have HC := Lib.hid hb1; clear hb1
      have rc0 := keep_cell (b := w.heap.size + 1) (o := 0) (v := .bool false) HC.out (by simp <;> omega) (by simp [go_sem])
      have rf0 := keep_fr (b := w.heap.size + 1) (o := 0) HC.out (by simp <;> omega) (by simp [go_sem])
      have rc1 := keep_cell (b := w.heap.size + 1) (o := 1) (v := .int .i64 0) HC.out (by simp <;> omega) (by simp [go_sem])
      have rf1 := keep_fr (b := w.heap.size + 1) (o := 1) HC.out (by simp <;> omega) (by simp [go_sem])
      have rc2 := keep_cell (b := w.heap.size + 1) (o := 2) (v := .int .i64 0) HC.out (by simp <;> omega) (by simp [go_sem])
      have rf2 := keep_fr (b := w.heap.size + 1) (o := 2) HC.out (by simp <;> omega) (by simp [go_sem])
      have rl := keep_lt (b := w.heap.size + 1) HC.out (by simp)
      go_wp2_with (go_at_call 77; refine (within_any _ _ _ _).mono ?_; rintro e w2 ⟨rfl, rfl⟩)
      refine bodyPost_ret (v := .tuple #[.int .i64 (0), .agg #[.bool (false), .int .i64 (0), .int .i64 (0)], .int .i64 (1)]) (by simp [results, Tryd.results55, go_sem, rc0, rc1, rc2]) rfl ?_
      exact ⟨ret_later_no HP.out (by decide), (((HB.out).setCell (p := ⟨w.heap.size + 1, 0, none⟩) (by simp; try omega) _).setCell (p := ⟨w.heap.size + 1, 1, none⟩) (by simp; try omega) _).setCell (p := ⟨w.heap.size + 1, 2, none⟩) (by simp; try omega) _⟩
    · have hm := (wi_iff _ _ _).1 hwi
      obtain ⟨b1, o1, b2, o2, b3, o3, rfl, rfl, rfl, rfl, rfl, hsea⟩ := hs.sea hok
      have HS := Lib.hid hs; have HE := Lib.hid hsea; have HO := Lib.hid hok; clear hs hsea hok
      have hr0 := HO.out.rise (m / 1440); have hs0 := HO.out.set (m / 1440)
      have hRI1 : begF L D R S (m / 1440) false = m / 1440 * 1440 + riseF L D R (m / 1440) := by simp [begF]
      have hSE1 : begF L D R S (m / 1440) true = m / 1440 * 1440 + riseF L D S (m / 1440) := by simp [begF]
      have hRI : 0 ≤ begF L D R S (m / 1440) false ∧ begF L D R S (m / 1440) false ≤ 20000000 := by omega
      have hSE : 0 ≤ begF L D R S (m / 1440) true ∧ begF L D R S (m / 1440) true ≤ 20000000 := by omega
      have hRS : begF L D R S (m / 1440) false < begF L D R S (m / 1440) true := by omega
      clear hRI1 hSE1 hr0 hs0
      by_cases hlt : m < begF L D R S (m / 1440) false
      · obtain ⟨hd, hbb⟩ := toldD_lt (S := S) hlt
        obtain ⟨x1, x2, p1, p2, t1, t2, t3⟩ := told_made HO.out hd hbb
        clear hd hbb
        by_cases hneg : m / 1440 - 1 < 0
        · have HP := Lib.hid (toldE_none HO.out hwi (by omega))
          clear x1 x2 p1 p2 t1 t2 t3
          go_enter Tryd.func55, Tryd.ntmps55
          go_wp2_with fail
          refine (check_any _ (HS.out.to (by go_grown)).D (HS.out.to (by go_grown)).R (HS.out.to (by go_grown)).S HS.out.d HS.out.r HS.out.s).mono ?_
          rintro e w1 ⟨rfl, hb1⟩
          obtain ⟨hc, hf⟩ := bcell hb1
          have HB := Lib.hid (bjoin (w := w) (by go_grown) hb1)
          have HC := Lib.hid hb1; clear hb1
          go_wp2_with (go_at_call 77; refine (within_any _ _ _ _).mono ?_; rintro e w2 ⟨rfl, rfl⟩)
          refine (span_any (m / 1440) false _ (HE.out.to HB.out) HO.out (by omega) (by omega)).mono ?_
          rintro e w2 ⟨rfl, hb2⟩
          obtain ⟨hc2, hf2⟩ := bcell hb2
          have HB2 := Lib.hid (bjoin HB.out hb2)
          have HC2 := Lib.hid (bjoin HC.out hb2); clear hb2
          rw [beg_true]
          have rc0 := keep_cell (b := w.heap.size + 1) (o := 0) (v := .bool false) HC2.out (by simp <;> omega) (by simp [go_sem])
          have rf0 := keep_fr (b := w.heap.size + 1) (o := 0) HC2.out (by simp <;> omega) (by simp [go_sem])
          have rc1 := keep_cell (b := w.heap.size + 1) (o := 1) (v := .int .i64 0) HC2.out (by simp <;> omega) (by simp [go_sem])
          have rf1 := keep_fr (b := w.heap.size + 1) (o := 1) HC2.out (by simp <;> omega) (by simp [go_sem])
          have rc2 := keep_cell (b := w.heap.size + 1) (o := 2) (v := .int .i64 0) HC2.out (by simp <;> omega) (by simp [go_sem])
          have rf2 := keep_fr (b := w.heap.size + 1) (o := 2) HC2.out (by simp <;> omega) (by simp [go_sem])
          have rl := keep_lt (b := w.heap.size + 1) HC2.out (by simp)
          go_wp2
          refine bodyPost_ret (v := .tuple #[.int .i64 (0), .agg #[.bool (false), .int .i64 (0), .int .i64 (0)], .int .i64 (4)]) (by simp [results, Tryd.results55, go_sem, rc0, rc1, rc2]) rfl ?_
          exact ⟨ret_later_no HP.out (by decide), (((HB2.out).setCell (p := ⟨w.heap.size + 1, 0, none⟩) (by simp; try omega) _).setCell (p := ⟨w.heap.size + 1, 1, none⟩) (by simp; try omega) _).setCell (p := ⟨w.heap.size + 1, 2, none⟩) (by simp; try omega) _⟩
        · have HP := Lib.hid (toldE_ok HO.out hwi (by omega))
          have hl := HO.out.last (m / 1440 - 1) true
          have T1 := Lib.hid t1; have T2 := Lib.hid t2; have T3 := Lib.hid t3; clear t1 t2 t3
          go_enter Tryd.func55, Tryd.ntmps55
          go_wp2_with fail
          refine (check_any _ (HS.out.to (by go_grown)).D (HS.out.to (by go_grown)).R (HS.out.to (by go_grown)).S HS.out.d HS.out.r HS.out.s).mono ?_
          rintro e w1 ⟨rfl, hb1⟩
          obtain ⟨hc, hf⟩ := bcell hb1
          have HB := Lib.hid (bjoin (w := w) (by go_grown) hb1)
          have HC := Lib.hid hb1; clear hb1
          go_wp2_with (go_at_call 77; refine (within_any _ _ _ _).mono ?_; rintro e w2 ⟨rfl, rfl⟩)
          refine (span_any (m / 1440) false _ (HE.out.to HB.out) HO.out (by omega) (by omega)).mono ?_
          rintro e w2 ⟨rfl, hb2⟩
          obtain ⟨hc2, hf2⟩ := bcell hb2
          have HB2 := Lib.hid (bjoin HB.out hb2)
          have HC2 := Lib.hid (bjoin HC.out hb2); clear hb2
          rw [beg_true]
          have qd0_0 := keep_cell (b := w.heap.size) (o := 0) (v := .int .i64 L) HC2.out (by simp <;> omega) (by simp [go_sem])
          have qd0_1 := keep_cell (b := w.heap.size) (o := 1) (v := .slice (some ⟨b1, o1, none⟩) n3 c1) HC2.out (by simp <;> omega) (by simp [go_sem])
          have qd0_2 := keep_cell (b := w.heap.size) (o := 2) (v := .slice (some ⟨b2, o2, none⟩) n3 c2) HC2.out (by simp <;> omega) (by simp [go_sem])
          have qd0_3 := keep_cell (b := w.heap.size) (o := 3) (v := .slice (some ⟨b3, o3, none⟩) n3 c3) HC2.out (by simp <;> omega) (by simp [go_sem])
          go_wp2_with fail
          refine (span_any (m / 1440 - 1) true _ (HE.out.to HB2.out) HO.out (by omega) (by omega)).mono ?_
          rintro e w3 ⟨rfl, hb3⟩
          obtain ⟨hc3, hf3⟩ := bcell hb3
          have HB3 := Lib.hid (bjoin HB2.out hb3)
          have HC3 := Lib.hid (bjoin HC2.out hb3); clear hb3
          generalize hAA : begF L D R S (m / 1440 - 1) true = AA at *
          generalize hGG : lastF L D R S (m / 1440 - 1) true = GG at *
          have HAA := Lib.hid hAA; have HGG := Lib.hid hGG; clear hAA hGG
          have hsub : AA + GG - AA = GG := by omega
          have rc0 := keep_cell (b := w.heap.size + 1) (o := 0) (v := .bool false) HC3.out (by simp <;> omega) (by simp [go_sem])
          have rf0 := keep_fr (b := w.heap.size + 1) (o := 0) HC3.out (by simp <;> omega) (by simp [go_sem])
          have rc1 := keep_cell (b := w.heap.size + 1) (o := 1) (v := .int .i64 0) HC3.out (by simp <;> omega) (by simp [go_sem])
          have rf1 := keep_fr (b := w.heap.size + 1) (o := 1) HC3.out (by simp <;> omega) (by simp [go_sem])
          have rc2 := keep_cell (b := w.heap.size + 1) (o := 2) (v := .int .i64 0) HC3.out (by simp <;> omega) (by simp [go_sem])
          have rf2 := keep_fr (b := w.heap.size + 1) (o := 2) HC3.out (by simp <;> omega) (by simp [go_sem])
          have rl := keep_lt (b := w.heap.size + 1) HC3.out (by simp)
          go_wp2
          refine bodyPost_ret (v := .tuple #[.int .i64 (m / 1440 - 1), .agg #[.bool (true), .int .i64 ((m - AA) * 720 / GG / 60), .int .i64 ((m - AA) * 720 / GG % 60)], .int .i64 (0)]) (by simp [results, Tryd.results55, go_sem, rc0, rc1, rc2]) rfl ?_
          exact ⟨ret_later_ok HP.out T1.out.symm T2.out.symm (by have := T3.out; omega) (by have := T3.out; omega), (((HB3.out).setCell (p := ⟨w.heap.size + 1, 0, none⟩) (by simp; try omega) _).setCell (p := ⟨w.heap.size + 1, 1, none⟩) (by simp; try omega) _).setCell (p := ⟨w.heap.size + 1, 2, none⟩) (by simp; try omega) _⟩
      · by_cases hge : begF L D R S (m / 1440) true ≤ m
        · obtain ⟨hd, hbb⟩ := toldD_ge (S := S) hlt hge
          obtain ⟨x1, x2, p1, p2, t1, t2, t3⟩ := told_made HO.out hd hbb
          clear hd hbb
          have HP := Lib.hid (toldE_ok HO.out hwi (by omega))
          have hl := HO.out.last (m / 1440) true
          have T1 := Lib.hid t1; have T2 := Lib.hid t2; have T3 := Lib.hid t3; clear t1 t2 t3
          go_enter Tryd.func55, Tryd.ntmps55
          go_wp2_with fail
          refine (check_any _ (HS.out.to (by go_grown)).D (HS.out.to (by go_grown)).R (HS.out.to (by go_grown)).S HS.out.d HS.out.r HS.out.s).mono ?_
          rintro e w1 ⟨rfl, hb1⟩
          obtain ⟨hc, hf⟩ := bcell hb1
          have HB := Lib.hid (bjoin (w := w) (by go_grown) hb1)
          have HC := Lib.hid hb1; clear hb1
          go_wp2_with (go_at_call 77; refine (within_any _ _ _ _).mono ?_; rintro e w2 ⟨rfl, rfl⟩)
          refine (span_any (m / 1440) false _ (HE.out.to HB.out) HO.out (by omega) (by omega)).mono ?_
          rintro e w2 ⟨rfl, hb2⟩
          obtain ⟨hc2, hf2⟩ := bcell hb2
          have HB2 := Lib.hid (bjoin HB.out hb2)
          have HC2 := Lib.hid (bjoin HC.out hb2); clear hb2
          rw [beg_true]
          have qd0_0 := keep_cell (b := w.heap.size) (o := 0) (v := .int .i64 L) HC2.out (by simp <;> omega) (by simp [go_sem])
          have qd0_1 := keep_cell (b := w.heap.size) (o := 1) (v := .slice (some ⟨b1, o1, none⟩) n3 c1) HC2.out (by simp <;> omega) (by simp [go_sem])
          have qd0_2 := keep_cell (b := w.heap.size) (o := 2) (v := .slice (some ⟨b2, o2, none⟩) n3 c2) HC2.out (by simp <;> omega) (by simp [go_sem])
          have qd0_3 := keep_cell (b := w.heap.size) (o := 3) (v := .slice (some ⟨b3, o3, none⟩) n3 c3) HC2.out (by simp <;> omega) (by simp [go_sem])
          go_wp2_with fail
          refine (span_any (m / 1440) true _ (HE.out.to HB2.out) HO.out (by omega) (by omega)).mono ?_
          rintro e w3 ⟨rfl, hb3⟩
          obtain ⟨hc3, hf3⟩ := bcell hb3
          have HB3 := Lib.hid (bjoin HB2.out hb3)
          have HC3 := Lib.hid (bjoin HC2.out hb3); clear hb3
          generalize hAA : begF L D R S (m / 1440) true = AA at *
          generalize hGG : lastF L D R S (m / 1440) true = GG at *
          have HAA := Lib.hid hAA; have HGG := Lib.hid hGG; clear hAA hGG
          have hsub : AA + GG - AA = GG := by omega
          have rc0 := keep_cell (b := w.heap.size + 1) (o := 0) (v := .bool false) HC3.out (by simp <;> omega) (by simp [go_sem])
          have rf0 := keep_fr (b := w.heap.size + 1) (o := 0) HC3.out (by simp <;> omega) (by simp [go_sem])
          have rc1 := keep_cell (b := w.heap.size + 1) (o := 1) (v := .int .i64 0) HC3.out (by simp <;> omega) (by simp [go_sem])
          have rf1 := keep_fr (b := w.heap.size + 1) (o := 1) HC3.out (by simp <;> omega) (by simp [go_sem])
          have rc2 := keep_cell (b := w.heap.size + 1) (o := 2) (v := .int .i64 0) HC3.out (by simp <;> omega) (by simp [go_sem])
          have rf2 := keep_fr (b := w.heap.size + 1) (o := 2) HC3.out (by simp <;> omega) (by simp [go_sem])
          have rl := keep_lt (b := w.heap.size + 1) HC3.out (by simp)
          go_wp2
          refine bodyPost_ret (v := .tuple #[.int .i64 (m / 1440), .agg #[.bool (true), .int .i64 ((m - AA) * 720 / GG / 60), .int .i64 ((m - AA) * 720 / GG % 60)], .int .i64 (0)]) (by simp [results, Tryd.results55, go_sem, rc0, rc1, rc2]) rfl ?_
          exact ⟨ret_later_ok HP.out T1.out.symm T2.out.symm (by have := T3.out; omega) (by have := T3.out; omega), (((HB3.out).setCell (p := ⟨w.heap.size + 1, 0, none⟩) (by simp; try omega) _).setCell (p := ⟨w.heap.size + 1, 1, none⟩) (by simp; try omega) _).setCell (p := ⟨w.heap.size + 1, 2, none⟩) (by simp; try omega) _⟩
        · obtain ⟨hd, hbb⟩ := toldD_in (S := S) hlt hge
          obtain ⟨x1, x2, p1, p2, t1, t2, t3⟩ := told_made HO.out hd hbb
          clear hd hbb
          have HP := Lib.hid (toldE_ok HO.out hwi (by omega))
          have hl := HO.out.last (m / 1440) false
          have hgeb := decide_eq_false hge
          have T1 := Lib.hid t1; have T2 := Lib.hid t2; have T3 := Lib.hid t3; clear t1 t2 t3
          go_enter Tryd.func55, Tryd.ntmps55
          go_wp2_with fail
          refine (check_any _ (HS.out.to (by go_grown)).D (HS.out.to (by go_grown)).R (HS.out.to (by go_grown)).S HS.out.d HS.out.r HS.out.s).mono ?_
          rintro e w1 ⟨rfl, hb1⟩
          obtain ⟨hc, hf⟩ := bcell hb1
          have HB := Lib.hid (bjoin (w := w) (by go_grown) hb1)
          have HC := Lib.hid hb1; clear hb1
          go_wp2_with (go_at_call 77; refine (within_any _ _ _ _).mono ?_; rintro e w2 ⟨rfl, rfl⟩)
          refine (span_any (m / 1440) false _ (HE.out.to HB.out) HO.out (by omega) (by omega)).mono ?_
          rintro e w2 ⟨rfl, hb2⟩
          obtain ⟨hc2, hf2⟩ := bcell hb2
          have HB2 := Lib.hid (bjoin HB.out hb2)
          have HC2 := Lib.hid (bjoin HC.out hb2); clear hb2
          rw [beg_true]
          have qd0_0 := keep_cell (b := w.heap.size) (o := 0) (v := .int .i64 L) HC2.out (by simp <;> omega) (by simp [go_sem])
          have qd0_1 := keep_cell (b := w.heap.size) (o := 1) (v := .slice (some ⟨b1, o1, none⟩) n3 c1) HC2.out (by simp <;> omega) (by simp [go_sem])
          have qd0_2 := keep_cell (b := w.heap.size) (o := 2) (v := .slice (some ⟨b2, o2, none⟩) n3 c2) HC2.out (by simp <;> omega) (by simp [go_sem])
          have qd0_3 := keep_cell (b := w.heap.size) (o := 3) (v := .slice (some ⟨b3, o3, none⟩) n3 c3) HC2.out (by simp <;> omega) (by simp [go_sem])
          go_wp2_with fail
          refine (span_any (m / 1440) false _ (HE.out.to HB2.out) HO.out (by omega) (by omega)).mono ?_
          rintro e w3 ⟨rfl, hb3⟩
          obtain ⟨hc3, hf3⟩ := bcell hb3
          have HB3 := Lib.hid (bjoin HB2.out hb3)
          have HC3 := Lib.hid (bjoin HC2.out hb3); clear hb3
          generalize hAA : begF L D R S (m / 1440) false = AA at *
          generalize hGG : lastF L D R S (m / 1440) false = GG at *
          have HAA := Lib.hid hAA; have HGG := Lib.hid hGG; clear hAA hGG
          have hsub : AA + GG - AA = GG := by omega
          have rc0 := keep_cell (b := w.heap.size + 1) (o := 0) (v := .bool false) HC3.out (by simp <;> omega) (by simp [go_sem])
          have rf0 := keep_fr (b := w.heap.size + 1) (o := 0) HC3.out (by simp <;> omega) (by simp [go_sem])
          have rc1 := keep_cell (b := w.heap.size + 1) (o := 1) (v := .int .i64 0) HC3.out (by simp <;> omega) (by simp [go_sem])
          have rf1 := keep_fr (b := w.heap.size + 1) (o := 1) HC3.out (by simp <;> omega) (by simp [go_sem])
          have rc2 := keep_cell (b := w.heap.size + 1) (o := 2) (v := .int .i64 0) HC3.out (by simp <;> omega) (by simp [go_sem])
          have rf2 := keep_fr (b := w.heap.size + 1) (o := 2) HC3.out (by simp <;> omega) (by simp [go_sem])
          have rl := keep_lt (b := w.heap.size + 1) HC3.out (by simp)
          go_wp2
          refine bodyPost_ret (v := .tuple #[.int .i64 (m / 1440), .agg #[.bool (false), .int .i64 ((m - AA) * 720 / GG / 60), .int .i64 ((m - AA) * 720 / GG % 60)], .int .i64 (0)]) (by simp [results, Tryd.results55, go_sem, rc0, rc1, rc2]) rfl ?_
          exact ⟨ret_later_ok HP.out T1.out.symm T2.out.symm (by have := T3.out; omega) (by have := T3.out; omega), (((HB3.out).setCell (p := ⟨w.heap.size + 1, 0, none⟩) (by simp; try omega) _).setCell (p := ⟨w.heap.size + 1, 1, none⟩) (by simp; try omega) _).setCell (p := ⟨w.heap.size + 1, 2, none⟩) (by simp; try omega) _⟩
      
  · have hck := ck_no hok
    have HP := Lib.hid (toldE_season (m := m) hok)
    have HS := Lib.hid hs; clear hs hok
    go_enter Tryd.func55, Tryd.ntmps55
    go_wp2_with fail
    refine (check_any _ (HS.out.to (by go_grown)).D (HS.out.to (by go_grown)).R (HS.out.to (by go_grown)).S HS.out.d HS.out.r HS.out.s).mono ?_
    rintro e w1 ⟨rfl, hb1⟩
    obtain ⟨hc, hf⟩ := bcell hb1
    have HB := Lib.hid (bjoin (w := w) (by go_grown) hb1)
    have HC := Lib.hid hb1; clear hb1
    have rc0 := keep_cell (b := w.heap.size + 1) (o := 0) (v := .bool false) HC.out (by simp <;> omega) (by simp [go_sem])
    have rf0 := keep_fr (b := w.heap.size + 1) (o := 0) HC.out (by simp <;> omega) (by simp [go_sem])
    have rc1 := keep_cell (b := w.heap.size + 1) (o := 1) (v := .int .i64 0) HC.out (by simp <;> omega) (by simp [go_sem])
    have rf1 := keep_fr (b := w.heap.size + 1) (o := 1) HC.out (by simp <;> omega) (by simp [go_sem])
    have rc2 := keep_cell (b := w.heap.size + 1) (o := 2) (v := .int .i64 0) HC.out (by simp <;> omega) (by simp [go_sem])
    have rf2 := keep_fr (b := w.heap.size + 1) (o := 2) HC.out (by simp <;> omega) (by simp [go_sem])
    have rl := keep_lt (b := w.heap.size + 1) HC.out (by simp)
    go_wp2
    refine bodyPost_ret (v := .tuple #[.int .i64 (0), .agg #[.bool (false), .int .i64 (0), .int .i64 (0)], .int .i64 (50)]) (by simp [results, Tryd.results55, go_sem, rc0, rc1, rc2]) rfl ?_
    exact ⟨ret_later_no HP.out (by decide), (((HB.out).setCell (p := ⟨w.heap.size + 1, 0, none⟩) (by simp; try omega) _).setCell (p := ⟨w.heap.size + 1, 1, none⟩) (by simp; try omega) _).setCell (p := ⟨w.heap.size + 1, 2, none⟩) (by simp; try omega) _⟩
end Go.Proofs.YtomlfliebolkmaaDoor
