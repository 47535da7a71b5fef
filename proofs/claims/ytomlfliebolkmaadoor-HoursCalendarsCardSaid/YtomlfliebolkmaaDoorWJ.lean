/-
  The hour with a number; its order; Later in the program, by contract. No condition beyond what each states.
-/
import Derived.Test.YtomlfliebolkmaaDoorWH
namespace Go.Proofs.YtomlfliebolkmaaDoor
open Go Go.Proofs Go.RowKit Pl

/-- The hour with a number below 1440. -/
def hourV (n : Int) : Value := .agg #[.bool (decide (720 ≤ n)), .int .i64 (n / 60 % 12), .int .i64 (n % 60)]
theorem ret_hr {b b' : Bool} {x x' y y' : Int} (h1 : b = b') (h2 : x = x') (h3 : y = y') : Ending.returned (.agg #[.bool b, .int .i64 x, .int .i64 y]) = .returned (.agg #[.bool b', .int .i64 x', .int .i64 y']) := by rw [h1, h2, h3]

theorem hour_any (n : Int) (w : World) (hn : 0 ≤ n ∧ n ≤ 1440) : Calls Tryd.prog 84 #[.int .i64 n] w fun e w' => e = .returned (.agg #[.bool (decide (720 ≤ n)), .int .i64 (n / 60 % 12), .int .i64 (n % 60)]) ∧ Below w.heap.size w w' := by
  go_enter Tryd.func84, Tryd.ntmps84
  go_wp2
  go_returns
  exact ⟨rfl, by go_grown⟩

theorem Order_any (day : Int) (b : Bool) (h p : Int) (w : World) (hd : 0 ≤ day ∧ day ≤ 100000) (hh : 0 ≤ h ∧ h ≤ 11) (hp : 0 ≤ p ∧ p ≤ 59) : Calls Tryd.prog 57 #[.int .i64 day, .agg #[.bool b, .int .i64 h, .int .i64 p]] w fun e w' => e = .returned (.int .i64 (ord day b h p)) ∧ Below w.heap.size w w' := by
  cases b
  · go_enter Tryd.func57, Tryd.ntmps57
    go_wp2
    go_ret
    exact ⟨ret_int (by simp [ord]; omega), by go_grown⟩
  · go_enter Tryd.func57, Tryd.ntmps57
    go_wp2
    go_ret
    exact ⟨ret_int (by simp [ord]; omega), by go_grown⟩

/-- A Boolean where there is no error. -/
def onB (e : Int) (b : Bool) : Bool := decide (e = 0) && b
theorem onB_ok (b : Bool) : onB 0 b = b := by unfold onB; simp
theorem onB_no {e : Int} (h : e ≠ 0) (b : Bool) : onB e b = false := by unfold onB; simp [h]
/-- The number of an hour k hours later, and the error. -/
def laterN (day : Int) (b : Bool) (h p k : Int) : Int := ord day b h p + 60 * k
def laterE (a k n : Int) : Int := if a ≠ 0 then a else if wi k (-300000) 300000 = false then 1 else if n < 0 ∨ 11000 < n / 1440 then 4 else 0
theorem ret_later {x x' : Int} {b b' : Bool} {y y' z z' e e' : Int} (h1 : x = x') (h2 : b = b') (h3 : y = y') (h4 : z = z') (h5 : e = e') :
    Ending.returned (.tuple #[.int .i64 x, .agg #[.bool b, .int .i64 y, .int .i64 z], .int .i64 e]) = .returned (.tuple #[.int .i64 x', .agg #[.bool b', .int .i64 y', .int .i64 z'], .int .i64 e']) := by rw [h1, h2, h3, h4, h5]
theorem ret_later_no {x : Int} {b : Bool} {y z e e' : Int} (h : e' = e) (he : e ≠ 0) :
    Ending.returned (.tuple #[.int .i64 0, .agg #[.bool false, .int .i64 0, .int .i64 0], .int .i64 e]) = .returned (.tuple #[.int .i64 (onOk e' x), .agg #[.bool (onB e' b), .int .i64 (onOk e' y), .int .i64 (onOk e' z)], .int .i64 e']) := by
  subst h; rw [onOk_no he, onB_no he, onOk_no he, onOk_no he]
theorem ret_later_ok {x x' : Int} {b b' : Bool} {y y' z z' e' : Int} (h : e' = 0) (h1 : x = x') (h2 : b = b') (h3 : y = y') (h4 : z = z') :
    Ending.returned (.tuple #[.int .i64 x, .agg #[.bool b, .int .i64 y, .int .i64 z], .int .i64 0]) = .returned (.tuple #[.int .i64 (onOk e' x'), .agg #[.bool (onB e' b'), .int .i64 (onOk e' y'), .int .i64 (onOk e' z')], .int .i64 e']) := by
  subst h h1 h2 h3 h4; rw [onB_ok]; rfl

set_option maxHeartbeats 2000000 in
theorem Later_any {L : Int} {n1 n2 n3 c1 c2 c3 : Nat} {a1 a2 a3 : Option Addr} {D R S : List Int} (day : Int) (b : Bool) (h p k : Int) (w : World) (hs : SeaO w a1 n1 a2 n2 a3 n3 D R S) :
   Calls Tryd.prog 28 #[.agg #[.int .i64 L, .slice a1 n1 c1, .slice a2 n2 c2, .slice a3 n3 c3], .int .i64 day, .agg #[.bool b, .int .i64 h, .int .i64 p], .int .i64 k] w
     fun e w' => e = .returned (.tuple #[.int .i64 (onOk (laterE (askH L D R S day h p) k (laterN day b h p k)) (laterN day b h p k / 1440)), .agg #[.bool (onB (laterE (askH L D R S day h p) k (laterN day b h p k)) (decide (720 ≤ laterN day b h p k % 1440))), .int .i64 (onOk (laterE (askH L D R S day h p) k (laterN day b h p k)) (laterN day b h p k % 1440 / 60 % 12)), .int .i64 (onOk (laterE (askH L D R S day h p) k (laterN day b h p k)) (laterN day b h p k % 60))], .int .i64 (laterE (askH L D R S day h p) k (laterN day b h p k))]) ∧ Below w.heap.size w w' := by
  rcases askH_or L D R S day h p with ⟨hA, hok, hday, hh, hp⟩ | hA
  · have HS := Lib.hid hs; clear hs hok
    cases hwi : wi k (-300000) 300000
    · have HP := Lib.hid (show laterE (askH L D R S day h p) k (laterN day b h p k) = 1 by unfold laterE; rw [hA, if_neg (by decide), if_pos hwi])
      go_enter Tryd.func28, Tryd.ntmps28
      go_wp2_with fail
      refine (asks_any day _ h p _ (HS.out.to (by go_grown))).mono ?_
      rintro e w1 ⟨rfl, hb1⟩
      rw [hA]
      obtain ⟨hc, hf⟩ := bcell hb1
      have HB := Lib.hid (bjoin (w := w) (by go_grown) hb1)
      have HC := Lib.hid hb1; clear hb1
      have rc0 := keep_cell (b := w.heap.size + 1 + 1) (o := 0) (v := .bool false) HC.out (by simp <;> omega) (by simp [go_sem])
      have rf0 := keep_fr (b := w.heap.size + 1 + 1) (o := 0) HC.out (by simp <;> omega) (by simp [go_sem])
      have rc1 := keep_cell (b := w.heap.size + 1 + 1) (o := 1) (v := .int .i64 0) HC.out (by simp <;> omega) (by simp [go_sem])
      have rf1 := keep_fr (b := w.heap.size + 1 + 1) (o := 1) HC.out (by simp <;> omega) (by simp [go_sem])
      have rc2 := keep_cell (b := w.heap.size + 1 + 1) (o := 2) (v := .int .i64 0) HC.out (by simp <;> omega) (by simp [go_sem])
      have rf2 := keep_fr (b := w.heap.size + 1 + 1) (o := 2) HC.out (by simp <;> omega) (by simp [go_sem])
      have rl := keep_lt (b := w.heap.size + 1 + 1) HC.out (by simp)
      go_wp2_with (go_at_call 77; refine (within_any _ _ _ _).mono ?_; rintro e w2 ⟨rfl, rfl⟩)
      refine bodyPost_ret (v := .tuple #[.int .i64 (0), .agg #[.bool (false), .int .i64 (0), .int .i64 (0)], .int .i64 (1)]) (by simp [results, Tryd.results28, go_sem, rc0, rc1, rc2]) rfl ?_
      exact ⟨ret_later_no HP.out (by decide), (((HB.out).setCell (p := ⟨w.heap.size + 1 + 1, 0, none⟩) (by simp; try omega) _).setCell (p := ⟨w.heap.size + 1 + 1, 1, none⟩) (by simp; try omega) _).setCell (p := ⟨w.heap.size + 1 + 1, 2, none⟩) (by simp; try omega) _⟩
    · have hk := (wi_iff _ _ _).1 hwi
      have hN : laterN day b h p k = 60 * (24 * day + h + k + (if b then 12 else 0)) + p := by unfold laterN ord; cases b <;> simp <;> omega
      cases b
      · have hN' : laterN day false h p k = 60 * (24 * day + h + k) + p := by rw [hN]; simp <;> omega
        clear hN
        by_cases hbad : (24 * day + h + k) / 24 < 0 ∨ 11000 < (24 * day + h + k) / 24
        · have HP := Lib.hid (show laterE (askH L D R S day h p) k (laterN day false h p k) = 4 by unfold laterE; rw [hA, if_neg (by decide), if_neg (by rw [hwi]; decide), if_pos (by rw [hN']; omega)])
          have hwd : wi ((24 * day + h + k) / 24) 0 11000 = false := wi_no (by omega)
          clear hN' hbad
          go_enter Tryd.func28, Tryd.ntmps28
          go_wp2_with fail
          refine (asks_any day _ h p _ (HS.out.to (by go_grown))).mono ?_
          rintro e w1 ⟨rfl, hb1⟩
          rw [hA]
          obtain ⟨hc, hf⟩ := bcell hb1
          have HB := Lib.hid (bjoin (w := w) (by go_grown) hb1)
          have HC := Lib.hid hb1; clear hb1
          have rc0 := keep_cell (b := w.heap.size + 1 + 1) (o := 0) (v := .bool false) HC.out (by simp <;> omega) (by simp [go_sem])
          have rf0 := keep_fr (b := w.heap.size + 1 + 1) (o := 0) HC.out (by simp <;> omega) (by simp [go_sem])
          have rc1 := keep_cell (b := w.heap.size + 1 + 1) (o := 1) (v := .int .i64 0) HC.out (by simp <;> omega) (by simp [go_sem])
          have rf1 := keep_fr (b := w.heap.size + 1 + 1) (o := 1) HC.out (by simp <;> omega) (by simp [go_sem])
          have rc2 := keep_cell (b := w.heap.size + 1 + 1) (o := 2) (v := .int .i64 0) HC.out (by simp <;> omega) (by simp [go_sem])
          have rf2 := keep_fr (b := w.heap.size + 1 + 1) (o := 2) HC.out (by simp <;> omega) (by simp [go_sem])
          have rl := keep_lt (b := w.heap.size + 1 + 1) HC.out (by simp)
          go_wp2_with (first | (go_at_call 77; refine (within_any _ _ _ _).mono ?_; rintro e w2 ⟨rfl, rfl⟩) | (go_at_call 81; refine (down_any _ _ _ (by omega) (by omega) (by omega)).mono ?_; rintro e w2 ⟨rfl, rfl⟩) | (go_at_call 82; refine (isDay_any _ _).mono ?_; rintro e w2 ⟨rfl, rfl⟩))
          refine bodyPost_ret (v := .tuple #[.int .i64 (0), .agg #[.bool (false), .int .i64 (0), .int .i64 (0)], .int .i64 (4)]) (by simp [results, Tryd.results28, go_sem, rc0, rc1, rc2]) rfl ?_
          exact ⟨ret_later_no HP.out (by decide), (((HB.out).setCell (p := ⟨w.heap.size + 1 + 1, 0, none⟩) (by simp; try omega) _).setCell (p := ⟨w.heap.size + 1 + 1, 1, none⟩) (by simp; try omega) _).setCell (p := ⟨w.heap.size + 1 + 1, 2, none⟩) (by simp; try omega) _⟩
        · have HP := Lib.hid (show laterE (askH L D R S day h p) k (laterN day false h p k) = 0 by unfold laterE; rw [hA, if_neg (by decide), if_neg (by rw [hwi]; decide), if_neg (by rw [hN']; omega)])
          have hwd : wi ((24 * day + h + k) / 24) 0 11000 = true := wi_mk (by omega)
          have HN := Lib.hid hN'
          clear hN'
          go_enter Tryd.func28, Tryd.ntmps28
          go_wp2_with fail
          refine (asks_any day _ h p _ (HS.out.to (by go_grown))).mono ?_
          rintro e w1 ⟨rfl, hb1⟩
          rw [hA]
          obtain ⟨hc, hf⟩ := bcell hb1
          have HB := Lib.hid (bjoin (w := w) (by go_grown) hb1)
          have HC := Lib.hid hb1; clear hb1
          have rc0 := keep_cell (b := w.heap.size + 1 + 1) (o := 0) (v := .bool false) HC.out (by simp <;> omega) (by simp [go_sem])
          have rf0 := keep_fr (b := w.heap.size + 1 + 1) (o := 0) HC.out (by simp <;> omega) (by simp [go_sem])
          have rc1 := keep_cell (b := w.heap.size + 1 + 1) (o := 1) (v := .int .i64 0) HC.out (by simp <;> omega) (by simp [go_sem])
          have rf1 := keep_fr (b := w.heap.size + 1 + 1) (o := 1) HC.out (by simp <;> omega) (by simp [go_sem])
          have rc2 := keep_cell (b := w.heap.size + 1 + 1) (o := 2) (v := .int .i64 0) HC.out (by simp <;> omega) (by simp [go_sem])
          have rf2 := keep_fr (b := w.heap.size + 1 + 1) (o := 2) HC.out (by simp <;> omega) (by simp [go_sem])
          have rl := keep_lt (b := w.heap.size + 1 + 1) HC.out (by simp)
          go_wp2_with (first | (go_at_call 77; refine (within_any _ _ _ _).mono ?_; rintro e w2 ⟨rfl, rfl⟩) | (go_at_call 81; refine (down_any _ _ _ (by omega) (by omega) (by omega)).mono ?_; rintro e w2 ⟨rfl, rfl⟩) | (go_at_call 82; refine (isDay_any _ _).mono ?_; rintro e w2 ⟨rfl, rfl⟩))
          go_region
          go_wp2
          refine bodyPost_ret (v := .tuple #[.int .i64 ((24 * day + h + k) / 24), .agg #[.bool (decide (12 ≤ (24 * day + h + k) - 24 * ((24 * day + h + k) / 24))), .int .i64 (((24 * day + h + k) - 24 * ((24 * day + h + k) / 24)) % 12), .int .i64 (p)], .int .i64 (0)]) (by simp [results, Tryd.results28, go_sem, rc0, rc1, rc2]) rfl ?_
          exact ⟨ret_later_ok HP.out (by rw [HN.out]; omega) (by rw [HN.out]; apply decide_eq_decide.2; omega) (by rw [HN.out]; omega) (by rw [HN.out]; omega), (((HB.out.drew).setCell (p := ⟨w.heap.size + 1 + 1, 0, none⟩) (by simp; try omega) _).setCell (p := ⟨w.heap.size + 1 + 1, 1, none⟩) (by simp; try omega) _).setCell (p := ⟨w.heap.size + 1 + 1, 2, none⟩) (by simp; try omega) _⟩
      
      · have hN' : laterN day true h p k = 60 * (24 * day + h + k + 12) + p := by rw [hN]; simp <;> omega
        clear hN
        by_cases hbad : (24 * day + h + k + 12) / 24 < 0 ∨ 11000 < (24 * day + h + k + 12) / 24
        · have HP := Lib.hid (show laterE (askH L D R S day h p) k (laterN day true h p k) = 4 by unfold laterE; rw [hA, if_neg (by decide), if_neg (by rw [hwi]; decide), if_pos (by rw [hN']; omega)])
          have hwd : wi ((24 * day + h + k + 12) / 24) 0 11000 = false := wi_no (by omega)
          clear hN' hbad
          go_enter Tryd.func28, Tryd.ntmps28
          go_wp2_with fail
          refine (asks_any day _ h p _ (HS.out.to (by go_grown))).mono ?_
          rintro e w1 ⟨rfl, hb1⟩
          rw [hA]
          obtain ⟨hc, hf⟩ := bcell hb1
          have HB := Lib.hid (bjoin (w := w) (by go_grown) hb1)
          have HC := Lib.hid hb1; clear hb1
          have rc0 := keep_cell (b := w.heap.size + 1 + 1) (o := 0) (v := .bool false) HC.out (by simp <;> omega) (by simp [go_sem])
          have rf0 := keep_fr (b := w.heap.size + 1 + 1) (o := 0) HC.out (by simp <;> omega) (by simp [go_sem])
          have rc1 := keep_cell (b := w.heap.size + 1 + 1) (o := 1) (v := .int .i64 0) HC.out (by simp <;> omega) (by simp [go_sem])
          have rf1 := keep_fr (b := w.heap.size + 1 + 1) (o := 1) HC.out (by simp <;> omega) (by simp [go_sem])
          have rc2 := keep_cell (b := w.heap.size + 1 + 1) (o := 2) (v := .int .i64 0) HC.out (by simp <;> omega) (by simp [go_sem])
          have rf2 := keep_fr (b := w.heap.size + 1 + 1) (o := 2) HC.out (by simp <;> omega) (by simp [go_sem])
          have rl := keep_lt (b := w.heap.size + 1 + 1) HC.out (by simp)
          go_wp2_with (first | (go_at_call 77; refine (within_any _ _ _ _).mono ?_; rintro e w2 ⟨rfl, rfl⟩) | (go_at_call 81; refine (down_any _ _ _ (by omega) (by omega) (by omega)).mono ?_; rintro e w2 ⟨rfl, rfl⟩) | (go_at_call 82; refine (isDay_any _ _).mono ?_; rintro e w2 ⟨rfl, rfl⟩))
          refine bodyPost_ret (v := .tuple #[.int .i64 (0), .agg #[.bool (false), .int .i64 (0), .int .i64 (0)], .int .i64 (4)]) (by simp [results, Tryd.results28, go_sem, rc0, rc1, rc2]) rfl ?_
          exact ⟨ret_later_no HP.out (by decide), (((HB.out).setCell (p := ⟨w.heap.size + 1 + 1, 0, none⟩) (by simp; try omega) _).setCell (p := ⟨w.heap.size + 1 + 1, 1, none⟩) (by simp; try omega) _).setCell (p := ⟨w.heap.size + 1 + 1, 2, none⟩) (by simp; try omega) _⟩
        · have HP := Lib.hid (show laterE (askH L D R S day h p) k (laterN day true h p k) = 0 by unfold laterE; rw [hA, if_neg (by decide), if_neg (by rw [hwi]; decide), if_neg (by rw [hN']; omega)])
          have hwd : wi ((24 * day + h + k + 12) / 24) 0 11000 = true := wi_mk (by omega)
          have HN := Lib.hid hN'
          clear hN'
          go_enter Tryd.func28, Tryd.ntmps28
          go_wp2_with fail
          refine (asks_any day _ h p _ (HS.out.to (by go_grown))).mono ?_
          rintro e w1 ⟨rfl, hb1⟩
          rw [hA]
          obtain ⟨hc, hf⟩ := bcell hb1
          have HB := Lib.hid (bjoin (w := w) (by go_grown) hb1)
          have HC := Lib.hid hb1; clear hb1
          have rc0 := keep_cell (b := w.heap.size + 1 + 1) (o := 0) (v := .bool false) HC.out (by simp <;> omega) (by simp [go_sem])
          have rf0 := keep_fr (b := w.heap.size + 1 + 1) (o := 0) HC.out (by simp <;> omega) (by simp [go_sem])
          have rc1 := keep_cell (b := w.heap.size + 1 + 1) (o := 1) (v := .int .i64 0) HC.out (by simp <;> omega) (by simp [go_sem])
          have rf1 := keep_fr (b := w.heap.size + 1 + 1) (o := 1) HC.out (by simp <;> omega) (by simp [go_sem])
          have rc2 := keep_cell (b := w.heap.size + 1 + 1) (o := 2) (v := .int .i64 0) HC.out (by simp <;> omega) (by simp [go_sem])
          have rf2 := keep_fr (b := w.heap.size + 1 + 1) (o := 2) HC.out (by simp <;> omega) (by simp [go_sem])
          have rl := keep_lt (b := w.heap.size + 1 + 1) HC.out (by simp)
          go_wp2_with (first | (go_at_call 77; refine (within_any _ _ _ _).mono ?_; rintro e w2 ⟨rfl, rfl⟩) | (go_at_call 81; refine (down_any _ _ _ (by omega) (by omega) (by omega)).mono ?_; rintro e w2 ⟨rfl, rfl⟩) | (go_at_call 82; refine (isDay_any _ _).mono ?_; rintro e w2 ⟨rfl, rfl⟩))
          go_region
          go_wp2
          refine bodyPost_ret (v := .tuple #[.int .i64 ((24 * day + h + k + 12) / 24), .agg #[.bool (decide (12 ≤ (24 * day + h + k + 12) - 24 * ((24 * day + h + k + 12) / 24))), .int .i64 (((24 * day + h + k + 12) - 24 * ((24 * day + h + k + 12) / 24)) % 12), .int .i64 (p)], .int .i64 (0)]) (by simp [results, Tryd.results28, go_sem, rc0, rc1, rc2]) rfl ?_
          exact ⟨ret_later_ok HP.out (by rw [HN.out]; omega) (by rw [HN.out]; apply decide_eq_decide.2; omega) (by rw [HN.out]; omega) (by rw [HN.out]; omega), (((HB.out.drew).setCell (p := ⟨w.heap.size + 1 + 1, 0, none⟩) (by simp; try omega) _).setCell (p := ⟨w.heap.size + 1 + 1, 1, none⟩) (by simp; try omega) _).setCell (p := ⟨w.heap.size + 1 + 1, 2, none⟩) (by simp; try omega) _⟩
  · have HS := Lib.hid hs; clear hs
    generalize hG : askH L D R S day h p = A at hA ⊢
    have HG := Lib.hid hG; clear hG
    have hA1 : (A != 0) = true := by rw [bne_iff_ne]; exact hA
    have HP := Lib.hid (show laterE A k (laterN day b h p k) = A by unfold laterE; rw [if_pos hA])
    go_enter Tryd.func28, Tryd.ntmps28
    go_wp2_with fail
    refine (asks_any day _ h p _ (HS.out.to (by go_grown))).mono ?_
    rintro e w1 ⟨rfl, hb1⟩
    rw [HG.out]
    obtain ⟨hc, hf⟩ := bcell hb1
    have HB := Lib.hid (bjoin (w := w) (by go_grown) hb1)
    have HC := Lib.hid hb1; clear hb1
    have rc0 := keep_cell (b := w.heap.size + 1 + 1) (o := 0) (v := .bool false) HC.out (by simp <;> omega) (by simp [go_sem])
    have rf0 := keep_fr (b := w.heap.size + 1 + 1) (o := 0) HC.out (by simp <;> omega) (by simp [go_sem])
    have rc1 := keep_cell (b := w.heap.size + 1 + 1) (o := 1) (v := .int .i64 0) HC.out (by simp <;> omega) (by simp [go_sem])
    have rf1 := keep_fr (b := w.heap.size + 1 + 1) (o := 1) HC.out (by simp <;> omega) (by simp [go_sem])
    have rc2 := keep_cell (b := w.heap.size + 1 + 1) (o := 2) (v := .int .i64 0) HC.out (by simp <;> omega) (by simp [go_sem])
    have rf2 := keep_fr (b := w.heap.size + 1 + 1) (o := 2) HC.out (by simp <;> omega) (by simp [go_sem])
    have rl := keep_lt (b := w.heap.size + 1 + 1) HC.out (by simp)
    go_wp2
    refine bodyPost_ret (v := .tuple #[.int .i64 (0), .agg #[.bool (false), .int .i64 (0), .int .i64 (0)], .int .i64 (A)]) (by simp [results, Tryd.results28, go_sem, rc0, rc1, rc2]) rfl ?_
    exact ⟨ret_later_no HP.out hA, (((HB.out).setCell (p := ⟨w.heap.size + 1 + 1, 0, none⟩) (by simp; try omega) _).setCell (p := ⟨w.heap.size + 1 + 1, 1, none⟩) (by simp; try omega) _).setCell (p := ⟨w.heap.size + 1 + 1, 2, none⟩) (by simp; try omega) _⟩
end Go.Proofs.YtomlfliebolkmaaDoor
