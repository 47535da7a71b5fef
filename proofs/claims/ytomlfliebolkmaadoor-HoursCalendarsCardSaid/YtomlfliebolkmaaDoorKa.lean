/-
  The functions at a valid season, day and hour; right and exact, by contract. No condition beyond what each states.
-/
import Derived.Test.YtomlfliebolkmaaDoorCI
set_option linter.unusedVariables false
set_option linter.unusedSimpArgs false
namespace Go.Proofs.YtomlfliebolkmaaDoor
open Go Go.Proofs Go.RowKit Pl

theorem Rise_ok {L : Int} {n1 n2 n3 c1 c2 c3 : Nat} {a1 a2 a3 : Option Addr} {D R S : List Int} (day : Int) (w : World) (hs : SeaO w a1 n1 a2 n2 a3 n3 D R S) (hok : Ok L D R S) (hd : 0 ≤ day ∧ day ≤ 11000) :
   Calls Tryd.prog 20 #[.agg #[.int .i64 L, .slice a1 n1 c1, .slice a2 n2 c2, .slice a3 n3 c3], .int .i64 day] w fun e w' => e = .returned (.tuple #[.int .i64 (riseF L D R day), .int .i64 0]) ∧ Below w.heap.size w w' := by
  have k := Rise_any (L := L) (c1 := c1) (c2 := c2) (c3 := c3) day w hs
  rw [askH_ok day 0 0 hok (wi_mk hd) hrOk_zero] at k
  simpa only [onOk_ok] using k

theorem Set_ok {L : Int} {n1 n2 n3 c1 c2 c3 : Nat} {a1 a2 a3 : Option Addr} {D R S : List Int} (day : Int) (w : World) (hs : SeaO w a1 n1 a2 n2 a3 n3 D R S) (hok : Ok L D R S) (hd : 0 ≤ day ∧ day ≤ 11000) :
   Calls Tryd.prog 22 #[.agg #[.int .i64 L, .slice a1 n1 c1, .slice a2 n2 c2, .slice a3 n3 c3], .int .i64 day] w fun e w' => e = .returned (.tuple #[.int .i64 (riseF L D S day), .int .i64 0]) ∧ Below w.heap.size w w' := by
  have k := Set_any (L := L) (c1 := c1) (c2 := c2) (c3 := c3) day w hs
  rw [askH_ok day 0 0 hok (wi_mk hd) hrOk_zero] at k
  simpa only [onOk_ok] using k

theorem Length_ok {L : Int} {n1 n2 n3 c1 c2 c3 : Nat} {a1 a2 a3 : Option Addr} {D R S : List Int} (day : Int) (night : Bool) (w : World) (hs : SeaO w a1 n1 a2 n2 a3 n3 D R S) (hok : Ok L D R S) (hd : 0 ≤ day ∧ day ≤ 11000) :
   Calls Tryd.prog 24 #[.agg #[.int .i64 L, .slice a1 n1 c1, .slice a2 n2 c2, .slice a3 n3 c3], .int .i64 day, .bool night] w fun e w' => e = .returned (.tuple #[.agg #[.int .i64 (lastF L D R S day night / gF (lastF L D R S day night) 12), .int .i64 (12 / gF (lastF L D R S day night) 12)], .int .i64 0]) ∧ Below w.heap.size w w' := by
  have k := Length_any (L := L) (c1 := c1) (c2 := c2) (c3 := c3) day night w hs
  rw [askH_ok day 0 0 hok (wi_mk hd) hrOk_zero] at k
  simpa only [onOk_ok] using k

theorem First_ok {L : Int} {n1 n2 n3 c1 c2 c3 : Nat} {a1 a2 a3 : Option Addr} {D R S : List Int} (day : Int) (b : Bool) (h p : Int) (w : World) (hs : SeaO w a1 n1 a2 n2 a3 n3 D R S) (hok : Ok L D R S) (hd : 0 ≤ day ∧ day ≤ 11000) (hh : (0 ≤ h ∧ h ≤ 11) ∧ (0 ≤ p ∧ p ≤ 59)) :
   Calls Tryd.prog 54 #[.agg #[.int .i64 L, .slice a1 n1 c1, .slice a2 n2 c2, .slice a3 n3 c3], .int .i64 day, .agg #[.bool b, .int .i64 h, .int .i64 p]] w fun e w' => e = .returned (.tuple #[.int .i64 (upF (momF L D R S day b (60 * h + p))), .int .i64 0]) ∧ Below w.heap.size w w' := by
  have k := First_any (L := L) (c1 := c1) (c2 := c2) (c3 := c3) day b h p w hs
  rw [askH_ok day h p hok (wi_mk hd) ((hrOk_iff h p).2 hh)] at k
  simpa only [onOk_ok] using k

theorem Exact_ok {L : Int} {n1 n2 n3 c1 c2 c3 : Nat} {a1 a2 a3 : Option Addr} {D R S : List Int} (day : Int) (b : Bool) (h p : Int) (w : World) (hs : SeaO w a1 n1 a2 n2 a3 n3 D R S) (hok : Ok L D R S) (hd : 0 ≤ day ∧ day ≤ 11000) (hh : (0 ≤ h ∧ h ≤ 11) ∧ (0 ≤ p ∧ p ≤ 59)) :
   Calls Tryd.prog 60 #[.agg #[.int .i64 L, .slice a1 n1 c1, .slice a2 n2 c2, .slice a3 n3 c3], .int .i64 day, .agg #[.bool b, .int .i64 h, .int .i64 p]] w fun e w' => e = .returned (.tuple #[.agg #[.int .i64 (momF L D R S day b (60 * h + p) / gF (momF L D R S day b (60 * h + p)) 720), .int .i64 (720 / gF (momF L D R S day b (60 * h + p)) 720)], .int .i64 0]) ∧ Below w.heap.size w w' := by
  have k := Exact_any (L := L) (c1 := c1) (c2 := c2) (c3 := c3) day b h p w hs
  rw [askH_ok day h p hok (wi_mk hd) ((hrOk_iff h p).2 hh)] at k
  simpa only [onOk_ok] using k

theorem Later_ok {L : Int} {n1 n2 n3 c1 c2 c3 : Nat} {a1 a2 a3 : Option Addr} {D R S : List Int} (day : Int) (b : Bool) (h p k : Int) (w : World) (hs : SeaO w a1 n1 a2 n2 a3 n3 D R S) (hok : Ok L D R S) (hd : 0 ≤ day ∧ day ≤ 11000) (hh : (0 ≤ h ∧ h ≤ 11) ∧ (0 ≤ p ∧ p ≤ 59)) (hk : -300000 ≤ k ∧ k ≤ 300000) (hn : 0 ≤ laterN day b h p k ∧ laterN day b h p k / 1440 ≤ 11000) :
   Calls Tryd.prog 28 #[.agg #[.int .i64 L, .slice a1 n1 c1, .slice a2 n2 c2, .slice a3 n3 c3], .int .i64 day, .agg #[.bool b, .int .i64 h, .int .i64 p], .int .i64 k] w fun e w' => e = .returned (.tuple #[.int .i64 (laterN day b h p k / 1440), .agg #[.bool (decide (720 ≤ laterN day b h p k % 1440)), .int .i64 (laterN day b h p k % 1440 / 60 % 12), .int .i64 (laterN day b h p k % 60)], .int .i64 0]) ∧ Below w.heap.size w w' := by
  have c := Later_any (L := L) (c1 := c1) (c2 := c2) (c3 := c3) day b h p k w hs
  have e : laterE 0 k (laterN day b h p k) = 0 := by unfold laterE; rw [if_neg (by decide), wi_mk hk, if_neg (by decide), if_neg (by omega)]
  rw [askH_ok day h p hok (wi_mk hd) ((hrOk_iff h p).2 hh), e] at c
  simpa only [onOk_ok, onB_ok] using c
theorem Later_none {L : Int} {n1 n2 n3 c1 c2 c3 : Nat} {a1 a2 a3 : Option Addr} {D R S : List Int} (day : Int) (b : Bool) (h p k : Int) (w : World) (hs : SeaO w a1 n1 a2 n2 a3 n3 D R S) (hok : Ok L D R S) (hd : 0 ≤ day ∧ day ≤ 11000) (hh : (0 ≤ h ∧ h ≤ 11) ∧ (0 ≤ p ∧ p ≤ 59)) (hk : -300000 ≤ k ∧ k ≤ 300000) (hn : ¬ (0 ≤ laterN day b h p k ∧ laterN day b h p k / 1440 ≤ 11000)) :
   Calls Tryd.prog 28 #[.agg #[.int .i64 L, .slice a1 n1 c1, .slice a2 n2 c2, .slice a3 n3 c3], .int .i64 day, .agg #[.bool b, .int .i64 h, .int .i64 p], .int .i64 k] w fun e w' => e = .returned (.tuple #[.int .i64 0, .agg #[.bool false, .int .i64 0, .int .i64 0], .int .i64 4]) ∧ Below w.heap.size w w' := by
  have c := Later_any (L := L) (c1 := c1) (c2 := c2) (c3 := c3) day b h p k w hs
  have e : laterE 0 k (laterN day b h p k) = 4 := by unfold laterE; rw [if_neg (by decide), wi_mk hk, if_neg (by decide), if_pos (by omega)]
  rw [askH_ok day h p hok (wi_mk hd) ((hrOk_iff h p).2 hh), e] at c
  have h4 : (4 : Int) ≠ 0 := by decide
  simpa only [onOk_no h4, onB_no h4] using c

theorem Told_ok {L : Int} {n1 n2 n3 c1 c2 c3 : Nat} {a1 a2 a3 : Option Addr} {D R S : List Int} (m : Int) (w : World) (hs : SeaO w a1 n1 a2 n2 a3 n3 D R S) (hok : Ok L D R S) (hm : 0 ≤ m ∧ m ≤ 15840000) (hn : 0 ≤ toldN L D R S m) :
   Calls Tryd.prog 55 #[.agg #[.int .i64 L, .slice a1 n1 c1, .slice a2 n2 c2, .slice a3 n3 c3], .int .i64 m] w fun e w' => e = .returned (.tuple #[.int .i64 (toldN L D R S m / 1440), .agg #[.bool (decide (720 ≤ toldN L D R S m % 1440)), .int .i64 (toldN L D R S m % 1440 / 60 % 12), .int .i64 (toldN L D R S m % 60)], .int .i64 0]) ∧ Below w.heap.size w w' := by
  have c := Told_any (L := L) (c1 := c1) (c2 := c2) (c3 := c3) m w hs
  rw [toldE_ok hok (wi_mk hm) (by omega)] at c
  simpa only [onOk_ok, onB_ok] using c
theorem Told_none {L : Int} {n1 n2 n3 c1 c2 c3 : Nat} {a1 a2 a3 : Option Addr} {D R S : List Int} (m : Int) (w : World) (hs : SeaO w a1 n1 a2 n2 a3 n3 D R S) (hok : Ok L D R S) (hm : 0 ≤ m ∧ m ≤ 15840000) (hn : toldN L D R S m < 0) :
   Calls Tryd.prog 55 #[.agg #[.int .i64 L, .slice a1 n1 c1, .slice a2 n2 c2, .slice a3 n3 c3], .int .i64 m] w fun e w' => e = .returned (.tuple #[.int .i64 0, .agg #[.bool false, .int .i64 0, .int .i64 0], .int .i64 4]) ∧ Below w.heap.size w w' := by
  have c := Told_any (L := L) (c1 := c1) (c2 := c2) (c3 := c3) m w hs
  rw [toldE_none hok (wi_mk hm) hn] at c
  have h4 : (4 : Int) ≠ 0 := by decide
  simpa only [onOk_no h4, onB_no h4] using c

theorem Passed_ok {L : Int} {n1 n2 n3 c1 c2 c3 : Nat} {a1 a2 a3 : Option Addr} {D R S : List Int} (day : Int) (b : Bool) (h p : Int) (day' : Int) (b' : Bool) (h' p' : Int) (w : World) (hs : SeaO w a1 n1 a2 n2 a3 n3 D R S) (hok : Ok L D R S) (hd : 0 ≤ day ∧ day ≤ 11000) (hh : (0 ≤ h ∧ h ≤ 11) ∧ (0 ≤ p ∧ p ≤ 59)) (hd' : 0 ≤ day' ∧ day' ≤ 11000) (hh' : (0 ≤ h' ∧ h' ≤ 11) ∧ (0 ≤ p' ∧ p' ≤ 59)) (hn : 0 ≤ momF L D R S day' b' (60 * h' + p') - momF L D R S day b (60 * h + p)) :
   Calls Tryd.prog 30 #[.agg #[.int .i64 L, .slice a1 n1 c1, .slice a2 n2 c2, .slice a3 n3 c3], .int .i64 day, .agg #[.bool b, .int .i64 h, .int .i64 p], .int .i64 day', .agg #[.bool b', .int .i64 h', .int .i64 p']] w fun e w' => e = .returned (.tuple #[.agg #[.int .i64 ((momF L D R S day' b' (60 * h' + p') - momF L D R S day b (60 * h + p)) / 720), .int .i64 (upF (momF L D R S day' b' (60 * h' + p') - momF L D R S day b (60 * h + p)))], .int .i64 0]) ∧ Below w.heap.size w w' := by
  have c := Passed_any (L := L) (c1 := c1) (c2 := c2) (c3 := c3) day b h p day' b' h' p' w hs
  have e : passE 0 0 (momF L D R S day' b' (60 * h' + p') - momF L D R S day b (60 * h + p)) = 0 := by unfold passE; rw [if_neg (by decide), if_neg (by decide), if_neg (by omega)]
  rw [askH_ok day h p hok (wi_mk hd) ((hrOk_iff h p).2 hh), askH_ok day' h' p' hok (wi_mk hd') ((hrOk_iff h' p').2 hh'), e] at c
  simpa only [onOk_ok] using c
theorem Longest_ok {L : Int} {n1 n2 n3 c1 c2 c3 : Nat} {a1 a2 a3 : Option Addr} {D R S : List Int} (w : World) (hs : SeaO w a1 n1 a2 n2 a3 n3 D R S) (hok : Ok L D R S) :
   Calls Tryd.prog 32 #[.agg #[.int .i64 L, .slice a1 n1 c1, .slice a2 n2 c2, .slice a3 n3 c3]] w fun e w' => e = .returned (.tuple #[.int .i64 (amax (lightF L D R S) (topF L)), .int .i64 (amin (lightF L D R S) (topF L)), .int .i64 0]) ∧ Below w.heap.size w w' := by
  have c := Longest_any (L := L) (c1 := c1) (c2 := c2) (c3 := c3) w hs
  rw [ck_yes hok] at c
  simpa only [onOk_ok] using c


theorem lt_or_ge_x (a b : Int) : a < b ∨ b ≤ a := by omega
/-- What exact answers: the moment in 720ths of a minute, or -1. -/
noncomputable def exactF (L : Int) (D R S : List Int) (day : Int) (b : Bool) (h p : Int) : Int := if askH L D R S day h p = 0 then momF L D R S day b (60 * h + p) else -1

theorem gF_facts (M : Int) (hM : 0 ≤ M) : 1 ≤ gF M 720 ∧ gF M 720 ≤ 720 ∧ 1 ≤ 720 / gF M 720 ∧ 720 / gF M 720 ≤ 720 ∧ (720 : Int) % (720 / gF M 720) = 0 ∧ 720 / (720 / gF M 720) = gF M 720 ∧ M / gF M 720 * gF M 720 = M := by
  have h1 := gF_pos M 720 (by decide)
  obtain ⟨k, hk⟩ := gF_dvd_right M 720 (by decide)
  obtain ⟨j, hj⟩ := gF_dvd_left M 720 hM
  have hg : gF M 720 ≤ 720 := Int.le_of_dvd (by decide) (gF_dvd_right M 720 (by decide))
  have hd : (720 : Int) / gF M 720 = k := Int.ediv_eq_of_eq_mul_right (by omega) hk
  have hkp : 0 < k := by
    rcases lt_or_ge_x 0 k with h | h
    · exact h
    · have := Int.mul_le_mul_of_nonneg_left h (Int.le_of_lt h1); rw [← hk, Int.mul_zero] at this; omega
  have hkl : k ≤ 720 := Int.le_of_dvd (by decide) ⟨gF M 720, by rw [Int.mul_comm]; exact hk⟩
  rw [hd]
  refine ⟨by omega, hg, by omega, hkl, Int.emod_eq_zero_of_dvd ⟨gF M 720, by rw [Int.mul_comm]; exact hk⟩, Int.ediv_eq_of_eq_mul_left (by omega) hk, Int.ediv_mul_cancel (gF_dvd_left M 720 hM)⟩


theorem rNot_any (b : Bool) (h p : Int) (w : World) : Calls Tryd.prog 92 #[.agg #[.bool b, .int .i64 h, .int .i64 p]] w fun e w' => e = .returned (.bool (!hrOk h p)) ∧ Below w.heap.size w w' := by
  go_enter Tryd.func92, Tryd.ntmps92
  go_wp2_with (go_at_call 56; refine (rHour_any b h p _).mono ?_; rintro e w1 ⟨rfl, hb⟩)
  go_ret
  exact ⟨rfl, (Below.refl _ _).alloc (Nat.le_refl _) _ |>.trans (hb.mono (by simp))⟩

theorem idxF_nil (w : World) : Calls Tryd.prog 111 #[.slice none 0 0, .func (.func 92) #[] #[]] w fun e w' => e = .returned (.int .i64 (-1)) ∧ Below w.heap.size w w' := by
  go_enter Tryd.func111, Tryd.ntmps111
  go_wp2
  go_rounds 1
  go_ret
  exact ⟨rfl, by go_grown⟩
theorem idxF_one (B c : Nat) (b : Bool) (h p : Int) (w : World) (h0 : w.cell? ⟨B, 0, none⟩ = some (.bool b)) (h1 : w.cell? ⟨B, 1, none⟩ = some (.int .i64 h)) (h2 : w.cell? ⟨B, 2, none⟩ = some (.int .i64 p)) :
    Calls Tryd.prog 111 #[.slice (some ⟨B, 0, none⟩) 1 c, .func (.func 92) #[] #[]] w fun e w' => e = .returned (.int .i64 (if hrOk h p = true then -1 else 0)) ∧ Below w.heap.size w w' := by
  cases hv : hrOk h p
  · go_enter Tryd.func111, Tryd.ntmps111
    go_wp2
    refine wp_loop_rounds 2 ?_
    rw [rounds_succ]
    go_wp2_with (go_at_call 92; refine (rNot_any b h p _).mono ?_; rintro e w1 ⟨rfl, hb⟩; rw [hv]; have HB := Lib.hid hb; clear hb)
    go_ret
    exact ⟨rfl, HB.out⟩
  · go_enter Tryd.func111, Tryd.ntmps111
    go_wp2
    refine wp_loop_rounds 2 ?_
    rw [rounds_succ]
    go_wp2_with (go_at_call 92; refine (rNot_any b h p _).mono ?_; rintro e w1 ⟨rfl, hb⟩; rw [hv]; have HB := Lib.hid hb; clear hb)
    rw [rounds_succ]
    go_wp2
    go_ret
    exact ⟨rfl, HB.out⟩
theorem contF_nil (w : World) : Calls Tryd.prog 91 #[.slice none 0 0, .func (.func 92) #[] #[]] w fun e w' => e = .returned (.bool false) ∧ Below w.heap.size w w' := by
  go_enter Tryd.func91, Tryd.ntmps91
  go_wp2_with (go_at_call 111; refine (idxF_nil _).mono ?_; rintro e w1 ⟨rfl, hb⟩; have HB := Lib.hid hb; clear hb)
  go_ret
  exact ⟨rfl, HB.out⟩
theorem contF_one (B c : Nat) (b : Bool) (h p : Int) (w : World) (h0 : w.cell? ⟨B, 0, none⟩ = some (.bool b)) (h1 : w.cell? ⟨B, 1, none⟩ = some (.int .i64 h)) (h2 : w.cell? ⟨B, 2, none⟩ = some (.int .i64 p)) :
    Calls Tryd.prog 91 #[.slice (some ⟨B, 0, none⟩) 1 c, .func (.func 92) #[] #[]] w fun e w' => e = .returned (.bool (!hrOk h p)) ∧ Below w.heap.size w w' := by
  cases hv : hrOk h p
  all_goals
    go_enter Tryd.func91, Tryd.ntmps91
    go_wp2_with (go_at_call 111; refine (idxF_one B c b h p _ h0 h1 h2).mono ?_; rintro e w1 ⟨rfl, hb⟩; rw [hv]; have HB := Lib.hid hb; clear hb)
    go_ret
    exact ⟨rfl, HB.out⟩

/-- What right answers. -/
noncomputable def rightB (L : Int) (n1 n2 n3 : Nat) (D R S days : List Int) (hours : Bool) : Bool := fewB n1 n2 n3 && (decide (ck L D R S = 0) && (allB days 0 11000 && hours))
theorem rightB_iff {L : Int} {n1 n2 n3 : Nat} {D R S days : List Int} {hours : Bool} : rightB L n1 n2 n3 D R S days hours = true ↔ fewB n1 n2 n3 = true ∧ Ok L D R S ∧ allB days 0 11000 = true ∧ hours = true := by
  unfold rightB
  rw [Bool.and_eq_true, Bool.and_eq_true, Bool.and_eq_true, decide_eq_true_iff]
  constructor
  · rintro ⟨a, b, c, d⟩
    exact ⟨a, Classical.byContradiction fun k => by rw [ck_no k] at b; exact absurd b (by decide), c, d⟩
  · rintro ⟨a, b, c, d⟩
    exact ⟨a, ck_yes b, c, d⟩
theorem rightB_no {L : Int} {n1 n2 n3 : Nat} {D R S days : List Int} {hours : Bool} (h : ¬ (fewB n1 n2 n3 = true ∧ Ok L D R S ∧ allB days 0 11000 = true ∧ hours = true)) : rightB L n1 n2 n3 D R S days hours = false := by
  rw [← Bool.not_eq_true, rightB_iff]; exact h

set_option maxRecDepth 100000 in
set_option maxHeartbeats 8000000 in
theorem right0_any {L : Int} {n1 n2 n3 c1 c2 c3 : Nat} {a1 a2 a3 : Option Addr} {D R S : List Int} {bd od nd cd : Nat} {days : List Int} (w : World) (hD : LstO w a1 n1 D) (hR : LstO w a2 n2 R) (hS : LstO w a3 n3 S) (hd : Lst w w.heap.size bd od nd days) (hn : nd ≤ 1000) :
    Calls Tryd.prog 36 #[.agg #[.int .i64 L, .slice a1 n1 c1, .slice a2 n2 c2, .slice a3 n3 c3], .slice (some ⟨bd, od, none⟩) nd cd, .slice none 0 0] w fun e w' => e = .returned (.bool (rightB L n1 n2 n3 D R S days true)) ∧ Below w.heap.size w w' := by
  cases hf : fewB n1 n2 n3
  · have HV := Lib.hid (show rightB L n1 n2 n3 D R S days true = false from rightB_no (by rw [hf]; simp))
    clear hD hR hS hd
    go_enter Tryd.func36, Tryd.ntmps36
    go_wp2_with fail
    refine (few_any _).mono ?_
    rintro e w1 ⟨rfl, hb⟩
    rw [hf]
    have HB1 := Lib.hid (bjoin (w := w) (by go_grown) hb)
    clear hb
    go_wp2_with fail
    go_ret
    exact ⟨by rw [HV.out]; rfl, HB1.out⟩
  · by_cases hok : Ok L D R S
    · have hff := hf
      unfold fewB at hff
      simp at hff
      have e1 : n2 = n1 := by rw [← hR.1, ← hD.1]; exact hok.nR
      have e2 : n3 = n1 := by rw [← hS.1, ← hD.1]; exact hok.nS
      subst e1
      subst e2
      have g1 : 1 ≤ n3 := by rw [← hD.1]; exact hok.n1
      have g2 := hok.L1
      have g3 : ((n3 : Int) == 0) = false := by simp; omega
      have HD := Lib.hid hD; have HR := Lib.hid hR; have HS := Lib.hid hS; have HDD := Lib.hid hd; have HO := Lib.hid hok; have HF := Lib.hid hf
      clear hD hR hS hd hok hf
      skip
      go_enter Tryd.func36, Tryd.ntmps36
      go_wp2_with fail
      refine (few_any _).mono ?_
      rintro e w1 ⟨rfl, hb⟩
      rw [HF.out]
      have t0 := keep_cell (b := w.heap.size) (o := 0) (v := .int .i64 L) hb (by simp) (by simp [go_sem])
      have t1 := keep_cell (b := w.heap.size) (o := 1) (v := .slice a1 n3 c1) hb (by simp) (by simp [go_sem])
      have t2 := keep_cell (b := w.heap.size) (o := 2) (v := .slice a2 n3 c2) hb (by simp) (by simp [go_sem])
      have t3 := keep_cell (b := w.heap.size) (o := 3) (v := .slice a3 n3 c3) hb (by simp) (by simp [go_sem])
      have tl := keep_lt (b := w.heap.size) hb (by simp)
      have HB1 := Lib.hid (bjoin (w := w) (by go_grown) hb)
      clear hb
      go_wp2_with fail
      refine (check_any _ (HD.out.to HB1.out) (HR.out.to HB1.out) (HS.out.to HB1.out) (by omega) (by omega) (by omega)).mono ?_
      rintro e w2 ⟨rfl, hb⟩
      rw [ck_yes HO.out]
      have q0 := keep_cell (b := w.heap.size) (o := 0) (v := .int .i64 L) hb tl t0
      have q1 := keep_cell (b := w.heap.size) (o := 1) (v := .slice a1 n3 c1) hb tl t1
      have q2 := keep_cell (b := w.heap.size) (o := 2) (v := .slice a2 n3 c2) hb tl t2
      have q3 := keep_cell (b := w.heap.size) (o := 3) (v := .slice a3 n3 c3) hb tl t3
      have HB2 := Lib.hid (bjoin HB1.out hb)
      clear hb t0 t1 t2 t3 tl
      go_wp2_with fail
      clear q0 q1 q2 q3
      have HC := Lib.hid (HDD.out.to HB2.out).cell
      go_loop [48] (fun vk => ∃ k : Nat, k ≤ nd ∧ vk = .int .i64 k ∧ ∀ j, j < k → wi (days[j]?.getD 0) 0 11000 = true) (fun vk => 1000 - (intOf vk).toNat)
      case atStart => exact ⟨0, by omega, rfl, fun j hj => by omega⟩
      case round =>
        obtain ⟨k, hk, rfl, hall⟩ := hrel
        have HA := Lib.hid hall; clear hall
        by_cases hlt : k < nd
        · have hc := HC.out k hlt
          by_cases hin : 0 ≤ days[k]?.getD 0 ∧ days[k]?.getD 0 ≤ 11000
          · have HI := Lib.hid hin
            obtain ⟨i1, i2⟩ := hin
            go_wp2
            go_round
            case rel => exact ⟨k + 1, by omega, by go_num, fun j hj => by
              rcases Nat.lt_or_eq_of_le (Nat.le_of_lt_succ hj) with e | e
              · exact HA.out j e
              · subst e; exact wi_mk HI.out⟩
            case measure => simp [intOf]; omega
          · have HV := Lib.hid (show rightB L n3 n3 n3 D R S days true = false from rightB_no (fun ⟨_, _, c, _⟩ => hin ((allB_iff _ _ _).1 c k (by rw [HDD.out.len]; exact hlt))))
            by_cases i1 : 0 ≤ days[k]?.getD 0
            · have i2 : ¬ days[k]?.getD 0 ≤ 11000 := fun h => hin ⟨i1, h⟩
              clear hin
              go_wp2
              go_ret
              exact ⟨by rw [HV.out]; rfl, HB2.out⟩
            · clear hin
              go_wp2
              go_ret
              exact ⟨by rw [HV.out]; rfl, HB2.out⟩
        · obtain rfl : k = nd := by omega
          skip
          have HE := Lib.hid (show rightB L n3 n3 n3 D R S days true = true from by
            rw [Bool.eq_iff_iff, rightB_iff]
            exact ⟨fun h => h.2.2.2, fun h => ⟨HF.out, HO.out, (allB_iff _ _ _).2 (fun i hi => (wi_iff _ _ _).1 (HA.out i (by rw [HDD.out.len] at hi; exact hi))), h⟩⟩)
          go_wp2_with fail
          refine (contF_nil _).mono ?_
          rintro e w3 ⟨rfl, hb⟩
          have HB3 := Lib.hid (bjoin HB2.out hb)
          clear hb
          go_wp2
          go_ret
          exact ⟨by rw [HE.out]; first | rfl | (rw [Bool.not_not]; rfl), HB3.out⟩
    · have HV := Lib.hid (show rightB L n1 n2 n3 D R S days true = false from rightB_no (fun h => hok h.2.1))
      have HN := Lib.hid (ck_no hok)
      have hff := hf
      unfold fewB at hff
      simp at hff
      have HD := Lib.hid hD; have HR := Lib.hid hR; have HS := Lib.hid hS; have HF := Lib.hid hf
      clear hD hR hS hd hok hf
      go_enter Tryd.func36, Tryd.ntmps36
      go_wp2_with fail
      refine (few_any _).mono ?_
      rintro e w1 ⟨rfl, hb⟩
      rw [HF.out]
      have t0 := keep_cell (b := w.heap.size) (o := 0) (v := .int .i64 L) hb (by simp) (by simp [go_sem])
      have t1 := keep_cell (b := w.heap.size) (o := 1) (v := .slice a1 n1 c1) hb (by simp) (by simp [go_sem])
      have t2 := keep_cell (b := w.heap.size) (o := 2) (v := .slice a2 n2 c2) hb (by simp) (by simp [go_sem])
      have t3 := keep_cell (b := w.heap.size) (o := 3) (v := .slice a3 n3 c3) hb (by simp) (by simp [go_sem])
      have HB1 := Lib.hid (bjoin (w := w) (by go_grown) hb)
      clear hb
      go_wp2_with fail
      refine (check_any _ (HD.out.to HB1.out) (HR.out.to HB1.out) (HS.out.to HB1.out) (by omega) (by omega) (by omega)).mono ?_
      rintro e w2 ⟨rfl, hb⟩
      rw [HN.out]
      have HB2 := Lib.hid (bjoin HB1.out hb)
      clear hb t0 t1 t2 t3
      go_wp2_with fail
      go_ret
      exact ⟨by rw [HV.out]; rfl, HB2.out⟩

set_option maxRecDepth 100000 in
set_option maxHeartbeats 8000000 in
theorem right1_any {L : Int} {n1 n2 n3 c1 c2 c3 : Nat} {a1 a2 a3 : Option Addr} {D R S : List Int} {bd od nd cd : Nat} {days : List Int} (B c : Nat) (b : Bool) (h p : Int) (w : World) (hD : LstO w a1 n1 D) (hR : LstO w a2 n2 R) (hS : LstO w a3 n3 S) (hd : Lst w w.heap.size bd od nd days) (hn : nd ≤ 1000) (hB : B < w.heap.size) (h0 : w.cell? ⟨B, 0, none⟩ = some (.bool b)) (h1 : w.cell? ⟨B, 1, none⟩ = some (.int .i64 h)) (h2 : w.cell? ⟨B, 2, none⟩ = some (.int .i64 p)) :
    Calls Tryd.prog 36 #[.agg #[.int .i64 L, .slice a1 n1 c1, .slice a2 n2 c2, .slice a3 n3 c3], .slice (some ⟨bd, od, none⟩) nd cd, .slice (some ⟨B, 0, none⟩) 1 c] w fun e w' => e = .returned (.bool (rightB L n1 n2 n3 D R S days (hrOk h p))) ∧ Below w.heap.size w w' := by
  cases hf : fewB n1 n2 n3
  · have HV := Lib.hid (show rightB L n1 n2 n3 D R S days (hrOk h p) = false from rightB_no (by rw [hf]; simp))
    clear hD hR hS hd
    go_enter Tryd.func36, Tryd.ntmps36
    go_wp2_with fail
    refine (few_any _).mono ?_
    rintro e w1 ⟨rfl, hb⟩
    rw [hf]
    have HB1 := Lib.hid (bjoin (w := w) (by go_grown) hb)
    clear hb
    go_wp2_with fail
    go_ret
    exact ⟨by rw [HV.out]; rfl, HB1.out⟩
  · by_cases hok : Ok L D R S
    · have hff := hf
      unfold fewB at hff
      simp at hff
      have e1 : n2 = n1 := by rw [← hR.1, ← hD.1]; exact hok.nR
      have e2 : n3 = n1 := by rw [← hS.1, ← hD.1]; exact hok.nS
      subst e1
      subst e2
      have g1 : 1 ≤ n3 := by rw [← hD.1]; exact hok.n1
      have g2 := hok.L1
      have g3 : ((n3 : Int) == 0) = false := by simp; omega
      have HD := Lib.hid hD; have HR := Lib.hid hR; have HS := Lib.hid hS; have HDD := Lib.hid hd; have HO := Lib.hid hok; have HF := Lib.hid hf
      clear hD hR hS hd hok hf
      have KBH := Lib.hid (show B < w.heap.size from hB); have KB0 := Lib.hid h0; have KB1 := Lib.hid h1; have KB2 := Lib.hid h2; clear h0 h1 h2
      go_enter Tryd.func36, Tryd.ntmps36
      go_wp2_with fail
      refine (few_any _).mono ?_
      rintro e w1 ⟨rfl, hb⟩
      rw [HF.out]
      have t0 := keep_cell (b := w.heap.size) (o := 0) (v := .int .i64 L) hb (by simp) (by simp [go_sem])
      have t1 := keep_cell (b := w.heap.size) (o := 1) (v := .slice a1 n3 c1) hb (by simp) (by simp [go_sem])
      have t2 := keep_cell (b := w.heap.size) (o := 2) (v := .slice a2 n3 c2) hb (by simp) (by simp [go_sem])
      have t3 := keep_cell (b := w.heap.size) (o := 3) (v := .slice a3 n3 c3) hb (by simp) (by simp [go_sem])
      have tl := keep_lt (b := w.heap.size) hb (by simp)
      have HB1 := Lib.hid (bjoin (w := w) (by go_grown) hb)
      clear hb
      go_wp2_with fail
      refine (check_any _ (HD.out.to HB1.out) (HR.out.to HB1.out) (HS.out.to HB1.out) (by omega) (by omega) (by omega)).mono ?_
      rintro e w2 ⟨rfl, hb⟩
      rw [ck_yes HO.out]
      have q0 := keep_cell (b := w.heap.size) (o := 0) (v := .int .i64 L) hb tl t0
      have q1 := keep_cell (b := w.heap.size) (o := 1) (v := .slice a1 n3 c1) hb tl t1
      have q2 := keep_cell (b := w.heap.size) (o := 2) (v := .slice a2 n3 c2) hb tl t2
      have q3 := keep_cell (b := w.heap.size) (o := 3) (v := .slice a3 n3 c3) hb tl t3
      have HB2 := Lib.hid (bjoin HB1.out hb)
      clear hb t0 t1 t2 t3 tl
      go_wp2_with fail
      clear q0 q1 q2 q3
      have HC := Lib.hid (HDD.out.to HB2.out).cell
      go_loop [48] (fun vk => ∃ k : Nat, k ≤ nd ∧ vk = .int .i64 k ∧ ∀ j, j < k → wi (days[j]?.getD 0) 0 11000 = true) (fun vk => 1000 - (intOf vk).toNat)
      case atStart => exact ⟨0, by omega, rfl, fun j hj => by omega⟩
      case round =>
        obtain ⟨k, hk, rfl, hall⟩ := hrel
        have HA := Lib.hid hall; clear hall
        by_cases hlt : k < nd
        · have hc := HC.out k hlt
          by_cases hin : 0 ≤ days[k]?.getD 0 ∧ days[k]?.getD 0 ≤ 11000
          · have HI := Lib.hid hin
            obtain ⟨i1, i2⟩ := hin
            go_wp2
            go_round
            case rel => exact ⟨k + 1, by omega, by go_num, fun j hj => by
              rcases Nat.lt_or_eq_of_le (Nat.le_of_lt_succ hj) with e | e
              · exact HA.out j e
              · subst e; exact wi_mk HI.out⟩
            case measure => simp [intOf]; omega
          · have HV := Lib.hid (show rightB L n3 n3 n3 D R S days (hrOk h p) = false from rightB_no (fun ⟨_, _, c, _⟩ => hin ((allB_iff _ _ _).1 c k (by rw [HDD.out.len]; exact hlt))))
            by_cases i1 : 0 ≤ days[k]?.getD 0
            · have i2 : ¬ days[k]?.getD 0 ≤ 11000 := fun h => hin ⟨i1, h⟩
              clear hin
              go_wp2
              go_ret
              exact ⟨by rw [HV.out]; rfl, HB2.out⟩
            · clear hin
              go_wp2
              go_ret
              exact ⟨by rw [HV.out]; rfl, HB2.out⟩
        · obtain rfl : k = nd := by omega
          have KB := Lib.hid (show _ ∧ _ ∧ _ from ⟨keep_cell HB2.out KBH.out KB0.out, keep_cell HB2.out KBH.out KB1.out, keep_cell HB2.out KBH.out KB2.out⟩)
          have HE := Lib.hid (show rightB L n3 n3 n3 D R S days (hrOk h p) = (hrOk h p) from by
            rw [Bool.eq_iff_iff, rightB_iff]
            exact ⟨fun h => h.2.2.2, fun h => ⟨HF.out, HO.out, (allB_iff _ _ _).2 (fun i hi => (wi_iff _ _ _).1 (HA.out i (by rw [HDD.out.len] at hi; exact hi))), h⟩⟩)
          go_wp2_with fail
          refine (contF_one B c b h p _ KB.out.1 KB.out.2.1 KB.out.2.2).mono ?_
          rintro e w3 ⟨rfl, hb⟩
          have HB3 := Lib.hid (bjoin HB2.out hb)
          clear hb
          go_wp2
          go_ret
          exact ⟨by rw [HE.out]; first | rfl | (rw [Bool.not_not]; rfl), HB3.out⟩
    · have HV := Lib.hid (show rightB L n1 n2 n3 D R S days (hrOk h p) = false from rightB_no (fun h => hok h.2.1))
      have HN := Lib.hid (ck_no hok)
      have hff := hf
      unfold fewB at hff
      simp at hff
      have HD := Lib.hid hD; have HR := Lib.hid hR; have HS := Lib.hid hS; have HF := Lib.hid hf
      clear hD hR hS hd hok hf
      go_enter Tryd.func36, Tryd.ntmps36
      go_wp2_with fail
      refine (few_any _).mono ?_
      rintro e w1 ⟨rfl, hb⟩
      rw [HF.out]
      have t0 := keep_cell (b := w.heap.size) (o := 0) (v := .int .i64 L) hb (by simp) (by simp [go_sem])
      have t1 := keep_cell (b := w.heap.size) (o := 1) (v := .slice a1 n1 c1) hb (by simp) (by simp [go_sem])
      have t2 := keep_cell (b := w.heap.size) (o := 2) (v := .slice a2 n2 c2) hb (by simp) (by simp [go_sem])
      have t3 := keep_cell (b := w.heap.size) (o := 3) (v := .slice a3 n3 c3) hb (by simp) (by simp [go_sem])
      have HB1 := Lib.hid (bjoin (w := w) (by go_grown) hb)
      clear hb
      go_wp2_with fail
      refine (check_any _ (HD.out.to HB1.out) (HR.out.to HB1.out) (HS.out.to HB1.out) (by omega) (by omega) (by omega)).mono ?_
      rintro e w2 ⟨rfl, hb⟩
      rw [HN.out]
      have HB2 := Lib.hid (bjoin HB1.out hb)
      clear hb t0 t1 t2 t3
      go_wp2_with fail
      go_ret
      exact ⟨by rw [HV.out]; rfl, HB2.out⟩

theorem Pl.Ok.momA {L : Int} {D R S : List Int} (hok : Ok L D R S) {day : Int} (b : Bool) {h p : Int} (hd : 0 ≤ day ∧ day ≤ 11000) (hh : (0 ≤ h ∧ h ≤ 11) ∧ (0 ≤ p ∧ p ≤ 59)) : 43200 ≤ momF L D R S day b (60 * h + p) ∧ momF L D R S day b (60 * h + p) ≤ 30000000000 := by
  obtain ⟨a, b', c, d⟩ := hok.mom day b (60 * h + p) hd.1 (by omega) (by omega)
  unfold momF; omega
set_option maxRecDepth 100000 in
set_option maxHeartbeats 8000000 in
theorem exact_ok {L : Int} {n1 n2 n3 c1 c2 c3 : Nat} {a1 a2 a3 : Option Addr} {D R S : List Int} (day : Int) (b : Bool) (h p : Int) (w : World) (hs : SeaO w a1 n1 a2 n2 a3 n3 D R S) (hok : Ok L D R S) (hd : 0 ≤ day ∧ day ≤ 11000) (hh : (0 ≤ h ∧ h ≤ 11) ∧ (0 ≤ p ∧ p ≤ 59)) :
   Calls Tryd.prog 58 #[.agg #[.int .i64 L, .slice a1 n1 c1, .slice a2 n2 c2, .slice a3 n3 c3], .int .i64 day, .agg #[.bool b, .int .i64 h, .int .i64 p]] w fun e w' => e = .returned (.int .i64 (momF L D R S day b (60 * h + p))) ∧ Below w.heap.size w w' := by
  have HC := Lib.hid (fun W hW => Exact_ok (c1 := c1) (c2 := c2) (c3 := c3) day b h p W (hs.to hW) hok hd hh)
  have hM := hok.momA b hd hh
  obtain ⟨g1, g2, k1, k2, k3, k4, k5⟩ := gF_facts (momF L D R S day b (60 * h + p)) (by omega)
  have hq0 : 0 ≤ momF L D R S day b (60 * h + p) / gF (momF L D R S day b (60 * h + p)) 720 := Int.ediv_nonneg (by omega) (by omega)
  have hq1 : momF L D R S day b (60 * h + p) / gF (momF L D R S day b (60 * h + p)) 720 ≤ momF L D R S day b (60 * h + p) := Int.ediv_le_self _ (by omega)
  clear hs hok hd hh
  generalize momF L D R S day b (60 * h + p) = M at *
  generalize M / gF M 720 = q at *
  generalize 720 / gF M 720 = d at *
  generalize gF M 720 = g at *
  have K5 := Lib.hid k5; clear k5
  go_enter Tryd.func58, Tryd.ntmps58
  go_wp2_with fail
  refine (HC.out _ (by go_grown)).mono ?_
  rintro e w1 ⟨rfl, hb⟩
  have HB := Lib.hid (bjoin (w := w) (by go_grown) hb); clear hb
  go_wp2
  go_quiet (fail)
  go_wp2
  have hw := IntWalk.wrap64_in (q * g) (by rw [K5.out]; omega)
  go_ret
  exact ⟨ret_int (by rw [hw]; exact K5.out), by have HB' := HB.out; (repeat refine below_drewN ?_ _); go_grown; all_goals exact HB'.size⟩

end Go.Proofs.YtomlfliebolkmaaDoor
