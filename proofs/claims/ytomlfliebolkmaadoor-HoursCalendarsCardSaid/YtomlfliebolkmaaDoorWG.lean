/-
  The error of a season, a day and an hour; Rise and Set, by contract. No condition beyond what each states.
-/
import Derived.Test.YtomlfliebolkmaaDoorWF
namespace Go.Proofs.YtomlfliebolkmaaDoor
open Go Go.Proofs Go.RowKit Pl

set_option maxHeartbeats 1000000 in
theorem asks_any {L : Int} {n1 n2 n3 c1 c2 c3 : Nat} {a1 a2 a3 : Option Addr} {D R S : List Int} (day : Int) (b : Bool) (h p : Int) (w : World) (hs : SeaO w a1 n1 a2 n2 a3 n3 D R S) :
   Calls Tryd.prog 80 #[.agg #[.int .i64 L, .slice a1 n1 c1, .slice a2 n2 c2, .slice a3 n3 c3], .int .i64 day, .agg #[.bool b, .int .i64 h, .int .i64 p]] w
     fun e w' => e = .returned (.int .i64 (askH L D R S day h p)) ∧ Below w.heap.size w w' := by
  have HS := Lib.hid hs; clear hs
  by_cases hok : Ok L D R S
  · cases hwi : wi day 0 11000
    · have ha := askH_arg day 0 0 hok (by simp [hwi])
      have HA := Lib.hid (askH_arg day h p hok (by simp [hwi]))
      clear hwi
      go_enter Tryd.func80, Tryd.ntmps80
      go_wp2_with fail
      refine (asked_any day _ (HS.out.to (by go_grown)) (lst_one _ _ _ _ _ (by simp))).mono ?_
      rintro e w1 ⟨rfl, hb1⟩
      obtain ⟨hc, hf⟩ := bcell hb1
      have HB := Lib.hid (bjoin (w := w) (by go_grown) hb1); clear hb1
      go_wp2
      go_ret
      exact ⟨ret_int HA.out.symm, HB.out⟩
    · have ha := askH_ok day 0 0 hok hwi hrOk_zero
      cases hh : hrOk h p
      · have HA := Lib.hid (askH_arg day h p hok (by simp [hh]))
        clear hwi
        go_enter Tryd.func80, Tryd.ntmps80
        go_wp2_with fail
        refine (asked_any day _ (HS.out.to (by go_grown)) (lst_one _ _ _ _ _ (by simp))).mono ?_
        rintro e w1 ⟨rfl, hb1⟩
        obtain ⟨hc, hf⟩ := bcell hb1
        have HB := Lib.hid (bjoin (w := w) (by go_grown) hb1); clear hb1
        go_wp2_with fail
        refine (isHour_any b h p _).mono ?_
        rintro e w2 ⟨rfl, hb2⟩
        have HB2 := Lib.hid (bjoin HB.out hb2); clear hb2
        go_wp2
        go_ret
        exact ⟨ret_int HA.out.symm, HB2.out⟩
      · have HA := Lib.hid (askH_ok day h p hok hwi hh)
        clear hwi
        go_enter Tryd.func80, Tryd.ntmps80
        go_wp2_with fail
        refine (asked_any day _ (HS.out.to (by go_grown)) (lst_one _ _ _ _ _ (by simp))).mono ?_
        rintro e w1 ⟨rfl, hb1⟩
        obtain ⟨hc, hf⟩ := bcell hb1
        have HB := Lib.hid (bjoin (w := w) (by go_grown) hb1); clear hb1
        go_wp2_with fail
        refine (isHour_any b h p _).mono ?_
        rintro e w2 ⟨rfl, hb2⟩
        have HB2 := Lib.hid (bjoin HB.out hb2); clear hb2
        go_wp2
        go_ret
        exact ⟨ret_int HA.out.symm, HB2.out⟩
  · have ha := askH_season day 0 0 hok
    have HA := Lib.hid (askH_season day h p hok)
    go_enter Tryd.func80, Tryd.ntmps80
    go_wp2_with fail
    refine (asked_any day _ (HS.out.to (by go_grown)) (lst_one _ _ _ _ _ (by simp))).mono ?_
    rintro e w1 ⟨rfl, hb1⟩
    obtain ⟨hc, hf⟩ := bcell hb1
    have HB := Lib.hid (bjoin (w := w) (by go_grown) hb1); clear hb1
    go_wp2
    go_ret
    exact ⟨ret_int HA.out.symm, HB.out⟩

set_option maxHeartbeats 1000000 in
theorem ready_any {L : Int} {n1 n2 n3 c1 c2 c3 : Nat} {a1 a2 a3 : Option Addr} {D R S : List Int} (day : Int) (b : Bool) (h p : Int) (w : World) (hs : SeaO w a1 n1 a2 n2 a3 n3 D R S) :
   Calls Tryd.prog 70 #[.agg #[.int .i64 L, .slice a1 n1 c1, .slice a2 n2 c2, .slice a3 n3 c3], .int .i64 day, .agg #[.bool b, .int .i64 h, .int .i64 p]] w
     fun e w' => e = .returned (.int .i64 (askH L D R S day h p)) ∧ Below w.heap.size w w' := by
  have HS := Lib.hid hs; clear hs
  have HC : ∀ W, Below w.heap.size w W → Calls Tryd.prog 27 #[.agg #[.int .i64 L, .slice a1 n1 c1, .slice a2 n2 c2, .slice a3 n3 c3]] W fun e w' => e = .returned (.int .i64 (ck L D R S)) ∧ Below W.heap.size W w' :=
    fun W hB => rcheck_any W (HS.out.to hB).D (HS.out.to hB).R (HS.out.to hB).S HS.out.d HS.out.r HS.out.s
  have HC := Lib.hid HC
  by_cases hok : Ok L D R S
  · have hck := ck_yes hok
    cases hwi : wi day 0 11000
    · have HA := Lib.hid (askH_arg day h p hok (by simp [hwi]))
      go_enter Tryd.func70, Tryd.ntmps70
      go_wp2_with fail
      refine (HC.out _ (by go_grown)).mono ?_
      rintro e w1 ⟨rfl, hb1⟩
      obtain ⟨hc, hf⟩ := bcell hb1
      have HB := Lib.hid (bjoin (w := w) (by go_grown) hb1); clear hb1
      go_wp2_with (go_at_call 83; refine (rDay_any _ _).mono ?_; rintro e w2 ⟨rfl, rfl⟩)
      go_ret
      exact ⟨ret_int HA.out.symm, HB.out⟩
    · cases hh : hrOk h p
      · have HA := Lib.hid (askH_arg day h p hok (by simp [hh]))
        go_enter Tryd.func70, Tryd.ntmps70
        go_wp2_with fail
        refine (HC.out _ (by go_grown)).mono ?_
        rintro e w1 ⟨rfl, hb1⟩
        obtain ⟨hc, hf⟩ := bcell hb1
        have HB := Lib.hid (bjoin (w := w) (by go_grown) hb1); clear hb1
        go_wp2_with fail
        refine (rDay_any _ _).mono ?_
        rintro e w2 ⟨rfl, rfl⟩
        go_wp2_with fail
        refine (rHour_any b h p _).mono ?_
        rintro e w2 ⟨rfl, hb2⟩
        have HB2 := Lib.hid (bjoin HB.out hb2); clear hb2
        go_wp2
        go_ret
        exact ⟨ret_int HA.out.symm, HB2.out⟩
      · have HA := Lib.hid (askH_ok day h p hok hwi hh)
        go_enter Tryd.func70, Tryd.ntmps70
        go_wp2_with fail
        refine (HC.out _ (by go_grown)).mono ?_
        rintro e w1 ⟨rfl, hb1⟩
        obtain ⟨hc, hf⟩ := bcell hb1
        have HB := Lib.hid (bjoin (w := w) (by go_grown) hb1); clear hb1
        go_wp2_with fail
        refine (rDay_any _ _).mono ?_
        rintro e w2 ⟨rfl, rfl⟩
        go_wp2_with fail
        refine (rHour_any b h p _).mono ?_
        rintro e w2 ⟨rfl, hb2⟩
        have HB2 := Lib.hid (bjoin HB.out hb2); clear hb2
        go_wp2
        go_ret
        exact ⟨ret_int HA.out.symm, HB2.out⟩
  · have hck := ck_no hok
    have HA := Lib.hid (askH_season day h p hok)
    go_enter Tryd.func70, Tryd.ntmps70
    go_wp2_with fail
    refine (HC.out _ (by go_grown)).mono ?_
    rintro e w1 ⟨rfl, hb1⟩
    have HB := Lib.hid (bjoin (w := w) (by go_grown) hb1); clear hb1
    go_wp2
    go_ret
    exact ⟨ret_int HA.out.symm, HB.out⟩

/-- x where there is no error, else 0. -/
def onOk (a x : Int) : Int := if a = 0 then x else 0
theorem onOk_ok (x : Int) : onOk 0 x = x := rfl
theorem onOk_no {a : Int} (h : a ≠ 0) (x : Int) : onOk a x = 0 := if_neg h
theorem askH_or (L : Int) (D R S : List Int) (day h p : Int) :
    (askH L D R S day h p = 0 ∧ Ok L D R S ∧ (0 ≤ day ∧ day ≤ 11000) ∧ (0 ≤ h ∧ h ≤ 11) ∧ (0 ≤ p ∧ p ≤ 59)) ∨ askH L D R S day h p ≠ 0 := by
  by_cases hok : Ok L D R S
  · cases hwi : wi day 0 11000
    · right; rw [askH_arg day h p hok (by simp [hwi])]; decide
    · cases hh : hrOk h p
      · right; rw [askH_arg day h p hok (by simp [hh])]; decide
      · left
        have := (hrOk_iff h p).1 hh
        exact ⟨askH_ok day h p hok hwi hh, hok, (wi_iff _ _ _).1 hwi, this.1, this.2⟩
  · right; rw [askH_season day h p hok]; decide
theorem ret_pair {k : IntKind} {a b : Int} {v : Value} (h : a = b) : Ending.returned (.tuple #[.int k a, v]) = .returned (.tuple #[.int k b, v]) := by rw [h]
theorem ret_rat {a b c d : Int} {v : Value} (h : a = b) (h' : c = d) : Ending.returned (.tuple #[.agg #[.int .i64 a, .int .i64 c], v]) = .returned (.tuple #[.agg #[.int .i64 b, .int .i64 d], v]) := by rw [h, h']

set_option maxHeartbeats 1000000 in
theorem Rise_any {L : Int} {n1 n2 n3 c1 c2 c3 : Nat} {a1 a2 a3 : Option Addr} {D R S : List Int} (day : Int) (w : World) (hs : SeaO w a1 n1 a2 n2 a3 n3 D R S) :
   Calls Tryd.prog 20 #[.agg #[.int .i64 L, .slice a1 n1 c1, .slice a2 n2 c2, .slice a3 n3 c3], .int .i64 day] w
     fun e w' => e = .returned (.tuple #[.int .i64 (onOk (askH L D R S day 0 0) (riseF L D R day)), .int .i64 (askH L D R S day 0 0)]) ∧ Below w.heap.size w w' := by
  rcases askH_or L D R S day 0 0 with ⟨hA, hok, hday, hh, hp⟩ | hA
  · obtain ⟨b1, o1, b2, o2, b3, o3, rfl, rfl, rfl, rfl, rfl, hsea⟩ := hs.sea hok
    have HS := Lib.hid hs; have HE := Lib.hid hsea; have HO := Lib.hid hok; clear hs hsea hok
    go_enter Tryd.func20, Tryd.ntmps20
    go_wp2_with fail
    refine (asked_any day _ (HS.out.to (by go_grown)) (lst_one _ _ _ _ _ (by simp))).mono ?_
    rintro e w1 ⟨rfl, hb1⟩
    obtain ⟨hc, hf⟩ := bcell hb1
    have HB := Lib.hid (bjoin (w := w) (by go_grown) hb1); clear hb1
    go_wp2_with fail
    refine (at_any day _ (HE.out.to HB.out).D (HE.out.to HB.out).R HO.out (HE.out.Rb HO.out) (by omega) (by omega)).mono ?_
    rintro e w2 ⟨rfl, hb2⟩
    obtain ⟨hc1, hf1⟩ := bcell hb2
    have HB1 := Lib.hid (bjoin HB.out hb2); clear hb2
    go_wp2
    go_ret2
    exact ⟨by rw [hA]; exact ret_pair (onOk_ok _).symm, HB1.out⟩
  · have HS := Lib.hid hs; clear hs
    generalize hG : askH L D R S day 0 0 = A at hA ⊢
    have HG := Lib.hid hG; clear hG
    have hA1 : (A != 0) = true := by rw [bne_iff_ne]; exact hA
    go_enter Tryd.func20, Tryd.ntmps20
    go_wp2_with fail
    refine (asked_any day _ (HS.out.to (by go_grown)) (lst_one _ _ _ _ _ (by simp))).mono ?_
    rintro e w1 ⟨rfl, hb1⟩
    rw [HG.out]
    have HB := Lib.hid (bjoin (w := w) (by go_grown) hb1); clear hb1
    go_wp2
    go_ret2
    exact ⟨ret_pair (onOk_no hA _).symm, HB.out⟩

set_option maxHeartbeats 1000000 in
theorem Set_any {L : Int} {n1 n2 n3 c1 c2 c3 : Nat} {a1 a2 a3 : Option Addr} {D R S : List Int} (day : Int) (w : World) (hs : SeaO w a1 n1 a2 n2 a3 n3 D R S) :
   Calls Tryd.prog 22 #[.agg #[.int .i64 L, .slice a1 n1 c1, .slice a2 n2 c2, .slice a3 n3 c3], .int .i64 day] w
     fun e w' => e = .returned (.tuple #[.int .i64 (onOk (askH L D R S day 0 0) (riseF L D S day)), .int .i64 (askH L D R S day 0 0)]) ∧ Below w.heap.size w w' := by
  rcases askH_or L D R S day 0 0 with ⟨hA, hok, hday, hh, hp⟩ | hA
  · obtain ⟨b1, o1, b2, o2, b3, o3, rfl, rfl, rfl, rfl, rfl, hsea⟩ := hs.sea hok
    have HS := Lib.hid hs; have HE := Lib.hid hsea; have HO := Lib.hid hok; clear hs hsea hok
    go_enter Tryd.func22, Tryd.ntmps22
    go_wp2_with fail
    refine (asked_any day _ (HS.out.to (by go_grown)) (lst_one _ _ _ _ _ (by simp))).mono ?_
    rintro e w1 ⟨rfl, hb1⟩
    obtain ⟨hc, hf⟩ := bcell hb1
    have HB := Lib.hid (bjoin (w := w) (by go_grown) hb1); clear hb1
    go_wp2_with fail
    refine (at_any day _ (HE.out.to HB.out).D (HE.out.to HB.out).S HO.out (HE.out.Sb HO.out) (by omega) (by omega)).mono ?_
    rintro e w2 ⟨rfl, hb2⟩
    obtain ⟨hc1, hf1⟩ := bcell hb2
    have HB1 := Lib.hid (bjoin HB.out hb2); clear hb2
    go_wp2
    go_ret2
    exact ⟨by rw [hA]; exact ret_pair (onOk_ok _).symm, HB1.out⟩
  · have HS := Lib.hid hs; clear hs
    generalize hG : askH L D R S day 0 0 = A at hA ⊢
    have HG := Lib.hid hG; clear hG
    have hA1 : (A != 0) = true := by rw [bne_iff_ne]; exact hA
    go_enter Tryd.func22, Tryd.ntmps22
    go_wp2_with fail
    refine (asked_any day _ (HS.out.to (by go_grown)) (lst_one _ _ _ _ _ (by simp))).mono ?_
    rintro e w1 ⟨rfl, hb1⟩
    rw [HG.out]
    have HB := Lib.hid (bjoin (w := w) (by go_grown) hb1); clear hb1
    go_wp2
    go_ret2
    exact ⟨ret_pair (onOk_no hA _).symm, HB.out⟩

set_option maxHeartbeats 1000000 in
theorem rRise_any {L : Int} {n1 n2 n3 c1 c2 c3 : Nat} {a1 a2 a3 : Option Addr} {D R S : List Int} (day : Int) (w : World) (hs : SeaO w a1 n1 a2 n2 a3 n3 D R S) :
   Calls Tryd.prog 21 #[.agg #[.int .i64 L, .slice a1 n1 c1, .slice a2 n2 c2, .slice a3 n3 c3], .int .i64 day] w
     fun e w' => e = .returned (.tuple #[.int .i64 (onOk (askH L D R S day 0 0) (riseF L D R day)), .int .i64 (askH L D R S day 0 0)]) ∧ Below w.heap.size w w' := by
  rcases askH_or L D R S day 0 0 with ⟨hA, hok, hday, hh, hp⟩ | hA
  · obtain ⟨b1, o1, b2, o2, b3, o3, rfl, rfl, rfl, rfl, rfl, hsea⟩ := hs.sea hok
    have HS := Lib.hid hs; have HE := Lib.hid hsea; have HO := Lib.hid hok; clear hs hsea hok
    go_enter Tryd.func21, Tryd.ntmps21
    go_wp2_with fail
    refine (ready_any day false 0 0 _ (HS.out.to (by go_grown))).mono ?_
    rintro e w1 ⟨rfl, hb1⟩
    obtain ⟨hc, hf⟩ := bcell hb1
    have HB := Lib.hid (bjoin (w := w) (by go_grown) hb1); clear hb1
    go_wp2_with fail
    refine (rrise_any day _ (HE.out.to HB.out) HO.out (by omega) (by omega)).mono ?_
    rintro e w2 ⟨rfl, hb2⟩
    obtain ⟨hc1, hf1⟩ := bcell hb2
    have HB1 := Lib.hid (bjoin HB.out hb2); clear hb2
    go_wp2
    go_ret2
    exact ⟨by rw [hA]; exact ret_pair (onOk_ok _).symm, HB1.out⟩
  · have HS := Lib.hid hs; clear hs
    generalize hG : askH L D R S day 0 0 = A at hA ⊢
    have HG := Lib.hid hG; clear hG
    have hA1 : (A != 0) = true := by rw [bne_iff_ne]; exact hA
    go_enter Tryd.func21, Tryd.ntmps21
    go_wp2_with fail
    refine (ready_any day false 0 0 _ (HS.out.to (by go_grown))).mono ?_
    rintro e w1 ⟨rfl, hb1⟩
    rw [HG.out]
    have HB := Lib.hid (bjoin (w := w) (by go_grown) hb1); clear hb1
    go_wp2
    go_ret2
    exact ⟨ret_pair (onOk_no hA _).symm, HB.out⟩

set_option maxHeartbeats 1000000 in
theorem rSet_any {L : Int} {n1 n2 n3 c1 c2 c3 : Nat} {a1 a2 a3 : Option Addr} {D R S : List Int} (day : Int) (w : World) (hs : SeaO w a1 n1 a2 n2 a3 n3 D R S) :
   Calls Tryd.prog 23 #[.agg #[.int .i64 L, .slice a1 n1 c1, .slice a2 n2 c2, .slice a3 n3 c3], .int .i64 day] w
     fun e w' => e = .returned (.tuple #[.int .i64 (onOk (askH L D R S day 0 0) (riseF L D S day)), .int .i64 (askH L D R S day 0 0)]) ∧ Below w.heap.size w w' := by
  rcases askH_or L D R S day 0 0 with ⟨hA, hok, hday, hh, hp⟩ | hA
  · obtain ⟨b1, o1, b2, o2, b3, o3, rfl, rfl, rfl, rfl, rfl, hsea⟩ := hs.sea hok
    have HS := Lib.hid hs; have HE := Lib.hid hsea; have HO := Lib.hid hok; clear hs hsea hok
    go_enter Tryd.func23, Tryd.ntmps23
    go_wp2_with fail
    refine (ready_any day false 0 0 _ (HS.out.to (by go_grown))).mono ?_
    rintro e w1 ⟨rfl, hb1⟩
    obtain ⟨hc, hf⟩ := bcell hb1
    have HB := Lib.hid (bjoin (w := w) (by go_grown) hb1); clear hb1
    go_wp2_with fail
    refine (rset_any day _ (HE.out.to HB.out) HO.out (by omega) (by omega)).mono ?_
    rintro e w2 ⟨rfl, hb2⟩
    obtain ⟨hc1, hf1⟩ := bcell hb2
    have HB1 := Lib.hid (bjoin HB.out hb2); clear hb2
    go_wp2
    go_ret2
    exact ⟨by rw [hA]; exact ret_pair (onOk_ok _).symm, HB1.out⟩
  · have HS := Lib.hid hs; clear hs
    generalize hG : askH L D R S day 0 0 = A at hA ⊢
    have HG := Lib.hid hG; clear hG
    have hA1 : (A != 0) = true := by rw [bne_iff_ne]; exact hA
    go_enter Tryd.func23, Tryd.ntmps23
    go_wp2_with fail
    refine (ready_any day false 0 0 _ (HS.out.to (by go_grown))).mono ?_
    rintro e w1 ⟨rfl, hb1⟩
    rw [HG.out]
    have HB := Lib.hid (bjoin (w := w) (by go_grown) hb1); clear hb1
    go_wp2
    go_ret2
    exact ⟨ret_pair (onOk_no hA _).symm, HB.out⟩
end Go.Proofs.YtomlfliebolkmaaDoor
