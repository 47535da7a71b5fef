/-
  Which seasons are valid, in the reference (Check); the error of a season, a day and an hour, by contract. No condition beyond what each states.
-/
import Derived.Test.YtomlfliebolkmaaDoorWE
namespace Go.Proofs.YtomlfliebolkmaaDoor
open Go Go.Proofs Go.RowKit Pl

def Good (L : Int) (D R S : List Int) (k : Nat) : Prop := ∀ i, i < k → wi (D[i]?.getD 0) 0 (L - 1) = true ∧ wi (R[i]?.getD 0) 60 700 = true ∧ wi (S[i]?.getD 0) 740 1380 = true ∧ (1 ≤ i → D[i - 1]?.getD 0 < D[i]?.getD 0)
theorem good_step {L : Int} {D R S : List Int} {k : Nat} (h : Good L D R S k) (hD : wi (D[k]?.getD 0) 0 (L - 1) = true) (hR : wi (R[k]?.getD 0) 60 700 = true) (hS : wi (S[k]?.getD 0) 740 1380 = true) (hi : 1 ≤ k → D[k - 1]?.getD 0 < D[k]?.getD 0) : Good L D R S (k + 1) := by
  intro i hi'
  rcases Nat.lt_or_eq_of_le (Nat.le_of_lt_succ hi') with e | e
  · exact h i e
  · subst e; exact ⟨hD, hR, hS, hi⟩

set_option maxHeartbeats 4000000 in
theorem rcheck_any {L : Int} {n1 n2 n3 c1 c2 c3 : Nat} {a1 a2 a3 : Option Addr} {D R S : List Int} (w : World) (hD : LstO w a1 n1 D) (hR : LstO w a2 n2 R) (hS : LstO w a3 n3 S) (h1 : n1 ≤ 1000) (h2 : n2 ≤ 1000) (h3 : n3 ≤ 1000) :
   Calls Tryd.prog 27 #[.agg #[.int .i64 L, .slice a1 n1 c1, .slice a2 n2 c2, .slice a3 n3 c3]] w
     fun e w' => e = .returned (.int .i64 (ck L D R S)) ∧ Below w.heap.size w w' := by
  by_cases hg : (360 ≤ L ∧ L ≤ 366) ∧ (1 ≤ n1 ∧ n1 ≤ 24) ∧ n2 = n1 ∧ n3 = n1
  · obtain ⟨hL, hn, rfl, rfl⟩ := hg
    obtain ⟨b1, o1, rfl, kD⟩ := hD.2.resolve_left (by omega)
    obtain ⟨b2, o2, rfl, kR⟩ := hR.2.resolve_left (by omega)
    obtain ⟨b3, o3, rfl, kS⟩ := hS.2.resolve_left (by omega)
    have HD := Lib.hid kD; have HR := Lib.hid kR; have HS := Lib.hid kS; clear hD hR hS kD kR kS
    have hwL : wi L 360 366 = true := wi_mk hL
    have hwn : wi n3 1 24 = true := wi_mk (by omega)
    have hb1 := HD.out.lt; have hb2 := HR.out.lt; have hb3 := HS.out.lt
    go_enter Tryd.func27, Tryd.ntmps27
    go_wp2_with (go_at_call 79; refine (rwithin_any _ _ _ _).mono ?_; rintro e w1 ⟨rfl, rfl⟩)
    clear hwL hwn
    go_loopw [4] (fun v wr => ∃ k m : Nat, k ≤ n3 ∧ v = .int .i64 k ∧ Good L D R S k ∧ wr = (w.alloc (.cells #[.int .i64 L, .slice (some ⟨b1, o1, none⟩) n3 c1, .slice (some ⟨b2, o2, none⟩) n3 c2, .slice (some ⟨b3, o3, none⟩) n3 c3] 24)).drewN m) (fun v _ => n3 - (intOf v).toNat)
    case atStart => exact ⟨0, 0, by omega, rfl, fun i h => by omega, rfl⟩
    case round =>
      obtain ⟨k, m, hk, rfl, hp, rfl⟩ := hrel
      have HP := Lib.hid hp; clear hp
      by_cases hlt : k < n3
      · have hca := HD.out.cell k hlt
        have hcr := HR.out.cell k hlt
        have hcs := HS.out.cell k hlt
        have hwL1 := IntWalk.i64_in (L - 1) (by omega)
        cases rD : wi (D[k]?.getD 0) 0 (L - 1)
        · have HCK := Lib.hid (ck_no (L := L) (D := D) (R := R) (S := S) (fun h => by
            have := wi_mk (h.D0 k (by rw [HD.out.len]; exact hlt)); rw [rD] at this; cases this))
          go_wp2
          go_quiet ((go_at_call 79; exact quiet_add (rwithin_any _ _ _ _)))
          go_wp2
          go_ret
          exact ⟨ret_int HCK.out.symm, by (repeat refine below_drewN ?_ _); go_grown⟩
        · rcases k with _ | k
          · have hinc : 1 ≤ 0 → D[0 - 1]?.getD 0 < D[0]?.getD 0 := fun h => by omega
            have e00 : ((0 : Nat) : Int) = 0 := rfl
            rw [e00]; clear e00
            rw [Nat.add_zero] at hca hcr hcs
            cases rR : wi (R[0]?.getD 0) 60 700
            · have HCK := Lib.hid (ck_no (L := L) (D := D) (R := R) (S := S) (fun h => by
                have := wi_mk (h.Rb 0 (by rw [HR.out.len]; exact hlt)); rw [rR] at this; cases this))
              go_wp2
              go_quiet ((go_at_call 79; exact quiet_add (rwithin_any _ _ _ _)))
              go_wp2
              go_ret
              exact ⟨ret_int HCK.out.symm, by (repeat refine below_drewN ?_ _); go_grown⟩
            · cases rS : wi (S[0]?.getD 0) 740 1380
              · have HCK := Lib.hid (ck_no (L := L) (D := D) (R := R) (S := S) (fun h => by
                  have := wi_mk (h.Sb 0 (by rw [HS.out.len]; exact hlt)); rw [rS] at this; cases this))
                go_wp2
                go_quiet ((go_at_call 79; exact quiet_add (rwithin_any _ _ _ _)))
                go_wp2
                go_ret
                exact ⟨ret_int HCK.out.symm, by (repeat refine below_drewN ?_ _); go_grown⟩
              · have HN := Lib.hid (good_step HP.out rD rR rS hinc)
                go_wp2
                go_quiet ((go_at_call 79; exact quiet_add (rwithin_any _ _ _ _)))
                go_wp2
                go_roundw
                case rel => exact ⟨0 + 1, _, by omega, by go_num, HN.out, rfl⟩
                case measure => simp [intOf]; omega
          · have hcb := HD.out.cell k (by omega)
            have hw1 := IntWalk.i64_in ((k : Int) + 1 - 1) (by omega)
            by_cases hin : D[k + 1]?.getD 0 ≤ D[k]?.getD 0
            · have HCK := Lib.hid (ck_no (L := L) (D := D) (R := R) (S := S) (fun h => by
                have := h.Dl (k + 1) (by omega) (by rw [HD.out.len]; exact hlt); rw [Nat.add_sub_cancel] at this; omega))
              go_wp2
              go_quiet ((go_at_call 79; exact quiet_add (rwithin_any _ _ _ _)))
              go_wp2
              go_ret
              exact ⟨ret_int HCK.out.symm, by (repeat refine below_drewN ?_ _); go_grown⟩
            · have hinc : 1 ≤ k + 1 → D[k + 1 - 1]?.getD 0 < D[k + 1]?.getD 0 := fun _ => by rw [Nat.add_sub_cancel]; omega
              have hin2 : decide (D[k + 1]?.getD 0 ≤ D[k]?.getD 0) = false := by simpa using hin
              cases rR : wi (R[k + 1]?.getD 0) 60 700
              · have HCK := Lib.hid (ck_no (L := L) (D := D) (R := R) (S := S) (fun h => by
                  have := wi_mk (h.Rb (k + 1) (by rw [HR.out.len]; exact hlt)); rw [rR] at this; cases this))
                go_wp2
                go_quiet ((go_at_call 79; exact quiet_add (rwithin_any _ _ _ _)))
                go_wp2
                go_ret
                exact ⟨ret_int HCK.out.symm, by (repeat refine below_drewN ?_ _); go_grown⟩
              · cases rS : wi (S[k + 1]?.getD 0) 740 1380
                · have HCK := Lib.hid (ck_no (L := L) (D := D) (R := R) (S := S) (fun h => by
                    have := wi_mk (h.Sb (k + 1) (by rw [HS.out.len]; exact hlt)); rw [rS] at this; cases this))
                  go_wp2
                  go_quiet ((go_at_call 79; exact quiet_add (rwithin_any _ _ _ _)))
                  go_wp2
                  go_ret
                  exact ⟨ret_int HCK.out.symm, by (repeat refine below_drewN ?_ _); go_grown⟩
                · have HN := Lib.hid (good_step HP.out rD rR rS hinc)
                  go_wp2
                  go_quiet ((go_at_call 79; exact quiet_add (rwithin_any _ _ _ _)))
                  go_wp2
                  go_roundw
                  case rel => exact ⟨k + 1 + 1, _, by omega, by go_num, HN.out, rfl⟩
                  case measure => simp [intOf]; omega
      · have HCK := Lib.hid (ck_yes (L := L) (D := D) (R := R) (S := S) ⟨hL.1, hL.2, by rw [HD.out.len]; omega, by rw [HD.out.len]; omega, by rw [HD.out.len, HR.out.len], by rw [HD.out.len, HS.out.len], fun i hi => (wi_iff _ _ _).1 (HP.out i (by rw [HD.out.len] at hi; omega)).1, fun i h1 h2 => (HP.out i (by rw [HD.out.len] at h2; omega)).2.2.2 h1, fun i hi => (wi_iff _ _ _).1 (HP.out i (by rw [HR.out.len] at hi; omega)).2.1, fun i hi => (wi_iff _ _ _).1 (HP.out i (by rw [HS.out.len] at hi; omega)).2.2.1⟩)
        go_wp2
        go_ret
        exact ⟨ret_int HCK.out.symm, by (repeat refine below_drewN ?_ _); go_grown⟩
  · have hck : ck L D R S = 50 := ck_no (fun h => hg ⟨⟨h.L1, h.L2⟩, by have := h.n1; have := h.n2; have := hD.1; omega, by have := h.nR; have := hD.1; have := hR.1; omega, by have := h.nS; have := hD.1; have := hS.1; omega⟩)
    have HCK := Lib.hid hck; clear hck hD hR hS
    cases hwL : wi L 360 366
    · go_enter Tryd.func27, Tryd.ntmps27
      go_wp2_with (go_at_call 79; refine (rwithin_any _ _ _ _).mono ?_; rintro e w1 ⟨rfl, rfl⟩)
      go_ret
      exact ⟨ret_int HCK.out.symm, by go_grown⟩
    · cases hwn : wi n1 1 24
      · go_enter Tryd.func27, Tryd.ntmps27
        go_wp2_with (go_at_call 79; refine (rwithin_any _ _ _ _).mono ?_; rintro e w1 ⟨rfl, rfl⟩)
        go_ret
        exact ⟨ret_int HCK.out.symm, by go_grown⟩
      · have hg' : ¬ (n2 = n1 ∧ n3 = n1) := fun ⟨x, y⟩ => hg ⟨(wi_iff _ _ _).1 hwL, by have := (wi_iff _ _ _).1 hwn; omega, x, y⟩
        clear hg
        by_cases hn2 : n2 = n1
        · have hn3 : ((n3 : Int) != n1) = true := by rw [bne_iff_ne]; omega
          subst hn2
          clear hg'
          go_enter Tryd.func27, Tryd.ntmps27
          go_wp2_with (go_at_call 79; refine (rwithin_any _ _ _ _).mono ?_; rintro e w1 ⟨rfl, rfl⟩)
          go_ret
          exact ⟨ret_int HCK.out.symm, by go_grown⟩
        · have hn3 : ((n2 : Int) != n1) = true := by rw [bne_iff_ne]; omega
          clear hg' hn2
          go_enter Tryd.func27, Tryd.ntmps27
          go_wp2_with (go_at_call 79; refine (rwithin_any _ _ _ _).mono ?_; rintro e w1 ⟨rfl, rfl⟩)
          go_ret
          exact ⟨ret_int HCK.out.symm, by go_grown⟩

/-- A season that came in: its three lists, whatever they are. -/
structure SeaO (w : World) (a1 : Option Addr) (n1 : Nat) (a2 : Option Addr) (n2 : Nat) (a3 : Option Addr) (n3 : Nat) (D R S : List Int) : Prop where
  D : LstO w a1 n1 D
  R : LstO w a2 n2 R
  S : LstO w a3 n3 S
  d : n1 ≤ 1000
  r : n2 ≤ 1000
  s : n3 ≤ 1000
theorem SeaO.to {w W : World} {a1 a2 a3 : Option Addr} {n1 n2 n3 : Nat} {D R S : List Int} (h : SeaO w a1 n1 a2 n2 a3 n3 D R S) (hb : Below w.heap.size w W) : SeaO W a1 n1 a2 n2 a3 n3 D R S :=
  ⟨h.D.to hb, h.R.to hb, h.S.to hb, h.d, h.r, h.s⟩
/-- A valid season's lists are none of them empty. -/
theorem SeaO.sea {w : World} {L : Int} {a1 a2 a3 : Option Addr} {n1 n2 n3 : Nat} {D R S : List Int} (h : SeaO w a1 n1 a2 n2 a3 n3 D R S) (hok : Ok L D R S) :
    ∃ b1 o1 b2 o2 b3 o3, a1 = some ⟨b1, o1, none⟩ ∧ a2 = some ⟨b2, o2, none⟩ ∧ a3 = some ⟨b3, o3, none⟩ ∧ n2 = n1 ∧ n3 = n1 ∧ Sea w n1 b1 o1 b2 o2 b3 o3 D R S := by
  have e1 := h.D.1; have e2 := h.R.1; have e3 := h.S.1
  have k0 := hok.n1; have k1 := hok.nR; have k2 := hok.nS
  obtain ⟨b1, o1, r1, kD⟩ := h.D.2.resolve_left (by omega)
  obtain ⟨b2, o2, r2, kR⟩ := h.R.2.resolve_left (by omega)
  obtain ⟨b3, o3, r3, kS⟩ := h.S.2.resolve_left (by omega)
  obtain rfl : n2 = n1 := by omega
  obtain rfl : n3 = n2 := by omega
  exact ⟨b1, o1, b2, o2, b3, o3, r1, r2, r3, rfl, rfl, kD, kR, kS⟩

open Classical in
/-- The error of a season, a day and an hour. -/
noncomputable def askH (L : Int) (D R S : List Int) (day h p : Int) : Int := if Ok L D R S then (if wi day 0 11000 = true ∧ hrOk h p = true then 0 else 1) else 50
theorem askH_season {L : Int} {D R S : List Int} (day h p : Int) (k : ¬ Ok L D R S) : askH L D R S day h p = 50 := if_neg k
theorem askH_arg {L : Int} {D R S : List Int} (day h p : Int) (k : Ok L D R S) (h' : ¬ (wi day 0 11000 = true ∧ hrOk h p = true)) : askH L D R S day h p = 1 := by unfold askH; rw [if_pos k, if_neg h']
theorem askH_ok {L : Int} {D R S : List Int} (day h p : Int) (k : Ok L D R S) (h1 : wi day 0 11000 = true) (h2 : hrOk h p = true) : askH L D R S day h p = 0 := by unfold askH; rw [if_pos k, if_pos ⟨h1, h2⟩]
theorem hrOk_zero : hrOk 0 0 = true := by decide
theorem allB_one (x lo hi : Int) : allB [x] lo hi = wi x lo hi := by simp [allB]
theorem hrOk_iff (h p : Int) : hrOk h p = true ↔ (0 ≤ h ∧ h ≤ 11) ∧ (0 ≤ p ∧ p ≤ 59) := by unfold hrOk; rw [Bool.and_eq_true, wi_iff, wi_iff]

set_option maxHeartbeats 1000000 in
theorem asked_any {L : Int} {n1 n2 n3 c1 c2 c3 : Nat} {a1 a2 a3 : Option Addr} {D R S : List Int} (day : Int) {b o c : Nat} (w : World) (hs : SeaO w a1 n1 a2 n2 a3 n3 D R S) (hd : Lst w w.heap.size b o 1 [day]) :
   Calls Tryd.prog 68 #[.agg #[.int .i64 L, .slice a1 n1 c1, .slice a2 n2 c2, .slice a3 n3 c3], .slice (some ⟨b, o, none⟩) 1 c] w
     fun e w' => e = .returned (.int .i64 (askH L D R S day 0 0)) ∧ Below w.heap.size w w' := by
  have HS := Lib.hid hs; have HD := Lib.hid hd; clear hs hd
  by_cases hok : Ok L D R S
  · have hck := ck_yes hok
    cases hwi : wi day 0 11000
    · have HA := Lib.hid (askH_arg day 0 0 hok (by simp [hwi]))
      have hall : allB [day] 0 11000 = false := by rw [allB_one]; exact hwi
      go_enter Tryd.func68, Tryd.ntmps68
      go_wp2_with fail
      refine (check_any _ (HS.out.to (by go_grown)).D (HS.out.to (by go_grown)).R (HS.out.to (by go_grown)).S HS.out.d HS.out.r HS.out.s).mono ?_
      rintro e w1 ⟨rfl, hb1⟩
      have HB := Lib.hid (bjoin (w := w) (by go_grown) hb1); clear hb1
      go_wp2_with fail
      refine (all_any _ _ _ (HD.out.to HB.out) (by omega)).mono ?_
      rintro e w2 ⟨rfl, rfl⟩
      go_wp2
      go_ret
      exact ⟨ret_int HA.out.symm, HB.out⟩
    · have HA := Lib.hid (askH_ok day 0 0 hok hwi hrOk_zero)
      have hall : allB [day] 0 11000 = true := by rw [allB_one]; exact hwi
      go_enter Tryd.func68, Tryd.ntmps68
      go_wp2_with fail
      refine (check_any _ (HS.out.to (by go_grown)).D (HS.out.to (by go_grown)).R (HS.out.to (by go_grown)).S HS.out.d HS.out.r HS.out.s).mono ?_
      rintro e w1 ⟨rfl, hb1⟩
      have HB := Lib.hid (bjoin (w := w) (by go_grown) hb1); clear hb1
      go_wp2_with fail
      refine (all_any _ _ _ (HD.out.to HB.out) (by omega)).mono ?_
      rintro e w2 ⟨rfl, rfl⟩
      go_wp2
      go_ret
      exact ⟨ret_int HA.out.symm, HB.out⟩
  · have hck := ck_no hok
    have HA := Lib.hid (askH_season day 0 0 hok)
    go_enter Tryd.func68, Tryd.ntmps68
    go_wp2_with fail
    refine (check_any _ (HS.out.to (by go_grown)).D (HS.out.to (by go_grown)).R (HS.out.to (by go_grown)).S HS.out.d HS.out.r HS.out.s).mono ?_
    rintro e w1 ⟨rfl, hb1⟩
    have HB := Lib.hid (bjoin (w := w) (by go_grown) hb1); clear hb1
    go_wp2
    go_ret
    exact ⟨ret_int HA.out.symm, HB.out⟩

/-- A list of one, just made. -/
theorem lst_one (w : World) (x : Int) (t : TypeId) (m : Nat × Nat) (b : Nat) (h : b = w.heap.size) : Lst (w.alloc (.cells #[.int .i64 x] t m)) (w.alloc (.cells #[.int .i64 x] t m)).heap.size b 0 1 [x] :=
  ⟨rfl, fun i hi => by obtain rfl : i = 0 := by omega
                       subst h; rw [World.cell?_alloc_mark]; rfl, by subst h; simp⟩
end Go.Proofs.YtomlfliebolkmaaDoor
