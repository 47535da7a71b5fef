/-
  A ratio in lowest terms; which seasons are valid (hours.Check), by contract. No condition beyond what each states.
-/
import Derived.Test.YtomlfliebolkmaaDoorWD
namespace Go.Proofs.YtomlfliebolkmaaDoor
open Go Go.Proofs Go.RowKit Pl

set_option maxHeartbeats 1000000 in
theorem lowest_any (n d : Int) (w : World) (hn : 0 ≤ n ∧ n ≤ 30000000000) (hd : 0 < d ∧ d ≤ 720) :
   Calls Tryd.prog 74 #[.int .i64 n, .int .i64 d] w
     fun e w' => e = .returned (.agg #[.int .i64 (n / gF n d), .int .i64 (d / gF n d)]) ∧ Below w.heap.size w w' := by
  have hg := gF_pos n d hd.1
  go_enter Tryd.func74, Tryd.ntmps74
  go_wp2
  go_loopw [5, 6] (fun va vb wr => ∃ (a b : Int) (k : Nat), va = .int .i64 a ∧ vb = .int .i64 b ∧ 0 ≤ a ∧ a ≤ 30000000000 ∧ 0 ≤ b ∧ b ≤ 720 ∧ gF a b = gF n d ∧ wr = (w.alloc (.cells #[.int .i64 0, .int .i64 0] 31)).drewN k) (fun _ vb _ => (intOf vb).toNat)
  case atStart => exact ⟨n, d, 0, rfl, rfl, by omega, by omega, by omega, by omega, rfl, rfl⟩
  case round =>
    obtain ⟨a, b, k, rfl, rfl, a0, a1, b0, b1, he, rfl⟩ := hrel
    have HE := Lib.hid he; clear he
    by_cases hz : b = 0
    · subst hz
      have hag : a = gF n d := by rw [← HE.out]; exact (gF_zero a a0).symm
      subst hag
      clear HE
      generalize hG : gF n d = g at *
      have HG := Lib.hid hG; clear hG
      go_wp2
      go_region
      go_wp2
      go_returns
      exact ⟨by rw [HG.out], ((below_drewN ((Below.refl _ _).alloc (Nat.le_refl _) _) _).setCell (p := ⟨w.heap.size, 0, none⟩) (Nat.le_refl _) _).setCell (p := ⟨w.heap.size, 1, none⟩) (Nat.le_refl _) _⟩
    · have hz1 : (b != 0) = true := by simp [hz]
      have hr0 := Int.emod_nonneg a hz
      have hr1 := Int.emod_lt_of_pos a (show 0 < b by omega)
      have HN := Lib.hid (show gF b (a % b) = gF n d by rw [← HE.out]; exact gF_step a b a0 (by omega))
      clear HE
      go_wp2
      go_quiet (fail)
      go_wp2
      go_roundw
      case rel => exact ⟨b, a % b, _, rfl, rfl, by omega, by omega, by omega, by omega, HN.out, World.drewN_drewN _ _ _⟩
      case measure => simp [intOf]; omega

set_option maxHeartbeats 1000000 in
theorem rlowest_any (n d : Int) (w : World) (hn : 0 ≤ n ∧ n ≤ 30000000000) (hd : 0 < d ∧ d ≤ 720) :
   Calls Tryd.prog 75 #[.int .i64 n, .int .i64 d] w
     fun e w' => e = .returned (.agg #[.int .i64 (n / gF n d), .int .i64 (d / gF n d)]) ∧ Below w.heap.size w w' := by
  have hg := gF_pos n d hd.1
  go_enter Tryd.func75, Tryd.ntmps75
  go_wp2
  go_loopw [5, 6] (fun va vb wr => ∃ (a b : Int) (k : Nat), va = .int .i64 a ∧ vb = .int .i64 b ∧ 0 ≤ a ∧ a ≤ 30000000000 ∧ 0 ≤ b ∧ b ≤ 720 ∧ gF a b = gF n d ∧ wr = (w.alloc (.cells #[.int .i64 0, .int .i64 0] 31)).drewN k) (fun _ vb _ => (intOf vb).toNat)
  case atStart => exact ⟨n, d, 0, rfl, rfl, by omega, by omega, by omega, by omega, rfl, rfl⟩
  case round =>
    obtain ⟨a, b, k, rfl, rfl, a0, a1, b0, b1, he, rfl⟩ := hrel
    have HE := Lib.hid he; clear he
    by_cases hz : b = 0
    · subst hz
      have hag : a = gF n d := by rw [← HE.out]; exact (gF_zero a a0).symm
      subst hag
      clear HE
      generalize hG : gF n d = g at *
      have HG := Lib.hid hG; clear hG
      go_wp2
      go_region
      go_wp2
      go_returns
      exact ⟨by rw [HG.out], ((below_drewN ((Below.refl _ _).alloc (Nat.le_refl _) _) _).setCell (p := ⟨w.heap.size, 0, none⟩) (Nat.le_refl _) _).setCell (p := ⟨w.heap.size, 1, none⟩) (Nat.le_refl _) _⟩
    · have hz1 : (b != 0) = true := by simp [hz]
      have hr0 := Int.emod_nonneg a hz
      have hr1 := Int.emod_lt_of_pos a (show 0 < b by omega)
      have HN := Lib.hid (show gF b (a % b) = gF n d by rw [← HE.out]; exact gF_step a b a0 (by omega))
      clear HE
      go_wp2
      go_roundw
      case rel => exact ⟨b, a % b, _, rfl, rfl, by omega, by omega, by omega, by omega, HN.out, rfl⟩
      case measure => simp [intOf]; omega

/-- All numbers lie from lo to hi. -/
def allB (xs : List Int) (lo hi : Int) : Bool := xs.all fun x => wi x lo hi
theorem allB_iff (xs : List Int) (lo hi : Int) : allB xs lo hi = true ↔ ∀ i, i < xs.length → lo ≤ xs[i]?.getD 0 ∧ xs[i]?.getD 0 ≤ hi := by
  unfold allB
  rw [List.all_eq_true]
  constructor
  · intro h i hi'
    have := h (xs[i]) (List.getElem_mem hi')
    rw [wi_iff] at this
    simpa [List.getElem?_eq_getElem hi'] using this
  · intro h x hx
    obtain ⟨i, hi', rfl⟩ := List.getElem_of_mem hx
    have := h i hi'
    rw [wi_iff]
    simpa [List.getElem?_eq_getElem hi'] using this
theorem allB_no {xs : List Int} {lo hi : Int} (i : Nat) (hi' : i < xs.length) (h : wi (xs[i]?.getD 0) lo hi = false) : allB xs lo hi = false := by
  cases e : allB xs lo hi
  · rfl
  · have := (allB_iff xs lo hi).1 e i hi'
    rw [wi_mk this] at h; exact h

set_option maxHeartbeats 1000000 in
theorem all_any {b o n c : Nat} {xs : List Int} (lo hi : Int) (w : World) (hx : Lst w w.heap.size b o n xs) (hn : n ≤ 1000) :
   Calls Tryd.prog 78 #[.slice (some ⟨b, o, none⟩) n c, .int .i64 lo, .int .i64 hi] w
     fun e w' => e = .returned (.bool (allB xs lo hi)) ∧ w = w' := by
  have HL := Lib.hid hx.len; have HC := Lib.hid hx.cell; clear hx
  go_enter Tryd.func78, Tryd.ntmps78
  go_wp2
  go_loop [11] (fun v => ∃ k : Nat, k ≤ n ∧ v = .int .i64 k ∧ ∀ i, i < k → lo ≤ xs[i]?.getD 0 ∧ xs[i]?.getD 0 ≤ hi) (fun v => n - (intOf v).toNat)
  case atStart => exact ⟨0, by omega, rfl, fun i hi => by omega⟩
  case round =>
    obtain ⟨k, hk, rfl, hp⟩ := hrel
    have HP := Lib.hid hp; clear hp
    by_cases hlt : k < n
    · have hc := HC.out k hlt
      cases hwi : wi (xs[k]?.getD 0) lo hi
      · have HA := Lib.hid (allB_no (lo := lo) (hi := hi) k (by rw [HL.out]; exact hlt) hwi)
        go_wp2_with (go_at_call 77; refine (within_any _ _ _ _).mono ?_; rintro e w1 ⟨rfl, rfl⟩)
        go_ret
        exact ⟨ret_bool HA.out.symm, rfl⟩
      · have HN := Lib.hid (show ∀ i, i < k + 1 → lo ≤ xs[i]?.getD 0 ∧ xs[i]?.getD 0 ≤ hi from fun i hi' => by
          rcases Nat.lt_or_eq_of_le (Nat.le_of_lt_succ hi') with h | h
          · exact HP.out i h
          · subst h; exact (wi_iff _ _ _).1 hwi)
        go_wp2_with (go_at_call 77; refine (within_any _ _ _ _).mono ?_; rintro e w1 ⟨rfl, rfl⟩)
        go_round
        case rel => exact ⟨k + 1, by omega, by go_num, HN.out⟩
        case measure => simp [intOf]; omega
    · obtain rfl : k = n := by omega
      have HA := Lib.hid ((allB_iff xs lo hi).2 (fun i hi' => HP.out i (by rw [← HL.out]; exact hi')))
      go_wp2
      go_ret
      exact ⟨ret_bool HA.out.symm, rfl⟩

/-- A list of numbers in memory, an empty one anywhere. -/
def LstO (w : World) (a : Option Addr) (n : Nat) (xs : List Int) : Prop := xs.length = n ∧ (n = 0 ∨ ∃ b o, a = some ⟨b, o, none⟩ ∧ Lst w w.heap.size b o n xs)
theorem LstO.to {w W : World} {a : Option Addr} {n : Nat} {xs : List Int} (h : LstO w a n xs) (hb : Below w.heap.size w W) : LstO W a n xs :=
  ⟨h.1, h.2.imp id fun ⟨b, o, e, k⟩ => ⟨b, o, e, k.to hb⟩⟩

open Classical in
/-- What Check answers. -/
noncomputable def ck (L : Int) (D R S : List Int) : Int := if Ok L D R S then 0 else 50
theorem ck_yes {L : Int} {D R S : List Int} (h : Ok L D R S) : ck L D R S = 0 := if_pos h
theorem ck_no {L : Int} {D R S : List Int} (h : ¬ Ok L D R S) : ck L D R S = 50 := if_neg h

set_option maxHeartbeats 2000000 in
theorem check_any {L : Int} {n1 n2 n3 c1 c2 c3 : Nat} {a1 a2 a3 : Option Addr} {D R S : List Int} (w : World) (hD : LstO w a1 n1 D) (hR : LstO w a2 n2 R) (hS : LstO w a3 n3 S) (h1 : n1 ≤ 1000) (h2 : n2 ≤ 1000) (h3 : n3 ≤ 1000) :
   Calls Tryd.prog 26 #[.agg #[.int .i64 L, .slice a1 n1 c1, .slice a2 n2 c2, .slice a3 n3 c3]] w
     fun e w' => e = .returned (.int .i64 (ck L D R S)) ∧ Below w.heap.size w w' := by
  by_cases hg : (360 ≤ L ∧ L ≤ 366) ∧ (1 ≤ n1 ∧ n1 ≤ 24) ∧ n2 = n1 ∧ n3 = n1
  · obtain ⟨hL, hn, rfl, rfl⟩ := hg
    obtain ⟨b1, o1, rfl, kD⟩ := hD.2.resolve_left (by omega)
    obtain ⟨b2, o2, rfl, kR⟩ := hR.2.resolve_left (by omega)
    obtain ⟨b3, o3, rfl, kS⟩ := hS.2.resolve_left (by omega)
    have HD := Lib.hid kD; have HR := Lib.hid kR; have HS := Lib.hid kS; clear hD hR hS kD kR kS
    have hwL : wi L 360 366 = true := wi_mk hL
    have hwn : wi n3 1 24 = true := wi_mk (by omega)
    cases hA : allB D 0 (L - 1)
    · have HCK := Lib.hid (ck_no (L := L) (D := D) (R := R) (S := S) (fun h => by
        have := (allB_iff D 0 (L - 1)).2 h.D0; rw [hA] at this; cases this))
      go_enter Tryd.func26, Tryd.ntmps26
      go_wp2_with (first | (go_at_call 77; refine (within_any _ _ _ _).mono ?_; rintro e w1 ⟨rfl, rfl⟩) | (go_at_call 78; first | ((with_reducible refine (all_any _ _ _ (HD.out.to (by go_grown)) (by omega)).mono ?_); rintro e w1 ⟨rfl, rfl⟩) | ((with_reducible refine (all_any _ _ _ (HR.out.to (by go_grown)) (by omega)).mono ?_); rintro e w1 ⟨rfl, rfl⟩) | ((with_reducible refine (all_any _ _ _ (HS.out.to (by go_grown)) (by omega)).mono ?_); rintro e w1 ⟨rfl, rfl⟩)))
      go_ret
      exact ⟨ret_int HCK.out.symm, by go_grown⟩
    · cases hB : allB R 60 700
      · have HCK := Lib.hid (ck_no (L := L) (D := D) (R := R) (S := S) (fun h => by
          have := (allB_iff R 60 700).2 h.Rb; rw [hB] at this; cases this))
        go_enter Tryd.func26, Tryd.ntmps26
        go_wp2_with (first | (go_at_call 77; refine (within_any _ _ _ _).mono ?_; rintro e w1 ⟨rfl, rfl⟩) | (go_at_call 78; first | ((with_reducible refine (all_any _ _ _ (HD.out.to (by go_grown)) (by omega)).mono ?_); rintro e w1 ⟨rfl, rfl⟩) | ((with_reducible refine (all_any _ _ _ (HR.out.to (by go_grown)) (by omega)).mono ?_); rintro e w1 ⟨rfl, rfl⟩) | ((with_reducible refine (all_any _ _ _ (HS.out.to (by go_grown)) (by omega)).mono ?_); rintro e w1 ⟨rfl, rfl⟩)))
        go_ret
        exact ⟨ret_int HCK.out.symm, by go_grown⟩
      · cases hC : allB S 740 1380
        · have HCK := Lib.hid (ck_no (L := L) (D := D) (R := R) (S := S) (fun h => by
            have := (allB_iff S 740 1380).2 h.Sb; rw [hC] at this; cases this))
          go_enter Tryd.func26, Tryd.ntmps26
          go_wp2_with (first | (go_at_call 77; refine (within_any _ _ _ _).mono ?_; rintro e w1 ⟨rfl, rfl⟩) | (go_at_call 78; first | ((with_reducible refine (all_any _ _ _ (HD.out.to (by go_grown)) (by omega)).mono ?_); rintro e w1 ⟨rfl, rfl⟩) | ((with_reducible refine (all_any _ _ _ (HR.out.to (by go_grown)) (by omega)).mono ?_); rintro e w1 ⟨rfl, rfl⟩) | ((with_reducible refine (all_any _ _ _ (HS.out.to (by go_grown)) (by omega)).mono ?_); rintro e w1 ⟨rfl, rfl⟩)))
          go_ret
          exact ⟨ret_int HCK.out.symm, by go_grown⟩
        · have HA := Lib.hid ((allB_iff D 0 (L - 1)).1 hA)
          have HB := Lib.hid ((allB_iff R 60 700).1 hB)
          have HC := Lib.hid ((allB_iff S 740 1380).1 hC)
          have hb1 := HD.out.lt
          go_enter Tryd.func26, Tryd.ntmps26
          go_wp2_with (first | (go_at_call 77; refine (within_any _ _ _ _).mono ?_; rintro e w1 ⟨rfl, rfl⟩) | (go_at_call 78; first | ((with_reducible refine (all_any _ _ _ (HD.out.to (by go_grown)) (by omega)).mono ?_); rintro e w1 ⟨rfl, rfl⟩) | ((with_reducible refine (all_any _ _ _ (HR.out.to (by go_grown)) (by omega)).mono ?_); rintro e w1 ⟨rfl, rfl⟩) | ((with_reducible refine (all_any _ _ _ (HS.out.to (by go_grown)) (by omega)).mono ?_); rintro e w1 ⟨rfl, rfl⟩)))
          go_loopw [4] (fun v wr => ∃ k m : Nat, k + 1 ≤ n3 ∧ v = .int .i64 ((k : Int) + 1) ∧ (∀ j, 1 ≤ j → j < k + 1 → D[j - 1]?.getD 0 < D[j]?.getD 0) ∧ wr = (w.alloc (.cells #[.int .i64 L, .slice (some ⟨b1, o1, none⟩) n3 c1, .slice (some ⟨b2, o2, none⟩) n3 c2, .slice (some ⟨b3, o3, none⟩) n3 c3] 24)).drewN m) (fun v _ => n3 - (intOf v).toNat)
          case atStart => exact ⟨0, 0, by omega, rfl, fun j h1 h2 => by omega, rfl⟩
          case round =>
            obtain ⟨k, m, hk, rfl, hp, rfl⟩ := hrel
            have HP := Lib.hid hp; clear hp
            by_cases hlt : k + 1 < n3
            · have hca := HD.out.cell k (by omega)
              have hcb := HD.out.cell (k + 1) hlt
              have hw1 := IntWalk.i64_in ((k : Int) + 1 - 1) (by omega)
              by_cases hlt2 : D[k]?.getD 0 < D[k + 1]?.getD 0
              · have HN := Lib.hid (show ∀ j, 1 ≤ j → j < k + 1 + 1 → D[j - 1]?.getD 0 < D[j]?.getD 0 from fun j h1 h2 => by
                  rcases Nat.lt_or_eq_of_le (Nat.le_of_lt_succ h2) with h | h
                  · exact HP.out j h1 h
                  · subst h; simpa using hlt2)
                go_wp2
                go_quiet (fail)
                go_wp2
                go_roundw
                case rel => exact ⟨k + 1, _, by omega, by go_num, HN.out, rfl⟩
                case measure => simp [intOf]; omega
              · have HCK := Lib.hid (ck_no (L := L) (D := D) (R := R) (S := S) (fun h => by
                  have := h.Dl (k + 1) (by omega) (by rw [HD.out.len]; exact hlt)
                  rw [Nat.add_sub_cancel] at this; omega))
                go_wp2
                go_quiet (fail)
                go_wp2
                go_ret
                exact ⟨ret_int HCK.out.symm, by (repeat refine below_drewN ?_ _); go_grown⟩
            · have HCK := Lib.hid (ck_yes (L := L) (D := D) (R := R) (S := S) ⟨hL.1, hL.2, by rw [HD.out.len]; omega, by rw [HD.out.len]; omega, by rw [HD.out.len, HR.out.len], by rw [HD.out.len, HS.out.len], HA.out, fun i h1 h2 => HP.out i h1 (by rw [HD.out.len] at h2; omega), HB.out, HC.out⟩)
              go_wp2
              go_ret
              exact ⟨ret_int HCK.out.symm, by (repeat refine below_drewN ?_ _); go_grown⟩
  · have hck : ck L D R S = 50 := ck_no (fun h => hg ⟨⟨h.L1, h.L2⟩, by have := h.n1; have := h.n2; have := hD.1; omega, by have := h.nR; have := hD.1; have := hR.1; omega, by have := h.nS; have := hD.1; have := hS.1; omega⟩)
    have HCK := Lib.hid hck; clear hck hD hR hS
    cases hwL : wi L 360 366
    · go_enter Tryd.func26, Tryd.ntmps26
      go_wp2_with (go_at_call 77; refine (within_any _ _ _ _).mono ?_; rintro e w1 ⟨rfl, rfl⟩)
      go_ret
      exact ⟨ret_int HCK.out.symm, by go_grown⟩
    · cases hwn : wi n1 1 24
      · go_enter Tryd.func26, Tryd.ntmps26
        go_wp2_with (go_at_call 77; refine (within_any _ _ _ _).mono ?_; rintro e w1 ⟨rfl, rfl⟩)
        go_ret
        exact ⟨ret_int HCK.out.symm, by go_grown⟩
      · have hg' : ¬ (n2 = n1 ∧ n3 = n1) := fun ⟨x, y⟩ => hg ⟨(wi_iff _ _ _).1 hwL, by have := (wi_iff _ _ _).1 hwn; omega, x, y⟩
        clear hg
        by_cases hn2 : n2 = n1
        · have hn3 : ((n3 : Int) != n1) = true := by rw [bne_iff_ne]; omega
          subst hn2
          clear hg'
          go_enter Tryd.func26, Tryd.ntmps26
          go_wp2_with (go_at_call 77; refine (within_any _ _ _ _).mono ?_; rintro e w1 ⟨rfl, rfl⟩)
          go_ret
          exact ⟨ret_int HCK.out.symm, by go_grown⟩
        · have hn3 : ((n2 : Int) != n1) = true := by rw [bne_iff_ne]; omega
          clear hg' hn2
          go_enter Tryd.func26, Tryd.ntmps26
          go_wp2_with (go_at_call 77; refine (within_any _ _ _ _).mono ?_; rintro e w1 ⟨rfl, rfl⟩)
          go_ret
          exact ⟨ret_int HCK.out.symm, by go_grown⟩
end Go.Proofs.YtomlfliebolkmaaDoor
