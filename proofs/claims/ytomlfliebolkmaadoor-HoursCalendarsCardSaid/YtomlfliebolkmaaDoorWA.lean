/-
  Contracts of small functions: within, isDay, isHour, down; what a table tells for a day (hours.at). No condition beyond what each states.
-/
import Derived.Test.YtomlfliebolkmaaDoorProg
import Derived.Test.YtomlfliebolkmaaDoorPlA
import Derived.Test.YtomlfliebolkmaaDoorPlB
import Derived.WalkKit
import Derived.WalkSpells
import Derived.WalkLawsBesides
import Derived.Handy
import Derived.Lib.Hide
import Derived.IntWalk
import Derived.Deep.QuietTactic
import Derived.BigQuiet
namespace Go.Proofs.YtomlfliebolkmaaDoor
open Go Go.Proofs Go.RowKit Pl

/-- n lies from lo to hi. -/
def wi (n lo hi : Int) : Bool := decide (lo ≤ n) && decide (n ≤ hi)
theorem wi_iff (n lo hi : Int) : wi n lo hi = true ↔ lo ≤ n ∧ n ≤ hi := by unfold wi; simp
theorem wi_mk {n lo hi : Int} (h : lo ≤ n ∧ n ≤ hi) : wi n lo hi = true := (wi_iff n lo hi).2 h
theorem wi_no {n lo hi : Int} (h : ¬ (lo ≤ n ∧ n ≤ hi)) : wi n lo hi = false := by
  cases e : wi n lo hi
  · rfl
  · exact absurd ((wi_iff n lo hi).1 e) h
theorem ret_bool {a b : Bool} (h : a = b) : Ending.returned (.bool a) = .returned (.bool b) := by rw [h]
theorem ret_int {k : IntKind} {a b : Int} (h : a = b) : Ending.returned (.int k a) = .returned (.int k b) := by rw [h]

theorem within_any (n lo hi : Int) (w : World) : Calls Tryd.prog 77 #[.int .i64 n, .int .i64 lo, .int .i64 hi] w fun e w' => e = .returned (.bool (wi n lo hi)) ∧ w = w' := by
  by_cases h : lo ≤ n
  · go_enter Tryd.func77, Tryd.ntmps77
    go_wp2
    go_ret
    exact ⟨ret_bool (by simp [wi, h]), rfl⟩
  · go_enter Tryd.func77, Tryd.ntmps77
    go_wp2
    go_ret
    exact ⟨ret_bool (by rw [wi_no (by omega)]), rfl⟩
theorem rwithin_any (n lo hi : Int) (w : World) : Calls Tryd.prog 79 #[.int .i64 n, .int .i64 lo, .int .i64 hi] w fun e w' => e = .returned (.bool (wi n lo hi)) ∧ w = w' := by
  by_cases h : lo ≤ n
  · go_enter Tryd.func79, Tryd.ntmps79
    go_wp2
    go_ret
    exact ⟨ret_bool (by simp [wi, h]), rfl⟩
  · go_enter Tryd.func79, Tryd.ntmps79
    go_wp2
    go_ret
    exact ⟨ret_bool (by rw [wi_no (by omega)]), rfl⟩

theorem isDay_any (n : Int) (w : World) : Calls Tryd.prog 82 #[.int .i64 n] w fun e w' => e = .returned (.bool (wi n 0 11000)) ∧ w = w' := by
  go_enter Tryd.func82, Tryd.ntmps82
  go_wp2_with (go_at_call 77; refine (within_any _ _ _ _).mono ?_; rintro e w1 ⟨rfl, rfl⟩)
  go_ret
  exact ⟨rfl, rfl⟩
theorem rDay_any (n : Int) (w : World) : Calls Tryd.prog 83 #[.int .i64 n] w fun e w' => e = .returned (.bool (wi n 0 11000)) ∧ w = w' := by
  go_enter Tryd.func83, Tryd.ntmps83
  go_wp2_with (go_at_call 79; refine (rwithin_any _ _ _ _).mono ?_; rintro e w1 ⟨rfl, rfl⟩)
  go_ret
  exact ⟨rfl, rfl⟩

/-- An hour is valid. -/
def hrOk (h p : Int) : Bool := wi h 0 11 && wi p 0 59
theorem isHour_any (b : Bool) (h p : Int) (w : World) : Calls Tryd.prog 93 #[.agg #[.bool b, .int .i64 h, .int .i64 p]] w fun e w' => e = .returned (.bool (hrOk h p)) ∧ Below w.heap.size w w' := by
  unfold hrOk
  cases h1 : wi h 0 11
  · go_enter Tryd.func93, Tryd.ntmps93
    go_wp2_with (go_at_call 77; refine (within_any _ _ _ _).mono ?_; rintro e w1 ⟨rfl, rfl⟩)
    go_ret
    exact ⟨rfl, by go_grown⟩
  · go_enter Tryd.func93, Tryd.ntmps93
    go_wp2_with (go_at_call 77; refine (within_any _ _ _ _).mono ?_; rintro e w1 ⟨rfl, rfl⟩)
    go_ret
    exact ⟨ret_bool (by simp), by go_grown⟩
theorem rHour_any (b : Bool) (h p : Int) (w : World) : Calls Tryd.prog 56 #[.agg #[.bool b, .int .i64 h, .int .i64 p]] w fun e w' => e = .returned (.bool (hrOk h p)) ∧ Below w.heap.size w w' := by
  unfold hrOk
  cases h1 : wi h 0 11
  · go_enter Tryd.func56, Tryd.ntmps56
    go_wp2_with (go_at_call 79; refine (rwithin_any _ _ _ _).mono ?_; rintro e w1 ⟨rfl, rfl⟩)
    go_ret
    exact ⟨rfl, by go_grown⟩
  · go_enter Tryd.func56, Tryd.ntmps56
    go_wp2_with (go_at_call 79; refine (rwithin_any _ _ _ _).mono ?_; rintro e w1 ⟨rfl, rfl⟩)
    go_ret
    exact ⟨ret_bool (by simp), by go_grown⟩

theorem tdiv_down (a b : Int) (hb : 0 < b) : (if a.tmod b < 0 then a.tdiv b - 1 else a.tdiv b) = a / b := by
  have h1 := Int.tdiv_eq_ediv (a := a) (b := b)
  have h2 := Int.tmod_eq_emod (a := a) (b := b)
  have h3 := Int.emod_nonneg a (show b ≠ 0 by omega)
  have h4 := Int.emod_lt_of_pos a hb
  have hs : b.sign = 1 := Int.sign_eq_one_of_pos hb
  have hn : (b.natAbs : Int) = b := by omega
  by_cases h : 0 ≤ a ∨ b ∣ a
  · rw [if_pos h] at h1 h2; rw [if_neg (by omega)]; omega
  · rw [if_neg h] at h1 h2
    rw [if_pos (by omega)]; omega
theorem tdiv_bd (a b : Int) (h : -2000000000 ≤ a ∧ a ≤ 2000000000) : -2000000001 ≤ a.tdiv b ∧ a.tdiv b ≤ 2000000001 := by
  have h1 := Int.natAbs_tdiv_le_natAbs a b
  omega
theorem down_any (a b : Int) (w : World) (hb : 0 < b) (hb2 : b ≤ 2000000000) (h : -2000000000 ≤ a ∧ a ≤ 2000000000) : Calls Tryd.prog 81 #[.int .i64 a, .int .i64 b] w fun e w' => e = .returned (.int .i64 (a / b)) ∧ w = w' := by
  have hd := tdiv_bd a b h
  have ht := tdiv_down a b hb
  by_cases h0 : 0 ≤ a
  · have hm := Int.emod_nonneg a (show b ≠ 0 by omega)
    go_enter Tryd.func81, Tryd.ntmps81
    go_wp2
    go_ret
    exact ⟨ret_int (Int.tdiv_eq_ediv_of_nonneg h0), rfl⟩
  · by_cases hm : a.tmod b < 0
    · rw [if_pos hm] at ht
      have HT := Lib.hid ht; clear ht
      go_enter Tryd.func81, Tryd.ntmps81
      go_wp2
      go_ret
      exact ⟨ret_int (by rw [← HT.out]), rfl⟩
    · rw [if_neg hm] at ht
      have HT := Lib.hid ht; clear ht
      go_enter Tryd.func81, Tryd.ntmps81
      go_wp2
      go_ret
      exact ⟨ret_int (by rw [← HT.out]), rfl⟩
theorem rdown_any (a b : Int) (w : World) (hb : 0 < b) (hb2 : b ≤ 2000000000) (h : -2000000000 ≤ a ∧ a ≤ 2000000000) : Calls Tryd.prog 117 #[.int .i64 a, .int .i64 b] w fun e w' => e = .returned (.int .i64 (a / b)) ∧ w = w' := by
  have hd := tdiv_bd a b h
  have ht := tdiv_down a b hb
  by_cases h0 : 0 ≤ a
  · have hm := Int.emod_nonneg a (show b ≠ 0 by omega)
    go_enter Tryd.func117, Tryd.ntmps117
    go_wp2
    go_ret
    exact ⟨ret_int (Int.tdiv_eq_ediv_of_nonneg h0), rfl⟩
  · by_cases hm : a.tmod b < 0
    · rw [if_pos hm] at ht
      have HT := Lib.hid ht; clear ht
      go_enter Tryd.func117, Tryd.ntmps117
      go_wp2
      go_ret
      exact ⟨ret_int (by rw [← HT.out]), rfl⟩
    · rw [if_neg hm] at ht
      have HT := Lib.hid ht; clear ht
      go_enter Tryd.func117, Tryd.ntmps117
      go_wp2
      go_ret
      exact ⟨ret_int (by rw [← HT.out]), rfl⟩

/-- A list of numbers lies in memory, in blocks below B. -/
structure Lst (w : World) (B b o n : Nat) (xs : List Int) : Prop where
  len : xs.length = n
  cell : ∀ i, i < n → w.cell? ⟨b, o + i, none⟩ = some (.int .i64 (xs[i]?.getD 0))
  lt : b < B
theorem Lst.below {w w' : World} {B C b o n : Nat} {xs : List Int} (h : Lst w B b o n xs) (hb : Below C w w') (hC : B ≤ C) : Lst w' B b o n xs :=
  ⟨h.len, fun i hi => (hb.cell (p := ⟨b, o + i, none⟩) (by have := h.lt; simp; omega)).trans (h.cell i hi), h.lt⟩
theorem bcell {W w1 : World} (hb : Below W.heap.size W w1) : (∀ b o, b < W.heap.size → w1.cell? ⟨b, o, none⟩ = W.cell? ⟨b, o, none⟩) ∧ (∀ b o, b < W.heap.size → w1.frozen? ⟨b, o, none⟩ = W.frozen? ⟨b, o, none⟩) :=
  ⟨fun b o h => hb.cell (p := ⟨b, o, none⟩) h, fun b o h => hb.frozen (p := ⟨b, o, none⟩) h⟩

/-- The value is what the tail of the look-up computes. -/
theorem mul_bd (x y a b : Int) (h0 : 0 ≤ x) (hx : x ≤ a) (h1 : -b ≤ y) (h2 : y ≤ b) (hb : 0 ≤ b) : -(a * b) ≤ x * y ∧ x * y ≤ a * b := by
  have h3 : x * y ≤ x * b := Int.mul_le_mul_of_nonneg_left h2 h0
  have h4 : x * (-b) ≤ x * y := Int.mul_le_mul_of_nonneg_left h1 h0
  have h5 : x * b ≤ a * b := Int.mul_le_mul_of_nonneg_right hx hb
  rw [Int.mul_neg] at h4
  omega

theorem div_bd (x d a : Int) (hd : 0 < d) (h : -a ≤ x ∧ x ≤ a) : -a ≤ x / d ∧ x / d ≤ a := by
  constructor
  · rw [Int.le_ediv_iff_mul_le hd]
    have : a * 1 ≤ a * d := Int.mul_le_mul_of_nonneg_left (by omega) (by omega)
    rw [Int.neg_mul]; omega
  · have : x / d ≤ a / d := Int.ediv_le_ediv hd h.2
    have : a / d ≤ a := Int.ediv_le_self _ (by omega)
    omega
theorem quiet_one {P : Program} {f : FuncId} {args : Array Value} {w : World} {n : Nat} {v : Value}
    (h : Calls P f args (w.drewN n) fun e w' => e = .returned v ∧ w.drewN n = w') : Calls P f args (w.drewN n) fun e w'' => e = .returned v ∧ ∃ m, w'' = w.drewN m :=
  h.mono fun _ _ ⟨he, hm⟩ => ⟨he, n, hm.symm⟩
theorem quiet_add {P : Program} {f : FuncId} {args : Array Value} {w : World} {k n : Nat} {v : Value}
    (h : Calls P f args (w.drewN (k + n)) fun e w' => e = .returned v ∧ w.drewN (k + n) = w') : Calls P f args (w.drewN (k + n)) fun e w'' => e = .returned v ∧ ∃ m, w'' = w.drewN (k + m) :=
  h.mono fun _ _ ⟨he, hm⟩ => ⟨he, n, hm.symm⟩

set_option maxHeartbeats 1000000 in
theorem at_any {L : Int} {n b1 o1 c1 b2 o2 c2 b3 o3 c3 bt ot ct : Nat} {D T R S : List Int} (day : Int) (w : World) (hD : Lst w w.heap.size b1 o1 n D) (hT : Lst w w.heap.size bt ot n T) (hok : Ok L D R S)
   (hb : ∀ i, i < n → 0 ≤ T[i]?.getD 0 ∧ T[i]?.getD 0 ≤ 2000) (hd0 : 0 ≤ day) (hd1 : day ≤ 20000) :
   Calls Tryd.prog 69 #[.agg #[.int .i64 L, .slice (some ⟨b1, o1, none⟩) n c1, .slice (some ⟨b2, o2, none⟩) n c2, .slice (some ⟨b3, o3, none⟩) n c3], .slice (some ⟨bt, ot, none⟩) n ct, .int .i64 day] w
     fun e w' => e = .returned (.int .i64 (tab L D T (day % L))) ∧ Below w.heap.size w w' := by
  obtain ⟨q, rfl⟩ : ∃ q, n = q + 1 := ⟨n - 1, by have := hok.n1; have := hD.len; omega⟩
  have hn2 : q + 1 ≤ 24 := by have := hok.n2; have := hD.len; omega
  have hL1 := hok.L1; have hL2 := hok.L2
  have hbl := hD.lt; have hbt := hT.lt
  have hm0 := Int.emod_nonneg day (show L ≠ 0 by omega)
  have hm1 := Int.emod_lt_of_pos day (show 0 < L by omega)
  have HF := Lib.hid (fr_to hok (day % L) hm0 hm1)
  have HD := Lib.hid hD.len
  have H1 := Lib.hid hD.cell; have H2 := Lib.hid hT.cell; have H3 := Lib.hid hb; have H4 := Lib.hid hok.D0
  clear hb hD hT hok
  go_enter Tryd.func69, Tryd.ntmps69
  go_wp2
  go_loop [9] (fun i => ∃ k : Nat, k ≤ q + 1 ∧ i = .int .i64 ((k : Int) - 1) ∧ idx D (day % L) (q + 1) = idx D (day % L) k) (fun i => (intOf i + 1).toNat)
  case atStart => exact ⟨q + 1, Nat.le_refl _, by go_num, rfl⟩
  case round =>
    obtain ⟨k, hk, rfl, he⟩ := hrel
    have HE := Lib.hid he; clear he
    rcases k with _ | m
    · have h0 : ¬ (0 : Int) ≤ ((0 : Nat) : Int) - 1 := by omega
      have e1 : (-1 + ((q : Int) + 1)) % ((q : Int) + 1) = q := by rw [show -1 + ((q : Int) + 1) = q by omega]; exact Int.emod_eq_of_lt (by omega) (by omega)
      have E1 := Lib.hid e1
      clear e1
      have hI : idx D (day % L) (q + 1) = -1 := by rw [HE.out, idx]
      have iA : ixA D (day % L) = q := by unfold ixA; rw [HD.out, hI, if_pos (by omega)]; omega
      have iB : ixB D (day % L) = 0 := by unfold ixB; rw [HD.out, hI, if_neg (by omega)]; rfl
      have hfr : fr L D (day % L) = D[q]?.getD 0 - L := by unfold fr; rw [HD.out, hI, if_pos (by omega), iA]
      have hto : to L D (day % L) = D[0]?.getD 0 := by unfold to; rw [HD.out, hI, if_pos (by omega), iB]
      clear hI HE
      have HT := Lib.hid (show tab L D T (day % L) = T[q]?.getD 0 + (day % L - (D[q]?.getD 0 - L)) * (T[0]?.getD 0 - T[q]?.getD 0) / (D[0]?.getD 0 - (D[q]?.getD 0 - L)) by
        unfold tab; rw [iA, iB, hfr, hto])
      have hF := HF.out
      rw [hfr, hto] at hF
      clear iA iB hfr hto HF
      have hca := H1.out (q) (by omega)
      have hcb := H1.out 0 (by omega); rw [Nat.add_zero] at hcb
      have hta := H2.out (q) (by omega)
      have htb := H2.out 0 (by omega); rw [Nat.add_zero] at htb
      have hb1 := H3.out (q) (by omega)
      have hb2 := H3.out (0) (by omega)
      have hd2 := H4.out (q) (by rw [HD.out]; omega)
      have hd3 := H4.out (0) (by rw [HD.out]; omega)
      go_wp2
      go_quiet (fail)
      go_wp2
      rw [E1.out]
      go_quiet (fail)
      go_wp2
      have hmul := mul_bd (day % L - (D[q]?.getD 0 - L)) (T[0]?.getD 0 - T[q]?.getD 0) 800 2000 (by omega) (by omega) (by omega) (by omega) (by omega)
      have w1 := IntWalk.i64_in (day % L - (D[q]?.getD 0 - L)) (by omega)
      have w2 := IntWalk.i64_in (T[0]?.getD 0 - T[q]?.getD 0) (by omega)
      have w3 := IntWalk.i64_in ((day % L - (D[q]?.getD 0 - L)) * (T[0]?.getD 0 - T[q]?.getD 0)) (by omega)
      have w4 := IntWalk.i64_in (D[0]?.getD 0 - (D[q]?.getD 0 - L)) (by omega)
      have w5 := IntWalk.i64_in (T[q]?.getD 0 + (day % L - (D[q]?.getD 0 - L)) * (T[0]?.getD 0 - T[q]?.getD 0) / (D[0]?.getD 0 - (D[q]?.getD 0 - L))) (by
        have := div_bd ((day % L - (D[q]?.getD 0 - L)) * (T[0]?.getD 0 - T[q]?.getD 0)) (D[0]?.getD 0 - (D[q]?.getD 0 - L)) 1600000 (by omega) (by omega)
        omega)
      go_quiet ((go_at_call 81; refine quiet_add (down_any _ _ _ ?_ ?_ ?_) <;> omega))
      go_wp2
      go_ret
      exact ⟨ret_int HT.out.symm, by (repeat refine below_drewN ?_ _); go_grown⟩
    · have hc := H1.out m (by omega)
      have h0 : (0 : Int) ≤ ((m + 1 : Nat) : Int) - 1 := by omega
      have e0 : ((m + 1 : Nat) : Int) - 1 = m := by omega
      rw [e0]; clear e0
      by_cases hgt : day % L < D[m]?.getD 0
      · go_wp2
        go_round
        case rel => exact ⟨m, by omega, by go_num, HE.out.trans (by rw [idx, if_neg (by omega)])⟩
        case measure => simp [intOf]
      · have hI : idx D (day % L) (q + 1) = m := by rw [HE.out, idx, if_pos (by omega)]
        have e1 : ((m : Int) + ((q : Int) + 1)) % ((q : Int) + 1) = m := by rw [Int.add_emod_right]; exact Int.emod_eq_of_lt (by omega) (by omega)
        have E1 := Lib.hid e1
        clear e1 HE h0 hc
        have iA : ixA D (day % L) = m := by unfold ixA; rw [HD.out, hI, if_neg (by omega)]; omega
        by_cases hl : m < q
        · have e2 : ((m : Int) + 1) % ((q : Int) + 1) = m + 1 := Int.emod_eq_of_lt (by omega) (by omega)
          have E2 := Lib.hid e2
          clear e2
          have iB : ixB D (day % L) = m + 1 := by unfold ixB; rw [HD.out, hI, if_neg (by omega)]; omega
          have hfr : fr L D (day % L) = D[m]?.getD 0 := by unfold fr; rw [HD.out, hI, if_neg (by omega), iA]
          have hto : to L D (day % L) = D[m+1]?.getD 0 := by unfold to; rw [HD.out, hI, if_neg (by omega), if_neg (by omega), iB]
          clear hI
          have HT := Lib.hid (show tab L D T (day % L) = T[m]?.getD 0 + (day % L - (D[m]?.getD 0)) * (T[m + 1]?.getD 0 - T[m]?.getD 0) / (D[m + 1]?.getD 0 - (D[m]?.getD 0)) by
            unfold tab; rw [iA, iB, hfr, hto])
          have hF := HF.out
          rw [hfr, hto] at hF
          clear iA iB hfr hto HF
          have hca := H1.out (m) (by omega)
          have hcb := H1.out (m + 1) (by omega)
          have hta := H2.out (m) (by omega)
          have htb := H2.out (m + 1) (by omega)
          have hb1 := H3.out (m) (by omega)
          have hb2 := H3.out (m + 1) (by omega)
          have hd2 := H4.out (m) (by rw [HD.out]; omega)
          have hd3 := H4.out (m + 1) (by rw [HD.out]; omega)
          go_wp2
          go_quiet (fail)
          go_wp2
          rw [E1.out, E2.out]
          go_quiet (fail)
          go_wp2
          have hmul := mul_bd (day % L - (D[m]?.getD 0)) (T[m + 1]?.getD 0 - T[m]?.getD 0) 800 2000 (by omega) (by omega) (by omega) (by omega) (by omega)
          have w1 := IntWalk.i64_in (day % L - (D[m]?.getD 0)) (by omega)
          have w2 := IntWalk.i64_in (T[m + 1]?.getD 0 - T[m]?.getD 0) (by omega)
          have w3 := IntWalk.i64_in ((day % L - (D[m]?.getD 0)) * (T[m + 1]?.getD 0 - T[m]?.getD 0)) (by omega)
          have w4 := IntWalk.i64_in (D[m + 1]?.getD 0 - (D[m]?.getD 0)) (by omega)
          have w5 := IntWalk.i64_in (T[m]?.getD 0 + (day % L - (D[m]?.getD 0)) * (T[m + 1]?.getD 0 - T[m]?.getD 0) / (D[m + 1]?.getD 0 - (D[m]?.getD 0))) (by
            have := div_bd ((day % L - (D[m]?.getD 0)) * (T[m + 1]?.getD 0 - T[m]?.getD 0)) (D[m + 1]?.getD 0 - (D[m]?.getD 0)) 1600000 (by omega) (by omega)
            omega)
          go_quiet ((go_at_call 81; refine quiet_add (down_any _ _ _ ?_ ?_ ?_) <;> omega))
          go_wp2
          go_ret
          exact ⟨ret_int HT.out.symm, by (repeat refine below_drewN ?_ _); go_grown⟩
        · obtain rfl : m = q := by omega
          have e2 : ((m : Int) + 1) % ((m : Int) + 1) = 0 := Int.emod_self
          have E2 := Lib.hid e2
          clear e2
          have iB : ixB D (day % L) = 0 := by unfold ixB; rw [HD.out, hI, if_pos (by omega)]
          have hfr : fr L D (day % L) = D[m]?.getD 0 := by unfold fr; rw [HD.out, hI, if_neg (by omega), iA]
          have hto : to L D (day % L) = D[0]?.getD 0 + L := by unfold to; rw [HD.out, hI, if_neg (by omega), if_pos (by omega), iB]
          clear hI
          have HT := Lib.hid (show tab L D T (day % L) = T[m]?.getD 0 + (day % L - (D[m]?.getD 0)) * (T[0]?.getD 0 - T[m]?.getD 0) / (D[0]?.getD 0 + L - (D[m]?.getD 0)) by
            unfold tab; rw [iA, iB, hfr, hto])
          have hF := HF.out
          rw [hfr, hto] at hF
          clear iA iB hfr hto HF
          have hca := H1.out (m) (by omega)
          have hcb := H1.out 0 (by omega); rw [Nat.add_zero] at hcb
          have hta := H2.out (m) (by omega)
          have htb := H2.out 0 (by omega); rw [Nat.add_zero] at htb
          have hb1 := H3.out (m) (by omega)
          have hb2 := H3.out (0) (by omega)
          have hd2 := H4.out (m) (by rw [HD.out]; omega)
          have hd3 := H4.out (0) (by rw [HD.out]; omega)
          have hle : D[0]?.getD 0 ≤ D[m]?.getD 0 := by omega
          go_wp2
          go_quiet (fail)
          go_wp2
          rw [E1.out]
          go_quiet (fail)
          go_wp2
          have hmul := mul_bd (day % L - (D[m]?.getD 0)) (T[0]?.getD 0 - T[m]?.getD 0) 800 2000 (by omega) (by omega) (by omega) (by omega) (by omega)
          have w1 := IntWalk.i64_in (day % L - (D[m]?.getD 0)) (by omega)
          have w2 := IntWalk.i64_in (T[0]?.getD 0 - T[m]?.getD 0) (by omega)
          have w3 := IntWalk.i64_in ((day % L - (D[m]?.getD 0)) * (T[0]?.getD 0 - T[m]?.getD 0)) (by omega)
          have w4 := IntWalk.i64_in (D[0]?.getD 0 + L - (D[m]?.getD 0)) (by omega)
          have w5 := IntWalk.i64_in (T[m]?.getD 0 + (day % L - (D[m]?.getD 0)) * (T[0]?.getD 0 - T[m]?.getD 0) / (D[0]?.getD 0 + L - (D[m]?.getD 0))) (by
            have := div_bd ((day % L - (D[m]?.getD 0)) * (T[0]?.getD 0 - T[m]?.getD 0)) (D[0]?.getD 0 + L - (D[m]?.getD 0)) 1600000 (by omega) (by omega)
            omega)
          go_quiet ((go_at_call 81; refine quiet_add (down_any _ _ _ ?_ ?_ ?_) <;> omega))
          go_wp2
          go_ret
          exact ⟨ret_int HT.out.symm, by (repeat refine below_drewN ?_ _); go_grown⟩
end Go.Proofs.YtomlfliebolkmaaDoor
