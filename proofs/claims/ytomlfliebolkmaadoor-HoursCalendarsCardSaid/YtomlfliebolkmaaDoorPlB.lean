/-
  Plain mathematics of the hours' walks: seasons, hours, moments. No Go in it. No condition.
-/
import Derived.RowKit
set_option linter.unusedVariables false
namespace Go.Proofs.YtomlfliebolkmaaDoor.Pl

/-- The last index below k whose place is at most p; -1: none. -/
def idx (D : List Int) (p : Int) : Nat → Int
  | 0 => -1
  | k + 1 => if D[k]?.getD 0 ≤ p then (k : Int) else idx D p k

theorem idx_bd (D : List Int) (p : Int) (k : Nat) : -1 ≤ idx D p k ∧ idx D p k < k := by
  induction k with
  | zero => simp [idx]
  | succ k ih => unfold idx; split <;> omega

structure Ok (L : Int) (D R S : List Int) : Prop where
  L1 : 360 ≤ L
  L2 : L ≤ 366
  n1 : 1 ≤ D.length
  n2 : D.length ≤ 24
  nR : R.length = D.length
  nS : S.length = D.length
  D0 : ∀ i, i < D.length → 0 ≤ D[i]?.getD 0 ∧ D[i]?.getD 0 ≤ L - 1
  Dl : ∀ i, 1 ≤ i → i < D.length → D[i - 1]?.getD 0 < D[i]?.getD 0
  Rb : ∀ i, i < R.length → 60 ≤ R[i]?.getD 0 ∧ R[i]?.getD 0 ≤ 700
  Sb : ∀ i, i < S.length → 740 ≤ S[i]?.getD 0 ∧ S[i]?.getD 0 ≤ 1380

theorem Ok.lt {L : Int} {D R S : List Int} (h : Ok L D R S) {i j : Nat} (hij : i < j) (hj : j < D.length) : D[i]?.getD 0 < D[j]?.getD 0 := by
  induction j with
  | zero => omega
  | succ j ih =>
    have h1 := h.Dl (j + 1) (by omega) hj
    simp only [Nat.add_sub_cancel] at h1
    rcases Nat.lt_or_eq_of_le (Nat.le_of_lt_succ hij) with e | e
    · have := ih e (by omega); omega
    · subst e; exact h1

/-- What lies at or ahead of the index is at most p, what lies behind it is more. -/
theorem idx_le (D : List Int) (p : Int) (k : Nat) (h : 0 ≤ idx D p k) : D[(idx D p k).toNat]?.getD 0 ≤ p := by
  induction k with
  | zero => simp [idx] at h
  | succ k ih =>
    unfold idx at h ⊢
    by_cases e : D[k]?.getD 0 ≤ p
    · rw [if_pos e]; simpa using e
    · rw [if_neg e] at h ⊢; exact ih h
theorem idx_gt (D : List Int) (p : Int) (k j : Nat) (h : idx D p k < j) (hj : j < k) : p < D[j]?.getD 0 := by
  induction k with
  | zero => omega
  | succ k ih =>
    unfold idx at h
    by_cases e : D[k]?.getD 0 ≤ p
    · rw [if_pos e] at h; omega
    · rw [if_neg e] at h
      by_cases f : j = k
      · subst f; omega
      · exact ih h (by omega)

/-- The two neighbours of a place: their indices and places. -/
def ixA (D : List Int) (p : Int) : Nat := if idx D p D.length < 0 then D.length - 1 else (idx D p D.length).toNat
def ixB (D : List Int) (p : Int) : Nat := if idx D p D.length + 1 = D.length then 0 else (idx D p D.length + 1).toNat
def fr (L : Int) (D : List Int) (p : Int) : Int := if idx D p D.length < 0 then D[ixA D p]?.getD 0 - L else D[ixA D p]?.getD 0
def to (L : Int) (D : List Int) (p : Int) : Int := if idx D p D.length < 0 then D[ixB D p]?.getD 0 else if idx D p D.length + 1 = D.length then D[ixB D p]?.getD 0 + L else D[ixB D p]?.getD 0
/-- What a table tells at a place of the year. -/
def tab (L : Int) (D T : List Int) (p : Int) : Int :=
  T[ixA D p]?.getD 0 + (p - fr L D p) * (T[ixB D p]?.getD 0 - T[ixA D p]?.getD 0) / (to L D p - fr L D p)

theorem ixA_lt {L : Int} {D R S : List Int} (h : Ok L D R S) (p : Int) : ixA D p < D.length := by
  have := idx_bd D p D.length; have := h.n1; unfold ixA; split <;> omega
theorem ixB_lt {L : Int} {D R S : List Int} (h : Ok L D R S) (p : Int) : ixB D p < D.length := by
  have := idx_bd D p D.length; have := h.n1; unfold ixB; split <;> omega

/-- The place lies between its neighbours; they are less than two years apart. -/
theorem fr_to {L : Int} {D R S : List Int} (h : Ok L D R S) (p : Int) (h0 : 0 ≤ p) (hp : p < L) :
    fr L D p ≤ p ∧ p < to L D p ∧ to L D p - fr L D p ≤ L ∧ -366 ≤ fr L D p ∧ fr L D p ≤ 365 ∧ 0 ≤ to L D p ∧ to L D p ≤ 731 := by
  have hb := idx_bd D p D.length
  have ha := ixA_lt h p; have hB := ixB_lt h p
  have hda := h.D0 _ ha; have hdb := h.D0 _ hB
  have hL1 := h.L1; have hL2 := h.L2; have hn := h.n1
  unfold fr to
  by_cases c : idx D p D.length < 0
  · rw [if_pos c, if_pos c]
    have hi : idx D p D.length = -1 := by omega
    have e1 : ixB D p = 0 := by unfold ixB; rw [hi]; split <;> omega
    have hg := idx_gt D p D.length 0 (by omega) (by omega)
    have hg' : D[ixB D p]?.getD 0 ≤ D[ixA D p]?.getD 0 := by
      rw [e1]
      rcases Nat.eq_zero_or_pos (ixA D p) with e | e
      · rw [e]; exact Int.le_refl _
      · exact Int.le_of_lt (h.lt e ha)
    rw [e1] at *
    omega
  · rw [if_neg c, if_neg c]
    have hA : ixA D p = (idx D p D.length).toNat := by unfold ixA; rw [if_neg c]
    have hl := idx_le D p D.length (by omega)
    rw [← hA] at hl
    by_cases e : idx D p D.length + 1 = D.length
    · rw [if_pos e]
      have e1 : ixB D p = 0 := by unfold ixB; rw [if_pos e]
      have hg' : D[ixB D p]?.getD 0 ≤ D[ixA D p]?.getD 0 := by
        rw [e1]
        rcases Nat.eq_zero_or_pos (ixA D p) with e | e
        · rw [e]; exact Int.le_refl _
        · exact Int.le_of_lt (h.lt e ha)
      omega
    · rw [if_neg e]
      have e1 : ixB D p = (idx D p D.length + 1).toNat := by unfold ixB; rw [if_neg e]
      have hg := idx_gt D p D.length (ixB D p) (by omega) hB
      omega

/-- Between: a straight line, rounded down, lies between its ends. -/
theorem line_bd (x y q d lo hi : Int) (h0 : 0 ≤ q) (hq : q ≤ d) (hd : 0 < d) (hx : lo ≤ x ∧ x ≤ hi) (hy : lo ≤ y ∧ y ≤ hi) :
    lo ≤ x + q * (y - x) / d ∧ x + q * (y - x) / d ≤ hi := by
  constructor
  · have : lo - x ≤ q * (y - x) / d := by
      rw [Int.le_ediv_iff_mul_le hd]
      rcases Int.le_total x y with e | e
      · have h1 : 0 ≤ q * (y - x) := Int.mul_nonneg h0 (by omega)
        have h2 : (x - lo) * d ≥ 0 := Int.mul_nonneg (by omega) (by omega)
        have h3 : (lo - x) * d = - ((x - lo) * d) := by rw [← Int.neg_mul]; congr 1; omega
        omega
      · have h1 : q * (x - y) ≤ d * (x - y) := Int.mul_le_mul_of_nonneg_right hq (by omega)
        have h2 : d * (x - y) ≤ d * (x - lo) := Int.mul_le_mul_of_nonneg_left (by omega) (by omega)
        have h3 : (lo - x) * d = - (d * (x - lo)) := by rw [Int.mul_comm d, ← Int.neg_mul]; congr 1; omega
        have h4 : q * (y - x) = - (q * (x - y)) := by rw [← Int.mul_neg]; congr 1; omega
        omega
    omega
  · have : q * (y - x) / d ≤ hi - x := by
      apply Int.le_of_lt_add_one
      rw [Int.ediv_lt_iff_lt_mul hd, Int.add_mul]
      rcases Int.le_total x y with e | e
      · have h1 : q * (y - x) ≤ d * (y - x) := Int.mul_le_mul_of_nonneg_right hq (by omega)
        have h2 : d * (y - x) ≤ d * (hi - x) := Int.mul_le_mul_of_nonneg_left (by omega) (by omega)
        rw [Int.mul_comm (hi - x)]
        omega
      · have h1 : 0 ≤ q * (x - y) := Int.mul_nonneg h0 (by omega)
        have h2 : 0 ≤ (hi - x) * d := Int.mul_nonneg (by omega) (by omega)
        have h4 : q * (y - x) = - (q * (x - y)) := by rw [← Int.mul_neg]; congr 1; omega
        omega
    omega

theorem tab_bd {L : Int} {D R S T : List Int} (h : Ok L D R S) (hT : T.length = D.length) {lo hi : Int} (hb : ∀ i, i < T.length → lo ≤ T[i]?.getD 0 ∧ T[i]?.getD 0 ≤ hi)
    (p : Int) (h0 : 0 ≤ p) (hp : p < L) : lo ≤ tab L D T p ∧ tab L D T p ≤ hi := by
  have hf := fr_to h p h0 hp
  exact line_bd _ _ _ _ _ _ (by omega) (by omega) (by omega) (hb _ (by rw [hT]; exact ixA_lt h p)) (hb _ (by rw [hT]; exact ixB_lt h p))


/-- Sunrise and sunset of a day; how long its light lasts, or its night. -/
def riseF (L : Int) (D R : List Int) (day : Int) : Int := tab L D R (day % L)
def lastF (L : Int) (D R S : List Int) (day : Int) (night : Bool) : Int :=
  if night then 1440 + riseF L D R (day + 1) - riseF L D S day else riseF L D S day - riseF L D R day
/-- The beginning, in minutes. -/
def begF (L : Int) (D R S : List Int) (day : Int) (night : Bool) : Int :=
  if night then day * 1440 + riseF L D S day else day * 1440 + riseF L D R day
def momF (L : Int) (D R S : List Int) (day : Int) (night : Bool) (j : Int) : Int :=
  begF L D R S day night * 720 + lastF L D R S day night * j

theorem Ok.rise {L : Int} {D R S : List Int} (h : Ok L D R S) (day : Int) : 60 ≤ riseF L D R day ∧ riseF L D R day ≤ 700 := by
  have := h.L1
  exact tab_bd h h.nR h.Rb _ (Int.emod_nonneg _ (by omega)) (Int.emod_lt_of_pos _ (by omega))
theorem Ok.set {L : Int} {D R S : List Int} (h : Ok L D R S) (day : Int) : 740 ≤ riseF L D S day ∧ riseF L D S day ≤ 1380 := by
  have := h.L1
  exact tab_bd h h.nS h.Sb _ (Int.emod_nonneg _ (by omega)) (Int.emod_lt_of_pos _ (by omega))
theorem Ok.last {L : Int} {D R S : List Int} (h : Ok L D R S) (day : Int) (night : Bool) : 40 ≤ lastF L D R S day night ∧ lastF L D R S day night ≤ 1400 := by
  have a := h.rise day; have b := h.set day; have c := h.rise (day + 1)
  unfold lastF; split <;> omega

/-- The moment with a number: sixtieths of hours, counted from the sunrise of the day 0 on. -/
def Mo (L : Int) (D R S : List Int) (n : Int) : Int := momF L D R S (n / 1440) (decide (720 ≤ n % 1440)) (n % 720)
def lenN (L : Int) (D R S : List Int) (n : Int) : Int := lastF L D R S (n / 1440) (decide (720 ≤ n % 1440))

/-- The number of an hour of a day. -/
def ord (day : Int) (night : Bool) (hour part : Int) : Int := day * 1440 + (60 * hour + part) + (if night then 720 else 0)
theorem ord_parts (day : Int) (night : Bool) (hour part : Int) (h : 0 ≤ hour ∧ hour ≤ 11) (p : 0 ≤ part ∧ part ≤ 59) :
    ord day night hour part / 1440 = day ∧ decide (720 ≤ ord day night hour part % 1440) = night ∧ ord day night hour part % 720 = 60 * hour + part := by
  unfold ord
  cases night
  · simp only [Bool.false_eq_true, if_false, decide_eq_false_iff_not]; omega
  · simp only [if_true, decide_eq_true_eq]; omega
theorem Mo_ord (L : Int) (D R S : List Int) (day : Int) (night : Bool) (hour part : Int) (h : 0 ≤ hour ∧ hour ≤ 11) (p : 0 ≤ part ∧ part ≤ 59) :
    Mo L D R S (ord day night hour part) = momF L D R S day night (60 * hour + part) := by
  obtain ⟨a, b, c⟩ := ord_parts day night hour part h p
  unfold Mo; rw [a, b, c]

theorem Mo_succ (L : Int) (D R S : List Int) (n : Int) : Mo L D R S (n + 1) = Mo L D R S n + lenN L D R S n := by
  unfold Mo lenN
  by_cases c : n % 720 = 719
  · by_cases e : 720 ≤ n % 1440
    · have h1 : (n + 1) / 1440 = n / 1440 + 1 := by omega
      have h2 : ¬ 720 ≤ (n + 1) % 1440 := by omega
      have h3 : (n + 1) % 720 = 0 := by omega
      rw [h1, h3, c, decide_eq_false h2, decide_eq_true e]
      unfold momF begF lastF
      simp only [Bool.false_eq_true, if_false, if_true]
      omega
    · have h1 : (n + 1) / 1440 = n / 1440 := by omega
      have h2 : 720 ≤ (n + 1) % 1440 := by omega
      have h3 : (n + 1) % 720 = 0 := by omega
      rw [h1, h3, c, decide_eq_true h2, decide_eq_false e]
      unfold momF begF lastF
      simp only [Bool.false_eq_true, if_false, if_true]
      omega
  · have h1 : (n + 1) / 1440 = n / 1440 := by omega
    have h2 : (720 ≤ (n + 1) % 1440) = (720 ≤ n % 1440) := by apply propext; omega
    have h3 : (n + 1) % 720 = n % 720 + 1 := by omega
    rw [h1, h3]
    simp only [h2]
    unfold momF
    rw [Int.mul_add]; omega

theorem Mo_add {L : Int} {D R S : List Int} (h : Ok L D R S) (n : Int) (k : Nat) : Mo L D R S n + 40 * k ≤ Mo L D R S (n + k) := by
  induction k with
  | zero => simp
  | succ k ih =>
    have h1 := Mo_succ L D R S (n + k)
    have h2 : 40 ≤ lenN L D R S (n + k) := (h.last _ _).1
    rw [show n + ((k + 1 : Nat) : Int) = n + k + 1 by omega]; omega
theorem Mo_lt {L : Int} {D R S : List Int} (h : Ok L D R S) {m n : Int} (hl : m < n) : Mo L D R S m < Mo L D R S n := by
  have := Mo_add h m (n - m).toNat; rw [show m + ((n - m).toNat : Int) = n by omega] at this; omega
theorem Mo_le {L : Int} {D R S : List Int} (h : Ok L D R S) {m n : Int} : Mo L D R S m ≤ Mo L D R S n ↔ m ≤ n := by
  constructor
  · intro a
    apply Classical.byContradiction; intro b
    have := Mo_lt h (show n < m by omega); omega
  · intro a
    rcases Int.lt_or_eq_of_le a with e | e
    · exact Int.le_of_lt (Mo_lt h e)
    · rw [e]; exact Int.le_refl _

/-- The number that is told at a minute. -/
def toldD (L : Int) (D R : List Int) (m : Int) : Int := if m < m / 1440 * 1440 + riseF L D R (m / 1440) then m / 1440 - 1 else m / 1440
def toldB (L : Int) (D R S : List Int) (m : Int) : Bool := decide (m < m / 1440 * 1440 + riseF L D R (m / 1440) ∨ m / 1440 * 1440 + riseF L D S (m / 1440) ≤ m)
def toldP (L : Int) (D R S : List Int) (m : Int) : Int :=
  (m - begF L D R S (toldD L D R m) (toldB L D R S m)) * 720 / lastF L D R S (toldD L D R m) (toldB L D R S m)
def toldN (L : Int) (D R S : List Int) (m : Int) : Int := toldD L D R m * 1440 + toldP L D R S m + (if toldB L D R S m then 720 else 0)

theorem told_in {L : Int} {D R S : List Int} (h : Ok L D R S) (m : Int) :
    begF L D R S (toldD L D R m) (toldB L D R S m) ≤ m ∧ m < begF L D R S (toldD L D R m) (toldB L D R S m) + lastF L D R S (toldD L D R m) (toldB L D R S m) := by
  have a := h.rise (m / 1440); have b := h.set (m / 1440); have c := h.rise (m / 1440 + 1); have d := h.set (m / 1440 - 1)
  unfold toldD toldB
  by_cases e : m < m / 1440 * 1440 + riseF L D R (m / 1440)
  · rw [if_pos e, decide_eq_true (Or.inl e)]
    unfold begF lastF
    simp only [if_true]
    rw [show m / 1440 - 1 + 1 = m / 1440 by omega]
    omega
  · rw [if_neg e]
    by_cases f : m / 1440 * 1440 + riseF L D S (m / 1440) ≤ m
    · rw [decide_eq_true (Or.inr f)]
      unfold begF lastF
      simp only [if_true]
      omega
    · rw [decide_eq_false (by omega)]
      unfold begF lastF
      simp only [Bool.false_eq_true, if_false]
      omega

theorem div_part (x d : Int) (h0 : 0 ≤ x) (hx : x < d) : 0 ≤ x * 720 / d ∧ x * 720 / d < 720 ∧ d * (x * 720 / d) ≤ x * 720 ∧ x * 720 < d * (x * 720 / d) + d := by
  have hd : 0 < d := by omega
  have h1 := Int.mul_ediv_add_emod (x * 720) d
  have h2 := Int.emod_nonneg (x * 720) (show d ≠ 0 by omega)
  have h3 := Int.emod_lt_of_pos (x * 720) hd
  refine ⟨Int.ediv_nonneg (by omega) (by omega), ?_, by omega, by omega⟩
  rw [Int.ediv_lt_iff_lt_mul hd]; omega

theorem toldP_bd {L : Int} {D R S : List Int} (h : Ok L D R S) (m : Int) : 0 ≤ toldP L D R S m ∧ toldP L D R S m < 720 := by
  obtain ⟨a, b⟩ := told_in h m
  have := div_part _ _ (Int.sub_nonneg_of_le a) (show m - begF L D R S (toldD L D R m) (toldB L D R S m) < lastF L D R S (toldD L D R m) (toldB L D R S m) by omega)
  exact ⟨this.1, this.2.1⟩
theorem toldN_parts {L : Int} {D R S : List Int} (h : Ok L D R S) (m : Int) :
    toldN L D R S m / 1440 = toldD L D R m ∧ decide (720 ≤ toldN L D R S m % 1440) = toldB L D R S m ∧ toldN L D R S m % 720 = toldP L D R S m := by
  have hp := toldP_bd h m
  unfold toldN
  cases toldB L D R S m
  · simp only [Bool.false_eq_true, if_false, decide_eq_false_iff_not]; omega
  · simp only [if_true, decide_eq_true_eq]; omega
/-- It is the last number whose moment is not behind the minute. -/
theorem toldN_spec {L : Int} {D R S : List Int} (h : Ok L D R S) (m : Int) :
    Mo L D R S (toldN L D R S m) ≤ m * 720 ∧ m * 720 < Mo L D R S (toldN L D R S m + 1) := by
  obtain ⟨e1, e2, e3⟩ := toldN_parts h m
  obtain ⟨a, b⟩ := told_in h m
  have := div_part _ _ (Int.sub_nonneg_of_le a) (show m - begF L D R S (toldD L D R m) (toldB L D R S m) < lastF L D R S (toldD L D R m) (toldB L D R S m) by omega)
  rw [Mo_succ]
  unfold Mo lenN
  rw [e1, e2, e3]
  unfold momF
  have e : toldP L D R S m = (m - begF L D R S (toldD L D R m) (toldB L D R S m)) * 720 / lastF L D R S (toldD L D R m) (toldB L D R S m) := rfl
  rw [← e] at this
  omega
theorem told_iff {L : Int} {D R S : List Int} (h : Ok L D R S) (m n : Int) : Mo L D R S n ≤ m * 720 ↔ n ≤ toldN L D R S m := by
  obtain ⟨a, b⟩ := toldN_spec h m
  constructor
  · intro c
    have := (Mo_le h (m := n + 1) (n := toldN L D R S m + 1)).1
    apply Classical.byContradiction; intro d
    have := (Mo_le h (m := toldN L D R S m + 1) (n := n)).2 (by omega)
    omega
  · intro c
    have := (Mo_le h).2 c; omega
theorem told_unique {L : Int} {D R S : List Int} (h : Ok L D R S) (m n : Int) (a : Mo L D R S n ≤ m * 720) (b : m * 720 < Mo L D R S (n + 1)) : n = toldN L D R S m := by
  have h1 := (told_iff h m n).1 a
  have h2 : ¬ n + 1 ≤ toldN L D R S m := fun c => by have := (told_iff h m (n + 1)).2 c; omega
  omega
/-- Rounded up, in whole minutes. -/
def upF (n : Int) : Int := (n + 719) / 720
theorem up_le (n m : Int) : upF n ≤ m ↔ n ≤ m * 720 := by unfold upF; omega
/-- Lowest terms. -/
def gF (n d : Int) : Int := (Nat.gcd n.toNat d.toNat : Nat)
theorem gF_pos (n d : Int) (hd : 0 < d) : 0 < gF n d := by
  unfold gF; have := Nat.gcd_pos_of_pos_right n.toNat (show 0 < d.toNat by omega); omega
theorem gF_dvd_left (n d : Int) (hn : 0 ≤ n) : gF n d ∣ n := by
  have h := Int.natCast_dvd_natCast.2 (Nat.gcd_dvd_left n.toNat d.toNat)
  rwa [Int.toNat_of_nonneg hn] at h
theorem gF_dvd_right (n d : Int) (hd : 0 ≤ d) : gF n d ∣ d := by
  have h := Int.natCast_dvd_natCast.2 (Nat.gcd_dvd_right n.toNat d.toNat)
  rwa [Int.toNat_of_nonneg hd] at h
theorem gF_zero (n : Int) (hn : 0 ≤ n) : gF n 0 = n := by unfold gF; simp; omega
theorem gF_step (a b : Int) (ha : 0 ≤ a) (hb : 0 < b) : gF b (a % b) = gF a b := by
  have h1 : (a % b).toNat = a.toNat % b.toNat := by
    have : (a.toNat : Int) % (b.toNat : Int) = a % b := by rw [Int.toNat_of_nonneg ha, Int.toNat_of_nonneg (by omega)]
    omega
  have h2 : Nat.gcd b.toNat (a.toNat % b.toNat) = Nat.gcd a.toNat b.toNat := by
    rw [Nat.gcd_comm a.toNat b.toNat, Nat.gcd_rec b.toNat a.toNat, Nat.gcd_comm]
  unfold gF
  rw [h1, h2]
/-- A ratio in lowest terms, brought back. -/
theorem low_back (n d : Int) (hn : 0 ≤ n) (hd : 0 < d) : 0 < d / gF n d ∧ d % (d / gF n d) = 0 ∧ n / gF n d * (d / (d / gF n d)) = n := by
  have hg := gF_pos n d hd
  obtain ⟨k, hk⟩ := gF_dvd_right n d (by omega)
  obtain ⟨j, hj⟩ := gF_dvd_left n d hn
  have e1 : d / gF n d = k := by conv => lhs; lhs; rw [hk]
                                 exact Int.mul_ediv_cancel_left k (by omega)
  have e2 : n / gF n d = j := by conv => lhs; lhs; rw [hj]
                                 exact Int.mul_ediv_cancel_left j (by omega)
  have hk0 : 0 < k := by rw [hk] at hd; exact Int.pos_of_mul_pos_right hd (by omega) |> fun h => h
  have e3 : d / k = gF n d := by conv => lhs; lhs; rw [hk]
                                 exact Int.mul_ediv_cancel _ (by omega)
  have e4 : d % k = 0 := by conv => lhs; lhs; rw [hk]
                            exact Int.mul_emod_left _ _
  rw [e1, e2, e3]
  exact ⟨hk0, e4, by rw [Int.mul_comm]; exact hj.symm⟩
/-- The ratio's value: N times d is n times D. -/
theorem low_val (n d : Int) (hn : 0 ≤ n) (hd : 0 < d) : n / gF n d * d = n * (d / gF n d) := by
  obtain ⟨k, hk⟩ := gF_dvd_right n d (by omega)
  obtain ⟨j, hj⟩ := gF_dvd_left n d hn
  have hg := gF_pos n d hd
  have e1 : d / gF n d = k := by conv => lhs; lhs; rw [hk]
                                 exact Int.mul_ediv_cancel_left k (by omega)
  have e2 : n / gF n d = j := by conv => lhs; lhs; rw [hj]
                                 exact Int.mul_ediv_cancel_left j (by omega)
  rw [e1, e2]
  conv => lhs; rhs; rw [hk]
  conv => rhs; lhs; rw [hj]
  rw [Int.mul_left_comm, Int.mul_assoc]
end Go.Proofs.YtomlfliebolkmaaDoor.Pl
