/-
  Plain law, continued: no condition.
-/
import Derived.Test.YtomlfliebolkmaaDoorPlB
set_option linter.unusedVariables false
namespace Go.Proofs.YtomlfliebolkmaaDoor.Pl
theorem lt_or_ge_s (a b : Int) : a < b ∨ b ≤ a := by omega
theorem riseF_per (L : Int) (D T : List Int) (day : Int) : riseF L D T (day + L) = riseF L D T day := by unfold riseF; rw [Int.add_emod_right]
theorem riseF_mod (L : Int) (D T : List Int) (day : Int) : riseF L D T (day % L) = riseF L D T day := by unfold riseF; rw [Int.emod_emod]
theorem idx_at {L : Int} {D R S : List Int} (h : Ok L D R S) {i : Nat} (hi : i < D.length) : idx D (D[i]?.getD 0) D.length = i := by
  have hb := idx_bd D (D[i]?.getD 0) D.length
  rcases Int.lt_trichotomy (idx D (D[i]?.getD 0) D.length) i with e | e | e
  · have := idx_gt D (D[i]?.getD 0) D.length i e hi; omega
  · exact e
  · have h1 := idx_le D (D[i]?.getD 0) D.length (by omega)
    have h2 := h.lt (i := i) (j := (idx D (D[i]?.getD 0) D.length).toNat) (by omega) (by omega)
    omega
theorem tab_at {L : Int} {D R S T : List Int} (h : Ok L D R S) {i : Nat} (hi : i < D.length) : tab L D T (D[i]?.getD 0) = T[i]?.getD 0 := by
  have e := idx_at h hi
  have iA : ixA D (D[i]?.getD 0) = i := by unfold ixA; rw [e, if_neg (by omega)]; omega
  have hf : fr L D (D[i]?.getD 0) = D[i]?.getD 0 := by unfold fr; rw [e, if_neg (by omega), iA]
  unfold tab
  rw [iA, hf, Int.sub_self, Int.zero_mul, Int.zero_ediv, Int.add_zero]
theorem map_at (T : List Int) (by' : Int) {i : Nat} (h : i < T.length) : (T.map (· + by'))[i]?.getD 0 = T[i]?.getD 0 + by' := by
  rw [List.getElem?_map, List.getElem?_eq_getElem h]; rfl
theorem tab_map {L : Int} {D R S : List Int} (h : Ok L D R S) {T : List Int} (hT : T.length = D.length) (d p : Int) : tab L D (T.map (· + d)) p = tab L D T p + d := by
  unfold tab
  rw [map_at T d (by rw [hT]; exact ixA_lt h p), map_at T d (by rw [hT]; exact ixB_lt h p)]
  rw [show T[ixB D p]?.getD 0 + d - (T[ixA D p]?.getD 0 + d) = T[ixB D p]?.getD 0 - T[ixA D p]?.getD 0 by omega]
  omega
section moved
variable {L : Int} {D R S : List Int} (h : Ok L D R S) (d : Int)
include h
theorem rise_map (day : Int) : riseF L D (R.map (· + d)) day = riseF L D R day + d := tab_map h h.nR d _
theorem set_map (day : Int) : riseF L D (S.map (· + d)) day = riseF L D S day + d := tab_map h h.nS d _
theorem last_map (day : Int) (b : Bool) : lastF L D (R.map (· + d)) (S.map (· + d)) day b = lastF L D R S day b := by
  unfold lastF; rw [rise_map h, rise_map h, set_map h]; split <;> omega
theorem beg_map (day : Int) (b : Bool) : begF L D (R.map (· + d)) (S.map (· + d)) day b = begF L D R S day b + d := by
  unfold begF; rw [rise_map h, set_map h]; split <;> omega
theorem mom_map (day : Int) (b : Bool) (j : Int) : momF L D (R.map (· + d)) (S.map (· + d)) day b j = momF L D R S day b j + 720 * d := by
  unfold momF; rw [beg_map h, last_map h]; omega
theorem Mo_map (n : Int) : Mo L D (R.map (· + d)) (S.map (· + d)) n = Mo L D R S n + 720 * d := mom_map h d _ _ _
theorem told_map (h' : Ok L D (R.map (· + d)) (S.map (· + d))) (m : Int) : toldN L D (R.map (· + d)) (S.map (· + d)) (m + d) = toldN L D R S m := by
  obtain ⟨a, b⟩ := toldN_spec h m
  exact (told_unique h' (m + d) (toldN L D R S m) (by rw [Mo_map h]; omega) (by rw [Mo_map h]; omega)).symm
end moved
/-- A number, taken apart and put together. -/
theorem ord_back (n : Int) : ord (n / 1440) (decide (720 ≤ n % 1440)) (n % 1440 / 60 % 12) (n % 60) = n := by
  unfold ord
  by_cases e : 720 ≤ n % 1440
  · rw [decide_eq_true e, if_pos rfl]; omega
  · rw [decide_eq_false e, if_neg (by decide)]; omega
theorem ord_hour (n : Int) : (0 ≤ n % 1440 / 60 % 12 ∧ n % 1440 / 60 % 12 ≤ 11) ∧ (0 ≤ n % 60 ∧ n % 60 ≤ 59) := by omega
/-- The moment of a number's parts. -/
theorem mom_back (L : Int) (D R S : List Int) (n : Int) : momF L D R S (n / 1440) (decide (720 ≤ n % 1440)) (60 * (n % 1440 / 60 % 12) + n % 60) = Mo L D R S n := by
  rw [← Mo_ord L D R S _ _ _ _ (ord_hour n).1 (ord_hour n).2, ord_back]
theorem mom_ord (L : Int) (D R S : List Int) (day : Int) (b : Bool) (h p : Int) (hh : (0 ≤ h ∧ h ≤ 11) ∧ (0 ≤ p ∧ p ≤ 59)) : momF L D R S day b (60 * h + p) = Mo L D R S (ord day b h p) :=
  (Mo_ord L D R S day b h p hh.1 hh.2).symm
theorem ord_bd {day : Int} {b : Bool} {h p : Int} (hd : 0 ≤ day ∧ day ≤ 11000) (hh : (0 ≤ h ∧ h ≤ 11) ∧ (0 ≤ p ∧ p ≤ 59)) : 0 ≤ ord day b h p ∧ ord day b h p < 15841440 := by
  unfold ord; split <;> omega
theorem Mo_day (L : Int) (D R S : List Int) (day : Int) : Mo L D R S (day * 1440) = (day * 1440 + riseF L D R day) * 720 := by
  have e : Mo L D R S (day * 1440) = momF L D R S day false (60 * 0 + 0) := by
    rw [mom_ord _ _ _ _ _ _ _ _ (by omega)]; unfold ord; rw [if_neg (by decide)]; congr 1; omega
  rw [e]; unfold momF begF; simp
/-- The moments of all numbers from 0 on are not negative, and not too great. -/
theorem Mo_nonneg {L : Int} {D R S : List Int} (h : Ok L D R S) {n : Int} (hn : 0 ≤ n) : 43200 ≤ Mo L D R S n := by
  have h1 := (Mo_le h (m := 0 * 1440) (n := n)).2 (by omega)
  rw [Mo_day] at h1
  have := h.rise 0; omega
theorem Mo_top {L : Int} {D R S : List Int} (h : Ok L D R S) {n : Int} (d : Int) (hn : n ≤ d * 1440) : Mo L D R S n ≤ (d * 1440 + 700) * 720 := by
  have h1 := (Mo_le h (m := n) (n := d * 1440)).2 hn
  rw [Mo_day] at h1
  have := h.rise d; omega
/-- What is told at bells. -/
theorem bell_at {L : Int} {D R S : List Int} (h : Ok L D R S) (k : Int) :
    k ≤ toldN L D R S (upF (Mo L D R S k)) ∧ toldN L D R S (upF (Mo L D R S k)) < k + 60 ∧ toldN L D R S (upF (Mo L D R S k) - 1) < k ∧ k - 60 ≤ toldN L D R S (upF (Mo L D R S k) - 1) ∧ upF (Mo L D R S k) < upF (Mo L D R S (k + 60)) := by
  have h1 := Mo_add h k 60
  have h2 := Mo_add h (k - 60) 60
  rw [show k - 60 + (60 : Nat) = k by omega] at h2
  rw [show k + ((60 : Nat) : Int) = k + 60 by omega] at h1
  have u1 : Mo L D R S k ≤ upF (Mo L D R S k) * 720 := by unfold upF; omega
  have u2 : upF (Mo L D R S k) * 720 < Mo L D R S k + 720 := by unfold upF; omega
  refine ⟨(told_iff h _ _).1 u1, ?_, ?_, (told_iff h _ _).1 (by omega), by unfold upF; omega⟩
  · rcases lt_or_ge_s (toldN L D R S (upF (Mo L D R S k))) (k + 60) with e | e
    · exact e
    · have := (told_iff h _ _).2 e; omega
  · rcases lt_or_ge_s (toldN L D R S (upF (Mo L D R S k) - 1)) k with e | e
    · exact e
    · have := (told_iff h _ _).2 e; omega
end Go.Proofs.YtomlfliebolkmaaDoor.Pl
