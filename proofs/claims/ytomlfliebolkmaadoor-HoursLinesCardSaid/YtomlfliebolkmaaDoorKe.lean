/-
  Least, greatest and first place in a slice, by contract. No condition beyond what each states.
-/
import Derived.Test.YtomlfliebolkmaaDoorKc
set_option linter.unusedVariables false
set_option linter.unusedSimpArgs false
namespace Go.Proofs.YtomlfliebolkmaaDoor
open Go Go.Proofs Go.RowKit Pl

/-- The least and the greatest of a list's first elements. -/
def mnF (xs : List Int) : Nat → Int
  | 0 => xs[0]?.getD 0
  | k + 1 => if xs[k + 1]?.getD 0 < mnF xs k then xs[k + 1]?.getD 0 else mnF xs k
def mxF (xs : List Int) : Nat → Int
  | 0 => xs[0]?.getD 0
  | k + 1 => if mxF xs k < xs[k + 1]?.getD 0 then xs[k + 1]?.getD 0 else mxF xs k
theorem mnF_le (xs : List Int) : ∀ (k i : Nat), i ≤ k → mnF xs k ≤ xs[i]?.getD 0
  | 0, i, h => by obtain rfl : i = 0 := (by omega); exact Int.le_refl _
  | k + 1, i, h => by
    unfold mnF
    rcases Nat.lt_or_eq_of_le h with e | e
    · have := mnF_le xs k i (by omega); split <;> omega
    · subst e; split <;> omega
theorem mxF_le (xs : List Int) : ∀ (k i : Nat), i ≤ k → xs[i]?.getD 0 ≤ mxF xs k
  | 0, i, h => by obtain rfl : i = 0 := (by omega); exact Int.le_refl _
  | k + 1, i, h => by
    unfold mxF
    rcases Nat.lt_or_eq_of_le h with e | e
    · have := mxF_le xs k i (by omega); split <;> omega
    · subst e; split <;> omega
/-- The first place from k on, among f, that holds v. -/
def ixG (xs : List Int) (v : Int) : Nat → Nat → Int
  | 0, _ => -1
  | f + 1, k => if xs[k]?.getD 0 = v then (k : Int) else ixG xs v f (k + 1)
theorem ixG_or (xs : List Int) (v : Int) : ∀ (f k : Nat), ixG xs v f k = -1 ∨ ∃ j : Nat, k ≤ j ∧ j < k + f ∧ ixG xs v f k = j ∧ xs[j]?.getD 0 = v
  | 0, k => .inl rfl
  | f + 1, k => by
    unfold ixG
    by_cases h : xs[k]?.getD 0 = v
    · rw [if_pos h]; exact .inr ⟨k, by omega, by omega, rfl, h⟩
    · rw [if_neg h]
      rcases ixG_or xs v f (k + 1) with e | ⟨j, h1, h2, h3, h4⟩
      · exact .inl e
      · exact .inr ⟨j, by omega, by omega, h3, h4⟩

set_option maxHeartbeats 4000000 in
theorem slMin_any {b o n c : Nat} {xs : List Int} (w : World) (hx : Lst w w.heap.size b o n xs) (h1 : 1 ≤ n) (hn : n ≤ 1000) :
   Calls Tryd.prog 37 #[.slice (some ⟨b, o, none⟩) n c] w fun e w' => e = .returned (.int .i64 (mnF xs (n - 1))) ∧ w = w' := by
  have HC := Lib.hid hx.cell
  have q0 := HC.out 0 (by omega)
  rw [Nat.add_zero] at q0
  have hg : ¬ n < 1 := by omega
  go_enter Tryd.func37, Tryd.ntmps37
  go_wp2
  go_loop [3, 4] (fun vm vk => ∃ k : Nat, k < n ∧ vk = .int .i64 ((k : Int) + 1) ∧ vm = .int .i64 (mnF xs k)) (fun _ vk => 2000 - (intOf vk).toNat)
  case atStart => exact ⟨0, by omega, by go_num, rfl⟩
  case round =>
    obtain ⟨k, hk, rfl, rfl⟩ := hrel
    by_cases hlt : k + 1 < n
    · have qk := HC.out (k + 1) hlt
      have HS := Lib.hid (show mnF xs (k + 1) = (if xs[k + 1]?.getD 0 < mnF xs k then xs[k + 1]?.getD 0 else mnF xs k) from rfl)
      go_wp2
      go_round
      case rel => exact ⟨k + 1, by omega, by go_num, by rw [HS.out]⟩
      case measure => simp [intOf]; omega
    · have HK := Lib.hid (show k = n - 1 by omega)
      go_wp2
      go_ret
      exact ⟨ret_int (by rw [HK.out]), rfl⟩
set_option maxHeartbeats 4000000 in
theorem slMax_any {b o n c : Nat} {xs : List Int} (w : World) (hx : Lst w w.heap.size b o n xs) (h1 : 1 ≤ n) (hn : n ≤ 1000) :
   Calls Tryd.prog 38 #[.slice (some ⟨b, o, none⟩) n c] w fun e w' => e = .returned (.int .i64 (mxF xs (n - 1))) ∧ w = w' := by
  have HC := Lib.hid hx.cell
  have q0 := HC.out 0 (by omega)
  rw [Nat.add_zero] at q0
  have hg : ¬ n < 1 := by omega
  go_enter Tryd.func38, Tryd.ntmps38
  go_wp2
  go_loop [3, 4] (fun vm vk => ∃ k : Nat, k < n ∧ vk = .int .i64 ((k : Int) + 1) ∧ vm = .int .i64 (mxF xs k)) (fun _ vk => 2000 - (intOf vk).toNat)
  case atStart => exact ⟨0, by omega, by go_num, rfl⟩
  case round =>
    obtain ⟨k, hk, rfl, rfl⟩ := hrel
    by_cases hlt : k + 1 < n
    · have qk := HC.out (k + 1) hlt
      have HS := Lib.hid (show mxF xs (k + 1) = (if mxF xs k < xs[k + 1]?.getD 0 then xs[k + 1]?.getD 0 else mxF xs k) from rfl)
      go_wp2
      go_round
      case rel => exact ⟨k + 1, by omega, by go_num, by rw [HS.out]⟩
      case measure => simp [intOf]; omega
    · have HK := Lib.hid (show k = n - 1 by omega)
      go_wp2
      go_ret
      exact ⟨ret_int (by rw [HK.out]), rfl⟩
set_option maxHeartbeats 4000000 in
theorem slIndex_any {b o n c : Nat} {xs : List Int} (v : Int) (w : World) (hx : Lst w w.heap.size b o n xs) (hn : n ≤ 1000) :
   Calls Tryd.prog 39 #[.slice (some ⟨b, o, none⟩) n c, .int .i64 v] w fun e w' => e = .returned (.int .i64 (ixG xs v n 0)) ∧ w = w' := by
  have HC := Lib.hid hx.cell
  go_enter Tryd.func39, Tryd.ntmps39
  go_wp2
  go_loop [8] (fun vk => ∃ k : Nat, k ≤ n ∧ vk = .int .i64 (k : Int) ∧ ixG xs v n 0 = ixG xs v (n - k) k) (fun vk => 2000 - (intOf vk).toNat)
  case atStart => exact ⟨0, by omega, rfl, rfl⟩
  case round =>
    obtain ⟨k, hk, rfl, he⟩ := hrel
    have HE := Lib.hid he; clear he
    by_cases hlt : k < n
    · have qk := HC.out k hlt
      obtain ⟨f, hf⟩ : ∃ f, n - k = f + 1 := ⟨n - k - 1, by omega⟩
      have HF := Lib.hid hf; clear hf
      by_cases hv : v = xs[k]?.getD 0
      · have HV := Lib.hid (show ixG xs (xs[k]?.getD 0) n 0 = k by rw [← hv, HE.out, HF.out, ixG, if_pos hv.symm])
        go_wp2
        go_ret
        exact ⟨ret_int HV.out.symm, rfl⟩
      · have HV := Lib.hid (show ixG xs v n 0 = ixG xs v (n - (k + 1)) (k + 1) by rw [HE.out, HF.out, ixG, if_neg (fun h => hv h.symm)]; congr 1; have := HF.out; omega)
        go_wp2
        go_round
        case rel => exact ⟨k + 1, by omega, by go_num, HV.out⟩
        case measure => simp [intOf]; omega
    · have HV := Lib.hid (show ixG xs v n 0 = -1 by rw [HE.out, show n - k = 0 by omega, ixG])
      go_wp2
      go_ret
      exact ⟨ret_int HV.out.symm, rfl⟩

end Go.Proofs.YtomlfliebolkmaaDoor
