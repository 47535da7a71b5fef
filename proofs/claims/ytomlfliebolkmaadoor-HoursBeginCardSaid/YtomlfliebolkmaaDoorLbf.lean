/-
  HoursBegin: plain law and the first walks. No condition beyond what each states.
-/
import Derived.Test.YtomlfliebolkmaaDoorKf
import Derived.Test.YtomlfliebolkmaaDoorLfd
set_option linter.unusedVariables false
set_option linter.unusedSimpArgs false
namespace Go.Proofs.YtomlfliebolkmaaDoor
open Go Go.Proofs Go.RowKit Pl

theorem cntB_add (f : Int → Bool) (a : Int) (j : Nat) : ∀ k : Nat, cntB f a (j + k) = cntB f a j + cntB f (a + j) k
  | 0 => by simp [cntB]
  | k + 1 => by
    have ih := cntB_add f a j k
    have e : j + (k + 1) = (j + k) + 1 := by omega
    rw [e, cntB, cntB, ih, show a + ((j + k : Nat) : Int) = a + (j : Int) + (k : Int) by omega]
    omega
theorem cntB_mono (f : Int → Bool) (a : Int) {j k : Nat} (h : j ≤ k) : cntB f a j ≤ cntB f a k := by
  obtain ⟨i, rfl⟩ : ∃ i, k = j + i := ⟨k - j, by omega⟩
  rw [cntB_add]
  have := cntB_bd f (a + j) i; omega
theorem cntB_pos {f : Int → Bool} {a : Int} {k j : Nat} (h : j < k) (hf : f (a + j) = true) : 1 ≤ cntB f a k := by
  have h1 : cntB f a (j + 1) = cntB f a j + 1 := by rw [cntB, hf, if_pos rfl]
  have h2 := cntB_mono f a (show j + 1 ≤ k by omega)
  have := cntB_bd f a j; omega
theorem cntB_zero {f : Int → Bool} {a : Int} : ∀ {k : Nat}, (∀ j : Nat, j < k → f (a + j) = false) → cntB f a k = 0
  | 0, _ => rfl
  | k + 1, h => by
    rw [cntB, cntB_zero (fun j hj => h j (by omega)), h k (by omega), if_neg (by decide)]
    rfl
theorem cntB_one {f : Int → Bool} {a : Int} : ∀ {k : Nat}, (∀ i j : Nat, i < j → j < k → f (a + i) = true → f (a + j) = true → False) → cntB f a k ≤ 1
  | 0, _ => by simp [cntB]
  | k + 1, h => by
    cases hk : f (a + k)
    · rw [cntB, hk, if_neg (by decide)]
      have := cntB_one (f := f) (a := a) (k := k) (fun i j a' b => h i j a' (by omega)); omega
    · have hz := cntB_zero (f := f) (a := a) (k := k) (fun j hj => by
        cases hj' : f (a + j)
        · rfl
        · exact (h j k hj (by omega) hj' hk).elim)
      rw [cntB, hk, if_pos rfl, hz]
      omega
theorem begM_cnt30 {a : Int} (h0 : 0 ≤ a) : ∀ q : Nat, a + 30 * q < 3543312 → (q : Int) ≤ cntB begM a (30 * q)
  | 0, _ => by simp [cntB]
  | q + 1, h => by
    have ih := begM_cnt30 h0 q (by omega)
    obtain ⟨j, hj, hd⟩ := month30 (n := a + (30 * q : Nat)) (by omega) (by omega)
    have hp : 1 ≤ cntB begM (a + (30 * q : Nat)) 30 := cntB_pos hj (by rw [begM_in (by omega), decide_eq_true hd])
    rw [show 30 * (q + 1) = 30 * q + 30 by omega, cntB_add]
    omega
theorem begM_cnt29 {a : Int} (h0 : 0 ≤ a) : ∀ q : Nat, a + 29 * q < 3543312 → cntB begM a (29 * q) ≤ q
  | 0, _ => by simp [cntB]
  | q + 1, h => by
    have ih := begM_cnt29 h0 q (by omega)
    have hp : cntB begM (a + (29 * q : Nat)) 29 ≤ 1 := cntB_one (fun i j hij hj hi hj' => by
      rw [begM_in (by omega), decide_eq_true_iff] at hi hj'
      exact month29 (n := a + (29 * q : Nat) + i) (x := a + (29 * q : Nat) + j) (by omega) (by omega) hi (by omega) (by omega) hj')
    rw [show 29 * (q + 1) = 29 * q + 29 by omega, cntB_add]
    omega
theorem monF_bd {year : Int} (h : 1 ≤ year ∧ year ≤ 9000) : 12 ≤ monF year ∧ monF year ≤ 13 := by
  have hs := stC_step year
  have hl := lpC_step year
  have h0 : 0 ≤ stC year := by have := stC_mono h.1; rw [stC_one] at this; omega
  have hb : stC year ≤ 3300000 := by have := h.2; unfold stC lpC; omega
  have hlen : dyN (stC year) (stC (year + 1) - 1) = 365 ∨ dyN (stC year) (stC (year + 1) - 1) = 366 := by unfold dyN; omega
  have a1 := begM_cnt30 h0 12 (by omega)
  have a2 := begM_cnt29 h0 13 (by omega)
  unfold monF
  have b1 := cntB_mono begM (stC year) (show 30 * 12 ≤ dyN (stC year) (stC (year + 1) - 1) by omega)
  have b2 := cntB_mono begM (stC year) (show dyN (stC year) (stC (year + 1) - 1) ≤ 29 * 13 by omega)
  omega
theorem fsB_hit_any {f : Int → Bool} {a : Int} : ∀ {k j : Nat}, j < k → f (a + j) = true → fsB f a k ≠ none
  | 0, j, h, _ => by omega
  | k + 1, j, h, hf => by
    unfold fsB
    cases hk : fsB f a k with
    | some m => simp
    | none =>
      rcases Nat.lt_or_eq_of_le (Nat.le_of_lt_succ h) with e | e
      · exact absurd hk (fsB_hit_any e hf)
      · subst e; rw [hf]; simp
theorem fe_yes {day : Int} (h : 0 ≤ day ∧ day ≤ 3000000) (he : feE day = 0) : day ≤ feN day ∧ feN day ≤ 3500000 ∧ bothB (feN day) = true ∧ FeNo day (feN day) := by
  unfold feE at he
  rw [wi_mk h, if_pos rfl] at he
  cases hf : fsF day with
  | none => rw [hf] at he; simp at he
  | some n =>
    have e : feN day = n := by unfold feN; rw [hf]; rfl
    obtain ⟨j, hj, rfl, hb, hn⟩ := fsB_some (show fsB bothB day (dyN day 3500000) = some n from hf)
    rw [e]
    unfold dyN at hj
    refine ⟨by omega, by omega, hb, fun x a b => ?_⟩
    have := hn (x - day).toNat (by omega)
    rwa [show day + (((x - day).toNat : Nat) : Int) = x by omega] at this
theorem fe_not {day : Int} (h : 0 ≤ day ∧ day ≤ 3000000) (he : feE day ≠ 0) : feE day = 4 ∧ FeNo day 3500001 := by
  unfold feE at he ⊢
  rw [wi_mk h, if_pos rfl] at he ⊢
  cases hf : fsF day with
  | some n => rw [hf] at he; simp at he
  | none =>
    refine ⟨by simp, fun x a b => ?_⟩
    cases hx : bothB x
    · rfl
    · exfalso
      have := fsB_hit_any (f := bothB) (a := day) (k := dyN day 3500000) (j := (x - day).toNat) (by unfold dyN; omega) (by rw [show day + (((x - day).toNat : Nat) : Int) = x by omega]; exact hx)
      exact this hf


set_option maxHeartbeats 4000000 in
theorem both_any (n : Int) (w : World) : Calls Tryd.prog 59 #[.int .i64 n] w fun e w' => e = .returned (.bool (bothB n)) ∧ Below w.heap.size w w' := by
  by_cases hc : 0 ≤ n ∧ n ≤ 3652055
  · by_cases hm : 0 ≤ n ∧ n ≤ 3543311
    · have HV := Lib.hid (show bothB n = (decide (daC n = 1) && decide (daM n = 1)) by unfold bothB; rw [begC_in hc, begM_in hm])
      by_cases h1 : daC n = 1
      · by_cases h2 : daM n = 1
        · go_enter Tryd.func59, Tryd.ntmps59
          go_wp2_with fail
          refine (cOf_yes n _ hc).mono ?_
          rintro e w1 ⟨rfl, hb1⟩
          have HB1 := Lib.hid hb1; clear hb1
          go_wp2_with fail
          refine (mOf_yes n _ hm).mono ?_
          rintro e w2 ⟨rfl, hb2⟩
          have c2 := keep_cell (b := w1.heap.size) (o := 2) (v := .int .i64 (daC n)) hb2 (by simp) (by first | (simp [go_sem]; done) | (simp [go_sem]; omega))
          have l2 := keep_lt (b := w1.heap.size) hb2 (by simp)
          have HB2 := Lib.hid (bjoin (w := w) (by have hb' := HB1.out; have hb'' := hb'.size; go_grown) hb2); clear hb2
          go_wp2
          go_ret
          exact ⟨by rw [HV.out, decide_eq_true h1, decide_eq_true h2]; rfl, by have hb' := HB2.out; have hb'' := hb'.size; go_grown⟩
        · go_enter Tryd.func59, Tryd.ntmps59
          go_wp2_with fail
          refine (cOf_yes n _ hc).mono ?_
          rintro e w1 ⟨rfl, hb1⟩
          have HB1 := Lib.hid hb1; clear hb1
          go_wp2_with fail
          refine (mOf_yes n _ hm).mono ?_
          rintro e w2 ⟨rfl, hb2⟩
          have c2 := keep_cell (b := w1.heap.size) (o := 2) (v := .int .i64 (daC n)) hb2 (by simp) (by first | (simp [go_sem]; done) | (simp [go_sem]; omega))
          have l2 := keep_lt (b := w1.heap.size) hb2 (by simp)
          have HB2 := Lib.hid (bjoin (w := w) (by have hb' := HB1.out; have hb'' := hb'.size; go_grown) hb2); clear hb2
          go_wp2
          go_ret
          exact ⟨by rw [HV.out, decide_eq_true h1, decide_eq_false h2]; first | rfl | exact ret_bool (by simp [h2]), by have hb' := HB2.out; have hb'' := hb'.size; go_grown⟩
      · go_enter Tryd.func59, Tryd.ntmps59
        go_wp2_with fail
        refine (cOf_yes n _ hc).mono ?_
        rintro e w1 ⟨rfl, hb1⟩
        have HB1 := Lib.hid hb1; clear hb1
        go_wp2_with fail
        refine (mOf_yes n _ hm).mono ?_
        rintro e w2 ⟨rfl, hb2⟩
        have c2 := keep_cell (b := w1.heap.size) (o := 2) (v := .int .i64 (daC n)) hb2 (by simp) (by first | (simp [go_sem]; done) | (simp [go_sem]; omega))
        have l2 := keep_lt (b := w1.heap.size) hb2 (by simp)
        have HB2 := Lib.hid (bjoin (w := w) (by have hb' := HB1.out; have hb'' := hb'.size; go_grown) hb2); clear hb2
        go_wp2
        go_ret
        exact ⟨by rw [HV.out, decide_eq_false h1]; first | rfl | exact ret_bool (by simp [h1]), by have hb' := HB2.out; have hb'' := hb'.size; go_grown⟩
    · have HV := Lib.hid (show bothB n = false by unfold bothB begM; rw [dayE_no hm]; simp)
      go_enter Tryd.func59, Tryd.ntmps59
      go_wp2_with fail
      refine (cOf_yes n _ hc).mono ?_
      rintro e w1 ⟨rfl, hb1⟩
      have HB1 := Lib.hid hb1; clear hb1
      go_wp2_with fail
      refine (mOf_no n _ hm).mono ?_
      rintro e w2 ⟨rfl, hb2⟩
      have c2 := keep_cell (b := w1.heap.size) (o := 2) (v := .int .i64 (daC n)) hb2 (by simp) (by first | (simp [go_sem]; done) | (simp [go_sem]; omega))
      have l2 := keep_lt (b := w1.heap.size) hb2 (by simp)
      have HB2 := Lib.hid (bjoin (w := w) (by have hb' := HB1.out; have hb'' := hb'.size; go_grown) hb2); clear hb2
      go_wp2
      go_ret
      exact ⟨by rw [HV.out]; rfl, by have hb' := HB2.out; have hb'' := hb'.size; go_grown⟩
  · have HV := Lib.hid (show bothB n = false by unfold bothB begC; rw [dayE_no hc]; simp)
    go_enter Tryd.func59, Tryd.ntmps59
    go_wp2_with fail
    refine (cOf_no n _ hc).mono ?_
    rintro e w1 ⟨rfl, hb1⟩
    have HB1 := Lib.hid hb1; clear hb1
    go_wp2_with fail
    refine (mOf_no n _ (fun h => hc ⟨h.1, by omega⟩)).mono ?_
    rintro e w2 ⟨rfl, hb2⟩
    have c2 := keep_cell (b := w1.heap.size) (o := 2) (v := .int .i64 (0)) hb2 (by simp) (by first | (simp [go_sem]; done) | (simp [go_sem]; omega))
    have l2 := keep_lt (b := w1.heap.size) hb2 (by simp)
    have HB2 := Lib.hid (bjoin (w := w) (by have hb' := HB1.out; have hb'' := hb'.size; go_grown) hb2); clear hb2
    go_wp2
    go_ret
    exact ⟨by rw [HV.out]; rfl, by have hb' := HB2.out; have hb'' := hb'.size; go_grown⟩

theorem both_no (n : Int) (w : World) (h : bothB n = false) : Calls Tryd.prog 59 #[.int .i64 n] w fun e w' => e = .returned (.bool false) ∧ Below w.heap.size w w' := by
  have c := both_any n w
  rw [h] at c
  exact c
theorem both_yes (n : Int) (w : World) (h : bothB n = true) : Calls Tryd.prog 59 #[.int .i64 n] w fun e w' => e = .returned (.bool true) ∧ Below w.heap.size w w' := by
  have c := both_any n w
  rw [h] at c
  exact c

set_option maxRecDepth 100000 in
set_option maxHeartbeats 20000000 in
theorem Begin_out (day year between : Int) (w : World) (hd : ¬ (0 ≤ day ∧ day ≤ 3000000)) :
   Calls Tryd.prog 15 #[.int .i64 day, .int .i64 year, .int .i64 between] w fun e w' => e = .returned (.bool true) ∧ Below w.heap.size w w' := by
  have HMO := Lib.hid (fun W => Months_any year W)
  have HME := Lib.hid (show 1 ≤ year ∧ year ≤ 9000 → yrE year = 0 ∧ 12 ≤ onOk (yrE year) (monF year) ∧ onOk (yrE year) (monF year) ≤ 13 from fun h => by rw [yrE_yes h, onOk_ok]; exact ⟨rfl, monF_bd h⟩)
  generalize onOk (yrE year) (monF year) = mN at *
  generalize yrE year = mE at *
  by_cases h0 : 0 ≤ day
  · have h1 : ¬ day ≤ 3000000 := fun h => hd ⟨h0, h⟩
    clear hd
    go_enter Tryd.func15, Tryd.ntmps15
    go_wp2_with fail
    refine (sane_any _).mono ?_
    rintro e w1 ⟨rfl, hb⟩
    have HB1 := Lib.hid hb; clear hb
    go_wp2_with fail
    refine (HMO.out _).mono ?_
    rintro e w2 ⟨rfl, hb⟩
    have HB2 := Lib.hid (bjoin HB1.out hb); clear hb
    go_wp2_with fail
    all_goals try (exfalso; have := HME.out; omega)
    all_goals (go_ret; exact ⟨rfl, HB2.out⟩)
  · clear hd
    go_enter Tryd.func15, Tryd.ntmps15
    go_wp2_with fail
    refine (sane_any _).mono ?_
    rintro e w1 ⟨rfl, hb⟩
    have HB1 := Lib.hid hb; clear hb
    go_wp2_with fail
    refine (HMO.out _).mono ?_
    rintro e w2 ⟨rfl, hb⟩
    have HB2 := Lib.hid (bjoin HB1.out hb); clear hb
    go_wp2_with fail
    all_goals try (exfalso; have := HME.out; omega)
    all_goals (go_ret; exact ⟨rfl, HB2.out⟩)

end Go.Proofs.YtomlfliebolkmaaDoor
