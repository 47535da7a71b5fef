/-
  Months and Feast, by contract. No condition beyond what each states.
-/
import Derived.Test.YtomlfliebolkmaaDoorCE
import Derived.RangeFuncFrom
set_option linter.unusedVariables false
set_option linter.unusedSimpArgs false
namespace Go.Proofs.YtomlfliebolkmaaDoor
open Go Go.Proofs Go.RowKit Go.Shelf Pl

attribute [local go_sem] Oper.semAt_some

theorem cell_new_l (W : World) (v : Value) (t : TypeId) : (W.alloc (.cells #[v] t)).cell? ⟨W.heap.size, 0, none⟩ = some v ∧ (W.alloc (.cells #[v] t)).frozen? ⟨W.heap.size, 0, none⟩ = false := ⟨by simp [go_sem], by simp [go_sem]⟩
theorem cell_alloc_l {W : World} {a : Addr} {v : Value} (o : Obj) (h : W.cell? a = some v) : (W.alloc o).cell? a = some v := cell_kept h (World.grownBy_alloc W o none) (fun r e => by cases e)
theorem frozen_alloc_l {W : World} {a : Addr} {v : Value} (o : Obj) (h : W.cell? a = some v) (hf : W.frozen? a = false) : (W.alloc o).frozen? a = false := (frozen_kept h (World.grownBy_alloc W o none) (fun r e => by cases e)).trans hf

/-- How many of the k days from a on do so. -/
def cntB (f : Int → Bool) (a : Int) : Nat → Int
  | 0 => 0
  | k + 1 => cntB f a k + if f (a + k) = true then 1 else 0
theorem cntB_bd (f : Int → Bool) (a : Int) (k : Nat) : 0 ≤ cntB f a k ∧ cntB f a k ≤ k := by
  induction k with
  | zero => simp [cntB]
  | succ k ih => unfold cntB; split <;> omega
def cntL {a b : Int} (f : Int → Bool) (pre : List (Dy a b)) : Int := (pre.countP fun x => f x.1 : Nat)
theorem cntL_snoc {a b : Int} (f : Int → Bool) (pre : List (Dy a b)) (x : Dy a b) : cntL f (pre ++ [x]) = cntL f pre + if f x.1 = true then 1 else 0 := by
  unfold cntL; rw [List.countP_append]; simp [List.countP_cons]; split <;> simp
theorem cntL_len {a b : Int} (f : Int → Bool) (pre : List (Dy a b)) : 0 ≤ cntL f pre ∧ cntL f pre ≤ pre.length := by
  unfold cntL; have := List.countP_le_length (p := fun x : Dy a b => f x.1) (l := pre); omega
theorem dyAt_val (a b : Int) (h : a ≤ b) (k : Nat) (hk : k < dyN a b) : (dyAt a b h k).1 = a + (k : Int) := by
  unfold dyN at hk
  show a + min (k : Int) (b - a) = _; omega
theorem cntL_up (f : Int → Bool) (a b : Int) (h : a ≤ b) (k : Nat) (hk : k ≤ dyN a b) : cntL f (dyUp a b h k) = cntB f a k := by
  induction k with
  | zero => rfl
  | succ k ih => rw [dyUp_succ, cntL_snoc, ih (by omega), cntB, dyAt_val a b h k (by omega)]

/-- How many months of the market begin in a year of the court. -/
def monF (year : Int) : Int := cntB begM (stC year) (dyN (stC year) (stC (year + 1) - 1))
def yrE (year : Int) : Int := if wi year 1 9000 = true then 0 else 1

set_option maxRecDepth 100000 in
set_option maxHeartbeats 4000000 in
theorem Months_any (year : Int) (w : World) : Calls Tryd.prog 52 #[.int .i64 year] w fun e w' => e = .returned (.tuple #[.int .i64 (onOk (yrE year) (monF year)), .int .i64 (yrE year)]) ∧ Below w.heap.size w w' := by
  cases hy : wi year 1 9000
  · have HP := Lib.hid (show yrE year = 1 by unfold yrE; rw [hy]; rfl)
    go_enter Tryd.func52, Tryd.ntmps52
    go_wp2_with fail
    refine (within_any _ _ _ _).mono ?_
    rintro e w1 ⟨rfl, rfl⟩
    rw [hy]
    go_wp2
    refine bodyPost_ret (v := .tuple #[.int .i64 0, .int .i64 1]) (by simp [results, Tryd.results52, go_sem]) rfl ?_
    rw [HP.out]
    exact ⟨rfl, Below.refl _ _⟩
  · have HP := Lib.hid (show yrE year = 0 by unfold yrE; rw [hy]; rfl)
    refine (callsIn_wide (n := 5)).1 ?_
    have hy1 := (wi_iff _ _ _).1 hy
    have hs1 := stC_step year
    have hs2 := lpC_step year
    have hsb : 0 ≤ stC year ∧ stC year ≤ 4000000 := by
      have ha := stC_mono hy1.1; have hb := stC_mono (show year ≤ 10000 by omega)
      rw [stC_one] at ha; rw [stC_top] at hb; omega
    have hab : stC year ≤ stC (year + 1) - 1 := by omega
    have hsb2 : stC (year + 1) ≤ 5000000 := by omega
    have HMN := Lib.hid (show dyN (stC year) (stC (year + 1) - 1) ≤ 366 by unfold dyN; omega)
    clear hs1 hs2
    refine callsIn_of_wp_marks Tryd.func52 rfl trivial ?_ rfl
    simp only [Tryd.ntmps52, List.size_toArray, List.length_cons, List.length_nil, Nat.reduceAdd, Nat.reduceSub, Array.replicate_succ, Array.replicate_zero, List.push_toArray, List.append_toArray, List.nil_append, List.cons_append]
    gi_wp2_with (refine ⟨trivial, ?_⟩; gi_at_call 77; refine (callsIn_wide.2 (within_any _ _ _ _)).mono ?_; rintro e w1 ⟨rfl, rfl⟩; rw [hy])
    refine ⟨trivial, (callsIn_wide.2 (cStart_any year _ (by omega))).mono ?_⟩
    rintro e w1 ⟨rfl, hb1⟩
    gi_wp2_with fail
    refine ⟨trivial, (callsIn_wide.2 (cStart_any (year + 1) _ (by omega))).mono ?_⟩
    rintro e w2 ⟨rfl, hb2⟩
    have hB12 := bjoin (w := w.alloc (.cells #[.int .i64 0] 3)) hb1 hb2
    have rc0 := keep_cell (b := w.heap.size) (o := 0) (v := .int .i64 0) hB12 (by simp <;> omega) (by simp [go_sem])
    have rf0 := keep_fr (b := w.heap.size) (o := 0) hB12 (by simp <;> omega) (by simp [go_sem])
    have hB := Lib.hid (bjoin (w := w) (by go_grown) hB12)
    have hlt := Lib.hid (keep_lt (b := w.heap.size) hB12 (by simp))
    clear hb1 hb2 hB12
    gi_wp2_with fail
    refine ⟨trivial, (callsIn_wide.2 (days_any _ _ _)).mono ?_⟩
    rintro e w3 ⟨rfl, rfl⟩
    gi_wp2_with fail
    have hltw := hlt.out
    have c1 := cell_new_l w2 (.int .i64 (stC year)) 3
    have c2 := cell_new_l (w2.alloc (.cells #[.int .i64 (stC year)] 3)) (.int .i64 (stC (year + 1) - 1)) 3
    rw [World.size_alloc] at c2
    have hB0 : Below w.heap.size w ((w2.alloc (.cells #[.int .i64 (stC year)] 3)).alloc (.cells #[.int .i64 (stC (year + 1) - 1)] 3)) := (hB.out.alloc (by omega) _).alloc (by simp; omega) _
    refine wpIn_rangeFunc_ownF rfl (by omega) (gf := 108) (lb := #[.pointer (some ⟨w2.heap.size, 0, none⟩), .pointer (some ⟨w2.heap.size + 1, 0, none⟩)]) rfl trivial (enters_of Tryd.func108 (by kernel_rfl) rfl)
      (days_stops 4 (by omega) w2.heap.size (w2.heap.size + 1) (stC year) (stC (year + 1) - 1) hab (by omega) (by omega) ((w2.alloc (.cells #[.int .i64 (stC year)] 3)).alloc (.cells #[.int .i64 (stC (year + 1) - 1)] 3)) (by simp; omega) (by simp) (cell_alloc_l _ c1.1) c2.1) KT.trans (KT_b (by simp)) (Below.refl _ _) (fun _ => rfl)
      (fun pre W => (W.cell? ⟨w.heap.size, 0, none⟩ = some (.int .i64 (cntL begM pre)) ∧ W.frozen? ⟨w.heap.size, 0, none⟩ = false) ∧ Below w.heap.size w W ∧ Below 0 ((w2.alloc (.cells #[.int .i64 (stC year)] 3)).alloc (.cells #[.int .i64 (stC (year + 1) - 1)] 3)) W)
      (fun _ _ _ => False)
      (OwnFrom.and (Own.from (fun s A B row hs hg hr => ⟨cell_kept hs.1 hg hr, (frozen_kept hs.1 hg hr).trans hs.2⟩) _) (OwnFrom.and (ownFrom_below (Nat.le_refl _) (by simp; omega)) (ownFrom_below (Nat.zero_le _) (Nat.zero_le _))))
      (fun _ _ _ _ _ hs _ _ => hs)
      ⟨⟨cell_alloc_l _ (cell_alloc_l _ rc0), frozen_alloc_l _ (cell_alloc_l _ rc0) (frozen_alloc_l _ rc0 rf0)⟩, hB0, Below.refl _ _⟩
      (fun x => { tmps := #[.int .i64 year, undef, .int .i64 0, .int .i64 0, .pointer (some ⟨w.heap.size, 0, none⟩), .int .i64 x.1, .int .i64 year,
                Value.bool true, Value.bool false, Value.agg #[], Value.iface 100 (Value.agg #[]),
                Value.int IntKind.i64 year, Value.int IntKind.i64 (stC year), Value.agg #[],
                Value.iface 100 (Value.agg #[]), Value.int IntKind.i64 year, Value.int IntKind.i64 (year + 1),
                Value.int IntKind.i64 (stC (year + 1)), Value.int IntKind.i64 (stC (year + 1) - 1), .func (.func 108) #[] #[.pointer (some ⟨w2.heap.size, 0, none⟩), .pointer (some ⟨w2.heap.size + 1, 0, none⟩)], .int .i64 x.1, undef, undef, undef, undef, undef, undef, undef], defers := [] }) ?assign ?body ?done ?stop
    case assign =>
      intro l x W K hK
      gi_wp2
      exact hK
    case body =>
      rintro l pre x W ⟨⟨hc, hf⟩, hBp, hB2⟩ hlen
      have hl := cntL_len begM pre
      have hm := HMN.out
      have hwlt : w.heap.size < W.heap.size := by have := hB2.size; simp at this; omega
      have hW2 : w2.heap.size + 2 ≤ W.heap.size := by have := hB2.size; simpa using this
      cases hbm : begM x.1
      · gi_wp2_with (refine ⟨trivial, ?_⟩; gi_at_call 104; refine (CallsIn.inRound l (callsIn_wide.2 (mBegins_any x.1 _))).mono ?_; rintro e wn ⟨rfl, hbn⟩; rw [hbm])
        have hs := cntL_snoc begM pre x
        rw [hbm] at hs
        exact ⟨keeps_of_below hbn, KT.of_below hbn (by omega), ⟨by rw [hs]; exact ((keep_cell hbn hwlt hc).trans (by simp)), keep_fr hbn hwlt hf⟩, hBp.trans (hbn.mono (by omega)), hB2.trans (hbn.mono (Nat.zero_le _))⟩
      · gi_wp2_with (refine ⟨trivial, ?_⟩; gi_at_call 104; refine (CallsIn.inRound l (callsIn_wide.2 (mBegins_any x.1 _))).mono ?_; rintro e wn ⟨rfl, hbn⟩; rw [hbm]; have hcn := keep_cell hbn hwlt hc; have hfn := keep_fr hbn hwlt hf)
        have hs := cntL_snoc begM pre x
        rw [hbm] at hs
        exact ⟨(keeps_of_below hbn).trans (KeepsOthers.setCell _ _ _), (KT.of_below hbn (by omega)).trans (KT.set _ _ (by simp; omega)), ⟨by rw [hs]; exact World.cell?_setCell_same' _ _ _ (by rw [hcn]; rfl), by rw [World.frozen?_setCell]; exact hfn⟩, (hBp.trans (hbn.mono (by omega))).setCell (p := ⟨w.heap.size, 0, none⟩) (Nat.le_refl _) _, (hB2.trans (hbn.mono (Nat.zero_le _))).setCell (Nat.zero_le _) _⟩
    case done =>
      rintro D ys W hD rfl ⟨⟨hc, hf⟩, hBp, hB2⟩ hK
      gi_wp2
      refine ⟨by simp, .inl ⟨_, _, rfl, run_takeDeferred hK, ?_⟩⟩
      refine ⟨.tuple #[.int .i64 (monF year), .int .i64 0], by rw [monF, ← cntL_up _ _ _ hab _ (Nat.le_refl _)]; simp [results, Tryd.results52, go_sem], by rw [HP.out]; rfl, hBp.trans (belowK_b (w := w) (Nat.le_refl _) W D _ _ (by simp at hD; omega) hK rfl rfl)⟩
    case stop =>
      rintro D c pre W _ _ h _
      exact h.elim


/-- The first of the k days from a on that does so. -/
def fsB (f : Int → Bool) (a : Int) : Nat → Option Int
  | 0 => none
  | k + 1 => match fsB f a k with
    | some n => some n
    | none => if f (a + k) = true then some (a + k) else none
theorem fsB_none {f : Int → Bool} {a : Int} {k : Nat} (h : ∀ j : Nat, j < k → f (a + j) = false) : fsB f a k = none := by
  induction k with
  | zero => rfl
  | succ k ih => unfold fsB; rw [ih (fun j hj => h j (by omega)), h k (by omega)]; rfl
theorem fsB_hit {f : Int → Bool} {a : Int} {k : Nat} (h : ∀ j : Nat, j < k → f (a + j) = false) (hk : f (a + k) = true) : ∀ K : Nat, k < K → fsB f a K = some (a + k)
  | 0, hK => by omega
  | K + 1, hK => by
    unfold fsB
    rcases Nat.lt_or_ge k K with h1 | h1
    · rw [fsB_hit h hk K h1]
    · obtain rfl : K = k := by omega
      rw [fsB_none h]; simp [hk]
theorem fsB_some {f : Int → Bool} {a n : Int} : ∀ {k : Nat}, fsB f a k = some n → ∃ j : Nat, j < k ∧ n = a + j ∧ f n = true ∧ ∀ i : Nat, i < j → f (a + i) = false
  | 0, h => by simp [fsB] at h
  | k + 1, h => by
    unfold fsB at h
    cases hk : fsB f a k with
    | some m =>
      rw [hk] at h; simp at h; subst h
      obtain ⟨j, h1, h2⟩ := fsB_some hk
      exact ⟨j, by omega, h2⟩
    | none =>
      rw [hk] at h
      by_cases hf : f (a + k) = true
      · simp [hf] at h; subst h
        exact ⟨k, by omega, rfl, hf, fun i hi => fsB_all hk i hi⟩
      · simp [hf] at h
where
  fsB_all {f : Int → Bool} {a : Int} : ∀ {k : Nat}, fsB f a k = none → ∀ i : Nat, i < k → f (a + i) = false
  | 0, _, i, hi => by omega
  | k + 1, h, i, hi => by
    unfold fsB at h
    cases hk : fsB f a k with
    | some m => rw [hk] at h; simp at h
    | none =>
      rw [hk] at h
      have hfk : f (a + k) = false := by
        cases hf : f (a + k) with
        | false => rfl
        | true => simp [hf] at h
      rcases Nat.lt_or_ge i k with h1 | h1
      · exact fsB_all hk i h1
      · obtain rfl : i = k := by omega
        exact hfk

def bothB (n : Int) : Bool := begC n && begM n
def fsF (day : Int) : Option Int := fsB bothB day (dyN day 3500000)
def feE (day : Int) : Int := if wi day 0 3000000 = true then (if (fsF day).isSome = true then 0 else 4) else 1
def feN (day : Int) : Int := (fsF day).getD 0

theorem dyUp_none {a b : Int} (hab : a ≤ b) {f : Int → Bool} {k : Nat} (hk : k ≤ dyN a b) (h : ∀ y ∈ dyUp a b hab k, f y.1 = false) : ∀ j : Nat, j < k → f (a + j) = false := by
  intro j hj
  have := h (dyAt a b hab j) (List.mem_map.2 ⟨j, List.mem_range.2 hj, rfl⟩)
  rwa [dyAt_val a b hab j (by omega)] at this

set_option maxRecDepth 100000 in
set_option maxHeartbeats 4000000 in
theorem Feast_any (day : Int) (w : World) : Calls Tryd.prog 50 #[.int .i64 day] w fun e w' => e = .returned (.tuple #[.int .i64 (onOk (feE day) (feN day)), .int .i64 (feE day)]) ∧ Below w.heap.size w w' := by
  cases hy : wi day 0 3000000
  · have HP := Lib.hid (show feE day = 1 by unfold feE; rw [hy]; rfl)
    go_enter Tryd.func50, Tryd.ntmps50
    go_wp2_with fail
    refine (within_any _ _ _ _).mono ?_
    rintro e w1 ⟨rfl, rfl⟩
    rw [hy]
    go_wp2
    refine bodyPost_ret (v := .tuple #[.int .i64 0, .int .i64 1]) (by simp [results, Tryd.results50, go_sem]) rfl ?_
    rw [HP.out]
    exact ⟨rfl, by go_grown⟩
  · have HP := Lib.hid (show feE day = if (fsF day).isSome = true then 0 else 4 by unfold feE; rw [hy]; rfl)
    refine (callsIn_wide (n := 5)).1 ?_
    have hy1 := (wi_iff _ _ _).1 hy
    have hab : day ≤ 3500000 := by omega
    refine callsIn_of_wp_marks Tryd.func50 rfl trivial ?_ rfl
    simp only [Tryd.ntmps50, List.size_toArray, List.length_cons, List.length_nil, Nat.reduceAdd, Nat.reduceSub, Array.replicate_succ, Array.replicate_zero, List.push_toArray, List.append_toArray, List.nil_append, List.cons_append]
    gi_wp2_with (refine ⟨trivial, ?_⟩; gi_at_call 77; refine (callsIn_wide.2 (within_any _ _ _ _)).mono ?_; rintro e w1 ⟨rfl, rfl⟩; rw [hy])
    refine ⟨trivial, (callsIn_wide.2 (days_any _ _ _)).mono ?_⟩
    rintro e w3 ⟨rfl, rfl⟩
    gi_wp2_with fail
    obtain ⟨w2, hw2⟩ : ∃ w2, w2 = (w.alloc (.cells #[.int .i64 0] 3)).alloc (.cells #[.int .i64 0] 27) := ⟨_, rfl⟩
    rw [← hw2]
    have hsz : w2.heap.size = w.heap.size + 2 := by rw [hw2]; simp
    have rc0 : w2.cell? ⟨w.heap.size, 0, none⟩ = some (.int .i64 0) ∧ w2.frozen? ⟨w.heap.size, 0, none⟩ = false := by rw [hw2]; exact ⟨by simp [go_sem], by simp [go_sem]⟩
    have rc1 : w2.cell? ⟨w.heap.size + 1, 0, none⟩ = some (.int .i64 0) ∧ w2.frozen? ⟨w.heap.size + 1, 0, none⟩ = false := by rw [hw2]; exact ⟨by simp [go_sem], by simp [go_sem]⟩
    have hB : Below w.heap.size w w2 := by rw [hw2]; go_grown
    clear hw2
    have c1 := cell_new_l w2 (.int .i64 day) 3
    have c2 := cell_new_l (w2.alloc (.cells #[.int .i64 day] 3)) (.int .i64 3500000) 3
    rw [World.size_alloc] at c2
    have hB0 : Below w.heap.size w ((w2.alloc (.cells #[.int .i64 day] 3)).alloc (.cells #[.int .i64 3500000] 3)) := (hB.alloc (by omega) _).alloc (by simp; omega) _
    refine wpIn_rangeFunc_ownF rfl (by omega) (gf := 108) (lb := #[.pointer (some ⟨w2.heap.size, 0, none⟩), .pointer (some ⟨w2.heap.size + 1, 0, none⟩)]) (by simp [go_sem, hsz]) trivial (enters_of Tryd.func108 (by kernel_rfl) rfl)
      (days_stops 4 (by omega) w2.heap.size (w2.heap.size + 1) day 3500000 hab (by omega) (by omega) ((w2.alloc (.cells #[.int .i64 day] 3)).alloc (.cells #[.int .i64 3500000] 3)) (by simp; omega) (by simp) (cell_alloc_l _ c1.1) c2.1) KT.trans (KT_b (by simp)) (Below.refl _ _) (fun _ => rfl)
      (fun pre W => ((W.cell? ⟨w.heap.size, 0, none⟩ = some (.int .i64 0) ∧ W.frozen? ⟨w.heap.size, 0, none⟩ = false) ∧ (W.cell? ⟨w.heap.size + 1, 0, none⟩ = some (.int .i64 0) ∧ W.frozen? ⟨w.heap.size + 1, 0, none⟩ = false) ∧ ∀ y ∈ pre, bothB y.1 = false) ∧ Below w.heap.size w W ∧ Below 0 ((w2.alloc (.cells #[.int .i64 day] 3)).alloc (.cells #[.int .i64 3500000] 3)) W)
      (fun c pre W => (c = .ret ∧ W.cell? ⟨w.heap.size + 1, 0, none⟩ = some (.int .i64 0) ∧ ∃ (p0 : List (Dy day 3500000)) (x : Dy day 3500000), pre = p0 ++ [x] ∧ W.cell? ⟨w.heap.size, 0, none⟩ = some (.int .i64 x.1) ∧ bothB x.1 = true ∧ ∀ y ∈ p0, bothB y.1 = false) ∧ Below w.heap.size w W)
      (OwnFrom.and (Own.from (fun s A B row hs hg hr => ⟨⟨cell_kept hs.1.1 hg hr, (frozen_kept hs.1.1 hg hr).trans hs.1.2⟩, ⟨cell_kept hs.2.1.1 hg hr, (frozen_kept hs.2.1.1 hg hr).trans hs.2.1.2⟩, hs.2.2⟩) _) (OwnFrom.and (ownFrom_below (Nat.le_refl _) (by simp; omega)) (ownFrom_below (Nat.zero_le _) (Nat.zero_le _))))
      (fun c => OwnFrom.and (Own.from (fun s A B row hs hg hr => by
        obtain ⟨h1, h2, p0, x, h3, h4, h5⟩ := hs
        exact ⟨h1, cell_kept h2 hg hr, p0, x, h3, cell_kept h4 hg hr, h5⟩) _) (ownFrom_below (Nat.le_refl _) (by simp; omega)))
      ⟨⟨⟨cell_alloc_l _ (cell_alloc_l _ rc0.1), frozen_alloc_l _ (cell_alloc_l _ rc0.1) (frozen_alloc_l _ rc0.1 rc0.2)⟩, ⟨cell_alloc_l _ (cell_alloc_l _ rc1.1), frozen_alloc_l _ (cell_alloc_l _ rc1.1) (frozen_alloc_l _ rc1.1 rc1.2)⟩, by simp⟩, hB0, Below.refl _ _⟩
      (fun x => { tmps := #[.int .i64 day, undef, .pointer (some ⟨w.heap.size, 0, none⟩), .pointer (some ⟨w.heap.size + 1, 0, none⟩), .int .i64 x.1, .int .i64 day, .bool true, .bool false, .int .i64 day, .func (.func 108) #[] #[.pointer (some ⟨w2.heap.size, 0, none⟩), .pointer (some ⟨w2.heap.size + 1, 0, none⟩)], .int .i64 x.1, undef, undef, undef, undef, undef, undef, undef, undef, undef, undef, undef], defers := [] }) ?assign ?body ?done ?stop
    case assign =>
      intro l x W K hK
      gi_wp2
      simpa [hsz] using hK
    case body =>
      rintro l pre x W ⟨⟨⟨hc, hf⟩, ⟨hc1, hf1⟩, hall⟩, hBp, hB2⟩ hlen
      have hW2 : w.heap.size + 4 ≤ W.heap.size := by have := hB2.size; simp at this; omega
      have hW3 : w2.heap.size + 2 ≤ W.heap.size := by have := hB2.size; simpa using this
      cases hbm : begC x.1
      · have hbo : bothB x.1 = false := by unfold bothB; rw [hbm]; rfl
        gi_wp2_with fail
        refine ⟨trivial, (CallsIn.inRound l (callsIn_wide.2 (cBegins_any x.1 _))).mono ?_⟩
        rintro e wn ⟨rfl, hbn⟩
        rw [hbm]
        gi_wp2_with fail
        refine ⟨trivial, ?_⟩
        gi_wp2_with fail
        exact ⟨keeps_of_below hbn, KT.of_below hbn (by omega), ⟨⟨keep_cell hbn (by omega) hc, keep_fr hbn (by omega) hf⟩, ⟨keep_cell hbn (by omega) hc1, keep_fr hbn (by omega) hf1⟩, fun y hy => (List.mem_append.1 hy).elim (hall y) (fun e => by simp at e; subst e; exact hbo)⟩, hBp.trans (hbn.mono (by omega)), hB2.trans (hbn.mono (Nat.zero_le _))⟩
      · gi_wp2_with fail
        refine ⟨trivial, (CallsIn.inRound l (callsIn_wide.2 (cBegins_any x.1 _))).mono ?_⟩
        rintro e wn ⟨rfl, hbn⟩
        rw [hbm]
        gi_wp2_with fail
        refine ⟨trivial, (CallsIn.inRound l (callsIn_wide.2 (mBegins_any x.1 _))).mono ?_⟩
        rintro e wm ⟨rfl, hbm2⟩
        have hbj := bjoin hbn hbm2
        have hcn := keep_cell hbj (by omega) hc
        have hfn := keep_fr hbj (by omega) hf
        have hcn1 := keep_cell hbj (by omega) hc1
        have hfn1 := keep_fr hbj (by omega) hf1
        cases hbm' : begM x.1
        · have hbo : bothB x.1 = false := by unfold bothB; rw [hbm, hbm']; rfl
          gi_wp2_with fail
          exact ⟨keeps_of_below hbj, KT.of_below hbj (by omega), ⟨⟨hcn, hfn⟩, ⟨hcn1, hfn1⟩, fun y hy => (List.mem_append.1 hy).elim (hall y) (fun e => by simp at e; subst e; exact hbo)⟩, hBp.trans (hbj.mono (by omega)), hB2.trans (hbj.mono (Nat.zero_le _))⟩
        · have hbo : bothB x.1 = true := by unfold bothB; rw [hbm, hbm']; rfl
          gi_wp2_with fail
          refine ⟨((keeps_of_below hbj).trans (KeepsOthers.setCell _ _ _)).trans (KeepsOthers.setCell _ _ _), ⟨rfl, ?_, pre, x, rfl, ?_, hbo, hall⟩, ((hBp.trans (hbj.mono (by omega))).setCell (by simp) _).setCell (by simp) _⟩
          · exact World.cell?_setCell_same' _ _ _ (by simp [go_sem, hcn1])
          · simp [go_sem, hcn]
    case done =>
      rintro D ys W hD rfl ⟨⟨⟨hc, hf⟩, ⟨hc1, hf1⟩, hall⟩, hBp, hB2⟩ hK
      have hj := dyUp_none hab (Nat.le_refl _) hall
      have hfn : fsF day = none := fsB_none hj
      have hE4 : feE day = 4 := by rw [HP.out, hfn]; rfl
      gi_wp2
      have hK' := ((KeepsOthers.setCell W ⟨w.heap.size, 0, none⟩ (.int .i64 0)).trans (KeepsOthers.setCell _ ⟨w.heap.size + 1, 0, none⟩ (.int .i64 4))).same D _ hK rfl
      refine ⟨by simp, .inl ⟨_, _, rfl, run_takeDeferred hK', ?_⟩⟩
      have hc4 := cell_kept (v := .int .i64 4) (World.cell?_setCell_same' (W.setCell ⟨w.heap.size, 0, none⟩ (.int .i64 0)) ⟨w.heap.size + 1, 0, none⟩ (.int .i64 4) (by simp [go_sem, hc1])) (grownBy_putObj' _ D (.deferred none)) (fun r e => by cases e; exact ⟨_, hK', rfl⟩)
      have hc0 := cell_kept (a := ⟨w.heap.size, 0, none⟩) (v := .int .i64 0) (W := (W.setCell ⟨w.heap.size, 0, none⟩ (.int .i64 0)).setCell ⟨w.heap.size + 1, 0, none⟩ (.int .i64 4)) (by simp [go_sem, hc]) (grownBy_putObj' _ D (.deferred none)) (fun r e => by cases e; exact ⟨_, hK', rfl⟩)
      refine ⟨.tuple #[.int .i64 0, .int .i64 4], by simp [results, Tryd.results50, go_sem, hc4, hc0], by rw [hE4]; rfl, ((hBp.setCell (by simp) _).setCell (by simp) _).trans (belowK_b (w := w) (Nat.le_refl _) _ D _ _ (by simp at hD; omega) hK' rfl rfl)⟩
    case stop =>
      rintro D c pre W hD ⟨k, hk, hpk⟩ ⟨⟨rfl, hc1, p0, x, hp, hc, hx, hall⟩, hBp⟩ hK
      rw [dyUp_succ] at hpk
      obtain ⟨h1, h2⟩ := List.append_inj' (hp.symm.trans hpk) rfl
      subst h1
      have hxv : x.1 = day + (k : Int) := by
        simp at h2; rw [h2]; exact dyAt_val _ _ hab k hk
      have hj := dyUp_none hab (by omega) hall
      have hfs : fsF day = some x.1 := by rw [hxv]; exact fsB_hit hj (by rw [← hxv]; exact hx) _ hk
      have hE0 : feE day = 0 := by rw [HP.out, hfs]; rfl
      have hEN : feN day = x.1 := by unfold feN; rw [hfs]; rfl
      gi_wp2
      refine ⟨by simp, .inl ⟨_, _, rfl, run_takeDeferred hK, ?_⟩⟩
      have hc4 := cell_kept hc1 (grownBy_putObj' _ D (.deferred none)) (fun r e => by cases e; exact ⟨_, hK, rfl⟩)
      have hc0 := cell_kept hc (grownBy_putObj' _ D (.deferred none)) (fun r e => by cases e; exact ⟨_, hK, rfl⟩)
      refine ⟨.tuple #[.int .i64 x.1, .int .i64 0], by simp [results, Tryd.results50, go_sem, hc4, hc0], by rw [hE0, hEN]; rfl, hBp.trans (belowK_b (w := w) (Nat.le_refl _) _ D _ _ (by simp at hD; omega) hK rfl rfl)⟩

end Go.Proofs.YtomlfliebolkmaaDoor
