/-
  Months and Feast of the reference, by contract. No condition beyond what each states.
-/
import Derived.Test.YtomlfliebolkmaaDoorCF
import Derived.Test.YtomlfliebolkmaaDoorKb
set_option linter.unusedVariables false
set_option linter.unusedSimpArgs false
namespace Go.Proofs.YtomlfliebolkmaaDoor
open Go Go.Proofs Go.RowKit Pl

theorem rMarket_yes (day : Int) (w : World) (h : 0 ≤ day ∧ day ≤ 3543311) : Calls Tryd.prog 47 #[.int .i64 day] w fun e w' => e = .returned (.tuple #[.agg #[.int .i64 (yrM day), .int .i64 (moM day), .int .i64 (daM day)], .int .i64 0]) ∧ Below w.heap.size w w' := by
  have c := rMarket_any day w
  rw [dayE_yes h] at c
  simpa only [onOk_ok] using c
theorem rCourt_yes (day : Int) (w : World) (h : 0 ≤ day ∧ day ≤ 3652055) : Calls Tryd.prog 44 #[.int .i64 day] w fun e w' => e = .returned (.tuple #[.agg #[.int .i64 (yrC day), .int .i64 (moC day), .int .i64 (daC day)], .int .i64 0]) ∧ Below w.heap.size w w' := by
  have c := rCourt_any day w
  rw [dayE_yes h] at c
  simpa only [onOk_ok] using c
theorem begM_in {day : Int} (h : 0 ≤ day ∧ day ≤ 3543311) : begM day = decide (daM day = 1) := by unfold begM; rw [dayE_yes h]; rfl
theorem begC_in {day : Int} (h : 0 ≤ day ∧ day ≤ 3652055) : begC day = decide (daC day = 1) := by unfold begC; rw [dayE_yes h]; rfl
theorem yrE_yes {y : Int} (h : 1 ≤ y ∧ y ≤ 9000) : yrE y = 0 := by unfold yrE; rw [wi_mk h]; rfl
theorem yrE_no {y : Int} (h : ¬ (1 ≤ y ∧ y ≤ 9000)) : yrE y = 1 := by unfold yrE; rw [wi_no h]; rfl

set_option maxRecDepth 100000 in
set_option maxHeartbeats 8000000 in
theorem rMonths_any (year : Int) (w : World) : Calls Tryd.prog 53 #[.int .i64 year] w fun e w' => e = .returned (.tuple #[.int .i64 (onOk (yrE year) (monF year)), .int .i64 (yrE year)]) ∧ Below w.heap.size w w' := by
  by_cases h : 1 ≤ year ∧ year ≤ 9000
  · have HE := Lib.hid (yrE_yes h)
    have hwi : wi year 1 9000 = true := wi_mk h
    have hs := stC_step year
    have hl := lpC_step year
    have h0 : 0 ≤ stC year := by have := stC_mono h.1; rw [stC_one] at this; omega
    have hb : stC year ≤ 3300000 := by have := h.2; unfold stC lpC; omega
    have HM := Lib.hid (show monF year = cntB begM (stC year) (dyN (stC year) (stC (year + 1) - 1)) from rfl)
    have hlen : ((dyN (stC year) (stC (year + 1) - 1) : Nat) : Int) = stC (year + 1) - stC year := by unfold dyN; omega
    have hlen2 : dyN (stC year) (stC (year + 1) - 1) ≤ 366 := by omega
    have hs2 : stC year + 365 ≤ stC (year + 1) ∧ stC (year + 1) ≤ stC year + 366 := by omega
    have hlen3 : ((dyN (stC year) (stC (year + 1) - 1) : Nat) : Int) ≤ stC (year + 1) - stC year ∧ stC (year + 1) - stC year ≤ ((dyN (stC year) (stC (year + 1) - 1) : Nat) : Int) := by omega
    clear hl hs hlen
    generalize hT : stC (year + 1) = T at *
    generalize hA : stC year = A at *
    generalize dyN A (T - 1) = n at *
    go_enter Tryd.func53, Tryd.ntmps53
    go_wp2_with (first | (go_at_call 79; refine (rwithin_any _ _ _ _).mono ?_; rintro e w1 ⟨rfl, rfl⟩) | (go_at_call 98; refine (rCYear_any _ _ (by omega)).mono ?_; rintro e w1 ⟨rfl, rfl⟩))
    go_loopw [4, 5] (fun vn vk wr => ∃ k : Nat, k ≤ n ∧ vk = .int .i64 (A + (k : Int)) ∧ vn = .int .i64 (cntB begM A k) ∧ Below w.heap.size w wr) (fun _ vk _ => (A + 1000 - intOf vk).toNat)
    case atStart => exact ⟨0, by omega, by go_num, rfl, Below.refl _ _⟩
    case round =>
      obtain ⟨k, hk, rfl, rfl, hbr⟩ := hrel
      have HB := Lib.hid hbr; clear hbr
      have hc := cntB_bd begM A k
      by_cases hlt : k < n
      · have hin : 0 ≤ A + (k : Int) ∧ A + (k : Int) ≤ 3543311 := by omega
        have hbm := begM_in hin
        by_cases hd : daM (A + (k : Int)) = 1
        · have HS := Lib.hid (show cntB begM A (k + 1) = cntB begM A k + 1 by rw [cntB, hbm, decide_eq_true hd, if_pos rfl])
          have HY := Lib.hid (fun W => rMarket_yes (A + (k : Int)) W hin)
          clear hbm
          go_wp2_with (first | (go_at_call 98; refine (rCYear_any _ _ (by omega)).mono ?_; rintro e w1 ⟨rfl, rfl⟩) | (go_at_call 47; refine (HY.out _).mono ?_; rintro e w1 ⟨rfl, hb1⟩; have HB1 := Lib.hid (bjoin HB.out hb1); clear hb1))
          go_roundw
          case rel => exact ⟨k + 1, by omega, by go_num, by rw [HS.out], by have hb' := HB1.out; have := hb'.size; go_grown⟩
          case measure => simp [intOf]; omega
        · have HS := Lib.hid (show cntB begM A (k + 1) = cntB begM A k by rw [cntB, hbm, decide_eq_false hd, if_neg (by decide), Int.add_zero])
          have HY := Lib.hid (fun W => rMarket_yes (A + (k : Int)) W hin)
          clear hbm
          go_wp2_with (first | (go_at_call 98; refine (rCYear_any _ _ (by omega)).mono ?_; rintro e w1 ⟨rfl, rfl⟩) | (go_at_call 47; refine (HY.out _).mono ?_; rintro e w1 ⟨rfl, hb1⟩; have HB1 := Lib.hid (bjoin HB.out hb1); clear hb1))
          go_roundw
          case rel => exact ⟨k + 1, by omega, by go_num, by rw [HS.out], by have hb' := HB1.out; have := hb'.size; go_grown⟩
          case measure => simp [intOf]; omega
      · obtain rfl : k = n := by omega
        go_wp2_with (go_at_call 98; refine (rCYear_any _ _ (by omega)).mono ?_; rintro e w1 ⟨rfl, rfl⟩)
        go_ret2
        exact ⟨by rw [HE.out, onOk_ok, HM.out]; first | done | rfl, HB.out⟩
  · have HE := Lib.hid (yrE_no h)
    have hwi : wi year 1 9000 = false := wi_no h
    go_enter Tryd.func53, Tryd.ntmps53
    go_wp2_with (go_at_call 79; refine (rwithin_any _ _ _ _).mono ?_; rintro e w1 ⟨rfl, rfl⟩)
    go_ret2
    exact ⟨by rw [HE.out]; rfl, Below.refl _ _⟩


/-- No day between begins a month in both calendars. -/
def FeNo (day n : Int) : Prop := ∀ x : Int, day ≤ x → x < n → bothB x = false
theorem feNo_self (day : Int) : FeNo day day := fun x a b => by omega
theorem bothB_M {x : Int} (h : 0 ≤ x ∧ x ≤ 3543311) (k : daM x ≠ 1) : bothB x = false := by unfold bothB; rw [begM_in h, decide_eq_false k, Bool.and_false]
theorem bothB_C {x : Int} (h : 0 ≤ x ∧ x ≤ 3652055) (k : daC x ≠ 1) : bothB x = false := by unfold bothB; rw [begC_in h, decide_eq_false k, Bool.false_and]
/-- From a day on to the next first day of a month of the market. -/
theorem feNo_next {day n : Int} (h0 : 0 ≤ n) (hn : n ≤ 3500000) (hf : FeNo day n) (hb : bothB n = false) :
    FeNo day (n + (mlM (yrM n) (moM n) - daM n + 1)) ∧ daM (n + (mlM (yrM n) (moM n) - daM n + 1)) = 1 ∧ n + 1 ≤ n + (mlM (yrM n) (moM n) - daM n + 1) ∧ n + (mlM (yrM n) (moM n) - daM n + 1) ≤ n + 30 := by
  have hd := daM_bd h0 (show n < 3543312 by omega)
  refine ⟨fun x a b => ?_, (beginM h0 (by omega) (by omega)).1, by omega, by omega⟩
  rcases Int.lt_trichotomy x n with e | e | e
  · exact hf x a e
  · rw [e]; exact hb
  · have hi := inM h0 (show n < 3543312 by omega) (show n ≤ x by omega) (by omega)
    exact bothB_M (by omega) (by omega)
theorem fe_found {day n : Int} (h0 : 0 ≤ day) (hd : day ≤ n) (hn : n ≤ 3500000) (hf : FeNo day n) (hb : bothB n = true) (hw : day ≤ 3000000) : feE day = 0 ∧ feN day = n := by
  obtain ⟨k, rfl⟩ : ∃ k : Nat, n = day + (k : Int) := ⟨(n - day).toNat, by omega⟩
  have h := fsB_hit (f := bothB) (a := day) (k := k) (fun j hj => hf _ (by omega) (by omega)) hb (dyN day 3500000) (by unfold dyN; omega)
  unfold feE feN fsF
  rw [h, wi_mk ⟨h0, hw⟩]
  exact ⟨rfl, rfl⟩
theorem fe_none {day n : Int} (h0 : 0 ≤ day) (hn : 3500000 < n) (hf : FeNo day n) (hw : day ≤ 3000000) : feE day = 4 := by
  have h := fsB_none (f := bothB) (a := day) (k := dyN day 3500000) (fun j hj => hf _ (by omega) (by unfold dyN at hj; omega))
  unfold feE fsF
  rw [h, wi_mk ⟨h0, hw⟩]
  rfl
theorem feE_no {day : Int} (h : ¬ (0 ≤ day ∧ day ≤ 3000000)) : feE day = 1 := by unfold feE; rw [wi_no h]; rfl
theorem mm_in {n : Int} (h0 : 0 ≤ n) (h : n < 3543312) : mmF (yrM n) (moM n) = mlM (yrM n) (moM n) := by
  obtain ⟨a, b, c, d, _⟩ := isM n h0 h
  unfold mmF; rw [wi_mk ⟨a, b⟩, wi_mk ⟨c, d⟩]; rfl

/-- A date's box of one's own. -/
structure DX (w wr : World) (B : Nat) (y m d : Int) : Prop where
  y0 : wr.cell? ⟨B, 0, none⟩ = some (.int .i64 y)
  m0 : wr.cell? ⟨B, 1, none⟩ = some (.int .i64 m)
  d0 : wr.cell? ⟨B, 2, none⟩ = some (.int .i64 d)
  fy : wr.frozen? ⟨B, 0, none⟩ = false
  fm : wr.frozen? ⟨B, 1, none⟩ = false
  fd : wr.frozen? ⟨B, 2, none⟩ = false
  lt : B < wr.heap.size
  lo : w.heap.size ≤ B
  hb : Below w.heap.size w wr
theorem DX.on {w wr w1 : World} {B : Nat} {y m d : Int} (h : DX w wr B y m d) (hb : Below wr.heap.size wr w1) : DX w w1 B y m d :=
  ⟨keep_cell hb h.lt h.y0, keep_cell hb h.lt h.m0, keep_cell hb h.lt h.d0, keep_fr hb h.lt h.fy, keep_fr hb h.lt h.fm, keep_fr hb h.lt h.fd, keep_lt hb h.lt, h.lo, bjoin h.hb hb⟩
theorem DX.put {w wr : World} {B : Nat} {y m d : Int} (h : DX w wr B y m d) (a b c : Int) : DX w (((wr.setCell ⟨B, 0, none⟩ (.int .i64 a)).setCell ⟨B, 1, none⟩ (.int .i64 b)).setCell ⟨B, 2, none⟩ (.int .i64 c)) B a b c := by
  refine ⟨?_, ?_, ?_, ?_, ?_, ?_, ?_, h.lo, ?_⟩
  · rw [cell_set_ne _ (by omega), cell_set_ne _ (by omega), World.cell?_setCell_same' _ _ _ (by rw [h.y0]; rfl)]
  · rw [cell_set_ne _ (by omega), World.cell?_setCell_same' _ _ _ (by rw [cell_set_ne _ (by omega), h.m0]; rfl)]
  · rw [World.cell?_setCell_same' _ _ _ (by rw [cell_set_ne _ (by omega), cell_set_ne _ (by omega), h.d0]; rfl)]
  · rw [World.frozen?_setCell, World.frozen?_setCell, World.frozen?_setCell]; exact h.fy
  · rw [World.frozen?_setCell, World.frozen?_setCell, World.frozen?_setCell]; exact h.fm
  · rw [World.frozen?_setCell, World.frozen?_setCell, World.frozen?_setCell]; exact h.fd
  · rw [World.size_setCell, World.size_setCell, World.size_setCell]; exact h.lt
  · exact ((h.hb.setCell (p := ⟨B, 0, none⟩) h.lo _).setCell (p := ⟨B, 1, none⟩) h.lo _).setCell (p := ⟨B, 2, none⟩) h.lo _
theorem DX.new {w w1 : World} (a b c : Int) (t : TypeId) (hb : Below w.heap.size w w1) : DX w (w1.alloc (.cells #[.int .i64 a, .int .i64 b, .int .i64 c] t)) w1.heap.size a b c :=
  ⟨by simp [go_sem], by simp [go_sem], by simp [go_sem], by simp [go_sem], by simp [go_sem], by simp [go_sem], by simp, hb.size, hb.alloc hb.size _⟩
theorem DX.drewN {w wr : World} {B : Nat} {y m d : Int} (h : DX w wr B y m d) (n : Nat) : DX w (wr.drewN n) B y m d := h.on (below_drewN (Below.refl _ _) n)

set_option maxRecDepth 100000 in
set_option maxHeartbeats 16000000 in
theorem rFeast_any (day : Int) (w : World) : Calls Tryd.prog 51 #[.int .i64 day] w fun e w' => e = .returned (.tuple #[.int .i64 (onOk (feE day) (feN day)), .int .i64 (feE day)]) ∧ Below w.heap.size w w' := by
  by_cases h : 0 ≤ day ∧ day ≤ 3000000
  · have hwi : wi day 0 3000000 = true := wi_mk h
    have HH := Lib.hid h
    have HY := Lib.hid (fun (n : Int) (W : World) (k : 0 ≤ n ∧ n ≤ 3543311) => rMarket_yes n W k)
    have hd := daM_bd h.1 (show day < 3543312 by omega)
    have hmm := mm_in h.1 (show day < 3543312 by omega)
    have HNX := Lib.hid (fun hb => feNo_next (day := day) (n := day) h.1 (by omega) (feNo_self day) hb)
    obtain ⟨h0, h1⟩ := h
    go_enter Tryd.func51, Tryd.ntmps51
    go_wp2_with (go_at_call 79; refine (rwithin_any _ _ _ _).mono ?_; rintro e w1 ⟨rfl, rfl⟩)
    refine (HY.out day _ (by omega)).mono ?_
    rintro e w1 ⟨rfl, hb1⟩
    have HB1 := Lib.hid hb1; clear hb1
    have HMM := Lib.hid (show 29 ≤ mmF (yrM day) (moM day) ∧ mmF (yrM day) (moM day) ≤ 30 by rw [hmm]; exact hd.2.2)
    have HNZ := Lib.hid (show ¬ daM day = 1 → FeNo day (day + (mmF (yrM day) (moM day) - daM day + 1)) ∧ daM (day + (mmF (yrM day) (moM day) - daM day + 1)) = 1 by
      intro k; rw [hmm]; have := HNX.out (bothB_M (by omega) k); exact ⟨this.1, this.2.1⟩)
    have hle : daM day ≤ mmF (yrM day) (moM day) := by rw [hmm]; exact hd.2.1
    have hmb := HMM.out
    have hd1 := hd.1
    clear hmm hd HNX
    by_cases hk : 1 < daM day
    · have HK := Lib.hid (HNZ.out (by omega)); clear HNZ
      have HD0 := Lib.hid (DX.new (yrM day) (moM day) (daM day) 50 HB1.out)
      go_wp2
      have s1 := IntWalk.i64_in (mmF (yrM day) (moM day) - daM day) (by omega)
      have s2 := IntWalk.i64_in (mmF (yrM day) (moM day) - daM day + 1) (by omega)
      have s3 := IntWalk.i64_in (day + (mmF (yrM day) (moM day) - daM day + 1)) (by omega)
      go_quiet ((go_at_call 103; first | exact quiet_one (rMMonth_any _ _ _) | exact quiet_add (rMMonth_any _ _ _)))
      clear s1 s2 s3
      go_wp2
      go_loopw [6] (fun vn wr => ∃ n y m d : Int, vn = .int .i64 n ∧ day ≤ n ∧ n ≤ 3500030 ∧ FeNo day n ∧ daM n = 1 ∧ DX w wr w1.heap.size y m d) (fun vn _ => (3600000 - intOf vn).toNat)
      case atStart => exact ⟨day + (mmF (yrM day) (moM day) - daM day + 1), yrM day, moM day, daM day, rfl, by omega, by omega, HK.out.1, HK.out.2, by (repeat refine DX.drewN ?_ _); exact HD0.out⟩
      case round =>
        obtain ⟨n, y, m, d, rfl, n0, n1, hf, hda, hx⟩ := hrel
        have HF := Lib.hid hf; have HX := Lib.hid hx; have HDA := Lib.hid hda; clear hf hx hda
        by_cases hlt : n ≤ 3500000
        · by_cases hc : daC n = 1
          · have HE := Lib.hid (fe_found h0 n0 hlt HF.out (by unfold bothB; rw [begC_in (by omega), begM_in (by omega), decide_eq_true hc, decide_eq_true HDA.out]; rfl) h1)
            go_wp2_with (go_at_call 44; refine (rCourt_yes n _ (by omega)).mono ?_; rintro e w2 ⟨rfl, hb2⟩; have HB2 := Lib.hid (bjoin HX.out.hb hb2); clear hb2)
            go_ret2
            exact ⟨by rw [HE.out.1, HE.out.2]; rfl, by have hb' := HB2.out; have := hb'.size; go_grown⟩
          · have HNX := Lib.hid (feNo_next (day := day) (n := n) (by omega) hlt HF.out (bothB_C (by omega) hc))
            have hmm := mm_in (n := n) (by omega) (by omega)
            rw [← hmm] at HNX
            have HQ := HNX.out
            rw [HDA.out] at HQ
            have HR := Lib.hid HQ; clear HQ HNX hmm
            have hmb : n + 1 ≤ n + mmF (yrM n) (moM n) ∧ n + mmF (yrM n) (moM n) ≤ n + 30 := by have := HR.out.2.2; omega
            go_wp2_with (go_at_call 44; refine (rCourt_yes n _ (by omega)).mono ?_; rintro e w2 ⟨rfl, hb2⟩; have HX2 := Lib.hid (HX.out.on hb2); clear hb2)
            refine (HY.out n _ (by omega)).mono ?_
            rintro e w3 ⟨rfl, hb3⟩
            have hx3 := HX2.out.on (bjoin (w := w2) (by go_grown) hb3)
            have c0 := hx3.y0; have c1 := hx3.m0; have c2 := hx3.d0; have f0 := hx3.fy; have f1 := hx3.fm; have f2 := hx3.fd; have hl3 := hx3.lt
            have HX3 := Lib.hid hx3; clear hx3 hb3
            have hx4 := HX3.out.put (yrM n) (moM n) (daM n)
            have HX4 := Lib.hid hx4
            have c0' := hx4.y0; have c1' := hx4.m0; have c2' := hx4.d0
            clear hx4
            go_wp2_with (go_at_call 103; refine (rMMonth_any _ _ _).mono ?_; rintro e w4 ⟨rfl, rfl⟩)
            go_roundw
            case rel => exact ⟨n + mmF (yrM n) (moM n), yrM n, moM n, daM n, by first | rfl | go_num, by omega, by omega, by have := HR.out.1; rwa [show n + (mmF (yrM n) (moM n) - 1 + 1) = n + mmF (yrM n) (moM n) by omega] at this, by have := HR.out.2.1; rwa [show n + (mmF (yrM n) (moM n) - 1 + 1) = n + mmF (yrM n) (moM n) by omega] at this, HX4.out⟩
            case measure => simp [intOf]; omega
        · have HE := Lib.hid (fe_none h0 (show 3500000 < n by omega) HF.out h1)
          go_wp2
          go_ret2
          exact ⟨by rw [HE.out]; rfl, HX.out.hb⟩
    · have HK := Lib.hid (show FeNo day day ∧ daM day = 1 from ⟨feNo_self day, by omega⟩); clear HNZ
      have HD0 := Lib.hid (DX.new (yrM day) (moM day) (daM day) 50 HB1.out)
      go_wp2
      go_loopw [6] (fun vn wr => ∃ n y m d : Int, vn = .int .i64 n ∧ day ≤ n ∧ n ≤ 3500030 ∧ FeNo day n ∧ daM n = 1 ∧ DX w wr w1.heap.size y m d) (fun vn _ => (3600000 - intOf vn).toNat)
      case atStart => exact ⟨day, yrM day, moM day, daM day, rfl, by omega, by omega, HK.out.1, HK.out.2, HD0.out⟩
      case round =>
        obtain ⟨n, y, m, d, rfl, n0, n1, hf, hda, hx⟩ := hrel
        have HF := Lib.hid hf; have HX := Lib.hid hx; have HDA := Lib.hid hda; clear hf hx hda
        by_cases hlt : n ≤ 3500000
        · by_cases hc : daC n = 1
          · have HE := Lib.hid (fe_found h0 n0 hlt HF.out (by unfold bothB; rw [begC_in (by omega), begM_in (by omega), decide_eq_true hc, decide_eq_true HDA.out]; rfl) h1)
            go_wp2_with (go_at_call 44; refine (rCourt_yes n _ (by omega)).mono ?_; rintro e w2 ⟨rfl, hb2⟩; have HB2 := Lib.hid (bjoin HX.out.hb hb2); clear hb2)
            go_ret2
            exact ⟨by rw [HE.out.1, HE.out.2]; rfl, by have hb' := HB2.out; have := hb'.size; go_grown⟩
          · have HNX := Lib.hid (feNo_next (day := day) (n := n) (by omega) hlt HF.out (bothB_C (by omega) hc))
            have hmm := mm_in (n := n) (by omega) (by omega)
            rw [← hmm] at HNX
            have HQ := HNX.out
            rw [HDA.out] at HQ
            have HR := Lib.hid HQ; clear HQ HNX hmm
            have hmb : n + 1 ≤ n + mmF (yrM n) (moM n) ∧ n + mmF (yrM n) (moM n) ≤ n + 30 := by have := HR.out.2.2; omega
            go_wp2_with (go_at_call 44; refine (rCourt_yes n _ (by omega)).mono ?_; rintro e w2 ⟨rfl, hb2⟩; have HX2 := Lib.hid (HX.out.on hb2); clear hb2)
            refine (HY.out n _ (by omega)).mono ?_
            rintro e w3 ⟨rfl, hb3⟩
            have hx3 := HX2.out.on (bjoin (w := w2) (by go_grown) hb3)
            have c0 := hx3.y0; have c1 := hx3.m0; have c2 := hx3.d0; have f0 := hx3.fy; have f1 := hx3.fm; have f2 := hx3.fd; have hl3 := hx3.lt
            have HX3 := Lib.hid hx3; clear hx3 hb3
            have hx4 := HX3.out.put (yrM n) (moM n) (daM n)
            have HX4 := Lib.hid hx4
            have c0' := hx4.y0; have c1' := hx4.m0; have c2' := hx4.d0
            clear hx4
            go_wp2_with (go_at_call 103; refine (rMMonth_any _ _ _).mono ?_; rintro e w4 ⟨rfl, rfl⟩)
            go_roundw
            case rel => exact ⟨n + mmF (yrM n) (moM n), yrM n, moM n, daM n, by first | rfl | go_num, by omega, by omega, by have := HR.out.1; rwa [show n + (mmF (yrM n) (moM n) - 1 + 1) = n + mmF (yrM n) (moM n) by omega] at this, by have := HR.out.2.1; rwa [show n + (mmF (yrM n) (moM n) - 1 + 1) = n + mmF (yrM n) (moM n) by omega] at this, HX4.out⟩
            case measure => simp [intOf]; omega
        · have HE := Lib.hid (fe_none h0 (show 3500000 < n by omega) HF.out h1)
          go_wp2
          go_ret2
          exact ⟨by rw [HE.out]; rfl, HX.out.hb⟩
  · have HE := Lib.hid (feE_no h)
    have hwi : wi day 0 3000000 = false := wi_no h
    go_enter Tryd.func51, Tryd.ntmps51
    go_wp2_with (go_at_call 79; refine (rwithin_any _ _ _ _).mono ?_; rintro e w1 ⟨rfl, rfl⟩)
    go_ret2
    exact ⟨by rw [HE.out]; rfl, Below.refl _ _⟩

end Go.Proofs.YtomlfliebolkmaaDoor
