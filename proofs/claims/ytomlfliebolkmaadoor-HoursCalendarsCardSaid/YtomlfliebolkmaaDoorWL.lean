/-
  Told in the reference; Longest in the reference. No condition beyond what each states.
-/
import Derived.Test.YtomlfliebolkmaaDoorWK
set_option linter.unusedVariables false
set_option linter.unusedSimpArgs false
namespace Go.Proofs.YtomlfliebolkmaaDoor
open Go Go.Proofs Go.RowKit Pl

/-- The last of the first k hours that have begun, PP the last of all. -/
def lastTold (k : Nat) (PP : Int) : Int := max 0 (min ((k : Int) - 1) PP)

theorem Mo_at (L : Int) (D R S : List Int) (d k : Int) (hk : 0 ≤ k ∧ k < 1440) : momF L D R S d (decide (720 ≤ k)) (60 * (k / 60 % 12) + k % 60) = Mo L D R S (d * 1440 + k) := by
  have h1 : (d * 1440 + k) / 1440 = d := by omega
  have h2 : (720 ≤ (d * 1440 + k) % 1440) = (720 ≤ k) := by apply propext; omega
  have h3 : (d * 1440 + k) % 720 = 60 * (k / 60 % 12) + k % 60 := by omega
  unfold Mo; rw [h1, h3]; simp only [h2]
theorem told_mq {L : Int} {D R S : List Int} (hok : Ok L D R S) {m : Int} (d : Int) (h1 : toldN L D R S m / 1440 = d) (k : Nat) (hk : k < 1440) :
    momF L D R S d (decide (720 ≤ (k : Int))) (60 * ((k : Int) / 60 % 12) + (k : Int) % 60) ≤ m * 720 ↔ (k : Int) ≤ toldN L D R S m % 1440 := by
  rw [Mo_at L D R S d k (by omega), told_iff hok]; omega
theorem mom_zero (L : Int) (D R S : List Int) (d : Int) : momF L D R S d false (60 * 0 + 0) = begF L D R S d false * 720 := by unfold momF; simp

set_option maxRecDepth 100000 in
set_option maxHeartbeats 4000000 in
theorem rTold_any {L : Int} {n1 n2 n3 c1 c2 c3 : Nat} {a1 a2 a3 : Option Addr} {D R S : List Int} (m : Int) (w : World) (hs : SeaO w a1 n1 a2 n2 a3 n3 D R S) :
   Calls Tryd.prog 63 #[.agg #[.int .i64 L, .slice a1 n1 c1, .slice a2 n2 c2, .slice a3 n3 c3], .int .i64 m] w
     fun e w' => e = .returned (.tuple #[.int .i64 (onOk (toldE L D R S m) (toldN L D R S m / 1440)), .agg #[.bool (onB (toldE L D R S m) (decide (720 ≤ toldN L D R S m % 1440))), .int .i64 (onOk (toldE L D R S m) (toldN L D R S m % 1440 / 60 % 12)), .int .i64 (onOk (toldE L D R S m) (toldN L D R S m % 60))], .int .i64 (toldE L D R S m)]) ∧ Below w.heap.size w w' := by
  by_cases hok : Ok L D R S
  · have hck := ck_yes hok
    cases hwi : wi m 0 15840000
    · have HP := Lib.hid (toldE_arg hok hwi)
      have HS := Lib.hid hs; clear hs hok
      go_enter Tryd.func63, Tryd.ntmps63
      go_wp2_with fail
      refine (rcheck_any _ (HS.out.to (by go_grown)).D (HS.out.to (by go_grown)).R (HS.out.to (by go_grown)).S HS.out.d HS.out.r HS.out.s).mono ?_
      rintro e w1 ⟨rfl, hb1⟩
      obtain ⟨hc, hf⟩ := bcell hb1
      have HB := Lib.hid (bjoin (w := w) (by go_grown) hb1)
      have HC := Lib.hid hb1; clear hb1
      have rc0 := keep_cell (b := w.heap.size + 1) (o := 0) (v := .bool false) HC.out (by simp <;> omega) (by simp [go_sem])
      have rf0 := keep_fr (b := w.heap.size + 1) (o := 0) HC.out (by simp <;> omega) (by simp [go_sem])
      have rc1 := keep_cell (b := w.heap.size + 1) (o := 1) (v := .int .i64 0) HC.out (by simp <;> omega) (by simp [go_sem])
      have rf1 := keep_fr (b := w.heap.size + 1) (o := 1) HC.out (by simp <;> omega) (by simp [go_sem])
      have rc2 := keep_cell (b := w.heap.size + 1) (o := 2) (v := .int .i64 0) HC.out (by simp <;> omega) (by simp [go_sem])
      have rf2 := keep_fr (b := w.heap.size + 1) (o := 2) HC.out (by simp <;> omega) (by simp [go_sem])
      have rl := keep_lt (b := w.heap.size + 1) HC.out (by simp)
      go_wp2_with (go_at_call 79; refine (rwithin_any _ _ _ _).mono ?_; rintro e w2 ⟨rfl, rfl⟩)
      refine bodyPost_ret (v := .tuple #[.int .i64 (0), .agg #[.bool (false), .int .i64 (0), .int .i64 (0)], .int .i64 (1)]) (by simp [results, Tryd.results63, go_sem, rc0, rc1, rc2]) rfl ?_
      exact ⟨ret_later_no HP.out (by decide), (((HB.out).setCell (p := ⟨w.heap.size + 1, 0, none⟩) (by simp; try omega) _).setCell (p := ⟨w.heap.size + 1, 1, none⟩) (by simp; try omega) _).setCell (p := ⟨w.heap.size + 1, 2, none⟩) (by simp; try omega) _⟩
    · have hm := (wi_iff _ _ _).1 hwi
      obtain ⟨b1, o1, b2, o2, b3, o3, rfl, rfl, rfl, rfl, rfl, hsea⟩ := hs.sea hok
      have HS := Lib.hid hs; have HE := Lib.hid hsea; have HO := Lib.hid hok; clear hs hsea hok
      have hr0 := HO.out.rise (m / 1440); have hs0 := HO.out.set (m / 1440)
      have hRI1 : begF L D R S (m / 1440) false = m / 1440 * 1440 + riseF L D R (m / 1440) := by simp [begF]
      have hRI : 0 ≤ begF L D R S (m / 1440) false ∧ begF L D R S (m / 1440) false ≤ 20000000 := by omega
      clear hRI1 hr0 hs0
      by_cases hlt : m < begF L D R S (m / 1440) false
      · obtain ⟨hd, hbb⟩ := toldD_lt (S := S) hlt
        obtain ⟨x1, x2, p1, p2, t1, t2, t3⟩ := told_made HO.out hd hbb
        clear hbb x1 x2
        by_cases hneg : m / 1440 - 1 < 0
        · have HP := Lib.hid (toldE_none HO.out hwi (by omega))
          clear p1 p2 t1 t2 t3
          go_enter Tryd.func63, Tryd.ntmps63
          go_wp2_with fail
          refine (rcheck_any _ (HS.out.to (by go_grown)).D (HS.out.to (by go_grown)).R (HS.out.to (by go_grown)).S HS.out.d HS.out.r HS.out.s).mono ?_
          rintro e w1 ⟨rfl, hb1⟩
          obtain ⟨hc, hf⟩ := bcell hb1
          have HB := Lib.hid (bjoin (w := w) (by go_grown) hb1)
          have HC := Lib.hid hb1; clear hb1
          go_wp2_with (go_at_call 79; refine (rwithin_any _ _ _ _).mono ?_; rintro e w2 ⟨rfl, rfl⟩)
          have qd0_0 := keep_cell (b := w.heap.size) (o := 0) (v := .int .i64 L) HC.out (by simp <;> omega) (by simp [go_sem])
          have qd0_1 := keep_cell (b := w.heap.size) (o := 1) (v := .slice (some ⟨b1, o1, none⟩) n3 c1) HC.out (by simp <;> omega) (by simp [go_sem])
          have qd0_2 := keep_cell (b := w.heap.size) (o := 2) (v := .slice (some ⟨b2, o2, none⟩) n3 c2) HC.out (by simp <;> omega) (by simp [go_sem])
          have qd0_3 := keep_cell (b := w.heap.size) (o := 3) (v := .slice (some ⟨b3, o3, none⟩) n3 c3) HC.out (by simp <;> omega) (by simp [go_sem])
          go_wp2_with fail
          refine (rMoment_any (m / 1440) false 0 0 _ (HE.out.to HB.out) HO.out (by omega) (by omega) (by omega) (by omega)).mono ?_
          rintro e w2 ⟨rfl, hb2⟩
          have HB2 := Lib.hid (bjoin HB.out hb2)
          have HC2 := Lib.hid (bjoin HC.out hb2); clear hb2
          rw [mom_zero]
          have rc0 := keep_cell (b := w.heap.size + 1) (o := 0) (v := .bool false) HC2.out (by simp <;> omega) (by simp [go_sem])
          have rf0 := keep_fr (b := w.heap.size + 1) (o := 0) HC2.out (by simp <;> omega) (by simp [go_sem])
          have rc1 := keep_cell (b := w.heap.size + 1) (o := 1) (v := .int .i64 0) HC2.out (by simp <;> omega) (by simp [go_sem])
          have rf1 := keep_fr (b := w.heap.size + 1) (o := 1) HC2.out (by simp <;> omega) (by simp [go_sem])
          have rc2 := keep_cell (b := w.heap.size + 1) (o := 2) (v := .int .i64 0) HC2.out (by simp <;> omega) (by simp [go_sem])
          have rf2 := keep_fr (b := w.heap.size + 1) (o := 2) HC2.out (by simp <;> omega) (by simp [go_sem])
          have rl := keep_lt (b := w.heap.size + 1) HC2.out (by simp)
          go_wp2
          refine bodyPost_ret (v := .tuple #[.int .i64 (0), .agg #[.bool (false), .int .i64 (0), .int .i64 (0)], .int .i64 (4)]) (by simp [results, Tryd.results63, go_sem, rc0, rc1, rc2]) rfl ?_
          exact ⟨ret_later_no HP.out (by decide), (((HB2.out).setCell (p := ⟨w.heap.size + 1, 0, none⟩) (by simp; try omega) _).setCell (p := ⟨w.heap.size + 1, 1, none⟩) (by simp; try omega) _).setCell (p := ⟨w.heap.size + 1, 2, none⟩) (by simp; try omega) _⟩
        · have HP := Lib.hid (toldE_ok HO.out hwi (by omega))
          have MQ := Lib.hid (told_mq HO.out (m / 1440 - 1) t1)
          obtain ⟨PP, hPP⟩ : ∃ PP, PP = toldN L D R S m % 1440 := ⟨_, rfl⟩
          have T1 := Lib.hid t1; have T5 := Lib.hid hPP.symm
          rw [← hPP] at MQ
          have hPP0 : 0 ≤ PP ∧ PP < 1440 := by omega
          clear p1 p2 t1 t2 t3 hPP hd
          go_enter Tryd.func63, Tryd.ntmps63
          go_wp2_with fail
          refine (rcheck_any _ (HS.out.to (by go_grown)).D (HS.out.to (by go_grown)).R (HS.out.to (by go_grown)).S HS.out.d HS.out.r HS.out.s).mono ?_
          rintro e w1 ⟨rfl, hb1⟩
          obtain ⟨hc, hf⟩ := bcell hb1
          have HB := Lib.hid (bjoin (w := w) (by go_grown) hb1)
          have HC := Lib.hid hb1; clear hb1
          go_wp2_with (go_at_call 79; refine (rwithin_any _ _ _ _).mono ?_; rintro e w2 ⟨rfl, rfl⟩)
          have qd0_0 := keep_cell (b := w.heap.size) (o := 0) (v := .int .i64 L) HC.out (by simp <;> omega) (by simp [go_sem])
          have qd0_1 := keep_cell (b := w.heap.size) (o := 1) (v := .slice (some ⟨b1, o1, none⟩) n3 c1) HC.out (by simp <;> omega) (by simp [go_sem])
          have qd0_2 := keep_cell (b := w.heap.size) (o := 2) (v := .slice (some ⟨b2, o2, none⟩) n3 c2) HC.out (by simp <;> omega) (by simp [go_sem])
          have qd0_3 := keep_cell (b := w.heap.size) (o := 3) (v := .slice (some ⟨b3, o3, none⟩) n3 c3) HC.out (by simp <;> omega) (by simp [go_sem])
          go_wp2_with fail
          refine (rMoment_any (m / 1440) false 0 0 _ (HE.out.to HB.out) HO.out (by omega) (by omega) (by omega) (by omega)).mono ?_
          rintro e w2 ⟨rfl, hb2⟩
          have HB2 := Lib.hid (bjoin HB.out hb2)
          have HC2 := Lib.hid (bjoin HC.out hb2); clear hb2
          rw [mom_zero]
          go_wp2
          go_loopw [9, 10] (fun vn vk wr => ∃ k : Nat, k ≤ 1440 ∧ vk = .int .i64 k ∧ vn = .int .i64 (lastTold k PP) ∧ Below w2.heap.size w2 wr) (fun _ vk _ => 1440 - (intOf vk).toNat)
          case atStart => exact ⟨0, by omega, rfl, by rw [show lastTold 0 PP = 0 by unfold lastTold; omega], Below.refl _ _⟩
          case round =>
            obtain ⟨k, hk, rfl, rfl, hbr⟩ := hrel
            have HBR := Lib.hid (bjoin HB2.out hbr)
            have HCR := Lib.hid (bjoin HC2.out hbr)
            have HWR := Lib.hid hbr; clear hbr
            by_cases hlk : k < 1440
            · have hle := MQ.out k hlk
              have hw7 := IntWalk.i64_in (m * 720) (by omega)
              have ql0 := keep_lt (b := w.heap.size) HCR.out (by simp <;> omega)
              have qc0_0 := keep_cell (b := w.heap.size) (o := 0) (v := .int .i64 L) HCR.out (by simp <;> omega) (by simp [go_sem])
              have qc0_1 := keep_cell (b := w.heap.size) (o := 1) (v := .slice (some ⟨b1, o1, none⟩) n3 c1) HCR.out (by simp <;> omega) (by simp [go_sem])
              have qc0_2 := keep_cell (b := w.heap.size) (o := 2) (v := .slice (some ⟨b2, o2, none⟩) n3 c2) HCR.out (by simp <;> omega) (by simp [go_sem])
              have qc0_3 := keep_cell (b := w.heap.size) (o := 3) (v := .slice (some ⟨b3, o3, none⟩) n3 c3) HCR.out (by simp <;> omega) (by simp [go_sem])
              have HQ := Lib.hid (show ∀ W', Below wr.heap.size wr W' → W'.cell? ⟨w.heap.size, 0, none⟩ = some (.int .i64 L) ∧ W'.cell? ⟨w.heap.size, 1, none⟩ = some (.slice (some ⟨b1, o1, none⟩) n3 c1) ∧ W'.cell? ⟨w.heap.size, 2, none⟩ = some (.slice (some ⟨b2, o2, none⟩) n3 c2) ∧ W'.cell? ⟨w.heap.size, 3, none⟩ = some (.slice (some ⟨b3, o3, none⟩) n3 c3) ∧ Below wr.heap.size wr W' from fun W' hBW => ⟨keep_cell hBW ql0 qc0_0, keep_cell hBW ql0 qc0_1, keep_cell hBW ql0 qc0_2, keep_cell hBW ql0 qc0_3, hBW⟩)
              by_cases hkp : (k : Int) ≤ PP
              · have hmo := hle.2 hkp
                have HN := Lib.hid (show lastTold (k + 1) PP = k by unfold lastTold; omega)
                clear hle
                go_wp2
                go_region_held3 (fun W' => W'.cell? ⟨w.heap.size, 0, none⟩ = some (.int .i64 L) ∧ W'.cell? ⟨w.heap.size, 1, none⟩ = some (.slice (some ⟨b1, o1, none⟩) n3 c1) ∧ W'.cell? ⟨w.heap.size, 2, none⟩ = some (.slice (some ⟨b2, o2, none⟩) n3 c2) ∧ W'.cell? ⟨w.heap.size, 3, none⟩ = some (.slice (some ⟨b3, o3, none⟩) n3 c3) ∧ Below wr.heap.size wr W') ((refine HQ.out _ ?_; first | exact (Below.refl _ _).drew | assumption)) (first | (go_at_call 84; obtain ⟨_, _, _, _, hBW⟩ := ‹_ ∧ _ ∧ _ ∧ _ ∧ Below wr.heap.size wr _›; first | ((with_reducible refine (hour_any (k : Int) _ (by omega)).mono ?_); rintro e wn ⟨rfl, hbn⟩; have hBN := bjoin hBW hbn)) | (go_at_call 86; obtain ⟨_, _, _, _, hBW⟩ := ‹_ ∧ _ ∧ _ ∧ _ ∧ Below wr.heap.size wr _›; first | ((with_reducible refine (rMoment_any (m / 1440 - 1) (decide (720 ≤ (k : Int))) ((k : Int) / 60 % 12) ((k : Int) % 60) _ (HE.out.to (bjoin HBR.out hBW)) HO.out (by omega) (by omega) (by omega) (by omega)).mono ?_); rintro e wn ⟨rfl, hbn⟩; have hBN := bjoin hBW hbn)))
                obtain ⟨_, _, _, _, hBW⟩ := ‹_ ∧ _ ∧ _ ∧ _ ∧ Below wr.heap.size wr _›
                have HZ := Lib.hid hBW; clear hBW
                go_wp2
                go_roundw
                case rel => exact ⟨k + 1, by omega, by go_num, by rw [HN.out], bjoin HWR.out HZ.out⟩
                case measure => simp [intOf]; omega
              · have hmo : ¬ momF L D R S (m / 1440 - 1) (decide (720 ≤ (k : Int))) (60 * ((k : Int) / 60 % 12) + (k : Int) % 60) ≤ m * 720 := fun h => hkp (hle.1 h)
                have HN := Lib.hid (show lastTold (k + 1) PP = lastTold k PP by unfold lastTold; omega)
                clear hle
                go_wp2
                go_region_held3 (fun W' => W'.cell? ⟨w.heap.size, 0, none⟩ = some (.int .i64 L) ∧ W'.cell? ⟨w.heap.size, 1, none⟩ = some (.slice (some ⟨b1, o1, none⟩) n3 c1) ∧ W'.cell? ⟨w.heap.size, 2, none⟩ = some (.slice (some ⟨b2, o2, none⟩) n3 c2) ∧ W'.cell? ⟨w.heap.size, 3, none⟩ = some (.slice (some ⟨b3, o3, none⟩) n3 c3) ∧ Below wr.heap.size wr W') ((refine HQ.out _ ?_; first | exact (Below.refl _ _).drew | assumption)) (first | (go_at_call 84; obtain ⟨_, _, _, _, hBW⟩ := ‹_ ∧ _ ∧ _ ∧ _ ∧ Below wr.heap.size wr _›; first | ((with_reducible refine (hour_any (k : Int) _ (by omega)).mono ?_); rintro e wn ⟨rfl, hbn⟩; have hBN := bjoin hBW hbn)) | (go_at_call 86; obtain ⟨_, _, _, _, hBW⟩ := ‹_ ∧ _ ∧ _ ∧ _ ∧ Below wr.heap.size wr _›; first | ((with_reducible refine (rMoment_any (m / 1440 - 1) (decide (720 ≤ (k : Int))) ((k : Int) / 60 % 12) ((k : Int) % 60) _ (HE.out.to (bjoin HBR.out hBW)) HO.out (by omega) (by omega) (by omega) (by omega)).mono ?_); rintro e wn ⟨rfl, hbn⟩; have hBN := bjoin hBW hbn)))
                obtain ⟨_, _, _, _, hBW⟩ := ‹_ ∧ _ ∧ _ ∧ _ ∧ Below wr.heap.size wr _›
                have HZ := Lib.hid hBW; clear hBW
                go_wp2
                go_roundw
                case rel => exact ⟨k + 1, by omega, by go_num, by rw [HN.out], bjoin HWR.out HZ.out⟩
                case measure => simp [intOf]; omega
            · obtain rfl : k = 1440 := by omega
              have hN : lastTold 1440 PP = PP := by unfold lastTold; omega
              rw [hN]; clear hN
              go_wp2_with fail
              refine (hour_any PP _ (by omega)).mono ?_
              rintro e w3 ⟨rfl, hb3⟩
              have HB3 := Lib.hid (bjoin HBR.out hb3)
              have HC3 := Lib.hid (bjoin HCR.out hb3); clear hb3
              have rc0 := keep_cell (b := w.heap.size + 1) (o := 0) (v := .bool false) HC3.out (by simp <;> omega) (by simp [go_sem])
              have rf0 := keep_fr (b := w.heap.size + 1) (o := 0) HC3.out (by simp <;> omega) (by simp [go_sem])
              have rc1 := keep_cell (b := w.heap.size + 1) (o := 1) (v := .int .i64 0) HC3.out (by simp <;> omega) (by simp [go_sem])
              have rf1 := keep_fr (b := w.heap.size + 1) (o := 1) HC3.out (by simp <;> omega) (by simp [go_sem])
              have rc2 := keep_cell (b := w.heap.size + 1) (o := 2) (v := .int .i64 0) HC3.out (by simp <;> omega) (by simp [go_sem])
              have rf2 := keep_fr (b := w.heap.size + 1) (o := 2) HC3.out (by simp <;> omega) (by simp [go_sem])
              have rl := keep_lt (b := w.heap.size + 1) HC3.out (by simp)
              go_wp2
              refine bodyPost_ret (v := .tuple #[.int .i64 (m / 1440 - 1), .agg #[.bool (decide (720 ≤ PP)), .int .i64 (PP / 60 % 12), .int .i64 (PP % 60)], .int .i64 (0)]) (by simp [results, Tryd.results63, go_sem, rc0, rc1, rc2]) rfl ?_
              exact ⟨ret_later_ok HP.out T1.out.symm (by rw [T5.out]) (by rw [T5.out]) (by have := T5.out; omega), (((HB3.out).setCell (p := ⟨w.heap.size + 1, 0, none⟩) (by simp; try omega) _).setCell (p := ⟨w.heap.size + 1, 1, none⟩) (by simp; try omega) _).setCell (p := ⟨w.heap.size + 1, 2, none⟩) (by simp; try omega) _⟩
      · have hd : toldD L D R m = m / 1440 := by unfold toldD; rw [if_neg (by simpa [begF] using hlt)]
        obtain ⟨x1, x2, p1, p2, t1, t2, t3⟩ := told_made HO.out hd rfl
        clear x1 x2
        have HP := Lib.hid (toldE_ok HO.out hwi (by omega))
        have MQ := Lib.hid (told_mq HO.out (m / 1440) t1)
        obtain ⟨PP, hPP⟩ : ∃ PP, PP = toldN L D R S m % 1440 := ⟨_, rfl⟩
        have T1 := Lib.hid t1; have T5 := Lib.hid hPP.symm
        rw [← hPP] at MQ
        have hPP0 : 0 ≤ PP ∧ PP < 1440 := by omega
        clear p1 p2 t1 t2 t3 hPP hd
        go_enter Tryd.func63, Tryd.ntmps63
        go_wp2_with fail
        refine (rcheck_any _ (HS.out.to (by go_grown)).D (HS.out.to (by go_grown)).R (HS.out.to (by go_grown)).S HS.out.d HS.out.r HS.out.s).mono ?_
        rintro e w1 ⟨rfl, hb1⟩
        obtain ⟨hc, hf⟩ := bcell hb1
        have HB := Lib.hid (bjoin (w := w) (by go_grown) hb1)
        have HC := Lib.hid hb1; clear hb1
        go_wp2_with (go_at_call 79; refine (rwithin_any _ _ _ _).mono ?_; rintro e w2 ⟨rfl, rfl⟩)
        have qd0_0 := keep_cell (b := w.heap.size) (o := 0) (v := .int .i64 L) HC.out (by simp <;> omega) (by simp [go_sem])
        have qd0_1 := keep_cell (b := w.heap.size) (o := 1) (v := .slice (some ⟨b1, o1, none⟩) n3 c1) HC.out (by simp <;> omega) (by simp [go_sem])
        have qd0_2 := keep_cell (b := w.heap.size) (o := 2) (v := .slice (some ⟨b2, o2, none⟩) n3 c2) HC.out (by simp <;> omega) (by simp [go_sem])
        have qd0_3 := keep_cell (b := w.heap.size) (o := 3) (v := .slice (some ⟨b3, o3, none⟩) n3 c3) HC.out (by simp <;> omega) (by simp [go_sem])
        go_wp2_with fail
        refine (rMoment_any (m / 1440) false 0 0 _ (HE.out.to HB.out) HO.out (by omega) (by omega) (by omega) (by omega)).mono ?_
        rintro e w2 ⟨rfl, hb2⟩
        have HB2 := Lib.hid (bjoin HB.out hb2)
        have HC2 := Lib.hid (bjoin HC.out hb2); clear hb2
        rw [mom_zero]
        go_wp2
        go_loopw [9, 10] (fun vn vk wr => ∃ k : Nat, k ≤ 1440 ∧ vk = .int .i64 k ∧ vn = .int .i64 (lastTold k PP) ∧ Below w2.heap.size w2 wr) (fun _ vk _ => 1440 - (intOf vk).toNat)
        case atStart => exact ⟨0, by omega, rfl, by rw [show lastTold 0 PP = 0 by unfold lastTold; omega], Below.refl _ _⟩
        case round =>
          obtain ⟨k, hk, rfl, rfl, hbr⟩ := hrel
          have HBR := Lib.hid (bjoin HB2.out hbr)
          have HCR := Lib.hid (bjoin HC2.out hbr)
          have HWR := Lib.hid hbr; clear hbr
          by_cases hlk : k < 1440
          · have hle := MQ.out k hlk
            have hw7 := IntWalk.i64_in (m * 720) (by omega)
            have ql0 := keep_lt (b := w.heap.size) HCR.out (by simp <;> omega)
            have qc0_0 := keep_cell (b := w.heap.size) (o := 0) (v := .int .i64 L) HCR.out (by simp <;> omega) (by simp [go_sem])
            have qc0_1 := keep_cell (b := w.heap.size) (o := 1) (v := .slice (some ⟨b1, o1, none⟩) n3 c1) HCR.out (by simp <;> omega) (by simp [go_sem])
            have qc0_2 := keep_cell (b := w.heap.size) (o := 2) (v := .slice (some ⟨b2, o2, none⟩) n3 c2) HCR.out (by simp <;> omega) (by simp [go_sem])
            have qc0_3 := keep_cell (b := w.heap.size) (o := 3) (v := .slice (some ⟨b3, o3, none⟩) n3 c3) HCR.out (by simp <;> omega) (by simp [go_sem])
            have HQ := Lib.hid (show ∀ W', Below wr.heap.size wr W' → W'.cell? ⟨w.heap.size, 0, none⟩ = some (.int .i64 L) ∧ W'.cell? ⟨w.heap.size, 1, none⟩ = some (.slice (some ⟨b1, o1, none⟩) n3 c1) ∧ W'.cell? ⟨w.heap.size, 2, none⟩ = some (.slice (some ⟨b2, o2, none⟩) n3 c2) ∧ W'.cell? ⟨w.heap.size, 3, none⟩ = some (.slice (some ⟨b3, o3, none⟩) n3 c3) ∧ Below wr.heap.size wr W' from fun W' hBW => ⟨keep_cell hBW ql0 qc0_0, keep_cell hBW ql0 qc0_1, keep_cell hBW ql0 qc0_2, keep_cell hBW ql0 qc0_3, hBW⟩)
            by_cases hkp : (k : Int) ≤ PP
            · have hmo := hle.2 hkp
              have HN := Lib.hid (show lastTold (k + 1) PP = k by unfold lastTold; omega)
              clear hle
              go_wp2
              go_region_held3 (fun W' => W'.cell? ⟨w.heap.size, 0, none⟩ = some (.int .i64 L) ∧ W'.cell? ⟨w.heap.size, 1, none⟩ = some (.slice (some ⟨b1, o1, none⟩) n3 c1) ∧ W'.cell? ⟨w.heap.size, 2, none⟩ = some (.slice (some ⟨b2, o2, none⟩) n3 c2) ∧ W'.cell? ⟨w.heap.size, 3, none⟩ = some (.slice (some ⟨b3, o3, none⟩) n3 c3) ∧ Below wr.heap.size wr W') ((refine HQ.out _ ?_; first | exact (Below.refl _ _).drew | assumption)) (first | (go_at_call 84; obtain ⟨_, _, _, _, hBW⟩ := ‹_ ∧ _ ∧ _ ∧ _ ∧ Below wr.heap.size wr _›; first | ((with_reducible refine (hour_any (k : Int) _ (by omega)).mono ?_); rintro e wn ⟨rfl, hbn⟩; have hBN := bjoin hBW hbn)) | (go_at_call 86; obtain ⟨_, _, _, _, hBW⟩ := ‹_ ∧ _ ∧ _ ∧ _ ∧ Below wr.heap.size wr _›; first | ((with_reducible refine (rMoment_any (m / 1440) (decide (720 ≤ (k : Int))) ((k : Int) / 60 % 12) ((k : Int) % 60) _ (HE.out.to (bjoin HBR.out hBW)) HO.out (by omega) (by omega) (by omega) (by omega)).mono ?_); rintro e wn ⟨rfl, hbn⟩; have hBN := bjoin hBW hbn)))
              obtain ⟨_, _, _, _, hBW⟩ := ‹_ ∧ _ ∧ _ ∧ _ ∧ Below wr.heap.size wr _›
              have HZ := Lib.hid hBW; clear hBW
              go_wp2
              go_roundw
              case rel => exact ⟨k + 1, by omega, by go_num, by rw [HN.out], bjoin HWR.out HZ.out⟩
              case measure => simp [intOf]; omega
            · have hmo : ¬ momF L D R S (m / 1440) (decide (720 ≤ (k : Int))) (60 * ((k : Int) / 60 % 12) + (k : Int) % 60) ≤ m * 720 := fun h => hkp (hle.1 h)
              have HN := Lib.hid (show lastTold (k + 1) PP = lastTold k PP by unfold lastTold; omega)
              clear hle
              go_wp2
              go_region_held3 (fun W' => W'.cell? ⟨w.heap.size, 0, none⟩ = some (.int .i64 L) ∧ W'.cell? ⟨w.heap.size, 1, none⟩ = some (.slice (some ⟨b1, o1, none⟩) n3 c1) ∧ W'.cell? ⟨w.heap.size, 2, none⟩ = some (.slice (some ⟨b2, o2, none⟩) n3 c2) ∧ W'.cell? ⟨w.heap.size, 3, none⟩ = some (.slice (some ⟨b3, o3, none⟩) n3 c3) ∧ Below wr.heap.size wr W') ((refine HQ.out _ ?_; first | exact (Below.refl _ _).drew | assumption)) (first | (go_at_call 84; obtain ⟨_, _, _, _, hBW⟩ := ‹_ ∧ _ ∧ _ ∧ _ ∧ Below wr.heap.size wr _›; first | ((with_reducible refine (hour_any (k : Int) _ (by omega)).mono ?_); rintro e wn ⟨rfl, hbn⟩; have hBN := bjoin hBW hbn)) | (go_at_call 86; obtain ⟨_, _, _, _, hBW⟩ := ‹_ ∧ _ ∧ _ ∧ _ ∧ Below wr.heap.size wr _›; first | ((with_reducible refine (rMoment_any (m / 1440) (decide (720 ≤ (k : Int))) ((k : Int) / 60 % 12) ((k : Int) % 60) _ (HE.out.to (bjoin HBR.out hBW)) HO.out (by omega) (by omega) (by omega) (by omega)).mono ?_); rintro e wn ⟨rfl, hbn⟩; have hBN := bjoin hBW hbn)))
              obtain ⟨_, _, _, _, hBW⟩ := ‹_ ∧ _ ∧ _ ∧ _ ∧ Below wr.heap.size wr _›
              have HZ := Lib.hid hBW; clear hBW
              go_wp2
              go_roundw
              case rel => exact ⟨k + 1, by omega, by go_num, by rw [HN.out], bjoin HWR.out HZ.out⟩
              case measure => simp [intOf]; omega
          · obtain rfl : k = 1440 := by omega
            have hN : lastTold 1440 PP = PP := by unfold lastTold; omega
            rw [hN]; clear hN
            go_wp2_with fail
            refine (hour_any PP _ (by omega)).mono ?_
            rintro e w3 ⟨rfl, hb3⟩
            have HB3 := Lib.hid (bjoin HBR.out hb3)
            have HC3 := Lib.hid (bjoin HCR.out hb3); clear hb3
            have rc0 := keep_cell (b := w.heap.size + 1) (o := 0) (v := .bool false) HC3.out (by simp <;> omega) (by simp [go_sem])
            have rf0 := keep_fr (b := w.heap.size + 1) (o := 0) HC3.out (by simp <;> omega) (by simp [go_sem])
            have rc1 := keep_cell (b := w.heap.size + 1) (o := 1) (v := .int .i64 0) HC3.out (by simp <;> omega) (by simp [go_sem])
            have rf1 := keep_fr (b := w.heap.size + 1) (o := 1) HC3.out (by simp <;> omega) (by simp [go_sem])
            have rc2 := keep_cell (b := w.heap.size + 1) (o := 2) (v := .int .i64 0) HC3.out (by simp <;> omega) (by simp [go_sem])
            have rf2 := keep_fr (b := w.heap.size + 1) (o := 2) HC3.out (by simp <;> omega) (by simp [go_sem])
            have rl := keep_lt (b := w.heap.size + 1) HC3.out (by simp)
            go_wp2
            refine bodyPost_ret (v := .tuple #[.int .i64 (m / 1440), .agg #[.bool (decide (720 ≤ PP)), .int .i64 (PP / 60 % 12), .int .i64 (PP % 60)], .int .i64 (0)]) (by simp [results, Tryd.results63, go_sem, rc0, rc1, rc2]) rfl ?_
            exact ⟨ret_later_ok HP.out T1.out.symm (by rw [T5.out]) (by rw [T5.out]) (by have := T5.out; omega), (((HB3.out).setCell (p := ⟨w.heap.size + 1, 0, none⟩) (by simp; try omega) _).setCell (p := ⟨w.heap.size + 1, 1, none⟩) (by simp; try omega) _).setCell (p := ⟨w.heap.size + 1, 2, none⟩) (by simp; try omega) _⟩
      
  · have hck := ck_no hok
    have HP := Lib.hid (toldE_season (m := m) hok)
    have HS := Lib.hid hs; clear hs hok
    go_enter Tryd.func63, Tryd.ntmps63
    go_wp2_with fail
    refine (rcheck_any _ (HS.out.to (by go_grown)).D (HS.out.to (by go_grown)).R (HS.out.to (by go_grown)).S HS.out.d HS.out.r HS.out.s).mono ?_
    rintro e w1 ⟨rfl, hb1⟩
    obtain ⟨hc, hf⟩ := bcell hb1
    have HB := Lib.hid (bjoin (w := w) (by go_grown) hb1)
    have HC := Lib.hid hb1; clear hb1
    have rc0 := keep_cell (b := w.heap.size + 1) (o := 0) (v := .bool false) HC.out (by simp <;> omega) (by simp [go_sem])
    have rf0 := keep_fr (b := w.heap.size + 1) (o := 0) HC.out (by simp <;> omega) (by simp [go_sem])
    have rc1 := keep_cell (b := w.heap.size + 1) (o := 1) (v := .int .i64 0) HC.out (by simp <;> omega) (by simp [go_sem])
    have rf1 := keep_fr (b := w.heap.size + 1) (o := 1) HC.out (by simp <;> omega) (by simp [go_sem])
    have rc2 := keep_cell (b := w.heap.size + 1) (o := 2) (v := .int .i64 0) HC.out (by simp <;> omega) (by simp [go_sem])
    have rf2 := keep_fr (b := w.heap.size + 1) (o := 2) HC.out (by simp <;> omega) (by simp [go_sem])
    have rl := keep_lt (b := w.heap.size + 1) HC.out (by simp)
    go_wp2
    refine bodyPost_ret (v := .tuple #[.int .i64 (0), .agg #[.bool (false), .int .i64 (0), .int .i64 (0)], .int .i64 (50)]) (by simp [results, Tryd.results63, go_sem, rc0, rc1, rc2]) rfl ?_
    exact ⟨ret_later_no HP.out (by decide), (((HB.out).setCell (p := ⟨w.heap.size + 1, 0, none⟩) (by simp; try omega) _).setCell (p := ⟨w.heap.size + 1, 1, none⟩) (by simp; try omega) _).setCell (p := ⟨w.heap.size + 1, 2, none⟩) (by simp; try omega) _⟩


/-- The first place from 0 to k with the greatest (least) value. -/
def amax (f : Int → Int) : Nat → Int
  | 0 => 0
  | k + 1 => if f (amax f k) < f ((k : Int) + 1) then (k : Int) + 1 else amax f k
def amin (f : Int → Int) : Nat → Int
  | 0 => 0
  | k + 1 => if f ((k : Int) + 1) < f (amin f k) then (k : Int) + 1 else amin f k
theorem amax_bd (f : Int → Int) (k : Nat) : 0 ≤ amax f k ∧ amax f k ≤ k := by
  induction k with
  | zero => simp [amax]
  | succ k ih => unfold amax; split <;> omega
theorem amin_bd (f : Int → Int) (k : Nat) : 0 ≤ amin f k ∧ amin f k ≤ k := by
  induction k with
  | zero => simp [amin]
  | succ k ih => unfold amin; split <;> omega
theorem amax_le (f : Int → Int) (k : Nat) (j : Int) (h : 0 ≤ j ∧ j ≤ k) : f j ≤ f (amax f k) := by
  induction k with
  | zero => obtain rfl : j = 0 := by omega
            exact Int.le_refl _
  | succ k ih =>
    unfold amax
    by_cases e : j ≤ k
    · have := ih ⟨h.1, e⟩; split <;> omega
    · obtain rfl : j = (k : Int) + 1 := by omega
      split <;> omega
theorem amin_le (f : Int → Int) (k : Nat) (j : Int) (h : 0 ≤ j ∧ j ≤ k) : f (amin f k) ≤ f j := by
  induction k with
  | zero => obtain rfl : j = 0 := by omega
            exact Int.le_refl _
  | succ k ih =>
    unfold amin
    by_cases e : j ≤ k
    · have := ih ⟨h.1, e⟩; split <;> omega
    · obtain rfl : j = (k : Int) + 1 := by omega
      split <;> omega
/-- The last place of the year. -/
def topF (L : Int) : Nat := (L - 1).toNat
def lightF (L : Int) (D R S : List Int) (day : Int) : Int := lastF L D R S day false
theorem ret_three {x x' y y' e e' : Int} (h1 : x = x') (h2 : y = y') (h3 : e = e') : Ending.returned (.tuple #[.int .i64 x, .int .i64 y, .int .i64 e]) = .returned (.tuple #[.int .i64 x', .int .i64 y', .int .i64 e']) := by rw [h1, h2, h3]

set_option maxRecDepth 100000 in
set_option maxHeartbeats 4000000 in
theorem rLongest_any {L : Int} {n1 n2 n3 c1 c2 c3 : Nat} {a1 a2 a3 : Option Addr} {D R S : List Int} (w : World) (hs : SeaO w a1 n1 a2 n2 a3 n3 D R S) :
   Calls Tryd.prog 33 #[.agg #[.int .i64 L, .slice a1 n1 c1, .slice a2 n2 c2, .slice a3 n3 c3]] w
     fun e w' => e = .returned (.tuple #[.int .i64 (onOk (ck L D R S) (amax (lightF L D R S) (topF L))), .int .i64 (onOk (ck L D R S) (amin (lightF L D R S) (topF L))), .int .i64 (ck L D R S)]) ∧ Below w.heap.size w w' := by
  by_cases hok : Ok L D R S
  · have hck := ck_yes hok
    obtain ⟨b1, o1, b2, o2, b3, o3, rfl, rfl, rfl, rfl, rfl, hsea⟩ := hs.sea hok
    have hL1 := hok.L1; have hL2 := hok.L2
    have HS := Lib.hid hs; have HE := Lib.hid hsea; have HO := Lib.hid hok; clear hs hsea hok
    go_enter Tryd.func33, Tryd.ntmps33
    go_wp2_with fail
    refine (rcheck_any _ (HS.out.to (by go_grown)).D (HS.out.to (by go_grown)).R (HS.out.to (by go_grown)).S HS.out.d HS.out.r HS.out.s).mono ?_
    rintro e w1 ⟨rfl, hb1⟩
    obtain ⟨hc, hf⟩ := bcell hb1
    have HB := Lib.hid (bjoin (w := w) (by go_grown) hb1)
    have HC := Lib.hid hb1; clear hb1
    have qd0_0 := keep_cell (b := w.heap.size) (o := 0) (v := .int .i64 L) HC.out (by simp <;> omega) (by simp [go_sem])
    have qd0_1 := keep_cell (b := w.heap.size) (o := 1) (v := .slice (some ⟨b1, o1, none⟩) n3 c1) HC.out (by simp <;> omega) (by simp [go_sem])
    have qd0_2 := keep_cell (b := w.heap.size) (o := 2) (v := .slice (some ⟨b2, o2, none⟩) n3 c2) HC.out (by simp <;> omega) (by simp [go_sem])
    have qd0_3 := keep_cell (b := w.heap.size) (o := 3) (v := .slice (some ⟨b3, o3, none⟩) n3 c3) HC.out (by simp <;> omega) (by simp [go_sem])
    go_wp2
    clear qd0_0 qd0_1 qd0_2 qd0_3
    go_loopw [6, 7, 8] (fun va vc vk wr => ∃ k : Nat, (k : Int) + 1 ≤ L ∧ va = .int .i64 (amax (lightF L D R S) k) ∧ vc = .int .i64 (amin (lightF L D R S) k) ∧ vk = .int .i64 ((k : Int) + 1) ∧ Below w1.heap.size w1 wr) (fun _ _ vk _ => 1000 - (intOf vk).toNat)
    case atStart => exact ⟨0, by omega, rfl, rfl, rfl, Below.refl _ _⟩
    case round =>
      obtain ⟨k, hk, rfl, rfl, rfl, hbr⟩ := hrel
      have HBR := Lib.hid (bjoin HB.out hbr)
      have HCR := Lib.hid (bjoin HC.out hbr)
      have HWR := Lib.hid hbr; clear hbr
      have hab := amax_bd (lightF L D R S) k
      have hcb := amin_bd (lightF L D R S) k
      by_cases hlk : (k : Int) + 1 < L
      · generalize ha : amax (lightF L D R S) k = a at *
        generalize hc0 : amin (lightF L D R S) k = c at *
        by_cases t80 : lightF L D R S a < lightF L D R S ((k : Int) + 1)
        · by_cases t100 : lightF L D R S ((k : Int) + 1) < lightF L D R S c
          · have t8 : lastF L D R S a false < lastF L D R S ((k : Int) + 1) false := t80
            have t10 : lastF L D R S ((k : Int) + 1) false < lastF L D R S c false := t100
            have HA := Lib.hid (show amax (lightF L D R S) (k + 1) = (k : Int) + 1 by rw [amax, ha]; exact if_pos t80)
            have HM := Lib.hid (show amin (lightF L D R S) (k + 1) = (k : Int) + 1 by rw [amin, hc0]; exact if_pos t100)
            clear t80 t100 ha hc0
            have ql0 := keep_lt (b := w.heap.size) HCR.out (by simp <;> omega)
            have qc0_0 := keep_cell (b := w.heap.size) (o := 0) (v := .int .i64 L) HCR.out (by simp <;> omega) (by simp [go_sem])
            have qc0_1 := keep_cell (b := w.heap.size) (o := 1) (v := .slice (some ⟨b1, o1, none⟩) n3 c1) HCR.out (by simp <;> omega) (by simp [go_sem])
            have qc0_2 := keep_cell (b := w.heap.size) (o := 2) (v := .slice (some ⟨b2, o2, none⟩) n3 c2) HCR.out (by simp <;> omega) (by simp [go_sem])
            have qc0_3 := keep_cell (b := w.heap.size) (o := 3) (v := .slice (some ⟨b3, o3, none⟩) n3 c3) HCR.out (by simp <;> omega) (by simp [go_sem])
            have HQ := Lib.hid (show ∀ W', Below wr.heap.size wr W' → W'.cell? ⟨w.heap.size, 0, none⟩ = some (.int .i64 L) ∧ W'.cell? ⟨w.heap.size, 1, none⟩ = some (.slice (some ⟨b1, o1, none⟩) n3 c1) ∧ W'.cell? ⟨w.heap.size, 2, none⟩ = some (.slice (some ⟨b2, o2, none⟩) n3 c2) ∧ W'.cell? ⟨w.heap.size, 3, none⟩ = some (.slice (some ⟨b3, o3, none⟩) n3 c3) ∧ Below wr.heap.size wr W' from fun W' hBW => ⟨keep_cell hBW ql0 qc0_0, keep_cell hBW ql0 qc0_1, keep_cell hBW ql0 qc0_2, keep_cell hBW ql0 qc0_3, hBW⟩)
            go_wp2
            go_region_held3 (fun W' => W'.cell? ⟨w.heap.size, 0, none⟩ = some (.int .i64 L) ∧ W'.cell? ⟨w.heap.size, 1, none⟩ = some (.slice (some ⟨b1, o1, none⟩) n3 c1) ∧ W'.cell? ⟨w.heap.size, 2, none⟩ = some (.slice (some ⟨b2, o2, none⟩) n3 c2) ∧ W'.cell? ⟨w.heap.size, 3, none⟩ = some (.slice (some ⟨b3, o3, none⟩) n3 c3) ∧ Below wr.heap.size wr W') ((refine HQ.out _ ?_; first | exact (Below.refl _ _).drew | assumption)) (first | (go_at_call 76; obtain ⟨_, _, _, _, hBW⟩ := ‹_ ∧ _ ∧ _ ∧ _ ∧ Below wr.heap.size wr _›; first | ((with_reducible refine (lasts_any ((k : Int) + 1) false _ (HE.out.to (bjoin HBR.out hBW)) HO.out (by omega) (by omega)).mono ?_); rintro e wn ⟨rfl, hbn⟩; have hBN := bjoin hBW hbn) | ((with_reducible refine (lasts_any (a) false _ (HE.out.to (bjoin HBR.out hBW)) HO.out (by omega) (by omega)).mono ?_); rintro e wn ⟨rfl, hbn⟩; have hBN := bjoin hBW hbn)))
            obtain ⟨_, _, _, _, hBW⟩ := ‹_ ∧ _ ∧ _ ∧ _ ∧ Below wr.heap.size wr _›
            have HZ := Lib.hid hBW; clear hBW
            have HBX := Lib.hid (bjoin HBR.out HZ.out)
            have HCX := Lib.hid (bjoin HCR.out HZ.out)
            have HWX := Lib.hid (bjoin HWR.out HZ.out)
            clear HZ HQ ql0 qc0_0 qc0_1 qc0_2 qc0_3
            obtain ⟨wx, rfl⟩ : ∃ wx, wx = wn := ⟨_, rfl⟩
            have ql0 := keep_lt (b := w.heap.size) HCX.out (by simp <;> omega)
            have qc0_0 := keep_cell (b := w.heap.size) (o := 0) (v := .int .i64 L) HCX.out (by simp <;> omega) (by simp [go_sem])
            have qc0_1 := keep_cell (b := w.heap.size) (o := 1) (v := .slice (some ⟨b1, o1, none⟩) n3 c1) HCX.out (by simp <;> omega) (by simp [go_sem])
            have qc0_2 := keep_cell (b := w.heap.size) (o := 2) (v := .slice (some ⟨b2, o2, none⟩) n3 c2) HCX.out (by simp <;> omega) (by simp [go_sem])
            have qc0_3 := keep_cell (b := w.heap.size) (o := 3) (v := .slice (some ⟨b3, o3, none⟩) n3 c3) HCX.out (by simp <;> omega) (by simp [go_sem])
            have HQ := Lib.hid (show ∀ W', Below wx.heap.size wx W' → W'.cell? ⟨w.heap.size, 0, none⟩ = some (.int .i64 L) ∧ W'.cell? ⟨w.heap.size, 1, none⟩ = some (.slice (some ⟨b1, o1, none⟩) n3 c1) ∧ W'.cell? ⟨w.heap.size, 2, none⟩ = some (.slice (some ⟨b2, o2, none⟩) n3 c2) ∧ W'.cell? ⟨w.heap.size, 3, none⟩ = some (.slice (some ⟨b3, o3, none⟩) n3 c3) ∧ Below wx.heap.size wx W' from fun W' hBW => ⟨keep_cell hBW ql0 qc0_0, keep_cell hBW ql0 qc0_1, keep_cell hBW ql0 qc0_2, keep_cell hBW ql0 qc0_3, hBW⟩)
            go_wp2
            go_region_held3 (fun W' => W'.cell? ⟨w.heap.size, 0, none⟩ = some (.int .i64 L) ∧ W'.cell? ⟨w.heap.size, 1, none⟩ = some (.slice (some ⟨b1, o1, none⟩) n3 c1) ∧ W'.cell? ⟨w.heap.size, 2, none⟩ = some (.slice (some ⟨b2, o2, none⟩) n3 c2) ∧ W'.cell? ⟨w.heap.size, 3, none⟩ = some (.slice (some ⟨b3, o3, none⟩) n3 c3) ∧ Below wx.heap.size wx W') ((refine HQ.out _ ?_; first | exact (Below.refl _ _).drew | assumption)) (first | (go_at_call 76; obtain ⟨_, _, _, _, hBW⟩ := ‹_ ∧ _ ∧ _ ∧ _ ∧ Below wx.heap.size wx _›; first | ((with_reducible refine (lasts_any ((k : Int) + 1) false _ (HE.out.to (bjoin HBX.out hBW)) HO.out (by omega) (by omega)).mono ?_); rintro e wn ⟨rfl, hbn⟩; have hBN := bjoin hBW hbn) | ((with_reducible refine (lasts_any (c) false _ (HE.out.to (bjoin HBX.out hBW)) HO.out (by omega) (by omega)).mono ?_); rintro e wn ⟨rfl, hbn⟩; have hBN := bjoin hBW hbn)))
            obtain ⟨_, _, _, _, hBW⟩ := ‹_ ∧ _ ∧ _ ∧ _ ∧ Below wx.heap.size wx _›
            have HZ := Lib.hid hBW; clear hBW
            go_wp2
            go_roundw
            case rel => exact ⟨k + 1, by omega, by rw [HA.out], by rw [HM.out], by go_num, bjoin HWX.out HZ.out⟩
            case measure => simp [intOf]; omega
          · have t8 : lastF L D R S a false < lastF L D R S ((k : Int) + 1) false := t80
            have t10 : ¬ lastF L D R S ((k : Int) + 1) false < lastF L D R S c false := t100
            have HA := Lib.hid (show amax (lightF L D R S) (k + 1) = (k : Int) + 1 by rw [amax, ha]; exact if_pos t80)
            have HM := Lib.hid (show amin (lightF L D R S) (k + 1) = c by rw [amin, hc0]; exact if_neg t100)
            clear t80 t100 ha hc0
            have ql0 := keep_lt (b := w.heap.size) HCR.out (by simp <;> omega)
            have qc0_0 := keep_cell (b := w.heap.size) (o := 0) (v := .int .i64 L) HCR.out (by simp <;> omega) (by simp [go_sem])
            have qc0_1 := keep_cell (b := w.heap.size) (o := 1) (v := .slice (some ⟨b1, o1, none⟩) n3 c1) HCR.out (by simp <;> omega) (by simp [go_sem])
            have qc0_2 := keep_cell (b := w.heap.size) (o := 2) (v := .slice (some ⟨b2, o2, none⟩) n3 c2) HCR.out (by simp <;> omega) (by simp [go_sem])
            have qc0_3 := keep_cell (b := w.heap.size) (o := 3) (v := .slice (some ⟨b3, o3, none⟩) n3 c3) HCR.out (by simp <;> omega) (by simp [go_sem])
            have HQ := Lib.hid (show ∀ W', Below wr.heap.size wr W' → W'.cell? ⟨w.heap.size, 0, none⟩ = some (.int .i64 L) ∧ W'.cell? ⟨w.heap.size, 1, none⟩ = some (.slice (some ⟨b1, o1, none⟩) n3 c1) ∧ W'.cell? ⟨w.heap.size, 2, none⟩ = some (.slice (some ⟨b2, o2, none⟩) n3 c2) ∧ W'.cell? ⟨w.heap.size, 3, none⟩ = some (.slice (some ⟨b3, o3, none⟩) n3 c3) ∧ Below wr.heap.size wr W' from fun W' hBW => ⟨keep_cell hBW ql0 qc0_0, keep_cell hBW ql0 qc0_1, keep_cell hBW ql0 qc0_2, keep_cell hBW ql0 qc0_3, hBW⟩)
            go_wp2
            go_region_held3 (fun W' => W'.cell? ⟨w.heap.size, 0, none⟩ = some (.int .i64 L) ∧ W'.cell? ⟨w.heap.size, 1, none⟩ = some (.slice (some ⟨b1, o1, none⟩) n3 c1) ∧ W'.cell? ⟨w.heap.size, 2, none⟩ = some (.slice (some ⟨b2, o2, none⟩) n3 c2) ∧ W'.cell? ⟨w.heap.size, 3, none⟩ = some (.slice (some ⟨b3, o3, none⟩) n3 c3) ∧ Below wr.heap.size wr W') ((refine HQ.out _ ?_; first | exact (Below.refl _ _).drew | assumption)) (first | (go_at_call 76; obtain ⟨_, _, _, _, hBW⟩ := ‹_ ∧ _ ∧ _ ∧ _ ∧ Below wr.heap.size wr _›; first | ((with_reducible refine (lasts_any ((k : Int) + 1) false _ (HE.out.to (bjoin HBR.out hBW)) HO.out (by omega) (by omega)).mono ?_); rintro e wn ⟨rfl, hbn⟩; have hBN := bjoin hBW hbn) | ((with_reducible refine (lasts_any (a) false _ (HE.out.to (bjoin HBR.out hBW)) HO.out (by omega) (by omega)).mono ?_); rintro e wn ⟨rfl, hbn⟩; have hBN := bjoin hBW hbn)))
            obtain ⟨_, _, _, _, hBW⟩ := ‹_ ∧ _ ∧ _ ∧ _ ∧ Below wr.heap.size wr _›
            have HZ := Lib.hid hBW; clear hBW
            have HBX := Lib.hid (bjoin HBR.out HZ.out)
            have HCX := Lib.hid (bjoin HCR.out HZ.out)
            have HWX := Lib.hid (bjoin HWR.out HZ.out)
            clear HZ HQ ql0 qc0_0 qc0_1 qc0_2 qc0_3
            obtain ⟨wx, rfl⟩ : ∃ wx, wx = wn := ⟨_, rfl⟩
            have ql0 := keep_lt (b := w.heap.size) HCX.out (by simp <;> omega)
            have qc0_0 := keep_cell (b := w.heap.size) (o := 0) (v := .int .i64 L) HCX.out (by simp <;> omega) (by simp [go_sem])
            have qc0_1 := keep_cell (b := w.heap.size) (o := 1) (v := .slice (some ⟨b1, o1, none⟩) n3 c1) HCX.out (by simp <;> omega) (by simp [go_sem])
            have qc0_2 := keep_cell (b := w.heap.size) (o := 2) (v := .slice (some ⟨b2, o2, none⟩) n3 c2) HCX.out (by simp <;> omega) (by simp [go_sem])
            have qc0_3 := keep_cell (b := w.heap.size) (o := 3) (v := .slice (some ⟨b3, o3, none⟩) n3 c3) HCX.out (by simp <;> omega) (by simp [go_sem])
            have HQ := Lib.hid (show ∀ W', Below wx.heap.size wx W' → W'.cell? ⟨w.heap.size, 0, none⟩ = some (.int .i64 L) ∧ W'.cell? ⟨w.heap.size, 1, none⟩ = some (.slice (some ⟨b1, o1, none⟩) n3 c1) ∧ W'.cell? ⟨w.heap.size, 2, none⟩ = some (.slice (some ⟨b2, o2, none⟩) n3 c2) ∧ W'.cell? ⟨w.heap.size, 3, none⟩ = some (.slice (some ⟨b3, o3, none⟩) n3 c3) ∧ Below wx.heap.size wx W' from fun W' hBW => ⟨keep_cell hBW ql0 qc0_0, keep_cell hBW ql0 qc0_1, keep_cell hBW ql0 qc0_2, keep_cell hBW ql0 qc0_3, hBW⟩)
            go_wp2
            go_region_held3 (fun W' => W'.cell? ⟨w.heap.size, 0, none⟩ = some (.int .i64 L) ∧ W'.cell? ⟨w.heap.size, 1, none⟩ = some (.slice (some ⟨b1, o1, none⟩) n3 c1) ∧ W'.cell? ⟨w.heap.size, 2, none⟩ = some (.slice (some ⟨b2, o2, none⟩) n3 c2) ∧ W'.cell? ⟨w.heap.size, 3, none⟩ = some (.slice (some ⟨b3, o3, none⟩) n3 c3) ∧ Below wx.heap.size wx W') ((refine HQ.out _ ?_; first | exact (Below.refl _ _).drew | assumption)) (first | (go_at_call 76; obtain ⟨_, _, _, _, hBW⟩ := ‹_ ∧ _ ∧ _ ∧ _ ∧ Below wx.heap.size wx _›; first | ((with_reducible refine (lasts_any ((k : Int) + 1) false _ (HE.out.to (bjoin HBX.out hBW)) HO.out (by omega) (by omega)).mono ?_); rintro e wn ⟨rfl, hbn⟩; have hBN := bjoin hBW hbn) | ((with_reducible refine (lasts_any (c) false _ (HE.out.to (bjoin HBX.out hBW)) HO.out (by omega) (by omega)).mono ?_); rintro e wn ⟨rfl, hbn⟩; have hBN := bjoin hBW hbn)))
            obtain ⟨_, _, _, _, hBW⟩ := ‹_ ∧ _ ∧ _ ∧ _ ∧ Below wx.heap.size wx _›
            have HZ := Lib.hid hBW; clear hBW
            go_wp2
            go_roundw
            case rel => exact ⟨k + 1, by omega, by rw [HA.out], by rw [HM.out], by go_num, bjoin HWX.out HZ.out⟩
            case measure => simp [intOf]; omega
        · by_cases t100 : lightF L D R S ((k : Int) + 1) < lightF L D R S c
          · have t8 : ¬ lastF L D R S a false < lastF L D R S ((k : Int) + 1) false := t80
            have t10 : lastF L D R S ((k : Int) + 1) false < lastF L D R S c false := t100
            have HA := Lib.hid (show amax (lightF L D R S) (k + 1) = a by rw [amax, ha]; exact if_neg t80)
            have HM := Lib.hid (show amin (lightF L D R S) (k + 1) = (k : Int) + 1 by rw [amin, hc0]; exact if_pos t100)
            clear t80 t100 ha hc0
            have ql0 := keep_lt (b := w.heap.size) HCR.out (by simp <;> omega)
            have qc0_0 := keep_cell (b := w.heap.size) (o := 0) (v := .int .i64 L) HCR.out (by simp <;> omega) (by simp [go_sem])
            have qc0_1 := keep_cell (b := w.heap.size) (o := 1) (v := .slice (some ⟨b1, o1, none⟩) n3 c1) HCR.out (by simp <;> omega) (by simp [go_sem])
            have qc0_2 := keep_cell (b := w.heap.size) (o := 2) (v := .slice (some ⟨b2, o2, none⟩) n3 c2) HCR.out (by simp <;> omega) (by simp [go_sem])
            have qc0_3 := keep_cell (b := w.heap.size) (o := 3) (v := .slice (some ⟨b3, o3, none⟩) n3 c3) HCR.out (by simp <;> omega) (by simp [go_sem])
            have HQ := Lib.hid (show ∀ W', Below wr.heap.size wr W' → W'.cell? ⟨w.heap.size, 0, none⟩ = some (.int .i64 L) ∧ W'.cell? ⟨w.heap.size, 1, none⟩ = some (.slice (some ⟨b1, o1, none⟩) n3 c1) ∧ W'.cell? ⟨w.heap.size, 2, none⟩ = some (.slice (some ⟨b2, o2, none⟩) n3 c2) ∧ W'.cell? ⟨w.heap.size, 3, none⟩ = some (.slice (some ⟨b3, o3, none⟩) n3 c3) ∧ Below wr.heap.size wr W' from fun W' hBW => ⟨keep_cell hBW ql0 qc0_0, keep_cell hBW ql0 qc0_1, keep_cell hBW ql0 qc0_2, keep_cell hBW ql0 qc0_3, hBW⟩)
            go_wp2
            go_region_held3 (fun W' => W'.cell? ⟨w.heap.size, 0, none⟩ = some (.int .i64 L) ∧ W'.cell? ⟨w.heap.size, 1, none⟩ = some (.slice (some ⟨b1, o1, none⟩) n3 c1) ∧ W'.cell? ⟨w.heap.size, 2, none⟩ = some (.slice (some ⟨b2, o2, none⟩) n3 c2) ∧ W'.cell? ⟨w.heap.size, 3, none⟩ = some (.slice (some ⟨b3, o3, none⟩) n3 c3) ∧ Below wr.heap.size wr W') ((refine HQ.out _ ?_; first | exact (Below.refl _ _).drew | assumption)) (first | (go_at_call 76; obtain ⟨_, _, _, _, hBW⟩ := ‹_ ∧ _ ∧ _ ∧ _ ∧ Below wr.heap.size wr _›; first | ((with_reducible refine (lasts_any ((k : Int) + 1) false _ (HE.out.to (bjoin HBR.out hBW)) HO.out (by omega) (by omega)).mono ?_); rintro e wn ⟨rfl, hbn⟩; have hBN := bjoin hBW hbn) | ((with_reducible refine (lasts_any (a) false _ (HE.out.to (bjoin HBR.out hBW)) HO.out (by omega) (by omega)).mono ?_); rintro e wn ⟨rfl, hbn⟩; have hBN := bjoin hBW hbn)))
            obtain ⟨_, _, _, _, hBW⟩ := ‹_ ∧ _ ∧ _ ∧ _ ∧ Below wr.heap.size wr _›
            have HZ := Lib.hid hBW; clear hBW
            have HBX := Lib.hid (bjoin HBR.out HZ.out)
            have HCX := Lib.hid (bjoin HCR.out HZ.out)
            have HWX := Lib.hid (bjoin HWR.out HZ.out)
            clear HZ HQ ql0 qc0_0 qc0_1 qc0_2 qc0_3
            obtain ⟨wx, rfl⟩ : ∃ wx, wx = wn := ⟨_, rfl⟩
            have ql0 := keep_lt (b := w.heap.size) HCX.out (by simp <;> omega)
            have qc0_0 := keep_cell (b := w.heap.size) (o := 0) (v := .int .i64 L) HCX.out (by simp <;> omega) (by simp [go_sem])
            have qc0_1 := keep_cell (b := w.heap.size) (o := 1) (v := .slice (some ⟨b1, o1, none⟩) n3 c1) HCX.out (by simp <;> omega) (by simp [go_sem])
            have qc0_2 := keep_cell (b := w.heap.size) (o := 2) (v := .slice (some ⟨b2, o2, none⟩) n3 c2) HCX.out (by simp <;> omega) (by simp [go_sem])
            have qc0_3 := keep_cell (b := w.heap.size) (o := 3) (v := .slice (some ⟨b3, o3, none⟩) n3 c3) HCX.out (by simp <;> omega) (by simp [go_sem])
            have HQ := Lib.hid (show ∀ W', Below wx.heap.size wx W' → W'.cell? ⟨w.heap.size, 0, none⟩ = some (.int .i64 L) ∧ W'.cell? ⟨w.heap.size, 1, none⟩ = some (.slice (some ⟨b1, o1, none⟩) n3 c1) ∧ W'.cell? ⟨w.heap.size, 2, none⟩ = some (.slice (some ⟨b2, o2, none⟩) n3 c2) ∧ W'.cell? ⟨w.heap.size, 3, none⟩ = some (.slice (some ⟨b3, o3, none⟩) n3 c3) ∧ Below wx.heap.size wx W' from fun W' hBW => ⟨keep_cell hBW ql0 qc0_0, keep_cell hBW ql0 qc0_1, keep_cell hBW ql0 qc0_2, keep_cell hBW ql0 qc0_3, hBW⟩)
            go_wp2
            go_region_held3 (fun W' => W'.cell? ⟨w.heap.size, 0, none⟩ = some (.int .i64 L) ∧ W'.cell? ⟨w.heap.size, 1, none⟩ = some (.slice (some ⟨b1, o1, none⟩) n3 c1) ∧ W'.cell? ⟨w.heap.size, 2, none⟩ = some (.slice (some ⟨b2, o2, none⟩) n3 c2) ∧ W'.cell? ⟨w.heap.size, 3, none⟩ = some (.slice (some ⟨b3, o3, none⟩) n3 c3) ∧ Below wx.heap.size wx W') ((refine HQ.out _ ?_; first | exact (Below.refl _ _).drew | assumption)) (first | (go_at_call 76; obtain ⟨_, _, _, _, hBW⟩ := ‹_ ∧ _ ∧ _ ∧ _ ∧ Below wx.heap.size wx _›; first | ((with_reducible refine (lasts_any ((k : Int) + 1) false _ (HE.out.to (bjoin HBX.out hBW)) HO.out (by omega) (by omega)).mono ?_); rintro e wn ⟨rfl, hbn⟩; have hBN := bjoin hBW hbn) | ((with_reducible refine (lasts_any (c) false _ (HE.out.to (bjoin HBX.out hBW)) HO.out (by omega) (by omega)).mono ?_); rintro e wn ⟨rfl, hbn⟩; have hBN := bjoin hBW hbn)))
            obtain ⟨_, _, _, _, hBW⟩ := ‹_ ∧ _ ∧ _ ∧ _ ∧ Below wx.heap.size wx _›
            have HZ := Lib.hid hBW; clear hBW
            go_wp2
            go_roundw
            case rel => exact ⟨k + 1, by omega, by rw [HA.out], by rw [HM.out], by go_num, bjoin HWX.out HZ.out⟩
            case measure => simp [intOf]; omega
          · have t8 : ¬ lastF L D R S a false < lastF L D R S ((k : Int) + 1) false := t80
            have t10 : ¬ lastF L D R S ((k : Int) + 1) false < lastF L D R S c false := t100
            have HA := Lib.hid (show amax (lightF L D R S) (k + 1) = a by rw [amax, ha]; exact if_neg t80)
            have HM := Lib.hid (show amin (lightF L D R S) (k + 1) = c by rw [amin, hc0]; exact if_neg t100)
            clear t80 t100 ha hc0
            have ql0 := keep_lt (b := w.heap.size) HCR.out (by simp <;> omega)
            have qc0_0 := keep_cell (b := w.heap.size) (o := 0) (v := .int .i64 L) HCR.out (by simp <;> omega) (by simp [go_sem])
            have qc0_1 := keep_cell (b := w.heap.size) (o := 1) (v := .slice (some ⟨b1, o1, none⟩) n3 c1) HCR.out (by simp <;> omega) (by simp [go_sem])
            have qc0_2 := keep_cell (b := w.heap.size) (o := 2) (v := .slice (some ⟨b2, o2, none⟩) n3 c2) HCR.out (by simp <;> omega) (by simp [go_sem])
            have qc0_3 := keep_cell (b := w.heap.size) (o := 3) (v := .slice (some ⟨b3, o3, none⟩) n3 c3) HCR.out (by simp <;> omega) (by simp [go_sem])
            have HQ := Lib.hid (show ∀ W', Below wr.heap.size wr W' → W'.cell? ⟨w.heap.size, 0, none⟩ = some (.int .i64 L) ∧ W'.cell? ⟨w.heap.size, 1, none⟩ = some (.slice (some ⟨b1, o1, none⟩) n3 c1) ∧ W'.cell? ⟨w.heap.size, 2, none⟩ = some (.slice (some ⟨b2, o2, none⟩) n3 c2) ∧ W'.cell? ⟨w.heap.size, 3, none⟩ = some (.slice (some ⟨b3, o3, none⟩) n3 c3) ∧ Below wr.heap.size wr W' from fun W' hBW => ⟨keep_cell hBW ql0 qc0_0, keep_cell hBW ql0 qc0_1, keep_cell hBW ql0 qc0_2, keep_cell hBW ql0 qc0_3, hBW⟩)
            go_wp2
            go_region_held3 (fun W' => W'.cell? ⟨w.heap.size, 0, none⟩ = some (.int .i64 L) ∧ W'.cell? ⟨w.heap.size, 1, none⟩ = some (.slice (some ⟨b1, o1, none⟩) n3 c1) ∧ W'.cell? ⟨w.heap.size, 2, none⟩ = some (.slice (some ⟨b2, o2, none⟩) n3 c2) ∧ W'.cell? ⟨w.heap.size, 3, none⟩ = some (.slice (some ⟨b3, o3, none⟩) n3 c3) ∧ Below wr.heap.size wr W') ((refine HQ.out _ ?_; first | exact (Below.refl _ _).drew | assumption)) (first | (go_at_call 76; obtain ⟨_, _, _, _, hBW⟩ := ‹_ ∧ _ ∧ _ ∧ _ ∧ Below wr.heap.size wr _›; first | ((with_reducible refine (lasts_any ((k : Int) + 1) false _ (HE.out.to (bjoin HBR.out hBW)) HO.out (by omega) (by omega)).mono ?_); rintro e wn ⟨rfl, hbn⟩; have hBN := bjoin hBW hbn) | ((with_reducible refine (lasts_any (a) false _ (HE.out.to (bjoin HBR.out hBW)) HO.out (by omega) (by omega)).mono ?_); rintro e wn ⟨rfl, hbn⟩; have hBN := bjoin hBW hbn)))
            obtain ⟨_, _, _, _, hBW⟩ := ‹_ ∧ _ ∧ _ ∧ _ ∧ Below wr.heap.size wr _›
            have HZ := Lib.hid hBW; clear hBW
            have HBX := Lib.hid (bjoin HBR.out HZ.out)
            have HCX := Lib.hid (bjoin HCR.out HZ.out)
            have HWX := Lib.hid (bjoin HWR.out HZ.out)
            clear HZ HQ ql0 qc0_0 qc0_1 qc0_2 qc0_3
            obtain ⟨wx, rfl⟩ : ∃ wx, wx = wn := ⟨_, rfl⟩
            have ql0 := keep_lt (b := w.heap.size) HCX.out (by simp <;> omega)
            have qc0_0 := keep_cell (b := w.heap.size) (o := 0) (v := .int .i64 L) HCX.out (by simp <;> omega) (by simp [go_sem])
            have qc0_1 := keep_cell (b := w.heap.size) (o := 1) (v := .slice (some ⟨b1, o1, none⟩) n3 c1) HCX.out (by simp <;> omega) (by simp [go_sem])
            have qc0_2 := keep_cell (b := w.heap.size) (o := 2) (v := .slice (some ⟨b2, o2, none⟩) n3 c2) HCX.out (by simp <;> omega) (by simp [go_sem])
            have qc0_3 := keep_cell (b := w.heap.size) (o := 3) (v := .slice (some ⟨b3, o3, none⟩) n3 c3) HCX.out (by simp <;> omega) (by simp [go_sem])
            have HQ := Lib.hid (show ∀ W', Below wx.heap.size wx W' → W'.cell? ⟨w.heap.size, 0, none⟩ = some (.int .i64 L) ∧ W'.cell? ⟨w.heap.size, 1, none⟩ = some (.slice (some ⟨b1, o1, none⟩) n3 c1) ∧ W'.cell? ⟨w.heap.size, 2, none⟩ = some (.slice (some ⟨b2, o2, none⟩) n3 c2) ∧ W'.cell? ⟨w.heap.size, 3, none⟩ = some (.slice (some ⟨b3, o3, none⟩) n3 c3) ∧ Below wx.heap.size wx W' from fun W' hBW => ⟨keep_cell hBW ql0 qc0_0, keep_cell hBW ql0 qc0_1, keep_cell hBW ql0 qc0_2, keep_cell hBW ql0 qc0_3, hBW⟩)
            go_wp2
            go_region_held3 (fun W' => W'.cell? ⟨w.heap.size, 0, none⟩ = some (.int .i64 L) ∧ W'.cell? ⟨w.heap.size, 1, none⟩ = some (.slice (some ⟨b1, o1, none⟩) n3 c1) ∧ W'.cell? ⟨w.heap.size, 2, none⟩ = some (.slice (some ⟨b2, o2, none⟩) n3 c2) ∧ W'.cell? ⟨w.heap.size, 3, none⟩ = some (.slice (some ⟨b3, o3, none⟩) n3 c3) ∧ Below wx.heap.size wx W') ((refine HQ.out _ ?_; first | exact (Below.refl _ _).drew | assumption)) (first | (go_at_call 76; obtain ⟨_, _, _, _, hBW⟩ := ‹_ ∧ _ ∧ _ ∧ _ ∧ Below wx.heap.size wx _›; first | ((with_reducible refine (lasts_any ((k : Int) + 1) false _ (HE.out.to (bjoin HBX.out hBW)) HO.out (by omega) (by omega)).mono ?_); rintro e wn ⟨rfl, hbn⟩; have hBN := bjoin hBW hbn) | ((with_reducible refine (lasts_any (c) false _ (HE.out.to (bjoin HBX.out hBW)) HO.out (by omega) (by omega)).mono ?_); rintro e wn ⟨rfl, hbn⟩; have hBN := bjoin hBW hbn)))
            obtain ⟨_, _, _, _, hBW⟩ := ‹_ ∧ _ ∧ _ ∧ _ ∧ Below wx.heap.size wx _›
            have HZ := Lib.hid hBW; clear hBW
            go_wp2
            go_roundw
            case rel => exact ⟨k + 1, by omega, by rw [HA.out], by rw [HM.out], by go_num, bjoin HWX.out HZ.out⟩
            case measure => simp [intOf]; omega
      · have hkL : topF L = k := by unfold topF; omega
        have HK := Lib.hid hkL; clear hkL
        have qd0_0 := keep_cell (b := w.heap.size) (o := 0) (v := .int .i64 L) HCR.out (by simp <;> omega) (by simp [go_sem])
        have qd0_1 := keep_cell (b := w.heap.size) (o := 1) (v := .slice (some ⟨b1, o1, none⟩) n3 c1) HCR.out (by simp <;> omega) (by simp [go_sem])
        have qd0_2 := keep_cell (b := w.heap.size) (o := 2) (v := .slice (some ⟨b2, o2, none⟩) n3 c2) HCR.out (by simp <;> omega) (by simp [go_sem])
        have qd0_3 := keep_cell (b := w.heap.size) (o := 3) (v := .slice (some ⟨b3, o3, none⟩) n3 c3) HCR.out (by simp <;> omega) (by simp [go_sem])
        go_wp2
        go_ret3
        exact ⟨by first | (rw [HK.out]; rfl) | (rw [hck, HK.out]; rfl), HBR.out⟩
    
  · have hck := ck_no hok
    have HS := Lib.hid hs; clear hs hok
    go_enter Tryd.func33, Tryd.ntmps33
    go_wp2_with fail
    refine (rcheck_any _ (HS.out.to (by go_grown)).D (HS.out.to (by go_grown)).R (HS.out.to (by go_grown)).S HS.out.d HS.out.r HS.out.s).mono ?_
    rintro e w1 ⟨rfl, hb1⟩
    obtain ⟨hc, hf⟩ := bcell hb1
    have HB := Lib.hid (bjoin (w := w) (by go_grown) hb1)
    have HC := Lib.hid hb1; clear hb1
    go_wp2
    go_ret3
    exact ⟨by rw [hck]; rfl, HB.out⟩

end Go.Proofs.YtomlfliebolkmaaDoor
