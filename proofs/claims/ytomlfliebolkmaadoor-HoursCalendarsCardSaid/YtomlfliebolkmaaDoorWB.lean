/-
  The reference's look-up in a table (line), by contract; what a season's lists are in memory. No condition beyond what each states.
-/
import Derived.Test.YtomlfliebolkmaaDoorWA
import Derived.Deep.RegionWith
import Derived.Deep.RegionHeld3
import Derived.StillTailTactics
namespace Go.Proofs.YtomlfliebolkmaaDoor
open Go Go.Proofs Go.RowKit Pl

def LineRel (L : Int) (D : List Int) (p : Int) (q k a : Nat) (f : Int) : Prop := (idx D p k < 0 ∧ a = q ∧ f = D[q]?.getD 0 - L) ∨ (idx D p k = a ∧ f = D[a]?.getD 0)
set_option maxHeartbeats 1000000 in
theorem line_any {L : Int} {n b1 o1 c1 b2 o2 c2 b3 o3 c3 bt ot ct : Nat} {D T R S : List Int} (p : Int) (w : World) (hD : Lst w w.heap.size b1 o1 n D) (hT : Lst w w.heap.size bt ot n T) (hok : Ok L D R S)
   (hb : ∀ i, i < n → 0 ≤ T[i]?.getD 0 ∧ T[i]?.getD 0 ≤ 2000) (hm0 : 0 ≤ p) (hm1 : p < L) :
   Calls Tryd.prog 107 #[.agg #[.int .i64 L, .slice (some ⟨b1, o1, none⟩) n c1, .slice (some ⟨b2, o2, none⟩) n c2, .slice (some ⟨b3, o3, none⟩) n c3], .slice (some ⟨bt, ot, none⟩) n ct, .int .i64 p] w
     fun e w' => e = .returned (.int .i64 (tab L D T p)) ∧ Below w.heap.size w w' := by
  obtain ⟨q, rfl⟩ : ∃ q, n = q + 1 := ⟨n - 1, by have := hok.n1; have := hD.len; omega⟩
  have hn2 : q + 1 ≤ 24 := by have := hok.n2; have := hD.len; omega
  have hL1 := hok.L1; have hL2 := hok.L2
  have hbl := hD.lt; have hbt := hT.lt
  have HF := Lib.hid (fr_to hok p hm0 hm1)
  have HD := Lib.hid hD.len
  have H1 := Lib.hid hD.cell; have H2 := Lib.hid hT.cell; have H3 := Lib.hid hb; have H4 := Lib.hid hok.D0
  clear hb hD hT hok
  have hcq := H1.out q (by omega)
  have hdq := H4.out q (by rw [HD.out]; omega)
  go_enter Tryd.func107, Tryd.ntmps107
  go_wp2
  have wq := IntWalk.i64_in (D[q]?.getD 0 - L) (by omega)
  go_quiet (fail)
  clear wq
  go_wp2
  go_loop [8, 9, 10] (fun va vf vi => ∃ k a : Nat, ∃ f : Int, k ≤ q + 1 ∧ a ≤ q ∧ LineRel L D p q k a f ∧ va = .int .i64 a ∧ vf = .int .i64 f ∧ vi = .int .i64 k) (fun _ _ vi => q + 1 - (intOf vi).toNat)
  case atStart => exact ⟨0, q, _, by omega, Nat.le_refl _, Or.inl ⟨by simp [idx], rfl, rfl⟩, rfl, rfl, rfl⟩
  case round =>
    obtain ⟨k, a, f, hk, ha, hr, rfl, rfl, rfl⟩ := hrel
    have HR := Lib.hid hr; clear hr
    by_cases hlt : k < q + 1
    · have hck := H1.out k hlt
      by_cases hle : D[k]?.getD 0 ≤ p
      · have HN := Lib.hid (show LineRel L D p q (k + 1) k (D[k]?.getD 0) from Or.inr ⟨by rw [idx, if_pos hle], rfl⟩)
        go_wp2
        go_round
        case rel => exact ⟨k + 1, k, _, by omega, by omega, HN.out, rfl, rfl, by go_num⟩
        case measure => simp [intOf]; omega
      · have HN := Lib.hid (show LineRel L D p q (k + 1) a f by
          have := HR.out
          unfold LineRel at this ⊢
          rw [idx, if_neg hle]; exact this)
        go_wp2
        go_round
        case rel => exact ⟨k + 1, a, f, by omega, by omega, HN.out, rfl, rfl, by go_num⟩
        case measure => simp [intOf]; omega
    · obtain rfl : k = q + 1 := by omega
      rcases HR.out with ⟨hI, e1, e2⟩ | ⟨hI, e2⟩
      · obtain rfl : a = q := e1
        subst e2
        have hI' : idx D p (a + 1) = -1 := by have := idx_bd D p (a + 1); omega
        have iA : ixA D p = a := by unfold ixA; rw [HD.out, if_pos hI]; omega
        have iB : ixB D p = 0 := by unfold ixB; rw [HD.out, hI', if_neg (by omega)]; rfl
        have hfr : fr L D p = D[a]?.getD 0 - L := by unfold fr; rw [HD.out, if_pos hI, iA]
        have hto : to L D p = D[0]?.getD 0 := by unfold to; rw [HD.out, if_pos hI, iB]
        clear HR hI hI' hlt
        have HT := Lib.hid (show tab L D T p = T[a]?.getD 0 + (T[0]?.getD 0 - T[a]?.getD 0) * (p - (D[a]?.getD 0 - L)) / (D[0]?.getD 0 - (D[a]?.getD 0 - L)) by
          unfold tab; rw [iA, iB, hfr, hto, Int.mul_comm (T[0]?.getD 0 - T[a]?.getD 0)])
        have hF := HF.out
        rw [hfr, hto] at hF
        clear iA iB hfr hto HF
        have hca := H1.out (a) (by omega)
        have hcb := H1.out (0) (by omega); rw [Nat.add_zero] at hcb
        have hta := H2.out (a) (by omega)
        have htb := H2.out (0) (by omega); rw [Nat.add_zero] at htb
        have hb1 := H3.out (a) (by omega)
        have hb2 := H3.out (0) (by omega)
        have hd2 := H4.out (a) (by rw [HD.out]; omega)
        have hd3 := H4.out (0) (by rw [HD.out]; omega)
        go_wp2
        have hmul := mul_bd (p - (D[a]?.getD 0 - L)) (T[0]?.getD 0 - T[a]?.getD 0) 800 2000 (by omega) (by omega) (by omega) (by omega) (by omega)
        rw [Int.mul_comm (p - (D[a]?.getD 0 - L))] at hmul
        have w1 := IntWalk.i64_in (p - (D[a]?.getD 0 - L)) (by omega)
        have w2 := IntWalk.i64_in (T[0]?.getD 0 - T[a]?.getD 0) (by omega)
        have w3 := IntWalk.i64_in ((T[0]?.getD 0 - T[a]?.getD 0) * (p - (D[a]?.getD 0 - L))) (by omega)
        have w4 := IntWalk.i64_in (D[0]?.getD 0 - (D[a]?.getD 0 - L)) (by omega)
        have w5 := IntWalk.i64_in (T[a]?.getD 0 + (T[0]?.getD 0 - T[a]?.getD 0) * (p - (D[a]?.getD 0 - L)) / (D[0]?.getD 0 - (D[a]?.getD 0 - L))) (by
          have := div_bd ((T[0]?.getD 0 - T[a]?.getD 0) * (p - (D[a]?.getD 0 - L))) (D[0]?.getD 0 - (D[a]?.getD 0 - L)) 1600000 (by omega) (by omega)
          omega)
        go_quiet ((go_at_call 117; refine quiet_add (rdown_any _ _ _ ?_ ?_ ?_) <;> omega))
        go_wp2
        go_ret
        exact ⟨ret_int HT.out.symm, by (repeat refine below_drewN ?_ _); go_grown⟩
      · subst e2
        have iA : ixA D p = a := by unfold ixA; rw [HD.out, hI, if_neg (by omega)]; omega
        have hfr : fr L D p = D[a]?.getD 0 := by unfold fr; rw [HD.out, hI, if_neg (by omega), iA]
        by_cases hl : a < q
        · have iB : ixB D p = a + 1 := by unfold ixB; rw [HD.out, hI, if_neg (by omega)]; omega
          have hto : to L D p = D[a+1]?.getD 0 := by unfold to; rw [HD.out, hI, if_neg (by omega), if_neg (by omega), iB]
          clear HR hI hlt
          have HT := Lib.hid (show tab L D T p = T[a]?.getD 0 + (T[a + 1]?.getD 0 - T[a]?.getD 0) * (p - (D[a]?.getD 0)) / (D[a + 1]?.getD 0 - (D[a]?.getD 0)) by
            unfold tab; rw [iA, iB, hfr, hto, Int.mul_comm (T[a + 1]?.getD 0 - T[a]?.getD 0)])
          have hF := HF.out
          rw [hfr, hto] at hF
          clear iA iB hfr hto HF
          have hca := H1.out (a) (by omega)
          have hcb := H1.out (a + 1) (by omega)
          have hta := H2.out (a) (by omega)
          have htb := H2.out (a + 1) (by omega)
          have hb1 := H3.out (a) (by omega)
          have hb2 := H3.out (a + 1) (by omega)
          have hd2 := H4.out (a) (by rw [HD.out]; omega)
          have hd3 := H4.out (a + 1) (by rw [HD.out]; omega)
          have hne : ((a : Int) + 1 == (q : Int) + 1) = false := by rw [beq_eq_false_iff_ne]; omega
          go_wp2
          have hmul := mul_bd (p - (D[a]?.getD 0)) (T[a + 1]?.getD 0 - T[a]?.getD 0) 800 2000 (by omega) (by omega) (by omega) (by omega) (by omega)
          rw [Int.mul_comm (p - (D[a]?.getD 0))] at hmul
          have w1 := IntWalk.i64_in (p - (D[a]?.getD 0)) (by omega)
          have w2 := IntWalk.i64_in (T[a + 1]?.getD 0 - T[a]?.getD 0) (by omega)
          have w3 := IntWalk.i64_in ((T[a + 1]?.getD 0 - T[a]?.getD 0) * (p - (D[a]?.getD 0))) (by omega)
          have w4 := IntWalk.i64_in (D[a + 1]?.getD 0 - (D[a]?.getD 0)) (by omega)
          have w5 := IntWalk.i64_in (T[a]?.getD 0 + (T[a + 1]?.getD 0 - T[a]?.getD 0) * (p - (D[a]?.getD 0)) / (D[a + 1]?.getD 0 - (D[a]?.getD 0))) (by
            have := div_bd ((T[a + 1]?.getD 0 - T[a]?.getD 0) * (p - (D[a]?.getD 0))) (D[a + 1]?.getD 0 - (D[a]?.getD 0)) 1600000 (by omega) (by omega)
            omega)
          go_quiet ((go_at_call 117; refine quiet_add (rdown_any _ _ _ ?_ ?_ ?_) <;> omega))
          go_wp2
          go_ret
          exact ⟨ret_int HT.out.symm, by (repeat refine below_drewN ?_ _); go_grown⟩
        · obtain rfl : a = q := by omega
          have iB : ixB D p = 0 := by unfold ixB; rw [HD.out, hI, if_pos (by omega)]
          have hto : to L D p = D[0]?.getD 0 + L := by unfold to; rw [HD.out, hI, if_neg (by omega), if_pos (by omega), iB]
          clear HR hI hlt
          have HT := Lib.hid (show tab L D T p = T[a]?.getD 0 + (T[0]?.getD 0 - T[a]?.getD 0) * (p - (D[a]?.getD 0)) / (D[0]?.getD 0 + L - (D[a]?.getD 0)) by
            unfold tab; rw [iA, iB, hfr, hto, Int.mul_comm (T[0]?.getD 0 - T[a]?.getD 0)])
          have hF := HF.out
          rw [hfr, hto] at hF
          clear iA iB hfr hto HF
          have hca := H1.out (a) (by omega)
          have hcb := H1.out (0) (by omega); rw [Nat.add_zero] at hcb
          have hta := H2.out (a) (by omega)
          have htb := H2.out (0) (by omega); rw [Nat.add_zero] at htb
          have hb1 := H3.out (a) (by omega)
          have hb2 := H3.out (0) (by omega)
          have hd2 := H4.out (a) (by rw [HD.out]; omega)
          have hd3 := H4.out (0) (by rw [HD.out]; omega)
          go_wp2
          have hmul := mul_bd (p - (D[a]?.getD 0)) (T[0]?.getD 0 - T[a]?.getD 0) 800 2000 (by omega) (by omega) (by omega) (by omega) (by omega)
          rw [Int.mul_comm (p - (D[a]?.getD 0))] at hmul
          have w1 := IntWalk.i64_in (p - (D[a]?.getD 0)) (by omega)
          have w2 := IntWalk.i64_in (T[0]?.getD 0 - T[a]?.getD 0) (by omega)
          have w3 := IntWalk.i64_in ((T[0]?.getD 0 - T[a]?.getD 0) * (p - (D[a]?.getD 0))) (by omega)
          have w4 := IntWalk.i64_in (D[0]?.getD 0 + L - (D[a]?.getD 0)) (by omega)
          have w5 := IntWalk.i64_in (T[a]?.getD 0 + (T[0]?.getD 0 - T[a]?.getD 0) * (p - (D[a]?.getD 0)) / (D[0]?.getD 0 + L - (D[a]?.getD 0))) (by
            have := div_bd ((T[0]?.getD 0 - T[a]?.getD 0) * (p - (D[a]?.getD 0))) (D[0]?.getD 0 + L - (D[a]?.getD 0)) 1600000 (by omega) (by omega)
            omega)
          go_quiet ((go_at_call 117; refine quiet_add (rdown_any _ _ _ ?_ ?_ ?_) <;> omega))
          go_wp2
          go_ret
          exact ⟨ret_int HT.out.symm, by (repeat refine below_drewN ?_ _); go_grown⟩

/-- A season's three lists lie in memory. -/
structure Sea (w : World) (n b1 o1 b2 o2 b3 o3 : Nat) (D R S : List Int) : Prop where
  D : Lst w w.heap.size b1 o1 n D
  R : Lst w w.heap.size b2 o2 n R
  S : Lst w w.heap.size b3 o3 n S
theorem Lst.to {w W : World} {b o n : Nat} {xs : List Int} (h : Lst w w.heap.size b o n xs) (hb : Below w.heap.size w W) : Lst W W.heap.size b o n xs :=
  ⟨h.len, (h.below hb (Nat.le_refl _)).cell, Nat.lt_of_lt_of_le h.lt hb.size⟩
theorem Sea.to {w W : World} {n b1 o1 b2 o2 b3 o3 : Nat} {D R S : List Int} (h : Sea w n b1 o1 b2 o2 b3 o3 D R S) (hb : Below w.heap.size w W) : Sea W n b1 o1 b2 o2 b3 o3 D R S :=
  ⟨h.D.to hb, h.R.to hb, h.S.to hb⟩
theorem Sea.Rb {w : World} {n b1 o1 b2 o2 b3 o3 : Nat} {L : Int} {D R S : List Int} (h : Sea w n b1 o1 b2 o2 b3 o3 D R S) (hok : Ok L D R S) : ∀ i, i < n → 0 ≤ R[i]?.getD 0 ∧ R[i]?.getD 0 ≤ 2000 :=
  fun i hi => by have := hok.Rb i (by rw [h.R.len]; exact hi); omega
theorem Sea.Sb {w : World} {n b1 o1 b2 o2 b3 o3 : Nat} {L : Int} {D R S : List Int} (h : Sea w n b1 o1 b2 o2 b3 o3 D R S) (hok : Ok L D R S) : ∀ i, i < n → 0 ≤ S[i]?.getD 0 ∧ S[i]?.getD 0 ≤ 2000 :=
  fun i hi => by have := hok.Sb i (by rw [h.S.len]; exact hi); omega
theorem bjoin {w W w1 : World} (h1 : Below w.heap.size w W) (h2 : Below W.heap.size W w1) : Below w.heap.size w w1 := h1.trans (h2.mono h1.size)
theorem Pl.Ok.pos {L : Int} {D R S : List Int} (h : Ok L D R S) : 0 < L := by have := h.L1; omega

end Go.Proofs.YtomlfliebolkmaaDoor
