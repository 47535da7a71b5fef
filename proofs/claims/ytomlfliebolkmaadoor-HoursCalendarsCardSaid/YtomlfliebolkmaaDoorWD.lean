/-
  The moments of hours by contract, in the program and in the reference. No condition beyond what each states.
-/
import Derived.Test.YtomlfliebolkmaaDoorWC
namespace Go.Proofs.YtomlfliebolkmaaDoor
open Go Go.Proofs Go.RowKit Pl

set_option maxHeartbeats 1000000 in
theorem rrise_any {L : Int} {n b1 o1 c1 b2 o2 c2 b3 o3 c3 : Nat} {D R S : List Int} (day : Int) (w : World) (hs : Sea w n b1 o1 b2 o2 b3 o3 D R S) (hok : Ok L D R S) (h0 : 0 ≤ day) (_h1 : day ≤ 20000) :
   Calls Tryd.prog 71 #[.agg #[.int .i64 L, .slice (some ⟨b1, o1, none⟩) n c1, .slice (some ⟨b2, o2, none⟩) n c2, .slice (some ⟨b3, o3, none⟩) n c3], .int .i64 day] w
     fun e w' => e = .returned (.int .i64 (riseF L D R day)) ∧ Below w.heap.size w w' := by
  have hL := hok.pos
  have hL0 : ¬ L = 0 := by omega
  have hmod : day.tmod L = day % L := Int.tmod_eq_emod_of_nonneg h0
  have HS := Lib.hid hs; have HO := Lib.hid hok; clear hs hok
  go_enter Tryd.func71, Tryd.ntmps71
  go_wp2
  have hX := boxed0 w L (.slice (some ⟨b1, o1, none⟩) n c1) (.slice (some ⟨b2, o2, none⟩) n c2) (.slice (some ⟨b3, o3, none⟩) n c3) 24
  generalize w.alloc _ = W at hX ⊢
  have hz := hX.c0; have hz1 := hX.c1; have hz2 := hX.c2; have hz3 := hX.c3
  have HX := Lib.hid hX; clear hX
  go_region_held3 (fun W' => W'.cell? ⟨w.heap.size, 0, none⟩ = some (.int .i64 L) ∧ W'.cell? ⟨w.heap.size, 1, none⟩ = some (.slice (some ⟨b1, o1, none⟩) n c1) ∧ W'.cell? ⟨w.heap.size, 2, none⟩ = some (.slice (some ⟨b2, o2, none⟩) n c2) ∧ W'.cell? ⟨w.heap.size, 3, none⟩ = some (.slice (some ⟨b3, o3, none⟩) n c3) ∧ Boxed0 w W' L (.slice (some ⟨b1, o1, none⟩) n c1) (.slice (some ⟨b2, o2, none⟩) n c2) (.slice (some ⟨b3, o3, none⟩) n c3))
    ((refine Boxed0.all ?_; first | exact Boxed0.drew HX.out | assumption))
    (first | (go_at_call 107; obtain ⟨_, _, _, _, hB⟩ := ‹_ ∧ _ ∧ _ ∧ _ ∧ Boxed0 _ _ _ _ _ _›; (with_reducible refine (line_any _ _ (HS.out.to hB.b).D (HS.out.to hB.b).R HO.out (HS.out.Rb HO.out) (Int.emod_nonneg _ hL0) (Int.emod_lt_of_pos _ hL)).mono ?_); rintro e w1 ⟨rfl, hb1⟩; have hB1 := hB.on hb1))
  obtain ⟨_, _, _, _, hB⟩ := ‹_ ∧ _ ∧ _ ∧ _ ∧ Boxed0 _ _ _ _ _ _›
  have HY := Lib.hid hB; clear hB
  go_wp2
  go_ret
  exact ⟨rfl, HY.out.b⟩

set_option maxHeartbeats 1000000 in
theorem rset_any {L : Int} {n b1 o1 c1 b2 o2 c2 b3 o3 c3 : Nat} {D R S : List Int} (day : Int) (w : World) (hs : Sea w n b1 o1 b2 o2 b3 o3 D R S) (hok : Ok L D R S) (h0 : 0 ≤ day) (_h1 : day ≤ 20000) :
   Calls Tryd.prog 72 #[.agg #[.int .i64 L, .slice (some ⟨b1, o1, none⟩) n c1, .slice (some ⟨b2, o2, none⟩) n c2, .slice (some ⟨b3, o3, none⟩) n c3], .int .i64 day] w
     fun e w' => e = .returned (.int .i64 (riseF L D S day)) ∧ Below w.heap.size w w' := by
  have hL := hok.pos
  have hL0 : ¬ L = 0 := by omega
  have hmod : day.tmod L = day % L := Int.tmod_eq_emod_of_nonneg h0
  have HS := Lib.hid hs; have HO := Lib.hid hok; clear hs hok
  go_enter Tryd.func72, Tryd.ntmps72
  go_wp2
  have hX := boxed0 w L (.slice (some ⟨b1, o1, none⟩) n c1) (.slice (some ⟨b2, o2, none⟩) n c2) (.slice (some ⟨b3, o3, none⟩) n c3) 24
  generalize w.alloc _ = W at hX ⊢
  have hz := hX.c0; have hz1 := hX.c1; have hz2 := hX.c2; have hz3 := hX.c3
  have HX := Lib.hid hX; clear hX
  go_region_held3 (fun W' => W'.cell? ⟨w.heap.size, 0, none⟩ = some (.int .i64 L) ∧ W'.cell? ⟨w.heap.size, 1, none⟩ = some (.slice (some ⟨b1, o1, none⟩) n c1) ∧ W'.cell? ⟨w.heap.size, 2, none⟩ = some (.slice (some ⟨b2, o2, none⟩) n c2) ∧ W'.cell? ⟨w.heap.size, 3, none⟩ = some (.slice (some ⟨b3, o3, none⟩) n c3) ∧ Boxed0 w W' L (.slice (some ⟨b1, o1, none⟩) n c1) (.slice (some ⟨b2, o2, none⟩) n c2) (.slice (some ⟨b3, o3, none⟩) n c3))
    ((refine Boxed0.all ?_; first | exact Boxed0.drew HX.out | assumption))
    (first | (go_at_call 107; obtain ⟨_, _, _, _, hB⟩ := ‹_ ∧ _ ∧ _ ∧ _ ∧ Boxed0 _ _ _ _ _ _›; (with_reducible refine (line_any _ _ (HS.out.to hB.b).D (HS.out.to hB.b).S HO.out (HS.out.Sb HO.out) (Int.emod_nonneg _ hL0) (Int.emod_lt_of_pos _ hL)).mono ?_); rintro e w1 ⟨rfl, hb1⟩; have hB1 := hB.on hb1))
  obtain ⟨_, _, _, _, hB⟩ := ‹_ ∧ _ ∧ _ ∧ _ ∧ Boxed0 _ _ _ _ _ _›
  have HY := Lib.hid hB; clear hB
  go_wp2
  go_ret
  exact ⟨rfl, HY.out.b⟩

set_option maxHeartbeats 1000000 in
theorem lasts_any {L : Int} {n b1 o1 c1 b2 o2 c2 b3 o3 c3 : Nat} {D R S : List Int} (day : Int) (night : Bool) (w : World) (hs : Sea w n b1 o1 b2 o2 b3 o3 D R S) (hok : Ok L D R S) (h0 : 0 ≤ day) (_h1 : day ≤ 19999) :
   Calls Tryd.prog 76 #[.agg #[.int .i64 L, .slice (some ⟨b1, o1, none⟩) n c1, .slice (some ⟨b2, o2, none⟩) n c2, .slice (some ⟨b3, o3, none⟩) n c3], .int .i64 day, .bool night] w
     fun e w' => e = .returned (.int .i64 (lastF L D R S day night)) ∧ Below w.heap.size w w' := by
  have hr := hok.rise day; have hse := hok.set day; have hr1 := hok.rise (day + 1)
  have HS := Lib.hid hs; have HO := Lib.hid hok; clear hs hok
  cases night
  · go_enter Tryd.func76, Tryd.ntmps76
    go_wp2
    have hX := boxed0 w L (.slice (some ⟨b1, o1, none⟩) n c1) (.slice (some ⟨b2, o2, none⟩) n c2) (.slice (some ⟨b3, o3, none⟩) n c3) 24
    generalize w.alloc _ = W at hX ⊢
    have hz := hX.c0; have hz1 := hX.c1; have hz2 := hX.c2; have hz3 := hX.c3
    have HX := Lib.hid hX; clear hX
    go_region_held3 (fun W' => W'.cell? ⟨w.heap.size, 0, none⟩ = some (.int .i64 L) ∧ W'.cell? ⟨w.heap.size, 1, none⟩ = some (.slice (some ⟨b1, o1, none⟩) n c1) ∧ W'.cell? ⟨w.heap.size, 2, none⟩ = some (.slice (some ⟨b2, o2, none⟩) n c2) ∧ W'.cell? ⟨w.heap.size, 3, none⟩ = some (.slice (some ⟨b3, o3, none⟩) n c3) ∧ Boxed0 w W' L (.slice (some ⟨b1, o1, none⟩) n c1) (.slice (some ⟨b2, o2, none⟩) n c2) (.slice (some ⟨b3, o3, none⟩) n c3))
      ((refine Boxed0.all ?_; first | exact Boxed0.drew HX.out | assumption))
      (first | (go_at_call 71; obtain ⟨_, _, _, _, hB⟩ := ‹_ ∧ _ ∧ _ ∧ _ ∧ Boxed0 _ _ _ _ _ _›; (with_reducible refine (rrise_any _ _ (HS.out.to hB.b) HO.out (by omega) (by omega)).mono ?_); rintro e w1 ⟨rfl, hb1⟩; have hB1 := hB.on hb1) | (go_at_call 72; obtain ⟨_, _, _, _, hB⟩ := ‹_ ∧ _ ∧ _ ∧ _ ∧ Boxed0 _ _ _ _ _ _›; (with_reducible refine (rset_any _ _ (HS.out.to hB.b) HO.out (by omega) (by omega)).mono ?_); rintro e w1 ⟨rfl, hb1⟩; have hB1 := hB.on hb1))
    obtain ⟨_, _, _, _, hB⟩ := ‹_ ∧ _ ∧ _ ∧ _ ∧ Boxed0 _ _ _ _ _ _›
    have HY := Lib.hid hB; clear hB
    go_wp2
    go_ret
    exact ⟨ret_int (by simp (disch := omega) only [IntWalk.i64_in, lastF, Bool.false_eq_true, if_false]), HY.out.b⟩
  · go_enter Tryd.func76, Tryd.ntmps76
    go_wp2
    have hX := boxed0 w L (.slice (some ⟨b1, o1, none⟩) n c1) (.slice (some ⟨b2, o2, none⟩) n c2) (.slice (some ⟨b3, o3, none⟩) n c3) 24
    generalize w.alloc _ = W at hX ⊢
    have hz := hX.c0; have hz1 := hX.c1; have hz2 := hX.c2; have hz3 := hX.c3
    have HX := Lib.hid hX; clear hX
    have hw := IntWalk.i64_in (day + 1) (by omega)
    go_region_held3 (fun W' => W'.cell? ⟨w.heap.size, 0, none⟩ = some (.int .i64 L) ∧ W'.cell? ⟨w.heap.size, 1, none⟩ = some (.slice (some ⟨b1, o1, none⟩) n c1) ∧ W'.cell? ⟨w.heap.size, 2, none⟩ = some (.slice (some ⟨b2, o2, none⟩) n c2) ∧ W'.cell? ⟨w.heap.size, 3, none⟩ = some (.slice (some ⟨b3, o3, none⟩) n c3) ∧ Boxed0 w W' L (.slice (some ⟨b1, o1, none⟩) n c1) (.slice (some ⟨b2, o2, none⟩) n c2) (.slice (some ⟨b3, o3, none⟩) n c3))
      ((refine Boxed0.all ?_; first | exact Boxed0.drew HX.out | assumption))
      (first | (go_at_call 71; obtain ⟨_, _, _, _, hB⟩ := ‹_ ∧ _ ∧ _ ∧ _ ∧ Boxed0 _ _ _ _ _ _›; (with_reducible refine (rrise_any _ _ (HS.out.to hB.b) HO.out (by omega) (by omega)).mono ?_); rintro e w1 ⟨rfl, hb1⟩; have hB1 := hB.on hb1) | (go_at_call 72; obtain ⟨_, _, _, _, hB⟩ := ‹_ ∧ _ ∧ _ ∧ _ ∧ Boxed0 _ _ _ _ _ _›; (with_reducible refine (rset_any _ _ (HS.out.to hB.b) HO.out (by omega) (by omega)).mono ?_); rintro e w1 ⟨rfl, hb1⟩; have hB1 := hB.on hb1))
    obtain ⟨_, _, _, _, hB⟩ := ‹_ ∧ _ ∧ _ ∧ _ ∧ Boxed0 _ _ _ _ _ _›
    have HY := Lib.hid hB; clear hB
    go_wp2
    go_ret
    exact ⟨ret_int (by simp (disch := omega) only [IntWalk.i64_in, lastF, if_true]), HY.out.b⟩

theorem Pl.Ok.mom {L : Int} {D R S : List Int} (hok : Ok L D R S) (day : Int) (b : Bool) (j : Int) (h0 : 0 ≤ day) (h1 : day ≤ 19999) (hj : 0 ≤ j ∧ j ≤ 719) :
    60 ≤ begF L D R S day b ∧ begF L D R S day b ≤ 28800000 ∧ 0 ≤ lastF L D R S day b * j ∧ lastF L D R S day b * j ≤ 1006600 := by
  have hr := hok.rise day; have hs := hok.set day
  have hl := hok.last day b
  have hm := mul_bd (lastF L D R S day b) j 1400 719 (by omega) (by omega) (by omega) (by omega) (by omega)
  have hm0 : 0 ≤ lastF L D R S day b * j := Int.mul_nonneg (by omega) (by omega)
  refine ⟨?_, ?_, hm0, by omega⟩ <;> unfold begF <;> split <;> omega

set_option maxHeartbeats 1000000 in
theorem moment_any {L : Int} {n b1 o1 c1 b2 o2 c2 b3 o3 c3 : Nat} {D R S : List Int} (day : Int) (b : Bool) (h p : Int) (w : World) (hs : Sea w n b1 o1 b2 o2 b3 o3 D R S) (hok : Ok L D R S) (h0 : 0 ≤ day) (h1 : day ≤ 19999) (hh : 0 ≤ h ∧ h ≤ 11) (hp : 0 ≤ p ∧ p ≤ 59) :
   Calls Tryd.prog 85 #[.agg #[.int .i64 L, .slice (some ⟨b1, o1, none⟩) n c1, .slice (some ⟨b2, o2, none⟩) n c2, .slice (some ⟨b3, o3, none⟩) n c3], .int .i64 day, .agg #[.bool b, .int .i64 h, .int .i64 p]] w
     fun e w' => e = .returned (.int .i64 (momF L D R S day b (60 * h + p))) ∧ Below w.heap.size w w' := by
  obtain ⟨q1, q2, q3, q4⟩ := hok.mom day b (60 * h + p) h0 h1 (by omega)
  have hl := hok.last day b
  have HS := Lib.hid hs; have HO := Lib.hid hok; clear hs hok
  go_enter Tryd.func85, Tryd.ntmps85
  go_wp2_with fail
  refine (span_any day b _ (HS.out.to (by go_grown)) HO.out h0 h1).mono ?_
  rintro e w1 ⟨rfl, hb1⟩
  obtain ⟨hc, hf⟩ := bcell hb1
  have HB1 := Lib.hid hb1; clear hb1
  generalize hA : begF L D R S day b = A at *
  generalize hG : lastF L D R S day b = G at *
  have HA := Lib.hid hA; have HG := Lib.hid hG; clear hA hG
  have hsub : A + G - A = G := by omega
  go_wp2
  go_ret
  exact ⟨ret_int (by unfold momF; rw [HA.out, HG.out]), bjoin (by go_grown) HB1.out⟩

set_option maxHeartbeats 1000000 in
theorem first_any {L : Int} {n b1 o1 c1 b2 o2 c2 b3 o3 c3 : Nat} {D R S : List Int} (day : Int) (b : Bool) (h p : Int) (w : World) (hs : Sea w n b1 o1 b2 o2 b3 o3 D R S) (hok : Ok L D R S) (h0 : 0 ≤ day) (h1 : day ≤ 19999) (hh : 0 ≤ h ∧ h ≤ 11) (hp : 0 ≤ p ∧ p ≤ 59) :
   Calls Tryd.prog 106 #[.agg #[.int .i64 L, .slice (some ⟨b1, o1, none⟩) n c1, .slice (some ⟨b2, o2, none⟩) n c2, .slice (some ⟨b3, o3, none⟩) n c3], .int .i64 day, .agg #[.bool b, .int .i64 h, .int .i64 p]] w
     fun e w' => e = .returned (.int .i64 (upF (momF L D R S day b (60 * h + p)))) ∧ Below w.heap.size w w' := by
  obtain ⟨q1, q2, q3, q4⟩ := hok.mom day b (60 * h + p) h0 h1 (by omega)
  have hm : 0 ≤ momF L D R S day b (60 * h + p) ∧ momF L D R S day b (60 * h + p) ≤ 30000000000 := by unfold momF; omega
  have HS := Lib.hid hs; have HO := Lib.hid hok; clear hs hok
  go_enter Tryd.func106, Tryd.ntmps106
  go_wp2_with fail
  refine (moment_any day b h p _ (HS.out.to (by go_grown)) HO.out h0 h1 hh hp).mono ?_
  rintro e w1 ⟨rfl, hb1⟩
  have HB1 := Lib.hid hb1; clear hb1
  generalize hM : momF L D R S day b (60 * h + p) = M at *
  have HM := Lib.hid hM; clear hM
  go_wp2
  go_ret
  exact ⟨ret_int (by unfold upF; rw [HM.out]; omega), bjoin (by go_grown) HB1.out⟩

theorem up_any (m : Int) (w : World) (h : 0 ≤ m ∧ m ≤ 30000000000) : Calls Tryd.prog 87 #[.int .i64 m] w fun e w' => e = .returned (.int .i64 (upF m)) ∧ w = w' := by
  go_enter Tryd.func87, Tryd.ntmps87
  go_wp2
  go_ret
  exact ⟨rfl, rfl⟩

/-- The boxed season and, behind it, the boxed hour. -/
structure BoxedH (w W : World) (L : Int) (s1 s2 s3 : Value) (b : Bool) (h p : Int) : Prop where
  s : Boxed0 w W L s1 s2 s3
  d0 : W.cell? ⟨w.heap.size + 1, 0, none⟩ = some (.bool b)
  d1 : W.cell? ⟨w.heap.size + 1, 1, none⟩ = some (.int .i64 h)
  d2 : W.cell? ⟨w.heap.size + 1, 2, none⟩ = some (.int .i64 p)
  lt : w.heap.size + 1 < W.heap.size
theorem boxedH (w : World) (L : Int) (s1 s2 s3 : Value) (b : Bool) (h p : Int) (t u : TypeId) : BoxedH w ((w.alloc (.cells #[.int .i64 L, s1, s2, s3] t)).alloc (.cells #[.bool b, .int .i64 h, .int .i64 p] u)) L s1 s2 s3 b h p :=
  ⟨(boxed0 w L s1 s2 s3 t).on ((Below.refl _ _).alloc (Nat.le_refl _) _), by simp [go_sem], by simp [go_sem], by simp [go_sem], by simp⟩
theorem BoxedH.on {w W w1 : World} {L : Int} {s1 s2 s3 : Value} {b : Bool} {h p : Int} (k : BoxedH w W L s1 s2 s3 b h p) (hb : Below W.heap.size W w1) : BoxedH w w1 L s1 s2 s3 b h p :=
  ⟨k.s.on hb, ((bcell hb).1 _ _ k.lt).trans k.d0, ((bcell hb).1 _ _ k.lt).trans k.d1, ((bcell hb).1 _ _ k.lt).trans k.d2, Nat.lt_of_lt_of_le k.lt hb.size⟩
theorem BoxedH.drew {w W : World} {L : Int} {s1 s2 s3 : Value} {b : Bool} {h p : Int} (k : BoxedH w W L s1 s2 s3 b h p) : BoxedH w W.drew L s1 s2 s3 b h p :=
  ⟨k.s.drew, k.d0, k.d1, k.d2, k.lt⟩
theorem BoxedH.all {w W : World} {L : Int} {s1 s2 s3 : Value} {b : Bool} {h p : Int} (k : BoxedH w W L s1 s2 s3 b h p) : W.cell? ⟨w.heap.size, 0, none⟩ = some (.int .i64 L) ∧ W.cell? ⟨w.heap.size, 1, none⟩ = some s1 ∧ W.cell? ⟨w.heap.size, 2, none⟩ = some s2 ∧ W.cell? ⟨w.heap.size, 3, none⟩ = some s3 ∧ W.cell? ⟨w.heap.size + 1, 0, none⟩ = some (.bool b) ∧ W.cell? ⟨w.heap.size + 1, 1, none⟩ = some (.int .i64 h) ∧ W.cell? ⟨w.heap.size + 1, 2, none⟩ = some (.int .i64 p) ∧ BoxedH w W L s1 s2 s3 b h p :=
  ⟨k.s.c0, k.s.c1, k.s.c2, k.s.c3, k.d0, k.d1, k.d2, k⟩

set_option maxHeartbeats 1000000 in
theorem rMoment_any {L : Int} {n b1 o1 c1 b2 o2 c2 b3 o3 c3 : Nat} {D R S : List Int} (day : Int) (b : Bool) (h p : Int) (w : World) (hs : Sea w n b1 o1 b2 o2 b3 o3 D R S) (hok : Ok L D R S) (h0 : 0 ≤ day) (h1 : day ≤ 19999) (hh : 0 ≤ h ∧ h ≤ 11) (hp : 0 ≤ p ∧ p ≤ 59) :
   Calls Tryd.prog 86 #[.agg #[.int .i64 L, .slice (some ⟨b1, o1, none⟩) n c1, .slice (some ⟨b2, o2, none⟩) n c2, .slice (some ⟨b3, o3, none⟩) n c3], .int .i64 day, .agg #[.bool b, .int .i64 h, .int .i64 p]] w
     fun e w' => e = .returned (.int .i64 (momF L D R S day b (60 * h + p))) ∧ Below w.heap.size w w' := by
  obtain ⟨_, _, q3, q4⟩ := hok.mom day b (60 * h + p) h0 h1 (by omega)
  have hl := hok.last day b
  have hr := hok.rise day; have hse := hok.set day
  have HS := Lib.hid hs; have HO := Lib.hid hok; clear hs hok
  go_enter Tryd.func86, Tryd.ntmps86
  go_wp2_with fail
  have hX := boxedH w L (.slice (some ⟨b1, o1, none⟩) n c1) (.slice (some ⟨b2, o2, none⟩) n c2) (.slice (some ⟨b3, o3, none⟩) n c3) b h p 24 37
  generalize World.alloc _ _ = W at hX ⊢
  refine (rrise_any day _ (HS.out.to hX.s.b) HO.out h0 (by omega)).mono ?_
  rintro e w1 ⟨rfl, hb1⟩
  have hX := hX.on hb1
  clear hb1
  have e0 := hX.d0
  have e1 := hX.s.c0; have e2 := hX.s.c1; have e3 := hX.s.c2; have e4 := hX.s.c3
  have HX := Lib.hid hX; clear hX
  cases b
  · go_wp2
    go_region_held3 (fun W' => W'.cell? ⟨w.heap.size, 0, none⟩ = some (.int .i64 L) ∧ W'.cell? ⟨w.heap.size, 1, none⟩ = some (.slice (some ⟨b1, o1, none⟩) n c1) ∧ W'.cell? ⟨w.heap.size, 2, none⟩ = some (.slice (some ⟨b2, o2, none⟩) n c2) ∧ W'.cell? ⟨w.heap.size, 3, none⟩ = some (.slice (some ⟨b3, o3, none⟩) n c3) ∧ W'.cell? ⟨w.heap.size + 1, 0, none⟩ = some (.bool false) ∧ W'.cell? ⟨w.heap.size + 1, 1, none⟩ = some (.int .i64 h) ∧ W'.cell? ⟨w.heap.size + 1, 2, none⟩ = some (.int .i64 p) ∧ BoxedH w W' L (.slice (some ⟨b1, o1, none⟩) n c1) (.slice (some ⟨b2, o2, none⟩) n c2) (.slice (some ⟨b3, o3, none⟩) n c3) false h p)
      ((refine BoxedH.all ?_; first | exact BoxedH.drew HX.out | assumption))
      (first | (go_at_call 76; obtain ⟨_, _, _, _, _, _, _, hB⟩ := ‹_ ∧ _ ∧ _ ∧ _ ∧ _ ∧ _ ∧ _ ∧ BoxedH _ _ _ _ _ _ _ _ _›; (with_reducible refine (lasts_any _ _ _ (HS.out.to hB.s.b) HO.out h0 h1).mono ?_); rintro e w3 ⟨rfl, hb3⟩; have hB1 := hB.on hb3))
    obtain ⟨_, _, _, _, _, _, _, hB⟩ := ‹_ ∧ _ ∧ _ ∧ _ ∧ _ ∧ _ ∧ _ ∧ BoxedH _ _ _ _ _ _ _ _ _›
    have HY := Lib.hid hB; clear hB
    go_wp2
    go_ret
    exact ⟨ret_int (by unfold momF begF; simp (disch := omega) only [IntWalk.i64_in, Bool.false_eq_true, if_false]), HY.out.s.b⟩
  · go_wp2_with fail
    have hX := HX.out
    clear HX
    refine (rset_any day _ (HS.out.to hX.s.b) HO.out h0 (by omega)).mono ?_
    rintro e w2 ⟨rfl, hb2⟩
    have hX := hX.on hb2
    clear hb2 e0 e1 e2 e3 e4
    have e0 := hX.d0
    have e1 := hX.s.c0; have e2 := hX.s.c1; have e3 := hX.s.c2; have e4 := hX.s.c3
    have HX := Lib.hid hX; clear hX
    go_wp2
    go_region_held3 (fun W' => W'.cell? ⟨w.heap.size, 0, none⟩ = some (.int .i64 L) ∧ W'.cell? ⟨w.heap.size, 1, none⟩ = some (.slice (some ⟨b1, o1, none⟩) n c1) ∧ W'.cell? ⟨w.heap.size, 2, none⟩ = some (.slice (some ⟨b2, o2, none⟩) n c2) ∧ W'.cell? ⟨w.heap.size, 3, none⟩ = some (.slice (some ⟨b3, o3, none⟩) n c3) ∧ W'.cell? ⟨w.heap.size + 1, 0, none⟩ = some (.bool true) ∧ W'.cell? ⟨w.heap.size + 1, 1, none⟩ = some (.int .i64 h) ∧ W'.cell? ⟨w.heap.size + 1, 2, none⟩ = some (.int .i64 p) ∧ BoxedH w W' L (.slice (some ⟨b1, o1, none⟩) n c1) (.slice (some ⟨b2, o2, none⟩) n c2) (.slice (some ⟨b3, o3, none⟩) n c3) true h p)
      ((refine BoxedH.all ?_; first | exact BoxedH.drew HX.out | assumption))
      (first | (go_at_call 76; obtain ⟨_, _, _, _, _, _, _, hB⟩ := ‹_ ∧ _ ∧ _ ∧ _ ∧ _ ∧ _ ∧ _ ∧ BoxedH _ _ _ _ _ _ _ _ _›; (with_reducible refine (lasts_any _ _ _ (HS.out.to hB.s.b) HO.out h0 h1).mono ?_); rintro e w3 ⟨rfl, hb3⟩; have hB1 := hB.on hb3))
    obtain ⟨_, _, _, _, _, _, _, hB⟩ := ‹_ ∧ _ ∧ _ ∧ _ ∧ _ ∧ _ ∧ _ ∧ BoxedH _ _ _ _ _ _ _ _ _›
    have HY := Lib.hid hB; clear hB
    go_wp2
    go_ret
    exact ⟨ret_int (by unfold momF begF; simp (disch := omega) only [IntWalk.i64_in, if_true]), HY.out.s.b⟩
end Go.Proofs.YtomlfliebolkmaaDoor
