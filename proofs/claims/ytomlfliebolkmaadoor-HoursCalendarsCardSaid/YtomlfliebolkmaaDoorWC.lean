/-
  The boxed season; a day's light and night by contract (hours.span). No condition beyond what each states.
-/
import Derived.Test.YtomlfliebolkmaaDoorWB
namespace Go.Proofs.YtomlfliebolkmaaDoor
open Go Go.Proofs Go.RowKit Pl

/-- The boxed season: its four cells, and what lay before. -/
structure Boxed0 (w W : World) (L : Int) (s1 s2 s3 : Value) : Prop where
  c0 : W.cell? ⟨w.heap.size, 0, none⟩ = some (.int .i64 L)
  c1 : W.cell? ⟨w.heap.size, 1, none⟩ = some s1
  c2 : W.cell? ⟨w.heap.size, 2, none⟩ = some s2
  c3 : W.cell? ⟨w.heap.size, 3, none⟩ = some s3
  lt : w.heap.size < W.heap.size
  b : Below w.heap.size w W
theorem boxed0 (w : World) (L : Int) (s1 s2 s3 : Value) (t : TypeId) : Boxed0 w (w.alloc (.cells #[.int .i64 L, s1, s2, s3] t)) L s1 s2 s3 :=
  ⟨by simp, by simp, by simp, by simp, by simp, (Below.refl _ _).alloc (Nat.le_refl _) _⟩
theorem Boxed0.on {w W w1 : World} {L : Int} {s1 s2 s3 : Value} (h : Boxed0 w W L s1 s2 s3) (hb : Below W.heap.size W w1) : Boxed0 w w1 L s1 s2 s3 :=
  ⟨((bcell hb).1 _ _ h.lt).trans h.c0, ((bcell hb).1 _ _ h.lt).trans h.c1, ((bcell hb).1 _ _ h.lt).trans h.c2, ((bcell hb).1 _ _ h.lt).trans h.c3, Nat.lt_of_lt_of_le h.lt hb.size, bjoin h.b hb⟩
theorem Boxed0.all {w W : World} {L : Int} {s1 s2 s3 : Value} (h : Boxed0 w W L s1 s2 s3) : W.cell? ⟨w.heap.size, 0, none⟩ = some (.int .i64 L) ∧ W.cell? ⟨w.heap.size, 1, none⟩ = some s1 ∧ W.cell? ⟨w.heap.size, 2, none⟩ = some s2 ∧ W.cell? ⟨w.heap.size, 3, none⟩ = some s3 ∧ Boxed0 w W L s1 s2 s3 :=
  ⟨h.c0, h.c1, h.c2, h.c3, h⟩
theorem Boxed0.drew {w W : World} {L : Int} {s1 s2 s3 : Value} (h : Boxed0 w W L s1 s2 s3) : Boxed0 w W.drew L s1 s2 s3 :=
  ⟨h.c0, h.c1, h.c2, h.c3, h.lt, h.b.drew⟩
theorem ret_two {k : IntKind} {a b c d : Int} (h : a = b) (h' : c = d) : Ending.returned (.tuple #[.int k a, .int k c]) = .returned (.tuple #[.int k b, .int k d]) := by rw [h, h']

set_option maxHeartbeats 1000000 in
theorem span_any {L : Int} {n b1 o1 c1 b2 o2 c2 b3 o3 c3 : Nat} {D R S : List Int} (day : Int) (night : Bool) (w : World) (hs : Sea w n b1 o1 b2 o2 b3 o3 D R S) (hok : Ok L D R S) (h0 : 0 ≤ day) (_h1 : day ≤ 19999) :
   Calls Tryd.prog 73 #[.agg #[.int .i64 L, .slice (some ⟨b1, o1, none⟩) n c1, .slice (some ⟨b2, o2, none⟩) n c2, .slice (some ⟨b3, o3, none⟩) n c3], .int .i64 day, .bool night] w
     fun e w' => e = .returned (.tuple #[.int .i64 (begF L D R S day night), .int .i64 (begF L D R S day night + lastF L D R S day night)]) ∧ Below w.heap.size w w' := by
  have hr : 60 ≤ tab L D R (day % L) ∧ tab L D R (day % L) ≤ 700 := hok.rise day
  have hse : 740 ≤ tab L D S (day % L) ∧ tab L D S (day % L) ≤ 1380 := hok.set day
  have hr1 : 60 ≤ tab L D R ((day + 1) % L) ∧ tab L D R ((day + 1) % L) ≤ 700 := hok.rise (day + 1)
  have HS := Lib.hid hs; have HO := Lib.hid hok; clear hs hok
  go_enter Tryd.func73, Tryd.ntmps73
  go_wp2
  have hX := boxed0 w L (.slice (some ⟨b1, o1, none⟩) n c1) (.slice (some ⟨b2, o2, none⟩) n c2) (.slice (some ⟨b3, o3, none⟩) n c3) 24
  generalize w.alloc _ = W at hX ⊢
  have hz := hX.c0; have hz1 := hX.c1; have hz2 := hX.c2; have hz3 := hX.c3
  have HX := Lib.hid hX; clear hX
  go_region_held3 (fun W' => W'.cell? ⟨w.heap.size, 0, none⟩ = some (.int .i64 L) ∧ W'.cell? ⟨w.heap.size, 1, none⟩ = some (.slice (some ⟨b1, o1, none⟩) n c1) ∧ W'.cell? ⟨w.heap.size, 2, none⟩ = some (.slice (some ⟨b2, o2, none⟩) n c2) ∧ W'.cell? ⟨w.heap.size, 3, none⟩ = some (.slice (some ⟨b3, o3, none⟩) n c3) ∧ Boxed0 w W' L (.slice (some ⟨b1, o1, none⟩) n c1) (.slice (some ⟨b2, o2, none⟩) n c2) (.slice (some ⟨b3, o3, none⟩) n c3))
    ((refine Boxed0.all ?_; first | exact Boxed0.drew HX.out | assumption))
    (first | (go_at_call 69; obtain ⟨_, _, _, _, hB⟩ := ‹_ ∧ _ ∧ _ ∧ _ ∧ Boxed0 _ _ _ _ _ _›; first | ((with_reducible refine (at_any day _ (HS.out.to hB.b).D (HS.out.to hB.b).R HO.out (HS.out.Rb HO.out) h0 (by omega)).mono ?_); rintro e w1 ⟨rfl, hb1⟩; have hB1 := hB.on hb1) | ((with_reducible refine (at_any day _ (HS.out.to hB.b).D (HS.out.to hB.b).S HO.out (HS.out.Sb HO.out) h0 (by omega)).mono ?_); rintro e w1 ⟨rfl, hb1⟩; have hB1 := hB.on hb1)))
  obtain ⟨hz, hz1, hz2, hz3, hB⟩ := ‹_ ∧ _ ∧ _ ∧ _ ∧ Boxed0 _ _ _ _ _ _›
  have HY := Lib.hid hB; clear hB
  cases night
  · go_wp2
    go_ret2
    exact ⟨ret_two (by simp (disch := omega) only [IntWalk.i64_in, begF, riseF, Bool.false_eq_true, if_false]) (by simp (disch := omega) only [IntWalk.i64_in, begF, lastF, riseF, Bool.false_eq_true, if_false]; omega), HY.out.b⟩
  · go_wp2_with fail
    refine (at_any (day + 1) _ (HS.out.to HY.out.b).D (HS.out.to HY.out.b).R HO.out (HS.out.Rb HO.out) (by omega) (by omega)).mono ?_
    rintro e w2 ⟨rfl, hb2⟩
    go_wp2
    go_ret2
    exact ⟨ret_two (by simp (disch := omega) only [IntWalk.i64_in, begF, riseF, if_true]) (by simp only [begF, lastF, riseF, if_true]; omega), bjoin HY.out.b hb2⟩
end Go.Proofs.YtomlfliebolkmaaDoor
