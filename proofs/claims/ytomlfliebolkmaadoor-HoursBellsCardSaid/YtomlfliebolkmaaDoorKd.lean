/-
  Moments and steps of hours at valid arguments. No condition beyond what each states.
-/
import Derived.Test.YtomlfliebolkmaaDoorKc
set_option linter.unusedVariables false
set_option linter.unusedSimpArgs false
namespace Go.Proofs.YtomlfliebolkmaaDoor
open Go Go.Proofs Go.RowKit Pl

theorem cell_after3 {W : World} {bm b o : Nat} {v0 v1 v2 v : Value} (h : W.cell? ⟨b, o, none⟩ = some v) (hne : ¬ b = bm) : (((W.setCell ⟨bm, 0, none⟩ v0).setCell ⟨bm, 1, none⟩ v1).setCell ⟨bm, 2, none⟩ v2).cell? ⟨b, o, none⟩ = some v := by
  rw [cell_set_ne _ (by omega), cell_set_ne _ (by omega), cell_set_ne _ (by omega)]; exact h
theorem cell_new3 {W : World} {bm : Nat} {v0 v1 v2 u0 u1 u2 : Value} (h0 : W.cell? ⟨bm, 0, none⟩ = some u0) (h1 : W.cell? ⟨bm, 1, none⟩ = some u1) (h2 : W.cell? ⟨bm, 2, none⟩ = some u2) :
    (((W.setCell ⟨bm, 0, none⟩ v0).setCell ⟨bm, 1, none⟩ v1).setCell ⟨bm, 2, none⟩ v2).cell? ⟨bm, 0, none⟩ = some v0 ∧
    (((W.setCell ⟨bm, 0, none⟩ v0).setCell ⟨bm, 1, none⟩ v1).setCell ⟨bm, 2, none⟩ v2).cell? ⟨bm, 1, none⟩ = some v1 ∧
    (((W.setCell ⟨bm, 0, none⟩ v0).setCell ⟨bm, 1, none⟩ v1).setCell ⟨bm, 2, none⟩ v2).cell? ⟨bm, 2, none⟩ = some v2 := by
  refine ⟨?_, ?_, ?_⟩
  · rw [cell_set_ne _ (by omega), cell_set_ne _ (by omega), World.cell?_setCell_same' _ _ _ (by rw [h0]; rfl)]
  · rw [cell_set_ne _ (by omega), World.cell?_setCell_same' _ _ _ (by rw [cell_set_ne _ (by omega), h1]; rfl)]
  · rw [World.cell?_setCell_same' _ _ _ (by rw [cell_set_ne _ (by omega), cell_set_ne _ (by omega), h2]; rfl)]
theorem cell_two (W : World) (u0 u1 : Value) (t : TypeId) : (W.alloc (.cells #[u0, u1] t)).cell? ⟨W.heap.size, 0, none⟩ = some u0 ∧ (W.alloc (.cells #[u0, u1] t)).cell? ⟨W.heap.size, 1, none⟩ = some u1 := by
  constructor <;> simp [go_sem]
theorem cell_top3 (W : World) (p q r : Addr) (v0 v1 v2 u0 u1 : Value) (t : TypeId) :
    ((((W.setCell p v0).setCell q v1).setCell r v2).alloc (.cells #[u0, u1] t)).cell? ⟨W.heap.size, 0, none⟩ = some u0 ∧ ((((W.setCell p v0).setCell q v1).setCell r v2).alloc (.cells #[u0, u1] t)).cell? ⟨W.heap.size, 1, none⟩ = some u1 := by
  have e : W.heap.size = (((W.setCell p v0).setCell q v1).setCell r v2).heap.size := by rw [World.size_setCell, World.size_setCell, World.size_setCell]
  have h := cell_two (((W.setCell p v0).setCell q v1).setCell r v2) u0 u1 t
  rw [← e] at h
  exact h
theorem exact_rise {L : Int} {n1 n2 n3 c1 c2 c3 : Nat} {a1 a2 a3 : Option Addr} {D R S : List Int} (day : Int) (w : World) (hs : SeaO w a1 n1 a2 n2 a3 n3 D R S) (hok : Ok L D R S) (hd : 0 ≤ day ∧ day ≤ 11000) :
   Calls Tryd.prog 58 #[.agg #[.int .i64 L, .slice a1 n1 c1, .slice a2 n2 c2, .slice a3 n3 c3], .int .i64 day, .agg #[.bool false, .int .i64 0, .int .i64 0]] w fun e w' => e = .returned (.int .i64 (720 * (day * 1440 + riseF L D R day))) ∧ Below w.heap.size w w' := by
  have c := exact_ok (L := L) (c1 := c1) (c2 := c2) (c3 := c3) day false 0 0 w hs hok hd (by omega)
  rw [show momF L D R S day false (60 * 0 + 0) = 720 * (day * 1440 + riseF L D R day) from by unfold momF begF; simp; omega] at c
  exact c
theorem exact_set {L : Int} {n1 n2 n3 c1 c2 c3 : Nat} {a1 a2 a3 : Option Addr} {D R S : List Int} (day : Int) (w : World) (hs : SeaO w a1 n1 a2 n2 a3 n3 D R S) (hok : Ok L D R S) (hd : 0 ≤ day ∧ day ≤ 11000) :
   Calls Tryd.prog 58 #[.agg #[.int .i64 L, .slice a1 n1 c1, .slice a2 n2 c2, .slice a3 n3 c3], .int .i64 day, .agg #[.bool true, .int .i64 0, .int .i64 0]] w fun e w' => e = .returned (.int .i64 (720 * (day * 1440 + riseF L D S day))) ∧ Below w.heap.size w w' := by
  have c := exact_ok (L := L) (c1 := c1) (c2 := c2) (c3 := c3) day true 0 0 w hs hok hd (by omega)
  rw [show momF L D R S day true (60 * 0 + 0) = 720 * (day * 1440 + riseF L D S day) from by unfold momF begF; simp; omega] at c
  exact c
theorem exact_Mo {L : Int} {n1 n2 n3 c1 c2 c3 : Nat} {a1 a2 a3 : Option Addr} {D R S : List Int} (day : Int) (b : Bool) (h p : Int) (w : World) (hs : SeaO w a1 n1 a2 n2 a3 n3 D R S) (hok : Ok L D R S) (hd : 0 ≤ day ∧ day ≤ 11000) (hh : (0 ≤ h ∧ h ≤ 11) ∧ (0 ≤ p ∧ p ≤ 59)) :
   Calls Tryd.prog 58 #[.agg #[.int .i64 L, .slice a1 n1 c1, .slice a2 n2 c2, .slice a3 n3 c3], .int .i64 day, .agg #[.bool b, .int .i64 h, .int .i64 p]] w fun e w' => e = .returned (.int .i64 (Mo L D R S (ord day b h p))) ∧ Below w.heap.size w w' := by
  have c := exact_ok (L := L) (c1 := c1) (c2 := c2) (c3 := c3) day b h p w hs hok hd hh
  rw [mom_ord _ _ _ _ _ _ _ _ hh] at c
  exact c
theorem exact_back {L : Int} {n1 n2 n3 c1 c2 c3 : Nat} {a1 a2 a3 : Option Addr} {D R S : List Int} (N : Int) (w : World) (hs : SeaO w a1 n1 a2 n2 a3 n3 D R S) (hok : Ok L D R S) (hN : 0 ≤ N / 1440 ∧ N / 1440 ≤ 11000) :
   Calls Tryd.prog 58 #[.agg #[.int .i64 L, .slice a1 n1 c1, .slice a2 n2 c2, .slice a3 n3 c3], .int .i64 (N / 1440), .agg #[.bool (decide (720 ≤ N % 1440)), .int .i64 (N % 1440 / 60 % 12), .int .i64 (N % 60)]] w fun e w' => e = .returned (.int .i64 (Mo L D R S N)) ∧ Below w.heap.size w w' := by
  have c := exact_ok (L := L) (c1 := c1) (c2 := c2) (c3 := c3) (N / 1440) (decide (720 ≤ N % 1440)) (N % 1440 / 60 % 12) (N % 60) w hs hok hN (ord_hour N)
  rw [mom_back] at c
  exact c
theorem gF_12 (n : Int) (hn : 0 ≤ n ∧ n ≤ 1400) : 0 ≤ n / gF n 12 ∧ n / gF n 12 ≤ 1400 ∧ 1 ≤ 12 / gF n 12 ∧ 12 / gF n 12 ≤ 12 ∧ n * (12 / gF n 12) = 12 * (n / gF n 12) := by
  have h1 := gF_pos n 12 (by decide)
  have h2 := low_val n 12 hn.1 (by decide)
  have h3 := low_back n 12 hn.1 (by decide)
  have h4 : n / gF n 12 ≤ n := Int.ediv_le_self _ hn.1
  have h5 : (12 : Int) / gF n 12 ≤ 12 := Int.ediv_le_self _ (by decide)
  exact ⟨Int.ediv_nonneg hn.1 (by omega), by omega, by omega, h5, by omega⟩
theorem Mo_next {L : Int} {D R S : List Int} (day : Int) (b : Bool) (h p : Int) (hh : (0 ≤ h ∧ h ≤ 11) ∧ (0 ≤ p ∧ p ≤ 59)) : Mo L D R S (ord day b h p + 1) = Mo L D R S (ord day b h p) + lastF L D R S day b := by
  rw [Mo_succ]
  unfold lenN
  obtain ⟨e1, e2, _⟩ := ord_parts day b h p hh.1 hh.2
  rw [e1, e2]



theorem calls_name {P : Program} {f : FuncId} {args : Array Value} {Q : Ending → World → Prop} {w : World} (h : ∀ W, w = W → Calls P f args W Q) : Calls P f args w Q := h w rfl

end Go.Proofs.YtomlfliebolkmaaDoor
