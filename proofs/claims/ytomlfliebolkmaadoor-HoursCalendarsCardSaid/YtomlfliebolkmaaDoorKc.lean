/-
  Small contracts for the laws over a season. No condition beyond what each states.
-/
import Derived.Test.YtomlfliebolkmaaDoorLa
import Derived.Test.YtomlfliebolkmaaDoorKa
import Derived.Test.YtomlfliebolkmaaDoorPlD
set_option linter.unusedVariables false
set_option linter.unusedSimpArgs false
namespace Go.Proofs.YtomlfliebolkmaaDoor
open Go Go.Proofs Go.RowKit Pl

theorem rHour_yes (b : Bool) (h p : Int) (w : World) (hh : (0 ≤ h ∧ h ≤ 11) ∧ (0 ≤ p ∧ p ≤ 59)) : Calls Tryd.prog 56 #[.agg #[.bool b, .int .i64 h, .int .i64 p]] w fun e w' => e = .returned (.bool true) ∧ Below w.heap.size w w' := by
  have c := rHour_any b h p w
  rw [(hrOk_iff h p).2 hh] at c
  exact c
theorem Order_back (T : Int) (w : World) (hT : 0 ≤ T ∧ T ≤ 20000000) : Calls Tryd.prog 57 #[.int .i64 (T / 1440), .agg #[.bool (decide (720 ≤ T % 1440)), .int .i64 (T % 1440 / 60 % 12), .int .i64 (T % 60)]] w fun e w' => e = .returned (.int .i64 T) ∧ Below w.heap.size w w' := by
  have c := Order_any (T / 1440) (decide (720 ≤ T % 1440)) (T % 1440 / 60 % 12) (T % 60) w (by omega) (ord_hour T).1 (ord_hour T).2
  rw [ord_back] at c
  exact c
theorem toldN_top {L : Int} {D R S : List Int} (hok : Ok L D R S) {m : Int} (hm : 0 ≤ m ∧ m ≤ 15840000) : toldN L D R S m ≤ 15841439 := by
  have h1 := (toldN_parts hok m).1
  have : toldD L D R m ≤ m / 1440 := by unfold toldD; split <;> omega
  omega
theorem days_one {day : Int} : allB [day] 0 11000 = true ↔ 0 ≤ day ∧ day ≤ 11000 := by rw [allB_one, wi_iff]
theorem lst1 {W : World} {B b : Nat} {x : Int} (h : W.cell? ⟨b, 0, none⟩ = some (.int .i64 x)) (hb : b < B) : Lst W B b 0 1 [x] :=
  ⟨rfl, fun i hi => by
    obtain rfl : i = 0 := by omega
    exact h, hb⟩
theorem lst2 {W : World} {B b : Nat} {x y : Int} (h : W.cell? ⟨b, 0, none⟩ = some (.int .i64 x)) (h' : W.cell? ⟨b, 1, none⟩ = some (.int .i64 y)) (hb : b < B) : Lst W B b 0 2 [x, y] :=
  ⟨rfl, fun i hi => by
    have hi2 : i = 0 ∨ i = 1 := by omega
    rcases hi2 with rfl | rfl
    · exact h
    · exact h', hb⟩
theorem wp_name {P : Program} {c : Code} {Q : Exit → Act → World → Prop} {a : Act} {w : World} (h : ∀ W, w = W → Code.wp P c Q a W) : Code.wp P c Q a w := h w rfl

end Go.Proofs.YtomlfliebolkmaaDoor
