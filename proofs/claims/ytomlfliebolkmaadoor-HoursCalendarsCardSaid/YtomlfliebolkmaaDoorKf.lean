/-
  Dates of the program by cases. No condition beyond what each states.
-/
import Derived.Test.YtomlfliebolkmaaDoorCJ
import Derived.Test.YtomlfliebolkmaaDoorKb
set_option linter.unusedVariables false
set_option linter.unusedSimpArgs false
namespace Go.Proofs.YtomlfliebolkmaaDoor
open Go Go.Proofs Go.RowKit Pl

theorem cOf_yes (day : Int) (w : World) (h : 0 ≤ day ∧ day ≤ 3652055) : Calls Tryd.prog 34 #[.int .i64 day] w fun e w' => e = .returned (.tuple #[.agg #[.int .i64 (yrC day), .int .i64 (moC day), .int .i64 (daC day)], .int .i64 0]) ∧ Below w.heap.size w w' := by
  have c := cOf_any day w
  rw [dayE_yes h] at c
  simpa only [onOk_ok] using c
theorem cOf_no (day : Int) (w : World) (h : ¬ (0 ≤ day ∧ day ≤ 3652055)) : Calls Tryd.prog 34 #[.int .i64 day] w fun e w' => e = .returned (.tuple #[.agg #[.int .i64 0, .int .i64 0, .int .i64 0], .int .i64 1]) ∧ Below w.heap.size w w' := by
  have c := cOf_any day w
  rw [dayE_no h] at c
  have h1 : (1 : Int) ≠ 0 := by decide
  simpa only [onOk_no h1] using c
theorem mOf_yes (day : Int) (w : World) (h : 0 ≤ day ∧ day ≤ 3543311) : Calls Tryd.prog 35 #[.int .i64 day] w fun e w' => e = .returned (.tuple #[.agg #[.int .i64 (yrM day), .int .i64 (moM day), .int .i64 (daM day)], .int .i64 0]) ∧ Below w.heap.size w w' := by
  have c := mOf_any day w
  rw [dayE_yes h] at c
  simpa only [onOk_ok] using c
theorem mOf_no (day : Int) (w : World) (h : ¬ (0 ≤ day ∧ day ≤ 3543311)) : Calls Tryd.prog 35 #[.int .i64 day] w fun e w' => e = .returned (.tuple #[.agg #[.int .i64 0, .int .i64 0, .int .i64 0], .int .i64 1]) ∧ Below w.heap.size w w' := by
  have c := mOf_any day w
  rw [dayE_no h] at c
  have h1 : (1 : Int) ≠ 0 := by decide
  simpa only [onOk_no h1] using c

end Go.Proofs.YtomlfliebolkmaaDoor
