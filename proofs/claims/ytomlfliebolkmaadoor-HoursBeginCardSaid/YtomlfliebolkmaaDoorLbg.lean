/-
  HoursBegin: the whole walk. No condition.
-/
import Derived.Test.YtomlfliebolkmaaDoorLbh
import Derived.Test.YtomlfliebolkmaaDoorLbi
set_option linter.unusedVariables false
set_option linter.unusedSimpArgs false
namespace Go.Proofs.YtomlfliebolkmaaDoor
open Go Go.Proofs Go.RowKit Pl

theorem Begin_any (day year between : Int) (w : World) :
   Calls Tryd.prog 15 #[.int .i64 day, .int .i64 year, .int .i64 between] w fun e w' => e = .returned (.bool true) ∧ Below w.heap.size w w' := by
  by_cases hd : 0 ≤ day ∧ day ≤ 3000000
  · by_cases he : feE day = 0
    · exact Begin_found day year between w hd he
    · exact Begin_none day year between w hd he
  · exact Begin_out day year between w hd

end Go.Proofs.YtomlfliebolkmaaDoor
