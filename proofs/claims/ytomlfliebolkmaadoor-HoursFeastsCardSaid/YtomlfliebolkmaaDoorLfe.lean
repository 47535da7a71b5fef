/-
  HoursFeasts: the walk. No condition.
-/
import Derived.Test.YtomlfliebolkmaaDoorCJ
import Derived.Test.YtomlfliebolkmaaDoorLfd
set_option linter.unusedVariables false
set_option linter.unusedSimpArgs false
namespace Go.Proofs.YtomlfliebolkmaaDoor
open Go Go.Proofs Go.RowKit Pl

set_option maxRecDepth 100000 in
set_option maxHeartbeats 20000000 in
theorem Feasts_any (day year : Int) (w : World) :
   Calls Tryd.prog 10 #[.int .i64 day, .int .i64 year] w fun e w' => e = .returned (.bool true) ∧ Below w.heap.size w w' := by
  go_enter Tryd.func10, Tryd.ntmps10
  go_wp2_with fail
  refine (sane_any _).mono ?_
  rintro e w1 ⟨rfl, hb⟩
  have HB1 := Lib.hid (bjoin (w := w) (by have hb' := (Below.refl w.heap.size w); have hb'' := hb'.size; go_grown) hb)
  clear hb
  go_wp2_with fail
  refine (Feast_any day _).mono ?_
  rintro e w2 ⟨rfl, hb⟩
  have HB2 := Lib.hid (bjoin (w := w) (by have hb' := HB1.out; have hb'' := hb'.size; go_grown) hb)
  clear hb
  go_wp2_with fail
  refine (rFeast_any day _).mono ?_
  rintro e w3 ⟨rfl, hb⟩
  have HB3 := Lib.hid (bjoin (w := w) (by have hb' := HB2.out; have hb'' := hb'.size; go_grown) hb)
  clear hb
  go_wp2_with fail
  refine (Months_any year _).mono ?_
  rintro e w4 ⟨rfl, hb⟩
  have HB4 := Lib.hid (bjoin (w := w) (by have hb' := HB3.out; have hb'' := hb'.size; go_grown) hb)
  clear hb
  go_wp2_with fail
  refine (rMonths_any year _).mono ?_
  rintro e w5 ⟨rfl, hb⟩
  have HB5 := Lib.hid (bjoin (w := w) (by have hb' := HB4.out; have hb'' := hb'.size; go_grown) hb)
  clear hb
  go_wp2_with fail
  go_ret
  exact ⟨rfl, by have hb' := HB5.out; have hb'' := hb'.size; go_grown⟩

end Go.Proofs.YtomlfliebolkmaaDoor
