/-
  HoursCalendars holds, for every input of its types. No condition.
-/
import Derived.Test.YtomlfliebolkmaaDoorOc
import Derived.Test.YtomlfliebolkmaaDoorLca
import Derived.LaidMore
set_option linter.unusedVariables false
set_option linter.unusedSimpArgs false
namespace Go.Proofs.YtomlfliebolkmaaDoor
open Go Go.Proofs Go.ChangeShapes Go.WideShapes Go.ChangeAt Go.RowKit Go.Joins Pl

namespace cHoursCalendars

set_option maxRecDepth 100000 in
theorem contract : CT := by
  intro H enc W base args ds gs before hval hW
  have hW' := hW
  obtain ⟨p, q, hA0, hV, rfl, hfz, hnd⟩ := hW
  have hA : DataW.TrodAll enc Tryd.prog W 0 (fun _ => true) true Tryd.f9.params.toList args.toList ds p := hA0
  clear hA0
  obtain ⟨rfl, rfl⟩ := trodVars_none hV
  rw [Tryd.params9] at hA hval
  obtain ⟨v0, vs0, d0, ds0, p0, q0, hargs, rfl, rfl, h0, r0⟩ := trodAll_cons hA
  obtain ⟨v1, vs1, d1, ds1, p1, q1, rfl, rfl, rfl, h1, r1⟩ := trodAll_cons r0
  obtain ⟨rfl, rfl, rfl⟩ := trodAll_nil r1
  obtain rfl : args = #[v0, v1] := by cases args; simp_all
  obtain ⟨x0, rfl, wx0, lx0, ux0⟩ := open_int Tryd.underlying3 (hval 0 3 v0 rfl rfl) h0
  obtain ⟨y1, m1, d1_, rfl⟩ := open_date (hval 1 50 v1 rfl rfl) h1
  refine (Calendars_any x0 y1 m1 d1_ W).mono fun e W' ⟨he, hb⟩ => ⟨_, he, ?_⟩
  exact law_post hW' rfl rfl rfl (by rw [Tryd.params9]; decide +kernel) hb

/-- The card of HoursCalendars. -/
theorem card : Rows.HoursCalendarsCardSaid := card_of contract
end cHoursCalendars
end Go.Proofs.YtomlfliebolkmaaDoor
