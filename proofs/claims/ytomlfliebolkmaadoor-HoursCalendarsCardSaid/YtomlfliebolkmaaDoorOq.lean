/-
  Arguments opened: an hour, a date. No condition.
-/
import Derived.Test.YtomlfliebolkmaaDoorOp
set_option linter.unusedVariables false
set_option linter.unusedSimpArgs false
namespace Go.Proofs.YtomlfliebolkmaaDoor
open Go Go.Proofs Go.ChangeShapes Go.WideShapes Go.ChangeAt Go.RowKit Go.Joins Pl

theorem cells37 : Tryd.prog.cellsOf 37 = 3 := by kernel_rfl
theorem cells50 : Tryd.prog.cellsOf 50 = 3 := by kernel_rfl
set_option maxRecDepth 100000 in
/-- An hour, opened. -/
theorem open_hour {H : Type} {enc : TypeId × Value → H} {W : World} {r : Reach} {b0 : Nat} {v : Value} {d : DataW H} {p : List MemPlace} (hv : Value.okWide Tryd.prog W r b0 37 v) (h : DataW.Trod enc Tryd.prog W 0 (fun _ => true) true 37 v d p) :
    ∃ (b : Bool) (x y : Int), v = .agg #[.bool b, .int .i64 x, .int .i64 y] := by
  obtain ⟨v0, v1, v2, y0, y1, y2, n, rfl, rfl, rfl, h0, h1, h2⟩ := open_agg3 Tryd.underlying37 (by kernel_rfl) cells37 hv h
  obtain ⟨b, e0, _⟩ := DataW.trod_bool Tryd.underlying4 h0
  obtain ⟨x, e1, _, _⟩ := DataW.trod_int Tryd.underlying3 h1
  obtain ⟨y, e2, _, _⟩ := DataW.trod_int Tryd.underlying3 h2
  simp at e0 e1 e2
  subst e0 e1 e2
  exact ⟨b, x, y, rfl⟩
set_option maxRecDepth 100000 in
/-- A date, opened. -/
theorem open_date {H : Type} {enc : TypeId × Value → H} {W : World} {r : Reach} {b0 : Nat} {v : Value} {d : DataW H} {p : List MemPlace} (hv : Value.okWide Tryd.prog W r b0 50 v) (h : DataW.Trod enc Tryd.prog W 0 (fun _ => true) true 50 v d p) :
    ∃ (x y z : Int), v = .agg #[.int .i64 x, .int .i64 y, .int .i64 z] := by
  obtain ⟨v0, v1, v2, y0, y1, y2, n, rfl, rfl, rfl, h0, h1, h2⟩ := open_agg3 Tryd.underlying50 (by kernel_rfl) cells50 hv h
  obtain ⟨x, e0, _, _⟩ := DataW.trod_int Tryd.underlying3 h0
  obtain ⟨y, e1, _, _⟩ := DataW.trod_int Tryd.underlying3 h1
  obtain ⟨z, e2, _, _⟩ := DataW.trod_int Tryd.underlying3 h2
  simp at e0 e1 e2
  subst e0 e1 e2
  exact ⟨x, y, z, rfl⟩
end Go.Proofs.YtomlfliebolkmaaDoor
