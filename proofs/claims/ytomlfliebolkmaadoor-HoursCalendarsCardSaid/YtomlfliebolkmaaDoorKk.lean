/-
  HoursCalendars: what its law asks of the calendars.
-/
import Derived.Test.YtomlfliebolkmaaDoorKf
import Derived.Test.YtomlfliebolkmaaDoorKc
set_option linter.unusedVariables false
set_option linter.unusedSimpArgs false
namespace Go.Proofs.YtomlfliebolkmaaDoor
open Go Go.Proofs Go.RowKit Pl

theorem cDay_yes (y m d : Int) (w : World) (h : dvC y m d = true) : Calls Tryd.prog 45 #[.agg #[.int .i64 y, .int .i64 m, .int .i64 d]] w fun e w' => e = .returned (.tuple #[.int .i64 (stC y + cuC m + d - 1), .int .i64 0]) ∧ Below w.heap.size w w' := by
  have k := cDay_any y m d w
  rw [numEC_yes h] at k
  simpa only [onOk_ok] using k
theorem cDay_no (y m d : Int) (w : World) (h : dvC y m d = false) : Calls Tryd.prog 45 #[.agg #[.int .i64 y, .int .i64 m, .int .i64 d]] w fun e w' => e = .returned (.tuple #[.int .i64 0, .int .i64 1]) ∧ Below w.heap.size w w' := by
  have k := cDay_any y m d w
  rw [numEC_no (by rw [h]; decide)] at k
  have h1 : (1 : Int) ≠ 0 := by decide
  simpa only [onOk_no h1] using k
theorem cDay_first (y : Int) (w : World) (h : 1 ≤ y ∧ y ≤ 9999) : Calls Tryd.prog 45 #[.agg #[.int .i64 y, .int .i64 1, .int .i64 1]] w fun e w' => e = .returned (.tuple #[.int .i64 (stC y), .int .i64 0]) ∧ Below w.heap.size w w' := by
  have hm := mlC_bd y 1
  have k := cDay_yes y 1 1 w ((dvC_iff _ _ _).2 ⟨h, by omega, by omega⟩)
  rw [show stC y + cuC 1 + 1 - 1 = stC y by have : cuC 1 = 0 := rfl; omega] at k
  exact k
theorem cDay_cyc (y : Int) (w : World) (h : 1 ≤ y ∧ y + 128 ≤ 9999) : Calls Tryd.prog 45 #[.agg #[.int .i64 (y + 128), .int .i64 1, .int .i64 1]] w fun e w' => e = .returned (.tuple #[.int .i64 (stC y + 46751), .int .i64 0]) ∧ Below w.heap.size w w' := by
  have k := cDay_first (y + 128) w (by omega)
  have e := stC_per y 1
  rw [show y + 128 * 1 = y + 128 by omega, show 46751 * (1 : Int) = 46751 by omega] at e
  rw [e] at k
  exact k
theorem cDay_back (day : Int) (w : World) (h : 0 ≤ day ∧ day ≤ 3652055) : Calls Tryd.prog 45 #[.agg #[.int .i64 (yrC day), .int .i64 (moC day), .int .i64 (daC day)]] w fun e w' => e = .returned (.tuple #[.int .i64 day, .int .i64 0]) ∧ Below w.heap.size w w' := by
  obtain ⟨a, b, c', d, e, f, g⟩ := isC day h.1 (by omega)
  have k := cDay_yes (yrC day) (moC day) (daC day) w ((dvC_iff _ _ _).2 ⟨⟨a, b⟩, ⟨c', d⟩, e, f⟩)
  rw [← g] at k
  exact k
theorem cOf_back (y m d : Int) (w : World) (h : dvC y m d = true) : Calls Tryd.prog 34 #[.int .i64 (stC y + cuC m + d - 1)] w fun e w' => e = .returned (.tuple #[.agg #[.int .i64 y, .int .i64 m, .int .i64 d], .int .i64 0]) ∧ Below w.heap.size w w' := by
  obtain ⟨a, b, c'⟩ := (dvC_iff _ _ _).1 h
  have hi : IsC (stC y + cuC m + d - 1) y m d := ⟨a.1, a.2, b.1, b.2, c'.1, c'.2, rfl⟩
  have hr := hi.range
  obtain ⟨e1, e2, e3⟩ := hi.eq hr.1 hr.2
  have k := cOf_yes (stC y + cuC m + d - 1) w (by omega)
  rw [← e1, ← e2, ← e3] at k
  exact k

theorem mDay_yes (y m d : Int) (w : World) (h : dvM y m d = true) : Calls Tryd.prog 48 #[.agg #[.int .i64 y, .int .i64 m, .int .i64 d]] w fun e w' => e = .returned (.tuple #[.int .i64 (Pl.stM y + cuM m + d - 1), .int .i64 0]) ∧ Below w.heap.size w w' := by
  have k := mDay_any y m d w
  rw [numEM_yes h] at k
  simpa only [onOk_ok] using k
theorem mDay_no (y m d : Int) (w : World) (h : dvM y m d = false) : Calls Tryd.prog 48 #[.agg #[.int .i64 y, .int .i64 m, .int .i64 d]] w fun e w' => e = .returned (.tuple #[.int .i64 0, .int .i64 1]) ∧ Below w.heap.size w w' := by
  have k := mDay_any y m d w
  rw [numEM_no (by rw [h]; decide)] at k
  have h1 : (1 : Int) ≠ 0 := by decide
  simpa only [onOk_no h1] using k
theorem mDay_first (y : Int) (w : World) (h : 1 ≤ y ∧ y ≤ 9999) : Calls Tryd.prog 48 #[.agg #[.int .i64 y, .int .i64 1, .int .i64 1]] w fun e w' => e = .returned (.tuple #[.int .i64 (Pl.stM y), .int .i64 0]) ∧ Below w.heap.size w w' := by
  have hm := mlM_bd y 1
  have k := mDay_yes y 1 1 w ((dvM_iff _ _ _).2 ⟨h, by omega, by omega⟩)
  rw [show Pl.stM y + cuM 1 + 1 - 1 = Pl.stM y by have : cuM 1 = 0 := rfl; omega] at k
  exact k
theorem mDay_cyc (y : Int) (w : World) (h : 1 ≤ y ∧ y + 30 ≤ 9999) : Calls Tryd.prog 48 #[.agg #[.int .i64 (y + 30), .int .i64 1, .int .i64 1]] w fun e w' => e = .returned (.tuple #[.int .i64 (Pl.stM y + 10631), .int .i64 0]) ∧ Below w.heap.size w w' := by
  have k := mDay_first (y + 30) w (by omega)
  have e := stM_per y 1
  rw [show y + 30 * 1 = y + 30 by omega, show 10631 * (1 : Int) = 10631 by omega] at e
  rw [e] at k
  exact k
theorem mDay_back (day : Int) (w : World) (h : 0 ≤ day ∧ day ≤ 3543311) : Calls Tryd.prog 48 #[.agg #[.int .i64 (yrM day), .int .i64 (moM day), .int .i64 (daM day)]] w fun e w' => e = .returned (.tuple #[.int .i64 day, .int .i64 0]) ∧ Below w.heap.size w w' := by
  obtain ⟨a, b, c', d, e, f, g⟩ := isM day h.1 (by omega)
  have k := mDay_yes (yrM day) (moM day) (daM day) w ((dvM_iff _ _ _).2 ⟨⟨a, b⟩, ⟨c', d⟩, e, f⟩)
  rw [← g] at k
  exact k
theorem mOf_back (y m d : Int) (w : World) (h : dvM y m d = true) : Calls Tryd.prog 35 #[.int .i64 (Pl.stM y + cuM m + d - 1)] w fun e w' => e = .returned (.tuple #[.agg #[.int .i64 y, .int .i64 m, .int .i64 d], .int .i64 0]) ∧ Below w.heap.size w w' := by
  obtain ⟨a, b, c'⟩ := (dvM_iff _ _ _).1 h
  have hi : IsM (Pl.stM y + cuM m + d - 1) y m d := ⟨a.1, a.2, b.1, b.2, c'.1, c'.2, rfl⟩
  have hr := hi.range
  obtain ⟨e1, e2, e3⟩ := hi.eq hr.1 hr.2
  have k := mOf_yes (Pl.stM y + cuM m + d - 1) w (by omega)
  rw [← e1, ← e2, ← e3] at k
  exact k

theorem lt_id {W w1 : World} {b : Nat} (_h : Below W.heap.size W w1) (h : b < W.heap.size) : b < W.heap.size := h
/-- The law's boxes: the date that came in, the two calendars. -/
structure CW (w wr : World) (B : Nat) (y m d : Int) : Prop where
  p0 : wr.cell? ⟨w.heap.size, 0, none⟩ = some (.int .i64 y)
  p1 : wr.cell? ⟨w.heap.size, 1, none⟩ = some (.int .i64 m)
  p2 : wr.cell? ⟨w.heap.size, 2, none⟩ = some (.int .i64 d)
  s0 : wr.cell? ⟨B, 0, none⟩ = some (.func (.func 34) #[] #[])
  s1 : wr.cell? ⟨B, 1, none⟩ = some (.func (.func 45) #[] #[])
  s2 : wr.cell? ⟨B, 2, none⟩ = some (.int .i64 13)
  s3 : wr.cell? ⟨B, 3, none⟩ = some (.int .i64 128)
  s4 : wr.cell? ⟨B, 4, none⟩ = some (.int .i64 46751)
  s5 : wr.cell? ⟨B, 5, none⟩ = some (.func (.func 35) #[] #[])
  s6 : wr.cell? ⟨B, 6, none⟩ = some (.func (.func 48) #[] #[])
  s7 : wr.cell? ⟨B, 7, none⟩ = some (.int .i64 12)
  s8 : wr.cell? ⟨B, 8, none⟩ = some (.int .i64 30)
  s9 : wr.cell? ⟨B, 9, none⟩ = some (.int .i64 10631)
  l0 : w.heap.size < wr.heap.size
  lt : B < wr.heap.size
  hb : Below w.heap.size w wr
theorem CW.on {w wr w1 : World} {B : Nat} {y m d : Int} (h : CW w wr B y m d) (hb : Below wr.heap.size wr w1) : CW w w1 B y m d :=
  ⟨keep_cell hb h.l0 h.p0, keep_cell hb h.l0 h.p1, keep_cell hb h.l0 h.p2, keep_cell hb h.lt h.s0, keep_cell hb h.lt h.s1, keep_cell hb h.lt h.s2, keep_cell hb h.lt h.s3, keep_cell hb h.lt h.s4, keep_cell hb h.lt h.s5, keep_cell hb h.lt h.s6, keep_cell hb h.lt h.s7, keep_cell hb h.lt h.s8, keep_cell hb h.lt h.s9, keep_lt hb h.l0, keep_lt hb h.lt, bjoin h.hb hb⟩

theorem keep3 {W0 w1 : World} {b : Nat} {v0 v1 v2 : Value} (hb : Below W0.heap.size W0 w1) (hl : b < W0.heap.size) (h0 : W0.cell? ⟨b, 0, none⟩ = some v0) (h1 : W0.cell? ⟨b, 1, none⟩ = some v1) (h2 : W0.cell? ⟨b, 2, none⟩ = some v2) :
    b < w1.heap.size ∧ w1.cell? ⟨b, 0, none⟩ = some v0 ∧ w1.cell? ⟨b, 1, none⟩ = some v1 ∧ w1.cell? ⟨b, 2, none⟩ = some v2 := ⟨keep_lt hb hl, keep_cell hb hl h0, keep_cell hb hl h1, keep_cell hb hl h2⟩
theorem keep5 {W0 w1 : World} {b : Nat} {v0 v1 v2 v3 v4 : Value} (hb : Below W0.heap.size W0 w1) (hl : b < W0.heap.size) (h0 : W0.cell? ⟨b, 0, none⟩ = some v0) (h1 : W0.cell? ⟨b, 1, none⟩ = some v1) (h2 : W0.cell? ⟨b, 2, none⟩ = some v2) (h3 : W0.cell? ⟨b, 3, none⟩ = some v3) (h4 : W0.cell? ⟨b, 4, none⟩ = some v4) :
    b < w1.heap.size ∧ w1.cell? ⟨b, 0, none⟩ = some v0 ∧ w1.cell? ⟨b, 1, none⟩ = some v1 ∧ w1.cell? ⟨b, 2, none⟩ = some v2 ∧ w1.cell? ⟨b, 3, none⟩ = some v3 ∧ w1.cell? ⟨b, 4, none⟩ = some v4 :=
  ⟨keep_lt hb hl, keep_cell hb hl h0, keep_cell hb hl h1, keep_cell hb hl h2, keep_cell hb hl h3, keep_cell hb hl h4⟩


/-- The body of a function's first loop. -/
def firstLoop : Code → Option Code
  | .loop c => some c
  | .seq a b => match firstLoop a with
    | some c => some c
    | none => firstLoop b
  | .block _ c => firstLoop c
  | .scope c => firstLoop c
  | .cond _ a b => match firstLoop a with
    | some c => some c
    | none => firstLoop b
  | _ => none
noncomputable def body9 : Code := ((Tryd.f9.body.bind firstLoop).getD .skip)

end Go.Proofs.YtomlfliebolkmaaDoor
