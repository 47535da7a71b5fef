/-
  HoursTexts holds, for every hour and text. No condition.
-/
import Derived.Test.YtomlfliebolkmaaDoorOq
import Derived.Test.YtomlfliebolkmaaDoorLtx
import Derived.LaidMore
import Derived.Stop.LaidErr
import Derived.MakeChecks
set_option linter.unusedVariables false
set_option linter.unusedSimpArgs false
namespace Go.Proofs.YtomlfliebolkmaaDoor
open Go Go.Proofs Go.ChangeShapes Go.WideShapes Go.ChangeAt Go.RowKit Go.Joins Pl

theorem gMax : Tryd.prog.globalNamed "internal/bytealg.MaxLen" = some 0 := by kernel_rfl
theorem gSyn : Tryd.prog.globalNamed "strconv.ErrSyntax" = some 1 := by kernel_rfl
theorem gRng : Tryd.prog.globalNamed "strconv.ErrRange" = some 2 := by kernel_rfl
theorem gSynT : (Tryd.prog.globals[1]?).map (·.type) = some 108 := by kernel_rfl
theorem gRngT : (Tryd.prog.globals[2]?).map (·.type) = some 108 := by kernel_rfl
theorem starE : "*" ++ "errors.errorString" = "*errors.errorString" := by decide
theorem rowE : ∀ u, Tryd.prog.typeName? 3 u = some "*errors.errorString" → u = 156 := fun u h => typeName_ptr_named (nm := "errors.errorString") (by rw [starE]; kernel_rfl) (by kernel_rfl) (by decide) u (by rw [starE]; exact h)
/-- What the texts' functions read of the library's variables, out of the row's list and the world's shape. -/
theorem TxW.of {w : World} (hL : laidMet Tryd.prog Rows.hoursTextsRow.laid w) (hsh : w.ShapedOpen Tryd.prog) : TxW w := by
  have hL3 := hL.tail.tail.tail
  obtain ⟨a2, s2, hv2, -, -, -⟩ := laid_sentinel hL3 gRng gRngT Tryd.underlying108 rowE Tryd.underlying156 Tryd.underlying158 rfl rfl Tryd.underlying9 (by kernel_rfl) (by kernel_rfl)
  obtain ⟨a1, s1, hv1, -, -, -⟩ := laid_sentinel hL3.tail gSyn gSynT Tryd.underlying108 rowE Tryd.underlying156 Tryd.underlying158 rfl rfl Tryd.underlying9 (by kernel_rfl) (by kernel_rfl)
  have h1 := World.var?_cell gSyn hv1 0
  have h2 := World.var?_cell gRng hv2 0
  have h2' : w.cell? ⟨2, 0, none⟩ = some (.iface 156 (.pointer (some a2))) := by simpa using h2
  have h1' : w.cell? ⟨1, 0, none⟩ = some (.iface 156 (.pointer (some a1))) := by simpa using h1
  exact ⟨Tryd.laysM145.s1_3 w hsh, ⟨_, h1', .inr ⟨_, _, rfl⟩⟩, ⟨_, h2', .inr ⟨_, _, rfl⟩⟩, World.block_lt_of_cell? w _ h2'⟩
set_option maxRecDepth 100000 in
/-- A text, opened. -/
theorem open_text {H : Type} {enc : TypeId × Value → H} {W : World} {r : Reach} {b0 : Nat} {v : Value} {d : DataW H} {p : List MemPlace} (hv : Value.okWide Tryd.prog W r b0 9 v) (h : DataW.Trod enc Tryd.prog W 0 (fun _ => true) true 9 v d p) : ∃ s : ByteArray, v = .string s := by
  obtain ⟨s, rfl, _⟩ := Go.ChangeMaps.open_string Tryd.underlying9 hv h
  exact ⟨s, rfl⟩

namespace cHoursTexts

set_option maxRecDepth 100000 in
theorem contract (H : Type) (enc : TypeId × Value → H) (W : World) (base : Nat) (args : Array Value) (ds gs : List (DataW H)) (before : List MemPlace)
    (hval : ∀ (j : Nat) t v, Tryd.f7.params[j]? = some t → args[j]? = some v → Value.okWide Tryd.prog W .any base t v)
    (hW : DataW.Whole enc Tryd.prog Tryd.f7.params.toList Rows.hoursTextsSpec.vars false W args.toList ds gs before)
    (hL : laidMet Tryd.prog Rows.hoursTextsRow.laid W) (hsh : W.ShapedOpen Tryd.prog) :
    Calls Tryd.prog 7 args W fun e W' => ∃ v, e = .returned v ∧ Rows.hoursTextsSpec.post enc Tryd.prog Tryd.f7 false true false false W args v W' := by
  have hW' := hW
  obtain ⟨p, q, hA0, hV, rfl, hfz, hnd⟩ := hW
  have hA : DataW.TrodAll enc Tryd.prog W 0 (fun _ => true) true Tryd.f7.params.toList args.toList ds p := hA0
  clear hA0
  obtain ⟨rfl, rfl⟩ := trodVars_none hV
  rw [Tryd.params7] at hA hval
  obtain ⟨v0, vs0, d0, ds0, p0, q0, hargs, rfl, rfl, h0, r0⟩ := trodAll_cons hA
  obtain ⟨v1, vs1, d1, ds1, p1, q1, rfl, rfl, rfl, h1, r1⟩ := trodAll_cons r0
  obtain ⟨rfl, rfl, rfl⟩ := trodAll_nil r1
  obtain rfl : args = #[v0, v1] := by cases args; simp_all
  obtain ⟨b0, g0, p0_, rfl⟩ := open_hour (hval 0 37 v0 rfl rfl) h0
  obtain ⟨s1, rfl⟩ := open_text (hval 1 9 v1 rfl rfl) h1
  refine (Texts_any b0 g0 p0_ s1 W (TxW.of hL hsh)).mono fun e W' ⟨he, hb⟩ => ⟨_, he, ?_⟩
  exact law_post hW' rfl rfl rfl (by rw [Tryd.params7]; decide +kernel) hb

theorem laid_met (os : Os) : laidMet Tryd.prog Rows.hoursTextsRow.laid ((World.doorLaid Tryd.prog 62 os).forCall (fun _ _ => 0) ⟨#[], #[.agg #[.bool false, .int .i64 0, .int .i64 0], .string ⟨#[]⟩], []⟩).memory :=
  laidMet_of_run' 8 (by kernel_rfl) (by kernel_rfl)
theorem reads (os : Os) {H : Type} (enc : TypeId × Value → H) : ∃ places, DataW.whole enc Tryd.prog ((World.doorLaid Tryd.prog 62 os).forCall (fun _ _ => 0) ⟨#[], #[.agg #[.bool false, .int .i64 0, .int .i64 0], .string ⟨#[]⟩], []⟩).memory Tryd.f7.params.toList Rows.hoursTextsSpec.vars false (#[.agg #[.bool false, .int .i64 0, .int .i64 0], .string ⟨#[]⟩] : Array Value).toList 8 = some ([.agg [.lit (.bool false), .lit (.int .i64 0), .lit (.int .i64 0)], .lit (.string [])], [], places) :=
  ⟨[], by kernel_rfl⟩

set_option maxRecDepth 100000 in
theorem lifted (os : Os) (started : os.Started) (H : Type) (enc : TypeId × Value → H) (F : Stop.Interp) :
    ReturnsInHanded {} Tryd.checked os 7 .any ((OpenSpec.ofChange Rows.hoursTextsSpec).preRow enc Tryd.prog Tryd.f7 Rows.hoursTextsRow.domain false Rows.hoursTextsRow.laid) (((OpenSpec.ofChange Rows.hoursTextsSpec).at F).post enc Tryd.prog Tryd.f7 false true false false) := by
  obtain ⟨places, hx⟩ := reads os enc
  refine returnsInHanded_of_row (C := Tryd.checked) (s := OpenSpec.ofChange Rows.hoursTextsSpec) own started (by kernel_rfl) Tryd.func7
    (witness_row_at (enc := enc) (C := Tryd.checked) false (World.doorLaid Tryd.prog 62 os) #[.agg #[.bool false, .int .i64 0, .int .i64 0], .string ⟨#[]⟩] rfl (by kernel_rfl) (by kernel_rfl) (by kernel_rfl)
      (OpenSpec.preRow_of_cond 8 hx (by kernel_rfl) (fun k hk => by cases hk) (by kernel_rfl) (laid_met os))) ?_
  intro W base args ds gs before hval hW _ _ _ hL hsh _
  exact contract H enc W base args ds gs before hval hW ((Go.MakeChecks.laidMetH_plain Tryd.prog Rows.hoursTextsRow.laid W (by kernel_rfl)) ▸ hL) hsh

theorem said : Rows.HoursTextsSaid :=
  OpenClaim.holds_of_cond 7 Tryd.f7 rfl rfl rfl rfl rfl rfl rfl ⟨rfl, rfl, rfl, rfl, rfl⟩ rfl rfl rfl rfl rfl (by kernel_rfl) Tryd.func7 (by kernel_rfl)
    (of_decide_eq_true (by kernel_rfl)) (by unfold Func.isWrapper; first | (rw [if_pos (by decide +kernel)]; kernel_rfl) | (rw [if_neg (by decide +kernel)]; exact ⟨rfl, rfl⟩))
    (fun os started H enc _ F => by rw [OpenClaim.pre_eq_preRow]; exact lifted os started H enc F)

theorem plain (f : FuncId) (fn : Func) (hf : Tryd.pinned.checked.prog.funcNamed "waterhour/waterhourlaw05.HoursTexts" = some f) (hfn : Tryd.pinned.checked.prog.funcs[f]? = some fn) :
    true = Tryd.pinned.checked.prog.looks [] ∧ ∀ (j : Nat) t, fn.params[j]? = some t → Tryd.pinned.checked.prog.wantsStandIn t = false := by
  obtain rfl : f = 7 := Option.some.inj ((show Tryd.prog.funcNamed "waterhour/waterhourlaw05.HoursTexts" = some 7 by kernel_rfl).symm.trans hf) |>.symm
  obtain rfl : fn = Tryd.f7 := (Option.some.inj (Tryd.func7.symm.trans hfn)).symm
  refine ⟨by kernel_rfl, fun j t ht => ?_⟩
  have hall : ∀ t ∈ Tryd.f7.params.toList, Tryd.prog.wantsStandIn t = false := by rw [Tryd.params7]; decide +kernel
  exact hall t (by simpa using Array.mem_of_getElem? ht)

/-- The card of HoursTexts. -/
theorem card : Rows.HoursTextsCardSaid :=
  Claim7.holds_tied_plain_at .later [] _ _ _ _ said (fun _ h => by cases h) (by kernel_rfl) (fun _ h => by cases h) hoursTexts_row_tie rfl ⟨rfl, rfl⟩ (by kernel_rfl) rfl plain (by kernel_rfl)
end cHoursTexts
end Go.Proofs.YtomlfliebolkmaaDoor
