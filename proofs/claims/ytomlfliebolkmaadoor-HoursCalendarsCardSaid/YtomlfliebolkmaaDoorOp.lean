/-
  Arguments opened, and what a law that holds leaves. No condition beyond what each states.
-/
import Derived.Test.YtomlfliebolkmaaDoorCards
import Derived.Test.YtomlfliebolkmaaDoorTie
import Derived.Test.YtomlfliebolkmaaDoorCJ
import Derived.WalkKit
import Derived.ProofKit
import Derived.OpenShut
import Derived.Carry
import Derived.Deep.DeepHandedRow
import Derived.Lib.LaidTab
import Derived.Lib.SmallJoins
set_option linter.unusedVariables false
set_option linter.unusedSimpArgs false
namespace Go.Proofs.YtomlfliebolkmaaDoor
open Go Go.Proofs Go.ChangeShapes Go.WideShapes Go.ChangeAt Go.RowKit Go.Joins Pl

theorem own : ownKnob Tryd.prog.godebug = none := by kernel_rfl
theorem laidOut : laidOutB Tryd.prog = true := by kernel_rfl
theorem cells24 : Tryd.prog.cellsOf 24 = 4 := by kernel_rfl
theorem cells3 : Tryd.prog.cellsOf 3 = 1 := by kernel_rfl

/-- All arguments read behind the call as they did before. -/
theorem below_trodAll {H : Type} {enc : TypeId × Value → H} {W W' : World} (hb : Below W.heap.size W W') : ∀ {ts : List TypeId} {vs : List Value} {ds : List (DataW H)} {ps : List MemPlace},
    (∀ t ∈ ts, Tryd.prog.readableRec t = true ∧ t < Tryd.prog.types.size) → DataW.TrodAll enc Tryd.prog W 0 (fun _ => true) true ts vs ds ps → (∀ x ∈ ps, x.block < W.heap.size) →
    DataW.TrodAll enc Tryd.prog W' 0 (fun b => decide (b < W.heap.size)) true ts vs ds ps
  | [], [], [], _, _, h, _ => h
  | _ :: _, _ :: _, _ :: _, _, hT, ⟨p, q, h1, h2, e⟩, hs =>
    ⟨p, q, Below.trod laidOut (hT _ (List.mem_cons.2 (Or.inl rfl))).1 (hT _ (List.mem_cons.2 (Or.inl rfl))).2 h1 hb (fun x hx => hs x (by rw [e]; exact List.mem_append_left _ hx)),
      below_trodAll hb (fun t ht => hT t (List.mem_cons.2 (Or.inr ht))) h2 (fun x hx => hs x (by rw [e]; exact List.mem_append_right _ hx)), e⟩

/-- A list of numbers, opened. -/
theorem open_lst {H : Type} {enc : TypeId × Value → H} {W : World} {fuel : Nat} {c : Value} {y : DataW H × List MemPlace} (h : DataW.trod enc Tryd.prog W 0 (fun _ => true) true fuel 22 [c] = some y) :
    ∃ (a : Option Addr) (n cap : Nat) (D : List Int), c = .slice a n cap ∧ LstO W a n D := by
  rcases open_ints Tryd.underlying22 Tryd.underlying3 cells3 h with ⟨hc, _⟩ | ⟨a, len, cap, zs, hc, _, hl, _, hz, _, hcell, _⟩
  · simp at hc
    exact ⟨none, 0, 0, [], hc, rfl, .inl rfl⟩
  · simp at hc
    simp at hz
    refine ⟨some a, len, cap, zs.take len, hc, by simp; omega, ?_⟩
    rcases Nat.eq_zero_or_pos len with h0 | h0
    · exact .inl h0
    · right
      obtain ⟨b, off, rfl, hx⟩ := ints_at hcell (by omega)
      refine ⟨b, off, rfl, ⟨by simp; omega, fun i hi => ?_, ?_⟩⟩
      · rw [hx i (by omega)]
        simp [List.getElem?_take, hi, List.getD]
      · have := hx 0 (by omega)
        exact World.block_lt_of_cell? W _ this

set_option maxRecDepth 100000 in
/-- A season, opened. -/
theorem open_season {H : Type} {enc : TypeId × Value → H} {W : World} {r : Reach} {b0 : Nat} {v : Value} {d : DataW H} {p : List MemPlace} (hv : Value.okWide Tryd.prog W r b0 24 v) (h : DataW.Trod enc Tryd.prog W 0 (fun _ => true) true 24 v d p) :
    ∃ (L : Int) (a1 a2 a3 : Option Addr) (n1 n2 n3 c1 c2 c3 : Nat) (D R S : List Int), v = .agg #[.int .i64 L, .slice a1 n1 c1, .slice a2 n2 c2, .slice a3 n3 c3] ∧ LstO W a1 n1 D ∧ LstO W a2 n2 R ∧ LstO W a3 n3 S := by
  obtain ⟨v0, v1, v2, v3, y0, y1, y2, y3, n, rfl, rfl, rfl, h0, h1, h2, h3⟩ := open_agg4 Tryd.underlying24 (by kernel_rfl) cells24 hv h
  obtain ⟨L, e0, _, _⟩ := DataW.trod_int Tryd.underlying3 h0
  obtain ⟨a1, n1, c1, D, rfl, hD⟩ := open_lst h1
  obtain ⟨a2, n2, c2, R, rfl, hR⟩ := open_lst h2
  obtain ⟨a3, n3, c3, S, rfl, hS⟩ := open_lst h3
  simp at e0
  subst e0
  exact ⟨L, a1, a2, a3, n1, n2, n3, c1, c2, c3, D, R, S, rfl, hD, hR, hS⟩

/-- What a law that holds leaves: true, and its arguments as they were. -/
theorem law_post {H : Type} {enc : TypeId × Value → H} {f : Func} {s : ChangeSpec} {apart : Bool} {W W' : World} {args : Array Value} {ds gs : List (DataW H)} {before : List MemPlace}
    (hW : DataW.Whole enc Tryd.prog f.params.toList s.vars apart W args.toList ds gs before) (hv : s.vars = []) (hsp : s.fn H (ds ++ gs) = { results := [.lit (.bool true)], args := ds }) (hr : f.resultTypes = #[4])
    (hT : ∀ t ∈ f.params.toList, Tryd.prog.readableRec t = true ∧ t < Tryd.prog.types.size) (hb : Below W.heap.size W W') :
    s.post enc Tryd.prog f apart true false false W args (.bool true) W' := by
  have hW' := hW
  obtain ⟨p, q, hA, hV, hpq, _, _⟩ := hW'
  rw [hv] at hV
  obtain ⟨rfl, rfl⟩ := trodVars_none hV
  have hlt : ∀ x ∈ p, x.block < W.heap.size := fun x hx => by have := hW.lt x (by rw [hpq]; simp [hx]); simpa using this
  refine ⟨ds, [], before, [], p, [], hW, ?_, ?_, ?_, ?_, fun h => by cases h⟩
  · rw [hsp, hr]
    exact trodAll_cons_mk (shut_bool Tryd.underlying4 _) trodAll_mk0
  · rw [hsp]
    exact below_trodAll hb hT hA hlt
  · rw [hsp, hv]; trivial
  · exact hb.frame _
end Go.Proofs.YtomlfliebolkmaaDoor
