/-
  HoursBells: what its law asks of the functions.
-/
import Derived.Test.YtomlfliebolkmaaDoorKg
import Derived.Deep.RegionHeld3
import Derived.OrdersHeld
set_option linter.unusedVariables false
set_option linter.unusedSimpArgs false
namespace Go.Proofs.YtomlfliebolkmaaDoor
open Go Go.Proofs Go.RowKit Pl

theorem lt_id {W w1 : World} {b : Nat} (_h : Below W.heap.size W w1) (h : b < W.heap.size) : b < W.heap.size := h
theorem bl_k (L : Int) (D R S : List Int) (day : Int) (k : Nat) (h : k < 24) : upF (momF L D R S day (decide (12 ≤ (k : Int))) (60 * ((k : Int) % 12) + 0)) = bl L D R S day k := by
  rw [mom_ord _ _ _ _ _ _ _ _ (by omega)]
  unfold bl ord
  congr 2
  by_cases e : 12 ≤ (k : Int)
  · rw [decide_eq_true e, if_pos rfl]; omega
  · rw [decide_eq_false e, if_neg (by decide)]; omega
theorem bl_next (L : Int) (D R S : List Int) (day : Int) : bl L D R S (day + 1) 0 = bl L D R S day 24 := by unfold bl; congr 2; omega
theorem bl_rise {L : Int} {D R S : List Int} (hok : Ok L D R S) (day : Int) (k : Nat) : bl L D R S day k < bl L D R S day (k + 1) := by
  have h := (bell_at hok (day * 1440 + 60 * (k : Int))).2.2.2.2
  unfold bl
  rwa [show day * 1440 + 60 * ((k + 1 : Nat) : Int) = day * 1440 + 60 * (k : Int) + 60 by omega]
theorem bl_bd {L : Int} {D R S : List Int} (hok : Ok L D R S) {day : Int} (hd : 0 ≤ day ∧ day ≤ 10998) {k : Nat} (hk : k ≤ 24) : 60 ≤ bl L D R S day k ∧ bl L D R S day k ≤ 15839500 := by
  have h1 := Mo_nonneg hok (n := day * 1440 + 60 * (k : Int)) (by omega)
  have h2 := Mo_top hok (n := day * 1440 + 60 * (k : Int)) (day + 1) (by omega)
  unfold bl upF; omega
theorem ord_k (day : Int) (k : Nat) (h : k < 24) : ord day (decide (12 ≤ (k : Int))) ((k : Int) % 12) 0 = day * 1440 + 60 * (k : Int) := by
  unfold ord
  by_cases e : 12 ≤ (k : Int)
  · rw [decide_eq_true e, if_pos rfl]; omega
  · rw [decide_eq_false e, if_neg (by decide)]; omega
/-- At a bell its hour is told. -/
theorem told_bell {L : Int} {n1 n2 n3 c1 c2 c3 : Nat} {a1 a2 a3 : Option Addr} {D R S : List Int} (day : Int) (k : Nat) (w : World) (hs : SeaO w a1 n1 a2 n2 a3 n3 D R S) (hok : Ok L D R S) (hd : 0 ≤ day ∧ day ≤ 10998) (hk : k < 24) :
   Calls Tryd.prog 55 #[.agg #[.int .i64 L, .slice a1 n1 c1, .slice a2 n2 c2, .slice a3 n3 c3], .int .i64 (bl L D R S day k)] w fun e w' => e = .returned (.tuple #[.int .i64 day, .agg #[.bool (decide (12 ≤ (k : Int))), .int .i64 ((k : Int) % 12), .int .i64 (toldN L D R S (bl L D R S day k) % 60)], .int .i64 0]) ∧ Below w.heap.size w w' := by
  have hb := bl_bd hok hd (show k ≤ 24 by omega)
  obtain ⟨t1, t2, _⟩ := bell_at hok (day * 1440 + 60 * (k : Int))
  have c := Told_ok (L := L) (c1 := c1) (c2 := c2) (c3 := c3) (bl L D R S day k) w hs hok (by omega) (by unfold bl; omega)
  have e1 : toldN L D R S (bl L D R S day k) / 1440 = day := by unfold bl; omega
  have e2 : decide (720 ≤ toldN L D R S (bl L D R S day k) % 1440) = decide (12 ≤ (k : Int)) := by
    rw [decide_eq_decide]; unfold bl; omega
  have e3 : toldN L D R S (bl L D R S day k) % 1440 / 60 % 12 = (k : Int) % 12 := by unfold bl; omega
  rw [e1, e2, e3] at c
  exact c
theorem row25 {L : Int} {D R S : List Int} {day : Int} {w' : World} {base : Nat} {v : Value} (h : w'.ownsRow base 3 1 v 25 ((blL L D R S day 24).map (Value.int .i64) ++ [.int .i64 (bl L D R S day 24)])) :
    ∃ g cap, v = .slice (some ⟨g, 0, none⟩) 25 cap ∧ 25 ≤ cap ∧ Lst w' w'.heap.size g 0 25 (blL L D R S day 25) := by
  have e : (blL L D R S day 24).map (Value.int .i64) ++ [.int .i64 (bl L D R S day 24)] = (blL L D R S day 25).map (Value.int .i64) := by rw [show (25 : Nat) = 24 + 1 from rfl, blL_succ, List.map_append]; rfl
  rw [e] at h
  obtain ⟨hl, h2 | ⟨g, cap, cur, rfl, e2, e3, hn, rest⟩⟩ := id h
  · omega
  · refine ⟨g, cap, rfl, hn, blL_len _ _ _ _ _ _, fun i hi => ?_, (Array.getElem?_eq_some_iff.1 e3).1⟩
    rw [Nat.zero_add, h.cellAt i (by omega), List.getElem?_map, blL_at _ _ _ _ _ _ _ hi]
    simp [blL, hi]


theorem wp_region_held_lit {P : Program} {ops : Array Oper} {Q : Exit → Act → World → Prop} {S : World → Prop} {id : Nat} {a : Act} {w : World} (n : Nat) (l : Array Bool) (hn : ops.size = n) (hl : Array.replicate n false = l) (hm : P.follows .mixedOrders = true) (hS : S w.drew)
    (h : S w.drew → wpAnyH P .any ops Q S n l a w.drew) : (Code.region id ops true).wp P Q a w := by
  subst hn; subst hl; exact wp_region_held_drew hm hS h

theorem wpAnyH_take_at {P : Program} {md : Region.Mode} {ops : Array Oper} {Q : Exit → Act → World → Prop} {S : World → Prop} {i : Nat} (d : Option Tmp) {oi : Oper} {v : Value} {fuel : Nat} {listed : Array Bool} {a : Act} {w : World} (hi : ops[i]? = some oi) (hd : oi.dst = d)
    (hs : Region.noSelect ops = true) (hf : Region.free md ops listed i = true) (hr : (Region.ready md ops listed).contains i = true)
    (hQ : ∀ c a w, Q (.panic c) (a.put d v) w → Q (.panic c) a w) (hy : YieldsIf P ops S oi v a) (hS : S w)
    (h : wpAnyH P md ops Q S fuel (listed.setIfInBounds i true) (a.put d v) w) : wpAnyH P md ops Q S (fuel + 1) listed a w := by
  subst hd; exact wpAnyH_take hi hs hf hr hQ hy hS h

end Go.Proofs.YtomlfliebolkmaaDoor
