/-
  The days from one to another, as an iterator. No condition beyond what each states.
-/
import Derived.Test.YtomlfliebolkmaaDoorWK
import Derived.Test.YtomlfliebolkmaaDoorCD
import Derived.RangeFuncFrom
import Derived.RangeFuncNested
import Derived.RangeFuncBound
import Derived.RangeFuncCalls
import Derived.RangeFuncLeaves
import Derived.Shelf.Abstract
import Derived.Shelf.RegionOpen
import Derived.WalkKit
import Derived.OwnWalkIn
import Derived.TacticsInMore
import Derived.LoopNIn
import Derived.LoopIn
set_option linter.unusedVariables false
set_option linter.unusedSimpArgs false
namespace Go.Proofs.YtomlfliebolkmaaDoor
open Go Go.Proofs Go.RowKit Go.Shelf Pl

attribute [local go_sem] Oper.semAt_some

/-- The days from one to another. -/
abbrev Dy (a b : Int) := { x : Int // a ≤ x ∧ x ≤ b }
def dyAt (a b : Int) (h : a ≤ b) (k : Nat) : Dy a b := ⟨a + min (k : Int) (b - a), by omega⟩
def dyUp (a b : Int) (h : a ≤ b) (k : Nat) : List (Dy a b) := (List.range k).map (dyAt a b h)
theorem dyUp_succ (a b : Int) (h : a ≤ b) (k : Nat) : dyUp a b h (k + 1) = dyUp a b h k ++ [dyAt a b h k] := by simp [dyUp, List.range_succ]
theorem dyUp_length (a b : Int) (h : a ≤ b) (k : Nat) : (dyUp a b h k).length = k := by simp [dyUp]
/-- How many. -/
def dyN (a b : Int) : Nat := (b - a + 1).toNat
/-- The world has only grown, and one block lies as it lay. -/
def KT (b : Nat) (A B : World) : Prop := A.heap.size ≤ B.heap.size ∧ B.heap[b]? = A.heap[b]?
theorem KT.refl (b : Nat) (A : World) : KT b A A := ⟨Nat.le_refl _, rfl⟩
theorem KT.trans {b : Nat} {A B C : World} (h : KT b A B) (k : KT b B C) : KT b A C := ⟨Nat.le_trans h.1 k.1, k.2.trans h.2⟩
theorem KT.cell {b : Nat} {A B : World} (h : KT b A B) : B.cell? ⟨b, 0, none⟩ = A.cell? ⟨b, 0, none⟩ := by unfold World.cell?; simp only [h.2]
theorem KT.of_below {b : Nat} {A B : World} (h : Below A.heap.size A B) (hb : b < A.heap.size) : KT b A B := ⟨h.size, h.block b hb⟩
theorem KT.set {b : Nat} {A : World} (p : Addr) (v : Value) (h : b ≠ p.block) : KT b A (A.setCell p v) := ⟨by simp, by unfold World.setCell; simp only [World.heap, Array.getElem?_modify]; rw [if_neg (Ne.symm h)]⟩
theorem KT_b {b : Nat} {w : World} (hn : b < w.heap.size) (W : World) (l : Nat) (o o' : Obj) (hl : w.heap.size ≤ l) (h : W.heap[l]? = some o) (h1 : o.isCells = false) (h2 : o.isWalk = false) : KT b W (W.putObj l o') :=
  have k := belowK_b (w := w) (n₀ := b + 1) (by omega) W l o o' hl h h1 h2
  ⟨k.size, k.block b (by omega)⟩
theorem keeps_of_below {W W' : World} (h : Below W.heap.size W W') : KeepsOthers W W' :=
  ⟨h.size, fun k o hk _ => by rw [h.block k (Array.getElem?_eq_some_iff.1 hk).1]; exact hk⟩

set_option maxRecDepth 100000 in
set_option maxHeartbeats 2000000 in
theorem days1_in (n : Nat) (hn : 1 ≤ n) (l Bf Bt : Nat) (a b : Int) (hab : a ≤ b) (ha : -10000000 ≤ a) (hb : b ≤ 10000000) (J Jx : List (Dy a b) → World → Prop)
    (hY : ∀ pre (x : Dy a b) W, J pre W → pre.length < dyN a b → YieldAt Fence.wide (n - 1) Tryd.prog l #[.int .i64 x.1] W fun e W' =>
      (e = .returned (.bool true) ∧ J (pre ++ [x]) W' ∧ KT Bt W W') ∨ (e = .returned (.bool false) ∧ Jx (pre ++ [x]) W'))
    (W : World) (hF : W.cell? ⟨Bf, 0, none⟩ = some (.int .i64 a)) (hT : W.cell? ⟨Bt, 0, none⟩ = some (.int .i64 b)) (h0 : J [] W) :
    CallsIn Fence.wide n Tryd.prog 108 #[.func (.yield l) #[] #[], .pointer (some ⟨Bf, 0, none⟩), .pointer (some ⟨Bt, 0, none⟩)] W fun e W' => (∃ v, e = .returned v) ∧
      ((∃ ys, ys = dyUp a b hab (dyN a b) ∧ J ys W') ∨ (∃ pre, (∃ k, k < dyN a b ∧ pre = dyUp a b hab (k + 1)) ∧ Jx pre W')) := by
  refine callsIn_of_wp Tryd.func108 rfl trivial ?_ rfl
  simp only [Tryd.ntmps108, List.size_toArray, List.length_cons, List.length_nil, Nat.reduceAdd, Nat.reduceSub, Array.replicate_succ, Array.replicate_zero, List.push_toArray, List.append_toArray, List.nil_append, List.cons_append]
  gi_wp2
  gi_loopw [4] (fun i wr => ∃ k : Nat, k ≤ dyN a b ∧ i = .int .i64 (a + k) ∧ J (dyUp a b hab k) wr ∧ KT Bt W wr) (fun i _ => (b + 1 - intOf i).toNat)
  case atStart => exact ⟨0, Nat.zero_le _, by simp, h0, KT.refl _ _⟩
  case round =>
    obtain ⟨k, hk, rfl, hJs, hnx⟩ := hrel
    have hN : (dyN a b : Int) = b - a + 1 := by unfold dyN; omega
    have hT' : wr.cell? ⟨Bt, 0, none⟩ = some (.int .i64 b) := hnx.cell.trans hT
    have HN := Lib.hid hN
    have hk' : a + (k : Int) ≤ b + 1 := by omega
    by_cases hlt : a + (k : Int) ≤ b
    · obtain ⟨fn, tmps, assign, body, hy, hR⟩ := hY _ (dyAt a b hab k) wr hJs (by rw [dyUp_length]; omega)
      have hv : (dyAt a b hab k).1 = a + (k : Int) := by show a + min (k : Int) (b - a) = _; omega
      rw [hv] at hy
      clear hN hv
      gi_wp2
      refine hR.mono ?_
      rintro e W3 (⟨rfl, hJ3, hk3⟩ | ⟨rfl, hJx3⟩)
      · gi_wp2
        go_roundw
        case rel => exact ⟨k + 1, by have := HN.out; omega, by go_num, by rw [dyUp_succ]; exact hJ3, hnx.trans hk3⟩
        case measure => simp [intOf]; omega
      · gi_wp2
        refine bodyPost_ret (results_none rfl _ _ _) rfl ?_
        exact ⟨⟨_, rfl⟩, .inr ⟨_, ⟨k, by have := HN.out; omega, (dyUp_succ _ _ _ _).symm⟩, hJx3⟩⟩
    · obtain rfl : k = dyN a b := by omega
      clear hN
      gi_wp2
      go_end0
      exact ⟨⟨_, rfl⟩, .inl hJs⟩

/-- The iterator's word: all days, in order; or the first of them up to one. -/
theorem days_stops (n : Nat) (hn : 1 ≤ n) (Bf Bt : Nat) (a b : Int) (hab : a ≤ b) (ha : -10000000 ≤ a) (hb : b ≤ 10000000) (w : World) (hBf : Bf < w.heap.size) (hBt : Bt < w.heap.size)
    (hF : w.cell? ⟨Bf, 0, none⟩ = some (.int .i64 a)) (hT : w.cell? ⟨Bt, 0, none⟩ = some (.int .i64 b)) :
    SeqStopsK Fence.wide n Tryd.prog 108 #[.pointer (some ⟨Bf, 0, none⟩), .pointer (some ⟨Bt, 0, none⟩)] (fun x : Dy a b => #[Value.int .i64 x.1]) (KT Bt)
      (fun ys => ys = dyUp a b hab (dyN a b)) (fun pre => ∃ k, k < dyN a b ∧ pre = dyUp a b hab (k + 1)) (dyN a b) w := fun l J Jx W hW _ _ hY h0 =>
  days1_in n hn l Bf Bt a b hab ha hb J Jx hY W ((hW.cell (p := ⟨Bf, 0, none⟩) hBf).trans hF) ((hW.cell (p := ⟨Bt, 0, none⟩) hBt).trans hT) h0

theorem days_any (a b : Int) (w : World) :
    Calls Tryd.prog 89 #[.int .i64 a, .int .i64 b] w fun e w' => e = .returned (.func (.func 108) #[] #[.pointer (some ⟨w.heap.size, 0, none⟩), .pointer (some ⟨w.heap.size + 1, 0, none⟩)]) ∧ w' = (w.alloc (.cells #[.int .i64 a] 3)).alloc (.cells #[.int .i64 b] 3) := by
  go_enter Tryd.func89, Tryd.ntmps89
  go_wp2
  go_ret
  exact ⟨rfl, rfl⟩

end Go.Proofs.YtomlfliebolkmaaDoor
