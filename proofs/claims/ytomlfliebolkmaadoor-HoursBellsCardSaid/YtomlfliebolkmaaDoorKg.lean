/-
  Bells of the program and of the reference; equal slices, by contract. No condition beyond what each states.
-/
import Derived.Test.YtomlfliebolkmaaDoorKd
import Derived.Laws.AppendOwn
import Derived.Laws.OwnMore
import Derived.ChangeAlike
import Derived.RegionTactic
import Derived.Deep.RegionLaw
set_option linter.unusedVariables false
set_option linter.unusedSimpArgs false
namespace Go.Proofs.YtomlfliebolkmaaDoor
open Go Go.Proofs Go.RowKit Pl

theorem info3 : (Tryd.prog.info? 3).map (fun i => (i.zero, i.size, i.bytes)) = some (some (.int .i64 0), 1, 8) := by kernel_rfl
theorem ownsRow_below {W w1 : World} {base : Nat} {e : TypeId} {size n : Nat} {v : Value} {xs : List Value} (h : W.ownsRow base e size v n xs) (hb : Below W.heap.size W w1) : w1.ownsRow base e size v n xs := by
  obtain ⟨hl, h2⟩ := h
  refine ⟨hl, ?_⟩
  rcases h2 with h2 | ⟨g, cap, cur, e1, e2, e3, rest⟩
  · exact .inl h2
  · exact .inr ⟨g, cap, cur, e1, e2, (hb.block g (Array.getElem?_eq_some_iff.1 e3).1).trans e3, rest⟩
/-- One number appended to a row of one's own. -/
theorem app_one {ops : Array Oper} {rest : List Oper} {o : Oper} {a : Act} {Q : Exit → Act → World → Prop} {w : World} (hgd : o.guard = none) (s x : Operand)
    (ho : o.op = .call { callee := .builtin .append, args := #[s, x], argTypes := #[22, 22] }) (base : Nat) (v : Value) (n : Nat) (xs : List Value) (hs : a.eval s = v) (hown : w.ownsRow base 3 1 v n xs)
    (ad : Addr) (u : Int) (hx : a.eval x = .slice (some ad) 1 1) (hc : w.cell? ad = some (.int .i64 u)) (hn : n ≤ 1000) (hbase : base ≤ w.heap.size)
    (h : ∀ v' w', w'.ownsRow base 3 1 v' (n + 1) (xs ++ [.int .i64 u]) → w.grownBy w' v.ownBlock → wpList Tryd.prog ops Q rest (a.put o.dst v') w') : wpList Tryd.prog ops Q (o :: rest) a w := by
  obtain ⟨i0, hi, hz0, hz1, hz2⟩ := info_parts info3
  exact wpList_append_own _ hgd s x 22 ho base 3 i0 (.int .i64 0) 1 8 Tryd.underlying22 hi hz0 hz1 hz2 rfl (by decide) v n xs hs hown ad 1 1 [.int .i64 u] hx rfl
    (fun j u' hj => by
      match j, hj with
      | 0, hj => simp at hj; subst hj; simpa [Addr.add] using hc)
    (fun u' hu => by simp at hu; subst hu; rfl) (by unfold maxLen; omega) (by omega) hbase (fun v' w' h1 h2 _ => h v' w' h1 h2)

/-- The bells of a day, from sunrise on. -/
def bl (L : Int) (D R S : List Int) (day : Int) (k : Nat) : Int := upF (Mo L D R S (day * 1440 + 60 * (k : Int)))
def blL (L : Int) (D R S : List Int) (day : Int) (n : Nat) : List Int := (List.range n).map (bl L D R S day)
theorem blL_succ (L : Int) (D R S : List Int) (day : Int) (n : Nat) : blL L D R S day (n + 1) = blL L D R S day n ++ [bl L D R S day n] := by simp [blL, List.range_succ]
theorem blL_len (L : Int) (D R S : List Int) (day : Int) (n : Nat) : (blL L D R S day n).length = n := by simp [blL]
theorem blL_at (L : Int) (D R S : List Int) (day : Int) (n k : Nat) (h : k < n) : (blL L D R S day n)[k]?.getD 0 = bl L D R S day k := by simp [blL, h]
theorem bl_first (L : Int) (D R S : List Int) (day : Int) (b : Bool) (h : Nat) (hh : h ≤ 11) : upF (momF L D R S day b (60 * (h : Int) + 0)) = bl L D R S day ((if b = true then 12 else 0) + h) := by
  rw [mom_ord _ _ _ _ _ _ _ _ (by omega)]
  unfold bl ord
  congr 2
  cases b <;> simp <;> omega

/-- What holds while bells are gathered: the row is the call's own, the season's box lies as it lay. -/
structure BR (w wr : World) (s1 s2 s3 : Value) (L : Int) (D R S : List Int) (day : Int) (k : Nat) (v : Value) : Prop where
  own : wr.ownsRow (w.heap.size + 1) 3 1 v k ((blL L D R S day k).map (Value.int .i64))
  c0 : wr.cell? ⟨w.heap.size, 0, none⟩ = some (.int .i64 L)
  c1 : wr.cell? ⟨w.heap.size, 1, none⟩ = some s1
  c2 : wr.cell? ⟨w.heap.size, 2, none⟩ = some s2
  c3 : wr.cell? ⟨w.heap.size, 3, none⟩ = some s3
  gt : w.heap.size < wr.heap.size
  hb : Below w.heap.size w wr
theorem BR.on {w wr w1 : World} {s1 s2 s3 : Value} {L : Int} {D R S : List Int} {day : Int} {k : Nat} {v : Value} (h : BR w wr s1 s2 s3 L D R S day k v) (hb : Below wr.heap.size wr w1) : BR w w1 s1 s2 s3 L D R S day k v :=
  ⟨ownsRow_below h.own hb, keep_cell hb h.gt h.c0, keep_cell hb h.gt h.c1, keep_cell hb h.gt h.c2, keep_cell hb h.gt h.c3, keep_lt hb h.gt, bjoin h.hb hb⟩
theorem BR.app {w wr w2 : World} {s1 s2 s3 : Value} {L : Int} {D R S : List Int} {day : Int} {k : Nat} {v v' : Value} (h : BR w wr s1 s2 s3 L D R S day k v)
    (hown' : w2.ownsRow (w.heap.size + 1) 3 1 v' (k + 1) ((blL L D R S day k).map (Value.int .i64) ++ [.int .i64 (bl L D R S day k)])) (hg : wr.grownBy w2 v.ownBlock) : BR w w2 s1 s2 s3 L D R S day (k + 1) v' := by
  have hne : some w.heap.size ≠ v.ownBlock := fun e => by have := h.own.lt _ e.symm; omega
  refine ⟨by rw [blL_succ]; simpa using hown', hg.cell h.c0 hne, hg.cell h.c1 hne, hg.cell h.c2 hne, hg.cell h.c3 hne, Nat.lt_of_lt_of_le h.gt hg.size, h.hb.grown hg (Nat.le_of_lt h.gt) (fun j hj => by have := (h.own.lt j hj).1; omega)⟩
/-- The same, as one step of a region that draws its order. -/
theorem step_app_own {ops : Array Oper} {o : Oper} {a : Act} {w : World} {K : Act → World → Prop} {Q : Exit → Act → World → Prop} {E : Prop} (hgd : o.guard = none) (s x : Operand)
    (ho : o.op = .call { callee := .builtin .append, args := #[s, x], argTypes := #[22, 22] }) (base : Nat) (v : Value) (n : Nat) (xs : List Value) (hs : a.eval s = v) (hown : w.ownsRow base 3 1 v n xs)
    (ad : Addr) (u : Int) (hx : a.eval x = .slice (some ad) 1 1) (hc : w.cell? ad = some (.int .i64 u)) (hn : n ≤ 1000) (hbase : base ≤ w.heap.size)
    (h : ∀ v' w', w'.ownsRow base 3 1 v' (n + 1) (xs ++ [.int .i64 u]) → w.grownBy w' v.ownBlock → K (a.put o.dst v') w') : if Region.wanted o (yielded ops a.tmps) = true then Oper.wp Tryd.prog o a w K Q else E := by
  have hw : Region.wanted o (yielded ops a.tmps) = true := by simp [Region.wanted, hgd]
  rw [if_pos hw]
  obtain ⟨i0, hi, hz0, hz1, hz2⟩ := info_parts info3
  exact wp_append_own w s x 22 ho base 3 i0 (.int .i64 0) 1 8 Tryd.underlying22 hi hz0 hz1 hz2 rfl (by decide) v n xs hs hown ad 1 1 [.int .i64 u] hx rfl
    (fun j u' hj => by
      match j, hj with
      | 0, hj => simp at hj; subst hj; simpa [Addr.add] using hc)
    (fun u' hu => by simp at hu; subst hu; rfl) (by unfold maxLen; omega) (by omega) hbase (fun v' w' h1 h2 _ => h v' w' h1 h2)


/-- The outer loop's rounds. -/
def BO (w wr : World) (s1 s2 s3 : Value) (L : Int) (D R S : List Int) (day : Int) (vi v : Value) : Prop :=
  (vi = .int .i64 0 ∧ BR w wr s1 s2 s3 L D R S day 0 v) ∨ (vi = .int .i64 1 ∧ BR w wr s1 s2 s3 L D R S day 12 v) ∨ (vi = .int .i64 2 ∧ BR w wr s1 s2 s3 L D R S day 24 v)

set_option maxRecDepth 100000 in
set_option maxHeartbeats 8000000 in
theorem Bells_ok {L : Int} {n b1 o1 c1 b2 o2 c2 b3 o3 c3 : Nat} {D R S : List Int} (day : Int) (w : World) (hs : SeaO w (some ⟨b1, o1, none⟩) n (some ⟨b2, o2, none⟩) n (some ⟨b3, o3, none⟩) n D R S) (hsea : Sea w n b1 o1 b2 o2 b3 o3 D R S) (hok : Ok L D R S) (hd : 0 ≤ day ∧ day ≤ 11000) :
   Calls Tryd.prog 64 #[.agg #[.int .i64 L, .slice (some ⟨b1, o1, none⟩) n c1, .slice (some ⟨b2, o2, none⟩) n c2, .slice (some ⟨b3, o3, none⟩) n c3], .int .i64 day] w fun e w' => ∃ v, e = .returned (.tuple #[v, .int .i64 0]) ∧ BR w w' (.slice (some ⟨b1, o1, none⟩) n c1) (.slice (some ⟨b2, o2, none⟩) n c2) (.slice (some ⟨b3, o3, none⟩) n c3) L D R S day 24 v := by
  have HSEA := Lib.hid hs; have HSE := Lib.hid hsea; have HO := Lib.hid hok; have HDY := Lib.hid hd
  clear hs hsea hok hd
  have ia : ∀ w, (Instr.index 115 (.agg #[.bool false, .bool true]) (.int .i64 0)).run Tryd.prog w = .ok (.bool false) w := fun _ => by kernel_rfl
  have ib : ∀ w, (Instr.index 115 (.agg #[.bool false, .bool true]) (.int .i64 1)).run Tryd.prog w = .ok (.bool true) w := fun _ => by kernel_rfl
  go_enter Tryd.func64, Tryd.ntmps64
  go_wp2_with fail
  refine (asked_any day _ (HSEA.out.to (by go_grown)) (lst_one _ _ _ _ _ (by simp))).mono ?_
  rintro e w1 ⟨rfl, hb⟩
  rw [askH_ok day 0 0 HO.out (wi_mk HDY.out) hrOk_zero]
  have t0 := keep_cell (b := w.heap.size) (o := 0) (v := .int .i64 L) hb (by simp <;> omega) (by simp [go_sem])
  have t1 := keep_cell (b := w.heap.size) (o := 1) (v := .slice (some ⟨b1, o1, none⟩) n c1) hb (by simp <;> omega) (by simp [go_sem])
  have t2 := keep_cell (b := w.heap.size) (o := 2) (v := .slice (some ⟨b2, o2, none⟩) n c2) hb (by simp <;> omega) (by simp [go_sem])
  have t3 := keep_cell (b := w.heap.size) (o := 3) (v := .slice (some ⟨b3, o3, none⟩) n c3) hb (by simp <;> omega) (by simp [go_sem])
  have tl := keep_lt (b := w.heap.size) hb (by simp <;> omega)
  have HB1 := Lib.hid (show BR w w1 (.slice (some ⟨b1, o1, none⟩) n c1) (.slice (some ⟨b2, o2, none⟩) n c2) (.slice (some ⟨b3, o3, none⟩) n c3) L D R S day 0 (.slice none 0 0) from ⟨World.ownsRow_nil _ _ _ _, t0, t1, t2, t3, tl, bjoin (w := w) (by go_grown) hb⟩)
  clear hb t0 t1 t2 t3 tl
  go_wp2_with fail
  go_loopw [7, 19] (fun v vi wr => BO w wr (.slice (some ⟨b1, o1, none⟩) n c1) (.slice (some ⟨b2, o2, none⟩) n c2) (.slice (some ⟨b3, o3, none⟩) n c3) L D R S day vi v) (fun _ vi _ => 10 - (intOf vi).toNat)
  case atStart => exact .inl ⟨rfl, HB1.out⟩
  case round =>
    rcases hrel with ⟨rfl, hbr⟩ | ⟨rfl, hbr⟩ | ⟨rfl, hbr⟩
    all_goals (have HBR := Lib.hid hbr; clear hbr)
    · go_wp2
      obtain ⟨wo, rfl⟩ : ∃ wo : World, wo = wr := ⟨_, rfl⟩
      go_loopw [7, 22] (fun v vh wx => ∃ k : Nat, k ≤ 12 ∧ vh = .int .i64 k ∧ BR w wx (.slice (some ⟨b1, o1, none⟩) n c1) (.slice (some ⟨b2, o2, none⟩) n c2) (.slice (some ⟨b3, o3, none⟩) n c3) L D R S day (0 + k) v) (fun _ vh _ => 100 - (intOf vh).toNat)
      case atStart => exact ⟨0, by omega, rfl, HBR.out⟩
      case round =>
        obtain ⟨k, hk, rfl, hbx⟩ := hrel
        have HBX := Lib.hid hbx; clear hbx
        by_cases hlt : k < 12
        · have q0 := HBX.out.c0; have q1 := HBX.out.c1; have q2 := HBX.out.c2; have q3 := HBX.out.c3; have ql := HBX.out.gt
          have HVV := Lib.hid (show upF (momF L D R S day false (60 * (k : Int) + 0)) = bl L D R S day (0 + k) by rw [bl_first _ _ _ _ _ _ _ (by omega)]; rfl)
          go_wp2_with fail
          refine (first_any day false (k : Int) 0 _ (HSE.out.to HBX.out.hb) HO.out HDY.out.1 (by have := HDY.out; omega) (by omega) (by omega)).mono ?_
          rintro e w2 ⟨rfl, hb2⟩
          rw [HVV.out]
          have HB2 := Lib.hid hb2; clear hb2 q0 q1 q2 q3 ql
          obtain ⟨X, hX⟩ : ∃ X, X = bl L D R S day (0 + k) := ⟨_, rfl⟩
          have HVX := Lib.hid hX.symm
          rw [← hX]
          clear hX
          have hl2 := HB2.out.size; have hl3 := HBX.out.gt
          go_wp2_with (at_builtin; refine app_one rfl _ _ rfl (w.heap.size + 1) _ (0 + k) _ rfl (((HBX.out.on HB2.out).own).alloc _) ⟨w2.heap.size, 0, none⟩ X rfl (by simp [go_sem]) (by omega) (by simp; omega) ?_; intro v' w3 hown' hgrow)
          have HB3 := Lib.hid (show BR w w3 (.slice (some ⟨b1, o1, none⟩) n c1) (.slice (some ⟨b2, o2, none⟩) n c2) (.slice (some ⟨b3, o3, none⟩) n c3) L D R S day (0 + (k + 1)) v' from by
            have hx := HBX.out.on (bjoin (w := wr) HB2.out ((Below.refl w2.heap.size w2).alloc (Nat.le_refl _) (.cells #[.int .i64 X] 3)))
            exact hx.app (by rw [HVX.out]; exact hown') hgrow)
          clear hown' hgrow
          go_wp2
          go_roundw
          case rel => first | exact ⟨k + 1, by omega, by go_num, HB3.out⟩ | ((repeat apply Exists.intro); exact ⟨⟨k + 1, by omega, by go_num, HB3.out⟩, rfl⟩)
          case measure => simp [intOf]; omega
        · obtain rfl : k = 12 := by omega
          go_wp2
          go_roundw
          case rel => exact .inr (.inl ⟨rfl, HBX.out⟩)
          case measure => simp [intOf]
    · go_wp2
      obtain ⟨wo, rfl⟩ : ∃ wo : World, wo = wr := ⟨_, rfl⟩
      go_loopw [7, 22] (fun v vh wx => ∃ k : Nat, k ≤ 12 ∧ vh = .int .i64 k ∧ BR w wx (.slice (some ⟨b1, o1, none⟩) n c1) (.slice (some ⟨b2, o2, none⟩) n c2) (.slice (some ⟨b3, o3, none⟩) n c3) L D R S day (12 + k) v) (fun _ vh _ => 100 - (intOf vh).toNat)
      case atStart => exact ⟨0, by omega, rfl, HBR.out⟩
      case round =>
        obtain ⟨k, hk, rfl, hbx⟩ := hrel
        have HBX := Lib.hid hbx; clear hbx
        by_cases hlt : k < 12
        · have q0 := HBX.out.c0; have q1 := HBX.out.c1; have q2 := HBX.out.c2; have q3 := HBX.out.c3; have ql := HBX.out.gt
          have HVV := Lib.hid (show upF (momF L D R S day true (60 * (k : Int) + 0)) = bl L D R S day (12 + k) by rw [bl_first _ _ _ _ _ _ _ (by omega)]; rfl)
          go_wp2_with fail
          refine (first_any day true (k : Int) 0 _ (HSE.out.to HBX.out.hb) HO.out HDY.out.1 (by have := HDY.out; omega) (by omega) (by omega)).mono ?_
          rintro e w2 ⟨rfl, hb2⟩
          rw [HVV.out]
          have HB2 := Lib.hid hb2; clear hb2 q0 q1 q2 q3 ql
          obtain ⟨X, hX⟩ : ∃ X, X = bl L D R S day (12 + k) := ⟨_, rfl⟩
          have HVX := Lib.hid hX.symm
          rw [← hX]
          clear hX
          have hl2 := HB2.out.size; have hl3 := HBX.out.gt
          go_wp2_with (at_builtin; refine app_one rfl _ _ rfl (w.heap.size + 1) _ (12 + k) _ rfl (((HBX.out.on HB2.out).own).alloc _) ⟨w2.heap.size, 0, none⟩ X rfl (by simp [go_sem]) (by omega) (by simp; omega) ?_; intro v' w3 hown' hgrow)
          have HB3 := Lib.hid (show BR w w3 (.slice (some ⟨b1, o1, none⟩) n c1) (.slice (some ⟨b2, o2, none⟩) n c2) (.slice (some ⟨b3, o3, none⟩) n c3) L D R S day (12 + (k + 1)) v' from by
            have hx := HBX.out.on (bjoin (w := wr) HB2.out ((Below.refl w2.heap.size w2).alloc (Nat.le_refl _) (.cells #[.int .i64 X] 3)))
            exact hx.app (by rw [HVX.out]; exact hown') hgrow)
          clear hown' hgrow
          go_wp2
          go_roundw
          case rel => first | exact ⟨k + 1, by omega, by go_num, HB3.out⟩ | ((repeat apply Exists.intro); exact ⟨⟨k + 1, by omega, by go_num, HB3.out⟩, rfl⟩)
          case measure => simp [intOf]; omega
        · obtain rfl : k = 12 := by omega
          go_wp2
          go_roundw
          case rel => exact .inr (.inr ⟨rfl, HBX.out⟩)
          case measure => simp [intOf]
    · go_wp2
      go_ret2
      exact ⟨_, rfl, HBR.out⟩

set_option maxHeartbeats 4000000 in
theorem Bells_no {L : Int} {n1 n2 n3 c1 c2 c3 : Nat} {a1 a2 a3 : Option Addr} {D R S : List Int} (day : Int) (w : World) (hs : SeaO w a1 n1 a2 n2 a3 n3 D R S) (he : askH L D R S day 0 0 ≠ 0) :
   Calls Tryd.prog 64 #[.agg #[.int .i64 L, .slice a1 n1 c1, .slice a2 n2 c2, .slice a3 n3 c3], .int .i64 day] w fun e w' => e = .returned (.tuple #[.slice none 0 0, .int .i64 (askH L D R S day 0 0)]) ∧ Below w.heap.size w w' := by
  have HSEA := Lib.hid hs; clear hs
  have hne : (askH L D R S day 0 0 == 0) = false := by simpa using he
  go_enter Tryd.func64, Tryd.ntmps64
  go_wp2_with fail
  refine (asked_any day _ (HSEA.out.to (by go_grown)) (lst_one _ _ _ _ _ (by simp))).mono ?_
  rintro e w1 ⟨rfl, hb⟩
  have HB1 := Lib.hid (bjoin (w := w) (by go_grown) hb)
  clear hb
  go_wp2
  go_ret2
  exact ⟨rfl, HB1.out⟩
set_option maxHeartbeats 4000000 in
theorem rBells_no {L : Int} {n1 n2 n3 c1 c2 c3 : Nat} {a1 a2 a3 : Option Addr} {D R S : List Int} (day : Int) (w : World) (hs : SeaO w a1 n1 a2 n2 a3 n3 D R S) (he : askH L D R S day 0 0 ≠ 0) :
   Calls Tryd.prog 65 #[.agg #[.int .i64 L, .slice a1 n1 c1, .slice a2 n2 c2, .slice a3 n3 c3], .int .i64 day] w fun e w' => e = .returned (.tuple #[.slice none 0 0, .int .i64 (askH L D R S day 0 0)]) ∧ Below w.heap.size w w' := by
  have HSEA := Lib.hid hs; clear hs
  have hne : (askH L D R S day 0 0 == 0) = false := by simpa using he
  go_enter Tryd.func65, Tryd.ntmps65
  go_wp2_with fail
  refine (ready_any day false 0 0 _ (HSEA.out.to (by go_grown))).mono ?_
  rintro e w1 ⟨rfl, hb⟩
  have HB1 := Lib.hid (bjoin (w := w) (by go_grown) hb)
  clear hb
  go_wp2
  go_ret2
  exact ⟨rfl, HB1.out⟩

theorem mom_k (L : Int) (D R S : List Int) (day : Int) (k : Nat) (h : k < 24) : upF (momF L D R S day (decide (720 ≤ 60 * (k : Int))) (60 * (60 * (k : Int) / 60 % 12) + 60 * (k : Int) % 60)) = bl L D R S day k := by
  rw [mom_ord _ _ _ _ _ _ _ _ (by omega)]
  unfold bl ord
  congr 2
  by_cases e : 720 ≤ 60 * (k : Int)
  · rw [decide_eq_true e, if_pos rfl]; omega
  · rw [decide_eq_false e, if_neg (by decide)]; omega

set_option maxRecDepth 100000 in
set_option maxHeartbeats 8000000 in
theorem rBells_ok {L : Int} {n b1 o1 c1 b2 o2 c2 b3 o3 c3 : Nat} {D R S : List Int} (day : Int) (w : World) (hs : SeaO w (some ⟨b1, o1, none⟩) n (some ⟨b2, o2, none⟩) n (some ⟨b3, o3, none⟩) n D R S) (hsea : Sea w n b1 o1 b2 o2 b3 o3 D R S) (hok : Ok L D R S) (hd : 0 ≤ day ∧ day ≤ 11000) :
   Calls Tryd.prog 65 #[.agg #[.int .i64 L, .slice (some ⟨b1, o1, none⟩) n c1, .slice (some ⟨b2, o2, none⟩) n c2, .slice (some ⟨b3, o3, none⟩) n c3], .int .i64 day] w fun e w' => ∃ v, e = .returned (.tuple #[v, .int .i64 0]) ∧ BR w w' (.slice (some ⟨b1, o1, none⟩) n c1) (.slice (some ⟨b2, o2, none⟩) n c2) (.slice (some ⟨b3, o3, none⟩) n c3) L D R S day 24 v := by
  have HSEA := Lib.hid hs; have HSE := Lib.hid hsea; have HO := Lib.hid hok; have HDY := Lib.hid hd
  clear hs hsea hok hd
  go_enter Tryd.func65, Tryd.ntmps65
  go_wp2_with fail
  refine (ready_any day false 0 0 _ (HSEA.out.to (by go_grown))).mono ?_
  rintro e w1 ⟨rfl, hb⟩
  rw [askH_ok day 0 0 HO.out (wi_mk HDY.out) hrOk_zero]
  have t0 := keep_cell (b := w.heap.size) (o := 0) (v := .int .i64 L) hb (by simp <;> omega) (by simp [go_sem])
  have t1 := keep_cell (b := w.heap.size) (o := 1) (v := .slice (some ⟨b1, o1, none⟩) n c1) hb (by simp <;> omega) (by simp [go_sem])
  have t2 := keep_cell (b := w.heap.size) (o := 2) (v := .slice (some ⟨b2, o2, none⟩) n c2) hb (by simp <;> omega) (by simp [go_sem])
  have t3 := keep_cell (b := w.heap.size) (o := 3) (v := .slice (some ⟨b3, o3, none⟩) n c3) hb (by simp <;> omega) (by simp [go_sem])
  have tl := keep_lt (b := w.heap.size) hb (by simp <;> omega)
  have HB1 := Lib.hid (show BR w w1 (.slice (some ⟨b1, o1, none⟩) n c1) (.slice (some ⟨b2, o2, none⟩) n c2) (.slice (some ⟨b3, o3, none⟩) n c3) L D R S day 0 (.slice none 0 0) from ⟨World.ownsRow_nil _ _ _ _, t0, t1, t2, t3, tl, bjoin (w := w) (by go_grown) hb⟩)
  clear hb t0 t1 t2 t3 tl
  go_wp2_with fail
  go_loopw [7, 8] (fun v vk wr => ∃ k : Nat, k ≤ 24 ∧ vk = .int .i64 k ∧ BR w wr (.slice (some ⟨b1, o1, none⟩) n c1) (.slice (some ⟨b2, o2, none⟩) n c2) (.slice (some ⟨b3, o3, none⟩) n c3) L D R S day k v) (fun _ vk _ => 100 - (intOf vk).toNat)
  case atStart => exact ⟨0, by omega, rfl, HB1.out⟩
  case round =>
    obtain ⟨k, hk, rfl, hbr⟩ := hrel
    have HBR := Lib.hid hbr; clear hbr
    by_cases hlt : k < 24
    · have q0 := HBR.out.c0; have q1 := HBR.out.c1; have q2 := HBR.out.c2; have q3 := HBR.out.c3; have ql := HBR.out.gt
      go_wp2
      have HV1 := Lib.hid (show upF (momF L D R S day (decide (720 ≤ 60 * (k : Int))) (60 * ((k : Int) % 12))) = bl L D R S day k by have h := mom_k L D R S day k hlt; rwa [show 60 * (k : Int) / 60 = k by omega, show 60 * (k : Int) % 60 = 0 by omega, Int.add_zero] at h)
      have HMB := Lib.hid (show 43200 ≤ momF L D R S day (decide (720 ≤ 60 * (k : Int))) (60 * ((k : Int) % 12)) ∧ momF L D R S day (decide (720 ≤ 60 * (k : Int))) (60 * ((k : Int) % 12)) ≤ 30000000000 by have h := HO.out.momA (day := day) (decide (720 ≤ 60 * (k : Int))) HDY.out (h := (k : Int) % 12) (p := 0) (by omega); rwa [Int.add_zero] at h)
      have sw := IntWalk.i64_in (60 * (k : Int)) (by omega)
      have HM := Lib.hid (HDY.out)
      go_region_law (first
        | (refine step_app_own rfl _ _ rfl (w.heap.size + 1) _ k _ rfl (((HBR.out.on HBB.out).own).alloc _) ⟨wb.heap.size, 0, none⟩ (bl L D R S day k) rfl (by simp [go_sem]) (by omega) (by have h1 := HBB.out.size; have h2 := HBR.out.gt; simp; omega) ?_; intro v' w3 hown' hgrow)
        | (go_simp; go_at_call 84; clear sw; refine (hour_any _ _ (by omega)).mono ?_; rintro e wa ⟨rfl, hba⟩; have HBA := Lib.hid (bjoin (w := wr) ((Below.refl wr.heap.size wr).drew) hba); clear hba; have q0 := keep_cell HBA.out ql q0; have q1 := keep_cell HBA.out ql q1; have q2 := keep_cell HBA.out ql q2; have q3 := keep_cell HBA.out ql q3; have ql := keep_lt HBA.out ql)
        | (go_simp; go_at_call 86; refine (rMoment_any _ _ _ _ _ (HSE.out.to (bjoin HBR.out.hb HBA.out)) HO.out HDY.out.1 (by have := HDY.out; omega) (by omega) (by omega)).mono ?_; rintro e wb ⟨rfl, hbb⟩; have HBB := Lib.hid (bjoin HBA.out hbb); clear hbb)
        | (go_simp; go_at_call 87; refine (up_any _ _ (by have := HMB.out; omega)).mono ?_; rintro e wc ⟨rfl, rfl⟩; rw [HV1.out]))
      all_goals
        have HB3 := Lib.hid ((HBR.out.on (bjoin HBB.out ((Below.refl wb.heap.size wb).alloc (Nat.le_refl _) (.cells #[.int .i64 (bl L D R S day k)] 3)))).app hown' hgrow)
        clear hown' hgrow
        go_wp2
        go_roundw
        case rel => exact ⟨k + 1, by omega, by go_num, HB3.out⟩
        case measure => simp [intOf]; omega
    · obtain rfl : k = 24 := by omega
      go_wp2
      go_ret2
      exact ⟨_, rfl, HBR.out⟩


set_option maxHeartbeats 4000000 in
theorem slEqual_any {b o b' o' n c c' : Nat} {xs : List Int} (w : World) (hx : Lst w w.heap.size b o n xs) (hy : Lst w w.heap.size b' o' n xs) (hn : n ≤ 1000) :
   Calls Tryd.prog 66 #[.slice (some ⟨b, o, none⟩) n c, .slice (some ⟨b', o', none⟩) n c'] w fun e w' => e = .returned (.bool true) ∧ Below w.heap.size w w' := by
  have HC := Lib.hid hx.cell; have HD := Lib.hid hy.cell
  have hbx := hx.lt; have hby := hy.lt
  go_enter Tryd.func66, Tryd.ntmps66
  go_wp2
  go_loopw [13] (fun vk wr => ∃ k : Nat, k ≤ n ∧ vk = .int .i64 (k : Int) ∧ Below w.heap.size w wr) (fun vk _ => 2000 - (intOf vk).toNat)
  case atStart => exact ⟨0, by omega, rfl, Below.refl _ _⟩
  case round =>
    obtain ⟨k, hk, rfl, hbr⟩ := hrel
    have HB := Lib.hid hbr; clear hbr
    by_cases hlt : k < n
    · have q0 := keep_cell HB.out hbx (HC.out k hlt)
      have q1 := keep_cell HB.out hby (HD.out k hlt)
      go_wp2
      go_quiet (fail)
      go_wp2
      go_roundw
      case rel => exact ⟨k + 1, by omega, by go_num, by (repeat refine below_drewN ?_ _); exact HB.out⟩
      case measure => simp [intOf]; omega
    · go_wp2
      go_ret
      exact ⟨rfl, HB.out⟩
set_option maxHeartbeats 4000000 in
theorem slEqual_nil (w : World) : Calls Tryd.prog 66 #[.slice none 0 0, .slice none 0 0] w fun e w' => e = .returned (.bool true) ∧ Below w.heap.size w w' := by
  go_enter Tryd.func66, Tryd.ntmps66
  go_wp2
  go_rounds 1
  go_ret
  exact ⟨rfl, by go_grown⟩
/-- A row of one's own of 24 bells, as a list in memory. -/
theorem BR.lst {w wr : World} {s1 s2 s3 : Value} {L : Int} {D R S : List Int} {day : Int} {v : Value} (h : BR w wr s1 s2 s3 L D R S day 24 v) : ∃ g cap, v = .slice (some ⟨g, 0, none⟩) 24 cap ∧ Lst wr wr.heap.size g 0 24 (blL L D R S day 24) := by
  obtain ⟨hl, h2 | ⟨g, cap, cur, rfl, e2, e3, rest⟩⟩ := h.own
  · omega
  · refine ⟨g, cap, rfl, blL_len _ _ _ _ _ _, fun i hi => ?_, (Array.getElem?_eq_some_iff.1 e3).1⟩
    rw [Nat.zero_add, h.own.cellAt i (by omega), List.getElem?_map, blL_at _ _ _ _ _ _ _ hi]
    simp [blL, hi]

end Go.Proofs.YtomlfliebolkmaaDoor
