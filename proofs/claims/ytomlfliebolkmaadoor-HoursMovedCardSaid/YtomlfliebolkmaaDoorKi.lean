/-
  HoursMoved: the season that is gathered.
-/
import Derived.Test.YtomlfliebolkmaaDoorKh
import Derived.Test.YtomlfliebolkmaaDoorPlD
set_option linter.unusedVariables false
set_option linter.unusedSimpArgs false
namespace Go.Proofs.YtomlfliebolkmaaDoor
open Go Go.Proofs Go.RowKit Pl

/-- The first k of a list, moved. -/
def mvL (T : List Int) (t : Int) (k : Nat) : List Int := (T.take k).map (· + t)
theorem mvL_succ (T : List Int) (t : Int) {k : Nat} (h : k < T.length) : mvL T t (k + 1) = mvL T t k ++ [T[k]?.getD 0 + t] := by
  unfold mvL; rw [List.take_succ_eq_append_getElem h, List.map_append, List.getElem?_eq_getElem h]; rfl
theorem mvL_all (T : List Int) (t : Int) {k : Nat} (h : T.length = k) : mvL T t k = T.map (· + t) := by
  unfold mvL; rw [List.take_of_length_le (by omega)]
theorem mvV_succ (T : List Int) (t : Int) {k : Nat} (h : k < T.length) {x : Int} (hx : x = T[k]?.getD 0 + t) : (mvL T t k).map (Value.int .i64) ++ [.int .i64 x] = (mvL T t (k + 1)).map (Value.int .i64) := by
  rw [mvL_succ T t h, List.map_append, hx]; rfl
/-- What holds while a season's two rows are gathered in a box of block u.heap.size: the rows are the call's own, and apart. -/
structure RG (u W : World) (L : Int) (s1 v2 v3 : Value) (n2 n3 : Nat) (xs2 xs3 : List Value) (m2 m3 : Value) : Prop where
  o2 : W.ownsRow (u.heap.size + 1) 3 1 v2 n2 xs2
  o3 : W.ownsRow (u.heap.size + 1) 3 1 v3 n3 xs3
  ne : v2.ownBlock = none ∨ v2.ownBlock ≠ v3.ownBlock
  en : v3.ownBlock = none ∨ v3.ownBlock ≠ v2.ownBlock
  c0 : W.cell? ⟨u.heap.size, 0, none⟩ = some (.int .i64 L)
  c1 : W.cell? ⟨u.heap.size, 1, none⟩ = some s1
  c2 : W.cell? ⟨u.heap.size, 2, none⟩ = some m2
  c3 : W.cell? ⟨u.heap.size, 3, none⟩ = some m3
  f2 : W.frozen? ⟨u.heap.size, 2, none⟩ = false
  f3 : W.frozen? ⟨u.heap.size, 3, none⟩ = false
  gt : u.heap.size < W.heap.size
  hb : Below u.heap.size u W
section
variable {u W : World} {L : Int} {s1 v2 v3 m2 m3 : Value} {n2 n3 : Nat} {xs2 xs3 : List Value}
theorem RG.new (u : World) (L : Int) (s1 : Value) : RG u (u.alloc (.cells #[.int .i64 L, s1, .slice none 0 0, .slice none 0 0] 24)) L s1 (.slice none 0 0) (.slice none 0 0) 0 0 [] [] (.slice none 0 0) (.slice none 0 0) :=
  ⟨World.ownsRow_nil _ _ _ _, World.ownsRow_nil _ _ _ _, .inl rfl, .inl rfl, by simp [go_sem], by simp [go_sem], by simp [go_sem], by simp [go_sem], by simp [go_sem], by simp [go_sem], by simp, (Below.refl _ _).alloc (Nat.le_refl _) _⟩
theorem RG.far2 (h : RG u W L s1 v2 v3 n2 n3 xs2 xs3 m2 m3) : some u.heap.size ≠ v2.ownBlock := fun e => by have := (h.o2.lt _ e.symm).1; omega
theorem RG.far3 (h : RG u W L s1 v2 v3 n2 n3 xs2 xs3 m2 m3) : some u.heap.size ≠ v3.ownBlock := fun e => by have := (h.o3.lt _ e.symm).1; omega
theorem RG.swap (h : RG u W L s1 v2 v3 n2 n3 xs2 xs3 m2 m3) : W.ownsRow (u.heap.size + 1) 3 1 v3 n3 xs3 := h.o3
theorem RG.alloc (h : RG u W L s1 v2 v3 n2 n3 xs2 xs3 m2 m3) (o : Obj) : RG u (W.alloc o) L s1 v2 v3 n2 n3 xs2 xs3 m2 m3 :=
  have hb : Below W.heap.size W (W.alloc o) := (Below.refl _ _).alloc (Nat.le_refl _) _
  ⟨h.o2.alloc o, h.o3.alloc o, h.ne, h.en, keep_cell hb h.gt h.c0, keep_cell hb h.gt h.c1, keep_cell hb h.gt h.c2, keep_cell hb h.gt h.c3, keep_fr hb h.gt h.f2, keep_fr hb h.gt h.f3, keep_lt hb h.gt, h.hb.trans (hb.mono (Nat.le_of_lt h.gt))⟩
theorem RG.drew (h : RG u W L s1 v2 v3 n2 n3 xs2 xs3 m2 m3) : RG u W.drew L s1 v2 v3 n2 n3 xs2 xs3 m2 m3 :=
  ⟨h.o2, h.o3, h.ne, h.en, h.c0, h.c1, h.c2, h.c3, h.f2, h.f3, h.gt, h.hb.drew⟩
theorem RG.app2 (h : RG u W L s1 v2 v3 n2 n3 xs2 xs3 m2 m3) {w' : World} {g cap m : Nat} {xs : List Value} (ho : w'.ownsRow (u.heap.size + 1) 3 1 (.slice (some ⟨g, 0, none⟩) m cap) m xs) (hg : W.grownBy w' v2.ownBlock)
    (hat : v2.ownBlock = some g ∨ g = W.heap.size) : RG u w' L s1 (.slice (some ⟨g, 0, none⟩) m cap) v3 m n3 xs xs3 m2 m3 := by
  have hne : v3.ownBlock ≠ some g := fun e => by
    rcases hat with h1 | h1
    · rcases h.en with k | k
      · rw [k] at e; cases e
      · exact k (e.trans h1.symm)
    · have := (h.o3.lt _ e).2; omega
  exact ⟨ho, h.o3.kept hg h.en, .inr (fun e => hne e.symm), .inr hne, hg.cell h.c0 h.far2, hg.cell h.c1 h.far2, hg.cell h.c2 h.far2, hg.cell h.c3 h.far2,
    (hg.frozen_far _ h.gt h.far2).trans h.f2, (hg.frozen_far _ h.gt h.far2).trans h.f3, Nat.lt_of_lt_of_le h.gt hg.size, h.hb.grown hg (Nat.le_of_lt h.gt) (fun j hj => by have := (h.o2.lt j hj).1; omega)⟩
theorem RG.app3 (h : RG u W L s1 v2 v3 n2 n3 xs2 xs3 m2 m3) {w' : World} {g cap m : Nat} {xs : List Value} (ho : w'.ownsRow (u.heap.size + 1) 3 1 (.slice (some ⟨g, 0, none⟩) m cap) m xs) (hg : W.grownBy w' v3.ownBlock)
    (hat : v3.ownBlock = some g ∨ g = W.heap.size) : RG u w' L s1 v2 (.slice (some ⟨g, 0, none⟩) m cap) n2 m xs2 xs m2 m3 := by
  have hne : v2.ownBlock ≠ some g := fun e => by
    rcases hat with h1 | h1
    · rcases h.ne with k | k
      · rw [k] at e; cases e
      · exact k (e.trans h1.symm)
    · have := (h.o2.lt _ e).2; omega
  exact ⟨h.o2.kept hg h.ne, ho, .inr hne, .inr (fun e => hne e.symm), hg.cell h.c0 h.far3, hg.cell h.c1 h.far3, hg.cell h.c2 h.far3, hg.cell h.c3 h.far3,
    (hg.frozen_far _ h.gt h.far3).trans h.f2, (hg.frozen_far _ h.gt h.far3).trans h.f3, Nat.lt_of_lt_of_le h.gt hg.size, h.hb.grown hg (Nat.le_of_lt h.gt) (fun j hj => by have := (h.o3.lt j hj).1; omega)⟩
theorem RG.set2 (h : RG u W L s1 v2 v3 n2 n3 xs2 xs3 m2 m3) (x : Value) : RG u (W.setCell ⟨u.heap.size, 2, none⟩ x) L s1 v2 v3 n2 n3 xs2 xs3 x m3 := by
  have c0 := h.c0; have c1 := h.c1; have c2 := h.c2; have c3 := h.c3; have f2 := h.f2; have f3 := h.f3
  exact ⟨ownsRow_setCell_below h.o2 (by simp) _, ownsRow_setCell_below h.o3 (by simp) _, h.ne, h.en, by simp [go_sem, c0], by simp [go_sem, c1], by simp [go_sem, c2], by simp [go_sem, c3], by simp [go_sem, f2], by simp [go_sem, f3], by simpa using h.gt, h.hb.setCell (by simp) _⟩
theorem RG.set3 (h : RG u W L s1 v2 v3 n2 n3 xs2 xs3 m2 m3) (x : Value) : RG u (W.setCell ⟨u.heap.size, 3, none⟩ x) L s1 v2 v3 n2 n3 xs2 xs3 m2 x := by
  have c0 := h.c0; have c1 := h.c1; have c2 := h.c2; have c3 := h.c3; have f2 := h.f2; have f3 := h.f3
  exact ⟨ownsRow_setCell_below h.o2 (by simp) _, ownsRow_setCell_below h.o3 (by simp) _, h.ne, h.en, by simp [go_sem, c0], by simp [go_sem, c1], by simp [go_sem, c2], by simp [go_sem, c3], by simp [go_sem, f2], by simp [go_sem, f3], by simpa using h.gt, h.hb.setCell (by simp) _⟩
theorem info3m : (Tryd.prog.info? 3).map (fun i => (i.zero, i.size, i.bytes)) = some (some (.int .i64 0), 1, 8) := by kernel_rfl
/-- The append to the first row. -/
theorem step_app2 {ops : Array Oper} {o : Oper} {a : Act} {K : Act → World → Prop} {Q : Exit → Act → World → Prop} {E : Prop} (h : RG u W L s1 v2 v3 n2 n3 xs2 xs3 m2 m3) (hgd : o.guard = none) (s x : Operand)
    (ho : o.op = .call { callee := .builtin .append, args := #[s, x], argTypes := #[22, 22] }) (hs : a.eval s = v2) (ad : Addr) (q : Int) (hx : a.eval x = .slice (some ad) 1 1) (hc : W.cell? ad = some (.int .i64 q)) (hn : n2 ≤ 1000)
    (hK : ∀ g cap W', RG u W' L s1 (.slice (some ⟨g, 0, none⟩) (n2 + 1) cap) v3 (n2 + 1) n3 (xs2 ++ [.int .i64 q]) xs3 m2 m3 → W.grownBy W' v2.ownBlock → K (a.put o.dst (.slice (some ⟨g, 0, none⟩) (n2 + 1) cap)) W') :
    if Region.wanted o (yielded ops a.tmps) = true then Oper.wp Tryd.prog o a W K Q else E := by
  obtain ⟨i0, hi, hz0, hz1, hz2⟩ := info_parts info3m
  exact step_append_lies W hgd s x 22 ho (u.heap.size + 1) 3 i0 (.int .i64 0) 1 8 Tryd.underlying22 hi hz0 hz1 hz2 rfl (by decide) v2 n2 xs2 hs h.o2 ad 1 1 [.int .i64 q] hx rfl
    (fun j u' hj => by
      match j, hj with
      | 0, hj => simp at hj; subst hj; simpa [Addr.add] using hc)
    (fun u' hu => by simp at hu; subst hu; rfl) (by omega) (by unfold maxLen; omega) (by omega) h.gt _ rfl (fun g cap w' h1 h2 h3 _ => hK g cap w' (h.app2 h1 h2 h3) h2)
/-- The append to the second row. -/
theorem step_app3 {ops : Array Oper} {o : Oper} {a : Act} {K : Act → World → Prop} {Q : Exit → Act → World → Prop} {E : Prop} (h : RG u W L s1 v2 v3 n2 n3 xs2 xs3 m2 m3) (hgd : o.guard = none) (s x : Operand)
    (ho : o.op = .call { callee := .builtin .append, args := #[s, x], argTypes := #[22, 22] }) (hs : a.eval s = v3) (ad : Addr) (q : Int) (hx : a.eval x = .slice (some ad) 1 1) (hc : W.cell? ad = some (.int .i64 q)) (hn : n3 ≤ 1000)
    (hK : ∀ g cap W', RG u W' L s1 v2 (.slice (some ⟨g, 0, none⟩) (n3 + 1) cap) n2 (n3 + 1) xs2 (xs3 ++ [.int .i64 q]) m2 m3 → W.grownBy W' v3.ownBlock → K (a.put o.dst (.slice (some ⟨g, 0, none⟩) (n3 + 1) cap)) W') :
    if Region.wanted o (yielded ops a.tmps) = true then Oper.wp Tryd.prog o a W K Q else E := by
  obtain ⟨i0, hi, hz0, hz1, hz2⟩ := info_parts info3m
  exact step_append_lies W hgd s x 22 ho (u.heap.size + 1) 3 i0 (.int .i64 0) 1 8 Tryd.underlying22 hi hz0 hz1 hz2 rfl (by decide) v3 n3 xs3 hs h.o3 ad 1 1 [.int .i64 q] hx rfl
    (fun j u' hj => by
      match j, hj with
      | 0, hj => simp at hj; subst hj; simpa [Addr.add] using hc)
    (fun u' hu => by simp at hu; subst hu; rfl) (by omega) (by unfold maxLen; omega) (by omega) h.gt _ rfl (fun g cap w' h1 h2 h3 _ => hK g cap w' (h.app3 h1 h2 h3) h2)
end
theorem wrap_in {x : Int} (h0 : -9223372036854775808 ≤ x) (h1 : x ≤ 9223372036854775807) : IntKind.i64.wrap x = x := by
  have e1 : (2 : Int) ^ IntKind.i64.bits = 18446744073709551616 := by decide
  have e2 : (2 : Int) ^ (IntKind.i64.bits - 1) = 9223372036854775808 := by decide
  have e3 : IntKind.i64.signed = true := rfl
  unfold IntKind.wrap
  simp only [e1, e2, e3, Bool.true_and, decide_eq_true_eq]
  split <;> omega
/-- A gathered row that is not empty, read as a list. -/
theorem row_lst {W : World} {base n : Nat} {v : Value} {T : List Int} {t : Int} (h : W.ownsRow base 3 1 v n ((mvL T t n).map (Value.int .i64))) (hn : 0 < n) (hT : T.length = n) :
    ∃ g cap, v = .slice (some ⟨g, 0, none⟩) n cap ∧ Lst W W.heap.size g 0 n (T.map (· + t)) := by
  rw [mvL_all T t hT] at h
  obtain ⟨g, cap, rfl, _, hlt⟩ := h.form hn
  refine ⟨g, cap, rfl, by simp [hT], fun i hi => ?_, hlt⟩
  rw [Nat.zero_add, h.cellAt i (by omega), List.getElem?_map]
  have hi' : i < (T.map (· + t)).length := by simp [hT]; exact hi
  rw [List.getElem?_eq_getElem hi']
  rfl
theorem Check_not {L : Int} {n1 n2 n3 c1 c2 c3 : Nat} {a1 a2 a3 : Option Addr} {D R S : List Int} (w : World) (hs : SeaO w a1 n1 a2 n2 a3 n3 D R S) (h : ¬ Ok L D R S) :
   Calls Tryd.prog 26 #[.agg #[.int .i64 L, .slice a1 n1 c1, .slice a2 n2 c2, .slice a3 n3 c3]] w fun e w' => e = .returned (.int .i64 50) ∧ Below w.heap.size w w' := by
  have k := check_any (L := L) (c1 := c1) (c2 := c2) (c3 := c3) w hs.D hs.R hs.S hs.d hs.r hs.s
  rw [ck_no h] at k
  exact k
theorem Check_yes {L : Int} {n1 n2 n3 c1 c2 c3 : Nat} {a1 a2 a3 : Option Addr} {D R S : List Int} (w : World) (hs : SeaO w a1 n1 a2 n2 a3 n3 D R S) (h : Ok L D R S) :
   Calls Tryd.prog 26 #[.agg #[.int .i64 L, .slice a1 n1 c1, .slice a2 n2 c2, .slice a3 n3 c3]] w fun e w' => e = .returned (.int .i64 0) ∧ Below w.heap.size w w' := by
  have k := check_any (L := L) (c1 := c1) (c2 := c2) (c3 := c3) w hs.D hs.R hs.S hs.d hs.r hs.s
  rw [ck_yes h] at k
  exact k

end Go.Proofs.YtomlfliebolkmaaDoor
