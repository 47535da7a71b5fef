/-
  The longest day, by contract. No condition beyond what each states.
-/
import Derived.Test.YtomlfliebolkmaaDoorWL
import Derived.Test.YtomlfliebolkmaaDoorCF
import Derived.Laws.EntriesVeiled
set_option linter.unusedVariables false
set_option linter.unusedSimpArgs false
namespace Go.Proofs.YtomlfliebolkmaaDoor
open Go Go.Proofs Go.RowKit Go.Shelf Pl

set_option maxRecDepth 100000 in
set_option maxHeartbeats 2000000 in
theorem light_any {L : Int} {n b1 o1 c1 b2 o2 c2 b3 o3 c3 : Nat} {D R S : List Int} (B : Nat) (day : Int) (w : World) (hB : B < w.heap.size)
   (h0 : w.cell? ⟨B, 0, none⟩ = some (.int .i64 L)) (h1 : w.cell? ⟨B, 1, none⟩ = some (.slice (some ⟨b1, o1, none⟩) n c1)) (h2 : w.cell? ⟨B, 2, none⟩ = some (.slice (some ⟨b2, o2, none⟩) n c2)) (h3 : w.cell? ⟨B, 3, none⟩ = some (.slice (some ⟨b3, o3, none⟩) n c3))
   (hs : Sea w n b1 o1 b2 o2 b3 o3 D R S) (hok : Ok L D R S) (hd0 : 0 ≤ day) (hd1 : day ≤ 19999) :
   Calls Tryd.prog 88 #[.int .i64 day, .pointer (some ⟨B, 0, none⟩)] w fun e w' => e = .returned (.int .i64 (lightF L D R S day)) ∧ Below w.heap.size w w' := by
  have hr : 60 ≤ tab L D R (day % L) ∧ tab L D R (day % L) ≤ 700 := hok.rise day
  have hse : 740 ≤ tab L D S (day % L) ∧ tab L D S (day % L) ≤ 1380 := hok.set day
  have HS := Lib.hid hs; have HO := Lib.hid hok; clear hs hok
  have HQ := Lib.hid (show ∀ W', Below w.heap.size w W' → W'.cell? ⟨B, 0, none⟩ = some (.int .i64 L) ∧ W'.cell? ⟨B, 1, none⟩ = some (.slice (some ⟨b1, o1, none⟩) n c1) ∧ W'.cell? ⟨B, 2, none⟩ = some (.slice (some ⟨b2, o2, none⟩) n c2) ∧ W'.cell? ⟨B, 3, none⟩ = some (.slice (some ⟨b3, o3, none⟩) n c3) ∧ Below w.heap.size w W' from fun W' hBW => ⟨keep_cell hBW hB h0, keep_cell hBW hB h1, keep_cell hBW hB h2, keep_cell hBW hB h3, hBW⟩)
  go_enter Tryd.func88, Tryd.ntmps88
  go_wp2
  go_region_held3 (fun W' => W'.cell? ⟨B, 0, none⟩ = some (.int .i64 L) ∧ W'.cell? ⟨B, 1, none⟩ = some (.slice (some ⟨b1, o1, none⟩) n c1) ∧ W'.cell? ⟨B, 2, none⟩ = some (.slice (some ⟨b2, o2, none⟩) n c2) ∧ W'.cell? ⟨B, 3, none⟩ = some (.slice (some ⟨b3, o3, none⟩) n c3) ∧ Below w.heap.size w W') ((refine HQ.out _ ?_; first | exact (Below.refl _ _).drew | assumption)) (first | (go_at_call 69; obtain ⟨_, _, _, _, hBW⟩ := ‹_ ∧ _ ∧ _ ∧ _ ∧ Below w.heap.size w _›; first | ((with_reducible refine (at_any day _ (HS.out.to hBW).D (HS.out.to hBW).R HO.out (HS.out.Rb HO.out) hd0 (by omega)).mono ?_); rintro e wn ⟨rfl, hbn⟩; have hBN := bjoin hBW hbn) | ((with_reducible refine (at_any day _ (HS.out.to hBW).D (HS.out.to hBW).S HO.out (HS.out.Sb HO.out) hd0 (by omega)).mono ?_); rintro e wn ⟨rfl, hbn⟩; have hBN := bjoin hBW hbn)))
  obtain ⟨_, _, _, _, hBW⟩ := ‹_ ∧ _ ∧ _ ∧ _ ∧ Below w.heap.size w _›
  have HZ := Lib.hid hBW; clear hBW
  go_wp2
  go_ret
  exact ⟨ret_int (by simp (disch := omega) only [IntWalk.i64_in, lightF, lastF, riseF, Bool.false_eq_true, if_false]), HZ.out⟩

/-- The first element with the greatest (least) value, over a list of days. -/
def mxL {a b : Int} (f : Int → Int) (pre : List (Dy a b)) : Int := pre.foldl (fun m x => if f m < f x.1 then x.1 else m) 0
def mnL {a b : Int} (f : Int → Int) (pre : List (Dy a b)) : Int := pre.foldl (fun m x => if f x.1 < f m then x.1 else m) 0
theorem mxL_snoc {a b : Int} (f : Int → Int) (pre : List (Dy a b)) (x : Dy a b) : mxL f (pre ++ [x]) = if f (mxL f pre) < f x.1 then x.1 else mxL f pre := by simp [mxL]
theorem mnL_snoc {a b : Int} (f : Int → Int) (pre : List (Dy a b)) (x : Dy a b) : mnL f (pre ++ [x]) = if f x.1 < f (mnL f pre) then x.1 else mnL f pre := by simp [mnL]
theorem mxL_bd {b : Int} (hb : 0 ≤ b) (f : Int → Int) (pre : List (Dy 0 b)) : 0 ≤ mxL f pre ∧ mxL f pre ≤ b := by
  have : ∀ (l : List (Dy 0 b)) (m : Int), (0 ≤ m ∧ m ≤ b) → 0 ≤ l.foldl (fun m x => if f m < f x.1 then x.1 else m) m ∧ l.foldl (fun m x => if f m < f x.1 then x.1 else m) m ≤ b := by
    intro l
    induction l with
    | nil => exact fun m h => h
    | cons x l ih => intro m h; apply ih; dsimp only; split; exact x.2; exact h
  exact this pre 0 ⟨Int.le_refl _, hb⟩
theorem mnL_bd {b : Int} (hb : 0 ≤ b) (f : Int → Int) (pre : List (Dy 0 b)) : 0 ≤ mnL f pre ∧ mnL f pre ≤ b := by
  have : ∀ (l : List (Dy 0 b)) (m : Int), (0 ≤ m ∧ m ≤ b) → 0 ≤ l.foldl (fun m x => if f x.1 < f m then x.1 else m) m ∧ l.foldl (fun m x => if f x.1 < f m then x.1 else m) m ≤ b := by
    intro l
    induction l with
    | nil => exact fun m h => h
    | cons x l ih => intro m h; apply ih; dsimp only; split; exact x.2; exact h
  exact this pre 0 ⟨Int.le_refl _, hb⟩
theorem mxL_up {b : Int} (h : 0 ≤ b) (f : Int → Int) (k : Nat) (hk : k < dyN 0 b) : mxL f (dyUp 0 b h (k + 1)) = amax f k := by
  induction k with
  | zero =>
    rw [dyUp_succ, mxL_snoc, dyAt_val 0 b h 0 hk]
    simp [dyUp, mxL, amax]
  | succ k ih =>
    rw [dyUp_succ, mxL_snoc, ih (by omega), dyAt_val 0 b h (k + 1) hk, amax]
    simp
theorem mnL_up {b : Int} (h : 0 ≤ b) (f : Int → Int) (k : Nat) (hk : k < dyN 0 b) : mnL f (dyUp 0 b h (k + 1)) = amin f k := by
  induction k with
  | zero =>
    rw [dyUp_succ, mnL_snoc, dyAt_val 0 b h 0 hk]
    simp [dyUp, mnL, amin]
  | succ k ih =>
    rw [dyUp_succ, mnL_snoc, ih (by omega), dyAt_val 0 b h (k + 1) hk, amin]
    simp


/-- Whether seven operations wait for one another as two loads and two calls of one value each do. -/
def ok7 (md : Region.Mode) (ops : Array Oper) : Bool :=
  [false, true].all fun b0 => [false, true].all fun b1 => [false, true].all fun b2 => [false, true].all fun b3 => [false, true].all fun b4 => [false, true].all fun b5 => [false, true].all fun b6 =>
    (!(Region.ready md ops #[b0, b1, b2, b3, b4, b5, b6]).contains 0 || !b0) && ((!(Region.ready md ops #[b0, b1, b2, b3, b4, b5, b6]).contains 1 || !b1) &&
    ((!(Region.ready md ops #[b0, b1, b2, b3, b4, b5, b6]).contains 2 || (b0 && b1 && !b2)) && ((!(Region.ready md ops #[b0, b1, b2, b3, b4, b5, b6]).contains 3 || !b3) &&
    ((!(Region.ready md ops #[b0, b1, b2, b3, b4, b5, b6]).contains 4 || !b4) && ((!(Region.ready md ops #[b0, b1, b2, b3, b4, b5, b6]).contains 5 || (b3 && b4 && !b5)) &&
    ((!(Region.ready md ops #[b0, b1, b2, b3, b4, b5, b6]).contains 6 || (b2 && b5 && !b6)) && (!(Region.ready md ops #[b0, b1, b2, b3, b4, b5, b6]).isEmpty || (b0 && b1 && b2 && b3 && b4 && b5 && b6))))))))
theorem all_bool {f : Bool → Bool} (h : [false, true].all f = true) (b : Bool) : f b = true := by
  simp at h; cases b; exact h.1; exact h.2
theorem ok7_spec {md : Region.Mode} {ops : Array Oper} (h : ok7 md ops = true) (b0 b1 b2 b3 b4 b5 b6 : Bool) :
    (0 ∈ Region.ready md ops #[b0, b1, b2, b3, b4, b5, b6] → b0 = false) ∧ (1 ∈ Region.ready md ops #[b0, b1, b2, b3, b4, b5, b6] → b1 = false) ∧
    (2 ∈ Region.ready md ops #[b0, b1, b2, b3, b4, b5, b6] → b0 = true ∧ b1 = true ∧ b2 = false) ∧ (3 ∈ Region.ready md ops #[b0, b1, b2, b3, b4, b5, b6] → b3 = false) ∧
    (4 ∈ Region.ready md ops #[b0, b1, b2, b3, b4, b5, b6] → b4 = false) ∧ (5 ∈ Region.ready md ops #[b0, b1, b2, b3, b4, b5, b6] → b3 = true ∧ b4 = true ∧ b5 = false) ∧
    (6 ∈ Region.ready md ops #[b0, b1, b2, b3, b4, b5, b6] → b2 = true ∧ b5 = true ∧ b6 = false) ∧
    (Region.ready md ops #[b0, b1, b2, b3, b4, b5, b6] = [] → b0 = true ∧ b1 = true ∧ b2 = true ∧ b3 = true ∧ b4 = true ∧ b5 = true ∧ b6 = true) := by
  have k := all_bool (all_bool (all_bool (all_bool (all_bool (all_bool (all_bool h b0) b1) b2) b3) b4) b5) b6
  generalize Region.ready md ops #[b0, b1, b2, b3, b4, b5, b6] = r at *
  simp only [Bool.and_eq_true, Bool.or_eq_true, Bool.not_eq_true', List.contains_eq_mem, decide_eq_false_iff_not] at k
  obtain ⟨k0, k1, k2, k3, k4, k5, k6, k7⟩ := k
  refine ⟨fun m => k0.resolve_left (fun h => h m), fun m => k1.resolve_left (fun h => h m), fun m => ?_, fun m => k3.resolve_left (fun h => h m), fun m => k4.resolve_left (fun h => h m), fun m => ?_, fun m => ?_, fun m => ?_⟩
  · have := k2.resolve_left (fun h => h m); exact ⟨this.1.1, this.1.2, this.2⟩
  · have := k5.resolve_left (fun h => h m); exact ⟨this.1.1, this.1.2, this.2⟩
  · have := k6.resolve_left (fun h => h m); exact ⟨this.1.1, this.1.2, this.2⟩
  · have := k7.resolve_left (fun h => by rw [m] at h; cases h); exact ⟨this.1.1.1.1.1.1, this.1.1.1.1.1.2, this.1.1.1.1.2, this.1.1.1.2, this.1.1.2, this.1.2, this.2⟩

/-- Seven such operations, in whatever order. -/
theorem wpAnyIn_seven {F : Fence} {n : Nat} {P : Program} {md : Region.Mode} {ops : Array Oper} {Q : Exit → Act → World → Prop} {S : World → Prop} (A : Bool → Bool → Bool → Bool → Bool → Bool → Bool → Act) (hc : ok7 md ops = true)
    (s0 : ∀ b1 b2 b3 b4 b5 b6 w, S w → wpOpIn F n P ops Q 0 (fun a' w' => a' = A true b1 b2 b3 b4 b5 b6 ∧ S w') (A false b1 b2 b3 b4 b5 b6) w)
    (s1 : ∀ b0 b2 b3 b4 b5 b6 w, S w → wpOpIn F n P ops Q 1 (fun a' w' => a' = A b0 true b2 b3 b4 b5 b6 ∧ S w') (A b0 false b2 b3 b4 b5 b6) w)
    (s2 : ∀ b3 b4 b5 b6 w, S w → wpOpIn F n P ops Q 2 (fun a' w' => a' = A true true true b3 b4 b5 b6 ∧ S w') (A true true false b3 b4 b5 b6) w)
    (s3 : ∀ b0 b1 b2 b4 b5 b6 w, S w → wpOpIn F n P ops Q 3 (fun a' w' => a' = A b0 b1 b2 true b4 b5 b6 ∧ S w') (A b0 b1 b2 false b4 b5 b6) w)
    (s4 : ∀ b0 b1 b2 b3 b5 b6 w, S w → wpOpIn F n P ops Q 4 (fun a' w' => a' = A b0 b1 b2 b3 true b5 b6 ∧ S w') (A b0 b1 b2 b3 false b5 b6) w)
    (s5 : ∀ b0 b1 b2 b6 w, S w → wpOpIn F n P ops Q 5 (fun a' w' => a' = A b0 b1 b2 true true true b6 ∧ S w') (A b0 b1 b2 true true false b6) w)
    (s6 : ∀ b0 b1 b3 b4 w, S w → wpOpIn F n P ops Q 6 (fun a' w' => a' = A b0 b1 true b3 b4 true true ∧ S w') (A b0 b1 true b3 b4 true false) w)
    (hend : ∀ w, S w → Q .normal (A true true true true true true true) w) :
    ∀ (fuel : Nat) (b0 b1 b2 b3 b4 b5 b6 : Bool) (w : World), (!b0).toNat + (!b1).toNat + (!b2).toNat + (!b3).toNat + (!b4).toNat + (!b5).toNat + (!b6).toNat ≤ fuel → S w →
      wpAnyIn F n P md ops Q fuel #[b0, b1, b2, b3, b4, b5, b6] (A b0 b1 b2 b3 b4 b5 b6) w := by
  have small : ∀ (b0 b1 b2 b3 b4 b5 b6 : Bool) (j : Nat), j ∈ Region.ready md ops #[b0, b1, b2, b3, b4, b5, b6] → j < 7 := by
    intro b0 b1 b2 b3 b4 b5 b6 j hj
    have := (mem_ready.1 hj).1
    rcases Nat.lt_or_ge j 7 with h | h
    · exact h
    · rw [Array.getD_eq_getD_getElem?, Array.getElem?_eq_none (by simpa using h)] at this; cases this
  intro fuel
  induction fuel with
  | zero =>
    intro b0 b1 b2 b3 b4 b5 b6 w hcnt hS
    have sp := ok7_spec hc b0 b1 b2 b3 b4 b5 b6
    have e : b0 = true ∧ b1 = true ∧ b2 = true ∧ b3 = true ∧ b4 = true ∧ b5 = true ∧ b6 = true := by
      cases b0 <;> cases b1 <;> cases b2 <;> cases b3 <;> cases b4 <;> cases b5 <;> cases b6 <;> first | exact ⟨rfl, rfl, rfl, rfl, rfl, rfl, rfl⟩ | (simp at hcnt)
    obtain ⟨rfl, rfl, rfl, rfl, rfl, rfl, rfl⟩ := e
    refine ⟨List.eq_nil_iff_forall_not_mem.2 fun j hj => ?_, hend w hS⟩
    have hlt := small _ _ _ _ _ _ _ j hj
    obtain ⟨h0, h1, h2, h3, h4, h5, h6, _⟩ := sp
    match j, hlt, hj with
    | 0, _, hj => cases h0 hj
    | 1, _, hj => cases h1 hj
    | 2, _, hj => cases (h2 hj).2.2
    | 3, _, hj => cases h3 hj
    | 4, _, hj => cases h4 hj
    | 5, _, hj => cases (h5 hj).2.2
    | 6, _, hj => cases (h6 hj).2.2
  | succ fuel ih =>
    intro b0 b1 b2 b3 b4 b5 b6 w hcnt hS
    obtain ⟨h0, h1, h2, h3, h4, h5, h6, h7⟩ := ok7_spec hc b0 b1 b2 b3 b4 b5 b6
    refine ⟨fun hr => by obtain ⟨rfl, rfl, rfl, rfl, rfl, rfl, rfl⟩ := h7 hr; exact hend w hS, fun j hj => ?_⟩
    have hlt := small _ _ _ _ _ _ _ j hj
    match j, hlt, hj with
    | 0, _, hj =>
      obtain rfl := h0 hj
      exact wpOpIn_mono (fun a' w' h => by obtain ⟨rfl, hs⟩ := h; exact ih true b1 b2 b3 b4 b5 b6 w' (by simp at hcnt ⊢; omega) hs) (s0 b1 b2 b3 b4 b5 b6 w hS)
    | 1, _, hj =>
      obtain rfl := h1 hj
      exact wpOpIn_mono (fun a' w' h => by obtain ⟨rfl, hs⟩ := h; exact ih b0 true b2 b3 b4 b5 b6 w' (by simp at hcnt ⊢; omega) hs) (s1 b0 b2 b3 b4 b5 b6 w hS)
    | 2, _, hj =>
      obtain ⟨rfl, rfl, rfl⟩ := h2 hj
      exact wpOpIn_mono (fun a' w' h => by obtain ⟨rfl, hs⟩ := h; exact ih true true true b3 b4 b5 b6 w' (by simp at hcnt ⊢; omega) hs) (s2 b3 b4 b5 b6 w hS)
    | 3, _, hj =>
      obtain rfl := h3 hj
      exact wpOpIn_mono (fun a' w' h => by obtain ⟨rfl, hs⟩ := h; exact ih b0 b1 b2 true b4 b5 b6 w' (by simp at hcnt ⊢; omega) hs) (s3 b0 b1 b2 b4 b5 b6 w hS)
    | 4, _, hj =>
      obtain rfl := h4 hj
      exact wpOpIn_mono (fun a' w' h => by obtain ⟨rfl, hs⟩ := h; exact ih b0 b1 b2 b3 true b5 b6 w' (by simp at hcnt ⊢; omega) hs) (s4 b0 b1 b2 b3 b5 b6 w hS)
    | 5, _, hj =>
      obtain ⟨rfl, rfl, rfl⟩ := h5 hj
      exact wpOpIn_mono (fun a' w' h => by obtain ⟨rfl, hs⟩ := h; exact ih b0 b1 b2 true true true b6 w' (by simp at hcnt ⊢; omega) hs) (s5 b0 b1 b2 b6 w hS)
    | 6, _, hj =>
      obtain ⟨rfl, rfl, rfl⟩ := h6 hj
      exact wpOpIn_mono (fun a' w' h => by obtain ⟨rfl, hs⟩ := h; exact ih b0 b1 true b3 b4 true true w' (by simp at hcnt ⊢; omega) hs) (s6 b0 b1 b3 b4 w hS)


attribute [local go_sem] Oper.semAt_some


/-- What the rounds of Longest keep: the season's box, the function's, the two that are counted. -/
structure LG (B F X Y : Nat) (L : Int) (s1 s2 s3 : Value) (x y : Int) (W : World) : Prop where
  c0 : W.cell? ⟨B, 0, none⟩ = some (.int .i64 L)
  c1 : W.cell? ⟨B, 1, none⟩ = some s1
  c2 : W.cell? ⟨B, 2, none⟩ = some s2
  c3 : W.cell? ⟨B, 3, none⟩ = some s3
  cf : W.cell? ⟨F, 0, none⟩ = some (.func (.func 88) #[] #[.pointer (some ⟨B, 0, none⟩)])
  cx : W.cell? ⟨X, 0, none⟩ = some (.int .i64 x)
  cy : W.cell? ⟨Y, 0, none⟩ = some (.int .i64 y)
  fx : W.frozen? ⟨X, 0, none⟩ = false
  fy : W.frozen? ⟨Y, 0, none⟩ = false
theorem LG.on {B F X Y : Nat} {L : Int} {s1 s2 s3 : Value} {x y : Int} {W W' : World} (h : LG B F X Y L s1 s2 s3 x y W) (hb : Below W.heap.size W W') (b1 : B < W.heap.size) (b2 : F < W.heap.size) (b3 : X < W.heap.size) (b4 : Y < W.heap.size) : LG B F X Y L s1 s2 s3 x y W' :=
  ⟨keep_cell hb b1 h.c0, keep_cell hb b1 h.c1, keep_cell hb b1 h.c2, keep_cell hb b1 h.c3, keep_cell hb b2 h.cf, keep_cell hb b3 h.cx, keep_cell hb b4 h.cy, keep_fr hb b3 h.fx, keep_fr hb b4 h.fy⟩
theorem LG.own {B F X Y : Nat} {L : Int} {s1 s2 s3 : Value} {x y : Int} {A C : World} {row : Option Nat} (h : LG B F X Y L s1 s2 s3 x y A) (hg : A.grownBy C row) (hr : ∀ r, row = some r → ∃ o : Obj, A.heap[r]? = some o ∧ o.isCells = false) : LG B F X Y L s1 s2 s3 x y C :=
  ⟨cell_kept h.c0 hg hr, cell_kept h.c1 hg hr, cell_kept h.c2 hg hr, cell_kept h.c3 hg hr, cell_kept h.cf hg hr, cell_kept h.cx hg hr, cell_kept h.cy hg hr, (frozen_kept h.cx hg hr).trans h.fx, (frozen_kept h.cy hg hr).trans h.fy⟩

/-- What one round keeps: what lay before, the objects that are no cells, the iterator's box. -/
structure RW (w w3 : World) (B : Nat) (W W' : World) : Prop where
  b : Below w.heap.size w W'
  z : Below 0 w3 W'
  k : KeepsOthers W W'
  t : KT B W W'
theorem RW.on {w w3 W W' W2 : World} {B : Nat} (h : RW w w3 B W W') (hb : Below W'.heap.size W' W2) (hB : B < w3.heap.size) : RW w w3 B W W2 :=
  ⟨h.b.trans (hb.mono h.b.size), h.z.trans (hb.mono (Nat.zero_le _)), h.k.trans (keeps_of_below hb), h.t.trans (KT.of_below hb (Nat.lt_of_lt_of_le hB h.z.size))⟩
theorem RW.set {w w3 W W' : World} {B : Nat} (h : RW w w3 B W W') (p : Addr) (v : Value) (h1 : w.heap.size ≤ p.block) (h2 : B ≠ p.block) : RW w w3 B W (W'.setCell p v) :=
  ⟨h.b.setCell h1 _, h.z.setCell (Nat.zero_le _) _, h.k.trans (KeepsOthers.setCell _ _ _), h.t.trans (KT.set _ _ h2)⟩
theorem LG.setX {B F X Y : Nat} {L : Int} {s1 s2 s3 : Value} {x y : Int} {W : World} (h : LG B F X Y L s1 s2 s3 x y W) (v : Int) (h1 : B ≠ X) (h2 : F ≠ X) (h3 : Y ≠ X) : LG B F X Y L s1 s2 s3 v y (W.setCell ⟨X, 0, none⟩ (.int .i64 v)) := by
  obtain ⟨c0, c1, c2, c3, cf, cx, cy, fx, fy⟩ := h
  refine ⟨?_, ?_, ?_, ?_, ?_, World.cell?_setCell_same' _ _ _ (by rw [cx]; rfl), ?_, by rw [World.frozen?_setCell]; exact fx, by rw [World.frozen?_setCell]; exact fy⟩ <;> simp [go_sem, *, Ne.symm h1, Ne.symm h2, Ne.symm h3]
theorem LG.setY {B F X Y : Nat} {L : Int} {s1 s2 s3 : Value} {x y : Int} {W : World} (h : LG B F X Y L s1 s2 s3 x y W) (v : Int) (h1 : B ≠ Y) (h2 : F ≠ Y) (h3 : X ≠ Y) : LG B F X Y L s1 s2 s3 x v (W.setCell ⟨Y, 0, none⟩ (.int .i64 v)) := by
  obtain ⟨c0, c1, c2, c3, cf, cx, cy, fx, fy⟩ := h
  refine ⟨?_, ?_, ?_, ?_, ?_, ?_, World.cell?_setCell_same' _ _ _ (by rw [cy]; rfl), by rw [World.frozen?_setCell]; exact fx, by rw [World.frozen?_setCell]; exact fy⟩ <;> simp [go_sem, *, Ne.symm h1, Ne.symm h2, Ne.symm h3]

set_option maxRecDepth 100000 in
set_option maxHeartbeats 8000000 in
theorem Longest_any {L : Int} {n1 n2 n3 c1 c2 c3 : Nat} {a1 a2 a3 : Option Addr} {D R S : List Int} (w : World) (hs : SeaO w a1 n1 a2 n2 a3 n3 D R S) :
   Calls Tryd.prog 32 #[.agg #[.int .i64 L, .slice a1 n1 c1, .slice a2 n2 c2, .slice a3 n3 c3]] w
     fun e w' => e = .returned (.tuple #[.int .i64 (onOk (ck L D R S) (amax (lightF L D R S) (topF L))), .int .i64 (onOk (ck L D R S) (amin (lightF L D R S) (topF L))), .int .i64 (ck L D R S)]) ∧ Below w.heap.size w w' := by
  by_cases hok : Ok L D R S
  · have hck := ck_yes hok
    have HP := Lib.hid hck
    obtain ⟨b1, o1, b2, o2, b3, o3, rfl, rfl, rfl, rfl, rfl, hsea⟩ := hs.sea hok
    have hL1 := hok.L1; have hL2 := hok.L2
    have HS := Lib.hid hs; have HE := Lib.hid hsea; have HO := Lib.hid hok; clear hs hsea hok
    have hab : (0 : Int) ≤ L - 1 := by omega
    refine (callsIn_wide (n := 5)).1 ?_
    refine callsIn_of_wp_marks Tryd.func32 rfl trivial ?_ rfl
    simp only [Tryd.ntmps32, List.size_toArray, List.length_cons, List.length_nil, Nat.reduceAdd, Nat.reduceSub, Array.replicate_succ, Array.replicate_zero, List.push_toArray, List.append_toArray, List.nil_append, List.cons_append]
    gi_wp2_with fail
    refine ⟨trivial, (callsIn_wide.2 (check_any _ (HS.out.to (by go_grown)).D (HS.out.to (by go_grown)).R (HS.out.to (by go_grown)).S HS.out.d HS.out.r HS.out.s)).mono ?_⟩
    rintro e w1 ⟨rfl, hb1⟩
    rw [hck]
    have HB := Lib.hid (bjoin (w := w) (by go_grown) hb1)
    have HC := Lib.hid hb1; clear hb1
    have qd0_0 := keep_cell (b := w.heap.size) (o := 0) (v := .int .i64 L) HC.out (by simp <;> omega) (by simp [go_sem])
    have qd0_1 := keep_cell (b := w.heap.size) (o := 1) (v := .slice (some ⟨b1, o1, none⟩) n3 c1) HC.out (by simp <;> omega) (by simp [go_sem])
    have qd0_2 := keep_cell (b := w.heap.size) (o := 2) (v := .slice (some ⟨b2, o2, none⟩) n3 c2) HC.out (by simp <;> omega) (by simp [go_sem])
    have qd0_3 := keep_cell (b := w.heap.size) (o := 3) (v := .slice (some ⟨b3, o3, none⟩) n3 c3) HC.out (by simp <;> omega) (by simp [go_sem])
    have hlt1 := keep_lt (b := w.heap.size) HC.out (by simp)
    have hz0 : (((w1.alloc (.cells #[.func (.func 88) #[] #[.pointer (some ⟨w.heap.size, 0, none⟩)]] 94)).alloc (.cells #[.int .i64 0] 3)).alloc (.cells #[.int .i64 0] 3)).cell? ⟨w.heap.size, 0, none⟩ = some (.int .i64 L) := cell_alloc_l _ (cell_alloc_l _ (cell_alloc_l _ qd0_0))
    gi_wp2_with fail
    refine ⟨trivial, (callsIn_wide.2 (days_any _ _ _)).mono ?_⟩
    rintro e w3 ⟨rfl, rfl⟩
    gi_wp2_with fail
    obtain ⟨w2, hw2⟩ : ∃ w2, w2 = (((w1.alloc (.cells #[.func (.func 88) #[] #[.pointer (some ⟨w.heap.size, 0, none⟩)]] 94)).alloc (.cells #[.int .i64 0] 3)).alloc (.cells #[.int .i64 0] 3)) := ⟨_, rfl⟩
    rw [← hw2]
    have hsz : w2.heap.size = w1.heap.size + 3 := by rw [hw2]; simp
    have hG : LG w.heap.size w1.heap.size (w1.heap.size + 1) (w1.heap.size + 1 + 1) L (.slice (some ⟨b1, o1, none⟩) n3 c1) (.slice (some ⟨b2, o2, none⟩) n3 c2) (.slice (some ⟨b3, o3, none⟩) n3 c3) 0 0 w2 := by
      rw [hw2]
      exact ⟨cell_alloc_l _ (cell_alloc_l _ (cell_alloc_l _ qd0_0)), cell_alloc_l _ (cell_alloc_l _ (cell_alloc_l _ qd0_1)), cell_alloc_l _ (cell_alloc_l _ (cell_alloc_l _ qd0_2)), cell_alloc_l _ (cell_alloc_l _ (cell_alloc_l _ qd0_3)), by simp [go_sem], by simp [go_sem], by simp [go_sem], by simp [go_sem], by simp [go_sem]⟩
    have hB2 : Below w.heap.size w w2 := by rw [hw2]; exact ((HB.out.alloc (by omega) _).alloc (by simp; omega) _).alloc (by simp; omega) _
    clear hw2 qd0_0 qd0_1 qd0_2 qd0_3 hz0
    have d1 := cell_new_l w2 (.int .i64 0) 3
    have d2 := cell_new_l (w2.alloc (.cells #[.int .i64 0] 3)) (.int .i64 (L - 1)) 3
    rw [World.size_alloc] at d2
    have hB0 : Below w.heap.size w ((w2.alloc (.cells #[.int .i64 0] 3)).alloc (.cells #[.int .i64 (L - 1)] 3)) := (hB2.alloc (by omega) _).alloc (by simp; omega) _
    have hG0 := (hG.on ((Below.refl _ _).alloc (Nat.le_refl _) _) (by omega) (by omega) (by omega) (by omega)).on (W' := ((w2.alloc (.cells #[.int .i64 0] 3)).alloc (.cells #[.int .i64 (L - 1)] 3))) ((Below.refl _ _).alloc (Nat.le_refl _) _) (by simp; omega) (by simp; omega) (by simp; omega) (by simp; omega)
    refine wpIn_rangeFunc_ownF rfl (by omega) (gf := 108) (lb := #[.pointer (some ⟨w2.heap.size, 0, none⟩), .pointer (some ⟨w2.heap.size + 1, 0, none⟩)]) (by simp [go_sem, hsz]) trivial (enters_of Tryd.func108 (by kernel_rfl) rfl)
      (days_stops 4 (by omega) w2.heap.size (w2.heap.size + 1) 0 (L - 1) hab (by omega) (by omega) ((w2.alloc (.cells #[.int .i64 0] 3)).alloc (.cells #[.int .i64 (L - 1)] 3)) (by simp; omega) (by simp) (cell_alloc_l _ d1.1) d2.1) KT.trans (KT_b (by simp)) (Below.refl _ _) (fun _ => rfl)
      (fun pre W => LG w.heap.size w1.heap.size (w1.heap.size + 1) (w1.heap.size + 1 + 1) L (.slice (some ⟨b1, o1, none⟩) n3 c1) (.slice (some ⟨b2, o2, none⟩) n3 c2) (.slice (some ⟨b3, o3, none⟩) n3 c3) (mxL (lightF L D R S) pre) (mnL (lightF L D R S) pre) W ∧ Below w.heap.size w W ∧ Below 0 ((w2.alloc (.cells #[.int .i64 0] 3)).alloc (.cells #[.int .i64 (L - 1)] 3)) W)
      (fun _ _ _ => False)
      (OwnFrom.and (Own.from (I := fun (pre : List (Dy 0 (L - 1))) W => LG w.heap.size w1.heap.size (w1.heap.size + 1) (w1.heap.size + 1 + 1) L (.slice (some ⟨b1, o1, none⟩) n3 c1) (.slice (some ⟨b2, o2, none⟩) n3 c2) (.slice (some ⟨b3, o3, none⟩) n3 c3) (mxL (lightF L D R S) pre) (mnL (lightF L D R S) pre) W) (fun s A B row hs hg hr => LG.own hs hg hr) _) (OwnFrom.and (ownFrom_below (Nat.le_refl _) (by simp; omega)) (ownFrom_below (Nat.zero_le _) (Nat.zero_le _))))
      (fun _ _ _ _ _ hs _ _ => hs)
      ⟨hG0, hB0, Below.refl _ _⟩
      (fun x => { tmps := List.toArray ((.agg #[.int .i64 L, .slice (some ⟨b1, o1, none⟩) n3 c1, .slice (some ⟨b2, o2, none⟩) n3 c2, .slice (some ⟨b3, o3, none⟩) n3 c3]) :: (.pointer (some ⟨w.heap.size, 0, none⟩)) :: (.int .i64 0) :: (.int .i64 0) :: (.int .i64 0) :: (.int .i64 0) :: (.pointer (some ⟨w1.heap.size, 0, none⟩)) :: (.pointer (some ⟨w1.heap.size + 1, 0, none⟩)) :: (.pointer (some ⟨w1.heap.size + 1 + 1, 0, none⟩)) :: (.int .i64 x.1) :: (.agg #[.int .i64 L, .slice (some ⟨b1, o1, none⟩) n3 c1, .slice (some ⟨b2, o2, none⟩) n3 c2, .slice (some ⟨b3, o3, none⟩) n3 c3]) :: (.int .i64 0) :: (.int .i64 0) :: (.bool false) :: undef :: (.func (.func 88) #[] #[.pointer (some ⟨w.heap.size, 0, none⟩)]) :: (.pointer (some ⟨w.heap.size, 0, none⟩)) :: (.int .i64 L) :: (.int .i64 (L - 1)) :: (.func (.func 108) #[] #[.pointer (some ⟨w2.heap.size, 0, none⟩), .pointer (some ⟨w2.heap.size + 1, 0, none⟩)]) :: [.int .i64 x.1, undef, undef, undef, undef, undef, undef, undef, undef, undef, undef, undef, undef, undef, undef, undef, undef, undef, undef]), defers := [] }) ?assign ?body ?done ?stop
    case assign =>
      intro l x W K hK
      gi_wp2
      simpa [hsz] using hK
    case body =>
      rintro l pre x W ⟨hg, hBp, hBd⟩ hlen
      have hxb := x.2
      have hmx := mxL_bd hab (lightF L D R S) pre
      have hmn := mnL_bd hab (lightF L D R S) pre
      generalize hma : mxL (lightF L D R S) pre = a at *
      generalize hmi : mnL (lightF L D R S) pre = c at *
      have hr0 : RW w ((w2.alloc (.cells #[.int .i64 0] 3)).alloc (.cells #[.int .i64 (L - 1)] 3)) (w2.heap.size + 1) W W := ⟨hBp, hBd, KeepsOthers.refl _, KT.refl _ _⟩
      have HR := Lib.hid (show ∀ (day a c : Int) (W' : World), 0 ≤ day → day ≤ 19999 → RW w ((w2.alloc (.cells #[.int .i64 0] 3)).alloc (.cells #[.int .i64 (L - 1)] 3)) (w2.heap.size + 1) W W' → LG w.heap.size w1.heap.size (w1.heap.size + 1) (w1.heap.size + 1 + 1) L (.slice (some ⟨b1, o1, none⟩) n3 c1) (.slice (some ⟨b2, o2, none⟩) n3 c2) (.slice (some ⟨b3, o3, none⟩) n3 c3) (a) (c) W' → CallsIn (Fence.wide.inRound l) 2 Tryd.prog 88 #[.int .i64 day, .pointer (some ⟨w.heap.size, 0, none⟩)] W' (fun e w' => e = .returned (.int .i64 (lightF L D R S day)) ∧ RW w ((w2.alloc (.cells #[.int .i64 0] 3)).alloc (.cells #[.int .i64 (L - 1)] 3)) (w2.heap.size + 1) W w' ∧ LG w.heap.size w1.heap.size (w1.heap.size + 1) (w1.heap.size + 1 + 1) L (.slice (some ⟨b1, o1, none⟩) n3 c1) (.slice (some ⟨b2, o2, none⟩) n3 c2) (.slice (some ⟨b3, o3, none⟩) n3 c3) (a) (c) w') from fun day a c W' h0 h1 hb g => by
        have hz := hb.z.size
        simp at hz
        refine (CallsIn.inRound l (callsIn_wide.2 (light_any w.heap.size day W' (by omega) g.c0 g.c1 g.c2 g.c3 (HE.out.to hb.b) HO.out h0 h1))).mono ?_
        rintro e wn ⟨rfl, hbn⟩
        exact ⟨rfl, hb.on hbn (by simp), g.on hbn (by omega) (by omega) (by omega) (by omega)⟩)
      have hfo : Tryd.prog.follows Departure.mixedOrders = true := by kernel_rfl
      have HXS := Lib.hid (mxL_snoc (lightF L D R S) pre x)
      have HNS := Lib.hid (mnL_snoc (lightF L D R S) pre x)
      have HSZ := Lib.hid hsz
      have HBp := Lib.hid hBp; have HBd := Lib.hid hBd
      have hne1 : w.heap.size ≠ w1.heap.size + 1 := by omega
      have hne2 : w.heap.size ≠ w1.heap.size + 1 + 1 := by omega
      have hk1 : w2.heap.size + 1 ≠ w1.heap.size + 1 := by omega
      have hk2 : w2.heap.size + 1 ≠ w1.heap.size + 1 + 1 := by omega
      have hle1 : w.heap.size ≤ w1.heap.size + 1 := by omega
      have hle2 : w.heap.size ≤ w1.heap.size + 1 + 1 := by omega
      rw [hma] at HXS
      rw [hmi] at HNS
      clear hBp hBd hsz hlen hB2 hB0 hG hG0 d1 d2 hma hmi
      gi_wp2_with fail
      refine wpIn_region_any hfo ?_
      refine wpAnyIn_seven (S := fun w' => RW w ((w2.alloc (.cells #[.int .i64 0] 3)).alloc (.cells #[.int .i64 (L - 1)] 3)) (w2.heap.size + 1) W w' ∧ LG w.heap.size w1.heap.size (w1.heap.size + 1) (w1.heap.size + 1 + 1) L (.slice (some ⟨b1, o1, none⟩) n3 c1) (.slice (some ⟨b2, o2, none⟩) n3 c2) (.slice (some ⟨b3, o3, none⟩) n3 c3) (a) (c) w') (fun t0 t1 t2 t3 t4 t5 t6 => { tmps := List.toArray ((.agg #[.int .i64 L, .slice (some ⟨b1, o1, none⟩) n3 c1, .slice (some ⟨b2, o2, none⟩) n3 c2, .slice (some ⟨b3, o3, none⟩) n3 c3]) :: (.pointer (some ⟨w.heap.size, 0, none⟩)) :: (.int .i64 0) :: (.int .i64 0) :: (.int .i64 0) :: (.int .i64 0) :: (.pointer (some ⟨w1.heap.size, 0, none⟩)) :: (.pointer (some ⟨w1.heap.size + 1, 0, none⟩)) :: (.pointer (some ⟨w1.heap.size + 1 + 1, 0, none⟩)) :: (.int .i64 x.1) :: (.agg #[.int .i64 L, .slice (some ⟨b1, o1, none⟩) n3 c1, .slice (some ⟨b2, o2, none⟩) n3 c2, .slice (some ⟨b3, o3, none⟩) n3 c3]) :: (.int .i64 0) :: (.int .i64 0) :: (.bool false) :: undef :: (.func (.func 88) #[] #[.pointer (some ⟨w.heap.size, 0, none⟩)]) :: (.pointer (some ⟨w.heap.size, 0, none⟩)) :: (.int .i64 L) :: (.int .i64 (L - 1)) :: (.func (.func 108) #[] #[.pointer (some ⟨w2.heap.size, 0, none⟩), .pointer (some ⟨w2.heap.size + 1, 0, none⟩)]) :: [(.int .i64 x.1), bif t0 then .func (.func 88) #[] #[.pointer (some ⟨w.heap.size, 0, none⟩)] else undef, bif t1 then .int .i64 x.1 else undef, bif t2 then .int .i64 (lightF L D R S (x.1)) else undef, bif t3 then .func (.func 88) #[] #[.pointer (some ⟨w.heap.size, 0, none⟩)] else undef, bif t4 then .int .i64 (a) else undef, bif t5 then .int .i64 (lightF L D R S (a)) else undef, bif t6 then .bool (decide (lightF L D R S a < lightF L D R S x.1)) else undef, undef, undef, undef, undef, undef, undef, undef, undef, undef, undef, undef]), defers := [] }) (by kernel_rfl) ?_ ?_ ?_ ?_ ?_ ?_ ?_ ?_ 7 false false false false false false false _ (by decide) ⟨hr0.on (Below.refl _ _).drew (by simp), hg.on (Below.refl _ _).drew (by have := hr0.z.size; have q := HSZ.out; simp at this ⊢; omega) (by have := hr0.z.size; have q := HSZ.out; simp at this ⊢; omega) (by have := hr0.z.size; have q := HSZ.out; simp at this ⊢; omega) (by have := hr0.z.size; have q := HSZ.out; simp at this ⊢; omega)⟩
      · intro e0 e1 e2 e3 e4 e5 w' ⟨hbw, hgw⟩
        have y0 := hgw.cf; have y1 := hgw.cx; have y2 := hgw.cy
        refine wpOpIn_step rfl ?_
        intro K' hK
        have HK := Lib.hid hK; clear hK
        gi_wp2_with fail
        exact HK.out _ _ ⟨rfl, hbw, hgw⟩
      · intro e0 e1 e2 e3 e4 e5 w' ⟨hbw, hgw⟩
        have y0 := hgw.cf; have y1 := hgw.cx; have y2 := hgw.cy
        refine wpOpIn_step rfl ?_
        intro K' hK
        have HK := Lib.hid hK; clear hK
        gi_wp2_with fail
        exact HK.out _ _ ⟨rfl, hbw, hgw⟩
      · intro e0 e1 e2 e3 w' ⟨hbw, hgw⟩
        have y0 := hgw.cf; have y1 := hgw.cx; have y2 := hgw.cy
        refine wpOpIn_step rfl ?_
        intro K' hK
        have HK := Lib.hid hK; clear hK
        gi_wp2_with fail
        refine ⟨trivial, (HR.out _ _ _ _ (by omega) (by omega) hbw hgw).mono ?_⟩
        rintro e wn ⟨rfl, hbn, hgn⟩
        exact HK.out _ _ ⟨rfl, hbn, hgn⟩
      · intro e0 e1 e2 e3 e4 e5 w' ⟨hbw, hgw⟩
        have y0 := hgw.cf; have y1 := hgw.cx; have y2 := hgw.cy
        refine wpOpIn_step rfl ?_
        intro K' hK
        have HK := Lib.hid hK; clear hK
        gi_wp2_with fail
        exact HK.out _ _ ⟨rfl, hbw, hgw⟩
      · intro e0 e1 e2 e3 e4 e5 w' ⟨hbw, hgw⟩
        have y0 := hgw.cf; have y1 := hgw.cx; have y2 := hgw.cy
        refine wpOpIn_step rfl ?_
        intro K' hK
        have HK := Lib.hid hK; clear hK
        gi_wp2_with fail
        exact HK.out _ _ ⟨rfl, hbw, hgw⟩
      · intro e0 e1 e2 e3 w' ⟨hbw, hgw⟩
        have y0 := hgw.cf; have y1 := hgw.cx; have y2 := hgw.cy
        refine wpOpIn_step rfl ?_
        intro K' hK
        have HK := Lib.hid hK; clear hK
        gi_wp2_with fail
        refine ⟨trivial, (HR.out _ _ _ _ (by omega) (by omega) hbw hgw).mono ?_⟩
        rintro e wn ⟨rfl, hbn, hgn⟩
        exact HK.out _ _ ⟨rfl, hbn, hgn⟩
      · intro e0 e1 e2 e3 w' ⟨hbw, hgw⟩
        have y0 := hgw.cf; have y1 := hgw.cx; have y2 := hgw.cy
        refine wpOpIn_step rfl ?_
        intro K' hK
        have HK := Lib.hid hK; clear hK
        gi_wp2_with fail
        exact HK.out _ _ ⟨rfl, hbw, hgw⟩
      intro w' ⟨hbw, hgw⟩
      have y1 := hgw.cx; have y2 := hgw.cy; have y3 := hgw.fx; have y4 := hgw.fy
      by_cases t8 : lightF L D R S a < lightF L D R S x.1
      · gi_wp2_with fail
        rw [show decide (lightF L D R S a < lightF L D R S x.1) = true from decide_eq_true t8]
        have HT8 := Lib.hid t8; clear t8
        have hgx := hgw.setX x.1 hne1 (by omega) (by omega)
        have hrx := hbw.set ⟨w1.heap.size + 1, 0, none⟩ (.int .i64 x.1) hle1 hk1
        refine wpIn_region_any hfo ?_
        refine wpAnyIn_seven (S := fun w' => RW w ((w2.alloc (.cells #[.int .i64 0] 3)).alloc (.cells #[.int .i64 (L - 1)] 3)) (w2.heap.size + 1) W w' ∧ LG w.heap.size w1.heap.size (w1.heap.size + 1) (w1.heap.size + 1 + 1) L (.slice (some ⟨b1, o1, none⟩) n3 c1) (.slice (some ⟨b2, o2, none⟩) n3 c2) (.slice (some ⟨b3, o3, none⟩) n3 c3) (x.1) (c) w') (fun t0 t1 t2 t3 t4 t5 t6 => { tmps := List.toArray ((.agg #[.int .i64 L, .slice (some ⟨b1, o1, none⟩) n3 c1, .slice (some ⟨b2, o2, none⟩) n3 c2, .slice (some ⟨b3, o3, none⟩) n3 c3]) :: (.pointer (some ⟨w.heap.size, 0, none⟩)) :: (.int .i64 0) :: (.int .i64 0) :: (.int .i64 0) :: (.int .i64 0) :: (.pointer (some ⟨w1.heap.size, 0, none⟩)) :: (.pointer (some ⟨w1.heap.size + 1, 0, none⟩)) :: (.pointer (some ⟨w1.heap.size + 1 + 1, 0, none⟩)) :: (.int .i64 x.1) :: (.agg #[.int .i64 L, .slice (some ⟨b1, o1, none⟩) n3 c1, .slice (some ⟨b2, o2, none⟩) n3 c2, .slice (some ⟨b3, o3, none⟩) n3 c3]) :: (.int .i64 0) :: (.int .i64 0) :: (.bool false) :: undef :: (.func (.func 88) #[] #[.pointer (some ⟨w.heap.size, 0, none⟩)]) :: (.pointer (some ⟨w.heap.size, 0, none⟩)) :: (.int .i64 L) :: (.int .i64 (L - 1)) :: (.func (.func 108) #[] #[.pointer (some ⟨w2.heap.size, 0, none⟩), .pointer (some ⟨w2.heap.size + 1, 0, none⟩)]) :: [(.int .i64 x.1), (.func (.func 88) #[] #[.pointer (some ⟨w.heap.size, 0, none⟩)]), (.int .i64 x.1), (.int .i64 (lightF L D R S (x.1))), (.func (.func 88) #[] #[.pointer (some ⟨w.heap.size, 0, none⟩)]), (.int .i64 (a)), (.int .i64 (lightF L D R S (a))), (.bool true), (.int .i64 x.1), bif t0 then .func (.func 88) #[] #[.pointer (some ⟨w.heap.size, 0, none⟩)] else undef, bif t1 then .int .i64 x.1 else undef, bif t2 then .int .i64 (lightF L D R S (x.1)) else undef, bif t3 then .func (.func 88) #[] #[.pointer (some ⟨w.heap.size, 0, none⟩)] else undef, bif t4 then .int .i64 (c) else undef, bif t5 then .int .i64 (lightF L D R S (c)) else undef, bif t6 then .bool (decide (lightF L D R S x.1 < lightF L D R S c)) else undef, undef, undef, undef]), defers := [] }) (by kernel_rfl) ?_ ?_ ?_ ?_ ?_ ?_ ?_ ?_ 7 false false false false false false false _ (by decide) ⟨hrx.on (Below.refl _ _).drew (by simp), hgx.on (Below.refl _ _).drew (by have := hrx.z.size; have q := HSZ.out; simp at this ⊢; omega) (by have := hrx.z.size; have q := HSZ.out; simp at this ⊢; omega) (by have := hrx.z.size; have q := HSZ.out; simp at this ⊢; omega) (by have := hrx.z.size; have q := HSZ.out; simp at this ⊢; omega)⟩
        · intro e0 e1 e2 e3 e4 e5 w' ⟨hbw, hgw⟩
          have y0 := hgw.cf; have y1 := hgw.cx; have y2 := hgw.cy
          refine wpOpIn_step rfl ?_
          intro K' hK
          have HK := Lib.hid hK; clear hK
          gi_wp2_with fail
          exact HK.out _ _ ⟨rfl, hbw, hgw⟩
        · intro e0 e1 e2 e3 e4 e5 w' ⟨hbw, hgw⟩
          have y0 := hgw.cf; have y1 := hgw.cx; have y2 := hgw.cy
          refine wpOpIn_step rfl ?_
          intro K' hK
          have HK := Lib.hid hK; clear hK
          gi_wp2_with fail
          exact HK.out _ _ ⟨rfl, hbw, hgw⟩
        · intro e0 e1 e2 e3 w' ⟨hbw, hgw⟩
          have y0 := hgw.cf; have y1 := hgw.cx; have y2 := hgw.cy
          refine wpOpIn_step rfl ?_
          intro K' hK
          have HK := Lib.hid hK; clear hK
          gi_wp2_with fail
          refine ⟨trivial, (HR.out _ _ _ _ (by omega) (by omega) hbw hgw).mono ?_⟩
          rintro e wn ⟨rfl, hbn, hgn⟩
          exact HK.out _ _ ⟨rfl, hbn, hgn⟩
        · intro e0 e1 e2 e3 e4 e5 w' ⟨hbw, hgw⟩
          have y0 := hgw.cf; have y1 := hgw.cx; have y2 := hgw.cy
          refine wpOpIn_step rfl ?_
          intro K' hK
          have HK := Lib.hid hK; clear hK
          gi_wp2_with fail
          exact HK.out _ _ ⟨rfl, hbw, hgw⟩
        · intro e0 e1 e2 e3 e4 e5 w' ⟨hbw, hgw⟩
          have y0 := hgw.cf; have y1 := hgw.cx; have y2 := hgw.cy
          refine wpOpIn_step rfl ?_
          intro K' hK
          have HK := Lib.hid hK; clear hK
          gi_wp2_with fail
          exact HK.out _ _ ⟨rfl, hbw, hgw⟩
        · intro e0 e1 e2 e3 w' ⟨hbw, hgw⟩
          have y0 := hgw.cf; have y1 := hgw.cx; have y2 := hgw.cy
          refine wpOpIn_step rfl ?_
          intro K' hK
          have HK := Lib.hid hK; clear hK
          gi_wp2_with fail
          refine ⟨trivial, (HR.out _ _ _ _ (by omega) (by omega) hbw hgw).mono ?_⟩
          rintro e wn ⟨rfl, hbn, hgn⟩
          exact HK.out _ _ ⟨rfl, hbn, hgn⟩
        · intro e0 e1 e2 e3 w' ⟨hbw, hgw⟩
          have y0 := hgw.cf; have y1 := hgw.cx; have y2 := hgw.cy
          refine wpOpIn_step rfl ?_
          intro K' hK
          have HK := Lib.hid hK; clear hK
          gi_wp2_with fail
          exact HK.out _ _ ⟨rfl, hbw, hgw⟩
        intro w' ⟨hbw, hgw⟩
        have y1 := hgw.cx; have y2 := hgw.cy; have y3 := hgw.fx; have y4 := hgw.fy
        by_cases t10 : lightF L D R S x.1 < lightF L D R S c
        · gi_wp2_with fail
          have hgf := hgw.setY x.1 hne2 (by omega) (by omega)
          have hrf := hbw.set ⟨w1.heap.size + 1 + 1, 0, none⟩ (.int .i64 x.1) hle2 hk2
          refine ⟨hrf.k, hrf.t, ?_, hrf.b, hrf.z⟩
          rw [HXS.out, HNS.out, if_pos HT8.out, if_pos t10]
          exact hgf
        · gi_wp2_with fail
          refine ⟨hbw.k, hbw.t, ?_, hbw.b, hbw.z⟩
          rw [HXS.out, HNS.out, if_pos HT8.out, if_neg (Int.not_lt.2 t10)]
          exact hgw
      · gi_wp2_with fail
        rw [show decide (lightF L D R S a < lightF L D R S x.1) = false from decide_eq_false (Int.not_lt.2 t8)]
        have HT8 := Lib.hid (show ¬ lightF L D R S a < lightF L D R S x.1 from Int.not_lt.2 t8); clear t8
        refine wpIn_region_any hfo ?_
        refine wpAnyIn_seven (S := fun w' => RW w ((w2.alloc (.cells #[.int .i64 0] 3)).alloc (.cells #[.int .i64 (L - 1)] 3)) (w2.heap.size + 1) W w' ∧ LG w.heap.size w1.heap.size (w1.heap.size + 1) (w1.heap.size + 1 + 1) L (.slice (some ⟨b1, o1, none⟩) n3 c1) (.slice (some ⟨b2, o2, none⟩) n3 c2) (.slice (some ⟨b3, o3, none⟩) n3 c3) (a) (c) w') (fun t0 t1 t2 t3 t4 t5 t6 => { tmps := List.toArray ((.agg #[.int .i64 L, .slice (some ⟨b1, o1, none⟩) n3 c1, .slice (some ⟨b2, o2, none⟩) n3 c2, .slice (some ⟨b3, o3, none⟩) n3 c3]) :: (.pointer (some ⟨w.heap.size, 0, none⟩)) :: (.int .i64 0) :: (.int .i64 0) :: (.int .i64 0) :: (.int .i64 0) :: (.pointer (some ⟨w1.heap.size, 0, none⟩)) :: (.pointer (some ⟨w1.heap.size + 1, 0, none⟩)) :: (.pointer (some ⟨w1.heap.size + 1 + 1, 0, none⟩)) :: (.int .i64 x.1) :: (.agg #[.int .i64 L, .slice (some ⟨b1, o1, none⟩) n3 c1, .slice (some ⟨b2, o2, none⟩) n3 c2, .slice (some ⟨b3, o3, none⟩) n3 c3]) :: (.int .i64 0) :: (.int .i64 0) :: (.bool false) :: undef :: (.func (.func 88) #[] #[.pointer (some ⟨w.heap.size, 0, none⟩)]) :: (.pointer (some ⟨w.heap.size, 0, none⟩)) :: (.int .i64 L) :: (.int .i64 (L - 1)) :: (.func (.func 108) #[] #[.pointer (some ⟨w2.heap.size, 0, none⟩), .pointer (some ⟨w2.heap.size + 1, 0, none⟩)]) :: [(.int .i64 x.1), (.func (.func 88) #[] #[.pointer (some ⟨w.heap.size, 0, none⟩)]), (.int .i64 x.1), (.int .i64 (lightF L D R S (x.1))), (.func (.func 88) #[] #[.pointer (some ⟨w.heap.size, 0, none⟩)]), (.int .i64 (a)), (.int .i64 (lightF L D R S (a))), (.bool false), undef, bif t0 then .func (.func 88) #[] #[.pointer (some ⟨w.heap.size, 0, none⟩)] else undef, bif t1 then .int .i64 x.1 else undef, bif t2 then .int .i64 (lightF L D R S (x.1)) else undef, bif t3 then .func (.func 88) #[] #[.pointer (some ⟨w.heap.size, 0, none⟩)] else undef, bif t4 then .int .i64 (c) else undef, bif t5 then .int .i64 (lightF L D R S (c)) else undef, bif t6 then .bool (decide (lightF L D R S x.1 < lightF L D R S c)) else undef, undef, undef, undef]), defers := [] }) (by kernel_rfl) ?_ ?_ ?_ ?_ ?_ ?_ ?_ ?_ 7 false false false false false false false _ (by decide) ⟨hbw.on (Below.refl _ _).drew (by simp), hgw.on (Below.refl _ _).drew (by have := hbw.z.size; have q := HSZ.out; simp at this ⊢; omega) (by have := hbw.z.size; have q := HSZ.out; simp at this ⊢; omega) (by have := hbw.z.size; have q := HSZ.out; simp at this ⊢; omega) (by have := hbw.z.size; have q := HSZ.out; simp at this ⊢; omega)⟩
        · intro e0 e1 e2 e3 e4 e5 w' ⟨hbw, hgw⟩
          have y0 := hgw.cf; have y1 := hgw.cx; have y2 := hgw.cy
          refine wpOpIn_step rfl ?_
          intro K' hK
          have HK := Lib.hid hK; clear hK
          gi_wp2_with fail
          exact HK.out _ _ ⟨rfl, hbw, hgw⟩
        · intro e0 e1 e2 e3 e4 e5 w' ⟨hbw, hgw⟩
          have y0 := hgw.cf; have y1 := hgw.cx; have y2 := hgw.cy
          refine wpOpIn_step rfl ?_
          intro K' hK
          have HK := Lib.hid hK; clear hK
          gi_wp2_with fail
          exact HK.out _ _ ⟨rfl, hbw, hgw⟩
        · intro e0 e1 e2 e3 w' ⟨hbw, hgw⟩
          have y0 := hgw.cf; have y1 := hgw.cx; have y2 := hgw.cy
          refine wpOpIn_step rfl ?_
          intro K' hK
          have HK := Lib.hid hK; clear hK
          gi_wp2_with fail
          refine ⟨trivial, (HR.out _ _ _ _ (by omega) (by omega) hbw hgw).mono ?_⟩
          rintro e wn ⟨rfl, hbn, hgn⟩
          exact HK.out _ _ ⟨rfl, hbn, hgn⟩
        · intro e0 e1 e2 e3 e4 e5 w' ⟨hbw, hgw⟩
          have y0 := hgw.cf; have y1 := hgw.cx; have y2 := hgw.cy
          refine wpOpIn_step rfl ?_
          intro K' hK
          have HK := Lib.hid hK; clear hK
          gi_wp2_with fail
          exact HK.out _ _ ⟨rfl, hbw, hgw⟩
        · intro e0 e1 e2 e3 e4 e5 w' ⟨hbw, hgw⟩
          have y0 := hgw.cf; have y1 := hgw.cx; have y2 := hgw.cy
          refine wpOpIn_step rfl ?_
          intro K' hK
          have HK := Lib.hid hK; clear hK
          gi_wp2_with fail
          exact HK.out _ _ ⟨rfl, hbw, hgw⟩
        · intro e0 e1 e2 e3 w' ⟨hbw, hgw⟩
          have y0 := hgw.cf; have y1 := hgw.cx; have y2 := hgw.cy
          refine wpOpIn_step rfl ?_
          intro K' hK
          have HK := Lib.hid hK; clear hK
          gi_wp2_with fail
          refine ⟨trivial, (HR.out _ _ _ _ (by omega) (by omega) hbw hgw).mono ?_⟩
          rintro e wn ⟨rfl, hbn, hgn⟩
          exact HK.out _ _ ⟨rfl, hbn, hgn⟩
        · intro e0 e1 e2 e3 w' ⟨hbw, hgw⟩
          have y0 := hgw.cf; have y1 := hgw.cx; have y2 := hgw.cy
          refine wpOpIn_step rfl ?_
          intro K' hK
          have HK := Lib.hid hK; clear hK
          gi_wp2_with fail
          exact HK.out _ _ ⟨rfl, hbw, hgw⟩
        intro w' ⟨hbw, hgw⟩
        have y1 := hgw.cx; have y2 := hgw.cy; have y3 := hgw.fx; have y4 := hgw.fy
        by_cases t10 : lightF L D R S x.1 < lightF L D R S c
        · gi_wp2_with fail
          have hgf := hgw.setY x.1 hne2 (by omega) (by omega)
          have hrf := hbw.set ⟨w1.heap.size + 1 + 1, 0, none⟩ (.int .i64 x.1) hle2 hk2
          refine ⟨hrf.k, hrf.t, ?_, hrf.b, hrf.z⟩
          rw [HXS.out, HNS.out, if_neg (Int.not_lt.2 HT8.out), if_pos t10]
          exact hgf
        · gi_wp2_with fail
          refine ⟨hbw.k, hbw.t, ?_, hbw.b, hbw.z⟩
          rw [HXS.out, HNS.out, if_neg (Int.not_lt.2 HT8.out), if_neg (Int.not_lt.2 t10)]
          exact hgw
    case done =>
      rintro Db ys W hD rfl ⟨hg, hBp, hBd⟩ hK
      have hn : dyN 0 (L - 1) = topF L + 1 := by unfold dyN topF; omega
      have hmx := mxL_up hab (lightF L D R S) (topF L) (by omega)
      have hmn := mnL_up hab (lightF L D R S) (topF L) (by omega)
      rw [hn, hmx, hmn] at hg
      have hz1 := hg.cx
      have hz2 := hg.cy
      clear hg hG hG0 hmx hmn hn
      gi_wp2_with fail
      have hfo : Tryd.prog.follows Departure.mixedOrders = true := by kernel_rfl
      gi_big_quiet_th_o (fail)
      gi_wp2_with fail
      have hBq : Below w.heap.size w (W.drewN nq) := ⟨hBp.os, hBp.tape, hBp.output, hBp.size, hBp.block⟩
      have hKq : (W.drewN nq).heap[Db]? = some (.deferred (some [])) := hK
      refine ⟨by simp, .inl ⟨_, _, rfl, run_takeDeferred hKq, ?_⟩⟩
      refine ⟨.tuple #[.int .i64 (amax (lightF L D R S) (topF L)), .int .i64 (amin (lightF L D R S) (topF L)), .int .i64 0], by simp [results, Tryd.results32, go_sem], by rw [HP.out]; rfl, hBq.trans (belowK_b (w := w) (Nat.le_refl _) _ Db _ _ (by have := hBp.size; have := hBd.size; simp at *; omega) hKq rfl rfl)⟩
    case stop =>
      rintro D c pre W _ _ h _
      exact h.elim
  · have hck := ck_no hok
    have HS := Lib.hid hs; clear hs hok
    go_enter Tryd.func32, Tryd.ntmps32
    go_wp2_with fail
    refine (check_any _ (HS.out.to (by go_grown)).D (HS.out.to (by go_grown)).R (HS.out.to (by go_grown)).S HS.out.d HS.out.r HS.out.s).mono ?_
    rintro e w1 ⟨rfl, hb1⟩
    obtain ⟨hc, hf⟩ := bcell hb1
    have HB := Lib.hid (bjoin (w := w) (by go_grown) hb1)
    have HC := Lib.hid hb1; clear hb1
    go_wp2
    go_ret3
    exact ⟨by rw [hck]; rfl, HB.out⟩

end Go.Proofs.YtomlfliebolkmaaDoor
