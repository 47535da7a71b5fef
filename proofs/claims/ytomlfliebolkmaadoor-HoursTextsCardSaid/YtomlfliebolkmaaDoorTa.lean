/-
  Texts: the texts of hours, what is cut out of them, Print of the reference, the library's functions.
-/
import Derived.Test.YtomlfliebolkmaaDoorCH
import Derived.Test.YtomlfliebolkmaaDoorSh
set_option linter.unusedVariables false
set_option linter.unusedSimpArgs false
namespace Go.Proofs.YtomlfliebolkmaaDoor
open Go Go.Proofs Go.RowKit Pl

/-! ### Texts: plain -/
/-- The text of the hour with a number. -/
def hT (n : Nat) : ByteArray := txtB (decide (720 ≤ (n : Int))) ((n : Int) / 60 % 12) ((n : Int) % 60)
def wordL (s : List UInt8) : List UInt8 := (Lib.cut s [32]).1
def hrL (s : List UInt8) : List UInt8 := (Lib.cut (Lib.cut s [32]).2.1 [58]).1
def ptL (s : List UInt8) : List UInt8 := (Lib.cut (Lib.cut s [32]).2.1 [58]).2.1
def nightL : List UInt8 := [110, 105, 103, 104, 116]
/-- What Parse's cuts and numbers find in the text of an hour is the hour. -/
def cutOk (n : Nat) : Bool :=
  decide (wordL (hT n).data.toList = nightL) == decide (720 ≤ (n : Int)) && (decide (Lib.atoiAll (hrL (hT n).data.toList) = .ok ((n : Int) / 60 % 12)) && decide (Lib.atoiAll (ptL (hT n).data.toList) = .ok ((n : Int) % 60)))
set_option maxRecDepth 100000 in
theorem cutOk_all : (List.range 1440).all cutOk = true := by kernel_rfl
theorem cut_hT {n : Nat} (h : n < 1440) : (decide (wordL (hT n).data.toList = nightL) = decide (720 ≤ (n : Int))) ∧ Lib.atoiAll (hrL (hT n).data.toList) = .ok ((n : Int) / 60 % 12) ∧ Lib.atoiAll (ptL (hT n).data.toList) = .ok ((n : Int) % 60) := by
  have k := List.all_eq_true.1 cutOk_all n (List.mem_range.2 h)
  unfold cutOk at k
  simp only [Bool.and_eq_true, beq_iff_eq, decide_eq_true_eq] at k
  exact k
theorem hT_inj {n m : Nat} (hn : n < 1440) (hm : m < 1440) (e : hT n = hT m) : n = m := by
  obtain ⟨a1, a2, a3⟩ := cut_hT hn
  obtain ⟨b1, b2, b3⟩ := cut_hT hm
  rw [e] at a1 a2 a3
  have c1 := a1.symm.trans b1
  have c2 := a2.symm.trans b2
  have c3 := a3.symm.trans b3
  rw [decide_eq_decide] at c1
  injection c2 with c2
  injection c3 with c3
  omega
theorem hT_ok (n : Nat) : hrOk ((n : Int) / 60 % 12) ((n : Int) % 60) = true := (hrOk_iff _ _).2 (by omega)
/-- The number of an hour. -/
def hN (b : Bool) (h p : Int) : Nat := ((if b = true then 720 else 0) + 60 * h + p).toNat
theorem hN_spec {b : Bool} {h p : Int} (hv : hrOk h p = true) : hN b h p < 1440 ∧ decide (720 ≤ (hN b h p : Int)) = b ∧ (hN b h p : Int) / 60 % 12 = h ∧ (hN b h p : Int) % 60 = p := by
  have k := (hrOk_iff _ _).1 hv
  unfold hN
  cases b
  · rw [if_neg (by decide)]
    refine ⟨by omega, decide_eq_false (by omega), by omega, by omega⟩
  · rw [if_pos rfl]
    refine ⟨by omega, decide_eq_true (by omega), by omega, by omega⟩
theorem txt_hT {b : Bool} {h p : Int} (hv : hrOk h p = true) : txtB b h p = hT (hN b h p) := by
  obtain ⟨_, a, c, d⟩ := hN_spec (b := b) hv
  unfold hT; rw [a, c, d]


/-! ### Texts: the library's functions -/
theorem cut_len (s sep : List UInt8) : (Lib.cut s sep).1.length ≤ s.length ∧ (Lib.cut s sep).2.1.length ≤ s.length := by
  unfold Lib.cut
  split
  · exact ⟨by rw [List.length_take]; omega, by rw [List.length_drop]; omega⟩
  · exact ⟨Nat.le_refl _, Nat.zero_le _⟩
theorem size_list (l : List UInt8) : (⟨l.toArray⟩ : ByteArray).size = l.length := by show l.toArray.size = _; simp
theorem size_toList (s : ByteArray) : s.data.toList.length = s.size := Array.length_toList
/-- What the texts' functions read of the library's variables. -/
structure TxW (w : World) : Prop where
  c : ∃ m, w.cell? ⟨0, 0, none⟩ = some (.int .i64 m)
  e1 : ∃ ev, w.cell? ⟨1, 0, none⟩ = some ev ∧ (ev = .nilIface ∨ ∃ te pe, ev = .iface te pe)
  e2 : ∃ ev, w.cell? ⟨2, 0, none⟩ = some ev ∧ (ev = .nilIface ∨ ∃ te pe, ev = .iface te pe)
  lt : 2 < w.heap.size
theorem TxW.to {w w' : World} (h : TxW w) (hb : Below w.heap.size w w') : TxW w' :=
  ⟨h.c.imp fun _ k => keep_cell hb (by have := h.lt; omega) k, h.e1.imp fun _ k => ⟨keep_cell hb (by have := h.lt; omega) k.1, k.2⟩, h.e2.imp fun _ k => ⟨keep_cell hb h.lt k.1, k.2⟩, keep_lt hb h.lt⟩
theorem Cut_any (s sep : ByteArray) (w : World) (ht : TxW w) (hs : s.size ≤ 100) :
    Calls Tryd.prog 96 #[.string s, .string sep] w fun e w' => e = .returned (.tuple #[.string ⟨(Lib.cut s.data.toList sep.data.toList).1.toArray⟩, .string ⟨(Lib.cut s.data.toList sep.data.toList).2.1.toArray⟩, .bool (Lib.cut s.data.toList sep.data.toList).2.2]) ∧ Below w.heap.size w w' := by
  obtain ⟨m, hm⟩ := ht.c
  exact (Tryd.strings_Cut s sep m w (by omega) hm).mono fun e w' ⟨he, n, hn⟩ => ⟨he, by subst hn; exact below_drewN (Below.refl _ _) _⟩
/-- strconv.Atoi at every short text. -/
theorem Atoi_any (s : ByteArray) (w : World) (ht : TxW w) (hs : s.size ≤ 100) :
    Calls Tryd.prog 97 #[.string s] w fun e w' => ∃ v E, e = .returned (.tuple #[.int .i64 v, E]) ∧ ((E = .nilIface ∧ Lib.atoiAll s.data.toList = .ok v) ∨ ((∃ a, E = .iface 129 (.pointer (some a))) ∧ ∀ u, Lib.atoiAll s.data.toList ≠ .ok u)) ∧ Below w.heap.size w w' := by
  obtain ⟨v1, h1, k1⟩ := ht.e1
  obtain ⟨v2, h2, k2⟩ := ht.e2
  rcases hx : Lib.atoiAll s.data.toList with v | _ | _
  · refine (Tryd.strconv_Atoi_ok s (by omega) v hx w).mono fun e w' ⟨he, hw⟩ => ⟨v, .nilIface, he, .inl ⟨rfl, rfl⟩, ?_⟩
    rcases hw with rfl | ⟨t, rfl⟩
    · exact Below.refl _ _
    · exact Lib.bytesWorld_below _ _ _
  · exact (Any.strconv_Atoi_syntax Tryd.laysC172 s (by omega) hx v1 w h1 k1).mono fun e w' ⟨N, he, _, _, hb⟩ => ⟨_, _, he, .inr ⟨⟨_, rfl⟩, fun u h => by cases h⟩, hb⟩
  · exact (Any.strconv_Atoi_range Tryd.laysC172 s (by omega) hx v2 w h2 k2).mono fun e w' ⟨N, he, _, _, hb⟩ => ⟨_, _, he, .inr ⟨⟨_, rfl⟩, fun u h => by cases h⟩, hb⟩


def twoB (p : Int) : ByteArray := if p < 10 then ⟨#[48]⟩ ++ digs p else digs p
theorem txt_ref (b : Bool) (h p : Int) : ((if b = true then ⟨#[110, 105, 103, 104, 116, 32]⟩ else ⟨#[100, 97, 121, 32]⟩ : ByteArray) ++ digs h ++ ⟨#[58]⟩) ++ twoB p = txtB b h p := by
  by_cases hp : p < 10
  · rw [txtB_lo _ _ _ hp]; unfold twoB; rw [if_pos hp]; simp only [ByteArray.append_assoc]
  · rw [txtB_hi _ _ _ hp]; unfold twoB; rw [if_neg hp]; simp only [ByteArray.append_assoc]
theorem two_le (p : Int) : (twoB p).size ≤ 3 := by
  have := digs_le p
  unfold twoB; split
  · rw [ByteArray.size_append]; show 1 + _ ≤ 3; omega
  · omega

set_option maxHeartbeats 2000000 in
theorem two_any (p : Int) (w : World) (h0 : 0 ≤ p) (h1 : p < 100) : Calls Tryd.prog 95 #[.int .i64 p] w fun e w' => e = .returned (.string (twoB p)) ∧ w' = w := by
  have hd := digs_le p
  by_cases hp : p < 10
  · have HX := Lib.hid (show twoB p = ⟨#[48]⟩ ++ digs p by unfold twoB; rw [if_pos hp])
    go_enter Tryd.func95, Tryd.ntmps95
    go_wp2_with fail
    refine (Itoa_any _ _ h0 h1).mono ?_
    rintro e w1 ⟨rfl, rfl⟩
    go_wp2
    refine bodyPost_ret (v := .string (twoB p)) (by rw [HX.out]; simp [results, Tryd.results95, go_sem]) rfl ?_
    exact ⟨rfl, rfl⟩
  · have HX := Lib.hid (show twoB p = digs p by unfold twoB; rw [if_neg hp])
    go_enter Tryd.func95, Tryd.ntmps95
    go_wp2_with fail
    refine (Itoa_any _ _ h0 h1).mono ?_
    rintro e w1 ⟨rfl, rfl⟩
    go_wp2
    refine bodyPost_ret (v := .string (twoB p)) (by rw [HX.out]; simp [results, Tryd.results95, go_sem]) rfl ?_
    exact ⟨rfl, rfl⟩

set_option maxHeartbeats 4000000 in
theorem rPrint_any (b : Bool) (h p : Int) (w : World) : Calls Tryd.prog 41 #[.agg #[.bool b, .int .i64 h, .int .i64 p]] w fun e w' => e = .returned (.tuple #[.string (prT b h p), .int .i64 (prE h p)]) ∧ Below w.heap.size w w' := by
  cases hv : hrOk h p
  · have HT := Lib.hid (show prT b h p = ⟨#[]⟩ by unfold prT; rw [hv]; rfl)
    have HE := Lib.hid (show prE h p = 1 by unfold prE; rw [hv]; rfl)
    go_enter Tryd.func41, Tryd.ntmps41
    go_wp2_with fail
    refine (rHour_any _ _ _ _).mono ?_
    rintro e w1 ⟨rfl, hb1⟩
    have HB := Lib.hid (bjoin (w := w) (by go_grown) hb1); clear hb1
    rw [hv]
    go_wp2
    refine bodyPost_ret (v := .tuple #[.string ⟨#[]⟩, .int .i64 1]) (by simp [results, Tryd.results41, go_sem]) rfl ?_
    rw [HT.out, HE.out]
    exact ⟨rfl, HB.out⟩
  · have HT := Lib.hid (show prT b h p = txtB b h p by unfold prT; rw [hv]; rfl)
    have HE := Lib.hid (show prE h p = 0 by unfold prE; rw [hv]; rfl)
    have hb := (hrOk_iff _ _).1 hv
    have HX := Lib.hid (txt_ref b h p)
    have hd1 := digs_le h; have hd2 := two_le p
    cases b
    · go_enter Tryd.func41, Tryd.ntmps41
      go_wp2_with fail
      refine (rHour_any _ _ _ _).mono ?_
      rintro e w1 ⟨rfl, hb1⟩
      have qc0 := keep_cell (b := w.heap.size) (o := 0) (v := .bool false) hb1 (by simp <;> omega) (by simp [go_sem])
      have qc1 := keep_cell (b := w.heap.size) (o := 1) (v := .int .i64 h) hb1 (by simp <;> omega) (by simp [go_sem])
      have qc2 := keep_cell (b := w.heap.size) (o := 2) (v := .int .i64 p) hb1 (by simp <;> omega) (by simp [go_sem])
      have HB := Lib.hid (bjoin (w := w) (by go_grown) hb1); clear hb1
      rw [hv]
      go_wp2_with fail
      go_quiet (first | (go_at_call 94; refine Calls.quiet_of_same (Itoa_any _ _ (by omega) (by omega))) | (go_at_call 95; refine Calls.quiet_of_same (two_any _ _ (by omega) (by omega))))
      go_wp2
      refine bodyPost_ret (v := .tuple #[.string (txtB false h p), .int .i64 0]) (by rw [← HX.out]; simp [results, Tryd.results41, go_sem]) rfl ?_
      rw [HT.out, HE.out]
      exact ⟨rfl, below_drewN HB.out _⟩
    · go_enter Tryd.func41, Tryd.ntmps41
      go_wp2_with fail
      refine (rHour_any _ _ _ _).mono ?_
      rintro e w1 ⟨rfl, hb1⟩
      have qc0 := keep_cell (b := w.heap.size) (o := 0) (v := .bool true) hb1 (by simp <;> omega) (by simp [go_sem])
      have qc1 := keep_cell (b := w.heap.size) (o := 1) (v := .int .i64 h) hb1 (by simp <;> omega) (by simp [go_sem])
      have qc2 := keep_cell (b := w.heap.size) (o := 2) (v := .int .i64 p) hb1 (by simp <;> omega) (by simp [go_sem])
      have HB := Lib.hid (bjoin (w := w) (by go_grown) hb1); clear hb1
      rw [hv]
      go_wp2_with fail
      go_quiet (first | (go_at_call 94; refine Calls.quiet_of_same (Itoa_any _ _ (by omega) (by omega))) | (go_at_call 95; refine Calls.quiet_of_same (two_any _ _ (by omega) (by omega))))
      go_wp2
      refine bodyPost_ret (v := .tuple #[.string (txtB true h p), .int .i64 0]) (by rw [← HX.out]; simp [results, Tryd.results41, go_sem]) rfl ?_
      rw [HT.out, HE.out]
      exact ⟨rfl, below_drewN HB.out _⟩

end Go.Proofs.YtomlfliebolkmaaDoor
