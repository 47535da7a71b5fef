/-
  Texts: Parse of the program and of the reference.
-/
import Derived.Test.YtomlfliebolkmaaDoorTa
import Derived.Test.YtomlfliebolkmaaDoorWJ
set_option linter.unusedVariables false
set_option linter.unusedSimpArgs false
namespace Go.Proofs.YtomlfliebolkmaaDoor
open Go Go.Proofs Go.RowKit Pl

/-! ### Texts: Parse -/
def wordS (s : ByteArray) : ByteArray := ⟨(wordL s.data.toList).toArray⟩
def restS (s : ByteArray) : ByteArray := ⟨(Lib.cut s.data.toList [32]).2.1.toArray⟩
def hrS (s : ByteArray) : ByteArray := ⟨(hrL s.data.toList).toArray⟩
def ptS (s : ByteArray) : ByteArray := ⟨(ptL s.data.toList).toArray⟩
theorem rest_le {s : ByteArray} (h : s.size ≤ 100) : (restS s).size ≤ 100 := by
  have := (cut_len s.data.toList [32]).2; rw [size_toList] at this
  unfold restS; rw [size_list]; omega
theorem hr_le {s : ByteArray} (h : s.size ≤ 100) : (hrS s).size ≤ 100 := by
  have h1 := (cut_len s.data.toList [32]).2; rw [size_toList] at h1
  have h2 := (cut_len (Lib.cut s.data.toList [32]).2.1 [58]).1
  unfold hrS hrL; rw [size_list]; omega
theorem pt_le {s : ByteArray} (h : s.size ≤ 100) : (ptS s).size ≤ 100 := by
  have h1 := (cut_len s.data.toList [32]).2; rw [size_toList] at h1
  have h2 := (cut_len (Lib.cut s.data.toList [32]).2.1 [58]).2
  unfold ptS ptL; rw [size_list]; omega
theorem CutW_any (s : ByteArray) (w : World) (ht : TxW w) (hs : s.size ≤ 100) :
    Calls Tryd.prog 96 #[.string s, .string ⟨#[32]⟩] w fun e w' => ∃ f, e = .returned (.tuple #[.string (wordS s), .string (restS s), .bool f]) ∧ Below w.heap.size w w' :=
  (Cut_any s ⟨#[32]⟩ w ht hs).mono fun e w' ⟨he, hb⟩ => ⟨_, he, hb⟩
theorem CutR_any (s : ByteArray) (w : World) (ht : TxW w) (hs : s.size ≤ 100) :
    Calls Tryd.prog 96 #[.string (restS s), .string ⟨#[58]⟩] w fun e w' => ∃ f, e = .returned (.tuple #[.string (hrS s), .string (ptS s), .bool f]) ∧ Below w.heap.size w w' :=
  (Cut_any (restS s) ⟨#[58]⟩ w ht (rest_le hs)).mono fun e w' ⟨he, hb⟩ => ⟨_, he, hb⟩
theorem word_iff (s : ByteArray) : wordS s = ⟨#[110, 105, 103, 104, 116]⟩ ↔ wordL s.data.toList = nightL := by
  unfold wordS nightL
  constructor
  · intro h; have k := congrArg (fun b : ByteArray => b.data.toList) h; simpa using k
  · intro h; rw [h]
/-- What is no hour's text is not the text of what was found. -/
theorem no_text {s : ByteArray} (hno : ∀ n < 1440, hT n ≠ s) {b : Bool} {h p : Int} (hv : hrOk h p = true) : txtB b h p ≠ s := by
  rw [txt_hT hv]; exact hno _ (hN_spec hv).1

/-- The result's box, as it was laid. -/
structure Res (w : World) (b : Nat) : Prop where
  c0 : w.cell? ⟨b, 0, none⟩ = some (.bool false)
  c1 : w.cell? ⟨b, 1, none⟩ = some (.int .i64 0)
  c2 : w.cell? ⟨b, 2, none⟩ = some (.int .i64 0)
  f0 : w.frozen? ⟨b, 0, none⟩ = false
  f1 : w.frozen? ⟨b, 1, none⟩ = false
  f2 : w.frozen? ⟨b, 2, none⟩ = false
  lt : b < w.heap.size
theorem Res.on {w w1 : World} {b : Nat} (h : Res w b) (hb : Below w.heap.size w w1) : Res w1 b :=
  ⟨keep_cell hb h.lt h.c0, keep_cell hb h.lt h.c1, keep_cell hb h.lt h.c2, keep_fr hb h.lt h.f0, keep_fr hb h.lt h.f1, keep_fr hb h.lt h.f2, keep_lt hb h.lt⟩
theorem Res.new (w : World) : Res (w.alloc (.cells #[.bool false, .int .i64 0, .int .i64 0] 37)) w.heap.size :=
  ⟨by simp [go_sem], by simp [go_sem], by simp [go_sem], by simp [go_sem], by simp [go_sem], by simp [go_sem], by simp⟩
theorem Res.alloc {w : World} {b : Nat} (h : Res w b) (o : Obj) : Res (w.alloc o) b := h.on ((Below.refl _ _).alloc (Nat.le_refl _) _)

set_option maxRecDepth 100000 in
set_option maxHeartbeats 8000000 in
theorem Parse_no (s : ByteArray) (w : World) (ht : TxW w) (hs : s.size ≤ 100) (hno : ∀ n < 1440, hT n ≠ s) :
    Calls Tryd.prog 42 #[.string s] w fun e w' => e = .returned (.tuple #[.agg #[.bool false, .int .i64 0, .int .i64 0], .int .i64 3]) ∧ Below w.heap.size w w' := by
  have HT := Lib.hid ht; have HNO := Lib.hid (fun (b : Bool) (h p : Int) (hv : hrOk h p = true) => no_text hno (b := b) hv); clear hno ht
  go_enter Tryd.func42, Tryd.ntmps42
  go_wp2_with fail
  refine (CutW_any s _ (HT.out.to (by go_grown)) hs).mono ?_
  rintro e w1 ⟨f1, rfl, hb⟩
  have HR1 := Lib.hid ((Res.new w).on hb)
  have HB1 := Lib.hid (bjoin (w := w) (by go_grown) hb)
  clear hb
  go_wp2_with fail
  refine (CutR_any s _ (HT.out.to HB1.out) hs).mono ?_
  rintro e w2 ⟨f2, rfl, hb⟩
  have HR2 := Lib.hid (HR1.out.on hb)
  have HB2 := Lib.hid (bjoin (w := w) HB1.out hb)
  clear hb HR1
  go_wp2_with fail
  refine (Atoi_any (hrS s) _ (HT.out.to HB2.out) (hr_le hs)).mono ?_
  rintro e w3 ⟨h, Eh, rfl, hh, hb⟩
  have HR3 := Lib.hid (HR2.out.on hb)
  have HB3 := Lib.hid (bjoin (w := w) HB2.out hb)
  clear hb HR2
  go_wp2_with fail
  refine (Atoi_any (ptS s) _ (HT.out.to HB3.out) (pt_le hs)).mono ?_
  rintro e w4 ⟨p, Ep, rfl, hp, hb⟩
  have HR4 := Lib.hid (HR3.out.on hb)
  have HB4 := Lib.hid (bjoin (w := w) HB3.out hb)
  clear hb HR3
  go_wp2_with fail
  generalize ((wordS s).toList == [110, 105, 103, 104, 116]) = nb at *
  refine (Print_any nb h p _).mono ?_
  rintro e w5 ⟨rfl, hb⟩
  have HR5 := Lib.hid ((HR4.out.alloc _).on hb)
  have HB5 := Lib.hid (bjoin (w := w) (by have hb' := HB4.out; have hb'' := hb'.size; go_grown) hb)
  clear hb HR4
  have r0 := HR5.out.c0; have r1 := HR5.out.c1; have r2 := HR5.out.c2; have r3 := HR5.out.f0; have r4 := HR5.out.f1; have r5 := HR5.out.f2
  rcases hh with ⟨rfl, ha⟩ | ⟨⟨a1, rfl⟩, ha⟩
  · clear ha
    rcases hp with ⟨rfl, ha⟩ | ⟨⟨a1, rfl⟩, ha⟩
    · clear ha
      rcases Bool.eq_false_or_eq_true (hrOk h p) with hv | hv
      · have hT' : prT nb h p = txtB nb h p := by unfold prT; rw [if_pos hv]
        have hE' : prE h p = 0 := by unfold prE; rw [if_pos hv]
        have hno := HNO.out nb h p hv
        rw [hT', hE']
        generalize txtB nb h p = T at *
        have hq : (T.toList == s.toList) = false := by rw [beq_eq_false_iff_ne]; intro e; exact hno (by rw [Lib.toList_data, Lib.toList_data] at e; exact ByteArray.ext (Array.toList_inj.1 e))
        clear hT' hE' hno
        go_wp2
        refine bodyPost_ret (v := .tuple #[.agg #[.bool false, .int .i64 0, .int .i64 0], .int .i64 3]) (by simp [results, Tryd.results42, go_sem, r0, r1, r2]) rfl ⟨rfl, ?_⟩
        have hb' := HB5.out; have hb'' := hb'.size
        go_grown
      · have hE' : prE h p = 1 := by unfold prE; rw [if_neg (by rw [hv]; decide)]
        rw [hE']
        clear hE'
        go_wp2
        refine bodyPost_ret (v := .tuple #[.agg #[.bool false, .int .i64 0, .int .i64 0], .int .i64 3]) (by simp [results, Tryd.results42, go_sem, r0, r1, r2]) rfl ⟨rfl, ?_⟩
        have hb' := HB5.out; have hb'' := hb'.size
        go_grown
    · clear ha
      go_wp2
      refine bodyPost_ret (v := .tuple #[.agg #[.bool false, .int .i64 0, .int .i64 0], .int .i64 3]) (by simp [results, Tryd.results42, go_sem, r0, r1, r2]) rfl ⟨rfl, ?_⟩
      have hb' := HB5.out; have hb'' := hb'.size
      go_grown
  · clear ha
    go_wp2
    refine bodyPost_ret (v := .tuple #[.agg #[.bool false, .int .i64 0, .int .i64 0], .int .i64 3]) (by simp [results, Tryd.results42, go_sem, r0, r1, r2]) rfl ⟨rfl, ?_⟩
    have hb' := HB5.out; have hb'' := hb'.size
    go_grown


set_option maxRecDepth 100000 in
set_option maxHeartbeats 8000000 in
theorem Parse_yes (n : Nat) (s : ByteArray) (w : World) (ht : TxW w) (hs : s.size ≤ 100) (hn : n < 1440) (hsn : hT n = s) :
    Calls Tryd.prog 42 #[.string s] w fun e w' => e = .returned (.tuple #[.agg #[.bool (decide (720 ≤ (n : Int))), .int .i64 ((n : Int) / 60 % 12), .int .i64 ((n : Int) % 60)], .int .i64 0]) ∧ Below w.heap.size w w' := by
  have HT := Lib.hid ht; clear ht
  obtain ⟨k1, k2, k3⟩ := cut_hT hn
  rw [hsn] at k1 k2 k3
  have hnb : ((wordS s).toList == [110, 105, 103, 104, 116]) = decide (720 ≤ (n : Int)) := by rw [← k1, Lib.toList_data]; show ((wordL s.data.toList : List UInt8) == nightL) = decide (wordL s.data.toList = nightL); rw [Bool.eq_iff_iff, beq_iff_eq, decide_eq_true_iff]
  have HK2 := Lib.hid (show Lib.atoiAll (hrS s).data.toList = .ok ((n : Int) / 60 % 12) from k2)
  have HK3 := Lib.hid (show Lib.atoiAll (ptS s).data.toList = .ok ((n : Int) % 60) from k3)
  have HNB := Lib.hid hnb
  have HTX := Lib.hid (show prT (decide (720 ≤ (n : Int))) ((n : Int) / 60 % 12) ((n : Int) % 60) = s by unfold prT; rw [if_pos (hT_ok n)]; exact hsn)
  have HEX := Lib.hid (show prE ((n : Int) / 60 % 12) ((n : Int) % 60) = 0 by unfold prE; rw [if_pos (hT_ok n)])
  clear k1 k2 k3 hnb hsn
  go_enter Tryd.func42, Tryd.ntmps42
  go_wp2_with fail
  refine (CutW_any s _ (HT.out.to (by go_grown)) hs).mono ?_
  rintro e w1 ⟨f1, rfl, hb⟩
  have HR1 := Lib.hid ((Res.new w).on hb)
  have HB1 := Lib.hid (bjoin (w := w) (by go_grown) hb)
  clear hb
  go_wp2_with fail
  refine (CutR_any s _ (HT.out.to HB1.out) hs).mono ?_
  rintro e w2 ⟨f2, rfl, hb⟩
  have HR2 := Lib.hid (HR1.out.on hb)
  have HB2 := Lib.hid (bjoin (w := w) HB1.out hb)
  clear hb HR1
  go_wp2_with fail
  refine (Atoi_any (hrS s) _ (HT.out.to HB2.out) (hr_le hs)).mono ?_
  rintro e w3 ⟨h, Eh, rfl, hh, hb⟩
  obtain ⟨rfl, ha⟩ : Eh = .nilIface ∧ Lib.atoiAll (hrS s).data.toList = .ok h := hh.resolve_right (fun h => h.2 _ HK2.out)
  rw [HK2.out] at ha
  injection ha with ha
  subst ha
  clear hh
  have HR3 := Lib.hid (HR2.out.on hb)
  have HB3 := Lib.hid (bjoin (w := w) HB2.out hb)
  clear hb HR2
  go_wp2_with fail
  refine (Atoi_any (ptS s) _ (HT.out.to HB3.out) (pt_le hs)).mono ?_
  rintro e w4 ⟨p, Ep, rfl, hp, hb⟩
  obtain ⟨rfl, ha⟩ : Ep = .nilIface ∧ Lib.atoiAll (ptS s).data.toList = .ok p := hp.resolve_right (fun h => h.2 _ HK3.out)
  rw [HK3.out] at ha
  injection ha with ha
  subst ha
  clear hp
  have HR4 := Lib.hid (HR3.out.on hb)
  have HB4 := Lib.hid (bjoin (w := w) HB3.out hb)
  clear hb HR3
  go_wp2_with fail
  rw [HNB.out]
  refine (Print_any (decide (720 ≤ (n : Int))) ((n : Int) / 60 % 12) ((n : Int) % 60) _).mono ?_
  rintro e w5 ⟨rfl, hb⟩
  have HR5 := Lib.hid ((HR4.out.alloc _).on hb)
  have HB5 := Lib.hid (bjoin (w := w) (by have hb' := HB4.out; have hb'' := hb'.size; go_grown) hb)
  have t0 := keep_cell (b := w4.heap.size) (o := 0) (v := .bool (decide (720 ≤ (n : Int)))) hb (by simp) (by simp [go_sem])
  have t1 := keep_cell (b := w4.heap.size) (o := 1) (v := .int .i64 ((n : Int) / 60 % 12)) hb (by simp) (by simp [go_sem])
  have t2 := keep_cell (b := w4.heap.size) (o := 2) (v := .int .i64 ((n : Int) % 60)) hb (by simp) (by simp [go_sem])
  clear hb HR4
  rw [HTX.out, HEX.out]
  have r0 := HR5.out.c0; have r1 := HR5.out.c1; have r2 := HR5.out.c2; have r3 := HR5.out.f0; have r4 := HR5.out.f1; have r5 := HR5.out.f2
  go_wp2
  refine bodyPost_ret (v := .tuple #[.agg #[.bool (decide (720 ≤ (n : Int))), .int .i64 ((n : Int) / 60 % 12), .int .i64 ((n : Int) % 60)], .int .i64 0]) (by simp [results, Tryd.results42, go_sem, r0, r1, r2]) rfl ⟨rfl, ?_⟩
  have hb' := HB5.out; have hb'' := hb'.size
  go_grown


set_option maxRecDepth 100000 in
set_option maxHeartbeats 8000000 in
theorem rParse_yes (n : Nat) (s : ByteArray) (w : World) (hn : n < 1440) (hsn : hT n = s) :
    Calls Tryd.prog 43 #[.string s] w fun e w' => e = .returned (.tuple #[.agg #[.bool (decide (720 ≤ (n : Int))), .int .i64 ((n : Int) / 60 % 12), .int .i64 ((n : Int) % 60)], .int .i64 0]) ∧ Below w.heap.size w w' := by
  have HS := Lib.hid hsn; have HN := Lib.hid hn
  clear hsn
  go_enter Tryd.func43, Tryd.ntmps43
  go_wp2
  go_loopw [4] (fun v wr => ∃ k : Nat, k ≤ n ∧ v = .int .i64 k ∧ Res wr w.heap.size ∧ Below w.heap.size w wr) (fun v _ => 1440 - (intOf v).toNat)
  case atStart => exact ⟨0, by omega, rfl, Res.new w, by go_grown⟩
  case round =>
    obtain ⟨k, hk, rfl, hr, hbw⟩ := hrel
    have HR := Lib.hid hr; have HB := Lib.hid hbw; clear hr hbw
    have hk2 : (k : Int) < 1440 := by omega
    go_wp2_with fail
    refine (hour_any (k : Int) _ (by omega)).mono ?_
    rintro e w1 ⟨rfl, hb⟩
    have HR1 := Lib.hid (HR.out.on hb)
    have HB1 := Lib.hid (bjoin (w := w) HB.out hb)
    clear hb
    go_wp2_with fail
    refine (rPrint_any (decide (720 ≤ (k : Int))) ((k : Int) / 60 % 12) ((k : Int) % 60) _).mono ?_
    rintro e w2 ⟨rfl, hb⟩
    have HR2 := Lib.hid (HR1.out.on hb)
    have HB2 := Lib.hid (bjoin (w := w) HB1.out hb)
    clear hb
    have hT' : prT (decide (720 ≤ (k : Int))) ((k : Int) / 60 % 12) ((k : Int) % 60) = hT k := by unfold prT; rw [if_pos (hT_ok k)]; rfl
    rw [hT']
    clear hT'
    rcases Nat.lt_or_eq_of_le hk with hlt | rfl
    · have hne : hT k ≠ s := fun e => by have := hT_inj (by omega) HN.out (e.trans HS.out.symm); omega
      generalize hT k = T at *
      have hq : (T.toList == s.toList) = false := by rw [beq_eq_false_iff_ne]; intro e; exact hne (by rw [Lib.toList_data, Lib.toList_data] at e; exact ByteArray.ext (Array.toList_inj.1 e))
      clear hne
      go_wp2
      go_roundw
      case rel => first | exact ⟨k + 1, by omega, by go_num, HR2.out, HB2.out⟩ | ((repeat apply Exists.intro); exact ⟨⟨k + 1, by omega, by go_num, HR2.out, HB2.out⟩, rfl⟩)
      case measure => simp [intOf]; omega
    · rw [HS.out]
      go_wp2_with fail
      refine (hour_any (k : Int) _ (by omega)).mono ?_
      rintro e w3 ⟨rfl, hb⟩
      have HR3 := Lib.hid (HR2.out.on hb)
      have HB3 := Lib.hid (bjoin (w := w) HB2.out hb)
      clear hb
      have r0 := HR3.out.c0; have r1 := HR3.out.c1; have r2 := HR3.out.c2; have r3 := HR3.out.f0; have r4 := HR3.out.f1; have r5 := HR3.out.f2
      go_wp2
      refine bodyPost_ret (v := .tuple #[.agg #[.bool (decide (720 ≤ (k : Int))), .int .i64 ((k : Int) / 60 % 12), .int .i64 ((k : Int) % 60)], .int .i64 0]) (by simp [results, Tryd.results43, go_sem, r0, r1, r2]) rfl ⟨rfl, ?_⟩
      have hb' := HB3.out; have hb'' := hb'.size
      go_grown

set_option maxRecDepth 100000 in
set_option maxHeartbeats 8000000 in
theorem rParse_no (s : ByteArray) (w : World) (hno : ∀ n < 1440, hT n ≠ s) :
    Calls Tryd.prog 43 #[.string s] w fun e w' => e = .returned (.tuple #[.agg #[.bool false, .int .i64 0, .int .i64 0], .int .i64 3]) ∧ Below w.heap.size w w' := by
  have HNO := Lib.hid hno
  clear hno
  go_enter Tryd.func43, Tryd.ntmps43
  go_wp2
  go_loopw [4] (fun v wr => ∃ k : Nat, k ≤ 1440 ∧ v = .int .i64 k ∧ Res wr w.heap.size ∧ Below w.heap.size w wr) (fun v _ => 1440 - (intOf v).toNat)
  case atStart => exact ⟨0, by omega, rfl, Res.new w, by go_grown⟩
  case round =>
    obtain ⟨k, hk, rfl, hr, hbw⟩ := hrel
    have HR := Lib.hid hr; have HB := Lib.hid hbw; clear hr hbw
    by_cases hlt : k < 1440
    · have hk2 : (k : Int) < 1440 := by omega
      go_wp2_with fail
      refine (hour_any (k : Int) _ (by omega)).mono ?_
      rintro e w1 ⟨rfl, hb⟩
      have HR1 := Lib.hid (HR.out.on hb)
      have HB1 := Lib.hid (bjoin (w := w) HB.out hb)
      clear hb
      go_wp2_with fail
      refine (rPrint_any (decide (720 ≤ (k : Int))) ((k : Int) / 60 % 12) ((k : Int) % 60) _).mono ?_
      rintro e w2 ⟨rfl, hb⟩
      have HR2 := Lib.hid (HR1.out.on hb)
      have HB2 := Lib.hid (bjoin (w := w) HB1.out hb)
      clear hb
      have hT' : prT (decide (720 ≤ (k : Int))) ((k : Int) / 60 % 12) ((k : Int) % 60) = hT k := by unfold prT; rw [if_pos (hT_ok k)]; rfl
      rw [hT']
      clear hT'
      have hne : hT k ≠ s := HNO.out k hlt
      generalize hT k = T at *
      have hq : (T.toList == s.toList) = false := by rw [beq_eq_false_iff_ne]; intro e; exact hne (by rw [Lib.toList_data, Lib.toList_data] at e; exact ByteArray.ext (Array.toList_inj.1 e))
      clear hne
      go_wp2
      go_roundw
      case rel => first | exact ⟨k + 1, by omega, by go_num, HR2.out, HB2.out⟩ | ((repeat apply Exists.intro); exact ⟨⟨k + 1, by omega, by go_num, HR2.out, HB2.out⟩, rfl⟩)
      case measure => simp [intOf]; omega
    · have hk2 : ¬ (k : Int) < 1440 := by omega
      have r0 := HR.out.c0; have r1 := HR.out.c1; have r2 := HR.out.c2; have r3 := HR.out.f0; have r4 := HR.out.f1; have r5 := HR.out.f2
      go_wp2
      refine bodyPost_ret (v := .tuple #[.agg #[.bool false, .int .i64 0, .int .i64 0], .int .i64 3]) (by simp [results, Tryd.results43, go_sem, r0, r1, r2]) rfl ⟨rfl, ?_⟩
      have hb' := HB.out; have hb'' := hb'.size
      go_grown

end Go.Proofs.YtomlfliebolkmaaDoor
