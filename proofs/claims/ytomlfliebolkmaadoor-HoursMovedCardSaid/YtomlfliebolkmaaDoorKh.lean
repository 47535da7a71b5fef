/-
  Laws on regions that draw their order, whose last stores write what its loads read.
-/
import Derived.Test.YtomlfliebolkmaaDoorKd
import Derived.Deep.RegionHeld3
import Derived.OrdersHeld
import Derived.Deep.AppendLies
set_option linter.unusedVariables false
set_option linter.unusedSimpArgs false
namespace Go.Proofs.YtomlfliebolkmaaDoor
open Go Go.Proofs Go.RowKit Pl

theorem lt_id {W w1 : World} {b : Nat} (_h : Below W.heap.size W w1) (h : b < W.heap.size) : b < W.heap.size := h


/-! ### A region that draws, whose last stores write what its loads read: what is known of the world hangs on whether the two stores have come up -/
section
variable {P : Program} {ops : Array Oper} {Q : Exit → Act → World → Prop} {md : Region.Mode} {x y : Nat} {T : Bool → Bool → World → Prop}

def wpAnyG (P : Program) (md : Region.Mode) (ops : Array Oper) (Q : Exit → Act → World → Prop) (x y : Nat) (T : Bool → Bool → World → Prop) : Nat → Array Bool → Act → World → Prop
  | 0, listed, a, w => Region.ready md ops listed = [] ∧ Q .normal a w
  | fuel + 1, listed, a, w =>
    (Region.ready md ops listed = [] → Q .normal a w) ∧
    ∀ i ∈ Region.ready md ops listed, wpOp P ops Q i (fun a' w' => T ((listed.setIfInBounds i true).getD x true) ((listed.setIfInBounds i true).getD y true) w' ∧ wpAnyG P md ops Q x y T fuel (listed.setIfInBounds i true) a' w') a w

theorem wpAny_of_G : ∀ (fuel : Nat) (listed : Array Bool) (a : Act) (w : World), wpAnyG P md ops Q x y T fuel listed a w → wpAny P md ops Q fuel listed a w
  | 0, _, _, _, h => h
  | fuel + 1, _, _, _, h => ⟨h.1, fun i hi => wpOp_mono (fun a' w' h' => wpAny_of_G fuel _ a' w' h'.2) (h.2 i hi)⟩

theorem not_ready_of_wait {i z : Nat} {listed : Array Bool} (hr : i ∈ Region.ready md ops listed) (hz : ∃ oz, ops[z]? = some oz ∧ ∃ e ∈ oz.after, Region.binds md e = true ∧ e.on = i) : z ∉ Region.ready md ops listed := by
  intro hj
  obtain ⟨oz, hoz, e, he, hb, heq⟩ := hz
  obtain ⟨_, oj, hoj, hall⟩ := mem_ready.1 hj
  obtain rfl := Option.some.inj (hoz.symm.trans hoj)
  have h1 := hall e he hb
  have h0 := (mem_ready.1 hr).1
  rw [heq] at h1
  rcases Nat.lt_or_ge i listed.size with h' | h'
  · simp [h'] at h0 h1; rw [h0] at h1; cases h1
  · simp [Array.getElem?_eq_none h'] at h1

theorem wpAnyG_first {i z : Nat} {oi : Oper} {v : Value} {S0 : World → Prop} (hi : ops[i]? = some oi) (hsel : ∀ (j : Nat) (o : Oper) cs b, ops[j]? = some o → o.op ≠ .select cs b)
    (hQ : ∀ c a w, Q (.panic c) (a.put oi.dst v) w → Q (.panic c) a w) (hz : ∃ oz, ops[z]? = some oz ∧ ∃ e ∈ oz.after, Region.binds md e = true ∧ e.on = i) (hix : i ≠ x) (hiy : i ≠ y)
    (hS0 : ∀ (l : Array Bool) w, l.getD z true = false → T (l.getD x true) (l.getD y true) w → S0 w) :
    ∀ (fuel : Nat) (listed : Array Bool) (a : Act) (w : World),
      (∀ j oj, ops[j]? = some oj → j ≠ i → listed.getD j true = false → (∀ e ∈ oj.after, Region.binds md e = true → e.on ≠ i) → oi.apart ops oj = true) →
      i ∈ Region.ready md ops listed → listed.getD z true = false → YieldsIf P ops S0 oi v a → T (listed.getD x true) (listed.getD y true) w →
      wpAnyG P md ops Q x y T fuel (listed.setIfInBounds i true) (a.put oi.dst v) w → wpAnyG P md ops Q x y T (fuel + 1) listed a w := by
  intro fuel
  induction fuel with
  | zero =>
    intro listed a w _ hr hK hy hS H
    refine ⟨fun h => (by rw [h] at hr; cases hr), fun j hj => ?_⟩
    by_cases hji : j = i
    · subst hji; exact hy.wpOp hi (hS0 _ _ hK hS) ⟨by rw [getD_set_ne true hix, getD_set_ne true hiy]; exact hS, H⟩
    · have := ready_mono hj hji
      rw [H.1] at this
      cases this
  | succ fuel ih =>
    intro listed a w hfree hr hK hy hS H
    refine ⟨fun h => (by rw [h] at hr; cases hr), fun j hj => ?_⟩
    by_cases hji : j = i
    · subst hji; exact hy.wpOp hi (hS0 _ _ hK hS) ⟨by rw [getD_set_ne true hix, getD_set_ne true hiy]; exact hS, H⟩
    · have hjz : j ≠ z := fun e => not_ready_of_wait hr hz (e ▸ hj)
      have h1 := H.2 j (ready_mono hj hji)
      obtain ⟨hjun, oj, hoj, hall⟩ := mem_ready.1 hj
      have hnot : ∀ e ∈ oj.after, Region.binds md e = true → e.on ≠ i := fun e he hb heq => by
        have h1 := hall e he hb
        have h0 := (mem_ready.1 hr).1
        rw [heq] at h1
        rcases Nat.lt_or_ge i listed.size with h' | h'
        · simp [h'] at h0 h1; rw [h0] at h1; cases h1
        · simp [Array.getElem?_eq_none h'] at h1
      have h2 := wpOp_putIf hoj (hfree j oj hoj hji hjun hnot) (fun cs b => hsel i oi cs b hi) (fun cs b => hsel j oj cs b hoj) hQ hy h1
      have hfree' : ∀ k ok, ops[k]? = some ok → k ≠ i → (listed.setIfInBounds j true).getD k true = false →
          (∀ e ∈ ok.after, Region.binds md e = true → e.on ≠ i) → oi.apart ops ok = true := fun k ok hk hki hun hno => by
        refine hfree k ok hk hki ?_ hno
        by_cases hjk : j = k
        · subst hjk; exact hjun
        · rw [getD_set_ne true hjk] at hun; exact hun
      refine wpOp_mono (fun a' w' h3 => ?_) h2
      have hT : T ((listed.setIfInBounds j true).getD x true) ((listed.setIfInBounds j true).getD y true) w' := by
        have k := h3.2.1
        rw [Array.setIfInBounds_comm _ _ (Ne.symm hji), getD_set_ne true hix, getD_set_ne true hiy] at k
        exact k
      refine ⟨hT, ih (listed.setIfInBounds j true) a' w' hfree' (ready_mono hr (Ne.symm hji)) (by rw [getD_set_ne true hjz]; exact hK) h3.1 hT ?_⟩
      rw [Array.setIfInBounds_comm _ _ hji]
      exact h3.2.2

/-- Whether operation z waits for operation i. -/
def waits (md : Region.Mode) (ops : Array Oper) (z i : Nat) : Bool := match ops[z]? with | some o => o.after.any fun e => Region.binds md e && decide (e.on = i) | none => false
theorem waits_spec {i z : Nat} (h : waits md ops z i = true) : ∃ oz, ops[z]? = some oz ∧ ∃ e ∈ oz.after, Region.binds md e = true ∧ e.on = i := by
  unfold waits at h
  split at h
  · rename_i o ho
    rw [Array.any_eq_true] at h
    obtain ⟨k, hk, h⟩ := h
    rw [Bool.and_eq_true, decide_eq_true_iff] at h
    exact ⟨o, ho, _, Array.getElem_mem hk, h.1, h.2⟩
  · cases h

theorem wpAnyG_take {i : Nat} (z : Nat) (d2 d3 : Bool) {oi : Oper} {v : Value} {S0 : World → Prop} {fuel : Nat} {listed : Array Bool} {a : Act} {w : World} (hi : ops[i]? = some oi)
    (hs : Region.noSelect ops = true) (hf : Region.free md ops listed i = true) (hr : (Region.ready md ops listed).contains i = true)
    (hz : waits md ops z i = true) (hix : i ≠ x) (hiy : i ≠ y) (hK : listed.getD z true = false)
    (hS0 : ∀ (l : Array Bool) w, l.getD z true = false → T (l.getD x true) (l.getD y true) w → S0 w)
    (hQ : ∀ c a w, Q (.panic c) (a.put oi.dst v) w → Q (.panic c) a w) (hd2 : listed.getD x true = d2) (hd3 : listed.getD y true = d3) (hS : T d2 d3 w) (hy : YieldsIf P ops S0 oi v a)
    (h : wpAnyG P md ops Q x y T fuel (listed.setIfInBounds i true) (a.put oi.dst v) w) : wpAnyG P md ops Q x y T (fuel + 1) listed a w :=
  wpAnyG_first hi (Region.noSelect_spec hs) hQ (waits_spec hz) hix hiy hS0 fuel listed a w (Region.free_spec hi hf) (by simpa using hr) hK hy (by rw [hd2, hd3]; exact hS) h

def AllReadyG (P : Program) (md : Region.Mode) (ops : Array Oper) (Q : Exit → Act → World → Prop) (x y : Nat) (T : Bool → Bool → World → Prop) (fuel : Nat) (listed : Array Bool) (a : Act) (w : World) (rs : List Nat) : Prop :=
  ∀ i ∈ rs, wpOp P ops Q i (fun a' w' => T ((listed.setIfInBounds i true).getD x true) ((listed.setIfInBounds i true).getD y true) w' ∧ wpAnyG P md ops Q x y T fuel (listed.setIfInBounds i true) a' w') a w
theorem AllReadyG.nil {fuel : Nat} {listed : Array Bool} {a : Act} {w : World} : AllReadyG P md ops Q x y T fuel listed a w [] := fun _ h => by cases h
theorem AllReadyG.cons (d2 d3 : Bool) {fuel : Nat} {listed : Array Bool} {a : Act} {w : World} {i : Nat} {o : Oper} {rs : List Nat} (ho : ops[i]? = some o)
    (hd2 : (listed.setIfInBounds i true).getD x true = d2) (hd3 : (listed.setIfInBounds i true).getD y true = d3)
    (h : ∀ K' : Act → World → Prop, Shut (∀ a w, T d2 d3 w → (T d2 d3 w → wpAnyG P md ops Q x y T fuel (listed.setIfInBounds i true) a w) → K' a w) → if Region.wanted o (yielded ops a.tmps) = true then Oper.wp P o a w K' Q else K' (a.put o.dst undef) w)
    (hs : AllReadyG P md ops Q x y T fuel listed a w rs) : AllReadyG P md ops Q x y T fuel listed a w (i :: rs) := fun j hj => by
  rcases List.mem_cons.1 hj with rfl | hj
  · exact wpOp_step ho (fun K' hK => h K' (fun a w hS hW => hK a w ⟨by rw [hd2, hd3]; exact hS, hW hS⟩))
  · exact hs j hj
theorem wpAnyG_ready {rs : List Nat} {fuel : Nat} {listed : Array Bool} {a : Act} {w : World} (hr : Region.ready md ops listed = rs) (hne : rs ≠ [])
    (h : AllReadyG P md ops Q x y T fuel listed a w rs) : wpAnyG P md ops Q x y T (fuel + 1) listed a w := ⟨fun h0 => absurd (hr ▸ h0) hne, hr ▸ h⟩
theorem wpAnyG_done {listed : Array Bool} {a : Act} {w : World} (hr : Region.ready md ops listed = []) (h : Q .normal a w) : ∀ fuel, wpAnyG P md ops Q x y T fuel listed a w
  | 0 => ⟨hr, h⟩
  | _ + 1 => ⟨fun _ => h, by rw [hr]; simp⟩
theorem wp_region_G {id : Nat} {a : Act} {w : World} (x y : Nat) (T : Bool → Bool → World → Prop) (n : Nat) (l : Array Bool) (hn : ops.size = n) (hl : Array.replicate n false = l) (hm : P.follows .mixedOrders = true)
    (h : wpAnyG P .any ops Q x y T n l a w.drew) : (Code.region id ops true).wp P Q a w := by
  subst hn; subst hl; exact wp_region_any hm (wpAny_of_G _ _ _ _ h)
end

end Go.Proofs.YtomlfliebolkmaaDoor
