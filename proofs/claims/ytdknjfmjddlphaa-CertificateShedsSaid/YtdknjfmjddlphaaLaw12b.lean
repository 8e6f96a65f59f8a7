/-
  Layer 12's laws over lists: slots apart, conflicting votes counted, one value. No walk.
-/
import Derived.Test.YtdknjfmjddlphaaZd
set_option linter.unusedSimpArgs false
set_option linter.unusedVariables false
namespace Go.Proofs.Ytdknjfmjddlphaa
open Go Go.Fk

theorem any_take_go {α : Type} [Inhabited α] {l : List α} {p : α → Bool} {k : Nat} (hk : k < l.length) : (l.take (k + 1)).any p = ((l.take k).any p || p l[k]!) := by
  rw [take_bang hk, List.any_append]; simp
theorem apart_same {m : Int} {parent : Nm} {l : List Vt} {slot : Int} : decide (outcomes_f m parent (l.filter (fun x => (decide (x.slot = slot) && decide (x.parent = parent)) && decide (x.kind ≤ 4))) slot = outcomes_f m parent l slot) = true := by
  refine decide_eq_true (outcomes_set fun x hp hs hk => ?_)
  rw [List.mem_filter]
  simp [hp, hs, hk]
/-- what a pair of votes adds to the members with conflicting votes -/
def tornStep (m : Int) (parent : Nm) (x : Vt) (acc : Int) (y : Vt) : Int := bif (((decide (x.signer = y.signer)) && (decide (x.parent = parent))) && (conflict_f x y)) && (has_f m x.signer) then ior acc (ishl 1 x.signer) else acc
def torn_f (m : Int) (parent : Nm) (a b : List Vt) : Int := a.foldl (fun acc x => b.foldl (tornStep m parent x) acc) 0
theorem has_tornStep {m : Int} {parent : Nm} {x y : Vt} {acc i : Int} : has_f (tornStep m parent x acc y) i = true ↔ has_f acc i = true ∨ (x.signer = y.signer ∧ x.parent = parent ∧ conflict_f x y = true ∧ has_f m x.signer = true ∧ i = x.signer) := by
  unfold tornStep
  cases hc : (((decide (x.signer = y.signer)) && (decide (x.parent = parent))) && (conflict_f x y)) && (has_f m x.signer) with
  | false =>
    simp only [cond_false]
    constructor
    · exact Or.inl
    · rintro (h | ⟨h1, h2, h3, h4, _⟩)
      · exact h
      · simp [h1, h2, h3] at hc
        rw [h1, hc] at h4; cases h4
  | true =>
    simp only [Bool.and_eq_true, decide_eq_true_eq] at hc
    obtain ⟨⟨⟨h1, h2⟩, h3⟩, h4⟩ := hc
    have hr := has_range h4
    simp only [cond_true]
    rw [has_ior, Bool.or_eq_true, has_ishl hr.1 (by omega), decide_eq_true_eq]
    exact ⟨fun h => h.imp id fun e => ⟨h1, h2, h3, h4, e⟩, fun h => h.imp id fun e => e.2.2.2.2⟩
theorem has_tornRow {m : Int} {parent : Nm} {x : Vt} {i : Int} : ∀ (b : List Vt) (acc : Int), has_f (b.foldl (tornStep m parent x) acc) i = true ↔ has_f acc i = true ∨ ∃ y ∈ b, x.signer = y.signer ∧ x.parent = parent ∧ conflict_f x y = true ∧ has_f m x.signer = true ∧ i = x.signer
  | [], acc => by simp
  | y :: t, acc => by
    rw [List.foldl_cons, has_tornRow t, has_tornStep]
    constructor
    · rintro ((h | h) | ⟨z, hz, h⟩)
      · exact Or.inl h
      · exact Or.inr ⟨y, by simp, h⟩
      · exact Or.inr ⟨z, by simp [hz], h⟩
    · rintro (h | ⟨z, hz, h⟩)
      · exact Or.inl (Or.inl h)
      · rcases List.mem_cons.1 hz with rfl | hz
        · exact Or.inl (Or.inr h)
        · exact Or.inr ⟨z, hz, h⟩
theorem has_torn' {m : Int} {parent : Nm} {i : Int} (b : List Vt) : ∀ (a : List Vt) (acc : Int), has_f (a.foldl (fun acc x => b.foldl (tornStep m parent x) acc) acc) i = true ↔ has_f acc i = true ∨ ∃ x ∈ a, ∃ y ∈ b, x.signer = y.signer ∧ x.parent = parent ∧ conflict_f x y = true ∧ has_f m x.signer = true ∧ i = x.signer
  | [], acc => by simp
  | x :: t, acc => by
    rw [List.foldl_cons, has_torn' b t, has_tornRow]
    constructor
    · rintro ((h | h) | ⟨z, hz, h⟩)
      · exact Or.inl h
      · exact Or.inr ⟨x, by simp, h⟩
      · exact Or.inr ⟨z, by simp [hz], h⟩
    · rintro (h | ⟨z, hz, h⟩)
      · exact Or.inl (Or.inl h)
      · rcases List.mem_cons.1 hz with rfl | hz
        · exact Or.inl (Or.inr h)
        · exact Or.inr ⟨z, hz, h⟩
theorem has_torn {m : Int} {parent : Nm} {a b : List Vt} {i : Int} : has_f (torn_f m parent a b) i = true ↔ ∃ x ∈ a, ∃ y ∈ b, x.signer = y.signer ∧ x.parent = parent ∧ conflict_f x y = true ∧ has_f m x.signer = true ∧ i = x.signer := by
  unfold torn_f
  rw [has_torn', has_zero]
  simp
def unl (x y : Oc) : Bool := (!decide (x.choice = y.choice)) || (!decide (x.value = y.value))
theorem quorum_bounds (m : Int) : 0 ≤ quorum_f (size_f m) ∧ quorum_f (size_f m) ≤ 10 := by
  have h1 := size_nn m
  have h2 := size_le m
  unfold quorum_f
  by_cases h : size_f m < 1
  · simp [h]
  · simp [h]; omega
/-- unlike outcomes: the conflicting votes of a and b are at least 2 q - n -/
theorem torn_ge {m : Int} {parent : Nm} {l l' a b : List Vt} {slot : Int} {o o' : Oc} (h : o ∈ outcomes_f m parent l slot) (h' : o' ∈ outcomes_f m parent l' slot) (hne : ¬ (o'.choice = o.choice ∧ o'.value = o.value)) (ha : ∀ x ∈ accepted_f m parent l, x ∈ a) (hb : ∀ x ∈ accepted_f m parent l', x ∈ b) :
    2 * quorum_f (size_f m) - size_f m ≤ size_f (torn_f m parent a b) := by
  have := outcomes_unlike h h' hne (t := has_f (torn_f m parent a b)) fun i hi x hx y hy e1 e2 _ _ hc => has_torn.2 ⟨x, ha x hx, y, hb y hy, e1.trans e2.symm, (acc_sub hx).1, hc, by rw [e1]; exact hi, e1.symm⟩
  exact Int.le_trans this (cnt_le_size fun _ _ h => h)
theorem accounts12 {m : Int} {parent : Nm} {l l' : List Vt} {slot : Int} (h : ((outcomes_f m parent l slot).any fun x => (outcomes_f m parent l' slot).any (unl x)) = true) :
    decide (2 * quorum_f (size_f m) - size_f m ≤ size_f (torn_f m parent (accepted_f m parent l) (accepted_f m parent l'))) = true ∧ decide (third_f (size_f m) ≤ size_f (torn_f m parent (accepted_f m parent l) (accepted_f m parent l'))) = true := by
  rw [List.any_eq_true] at h
  obtain ⟨x, hx, h⟩ := h
  rw [List.any_eq_true] at h
  obtain ⟨y, hy, h⟩ := h
  have hne : ¬ (y.choice = x.choice ∧ y.value = x.value) := fun ⟨e1, e2⟩ => by unfold unl at h; simp [e1, e2] at h
  have h1 := torn_ge hx hy hne (fun _ h => h) (fun _ h => h)
  have h2 := third_le (size_nn m)
  exact ⟨decide_eq_true h1, decide_eq_true (by omega)⟩
theorem agrees12 {m : Int} {parent : Nm} {l : List Vt} {slot : Int} {k : Nat} (h : decide (third_f (size_f m) ≤ size_f (torn_f m parent l l)) = false) (hk : k < (outcomes_f m parent l slot).length) : ((!decide ((outcomes_f m parent l slot)[k]!.choice = (outcomes_f m parent l slot)[0]!.choice)) || (!decide ((outcomes_f m parent l slot)[k]!.value = (outcomes_f m parent l slot)[0]!.value))) = false := by
  have h0 : 0 < (outcomes_f m parent l slot).length := by omega
  have m1 : (outcomes_f m parent l slot)[k]! ∈ outcomes_f m parent l slot := by rw [getElem!_pos _ k hk]; exact List.getElem_mem hk
  have m2 : (outcomes_f m parent l slot)[0]! ∈ outcomes_f m parent l slot := by rw [getElem!_pos _ 0 h0]; exact List.getElem_mem h0
  by_cases hc : (outcomes_f m parent l slot)[k]!.choice = (outcomes_f m parent l slot)[0]!.choice ∧ (outcomes_f m parent l slot)[k]!.value = (outcomes_f m parent l slot)[0]!.value
  · rw [hc.1, hc.2, decide_eq_true rfl, decide_eq_true rfl]; rfl
  · exfalso
    have h1 := torn_ge m2 m1 hc (a := l) (b := l) (fun _ h => (acc_sub h).2) (fun _ h => (acc_sub h).2)
    have h2 := third_le (size_nn m)
    rw [decide_eq_false_iff_not] at h
    omega
end Go.Proofs.Ytdknjfmjddlphaa
