/-
  Members torn by two lists: whoever has a vote in one that conflicts with a vote in the other. No walk.
-/
import Derived.Test.YtdknjfmjddlphaaLaw12b
set_option linter.unusedSimpArgs false
set_option linter.unusedVariables false
namespace Go.Proofs.Ytdknjfmjddlphaa
open Go Go.Fk
def torn17Step (x : Vt) (acc : Int) (y : Vt) : Int := bif (decide (x.signer = y.signer)) && (conflict_f x y) then ior acc (ishl 1 x.signer) else acc
def torn17_f (a b : List Vt) : Int := a.foldl (fun acc x => b.foldl (torn17Step x) acc) 0
theorem conflict_range {x y : Vt} (h : conflict_f x y = true) : 0 ≤ x.signer ∧ x.signer ≤ 9 := by
  unfold conflict_f at h
  simp only [Bool.and_eq_true] at h
  exact (valid_bounds h.1.2).2.1
theorem has_t17Step {x y : Vt} {acc i : Int} : has_f (torn17Step x acc y) i = true ↔ has_f acc i = true ∨ (x.signer = y.signer ∧ conflict_f x y = true ∧ i = x.signer) := by
  unfold torn17Step
  cases hc : (decide (x.signer = y.signer)) && (conflict_f x y) with
  | false =>
    simp only [cond_false]
    constructor
    · exact Or.inl
    · rintro (h | ⟨h1, h2, _⟩)
      · exact h
      · rw [decide_eq_true h1, h2] at hc; cases hc
  | true =>
    simp only [Bool.and_eq_true, decide_eq_true_eq] at hc
    have hr := conflict_range hc.2
    simp only [cond_true]
    rw [has_ior, Bool.or_eq_true, has_ishl hr.1 hr.2, decide_eq_true_eq]
    exact ⟨fun h => h.imp id fun e => ⟨hc.1, hc.2, e⟩, fun h => h.imp id fun e => e.2.2⟩
theorem has_t17Row {x : Vt} {i : Int} : ∀ (b : List Vt) (acc : Int), has_f (b.foldl (torn17Step x) acc) i = true ↔ has_f acc i = true ∨ ∃ y ∈ b, x.signer = y.signer ∧ conflict_f x y = true ∧ i = x.signer
  | [], acc => by simp
  | y :: t, acc => by
    rw [List.foldl_cons, has_t17Row t, has_t17Step]
    constructor
    · rintro ((h | h) | ⟨z, hz, h⟩)
      · exact Or.inl h
      · exact Or.inr ⟨y, by simp, h⟩
      · exact Or.inr ⟨z, by simp [hz], h⟩
    · rintro (h | ⟨z, hz, h⟩)
      · exact Or.inl (Or.inl h)
      · rcases List.mem_cons.1 hz with rfl | hz
        · exact Or.inl (Or.inr h)
        · exact Or.inr ⟨z, hz, h⟩
theorem has_t17 {i : Int} (b : List Vt) : ∀ (a : List Vt) (acc : Int), has_f (a.foldl (fun acc x => b.foldl (torn17Step x) acc) acc) i = true ↔ has_f acc i = true ∨ ∃ x ∈ a, ∃ y ∈ b, x.signer = y.signer ∧ conflict_f x y = true ∧ i = x.signer
  | [], acc => by simp
  | x :: t, acc => by
    rw [List.foldl_cons, has_t17 b t, has_t17Row]
    constructor
    · rintro ((h | h) | ⟨z, hz, h⟩)
      · exact Or.inl h
      · exact Or.inr ⟨x, by simp, h⟩
      · exact Or.inr ⟨z, by simp [hz], h⟩
    · rintro (h | ⟨z, hz, h⟩)
      · exact Or.inl (Or.inl h)
      · rcases List.mem_cons.1 hz with rfl | hz
        · exact Or.inl (Or.inr h)
        · exact Or.inr ⟨z, hz, h⟩
theorem has_torn17 {a b : List Vt} {i : Int} : has_f (torn17_f a b) i = true ↔ ∃ x ∈ a, ∃ y ∈ b, x.signer = y.signer ∧ conflict_f x y = true ∧ i = x.signer := by
  unfold torn17_f
  rw [has_t17, has_zero]
  simp
end Go.Proofs.Ytdknjfmjddlphaa
