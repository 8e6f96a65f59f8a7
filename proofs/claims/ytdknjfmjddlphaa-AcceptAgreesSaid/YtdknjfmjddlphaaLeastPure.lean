/-
  Layer 12: the accepted votes are reached one after the other. No walk.
-/
import Derived.Test.YtdknjfmjddlphaaLaw12Pure
set_option linter.unusedSimpArgs false
set_option linter.unusedVariables false
namespace Go.Proofs.Ytdknjfmjddlphaa
open Go Go.Fk

/-- one step of the law's row: the vote, if it is new and allowed by the row -/
def leastStep (m : Int) (s : List Vt × Bool) (v : Vt) : List Vt × Bool := bif (!(s.1.any (fun x => decide (x = v)))) && (allowed_f m v s.1) then (s.1 ++ [v], true) else s
theorem least_go (m : Int) (a : List Vt) (ha : Asc voteLess_f a) (hj : ∀ pre v post, a = pre ++ v :: post → allowed_f m v pre = true) : ∀ k, k ≤ a.length → (a.take k).foldl (leastStep m) ([], false) = (a.take k, decide (0 < k))
  | 0, _ => rfl
  | k + 1, hk => by
    rw [fold_go (by omega), least_go m a ha hj k (by omega)]
    have e : a = a.take k ++ a[k]! :: a.drop (k + 1) := by
      rw [getElem!_pos a k (by omega), ← List.drop_eq_getElem_cons (by omega), List.take_append_drop]
    have h1 := hj _ _ _ e
    have h2 : (a.take k).any (fun x => decide (x = a[k]!)) = false := by
      rw [List.any_eq_false]
      intro x hx hc
      simp only [decide_eq_true_eq] at hc
      rw [e] at ha
      have := (List.pairwise_append.1 ha).2.2 x hx a[k]! (by simp)
      rw [hc, vote_lin.irrefl] at this
      cases this
    unfold leastStep
    simp only [h1, h2]
    rw [take_bang (by omega)]
    simp
theorem least_stay (m : Int) (a : List Vt) : ∀ k, k ≤ a.length → (a.take k).foldl (leastStep m) (a, false) = (a, false)
  | 0, _ => rfl
  | k + 1, hk => by
    rw [fold_go (by omega), least_stay m a k (by omega)]
    have : a.any (fun x => decide (x = a[k]!)) = true := by
      rw [List.any_eq_true]
      exact ⟨a[k]!, by rw [getElem!_pos a k (by omega)]; exact List.getElem_mem (by omega), by simp⟩
    unfold leastStep
    simp only [this]; rfl
theorem least1 (m : Int) (parent : Nm) (l : List Vt) : (accepted_f m parent l).foldl (leastStep m) ([], false) = (accepted_f m parent l, decide (0 < (accepted_f m parent l).length)) := by
  have := least_go m _ (acc_asc m parent l) (fix_accepted m parent l).just _ (Nat.le_refl _)
  rw [List.take_length] at this
  exact this
theorem least2 (m : Int) (a : List Vt) : a.foldl (leastStep m) (a, false) = (a, false) := by
  have := least_stay m a _ (Nat.le_refl _)
  rw [List.take_length] at this
  exact this
theorem leastStep_len (m : Int) (s : List Vt × Bool) (v : Vt) : (leastStep m s v).1.length ≤ s.1.length + 1 := by
  unfold leastStep
  cases (!(s.1.any (fun x => decide (x = v)))) && (allowed_f m v s.1) <;> simp
theorem least_len (m : Int) : ∀ (l : List Vt) (s : List Vt × Bool), (l.foldl (leastStep m) s).1.length ≤ s.1.length + l.length
  | [], _ => by simp
  | v :: t, s => by
    have h1 := leastStep_len m s v
    have h2 := least_len m t (leastStep m s v)
    simp only [List.foldl_cons, List.length_cons]; omega
theorem least_next {m : Int} {parent : Nm} {l : List Vt} {n : Nat} {row row2 : List Vt} {grew grew2 : Bool} (hn : (n = 2 ∧ row = [] ∧ grew = true) ∨ (n = 1 ∧ row = accepted_f m parent l) ∨ (n = 0 ∧ row = accepted_f m parent l ∧ grew = false)) (hg : grew = true) (hst : (accepted_f m parent l).foldl (leastStep m) (row, false) = (row2, grew2)) :
    (n - 1 = 2 ∧ row2 = [] ∧ grew2 = true) ∨ (n - 1 = 1 ∧ row2 = accepted_f m parent l) ∨ (n - 1 = 0 ∧ row2 = accepted_f m parent l ∧ grew2 = false) := by
  rcases hn with ⟨e, e2, _⟩ | ⟨e, e2⟩ | ⟨_, _, e⟩
  · subst e2
    rw [least1] at hst
    injection hst with h1 h2
    exact Or.inr (Or.inl ⟨by omega, h1.symm⟩)
  · subst e2
    rw [least2] at hst
    injection hst with h1 h2
    exact Or.inr (Or.inr ⟨by omega, h1.symm, h2.symm⟩)
  · rw [hg] at e; cases e
theorem least_next_len {m : Int} {parent : Nm} {l : List Vt} {n : Nat} {row row2 : List Vt} {grew grew2 : Bool} (hn : (n = 2 ∧ row = [] ∧ grew = true) ∨ (n = 1 ∧ row = accepted_f m parent l) ∨ (n = 0 ∧ row = accepted_f m parent l ∧ grew = false)) (hg : grew = true) (hst : (accepted_f m parent l).foldl (leastStep m) (row, false) = (row2, grew2)) : row2.length ≤ (accepted_f m parent l).length := by
  rcases least_next hn hg hst with ⟨_, e, _⟩ | ⟨_, e⟩ | ⟨_, e, _⟩
  · rw [e]; simp
  · rw [e]; exact Nat.le_refl _
  · rw [e]; exact Nat.le_refl _
theorem least_out {m : Int} {parent : Nm} {l : List Vt} {n : Nat} {row : List Vt} {grew : Bool} (hn : (n = 2 ∧ row = [] ∧ grew = true) ∨ (n = 1 ∧ row = accepted_f m parent l) ∨ (n = 0 ∧ row = accepted_f m parent l ∧ grew = false)) (hg : grew = false) : row = accepted_f m parent l := by
  rcases hn with ⟨_, _, e⟩ | ⟨_, e⟩ | ⟨_, e, _⟩
  · rw [hg] at e; cases e
  · exact e
  · exact e
end Go.Proofs.Ytdknjfmjddlphaa
