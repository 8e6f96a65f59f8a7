/-
  Layer 12: longer lists. No walk.
-/
import Derived.Test.YtdknjfmjddlphaaZd
set_option linter.unusedSimpArgs false
set_option linter.unusedVariables false
namespace Go.Proofs.Ytdknjfmjddlphaa
open Go Go.Fk

theorem grows_mem {l mm : List Vt} {x : Vt} : x ∈ ([] ++ mm) ++ l ++ mm ↔ x ∈ l ∨ x ∈ mm := by
  simp only [List.nil_append, List.mem_append]
  constructor
  · rintro ((h | h) | h)
    · exact Or.inr h
    · exact Or.inl h
    · exact Or.inr h
  · rintro (h | h)
    · exact Or.inl (Or.inr h)
    · exact Or.inr h
theorem grows1 (m : Int) (parent : Nm) (l mm : List Vt) (k : Nat) (h : k < (accepted_f m parent l).length) : (!((accepted_f m parent (([] ++ mm) ++ l ++ mm)).any (fun x => decide (x = (accepted_f m parent l)[k]!)))) = false := by
  have hm : (accepted_f m parent l)[k]! ∈ accepted_f m parent l := by rw [getElem!_pos _ k h]; exact List.getElem_mem h
  have := acc_mono (m := m) (parent := parent) (l' := ([] ++ mm) ++ l ++ mm) (fun x hx => grows_mem.2 (Or.inl hx)) _ hm
  have h2 : (accepted_f m parent (([] ++ mm) ++ l ++ mm)).any (fun x => decide (x = (accepted_f m parent l)[k]!)) = true := by rw [List.any_eq_true]; exact ⟨_, this, decide_eq_true rfl⟩
  rw [h2]; rfl
theorem grows2 (m : Int) (parent : Nm) (l mm : List Vt) (slot : Int) (k : Nat) (h : k < (outcomes_f m parent l slot).length) : ((!(decided_f m parent (([] ++ mm) ++ l ++ mm) (outcomes_f m parent l slot)[k]!)) || (!decide ((outcomes_f m parent l slot)[k]!.slot = slot))) = false := by
  have hm : (outcomes_f m parent l slot)[k]! ∈ outcomes_f m parent l slot := by rw [getElem!_pos _ k h]; exact List.getElem_mem h
  have hs := (mem_outcomes.1 hm).1
  have h2 : decided_f m parent (([] ++ mm) ++ l ++ mm) (outcomes_f m parent l slot)[k]! = true := by
    rw [decided_iff, hs]
    exact outcomes_mono (fun x hx => grows_mem.2 (Or.inl hx)) hm
  rw [h2, hs, decide_eq_true rfl]; rfl
theorem grows3 (m : Int) (parent : Nm) (l mm : List Vt) : decide (accepted_f m parent (([] ++ l) ++ mm) = accepted_f m parent (([] ++ mm) ++ l ++ mm)) = true := by
  refine decide_eq_true (acc_set fun x _ => ?_)
  rw [grows_mem]
  simp only [List.nil_append, List.mem_append]
end Go.Proofs.Ytdknjfmjddlphaa
