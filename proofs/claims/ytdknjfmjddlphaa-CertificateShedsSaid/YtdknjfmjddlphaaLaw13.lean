/-
  Layer 13's laws. No walk.
-/
import Derived.Test.YtdknjfmjddlphaaCert6
import Derived.Test.YtdknjfmjddlphaaLaw12b
set_option linter.unusedSimpArgs false
set_option linter.unusedVariables false
namespace Go.Proofs.Ytdknjfmjddlphaa
open Go Go.Fk

theorem clo13_len (m : Int) (parent : Nm) (l : List Vt) (o : Oc) : (closure_f m parent l o).length ≤ l.length := by
  unfold closure_f
  cases decided_f m parent l o with
  | false => simp
  | true => exact Nat.le_trans reach_sublist.length_le (slot_len m parent l o.slot)
theorem out_at {m : Int} {parent : Nm} {l : List Vt} {slot : Int} {i : Nat} (h : i < (outcomes_f m parent l slot).length) : (outcomes_f m parent l slot)[i]! ∈ outcomes_f m parent l slot ∧ (outcomes_f m parent l slot)[i]!.slot = slot := by
  have hm : (outcomes_f m parent l slot)[i]! ∈ outcomes_f m parent l slot := by rw [getElem!_pos _ i h]; exact List.getElem_mem h
  exact ⟨hm, (outcome_quo hm).1⟩
theorem out_stands {m : Int} {parent : Nm} {l : List Vt} {slot : Int} {i : Nat} (h : i < (outcomes_f m parent l slot).length) : Stands m parent l (closure_f m parent l (outcomes_f m parent l slot)[i]!) (outcomes_f m parent l slot)[i]! := by
  obtain ⟨h1, h2⟩ := out_at h
  exact closure_stands (by rw [h2]; exact h1)
theorem out_decided {m : Int} {parent : Nm} {l : List Vt} {slot : Int} {i : Nat} (h : i < (outcomes_f m parent l slot).length) : decided_f m parent l (outcomes_f m parent l slot)[i]! = true := by
  obtain ⟨h1, h2⟩ := out_at h
  exact decided_iff.2 (by rw [h2]; exact h1)
theorem stands1 (m : Int) (parent : Nm) (l : List Vt) (slot : Int) (i : Nat) (h : i < (outcomes_f m parent l slot).length) :
    (((!(decided_f m parent l (outcomes_f m parent l slot)[i]!)) || (!(decided_f m parent (closure_f m parent l (outcomes_f m parent l slot)[i]!) (outcomes_f m parent l slot)[i]!))) || (!(decide ((accepted_f m parent (closure_f m parent l (outcomes_f m parent l slot)[i]!)) = (closure_f m parent l (outcomes_f m parent l slot)[i]!))))) = false := by
  have hs := out_stands h
  rw [out_decided h, decided_iff.2 hs.dec, hs.acc]
  simp
theorem stands2 (m : Int) (parent : Nm) (l : List Vt) (slot : Int) (i k : Nat) (h : i < (outcomes_f m parent l slot).length) (hk : k < (closure_f m parent l (outcomes_f m parent l slot)[i]!).length) :
    ((!((accepted_f m parent l).any (fun x => decide (x = (closure_f m parent l (outcomes_f m parent l slot)[i]!)[k]!)))) || (!decide (((closure_f m parent l (outcomes_f m parent l slot)[i]!)[k]!).slot = slot))) = false := by
  have hs := out_stands h
  have hm : (closure_f m parent l (outcomes_f m parent l slot)[i]!)[k]! ∈ closure_f m parent l (outcomes_f m parent l slot)[i]! := by rw [getElem!_pos _ k hk]; exact List.getElem_mem hk
  obtain ⟨h1, h2⟩ := hs.sub _ hm
  rw [(out_at h).2] at h2
  have : ((accepted_f m parent l).any (fun x => decide (x = (closure_f m parent l (outcomes_f m parent l slot)[i]!)[k]!))) = true := List.any_eq_true.2 ⟨_, h1, by simp⟩
  rw [this, h2]; simp
end Go.Proofs.Ytdknjfmjddlphaa
