/-
  What justify.Allowed counts, and bounds that a valid vote keeps. No walk.
-/
import Derived.Test.YtdknjfmjddlphaaG4
import Derived.Test.YtdknjfmjddlphaaMasks
namespace Go.Proofs.Ytdknjfmjddlphaa
open Go Go.Fk

/-- the vote x counts when v is judged -/
def counts_f (m : Int) (v x : Vt) : Bool :=
  ((((valid_f x) && (decide (x.parent = v.parent))) && (decide (x.slot = v.slot))) && (decide (x.kind ≤ 4))) && (has_f m x.signer)
theorem between_iff {n lo hi : Int} : between_f n lo hi = true ↔ lo ≤ n ∧ n ≤ hi := by simp [between_f]
theorem valid_bounds {v : Vt} (h : valid_f v = true) : (1 ≤ v.kind ∧ v.kind ≤ 7) ∧ (0 ≤ v.signer ∧ v.signer ≤ 9) ∧ (0 ≤ v.slot ∧ v.slot ≤ 9) ∧ (0 ≤ v.round ∧ v.round ≤ 12) := by
  unfold valid_f at h
  cases h1 : (!(between_f v.kind 1 7)) || (!(between_f v.signer 0 9)) with
  | true => rw [h1] at h; simp at h
  | false =>
    rw [h1] at h
    simp only [Bool.or_eq_false_iff, Bool.not_eq_false', between_iff] at h1
    simp only [cond_false] at h
    cases h2 : ((decide (v.choice = 1)) == (decide (v.value = Nm.zero))) || (!decide ((iandn v.support 1023) = 0)) with
    | true => rw [h2] at h; simp at h
    | false =>
      rw [h2] at h
      simp only [cond_false] at h
      by_cases k1 : v.kind = 1
      · simp [k1, between_iff] at h; exact ⟨h1.1, h1.2, by omega, by omega⟩
      · by_cases k2 : v.kind = 2
        · simp [k2, between_iff] at h; exact ⟨h1.1, h1.2, by omega, by omega⟩
        · by_cases k3 : v.kind = 3
          · simp [k3, between_iff] at h; exact ⟨h1.1, h1.2, by omega, by omega⟩
          · by_cases k4 : v.kind = 4
            · simp [k4, between_iff] at h; exact ⟨h1.1, h1.2, by omega, by omega⟩
            · simp [k1, k2, k3, k4, between_iff] at h; exact ⟨h1.1, h1.2, by omega, by omega⟩
end Go.Proofs.Ytdknjfmjddlphaa
