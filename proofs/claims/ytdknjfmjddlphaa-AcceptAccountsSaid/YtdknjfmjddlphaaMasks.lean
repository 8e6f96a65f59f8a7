/-
  Sets of ids in an int: membership, size, the ids in order. No walk.
-/
import Derived.Test.YtdknjfmjddlphaaDefs1
namespace Go.Proofs.Ytdknjfmjddlphaa
open Go Go.Fk

theorem iand_low (m : Int) (k : Nat) (hk : k ≤ 62) : iand m (2 ^ k - 1) = m % 2 ^ k := by
  have hp : (2 : Int) ^ k ≤ 2 ^ 62 := by
    have := Nat.pow_le_pow_right (n := 2) (by decide) hk
    exact_mod_cast this
  have h1 : (1 : Int) ≤ 2 ^ k := by
    have := Nat.one_le_two_pow (n := k)
    exact_mod_cast this
  have e1 : (BitVec.ofInt 64 (2 ^ k - 1)).toNat = 2 ^ k - 1 := by
    rw [BitVec.toNat_ofInt]
    have : ((2 : Int) ^ k - 1) % ((2 ^ 64 : Nat) : Int) = 2 ^ k - 1 := Int.emod_eq_of_lt (by omega) (by omega)
    rw [this]
    have h2 : ((2 ^ k : Nat) : Int) = 2 ^ k := by simp
    omega
  show IntKind.i64.wrap (((BitVec.ofInt 64 m &&& BitVec.ofInt 64 (2 ^ k - 1)).toNat : Nat) : Int) = m % 2 ^ k
  rw [BitVec.toNat_and, e1, Nat.and_two_pow_sub_one_eq_mod, BitVec.toNat_ofInt]
  have hnn : 0 ≤ m % 2 ^ k := Int.emod_nonneg _ (by omega)
  have hlt : m % 2 ^ k < 2 ^ k := Int.emod_lt_of_pos _ (by omega)
  have hd : (2 : Int) ^ k ∣ ((2 ^ 64 : Nat) : Int) := by
    refine ⟨2 ^ (64 - k), ?_⟩
    rw [← Int.pow_add]
    have : k + (64 - k) = 64 := by omega
    rw [this]; rfl
  have e2 : (((m % ((2 ^ 64 : Nat) : Int)).toNat % 2 ^ k : Nat) : Int) = m % 2 ^ k := by
    have h0 : 0 ≤ m % ((2 ^ 64 : Nat) : Int) := Int.emod_nonneg _ (by decide)
    rw [Int.natCast_emod, Int.toNat_of_nonneg h0]
    simp only [Int.natCast_pow, Int.cast_ofNat_Int]
    exact Int.emod_emod_of_dvd m (by simpa using hd)
  rw [e2]
  exact wrap_in ⟨by omega, by omega⟩

theorem iand_one (m : Int) : iand m 1 = m % 2 := iand_low m 1 (by decide)
theorem iand_1023 (m : Int) : iand m 1023 = m % 1024 := iand_low m 10 (by decide)

theorem has_iff (m i : Int) : has_f m i = (decide (0 ≤ i) && decide (i < 10) && decide ((m / 2 ^ i.toNat) % 2 = 1)) := by
  unfold has_f
  rw [iand_one]

theorem has_mod (m i : Int) : has_f (m % 1024) i = has_f m i := by
  rw [has_iff, has_iff]
  by_cases h0 : 0 ≤ i
  · by_cases h1 : i < 10
    · obtain ⟨k, rfl⟩ : ∃ k : Nat, i = k := ⟨i.toNat, by omega⟩
      have hk : k < 10 := by omega
      simp only [Int.toNat_natCast]
      have : (m % 1024 / 2 ^ k) % 2 = (m / 2 ^ k) % 2 := by
        rcases (show k = 0 ∨ k = 1 ∨ k = 2 ∨ k = 3 ∨ k = 4 ∨ k = 5 ∨ k = 6 ∨ k = 7 ∨ k = 8 ∨ k = 9 by omega) with rfl | rfl | rfl | rfl | rfl | rfl | rfl | rfl | rfl | rfl <;> omega
      simp only [this]
    · simp [h1]
  · simp [h0]

theorem ids_mod (m : Int) : ids_f (m % 1024) = ids_f m := by
  unfold ids_f
  congr 1
  funext i
  exact has_mod m i
theorem size_mod (m : Int) : size_f (m % 1024) = size_f m := by
  unfold size_f
  rw [iand_1023, iand_1023, Int.emod_emod_of_dvd m (by decide)]
theorem size_table : ∀ k : Fin 1024, size_f ((k.val : Nat) : Int) = ((ids_f ((k.val : Nat) : Int)).length : Int) := by decide +kernel
theorem size_ids (m : Int) : size_f m = ((ids_f m).length : Int) := by
  rw [← size_mod, ← ids_mod]
  have h0 : 0 ≤ m % 1024 := Int.emod_nonneg _ (by decide)
  have h1 : m % 1024 < 1024 := Int.emod_lt_of_pos _ (by decide)
  have := size_table ⟨(m % 1024).toNat, by omega⟩
  simp only [Int.toNat_of_nonneg h0] at this
  exact this
theorem ids_len (m : Int) : (ids_f m).length ≤ 10 := by
  unfold ids_f
  refine Nat.le_trans (List.length_filter_le _ _) ?_
  simp
theorem size_nn (m : Int) : 0 ≤ size_f m := by rw [size_ids]; omega
theorem size_le (m : Int) : size_f m ≤ 10 := by rw [size_ids]; have := ids_len m; omega
theorem mem_ids {m i : Int} : i ∈ ids_f m ↔ has_f m i = true := by
  unfold ids_f
  rw [List.mem_filter]
  constructor
  · exact fun h => h.2
  · intro h
    refine ⟨?_, h⟩
    rw [has_iff] at h
    simp only [Bool.and_eq_true, decide_eq_true_eq] at h
    rw [List.mem_map]
    exact ⟨i.toNat, by rw [List.mem_range]; omega, by omega⟩
end Go.Proofs.Ytdknjfmjddlphaa
