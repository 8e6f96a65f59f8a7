/-
  Sets of ids in an int: union, intersection, difference, one member; how many members of a committee answer. No walk.
-/
import Derived.Test.YtdknjfmjddlphaaMasks
set_option linter.unusedSimpArgs false
set_option linter.unusedVariables false
namespace Go.Proofs.Ytdknjfmjddlphaa
open Go Go.Fk

def bv (m : Int) : BitVec 64 := BitVec.ofInt 64 m
theorem bv_wrap (x : BitVec 64) : bv (IntKind.i64.wrap (x.toNat : Int)) = x := by
  apply BitVec.eq_of_toNat_eq
  unfold bv
  rw [BitVec.toNat_ofInt]
  have hx := x.isLt
  simp only [IntKind.wrap, IntKind.bits, IntKind.signed]
  simp
  split <;> omega
theorem bv_ior (a b : Int) : bv (ior a b) = bv a ||| bv b := bv_wrap _
theorem bv_iand (a b : Int) : bv (iand a b) = bv a &&& bv b := bv_wrap _
theorem bv_iandn (a b : Int) : bv (iandn a b) = bv a &&& ~~~(bv b) := bv_wrap _
theorem has_bv (m i : Int) : has_f m i = (decide (0 ≤ i) && decide (i < 10) && (bv m).getLsbD i.toNat) := by
  rw [has_iff]
  by_cases h0 : 0 ≤ i
  · by_cases h1 : i < 10
    · obtain ⟨k, rfl⟩ : ∃ k : Nat, i = k := ⟨i.toNat, by omega⟩
      have hk : k < 10 := by omega
      have hb : (bv m).getLsbD k = decide ((m % 18446744073709551616).toNat / 2 ^ k % 2 = 1) := by
        unfold bv BitVec.getLsbD
        rw [BitVec.toNat_ofInt, Nat.testBit_eq_decide_div_mod_eq]
        rfl
      simp only [Int.toNat_natCast, hb, h0, h1, decide_true, Bool.true_and]
      have : ((m / 2 ^ k) % 2 = 1) ↔ ((m % 18446744073709551616).toNat / 2 ^ k % 2 = 1) := by
        rcases (show k = 0 ∨ k = 1 ∨ k = 2 ∨ k = 3 ∨ k = 4 ∨ k = 5 ∨ k = 6 ∨ k = 7 ∨ k = 8 ∨ k = 9 by omega) with rfl | rfl | rfl | rfl | rfl | rfl | rfl | rfl | rfl | rfl <;> omega
      exact decide_eq_decide.2 this
    · simp [h1]
  · simp [h0]
theorem has_range {m i : Int} (h : has_f m i = true) : 0 ≤ i ∧ i < 10 := by
  rw [has_bv] at h
  simp only [Bool.and_eq_true, decide_eq_true_eq] at h
  exact h.1
theorem has_ior (a b i : Int) : has_f (ior a b) i = (has_f a i || has_f b i) := by
  rw [has_bv, has_bv, has_bv, bv_ior, BitVec.getLsbD_or]
  cases decide (0 ≤ i) <;> cases decide (i < 10) <;> rfl
theorem has_iand (a b i : Int) : has_f (iand a b) i = (has_f a i && has_f b i) := by
  rw [has_bv, has_bv, has_bv, bv_iand, BitVec.getLsbD_and]
  cases decide (0 ≤ i) <;> cases decide (i < 10) <;> cases (bv a).getLsbD i.toNat <;> cases (bv b).getLsbD i.toNat <;> rfl
theorem has_iandn (a b i : Int) : has_f (iandn a b) i = (has_f a i && !has_f b i) := by
  rw [has_bv, has_bv, has_bv, bv_iandn, BitVec.getLsbD_and, BitVec.getLsbD_not]
  by_cases h0 : 0 ≤ i
  · by_cases h1 : i < 10
    · have : decide (i.toNat < 64) = true := decide_eq_true (by omega)
      rw [this]; simp [h0, h1]
    · simp [h1]
  · simp [h0]
theorem has_zero (i : Int) : has_f 0 i = false := by
  rw [has_iff]
  simp
theorem has_one_table : ∀ s i : Fin 10, has_f (ishl 1 ((s.val : Nat) : Int)) ((i.val : Nat) : Int) = decide (i = s) := by decide +kernel
theorem has_ishl {s : Int} (h0 : 0 ≤ s) (h1 : s ≤ 9) (i : Int) : has_f (ishl 1 s) i = decide (i = s) := by
  by_cases hi0 : 0 ≤ i
  · by_cases hi1 : i < 10
    · have := has_one_table ⟨s.toNat, by omega⟩ ⟨i.toNat, by omega⟩
      simp only [Int.toNat_of_nonneg h0, Int.toNat_of_nonneg hi0] at this
      rw [this]
      exact decide_eq_decide.2 ⟨fun h => by have := congrArg Fin.val h; simp at this; omega, fun h => by apply Fin.ext; simp; omega⟩
    · rw [has_iff]
      have : ¬ i = s := by omega
      simp [hi1, this]
  · rw [has_iff]
    have : ¬ i = s := by omega
    simp [hi0, this]
theorem sub_of_iandn {a b : Int} (h : iandn a b = 0) {i : Int} (hi : has_f a i = true) : has_f b i = true := by
  have := has_iandn a b i
  rw [h, has_zero, hi] at this
  simpa using this.symm

/-! ### how many of a committee -/
def cnt (m : Int) (p : Int → Bool) : Nat := (ids_f m).countP p
theorem cnt_inter (m : Int) (p q : Int → Bool) : cnt m p + cnt m q ≤ cnt m (fun i => p i && q i) + (ids_f m).length := by
  unfold cnt
  induction ids_f m with
  | nil => simp
  | cons x t ih =>
    simp only [List.countP_cons, List.length_cons]
    cases p x <;> cases q x <;> simp <;> omega
theorem cnt_mono {m : Int} {p q : Int → Bool} (h : ∀ i, has_f m i = true → p i = true → q i = true) : cnt m p ≤ cnt m q := by
  unfold cnt
  refine List.countP_mono_left fun i hi hp => h i (mem_ids.1 hi) hp
theorem ids_nodup (m : Int) : (ids_f m).Nodup := by
  unfold ids_f
  refine List.Pairwise.filter _ ?_
  rw [List.pairwise_map]
  exact (List.nodup_iff_pairwise_ne.1 List.nodup_range).imp fun h e => h (by omega)
theorem cnt_le_size {m X : Int} {p : Int → Bool} (h : ∀ i, has_f m i = true → p i = true → has_f X i = true) : (cnt m p : Int) ≤ size_f X := by
  rw [size_ids]
  have : cnt m p ≤ (ids_f X).length := by
    unfold cnt
    rw [List.countP_eq_length_filter]
    refine List.Nodup.length_le_of_subset ((ids_nodup m).filter _) fun i hi => ?_
    rw [List.mem_filter] at hi
    exact mem_ids.2 (h i (mem_ids.1 hi.1) hi.2)
  omega
theorem size_le_cnt {m X : Int} {p : Int → Bool} (h : ∀ i, has_f X i = true → has_f m i = true ∧ p i = true) : size_f X ≤ (cnt m p : Int) := by
  rw [size_ids]
  have : (ids_f X).length ≤ cnt m p := by
    unfold cnt
    rw [List.countP_eq_length_filter]
    refine List.Nodup.length_le_of_subset (ids_nodup X) fun i hi => ?_
    have := h i (mem_ids.1 hi)
    exact List.mem_filter.2 ⟨mem_ids.2 this.1, this.2⟩
  omega
theorem size_inter {m X Y : Int} (hX : ∀ i, has_f X i = true → has_f m i = true) (hY : ∀ i, has_f Y i = true → has_f m i = true) {p : Int → Bool} (hp : ∀ i, has_f X i = true → has_f Y i = true → p i = true) : size_f X + size_f Y ≤ (cnt m p : Int) + size_f m := by
  have h1 : size_f X ≤ (cnt m (has_f X) : Int) := size_le_cnt fun i hi => ⟨hX i hi, hi⟩
  have h2 : size_f Y ≤ (cnt m (has_f Y) : Int) := size_le_cnt fun i hi => ⟨hY i hi, hi⟩
  have h3 := cnt_inter m (has_f X) (has_f Y)
  have h4 : cnt m (fun i => has_f X i && has_f Y i) ≤ cnt m p := cnt_mono fun i _ hi => by
    simp only [Bool.and_eq_true] at hi
    exact hp i hi.1 hi.2
  rw [size_ids m]
  omega
/-- a set with members has one -/
theorem size_pos {X : Int} (h : 0 < size_f X) : ∃ i, has_f X i = true := by
  rw [size_ids] at h
  cases he : ids_f X with
  | nil => rw [he] at h; simp at h
  | cons i t => exact ⟨i, mem_ids.1 (by rw [he]; simp)⟩
theorem size_some {m i : Int} (h : has_f m i = true) : 0 < size_f m := by
  rw [size_ids]
  have := List.length_pos_of_mem (mem_ids.2 h)
  omega
theorem quorum_pos {n : Int} (h : 0 < n) : 0 < quorum_f n := by
  unfold quorum_f
  have : ¬ n < 1 := by omega
  simp [this]
  omega
theorem third_le {n : Int} (h : 0 ≤ n) : third_f n ≤ 2 * quorum_f n - n := by
  unfold third_f quorum_f
  by_cases h1 : n < 1
  · simp [h1]; omega
  · simp [h1]; omega
end Go.Proofs.Ytdknjfmjddlphaa
