/-
  Sets of ids that lie in the low ten bits. No walk.
-/
import Derived.Test.YtdknjfmjddlphaaZd
import Derived.Test.YtdknjfmjddlphaaDefs5
set_option linter.unusedSimpArgs false
set_option linter.unusedVariables false
namespace Go.Proofs.Ytdknjfmjddlphaa
open Go Go.Fk

def Low (x : Int) : Prop := 0 ≤ x ∧ x < 1024
theorem bv_low {x : Int} (h : Low x) : (bv x).toNat = x.toNat ∧ (bv x).toNat < 2 ^ 10 := by
  unfold bv
  rw [BitVec.toNat_ofInt]
  obtain ⟨h0, h1⟩ := h
  have e : x % ((2 ^ 64 : Nat) : Int) = x := Int.emod_eq_of_lt h0 (by omega)
  rw [e]
  exact ⟨rfl, by omega⟩
theorem wrap_low {n : Nat} (h : n < 1024) : IntKind.i64.wrap (n : Int) = n := wrap_in ⟨by omega, by omega⟩
theorem low_ior {a b : Int} (ha : Low a) (hb : Low b) : Low (ior a b) := by
  have h : (bv a ||| bv b).toNat < 2 ^ 10 := by
    rw [BitVec.toNat_or]
    exact Nat.or_lt_two_pow (bv_low ha).2 (bv_low hb).2
  have e : ior a b = ((bv a ||| bv b).toNat : Int) := wrap_low h
  rw [e]
  exact ⟨by omega, by omega⟩
theorem low_ishl_table : ∀ s : Fin 10, 0 ≤ ishl 1 ((s.val : Nat) : Int) ∧ ishl 1 ((s.val : Nat) : Int) < 1024 := by decide +kernel
theorem low_ishl {s : Int} (h0 : 0 ≤ s) (h1 : s ≤ 9) : Low (ishl 1 s) := by
  have := low_ishl_table ⟨s.toNat, by omega⟩
  simp only [Int.toNat_of_nonneg h0] at this
  exact this
theorem low_zero : Low 0 := ⟨by omega, by omega⟩
theorem low_bit {x : Int} (h : Low x) {i : Nat} (hi : 10 ≤ i) : (bv x).getLsbD i = false := by
  unfold BitVec.getLsbD
  exact Nat.testBit_lt_two_pow (Nat.lt_of_lt_of_le (bv_low h).2 (Nat.pow_le_pow_right (by decide) hi))
theorem iandn_sub {e m : Int} (h : ∀ i, has_f e i = true → has_f m i = true) (he : Low e) : iandn e m = 0 := by
  have hz : bv e &&& ~~~(bv m) = 0 := by
    apply BitVec.eq_of_getLsbD_eq
    intro i hi
    rw [BitVec.getLsbD_and, BitVec.getLsbD_not]
    by_cases h10 : i < 10
    · cases hb : (bv e).getLsbD i with
      | false => simp
      | true =>
        have h1 : has_f e (i : Int) = true := by rw [has_bv]; simp [hb]; omega
        have h2 := h _ h1
        rw [has_bv] at h2
        simp only [Bool.and_eq_true] at h2
        have h3 := h2.2
        simp only [Int.toNat_natCast] at h3
        rw [h3]; simp
    · rw [low_bit he (by omega)]; simp
  show IntKind.i64.wrap (((bv e &&& ~~~(bv m)).toNat : Nat) : Int) = 0
  rw [hz]; rfl
/-- two sets in the low bits with one membership are one -/
theorem low_ext {a b : Int} (ha : Low a) (hb : Low b) (h : ∀ i, has_f a i = has_f b i) : a = b := by
  have e : bv a = bv b := by
    apply BitVec.eq_of_getLsbD_eq
    intro i hi
    by_cases h10 : i < 10
    · have := h (i : Int)
      rw [has_bv, has_bv] at this
      simp only [Int.toNat_natCast] at this
      have h0 : decide ((0 : Int) ≤ (i : Int)) = true := decide_eq_true (by omega)
      have h1 : decide ((i : Int) < 10) = true := decide_eq_true (by omega)
      rw [h0, h1] at this
      simpa using this
    · rw [low_bit ha (by omega), low_bit hb (by omega)]
  have h1 := (bv_low ha).1
  have h2 := (bv_low hb).1
  rw [e] at h1
  obtain ⟨a0, _⟩ := ha
  obtain ⟨b0, _⟩ := hb
  omega
theorem low_mget {K : Type} [DecidableEq K] {l : List (K × Int)} (h : ∀ p ∈ l, Low p.2) (x : K) : Low (mget l x) := by
  unfold mget
  cases hf : l.find? (fun p => decide (p.1 = x)) with
  | none => exact low_zero
  | some p => exact h p (List.mem_of_find?_eq_some hf)
theorem low_mput {K : Type} [DecidableEq K] {l : List (K × Int)} (h : ∀ p ∈ l, Low p.2) {x : K} {v : Int} (hv : Low v) : ∀ p ∈ mput l x v, Low p.2 := fun p hp => by
  rcases mput_mem.1 hp with rfl | ⟨_, hp⟩
  · exact hv
  · exact h p hp
theorem low_sg (kind : Int) : ∀ (A : List Vt) (l : List (Nm × Int)), (∀ w ∈ A, 0 ≤ w.signer ∧ w.signer ≤ 9) → (∀ p ∈ l, Low p.2) → ∀ p ∈ A.foldl (sgStep kind) l, Low p.2
  | [], l, _, h => h
  | v :: t, l, hA, h => by
    rw [List.foldl_cons]
    refine low_sg kind t _ (fun w hw => hA w (by simp [hw])) ?_
    unfold sgStep
    cases decide (v.kind = kind)
    · exact h
    · have hb := hA v (by simp)
      exact low_mput h (low_ior (low_mget h _) (low_ishl hb.1 hb.2))
theorem slots_sigs {m : Int} {parent : Nm} {l : List Vt} {slot : Int} : ∀ w ∈ slots_f m parent l slot, 0 ≤ w.signer ∧ w.signer ≤ 9 := fun w hw => (acc_signers hw).2
theorem echoers_small (m : Int) (parent : Nm) (l : List Vt) (slot : Int) (x : Nm) : Low (echoers_f m parent l slot x) := low_mget (low_sg 2 _ _ slots_sigs (by simp)) x
theorem size_low (x : Int) : Low (x % 1024) := ⟨Int.emod_nonneg _ (by decide), Int.emod_lt_of_pos _ (by decide)⟩
end Go.Proofs.Ytdknjfmjddlphaa
