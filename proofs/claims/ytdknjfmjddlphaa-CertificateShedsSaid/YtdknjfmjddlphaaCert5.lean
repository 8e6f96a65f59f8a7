/-
  The closure of a decision: accepted by itself alone, decides the same, is its own closure. No walk.
-/
import Derived.Test.YtdknjfmjddlphaaCert4
set_option linter.unusedSimpArgs false
set_option linter.unusedVariables false
namespace Go.Proofs.Ytdknjfmjddlphaa
open Go Go.Fk

section
variable {m s : Int} {P : Nm} {S C : List Vt} {v x y : Vt}
def rank (v : Vt) : Int := v.round * 5 + v.kind
theorem mem_sup {kind round : Int} (h : y ∈ sup_n S v kind round) : y.kind = kind ∧ y.round = round := by
  obtain ⟨i, _, hi⟩ := List.mem_filterMap.1 h
  have := List.find?_some (p := fun x => supp1_f x i v kind round) hi
  unfold supp1_f at this
  rw [Bool.and_eq_true, like_iff] at this
  exact ⟨this.2.1, this.2.2.1⟩
theorem mem_lm {round i : Int} (h : lm_g S round i = some y) : y.kind = 4 ∧ y.round = round := by
  have := List.find?_some (p := fun x => lm1_f x i round) h
  unfold lm1_f at this
  simp only [Bool.and_eq_true, decide_eq_true_eq] at this
  exact ⟨this.1.1.2, this.1.2⟩
theorem mem_mix {i : Int} (h : mix_g S v i = some y) : y.kind = 3 ∧ y.round = v.round := by
  have := List.find?_some (p := fun x => mix1_f x i v) h
  unfold mix1_f at this
  simp only [Bool.and_eq_true, decide_eq_true_eq] at this
  exact ⟨this.1.2, this.2⟩
/-- what a vote needs comes earlier -/
theorem expand_rank (hv : valid_f v = true) (hk : v.kind ≤ 4) (h : y ∈ expand_n m S v) : rank y < rank v := by
  have hvk := (valid_bounds hv).1
  by_cases k1 : v.kind = 1
  · exfalso
    unfold expand_n at h
    simp [k1] at h
  · by_cases k2 : v.kind = 2
    · rw [expand2 k2] at h
      have h1 := (mem_toList_find h).2
      have h2 := like_iff.1 (show like_f y v 1 0 = true from h1)
      have h3 := valid_round0 hv (Or.inr k2)
      unfold rank; omega
    · by_cases k3 : v.kind = 3
      · by_cases hr : v.round = 1
        · rw [expand3a k3 hr] at h
          have := mem_sup h
          unfold rank; omega
        · rw [expand3b k3 hr] at h
          unfold later_n at h
          cases hc : adopts_f m S v with
          | true =>
            rw [hc, cond_true] at h
            obtain ⟨i, _, hi⟩ := List.mem_filterMap.1 h
            unfold la_g at hi
            cases hf : S.find? (fun x => later1_f x i v) with
            | some u =>
              rw [hf] at hi; cases hi
              have := List.find?_some (p := fun x => later1_f x i v) hf
              unfold later1_f at this
              rw [Bool.and_eq_true, like_iff] at this
              have h1 := this.2.1; have h2 := this.2.2.1
              unfold rank; omega
            | none =>
              rw [hf] at hi
              have := mem_lm hi
              unfold rank; omega
          | false =>
            rw [hc, cond_false, List.mem_append] at h
            rcases h with h | h
            · obtain ⟨i, _, hi⟩ := List.mem_filterMap.1 h
              have := mem_lm hi
              unfold rank; omega
            · have h2 := like_iff.1 (show like_f y v 3 (v.round - 1) = true from (mem_toList_find h).2)
              have h3 := h2.1; have h4 := h2.2.1
              unfold rank; omega
      · have k4 : v.kind = 4 := by omega
        by_cases hc : v.choice = 2
        · rw [expand4m k4 hc] at h
          unfold mixed_n at h
          rw [List.mem_append] at h
          rcases h with h | h
          · obtain ⟨i, _, hi⟩ := List.mem_filterMap.1 h
            have := mem_mix hi
            unfold rank; omega
          · cases hd : (ids_f v.support).any (mixDiff S v (mixFirst S v (ids_f v.support))) with
            | true => rw [hd, cond_true] at h; cases h
            | false =>
              rw [hd, cond_false] at h
              have h1 := (mem_toList_find h).2
              unfold mix2_f at h1
              simp only [Bool.and_eq_true, decide_eq_true_eq] at h1
              have h2 := h1.1.1.1; have h3 := h1.1.1.2
              unfold rank; omega
        · rw [expand4 k4 hc] at h
          have := mem_sup h
          unfold rank; omega
/-- a part of the accepted votes of a slot that has what its votes need is accepted by itself -/
theorem closed_accepted {parent : Nm} {l : List Vt} {slot : Int} (hC : ∀ x ∈ C, x ∈ inSlot m parent l slot) (hn : ∀ x ∈ C, ∀ y ∈ expand_n m (inSlot m parent l slot) x, y ∈ C) : ∀ v ∈ C, v ∈ accepted_f m parent C := by
  have hS := fit_slot m parent l slot
  have hal : ∀ v ∈ inSlot m parent l slot, allowed_f m v (inSlot m parent l slot) = true := fun v hv => by
    obtain ⟨h1, h2⟩ := List.mem_filter.1 hv
    rw [decide_eq_true_eq] at h2
    unfold inSlot
    rw [allowed_slot h2]
    exact acc_mem_allowed h1
  have key : ∀ n : Nat, ∀ v ∈ C, (rank v).toNat ≤ n → v ∈ accepted_f m parent C := by
    intro n
    induction n with
    | zero =>
      intro v hv hr
      exfalso
      have hb := valid_bounds (hS v (hC v hv)).1
      unfold rank at hr
      omega
    | succ n ih =>
      intro v hv hr
      have hvS := hC v hv
      refine acc_closed (hS v hvS).2.1 hv ?_
      refine needs_allow hS hvS (fun x hx => hC x (acc_sub hx).2) (fun y hy => ?_) (hal v hvS)
      have hyC := hn v hv y hy
      have hlt := expand_rank (hS v hvS).1 (hS v hvS).2.2.2.1 hy
      have hb := valid_bounds (hS y (hC y hyC)).1
      refine ih y hyC ?_
      have : 0 ≤ rank y := by unfold rank; omega
      omega
  exact fun v hv => key _ v hv (Nat.le_refl _)
/-! ### the seeds -/
theorem seed_grows {g : Int → Option Vt} {q : Int} : ∀ (L : List Int) (st : Int × List Vt), (∀ z ∈ st.2, z ∈ (L.foldl (seedStep g q) st).2) := by
  intro L
  induction L with
  | nil => intro st z hz; exact hz
  | cons i r ih =>
    intro st z hz
    rw [List.foldl_cons]
    refine ih _ z ?_
    unfold seedStep
    cases decide (st.1 < q) with
    | false => exact hz
    | true => exact List.mem_append_left _ hz
def took (g : Int → Option Vt) (X : List Vt) (i : Int) : Bool := (g i).any fun z => decide (z ∈ X)
/-- either all are taken that there are, or a quorum -/
theorem seed_count {g : Int → Option Vt} {q : Int} : ∀ (L : List Int) (st : Int × List Vt), L.Nodup →
    (let f := L.foldl (seedStep g q) st; (f.1 < q → ∀ i ∈ L, ∀ z, g i = some z → z ∈ f.2) ∧ f.1 ≤ st.1 + ((L.countP (took g f.2) : Nat) : Int) ∧ st.1 ≤ f.1) := by
  intro L
  induction L with
  | nil => intro st _; simp
  | cons i r ih =>
    intro st hn
    obtain ⟨_, hn2⟩ := List.nodup_cons.1 hn
    obtain ⟨h1, h2, h3⟩ := ih (seedStep g q st i) hn2
    have hg := seed_grows (g := g) (q := q) r (seedStep g q st i)
    simp only [List.foldl_cons] at h1 h2 h3 ⊢
    generalize hf : r.foldl (seedStep g q) (seedStep g q st i) = f at h1 h2 h3 hg ⊢
    rw [List.countP_cons]
    cases hc : decide (st.1 < q) with
    | false =>
      have e : seedStep g q st i = st := by unfold seedStep; rw [hc]; rfl
      rw [e] at h2 h3 hg
      rw [decide_eq_false_iff_not] at hc
      refine ⟨fun hlt => by omega, ?_, h3⟩
      split <;> omega
    | true =>
      cases hgi : g i with
      | none =>
        have e : seedStep g q st i = st := by unfold seedStep; rw [hc, hgi]; simp
        rw [e] at h2 h3 hg
        have ht : took g f.2 i = false := by unfold took; rw [hgi]; rfl
        refine ⟨fun hlt j hj z hz => ?_, by rw [ht]; simpa using h2, h3⟩
        rcases List.mem_cons.1 hj with rfl | hj
        · rw [hgi] at hz; cases hz
        · exact h1 hlt j hj z hz
      | some z0 =>
        have e : seedStep g q st i = (st.1 + 1, st.2 ++ [z0]) := by unfold seedStep; rw [hc, hgi]; rfl
        rw [e] at h2 h3 hg
        have hz0 : z0 ∈ f.2 := hg z0 (by simp)
        refine ⟨fun hlt j hj z hz => ?_, ?_, by simp only at h3; omega⟩
        · rcases List.mem_cons.1 hj with rfl | hj
          · rw [hgi] at hz; cases hz; exact hz0
          · exact h1 hlt j hj z hz
        · have ht : took g f.2 i = true := by unfold took; rw [hgi]; simpa using hz0
          rw [ht]
          simp only [if_true] at h2 ⊢
          omega
end
end Go.Proofs.Ytdknjfmjddlphaa
