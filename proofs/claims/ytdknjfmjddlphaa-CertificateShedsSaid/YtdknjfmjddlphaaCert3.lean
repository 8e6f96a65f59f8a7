/-
  What a vote needs, by the search, allows it. No walk.
-/
import Derived.Test.YtdknjfmjddlphaaCert2
import Derived.Test.YtdknjfmjddlphaaLaw12b
set_option linter.unusedSimpArgs false
set_option linter.unusedVariables false
namespace Go.Proofs.Ytdknjfmjddlphaa
open Go Go.Fk

section
variable {m s : Int} {P : Nm} {S C a b : List Vt} {v x y : Vt}
/-- votes that count for one another -/
def Fit (m : Int) (P : Nm) (s : Int) (S : List Vt) : Prop := ∀ x ∈ S, valid_f x = true ∧ x.parent = P ∧ x.slot = s ∧ x.kind ≤ 4 ∧ has_f m x.signer = true
theorem Fit.counts (h : Fit m P s S) (hv : v ∈ S) (hx : x ∈ S) : counts_f m v x = true := by
  obtain ⟨h1, h2, h3, h4, h5⟩ := h x hx
  obtain ⟨_, g2, g3, _, _⟩ := h v hv
  unfold counts_f
  simp [h1, h2, h3, h4, h5, g2, g3]
theorem fit_slot (m : Int) (parent : Nm) (l : List Vt) (slot : Int) : Fit m parent slot (inSlot m parent l slot) := fun x hx => by
  obtain ⟨h1, h2⟩ := List.mem_filter.1 hx
  have hg := allowed_guard (acc_mem_allowed h1)
  exact ⟨hg.1, (acc_sub h1).1, by simpa using h2, hg.2.1, hg.2.2.1⟩
theorem find_hits {p : Vt → Bool} (hx : x ∈ S) (hp : p x = true) : ∃ y, S.find? p = some y ∧ y ∈ S ∧ p y = true := by
  cases h : S.find? p with
  | none => exact absurd hp (by simpa using List.find?_eq_none.1 h x hx)
  | some y => exact ⟨y, rfl, List.mem_of_find?_eq_some h, List.find?_some h⟩
theorem supported_to {q : Int} {p p' : Vt → Bool} (h : ∀ i ∈ ids_f v.support, (∃ x ∈ a, x.signer = i ∧ p x = true) → ∃ y ∈ b, y.signer = i ∧ p' y = true) (ha : supported_f m q v a p = true) : supported_f m q v b p' = true := by
  unfold supported_f at ha ⊢
  cases hg : (!decide ((iandn v.support m) = 0)) || (!decide ((size_f v.support) = q)) with
  | true => rw [hg] at ha; cases ha
  | false =>
    rw [hg] at ha
    simp only [cond_false] at ha ⊢
    rw [List.all_eq_true] at ha ⊢
    intro i hi
    obtain ⟨x, hx, hx2⟩ := List.any_eq_true.1 (ha i hi)
    unfold supported1_f at hx2
    rw [Bool.and_eq_true, decide_eq_true_eq] at hx2
    obtain ⟨y, hy, h1, h2⟩ := h i hi ⟨x, hx, hx2⟩
    refine List.any_eq_true.2 ⟨y, hy, ?_⟩
    unfold supported1_f
    rw [Bool.and_eq_true, decide_eq_true_eq]
    exact ⟨h1, h2⟩
theorem like_iff {k r : Int} : like_f x v k r = true ↔ x.kind = k ∧ x.round = r ∧ x.choice = v.choice ∧ x.value = v.value := by
  unfold like_f
  simp only [Bool.and_eq_true, decide_eq_true_eq, and_assoc]
theorem same_like : same_f v x = true ↔ x.choice = v.choice ∧ x.value = v.value := by
  rw [same_iff]; exact and_congr eq_comm eq_comm
theorem expand2 (hk : v.kind = 2) : expand_n m S v = (S.find? fun x => exp1_f x v).toList := by unfold expand_n; simp [hk]
theorem expand3a (hk : v.kind = 3) (hr : v.round = 1) : expand_n m S v = sup_n S v 2 0 := by unfold expand_n; simp [hk, hr]
theorem expand3b (hk : v.kind = 3) (hr : ¬ v.round = 1) : expand_n m S v = later_n m S v := by unfold expand_n; simp [hk, hr]
theorem expand4m (hk : v.kind = 4) (hc : v.choice = 2) : expand_n m S v = mixed_n S v := by unfold expand_n; simp [hk, hc]
theorem expand4 (hk : v.kind = 4) (hc : ¬ v.choice = 2) : expand_n m S v = sup_n S v 3 v.round := by unfold expand_n; simp [hk, hc]
/-- a member's vote of the kind and round, alike: the least one is found -/
theorem sup_found {kind round i : Int} (hi : i ∈ ids_f v.support) (hx : x ∈ S) (hs : x.signer = i) (hl : like_f x v kind round = true) : ∃ y ∈ sup_n S v kind round, y.signer = i ∧ like_f y v kind round = true := by
  obtain ⟨y, h1, h2, h3⟩ := find_hits (p := fun x => supp1_f x i v kind round) hx (by unfold supp1_f; rw [Bool.and_eq_true, decide_eq_true_eq]; exact ⟨hs, hl⟩)
  unfold supp1_f at h3
  rw [Bool.and_eq_true, decide_eq_true_eq] at h3
  exact ⟨y, List.mem_filterMap.2 ⟨i, hi, h1⟩, h3⟩
def P2 (v x : Vt) : Bool := prevote2_f x v
def P3 (v x : Vt) : Bool := prevote3_f x v
def P4 (v x : Vt) : Bool := prevote4_f x (fun xx => prevote2_f xx v) (fun xx => prevote3_f xx v)
def P5 (v x : Vt) : Bool := prevote5_f x v (fun xx => prevote2_f xx v)
def P6 (v x : Vt) : Bool := prevote6_f x v
def firstAlt (m : Int) (v : Vt) (l : List Vt) : Bool := supported_f m (quorum_f (size_f m)) v l (P4 v) && l.any (P5 v)
def secondAlt (m : Int) (v : Vt) (l : List Vt) : Bool := supported_f m (quorum_f (size_f m)) v l (P3 v) && l.any (P6 v)
theorem prevote_alts (hr : ¬ v.round = 1) (l : List Vt) : prevote_f m (quorum_f (size_f m)) l v = bif firstAlt m v l then true else secondAlt m v l := by
  unfold prevote_f
  simp only [hr, decide_false, cond_false]
  rfl
theorem P2_iff : P2 v x = true ↔ like_f x v 4 (v.round - 1) = true := by
  unfold P2 prevote2_f
  rw [like_iff, Bool.and_eq_true, Bool.and_eq_true, decide_eq_true_eq, decide_eq_true_eq, same_like, and_assoc]
theorem P3_iff : P3 v x = true ↔ x.kind = 4 ∧ x.round = v.round - 1 ∧ x.choice = 2 := by
  unfold P3 prevote3_f
  simp only [Bool.and_eq_true, decide_eq_true_eq, and_assoc]
theorem P4_iff : P4 v x = true ↔ P2 v x = true ∨ P3 v x = true := by
  unfold P4 prevote4_f P2 P3
  rw [Bool.or_eq_true]
theorem P5_iff : P5 v x = true ↔ has_f v.support x.signer = true ∧ P2 v x = true := by
  unfold P5 prevote5_f P2
  rw [Bool.and_eq_true]
theorem P6_iff : P6 v x = true ↔ like_f x v 3 (v.round - 1) = true := by
  unfold P6 prevote6_f
  rw [like_iff, Bool.and_eq_true, Bool.and_eq_true, decide_eq_true_eq, decide_eq_true_eq, same_like, and_assoc]
theorem lm_found {round i : Int} (hx : x ∈ S) (hs : x.signer = i) (h : x.kind = 4 ∧ x.round = round ∧ x.choice = 2) : ∃ y, lm_g S round i = some y ∧ y ∈ S ∧ y.signer = i ∧ y.kind = 4 ∧ y.round = round ∧ y.choice = 2 := by
  obtain ⟨y, h1, h2, h3⟩ := find_hits (p := fun x => lm1_f x i round) hx (by unfold lm1_f; simp [hs, h.1, h.2.1, h.2.2])
  unfold lm1_f at h3
  simp only [Bool.and_eq_true, decide_eq_true_eq, and_assoc] at h3
  exact ⟨y, h1, h2, h3⟩
/-- the Precommits that a Prevote adopts -/
theorem adopt_to (hb : ∀ y ∈ (ids_f v.support).filterMap (la_g S v), y ∈ b) (ha : ∀ x ∈ a, x ∈ S) (h : firstAlt m v a = true) : firstAlt m v b = true := by
  unfold firstAlt at h ⊢
  rw [Bool.and_eq_true] at h ⊢
  have key : ∀ i ∈ ids_f v.support, ∀ x ∈ a, x.signer = i → P2 v x = true → ∃ y ∈ b, y.signer = i ∧ P2 v y = true := by
    intro i hi x hx hs hp
    obtain ⟨y, h1, h2, h3⟩ := find_hits (p := fun x => later1_f x i v) (ha x hx) (by unfold later1_f; rw [Bool.and_eq_true, decide_eq_true_eq]; exact ⟨hs, P2_iff.1 hp⟩)
    unfold later1_f at h3
    rw [Bool.and_eq_true, decide_eq_true_eq] at h3
    exact ⟨y, hb y (List.mem_filterMap.2 ⟨i, hi, by unfold la_g; rw [h1]⟩), h3.1, P2_iff.2 h3.2⟩
  refine ⟨supported_to (a := a) (p := P4 v) (fun i hi hex => ?_) h.1, ?_⟩
  · obtain ⟨x, hx, hs, hp⟩ := hex
    rcases P4_iff.1 hp with hp | hp
    · obtain ⟨y, h1, h2, h3⟩ := key i hi x hx hs hp
      exact ⟨y, h1, h2, P4_iff.2 (Or.inl h3)⟩
    · cases hf : S.find? (fun x => later1_f x i v) with
      | some y =>
        have h3 : later1_f y i v = true := List.find?_some (p := fun x => later1_f x i v) hf
        unfold later1_f at h3
        rw [Bool.and_eq_true, decide_eq_true_eq] at h3
        exact ⟨y, hb y (List.mem_filterMap.2 ⟨i, hi, by unfold la_g; rw [hf]⟩), h3.1, P4_iff.2 (Or.inl (P2_iff.2 h3.2))⟩
      | none =>
        obtain ⟨y, h1, _, h3, h4⟩ := lm_found (ha x hx) hs (P3_iff.1 hp)
        exact ⟨y, hb y (List.mem_filterMap.2 ⟨i, hi, by unfold la_g; rw [hf]; exact h1⟩), h3, P4_iff.2 (Or.inr (P3_iff.2 h4))⟩
  · obtain ⟨x, hx, hp⟩ := List.any_eq_true.1 h.2
    obtain ⟨h1, h2⟩ := P5_iff.1 hp
    obtain ⟨y, h3, h4, h5⟩ := key x.signer (mem_ids.2 h1) x hx rfl h2
    exact List.any_eq_true.2 ⟨y, h3, P5_iff.2 ⟨by rw [h4]; exact h1, h5⟩⟩
theorem second_to (hb : ∀ y ∈ (ids_f v.support).filterMap (lm_g S (v.round - 1)) ++ (S.find? fun x => later2_f x v).toList, y ∈ b) (ha : ∀ x ∈ a, x ∈ S) (h : secondAlt m v a = true) : secondAlt m v b = true := by
  unfold secondAlt at h ⊢
  rw [Bool.and_eq_true] at h ⊢
  refine ⟨supported_to (a := a) (p := P3 v) (fun i hi hex => ?_) h.1, ?_⟩
  · obtain ⟨x, hx, hs, hp⟩ := hex
    obtain ⟨y, h1, _, h3, h4⟩ := lm_found (ha x hx) hs (P3_iff.1 hp)
    exact ⟨y, hb y (List.mem_append_left _ (List.mem_filterMap.2 ⟨i, hi, h1⟩)), h3, P3_iff.2 h4⟩
  · obtain ⟨x, hx, hp⟩ := List.any_eq_true.1 h.2
    obtain ⟨y, h1, _, h3⟩ := find_hits (p := fun x => later2_f x v) (ha x hx) (P6_iff.1 hp)
    exact List.any_eq_true.2 ⟨y, hb y (List.mem_append_right _ (by rw [h1]; simp)), P6_iff.2 h3⟩
/-- adoption is by Precommits alone -/
theorem adopts_iff (hk : v.kind = 3) (hr : ¬ v.round = 1) (hS : Fit m P s S) (hv : v ∈ S) (hg : allowed_f m v S = true) (hC : ∀ x ∈ C, x ∈ S) : adopts_f m C v = true ↔ firstAlt m v C = true := by
  obtain ⟨g1, g2, g3, g4⟩ := allowed_guard hg
  have hfl : ∀ D : List Vt, (∀ x ∈ D, x ∈ S) → D.filter (counts_f m v) = D := fun D hD => List.filter_eq_self.2 fun x hx => hS.counts hv (hD x hx)
  have hall : ∀ D : List Vt, (∀ x ∈ D, x ∈ S) → (allowed_f m v D = bif firstAlt m v D then true else secondAlt m v D) := fun D hD => by
    unfold allowed_f
    rw [hfl D hD, prevote_alts hr]
    have : ((((!(valid_f v)) || (decide (4 < v.kind))) || (!(has_f m v.signer))) || (!(has_f m v.slot))) = false := by simp [g1, g3, g4]; omega
    rw [this]
    simp [hk]
  unfold adopts_f
  have hsub : ∀ x ∈ C.filter (fun x => decide (x.kind = 4)), x ∈ C := fun x hx => (List.mem_filter.1 hx).1
  rw [hall _ fun x hx => hC x (hsub x hx)]
  have h2 : secondAlt m v (C.filter fun x => decide (x.kind = 4)) = false := by
    unfold secondAlt
    rw [Bool.and_eq_false_iff]
    right
    rw [List.any_eq_false]
    intro x hx hp
    have h1 := (like_iff.1 (P6_iff.1 hp)).1
    have h2 := (List.mem_filter.1 hx).2
    rw [decide_eq_true_eq] at h2
    omega
  rw [h2]
  have k4 : ∀ x, P4 v x = true → x.kind = 4 := fun x hp => by
    rcases P4_iff.1 hp with hp | hp
    · exact (like_iff.1 (P2_iff.1 hp)).1
    · exact (P3_iff.1 hp).1
  have : firstAlt m v (C.filter fun x => decide (x.kind = 4)) = true ↔ firstAlt m v C = true := by
    unfold firstAlt
    rw [Bool.and_eq_true, Bool.and_eq_true]
    constructor
    · exact fun h => ⟨supported_sub hsub h.1, any_sub hsub h.2⟩
    · refine fun h => ⟨supported_to (a := C) (p := P4 v) (fun i hi hex => by obtain ⟨x, hx, hs, hp⟩ := hex; exact ⟨x, List.mem_filter.2 ⟨hx, by simpa using k4 x hp⟩, hs, hp⟩) h.1, ?_⟩
      obtain ⟨x, hx, hp⟩ := List.any_eq_true.1 h.2
      exact List.any_eq_true.2 ⟨x, List.mem_filter.2 ⟨hx, by simpa using (like_iff.1 (P2_iff.1 (P5_iff.1 hp).2)).1⟩, hp⟩
  rw [← this]
  cases firstAlt m v (C.filter fun x => decide (x.kind = 4)) <;> simp
end
end Go.Proofs.Ytdknjfmjddlphaa
