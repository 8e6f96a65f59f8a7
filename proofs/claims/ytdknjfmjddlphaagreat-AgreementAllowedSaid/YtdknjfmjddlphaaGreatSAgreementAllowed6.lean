/-
  Texts that the proof rests on: Law15, Law16c, AGL.
-/
import Derived.Test.YtdknjfmjddlphaaGreatSAgreementAllowed5
set_option linter.unusedSimpArgs false
set_option linter.unusedVariables false
namespace Go.Proofs.YtdknjfmjddlphaaGreat
open Go Go.Fk
/-- member i has a vote of the kind for the value -/
def Sd (A : List Vt) (kind : Int) (value : Nm) (i : Int) : Prop := ∃ w ∈ A, w.kind = kind ∧ w.value = value ∧ w.signer = i
theorem sg_get {kind : Int} {A : List Vt} (hA : ∀ w ∈ A, 0 ≤ w.signer ∧ w.signer ≤ 9) : ∀ (x : Nm), (∀ i, has_f (mget (sgOf kind A) x) i = true ↔ Sd A kind x i) ∧ (x ∈ (sgOf kind A).map Prod.fst ↔ ∃ i, Sd A kind x i) := by
 have key : ∀ k, k ≤ A.length → (((sgOf kind (A.take k)).map Prod.fst).Nodup) ∧ ∀ x : Nm, (∀ i, has_f (mget (sgOf kind (A.take k)) x) i = true ↔ Sd (A.take k) kind x i) ∧ (x ∈ (sgOf kind (A.take k)).map Prod.fst ↔ ∃ i, Sd (A.take k) kind x i) := by
  intro k
  induction k with
  | zero =>
    refine fun _ => ⟨by simp [sgOf], fun o => ⟨fun i => ?_, ?_⟩⟩
    · have : mget (sgOf kind (A.take 0)) o = 0 := rfl
      rw [this]; simp [has_zero, Sd]
    · simp [Sd, sgOf]
  | succ k ih =>
    intro hk
    have hkl : k < A.length := by omega
    obtain ⟨hn, ih⟩ := ih (by omega)
    have hmem : A[k]! ∈ A := by rw [getElem!_pos A k hkl]; exact List.getElem_mem hkl
    have hb := hA _ hmem
    have hSd : ∀ o i, Sd (A.take (k + 1)) kind o i ↔ (Sd (A.take k) kind o i ∨ (A[k]!.kind = kind ∧ A[k]!.value = o ∧ A[k]!.signer = i)) := fun o i => by
      unfold Sd
      rw [take_bang hkl]
      constructor
      · rintro ⟨w, hw, r⟩
        rcases List.mem_append.1 hw with hw | hw
        · exact Or.inl ⟨w, hw, r⟩
        · rw [List.mem_singleton] at hw; subst hw; exact Or.inr r
      · rintro (⟨w, hw, r⟩ | r)
        · exact ⟨w, List.mem_append_left _ hw, r⟩
        · exact ⟨_, List.mem_append_right _ (List.mem_singleton.2 rfl), r⟩
    have hst : sgOf kind (A.take (k + 1)) = sgStep kind (sgOf kind (A.take k)) A[k]! := by unfold sgOf; exact fold_go hkl
    rw [hst]
    generalize sgOf kind (A.take k) = B at ih hn
    generalize A[k]! = v at hb hSd
    unfold sgStep
    cases hp : decide (v.kind = kind) with
    | false =>
      rw [decide_eq_false_iff_not] at hp
      refine ⟨hn, fun o => ?_⟩
      have : ∀ i, Sd (A.take (k + 1)) kind o i ↔ Sd (A.take k) kind o i := fun i => by
        rw [hSd]
        exact ⟨fun h => h.resolve_right fun h => hp h.1, Or.inl⟩
      simp only [cond_false, this]
      exact ih o
    | true =>
      rw [decide_eq_true_eq] at hp
      simp only [cond_true]
      refine ⟨mput_nodup hn, fun o => ?_⟩
      obtain ⟨h1, h2⟩ := ih o
      by_cases he : o = v.value
      · subst he
        have hget : mget (mput B v.value (ior (mget B v.value) (ishl 1 v.signer))) v.value = ior (mget B v.value) (ishl 1 v.signer) := mget_mem (mput_nodup hn) (p := (v.value, _)) (mput_mem.2 (Or.inl rfl))
        refine ⟨fun i => ?_, ?_⟩
        · rw [hget, has_ior, Bool.or_eq_true, h1, hSd, has_ishl hb.1 hb.2, decide_eq_true_eq]
          exact or_congr Iff.rfl ⟨fun e => ⟨hp, rfl, e.symm⟩, fun h => h.2.2.symm⟩
        · exact ⟨fun _ => ⟨v.signer, (hSd _ _).2 (Or.inr ⟨hp, rfl, rfl⟩)⟩, fun _ => List.mem_map.2 ⟨(v.value, _), mput_mem.2 (Or.inl rfl), rfl⟩⟩
      · have hno : ∀ i, Sd (A.take (k + 1)) kind o i ↔ Sd (A.take k) kind o i := fun i => by
          rw [hSd]
          exact ⟨fun h => h.resolve_right fun h => he h.2.1.symm, Or.inl⟩
        have hget : mget (mput B v.value (ior (mget B v.value) (ishl 1 v.signer))) o = mget B o := by
          by_cases ho2 : ∃ p ∈ B, p.1 = o
          · obtain ⟨p, hp2, rfl⟩ := ho2
            rw [mget_mem hn hp2]
            exact mget_mem (mput_nodup hn) (mput_mem.2 (Or.inr ⟨he, hp2⟩))
          · have : ∀ p ∈ B, p.1 ≠ o := fun p hp2 e => ho2 ⟨p, hp2, e⟩
            rw [mget_none this]
            refine mget_none fun p hp2 => ?_
            rcases mput_mem.1 hp2 with rfl | ⟨_, hp2⟩
            · exact fun e => he e.symm
            · exact this p hp2
        refine ⟨fun i => by rw [hget, hno]; exact h1 i, ?_⟩
        simp only [hno]
        rw [← h2, mput_keys]
        by_cases hk2 : v.value ∈ B.map Prod.fst
        · rw [if_pos hk2]
        · rw [if_neg hk2, List.mem_append, List.mem_singleton]
          exact ⟨fun h => h.resolve_right he, Or.inl⟩
 have := (key A.length (Nat.le_refl _)).2; rwa [List.take_length] at this
theorem mem_ascending {b : List (Nm × Int)} (hb : (b.map Prod.fst).Nodup) {n : Int} {x : Nm} : x ∈ ascending15_f b n ↔ x ∈ b.map Prod.fst ∧ x ≠ Nm.zero ∧ n ≤ size_f (mget b x) := by
 unfold ascending15_f; rw [sorted_mem, List.mem_map]; constructor
 ·rintro ⟨p, hp, rfl⟩; rw [List.mem_filter] at hp; obtain ⟨h1, h2⟩ := hp; unfold ascOut at h2; simp only [Bool.and_eq_true, Bool.not_eq_true', decide_eq_false_iff_not, decide_eq_true_eq] at h2; exact ⟨List.mem_map.2 ⟨p, h1, rfl⟩, h2.1, by rw [mget_mem hb h1]; exact h2.2⟩
 ·rintro ⟨h1, h2, h3⟩; obtain ⟨p, hp, rfl⟩ := List.mem_map.1 h1; refine ⟨p, List.mem_filter.2 ⟨hp, ?_⟩, rfl⟩; unfold ascOut; rw [mget_mem hb hp] at h3; simp [h2, h3]
theorem signers_keys (m : Int) (parent : Nm) (l : List Vt) (slot kind : Int) : ((signers_f m parent l slot kind).map Prod.fst).Nodup := sg_keys kind _ _ (by simp)
theorem echoers_has {m : Int} {parent : Nm} {l : List Vt} {slot : Int} {x : Nm} {i : Int} : has_f (echoers_f m parent l slot x) i = true ↔ Sd (slots_f m parent l slot) 2 x i := (sg_get slots_sigs x).1 i
theorem echoers_sub {m : Int} {parent : Nm} {l : List Vt} {slot : Int} {x : Nm} {i : Int} (h : has_f (echoers_f m parent l slot x) i = true) : has_f m i = true := by
 obtain ⟨w, hw, _, _, e⟩ := echoers_has.1 h; rw [← e]; exact (acc_signers hw).1
theorem mem_certified {m : Int} {parent : Nm} {l : List Vt} {slot : Int} {x : Nm} : x ∈ certified_f m parent l slot ↔ (∃ i, Sd (slots_f m parent l slot) 2 x i) ∧ x ≠ Nm.zero ∧ quorum_f (size_f m) ≤ size_f (echoers_f m parent l slot x) := by
 unfold certified_f; rw [mem_ascending (signers_keys m parent l slot 2)]; unfold signers_f; rw [(sg_get slots_sigs x).2]; rfl
theorem sd_pos {m : Int} {parent : Nm} {l : List Vt} {slot kind : Int} {x : Nm} (h : ∃ i, Sd (slots_f m parent l slot) kind x i) : 1 ≤ size_f (mget (signers_f m parent l slot kind) x) := by
 obtain ⟨i, hi⟩ := h; have := size_some (((sg_get (kind := kind) slots_sigs x).1 i).2 hi); unfold signers_f; omega
theorem mem_proposals {m : Int} {parent : Nm} {l : List Vt} {slot : Int} {x : Nm} : x ∈ proposals_f m parent l slot ↔ (∃ i, Sd (slots_f m parent l slot) 1 x i) ∧ x ≠ Nm.zero := by
 unfold proposals_f; rw [mem_ascending (signers_keys m parent l slot 1)]; have : x ∈ (signers_f m parent l slot 1).map Prod.fst ↔ ∃ i, Sd (slots_f m parent l slot) 1 x i := (sg_get slots_sigs x).2; rw [this]; exact ⟨fun ⟨h1, h2, _⟩ => ⟨h1, h2⟩, fun ⟨h1, h2⟩ => ⟨h1, h2, sd_pos h1⟩⟩
theorem valid_value {v : Vt} (h : valid_f v = true) : (v.choice = 1 ↔ ¬ v.value = Nm.zero) ∧ iandn v.support 1023 = 0 ∧ (v.kind = 1 ∨ v.kind = 2 → v.choice = 1 ∧ v.support = 0 ∧ v.round = 0) := by
 unfold valid_f at h; cases h1 : (!(between_f v.kind 1 7)) || (!(between_f v.signer 0 9)) with
 | true => rw [h1] at h; simp at h
 | false =>
  rw [h1] at h
  simp only [cond_false] at h
  cases h2 : ((decide (v.choice = 1)) == (decide (v.value = Nm.zero))) || (!decide ((iandn v.support 1023) = 0)) with
  | true => rw [h2] at h; simp at h
  | false =>
    rw [h2] at h
    simp only [cond_false] at h
    simp only [Bool.or_eq_false_iff, Bool.not_eq_false', decide_eq_true_eq] at h2
    refine ⟨?_, h2.2, ?_⟩
    · have := h2.1
      by_cases hc : v.choice = 1 <;> by_cases hv : v.value = Nm.zero <;> simp [hc, hv] at this ⊢
    · rintro (hk | hk)
      · simp [hk] at h; exact ⟨h.2, h.1.2.2, h.1.2.1⟩
      · simp [hk] at h; exact ⟨h.2, h.1.2.2, h.1.2.1⟩
end Go.Proofs.YtdknjfmjddlphaaGreat
set_option linter.unusedSimpArgs false
set_option linter.unusedVariables false
set_option linter.unusedSectionVars false
namespace Go.Proofs.YtdknjfmjddlphaaGreat
open Go Go.Fk
theorem has_lows {i : Int} : ∀ (ls : List Int) (t : Int), (∀ x ∈ ls, 0 ≤ x ∧ x ≤ 9) → (has_f (ls.foldl lowStep t) i = true ↔ has_f t i = true ∨ i ∈ ls)
  | [], t, _ => by simp
  | x :: ls, t, h => by
    have hb := h x (by simp)
    rw [List.foldl_cons, has_lows ls _ (fun y hy => h y (by simp [hy]))]
    unfold lowStep
    rw [has_ior, Bool.or_eq_true, has_ishl hb.1 hb.2, decide_eq_true_eq, List.mem_cons, or_assoc]
theorem low_lows : ∀ (ls : List Int) (t : Int), (∀ x ∈ ls, 0 ≤ x ∧ x ≤ 9) → Low t → Low (ls.foldl lowStep t)
  | [], t, _, h => h
  | x :: ls, t, hl, h => by
    have hb := hl x (by simp)
    rw [List.foldl_cons]
    exact low_lows ls _ (fun y hy => hl y (by simp [hy])) (low_ior h (low_ishl hb.1 hb.2))
theorem ids_rng {m : Int} : ∀ x ∈ ids_f m, 0 ≤ x ∧ x ≤ 9 := fun x hx => by
  have := has_range (mem_ids.1 hx)
  omega
theorem take_rng {m : Int} {k : Nat} : ∀ x ∈ (ids_f m).take k, 0 ≤ x ∧ x ≤ 9 := fun x hx => ids_rng x (List.mem_of_mem_take hx)
theorem lowest_has {E k i : Int} : has_f (lowest_f E k) i = true ↔ i ∈ (ids_f E).take k.toNat := by
 unfold lowest_f; rw [has_lows _ _ take_rng, has_zero]; simp
theorem lowest_sub {E k i : Int} (h : has_f (lowest_f E k) i = true) : has_f E i = true := mem_ids.1 (List.mem_of_mem_take (lowest_has.1 h))
theorem lowest_low (E k : Int) : Low (lowest_f E k) := low_lows _ _ take_rng low_zero
theorem size_list {X : Int} {ls : List Int} (hn : ls.Nodup) (h : ∀ i, has_f X i = true ↔ i ∈ ls) : size_f X = (ls.length : Int) := by
 rw [size_ids]; have h1 : (ids_f X).length ≤ ls.length := List.Nodup.length_le_of_subset (ids_nodup X) fun i hi => (h i).1 (mem_ids.1 hi); have h2 : ls.length ≤ (ids_f X).length := List.Nodup.length_le_of_subset hn fun i hi => mem_ids.2 ((h i).2 hi); omega
theorem lowest_size {E k : Int} (h0 : 0 ≤ k) (h1 : k ≤ size_f E) : size_f (lowest_f E k) = k := by
 rw [size_list ((ids_nodup E).sublist (List.take_sublist _ _)) (fun i => lowest_has (k := k)), List.length_take]; rw [size_ids] at h1; omega
theorem size_or {X Y : Int} (h : ∀ i, has_f X i = true → has_f Y i = true → False) : size_f (ior X Y) = size_f X + size_f Y := by
 rw [size_list (ls := ids_f X ++ ids_f Y) (List.nodup_append.2 ⟨ids_nodup X, ids_nodup Y, fun a ha b hb e => h a (mem_ids.1 ha) (by rw [e]; exact mem_ids.1 hb)⟩) (fun i => by rw [has_ior, Bool.or_eq_true, List.mem_append, mem_ids, mem_ids]), List.length_append, size_ids X, size_ids Y]; omega
theorem has_1023_table : ∀ s : Fin 10, has_f 1023 ((s.val : Nat) : Int) = true := by decide +kernel
theorem low_1023 {x : Int} (h : Low x) : iandn x 1023 = 0 := iandn_sub (fun i hi => by
  have hr := has_range hi
  have := has_1023_table ⟨i.toNat, by omega⟩
  simp only [Int.toNat_of_nonneg hr.1] at this
  exact this) h
section
variable {kind round : Int} {p : Vt → Bool}
theorem collP_iff {x : Vt} : collP kind round p x = true ↔ x.kind = kind ∧ x.round = round ∧ p x = true := by
 unfold collP; simp only [Bool.and_eq_true, decide_eq_true_eq, and_assoc]
theorem has_coll {i : Int} : ∀ (A : List Vt) (t : Int), (∀ w ∈ A, 0 ≤ w.signer ∧ w.signer ≤ 9) → (has_f (A.foldl (collStep kind round p) t) i = true ↔ has_f t i = true ∨ ∃ w ∈ A, collP kind round p w = true ∧ w.signer = i)
  | [], t, _ => by simp
  | x :: A, t, hA => by
    have hb := hA x (by simp)
    rw [List.foldl_cons, has_coll A _ (fun w hw => hA w (by simp [hw]))]
    unfold collStep
    cases h : collP kind round p x with
    | true =>
      rw [cond_true, has_ior, Bool.or_eq_true, has_ishl hb.1 hb.2, decide_eq_true_eq]
      constructor
      · rintro ((h1 | h1) | ⟨w, hw, h2⟩)
        · exact Or.inl h1
        · exact Or.inr ⟨x, by simp, h, h1.symm⟩
        · exact Or.inr ⟨w, by simp [hw], h2⟩
      · rintro (h1 | ⟨w, hw, h2, h3⟩)
        · exact Or.inl (Or.inl h1)
        · rcases List.mem_cons.1 hw with e | hw
          · rw [e] at h3; exact Or.inl (Or.inr h3.symm)
          · exact Or.inr ⟨w, hw, h2, h3⟩
    | false =>
      rw [cond_false]
      constructor
      · rintro (h1 | ⟨w, hw, h2⟩)
        · exact Or.inl h1
        · exact Or.inr ⟨w, by simp [hw], h2⟩
      · rintro (h1 | ⟨w, hw, h2, h3⟩)
        · exact Or.inl h1
        · rcases List.mem_cons.1 hw with e | hw
          · rw [e, h] at h2; cases h2
          · exact Or.inr ⟨w, hw, h2, h3⟩
theorem has_who16 {A : List Vt} {i : Int} (hA : ∀ w ∈ A, 0 ≤ w.signer ∧ w.signer ≤ 9) : has_f (who16_f A kind round p) i = true ↔ ∃ w ∈ A, (w.kind = kind ∧ w.round = round ∧ p w = true) ∧ w.signer = i := by
 unfold who16_f; rw [has_coll A 0 hA, has_zero]; simp only [collP_iff]; simp
theorem mem_valm {x : Ch} : ∀ (A : List Vt) (l : List (Ch × Int)), x ∈ (A.foldl (valmStep kind round) l).map Prod.fst ↔ x ∈ l.map Prod.fst ∨ ∃ w ∈ A, val16P kind round w = true ∧ of_f w = x
  | [], l => by simp
  | v :: A, l => by
    rw [List.foldl_cons, mem_valm A]
    unfold valmStep
    cases h : val16P kind round v with
    | true =>
      rw [cond_true, mput_keys]
      have e : x ∈ (if of_f v ∈ l.map Prod.fst then l.map Prod.fst else l.map Prod.fst ++ [of_f v]) ↔ x ∈ l.map Prod.fst ∨ of_f v = x := by
        by_cases hm : of_f v ∈ l.map Prod.fst
        · rw [if_pos hm]
          exact ⟨Or.inl, fun h => h.elim id fun h => h ▸ hm⟩
        · rw [if_neg hm, List.mem_append, List.mem_singleton]
          exact or_congr Iff.rfl eq_comm
      rw [e]
      constructor
      · rintro ((h1 | h1) | ⟨w, hw, h2⟩)
        · exact Or.inl h1
        · exact Or.inr ⟨v, by simp, h, h1⟩
        · exact Or.inr ⟨w, by simp [hw], h2⟩
      · rintro (h1 | ⟨w, hw, h2, h3⟩)
        · exact Or.inl (Or.inl h1)
        · rcases List.mem_cons.1 hw with e | hw
          · rw [e] at h3; exact Or.inl (Or.inr h3)
          · exact Or.inr ⟨w, hw, h2, h3⟩
    | false =>
      rw [cond_false]
      constructor
      · rintro (h1 | ⟨w, hw, h2⟩)
        · exact Or.inl h1
        · exact Or.inr ⟨w, by simp [hw], h2⟩
      · rintro (h1 | ⟨w, hw, h2, h3⟩)
        · exact Or.inl h1
        · rcases List.mem_cons.1 hw with e | hw
          · rw [e, h] at h2; cases h2
          · exact Or.inr ⟨w, hw, h2, h3⟩
theorem mem_values16 {A : List Vt} {x : Ch} : x ∈ values16_f A kind round ↔ ∃ w ∈ A, (w.kind = kind ∧ w.round = round ∧ ¬ w.choice = 2) ∧ of_f w = x := by
 unfold values16_f; rw [sorted_mem]; unfold valm_f; rw [mem_valm]; unfold val16P; simp only [Bool.and_eq_true, decide_eq_true_eq, Bool.not_eq_true', decide_eq_false_iff_not, and_assoc]; simp
end
theorem of_eq {w : Vt} {x : Ch} : of_f w = x ↔ w.choice = x.validator ∧ w.value = x.value := by
 unfold of_f; rw [Ch.ext_iff']
/-- the accepted votes of the slot above the parent -/
abbrev A16 (m slot : Int) (parent : Nm) (l : List Vt) : List Vt := accepted_f m parent (l.filter (ownP parent slot))
/-- what a vote that Next returns is -/
structure G16 (m slot me : Int) (parent : Nm) (l : List Vt) (v : Vt) : Prop where
  sig : v.signer = me
  slt : v.slot = slot
  par : v.parent = parent
  lo : 2 ≤ v.kind
  hi : v.kind ≤ 4
  ok : allowed_f m v (A16 m slot parent l) = true
  new : signed_f (mine_f parent slot me l) v.kind v.round = false
section
variable {m slot self : Int} {parent : Nm} {l : List Vt}
theorem own_iff {x : Vt} : ownP parent slot x = true ↔ x.slot = slot ∧ x.parent = parent := by
 unfold ownP; simp only [Bool.and_eq_true, decide_eq_true_eq]
theorem a16_mem {x : Vt} (h : x ∈ A16 m slot parent l) : valid_f x = true ∧ x.parent = parent ∧ x.slot = slot ∧ x.kind ≤ 4 ∧ has_f m x.signer = true ∧ 0 ≤ x.signer ∧ x.signer ≤ 9 := by
 have h1 := allowed_guard (acc_mem_allowed h); have h2 := acc_sub h; have h3 := own_iff.1 (List.mem_filter.1 h2.2).2; have h4 := acc_signers h; exact ⟨h1.1, h2.1, h3.1, h1.2.1, h4.1, h4.2⟩
theorem a16_sig : ∀ w ∈ A16 m slot parent l, 0 ≤ w.signer ∧ w.signer ≤ 9 := fun w hw => (a16_mem hw).2.2.2.2.2
theorem a16_slots : slots_f m parent (l.filter (ownP parent slot)) slot = A16 m slot parent l := by
 unfold slots_f
 have : (l.filter (ownP parent slot)).filter (fun x => decide (x.slot = slot)) = l.filter (ownP parent slot) := by
  rw [List.filter_eq_self]
  intro x hx
  simpa using (own_iff.1 (List.mem_filter.1 hx).2).1
 rw [this]
theorem a16_counts {v : Vt} (hs : v.slot = slot) (hp : v.parent = parent) : (A16 m slot parent l).filter (counts_f m v) = A16 m slot parent l := by
 rw [List.filter_eq_self]; intro x hx; obtain ⟨h1, h2, h3, h4, h5, _⟩ := a16_mem hx; unfold counts_f; simp [h1, h2, h3, h4, h5, hs, hp]
theorem supp_mk {q : Int} {v : Vt} {A : List Vt} {p : Vt → Bool} (h1 : Low v.support) (h2 : ∀ i, has_f v.support i = true → has_f m i = true) (h3 : size_f v.support = q) (h4 : ∀ i, has_f v.support i = true → ∃ w ∈ A, w.signer = i ∧ p w = true) : supported_f m q v A p = true := by
 unfold supported_f; rw [iandn_sub h2 h1, h3]; simp only [decide_true, Bool.not_true, Bool.or_false, cond_false, List.all_eq_true]; intro i hi; obtain ⟨w, hw, hs, hp⟩ := h4 i (mem_ids.1 hi); refine List.any_eq_true.2 ⟨w, hw, ?_⟩; unfold supported1_f; rw [hp, decide_eq_true hs]; rfl
theorem allowed_mk {v : Vt} (hv : valid_f v = true) (hk : v.kind ≤ 4) (h1 : ¬ v.kind = 1) (hs : has_f m v.signer = true) (ht : has_f m v.slot = true) (hsl : v.slot = slot) (hp : v.parent = parent)
    (hb : (bif decide (v.kind = 2) then (A16 m slot parent l).any (fun xx => allowed1_f xx v) else (bif decide (v.kind = 3) then prevote_f m (quorum_f (size_f m)) (A16 m slot parent l) v else precommit_f m (quorum_f (size_f m)) (A16 m slot parent l) v)) = true) : allowed_f m v (A16 m slot parent l) = true := by
  unfold allowed_f
  rw [a16_counts hsl hp, hv, hs, ht, decide_eq_false h1, decide_eq_false (by omega : ¬ 4 < v.kind)]
  simpa using hb
theorem allowed_mk2 {v : Vt} (hv : valid_f v = true) (hk : v.kind = 2) (hs : has_f m v.signer = true) (ht : has_f m v.slot = true) (hsl : v.slot = slot) (hp : v.parent = parent) (hb : (A16 m slot parent l).any (fun xx => allowed1_f xx v) = true) : allowed_f m v (A16 m slot parent l) = true :=
  allowed_mk hv (by omega) (by omega) hs ht hsl hp (by rw [decide_eq_true hk, cond_true]; exact hb)
theorem allowed_mk3 {v : Vt} (hv : valid_f v = true) (hk : v.kind = 3) (hs : has_f m v.signer = true) (ht : has_f m v.slot = true) (hsl : v.slot = slot) (hp : v.parent = parent) (hb : prevote_f m (quorum_f (size_f m)) (A16 m slot parent l) v = true) : allowed_f m v (A16 m slot parent l) = true :=
  allowed_mk hv (by omega) (by omega) hs ht hsl hp (by rw [decide_eq_false (by omega : ¬ v.kind = 2), decide_eq_true hk, cond_false, cond_true]; exact hb)
theorem allowed_mk4 {v : Vt} (hv : valid_f v = true) (hk : v.kind = 4) (hs : has_f m v.signer = true) (ht : has_f m v.slot = true) (hsl : v.slot = slot) (hp : v.parent = parent) (hb : precommit_f m (quorum_f (size_f m)) (A16 m slot parent l) v = true) : allowed_f m v (A16 m slot parent l) = true :=
  allowed_mk hv (by omega) (by omega) hs ht hsl hp (by rw [decide_eq_false (by omega : ¬ v.kind = 2), decide_eq_false (by omega : ¬ v.kind = 3), cond_false, cond_false]; exact hb)
theorem valid34 {v : Vt} (hk : v.kind = 3 ∨ v.kind = 4) (hs : 0 ≤ v.signer ∧ v.signer ≤ 9) (ht : 0 ≤ v.slot ∧ v.slot ≤ 9) (hr : 1 ≤ v.round ∧ v.round ≤ 12) (hc : 0 ≤ v.choice ∧ v.choice ≤ 2) (hc3 : v.kind = 3 → v.choice ≤ 1) (hval : v.choice = 1 ↔ ¬ v.value = Nm.zero) (hl : Low v.support) (h1 : v.kind = 3 → v.round = 1 → v.choice = 0 → v.support = 0) : valid_f v = true := by
 unfold valid_f
 have e1 : ((!(between_f v.kind 1 7)) || (!(between_f v.signer 0 9))) = false := by
  rw [show between_f v.kind 1 7 = true from between_iff.2 (by omega), show between_f v.signer 0 9 = true from between_iff.2 hs]; rfl
 have e2 : ((decide (v.choice = 1)) == (decide (v.value = Nm.zero))) = false := by
  by_cases hv : v.value = Nm.zero <;> by_cases hc1 : v.choice = 1 <;> simp_all
 rw [e1, e2, low_1023 hl, show between_f v.slot 0 9 = true from between_iff.2 ht, show between_f v.round 1 12 = true from between_iff.2 hr, show between_f v.choice 0 2 = true from between_iff.2 hc]; rcases hk with hk | hk
 ·rw [show between_f v.choice 0 1 = true from between_iff.2 ⟨hc.1, hc3 hk⟩]; by_cases hr1 : v.round = 1
  ·by_cases hc0 : v.choice = 0
   ·simp [hk, h1 hk hr1 hc0]
   ·simp [hk, hc0]
  ·simp [hk, hr1]
 ·simp [hk]
theorem valid2 {v : Vt} (hk : v.kind = 2) (hs : 0 ≤ v.signer ∧ v.signer ≤ 9) (ht : 0 ≤ v.slot ∧ v.slot ≤ 9) (hr : v.round = 0) (hc : v.choice = 1) (hu : v.support = 0) (hz : ¬ v.value = Nm.zero) : valid_f v = true := by
 unfold valid_f; have e : iandn 0 1023 = 0 := low_1023 low_zero; simp [hk, hr, hc, hu, hz, e, show between_f 2 1 7 = true by decide, between_iff.2 hs, between_iff.2 ht]
variable (hself : has_f m self = true) (hslot : has_f m slot = true)
include hself hslot
theorem q_pos : 0 < quorum_f (size_f m) := quorum_pos (size_some hself)
theorem sig_rng : 0 ≤ self ∧ self ≤ 9 := by have := has_range hself; omega
theorem slot_rng : 0 ≤ slot ∧ slot ≤ 9 := by have := has_range hslot; omega
theorem good_echo {held : List Nm} (h : (echo16_f m slot self parent (mine_f parent slot self l) (l.filter (ownP parent slot)) held).2 = true) : G16 m slot self parent l (echo16_f m slot self parent (mine_f parent slot self l) (l.filter (ownP parent slot)) held).1 := by
 unfold echo16_f at h ⊢; cases hs : signed_f (mine_f parent slot self l) 2 0 with
 | true => rw [hs] at h; cases h
 | false =>
  rw [hs] at h
  simp only [cond_false] at h ⊢
  cases hf : (proposals_f m parent (l.filter (ownP parent slot)) slot).find? fun n => held.any fun h => decide (h = n) with
  | none => rw [hf] at h; cases h
  | some n =>
    simp only []
    have hm := mem_proposals.1 (List.mem_of_find?_eq_some hf)
    rw [a16_slots] at hm
    obtain ⟨⟨i, w, hw, hk, hv, _⟩, hz⟩ := hm
    have hwv := valid_value (a16_mem hw).1
    refine ⟨rfl, rfl, rfl, (by decide : (2 : Int) ≤ 2), (by decide : (2 : Int) ≤ 4), ?_, hs⟩
    refine allowed_mk2 ?_ rfl hself hslot rfl rfl ?_
    · exact valid2 rfl (sig_rng hself hslot) (slot_rng hself hslot) rfl rfl rfl hz
    · refine List.any_eq_true.2 ⟨w, hw, ?_⟩
      unfold allowed1_f
      rw [decide_eq_true hk, Bool.true_and, same_iff]
      exact ⟨(hwv.2.2 (Or.inl hk)).1.symm, hv.symm⟩
theorem good_first {waited : Bool} (h : (first16_f m (quorum_f (size_f m)) slot self parent (mine_f parent slot self l) (l.filter (ownP parent slot)) waited).2 = true) : G16 m slot self parent l (first16_f m (quorum_f (size_f m)) slot self parent (mine_f parent slot self l) (l.filter (ownP parent slot)) waited).1 := by
 unfold first16_f at h ⊢; cases hs : signed_f (mine_f parent slot self l) 3 1 with
 | true => rw [hs] at h; cases h
 | false =>
  rw [hs] at h
  simp only [cond_false] at h ⊢
  have h1 := sig_rng hself hslot
  have h2 := slot_rng hself hslot
  cases hc : decide (0 < (certified_f m parent (l.filter (ownP parent slot)) slot).length) with
  | true =>
    simp only [cond_true]
    have hl : 0 < (certified_f m parent (l.filter (ownP parent slot)) slot).length := by simpa using hc
    have hm : (certified_f m parent (l.filter (ownP parent slot)) slot)[0]! ∈ certified_f m parent (l.filter (ownP parent slot)) slot := by rw [getElem!_pos _ 0 hl]; exact List.getElem_mem hl
    generalize (certified_f m parent (l.filter (ownP parent slot)) slot)[0]! = c at hm ⊢
    obtain ⟨_, hz, hq⟩ := mem_certified.1 hm
    have hsz := lowest_size (Int.le_of_lt (q_pos hself hslot)) hq
    refine ⟨rfl, rfl, rfl, (by decide : (2 : Int) ≤ 3), (by decide : (3 : Int) ≤ 4), ?_, hs⟩
    refine allowed_mk3 (valid34 (Or.inl rfl) h1 h2 (by decide : (1 : Int) ≤ 1 ∧ (1 : Int) ≤ 12) (by decide : (0 : Int) ≤ 1 ∧ (1 : Int) ≤ 2) (fun _ => (by decide : (1 : Int) ≤ 1)) ⟨fun _ => hz, fun _ => rfl⟩ (lowest_low _ _) (fun _ _ h => absurd h (by decide : ¬ (1 : Int) = 0))) rfl hself hslot rfl rfl ?_
    skip
    unfold prevote_f
    show (bif decide ((1 : Int) = 1) then _ else _) = true
    simp only [decide_true, cond_true]
    rw [Bool.or_eq_true]
    refine Or.inr (supp_mk (lowest_low _ _) (fun i hi => echoers_sub (lowest_sub hi)) hsz fun i hi => ?_)
    obtain ⟨w, hw, hk, hv, hi2⟩ := echoers_has.1 (lowest_sub hi)
    rw [a16_slots] at hw
    refine ⟨w, hw, hi2, ?_⟩
    unfold prevote1_f
    rw [decide_eq_true hk, Bool.true_and, same_iff]
    exact ⟨((valid_value (a16_mem hw).1).2.2 (Or.inr hk)).1.symm, hv.symm⟩
  | false =>
    rw [hc] at h
    simp only [cond_false] at h ⊢
    cases waited with
    | false => cases h
    | true =>
      simp only [Bool.not_true, cond_false]
      refine ⟨rfl, rfl, rfl, (by decide : (2 : Int) ≤ 3), (by decide : (3 : Int) ≤ 4), ?_, hs⟩
      refine allowed_mk3 (valid34 (Or.inl rfl) h1 h2 (by decide : (1 : Int) ≤ 1 ∧ (1 : Int) ≤ 12) (by decide : (0 : Int) ≤ 0 ∧ (0 : Int) ≤ 2) (fun _ => (by decide : (0 : Int) ≤ 1)) ⟨fun h => absurd h (by decide : ¬ (0 : Int) = 1), fun h => absurd rfl h⟩ low_zero (fun _ _ _ => rfl)) rfl hself hslot rfl rfl ?_
      skip
      unfold prevote_f
      show (bif decide ((1 : Int) = 1) then _ else _) = true
      simp only [decide_true, cond_true]
      rfl
theorem good_precommit {round : Int} (hr : 1 ≤ round ∧ round ≤ 12) (h : (precommit16_f (quorum_f (size_f m)) slot self parent (A16 m slot parent l) (mine_f parent slot self l) round).2 = true) : G16 m slot self parent l (precommit16_f (quorum_f (size_f m)) slot self parent (A16 m slot parent l) (mine_f parent slot self l) round).1 := by
 unfold precommit16_f at h ⊢; have h1 := sig_rng hself hslot; have h2 := slot_rng hself hslot; have hq := q_pos hself hslot; cases hs : (!(signed_f (mine_f parent slot self l) 3 round)) || (signed_f (mine_f parent slot self l) 4 round) with
 | true => rw [hs] at h; cases h
 | false =>
  rw [hs] at h
  rw [Bool.or_eq_false_iff] at hs
  simp only [cond_false] at h ⊢
  have hw16 : ∀ {p : Vt → Bool} {i : Int}, has_f (who16_f (A16 m slot parent l) 3 round p) i = true ↔ ∃ w ∈ A16 m slot parent l, (w.kind = 3 ∧ w.round = round ∧ p w = true) ∧ w.signer = i := has_who16 a16_sig
  cases hf : (values16_f (A16 m slot parent l) 3 round).find? fun x => enough_f (quorum_f (size_f m)) (whoIs (A16 m slot parent l) 3 round x) with
  | some x =>
    simp only []
    obtain ⟨w, hw, ⟨hk, hwr, hc2⟩, hx⟩ := mem_values16.1 (List.mem_of_find?_eq_some hf)
    have hen := List.find?_some hf
    unfold enough_f at hen
    simp only [decide_eq_true_eq] at hen
    rw [of_eq] at hx
    have hwv := (a16_mem hw).1
    have hch := valid_prevote hwv (Or.inl hk)
    have hval := (valid_value hwv).1
    rw [hx.1, hx.2] at hval
    rw [hx.1] at hch
    have hsz := lowest_size (Int.le_of_lt hq) hen
    refine ⟨rfl, rfl, rfl, (by decide : (2 : Int) ≤ 4), (by decide : (4 : Int) ≤ 4), ?_, hs.2⟩
    refine allowed_mk4 (valid34 (Or.inr rfl) h1 h2 hr ⟨hch.2.2.1, hch.2.2.2.1⟩ (fun h => absurd h (by decide : ¬ (4 : Int) = 3)) hval (lowest_low _ _) (fun h => absurd h (by decide : ¬ (4 : Int) = 3))) rfl hself hslot rfl rfl ?_
    skip
    unfold precommit_f
    have hne : ¬ x.validator = 2 := by have := hch.2.2.2.2 hk; omega
    show (bif !decide (x.validator = 2) then _ else _) = true
    rw [decide_eq_false hne]
    simp only [Bool.not_false, cond_true]
    refine supp_mk (lowest_low _ _) (fun i hi => ?_) hsz fun i hi => ?_
    · obtain ⟨w, hw, _, e⟩ := hw16.1 (lowest_sub hi)
      rw [← e]; exact (a16_mem hw).2.2.2.2.1
    · obtain ⟨w, hw, ⟨hk, hwr, hp⟩, e⟩ := hw16.1 (lowest_sub hi)
      refine ⟨w, hw, e, ?_⟩
      simp only [decide_eq_true_eq, of_eq] at hp
      unfold precommit2_f precommit1_f
      simp only [Bool.and_eq_true, decide_eq_true_eq, same_iff]
      exact ⟨⟨hk, hwr⟩, hp.1.symm, hp.2.symm⟩
  | none =>
    rw [hf] at h
    simp only [] at h ⊢
    cases he : enough_f (quorum_f (size_f m)) (who16_f (A16 m slot parent l) 3 round fun _ => true) with
    | false => rw [he] at h; cases h
    | true =>
      simp only [cond_true]
      unfold enough_f at he
      simp only [decide_eq_true_eq] at he
      have hsz := lowest_size (Int.le_of_lt hq) he
      refine ⟨rfl, rfl, rfl, (by decide : (2 : Int) ≤ 4), (by decide : (4 : Int) ≤ 4), ?_, hs.2⟩
      refine allowed_mk4 (valid34 (Or.inr rfl) h1 h2 hr (by decide : (0 : Int) ≤ 2 ∧ (2 : Int) ≤ 2) (fun h => absurd h (by decide : ¬ (4 : Int) = 3)) ⟨fun h => absurd h (by decide : ¬ (2 : Int) = 1), fun h => absurd rfl h⟩ (lowest_low _ _) (fun h => absurd h (by decide : ¬ (4 : Int) = 3))) rfl hself hslot rfl rfl ?_
      skip
      generalize hv : vote16_f slot self parent 4 round ⟨2, Nm.zero⟩ (lowest_f (who16_f (A16 m slot parent l) 3 round fun _ => true) (quorum_f (size_f m))) = v
      have ec : v.choice = 2 := by rw [← hv]; rfl
      have er : v.round = round := by rw [← hv]; rfl
      have es : v.support = lowest_f (who16_f (A16 m slot parent l) 3 round fun _ => true) (quorum_f (size_f m)) := by rw [← hv]; rfl
      have hp1 : ∀ i, has_f v.support i = true → ∃ w ∈ A16 m slot parent l, w.signer = i ∧ precommit1_f w v = true := fun i hi => by
        rw [es] at hi
        obtain ⟨w, hw, ⟨hk, hwr, _⟩, e⟩ := hw16.1 (lowest_sub hi)
        refine ⟨w, hw, e, ?_⟩
        unfold precommit1_f
        rw [er, decide_eq_true hk, decide_eq_true hwr]; rfl
      have hsup : supported_f m (quorum_f (size_f m)) v (A16 m slot parent l) (fun xx => precommit1_f xx v) = true := by
        refine supp_mk (by rw [es]; exact lowest_low _ _) (fun i hi => ?_) (by rw [es]; exact hsz) hp1
        obtain ⟨w, hw, e, _⟩ := hp1 i hi
        rw [← e]; exact (a16_mem hw).2.2.2.2.1
      unfold precommit_f
      rw [ec, hsup]
      simp only [decide_true, Bool.not_true, cond_false]
      rw [anySt_two]
      -- two unlike votes: else one value would have been enough
      have hsq : size_f v.support = quorum_f (size_f m) := by rw [es]; exact hsz
      obtain ⟨i, hi⟩ := size_pos (X := v.support) (by rw [hsq]; exact hq)
      obtain ⟨y, hy, hyi, hyp⟩ := hp1 i hi
      refine Classical.byContradiction fun hno => ?_
      have hsame : ∀ x ∈ A16 m slot parent l, pre3ok v x = true → same_f y x = true := fun x hx hpx => by
        cases hs2 : same_f y x with
        | true => rfl
        | false => exact absurd ⟨x, hx, y, hy, hpx, by unfold pre3ok; rw [hyp, hyi, hi]; rfl, hs2⟩ hno
      unfold precommit1_f at hyp
      simp only [Bool.and_eq_true, decide_eq_true_eq] at hyp
      have hyv := valid_prevote (a16_mem hy).1 (Or.inl hyp.1)
      have hymem : of_f y ∈ values16_f (A16 m slot parent l) 3 round := mem_values16.2 ⟨y, hy, ⟨hyp.1, hyp.2.trans er, by have := hyv.2.2.2.2 hyp.1; omega⟩, rfl⟩
      have hnot := List.find?_eq_none.1 hf _ hymem
      refine hnot ?_
      unfold enough_f
      rw [decide_eq_true_eq, ← hsq]
      have hsub : size_f v.support ≤ (cnt (whoIs (A16 m slot parent l) 3 round (of_f y)) (fun _ => true) : Int) := size_le_cnt fun j hj => ⟨by
        obtain ⟨x, hx, hxj, hxp⟩ := hp1 j hj
        have hsx := hsame x hx (by unfold pre3ok; rw [hxp, hxj, hj]; rfl)
        unfold precommit1_f at hxp
        simp only [Bool.and_eq_true, decide_eq_true_eq] at hxp
        rw [same_iff] at hsx
        exact hw16.2 ⟨x, hx, ⟨hxp.1, hxp.2.trans er, by rw [decide_eq_true_eq, of_eq]; exact ⟨hsx.1.symm, hsx.2.symm⟩⟩, hxj⟩, rfl⟩
      have := cnt_le_size (m := whoIs (A16 m slot parent l) 3 round (of_f y)) (X := whoIs (A16 m slot parent l) 3 round (of_f y)) (p := fun _ => true) (fun _ h _ => h)
      omega
theorem good_prevote {round : Int} (hr : 1 ≤ round ∧ round < 12) (h : (prevote16_f (quorum_f (size_f m)) slot self parent (A16 m slot parent l) (mine_f parent slot self l) round).2 = true) : G16 m slot self parent l (prevote16_f (quorum_f (size_f m)) slot self parent (A16 m slot parent l) (mine_f parent slot self l) round).1 := by
 unfold prevote16_f at h ⊢; have h1 := sig_rng hself hslot; have h2 := slot_rng hself hslot; have hq := q_pos hself hslot; cases hs : (!(signed_f (mine_f parent slot self l) 4 round)) || (signed_f (mine_f parent slot self l) 3 (round + 1)) with
 | true => rw [hs] at h; cases h
 | false =>
  rw [hs] at h
  rw [Bool.or_eq_false_iff] at hs
  simp only [cond_false] at h ⊢
  have hw16 : ∀ {p : Vt → Bool} {i : Int}, has_f (who16_f (A16 m slot parent l) 4 round p) i = true ↔ ∃ w ∈ A16 m slot parent l, (w.kind = 4 ∧ w.round = round ∧ p w = true) ∧ w.signer = i := has_who16 a16_sig
  have hin : ∀ {p : Vt → Bool} {i : Int}, has_f (who16_f (A16 m slot parent l) 4 round p) i = true → has_f m i = true := fun hi => by
    obtain ⟨w, hw, _, e⟩ := hw16.1 hi
    rw [← e]; exact (a16_mem hw).2.2.2.2.1
  cases hf : (values16_f (A16 m slot parent l) 4 round).find? fun x => enough_f (quorum_f (size_f m)) (ior (whoIs (A16 m slot parent l) 4 round x) (mixed16 (A16 m slot parent l) round)) with
  | some x =>
    simp only []
    obtain ⟨w, hw, ⟨hk, hwr, hc2⟩, hx⟩ := mem_values16.1 (List.mem_of_find?_eq_some hf)
    have hen := List.find?_some hf
    unfold enough_f at hen
    simp only [decide_eq_true_eq] at hen
    have hxw := of_eq.1 hx
    have hwv := (a16_mem hw).1
    have hch := valid_prevote hwv (Or.inr hk)
    have hval := (valid_value hwv).1
    rw [hxw.1, hxw.2] at hval
    rw [hxw.1] at hch hc2
    -- the sets
    have hone : has_f (whoIs (A16 m slot parent l) 4 round x) w.signer = true := hw16.2 ⟨w, hw, ⟨hk, hwr, decide_eq_true hx⟩, rfl⟩
    have hX : ∀ i, has_f (whoIs (A16 m slot parent l) 4 round x) i = true → ∃ w ∈ A16 m slot parent l, w.signer = i ∧ w.kind = 4 ∧ w.round = round ∧ w.choice = x.validator ∧ w.value = x.value := fun i hi => by
      obtain ⟨w, hw, ⟨hk, hwr, hp⟩, e⟩ := hw16.1 hi
      simp only [decide_eq_true_eq, of_eq] at hp
      exact ⟨w, hw, e, hk, hwr, hp⟩
    have hM : ∀ i, has_f (mixed16 (A16 m slot parent l) round) i = true → ∃ w ∈ A16 m slot parent l, w.signer = i ∧ w.kind = 4 ∧ w.round = round ∧ w.choice = 2 := fun i hi => by
      obtain ⟨w, hw, ⟨hk, hwr, hp⟩, e⟩ := hw16.1 hi
      simp only [decide_eq_true_eq] at hp
      exact ⟨w, hw, e, hk, hwr, hp⟩
    have hXm : ∀ i, has_f (ior (whoIs (A16 m slot parent l) 4 round x) (mixed16 (A16 m slot parent l) round)) i = true → has_f m i = true := fun i hi => by
      rw [has_ior, Bool.or_eq_true] at hi
      exact hi.elim hin hin
    generalize whoIs (A16 m slot parent l) 4 round x = X at hen hone hX hXm
    generalize mixed16 (A16 m slot parent l) round = M at hen hM hXm
    have hs1 : size_f (lowest_f X 1) = 1 := lowest_size (by decide) (by have := size_some hone; omega)
    have hrest : size_f (ior X M) = size_f (lowest_f X 1) + size_f (iandn (ior X M) (lowest_f X 1)) := by
      rw [← size_or (fun i h1 h2 => by rw [has_iandn, h1] at h2; simp at h2)]
      rw [size_ids, size_ids]
      congr 2
      unfold ids_f
      refine List.filter_congr fun i _ => ?_
      rw [Bool.eq_iff_iff, has_ior (lowest_f X 1), has_iandn, Bool.or_eq_true, Bool.and_eq_true, Bool.not_eq_true']
      constructor
      · intro h
        cases hL : has_f (lowest_f X 1) i with
        | true => exact Or.inl rfl
        | false => exact Or.inr ⟨h, rfl⟩
      · rintro (h | h)
        · rw [has_ior, lowest_sub h]; rfl
        · exact h.1
    have hs2 : size_f (lowest_f (iandn (ior X M) (lowest_f X 1)) (quorum_f (size_f m) - 1)) = quorum_f (size_f m) - 1 := lowest_size (by omega) (by omega)
    have hsz : size_f (ior (lowest_f X 1) (lowest_f (iandn (ior X M) (lowest_f X 1)) (quorum_f (size_f m) - 1))) = quorum_f (size_f m) := by
      rw [size_or (fun i h1 h2 => by
        have := lowest_sub h2
        rw [has_iandn, h1] at this
        simp at this), hs1, hs2]
      omega
    have hlow := low_ior (lowest_low X 1) (lowest_low (iandn (ior X M) (lowest_f X 1)) (quorum_f (size_f m) - 1))
    have hsub : ∀ i, has_f (ior (lowest_f X 1) (lowest_f (iandn (ior X M) (lowest_f X 1)) (quorum_f (size_f m) - 1))) i = true → has_f (ior X M) i = true := fun i hi => by
      rw [has_ior, Bool.or_eq_true] at hi
      rcases hi with hi | hi
      · rw [has_ior, lowest_sub hi]; rfl
      · have := lowest_sub hi
        rw [has_iandn, Bool.and_eq_true] at this
        exact this.1
    obtain ⟨i0, hi0⟩ := size_pos (X := lowest_f X 1) (by omega)
    have hi0s : has_f (ior (lowest_f X 1) (lowest_f (iandn (ior X M) (lowest_f X 1)) (quorum_f (size_f m) - 1))) i0 = true := by rw [has_ior, hi0]; rfl
    generalize ior (lowest_f X 1) (lowest_f (iandn (ior X M) (lowest_f X 1)) (quorum_f (size_f m) - 1)) = U at hsz hlow hsub hi0s
    refine ⟨rfl, rfl, rfl, (by decide : (2 : Int) ≤ 3), (by decide : (3 : Int) ≤ 4), ?_, hs.2⟩
    have hc1 : x.validator ≤ 1 := by omega
    refine allowed_mk3 (valid34 (Or.inl rfl) h1 h2 (⟨by omega, by omega⟩ : 1 ≤ round + 1 ∧ round + 1 ≤ 12) ⟨hch.2.2.1, hch.2.2.2.1⟩ (fun _ => hc1) hval hlow (fun _ h => absurd h (by omega : ¬ round + 1 = 1))) rfl hself hslot rfl rfl ?_
    skip
    generalize hv : vote16_f slot self parent 3 (round + 1) x U = v
    have ec : v.choice = x.validator := by rw [← hv]; rfl
    have ev : v.value = x.value := by rw [← hv]; rfl
    have er : v.round = round + 1 := by rw [← hv]; rfl
    have es : v.support = U := by rw [← hv]; rfl
    rw [prevote_alts (by omega)]
    have hP2 : ∀ w : Vt, w.kind = 4 → w.round = round → w.choice = x.validator → w.value = x.value → P2 v w = true := fun w a b c d => P2_iff'.2 ⟨a, by omega, by rw [same_iff, ec, ev]; exact ⟨c.symm, d.symm⟩⟩
    have hfirst : firstAlt m v (A16 m slot parent l) = true := by
      unfold firstAlt
      rw [Bool.and_eq_true]
      refine ⟨supp_mk (by rw [es]; exact hlow) (fun i hi => hXm i (hsub i (by rw [← es]; exact hi))) (by rw [es]; exact hsz) fun i hi => ?_, ?_⟩
      · have hi2 := hsub i (by rw [← es]; exact hi)
        rw [has_ior, Bool.or_eq_true] at hi2
        rcases hi2 with hi2 | hi2
        · obtain ⟨w, hw, a, b, c, d, e⟩ := hX i hi2
          exact ⟨w, hw, a, P4_iff.2 (Or.inl (hP2 w b c d e))⟩
        · obtain ⟨w, hw, a, b, c, d⟩ := hM i hi2
          exact ⟨w, hw, a, P4_iff.2 (Or.inr (P3_iff.2 ⟨b, by omega, d⟩))⟩
      · obtain ⟨w, hw, a, b, c, d, e⟩ := hX i0 (lowest_sub hi0)
        exact List.any_eq_true.2 ⟨w, hw, P5_iff.2 ⟨by rw [es, a]; exact hi0s, hP2 w b c d e⟩⟩
    rw [hfirst]; rfl
  | none =>
    rw [hf] at h
    simp only [] at h ⊢
    cases he : !(enough_f (quorum_f (size_f m)) (mixed16 (A16 m slot parent l) round)) with
    | true => rw [he] at h; cases h
    | false =>
      rw [he] at h
      simp only [cond_false] at h ⊢
      cases hc : !(carried_f (A16 m slot parent l) round).2 with
      | true => rw [hc] at h; cases h
      | false =>
        simp only [cond_false]
        unfold enough_f at he
        simp only [Bool.not_eq_false', decide_eq_true_eq] at he hc
        have hcm : (carried_f (A16 m slot parent l) round).1 ∈ values16_f (A16 m slot parent l) 3 round := by
          unfold carried_f at hc ⊢
          cases h0 : decide ((values16_f (A16 m slot parent l) 3 round).length = 0) with
          | true => rw [h0] at hc; cases hc
          | false =>
            simp only [cond_false, decide_eq_false_iff_not] at h0 ⊢
            cases h3 : (decide ((round + 1) % 2 = 1) && decide ((values16_f (A16 m slot parent l) 3 round)[0]!.validator = 0)) && decide (1 < (values16_f (A16 m slot parent l) 3 round).length) with
            | true =>
              simp only [Bool.and_eq_true, decide_eq_true_eq] at h3
              simp only [cond_true]
              rw [getElem!_pos _ 1 h3.2]; exact List.getElem_mem h3.2
            | false =>
              simp only [cond_false]
              have h0' : 0 < (values16_f (A16 m slot parent l) 3 round).length := by omega
              rw [getElem!_pos _ 0 h0']; exact List.getElem_mem h0'
        generalize (carried_f (A16 m slot parent l) round).1 = x at hcm
        obtain ⟨w, hw, ⟨hk, hwr, hc2⟩, hx⟩ := mem_values16.1 hcm
        have hxw := of_eq.1 hx
        have hwv := (a16_mem hw).1
        have hch := valid_prevote hwv (Or.inl hk)
        have hval := (valid_value hwv).1
        rw [hxw.1, hxw.2] at hval
        rw [hxw.1] at hch hc2
        have hsz := lowest_size (Int.le_of_lt hq) he
        refine ⟨rfl, rfl, rfl, (by decide : (2 : Int) ≤ 3), (by decide : (3 : Int) ≤ 4), ?_, hs.2⟩
        refine allowed_mk3 (valid34 (Or.inl rfl) h1 h2 (⟨by omega, by omega⟩ : 1 ≤ round + 1 ∧ round + 1 ≤ 12) ⟨hch.2.2.1, hch.2.2.2.1⟩ (fun _ => by have := hch.2.2.2.2 hk; exact this) hval (lowest_low _ _) (fun _ h => absurd h (by omega : ¬ round + 1 = 1))) rfl hself hslot rfl rfl ?_
        skip
        generalize hv : vote16_f slot self parent 3 (round + 1) x (lowest_f (mixed16 (A16 m slot parent l) round) (quorum_f (size_f m))) = v
        have ec : v.choice = x.validator := by rw [← hv]; rfl
        have ev : v.value = x.value := by rw [← hv]; rfl
        have er : v.round = round + 1 := by rw [← hv]; rfl
        have es : v.support = lowest_f (mixed16 (A16 m slot parent l) round) (quorum_f (size_f m)) := by rw [← hv]; rfl
        rw [prevote_alts (by omega)]
        have hsec : secondAlt m v (A16 m slot parent l) = true := by
          unfold secondAlt
          rw [Bool.and_eq_true]
          refine ⟨supp_mk (by rw [es]; exact lowest_low _ _) (fun i hi => ?_) (by rw [es]; exact hsz) fun i hi => ?_, ?_⟩
          · rw [es] at hi; exact hin (lowest_sub hi)
          · rw [es] at hi
            obtain ⟨w, hw, ⟨hk, hwr, hp⟩, e⟩ := hw16.1 (lowest_sub hi)
            simp only [decide_eq_true_eq] at hp
            exact ⟨w, hw, e, P3_iff.2 ⟨hk, by omega, hp⟩⟩
          · exact List.any_eq_true.2 ⟨w, hw, P6_iff'.2 ⟨hk, by omega, by rw [same_iff, ec, ev]; exact ⟨hxw.1.symm, hxw.2.symm⟩⟩⟩
        rw [hsec]
        cases firstAlt m v (A16 m slot parent l) <;> rfl
end
theorem good_rounds {G : Vt → Prop} {pc pv : Int → Vt × Bool} (h1 : ∀ r, 1 ≤ r ∧ r ≤ 12 → (pc r).2 = true → G (pc r).1) (h2 : ∀ r, 1 ≤ r ∧ r < 12 → (pv r).2 = true → G (pv r).1) : ∀ (n : Nat) (r : Int), 1 ≤ r → r + n ≤ 13 → (rounds16 pc pv n r).2 = true → G (rounds16 pc pv n r).1
  | 0, _, _, _, h => by cases h
  | n + 1, r, hr, hn, h => by
    have e : rounds16 pc pv (n + 1) r = bif (pc r).2 then ((pc r).1, true) else bif (pv r).2 && decide (r < 12) then ((pv r).1, true) else rounds16 pc pv n (r + 1) := rfl
    rw [e] at h ⊢
    cases hp : (pc r).2 with
    | true => exact h1 r (by omega) hp
    | false =>
      rw [hp] at h
      simp only [cond_false] at h ⊢
      cases hq : (pv r).2 && decide (r < 12) with
      | true =>
        simp only [Bool.and_eq_true, decide_eq_true_eq] at hq
        exact h2 r ⟨hr, hq.2⟩ hq.1
      | false =>
        rw [hq] at h
        exact good_rounds h1 h2 n (r + 1) (by omega) (by omega) h
section
variable {m slot self : Int} {parent : Nm} {l : List Vt} {held : List Nm} {waited : Bool}
theorem good_next (h : (next16_f m parent l slot self held waited).2 = true) : G16 m slot self parent l (next16_f m parent l slot self held waited).1 := by
 unfold next16_f at h ⊢; cases hg : ((!(has_f m self)) || (!(has_f m slot))) || (decide (0 < (outcomes_f m parent l slot).length)) with
 | true => rw [hg] at h; cases h
 | false =>
  rw [hg] at h
  simp only [Bool.or_eq_false_iff, Bool.not_eq_false'] at hg
  have hself := hg.1.1
  have hslot := hg.1.2
  simp only [cond_false] at h ⊢
  cases he : (echo16_f m slot self parent (mine_f parent slot self l) (l.filter (ownP parent slot)) held).2 with
  | true => exact good_echo hself hslot he
  | false =>
    rw [he] at h
    simp only [cond_false] at h ⊢
    cases hf : (first16_f m (quorum_f (size_f m)) slot self parent (mine_f parent slot self l) (l.filter (ownP parent slot)) waited).2 with
    | true => exact good_first hself hslot hf
    | false =>
      rw [hf] at h
      simp only [cond_false] at h ⊢
      exact good_rounds (fun r hr h => good_precommit hself hslot hr h) (fun r hr h => good_prevote hself hslot hr h) 12 1 (by decide) (by decide) h
theorem rounds_zero {pc pv : Int → Vt × Bool} : ∀ (n : Nat) (r : Int), (rounds16 pc pv n r).2 = false → (rounds16 pc pv n r).1 = vt0
  | 0, _, _ => rfl
  | n + 1, r, h => by
    have e : rounds16 pc pv (n + 1) r = bif (pc r).2 then ((pc r).1, true) else bif (pv r).2 && decide (r < 12) then ((pv r).1, true) else rounds16 pc pv n (r + 1) := rfl
    rw [e] at h ⊢
    cases hp : (pc r).2 with
    | true => rw [hp] at h; cases h
    | false =>
      rw [hp] at h
      simp only [cond_false] at h ⊢
      cases hq : (pv r).2 && decide (r < 12) with
      | true => rw [hq] at h; cases h
      | false => rw [hq] at h; exact rounds_zero n (r + 1) h
theorem next_zero (h : (next16_f m parent l slot self held waited).2 = false) : (next16_f m parent l slot self held waited).1 = vt0 := by
 unfold next16_f at h ⊢; cases hg : ((!(has_f m self)) || (!(has_f m slot))) || (decide (0 < (outcomes_f m parent l slot).length)) with
 | true => rfl
 | false =>
  rw [hg] at h
  simp only [cond_false] at h ⊢
  cases he : (echo16_f m slot self parent (mine_f parent slot self l) (l.filter (ownP parent slot)) held).2 with
  | true => rw [he] at h; cases h
  | false =>
    rw [he] at h
    simp only [cond_false] at h ⊢
    cases hf : (first16_f m (quorum_f (size_f m)) slot self parent (mine_f parent slot self l) (l.filter (ownP parent slot)) waited).2 with
    | true => rw [hf] at h; cases h
    | false =>
      rw [hf] at h
      exact rounds_zero 12 1 h
theorem G16.guard {v : Vt} (h : G16 m slot self parent l v) : (((((((!(valid_f v)) || (!decide (v.signer = self))) || (!decide (v.slot = slot))) || (!decide (v.parent = parent))) || (decide (v.kind < 2))) || (decide (4 < v.kind)))) = false := by
 rw [(allowed_guard h.ok).1, decide_eq_true h.sig, decide_eq_true h.slt, decide_eq_true h.par, decide_eq_false (by have := h.lo; omega), decide_eq_false (by have := h.hi; omega)]; rfl
theorem G16.fresh {v : Vt} (h : G16 m slot self parent l v) {i : Nat} (hi : i < l.length) : ((sameKey_f v l[i]!) && (valid_f l[i]!)) = false := by
 cases hs : (sameKey_f v l[i]!) && (valid_f l[i]!) with
 | false => rfl
 | true =>
  unfold sameKey_f at hs
  simp only [Bool.and_eq_true, decide_eq_true_eq] at hs
  obtain ⟨⟨⟨⟨⟨e1, e2⟩, e3⟩, e4⟩, e5⟩, e6⟩ := hs
  have hm : l[i]! ∈ l := by rw [getElem!_pos l i hi]; exact List.getElem_mem hi
  have hc := (mine_count parent slot self l l.length (Nat.le_refl _)).2 ⟨v.kind, v.round⟩
  rw [List.take_length] at hc
  have hp : 0 < cntMine parent slot self l ⟨v.kind, v.round⟩ := by
    unfold cntMine
    refine List.length_pos_of_mem (List.mem_filter.2 ⟨hm, ?_⟩)
    unfold ownP mineP
    rw [← e3, h.slt, ← e2, h.par, ← e5, h.sig, e6, ← e1, ← e4]
    simp
  have hn := h.new
  unfold signed_f at hn
  rw [hc] at hn
  simp only [decide_eq_false_iff_not] at hn
  omega
theorem G16.allow {v : Vt} (h : G16 m slot self parent l v) : allowed_f m v (accepted_f m parent l) = true := allowed_sub (acc_mono fun x hx => (List.mem_filter.1 hx).1) h.ok
end
end Go.Proofs.YtdknjfmjddlphaaGreat
set_option linter.unusedSimpArgs false
set_option linter.unusedVariables false
namespace Go.Proofs.YtdknjfmjddlphaaGreat
open Go Go.Fk
set_option maxRecDepth 100000 in
set_option maxHeartbeats 8000000 in
theorem AgreementAllowed_ok {m : Int} {parent : Nm} {A_l : Option Addr} {c_l lo_l hi_l : Nat} {l : List Vt} {slot : Int} {self : Int} {A_held : Option Addr} {c_held lo_held hi_held : Nat} {held : List Nm} {waited : Bool}  {w : World} (hR_l : Rd w lo_l hi_l A_l l) (hcap_l : l.length ≤ c_l) (hR_held : Rd w lo_held hi_held A_held held) (hcap_held : held.length ≤ c_held) : Gives Tryz.prog 11 #[(.int .i64 m), (Enc.val (parent : Nm)), (.slice A_l l.length c_l), (.int .i64 slot), (.int .i64 self), (.slice A_held held.length c_held), (.bool waited)] w fun u w' => u = (.bool true) ∧ Ext w w' := by
 have hE : Ext w w := Ext.refl w; have hlen_l := hR_l.len; have hlen_held := hR_held.len; refine gives_of_W Tryz.func11 rfl Tryz.ntmps11 rfl ?_; have htl : (l.take 250).length ≤ 250 := List.length_take_le _ _; have hth : (held.take 40).length ≤ 40 := List.length_take_le _ _; have hal := acc_len m parent (l.take 250); refine W.seq ?_; refine W.region (by rfl) ?_; refine L.step rfl (op_box (cs := (Enc.cells (parent : Nm))) rfl rfl rfl) ?_; rintro _ w1 ⟨b1, rfl, hb1, hB1, hx1⟩; have hE := hE.trans hx1; have hR_l := hR_l.ext hx1; have hR_held := hR_held.ext hx1; refine L.val (v := (.bool false)) rfl (op_assign rfl rfl) ?_; refine L.nil ?_; refine thenF_nor ?_; refine W.seq ?_; refine W.region (by rfl) ?_; refine L.val rfl (op_move rfl rfl) ?_; refine L.step rfl (OpS.call (op_call rfl (argsC rfl argsN) Tryz.func39 rfl rfl) (cut16_ok hR_l hcap_l)) ?_; rintro _ w2 ⟨⟨A2, c2, lo2, hi2, rfl, hcap2, hR2⟩, hx2⟩; have hE := hE.trans hx2; have hR_held := hR_held.ext hx2; have hB1 := hB1.ext hx2; have hlen2 := hR2.len; refine L.val rfl (op_move rfl rfl) ?_; refine L.step rfl (OpS.call (op_call rfl (argsC rfl argsN) Tryz.func40 rfl rfl) (few16_ok hR_held hcap_held)) ?_; rintro _ w3 ⟨⟨A3, c3, lo3, hi3, rfl, hcap3, hR3⟩, hx3⟩; have hE := hE.trans hx3; have hB1 := hB1.ext hx3; have hR2 := hR2.ext hx3; have hlen3 := hR3.len; refine L.val rfl (op_assign rfl rfl) ?_; refine L.val rfl (op_assign rfl rfl) ?_; refine L.nil ?_; refine thenF_nor ?_; refine W.seq ?_; refine W.region (by rfl) ?_; refine L.val rfl (op_move rfl rfl) ?_; refine L.val rfl (op_load (v := (parent : Nm)) rfl rfl ty24 hB1.cells) ?_; refine L.val rfl (op_move rfl rfl) ?_; refine L.val rfl (op_move rfl rfl) ?_; refine L.val rfl (op_move rfl rfl) ?_; refine L.val rfl (op_move rfl rfl) ?_; refine L.val rfl (op_move rfl rfl) ?_; refine L.call (v := (.tuple #[(Enc.val ((next16_f m parent (l.take 250) slot self (held.take 40) waited).1 : Vt)), (.bool ((next16_f m parent (l.take 250) slot self (held.take 40) waited).2))])) rfl (OpS.call (op_call rfl (argsC rfl (argsC rfl (argsC rfl (argsC rfl (argsC rfl (argsC rfl (argsC rfl argsN))))))) Tryz.func41 rfl rfl) (next16_ok hR2 hR3 (by first | omega | (simp only [List.length_drop, List.length_take, List.length_append, List.length_cons, List.length_nil] at *; omega)) (by first | omega | (simp only [List.length_drop, List.length_take, List.length_append, List.length_cons, List.length_nil] at *; omega)))) ?_; intro w4 hx4; have hE := hE.trans hx4; have hB1 := hB1.ext hx4; have hR2 := hR2.ext hx4; refine L.val rfl (op_move rfl rfl) ?_; refine L.val rfl (op_extract rfl rfl rfl) ?_; refine L.val rfl (op_extract rfl rfl rfl) ?_; refine L.newvar (v := (Enc.val ((next16_f m parent (l.take 250) slot self (held.take 40) waited).1 : Vt))) (cs := (Enc.cells ((next16_f m parent (l.take 250) slot self (held.take 40) waited).1 : Vt))) rfl rfl rfl rfl rfl rfl (fun _ => rfl) rfl si47 zs47 (Enc.one _) ?_; intro b5 w5 hb5 hB5 hx5; have hbb5_hE := Nat.le_trans hE.size hb5; have hE := hE.trans hx5; have hB1 := hB1.ext hx5; have hR2 := hR2.ext hx5; refine L.val rfl (op_assign rfl rfl) ?_; refine L.nil ?_; refine thenF_nor ?_; refine W.seq ?_; refine W.seq ?_; refine W.region (by rfl) ?_; refine L.val rfl (op_move rfl rfl) ?_; refine L.val rfl (op_not rfl rfl) ?_; refine L.nil ?_; refine thenF_nor ?_; refine W.cond (t := !((next16_f m parent (l.take 250) slot self (held.take 40) waited).2)) rfl (fun hc6 => ?_) (fun hc6 => ?_)
 ·have hp6 := hc6; (try simp only [Bool.and_eq_true, Bool.or_eq_true, Bool.and_eq_false_iff, Bool.or_eq_false_iff, Bool.not_eq_true', Bool.not_eq_false', decide_eq_true_eq, decide_eq_false_iff_not] at hp6); have hno : (next16_f m parent (l.take 250) slot self (held.take 40) waited).2 = false := by simpa using hc6
  refine W.seq ?_; refine W.region (by rfl) ?_; refine L.val rfl (op_load (v := ((next16_f m parent (l.take 250) slot self (held.take 40) waited).1 : Vt)) rfl rfl ty47 hB5.cells) ?_; refine L.val rfl (op_build (v := Enc.val (⟨0, 0, 0, 0, 0, 0, Nm.zero, Nm.zero⟩ : Vt)) (cs := Enc.cells (⟨0, 0, 0, 0, 0, 0, Nm.zero, Nm.zero⟩ : Vt)) rfl partsN (by kernel_rfl) rfl) ?_; refine L.val rfl (op_eqle (a := (((next16_f m parent (l.take 250) slot self (held.take 40) waited).1 : Vt) : Vt)) (b := ((⟨0, 0, 0, 0, 0, 0, Nm.zero, Nm.zero⟩ : Vt) : Vt)) rfl rfl rfl eq47 (fun _ => ⟨_, rfl⟩) Tryz.eqGuardType47) ?_; refine L.val rfl (op_move rfl rfl) ?_; refine L.guardc (v := (.bool true)) (wanted_yes rfl rfl rfl) (fun hg => (OpS.call (op_call rfl argsN Tryz.func43 rfl rfl) awake16_ok)) ?_; intro w7 hx7; have hE := hE.trans hx7; refine L.val rfl (op_and rfl rfl rfl rfl) ?_; refine L.val rfl (op_assign rfl rfl) ?_; refine L.nil ?_; refine thenF_nor ?_; refine W.ret ?_; refine thenF_ret ?_; exact end_ret1 (v := (.bool ((decide (((next16_f m parent (l.take 250) slot self (held.take 40) waited).1 : Vt) = (⟨0, 0, 0, 0, 0, 0, Nm.zero, Nm.zero⟩ : Vt))) && true))) rfl rfl ⟨(by rw [next_zero hno]; rfl), hE⟩
 ·have hp6 := hc6; (try simp only [Bool.and_eq_true, Bool.or_eq_true, Bool.and_eq_false_iff, Bool.or_eq_false_iff, Bool.not_eq_true', Bool.not_eq_false', decide_eq_true_eq, decide_eq_false_iff_not] at hp6); have hgd := good_next (m := m) (parent := parent) (l := (l.take 250)) (slot := slot) (self := self) (held := (held.take 40)) (waited := waited) (by simpa using hc6); refine W.skip ?_; refine thenF_nor ?_; refine W.seq ?_; refine W.seq ?_; refine W.region (by rfl) ?_; refine L.val rfl (op_load (v := ((next16_f m parent (l.take 250) slot self (held.take 40) waited).1 : Vt)) rfl rfl ty47 hB5.cells) ?_; refine L.call (v := (.bool (valid_f ((next16_f m parent (l.take 250) slot self (held.take 40) waited).1 : Vt)))) rfl (OpS.call (op_call rfl (argsC rfl argsN) Tryz.func44 rfl rfl) Valid_ok) ?_; intro w8 hx8; have hE := hE.trans hx8; have hB1 := hB1.ext hx8; have hR2 := hR2.ext hx8; have hB5 := hB5.ext hx8; refine L.val rfl (op_not rfl rfl) ?_; refine L.val rfl (op_move rfl rfl) ?_; refine L.guardv (v := (.pointer (some ⟨b5, 4, none⟩))) (wanted_no rfl rfl rfl) (fun hg => (op_field rfl rfl fo47_4 rfl)) ?_; refine L.guardv (v := (.int .i64 (((next16_f m parent (l.take 250) slot self (held.take 40) waited).1 : Vt).signer))) (wanted_no rfl rfl rfl) (fun hg => (op_load1 rfl ((show _ = vif _ (.pointer (some ⟨b5, 4, none⟩)) from rfl).trans (vif_t hg).symm) one3 (hB5.cells.one (n := 4) rfl))) ?_; refine L.guardv (v := (.int .i64 self)) (wanted_no rfl rfl rfl) (fun hg => (op_move rfl rfl)) ?_; refine L.guardv (v := (.bool (!decide ((((next16_f m parent (l.take 250) slot self (held.take 40) waited).1 : Vt).signer) = self)))) (wanted_no rfl rfl rfl) (fun hg => (op_neq rfl ((show _ = vif _ (.int .i64 (((next16_f m parent (l.take 250) slot self (held.take 40) waited).1 : Vt).signer)) from rfl).trans (vif_t hg).symm) ((show _ = vif _ (.int .i64 self) from rfl).trans (vif_t hg).symm))) ?_; refine L.val rfl (op_or rfl rfl rfl rfl) ?_; refine L.val rfl (op_move rfl rfl) ?_; refine L.guardv (v := (.pointer (some ⟨b5, 1, none⟩))) (wanted_no rfl rfl rfl) (fun hg => (op_field rfl rfl fo47_1 rfl)) ?_; refine L.guardv (v := (.int .i64 (((next16_f m parent (l.take 250) slot self (held.take 40) waited).1 : Vt).slot))) (wanted_no rfl rfl rfl) (fun hg => (op_load1 rfl ((show _ = vif _ (.pointer (some ⟨b5, 1, none⟩)) from rfl).trans (vif_t hg).symm) one3 (hB5.cells.one (n := 1) rfl))) ?_; refine L.guardv (v := (.int .i64 slot)) (wanted_no rfl rfl rfl) (fun hg => (op_move rfl rfl)) ?_; refine L.guardv (v := (.bool (!decide ((((next16_f m parent (l.take 250) slot self (held.take 40) waited).1 : Vt).slot) = slot)))) (wanted_no rfl rfl rfl) (fun hg => (op_neq rfl ((show _ = vif _ (.int .i64 (((next16_f m parent (l.take 250) slot self (held.take 40) waited).1 : Vt).slot)) from rfl).trans (vif_t hg).symm) ((show _ = vif _ (.int .i64 slot) from rfl).trans (vif_t hg).symm))) ?_; refine L.val rfl (op_or rfl rfl rfl rfl) ?_; refine L.val rfl (op_move rfl rfl) ?_; refine L.guardv (v := (.pointer (some ⟨b5, 6, none⟩))) (wanted_no rfl rfl rfl) (fun hg => (op_field rfl rfl fo47_6 rfl)) ?_; refine L.guardv (v := (Enc.val (((next16_f m parent (l.take 250) slot self (held.take 40) waited).1 : Vt).parent))) (wanted_no rfl rfl rfl) (fun hg => (op_load (v := (((next16_f m parent (l.take 250) slot self (held.take 40) waited).1 : Vt).parent : Nm)) rfl ((show _ = vif _ (.pointer (some ⟨b5, 6, none⟩)) from rfl).trans (vif_t hg).symm) ty24 (sub_nm 6 hB5.cells rfl))) ?_; refine L.guardv (v := (Enc.val (parent : Nm))) (wanted_no rfl rfl rfl) (fun hg => (op_load (v := (parent : Nm)) rfl rfl ty24 hB1.cells)) ?_; refine L.guardv (v := (.bool (!decide (((next16_f m parent (l.take 250) slot self (held.take 40) waited).1 : Vt).parent = parent)))) (wanted_no rfl rfl rfl) (fun hg => (op_neqe (a := (((next16_f m parent (l.take 250) slot self (held.take 40) waited).1 : Vt).parent : Nm)) (b := (parent : Nm)) rfl ((show _ = vif _ (Enc.val (((next16_f m parent (l.take 250) slot self (held.take 40) waited).1 : Vt).parent)) from rfl).trans (vif_t hg).symm) ((show _ = vif _ (Enc.val (parent : Nm)) from rfl).trans (vif_t hg).symm) eq24 (fun _ => ⟨_, rfl⟩) Tryz.eqGuardType24)) ?_; refine L.val rfl (op_or rfl rfl rfl rfl) ?_; refine L.val rfl (op_move rfl rfl) ?_; refine L.guardv (v := (.pointer (some ⟨b5, 0, none⟩))) (wanted_no rfl rfl rfl) (fun hg => (op_field rfl rfl fo47_0 rfl)) ?_; refine L.guardv (v := (.int .i64 (((next16_f m parent (l.take 250) slot self (held.take 40) waited).1 : Vt).kind))) (wanted_no rfl rfl rfl) (fun hg => (op_load1 rfl ((show _ = vif _ (.pointer (some ⟨b5, 0, none⟩)) from rfl).trans (vif_t hg).symm) one3 (hB5.cells.one (n := 0) rfl))) ?_; refine L.guardv (v := (.bool (decide ((((next16_f m parent (l.take 250) slot self (held.take 40) waited).1 : Vt).kind) < 2)))) (wanted_no rfl rfl rfl) (fun hg => (op_lss rfl ((show _ = vif _ (.int .i64 (((next16_f m parent (l.take 250) slot self (held.take 40) waited).1 : Vt).kind)) from rfl).trans (vif_t hg).symm) rfl)) ?_; refine L.val rfl (op_or rfl rfl rfl rfl) ?_; refine L.val rfl (op_move rfl rfl) ?_; refine L.guardv (v := (.pointer (some ⟨b5, 0, none⟩))) (wanted_no rfl rfl rfl) (fun hg => (op_field rfl rfl fo47_0 rfl)) ?_; refine L.guardv (v := (.int .i64 (((next16_f m parent (l.take 250) slot self (held.take 40) waited).1 : Vt).kind))) (wanted_no rfl rfl rfl) (fun hg => (op_load1 rfl ((show _ = vif _ (.pointer (some ⟨b5, 0, none⟩)) from rfl).trans (vif_t hg).symm) one3 (hB5.cells.one (n := 0) rfl))) ?_; refine L.guardv (v := (.bool (decide (4 < (((next16_f m parent (l.take 250) slot self (held.take 40) waited).1 : Vt).kind))))) (wanted_no rfl rfl rfl) (fun hg => (op_gtr rfl ((show _ = vif _ (.int .i64 (((next16_f m parent (l.take 250) slot self (held.take 40) waited).1 : Vt).kind)) from rfl).trans (vif_t hg).symm) rfl)) ?_; refine L.val rfl (op_or rfl rfl rfl rfl) ?_; refine L.nil ?_; refine thenF_nor ?_; refine W.cond (t := (((((!(valid_f ((next16_f m parent (l.take 250) slot self (held.take 40) waited).1 : Vt))) || (!decide ((((next16_f m parent (l.take 250) slot self (held.take 40) waited).1 : Vt).signer) = self))) || (!decide ((((next16_f m parent (l.take 250) slot self (held.take 40) waited).1 : Vt).slot) = slot))) || (!decide (((next16_f m parent (l.take 250) slot self (held.take 40) waited).1 : Vt).parent = parent))) || (decide ((((next16_f m parent (l.take 250) slot self (held.take 40) waited).1 : Vt).kind) < 2))) || (decide (4 < (((next16_f m parent (l.take 250) slot self (held.take 40) waited).1 : Vt).kind)))) rfl (fun hc9 => ?_) (fun hc9 => ?_)
  ·have hp9 := hc9; (try simp only [Bool.and_eq_true, Bool.or_eq_true, Bool.and_eq_false_iff, Bool.or_eq_false_iff, Bool.not_eq_true', Bool.not_eq_false', decide_eq_true_eq, decide_eq_false_iff_not] at hp9); have hbad := hc9; rw [hgd.guard] at hbad; refine W.seq ?_; refine W.region (by rfl) ?_; refine L.val (v := (.bool false)) rfl (op_assign rfl rfl) ?_; refine L.nil ?_; refine thenF_nor ?_; refine W.ret ?_; refine thenF_ret ?_; exact end_ret1 (v := (.bool false)) rfl rfl ⟨(by cases hbad), hE⟩
  ·have hp9 := hc9; (try simp only [Bool.and_eq_true, Bool.or_eq_true, Bool.and_eq_false_iff, Bool.or_eq_false_iff, Bool.not_eq_true', Bool.not_eq_false', decide_eq_true_eq, decide_eq_false_iff_not] at hp9); refine W.skip ?_; refine thenF_nor ?_; refine W.seq ?_; refine W.seq ?_; refine W.region (by rfl) ?_; refine L.val rfl (op_assign rfl rfl) ?_; refine L.nil ?_; refine thenF_nor ?_; refine W.block ?_; have S10_hB1 := hB1; have S10_hR2 := hR2; have S10_hB5 := hB5; have S10_hE := hE; have hS10 : Ext w8 w8 := Ext.refl _; refine W.loopg (γ := Nat) (fun (k : Nat) (f : Fr) (ww : World) => k ≤ (l.take 250).length ∧ f 0 = (.int .i64 m) ∧ f 2 = (.slice A2 (l.take 250).length c2) ∧ f 8 = (.pointer (some ⟨b1, 0, none⟩)) ∧ f 15 = (.pointer (some ⟨b5, 0, none⟩)) ∧ f 17 = (.int .i64 ((k : Nat) : Int)) ∧ Ext w8 ww) (fun (k : Nat) => (l.take 250).length - k) 0 ⟨(by (try dsimp only); omega), rfl, rfl, rfl, rfl, rfl, hS10⟩ ?_; rintro k f11 w11 ⟨hk, s11_0, s11_2, s11_8, s11_15, s11_17, hS10⟩; have hB1 := S10_hB1.ext hS10; have hR2 := S10_hR2.ext hS10; have hB5 := S10_hB5.ext hS10; have hE := S10_hE.trans hS10; refine W.seq ?_; refine W.seq ?_; refine W.region (by rfl) ?_; refine L.val rfl (op_move rfl s11_17) ?_; refine L.val rfl (op_move rfl s11_2) ?_; refine L.val rfl (op_len rfl rfl ln25) ?_; refine L.val rfl (op_lss rfl rfl rfl) ?_; refine L.nil ?_; refine thenF_nor ?_; refine W.cond (t := decide (((k : Nat) : Int) < ((l.take 250).length : Int))) rfl (fun hc12 => ?_) (fun hc12 => ?_)
   ·have hp12 := hc12; (try simp only [Bool.and_eq_true, Bool.or_eq_true, Bool.and_eq_false_iff, Bool.or_eq_false_iff, Bool.not_eq_true', Bool.not_eq_false', decide_eq_true_eq, decide_eq_false_iff_not] at hp12); refine W.skip ?_; refine thenF_nor ?_; refine W.seq ?_; refine W.block ?_; refine W.seq ?_; refine W.drawS [Sp.eq (Enc.val ((next16_f m parent (l.take 250) slot self (held.take 40) waited).1 : Vt)), Sp.eq (.slice A2 (l.take 250).length c2), Sp.eq (.int .i64 ((k : Nat) : Int)), Sp.eq (.pointer (some ((adr A2).add (k * 22)))), Sp.eq (Enc.val ((l.take 250)[k]!)), Sp.eq (.bool (sameKey_f ((next16_f m parent (l.take 250) slot self (held.take 40) waited).1 : Vt) ((l.take 250)[k]!))), Sp.eq (.bool (sameKey_f ((next16_f m parent (l.take 250) slot self (held.take 40) waited).1 : Vt) ((l.take 250)[k]!))), Sp.eq (vif (sameKey_f ((next16_f m parent (l.take 250) slot self (held.take 40) waited).1 : Vt) ((l.take 250)[k]!)) (.slice A2 (l.take 250).length c2)), Sp.eq (vif (sameKey_f ((next16_f m parent (l.take 250) slot self (held.take 40) waited).1 : Vt) ((l.take 250)[k]!)) (.int .i64 ((k : Nat) : Int))), Sp.eq (vif (sameKey_f ((next16_f m parent (l.take 250) slot self (held.take 40) waited).1 : Vt) ((l.take 250)[k]!)) (.pointer (some ((adr A2).add (k * 22))))), Sp.eq (vif (sameKey_f ((next16_f m parent (l.take 250) slot self (held.take 40) waited).1 : Vt) ((l.take 250)[k]!)) (Enc.val ((l.take 250)[k]!))), Sp.eq (vif (sameKey_f ((next16_f m parent (l.take 250) slot self (held.take 40) waited).1 : Vt) ((l.take 250)[k]!)) (.bool (valid_f ((l.take 250)[k]!)))), Sp.eq (.bool ((sameKey_f ((next16_f m parent (l.take 250) slot self (held.take 40) waited).1 : Vt) ((l.take 250)[k]!)) && (valid_f ((l.take 250)[k]!))))] mixed (by rfl) (Obls.cons ?_ (Obls.cons ?_ (Obls.cons ?_ (Obls.cons ?_ (Obls.cons ?_ (Obls.cons ?_ (Obls.cons ?_ (Obls.cons ?_ (Obls.cons ?_ (Obls.cons ?_ (Obls.cons ?_ (Obls.cons ?_ (Obls.cons ?_ Obls.nil))))))))))))) ?_
    ·intro f14 w14 hx14 ho14 hd14; have d14_s15 : f14 15 = (.pointer (some ⟨b5, 0, none⟩)) := (ho14 15 rfl).trans s11_15; have hB5 := hB5.ext hx14; exact D.val rfl (op_load (v := ((next16_f m parent (l.take 250) slot self (held.take 40) waited).1 : Vt)) rfl d14_s15 ty47 hB5.cells)
    ·intro f15 w15 hx15 ho15 hd15; have d15_s2 : f15 2 = (.slice A2 (l.take 250).length c2) := (ho15 2 rfl).trans s11_2; exact D.val rfl (op_move rfl d15_s2)
    ·intro f16 w16 hx16 ho16 hd16; have d16_s17 : f16 17 = (.int .i64 ((k : Nat) : Int)) := (ho16 17 rfl).trans s11_17; exact D.val rfl (op_move rfl d16_s17)
    ·intro f17 w17 hx17 ho17 hd17; have d17_1 : f17 79 = (.slice A2 (l.take 250).length c2) := hd17 1 rfl; have d17_2 : f17 80 = (.int .i64 ((k : Nat) : Int)) := hd17 2 rfl; have hR2 := hR2.ext hx17; skip; exact D.val rfl (op_index (k := k) rfl d17_1 d17_2 sl25 (hR2.getA (get_bang (l := l.take 250) (k := k) (by omega))).1 rfl (by omega) rfl)
    ·intro f18 w18 hx18 ho18 hd18; have d18_3 : f18 81 = (.pointer (some ((adr A2).add (k * 22)))) := hd18 3 rfl; have hR2 := hR2.ext hx18; skip; exact D.val rfl (op_load (v := (l.take 250)[k]!) rfl d18_3 ty47 (hR2.getA (get_bang (l := l.take 250) (k := k) (by omega))).2)
    ·intro f19 w19 hx19 ho19 hd19; have d19_0 : f19 78 = (Enc.val ((next16_f m parent (l.take 250) slot self (held.take 40) waited).1 : Vt)) := hd19 0 rfl; have d19_4 : f19 82 = (Enc.val ((l.take 250)[k]!)) := hd19 4 rfl; exact D.call (R := (Sp.eq (.bool (sameKey_f ((next16_f m parent (l.take 250) slot self (held.take 40) waited).1 : Vt) ((l.take 250)[k]!)))).p) rfl (OpS.call (op_call rfl (argsC d19_0 (argsC d19_4 argsN)) Tryz.func45 rfl rfl) SameKey_ok)
    ·intro f20 w20 hx20 ho20 hd20; have d20_5 : f20 83 = (.bool (sameKey_f ((next16_f m parent (l.take 250) slot self (held.take 40) waited).1 : Vt) ((l.take 250)[k]!))) := hd20 5 rfl; exact D.val rfl (op_move rfl d20_5)
    ·intro f21 w21 hx21 ho21 hd21; have d21_s2 : f21 2 = (.slice A2 (l.take 250).length c2) := (ho21 2 rfl).trans s11_2; have d21_6 : f21 84 = (.bool (sameKey_f ((next16_f m parent (l.take 250) slot self (held.take 40) waited).1 : Vt) ((l.take 250)[k]!))) := hd21 6 rfl; exact D.guardv (wanted_yes rfl rfl d21_6) (fun hg => (op_move rfl d21_s2))
    ·intro f22 w22 hx22 ho22 hd22; have d22_s17 : f22 17 = (.int .i64 ((k : Nat) : Int)) := (ho22 17 rfl).trans s11_17; have d22_6 : f22 84 = (.bool (sameKey_f ((next16_f m parent (l.take 250) slot self (held.take 40) waited).1 : Vt) ((l.take 250)[k]!))) := hd22 6 rfl; exact D.guardv (wanted_yes rfl rfl d22_6) (fun hg => (op_move rfl d22_s17))
    ·intro f23 w23 hx23 ho23 hd23; have d23_6 : f23 84 = (.bool (sameKey_f ((next16_f m parent (l.take 250) slot self (held.take 40) waited).1 : Vt) ((l.take 250)[k]!))) := hd23 6 rfl; have d23_7 : f23 85 = (vif (sameKey_f ((next16_f m parent (l.take 250) slot self (held.take 40) waited).1 : Vt) ((l.take 250)[k]!)) (.slice A2 (l.take 250).length c2)) := hd23 7 rfl; have d23_8 : f23 86 = (vif (sameKey_f ((next16_f m parent (l.take 250) slot self (held.take 40) waited).1 : Vt) ((l.take 250)[k]!)) (.int .i64 ((k : Nat) : Int))) := hd23 8 rfl; have hR2 := hR2.ext hx23; exact D.guardv (wanted_yes rfl rfl d23_6) (fun hg => by have hp := hg; (try simp only [Bool.and_eq_true, Bool.or_eq_true, Bool.not_eq_true', decide_eq_true_eq, decide_eq_false_iff_not, bne_iff_ne, beq_iff_eq] at hp); skip; exact (op_index (k := k) rfl ((show _ = vif _ (.slice A2 (l.take 250).length c2) from d23_7).trans (vif_t hg).symm) ((show _ = vif _ (.int .i64 ((k : Nat) : Int)) from d23_8).trans (vif_t hg).symm) sl25 (hR2.getA (get_bang (l := l.take 250) (k := k) (by omega))).1 rfl (by omega) rfl))
    ·intro f24 w24 hx24 ho24 hd24; have d24_6 : f24 84 = (.bool (sameKey_f ((next16_f m parent (l.take 250) slot self (held.take 40) waited).1 : Vt) ((l.take 250)[k]!))) := hd24 6 rfl; have d24_9 : f24 87 = (vif (sameKey_f ((next16_f m parent (l.take 250) slot self (held.take 40) waited).1 : Vt) ((l.take 250)[k]!)) (.pointer (some ((adr A2).add (k * 22))))) := hd24 9 rfl; have hR2 := hR2.ext hx24; exact D.guardv (wanted_yes rfl rfl d24_6) (fun hg => by have hp := hg; (try simp only [Bool.and_eq_true, Bool.or_eq_true, Bool.not_eq_true', decide_eq_true_eq, decide_eq_false_iff_not, bne_iff_ne, beq_iff_eq] at hp); skip; exact (op_load (v := (l.take 250)[k]!) rfl ((show _ = vif _ (.pointer (some ((adr A2).add (k * 22)))) from d24_9).trans (vif_t hg).symm) ty47 (hR2.getA (get_bang (l := l.take 250) (k := k) (by omega))).2))
    ·intro f25 w25 hx25 ho25 hd25; have d25_6 : f25 84 = (.bool (sameKey_f ((next16_f m parent (l.take 250) slot self (held.take 40) waited).1 : Vt) ((l.take 250)[k]!))) := hd25 6 rfl; have d25_10 : f25 88 = (vif (sameKey_f ((next16_f m parent (l.take 250) slot self (held.take 40) waited).1 : Vt) ((l.take 250)[k]!)) (Enc.val ((l.take 250)[k]!))) := hd25 10 rfl; exact D.guardc (wanted_yes rfl rfl d25_6) (fun hg => (OpS.call (op_call rfl (argsC ((show _ = vif _ (Enc.val ((l.take 250)[k]!)) from d25_10).trans (vif_t hg).symm) argsN) Tryz.func44 rfl rfl) Valid_ok))
    ·intro f26 w26 hx26 ho26 hd26; have d26_6 : f26 84 = (.bool (sameKey_f ((next16_f m parent (l.take 250) slot self (held.take 40) waited).1 : Vt) ((l.take 250)[k]!))) := hd26 6 rfl; have d26_11 : f26 89 = (vif (sameKey_f ((next16_f m parent (l.take 250) slot self (held.take 40) waited).1 : Vt) ((l.take 250)[k]!)) (.bool (valid_f ((l.take 250)[k]!)))) := hd26 11 rfl; exact D.val rfl (op_and rfl d26_6 d26_11 rfl)
    intro f27 w27 hx27 ho27 hr27; have s0 : f27 0 = (.int .i64 m) := (ho27 0 rfl).trans s11_0; have s2 : f27 2 = (.slice A2 (l.take 250).length c2) := (ho27 2 rfl).trans s11_2; have s8 : f27 8 = (.pointer (some ⟨b1, 0, none⟩)) := (ho27 8 rfl).trans s11_8; have s15 : f27 15 = (.pointer (some ⟨b5, 0, none⟩)) := (ho27 15 rfl).trans s11_15; have s17 : f27 17 = (.int .i64 ((k : Nat) : Int)) := (ho27 17 rfl).trans s11_17; have s90 : f27 90 = (.bool ((sameKey_f ((next16_f m parent (l.take 250) slot self (held.take 40) waited).1 : Vt) ((l.take 250)[k]!)) && (valid_f ((l.take 250)[k]!)))) := hr27 12 (by decide); have hE := hE.trans hx27; have hS10 := hS10.trans hx27; refine thenF_nor ?_; refine W.cond (t := (sameKey_f ((next16_f m parent (l.take 250) slot self (held.take 40) waited).1 : Vt) ((l.take 250)[k]!)) && (valid_f ((l.take 250)[k]!))) s90 (fun hc28 => ?_) (fun hc28 => ?_)
    ·have hp28 := hc28; (try simp only [Bool.and_eq_true, Bool.or_eq_true, Bool.and_eq_false_iff, Bool.or_eq_false_iff, Bool.not_eq_true', Bool.not_eq_false', decide_eq_true_eq, decide_eq_false_iff_not] at hp28); have hbad := hc28; rw [hgd.fresh (by omega)] at hbad; refine W.seq ?_; refine W.region (by rfl) ?_; refine L.val (v := (.bool false)) rfl (op_assign rfl rfl) ?_; refine L.nil ?_; refine thenF_nor ?_; refine W.ret ?_; refine blockF_ret ?_; refine thenF_ret ?_; refine thenF_ret ?_; refine blockF_ret ?_; refine thenF_ret ?_; exact end_ret1 (v := (.bool false)) rfl rfl ⟨(by cases hbad), hE⟩
    ·have hp28 := hc28; (try simp only [Bool.and_eq_true, Bool.or_eq_true, Bool.and_eq_false_iff, Bool.or_eq_false_iff, Bool.not_eq_true', Bool.not_eq_false', decide_eq_true_eq, decide_eq_false_iff_not] at hp28); refine W.skip ?_; refine blockF_nor ?_; refine thenF_nor ?_; refine W.region (by rfl) ?_; refine L.val rfl (op_move rfl s17) ?_; refine L.val rfl (op_add (c := ((k + 1 : Nat) : Int)) rfl rfl rfl (by omega) (by omega)) ?_; refine L.val rfl (op_assign rfl rfl) ?_; refine L.nil ?_; refine thenF_nor ?_; exact ⟨k + 1, ⟨(by (try dsimp only); omega), s0, s2, s8, s15, rfl, hS10⟩, (by (try dsimp only); omega)⟩
   ·have hp12 := hc12; (try simp only [Bool.and_eq_true, Bool.or_eq_true, Bool.and_eq_false_iff, Bool.or_eq_false_iff, Bool.not_eq_true', Bool.not_eq_false', decide_eq_true_eq, decide_eq_false_iff_not] at hp12); refine W.exit ?_; refine thenF_exit ?_; refine thenF_exit ?_; refine blockF_hit ?_; refine thenF_nor ?_; refine W.seq ?_; refine W.drawS [Sp.eq (.int .i64 m), Sp.eq (Enc.val ((next16_f m parent (l.take 250) slot self (held.take 40) waited).1 : Vt)), Sp.eq (.int .i64 m), Sp.eq (Enc.val (parent : Nm)), Sp.eq (.slice A2 (l.take 250).length c2), Sp.slr (accepted_f m parent (l.take 250) : List Vt), Sp.eq (.bool (allowed_f m ((next16_f m parent (l.take 250) slot self (held.take 40) waited).1 : Vt) (accepted_f m parent (l.take 250)))), Sp.eq (.bool (allowed_f m ((next16_f m parent (l.take 250) slot self (held.take 40) waited).1 : Vt) (accepted_f m parent (l.take 250)))), Sp.eq (vif (allowed_f m ((next16_f m parent (l.take 250) slot self (held.take 40) waited).1 : Vt) (accepted_f m parent (l.take 250))) (.bool true)), Sp.eq (.bool ((allowed_f m ((next16_f m parent (l.take 250) slot self (held.take 40) waited).1 : Vt) (accepted_f m parent (l.take 250))) && true)), Sp.eq (.bool ((allowed_f m ((next16_f m parent (l.take 250) slot self (held.take 40) waited).1 : Vt) (accepted_f m parent (l.take 250))) && true))] mixed (by rfl) (Obls.cons ?_ (Obls.cons ?_ (Obls.cons ?_ (Obls.cons ?_ (Obls.cons ?_ (Obls.cons ?_ (Obls.cons ?_ (Obls.cons ?_ (Obls.cons ?_ (Obls.cons ?_ (Obls.cons ?_ Obls.nil))))))))))) ?_
    ·intro f30 w30 hx30 ho30 hd30; have d30_s0 : f30 0 = (.int .i64 m) := (ho30 0 rfl).trans s11_0; exact D.val rfl (op_move rfl d30_s0)
    ·intro f31 w31 hx31 ho31 hd31; have d31_s15 : f31 15 = (.pointer (some ⟨b5, 0, none⟩)) := (ho31 15 rfl).trans s11_15; have hB5 := hB5.ext hx31; exact D.val rfl (op_load (v := ((next16_f m parent (l.take 250) slot self (held.take 40) waited).1 : Vt)) rfl d31_s15 ty47 hB5.cells)
    ·intro f32 w32 hx32 ho32 hd32; have d32_s0 : f32 0 = (.int .i64 m) := (ho32 0 rfl).trans s11_0; exact D.val rfl (op_move rfl d32_s0)
    ·intro f33 w33 hx33 ho33 hd33; have d33_s8 : f33 8 = (.pointer (some ⟨b1, 0, none⟩)) := (ho33 8 rfl).trans s11_8; have hB1 := hB1.ext hx33; exact D.val rfl (op_load (v := (parent : Nm)) rfl d33_s8 ty24 hB1.cells)
    ·intro f34 w34 hx34 ho34 hd34; have d34_s2 : f34 2 = (.slice A2 (l.take 250).length c2) := (ho34 2 rfl).trans s11_2; exact D.val rfl (op_move rfl d34_s2)
    ·intro f35 w35 hx35 ho35 hd35; have d35_2 : f35 93 = (.int .i64 m) := hd35 2 rfl; have d35_3 : f35 94 = (Enc.val (parent : Nm)) := hd35 3 rfl; have d35_4 : f35 95 = (.slice A2 (l.take 250).length c2) := hd35 4 rfl; have hR2 := hR2.ext hx35; exact D.call (R := (Sp.slr (accepted_f m parent (l.take 250) : List Vt)).p) rfl (OpS.call (op_call rfl (argsC d35_2 (argsC d35_3 (argsC d35_4 argsN))) Tryz.func25 rfl rfl) (Accepted_ok hR2 (by first | omega | (simp only [List.length_drop, List.length_take, List.length_append, List.length_cons, List.length_nil] at *; omega))))
    ·intro f36 w36 hx36 ho36 hd36; have d36_0 : f36 91 = (.int .i64 m) := hd36 0 rfl; have d36_1 : f36 92 = (Enc.val ((next16_f m parent (l.take 250) slot self (held.take 40) waited).1 : Vt)) := hd36 1 rfl; obtain ⟨A36_5, c36_5, lo36_5, hi36_5, e36_5, hcap36_5, hR36_5⟩ := hd36 5 rfl; have hlen36_5 := hR36_5.len; exact D.call (R := (Sp.eq (.bool (allowed_f m ((next16_f m parent (l.take 250) slot self (held.take 40) waited).1 : Vt) (accepted_f m parent (l.take 250))))).p) rfl (OpS.call (op_call rfl (argsC d36_0 (argsC d36_1 (argsC e36_5 argsN))) Tryz.func46 rfl rfl) (Allowed_ok hR36_5 (by first | omega | (simp only [List.length_drop, List.length_take, List.length_append, List.length_cons, List.length_nil] at *; omega))))
    ·intro f37 w37 hx37 ho37 hd37; have d37_6 : f37 97 = (.bool (allowed_f m ((next16_f m parent (l.take 250) slot self (held.take 40) waited).1 : Vt) (accepted_f m parent (l.take 250)))) := hd37 6 rfl; exact D.val rfl (op_move rfl d37_6)
    ·intro f38 w38 hx38 ho38 hd38; have d38_7 : f38 98 = (.bool (allowed_f m ((next16_f m parent (l.take 250) slot self (held.take 40) waited).1 : Vt) (accepted_f m parent (l.take 250)))) := hd38 7 rfl; exact D.guardc (wanted_yes rfl rfl d38_7) (fun hg => (OpS.call (op_call rfl argsN Tryz.func43 rfl rfl) awake16_ok))
    ·intro f39 w39 hx39 ho39 hd39; have d39_7 : f39 98 = (.bool (allowed_f m ((next16_f m parent (l.take 250) slot self (held.take 40) waited).1 : Vt) (accepted_f m parent (l.take 250)))) := hd39 7 rfl; have d39_8 : f39 99 = (vif (allowed_f m ((next16_f m parent (l.take 250) slot self (held.take 40) waited).1 : Vt) (accepted_f m parent (l.take 250))) (.bool true)) := hd39 8 rfl; exact D.val rfl (op_and rfl d39_7 d39_8 rfl)
    ·intro f40 w40 hx40 ho40 hd40; have d40_9 : f40 100 = (.bool ((allowed_f m ((next16_f m parent (l.take 250) slot self (held.take 40) waited).1 : Vt) (accepted_f m parent (l.take 250))) && true)) := hd40 9 rfl; exact D.val rfl (op_assign rfl d40_9)
    intro f41 w41 hx41 ho41 hr41; have s14 : f41 14 = (.bool ((allowed_f m ((next16_f m parent (l.take 250) slot self (held.take 40) waited).1 : Vt) (accepted_f m parent (l.take 250))) && true)) := hr41 10 (by decide); have hE := hE.trans hx41; refine thenF_nor ?_; refine W.ret ?_; exact end_ret1 (v := (.bool ((allowed_f m ((next16_f m parent (l.take 250) slot self (held.take 40) waited).1 : Vt) (accepted_f m parent (l.take 250))) && true))) rfl s14 ⟨(by rw [hgd.allow]; rfl), hE⟩
end Go.Proofs.YtdknjfmjddlphaaGreat
