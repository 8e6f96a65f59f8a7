/-
  The closure of a decision stands by itself. No walk.
-/
import Derived.Test.YtdknjfmjddlphaaCert3
set_option linter.unusedSimpArgs false
set_option linter.unusedVariables false
namespace Go.Proofs.Ytdknjfmjddlphaa
open Go Go.Fk

section
variable {m s : Int} {P : Nm} {S C : List Vt} {v x y : Vt}
theorem pre3ok_iff : pre3ok v x = true ↔ x.kind = 3 ∧ x.round = v.round ∧ has_f v.support x.signer = true := by
  unfold pre3ok precommit1_f
  simp only [Bool.and_eq_true, decide_eq_true_eq, and_assoc]
theorem mix_found {i : Int} (hx : x ∈ S) (hs : x.signer = i) (h1 : x.kind = 3) (h2 : x.round = v.round) : ∃ y, mix_g S v i = some y ∧ y ∈ S ∧ y.signer = i ∧ y.kind = 3 ∧ y.round = v.round := by
  obtain ⟨y, g1, g2, g3⟩ := find_hits (p := fun x => mix1_f x i v) hx (by unfold mix1_f; simp [hs, h1, h2])
  unfold mix1_f at g3
  simp only [Bool.and_eq_true, decide_eq_true_eq, and_assoc] at g3
  exact ⟨y, g1, g2, g3⟩
theorem mix_fst : mixFirst S v (ids_f v.support) = match ids_f v.support with | [] => vt0 | i :: _ => (mix_g S v i).getD vt0 := by
  cases ids_f v.support <;> rfl
theorem not_same {u w : Vt} : same_f u w = false ↔ ¬ (u.choice = w.choice ∧ u.value = w.value) := by
  rw [← Bool.not_eq_true, same_iff]
/-- a mixed Precommit is allowed by what it needs -/
theorem mixed_two (hb : ∀ y ∈ mixed_n S v, y ∈ C) (hall : ∀ i ∈ ids_f v.support, ∃ x ∈ S, x.signer = i ∧ x.kind = 3 ∧ x.round = v.round) (h : ∃ x ∈ S, ∃ y ∈ S, pre3ok v x = true ∧ pre3ok v y = true ∧ same_f y x = false) :
    ∃ x ∈ C, ∃ y ∈ C, pre3ok v x = true ∧ pre3ok v y = true ∧ same_f y x = false := by
  obtain ⟨x, hx, y, hy, px, py, hne⟩ := h
  have hfound : ∀ i ∈ ids_f v.support, ∃ z, mix_g S v i = some z ∧ z ∈ C ∧ pre3ok v z = true := fun i hi => by
    obtain ⟨z0, h1, h2, h3, h4⟩ := hall i hi
    obtain ⟨z, g1, g2, g3, g4, g5⟩ := mix_found h1 h2 h3 h4
    exact ⟨z, g1, hb z (List.mem_append_left _ (List.mem_filterMap.2 ⟨i, hi, g1⟩)), pre3ok_iff.2 ⟨g4, g5, by rw [g3]; exact mem_ids.1 hi⟩⟩
  -- the first
  have hne0 : ids_f v.support ≠ [] := fun e => by
    have := mem_ids.2 (pre3ok_iff.1 px).2.2
    rw [e] at this; cases this
  obtain ⟨i0, r, hir⟩ := List.exists_cons_of_ne_nil hne0
  obtain ⟨f, f1, f2, f3⟩ := hfound i0 (by rw [hir]; simp)
  have hf : mixFirst S v (ids_f v.support) = f := by
    rw [mix_fst, hir]
    show (mix_g S v i0).getD vt0 = f
    rw [f1]; rfl
  cases hd : (ids_f v.support).any (mixDiff S v (mixFirst S v (ids_f v.support))) with
  | true =>
    obtain ⟨j, hj, hdj⟩ := List.any_eq_true.1 hd
    obtain ⟨z, z1, z2, z3⟩ := hfound j hj
    rw [hf] at hdj
    unfold mixDiff at hdj
    rw [z1] at hdj
    simp only [Option.getD_some, Bool.or_eq_true, Bool.not_eq_true', decide_eq_false_iff_not] at hdj
    refine ⟨f, f2, z, z2, f3, z3, not_same.2 fun e => ?_⟩
    exact hdj.elim (fun h => h e.1) fun h => h e.2
  | false =>
    -- one that differs from the first
    have hz : ∃ z ∈ S, pre3ok v z = true ∧ ¬ (z.choice = f.choice ∧ z.value = f.value) := by
      by_cases e : x.choice = f.choice ∧ x.value = f.value
      · refine ⟨y, hy, py, fun e2 => ?_⟩
        rw [not_same] at hne
        exact hne ⟨e2.1.trans e.1.symm, e2.2.trans e.2.symm⟩
      · exact ⟨x, hx, px, e⟩
    obtain ⟨z, zS, zp, zn⟩ := hz
    have hz2 : mix2_f z v f = true := by
      obtain ⟨p1, p2, p3⟩ := pre3ok_iff.1 zp
      unfold mix2_f
      have hl : like_f z f 3 v.round = false := by
        rw [← Bool.not_eq_true, like_iff]
        exact fun h => zn h.2.2
      rw [hl]; simp [p1, p2, p3]
    obtain ⟨u, u1, u2, u3⟩ := find_hits (p := fun x => mix2_f x v f) zS hz2
    have uC : u ∈ C := by
      refine hb u ?_
      unfold mixed_n
      rw [hd, cond_false, hf, u1]
      exact List.mem_append_right _ (by simp)
    unfold mix2_f at u3
    simp only [Bool.and_eq_true, decide_eq_true_eq, Bool.not_eq_true'] at u3
    refine ⟨f, f2, u, uC, f3, pre3ok_iff.2 ⟨u3.1.1.1, u3.1.1.2, u3.1.2⟩, not_same.2 fun e => ?_⟩
    have h3 := u3.2
    rw [← Bool.not_eq_true, like_iff] at h3
    exact h3 ⟨u3.1.1.1, u3.1.1.2, e.1, e.2⟩
/-- WHAT A VOTE NEEDS ALLOWS IT. -/
theorem needs_allow (hS : Fit m P s S) (hv : v ∈ S) (hC : ∀ x ∈ C, x ∈ S) (hn : ∀ y ∈ expand_n m S v, y ∈ C) (ha0 : allowed_f m v S = true) : allowed_f m v C = true := by
  have ha := ha0
  have hfl : ∀ D : List Vt, (∀ x ∈ D, x ∈ S) → D.filter (counts_f m v) = D := fun D hD => List.filter_eq_self.2 fun x hx => hS.counts hv (hD x hx)
  have hvv := (hS v hv).1
  unfold allowed_f at ha ⊢
  rw [hfl S fun x hx => hx] at ha
  rw [hfl C hC]
  cases hg : (((!(valid_f v)) || (decide (4 < v.kind))) || (!(has_f m v.signer))) || (!(has_f m v.slot)) with
  | true => rw [hg] at ha; cases ha
  | false =>
    rw [hg] at ha
    simp only [cond_false] at ha ⊢
    by_cases k1 : v.kind = 1
    · simp [k1] at ha ⊢; exact ha
    · by_cases k2 : v.kind = 2
      · simp only [k2] at ha ⊢
        have ha' : S.any (fun xx => allowed1_f xx v) = true := ha
        obtain ⟨x, hx, hx2⟩ := List.any_eq_true.1 ha'
        unfold allowed1_f at hx2
        rw [Bool.and_eq_true, decide_eq_true_eq, same_like] at hx2
        have hl : like_f x v 1 0 = true := like_iff.2 ⟨hx2.1, valid_round0 (hS x hx).1 (Or.inl hx2.1), hx2.2⟩
        obtain ⟨y, h1, h2, h3⟩ := find_hits (p := fun x => exp1_f x v) hx hl
        have hy : y ∈ C := hn y (by rw [expand2 k2, h1]; simp)
        have h4 := like_iff.1 (show like_f y v 1 0 = true from h3)
        refine (List.any_eq_true.2 ⟨y, hy, ?_⟩ : C.any (fun xx => allowed1_f xx v) = true)
        unfold allowed1_f
        rw [Bool.and_eq_true, decide_eq_true_eq, same_like]
        exact ⟨h4.1, h4.2.2⟩
      · by_cases k3 : v.kind = 3
        · simp only [k3] at ha ⊢
          have ha' : prevote_f m (quorum_f (size_f m)) S v = true := ha
          show prevote_f m (quorum_f (size_f m)) C v = true
          by_cases hr : v.round = 1
          · unfold prevote_f at ha' ⊢
            simp [hr] at ha' ⊢
            rcases ha' with ha' | ha'
            · exact Or.inl ha'
            · right
              rw [expand3a k3 hr] at hn
              refine supported_to (a := S) (p := fun xx => prevote1_f xx v) (fun i hi hex => ?_) ha'
              obtain ⟨x, hx, hs, hp⟩ := hex
              unfold prevote1_f at hp
              rw [Bool.and_eq_true, decide_eq_true_eq, same_like] at hp
              obtain ⟨y, h1, h2, h3⟩ := sup_found hi hx hs (like_iff.2 ⟨hp.1, valid_round0 (hS x hx).1 (Or.inr hp.1), hp.2⟩)
              have h4 := like_iff.1 h3
              refine ⟨y, hn y h1, h2, ?_⟩
              unfold prevote1_f
              rw [Bool.and_eq_true, decide_eq_true_eq, same_like]
              exact ⟨h4.1, h4.2.2⟩
          · rw [prevote_alts hr] at ha' ⊢
            rw [expand3b k3 hr] at hn
            unfold later_n at hn
            have had := adopts_iff k3 hr hS hv ha0 (C := S) fun x hx => hx
            cases hc : adopts_f m S v with
            | true =>
              rw [hc, cond_true] at hn
              rw [adopt_to hn (fun x hx => hx) (had.1 hc)]; rfl
            | false =>
              rw [hc, cond_false] at hn
              have h1 : firstAlt m v S = false := by
                rw [← Bool.not_eq_true, ← had, hc]; simp
              rw [h1] at ha'
              rw [second_to hn (fun x hx => hx) ha']
              cases firstAlt m v C <;> rfl
        · have k4 : v.kind = 4 := by
            have := (valid_bounds hvv).1
            have := (hS v hv).2.2.2.1
            omega
          simp only [k4] at ha ⊢
          have ha' : precommit_f m (quorum_f (size_f m)) S v = true := ha
          show precommit_f m (quorum_f (size_f m)) C v = true
          unfold precommit_f at ha' ⊢
          by_cases hc : v.choice = 2
          · simp only [hc] at ha' ⊢
            change (bif !(supported_f m (quorum_f (size_f m)) v S (fun xx => precommit1_f xx v)) then false else anySt (pre3q v) [] S) = true at ha'
            change (bif !(supported_f m (quorum_f (size_f m)) v C (fun xx => precommit1_f xx v)) then false else anySt (pre3q v) [] C) = true
            cases hs : supported_f m (quorum_f (size_f m)) v S (fun xx => precommit1_f xx v) with
            | false => rw [hs] at ha'; cases ha'
            | true =>
              rw [hs] at ha'
              rw [expand4m k4 hc] at hn
              have hall : ∀ i ∈ ids_f v.support, ∃ x ∈ S, x.signer = i ∧ x.kind = 3 ∧ x.round = v.round := by
                intro i hi
                have h0 := hs
                unfold supported_f at h0
                cases hg2 : (!decide ((iandn v.support m) = 0)) || (!decide ((size_f v.support) = quorum_f (size_f m))) with
                | true => rw [hg2] at h0; cases h0
                | false =>
                  rw [hg2] at h0
                  simp only [cond_false] at h0
                  obtain ⟨x, hx, hx2⟩ := List.any_eq_true.1 (List.all_eq_true.1 h0 i hi)
                  unfold supported1_f precommit1_f at hx2
                  simp only [Bool.and_eq_true, decide_eq_true_eq] at hx2
                  exact ⟨x, hx, hx2.1, hx2.2.1, hx2.2.2⟩
              rw [supported_to (a := S) (p := fun xx => precommit1_f xx v) (b := C) (p' := fun xx => precommit1_f xx v) (fun i hi hex => by
                obtain ⟨x, hx, h1, h2, h3⟩ := hall i hi
                obtain ⟨y, g1, g2, g3, g4, g5⟩ := mix_found hx h1 h2 h3
                exact ⟨y, hn y (List.mem_append_left _ (List.mem_filterMap.2 ⟨i, hi, g1⟩)), g3, by unfold precommit1_f; simp [g4, g5]⟩) hs]
              exact anySt_two.2 (mixed_two hn hall (anySt_two.1 ha'))
          · simp only [hc, decide_false, Bool.not_false] at ha' ⊢
            rw [expand4 k4 hc] at hn
            refine (supported_to (a := S) (p := fun xx => precommit2_f xx (fun xx => precommit1_f xx v) v) (fun i hi hex => ?_) ha')
            obtain ⟨x, hx, hs, hp⟩ := hex
            unfold precommit2_f precommit1_f at hp
            simp only [Bool.and_eq_true, decide_eq_true_eq, same_like] at hp
            obtain ⟨y, h1, h2, h3⟩ := sup_found hi hx hs (like_iff.2 ⟨hp.1.1, hp.1.2, hp.2⟩)
            have h4 := like_iff.1 h3
            refine ⟨y, hn y h1, h2, ?_⟩
            unfold precommit2_f precommit1_f
            simp only [Bool.and_eq_true, decide_eq_true_eq, same_like]
            exact ⟨⟨h4.1, h4.2.1⟩, h4.2.2⟩
end
end Go.Proofs.Ytdknjfmjddlphaa
