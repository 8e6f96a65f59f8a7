/-
  Laws of the closure: it stands, it sheds. No walk.
-/
import Derived.Test.YtdknjfmjddlphaaCert5
set_option linter.unusedSimpArgs false
set_option linter.unusedVariables false
namespace Go.Proofs.Ytdknjfmjddlphaa
open Go Go.Fk

section
variable {m : Int} {S C : List Vt} {v x y : Vt} {o : Oc}
theorem find_sub {p : Vt → Bool} (hn : S.Nodup) (h : C.Sublist S) (hy : S.find? p = some y) (hC : y ∈ C) : C.find? p = some y := by
  induction h with
  | slnil => cases hC
  | cons a h ih =>
    obtain ⟨h1, h2⟩ := List.nodup_cons.1 hn
    rw [List.find?_cons] at hy
    cases hp : p a with
    | true => rw [hp] at hy; cases hy; exact absurd (h.subset hC) h1
    | false => rw [hp] at hy; exact ih h2 hy hC
  | cons_cons a h ih =>
    obtain ⟨h1, h2⟩ := List.nodup_cons.1 hn
    rw [List.find?_cons] at hy ⊢
    cases hp : p a with
    | true => rw [hp] at hy; exact hy
    | false =>
      rw [hp] at hy
      rcases List.mem_cons.1 hC with rfl | hC
      · have := List.find?_some hy
        rw [hp] at this; cases this
      · exact ih h2 hy hC
theorem find_agree {p : Vt → Bool} (hn : S.Nodup) (h : C.Sublist S) (hy : ∀ y, S.find? p = some y → y ∈ C) : C.find? p = S.find? p := by
  cases hf : S.find? p with
  | some y => exact find_sub hn h hf (hy y hf)
  | none =>
    rw [List.find?_eq_none] at hf ⊢
    exact fun x hx => hf x (h.subset hx)
theorem filterMap_agree {g g' : Int → Option Vt} {l : List Int} (h : ∀ i ∈ l, g' i = g i) : l.filterMap g' = l.filterMap g := by
  induction l with
  | nil => rfl
  | cons i r ih => rw [List.filterMap_cons, List.filterMap_cons, h i (by simp), ih fun j hj => h j (by simp [hj])]
theorem mem_of_filterMap {g : Int → Option Vt} {l : List Int} {i : Int} (hi : i ∈ l) (h : g i = some y) : y ∈ l.filterMap g := List.mem_filterMap.2 ⟨i, hi, h⟩
/-- in a part that has what the vote needs, it needs the same -/
theorem expand_agree {s : Int} {P : Nm} (hS : Fit m P s S) (hn : S.Nodup) (h : C.Sublist S) (hx : x ∈ C) (hal : allowed_f m x S = true) (hneed : ∀ y ∈ expand_n m S x, y ∈ C) : expand_n m C x = expand_n m S x := by
  have hxS := h.subset hx
  by_cases k1 : x.kind = 1
  · unfold expand_n; simp [k1]
  · by_cases k2 : x.kind = 2
    · rw [expand2 k2, expand2 k2]
      rw [expand2 k2] at hneed
      rw [find_agree hn h fun y hy => hneed y (by rw [hy]; simp)]
    · have hsup : ∀ kind round, (∀ y ∈ sup_n S x kind round, y ∈ C) → sup_n C x kind round = sup_n S x kind round := fun kind round hh =>
        filterMap_agree fun i hi => find_agree hn h fun y hy => hh y (mem_of_filterMap hi hy)
      by_cases k3 : x.kind = 3
      · by_cases hr : x.round = 1
        · rw [expand3a k3 hr] at hneed ⊢
          rw [expand3a k3 hr]
          exact hsup _ _ hneed
        · rw [expand3b k3 hr] at hneed ⊢
          rw [expand3b k3 hr]
          have hA := adopts_iff k3 hr hS hxS hal (C := S) fun z hz => hz
          have hB := adopts_iff k3 hr hS hxS hal (C := C) fun z hz => h.subset hz
          unfold later_n at hneed ⊢
          cases hc : adopts_f m S x with
          | true =>
            rw [hc, cond_true] at hneed
            have hc2 : adopts_f m C x = true := hB.2 (adopt_to hneed (fun z hz => hz) (hA.1 hc))
            rw [hc2, cond_true, cond_true]
            refine filterMap_agree fun i hi => ?_
            unfold la_g
            cases hf : S.find? (fun z => later1_f z i x) with
            | some u => rw [find_sub hn h hf (hneed u (mem_of_filterMap hi (by unfold la_g; rw [hf])))]
            | none =>
              have : C.find? (fun z => later1_f z i x) = none := by
                rw [List.find?_eq_none] at hf ⊢
                exact fun z hz => hf z (h.subset hz)
              rw [this]
              exact find_agree hn h fun y hy => hneed y (mem_of_filterMap hi (by unfold la_g; rw [hf]; exact hy))
          | false =>
            rw [hc, cond_false] at hneed
            have hc2 : adopts_f m C x = false := by
              rw [← Bool.not_eq_true, hB]
              intro h1
              have : firstAlt m x S = true := by
                unfold firstAlt at h1 ⊢
                rw [Bool.and_eq_true] at h1 ⊢
                exact ⟨supported_sub (fun z hz => h.subset hz) h1.1, any_sub (fun z hz => h.subset hz) h1.2⟩
              rw [hA.2 this] at hc; cases hc
            rw [hc2, cond_false, cond_false]
            rw [filterMap_agree (g := lm_g S (x.round - 1)) (g' := lm_g C (x.round - 1)) fun i hi => find_agree hn h fun y hy => hneed y (List.mem_append_left _ (mem_of_filterMap hi hy)),
              find_agree hn h fun y hy => hneed y (List.mem_append_right _ (by rw [hy]; simp))]
      · by_cases k4 : x.kind = 4
        · by_cases hc : x.choice = 2
          · rw [expand4m k4 hc] at hneed ⊢
            rw [expand4m k4 hc]
            have hmg : ∀ i ∈ ids_f x.support, mix_g C x i = mix_g S x i := fun i hi => find_agree hn h fun y hy => hneed y (List.mem_append_left _ (mem_of_filterMap hi hy))
            have hf : mixFirst C x (ids_f x.support) = mixFirst S x (ids_f x.support) := by
              rw [mix_fst, mix_fst]
              cases hi : ids_f x.support with
              | nil => rfl
              | cons i r => show (mix_g C x i).getD vt0 = _; rw [hmg i (by rw [hi]; simp)]
            have hd : (ids_f x.support).any (mixDiff C x (mixFirst C x (ids_f x.support))) = (ids_f x.support).any (mixDiff S x (mixFirst S x (ids_f x.support))) := by
              rw [hf]
              rw [Bool.eq_iff_iff, List.any_eq_true, List.any_eq_true]
              constructor
              · rintro ⟨i, hi, h2⟩; refine ⟨i, hi, ?_⟩; unfold mixDiff at h2 ⊢; rwa [hmg i hi] at h2
              · rintro ⟨i, hi, h2⟩; refine ⟨i, hi, ?_⟩; unfold mixDiff at h2 ⊢; rwa [hmg i hi]
            unfold mixed_n at hneed ⊢
            rw [filterMap_agree hmg, hd, hf]
            cases hd2 : (ids_f x.support).any (mixDiff S x (mixFirst S x (ids_f x.support))) with
            | true => rfl
            | false =>
              rw [cond_false, cond_false]
              rw [hd2, cond_false] at hneed
              rw [find_agree hn h fun y hy => hneed y (List.mem_append_right _ (by rw [hy]; simp))]
          · rw [expand4 k4 hc] at hneed ⊢
            rw [expand4 k4 hc]
            exact hsup _ _ hneed
        · unfold expand_n; simp [k2, k3, k4]
theorem seeds_agree {g g' : Int → Option Vt} {q : Int} (hg : ∀ i z, g i = some z → z ∈ C → g' i = some z) (hg0 : ∀ i, g i = none → g' i = none) : ∀ (L : List Int) (st : Int × List Vt), (∀ z ∈ (L.foldl (seedStep g q) st).2, z ∈ C) → L.foldl (seedStep g' q) st = L.foldl (seedStep g q) st := by
  intro L
  induction L with
  | nil => intro st _; rfl
  | cons i r ih =>
    intro st hC
    rw [List.foldl_cons] at hC ⊢
    rw [List.foldl_cons]
    have hs := seed_grows (g := g) (q := q) r (seedStep g q st i)
    have e : seedStep g' q st i = seedStep g q st i := by
      unfold seedStep at hs ⊢
      cases hc : decide (st.1 < q) with
      | false => rfl
      | true =>
        simp only [hc, cond_true] at hs ⊢
        cases hgi : g i with
        | none => rw [hg0 i hgi]
        | some z =>
          rw [hg i z hgi (hC z ?_)]
          refine seed_grows r _ z ?_
          unfold seedStep
          rw [hc, hgi]; simp
    rw [e]
    exact ih _ hC
theorem clo1_iff {i : Int} : clo1_f x i o = true ↔ x.signer = i ∧ x.kind = 4 ∧ x.round = o.round ∧ x.choice = o.choice ∧ x.value = o.value := by
  unfold clo1_f
  simp only [Bool.and_eq_true, decide_eq_true_eq, and_assoc]
theorem clo_g_sg {i : Int} {z : Vt} (hc : ¬ o.choice = 2) (h : clo_g S o i = some z) (hz : z ∈ C) : Sg C o i := by
  have h1 := List.find?_some (p := fun x => clo1_f x i o) h
  obtain ⟨a1, a2, a3, a4, a5⟩ := clo1_iff.1 h1
  exact ⟨z, hz, a2, by rw [a4]; exact hc, by unfold ocOf; rw [a3, a4, a5], a1⟩
theorem sg_clo_g {i : Int} (h : Sg S o i) : ∃ z, clo_g S o i = some z := by
  obtain ⟨w, hw, h1, h2, h3, h4⟩ := h
  obtain ⟨z, hz, _, _⟩ := find_hits (p := fun x => clo1_f x i o) hw (clo1_iff.2 ⟨h4, h1, congrArg Oc.round h3, congrArg Oc.choice h3, congrArg Oc.value h3⟩)
  exact ⟨z, hz⟩
end

section
variable {m : Int} {parent : Nm} {l : List Vt} {o : Oc}
/-- all that the laws ask of a closure -/
structure Stands (m : Int) (parent : Nm) (l C : List Vt) (o : Oc) : Prop where
  asc : Asc voteLess_f C
  sub : ∀ x ∈ C, x ∈ accepted_f m parent l ∧ x.slot = o.slot
  acc : accepted_f m parent C = C
  dec : o ∈ outcomes_f m parent C o.slot
  again : closure_f m parent C o = C
theorem closure_stands (h : o ∈ outcomes_f m parent l o.slot) : Stands m parent l (closure_f m parent l o) o := by
  have hd := decided_iff.2 h
  have hCe : closure_f m parent l o = reach_f m (inSlot m parent l o.slot) (seeds_f m (inSlot m parent l o.slot) o) := by unfold closure_f; rw [hd, cond_true]
  rw [hCe]
  have hS := fit_slot m parent l o.slot
  have hA := slot_asc m parent l o.slot
  have hSe : accepted_f m parent (own_f o.slot l) = inSlot m parent l o.slot := acc_own
  have hmem : ∀ x ∈ inSlot m parent l o.slot, x ∈ accepted_f m parent l ∧ x.slot = o.slot := fun x hx => ⟨(List.mem_filter.1 hx).1, by simpa using (List.mem_filter.1 hx).2⟩
  have hal : ∀ v ∈ inSlot m parent l o.slot, allowed_f m v (inSlot m parent l o.slot) = true := fun v hv => by
    unfold inSlot
    rw [allowed_slot (hmem v hv).2]
    exact acc_mem_allowed (hmem v hv).1
  generalize hSS : inSlot m parent l o.slot = S at hS hA hSe hmem hal
  have hn : S.Nodup := hA.imp fun hxy e => by rw [e, vote_lin.irrefl] at hxy; cases hxy
  have hsd : ∀ z ∈ seeds_f m S o, z ∈ S := fun z hz => seeds_sub hz
  have hR : ∀ y, y ∈ reach_f m S (seeds_f m S o) ↔ Reach m S (seeds_f m S o) y := fun y => mem_reach hn hsd
  have hsub : (reach_f m S (seeds_f m S o)).Sublist S := reach_sublist
  have hcl : ∀ x ∈ reach_f m S (seeds_f m S o), ∀ y ∈ expand_n m S x, y ∈ reach_f m S (seeds_f m S o) := fun x hx y hy => (hR y).2 (((hR x).1 hx).step hy)
  have hseed : ∀ z ∈ seeds_f m S o, z ∈ reach_f m S (seeds_f m S o) := fun z hz => (hR z).2 (Reach.seed hz)
  have hreach := hR
  generalize hCC : reach_f m S (seeds_f m S o) = C at hsub hcl hseed hreach
  have hCA : Asc voteLess_f C := hA.sublist hsub
  have hacc : accepted_f m parent C = C := by
    refine Asc.unique vote_lin (acc_asc _ _ _) hCA fun x => ⟨fun hx => (acc_sub hx).2, fun hx => ?_⟩
    have := closed_accepted (m := m) (parent := parent) (l := l) (slot := o.slot) (C := C) (fun x hx => by rw [hSS]; exact hsub.subset hx) (fun x hx y hy => by rw [hSS] at hy; exact hcl x hx y hy)
    exact this x hx
  have hCs : ∀ x ∈ C, x.slot = o.slot := fun x hx => (hmem x (hsub.subset hx)).2
  have hfil : C.filter (fun x => decide (x.slot = o.slot)) = C := List.filter_eq_self.2 fun x hx => by simpa using hCs x hx
  have hin : inSlot m parent C o.slot = C := by unfold inSlot; rw [hacc, hfil]
  have hown : accepted_f m parent (own_f o.slot C) = C := acc_own.trans hin
  -- it decides
  have hdec : o ∈ outcomes_f m parent C o.slot := by
    obtain ⟨_, hch, p, hq⟩ := outcome_quo h
    obtain ⟨_, _, hqs⟩ := mem_outcomes.1 h
    rw [hSe] at hqs
    have hc := seed_count (g := clo_g S o) (q := quorum_f (size_f m)) (ids_f m) (0, []) (ids_nodup m)
    simp only at hc
    obtain ⟨h1, h2, h3⟩ := hc
    have hqC : quorum_f (size_f m) ≤ (sgs m C o : Int) := by
      unfold sgs
      by_cases hlt : ((ids_f m).foldl (seedStep (clo_g S o) (quorum_f (size_f m))) (0, [])).1 < quorum_f (size_f m)
      · have hm : cnt m (sgB S o) ≤ cnt m (sgB C o) := cnt_mono fun i hi hp => by
          obtain ⟨z, hz⟩ := sg_clo_g (sgB_iff.1 hp)
          exact sgB_iff.2 (clo_g_sg hch hz (hseed z (h1 hlt i (mem_ids.2 hi) z hz)))
        unfold sgs at hqs
        omega
      · have hm : cnt m (took (clo_g S o) (seeds_f m S o)) ≤ cnt m (sgB C o) := cnt_mono fun i hi hp => by
          unfold took at hp
          cases hg : clo_g S o i with
          | none => rw [hg] at hp; cases hp
          | some z =>
            rw [hg] at hp
            have hz : z ∈ seeds_f m S o := by simpa using hp
            exact sgB_iff.2 (clo_g_sg hch hg (hseed z hz))
        have h2' : ((ids_f m).foldl (seedStep (clo_g S o) (quorum_f (size_f m))) (0, [])).1 ≤ 0 + (cnt m (took (clo_g S o) (seeds_f m S o)) : Int) := h2
        omega
    refine mem_outcomes.2 ⟨rfl, ?_, ?_⟩
    · rw [hown]
      have hpos := quorum_pos hq.one
      have : 0 < cnt m (sgB C o) := by unfold sgs at hqC; omega
      obtain ⟨i, _, hi⟩ := List.countP_pos_iff.1 this
      exact ⟨i, sgB_iff.1 hi⟩
    · rw [hown]; exact hqC
  refine ⟨hCA, fun x hx => hmem x (hsub.subset hx), hacc, hdec, ?_⟩
  -- its own closure
  unfold closure_f
  rw [decided_iff.2 hdec, cond_true, hin]
  have hsC : seeds_f m C o = seeds_f m S o := by
    unfold seeds_f
    rw [seeds_agree (g := clo_g S o) (g' := clo_g C o) (C := C) (fun i z hz hzC => find_sub hn hsub hz hzC) (fun i hi => by
      unfold clo_g at hi ⊢
      rw [List.find?_eq_none] at hi ⊢
      exact fun x hx => hi x (hsub.subset hx)) _ _ (fun z hz => hseed z hz)]
  have hCn : C.Nodup := hsub.nodup hn
  refine Asc.unique vote_lin (hCA.sublist reach_sublist) hCA fun x => ⟨fun hx => reach_sublist.subset hx, fun hx => ?_⟩
  rw [mem_reach hCn fun z hz => seeds_sub hz, hsC]
  have := (hreach x).1 hx
  induction this with
  | seed hz => exact Reach.seed hz
  | step hp hy ih =>
    rename_i u w
    have hu : u ∈ C := (hreach u).2 hp
    refine (ih hu).step ?_
    rw [expand_agree hS hn hsub hu (hal u (hsub.subset hu)) (hcl u hu)]
    exact hy
end
end Go.Proofs.Ytdknjfmjddlphaa
