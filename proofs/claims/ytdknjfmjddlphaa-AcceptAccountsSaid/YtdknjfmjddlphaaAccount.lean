/-
  The accountability theorem of layer 12 over lists of accepted votes: who decides two unlike values of one slot bears conflicting votes. No walk.
-/
import Derived.Test.YtdknjfmjddlphaaLaw12Pure
import Derived.Test.YtdknjfmjddlphaaBits
set_option linter.unusedSimpArgs false
set_option linter.unusedVariables false
namespace Go.Proofs.Ytdknjfmjddlphaa
open Go Go.Fk

/-! ### what an accepted vote rests on -/
theorem allowed_guard {m : Int} {v : Vt} {A : List Vt} (h : allowed_f m v A = true) : valid_f v = true ∧ v.kind ≤ 4 ∧ has_f m v.signer = true ∧ has_f m v.slot = true := by
  unfold allowed_f at h
  cases hg : (((!(valid_f v)) || (decide (4 < v.kind))) || (!(has_f m v.signer))) || (!(has_f m v.slot)) with
  | true => rw [hg] at h; cases h
  | false =>
    simp only [Bool.or_eq_false_iff, Bool.not_eq_false', decide_eq_false_iff_not] at hg
    exact ⟨hg.1.1.1, by omega, hg.1.2, hg.2⟩
theorem allowed_body {m : Int} {v : Vt} {A : List Vt} (h : allowed_f m v A = true) : (bif decide (v.kind = 1) then decide (v.signer = v.slot) else (bif decide (v.kind = 2) then (A.filter (counts_f m v)).any (fun xx => allowed1_f xx v) else (bif decide (v.kind = 3) then prevote_f m (quorum_f (size_f m)) (A.filter (counts_f m v)) v else precommit_f m (quorum_f (size_f m)) (A.filter (counts_f m v)) v))) = true := by
  unfold allowed_f at h
  cases hg : (((!(valid_f v)) || (decide (4 < v.kind))) || (!(has_f m v.signer))) || (!(has_f m v.slot)) with
  | true => rw [hg] at h; cases h
  | false => rw [hg] at h; exact h
theorem counts_all {m : Int} {v x : Vt} (h : counts_f m v x = true) : valid_f x = true ∧ x.parent = v.parent ∧ x.slot = v.slot ∧ x.kind ≤ 4 ∧ has_f m x.signer = true := by
  unfold counts_f at h
  simp only [Bool.and_eq_true, decide_eq_true_eq] at h
  exact ⟨h.1.1.1.1, h.1.1.1.2, h.1.1.2, h.1.2, h.2⟩
theorem same_iff {a b : Vt} : same_f a b = true ↔ a.choice = b.choice ∧ a.value = b.value := by
  unfold same_f; simp
/-- the support of v is a set of a quorum of members, each with a vote that fits -/
structure Supp (m : Int) (v : Vt) (A : List Vt) (p : Vt → Prop) : Prop where
  sub : ∀ i, has_f v.support i = true → has_f m i = true
  size : size_f v.support = quorum_f (size_f m)
  each : ∀ i, has_f v.support i = true → ∃ w ∈ A, w.signer = i ∧ valid_f w = true ∧ w.parent = v.parent ∧ w.slot = v.slot ∧ p w
theorem supp_of {m : Int} {v : Vt} {A : List Vt} {p : Vt → Bool} (h : supported_f m (quorum_f (size_f m)) v (A.filter (counts_f m v)) p = true) : Supp m v A (fun w => p w = true) := by
  unfold supported_f at h
  cases hg : (!decide ((iandn v.support m) = 0)) || (!decide ((size_f v.support) = quorum_f (size_f m))) with
  | true => rw [hg] at h; cases h
  | false =>
    rw [hg] at h
    simp only [cond_false] at h
    simp only [Bool.or_eq_false_iff, Bool.not_eq_false', decide_eq_true_eq] at hg
    refine ⟨fun i hi => sub_of_iandn hg.1 hi, hg.2, fun i hi => ?_⟩
    rw [List.all_eq_true] at h
    have := h i (mem_ids.2 hi)
    rw [List.any_eq_true] at this
    obtain ⟨w, hw, hs⟩ := this
    unfold supported1_f at hs
    simp only [Bool.and_eq_true, decide_eq_true_eq] at hs
    rw [List.mem_filter] at hw
    obtain ⟨c1, c2, c3, c4, c5⟩ := counts_all hw.2
    exact ⟨w, hw.1, hs.1, c1, c2, c3, hs.2⟩
theorem Supp.mono {m : Int} {v : Vt} {A : List Vt} {p q : Vt → Prop} (h : Supp m v A p) (hq : ∀ w, p w → q w) : Supp m v A q :=
  ⟨h.sub, h.size, fun i hi => by obtain ⟨w, h1, h2, h3, h4, h5, h6⟩ := h.each i hi; exact ⟨w, h1, h2, h3, h4, h5, hq w h6⟩⟩
theorem valid_prevote {v : Vt} (h : valid_f v = true) (hk : v.kind = 3 ∨ v.kind = 4) : 1 ≤ v.round ∧ v.round ≤ 12 ∧ 0 ≤ v.choice ∧ v.choice ≤ 2 ∧ (v.kind = 3 → v.choice ≤ 1) := by
  unfold valid_f at h
  cases h1 : (!(between_f v.kind 1 7)) || (!(between_f v.signer 0 9)) with
  | true => rw [h1] at h; simp at h
  | false =>
    rw [h1] at h
    simp only [cond_false] at h
    cases h2 : ((decide (v.choice = 1)) == (decide (v.value = Nm.zero))) || (!decide ((iandn v.support 1023) = 0)) with
    | true => rw [h2] at h; simp at h
    | false =>
      rw [h2] at h
      simp only [cond_false] at h
      rcases hk with hk | hk
      · simp [hk, between_iff] at h; omega
      · simp [hk, between_iff] at h; omega
/-- a Precommit for a value rests on a quorum of Prevotes of its round for the value -/
theorem precommit_rests {m : Int} {v : Vt} {A : List Vt} (h : allowed_f m v A = true) (hk : v.kind = 4) (hc : ¬ v.choice = 2) : Supp m v A fun w => w.kind = 3 ∧ w.round = v.round ∧ w.choice = v.choice ∧ w.value = v.value := by
  have hb := allowed_body h
  simp [hk] at hb
  unfold precommit_f at hb
  simp only [hc, decide_false, Bool.not_false, cond_true] at hb
  refine (supp_of hb).mono fun w hw => ?_
  unfold precommit2_f precommit1_f at hw
  simp only [Bool.and_eq_true, decide_eq_true_eq, same_iff] at hw
  exact ⟨hw.1.1, hw.1.2, hw.2.1.symm, hw.2.2.symm⟩
/-- a Prevote of a later round rests on a quorum of Precommits of the round ahead, for the value or Mixed, and on a vote of that round for the value -/
theorem prevote_rests {m : Int} {v : Vt} {A : List Vt} (h : allowed_f m v A = true) (hk : v.kind = 3) (hr : ¬ v.round = 1) :
    (Supp m v A fun w => w.kind = 4 ∧ w.round = v.round - 1 ∧ (w.choice = v.choice ∧ w.value = v.value ∨ w.choice = 2)) ∧
    ∃ w ∈ A, valid_f w = true ∧ w.parent = v.parent ∧ w.slot = v.slot ∧ (w.kind = 3 ∨ w.kind = 4) ∧ w.round = v.round - 1 ∧ w.choice = v.choice ∧ w.value = v.value := by
  have hb := allowed_body h
  simp [hk] at hb
  unfold prevote_f at hb
  simp only [hr, decide_false, cond_false] at hb
  cases hg : (supported_f m (quorum_f (size_f m)) v (A.filter (counts_f m v)) (fun xx => prevote4_f xx (fun xx => prevote2_f xx v) (fun xx => prevote3_f xx v))) && ((A.filter (counts_f m v)).any (fun xx => prevote5_f xx v (fun xx => prevote2_f xx v))) with
  | true =>
    rw [Bool.and_eq_true, List.any_eq_true] at hg
    obtain ⟨h1, w, hw, h2⟩ := hg
    refine ⟨(supp_of h1).mono fun w hw => ?_, w, (List.mem_filter.1 hw).1, ?_⟩
    · unfold prevote4_f prevote2_f prevote3_f at hw
      simp only [Bool.or_eq_true, Bool.and_eq_true, decide_eq_true_eq, same_iff] at hw
      rcases hw with hw | hw
      · exact ⟨hw.1.1, hw.1.2, Or.inl ⟨hw.2.1.symm, hw.2.2.symm⟩⟩
      · exact ⟨hw.1.1, hw.1.2, Or.inr hw.2⟩
    · obtain ⟨c1, c2, c3, c4, c5⟩ := counts_all (List.mem_filter.1 hw).2
      unfold prevote5_f prevote2_f at h2
      simp only [Bool.and_eq_true, decide_eq_true_eq, same_iff] at h2
      exact ⟨c1, c2, c3, Or.inr h2.2.1.1, h2.2.1.2, h2.2.2.1.symm, h2.2.2.2.symm⟩
  | false =>
    rw [hg] at hb
    simp only [cond_false] at hb
    rw [Bool.and_eq_true, List.any_eq_true] at hb
    obtain ⟨h1, w, hw, h2⟩ := hb
    refine ⟨(supp_of h1).mono fun w hw => ?_, w, (List.mem_filter.1 hw).1, ?_⟩
    · unfold prevote3_f at hw
      simp only [Bool.and_eq_true, decide_eq_true_eq] at hw
      exact ⟨hw.1.1, hw.1.2, Or.inr hw.2⟩
    · obtain ⟨c1, c2, c3, c4, c5⟩ := counts_all (List.mem_filter.1 hw).2
      unfold prevote6_f at h2
      simp only [Bool.and_eq_true, decide_eq_true_eq, same_iff] at h2
      exact ⟨c1, c2, c3, Or.inl h2.1.1, h2.1.2, h2.2.1.symm, h2.2.2.symm⟩

/-! ### accepted votes -/
theorem acc_mem_allowed {m : Int} {parent : Nm} {l : List Vt} {v : Vt} (h : v ∈ accepted_f m parent l) : allowed_f m v (accepted_f m parent l) = true := by
  obtain ⟨k, hk, e⟩ := List.getElem_of_mem h
  have := acc_allowed (m := m) (parent := parent) (l := l) (k := k) hk
  rw [getElem!_pos _ k hk, e] at this
  exact this
/-- a set of votes above one parent, each allowed by the set -/
structure Sound (m : Int) (parent : Nm) (A : List Vt) : Prop where
  par : ∀ v ∈ A, v.parent = parent
  ok : ∀ v ∈ A, allowed_f m v A = true
theorem acc_sound (m : Int) (parent : Nm) (l : List Vt) : Sound m parent (accepted_f m parent l) := ⟨fun _ hv => (acc_sub hv).1, fun _ hv => acc_mem_allowed hv⟩
/-- the members p have each a Precommit of the slot and round for the value; they are a quorum -/
structure Quo (m : Int) (A : List Vt) (slot round choice : Int) (value : Nm) (p : Int → Bool) : Prop where
  mem : ∀ i, p i = true → has_f m i = true
  each : ∀ i, p i = true → ∃ w ∈ A, w.kind = 4 ∧ w.slot = slot ∧ w.round = round ∧ w.choice = choice ∧ w.value = value ∧ w.signer = i
  size : quorum_f (size_f m) ≤ (cnt m p : Int)
  one : 0 < size_f m
theorem Quo.some {m : Int} {A : List Vt} {slot round choice : Int} {value : Nm} {p : Int → Bool} (h : Quo m A slot round choice value p) : ∃ i, p i = true := by
  have h1 := quorum_pos h.one
  have h2 := h.size
  have : 0 < cnt m p := by omega
  obtain ⟨i, _, hi⟩ := List.countP_pos_iff.1 this
  exact ⟨i, hi⟩
theorem Quo.choice_ok {m : Int} {parent : Nm} {A : List Vt} {slot round choice : Int} {value : Nm} {p : Int → Bool} (h : Quo m A slot round choice value p) (hA : Sound m parent A) : 1 ≤ round := by
  obtain ⟨i, hi⟩ := h.some
  obtain ⟨w, hw, hk, hs, hr, _⟩ := h.each i hi
  have := valid_prevote (allowed_guard (hA.ok w hw)).1 (Or.inr hk)
  omega
/-- two quorums meet -/
theorem quo_meet {m : Int} {p q : Int → Bool} (hp : quorum_f (size_f m) ≤ (cnt m p : Int)) (hq : quorum_f (size_f m) ≤ (cnt m q : Int)) {t : Int → Bool} (ht : ∀ i, has_f m i = true → p i = true → q i = true → t i = true) : 2 * quorum_f (size_f m) - size_f m ≤ (cnt m t : Int) := by
  have h1 := cnt_inter m p q
  have h2 : cnt m (fun i => p i && q i) ≤ cnt m t := cnt_mono fun i hi h => by
    simp only [Bool.and_eq_true] at h
    exact ht i hi h.1 h.2
  have h3 := size_ids m
  omega
theorem conflict_of {a b : Vt} (ha : valid_f a = true) (hb : valid_f b = true) (hk : a.kind = b.kind) (hp : a.parent = b.parent) (hs : a.slot = b.slot) (hr : a.round = b.round) (hi : a.signer = b.signer) (hne : ¬ (a.choice = b.choice ∧ a.value = b.value)) : conflict_f a b = true := by
  unfold conflict_f sameKey_f
  have : ¬ a = b := fun e => hne (by rw [e]; exact ⟨rfl, rfl⟩)
  simp [this, hk, hp, hs, hr, hi, ha, hb]
/-- a value that a quorum precommitted stays, but for members that bear conflicting votes -/
theorem locked {m : Int} {parent : Nm} {A B : List Vt} (hA : Sound m parent A) (hB : Sound m parent B) {slot r choice : Int} {value : Nm} {p : Int → Bool} (hc : ¬ choice = 2) (hp : Quo m A slot r choice value p) {t : Int → Bool}
    (ht : ∀ i, has_f m i = true → ∀ a ∈ A, ∀ b ∈ B, a.signer = i → b.signer = i → a.slot = slot → b.slot = slot → conflict_f a b = true → t i = true) :
    ∀ (n : Nat) (v : Vt), v ∈ B → v.slot = slot → v.kind = 3 → r < v.round → (v.round - r).toNat = n → ¬ (v.choice = choice ∧ v.value = value) → 2 * quorum_f (size_f m) - size_f m ≤ (cnt m t : Int) := by
  intro n
  induction n using Nat.strongRecOn with
  | _ n ih =>
    intro v hv hs hk hr hn hne
    have hv1 := hB.ok v hv
    have hr1 : ¬ v.round = 1 := by have := hp.choice_ok hA; omega
    obtain ⟨hS, w, hw, hwv, hwp, hws, hwk, hwr, hwc, hwval⟩ := prevote_rests hv1 hk hr1
    by_cases hlast : v.round - 1 = r
    · -- the round behind the decision
      have hq : quorum_f (size_f m) ≤ (cnt m (has_f v.support) : Int) := by
        rw [← hS.size]
        exact size_le_cnt fun i hi => ⟨hS.sub i hi, hi⟩
      refine quo_meet hp.size hq fun i hi h1 h2 => ?_
      obtain ⟨a, ha, hak, has, har, hac, hav, hai⟩ := hp.each i h1
      obtain ⟨b, hb, hbi, hbv, hbp, hbs, hbk, hbr, hbc⟩ := hS.each i h2
      refine ht i hi a ha b hb hai hbi has (hbs.trans hs) (conflict_of (allowed_guard (hA.ok a ha)).1 hbv (by rw [hak, hbk]) ?_ (by rw [has, hbs, hs]) (by rw [har, hbr, hlast]) (by rw [hai, hbi]) fun ⟨e1, e2⟩ => ?_)
      · rw [hA.par a ha, hbp, hB.par v hv]
      · rcases hbc with ⟨h3, h4⟩ | h3
        · exact hne ⟨by rw [← h3, ← e1, hac], by rw [← h4, ← e2, hav]⟩
        · exact hc (by rw [← hac, e1, h3])
    · -- a Prevote of the round ahead for the same value
      have key : ∃ u ∈ B, u.slot = slot ∧ u.kind = 3 ∧ u.round = v.round - 1 ∧ u.choice = v.choice ∧ u.value = v.value := by
        rcases hwk with hwk | hwk
        · exact ⟨w, hw, hws.trans hs, hwk, hwr, hwc, hwval⟩
        · have hvc := (valid_prevote (allowed_guard hv1).1 (Or.inl hk)).2.2.2.2 hk
          have hS2 := precommit_rests (hB.ok w hw) hwk (by omega)
          have hq0 : 0 < size_f w.support := by rw [hS2.size]; exact quorum_pos hp.one
          obtain ⟨i, hi⟩ := size_pos hq0
          obtain ⟨u, hu, _, _, _, hus, huk, hur, huc, huv⟩ := hS2.each i hi
          exact ⟨u, hu, hus.trans (hws.trans hs), huk, hur.trans hwr, huc.trans hwc, huv.trans hwval⟩
      obtain ⟨u, hu, hus, huk, hur, huc, huv⟩ := key
      exact ih (u.round - r).toNat (by omega) u hu hus huk (by omega) rfl (by rw [huc, huv]; exact hne)
/-- unlike values of one slot -/
theorem unlike {m : Int} {parent : Nm} {A B : List Vt} (hA : Sound m parent A) (hB : Sound m parent B) {slot r r' choice choice' : Int} {value value' : Nm} {p q : Int → Bool} (hc : ¬ choice = 2) (hc' : ¬ choice' = 2) (hp : Quo m A slot r choice value p) (hq : Quo m B slot r' choice' value' q) (hle : r ≤ r') (hne : ¬ (choice' = choice ∧ value' = value)) {t : Int → Bool}
    (ht : ∀ i, has_f m i = true → ∀ a ∈ A, ∀ b ∈ B, a.signer = i → b.signer = i → a.slot = slot → b.slot = slot → conflict_f a b = true → t i = true) : 2 * quorum_f (size_f m) - size_f m ≤ (cnt m t : Int) := by
  by_cases he : r = r'
  · refine quo_meet hp.size hq.size fun i hi h1 h2 => ?_
    obtain ⟨a, ha, hak, has, har, hac, hav, hai⟩ := hp.each i h1
    obtain ⟨b, hb, hbk, hbs, hbr, hbc, hbv, hbi⟩ := hq.each i h2
    exact ht i hi a ha b hb hai hbi has hbs (conflict_of (allowed_guard (hA.ok a ha)).1 (allowed_guard (hB.ok b hb)).1 (by rw [hak, hbk]) (by rw [hA.par a ha, hB.par b hb]) (by rw [has, hbs]) (by rw [har, hbr, he]) (by rw [hai, hbi]) fun ⟨e1, e2⟩ => hne ⟨by rw [← hbc, ← e1, hac], by rw [← hbv, ← e2, hav]⟩)
  · obtain ⟨i, hi⟩ := hq.some
    obtain ⟨w, hw, hwk, hws, hwr, hwc, hwv, hwi⟩ := hq.each i hi
    have hS := precommit_rests (hB.ok w hw) hwk (by rw [hwc]; exact hc')
    have hq0 : 0 < size_f w.support := by rw [hS.size]; exact quorum_pos hp.one
    obtain ⟨j, hj⟩ := size_pos hq0
    obtain ⟨u, hu, _, _, _, hus, huk, hur, huc, huv⟩ := hS.each j hj
    exact locked hA hB hc hp ht _ u hu (hus.trans hws) huk (by omega) rfl (by rw [huc, huv, hwc, hwv]; exact hne)
theorem conflict_symm (a b : Vt) : conflict_f a b = conflict_f b a := by
  unfold conflict_f sameKey_f
  have e : ∀ {α : Type} [DecidableEq α] (x y : α), decide (x = y) = decide (y = x) := fun x y => decide_eq_decide.2 ⟨Eq.symm, Eq.symm⟩
  rw [e a b, e a.kind, e a.parent, e a.slot, e a.round, e a.signer]
  cases valid_f a <;> cases valid_f b <;> simp
theorem account {m : Int} {parent : Nm} {A B : List Vt} (hA : Sound m parent A) (hB : Sound m parent B) {slot r r' choice choice' : Int} {value value' : Nm} {p q : Int → Bool} (hc : ¬ choice = 2) (hc' : ¬ choice' = 2) (hp : Quo m A slot r choice value p) (hq : Quo m B slot r' choice' value' q) (hne : ¬ (choice' = choice ∧ value' = value)) {t : Int → Bool}
    (ht : ∀ i, has_f m i = true → ∀ a ∈ A, ∀ b ∈ B, a.signer = i → b.signer = i → a.slot = slot → b.slot = slot → conflict_f a b = true → t i = true) : 2 * quorum_f (size_f m) - size_f m ≤ (cnt m t : Int) := by
  by_cases hle : r ≤ r'
  · exact unlike hA hB hc hc' hp hq hle hne ht
  · exact unlike hB hA hc' hc hq hp (by omega) (fun ⟨e1, e2⟩ => hne ⟨e1.symm, e2.symm⟩) fun i hi a ha b hb e1 e2 e3 e4 e5 => ht i hi b hb a ha e2 e1 e4 e3 (by rw [conflict_symm]; exact e5)
end Go.Proofs.Ytdknjfmjddlphaa
