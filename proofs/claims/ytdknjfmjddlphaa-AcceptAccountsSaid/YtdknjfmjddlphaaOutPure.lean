/-
  Layer 12: outcomes and accepted votes as sets: slots apart, more votes, who decides. No walk.
-/
import Derived.Test.YtdknjfmjddlphaaDefs4
import Derived.Test.YtdknjfmjddlphaaAccount
set_option linter.unusedSimpArgs false
set_option linter.unusedVariables false
namespace Go.Proofs.Ytdknjfmjddlphaa
open Go Go.Fk

/-! ### what is allowed stays allowed -/
theorem any_sub {a b : List Vt} (h : ∀ x ∈ a, x ∈ b) {p : Vt → Bool} (ha : a.any p = true) : b.any p = true := by
  rw [List.any_eq_true] at ha ⊢
  obtain ⟨x, hx, hp⟩ := ha
  exact ⟨x, h x hx, hp⟩
theorem supported_sub {m q : Int} {v : Vt} {a b : List Vt} (h : ∀ x ∈ a, x ∈ b) {p : Vt → Bool} (ha : supported_f m q v a p = true) : supported_f m q v b p = true := by
  unfold supported_f at ha ⊢
  cases hg : (!decide ((iandn v.support m) = 0)) || (!decide ((size_f v.support) = q)) with
  | true => rw [hg] at ha; cases ha
  | false =>
    rw [hg] at ha
    simp only [cond_false] at ha ⊢
    rw [List.all_eq_true] at ha ⊢
    exact fun i hi => any_sub h (ha i hi)
/-- the Mixed Precommit: two votes that count are unlike -/
theorem anySt_pre3 {v : Vt} : ∀ (c pre : List Vt), anySt (pre3q v) pre c = true ↔ ∃ x ∈ c, pre3ok v x = true ∧ ∃ y, ((pre ++ c).filter (pre3ok v)).head? = some y ∧ same_f y x = false
  | [], pre => by simp [anySt]
  | x :: t, pre => by
    have ih := anySt_pre3 (v := v) t (pre ++ [x])
    have e : pre ++ [x] ++ t = pre ++ x :: t := by simp
    rw [e] at ih
    show (pre3q v pre x || anySt (pre3q v) (pre ++ [x]) t) = true ↔ _
    rw [Bool.or_eq_true, ih]
    have hq : pre3q v pre x = true ↔ (pre3ok v x = true ∧ ∃ y, ((pre ++ x :: t).filter (pre3ok v)).head? = some y ∧ same_f y x = false) := by
      unfold pre3q
      rw [List.filter_append, List.head?_append]
      cases hh : (pre.filter (pre3ok v)).head? with
      | none =>
        simp only [Option.none_or]
        unfold precommit3n_f
        have e2 : same_f x x = true := by rw [same_iff]; exact ⟨rfl, rfl⟩
        constructor
        · intro h
          cases hg : (!(precommit1_f x v)) || (!(has_f v.support x.signer)) <;> rw [hg] at h <;> simp [e2] at h
        · rintro ⟨hok, y, hy, hs⟩
          rw [List.filter_cons, if_pos hok] at hy
          simp at hy
          subst hy
          rw [e2] at hs; cases hs
      | some y =>
        simp only [Option.some_or]
        unfold precommit3s_f pre3ok
        constructor
        · intro h
          cases hg : (!(precommit1_f x v)) || (!(has_f v.support x.signer)) with
          | true => rw [hg] at h; cases h
          | false =>
            rw [hg] at h
            simp only [cond_false, Bool.not_eq_true'] at h
            simp only [Bool.or_eq_false_iff, Bool.not_eq_false'] at hg
            exact ⟨by simp [hg.1, hg.2], y, rfl, h⟩
        · rintro ⟨hok, z, hz, hs⟩
          cases hz
          simp only [Bool.and_eq_true] at hok
          simp [hok.1, hok.2, hs]
    rw [hq]
    constructor
    · rintro (⟨h1, h2⟩ | ⟨z, hz, h1, h2⟩)
      · exact ⟨x, by simp, h1, h2⟩
      · exact ⟨z, by simp [hz], h1, h2⟩
    · rintro ⟨z, hz, h1, h2⟩
      rcases List.mem_cons.1 hz with rfl | hz
      · exact Or.inl ⟨h1, h2⟩
      · exact Or.inr ⟨z, hz, h1, h2⟩
theorem anySt_two {v : Vt} {c : List Vt} : anySt (pre3q v) [] c = true ↔ ∃ x ∈ c, ∃ y ∈ c, pre3ok v x = true ∧ pre3ok v y = true ∧ same_f y x = false := by
  rw [anySt_pre3]
  simp only [List.nil_append]
  constructor
  · rintro ⟨x, hx, h1, y, hy, hs⟩
    have : y ∈ c.filter (pre3ok v) := List.mem_of_mem_head? hy
    rw [List.mem_filter] at this
    exact ⟨x, hx, y, this.1, h1, this.2, hs⟩
  · rintro ⟨x, hx, y, hy, h1, h2, hs⟩
    cases hh : (c.filter (pre3ok v)).head? with
    | none =>
      rw [List.head?_eq_none_iff] at hh
      have : x ∈ c.filter (pre3ok v) := List.mem_filter.2 ⟨hx, h1⟩
      rw [hh] at this; cases this
    | some z =>
      by_cases hz : same_f z x = true
      · refine ⟨y, hy, h2, z, rfl, ?_⟩
        cases hzy : same_f z y with
        | false => rfl
        | true =>
          rw [same_iff] at hz hzy
          have : same_f y x = true := by rw [same_iff]; exact ⟨hzy.1.symm.trans hz.1, hzy.2.symm.trans hz.2⟩
          rw [this] at hs; cases hs
      · exact ⟨x, hx, h1, z, rfl, by simpa using hz⟩
theorem anySt_sub {v : Vt} {a b : List Vt} (h : ∀ x ∈ a, x ∈ b) (ha : anySt (pre3q v) [] a = true) : anySt (pre3q v) [] b = true := by
  rw [anySt_two] at ha ⊢
  obtain ⟨x, hx, y, hy, r⟩ := ha
  exact ⟨x, h x hx, y, h y hy, r⟩
theorem allowed_sub {m : Int} {v : Vt} {A B : List Vt} (h : ∀ x ∈ A, x ∈ B) (ha : allowed_f m v A = true) : allowed_f m v B = true := by
  have hf : ∀ x ∈ A.filter (counts_f m v), x ∈ B.filter (counts_f m v) := fun x hx => by
    rw [List.mem_filter] at hx ⊢
    exact ⟨h x hx.1, hx.2⟩
  unfold allowed_f at ha ⊢
  generalize A.filter (counts_f m v) = a at ha hf
  generalize B.filter (counts_f m v) = b at hf ⊢
  cases hg : (((!(valid_f v)) || (decide (4 < v.kind))) || (!(has_f m v.signer))) || (!(has_f m v.slot)) with
  | true => rw [hg] at ha; cases ha
  | false =>
    rw [hg] at ha
    simp only [cond_false] at ha ⊢
    by_cases k1 : v.kind = 1
    · simp [k1] at ha ⊢; exact ha
    · by_cases k2 : v.kind = 2
      · simp only [k2] at ha ⊢
        exact any_sub hf ha
      · by_cases k3 : v.kind = 3
        · simp only [k3] at ha ⊢
          unfold prevote_f at ha ⊢
          by_cases hr : v.round = 1
          · simp [hr] at ha ⊢
            rcases ha with ha | ha
            · exact Or.inl ha
            · exact Or.inr (supported_sub hf ha)
          · simp only [hr, decide_false, cond_false] at ha ⊢
            generalize hS : (fun xx => prevote4_f xx (fun xx => prevote2_f xx v) (fun xx => prevote3_f xx v)) = S at ha ⊢
            generalize hT : (fun xx => prevote5_f xx v (fun xx => prevote2_f xx v)) = T at ha ⊢
            change (bif supported_f m (quorum_f (size_f m)) v a S && a.any T then true else supported_f m (quorum_f (size_f m)) v a (fun xx => prevote3_f xx v) && a.any (fun xx => prevote6_f xx v)) = true at ha
            change (bif supported_f m (quorum_f (size_f m)) v b S && b.any T then true else supported_f m (quorum_f (size_f m)) v b (fun xx => prevote3_f xx v) && b.any (fun xx => prevote6_f xx v)) = true
            cases hc : supported_f m (quorum_f (size_f m)) v a S && a.any T with
            | true =>
              rw [Bool.and_eq_true] at hc
              rw [supported_sub hf hc.1, any_sub hf hc.2]; rfl
            | false =>
              rw [hc] at ha
              simp only [cond_false, Bool.and_eq_true] at ha
              rw [supported_sub hf ha.1, any_sub hf ha.2]
              cases supported_f m (quorum_f (size_f m)) v b S && b.any T <;> rfl
        · have k4 : v.kind = 4 := by
            simp only [Bool.or_eq_false_iff, Bool.not_eq_false', decide_eq_false_iff_not] at hg
            have := (valid_bounds hg.1.1.1).1
            omega
          simp only [k4] at ha ⊢
          unfold precommit_f at ha ⊢
          by_cases hc : v.choice = 2
          · simp only [hc] at ha ⊢
            change (bif !(supported_f m (quorum_f (size_f m)) v a (fun xx => precommit1_f xx v)) then false else anySt (pre3q v) [] a) = true at ha
            change (bif !(supported_f m (quorum_f (size_f m)) v b (fun xx => precommit1_f xx v)) then false else anySt (pre3q v) [] b) = true
            cases hs : supported_f m (quorum_f (size_f m)) v a (fun xx => precommit1_f xx v) with
            | false => rw [hs] at ha; cases ha
            | true =>
              rw [hs] at ha
              rw [supported_sub hf hs]
              exact anySt_sub hf ha
          · simp only [hc, decide_false, Bool.not_false] at ha ⊢
            exact supported_sub hf ha

/-! ### accepted votes as a set -/
theorem mem_asc {parent : Nm} {l : List Vt} {x : Vt} : x ∈ asc_f parent l ↔ x.parent = parent ∧ x ∈ l := by
  unfold asc_f
  rw [sorted_mem, List.mem_filter]
  simp [and_comm]
theorem asc_set {parent : Nm} {l l' : List Vt} (h : ∀ x, x.parent = parent → (x ∈ l ↔ x ∈ l')) : asc_f parent l = asc_f parent l' := by
  refine Asc.unique vote_lin (sorted_asc vote_lin _) (sorted_asc vote_lin _) fun x => ?_
  show x ∈ asc_f parent l ↔ x ∈ asc_f parent l'
  rw [mem_asc, mem_asc]
  constructor
  · exact fun ⟨h1, h2⟩ => ⟨h1, (h x h1).1 h2⟩
  · exact fun ⟨h1, h2⟩ => ⟨h1, (h x h1).2 h2⟩
theorem acc_set {m : Int} {parent : Nm} {l l' : List Vt} (h : ∀ x, x.parent = parent → (x ∈ l ↔ x ∈ l')) : accepted_f m parent l = accepted_f m parent l' := by
  rw [accepted_gain, accepted_gain, asc_set h]
/-- whatever is allowed by accepted votes is accepted -/
theorem acc_closed {m : Int} {parent : Nm} {l : List Vt} {v : Vt} (hp : v.parent = parent) (hl : v ∈ l) (h : allowed_f m v (accepted_f m parent l) = true) : v ∈ accepted_f m parent l := by
  by_cases hc : v ∈ accepted_f m parent l
  · exact hc
  · have := (fix_accepted m parent l).rest v (mem_asc.2 ⟨hp, hl⟩) hc
    rw [this] at h; cases h
theorem acc_least {m : Int} {parent : Nm} {l : List Vt} {S : List Vt} (hS : ∀ v ∈ l, v.parent = parent → allowed_f m v S = true → v ∈ S) : ∀ v ∈ accepted_f m parent l, v ∈ S := by
  have hj := (fix_accepted m parent l).just
  have hs : ∀ v ∈ accepted_f m parent l, v.parent = parent ∧ v ∈ l := fun v hv => acc_sub hv
  generalize accepted_f m parent l = out at hj hs
  have key : ∀ k, k ≤ out.length → ∀ v ∈ out.take k, v ∈ S := by
    intro k
    induction k with
    | zero => intro _ v hv; simp at hv
    | succ k ih =>
      intro hk v hv
      have hkl : k < out.length := by omega
      rw [take_bang hkl, List.mem_append, List.mem_singleton] at hv
      rcases hv with hv | rfl
      · exact ih (by omega) v hv
      · have e : out = out.take k ++ out[k]! :: out.drop (k + 1) := by
          rw [getElem!_pos out k hkl, ← List.drop_eq_getElem_cons hkl, List.take_append_drop]
        have hm : out[k]! ∈ out := by rw [getElem!_pos out k hkl]; exact List.getElem_mem hkl
        exact hS _ (hs _ hm).2 (hs _ hm).1 (allowed_sub (ih (by omega)) (hj _ _ _ e))
  have := key out.length (Nat.le_refl _)
  rwa [List.take_length] at this
theorem acc_mono {m : Int} {parent : Nm} {l l' : List Vt} (h : ∀ x ∈ l, x ∈ l') : ∀ x ∈ accepted_f m parent l, x ∈ accepted_f m parent l' :=
  acc_least fun v hv hp ha => acc_closed hp (h v hv) ha
/-- the accepted votes of a slot -/
theorem allowed_slot {m : Int} {v : Vt} {A : List Vt} {slot : Int} (hs : v.slot = slot) : allowed_f m v (A.filter fun x => decide (x.slot = slot)) = allowed_f m v A := by
  subst hs; exact filter_counts A
theorem acc_own {m : Int} {parent : Nm} {l : List Vt} {slot : Int} : accepted_f m parent (own_f slot l) = (accepted_f m parent l).filter fun x => decide (x.slot = slot) := by
  refine Asc.unique vote_lin (acc_asc _ _ _) ((acc_asc _ _ _).sublist List.filter_sublist) fun x => ⟨fun hx => ?_, fun hx => ?_⟩
  · have hx' := acc_sub hx
    unfold own_f at hx'
    rw [List.mem_filter] at hx'
    simp only [Bool.and_eq_true, decide_eq_true_eq] at hx'
    exact List.mem_filter.2 ⟨acc_mono (l := own_f slot l) (fun x hx => (List.mem_filter.1 hx).1) x hx, by simpa using hx'.2.2.1⟩
  · rw [List.mem_filter] at hx
    obtain ⟨hx1, hx2⟩ := hx
    simp only [decide_eq_true_eq] at hx2
    -- S: the accepted of the slot, and all of other slots
    have := acc_least (m := m) (parent := parent) (l := l) (S := accepted_f m parent (own_f slot l) ++ l.filter (fun x => !decide (x.slot = slot))) (fun v hv hp ha => ?_) x hx1
    · rcases List.mem_append.1 this with h | h
      · exact h
      · rw [List.mem_filter] at h; simp [hx2] at h
    · by_cases hs : v.slot = slot
      · refine List.mem_append_left _ ?_
        have hg := allowed_guard ha
        refine acc_closed hp (List.mem_filter.2 ⟨hv, by simp [hs, hg.2.1]⟩) ?_
        rw [← allowed_slot hs] at ha
        rw [List.filter_append] at ha
        have e2 : (l.filter (fun x => !decide (x.slot = slot))).filter (fun x => decide (x.slot = slot)) = [] := by
          rw [List.filter_eq_nil_iff]
          intro y hy
          rw [List.mem_filter] at hy
          simpa using hy.2
        rw [e2, List.append_nil, allowed_slot hs] at ha
        exact ha
      · exact List.mem_append_right _ (List.mem_filter.2 ⟨hv, by simpa using hs⟩)

/-! ### who decides -/
/-- member i has a Precommit for the outcome -/
def Sg (A : List Vt) (o : Oc) (i : Int) : Prop := ∃ w ∈ A, w.kind = 4 ∧ ¬ w.choice = 2 ∧ ocOf o.slot w = o ∧ w.signer = i
theorem byStep_get {slot : Int} {A : List Vt} (hA : ∀ w ∈ A, 0 ≤ w.signer ∧ w.signer ≤ 9) : ∀ (o : Oc), o.slot = slot → (∀ i, has_f (mget (by_f slot A) o) i = true ↔ Sg A o i) ∧ (o ∈ (by_f slot A).map Prod.fst ↔ ∃ i, Sg A o i) := by
  unfold by_f
  have key : ∀ k, k ≤ A.length → ((((A.take k).foldl (byStep slot) []).map Prod.fst).Nodup) ∧ ∀ o : Oc, o.slot = slot → (∀ i, has_f (mget ((A.take k).foldl (byStep slot) []) o) i = true ↔ Sg (A.take k) o i) ∧ (o ∈ ((A.take k).foldl (byStep slot) []).map Prod.fst ↔ ∃ i, Sg (A.take k) o i) := by
    intro k
    induction k with
    | zero => 
      refine fun _ => ⟨by simp, fun o ho => ⟨fun i => ?_, ?_⟩⟩
      · have : mget ([] : List (Oc × Int)) o = 0 := rfl
        simp [this, has_zero, Sg]
      · simp [Sg]
    | succ k ih =>
      intro hk
      have hkl : k < A.length := by omega
      obtain ⟨hn, ih⟩ := ih (by omega)
      rw [fold_go hkl]
      generalize (A.take k).foldl (byStep slot) [] = B at ih hn
      have hmem : A[k]! ∈ A := by rw [getElem!_pos A k hkl]; exact List.getElem_mem hkl
      have hb := hA _ hmem
      have hSg : ∀ o i, Sg (A.take (k + 1)) o i ↔ (Sg (A.take k) o i ∨ (A[k]!.kind = 4 ∧ ¬ A[k]!.choice = 2 ∧ ocOf o.slot A[k]! = o ∧ A[k]!.signer = i)) := fun o i => by
        unfold Sg
        rw [take_bang hkl]
        constructor
        · rintro ⟨w, hw, r⟩
          rcases List.mem_append.1 hw with hw | hw
          · exact Or.inl ⟨w, hw, r⟩
          · rw [List.mem_singleton] at hw; subst hw; exact Or.inr r
        · rintro (⟨w, hw, r⟩ | r)
          · exact ⟨w, List.mem_append_left _ hw, r⟩
          · exact ⟨_, List.mem_append_right _ (List.mem_singleton.2 rfl), r⟩
      generalize A[k]! = v at hb hSg
      unfold byStep
      cases hp : pcm v with
      | false =>
        refine ⟨hn, fun o ho => ?_⟩
        have : ∀ i, Sg (A.take (k + 1)) o i ↔ Sg (A.take k) o i := fun i => by
          rw [hSg]
          constructor
          · rintro (h | ⟨h1, h2, _⟩)
            · exact h
            · unfold pcm at hp; simp [h1, h2] at hp
          · exact Or.inl
        simp only [cond_false, this]
        exact ih o ho
      | true =>
        simp only [cond_true]
        unfold pcm at hp
        simp only [Bool.and_eq_true, decide_eq_true_eq, Bool.not_eq_true', decide_eq_false_iff_not] at hp
        refine ⟨mput_nodup hn, fun o ho => ?_⟩
        by_cases he : o = ocOf slot v
        · obtain ⟨h1, h2⟩ := ih o ho
          have hget : mget (mput B (ocOf slot v) (ior (mget B (ocOf slot v)) (ishl 1 v.signer))) o = ior (mget B o) (ishl 1 v.signer) := by
            rw [← he]
            exact mget_mem (mput_nodup hn) (p := (o, ior (mget B o) (ishl 1 v.signer))) (mput_mem.2 (Or.inl rfl))
          have hoc : ocOf o.slot v = o := by rw [ho]; exact he.symm
          refine ⟨fun i => ?_, ?_⟩
          · rw [hget, has_ior, Bool.or_eq_true, h1, hSg, has_ishl hb.1 hb.2]
            refine or_congr Iff.rfl ?_
            rw [decide_eq_true_eq]
            exact ⟨fun e => ⟨hp.1, hp.2, hoc, e.symm⟩, fun h => h.2.2.2.symm⟩
          · constructor
            · intro _
              exact ⟨v.signer, (hSg _ _).2 (Or.inr ⟨hp.1, hp.2, hoc, rfl⟩)⟩
            · intro _
              exact List.mem_map.2 ⟨(ocOf slot v, _), mput_mem.2 (Or.inl rfl), he.symm⟩
        · obtain ⟨h1, h2⟩ := ih o ho
          have hno : ∀ i, Sg (A.take (k + 1)) o i ↔ Sg (A.take k) o i := fun i => by
            rw [hSg]
            constructor
            · rintro (h | ⟨_, _, h, _⟩)
              · exact h
              · rw [ho] at h; exact absurd h.symm he
            · exact Or.inl
          have hget : mget (mput B (ocOf slot v) (ior (mget B (ocOf slot v)) (ishl 1 v.signer))) o = mget B o := by
            by_cases ho2 : ∃ p ∈ B, p.1 = o
            · obtain ⟨p, hp2, rfl⟩ := ho2
              rw [mget_mem hn hp2]
              exact mget_mem (mput_nodup hn) (mput_mem.2 (Or.inr ⟨he, hp2⟩))
            · have : ∀ p ∈ B, p.1 ≠ o := fun p hp2 e => ho2 ⟨p, hp2, e⟩
              rw [mget_none this]
              refine mget_none fun p hp2 => ?_
              rcases mput_mem.1 hp2 with rfl | ⟨_, hp2⟩
              · exact fun e => he e.symm
              · exact this p hp2
          refine ⟨fun i => by rw [hget, hno]; exact h1 i, ?_⟩
          simp only [hno]
          rw [← h2, mput_keys]
          by_cases hk2 : ocOf slot v ∈ B.map Prod.fst
          · rw [if_pos hk2]
          · rw [if_neg hk2, List.mem_append, List.mem_singleton]
            exact ⟨fun h => h.resolve_right he, Or.inl⟩
  have := (key A.length (Nat.le_refl _)).2
  rwa [List.take_length] at this
def sgB (A : List Vt) (o : Oc) (i : Int) : Bool := A.any fun w => decide (w.kind = 4) && !decide (w.choice = 2) && decide (ocOf o.slot w = o) && decide (w.signer = i)
theorem sgB_iff {A : List Vt} {o : Oc} {i : Int} : sgB A o i = true ↔ Sg A o i := by
  unfold sgB Sg
  rw [List.any_eq_true]
  simp only [Bool.and_eq_true, decide_eq_true_eq, Bool.not_eq_true', decide_eq_false_iff_not]
  constructor
  · rintro ⟨w, hw, ⟨⟨⟨h1, h2⟩, h3⟩, h4⟩⟩; exact ⟨w, hw, h1, h2, h3, h4⟩
  · rintro ⟨w, hw, h1, h2, h3, h4⟩; exact ⟨w, hw, ⟨⟨⟨h1, h2⟩, h3⟩, h4⟩⟩
/-- how many members have a Precommit for the outcome -/
def sgs (m : Int) (A : List Vt) (o : Oc) : Nat := cnt m (sgB A o)
theorem acc_signers {m : Int} {parent : Nm} {l : List Vt} {w : Vt} (h : w ∈ accepted_f m parent l) : has_f m w.signer = true ∧ 0 ≤ w.signer ∧ w.signer ≤ 9 := by
  have hg := allowed_guard (acc_mem_allowed h)
  exact ⟨hg.2.2.1, (valid_bounds hg.1).2.1⟩
theorem Sg.slot {A : List Vt} {slot : Int} {o : Oc} {i : Int} (ho : o.slot = slot) : Sg (A.filter fun x => decide (x.slot = slot)) o i ↔ ∃ w ∈ A, w.slot = slot ∧ w.kind = 4 ∧ ¬ w.choice = 2 ∧ w.round = o.round ∧ w.choice = o.choice ∧ w.value = o.value ∧ w.signer = i := by
  unfold Sg ocOf
  constructor
  · rintro ⟨w, hw, h1, h2, h3, h4⟩
    rw [List.mem_filter] at hw
    exact ⟨w, hw.1, by simpa using hw.2, h1, h2, congrArg Oc.round h3, congrArg Oc.choice h3, congrArg Oc.value h3, h4⟩
  · rintro ⟨w, hw, h0, h1, h2, h3, h4, h5, h6⟩
    refine ⟨w, List.mem_filter.2 ⟨hw, by simpa using h0⟩, h1, h2, ?_, h6⟩
    rw [h3, h4, h5]
theorem mem_outcomes {m : Int} {parent : Nm} {l : List Vt} {slot : Int} {o : Oc} : o ∈ outcomes_f m parent l slot ↔ o.slot = slot ∧ (∃ i, Sg (accepted_f m parent (own_f slot l)) o i) ∧ quorum_f (size_f m) ≤ (sgs m (accepted_f m parent (own_f slot l)) o : Int) := by
  have hsig : ∀ w ∈ accepted_f m parent (own_f slot l), 0 ≤ w.signer ∧ w.signer ≤ 9 := fun w hw => (acc_signers hw).2
  have hmem : ∀ o i, Sg (accepted_f m parent (own_f slot l)) o i → has_f m i = true := fun o i ⟨w, hw, _, _, _, e⟩ => by rw [← e]; exact (acc_signers hw).1
  unfold outcomes_f
  rw [sorted_mem, List.mem_map]
  generalize accepted_f m parent (own_f slot l) = A at hsig hmem
  have hsz : o.slot = slot → size_f (mget (by_f slot A) o) = (sgs m A o : Int) := fun ho => by
    have h1 := (byStep_get hsig o ho).1
    apply Int.le_antisymm
    · exact size_le_cnt fun i hi => ⟨hmem o i ((h1 i).1 hi), sgB_iff.2 ((h1 i).1 hi)⟩
    · exact cnt_le_size fun i _ hi => (h1 i).2 (sgB_iff.1 hi)
  have hk : ((by_f slot A).map Prod.fst).Nodup ∧ ∀ p ∈ by_f slot A, p.1.slot = slot := by_keys slot A [] (by simp) (by simp)
  constructor
  · rintro ⟨p, hp, rfl⟩
    rw [List.mem_filter] at hp
    have hs : p.1.slot = slot := hk.2 p hp.1
    refine ⟨hs, ((byStep_get hsig p.1 hs).2).1 (List.mem_map.2 ⟨p, hp.1, rfl⟩), ?_⟩
    have := hp.2
    unfold outP at this
    rw [decide_eq_true_eq] at this
    rw [← hsz hs, mget_mem hk.1 hp.1]
    exact this
  · rintro ⟨hs, hi, hq⟩
    obtain ⟨p, hp, e⟩ := List.mem_map.1 (((byStep_get hsig o hs).2).2 hi)
    subst e
    refine ⟨p, List.mem_filter.2 ⟨hp, ?_⟩, rfl⟩
    unfold outP
    rw [decide_eq_true_eq]
    rw [← hsz hs, mget_mem hk.1 hp] at hq
    exact hq
/-- an outcome has a quorum behind it -/
theorem outcome_quo {m : Int} {parent : Nm} {l : List Vt} {slot : Int} {o : Oc} (h : o ∈ outcomes_f m parent l slot) : o.slot = slot ∧ ¬ o.choice = 2 ∧ ∃ p, Quo m (accepted_f m parent l) slot o.round o.choice o.value p := by
  obtain ⟨hs, ⟨i, hi⟩, hq⟩ := mem_outcomes.1 h
  rw [acc_own] at hi hq
  have key := fun i => Sg.slot (A := accepted_f m parent l) (i := i) hs
  refine ⟨hs, ?_, ?_⟩
  · obtain ⟨w, _, _, _, h2, _, h3, _⟩ := (key i).1 hi
    rw [← h3]; exact h2
  · refine ⟨sgB ((accepted_f m parent l).filter fun x => decide (x.slot = slot)) o, fun j hj => ?_, fun j hj => ?_, ?_, ?_⟩
    · obtain ⟨w, hw, _, _, _, _, _, _, e⟩ := (key j).1 (sgB_iff.1 hj)
      rw [← e]; exact (acc_signers hw).1
    · obtain ⟨w, hw, h0, h1, _, h3, h4, h5, h6⟩ := (key j).1 (sgB_iff.1 hj)
      exact ⟨w, hw, h1, h0, h3, h4, h5, h6⟩
    · exact hq
    · obtain ⟨w, hw, _, _, _, _, _, _, e⟩ := (key i).1 hi
      exact size_some (acc_signers hw).1
theorem outcomes_mono {m : Int} {parent : Nm} {l l' : List Vt} (h : ∀ x ∈ l, x ∈ l') {slot : Int} {o : Oc} (ho : o ∈ outcomes_f m parent l slot) : o ∈ outcomes_f m parent l' slot := by
  obtain ⟨hs, ⟨i, hi⟩, hq⟩ := mem_outcomes.1 ho
  have hsub : ∀ x ∈ accepted_f m parent (own_f slot l), x ∈ accepted_f m parent (own_f slot l') := acc_mono fun x hx => by
    unfold own_f at hx ⊢
    rw [List.mem_filter] at hx ⊢
    exact ⟨h x hx.1, hx.2⟩
  have hSg : ∀ i, Sg (accepted_f m parent (own_f slot l)) o i → Sg (accepted_f m parent (own_f slot l')) o i := fun i ⟨w, hw, r⟩ => ⟨w, hsub w hw, r⟩
  refine mem_outcomes.2 ⟨hs, ⟨i, hSg i hi⟩, ?_⟩
  have : sgs m (accepted_f m parent (own_f slot l)) o ≤ sgs m (accepted_f m parent (own_f slot l')) o := cnt_mono fun i _ hi => sgB_iff.2 (hSg i (sgB_iff.1 hi))
  omega
theorem outcomes_set {m : Int} {parent : Nm} {l l' : List Vt} {slot : Int} (h : ∀ x, x.parent = parent → x.slot = slot → x.kind ≤ 4 → (x ∈ l ↔ x ∈ l')) : outcomes_f m parent l slot = outcomes_f m parent l' slot := by
  unfold outcomes_f
  rw [acc_set (l := own_f slot l) (l' := own_f slot l') fun x hx => ?_]
  unfold own_f
  rw [List.mem_filter, List.mem_filter]
  simp only [Bool.and_eq_true, decide_eq_true_eq]
  exact ⟨fun ⟨h1, h2, h3⟩ => ⟨(h x hx h2 h3).1 h1, h2, h3⟩, fun ⟨h1, h2, h3⟩ => ⟨(h x hx h2 h3).2 h1, h2, h3⟩⟩
theorem decided_iff {m : Int} {parent : Nm} {l : List Vt} {o : Oc} : decided_f m parent l o = true ↔ o ∈ outcomes_f m parent l o.slot := by
  unfold decided_f
  rw [List.any_eq_true]
  constructor
  · rintro ⟨d, hd, e⟩
    rw [decide_eq_true_eq] at e
    rw [← e] at hd ⊢
    exact hd
  · exact fun h => ⟨o, h, by simp⟩
/-- unlike outcomes of one slot bear conflicting votes -/
theorem outcomes_unlike {m : Int} {parent : Nm} {l l' : List Vt} {slot : Int} {o o' : Oc} (h : o ∈ outcomes_f m parent l slot) (h' : o' ∈ outcomes_f m parent l' slot) (hne : ¬ (o'.choice = o.choice ∧ o'.value = o.value)) {t : Int → Bool}
    (ht : ∀ i, has_f m i = true → ∀ a ∈ accepted_f m parent l, ∀ b ∈ accepted_f m parent l', a.signer = i → b.signer = i → a.slot = slot → b.slot = slot → conflict_f a b = true → t i = true) : 2 * quorum_f (size_f m) - size_f m ≤ (cnt m t : Int) := by
  obtain ⟨_, hc, p, hp⟩ := outcome_quo h
  obtain ⟨_, hc', q, hq⟩ := outcome_quo h'
  exact account (acc_sound m parent l) (acc_sound m parent l') hc hc' hp hq hne ht
end Go.Proofs.Ytdknjfmjddlphaa
