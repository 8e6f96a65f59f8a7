/-
  Layer 15's laws: proposed, certified, echoed. No walk.
-/
import Derived.Test.YtdknjfmjddlphaaSmall
import Derived.Test.YtdknjfmjddlphaaLaw12b
set_option linter.unusedSimpArgs false
set_option linter.unusedVariables false
namespace Go.Proofs.Ytdknjfmjddlphaa
open Go Go.Fk

/-- member i has a vote of the kind for the value -/
def Sd (A : List Vt) (kind : Int) (value : Nm) (i : Int) : Prop := ∃ w ∈ A, w.kind = kind ∧ w.value = value ∧ w.signer = i
theorem sg_get {kind : Int} {A : List Vt} (hA : ∀ w ∈ A, 0 ≤ w.signer ∧ w.signer ≤ 9) : ∀ (x : Nm), (∀ i, has_f (mget (sgOf kind A) x) i = true ↔ Sd A kind x i) ∧ (x ∈ (sgOf kind A).map Prod.fst ↔ ∃ i, Sd A kind x i) := by
  have key : ∀ k, k ≤ A.length → (((sgOf kind (A.take k)).map Prod.fst).Nodup) ∧ ∀ x : Nm, (∀ i, has_f (mget (sgOf kind (A.take k)) x) i = true ↔ Sd (A.take k) kind x i) ∧ (x ∈ (sgOf kind (A.take k)).map Prod.fst ↔ ∃ i, Sd (A.take k) kind x i) := by
    intro k
    induction k with
    | zero =>
      refine fun _ => ⟨by simp [sgOf], fun o => ⟨fun i => ?_, ?_⟩⟩
      · have : mget (sgOf kind (A.take 0)) o = 0 := rfl
        rw [this]; simp [has_zero, Sd]
      · simp [Sd, sgOf]
    | succ k ih =>
      intro hk
      have hkl : k < A.length := by omega
      obtain ⟨hn, ih⟩ := ih (by omega)
      have hmem : A[k]! ∈ A := by rw [getElem!_pos A k hkl]; exact List.getElem_mem hkl
      have hb := hA _ hmem
      have hSd : ∀ o i, Sd (A.take (k + 1)) kind o i ↔ (Sd (A.take k) kind o i ∨ (A[k]!.kind = kind ∧ A[k]!.value = o ∧ A[k]!.signer = i)) := fun o i => by
        unfold Sd
        rw [take_bang hkl]
        constructor
        · rintro ⟨w, hw, r⟩
          rcases List.mem_append.1 hw with hw | hw
          · exact Or.inl ⟨w, hw, r⟩
          · rw [List.mem_singleton] at hw; subst hw; exact Or.inr r
        · rintro (⟨w, hw, r⟩ | r)
          · exact ⟨w, List.mem_append_left _ hw, r⟩
          · exact ⟨_, List.mem_append_right _ (List.mem_singleton.2 rfl), r⟩
      have hst : sgOf kind (A.take (k + 1)) = sgStep kind (sgOf kind (A.take k)) A[k]! := by unfold sgOf; exact fold_go hkl
      rw [hst]
      generalize sgOf kind (A.take k) = B at ih hn
      generalize A[k]! = v at hb hSd
      unfold sgStep
      cases hp : decide (v.kind = kind) with
      | false =>
        rw [decide_eq_false_iff_not] at hp
        refine ⟨hn, fun o => ?_⟩
        have : ∀ i, Sd (A.take (k + 1)) kind o i ↔ Sd (A.take k) kind o i := fun i => by
          rw [hSd]
          exact ⟨fun h => h.resolve_right fun h => hp h.1, Or.inl⟩
        simp only [cond_false, this]
        exact ih o
      | true =>
        rw [decide_eq_true_eq] at hp
        simp only [cond_true]
        refine ⟨mput_nodup hn, fun o => ?_⟩
        obtain ⟨h1, h2⟩ := ih o
        by_cases he : o = v.value
        · subst he
          have hget : mget (mput B v.value (ior (mget B v.value) (ishl 1 v.signer))) v.value = ior (mget B v.value) (ishl 1 v.signer) := mget_mem (mput_nodup hn) (p := (v.value, _)) (mput_mem.2 (Or.inl rfl))
          refine ⟨fun i => ?_, ?_⟩
          · rw [hget, has_ior, Bool.or_eq_true, h1, hSd, has_ishl hb.1 hb.2, decide_eq_true_eq]
            exact or_congr Iff.rfl ⟨fun e => ⟨hp, rfl, e.symm⟩, fun h => h.2.2.symm⟩
          · exact ⟨fun _ => ⟨v.signer, (hSd _ _).2 (Or.inr ⟨hp, rfl, rfl⟩)⟩, fun _ => List.mem_map.2 ⟨(v.value, _), mput_mem.2 (Or.inl rfl), rfl⟩⟩
        · have hno : ∀ i, Sd (A.take (k + 1)) kind o i ↔ Sd (A.take k) kind o i := fun i => by
            rw [hSd]
            exact ⟨fun h => h.resolve_right fun h => he h.2.1.symm, Or.inl⟩
          have hget : mget (mput B v.value (ior (mget B v.value) (ishl 1 v.signer))) o = mget B o := by
            by_cases ho2 : ∃ p ∈ B, p.1 = o
            · obtain ⟨p, hp2, rfl⟩ := ho2
              rw [mget_mem hn hp2]
              exact mget_mem (mput_nodup hn) (mput_mem.2 (Or.inr ⟨he, hp2⟩))
            · have : ∀ p ∈ B, p.1 ≠ o := fun p hp2 e => ho2 ⟨p, hp2, e⟩
              rw [mget_none this]
              refine mget_none fun p hp2 => ?_
              rcases mput_mem.1 hp2 with rfl | ⟨_, hp2⟩
              · exact fun e => he e.symm
              · exact this p hp2
          refine ⟨fun i => by rw [hget, hno]; exact h1 i, ?_⟩
          simp only [hno]
          rw [← h2, mput_keys]
          by_cases hk2 : v.value ∈ B.map Prod.fst
          · rw [if_pos hk2]
          · rw [if_neg hk2, List.mem_append, List.mem_singleton]
            exact ⟨fun h => h.resolve_right he, Or.inl⟩
  have := (key A.length (Nat.le_refl _)).2
  rwa [List.take_length] at this
/-- the accepted votes of the slot's list are those of the slot -/
theorem mem_slots {m : Int} {parent : Nm} {l : List Vt} {slot : Int} {x : Vt} (h : x ∈ slots_f m parent l slot) : x ∈ l ∧ x.slot = slot ∧ x.parent = parent := by
  have := acc_sub h
  rw [List.mem_filter] at this
  exact ⟨this.2.1, by simpa using this.2.2, this.1⟩
theorem mem_ascending {b : List (Nm × Int)} (hb : (b.map Prod.fst).Nodup) {n : Int} {x : Nm} : x ∈ ascending15_f b n ↔ x ∈ b.map Prod.fst ∧ x ≠ Nm.zero ∧ n ≤ size_f (mget b x) := by
  unfold ascending15_f
  rw [sorted_mem, List.mem_map]
  constructor
  · rintro ⟨p, hp, rfl⟩
    rw [List.mem_filter] at hp
    obtain ⟨h1, h2⟩ := hp
    unfold ascOut at h2
    simp only [Bool.and_eq_true, Bool.not_eq_true', decide_eq_false_iff_not, decide_eq_true_eq] at h2
    exact ⟨List.mem_map.2 ⟨p, h1, rfl⟩, h2.1, by rw [mget_mem hb h1]; exact h2.2⟩
  · rintro ⟨h1, h2, h3⟩
    obtain ⟨p, hp, rfl⟩ := List.mem_map.1 h1
    refine ⟨p, List.mem_filter.2 ⟨hp, ?_⟩, rfl⟩
    unfold ascOut
    rw [mget_mem hb hp] at h3
    simp [h2, h3]
theorem signers_keys (m : Int) (parent : Nm) (l : List Vt) (slot kind : Int) : ((signers_f m parent l slot kind).map Prod.fst).Nodup := sg_keys kind _ _ (by simp)
theorem echoers_has {m : Int} {parent : Nm} {l : List Vt} {slot : Int} {x : Nm} {i : Int} : has_f (echoers_f m parent l slot x) i = true ↔ Sd (slots_f m parent l slot) 2 x i := (sg_get slots_sigs x).1 i
theorem echoers_sub {m : Int} {parent : Nm} {l : List Vt} {slot : Int} {x : Nm} {i : Int} (h : has_f (echoers_f m parent l slot x) i = true) : has_f m i = true := by
  obtain ⟨w, hw, _, _, e⟩ := echoers_has.1 h
  rw [← e]; exact (acc_signers hw).1
theorem mem_certified {m : Int} {parent : Nm} {l : List Vt} {slot : Int} {x : Nm} : x ∈ certified_f m parent l slot ↔ (∃ i, Sd (slots_f m parent l slot) 2 x i) ∧ x ≠ Nm.zero ∧ quorum_f (size_f m) ≤ size_f (echoers_f m parent l slot x) := by
  unfold certified_f
  rw [mem_ascending (signers_keys m parent l slot 2)]
  unfold signers_f
  rw [(sg_get slots_sigs x).2]
  rfl
theorem sd_pos {m : Int} {parent : Nm} {l : List Vt} {slot kind : Int} {x : Nm} (h : ∃ i, Sd (slots_f m parent l slot) kind x i) : 1 ≤ size_f (mget (signers_f m parent l slot kind) x) := by
  obtain ⟨i, hi⟩ := h
  have := size_some (((sg_get (kind := kind) slots_sigs x).1 i).2 hi)
  unfold signers_f
  omega
theorem mem_proposals {m : Int} {parent : Nm} {l : List Vt} {slot : Int} {x : Nm} : x ∈ proposals_f m parent l slot ↔ (∃ i, Sd (slots_f m parent l slot) 1 x i) ∧ x ≠ Nm.zero := by
  unfold proposals_f
  rw [mem_ascending (signers_keys m parent l slot 1)]
  have : x ∈ (signers_f m parent l slot 1).map Prod.fst ↔ ∃ i, Sd (slots_f m parent l slot) 1 x i := (sg_get slots_sigs x).2
  rw [this]
  exact ⟨fun ⟨h1, h2, _⟩ => ⟨h1, h2⟩, fun ⟨h1, h2⟩ => ⟨h1, h2, sd_pos h1⟩⟩
theorem valid_value {v : Vt} (h : valid_f v = true) : (v.choice = 1 ↔ ¬ v.value = Nm.zero) ∧ iandn v.support 1023 = 0 ∧ (v.kind = 1 ∨ v.kind = 2 → v.choice = 1 ∧ v.support = 0 ∧ v.round = 0) := by
  unfold valid_f at h
  cases h1 : (!(between_f v.kind 1 7)) || (!(between_f v.signer 0 9)) with
  | true => rw [h1] at h; simp at h
  | false =>
    rw [h1] at h
    simp only [cond_false] at h
    cases h2 : ((decide (v.choice = 1)) == (decide (v.value = Nm.zero))) || (!decide ((iandn v.support 1023) = 0)) with
    | true => rw [h2] at h; simp at h
    | false =>
      rw [h2] at h
      simp only [cond_false] at h
      simp only [Bool.or_eq_false_iff, Bool.not_eq_false', decide_eq_true_eq] at h2
      refine ⟨?_, h2.2, ?_⟩
      · have := h2.1
        by_cases hc : v.choice = 1 <;> by_cases hv : v.value = Nm.zero <;> simp [hc, hv] at this ⊢
      · rintro (hk | hk)
        · simp [hk] at h; exact ⟨h.2, h.1.2.2, h.1.2.1⟩
        · simp [hk] at h; exact ⟨h.2, h.1.2.2, h.1.2.1⟩
/-- an Echo rests on a Propose for its value, by the slot's member -/
theorem echo_rests {m : Int} {v : Vt} {A : List Vt} (h : allowed_f m v A = true) (hk : v.kind = 2) : ∃ w ∈ A, valid_f w = true ∧ w.parent = v.parent ∧ w.slot = v.slot ∧ w.kind = 1 ∧ w.choice = v.choice ∧ w.value = v.value := by
  have hb := allowed_body h
  simp only [hk] at hb
  change (A.filter (counts_f m v)).any (fun xx => allowed1_f xx v) = true at hb
  rw [List.any_eq_true] at hb
  obtain ⟨w, hw, hs⟩ := hb
  rw [List.mem_filter] at hw
  obtain ⟨c1, c2, c3, c4, c5⟩ := counts_all hw.2
  unfold allowed1_f at hs
  simp only [Bool.and_eq_true, decide_eq_true_eq, same_iff] at hs
  exact ⟨w, hw.1, c1, c2, c3, hs.1, hs.2.1.symm, hs.2.2.symm⟩
theorem propose_rests {m : Int} {v : Vt} {A : List Vt} (h : allowed_f m v A = true) (hk : v.kind = 1) : v.signer = v.slot := by
  have hb := allowed_body h
  simp [hk] at hb
  exact hb
theorem certified_proposed {m : Int} {parent : Nm} {l : List Vt} {slot : Int} {x : Nm} (h : x ∈ certified_f m parent l slot) : x ∈ proposals_f m parent l slot := by
  obtain ⟨⟨i, v, hv, hk, hx, _⟩, hz, _⟩ := mem_certified.1 h
  obtain ⟨w, hw, _, _, _, h1, _, h3⟩ := echo_rests (acc_mem_allowed hv) hk
  exact mem_proposals.2 ⟨⟨w.signer, w, hw, h1, h3.trans hx, rfl⟩, hz⟩
theorem certified_asc (m : Int) (parent : Nm) (l : List Vt) (slot : Int) : Asc hashLess_f (certified_f m parent l slot) := sorted_asc nm_lin _
theorem proposed15 {m : Int} {parent : Nm} {l : List Vt} {slot : Int} {k : Nat} (hk : k < (certified_f m parent l slot).length) :
    ((proposals_f m parent l slot).any fun x => decide (x = (certified_f m parent l slot)[k]!)) = true ∧ (0 < k → hashLess_f (certified_f m parent l slot)[k - 1]! (certified_f m parent l slot)[k]! = true) ∧
    iandn (echoers_f m parent l slot (certified_f m parent l slot)[k]!) m = 0 ∧ ¬ size_f (echoers_f m parent l slot (certified_f m parent l slot)[k]!) < quorum_f (size_f m) := by
  have hm : (certified_f m parent l slot)[k]! ∈ certified_f m parent l slot := by rw [getElem!_pos _ k hk]; exact List.getElem_mem hk
  refine ⟨?_, ?_, ?_, ?_⟩
  · rw [List.any_eq_true]; exact ⟨_, certified_proposed hm, by simp⟩
  · intro h0
    have ha := certified_asc m parent l slot
    rw [getElem!_pos _ k hk, getElem!_pos _ (k - 1) (by omega)]
    exact List.pairwise_iff_getElem.1 ha (k - 1) k (by omega) hk (by omega)
  · exact iandn_sub (fun i hi => echoers_sub hi) (echoers_small _ _ _ _ _)
  · have := (mem_certified.1 hm).2.2
    omega
theorem proposed15_no {m : Int} {c : List Nm} {k : Nat} {e : Int} {P : Bool} (h : P = true ∧ (0 < k → hashLess_f c[k - 1]! c[k]! = true) ∧ iandn e m = 0 ∧ ¬ size_f e < quorum_f (size_f m)) :
    ((((!true) || ((decide (0 < ((k : Nat) : Int))) && (!(hashLess_f c[k - 1]! c[k]!)))) || (!decide ((iandn e m) = 0))) || (decide ((size_f e) < (quorum_f (size_f m))))) = false := by
  obtain ⟨_, h1, h2, h3⟩ := h
  rw [h2, decide_eq_false h3]
  by_cases hk : 0 < k
  · rw [h1 hk]; simp
  · have : ¬ (0 : Int) < (k : Int) := by omega
    rw [decide_eq_false this]; simp
/-- two certified values: the members that echoed both -/
theorem accounts15 (m : Int) (parent : Nm) (l mm : List Vt) (slot : Int) (i k : Nat) (hi : i < (certified_f m parent l slot).length) (hk : k < (certified_f m parent mm slot).length) :
    ((!decide ((certified_f m parent l slot)[i]! = (certified_f m parent mm slot)[k]!)) && (decide ((size_f (iand (echoers_f m parent l slot (certified_f m parent l slot)[i]!) (echoers_f m parent mm slot (certified_f m parent mm slot)[k]!))) < ((2 * (quorum_f (size_f m))) - (size_f m))))) = false := by
  have h1 : (certified_f m parent l slot)[i]! ∈ certified_f m parent l slot := by rw [getElem!_pos _ i hi]; exact List.getElem_mem hi
  have h2 : (certified_f m parent mm slot)[k]! ∈ certified_f m parent mm slot := by rw [getElem!_pos _ k hk]; exact List.getElem_mem hk
  have q1 := (mem_certified.1 h1).2.2
  have q2 := (mem_certified.1 h2).2.2
  generalize (certified_f m parent l slot)[i]! = x at q1
  generalize (certified_f m parent mm slot)[k]! = y at q2
  have := size_inter (m := m) (X := echoers_f m parent l slot x) (Y := echoers_f m parent mm slot y) (fun i hi => echoers_sub hi) (fun i hi => echoers_sub hi) (p := has_f (iand (echoers_f m parent l slot x) (echoers_f m parent mm slot y))) (fun i h1 h2 => by rw [has_iand, h1, h2]; rfl)
  have h3 : (cnt m (has_f (iand (echoers_f m parent l slot x) (echoers_f m parent mm slot y))) : Int) ≤ size_f (iand (echoers_f m parent l slot x) (echoers_f m parent mm slot y)) := cnt_le_size fun _ _ h => h
  have : ¬ size_f (iand (echoers_f m parent l slot x) (echoers_f m parent mm slot y)) < 2 * quorum_f (size_f m) - size_f m := by omega
  rw [decide_eq_false this, Bool.and_false]
/-- the slot's member has no two Proposes in conflict: all its Proposes have one value -/
theorem one_value {m : Int} {parent : Nm} {l : List Vt} {slot : Int} (h : ∀ a b, a < l.length → b < a → (((((decide (l[a]!.kind = 1)) && (decide (l[a]!.signer = slot))) && (decide (l[a]!.slot = slot))) && (decide (l[a]!.parent = parent))) && (conflict_f l[a]! l[b]!)) = false) {x y : Nm} (hx : x ∈ proposals_f m parent l slot) (hy : y ∈ proposals_f m parent l slot) : x = y := by
  obtain ⟨⟨_, v, hv, hvk, hvx, _⟩, _⟩ := mem_proposals.1 hx
  obtain ⟨⟨_, w, hw, hwk, hwy, _⟩, _⟩ := mem_proposals.1 hy
  have av := acc_mem_allowed hv
  have aw := acc_mem_allowed hw
  obtain ⟨v1, v2, v3⟩ := mem_slots hv
  obtain ⟨w1, w2, w3⟩ := mem_slots hw
  have vs := propose_rests av hvk
  have ws := propose_rests aw hwk
  have vv := (allowed_guard av).1
  have wv := (allowed_guard aw).1
  by_cases he : v = w
  · rw [← hvx, ← hwy, he]
  · exfalso
    have hr := (valid_value vv).2.2 (Or.inl hvk)
    have hr' := (valid_value wv).2.2 (Or.inl hwk)
    obtain ⟨a, ha, ea⟩ := List.getElem_of_mem v1
    obtain ⟨b, hb, eb⟩ := List.getElem_of_mem w1
    have ea' : l[a]! = v := by rw [getElem!_pos l a ha, ea]
    have eb' : l[b]! = w := by rw [getElem!_pos l b hb, eb]
    have hc : conflict_f v w = true := by
      unfold conflict_f sameKey_f
      simp [he, vv, wv, hvk, hwk, v2, w2, v3, w3, vs, ws, hr.2.2, hr'.2.2]
    rcases Nat.lt_trichotomy a b with hab | hab | hab
    · have := h b a hb hab
      rw [ea', eb', conflict_symm, hc] at this
      simp [hwk, ws, w2, w3] at this
    · subst hab
      exact he (ea'.symm.trans eb')
    · have := h a b ha hab
      rw [ea', eb', hc] at this
      simp [hvk, vs, v2, v3] at this
theorem short_of_one {α : Type} {l : List α} (hn : l.Nodup) (h : ∀ x ∈ l, ∀ y ∈ l, x = y) : l.length ≤ 1 := by
  match l, hn with
  | [], _ => simp
  | [_], _ => simp
  | x :: y :: t, hn =>
    exfalso
    have := h x (by simp) y (by simp)
    subst this
    simp at hn
theorem asc_nodup {α : Type} {lt : α → α → Bool} (hl : Lin lt) {l : List α} (h : Asc lt l) : l.Nodup := h.imp fun hxy e => by rw [e, hl.irrefl] at hxy; cases hxy
theorem one15p {m : Int} {parent : Nm} {l : List Vt} {slot : Int} (h : ∀ a b, a < l.length → b < a → (((((decide (l[a]!.kind = 1)) && (decide (l[a]!.signer = slot))) && (decide (l[a]!.slot = slot))) && (decide (l[a]!.parent = parent))) && (conflict_f l[a]! l[b]!)) = false) : (proposals_f m parent l slot).length ≤ 1 :=
  short_of_one (asc_nodup nm_lin (sorted_asc nm_lin _)) fun x hx y hy => one_value h hx hy
theorem one15 {m : Int} {parent : Nm} {l : List Vt} {slot : Int} (h : ∀ a b, a < l.length → b < a → (((((decide (l[a]!.kind = 1)) && (decide (l[a]!.signer = slot))) && (decide (l[a]!.slot = slot))) && (decide (l[a]!.parent = parent))) && (conflict_f l[a]! l[b]!)) = false) : (certified_f m parent l slot).length ≤ 1 :=
  short_of_one (asc_nodup nm_lin (sorted_asc nm_lin _)) fun x hx y hy => one_value h (certified_proposed hx) (certified_proposed hy)
end Go.Proofs.Ytdknjfmjddlphaa
