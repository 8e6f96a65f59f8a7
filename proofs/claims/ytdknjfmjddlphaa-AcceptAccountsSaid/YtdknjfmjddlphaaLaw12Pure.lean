/-
  Layer 12: what accept.Accepted computes is the least fixed point: the plain laws. No walk.
-/
import Derived.Test.YtdknjfmjddlphaaGA
namespace Go.Proofs.Ytdknjfmjddlphaa
open Go Go.Fk

/-! ### what is judged depends on what is counted -/
theorem any_app {a b : List Vt} {p : Vt → Bool} (h : ∀ x ∈ b, p x = false) : (a ++ b).any p = a.any p := by
  have : b.any p = false := by
    rw [List.any_eq_false]
    intro x hx
    rw [h x hx]; decide
  rw [List.any_append, this, Bool.or_false]
theorem supported_app {m q : Int} {v : Vt} {a b : List Vt} {p : Vt → Bool} (h : ∀ x ∈ b, p x = false) : supported_f m q v (a ++ b) p = supported_f m q v a p := by
  unfold supported_f
  have : ∀ i : Int, (a ++ b).any (fun x => supported1_f x i p) = a.any (fun x => supported1_f x i p) := fun i =>
    any_app (fun x hx => by unfold supported1_f; rw [h x hx, Bool.and_false])
  simp only [this]
theorem anySt_none {q : List Vt → Vt → Bool} : ∀ {b : List Vt} (pre : List Vt), (∀ x ∈ b, ∀ pre, q pre x = false) → anySt q pre b = false
  | [], _, _ => rfl
  | x :: t, pre, h => by
    show (q pre x || anySt q (pre ++ [x]) t) = false
    rw [h x (by simp) pre, anySt_none (pre ++ [x]) (fun y hy => h y (by simp [hy]))]; rfl
theorem anySt_app {q : List Vt → Vt → Bool} {b : List Vt} (h : ∀ x ∈ b, ∀ pre, q pre x = false) : ∀ {a : List Vt} (pre : List Vt), anySt q pre (a ++ b) = anySt q pre a
  | [], pre => anySt_none pre h
  | x :: t, pre => by
    show (q pre x || anySt q (pre ++ [x]) (t ++ b)) = (q pre x || anySt q (pre ++ [x]) t)
    rw [anySt_app h]
theorem valid_round0 {v : Vt} (h : valid_f v = true) (hk : v.kind = 1 ∨ v.kind = 2) : v.round = 0 := by
  unfold valid_f at h
  cases h1 : (!(between_f v.kind 1 7)) || (!(between_f v.signer 0 9)) with
  | true => rw [h1] at h; simp at h
  | false =>
    rw [h1] at h
    simp only [cond_false] at h
    cases h2 : ((decide (v.choice = 1)) == (decide (v.value = Nm.zero))) || (!decide ((iandn v.support 1023) = 0)) with
    | true => rw [h2] at h; simp at h
    | false =>
      rw [h2] at h
      simp only [cond_false] at h
      rcases hk with hk | hk
      · simp [hk] at h; exact h.1.2.1
      · simp [hk] at h; exact h.1.2.1
/-- the vote x comes no earlier than v's round and kind -/
def Later (v x : Vt) : Prop := x.parent = v.parent → x.slot = v.slot → v.round < x.round ∨ (v.round = x.round ∧ v.kind ≤ x.kind)
theorem counts_iff {m : Int} {v x : Vt} (h : counts_f m v x = true) : valid_f x = true ∧ x.parent = v.parent ∧ x.slot = v.slot := by
  unfold counts_f at h
  simp only [Bool.and_eq_true, decide_eq_true_eq] at h
  exact ⟨h.1.1.1.1, h.1.1.1.2, h.1.1.2⟩
theorem allowed_app {m : Int} {v : Vt} {acc ext : List Vt} (h : ∀ x ∈ ext, Later v x) : allowed_f m v (acc ++ ext) = allowed_f m v acc := by
  unfold allowed_f
  rw [List.filter_append]
  have hb : ∀ x ∈ ext.filter (counts_f m v), valid_f x = true ∧ (v.round < x.round ∨ (v.round = x.round ∧ v.kind ≤ x.kind)) := fun x hx => by
    rw [List.mem_filter] at hx
    obtain ⟨hv, hp, hs⟩ := counts_iff hx.2
    exact ⟨hv, h x hx.1 hp hs⟩
  generalize acc.filter (counts_f m v) = a
  generalize ext.filter (counts_f m v) = b at hb
  cases hg : (((!(valid_f v)) || (decide (4 < v.kind))) || (!(has_f m v.signer))) || (!(has_f m v.slot)) with
  | true => rfl
  | false =>
    simp only [cond_false]
    simp only [Bool.or_eq_false_iff, Bool.not_eq_false'] at hg
    have hvv := hg.1.1.1
    have hvb := valid_bounds hvv
    by_cases k1 : v.kind = 1
    · simp [k1]
    · by_cases k2 : v.kind = 2
      · have hr := valid_round0 hvv (Or.inr k2)
        have e : (a ++ b).any (fun xx => allowed1_f xx v) = a.any (fun xx => allowed1_f xx v) := any_app fun x hx => by
          obtain ⟨hx1, hx2⟩ := hb x hx
          unfold allowed1_f
          by_cases hk : x.kind = 1
          · have := valid_round0 hx1 (Or.inl hk); omega
          · simp [hk]
        simp [k2, e]
      · by_cases k3 : v.kind = 3
        · have p1 : v.round = 1 → ∀ x ∈ b, prevote1_f x v = false := fun hr x hx => by
            obtain ⟨hx1, hx2⟩ := hb x hx
            unfold prevote1_f
            by_cases hk : x.kind = 2
            · have := valid_round0 hx1 (Or.inr hk); omega
            · simp [hk]
          have pr : ∀ x ∈ b, ¬ x.round = v.round - 1 := fun x hx => by obtain ⟨_, hx2⟩ := hb x hx; omega
          have p2 : ∀ x ∈ b, prevote2_f x v = false := fun x hx => by unfold prevote2_f; simp [pr x hx]
          have p3 : ∀ x ∈ b, prevote3_f x v = false := fun x hx => by unfold prevote3_f; simp [pr x hx]
          have p6 : ∀ x ∈ b, prevote6_f x v = false := fun x hx => by unfold prevote6_f; simp [pr x hx]
          have e : ∀ q, prevote_f m q (a ++ b) v = prevote_f m q a v := fun q => by
            unfold prevote_f
            by_cases hr : v.round = 1
            · simp only [hr, decide_true, cond_true]
              rw [supported_app (p := fun xx => prevote1_f xx v) (p1 hr)]
            · simp only [hr, decide_false, cond_false]
              rw [supported_app (p := fun xx => prevote4_f xx (fun xx => prevote2_f xx v) (fun xx => prevote3_f xx v)) (fun x hx => by unfold prevote4_f; simp only [p2 x hx, p3 x hx, Bool.or_false]),
                any_app (p := fun xx => prevote5_f xx v (fun xx => prevote2_f xx v)) (fun x hx => by unfold prevote5_f; simp only [p2 x hx, Bool.and_false]),
                supported_app (p := fun xx => prevote3_f xx v) p3, any_app (p := fun xx => prevote6_f xx v) p6]
          simp [k3, e]
        · have k4 : v.kind = 4 := by
            have := hg.1.1.2
            simp only [decide_eq_false_iff_not] at this
            omega
          have p1 : ∀ x ∈ b, precommit1_f x v = false := fun x hx => by
            obtain ⟨_, hx2⟩ := hb x hx
            unfold precommit1_f
            by_cases hk : x.kind = 3
            · have : ¬ x.round = v.round := by omega
              simp [this]
            · simp [hk]
          have e : ∀ q, precommit_f m q (a ++ b) v = precommit_f m q a v := fun q => by
            unfold precommit_f
            rw [supported_app (p := fun xx => precommit2_f xx (fun xx => precommit1_f xx v) v) (fun x hx => by unfold precommit2_f; simp only [p1 x hx, Bool.false_and]),
              supported_app (p := fun xx => precommit1_f xx v) p1, anySt_app (q := pre3q v) (fun x hx pre => by
                unfold pre3q
                split
                · unfold precommit3n_f; simp only [p1 x hx, Bool.not_false, Bool.true_or, cond_true]
                · unfold precommit3s_f; simp only [p1 x hx, Bool.not_false, Bool.true_or, cond_true])]
          simp [k4, e]

/-! ### the order of votes -/
theorem vote_slot {u v : Vt} (h : voteLess_f u v = true) (hp : u.parent = v.parent) : u.slot ≤ v.slot := by
  unfold voteLess_f at h
  simp only [hp, decide_true, Bool.not_true, cond_false] at h
  by_cases hs : u.slot = v.slot
  · omega
  · simp [hs] at h; omega
theorem vote_later {u v : Vt} (h : voteLess_f u v = true) : Later u v := by
  intro hp hs
  unfold voteLess_f at h
  simp only [hp, hs, decide_true, Bool.not_true, cond_false] at h
  by_cases hr : u.round = v.round
  · simp only [hr, decide_true, Bool.not_true, cond_false] at h
    by_cases hk : u.kind = v.kind
    · exact Or.inr ⟨hr, by omega⟩
    · simp [hk] at h; exact Or.inr ⟨hr, by omega⟩
  · simp [hr] at h; exact Or.inl h

/-! ### the votes are taken in their order -/
def gain (m : Int) (out : List Vt) (v : Vt) : List Vt := bif allowed_f m v out then out ++ [v] else out
theorem filter_counts {m : Int} {v : Vt} (out : List Vt) : allowed_f m v (out.filter fun x => decide (x.slot = v.slot)) = allowed_f m v out := by
  have : (out.filter fun x => decide (x.slot = v.slot)).filter (counts_f m v) = out.filter (counts_f m v) := by
    rw [List.filter_filter]
    congr 1
    funext x
    cases hc : counts_f m v x with
    | false => rfl
    | true => obtain ⟨_, _, hs⟩ := counts_iff hc; simp [hs]
  unfold allowed_f
  rw [this]
theorem acc_gain {m : Int} {parent : Nm} : ∀ (rest : List Vt) (out : List Vt) (fr : Nat) (s : Int), Asc voteLess_f rest → (∀ x ∈ rest, x.parent = parent) → fr ≤ out.length → (∀ y ∈ rest, s ≤ y.slot) → (∀ x ∈ out.take fr, x.slot < s) → (∀ x ∈ out.drop fr, x.slot = s) →
    (rest.foldl (accStep m) (out, fr)).1 = rest.foldl (gain m) out
  | [], _, _, _, _, _, _, _, _, _ => rfl
  | v :: t, out, fr, s, ha, hp, hfr, hs, h1, h2 => by
    obtain ⟨a1, a2⟩ := List.pairwise_cons.1 ha
    have hsv := hs v (by simp)
    have htp : ∀ x ∈ t, x.parent = parent := fun x hx => hp x (by simp [hx])
    have hsl : ∀ y ∈ t, v.slot ≤ y.slot := fun y hy => vote_slot (a1 y hy) ((hp v (by simp)).trans (htp y hy).symm)
    have hmem : ∀ x ∈ out, x ∈ out.take fr ∨ x ∈ out.drop fr := fun x hx => by
      rw [← List.take_append_drop fr out] at hx
      exact List.mem_append.1 hx
    have key : accFrom (out, fr) v ≤ out.length ∧ (∀ x ∈ out.take (accFrom (out, fr) v), x.slot < v.slot) ∧ (∀ x ∈ out.drop (accFrom (out, fr) v), x.slot = v.slot) := by
      unfold accFrom
      cases hc : decide (((fr : Nat) : Int) < (out.length : Int)) && !decide (out[fr]!.slot = v.slot) with
      | true =>
        simp only [Bool.and_eq_true, decide_eq_true_eq, Bool.not_eq_true', decide_eq_false_iff_not] at hc
        have hfl : fr < out.length := by omega
        have : out[fr]! ∈ out.drop fr := by
          rw [getElem!_pos out fr hfl, List.drop_eq_getElem_cons hfl]; exact List.mem_cons_self
        have e := h2 _ this
        simp only [cond_true]
        refine ⟨Nat.le_refl _, fun x hx => ?_, fun x hx => by rw [List.drop_length] at hx; cases hx⟩
        rw [List.take_length] at hx
        rcases hmem x hx with hx | hx
        · have := h1 x hx; omega
        · have := h2 x hx
          have : ¬ s = v.slot := fun e' => hc.2 (e.trans e')
          omega
      | false =>
        simp only [cond_false]
        refine ⟨hfr, fun x hx => by have := h1 x hx; omega, fun x hx => ?_⟩
        have hfl : fr < out.length := by
          rcases Nat.lt_or_ge fr out.length with h | h
          · exact h
          · rw [List.drop_eq_nil_of_le h] at hx; cases hx
        have hm : out[fr]! ∈ out.drop fr := by
          rw [getElem!_pos out fr hfl, List.drop_eq_getElem_cons hfl]; exact List.mem_cons_self
        have e := h2 _ hm
        simp only [Bool.and_eq_false_iff, decide_eq_false_iff_not, Bool.not_eq_false', decide_eq_true_eq] at hc
        rcases hc with hc | hc
        · omega
        · rw [h2 x hx]; omega
    obtain ⟨k1, k2, k3⟩ := key
    have hdrop : out.drop (accFrom (out, fr) v) = out.filter fun x => decide (x.slot = v.slot) := by
      conv => rhs; rw [← List.take_append_drop (accFrom (out, fr) v) out]
      rw [List.filter_append]
      have e1 : (out.take (accFrom (out, fr) v)).filter (fun x => decide (x.slot = v.slot)) = [] := by
        rw [List.filter_eq_nil_iff]
        intro x hx
        have := k2 x hx
        simp; omega
      have e2 : (out.drop (accFrom (out, fr) v)).filter (fun x => decide (x.slot = v.slot)) = out.drop (accFrom (out, fr) v) := by
        rw [List.filter_eq_self]
        intro x hx
        simp [k3 x hx]
      rw [e1, e2, List.nil_append]
    rw [List.foldl_cons, List.foldl_cons]
    have hst : accStep m (out, fr) v = (gain m out v, accFrom (out, fr) v) := by
      unfold accStep gain
      dsimp only
      rw [hdrop, filter_counts]
      cases allowed_f m v out <;> rfl
    rw [hst]
    have hg : gain m out v = out ∨ gain m out v = out ++ [v] := by
      unfold gain
      cases allowed_f m v out
      · exact Or.inl rfl
      · exact Or.inr rfl
    refine acc_gain t _ _ v.slot a2 htp ?_ hsl ?_ ?_
    · rcases hg with e | e <;> rw [e]
      · exact k1
      · simp; omega
    · rcases hg with e | e <;> rw [e]
      · exact k2
      · rw [List.take_append_of_le_length k1]; exact k2
    · rcases hg with e | e <;> rw [e]
      · exact k3
      · rw [List.drop_append_of_le_length k1]
        intro x hx
        rcases List.mem_append.1 hx with hx | hx
        · exact k3 x hx
        · rw [List.mem_singleton] at hx; rw [hx]
theorem asc_parent {parent : Nm} {l : List Vt} {x : Vt} (h : x ∈ asc_f parent l) : x.parent = parent ∧ x ∈ l := by
  unfold asc_f at h
  rw [sorted_mem, List.mem_filter] at h
  exact ⟨by simpa using h.2, h.1⟩
theorem accepted_gain {m : Int} {parent : Nm} {l : List Vt} : accepted_f m parent l = (asc_f parent l).foldl (gain m) [] := by
  unfold accepted_f
  have hp : ∀ x ∈ asc_f parent l, x.parent = parent := fun x hx => (asc_parent hx).1
  have ha : Asc voteLess_f (asc_f parent l) := sorted_asc vote_lin _
  generalize asc_f parent l = K at hp ha
  cases K with
  | nil => rfl
  | cons v t => 
    refine acc_gain (parent := parent) _ [] 0 v.slot ha hp (by simp) (fun y hy => ?_) (by simp) (by simp)
    rcases List.mem_cons.1 hy with e | hy
    · rw [e]; omega
    · exact vote_slot ((List.pairwise_cons.1 ha).1 y hy) ((hp v (by simp)).trans (hp y (by simp [hy])).symm)

/-! ### the least fixed point -/
structure Fix (m : Int) (done out : List Vt) : Prop where
  sub : out.Sublist done
  just : ∀ pre v post, out = pre ++ v :: post → allowed_f m v pre = true
  rest : ∀ v ∈ done, v ∉ out → allowed_f m v out = false
theorem fix_step {m : Int} {done out : List Vt} {v : Vt} (h : Fix m done out) (hl : ∀ u ∈ done, Later u v) : Fix m (done ++ [v]) (gain m out v) := by
  unfold gain
  cases ha : allowed_f m v out with
  | false =>
    refine ⟨h.sub.trans (List.sublist_append_left _ _), h.just, fun u hu hn => ?_⟩
    rcases List.mem_append.1 hu with hu | hu
    · exact h.rest u hu hn
    · rw [List.mem_singleton] at hu; rw [hu]; exact ha
  | true =>
    simp only [cond_true]
    refine ⟨h.sub.append (List.Sublist.refl _), fun pre u post e => ?_, fun u hu hn => ?_⟩
    · rcases List.eq_nil_or_concat post with rfl | ⟨post', z, rfl⟩
      · have := List.append_inj' e rfl
        obtain ⟨e1, e2⟩ := this
        simp only [List.cons.injEq, and_true] at e2
        rw [← e1, ← e2]; exact ha
      · have e' : out ++ [v] = (pre ++ u :: post') ++ [z] := by rw [e]; simp
        obtain ⟨e1, _⟩ := List.append_inj' e' rfl
        exact h.just _ _ _ e1
    · have hu' : u ∈ done := by
        rcases List.mem_append.1 hu with hu | hu
        · exact hu
        · exact absurd (List.mem_append.2 (Or.inr hu)) hn
      rw [allowed_app (fun x hx => by rw [List.mem_singleton] at hx; rw [hx]; exact hl u hu')]
      exact h.rest u hu' fun hc => hn (List.mem_append.2 (Or.inl hc))
theorem fix_fold {m : Int} : ∀ (rest done out : List Vt), Asc voteLess_f (done ++ rest) → Fix m done out → Fix m (done ++ rest) (rest.foldl (gain m) out)
  | [], done, out, _, h => by simpa using h
  | v :: t, done, out, ha, h => by
    have e : done ++ v :: t = (done ++ [v]) ++ t := by simp
    rw [List.foldl_cons, e]
    rw [e] at ha
    refine fix_fold t _ _ ha (fix_step h fun u hu => ?_)
    have := (List.pairwise_append.1 (List.pairwise_append.1 ha).1).2.2 u hu v (by simp)
    exact vote_later this
theorem fix_accepted (m : Int) (parent : Nm) (l : List Vt) : Fix m (asc_f parent l) (accepted_f m parent l) := by
  rw [accepted_gain]
  have := fix_fold (m := m) (asc_f parent l) [] [] (sorted_asc vote_lin _) ⟨List.Sublist.refl _, fun pre v post e => by simp at e, fun v hv => by cases hv⟩
  simpa using this
theorem acc_asc (m : Int) (parent : Nm) (l : List Vt) : Asc voteLess_f (accepted_f m parent l) :=
  (sorted_asc vote_lin (l.filter fun x => decide (x.parent = parent))).sublist (fix_accepted m parent l).sub
theorem acc_sub {m : Int} {parent : Nm} {l : List Vt} {x : Vt} (h : x ∈ accepted_f m parent l) : x.parent = parent ∧ x ∈ l := asc_parent ((fix_accepted m parent l).sub.subset h)
theorem acc_len (m : Int) (parent : Nm) (l : List Vt) : (accepted_f m parent l).length ≤ l.length :=
  Nat.le_trans (fix_accepted m parent l).sub.length_le (asc_len parent l)
theorem asc_self {m : Int} {parent : Nm} {l : List Vt} : asc_f parent (accepted_f m parent l) = accepted_f m parent l := by
  refine Asc.unique vote_lin (sorted_asc vote_lin _) (acc_asc m parent l) fun x => ?_
  unfold asc_f
  rw [sorted_mem, List.mem_filter]
  exact ⟨fun h => h.1, fun h => ⟨h, by simpa using (acc_sub h).1⟩⟩
theorem gain_id {m : Int} : ∀ (post pre : List Vt), (∀ a v b, pre ++ post = a ++ v :: b → allowed_f m v a = true) → post.foldl (gain m) pre = pre ++ post
  | [], pre, _ => by simp
  | v :: t, pre, h => by
    rw [List.foldl_cons]
    have : gain m pre v = pre ++ [v] := by unfold gain; rw [h pre v t rfl]; rfl
    rw [this, gain_id t (pre ++ [v]) (fun a u b e => h a u b (by rw [← e]; simp))]
    simp
theorem acc_acc (m : Int) (parent : Nm) (l : List Vt) : accepted_f m parent (accepted_f m parent l) = accepted_f m parent l := by
  conv => lhs; rw [accepted_gain, asc_self]
  have := gain_id (m := m) (accepted_f m parent l) [] (fun a v b e => (fix_accepted m parent l).just a v b (by simpa using e))
  simpa using this
theorem acc_allowed {m : Int} {parent : Nm} {l : List Vt} {k : Nat} (h : k < (accepted_f m parent l).length) : allowed_f m (accepted_f m parent l)[k]! (accepted_f m parent l) = true := by
  have ha := acc_asc m parent l
  have hj := (fix_accepted m parent l).just
  generalize accepted_f m parent l = out at h ha hj
  obtain ⟨z, hz⟩ : ∃ z, z = out[k]! := ⟨_, rfl⟩
  rw [← hz]
  have e : out = out.take k ++ z :: out.drop (k + 1) := by
    rw [hz, getElem!_pos out k h, ← List.drop_eq_getElem_cons h, List.take_append_drop]
  have h1 := hj _ _ _ e
  have hx : ∀ x ∈ z :: out.drop (k + 1), Later z x := by
    intro x hx
    rcases List.mem_cons.1 hx with e' | hx
    · rw [e']; exact fun _ _ => Or.inr ⟨rfl, Int.le_refl _⟩
    · rw [e] at ha
      exact vote_later ((List.pairwise_cons.1 (List.pairwise_append.1 ha).2.1).1 x hx)
  have h2 := allowed_app (m := m) (acc := out.take k) hx
  rw [← e] at h2
  rw [h2]; exact h1
theorem closed1 (m : Int) (parent : Nm) (l : List Vt) (k : Nat) (h : k < (accepted_f m parent l).length) : ((((!decide ((accepted_f m parent l)[k]!.parent = parent)) || (!(l.any (fun x => decide (x = (accepted_f m parent l)[k]!))))) || (!(allowed_f m (accepted_f m parent l)[k]! (accepted_f m parent l)))) || ((decide (0 < ((k : Nat) : Int))) && (!(voteLess_f (accepted_f m parent l)[k - 1]! (accepted_f m parent l)[k]!)))) = false := by
  rw [acc_allowed h]
  have hm : (accepted_f m parent l)[k]! ∈ accepted_f m parent l := by rw [getElem!_pos _ k h]; exact List.getElem_mem h
  obtain ⟨hp, hl⟩ := acc_sub hm
  have ha := acc_asc m parent l
  generalize accepted_f m parent l = out at h hm hp hl ha
  have h1 : l.any (fun x => decide (x = out[k]!)) = true := by rw [List.any_eq_true]; exact ⟨_, hl, by simp⟩
  rw [h1]
  rw [hp]
  by_cases hk : 0 < k
  · have : voteLess_f out[k - 1]! out[k]! = true := by
      rw [getElem!_pos out k h, getElem!_pos out (k - 1) (by omega)]
      exact List.pairwise_iff_getElem.1 ha (k - 1) k (by omega) h (by omega)
    rw [this]; simp
  · have : decide (0 < ((k : Nat) : Int)) = false := decide_eq_false (by omega)
    rw [this]; simp
theorem closed2 (m : Int) (parent : Nm) (l : List Vt) (k : Nat) (h : k < l.length) : (((decide (l[k]!.parent = parent)) && (!((accepted_f m parent l).any (fun x => decide (x = l[k]!))))) && (allowed_f m l[k]! (accepted_f m parent l))) = false := by
  have hm : l[k]! ∈ l := by rw [getElem!_pos l k h]; exact List.getElem_mem h
  by_cases hp : l[k]!.parent = parent
  · by_cases ho : l[k]! ∈ accepted_f m parent l
    · have : (accepted_f m parent l).any (fun x => decide (x = l[k]!)) = true := by rw [List.any_eq_true]; exact ⟨_, ho, by simp⟩
      rw [this]; simp
    · rw [(fix_accepted m parent l).rest l[k]! (by unfold asc_f; rw [sorted_mem, List.mem_filter]; exact ⟨hm, by simpa using hp⟩) ho, Bool.and_false]
  · simp only [hp, decide_false, Bool.false_and]
theorem closed3 (m : Int) (parent : Nm) (l : List Vt) : decide (accepted_f m parent (accepted_f m parent l) = accepted_f m parent l) = true := decide_eq_true (acc_acc m parent l)
end Go.Proofs.Ytdknjfmjddlphaa
