/-
  The closure of a decision: what its search reaches. No walk.
-/
import Derived.Test.YtdknjfmjddlphaaGC3
import Derived.Test.YtdknjfmjddlphaaDefs5
import Derived.Test.YtdknjfmjddlphaaZd
set_option linter.unusedSimpArgs false
set_option linter.unusedVariables false
namespace Go.Proofs.Ytdknjfmjddlphaa
open Go Go.Fk

/-- the least vote for the decision, by a member -/
def clo_g (S : List Vt) (o : Oc) (i : Int) : Option Vt := S.find? fun x => clo1_f x i o
def seedStep (g : Int → Option Vt) (q : Int) (s : Int × List Vt) (i : Int) : Int × List Vt := bif decide (s.1 < q) then (bif (g i).isSome then s.1 + 1 else s.1, s.2 ++ (g i).toList) else s
def seeds_f (m : Int) (S : List Vt) (o : Oc) : List Vt := ((ids_f m).foldl (seedStep (clo_g S o) (quorum_f (size_f m))) (0, [])).2
inductive Reach (m : Int) (S seeds : List Vt) : Vt → Prop
  | seed {x : Vt} (h : x ∈ seeds) : Reach m S seeds x
  | step {x y : Vt} (h : Reach m S seeds x) (hy : y ∈ expand_n m S x) : Reach m S seeds y
/-- one round of the search, on the list -/
def grow (m : Int) (S R : List Vt) : List Vt := S.filter fun y => decide (y ∈ R) || R.any fun x => decide (y ∈ expand_n m S x)
def growN (m : Int) (S : List Vt) : Nat → List Vt → List Vt
  | 0, R => R
  | n + 1, R => growN m S n (grow m S R)
def reach_f (m : Int) (S seeds : List Vt) : List Vt := growN m S S.length (S.filter fun y => decide (y ∈ seeds))
def inSlot (m : Int) (parent : Nm) (l : List Vt) (slot : Int) : List Vt := (accepted_f m parent l).filter fun x => decide (x.slot = slot)
def closure_f (m : Int) (parent : Nm) (l : List Vt) (o : Oc) : List Vt := bif decided_f m parent l o then reach_f m (inSlot m parent l o.slot) (seeds_f m (inSlot m parent l o.slot) o) else []

section
variable {m : Int} {S R seeds : List Vt} {x y v : Vt}
theorem mem_toList_find {p : Vt → Bool} (h : y ∈ (S.find? p).toList) : y ∈ S ∧ p y = true := by
  rw [Option.mem_toList] at h
  exact ⟨List.mem_of_find?_eq_some h, List.find?_some h⟩
theorem mem_filterMap_find {g : Int → Option Vt} (hg : ∀ i x, g i = some x → x ∈ S) {l : List Int} (h : y ∈ l.filterMap g) : y ∈ S := by
  obtain ⟨i, _, hi⟩ := List.mem_filterMap.1 h
  exact hg i y hi
theorem expand_sub (h : y ∈ expand_n m S x) : y ∈ S := by
  unfold expand_n at h
  have hs : ∀ kind round, y ∈ sup_n S x kind round → y ∈ S := fun kind round h => mem_filterMap_find (fun i z hz => List.mem_of_find?_eq_some hz) h
  have hlm : ∀ round i z, lm_g S round i = some z → z ∈ S := fun round i z hz => List.mem_of_find?_eq_some hz
  cases h2 : decide (x.kind = 2) with
  | true => rw [h2, cond_true] at h; exact (mem_toList_find h).1
  | false =>
    rw [h2, cond_false] at h
    cases h3 : (decide (x.kind = 3)) && (decide (x.round = 1)) with
    | true => rw [h3, cond_true] at h; exact hs _ _ h
    | false =>
      rw [h3, cond_false] at h
      cases h4 : decide (x.kind = 3) with
      | true =>
        rw [h4, cond_true] at h
        unfold later_n at h
        cases ha : adopts_f m S x with
        | true =>
          rw [ha, cond_true] at h
          refine mem_filterMap_find (fun i z hz => ?_) h
          unfold la_g at hz
          cases hf : S.find? (fun w => later1_f w i x) with
          | none => rw [hf] at hz; exact hlm _ _ _ hz
          | some u => rw [hf] at hz; cases hz; exact List.mem_of_find?_eq_some hf
        | false =>
          rw [ha, cond_false, List.mem_append] at h
          rcases h with h | h
          · exact mem_filterMap_find (fun i z hz => hlm _ _ _ hz) h
          · exact (mem_toList_find h).1
      | false =>
        rw [h4, cond_false] at h
        cases h5 : (decide (x.kind = 4)) && (decide (x.choice = 2)) with
        | true =>
          rw [h5, cond_true] at h
          unfold mixed_n at h
          rw [List.mem_append] at h
          rcases h with h | h
          · exact mem_filterMap_find (fun i z hz => List.mem_of_find?_eq_some hz) h
          · cases hd : (ids_f x.support).any (mixDiff S x (mixFirst S x (ids_f x.support))) with
            | true => rw [hd, cond_true] at h; cases h
            | false => rw [hd, cond_false] at h; exact (mem_toList_find h).1
        | false =>
          rw [h5, cond_false] at h
          cases h6 : decide (x.kind = 4) with
          | true => rw [h6, cond_true] at h; exact hs _ _ h
          | false => rw [h6, cond_false] at h; cases h
theorem seeds_from {g : Int → Option Vt} {q : Int} (hg : ∀ i z, g i = some z → z ∈ S) : ∀ (l : List Int) (s : Int × List Vt), (∀ z ∈ s.2, z ∈ S) → ∀ z ∈ (l.foldl (seedStep g q) s).2, z ∈ S := by
  intro l
  induction l with
  | nil => intro s h; exact h
  | cons i r ih =>
    intro s h
    rw [List.foldl_cons]
    refine ih _ fun z hz => ?_
    unfold seedStep at hz
    cases hc : decide (s.1 < q) with
    | false => rw [hc, cond_false] at hz; exact h z hz
    | true =>
      rw [hc, cond_true, List.mem_append, Option.mem_toList] at hz
      exact hz.elim (h z) (hg i z)
theorem seeds_sub {o : Oc} (h : y ∈ seeds_f m S o) : y ∈ S := seeds_from (fun i z hz => List.mem_of_find?_eq_some hz) _ (0, []) (by simp) y h
theorem Reach.sub (hs : ∀ z ∈ seeds, z ∈ S) (h : Reach m S seeds x) : x ∈ S := by
  cases h with
  | seed h => exact hs _ h
  | step _ hy => exact expand_sub hy
theorem mem_grow : y ∈ grow m S R ↔ y ∈ S ∧ (y ∈ R ∨ ∃ x ∈ R, y ∈ expand_n m S x) := by
  unfold grow
  rw [List.mem_filter, Bool.or_eq_true, decide_eq_true_eq, List.any_eq_true]
  simp only [decide_eq_true_eq]
theorem growN_sublist : ∀ (n : Nat) (R : List Vt), R.Sublist S → (growN m S n R).Sublist S
  | 0, _, h => h
  | n + 1, R, _ => growN_sublist n _ List.filter_sublist
theorem growN_reach (hs : ∀ z ∈ R, Reach m S seeds z) : ∀ (n : Nat) (R : List Vt), (∀ z ∈ R, Reach m S seeds z) → ∀ z ∈ growN m S n R, Reach m S seeds z
  | 0, _, h => h
  | n + 1, R, h => growN_reach hs n _ fun z hz => by
    obtain ⟨_, hz | ⟨x, hx, hy⟩⟩ := mem_grow.1 hz
    · exact h z hz
    · exact (h x hx).step hy
theorem grow_stays (hR : R.Sublist S) (hn : S.Nodup) : (∀ z ∈ R, z ∈ grow m S R) := fun z hz => mem_grow.2 ⟨hR.subset hz, Or.inl hz⟩
theorem growN_mono (hR : R.Sublist S) (hn : S.Nodup) : ∀ (n : Nat) (R : List Vt), R.Sublist S → ∀ z ∈ R, z ∈ growN m S n R
  | 0, _, _, z, hz => hz
  | n + 1, R, h, z, hz => growN_mono hR hn n _ List.filter_sublist z (grow_stays h hn z hz)
/-- what is closed stays as it is -/
theorem growN_closed (hn : S.Nodup) : ∀ (n : Nat) (R : List Vt), R.Sublist S → S.length ≤ R.length + n → ∀ x ∈ growN m S n R, ∀ y ∈ expand_n m S x, y ∈ growN m S n R
  | 0, R, hR, hl, x, hx, y, hy => by
    have : R = S := hR.eq_of_length_le (by omega)
    subst this
    exact expand_sub hy
  | n + 1, R, hR, hl, x, hx, y, hy => by
    by_cases hc : ∀ z ∈ grow m S R, z ∈ R
    · -- closed already: it stays
      have hcl : ∀ (k : Nat) (R' : List Vt), (∀ z, z ∈ R' ↔ z ∈ R) → R'.Sublist S → ∀ z, z ∈ growN m S k R' ↔ z ∈ R := by
        intro k
        induction k with
        | zero => intro R' h _; exact h
        | succ k ih =>
          intro R' h hs
          refine ih (grow m S R') (fun z => ?_) List.filter_sublist
          constructor
          · intro hz
            obtain ⟨h1, h2⟩ := mem_grow.1 hz
            refine hc z (mem_grow.2 ⟨h1, ?_⟩)
            rcases h2 with h2 | ⟨u, hu, hz2⟩
            · exact Or.inl ((h z).1 h2)
            · exact Or.inr ⟨u, (h u).1 hu, hz2⟩
          · exact fun hz => mem_grow.2 ⟨hR.subset hz, Or.inl ((h z).2 hz)⟩
      have e := hcl (n + 1) R (fun _ => Iff.rfl) hR
      rw [e] at hx ⊢
      exact hc y (mem_grow.2 ⟨expand_sub hy, Or.inr ⟨x, hx, hy⟩⟩)
    · -- one more at least
      refine growN_closed hn n (grow m S R) List.filter_sublist ?_ x hx y hy
      have hlt : R.length < (grow m S R).length := by
        have hnR : R.Nodup := hR.nodup hn
        have hle : R.length ≤ (grow m S R).length := hnR.length_le_of_subset (grow_stays hR hn)
        rcases Nat.lt_or_ge R.length (grow m S R).length with h | h
        · exact h
        · exfalso
          apply hc
          intro z hz
          by_cases hzR : z ∈ R
          · exact hzR
          · exfalso
            have hnz : (z :: R).Nodup := List.nodup_cons.2 ⟨hzR, hnR⟩
            have := hnz.length_le_of_subset (l₂ := grow m S R) (fun u hu => by
              rcases List.mem_cons.1 hu with rfl | hu
              · exact hz
              · exact grow_stays hR hn u hu)
            rw [List.length_cons] at this
            omega
      omega
theorem mem_reach (hn : S.Nodup) (hs : ∀ z ∈ seeds, z ∈ S) : y ∈ reach_f m S seeds ↔ Reach m S seeds y := by
  have h0 : (S.filter fun y => decide (y ∈ seeds)).Sublist S := List.filter_sublist
  constructor
  · exact growN_reach (R := []) (by simp) _ _ (fun z hz => Reach.seed (by simpa using (List.mem_filter.1 hz).2)) y
  · intro h
    induction h with
    | seed h => exact growN_mono h0 hn _ _ h0 _ (List.mem_filter.2 ⟨hs _ h, by simpa using h⟩)
    | step _ hy ih => exact growN_closed hn _ _ h0 (by omega) _ ih _ hy
theorem reach_sublist : (reach_f m S seeds).Sublist S := growN_sublist _ _ List.filter_sublist
end

theorem slot_asc (m : Int) (parent : Nm) (l : List Vt) (slot : Int) : Asc voteLess_f (inSlot m parent l slot) := (acc_asc m parent l).sublist List.filter_sublist
theorem slot_len (m : Int) (parent : Nm) (l : List Vt) (slot : Int) : (inSlot m parent l slot).length ≤ l.length := Nat.le_trans (List.length_filter_le _ _) (acc_len m parent l)
theorem slot_round {m : Int} {parent : Nm} {l : List Vt} {slot : Int} {x : Vt} (h : x ∈ inSlot m parent l slot) : 0 ≤ x.round ∧ x.round ≤ 100 := by
  have hb := (valid_bounds (allowed_guard (acc_mem_allowed (List.mem_filter.1 h).1)).1).2.2.2
  omega
theorem cl_bound {m : Int} {parent : Nm} {l : List Vt} {o : Oc} {x : Vt} (h : Reach m (inSlot m parent l o.slot) (seeds_f m (inSlot m parent l o.slot) o) x) : 0 ≤ x.round ∧ x.round ≤ 100 := slot_round (h.sub fun z hz => seeds_sub hz)
theorem map_at {α β : Type} [Inhabited α] [Inhabited β] {l : List α} {g : α → β} {k : Nat} (h : k < (l.map g).length) : (l.map g)[k]! ∈ l.map g := by rw [getElem!_pos _ k h]; exact List.getElem_mem h
theorem at_ne {l : List Vt} (h : l.Nodup) {j k : Nat} (hj : j < l.length) (hk : k < l.length) (hne : j ≠ k) : l[j]! ≠ l[k]! := by
  rw [getElem!_pos _ j hj, getElem!_pos _ k hk]
  exact fun e => hne ((List.getElem?_inj hj h).1 (by rw [List.getElem?_eq_getElem hj, List.getElem?_eq_getElem hk, e]))
/-! ### the search's maps -/
section
variable {m : Int} {S seeds : List Vt} {lw ld : List (Vt × Int)} {x v : Vt}
/-- between two rounds -/
structure ClInv (m : Int) (S seeds : List Vt) (lw ld : List (Vt × Int)) : Prop where
  dis : ∀ x, x ∈ lw.map Prod.fst → x ∉ ld.map Prod.fst
  one : ∀ p ∈ ld, p.2 = 1
  reach : ∀ x, x ∈ lw.map Prod.fst ∨ x ∈ ld.map Prod.fst → Reach m S seeds x
  seed : ∀ x ∈ seeds, x ∈ lw.map Prod.fst ∨ x ∈ ld.map Prod.fst
  close : ∀ x ∈ ld.map Prod.fst, ∀ y ∈ expand_n m S x, y ∈ lw.map Prod.fst ∨ y ∈ ld.map Prod.fst
theorem want_keys : x ∈ (want_f ld lw v).map Prod.fst ↔ x ∈ lw.map Prod.fst ∨ (x = v ∧ mget ld v = 0) := by
  unfold want_f
  cases h : decide (mget ld v = 0) with
  | false =>
    rw [decide_eq_false_iff_not] at h
    rw [cond_false]
    exact ⟨Or.inl, fun hh => hh.resolve_right fun e => h e.2⟩
  | true =>
    rw [decide_eq_true_eq] at h
    rw [cond_true, mput_keys]
    split
    · rename_i hv
      exact ⟨Or.inl, fun hh => hh.elim id fun e => e.1 ▸ hv⟩
    · rw [List.mem_append, List.mem_singleton]
      exact or_congr Iff.rfl ⟨fun e => ⟨e, h⟩, fun e => e.1⟩
theorem wants_keys {ns : List Vt} : ∀ {lw : List (Vt × Int)}, x ∈ (wants ld lw ns).map Prod.fst ↔ x ∈ lw.map Prod.fst ∨ (x ∈ ns ∧ mget ld x = 0) := by
  induction ns with
  | nil => intro lw; simp [wants]
  | cons v r ih =>
    intro lw
    show x ∈ (wants ld (want_f ld lw v) r).map Prod.fst ↔ _
    rw [ih, want_keys, List.mem_cons]
    constructor
    · rintro ((h | ⟨rfl, h⟩) | ⟨h1, h2⟩)
      · exact Or.inl h
      · exact Or.inr ⟨Or.inl rfl, h⟩
      · exact Or.inr ⟨Or.inr h1, h2⟩
    · rintro (h | ⟨rfl | h1, h2⟩)
      · exact Or.inl (Or.inl h)
      · exact Or.inl (Or.inr ⟨rfl, h2⟩)
      · exact Or.inr ⟨h1, h2⟩
theorem done_zero (hn : (ld.map Prod.fst).Nodup) (h1 : ∀ p ∈ ld, p.2 = 1) : mget ld x = 0 ↔ x ∉ ld.map Prod.fst := by
  constructor
  · intro h hx
    obtain ⟨p, hp, rfl⟩ := List.mem_map.1 hx
    rw [mget_mem hn hp, h1 p hp] at h
    cases h
  · intro h
    exact mget_none fun p hp e => h (List.mem_map.2 ⟨p, hp, e⟩)
theorem mdel_keys : x ∈ (mdel lw v).map Prod.fst ↔ x ∈ lw.map Prod.fst ∧ x ≠ v := by
  unfold mdel
  rw [List.mem_map, List.mem_map]
  constructor
  · rintro ⟨p, hp, rfl⟩
    rw [List.mem_filter] at hp
    exact ⟨⟨p, hp.1, rfl⟩, by simpa using hp.2⟩
  · rintro ⟨⟨p, hp, rfl⟩, hne⟩
    exact ⟨p, List.mem_filter.2 ⟨hp, by simpa using hne⟩, rfl⟩
theorem put_keys : x ∈ (mput ld v 1).map Prod.fst ↔ x ∈ ld.map Prod.fst ∨ x = v := by
  rw [mput_keys]
  split
  · rename_i h
    exact ⟨Or.inl, fun hh => hh.elim id fun e => e ▸ h⟩
  · rw [List.mem_append, List.mem_singleton]
theorem cl_init : ClInv m S seeds (wants [] [] seeds) [] where
  dis _ _ h := by simp at h
  one _ h := by simp at h
  reach x h := by
    rcases h with h | h
    · rw [wants_keys] at h
      exact Reach.seed (h.elim (fun h => by simp at h) fun h => h.1)
    · simp at h
  seed x h := Or.inl (wants_keys.2 (Or.inr ⟨h, rfl⟩))
  close x h := by simp at h
theorem cl_step (h : ClInv m S seeds lw ld) (hn : (ld.map Prod.fst).Nodup) (hv : v ∈ lw.map Prod.fst) : ClInv m S seeds (wants (mput ld v 1) (mdel lw v) (expand_n m S v)) (mput ld v 1) := by
  have hn2 : ((mput ld v 1).map Prod.fst).Nodup := mput_nodup hn
  have h1 : ∀ p ∈ mput ld v 1, p.2 = 1 := fun p hp => by
    rcases mput_mem.1 hp with rfl | ⟨_, hp⟩
    · rfl
    · exact h.one p hp
  have hz : ∀ x, mget (mput ld v 1) x = 0 ↔ x ∉ (mput ld v 1).map Prod.fst := fun x => done_zero hn2 h1
  have hrv := h.reach v (Or.inl hv)
  refine ⟨fun x hx => ?_, h1, fun x hx => ?_, fun x hx => ?_, fun x hx y hy => ?_⟩
  · rw [wants_keys, mdel_keys] at hx
    rcases hx with ⟨hx, hne⟩ | ⟨_, hx⟩
    · rw [put_keys]
      rintro (h2 | h2)
      · exact h.dis x hx h2
      · exact hne h2
    · exact (hz x).1 hx
  · rw [wants_keys, mdel_keys, put_keys] at hx
    rcases hx with (⟨hx, _⟩ | ⟨hx, _⟩) | hx | rfl
    · exact h.reach x (Or.inl hx)
    · exact hrv.step hx
    · exact h.reach x (Or.inr hx)
    · exact hrv
  · rw [wants_keys, mdel_keys, put_keys]
    rcases h.seed x hx with h2 | h2
    · by_cases e : x = v
      · exact Or.inr (Or.inr e)
      · exact Or.inl (Or.inl ⟨h2, e⟩)
    · exact Or.inr (Or.inl h2)
  · by_cases hyd : y ∈ (mput ld v 1).map Prod.fst
    · exact Or.inr hyd
    · left
      rw [wants_keys, mdel_keys]
      rw [put_keys] at hx
      rcases hx with hx | rfl
      · rcases h.close x hx y hy with h2 | h2
        · by_cases e : y = v
          · exact absurd (put_keys.2 (Or.inr e)) hyd
          · exact Or.inl ⟨h2, e⟩
        · exact absurd (put_keys.2 (Or.inl h2)) hyd
      · exact Or.inr ⟨hy, (hz y).2 hyd⟩
theorem cl_put_len (h : ClInv m S seeds lw ld) (hv : v ∈ lw.map Prod.fst) : (mput ld v 1).length = ld.length + 1 := by
  unfold mput
  rw [if_neg (h.dis v hv), List.length_append]; rfl
theorem cl_next (ns : List Vt) {u : Vt} (hu : u ∈ lw.map Prod.fst) (hne : u ≠ v) : u ∈ (wants ld (mdel lw v) ns).map Prod.fst := wants_keys.2 (Or.inl (mdel_keys.2 ⟨hu, hne⟩))
theorem cl_len_d (h : ClInv m S seeds lw ld) (hs : ∀ z ∈ seeds, z ∈ S) (hn : (ld.map Prod.fst).Nodup) : ld.length ≤ S.length := by
  have e : (ld.map Prod.fst).length = ld.length := List.length_map _
  rw [← e]
  exact hn.length_le_of_subset fun x hx => (h.reach x (Or.inr hx)).sub hs
theorem cl_len_w (h : ClInv m S seeds lw ld) (hs : ∀ z ∈ seeds, z ∈ S) (hn : (lw.map Prod.fst).Nodup) : lw.length ≤ S.length := by
  have e : (lw.map Prod.fst).length = lw.length := List.length_map _
  rw [← e]
  exact hn.length_le_of_subset fun x hx => (h.reach x (Or.inl hx)).sub hs
theorem cl_end (h : ClInv m S seeds [] ld) (hs : ∀ z ∈ seeds, z ∈ S) (hn : (ld.map Prod.fst).Nodup) (hA : Asc voteLess_f S) {dn : List (Vt × Int)} {ls : List Vt} (hd : dn.Perm ld) (hl : ls.Perm (dn.map Prod.fst)) (ho : ∀ i j, i < j → j < ls.length → voteLess_f ls[j]! ls[i]! = false) : ls = reach_f m S seeds := by
  rw [perm_sorted vote_lin (hl.trans (hd.map _)) hn ho]
  have hSn : S.Nodup := hA.imp fun hxy e => by rw [e, vote_lin.irrefl] at hxy; cases hxy
  refine Asc.unique vote_lin (sorted_asc vote_lin _) (hA.sublist reach_sublist) fun x => ?_
  rw [sorted_mem, mem_reach hSn hs]
  constructor
  · exact fun hx => h.reach x (Or.inr hx)
  · intro hr
    induction hr with
    | seed hx => exact (h.seed _ hx).elim (fun h => by simp at h) id
    | step _ hy ih => exact (h.close _ ih _ hy).elim (fun h => by simp at h) id
theorem seed_no {g : Int → Option Vt} {q c : Int} {L : List Vt} {i : Int} (h : decide (c < q) = false) : seedStep g q (c, L) i = (c, L) := by unfold seedStep; rw [h]; rfl
theorem seed_some {g : Int → Option Vt} {q c : Int} {L : List Vt} {i : Int} (h : decide (c < q) = true) (h2 : (g i).isSome = true) : seedStep g q (c, L) i = (c + 1, L ++ (g i).toList) := by unfold seedStep; rw [h, h2]; rfl
theorem seed_none {g : Int → Option Vt} {q c : Int} {L : List Vt} {i : Int} (h : decide (c < q) = true) (h2 : (g i).isSome = false) : seedStep g q (c, L) i = (c, L ++ (g i).toList) := by unfold seedStep; rw [h, h2]; rfl
end
end Go.Proofs.Ytdknjfmjddlphaa
