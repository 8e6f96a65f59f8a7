/-
  Layer 17's laws: one decided outcome for each member; unlike blocks bear conflicting votes. No walk.
-/
import Derived.Test.YtdknjfmjddlphaaDefs6
set_option linter.unusedSimpArgs false
set_option linter.unusedVariables false
namespace Go.Proofs.Ytdknjfmjddlphaa
open Go Go.Fk

theorem all_take_go {α : Type} [Inhabited α] {l : List α} {p : α → Bool} {k : Nat} (hk : k < l.length) : (l.take (k + 1)).all p = ((l.take k).all p && p l[k]!) := by
  rw [take_bang hk, List.all_append]; simp
def whole17 (m : Int) (parent : Nm) (l : List Vt) (x : Int) : Bool := decide ((0 : Int) < ((outcomes_f m parent l x).length : Int))
theorem dec17_whole {m : Int} {parent : Nm} {l : List Vt} : (decide ((0 : Int) < ((ids_f m).length : Int)) && (ids_f m).all (whole17 m parent l)) = (decide17_f m parent l).2 := by
  unfold decide17_f
  have : whole17 m parent l = some17 m parent l := by
    funext x
    unfold whole17 some17
    exact decide_eq_decide.2 (by omega)
  rw [this]
  cases (ids_f m).all (some17 m parent l) with
  | false => simp
  | true =>
    simp only [Bool.and_true, cond_true]
    exact decide_eq_decide.2 (by omega)
theorem dec17_false {m : Int} {parent : Nm} {l : List Vt} (h : (decide17_f m parent l).2 = false) : (decide17_f m parent l).1.length = 0 := by
  unfold decide17_f at h ⊢
  cases ha : (ids_f m).all (some17 m parent l) with
  | false => rfl
  | true =>
    rw [ha] at h
    simp only [cond_true, decide_eq_false_iff_not] at h
    simp only [cond_true, List.length_map]
    omega
theorem decides17a {m : Int} {parent : Nm} {l : List Vt} {u : Bool} (h : u = (decide17_f m parent l).2) : ((!((decide17_f m parent l).2 == u)) || ((!((decide17_f m parent l).2)) && (!decide (((decide17_f m parent l).1.length : Int) = 0)))) = false := by
  subst h
  cases hd : (decide17_f m parent l).2 with
  | true => rfl
  | false =>
    have := dec17_false hd
    rw [this]; rfl
theorem dec17_len {m : Int} {parent : Nm} {l : List Vt} (h : (decide17_f m parent l).2 = true) : (decide17_f m parent l).1.length = (ids_f m).length := by
  rw [(dec17_true h).2.2]; simp
theorem decides17b {m : Int} {parent : Nm} {l : List Vt} (h : (decide17_f m parent l).2 = true) {k : Nat} (hk : k < (decide17_f m parent l).1.length) : ((!decide ((decide17_f m parent l).1[k]!.slot = (ids_f m)[k]!)) || (!(decided_f m parent l (decide17_f m parent l).1[k]!))) = false := by
  obtain ⟨h1, h2, h3⟩ := dec17_true h
  rw [h3] at hk ⊢
  have hk' : k < (ids_f m).length := by simpa using hk
  have e : ((ids_f m).map (first17 m parent l))[k]! = first17 m parent l (ids_f m)[k]! := by
    rw [getElem!_pos _ k hk, List.getElem_map, getElem!_pos _ k hk']
  have hi : (ids_f m)[k]! ∈ ids_f m := by rw [getElem!_pos _ k hk']; exact List.getElem_mem hk'
  have hm := first17_mem (h1 _ hi)
  have hs := (mem_outcomes.1 hm).1
  have hd : decided_f m parent l (first17 m parent l (ids_f m)[k]!) = true := by rw [decided_iff, hs]; exact hm
  rw [e, hs, hd, decide_eq_true rfl]; rfl
def torn17Step (x : Vt) (acc : Int) (y : Vt) : Int := bif (decide (x.signer = y.signer)) && (conflict_f x y) then ior acc (ishl 1 x.signer) else acc
def torn17_f (a b : List Vt) : Int := a.foldl (fun acc x => b.foldl (torn17Step x) acc) 0
theorem conflict_range {x y : Vt} (h : conflict_f x y = true) : 0 ≤ x.signer ∧ x.signer ≤ 9 := by
  unfold conflict_f at h
  simp only [Bool.and_eq_true] at h
  exact (valid_bounds h.1.2).2.1
theorem has_t17Step {x y : Vt} {acc i : Int} : has_f (torn17Step x acc y) i = true ↔ has_f acc i = true ∨ (x.signer = y.signer ∧ conflict_f x y = true ∧ i = x.signer) := by
  unfold torn17Step
  cases hc : (decide (x.signer = y.signer)) && (conflict_f x y) with
  | false =>
    simp only [cond_false]
    constructor
    · exact Or.inl
    · rintro (h | ⟨h1, h2, _⟩)
      · exact h
      · rw [decide_eq_true h1, h2] at hc; cases hc
  | true =>
    simp only [Bool.and_eq_true, decide_eq_true_eq] at hc
    have hr := conflict_range hc.2
    simp only [cond_true]
    rw [has_ior, Bool.or_eq_true, has_ishl hr.1 hr.2, decide_eq_true_eq]
    exact ⟨fun h => h.imp id fun e => ⟨hc.1, hc.2, e⟩, fun h => h.imp id fun e => e.2.2⟩
theorem has_t17Row {x : Vt} {i : Int} : ∀ (b : List Vt) (acc : Int), has_f (b.foldl (torn17Step x) acc) i = true ↔ has_f acc i = true ∨ ∃ y ∈ b, x.signer = y.signer ∧ conflict_f x y = true ∧ i = x.signer
  | [], acc => by simp
  | y :: t, acc => by
    rw [List.foldl_cons, has_t17Row t, has_t17Step]
    constructor
    · rintro ((h | h) | ⟨z, hz, h⟩)
      · exact Or.inl h
      · exact Or.inr ⟨y, by simp, h⟩
      · exact Or.inr ⟨z, by simp [hz], h⟩
    · rintro (h | ⟨z, hz, h⟩)
      · exact Or.inl (Or.inl h)
      · rcases List.mem_cons.1 hz with rfl | hz
        · exact Or.inl (Or.inr h)
        · exact Or.inr ⟨z, hz, h⟩
theorem has_t17 {i : Int} (b : List Vt) : ∀ (a : List Vt) (acc : Int), has_f (a.foldl (fun acc x => b.foldl (torn17Step x) acc) acc) i = true ↔ has_f acc i = true ∨ ∃ x ∈ a, ∃ y ∈ b, x.signer = y.signer ∧ conflict_f x y = true ∧ i = x.signer
  | [], acc => by simp
  | x :: t, acc => by
    rw [List.foldl_cons, has_t17 b t, has_t17Row]
    constructor
    · rintro ((h | h) | ⟨z, hz, h⟩)
      · exact Or.inl h
      · exact Or.inr ⟨x, by simp, h⟩
      · exact Or.inr ⟨z, by simp [hz], h⟩
    · rintro (h | ⟨z, hz, h⟩)
      · exact Or.inl (Or.inl h)
      · rcases List.mem_cons.1 hz with rfl | hz
        · exact Or.inl (Or.inr h)
        · exact Or.inr ⟨z, hz, h⟩
theorem has_torn17 {a b : List Vt} {i : Int} : has_f (torn17_f a b) i = true ↔ ∃ x ∈ a, ∃ y ∈ b, x.signer = y.signer ∧ conflict_f x y = true ∧ i = x.signer := by
  unfold torn17_f
  rw [has_t17, has_zero]
  simp
theorem accounts17 {m : Int} {parent : Nm} {l mm : List Vt} (h1 : (decide17_f m parent l).2 = true) (h2 : (decide17_f m parent mm).2 = true) (hne : decide (choices_f (decide17_f m parent l).1 = choices_f (decide17_f m parent mm).1) = false) :
    decide (2 * quorum_f (size_f m) - size_f m ≤ size_f (iand (torn17_f l mm) m)) = true ∧ decide (third_f (size_f m) ≤ size_f (iand (torn17_f l mm) m)) = true := by
  obtain ⟨a1, a2, a3⟩ := dec17_true h1
  obtain ⟨b1, b2, b3⟩ := dec17_true h2
  rw [a3, b3, decide_eq_false_iff_not] at hne
  have hex : ∃ i ∈ ids_f m, chOf (first17 m parent l i) ≠ chOf (first17 m parent mm i) := by
    by_cases hc : ∃ i ∈ ids_f m, chOf (first17 m parent l i) ≠ chOf (first17 m parent mm i)
    · exact hc
    · exfalso
      refine hne ?_
      unfold choices_f
      rw [List.map_map, List.map_map]
      refine List.map_congr_left fun i hi => ?_
      by_cases e : chOf (first17 m parent l i) = chOf (first17 m parent mm i)
      · exact e
      · exact absurd ⟨i, hi, e⟩ hc
  obtain ⟨i, hi, hv⟩ := hex
  have m1 := first17_mem (a1 i hi)
  have m2 := first17_mem (b1 i hi)
  have s1 := (mem_outcomes.1 m1).1
  have s2 := (mem_outcomes.1 m2).1
  have hval : ¬ ((first17 m parent mm i).choice = (first17 m parent l i).choice ∧ (first17 m parent mm i).value = (first17 m parent l i).value) := fun ⟨_, e⟩ => hv (by unfold chOf; rw [s1, s2, e])
  have key := outcomes_unlike m1 m2 hval (t := has_f (iand (torn17_f l mm) m)) fun j hj x hx y hy e1 e2 _ _ hc => by
    rw [has_iand, hj, Bool.and_true, has_torn17]
    exact ⟨x, (acc_sub hx).2, y, (acc_sub hy).2, e1.trans e2.symm, hc, e1.symm⟩
  have h3 := Int.le_trans key (cnt_le_size fun _ _ h => h)
  have h4 := third_le (size_nn m)
  exact ⟨decide_eq_true h3, decide_eq_true (by omega)⟩
end Go.Proofs.Ytdknjfmjddlphaa
