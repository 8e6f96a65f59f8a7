/-
  What superblock computes, and its laws. No walk.
-/
import Derived.Test.YtdknjfmjddlphaaZd
import Derived.Test.YtdknjfmjddlphaaZc
import Derived.Test.YtdknjfmjddlphaaLaw12b
set_option linter.unusedSimpArgs false
set_option linter.unusedVariables false
namespace Go.Proofs.Ytdknjfmjddlphaa
open Go Go.Fk

def first17 (m : Int) (parent : Nm) (l : List Vt) (i : Int) : Oc := (outcomes_f m parent l i)[0]!
def some17 (m : Int) (parent : Nm) (l : List Vt) (i : Int) : Bool := decide (0 < (outcomes_f m parent l i).length)
def decide17_f (m : Int) (parent : Nm) (l : List Vt) : List Oc × Bool :=
  bif (ids_f m).all (some17 m parent l) then ((ids_f m).map (first17 m parent l), decide (0 < (ids_f m).length)) else ([], false)
def chOf (o : Oc) : Ch := ⟨o.slot, o.value⟩
def choices_f (l : List Oc) : List Ch := l.map chOf
def has17_f (l : List Oc) (v : Nm) : Bool := l.any fun o => decide (o.value = v)
def cert1 (m : Int) (parent : Nm) (l : List Vt) (p : Int × Ch) : Bool := decide (p.2.validator = p.1) && has17_f (outcomes_f m parent l p.1) p.2.value
def certified17_f (m : Int) (parent : Nm) (l : List Vt) (slots : List Ch) : Bool :=
  bif (!decide (size_f m = (slots.length : Int))) || (decide ((slots.length : Int) = 0)) then false else ((ids_f m).zip slots).all (cert1 m parent l)

/-! ### for the walks -/
theorem ids_upto10 (m : Int) : idsUpto m 10 = ids_f m := rfl
theorem dec_yes {m : Int} {parent : Nm} {l : List Vt} {k : Nat} (h : has_f m ((k : Nat) : Int) = true) : (idsUpto m k).map (first17 m parent l) ++ [(outcomes_f m parent l ((k : Nat) : Int))[0]!] = (idsUpto m (k + 1)).map (first17 m parent l) := by
  rw [idsUpto_yes h, List.map_append]; rfl
theorem dec_no {m : Int} {parent : Nm} {l : List Vt} {k : Nat} (h : has_f m ((k : Nat) : Int) = false) : (idsUpto m k).map (first17 m parent l) = (idsUpto m (k + 1)).map (first17 m parent l) := by
  rw [idsUpto_no h]
theorem dec_all {m : Int} {parent : Nm} {l : List Vt} {k : Nat} (ha : (idsUpto m k).all (some17 m parent l) = true) (h : has_f m ((k : Nat) : Int) = true → 0 < (outcomes_f m parent l ((k : Nat) : Int)).length) : (idsUpto m (k + 1)).all (some17 m parent l) = true := by
  cases hh : has_f m ((k : Nat) : Int) with
  | true => rw [idsUpto_yes hh, List.all_append, ha]; simp [some17, h hh]
  | false => rw [idsUpto_no hh]; exact ha
theorem dec_none {m : Int} {parent : Nm} {l : List Vt} {k : Nat} (hk : k < 10) (h : has_f m ((k : Nat) : Int) = true) (h0 : (outcomes_f m parent l ((k : Nat) : Int)).length = 0) : decide17_f m parent l = ([], false) := by
  unfold decide17_f
  have : (ids_f m).all (some17 m parent l) = false := by
    rw [List.all_eq_false]
    exact ⟨((k : Nat) : Int), mem_ids.2 h, by simp [some17, h0]⟩
  rw [this]; rfl
theorem dec_some {m : Int} {parent : Nm} {l : List Vt} (ha : (idsUpto m 10).all (some17 m parent l) = true) : decide17_f m parent l = ((idsUpto m 10).map (first17 m parent l), decide ((0 : Int) < (((idsUpto m 10).map (first17 m parent l)).length : Int))) := by
  unfold decide17_f
  rw [ids_upto10] at ha ⊢
  rw [ha]
  simp only [cond_true, List.length_map]
  congr 1
  exact decide_eq_decide.2 (by omega)
theorem dec17_short (m : Int) (parent : Nm) (l : List Vt) : (decide17_f m parent l).1.length ≤ 10 := by
  unfold decide17_f
  have := ids_len m
  cases (ids_f m).all (some17 m parent l) with
  | true => simpa using this
  | false => simp
theorem map_take_go {α β : Type} [Inhabited α] {l : List α} {f : α → β} {k : Nat} (hk : k < l.length) : (l.take k).map f ++ [f l[k]!] = (l.take (k + 1)).map f := by
  rw [take_bang hk, List.map_append]; rfl
theorem zip_bang {α β : Type} [Inhabited α] [Inhabited β] {a : List α} {b : List β} {k : Nat} (h1 : k < a.length) (h2 : k < b.length) : (a.zip b)[k]! = (a[k]!, b[k]!) := by
  rw [getElem!_pos (a.zip b) k (by rw [List.length_zip]; omega), getElem!_pos a k h1, getElem!_pos b k h2, List.getElem_zip]

/-! ### laws -/
theorem has17_iff {l : List Oc} {v : Nm} : has17_f l v = true ↔ ∃ o ∈ l, o.value = v := by
  unfold has17_f
  rw [List.any_eq_true]
  exact ⟨fun ⟨o, h1, h2⟩ => ⟨o, h1, by simpa using h2⟩, fun ⟨o, h1, h2⟩ => ⟨o, h1, by simpa using h2⟩⟩
theorem has17_mono {m : Int} {parent : Nm} {l l' : List Vt} (h : ∀ x ∈ l, x ∈ l') {i : Int} {v : Nm} (hv : has17_f (outcomes_f m parent l i) v = true) : has17_f (outcomes_f m parent l' i) v = true := by
  rw [has17_iff] at hv ⊢
  obtain ⟨o, h1, h2⟩ := hv
  exact ⟨o, outcomes_mono h h1, h2⟩
theorem cert17_mono {m : Int} {parent : Nm} {l l' : List Vt} (h : ∀ x ∈ l, x ∈ l') {slots : List Ch} (hc : certified17_f m parent l slots = true) : certified17_f m parent l' slots = true := by
  unfold certified17_f at hc ⊢
  cases hg : (!decide (size_f m = (slots.length : Int))) || (decide ((slots.length : Int) = 0)) with
  | true => rw [hg] at hc; cases hc
  | false =>
    rw [hg] at hc
    simp only [cond_false] at hc ⊢
    rw [List.all_eq_true] at hc ⊢
    intro p hp
    have := hc p hp
    unfold cert1 at this ⊢
    rw [Bool.and_eq_true] at this ⊢
    exact ⟨this.1, has17_mono h this.2⟩
theorem dec17_true {m : Int} {parent : Nm} {l : List Vt} (h : (decide17_f m parent l).2 = true) : (∀ i ∈ ids_f m, 0 < (outcomes_f m parent l i).length) ∧ 0 < (ids_f m).length ∧ (decide17_f m parent l).1 = (ids_f m).map (first17 m parent l) := by
  unfold decide17_f at h ⊢
  cases ha : (ids_f m).all (some17 m parent l) with
  | false => rw [ha] at h; cases h
  | true =>
    rw [ha] at h
    simp only [cond_true, decide_eq_true_eq] at h ⊢
    rw [List.all_eq_true] at ha
    refine ⟨fun i hi => ?_, h, trivial⟩
    have := ha i hi
    unfold some17 at this
    simpa using this
theorem first17_mem {m : Int} {parent : Nm} {l : List Vt} {i : Int} (h : 0 < (outcomes_f m parent l i).length) : first17 m parent l i ∈ outcomes_f m parent l i := by
  unfold first17
  rw [getElem!_pos _ 0 h]; exact List.getElem_mem h
theorem cert17_of_dec {m : Int} {parent : Nm} {l : List Vt} (h : (decide17_f m parent l).2 = true) : certified17_f m parent l (choices_f (decide17_f m parent l).1) = true := by
  obtain ⟨h1, h2, h3⟩ := dec17_true h
  rw [h3]
  unfold certified17_f choices_f
  have hl : (((ids_f m).map (first17 m parent l)).map chOf).length = (ids_f m).length := by simp
  have e1 : decide (size_f m = ((((ids_f m).map (first17 m parent l)).map chOf).length : Int)) = true := by rw [decide_eq_true_eq, hl, size_ids]
  have e2 : decide (((((ids_f m).map (first17 m parent l)).map chOf).length : Int) = 0) = false := by rw [decide_eq_false_iff_not, hl]; omega
  rw [e1, e2]
  simp only [Bool.not_true, Bool.or_false, cond_false]
  rw [List.all_eq_true]
  rintro ⟨i, c⟩ hp
  rw [List.map_map] at hp
  have hi : i ∈ ids_f m ∧ c = chOf (first17 m parent l i) := by
    obtain ⟨k, hk, e⟩ := List.getElem_of_mem hp
    rw [List.getElem_zip, List.getElem_map] at e
    injection e with e1 e2
    subst e1
    exact ⟨List.getElem_mem _, e2.symm⟩
  obtain ⟨hi, rfl⟩ := hi
  have hm := first17_mem (h1 i hi)
  unfold cert1
  have hs := (mem_outcomes.1 hm).1
  have : has17_f (outcomes_f m parent l i) (chOf (first17 m parent l i)).value = true := has17_iff.2 ⟨_, hm, rfl⟩
  rw [this]
  simp [chOf, hs]
theorem grows17_mem {l mm : List Vt} : ∀ x ∈ l, x ∈ (([] : List Vt) ++ mm) ++ l := fun x hx => List.mem_append_right _ hx
theorem grows17a {m : Int} {parent : Nm} {l mm : List Vt} : ((decide17_f m parent l).2 && (!(certified17_f m parent (([] ++ mm) ++ l) (choices_f (decide17_f m parent l).1)))) = false := by
  cases h : (decide17_f m parent l).2 with
  | false => rfl
  | true => rw [cert17_mono grows17_mem (cert17_of_dec h)]; rfl
theorem grows17b {m : Int} {parent : Nm} {l mm : List Vt} {slots : List Ch} : ((!(certified17_f m parent l slots)) || (certified17_f m parent (([] ++ mm) ++ l) slots)) = true := by
  cases h : certified17_f m parent l slots with
  | false => rfl
  | true => rw [cert17_mono grows17_mem h]; rfl
end Go.Proofs.Ytdknjfmjddlphaa
