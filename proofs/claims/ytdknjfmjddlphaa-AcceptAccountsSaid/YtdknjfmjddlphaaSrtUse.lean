/-
  What sort.Slice is told of a closure that compares two elements of the slice in a captured variable; and a sorted list without its repetitions. No walk.
-/
import Derived.Test.YtdknjfmjddlphaaOrder
import Derived.Test.YtdknjfmjddlphaaSrtTy
import Derived.Test.YtdknjfmjddlphaaOps2
namespace Go.Proofs.Ytdknjfmjddlphaa
open Go Go.Fk Go.Sort

theorem lessOk_box {α : Type} [Enc α] [Inhabited α] {lt : α → α → Bool} {g : Nat} {fn : Func} (h1 : Try.prog.funcs[g]? = some fn) (h2 : fn.body.isSome = true) (h3 : (fn.name == "runtime.NumGoroutine") = false)
    (hc : ∀ {w : World} {q : Addr} {A : Option Addr} {c lo hi : Nat} {l : List α} {i j : Nat}, Cells w q [.slice A l.length c] → Rd w lo hi A l → i < l.length → j < l.length → Gives Try.prog g #[.int .i64 ((i : Nat) : Int), .int .i64 ((j : Nat) : Int), .pointer (some q)] w fun u w' => u = .bool (lt l[i]! l[j]!) ∧ Ext w w')
    {w : World} {b blk n c : Nat} {t : TypeId} (hB : Box w b t [.slice (some ⟨blk, 0, none⟩) n c]) (hne : b ≠ blk) (hn : n ≤ 9223372036854775807) : LessOk Try.prog lt (.func (.func g) #[] #[.pointer (some ⟨b, 0, none⟩)]) blk 0 n w := by
  refine ⟨g, _, fn, rfl, h1, h2, h3, fun w1 d hF hs hH i j hi hj => ?_⟩
  subst hs
  have hB1 := hB.farx hF hne
  have hR := rd_of_hld (lo := 0) (hi := blk + 1) hH hn (Nat.zero_le _) (Nat.lt_succ_self _)
  have hcs : Cells w1 ⟨b, 0, none⟩ [.slice (some ⟨blk, 0, none⟩) d.toList.length c] := by
    have := hB1.cells
    simpa using this
  have := hc (i := i) (j := j) hcs hR (by simpa using hi) (by simpa using hj)
  simpa [hi, hj] using this

section
variable {α : Type} [DecidableEq α] [Inhabited α] {lt : α → α → Bool}
/-- the first k elements, each that is like the one ahead of it left out -/
def dedupN (l : List α) : Nat → List α
  | 0 => []
  | k + 1 => bif decide (((k : Nat) : Int) = 0) || !decide (l[k]! = l[k - 1]!) then dedupN l k ++ [l[k]!] else dedupN l k
theorem dedup_len (l : List α) : ∀ k, (dedupN l k).length ≤ k
  | 0 => by simp [dedupN]
  | k + 1 => by
    have := dedup_len l k
    unfold dedupN
    cases decide (((k : Nat) : Int) = 0) || !decide (l[k]! = l[k - 1]!) with
    | true => simp; omega
    | false => simp; omega
theorem dedup_yes {l : List α} {k : Nat} (h : (decide (((k : Nat) : Int) = 0) || !decide (l[k]! = l[k - 1]!)) = true) : dedupN l (k + 1) = dedupN l k ++ [l[k]!] := by
  simp only [dedupN, h, cond_true]
theorem dedup_no {l : List α} {k : Nat} (h : (decide (((k : Nat) : Int) = 0) || !decide (l[k]! = l[k - 1]!)) = false) : dedupN l (k + 1) = dedupN l k := by
  simp only [dedupN, h, cond_false]
theorem dedup_mem {l : List α} {z : α} : ∀ {k : Nat}, z ∈ dedupN l k ↔ ∃ i, i < k ∧ z = l[i]!
  | 0 => by simp [dedupN]
  | k + 1 => by
    have ih := dedup_mem (l := l) (z := z) (k := k)
    unfold dedupN
    cases h : decide (((k : Nat) : Int) = 0) || !decide (l[k]! = l[k - 1]!) with
    | true =>
      simp only [cond_true, List.mem_append, List.mem_singleton, ih]
      constructor
      · rintro (⟨i, hi, e⟩ | e)
        · exact ⟨i, by omega, e⟩
        · exact ⟨k, by omega, e⟩
      · rintro ⟨i, hi, e⟩
        rcases Nat.lt_succ_iff_lt_or_eq.1 hi with h | h
        · exact Or.inl ⟨i, h, e⟩
        · subst h; exact Or.inr e
    | false =>
      simp only [Bool.or_eq_false_iff, decide_eq_false_iff_not, Bool.not_eq_false', decide_eq_true_eq] at h
      simp only [cond_false, ih]
      constructor
      · rintro ⟨i, hi, e⟩; exact ⟨i, by omega, e⟩
      · rintro ⟨i, hi, e⟩
        rcases Nat.lt_succ_iff_lt_or_eq.1 hi with h' | h'
        · exact ⟨i, h', e⟩
        · subst h'; exact ⟨i - 1, by omega, by rw [e]; exact h.2⟩
theorem dedup_asc (hl : Lin lt) {l : List α} (hs : ∀ i j, i < j → j < l.length → lt l[j]! l[i]! = false) : ∀ {k : Nat}, k ≤ l.length → Asc lt (dedupN l k)
  | 0, _ => by simp [dedupN, Asc]
  | k + 1, hk => by
    have ih := dedup_asc hl hs (k := k) (by omega)
    unfold dedupN
    cases h : decide (((k : Nat) : Int) = 0) || !decide (l[k]! = l[k - 1]!) with
    | false => exact ih
    | true =>
      simp only [cond_true]
      refine List.pairwise_append.2 ⟨ih, by simp, fun x hx y hy => ?_⟩
      rw [List.mem_singleton] at hy
      subst hy
      obtain ⟨i, hi, rfl⟩ := dedup_mem.1 hx
      simp only [Bool.or_eq_true, decide_eq_true_eq, Bool.not_eq_true', decide_eq_false_iff_not] at h
      rcases h with h | h
      · omega
      · have hlast : lt l[k - 1]! l[k]! = true := by
          cases hc : lt l[k - 1]! l[k]! with
          | true => rfl
          | false => exact absurd (hl.total _ _ (hs (k - 1) k (by omega) (by omega)) hc) h
        rcases Nat.lt_or_ge i (k - 1) with hlt | hge
        · cases hc : lt l[i]! l[k - 1]! with
          | true => exact hl.trans _ _ _ hc hlast
          | false =>
            have := hl.total _ _ hc (hs i (k - 1) hlt (by omega))
            rw [this]; exact hlast
        · have : i = k - 1 := by omega
          rw [this]; exact hlast
theorem dedup_sorted (hl : Lin lt) {l m : List α} (hs : ∀ i j, i < j → j < l.length → lt l[j]! l[i]! = false) (hp : l.Perm m) : dedupN l l.length = sorted lt m := by
  refine Asc.unique hl (dedup_asc hl hs (Nat.le_refl _)) (sorted_asc hl m) fun z => ?_
  rw [dedup_mem, sorted_mem, ← hp.mem_iff]
  constructor
  · rintro ⟨i, hi, rfl⟩
    rw [getElem!_pos l i hi]; exact List.getElem_mem hi
  · intro hz
    obtain ⟨i, hi, e⟩ := List.getElem_of_mem hz
    exact ⟨i, hi, by rw [getElem!_pos l i hi]; exact e.symm⟩
end
theorem ins_len {α : Type} [DecidableEq α] {lt : α → α → Bool} (x : α) : ∀ l, (ins lt x l).length ≤ l.length + 1
  | [] => by simp [ins]
  | y :: t => by
    unfold ins
    cases lt x y with
    | true => simp
    | false =>
      cases decide (x = y) with
      | true => simp
      | false => simpa using ins_len x t
theorem sorted_len {α : Type} [DecidableEq α] {lt : α → α → Bool} (l : List α) : (sorted lt l).length ≤ l.length := by
  induction l with
  | nil => simp [sorted]
  | cons x t ih =>
    unfold sorted at ih ⊢
    rw [List.foldr_cons]
    have := ins_len (lt := lt) x (t.foldr (ins lt) [])
    simp only [List.length_cons]; omega
/-- the votes above the parent, ascending, without repetitions -/
def asc_f (parent : Nm) (l : List Vt) : List Vt := sorted voteLess_f (l.filter fun x => decide (x.parent = parent))
theorem asc_len (parent : Nm) (l : List Vt) : (asc_f parent l).length ≤ l.length := Nat.le_trans (sorted_len _) (List.length_filter_le _ _)

end Go.Proofs.Ytdknjfmjddlphaa
