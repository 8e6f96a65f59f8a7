/-
  What the search of a certificate does to its map of waiting votes. No walk.
-/
import Derived.Test.YtdknjfmjddlphaaGC1
set_option linter.unusedSimpArgs false
set_option linter.unusedVariables false
namespace Go.Proofs.Ytdknjfmjddlphaa
open Go Go.Fk

def vt0 : Vt := ⟨0, 0, 0, 0, 0, 0, Nm.zero, Nm.zero⟩
def want_f (ld lw : List (Vt × Int)) (v : Vt) : List (Vt × Int) := bif decide (mget ld v = 0) then mput lw v 1 else lw
def wantO (ld lw : List (Vt × Int)) (o : Option Vt) : List (Vt × Int) := match o with | some x => want_f ld lw x | none => lw
def wants (ld lw : List (Vt × Int)) (ns : List Vt) : List (Vt × Int) := ns.foldl (want_f ld) lw
/-- the first that fits -/
def sup_g (all : List Vt) (v : Vt) (kind round : Int) (i : Int) : Option Vt := all.find? fun x => supp1_f x i v kind round
def lm_g (all : List Vt) (round : Int) (i : Int) : Option Vt := all.find? fun x => lm1_f x i round
def mix_g (all : List Vt) (v : Vt) (i : Int) : Option Vt := all.find? fun x => mix1_f x i v
def la_g (all : List Vt) (v : Vt) (i : Int) : Option Vt := match all.find? fun x => later1_f x i v with | some x => some x | none => lm_g all (v.round - 1) i
def sup_n (all : List Vt) (v : Vt) (kind round : Int) : List Vt := (ids_f v.support).filterMap (sup_g all v kind round)
def adopts_f (m : Int) (all : List Vt) (v : Vt) : Bool := allowed_f m v (all.filter fun x => decide (x.kind = 4))
def later_n (m : Int) (all : List Vt) (v : Vt) : List Vt :=
  bif adopts_f m all v then (ids_f v.support).filterMap (la_g all v)
  else (ids_f v.support).filterMap (lm_g all (v.round - 1)) ++ (all.find? fun x => later2_f x v).toList
/-- the first vote that a mixed one rests on -/
def mixFirst (all : List Vt) (v : Vt) : List Int → Vt
  | [] => vt0
  | i :: _ => (mix_g all v i).getD vt0
def mixDiff (all : List Vt) (v : Vt) (y : Vt) (i : Int) : Bool := (!decide (((mix_g all v i).getD vt0).choice = y.choice)) || (!decide (((mix_g all v i).getD vt0).value = y.value))
def mixed_n (all : List Vt) (v : Vt) : List Vt :=
  (ids_f v.support).filterMap (mix_g all v) ++
    (bif (ids_f v.support).any (mixDiff all v (mixFirst all v (ids_f v.support))) then [] else (all.find? fun x => mix2_f x v (mixFirst all v (ids_f v.support))).toList)
def expand_n (m : Int) (all : List Vt) (v : Vt) : List Vt :=
  bif decide (v.kind = 2) then (all.find? fun x => exp1_f x v).toList
  else (bif (decide (v.kind = 3)) && (decide (v.round = 1)) then sup_n all v 2 0
  else (bif decide (v.kind = 3) then later_n m all v
  else (bif (decide (v.kind = 4)) && (decide (v.choice = 2)) then mixed_n all v
  else (bif decide (v.kind = 4) then sup_n all v 3 v.round else []))))

theorem wants_one (ld lw : List (Vt × Int)) (o : Option Vt) : wants ld lw o.toList = wantO ld lw o := by cases o <;> rfl
theorem wants_append (ld lw : List (Vt × Int)) (a b : List Vt) : wants ld lw (a ++ b) = wants ld (wants ld lw a) b := by unfold wants; rw [List.foldl_append]
theorem wants_go {ld lw : List (Vt × Int)} {g : Int → Option Vt} {l : List Int} {k : Nat} (hk : k < l.length) : wants ld lw ((l.take (k + 1)).filterMap g) = wantO ld (wants ld lw ((l.take k).filterMap g)) (g l[k]!) := by
  have : [l[k]!].filterMap g = (g l[k]!).toList := by simp only [List.filterMap_cons, List.filterMap_nil]; cases g l[k]! <;> rfl
  rw [take_bang hk, List.filterMap_append, wants_append, ← wants_one, this]
theorem find_go {α : Type} [Inhabited α] {l : List α} {p : α → Bool} {k : Nat} {b : Option α} (h : (l.drop k).find? p = b) (hk : k < l.length) (hp : p l[k]! = false) : (l.drop (k + 1)).find? p = b := by
  rw [drop_bang hk, List.find?_cons, hp] at h; exact h
theorem find_hit {α : Type} [Inhabited α] {l : List α} {p : α → Bool} {k : Nat} {b : Option α} (h : (l.drop k).find? p = b) (hk : k < l.length) (hp : p l[k]! = true) : b = some l[k]! := by
  rw [drop_bang hk, List.find?_cons, hp] at h; exact h.symm
theorem find_end {α : Type} [Inhabited α] {l : List α} {p : α → Bool} {k : Nat} {b : Option α} (h : (l.drop k).find? p = b) (hk : l.length ≤ k) : b = none := by
  rw [List.drop_of_length_le hk] at h; exact h.symm
theorem la_none {all : List Vt} {v : Vt} {i : Int} (h : (!(all.find? fun x => later1_f x i v).isSome) = true) : (all.find? fun x => later1_f x i v) = none ∧ la_g all v i = lm_g all (v.round - 1) i := by
  have h0 : (all.find? fun x => later1_f x i v) = none := by
    cases hf : all.find? fun x => later1_f x i v with
    | none => rfl
    | some y => rw [hf] at h; cases h
  exact ⟨h0, by unfold la_g; rw [h0]⟩
theorem la_some {all : List Vt} {v : Vt} {i : Int} (h : (!(all.find? fun x => later1_f x i v).isSome) = false) : la_g all v i = all.find? fun x => later1_f x i v := by
  unfold la_g
  cases hf : all.find? fun x => later1_f x i v with
  | none => rw [hf] at h; cases h
  | some y => rfl
/-- committee.IDs lays its slice anew -/
theorem IDs_own {m : Int} {w : World} : Gives Try.prog 44 #[(.int .i64 m)] w fun u w' => (∃ (A : Option Addr) (c : Nat), u = .slice A (ids_f m).length c ∧ (ids_f m).length ≤ c ∧ Rd w' w.heap.size w'.heap.size A (ids_f m)) ∧ Ext w w' := by
  refine Calls.mono (callsIn_wide.1 (IDs_in m w)) ?_
  rintro e w' ⟨v, rfl, hr, hB⟩
  have hO : Go.Fk.Own w' w.heap.size 3 v (ids_f m) := by
    unfold Go.Fk.Own
    rw [flat_ints]
    exact hr
  obtain ⟨A, c, h1, h2, h3⟩ := hO.form
  exact ⟨v, rfl, ⟨A, c, h1, h3, h2⟩, hB⟩
theorem rd_farB {α : Type} [Enc α] {w w' : World} {lo hi b : Nat} {A : Option Addr} {l : List α} (h : Rd w lo hi A l) (hb : b < lo) (hg : w.grownBy w' (some b)) : Rd w' lo hi A l := ⟨h.1, fun hn => by
  obtain ⟨ad, e, h1, h2, hc⟩ := h.2 hn
  exact ⟨ad, e, h1, h2, fun k x hk => (hc k x hk).farx hg (by rw [add_block]; omega)⟩⟩
section
variable {all : List Vt} {v y Y : Vt} {k : Nat} {ld lw : List (Vt × Int)}
theorem mix_first (h0 : k = 0) (hk : k < (ids_f v.support).length) : ((all.find? fun x => mix1_f x (ids_f v.support)[k]! v).getD vt0) = mixFirst all v (ids_f v.support) := by
  subst h0
  cases h : ids_f v.support with
  | nil => rw [h] at hk; simp at hk
  | cons i r => rfl
theorem mix_last (hk : k = (ids_f v.support).length) (hy : (k = 0 ∧ y = vt0) ∨ (0 < k ∧ y = mixFirst all v (ids_f v.support))) : y = mixFirst all v (ids_f v.support) := by
  rcases hy with ⟨h1, h2⟩ | ⟨_, h2⟩
  · have : ids_f v.support = [] := List.eq_nil_of_length_eq_zero (by omega)
    rw [this, h2]; rfl
  · exact h2
theorem mix_go (hk : k < (ids_f v.support).length) (hy : Y = mixFirst all v (ids_f v.support)) :
    (((((ids_f v.support).take k).any (mixDiff all v (mixFirst all v (ids_f v.support)))) || (!decide (((all.find? fun x => mix1_f x (ids_f v.support)[k]! v).getD vt0).choice = Y.choice))) || (!decide (((all.find? fun x => mix1_f x (ids_f v.support)[k]! v).getD vt0).value = Y.value))) =
      ((ids_f v.support).take (k + 1)).any (mixDiff all v (mixFirst all v (ids_f v.support))) := by
  subst hy
  rw [take_bang hk, List.any_append, List.any_cons, List.any_nil, Bool.or_false, Bool.or_assoc]; rfl
theorem mix_finTrue (hd : (!(((ids_f v.support).take k).any (mixDiff all v (mixFirst all v (ids_f v.support))))) = true) (hk : k = (ids_f v.support).length) (hy : y = mixFirst all v (ids_f v.support)) :
    wants ld lw (mixed_n all v) = wantO ld (wants ld lw ((ids_f v.support).filterMap (mix_g all v))) (all.find? fun x => mix2_f x v y) := by
  subst hy
  rw [hk, List.take_length, Bool.not_eq_true'] at hd
  unfold mixed_n
  rw [hd, cond_false, wants_append, wants_one]
theorem mix_finFalse (hd : (!(((ids_f v.support).take k).any (mixDiff all v (mixFirst all v (ids_f v.support))))) = false) (hk : k = (ids_f v.support).length) :
    wants ld lw (mixed_n all v) = wants ld lw ((ids_f v.support).filterMap (mix_g all v)) := by
  rw [hk, List.take_length, Bool.not_eq_false'] at hd
  unfold mixed_n
  rw [hd, cond_true, List.append_nil]
end
end Go.Proofs.Ytdknjfmjddlphaa
