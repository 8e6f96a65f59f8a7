/-
  What broadcast computes. No walk.
-/
import Derived.Test.YtdknjfmjddlphaaZd
set_option linter.unusedSimpArgs false
set_option linter.unusedVariables false
namespace Go.Proofs.Ytdknjfmjddlphaa
open Go Go.Fk

def slots_f (m : Int) (parent : Nm) (l : List Vt) (slot : Int) : List Vt := accepted_f m parent (l.filter fun x => decide (x.slot = slot))
def sgStep (kind : Int) (l : List (Nm × Int)) (v : Vt) : List (Nm × Int) := bif decide (v.kind = kind) then mput l v.value (ior (mget l v.value) (ishl 1 v.signer)) else l
def sgOf (kind : Int) (A : List Vt) : List (Nm × Int) := A.foldl (sgStep kind) []
def signers_f (m : Int) (parent : Nm) (l : List Vt) (slot kind : Int) : List (Nm × Int) := sgOf kind (slots_f m parent l slot)
def ascOut (n : Int) (p : Nm × Int) : Bool := (!decide (p.1 = Nm.zero)) && decide (n ≤ size_f p.2)
def ascending15_f (b : List (Nm × Int)) (n : Int) : List Nm := sorted hashLess_f ((b.filter (ascOut n)).map Prod.fst)
def proposals_f (m : Int) (parent : Nm) (l : List Vt) (slot : Int) : List Nm := ascending15_f (signers_f m parent l slot 1) 1
def certified_f (m : Int) (parent : Nm) (l : List Vt) (slot : Int) : List Nm := ascending15_f (signers_f m parent l slot 2) (quorum_f (size_f m))
def echoers_f (m : Int) (parent : Nm) (l : List Vt) (slot : Int) (value : Nm) : Int := mget (signers_f m parent l slot 2) value

theorem nm_lin : Lin hashLess_f := Lin.of_key (fun n => [num n]) 1 (fun _ => rfl) (fun x y h => by
  simp only [List.cons.injEq, and_true] at h
  exact num_inj h) (fun a b => by
  rw [hashLess_eq]
  simp only [lexl]
  by_cases h : num a = num b
  · simp [h]
  · simp [h])
theorem perm_sorted {α : Type} [DecidableEq α] [Inhabited α] {lt : α → α → Bool} (hl : Lin lt) {l M : List α} (hp : l.Perm M) (hM : M.Nodup) (ho : ∀ i j, i < j → j < l.length → lt l[j]! l[i]! = false) : l = sorted lt M := by
  have hn : l.Nodup := hp.nodup_iff.2 hM
  refine Asc.unique hl ?_ (sorted_asc hl M) fun z => by rw [sorted_mem]; exact hp.mem_iff
  unfold Asc
  rw [List.pairwise_iff_getElem]
  intro i j hi hj hij
  have h1 := ho i j hij hj
  rw [getElem!_pos l i hi, getElem!_pos l j hj] at h1
  cases h2 : lt l[i] l[j] with
  | true => rfl
  | false =>
    have := hl.total _ _ h2 h1
    have := (List.getElem_inj hn).1 this
    omega
theorem asc15_eq {b done : List (Nm × Int)} {n : Int} {ls : List Nm} (hb : (b.map Prod.fst).Nodup) (hd : done.Perm b) (hl : ls.Perm ((done.filter (ascOut n)).map Prod.fst)) (ho : ∀ i j, i < j → j < ls.length → hashLess_f ls[j]! ls[i]! = false) : ls = ascending15_f b n :=
  perm_sorted nm_lin (hl.trans ((hd.filter _).map _)) ((List.Sublist.map _ List.filter_sublist).nodup hb) ho
theorem sg_yes {kind : Int} {A : List Vt} {k : Nat} (hk : k < A.length) (h : decide (A[k]!.kind = kind) = true) :
    mput (sgOf kind (A.take k)) A[k]!.value (ior (mget (sgOf kind (A.take k)) A[k]!.value) (ishl 1 A[k]!.signer)) = sgOf kind (A.take (k + 1)) := by
  unfold sgOf
  rw [fold_go hk]
  conv => rhs; unfold sgStep
  rw [h]; rfl
theorem sg_no {kind : Int} {A : List Vt} {k : Nat} (hk : k < A.length) (h : decide (A[k]!.kind = kind) = false) : sgOf kind (A.take k) = sgOf kind (A.take (k + 1)) := by
  unfold sgOf
  rw [fold_go hk]
  conv => rhs; unfold sgStep
  rw [h]; rfl
theorem sgStep_len (kind : Int) (l : List (Nm × Int)) (v : Vt) : (sgStep kind l v).length ≤ l.length + 1 := by
  unfold sgStep
  cases decide (v.kind = kind)
  · simp
  · exact mput_len
theorem sg_len (kind : Int) : ∀ (A : List Vt) (l : List (Nm × Int)), (A.foldl (sgStep kind) l).length ≤ l.length + A.length
  | [], l => by simp
  | v :: t, l => by
    have h1 := sgStep_len kind l v
    have h2 := sg_len kind t (sgStep kind l v)
    rw [List.foldl_cons, List.length_cons]; omega
theorem signers_len (m : Int) (parent : Nm) (l : List Vt) (slot kind : Int) : (signers_f m parent l slot kind).length ≤ l.length := by
  have h1 := sg_len kind (slots_f m parent l slot) []
  have h2 := acc_len m parent (l.filter fun x => decide (x.slot = slot))
  have h3 := List.length_filter_le (fun x : Vt => decide (x.slot = slot)) l
  unfold signers_f sgOf
  unfold slots_f at h1 ⊢
  simp only [List.length_nil, Nat.zero_add] at h1
  omega
theorem sg_keys (kind : Int) : ∀ (A : List Vt) (l : List (Nm × Int)), (l.map Prod.fst).Nodup → ((A.foldl (sgStep kind) l).map Prod.fst).Nodup
  | [], l, h => h
  | v :: t, l, h => by
    rw [List.foldl_cons]
    refine sg_keys kind t _ ?_
    unfold sgStep
    cases decide (v.kind = kind)
    · exact h
    · exact mput_nodup h
theorem slots_sig (m : Int) (parent : Nm) (l : List Vt) (slot : Int) (k : Nat) (h : k < (slots_f m parent l slot).length) : 0 ≤ (slots_f m parent l slot)[k]!.signer ∧ (slots_f m parent l slot)[k]!.signer ≤ 9 := (acc_sig m parent _ k h).2
theorem slots_len (m : Int) (parent : Nm) (l : List Vt) (slot : Int) : (slots_f m parent l slot).length ≤ l.length := by
  have h2 := acc_len m parent (l.filter fun x => decide (x.slot = slot))
  have h3 := List.length_filter_le (fun x : Vt => decide (x.slot = slot)) l
  unfold slots_f; omega
theorem asc15_len (b : List (Nm × Int)) (n : Int) : (ascending15_f b n).length ≤ b.length := by
  unfold ascending15_f
  have h1 := sorted_len (lt := hashLess_f) ((b.filter (ascOut n)).map Prod.fst)
  have h2 := List.length_filter_le (ascOut n) b
  simp only [List.length_map] at h1
  omega
end Go.Proofs.Ytdknjfmjddlphaa
