/-
  What accept.Outcomes and accept.Decided compute. No walk.
-/
import Derived.Test.YtdknjfmjddlphaaAccount
import Derived.Test.YtdknjfmjddlphaaMapTy
import Derived.Test.YtdknjfmjddlphaaMapUse
import Derived.Test.YtdknjfmjddlphaaAppends
import Derived.Test.YtdknjfmjddlphaaSrtUse
set_option linter.unusedSimpArgs false
set_option linter.unusedVariables false
namespace Go.Proofs.Ytdknjfmjddlphaa
open Go Go.Fk

/-- the votes of a slot -/
def own_f (slot : Int) (l : List Vt) : List Vt := l.filter fun x => decide (x.slot = slot) && decide (x.kind ≤ 4)
/-- what a Precommit is for -/
def ocOf (slot : Int) (v : Vt) : Oc := ⟨slot, v.round, v.choice, v.value⟩
def pcm (v : Vt) : Bool := decide (v.kind = 4) && !decide (v.choice = 2)
def byStep (slot : Int) (l : List (Oc × Int)) (v : Vt) : List (Oc × Int) := bif pcm v then mput l (ocOf slot v) (ior (mget l (ocOf slot v)) (ishl 1 v.signer)) else l
def by_f (slot : Int) (A : List Vt) : List (Oc × Int) := A.foldl (byStep slot) []
/-- the code's order of outcomes -/
def before_f (a b : Oc) : Bool := bif !decide (a.round = b.round) then decide (a.round < b.round) else (bif !decide (a.choice = b.choice) then decide (a.choice < b.choice) else hashLess_f a.value b.value)
def ockey (o : Oc) : List Int := [o.slot, o.round, o.choice, num o.value]
/-- the order of outcomes, the slot first -/
def ocLess (a b : Oc) : Bool := lexl (ockey a) (ockey b)
def outP (m : Int) (p : Oc × Int) : Bool := decide (quorum_f (size_f m) ≤ size_f p.2)
def outcomes_f (m : Int) (parent : Nm) (l : List Vt) (slot : Int) : List Oc := sorted ocLess (((by_f slot (accepted_f m parent (own_f slot l))).filter (outP m)).map Prod.fst)
def decided_f (m : Int) (parent : Nm) (l : List Vt) (o : Oc) : Bool := (outcomes_f m parent l o.slot).any fun d => decide (d = o)

theorem oc_lin : Lin ocLess := Lin.of_key ockey 4 (fun _ => rfl) (fun x y h => by
  simp only [ockey, List.cons.injEq, and_true] at h
  exact (Oc.ext_iff' x y).2 ⟨h.1, h.2.1, h.2.2.1, num_inj h.2.2.2⟩) (fun _ _ => rfl)
theorem before_key (a b : Oc) : before_f a b = lexl [a.round, a.choice, num a.value] [b.round, b.choice, num b.value] := by
  unfold before_f
  rw [hashLess_eq]
  simp only [lexl]
  by_cases h1 : a.round = b.round
  · by_cases h2 : a.choice = b.choice
    · by_cases h3 : num a.value = num b.value
      · simp [h1, h2, h3]
      · simp [h1, h2, h3]
    · simp [h1, h2]
  · simp [h1]
theorem before_swo : Go.Sort.SWO before_f where
  irrefl x := by rw [before_key]; exact lexl_irrefl _
  trans x y z h1 h2 := by rw [before_key] at h1 h2 ⊢; exact lexl_trans _ _ _ h1 h2
  ntrans x y z h1 h2 := by
    rw [before_key] at h1 h2 ⊢
    cases hc : lexl [x.round, x.choice, num x.value] [z.round, z.choice, num z.value] with
    | false => rfl
    | true =>
      cases h3 : lexl [y.round, y.choice, num y.value] [x.round, x.choice, num x.value] with
      | true => have := lexl_trans _ _ _ h3 hc; rw [h2] at this; cases this
      | false =>
        have := lexl_total [x.round, x.choice, num x.value] [y.round, y.choice, num y.value] (by simp) h1 h3
        rw [this, h2] at hc; cases hc
theorem before_same {a b : Oc} (h : a.slot = b.slot) : ocLess a b = before_f a b := by
  rw [before_key]
  unfold ocLess ockey
  simp [lexl, h]
/-- sorted by the code's order, in one slot: the sorted list -/
theorem oc_sorted {l M : List Oc} {slot : Int} (hp : l.Perm M) (hM : M.Nodup) (hs : ∀ o ∈ M, o.slot = slot) (ho : ∀ i j, i < j → j < l.length → before_f l[j]! l[i]! = false) : l = sorted ocLess M := by
  have hn : l.Nodup := hp.nodup_iff.2 hM
  refine Asc.unique oc_lin ?_ (sorted_asc oc_lin M) fun z => by rw [sorted_mem]; exact hp.mem_iff
  unfold Asc
  rw [List.pairwise_iff_getElem]
  intro i j hi hj hij
  have h1 := ho i j hij hj
  rw [getElem!_pos l i hi, getElem!_pos l j hj] at h1
  have hsl : l[i].slot = l[j].slot := (hs _ (hp.mem_iff.1 (List.getElem_mem hi))).trans (hs _ (hp.mem_iff.1 (List.getElem_mem hj))).symm
  rw [← before_same hsl.symm] at h1
  cases h2 : ocLess l[i] l[j] with
  | true => rfl
  | false =>
    have := oc_lin.total _ _ h2 h1
    have := (List.getElem_inj hn).1 this
    omega
theorem by_keys (slot : Int) : ∀ (A : List Vt) (l : List (Oc × Int)), (l.map Prod.fst).Nodup → (∀ p ∈ l, p.1.slot = slot) → ((A.foldl (byStep slot) l).map Prod.fst).Nodup ∧ ∀ p ∈ A.foldl (byStep slot) l, p.1.slot = slot
  | [], l, h1, h2 => ⟨h1, h2⟩
  | v :: t, l, h1, h2 => by
    rw [List.foldl_cons]
    have key : ((byStep slot l v).map Prod.fst).Nodup ∧ ∀ p ∈ byStep slot l v, p.1.slot = slot := by
      unfold byStep
      cases pcm v with
      | false => exact ⟨h1, h2⟩
      | true =>
        refine ⟨mput_nodup h1, fun p hp => ?_⟩
        rcases mput_mem.1 hp with rfl | ⟨_, hp⟩
        · rfl
        · exact h2 p hp
    exact by_keys slot t _ key.1 key.2
theorem byStep_len (slot : Int) (l : List (Oc × Int)) (v : Vt) : (byStep slot l v).length ≤ l.length + 1 := by
  unfold byStep
  cases pcm v
  · simp
  · exact mput_len
theorem by_len (slot : Int) : ∀ (A : List Vt) (l : List (Oc × Int)), (A.foldl (byStep slot) l).length ≤ l.length + A.length
  | [], l => by simp
  | v :: t, l => by
    have h1 := byStep_len slot l v
    have h2 := by_len slot t (byStep slot l v)
    rw [List.foldl_cons, List.length_cons]; omega
theorem acc_sig (m : Int) (parent : Nm) (l : List Vt) (k : Nat) (h : k < (accepted_f m parent l).length) : has_f m (accepted_f m parent l)[k]!.signer = true ∧ 0 ≤ (accepted_f m parent l)[k]!.signer ∧ (accepted_f m parent l)[k]!.signer ≤ 9 := by
  have hm : (accepted_f m parent l)[k]! ∈ accepted_f m parent l := by rw [getElem!_pos _ k h]; exact List.getElem_mem h
  have hg := allowed_guard (acc_mem_allowed hm)
  exact ⟨hg.2.2.1, (valid_bounds hg.1).2.1⟩
theorem by_yes {slot : Int} {A : List Vt} {k : Nat} (hk : k < A.length) (h : (decide (A[k]!.kind = 4) && !decide (A[k]!.choice = 2)) = true) :
    mput (by_f slot (A.take k)) (⟨slot, A[k]!.round, A[k]!.choice, A[k]!.value⟩ : Oc) (ior (mget (by_f slot (A.take k)) (⟨slot, A[k]!.round, A[k]!.choice, A[k]!.value⟩ : Oc)) (ishl 1 A[k]!.signer)) = by_f slot (A.take (k + 1)) := by
  unfold by_f
  rw [fold_go hk]
  conv => rhs; unfold byStep pcm
  rw [h]; rfl
theorem by_no {slot : Int} {A : List Vt} {k : Nat} (hk : k < A.length) (h : (decide (A[k]!.kind = 4) && !decide (A[k]!.choice = 2)) = false) : by_f slot (A.take k) = by_f slot (A.take (k + 1)) := by
  unfold by_f
  rw [fold_go hk]
  conv => rhs; unfold byStep pcm
  rw [h]; rfl
theorem outs_yes {K : Type} {keep : K × Int → Bool} {done : List (K × Int)} {p : K × Int} (h : keep p = true) : (done.filter keep).map Prod.fst ++ [p.1] = ((done ++ [p]).filter keep).map Prod.fst := by
  rw [List.filter_append, List.map_append, List.filter_cons, if_pos h]; rfl
theorem outs_no {K : Type} {keep : K × Int → Bool} {done : List (K × Int)} {p : K × Int} (h : keep p = false) : (done.filter keep).map Prod.fst = ((done ++ [p]).filter keep).map Prod.fst := by
  rw [List.filter_append, List.map_append, List.filter_cons, if_neg (by rw [h]; simp)]; simp
theorem outcomes_eq {m slot : Int} {A : List Vt} {done : List (Oc × Int)} {ls : List Oc} (hd : done.Perm (by_f slot A)) (hl : ls.Perm ((done.filter (outP m)).map Prod.fst)) (ho : ∀ i j, i < j → j < ls.length → before_f ls[j]! ls[i]! = false) : ls = sorted ocLess (((by_f slot A).filter (outP m)).map Prod.fst) := by
  have hk := by_keys slot A [] (by simp) (by simp)
  refine oc_sorted (slot := slot) (hl.trans ((hd.filter _).map _)) ((List.Sublist.map _ List.filter_sublist).nodup hk.1) (fun o ho => ?_) ho
  obtain ⟨p, hp, rfl⟩ := List.mem_map.1 ho
  exact hk.2 p (List.mem_filter.1 hp).1
end Go.Proofs.Ytdknjfmjddlphaa
