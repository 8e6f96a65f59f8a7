/-
  Layer 13: closures alone convict; votes beyond the closure do not matter. No walk.
-/
import Derived.Test.YtdknjfmjddlphaaLaw13
import Derived.Test.YtdknjfmjddlphaaTorn
set_option linter.unusedSimpArgs false
set_option linter.unusedVariables false
namespace Go.Proofs.Ytdknjfmjddlphaa
open Go Go.Fk

def torn13Step (x : Vt) (acc : Int) (y : Vt) : Int := bif conflict_f x y then ior acc (ishl 1 x.signer) else acc
theorem conflict_signer {x y : Vt} (h : conflict_f x y = true) : x.signer = y.signer := by
  unfold conflict_f sameKey_f at h
  simp only [Bool.and_eq_true, decide_eq_true_eq] at h
  simp_all
theorem torn13_eq (x : Vt) (acc : Int) (y : Vt) : torn13Step x acc y = torn17Step x acc y := by
  unfold torn13Step torn17Step
  cases hc : conflict_f x y with
  | false => rw [Bool.and_false]
  | true => rw [decide_eq_true (conflict_signer hc)]; rfl
theorem torn13_fold (a b : List Vt) : a.foldl (fun acc x => b.foldl (torn13Step x) acc) 0 = torn17_f a b := by
  unfold torn17_f
  have e : torn13Step = torn17Step := funext fun x => funext fun acc => funext fun y => torn13_eq x acc y
  rw [e]
theorem accounts13 {m : Int} {parent : Nm} {l mm : List Vt} {slot : Int} {i k : Nat} (hi : i < (outcomes_f m parent l slot).length) (hk : k < (outcomes_f m parent mm slot).length)
    (hne : ((decide (((outcomes_f m parent l slot)[i]!).choice = ((outcomes_f m parent mm slot)[k]!).choice)) && (decide (((outcomes_f m parent l slot)[i]!).value = ((outcomes_f m parent mm slot)[k]!).value))) = false) :
    (decide ((size_f (iand ((closure_f m parent l (outcomes_f m parent l slot)[i]!).foldl (fun acc x => (closure_f m parent mm (outcomes_f m parent mm slot)[k]!).foldl (torn13Step x) acc) 0) m)) < ((2 * (quorum_f (size_f m))) - (size_f m)))) = false := by
  have h1 := out_stands hi
  have h2 := out_stands hk
  have d1 := h1.dec
  have d2 := h2.dec
  rw [(out_at hi).2] at d1
  rw [(out_at hk).2] at d2
  have hval : ¬ (((outcomes_f m parent mm slot)[k]!).choice = ((outcomes_f m parent l slot)[i]!).choice ∧ ((outcomes_f m parent mm slot)[k]!).value = ((outcomes_f m parent l slot)[i]!).value) := fun ⟨e1, e2⟩ => by
    rw [e1, e2] at hne; simp at hne
  rw [torn13_fold, decide_eq_false_iff_not]
  have key := outcomes_unlike d1 d2 hval (t := has_f (iand (torn17_f (closure_f m parent l (outcomes_f m parent l slot)[i]!) (closure_f m parent mm (outcomes_f m parent mm slot)[k]!)) m)) fun j hj x hx y hy e1 e2 _ _ hc => by
    rw [has_iand, hj, Bool.and_true, has_torn17]
    exact ⟨x, (acc_sub hx).2, y, (acc_sub hy).2, e1.trans e2.symm, hc, e1.symm⟩
  have h3 := Int.le_trans key (cnt_le_size fun _ _ h => h)
  omega
theorem sheds1 (m : Int) (parent : Nm) (l : List Vt) (slot : Int) (i : Nat) (h : i < (outcomes_f m parent l slot).length) :
    ((!(decided_f m parent (closure_f m parent l (outcomes_f m parent l slot)[i]!) (outcomes_f m parent l slot)[i]!)) || (!(decide ((closure_f m parent l (outcomes_f m parent l slot)[i]!) = (closure_f m parent (closure_f m parent l (outcomes_f m parent l slot)[i]!) (outcomes_f m parent l slot)[i]!))))) = false := by
  have hs := out_stands h
  rw [decided_iff.2 hs.dec, hs.again]
  simp
theorem sheds2 (m : Int) (parent : Nm) (l mm : List Vt) (slot : Int) (i : Nat) (h : i < (outcomes_f m parent l slot).length) :
    decided_f m parent (([] ++ mm) ++ closure_f m parent l (outcomes_f m parent l slot)[i]!) (outcomes_f m parent l slot)[i]! = true := by
  have hs := out_stands h
  exact decided_iff.2 (outcomes_mono (fun x hx => List.mem_append_right _ hx) hs.dec)
end Go.Proofs.Ytdknjfmjddlphaa
