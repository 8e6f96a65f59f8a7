/-
  Drawn regions that read a slot which a later operation of the region writes. No program in sight.
-/
import Derived.Test.YtdknjfmjddlphaaDrawC
set_option linter.unusedSectionVars false
set_option linter.unusedSimpArgs false
set_option linter.unusedVariables false
namespace Go.Fk
open Go Go.RowKit

def dstAt (l : List Oper) (j : Nat) : Option Nat := (l[j]?).bind (·.dst)
def OblL (P : Program) (l : List Oper) (S : List Sp) (f : Fr) (w : World) (i : Nat) (o : Oper) : Prop :=
  ∀ (f' : Fr) (w' : World), Ext w w' → (∀ j, outside l j = true → f' j = f j) → (∀ j, waits o j = true → (spOf S j).p (slotF l.toArray f' j) w') → (∀ j d, dstAt l j = some d → waitsAt l j i = true → f' d = f d) →
    (Region.wanted o (yieldF l.toArray f') = true → OpS P o f' w' fun v w'' => (spOf S i).p v w'' ∧ Ext w' w'') ∧ (Region.wanted o (yieldF l.toArray f') = false → (spOf S i).p undef w')
def OblsL (P : Program) (l : List Oper) (S : List Sp) (f : Fr) (w : World) : Nat → List Oper → Prop
  | _, [] => True
  | i, o :: r => OblL P l S f w i o ∧ OblsL P l S f w (i + 1) r
section
variable {P : Program} {N : Nat} {Q : Exit → Fr → World → Prop} {f : Fr} {w : World} {l : List Oper} {S : List Sp} {i : Nat} {o : Oper} {r : List Oper}
theorem OblsL.cons (h : OblL P l S f w i o) (hr : OblsL P l S f w (i + 1) r) : OblsL P l S f w i (o :: r) := ⟨h, hr⟩
theorem OblsL.nil : OblsL P l S f w i [] := trivial
theorem OblsL.get {l0 : List Oper} : ∀ {l : List Oper} {i k : Nat} {o : Oper}, OblsL P l0 S f w i l → l[k]? = some o → OblL P l0 S f w (i + k) o
  | [], _, _, _, _, hk => by simp at hk
  | x :: l, i, 0, o, h, hk => by simp at hk; subst hk; exact h.1
  | x :: l, i, k + 1, o, h, hk => by
    simp only [List.getElem?_cons_succ] at hk
    have := OblsL.get h.2 hk
    rwa [show i + 1 + k = i + (k + 1) by omega] at this
def drawOkL (N : Nat) (l : List Oper) : Bool := drawOkI N l && decide ((l.filterMap (·.dst)).Nodup) && (l.all fun o => o.dst.isSome)
theorem W.drawL {id : Nat} (S : List Sp) (hm : P.follows .mixedOrders = true) (hok : drawOkL N l = true) (hobl : OblsL P l S f w 0 l)
    (hfin : ∀ (f' : Fr) (w' : World), Ext w w' → (∀ j, outside l j = true → f' j = f j) → (∀ i, i < l.length → (spOf S i).p (slotF l.toArray f' i) w') → Q .normal f' w') : W P N (.region id l.toArray true) Q f w := by
  unfold drawOkL at hok
  simp only [Bool.and_eq_true, decide_eq_true_eq] at hok
  obtain ⟨⟨hok0, hnd⟩, hsome⟩ := hok
  have hdst : ∀ (i : Nat) (o : Oper), l[i]? = some o → ∃ d, o.dst = some d := fun i o ho => by
    have := List.all_eq_true.1 hsome o (List.mem_of_getElem? ho)
    exact Option.isSome_iff_exists.1 this
  refine W.drawI hm hok0 (fun Ls f' w' => Ext w w' ∧ (∀ j, outside l j = true → f' j = f j) ∧ (∀ i o, l[i]? = some o → Ls i = true → ∀ e ∈ o.after, Region.binds .any e = true → Ls e.on = true) ∧
      (∀ i, i < l.length → Ls i = true → (spOf S i).p (slotF l.toArray f' i) w') ∧ (∀ j d, dstAt l j = some d → Ls j = false → f' d = f d)) ?_ ?_ ?_
  · exact ⟨Ext.draw w, fun _ _ => rfl, fun _ _ _ h => by simp at h, fun _ _ h => by simp at h, fun _ _ _ _ => rfl⟩
  · intro Ls i o f' w' ho hi hw ⟨hx, hout, hcl, hv, hl⟩
    have hil : i < l.length := (List.getElem?_eq_some_iff.1 ho).1
    have hwv : ∀ j, waits o j = true → (spOf S j).p (slotF l.toArray f' j) w' := fun j hwj => by
      obtain ⟨e, he, hb, rfl⟩ := of_waits hwj
      by_cases hjl : e.on < l.length
      · exact hv _ hjl (hw e he hb)
      · unfold drawOkI at hok0
        simp only [Bool.and_eq_true] at hok0
        have h1 := List.all_eq_true.1 hok0.1 (o, i) (by rw [List.mem_zipIdx_iff_getElem?]; exact ho)
        have h2 := List.all_eq_true.1 h1 e (by simpa using he)
        rw [hb] at h2
        simp at h2
        omega
    have hlate : ∀ j d, dstAt l j = some d → waitsAt l j i = true → f' d = f d := fun j d hd hwj => by
      refine hl j d hd ?_
      cases hj : Ls j with
      | false => rfl
      | true =>
        exfalso
        unfold waitsAt at hwj
        cases hlj : l[j]? with
        | none => rw [hlj] at hwj; cases hwj
        | some oj =>
          rw [hlj] at hwj
          obtain ⟨e, he, hb, hei⟩ := of_waits hwj
          have := hcl j oj hlj hj e he hb
          rw [hei, hi] at this
          cases this
    have hO := OblsL.get (i := 0) (k := i) hobl ho
    rw [Nat.zero_add] at hO
    obtain ⟨q1, q0⟩ := hO f' w' hx hout hwv hlate
    have hcl2 : ∀ i' o', l[i']? = some o' → setL Ls i i' = true → ∀ e ∈ o'.after, Region.binds .any e = true → setL Ls i e.on = true := by
      intro i' o' ho' hi' e he hb
      have hmono : ∀ j, Ls j = true → setL Ls i j = true := fun j hj => by
        by_cases hji : j = i
        · subst hji; exact setL_same _ _
        · rw [setL_ne _ hji]; exact hj
      by_cases hii : i' = i
      · subst hii
        rw [ho] at ho'; cases ho'
        exact hmono _ (hw e he hb)
      · rw [setL_ne _ hii] at hi'
        exact hmono _ (hcl i' o' ho' hi' e he hb)
    have hnext : ∀ v w'', (spOf S i).p v w'' → Ext w' w'' → (Ext w w'' ∧ (∀ j, outside l j = true → updo f' o.dst v j = f j) ∧ (∀ i' o', l[i']? = some o' → setL Ls i i' = true → ∀ e ∈ o'.after, Region.binds .any e = true → setL Ls i e.on = true) ∧
        (∀ i', i' < l.length → setL Ls i i' = true → (spOf S i').p (slotF l.toArray (updo f' o.dst v) i') w'') ∧ (∀ j d, dstAt l j = some d → setL Ls i j = false → updo f' o.dst v d = f d)) := by
      intro v w'' hp hx2
      refine ⟨hx.trans hx2, fun j hj => (outside_updo ho hj).trans (hout j hj), hcl2, fun i' hi' hs' => ?_, fun j d hd hs' => ?_⟩
      · by_cases hii : i' = i
        · subst hii
          obtain ⟨d, hd⟩ := hdst i' o ho
          rw [slotF_self ho, hd]
          exact hp
        · rw [setL_ne _ hii] at hs'
          rw [slotF_updo hnd ho _ _ hii]
          exact (spOf S i').mono _ _ _ (hv i' hi' hs') hx2
      · have hji : j ≠ i := by
          rintro rfl
          rw [setL_same] at hs'; cases hs'
        rw [setL_ne _ hji] at hs'
        have h1 := hl j d hd hs'
        have h2 := slotF_updo hnd ho f' v hji
        unfold dstAt at hd
        cases hlj : l[j]? with
        | none => rw [hlj] at hd; cases hd
        | some oj =>
          rw [hlj] at hd
          simp only [Option.bind_some] at hd
          have e1 : ∀ g : Fr, slotF l.toArray g j = g d := fun g => by
            unfold slotF
            have : l.toArray[j]? = some oj := by simp [hlj]
            rw [this]
            simp only [Option.bind_some, hd]
          rw [e1, e1] at h2
          rw [h2, h1]
    exact ⟨fun hwt => (q1 hwt).mono fun v w'' ⟨h1, h2⟩ => hnext v w'' h1 h2, fun hwt => hnext undef w' (q0 hwt) (Ext.refl w')⟩
  · intro Ls f' w' hall ⟨hx, hout, hcl, hv, hl⟩
    exact hfin f' w' hx hout fun i hi => hv i hi (hall i hi)
end
end Go.Fk
