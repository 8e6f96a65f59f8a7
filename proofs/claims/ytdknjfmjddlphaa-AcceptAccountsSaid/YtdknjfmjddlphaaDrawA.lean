/-
  Drawn regions with a chain that only makes new memory: calls, new slices, appends to slices that the region itself has made. No program in sight.
-/
import Derived.Test.YtdknjfmjddlphaaMapUse
import Derived.Test.YtdknjfmjddlphaaAppends
set_option linter.unusedSectionVars false
set_option linter.unusedSimpArgs false
set_option linter.unusedVariables false
namespace Go.Fk
open Go Go.RowKit

def CObls (l : List Oper) (Pd : Nat → Nat → Oper → Prop) : Nat → List Nat → Prop
  | _, [] => True
  | k, c :: r => (∀ o, l[c]? = some o → Pd k c o) ∧ CObls l Pd (k + 1) r
theorem CObls.cons {l : List Oper} {Pd : Nat → Nat → Oper → Prop} {k c : Nat} {r : List Nat} (h : ∀ o, l[c]? = some o → Pd k c o) (hr : CObls l Pd (k + 1) r) : CObls l Pd k (c :: r) := ⟨h, hr⟩
theorem CObls.nil {l : List Oper} {Pd : Nat → Nat → Oper → Prop} {k : Nat} : CObls l Pd k [] := trivial
theorem CObls.get {l : List Oper} {Pd : Nat → Nat → Oper → Prop} : ∀ {ch : List Nat} {i k c : Nat} {o : Oper}, CObls l Pd i ch → ch[k]? = some c → l[c]? = some o → Pd (i + k) c o
  | [], _, _, _, _, _, hk, _ => by simp at hk
  | x :: r, i, 0, c, o, h, hk, hc => by simp at hk; subst hk; exact h.1 o hc
  | x :: r, i, k + 1, c, o, h, hk, hc => by
    simp only [List.getElem?_cons_succ] at hk
    have := CObls.get (k := k) h.2 hk hc
    rwa [show i + 1 + k = i + (k + 1) by omega] at this
def Sp.own {α : Type} [Enc α] (N : Nat) (e : TypeId) (l : List α) : Sp := ⟨fun u w => Own w N e u l, fun _ _ _ h hx => h.ext hx⟩

section
variable {P : Program} {N : Nat} {Q : Exit → Fr → World → Prop} {f : Fr} {w : World} {l : List Oper}
theorem W.drawA {id : Nat} (ch : List Nat) (st : List (List (Nat × Sp))) (V : List Value) (hm : P.follows .mixedOrders = true) (hok : drawOkC N l ch st = true) (h0 : stg st 0 = [])
    (hval : VObls ch (fun i o => ∀ f' w', Ext w w' → (∀ j, outside l j = true → f' j = f j) → (∀ j, inCh ch j = false → waits o j = true → slotF l.toArray f' j = vOf V j) →
      o.guard = none ∧ (execOp (evalF f') o).run P w' = .ok (.value (vOf V i)) w' ∧ o.dst.isSome = true) 0 l)
    (hchain : CObls l (fun k c o => ∀ f' w', Ext w w' → (∀ j, outside l j = true → f' j = f j) → (∀ j, inCh ch j = false → waits o j = true → slotF l.toArray f' j = vOf V j) → stageOk (stg st k) (slotF l.toArray f') w' →
      (Region.wanted o (yieldF l.toArray f') = true → OpS P o f' w' fun v w'' => Ext w w'' ∧ stageOk (stg st (k + 1)) (fun j => bif Nat.beq j c then v else slotF l.toArray f' j) w'') ∧
      (Region.wanted o (yieldF l.toArray f') = false → stageOk (stg st (k + 1)) (fun j => bif Nat.beq j c then undef else slotF l.toArray f' j) w')) 0 ch)
    (hfin : ∀ f' w', Ext w w' → (∀ j, outside l j = true → f' j = f j) → (∀ i, i < l.length → inCh ch i = false → slotF l.toArray f' i = vOf V i) → stageOk (stg st ch.length) (slotF l.toArray f') w' → Q .normal f' w') :
    W P N (.region id l.toArray true) Q f w := by
  refine W.drawC ch st (vOf V) none hm hok (fun s w' _ => by rw [h0]; trivial) ?_ ?_ fun f' w' hg ho hv hs => hfin f' w' (ext_of_grown hg) ho hv hs
  · intro i o ho hc f' w' hg hout hd hk
    have := VObls.get (i := 0) (k := i) hval ho (by rw [Nat.zero_add]; exact hc)
    rw [Nat.zero_add] at this
    obtain ⟨h1, h2, h3⟩ := this f' w' (ext_of_grown hg) hout hd
    exact ⟨fun _ => OpS.val h2 ⟨rfl, rfl⟩, fun hw => (by rw [Region.wanted, h1] at hw; cases hw), fun hn => by rw [hn] at h3; cases h3⟩
  · intro k c o hk hc f' w' hg hout hd hs
    have := CObls.get (i := 0) (k := k) hchain hk hc
    rw [Nat.zero_add] at this
    obtain ⟨q1, q0⟩ := this f' w' (ext_of_grown hg) hout hd hs
    exact ⟨fun hw => (q1 hw).mono fun v w'' ⟨e1, e2⟩ => ⟨ext_grown e1, e2⟩, q0⟩

theorem stage_push {st : List (Nat × Sp)} {s : Nat → Value} {w' : World} {c : Nat} {v : Value} {sp : Sp} (hs : stageOk st s w') (hne : (st.all fun x => !(Nat.beq x.1 c)) = true) (hv : sp.p v w') : stageOk ((c, sp) :: st) (fun j => bif Nat.beq j c then v else s j) w' := by
  refine ⟨by simpa using hv, hs.congr fun x hx => ?_⟩
  have := List.all_eq_true.1 hne x hx
  simp only [Bool.not_eq_true'] at this
  simp [this]
/-- the chain's operation adds memory, at most -/
theorem chain_ext {o : Oper} {f' : Fr} {w' : World} {st : List (Nat × Sp)} {s : Nat → Value} {c : Nat} {sp : Sp} {ops : Array Oper} (hg : Ext w w') (hs : stageOk st s w') (hgd : o.guard = none) (h : OpS P o f' w' fun v w'' => sp.p v w'' ∧ Ext w' w'') (hne : (st.all fun x => !(Nat.beq x.1 c)) = true) :
    (Region.wanted o (yieldF ops f') = true → OpS P o f' w' fun v w'' => Ext w w'' ∧ stageOk ((c, sp) :: st) (fun j => bif Nat.beq j c then v else s j) w'') ∧ (Region.wanted o (yieldF ops f') = false → stageOk ((c, sp) :: st) (fun j => bif Nat.beq j c then undef else s j) w') :=
  ⟨fun _ => h.mono fun v w'' ⟨h1, hx⟩ => ⟨hg.trans hx, stage_push (hs.ext hx) hne h1⟩, fun hw => by rw [Region.wanted, hgd] at hw; cases hw⟩
theorem chain_val {o : Oper} {f' : Fr} {w' : World} {st : List (Nat × Sp)} {s : Nat → Value} {c : Nat} {v : Value} {ops : Array Oper} (hg : Ext w w') (hs : stageOk st s w') (hgd : o.guard = none) (h : (execOp (evalF f') o).run P w' = .ok (.value v) w') (hne : (st.all fun x => !(Nat.beq x.1 c)) = true) :
    (Region.wanted o (yieldF ops f') = true → OpS P o f' w' fun v' w'' => Ext w w'' ∧ stageOk ((c, Sp.eq v) :: st) (fun j => bif Nat.beq j c then v' else s j) w'') ∧ (Region.wanted o (yieldF ops f') = false → stageOk ((c, Sp.eq v) :: st) (fun j => bif Nat.beq j c then undef else s j) w') :=
  chain_ext hg hs hgd (OpS.val h ⟨rfl, Ext.refl w'⟩) hne
theorem chain_guard {o : Oper} {f' : Fr} {w' : World} {st : List (Nat × Sp)} {s : Nat → Value} {c : Nat} {v : Value} {ops : Array Oper} {g : Bool} (hg : Ext w w') (hs : stageOk st s w') (hw : Region.wanted o (yieldF ops f') = g) (h : g = true → OpS P o f' w' fun u w'' => u = v ∧ Ext w' w'') (hne : (st.all fun x => !(Nat.beq x.1 c)) = true) :
    (Region.wanted o (yieldF ops f') = true → OpS P o f' w' fun v' w'' => Ext w w'' ∧ stageOk ((c, Sp.eq (vif g v)) :: st) (fun j => bif Nat.beq j c then v' else s j) w'') ∧ (Region.wanted o (yieldF ops f') = false → stageOk ((c, Sp.eq (vif g v)) :: st) (fun j => bif Nat.beq j c then undef else s j) w') :=
  ⟨fun hh => (h (hw.symm.trans hh)).mono fun v' w'' ⟨e, hx⟩ => ⟨hg.trans hx, stage_push (hs.ext hx) hne (e.trans (vif_t (hw.symm.trans hh)))⟩, fun hh => stage_push hs hne (vif_f (hw.symm.trans hh))⟩
/-- an append to a slice that the region itself has made -/
theorem chain_app {α : Type} [Enc α] {o : Oper} {f' : Fr} {w' : World} {s : Nat → Value} {c : Nat} {e : TypeId} {v : Value} {l1 l2 : List α} {ops : Array Oper} (hg : Ext w w') (hgd : o.guard = none) (hO : Own w' w.heap.size e v l1) (h : OpS P o f' w' fun v' w'' => Own w'' w.heap.size e v' l2 ∧ w'.grownBy w'' v.ownBlock) :
    (Region.wanted o (yieldF ops f') = true → OpS P o f' w' fun v' w'' => Ext w w'' ∧ stageOk [(c, Sp.own w.heap.size e l2)] (fun j => bif Nat.beq j c then v' else s j) w'') ∧ (Region.wanted o (yieldF ops f') = false → stageOk [(c, Sp.own w.heap.size e l2)] (fun j => bif Nat.beq j c then undef else s j) w') :=
  ⟨fun _ => h.mono fun v' w'' ⟨h1, hk⟩ => ⟨hg.own hO hk, stage_push (st := []) trivial rfl h1⟩, fun hw => by rw [Region.wanted, hgd] at hw; cases hw⟩
end
end Go.Fk
