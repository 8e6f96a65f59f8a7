/-
  More of drawn regions: operations outside the chain may add memory; guards that are known. No program in sight.
-/
import Derived.Test.YtdknjfmjddlphaaDrawX
import Derived.Test.YtdknjfmjddlphaaZa
set_option linter.unusedSectionVars false
set_option linter.unusedSimpArgs false
set_option linter.unusedVariables false
namespace Go.Fk
open Go Go.RowKit
section
variable {P : Program} {N : Nat} {Q : Exit → Fr → World → Prop} {f : Fr} {w : World}
theorem W.drawX {id : Nat} {l : List Oper} (ch : List Nat) (st : List (List (Nat × Sp))) (V : Nat → Value) (G : World → Prop) (hG0 : ∀ w', Ext w w' → G w') (hGx : ∀ w' w'', G w' → Ext w' w'' → G w'') (hm : P.follows .mixedOrders = true) (hok : drawOkC N l ch st = true)
    (h0 : ∀ s w', Ext w w' → stageOk (stg st 0) s w')
    (hval : ∀ i o, l[i]? = some o → inCh ch i = false → ∀ f' w', G w' → (∀ j, outside l j = true → f' j = f j) → (∀ j, inCh ch j = false → waits o j = true → slotF l.toArray f' j = V j) →
      (∃ k, k ≤ ch.length ∧ stageOk (stg st k) (slotF l.toArray f') w' ∧ ∀ j c, j < k → ch[j]? = some c → waitsAt l c i = false) →
      (Region.wanted o (yieldF l.toArray f') = true → OpS P o f' w' fun v w'' => v = V i ∧ Ext w' w'') ∧ (Region.wanted o (yieldF l.toArray f') = false → undef = V i) ∧ (o.dst = none → V i = undef))
    (hchain : ∀ k c o, ch[k]? = some c → l[c]? = some o → ∀ f' w', G w' → (∀ j, outside l j = true → f' j = f j) → (∀ j, inCh ch j = false → waits o j = true → slotF l.toArray f' j = V j) → stageOk (stg st k) (slotF l.toArray f') w' →
      (Region.wanted o (yieldF l.toArray f') = true → OpS P o f' w' fun v w'' => G w'' ∧ stageOk (stg st (k + 1)) (fun j => bif Nat.beq j c then v else slotF l.toArray f' j) w'') ∧
      (Region.wanted o (yieldF l.toArray f') = false → stageOk (stg st (k + 1)) (fun j => bif Nat.beq j c then undef else slotF l.toArray f' j) w'))
    (hfin : ∀ f' w', G w' → (∀ j, outside l j = true → f' j = f j) → (∀ i, i < l.length → inCh ch i = false → slotF l.toArray f' i = V i) → stageOk (stg st ch.length) (slotF l.toArray f') w' → Q .normal f' w') :
    W P N (.region id l.toArray true) Q f w := by
  unfold drawOkC at hok
  simp only [Bool.and_eq_true, decide_eq_true_eq] at hok
  obtain ⟨⟨⟨⟨⟨hok0, hnd⟩, hchn⟩, hchl⟩, hchw⟩, hst⟩ := hok
  have hch2 : ∀ k c c', ch[k]? = some c → ch[k + 1]? = some c' → waitsAt l c' c = true := by
    intro k c c' h1 h2
    have : (c, c') ∈ ch.zip (ch.drop 1) := by
      refine List.mem_of_getElem? (i := k) ?_
      rw [List.getElem?_zip_eq_some]
      exact ⟨h1, by rw [List.getElem?_drop, Nat.add_comm]; exact h2⟩
    exact List.all_eq_true.1 hchw _ this
  have hsts : ∀ k, ∀ x ∈ stg st k, inCh ch x.1 = true ∧ ∃ o, l[x.1]? = some o ∧ o.dst.isSome = true := by
    intro k x hx
    unfold stg at hx
    rw [List.getD_eq_getElem?_getD] at hx
    cases hk : st[k]? with
    | none => rw [hk] at hx; simp at hx
    | some s =>
      rw [hk] at hx
      have h1 := List.all_eq_true.1 hst s (List.mem_of_getElem? hk)
      have h2 := List.all_eq_true.1 h1 x (by simpa using hx)
      simp only [Bool.and_eq_true] at h2
      refine ⟨h2.1, ?_⟩
      cases ho : l[x.1]? with
      | none => rw [ho] at h2; simp at h2
      | some o => rw [ho] at h2; exact ⟨o, rfl, h2.2⟩
  refine W.drawI hm hok0 (fun Ls f' w' => G w' ∧ (∀ j, outside l j = true → f' j = f j) ∧ (∀ i o, l[i]? = some o → Ls i = true → ∀ e ∈ o.after, Region.binds .any e = true → Ls e.on = true) ∧
      (∀ i, i < l.length → inCh ch i = false → Ls i = true → slotF l.toArray f' i = V i) ∧ ∃ k, k ≤ ch.length ∧ (∀ j c, ch[j]? = some c → (Ls c = true ↔ j < k)) ∧ stageOk (stg st k) (slotF l.toArray f') w') ?_ ?_ ?_
  · refine ⟨hG0 _ (Ext.draw w), fun _ _ => rfl, fun _ _ _ h => by simp at h, fun _ _ _ h => by simp at h, 0, Nat.zero_le _, fun _ _ _ => by simp, h0 _ _ (Ext.draw w)⟩
  · intro Ls i o f' w' ho hi hw ⟨hg, hout, hcl, hv, k, hk, hks, hsk⟩
    have hil : i < l.length := (List.getElem?_eq_some_iff.1 ho).1
    have hwv : ∀ j, inCh ch j = false → waits o j = true → slotF l.toArray f' j = V j := fun j hj hwj => by
      obtain ⟨e, he, hb, rfl⟩ := of_waits hwj
      by_cases hjl : e.on < l.length
      · exact hv _ hjl hj (hw e he hb)
      · -- an edge leads back
        unfold drawOkI at hok0
        simp only [Bool.and_eq_true] at hok0
        have h1 := List.all_eq_true.1 hok0.1 (o, i) (by rw [List.mem_zipIdx_iff_getElem?]; exact ho)
        have h2 := List.all_eq_true.1 h1 e (by simpa using he)
        rw [hb] at h2
        simp at h2
        omega
    have hcl2 : ∀ i' o', l[i']? = some o' → setL Ls i i' = true → ∀ e ∈ o'.after, Region.binds .any e = true → setL Ls i e.on = true := by
      intro i' o' ho' hi' e he hb
      have hmono : ∀ j, Ls j = true → setL Ls i j = true := fun j hj => by
        by_cases hji : j = i
        · subst hji; exact setL_same _ _
        · rw [setL_ne _ hji]; exact hj
      by_cases hii : i' = i
      · subst hii
        rw [ho] at ho'; cases ho'
        exact hmono _ (hw e he hb)
      · rw [setL_ne _ hii] at hi'
        exact hmono _ (hcl i' o' ho' hi' e he hb)
    cases hc : inCh ch i with
    | false =>
      have hnoch : ∀ j c, j < k → ch[j]? = some c → waitsAt l c i = false := by
        intro j c hj hjc
        cases hwa : waitsAt l c i with
        | false => rfl
        | true =>
          exfalso
          unfold waitsAt at hwa
          cases hlc : l[c]? with
          | none => rw [hlc] at hwa; cases hwa
          | some oc =>
            rw [hlc] at hwa
            obtain ⟨e, he, hb, hei⟩ := of_waits hwa
            have := hcl c oc hlc ((hks j c hjc).2 hj) e he hb
            rw [hei, hi] at this
            cases this
      obtain ⟨q1, q0, qn⟩ := hval i o ho hc f' w' hg hout hwv ⟨k, hk, hsk, hnoch⟩
      have hnext : ∀ v w'', v = V i → Ext w' w'' → (G w'' ∧ (∀ j, outside l j = true → updo f' o.dst v j = f j) ∧ (∀ i' o', l[i']? = some o' → setL Ls i i' = true → ∀ e ∈ o'.after, Region.binds .any e = true → setL Ls i e.on = true) ∧
          (∀ i', i' < l.length → inCh ch i' = false → setL Ls i i' = true → slotF l.toArray (updo f' o.dst v) i' = V i') ∧ ∃ k, k ≤ ch.length ∧ (∀ j c, ch[j]? = some c → (setL Ls i c = true ↔ j < k)) ∧ stageOk (stg st k) (slotF l.toArray (updo f' o.dst v)) w'') := by
        intro v w'' hvv hxx
        refine ⟨hGx _ _ hg hxx, fun j hj => (outside_updo ho hj).trans (hout j hj), hcl2, fun i' hi' hc' hs' => ?_, k, hk, fun j c hjc => ?_, (hsk.ext hxx).congr fun x hx => ?_⟩
        · by_cases hii : i' = i
          · subst hii
            rw [slotF_self ho]
            cases hd : o.dst with
            | none => simp [qn hd]
            | some d => simpa using hvv
          · rw [setL_ne _ hii] at hs'
            rw [slotF_updo hnd ho _ _ hii]
            exact hv i' hi' hc' hs'
        · have : c ≠ i := by
            rintro rfl
            rw [inCh_iff.2 (List.mem_of_getElem? hjc)] at hc
            cases hc
          rw [setL_ne _ this]
          exact hks j c hjc
        · have : x.1 ≠ i := by
            intro e
            have := (hsts k x hx).1
            rw [e, hc] at this
            cases this
          exact slotF_updo hnd ho _ _ this
      exact ⟨fun hwt => (q1 hwt).mono fun v w'' ⟨e1, e2⟩ => hnext v w'' e1 e2, fun hwt => hnext undef w' (q0 hwt) (Ext.refl _)⟩
    | true =>
      obtain ⟨j, hj⟩ := List.getElem?_of_mem (inCh_iff.1 hc)
      have hjk : j = k := by
        rcases Nat.lt_or_ge j k with h | h
        · have := (hks j i hj).2 h
          rw [hi] at this; cases this
        · rcases Nat.lt_or_ge k j with h2 | h2
          · -- the one ahead is listed
            exfalso
            obtain ⟨c', hc'⟩ : ∃ c', ch[j - 1]? = some c' := by
              have : j < ch.length := (List.getElem?_eq_some_iff.1 hj).1
              exact ⟨_, List.getElem?_eq_getElem (by omega)⟩
            have hwa := hch2 (j - 1) c' i hc' (by rw [show j - 1 + 1 = j by omega]; exact hj)
            unfold waitsAt at hwa
            rw [ho] at hwa
            obtain ⟨e, he, hb, hei⟩ := of_waits hwa
            have h3 := hw e he hb
            rw [hei] at h3
            have := (hks (j - 1) c' hc').1 h3
            omega
          · omega
      subst hjk
      have hkl : j < ch.length := (List.getElem?_eq_some_iff.1 hj).1
      obtain ⟨q1, q0⟩ := hchain j i o hj ho f' w' hg hout hwv hsk
      have hnext : ∀ v w'', G w'' → stageOk (stg st (j + 1)) (fun m => bif Nat.beq m i then v else slotF l.toArray f' m) w'' → (G w'' ∧ (∀ j, outside l j = true → updo f' o.dst v j = f j) ∧ (∀ i' o', l[i']? = some o' → setL Ls i i' = true → ∀ e ∈ o'.after, Region.binds .any e = true → setL Ls i e.on = true) ∧
          (∀ i', i' < l.length → inCh ch i' = false → setL Ls i i' = true → slotF l.toArray (updo f' o.dst v) i' = V i') ∧ ∃ k, k ≤ ch.length ∧ (∀ j c, ch[j]? = some c → (setL Ls i c = true ↔ j < k)) ∧ stageOk (stg st k) (slotF l.toArray (updo f' o.dst v)) w'') := by
        intro v w'' hg'' hsv
        refine ⟨hg'', fun m hm => (outside_updo ho hm).trans (hout m hm), hcl2, fun i' hi' hc' hs' => ?_, j + 1, hkl, fun m c hmc => ?_, hsv.congr fun x hx => ?_⟩
        · have hii : i' ≠ i := by
            rintro rfl
            rw [hc] at hc'; cases hc'
          rw [setL_ne _ hii] at hs'
          rw [slotF_updo hnd ho _ _ hii]
          exact hv i' hi' hc' hs'
        · by_cases hci : c = i
          · subst hci
            rw [setL_same]
            have : m = j := by
              have h1 : m < ch.length := (List.getElem?_eq_some_iff.1 hmc).1
              exact (List.getElem?_inj h1 hchn).1 (by rw [hmc, hj])
            subst this
            simp
          · rw [setL_ne _ hci, hks m c hmc]
            constructor
            · omega
            · intro h
              have : m ≠ j := by
                rintro rfl
                rw [hj] at hmc; cases hmc; exact hci rfl
              omega
        · by_cases hxi : x.1 = i
          · obtain ⟨_, o', ho', hd'⟩ := hsts (j + 1) x hx
            rw [hxi] at ho'
            rw [ho] at ho'
            cases ho'
            rw [hxi, slotF_self ho, if_pos hd']
            simp
          · rw [slotF_updo hnd ho _ _ hxi]
            have : Nat.beq x.1 i = false := by
              cases hb : Nat.beq x.1 i with
              | false => rfl
              | true => exact absurd (Nat.eq_of_beq_eq_true hb) hxi
            simp [this]
      exact ⟨fun hwt => (q1 hwt).mono fun v w'' ⟨e1, e2⟩ => hnext v w'' e1 e2, fun hwt => hnext undef w' hg (q0 hwt)⟩
  · intro Ls f' w' hall ⟨hg, hout, hcl, hv, k, hk, hks, hsk⟩
    have hkk : k = ch.length := by
      rcases Nat.lt_or_ge k ch.length with h | h
      · exfalso
        have hck : ch[k]? = some ch[k] := List.getElem?_eq_getElem h
        have hcl : ch[k] < l.length := by
          have := List.all_eq_true.1 hchl ch[k] (List.getElem_mem h)
          simpa using this
        have := (hks k ch[k] hck).1 (hall _ hcl)
        omega
      · omega
    subst hkk
    exact hfin f' w' hg hout (fun i hi hc => hv i hi hc (hall i hi)) hsk

/-- a chain that makes new memory alone; all else has a value that is known, calls too -/
theorem W.drawY {id : Nat} {l : List Oper} (ch : List Nat) (st : List (List (Nat × Sp))) (V : List Value) (hm : P.follows .mixedOrders = true) (hok : drawOkC N l ch st = true) (h0 : stg st 0 = [])
    (hval : VObls ch (fun i o => ∀ f' w', Ext w w' → (∀ j, outside l j = true → f' j = f j) → (∀ j, inCh ch j = false → waits o j = true → slotF l.toArray f' j = vOf V j) →
      ((Region.wanted o (yieldF l.toArray f') = true → OpS P o f' w' fun u w'' => (Sp.eq (vOf V i)).p u w'' ∧ Ext w' w'') ∧ (Region.wanted o (yieldF l.toArray f') = false → (Sp.eq (vOf V i)).p undef w')) ∧ o.dst.isSome = true) 0 l)
    (hchain : CObls l (fun k c o => ∀ f' w', Ext w w' → (∀ j, outside l j = true → f' j = f j) → (∀ j, inCh ch j = false → waits o j = true → slotF l.toArray f' j = vOf V j) → stageOk (stg st k) (slotF l.toArray f') w' →
      (Region.wanted o (yieldF l.toArray f') = true → OpS P o f' w' fun v w'' => Ext w w'' ∧ stageOk (stg st (k + 1)) (fun j => bif Nat.beq j c then v else slotF l.toArray f' j) w'') ∧
      (Region.wanted o (yieldF l.toArray f') = false → stageOk (stg st (k + 1)) (fun j => bif Nat.beq j c then undef else slotF l.toArray f' j) w')) 0 ch)
    (hfin : ∀ f' w', Ext w w' → (∀ j, outside l j = true → f' j = f j) → (∀ i, i < l.length → inCh ch i = false → slotF l.toArray f' i = vOf V i) → stageOk (stg st ch.length) (slotF l.toArray f') w' → Q .normal f' w') :
    W P N (.region id l.toArray true) Q f w := by
  refine W.drawX ch st (vOf V) (fun w' => Ext w w') (fun _ h => h) (fun _ _ h hx => h.trans hx) hm hok (fun s w' _ => by rw [h0]; trivial) ?_ ?_ hfin
  · intro i o ho hc f' w' hg hout hd hk
    have := VObls.get (i := 0) (k := i) hval ho (by rw [Nat.zero_add]; exact hc)
    rw [Nat.zero_add] at this
    obtain ⟨⟨h1, h2⟩, h3⟩ := this f' w' hg hout hd
    exact ⟨h1, h2, fun hn => by rw [hn] at h3; cases h3⟩
  · intro k c o hk hc f' w' hg hout hd hs
    have := CObls.get (i := 0) (k := k) hchain hk hc
    rw [Nat.zero_add] at this
    exact this f' w' hg hout hd hs
theorem chain_extT {o : Oper} {f' : Fr} {w' : World} {st : List (Nat × Sp)} {s : Nat → Value} {c : Nat} {sp : Sp} {ops : Array Oper} (hg : Ext w w') (hs : stageOk st s w') (hw : Region.wanted o (yieldF ops f') = true) (h : OpS P o f' w' fun v w'' => sp.p v w'' ∧ Ext w' w'') (hne : (st.all fun x => !(Nat.beq x.1 c)) = true) :
    (Region.wanted o (yieldF ops f') = true → OpS P o f' w' fun v w'' => Ext w w'' ∧ stageOk ((c, sp) :: st) (fun j => bif Nat.beq j c then v else s j) w'') ∧ (Region.wanted o (yieldF ops f') = false → stageOk ((c, sp) :: st) (fun j => bif Nat.beq j c then undef else s j) w') :=
  ⟨fun _ => h.mono fun v w'' ⟨h1, hx⟩ => ⟨hg.trans hx, stage_push (hs.ext hx) hne h1⟩, fun hh => by rw [hw] at hh; cases hh⟩
theorem chain_appT {α : Type} [Enc α] {o : Oper} {f' : Fr} {w' : World} {s : Nat → Value} {c : Nat} {e : TypeId} {v : Value} {l1 l2 : List α} {ops : Array Oper} (hg : Ext w w') (hw : Region.wanted o (yieldF ops f') = true) (hO : Own w' w.heap.size e v l1) (h : OpS P o f' w' fun v' w'' => Own w'' w.heap.size e v' l2 ∧ w'.grownBy w'' v.ownBlock) :
    (Region.wanted o (yieldF ops f') = true → OpS P o f' w' fun v' w'' => Ext w w'' ∧ stageOk [(c, Sp.own w.heap.size e l2)] (fun j => bif Nat.beq j c then v' else s j) w'') ∧ (Region.wanted o (yieldF ops f') = false → stageOk [(c, Sp.own w.heap.size e l2)] (fun j => bif Nat.beq j c then undef else s j) w') :=
  ⟨fun _ => h.mono fun v' w'' ⟨h1, hk⟩ => ⟨hg.own hO hk, stage_push (st := []) trivial rfl h1⟩, fun hh => by rw [hw] at hh; cases hh⟩
end
end Go.Fk
