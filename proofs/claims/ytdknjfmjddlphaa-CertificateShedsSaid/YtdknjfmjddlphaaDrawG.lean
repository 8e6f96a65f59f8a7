/-
  Drawn regions with a chain that changes memory, in general; one that ends in a change of a map. No program in sight.
-/
import Derived.Test.YtdknjfmjddlphaaZa
set_option linter.unusedSectionVars false
set_option linter.unusedSimpArgs false
set_option linter.unusedVariables false
namespace Go.Fk
open Go Go.RowKit
section
variable {P : Program} {N : Nat} {Q : Exit → Fr → World → Prop} {f : Fr} {w : World}
/-- THE RULE, with what the chain keeps given by a predicate. -/
theorem W.drawG {id : Nat} {l : List Oper} (ch : List Nat) (st : List (List (Nat × Sp))) (V : Nat → Value) (G : World → Prop) (hG0 : ∀ w', Ext w w' → G w') (hm : P.follows .mixedOrders = true) (hok : drawOkC N l ch st = true)
    (h0 : ∀ s w', Ext w w' → stageOk (stg st 0) s w')
    (hval : ∀ i o, l[i]? = some o → inCh ch i = false → ∀ f' w', G w' → (∀ j, outside l j = true → f' j = f j) → (∀ j, inCh ch j = false → waits o j = true → slotF l.toArray f' j = V j) →
      (∃ k, k ≤ ch.length ∧ stageOk (stg st k) (slotF l.toArray f') w' ∧ ∀ j c, j < k → ch[j]? = some c → waitsAt l c i = false) →
      (Region.wanted o (yieldF l.toArray f') = true → OpS P o f' w' fun v w'' => v = V i ∧ w'' = w') ∧ (Region.wanted o (yieldF l.toArray f') = false → undef = V i) ∧ (o.dst = none → V i = undef))
    (hchain : ∀ k c o, ch[k]? = some c → l[c]? = some o → ∀ f' w', G w' → (∀ j, outside l j = true → f' j = f j) → (∀ j, inCh ch j = false → waits o j = true → slotF l.toArray f' j = V j) → stageOk (stg st k) (slotF l.toArray f') w' →
      (Region.wanted o (yieldF l.toArray f') = true → OpS P o f' w' fun v w'' => G w'' ∧ stageOk (stg st (k + 1)) (fun j => bif Nat.beq j c then v else slotF l.toArray f' j) w'') ∧
      (Region.wanted o (yieldF l.toArray f') = false → stageOk (stg st (k + 1)) (fun j => bif Nat.beq j c then undef else slotF l.toArray f' j) w'))
    (hfin : ∀ f' w', G w' → (∀ j, outside l j = true → f' j = f j) → (∀ i, i < l.length → inCh ch i = false → slotF l.toArray f' i = V i) → stageOk (stg st ch.length) (slotF l.toArray f') w' → Q .normal f' w') :
    W P N (.region id l.toArray true) Q f w := by
  unfold drawOkC at hok
  simp only [Bool.and_eq_true, decide_eq_true_eq] at hok
  obtain ⟨⟨⟨⟨⟨hok0, hnd⟩, hchn⟩, hchl⟩, hchw⟩, hst⟩ := hok
  have hch2 : ∀ k c c', ch[k]? = some c → ch[k + 1]? = some c' → waitsAt l c' c = true := by
    intro k c c' h1 h2
    have : (c, c') ∈ ch.zip (ch.drop 1) := by
      refine List.mem_of_getElem? (i := k) ?_
      rw [List.getElem?_zip_eq_some]
      exact ⟨h1, by rw [List.getElem?_drop, Nat.add_comm]; exact h2⟩
    exact List.all_eq_true.1 hchw _ this
  have hsts : ∀ k, ∀ x ∈ stg st k, inCh ch x.1 = true ∧ ∃ o, l[x.1]? = some o ∧ o.dst.isSome = true := by
    intro k x hx
    unfold stg at hx
    rw [List.getD_eq_getElem?_getD] at hx
    cases hk : st[k]? with
    | none => rw [hk] at hx; simp at hx
    | some s =>
      rw [hk] at hx
      have h1 := List.all_eq_true.1 hst s (List.mem_of_getElem? hk)
      have h2 := List.all_eq_true.1 h1 x (by simpa using hx)
      simp only [Bool.and_eq_true] at h2
      refine ⟨h2.1, ?_⟩
      cases ho : l[x.1]? with
      | none => rw [ho] at h2; simp at h2
      | some o => rw [ho] at h2; exact ⟨o, rfl, h2.2⟩
  refine W.drawI hm hok0 (fun Ls f' w' => G w' ∧ (∀ j, outside l j = true → f' j = f j) ∧ (∀ i o, l[i]? = some o → Ls i = true → ∀ e ∈ o.after, Region.binds .any e = true → Ls e.on = true) ∧
      (∀ i, i < l.length → inCh ch i = false → Ls i = true → slotF l.toArray f' i = V i) ∧ ∃ k, k ≤ ch.length ∧ (∀ j c, ch[j]? = some c → (Ls c = true ↔ j < k)) ∧ stageOk (stg st k) (slotF l.toArray f') w') ?_ ?_ ?_
  · refine ⟨hG0 _ (Ext.draw w), fun _ _ => rfl, fun _ _ _ h => by simp at h, fun _ _ _ h => by simp at h, 0, Nat.zero_le _, fun _ _ _ => by simp, h0 _ _ (Ext.draw w)⟩
  · intro Ls i o f' w' ho hi hw ⟨hg, hout, hcl, hv, k, hk, hks, hsk⟩
    have hil : i < l.length := (List.getElem?_eq_some_iff.1 ho).1
    have hwv : ∀ j, inCh ch j = false → waits o j = true → slotF l.toArray f' j = V j := fun j hj hwj => by
      obtain ⟨e, he, hb, rfl⟩ := of_waits hwj
      by_cases hjl : e.on < l.length
      · exact hv _ hjl hj (hw e he hb)
      · -- an edge leads back
        unfold drawOkI at hok0
        simp only [Bool.and_eq_true] at hok0
        have h1 := List.all_eq_true.1 hok0.1 (o, i) (by rw [List.mem_zipIdx_iff_getElem?]; exact ho)
        have h2 := List.all_eq_true.1 h1 e (by simpa using he)
        rw [hb] at h2
        simp at h2
        omega
    have hcl2 : ∀ i' o', l[i']? = some o' → setL Ls i i' = true → ∀ e ∈ o'.after, Region.binds .any e = true → setL Ls i e.on = true := by
      intro i' o' ho' hi' e he hb
      have hmono : ∀ j, Ls j = true → setL Ls i j = true := fun j hj => by
        by_cases hji : j = i
        · subst hji; exact setL_same _ _
        · rw [setL_ne _ hji]; exact hj
      by_cases hii : i' = i
      · subst hii
        rw [ho] at ho'; cases ho'
        exact hmono _ (hw e he hb)
      · rw [setL_ne _ hii] at hi'
        exact hmono _ (hcl i' o' ho' hi' e he hb)
    cases hc : inCh ch i with
    | false =>
      have hnoch : ∀ j c, j < k → ch[j]? = some c → waitsAt l c i = false := by
        intro j c hj hjc
        cases hwa : waitsAt l c i with
        | false => rfl
        | true =>
          exfalso
          unfold waitsAt at hwa
          cases hlc : l[c]? with
          | none => rw [hlc] at hwa; cases hwa
          | some oc =>
            rw [hlc] at hwa
            obtain ⟨e, he, hb, hei⟩ := of_waits hwa
            have := hcl c oc hlc ((hks j c hjc).2 hj) e he hb
            rw [hei, hi] at this
            cases this
      obtain ⟨q1, q0, qn⟩ := hval i o ho hc f' w' hg hout hwv ⟨k, hk, hsk, hnoch⟩
      have hnext : ∀ v, v = V i → (G w' ∧ (∀ j, outside l j = true → updo f' o.dst v j = f j) ∧ (∀ i' o', l[i']? = some o' → setL Ls i i' = true → ∀ e ∈ o'.after, Region.binds .any e = true → setL Ls i e.on = true) ∧
          (∀ i', i' < l.length → inCh ch i' = false → setL Ls i i' = true → slotF l.toArray (updo f' o.dst v) i' = V i') ∧ ∃ k, k ≤ ch.length ∧ (∀ j c, ch[j]? = some c → (setL Ls i c = true ↔ j < k)) ∧ stageOk (stg st k) (slotF l.toArray (updo f' o.dst v)) w') := by
        intro v hvv
        refine ⟨hg, fun j hj => (outside_updo ho hj).trans (hout j hj), hcl2, fun i' hi' hc' hs' => ?_, k, hk, fun j c hjc => ?_, hsk.congr fun x hx => ?_⟩
        · by_cases hii : i' = i
          · subst hii
            rw [slotF_self ho]
            cases hd : o.dst with
            | none => simp [qn hd]
            | some d => simpa using hvv
          · rw [setL_ne _ hii] at hs'
            rw [slotF_updo hnd ho _ _ hii]
            exact hv i' hi' hc' hs'
        · have : c ≠ i := by
            rintro rfl
            rw [inCh_iff.2 (List.mem_of_getElem? hjc)] at hc
            cases hc
          rw [setL_ne _ this]
          exact hks j c hjc
        · have : x.1 ≠ i := by
            intro e
            have := (hsts k x hx).1
            rw [e, hc] at this
            cases this
          exact slotF_updo hnd ho _ _ this
      exact ⟨fun hwt => (q1 hwt).mono fun v w'' ⟨e1, e2⟩ => by subst e2; exact hnext v e1, fun hwt => hnext undef (q0 hwt)⟩
    | true =>
      obtain ⟨j, hj⟩ := List.getElem?_of_mem (inCh_iff.1 hc)
      have hjk : j = k := by
        rcases Nat.lt_or_ge j k with h | h
        · have := (hks j i hj).2 h
          rw [hi] at this; cases this
        · rcases Nat.lt_or_ge k j with h2 | h2
          · -- the one ahead is listed
            exfalso
            obtain ⟨c', hc'⟩ : ∃ c', ch[j - 1]? = some c' := by
              have : j < ch.length := (List.getElem?_eq_some_iff.1 hj).1
              exact ⟨_, List.getElem?_eq_getElem (by omega)⟩
            have hwa := hch2 (j - 1) c' i hc' (by rw [show j - 1 + 1 = j by omega]; exact hj)
            unfold waitsAt at hwa
            rw [ho] at hwa
            obtain ⟨e, he, hb, hei⟩ := of_waits hwa
            have h3 := hw e he hb
            rw [hei] at h3
            have := (hks (j - 1) c' hc').1 h3
            omega
          · omega
      subst hjk
      have hkl : j < ch.length := (List.getElem?_eq_some_iff.1 hj).1
      obtain ⟨q1, q0⟩ := hchain j i o hj ho f' w' hg hout hwv hsk
      have hnext : ∀ v w'', G w'' → stageOk (stg st (j + 1)) (fun m => bif Nat.beq m i then v else slotF l.toArray f' m) w'' → (G w'' ∧ (∀ j, outside l j = true → updo f' o.dst v j = f j) ∧ (∀ i' o', l[i']? = some o' → setL Ls i i' = true → ∀ e ∈ o'.after, Region.binds .any e = true → setL Ls i e.on = true) ∧
          (∀ i', i' < l.length → inCh ch i' = false → setL Ls i i' = true → slotF l.toArray (updo f' o.dst v) i' = V i') ∧ ∃ k, k ≤ ch.length ∧ (∀ j c, ch[j]? = some c → (setL Ls i c = true ↔ j < k)) ∧ stageOk (stg st k) (slotF l.toArray (updo f' o.dst v)) w'') := by
        intro v w'' hg'' hsv
        refine ⟨hg'', fun m hm => (outside_updo ho hm).trans (hout m hm), hcl2, fun i' hi' hc' hs' => ?_, j + 1, hkl, fun m c hmc => ?_, hsv.congr fun x hx => ?_⟩
        · have hii : i' ≠ i := by
            rintro rfl
            rw [hc] at hc'; cases hc'
          rw [setL_ne _ hii] at hs'
          rw [slotF_updo hnd ho _ _ hii]
          exact hv i' hi' hc' hs'
        · by_cases hci : c = i
          · subst hci
            rw [setL_same]
            have : m = j := by
              have h1 : m < ch.length := (List.getElem?_eq_some_iff.1 hmc).1
              exact (List.getElem?_inj h1 hchn).1 (by rw [hmc, hj])
            subst this
            simp
          · rw [setL_ne _ hci, hks m c hmc]
            constructor
            · omega
            · intro h
              have : m ≠ j := by
                rintro rfl
                rw [hj] at hmc; cases hmc; exact hci rfl
              omega
        · by_cases hxi : x.1 = i
          · obtain ⟨_, o', ho', hd'⟩ := hsts (j + 1) x hx
            rw [hxi] at ho'
            rw [ho] at ho'
            cases ho'
            rw [hxi, slotF_self ho, if_pos hd']
            simp
          · rw [slotF_updo hnd ho _ _ hxi]
            have : Nat.beq x.1 i = false := by
              cases hb : Nat.beq x.1 i with
              | false => rfl
              | true => exact absurd (Nat.eq_of_beq_eq_true hb) hxi
            simp [this]
      exact ⟨fun hwt => (q1 hwt).mono fun v w'' ⟨e1, e2⟩ => hnext v w'' e1 e2, fun hwt => hnext undef w' hg (q0 hwt)⟩
  · intro Ls f' w' hall ⟨hg, hout, hcl, hv, k, hk, hks, hsk⟩
    have hkk : k = ch.length := by
      rcases Nat.lt_or_ge k ch.length with h | h
      · exfalso
        have hck : ch[k]? = some ch[k] := List.getElem?_eq_getElem h
        have hcl : ch[k] < l.length := by
          have := List.all_eq_true.1 hchl ch[k] (List.getElem_mem h)
          simpa using this
        have := (hks k ch[k] hck).1 (hall _ hcl)
        omega
      · omega
    subst hkk
    exact hfin f' w' hg hout (fun i hi hc => hv i hi hc (hall i hi)) hsk

variable {K : Type} [Enc K] [DecidableEq K]
def Sp.vm (v : Value) (b : Nat) (l : List (K × Int)) : Sp := ⟨fun u w => u = v ∧ Mp w b l, fun _ _ _ h hx => ⟨h.1, h.2.ext hx⟩⟩
/-- a drawn region that ends in a change of the map in block b; ld: the operation that finds the map -/
theorem W.drawM {id : Nat} {ops : List Oper} {ld es : Nat} {vld : Value} {b : Nat} {l l' : List (K × Int)} (V : List Value) (hm : P.follows .mixedOrders = true)
    (hok : drawOkC N ops [ld, es] [[(ld, Sp.mp b l)], [(ld, Sp.vm vld b l)], [(ld, Sp.mp b l')]] = true) (hM : Mp w b l)
    (hval : VObls [ld, es] (fun i o => ∀ f' w', w.grownBy w' (some b) → (∀ j, outside ops j = true → f' j = f j) → (∀ j, inCh [ld, es] j = false → waits o j = true → slotF ops.toArray f' j = vOf V j) →
      o.guard = none ∧ (execOp (evalF f') o).run P w' = .ok (.value (vOf V i)) w' ∧ o.dst.isSome = true) 0 ops)
    {old oes : Oper} {d : Nat} (qld : ops[ld]? = some old) (qes : ops[es]? = some oes) (gld : old.guard = none) (ges : oes.guard = none) (dld : old.dst = some d)
    (hld : ∀ f' w', w.grownBy w' (some b) → (∀ j, outside ops j = true → f' j = f j) → (∀ j, inCh [ld, es] j = false → waits old j = true → slotF ops.toArray f' j = vOf V j) → (execOp (evalF f') old).run P w' = .ok (.value vld) w')
    (hes : ∀ f' w', w.grownBy w' (some b) → (∀ j, outside ops j = true → f' j = f j) → (∀ j, inCh [ld, es] j = false → waits oes j = true → slotF ops.toArray f' j = vOf V j) → f' d = vld → Mp w' b l → OpS P oes f' w' fun _ w'' => Mp w'' b l' ∧ w'.grownBy w'' (some b))
    (hfin : ∀ f' w', w.grownBy w' (some b) → (∀ j, outside ops j = true → f' j = f j) → (∀ i, i < ops.length → inCh [ld, es] i = false → slotF ops.toArray f' i = vOf V i) → Mp w' b l' → Q .normal f' w') :
    W P N (.region id ops.toArray true) Q f w := by
  have nog : ∀ {o : Oper} {g : Nat → Option Bool}, o.guard = none → Region.wanted o g = true := fun h => by rw [Region.wanted, h]
  have hsl : ∀ f' : Fr, slotF ops.toArray f' ld = f' d := fun f' => by
    unfold slotF
    have : ops.toArray[ld]? = some old := by simp [qld]
    rw [this]; simp [dld]
  refine W.drawC [ld, es] [[(ld, Sp.mp b l)], [(ld, Sp.vm vld b l)], [(ld, Sp.mp b l')]] (vOf V) (some b) hm hok (fun s w' hx => ⟨hM.ext hx, trivial⟩) ?_ ?_ ?_
  · intro i o ho hc f' w' hg hout hd hk
    have := VObls.get (i := 0) (k := i) hval ho (by rw [Nat.zero_add]; exact hc)
    rw [Nat.zero_add] at this
    obtain ⟨h1, h2, h3⟩ := this f' w' hg hout hd
    exact ⟨fun _ => OpS.val h2 ⟨rfl, rfl⟩, fun hw => (by rw [nog h1] at hw; cases hw), fun hn => by rw [hn] at h3; cases h3⟩
  · intro k c o hk hc f' w' hg hout hd hs
    match k, hk with
    | 0, hk =>
      simp at hk; subst hk
      rw [qld] at hc; cases hc
      exact ⟨fun _ => OpS.val (hld f' w' hg hout hd) ⟨hg, ⟨by show (bif Nat.beq _ _ then _ else _) = _; rw [Nat.beq_refl]; rfl, hs.1⟩, trivial⟩, fun hw => by rw [nog gld] at hw; cases hw⟩
    | 1, hk =>
      simp at hk; subst hk
      rw [qes] at hc; cases hc
      obtain ⟨⟨h1, h2⟩, _⟩ := hs
      refine ⟨fun _ => (hes f' w' hg hout hd ((hsl f').symm.trans h1) h2).mono ?_, fun hw => by rw [nog ges] at hw; cases hw⟩
      rintro u w'' ⟨hM2, hg2⟩
      exact ⟨grown_trans hg hg2, hM2, trivial⟩
    | k + 2, hk => simp at hk
  · intro f' w' hg hout hv hs
    exact hfin f' w' hg hout hv hs.1
/-- a function's first result in a cell -/
theorem end_ret2c {fn : Func} {R : Value → World → Prop} {α : Type} [Enc α] {a t : Tmp} {u : TypeId} {p : Addr} {x : α} {v' : Value} (h : fn.results = #[.cell a u, .tmp t]) (T : TyEnc P u α) (ha : f a = .pointer (some p)) (hc : Cells w p (Enc.cells x)) (hv' : f t = v') (hR : R (.tuple #[Enc.val x, v']) w) : endF fn P R .ret f w :=
  ⟨_, fun tmps ht => by unfold results; rw [h]; simp [ht, ha, hv', asAddr, T.load w p x hc], hR⟩
end
end Go.Fk
