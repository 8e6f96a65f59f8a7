/-
  Regions that draw their order, where some operations change memory: those stand in a chain, each waits for the one ahead; the others leave a known value and no trace. No program in sight.
-/
import Derived.Test.YtdknjfmjddlphaaMaps
import Derived.RangeFuncOwn
set_option linter.unusedSectionVars false
set_option linter.unusedSimpArgs false
set_option linter.unusedVariables false
namespace Go.Fk
open Go Go.RowKit

/-! ### blocks that hold no cells -/
def NC (w : World) (b : Nat) : Prop := ∃ o : Obj, w.heap[b]? = some o ∧ o.isCells = false
section
variable {w w' : World} {b : Nat}
theorem NC.rows (h : NC w b) : ∀ r, some b = some r → ∃ o : Obj, w.heap[r]? = some o ∧ o.isCells = false := fun r e => by cases e; exact h
theorem NC.ext (h : NC w b) (hx : Ext w w') : NC w' b := by obtain ⟨o, h1, h2⟩ := h; exact ⟨o, hx.obj h1, h2⟩
theorem Mp.nc {K : Type} [Enc K] [DecidableEq K] {l : List (K × Int)} (h : Mp w b l) : NC w b := by obtain ⟨es, c, h⟩ := h; exact ⟨_, h.heap, rfl⟩
theorem Rg.nc {K : Type} [Enc K] [DecidableEq K] {r : Nat} {l d : List (K × Int)} (h : Rg w b r l d) : NC w r := by obtain ⟨_, _, _, _, _, _, h, _⟩ := h; exact ⟨_, h, rfl⟩
theorem Cells.farM {p : Addr} {cs : List Value} (h : Cells w p cs) (hn : NC w b) (hg : w.grownBy w' (some b)) : Cells w' p cs := fun j u hu => cell_kept (h j u hu) hg hn.rows
theorem Box.ncne {b2 : Nat} {t : TypeId} {cs : List Value} (h : Box w b2 t cs) (hn : NC w b) : b2 ≠ b := by
  rintro rfl
  obtain ⟨o, h1, h2⟩ := hn
  unfold Box at h
  rw [h] at h1
  cases h1
  cases h2
theorem Box.farM {b2 : Nat} {t : TypeId} {cs : List Value} (h : Box w b2 t cs) (hn : NC w b) (hg : w.grownBy w' (some b)) : Box w' b2 t cs := h.far hg (by simp; exact h.ncne hn)
theorem Rd.farM {α : Type} [Enc α] {lo hi : Nat} {A : Option Addr} {l : List α} (h : Rd w lo hi A l) (hn : NC w b) (hg : w.grownBy w' (some b)) : Rd w' lo hi A l := ⟨h.1, fun hn' => by
  obtain ⟨ad, e, h1, h2, hc⟩ := h.2 hn'
  exact ⟨ad, e, h1, h2, fun k x hk => (hc k x hk).farM hn hg⟩⟩
theorem SlR.farM {α : Type} [Enc α] {u : Value} {l : List α} (h : SlR w u l) (hn : NC w b) (hg : w.grownBy w' (some b)) : SlR w' u l := by
  obtain ⟨A, c, lo, hi, e, hc, hr⟩ := h
  exact ⟨A, c, lo, hi, e, hc, hr.farM hn hg⟩
theorem Own.cellsBlock {α : Type} [Enc α] {base : Nat} {e : TypeId} {v : Value} {l : List α} (h : Own w base e v l) : ∀ k, v.ownBlock = some k → ∃ o : Obj, w.heap[k]? = some o ∧ o.isCells = true := by
  intro k hk
  rcases h.2 with ⟨rfl, _⟩ | ⟨g, cap, cur, rfl, hb, hg, _⟩
  · cases hk
  · cases hk; exact ⟨_, hg, rfl⟩
theorem Own.ncne {α : Type} [Enc α] {base : Nat} {e : TypeId} {v : Value} {l : List α} (h : Own w base e v l) (hn : NC w b) : some b ≠ v.ownBlock := by
  intro hv
  obtain ⟨o, h1, h2⟩ := h.cellsBlock b hv.symm
  obtain ⟨o', h3, h4⟩ := hn
  rw [h1] at h3
  cases h3
  rw [h2] at h4
  cases h4
theorem Own.farM {α : Type} [Enc α] {base : Nat} {e : TypeId} {v : Value} {l : List α} (h : Own w base e v l) (hn : NC w b) (hg : w.grownBy w' (some b)) : Own w' base e v l :=
  h.kept hg (Or.inr fun e => h.ncne hn e.symm)
theorem NC.farM {b2 : Nat} (h : NC w b2) (hne : b2 ≠ b) (hg : w.grownBy w' (some b)) : NC w' b2 := by
  obtain ⟨o, h1, h2⟩ := h
  exact ⟨o, (hg.block b2 (Array.getElem?_eq_some_iff.1 h1).1 (by simpa using hne)).trans h1, h2⟩
theorem Mp.farM {K : Type} [Enc K] [DecidableEq K] {b2 : Nat} {l : List (K × Int)} (h : Mp w b2 l) (hne : b2 ≠ b) (hg : w.grownBy w' (some b)) : Mp w' b2 l := h.far hg (by simpa using hne)
theorem Mp.farO {K : Type} [Enc K] [DecidableEq K] {l : List (K × Int)} {α : Type} [Enc α] {base : Nat} {e : TypeId} {v : Value} {l' : List α} (h : Mp w b l) (hO : Own w base e v l') (hg : w.grownBy w' v.ownBlock) : Mp w' b l := h.far hg (hO.ncne h.nc)
theorem Mp.farB {K : Type} [Enc K] [DecidableEq K] {l : List (K × Int)} {b2 : Nat} {t : TypeId} {cs : List Value} (h : Mp w b l) (hB : Box w b2 t cs) (hg : w.grownBy w' (some b2)) : Mp w' b l := h.far hg (by simp; exact fun e => hB.ncne h.nc e.symm)
theorem Rg.farO {K : Type} [Enc K] [DecidableEq K] {r : Nat} {l d : List (K × Int)} {α : Type} [Enc α] {base : Nat} {e : TypeId} {v : Value} {l' : List α} (h : Rg w b r l d) (hO : Own w base e v l') (hg : w.grownBy w' v.ownBlock) : Rg w' b r l d := h.far hg (hO.ncne h.mp.nc) (hO.ncne h.nc)
theorem Rg.farB {K : Type} [Enc K] [DecidableEq K] {r : Nat} {l d : List (K × Int)} {b2 : Nat} {t : TypeId} {cs : List Value} (h : Rg w b r l d) (hB : Box w b2 t cs) (hg : w.grownBy w' (some b2)) : Rg w' b r l d := h.far hg (by simp; exact fun e => hB.ncne h.mp.nc e.symm) (by simp; exact fun e => hB.ncne h.nc e.symm)
end

/-! ### one block that may turn -/
theorem grown_refl (w : World) (g : Option Nat) : w.grownBy w g := ⟨rfl, rfl, rfl, Nat.le_refl _, fun _ _ _ => rfl⟩
theorem grown_trans {a w w' : World} {g : Option Nat} (h : a.grownBy w g) (k : w.grownBy w' g) : a.grownBy w' g :=
  ⟨k.os.trans h.os, k.tape.trans h.tape, k.output.trans h.output, Nat.le_trans h.size k.size, fun i hi hne => (k.block i (Nat.lt_of_lt_of_le hi h.size) hne).trans (h.block i hi hne)⟩
theorem grown_ext {a w w' : World} {g : Option Nat} (h : a.grownBy w g) (hx : Ext w w') : a.grownBy w' g :=
  grown_trans h ⟨Below.os hx, Below.tape hx, Below.output hx, hx.size, fun _ hk _ => hx.block hk⟩
theorem grown_new {a w w' : World} {g k : Option Nat} (h : a.grownBy w g) (hk : w.grownBy w' k) (hn : ∀ i, k = some i → a.heap.size ≤ i) : a.grownBy w' g :=
  ⟨hk.os.trans h.os, hk.tape.trans h.tape, hk.output.trans h.output, Nat.le_trans h.size hk.size, fun i hi hne => (hk.block i (Nat.lt_of_lt_of_le hi h.size) (fun e => by have := hn i e.symm; omega)).trans (h.block i hi hne)⟩
theorem grown_own {α : Type} [Enc α] {a w w' : World} {g : Option Nat} {e : TypeId} {v : Value} {l : List α} (h : a.grownBy w g) (hO : Own w a.heap.size e v l) (hk : w.grownBy w' v.ownBlock) : a.grownBy w' g := grown_new h hk fun i hi => (hO.lt i hi).1
theorem ext_of_grown {w w' : World} (h : w.grownBy w' none) : Ext w w' := (Ext.refl w).grown h (by simp)

/-! ### drawn regions in general -/
def setL (Ls : Nat → Bool) (i : Nat) : Nat → Bool := fun j => bif Nat.beq j i then true else Ls j
theorem setL_same (Ls : Nat → Bool) (i : Nat) : setL Ls i i = true := by simp [setL]
theorem setL_ne (Ls : Nat → Bool) {i j : Nat} (h : j ≠ i) : setL Ls i j = Ls j := by
  have : Nat.beq j i = false := by
    cases hb : Nat.beq j i with
    | false => rfl
    | true => exact absurd (Nat.eq_of_beq_eq_true hb) h
  simp [setL, this]
/-- edges lead back; slots lie below N -/
def drawOkI (N : Nat) (l : List Oper) : Bool :=
  (l.zipIdx.all fun (o, i) => o.after.toList.all fun e => !Region.binds .any e || decide (e.on < i)) &&
  (l.all fun o => match o.dst with | some d => decide (d < N) | none => true)

section
variable {P : Program} {N : Nat} {Q : Exit → Fr → World → Prop} {f : Fr} {w : World}
theorem wpAny_inv {l : List Oper} (hok : drawOkI N l = true) (I : (Nat → Bool) → Fr → World → Prop)
    (hstep : ∀ (Ls : Nat → Bool) i o f w, l[i]? = some o → Ls i = false → (∀ e ∈ o.after, Region.binds .any e = true → Ls e.on = true) → I Ls f w →
      (Region.wanted o (yieldF l.toArray f) = true → OpS P o f w fun v w' => I (setL Ls i) (updo f o.dst v) w') ∧ (Region.wanted o (yieldF l.toArray f) = false → I (setL Ls i) (updo f o.dst undef) w))
    (hfin : ∀ Ls f w, (∀ i, i < l.length → Ls i = true) → I Ls f w → Q .normal f w) :
    ∀ (fuel : Nat) (listed : Array Bool) (a : Act) (f : Fr) (w : World), listed.size = l.length → Rel N a f → I (fun j => listed.getD j false) f w →
      ((List.range l.length).filter fun i => !listed.getD i false).length ≤ fuel → wpAny P .any l.toArray (lift N Q) fuel listed a w := by
  unfold drawOkI at hok
  simp only [Bool.and_eq_true] at hok
  obtain ⟨hok1, hok2⟩ := hok
  have hedge : ∀ i o, l[i]? = some o → ∀ e ∈ o.after, Region.binds .any e = true → e.on < i := by
    intro i o ho e he hb
    have h1 := List.all_eq_true.1 hok1 (o, i) (by rw [List.mem_zipIdx_iff_getElem?]; exact ho)
    have h2 := List.all_eq_true.1 h1 e (by simpa using he)
    rw [hb] at h2
    simpa using h2
  have hdst : ∀ (i : Nat) (o : Oper), l[i]? = some o → ∀ d, o.dst = some d → d < N := by
    intro i o ho d hd
    have h1 := List.all_eq_true.1 hok2 o (List.mem_of_getElem? ho)
    rw [hd] at h1
    simpa using h1
  have hall : ∀ listed : Array Bool, listed.size = l.length → Region.ready .any l.toArray listed = [] → ∀ i, i < l.length → listed.getD i false = true := by
    intro listed hs hr i
    induction i using Nat.strongRecOn with
    | _ i ih =>
      intro hi
      cases hc : listed.getD i false with
      | true => rfl
      | false =>
        exfalso
        have hmem : i ∈ Region.ready .any l.toArray listed := by
          unfold Region.ready
          rw [List.mem_filter]
          refine ⟨by simpa using hi, ?_⟩
          have ho : l.toArray[i]? = some l[i] := by simp [List.getElem?_eq_getElem hi]
          have hc' : listed.getD i true = false := by
            simp only [Array.getD_eq_getD_getElem?] at hc ⊢
            have hlt : i < listed.size := by omega
            rw [Array.getElem?_eq_getElem hlt] at hc ⊢
            simpa using hc
          rw [hc', ho]
          simp only [Option.map_some, Option.getD_some, Bool.not_false, Bool.true_and, Array.all_eq_true_iff_forall_mem]
          intro e he
          cases hbe : Region.binds .any e with
          | false => rfl
          | true =>
            have hlt := hedge i l[i] (List.getElem?_eq_getElem hi) e he hbe
            rw [ih e.on hlt (by omega)]
            rfl
        rw [hr] at hmem
        cases hmem
  intro fuel
  induction fuel with
  | zero =>
    intro listed a f w hs hrel hI hfuel
    have hnil : ∀ i, i < l.length → listed.getD i false = true := by
      intro i hi
      have h0 : ((List.range l.length).filter fun i => !listed.getD i false) = [] := List.eq_nil_of_length_eq_zero (by omega)
      have := List.filter_eq_nil_iff.1 h0 i (by simpa using hi)
      simpa using this
    refine ⟨?_, f, hrel, hfin _ f w hnil hI⟩
    unfold Region.ready
    rw [List.filter_eq_nil_iff]
    intro i hi
    have hi' : i < l.length := by simpa using hi
    have := hnil i hi'
    have hc' : listed.getD i true = true := by
      simp only [Array.getD_eq_getD_getElem?] at this ⊢
      have hlt : i < listed.size := by omega
      rw [Array.getElem?_eq_getElem hlt] at this ⊢
      simpa using this
    rw [hc']
    simp
  | succ fuel ih =>
    intro listed a f w hs hrel hI hfuel
    refine ⟨fun hr => ⟨f, hrel, hfin _ f w (hall listed hs hr) hI⟩, fun i hi => ?_⟩
    unfold Region.ready at hi
    rw [List.mem_filter] at hi
    obtain ⟨hi1, hi2⟩ := hi
    have hil : i < l.length := by simpa using hi1
    simp only [Bool.and_eq_true] at hi2
    obtain ⟨hi2, hi3⟩ := hi2
    have ho : l[i]? = some l[i] := List.getElem?_eq_getElem hil
    have hoa : l.toArray[i]? = some l[i] := by simp [ho]
    rw [hoa] at hi3
    simp only [Option.map_some, Option.getD_some, Array.all_eq_true_iff_forall_mem] at hi3
    have hilisted : listed.getD i false = false := by
      simp only [Array.getD_eq_getD_getElem?] at hi2 ⊢
      have hlt : i < listed.size := by omega
      rw [Array.getElem?_eq_getElem hlt] at hi2 ⊢
      simpa using hi2
    have hwait : ∀ e ∈ l[i].after, Region.binds .any e = true → listed.getD e.on false = true := by
      intro e he hbe
      have h1 := hi3 e he
      rw [hbe] at h1
      exact h1
    obtain ⟨hw1, hw0⟩ := hstep _ i l[i] f w ho hilisted hwait hI
    have hset : (fun j => (listed.setIfInBounds i true).getD j false) = setL (fun j => listed.getD j false) i := by
      funext j
      by_cases hji : j = i
      · subst hji; rw [setL_same, getD_set_self (by omega)]
      · rw [setL_ne _ hji, getD_set_other (Ne.symm hji)]
    have hlt : ((List.range l.length).filter fun k => !(listed.setIfInBounds i true).getD k false).length < ((List.range l.length).filter fun k => !listed.getD k false).length := by
      have hsub : ((List.range l.length).filter fun k => !(listed.setIfInBounds i true).getD k false) = (((List.range l.length).filter fun k => !listed.getD k false)).filter fun k => !(listed.setIfInBounds i true).getD k false := by
        rw [List.filter_filter]
        refine List.filter_congr fun k _ => ?_
        by_cases hki : k = i
        · subst hki; rw [getD_set_self (by omega)]; simp
        · rw [getD_set_other (Ne.symm hki)]; simp
      rw [hsub]
      refine List.length_filter_lt_length_iff_exists.2 ⟨i, ?_, ?_⟩
      · rw [List.mem_filter]; exact ⟨by simpa using hil, by rw [hilisted]; rfl⟩
      · rw [getD_set_self (by omega)]; simp
    have hnext : ∀ v w', I (setL (fun j => listed.getD j false) i) (updo f l[i].dst v) w' → wpAny P .any l.toArray (lift N Q) fuel (listed.setIfInBounds i true) (a.put l[i].dst v) w' := by
      intro v w' hI'
      refine ih _ _ (updo f l[i].dst v) w' (by simpa using hs) (hrel.puto (fun d hd => hdst i l[i] ho d hd) v) (by rw [hset]; exact hI') (by omega)
    unfold wpOp
    rw [hoa]
    simp only
    rw [hrel.yieldF]
    split
    · rename_i hw
      exact .inl (hw1 hw N a hrel _ _ fun v w' r => hnext v w' r)
    · rename_i hw
      exact hnext undef w (hw0 (by simpa using hw))
theorem W.drawI {id : Nat} {l : List Oper} (hm : P.follows .mixedOrders = true) (hok : drawOkI N l = true) (I : (Nat → Bool) → Fr → World → Prop) (h0 : I (fun _ => false) f { w with drawn := w.drawn + 1 })
    (hstep : ∀ (Ls : Nat → Bool) i o f w, l[i]? = some o → Ls i = false → (∀ e ∈ o.after, Region.binds .any e = true → Ls e.on = true) → I Ls f w →
      (Region.wanted o (yieldF l.toArray f) = true → OpS P o f w fun v w' => I (setL Ls i) (updo f o.dst v) w') ∧ (Region.wanted o (yieldF l.toArray f) = false → I (setL Ls i) (updo f o.dst undef) w))
    (hfin : ∀ Ls f w, (∀ i, i < l.length → Ls i = true) → I Ls f w → Q .normal f w) : W P N (.region id l.toArray true) Q f w := by
  intro a ha
  refine wp_region_any hm ?_
  refine wpAny_inv hok I hstep hfin _ _ a f _ (by simp) ha ?_ ?_
  · have : (fun j => (Array.replicate l.toArray.size false).getD j false) = fun _ => false := by
      funext j
      simp [Array.getD_eq_getD_getElem?, Array.getElem?_replicate]
      split <;> rfl
    rw [this]; exact h0
  · have := List.length_filter_le (fun i => !(Array.replicate l.toArray.size false).getD i false) (List.range l.length)
    simpa using this
end

/-! ### a chain -/
def stageOk : List (Nat × Sp) → (Nat → Value) → World → Prop
  | [], _, _ => True
  | x :: r, s, w => x.2.p (s x.1) w ∧ stageOk r s w
theorem stageOk.ext : ∀ {st : List (Nat × Sp)} {s : Nat → Value} {w w' : World}, stageOk st s w → Ext w w' → stageOk st s w'
  | [], _, _, _, _, _ => trivial
  | x :: _, _, _, _, h, hx => ⟨x.2.mono _ _ _ h.1 hx, stageOk.ext h.2 hx⟩
theorem stageOk.congr : ∀ {st : List (Nat × Sp)} {s s' : Nat → Value} {w : World}, stageOk st s w → (∀ x ∈ st, s' x.1 = s x.1) → stageOk st s' w
  | [], _, _, _, _, _ => trivial
  | x :: _, _, _, _, h, he => ⟨by rw [he x (by simp)]; exact h.1, stageOk.congr h.2 fun y hy => he y (by simp [hy])⟩
def inCh (ch : List Nat) (i : Nat) : Bool := ch.any fun c => Nat.beq c i
theorem inCh_iff {ch : List Nat} {i : Nat} : inCh ch i = true ↔ i ∈ ch := by
  unfold inCh
  rw [List.any_eq_true]
  constructor
  · rintro ⟨c, hc, e⟩; rw [← Nat.eq_of_beq_eq_true e]; exact hc
  · exact fun h => ⟨i, h, by simp⟩
/-- slots apart; each of the chain waits for the one ahead; the stages speak of slots of the chain alone -/
def drawOkC (N : Nat) (l : List Oper) (ch : List Nat) (st : List (List (Nat × Sp))) : Bool :=
  drawOkI N l && decide ((l.filterMap (·.dst)).Nodup) && decide ch.Nodup &&
  (ch.all fun c => decide (c < l.length)) &&
  ((ch.zip (ch.drop 1)).all fun x => match l[x.2]? with | some o => waits o x.1 | none => false) &&
  (st.all fun s => s.all fun x => inCh ch x.1 && (match l[x.1]? with | some o => o.dst.isSome | none => false))
def stg (st : List (List (Nat × Sp))) (k : Nat) : List (Nat × Sp) := st.getD k []
def waitsAt (l : List Oper) (j i : Nat) : Bool := match l[j]? with | some o => waits o i | none => false

section
variable {P : Program} {N : Nat} {Q : Exit → Fr → World → Prop} {f : Fr} {w : World}
theorem slotF_updo {l : List Oper} (hn : (l.filterMap (·.dst)).Nodup) {i : Nat} {o : Oper} (ho : l[i]? = some o) (f : Fr) (v : Value) {j : Nat} (hj : j ≠ i) : slotF l.toArray (updo f o.dst v) j = slotF l.toArray f j := by
  unfold slotF
  cases hd : o.dst with
  | none => rfl
  | some d =>
    cases hoj : l[j]? with
    | none => simp [hoj]
    | some oj =>
      have : l.toArray[j]? = some oj := by simp [hoj]
      rw [this]
      simp only [Option.bind_some]
      cases hdj : oj.dst with
      | none => rfl
      | some dj =>
        simp only [updo]
        rw [upd_ne]
        intro e
        -- two operations with one slot
        have key : ∀ (l : List Oper) (i j : Nat) (o oj : Oper) (d : Nat), (l.filterMap (·.dst)).Nodup → l[i]? = some o → l[j]? = some oj → o.dst = some d → oj.dst = some d → i = j := by
          intro l
          induction l with
          | nil => intro i j o oj d _ h; simp at h
          | cons x t ih =>
            intro i j o oj d hn hi hj hd hdj
            have hn2 : (t.filterMap (·.dst)).Nodup := by
              cases hx : x.dst with
              | none => rwa [List.filterMap_cons_none hx] at hn
              | some y => rw [List.filterMap_cons_some hx] at hn; exact (List.nodup_cons.1 hn).2
            cases i with
            | zero =>
              cases j with
              | zero => rfl
              | succ j =>
                exfalso
                simp at hi; subst hi
                simp only [List.getElem?_cons_succ] at hj
                rw [List.filterMap_cons_some hd] at hn
                exact (List.nodup_cons.1 hn).1 (List.mem_filterMap.2 ⟨oj, List.mem_of_getElem? hj, hdj⟩)
            | succ i =>
              simp only [List.getElem?_cons_succ] at hi
              cases j with
              | zero =>
                exfalso
                simp at hj; subst hj
                rw [List.filterMap_cons_some hdj] at hn
                exact (List.nodup_cons.1 hn).1 (List.mem_filterMap.2 ⟨o, List.mem_of_getElem? hi, hd⟩)
              | succ j =>
                simp only [List.getElem?_cons_succ] at hj
                rw [ih i j o oj d hn2 hi hj hd hdj]
        exact hj (key l i j o oj d hn ho hoj hd (by rw [hdj, e])).symm
theorem slotF_self {l : List Oper} {i : Nat} {o : Oper} (ho : l[i]? = some o) (f : Fr) (v : Value) : slotF l.toArray (updo f o.dst v) i = if o.dst.isSome then v else undef := by
  unfold slotF
  have : l.toArray[i]? = some o := by simp [ho]
  rw [this]
  simp only [Option.bind_some]
  cases hd : o.dst with
  | none => rfl
  | some d => simp [updo, upd_same]
theorem outside_updo {l : List Oper} {i : Nat} {o : Oper} (ho : l[i]? = some o) {f : Fr} {v : Value} {j : Nat} (hj : outside l j = true) : updo f o.dst v j = f j := by
  cases hd : o.dst with
  | none => rfl
  | some d =>
    simp only [updo]
    rw [upd_ne]
    intro e
    exact outside_spec hj ho (by rw [hd, e])

/-- THE RULE. -/
theorem W.drawC {id : Nat} {l : List Oper} (ch : List Nat) (st : List (List (Nat × Sp))) (V : Nat → Value) (g : Option Nat) (hm : P.follows .mixedOrders = true) (hok : drawOkC N l ch st = true)
    (h0 : ∀ s w', Ext w w' → stageOk (stg st 0) s w')
    (hval : ∀ i o, l[i]? = some o → inCh ch i = false → ∀ f' w', w.grownBy w' g → (∀ j, outside l j = true → f' j = f j) → (∀ j, inCh ch j = false → waits o j = true → slotF l.toArray f' j = V j) →
      (∃ k, k ≤ ch.length ∧ stageOk (stg st k) (slotF l.toArray f') w' ∧ ∀ j c, j < k → ch[j]? = some c → waitsAt l c i = false) →
      (Region.wanted o (yieldF l.toArray f') = true → OpS P o f' w' fun v w'' => v = V i ∧ w'' = w') ∧ (Region.wanted o (yieldF l.toArray f') = false → undef = V i) ∧ (o.dst = none → V i = undef))
    (hchain : ∀ k c o, ch[k]? = some c → l[c]? = some o → ∀ f' w', w.grownBy w' g → (∀ j, outside l j = true → f' j = f j) → (∀ j, inCh ch j = false → waits o j = true → slotF l.toArray f' j = V j) → stageOk (stg st k) (slotF l.toArray f') w' →
      (Region.wanted o (yieldF l.toArray f') = true → OpS P o f' w' fun v w'' => w.grownBy w'' g ∧ stageOk (stg st (k + 1)) (fun j => bif Nat.beq j c then v else slotF l.toArray f' j) w'') ∧
      (Region.wanted o (yieldF l.toArray f') = false → stageOk (stg st (k + 1)) (fun j => bif Nat.beq j c then undef else slotF l.toArray f' j) w'))
    (hfin : ∀ f' w', w.grownBy w' g → (∀ j, outside l j = true → f' j = f j) → (∀ i, i < l.length → inCh ch i = false → slotF l.toArray f' i = V i) → stageOk (stg st ch.length) (slotF l.toArray f') w' → Q .normal f' w') :
    W P N (.region id l.toArray true) Q f w := by
  unfold drawOkC at hok
  simp only [Bool.and_eq_true, decide_eq_true_eq] at hok
  obtain ⟨⟨⟨⟨⟨hok0, hnd⟩, hchn⟩, hchl⟩, hchw⟩, hst⟩ := hok
  have hch2 : ∀ k c c', ch[k]? = some c → ch[k + 1]? = some c' → waitsAt l c' c = true := by
    intro k c c' h1 h2
    have : (c, c') ∈ ch.zip (ch.drop 1) := by
      refine List.mem_of_getElem? (i := k) ?_
      rw [List.getElem?_zip_eq_some]
      exact ⟨h1, by rw [List.getElem?_drop, Nat.add_comm]; exact h2⟩
    exact List.all_eq_true.1 hchw _ this
  have hsts : ∀ k, ∀ x ∈ stg st k, inCh ch x.1 = true ∧ ∃ o, l[x.1]? = some o ∧ o.dst.isSome = true := by
    intro k x hx
    unfold stg at hx
    rw [List.getD_eq_getElem?_getD] at hx
    cases hk : st[k]? with
    | none => rw [hk] at hx; simp at hx
    | some s =>
      rw [hk] at hx
      have h1 := List.all_eq_true.1 hst s (List.mem_of_getElem? hk)
      have h2 := List.all_eq_true.1 h1 x (by simpa using hx)
      simp only [Bool.and_eq_true] at h2
      refine ⟨h2.1, ?_⟩
      cases ho : l[x.1]? with
      | none => rw [ho] at h2; simp at h2
      | some o => rw [ho] at h2; exact ⟨o, rfl, h2.2⟩
  refine W.drawI hm hok0 (fun Ls f' w' => w.grownBy w' g ∧ (∀ j, outside l j = true → f' j = f j) ∧ (∀ i o, l[i]? = some o → Ls i = true → ∀ e ∈ o.after, Region.binds .any e = true → Ls e.on = true) ∧
      (∀ i, i < l.length → inCh ch i = false → Ls i = true → slotF l.toArray f' i = V i) ∧ ∃ k, k ≤ ch.length ∧ (∀ j c, ch[j]? = some c → (Ls c = true ↔ j < k)) ∧ stageOk (stg st k) (slotF l.toArray f') w') ?_ ?_ ?_
  · refine ⟨grown_ext (grown_refl w g) (Ext.draw w), fun _ _ => rfl, fun _ _ _ h => by simp at h, fun _ _ _ h => by simp at h, 0, Nat.zero_le _, fun _ _ _ => by simp, h0 _ _ (Ext.draw w)⟩
  · intro Ls i o f' w' ho hi hw ⟨hg, hout, hcl, hv, k, hk, hks, hsk⟩
    have hil : i < l.length := (List.getElem?_eq_some_iff.1 ho).1
    have hwv : ∀ j, inCh ch j = false → waits o j = true → slotF l.toArray f' j = V j := fun j hj hwj => by
      obtain ⟨e, he, hb, rfl⟩ := of_waits hwj
      by_cases hjl : e.on < l.length
      · exact hv _ hjl hj (hw e he hb)
      · -- an edge leads back
        unfold drawOkI at hok0
        simp only [Bool.and_eq_true] at hok0
        have h1 := List.all_eq_true.1 hok0.1 (o, i) (by rw [List.mem_zipIdx_iff_getElem?]; exact ho)
        have h2 := List.all_eq_true.1 h1 e (by simpa using he)
        rw [hb] at h2
        simp at h2
        omega
    have hcl2 : ∀ i' o', l[i']? = some o' → setL Ls i i' = true → ∀ e ∈ o'.after, Region.binds .any e = true → setL Ls i e.on = true := by
      intro i' o' ho' hi' e he hb
      have hmono : ∀ j, Ls j = true → setL Ls i j = true := fun j hj => by
        by_cases hji : j = i
        · subst hji; exact setL_same _ _
        · rw [setL_ne _ hji]; exact hj
      by_cases hii : i' = i
      · subst hii
        rw [ho] at ho'; cases ho'
        exact hmono _ (hw e he hb)
      · rw [setL_ne _ hii] at hi'
        exact hmono _ (hcl i' o' ho' hi' e he hb)
    cases hc : inCh ch i with
    | false =>
      have hnoch : ∀ j c, j < k → ch[j]? = some c → waitsAt l c i = false := by
        intro j c hj hjc
        cases hwa : waitsAt l c i with
        | false => rfl
        | true =>
          exfalso
          unfold waitsAt at hwa
          cases hlc : l[c]? with
          | none => rw [hlc] at hwa; cases hwa
          | some oc =>
            rw [hlc] at hwa
            obtain ⟨e, he, hb, hei⟩ := of_waits hwa
            have := hcl c oc hlc ((hks j c hjc).2 hj) e he hb
            rw [hei, hi] at this
            cases this
      obtain ⟨q1, q0, qn⟩ := hval i o ho hc f' w' hg hout hwv ⟨k, hk, hsk, hnoch⟩
      have hnext : ∀ v, v = V i → (w.grownBy w' g ∧ (∀ j, outside l j = true → updo f' o.dst v j = f j) ∧ (∀ i' o', l[i']? = some o' → setL Ls i i' = true → ∀ e ∈ o'.after, Region.binds .any e = true → setL Ls i e.on = true) ∧
          (∀ i', i' < l.length → inCh ch i' = false → setL Ls i i' = true → slotF l.toArray (updo f' o.dst v) i' = V i') ∧ ∃ k, k ≤ ch.length ∧ (∀ j c, ch[j]? = some c → (setL Ls i c = true ↔ j < k)) ∧ stageOk (stg st k) (slotF l.toArray (updo f' o.dst v)) w') := by
        intro v hvv
        refine ⟨hg, fun j hj => (outside_updo ho hj).trans (hout j hj), hcl2, fun i' hi' hc' hs' => ?_, k, hk, fun j c hjc => ?_, hsk.congr fun x hx => ?_⟩
        · by_cases hii : i' = i
          · subst hii
            rw [slotF_self ho]
            cases hd : o.dst with
            | none => simp [qn hd]
            | some d => simpa using hvv
          · rw [setL_ne _ hii] at hs'
            rw [slotF_updo hnd ho _ _ hii]
            exact hv i' hi' hc' hs'
        · have : c ≠ i := by
            rintro rfl
            rw [inCh_iff.2 (List.mem_of_getElem? hjc)] at hc
            cases hc
          rw [setL_ne _ this]
          exact hks j c hjc
        · have : x.1 ≠ i := by
            intro e
            have := (hsts k x hx).1
            rw [e, hc] at this
            cases this
          exact slotF_updo hnd ho _ _ this
      exact ⟨fun hwt => (q1 hwt).mono fun v w'' ⟨e1, e2⟩ => by subst e2; exact hnext v e1, fun hwt => hnext undef (q0 hwt)⟩
    | true =>
      obtain ⟨j, hj⟩ := List.getElem?_of_mem (inCh_iff.1 hc)
      have hjk : j = k := by
        rcases Nat.lt_or_ge j k with h | h
        · have := (hks j i hj).2 h
          rw [hi] at this; cases this
        · rcases Nat.lt_or_ge k j with h2 | h2
          · -- the one ahead is listed
            exfalso
            obtain ⟨c', hc'⟩ : ∃ c', ch[j - 1]? = some c' := by
              have : j < ch.length := (List.getElem?_eq_some_iff.1 hj).1
              exact ⟨_, List.getElem?_eq_getElem (by omega)⟩
            have hwa := hch2 (j - 1) c' i hc' (by rw [show j - 1 + 1 = j by omega]; exact hj)
            unfold waitsAt at hwa
            rw [ho] at hwa
            obtain ⟨e, he, hb, hei⟩ := of_waits hwa
            have h3 := hw e he hb
            rw [hei] at h3
            have := (hks (j - 1) c' hc').1 h3
            omega
          · omega
      subst hjk
      have hkl : j < ch.length := (List.getElem?_eq_some_iff.1 hj).1
      obtain ⟨q1, q0⟩ := hchain j i o hj ho f' w' hg hout hwv hsk
      have hnext : ∀ v w'', w.grownBy w'' g → stageOk (stg st (j + 1)) (fun m => bif Nat.beq m i then v else slotF l.toArray f' m) w'' → (w.grownBy w'' g ∧ (∀ j, outside l j = true → updo f' o.dst v j = f j) ∧ (∀ i' o', l[i']? = some o' → setL Ls i i' = true → ∀ e ∈ o'.after, Region.binds .any e = true → setL Ls i e.on = true) ∧
          (∀ i', i' < l.length → inCh ch i' = false → setL Ls i i' = true → slotF l.toArray (updo f' o.dst v) i' = V i') ∧ ∃ k, k ≤ ch.length ∧ (∀ j c, ch[j]? = some c → (setL Ls i c = true ↔ j < k)) ∧ stageOk (stg st k) (slotF l.toArray (updo f' o.dst v)) w'') := by
        intro v w'' hg'' hsv
        refine ⟨hg'', fun m hm => (outside_updo ho hm).trans (hout m hm), hcl2, fun i' hi' hc' hs' => ?_, j + 1, hkl, fun m c hmc => ?_, hsv.congr fun x hx => ?_⟩
        · have hii : i' ≠ i := by
            rintro rfl
            rw [hc] at hc'; cases hc'
          rw [setL_ne _ hii] at hs'
          rw [slotF_updo hnd ho _ _ hii]
          exact hv i' hi' hc' hs'
        · by_cases hci : c = i
          · subst hci
            rw [setL_same]
            have : m = j := by
              have h1 : m < ch.length := (List.getElem?_eq_some_iff.1 hmc).1
              exact (List.getElem?_inj h1 hchn).1 (by rw [hmc, hj])
            subst this
            simp
          · rw [setL_ne _ hci, hks m c hmc]
            constructor
            · omega
            · intro h
              have : m ≠ j := by
                rintro rfl
                rw [hj] at hmc; cases hmc; exact hci rfl
              omega
        · by_cases hxi : x.1 = i
          · obtain ⟨_, o', ho', hd'⟩ := hsts (j + 1) x hx
            rw [hxi] at ho'
            rw [ho] at ho'
            cases ho'
            rw [hxi, slotF_self ho, if_pos hd']
            simp
          · rw [slotF_updo hnd ho _ _ hxi]
            have : Nat.beq x.1 i = false := by
              cases hb : Nat.beq x.1 i with
              | false => rfl
              | true => exact absurd (Nat.eq_of_beq_eq_true hb) hxi
            simp [this]
      exact ⟨fun hwt => (q1 hwt).mono fun v w'' ⟨e1, e2⟩ => hnext v w'' e1 e2, fun hwt => hnext undef w' hg (q0 hwt)⟩
  · intro Ls f' w' hall ⟨hg, hout, hcl, hv, k, hk, hks, hsk⟩
    have hkk : k = ch.length := by
      rcases Nat.lt_or_ge k ch.length with h | h
      · exfalso
        have hck : ch[k]? = some ch[k] := List.getElem?_eq_getElem h
        have hcl : ch[k] < l.length := by
          have := List.all_eq_true.1 hchl ch[k] (List.getElem_mem h)
          simpa using this
        have := (hks k ch[k] hck).1 (hall _ hcl)
        omega
      · omega
    subst hkk
    exact hfin f' w' hg hout (fun i hi hc => hv i hi hc (hall i hi)) hsk
end
end Go.Fk
