/-
  A logic of frames as functions, over the kit's weakest preconditions: rules for code, for regions in the text's order and for regions that draw their order. No program in sight.
-/
import Derived.WalkKit
import Derived.Orders
import Derived.Scope
namespace Go.Fk
open Go Go.RowKit

/-! ### old memory is as it was -/
/-- w' is w with more blocks; no block of w has turned. -/
def Ext (w w' : World) : Prop := Below w.heap.size w w'
theorem Ext.refl (w : World) : Ext w w := Below.refl _ _
theorem Ext.size {w w' : World} (h : Ext w w') : w.heap.size ≤ w'.heap.size := Below.size h
theorem Ext.trans {a b c : World} (h : Ext a b) (k : Ext b c) : Ext a c := Below.trans h (Below.mono k (Ext.size h))
theorem Ext.drew (w : World) : Ext w w.drew := Below.drew (Below.refl _ _)
theorem Ext.draw (w : World) : Ext w { w with drawn := w.drawn + 1 } := Below.drew (Below.refl _ _)
theorem Ext.alloc (w : World) (o : Obj) : Ext w (w.alloc o) := Below.alloc (Below.refl _ _) (Nat.le_refl _) o
theorem Ext.block {w w' : World} (h : Ext w w') {k : Nat} (hk : k < w.heap.size) : w'.heap[k]? = w.heap[k]? := Below.block h k hk
theorem Ext.obj {w w' : World} (h : Ext w w') {k : Nat} {o : Obj} (hk : w.heap[k]? = some o) : w'.heap[k]? = some o := by
  have hlt : k < w.heap.size := (Array.getElem?_eq_some_iff.1 hk).1
  rw [h.block hlt]; exact hk
theorem Ext.cell {w w' : World} (h : Ext w w') {p : Addr} {v : Value} (hc : w.cell? p = some v) : w'.cell? p = some v := by
  rw [Below.cell h (World.block_lt_of_cell? w p hc)]; exact hc

/-! ### frames -/
abbrev Fr := Nat → Value
def upd (f : Fr) (d : Nat) (v : Value) : Fr := fun j => bif Nat.beq j d then v else f j
def updo (f : Fr) (d : Option Nat) (v : Value) : Fr := match d with
  | some d => upd f d v
  | none => f
theorem upd_same (f : Fr) (d : Nat) (v : Value) : upd f d v d = v := by simp [upd]
theorem upd_ne (f : Fr) {d j : Nat} (v : Value) (h : j ≠ d) : upd f d v j = f j := by
  have : Nat.beq j d = false := by
    cases hb : Nat.beq j d with
    | false => rfl
    | true => exact absurd (Nat.eq_of_beq_eq_true hb) h
  simp [upd, this]
def evalF (f : Fr) : Operand → Value
  | .tmp t => f t
  | .const v => v
  | .global g => .pointer (some ⟨g, 0, none⟩)
  | .func i => .func (.func i) #[] #[]

structure Rel (N : Nat) (a : Act) (f : Fr) : Prop where
  size : a.tmps.size = N
  defers : a.defers = []
  tmps : ∀ j, a.tmps.getD j undef = f j

theorem Rel.eval {N : Nat} {a : Act} {f : Fr} (h : Rel N a f) : a.eval = evalF f := by
  funext x
  cases x <;> simp [Act.eval, evalF]
  have := h.tmps
  simp only [Array.getD_eq_getD_getElem?] at this
  exact this _

theorem Rel.put {N : Nat} {a : Act} {f : Fr} (h : Rel N a f) {d : Nat} (hd : d < N) (v : Value) : Rel N (a.put (some d) v) (upd f d v) := by
  refine ⟨by simp [Act.put, h.size], by simp [Act.put, h.defers], fun j => ?_⟩
  have ht := h.tmps j
  have hs := h.size
  simp only [Act.put, Array.getD_eq_getD_getElem?] at ht ⊢
  by_cases hj : j = d
  · subst hj
    rw [upd_same]
    simp [hs, hd]
  · rw [upd_ne _ _ hj, Array.getElem?_setIfInBounds_ne (Ne.symm hj)]; exact ht

theorem Rel.puto {N : Nat} {a : Act} {f : Fr} (h : Rel N a f) {d : Option Nat} (hd : ∀ k, d = some k → k < N) (v : Value) : Rel N (a.put d v) (updo f d v) := by
  cases d with
  | none => exact h
  | some d => exact h.put (hd d rfl) v

theorem Rel.yielded {N : Nat} {a : Act} {f : Fr} (h : Rel N a f) (ops : Array Oper) (j : Nat) :
    yielded ops a.tmps j = match (ops[j]?).bind (·.dst) with | some d => (match f d with | .bool b => some b | _ => none) | none => none := by
  unfold Go.yielded
  cases hd : (ops[j]?).bind (·.dst) with
  | none => rfl
  | some d =>
    simp only [Option.bind_some]
    have ht := h.tmps d
    simp only [Array.getD_eq_getD_getElem?] at ht
    cases hv : a.tmps[d]? with
    | none =>
      rw [hv] at ht
      simp only [Option.getD_none] at ht
      rw [← ht]; rfl
    | some v =>
      rw [hv] at ht
      simp only [Option.getD_some] at ht
      subst ht
      cases (f d) <;> rfl

/-- what a guard sees -/
def yieldF (ops : Array Oper) (f : Fr) (j : Nat) : Option Bool :=
  match (ops[j]?).bind (·.dst) with
  | some d => (match f d with | .bool b => some b | _ => none)
  | none => none
theorem Rel.yieldF {N : Nat} {a : Act} {f : Fr} (h : Rel N a f) (ops : Array Oper) : Go.yielded ops a.tmps = yieldF ops f := by
  funext j; rw [h.yielded]; rfl

/-! ### the judgement -/
def lift (N : Nat) (Q : Exit → Fr → World → Prop) : Exit → Act → World → Prop := fun e a w => ∃ f, Rel N a f ∧ Q e f w
def W (P : Program) (N : Nat) (c : Code) (Q : Exit → Fr → World → Prop) (f : Fr) (w : World) : Prop := ∀ a, Rel N a f → c.wp P (lift N Q) a w

def thenF (next : Fr → World → Prop) (Q : Exit → Fr → World → Prop) : Exit → Fr → World → Prop
  | .normal, f, w => next f w
  | e, f, w => Q e f w
def blockF (id : Nat) (Q : Exit → Fr → World → Prop) : Exit → Fr → World → Prop
  | .exit id', f, w => bif Nat.beq id' id then Q .normal f w else Q (.exit id') f w
  | e, f, w => Q e f w
def scopeF (Q : Exit → Fr → World → Prop) : Exit → Fr → World → Prop
  | .goto _, _, _ => False
  | e, f, w => Q e f w

section
variable {P : Program} {N : Nat} {Q : Exit → Fr → World → Prop} {f : Fr} {w : World}

theorem W.mono {c : Code} {Q' : Exit → Fr → World → Prop} (h : W P N c Q f w) (hq : ∀ e f w, Q e f w → Q' e f w) : W P N c Q' f w :=
  fun a ha => wp_mono (h a ha) fun _ _ _ ⟨f, hf, q⟩ => ⟨f, hf, hq _ _ _ q⟩

theorem W.seq {x y : Code} (h : W P N x (thenF (W P N y Q) Q) f w) : W P N (.seq x y) Q f w :=
  fun a ha => wp_seq (wp_mono (h a ha) fun e a' w' ⟨f', hf, q⟩ => by
    cases e with
    | normal => exact q a' hf
    | _ => exact ⟨f', hf, q⟩)

/-- a cut: the first part ends in R, whatever else; the second part starts from R -/
theorem W.cut {x y : Code} (R : Fr → World → Prop) (h : W P N x (thenF R Q) f w) (k : ∀ f w, R f w → W P N y Q f w) : W P N (.seq x y) Q f w :=
  W.seq (h.mono fun e f w q => by
    cases e with
    | normal => exact k f w q
    | _ => exact q)

theorem W.skip (h : Q .normal f w) : W P N .skip Q f w := fun _ ha => wp_skip ⟨f, ha, h⟩
theorem W.ret (h : Q .ret f w) : W P N .ret Q f w := fun _ ha => wp_ret ⟨f, ha, h⟩
theorem W.exit {id : Nat} (h : Q (.exit id) f w) : W P N (.exit id) Q f w := fun _ ha => wp_exit ⟨f, ha, h⟩
theorem W.label {l : Nat} (h : Q .normal f w) : W P N (.label l) Q f w := fun _ ha => wp_label ⟨f, ha, h⟩

theorem W.cond {c : Operand} {x y : Code} {t : Bool} (hc : evalF f c = .bool t) (ht : t = true → W P N x Q f w) (hf : t = false → W P N y Q f w) : W P N (.cond c x y) Q f w :=
  fun a ha => wp_cond_split (by rw [ha.eval]; exact hc) (fun e => ht e a ha) (fun e => hf e a ha)

theorem W.block {id : Nat} {c : Code} (h : W P N c (blockF id Q) f w) : W P N (.block id c) Q f w :=
  fun a ha => wp_block (wp_mono (h a ha) fun e a' w' ⟨f', hf, q⟩ => by
    cases e with
    | exit id' =>
      simp only [blockF] at q
      simp only [Exit.inBlock]
      split
      · rename_i he; subst he; rw [Nat.beq_refl] at q; exact ⟨f', hf, q⟩
      · rename_i he
        have : Nat.beq id' id = false := by
          cases hb : Nat.beq id' id with
          | false => rfl
          | true => exact absurd (Nat.eq_of_beq_eq_true hb) he
        rw [this] at q; exact ⟨f', hf, q⟩
    | _ => exact ⟨f', hf, q⟩)

theorem W.scope {c : Code} (h : W P N c (scopeF Q) f w) : W P N (.scope c) Q f w :=
  fun a ha => wp_scope_straight (wp_mono (h a ha) fun e a' w' ⟨f', hf, q⟩ => by
    cases e with
    | goto l => exact q.elim
    | _ => exact ⟨f', hf, q⟩)

theorem W.loop {c : Code} (I : Fr → World → Prop) (μ : Fr → World → Nat) (h0 : I f w)
    (round : ∀ f w, I f w → W P N c (thenF (fun f' w' => I f' w' ∧ μ f' w' < μ f w) Q) f w) : W P N (.loop c) Q f w := by
  intro a ha
  refine wp_loop (fun a w => ∃ f, Rel N a f ∧ I f w) (fun a w => μ (fun j => a.tmps.getD j undef) w) ⟨f, ha, h0⟩ ?_
  rintro a w ⟨f, hf, hI⟩
  have e1 : (fun j => a.tmps.getD j undef) = f := funext hf.tmps
  refine wp_mono (round f w hI a hf) fun e a' w' ⟨f', hf', q⟩ => ?_
  cases e with
  | normal =>
    have e2 : (fun j => a'.tmps.getD j undef) = f' := funext hf'.tmps
    show (∃ f, Rel N a' f ∧ I f w') ∧ _
    refine ⟨⟨f', hf', q.1⟩, ?_⟩
    rw [e1, e2]
    exact q.2
  | _ => exact ⟨f', hf', q⟩

/-- the same, the measure behind the existential: a ghost that goes down -/
theorem W.loopg {γ : Type} {c : Code} (I : γ → Fr → World → Prop) (μ : γ → Nat) (g : γ) (h0 : I g f w)
    (round : ∀ g f w, I g f w → W P N c (thenF (fun f' w' => ∃ g', I g' f' w' ∧ μ g' < μ g) Q) f w) : W P N (.loop c) Q f w := by
  intro a ha b k cs
  have key : ∀ n g f w a, μ g = n → I g f w → Rel N a f →
      ∃ e a' w', lift N Q e a' w' ∧ Arrives P (lone (b.at a (.code c :: .inLoop c :: k)) cs w) b k cs e a' w' := by
    intro n
    induction n using Nat.strongRecOn with
    | _ n ih =>
      intro g f w a hn hI hr
      obtain ⟨e, a₁, w₁, ⟨f₁, hr₁, hq⟩, harr⟩ := round g f w hI a hr b (.inLoop c :: k) cs
      cases e with
      | normal =>
        obtain ⟨g', hI₁, hlt⟩ := hq
        obtain ⟨e₂, a₂, w₂, hq₂, harr₂⟩ := ih (μ g') (hn ▸ hlt) g' f₁ w₁ a₁ rfl hI₁ hr₁
        exact ⟨e₂, a₂, w₂, hq₂, .of_steps (Steps.trans harr (.one step_inLoop)) harr₂⟩
      | exit id => exact ⟨_, a₁, w₁, ⟨f₁, hr₁, hq⟩, .pass (x := .inLoop c) rfl (fun _ _ => .inl (by simp)) harr⟩
      | goto l => exact ⟨_, a₁, w₁, ⟨f₁, hr₁, hq⟩, .pass (x := .inLoop c) rfl (fun _ _ => .inl (by simp)) harr⟩
      | ret => exact ⟨_, a₁, w₁, ⟨f₁, hr₁, hq⟩, .pass (x := .inLoop c) rfl (fun _ _ => .inl (by simp)) harr⟩
      | panic ch => exact ⟨_, a₁, w₁, ⟨f₁, hr₁, hq⟩, .pass (x := .inLoop c) rfl (fun _ _ => .inl (by simp)) harr⟩
      | outgrown => exact ⟨_, a₁, w₁, ⟨f₁, hr₁, hq⟩, .pass (x := .inLoop c) rfl (fun _ _ => .inl (by simp)) harr⟩
  obtain ⟨e, a', w', hq, harr⟩ := key _ g f w a rfl h0 ha
  exact ⟨e, a', w', hq, .of_steps (.one step_loop) harr⟩
end

/-! ### a call -/
/-- the end of a body: it has returned v -/
def endF (fn : Func) (P : Program) (R : Value → World → Prop) : Exit → Fr → World → Prop
  | .normal, f, w | .ret, f, w => ∃ v, (∀ tmps : Array Value, (∀ j, tmps.getD j undef = f j) → (results fn tmps).run P w = .ok v w) ∧ R v w
  | _, _, _ => False

/-- the call returns, in R -/
def Gives (P : Program) (i : FuncId) (args : Array Value) (w : World) (R : Value → World → Prop) : Prop :=
  Calls P i args w fun e w' => ∃ v, e = .returned v ∧ R v w'

theorem Gives.mono {P : Program} {i : FuncId} {args : Array Value} {w : World} {R R' : Value → World → Prop} (h : Gives P i args w R) (hr : ∀ v w', R v w' → R' v w') : Gives P i args w R' :=
  Calls.mono h fun _ _ ⟨v, e, r⟩ => ⟨v, e, hr _ _ r⟩

def argsF (args : Array Value) : Fr := fun j => args.getD j undef

theorem gives_of_W {P : Program} {i : FuncId} {fn : Func} {c : Code} {args : Array Value} {w : World} {R : Value → World → Prop} {N : Nat} (hf : P.funcs[i]? = some fn) (hb : fn.body = some c) (hN : fn.ntmps = N)
    (hs' : Nat.ble args.size N = true) (h : W P N c (endF fn P R) (argsF args) w) : Gives P i args w R := by
  have hs := Nat.le_of_ble_eq_true hs'
  subst hN
  refine calls_of_wp hf hb ?_
  refine wp_mono (h _ ⟨?_, rfl, fun j => ?_⟩) ?_
  · simp; omega
  · simp only [argsF, Array.getD_eq_getD_getElem?]
    by_cases hj : j < args.size
    · rw [Array.getElem?_append_left hj]
    · rw [Array.getElem?_append_right (by omega)]
      by_cases hk : j - args.size < fn.ntmps - args.size
      · simp [hk, Array.getElem?_eq_none (Nat.le_of_not_lt hj)]
      · simp [hk, Array.getElem?_eq_none (Nat.le_of_not_lt hj)]
  · rintro e a w' ⟨f, hr, q⟩
    cases e with
    | normal => obtain ⟨v, h1, h2⟩ := q; exact ⟨hr.defers, v, h1 _ hr.tmps, v, rfl, h2⟩
    | ret => obtain ⟨v, h1, h2⟩ := q; exact ⟨hr.defers, v, h1 _ hr.tmps, v, rfl, h2⟩
    | exit id => exact q.elim
    | goto l => exact q.elim
    | panic ch => exact q.elim
    | outgrown => exact q.elim

section
variable {P : Program} {fn : Func} {R : Value → World → Prop} {f : Fr} {w : World}
theorem end_ret1 {t : Tmp} (h : fn.results = #[.tmp t]) {v : Value} (hv : f t = v) (hR : R v w) : endF fn P R .ret f w :=
  ⟨v, fun tmps ht => by rw [results_tmp h]; rw [ht, hv], hR⟩
theorem end_ret2 {t u : Tmp} (h : fn.results = #[.tmp t, .tmp u]) {v v' : Value} (hv : f t = v) (hv' : f u = v') (hR : R (.tuple #[v, v']) w) : endF fn P R .ret f w :=
  ⟨_, fun tmps ht => by rw [results_tmp2 h]; rw [ht, ht, hv, hv'], hR⟩
theorem end_ret0 (h : fn.results = #[]) (hR : R (.tuple #[]) w) : endF fn P R .ret f w :=
  ⟨_, fun tmps _ => by rw [results_none h], hR⟩
theorem end_nor0 (h : fn.results = #[]) (hR : R (.tuple #[]) w) : endF fn P R .normal f w :=
  ⟨_, fun tmps _ => by rw [results_none h], hR⟩
end

/-! ### one operation -/
/-- operation o, in frame f, leaves some value v and world w' with R v w' -/
def OpS (P : Program) (o : Oper) (f : Fr) (w : World) (R : Value → World → Prop) : Prop :=
  ∀ (N : Nat) (a : Act), Rel N a f → ∀ (K : Act → World → Prop) (Q : Exit → Act → World → Prop), (∀ v w', R v w' → K (a.put o.dst v) w') → o.wp P a w K Q

section
variable {P : Program} {o : Oper} {f : Fr} {w w' : World} {R R' : Value → World → Prop} {v : Value}
theorem OpS.mono (h : OpS P o f w R) (hr : ∀ v w', R v w' → R' v w') : OpS P o f w R' :=
  fun N a ha K Q hK => h N a ha K Q fun v w' r => hK v w' (hr v w' r)
theorem OpS.val (h : (execOp (evalF f) o).run P w = .ok (.value v) w') (hR : R v w') : OpS P o f w R :=
  fun N a ha K Q hK => by
    unfold Oper.wp
    rw [ha.eval, h]
    exact hK v w' hR
theorem OpS.skip (h : (execOp (evalF f) o).run P w = .ok .skip w') (hR : R undef w') : OpS P o f w R :=
  fun N a ha K Q hK => by
    unfold Oper.wp
    rw [ha.eval, h]
    exact hK undef w' hR
theorem OpS.call {g : FuncId} {args : Array Value} (h : (execOp (evalF f) o).run P w = .ok (.enter g args) w') (hc : Gives P g args w' R) : OpS P o f w R :=
  fun N a ha K Q hK => by
    unfold Oper.wp
    rw [ha.eval, h]
    exact Calls.mono hc fun e w'' ⟨v, e1, r⟩ => by subst e1; exact hK v w'' r
end

/-! ### a region in the text's order -/
def dstsOk (N : Nat) (l : List Oper) : Bool := l.all fun o => match o.dst with | some d => decide (d < N) | none => true
theorem dstsOk_cons {N : Nat} {o : Oper} {l : List Oper} (h : dstsOk N (o :: l) = true) : (∀ k, o.dst = some k → k < N) ∧ dstsOk N l = true := by
  simp only [dstsOk, List.all_cons, Bool.and_eq_true] at h
  refine ⟨fun k hk => ?_, h.2⟩
  have := h.1
  rw [hk] at this
  simpa using this

def L (P : Program) (N : Nat) (ops : Array Oper) (Q : Exit → Fr → World → Prop) (l : List Oper) (f : Fr) (w : World) : Prop :=
  dstsOk N l = true → ∀ a, Rel N a f → wpList P ops (lift N Q) l a w

section
variable {P : Program} {N : Nat} {ops : Array Oper} {Q : Exit → Fr → World → Prop} {f : Fr} {w : World} {o : Oper} {rest : List Oper}

theorem W.region {id : Nat} {l : List Oper} (hd : dstsOk N l = true) (h : L P N l.toArray Q l f w) : W P N (.region id l.toArray false) Q f w :=
  fun a ha => wp_region_lit (h hd a ha)

theorem L.nil (h : Q .normal f w) : L P N ops Q [] f w := fun _ _ ha => wpList_nil ⟨f, ha, h⟩

theorem L.step {R : Value → World → Prop} (hg : o.guard = none) (ho : OpS P o f w R) (k : ∀ v w', R v w' → L P N ops Q rest (updo f o.dst v) w') : L P N ops Q (o :: rest) f w :=
  fun hd a ha => wpList_plain hg fun _ hK => ho N a ha _ _ fun v w' r => hK _ _ (k v w' r (dstsOk_cons hd).2 _ (ha.puto (dstsOk_cons hd).1 v))

/-- a guarded operation: carried out where g holds, passed over where it does not -/
theorem L.guard {R : Value → World → Prop} {g : Bool} (hg : Region.wanted o (yieldF ops f) = g) (h1 : g = true → OpS P o f w R) (h0 : g = false → R undef w) (k : ∀ v w', R v w' → L P N ops Q rest (updo f o.dst v) w') : L P N ops Q (o :: rest) f w :=
  fun hd a ha => wpList_step fun _ hK => by
    rw [ha.yieldF]
    cases g with
    | true =>
      rw [if_pos hg]
      exact h1 rfl N a ha _ _ fun v w' r => hK _ _ (k v w' r (dstsOk_cons hd).2 _ (ha.puto (dstsOk_cons hd).1 v))
    | false =>
      rw [if_neg (by rw [hg]; simp)]
      exact hK _ _ (k undef w (h0 rfl) (dstsOk_cons hd).2 _ (ha.puto (dstsOk_cons hd).1 undef))

theorem L.val {v : Value} {w' : World} (hg : o.guard = none) (h : (execOp (evalF f) o).run P w = .ok (.value v) w') (k : L P N ops Q rest (updo f o.dst v) w') : L P N ops Q (o :: rest) f w :=
  L.step (R := fun u w'' => u = v ∧ w'' = w') hg (OpS.val h ⟨rfl, rfl⟩) fun _ _ ⟨e1, e2⟩ => by subst e1; subst e2; exact k
end

/-! ### a region that draws its order: each operation leans on those that it waits for, alone -/
/-- the slot that operation j writes, as frame f has it -/
def slotF (ops : Array Oper) (f : Fr) (j : Nat) : Value := match (ops[j]?).bind (·.dst) with | some d => f d | none => undef

/-- edges lead back; no two operations write one slot; every operation writes a slot below N -/
def drawOk (N : Nat) (l : List Oper) : Bool :=
  (l.zipIdx.all fun (o, i) => o.after.toList.all fun e => !Region.binds .any e || decide (e.on < i)) &&
  (l.all fun o => match o.dst with | some d => decide (d < N) | none => false) &&
  decide ((l.map (·.dst)).Nodup)

/-- no operation of the region writes slot j -/
def outside (l : List Oper) (j : Nat) : Bool := l.all fun o => match o.dst with | some d => !(Nat.beq d j) | none => true
theorem outside_spec {l : List Oper} {j : Nat} (h : outside l j = true) {i : Nat} {o : Oper} (ho : l[i]? = some o) : o.dst ≠ some j := by
  intro e
  have := List.all_eq_true.1 h o (List.mem_of_getElem? ho)
  rw [e] at this
  simp at this

theorem getD_set_self {a : Array Bool} {i : Nat} {d : Bool} (h : i < a.size) : (a.setIfInBounds i true).getD i d = true := by
  simp [Array.getD_eq_getD_getElem?, h]
theorem getD_set_other {a : Array Bool} {i j : Nat} {d : Bool} (h : i ≠ j) : (a.setIfInBounds i true).getD j d = a.getD j d := by
  simp [Array.getD_eq_getD_getElem?, Array.getElem?_setIfInBounds_ne h]

section
variable {P : Program} {N : Nat} {Q : Exit → Fr → World → Prop} {f : Fr} {w : World}

theorem wpAny_rel {l : List Oper} (hok : drawOk N l = true) (R : Nat → Value → World → Prop) (hmono : ∀ i v w w', R i v w → Ext w w' → R i v w') (w0 : World) (f0 : Fr)
    (hops : ∀ i o, l[i]? = some o → ∀ f w, Ext w0 w → (∀ j, outside l j = true → f j = f0 j) →
      (∀ e ∈ o.after, Region.binds .any e = true → R e.on (slotF l.toArray f e.on) w) →
      (Region.wanted o (yieldF l.toArray f) = true → OpS P o f w fun v w' => R i v w' ∧ Ext w w') ∧ (Region.wanted o (yieldF l.toArray f) = false → R i undef w))
    (hfin : ∀ f w, Ext w0 w → (∀ j, outside l j = true → f j = f0 j) → (∀ i, i < l.length → R i (slotF l.toArray f i) w) → Q .normal f w) :
    ∀ (fuel : Nat) (listed : Array Bool) (a : Act) (f : Fr) (w : World), listed.size = l.length → Rel N a f → Ext w0 w →
      (∀ j, outside l j = true → f j = f0 j) →
      (∀ i, i < l.length → listed.getD i false = true → R i (slotF l.toArray f i) w) →
      ((List.range l.length).filter fun i => !listed.getD i false).length ≤ fuel →
      wpAny P .any l.toArray (lift N Q) fuel listed a w := by
  simp only [drawOk, Bool.and_eq_true] at hok
  obtain ⟨⟨hb, hd⟩, hnd⟩ := hok
  have hnd' : (l.map (·.dst)).Nodup := by simpa using hnd
  have hedge : ∀ i o, l[i]? = some o → ∀ e ∈ o.after, Region.binds .any e = true → e.on < i := by
    intro i o ho e he hbe
    rw [List.all_eq_true] at hb
    have hm : (o, i) ∈ l.zipIdx := by
      rw [List.mem_zipIdx_iff_getElem?]; exact ho
    have := hb _ hm
    have h2 := List.all_eq_true.1 this e (by simpa using he)
    rw [hbe] at h2
    simpa using h2
  have hdst : ∀ (i : Nat) (o : Oper), l[i]? = some o → ∃ d, o.dst = some d ∧ d < N := by
    intro i o ho
    rw [List.all_eq_true] at hd
    have := hd o (List.mem_of_getElem? ho)
    cases hdo : o.dst with
    | none => rw [hdo] at this; simp at this
    | some d => rw [hdo] at this; exact ⟨d, rfl, by simpa using this⟩
  have hinj : ∀ (i j : Nat) (o o' : Oper), l[i]? = some o → l[j]? = some o' → o.dst = o'.dst → i = j := by
    intro i j o o' hi hj he
    have h1 : (l.map (·.dst))[i]? = some o.dst := by simp [hi]
    have h2 : (l.map (·.dst))[j]? = some o'.dst := by simp [hj]
    have hil : i < (l.map (·.dst)).length := (List.getElem?_eq_some_iff.1 h1).1
    exact (List.getElem?_inj hil hnd').1 (by rw [h1, h2, he])
  -- all listed: nothing is ready
  have hall : ∀ listed : Array Bool, listed.size = l.length → Region.ready .any l.toArray listed = [] → ∀ i, i < l.length → listed.getD i false = true := by
    intro listed hs hr i
    induction i using Nat.strongRecOn with
    | _ i ih =>
      intro hi
      cases hc : listed.getD i false with
      | true => rfl
      | false =>
        exfalso
        have hmem : i ∈ Region.ready .any l.toArray listed := by
          unfold Region.ready
          rw [List.mem_filter]
          refine ⟨by simpa using hi, ?_⟩
          have ho : l.toArray[i]? = some l[i] := by simp [List.getElem?_eq_getElem hi]
          have hc' : listed.getD i true = false := by
            simp only [Array.getD_eq_getD_getElem?] at hc ⊢
            have hlt : i < listed.size := by omega
            rw [Array.getElem?_eq_getElem hlt] at hc ⊢
            simpa using hc
          rw [hc', ho]
          simp only [Option.map_some, Option.getD_some, Bool.not_false, Bool.true_and, Array.all_eq_true_iff_forall_mem]
          intro e he
          cases hbe : Region.binds .any e with
          | false => rfl
          | true =>
            have hlt := hedge i l[i] (List.getElem?_eq_getElem hi) e he hbe
            rw [ih e.on hlt (by omega)]
            rfl
        rw [hr] at hmem
        cases hmem
  intro fuel
  induction fuel with
  | zero =>
    intro listed a f w hs hrel hx hout hR hfuel
    have hnil : ∀ i, i < l.length → listed.getD i false = true := by
      intro i hi
      have h0 : ((List.range l.length).filter fun i => !listed.getD i false) = [] := List.eq_nil_of_length_eq_zero (by omega)
      have := List.filter_eq_nil_iff.1 h0 i (by simpa using hi)
      simpa using this
    refine ⟨?_, f, hrel, hfin f w hx hout fun i hi => hR i hi (hnil i hi)⟩
    unfold Region.ready
    rw [List.filter_eq_nil_iff]
    intro i hi
    have hi' : i < l.length := by simpa using hi
    have := hnil i hi'
    have hc' : listed.getD i true = true := by
      simp only [Array.getD_eq_getD_getElem?] at this ⊢
      have hlt : i < listed.size := by omega
      rw [Array.getElem?_eq_getElem hlt] at this ⊢
      simpa using this
    rw [hc']
    simp
  | succ fuel ih =>
    intro listed a f w hs hrel hx hout hR hfuel
    refine ⟨fun hr => ⟨f, hrel, hfin f w hx hout fun i hi => hR i hi (hall listed hs hr i hi)⟩, fun i hi => ?_⟩
    unfold Region.ready at hi
    rw [List.mem_filter] at hi
    obtain ⟨hi1, hi2⟩ := hi
    have hil : i < l.length := by simpa using hi1
    simp only [Bool.and_eq_true] at hi2
    obtain ⟨hi2, hi3⟩ := hi2
    have ho : l[i]? = some l[i] := List.getElem?_eq_getElem hil
    have hoa : l.toArray[i]? = some l[i] := by simp [ho]
    rw [hoa] at hi3
    simp only [Option.map_some, Option.getD_some, Array.all_eq_true_iff_forall_mem] at hi3
    have hilisted : listed.getD i false = false := by
      simp only [Array.getD_eq_getD_getElem?] at hi2 ⊢
      have hlt : i < listed.size := by omega
      rw [Array.getElem?_eq_getElem hlt] at hi2 ⊢
      simpa using hi2
    have hwait : ∀ e ∈ l[i].after, Region.binds .any e = true → R e.on (slotF l.toArray f e.on) w := by
      intro e he hbe
      have h1 := hi3 e he
      rw [hbe] at h1
      exact hR e.on (by have := hedge i l[i] ho e he hbe; omega) (by simpa using h1)
    obtain ⟨d, hdd, hdN⟩ := hdst i l[i] ho
    obtain ⟨hw1, hw0⟩ := hops i l[i] ho f w hx hout hwait
    -- behind the operation
    have hnext : ∀ v w', R i v w' → Ext w w' → wpAny P .any l.toArray (lift N Q) fuel (listed.setIfInBounds i true) (a.put l[i].dst v) w' := by
      intro v w' hRi hx'
      refine ih _ _ (upd f d v) w' (by simpa using hs) (by rw [hdd]; exact hrel.put hdN v) (hx.trans hx') (fun j hj => ?_) (fun j hj hjl => ?_) ?_
      · rw [upd_ne _ _ (fun e => outside_spec hj ho (by rw [hdd, e]))]
        exact hout j hj
      · by_cases hji : j = i
        · subst hji
          have : slotF l.toArray (upd f d v) j = v := by
            unfold slotF
            rw [hoa]
            simp [hdd, upd_same]
          rw [this]
          exact hRi
        · rw [getD_set_other (Ne.symm hji)] at hjl
          have hoj : l[j]? = some l[j] := List.getElem?_eq_getElem hj
          have : slotF l.toArray (upd f d v) j = slotF l.toArray f j := by
            unfold slotF
            have hoja : l.toArray[j]? = some l[j] := by simp [hoj]
            rw [hoja]
            simp only [Option.bind_some]
            cases hdj : l[j].dst with
            | none => rfl
            | some dj =>
              simp only
              rw [upd_ne]
              intro e
              exact hji (hinj j i l[j] l[i] hoj ho (by rw [hdj, hdd, e]))
          rw [this]
          exact hmono j _ w w' (hR j hj hjl) hx'
      · have hlt : ((List.range l.length).filter fun k => !(listed.setIfInBounds i true).getD k false).length < ((List.range l.length).filter fun k => !listed.getD k false).length := by
          have hsub : ((List.range l.length).filter fun k => !(listed.setIfInBounds i true).getD k false) = (((List.range l.length).filter fun k => !listed.getD k false)).filter fun k => !(listed.setIfInBounds i true).getD k false := by
            rw [List.filter_filter]
            refine List.filter_congr fun k _ => ?_
            by_cases hki : k = i
            · subst hki; rw [getD_set_self (by omega)]; simp
            · rw [getD_set_other (Ne.symm hki)]; simp
          rw [hsub]
          refine List.length_filter_lt_length_iff_exists.2 ⟨i, ?_, ?_⟩
          · rw [List.mem_filter]; exact ⟨by simpa using hil, by rw [hilisted]; rfl⟩
          · rw [getD_set_self (by omega)]; simp
        omega
    unfold wpOp
    rw [hoa]
    simp only
    rw [hrel.yieldF]
    split
    · rename_i hw
      exact .inl (hw1 hw N a hrel _ _ fun v w' ⟨r, x⟩ => hnext v w' r x)
    · rename_i hw
      exact hnext undef w (hw0 (by simpa using hw)) (Ext.refl w)

/-- THE RULE: R i: what operation number i leaves (kept by whatever only adds memory). -/
theorem W.draw {id : Nat} {l : List Oper} (hm : P.follows .mixedOrders = true) (hok : drawOk N l = true) (R : Nat → Value → World → Prop) (hmono : ∀ i v w w', R i v w → Ext w w' → R i v w')
    (hops : ∀ i o, l[i]? = some o → ∀ f' w', Ext w w' → (∀ j, outside l j = true → f' j = f j) →
      (∀ e ∈ o.after, Region.binds .any e = true → R e.on (slotF l.toArray f' e.on) w') →
      (Region.wanted o (yieldF l.toArray f') = true → OpS P o f' w' fun v w'' => R i v w'' ∧ Ext w' w'') ∧ (Region.wanted o (yieldF l.toArray f') = false → R i undef w'))
    (hfin : ∀ f' w', Ext w w' → (∀ j, outside l j = true → f' j = f j) → (∀ i, i < l.length → R i (slotF l.toArray f' i) w') → Q .normal f' w') :
    W P N (.region id l.toArray true) Q f w := by
  intro a ha
  refine wp_region_any hm ?_
  refine wpAny_rel hok R hmono w f hops hfin _ _ a f _ (by simp) ha (Ext.draw w) (fun _ _ => rfl) (fun i hi h => ?_) ?_
  · simp [Array.getD_eq_getD_getElem?, Array.getElem?_replicate] at h
    rw [if_pos hi] at h
    cases h
  · have := List.length_filter_le (fun i => !(Array.replicate l.toArray.size false).getD i false) (List.range l.length)
    simpa using this
end

/-! ### passing through what stands behind -/
section
variable {Q : Exit → Fr → World → Prop} {n : Fr → World → Prop} {f : Fr} {w : World} {id id' : Nat}
theorem thenF_nor (h : n f w) : thenF n Q .normal f w := h
theorem thenF_ret (h : Q .ret f w) : thenF n Q .ret f w := h
theorem thenF_exit (h : Q (.exit id) f w) : thenF n Q (.exit id) f w := h
theorem blockF_nor (h : Q .normal f w) : blockF id Q .normal f w := h
theorem blockF_ret (h : Q .ret f w) : blockF id Q .ret f w := h
theorem blockF_hit (h : Q .normal f w) : blockF id Q (.exit id) f w := by simp only [blockF, Nat.beq_refl]; exact h
theorem blockF_miss (hne : Nat.beq id' id = false) (h : Q (.exit id') f w) : blockF id Q (.exit id') f w := by simp only [blockF, hne]; exact h
theorem scopeF_nor (h : Q .normal f w) : scopeF Q .normal f w := h
theorem scopeF_ret (h : Q .ret f w) : scopeF Q .ret f w := h
theorem scopeF_exit (h : Q (.exit id) f w) : scopeF Q (.exit id) f w := h
end

/-- the value of a guarded operation -/
def vif (g : Bool) (v : Value) : Value := bif g then v else undef
theorem vif_t {g : Bool} {v : Value} (h : g = true) : v = vif g v := by subst h; rfl
theorem vif_or {g x : Bool} {v : Value} (h : g = true) : vif (g && (x == false)) v = vif (!x) v := by subst h; cases x <;> rfl
theorem vif_and {g x : Bool} {v : Value} (h : g = true) : vif (g && (x == true)) v = vif x v := by subst h; cases x <;> rfl
theorem vif_f {g : Bool} {v : Value} (h : g = false) : undef = vif g v := by subst h; rfl

section
variable {P : Program} {N : Nat} {ops : Array Oper} {Q : Exit → Fr → World → Prop} {f : Fr} {w : World} {o : Oper} {rest : List Oper}
theorem L.guardv {g : Bool} {v : Value} (hw : Region.wanted o (yieldF ops f) = g) (h : g = true → (execOp (evalF f) o).run P w = .ok (.value v) w) (k : L P N ops Q rest (updo f o.dst (vif g v)) w) : L P N ops Q (o :: rest) f w :=
  L.guard (R := fun u w' => u = vif g v ∧ w = w') hw (fun hg => OpS.val (h hg) ⟨vif_t hg, rfl⟩) (fun hg => ⟨vif_f hg, rfl⟩) fun _ _ ⟨e1, e2⟩ => by subst e1; subst e2; exact k
theorem L.call {v : Value} (hg : o.guard = none) (h : OpS P o f w fun u w' => u = v ∧ Ext w w') (k : ∀ w', Ext w w' → L P N ops Q rest (updo f o.dst v) w') : L P N ops Q (o :: rest) f w :=
  L.step hg h fun _ w' ⟨e1, hx⟩ => by subst e1; exact k w' hx
theorem L.guardc {g : Bool} {v : Value} (hw : Region.wanted o (yieldF ops f) = g) (h : g = true → OpS P o f w fun u w' => u = v ∧ Ext w w') (k : ∀ w', Ext w w' → L P N ops Q rest (updo f o.dst (vif g v)) w') : L P N ops Q (o :: rest) f w :=
  L.guard (R := fun u w' => u = vif g v ∧ Ext w w') hw (fun hg => (h hg).mono fun u w' ⟨e, hx⟩ => ⟨e.trans (vif_t hg), hx⟩) (fun hg => ⟨vif_f hg, Ext.refl w⟩) fun _ w' ⟨e1, hx⟩ => by subst e1; exact k w' hx
end

/-! ### regions that draw, told by a list of what each operation leaves -/
structure Sp where
  p : Value → World → Prop
  mono : ∀ v w w', p v w → Ext w w' → p v w'
def Sp.eq (v : Value) : Sp := ⟨fun u _ => u = v, fun _ _ _ h _ => h⟩
def Sp.any : Sp := ⟨fun _ _ => True, fun _ _ _ h _ => h⟩
def spOf : List Sp → Nat → Sp
  | [], _ => Sp.any
  | s :: _, 0 => s
  | _ :: S, i + 1 => spOf S i
def waits (o : Oper) (j : Nat) : Bool := o.after.toList.any fun e => Region.binds .any e && Nat.beq e.on j
theorem waits_of {o : Oper} {e : Edge} (he : e ∈ o.after) (hb : Region.binds .any e = true) : waits o e.on = true := by
  unfold waits
  rw [List.any_eq_true]
  exact ⟨e, by simpa using he, by rw [hb, Nat.beq_refl]; rfl⟩
theorem of_waits {o : Oper} {j : Nat} (h : waits o j = true) : ∃ e ∈ o.after, Region.binds .any e = true ∧ e.on = j := by
  unfold waits at h
  rw [List.any_eq_true] at h
  obtain ⟨e, he, hb⟩ := h
  rw [Bool.and_eq_true] at hb
  exact ⟨e, by simpa using he, hb.1, Nat.eq_of_beq_eq_true hb.2⟩

def Obl (P : Program) (l : List Oper) (S : List Sp) (f : Fr) (w : World) (i : Nat) (o : Oper) : Prop :=
  ∀ (f' : Fr) (w' : World), Ext w w' → (∀ j, outside l j = true → f' j = f j) → (∀ j, waits o j = true → (spOf S j).p (slotF l.toArray f' j) w') →
    (Region.wanted o (yieldF l.toArray f') = true → OpS P o f' w' fun v w'' => (spOf S i).p v w'' ∧ Ext w' w'') ∧ (Region.wanted o (yieldF l.toArray f') = false → (spOf S i).p undef w')
def Obls (P : Program) (l : List Oper) (S : List Sp) (f : Fr) (w : World) : Nat → List Oper → Prop
  | _, [] => True
  | i, o :: r => Obl P l S f w i o ∧ Obls P l S f w (i + 1) r
section
variable {P : Program} {N : Nat} {Q : Exit → Fr → World → Prop} {f : Fr} {w : World} {l : List Oper} {S : List Sp} {i : Nat} {o : Oper} {r : List Oper}
theorem Obls.cons (h : Obl P l S f w i o) (hr : Obls P l S f w (i + 1) r) : Obls P l S f w i (o :: r) := ⟨h, hr⟩
theorem Obls.nil : Obls P l S f w i [] := trivial
theorem Obls.get {l0 : List Oper} : ∀ {l : List Oper} {i k : Nat} {o : Oper}, Obls P l0 S f w i l → l[k]? = some o → Obl P l0 S f w (i + k) o
  | [], _, _, _, _, hk => by simp at hk
  | x :: l, i, 0, o, h, hk => by simp at hk; subst hk; exact h.1
  | x :: l, i, k + 1, o, h, hk => by
    simp only [List.getElem?_cons_succ] at hk
    have := Obls.get h.2 hk
    rwa [show i + 1 + k = i + (k + 1) by omega] at this

theorem W.drawS {id : Nat} (S : List Sp) (hm : P.follows .mixedOrders = true) (hok : drawOk N l = true) (hobl : Obls P l S f w 0 l)
    (hfin : ∀ (f' : Fr) (w' : World), Ext w w' → (∀ j, outside l j = true → f' j = f j) → (∀ i, i < l.length → (spOf S i).p (slotF l.toArray f' i) w') → Q .normal f' w') : W P N (.region id l.toArray true) Q f w :=
  W.draw hm hok (fun i v w => (spOf S i).p v w) (fun i v w w' h hx => (spOf S i).mono v w w' h hx)
    (fun i o ho f' w' hx hout hd => by
      have := Obls.get hobl ho
      rw [Nat.zero_add] at this
      exact this f' w' hx hout fun j hj => by
        obtain ⟨e, he, hb, rfl⟩ := of_waits hj
        exact hd e he hb)
    hfin

theorem D.val {ops : Array Oper} {v : Value} (hg : o.guard = none) (h : (execOp (evalF f) o).run P w = .ok (.value v) w) :
    (Region.wanted o (yieldF ops f) = true → OpS P o f w fun u w'' => (Sp.eq v).p u w'' ∧ Ext w w'') ∧ (Region.wanted o (yieldF ops f) = false → (Sp.eq v).p undef w) :=
  ⟨fun _ => OpS.val h ⟨rfl, Ext.refl w⟩, fun hw => by rw [Region.wanted, hg] at hw; cases hw⟩
theorem D.call {ops : Array Oper} {R : Value → World → Prop} (hg : o.guard = none) (h : OpS P o f w fun u w' => R u w' ∧ Ext w w') :
    (Region.wanted o (yieldF ops f) = true → OpS P o f w fun u w'' => R u w'' ∧ Ext w w'') ∧ (Region.wanted o (yieldF ops f) = false → R undef w) :=
  ⟨fun _ => h, fun hw => by rw [Region.wanted, hg] at hw; cases hw⟩
theorem D.guardv {ops : Array Oper} {g : Bool} {v : Value} (hw : Region.wanted o (yieldF ops f) = g) (h : g = true → (execOp (evalF f) o).run P w = .ok (.value v) w) :
    (Region.wanted o (yieldF ops f) = true → OpS P o f w fun u w'' => (Sp.eq (vif g v)).p u w'' ∧ Ext w w'') ∧ (Region.wanted o (yieldF ops f) = false → (Sp.eq (vif g v)).p undef w) :=
  ⟨fun hh => OpS.val (h (hw.symm.trans hh)) ⟨vif_t (hw.symm.trans hh), Ext.refl w⟩, fun hh => vif_f (hw.symm.trans hh)⟩
theorem D.guardc {ops : Array Oper} {g : Bool} {v : Value} (hw : Region.wanted o (yieldF ops f) = g) (h : g = true → OpS P o f w fun u w' => u = v ∧ Ext w w') :
    (Region.wanted o (yieldF ops f) = true → OpS P o f w fun u w'' => (Sp.eq (vif g v)).p u w'' ∧ Ext w w'') ∧ (Region.wanted o (yieldF ops f) = false → (Sp.eq (vif g v)).p undef w) :=
  ⟨fun hh => (h (hw.symm.trans hh)).mono fun _ _ ⟨e, hx⟩ => ⟨e.trans (vif_t (hw.symm.trans hh)), hx⟩, fun hh => vif_f (hw.symm.trans hh)⟩
end
end Go.Fk
