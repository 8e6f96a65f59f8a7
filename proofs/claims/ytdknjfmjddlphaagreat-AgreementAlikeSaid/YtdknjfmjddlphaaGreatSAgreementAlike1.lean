/-
  Texts that the proof rests on: Za.
-/
import Derived.WalkKit
import Derived.Orders
import Derived.Scope
import Derived.Laws.Tables
import Derived.Maps.AppendAt
import Derived.Laws.OwnMore
import Derived.Laws.StructEq
import Derived.OwnWalk
import Derived.Great.FillDense
import Derived.Stop.BytesEq
import Derived.Laws.Pointers
import Derived.Maps.RangeRun
import Derived.MapKept
import Derived.ChangeMaps4
import Derived.WideKeyRuns
import Derived.RangeFuncOwn
import Derived.JoinedOf
import Derived.Deep.Slices
import Derived.Deep.Fields
import Derived.OpenShut
import Derived.ChangeSame
import Derived.Carry
import Derived.Below
import Derived.ProofKit
/-
  A logic of frames as functions, over the kit's weakest preconditions: rules for code, for regions in the text's order and for regions that draw their order. No program in sight.
-/
namespace Go.Fk
open Go Go.RowKit
/-- w' is w with more blocks; no block of w has turned. -/
def Ext (w w' : World) : Prop := Below w.heap.size w w'
theorem Ext.refl (w : World) : Ext w w := Below.refl _ _
theorem Ext.size {w w' : World} (h : Ext w w') : w.heap.size ≤ w'.heap.size := Below.size h
theorem Ext.trans {a b c : World} (h : Ext a b) (k : Ext b c) : Ext a c := Below.trans h (Below.mono k (Ext.size h))
theorem Ext.draw (w : World) : Ext w { w with drawn := w.drawn + 1 } := Below.drew (Below.refl _ _)
theorem Ext.alloc (w : World) (o : Obj) : Ext w (w.alloc o) := Below.alloc (Below.refl _ _) (Nat.le_refl _) o
theorem Ext.block {w w' : World} (h : Ext w w') {k : Nat} (hk : k < w.heap.size) : w'.heap[k]? = w.heap[k]? := Below.block h k hk
theorem Ext.obj {w w' : World} (h : Ext w w') {k : Nat} {o : Obj} (hk : w.heap[k]? = some o) : w'.heap[k]? = some o := by
 have hlt : k < w.heap.size := (Array.getElem?_eq_some_iff.1 hk).1; rw [h.block hlt]; exact hk
theorem Ext.cell {w w' : World} (h : Ext w w') {p : Addr} {v : Value} (hc : w.cell? p = some v) : w'.cell? p = some v := by
 rw [Below.cell h (World.block_lt_of_cell? w p hc)]; exact hc
abbrev Fr := Nat → Value
def upd (f : Fr) (d : Nat) (v : Value) : Fr := fun j => bif Nat.beq j d then v else f j
def updo (f : Fr) (d : Option Nat) (v : Value) : Fr := match d with
  | some d => upd f d v
  | none => f
theorem upd_same (f : Fr) (d : Nat) (v : Value) : upd f d v d = v := by simp [upd]
theorem upd_ne (f : Fr) {d j : Nat} (v : Value) (h : j ≠ d) : upd f d v j = f j := by
 have : Nat.beq j d = false := by
  cases hb : Nat.beq j d with
  | false => rfl
  | true => exact absurd (Nat.eq_of_beq_eq_true hb) h
 simp [upd, this]
def evalF (f : Fr) : Operand → Value
  | .tmp t => f t
  | .const v => v
  | .global g => .pointer (some ⟨g, 0, none⟩)
  | .func i => .func (.func i) #[] #[]
structure Rel (N : Nat) (a : Act) (f : Fr) : Prop where
  size : a.tmps.size = N
  defers : a.defers = []
  tmps : ∀ j, a.tmps.getD j undef = f j
theorem Rel.eval {N : Nat} {a : Act} {f : Fr} (h : Rel N a f) : a.eval = evalF f := by
 funext x; cases x <;> simp [Act.eval, evalF]
 have := h.tmps; simp only [Array.getD_eq_getD_getElem?] at this; exact this _
theorem Rel.put {N : Nat} {a : Act} {f : Fr} (h : Rel N a f) {d : Nat} (hd : d < N) (v : Value) : Rel N (a.put (some d) v) (upd f d v) := by
 refine ⟨by simp [Act.put, h.size], by simp [Act.put, h.defers], fun j => ?_⟩; have ht := h.tmps j; have hs := h.size; simp only [Act.put, Array.getD_eq_getD_getElem?] at ht ⊢; by_cases hj : j = d
 ·subst hj; rw [upd_same]; simp [hs, hd]
 ·rw [upd_ne _ _ hj, Array.getElem?_setIfInBounds_ne (Ne.symm hj)]; exact ht
theorem Rel.puto {N : Nat} {a : Act} {f : Fr} (h : Rel N a f) {d : Option Nat} (hd : ∀ k, d = some k → k < N) (v : Value) : Rel N (a.put d v) (updo f d v) := by
 cases d with
 | none => exact h; | some d => exact h.put (hd d rfl) v
theorem Rel.yielded {N : Nat} {a : Act} {f : Fr} (h : Rel N a f) (ops : Array Oper) (j : Nat) :
    yielded ops a.tmps j = match (ops[j]?).bind (·.dst) with | some d => (match f d with | .bool b => some b | _ => none) | none => none := by
  unfold Go.yielded
  cases hd : (ops[j]?).bind (·.dst) with
  | none => rfl
  | some d =>
    simp only [Option.bind_some]
    have ht := h.tmps d
    simp only [Array.getD_eq_getD_getElem?] at ht
    cases hv : a.tmps[d]? with
    | none =>
      rw [hv] at ht
      simp only [Option.getD_none] at ht
      rw [← ht]; rfl
    | some v =>
      rw [hv] at ht
      simp only [Option.getD_some] at ht
      subst ht
      cases (f d) <;> rfl
/-- what a guard sees -/
def yieldF (ops : Array Oper) (f : Fr) (j : Nat) : Option Bool :=
  match (ops[j]?).bind (·.dst) with
  | some d => (match f d with | .bool b => some b | _ => none)
  | none => none
theorem Rel.yieldF {N : Nat} {a : Act} {f : Fr} (h : Rel N a f) (ops : Array Oper) : Go.yielded ops a.tmps = yieldF ops f := by
 funext j; rw [h.yielded]; rfl
def lift (N : Nat) (Q : Exit → Fr → World → Prop) : Exit → Act → World → Prop := fun e a w => ∃ f, Rel N a f ∧ Q e f w
def W (P : Program) (N : Nat) (c : Code) (Q : Exit → Fr → World → Prop) (f : Fr) (w : World) : Prop := ∀ a, Rel N a f → c.wp P (lift N Q) a w
def thenF (next : Fr → World → Prop) (Q : Exit → Fr → World → Prop) : Exit → Fr → World → Prop
  | .normal, f, w => next f w
  | e, f, w => Q e f w
def blockF (id : Nat) (Q : Exit → Fr → World → Prop) : Exit → Fr → World → Prop
  | .exit id', f, w => bif Nat.beq id' id then Q .normal f w else Q (.exit id') f w
  | e, f, w => Q e f w
def scopeF (Q : Exit → Fr → World → Prop) : Exit → Fr → World → Prop
  | .goto _, _, _ => False
  | e, f, w => Q e f w
section
variable {P : Program} {N : Nat} {Q : Exit → Fr → World → Prop} {f : Fr} {w : World}
theorem W.mono {c : Code} {Q' : Exit → Fr → World → Prop} (h : W P N c Q f w) (hq : ∀ e f w, Q e f w → Q' e f w) : W P N c Q' f w :=
  fun a ha => wp_mono (h a ha) fun _ _ _ ⟨f, hf, q⟩ => ⟨f, hf, hq _ _ _ q⟩
theorem W.seq {x y : Code} (h : W P N x (thenF (W P N y Q) Q) f w) : W P N (.seq x y) Q f w :=
  fun a ha => wp_seq (wp_mono (h a ha) fun e a' w' ⟨f', hf, q⟩ => by
    cases e with
    | normal => exact q a' hf
    | _ => exact ⟨f', hf, q⟩)
/-- a cut: the first part ends in R, whatever else; the second part starts from R -/
theorem W.cut {x y : Code} (R : Fr → World → Prop) (h : W P N x (thenF R Q) f w) (k : ∀ f w, R f w → W P N y Q f w) : W P N (.seq x y) Q f w :=
  W.seq (h.mono fun e f w q => by
    cases e with
    | normal => exact k f w q
    | _ => exact q)
theorem W.skip (h : Q .normal f w) : W P N .skip Q f w := fun _ ha => wp_skip ⟨f, ha, h⟩
theorem W.ret (h : Q .ret f w) : W P N .ret Q f w := fun _ ha => wp_ret ⟨f, ha, h⟩
theorem W.exit {id : Nat} (h : Q (.exit id) f w) : W P N (.exit id) Q f w := fun _ ha => wp_exit ⟨f, ha, h⟩
theorem W.label {l : Nat} (h : Q .normal f w) : W P N (.label l) Q f w := fun _ ha => wp_label ⟨f, ha, h⟩
theorem W.cond {c : Operand} {x y : Code} {t : Bool} (hc : evalF f c = .bool t) (ht : t = true → W P N x Q f w) (hf : t = false → W P N y Q f w) : W P N (.cond c x y) Q f w :=
  fun a ha => wp_cond_split (by rw [ha.eval]; exact hc) (fun e => ht e a ha) (fun e => hf e a ha)
theorem W.block {id : Nat} {c : Code} (h : W P N c (blockF id Q) f w) : W P N (.block id c) Q f w :=
  fun a ha => wp_block (wp_mono (h a ha) fun e a' w' ⟨f', hf, q⟩ => by
    cases e with
    | exit id' =>
      simp only [blockF] at q
      simp only [Exit.inBlock]
      split
      · rename_i he; subst he; rw [Nat.beq_refl] at q; exact ⟨f', hf, q⟩
      · rename_i he
        have : Nat.beq id' id = false := by
          cases hb : Nat.beq id' id with
          | false => rfl
          | true => exact absurd (Nat.eq_of_beq_eq_true hb) he
        rw [this] at q; exact ⟨f', hf, q⟩
    | _ => exact ⟨f', hf, q⟩)
theorem W.scope {c : Code} (h : W P N c (scopeF Q) f w) : W P N (.scope c) Q f w :=
  fun a ha => wp_scope_straight (wp_mono (h a ha) fun e a' w' ⟨f', hf, q⟩ => by
    cases e with
    | goto l => exact q.elim
    | _ => exact ⟨f', hf, q⟩)
/-- the same, the measure behind the existential: a ghost that goes down -/
theorem W.loopg {γ : Type} {c : Code} (I : γ → Fr → World → Prop) (μ : γ → Nat) (g : γ) (h0 : I g f w)
    (round : ∀ g f w, I g f w → W P N c (thenF (fun f' w' => ∃ g', I g' f' w' ∧ μ g' < μ g) Q) f w) : W P N (.loop c) Q f w := by
  intro a ha b k cs
  have key : ∀ n g f w a, μ g = n → I g f w → Rel N a f →
      ∃ e a' w', lift N Q e a' w' ∧ Arrives P (lone (b.at a (.code c :: .inLoop c :: k)) cs w) b k cs e a' w' := by
    intro n
    induction n using Nat.strongRecOn with
    | _ n ih =>
      intro g f w a hn hI hr
      obtain ⟨e, a₁, w₁, ⟨f₁, hr₁, hq⟩, harr⟩ := round g f w hI a hr b (.inLoop c :: k) cs
      cases e with
      | normal =>
        obtain ⟨g', hI₁, hlt⟩ := hq
        obtain ⟨e₂, a₂, w₂, hq₂, harr₂⟩ := ih (μ g') (hn ▸ hlt) g' f₁ w₁ a₁ rfl hI₁ hr₁
        exact ⟨e₂, a₂, w₂, hq₂, .of_steps (Steps.trans harr (.one step_inLoop)) harr₂⟩
      | exit id => exact ⟨_, a₁, w₁, ⟨f₁, hr₁, hq⟩, .pass (x := .inLoop c) rfl (fun _ _ => .inl (by simp)) harr⟩
      | goto l => exact ⟨_, a₁, w₁, ⟨f₁, hr₁, hq⟩, .pass (x := .inLoop c) rfl (fun _ _ => .inl (by simp)) harr⟩
      | ret => exact ⟨_, a₁, w₁, ⟨f₁, hr₁, hq⟩, .pass (x := .inLoop c) rfl (fun _ _ => .inl (by simp)) harr⟩
      | panic ch => exact ⟨_, a₁, w₁, ⟨f₁, hr₁, hq⟩, .pass (x := .inLoop c) rfl (fun _ _ => .inl (by simp)) harr⟩
      | outgrown => exact ⟨_, a₁, w₁, ⟨f₁, hr₁, hq⟩, .pass (x := .inLoop c) rfl (fun _ _ => .inl (by simp)) harr⟩
  obtain ⟨e, a', w', hq, harr⟩ := key _ g f w a rfl h0 ha
  exact ⟨e, a', w', hq, .of_steps (.one step_loop) harr⟩
end
/-- the end of a body: it has returned v -/
def endF (fn : Func) (P : Program) (R : Value → World → Prop) : Exit → Fr → World → Prop
  | .normal, f, w | .ret, f, w => ∃ v, (∀ tmps : Array Value, (∀ j, tmps.getD j undef = f j) → (results fn tmps).run P w = .ok v w) ∧ R v w
  | _, _, _ => False
/-- the call returns, in R -/
def Gives (P : Program) (i : FuncId) (args : Array Value) (w : World) (R : Value → World → Prop) : Prop :=
  Calls P i args w fun e w' => ∃ v, e = .returned v ∧ R v w'
theorem Gives.mono {P : Program} {i : FuncId} {args : Array Value} {w : World} {R R' : Value → World → Prop} (h : Gives P i args w R) (hr : ∀ v w', R v w' → R' v w') : Gives P i args w R' :=
  Calls.mono h fun _ _ ⟨v, e, r⟩ => ⟨v, e, hr _ _ r⟩
def argsF (args : Array Value) : Fr := fun j => args.getD j undef
theorem gives_of_W {P : Program} {i : FuncId} {fn : Func} {c : Code} {args : Array Value} {w : World} {R : Value → World → Prop} {N : Nat} (hf : P.funcs[i]? = some fn) (hb : fn.body = some c) (hN : fn.ntmps = N)
    (hs' : Nat.ble args.size N = true) (h : W P N c (endF fn P R) (argsF args) w) : Gives P i args w R := by
  have hs := Nat.le_of_ble_eq_true hs'
  subst hN
  refine calls_of_wp hf hb ?_
  refine wp_mono (h _ ⟨?_, rfl, fun j => ?_⟩) ?_
  · simp; omega
  · simp only [argsF, Array.getD_eq_getD_getElem?]
    by_cases hj : j < args.size
    · rw [Array.getElem?_append_left hj]
    · rw [Array.getElem?_append_right (by omega)]
      by_cases hk : j - args.size < fn.ntmps - args.size
      · simp [hk, Array.getElem?_eq_none (Nat.le_of_not_lt hj)]
      · simp [hk, Array.getElem?_eq_none (Nat.le_of_not_lt hj)]
  · rintro e a w' ⟨f, hr, q⟩
    cases e with
    | normal => obtain ⟨v, h1, h2⟩ := q; exact ⟨hr.defers, v, h1 _ hr.tmps, v, rfl, h2⟩
    | ret => obtain ⟨v, h1, h2⟩ := q; exact ⟨hr.defers, v, h1 _ hr.tmps, v, rfl, h2⟩
    | exit id => exact q.elim
    | goto l => exact q.elim
    | panic ch => exact q.elim
    | outgrown => exact q.elim
section
variable {P : Program} {fn : Func} {R : Value → World → Prop} {f : Fr} {w : World}
theorem end_ret1 {t : Tmp} (h : fn.results = #[.tmp t]) {v : Value} (hv : f t = v) (hR : R v w) : endF fn P R .ret f w :=
  ⟨v, fun tmps ht => by rw [results_tmp h]; rw [ht, hv], hR⟩
theorem end_ret2 {t u : Tmp} (h : fn.results = #[.tmp t, .tmp u]) {v v' : Value} (hv : f t = v) (hv' : f u = v') (hR : R (.tuple #[v, v']) w) : endF fn P R .ret f w :=
  ⟨_, fun tmps ht => by rw [results_tmp2 h]; rw [ht, ht, hv, hv'], hR⟩
theorem end_ret0 (h : fn.results = #[]) (hR : R (.tuple #[]) w) : endF fn P R .ret f w :=
  ⟨_, fun tmps _ => by rw [results_none h], hR⟩
theorem end_nor0 (h : fn.results = #[]) (hR : R (.tuple #[]) w) : endF fn P R .normal f w :=
  ⟨_, fun tmps _ => by rw [results_none h], hR⟩
end
/-- operation o, in frame f, leaves some value v and world w' with R v w' -/
def OpS (P : Program) (o : Oper) (f : Fr) (w : World) (R : Value → World → Prop) : Prop :=
  ∀ (N : Nat) (a : Act), Rel N a f → ∀ (K : Act → World → Prop) (Q : Exit → Act → World → Prop), (∀ v w', R v w' → K (a.put o.dst v) w') → o.wp P a w K Q
section
variable {P : Program} {o : Oper} {f : Fr} {w w' : World} {R R' : Value → World → Prop} {v : Value}
theorem OpS.mono (h : OpS P o f w R) (hr : ∀ v w', R v w' → R' v w') : OpS P o f w R' :=
  fun N a ha K Q hK => h N a ha K Q fun v w' r => hK v w' (hr v w' r)
theorem OpS.val (h : (execOp (evalF f) o).run P w = .ok (.value v) w') (hR : R v w') : OpS P o f w R :=
  fun N a ha K Q hK => by
    unfold Oper.wp
    rw [ha.eval, h]
    exact hK v w' hR
theorem OpS.skip (h : (execOp (evalF f) o).run P w = .ok .skip w') (hR : R undef w') : OpS P o f w R :=
  fun N a ha K Q hK => by
    unfold Oper.wp
    rw [ha.eval, h]
    exact hK undef w' hR
theorem OpS.call {g : FuncId} {args : Array Value} (h : (execOp (evalF f) o).run P w = .ok (.enter g args) w') (hc : Gives P g args w' R) : OpS P o f w R :=
  fun N a ha K Q hK => by
    unfold Oper.wp
    rw [ha.eval, h]
    exact Calls.mono hc fun e w'' ⟨v, e1, r⟩ => by subst e1; exact hK v w'' r
end
def dstsOk (N : Nat) (l : List Oper) : Bool := l.all fun o => match o.dst with | some d => decide (d < N) | none => true
theorem dstsOk_cons {N : Nat} {o : Oper} {l : List Oper} (h : dstsOk N (o :: l) = true) : (∀ k, o.dst = some k → k < N) ∧ dstsOk N l = true := by
 simp only [dstsOk, List.all_cons, Bool.and_eq_true] at h; refine ⟨fun k hk => ?_, h.2⟩; have := h.1; rw [hk] at this; simpa using this
def L (P : Program) (N : Nat) (ops : Array Oper) (Q : Exit → Fr → World → Prop) (l : List Oper) (f : Fr) (w : World) : Prop :=
  dstsOk N l = true → ∀ a, Rel N a f → wpList P ops (lift N Q) l a w
section
variable {P : Program} {N : Nat} {ops : Array Oper} {Q : Exit → Fr → World → Prop} {f : Fr} {w : World} {o : Oper} {rest : List Oper}
theorem W.region {id : Nat} {l : List Oper} (hd : dstsOk N l = true) (h : L P N l.toArray Q l f w) : W P N (.region id l.toArray false) Q f w :=
  fun a ha => wp_region_lit (h hd a ha)
theorem L.nil (h : Q .normal f w) : L P N ops Q [] f w := fun _ _ ha => wpList_nil ⟨f, ha, h⟩
theorem L.step {R : Value → World → Prop} (hg : o.guard = none) (ho : OpS P o f w R) (k : ∀ v w', R v w' → L P N ops Q rest (updo f o.dst v) w') : L P N ops Q (o :: rest) f w :=
  fun hd a ha => wpList_plain hg fun _ hK => ho N a ha _ _ fun v w' r => hK _ _ (k v w' r (dstsOk_cons hd).2 _ (ha.puto (dstsOk_cons hd).1 v))
/-- a guarded operation: carried out where g holds, passed over where it does not -/
theorem L.guard {R : Value → World → Prop} {g : Bool} (hg : Region.wanted o (yieldF ops f) = g) (h1 : g = true → OpS P o f w R) (h0 : g = false → R undef w) (k : ∀ v w', R v w' → L P N ops Q rest (updo f o.dst v) w') : L P N ops Q (o :: rest) f w :=
  fun hd a ha => wpList_step fun _ hK => by
    rw [ha.yieldF]
    cases g with
    | true =>
      rw [if_pos hg]
      exact h1 rfl N a ha _ _ fun v w' r => hK _ _ (k v w' r (dstsOk_cons hd).2 _ (ha.puto (dstsOk_cons hd).1 v))
    | false =>
      rw [if_neg (by rw [hg]; simp)]
      exact hK _ _ (k undef w (h0 rfl) (dstsOk_cons hd).2 _ (ha.puto (dstsOk_cons hd).1 undef))
theorem L.val {v : Value} {w' : World} (hg : o.guard = none) (h : (execOp (evalF f) o).run P w = .ok (.value v) w') (k : L P N ops Q rest (updo f o.dst v) w') : L P N ops Q (o :: rest) f w :=
  L.step (R := fun u w'' => u = v ∧ w'' = w') hg (OpS.val h ⟨rfl, rfl⟩) fun _ _ ⟨e1, e2⟩ => by subst e1; subst e2; exact k
end
/-- the slot that operation j writes, as frame f has it -/
def slotF (ops : Array Oper) (f : Fr) (j : Nat) : Value := match (ops[j]?).bind (·.dst) with | some d => f d | none => undef
/-- edges lead back; no two operations write one slot; every operation writes a slot below N -/
def drawOk (N : Nat) (l : List Oper) : Bool :=
  (l.zipIdx.all fun (o, i) => o.after.toList.all fun e => !Region.binds .any e || decide (e.on < i)) &&
  (l.all fun o => match o.dst with | some d => decide (d < N) | none => false) &&
  decide ((l.map (·.dst)).Nodup)
/-- no operation of the region writes slot j -/
def outside (l : List Oper) (j : Nat) : Bool := l.all fun o => match o.dst with | some d => !(Nat.beq d j) | none => true
theorem outside_spec {l : List Oper} {j : Nat} (h : outside l j = true) {i : Nat} {o : Oper} (ho : l[i]? = some o) : o.dst ≠ some j := by
 intro e; have := List.all_eq_true.1 h o (List.mem_of_getElem? ho); rw [e] at this; simp at this
theorem getD_set_self {a : Array Bool} {i : Nat} {d : Bool} (h : i < a.size) : (a.setIfInBounds i true).getD i d = true := by
 simp [Array.getD_eq_getD_getElem?, h]
theorem getD_set_other {a : Array Bool} {i j : Nat} {d : Bool} (h : i ≠ j) : (a.setIfInBounds i true).getD j d = a.getD j d := by
 simp [Array.getD_eq_getD_getElem?, Array.getElem?_setIfInBounds_ne h]
section
variable {P : Program} {N : Nat} {Q : Exit → Fr → World → Prop} {f : Fr} {w : World}
theorem wpAny_rel {l : List Oper} (hok : drawOk N l = true) (R : Nat → Value → World → Prop) (hmono : ∀ i v w w', R i v w → Ext w w' → R i v w') (w0 : World) (f0 : Fr)
    (hops : ∀ i o, l[i]? = some o → ∀ f w, Ext w0 w → (∀ j, outside l j = true → f j = f0 j) →
      (∀ e ∈ o.after, Region.binds .any e = true → R e.on (slotF l.toArray f e.on) w) →
      (Region.wanted o (yieldF l.toArray f) = true → OpS P o f w fun v w' => R i v w' ∧ Ext w w') ∧ (Region.wanted o (yieldF l.toArray f) = false → R i undef w))
    (hfin : ∀ f w, Ext w0 w → (∀ j, outside l j = true → f j = f0 j) → (∀ i, i < l.length → R i (slotF l.toArray f i) w) → Q .normal f w) :
    ∀ (fuel : Nat) (listed : Array Bool) (a : Act) (f : Fr) (w : World), listed.size = l.length → Rel N a f → Ext w0 w →
      (∀ j, outside l j = true → f j = f0 j) →
      (∀ i, i < l.length → listed.getD i false = true → R i (slotF l.toArray f i) w) →
      ((List.range l.length).filter fun i => !listed.getD i false).length ≤ fuel →
      wpAny P .any l.toArray (lift N Q) fuel listed a w := by
  simp only [drawOk, Bool.and_eq_true] at hok
  obtain ⟨⟨hb, hd⟩, hnd⟩ := hok
  have hnd' : (l.map (·.dst)).Nodup := by simpa using hnd
  have hedge : ∀ i o, l[i]? = some o → ∀ e ∈ o.after, Region.binds .any e = true → e.on < i := by
    intro i o ho e he hbe
    rw [List.all_eq_true] at hb
    have hm : (o, i) ∈ l.zipIdx := by
      rw [List.mem_zipIdx_iff_getElem?]; exact ho
    have := hb _ hm
    have h2 := List.all_eq_true.1 this e (by simpa using he)
    rw [hbe] at h2
    simpa using h2
  have hdst : ∀ (i : Nat) (o : Oper), l[i]? = some o → ∃ d, o.dst = some d ∧ d < N := by
    intro i o ho
    rw [List.all_eq_true] at hd
    have := hd o (List.mem_of_getElem? ho)
    cases hdo : o.dst with
    | none => rw [hdo] at this; simp at this
    | some d => rw [hdo] at this; exact ⟨d, rfl, by simpa using this⟩
  have hinj : ∀ (i j : Nat) (o o' : Oper), l[i]? = some o → l[j]? = some o' → o.dst = o'.dst → i = j := by
    intro i j o o' hi hj he
    have h1 : (l.map (·.dst))[i]? = some o.dst := by simp [hi]
    have h2 : (l.map (·.dst))[j]? = some o'.dst := by simp [hj]
    have hil : i < (l.map (·.dst)).length := (List.getElem?_eq_some_iff.1 h1).1
    exact (List.getElem?_inj hil hnd').1 (by rw [h1, h2, he])
  -- all listed: nothing is ready
  have hall : ∀ listed : Array Bool, listed.size = l.length → Region.ready .any l.toArray listed = [] → ∀ i, i < l.length → listed.getD i false = true := by
    intro listed hs hr i
    induction i using Nat.strongRecOn with
    | _ i ih =>
      intro hi
      cases hc : listed.getD i false with
      | true => rfl
      | false =>
        exfalso
        have hmem : i ∈ Region.ready .any l.toArray listed := by
          unfold Region.ready
          rw [List.mem_filter]
          refine ⟨by simpa using hi, ?_⟩
          have ho : l.toArray[i]? = some l[i] := by simp [List.getElem?_eq_getElem hi]
          have hc' : listed.getD i true = false := by
            simp only [Array.getD_eq_getD_getElem?] at hc ⊢
            have hlt : i < listed.size := by omega
            rw [Array.getElem?_eq_getElem hlt] at hc ⊢
            simpa using hc
          rw [hc', ho]
          simp only [Option.map_some, Option.getD_some, Bool.not_false, Bool.true_and, Array.all_eq_true_iff_forall_mem]
          intro e he
          cases hbe : Region.binds .any e with
          | false => rfl
          | true =>
            have hlt := hedge i l[i] (List.getElem?_eq_getElem hi) e he hbe
            rw [ih e.on hlt (by omega)]
            rfl
        rw [hr] at hmem
        cases hmem
  intro fuel
  induction fuel with
  | zero =>
    intro listed a f w hs hrel hx hout hR hfuel
    have hnil : ∀ i, i < l.length → listed.getD i false = true := by
      intro i hi
      have h0 : ((List.range l.length).filter fun i => !listed.getD i false) = [] := List.eq_nil_of_length_eq_zero (by omega)
      have := List.filter_eq_nil_iff.1 h0 i (by simpa using hi)
      simpa using this
    refine ⟨?_, f, hrel, hfin f w hx hout fun i hi => hR i hi (hnil i hi)⟩
    unfold Region.ready
    rw [List.filter_eq_nil_iff]
    intro i hi
    have hi' : i < l.length := by simpa using hi
    have := hnil i hi'
    have hc' : listed.getD i true = true := by
      simp only [Array.getD_eq_getD_getElem?] at this ⊢
      have hlt : i < listed.size := by omega
      rw [Array.getElem?_eq_getElem hlt] at this ⊢
      simpa using this
    rw [hc']
    simp
  | succ fuel ih =>
    intro listed a f w hs hrel hx hout hR hfuel
    refine ⟨fun hr => ⟨f, hrel, hfin f w hx hout fun i hi => hR i hi (hall listed hs hr i hi)⟩, fun i hi => ?_⟩
    unfold Region.ready at hi
    rw [List.mem_filter] at hi
    obtain ⟨hi1, hi2⟩ := hi
    have hil : i < l.length := by simpa using hi1
    simp only [Bool.and_eq_true] at hi2
    obtain ⟨hi2, hi3⟩ := hi2
    have ho : l[i]? = some l[i] := List.getElem?_eq_getElem hil
    have hoa : l.toArray[i]? = some l[i] := by simp [ho]
    rw [hoa] at hi3
    simp only [Option.map_some, Option.getD_some, Array.all_eq_true_iff_forall_mem] at hi3
    have hilisted : listed.getD i false = false := by
      simp only [Array.getD_eq_getD_getElem?] at hi2 ⊢
      have hlt : i < listed.size := by omega
      rw [Array.getElem?_eq_getElem hlt] at hi2 ⊢
      simpa using hi2
    have hwait : ∀ e ∈ l[i].after, Region.binds .any e = true → R e.on (slotF l.toArray f e.on) w := by
      intro e he hbe
      have h1 := hi3 e he
      rw [hbe] at h1
      exact hR e.on (by have := hedge i l[i] ho e he hbe; omega) (by simpa using h1)
    obtain ⟨d, hdd, hdN⟩ := hdst i l[i] ho
    obtain ⟨hw1, hw0⟩ := hops i l[i] ho f w hx hout hwait
    -- behind the operation
    have hnext : ∀ v w', R i v w' → Ext w w' → wpAny P .any l.toArray (lift N Q) fuel (listed.setIfInBounds i true) (a.put l[i].dst v) w' := by
      intro v w' hRi hx'
      refine ih _ _ (upd f d v) w' (by simpa using hs) (by rw [hdd]; exact hrel.put hdN v) (hx.trans hx') (fun j hj => ?_) (fun j hj hjl => ?_) ?_
      · rw [upd_ne _ _ (fun e => outside_spec hj ho (by rw [hdd, e]))]
        exact hout j hj
      · by_cases hji : j = i
        · subst hji
          have : slotF l.toArray (upd f d v) j = v := by
            unfold slotF
            rw [hoa]
            simp [hdd, upd_same]
          rw [this]
          exact hRi
        · rw [getD_set_other (Ne.symm hji)] at hjl
          have hoj : l[j]? = some l[j] := List.getElem?_eq_getElem hj
          have : slotF l.toArray (upd f d v) j = slotF l.toArray f j := by
            unfold slotF
            have hoja : l.toArray[j]? = some l[j] := by simp [hoj]
            rw [hoja]
            simp only [Option.bind_some]
            cases hdj : l[j].dst with
            | none => rfl
            | some dj =>
              simp only
              rw [upd_ne]
              intro e
              exact hji (hinj j i l[j] l[i] hoj ho (by rw [hdj, hdd, e]))
          rw [this]
          exact hmono j _ w w' (hR j hj hjl) hx'
      · have hlt : ((List.range l.length).filter fun k => !(listed.setIfInBounds i true).getD k false).length < ((List.range l.length).filter fun k => !listed.getD k false).length := by
          have hsub : ((List.range l.length).filter fun k => !(listed.setIfInBounds i true).getD k false) = (((List.range l.length).filter fun k => !listed.getD k false)).filter fun k => !(listed.setIfInBounds i true).getD k false := by
            rw [List.filter_filter]
            refine List.filter_congr fun k _ => ?_
            by_cases hki : k = i
            · subst hki; rw [getD_set_self (by omega)]; simp
            · rw [getD_set_other (Ne.symm hki)]; simp
          rw [hsub]
          refine List.length_filter_lt_length_iff_exists.2 ⟨i, ?_, ?_⟩
          · rw [List.mem_filter]; exact ⟨by simpa using hil, by rw [hilisted]; rfl⟩
          · rw [getD_set_self (by omega)]; simp
        omega
    unfold wpOp
    rw [hoa]
    simp only
    rw [hrel.yieldF]
    split
    · rename_i hw
      exact .inl (hw1 hw N a hrel _ _ fun v w' ⟨r, x⟩ => hnext v w' r x)
    · rename_i hw
      exact hnext undef w (hw0 (by simpa using hw)) (Ext.refl w)
/-- THE RULE: R i: what operation number i leaves (kept by whatever only adds memory). -/
theorem W.draw {id : Nat} {l : List Oper} (hm : P.follows .mixedOrders = true) (hok : drawOk N l = true) (R : Nat → Value → World → Prop) (hmono : ∀ i v w w', R i v w → Ext w w' → R i v w')
    (hops : ∀ i o, l[i]? = some o → ∀ f' w', Ext w w' → (∀ j, outside l j = true → f' j = f j) →
      (∀ e ∈ o.after, Region.binds .any e = true → R e.on (slotF l.toArray f' e.on) w') →
      (Region.wanted o (yieldF l.toArray f') = true → OpS P o f' w' fun v w'' => R i v w'' ∧ Ext w' w'') ∧ (Region.wanted o (yieldF l.toArray f') = false → R i undef w'))
    (hfin : ∀ f' w', Ext w w' → (∀ j, outside l j = true → f' j = f j) → (∀ i, i < l.length → R i (slotF l.toArray f' i) w') → Q .normal f' w') :
    W P N (.region id l.toArray true) Q f w := by
  intro a ha
  refine wp_region_any hm ?_
  refine wpAny_rel hok R hmono w f hops hfin _ _ a f _ (by simp) ha (Ext.draw w) (fun _ _ => rfl) (fun i hi h => ?_) ?_
  · simp [Array.getD_eq_getD_getElem?, Array.getElem?_replicate] at h
    rw [if_pos hi] at h
    cases h
  · have := List.length_filter_le (fun i => !(Array.replicate l.toArray.size false).getD i false) (List.range l.length)
    simpa using this
end
section
variable {Q : Exit → Fr → World → Prop} {n : Fr → World → Prop} {f : Fr} {w : World} {id id' : Nat}
theorem thenF_nor (h : n f w) : thenF n Q .normal f w := h
theorem thenF_ret (h : Q .ret f w) : thenF n Q .ret f w := h
theorem thenF_exit (h : Q (.exit id) f w) : thenF n Q (.exit id) f w := h
theorem blockF_nor (h : Q .normal f w) : blockF id Q .normal f w := h
theorem blockF_ret (h : Q .ret f w) : blockF id Q .ret f w := h
theorem blockF_hit (h : Q .normal f w) : blockF id Q (.exit id) f w := by simp only [blockF, Nat.beq_refl]; exact h
theorem blockF_miss (hne : Nat.beq id' id = false) (h : Q (.exit id') f w) : blockF id Q (.exit id') f w := by simp only [blockF, hne]; exact h
theorem scopeF_ret (h : Q .ret f w) : scopeF Q .ret f w := h
end
/-- the value of a guarded operation -/
def vif (g : Bool) (v : Value) : Value := bif g then v else undef
theorem vif_t {g : Bool} {v : Value} (h : g = true) : v = vif g v := by subst h; rfl
theorem vif_or {g x : Bool} {v : Value} (h : g = true) : vif (g && (x == false)) v = vif (!x) v := by subst h; cases x <;> rfl
theorem vif_f {g : Bool} {v : Value} (h : g = false) : undef = vif g v := by subst h; rfl
section
variable {P : Program} {N : Nat} {ops : Array Oper} {Q : Exit → Fr → World → Prop} {f : Fr} {w : World} {o : Oper} {rest : List Oper}
theorem L.guardv {g : Bool} {v : Value} (hw : Region.wanted o (yieldF ops f) = g) (h : g = true → (execOp (evalF f) o).run P w = .ok (.value v) w) (k : L P N ops Q rest (updo f o.dst (vif g v)) w) : L P N ops Q (o :: rest) f w :=
  L.guard (R := fun u w' => u = vif g v ∧ w = w') hw (fun hg => OpS.val (h hg) ⟨vif_t hg, rfl⟩) (fun hg => ⟨vif_f hg, rfl⟩) fun _ _ ⟨e1, e2⟩ => by subst e1; subst e2; exact k
theorem L.call {v : Value} (hg : o.guard = none) (h : OpS P o f w fun u w' => u = v ∧ Ext w w') (k : ∀ w', Ext w w' → L P N ops Q rest (updo f o.dst v) w') : L P N ops Q (o :: rest) f w :=
  L.step hg h fun _ w' ⟨e1, hx⟩ => by subst e1; exact k w' hx
theorem L.guardc {g : Bool} {v : Value} (hw : Region.wanted o (yieldF ops f) = g) (h : g = true → OpS P o f w fun u w' => u = v ∧ Ext w w') (k : ∀ w', Ext w w' → L P N ops Q rest (updo f o.dst (vif g v)) w') : L P N ops Q (o :: rest) f w :=
  L.guard (R := fun u w' => u = vif g v ∧ Ext w w') hw (fun hg => (h hg).mono fun u w' ⟨e, hx⟩ => ⟨e.trans (vif_t hg), hx⟩) (fun hg => ⟨vif_f hg, Ext.refl w⟩) fun _ w' ⟨e1, hx⟩ => by subst e1; exact k w' hx
end
structure Sp where
  p : Value → World → Prop
  mono : ∀ v w w', p v w → Ext w w' → p v w'
def Sp.eq (v : Value) : Sp := ⟨fun u _ => u = v, fun _ _ _ h _ => h⟩
def Sp.any : Sp := ⟨fun _ _ => True, fun _ _ _ h _ => h⟩
def spOf : List Sp → Nat → Sp
  | [], _ => Sp.any
  | s :: _, 0 => s
  | _ :: S, i + 1 => spOf S i
def waits (o : Oper) (j : Nat) : Bool := o.after.toList.any fun e => Region.binds .any e && Nat.beq e.on j
theorem of_waits {o : Oper} {j : Nat} (h : waits o j = true) : ∃ e ∈ o.after, Region.binds .any e = true ∧ e.on = j := by
 unfold waits at h; rw [List.any_eq_true] at h; obtain ⟨e, he, hb⟩ := h; rw [Bool.and_eq_true] at hb; exact ⟨e, by simpa using he, hb.1, Nat.eq_of_beq_eq_true hb.2⟩
def Obl (P : Program) (l : List Oper) (S : List Sp) (f : Fr) (w : World) (i : Nat) (o : Oper) : Prop :=
  ∀ (f' : Fr) (w' : World), Ext w w' → (∀ j, outside l j = true → f' j = f j) → (∀ j, waits o j = true → (spOf S j).p (slotF l.toArray f' j) w') →
    (Region.wanted o (yieldF l.toArray f') = true → OpS P o f' w' fun v w'' => (spOf S i).p v w'' ∧ Ext w' w'') ∧ (Region.wanted o (yieldF l.toArray f') = false → (spOf S i).p undef w')
def Obls (P : Program) (l : List Oper) (S : List Sp) (f : Fr) (w : World) : Nat → List Oper → Prop
  | _, [] => True
  | i, o :: r => Obl P l S f w i o ∧ Obls P l S f w (i + 1) r
section
variable {P : Program} {N : Nat} {Q : Exit → Fr → World → Prop} {f : Fr} {w : World} {l : List Oper} {S : List Sp} {i : Nat} {o : Oper} {r : List Oper}
theorem Obls.cons (h : Obl P l S f w i o) (hr : Obls P l S f w (i + 1) r) : Obls P l S f w i (o :: r) := ⟨h, hr⟩
theorem Obls.nil : Obls P l S f w i [] := trivial
theorem Obls.get {l0 : List Oper} : ∀ {l : List Oper} {i k : Nat} {o : Oper}, Obls P l0 S f w i l → l[k]? = some o → Obl P l0 S f w (i + k) o
  | [], _, _, _, _, hk => by simp at hk
  | x :: l, i, 0, o, h, hk => by simp at hk; subst hk; exact h.1
  | x :: l, i, k + 1, o, h, hk => by
    simp only [List.getElem?_cons_succ] at hk
    have := Obls.get h.2 hk
    rwa [show i + 1 + k = i + (k + 1) by omega] at this
theorem W.drawS {id : Nat} (S : List Sp) (hm : P.follows .mixedOrders = true) (hok : drawOk N l = true) (hobl : Obls P l S f w 0 l)
    (hfin : ∀ (f' : Fr) (w' : World), Ext w w' → (∀ j, outside l j = true → f' j = f j) → (∀ i, i < l.length → (spOf S i).p (slotF l.toArray f' i) w') → Q .normal f' w') : W P N (.region id l.toArray true) Q f w :=
  W.draw hm hok (fun i v w => (spOf S i).p v w) (fun i v w w' h hx => (spOf S i).mono v w w' h hx)
    (fun i o ho f' w' hx hout hd => by
      have := Obls.get hobl ho
      rw [Nat.zero_add] at this
      exact this f' w' hx hout fun j hj => by
        obtain ⟨e, he, hb, rfl⟩ := of_waits hj
        exact hd e he hb)
    hfin
theorem D.val {ops : Array Oper} {v : Value} (hg : o.guard = none) (h : (execOp (evalF f) o).run P w = .ok (.value v) w) :
    (Region.wanted o (yieldF ops f) = true → OpS P o f w fun u w'' => (Sp.eq v).p u w'' ∧ Ext w w'') ∧ (Region.wanted o (yieldF ops f) = false → (Sp.eq v).p undef w) :=
  ⟨fun _ => OpS.val h ⟨rfl, Ext.refl w⟩, fun hw => by rw [Region.wanted, hg] at hw; cases hw⟩
theorem D.call {ops : Array Oper} {R : Value → World → Prop} (hg : o.guard = none) (h : OpS P o f w fun u w' => R u w' ∧ Ext w w') :
    (Region.wanted o (yieldF ops f) = true → OpS P o f w fun u w'' => R u w'' ∧ Ext w w'') ∧ (Region.wanted o (yieldF ops f) = false → R undef w) :=
  ⟨fun _ => h, fun hw => by rw [Region.wanted, hg] at hw; cases hw⟩
theorem D.guardv {ops : Array Oper} {g : Bool} {v : Value} (hw : Region.wanted o (yieldF ops f) = g) (h : g = true → (execOp (evalF f) o).run P w = .ok (.value v) w) :
    (Region.wanted o (yieldF ops f) = true → OpS P o f w fun u w'' => (Sp.eq (vif g v)).p u w'' ∧ Ext w w'') ∧ (Region.wanted o (yieldF ops f) = false → (Sp.eq (vif g v)).p undef w) :=
  ⟨fun hh => OpS.val (h (hw.symm.trans hh)) ⟨vif_t (hw.symm.trans hh), Ext.refl w⟩, fun hh => vif_f (hw.symm.trans hh)⟩
theorem D.guardc {ops : Array Oper} {g : Bool} {v : Value} (hw : Region.wanted o (yieldF ops f) = g) (h : g = true → OpS P o f w fun u w' => u = v ∧ Ext w w') :
    (Region.wanted o (yieldF ops f) = true → OpS P o f w fun u w'' => (Sp.eq (vif g v)).p u w'' ∧ Ext w w'') ∧ (Region.wanted o (yieldF ops f) = false → (Sp.eq (vif g v)).p undef w) :=
  ⟨fun hh => (h (hw.symm.trans hh)).mono fun _ _ ⟨e, hx⟩ => ⟨e.trans (vif_t (hw.symm.trans hh)), hx⟩, fun hh => vif_f (hw.symm.trans hh)⟩
end
end Go.Fk
/-
  Data as the memory holds them (names, votes, outcomes, choices), and what each kind of operation does to a frame that is a function. No program in sight.
-/
namespace Go.Fk
open Go Go.RowKit
class Enc (α : Type) where
  cells : α → List Value
  size : Nat
  len : ∀ x, (cells x).length = size
  pos : 0 < size
  one : ∀ x, ∀ u ∈ cells x, u.oneCell' = true
  val : α → Value
  valCells : ∀ x, (val x).cells = (cells x).toArray
  inj : ∀ x y, cells x = cells y → x = y
instance encInt : Enc Int where
  cells x := [.int .i64 x]
  size := 1
  len _ := rfl
  pos := by decide
  one x u h := by simp at h; subst h; rfl
  val x := .int .i64 x
  valCells _ := rfl
  inj x y h := by simpa using h
/-- a name: eight bytes -/
structure Nm where
  n0 : UInt8
  n1 : UInt8
  n2 : UInt8
  n3 : UInt8
  n4 : UInt8
  n5 : UInt8
  n6 : UInt8
  n7 : UInt8
theorem Nm.ext_iff' (a b : Nm) : a = b ↔ (a.n0 = b.n0 ∧ a.n1 = b.n1 ∧ a.n2 = b.n2 ∧ a.n3 = b.n3 ∧ a.n4 = b.n4 ∧ a.n5 = b.n5 ∧ a.n6 = b.n6 ∧ a.n7 = b.n7) := by
 cases a; cases b; simp
instance : DecidableEq Nm := fun a b => decidable_of_iff _ (Nm.ext_iff' a b).symm
def u8 (x : UInt8) : Value := .int .u8 (x.toNat : Int)
theorem u8_inj {x y : UInt8} (h : u8 x = u8 y) : x = y := by
 simp only [u8, Value.int.injEq, true_and] at h; exact UInt8.toNat_inj.1 (by omega)
def Nm.cs (n : Nm) : List Value := [u8 n.n0, u8 n.n1, u8 n.n2, u8 n.n3, u8 n.n4, u8 n.n5, u8 n.n6, u8 n.n7]
instance encNm : Enc Nm where
  cells := Nm.cs
  size := 8
  len _ := rfl
  pos := by decide
  one x u h := by simp [Nm.cs] at h; rcases h with rfl | rfl | rfl | rfl | rfl | rfl | rfl | rfl <;> rfl
  val x := .agg x.cs.toArray
  valCells _ := rfl
  inj x y h := by
    simp only [Nm.cs, List.cons.injEq, and_true] at h
    obtain ⟨h0, h1, h2, h3, h4, h5, h6, h7⟩ := h
    exact (Nm.ext_iff' x y).2 ⟨u8_inj h0, u8_inj h1, u8_inj h2, u8_inj h3, u8_inj h4, u8_inj h5, u8_inj h6, u8_inj h7⟩
def Nm.zero : Nm := ⟨0, 0, 0, 0, 0, 0, 0, 0⟩
/-- a vote -/
structure Vt where
  kind : Int
  slot : Int
  round : Int
  choice : Int
  signer : Int
  support : Int
  parent : Nm
  value : Nm
theorem Vt.ext_iff' (a b : Vt) : a = b ↔ (a.kind = b.kind ∧ a.slot = b.slot ∧ a.round = b.round ∧ a.choice = b.choice ∧ a.signer = b.signer ∧ a.support = b.support ∧ a.parent = b.parent ∧ a.value = b.value) := by
 cases a; cases b; simp
instance : DecidableEq Vt := fun a b => decidable_of_iff _ (Vt.ext_iff' a b).symm
abbrev i64 (x : Int) : Value := .int .i64 x
def Vt.cs (v : Vt) : List Value := [i64 v.kind, i64 v.slot, i64 v.round, i64 v.choice, i64 v.signer, i64 v.support, u8 v.parent.n0, u8 v.parent.n1, u8 v.parent.n2, u8 v.parent.n3, u8 v.parent.n4, u8 v.parent.n5, u8 v.parent.n6, u8 v.parent.n7,
  u8 v.value.n0, u8 v.value.n1, u8 v.value.n2, u8 v.value.n3, u8 v.value.n4, u8 v.value.n5, u8 v.value.n6, u8 v.value.n7]
theorem Vt.cs_eq (v : Vt) : v.cs = [i64 v.kind, i64 v.slot, i64 v.round, i64 v.choice, i64 v.signer, i64 v.support] ++ v.parent.cs ++ v.value.cs := rfl
instance encVt : Enc Vt where
  cells := Vt.cs
  size := 22
  len _ := rfl
  pos := by decide
  one x u h := by
    rw [Vt.cs_eq, List.mem_append, List.mem_append] at h
    rcases h with (h | h) | h
    · simp at h; rcases h with rfl | rfl | rfl | rfl | rfl | rfl <;> rfl
    · exact encNm.one _ u h
    · exact encNm.one _ u h
  val x := .agg x.cs.toArray
  valCells _ := rfl
  inj x y h := by
    rw [Vt.cs_eq, Vt.cs_eq, List.append_assoc, List.append_assoc] at h
    obtain ⟨h1, h2⟩ := List.append_inj h rfl
    obtain ⟨h2, h3⟩ := List.append_inj h2 rfl
    simp only [i64, List.cons.injEq, Value.int.injEq, true_and, and_true] at h1
    obtain ⟨a, b, c, d, e, f⟩ := h1
    exact (Vt.ext_iff' x y).2 ⟨a, b, c, d, e, f, encNm.inj _ _ h2, encNm.inj _ _ h3⟩
/-- an outcome -/
structure Oc where
  slot : Int
  round : Int
  choice : Int
  value : Nm
theorem Oc.ext_iff' (a b : Oc) : a = b ↔ (a.slot = b.slot ∧ a.round = b.round ∧ a.choice = b.choice ∧ a.value = b.value) := by
 cases a; cases b; simp
instance : DecidableEq Oc := fun a b => decidable_of_iff _ (Oc.ext_iff' a b).symm
def Oc.cs (v : Oc) : List Value := [i64 v.slot, i64 v.round, i64 v.choice, u8 v.value.n0, u8 v.value.n1, u8 v.value.n2, u8 v.value.n3, u8 v.value.n4, u8 v.value.n5, u8 v.value.n6, u8 v.value.n7]
theorem Oc.cs_eq (v : Oc) : v.cs = [i64 v.slot, i64 v.round, i64 v.choice] ++ v.value.cs := rfl
instance encOc : Enc Oc where
  cells := Oc.cs
  size := 11
  len _ := rfl
  pos := by decide
  one x u h := by
    rw [Oc.cs_eq, List.mem_append] at h
    rcases h with h | h
    · simp at h; rcases h with rfl | rfl | rfl <;> rfl
    · exact encNm.one _ u h
  val x := .agg x.cs.toArray
  valCells _ := rfl
  inj x y h := by
    rw [Oc.cs_eq, Oc.cs_eq] at h
    obtain ⟨h1, h2⟩ := List.append_inj h rfl
    simp only [i64, List.cons.injEq, Value.int.injEq, true_and, and_true] at h1
    obtain ⟨a, b, c⟩ := h1
    exact (Oc.ext_iff' x y).2 ⟨a, b, c, encNm.inj _ _ h2⟩
/-- a choice: one slot of a block -/
structure Ch where
  validator : Int
  value : Nm
theorem Ch.ext_iff' (a b : Ch) : a = b ↔ (a.validator = b.validator ∧ a.value = b.value) := by
 cases a; cases b; simp
instance : DecidableEq Ch := fun a b => decidable_of_iff _ (Ch.ext_iff' a b).symm
def Ch.cs (v : Ch) : List Value := [i64 v.validator, u8 v.value.n0, u8 v.value.n1, u8 v.value.n2, u8 v.value.n3, u8 v.value.n4, u8 v.value.n5, u8 v.value.n6, u8 v.value.n7]
theorem Ch.cs_eq (v : Ch) : v.cs = [i64 v.validator] ++ v.value.cs := rfl
instance encCh : Enc Ch where
  cells := Ch.cs
  size := 9
  len _ := rfl
  pos := by decide
  one x u h := by
    rw [Ch.cs_eq, List.mem_append] at h
    rcases h with h | h
    · simp at h; subst h; rfl
    · exact encNm.one _ u h
  val x := .agg x.cs.toArray
  valCells _ := rfl
  inj x y h := by
    rw [Ch.cs_eq, Ch.cs_eq] at h
    obtain ⟨h1, h2⟩ := List.append_inj h rfl
    simp only [i64, List.cons.injEq, Value.int.injEq, true_and, and_true] at h1
    exact (Ch.ext_iff' x y).2 ⟨h1, encNm.inj _ _ h2⟩
def Cells (w : World) (p : Addr) (cs : List Value) : Prop := ∀ (j : Nat) (u : Value), cs[j]? = some u → w.cell? (p.add j) = some u
theorem Cells.ext {w w' : World} {p : Addr} {cs : List Value} (h : Cells w p cs) (hx : Ext w w') : Cells w' p cs := fun j u hu => hx.cell (h j u hu)
theorem add_add (a : Addr) (i j : Nat) : (a.add i).add j = a.add (i + j) := by
 unfold Addr.add; by_cases hi : i = 0 <;> by_cases hj : j = 0 <;> simp [hi, hj, Nat.add_assoc]
theorem add_block (a : Addr) (n : Nat) : (a.add n).block = a.block := by unfold Addr.add; split <;> rfl
theorem Cells.sub {w : World} {p : Addr} {cs ds : List Value} (h : Cells w p cs) (n : Nat) (hd : ∀ j u, ds[j]? = some u → cs[n + j]? = some u) : Cells w (p.add n) ds :=
  fun j u hu => by rw [add_add]; exact h _ u (hd j u hu)
theorem Cells.one {w : World} {p : Addr} {cs : List Value} (h : Cells w p cs) {n : Nat} {v : Value} (hv : cs[n]? = some v) : w.cell? (p.add n) = some v := h n v hv
/-- block b is just these cells, of type t -/
def Box (w : World) (b : Nat) (t : TypeId) (cs : List Value) : Prop := w.heap[b]? = some (.cells cs.toArray t (0, 0))
theorem Box.ext {w w' : World} {b : Nat} {t : TypeId} {cs : List Value} (h : Box w b t cs) (hx : Ext w w') : Box w' b t cs := hx.obj h
theorem Box.lt {w : World} {b : Nat} {t : TypeId} {cs : List Value} (h : Box w b t cs) : b < w.heap.size := (Array.getElem?_eq_some_iff.1 h).1
theorem Box.cells {w : World} {b : Nat} {t : TypeId} {cs : List Value} (h : Box w b t cs) : Cells w ⟨b, 0, none⟩ cs := fun j u hu => by
  have : (⟨b, 0, none⟩ : Addr).add j = ⟨b, j, none⟩ := by unfold Addr.add; split <;> simp_all
  rw [this, cell_of_row w b j cs.toArray t (0, 0) h]
  simpa using hu
theorem Box.far {w w' : World} {b : Nat} {t : TypeId} {cs : List Value} (h : Box w b t cs) {g : Option Nat} (hg : w.grownBy w' g) (hne : some b ≠ g) : Box w' b t cs := (hg.block b h.lt hne).trans h
/-- the slice with this address reads as the list; its blocks lie from lo to below hi -/
def Rd {α : Type} [Enc α] (w : World) (lo hi : Nat) (A : Option Addr) (l : List α) : Prop :=
  l.length ≤ 9223372036854775807 ∧ (0 < l.length → ∃ ad : Addr, A = some ad ∧ lo ≤ ad.block ∧ ad.block < hi ∧ ∀ (k : Nat) (x : α), l[k]? = some x → Cells w (ad.add (k * Enc.size α)) (Enc.cells x))
section
variable {α : Type} [Enc α] {w w' : World} {lo hi : Nat} {A : Option Addr} {l : List α}
theorem Rd.len (h : Rd w lo hi A l) : l.length ≤ 9223372036854775807 := h.1
theorem Rd.ext (h : Rd w lo hi A l) (hx : Ext w w') : Rd w' lo hi A l := ⟨h.1, fun hn => by
  obtain ⟨ad, e, h1, h2, hc⟩ := h.2 hn
  exact ⟨ad, e, h1, h2, fun k x hk => (hc k x hk).ext hx⟩⟩
theorem Rd.get (h : Rd w lo hi A l) {k : Nat} {x : α} (hk : l[k]? = some x) : ∃ ad : Addr, A = some ad ∧ lo ≤ ad.block ∧ ad.block < hi ∧ Cells w (ad.add (k * Enc.size α)) (Enc.cells x) := by
 have hlt : k < l.length := (List.getElem?_eq_some_iff.1 hk).1; obtain ⟨ad, e, h1, h2, hc⟩ := h.2 (by omega); exact ⟨ad, e, h1, h2, hc k x hk⟩
theorem Rd.take (h : Rd w lo hi A l) (n : Nat) : Rd w lo hi A (l.take n) := ⟨by have := List.length_take_le' n l; have := h.1; omega, fun hn => by
  have hl : 0 < l.length := by have := List.length_take_le n l; have := List.length_take_le' n l; omega
  obtain ⟨ad, e, h1, h2, hc⟩ := h.2 hl
  refine ⟨ad, e, h1, h2, fun k x hk => hc k x ?_⟩
  rw [List.getElem?_take] at hk
  split at hk
  · exact hk
  · cases hk⟩
theorem Rd.nil (w : World) (lo hi : Nat) (A : Option Addr) : Rd w lo hi A ([] : List α) := ⟨by simp, fun h => absurd h (by simp)⟩
theorem Rd.mono {lo' hi' : Nat} (h : Rd w lo hi A l) (h1 : lo' ≤ lo) (h2 : hi ≤ hi') : Rd w lo' hi' A l := ⟨h.1, fun hn => by
  obtain ⟨ad, e, h3, h4, hc⟩ := h.2 hn
  exact ⟨ad, e, by omega, by omega, hc⟩⟩
theorem Rd.drop {k cap : Nat} (h : Rd w lo hi A l) (hk : k ≤ l.length) (hc : l.length ≤ cap) : Rd w lo hi (if cap = k then A else A.map (·.add (k * Enc.size α))) (l.drop k) := ⟨by have := h.1; rw [List.length_drop]; omega, fun hn => by
  rw [List.length_drop] at hn
  obtain ⟨ad, e, h1, h2, hcc⟩ := h.2 (by omega)
  rw [if_neg (by omega)]
  subst e
  refine ⟨ad.add (k * Enc.size α), rfl, by rw [add_block]; exact h1, by rw [add_block]; exact h2, fun j x hj => ?_⟩
  rw [add_add, ← Nat.add_mul]
  exact hcc _ x (by rw [← hj, List.getElem?_drop])⟩
end
/-- the slice v is the call's own, from block base on, and holds the list -/
def Own {α : Type} [Enc α] (w : World) (base : Nat) (e : TypeId) (v : Value) (l : List α) : Prop := w.ownsRow base e (Enc.size α) v l.length (l.flatMap Enc.cells)
section
variable {α : Type} [Enc α] {w w' : World} {base : Nat} {e : TypeId} {v : Value} {l : List α}
theorem Own.nil (w : World) (base : Nat) (e : TypeId) : Own w base e (.slice none 0 0) ([] : List α) := World.ownsRow_nil _ _ _ _
theorem flat_get (l : List α) (k : Nat) (x : α) (h : l[k]? = some x) (j : Nat) (u : Value) (hu : (Enc.cells x)[j]? = some u) : (l.flatMap Enc.cells)[k * Enc.size α + j]? = some u := by
 induction l generalizing k with
 | nil => simp at h
 | cons y l ih =>
  have hlen := Enc.len y
  cases k with
  | zero =>
    simp only [List.getElem?_cons_zero, Option.some.injEq] at h
    subst h
    have hj : j < (Enc.cells y).length := (List.getElem?_eq_some_iff.1 hu).1
    rw [List.flatMap_cons, Nat.zero_mul, Nat.zero_add, List.getElem?_append_left hj]
    exact hu
  | succ k =>
    simp only [List.getElem?_cons_succ] at h
    rw [List.flatMap_cons, List.getElem?_append_right (by rw [hlen, Nat.succ_mul]; omega), hlen, show (k + 1) * Enc.size α + j - Enc.size α = k * Enc.size α + j by rw [Nat.succ_mul]; omega]
    exact ih k h
theorem Own.form (h : Own w base e v l) : ∃ A c, v = .slice A l.length c ∧ Rd w base w.heap.size A l ∧ l.length ≤ c := by
 rcases h.2 with ⟨rfl, h0⟩ | ⟨g, cap, cur, rfl, hb, hg, hnc, hcm, hcs, htake⟩
 ·exact ⟨none, 0, by rw [h0], ⟨by omega, fun hn => by omega⟩, by omega⟩
 ·refine ⟨_, cap, rfl, ⟨by unfold maxLen at hcm; omega, fun _ => ⟨⟨g, 0, none⟩, rfl, hb, (Array.getElem?_eq_some_iff.1 hg).1, fun k x hk j u hu => ?_⟩⟩, hnc⟩; rw [add_add]; exact h.cells (g := g) rfl _ u (flat_get l k x hk j u hu)
theorem Own.kept {g : Option Nat} (h : Own w base e v l) (hg : w.grownBy w' g) (hne : v.ownBlock = none ∨ v.ownBlock ≠ g) : Own w' base e v l := World.ownsRow.kept h hg hne
theorem ext_grown {w w' : World} (hx : Ext w w') : w.grownBy w' none := ⟨Below.os hx, Below.tape hx, Below.output hx, hx.size, fun _ hk _ => hx.block hk⟩
theorem Own.ext (h : Own w base e v l) (hx : Ext w w') : Own w' base e v l := h.kept (ext_grown hx) (by cases v.ownBlock <;> simp)
theorem Own.lt (h : Own w base e v l) : ∀ k, v.ownBlock = some k → base ≤ k ∧ k < w.heap.size := World.ownsRow.lt h
theorem Ext.grown {a w w' : World} {g : Option Nat} (hx : Ext a w) (hg : w.grownBy w' g) (hr : ∀ k, g = some k → a.heap.size ≤ k) : Ext a w' := Below.grown hx hg hx.size hr
theorem Ext.own {a : World} (hx : Ext a w) (h : Own w a.heap.size e v l) {w' : World} (hg : w.grownBy w' v.ownBlock) : Ext a w' := hx.grown hg fun k hk => (h.lt k hk).1
theorem Own.rd {A : Option Addr} {n c : Nat} (h : Own w base e (.slice A n c) l) : n = l.length ∧ Rd w base w.heap.size A l ∧ n ≤ c := by
 obtain ⟨A', c', hv, hr, hc⟩ := h.form; injection hv with h1 h2 h3; subst h1 h2 h3; exact ⟨rfl, hr, hc⟩
end
/-- values of type t are data of α: how they are read and how great they are -/
structure TyEnc (P : Program) (t : TypeId) (α : Type) [Enc α] : Prop where
  load : ∀ (w : World) (p : Addr) (x : α), Cells w p (Enc.cells x) → (loadVar t p).run P w = .ok (Enc.val x) w
  size : (P.info? t).map (·.size) = some (Enc.size α)
def isAggT (P : Program) (t : TypeId) : Bool := match P.underlying t with | some (.struct _) | some (.array _ _) => true | _ => false
def isOneT (P : Program) (t : TypeId) : Bool := match P.underlying t with | some (.struct _) | some (.array _ _) | none => false | _ => true
theorem TyEnc.agg {P : Program} {t : TypeId} {α : Type} [Enc α] (h : isAggT P t = true) (hs : (P.info? t).map (·.size) = some (Enc.size α)) (hv : ∀ x : α, Enc.val x = .agg (Enc.cells x).toArray) : TyEnc P t α := by
 refine ⟨fun w p x hc => ?_, hs⟩
 have hsz : (sizeOf t).run P w = .ok (Enc.cells x).length w := by
  cases hi : P.info? t with
  | none => rw [hi] at hs; cases hs
  | some i =>
    rw [hi] at hs
    simp only [Option.map_some, Option.some.injEq] at hs
    simp [sizeOf, typeInfo, hi, hs, Enc.len]
 have hl := run_loadCells_list (P := P) w p (Enc.cells x) hc
 have ha : (isAgg t).run P w = .ok true w := by
  cases hu : P.underlying t with
  | none => simp [isAggT, hu] at h
  | some d =>
    cases d <;> simp [isAggT, hu] at h <;> simp [isAgg, run_underlying hu]
 simp [loadVar, ha, hsz, hl, hv]
theorem run_load_one {P : Program} {t : TypeId} (h : isOneT P t = true) {w : World} {p : Addr} {v : Value} (hc : w.cell? p = some v) : (loadVar t p).run P w = .ok v w := by
 have ha : (isAgg t).run P w = .ok false w := by
  cases hu : P.underlying t with
  | none => simp [isOneT, hu] at h
  | some d =>
    cases d <;> simp [isOneT, hu] at h <;> simp [isAgg, run_underlying hu]
 simp [loadVar, ha, hc]
theorem TyEnc.int {P : Program} {t : TypeId} (h : isOneT P t = true) (hs : (P.info? t).map (·.size) = some 1) : TyEnc P t Int := by
 refine ⟨fun w p x hc => ?_, hs⟩; have := hc 0 _ rfl; rw [Addr.add_zero'] at this; exact run_load_one h this
/-- field i of type s lies off cells behind its beginning -/
def FieldOff (P : Program) (s : TypeId) (i off : Nat) : Prop := ∀ (w : World) (a : Addr), (Instr.fieldAt s (.pointer (some a)) i).run P w = .ok (.pointer (some (a.add off))) w
theorem FieldOff.mk {P : Program} {s : TypeId} {i off : Nat} {fs : Array Field} {fl : Field} {n : Nat} (hu : P.underlying s = some (.struct fs)) (hf : fs[i]? = some fl) (ho : fl.offset = off) (hs : (P.info? fl.type).map (·.size) = some (n + 1)) : FieldOff P s i off := by
 intro w a; cases hi : P.info? fl.type with
 | none => rw [hi] at hs; cases hs
 | some it =>
  rw [hi] at hs
  simp only [Option.map_some, Option.some.injEq] at hs
  simp [Instr.fieldAt, run_underlying hu, hf, Instr.sureAddr, fieldPlace, sizeOf, typeInfo, hi, hs, ho]
/-- '==' at type t tells data apart -/
def EqEnc (P : Program) (t : TypeId) (α : Type) [Enc α] [DecidableEq α] : Prop := ∀ (w : World) (x y : α), (Op.equal t (Enc.val x) (Enc.val y)).run P w = .ok (decide (x = y)) w
/-- the same at every depth from k on -/
def EqDeep (P : Program) (t : TypeId) (α : Type) [Enc α] [DecidableEq α] (k : Nat) : Prop := ∀ (d : Nat) (w : World) (x y : α), (Op.equalIn (d + k) t (Enc.val x) (Enc.val y)).run P w = .ok (decide (x = y)) w
theorem EqDeep.enc {P : Program} {t : TypeId} {α : Type} [Enc α] [DecidableEq α] {k : Nat} (h : EqDeep P t α k) (hk : k ≤ 10000) : EqEnc P t α := fun w x y => by
  have := h (10000 - k) w x y
  rw [Nat.sub_add_cancel hk] at this
  exact this
theorem EqDeep.int {P : Program} {t : TypeId} {k : IntKind} (h : P.underlying t = some (.int k)) : EqDeep P t Int 1 := fun d w x y => run_equalIn_int w d t .i64 k x y h
def Nm.bytes (n : Nm) : List UInt8 := [n.n0, n.n1, n.n2, n.n3, n.n4, n.n5, n.n6, n.n7]
theorem EqDeep.nm {P : Program} {t e : TypeId} (ht : P.underlying t = some (.array 8 e)) (he : P.underlying e = some (.int .u8)) (hs : (P.info? e).map (·.size) = some 1) : EqDeep P t Nm 2 := fun d w x y => by
  have hsz : ∀ w, (Go.sizeOf e).run P w = .ok 1 w := fun w => by
    cases hi : P.info? e with
    | none => rw [hi] at hs; cases hs
    | some i =>
      rw [hi] at hs
      simp only [Option.map_some, Option.some.injEq] at hs
      simp [Go.sizeOf, typeInfo, hi, hs]
  have h := run_equalIn_bytes (P := P) w d t e 8 ht he hsz x.bytes y.bytes rfl rfl
  refine h.trans ?_
  congr 1
  rw [Bool.eq_iff_iff, beq_iff_eq, decide_eq_true_eq, Nm.ext_iff']
  simp [Nm.bytes]
/-- one field more: 'eqFields' goes on where the parts are alike -/
theorem eqFields_cons {P : Program} {w : World} {d : Nat} {xs ys : Array Value} {fl : Field} {fs : List Field} {u v : Value} {b r : Bool} (hn : fl.name ≠ "_") (hx : (part fl.type xs fl.offset).run P w = .ok u w) (hy : (part fl.type ys fl.offset).run P w = .ok v w)
    (he : (Op.equalIn d fl.type u v).run P w = .ok b w) (hr : (Op.eqFields d xs ys fs).run P w = .ok r w) : (Op.eqFields d xs ys (fl :: fs)).run P w = .ok (b && r) w := by
  simp only [Op.eqFields, if_pos hn, Sem.run_bind, hx, hy, he, Result.andThen_ok]
  cases b with
  | true => simpa using hr
  | false => simp
theorem eqFields_nil {P : Program} {w : World} {d : Nat} {xs ys : Array Value} : (Op.eqFields d xs ys []).run P w = .ok true w := rfl
theorem eqStruct {P : Program} {w : World} {t : TypeId} {fs : List Field} {d : Nat} {xs ys : Array Value} {b r : Bool} (hu : P.underlying t = some (.struct fs.toArray)) (hp : P.stoodInHeld t = false) (h : (Op.eqFields (d + 2) xs ys fs).run P w = .ok b w) (hb : b = r) :
    (Op.equalIn (d + 3) t (.agg xs) (.agg ys)).run P w = .ok r w := by
  subst hb
  have hf : (P.fieldsOf t).toList = fs := by simp [Program.fieldsOf, hu]
  rw [run_equalIn_struct (P := P) w (d + 2) t xs ys (by simp [Program.fieldsOf, hu]) hp, hf]
  exact h
theorem part_one {P : Program} {w : World} {t : TypeId} {cs : List Value} {off : Nat} {v : Value} (h : isOneT P t = true) (hc : cs[off]? = some v) : (part t cs.toArray off).run P w = .ok v w := by
 have ha : (isAgg t).run P w = .ok false w := by
  cases hu : P.underlying t with
  | none => simp [isOneT, hu] at h
  | some d =>
    cases d <;> simp [isOneT, hu] at h <;> simp [isAgg, run_underlying hu]
 simp [part, ha, hc]
theorem part_agg {P : Program} {w : World} {t : TypeId} {cs ds : List Value} {off n : Nat} (h : isAggT P t = true) (hs : (P.info? t).map (·.size) = some n) (hc : (cs.drop off).take n = ds) : (part t cs.toArray off).run P w = .ok (.agg ds.toArray) w := by
 have ha : (isAgg t).run P w = .ok true w := by
  cases hu : P.underlying t with
  | none => simp [isAggT, hu] at h
  | some d =>
    cases d <;> simp [isAggT, hu] at h <;> simp [isAgg, run_underlying hu]
 have hsz : (Go.sizeOf t).run P w = .ok n w := by
  cases hi : P.info? t with
  | none => rw [hi] at hs; cases hs
  | some i =>
    rw [hi] at hs
    simp only [Option.map_some, Option.some.injEq] at hs
    simp [Go.sizeOf, typeInfo, hi, hs]
 subst hc; simp [part, ha, hsz]
/-- slices of type t have elements of type e, data of α -/
structure TySl (P : Program) (t e : TypeId) (α : Type) [Enc α] : Prop where
  under : P.underlying t = some (.slice e)
  elem : TyEnc P e α
theorem TyEnc.sizeOf {P : Program} {t : TypeId} {α : Type} [Enc α] (h : TyEnc P t α) (w : World) : (Go.sizeOf t).run P w = .ok (Enc.size α) w := by
 have hs := h.size; cases hi : P.info? t with
 | none => rw [hi] at hs; cases hs
 | some i =>
  rw [hi] at hs
  simp only [Option.map_some, Option.some.injEq] at hs
  simp [Go.sizeOf, typeInfo, hi, hs]
section
variable {P : Program} {o : Oper} {f : Fr} {w : World}
theorem op_move {x : Operand} {v : Value} (ho : o.op = .move x) (hx : evalF f x = v) : (execOp (evalF f) o).run P w = .ok (.value v) w := by
 unfold execOp; simp only [ho, hx]; rfl
theorem op_assign {x : Operand} {v : Value} (ho : o.op = .assign x) (hx : evalF f x = v) : (execOp (evalF f) o).run P w = .ok (.value v) w := by
 unfold execOp; simp only [ho, hx]; rfl
theorem op_pick {c x y : Operand} {b : Bool} {v : Value} (ho : o.op = .pick c x y) (hc : evalF f c = .bool b) (hx : b = true → evalF f x = v) (hy : b = false → evalF f y = v) : (execOp (evalF f) o).run P w = .ok (.value v) w := by
 unfold execOp; simp only [ho, hc]; cases b with
 | true => simp [asBool, hx rfl]; | false => simp [asBool, hy rfl]
theorem op_or {c x y : Operand} {b e : Bool} (ho : o.op = .pick c x y) (hc : evalF f c = .bool b) (hx : evalF f x = .bool true) (hy : evalF f y = vif (!b) (.bool e)) : (execOp (evalF f) o).run P w = .ok (.value (.bool (b || e))) w :=
  op_pick ho hc (fun h => by subst h; exact hx) (fun h => by subst h; exact hy)
theorem op_and {c x y : Operand} {b e : Bool} (ho : o.op = .pick c x y) (hc : evalF f c = .bool b) (hx : evalF f x = vif b (.bool e)) (hy : evalF f y = .bool false) : (execOp (evalF f) o).run P w = .ok (.value (.bool (b && e))) w :=
  op_pick ho hc (fun h => by subst h; exact hx) (fun h => by subst h; exact hy)
theorem wanted_bool {ops : Array Oper} {j d : Nat} {want b : Bool} (hg : o.guard = some (j, want)) (hd : (ops[j]?).bind (·.dst) = some d) (hv : f d = .bool b) : Region.wanted o (yieldF ops f) = (b == want) := by
 unfold Region.wanted; rw [hg]; simp only [yieldF, hd, hv]; cases b <;> cases want <;> rfl
theorem wanted_yes {ops : Array Oper} {j d : Nat} {b : Bool} (hg : o.guard = some (j, true)) (hd : (ops[j]?).bind (·.dst) = some d) (hv : f d = .bool b) : Region.wanted o (yieldF ops f) = b := by
 rw [wanted_bool hg hd hv]; cases b <;> rfl
theorem wanted_no {ops : Array Oper} {j d : Nat} {b : Bool} (hg : o.guard = some (j, false)) (hd : (ops[j]?).bind (·.dst) = some d) (hv : f d = .bool b) : Region.wanted o (yieldF ops f) = !b := by
 rw [wanted_bool hg hd hv]; cases b <;> rfl
theorem wanted_vif {ops : Array Oper} {j d : Nat} {want g b : Bool} (hg : o.guard = some (j, want)) (hd : (ops[j]?).bind (·.dst) = some d) (hv : f d = vif g (.bool b)) : Region.wanted o (yieldF ops f) = (g && (b == want)) := by
 unfold Region.wanted; rw [hg]; simp only [yieldF, hd, hv]; cases g <;> cases b <;> cases want <;> rfl
theorem op_field {s : TypeId} {x : Operand} {i off : Nat} {p q : Addr} (ho : o.op = .fieldAddr s x i) (hx : evalF f x = .pointer (some p)) (hf : FieldOff P s i off) (hq : p.add off = q) : (execOp (evalF f) o).run P w = .ok (.value (.pointer (some q))) w := by
 subst hq; unfold execOp; simp only [ho, hx, Sem.run_bind, hf w p, Result.andThen_ok]; rfl
theorem op_load {α : Type} [Enc α] {t : TypeId} {x : Operand} {p : Addr} {v : α} (ho : o.op = .load t x) (hx : evalF f x = .pointer (some p)) (T : TyEnc P t α) (hc : Cells w p (Enc.cells v)) : (execOp (evalF f) o).run P w = .ok (.value (Enc.val v)) w := by
 unfold execOp; simp only [ho, hx, Instr.loadAt, Instr.sureAddr, Sem.run_bind, Sem.run_pure, Result.andThen_ok, T.load w p v hc]
theorem op_load1 {t : TypeId} {x : Operand} {p : Addr} {v : Value} (ho : o.op = .load t x) (hx : evalF f x = .pointer (some p)) (h1 : isOneT P t = true) (hc : w.cell? p = some v) : (execOp (evalF f) o).run P w = .ok (.value v) w := by
 unfold execOp; simp only [ho, hx, Instr.loadAt, Instr.sureAddr, Sem.run_bind, Sem.run_pure, Result.andThen_ok, run_load_one h1 hc]
theorem op_not {t : TypeId} {x : Operand} {b : Bool} (ho : o.op = .unOp .not t x) (hx : evalF f x = .bool b) : (execOp (evalF f) o).run P w = .ok (.value (.bool (!b))) w := by
 unfold execOp; simp [ho, hx, Op.unary]
theorem op_int {bo : BinOp} {t ty : TypeId} {x y : Operand} {k : IntKind} {a b : Int} {v : Value} (ho : o.op = .binOp bo t x y ty) (hx : evalF f x = .int k a) (hy : evalF f y = .int k b) (hv : binOp bo t (.int k a) (.int k b) = pure v) : (execOp (evalF f) o).run P w = .ok (.value v) w := by
 unfold execOp; simp only [ho, hx, hy, Sem.run_bind, eqGuard_at_int, Sem.run_pure, Result.andThen_ok, hv]
theorem op_eql {t ty : TypeId} {x y : Operand} {k : IntKind} {a b : Int} (ho : o.op = .binOp .eql t x y ty) (hx : evalF f x = .int k a) (hy : evalF f y = .int k b) : (execOp (evalF f) o).run P w = .ok (.value (.bool (decide (a = b)))) w :=
  op_int ho hx hy (by rw [binOp_eql]; rfl)
theorem op_neq {t ty : TypeId} {x y : Operand} {k : IntKind} {a b : Int} (ho : o.op = .binOp .neq t x y ty) (hx : evalF f x = .int k a) (hy : evalF f y = .int k b) : (execOp (evalF f) o).run P w = .ok (.value (.bool (!decide (a = b)))) w :=
  op_int ho hx hy (by rw [binOp_neq]; rfl)
theorem op_lss {t ty : TypeId} {x y : Operand} {k : IntKind} {a b : Int} (ho : o.op = .binOp .lss t x y ty) (hx : evalF f x = .int k a) (hy : evalF f y = .int k b) : (execOp (evalF f) o).run P w = .ok (.value (.bool (decide (a < b)))) w :=
  op_int ho hx hy (binOp_lss _ _ _ _)
theorem op_leq {t ty : TypeId} {x y : Operand} {k : IntKind} {a b : Int} (ho : o.op = .binOp .leq t x y ty) (hx : evalF f x = .int k a) (hy : evalF f y = .int k b) : (execOp (evalF f) o).run P w = .ok (.value (.bool (decide (a ≤ b)))) w :=
  op_int ho hx hy (binOp_leq _ _ _ _)
theorem op_gtr {t ty : TypeId} {x y : Operand} {k : IntKind} {a b : Int} (ho : o.op = .binOp .gtr t x y ty) (hx : evalF f x = .int k a) (hy : evalF f y = .int k b) : (execOp (evalF f) o).run P w = .ok (.value (.bool (decide (b < a)))) w :=
  op_int ho hx hy (by rw [binOp_gtr])
theorem op_geq {t ty : TypeId} {x y : Operand} {k : IntKind} {a b : Int} (ho : o.op = .binOp .geq t x y ty) (hx : evalF f x = .int k a) (hy : evalF f y = .int k b) : (execOp (evalF f) o).run P w = .ok (.value (.bool (decide (b ≤ a)))) w :=
  op_int ho hx hy (by rw [binOp_geq])
theorem wrap_in {n : Int} (h : -9223372036854775808 ≤ n ∧ n < 9223372036854775808) : IntKind.i64.wrap n = n := by
 simp only [IntKind.wrap, IntKind.bits, IntKind.signed]; simp; omega
theorem op_add {t ty : TypeId} {x y : Operand} {a b c : Int} (ho : o.op = .binOp .add t x y ty) (hx : evalF f x = .int .i64 a) (hy : evalF f y = .int .i64 b) (hc : a + b = c) (hr : -9223372036854775808 ≤ c ∧ c < 9223372036854775808) : (execOp (evalF f) o).run P w = .ok (.value (.int .i64 c)) w :=
  op_int ho hx hy (by rw [binOp_add]; show pure _ = _; rw [hc, wrap_in hr])
theorem op_sub {t ty : TypeId} {x y : Operand} {a b c : Int} (ho : o.op = .binOp .sub t x y ty) (hx : evalF f x = .int .i64 a) (hy : evalF f y = .int .i64 b) (hc : a - b = c) (hr : -9223372036854775808 ≤ c ∧ c < 9223372036854775808) : (execOp (evalF f) o).run P w = .ok (.value (.int .i64 c)) w :=
  op_int ho hx hy (by rw [binOp_sub]; show pure _ = _; rw [hc, wrap_in hr])
/-- the bits of two ints -/
def iand (a b : Int) : Int := bits .and .i64 a b
def ior (a b : Int) : Int := bits .or .i64 a b
def iandn (a b : Int) : Int := bits .andNot .i64 a b
def ishl (a b : Int) : Int := IntKind.i64.wrap (a * 2 ^ b.toNat)
theorem op_iand {t ty : TypeId} {x y : Operand} {a b : Int} (ho : o.op = .binOp .and t x y ty) (hx : evalF f x = .int .i64 a) (hy : evalF f y = .int .i64 b) : (execOp (evalF f) o).run P w = .ok (.value (.int .i64 (iand a b))) w :=
  op_int ho hx hy (by rw [binOp_and]; rfl)
theorem op_ior {t ty : TypeId} {x y : Operand} {a b : Int} (ho : o.op = .binOp .or t x y ty) (hx : evalF f x = .int .i64 a) (hy : evalF f y = .int .i64 b) : (execOp (evalF f) o).run P w = .ok (.value (.int .i64 (ior a b))) w :=
  op_int ho hx hy (by rw [binOp_or]; rfl)
theorem op_iandn {t ty : TypeId} {x y : Operand} {a b : Int} (ho : o.op = .binOp .andNot t x y ty) (hx : evalF f x = .int .i64 a) (hy : evalF f y = .int .i64 b) : (execOp (evalF f) o).run P w = .ok (.value (.int .i64 (iandn a b))) w :=
  op_int ho hx hy (by rw [binOp_andNot]; rfl)
theorem op_shr {t ty : TypeId} {x y : Operand} {a b : Int} (ho : o.op = .binOp .shr t x y ty) (hx : evalF f x = .int .i64 a) (hy : evalF f y = .int .i64 b) (h0 : 0 ≤ b) (h1 : b ≤ 64) : (execOp (evalF f) o).run P w = .ok (.value (.int .i64 (a / 2 ^ b.toNat))) w :=
  op_int ho hx hy (by rw [binOp_shr, shift_shr_i64 _ _ _ h0 h1])
theorem op_shl {t ty : TypeId} {x y : Operand} {a b : Int} (ho : o.op = .binOp .shl t x y ty) (hx : evalF f x = .int .i64 a) (hy : evalF f y = .int .i64 b) (h0 : 0 ≤ b) (h1 : b ≤ 64) : (execOp (evalF f) o).run P w = .ok (.value (.int .i64 (ishl a b))) w :=
  op_int ho hx hy (by rw [binOp_shl, shift_shl_i64 _ _ _ h0 h1]; rfl)
theorem op_quo {t ty : TypeId} {x y : Operand} {a b : Int} (ho : o.op = .binOp .quo t x y ty) (hx : evalF f x = .int .i64 a) (hy : evalF f y = .int .i64 b) (ha : 0 ≤ a) (hb : 0 < b) (hm : a < 9223372036854775808) : (execOp (evalF f) o).run P w = .ok (.value (.int .i64 (a / b))) w :=
  op_int ho hx hy (by
    have h1 : a.tdiv b = a / b := Int.tdiv_eq_ediv_of_nonneg ha
    have h2 : a / b ≤ a := Int.ediv_le_self b ha
    have h3 : 0 ≤ a / b := Int.ediv_nonneg ha (by omega)
    have hb0 : ¬ b = 0 := by omega
    rw [binOp_quo]
    simp only [Op.intDiv, if_neg hb0]
    rw [h1, wrap_in ⟨by omega, by omega⟩])
theorem op_eqlb {t ty : TypeId} {x y : Operand} {a b : Bool} (ho : o.op = .binOp .eql t x y ty) (hx : evalF f x = .bool a) (hy : evalF f y = .bool b) (hu : P.underlying t = some .bool) : (execOp (evalF f) o).run P w = .ok (.value (.bool (a == b))) w := by
 unfold execOp; have h := run_equalIn_bool' (P := P) w 9999 t a b hu; simp only [ho, hx, hy, Sem.run_bind, eqGuard_at_bool, Sem.run_pure, Result.andThen_ok, binOp, Op.equal, Op.maxDepth]; rw [h]; rfl
theorem op_eqle {α : Type} [Enc α] [DecidableEq α] {t ty : TypeId} {x y : Operand} {a b : α} (ho : o.op = .binOp .eql t x y ty) (hx : evalF f x = Enc.val a) (hy : evalF f y = Enc.val b) (E : EqEnc P t α) (ha : ∀ x : α, ∃ cs, Enc.val x = .agg cs) (hm : P.eqGuardType P.depth t = false) : (execOp (evalF f) o).run P w = .ok (.value (.bool (decide (a = b)))) w := by
 have h := E w a b; obtain ⟨ca, hca⟩ := ha a; obtain ⟨cb, hcb⟩ := ha b; unfold execOp; rw [hca, hcb] at h; simp only [ho, hx, hy, hca, hcb, Sem.run_bind, run_eqGuard_agg w .eql t x y ca cb hm, Result.andThen_ok, binOp, h]; rfl
theorem op_neqe {α : Type} [Enc α] [DecidableEq α] {t ty : TypeId} {x y : Operand} {a b : α} (ho : o.op = .binOp .neq t x y ty) (hx : evalF f x = Enc.val a) (hy : evalF f y = Enc.val b) (E : EqEnc P t α) (ha : ∀ x : α, ∃ cs, Enc.val x = .agg cs) (hm : P.eqGuardType P.depth t = false) : (execOp (evalF f) o).run P w = .ok (.value (.bool (!decide (a = b)))) w := by
 have h := E w a b; obtain ⟨ca, hca⟩ := ha a; obtain ⟨cb, hcb⟩ := ha b; unfold execOp; rw [hca, hcb] at h; simp only [ho, hx, hy, hca, hcb, Sem.run_bind, run_eqGuard_agg w .neq t x y ca cb hm, Result.andThen_ok, binOp, h]; rfl
theorem partsN : ([] : List (Nat × Operand)).map (fun x => (x.1, evalF f x.2)) = [] := rfl
theorem partsC {x : Operand} {i : Nat} {l : List (Nat × Operand)} {v : Value} {vs : List (Nat × Value)} (h : evalF f x = v) (hr : l.map (fun x => (x.1, evalF f x.2)) = vs) : ((i, x) :: l).map (fun x => (x.1, evalF f x.2)) = (i, v) :: vs := by rw [List.map_cons, hr, h]
theorem op_build {t : TypeId} {parts : List (Nat × Operand)} {vs : List (Nat × Value)} {cs : List Value} {v : Value} (ho : o.op = .build t parts.toArray) (hp : parts.map (fun x => (x.1, evalF f x.2)) = vs) (h : (P.built t vs).map (·.toList) = some cs) (hv : v = .agg cs.toArray) : (execOp (evalF f) o).run P w = .ok (.value v) w := by
 subst hp hv; cases hb : P.built t (parts.map (fun x => (x.1, evalF f x.2))) with
 | none => rw [hb] at h; cases h
 | some c =>
  rw [hb] at h
  simp only [Option.map_some, Option.some.injEq] at h
  subst h
  have hb' : P.built t (parts.toArray.map fun (x : Nat × Operand) => (x.1, evalF f x.2)).toList = some c := by simpa using hb
  unfold execOp
  simp only [ho, Sem.run_bind]
  rw [run_build w t _ c hb']
  rfl
/-- a slice literal of one datum: a new block -/
theorem op_slice1 {α : Type} [Enc α] {t e : TypeId} {x : Operand} {a : α} (ho : o.op = .buildSlice t 1 #[(0, x)]) (hx : evalF f x = Enc.val a) (T : TySl P t e α) (hzz : ((P.info? e).bind (·.zero)).map (·.cells.size) = some (Enc.size α)) (hs : Enc.size α ≤ 16777216) :
    OpS P o f w fun u w' => ∃ b, u = .slice (some ⟨b, 0, none⟩) 1 1 ∧ w.heap.size ≤ b ∧ Box w' b e (Enc.cells a) ∧ Ext w w' := by
  obtain ⟨z, hz, hzs⟩ := Option.map_eq_some_iff.1 hzz
  have hsz := T.elem.size
  cases hi : P.info? e with
  | none => rw [hi] at hz; cases hz
  | some i =>
    rw [hi] at hz hsz
    simp only [Option.bind_some, Option.map_some, Option.some.injEq] at hz hsz
    have hpos := Enc.pos (α := α)
    have hl := Enc.len a
    have hfill : Instr.fill (fun i => some (i * Enc.size α, Enc.size α)) ((Array.range (1 * Enc.size α)).map (z.cells[· % z.cells.size]!)) [(0, Enc.val a)] = some (Enc.cells a).toArray := by
      obtain ⟨r, hr, hsr, hk⟩ := Great.fill_dense hpos [Enc.val a] 0 ((Array.range (1 * Enc.size α)).map (z.cells[· % z.cells.size]!)) (by intro v hv; simp at hv; subst hv; rw [Enc.valCells]; simp [hl]) (by simp)
      simp only [List.zipIdx_cons, List.zipIdx_nil, List.map_cons, List.map_nil] at hr
      rw [hr]
      congr 1
      apply Array.ext_getElem?
      intro k
      rw [hk k]
      simp only [Nat.zero_mul, Nat.zero_le, true_and, List.length_cons, List.length_nil, Nat.zero_add, Nat.one_mul, Nat.sub_zero]
      by_cases hkl : k < Enc.size α
      · rw [if_pos hkl, Nat.div_eq_of_lt hkl, Nat.mod_eq_of_lt hkl]
        simp [Enc.valCells]
      · rw [if_neg hkl]
        simp [hl, hkl]
    have hrun : (Instr.buildSlice t 1 #[(0, Enc.val a)]).run P w = .ok (.slice (some ⟨w.heap.size, 0, none⟩) 1 1) (w.alloc (.cells (Enc.cells a).toArray e)) := by
      have h1 : ¬ (1 * Enc.size α > 2 ^ 24) := by omega
      have h2 : ¬ (1 * Enc.size α = 0) := by omega
      simp only [Instr.buildSlice, Sem.run_bind, run_underlying T.under, Result.andThen_ok, T.elem.sizeOf, Sem.run_ite, if_neg h1, if_neg h2, zeroValue, typeInfo]
      simp [hi, hz, newRow]
      rw [show (z.cells.size) = Enc.size α from hzs] at hfill
      simp only [Nat.one_mul] at hfill
      simp [hzs, hfill]
    refine OpS.val (v := .slice (some ⟨w.heap.size, 0, none⟩) 1 1) (w' := w.alloc (.cells (Enc.cells a).toArray e)) ?_ ⟨_, rfl, Nat.le_refl _, heap_alloc_new w _, Ext.alloc _ _⟩
    unfold execOp
    simp only [ho]
    simp [hx, hrun]
theorem op_len {t : TypeId} {x : Operand} {A : Option Addr} {n c : Nat} (ho : o.op = .call { callee := .builtin .len, args := #[x], argTypes := #[t] }) (hx : evalF f x = .slice A n c) (hu : P.underlying t = some (.slice (P.elem t))) : (execOp (evalF f) o).run P w = .ok (.value (.int .i64 (n : Int))) w := by
 unfold execOp; simp only [ho, resolve, invoke, builtin, Sem.run_bind, Sem.run_pure, Result.andThen_ok, List.map_toArray, List.map_cons, List.map_nil, hx, run_len_slice w t _ A n c hu]; rfl
theorem op_index {α : Type} [Enc α] {t e : TypeId} {x i : Operand} {A : Option Addr} {n c k : Nat} {ad q : Addr} {j : Int} {ki : IntKind} (ho : o.op = .indexAddr t x i) (hx : evalF f x = .slice A n c) (hi : evalF f i = .int ki j) (T : TySl P t e α) (hA : A = some ad) (hj : j = (k : Int)) (hk : k < n) (hq : ad.add (k * Enc.size α) = q) : (execOp (evalF f) o).run P w = .ok (.value (.pointer (some q))) w := by
 subst hA hj hq; have he : P.elem t = e := by simp [Program.elem, T.under]
 unfold execOp; simp only [ho, hx, hi, Sem.run_bind]; rw [run_indexAt_slice w t ad n c ki k (by rw [he]; exact T.under), if_pos ⟨by omega, by omega⟩, he, T.elem.sizeOf]; simp
theorem op_func {fn : Fn} {caps : List Operand} {vs : List Value} (ho : o.op = .makeFunc fn #[] caps.toArray) (hc : caps.map (evalF f) = vs) : (execOp (evalF f) o).run P w = .ok (.value (.func fn #[] vs.toArray)) w := by
 subst hc; unfold execOp; simp [ho, Instr.makeFunc]
theorem op_extract {x : Operand} {i : Nat} {vs : Array Value} {v : Value} (ho : o.op = .extract x i) (hx : evalF f x = .tuple vs) (hv : vs[i]? = some v) : (execOp (evalF f) o).run P w = .ok (.value v) w := by
 unfold execOp; simp [ho, hx, Instr.extract, hv]
theorem op_nilCheck {x : Operand} {p : Addr} (ho : o.op = .nilCheck x) (hx : evalF f x = .pointer (some p)) : (execOp (evalF f) o).run P w = .ok (.value (.pointer (some p))) w := by
 unfold execOp; simp [ho, hx]
theorem argsN : ([] : List Operand).map (evalF f) = [] := rfl
theorem argsC {x : Operand} {l : List Operand} {v : Value} {vs : List Value} (h : evalF f x = v) (hr : l.map (evalF f) = vs) : (x :: l).map (evalF f) = v :: vs := by rw [List.map_cons, h, hr]
/-- a call of a function of the program -/
theorem op_call {g : FuncId} {xs : List Operand} {ts : Array TypeId} {args : List Value} {fn : Func} (ho : o.op = .call { callee := .value (.func g), args := xs.toArray, argTypes := ts }) (ha : xs.map (evalF f) = args) (hf : P.funcs[g]? = some fn) (hb : fn.body.isSome = true) (hn : (fn.name == "runtime.NumGoroutine") = false) : (execOp (evalF f) o).run P w = .ok (.enter g args.toArray) w := by
 subst ha; obtain ⟨c, hc⟩ := Option.isSome_iff_exists.1 hb; have hn' : ¬ fn.name = "runtime.NumGoroutine" := by simpa using hn
 unfold execOp; simp [ho, resolve, evalF, Deferred.ofValue, invoke, callFunc, hf, hc, hn']
/-- a call of a function value -/
theorem op_callv {x : Operand} {g : FuncId} {caps : List Value} {xs : List Operand} {ts : Array TypeId} {args : List Value} {fn : Func} (ho : o.op = .call { callee := .value x, args := xs.toArray, argTypes := ts }) (hx : evalF f x = .func (.func g) #[] caps.toArray) (ha : xs.map (evalF f) = args) (hf : P.funcs[g]? = some fn) (hb : fn.body.isSome = true) (hn : (fn.name == "runtime.NumGoroutine") = false) : (execOp (evalF f) o).run P w = .ok (.enter g (args ++ caps).toArray) w := by
 subst ha; obtain ⟨c, hc⟩ := Option.isSome_iff_exists.1 hb; have hn' : ¬ fn.name = "runtime.NumGoroutine" := by simpa using hn
 unfold execOp; simp [ho, resolve, hx, Deferred.ofValue, invoke, callFunc, hf, hc, hn']
/-- a new box -/
theorem op_box {t : TypeId} {x : Operand} {cs : List Value} {v : Value} (ho : o.op = .box t x) (hx : evalF f x = v) (hv : v.cells = cs.toArray) : OpS P o f w fun u w' => ∃ b, u = .pointer (some ⟨b, 0, none⟩) ∧ w.heap.size ≤ b ∧ Box w' b t cs ∧ Ext w w' := by
 have h : (execOp (evalF f) o).run P w = .ok (.value (.pointer (some ⟨w.heap.size, 0, none⟩))) (w.alloc (.cells v.cells t)) := by
  unfold execOp
  simp [ho, hx, Instr.box, newVar, newRow]
 refine OpS.val h ⟨_, rfl, Nat.le_refl _, ?_, Ext.alloc _ _⟩; rw [hv]; exact heap_alloc_new w _
theorem op_alloc {t : TypeId} {z : Value} {cs : List Value} (ho : o.op = .alloc t) (hz : (P.info? t).bind (·.zero) = some z) (hv : z.cells = cs.toArray) : OpS P o f w fun u w' => ∃ b, u = .pointer (some ⟨b, 0, none⟩) ∧ w.heap.size ≤ b ∧ Box w' b t cs ∧ Ext w w' := by
 have h : (execOp (evalF f) o).run P w = .ok (.value (.pointer (some ⟨w.heap.size, 0, none⟩))) (w.alloc (.cells z.cells t)) := by
  unfold execOp
  cases hi : P.info? t with
  | none => rw [hi] at hz; cases hz
  | some i =>
    rw [hi] at hz
    simp only [Option.bind_some] at hz
    simp [ho, Instr.alloc, zeroValue, typeInfo, hi, hz, newVar, newRow]
 refine OpS.val h ⟨_, rfl, Nat.le_refl _, ?_, Ext.alloc _ _⟩; rw [hv]; exact heap_alloc_new w _
end
theorem run_storeCells_box {P : Program} (b : Nat) (t : TypeId) : ∀ (vs : List Value) (i : Nat) (cs : List Value) (w : World), Box w b t cs → i + vs.length ≤ cs.length → (∀ u ∈ vs, u.oneCell' = true) → ∀ o : Nat, o ≤ i →
    ∃ w', (storeCells ⟨b, o, none⟩ vs (i - o)).run P w = .ok () w' ∧ Box w' b t (cs.take i ++ vs ++ cs.drop (i + vs.length)) ∧ w.grownBy w' (some b) ∧ w'.heap.size = w.heap.size
  | [], i, cs, w, hb, _, _, o, _ => by
    refine ⟨w, by simp [storeCells], ?_, ⟨rfl, rfl, rfl, Nat.le_refl _, fun _ _ _ => rfl⟩, rfl⟩
    simpa using hb
  | v :: vs, i, cs, w, hb, hle, h1, o, ho => by
    simp only [List.length_cons] at hle
    have hadd : (⟨b, o, none⟩ : Addr).add (i - o) = ⟨b, i, none⟩ := by
      have e : o + (i - o) = i := by omega
      unfold Addr.add
      split
      · rename_i h0; have : o = i := by omega
        rw [this]
      · simp only [e]
    have hcell : w.cell? ⟨b, i, none⟩ = some (cs[i]'(by omega)) := by
      rw [cell_of_row w b i cs.toArray t (0, 0) hb]
      simp
    have hfr : w.frozen? ⟨b, i, none⟩ = false := frozen_of_row w b i cs.toArray t hb
    have hb1 : Box (w.setCell ⟨b, i, none⟩ v) b t (cs.set i v) := by
      have := heap_setCell_same w b i cs.toArray t v hb
      unfold Box
      rw [this]
      simp [List.setIfInBounds_toArray]
    have hst : (store ⟨b, i, none⟩ v .plain).run P w = .ok () (w.setCell ⟨b, i, none⟩ v) := by
      rw [run_store P w _ v .plain (h1 v List.mem_cons_self), hcell, hfr]
      rfl
    obtain ⟨w', hr, hbx, hg, hsz⟩ := run_storeCells_box (P := P) b t vs (i + 1) (cs.set i v) (w.setCell ⟨b, i, none⟩ v) hb1 (by rw [List.length_set]; omega) (fun u hu => h1 u (List.mem_cons_of_mem _ hu)) o (by omega)
    refine ⟨w', ?_, ?_, ?_, ?_⟩
    · have e : i - o + 1 = i + 1 - o := by omega
      simp only [storeCells, Sem.run_bind, hadd, hst, Result.andThen_ok, e]
      exact hr
    · have hlt : i < cs.length := by omega
      have e1 : (cs.set i v).take (i + 1) = cs.take i ++ [v] := by
        rw [List.take_set]
        rw [List.take_succ_eq_append_getElem hlt]
        rw [List.set_append_right _ _ (by simp; omega)]
        simp [Nat.min_eq_left (Nat.le_of_lt hlt)]
      have e2 : (cs.set i v).drop (i + 1 + vs.length) = cs.drop (i + (vs.length + 1)) := by
        rw [List.drop_set_of_lt (by omega)]
        congr 1
        omega
      rw [e1, e2] at hbx
      simpa using hbx
    · have h0 : w.grownBy (w.setCell ⟨b, i, none⟩ v) (some b) := ⟨rfl, rfl, rfl, by simp, fun k _ hk => Below.heap_setCell w _ v k (fun e => hk (by rw [e]))⟩
      exact ⟨hg.os.trans h0.os, hg.tape.trans h0.tape, hg.output.trans h0.output, Nat.le_trans h0.size hg.size, fun k hk hne => (hg.block k (by simpa using hk) hne).trans (h0.block k hk hne)⟩
    · rw [hsz]; simp
section
variable {P : Program} {o : Oper} {f : Fr} {w : World}
/-- a store into a box: its cells from off on are the value's -/
theorem op_store {t tb : TypeId} {x y : Operand} {b off : Nat} {cs vs : List Value} {v : Value} (ho : o.op = .store t x y) (hx : evalF f x = .pointer (some ⟨b, off, none⟩)) (hy : evalF f y = v) (hv : v.cells = vs.toArray) (hs : (P.info? t).map (·.size) = some vs.length) (hb : Box w b tb cs) (hle : off + vs.length ≤ cs.length) (h1 : ∀ u ∈ vs, u.oneCell' = true) :
    OpS P o f w fun _ w' => Box w' b tb (cs.take off ++ vs ++ cs.drop (off + vs.length)) ∧ w.grownBy w' (some b) ∧ w'.heap.size = w.heap.size := by
  obtain ⟨w', hr, hbx, hg, hsz⟩ := run_storeCells_box (P := P) b tb vs off cs w hb hle h1 off (Nat.le_refl _)
  refine OpS.skip (w' := w') ?_ ⟨hbx, hg, hsz⟩
  have hsz : (sizeOf t).run P w = .ok vs.length w := by
    cases hi : P.info? t with
    | none => rw [hi] at hs; cases hs
    | some i =>
      rw [hi] at hs
      simp only [Option.map_some, Option.some.injEq] at hs
      simp [sizeOf, typeInfo, hi, hs]
  rw [Nat.sub_self] at hr
  unfold execOp
  simp [ho, hx, hy, Instr.storeAt, Instr.sureAddr, storeVar, hsz, hv, hr]
/-- append of one datum, which lies at the address -/
theorem op_append {α : Type} [Enc α] {t e : TypeId} {x y : Operand} {base : Nat} {v : Value} {l : List α} {a : α} {bytes : Nat} {ad : Addr} (ho : o.op = .call { callee := .builtin .append, args := #[x, y], argTypes := #[t, t] }) (hx : evalF f x = v) (hy : evalF f y = .slice (some ad) 1 1)
    (T : TySl P t e α) (hzz : ((P.info? e).bind (·.zero)).map (·.cells.size) = some (Enc.size α)) (hby : (P.info? e).map (·.bytes) = some bytes) (ho' : Own w base e v l) (hc : Cells w ad (Enc.cells a)) (hn : (l.length + 1) * bytes ≤ 140737488355328) (hb0 : 0 < bytes) (hbase : base ≤ w.heap.size) :
    OpS P o f w fun v' w' => Own w' base e v' (l ++ [a]) ∧ w.grownBy w' v.ownBlock := by
  obtain ⟨z, hz, hzs⟩ := Option.map_eq_some_iff.1 hzz
  have hs := T.elem.size
  cases hi : P.info? e with
  | none => rw [hi] at hs; cases hs
  | some i =>
    rw [hi] at hs hz hby
    simp only [Option.map_some, Option.some.injEq, Option.bind_some] at hs hz hby
    have hle : l.length + 1 ≤ 140737488355328 := Nat.le_trans (Nat.le_mul_of_pos_right _ hb0) hn
    obtain ⟨v', w', hr, h1, h2, _, _⟩ := run_append_own_at (P := P) w base t o.type e i z (Enc.size α) bytes T.under hi hz hs hby hzs Enc.pos v l.length (l.flatMap Enc.cells) ho' ad 1 1 (Enc.cells a) (by rw [Enc.len, Nat.one_mul]) hc (Enc.one a) (by unfold maxLen; omega) hn hbase
    refine OpS.val (v := v') (w' := w') ?_ ⟨?_, h2⟩
    · unfold execOp
      simp only [ho, resolve, invoke, builtin, Sem.run_bind, Sem.run_pure, Result.andThen_ok, List.map_toArray, List.map_cons, List.map_nil, hx, hy, hr]
    · unfold Own
      rw [List.length_append, List.flatMap_append]
      simpa using h1
end
theorem sub_nm {w : World} {p : Addr} {cs : List Value} (n : Nat) {a : Nm} (h : Cells w p cs) (hd : (cs.drop n).take 8 = Nm.cs a) : Cells w (p.add n) (Enc.cells a) :=
  h.sub n fun j u hu => by
    have hu' : (Nm.cs a)[j]? = some u := hu
    rw [← hd, List.getElem?_take] at hu'
    split at hu'
    · rwa [List.getElem?_drop] at hu'
    · cases hu'
/-- a new variable with its first value: two operations -/
theorem L.newvar {P : Program} {N : Nat} {ops : Array Oper} {Q : Exit → Fr → World → Prop} {f : Fr} {w : World} {o1 o2 : Oper} {rest : List Oper} {t : TypeId} {d : Nat} {y : Operand} {v : Value} {cs : List Value} (h1 : o1.guard = none) (h2 : o2.guard = none) (ho1 : o1.op = .alloc t) (hd : o1.dst = some d) (ho2 : o2.op = .store t (.tmp d) y) (hd2 : o2.dst = none)
    (hy : ∀ u, evalF (upd f d u) y = v) (hv : v.cells = cs.toArray) (hs : (P.info? t).map (·.size) = some cs.length) (hzz : ((P.info? t).bind (·.zero)).map (·.cells.size) = some cs.length) (one : ∀ u ∈ cs, u.oneCell' = true)
    (k : ∀ (b : Nat) (w' : World), w.heap.size ≤ b → Box w' b t cs → Ext w w' → L P N ops Q rest (upd f d (.pointer (some ⟨b, 0, none⟩))) w') : L P N ops Q (o1 :: o2 :: rest) f w := by
  obtain ⟨z, hz, hzs⟩ := Option.map_eq_some_iff.1 hzz
  refine L.step h1 (op_alloc (cs := z.cells.toList) ho1 hz (by simp)) ?_
  rintro _ w1 ⟨b, rfl, hb, hB, hx⟩
  rw [hd]
  show L P N ops Q (o2 :: rest) (upd f d _) w1
  refine L.step h2 (op_store (P := P) (vs := cs) ho2 (upd_same f d _) (hy _) hv hs hB (by simp [hzs]) one) ?_
  rintro _ w2 ⟨hB2, hg, hsz⟩
  rw [hd2]
  have hlen : z.cells.toList.length = cs.length := by simp [hzs]
  have e : z.cells.toList.take 0 ++ cs ++ z.cells.toList.drop (0 + cs.length) = cs := by
    rw [Nat.zero_add, ← hlen]; simp
  rw [e] at hB2
  exact k b w2 hb hB2 (hx.grown hg fun k hk => by cases hk; exact hb)
end Go.Fk
/-
  More operations for frames that are functions: function values that are predicates, loops of a known number of rounds, unsigned arithmetic, parts of arrays, slices of slices, interface values. No program in sight.
-/
namespace Go.Fk
open Go Go.RowKit
instance : Inhabited Nm := ⟨Nm.zero⟩
instance : Inhabited Vt := ⟨⟨0, 0, 0, 0, 0, 0, Nm.zero, Nm.zero⟩⟩
instance : Inhabited Oc := ⟨⟨0, 0, 0, Nm.zero⟩⟩
instance : Inhabited Ch := ⟨⟨0, Nm.zero⟩⟩
theorem get_bang {α : Type} [Inhabited α] {l : List α} {k : Nat} (h : k < l.length) : l[k]? = some l[k]! := by
 rw [List.getElem?_eq_getElem h]; congr 1; exact (getElem!_pos _ _ _).symm
def Unr (P : Program) (N : Nat) (c : Code) (Q : Exit → Fr → World → Prop) : Nat → Fr → World → Prop
  | 0, _, _ => False
  | n + 1, f, w => W P N c (thenF (Unr P N c Q n) Q) f w
theorem Unr.step {P : Program} {N : Nat} {c : Code} {Q : Exit → Fr → World → Prop} {n : Nat} {f : Fr} {w : World} (h : W P N c (thenF (Unr P N c Q n) Q) f w) : Unr P N c Q (n + 1) f w := h
theorem W.unroll {P : Program} {N : Nat} {c : Code} {Q : Exit → Fr → World → Prop} (n : Nat) {f : Fr} {w : World} (h : Unr P N c Q n f w) : W P N (.loop c) Q f w :=
  W.loopg (γ := Nat) (fun n f w => Unr P N c Q n f w) id n h fun n f w hI => by
    cases n with
    | zero => exact hI.elim
    | succ n =>
      refine W.mono (Q := thenF (Unr P N c Q n) Q) hI ?_
      intro e f w q
      cases e with
      | normal => exact ⟨n, q, Nat.lt_succ_self n⟩
      | _ => exact q
/-- the function value answers as p, whatever the world has gained since -/
def Fits {α : Type} [Enc α] (P : Program) (w : World) (fv : Value) (p : α → Bool) : Prop :=
  ∃ (g : Nat) (caps : List Value) (fn : Func), fv = .func (.func g) #[] caps.toArray ∧ P.funcs[g]? = some fn ∧ fn.body.isSome = true ∧ (fn.name == "runtime.NumGoroutine") = false ∧ ∀ (x : α) (w' : World), Ext w w' → Gives P g (Enc.val x :: caps).toArray w' fun u w'' => u = .bool (p x) ∧ Ext w' w''
section
variable {α : Type} [Enc α] {P : Program} {w w' : World} {fv : Value} {p : α → Bool} {o : Oper} {f : Fr}
theorem Fits.ext (h : Fits P w fv p) (hx : Ext w w') : Fits P w' fv p := by
 obtain ⟨g, caps, fn, h1, h2, h3, h4, h5⟩ := h; exact ⟨g, caps, fn, h1, h2, h3, h4, fun x w1 hx1 => h5 x w1 (hx.trans hx1)⟩
theorem Fits.cells (h : Fits P w fv p) : fv.cells = #[fv] := by
 obtain ⟨g, caps, fn, rfl, _⟩ := h; rfl
theorem op_fits {x y : Operand} {ts : Array TypeId} {a : α} (h : Fits P w fv p) (ho : o.op = .call { callee := .value x, args := #[y], argTypes := ts }) (hx : evalF f x = fv) (hy : evalF f y = Enc.val a) : OpS P o f w fun u w' => u = .bool (p a) ∧ Ext w w' := by
 obtain ⟨g, caps, fn, rfl, h2, h3, h4, h5⟩ := h; exact OpS.call (op_callv (caps := caps) ho hx (argsC hy argsN) h2 h3 h4) (h5 a w (Ext.refl w))
end
section
variable {P : Program} {o : Oper} {f : Fr} {w : World}
/-- a struct of one-cell fields, loaded whole -/
theorem op_loadcs {t : TypeId} {x : Operand} {p : Addr} {cs : List Value} (ho : o.op = .load t x) (hx : evalF f x = .pointer (some p)) (ha : isAggT P t = true) (hs : (P.info? t).map (·.size) = some cs.length) (hc : Cells w p cs) : (execOp (evalF f) o).run P w = .ok (.value (.agg cs.toArray)) w := by
 have hsz : (Go.sizeOf t).run P w = .ok cs.length w := by
  cases hi : P.info? t with
  | none => rw [hi] at hs; cases hs
  | some i =>
    rw [hi] at hs
    simp only [Option.map_some, Option.some.injEq] at hs
    simp [Go.sizeOf, typeInfo, hi, hs]
 have hl := run_loadCells_list (P := P) w p cs hc
 have hag : (isAgg t).run P w = .ok true w := by
  cases hu : P.underlying t with
  | none => simp [isAggT, hu] at ha
  | some d =>
    cases d <;> simp [isAggT, hu] at ha <;> simp [isAgg, run_underlying hu]
 unfold execOp; simp only [ho, hx, Instr.loadAt, Instr.sureAddr, Sem.run_bind, Sem.run_pure, Result.andThen_ok]; simp [loadVar, hag, hsz, hl]
theorem op_int2 {bo : BinOp} {t ty : TypeId} {x y : Operand} {k k' : IntKind} {a b : Int} {v : Value} (ho : o.op = .binOp bo t x y ty) (hx : evalF f x = .int k a) (hy : evalF f y = .int k' b) (hv : binOp bo t (.int k a) (.int k' b) = pure v) : (execOp (evalF f) o).run P w = .ok (.value v) w := by
 unfold execOp; simp only [ho, hx, hy, Sem.run_bind, eqGuard_at_int, Sem.run_pure, Result.andThen_ok, hv]
theorem op_uand {t ty : TypeId} {x y : Operand} {k : IntKind} {a b : Int} (ho : o.op = .binOp .and t x y ty) (hx : evalF f x = .int k a) (hy : evalF f y = .int k b) : (execOp (evalF f) o).run P w = .ok (.value (.int k (bits .and k a b))) w :=
  op_int ho hx hy (by rw [binOp_and]; rfl)
theorem op_uor {t ty : TypeId} {x y : Operand} {k : IntKind} {a b : Int} (ho : o.op = .binOp .or t x y ty) (hx : evalF f x = .int k a) (hy : evalF f y = .int k b) : (execOp (evalF f) o).run P w = .ok (.value (.int k (bits .or k a b))) w :=
  op_int ho hx hy (by rw [binOp_or]; rfl)
theorem op_uadd {t ty : TypeId} {x y : Operand} {k : IntKind} {a b : Int} (ho : o.op = .binOp .add t x y ty) (hx : evalF f x = .int k a) (hy : evalF f y = .int k b) : (execOp (evalF f) o).run P w = .ok (.value (.int k (k.wrap (a + b)))) w :=
  op_int ho hx hy (by rw [binOp_add]; rfl)
theorem op_ushr {t ty : TypeId} {x y : Operand} {k k' : IntKind} {a b : Int} (ho : o.op = .binOp .shr t x y ty) (hx : evalF f x = .int k a) (hy : evalF f y = .int k' b) (h0 : 0 ≤ b) (h1 : b ≤ k.bits) : (execOp (evalF f) o).run P w = .ok (.value (.int k (a / 2 ^ b.toNat))) w :=
  op_int2 ho hx hy (by rw [binOp_shr, shift_shr _ _ _ _ h0 h1])
theorem op_ushl {t ty : TypeId} {x y : Operand} {k k' : IntKind} {a b : Int} (ho : o.op = .binOp .shl t x y ty) (hx : evalF f x = .int k a) (hy : evalF f y = .int k' b) (h0 : 0 ≤ b) (h1 : b ≤ k.bits) : (execOp (evalF f) o).run P w = .ok (.value (.int k (k.wrap (a * 2 ^ b.toNat)))) w :=
  op_int2 ho hx hy (by rw [binOp_shl, shift_shl _ _ _ _ h0 h1])
theorem op_conv {s t : TypeId} {x : Operand} {k k' : IntKind} {n : Int} (ho : o.op = .convert s t x) (hx : evalF f x = .int k n) (hs : (P.underlying s).isSome = true) (hd : P.underlying t = some (.int k')) : (execOp (evalF f) o).run P w = .ok (.value (.int k' (k'.wrap n))) w := by
 have hk : P.intKind t = k' := by simp [Program.intKind, hd]
 have := run_convert_int (P := P) w s t k n hs (by rw [hk]; exact hd); rw [hk] at this; unfold execOp; simp [ho, hx, this]
theorem op_iface {t : TypeId} {x : Operand} {v : Value} (ho : o.op = .makeInterface t x) (hx : evalF f x = v) (hc : P.concrete t = true) : (execOp (evalF f) o).run P w = .ok (.value (.iface t v)) w := by
 have := run_makeInterface (P := P) w t v hc; unfold execOp; simp [ho, hx, this]
/-- an element of an array value, whose elements have one cell -/
theorem op_elem {t e : TypeId} {x i : Operand} {cs : List Value} {k : Nat} {ki : IntKind} {n : Nat} {u : Value} (ho : o.op = .index t x i) (hx : evalF f x = .agg cs.toArray) (hi : evalF f i = .int ki (k : Int)) (hu : P.underlying t = some (.array n e)) (h1 : isOneT P e = true) (hs : (P.info? e).map (·.size) = some 1) (hk : k < n) (hc : cs[k]? = some u) : (execOp (evalF f) o).run P w = .ok (.value u) w := by
 have hsz : ∀ w, (Go.sizeOf e).run P w = .ok 1 w := fun w => by
  cases hi : P.info? e with
  | none => rw [hi] at hs; cases hs
  | some i =>
    rw [hi] at hs
    simp only [Option.map_some, Option.some.injEq] at hs
    simp [Go.sizeOf, typeInfo, hi, hs]
 have hp := part_one (P := P) (w := w) h1 hc; unfold execOp; simp only [ho, hx, hi, Instr.index, asIntOf, Sem.run_bind, Sem.run_pure, Result.andThen_ok, run_underlying hu]; rw [if_pos ⟨by omega, by omega⟩]; simp [hsz, hp]
/-- the address of an element of an array in memory, whose elements have one cell -/
theorem op_elemAddr {t e : TypeId} {x i : Operand} {p q : Addr} {k n : Nat} {ki : IntKind} (ho : o.op = .indexAddr t x i) (hx : evalF f x = .pointer (some p)) (hi : evalF f i = .int ki (k : Int)) (hu : P.underlying t = some (.array n e)) (hs : (P.info? e).map (·.size) = some 1) (hk : k < n) (hq : p.add k = q) : (execOp (evalF f) o).run P w = .ok (.value (.pointer (some q))) w := by
 subst hq
 have hsz : ∀ w, (Go.sizeOf e).run P w = .ok 1 w := fun w => by
  cases hi : P.info? e with
  | none => rw [hi] at hs; cases hs
  | some i =>
    rw [hi] at hs
    simp only [Option.map_some, Option.some.injEq] at hs
    simp [Go.sizeOf, typeInfo, hi, hs]
 have he : P.elem t = e := by simp [Program.elem, hu]
 have hn : P.arrayLen t = n := by simp [Program.arrayLen, hu]
 have h := run_indexAt_array (P := P) w t p ki (k : Int) (by rw [he, hn]; exact hu); rw [he, hn, if_pos ⟨by omega, by omega⟩] at h; unfold execOp; simp only [ho, hx, hi, Sem.run_bind]; rw [h]; simp [hsz]
/-- x[l:] -/
theorem op_slice_l {α : Type} [Enc α] {t e : TypeId} {x i : Operand} {A : Option Addr} {n c k : Nat} {ki : IntKind} (T : TySl P t e α) (ho : o.op = .slice t x (some i) none none) (hx : evalF f x = .slice A n c) (hi : evalF f i = .int ki (k : Int)) (hk : k ≤ n) :
    (execOp (evalF f) o).run P w = .ok (.value (.slice (if c = k then A else A.map (·.add (k * Enc.size α))) (n - k) (c - k))) w := by
  have he : P.elem t = e := by simp [Program.elem, T.under]
  have hu : P.underlying t = some (.slice (P.elem t)) := by rw [he]; exact T.under
  have h := run_slice_l (P := P) w t A n c hu ki (k : Int) (by omega) (by omega)
  have h2 := run_sliceAt_slice (P := P) w t (.slice A n c) (some (.int ki (k : Int))) none none hu
  rw [he, T.elem.sizeOf] at h
  unfold execOp
  simp only [ho, hx, Option.map_some, Option.map_none, hi, Sem.run_bind]
  rw [h2, h]
  simp [sliced]
/-- x[:h] -/
theorem op_slice_h {α : Type} [Enc α] {t e : TypeId} {x i : Operand} {A : Option Addr} {n c k : Nat} {ki : IntKind} (T : TySl P t e α) (ho : o.op = .slice t x none (some i) none) (hx : evalF f x = .slice A n c) (hi : evalF f i = .int ki (k : Int)) (hk : k ≤ c) :
    (execOp (evalF f) o).run P w = .ok (.value (.slice A k c)) w := by
  have he : P.elem t = e := by simp [Program.elem, T.under]
  have hu : P.underlying t = some (.slice (P.elem t)) := by rw [he]; exact T.under
  have h := run_slice_h (P := P) w t A n c hu ki (k : Int) (by omega) (by omega)
  have h2 := run_sliceAt_slice (P := P) w t (.slice A n c) none (some (.int ki (k : Int))) none hu
  rw [he, T.elem.sizeOf] at h
  unfold execOp
  simp only [ho, hx, Option.map_some, Option.map_none, hi, Sem.run_bind]
  rw [h2, h]
  have : ∀ a : Addr, a.add 0 = a := Addr.add_zero'
  simp [sliced, this]
end
/-- the value is a slice that reads as the list -/
def SlR {α : Type} [Enc α] (w : World) (u : Value) (l : List α) : Prop := ∃ A c lo hi, u = .slice A l.length c ∧ l.length ≤ c ∧ Rd w lo hi A l
theorem SlR.ext {α : Type} [Enc α] {w w' : World} {u : Value} {l : List α} (h : SlR w u l) (hx : Ext w w') : SlR w' u l := by
 obtain ⟨A, c, lo, hi, e, hc, hr⟩ := h; exact ⟨A, c, lo, hi, e, hc, hr.ext hx⟩
def Sp.slr {α : Type} [Enc α] (l : List α) : Sp := ⟨fun u w => SlR w u l, fun _ _ _ h hx => h.ext hx⟩
theorem Own.lower {α : Type} [Enc α] {w : World} {base base' : Nat} {e : TypeId} {v : Value} {l : List α} (h : Own w base e v l) (hb : base' ≤ base) : Own w base' e v l := by
 refine ⟨h.1, ?_⟩; rcases h.2 with h2 | ⟨g, cap, cur, h1, h2, h3⟩
 ·exact Or.inl h2
 ·exact Or.inr ⟨g, cap, cur, h1, Nat.le_trans hb h2, h3⟩
theorem Own.ne {α : Type} [Enc α] {w : World} {base b : Nat} {e : TypeId} {v : Value} {l : List α} (h : Own w base e v l) (hb : b < base) : v.ownBlock = none ∨ v.ownBlock ≠ some b := by
 cases hv : v.ownBlock with
 | none => exact Or.inl rfl; | some k => exact Or.inr fun e => by injection e with e; have := h.lt k hv; omega
theorem Own.ne' {α : Type} [Enc α] {w : World} {base b : Nat} {e : TypeId} {v : Value} {l : List α} (h : Own w base e v l) (hb : b < base) : some b ≠ v.ownBlock := by
 intro hv; have := h.lt b hv.symm; omega
theorem Own.cells {α : Type} [Enc α] {w : World} {base : Nat} {e : TypeId} {v : Value} {l : List α} (h : Own w base e v l) : v.cells = #[v] := by
 obtain ⟨A, c, rfl, _⟩ := h.form; rfl
theorem Own.onec {α : Type} [Enc α] {w : World} {base : Nat} {e : TypeId} {v : Value} {l : List α} (h : Own w base e v l) : v.oneCell' = true := by
 obtain ⟨A, c, rfl, _⟩ := h.form; rfl
theorem Own.slr {α : Type} [Enc α] {w : World} {base : Nat} {e : TypeId} {v : Value} {l : List α} (h : Own w base e v l) : SlR w v l := by
 obtain ⟨A, c, e, hr, hc⟩ := h.form; exact ⟨A, c, _, _, e, hc, hr⟩
section
variable {P : Program} {o : Oper} {f : Fr} {w : World}
theorem op_slr_l {α : Type} [Enc α] {t e : TypeId} {x i : Operand} {A : Option Addr} {c k lo hi : Nat} {ki : IntKind} {l : List α} (T : TySl P t e α) (ho : o.op = .slice t x (some i) none none) (hx : evalF f x = .slice A l.length c) (hix : evalF f i = .int ki (k : Int)) (hk : k ≤ l.length) (hc : l.length ≤ c) (hR : Rd w lo hi A l) :
    OpS P o f w fun u w' => SlR w' u (l.drop k) ∧ Ext w w' :=
  OpS.val (op_slice_l T ho hx hix hk) ⟨⟨_, _, _, _, by rw [List.length_drop], by rw [List.length_drop]; omega, hR.drop hk hc⟩, Ext.refl w⟩
theorem op_slr_h {α : Type} [Enc α] {t e : TypeId} {x i : Operand} {A : Option Addr} {c k lo hi : Nat} {ki : IntKind} {l : List α} (T : TySl P t e α) (ho : o.op = .slice t x none (some i) none) (hx : evalF f x = .slice A l.length c) (hix : evalF f i = .int ki (k : Int)) (hk : k ≤ l.length) (hc : l.length ≤ c) (hR : Rd w lo hi A l) :
    OpS P o f w fun u w' => SlR w' u (l.take k) ∧ Ext w w' :=
  OpS.val (op_slice_h T ho hx hix (Nat.le_trans hk hc)) ⟨⟨_, _, _, _, by rw [List.length_take, Nat.min_eq_left hk], by rw [List.length_take, Nat.min_eq_left hk]; omega, hR.take k⟩, Ext.refl w⟩
/-- a store of one cell into a box -/
theorem op_put {t tb : TypeId} {x y : Operand} {b off : Nat} {cs : List Value} {v : Value} (ho : o.op = .store t x y) (hx : evalF f x = .pointer (some ⟨b, off, none⟩)) (hy : evalF f y = v) (hs : (P.info? t).map (·.size) = some 1) (hb : Box w b tb cs) (hlt : off < cs.length) (hv : v.cells = #[v]) (h1 : v.oneCell' = true) :
    OpS P o f w fun _ w' => Box w' b tb (cs.set off v) ∧ w.grownBy w' (some b) :=
  (op_store (vs := [v]) ho hx hy hv hs hb (by simp; omega) (by intro z hz; simp at hz; subst hz; exact h1)).mono fun _ _ ⟨h, hg, _⟩ => ⟨by
    rw [List.set_eq_take_append_cons_drop, if_pos hlt]
    simpa using h, hg⟩
end
section
variable {P : Program} {o : Oper} {f : Fr} {w : World}
theorem op_eqlp {t ty e : TypeId} {x y : Operand} {a : Option Addr} (ho : o.op = .binOp .eql t x y ty) (hx : evalF f x = .pointer a) (hy : evalF f y = .pointer none) (hu : P.underlying t = some (.pointer e)) : (execOp (evalF f) o).run P w = .ok (.value (.bool a.isNone)) w := by
 unfold execOp; have he : P.pointee t = e := by simp [Program.pointee, hu]
 have h := run_equalIn_pointer_nil (P := P) w 9999 t a (by rw [he]; exact hu); simp only [ho, hx, hy, Sem.run_bind, eqGuard_at_pointer, Sem.run_pure, Result.andThen_ok, binOp, Op.equal, Op.maxDepth]; rw [h]; rfl
end
/-- where a slice lies -/
def adr (A : Option Addr) : Addr := A.getD ⟨0, 0, none⟩
theorem Rd.getA {α : Type} [Enc α] {w : World} {lo hi : Nat} {A : Option Addr} {l : List α} (h : Rd w lo hi A l) {k : Nat} {x : α} (hk : l[k]? = some x) : A = some (adr A) ∧ Cells w ((adr A).add (k * Enc.size α)) (Enc.cells x) := by
 obtain ⟨ad, rfl, _, _, hc⟩ := h.get hk; exact ⟨rfl, hc⟩
section
variable {P : Program} {o : Oper} {f : Fr} {w : World}
/-- a store that fills a box -/
theorem op_fillbox {t tb : TypeId} {x y : Operand} {b : Nat} {cs vs : List Value} {v : Value} (ho : o.op = .store t x y) (hx : evalF f x = .pointer (some ⟨b, 0, none⟩)) (hy : evalF f y = v) (hv : v.cells = vs.toArray) (hs : (P.info? t).map (·.size) = some vs.length) (hb : Box w b tb cs) (hle : vs.length = cs.length) (h1 : ∀ u ∈ vs, u.oneCell' = true) :
    OpS P o f w fun _ w' => Box w' b tb vs ∧ w.grownBy w' (some b) :=
  (op_store ho hx hy hv hs hb (by omega) h1).mono fun _ _ ⟨h, hg, _⟩ => ⟨by simpa [hle] using h, hg⟩
end
theorem own_at {α : Type} [Enc α] {w : World} {base : Nat} {e : TypeId} {u v : Value} {l : List α} (h : u = v) (hO : Own w base e v l) : Own w base e u l := by subst h; exact hO
set_option linter.unusedSectionVars false
section
variable {α : Type} [Inhabited α]
theorem drop_bang {l : List α} {k : Nat} (h : k < l.length) : l.drop k = l[k]! :: l.drop (k + 1) := by
 rw [List.drop_eq_getElem_cons h]; congr 1; exact (getElem!_pos _ _ _).symm
theorem take_bang {l : List α} {k : Nat} (h : k < l.length) : l.take (k + 1) = l.take k ++ [l[k]!] := by
 rw [List.take_succ_eq_append_getElem h]; congr 2; exact (getElem!_pos _ _ _).symm
theorem any_go {l : List α} {p : α → Bool} {k : Nat} {b : Bool} (h : (l.drop k).any p = b) (hk : k < l.length) (hp : p l[k]! = false) : (l.drop (k + 1)).any p = b := by
 rw [drop_bang hk, List.any_cons, hp, Bool.false_or] at h; exact h
theorem any_yes {l : List α} {p : α → Bool} {k : Nat} {b : Bool} (h : (l.drop k).any p = b) (hk : k < l.length) (hp : p l[k]! = true) : true = b := by
 rw [drop_bang hk, List.any_cons, hp, Bool.true_or] at h; exact h
theorem any_end {l : List α} {p : α → Bool} {k : Nat} {b : Bool} (h : (l.drop k).any p = b) (hk : l.length ≤ k) : false = b := by
 rw [List.drop_of_length_le hk] at h; exact h
theorem all_go {l : List α} {p : α → Bool} {k : Nat} {b : Bool} (h : (l.drop k).all p = b) (hk : k < l.length) (hp : p l[k]! = true) : (l.drop (k + 1)).all p = b := by
 rw [drop_bang hk, List.all_cons, hp, Bool.true_and] at h; exact h
theorem all_no {l : List α} {p : α → Bool} {k : Nat} {b : Bool} (h : (l.drop k).all p = b) (hk : k < l.length) (hp : p l[k]! = false) : false = b := by
 rw [drop_bang hk, List.all_cons, hp, Bool.false_and] at h; exact h
theorem all_end {l : List α} {p : α → Bool} {k : Nat} {b : Bool} (h : (l.drop k).all p = b) (hk : l.length ≤ k) : true = b := by
 rw [List.drop_of_length_le hk] at h; exact h
theorem filter_yes {l : List α} {p : α → Bool} {k : Nat} (hk : k < l.length) (hp : p l[k]! = true) : (l.take k).filter p ++ [l[k]!] = (l.take (k + 1)).filter p := by
 rw [take_bang hk, List.filter_append, List.filter_cons, if_pos hp]; rfl
theorem filter_no {l : List α} {p : α → Bool} {k : Nat} (hk : k < l.length) (hp : p l[k]! = false) : (l.take k).filter p = (l.take (k + 1)).filter p := by
 rw [take_bang hk, List.filter_append, List.filter_cons, if_neg (by rw [hp]; simp)]; simp
theorem fold_go {β : Type} {l : List α} {g : β → α → β} {k : Nat} {b : β} (hk : k < l.length) : (l.take (k + 1)).foldl g b = g ((l.take k).foldl g b) l[k]! := by
 rw [take_bang hk, List.foldl_append]; rfl
end
end Go.Fk
/-
  More laws of operations: slice literals, operations whose guard is known to be set. No walk.
-/
namespace Go.Proofs.YtdknjfmjddlphaaGreat
open Go Go.Fk
section
variable {P : Program} {o : Oper} {f : Fr} {w : World}
end
section
variable {P : Program} {N : Nat} {ops : Array Oper} {Q : Exit → Fr → World → Prop} {rest : List Oper} {o : Oper} {f : Fr} {w : World}
theorem L.stepT {R : Value → World → Prop} (hg : Region.wanted o (yieldF ops f) = true) (ho : OpS P o f w R) (k : ∀ v w', R v w' → L P N ops Q rest (updo f o.dst v) w') : L P N ops Q (o :: rest) f w :=
  L.guard hg (fun _ => ho) (fun h => nomatch h) k
theorem L.valT {v : Value} {w' : World} (hg : Region.wanted o (yieldF ops f) = true) (h : (execOp (evalF f) o).run P w = .ok (.value v) w') (k : L P N ops Q rest (updo f o.dst v) w') : L P N ops Q (o :: rest) f w :=
  L.stepT (R := fun u w2 => u = v ∧ w2 = w') hg (OpS.val h ⟨rfl, rfl⟩) fun _ _ ⟨h1, h2⟩ => by subst h1 h2; exact k
theorem op_pickT {c x y : Operand} {v : Value} (ho : o.op = .pick c x y) (hc : evalF f c = .bool true) (hx : evalF f x = v) : (execOp (evalF f) o).run P w = .ok (.value v) w :=
  op_pick ho hc (fun _ => hx) (fun h => nomatch h)
theorem op_pickF {c x y : Operand} {v : Value} (ho : o.op = .pick c x y) (hc : evalF f c = .bool false) (hy : evalF f y = v) : (execOp (evalF f) o).run P w = .ok (.value v) w :=
  op_pick ho hc (fun h => nomatch h) (fun _ => hy)
end
end Go.Proofs.YtdknjfmjddlphaaGreat
/-
  Maps with data as keys and ints as elements, in the logic of frames: made, read, written, emptied, counted, run over in whatever order. No program in sight.
-/
set_option linter.unusedSectionVars false
set_option linter.unusedSimpArgs false
set_option linter.unusedVariables false
namespace Go.Fk
open Go Go.RowKit Go.ChangeMaps
/-- how keys of type k are told apart -/
structure KeyTy (P : Program) (k : TypeId) (K : Type) [Enc K] [DecidableEq K] : Prop where
  check : ∀ (w : World) (em : Bool) (x : K), (Instr.checkKey em 10000 k (Enc.val x)).run P w = .ok () w
  eq : EqEnc P k K
  und : ∃ d, P.underlying k = some d ∧ ∀ (x y : K), Instr.sameNow d (Enc.val x) (Enc.val y) = none
  same : ∀ x : K, Instr.sameBits 10000 (Enc.val x) (Enc.val x) = true
theorem val_inj {K : Type} [Enc K] {x y : K} (h : (Enc.val x) = Enc.val y) : x = y := by
 have h1 := Enc.valCells x; have h2 := Enc.valCells y; rw [h, h2] at h1; exact Enc.inj x y (by simpa using h1.symm)
section
variable {K : Type} [DecidableEq K]
def mget (l : List (K × Int)) (x : K) : Int := match l.find? (fun p => decide (p.1 = x)) with
  | some p => p.2
  | none => 0
def mput (l : List (K × Int)) (x : K) (v : Int) : List (K × Int) := if x ∈ l.map Prod.fst then l.map (fun p => if p.1 = x then (x, v) else p) else l ++ [(x, v)]
theorem mput_mem {l : List (K × Int)} {x : K} {v : Int} {p : K × Int} : p ∈ mput l x v ↔ (p = (x, v) ∨ (p.1 ≠ x ∧ p ∈ l)) := by
 unfold mput; by_cases h : x ∈ l.map Prod.fst
 ·rw [if_pos h, List.mem_map]; constructor
  ·rintro ⟨q, hq, rfl⟩; by_cases e : q.1 = x
   ·rw [if_pos e]; exact Or.inl rfl
   ·rw [if_neg e]; exact Or.inr ⟨e, hq⟩
  ·rintro (rfl | ⟨hne, hp⟩)
   ·obtain ⟨q, hq, e⟩ := List.mem_map.1 h; exact ⟨q, hq, by rw [if_pos e]⟩
   ·exact ⟨p, hp, by rw [if_neg hne]⟩
 ·rw [if_neg h, List.mem_append, List.mem_singleton]; constructor
  ·rintro (hp | rfl)
   ·exact Or.inr ⟨fun e => h (e ▸ List.mem_map.2 ⟨p, hp, rfl⟩), hp⟩
   ·exact Or.inl rfl
  ·rintro (rfl | ⟨_, hp⟩)
   ·exact Or.inr rfl
   ·exact Or.inl hp
theorem mput_keys {l : List (K × Int)} {x : K} {v : Int} : (mput l x v).map Prod.fst = if x ∈ l.map Prod.fst then l.map Prod.fst else l.map Prod.fst ++ [x] := by
 unfold mput; by_cases h : x ∈ l.map Prod.fst
 ·rw [if_pos h, if_pos h, List.map_map]; refine List.map_congr_left fun p _ => ?_; simp only [Function.comp]; by_cases e : p.1 = x
  ·rw [if_pos e, e]
  ·rw [if_neg e]
 ·rw [if_neg h, if_neg h]; simp
theorem mput_nodup {l : List (K × Int)} {x : K} {v : Int} (h : (l.map Prod.fst).Nodup) : ((mput l x v).map Prod.fst).Nodup := by
 rw [mput_keys]; by_cases hx : x ∈ l.map Prod.fst
 ·rw [if_pos hx]; exact h
 ·rw [if_neg hx]; rw [List.nodup_append]; exact ⟨h, by simp, fun a ha b hb e => by rw [List.mem_singleton] at hb; subst hb; subst e; exact hx ha⟩
theorem mput_len {l : List (K × Int)} {x : K} {v : Int} : (mput l x v).length ≤ l.length + 1 := by
 unfold mput; split <;> simp
theorem mget_mem {l : List (K × Int)} (h : (l.map Prod.fst).Nodup) {p : K × Int} (hp : p ∈ l) : mget l p.1 = p.2 := by
 unfold mget; cases hf : l.find? (fun q => decide (q.1 = p.1)) with
 | none =>
  have := List.find?_eq_none.1 hf p hp
  simp at this
 | some q =>
  have hq := List.mem_of_find?_eq_some hf
  have he := List.find?_some hf
  simp only [decide_eq_true_eq] at he
  have : q = p := by
    have h' := h
    rw [List.nodup_iff_pairwise_ne, List.pairwise_map] at h'
    by_cases hqp : q = p
    · exact hqp
    · exfalso
      rcases List.pairwise_iff_getElem.1 h' with _
      obtain ⟨i, hi, ei⟩ := List.getElem_of_mem hq
      obtain ⟨j, hj, ej⟩ := List.getElem_of_mem hp
      have hij : i = j := by
        have := (List.getElem_inj (xs := l.map Prod.fst) (i := i) (j := j) (h₀ := by simpa using hi) (h₁ := by simpa using hj) h).1 (by simp [ei, ej, he])
        exact this
      subst hij
      exact hqp (ei.symm.trans ej)
  rw [this]
theorem mput_mput (l : List (K × Int)) (x : K) (v v' : Int) : mput (mput l x v) x v' = mput l x v' := by
 have hk : x ∈ (mput l x v).map Prod.fst := List.mem_map.2 ⟨(x, v), mput_mem.2 (Or.inl rfl), rfl⟩
 have e1 : mput (mput l x v) x v' = (mput l x v).map (fun p => if p.1 = x then (x, v') else p) := by
  conv => lhs; unfold mput
  exact if_pos hk
 rw [e1]; unfold mput; by_cases h : x ∈ l.map Prod.fst
 ·rw [if_pos h, if_pos h, List.map_map]; refine List.map_congr_left fun p _ => ?_; simp only [Function.comp]; by_cases e : p.1 = x
  ·simp [e]
  ·simp [e]
 ·rw [if_neg h, if_neg h, List.map_append]; congr 1
  ·conv => rhs; rw [← List.map_id l]
   refine List.map_congr_left fun p hp => ?_; have : p.1 ≠ x := fun e => h (List.mem_map.2 ⟨p, hp, e⟩); rw [if_neg this]; rfl
  ·simp
theorem nodup_of_keys {l : List (K × Int)} (h : (l.map Prod.fst).Nodup) : l.Nodup := by
 rw [List.nodup_iff_pairwise_ne] at h ⊢; rw [List.pairwise_map] at h; exact h.imp fun h e => h (by rw [e])
theorem mget_none {l : List (K × Int)} {x : K} (h : ∀ p ∈ l, p.1 ≠ x) : mget l x = 0 := by
 unfold mget; rw [List.find?_eq_none.2 fun p hp => by simpa using h p hp]
end
/-- block b is a map that holds these entries; es, clock: how it stands in the model -/
structure MpAt {K : Type} [Enc K] [DecidableEq K] (w : World) (b : Nat) (es : Array MapEntry) (clock : Nat) (l : List (K × Int)) : Prop where
  heap : w.heap[b]? = some (.map es clock)
  ents : es.toList.map (fun e => (e.key, e.val)) = l.map (fun p => (Enc.val p.1, i64 p.2))
  born : ∀ e ∈ es.toList, e.born < clock
  apart : (es.toList.map (·.born)).Nodup
  keys : (l.map Prod.fst).Nodup
def Mp {K : Type} [Enc K] [DecidableEq K] (w : World) (b : Nat) (l : List (K × Int)) : Prop := ∃ es clock, MpAt w b es clock l
section
variable {K : Type} [Enc K] [DecidableEq K] {P : Program} {w w' : World} {b : Nat} {es : Array MapEntry} {clock : Nat} {l : List (K × Int)}
theorem MpAt.far (h : MpAt w b es clock l) {g : Option Nat} (hg : w.grownBy w' g) (hne : some b ≠ g) : MpAt w' b es clock l :=
  ⟨(hg.block b (Array.getElem?_eq_some_iff.1 h.heap).1 hne).trans h.heap, h.ents, h.born, h.apart, h.keys⟩
theorem Mp.far (h : Mp w b l) {g : Option Nat} (hg : w.grownBy w' g) (hne : some b ≠ g) : Mp w' b l := by
 obtain ⟨es, c, h⟩ := h; exact ⟨es, c, h.far hg hne⟩
theorem Mp.ext (h : Mp w b l) (hx : Ext w w') : Mp w' b l := h.far (ext_grown hx) (by simp)
theorem Mp.lt (h : Mp w b l) : b < w.heap.size := by obtain ⟨es, c, h⟩ := h; exact (Array.getElem?_eq_some_iff.1 h.heap).1
theorem Mp.keys (h : Mp w b l) : (l.map Prod.fst).Nodup := by obtain ⟨es, c, h⟩ := h; exact h.keys
theorem MpAt.len (h : MpAt w b es clock l) : es.toList.length = l.length := by
 have := congrArg List.length h.ents; simpa using this
theorem MpAt.get (h : MpAt w b es clock l) {j : Nat} {p : K × Int} (hp : l[j]? = some p) : ∃ e, es.toList[j]? = some e ∧ e.key = Enc.val p.1 ∧ e.val = i64 p.2 := by
 have := congrArg (·[j]?) h.ents; simp only [List.getElem?_map, hp, Option.map_some] at this; cases he : es.toList[j]? with
 | none => rw [he] at this; cases this
 | some e =>
  rw [he] at this
  simp only [Option.map_some, Option.some.injEq, Prod.mk.injEq] at this
  exact ⟨e, rfl, this.1, this.2⟩
theorem MpAt.get' (h : MpAt w b es clock l) {j : Nat} {e : MapEntry} (he : es.toList[j]? = some e) : ∃ p, l[j]? = some p ∧ e.key = Enc.val p.1 ∧ e.val = i64 p.2 := by
 have hj : j < l.length := by rw [← h.len]; exact (List.getElem?_eq_some_iff.1 he).1
 obtain ⟨e', he', h1, h2⟩ := h.get (List.getElem?_eq_getElem hj); rw [he] at he'; cases he'
 exact ⟨_, List.getElem?_eq_getElem hj, h1, h2⟩
theorem run_findAsking {k : TypeId} (T : KeyTy P k K) (w : World) (x : K) : ∀ (es : List MapEntry) (l : List (K × Int)) (i : Nat), es.map (fun e => (e.key, e.val)) = l.map (fun p => (Enc.val p.1, i64 p.2)) →
    ((Instr.findAsking k (Enc.val x) es i).run P w = .ok none w ∧ ∀ p ∈ l, p.1 ≠ x) ∨ ∃ j p, (Instr.findAsking k (Enc.val x) es i).run P w = .ok (some (i + j, i64 p.2)) w ∧ l[j]? = some p ∧ p.1 = x
  | [], [], i, _ => Or.inl ⟨rfl, by simp⟩
  | [], _ :: _, _, h => by simp at h
  | _ :: _, [], _, h => by simp at h
  | e :: es, p :: l, i, h => by
    simp only [List.map_cons, List.cons.injEq, Prod.mk.injEq] at h
    obtain ⟨⟨h1, h2⟩, h3⟩ := h
    have he := T.eq w x p.1
    by_cases hx : x = p.1
    · refine Or.inr ⟨0, p, ?_, rfl, hx.symm⟩
      unfold Instr.findAsking
      have hd : decide (x = p.1) = true := decide_eq_true hx
      simp only [Sem.run_bind, h1, he, Result.andThen_ok, hd, if_true, Sem.run_pure, h2, Nat.add_zero]
    · have hd : decide (x = p.1) = false := decide_eq_false hx
      rcases run_findAsking T w x es l (i + 1) h3 with ⟨r1, r2⟩ | ⟨j, q, r1, r2, r3⟩
      · refine Or.inl ⟨?_, fun q hq => ?_⟩
        · unfold Instr.findAsking
          simp only [Sem.run_bind, h1, he, Result.andThen_ok, hd, Bool.false_eq_true, if_false]
          exact r1
        · rcases List.mem_cons.1 hq with rfl | hq
          · exact fun e => hx e.symm
          · exact r2 q hq
      · refine Or.inr ⟨j + 1, q, ?_, by simpa using r2, r3⟩
        unfold Instr.findAsking
        simp only [Sem.run_bind, h1, he, Result.andThen_ok, hd, Bool.false_eq_true, if_false]
        rw [r1]
        congr 3
        omega
theorem MpAt.find {k : TypeId} (h : MpAt w b es clock l) (T : KeyTy P k K) (x : K) :
    ((Instr.findKey k (Enc.val x) es.toList).run P w = .ok none w ∧ ∀ p ∈ l, p.1 ≠ x) ∨ ∃ j p, (Instr.findKey k (Enc.val x) es.toList).run P w = .ok (some (j, i64 p.2)) w ∧ l[j]? = some p ∧ p.1 = x := by
  obtain ⟨d, hd, hs⟩ := T.und
  have hA := run_findAsking T w x es.toList l 0 h.ents
  cases hes : es.toList with
  | nil =>
    have hl : l = [] := by have := h.len; rw [hes] at this; exact List.eq_nil_of_length_eq_zero this.symm
    refine Or.inl ⟨?_, by simp [hl]⟩
    simp [Instr.findKey, run_underlying hd, Instr.findNow]
  | cons e r =>
    have hn : Instr.findNow d (Enc.val x) (e :: r) 0 = none := by
      obtain ⟨p, _, hk, _⟩ := h.get' (j := 0) (e := e) (by rw [hes]; rfl)
      unfold Instr.findNow
      rw [hk, hs]
    have hrun : (Instr.findKey k (Enc.val x) (e :: r)).run P w = (Instr.findAsking k (Enc.val x) (e :: r) 0).run P w := by
      simp [Instr.findKey, run_underlying hd, hn]
    rw [hrun, ← hes]
    simpa using hA
end
section
variable {K : Type} [Enc K] [DecidableEq K] {P : Program} {o : Oper} {f : Fr} {w : World} {b : Nat} {l : List (K × Int)} {t k e : TypeId}
/-- the type of a map from data to ints -/
structure TyMap (P : Program) (t k e : TypeId) (K : Type) [Enc K] [DecidableEq K] : Prop where
  und : P.underlying t = some (.map k e)
  key : KeyTy P k K
  zero : (P.info? e).bind (·.zero) = some (i64 0)
theorem TyMap.z (T : TyMap P t k e K) (w : World) : (zeroValue e).run P w = .ok (i64 0) w := by
 have hz := T.zero; cases hi : P.info? e with
 | none => rw [hi] at hz; cases hz
 | some i =>
  rw [hi] at hz
  simp only [Option.bind_some] at hz
  simp [zeroValue, typeInfo, hi, hz]
theorem op_makeMap (K : Type) [Enc K] [DecidableEq K] (ho : o.op = .makeMap t none) : OpS P o f w fun u w' => ∃ b, u = .map (some b) ∧ w.heap.size ≤ b ∧ Mp w' b ([] : List (K × Int)) ∧ Ext w w' := by
 have h : (execOp (evalF f) o).run P w = .ok (.value (.map (some w.heap.size))) (w.alloc (.map #[] 0)) := by
  unfold execOp
  simp [ho, Instr.makeMap]
 exact OpS.val h ⟨_, rfl, Nat.le_refl _, ⟨#[], 0, heap_alloc_new w _, rfl, by simp, by simp, by simp⟩, Ext.alloc _ _⟩
theorem op_lookup {m x : Operand} {a : K} (T : TyMap P t k e K) (ho : o.op = .lookup t m x false) (hm : evalF f m = .map (some b)) (hx : evalF f x = Enc.val a) (h : Mp w b l) :
    (execOp (evalF f) o).run P w = .ok (.value (.int .i64 (mget l a))) w := by
  obtain ⟨es, clock, h⟩ := h
  unfold execOp
  rcases h.find T.key a with ⟨h1, h2⟩ | ⟨j, p, h1, h2, h3⟩
  · simp [ho, hm, hx, Instr.lookup, run_underlying T.und, MapKept.run_getObj_map h.heap, T.key.check, h1, T.z, mget_none h2]
  · have := mget_mem h.keys (List.mem_of_getElem? h2)
    rw [h3] at this
    simp [ho, hm, hx, Instr.lookup, run_underlying T.und, MapKept.run_getObj_map h.heap, T.key.check, h1, this]
theorem grown_setBlock {w : World} {b : Nat} {o o' : Obj} (h : w.heap[b]? = some o) : w.grownBy (setBlock w b o') (some b) ∧ (setBlock w b o').heap.size = w.heap.size :=
  ⟨⟨rfl, rfl, rfl, by simp [setBlock], fun i _ hi => (MapKept.heap_set h).2 i (fun e => hi (by rw [e]))⟩, by simp [setBlock]⟩
/-- an entry is written where it stands -/
theorem MpAt.setAt {es : Array MapEntry} {clock : Nat} (h : MpAt w b es clock l) {j : Nat} {p : K × Int} (hp : l[j]? = some p) (g : MapEntry → MapEntry) (v : Int) (hg : ∀ e, es.toList[j]? = some e → g e = { key := Enc.val p.1, val := i64 v, born := e.born }) :
    MpAt (setBlock w b (.map (es.modify j g) clock)) b (es.modify j g) clock (mput l p.1 v) := by
  obtain ⟨e, he, hk, hv⟩ := h.get hp
  have hl : (es.modify j g).toList = es.toList.set j (g e) := by rw [Array.toList_modify, modify_eq_set _ _ _ _ he]
  have hmem : p ∈ l := List.mem_of_getElem? hp
  have hjl : j < l.length := (List.getElem?_eq_some_iff.1 hp).1
  have hput : mput l p.1 v = l.set j (p.1, v) := by
    unfold mput
    rw [if_pos (List.mem_map.2 ⟨p, hmem, rfl⟩)]
    apply List.ext_getElem?
    intro i
    rw [List.getElem?_map, List.getElem?_set]
    by_cases hij : j = i
    · subst hij
      rw [if_pos rfl, if_pos hjl, hp]; simp
    · rw [if_neg hij]
      cases hi : l[i]? with
      | none => rfl
      | some q =>
        simp only [Option.map_some]
        have : q.1 ≠ p.1 := fun e => by
          have hil : i < l.length := (List.getElem?_eq_some_iff.1 hi).1
          have := (List.getElem_inj (xs := l.map Prod.fst) (i := i) (j := j) (h₀ := by simpa using hil) (h₁ := by simpa using hjl) h.keys).1 (by
            rw [List.getElem_map, List.getElem_map]
            rw [List.getElem?_eq_getElem hil] at hi
            rw [List.getElem?_eq_getElem hjl] at hp
            injection hi with hi; injection hp with hp
            rw [hi, hp, e])
          exact hij this.symm
        rw [if_neg this]
  have hge := hg e he
  refine ⟨(MapKept.heap_set h.heap).1, ?_, ?_, ?_, mput_nodup h.keys⟩
  · rw [hl, hput, List.map_set, List.map_set, h.ents, hge]
  · intro x hx
    rw [hl] at hx
    rcases List.mem_or_eq_of_mem_set hx with hx | rfl
    · exact h.born x hx
    · rw [hge]; exact h.born e (List.mem_of_getElem? he)
  · rw [hl, List.map_set, hge]
    have : (es.toList.map (·.born)).set j e.born = es.toList.map (·.born) := by
      apply List.ext_getElem?
      intro i
      rw [List.getElem?_set]
      by_cases hij : j = i
      · subst hij
        have hjl' : j < es.toList.length := (List.getElem?_eq_some_iff.1 he).1
        rw [if_pos rfl, if_pos (by simpa using hjl'), List.getElem?_map, he]; rfl
      · rw [if_neg hij]
    simp only
    rw [this]
    exact h.apart
/-- a new entry -/
theorem MpAt.push {es : Array MapEntry} {clock : Nat} (h : MpAt w b es clock l) {x : K} (hx : ∀ p ∈ l, p.1 ≠ x) (v : Int) :
    MpAt (setBlock w b (.map (es.push { key := Enc.val x, val := i64 v, born := clock }) (clock + 1))) b (es.push { key := Enc.val x, val := i64 v, born := clock }) (clock + 1) (mput l x v) := by
  have hn : x ∉ l.map Prod.fst := fun hm => by
    obtain ⟨p, hp, e⟩ := List.mem_map.1 hm
    exact hx p hp e
  refine ⟨(MapKept.heap_set h.heap).1, ?_, ?_, ?_, mput_nodup h.keys⟩
  · unfold mput
    rw [if_neg hn, Array.toList_push, List.map_append, List.map_append, h.ents]; rfl
  · intro e he
    rw [Array.toList_push, List.mem_append, List.mem_singleton] at he
    rcases he with he | rfl
    · have := h.born e he; omega
    · exact Nat.lt_succ_self _
  · rw [Array.toList_push, List.map_append, List.nodup_append]
    refine ⟨h.apart, by simp, fun a ha c hc e => ?_⟩
    obtain ⟨y, hy, rfl⟩ := List.mem_map.1 ha
    simp at hc
    have := h.born y hy
    omega
theorem op_mapUpdate {m x y : Operand} {a : K} {v : Int} (T : TyMap P t k e K) (ho : o.op = .mapUpdate t m x y) (hm : evalF f m = .map (some b)) (hx : evalF f x = Enc.val a) (hy : evalF f y = .int .i64 v) (h : Mp w b l) :
    OpS P o f w fun _ w' => Mp w' b (mput l a v) ∧ w.grownBy w' (some b) ∧ w'.heap.size = w.heap.size := by
  obtain ⟨es, clock, h⟩ := h
  rcases h.find T.key a with ⟨h1, h2⟩ | ⟨j, p, h1, h2, h3⟩
  · refine OpS.skip (w' := setBlock w b (.map (es.push { key := Enc.val a, val := i64 v, born := clock }) (clock + 1))) ?_ ⟨⟨_, _, h.push h2 v⟩, grown_setBlock h.heap⟩
    unfold execOp
    simp [ho, hm, hx, hy, Instr.mapUpdate, run_underlying T.und, MapKept.run_getObj_map h.heap, T.key.check, h1, MapKept.run_setObj_map _ h.heap, setBlock]
  · obtain ⟨e0, he0, hk0, hv0⟩ := h.get h2
    have hstay : (Instr.keyThatStays (((es[j]?).map (·.key)).getD (Enc.val a)) (Enc.val a)).run P w = .ok (Enc.val a) w := by
      have he1 : es[j]? = some e0 := by simpa using he0
      have hkk : ((es[j]?).map (·.key)).getD (Enc.val a) = Enc.val a := by rw [he1]; simp [hk0, h3]
      rw [hkk]
      simp [Instr.keyThatStays, T.key.same]
    subst h3
    refine OpS.skip (w' := setBlock w b (.map (es.modify j fun e => { e with key := Enc.val p.1, val := i64 v }) clock)) ?_ ⟨⟨_, _, h.setAt h2 _ v (fun _ _ => rfl)⟩, grown_setBlock h.heap⟩
    unfold execOp
    simp [ho, hm, hx, hy, Instr.mapUpdate, run_underlying T.und, MapKept.run_getObj_map h.heap, T.key.check, h1, hstay, MapKept.run_setObj_map _ h.heap, setBlock]
/-- the map has an entry at this key, whose stamp this is -/
def MpE (w : World) (b : Nat) (l : List (K × Int)) (a : K) (s : Nat) : Prop := ∃ es clock, MpAt w b es clock l ∧ ∃ e ∈ es.toList, e.key = Enc.val a ∧ e.born = s
theorem MpE.far {w' : World} {a : K} {s : Nat} (h : MpE w b l a s) {g : Option Nat} (hg : w.grownBy w' g) (hne : some b ≠ g) : MpE w' b l a s := by
 obtain ⟨es, c, h, r⟩ := h; exact ⟨es, c, h.far hg hne, r⟩
theorem MpE.ext {w' : World} {a : K} {s : Nat} (h : MpE w b l a s) (hx : Ext w w') : MpE w' b l a s := h.far (ext_grown hx) (by simp)
theorem MpE.mp {a : K} {s : Nat} (h : MpE w b l a s) : Mp w b l := by obtain ⟨es, c, h, _⟩ := h; exact ⟨es, c, h⟩
theorem op_mapEntry {m x : Operand} {a : K} (T : TyMap P t k e K) (ho : o.op = .mapEntry t m x) (hm : evalF f m = .map (some b)) (hx : evalF f x = Enc.val a) (h : Mp w b l) :
    OpS P o f w fun u w' => ∃ s : Nat, u = .tuple #[.int .i64 (mget l a), goInt s] ∧ MpE w' b (mput l a (mget l a)) a s ∧ w.grownBy w' (some b) ∧ w'.heap.size = w.heap.size := by
  obtain ⟨es, clock, h⟩ := h
  rcases h.find T.key a with ⟨h1, h2⟩ | ⟨j, p, h1, h2, h3⟩
  · refine OpS.val (w' := setBlock w b (.map (es.push { key := Enc.val a, val := i64 0, born := clock }) (clock + 1))) (v := .tuple #[.int .i64 (mget l a), goInt clock]) ?_ ⟨clock, rfl, ⟨_, _, by rw [mget_none h2]; exact h.push h2 0, _, by rw [Array.toList_push]; exact List.mem_append_right _ (List.mem_singleton.2 rfl), rfl, rfl⟩, grown_setBlock h.heap⟩
    unfold execOp
    simp [ho, hm, hx, Instr.mapEntry, run_underlying T.und, MapKept.run_getObj_map h.heap, T.key.check, h1, T.z, MapKept.run_setObj_map _ h.heap, setBlock, mget_none h2]
  · obtain ⟨e0, he0, hk0, hv0⟩ := h.get h2
    have he1 : es[j]? = some e0 := by simpa using he0
    have hstay : (Instr.keyThatStays e0.key (Enc.val a)).run P w = .ok (Enc.val a) w := by
      rw [hk0, h3]
      simp [Instr.keyThatStays, T.key.same]
    have hget := mget_mem h.keys (List.mem_of_getElem? h2)
    subst h3
    have hs := h.setAt h2 (fun e => { e with key := Enc.val p.1 }) p.2 (fun e he => by rw [he0] at he; cases he; simp [hv0])
    refine OpS.val (w' := setBlock w b (.map (es.modify j fun e => { e with key := Enc.val p.1 }) clock)) (v := .tuple #[.int .i64 (mget l p.1), goInt e0.born]) ?_ ⟨e0.born, rfl, ⟨_, _, by rw [hget]; exact hs, { e0 with key := Enc.val p.1 }, ?_, rfl, rfl⟩, grown_setBlock h.heap⟩
    · unfold execOp
      simp [ho, hm, hx, Instr.mapEntry, run_underlying T.und, MapKept.run_getObj_map h.heap, T.key.check, h1, hstay, MapKept.run_setObj_map _ h.heap, setBlock, hget, he1]
    · rw [Array.toList_modify, modify_eq_set _ _ _ _ he0]
      have hjl : j < es.toList.length := (List.getElem?_eq_some_iff.1 he0).1
      exact List.mem_iff_getElem.2 ⟨j, by simpa using hjl, by simp⟩
theorem arr_findIdx {α : Type} (es : Array α) (p : α → Bool) : es.findIdx? p = es.toList.findIdx? p := by cases es; simp
theorem findIdx_born : ∀ (es : List MapEntry) (e : MapEntry) (j : Nat), (es.map (·.born)).Nodup → es[j]? = some e → es.findIdx? (fun x => (x.born : Int) == (e.born : Int)) = some j
  | [], _, _, _, h => by simp at h
  | x :: r, e, 0, _, h => by
    simp at h; subst h
    rw [List.findIdx?_cons]
    simp
  | x :: r, e, j + 1, hn, h => by
    simp only [List.getElem?_cons_succ] at h
    rw [List.map_cons, List.nodup_cons] at hn
    have hne : ¬ x.born = e.born := fun he => hn.1 (he ▸ List.mem_map.2 ⟨e, List.mem_of_getElem? h, rfl⟩)
    have hb : ((x.born : Int) == (e.born : Int)) = false := by simp; omega
    rw [List.findIdx?_cons, hb, findIdx_born r e j hn.2 h]
    rfl
theorem op_entryStore {m x y : Operand} {a : K} {s : Nat} {v : Int} (ho : o.op = .entryStore t m x y) (hm : evalF f m = .map (some b)) (hx : evalF f x = goInt s) (hy : evalF f y = .int .i64 v) (h : MpE w b l a s) :
    OpS P o f w fun _ w' => Mp w' b (mput l a v) ∧ w.grownBy w' (some b) ∧ w'.heap.size = w.heap.size := by
  obtain ⟨es, clock, h, e0, he0, hk, rfl⟩ := h
  obtain ⟨j, hj⟩ := List.getElem?_of_mem he0
  obtain ⟨p, hp, hk1, hv1⟩ := h.get' hj
  have ha : a = p.1 := val_inj (hk.symm.trans hk1)
  subst ha
  refine OpS.skip (w' := setBlock w b (.map (es.modify j fun e => { e with val := i64 v }) clock)) ?_ ⟨⟨_, _, h.setAt hp _ v (fun e he => by rw [hj] at he; cases he; rw [hk1])⟩, grown_setBlock h.heap⟩
  have hf : es.findIdx? (fun e => (e.born : Int) == (e0.born : Int)) = some j := by
    rw [arr_findIdx]; exact findIdx_born _ _ _ h.apart hj
  unfold execOp
  simp [ho, hm, hx, hy, Instr.entryStore, MapKept.run_getObj_map h.heap, goInt, asInt, asIntOf, hf, MapKept.run_setObj_map _ h.heap, setBlock]
/-- block r runs over the map b, which holds l; what has come out: done -/
def Rg (w : World) (b r : Nat) (l done : List (K × Int)) : Prop :=
  ∃ es clock since c0 seen, MpAt w b es clock l ∧ w.heap[r]? = some (.mapIter (some b) since seen c0) ∧ (∀ x ∈ es.toList, x.born < since) ∧ since ≤ c0 ∧ c0 = clock ∧
    done.Nodup ∧ (∀ p ∈ done, p ∈ l) ∧ (∀ (j : Nat) (x : MapEntry) (p : K × Int), es.toList[j]? = some x → l[j]? = some p → (seen.contains x.born = true ↔ p ∈ done)) ∧
    (∀ p, done.getLast? = some p → ∃ (seen' : Array Nat) (x : MapEntry), seen = seen'.push x.born ∧ x ∈ es.toList ∧ x.key = Enc.val p.1 ∧ x.val = i64 p.2)
theorem Rg.mp {r : Nat} {done : List (K × Int)} (h : Rg w b r l done) : Mp w b l := by obtain ⟨es, c, _, _, _, h, _⟩ := h; exact ⟨es, c, h⟩
theorem Rg.ne {r : Nat} {done : List (K × Int)} (h : Rg w b r l done) : r ≠ b := by
 obtain ⟨es, c, _, _, _, h, hr, _⟩ := h; intro e; rw [e, h.heap] at hr; cases hr
theorem Rg.lt {r : Nat} {done : List (K × Int)} (h : Rg w b r l done) : r < w.heap.size := by
 obtain ⟨es, c, _, _, _, _, hr, _⟩ := h; exact (Array.getElem?_eq_some_iff.1 hr).1
theorem Rg.far {w' : World} {r : Nat} {done : List (K × Int)} (h : Rg w b r l done) {g : Option Nat} (hg : w.grownBy w' g) (hb : some b ≠ g) (hr : some r ≠ g) : Rg w' b r l done := by
 have hlt := h.lt; obtain ⟨es, c, s, c0, seen, h1, h2, rest⟩ := h; exact ⟨es, c, s, c0, seen, h1.far hg hb, (hg.block r hlt hr).trans h2, rest⟩
theorem Rg.ext {w' : World} {r : Nat} {done : List (K × Int)} (h : Rg w b r l done) (hx : Ext w w') : Rg w' b r l done := h.far (ext_grown hx) (by simp) (by simp)
theorem Rg.nodup {r : Nat} {done : List (K × Int)} (h : Rg w b r l done) : done.Nodup := by obtain ⟨_, _, _, _, _, _, _, _, _, _, h, _⟩ := h; exact h
theorem Rg.sub {r : Nat} {done : List (K × Int)} (h : Rg w b r l done) : ∀ p ∈ done, p ∈ l := by obtain ⟨_, _, _, _, _, _, _, _, _, _, _, h, _⟩ := h; exact h
theorem Rg.len {r : Nat} {done : List (K × Int)} (h : Rg w b r l done) : done.length ≤ l.length :=
  h.nodup.length_le_of_subset h.sub
theorem op_range {x : Operand} (ho : o.op = .range t x) (hu : P.underlying t = some (.map k e)) (hx : evalF f x = .map (some b)) (h : Mp w b l) :
    OpS P o f w fun u w' => ∃ r, u = .pointer (some ⟨r, 0, none⟩) ∧ w.heap.size ≤ r ∧ Rg w' b r l [] ∧ Ext w w' := by
  have hlt := h.lt
  obtain ⟨es, clock, h⟩ := h
  have hrun : (execOp (evalF f) o).run P w = .ok (.value (.pointer (some ⟨w.heap.size, 0, none⟩))) (w.alloc (.mapIter (some b) clock #[] clock)) := by
    unfold execOp
    simp [ho, hx, Instr.range, run_underlying hu, MapKept.run_getObj_map h.heap]
  refine OpS.val hrun ⟨_, rfl, Nat.le_refl _, ⟨es, clock, clock, clock, #[], h.far (g := none) (ext_grown (Ext.alloc _ _)) (by simp), heap_alloc_new w _, h.born, Nat.le_refl _, rfl, by simp, by simp, by simp, by simp⟩, Ext.alloc _ _⟩
theorem op_next {x : Operand} {r : Nat} {done : List (K × Int)} (ho : o.op = .next x false) (hx : evalF f x = .pointer (some ⟨r, 0, none⟩)) (h : Rg w b r l done) :
    OpS P o f w fun u w' => (u = .tuple #[.bool false] ∧ done.Perm l ∧ w' = w) ∨
      ∃ p, p ∈ l ∧ p ∉ done ∧ u = .tuple #[.bool true, Enc.val p.1, .int .i64 p.2] ∧ Rg w' b r l (done ++ [p]) ∧ w.grownBy w' (some r) ∧ w'.heap.size = w.heap.size := by
  have hne := h.ne
  obtain ⟨es, clock, since, c0, seen, hM, hr, hold, hsc, rfl, hnd, hsub, hseen, hlast⟩ := h
  rcases run_next_at (P := P) w o.type r b since c0 seen es c0 hr hM.heap hold hsc with ⟨h0, hrun⟩ | ⟨e, he, w1, hal, hrun⟩
  · refine OpS.val (v := .tuple #[.bool false]) (w' := w) ?_ (Or.inl ⟨rfl, ?_, rfl⟩)
    · unfold execOp
      simp [ho, hx, hrun]
    · have hall : ∀ p ∈ l, p ∈ done := by
        intro p hp
        obtain ⟨j, hj⟩ := List.getElem?_of_mem hp
        obtain ⟨x, hxe, _⟩ := hM.get hj
        refine (hseen j x p hxe hj).1 ?_
        have hmem : x ∈ es.toList := List.mem_of_getElem? hxe
        cases hc : seen.contains x.born with
        | true => rfl
        | false =>
          exfalso
          have : x ∈ (leftOf es seen).toList := by
            unfold leftOf
            rw [Array.toList_filter, List.mem_filter]
            exact ⟨hmem, by rw [hc]; rfl⟩
          have hz : (leftOf es seen).toList.length = 0 := by simpa using h0
          rw [List.eq_nil_of_length_eq_zero hz] at this
          cases this
      exact (List.perm_ext_iff_of_nodup hnd (nodup_of_keys hM.keys)).2 fun p => ⟨hsub p, hall p⟩
  · have hem : e ∈ es.toList ∧ seen.contains e.born = false := by
      unfold leftOf at he
      rw [Array.toList_filter, List.mem_filter] at he
      exact ⟨he.1, by simpa using he.2⟩
    obtain ⟨j, hj⟩ := List.getElem?_of_mem hem.1
    obtain ⟨p, hp, hk, hv⟩ := hM.get' hj
    have hpn : p ∉ done := fun hc => by
      have := (hseen j e p hj hp).2 hc
      rw [hem.2] at this
      cases this
    have hr1 : w1.heap[r]? = some (.mapIter (some b) since seen c0) := by rcases hal with rfl | rfl <;> exact hr
    have hb1 : w1.heap[b]? = some (.map es c0) := by rcases hal with rfl | rfl <;> exact hM.heap
    have hset := MapKept.heap_set (o' := .mapIter (some b) since (seen.push e.born) c0) hr1
    have hb' : (setBlock w1 r (.mapIter (some b) since (seen.push e.born) c0)).heap[b]? = some (.map es c0) := (hset.2 b (fun e1 => hne e1.symm)).trans hb1
    refine OpS.val (v := .tuple #[.bool true, e.key, e.val]) (w' := setBlock w1 r (.mapIter (some b) since (seen.push e.born) c0)) ?_ (Or.inr ⟨p, List.mem_of_getElem? hp, hpn, by rw [hk, hv], ?_, ?_, ?_⟩)
    · unfold execOp
      simp [ho, hx, hrun]
    · refine ⟨es, c0, since, c0, seen.push e.born, ⟨hb', hM.ents, hM.born, hM.apart, hM.keys⟩, hset.1, hold, hsc, rfl, ?_, ?_, ?_, ?_⟩
      · rw [List.nodup_append]
        exact ⟨hnd, by simp, fun a ha c hc e => by rw [List.mem_singleton] at hc; subst hc; subst e; exact hpn ha⟩
      · intro q hq
        rcases List.mem_append.1 hq with hq | hq
        · exact hsub q hq
        · rw [List.mem_singleton] at hq; subst hq; exact List.mem_of_getElem? hp
      · intro i x q hxi hqi
        rw [contains_push, Bool.or_eq_true, hseen i x q hxi hqi, List.mem_append, List.mem_singleton]
        refine or_congr Iff.rfl ?_
        rw [beq_iff_eq]
        constructor
        · intro hbx
          have hil : i < es.toList.length := (List.getElem?_eq_some_iff.1 hxi).1
          have hjl : j < es.toList.length := (List.getElem?_eq_some_iff.1 hj).1
          have : i = j := (List.getElem_inj (xs := es.toList.map (·.born)) (i := i) (j := j) (h₀ := by simpa using hil) (h₁ := by simpa using hjl) hM.apart).1 (by
            rw [List.getElem_map, List.getElem_map]
            rw [List.getElem?_eq_getElem hil] at hxi
            rw [List.getElem?_eq_getElem hjl] at hj
            injection hxi with hxi; injection hj with hj
            rw [hxi, hj, hbx])
          subst this
          rw [hp] at hqi
          injection hqi with hqi
          exact hqi.symm
        · intro hqp
          have hil : i < l.length := (List.getElem?_eq_some_iff.1 hqi).1
          have hjl : j < l.length := (List.getElem?_eq_some_iff.1 hp).1
          have : i = j := (List.getElem_inj (xs := l.map Prod.fst) (i := i) (j := j) (h₀ := by simpa using hil) (h₁ := by simpa using hjl) hM.keys).1 (by
            rw [List.getElem_map, List.getElem_map]
            rw [List.getElem?_eq_getElem hil] at hqi
            rw [List.getElem?_eq_getElem hjl] at hp
            injection hqi with hqi; injection hp with hp
            rw [hqi, hp, hqp])
          subst this
          rw [hj] at hxi
          injection hxi with hxi
          rw [hxi]
      · intro q hq
        rw [List.getLast?_append] at hq
        simp at hq
        subst hq
        exact ⟨seen, e, rfl, hem.1, hk, hv⟩
    · rcases hal with rfl | rfl <;> exact ⟨rfl, rfl, rfl, by simp [setBlock], fun i _ hi => hset.2 i (fun e1 => hi (by rw [e1]))⟩
    · rcases hal with rfl | rfl <;> simp [setBlock]
theorem op_entry {x : Operand} {r : Nat} {done : List (K × Int)} {p : K × Int} (ho : o.op = .entry x) (hx : evalF f x = .pointer (some ⟨r, 0, none⟩)) (h : Rg w b r l (done ++ [p])) :
    (execOp (evalF f) o).run P w = .ok (.value (.tuple #[Enc.val p.1, .int .i64 p.2])) w := by
  obtain ⟨es, clock, since, c0, seen, hM, hr, hold, hsc, rfl, hnd, hsub, hseen, hlast⟩ := h
  obtain ⟨seen', e, rfl, hem, hk, hv⟩ := hlast p (by simp)
  have := run_entry_at (P := P) w r b since seen' es c0 e hr hM.heap hem hM.apart
  unfold execOp
  simp [ho, hx, this, hk, hv]
end
end Go.Fk
/-
  Names, outcomes, votes, choices and pairs of ints as keys of maps. No program in sight.
-/
set_option linter.unusedSimpArgs false
set_option linter.unusedVariables false
namespace Go.Fk
open Go Go.RowKit
/-- two ints -/
structure Pr where
  fst : Int
  snd : Int
theorem Pr.ext_iff' (a b : Pr) : a = b ↔ (a.fst = b.fst ∧ a.snd = b.snd) := by cases a; cases b; simp
instance : DecidableEq Pr := fun a b => decidable_of_iff _ (Pr.ext_iff' a b).symm
instance : Inhabited Pr := ⟨⟨0, 0⟩⟩
def Pr.cs (v : Pr) : List Value := [i64 v.fst, i64 v.snd]
instance encPr : Enc Pr where
  cells := Pr.cs
  size := 2
  len _ := rfl
  pos := by decide
  one x u h := by simp [Pr.cs] at h; rcases h with rfl | rfl <;> rfl
  val x := .agg x.cs.toArray
  valCells _ := rfl
  inj x y h := by
    simp only [Pr.cs, i64, List.cons.injEq, Value.int.injEq, true_and, and_true] at h
    exact (Pr.ext_iff' x y).2 h
section
variable {P : Program} {w : World} {em : Bool} {n : Nat}
theorem checkKey_one {t : TypeId} {k : IntKind} (hd : P.underlying t = some (.int k)) (j : IntKind) (a : Int) : (Instr.checkKey em (n + 1) t (.int j a)).run P w = .ok () w := by
 simp [Instr.checkKey, run_underlying hd]
theorem checkKey_array {t e : TypeId} {len : Nat} {xs : Array Value} (hu : P.underlying t = some (.array len e)) (h : ∀ j, j < len → ∃ s a, (Go.sizeOf e).run P w = .ok s w ∧ (part e xs (j * s)).run P w = .ok a w ∧ (Instr.checkKey em n e a).run P w = .ok () w) : (Instr.checkKey em (n + 1) t (.agg xs)).run P w = .ok () w := by
 rw [Instr.checkKey]; simp only [Sem.run_bind, run_underlying hu, Result.andThen_ok]; simp only [Std.Legacy.Range.forIn_eq_forIn_range', Std.Legacy.Range.size, Nat.sub_zero, Nat.add_one_sub_one, Nat.div_one]; have each : ∀ j ∈ List.range' 0 len, ∃ s a, (Go.sizeOf e).run P w = .ok s w ∧ (part e xs (j * s)).run P w = .ok a w ∧ (Instr.checkKey em n e a).run P w = .ok () w := fun j hj => h j (by rw [List.mem_range'_1] at hj; omega); generalize List.range' 0 len = is at each; induction is with
 | nil => simp
 | cons j is ih =>
  obtain ⟨s, a, h1, h2, h3⟩ := each j (by simp)
  simp only [List.forIn_cons, Sem.run_bind, h1, Result.andThen_ok, h2, h3, Sem.run_pure]
  exact ih fun y hy => each y (by simp [hy])
theorem checkKey_struct {t : TypeId} {fs : List Field} {xs : Array Value} (hu : P.underlying t = some (.struct fs.toArray)) (h : ∀ f ∈ fs, f.name ≠ "_" ∧ ∃ a, (part f.type xs f.offset).run P w = .ok a w ∧ (Instr.checkKey em n f.type a).run P w = .ok () w) : (Instr.checkKey em (n + 1) t (.agg xs)).run P w = .ok () w := by
 rw [Instr.checkKey]; simp only [Sem.run_bind, run_underlying hu, Result.andThen_ok]; rw [← Array.forIn_toList]; simp only [List.toList_toArray]; induction fs with
 | nil => simp
 | cons f fs ih =>
  obtain ⟨hn, a, h1, h2⟩ := h f (by simp)
  simp only [List.forIn_cons, Sem.run_bind, hn, ne_eq, not_false_eq_true, if_true, Result.andThen_ok, h1, h2, Sem.run_pure]
  clear hu
  have h' := fun g hg => h g (List.mem_cons_of_mem _ hg)
  clear ih h
  induction fs with
  | nil => simp
  | cons g fs ih =>
    obtain ⟨hn, a, h1, h2⟩ := h' g (by simp)
    simp only [List.forIn_cons, Sem.run_bind, hn, ne_eq, not_false_eq_true, if_true, Result.andThen_ok, h1, h2, Sem.run_pure]
    exact ih fun g hg => h' g (List.mem_cons_of_mem _ hg)
theorem sizeOf_of {e : TypeId} {s : Nat} (hs : (P.info? e).map (·.size) = some s) : (Go.sizeOf e).run P w = .ok s w := by
 cases hi : P.info? e with
 | none => rw [hi] at hs; cases hs
 | some i =>
  rw [hi] at hs
  simp only [Option.map_some, Option.some.injEq] at hs
  simp [Go.sizeOf, typeInfo, hi, hs]
theorem sameBits_ints {cs : List Value} (h : ∀ u ∈ cs, ∃ k a, u = .int k a) : Instr.sameBits (n + 1) (.agg cs.toArray) (.agg cs.toArray) = true := by
 unfold Instr.sameBits; simp only [beq_self_eq_true, Bool.true_and, List.toList_toArray]; rw [List.all_eq_true]; rintro ⟨x, y⟩ hxy; have hx := List.of_mem_zip hxy
 have he : x = y := by
  obtain ⟨i, hi, e⟩ := List.getElem_of_mem hxy
  rw [List.getElem_zip] at e
  injection e with e1 e2
  rw [← e1, ← e2]
 subst he; obtain ⟨k, a, rfl⟩ := h x hx.1; cases n <;> simp [Instr.sameBits]
end
theorem cs_int_nm (x : Nm) : ∀ u ∈ Nm.cs x, ∃ k a, u = .int k a := by
 intro u h; simp [Nm.cs] at h; rcases h with rfl | rfl | rfl | rfl | rfl | rfl | rfl | rfl <;> exact ⟨_, _, rfl⟩
theorem cs_int_oc (x : Oc) : ∀ u ∈ Oc.cs x, ∃ k a, u = .int k a := by
 intro u h; rw [Oc.cs_eq, List.mem_append] at h; rcases h with h | h
 ·simp at h; rcases h with rfl | rfl | rfl <;> exact ⟨_, _, rfl⟩
 ·exact cs_int_nm _ u h
theorem cs_int_ch (x : Ch) : ∀ u ∈ Ch.cs x, ∃ k a, u = .int k a := by
 intro u h; rw [Ch.cs_eq, List.mem_append] at h; rcases h with h | h
 ·simp at h; subst h; exact ⟨_, _, rfl⟩
 ·exact cs_int_nm _ u h
theorem cs_int_pr (x : Pr) : ∀ u ∈ Pr.cs x, ∃ k a, u = .int k a := by
 intro u h; simp [Pr.cs] at h; rcases h with rfl | rfl <;> exact ⟨_, _, rfl⟩
section
variable {P : Program} {k e : TypeId}
theorem checkKey_nm {n : Nat} {w : World} {em : Bool} (hu : P.underlying k = some (.array 8 e)) (he : P.underlying e = some (.int .u8)) (h1 : isOneT P e = true) (hs : (P.info? e).map (·.size) = some 1) (x : Nm) : (Instr.checkKey em (n + 2) k (.agg (Nm.cs x).toArray)).run P w = .ok () w := by
 refine checkKey_array hu fun j hj => ?_; have hlen : (Nm.cs x).length = 8 := rfl; have hc : (Nm.cs x)[j]? = some ((Nm.cs x)[j]'(by omega)) := List.getElem?_eq_getElem (by omega); obtain ⟨q, a, hq⟩ := cs_int_nm x _ (List.getElem_mem (by omega : j < (Nm.cs x).length)); rw [hq] at hc; exact ⟨1, _, sizeOf_of hs, by rw [Nat.mul_one]; exact part_one h1 hc, checkKey_one he q a⟩
theorem KeyTy.nm (hu : P.underlying k = some (.array 8 e)) (he : P.underlying e = some (.int .u8)) (h1 : isOneT P e = true) (hs : (P.info? e).map (·.size) = some 1) (E : EqEnc P k Nm) : KeyTy P k Nm where
  check _ _ x := checkKey_nm (n := 9998) hu he h1 hs x
  eq := E
  und := ⟨_, hu, fun _ _ => rfl⟩
  same x := sameBits_ints (n := 9999) (cs_int_nm x)
theorem KeyTy.pr (hu : P.underlying k = some (.array 2 e)) (he : P.underlying e = some (.int .i64)) (h1 : isOneT P e = true) (hs : (P.info? e).map (·.size) = some 1) (E : EqEnc P k Pr) : KeyTy P k Pr where
  check w em x := by
    refine checkKey_array (n := 9999) hu fun j hj => ?_
    have hlen : (Pr.cs x).length = 2 := rfl
    have hc : (Pr.cs x)[j]? = some ((Pr.cs x)[j]'(by omega)) := List.getElem?_eq_getElem (by omega)
    obtain ⟨q, a, hq⟩ := cs_int_pr x _ (List.getElem_mem (by omega : j < (Pr.cs x).length))
    rw [hq] at hc
    exact ⟨1, _, sizeOf_of hs, by rw [Nat.mul_one]; exact part_one h1 hc, checkKey_one he q a⟩
  eq := E
  und := ⟨_, hu, fun _ _ => rfl⟩
  same x := sameBits_ints (n := 9999) (cs_int_pr x)
/-- a field that is an int, a field that is a name -/
theorem fieldInt {cs : List Value} {f : Field} {em : Bool} {w : World} {q : IntKind} {a : Int} {n : Nat} (ho : P.underlying f.type = some (.int .i64)) (h1 : isOneT P f.type = true) (hc : cs[f.offset]? = some (.int q a)) : ∃ v, (part f.type cs.toArray f.offset).run P w = .ok v w ∧ (Instr.checkKey em (n + 1) f.type v).run P w = .ok () w :=
  ⟨_, part_one h1 hc, checkKey_one ho q a⟩
theorem fieldNm {cs : List Value} {f : Field} {em : Bool} {w : World} {n : Nat} (x : Nm) (hu : P.underlying f.type = some (.array 8 e)) (he : P.underlying e = some (.int .u8)) (h1 : isOneT P e = true) (hs : (P.info? e).map (·.size) = some 1) (ha : isAggT P f.type = true) (hz : (P.info? f.type).map (·.size) = some 8) (hc : (cs.drop f.offset).take 8 = Nm.cs x) : ∃ v, (part f.type cs.toArray f.offset).run P w = .ok v w ∧ (Instr.checkKey em (n + 2) f.type v).run P w = .ok () w :=
  ⟨_, part_agg ha hz hc, checkKey_nm hu he h1 hs x⟩
end
end Go.Fk
/-
  Regions that draw their order, where some operations change memory: those stand in a chain, each waits for the one ahead; the others leave a known value and no trace. No program in sight.
-/
set_option linter.unusedSectionVars false
set_option linter.unusedSimpArgs false
set_option linter.unusedVariables false
namespace Go.Fk
open Go Go.RowKit
def NC (w : World) (b : Nat) : Prop := ∃ o : Obj, w.heap[b]? = some o ∧ o.isCells = false
section
variable {w w' : World} {b : Nat}
theorem NC.rows (h : NC w b) : ∀ r, some b = some r → ∃ o : Obj, w.heap[r]? = some o ∧ o.isCells = false := fun r e => by cases e; exact h
theorem Mp.nc {K : Type} [Enc K] [DecidableEq K] {l : List (K × Int)} (h : Mp w b l) : NC w b := by obtain ⟨es, c, h⟩ := h; exact ⟨_, h.heap, rfl⟩
theorem Rg.nc {K : Type} [Enc K] [DecidableEq K] {r : Nat} {l d : List (K × Int)} (h : Rg w b r l d) : NC w r := by obtain ⟨_, _, _, _, _, _, h, _⟩ := h; exact ⟨_, h, rfl⟩
theorem Cells.farM {p : Addr} {cs : List Value} (h : Cells w p cs) (hn : NC w b) (hg : w.grownBy w' (some b)) : Cells w' p cs := fun j u hu => cell_kept (h j u hu) hg hn.rows
theorem Box.ncne {b2 : Nat} {t : TypeId} {cs : List Value} (h : Box w b2 t cs) (hn : NC w b) : b2 ≠ b := by
 rintro rfl; obtain ⟨o, h1, h2⟩ := hn; unfold Box at h; rw [h] at h1; cases h1
 cases h2
theorem Box.farM {b2 : Nat} {t : TypeId} {cs : List Value} (h : Box w b2 t cs) (hn : NC w b) (hg : w.grownBy w' (some b)) : Box w' b2 t cs := h.far hg (by simp; exact h.ncne hn)
theorem Rd.farM {α : Type} [Enc α] {lo hi : Nat} {A : Option Addr} {l : List α} (h : Rd w lo hi A l) (hn : NC w b) (hg : w.grownBy w' (some b)) : Rd w' lo hi A l := ⟨h.1, fun hn' => by
  obtain ⟨ad, e, h1, h2, hc⟩ := h.2 hn'
  exact ⟨ad, e, h1, h2, fun k x hk => (hc k x hk).farM hn hg⟩⟩
theorem Own.cellsBlock {α : Type} [Enc α] {base : Nat} {e : TypeId} {v : Value} {l : List α} (h : Own w base e v l) : ∀ k, v.ownBlock = some k → ∃ o : Obj, w.heap[k]? = some o ∧ o.isCells = true := by
 intro k hk; rcases h.2 with ⟨rfl, _⟩ | ⟨g, cap, cur, rfl, hb, hg, _⟩
 ·cases hk
 ·cases hk; exact ⟨_, hg, rfl⟩
theorem Own.ncne {α : Type} [Enc α] {base : Nat} {e : TypeId} {v : Value} {l : List α} (h : Own w base e v l) (hn : NC w b) : some b ≠ v.ownBlock := by
 intro hv; obtain ⟨o, h1, h2⟩ := h.cellsBlock b hv.symm; obtain ⟨o', h3, h4⟩ := hn; rw [h1] at h3; cases h3
 rw [h2] at h4; cases h4
theorem Own.farM {α : Type} [Enc α] {base : Nat} {e : TypeId} {v : Value} {l : List α} (h : Own w base e v l) (hn : NC w b) (hg : w.grownBy w' (some b)) : Own w' base e v l :=
  h.kept hg (Or.inr fun e => h.ncne hn e.symm)
theorem Mp.farM {K : Type} [Enc K] [DecidableEq K] {b2 : Nat} {l : List (K × Int)} (h : Mp w b2 l) (hne : b2 ≠ b) (hg : w.grownBy w' (some b)) : Mp w' b2 l := h.far hg (by simpa using hne)
theorem Mp.farO {K : Type} [Enc K] [DecidableEq K] {l : List (K × Int)} {α : Type} [Enc α] {base : Nat} {e : TypeId} {v : Value} {l' : List α} (h : Mp w b l) (hO : Own w base e v l') (hg : w.grownBy w' v.ownBlock) : Mp w' b l := h.far hg (hO.ncne h.nc)
theorem Mp.farB {K : Type} [Enc K] [DecidableEq K] {l : List (K × Int)} {b2 : Nat} {t : TypeId} {cs : List Value} (h : Mp w b l) (hB : Box w b2 t cs) (hg : w.grownBy w' (some b2)) : Mp w' b l := h.far hg (by simp; exact fun e => hB.ncne h.nc e.symm)
theorem Rg.farO {K : Type} [Enc K] [DecidableEq K] {r : Nat} {l d : List (K × Int)} {α : Type} [Enc α] {base : Nat} {e : TypeId} {v : Value} {l' : List α} (h : Rg w b r l d) (hO : Own w base e v l') (hg : w.grownBy w' v.ownBlock) : Rg w' b r l d := h.far hg (hO.ncne h.mp.nc) (hO.ncne h.nc)
theorem Rg.farB {K : Type} [Enc K] [DecidableEq K] {r : Nat} {l d : List (K × Int)} {b2 : Nat} {t : TypeId} {cs : List Value} (h : Rg w b r l d) (hB : Box w b2 t cs) (hg : w.grownBy w' (some b2)) : Rg w' b r l d := h.far hg (by simp; exact fun e => hB.ncne h.mp.nc e.symm) (by simp; exact fun e => hB.ncne h.nc e.symm)
end
theorem grown_refl (w : World) (g : Option Nat) : w.grownBy w g := ⟨rfl, rfl, rfl, Nat.le_refl _, fun _ _ _ => rfl⟩
theorem grown_trans {a w w' : World} {g : Option Nat} (h : a.grownBy w g) (k : w.grownBy w' g) : a.grownBy w' g :=
  ⟨k.os.trans h.os, k.tape.trans h.tape, k.output.trans h.output, Nat.le_trans h.size k.size, fun i hi hne => (k.block i (Nat.lt_of_lt_of_le hi h.size) hne).trans (h.block i hi hne)⟩
theorem grown_ext {a w w' : World} {g : Option Nat} (h : a.grownBy w g) (hx : Ext w w') : a.grownBy w' g :=
  grown_trans h ⟨Below.os hx, Below.tape hx, Below.output hx, hx.size, fun _ hk _ => hx.block hk⟩
theorem grown_new {a w w' : World} {g k : Option Nat} (h : a.grownBy w g) (hk : w.grownBy w' k) (hn : ∀ i, k = some i → a.heap.size ≤ i) : a.grownBy w' g :=
  ⟨hk.os.trans h.os, hk.tape.trans h.tape, hk.output.trans h.output, Nat.le_trans h.size hk.size, fun i hi hne => (hk.block i (Nat.lt_of_lt_of_le hi h.size) (fun e => by have := hn i e.symm; omega)).trans (h.block i hi hne)⟩
theorem grown_own {α : Type} [Enc α] {a w w' : World} {g : Option Nat} {e : TypeId} {v : Value} {l : List α} (h : a.grownBy w g) (hO : Own w a.heap.size e v l) (hk : w.grownBy w' v.ownBlock) : a.grownBy w' g := grown_new h hk fun i hi => (hO.lt i hi).1
def setL (Ls : Nat → Bool) (i : Nat) : Nat → Bool := fun j => bif Nat.beq j i then true else Ls j
theorem setL_same (Ls : Nat → Bool) (i : Nat) : setL Ls i i = true := by simp [setL]
theorem setL_ne (Ls : Nat → Bool) {i j : Nat} (h : j ≠ i) : setL Ls i j = Ls j := by
 have : Nat.beq j i = false := by
  cases hb : Nat.beq j i with
  | false => rfl
  | true => exact absurd (Nat.eq_of_beq_eq_true hb) h
 simp [setL, this]
/-- edges lead back; slots lie below N -/
def drawOkI (N : Nat) (l : List Oper) : Bool :=
  (l.zipIdx.all fun (o, i) => o.after.toList.all fun e => !Region.binds .any e || decide (e.on < i)) &&
  (l.all fun o => match o.dst with | some d => decide (d < N) | none => true)
section
variable {P : Program} {N : Nat} {Q : Exit → Fr → World → Prop} {f : Fr} {w : World}
theorem wpAny_inv {l : List Oper} (hok : drawOkI N l = true) (I : (Nat → Bool) → Fr → World → Prop)
    (hstep : ∀ (Ls : Nat → Bool) i o f w, l[i]? = some o → Ls i = false → (∀ e ∈ o.after, Region.binds .any e = true → Ls e.on = true) → I Ls f w →
      (Region.wanted o (yieldF l.toArray f) = true → OpS P o f w fun v w' => I (setL Ls i) (updo f o.dst v) w') ∧ (Region.wanted o (yieldF l.toArray f) = false → I (setL Ls i) (updo f o.dst undef) w))
    (hfin : ∀ Ls f w, (∀ i, i < l.length → Ls i = true) → I Ls f w → Q .normal f w) :
    ∀ (fuel : Nat) (listed : Array Bool) (a : Act) (f : Fr) (w : World), listed.size = l.length → Rel N a f → I (fun j => listed.getD j false) f w →
      ((List.range l.length).filter fun i => !listed.getD i false).length ≤ fuel → wpAny P .any l.toArray (lift N Q) fuel listed a w := by
  unfold drawOkI at hok
  simp only [Bool.and_eq_true] at hok
  obtain ⟨hok1, hok2⟩ := hok
  have hedge : ∀ i o, l[i]? = some o → ∀ e ∈ o.after, Region.binds .any e = true → e.on < i := by
    intro i o ho e he hb
    have h1 := List.all_eq_true.1 hok1 (o, i) (by rw [List.mem_zipIdx_iff_getElem?]; exact ho)
    have h2 := List.all_eq_true.1 h1 e (by simpa using he)
    rw [hb] at h2
    simpa using h2
  have hdst : ∀ (i : Nat) (o : Oper), l[i]? = some o → ∀ d, o.dst = some d → d < N := by
    intro i o ho d hd
    have h1 := List.all_eq_true.1 hok2 o (List.mem_of_getElem? ho)
    rw [hd] at h1
    simpa using h1
  have hall : ∀ listed : Array Bool, listed.size = l.length → Region.ready .any l.toArray listed = [] → ∀ i, i < l.length → listed.getD i false = true := by
    intro listed hs hr i
    induction i using Nat.strongRecOn with
    | _ i ih =>
      intro hi
      cases hc : listed.getD i false with
      | true => rfl
      | false =>
        exfalso
        have hmem : i ∈ Region.ready .any l.toArray listed := by
          unfold Region.ready
          rw [List.mem_filter]
          refine ⟨by simpa using hi, ?_⟩
          have ho : l.toArray[i]? = some l[i] := by simp [List.getElem?_eq_getElem hi]
          have hc' : listed.getD i true = false := by
            simp only [Array.getD_eq_getD_getElem?] at hc ⊢
            have hlt : i < listed.size := by omega
            rw [Array.getElem?_eq_getElem hlt] at hc ⊢
            simpa using hc
          rw [hc', ho]
          simp only [Option.map_some, Option.getD_some, Bool.not_false, Bool.true_and, Array.all_eq_true_iff_forall_mem]
          intro e he
          cases hbe : Region.binds .any e with
          | false => rfl
          | true =>
            have hlt := hedge i l[i] (List.getElem?_eq_getElem hi) e he hbe
            rw [ih e.on hlt (by omega)]
            rfl
        rw [hr] at hmem
        cases hmem
  intro fuel
  induction fuel with
  | zero =>
    intro listed a f w hs hrel hI hfuel
    have hnil : ∀ i, i < l.length → listed.getD i false = true := by
      intro i hi
      have h0 : ((List.range l.length).filter fun i => !listed.getD i false) = [] := List.eq_nil_of_length_eq_zero (by omega)
      have := List.filter_eq_nil_iff.1 h0 i (by simpa using hi)
      simpa using this
    refine ⟨?_, f, hrel, hfin _ f w hnil hI⟩
    unfold Region.ready
    rw [List.filter_eq_nil_iff]
    intro i hi
    have hi' : i < l.length := by simpa using hi
    have := hnil i hi'
    have hc' : listed.getD i true = true := by
      simp only [Array.getD_eq_getD_getElem?] at this ⊢
      have hlt : i < listed.size := by omega
      rw [Array.getElem?_eq_getElem hlt] at this ⊢
      simpa using this
    rw [hc']
    simp
  | succ fuel ih =>
    intro listed a f w hs hrel hI hfuel
    refine ⟨fun hr => ⟨f, hrel, hfin _ f w (hall listed hs hr) hI⟩, fun i hi => ?_⟩
    unfold Region.ready at hi
    rw [List.mem_filter] at hi
    obtain ⟨hi1, hi2⟩ := hi
    have hil : i < l.length := by simpa using hi1
    simp only [Bool.and_eq_true] at hi2
    obtain ⟨hi2, hi3⟩ := hi2
    have ho : l[i]? = some l[i] := List.getElem?_eq_getElem hil
    have hoa : l.toArray[i]? = some l[i] := by simp [ho]
    rw [hoa] at hi3
    simp only [Option.map_some, Option.getD_some, Array.all_eq_true_iff_forall_mem] at hi3
    have hilisted : listed.getD i false = false := by
      simp only [Array.getD_eq_getD_getElem?] at hi2 ⊢
      have hlt : i < listed.size := by omega
      rw [Array.getElem?_eq_getElem hlt] at hi2 ⊢
      simpa using hi2
    have hwait : ∀ e ∈ l[i].after, Region.binds .any e = true → listed.getD e.on false = true := by
      intro e he hbe
      have h1 := hi3 e he
      rw [hbe] at h1
      exact h1
    obtain ⟨hw1, hw0⟩ := hstep _ i l[i] f w ho hilisted hwait hI
    have hset : (fun j => (listed.setIfInBounds i true).getD j false) = setL (fun j => listed.getD j false) i := by
      funext j
      by_cases hji : j = i
      · subst hji; rw [setL_same, getD_set_self (by omega)]
      · rw [setL_ne _ hji, getD_set_other (Ne.symm hji)]
    have hlt : ((List.range l.length).filter fun k => !(listed.setIfInBounds i true).getD k false).length < ((List.range l.length).filter fun k => !listed.getD k false).length := by
      have hsub : ((List.range l.length).filter fun k => !(listed.setIfInBounds i true).getD k false) = (((List.range l.length).filter fun k => !listed.getD k false)).filter fun k => !(listed.setIfInBounds i true).getD k false := by
        rw [List.filter_filter]
        refine List.filter_congr fun k _ => ?_
        by_cases hki : k = i
        · subst hki; rw [getD_set_self (by omega)]; simp
        · rw [getD_set_other (Ne.symm hki)]; simp
      rw [hsub]
      refine List.length_filter_lt_length_iff_exists.2 ⟨i, ?_, ?_⟩
      · rw [List.mem_filter]; exact ⟨by simpa using hil, by rw [hilisted]; rfl⟩
      · rw [getD_set_self (by omega)]; simp
    have hnext : ∀ v w', I (setL (fun j => listed.getD j false) i) (updo f l[i].dst v) w' → wpAny P .any l.toArray (lift N Q) fuel (listed.setIfInBounds i true) (a.put l[i].dst v) w' := by
      intro v w' hI'
      refine ih _ _ (updo f l[i].dst v) w' (by simpa using hs) (hrel.puto (fun d hd => hdst i l[i] ho d hd) v) (by rw [hset]; exact hI') (by omega)
    unfold wpOp
    rw [hoa]
    simp only
    rw [hrel.yieldF]
    split
    · rename_i hw
      exact .inl (hw1 hw N a hrel _ _ fun v w' r => hnext v w' r)
    · rename_i hw
      exact hnext undef w (hw0 (by simpa using hw))
theorem W.drawI {id : Nat} {l : List Oper} (hm : P.follows .mixedOrders = true) (hok : drawOkI N l = true) (I : (Nat → Bool) → Fr → World → Prop) (h0 : I (fun _ => false) f { w with drawn := w.drawn + 1 })
    (hstep : ∀ (Ls : Nat → Bool) i o f w, l[i]? = some o → Ls i = false → (∀ e ∈ o.after, Region.binds .any e = true → Ls e.on = true) → I Ls f w →
      (Region.wanted o (yieldF l.toArray f) = true → OpS P o f w fun v w' => I (setL Ls i) (updo f o.dst v) w') ∧ (Region.wanted o (yieldF l.toArray f) = false → I (setL Ls i) (updo f o.dst undef) w))
    (hfin : ∀ Ls f w, (∀ i, i < l.length → Ls i = true) → I Ls f w → Q .normal f w) : W P N (.region id l.toArray true) Q f w := by
  intro a ha
  refine wp_region_any hm ?_
  refine wpAny_inv hok I hstep hfin _ _ a f _ (by simp) ha ?_ ?_
  · have : (fun j => (Array.replicate l.toArray.size false).getD j false) = fun _ => false := by
      funext j
      simp [Array.getD_eq_getD_getElem?, Array.getElem?_replicate]
      split <;> rfl
    rw [this]; exact h0
  · have := List.length_filter_le (fun i => !(Array.replicate l.toArray.size false).getD i false) (List.range l.length)
    simpa using this
end
def stageOk : List (Nat × Sp) → (Nat → Value) → World → Prop
  | [], _, _ => True
  | x :: r, s, w => x.2.p (s x.1) w ∧ stageOk r s w
theorem stageOk.congr : ∀ {st : List (Nat × Sp)} {s s' : Nat → Value} {w : World}, stageOk st s w → (∀ x ∈ st, s' x.1 = s x.1) → stageOk st s' w
  | [], _, _, _, _, _ => trivial
  | x :: _, _, _, _, h, he => ⟨by rw [he x (by simp)]; exact h.1, stageOk.congr h.2 fun y hy => he y (by simp [hy])⟩
def inCh (ch : List Nat) (i : Nat) : Bool := ch.any fun c => Nat.beq c i
theorem inCh_iff {ch : List Nat} {i : Nat} : inCh ch i = true ↔ i ∈ ch := by
 unfold inCh; rw [List.any_eq_true]; constructor
 ·rintro ⟨c, hc, e⟩; rw [← Nat.eq_of_beq_eq_true e]; exact hc
 ·exact fun h => ⟨i, h, by simp⟩
/-- slots apart; each of the chain waits for the one ahead; the stages speak of slots of the chain alone -/
def drawOkC (N : Nat) (l : List Oper) (ch : List Nat) (st : List (List (Nat × Sp))) : Bool :=
  drawOkI N l && decide ((l.filterMap (·.dst)).Nodup) && decide ch.Nodup &&
  (ch.all fun c => decide (c < l.length)) &&
  ((ch.zip (ch.drop 1)).all fun x => match l[x.2]? with | some o => waits o x.1 | none => false) &&
  (st.all fun s => s.all fun x => inCh ch x.1 && (match l[x.1]? with | some o => o.dst.isSome | none => false))
def stg (st : List (List (Nat × Sp))) (k : Nat) : List (Nat × Sp) := st.getD k []
def waitsAt (l : List Oper) (j i : Nat) : Bool := match l[j]? with | some o => waits o i | none => false
section
variable {P : Program} {N : Nat} {Q : Exit → Fr → World → Prop} {f : Fr} {w : World}
theorem slotF_updo {l : List Oper} (hn : (l.filterMap (·.dst)).Nodup) {i : Nat} {o : Oper} (ho : l[i]? = some o) (f : Fr) (v : Value) {j : Nat} (hj : j ≠ i) : slotF l.toArray (updo f o.dst v) j = slotF l.toArray f j := by
 unfold slotF; cases hd : o.dst with
 | none => rfl
 | some d =>
  cases hoj : l[j]? with
  | none => simp [hoj]
  | some oj =>
    have : l.toArray[j]? = some oj := by simp [hoj]
    rw [this]
    simp only [Option.bind_some]
    cases hdj : oj.dst with
    | none => rfl
    | some dj =>
      simp only [updo]
      rw [upd_ne]
      intro e
      -- two operations with one slot
      have key : ∀ (l : List Oper) (i j : Nat) (o oj : Oper) (d : Nat), (l.filterMap (·.dst)).Nodup → l[i]? = some o → l[j]? = some oj → o.dst = some d → oj.dst = some d → i = j := by
        intro l
        induction l with
        | nil => intro i j o oj d _ h; simp at h
        | cons x t ih =>
          intro i j o oj d hn hi hj hd hdj
          have hn2 : (t.filterMap (·.dst)).Nodup := by
            cases hx : x.dst with
            | none => rwa [List.filterMap_cons_none hx] at hn
            | some y => rw [List.filterMap_cons_some hx] at hn; exact (List.nodup_cons.1 hn).2
          cases i with
          | zero =>
            cases j with
            | zero => rfl
            | succ j =>
              exfalso
              simp at hi; subst hi
              simp only [List.getElem?_cons_succ] at hj
              rw [List.filterMap_cons_some hd] at hn
              exact (List.nodup_cons.1 hn).1 (List.mem_filterMap.2 ⟨oj, List.mem_of_getElem? hj, hdj⟩)
          | succ i =>
            simp only [List.getElem?_cons_succ] at hi
            cases j with
            | zero =>
              exfalso
              simp at hj; subst hj
              rw [List.filterMap_cons_some hdj] at hn
              exact (List.nodup_cons.1 hn).1 (List.mem_filterMap.2 ⟨o, List.mem_of_getElem? hi, hd⟩)
            | succ j =>
              simp only [List.getElem?_cons_succ] at hj
              rw [ih i j o oj d hn2 hi hj hd hdj]
      exact hj (key l i j o oj d hn ho hoj hd (by rw [hdj, e])).symm
theorem slotF_self {l : List Oper} {i : Nat} {o : Oper} (ho : l[i]? = some o) (f : Fr) (v : Value) : slotF l.toArray (updo f o.dst v) i = if o.dst.isSome then v else undef := by
 unfold slotF; have : l.toArray[i]? = some o := by simp [ho]
 rw [this]; simp only [Option.bind_some]; cases hd : o.dst with
 | none => rfl; | some d => simp [updo, upd_same]
theorem outside_updo {l : List Oper} {i : Nat} {o : Oper} (ho : l[i]? = some o) {f : Fr} {v : Value} {j : Nat} (hj : outside l j = true) : updo f o.dst v j = f j := by
 cases hd : o.dst with
 | none => rfl
 | some d =>
  simp only [updo]
  rw [upd_ne]
  intro e
  exact outside_spec hj ho (by rw [hd, e])
/-- THE RULE. -/
theorem W.drawC {id : Nat} {l : List Oper} (ch : List Nat) (st : List (List (Nat × Sp))) (V : Nat → Value) (g : Option Nat) (hm : P.follows .mixedOrders = true) (hok : drawOkC N l ch st = true)
    (h0 : ∀ s w', Ext w w' → stageOk (stg st 0) s w')
    (hval : ∀ i o, l[i]? = some o → inCh ch i = false → ∀ f' w', w.grownBy w' g → (∀ j, outside l j = true → f' j = f j) → (∀ j, inCh ch j = false → waits o j = true → slotF l.toArray f' j = V j) →
      (∃ k, k ≤ ch.length ∧ stageOk (stg st k) (slotF l.toArray f') w' ∧ ∀ j c, j < k → ch[j]? = some c → waitsAt l c i = false) →
      (Region.wanted o (yieldF l.toArray f') = true → OpS P o f' w' fun v w'' => v = V i ∧ w'' = w') ∧ (Region.wanted o (yieldF l.toArray f') = false → undef = V i) ∧ (o.dst = none → V i = undef))
    (hchain : ∀ k c o, ch[k]? = some c → l[c]? = some o → ∀ f' w', w.grownBy w' g → (∀ j, outside l j = true → f' j = f j) → (∀ j, inCh ch j = false → waits o j = true → slotF l.toArray f' j = V j) → stageOk (stg st k) (slotF l.toArray f') w' →
      (Region.wanted o (yieldF l.toArray f') = true → OpS P o f' w' fun v w'' => w.grownBy w'' g ∧ stageOk (stg st (k + 1)) (fun j => bif Nat.beq j c then v else slotF l.toArray f' j) w'') ∧
      (Region.wanted o (yieldF l.toArray f') = false → stageOk (stg st (k + 1)) (fun j => bif Nat.beq j c then undef else slotF l.toArray f' j) w'))
    (hfin : ∀ f' w', w.grownBy w' g → (∀ j, outside l j = true → f' j = f j) → (∀ i, i < l.length → inCh ch i = false → slotF l.toArray f' i = V i) → stageOk (stg st ch.length) (slotF l.toArray f') w' → Q .normal f' w') :
    W P N (.region id l.toArray true) Q f w := by
  unfold drawOkC at hok
  simp only [Bool.and_eq_true, decide_eq_true_eq] at hok
  obtain ⟨⟨⟨⟨⟨hok0, hnd⟩, hchn⟩, hchl⟩, hchw⟩, hst⟩ := hok
  have hch2 : ∀ k c c', ch[k]? = some c → ch[k + 1]? = some c' → waitsAt l c' c = true := by
    intro k c c' h1 h2
    have : (c, c') ∈ ch.zip (ch.drop 1) := by
      refine List.mem_of_getElem? (i := k) ?_
      rw [List.getElem?_zip_eq_some]
      exact ⟨h1, by rw [List.getElem?_drop, Nat.add_comm]; exact h2⟩
    exact List.all_eq_true.1 hchw _ this
  have hsts : ∀ k, ∀ x ∈ stg st k, inCh ch x.1 = true ∧ ∃ o, l[x.1]? = some o ∧ o.dst.isSome = true := by
    intro k x hx
    unfold stg at hx
    rw [List.getD_eq_getElem?_getD] at hx
    cases hk : st[k]? with
    | none => rw [hk] at hx; simp at hx
    | some s =>
      rw [hk] at hx
      have h1 := List.all_eq_true.1 hst s (List.mem_of_getElem? hk)
      have h2 := List.all_eq_true.1 h1 x (by simpa using hx)
      simp only [Bool.and_eq_true] at h2
      refine ⟨h2.1, ?_⟩
      cases ho : l[x.1]? with
      | none => rw [ho] at h2; simp at h2
      | some o => rw [ho] at h2; exact ⟨o, rfl, h2.2⟩
  refine W.drawI hm hok0 (fun Ls f' w' => w.grownBy w' g ∧ (∀ j, outside l j = true → f' j = f j) ∧ (∀ i o, l[i]? = some o → Ls i = true → ∀ e ∈ o.after, Region.binds .any e = true → Ls e.on = true) ∧
      (∀ i, i < l.length → inCh ch i = false → Ls i = true → slotF l.toArray f' i = V i) ∧ ∃ k, k ≤ ch.length ∧ (∀ j c, ch[j]? = some c → (Ls c = true ↔ j < k)) ∧ stageOk (stg st k) (slotF l.toArray f') w') ?_ ?_ ?_
  · refine ⟨grown_ext (grown_refl w g) (Ext.draw w), fun _ _ => rfl, fun _ _ _ h => by simp at h, fun _ _ _ h => by simp at h, 0, Nat.zero_le _, fun _ _ _ => by simp, h0 _ _ (Ext.draw w)⟩
  · intro Ls i o f' w' ho hi hw ⟨hg, hout, hcl, hv, k, hk, hks, hsk⟩
    have hil : i < l.length := (List.getElem?_eq_some_iff.1 ho).1
    have hwv : ∀ j, inCh ch j = false → waits o j = true → slotF l.toArray f' j = V j := fun j hj hwj => by
      obtain ⟨e, he, hb, rfl⟩ := of_waits hwj
      by_cases hjl : e.on < l.length
      · exact hv _ hjl hj (hw e he hb)
      · -- an edge leads back
        unfold drawOkI at hok0
        simp only [Bool.and_eq_true] at hok0
        have h1 := List.all_eq_true.1 hok0.1 (o, i) (by rw [List.mem_zipIdx_iff_getElem?]; exact ho)
        have h2 := List.all_eq_true.1 h1 e (by simpa using he)
        rw [hb] at h2
        simp at h2
        omega
    have hcl2 : ∀ i' o', l[i']? = some o' → setL Ls i i' = true → ∀ e ∈ o'.after, Region.binds .any e = true → setL Ls i e.on = true := by
      intro i' o' ho' hi' e he hb
      have hmono : ∀ j, Ls j = true → setL Ls i j = true := fun j hj => by
        by_cases hji : j = i
        · subst hji; exact setL_same _ _
        · rw [setL_ne _ hji]; exact hj
      by_cases hii : i' = i
      · subst hii
        rw [ho] at ho'; cases ho'
        exact hmono _ (hw e he hb)
      · rw [setL_ne _ hii] at hi'
        exact hmono _ (hcl i' o' ho' hi' e he hb)
    cases hc : inCh ch i with
    | false =>
      have hnoch : ∀ j c, j < k → ch[j]? = some c → waitsAt l c i = false := by
        intro j c hj hjc
        cases hwa : waitsAt l c i with
        | false => rfl
        | true =>
          exfalso
          unfold waitsAt at hwa
          cases hlc : l[c]? with
          | none => rw [hlc] at hwa; cases hwa
          | some oc =>
            rw [hlc] at hwa
            obtain ⟨e, he, hb, hei⟩ := of_waits hwa
            have := hcl c oc hlc ((hks j c hjc).2 hj) e he hb
            rw [hei, hi] at this
            cases this
      obtain ⟨q1, q0, qn⟩ := hval i o ho hc f' w' hg hout hwv ⟨k, hk, hsk, hnoch⟩
      have hnext : ∀ v, v = V i → (w.grownBy w' g ∧ (∀ j, outside l j = true → updo f' o.dst v j = f j) ∧ (∀ i' o', l[i']? = some o' → setL Ls i i' = true → ∀ e ∈ o'.after, Region.binds .any e = true → setL Ls i e.on = true) ∧
          (∀ i', i' < l.length → inCh ch i' = false → setL Ls i i' = true → slotF l.toArray (updo f' o.dst v) i' = V i') ∧ ∃ k, k ≤ ch.length ∧ (∀ j c, ch[j]? = some c → (setL Ls i c = true ↔ j < k)) ∧ stageOk (stg st k) (slotF l.toArray (updo f' o.dst v)) w') := by
        intro v hvv
        refine ⟨hg, fun j hj => (outside_updo ho hj).trans (hout j hj), hcl2, fun i' hi' hc' hs' => ?_, k, hk, fun j c hjc => ?_, hsk.congr fun x hx => ?_⟩
        · by_cases hii : i' = i
          · subst hii
            rw [slotF_self ho]
            cases hd : o.dst with
            | none => simp [qn hd]
            | some d => simpa using hvv
          · rw [setL_ne _ hii] at hs'
            rw [slotF_updo hnd ho _ _ hii]
            exact hv i' hi' hc' hs'
        · have : c ≠ i := by
            rintro rfl
            rw [inCh_iff.2 (List.mem_of_getElem? hjc)] at hc
            cases hc
          rw [setL_ne _ this]
          exact hks j c hjc
        · have : x.1 ≠ i := by
            intro e
            have := (hsts k x hx).1
            rw [e, hc] at this
            cases this
          exact slotF_updo hnd ho _ _ this
      exact ⟨fun hwt => (q1 hwt).mono fun v w'' ⟨e1, e2⟩ => by subst e2; exact hnext v e1, fun hwt => hnext undef (q0 hwt)⟩
    | true =>
      obtain ⟨j, hj⟩ := List.getElem?_of_mem (inCh_iff.1 hc)
      have hjk : j = k := by
        rcases Nat.lt_or_ge j k with h | h
        · have := (hks j i hj).2 h
          rw [hi] at this; cases this
        · rcases Nat.lt_or_ge k j with h2 | h2
          · -- the one ahead is listed
            exfalso
            obtain ⟨c', hc'⟩ : ∃ c', ch[j - 1]? = some c' := by
              have : j < ch.length := (List.getElem?_eq_some_iff.1 hj).1
              exact ⟨_, List.getElem?_eq_getElem (by omega)⟩
            have hwa := hch2 (j - 1) c' i hc' (by rw [show j - 1 + 1 = j by omega]; exact hj)
            unfold waitsAt at hwa
            rw [ho] at hwa
            obtain ⟨e, he, hb, hei⟩ := of_waits hwa
            have h3 := hw e he hb
            rw [hei] at h3
            have := (hks (j - 1) c' hc').1 h3
            omega
          · omega
      subst hjk
      have hkl : j < ch.length := (List.getElem?_eq_some_iff.1 hj).1
      obtain ⟨q1, q0⟩ := hchain j i o hj ho f' w' hg hout hwv hsk
      have hnext : ∀ v w'', w.grownBy w'' g → stageOk (stg st (j + 1)) (fun m => bif Nat.beq m i then v else slotF l.toArray f' m) w'' → (w.grownBy w'' g ∧ (∀ j, outside l j = true → updo f' o.dst v j = f j) ∧ (∀ i' o', l[i']? = some o' → setL Ls i i' = true → ∀ e ∈ o'.after, Region.binds .any e = true → setL Ls i e.on = true) ∧
          (∀ i', i' < l.length → inCh ch i' = false → setL Ls i i' = true → slotF l.toArray (updo f' o.dst v) i' = V i') ∧ ∃ k, k ≤ ch.length ∧ (∀ j c, ch[j]? = some c → (setL Ls i c = true ↔ j < k)) ∧ stageOk (stg st k) (slotF l.toArray (updo f' o.dst v)) w'') := by
        intro v w'' hg'' hsv
        refine ⟨hg'', fun m hm => (outside_updo ho hm).trans (hout m hm), hcl2, fun i' hi' hc' hs' => ?_, j + 1, hkl, fun m c hmc => ?_, hsv.congr fun x hx => ?_⟩
        · have hii : i' ≠ i := by
            rintro rfl
            rw [hc] at hc'; cases hc'
          rw [setL_ne _ hii] at hs'
          rw [slotF_updo hnd ho _ _ hii]
          exact hv i' hi' hc' hs'
        · by_cases hci : c = i
          · subst hci
            rw [setL_same]
            have : m = j := by
              have h1 : m < ch.length := (List.getElem?_eq_some_iff.1 hmc).1
              exact (List.getElem?_inj h1 hchn).1 (by rw [hmc, hj])
            subst this
            simp
          · rw [setL_ne _ hci, hks m c hmc]
            constructor
            · omega
            · intro h
              have : m ≠ j := by
                rintro rfl
                rw [hj] at hmc; cases hmc; exact hci rfl
              omega
        · by_cases hxi : x.1 = i
          · obtain ⟨_, o', ho', hd'⟩ := hsts (j + 1) x hx
            rw [hxi] at ho'
            rw [ho] at ho'
            cases ho'
            rw [hxi, slotF_self ho, if_pos hd']
            simp
          · rw [slotF_updo hnd ho _ _ hxi]
            have : Nat.beq x.1 i = false := by
              cases hb : Nat.beq x.1 i with
              | false => rfl
              | true => exact absurd (Nat.eq_of_beq_eq_true hb) hxi
            simp [this]
      exact ⟨fun hwt => (q1 hwt).mono fun v w'' ⟨e1, e2⟩ => hnext v w'' e1 e2, fun hwt => hnext undef w' hg (q0 hwt)⟩
  · intro Ls f' w' hall ⟨hg, hout, hcl, hv, k, hk, hks, hsk⟩
    have hkk : k = ch.length := by
      rcases Nat.lt_or_ge k ch.length with h | h
      · exfalso
        have hck : ch[k]? = some ch[k] := List.getElem?_eq_getElem h
        have hcl : ch[k] < l.length := by
          have := List.all_eq_true.1 hchl ch[k] (List.getElem_mem h)
          simpa using this
        have := (hks k ch[k] hck).1 (hall _ hcl)
        omega
      · omega
    subst hkk
    exact hfin f' w' hg hout (fun i hi hc => hv i hi hc (hall i hi)) hsk
end
end Go.Fk
/-
  m[k] op= x in a region that draws its order. No program in sight.
-/
set_option linter.unusedSectionVars false
set_option linter.unusedSimpArgs false
set_option linter.unusedVariables false
namespace Go.Fk
open Go Go.RowKit
def vOf : List Value → Nat → Value
  | [], _ => undef
  | v :: _, 0 => v
  | _ :: r, i + 1 => vOf r i
/-- of each operation that is not of the chain -/
def VObls (ch : List Nat) (Pd : Nat → Oper → Prop) : Nat → List Oper → Prop
  | _, [] => True
  | i, o :: r => (inCh ch i = false → Pd i o) ∧ VObls ch Pd (i + 1) r
theorem VObls.cons {ch : List Nat} {Pd : Nat → Oper → Prop} {i : Nat} {o : Oper} {r : List Oper} (h : inCh ch i = false → Pd i o) (hr : VObls ch Pd (i + 1) r) : VObls ch Pd i (o :: r) := ⟨h, hr⟩
theorem VObls.nil {ch : List Nat} {Pd : Nat → Oper → Prop} {i : Nat} : VObls ch Pd i [] := trivial
theorem VObls.get {ch : List Nat} {Pd : Nat → Oper → Prop} : ∀ {l : List Oper} {i k : Nat} {o : Oper}, VObls ch Pd i l → l[k]? = some o → inCh ch (i + k) = false → Pd (i + k) o
  | [], _, _, _, _, hk, _ => by simp at hk
  | x :: l, i, 0, o, h, hk, hc => by simp at hk; subst hk; exact h.1 hc
  | x :: l, i, k + 1, o, h, hk, hc => by
    simp only [List.getElem?_cons_succ] at hk
    have := VObls.get (k := k) h.2 hk (by rwa [show i + 1 + k = i + (k + 1) by omega])
    rwa [show i + 1 + k = i + (k + 1) by omega] at this
section
variable {K : Type} [Enc K] [DecidableEq K] {P : Program} {N : Nat} {Q : Exit → Fr → World → Prop} {f : Fr} {w : World} {b : Nat} {l : List (K × Int)} {a : K} {v : Int}
def Sp.mp (b : Nat) (l : List (K × Int)) : Sp := ⟨fun _ w => Mp w b l, fun _ _ _ h hx => h.ext hx⟩
def Sp.me (b : Nat) (l : List (K × Int)) (a : K) : Sp := ⟨fun u w => ∃ (x : Int) (s : Nat), u = .tuple #[.int .i64 x, goInt s] ∧ MpE w b l a s, fun _ _ _ ⟨x, s, h1, h2⟩ hx => ⟨x, s, h1, h2.ext hx⟩⟩
def Sp.mx (b : Nat) (l : List (K × Int)) (a : K) : Sp := ⟨fun u w => ∃ s : Nat, u = goInt s ∧ MpE w b l a s, fun _ _ _ ⟨s, h1, h2⟩ hx => ⟨s, h1, h2.ext hx⟩⟩
/-- the map before, with its entry, the entry's stamp at hand, behind -/
def muSt (me ex b : Nat) (l : List (K × Int)) (a : K) (v : Int) : List (List (Nat × Sp)) :=
  [[(me, Sp.mp b l)], [(me, Sp.me b (mput l a (mget l a)) a)], [(ex, Sp.mx b (mput l a (mget l a)) a)], [(me, Sp.mp b (mput l a v))]]
theorem mget_mput_same (l : List (K × Int)) (h : (l.map Prod.fst).Nodup) (a : K) (x : Int) : mget (mput l a x) a = x := mget_mem (mput_nodup h) (p := (a, x)) (mput_mem.2 (Or.inl rfl))
/-- what a reading of the map at the key finds, as long as the new value has not been laid in -/
theorem mu_read {ops : List Oper} {me ex es i : Nat} {s : Nat → Value} {w' : World} (hl : (l.map Prod.fst).Nodup) (h : ∃ k, k ≤ [me, ex, es].length ∧ stageOk (stg (muSt me ex b l a v) k) s w' ∧ ∀ j c, j < k → [me, ex, es][j]? = some c → waitsAt ops c i = false) (hw : waitsAt ops es i = true) : ∃ l', Mp w' b l' ∧ mget l' a = mget l a := by
 obtain ⟨k, hk, hs, hno⟩ := h; match k, hk with
 | 0, _ => exact ⟨_, hs.1, rfl⟩
 | 1, _ =>
  obtain ⟨⟨x, s, _, h⟩, _⟩ := hs
  exact ⟨_, h.mp, mget_mput_same l hl a _⟩
 | 2, _ =>
  obtain ⟨⟨s, _, h⟩, _⟩ := hs
  exact ⟨_, h.mp, mget_mput_same l hl a _⟩
 | 3, _ =>
  have := hno 2 es (by omega) rfl
  rw [hw] at this; cases this
 | k + 4, hk => simp at hk
theorem op_lookupQ {o : Oper} {m x : Operand} {t k e : TypeId} {c : Int} (T : TyMap P t k e K) (ho : o.op = .lookup t m x false) (hm : evalF f m = .map (some b)) (hx : evalF f x = Enc.val a) (h : Mp w b l) (hq : mget l a = c) : (execOp (evalF f) o).run P w = .ok (.value (.int .i64 c)) w := by
 rw [← hq]; exact op_lookup T ho hm hx h
def Sp.mapR (l : List (K × Int)) : Sp := ⟨fun u w => ∃ b, u = .map (some b) ∧ Mp w b l, fun _ _ _ ⟨b, h1, h2⟩ hx => ⟨b, h1, h2.ext hx⟩⟩
theorem Mp.farG {b2 r : Nat} {l2 d : List (K × Int)} {K' : Type} [Enc K'] [DecidableEq K'] {l' : List (K' × Int)} {w' : World} (h : Mp w b2 l') (hG : Rg w b r l2 d) (hg : w.grownBy w' (some r)) : Mp w' b2 l' := h.far hg (by
  intro e
  cases e
  obtain ⟨es, c, h⟩ := h
  obtain ⟨_, _, _, _, _, _, hr, _⟩ := hG
  rw [h.heap] at hr
  cases hr)
theorem op_nextE {o : Oper} {x : Operand} {r : Nat} {done : List (K × Int)} (ho : o.op = .next x false) (hx : evalF f x = .pointer (some ⟨r, 0, none⟩)) (h : Rg w b r l done) :
    OpS P o f w fun u w' => (u = .tuple #[.bool false] ∧ done.Perm l ∧ Ext w w') ∨
      ∃ p, p ∈ l ∧ p ∉ done ∧ u = .tuple #[.bool true, Enc.val p.1, .int .i64 p.2] ∧ Rg w' b r l (done ++ [p]) ∧ w.grownBy w' (some r) ∧ w'.heap.size = w.heap.size :=
  (op_next ho hx h).mono fun u w' hh => by
    rcases hh with ⟨h1, h2, rfl⟩ | hh
    · exact Or.inl ⟨h1, h2, Ext.refl _⟩
    · exact Or.inr hh
theorem W.drawU {id : Nat} {ops : List Oper} {me ex es : Nat} {t k e : TypeId} (T : TyMap P t k e K) (V : List Value) (hm : P.follows .mixedOrders = true) (hok : drawOkC N ops [me, ex, es] (muSt me ex b l a v) = true) (hM : Mp w b l)
    (hval : VObls [me, ex, es] (fun i o => ∀ f' w', w.grownBy w' (some b) → (∀ j, outside ops j = true → f' j = f j) → (∀ j, inCh [me, ex, es] j = false → waits o j = true → slotF ops.toArray f' j = vOf V j) →
      (∃ k, k ≤ [me, ex, es].length ∧ stageOk (stg (muSt me ex b l a v) k) (slotF ops.toArray f') w' ∧ ∀ j c, j < k → [me, ex, es][j]? = some c → waitsAt ops c i = false) →
      o.guard = none ∧ (execOp (evalF f') o).run P w' = .ok (.value (vOf V i)) w' ∧ o.dst.isSome = true) 0 ops)
    {ome oex oes : Oper} (hme : ops[me]? = some ome) (hex : ops[ex]? = some oex) (hes : ops[es]? = some oes) {xm xk ym y : Operand} {d1 d2 : Nat} (gme : ome.guard = none) (gex : oex.guard = none) (ges : oes.guard = none)
    (dme : ome.dst = some d1) (dex : oex.dst = some d2) (hne : Nat.beq me ex = false)
    (o1 : ome.op = .mapEntry t xm xk) (o2 : oex.op = .extract (.tmp d1) 1) (o3 : oes.op = .entryStore t ym (.tmp d2) y)
    (hx : ∀ f' : Fr, (∀ j, outside ops j = true → f' j = f j) → (∀ j, inCh [me, ex, es] j = false → waits ome j = true → slotF ops.toArray f' j = vOf V j) → evalF f' xm = .map (some b) ∧ evalF f' xk = Enc.val a)
    (hy : ∀ f' : Fr, (∀ j, outside ops j = true → f' j = f j) → (∀ j, inCh [me, ex, es] j = false → waits oes j = true → slotF ops.toArray f' j = vOf V j) → evalF f' ym = .map (some b) ∧ evalF f' y = .int .i64 v)
    (hfin : ∀ f' w', w.grownBy w' (some b) → (∀ j, outside ops j = true → f' j = f j) → (∀ i, i < ops.length → inCh [me, ex, es] i = false → slotF ops.toArray f' i = vOf V i) → Mp w' b (mput l a v) → Q .normal f' w') :
    W P N (.region id ops.toArray true) Q f w := by
  have nog : ∀ {o : Oper} {g : Nat → Option Bool}, o.guard = none → Region.wanted o g = true := fun h => by rw [Region.wanted, h]
  refine W.drawC [me, ex, es] (muSt me ex b l a v) (vOf V) (some b) hm hok (fun s w' hx => ⟨hM.ext hx, trivial⟩) ?_ ?_ ?_
  · intro i o ho hc f' w' hg hout hd hk
    have := VObls.get (i := 0) (k := i) hval ho (by rw [Nat.zero_add]; exact hc)
    rw [Nat.zero_add] at this
    obtain ⟨h1, h2, h3⟩ := this f' w' hg hout hd hk
    exact ⟨fun _ => OpS.val h2 ⟨rfl, rfl⟩, fun hw => (by rw [nog h1] at hw; cases hw), fun hn => by rw [hn] at h3; cases h3⟩
  · intro k c o hk hc f' w' hg hout hd hs
    match k, hk with
    | 0, hk =>
      simp at hk; subst hk
      rw [hme] at hc; cases hc
      obtain ⟨hm1, hk1⟩ := hx f' hout hd
      refine ⟨fun _ => (op_mapEntry T o1 hm1 hk1 hs.1).mono ?_, fun hw => by rw [nog gme] at hw; cases hw⟩
      rintro u w'' ⟨s, rfl, hE, hg2, _⟩
      refine ⟨grown_trans hg hg2, ⟨mget l a, s, by show (bif Nat.beq _ _ then _ else _) = _; rw [Nat.beq_refl]; rfl, hE⟩, trivial⟩
    | 1, hk =>
      simp at hk; subst hk
      rw [hex] at hc; cases hc
      obtain ⟨⟨x, s, h1, h2⟩, _⟩ := hs
      have hsl : f' d1 = .tuple #[.int .i64 x, goInt s] := by
        have : slotF ops.toArray f' me = f' d1 := by
          unfold slotF
          have : ops.toArray[me]? = some ome := by simp [hme]
          rw [this]; simp [dme]
        rw [← this]; exact h1
      refine ⟨fun _ => OpS.val (op_extract o2 hsl rfl) ⟨hg, ⟨s, by simp, h2⟩, trivial⟩, fun hw => by rw [nog gex] at hw; cases hw⟩
    | 2, hk =>
      simp at hk; subst hk
      rw [hes] at hc; cases hc
      obtain ⟨⟨s, h1, h2⟩, _⟩ := hs
      have hsl : f' d2 = goInt s := by
        have : slotF ops.toArray f' ex = f' d2 := by
          unfold slotF
          have : ops.toArray[ex]? = some oex := by simp [hex]
          rw [this]; simp [dex]
        rw [← this]; exact h1
      obtain ⟨hm1, hv1⟩ := hy f' hout hd
      refine ⟨fun _ => (op_entryStore o3 hm1 hsl hv1 h2).mono ?_, fun hw => by rw [nog ges] at hw; cases hw⟩
      rintro u w'' ⟨hM2, hg2, _⟩
      rw [mput_mput] at hM2
      exact ⟨grown_trans hg hg2, hM2, trivial⟩
    | k + 3, hk => simp at hk
  · intro f' w' hg hout hv hs
    exact hfin f' w' hg hout hv hs.1
end
end Go.Fk
/-
  Appending whole slices; empty slice literals; products; shifts by an unsigned number. No program in sight.
-/
set_option linter.unusedSectionVars false
set_option linter.unusedSimpArgs false
set_option linter.unusedVariables false
namespace Go.Fk
open Go Go.RowKit
section
variable {α : Type} [Enc α] {P : Program} {o : Oper} {f : Fr} {w : World}
end
end Go.Fk
/-
  Drawn regions with a chain that only makes new memory: calls, new slices, appends to slices that the region itself has made. No program in sight.
-/
set_option linter.unusedSectionVars false
set_option linter.unusedSimpArgs false
set_option linter.unusedVariables false
namespace Go.Fk
open Go Go.RowKit
section
variable {P : Program} {N : Nat} {Q : Exit → Fr → World → Prop} {f : Fr} {w : World} {l : List Oper}
end
end Go.Fk
/-
  Drawn regions that read a slot which a later operation of the region writes. No program in sight.
-/
set_option linter.unusedSectionVars false
set_option linter.unusedSimpArgs false
set_option linter.unusedVariables false
namespace Go.Fk
open Go Go.RowKit
section
variable {P : Program} {N : Nat} {Q : Exit → Fr → World → Prop} {f : Fr} {w : World} {l : List Oper} {S : List Sp} {i : Nat} {o : Oper} {r : List Oper}
end
end Go.Fk
/-
  The closed cells of a row, limb by limb: so that each can be shown on its own. No program in sight.
-/
namespace Go.Fk
open Go
theorem joined_of {P : Program} {f : FuncId} {fn : Func} {s : ChangeSpec} {c : OpenClaim} (laid : laidOutB P = true) (rowed : mapsRowed P = true) (stops : P.stops = []) (knobs : P.stopKnobs = []) (heard : P.stopsHeard = true) (enter : P.mayEnter = true) (lifts : P.liftsFinal = false) (make : P.make = some .cut) (keys : P.plainKeys = false)
    (h1 : c.wf (OpenSpec.ofChange s) = true) (h2 : fn.params.all (P.readableRec ·) = true) (h3 : namedTie P c.named s.vars = true) (h4 : (c.stops == []) = true) (h5 : (c.knobs == []) = true)
    (h6 : (c.inPlace == P.inPlace f) = true) (h7 : (c.unfollowed == P.unfollowed f) = true) (h8 : (c.recurses == P.recurses f) = true) (h9 : (c.named == P.varsNamed f) = true)
    (h10 : ((c.maps == (fn.params.toList ++ s.plain.varTypes P).any (P.mapsRec ·)) && (c.ifaces == (fn.params.toList ++ s.plain.varTypes P).any (P.ifacesRec ·)) && (c.mapsOut == P.mapsAmong fn.resultTypes.toList) &&
      (c.loops == (fn.params.toList ++ s.plain.varTypes P).any (P.loopsFrom ·)) && (c.wideKeys == (fn.params.toList ++ s.plain.varTypes P ++ fn.resultTypes.toList).any (P.wideKeysFrom ·)) &&
      s.vars.all (P.varReadable ·) && fn.resultTypes.all (fun t => P.readableRec t && decide (t < P.types.size)) && (c.ifacesOut == fn.resultTypes.toList.any (P.ifacesRec ·)) && (c.loopsOut == fn.resultTypes.toList.any (P.loopsFrom ·))) = true)
    (h11 : (c.plainKeys == false) = true) (h12 : c.shortTexts.isNone = true) (h13 : (c.lifted == false) = true) (h14 : (some Make.cut == some c.make) = true)
    (h15 : ((c.kinds == (if c.domain.isEmpty then [] else fn.params.toList.map fun t => match P.underlying t with | some (.int k) => some k | _ => none)) && (c.pinned == c.pinnedBy) &&
      (c.veiled == (fn.params.toList ++ s.plain.varTypes P ++ fn.resultTypes.toList).any (P.veiledRec ·)) && c.veiledFits P fn.params.toList (fn.params.toList ++ s.plain.varTypes P ++ fn.resultTypes.toList)) = true) : joinedFacts P f fn s c = true := by
  simp only [Bool.and_eq_true] at h10 h15
  obtain ⟨⟨⟨⟨⟨⟨⟨⟨a1, a2⟩, a3⟩, a4⟩, a5⟩, a6⟩, a7⟩, a8⟩, a9⟩ := h10
  obtain ⟨⟨⟨b1, b2⟩, b3⟩, b4⟩ := h15
  have e1 : (P.stops == []) = true := by rw [stops]; rfl
  have e2 : (P.stopKnobs == []) = true := by rw [knobs]; rfl
  have e3 : (c.plainKeys == P.plainKeys) = true := by rw [keys]; exact h11
  have e4 : (c.lifted == P.liftsFinal) = true := by rw [lifts]; exact h13
  have e5 : (P.make == some c.make) = true := by rw [make]; exact h14
  unfold joinedFacts
  simp only [Bool.and_eq_true]
  exact ⟨⟨⟨⟨⟨⟨⟨⟨⟨⟨⟨⟨⟨⟨⟨⟨⟨⟨⟨⟨⟨⟨⟨⟨⟨⟨⟨⟨⟨⟨⟨h1, laid⟩, rowed⟩, h2⟩, h3⟩, h4⟩, e1⟩, h5⟩, e2⟩, h6⟩, h7⟩, h8⟩, h9⟩, a1⟩, a2⟩, a3⟩, a4⟩, a5⟩, a6⟩, a7⟩, a8⟩, a9⟩, e3⟩, h12⟩, heard⟩, enter⟩, e4⟩, e5⟩, b1⟩, b2⟩, b3⟩, b4⟩
end Go.Fk
/-
  Arguments opened to data: names, votes, outcomes, choices and slices of them; and what a call leaves that has laid new blocks alone. No program in sight.
-/
namespace Go.Fk
open Go Go.RowKit Go.ChangeShapes Go.WideShapes Go.Deep
section
variable {H : Type} {enc : TypeId × Value → H} {P : Program} {w : World} {base : Nat} {spare : Nat → Bool} {held : Bool}
theorem split_at (cs : List Value) (a n : Nat) : cs.drop a = (cs.drop a).take n ++ cs.drop (a + n) := by
 rw [← List.drop_drop, List.take_append_drop]
/-- cells that read at type t are the cells of a datum -/
def Opens (P : Program) (t : TypeId) (α : Type) [Enc α] : Prop :=
  P.cellsOf t = Enc.size α ∧ ∀ (H : Type) (enc : TypeId × Value → H) (w : World) (base : Nat) (spare : Nat → Bool) (held : Bool) (fuel : Nat) (cs : List Value) (x : DataW H × List MemPlace), DataW.trod enc P w base spare held fuel t cs = some x → ∃ d : α, cs = Enc.cells d
theorem open_u8 {t : TypeId} {fuel : Nat} {cs : List Value} {x : DataW H × List MemPlace} (ht : P.underlying t = some (.int .u8)) (h : DataW.trod enc P w base spare held fuel t cs = some x) : ∃ b : UInt8, cs = [u8 b] := by
 obtain ⟨n, rfl, _, hw⟩ := DataW.trod_int ht h
 have hb : 0 ≤ n ∧ n < 256 := by
  simp [Lit.wf] at hw
  have h1 : IntKind.u8.min = 0 := rfl
  have h2 : IntKind.u8.max = 255 := rfl
  omega
 refine ⟨UInt8.ofNat n.toNat, ?_⟩; unfold u8
 have : (UInt8.ofNat n.toNat).toNat = n.toNat := by
  rw [UInt8.toNat_ofNat']
  exact Nat.mod_eq_of_lt (by omega)
 rw [this, Int.toNat_of_nonneg hb.1]
theorem Opens.int {t : TypeId} (ht : P.underlying t = some (.int .i64)) (hc : P.cellsOf t = 1) : Opens P t Int :=
  ⟨hc, fun H enc w base spare held fuel cs x h => by
    obtain ⟨n, rfl, _, _⟩ := DataW.trod_int ht h
    exact ⟨n, rfl⟩⟩
theorem Opens.nm {t e : TypeId} (ht : P.underlying t = some (.array 8 e)) (he : P.underlying e = some (.int .u8)) (hc : P.cellsOf t = 8) (hce : P.cellsOf e = 1) : Opens P t Nm :=
  ⟨hc, fun H enc w base spare held fuel cs x h => by
    obtain ⟨xs, m, _, _, hl, hxl, hi⟩ := DataW.trod_array ht h
    rw [hc] at hl
    have key : ∀ i, i < 8 → ∃ b : UInt8, (cs.drop i).take 1 = [u8 b] := fun i hlt => by
      have h1 := hi i hlt
      rw [hce, Nat.mul_one] at h1
      have hx : xs[i]? = some (xs[i]'(by omega)) := List.getElem?_eq_getElem (by omega)
      exact open_u8 he (h1.trans hx)
    obtain ⟨b0, e0⟩ := key 0 (by omega); obtain ⟨b1, e1⟩ := key 1 (by omega); obtain ⟨b2, e2⟩ := key 2 (by omega); obtain ⟨b3, e3⟩ := key 3 (by omega)
    obtain ⟨b4, e4⟩ := key 4 (by omega); obtain ⟨b5, e5⟩ := key 5 (by omega); obtain ⟨b6, e6⟩ := key 6 (by omega); obtain ⟨b7, e7⟩ := key 7 (by omega)
    refine ⟨⟨b0, b1, b2, b3, b4, b5, b6, b7⟩, ?_⟩
    have s0 := split_at cs 0 1; have s1 := split_at cs 1 1; have s2 := split_at cs 2 1; have s3 := split_at cs 3 1
    have s4 := split_at cs 4 1; have s5 := split_at cs 5 1; have s6 := split_at cs 6 1; have s7 := split_at cs 7 1
    rw [e0] at s0; rw [e1] at s1; rw [e2] at s2; rw [e3] at s3; rw [e4] at s4; rw [e5] at s5; rw [e6] at s6; rw [e7] at s7
    have s8 : cs.drop 8 = [] := List.drop_of_length_le (by omega)
    rw [List.drop_zero] at s0
    rw [s0, s1, s2, s3, s4, s5, s6, s7, s8]
    rfl⟩
theorem Opens.one {t : TypeId} {α : Type} [Enc α] (O : Opens P t α) {fuel : Nat} {cs : List Value} {x : Option (DataW H × List MemPlace)} (h : DataW.trod enc P w base spare held fuel t cs = x) (hx : x.isSome = true) : ∃ d : α, cs = Enc.cells d := by
 obtain ⟨y, hy⟩ := Option.isSome_iff_exists.1 hx; exact O.2 H enc w base spare held fuel cs y (h.trans hy)
theorem Opens.vt {t i m n : TypeId} {f0 f1 f2 f3 f4 f5 f6 f7 : Field} (ht : P.underlying t = some (.struct #[f0, f1, f2, f3, f4, f5, f6, f7])) (hc : P.cellsOf t = 22) (Oi : Opens P i Int) (Om : Opens P m Int) (On : Opens P n Nm)
    (h0 : f0.type = i ∧ f0.offset = 0) (h1 : f1.type = i ∧ f1.offset = 1) (h2 : f2.type = i ∧ f2.offset = 2) (h3 : f3.type = i ∧ f3.offset = 3) (h4 : f4.type = i ∧ f4.offset = 4) (h5 : f5.type = m ∧ f5.offset = 5) (h6 : f6.type = n ∧ f6.offset = 6) (h7 : f7.type = n ∧ f7.offset = 14) : Opens P t Vt :=
  ⟨hc, fun H enc w base spare held fuel cs x h => by
    obtain ⟨xs, k, _, _, hl, hxl, hi⟩ := DataW.trod_struct ht h
    rw [hc] at hl
    have hxl' : xs.length = 8 := hxl
    have gi : ∀ (j : Nat) (f : Field) (off : Nat), j < 8 → (#[f0, f1, f2, f3, f4, f5, f6, f7])[j]? = some f → f.type = i ∧ f.offset = off → ∃ z : Int, (cs.drop off).take 1 = [i64 z] := fun j f off hj hf hto => by
      have h1 := hi j f hf
      rw [hto.1, hto.2, Oi.1] at h1
      exact Oi.one h1 (by simp [hxl', hj])
    have gm : ∀ (j : Nat) (f : Field) (off : Nat), j < 8 → (#[f0, f1, f2, f3, f4, f5, f6, f7])[j]? = some f → f.type = m ∧ f.offset = off → ∃ z : Int, (cs.drop off).take 1 = [i64 z] := fun j f off hj hf hto => by
      have h1 := hi j f hf
      rw [hto.1, hto.2, Om.1] at h1
      exact Om.one h1 (by simp [hxl', hj])
    have gn : ∀ (j : Nat) (f : Field) (off : Nat), j < 8 → (#[f0, f1, f2, f3, f4, f5, f6, f7])[j]? = some f → f.type = n ∧ f.offset = off → ∃ z : Nm, (cs.drop off).take 8 = Nm.cs z := fun j f off hj hf hto => by
      have h1 := hi j f hf
      rw [hto.1, hto.2, On.1] at h1
      exact On.one h1 (by simp [hxl', hj])
    obtain ⟨z0, e0⟩ := gi 0 f0 0 (by omega) rfl h0; obtain ⟨z1, e1⟩ := gi 1 f1 1 (by omega) rfl h1; obtain ⟨z2, e2⟩ := gi 2 f2 2 (by omega) rfl h2; obtain ⟨z3, e3⟩ := gi 3 f3 3 (by omega) rfl h3
    obtain ⟨z4, e4⟩ := gi 4 f4 4 (by omega) rfl h4; obtain ⟨z5, e5⟩ := gm 5 f5 5 (by omega) rfl h5; obtain ⟨z6, e6⟩ := gn 6 f6 6 (by omega) rfl h6; obtain ⟨z7, e7⟩ := gn 7 f7 14 (by omega) rfl h7
    refine ⟨⟨z0, z1, z2, z3, z4, z5, z6, z7⟩, ?_⟩
    have s0 := split_at cs 0 1; have s1 := split_at cs 1 1; have s2 := split_at cs 2 1; have s3 := split_at cs 3 1
    have s4 := split_at cs 4 1; have s5 := split_at cs 5 1; have s6 := split_at cs 6 8; have s7 := split_at cs 14 8
    rw [e0] at s0; rw [e1] at s1; rw [e2] at s2; rw [e3] at s3; rw [e4] at s4; rw [e5] at s5; rw [e6] at s6; rw [e7] at s7
    have s8 : cs.drop 22 = [] := List.drop_of_length_le (by omega)
    rw [List.drop_zero] at s0
    rw [s0, s1, s2, s3, s4, s5, s6, s7, s8]
    rfl⟩
/-- a slice whose elements are data reads as a list of data -/
theorem open_list {α : Type} [Enc α] [Inhabited α] {r : Reach} {b0 : Nat} {t e : TypeId} {v : Value} {d : DataW H} {ps : List MemPlace} (ht : P.underlying t = some (.slice e)) (O : Opens P e α) (hval : Value.okWide P w r b0 t v) (h : DataW.Trod enc P w base spare held t v d ps) :
    ∃ (A : Option Addr) (c lo hi : Nat) (l : List α), v = .slice A l.length c ∧ l.length ≤ c ∧ Rd w lo hi A l := by
  obtain ⟨A0, n0, c0, rfl⟩ := okWide_slice ht hval
  obtain ⟨fuel, hf⟩ := h
  rcases open_slice ht hf with ⟨hcs, _⟩ | ⟨a, len, cap, m, n, D, Pl, hcs, hb, hl, hm, hmm, hx, hi⟩
  · simp [Value.cells] at hcs
    obtain ⟨rfl, rfl, rfl⟩ := hcs
    exact ⟨none, 0, 0, 0, [], rfl, Nat.le_refl _, Rd.nil _ _ _ _⟩
  · simp [Value.cells] at hcs
    obtain ⟨rfl, rfl, rfl⟩ := hcs
    have hlm : n0 ≤ m := by rw [hmm]; split <;> omega
    have hex : ∀ i : Nat, ∃ x : α, i < n0 → Cells w (a.add (i * Enc.size α)) (Enc.cells x) := fun i => by
      by_cases hlt : i < n0
      · obtain ⟨cs', hc, ht'⟩ := hi i (by omega)
        obtain ⟨x, rfl⟩ := O.2 H enc w base spare held n cs' _ ht'
        rw [O.1] at hc
        obtain ⟨_, _, hcell⟩ := World.cells?_some hc
        refine ⟨x, fun _ j u hu => ?_⟩
        have hj : j < Enc.size α := by rw [← Enc.len x]; exact (List.getElem?_eq_some_iff.1 hu).1
        exact (hcell j hj).trans hu
      · exact ⟨default, fun h => absurd h hlt⟩
    obtain ⟨f, hf'⟩ := Classical.axiomOfChoice hex
    refine ⟨some a, c0, 0, a.block + 1, (List.range n0).map f, by simp, by simpa using hl, by unfold maxLen at hm; simp; omega, fun _ => ⟨a, rfl, Nat.zero_le _, Nat.lt_succ_self _, fun k x hk => ?_⟩⟩
    have hk' : k < n0 := by
      have := (List.getElem?_eq_some_iff.1 hk).1
      simpa using this
    have : f k = x := by
      rw [List.getElem?_map, List.getElem?_range hk'] at hk
      simpa using hk
    rw [← this]
    exact hf' k hk'
theorem open_name {r : Reach} {b0 : Nat} {t e : TypeId} {v : Value} {d : DataW H} {ps : List MemPlace} (ht : P.underlying t = some (.array 8 e)) (O : Opens P t Nm) (hval : Value.okWide P w r b0 t v) (h : DataW.Trod enc P w base spare held t v d ps) : ∃ n : Nm, v = Enc.val n := by
 obtain ⟨fuel, hf⟩ := h; obtain ⟨n, hn⟩ := O.2 H enc w base spare held fuel _ _ hf; simp only [Value.okWide, ht] at hval; obtain ⟨cs, rfl, _⟩ := hval; refine ⟨n, ?_⟩; simp only [Value.cells] at hn; have e : cs = (Enc.cells n).toArray := by rw [← hn]
 rw [e]; rfl
end
section
variable {H : Type} {enc : TypeId × Value → H} {P : Program}
theorem trodAll_stays {W W' : World} (hl : laidOutB P = true) (hb : Below W.heap.size W W') (sp : Nat → Bool) : ∀ {ts : List TypeId} {vs : List Value} {ds : List (DataW H)} {ps : List MemPlace}, (∀ t ∈ ts, P.readableRec t = true ∧ t < P.types.size) → (∀ p ∈ ps, p.block < W.heap.size) → (∀ p ∈ ps, sp p.block = true) →
    DataW.TrodAll enc P W 0 (fun _ => true) true ts vs ds ps → DataW.TrodAll enc P W' 0 sp true ts vs ds ps
  | [], [], [], _, _, _, _, h => h
  | [], [], _ :: _, _, _, _, _, h => h.elim
  | [], _ :: _, _, _, _, _, _, h => h.elim
  | _ :: _, [], _, _, _, _, _, h => h.elim
  | _ :: _, _ :: _, [], _, _, _, _, h => h.elim
  | t :: ts, v :: vs, d :: ds, ps, ht, hlt, hsp, h => by
    obtain ⟨p, q, h1, h2, rfl⟩ := h
    obtain ⟨hr, hrow⟩ := ht t (by simp)
    exact ⟨p, q, WideElems.Trod_stays hl hr hrow h1 (fun x hx => hb.same (hlt x (by simp [hx]))) (fun x hx => hsp x (by simp [hx])),
      trodAll_stays hl hb sp (fun t ht' => ht t (by simp [ht'])) (fun x hx => hlt x (by simp [hx])) (fun x hx => hsp x (by simp [hx])) h2, rfl⟩
theorem post_of_ext {f : Func} {s : ChangeSpec} {apart fresh handsOn again : Bool} {W W' : World} {args : Array Value} {v : Value} {ds gs : List (DataW H)} {before pa pv : List MemPlace}
    (hW : DataW.Whole enc P f.params.toList s.vars apart W args.toList ds gs before)
    (hres : ∀ (b : Nat) (sp : Nat → Bool) (hd : Bool), DataW.TrodAll enc P W' b sp hd f.resultTypes.toList (v.resultList f.resultTypes.size) (s.fn H (ds ++ gs)).results [])
    (hargs : ∀ sp : Nat → Bool, (∀ p ∈ before, sp p.block = true) → DataW.TrodAll enc P W' 0 sp true f.params.toList args.toList (s.fn H (ds ++ gs)).args pa)
    (hvars : ∀ sp : Nat → Bool, (∀ p ∈ before, sp p.block = true) → DataW.TrodVars enc P W' sp s.vars (s.fn H (ds ++ gs)).vars pv)
    (hps : before = pa ++ pv) (hb : Below W.heap.size W W')
    (hok : ∀ (j : Nat) (t : TypeId) (r : Value), f.resultTypes[j]? = some t → (v.resultList f.resultTypes.size)[j]? = some r → Value.okWide P W' .any 0 t r) :
    s.post enc P f apart fresh handsOn again W args v W' := by
  have hlt : ∀ p ∈ before, p.block < W.heap.size := fun p hp => hW.lt p hp
  have hold : ∀ p ∈ before, (fun b => decide (b < W.heap.size)) p.block = true := fun p hp => by simpa using hlt p hp
  refine ⟨ds, gs, before, [], pa, pv, hW, hres _ _ _, hargs _ hold, hvars _ hold, World.keptBut_mono (fun p hp => ⟨hp, ?_⟩) (hb.frame (· ∈ before)), fun _ => ?_⟩
  · rw [hps, List.mem_append] at hp
    exact Or.inr hp
  · obtain ⟨_, _, _, _, _, hz, hn⟩ := hW
    refine ⟨hok, _, _, ([] ++ pa) ++ pv, ⟨[] ++ pa, pv, trodAll_append (hargs _ (fun _ _ => rfl)) (hres _ _ _), hvars _ (fun _ _ => rfl), rfl, ?_, ?_⟩, ?_⟩
    · intro b off hp
      have hin : MemPlace.cell b off ∈ before := by rw [hps]; simpa using hp
      rw [hb.frozen (hlt _ hin)]
      exact hz b off hin
    · intro ha
      have := hn ha
      rw [hps] at this
      simpa using this
    · intro p hp _
      rw [hps]
      simpa using hp
end
end Go.Fk
