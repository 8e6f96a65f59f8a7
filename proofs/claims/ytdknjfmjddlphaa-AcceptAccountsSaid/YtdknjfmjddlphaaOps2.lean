/-
  More operations for frames that are functions: function values that are predicates, loops of a known number of rounds, unsigned arithmetic, parts of arrays, slices of slices, interface values. No program in sight.
-/
import Derived.Test.YtdknjfmjddlphaaOps
import Derived.Laws.Pointers
namespace Go.Fk
open Go Go.RowKit

instance : Inhabited Nm := ⟨Nm.zero⟩
instance : Inhabited Vt := ⟨⟨0, 0, 0, 0, 0, 0, Nm.zero, Nm.zero⟩⟩
instance : Inhabited Oc := ⟨⟨0, 0, 0, Nm.zero⟩⟩
instance : Inhabited Ch := ⟨⟨0, Nm.zero⟩⟩
theorem get_bang {α : Type} [Inhabited α] {l : List α} {k : Nat} (h : k < l.length) : l[k]? = some l[k]! := by
  rw [List.getElem?_eq_getElem h]; congr 1; exact (getElem!_pos _ _ _).symm

/-! ### loops of a known number of rounds -/
def Unr (P : Program) (N : Nat) (c : Code) (Q : Exit → Fr → World → Prop) : Nat → Fr → World → Prop
  | 0, _, _ => False
  | n + 1, f, w => W P N c (thenF (Unr P N c Q n) Q) f w
theorem Unr.step {P : Program} {N : Nat} {c : Code} {Q : Exit → Fr → World → Prop} {n : Nat} {f : Fr} {w : World} (h : W P N c (thenF (Unr P N c Q n) Q) f w) : Unr P N c Q (n + 1) f w := h
theorem W.unroll {P : Program} {N : Nat} {c : Code} {Q : Exit → Fr → World → Prop} (n : Nat) {f : Fr} {w : World} (h : Unr P N c Q n f w) : W P N (.loop c) Q f w :=
  W.loopg (γ := Nat) (fun n f w => Unr P N c Q n f w) id n h fun n f w hI => by
    cases n with
    | zero => exact hI.elim
    | succ n =>
      refine W.mono (Q := thenF (Unr P N c Q n) Q) hI ?_
      intro e f w q
      cases e with
      | normal => exact ⟨n, q, Nat.lt_succ_self n⟩
      | _ => exact q

/-! ### function values that are predicates -/
/-- the function value answers as p, whatever the world has gained since -/
def Fits {α : Type} [Enc α] (P : Program) (w : World) (fv : Value) (p : α → Bool) : Prop :=
  ∃ (g : Nat) (caps : List Value) (fn : Func), fv = .func (.func g) #[] caps.toArray ∧ P.funcs[g]? = some fn ∧ fn.body.isSome = true ∧ (fn.name == "runtime.NumGoroutine") = false ∧ ∀ (x : α) (w' : World), Ext w w' → Gives P g (Enc.val x :: caps).toArray w' fun u w'' => u = .bool (p x) ∧ Ext w' w''
section
variable {α : Type} [Enc α] {P : Program} {w w' : World} {fv : Value} {p : α → Bool} {o : Oper} {f : Fr}
theorem Fits.ext (h : Fits P w fv p) (hx : Ext w w') : Fits P w' fv p := by
  obtain ⟨g, caps, fn, h1, h2, h3, h4, h5⟩ := h
  exact ⟨g, caps, fn, h1, h2, h3, h4, fun x w1 hx1 => h5 x w1 (hx.trans hx1)⟩
theorem Fits.one (h : Fits P w fv p) : fv.oneCell' = true := by
  obtain ⟨g, caps, fn, rfl, _⟩ := h; rfl
theorem Fits.cells (h : Fits P w fv p) : fv.cells = #[fv] := by
  obtain ⟨g, caps, fn, rfl, _⟩ := h; rfl
theorem op_fits {x y : Operand} {ts : Array TypeId} {a : α} (h : Fits P w fv p) (ho : o.op = .call { callee := .value x, args := #[y], argTypes := ts }) (hx : evalF f x = fv) (hy : evalF f y = Enc.val a) : OpS P o f w fun u w' => u = .bool (p a) ∧ Ext w w' := by
  obtain ⟨g, caps, fn, rfl, h2, h3, h4, h5⟩ := h
  exact OpS.call (op_callv (caps := caps) ho hx (argsC hy argsN) h2 h3 h4) (h5 a w (Ext.refl w))
end

/-! ### more operations -/
section
variable {P : Program} {o : Oper} {f : Fr} {w : World}
/-- a struct of one-cell fields, loaded whole -/
theorem op_loadcs {t : TypeId} {x : Operand} {p : Addr} {cs : List Value} (ho : o.op = .load t x) (hx : evalF f x = .pointer (some p)) (ha : isAggT P t = true) (hs : (P.info? t).map (·.size) = some cs.length) (hc : Cells w p cs) : (execOp (evalF f) o).run P w = .ok (.value (.agg cs.toArray)) w := by
  have hsz : (Go.sizeOf t).run P w = .ok cs.length w := by
    cases hi : P.info? t with
    | none => rw [hi] at hs; cases hs
    | some i =>
      rw [hi] at hs
      simp only [Option.map_some, Option.some.injEq] at hs
      simp [Go.sizeOf, typeInfo, hi, hs]
  have hl := run_loadCells_list (P := P) w p cs hc
  have hag : (isAgg t).run P w = .ok true w := by
    cases hu : P.underlying t with
    | none => simp [isAggT, hu] at ha
    | some d =>
      cases d <;> simp [isAggT, hu] at ha <;> simp [isAgg, run_underlying hu]
  unfold execOp
  simp only [ho, hx, Instr.loadAt, Instr.sureAddr, Sem.run_bind, Sem.run_pure, Result.andThen_ok]
  simp [loadVar, hag, hsz, hl]
theorem op_int2 {bo : BinOp} {t ty : TypeId} {x y : Operand} {k k' : IntKind} {a b : Int} {v : Value} (ho : o.op = .binOp bo t x y ty) (hx : evalF f x = .int k a) (hy : evalF f y = .int k' b) (hv : binOp bo t (.int k a) (.int k' b) = pure v) : (execOp (evalF f) o).run P w = .ok (.value v) w := by
  unfold execOp
  simp only [ho, hx, hy, Sem.run_bind, eqGuard_at_int, Sem.run_pure, Result.andThen_ok, hv]
theorem op_uand {t ty : TypeId} {x y : Operand} {k : IntKind} {a b : Int} (ho : o.op = .binOp .and t x y ty) (hx : evalF f x = .int k a) (hy : evalF f y = .int k b) : (execOp (evalF f) o).run P w = .ok (.value (.int k (bits .and k a b))) w :=
  op_int ho hx hy (by rw [binOp_and]; rfl)
theorem op_uor {t ty : TypeId} {x y : Operand} {k : IntKind} {a b : Int} (ho : o.op = .binOp .or t x y ty) (hx : evalF f x = .int k a) (hy : evalF f y = .int k b) : (execOp (evalF f) o).run P w = .ok (.value (.int k (bits .or k a b))) w :=
  op_int ho hx hy (by rw [binOp_or]; rfl)
theorem op_uadd {t ty : TypeId} {x y : Operand} {k : IntKind} {a b : Int} (ho : o.op = .binOp .add t x y ty) (hx : evalF f x = .int k a) (hy : evalF f y = .int k b) : (execOp (evalF f) o).run P w = .ok (.value (.int k (k.wrap (a + b)))) w :=
  op_int ho hx hy (by rw [binOp_add]; rfl)
theorem op_ushr {t ty : TypeId} {x y : Operand} {k k' : IntKind} {a b : Int} (ho : o.op = .binOp .shr t x y ty) (hx : evalF f x = .int k a) (hy : evalF f y = .int k' b) (h0 : 0 ≤ b) (h1 : b ≤ k.bits) : (execOp (evalF f) o).run P w = .ok (.value (.int k (a / 2 ^ b.toNat))) w :=
  op_int2 ho hx hy (by rw [binOp_shr, shift_shr _ _ _ _ h0 h1])
theorem op_ushl {t ty : TypeId} {x y : Operand} {k k' : IntKind} {a b : Int} (ho : o.op = .binOp .shl t x y ty) (hx : evalF f x = .int k a) (hy : evalF f y = .int k' b) (h0 : 0 ≤ b) (h1 : b ≤ k.bits) : (execOp (evalF f) o).run P w = .ok (.value (.int k (k.wrap (a * 2 ^ b.toNat)))) w :=
  op_int2 ho hx hy (by rw [binOp_shl, shift_shl _ _ _ _ h0 h1])
theorem op_conv {s t : TypeId} {x : Operand} {k k' : IntKind} {n : Int} (ho : o.op = .convert s t x) (hx : evalF f x = .int k n) (hs : (P.underlying s).isSome = true) (hd : P.underlying t = some (.int k')) : (execOp (evalF f) o).run P w = .ok (.value (.int k' (k'.wrap n))) w := by
  have hk : P.intKind t = k' := by simp [Program.intKind, hd]
  have := run_convert_int (P := P) w s t k n hs (by rw [hk]; exact hd)
  rw [hk] at this
  unfold execOp
  simp [ho, hx, this]
theorem op_iface {t : TypeId} {x : Operand} {v : Value} (ho : o.op = .makeInterface t x) (hx : evalF f x = v) (hc : P.concrete t = true) : (execOp (evalF f) o).run P w = .ok (.value (.iface t v)) w := by
  have := run_makeInterface (P := P) w t v hc
  unfold execOp
  simp [ho, hx, this]
/-- an element of an array value, whose elements have one cell -/
theorem op_elem {t e : TypeId} {x i : Operand} {cs : List Value} {k : Nat} {ki : IntKind} {n : Nat} {u : Value} (ho : o.op = .index t x i) (hx : evalF f x = .agg cs.toArray) (hi : evalF f i = .int ki (k : Int)) (hu : P.underlying t = some (.array n e)) (h1 : isOneT P e = true) (hs : (P.info? e).map (·.size) = some 1) (hk : k < n) (hc : cs[k]? = some u) : (execOp (evalF f) o).run P w = .ok (.value u) w := by
  have hsz : ∀ w, (Go.sizeOf e).run P w = .ok 1 w := fun w => by
    cases hi : P.info? e with
    | none => rw [hi] at hs; cases hs
    | some i =>
      rw [hi] at hs
      simp only [Option.map_some, Option.some.injEq] at hs
      simp [Go.sizeOf, typeInfo, hi, hs]
  have hp := part_one (P := P) (w := w) h1 hc
  unfold execOp
  simp only [ho, hx, hi, Instr.index, asIntOf, Sem.run_bind, Sem.run_pure, Result.andThen_ok, run_underlying hu]
  rw [if_pos ⟨by omega, by omega⟩]
  simp [hsz, hp]
/-- the address of an element of an array in memory, whose elements have one cell -/
theorem op_elemAddr {t e : TypeId} {x i : Operand} {p q : Addr} {k n : Nat} {ki : IntKind} (ho : o.op = .indexAddr t x i) (hx : evalF f x = .pointer (some p)) (hi : evalF f i = .int ki (k : Int)) (hu : P.underlying t = some (.array n e)) (hs : (P.info? e).map (·.size) = some 1) (hk : k < n) (hq : p.add k = q) : (execOp (evalF f) o).run P w = .ok (.value (.pointer (some q))) w := by
  subst hq
  have hsz : ∀ w, (Go.sizeOf e).run P w = .ok 1 w := fun w => by
    cases hi : P.info? e with
    | none => rw [hi] at hs; cases hs
    | some i =>
      rw [hi] at hs
      simp only [Option.map_some, Option.some.injEq] at hs
      simp [Go.sizeOf, typeInfo, hi, hs]
  have he : P.elem t = e := by simp [Program.elem, hu]
  have hn : P.arrayLen t = n := by simp [Program.arrayLen, hu]
  have h := run_indexAt_array (P := P) w t p ki (k : Int) (by rw [he, hn]; exact hu)
  rw [he, hn, if_pos ⟨by omega, by omega⟩] at h
  unfold execOp
  simp only [ho, hx, hi, Sem.run_bind]
  rw [h]
  simp [hsz]
/-- x[l:] -/
theorem op_slice_l {α : Type} [Enc α] {t e : TypeId} {x i : Operand} {A : Option Addr} {n c k : Nat} {ki : IntKind} (T : TySl P t e α) (ho : o.op = .slice t x (some i) none none) (hx : evalF f x = .slice A n c) (hi : evalF f i = .int ki (k : Int)) (hk : k ≤ n) :
    (execOp (evalF f) o).run P w = .ok (.value (.slice (if c = k then A else A.map (·.add (k * Enc.size α))) (n - k) (c - k))) w := by
  have he : P.elem t = e := by simp [Program.elem, T.under]
  have hu : P.underlying t = some (.slice (P.elem t)) := by rw [he]; exact T.under
  have h := run_slice_l (P := P) w t A n c hu ki (k : Int) (by omega) (by omega)
  have h2 := run_sliceAt_slice (P := P) w t (.slice A n c) (some (.int ki (k : Int))) none none hu
  rw [he, T.elem.sizeOf] at h
  unfold execOp
  simp only [ho, hx, Option.map_some, Option.map_none, hi, Sem.run_bind]
  rw [h2, h]
  simp [sliced]
/-- x[:h] -/
theorem op_slice_h {α : Type} [Enc α] {t e : TypeId} {x i : Operand} {A : Option Addr} {n c k : Nat} {ki : IntKind} (T : TySl P t e α) (ho : o.op = .slice t x none (some i) none) (hx : evalF f x = .slice A n c) (hi : evalF f i = .int ki (k : Int)) (hk : k ≤ c) :
    (execOp (evalF f) o).run P w = .ok (.value (.slice A k c)) w := by
  have he : P.elem t = e := by simp [Program.elem, T.under]
  have hu : P.underlying t = some (.slice (P.elem t)) := by rw [he]; exact T.under
  have h := run_slice_h (P := P) w t A n c hu ki (k : Int) (by omega) (by omega)
  have h2 := run_sliceAt_slice (P := P) w t (.slice A n c) none (some (.int ki (k : Int))) none hu
  rw [he, T.elem.sizeOf] at h
  unfold execOp
  simp only [ho, hx, Option.map_some, Option.map_none, hi, Sem.run_bind]
  rw [h2, h]
  have : ∀ a : Addr, a.add 0 = a := Addr.add_zero'
  simp [sliced, this]
end

/-! ### slices that are read; own slices behind a variable in memory -/
/-- the value is a slice that reads as the list -/
def SlR {α : Type} [Enc α] (w : World) (u : Value) (l : List α) : Prop := ∃ A c lo hi, u = .slice A l.length c ∧ l.length ≤ c ∧ Rd w lo hi A l
theorem SlR.ext {α : Type} [Enc α] {w w' : World} {u : Value} {l : List α} (h : SlR w u l) (hx : Ext w w') : SlR w' u l := by
  obtain ⟨A, c, lo, hi, e, hc, hr⟩ := h
  exact ⟨A, c, lo, hi, e, hc, hr.ext hx⟩
def Sp.slr {α : Type} [Enc α] (l : List α) : Sp := ⟨fun u w => SlR w u l, fun _ _ _ h hx => h.ext hx⟩
theorem SlR.nil {α : Type} [Enc α] (w : World) : SlR w (.slice none 0 0) ([] : List α) := ⟨none, 0, 0, 0, rfl, Nat.le_refl _, Rd.nil _ _ _ _⟩
theorem Own.lower {α : Type} [Enc α] {w : World} {base base' : Nat} {e : TypeId} {v : Value} {l : List α} (h : Own w base e v l) (hb : base' ≤ base) : Own w base' e v l := by
  refine ⟨h.1, ?_⟩
  rcases h.2 with h2 | ⟨g, cap, cur, h1, h2, h3⟩
  · exact Or.inl h2
  · exact Or.inr ⟨g, cap, cur, h1, Nat.le_trans hb h2, h3⟩
theorem Own.ne {α : Type} [Enc α] {w : World} {base b : Nat} {e : TypeId} {v : Value} {l : List α} (h : Own w base e v l) (hb : b < base) : v.ownBlock = none ∨ v.ownBlock ≠ some b := by
  cases hv : v.ownBlock with
  | none => exact Or.inl rfl
  | some k => exact Or.inr fun e => by injection e with e; have := h.lt k hv; omega
theorem Own.ne' {α : Type} [Enc α] {w : World} {base b : Nat} {e : TypeId} {v : Value} {l : List α} (h : Own w base e v l) (hb : b < base) : some b ≠ v.ownBlock := by
  intro hv
  have := h.lt b hv.symm
  omega
theorem Own.cells {α : Type} [Enc α] {w : World} {base : Nat} {e : TypeId} {v : Value} {l : List α} (h : Own w base e v l) : v.cells = #[v] := by
  obtain ⟨A, c, rfl, _⟩ := h.form; rfl
theorem Own.onec {α : Type} [Enc α] {w : World} {base : Nat} {e : TypeId} {v : Value} {l : List α} (h : Own w base e v l) : v.oneCell' = true := by
  obtain ⟨A, c, rfl, _⟩ := h.form; rfl
theorem Own.slr {α : Type} [Enc α] {w : World} {base : Nat} {e : TypeId} {v : Value} {l : List α} (h : Own w base e v l) : SlR w v l := by
  obtain ⟨A, c, e, hr, hc⟩ := h.form
  exact ⟨A, c, _, _, e, hc, hr⟩
section
variable {P : Program} {o : Oper} {f : Fr} {w : World}
theorem op_slr_l {α : Type} [Enc α] {t e : TypeId} {x i : Operand} {A : Option Addr} {c k lo hi : Nat} {ki : IntKind} {l : List α} (T : TySl P t e α) (ho : o.op = .slice t x (some i) none none) (hx : evalF f x = .slice A l.length c) (hix : evalF f i = .int ki (k : Int)) (hk : k ≤ l.length) (hc : l.length ≤ c) (hR : Rd w lo hi A l) :
    OpS P o f w fun u w' => SlR w' u (l.drop k) ∧ Ext w w' :=
  OpS.val (op_slice_l T ho hx hix hk) ⟨⟨_, _, _, _, by rw [List.length_drop], by rw [List.length_drop]; omega, hR.drop hk hc⟩, Ext.refl w⟩
theorem op_slr_h {α : Type} [Enc α] {t e : TypeId} {x i : Operand} {A : Option Addr} {c k lo hi : Nat} {ki : IntKind} {l : List α} (T : TySl P t e α) (ho : o.op = .slice t x none (some i) none) (hx : evalF f x = .slice A l.length c) (hix : evalF f i = .int ki (k : Int)) (hk : k ≤ l.length) (hc : l.length ≤ c) (hR : Rd w lo hi A l) :
    OpS P o f w fun u w' => SlR w' u (l.take k) ∧ Ext w w' :=
  OpS.val (op_slice_h T ho hx hix (Nat.le_trans hk hc)) ⟨⟨_, _, _, _, by rw [List.length_take, Nat.min_eq_left hk], by rw [List.length_take, Nat.min_eq_left hk]; omega, hR.take k⟩, Ext.refl w⟩
/-- a store of one cell into a box -/
theorem op_put {t tb : TypeId} {x y : Operand} {b off : Nat} {cs : List Value} {v : Value} (ho : o.op = .store t x y) (hx : evalF f x = .pointer (some ⟨b, off, none⟩)) (hy : evalF f y = v) (hs : (P.info? t).map (·.size) = some 1) (hb : Box w b tb cs) (hlt : off < cs.length) (hv : v.cells = #[v]) (h1 : v.oneCell' = true) :
    OpS P o f w fun _ w' => Box w' b tb (cs.set off v) ∧ w.grownBy w' (some b) :=
  (op_store (vs := [v]) ho hx hy hv hs hb (by simp; omega) (by intro z hz; simp at hz; subst hz; exact h1)).mono fun _ _ ⟨h, hg, _⟩ => ⟨by
    rw [List.set_eq_take_append_cons_drop, if_pos hlt]
    simpa using h, hg⟩
end

section
variable {P : Program} {o : Oper} {f : Fr} {w : World}
theorem op_eqlp {t ty e : TypeId} {x y : Operand} {a : Option Addr} (ho : o.op = .binOp .eql t x y ty) (hx : evalF f x = .pointer a) (hy : evalF f y = .pointer none) (hu : P.underlying t = some (.pointer e)) : (execOp (evalF f) o).run P w = .ok (.value (.bool a.isNone)) w := by
  unfold execOp
  have he : P.pointee t = e := by simp [Program.pointee, hu]
  have h := run_equalIn_pointer_nil (P := P) w 9999 t a (by rw [he]; exact hu)
  simp only [ho, hx, hy, Sem.run_bind, eqGuard_at_pointer, Sem.run_pure, Result.andThen_ok, binOp, Op.equal, Op.maxDepth]
  rw [h]
  rfl
end

/-- where a slice lies -/
def adr (A : Option Addr) : Addr := A.getD ⟨0, 0, none⟩
theorem Rd.getA {α : Type} [Enc α] {w : World} {lo hi : Nat} {A : Option Addr} {l : List α} (h : Rd w lo hi A l) {k : Nat} {x : α} (hk : l[k]? = some x) : A = some (adr A) ∧ Cells w ((adr A).add (k * Enc.size α)) (Enc.cells x) := by
  obtain ⟨ad, rfl, _, _, hc⟩ := h.get hk
  exact ⟨rfl, hc⟩
section
variable {P : Program} {o : Oper} {f : Fr} {w : World}
/-- a store that fills a box -/
theorem op_fillbox {t tb : TypeId} {x y : Operand} {b : Nat} {cs vs : List Value} {v : Value} (ho : o.op = .store t x y) (hx : evalF f x = .pointer (some ⟨b, 0, none⟩)) (hy : evalF f y = v) (hv : v.cells = vs.toArray) (hs : (P.info? t).map (·.size) = some vs.length) (hb : Box w b tb cs) (hle : vs.length = cs.length) (h1 : ∀ u ∈ vs, u.oneCell' = true) :
    OpS P o f w fun _ w' => Box w' b tb vs ∧ w.grownBy w' (some b) :=
  (op_store ho hx hy hv hs hb (by omega) h1).mono fun _ _ ⟨h, hg, _⟩ => ⟨by simpa [hle] using h, hg⟩
end

theorem own_at {α : Type} [Enc α] {w : World} {base : Nat} {e : TypeId} {u v : Value} {l : List α} (h : u = v) (hO : Own w base e v l) : Own w base e u l := by subst h; exact hO
theorem slr_at {α : Type} [Enc α] {w : World} {u v : Value} {l : List α} (h : u = v) (hO : SlR w v l) : SlR w u l := by subst h; exact hO

/-! ### lists, element by element -/
set_option linter.unusedSectionVars false
section
variable {α : Type} [Inhabited α]
theorem drop_bang {l : List α} {k : Nat} (h : k < l.length) : l.drop k = l[k]! :: l.drop (k + 1) := by
  rw [List.drop_eq_getElem_cons h]
  congr 1
  exact (getElem!_pos _ _ _).symm
theorem take_bang {l : List α} {k : Nat} (h : k < l.length) : l.take (k + 1) = l.take k ++ [l[k]!] := by
  rw [List.take_succ_eq_append_getElem h]
  congr 2
  exact (getElem!_pos _ _ _).symm
theorem any_go {l : List α} {p : α → Bool} {k : Nat} {b : Bool} (h : (l.drop k).any p = b) (hk : k < l.length) (hp : p l[k]! = false) : (l.drop (k + 1)).any p = b := by
  rw [drop_bang hk, List.any_cons, hp, Bool.false_or] at h; exact h
theorem any_yes {l : List α} {p : α → Bool} {k : Nat} {b : Bool} (h : (l.drop k).any p = b) (hk : k < l.length) (hp : p l[k]! = true) : true = b := by
  rw [drop_bang hk, List.any_cons, hp, Bool.true_or] at h; exact h
theorem any_end {l : List α} {p : α → Bool} {k : Nat} {b : Bool} (h : (l.drop k).any p = b) (hk : l.length ≤ k) : false = b := by
  rw [List.drop_of_length_le hk] at h; exact h
theorem all_go {l : List α} {p : α → Bool} {k : Nat} {b : Bool} (h : (l.drop k).all p = b) (hk : k < l.length) (hp : p l[k]! = true) : (l.drop (k + 1)).all p = b := by
  rw [drop_bang hk, List.all_cons, hp, Bool.true_and] at h; exact h
theorem all_no {l : List α} {p : α → Bool} {k : Nat} {b : Bool} (h : (l.drop k).all p = b) (hk : k < l.length) (hp : p l[k]! = false) : false = b := by
  rw [drop_bang hk, List.all_cons, hp, Bool.false_and] at h; exact h
theorem all_end {l : List α} {p : α → Bool} {k : Nat} {b : Bool} (h : (l.drop k).all p = b) (hk : l.length ≤ k) : true = b := by
  rw [List.drop_of_length_le hk] at h; exact h
theorem filter_yes {l : List α} {p : α → Bool} {k : Nat} (hk : k < l.length) (hp : p l[k]! = true) : (l.take k).filter p ++ [l[k]!] = (l.take (k + 1)).filter p := by
  rw [take_bang hk, List.filter_append, List.filter_cons, if_pos hp]; rfl
theorem filter_no {l : List α} {p : α → Bool} {k : Nat} (hk : k < l.length) (hp : p l[k]! = false) : (l.take k).filter p = (l.take (k + 1)).filter p := by
  rw [take_bang hk, List.filter_append, List.filter_cons, if_neg (by rw [hp]; simp)]; simp
theorem fold_go {β : Type} {l : List α} {g : β → α → β} {k : Nat} {b : β} (hk : k < l.length) : (l.take (k + 1)).foldl g b = g ((l.take k).foldl g b) l[k]! := by
  rw [take_bang hk, List.foldl_append]; rfl
end
end Go.Fk
