/-
  Appending whole slices; empty slice literals; products; shifts by an unsigned number. No program in sight.
-/
import Derived.Test.YtdknjfmjddlphaaOps2
set_option linter.unusedSectionVars false
set_option linter.unusedSimpArgs false
set_option linter.unusedVariables false
namespace Go.Fk
open Go Go.RowKit

section
variable {α : Type} [Enc α] {P : Program} {o : Oper} {f : Fr} {w : World}
theorem flat_at : ∀ (l : List α) (j : Nat) (u : Value), (l.flatMap Enc.cells)[j]? = some u → ∃ k x i, l[k]? = some x ∧ (Enc.cells x)[i]? = some u ∧ j = k * Enc.size α + i
  | [], j, u, h => by simp at h
  | y :: l, j, u, h => by
    have hlen := Enc.len y
    rw [List.flatMap_cons] at h
    by_cases hj : j < Enc.size α
    · rw [List.getElem?_append_left (by omega)] at h
      exact ⟨0, y, j, rfl, h, by omega⟩
    · rw [List.getElem?_append_right (by omega)] at h
      obtain ⟨k, x, i, h1, h2, h3⟩ := flat_at l _ u h
      exact ⟨k + 1, x, i, by simpa using h1, h2, by rw [Nat.succ_mul]; omega⟩
/-- append of a slice that is read -/
theorem op_appendN {t e : TypeId} {x y : Operand} {base : Nat} {v : Value} {l l2 : List α} {bytes : Nat} {A : Option Addr} {c lo hi : Nat} (ho : o.op = .call { callee := .builtin .append, args := #[x, y], argTypes := #[t, t] }) (hx : evalF f x = v) (hy : evalF f y = .slice A l2.length c)
    (T : TySl P t e α) (hzz : ((P.info? e).bind (·.zero)).map (·.cells.size) = some (Enc.size α)) (hby : (P.info? e).map (·.bytes) = some bytes) (ho' : Own w base e v l) (hR : Rd w lo hi A l2) (hn : (l.length + l2.length) * bytes ≤ 140737488355328) (hb0 : 0 < bytes) (hbase : base ≤ w.heap.size) :
    OpS P o f w fun v' w' => Own w' base e v' (l ++ l2) ∧ w.grownBy w' v.ownBlock := by
  obtain ⟨z, hz, hzs⟩ := Option.map_eq_some_iff.1 hzz
  have hs := T.elem.size
  cases hi : P.info? e with
  | none => rw [hi] at hs; cases hs
  | some i =>
    rw [hi] at hs hz hby
    simp only [Option.map_some, Option.some.injEq, Option.bind_some] at hs hz hby
    have hle : l.length + l2.length ≤ 140737488355328 := Nat.le_trans (Nat.le_mul_of_pos_right _ hb0) hn
    cases A with
    | none =>
      have hl2 : l2 = [] := by
        rcases Nat.eq_zero_or_pos l2.length with h | h
        · exact List.eq_nil_of_length_eq_zero h
        · obtain ⟨ad, e, _⟩ := hR.2 h; cases e
      subst hl2
      obtain ⟨B, c2, hv, hR2, hc2⟩ := ho'.form
      rw [List.append_nil]
      refine OpS.val (v := v) (w' := w) ?_ ⟨ho', ⟨rfl, rfl, rfl, Nat.le_refl _, fun _ _ _ => rfl⟩⟩
      unfold execOp
      simp only [ho, resolve, invoke, builtin, Sem.run_bind, Sem.run_pure, Result.andThen_ok, List.map_toArray, List.map_cons, List.map_nil, hx, hy, hv]
      have hne : ¬ l.length > c2 := by omega
      cases B with
      | none => simp [Builtin.append_, run_underlying T.under, T.elem.sizeOf, Builtin.lenOf, Builtin.firstCells, hc2]
      | some b => simp [Builtin.append_, run_underlying T.under, T.elem.sizeOf, Builtin.lenOf, Builtin.firstCells, hc2, storeCells]
    | some ad =>
      obtain ⟨v', w', hr, h1, h2, _, _⟩ := run_append_own_at (P := P) w base t o.type e i z (Enc.size α) bytes T.under hi hz hs hby hzs Enc.pos v l.length (l.flatMap Enc.cells) ho' ad l2.length c (l2.flatMap Enc.cells) (by
          have : ∀ l : List α, (l.flatMap Enc.cells).length = l.length * Enc.size α := by
            intro l
            induction l with
            | nil => simp
            | cons y l ih => rw [List.flatMap_cons, List.length_append, ih, Enc.len, List.length_cons, Nat.succ_mul]; omega
          exact this l2) (by
          intro j u hu
          obtain ⟨k, x, i, h1, h2, rfl⟩ := flat_at l2 j u hu
          have hlt : k < l2.length := (List.getElem?_eq_some_iff.1 h1).1
          obtain ⟨ad', e, _, _, hc⟩ := hR.2 (by omega)
          cases e
          rw [← add_add]
          exact hc k x h1 i u h2) (by
          intro u hu
          obtain ⟨x, hx, hu⟩ := List.mem_flatMap.1 hu
          exact Enc.one x u hu) (by unfold maxLen; omega) hn hbase
      refine OpS.val (v := v') (w' := w') ?_ ⟨?_, h2⟩
      · unfold execOp
        simp only [ho, resolve, invoke, builtin, Sem.run_bind, Sem.run_pure, Result.andThen_ok, List.map_toArray, List.map_cons, List.map_nil, hx, hy, hr]
      · unfold Own
        rw [List.length_append, List.flatMap_append]
        exact h1
/-- []T{} -/
theorem op_slice0 {t e : TypeId} (α : Type) [Enc α] (base : Nat) (hbase : base ≤ w.heap.size) (ho : o.op = .buildSlice t 0 #[]) (T : TySl P t e α) : OpS P o f w fun u w' => Own w' base e u ([] : List α) ∧ Ext w w' := by
  have h : (execOp (evalF f) o).run P w = .ok (.value (.slice (some ⟨w.heap.size, 0, none⟩) 0 0)) (w.alloc (.cells #[] e)) := by
    unfold execOp
    simp [ho, Instr.buildSlice, run_underlying T.under, T.elem.sizeOf, Instr.fill, newRow, Array.eq_empty_of_size_eq_zero (xs := Array.range 0) (by simp)]
  refine OpS.val h ⟨⟨by simp, Or.inr ⟨w.heap.size, 0, #[], rfl, hbase, heap_alloc_new w _, Nat.le_refl _, by unfold maxLen; omega, by simp, by simp⟩⟩, Ext.alloc _ _⟩
theorem op_mul {t ty : TypeId} {x y : Operand} {a b c : Int} (ho : o.op = .binOp .mul t x y ty) (hx : evalF f x = .int .i64 a) (hy : evalF f y = .int .i64 b) (hc : a * b = c) (hr : -9223372036854775808 ≤ c ∧ c < 9223372036854775808) : (execOp (evalF f) o).run P w = .ok (.value (.int .i64 c)) w :=
  op_int ho hx hy (by rw [binOp_mul]; show pure _ = _; rw [hc, wrap_in hr])
theorem op_shlu {t ty : TypeId} {x y : Operand} {a s : Int} (ho : o.op = .binOp .shl t x y ty) (hx : evalF f x = .int .i64 a) (hy : evalF f y = .int .u64 (IntKind.u64.wrap s)) (h0 : 0 ≤ s) (h1 : s ≤ 64) : (execOp (evalF f) o).run P w = .ok (.value (.int .i64 (ishl a s))) w := by
  have hw : IntKind.u64.wrap s = s := by
    simp only [IntKind.wrap, IntKind.bits, IntKind.signed]
    simp
    omega
  rw [hw] at hy
  exact op_int2 ho hx hy (by rw [binOp_shl, shift_shl_i64 _ _ _ h0 h1]; rfl)
end
end Go.Fk
