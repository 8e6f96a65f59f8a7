/-
  More laws of operations: slice literals, operations whose guard is known to be set. No walk.
-/
import Derived.Test.YtdknjfmjddlphaaOps2
namespace Go.Proofs.Ytdknjfmjddlphaa
open Go Go.Fk

section
variable {P : Program} {o : Oper} {f : Fr} {w : World}
theorem val_eq {a b : Bool} (h : a = b) (hr : (execOp (evalF f) o).run P w = .ok (.value (.bool a)) w) : (execOp (evalF f) o).run P w = .ok (.value (.bool b)) w := by rw [← h]; exact hr
theorem rd_box {α : Type} [Enc α] {b : Nat} {t : TypeId} {a : α} (h : Box w b t (Enc.cells a)) : Rd w 0 (b + 1) (some ⟨b, 0, none⟩) [a] := ⟨by simp, fun _ => ⟨_, rfl, Nat.zero_le _, Nat.lt_succ_self _, fun k x hk => by
  have hk0 : k = 0 := by have := (List.getElem?_eq_some_iff.1 hk).1; simpa using this
  subst hk0
  simp at hk
  subst hk
  have : (⟨b, 0, none⟩ : Addr).add (0 * Enc.size α) = ⟨b, 0, none⟩ := by unfold Addr.add; split <;> simp_all
  rw [this]; exact h.cells⟩⟩
end
section
variable {P : Program} {N : Nat} {ops : Array Oper} {Q : Exit → Fr → World → Prop} {rest : List Oper} {o : Oper} {f : Fr} {w : World}
theorem L.stepT {R : Value → World → Prop} (hg : Region.wanted o (yieldF ops f) = true) (ho : OpS P o f w R) (k : ∀ v w', R v w' → L P N ops Q rest (updo f o.dst v) w') : L P N ops Q (o :: rest) f w :=
  L.guard hg (fun _ => ho) (fun h => nomatch h) k
theorem L.valT {v : Value} {w' : World} (hg : Region.wanted o (yieldF ops f) = true) (h : (execOp (evalF f) o).run P w = .ok (.value v) w') (k : L P N ops Q rest (updo f o.dst v) w') : L P N ops Q (o :: rest) f w :=
  L.stepT (R := fun u w2 => u = v ∧ w2 = w') hg (OpS.val h ⟨rfl, rfl⟩) fun _ _ ⟨h1, h2⟩ => by subst h1 h2; exact k
theorem op_pickT {c x y : Operand} {v : Value} (ho : o.op = .pick c x y) (hc : evalF f c = .bool true) (hx : evalF f x = v) : (execOp (evalF f) o).run P w = .ok (.value v) w :=
  op_pick ho hc (fun _ => hx) (fun h => nomatch h)
theorem op_pickF {c x y : Operand} {v : Value} (ho : o.op = .pick c x y) (hc : evalF f c = .bool false) (hy : evalF f y = v) : (execOp (evalF f) o).run P w = .ok (.value v) w :=
  op_pick ho hc (fun h => nomatch h) (fun _ => hy)
/-- a slice literal: a new block -/
theorem op_sliceL {α : Type} [Enc α] {t e : TypeId} {n : Nat} {parts : List (Nat × Operand)} (as : List α) (ho : o.op = .buildSlice t n parts.toArray) (hp : parts.map (fun x => (x.1, evalF f x.2)) = (as.zipIdx 0).map fun x => (x.2, Enc.val x.1)) (T : TySl P t e α) (hzz : ((P.info? e).bind (·.zero)).map (·.cells.size) = some (Enc.size α))
    (hn : n = as.length) (h0 : 0 < n) (hs : n * Enc.size α ≤ 16777216) :
    OpS P o f w fun u w' => ∃ b, u = .slice (some ⟨b, 0, none⟩) as.length as.length ∧ w.heap.size ≤ b ∧ Rd w' 0 (b + 1) (some ⟨b, 0, none⟩) as ∧ Ext w w' := by
  subst hn
  obtain ⟨z, hz, hzs⟩ := Option.map_eq_some_iff.1 hzz
  have hsz := T.elem.size
  cases hi : P.info? e with
  | none => rw [hi] at hz; cases hz
  | some i =>
    rw [hi] at hz hsz
    simp only [Option.bind_some, Option.map_some, Option.some.injEq] at hz hsz
    have hpos := Enc.pos (α := α)
    obtain ⟨r, hr, hsr, hk⟩ := Great.fill_dense hpos (as.map Enc.val) 0 ((Array.range (as.length * Enc.size α)).map (z.cells[· % z.cells.size]!)) (by
      intro v hv
      rw [List.mem_map] at hv
      obtain ⟨a, _, rfl⟩ := hv
      rw [Enc.valCells]; simp [Enc.len a]) (by simp)
    have hparts : parts.toArray.map (fun x => (x.1, evalF f x.2)) = ((((as.map (Enc.val : α → Value)).zipIdx 0).map fun x => (x.2, x.1))).toArray := by
      rw [List.map_toArray, hp, List.zipIdx_map]
      congr 1
      simp [List.map_map, Function.comp_def]
    have hcell : ∀ k x, as[k]? = some x → ∀ j u, (Enc.cells x)[j]? = some u → r[k * Enc.size α + j]? = some u := by
      intro k x hkx j u hju
      have hkl := (List.getElem?_eq_some_iff.1 hkx).1
      have hjl : j < Enc.size α := by have := (List.getElem?_eq_some_iff.1 hju).1; rw [Enc.len x] at this; exact this
      have hmul : (k + 1) * Enc.size α ≤ as.length * Enc.size α := Nat.mul_le_mul_right _ hkl
      rw [Nat.add_mul, Nat.one_mul] at hmul
      rw [hk, if_pos ⟨by omega, by rw [List.length_map, Nat.zero_add]; omega⟩]
      have e1 : (k * Enc.size α + j) / Enc.size α = k := by rw [Nat.mul_comm, Nat.mul_add_div hpos, Nat.div_eq_of_lt hjl]; rfl
      have e2 : (k * Enc.size α + j) % Enc.size α = j := by rw [Nat.mul_comm, Nat.mul_add_mod, Nat.mod_eq_of_lt hjl]
      rw [e1, e2, Nat.sub_zero, List.getElem?_map, hkx]
      simp only [Option.map_some, Option.bind_some, Enc.valCells]
      simpa using hju
    have hrun : (Instr.buildSlice t as.length (parts.toArray.map fun (x : Nat × Operand) => (x.1, evalF f x.2))).run P w = .ok (.slice (some ⟨w.heap.size, 0, none⟩) as.length as.length) (w.alloc (.cells r e)) := by
      have h1 : ¬ (as.length * Enc.size α > 2 ^ 24) := by omega
      have h2 : ¬ (as.length * Enc.size α = 0) := by have := Nat.mul_pos h0 hpos; omega
      rw [hparts]
      simp only [Instr.buildSlice, Sem.run_bind, run_underlying T.under, Result.andThen_ok, T.elem.sizeOf, Sem.run_ite, if_neg h1, if_neg h2, zeroValue, typeInfo]
      simp [hi, hz, newRow]
      rw [show (z.cells.size) = Enc.size α from hzs] at hr
      simp [hzs, hr]
    refine OpS.val (v := .slice (some ⟨w.heap.size, 0, none⟩) as.length as.length) (w' := w.alloc (.cells r e)) ?_ ⟨w.heap.size, rfl, Nat.le_refl _, ⟨?_, fun _ => ⟨_, rfl, Nat.zero_le _, Nat.lt_succ_self _, fun k x hkx j u hju => ?_⟩⟩, Ext.alloc _ _⟩
    · unfold execOp
      simp only [ho, Sem.run_bind]
      rw [hrun]
      rfl
    · have := Nat.mul_le_mul_left as.length hpos
      omega
    · have hb := heap_alloc_new w (.cells r e)
      have e3 : ((⟨w.heap.size, 0, none⟩ : Addr).add (k * Enc.size α)).add j = ⟨w.heap.size, k * Enc.size α + j, none⟩ := by
        have h1 : ∀ a b : Nat, (⟨w.heap.size, a, none⟩ : Addr).add b = ⟨w.heap.size, a + b, none⟩ := fun a b => by unfold Addr.add; split <;> simp_all
        rw [h1, h1, Nat.zero_add]
      rw [e3, cell_of_row _ _ _ r e (0, 0) hb]
      exact hcell k x hkx j u hju
end
end Go.Proofs.Ytdknjfmjddlphaa
