/-
  What the walks of sort.Slice's functions lean on where the comparison may lay new blocks: a row of data in one block, the block that alone turns, the comparison's and the exchange's promises. No program in sight.
-/
import Derived.Test.YtdknjfmjddlphaaOps
import Derived.Shelf.GgSortFunc.SmallK
import Derived.Shelf.SlSortFuncK.ComposeK
import Derived.Sort.WalkC4
import Derived.Sort.WalkA6
import Derived.Sort.WalkB2
import Derived.Sort.AssemblyPlain
namespace Go.Fk
open Go Go.RowKit Go.Sort Go.Proofs

/-- all blocks but one are as they were -/
def Far (blk : Nat) (w w' : World) : Prop := w.grownBy w' (some blk)
theorem Far.refl (blk : Nat) (w : World) : Far blk w w := ⟨rfl, rfl, rfl, Nat.le_refl _, fun _ _ _ => rfl⟩
theorem Far.size {blk : Nat} {w w' : World} (h : Far blk w w') : w.heap.size ≤ w'.heap.size := World.grownBy.size h
theorem Far.trans {blk : Nat} {a b c : World} (h : Far blk a b) (k : Far blk b c) : Far blk a c :=
  ⟨k.os.trans h.os, k.tape.trans h.tape, k.output.trans h.output, Nat.le_trans h.size k.size, fun i hi hn => (k.block i (Nat.lt_of_lt_of_le hi h.size) hn).trans (h.block i hi hn)⟩
theorem Ext.far {w w' : World} (h : Ext w w') (blk : Nat) : Far blk w w' := ⟨Below.os h, Below.tape h, Below.output h, h.size, fun _ hk _ => h.block hk⟩
theorem Box.farx {w w' : World} {b blk : Nat} {t : TypeId} {cs : List Value} (h : Box w b t cs) (hF : Far blk w w') (hne : b ≠ blk) : Box w' b t cs := Box.far h hF (by simpa using hne)
theorem Cells.farx {w w' : World} {p : Addr} {blk : Nat} {cs : List Value} (h : Cells w p cs) (hF : Far blk w w') (hne : p.block ≠ blk) : Cells w' p cs := fun j u hu => by
  have hc := h j u hu
  have hlt := World.block_lt_of_cell? w _ hc
  rw [add_block] at hlt
  rw [World.cell?_of_block (w := w) (by rw [add_block]; exact hF.block _ hlt (by simpa using hne))]
  exact hc

/-- the row of cells holds the data -/
def Hld {α : Type} [Enc α] [Inhabited α] (w : World) (blk off : Nat) (d : Array α) : Prop := HoldsK (Enc.cells (α := α)) (Enc.size α) w blk off d
section
variable {α : Type} [Enc α] [Inhabited α] {w w' : World} {blk off : Nat} {d : Array α}
theorem Hld.ext (h : Hld w blk off d) (hx : Ext w w') : Hld w' blk off d := fun j hj => by
  obtain ⟨h1, h2⟩ := h j hj
  have hlt := World.block_lt_of_cell? w _ h1
  exact ⟨hx.cell h1, (World.frozen?_of_block (w := w) (w' := w') (a := ⟨blk, off + j, none⟩) (hx.block hlt)).trans h2⟩
theorem far_setCells (blk : Nat) : ∀ (vs : List Value) (o : Nat) (w : World), Far blk w (w.setCells blk o vs)
  | [], _, w => Far.refl _ w
  | v :: r, o, w => by
    rw [World.setCells]
    have h0 : Far blk w (w.setCell ⟨blk, o, none⟩ v) := ⟨rfl, rfl, rfl, by simp, fun k _ hk => Below.heap_setCell w ⟨blk, o, none⟩ v k (fun e => hk (by rw [e]))⟩
    exact h0.trans (far_setCells blk r (o + 1) _)
theorem Hld.swap (h : Hld w blk off d) {i j : Nat} (hi : i < d.size) (hj : j < d.size) : Hld ((w.setCells blk (off + i * Enc.size α) (Enc.cells d[j]!)).setCells blk (off + j * Enc.size α) (Enc.cells d[i]!)) blk off (swp d i j) := by
  have e := putRowK_swp (Enc.cells (α := α)) (Enc.size α) Enc.len w blk off d i j hi hj
  rw [putRowK_self _ _ _ _ _ _ h] at e
  rw [e]
  exact holdsK_putRowK _ _ _ _ _ d _ h (size_swp d i j)
theorem Hld.get (h : Hld w blk off d) {i : Nat} (hi : i < d.size) : Cells w ⟨blk, off + i * Enc.size α, none⟩ (Enc.cells d[i]!) := fun j u hu => by
  have hj : j < Enc.size α := by rw [← Enc.len d[i]!]; exact (List.getElem?_eq_some_iff.1 hu).1
  have e : (⟨blk, off + i * Enc.size α, none⟩ : Addr).add j = ⟨blk, off + i * Enc.size α + j, none⟩ := by unfold Addr.add; split <;> simp_all
  rw [e, (HoldsK.cell h hi hj).1]
  simp [hu]
end

/-- what is asked of the comparison -/
def LessOk {α : Type} [Enc α] [Inhabited α] (P : Program) (lt : α → α → Bool) (lv : Value) (blk off n : Nat) (w0 : World) : Prop :=
  ∃ (g : Nat) (lb : Array Value) (fn : Func), lv = .func (.func g) #[] lb ∧ P.funcs[g]? = some fn ∧ fn.body.isSome = true ∧ (fn.name == "runtime.NumGoroutine") = false ∧
    ∀ (w : World) (d : Array α), Far blk w0 w → d.size = n → Hld w blk off d → ∀ i j : Nat, i < n → j < n → Gives P g (#[.int .i64 i, .int .i64 j] ++ lb) w fun u w' => u = .bool (lt d[i]! d[j]!) ∧ Ext w w'
/-- what is asked of the exchange -/
def SwapOk (α : Type) [Enc α] [Inhabited α] (P : Program) (sv : Value) (blk off n : Nat) : Prop :=
  ∃ (sf : Nat) (sb : Array Value), sv = .func (.func sf) #[] sb ∧ SwapSwapsK P sf sb (Enc.cells (α := α)) (Enc.size α) blk off n
section
variable {α : Type} [Enc α] [Inhabited α] {P : Program} {lt : α → α → Bool} {lv sv : Value} {blk off n : Nat} {w0 w : World} {d : Array α}
theorem LessOk.far {w1 : World} (h : LessOk P lt lv blk off n w0) (hF : Far blk w0 w1) : LessOk P lt lv blk off n w1 := by
  obtain ⟨g, lb, fn, h1, h2, h3, h4, h5⟩ := h
  exact ⟨g, lb, fn, h1, h2, h3, h4, fun w d hf => h5 w d (hF.trans hf)⟩
variable {o : Oper} {f : Fr}
theorem op_less {x y z : Operand} {ts : Array TypeId} {a b : Int} {i j : Nat} (hL : LessOk P lt lv blk off n w0) (hF : Far blk w0 w) (hs : d.size = n) (hH : Hld w blk off d) (ho : o.op = .call { callee := .value x, args := #[y, z], argTypes := ts }) (hx : evalF f x = lv) (hy : evalF f y = .int .i64 a) (hz : evalF f z = .int .i64 b)
    (ha : a = (i : Int)) (hb : b = (j : Int)) (hi : i < n) (hj : j < n) : OpS P o f w fun u w' => u = .bool (lt d[i]! d[j]!) ∧ Ext w w' := by
  subst ha hb
  obtain ⟨g, lb, fn, rfl, h2, h3, h4, h5⟩ := hL
  refine OpS.call (op_callv (caps := lb.toList) ho (by rw [hx]) (argsC hy (argsC hz argsN)) h2 h3 h4) ?_
  have := h5 w d hF hs hH i j hi hj
  have e : (#[Value.int .i64 (i : Int), .int .i64 (j : Int)] ++ lb) = ([Value.int .i64 (i : Int), .int .i64 (j : Int)] ++ lb.toList).toArray := by simp
  rw [e] at this
  exact this
theorem op_swap {x y z : Operand} {ts : Array TypeId} {a b : Int} {i j : Nat} (hS : SwapOk α P sv blk off n) (hs : d.size = n) (hH : Hld w blk off d) (ho : o.op = .call { callee := .value x, args := #[y, z], argTypes := ts }) (hx : evalF f x = sv) (hy : evalF f y = .int .i64 a) (hz : evalF f z = .int .i64 b)
    (ha : a = (i : Int)) (hb : b = (j : Int)) (hi : i < n) (hj : j < n) : OpS P o f w fun _ w' => Hld w' blk off (swp d i j) ∧ Far blk w w' := by
  subst ha hb
  obtain ⟨sf, sb, rfl, h2⟩ := hS
  have hr := h2 w d hH hs i j hi hj
  refine OpS.val (v := .tuple #[]) (w' := _) ?_ ⟨Hld.swap hH (by omega) (by omega), (far_setCells _ _ _ _).trans (far_setCells _ _ _ _)⟩
  unfold execOp
  simp only [ho, resolve, hx, hy, hz, Deferred.ofValue, invoke, Sem.run_bind, Sem.run_pure, Result.andThen_ok, List.map_toArray, List.map_cons, List.map_nil]
  simp [hr]
end
section
variable {P : Program} {o : Oper} {f : Fr} {w : World}
theorem op_mulc {t ty : TypeId} {x y : Operand} {a b c : Int} (ho : o.op = .binOp .mul t x y ty) (hx : evalF f x = .int .i64 a) (hy : evalF f y = .int .i64 b) (hc : a * b = c) (hr : -9223372036854775808 ≤ c ∧ c < 9223372036854775808) : (execOp (evalF f) o).run P w = .ok (.value (.int .i64 c)) w :=
  op_int ho hx hy (by rw [binOp_mul]; show pure _ = _; rw [hc, wrap_in hr])
theorem op_quoc {t ty : TypeId} {x y : Operand} {a b c : Int} (ho : o.op = .binOp .quo t x y ty) (hx : evalF f x = .int .i64 a) (hy : evalF f y = .int .i64 b) (ha : 0 ≤ a) (hb : 0 < b) (hm : a < 9223372036854775808) (hc : a / b = c) : (execOp (evalF f) o).run P w = .ok (.value (.int .i64 c)) w := by
  subst hc; exact op_quo ho hx hy ha hb hm
/-- a struct of one-cell fields, loaded whole -/
theorem op_loadc {t : TypeId} {x : Operand} {p : Addr} {cs : List Value} (ho : o.op = .load t x) (hx : evalF f x = .pointer (some p)) (ha : isAggT P t = true) (hs : (P.info? t).map (·.size) = some cs.length) (hc : Cells w p cs) : (execOp (evalF f) o).run P w = .ok (.value (.agg cs.toArray)) w := by
  have hsz : (Go.sizeOf t).run P w = .ok cs.length w := by
    cases hi : P.info? t with
    | none => rw [hi] at hs; cases hs
    | some i =>
      rw [hi] at hs
      simp only [Option.map_some, Option.some.injEq] at hs
      simp [Go.sizeOf, typeInfo, hi, hs]
  have hl := run_loadCells_list (P := P) w p cs hc
  have hag : (isAgg t).run P w = .ok true w := by
    cases hu : P.underlying t with
    | none => simp [isAggT, hu] at ha
    | some d =>
      cases d <;> simp [isAggT, hu] at ha <;> simp [isAgg, run_underlying hu]
  unfold execOp
  simp only [ho, hx, Instr.loadAt, Instr.sureAddr, Sem.run_bind, Sem.run_pure, Result.andThen_ok]
  simp [loadVar, hag, hsz, hl]
end
theorem Hld.farx {α : Type} [Enc α] [Inhabited α] {w w' : World} {blk off bs : Nat} {d : Array α} (h : Hld w blk off d) (hg : Far bs w w') (hne : blk ≠ bs) : Hld w' blk off d := fun j hj => by
  obtain ⟨h1, h2⟩ := h j hj
  have hlt := World.block_lt_of_cell? w _ h1
  have hb := World.grownBy.block hg blk hlt (by simpa using hne)
  exact ⟨(World.cell?_of_block (w := w) (w' := w') (a := ⟨blk, off + j, none⟩) hb).trans h1, (World.frozen?_of_block (w := w) (w' := w') (a := ⟨blk, off + j, none⟩) hb).trans h2⟩
theorem Far.into {blk bs : Nat} {w0 w w' : World} (h : Far blk w0 w) (hg : Far bs w w') (hb : w0.heap.size ≤ bs) : Far blk w0 w' :=
  ⟨(World.grownBy.os hg).trans (World.grownBy.os h), (World.grownBy.tape hg).trans (World.grownBy.tape h), (World.grownBy.output hg).trans (World.grownBy.output h), Nat.le_trans h.size hg.size,
    fun k hk hn => (World.grownBy.block hg k (Nat.lt_of_lt_of_le hk h.size) (by simp; omega)).trans (World.grownBy.block h k hk hn)⟩
section
variable {P : Program} {o : Oper} {f : Fr} {w : World}
theorem op_addw {t ty : TypeId} {x y : Operand} {a b : Int} (ho : o.op = .binOp .add t x y ty) (hx : evalF f x = .int .i64 a) (hy : evalF f y = .int .i64 b) : (execOp (evalF f) o).run P w = .ok (.value (.int .i64 (IntKind.i64.wrap (a + b)))) w :=
  op_int ho hx hy (by rw [binOp_add]; rfl)
/-- a store of one cell into a box of one cell -/
theorem op_store1 {t tb : TypeId} {x y : Operand} {b : Nat} {u v : Value} (ho : o.op = .store t x y) (hx : evalF f x = .pointer (some ⟨b, 0, none⟩)) (hy : evalF f y = v) (hs : (P.info? t).map (·.size) = some 1) (hb : Box w b tb [u]) (hv : v.cells = #[v]) (h1 : v.oneCell' = true) :
    OpS P o f w fun _ w' => Box w' b tb [v] ∧ w.grownBy w' (some b) :=
  (op_store (vs := [v]) ho hx hy hv hs hb (by simp) (by intro z hz; simp at hz; subst hz; exact h1)).mono fun _ _ ⟨h, hg, _⟩ => ⟨by simpa using h, hg⟩
end
theorem far_sortWorldK {α : Type} [Inhabited α] (enc : α → List Value) (k : Nat) (w : World) (blk off m : Nat) (dk : Array α) (os : Array Obj) : Far blk w (sortWorldK enc k w blk off m dk os) := by
  refine ⟨rfl, rfl, rfl, ?_, fun j hj hn => ?_⟩
  · simp [sortWorldK, grow, putRowK, putRow, mapBlock, Sort.ahead]
  · have hne : j ≠ blk := fun e => hn (by rw [e])
    simp [sortWorldK, grow, putRowK, putRow, mapBlock, Sort.ahead, Array.getElem?_append, hj, Array.getElem_modify_of_ne (Ne.symm hne)]
end Go.Fk
