/-
  Texts that the proof rests on: Zb, AgTy.
-/
import Derived.Test.YtdknjfmjddlphaaGreatSAgreementAlike1
import Derived.Test.YtdknjfmjddlphaaGreatChecked
import Derived.Shelf.GgSortFunc.SmallK
import Derived.Shelf.SlSortFuncK.ComposeK
import Derived.Sort.WalkC4
import Derived.Sort.WalkA6
import Derived.Sort.WalkB2
import Derived.Sort.AssemblyPlain
import Derived.Shelf.GgSortFunc.Slice
import Derived.Shelf.SlSortFuncK.BreakPatternsK
import Derived.Shelf.GgSortFunc.Tiny
import Derived.Test.YtdknjfmjddlphaaGreatRows
import Derived.ChangeKeysEq
/-
  Facts on the types of the program, for the logic of frames: sizes, fields, equality. Printed by a program of this session from the translation.
-/
namespace Go.Proofs.YtdknjfmjddlphaaGreat
open Go Go.Fk
theorem mixed : Tryz.prog.follows .mixedOrders = true := by kernel_rfl
theorem ty3 : TyEnc Tryz.prog 3 Int := TyEnc.int (by kernel_rfl) (by kernel_rfl)
theorem ty24 : TyEnc Tryz.prog 24 Nm := TyEnc.agg (by kernel_rfl) (by kernel_rfl) (fun _ => rfl)
theorem ty34 : TyEnc Tryz.prog 34 Oc := TyEnc.agg (by kernel_rfl) (by kernel_rfl) (fun _ => rfl)
theorem ty47 : TyEnc Tryz.prog 47 Vt := TyEnc.agg (by kernel_rfl) (by kernel_rfl) (fun _ => rfl)
theorem sl25 : TySl Tryz.prog 25 47 Vt := ⟨Tryz.underlying25, ty47⟩
theorem ln25 : Tryz.prog.underlying 25 = some (.slice (Tryz.prog.elem 25)) := by kernel_rfl
theorem sl28 : TySl Tryz.prog 28 24 Nm := ⟨Tryz.underlying28, ty24⟩
theorem ln28 : Tryz.prog.underlying 28 = some (.slice (Tryz.prog.elem 28)) := by kernel_rfl
theorem sl38 : TySl Tryz.prog 38 34 Oc := ⟨Tryz.underlying38, ty34⟩
theorem ln38 : Tryz.prog.underlying 38 = some (.slice (Tryz.prog.elem 38)) := by kernel_rfl
theorem sl61 : TySl Tryz.prog 61 3 Int := ⟨Tryz.underlying61, ty3⟩
theorem ln61 : Tryz.prog.underlying 61 = some (.slice (Tryz.prog.elem 61)) := by kernel_rfl
theorem fo34_1 : FieldOff Tryz.prog 34 1 1 := FieldOff.mk (n := 0) Tryz.underlying34 rfl rfl (by kernel_rfl)
theorem fo34_2 : FieldOff Tryz.prog 34 2 2 := FieldOff.mk (n := 0) Tryz.underlying34 rfl rfl (by kernel_rfl)
theorem fo34_3 : FieldOff Tryz.prog 34 3 3 := FieldOff.mk (n := 7) Tryz.underlying34 rfl rfl (by kernel_rfl)
theorem fo47_0 : FieldOff Tryz.prog 47 0 0 := FieldOff.mk (n := 0) Tryz.underlying47 rfl rfl (by kernel_rfl)
theorem fo47_1 : FieldOff Tryz.prog 47 1 1 := FieldOff.mk (n := 0) Tryz.underlying47 rfl rfl (by kernel_rfl)
theorem fo47_2 : FieldOff Tryz.prog 47 2 2 := FieldOff.mk (n := 0) Tryz.underlying47 rfl rfl (by kernel_rfl)
theorem fo47_3 : FieldOff Tryz.prog 47 3 3 := FieldOff.mk (n := 0) Tryz.underlying47 rfl rfl (by kernel_rfl)
theorem fo47_4 : FieldOff Tryz.prog 47 4 4 := FieldOff.mk (n := 0) Tryz.underlying47 rfl rfl (by kernel_rfl)
theorem fo47_5 : FieldOff Tryz.prog 47 5 5 := FieldOff.mk (n := 0) Tryz.underlying47 rfl rfl (by kernel_rfl)
theorem fo47_6 : FieldOff Tryz.prog 47 6 6 := FieldOff.mk (n := 7) Tryz.underlying47 rfl rfl (by kernel_rfl)
theorem fo47_7 : FieldOff Tryz.prog 47 7 14 := FieldOff.mk (n := 7) Tryz.underlying47 rfl rfl (by kernel_rfl)
theorem fo92_0 : FieldOff Tryz.prog 92 0 0 := FieldOff.mk (n := 0) Tryz.underlying92 rfl rfl (by kernel_rfl)
theorem fo92_1 : FieldOff Tryz.prog 92 1 1 := FieldOff.mk (n := 0) Tryz.underlying92 rfl rfl (by kernel_rfl)
theorem fo92_2 : FieldOff Tryz.prog 92 2 2 := FieldOff.mk (n := 0) Tryz.underlying92 rfl rfl (by kernel_rfl)
theorem fo92_3 : FieldOff Tryz.prog 92 3 3 := FieldOff.mk (n := 0) Tryz.underlying92 rfl rfl (by kernel_rfl)
theorem fo92_4 : FieldOff Tryz.prog 92 4 4 := FieldOff.mk (n := 7) Tryz.underlying92 rfl rfl (by kernel_rfl)
theorem fo92_5 : FieldOff Tryz.prog 92 5 12 := FieldOff.mk (n := 0) Tryz.underlying92 rfl rfl (by kernel_rfl)
theorem fo92_6 : FieldOff Tryz.prog 92 6 13 := FieldOff.mk (n := 0) Tryz.underlying92 rfl rfl (by kernel_rfl)
theorem fo100_0 : FieldOff Tryz.prog 100 0 0 := FieldOff.mk (n := 0) Tryz.underlying100 rfl rfl (by kernel_rfl)
theorem fo100_1 : FieldOff Tryz.prog 100 1 1 := FieldOff.mk (n := 0) Tryz.underlying100 rfl rfl (by kernel_rfl)
theorem fo100_2 : FieldOff Tryz.prog 100 2 2 := FieldOff.mk (n := 0) Tryz.underlying100 rfl rfl (by kernel_rfl)
theorem fo126_0 : FieldOff Tryz.prog 126 0 0 := FieldOff.mk (n := 0) Tryz.underlying126 rfl rfl (by kernel_rfl)
theorem fo126_1 : FieldOff Tryz.prog 126 1 1 := FieldOff.mk (n := 0) Tryz.underlying126 rfl rfl (by kernel_rfl)
theorem fo133_0 : FieldOff Tryz.prog 133 0 0 := FieldOff.mk (n := 0) Tryz.underlying133 rfl rfl (by kernel_rfl)
theorem fo133_1 : FieldOff Tryz.prog 133 1 1 := FieldOff.mk (n := 7) Tryz.underlying133 rfl rfl (by kernel_rfl)
theorem si3 : (Tryz.prog.info? 3).map (·.size) = some 1 := by kernel_rfl
theorem zs3 : ((Tryz.prog.info? 3).bind (·.zero)).map (·.cells.size) = some 1 := by kernel_rfl
theorem one3 : isOneT Tryz.prog 3 = true := by kernel_rfl
theorem si5 : (Tryz.prog.info? 5).map (·.size) = some 1 := by kernel_rfl
theorem one5 : isOneT Tryz.prog 5 = true := by kernel_rfl
theorem si22 : (Tryz.prog.info? 22).map (·.size) = some 1 := by kernel_rfl
theorem one22 : isOneT Tryz.prog 22 = true := by kernel_rfl
theorem si24 : (Tryz.prog.info? 24).map (·.size) = some 8 := by kernel_rfl
theorem zs24 : ((Tryz.prog.info? 24).bind (·.zero)).map (·.cells.size) = some 8 := by kernel_rfl
theorem bt24 : (Tryz.prog.info? 24).map (·.bytes) = some 8 := by kernel_rfl
theorem si25 : (Tryz.prog.info? 25).map (·.size) = some 1 := by kernel_rfl
theorem one25 : isOneT Tryz.prog 25 = true := by kernel_rfl
theorem si28 : (Tryz.prog.info? 28).map (·.size) = some 1 := by kernel_rfl
theorem one28 : isOneT Tryz.prog 28 = true := by kernel_rfl
theorem si34 : (Tryz.prog.info? 34).map (·.size) = some 11 := by kernel_rfl
theorem zs34 : ((Tryz.prog.info? 34).bind (·.zero)).map (·.cells.size) = some 11 := by kernel_rfl
theorem bt34 : (Tryz.prog.info? 34).map (·.bytes) = some 32 := by kernel_rfl
theorem si38 : (Tryz.prog.info? 38).map (·.size) = some 1 := by kernel_rfl
theorem one38 : isOneT Tryz.prog 38 = true := by kernel_rfl
theorem si47 : (Tryz.prog.info? 47).map (·.size) = some 22 := by kernel_rfl
theorem zs47 : ((Tryz.prog.info? 47).bind (·.zero)).map (·.cells.size) = some 22 := by kernel_rfl
theorem bt47 : (Tryz.prog.info? 47).map (·.bytes) = some 64 := by kernel_rfl
theorem si56 : (Tryz.prog.info? 56).map (·.size) = some 1 := by kernel_rfl
theorem zs56 : ((Tryz.prog.info? 56).bind (·.zero)).map (·.cells.size) = some 1 := by kernel_rfl
theorem one56 : isOneT Tryz.prog 56 = true := by kernel_rfl
theorem one77 : isOneT Tryz.prog 77 = true := by kernel_rfl
theorem one90 : isOneT Tryz.prog 90 = true := by kernel_rfl
theorem si100 : (Tryz.prog.info? 100).map (·.size) = some 3 := by kernel_rfl
theorem zs100 : ((Tryz.prog.info? 100).bind (·.zero)).map (·.cells.size) = some 3 := by kernel_rfl
theorem ag100 : isAggT Tryz.prog 100 = true := by kernel_rfl
theorem one121 : isOneT Tryz.prog 121 = true := by kernel_rfl
theorem si126 : (Tryz.prog.info? 126).map (·.size) = some 2 := by kernel_rfl
theorem ag126 : isAggT Tryz.prog 126 = true := by kernel_rfl
theorem si129 : (Tryz.prog.info? 129).map (·.size) = some 5 := by kernel_rfl
theorem zs129 : ((Tryz.prog.info? 129).bind (·.zero)).map (·.cells.size) = some 5 := by kernel_rfl
theorem si133 : (Tryz.prog.info? 133).map (·.size) = some 9 := by kernel_rfl
theorem zs133 : ((Tryz.prog.info? 133).bind (·.zero)).map (·.cells.size) = some 9 := by kernel_rfl
theorem si134 : (Tryz.prog.info? 134).map (·.size) = some 1 := by kernel_rfl
theorem one134 : isOneT Tryz.prog 134 = true := by kernel_rfl
theorem si142 : (Tryz.prog.info? 142).map (·.size) = some 1 := by kernel_rfl
theorem one142 : isOneT Tryz.prog 142 = true := by kernel_rfl
theorem eqd24 : EqDeep Tryz.prog 24 Nm 2 := EqDeep.nm Tryz.underlying24 Tryz.underlying5 (by kernel_rfl)
theorem eq24 : EqEnc Tryz.prog 24 Nm := eqd24.enc (by decide)
theorem eqd34 : EqDeep Tryz.prog 34 Oc 3 := fun d w x y => eqStruct Tryz.underlying34 Tryz.stoodInHeld34 (eqFields_cons (by simp) (part_one (by kernel_rfl) rfl) (part_one (by kernel_rfl) rfl) (EqDeep.int Tryz.underlying3 (d + 1) w x.slot y.slot) (eqFields_cons (by simp) (part_one (by kernel_rfl) rfl) (part_one (by kernel_rfl) rfl) (EqDeep.int Tryz.underlying3 (d + 1) w x.round y.round) (eqFields_cons (by simp) (part_one (by kernel_rfl) rfl) (part_one (by kernel_rfl) rfl) (EqDeep.int Tryz.underlying3 (d + 1) w x.choice y.choice) (eqFields_cons (by simp) (part_agg (n := 8) (by kernel_rfl) (by kernel_rfl) rfl) (part_agg (n := 8) (by kernel_rfl) (by kernel_rfl) rfl) (eqd24 d w x.value y.value) eqFields_nil)))) (by rw [Bool.eq_iff_iff, decide_eq_true_eq, Oc.ext_iff']; simp)
theorem eq34 : EqEnc Tryz.prog 34 Oc := eqd34.enc (by decide)
theorem eqd47 : EqDeep Tryz.prog 47 Vt 3 := fun d w x y => eqStruct Tryz.underlying47 Tryz.stoodInHeld47 (eqFields_cons (by simp) (part_one (by kernel_rfl) rfl) (part_one (by kernel_rfl) rfl) (EqDeep.int Tryz.underlying3 (d + 1) w x.kind y.kind) (eqFields_cons (by simp) (part_one (by kernel_rfl) rfl) (part_one (by kernel_rfl) rfl) (EqDeep.int Tryz.underlying3 (d + 1) w x.slot y.slot) (eqFields_cons (by simp) (part_one (by kernel_rfl) rfl) (part_one (by kernel_rfl) rfl) (EqDeep.int Tryz.underlying3 (d + 1) w x.round y.round) (eqFields_cons (by simp) (part_one (by kernel_rfl) rfl) (part_one (by kernel_rfl) rfl) (EqDeep.int Tryz.underlying3 (d + 1) w x.choice y.choice) (eqFields_cons (by simp) (part_one (by kernel_rfl) rfl) (part_one (by kernel_rfl) rfl) (EqDeep.int Tryz.underlying3 (d + 1) w x.signer y.signer) (eqFields_cons (by simp) (part_one (by kernel_rfl) rfl) (part_one (by kernel_rfl) rfl) (EqDeep.int Tryz.underlying22 (d + 1) w x.support y.support) (eqFields_cons (by simp) (part_agg (n := 8) (by kernel_rfl) (by kernel_rfl) rfl) (part_agg (n := 8) (by kernel_rfl) (by kernel_rfl) rfl) (eqd24 d w x.parent y.parent) (eqFields_cons (by simp) (part_agg (n := 8) (by kernel_rfl) (by kernel_rfl) rfl) (part_agg (n := 8) (by kernel_rfl) (by kernel_rfl) rfl) (eqd24 d w x.value y.value) eqFields_nil)))))))) (by rw [Bool.eq_iff_iff, decide_eq_true_eq, Vt.ext_iff']; simp)
theorem eq47 : EqEnc Tryz.prog 47 Vt := eqd47.enc (by decide)
end Go.Proofs.YtdknjfmjddlphaaGreat
/-
  What the walks of sort.Slice's functions lean on where the comparison may lay new blocks: a row of data in one block, the block that alone turns, the comparison's and the exchange's promises. No program in sight.
-/
namespace Go.Fk
open Go Go.RowKit Go.Sort Go.Proofs
/-- all blocks but one are as they were -/
def Far (blk : Nat) (w w' : World) : Prop := w.grownBy w' (some blk)
theorem Far.refl (blk : Nat) (w : World) : Far blk w w := ⟨rfl, rfl, rfl, Nat.le_refl _, fun _ _ _ => rfl⟩
theorem Far.size {blk : Nat} {w w' : World} (h : Far blk w w') : w.heap.size ≤ w'.heap.size := World.grownBy.size h
theorem Far.trans {blk : Nat} {a b c : World} (h : Far blk a b) (k : Far blk b c) : Far blk a c :=
  ⟨k.os.trans h.os, k.tape.trans h.tape, k.output.trans h.output, Nat.le_trans h.size k.size, fun i hi hn => (k.block i (Nat.lt_of_lt_of_le hi h.size) hn).trans (h.block i hi hn)⟩
theorem Ext.far {w w' : World} (h : Ext w w') (blk : Nat) : Far blk w w' := ⟨Below.os h, Below.tape h, Below.output h, h.size, fun _ hk _ => h.block hk⟩
theorem Box.farx {w w' : World} {b blk : Nat} {t : TypeId} {cs : List Value} (h : Box w b t cs) (hF : Far blk w w') (hne : b ≠ blk) : Box w' b t cs := Box.far h hF (by simpa using hne)
/-- the row of cells holds the data -/
def Hld {α : Type} [Enc α] [Inhabited α] (w : World) (blk off : Nat) (d : Array α) : Prop := HoldsK (Enc.cells (α := α)) (Enc.size α) w blk off d
section
variable {α : Type} [Enc α] [Inhabited α] {w w' : World} {blk off : Nat} {d : Array α}
theorem Hld.ext (h : Hld w blk off d) (hx : Ext w w') : Hld w' blk off d := fun j hj => by
  obtain ⟨h1, h2⟩ := h j hj
  have hlt := World.block_lt_of_cell? w _ h1
  exact ⟨hx.cell h1, (World.frozen?_of_block (w := w) (w' := w') (a := ⟨blk, off + j, none⟩) (hx.block hlt)).trans h2⟩
theorem far_setCells (blk : Nat) : ∀ (vs : List Value) (o : Nat) (w : World), Far blk w (w.setCells blk o vs)
  | [], _, w => Far.refl _ w
  | v :: r, o, w => by
    rw [World.setCells]
    have h0 : Far blk w (w.setCell ⟨blk, o, none⟩ v) := ⟨rfl, rfl, rfl, by simp, fun k _ hk => Below.heap_setCell w ⟨blk, o, none⟩ v k (fun e => hk (by rw [e]))⟩
    exact h0.trans (far_setCells blk r (o + 1) _)
theorem Hld.swap (h : Hld w blk off d) {i j : Nat} (hi : i < d.size) (hj : j < d.size) : Hld ((w.setCells blk (off + i * Enc.size α) (Enc.cells d[j]!)).setCells blk (off + j * Enc.size α) (Enc.cells d[i]!)) blk off (swp d i j) := by
 have e := putRowK_swp (Enc.cells (α := α)) (Enc.size α) Enc.len w blk off d i j hi hj; rw [putRowK_self _ _ _ _ _ _ h] at e; rw [e]; exact holdsK_putRowK _ _ _ _ _ d _ h (size_swp d i j)
theorem Hld.get (h : Hld w blk off d) {i : Nat} (hi : i < d.size) : Cells w ⟨blk, off + i * Enc.size α, none⟩ (Enc.cells d[i]!) := fun j u hu => by
  have hj : j < Enc.size α := by rw [← Enc.len d[i]!]; exact (List.getElem?_eq_some_iff.1 hu).1
  have e : (⟨blk, off + i * Enc.size α, none⟩ : Addr).add j = ⟨blk, off + i * Enc.size α + j, none⟩ := by unfold Addr.add; split <;> simp_all
  rw [e, (HoldsK.cell h hi hj).1]
  simp [hu]
end
/-- what is asked of the comparison -/
def LessOk {α : Type} [Enc α] [Inhabited α] (P : Program) (lt : α → α → Bool) (lv : Value) (blk off n : Nat) (w0 : World) : Prop :=
  ∃ (g : Nat) (lb : Array Value) (fn : Func), lv = .func (.func g) #[] lb ∧ P.funcs[g]? = some fn ∧ fn.body.isSome = true ∧ (fn.name == "runtime.NumGoroutine") = false ∧
    ∀ (w : World) (d : Array α), Far blk w0 w → d.size = n → Hld w blk off d → ∀ i j : Nat, i < n → j < n → Gives P g (#[.int .i64 i, .int .i64 j] ++ lb) w fun u w' => u = .bool (lt d[i]! d[j]!) ∧ Ext w w'
/-- what is asked of the exchange -/
def SwapOk (α : Type) [Enc α] [Inhabited α] (P : Program) (sv : Value) (blk off n : Nat) : Prop :=
  ∃ (sf : Nat) (sb : Array Value), sv = .func (.func sf) #[] sb ∧ SwapSwapsK P sf sb (Enc.cells (α := α)) (Enc.size α) blk off n
section
variable {α : Type} [Enc α] [Inhabited α] {P : Program} {lt : α → α → Bool} {lv sv : Value} {blk off n : Nat} {w0 w : World} {d : Array α}
theorem LessOk.far {w1 : World} (h : LessOk P lt lv blk off n w0) (hF : Far blk w0 w1) : LessOk P lt lv blk off n w1 := by
 obtain ⟨g, lb, fn, h1, h2, h3, h4, h5⟩ := h; exact ⟨g, lb, fn, h1, h2, h3, h4, fun w d hf => h5 w d (hF.trans hf)⟩
variable {o : Oper} {f : Fr}
theorem op_less {x y z : Operand} {ts : Array TypeId} {a b : Int} {i j : Nat} (hL : LessOk P lt lv blk off n w0) (hF : Far blk w0 w) (hs : d.size = n) (hH : Hld w blk off d) (ho : o.op = .call { callee := .value x, args := #[y, z], argTypes := ts }) (hx : evalF f x = lv) (hy : evalF f y = .int .i64 a) (hz : evalF f z = .int .i64 b)
    (ha : a = (i : Int)) (hb : b = (j : Int)) (hi : i < n) (hj : j < n) : OpS P o f w fun u w' => u = .bool (lt d[i]! d[j]!) ∧ Ext w w' := by
  subst ha hb
  obtain ⟨g, lb, fn, rfl, h2, h3, h4, h5⟩ := hL
  refine OpS.call (op_callv (caps := lb.toList) ho (by rw [hx]) (argsC hy (argsC hz argsN)) h2 h3 h4) ?_
  have := h5 w d hF hs hH i j hi hj
  have e : (#[Value.int .i64 (i : Int), .int .i64 (j : Int)] ++ lb) = ([Value.int .i64 (i : Int), .int .i64 (j : Int)] ++ lb.toList).toArray := by simp
  rw [e] at this
  exact this
theorem op_swap {x y z : Operand} {ts : Array TypeId} {a b : Int} {i j : Nat} (hS : SwapOk α P sv blk off n) (hs : d.size = n) (hH : Hld w blk off d) (ho : o.op = .call { callee := .value x, args := #[y, z], argTypes := ts }) (hx : evalF f x = sv) (hy : evalF f y = .int .i64 a) (hz : evalF f z = .int .i64 b)
    (ha : a = (i : Int)) (hb : b = (j : Int)) (hi : i < n) (hj : j < n) : OpS P o f w fun _ w' => Hld w' blk off (swp d i j) ∧ Far blk w w' := by
  subst ha hb
  obtain ⟨sf, sb, rfl, h2⟩ := hS
  have hr := h2 w d hH hs i j hi hj
  refine OpS.val (v := .tuple #[]) (w' := _) ?_ ⟨Hld.swap hH (by omega) (by omega), (far_setCells _ _ _ _).trans (far_setCells _ _ _ _)⟩
  unfold execOp
  simp only [ho, resolve, hx, hy, hz, Deferred.ofValue, invoke, Sem.run_bind, Sem.run_pure, Result.andThen_ok, List.map_toArray, List.map_cons, List.map_nil]
  simp [hr]
end
section
variable {P : Program} {o : Oper} {f : Fr} {w : World}
theorem op_mulc {t ty : TypeId} {x y : Operand} {a b c : Int} (ho : o.op = .binOp .mul t x y ty) (hx : evalF f x = .int .i64 a) (hy : evalF f y = .int .i64 b) (hc : a * b = c) (hr : -9223372036854775808 ≤ c ∧ c < 9223372036854775808) : (execOp (evalF f) o).run P w = .ok (.value (.int .i64 c)) w :=
  op_int ho hx hy (by rw [binOp_mul]; show pure _ = _; rw [hc, wrap_in hr])
theorem op_quoc {t ty : TypeId} {x y : Operand} {a b c : Int} (ho : o.op = .binOp .quo t x y ty) (hx : evalF f x = .int .i64 a) (hy : evalF f y = .int .i64 b) (ha : 0 ≤ a) (hb : 0 < b) (hm : a < 9223372036854775808) (hc : a / b = c) : (execOp (evalF f) o).run P w = .ok (.value (.int .i64 c)) w := by
 subst hc; exact op_quo ho hx hy ha hb hm
/-- a struct of one-cell fields, loaded whole -/
theorem op_loadc {t : TypeId} {x : Operand} {p : Addr} {cs : List Value} (ho : o.op = .load t x) (hx : evalF f x = .pointer (some p)) (ha : isAggT P t = true) (hs : (P.info? t).map (·.size) = some cs.length) (hc : Cells w p cs) : (execOp (evalF f) o).run P w = .ok (.value (.agg cs.toArray)) w := by
 have hsz : (Go.sizeOf t).run P w = .ok cs.length w := by
  cases hi : P.info? t with
  | none => rw [hi] at hs; cases hs
  | some i =>
    rw [hi] at hs
    simp only [Option.map_some, Option.some.injEq] at hs
    simp [Go.sizeOf, typeInfo, hi, hs]
 have hl := run_loadCells_list (P := P) w p cs hc
 have hag : (isAgg t).run P w = .ok true w := by
  cases hu : P.underlying t with
  | none => simp [isAggT, hu] at ha
  | some d =>
    cases d <;> simp [isAggT, hu] at ha <;> simp [isAgg, run_underlying hu]
 unfold execOp; simp only [ho, hx, Instr.loadAt, Instr.sureAddr, Sem.run_bind, Sem.run_pure, Result.andThen_ok]; simp [loadVar, hag, hsz, hl]
end
theorem Hld.farx {α : Type} [Enc α] [Inhabited α] {w w' : World} {blk off bs : Nat} {d : Array α} (h : Hld w blk off d) (hg : Far bs w w') (hne : blk ≠ bs) : Hld w' blk off d := fun j hj => by
  obtain ⟨h1, h2⟩ := h j hj
  have hlt := World.block_lt_of_cell? w _ h1
  have hb := World.grownBy.block hg blk hlt (by simpa using hne)
  exact ⟨(World.cell?_of_block (w := w) (w' := w') (a := ⟨blk, off + j, none⟩) hb).trans h1, (World.frozen?_of_block (w := w) (w' := w') (a := ⟨blk, off + j, none⟩) hb).trans h2⟩
theorem Far.into {blk bs : Nat} {w0 w w' : World} (h : Far blk w0 w) (hg : Far bs w w') (hb : w0.heap.size ≤ bs) : Far blk w0 w' :=
  ⟨(World.grownBy.os hg).trans (World.grownBy.os h), (World.grownBy.tape hg).trans (World.grownBy.tape h), (World.grownBy.output hg).trans (World.grownBy.output h), Nat.le_trans h.size hg.size,
    fun k hk hn => (World.grownBy.block hg k (Nat.lt_of_lt_of_le hk h.size) (by simp; omega)).trans (World.grownBy.block h k hk hn)⟩
section
variable {P : Program} {o : Oper} {f : Fr} {w : World}
theorem op_addw {t ty : TypeId} {x y : Operand} {a b : Int} (ho : o.op = .binOp .add t x y ty) (hx : evalF f x = .int .i64 a) (hy : evalF f y = .int .i64 b) : (execOp (evalF f) o).run P w = .ok (.value (.int .i64 (IntKind.i64.wrap (a + b)))) w :=
  op_int ho hx hy (by rw [binOp_add]; rfl)
/-- a store of one cell into a box of one cell -/
theorem op_store1 {t tb : TypeId} {x y : Operand} {b : Nat} {u v : Value} (ho : o.op = .store t x y) (hx : evalF f x = .pointer (some ⟨b, 0, none⟩)) (hy : evalF f y = v) (hs : (P.info? t).map (·.size) = some 1) (hb : Box w b tb [u]) (hv : v.cells = #[v]) (h1 : v.oneCell' = true) :
    OpS P o f w fun _ w' => Box w' b tb [v] ∧ w.grownBy w' (some b) :=
  (op_store (vs := [v]) ho hx hy hv hs hb (by simp) (by intro z hz; simp at hz; subst hz; exact h1)).mono fun _ _ ⟨h, hg, _⟩ => ⟨by simpa using h, hg⟩
end
theorem far_sortWorldK {α : Type} [Inhabited α] (enc : α → List Value) (k : Nat) (w : World) (blk off m : Nat) (dk : Array α) (os : Array Obj) : Far blk w (sortWorldK enc k w blk off m dk os) := by
 refine ⟨rfl, rfl, rfl, ?_, fun j hj hn => ?_⟩
 ·simp [sortWorldK, grow, putRowK, putRow, mapBlock, Sort.ahead]
 ·have hne : j ≠ blk := fun e => hn (by rw [e]); simp [sortWorldK, grow, putRowK, putRow, mapBlock, Sort.ahead, Array.getElem?_append, hj, Array.getElem_modify_of_ne (Ne.symm hne)]
end Go.Fk
/-
  Contracts of functions of sort.Slice for a comparison that may lay blocks, each with its walk. Printed by a program of this session (wip/gen) from the translation.
-/
set_option linter.unusedSimpArgs false
set_option linter.unusedVariables false
namespace Go.Proofs.YtdknjfmjddlphaaGreat
open Go Go.Fk Go.Sort
set_option maxRecDepth 100000 in
theorem insertionSort_ok {α : Type} [Enc α] [Inhabited α] {lt : α → α → Bool} {lv sv : Value} {blk off n : Nat} {w0 w : World} {d : Array α} {a b : Nat} (hL : LessOk Tryz.prog lt lv blk off n w0) (hS : SwapOk α Tryz.prog sv blk off n) (hF : Far blk w0 w) (hblk : blk < w.heap.size) (hn : n < 4611686018427387904) (hs : d.size = n) (hH : Hld w blk off d) (hab : a ≤ b) (hb : b ≤ n) : Gives Tryz.prog 163 #[(.agg #[lv, sv]), (.int .i64 ((a : Nat) : Int)), (.int .i64 ((b : Nat) : Int))] w fun u w' => u = .tuple #[] ∧ Hld w' blk off (Sort.insertionSort lt d a b) ∧ (Sort.insertionSort lt d a b).size = n ∧ Far blk w w' := by
 have hE : Far blk w w := Far.refl blk w; refine gives_of_W Tryz.func163 rfl Tryz.ntmps163 rfl ?_; refine W.seq ?_; refine W.region (by rfl) ?_; refine L.step rfl (op_box (cs := [lv, sv]) rfl rfl rfl) ?_; rintro _ w1 ⟨b1, rfl, hb1, hB1, hx1⟩; have ne1 : b1 ≠ blk := by have := hE.size; omega
 have hE := hE.trans (hx1.far blk); have hF := hF.trans (hx1.far blk); have hH := hH.ext hx1; refine L.nil ?_; refine thenF_nor ?_; refine W.seq ?_; refine W.region (by rfl) ?_; refine L.val rfl (op_move rfl rfl) ?_; refine L.val rfl (op_add (c := ((a + 1 : Nat) : Int)) rfl rfl rfl (by omega) (by omega)) ?_; refine L.val rfl (op_assign rfl rfl) ?_; refine L.nil ?_; refine thenF_nor ?_; refine W.block ?_; have S2_hB1 := hB1; have S2_hE := hE; have S2_hF := hF; refine W.loopg (γ := Nat × Array α) (fun (g : Nat × Array α) (f : Fr) (w : World) => g.2.size = n ∧ a < g.1 ∧ g.1 ≤ b + 1 ∧ insOuter lt a b g.1 g.2 = insOuter lt a b (a + 1) d ∧ f 1 = (.int .i64 ((a : Nat) : Int)) ∧ f 2 = (.int .i64 ((b : Nat) : Int)) ∧ f 3 = (.pointer (some ⟨b1, 0, none⟩)) ∧ f 6 = (.int .i64 ((g.1 : Nat) : Int)) ∧ Hld w blk off g.2 ∧ Far blk w1 w) (fun (g : Nat × Array α) => b + 1 - g.1) (a + 1, d) ⟨hs, (by (try dsimp only); omega), (by (try dsimp only); omega), rfl, rfl, rfl, rfl, rfl, hH, Far.refl _ _⟩ ?_; rintro ⟨i, dk⟩ f2 w2 ⟨hz2, hi1, hi2, hO, s2_1, s2_2, s2_3, s2_6, hH, hS2⟩; dsimp only at hz2 hi1 hi2 hO s2_1 s2_2 s2_3 s2_6 hH hS2; have hB1 := S2_hB1.farx hS2 ne1; have hE := S2_hE.trans hS2; have hF := S2_hF.trans hS2; refine W.seq ?_; refine W.seq ?_; refine W.region (by rfl) ?_; refine L.val rfl (op_move rfl s2_6) ?_; refine L.val rfl (op_move rfl s2_2) ?_; refine L.val rfl (op_lss rfl rfl rfl) ?_; refine L.nil ?_; refine thenF_nor ?_; refine W.cond (t := decide (((i : Nat) : Int) < ((b : Nat) : Int))) rfl (fun hc3 => ?_) (fun hc3 => ?_)
 ·have hp3 := of_decide_eq_true hc3; have hp_o : i < b := by simp only [decide_eq_true_eq] at hc3; omega
  refine W.skip ?_; refine thenF_nor ?_; refine W.seq ?_; refine W.block ?_; refine W.seq ?_; refine W.region (by rfl) ?_; refine L.val rfl (op_move rfl s2_6) ?_; refine L.val rfl (op_assign rfl rfl) ?_; refine L.nil ?_; refine thenF_nor ?_; refine W.block ?_; have S4_hB1 := hB1; have S4_hS2 := hS2; have S4_hE := hE; have S4_hF := hF; refine W.loopg (γ := Nat × Array α) (fun (g : Nat × Array α) (f : Fr) (w : World) => g.2.size = n ∧ a ≤ g.1 ∧ g.1 ≤ i ∧ insInner lt a g.1 g.2 = insInner lt a i dk ∧ f 1 = (.int .i64 ((a : Nat) : Int)) ∧ f 2 = (.int .i64 ((b : Nat) : Int)) ∧ f 3 = (.pointer (some ⟨b1, 0, none⟩)) ∧ f 6 = (.int .i64 ((i : Nat) : Int)) ∧ f 10 = (.int .i64 ((i : Nat) : Int)) ∧ f 11 = (.int .i64 ((b : Nat) : Int)) ∧ f 12 = (.bool (decide (((i : Nat) : Int) < ((b : Nat) : Int)))) ∧ f 15 = (.int .i64 ((i : Nat) : Int)) ∧ f 7 = (.int .i64 ((g.1 : Nat) : Int)) ∧ Hld w blk off g.2 ∧ Far blk w2 w) (fun (g : Nat × Array α) => g.1) (i, dk) ⟨hz2, (by (try dsimp only); omega), (by (try dsimp only); omega), rfl, s2_1, s2_2, s2_3, s2_6, rfl, rfl, rfl, rfl, rfl, hH, Far.refl _ _⟩ ?_; rintro ⟨j, dj⟩ f4 w4 ⟨hz4, hj1, hj2, hI, s4_1, s4_2, s4_3, s4_6, s4_10, s4_11, s4_12, s4_15, s4_7, hH, hS4⟩; dsimp only at hz4 hj1 hj2 hI s4_1 s4_2 s4_3 s4_6 s4_10 s4_11 s4_12 s4_15 s4_7 hH hS4; have hB1 := S4_hB1.farx hS4 ne1; have hS2 := S4_hS2.trans hS4; have hE := S4_hE.trans hS4; have hF := S4_hF.trans hS4; refine W.seq ?_; refine W.seq ?_; refine W.region (by rfl) ?_; refine L.val rfl (op_move rfl s4_7) ?_; refine L.val rfl (op_move rfl s4_1) ?_; refine L.val rfl (op_gtr rfl rfl rfl) ?_; refine L.val rfl (op_move rfl rfl) ?_; refine L.guardv (v := (.pointer (some ⟨b1, 0, none⟩))) (wanted_yes rfl rfl rfl) (fun hg => (op_field rfl s4_3 fo126_0 rfl)) ?_; refine L.guardv (v := lv) (wanted_yes rfl rfl rfl) (fun hg => (op_load1 rfl ((show _ = vif _ (.pointer (some ⟨b1, 0, none⟩)) from rfl).trans (vif_t hg).symm) one77 (hB1.cells.one (n := 0) rfl))) ?_; refine L.guardv (v := (.int .i64 ((j : Nat) : Int))) (wanted_yes rfl rfl rfl) (fun hg => (op_move rfl s4_7)) ?_; refine L.guardv (v := (.int .i64 ((j : Nat) : Int))) (wanted_yes rfl rfl rfl) (fun hg => (op_move rfl s4_7)) ?_; refine L.guardv (v := (.int .i64 ((j - 1 : Nat) : Int))) (wanted_yes rfl rfl rfl) (fun hg => by have hp := hg; simp only [Bool.and_eq_true, Bool.not_eq_true', decide_eq_true_eq, decide_eq_false_iff_not] at hp; exact (op_sub (c := ((j - 1 : Nat) : Int)) rfl ((show _ = vif _ (.int .i64 ((j : Nat) : Int)) from rfl).trans (vif_t hg).symm) rfl (by omega) (by omega))) ?_; refine L.guardc (v := (.bool (lt dj[j]! dj[j - 1]!))) (wanted_yes rfl rfl rfl) (fun hg => by have hp := hg; simp only [Bool.and_eq_true, Bool.not_eq_true', decide_eq_true_eq, decide_eq_false_iff_not] at hp; exact (op_less (i := j) (j := j - 1) hL hF hz4 hH rfl ((show _ = vif _ lv from rfl).trans (vif_t hg).symm) ((show _ = vif _ (.int .i64 ((j : Nat) : Int)) from rfl).trans (vif_t hg).symm) ((show _ = vif _ (.int .i64 ((j - 1 : Nat) : Int)) from rfl).trans (vif_t hg).symm) rfl rfl (by omega) (by omega))) ?_; intro w5 hx5; have hE := hE.trans (hx5.far blk); have hF := hF.trans (hx5.far blk); have hS2 := hS2.trans (hx5.far blk); have hS4 := hS4.trans (hx5.far blk); have hB1 := hB1.ext hx5; have hH := hH.ext hx5; refine L.val rfl (op_and rfl rfl rfl rfl) ?_; refine L.nil ?_; refine thenF_nor ?_; refine W.cond (t := (decide (((a : Nat) : Int) < ((j : Nat) : Int))) && (lt dj[j]! dj[j - 1]!)) rfl (fun hc6 => ?_) (fun hc6 => ?_)
  ·have hp6 := hc6; simp only [Bool.and_eq_true, Bool.not_eq_true', decide_eq_true_eq] at hp6; obtain ⟨hp6, hq6⟩ := hp6; have hin := hc6; simp only [Bool.and_eq_true, decide_eq_true_eq] at hin; obtain ⟨hin1, hin2⟩ := hin; have hin1 : a < j := by omega
   refine W.skip ?_; refine thenF_nor ?_; refine W.seq ?_; refine W.block ?_; refine W.region (by rfl) ?_; refine L.val rfl (op_field rfl s4_3 fo126_1 rfl) ?_; refine L.val rfl (op_load1 rfl rfl one121 (hB1.cells.one (n := 1) rfl)) ?_; refine L.val rfl (op_move rfl s4_7) ?_; refine L.val rfl (op_move rfl s4_7) ?_; refine L.val rfl (op_sub (c := ((j - 1 : Nat) : Int)) rfl rfl rfl (by omega) (by omega)) ?_; refine L.step rfl (op_swap (i := j) (j := j - 1) hS hz4 hH rfl rfl rfl rfl rfl rfl (by omega) (by omega)) ?_; rintro _ w7 ⟨hH7, hg7⟩; have hE := hE.trans hg7; have hF := hF.trans hg7; have hS4 := hS4.trans hg7; have hH := hH7; refine L.nil ?_; refine blockF_nor ?_; refine thenF_nor ?_; refine W.region (by rfl) ?_; refine L.val rfl (op_move rfl s4_7) ?_; refine L.val rfl (op_sub (c := ((j - 1 : Nat) : Int)) rfl rfl rfl (by omega) (by omega)) ?_; refine L.val rfl (op_assign rfl rfl) ?_; refine L.nil ?_; refine thenF_nor ?_; exact ⟨(j - 1, (swp dj j (j - 1))), ⟨((size_swp _ _ _).trans hz4), (by (try dsimp only); omega), (by (try dsimp only); omega), (by dsimp only; rw [← hI, insInner_go _ _ _ _ hin1 hin2]), s4_1, s4_2, s4_3, s4_6, s4_10, s4_11, s4_12, s4_15, rfl, hH, hS4⟩, (by (try dsimp only); omega)⟩
  ·have hp6 := hc6
   have hstop : j ≤ a ∨ lt dj[j]! dj[j - 1]! = false := by
    simp only [Bool.and_eq_false_iff, decide_eq_false_iff_not] at hc6
    rcases hc6 with h | h
    · exact Or.inl (by omega)
    · exact Or.inr h
   refine W.exit ?_; refine thenF_exit ?_; refine thenF_exit ?_; refine blockF_hit ?_; refine blockF_nor ?_; refine thenF_nor ?_; refine W.region (by rfl) ?_; refine L.val rfl (op_move rfl s4_6) ?_; refine L.val rfl (op_add (c := ((i + 1 : Nat) : Int)) rfl rfl rfl (by omega) (by omega)) ?_; refine L.val rfl (op_assign rfl rfl) ?_; refine L.nil ?_; refine thenF_nor ?_; exact ⟨(i + 1, dj), ⟨hz4, (by (try dsimp only); omega), (by (try dsimp only); omega), (by dsimp only; rw [← hO, insOuter_go _ _ _ _ _ hp_o, ← hI, insInner_stop _ _ _ _ hstop]), s4_1, s4_2, s4_3, rfl, hH, hS2⟩, (by (try dsimp only); omega)⟩
 ·have hp3 := of_decide_eq_false hc3; refine W.exit ?_; refine thenF_exit ?_; refine thenF_exit ?_; refine blockF_hit ?_; exact end_nor0 rfl ⟨rfl, by unfold Sort.insertionSort; rw [← hO, insOuter_stop _ _ _ _ _ (by omega)]; exact hH, by unfold Sort.insertionSort; rw [← hO, insOuter_stop _ _ _ _ _ (by omega)]; exact hz2, hE⟩
set_option maxRecDepth 100000 in
theorem siftDown_ok {α : Type} [Enc α] [Inhabited α] {lt : α → α → Bool} {lv sv : Value} {blk off n : Nat} {w0 w : World} {d : Array α} {lo hi first : Nat} (hL : LessOk Tryz.prog lt lv blk off n w0) (hS : SwapOk α Tryz.prog sv blk off n) (hF : Far blk w0 w) (hblk : blk < w.heap.size) (hn : n < 4611686018427387904) (hs : d.size = n) (hH : Hld w blk off d) (hh : first + hi ≤ n) (hl : lo ≤ n) : Gives Tryz.prog 185 #[(.agg #[lv, sv]), (.int .i64 ((lo : Nat) : Int)), (.int .i64 ((hi : Nat) : Int)), (.int .i64 ((first : Nat) : Int))] w fun u w' => u = .tuple #[] ∧ Hld w' blk off (Sort.siftDown lt hi first lo d) ∧ (Sort.siftDown lt hi first lo d).size = n ∧ Far blk w w' := by
 have hE : Far blk w w := Far.refl blk w; refine gives_of_W Tryz.func185 rfl Tryz.ntmps185 rfl ?_; refine W.seq ?_; refine W.region (by rfl) ?_; refine L.step rfl (op_box (cs := [lv, sv]) rfl rfl rfl) ?_; rintro _ w1 ⟨b1, rfl, hb1, hB1, hx1⟩; have ne1 : b1 ≠ blk := by have := hE.size; omega
 have hE := hE.trans (hx1.far blk); have hF := hF.trans (hx1.far blk); have hH := hH.ext hx1; refine L.nil ?_; refine thenF_nor ?_; refine W.seq ?_; refine W.region (by rfl) ?_; refine L.val rfl (op_move rfl rfl) ?_; refine L.val rfl (op_assign rfl rfl) ?_; refine L.nil ?_; refine thenF_nor ?_; refine W.block ?_; have S2_hB1 := hB1; have S2_hE := hE; have S2_hF := hF; refine W.loopg (γ := Nat × Array α) (fun (g : Nat × Array α) (f : Fr) (w : World) => g.2.size = n ∧ g.1 ≤ n ∧ Sort.siftDown lt hi first g.1 g.2 = Sort.siftDown lt hi first lo d ∧ f 2 = (.int .i64 ((hi : Nat) : Int)) ∧ f 3 = (.int .i64 ((first : Nat) : Int)) ∧ f 4 = (.pointer (some ⟨b1, 0, none⟩)) ∧ f 8 = (.int .i64 ((g.1 : Nat) : Int)) ∧ Hld w blk off g.2 ∧ Far blk w1 w) (fun (g : Nat × Array α) => hi - g.1) (lo, d) ⟨hs, (by (try dsimp only); omega), rfl, rfl, rfl, rfl, rfl, hH, Far.refl _ _⟩ ?_; rintro ⟨root, dk⟩ f2 w2 ⟨hz2, hi1, heq, s2_2, s2_3, s2_4, s2_8, hH, hS2⟩; dsimp only at hz2 hi1 heq s2_2 s2_3 s2_4 s2_8 hH hS2; have hB1 := S2_hB1.farx hS2 ne1; have hE := S2_hE.trans hS2; have hF := S2_hF.trans hS2; refine W.block ?_; refine W.seq ?_; refine W.region (by rfl) ?_; refine L.val rfl (op_move rfl s2_8) ?_; refine L.val rfl (op_mulc (c := ((2 * root : Nat) : Int)) rfl rfl rfl (by omega) (by omega)) ?_; refine L.val rfl (op_add (c := (((2 * root) + 1 : Nat) : Int)) rfl rfl rfl (by omega) (by omega)) ?_; refine L.val rfl (op_assign rfl rfl) ?_; refine L.nil ?_; refine thenF_nor ?_; refine W.seq ?_; refine W.seq ?_; refine W.region (by rfl) ?_; refine L.val rfl (op_move rfl rfl) ?_; refine L.val rfl (op_move rfl s2_2) ?_; refine L.val rfl (op_geq rfl rfl rfl) ?_; refine L.nil ?_; refine thenF_nor ?_; refine W.cond (t := decide (((hi : Nat) : Int) ≤ (((2 * root) + 1 : Nat) : Int))) rfl (fun hc3 => ?_) (fun hc3 => ?_)
 ·have hp3 := of_decide_eq_true hc3; have hend : hi ≤ 2 * root + 1 := by simp only [decide_eq_true_eq] at hc3; omega
  refine W.exit ?_; refine thenF_exit ?_; refine blockF_miss rfl ?_; refine thenF_exit ?_; refine blockF_hit ?_; exact end_nor0 rfl ⟨rfl, by rw [← heq, sd_end lt dk hend]; exact hH, by rw [← heq, sd_end lt dk hend]; exact hz2, hE⟩
 ·have hp3 := of_decide_eq_false hc3; have hlt1 : 2 * root + 1 < hi := by simp only [decide_eq_false_iff_not] at hc3; omega
  have hszz : root < hi := by omega
  refine W.skip ?_; refine thenF_nor ?_; refine W.seq ?_; refine W.seq ?_; refine W.region (by rfl) ?_; refine L.val rfl (op_move rfl rfl) ?_; refine L.val rfl (op_add (c := ((((2 * root) + 1) + 1 : Nat) : Int)) rfl rfl rfl (by omega) (by omega)) ?_; refine L.val rfl (op_move rfl s2_2) ?_; refine L.val rfl (op_lss rfl rfl rfl) ?_; refine L.val rfl (op_move rfl rfl) ?_; refine L.guardv (v := (.pointer (some ⟨b1, 0, none⟩))) (wanted_yes rfl rfl rfl) (fun hg => (op_field rfl s2_4 fo126_0 rfl)) ?_; refine L.guardv (v := lv) (wanted_yes rfl rfl rfl) (fun hg => (op_load1 rfl ((show _ = vif _ (.pointer (some ⟨b1, 0, none⟩)) from rfl).trans (vif_t hg).symm) one77 (hB1.cells.one (n := 0) rfl))) ?_; refine L.guardv (v := (.int .i64 ((first : Nat) : Int))) (wanted_yes rfl rfl rfl) (fun hg => (op_move rfl s2_3)) ?_; refine L.guardv (v := (.int .i64 (((2 * root) + 1 : Nat) : Int))) (wanted_yes rfl rfl rfl) (fun hg => (op_move rfl rfl)) ?_; refine L.guardv (v := (.int .i64 ((first + ((2 * root) + 1) : Nat) : Int))) (wanted_yes rfl rfl rfl) (fun hg => by have hp := hg; simp only [Bool.and_eq_true, Bool.not_eq_true', decide_eq_true_eq, decide_eq_false_iff_not] at hp; exact (op_add (c := ((first + ((2 * root) + 1) : Nat) : Int)) rfl ((show _ = vif _ (.int .i64 ((first : Nat) : Int)) from rfl).trans (vif_t hg).symm) ((show _ = vif _ (.int .i64 (((2 * root) + 1 : Nat) : Int)) from rfl).trans (vif_t hg).symm) (by omega) (by omega))) ?_; refine L.guardv (v := (.int .i64 ((first : Nat) : Int))) (wanted_yes rfl rfl rfl) (fun hg => (op_move rfl s2_3)) ?_; refine L.guardv (v := (.int .i64 (((2 * root) + 1 : Nat) : Int))) (wanted_yes rfl rfl rfl) (fun hg => (op_move rfl rfl)) ?_; refine L.guardv (v := (.int .i64 ((first + ((2 * root) + 1) : Nat) : Int))) (wanted_yes rfl rfl rfl) (fun hg => by have hp := hg; simp only [Bool.and_eq_true, Bool.not_eq_true', decide_eq_true_eq, decide_eq_false_iff_not] at hp; exact (op_add (c := ((first + ((2 * root) + 1) : Nat) : Int)) rfl ((show _ = vif _ (.int .i64 ((first : Nat) : Int)) from rfl).trans (vif_t hg).symm) ((show _ = vif _ (.int .i64 (((2 * root) + 1 : Nat) : Int)) from rfl).trans (vif_t hg).symm) (by omega) (by omega))) ?_; refine L.guardv (v := (.int .i64 (((first + ((2 * root) + 1)) + 1 : Nat) : Int))) (wanted_yes rfl rfl rfl) (fun hg => by have hp := hg; simp only [Bool.and_eq_true, Bool.not_eq_true', decide_eq_true_eq, decide_eq_false_iff_not] at hp; exact (op_add (c := (((first + ((2 * root) + 1)) + 1 : Nat) : Int)) rfl ((show _ = vif _ (.int .i64 ((first + ((2 * root) + 1) : Nat) : Int)) from rfl).trans (vif_t hg).symm) rfl (by omega) (by omega))) ?_; refine L.guardc (v := (.bool (lt dk[first + ((2 * root) + 1)]! dk[(first + ((2 * root) + 1)) + 1]!))) (wanted_yes rfl rfl rfl) (fun hg => by have hp := hg; simp only [Bool.and_eq_true, Bool.not_eq_true', decide_eq_true_eq, decide_eq_false_iff_not] at hp; exact (op_less (i := first + ((2 * root) + 1)) (j := (first + ((2 * root) + 1)) + 1) hL hF hz2 hH rfl ((show _ = vif _ lv from rfl).trans (vif_t hg).symm) ((show _ = vif _ (.int .i64 ((first + ((2 * root) + 1) : Nat) : Int)) from rfl).trans (vif_t hg).symm) ((show _ = vif _ (.int .i64 (((first + ((2 * root) + 1)) + 1 : Nat) : Int)) from rfl).trans (vif_t hg).symm) rfl rfl (by omega) (by omega))) ?_; intro w4 hx4; have hE := hE.trans (hx4.far blk); have hF := hF.trans (hx4.far blk); have hS2 := hS2.trans (hx4.far blk); have hB1 := hB1.ext hx4; have hH := hH.ext hx4; refine L.val rfl (op_and rfl rfl rfl rfl) ?_; refine L.nil ?_; refine thenF_nor ?_; refine W.cond (t := (decide (((((2 * root) + 1) + 1 : Nat) : Int) < ((hi : Nat) : Int))) && (lt dk[first + ((2 * root) + 1)]! dk[(first + ((2 * root) + 1)) + 1]!)) rfl (fun hc5 => ?_) (fun hc5 => ?_)
  ·have hp5 := hc5; simp only [Bool.and_eq_true, Bool.not_eq_true', decide_eq_true_eq] at hp5; obtain ⟨hp5, hq5⟩ := hp5; have hr := hc5; simp only [Bool.and_eq_true, decide_eq_true_eq] at hr; obtain ⟨hr1, hr2⟩ := hr; have hlt2 : 2 * root + 2 < hi := by omega
   have hstop : lt dk[first + root]! dk[first + (2 * root + 1 + 1)]! = false → Sort.siftDown lt hi first root dk = dk := fun h3 => sd_right_stop lt dk hlt2 hr2 h3; have hgo : lt dk[first + root]! dk[first + (2 * root + 1 + 1)]! = true → Sort.siftDown lt hi first root dk = Sort.siftDown lt hi first (2 * root + 1 + 1) (swp dk (first + root) (first + (2 * root + 1 + 1))) := fun h3 => sd_right_go lt dk hlt2 hr2 h3; refine W.region (by rfl) ?_; refine L.val rfl (op_move rfl rfl) ?_; refine L.val rfl (op_add (c := ((((2 * root) + 1) + 1 : Nat) : Int)) rfl rfl rfl (by omega) (by omega)) ?_; refine L.val rfl (op_assign rfl rfl) ?_; refine L.nil ?_; refine thenF_nor ?_; refine W.seq ?_; refine W.seq ?_; refine W.region (by rfl) ?_; refine L.val rfl (op_field rfl s2_4 fo126_0 rfl) ?_; refine L.val rfl (op_load1 rfl rfl one77 (hB1.cells.one (n := 0) rfl)) ?_; refine L.val rfl (op_move rfl s2_3) ?_; refine L.val rfl (op_move rfl s2_8) ?_; refine L.val rfl (op_add (c := ((first + root : Nat) : Int)) rfl rfl rfl (by omega) (by omega)) ?_; refine L.val rfl (op_move rfl s2_3) ?_; refine L.val rfl (op_move rfl rfl) ?_; refine L.val rfl (op_add (c := ((first + (((2 * root) + 1) + 1) : Nat) : Int)) rfl rfl rfl (by omega) (by omega)) ?_; refine L.call (v := (.bool (lt dk[first + root]! dk[first + (((2 * root) + 1) + 1)]!))) rfl (op_less (i := first + root) (j := first + (((2 * root) + 1) + 1)) hL hF hz2 hH rfl rfl rfl rfl rfl rfl (by omega) (by omega)) ?_; intro w6 hx6; have hE := hE.trans (hx6.far blk); have hF := hF.trans (hx6.far blk); have hS2 := hS2.trans (hx6.far blk); have hB1 := hB1.ext hx6; have hH := hH.ext hx6; refine L.val rfl (op_not rfl rfl) ?_; refine L.nil ?_; refine thenF_nor ?_; refine W.cond (t := !(lt dk[first + root]! dk[first + (((2 * root) + 1) + 1)]!)) rfl (fun hc7 => ?_) (fun hc7 => ?_)
   ·have hp7 := hc7; have hlf := hc7; simp only [Bool.not_eq_true'] at hlf; refine W.ret ?_; refine thenF_ret ?_; refine blockF_ret ?_; refine thenF_ret ?_; refine blockF_ret ?_; exact end_ret0 rfl ⟨rfl, by rw [← heq, hstop hlf]; exact hH, by rw [← heq, hstop hlf]; exact hz2, hE⟩
   ·have hp7 := hc7; have hlt := hc7; simp only [Bool.not_eq_false'] at hlt; refine W.skip ?_; refine thenF_nor ?_; refine W.seq ?_; refine W.region (by rfl) ?_; refine L.val rfl (op_field rfl s2_4 fo126_1 rfl) ?_; refine L.val rfl (op_load1 rfl rfl one121 (hB1.cells.one (n := 1) rfl)) ?_; refine L.val rfl (op_move rfl s2_3) ?_; refine L.val rfl (op_move rfl s2_8) ?_; refine L.val rfl (op_add (c := ((first + root : Nat) : Int)) rfl rfl rfl (by omega) (by omega)) ?_; refine L.val rfl (op_move rfl s2_3) ?_; refine L.val rfl (op_move rfl rfl) ?_; refine L.val rfl (op_add (c := ((first + (((2 * root) + 1) + 1) : Nat) : Int)) rfl rfl rfl (by omega) (by omega)) ?_; refine L.step rfl (op_swap (i := first + root) (j := first + (((2 * root) + 1) + 1)) hS hz2 hH rfl rfl rfl rfl rfl rfl (by omega) (by omega)) ?_; rintro _ w8 ⟨hH8, hg8⟩; have hE := hE.trans hg8; have hF := hF.trans hg8; have hS2 := hS2.trans hg8; have hH := hH8; refine L.nil ?_; refine thenF_nor ?_; refine W.region (by rfl) ?_; refine L.val rfl (op_move rfl rfl) ?_; refine L.val rfl (op_assign rfl rfl) ?_; refine L.nil ?_; refine blockF_nor ?_; refine thenF_nor ?_; exact ⟨(((2 * root) + 1) + 1, (swp dk (first + root) (first + (((2 * root) + 1) + 1)))), ⟨((size_swp _ _ _).trans hz2), (by dsimp only; omega), (by dsimp only; rw [← heq, hgo hlt]), s2_2, s2_3, s2_4, rfl, hH, hS2⟩, (by dsimp only; omega)⟩
  ·have hp5 := hc5; have hr := hc5; simp only [Bool.and_eq_false_iff, decide_eq_false_iff_not] at hr; have hr2 : 2 * root + 2 < hi → lt dk[first + (2 * root + 1)]! dk[first + (2 * root + 2)]! = false := fun h => by rcases hr with h1 | h1; exact absurd h (by omega); exact h1
   have hstop : lt dk[first + root]! dk[first + (2 * root + 1)]! = false → Sort.siftDown lt hi first root dk = dk := fun h3 => sd_left_stop lt dk hlt1 hr2 h3; have hgo : lt dk[first + root]! dk[first + (2 * root + 1)]! = true → Sort.siftDown lt hi first root dk = Sort.siftDown lt hi first (2 * root + 1) (swp dk (first + root) (first + (2 * root + 1))) := fun h3 => sd_left_go lt dk hlt1 hr2 h3; refine W.skip ?_; refine thenF_nor ?_; refine W.seq ?_; refine W.seq ?_; refine W.region (by rfl) ?_; refine L.val rfl (op_field rfl s2_4 fo126_0 rfl) ?_; refine L.val rfl (op_load1 rfl rfl one77 (hB1.cells.one (n := 0) rfl)) ?_; refine L.val rfl (op_move rfl s2_3) ?_; refine L.val rfl (op_move rfl s2_8) ?_; refine L.val rfl (op_add (c := ((first + root : Nat) : Int)) rfl rfl rfl (by omega) (by omega)) ?_; refine L.val rfl (op_move rfl s2_3) ?_; refine L.val rfl (op_move rfl rfl) ?_; refine L.val rfl (op_add (c := ((first + ((2 * root) + 1) : Nat) : Int)) rfl rfl rfl (by omega) (by omega)) ?_; refine L.call (v := (.bool (lt dk[first + root]! dk[first + ((2 * root) + 1)]!))) rfl (op_less (i := first + root) (j := first + ((2 * root) + 1)) hL hF hz2 hH rfl rfl rfl rfl rfl rfl (by omega) (by omega)) ?_; intro w9 hx9; have hE := hE.trans (hx9.far blk); have hF := hF.trans (hx9.far blk); have hS2 := hS2.trans (hx9.far blk); have hB1 := hB1.ext hx9; have hH := hH.ext hx9; refine L.val rfl (op_not rfl rfl) ?_; refine L.nil ?_; refine thenF_nor ?_; refine W.cond (t := !(lt dk[first + root]! dk[first + ((2 * root) + 1)]!)) rfl (fun hc10 => ?_) (fun hc10 => ?_)
   ·have hp10 := hc10; have hlf := hc10; simp only [Bool.not_eq_true'] at hlf; refine W.ret ?_; refine thenF_ret ?_; refine blockF_ret ?_; refine thenF_ret ?_; refine blockF_ret ?_; exact end_ret0 rfl ⟨rfl, by rw [← heq, hstop hlf]; exact hH, by rw [← heq, hstop hlf]; exact hz2, hE⟩
   ·have hp10 := hc10; have hlt := hc10; simp only [Bool.not_eq_false'] at hlt; refine W.skip ?_; refine thenF_nor ?_; refine W.seq ?_; refine W.region (by rfl) ?_; refine L.val rfl (op_field rfl s2_4 fo126_1 rfl) ?_; refine L.val rfl (op_load1 rfl rfl one121 (hB1.cells.one (n := 1) rfl)) ?_; refine L.val rfl (op_move rfl s2_3) ?_; refine L.val rfl (op_move rfl s2_8) ?_; refine L.val rfl (op_add (c := ((first + root : Nat) : Int)) rfl rfl rfl (by omega) (by omega)) ?_; refine L.val rfl (op_move rfl s2_3) ?_; refine L.val rfl (op_move rfl rfl) ?_; refine L.val rfl (op_add (c := ((first + ((2 * root) + 1) : Nat) : Int)) rfl rfl rfl (by omega) (by omega)) ?_; refine L.step rfl (op_swap (i := first + root) (j := first + ((2 * root) + 1)) hS hz2 hH rfl rfl rfl rfl rfl rfl (by omega) (by omega)) ?_; rintro _ w11 ⟨hH11, hg11⟩; have hE := hE.trans hg11; have hF := hF.trans hg11; have hS2 := hS2.trans hg11; have hH := hH11; refine L.nil ?_; refine thenF_nor ?_; refine W.region (by rfl) ?_; refine L.val rfl (op_move rfl rfl) ?_; refine L.val rfl (op_assign rfl rfl) ?_; refine L.nil ?_; refine blockF_nor ?_; refine thenF_nor ?_; exact ⟨((2 * root) + 1, (swp dk (first + root) (first + ((2 * root) + 1)))), ⟨((size_swp _ _ _).trans hz2), (by dsimp only; omega), (by dsimp only; rw [← heq, hgo hlt]), s2_2, s2_3, s2_4, rfl, hH, hS2⟩, (by dsimp only; omega)⟩
set_option maxRecDepth 100000 in
theorem heapSort_ok {α : Type} [Enc α] [Inhabited α] {lt : α → α → Bool} {lv sv : Value} {blk off n : Nat} {w0 w : World} {d : Array α} {a b : Nat} (hL : LessOk Tryz.prog lt lv blk off n w0) (hS : SwapOk α Tryz.prog sv blk off n) (hF : Far blk w0 w) (hblk : blk < w.heap.size) (hn : n < 4611686018427387904) (hs : d.size = n) (hH : Hld w blk off d) (hab : a < b) (hb : b ≤ n) : Gives Tryz.prog 164 #[(.agg #[lv, sv]), (.int .i64 ((a : Nat) : Int)), (.int .i64 ((b : Nat) : Int))] w fun u w' => u = .tuple #[] ∧ Hld w' blk off (Sort.heapSort lt d a b) ∧ (Sort.heapSort lt d a b).size = n ∧ Far blk w w' := by
 have hE : Far blk w w := Far.refl blk w; refine gives_of_W Tryz.func164 rfl Tryz.ntmps164 rfl ?_; refine W.seq ?_; refine W.region (by rfl) ?_; refine L.step rfl (op_box (cs := [lv, sv]) rfl rfl rfl) ?_; rintro _ w1 ⟨b1, rfl, hb1, hB1, hx1⟩; have ne1 : b1 ≠ blk := by have := hE.size; omega
 have hE := hE.trans (hx1.far blk); have hF := hF.trans (hx1.far blk); have hH := hH.ext hx1; refine L.nil ?_; refine thenF_nor ?_; refine W.seq ?_; refine W.region (by rfl) ?_; refine L.val rfl (op_move rfl rfl) ?_; refine L.val rfl (op_assign rfl rfl) ?_; refine L.nil ?_; refine thenF_nor ?_; refine W.seq ?_; refine W.region (by rfl) ?_; refine L.val rfl (op_assign rfl rfl) ?_; refine L.nil ?_; refine thenF_nor ?_; refine W.seq ?_; refine W.region (by rfl) ?_; refine L.val rfl (op_move rfl rfl) ?_; refine L.val rfl (op_move rfl rfl) ?_; refine L.val rfl (op_sub (c := ((b - a : Nat) : Int)) rfl rfl rfl (by omega) (by omega)) ?_; refine L.val rfl (op_assign rfl rfl) ?_; refine L.nil ?_; refine thenF_nor ?_; refine W.seq ?_; refine W.seq ?_; refine W.region (by rfl) ?_; refine L.val rfl (op_move rfl rfl) ?_; refine L.val rfl (op_sub (c := (((b - a) - 1 : Nat) : Int)) rfl rfl rfl (by omega) (by omega)) ?_; refine L.val rfl (op_quoc (c := ((((b - a) - 1) / 2 : Nat) : Int)) rfl rfl rfl (by omega) (by omega) (by omega) (by omega)) ?_; refine L.val rfl (op_assign rfl rfl) ?_; refine L.nil ?_; refine thenF_nor ?_; refine W.block ?_; have S2_hB1 := hB1; have S2_hE := hE; have S2_hF := hF; refine W.loopg (γ := Nat × Array α) (fun (g : Nat × Array α) (f : Fr) (w : World) => g.2.size = n ∧ g.1 ≤ (b - a - 1) / 2 + 1 ∧ heapBuild lt (b - a) a g.1 g.2 = heapBuild lt (b - a) a ((b - a - 1) / 2 + 1) d ∧ f 3 = (.pointer (some ⟨b1, 0, none⟩)) ∧ f 6 = (.int .i64 ((a : Nat) : Int)) ∧ f 7 = (.int .i64 0) ∧ f 8 = (.int .i64 ((b - a : Nat) : Int)) ∧ f 9 = (.int .i64 (((g.1 : Nat) : Int) - 1)) ∧ Hld w blk off g.2 ∧ Far blk w1 w) (fun (g : Nat × Array α) => g.1) ((b - a - 1) / 2 + 1, d) ⟨hs, (by (try dsimp only); omega), rfl, rfl, rfl, rfl, rfl, (congrArg (Value.int .i64) (by omega)), hH, Far.refl _ _⟩ ?_; rintro ⟨k, dk⟩ f2 w2 ⟨hz2, hk1, hB, s2_3, s2_6, s2_7, s2_8, s2_9, hH, hS2⟩; dsimp only at hz2 hk1 hB s2_3 s2_6 s2_7 s2_8 s2_9 hH hS2; have hB1 := S2_hB1.farx hS2 ne1; have hE := S2_hE.trans hS2; have hF := S2_hF.trans hS2; refine W.seq ?_; refine W.seq ?_; refine W.region (by rfl) ?_; refine L.val rfl (op_move rfl s2_9) ?_; refine L.val rfl (op_geq rfl rfl rfl) ?_; refine L.nil ?_; refine thenF_nor ?_; refine W.cond (t := decide (0 ≤ (((k : Nat) : Int) - 1))) rfl (fun hc3 => ?_) (fun hc3 => ?_)
 ·have hp3 := of_decide_eq_true hc3; have hk0 := hc3; simp only [decide_eq_true_eq] at hk0; obtain ⟨k2, rfl⟩ : ∃ k2, k = k2 + 1 := ⟨k - 1, by omega⟩; refine W.skip ?_; refine thenF_nor ?_; refine W.seq ?_; refine W.block ?_; refine W.region (by rfl) ?_; refine L.val rfl (op_loadc (cs := [lv, sv]) rfl s2_3 ag126 si126 hB1.cells) ?_; refine L.val rfl (op_move rfl (s2_9.trans (show _ = Value.int .i64 ((k2 : Nat) : Int) from congrArg (Value.int .i64) (by omega)))) ?_; refine L.val rfl (op_move rfl s2_8) ?_; refine L.val rfl (op_move rfl s2_6) ?_; refine L.step rfl (OpS.call (op_call rfl (argsC rfl (argsC rfl (argsC rfl (argsC rfl argsN)))) Tryz.func185 rfl rfl) (siftDown_ok (lo := k2) (hi := b - a) (first := a) hL hS hF (Nat.lt_of_lt_of_le hblk hE.size) hn hz2 hH (by omega) (by omega))) ?_; rintro _ w4 ⟨rfl, hH4, hsz4, hg4⟩; have hE := hE.trans hg4; have hF := hF.trans hg4; have hS2 := hS2.trans hg4; have hH := hH4; obtain ⟨D4, hD4⟩ : ∃ D, D = Sort.siftDown lt (b - a) a k2 dk := ⟨_, rfl⟩; rw [← hD4] at hH; have hz4 : D4.size = n := by rw [hD4]; exact hsz4
  refine L.nil ?_; refine blockF_nor ?_; refine thenF_nor ?_; refine W.region (by rfl) ?_; refine L.val rfl (op_move rfl (s2_9.trans (show _ = Value.int .i64 ((k2 : Nat) : Int) from congrArg (Value.int .i64) (by omega)))) ?_; refine L.val rfl (op_sub rfl rfl rfl rfl (by omega)) ?_; refine L.val rfl (op_assign rfl rfl) ?_; refine L.nil ?_; refine thenF_nor ?_; exact ⟨(k2, D4), ⟨(hz4), (by dsimp only; omega), (by dsimp only; rw [← hB, hD4]; conv => rhs; rw [heapBuild]), s2_3, s2_6, s2_7, s2_8, rfl, hH, hS2⟩, (by dsimp only; omega)⟩
 ·have hp3 := of_decide_eq_false hc3; have hk0 := hc3; simp only [decide_eq_false_iff_not] at hk0; obtain rfl : k = 0 := by omega
  refine W.exit ?_; refine thenF_exit ?_; refine thenF_exit ?_; refine blockF_hit ?_; refine thenF_nor ?_; refine W.seq ?_; refine W.region (by rfl) ?_; refine L.val rfl (op_move rfl s2_8) ?_; refine L.val rfl (op_sub (c := (((b - a) - 1 : Nat) : Int)) rfl rfl rfl (by omega) (by omega)) ?_; refine L.val rfl (op_assign rfl rfl) ?_; refine L.nil ?_; refine thenF_nor ?_; refine W.block ?_; have S5_hB1 := hB1; have S5_hE := hE; have S5_hF := hF; refine W.loopg (γ := Nat × Array α) (fun (g : Nat × Array α) (f : Fr) (w : World) => g.2.size = n ∧ g.1 ≤ b - a ∧ heapPop lt a g.1 g.2 = heapPop lt a (b - a) (heapBuild lt (b - a) a ((b - a - 1) / 2 + 1) d) ∧ f 3 = (.pointer (some ⟨b1, 0, none⟩)) ∧ f 6 = (.int .i64 ((a : Nat) : Int)) ∧ f 7 = (.int .i64 0) ∧ f 10 = (.int .i64 (((g.1 : Nat) : Int) - 1)) ∧ Hld w blk off g.2 ∧ Far blk w2 w) (fun (g : Nat × Array α) => g.1) (b - a, dk) ⟨hz2, (by (try dsimp only); omega), (by rw [← hB, heapBuild]), s2_3, s2_6, s2_7, (congrArg (Value.int .i64) (by omega)), hH, Far.refl _ _⟩ ?_; rintro ⟨m, dj⟩ f5 w5 ⟨hz5, hk2, hP, s5_3, s5_6, s5_7, s5_10, hH, hS5⟩; dsimp only at hz5 hk2 hP s5_3 s5_6 s5_7 s5_10 hH hS5; have hB1 := S5_hB1.farx hS5 ne1; have hE := S5_hE.trans hS5; have hF := S5_hF.trans hS5; refine W.seq ?_; refine W.seq ?_; refine W.region (by rfl) ?_; refine L.val rfl (op_move rfl s5_10) ?_; refine L.val rfl (op_geq rfl rfl rfl) ?_; refine L.nil ?_; refine thenF_nor ?_; refine W.cond (t := decide (0 ≤ (((m : Nat) : Int) - 1))) rfl (fun hc6 => ?_) (fun hc6 => ?_)
  ·have hp6 := of_decide_eq_true hc6; have hk0 := hc6; simp only [decide_eq_true_eq] at hk0; obtain ⟨k2, rfl⟩ : ∃ k2, m = k2 + 1 := ⟨m - 1, by omega⟩; refine W.skip ?_; refine thenF_nor ?_; refine W.seq ?_; refine W.block ?_; refine W.seq ?_; refine W.region (by rfl) ?_; refine L.val rfl (op_field rfl s5_3 fo126_1 rfl) ?_; refine L.val rfl (op_load1 rfl rfl one121 (hB1.cells.one (n := 1) rfl)) ?_; refine L.val rfl (op_move rfl s5_6) ?_; refine L.val rfl (op_move rfl s5_6) ?_; refine L.val rfl (op_move rfl (s5_10.trans (show _ = Value.int .i64 ((k2 : Nat) : Int) from congrArg (Value.int .i64) (by omega)))) ?_; refine L.val rfl (op_add (c := ((a + k2 : Nat) : Int)) rfl rfl rfl (by omega) (by omega)) ?_; refine L.step rfl (op_swap (i := a) (j := a + k2) hS hz5 hH rfl rfl rfl rfl rfl rfl (by omega) (by omega)) ?_; rintro _ w7 ⟨hH7, hg7⟩; have hE := hE.trans hg7; have hF := hF.trans hg7; have hS5 := hS5.trans hg7; have hB1 := hB1.farx hg7 ne1; have hH := hH7; refine L.nil ?_; refine thenF_nor ?_; refine W.region (by rfl) ?_; refine L.val rfl (op_loadc (cs := [lv, sv]) rfl s5_3 ag126 si126 hB1.cells) ?_; refine L.val rfl (op_move rfl s5_7) ?_; refine L.val rfl (op_move rfl (s5_10.trans (show _ = Value.int .i64 ((k2 : Nat) : Int) from congrArg (Value.int .i64) (by omega)))) ?_; refine L.val rfl (op_move rfl s5_6) ?_; refine L.step rfl (OpS.call (op_call rfl (argsC rfl (argsC rfl (argsC rfl (argsC rfl argsN)))) Tryz.func185 rfl rfl) (siftDown_ok (lo := 0) (hi := k2) (first := a) hL hS hF (Nat.lt_of_lt_of_le hblk hE.size) hn ((size_swp _ _ _).trans hz5) hH (by omega) (by omega))) ?_; rintro _ w8 ⟨rfl, hH8, hsz8, hg8⟩; have hE := hE.trans hg8; have hF := hF.trans hg8; have hS5 := hS5.trans hg8; have hH := hH8; obtain ⟨D8, hD8⟩ : ∃ D, D = Sort.siftDown lt k2 a 0 (swp dj a (a + k2)) := ⟨_, rfl⟩; rw [← hD8] at hH; have hz8 : D8.size = n := by rw [hD8]; exact hsz8
   refine L.nil ?_; refine blockF_nor ?_; refine thenF_nor ?_; refine W.region (by rfl) ?_; refine L.val rfl (op_move rfl (s5_10.trans (show _ = Value.int .i64 ((k2 : Nat) : Int) from congrArg (Value.int .i64) (by omega)))) ?_; refine L.val rfl (op_sub rfl rfl rfl rfl (by omega)) ?_; refine L.val rfl (op_assign rfl rfl) ?_; refine L.nil ?_; refine thenF_nor ?_; exact ⟨(k2, D8), ⟨(hz8), (by dsimp only; omega), (by dsimp only; rw [← hP, hD8]; conv => rhs; rw [heapPop]), s5_3, s5_6, s5_7, rfl, hH, hS5⟩, (by dsimp only; omega)⟩
  ·have hp6 := of_decide_eq_false hc6; have hk0 := hc6; simp only [decide_eq_false_iff_not] at hk0; obtain rfl : m = 0 := by omega
   refine W.exit ?_; refine thenF_exit ?_; refine thenF_exit ?_; refine blockF_hit ?_; exact end_nor0 rfl ⟨rfl, by unfold Sort.heapSort; rw [← hP, heapPop]; exact hH, by unfold Sort.heapSort; rw [← hP, heapPop]; exact hz5, hE⟩
end Go.Proofs.YtdknjfmjddlphaaGreat
/-
  Contracts of functions of sort.Slice for a comparison that may lay blocks, each with its walk. Printed by a program of this session (wip/gen) from the translation.
-/
set_option linter.unusedSimpArgs false
set_option linter.unusedVariables false
namespace Go.Proofs.YtdknjfmjddlphaaGreat
open Go Go.Fk Go.Sort
set_option maxRecDepth 100000 in
theorem partitionEqual_ok {α : Type} [Enc α] [Inhabited α] {lt : α → α → Bool} {lv sv : Value} {blk off n : Nat} {w0 w : World} {d : Array α} {a b pivot : Nat} (hL : LessOk Tryz.prog lt lv blk off n w0) (hS : SwapOk α Tryz.prog sv blk off n) (hF : Far blk w0 w) (hblk : blk < w.heap.size) (hn : n < 4611686018427387904) (hs : d.size = n) (hH : Hld w blk off d) (hp1 : a ≤ pivot) (hp2 : pivot < b) (hb : b ≤ n) : Gives Tryz.prog 169 #[(.agg #[lv, sv]), (.int .i64 ((a : Nat) : Int)), (.int .i64 ((b : Nat) : Int)), (.int .i64 ((pivot : Nat) : Int))] w fun u w' => u = .int .i64 (((Sort.partitionEqual lt d a b pivot).1 : Nat) : Int) ∧ Hld w' blk off (Sort.partitionEqual lt d a b pivot).2 ∧ (Sort.partitionEqual lt d a b pivot).2.size = n ∧ Far blk w w' := by
 have hE : Far blk w w := Far.refl blk w; refine gives_of_W Tryz.func169 rfl Tryz.ntmps169 rfl ?_; refine W.seq ?_; refine W.region (by rfl) ?_; refine L.step rfl (op_box (cs := [lv, sv]) rfl rfl rfl) ?_; rintro _ w1 ⟨b1, rfl, hb1, hB1, hx1⟩; have ne1 : b1 ≠ blk := by have := hE.size; omega
 have hE := hE.trans (hx1.far blk); have hF := hF.trans (hx1.far blk); have hH := hH.ext hx1; refine L.val rfl (op_assign rfl rfl) ?_; refine L.nil ?_; refine thenF_nor ?_; refine W.seq ?_; refine W.region (by rfl) ?_; refine L.val rfl (op_field rfl rfl fo126_1 rfl) ?_; refine L.val rfl (op_load1 rfl rfl one121 (hB1.cells.one (n := 1) rfl)) ?_; refine L.val rfl (op_move rfl rfl) ?_; refine L.val rfl (op_move rfl rfl) ?_; refine L.step rfl (op_swap (i := a) (j := pivot) hS hs hH rfl rfl rfl rfl rfl rfl (by omega) (by omega)) ?_; rintro _ w2 ⟨hH2, hg2⟩; have hE := hE.trans hg2; have hF := hF.trans hg2; have hB1 := hB1.farx hg2 ne1; have hH := hH2; refine L.nil ?_; refine thenF_nor ?_; refine W.seq ?_; refine W.region (by rfl) ?_; refine L.val rfl (op_move rfl rfl) ?_; refine L.val rfl (op_add (c := ((a + 1 : Nat) : Int)) rfl rfl rfl (by omega) (by omega)) ?_; refine L.val rfl (op_move rfl rfl) ?_; refine L.val rfl (op_sub (c := ((b - 1 : Nat) : Int)) rfl rfl rfl (by omega) (by omega)) ?_; refine L.val rfl (op_assign rfl rfl) ?_; refine L.val rfl (op_assign rfl rfl) ?_; refine L.nil ?_; refine thenF_nor ?_; refine W.seq ?_; refine W.block ?_; have S3_hB1 := hB1; have S3_hE := hE; have S3_hF := hF; refine W.loopg (γ := Nat × Nat × Array α) (fun (g : Nat × Nat × Array α) (f : Fr) (w : World) => g.2.2.size = n ∧ a < g.1 ∧ g.1 ≤ g.2.1 + 1 ∧ g.2.1 < b ∧ partEqLoop lt a g.1 g.2.1 g.2.2 = partEqLoop lt a (a + 1) (b - 1) (swp d a pivot) ∧ f 1 = (.int .i64 ((a : Nat) : Int)) ∧ f 4 = (.pointer (some ⟨b1, 0, none⟩)) ∧ f 8 = (.int .i64 0) ∧ f 9 = (.int .i64 ((g.1 : Nat) : Int)) ∧ f 10 = (.int .i64 ((g.2.1 : Nat) : Int)) ∧ Hld w blk off g.2.2 ∧ Far blk w2 w) (fun (g : Nat × Nat × Array α) => g.2.1 + 1 - g.1) (a + 1, b - 1, (swp d a pivot)) ⟨((size_swp _ _ _).trans hs), (by (try dsimp only); omega), (by (try dsimp only); omega), (by (try dsimp only); omega), rfl, rfl, rfl, rfl, rfl, rfl, hH, Far.refl _ _⟩ ?_; rintro ⟨i, j, dk⟩ f3 w3 ⟨hz3, hi1, hij, hjb, heq, s3_1, s3_4, s3_8, s3_9, s3_10, hH, hS3⟩; dsimp only at hz3 hi1 hij hjb heq s3_1 s3_4 s3_8 s3_9 s3_10 hH hS3; have hB1 := S3_hB1.farx hS3 ne1; have hE := S3_hE.trans hS3; have hF := S3_hF.trans hS3; refine W.block ?_; refine W.seq ?_; refine W.block ?_; have S4_hB1 := hB1; have S4_hS3 := hS3; have S4_hE := hE; have S4_hF := hF; refine W.loopg (γ := Nat) (fun (i2 : Nat) (f : Fr) (w : World) => dk.size = n ∧ i ≤ i2 ∧ i2 ≤ j + 1 ∧ scanUp (fun x => !lt dk[a]! x) dk j i2 = scanUp (fun x => !lt dk[a]! x) dk j i ∧ f 1 = (.int .i64 ((a : Nat) : Int)) ∧ f 4 = (.pointer (some ⟨b1, 0, none⟩)) ∧ f 8 = (.int .i64 0) ∧ f 10 = (.int .i64 ((j : Nat) : Int)) ∧ f 9 = (.int .i64 ((i2 : Nat) : Int)) ∧ Hld w blk off dk ∧ Far blk w3 w) (fun (i2 : Nat) => j + 1 - i2) i ⟨hz3, (by (try dsimp only); omega), (by (try dsimp only); omega), rfl, s3_1, s3_4, s3_8, s3_10, s3_9, hH, Far.refl _ _⟩ ?_; rintro i2 f4 w4 ⟨hz4, hUa, hUb, hU, s4_1, s4_4, s4_8, s4_10, s4_9, hH, hS4⟩; have hB1 := S4_hB1.farx hS4 ne1; have hS3 := S4_hS3.trans hS4; have hE := S4_hE.trans hS4; have hF := S4_hF.trans hS4; refine W.seq ?_; refine W.seq ?_; refine W.region (by rfl) ?_; refine L.val rfl (op_move rfl s4_9) ?_; refine L.val rfl (op_move rfl s4_10) ?_; refine L.val rfl (op_leq rfl rfl rfl) ?_; refine L.val rfl (op_move rfl rfl) ?_; refine L.guardv (v := (.pointer (some ⟨b1, 0, none⟩))) (wanted_yes rfl rfl rfl) (fun hg => (op_field rfl s4_4 fo126_0 rfl)) ?_; refine L.guardv (v := lv) (wanted_yes rfl rfl rfl) (fun hg => (op_load1 rfl ((show _ = vif _ (.pointer (some ⟨b1, 0, none⟩)) from rfl).trans (vif_t hg).symm) one77 (hB1.cells.one (n := 0) rfl))) ?_; refine L.guardv (v := (.int .i64 ((a : Nat) : Int))) (wanted_yes rfl rfl rfl) (fun hg => (op_move rfl s4_1)) ?_; refine L.guardv (v := (.int .i64 ((i2 : Nat) : Int))) (wanted_yes rfl rfl rfl) (fun hg => (op_move rfl s4_9)) ?_; refine L.guardc (v := (.bool (lt dk[a]! dk[i2]!))) (wanted_yes rfl rfl rfl) (fun hg => by have hp := hg; simp only [Bool.and_eq_true, Bool.not_eq_true', decide_eq_true_eq, decide_eq_false_iff_not] at hp; exact (op_less (i := a) (j := i2) hL hF hz4 hH rfl ((show _ = vif _ lv from rfl).trans (vif_t hg).symm) ((show _ = vif _ (.int .i64 ((a : Nat) : Int)) from rfl).trans (vif_t hg).symm) ((show _ = vif _ (.int .i64 ((i2 : Nat) : Int)) from rfl).trans (vif_t hg).symm) rfl rfl (by omega) (by omega))) ?_; intro w5 hx5; have hE := hE.trans (hx5.far blk); have hF := hF.trans (hx5.far blk); have hS3 := hS3.trans (hx5.far blk); have hS4 := hS4.trans (hx5.far blk); have hB1 := hB1.ext hx5; have hH := hH.ext hx5; refine L.guardv (v := (.bool (!(lt dk[a]! dk[i2]!)))) (wanted_yes rfl rfl rfl) (fun hg => (op_not rfl ((show _ = vif _ (.bool (lt dk[a]! dk[i2]!)) from rfl).trans (vif_t hg).symm))) ?_; refine L.val rfl (op_and rfl rfl rfl rfl) ?_; refine L.nil ?_; refine thenF_nor ?_; refine W.cond (t := (decide (((i2 : Nat) : Int) ≤ ((j : Nat) : Int))) && (!(lt dk[a]! dk[i2]!))) rfl (fun hc6 => ?_) (fun hc6 => ?_)
 ·have hp6 := hc6; simp only [Bool.and_eq_true, Bool.not_eq_true', decide_eq_true_eq] at hp6; obtain ⟨hp6, hq6⟩ := hp6; have hUh := hc6; simp only [Bool.and_eq_true, decide_eq_true_eq] at hUh; obtain ⟨hUh1, hUh2⟩ := hUh; have hUh1 : i2 ≤ j := by omega
  refine W.skip ?_; refine thenF_nor ?_; refine W.block ?_; refine W.region (by rfl) ?_; refine L.val rfl (op_move rfl s4_9) ?_; refine L.val rfl (op_add (c := ((i2 + 1 : Nat) : Int)) rfl rfl rfl (by omega) (by omega)) ?_; refine L.val rfl (op_assign rfl rfl) ?_; refine L.nil ?_; refine blockF_nor ?_; refine thenF_nor ?_; exact ⟨i2 + 1, ⟨hz4, (by (try dsimp only); omega), (by (try dsimp only); omega), (by rw [← hU, scanUp_go _ _ _ _ hUh1 hUh2]), s4_1, s4_4, s4_8, s4_10, rfl, hH, hS4⟩, (by (try dsimp only); omega)⟩
 ·have hp6 := hc6
  have hi2 : i2 = scanUp (fun x => !lt dk[a]! x) dk j i := by
   rw [← hU]
   refine (scanUp_end _ _ _ _ ?_).symm
   have h := hc6
   simp only [Bool.and_eq_false_iff, decide_eq_false_iff_not] at h
   rcases h with h | h
   · exact Or.inl (by omega)
   · exact Or.inr h
  refine W.exit ?_; refine thenF_exit ?_; refine thenF_exit ?_; refine blockF_hit ?_; refine thenF_nor ?_; refine W.seq ?_; refine W.block ?_; have S7_hB1 := hB1; have S7_hS3 := hS3; have S7_hE := hE; have S7_hF := hF; refine W.loopg (γ := Nat) (fun (j2 : Nat) (f : Fr) (w : World) => dk.size = n ∧ j2 ≤ j ∧ i2 ≤ j2 + 1 ∧ scanDown (fun x => lt dk[a]! x) dk i2 j2 = scanDown (fun x => lt dk[a]! x) dk i2 j ∧ f 1 = (.int .i64 ((a : Nat) : Int)) ∧ f 4 = (.pointer (some ⟨b1, 0, none⟩)) ∧ f 8 = (.int .i64 0) ∧ f 9 = (.int .i64 ((i2 : Nat) : Int)) ∧ f 20 = (.int .i64 ((i2 : Nat) : Int)) ∧ f 21 = (.int .i64 ((j : Nat) : Int)) ∧ f 22 = (.bool (decide (((i2 : Nat) : Int) ≤ ((j : Nat) : Int)))) ∧ f 23 = (.bool (decide (((i2 : Nat) : Int) ≤ ((j : Nat) : Int)))) ∧ f 24 = (vif (decide (((i2 : Nat) : Int) ≤ ((j : Nat) : Int))) (.pointer (some ⟨b1, 0, none⟩))) ∧ f 25 = (vif (decide (((i2 : Nat) : Int) ≤ ((j : Nat) : Int))) lv) ∧ f 26 = (vif (decide (((i2 : Nat) : Int) ≤ ((j : Nat) : Int))) (.int .i64 ((a : Nat) : Int))) ∧ f 27 = (vif (decide (((i2 : Nat) : Int) ≤ ((j : Nat) : Int))) (.int .i64 ((i2 : Nat) : Int))) ∧ f 28 = (vif (decide (((i2 : Nat) : Int) ≤ ((j : Nat) : Int))) (.bool (lt dk[a]! dk[i2]!))) ∧ f 29 = (vif (decide (((i2 : Nat) : Int) ≤ ((j : Nat) : Int))) (.bool (!(lt dk[a]! dk[i2]!)))) ∧ f 30 = (.bool ((decide (((i2 : Nat) : Int) ≤ ((j : Nat) : Int))) && (!(lt dk[a]! dk[i2]!)))) ∧ f 10 = (.int .i64 ((j2 : Nat) : Int)) ∧ Hld w blk off dk ∧ Far blk w5 w) (fun (j2 : Nat) => j2) j ⟨hz4, (by (try dsimp only); omega), (by (try dsimp only); omega), rfl, s4_1, s4_4, s4_8, s4_9, rfl, rfl, rfl, rfl, rfl, rfl, rfl, rfl, rfl, rfl, rfl, s4_10, hH, Far.refl _ _⟩ ?_; rintro j2 f7 w7 ⟨hz7, hDa, hDb, hD, s7_1, s7_4, s7_8, s7_9, s7_20, s7_21, s7_22, s7_23, s7_24, s7_25, s7_26, s7_27, s7_28, s7_29, s7_30, s7_10, hH, hS7⟩; have hB1 := S7_hB1.farx hS7 ne1; have hS3 := S7_hS3.trans hS7; have hE := S7_hE.trans hS7; have hF := S7_hF.trans hS7; refine W.seq ?_; refine W.seq ?_; refine W.region (by rfl) ?_; refine L.val rfl (op_move rfl s7_9) ?_; refine L.val rfl (op_move rfl s7_10) ?_; refine L.val rfl (op_leq rfl rfl rfl) ?_; refine L.val rfl (op_move rfl rfl) ?_; refine L.guardv (v := (.pointer (some ⟨b1, 0, none⟩))) (wanted_yes rfl rfl rfl) (fun hg => (op_field rfl s7_4 fo126_0 rfl)) ?_; refine L.guardv (v := lv) (wanted_yes rfl rfl rfl) (fun hg => (op_load1 rfl ((show _ = vif _ (.pointer (some ⟨b1, 0, none⟩)) from rfl).trans (vif_t hg).symm) one77 (hB1.cells.one (n := 0) rfl))) ?_; refine L.guardv (v := (.int .i64 ((a : Nat) : Int))) (wanted_yes rfl rfl rfl) (fun hg => (op_move rfl s7_1)) ?_; refine L.guardv (v := (.int .i64 ((j2 : Nat) : Int))) (wanted_yes rfl rfl rfl) (fun hg => (op_move rfl s7_10)) ?_; refine L.guardc (v := (.bool (lt dk[a]! dk[j2]!))) (wanted_yes rfl rfl rfl) (fun hg => by have hp := hg; simp only [Bool.and_eq_true, Bool.not_eq_true', decide_eq_true_eq, decide_eq_false_iff_not] at hp; exact (op_less (i := a) (j := j2) hL hF hz7 hH rfl ((show _ = vif _ lv from rfl).trans (vif_t hg).symm) ((show _ = vif _ (.int .i64 ((a : Nat) : Int)) from rfl).trans (vif_t hg).symm) ((show _ = vif _ (.int .i64 ((j2 : Nat) : Int)) from rfl).trans (vif_t hg).symm) rfl rfl (by omega) (by omega))) ?_; intro w8 hx8; have hE := hE.trans (hx8.far blk); have hF := hF.trans (hx8.far blk); have hS3 := hS3.trans (hx8.far blk); have hS7 := hS7.trans (hx8.far blk); have hB1 := hB1.ext hx8; have hH := hH.ext hx8; refine L.val rfl (op_and rfl rfl rfl rfl) ?_; refine L.nil ?_; refine thenF_nor ?_; refine W.cond (t := (decide (((i2 : Nat) : Int) ≤ ((j2 : Nat) : Int))) && (lt dk[a]! dk[j2]!)) rfl (fun hc9 => ?_) (fun hc9 => ?_)
  ·have hp9 := hc9; simp only [Bool.and_eq_true, Bool.not_eq_true', decide_eq_true_eq] at hp9; obtain ⟨hp9, hq9⟩ := hp9; have hDh := hc9; simp only [Bool.and_eq_true, decide_eq_true_eq] at hDh; obtain ⟨hDh1, hDh2⟩ := hDh; have hDh1 : i2 ≤ j2 := by omega
   refine W.skip ?_; refine thenF_nor ?_; refine W.block ?_; refine W.region (by rfl) ?_; refine L.val rfl (op_move rfl s7_10) ?_; refine L.val rfl (op_sub (c := ((j2 - 1 : Nat) : Int)) rfl rfl rfl (by omega) (by omega)) ?_; refine L.val rfl (op_assign rfl rfl) ?_; refine L.nil ?_; refine blockF_nor ?_; refine thenF_nor ?_; exact ⟨j2 - 1, ⟨hz7, (by (try dsimp only); omega), (by (try dsimp only); omega), (by rw [← hD, scanDown_go _ _ _ _ hDh1 (by omega) hDh2]), s7_1, s7_4, s7_8, s7_9, s7_20, s7_21, s7_22, s7_23, s7_24, s7_25, s7_26, s7_27, s7_28, s7_29, s7_30, rfl, hH, hS7⟩, (by (try dsimp only); omega)⟩
  ·have hp9 := hc9
   have hj2 : j2 = scanDown (fun x => lt dk[a]! x) dk i2 j := by
    rw [← hD]
    refine (scanDown_end _ _ _ _ ?_).symm
    have h := hc9
    simp only [Bool.and_eq_false_iff, decide_eq_false_iff_not] at h
    rcases h with h | h
    · exact Or.inl (by omega)
    · exact Or.inr h
   refine W.exit ?_; refine thenF_exit ?_; refine thenF_exit ?_; refine blockF_hit ?_; refine thenF_nor ?_; refine W.seq ?_; refine W.seq ?_; refine W.region (by rfl) ?_; refine L.val rfl (op_move rfl s7_9) ?_; refine L.val rfl (op_move rfl s7_10) ?_; refine L.val rfl (op_gtr rfl rfl rfl) ?_; refine L.nil ?_; refine thenF_nor ?_; refine W.cond (t := decide (((j2 : Nat) : Int) < ((i2 : Nat) : Int))) rfl (fun hc10 => ?_) (fun hc10 => ?_)
   ·have hp10 := of_decide_eq_true hc10; have hbr : j2 < i2 := by have h := hc10; simp only [decide_eq_true_eq] at h; omega
    have hres : Sort.partitionEqual lt d a b pivot = (i2, dk) := by unfold Sort.partitionEqual; rw [← heq, partEq_break lt a i j dk hi2 hj2 hbr]
    refine W.exit ?_; refine thenF_exit ?_; refine blockF_miss rfl ?_; refine thenF_exit ?_; refine blockF_hit ?_; refine thenF_nor ?_; refine W.seq ?_; refine W.region (by rfl) ?_; refine L.val rfl (op_move rfl s7_9) ?_; refine L.val rfl (op_assign rfl rfl) ?_; refine L.nil ?_; refine thenF_nor ?_; refine W.ret ?_; exact end_ret1 (v := (.int .i64 ((i2 : Nat) : Int))) rfl rfl ⟨by rw [hres], by rw [hres]; exact hH, by rw [hres]; exact hz7, hE⟩
   ·have hp10 := of_decide_eq_false hc10; have hbr : i2 ≤ j2 := by have h := hc10; simp only [decide_eq_false_iff_not] at h; omega
    have hlt2 : i2 < j2 := scans_lt lt a i j dk (by omega) hi2 hj2 hbr; have hgo := partEq_go lt a i j dk hi2 hj2 (by omega); refine W.skip ?_; refine thenF_nor ?_; refine W.seq ?_; refine W.region (by rfl) ?_; refine L.val rfl (op_field rfl s7_4 fo126_1 rfl) ?_; refine L.val rfl (op_load1 rfl rfl one121 (hB1.cells.one (n := 1) rfl)) ?_; refine L.val rfl (op_move rfl s7_9) ?_; refine L.val rfl (op_move rfl s7_10) ?_; refine L.step rfl (op_swap (i := i2) (j := j2) hS hz7 hH rfl rfl rfl rfl rfl rfl (by omega) (by omega)) ?_; rintro _ w11 ⟨hH11, hg11⟩; have hE := hE.trans hg11; have hF := hF.trans hg11; have hS3 := hS3.trans hg11; have hH := hH11; refine L.nil ?_; refine thenF_nor ?_; refine W.seq ?_; refine W.region (by rfl) ?_; refine L.val rfl (op_move rfl s7_9) ?_; refine L.val rfl (op_add (c := ((i2 + 1 : Nat) : Int)) rfl rfl rfl (by omega) (by omega)) ?_; refine L.val rfl (op_assign rfl rfl) ?_; refine L.nil ?_; refine thenF_nor ?_; refine W.region (by rfl) ?_; refine L.val rfl (op_move rfl s7_10) ?_; refine L.val rfl (op_sub (c := ((j2 - 1 : Nat) : Int)) rfl rfl rfl (by omega) (by omega)) ?_; refine L.val rfl (op_assign rfl rfl) ?_; refine L.nil ?_; refine blockF_nor ?_; refine thenF_nor ?_; exact ⟨(i2 + 1, j2 - 1, (swp dk i2 j2)), ⟨((size_swp _ _ _).trans hz7), (by dsimp only; omega), (by dsimp only; omega), (by dsimp only; omega), (by dsimp only; rw [← heq, hgo]), s7_1, s7_4, s7_8, rfl, rfl, hH, hS3⟩, (by dsimp only; omega)⟩
set_option maxRecDepth 100000 in
theorem partition_ok {α : Type} [Enc α] [Inhabited α] {lt : α → α → Bool} {lv sv : Value} {blk off n : Nat} {w0 w : World} {d : Array α} {a b pivot : Nat} (hL : LessOk Tryz.prog lt lv blk off n w0) (hS : SwapOk α Tryz.prog sv blk off n) (hF : Far blk w0 w) (hblk : blk < w.heap.size) (hn : n < 4611686018427387904) (hs : d.size = n) (hH : Hld w blk off d) (hp1 : a ≤ pivot) (hp2 : pivot < b) (hb : b ≤ n) : Gives Tryz.prog 170 #[(.agg #[lv, sv]), (.int .i64 ((a : Nat) : Int)), (.int .i64 ((b : Nat) : Int)), (.int .i64 ((pivot : Nat) : Int))] w fun u w' => u = .tuple #[.int .i64 (((Sort.partition lt d a b pivot).1 : Nat) : Int), .bool (Sort.partition lt d a b pivot).2.1] ∧ Hld w' blk off (Sort.partition lt d a b pivot).2.2 ∧ (Sort.partition lt d a b pivot).2.2.size = n ∧ Far blk w w' := by
 have hE : Far blk w w := Far.refl blk w; refine gives_of_W Tryz.func170 rfl Tryz.ntmps170 rfl ?_; refine W.seq ?_; refine W.region (by rfl) ?_; refine L.step rfl (op_box (cs := [lv, sv]) rfl rfl rfl) ?_; rintro _ w1 ⟨b1, rfl, hb1, hB1, hx1⟩; have ne1 : b1 ≠ blk := by have := hE.size; omega
 have hE := hE.trans (hx1.far blk); have hF := hF.trans (hx1.far blk); have hH := hH.ext hx1; refine L.val rfl (op_assign rfl rfl) ?_; refine L.val rfl (op_assign rfl rfl) ?_; refine L.nil ?_; refine thenF_nor ?_; refine W.seq ?_; refine W.region (by rfl) ?_; refine L.val rfl (op_field rfl rfl fo126_1 rfl) ?_; refine L.val rfl (op_load1 rfl rfl one121 (hB1.cells.one (n := 1) rfl)) ?_; refine L.val rfl (op_move rfl rfl) ?_; refine L.val rfl (op_move rfl rfl) ?_; refine L.step rfl (op_swap (i := a) (j := pivot) hS hs hH rfl rfl rfl rfl rfl rfl (by omega) (by omega)) ?_; rintro _ w2 ⟨hH2, hg2⟩; have hE := hE.trans hg2; have hF := hF.trans hg2; have hB1 := hB1.farx hg2 ne1; have hH := hH2; refine L.nil ?_; refine thenF_nor ?_; refine W.seq ?_; refine W.region (by rfl) ?_; refine L.val rfl (op_move rfl rfl) ?_; refine L.val rfl (op_add (c := ((a + 1 : Nat) : Int)) rfl rfl rfl (by omega) (by omega)) ?_; refine L.val rfl (op_move rfl rfl) ?_; refine L.val rfl (op_sub (c := ((b - 1 : Nat) : Int)) rfl rfl rfl (by omega) (by omega)) ?_; refine L.val rfl (op_assign rfl rfl) ?_; refine L.val rfl (op_assign rfl rfl) ?_; refine L.nil ?_; refine thenF_nor ?_; refine W.seq ?_; refine W.block ?_; have S3_hB1 := hB1; have S3_hE := hE; have S3_hF := hF; refine W.loopg (γ := Nat) (fun (i1 : Nat) (f : Fr) (w : World) => (swp d a pivot).size = n ∧ a + 1 ≤ i1 ∧ i1 ≤ (b - 1) + 1 ∧ scanUp (fun x => lt x (swp d a pivot)[a]!) (swp d a pivot) (b - 1) i1 = scanUp (fun x => lt x (swp d a pivot)[a]!) (swp d a pivot) (b - 1) (a + 1) ∧ f 1 = (.int .i64 ((a : Nat) : Int)) ∧ f 4 = (.pointer (some ⟨b1, 0, none⟩)) ∧ f 8 = (.int .i64 0) ∧ f 9 = (.bool false) ∧ f 11 = (.int .i64 ((b - 1 : Nat) : Int)) ∧ f 10 = (.int .i64 ((i1 : Nat) : Int)) ∧ Hld w blk off (swp d a pivot) ∧ Far blk w2 w) (fun (i1 : Nat) => (b - 1) + 1 - i1) (a + 1) ⟨((size_swp _ _ _).trans hs), (by (try dsimp only); omega), (by (try dsimp only); omega), rfl, rfl, rfl, rfl, rfl, rfl, rfl, hH, Far.refl _ _⟩ ?_; rintro i1 f3 w3 ⟨hz3, hUa, hUb, hU, s3_1, s3_4, s3_8, s3_9, s3_11, s3_10, hH, hS3⟩; have hB1 := S3_hB1.farx hS3 ne1; have hE := S3_hE.trans hS3; have hF := S3_hF.trans hS3; refine W.seq ?_; refine W.seq ?_; refine W.region (by rfl) ?_; refine L.val rfl (op_move rfl s3_10) ?_; refine L.val rfl (op_move rfl s3_11) ?_; refine L.val rfl (op_leq rfl rfl rfl) ?_; refine L.val rfl (op_move rfl rfl) ?_; refine L.guardv (v := (.pointer (some ⟨b1, 0, none⟩))) (wanted_yes rfl rfl rfl) (fun hg => (op_field rfl s3_4 fo126_0 rfl)) ?_; refine L.guardv (v := lv) (wanted_yes rfl rfl rfl) (fun hg => (op_load1 rfl ((show _ = vif _ (.pointer (some ⟨b1, 0, none⟩)) from rfl).trans (vif_t hg).symm) one77 (hB1.cells.one (n := 0) rfl))) ?_; refine L.guardv (v := (.int .i64 ((i1 : Nat) : Int))) (wanted_yes rfl rfl rfl) (fun hg => (op_move rfl s3_10)) ?_; refine L.guardv (v := (.int .i64 ((a : Nat) : Int))) (wanted_yes rfl rfl rfl) (fun hg => (op_move rfl s3_1)) ?_; refine L.guardc (v := (.bool (lt (swp d a pivot)[i1]! (swp d a pivot)[a]!))) (wanted_yes rfl rfl rfl) (fun hg => by have hp := hg; simp only [Bool.and_eq_true, Bool.not_eq_true', decide_eq_true_eq, decide_eq_false_iff_not] at hp; exact (op_less (i := i1) (j := a) hL hF hz3 hH rfl ((show _ = vif _ lv from rfl).trans (vif_t hg).symm) ((show _ = vif _ (.int .i64 ((i1 : Nat) : Int)) from rfl).trans (vif_t hg).symm) ((show _ = vif _ (.int .i64 ((a : Nat) : Int)) from rfl).trans (vif_t hg).symm) rfl rfl (by omega) (by omega))) ?_; intro w4 hx4; have hE := hE.trans (hx4.far blk); have hF := hF.trans (hx4.far blk); have hS3 := hS3.trans (hx4.far blk); have hB1 := hB1.ext hx4; have hH := hH.ext hx4; refine L.val rfl (op_and rfl rfl rfl rfl) ?_; refine L.nil ?_; refine thenF_nor ?_; refine W.cond (t := (decide (((i1 : Nat) : Int) ≤ ((b - 1 : Nat) : Int))) && (lt (swp d a pivot)[i1]! (swp d a pivot)[a]!)) rfl (fun hc5 => ?_) (fun hc5 => ?_)
 ·have hp5 := hc5; simp only [Bool.and_eq_true, Bool.not_eq_true', decide_eq_true_eq] at hp5; obtain ⟨hp5, hq5⟩ := hp5; have hUh := hc5; simp only [Bool.and_eq_true, decide_eq_true_eq] at hUh; obtain ⟨hUh1, hUh2⟩ := hUh; have hUh1 : i1 ≤ (b - 1) := by omega
  refine W.skip ?_; refine thenF_nor ?_; refine W.block ?_; refine W.region (by rfl) ?_; refine L.val rfl (op_move rfl s3_10) ?_; refine L.val rfl (op_add (c := ((i1 + 1 : Nat) : Int)) rfl rfl rfl (by omega) (by omega)) ?_; refine L.val rfl (op_assign rfl rfl) ?_; refine L.nil ?_; refine blockF_nor ?_; refine thenF_nor ?_; exact ⟨i1 + 1, ⟨hz3, (by (try dsimp only); omega), (by (try dsimp only); omega), (by rw [← hU, scanUp_go _ _ _ _ hUh1 hUh2]), s3_1, s3_4, s3_8, s3_9, s3_11, rfl, hH, hS3⟩, (by (try dsimp only); omega)⟩
 ·have hp5 := hc5
  have hi1e : i1 = scanUp (fun x => lt x (swp d a pivot)[a]!) (swp d a pivot) (b - 1) (a + 1) := by
   rw [← hU]
   refine (scanUp_end _ _ _ _ ?_).symm
   have h := hc5
   simp only [Bool.and_eq_false_iff, decide_eq_false_iff_not] at h
   rcases h with h | h
   · exact Or.inl (by omega)
   · exact Or.inr h
  refine W.exit ?_; refine thenF_exit ?_; refine thenF_exit ?_; refine blockF_hit ?_; refine thenF_nor ?_; refine W.seq ?_; refine W.block ?_; have S6_hB1 := hB1; have S6_hE := hE; have S6_hF := hF; refine W.loopg (γ := Nat) (fun (j1 : Nat) (f : Fr) (w : World) => (swp d a pivot).size = n ∧ j1 ≤ b - 1 ∧ i1 ≤ j1 + 1 ∧ scanDown (fun x => !lt x (swp d a pivot)[a]!) (swp d a pivot) i1 j1 = scanDown (fun x => !lt x (swp d a pivot)[a]!) (swp d a pivot) i1 (b - 1) ∧ f 1 = (.int .i64 ((a : Nat) : Int)) ∧ f 4 = (.pointer (some ⟨b1, 0, none⟩)) ∧ f 8 = (.int .i64 0) ∧ f 9 = (.bool false) ∧ f 10 = (.int .i64 ((i1 : Nat) : Int)) ∧ f 11 = (.int .i64 ((j1 : Nat) : Int)) ∧ Hld w blk off (swp d a pivot) ∧ Far blk w4 w) (fun (j1 : Nat) => j1) (b - 1) ⟨hz3, (by (try dsimp only); omega), (by (try dsimp only); omega), rfl, s3_1, s3_4, s3_8, s3_9, s3_10, s3_11, hH, Far.refl _ _⟩ ?_; rintro j1 f6 w6 ⟨hz6, hDa, hDb, hD, s6_1, s6_4, s6_8, s6_9, s6_10, s6_11, hH, hS6⟩; have hB1 := S6_hB1.farx hS6 ne1; have hE := S6_hE.trans hS6; have hF := S6_hF.trans hS6; refine W.seq ?_; refine W.seq ?_; refine W.region (by rfl) ?_; refine L.val rfl (op_move rfl s6_10) ?_; refine L.val rfl (op_move rfl s6_11) ?_; refine L.val rfl (op_leq rfl rfl rfl) ?_; refine L.val rfl (op_move rfl rfl) ?_; refine L.guardv (v := (.pointer (some ⟨b1, 0, none⟩))) (wanted_yes rfl rfl rfl) (fun hg => (op_field rfl s6_4 fo126_0 rfl)) ?_; refine L.guardv (v := lv) (wanted_yes rfl rfl rfl) (fun hg => (op_load1 rfl ((show _ = vif _ (.pointer (some ⟨b1, 0, none⟩)) from rfl).trans (vif_t hg).symm) one77 (hB1.cells.one (n := 0) rfl))) ?_; refine L.guardv (v := (.int .i64 ((j1 : Nat) : Int))) (wanted_yes rfl rfl rfl) (fun hg => (op_move rfl s6_11)) ?_; refine L.guardv (v := (.int .i64 ((a : Nat) : Int))) (wanted_yes rfl rfl rfl) (fun hg => (op_move rfl s6_1)) ?_; refine L.guardc (v := (.bool (lt (swp d a pivot)[j1]! (swp d a pivot)[a]!))) (wanted_yes rfl rfl rfl) (fun hg => by have hp := hg; simp only [Bool.and_eq_true, Bool.not_eq_true', decide_eq_true_eq, decide_eq_false_iff_not] at hp; exact (op_less (i := j1) (j := a) hL hF hz6 hH rfl ((show _ = vif _ lv from rfl).trans (vif_t hg).symm) ((show _ = vif _ (.int .i64 ((j1 : Nat) : Int)) from rfl).trans (vif_t hg).symm) ((show _ = vif _ (.int .i64 ((a : Nat) : Int)) from rfl).trans (vif_t hg).symm) rfl rfl (by omega) (by omega))) ?_; intro w7 hx7; have hE := hE.trans (hx7.far blk); have hF := hF.trans (hx7.far blk); have hS6 := hS6.trans (hx7.far blk); have hB1 := hB1.ext hx7; have hH := hH.ext hx7; refine L.guardv (v := (.bool (!(lt (swp d a pivot)[j1]! (swp d a pivot)[a]!)))) (wanted_yes rfl rfl rfl) (fun hg => (op_not rfl ((show _ = vif _ (.bool (lt (swp d a pivot)[j1]! (swp d a pivot)[a]!)) from rfl).trans (vif_t hg).symm))) ?_; refine L.val rfl (op_and rfl rfl rfl rfl) ?_; refine L.nil ?_; refine thenF_nor ?_; refine W.cond (t := (decide (((i1 : Nat) : Int) ≤ ((j1 : Nat) : Int))) && (!(lt (swp d a pivot)[j1]! (swp d a pivot)[a]!))) rfl (fun hc8 => ?_) (fun hc8 => ?_)
  ·have hp8 := hc8; simp only [Bool.and_eq_true, Bool.not_eq_true', decide_eq_true_eq] at hp8; obtain ⟨hp8, hq8⟩ := hp8; have hDh := hc8; simp only [Bool.and_eq_true, decide_eq_true_eq] at hDh; obtain ⟨hDh1, hDh2⟩ := hDh; have hDh1 : i1 ≤ j1 := by omega
   refine W.skip ?_; refine thenF_nor ?_; refine W.block ?_; refine W.region (by rfl) ?_; refine L.val rfl (op_move rfl s6_11) ?_; refine L.val rfl (op_sub (c := ((j1 - 1 : Nat) : Int)) rfl rfl rfl (by omega) (by omega)) ?_; refine L.val rfl (op_assign rfl rfl) ?_; refine L.nil ?_; refine blockF_nor ?_; refine thenF_nor ?_; exact ⟨j1 - 1, ⟨hz6, (by (try dsimp only); omega), (by (try dsimp only); omega), (by rw [← hD, scanDown_go _ _ _ _ hDh1 (by omega) hDh2]), s6_1, s6_4, s6_8, s6_9, s6_10, rfl, hH, hS6⟩, (by (try dsimp only); omega)⟩
  ·have hp8 := hc8
   have hj1e : j1 = scanDown (fun x => !lt x (swp d a pivot)[a]!) (swp d a pivot) i1 (b - 1) := by
    rw [← hD]
    refine (scanDown_end _ _ _ _ ?_).symm
    have h := hc8
    simp only [Bool.and_eq_false_iff, decide_eq_false_iff_not] at h
    rcases h with h | h
    · exact Or.inl (by omega)
    · exact Or.inr h
   refine W.exit ?_; refine thenF_exit ?_; refine thenF_exit ?_; refine blockF_hit ?_; refine thenF_nor ?_; refine W.seq ?_; refine W.seq ?_; refine W.region (by rfl) ?_; refine L.val rfl (op_move rfl s6_10) ?_; refine L.val rfl (op_move rfl s6_11) ?_; refine L.val rfl (op_gtr rfl rfl rfl) ?_; refine L.nil ?_; refine thenF_nor ?_; refine W.cond (t := decide (((j1 : Nat) : Int) < ((i1 : Nat) : Int))) rfl (fun hc9 => ?_) (fun hc9 => ?_)
   ·have hp9 := of_decide_eq_true hc9; have hbr : j1 < i1 := by have h := hc9; simp only [decide_eq_true_eq] at h; omega
    have hres : Sort.partition lt d a b pivot = (j1, true, swp (swp d a pivot) j1 a) := part_first_break lt d a b pivot rfl rfl rfl hi1e hj1e hbr; refine W.seq ?_; refine W.region (by rfl) ?_; refine L.val rfl (op_field rfl s6_4 fo126_1 rfl) ?_; refine L.val rfl (op_load1 rfl rfl one121 (hB1.cells.one (n := 1) rfl)) ?_; refine L.val rfl (op_move rfl s6_11) ?_; refine L.val rfl (op_move rfl s6_1) ?_; refine L.step rfl (op_swap (i := j1) (j := a) hS hz6 hH rfl rfl rfl rfl rfl rfl (by omega) (by omega)) ?_; rintro _ w10 ⟨hH10, hg10⟩; have hE := hE.trans hg10; have hF := hF.trans hg10; have hH := hH10; refine L.nil ?_; refine thenF_nor ?_; refine W.seq ?_; refine W.region (by rfl) ?_; refine L.val rfl (op_move rfl s6_11) ?_; refine L.val rfl (op_assign rfl rfl) ?_; refine L.val rfl (op_assign rfl rfl) ?_; refine L.nil ?_; refine thenF_nor ?_; refine W.ret ?_; refine thenF_ret ?_; exact end_ret2 (v := (.int .i64 ((j1 : Nat) : Int))) (v' := (.bool true)) rfl rfl rfl ⟨by rw [hres], by rw [hres]; exact hH, by rw [hres]; exact ((size_swp _ _ _).trans hz6), hE⟩
   ·have hp9 := of_decide_eq_false hc9; have hbr : i1 ≤ j1 := by have h := hc9; simp only [decide_eq_false_iff_not] at h; omega
    have hlt1 : i1 < j1 := part_scans_lt lt a (a + 1) (b - 1) (swp d a pivot) (by omega) hi1e hj1e hbr; have hfirst := part_first_go lt d a b pivot rfl rfl rfl hi1e hj1e (by omega); refine W.skip ?_; refine thenF_nor ?_; refine W.seq ?_; refine W.region (by rfl) ?_; refine L.val rfl (op_field rfl s6_4 fo126_1 rfl) ?_; refine L.val rfl (op_load1 rfl rfl one121 (hB1.cells.one (n := 1) rfl)) ?_; refine L.val rfl (op_move rfl s6_10) ?_; refine L.val rfl (op_move rfl s6_11) ?_; refine L.step rfl (op_swap (i := i1) (j := j1) hS hz6 hH rfl rfl rfl rfl rfl rfl (by omega) (by omega)) ?_; rintro _ w11 ⟨hH11, hg11⟩; have hE := hE.trans hg11; have hF := hF.trans hg11; have hB1 := hB1.farx hg11 ne1; have hH := hH11; refine L.nil ?_; refine thenF_nor ?_; refine W.seq ?_; refine W.region (by rfl) ?_; refine L.val rfl (op_move rfl s6_10) ?_; refine L.val rfl (op_add (c := ((i1 + 1 : Nat) : Int)) rfl rfl rfl (by omega) (by omega)) ?_; refine L.val rfl (op_assign rfl rfl) ?_; refine L.nil ?_; refine thenF_nor ?_; refine W.seq ?_; refine W.region (by rfl) ?_; refine L.val rfl (op_move rfl s6_11) ?_; refine L.val rfl (op_sub (c := ((j1 - 1 : Nat) : Int)) rfl rfl rfl (by omega) (by omega)) ?_; refine L.val rfl (op_assign rfl rfl) ?_; refine L.nil ?_; refine thenF_nor ?_; refine W.seq ?_; refine W.block ?_; have S12_hB1 := hB1; have S12_hE := hE; have S12_hF := hF; refine W.loopg (γ := Nat × Nat × Array α) (fun (g : Nat × Nat × Array α) (f : Fr) (w : World) => g.2.2.size = n ∧ a < g.1 ∧ g.1 ≤ g.2.1 + 1 ∧ g.2.1 < b ∧ partLoop lt a g.1 g.2.1 g.2.2 = partLoop lt a (i1 + 1) (j1 - 1) (swp (swp d a pivot) i1 j1) ∧ f 1 = (.int .i64 ((a : Nat) : Int)) ∧ f 4 = (.pointer (some ⟨b1, 0, none⟩)) ∧ f 8 = (.int .i64 0) ∧ f 9 = (.bool false) ∧ f 10 = (.int .i64 ((g.1 : Nat) : Int)) ∧ f 11 = (.int .i64 ((g.2.1 : Nat) : Int)) ∧ Hld w blk off g.2.2 ∧ Far blk w11 w) (fun (g : Nat × Nat × Array α) => g.2.1 + 1 - g.1) (i1 + 1, j1 - 1, (swp (swp d a pivot) i1 j1)) ⟨((size_swp _ _ _).trans hz6), (by (try dsimp only); omega), (by (try dsimp only); omega), (by (try dsimp only); omega), rfl, s6_1, s6_4, s6_8, s6_9, rfl, rfl, hH, Far.refl _ _⟩ ?_; rintro ⟨i, j, dk⟩ f12 w12 ⟨hz12, hi1, hij, hjb, heq, s12_1, s12_4, s12_8, s12_9, s12_10, s12_11, hH, hS12⟩; dsimp only at hz12 hi1 hij hjb heq s12_1 s12_4 s12_8 s12_9 s12_10 s12_11 hH hS12; have hB1 := S12_hB1.farx hS12 ne1; have hE := S12_hE.trans hS12; have hF := S12_hF.trans hS12; refine W.block ?_; refine W.seq ?_; refine W.block ?_; have S13_hB1 := hB1; have S13_hS12 := hS12; have S13_hE := hE; have S13_hF := hF; refine W.loopg (γ := Nat) (fun (i2 : Nat) (f : Fr) (w : World) => dk.size = n ∧ i ≤ i2 ∧ i2 ≤ j + 1 ∧ scanUp (fun x => lt x dk[a]!) dk j i2 = scanUp (fun x => lt x dk[a]!) dk j i ∧ f 1 = (.int .i64 ((a : Nat) : Int)) ∧ f 4 = (.pointer (some ⟨b1, 0, none⟩)) ∧ f 8 = (.int .i64 0) ∧ f 9 = (.bool false) ∧ f 11 = (.int .i64 ((j : Nat) : Int)) ∧ f 10 = (.int .i64 ((i2 : Nat) : Int)) ∧ Hld w blk off dk ∧ Far blk w12 w) (fun (i2 : Nat) => j + 1 - i2) i ⟨hz12, (by (try dsimp only); omega), (by (try dsimp only); omega), rfl, s12_1, s12_4, s12_8, s12_9, s12_11, s12_10, hH, Far.refl _ _⟩ ?_; rintro i2 f13 w13 ⟨hz13, hVa, hVb, hV, s13_1, s13_4, s13_8, s13_9, s13_11, s13_10, hH, hS13⟩; have hB1 := S13_hB1.farx hS13 ne1; have hS12 := S13_hS12.trans hS13; have hE := S13_hE.trans hS13; have hF := S13_hF.trans hS13; refine W.seq ?_; refine W.seq ?_; refine W.region (by rfl) ?_; refine L.val rfl (op_move rfl s13_10) ?_; refine L.val rfl (op_move rfl s13_11) ?_; refine L.val rfl (op_leq rfl rfl rfl) ?_; refine L.val rfl (op_move rfl rfl) ?_; refine L.guardv (v := (.pointer (some ⟨b1, 0, none⟩))) (wanted_yes rfl rfl rfl) (fun hg => (op_field rfl s13_4 fo126_0 rfl)) ?_; refine L.guardv (v := lv) (wanted_yes rfl rfl rfl) (fun hg => (op_load1 rfl ((show _ = vif _ (.pointer (some ⟨b1, 0, none⟩)) from rfl).trans (vif_t hg).symm) one77 (hB1.cells.one (n := 0) rfl))) ?_; refine L.guardv (v := (.int .i64 ((i2 : Nat) : Int))) (wanted_yes rfl rfl rfl) (fun hg => (op_move rfl s13_10)) ?_; refine L.guardv (v := (.int .i64 ((a : Nat) : Int))) (wanted_yes rfl rfl rfl) (fun hg => (op_move rfl s13_1)) ?_; refine L.guardc (v := (.bool (lt dk[i2]! dk[a]!))) (wanted_yes rfl rfl rfl) (fun hg => by have hp := hg; simp only [Bool.and_eq_true, Bool.not_eq_true', decide_eq_true_eq, decide_eq_false_iff_not] at hp; exact (op_less (i := i2) (j := a) hL hF hz13 hH rfl ((show _ = vif _ lv from rfl).trans (vif_t hg).symm) ((show _ = vif _ (.int .i64 ((i2 : Nat) : Int)) from rfl).trans (vif_t hg).symm) ((show _ = vif _ (.int .i64 ((a : Nat) : Int)) from rfl).trans (vif_t hg).symm) rfl rfl (by omega) (by omega))) ?_; intro w14 hx14; have hE := hE.trans (hx14.far blk); have hF := hF.trans (hx14.far blk); have hS12 := hS12.trans (hx14.far blk); have hS13 := hS13.trans (hx14.far blk); have hB1 := hB1.ext hx14; have hH := hH.ext hx14; refine L.val rfl (op_and rfl rfl rfl rfl) ?_; refine L.nil ?_; refine thenF_nor ?_; refine W.cond (t := (decide (((i2 : Nat) : Int) ≤ ((j : Nat) : Int))) && (lt dk[i2]! dk[a]!)) rfl (fun hc15 => ?_) (fun hc15 => ?_)
    ·have hp15 := hc15; simp only [Bool.and_eq_true, Bool.not_eq_true', decide_eq_true_eq] at hp15; obtain ⟨hp15, hq15⟩ := hp15; have hVh := hc15; simp only [Bool.and_eq_true, decide_eq_true_eq] at hVh; obtain ⟨hVh1, hVh2⟩ := hVh; have hVh1 : i2 ≤ j := by omega
     refine W.skip ?_; refine thenF_nor ?_; refine W.block ?_; refine W.region (by rfl) ?_; refine L.val rfl (op_move rfl s13_10) ?_; refine L.val rfl (op_add (c := ((i2 + 1 : Nat) : Int)) rfl rfl rfl (by omega) (by omega)) ?_; refine L.val rfl (op_assign rfl rfl) ?_; refine L.nil ?_; refine blockF_nor ?_; refine thenF_nor ?_; exact ⟨i2 + 1, ⟨hz13, (by (try dsimp only); omega), (by (try dsimp only); omega), (by rw [← hV, scanUp_go _ _ _ _ hVh1 hVh2]), s13_1, s13_4, s13_8, s13_9, s13_11, rfl, hH, hS13⟩, (by (try dsimp only); omega)⟩
    ·have hp15 := hc15
     have hi2 : i2 = scanUp (fun x => lt x dk[a]!) dk j i := by
      rw [← hV]
      refine (scanUp_end _ _ _ _ ?_).symm
      have h := hc15
      simp only [Bool.and_eq_false_iff, decide_eq_false_iff_not] at h
      rcases h with h | h
      · exact Or.inl (by omega)
      · exact Or.inr h
     refine W.exit ?_; refine thenF_exit ?_; refine thenF_exit ?_; refine blockF_hit ?_; refine thenF_nor ?_; refine W.seq ?_; refine W.block ?_; have S16_hB1 := hB1; have S16_hS12 := hS12; have S16_hE := hE; have S16_hF := hF; refine W.loopg (γ := Nat) (fun (j2 : Nat) (f : Fr) (w : World) => dk.size = n ∧ j2 ≤ j ∧ i2 ≤ j2 + 1 ∧ scanDown (fun x => !lt x dk[a]!) dk i2 j2 = scanDown (fun x => !lt x dk[a]!) dk i2 j ∧ f 1 = (.int .i64 ((a : Nat) : Int)) ∧ f 4 = (.pointer (some ⟨b1, 0, none⟩)) ∧ f 8 = (.int .i64 0) ∧ f 9 = (.bool false) ∧ f 10 = (.int .i64 ((i2 : Nat) : Int)) ∧ f 64 = (.int .i64 ((i2 : Nat) : Int)) ∧ f 65 = (.int .i64 ((j : Nat) : Int)) ∧ f 66 = (.bool (decide (((i2 : Nat) : Int) ≤ ((j : Nat) : Int)))) ∧ f 67 = (.bool (decide (((i2 : Nat) : Int) ≤ ((j : Nat) : Int)))) ∧ f 68 = (vif (decide (((i2 : Nat) : Int) ≤ ((j : Nat) : Int))) (.pointer (some ⟨b1, 0, none⟩))) ∧ f 69 = (vif (decide (((i2 : Nat) : Int) ≤ ((j : Nat) : Int))) lv) ∧ f 70 = (vif (decide (((i2 : Nat) : Int) ≤ ((j : Nat) : Int))) (.int .i64 ((i2 : Nat) : Int))) ∧ f 71 = (vif (decide (((i2 : Nat) : Int) ≤ ((j : Nat) : Int))) (.int .i64 ((a : Nat) : Int))) ∧ f 72 = (vif (decide (((i2 : Nat) : Int) ≤ ((j : Nat) : Int))) (.bool (lt dk[i2]! dk[a]!))) ∧ f 73 = (.bool ((decide (((i2 : Nat) : Int) ≤ ((j : Nat) : Int))) && (lt dk[i2]! dk[a]!))) ∧ f 11 = (.int .i64 ((j2 : Nat) : Int)) ∧ Hld w blk off dk ∧ Far blk w14 w) (fun (j2 : Nat) => j2) j ⟨hz13, (by (try dsimp only); omega), (by (try dsimp only); omega), rfl, s13_1, s13_4, s13_8, s13_9, s13_10, rfl, rfl, rfl, rfl, rfl, rfl, rfl, rfl, rfl, rfl, s13_11, hH, Far.refl _ _⟩ ?_; rintro j2 f16 w16 ⟨hz16, hWa, hWb, hW, s16_1, s16_4, s16_8, s16_9, s16_10, s16_64, s16_65, s16_66, s16_67, s16_68, s16_69, s16_70, s16_71, s16_72, s16_73, s16_11, hH, hS16⟩; have hB1 := S16_hB1.farx hS16 ne1; have hS12 := S16_hS12.trans hS16; have hE := S16_hE.trans hS16; have hF := S16_hF.trans hS16; refine W.seq ?_; refine W.seq ?_; refine W.region (by rfl) ?_; refine L.val rfl (op_move rfl s16_10) ?_; refine L.val rfl (op_move rfl s16_11) ?_; refine L.val rfl (op_leq rfl rfl rfl) ?_; refine L.val rfl (op_move rfl rfl) ?_; refine L.guardv (v := (.pointer (some ⟨b1, 0, none⟩))) (wanted_yes rfl rfl rfl) (fun hg => (op_field rfl s16_4 fo126_0 rfl)) ?_; refine L.guardv (v := lv) (wanted_yes rfl rfl rfl) (fun hg => (op_load1 rfl ((show _ = vif _ (.pointer (some ⟨b1, 0, none⟩)) from rfl).trans (vif_t hg).symm) one77 (hB1.cells.one (n := 0) rfl))) ?_; refine L.guardv (v := (.int .i64 ((j2 : Nat) : Int))) (wanted_yes rfl rfl rfl) (fun hg => (op_move rfl s16_11)) ?_; refine L.guardv (v := (.int .i64 ((a : Nat) : Int))) (wanted_yes rfl rfl rfl) (fun hg => (op_move rfl s16_1)) ?_; refine L.guardc (v := (.bool (lt dk[j2]! dk[a]!))) (wanted_yes rfl rfl rfl) (fun hg => by have hp := hg; simp only [Bool.and_eq_true, Bool.not_eq_true', decide_eq_true_eq, decide_eq_false_iff_not] at hp; exact (op_less (i := j2) (j := a) hL hF hz16 hH rfl ((show _ = vif _ lv from rfl).trans (vif_t hg).symm) ((show _ = vif _ (.int .i64 ((j2 : Nat) : Int)) from rfl).trans (vif_t hg).symm) ((show _ = vif _ (.int .i64 ((a : Nat) : Int)) from rfl).trans (vif_t hg).symm) rfl rfl (by omega) (by omega))) ?_; intro w17 hx17; have hE := hE.trans (hx17.far blk); have hF := hF.trans (hx17.far blk); have hS12 := hS12.trans (hx17.far blk); have hS16 := hS16.trans (hx17.far blk); have hB1 := hB1.ext hx17; have hH := hH.ext hx17; refine L.guardv (v := (.bool (!(lt dk[j2]! dk[a]!)))) (wanted_yes rfl rfl rfl) (fun hg => (op_not rfl ((show _ = vif _ (.bool (lt dk[j2]! dk[a]!)) from rfl).trans (vif_t hg).symm))) ?_; refine L.val rfl (op_and rfl rfl rfl rfl) ?_; refine L.nil ?_; refine thenF_nor ?_; refine W.cond (t := (decide (((i2 : Nat) : Int) ≤ ((j2 : Nat) : Int))) && (!(lt dk[j2]! dk[a]!))) rfl (fun hc18 => ?_) (fun hc18 => ?_)
     ·have hp18 := hc18; simp only [Bool.and_eq_true, Bool.not_eq_true', decide_eq_true_eq] at hp18; obtain ⟨hp18, hq18⟩ := hp18; have hWh := hc18; simp only [Bool.and_eq_true, decide_eq_true_eq] at hWh; obtain ⟨hWh1, hWh2⟩ := hWh; have hWh1 : i2 ≤ j2 := by omega
      refine W.skip ?_; refine thenF_nor ?_; refine W.block ?_; refine W.region (by rfl) ?_; refine L.val rfl (op_move rfl s16_11) ?_; refine L.val rfl (op_sub (c := ((j2 - 1 : Nat) : Int)) rfl rfl rfl (by omega) (by omega)) ?_; refine L.val rfl (op_assign rfl rfl) ?_; refine L.nil ?_; refine blockF_nor ?_; refine thenF_nor ?_; exact ⟨j2 - 1, ⟨hz16, (by (try dsimp only); omega), (by (try dsimp only); omega), (by rw [← hW, scanDown_go _ _ _ _ hWh1 (by omega) hWh2]), s16_1, s16_4, s16_8, s16_9, s16_10, s16_64, s16_65, s16_66, s16_67, s16_68, s16_69, s16_70, s16_71, s16_72, s16_73, rfl, hH, hS16⟩, (by (try dsimp only); omega)⟩
     ·have hp18 := hc18
      have hj2 : j2 = scanDown (fun x => !lt x dk[a]!) dk i2 j := by
       rw [← hW]
       refine (scanDown_end _ _ _ _ ?_).symm
       have h := hc18
       simp only [Bool.and_eq_false_iff, decide_eq_false_iff_not] at h
       rcases h with h | h
       · exact Or.inl (by omega)
       · exact Or.inr h
      refine W.exit ?_; refine thenF_exit ?_; refine thenF_exit ?_; refine blockF_hit ?_; refine thenF_nor ?_; refine W.seq ?_; refine W.seq ?_; refine W.region (by rfl) ?_; refine L.val rfl (op_move rfl s16_10) ?_; refine L.val rfl (op_move rfl s16_11) ?_; refine L.val rfl (op_gtr rfl rfl rfl) ?_; refine L.nil ?_; refine thenF_nor ?_; refine W.cond (t := decide (((j2 : Nat) : Int) < ((i2 : Nat) : Int))) rfl (fun hc19 => ?_) (fun hc19 => ?_)
      ·have hp19 := of_decide_eq_true hc19; have hbr2 : j2 < i2 := by have h := hc19; simp only [decide_eq_true_eq] at h; omega
       have hres : Sort.partition lt d a b pivot = (j2, false, swp dk j2 a) := by rw [hfirst, ← heq, part_break lt a i j dk hi2 hj2 hbr2]
       refine W.exit ?_; refine thenF_exit ?_; refine blockF_miss rfl ?_; refine thenF_exit ?_; refine blockF_hit ?_; refine thenF_nor ?_; refine W.seq ?_; refine W.region (by rfl) ?_; refine L.val rfl (op_field rfl s16_4 fo126_1 rfl) ?_; refine L.val rfl (op_load1 rfl rfl one121 (hB1.cells.one (n := 1) rfl)) ?_; refine L.val rfl (op_move rfl s16_11) ?_; refine L.val rfl (op_move rfl s16_1) ?_; refine L.step rfl (op_swap (i := j2) (j := a) hS hz16 hH rfl rfl rfl rfl rfl rfl (by omega) (by omega)) ?_; rintro _ w20 ⟨hH20, hg20⟩; have hE := hE.trans hg20; have hF := hF.trans hg20; have hH := hH20; refine L.nil ?_; refine thenF_nor ?_; refine W.seq ?_; refine W.region (by rfl) ?_; refine L.val rfl (op_move rfl s16_11) ?_; refine L.val rfl (op_assign rfl rfl) ?_; refine L.val rfl (op_assign rfl rfl) ?_; refine L.nil ?_; refine thenF_nor ?_; refine W.ret ?_; exact end_ret2 (v := (.int .i64 ((j2 : Nat) : Int))) (v' := (.bool false)) rfl rfl rfl ⟨by rw [hres], by rw [hres]; exact hH, by rw [hres]; exact ((size_swp _ _ _).trans hz16), hE⟩
      ·have hp19 := of_decide_eq_false hc19; have hbr2 : i2 ≤ j2 := by have h := hc19; simp only [decide_eq_false_iff_not] at h; omega
       have hlt2 : i2 < j2 := part_scans_lt lt a i j dk (by omega) hi2 hj2 hbr2; have hgo := part_go lt a i j dk hi2 hj2 (by omega); refine W.skip ?_; refine thenF_nor ?_; refine W.seq ?_; refine W.region (by rfl) ?_; refine L.val rfl (op_field rfl s16_4 fo126_1 rfl) ?_; refine L.val rfl (op_load1 rfl rfl one121 (hB1.cells.one (n := 1) rfl)) ?_; refine L.val rfl (op_move rfl s16_10) ?_; refine L.val rfl (op_move rfl s16_11) ?_; refine L.step rfl (op_swap (i := i2) (j := j2) hS hz16 hH rfl rfl rfl rfl rfl rfl (by omega) (by omega)) ?_; rintro _ w21 ⟨hH21, hg21⟩; have hE := hE.trans hg21; have hF := hF.trans hg21; have hS12 := hS12.trans hg21; have hH := hH21; refine L.nil ?_; refine thenF_nor ?_; refine W.seq ?_; refine W.region (by rfl) ?_; refine L.val rfl (op_move rfl s16_10) ?_; refine L.val rfl (op_add (c := ((i2 + 1 : Nat) : Int)) rfl rfl rfl (by omega) (by omega)) ?_; refine L.val rfl (op_assign rfl rfl) ?_; refine L.nil ?_; refine thenF_nor ?_; refine W.region (by rfl) ?_; refine L.val rfl (op_move rfl s16_11) ?_; refine L.val rfl (op_sub (c := ((j2 - 1 : Nat) : Int)) rfl rfl rfl (by omega) (by omega)) ?_; refine L.val rfl (op_assign rfl rfl) ?_; refine L.nil ?_; refine blockF_nor ?_; refine thenF_nor ?_; exact ⟨(i2 + 1, j2 - 1, (swp dk i2 j2)), ⟨((size_swp _ _ _).trans hz16), (by dsimp only; omega), (by dsimp only; omega), (by dsimp only; omega), (by dsimp only; rw [← heq, hgo]), s16_1, s16_4, s16_8, s16_9, rfl, rfl, hH, hS12⟩, (by dsimp only; omega)⟩
end Go.Proofs.YtdknjfmjddlphaaGreat
/-
  Contracts of functions of sort.Slice for a comparison that may lay blocks, each with its walk. Printed by a program of this session (wip/gen) from the translation.
-/
set_option linter.unusedSimpArgs false
set_option linter.unusedVariables false
namespace Go.Proofs.YtdknjfmjddlphaaGreat
open Go Go.Fk Go.Sort
set_option maxRecDepth 100000 in
theorem partialInsertionSort_ok {α : Type} [Enc α] [Inhabited α] {lt : α → α → Bool} {lv sv : Value} {blk off n : Nat} {w0 w : World} {d : Array α} {a b : Nat} (hL : LessOk Tryz.prog lt lv blk off n w0) (hS : SwapOk α Tryz.prog sv blk off n) (hF : Far blk w0 w) (hblk : blk < w.heap.size) (hn : n < 4611686018427387904) (hs : d.size = n) (hH : Hld w blk off d) (hab : a < b) (hb : b ≤ n) : Gives Tryz.prog 168 #[(.agg #[lv, sv]), (.int .i64 ((a : Nat) : Int)), (.int .i64 ((b : Nat) : Int))] w fun u w' => u = .bool (Sort.partialInsertionSort lt d a b).2 ∧ Hld w' blk off (Sort.partialInsertionSort lt d a b).1 ∧ (Sort.partialInsertionSort lt d a b).1.size = n ∧ Far blk w w' := by
 have hE : Far blk w w := Far.refl blk w; refine gives_of_W Tryz.func168 rfl Tryz.ntmps168 rfl ?_; refine W.seq ?_; refine W.region (by rfl) ?_; refine L.step rfl (op_box (cs := [lv, sv]) rfl rfl rfl) ?_; rintro _ w1 ⟨b1, rfl, hb1, hB1, hx1⟩; have ne1 : b1 ≠ blk := by have := hE.size; omega
 have hE := hE.trans (hx1.far blk); have hF := hF.trans (hx1.far blk); have hH := hH.ext hx1; refine L.val rfl (op_assign rfl rfl) ?_; refine L.nil ?_; refine thenF_nor ?_; refine W.seq ?_; refine W.region (by rfl) ?_; refine L.val rfl (op_move rfl rfl) ?_; refine L.val rfl (op_add (c := ((a + 1 : Nat) : Int)) rfl rfl rfl (by omega) (by omega)) ?_; refine L.val rfl (op_assign rfl rfl) ?_; refine L.nil ?_; refine thenF_nor ?_; refine W.seq ?_; refine W.seq ?_; refine W.region (by rfl) ?_; refine L.val rfl (op_assign rfl rfl) ?_; refine L.nil ?_; refine thenF_nor ?_; refine W.block ?_; have S2_hB1 := hB1; have S2_hE := hE; have S2_hF := hF; refine W.loopg (γ := Nat × Nat × Array α) (fun (g : Nat × Nat × Array α) (f : Fr) (w : World) => g.2.2.size = n ∧ g.2.1 ≤ 5 ∧ a < g.1 ∧ g.1 ≤ b ∧ partialIns lt a b (5 - g.2.1) g.1 g.2.2 = partialIns lt a b 5 (a + 1) d ∧ f 1 = (.int .i64 ((a : Nat) : Int)) ∧ f 2 = (.int .i64 ((b : Nat) : Int)) ∧ f 3 = (.pointer (some ⟨b1, 0, none⟩)) ∧ f 7 = (.int .i64 ((g.1 : Nat) : Int)) ∧ f 8 = (.int .i64 ((g.2.1 : Nat) : Int)) ∧ Hld w blk off g.2.2 ∧ Far blk w1 w) (fun (g : Nat × Nat × Array α) => 5 - g.2.1) (a + 1, 0, d) ⟨hs, (by (try dsimp only); omega), (by (try dsimp only); omega), (by (try dsimp only); omega), rfl, rfl, rfl, rfl, rfl, rfl, hH, Far.refl _ _⟩ ?_; rintro ⟨i, s, dk⟩ f2 w2 ⟨hz2, hs1, hi1, hi2, hO, s2_1, s2_2, s2_3, s2_7, s2_8, hH, hS2⟩; dsimp only at hz2 hs1 hi1 hi2 hO s2_1 s2_2 s2_3 s2_7 s2_8 hH hS2; have hB1 := S2_hB1.farx hS2 ne1; have hE := S2_hE.trans hS2; have hF := S2_hF.trans hS2; refine W.seq ?_; refine W.seq ?_; refine W.region (by rfl) ?_; refine L.val rfl (op_move rfl s2_8) ?_; refine L.val rfl (op_lss rfl rfl rfl) ?_; refine L.nil ?_; refine thenF_nor ?_; refine W.cond (t := decide (((s : Nat) : Int) < 5)) rfl (fun hc3 => ?_) (fun hc3 => ?_)
 ·have hp3 := of_decide_eq_true hc3; have hs5 : s < 5 := by have h := hc3; simp only [decide_eq_true_eq] at h; omega
  refine W.skip ?_; refine thenF_nor ?_; have S4_hS2 := hS2; have S4_hE := hE; have S4_hF := hF; have hS4 : Far blk w2 w2 := Far.refl _ _; refine W.cut (fun (f : Fr) (w : World) => ∃ (k3 : Nat), ∃ (d2 : Array α), d2.size = n ∧ a < k3 ∧ k3 ≤ b ∧ partialIns lt a b (5 - s) i dk = partialIns lt a b (5 - (s + 1)) k3 d2 ∧ f 1 = (.int .i64 ((a : Nat) : Int)) ∧ f 2 = (.int .i64 ((b : Nat) : Int)) ∧ f 3 = (.pointer (some ⟨b1, 0, none⟩)) ∧ f 8 = (.int .i64 ((s : Nat) : Int)) ∧ f 13 = (.int .i64 ((s : Nat) : Int)) ∧ f 14 = (.bool (decide (((s : Nat) : Int) < 5))) ∧ f 7 = (.int .i64 ((k3 : Nat) : Int)) ∧ Hld w blk off d2 ∧ Far blk w2 w) ?_ ?_
  ·refine W.block ?_; refine W.seq ?_; refine W.block ?_; have S5_hB1 := hB1; have S5_hS4 := hS4; have S5_hE := hE; have S5_hF := hF; refine W.loopg (γ := Nat) (fun (k : Nat) (f : Fr) (w : World) => dk.size = n ∧ i ≤ k ∧ k ≤ b ∧ scanSorted lt dk b k = scanSorted lt dk b i ∧ f 1 = (.int .i64 ((a : Nat) : Int)) ∧ f 2 = (.int .i64 ((b : Nat) : Int)) ∧ f 3 = (.pointer (some ⟨b1, 0, none⟩)) ∧ f 8 = (.int .i64 ((s : Nat) : Int)) ∧ f 13 = (.int .i64 ((s : Nat) : Int)) ∧ f 14 = (.bool (decide (((s : Nat) : Int) < 5))) ∧ f 7 = (.int .i64 ((k : Nat) : Int)) ∧ Hld w blk off dk ∧ Far blk w2 w) (fun (k : Nat) => b - k) i ⟨hz2, (by (try dsimp only); omega), (by (try dsimp only); omega), rfl, s2_1, s2_2, s2_3, s2_8, rfl, rfl, s2_7, hH, Far.refl _ _⟩ ?_; rintro k f5 w5 ⟨hz5, hk1, hk2, hSc, s5_1, s5_2, s5_3, s5_8, s5_13, s5_14, s5_7, hH, hS5⟩; have hB1 := S5_hB1.farx hS5 ne1; have hS4 := S5_hS4.trans hS5; have hE := S5_hE.trans hS5; have hF := S5_hF.trans hS5; refine W.seq ?_; refine W.seq ?_; refine W.region (by rfl) ?_; refine L.val rfl (op_move rfl s5_7) ?_; refine L.val rfl (op_move rfl s5_2) ?_; refine L.val rfl (op_lss rfl rfl rfl) ?_; refine L.val rfl (op_move rfl rfl) ?_; refine L.guardv (v := (.pointer (some ⟨b1, 0, none⟩))) (wanted_yes rfl rfl rfl) (fun hg => (op_field rfl s5_3 fo126_0 rfl)) ?_; refine L.guardv (v := lv) (wanted_yes rfl rfl rfl) (fun hg => (op_load1 rfl ((show _ = vif _ (.pointer (some ⟨b1, 0, none⟩)) from rfl).trans (vif_t hg).symm) one77 (hB1.cells.one (n := 0) rfl))) ?_; refine L.guardv (v := (.int .i64 ((k : Nat) : Int))) (wanted_yes rfl rfl rfl) (fun hg => (op_move rfl s5_7)) ?_; refine L.guardv (v := (.int .i64 ((k : Nat) : Int))) (wanted_yes rfl rfl rfl) (fun hg => (op_move rfl s5_7)) ?_; refine L.guardv (v := (.int .i64 ((k - 1 : Nat) : Int))) (wanted_yes rfl rfl rfl) (fun hg => by have hp := hg; simp only [Bool.and_eq_true, Bool.not_eq_true', decide_eq_true_eq, decide_eq_false_iff_not] at hp; exact (op_sub (c := ((k - 1 : Nat) : Int)) rfl ((show _ = vif _ (.int .i64 ((k : Nat) : Int)) from rfl).trans (vif_t hg).symm) rfl (by omega) (by omega))) ?_; refine L.guardc (v := (.bool (lt dk[k]! dk[k - 1]!))) (wanted_yes rfl rfl rfl) (fun hg => by have hp := hg; simp only [Bool.and_eq_true, Bool.not_eq_true', decide_eq_true_eq, decide_eq_false_iff_not] at hp; exact (op_less (i := k) (j := k - 1) hL hF hz5 hH rfl ((show _ = vif _ lv from rfl).trans (vif_t hg).symm) ((show _ = vif _ (.int .i64 ((k : Nat) : Int)) from rfl).trans (vif_t hg).symm) ((show _ = vif _ (.int .i64 ((k - 1 : Nat) : Int)) from rfl).trans (vif_t hg).symm) rfl rfl (by omega) (by omega))) ?_; intro w6 hx6; have hE := hE.trans (hx6.far blk); have hF := hF.trans (hx6.far blk); have hS4 := hS4.trans (hx6.far blk); have hS5 := hS5.trans (hx6.far blk); have hB1 := hB1.ext hx6; have hH := hH.ext hx6; refine L.guardv (v := (.bool (!(lt dk[k]! dk[k - 1]!)))) (wanted_yes rfl rfl rfl) (fun hg => (op_not rfl ((show _ = vif _ (.bool (lt dk[k]! dk[k - 1]!)) from rfl).trans (vif_t hg).symm))) ?_; refine L.val rfl (op_and rfl rfl rfl rfl) ?_; refine L.nil ?_; refine thenF_nor ?_; refine W.cond (t := (decide (((k : Nat) : Int) < ((b : Nat) : Int))) && (!(lt dk[k]! dk[k - 1]!))) rfl (fun hc7 => ?_) (fun hc7 => ?_)
   ·have hp7 := hc7; simp only [Bool.and_eq_true, Bool.not_eq_true', decide_eq_true_eq] at hp7; obtain ⟨hp7, hq7⟩ := hp7; have hsh := hc7; simp only [Bool.and_eq_true, decide_eq_true_eq, Bool.not_eq_true'] at hsh; obtain ⟨hsh1, hsh2⟩ := hsh; have hsh1 : k < b := by omega
    refine W.skip ?_; refine thenF_nor ?_; refine W.block ?_; refine W.region (by rfl) ?_; refine L.val rfl (op_move rfl s5_7) ?_; refine L.val rfl (op_add (c := ((k + 1 : Nat) : Int)) rfl rfl rfl (by omega) (by omega)) ?_; refine L.val rfl (op_assign rfl rfl) ?_; refine L.nil ?_; refine blockF_nor ?_; refine thenF_nor ?_; exact ⟨k + 1, ⟨hz5, (by (try dsimp only); omega), (by (try dsimp only); omega), (by rw [← hSc, scanSorted_go lt dk b k hsh1 hsh2]), s5_1, s5_2, s5_3, s5_8, s5_13, s5_14, rfl, hH, hS5⟩, (by (try dsimp only); omega)⟩
   ·have hp7 := hc7
    have hK : scanSorted lt dk b i = k := by
     rw [← hSc]
     refine scanSorted_stop lt dk b k ?_
     have h := hc7
     simp only [Bool.and_eq_false_iff, decide_eq_false_iff_not, Bool.not_eq_false'] at h
     rcases h with h | h
     · exact Or.inl (by omega)
     · exact Or.inr h
    refine W.exit ?_; refine thenF_exit ?_; refine thenF_exit ?_; refine blockF_hit ?_; refine thenF_nor ?_; refine W.seq ?_; refine W.seq ?_; refine W.region (by rfl) ?_; refine L.val rfl (op_move rfl s5_7) ?_; refine L.val rfl (op_move rfl s5_2) ?_; refine L.val rfl (op_eql rfl rfl rfl) ?_; refine L.nil ?_; refine thenF_nor ?_; refine W.cond (t := decide (((k : Nat) : Int) = ((b : Nat) : Int))) rfl (fun hc8 => ?_) (fun hc8 => ?_)
    ·have hp8 := of_decide_eq_true hc8; have hkb : k = b := by have h := hc8; simp only [decide_eq_true_eq] at h; omega
     have hres : Sort.partialInsertionSort lt d a b = (dk, true) := by unfold Sort.partialInsertionSort; rw [← hO]; exact pi_true lt a b s i dk hs5 (hK.trans hkb)
     refine W.seq ?_; refine W.region (by rfl) ?_; refine L.val rfl (op_assign rfl rfl) ?_; refine L.nil ?_; refine thenF_nor ?_; refine W.ret ?_; refine thenF_ret ?_; refine blockF_ret ?_; refine thenF_ret ?_; refine thenF_ret ?_; refine blockF_ret ?_; refine thenF_ret ?_; exact end_ret1 (v := (.bool true)) rfl rfl ⟨by rw [hres], by rw [hres]; exact hH, by rw [hres]; exact hz5, hE⟩
    ·have hp8 := of_decide_eq_false hc8; have hkb : k ≠ b := by have h := hc8; simp only [decide_eq_false_iff_not] at h; omega
     refine W.skip ?_; refine thenF_nor ?_; refine W.seq ?_; refine W.seq ?_; refine W.region (by rfl) ?_; refine L.val rfl (op_move rfl s5_2) ?_; refine L.val rfl (op_move rfl s5_1) ?_; refine L.val rfl (op_sub (c := ((b - a : Nat) : Int)) rfl rfl rfl (by omega) (by omega)) ?_; refine L.val rfl (op_lss rfl rfl rfl) ?_; refine L.nil ?_; refine thenF_nor ?_; refine W.cond (t := decide (((b - a : Nat) : Int) < 50)) rfl (fun hc9 => ?_) (fun hc9 => ?_)
     ·have hp9 := of_decide_eq_true hc9; have h50 : b - a < 50 := by have h := hc9; simp only [decide_eq_true_eq] at h; omega
      have hres : Sort.partialInsertionSort lt d a b = (dk, false) := by unfold Sort.partialInsertionSort; rw [← hO]; exact pi_short lt a b s i dk hs5 (by rw [hK]; exact hkb) h50
      refine W.seq ?_; refine W.region (by rfl) ?_; refine L.val rfl (op_assign rfl rfl) ?_; refine L.nil ?_; refine thenF_nor ?_; refine W.ret ?_; refine thenF_ret ?_; refine blockF_ret ?_; refine thenF_ret ?_; refine thenF_ret ?_; refine blockF_ret ?_; refine thenF_ret ?_; exact end_ret1 (v := (.bool false)) rfl rfl ⟨by rw [hres], by rw [hres]; exact hH, by rw [hres]; exact hz5, hE⟩
     ·have hp9 := of_decide_eq_false hc9; have h50 : ¬ b - a < 50 := by have h := hc9; simp only [decide_eq_false_iff_not] at h; omega
      refine W.skip ?_; refine thenF_nor ?_; refine W.seq ?_; refine W.region (by rfl) ?_; refine L.val rfl (op_field rfl s5_3 fo126_1 rfl) ?_; refine L.val rfl (op_load1 rfl rfl one121 (hB1.cells.one (n := 1) rfl)) ?_; refine L.val rfl (op_move rfl s5_7) ?_; refine L.val rfl (op_move rfl s5_7) ?_; refine L.val rfl (op_sub (c := ((k - 1 : Nat) : Int)) rfl rfl rfl (by omega) (by omega)) ?_; refine L.step rfl (op_swap (i := k) (j := k - 1) hS hz5 hH rfl rfl rfl rfl rfl rfl (by omega) (by omega)) ?_; rintro _ w10 ⟨hH10, hg10⟩; have hE := hE.trans hg10; have hF := hF.trans hg10; have hS4 := hS4.trans hg10; have hB1 := hB1.farx hg10 ne1; have hH := hH10; refine L.nil ?_; refine thenF_nor ?_; have S11_hB1 := hB1; have S11_hS4 := hS4; have S11_hE := hE; have S11_hF := hF; have hS11 : Far blk w10 w10 := Far.refl _ _; refine W.cut (fun (f : Fr) (w : World) => ∃ (d1 : Array α), d1.size = n ∧ d1 = fixDown lt a k (swp dk k (k - 1)) ∧ f 1 = (.int .i64 ((a : Nat) : Int)) ∧ f 2 = (.int .i64 ((b : Nat) : Int)) ∧ f 3 = (.pointer (some ⟨b1, 0, none⟩)) ∧ f 7 = (.int .i64 ((k : Nat) : Int)) ∧ f 8 = (.int .i64 ((s : Nat) : Int)) ∧ f 13 = (.int .i64 ((s : Nat) : Int)) ∧ f 14 = (.bool (decide (((s : Nat) : Int) < 5))) ∧ f 17 = (.int .i64 ((k : Nat) : Int)) ∧ f 18 = (.int .i64 ((b : Nat) : Int)) ∧ f 19 = (.bool (decide (((k : Nat) : Int) < ((b : Nat) : Int)))) ∧ f 20 = (.bool (decide (((k : Nat) : Int) < ((b : Nat) : Int)))) ∧ f 21 = (vif (decide (((k : Nat) : Int) < ((b : Nat) : Int))) (.pointer (some ⟨b1, 0, none⟩))) ∧ f 22 = (vif (decide (((k : Nat) : Int) < ((b : Nat) : Int))) lv) ∧ f 23 = (vif (decide (((k : Nat) : Int) < ((b : Nat) : Int))) (.int .i64 ((k : Nat) : Int))) ∧ f 24 = (vif (decide (((k : Nat) : Int) < ((b : Nat) : Int))) (.int .i64 ((k : Nat) : Int))) ∧ f 25 = (vif (decide (((k : Nat) : Int) < ((b : Nat) : Int))) (.int .i64 ((k - 1 : Nat) : Int))) ∧ f 26 = (vif (decide (((k : Nat) : Int) < ((b : Nat) : Int))) (.bool (lt dk[k]! dk[k - 1]!))) ∧ f 27 = (vif (decide (((k : Nat) : Int) < ((b : Nat) : Int))) (.bool (!(lt dk[k]! dk[k - 1]!)))) ∧ f 28 = (.bool ((decide (((k : Nat) : Int) < ((b : Nat) : Int))) && (!(lt dk[k]! dk[k - 1]!)))) ∧ f 31 = (.int .i64 ((k : Nat) : Int)) ∧ f 32 = (.int .i64 ((b : Nat) : Int)) ∧ f 33 = (.bool (decide (((k : Nat) : Int) = ((b : Nat) : Int)))) ∧ f 34 = (.int .i64 ((b : Nat) : Int)) ∧ f 35 = (.int .i64 ((a : Nat) : Int)) ∧ f 36 = (.int .i64 ((b - a : Nat) : Int)) ∧ f 37 = (.bool (decide (((b - a : Nat) : Int) < 50))) ∧ f 38 = (.pointer (some ⟨b1, 1, none⟩)) ∧ f 39 = sv ∧ f 40 = (.int .i64 ((k : Nat) : Int)) ∧ f 41 = (.int .i64 ((k : Nat) : Int)) ∧ f 42 = (.int .i64 ((k - 1 : Nat) : Int)) ∧ Hld w blk off d1 ∧ Far blk w10 w) ?_ ?_
      ·refine W.seq ?_; refine W.region (by rfl) ?_; refine L.val rfl (op_move rfl s5_7) ?_; refine L.val rfl (op_move rfl s5_1) ?_; refine L.val rfl (op_sub (c := ((k - a : Nat) : Int)) rfl rfl rfl (by omega) (by omega)) ?_; refine L.val rfl (op_geq rfl rfl rfl) ?_; refine L.nil ?_; refine thenF_nor ?_; refine W.cond (t := decide (2 ≤ ((k - a : Nat) : Int))) rfl (fun hc12 => ?_) (fun hc12 => ?_)
       ·have hp12 := of_decide_eq_true hc12; have hfd : fixDown lt a k (swp dk k (k - 1)) = shiftDown lt (k - 1) (swp dk k (k - 1)) := by unfold fixDown; rw [if_pos]; have h := hc12; simp only [decide_eq_true_eq] at h; omega
        refine W.seq ?_; refine W.region (by rfl) ?_; refine L.val rfl (op_move rfl s5_7) ?_; refine L.val rfl (op_sub (c := ((k - 1 : Nat) : Int)) rfl rfl rfl (by omega) (by omega)) ?_; refine L.val rfl (op_assign rfl rfl) ?_; refine L.nil ?_; refine thenF_nor ?_; refine W.block ?_; have S13_hB1 := hB1; have S13_hS11 := hS11; have S13_hE := hE; have S13_hF := hF; refine W.loopg (γ := Nat × Array α) (fun (g : Nat × Array α) (f : Fr) (w : World) => g.2.size = n ∧ g.1 < k ∧ shiftDown lt g.1 g.2 = shiftDown lt (k - 1) (swp dk k (k - 1)) ∧ f 1 = (.int .i64 ((a : Nat) : Int)) ∧ f 2 = (.int .i64 ((b : Nat) : Int)) ∧ f 3 = (.pointer (some ⟨b1, 0, none⟩)) ∧ f 7 = (.int .i64 ((k : Nat) : Int)) ∧ f 8 = (.int .i64 ((s : Nat) : Int)) ∧ f 13 = (.int .i64 ((s : Nat) : Int)) ∧ f 14 = (.bool (decide (((s : Nat) : Int) < 5))) ∧ f 17 = (.int .i64 ((k : Nat) : Int)) ∧ f 18 = (.int .i64 ((b : Nat) : Int)) ∧ f 19 = (.bool (decide (((k : Nat) : Int) < ((b : Nat) : Int)))) ∧ f 20 = (.bool (decide (((k : Nat) : Int) < ((b : Nat) : Int)))) ∧ f 21 = (vif (decide (((k : Nat) : Int) < ((b : Nat) : Int))) (.pointer (some ⟨b1, 0, none⟩))) ∧ f 22 = (vif (decide (((k : Nat) : Int) < ((b : Nat) : Int))) lv) ∧ f 23 = (vif (decide (((k : Nat) : Int) < ((b : Nat) : Int))) (.int .i64 ((k : Nat) : Int))) ∧ f 24 = (vif (decide (((k : Nat) : Int) < ((b : Nat) : Int))) (.int .i64 ((k : Nat) : Int))) ∧ f 25 = (vif (decide (((k : Nat) : Int) < ((b : Nat) : Int))) (.int .i64 ((k - 1 : Nat) : Int))) ∧ f 26 = (vif (decide (((k : Nat) : Int) < ((b : Nat) : Int))) (.bool (lt dk[k]! dk[k - 1]!))) ∧ f 27 = (vif (decide (((k : Nat) : Int) < ((b : Nat) : Int))) (.bool (!(lt dk[k]! dk[k - 1]!)))) ∧ f 28 = (.bool ((decide (((k : Nat) : Int) < ((b : Nat) : Int))) && (!(lt dk[k]! dk[k - 1]!)))) ∧ f 31 = (.int .i64 ((k : Nat) : Int)) ∧ f 32 = (.int .i64 ((b : Nat) : Int)) ∧ f 33 = (.bool (decide (((k : Nat) : Int) = ((b : Nat) : Int)))) ∧ f 34 = (.int .i64 ((b : Nat) : Int)) ∧ f 35 = (.int .i64 ((a : Nat) : Int)) ∧ f 36 = (.int .i64 ((b - a : Nat) : Int)) ∧ f 37 = (.bool (decide (((b - a : Nat) : Int) < 50))) ∧ f 38 = (.pointer (some ⟨b1, 1, none⟩)) ∧ f 39 = sv ∧ f 40 = (.int .i64 ((k : Nat) : Int)) ∧ f 41 = (.int .i64 ((k : Nat) : Int)) ∧ f 42 = (.int .i64 ((k - 1 : Nat) : Int)) ∧ f 44 = (.int .i64 ((k : Nat) : Int)) ∧ f 45 = (.int .i64 ((a : Nat) : Int)) ∧ f 46 = (.int .i64 ((k - a : Nat) : Int)) ∧ f 47 = (.bool (decide (2 ≤ ((k - a : Nat) : Int)))) ∧ f 48 = (.int .i64 ((k : Nat) : Int)) ∧ f 49 = (.int .i64 ((k - 1 : Nat) : Int)) ∧ f 9 = (.int .i64 ((g.1 : Nat) : Int)) ∧ Hld w blk off g.2 ∧ Far blk w10 w) (fun (g : Nat × Array α) => g.1) (k - 1, (swp dk k (k - 1))) ⟨((size_swp _ _ _).trans hz5), (by (try dsimp only); omega), rfl, s5_1, s5_2, s5_3, s5_7, s5_8, s5_13, s5_14, rfl, rfl, rfl, rfl, rfl, rfl, rfl, rfl, rfl, rfl, rfl, rfl, rfl, rfl, rfl, rfl, rfl, rfl, rfl, rfl, rfl, rfl, rfl, rfl, rfl, rfl, rfl, rfl, rfl, rfl, rfl, hH, Far.refl _ _⟩ ?_; rintro ⟨j, dj⟩ f13 w13 ⟨hz13, hjk, hDn, s13_1, s13_2, s13_3, s13_7, s13_8, s13_13, s13_14, s13_17, s13_18, s13_19, s13_20, s13_21, s13_22, s13_23, s13_24, s13_25, s13_26, s13_27, s13_28, s13_31, s13_32, s13_33, s13_34, s13_35, s13_36, s13_37, s13_38, s13_39, s13_40, s13_41, s13_42, s13_44, s13_45, s13_46, s13_47, s13_48, s13_49, s13_9, hH, hS13⟩; dsimp only at hz13 hjk hDn s13_1 s13_2 s13_3 s13_7 s13_8 s13_13 s13_14 s13_17 s13_18 s13_19 s13_20 s13_21 s13_22 s13_23 s13_24 s13_25 s13_26 s13_27 s13_28 s13_31 s13_32 s13_33 s13_34 s13_35 s13_36 s13_37 s13_38 s13_39 s13_40 s13_41 s13_42 s13_44 s13_45 s13_46 s13_47 s13_48 s13_49 s13_9 hH hS13; have hB1 := S13_hB1.farx hS13 ne1; have hS11 := S13_hS11.trans hS13; have hE := S13_hE.trans hS13; have hF := S13_hF.trans hS13; refine W.seq ?_; refine W.seq ?_; refine W.region (by rfl) ?_; refine L.val rfl (op_move rfl s13_9) ?_; refine L.val rfl (op_geq rfl rfl rfl) ?_; refine L.nil ?_; refine thenF_nor ?_; refine W.cond (t := decide (1 ≤ ((j : Nat) : Int))) rfl (fun hc14 => ?_) (fun hc14 => ?_)
        ·have hp14 := of_decide_eq_true hc14; have hj1 : 1 ≤ j := by have h := hc14; simp only [decide_eq_true_eq] at h; omega
         refine W.skip ?_; refine thenF_nor ?_; refine W.seq ?_; refine W.block ?_; refine W.seq ?_; refine W.seq ?_; refine W.region (by rfl) ?_; refine L.val rfl (op_field rfl s13_3 fo126_0 rfl) ?_; refine L.val rfl (op_load1 rfl rfl one77 (hB1.cells.one (n := 0) rfl)) ?_; refine L.val rfl (op_move rfl s13_9) ?_; refine L.val rfl (op_move rfl s13_9) ?_; refine L.val rfl (op_sub (c := ((j - 1 : Nat) : Int)) rfl rfl rfl (by omega) (by omega)) ?_; refine L.call (v := (.bool (lt dj[j]! dj[j - 1]!))) rfl (op_less (i := j) (j := j - 1) hL hF hz13 hH rfl rfl rfl rfl rfl rfl (by omega) (by omega)) ?_; intro w15 hx15; have hE := hE.trans (hx15.far blk); have hF := hF.trans (hx15.far blk); have hS11 := hS11.trans (hx15.far blk); have hS13 := hS13.trans (hx15.far blk); have hB1 := hB1.ext hx15; have hH := hH.ext hx15; refine L.val rfl (op_not rfl rfl) ?_; refine L.nil ?_; refine thenF_nor ?_; refine W.cond (t := !(lt dj[j]! dj[j - 1]!)) rfl (fun hc16 => ?_) (fun hc16 => ?_)
         ·have hp16 := hc16; have hdn : fixDown lt a k (swp dk k (k - 1)) = dj := by rw [hfd, ← hDn, shiftDown_stop lt j dj (Or.inr (by have h := hc16; simpa only [Bool.not_eq_true'] using h))]
          refine W.exit ?_; refine thenF_exit ?_; refine blockF_miss rfl ?_; refine thenF_exit ?_; refine thenF_exit ?_; refine blockF_hit ?_; refine thenF_nor ?_; exact ⟨dj, hz13, hdn.symm, s13_1, s13_2, s13_3, s13_7, s13_8, s13_13, s13_14, s13_17, s13_18, s13_19, s13_20, s13_21, s13_22, s13_23, s13_24, s13_25, s13_26, s13_27, s13_28, s13_31, s13_32, s13_33, s13_34, s13_35, s13_36, s13_37, s13_38, s13_39, s13_40, s13_41, s13_42, hH, hS11⟩
         ·have hp16 := hc16; have hjl := hc16; simp only [Bool.not_eq_false'] at hjl; refine W.skip ?_; refine thenF_nor ?_; refine W.region (by rfl) ?_; refine L.val rfl (op_field rfl s13_3 fo126_1 rfl) ?_; refine L.val rfl (op_load1 rfl rfl one121 (hB1.cells.one (n := 1) rfl)) ?_; refine L.val rfl (op_move rfl s13_9) ?_; refine L.val rfl (op_move rfl s13_9) ?_; refine L.val rfl (op_sub (c := ((j - 1 : Nat) : Int)) rfl rfl rfl (by omega) (by omega)) ?_; refine L.step rfl (op_swap (i := j) (j := j - 1) hS hz13 hH rfl rfl rfl rfl rfl rfl (by omega) (by omega)) ?_; rintro _ w17 ⟨hH17, hg17⟩; have hE := hE.trans hg17; have hF := hF.trans hg17; have hS13 := hS13.trans hg17; have hH := hH17; refine L.nil ?_; refine blockF_nor ?_; refine thenF_nor ?_; refine W.region (by rfl) ?_; refine L.val rfl (op_move rfl s13_9) ?_; refine L.val rfl (op_sub (c := ((j - 1 : Nat) : Int)) rfl rfl rfl (by omega) (by omega)) ?_; refine L.val rfl (op_assign rfl rfl) ?_; refine L.nil ?_; refine thenF_nor ?_; exact ⟨(j - 1, (swp dj j (j - 1))), ⟨((size_swp _ _ _).trans hz13), (by (try dsimp only); omega), (by dsimp only; rw [← hDn, shiftDown_go lt j dj hj1 hjl]), s13_1, s13_2, s13_3, s13_7, s13_8, s13_13, s13_14, s13_17, s13_18, s13_19, s13_20, s13_21, s13_22, s13_23, s13_24, s13_25, s13_26, s13_27, s13_28, s13_31, s13_32, s13_33, s13_34, s13_35, s13_36, s13_37, s13_38, s13_39, s13_40, s13_41, s13_42, s13_44, s13_45, s13_46, s13_47, s13_48, s13_49, rfl, hH, hS13⟩, (by (try dsimp only); omega)⟩
        ·have hp14 := of_decide_eq_false hc14; have hdn : fixDown lt a k (swp dk k (k - 1)) = dj := by rw [hfd, ← hDn, shiftDown_stop lt j dj (Or.inl (by have h := hc14; simp only [decide_eq_false_iff_not] at h; omega))]
         refine W.exit ?_; refine thenF_exit ?_; refine thenF_exit ?_; refine blockF_hit ?_; refine thenF_nor ?_; exact ⟨dj, hz13, hdn.symm, s13_1, s13_2, s13_3, s13_7, s13_8, s13_13, s13_14, s13_17, s13_18, s13_19, s13_20, s13_21, s13_22, s13_23, s13_24, s13_25, s13_26, s13_27, s13_28, s13_31, s13_32, s13_33, s13_34, s13_35, s13_36, s13_37, s13_38, s13_39, s13_40, s13_41, s13_42, hH, hS11⟩
       ·have hp12 := of_decide_eq_false hc12; have hdn : fixDown lt a k (swp dk k (k - 1)) = (swp dk k (k - 1)) := by unfold fixDown; rw [if_neg]; have h := hc12; simp only [decide_eq_false_iff_not] at h; omega
        refine W.skip ?_; refine thenF_nor ?_; exact ⟨(swp dk k (k - 1)), ((size_swp _ _ _).trans hz5), hdn.symm, s5_1, s5_2, s5_3, s5_7, s5_8, s5_13, s5_14, rfl, rfl, rfl, rfl, rfl, rfl, rfl, rfl, rfl, rfl, rfl, rfl, rfl, rfl, rfl, rfl, rfl, rfl, rfl, rfl, rfl, rfl, rfl, rfl, hH, hS11⟩
      ·rintro f11 w11 ⟨d1, hz11, hd1, s11_1, s11_2, s11_3, s11_7, s11_8, s11_13, s11_14, s11_17, s11_18, s11_19, s11_20, s11_21, s11_22, s11_23, s11_24, s11_25, s11_26, s11_27, s11_28, s11_31, s11_32, s11_33, s11_34, s11_35, s11_36, s11_37, s11_38, s11_39, s11_40, s11_41, s11_42, hH, hS11⟩; have hB1 := S11_hB1.farx hS11 ne1; have hS4 := S11_hS4.trans hS11; have hE := S11_hE.trans hS11; have hF := S11_hF.trans hS11; refine W.seq ?_; refine W.region (by rfl) ?_; refine L.val rfl (op_move rfl s11_2) ?_; refine L.val rfl (op_move rfl s11_7) ?_; refine L.val rfl (op_sub (c := ((b - k : Nat) : Int)) rfl rfl rfl (by omega) (by omega)) ?_; refine L.val rfl (op_geq rfl rfl rfl) ?_; refine L.nil ?_; refine thenF_nor ?_; refine W.cond (t := decide (2 ≤ ((b - k : Nat) : Int))) rfl (fun hc18 => ?_) (fun hc18 => ?_)
       ·have hp18 := of_decide_eq_true hc18; have hfu : fixUp lt b k d1 = shiftUp lt b (k + 1) d1 := by unfold fixUp; rw [if_pos]; have h := hc18; simp only [decide_eq_true_eq] at h; omega
        refine W.seq ?_; refine W.region (by rfl) ?_; refine L.val rfl (op_move rfl s11_7) ?_; refine L.val rfl (op_add (c := ((k + 1 : Nat) : Int)) rfl rfl rfl (by omega) (by omega)) ?_; refine L.val rfl (op_assign rfl rfl) ?_; refine L.nil ?_; refine thenF_nor ?_; refine W.block ?_; have S19_hB1 := hB1; have S19_hS4 := hS4; have S19_hE := hE; have S19_hF := hF; refine W.loopg (γ := Nat × Array α) (fun (g : Nat × Array α) (f : Fr) (w : World) => g.2.size = n ∧ k < g.1 ∧ g.1 ≤ b ∧ shiftUp lt b g.1 g.2 = shiftUp lt b (k + 1) d1 ∧ f 1 = (.int .i64 ((a : Nat) : Int)) ∧ f 2 = (.int .i64 ((b : Nat) : Int)) ∧ f 3 = (.pointer (some ⟨b1, 0, none⟩)) ∧ f 7 = (.int .i64 ((k : Nat) : Int)) ∧ f 8 = (.int .i64 ((s : Nat) : Int)) ∧ f 13 = (.int .i64 ((s : Nat) : Int)) ∧ f 14 = (.bool (decide (((s : Nat) : Int) < 5))) ∧ f 17 = (.int .i64 ((k : Nat) : Int)) ∧ f 18 = (.int .i64 ((b : Nat) : Int)) ∧ f 19 = (.bool (decide (((k : Nat) : Int) < ((b : Nat) : Int)))) ∧ f 20 = (.bool (decide (((k : Nat) : Int) < ((b : Nat) : Int)))) ∧ f 21 = (vif (decide (((k : Nat) : Int) < ((b : Nat) : Int))) (.pointer (some ⟨b1, 0, none⟩))) ∧ f 22 = (vif (decide (((k : Nat) : Int) < ((b : Nat) : Int))) lv) ∧ f 23 = (vif (decide (((k : Nat) : Int) < ((b : Nat) : Int))) (.int .i64 ((k : Nat) : Int))) ∧ f 24 = (vif (decide (((k : Nat) : Int) < ((b : Nat) : Int))) (.int .i64 ((k : Nat) : Int))) ∧ f 25 = (vif (decide (((k : Nat) : Int) < ((b : Nat) : Int))) (.int .i64 ((k - 1 : Nat) : Int))) ∧ f 26 = (vif (decide (((k : Nat) : Int) < ((b : Nat) : Int))) (.bool (lt dk[k]! dk[k - 1]!))) ∧ f 27 = (vif (decide (((k : Nat) : Int) < ((b : Nat) : Int))) (.bool (!(lt dk[k]! dk[k - 1]!)))) ∧ f 28 = (.bool ((decide (((k : Nat) : Int) < ((b : Nat) : Int))) && (!(lt dk[k]! dk[k - 1]!)))) ∧ f 31 = (.int .i64 ((k : Nat) : Int)) ∧ f 32 = (.int .i64 ((b : Nat) : Int)) ∧ f 33 = (.bool (decide (((k : Nat) : Int) = ((b : Nat) : Int)))) ∧ f 34 = (.int .i64 ((b : Nat) : Int)) ∧ f 35 = (.int .i64 ((a : Nat) : Int)) ∧ f 36 = (.int .i64 ((b - a : Nat) : Int)) ∧ f 37 = (.bool (decide (((b - a : Nat) : Int) < 50))) ∧ f 38 = (.pointer (some ⟨b1, 1, none⟩)) ∧ f 39 = sv ∧ f 40 = (.int .i64 ((k : Nat) : Int)) ∧ f 41 = (.int .i64 ((k : Nat) : Int)) ∧ f 42 = (.int .i64 ((k - 1 : Nat) : Int)) ∧ f 67 = (.int .i64 ((b : Nat) : Int)) ∧ f 68 = (.int .i64 ((k : Nat) : Int)) ∧ f 69 = (.int .i64 ((b - k : Nat) : Int)) ∧ f 70 = (.bool (decide (2 ≤ ((b - k : Nat) : Int)))) ∧ f 71 = (.int .i64 ((k : Nat) : Int)) ∧ f 72 = (.int .i64 ((k + 1 : Nat) : Int)) ∧ f 10 = (.int .i64 ((g.1 : Nat) : Int)) ∧ Hld w blk off g.2 ∧ Far blk w11 w) (fun (g : Nat × Array α) => b - g.1) (k + 1, d1) ⟨hz11, (by (try dsimp only); omega), (by (try dsimp only); omega), rfl, s11_1, s11_2, s11_3, s11_7, s11_8, s11_13, s11_14, s11_17, s11_18, s11_19, s11_20, s11_21, s11_22, s11_23, s11_24, s11_25, s11_26, s11_27, s11_28, s11_31, s11_32, s11_33, s11_34, s11_35, s11_36, s11_37, s11_38, s11_39, s11_40, s11_41, s11_42, rfl, rfl, rfl, rfl, rfl, rfl, rfl, hH, Far.refl _ _⟩ ?_; rintro ⟨j, dj⟩ f19 w19 ⟨hz19, hjk, hjb, hUp, s19_1, s19_2, s19_3, s19_7, s19_8, s19_13, s19_14, s19_17, s19_18, s19_19, s19_20, s19_21, s19_22, s19_23, s19_24, s19_25, s19_26, s19_27, s19_28, s19_31, s19_32, s19_33, s19_34, s19_35, s19_36, s19_37, s19_38, s19_39, s19_40, s19_41, s19_42, s19_67, s19_68, s19_69, s19_70, s19_71, s19_72, s19_10, hH, hS19⟩; dsimp only at hz19 hjk hjb hUp s19_1 s19_2 s19_3 s19_7 s19_8 s19_13 s19_14 s19_17 s19_18 s19_19 s19_20 s19_21 s19_22 s19_23 s19_24 s19_25 s19_26 s19_27 s19_28 s19_31 s19_32 s19_33 s19_34 s19_35 s19_36 s19_37 s19_38 s19_39 s19_40 s19_41 s19_42 s19_67 s19_68 s19_69 s19_70 s19_71 s19_72 s19_10 hH hS19; have hB1 := S19_hB1.farx hS19 ne1; have hS4 := S19_hS4.trans hS19; have hE := S19_hE.trans hS19; have hF := S19_hF.trans hS19; refine W.seq ?_; refine W.seq ?_; refine W.region (by rfl) ?_; refine L.val rfl (op_move rfl s19_10) ?_; refine L.val rfl (op_move rfl s19_2) ?_; refine L.val rfl (op_lss rfl rfl rfl) ?_; refine L.nil ?_; refine thenF_nor ?_; refine W.cond (t := decide (((j : Nat) : Int) < ((b : Nat) : Int))) rfl (fun hc20 => ?_) (fun hc20 => ?_)
        ·have hp20 := of_decide_eq_true hc20; have hj1 : j < b := by have h := hc20; simp only [decide_eq_true_eq] at h; omega
         refine W.skip ?_; refine thenF_nor ?_; refine W.seq ?_; refine W.block ?_; refine W.seq ?_; refine W.seq ?_; refine W.region (by rfl) ?_; refine L.val rfl (op_field rfl s19_3 fo126_0 rfl) ?_; refine L.val rfl (op_load1 rfl rfl one77 (hB1.cells.one (n := 0) rfl)) ?_; refine L.val rfl (op_move rfl s19_10) ?_; refine L.val rfl (op_move rfl s19_10) ?_; refine L.val rfl (op_sub (c := ((j - 1 : Nat) : Int)) rfl rfl rfl (by omega) (by omega)) ?_; refine L.call (v := (.bool (lt dj[j]! dj[j - 1]!))) rfl (op_less (i := j) (j := j - 1) hL hF hz19 hH rfl rfl rfl rfl rfl rfl (by omega) (by omega)) ?_; intro w21 hx21; have hE := hE.trans (hx21.far blk); have hF := hF.trans (hx21.far blk); have hS4 := hS4.trans (hx21.far blk); have hS19 := hS19.trans (hx21.far blk); have hB1 := hB1.ext hx21; have hH := hH.ext hx21; refine L.val rfl (op_not rfl rfl) ?_; refine L.nil ?_; refine thenF_nor ?_; refine W.cond (t := !(lt dj[j]! dj[j - 1]!)) rfl (fun hc22 => ?_) (fun hc22 => ?_)
         ·have hp22 := hc22; have hup : fixUp lt b k d1 = dj := by rw [hfu, ← hUp, shiftUp_stop lt b j dj (Or.inr (by have h := hc22; simpa only [Bool.not_eq_true'] using h))]
          refine W.exit ?_; refine thenF_exit ?_; refine blockF_miss rfl ?_; refine thenF_exit ?_; refine thenF_exit ?_; refine blockF_hit ?_; refine blockF_nor ?_; refine thenF_nor ?_; exact ⟨k, dj, hz19, (by (try dsimp only); omega), (by (try dsimp only); omega), (by rw [pi_go lt a b s i k dk hs5 hK hkb h50, ← hd1, hup]), s19_1, s19_2, s19_3, s19_8, s19_13, s19_14, s19_7, hH, hS4⟩
         ·have hp22 := hc22; have hjl := hc22; simp only [Bool.not_eq_false'] at hjl; refine W.skip ?_; refine thenF_nor ?_; refine W.region (by rfl) ?_; refine L.val rfl (op_field rfl s19_3 fo126_1 rfl) ?_; refine L.val rfl (op_load1 rfl rfl one121 (hB1.cells.one (n := 1) rfl)) ?_; refine L.val rfl (op_move rfl s19_10) ?_; refine L.val rfl (op_move rfl s19_10) ?_; refine L.val rfl (op_sub (c := ((j - 1 : Nat) : Int)) rfl rfl rfl (by omega) (by omega)) ?_; refine L.step rfl (op_swap (i := j) (j := j - 1) hS hz19 hH rfl rfl rfl rfl rfl rfl (by omega) (by omega)) ?_; rintro _ w23 ⟨hH23, hg23⟩; have hE := hE.trans hg23; have hF := hF.trans hg23; have hS19 := hS19.trans hg23; have hH := hH23; refine L.nil ?_; refine blockF_nor ?_; refine thenF_nor ?_; refine W.region (by rfl) ?_; refine L.val rfl (op_move rfl s19_10) ?_; refine L.val rfl (op_add (c := ((j + 1 : Nat) : Int)) rfl rfl rfl (by omega) (by omega)) ?_; refine L.val rfl (op_assign rfl rfl) ?_; refine L.nil ?_; refine thenF_nor ?_; exact ⟨(j + 1, (swp dj j (j - 1))), ⟨((size_swp _ _ _).trans hz19), (by (try dsimp only); omega), (by (try dsimp only); omega), (by dsimp only; rw [← hUp, shiftUp_go lt b j dj hj1 hjl]), s19_1, s19_2, s19_3, s19_7, s19_8, s19_13, s19_14, s19_17, s19_18, s19_19, s19_20, s19_21, s19_22, s19_23, s19_24, s19_25, s19_26, s19_27, s19_28, s19_31, s19_32, s19_33, s19_34, s19_35, s19_36, s19_37, s19_38, s19_39, s19_40, s19_41, s19_42, s19_67, s19_68, s19_69, s19_70, s19_71, s19_72, rfl, hH, hS19⟩, (by (try dsimp only); omega)⟩
        ·have hp20 := of_decide_eq_false hc20; have hup : fixUp lt b k d1 = dj := by rw [hfu, ← hUp, shiftUp_stop lt b j dj (Or.inl (by have h := hc20; simp only [decide_eq_false_iff_not] at h; omega))]
         refine W.exit ?_; refine thenF_exit ?_; refine thenF_exit ?_; refine blockF_hit ?_; refine blockF_nor ?_; refine thenF_nor ?_; exact ⟨k, dj, hz19, (by (try dsimp only); omega), (by (try dsimp only); omega), (by rw [pi_go lt a b s i k dk hs5 hK hkb h50, ← hd1, hup]), s19_1, s19_2, s19_3, s19_8, s19_13, s19_14, s19_7, hH, hS4⟩
       ·have hp18 := of_decide_eq_false hc18; have hup : fixUp lt b k d1 = d1 := by unfold fixUp; rw [if_neg]; have h := hc18; simp only [decide_eq_false_iff_not] at h; omega
        refine W.skip ?_; refine blockF_nor ?_; refine thenF_nor ?_; exact ⟨k, d1, hz11, (by (try dsimp only); omega), (by (try dsimp only); omega), (by rw [pi_go lt a b s i k dk hs5 hK hkb h50, ← hd1, hup]), s11_1, s11_2, s11_3, s11_8, s11_13, s11_14, s11_7, hH, hS4⟩
  ·rintro f4 w4 ⟨k3, d2, hz4, hk31, hk32, hstep, s4_1, s4_2, s4_3, s4_8, s4_13, s4_14, s4_7, hH, hS4⟩; have hS2 := S4_hS2.trans hS4; have hE := S4_hE.trans hS4; have hF := S4_hF.trans hS4; refine W.region (by rfl) ?_; refine L.val rfl (op_move rfl s4_8) ?_; refine L.val rfl (op_add (c := ((s + 1 : Nat) : Int)) rfl rfl rfl (by omega) (by omega)) ?_; refine L.val rfl (op_assign rfl rfl) ?_; refine L.nil ?_; refine thenF_nor ?_; exact ⟨(k3, s + 1, d2), ⟨hz4, (by (try dsimp only); omega), (by (try dsimp only); omega), (by (try dsimp only); omega), (by dsimp only; rw [← hO, hstep]), s4_1, s4_2, s4_3, s4_7, rfl, hH, hS2⟩, (by (try dsimp only); omega)⟩
 ·have hp3 := of_decide_eq_false hc3; have hs5 : s = 5 := by have h := hc3; simp only [decide_eq_false_iff_not] at h; omega
  have hres : Sort.partialInsertionSort lt d a b = (dk, false) := by unfold Sort.partialInsertionSort; rw [← hO, hs5]; exact pi_end lt a b i dk
  refine W.exit ?_; refine thenF_exit ?_; refine thenF_exit ?_; refine blockF_hit ?_; refine thenF_nor ?_; refine W.seq ?_; refine W.region (by rfl) ?_; refine L.val rfl (op_assign rfl rfl) ?_; refine L.nil ?_; refine thenF_nor ?_; refine W.ret ?_; exact end_ret1 (v := (.bool false)) rfl rfl ⟨by rw [hres], by rw [hres]; exact hH, by rw [hres]; exact hz2, hE⟩
end Go.Proofs.YtdknjfmjddlphaaGreat
/-
  Contracts of functions of sort.Slice for a comparison that may lay blocks, each with its walk. Printed by a program of this session (wip/gen) from the translation.
-/
set_option linter.unusedSimpArgs false
set_option linter.unusedVariables false
namespace Go.Proofs.YtdknjfmjddlphaaGreat
open Go Go.Fk Go.Sort
set_option maxRecDepth 100000 in
theorem order2_ok {α : Type} [Enc α] [Inhabited α] {lt : α → α → Bool} {lv sv : Value} {blk off n : Nat} {w0 w : World} {d : Array α} {bs : Nat} {c : Int} {a b : Nat} (hL : LessOk Tryz.prog lt lv blk off n w0) (hF : Far blk w0 w) (hblk : blk < w.heap.size) (hn : n < 4611686018427387904) (hs : d.size = n) (hH : Hld w blk off d) (hb0 : w0.heap.size ≤ bs) (hne : blk ≠ bs) (hP : Box w bs 3 [.int .i64 c]) (ha : a < n) (hb : b < n) : Gives Tryz.prog 193 #[(.agg #[lv, sv]), (.int .i64 ((a : Nat) : Int)), (.int .i64 ((b : Nat) : Int)), (.pointer (some ⟨bs, 0, none⟩))] w fun u w' => ∃ (p q : Nat) (c' : Int), u = .tuple #[.int .i64 ((p : Nat) : Int), .int .i64 ((q : Nat) : Int)] ∧ ((p = a ∧ q = b) ∨ (p = b ∧ q = a)) ∧ Box w' bs 3 [.int .i64 c'] ∧ Far bs w w' := by
 have hE : Far bs w w := Far.refl bs w; refine gives_of_W Tryz.func193 rfl Tryz.ntmps193 rfl ?_; refine W.seq ?_; refine W.region (by rfl) ?_; refine L.step rfl (op_box (cs := [lv, sv]) rfl rfl rfl) ?_; rintro _ w1 ⟨b1, rfl, hb1, hB1, hx1⟩; have ne1 : b1 ≠ bs := by have := hE.size; have := hP.lt; omega
 have hE := hE.trans (hx1.far bs); have hF := hF.trans (hx1.far blk); have hP := hP.ext hx1; have hH := hH.ext hx1; refine L.val rfl (op_assign rfl rfl) ?_; refine L.val rfl (op_assign rfl rfl) ?_; refine L.nil ?_; refine thenF_nor ?_; refine W.seq ?_; refine W.seq ?_; refine W.region (by rfl) ?_; refine L.val rfl (op_field rfl rfl fo126_0 rfl) ?_; refine L.val rfl (op_load1 rfl rfl one77 (hB1.cells.one (n := 0) rfl)) ?_; refine L.val rfl (op_move rfl rfl) ?_; refine L.val rfl (op_move rfl rfl) ?_; refine L.call (v := (.bool (lt d[b]! d[a]!))) rfl (op_less (i := b) (j := a) hL hF hs hH rfl rfl rfl rfl rfl rfl (by omega) (by omega)) ?_; intro w2 hx2; have hE := hE.trans (hx2.far bs); have hF := hF.trans (hx2.far blk); have hP := hP.ext hx2; have hH := hH.ext hx2; refine L.nil ?_; refine thenF_nor ?_; refine W.cond (t := lt d[b]! d[a]!) rfl (fun hc3 => ?_) (fun hc3 => ?_)
 ·have hp3 := hc3; refine W.seq ?_; refine W.region (by rfl) ?_; refine L.val rfl (op_move rfl rfl) ?_; refine L.val rfl (op_nilCheck rfl rfl) ?_; refine L.val rfl (op_load1 rfl rfl one3 (hP.cells.one (n := 0) rfl)) ?_; refine L.val rfl (op_addw rfl rfl rfl) ?_; refine L.val rfl (op_nilCheck rfl rfl) ?_; refine L.step rfl (op_store1 (v := (.int .i64 (IntKind.i64.wrap (c + 1)))) rfl rfl rfl si3 hP rfl rfl) ?_; rintro _ w4 ⟨hP4, hg4⟩; have hE := hE.trans hg4; have hF := hF.into hg4 hb0; have hH := hH.farx hg4 hne; have hP := hP4; refine L.nil ?_; refine thenF_nor ?_; refine W.seq ?_; refine W.region (by rfl) ?_; refine L.val rfl (op_move rfl rfl) ?_; refine L.val rfl (op_move rfl rfl) ?_; refine L.val rfl (op_assign rfl rfl) ?_; refine L.val rfl (op_assign rfl rfl) ?_; refine L.nil ?_; refine thenF_nor ?_; refine W.ret ?_; refine thenF_ret ?_; exact end_ret2 (v := (.int .i64 ((b : Nat) : Int))) (v' := (.int .i64 ((a : Nat) : Int))) rfl rfl rfl ⟨_, _, _, rfl, Or.inr ⟨rfl, rfl⟩, hP, hE⟩
 ·have hp3 := hc3; refine W.skip ?_; refine thenF_nor ?_; refine W.seq ?_; refine W.region (by rfl) ?_; refine L.val rfl (op_move rfl rfl) ?_; refine L.val rfl (op_move rfl rfl) ?_; refine L.val rfl (op_assign rfl rfl) ?_; refine L.val rfl (op_assign rfl rfl) ?_; refine L.nil ?_; refine thenF_nor ?_; refine W.ret ?_; exact end_ret2 (v := (.int .i64 ((a : Nat) : Int))) (v' := (.int .i64 ((b : Nat) : Int))) rfl rfl rfl ⟨_, _, _, rfl, Or.inl ⟨rfl, rfl⟩, hP, hE⟩
set_option maxRecDepth 100000 in
theorem median_ok {α : Type} [Enc α] [Inhabited α] {lt : α → α → Bool} {lv sv : Value} {blk off n : Nat} {w0 w : World} {d : Array α} {bs : Nat} {c : Int} {a b c0 : Nat} (hL : LessOk Tryz.prog lt lv blk off n w0) (hF : Far blk w0 w) (hblk : blk < w.heap.size) (hn : n < 4611686018427387904) (hs : d.size = n) (hH : Hld w blk off d) (hb0 : w0.heap.size ≤ bs) (hne : blk ≠ bs) (hP : Box w bs 3 [.int .i64 c]) (ha : a < n) (hb : b < n) (hc : c0 < n) : Gives Tryz.prog 189 #[(.agg #[lv, sv]), (.int .i64 ((a : Nat) : Int)), (.int .i64 ((b : Nat) : Int)), (.int .i64 ((c0 : Nat) : Int)), (.pointer (some ⟨bs, 0, none⟩))] w fun u w' => ∃ (p : Nat) (c' : Int), u = .int .i64 ((p : Nat) : Int) ∧ (p = a ∨ p = b ∨ p = c0) ∧ Box w' bs 3 [.int .i64 c'] ∧ Far bs w w' := by
 have hE : Far bs w w := Far.refl bs w; refine gives_of_W Tryz.func189 rfl Tryz.ntmps189 rfl ?_; refine W.seq ?_; refine W.region (by rfl) ?_; refine L.step rfl (op_box (cs := [lv, sv]) rfl rfl rfl) ?_; rintro _ w1 ⟨b1, rfl, hb1, hB1, hx1⟩; have ne1 : b1 ≠ bs := by have := hE.size; have := hP.lt; omega
 have hE := hE.trans (hx1.far bs); have hF := hF.trans (hx1.far blk); have hP := hP.ext hx1; have hH := hH.ext hx1; refine L.val rfl (op_assign rfl rfl) ?_; refine L.nil ?_; refine thenF_nor ?_; refine W.seq ?_; refine W.region (by rfl) ?_; refine L.val rfl (op_loadc (cs := [lv, sv]) rfl rfl ag126 si126 hB1.cells) ?_; refine L.val rfl (op_move rfl rfl) ?_; refine L.val rfl (op_move rfl rfl) ?_; refine L.val rfl (op_move rfl rfl) ?_; refine L.step rfl (OpS.call (op_call rfl (argsC rfl (argsC rfl (argsC rfl (argsC rfl argsN)))) Tryz.func193 rfl rfl) (order2_ok (a := a) (b := b) hL hF (Nat.lt_of_lt_of_le hblk hE.size) hn hs hH hb0 hne hP (by omega) (by omega))) ?_; rintro _ w2 ⟨p2, q2, c2, rfl, hpq2, hP2, hg2⟩; have hE := hE.trans hg2; have hF := hF.into hg2 hb0; have hB1 := hB1.farx hg2 ne1; have hH := hH.farx hg2 hne; have hP := hP2; refine L.val rfl (op_move rfl rfl) ?_; refine L.val rfl (op_extract rfl rfl rfl) ?_; refine L.val rfl (op_extract rfl rfl rfl) ?_; refine L.val rfl (op_assign rfl rfl) ?_; refine L.val rfl (op_assign rfl rfl) ?_; refine L.nil ?_; refine thenF_nor ?_; refine W.seq ?_; refine W.region (by rfl) ?_; refine L.val rfl (op_loadc (cs := [lv, sv]) rfl rfl ag126 si126 hB1.cells) ?_; refine L.val rfl (op_move rfl rfl) ?_; refine L.val rfl (op_move rfl rfl) ?_; refine L.val rfl (op_move rfl rfl) ?_; refine L.step rfl (OpS.call (op_call rfl (argsC rfl (argsC rfl (argsC rfl (argsC rfl argsN)))) Tryz.func193 rfl rfl) (order2_ok (a := q2) (b := c0) hL hF (Nat.lt_of_lt_of_le hblk hE.size) hn hs hH hb0 hne hP (by omega) (by omega))) ?_; rintro _ w3 ⟨p3, q3, c3, rfl, hpq3, hP3, hg3⟩; have hE := hE.trans hg3; have hF := hF.into hg3 hb0; have hB1 := hB1.farx hg3 ne1; have hH := hH.farx hg3 hne; have hP := hP3; refine L.val rfl (op_move rfl rfl) ?_; refine L.val rfl (op_extract rfl rfl rfl) ?_; refine L.val rfl (op_extract rfl rfl rfl) ?_; refine L.val rfl (op_assign rfl rfl) ?_; refine L.val rfl (op_assign rfl rfl) ?_; refine L.nil ?_; refine thenF_nor ?_; refine W.seq ?_; refine W.region (by rfl) ?_; refine L.val rfl (op_loadc (cs := [lv, sv]) rfl rfl ag126 si126 hB1.cells) ?_; refine L.val rfl (op_move rfl rfl) ?_; refine L.val rfl (op_move rfl rfl) ?_; refine L.val rfl (op_move rfl rfl) ?_; refine L.step rfl (OpS.call (op_call rfl (argsC rfl (argsC rfl (argsC rfl (argsC rfl argsN)))) Tryz.func193 rfl rfl) (order2_ok (a := p2) (b := p3) hL hF (Nat.lt_of_lt_of_le hblk hE.size) hn hs hH hb0 hne hP (by omega) (by omega))) ?_; rintro _ w4 ⟨p4, q4, c4, rfl, hpq4, hP4, hg4⟩; have hE := hE.trans hg4; have hF := hF.into hg4 hb0; have hH := hH.farx hg4 hne; have hP := hP4; refine L.val rfl (op_move rfl rfl) ?_; refine L.val rfl (op_extract rfl rfl rfl) ?_; refine L.val rfl (op_extract rfl rfl rfl) ?_; refine L.val rfl (op_assign rfl rfl) ?_; refine L.val rfl (op_assign rfl rfl) ?_; refine L.nil ?_; refine thenF_nor ?_; refine W.seq ?_; refine W.region (by rfl) ?_; refine L.val rfl (op_move rfl rfl) ?_; refine L.val rfl (op_assign rfl rfl) ?_; refine L.nil ?_; refine thenF_nor ?_; refine W.ret ?_; exact end_ret1 (v := (.int .i64 ((q4 : Nat) : Int))) rfl rfl ⟨_, _, rfl, by omega, hP, hE⟩
set_option maxRecDepth 100000 in
theorem medianAdjacent_ok {α : Type} [Enc α] [Inhabited α] {lt : α → α → Bool} {lv sv : Value} {blk off n : Nat} {w0 w : World} {d : Array α} {bs : Nat} {c : Int} {a : Nat} (hL : LessOk Tryz.prog lt lv blk off n w0) (hF : Far blk w0 w) (hblk : blk < w.heap.size) (hn : n < 4611686018427387904) (hs : d.size = n) (hH : Hld w blk off d) (hb0 : w0.heap.size ≤ bs) (hne : blk ≠ bs) (hP : Box w bs 3 [.int .i64 c]) (ha : 1 ≤ a) (hb : a + 1 < n) : Gives Tryz.prog 188 #[(.agg #[lv, sv]), (.int .i64 ((a : Nat) : Int)), (.pointer (some ⟨bs, 0, none⟩))] w fun u w' => ∃ (p : Nat) (c' : Int), u = .int .i64 ((p : Nat) : Int) ∧ (p = a - 1 ∨ p = a ∨ p = a + 1) ∧ Box w' bs 3 [.int .i64 c'] ∧ Far bs w w' := by
 have hE : Far bs w w := Far.refl bs w; refine gives_of_W Tryz.func188 rfl Tryz.ntmps188 rfl ?_; refine W.seq ?_; refine W.region (by rfl) ?_; refine L.step rfl (op_box (cs := [lv, sv]) rfl rfl rfl) ?_; rintro _ w1 ⟨b1, rfl, hb1, hB1, hx1⟩; have ne1 : b1 ≠ bs := by have := hE.size; have := hP.lt; omega
 have hE := hE.trans (hx1.far bs); have hF := hF.trans (hx1.far blk); have hP := hP.ext hx1; have hH := hH.ext hx1; refine L.val rfl (op_assign rfl rfl) ?_; refine L.nil ?_; refine thenF_nor ?_; refine W.seq ?_; refine W.region (by rfl) ?_; refine L.val rfl (op_loadc (cs := [lv, sv]) rfl rfl ag126 si126 hB1.cells) ?_; refine L.val rfl (op_move rfl rfl) ?_; refine L.val rfl (op_sub (c := ((a - 1 : Nat) : Int)) rfl rfl rfl (by omega) (by omega)) ?_; refine L.val rfl (op_move rfl rfl) ?_; refine L.val rfl (op_move rfl rfl) ?_; refine L.val rfl (op_add (c := ((a + 1 : Nat) : Int)) rfl rfl rfl (by omega) (by omega)) ?_; refine L.val rfl (op_move rfl rfl) ?_; refine L.step rfl (OpS.call (op_call rfl (argsC rfl (argsC rfl (argsC rfl (argsC rfl (argsC rfl argsN))))) Tryz.func189 rfl rfl) (median_ok (a := a - 1) (b := a) (c0 := a + 1) hL hF (Nat.lt_of_lt_of_le hblk hE.size) hn hs hH hb0 hne hP (by omega) (by omega) (by omega))) ?_; rintro _ w2 ⟨p2, c2, rfl, hpq2, hP2, hg2⟩; have hE := hE.trans hg2; have hF := hF.into hg2 hb0; have hH := hH.farx hg2 hne; have hP := hP2; refine L.val rfl (op_assign rfl rfl) ?_; refine L.nil ?_; refine thenF_nor ?_; refine W.ret ?_; exact end_ret1 (v := (.int .i64 ((p2 : Nat) : Int))) rfl rfl ⟨_, _, rfl, by omega, hP, hE⟩
set_option maxRecDepth 100000 in
set_option maxHeartbeats 8000000 in
theorem choosePivot_ok {α : Type} [Enc α] [Inhabited α] {lt : α → α → Bool} {lv sv : Value} {blk off n : Nat} {w0 w : World} {d : Array α} {a b : Nat} (hL : LessOk Tryz.prog lt lv blk off n w0) (hF : Far blk w0 w) (hblk : blk < w.heap.size) (hn : n < 4611686018427387904) (hs : d.size = n) (hH : Hld w blk off d) (hab : a < b) (hb : b ≤ n) : Gives Tryz.prog 166 #[(.agg #[lv, sv]), (.int .i64 ((a : Nat) : Int)), (.int .i64 ((b : Nat) : Int))] w fun u w' => ∃ (p : Nat) (h : Int), u = .tuple #[.int .i64 ((p : Nat) : Int), .int .i64 h] ∧ a ≤ p ∧ p < b ∧ Ext w w' := by
 have hE : Ext w w := Ext.refl w; refine gives_of_W Tryz.func166 rfl Tryz.ntmps166 rfl ?_; refine W.seq ?_; refine W.region (by rfl) ?_; refine L.step rfl (op_box (cs := [lv, sv]) rfl rfl rfl) ?_; rintro _ w1 ⟨b1, rfl, hb1, hB1, hx1⟩; have hlt1 := hB1.lt; have hE := hE.trans hx1; have hF := hF.trans (hx1.far blk); have hH := hH.ext hx1; refine L.val rfl (op_assign rfl rfl) ?_; refine L.val rfl (op_assign rfl rfl) ?_; refine L.nil ?_; refine thenF_nor ?_; refine W.seq ?_; refine W.region (by rfl) ?_; refine L.val rfl (op_move rfl rfl) ?_; refine L.val rfl (op_move rfl rfl) ?_; refine L.val rfl (op_sub (c := ((b - a : Nat) : Int)) rfl rfl rfl (by omega) (by omega)) ?_; refine L.val rfl (op_assign rfl rfl) ?_; refine L.nil ?_; refine thenF_nor ?_; refine W.seq ?_; refine W.region (by rfl) ?_; refine L.step rfl (op_alloc (z := .int .i64 0) (cs := [.int .i64 0]) rfl (by kernel_rfl) rfl) ?_; rintro _ w2 ⟨bs, rfl, hbs2, hP, hx2⟩; have hbs0 : w.heap.size ≤ bs := by have := hE.size; omega
 have hb0 : w0.heap.size ≤ bs := by have := hF.size; omega
 have hne : blk ≠ bs := by omega
 have ne_hB1 : b1 ≠ bs := by have := hB1.lt; omega
 have hE := hE.trans hx2; have hF := hF.trans (hx2.far blk); have hB1 := hB1.ext hx2; have hH := hH.ext hx2; refine L.nil ?_; refine thenF_nor ?_; refine W.seq ?_; refine W.region (by rfl) ?_; refine L.val rfl (op_move rfl rfl) ?_; refine L.val rfl (op_move rfl rfl) ?_; refine L.val rfl (op_quoc (c := (((b - a) / 4 : Nat) : Int)) rfl rfl rfl (by omega) (by omega) (by omega) (by omega)) ?_; refine L.val rfl (op_mulc (c := ((((b - a) / 4) * 1 : Nat) : Int)) rfl rfl rfl (by omega) (by omega)) ?_; refine L.val rfl (op_add (c := ((a + (((b - a) / 4) * 1) : Nat) : Int)) rfl rfl rfl (by omega) (by omega)) ?_; refine L.val rfl (op_assign rfl rfl) ?_; refine L.nil ?_; refine thenF_nor ?_; refine W.seq ?_; refine W.region (by rfl) ?_; refine L.val rfl (op_move rfl rfl) ?_; refine L.val rfl (op_move rfl rfl) ?_; refine L.val rfl (op_quoc (c := (((b - a) / 4 : Nat) : Int)) rfl rfl rfl (by omega) (by omega) (by omega) (by omega)) ?_; refine L.val rfl (op_mulc (c := ((((b - a) / 4) * 2 : Nat) : Int)) rfl rfl rfl (by omega) (by omega)) ?_; refine L.val rfl (op_add (c := ((a + (((b - a) / 4) * 2) : Nat) : Int)) rfl rfl rfl (by omega) (by omega)) ?_; refine L.val rfl (op_assign rfl rfl) ?_; refine L.nil ?_; refine thenF_nor ?_; refine W.seq ?_; refine W.region (by rfl) ?_; refine L.val rfl (op_move rfl rfl) ?_; refine L.val rfl (op_move rfl rfl) ?_; refine L.val rfl (op_quoc (c := (((b - a) / 4 : Nat) : Int)) rfl rfl rfl (by omega) (by omega) (by omega) (by omega)) ?_; refine L.val rfl (op_mulc (c := ((((b - a) / 4) * 3 : Nat) : Int)) rfl rfl rfl (by omega) (by omega)) ?_; refine L.val rfl (op_add (c := ((a + (((b - a) / 4) * 3) : Nat) : Int)) rfl rfl rfl (by omega) (by omega)) ?_; refine L.val rfl (op_assign rfl rfl) ?_; refine L.nil ?_; refine thenF_nor ?_; refine W.seq ?_; refine W.seq ?_; refine W.region (by rfl) ?_; refine L.val rfl (op_move rfl rfl) ?_; refine L.val rfl (op_geq rfl rfl rfl) ?_; refine L.nil ?_; refine thenF_nor ?_; refine W.cond (t := decide (8 ≤ ((b - a : Nat) : Int))) rfl (fun hc3 => ?_) (fun hc3 => ?_)
 ·have hp3 := of_decide_eq_true hc3; refine W.seq ?_; refine W.seq ?_; refine W.region (by rfl) ?_; refine L.val rfl (op_move rfl rfl) ?_; refine L.val rfl (op_geq rfl rfl rfl) ?_; refine L.nil ?_; refine thenF_nor ?_; refine W.cond (t := decide (50 ≤ ((b - a : Nat) : Int))) rfl (fun hc4 => ?_) (fun hc4 => ?_)
  ·have hp4 := of_decide_eq_true hc4; refine W.seq ?_; refine W.region (by rfl) ?_; refine L.val rfl (op_loadc (cs := [lv, sv]) rfl rfl ag126 si126 hB1.cells) ?_; refine L.val rfl (op_move rfl rfl) ?_; refine L.step rfl (OpS.call (op_call rfl (argsC rfl (argsC rfl (argsC rfl argsN))) Tryz.func188 rfl rfl) (medianAdjacent_ok (a := a + (((b - a) / 4) * 1)) hL hF (Nat.lt_of_lt_of_le hblk hE.size) hn hs hH hb0 hne hP (by omega) (by omega))) ?_; rintro _ w5 ⟨p5, c5, rfl, hpq5, hP5, hg5⟩; have hE := hE.grown hg5 (by intro k hk; cases hk; exact hbs0); have hF := hF.into hg5 hb0; have hB1 := hB1.farx hg5 ne_hB1; have hH := hH.farx hg5 hne; have hP := hP5; refine L.val rfl (op_assign rfl rfl) ?_; refine L.nil ?_; refine thenF_nor ?_; refine W.seq ?_; refine W.region (by rfl) ?_; refine L.val rfl (op_loadc (cs := [lv, sv]) rfl rfl ag126 si126 hB1.cells) ?_; refine L.val rfl (op_move rfl rfl) ?_; refine L.step rfl (OpS.call (op_call rfl (argsC rfl (argsC rfl (argsC rfl argsN))) Tryz.func188 rfl rfl) (medianAdjacent_ok (a := a + (((b - a) / 4) * 2)) hL hF (Nat.lt_of_lt_of_le hblk hE.size) hn hs hH hb0 hne hP (by omega) (by omega))) ?_; rintro _ w6 ⟨p6, c6, rfl, hpq6, hP6, hg6⟩; have hE := hE.grown hg6 (by intro k hk; cases hk; exact hbs0); have hF := hF.into hg6 hb0; have hB1 := hB1.farx hg6 ne_hB1; have hH := hH.farx hg6 hne; have hP := hP6; refine L.val rfl (op_assign rfl rfl) ?_; refine L.nil ?_; refine thenF_nor ?_; refine W.region (by rfl) ?_; refine L.val rfl (op_loadc (cs := [lv, sv]) rfl rfl ag126 si126 hB1.cells) ?_; refine L.val rfl (op_move rfl rfl) ?_; refine L.step rfl (OpS.call (op_call rfl (argsC rfl (argsC rfl (argsC rfl argsN))) Tryz.func188 rfl rfl) (medianAdjacent_ok (a := a + (((b - a) / 4) * 3)) hL hF (Nat.lt_of_lt_of_le hblk hE.size) hn hs hH hb0 hne hP (by omega) (by omega))) ?_; rintro _ w7 ⟨p7, c7, rfl, hpq7, hP7, hg7⟩; have hE := hE.grown hg7 (by intro k hk; cases hk; exact hbs0); have hF := hF.into hg7 hb0; have hB1 := hB1.farx hg7 ne_hB1; have hH := hH.farx hg7 hne; have hP := hP7; refine L.val rfl (op_assign rfl rfl) ?_; refine L.nil ?_; refine thenF_nor ?_; refine W.region (by rfl) ?_; refine L.val rfl (op_loadc (cs := [lv, sv]) rfl rfl ag126 si126 hB1.cells) ?_; refine L.val rfl (op_move rfl rfl) ?_; refine L.val rfl (op_move rfl rfl) ?_; refine L.val rfl (op_move rfl rfl) ?_; refine L.step rfl (OpS.call (op_call rfl (argsC rfl (argsC rfl (argsC rfl (argsC rfl (argsC rfl argsN))))) Tryz.func189 rfl rfl) (median_ok (a := p5) (b := p6) (c0 := p7) hL hF (Nat.lt_of_lt_of_le hblk hE.size) hn hs hH hb0 hne hP (by omega) (by omega) (by omega))) ?_; rintro _ w8 ⟨p8, c8, rfl, hpq8, hP8, hg8⟩; have hE := hE.grown hg8 (by intro k hk; cases hk; exact hbs0); have hF := hF.into hg8 hb0; have hH := hH.farx hg8 hne; have hP := hP8; refine L.val rfl (op_assign rfl rfl) ?_; refine L.nil ?_; refine thenF_nor ?_; refine W.seq ?_; refine W.region (by rfl) ?_; refine L.val rfl (op_load1 rfl rfl one3 (hP.cells.one (n := 0) rfl)) ?_; refine L.nil ?_; refine thenF_nor ?_; refine W.block ?_; refine W.seq ?_; refine W.region (by rfl) ?_; refine L.val rfl (op_eql rfl rfl rfl) ?_; refine L.val rfl (op_assign rfl rfl) ?_; refine L.nil ?_; refine thenF_nor ?_; refine W.cond (t := decide (c8 = 0)) rfl (fun hc9 => ?_) (fun hc9 => ?_)
   ·have hp9 := of_decide_eq_true hc9; refine W.seq ?_; refine W.region (by rfl) ?_; refine L.val rfl (op_move rfl rfl) ?_; refine L.val rfl (op_assign rfl rfl) ?_; refine L.val rfl (op_assign rfl rfl) ?_; refine L.nil ?_; refine thenF_nor ?_; refine W.ret ?_; refine blockF_ret ?_; exact end_ret2 (v := (.int .i64 ((p8 : Nat) : Int))) (v' := (.int .i64 1)) rfl rfl rfl ⟨_, _, rfl, by omega, by omega, hE⟩
   ·have hp9 := of_decide_eq_false hc9; refine W.seq ?_; refine W.region (by rfl) ?_; refine L.val rfl (op_eql rfl rfl rfl) ?_; refine L.val rfl (op_assign rfl rfl) ?_; refine L.nil ?_; refine thenF_nor ?_; refine W.cond (t := decide (c8 = 12)) rfl (fun hc10 => ?_) (fun hc10 => ?_)
    ·have hp10 := of_decide_eq_true hc10; refine W.seq ?_; refine W.region (by rfl) ?_; refine L.val rfl (op_move rfl rfl) ?_; refine L.val rfl (op_assign rfl rfl) ?_; refine L.val rfl (op_assign rfl rfl) ?_; refine L.nil ?_; refine thenF_nor ?_; refine W.ret ?_; refine blockF_ret ?_; exact end_ret2 (v := (.int .i64 ((p8 : Nat) : Int))) (v' := (.int .i64 2)) rfl rfl rfl ⟨_, _, rfl, by omega, by omega, hE⟩
    ·have hp10 := of_decide_eq_false hc10; refine W.seq ?_; refine W.region (by rfl) ?_; refine L.val rfl (op_move rfl rfl) ?_; refine L.val rfl (op_assign rfl rfl) ?_; refine L.val rfl (op_assign rfl rfl) ?_; refine L.nil ?_; refine thenF_nor ?_; refine W.ret ?_; refine blockF_ret ?_; exact end_ret2 (v := (.int .i64 ((p8 : Nat) : Int))) (v' := (.int .i64 0)) rfl rfl rfl ⟨_, _, rfl, by omega, by omega, hE⟩
  ·have hp4 := of_decide_eq_false hc4; refine W.skip ?_; refine thenF_nor ?_; refine W.region (by rfl) ?_; refine L.val rfl (op_loadc (cs := [lv, sv]) rfl rfl ag126 si126 hB1.cells) ?_; refine L.val rfl (op_move rfl rfl) ?_; refine L.val rfl (op_move rfl rfl) ?_; refine L.val rfl (op_move rfl rfl) ?_; refine L.step rfl (OpS.call (op_call rfl (argsC rfl (argsC rfl (argsC rfl (argsC rfl (argsC rfl argsN))))) Tryz.func189 rfl rfl) (median_ok (a := a + (((b - a) / 4) * 1)) (b := a + (((b - a) / 4) * 2)) (c0 := a + (((b - a) / 4) * 3)) hL hF (Nat.lt_of_lt_of_le hblk hE.size) hn hs hH hb0 hne hP (by omega) (by omega) (by omega))) ?_; rintro _ w11 ⟨p11, c11, rfl, hpq11, hP11, hg11⟩; have hE := hE.grown hg11 (by intro k hk; cases hk; exact hbs0); have hF := hF.into hg11 hb0; have hH := hH.farx hg11 hne; have hP := hP11; refine L.val rfl (op_assign rfl rfl) ?_; refine L.nil ?_; refine thenF_nor ?_; refine W.seq ?_; refine W.region (by rfl) ?_; refine L.val rfl (op_load1 rfl rfl one3 (hP.cells.one (n := 0) rfl)) ?_; refine L.nil ?_; refine thenF_nor ?_; refine W.block ?_; refine W.seq ?_; refine W.region (by rfl) ?_; refine L.val rfl (op_eql rfl rfl rfl) ?_; refine L.val rfl (op_assign rfl rfl) ?_; refine L.nil ?_; refine thenF_nor ?_; refine W.cond (t := decide (c11 = 0)) rfl (fun hc12 => ?_) (fun hc12 => ?_)
   ·have hp12 := of_decide_eq_true hc12; refine W.seq ?_; refine W.region (by rfl) ?_; refine L.val rfl (op_move rfl rfl) ?_; refine L.val rfl (op_assign rfl rfl) ?_; refine L.val rfl (op_assign rfl rfl) ?_; refine L.nil ?_; refine thenF_nor ?_; refine W.ret ?_; refine blockF_ret ?_; exact end_ret2 (v := (.int .i64 ((p11 : Nat) : Int))) (v' := (.int .i64 1)) rfl rfl rfl ⟨_, _, rfl, by omega, by omega, hE⟩
   ·have hp12 := of_decide_eq_false hc12; refine W.seq ?_; refine W.region (by rfl) ?_; refine L.val rfl (op_eql rfl rfl rfl) ?_; refine L.val rfl (op_assign rfl rfl) ?_; refine L.nil ?_; refine thenF_nor ?_; refine W.cond (t := decide (c11 = 12)) rfl (fun hc13 => ?_) (fun hc13 => ?_)
    ·have hp13 := of_decide_eq_true hc13; refine W.seq ?_; refine W.region (by rfl) ?_; refine L.val rfl (op_move rfl rfl) ?_; refine L.val rfl (op_assign rfl rfl) ?_; refine L.val rfl (op_assign rfl rfl) ?_; refine L.nil ?_; refine thenF_nor ?_; refine W.ret ?_; refine blockF_ret ?_; exact end_ret2 (v := (.int .i64 ((p11 : Nat) : Int))) (v' := (.int .i64 2)) rfl rfl rfl ⟨_, _, rfl, by omega, by omega, hE⟩
    ·have hp13 := of_decide_eq_false hc13; refine W.seq ?_; refine W.region (by rfl) ?_; refine L.val rfl (op_move rfl rfl) ?_; refine L.val rfl (op_assign rfl rfl) ?_; refine L.val rfl (op_assign rfl rfl) ?_; refine L.nil ?_; refine thenF_nor ?_; refine W.ret ?_; refine blockF_ret ?_; exact end_ret2 (v := (.int .i64 ((p11 : Nat) : Int))) (v' := (.int .i64 0)) rfl rfl rfl ⟨_, _, rfl, by omega, by omega, hE⟩
 ·have hp3 := of_decide_eq_false hc3; refine W.skip ?_; refine thenF_nor ?_; refine W.seq ?_; refine W.region (by rfl) ?_; refine L.val rfl (op_load1 rfl rfl one3 (hP.cells.one (n := 0) rfl)) ?_; refine L.nil ?_; refine thenF_nor ?_; refine W.block ?_; refine W.seq ?_; refine W.region (by rfl) ?_; refine L.val rfl (op_eql rfl rfl rfl) ?_; refine L.val rfl (op_assign rfl rfl) ?_; refine L.nil ?_; refine thenF_nor ?_; refine W.cond (t := decide (0 = 0)) rfl (fun hc14 => ?_) (fun hc14 => ?_)
  ·have hp14 := of_decide_eq_true hc14; refine W.seq ?_; refine W.region (by rfl) ?_; refine L.val rfl (op_move rfl rfl) ?_; refine L.val rfl (op_assign rfl rfl) ?_; refine L.val rfl (op_assign rfl rfl) ?_; refine L.nil ?_; refine thenF_nor ?_; refine W.ret ?_; refine blockF_ret ?_; exact end_ret2 (v := (.int .i64 ((a + (((b - a) / 4) * 2) : Nat) : Int))) (v' := (.int .i64 1)) rfl rfl rfl ⟨_, _, rfl, by omega, by omega, hE⟩
  ·have hp14 := of_decide_eq_false hc14; refine W.seq ?_; refine W.region (by rfl) ?_; refine L.val rfl (op_eql rfl rfl rfl) ?_; refine L.val rfl (op_assign rfl rfl) ?_; refine L.nil ?_; refine thenF_nor ?_; refine W.cond (t := decide (0 = 12)) rfl (fun hc15 => ?_) (fun hc15 => ?_)
   ·have hp15 := of_decide_eq_true hc15; refine W.seq ?_; refine W.region (by rfl) ?_; refine L.val rfl (op_move rfl rfl) ?_; refine L.val rfl (op_assign rfl rfl) ?_; refine L.val rfl (op_assign rfl rfl) ?_; refine L.nil ?_; refine thenF_nor ?_; refine W.ret ?_; refine blockF_ret ?_; exact end_ret2 (v := (.int .i64 ((a + (((b - a) / 4) * 2) : Nat) : Int))) (v' := (.int .i64 2)) rfl rfl rfl ⟨_, _, rfl, by omega, by omega, hE⟩
   ·have hp15 := of_decide_eq_false hc15; refine W.seq ?_; refine W.region (by rfl) ?_; refine L.val rfl (op_move rfl rfl) ?_; refine L.val rfl (op_assign rfl rfl) ?_; refine L.val rfl (op_assign rfl rfl) ?_; refine L.nil ?_; refine thenF_nor ?_; refine W.ret ?_; refine blockF_ret ?_; exact end_ret2 (v := (.int .i64 ((a + (((b - a) / 4) * 2) : Nat) : Int))) (v' := (.int .i64 0)) rfl rfl rfl ⟨_, _, rfl, by omega, by omega, hE⟩
end Go.Proofs.YtdknjfmjddlphaaGreat
/-
  The kit's contracts of sort.Slice's functions, laid at this program: the table of numbers, and that the program bears the closure. Printed by a program of this session.
-/
namespace Go.Proofs.YtdknjfmjddlphaaGreat
open Go Go.Proofs Go.Shelf
def sv6_ren : Go.Shelf.Ren := ⟨fun | 6 => 62 | 10 => 107 | 11 => 108 | 12 => 109 | 13 => 110 | 14 => 111 | 24 => 161 | 25 => 162 | 26 => 163 | 27 => 164 | 28 => 165 | 29 => 166 | 30 => 167 | 31 => 168 | 32 => 169 | 33 => 170 | 34 => 185 | 35 => 186 | 36 => 187 | 37 => 188 | 38 => 189 | 39 => 193 | n => n, fun | 20 => 20 | 26 => 77 | 35 => 119 | 0 => 0 | 37 => 121 | 3 => 3 | 41 => 52 | 44 => 126 | 49 => 147 | 51 => 54 | 4 => 4 | 54 => 156 | 53 => 155 | 58 => 160 | 5 => 5 | 9 => 9 | 60 => 166 | 64 => 170 | 66 => 174 | 67 => 175 | 17 => 17 | 32 => 116 | 33 => 117 | 82 => 190 | 12 => 12 | 75 => 183 | 76 => 184 | 77 => 185 | 78 => 186 | 79 => 187 | 80 => 188 | n => n, fun n => n⟩
theorem sv6 : LaysGg.n6 Tryz.prog sv6_ren := {
  mixed := by kernel_rfl,
  f6 := Tryz.func62.trans (congrArg some (by kernel_rfl)),
  f10 := Tryz.func107.trans (congrArg some (by kernel_rfl)),
  f11 := Tryz.func108.trans (congrArg some (by kernel_rfl)),
  f12 := Tryz.func109.trans (congrArg some (by kernel_rfl)),
  f13 := Tryz.func110.trans (congrArg some (by kernel_rfl)),
  f14 := Tryz.func111.trans (congrArg some (by kernel_rfl)),
  f24 := Tryz.func161.trans (congrArg some (by kernel_rfl)),
  f25 := Tryz.func162.trans (congrArg some (by kernel_rfl)),
  f26 := Tryz.func163.trans (congrArg some (by kernel_rfl)),
  f27 := Tryz.func164.trans (congrArg some (by kernel_rfl)),
  f28 := Tryz.func165.trans (congrArg some (by kernel_rfl)),
  f29 := Tryz.func166.trans (congrArg some (by kernel_rfl)),
  f30 := Tryz.func167.trans (congrArg some (by kernel_rfl)),
  f31 := Tryz.func168.trans (congrArg some (by kernel_rfl)),
  f32 := Tryz.func169.trans (congrArg some (by kernel_rfl)),
  f33 := Tryz.func170.trans (congrArg some (by kernel_rfl)),
  f34 := Tryz.func185.trans (congrArg some (by kernel_rfl)),
  f35 := Tryz.func186.trans (congrArg some (by kernel_rfl)),
  f36 := Tryz.func187.trans (congrArg some (by kernel_rfl)),
  f37 := Tryz.func188.trans (congrArg some (by kernel_rfl)),
  f38 := Tryz.func189.trans (congrArg some (by kernel_rfl)),
  f39 := Tryz.func193.trans (congrArg some (by kernel_rfl)),
  t0 := Tryz.underlying0,
  a0 := Tryz.isAgg0,
  z0 := Tryz.sizeOf0,
  v0 := Tryz.zeroValue0,
  i0 := by kernel_rfl,
  t3 := Tryz.underlying3,
  a3 := Tryz.isAgg3,
  z3 := Tryz.sizeOf3,
  v3 := Tryz.zeroValue3,
  i3 := by kernel_rfl,
  t4 := Tryz.underlying4,
  a4 := Tryz.isAgg4,
  z4 := Tryz.sizeOf4,
  v4 := Tryz.zeroValue4,
  i4 := by kernel_rfl,
  t5 := Tryz.underlying5,
  a5 := Tryz.isAgg5,
  z5 := Tryz.sizeOf5,
  v5 := Tryz.zeroValue5,
  i5 := by kernel_rfl,
  t9 := Tryz.underlying9,
  a9 := Tryz.isAgg9,
  z9 := Tryz.sizeOf9,
  v9 := Tryz.zeroValue9,
  i9 := by kernel_rfl,
  t12 := Tryz.underlying12,
  a12 := Tryz.isAgg12,
  z12 := Tryz.sizeOf12,
  v12 := Tryz.zeroValue12,
  i12 := by kernel_rfl,
  t17 := Tryz.underlying17,
  a17 := Tryz.isAgg17,
  z17 := Tryz.sizeOf17,
  v17 := Tryz.zeroValue17,
  i17 := by kernel_rfl,
  t20 := Tryz.underlying20,
  a20 := Tryz.isAgg20,
  z20 := Tryz.sizeOf20,
  v20 := Tryz.zeroValue20,
  i20 := by kernel_rfl,
  t26 := Tryz.underlying77,
  a26 := Tryz.isAgg77,
  z26 := Tryz.sizeOf77,
  v26 := Tryz.zeroValue77,
  i26 := by kernel_rfl,
  t32 := Tryz.underlying116,
  a32 := Tryz.isAgg116,
  z32 := Tryz.sizeOf116,
  v32 := Tryz.zeroValue116,
  i32 := by kernel_rfl,
  t33 := Tryz.underlying117,
  a33 := Tryz.isAgg117,
  z33 := Tryz.sizeOf117,
  v33 := Tryz.zeroValue117,
  i33 := by kernel_rfl,
  t35 := Tryz.underlying119,
  a35 := Tryz.isAgg119,
  z35 := Tryz.sizeOf119,
  v35 := Tryz.zeroValue119,
  i35 := by kernel_rfl,
  t37 := Tryz.underlying121,
  a37 := Tryz.isAgg121,
  z37 := Tryz.sizeOf121,
  v37 := Tryz.zeroValue121,
  i37 := by kernel_rfl,
  t41 := Tryz.underlying52,
  a41 := Tryz.isAgg52,
  z41 := Tryz.sizeOf52,
  v41 := Tryz.zeroValue52,
  i41 := by kernel_rfl,
  t44 := Tryz.underlying126,
  a44 := Tryz.isAgg126,
  z44 := Tryz.sizeOf126,
  v44 := Tryz.zeroValue126,
  i44 := by kernel_rfl,
  t49 := Tryz.underlying147,
  a49 := Tryz.isAgg147,
  z49 := Tryz.sizeOf147,
  v49 := Tryz.zeroValue147,
  i49 := by kernel_rfl,
  t51 := Tryz.underlying54,
  a51 := Tryz.isAgg54,
  z51 := Tryz.sizeOf54,
  v51 := Tryz.zeroValue54,
  i51 := by kernel_rfl,
  t53 := Tryz.underlying155,
  a53 := Tryz.isAgg155,
  z53 := Tryz.sizeOf155,
  v53 := Tryz.zeroValue155,
  i53 := by kernel_rfl,
  t54 := Tryz.underlying156,
  a54 := Tryz.isAgg156,
  z54 := Tryz.sizeOf156,
  v54 := Tryz.zeroValue156,
  i54 := by kernel_rfl,
  t58 := Tryz.underlying160,
  a58 := Tryz.isAgg160,
  z58 := Tryz.sizeOf160,
  v58 := Tryz.zeroValue160,
  i58 := by kernel_rfl,
  t60 := Tryz.underlying166,
  a60 := Tryz.isAgg166,
  z60 := Tryz.sizeOf166,
  v60 := Tryz.zeroValue166,
  i60 := by kernel_rfl,
  t64 := Tryz.underlying170,
  a64 := Tryz.isAgg170,
  z64 := Tryz.sizeOf170,
  v64 := Tryz.zeroValue170,
  i64 := by kernel_rfl,
  t66 := Tryz.underlying174,
  a66 := Tryz.isAgg174,
  z66 := Tryz.sizeOf174,
  v66 := Tryz.zeroValue174,
  i66 := by kernel_rfl,
  t67 := Tryz.underlying175,
  a67 := Tryz.isAgg175,
  z67 := Tryz.sizeOf175,
  v67 := Tryz.zeroValue175,
  i67 := by kernel_rfl,
  t75 := Tryz.underlying183,
  a75 := Tryz.isAgg183,
  z75 := Tryz.sizeOf183,
  v75 := Tryz.zeroValue183,
  i75 := by kernel_rfl,
  t76 := Tryz.underlying184,
  a76 := Tryz.isAgg184,
  z76 := Tryz.sizeOf184,
  v76 := Tryz.zeroValue184,
  i76 := by kernel_rfl,
  t77 := Tryz.underlying185,
  a77 := Tryz.isAgg185,
  z77 := Tryz.sizeOf185,
  v77 := Tryz.zeroValue185,
  i77 := by kernel_rfl,
  t78 := Tryz.underlying186,
  a78 := Tryz.isAgg186,
  z78 := Tryz.sizeOf186,
  v78 := Tryz.zeroValue186,
  i78 := by kernel_rfl,
  t79 := Tryz.underlying187,
  a79 := Tryz.isAgg187,
  z79 := Tryz.sizeOf187,
  v79 := Tryz.zeroValue187,
  i79 := by kernel_rfl,
  t80 := Tryz.underlying188,
  a80 := Tryz.isAgg188,
  z80 := Tryz.sizeOf188,
  v80 := Tryz.zeroValue188,
  i80 := by kernel_rfl,
  t82 := Tryz.underlying190,
  a82 := Tryz.isAgg190,
  z82 := Tryz.sizeOf190,
  v82 := Tryz.zeroValue190,
  i82 := by kernel_rfl }
end Go.Proofs.YtdknjfmjddlphaaGreat
/-
  sort.breakPatterns_func and sort.reverseRange_func make no comparison: the kit's own contracts, told in this session's words: they leave a permutation of the part.
-/
namespace Go.Proofs.YtdknjfmjddlphaaGreat
open Go Go.Fk Go.Sort Go.Shelf
theorem breakPatterns_ok {α : Type} [Enc α] [Inhabited α] {lt : α → α → Bool} {lv sv : Value} {blk off n : Nat} {w0 w : World} {d : Array α} {a b : Nat} (hL : LessOk Tryz.prog lt lv blk off n w0) (hS : SwapOk α Tryz.prog sv blk off n) (_hF : Far blk w0 w) (hblk : blk < w.heap.size) (hn : n < 4611686018427387904) (hs : d.size = n) (hH : Hld w blk off d) (hab : a ≤ b) (hb : b ≤ n) :
    Gives Tryz.prog 165 #[(.agg #[lv, sv]), (.int .i64 ((a : Nat) : Int)), (.int .i64 ((b : Nat) : Int))] w fun u w' => u = .tuple #[] ∧ ∃ d', PermIn a b d d' ∧ Hld w' blk off d' ∧ Far blk w w' := by
  obtain ⟨g, lb, fn, rfl, _, _, _, _⟩ := hL
  obtain ⟨sf, sb, rfl, hsw⟩ := hS
  subst hs
  refine Calls.mono (Any.breakPatterns_func_cells_w (P := Tryz.prog) (ρ := sv6_ren) { sv6 with } (Enc.cells (α := α)) (Enc.size α) Enc.len (.func g) #[] lb sf sb blk off a b d w hsw hH hblk hab hb hn) ?_
  rintro e w' ⟨rfl, m, os, rfl⟩
  have hp := breakPatterns_holds d a b hab hb
  exact ⟨_, rfl, rfl, _, hp, holdsK_sortWorldK _ _ w blk off m d _ os hblk hH hp.1, far_sortWorldK _ _ w blk off m _ os⟩
theorem reverseRange_ok {α : Type} [Enc α] [Inhabited α] {lt : α → α → Bool} {lv sv : Value} {blk off n : Nat} {w0 w : World} {d : Array α} {a b : Nat} (hL : LessOk Tryz.prog lt lv blk off n w0) (hS : SwapOk α Tryz.prog sv blk off n) (_hF : Far blk w0 w) (hblk : blk < w.heap.size) (hn : n < 4611686018427387904) (hs : d.size = n) (hH : Hld w blk off d) (hab : a ≤ b) (hb : b ≤ n) :
    Gives Tryz.prog 167 #[(.agg #[lv, sv]), (.int .i64 ((a : Nat) : Int)), (.int .i64 ((b : Nat) : Int))] w fun u w' => u = .tuple #[] ∧ ∃ d', PermIn a b d d' ∧ Hld w' blk off d' ∧ Far blk w w' := by
  obtain ⟨g, lb, fn, rfl, _, _, _, _⟩ := hL
  obtain ⟨sf, sb, rfl, hsw⟩ := hS
  subst hs
  refine Calls.mono (Any.reverseRange_func_cells_w (P := Tryz.prog) (ρ := sv6_ren) { sv6 with } (Enc.cells (α := α)) (Enc.size α) Enc.len (.func g) #[] lb sf sb blk off a b d w hsw hH hblk hab hb hn) ?_
  rintro e w' ⟨rfl, m, os, rfl⟩
  have hp := reverseRange_holds d a b hab hb
  exact ⟨_, rfl, rfl, _, hp, holdsK_sortWorldK _ _ w blk off m d _ os hblk hH hp.1, far_sortWorldK _ _ w blk off m _ os⟩
end Go.Proofs.YtdknjfmjddlphaaGreat
/-
  Contracts of functions of sort.Slice for a comparison that may lay blocks, each with its walk. Printed by a program of this session (wip/gen) from the translation.
-/
set_option linter.unusedSimpArgs false
set_option linter.unusedVariables false
namespace Go.Proofs.YtdknjfmjddlphaaGreat
open Go Go.Fk Go.Sort
set_option maxRecDepth 100000 in
set_option maxHeartbeats 16000000 in
theorem pdqsort_ok {α : Type} [Enc α] [Inhabited α] {lt : α → α → Bool} {lv sv : Value} {blk off n : Nat} (hO : SWO lt) : ∀ (N : Nat) {a b limit : Nat} {w0 w : World} {d : Array α}, b - a < N → LessOk Tryz.prog lt lv blk off n w0 → SwapOk α Tryz.prog sv blk off n → Far blk w0 w → blk < w.heap.size → n < 4611686018427387904 → d.size = n → Hld w blk off d → a ≤ b → b ≤ n → limit < 4611686018427387904 → Sort.Below lt a b d → Gives Tryz.prog 111 #[(.agg #[lv, sv]), (.int .i64 ((a : Nat) : Int)), (.int .i64 ((b : Nat) : Int)), (.int .i64 ((limit : Nat) : Int))] w fun u w' => u = .tuple #[] ∧ ∃ d', PermIn a b d d' ∧ SortedIn lt a b d' ∧ Hld w' blk off d' ∧ Far blk w w' := by
 intro N; induction N with
 | zero => intros; omega
 | succ N ih =>
  intro a b limit w0 w d hN hL hS hF hblk hn hs hH hab hb hlim hBel
  have hE : Far blk w w := Far.refl blk w
  refine gives_of_W Tryz.func111 rfl Tryz.ntmps111 rfl ?_
  refine W.seq ?_
  refine W.region (by rfl) ?_
  refine L.step rfl (op_box (cs := [lv, sv]) rfl rfl rfl) ?_
  rintro _ w1 ⟨b1, rfl, hb1, hB1, hx1⟩
  have ne1 : b1 ≠ blk := by have := hE.size; omega
  have hE := hE.trans (hx1.far blk)
  have hF := hF.trans (hx1.far blk)
  have hH := hH.ext hx1
  refine L.nil ?_
  refine thenF_nor ?_
  refine W.seq ?_
  refine W.region (by rfl) ?_
  refine L.val rfl (op_assign rfl rfl) ?_
  refine L.nil ?_
  refine thenF_nor ?_
  refine W.seq ?_
  refine W.region (by rfl) ?_
  refine L.val rfl (op_assign rfl rfl) ?_
  refine L.nil ?_
  refine thenF_nor ?_
  refine W.block ?_
  have S2_hB1 := hB1
  have S2_hE := hE
  have S2_hF := hF
  refine W.loopg (γ := Nat × Nat × Nat × Bool × Bool × Array α) (fun (g : Nat × Nat × Nat × Bool × Bool × Array α) (f : Fr) (w : World) => g.2.2.2.2.2.size = n ∧ a ≤ g.1 ∧ g.1 ≤ g.2.1 ∧ g.2.1 ≤ b ∧ g.2.2.1 ≤ limit ∧ Sort.Below lt g.1 g.2.1 g.2.2.2.2.2 ∧ (∀ e, PermIn g.1 g.2.1 g.2.2.2.2.2 e → SortedIn lt g.1 g.2.1 e → PermIn a b d e ∧ SortedIn lt a b e) ∧ f 4 = (.pointer (some ⟨b1, 0, none⟩)) ∧ f 1 = (.int .i64 ((g.1 : Nat) : Int)) ∧ f 2 = (.int .i64 ((g.2.1 : Nat) : Int)) ∧ f 3 = (.int .i64 ((g.2.2.1 : Nat) : Int)) ∧ f 8 = (.bool g.2.2.2.1) ∧ f 9 = (.bool g.2.2.2.2.1) ∧ Hld w blk off g.2.2.2.2.2 ∧ Far blk w1 w) (fun (g : Nat × Nat × Nat × Bool × Bool × Array α) => g.2.1 - g.1) (a, b, limit, true, true, d) ⟨hs, (by (try dsimp only); omega), (by (try dsimp only); omega), (by (try dsimp only); omega), (by (try dsimp only); omega), hBel, fun e h1 h2 => ⟨h1, h2⟩, rfl, rfl, rfl, rfl, rfl, rfl, hH, Far.refl _ _⟩ ?_
  rintro ⟨x, y, l, wb, wp, dk⟩ f2 w2 ⟨hz2, hax, hxy, hyb, hll, hBl, hGlue, s2_4, s2_1, s2_2, s2_3, s2_8, s2_9, hH, hS2⟩
  dsimp only at hz2 hax hxy hyb hll hBl hGlue s2_4 s2_1 s2_2 s2_3 s2_8 s2_9 hH hS2
  have hB1 := S2_hB1.farx hS2 ne1
  have hE := S2_hE.trans hS2
  have hF := S2_hF.trans hS2
  refine W.block ?_
  refine W.seq ?_
  refine W.region (by rfl) ?_
  refine L.val rfl (op_move rfl s2_2) ?_
  refine L.val rfl (op_move rfl s2_1) ?_
  refine L.val rfl (op_sub (c := ((y - x : Nat) : Int)) rfl rfl rfl (by omega) (by omega)) ?_
  refine L.val rfl (op_assign rfl rfl) ?_
  refine L.nil ?_
  refine thenF_nor ?_
  refine W.seq ?_
  refine W.seq ?_
  refine W.region (by rfl) ?_
  refine L.val rfl (op_move rfl rfl) ?_
  refine L.val rfl (op_leq rfl rfl rfl) ?_
  refine L.nil ?_
  refine thenF_nor ?_
  refine W.cond (t := decide (((y - x : Nat) : Int) ≤ 12)) rfl (fun hc3 => ?_) (fun hc3 => ?_)
  · have hp3 := of_decide_eq_true hc3
    refine W.seq ?_
    refine W.region (by rfl) ?_
    refine L.val rfl (op_loadc (cs := [lv, sv]) rfl s2_4 ag126 si126 hB1.cells) ?_
    refine L.val rfl (op_move rfl s2_1) ?_
    refine L.val rfl (op_move rfl s2_2) ?_
    refine L.step rfl (OpS.call (op_call rfl (argsC rfl (argsC rfl (argsC rfl argsN))) Tryz.func163 rfl rfl) (insertionSort_ok (a := x) (b := y) hL hS hF (Nat.lt_of_lt_of_le hblk hE.size) hn hz2 hH (by omega) (by omega))) ?_
    rintro _ w4 ⟨rfl, hH4, hsz4, hg4⟩
    have hE := hE.trans hg4
    have hF := hF.trans hg4
    have hS2 := hS2.trans hg4
    have hB1 := hB1.farx hg4 ne1
    have hH := hH4
    obtain ⟨D4, hD4⟩ : ∃ D, D = Sort.insertionSort lt dk x y := ⟨_, rfl⟩
    rw [← hD4] at hH
    have hz4 : D4.size = n := by rw [hD4]; exact hsz4
    refine L.nil ?_
    refine thenF_nor ?_
    refine W.ret ?_
    refine thenF_ret ?_
    refine blockF_ret ?_
    refine thenF_ret ?_
    refine blockF_ret ?_
    exact end_ret0 rfl (by have hh := insertionSort_holds hO dk x y (by omega) (by omega); rw [← hD4] at hh; exact ⟨rfl, D4, (hGlue _ hh.1 hh.2).1, (hGlue _ hh.1 hh.2).2, hH, hE⟩)
  · have hp3 := of_decide_eq_false hc3
    refine W.skip ?_
    refine thenF_nor ?_
    refine W.seq ?_
    refine W.seq ?_
    refine W.region (by rfl) ?_
    refine L.val rfl (op_move rfl s2_3) ?_
    refine L.val rfl (op_eql rfl rfl rfl) ?_
    refine L.nil ?_
    refine thenF_nor ?_
    refine W.cond (t := decide (((l : Nat) : Int) = 0)) rfl (fun hc5 => ?_) (fun hc5 => ?_)
    · have hp5 := of_decide_eq_true hc5
      refine W.seq ?_
      refine W.region (by rfl) ?_
      refine L.val rfl (op_loadc (cs := [lv, sv]) rfl s2_4 ag126 si126 hB1.cells) ?_
      refine L.val rfl (op_move rfl s2_1) ?_
      refine L.val rfl (op_move rfl s2_2) ?_
      refine L.step rfl (OpS.call (op_call rfl (argsC rfl (argsC rfl (argsC rfl argsN))) Tryz.func164 rfl rfl) (heapSort_ok (a := x) (b := y) hL hS hF (Nat.lt_of_lt_of_le hblk hE.size) hn hz2 hH (by omega) (by omega))) ?_
      rintro _ w6 ⟨rfl, hH6, hsz6, hg6⟩
      have hE := hE.trans hg6
      have hF := hF.trans hg6
      have hS2 := hS2.trans hg6
      have hB1 := hB1.farx hg6 ne1
      have hH := hH6
      obtain ⟨D6, hD6⟩ : ∃ D, D = Sort.heapSort lt dk x y := ⟨_, rfl⟩
      rw [← hD6] at hH
      have hz6 : D6.size = n := by rw [hD6]; exact hsz6
      refine L.nil ?_
      refine thenF_nor ?_
      refine W.ret ?_
      refine thenF_ret ?_
      refine blockF_ret ?_
      refine thenF_ret ?_
      refine blockF_ret ?_
      exact end_ret0 rfl (by have hh := heapSort_holds hO dk x y (by omega) (by omega); rw [← hD6] at hh; exact ⟨rfl, D6, (hGlue _ hh.1 hh.2).1, (hGlue _ hh.1 hh.2).2, hH, hE⟩)
    · have hp5 := of_decide_eq_false hc5
      have hl0 : 0 < l := by have h := hc5; simp only [decide_eq_false_iff_not] at h; omega
      refine W.skip ?_
      refine thenF_nor ?_
      have S7_hB1 := hB1
      have S7_hS2 := hS2
      have S7_hE := hE
      have S7_hF := hF
      have hS7 : Far blk w2 w2 := Far.refl _ _
      refine W.cut (fun (f : Fr) (w : World) => ∃ (d1 : Array α), ∃ (l1 : Nat), d1.size = n ∧ PermIn x y dk d1 ∧ l1 ≤ l ∧ f 1 = (.int .i64 ((x : Nat) : Int)) ∧ f 2 = (.int .i64 ((y : Nat) : Int)) ∧ f 4 = (.pointer (some ⟨b1, 0, none⟩)) ∧ f 8 = (.bool wb) ∧ f 9 = (.bool wp) ∧ f 10 = (.int .i64 ((y - x : Nat) : Int)) ∧ f 19 = (.int .i64 ((y : Nat) : Int)) ∧ f 20 = (.int .i64 ((x : Nat) : Int)) ∧ f 21 = (.int .i64 ((y - x : Nat) : Int)) ∧ f 22 = (.int .i64 ((y - x : Nat) : Int)) ∧ f 23 = (.bool (decide (((y - x : Nat) : Int) ≤ 12))) ∧ f 28 = (.int .i64 ((l : Nat) : Int)) ∧ f 29 = (.bool (decide (((l : Nat) : Int) = 0))) ∧ f 3 = (.int .i64 ((l1 : Nat) : Int)) ∧ Hld w blk off d1 ∧ Far blk w2 w) ?_ ?_
      · refine W.seq ?_
        refine W.region (by rfl) ?_
        refine L.val rfl (op_move rfl s2_8) ?_
        refine L.val rfl (op_not rfl rfl) ?_
        refine L.nil ?_
        refine thenF_nor ?_
        refine W.cond (t := !wb) rfl (fun hc8 => ?_) (fun hc8 => ?_)
        · have hp8 := hc8
          refine W.seq ?_
          refine W.region (by rfl) ?_
          refine L.val rfl (op_loadc (cs := [lv, sv]) rfl s2_4 ag126 si126 hB1.cells) ?_
          refine L.val rfl (op_move rfl s2_1) ?_
          refine L.val rfl (op_move rfl s2_2) ?_
          refine L.step rfl (OpS.call (op_call rfl (argsC rfl (argsC rfl (argsC rfl argsN))) Tryz.func165 rfl rfl) (breakPatterns_ok (a := x) (b := y) hL hS hF (Nat.lt_of_lt_of_le hblk hE.size) hn hz2 hH (by omega) (by omega))) ?_
          rintro _ w9 ⟨rfl, D9, hpm9, hH9, hg9⟩
          have hE := hE.trans hg9
          have hF := hF.trans hg9
          have hS2 := hS2.trans hg9
          have hS7 := hS7.trans hg9
          have hB1 := hB1.farx hg9 ne1
          have hH := hH9
          have hcur : PermIn x y dk D9 := hpm9
          refine L.nil ?_
          refine thenF_nor ?_
          refine W.region (by rfl) ?_
          refine L.val rfl (op_move rfl s2_3) ?_
          refine L.val rfl (op_sub (c := ((l - 1 : Nat) : Int)) rfl rfl rfl (by omega) (by omega)) ?_
          refine L.val rfl (op_assign rfl rfl) ?_
          refine L.nil ?_
          refine thenF_nor ?_
          exact ⟨D9, l - 1, (hpm9.1.trans hz2), hcur, (by (try dsimp only); omega), s2_1, s2_2, s2_4, s2_8, s2_9, rfl, rfl, rfl, rfl, rfl, rfl, rfl, rfl, rfl, hH, hS7⟩
        · have hp8 := hc8
          have hcur : PermIn x y dk dk := permIn_refl _ _ _
          refine W.skip ?_
          refine thenF_nor ?_
          exact ⟨dk, l, hz2, hcur, (by (try dsimp only); omega), s2_1, s2_2, s2_4, s2_8, s2_9, rfl, rfl, rfl, rfl, rfl, rfl, rfl, rfl, s2_3, hH, hS7⟩
      · rintro f7 w7 ⟨d1, l1, hz7, hd1, hl1, s7_1, s7_2, s7_4, s7_8, s7_9, s7_10, s7_19, s7_20, s7_21, s7_22, s7_23, s7_28, s7_29, s7_3, hH, hS7⟩
        have hB1 := S7_hB1.farx hS7 ne1
        have hS2 := S7_hS2.trans hS7
        have hE := S7_hE.trans hS7
        have hF := S7_hF.trans hS7
        refine W.seq ?_
        refine W.region (by rfl) ?_
        refine L.val rfl (op_loadc (cs := [lv, sv]) rfl s7_4 ag126 si126 hB1.cells) ?_
        refine L.val rfl (op_move rfl s7_1) ?_
        refine L.val rfl (op_move rfl s7_2) ?_
        refine L.step rfl (OpS.call (op_call rfl (argsC rfl (argsC rfl (argsC rfl argsN))) Tryz.func166 rfl rfl) (choosePivot_ok (a := x) (b := y) hL hF (Nat.lt_of_lt_of_le hblk hE.size) hn hz7 hH (by omega) (by omega))) ?_
        rintro _ w10 ⟨p10, h10, rfl, hp110, hp210, hg10⟩
        have hE := hE.trans (hg10.far blk)
        have hF := hF.trans (hg10.far blk)
        have hS2 := hS2.trans (hg10.far blk)
        have hB1 := hB1.ext hg10
        have hH := hH.ext hg10
        refine L.val rfl (op_move rfl rfl) ?_
        refine L.val rfl (op_extract rfl rfl rfl) ?_
        refine L.val rfl (op_extract rfl rfl rfl) ?_
        refine L.val rfl (op_assign rfl rfl) ?_
        refine L.val rfl (op_assign rfl rfl) ?_
        refine L.nil ?_
        refine thenF_nor ?_
        have S11_hB1 := hB1
        have S11_hS2 := hS2
        have S11_hE := hE
        have S11_hF := hF
        have hS11 : Far blk w10 w10 := Far.refl _ _
        refine W.cut (fun (f : Fr) (w : World) => ∃ (d2 : Array α), ∃ (p2 : Nat), ∃ (h2 : Int), d2.size = n ∧ PermIn x y d1 d2 ∧ x ≤ p2 ∧ p2 < y ∧ f 1 = (.int .i64 ((x : Nat) : Int)) ∧ f 2 = (.int .i64 ((y : Nat) : Int)) ∧ f 3 = (.int .i64 ((l1 : Nat) : Int)) ∧ f 4 = (.pointer (some ⟨b1, 0, none⟩)) ∧ f 8 = (.bool wb) ∧ f 9 = (.bool wp) ∧ f 10 = (.int .i64 ((y - x : Nat) : Int)) ∧ f 19 = (.int .i64 ((y : Nat) : Int)) ∧ f 20 = (.int .i64 ((x : Nat) : Int)) ∧ f 21 = (.int .i64 ((y - x : Nat) : Int)) ∧ f 22 = (.int .i64 ((y - x : Nat) : Int)) ∧ f 23 = (.bool (decide (((y - x : Nat) : Int) ≤ 12))) ∧ f 28 = (.int .i64 ((l : Nat) : Int)) ∧ f 29 = (.bool (decide (((l : Nat) : Int) = 0))) ∧ f 42 = (.tuple #[(.int .i64 ((p10 : Nat) : Int)), (.int .i64 h10)]) ∧ f 43 = (.agg #[lv, sv]) ∧ f 44 = (.int .i64 ((x : Nat) : Int)) ∧ f 45 = (.int .i64 ((y : Nat) : Int)) ∧ f 46 = (.tuple #[(.int .i64 ((p10 : Nat) : Int)), (.int .i64 h10)]) ∧ f 47 = (.int .i64 ((p10 : Nat) : Int)) ∧ f 48 = (.int .i64 h10) ∧ f 11 = (.int .i64 ((p2 : Nat) : Int)) ∧ f 12 = (.int .i64 h2) ∧ Hld w blk off d2 ∧ Far blk w10 w) ?_ ?_
        · refine W.seq ?_
          refine W.region (by rfl) ?_
          refine L.val rfl (op_move rfl rfl) ?_
          refine L.val rfl (op_eql rfl rfl rfl) ?_
          refine L.nil ?_
          refine thenF_nor ?_
          refine W.cond (t := decide (h10 = 2)) rfl (fun hc12 => ?_) (fun hc12 => ?_)
          · have hp12 := of_decide_eq_true hc12
            refine W.seq ?_
            refine W.region (by rfl) ?_
            refine L.val rfl (op_loadc (cs := [lv, sv]) rfl s7_4 ag126 si126 hB1.cells) ?_
            refine L.val rfl (op_move rfl s7_1) ?_
            refine L.val rfl (op_move rfl s7_2) ?_
            refine L.step rfl (OpS.call (op_call rfl (argsC rfl (argsC rfl (argsC rfl argsN))) Tryz.func167 rfl rfl) (reverseRange_ok (a := x) (b := y) hL hS hF (Nat.lt_of_lt_of_le hblk hE.size) hn hz7 hH (by omega) (by omega))) ?_
            rintro _ w13 ⟨rfl, D13, hpm13, hH13, hg13⟩
            have hE := hE.trans hg13
            have hF := hF.trans hg13
            have hS2 := hS2.trans hg13
            have hS11 := hS11.trans hg13
            have hB1 := hB1.farx hg13 ne1
            have hH := hH13
            have hcur : PermIn x y d1 D13 := hpm13
            refine L.nil ?_
            refine thenF_nor ?_
            refine W.seq ?_
            refine W.region (by rfl) ?_
            refine L.val rfl (op_move rfl s7_2) ?_
            refine L.val rfl (op_sub (c := ((y - 1 : Nat) : Int)) rfl rfl rfl (by omega) (by omega)) ?_
            refine L.val rfl (op_move rfl rfl) ?_
            refine L.val rfl (op_move rfl s7_1) ?_
            refine L.val rfl (op_sub (c := ((p10 - x : Nat) : Int)) rfl rfl rfl (by omega) (by omega)) ?_
            refine L.val rfl (op_sub (c := (((y - 1) - (p10 - x) : Nat) : Int)) rfl rfl rfl (by omega) (by omega)) ?_
            refine L.val rfl (op_assign rfl rfl) ?_
            refine L.nil ?_
            refine thenF_nor ?_
            refine W.region (by rfl) ?_
            refine L.val rfl (op_assign rfl rfl) ?_
            refine L.nil ?_
            refine thenF_nor ?_
            exact ⟨D13, (y - 1) - (p10 - x), 1, (hpm13.1.trans hz7), hcur, (by (try dsimp only); omega), (by (try dsimp only); omega), s7_1, s7_2, s7_3, s7_4, s7_8, s7_9, s7_10, s7_19, s7_20, s7_21, s7_22, s7_23, s7_28, s7_29, rfl, rfl, rfl, rfl, rfl, rfl, rfl, rfl, rfl, hH, hS11⟩
          · have hp12 := of_decide_eq_false hc12
            have hcur : PermIn x y d1 d1 := permIn_refl _ _ _
            refine W.skip ?_
            refine thenF_nor ?_
            exact ⟨d1, p10, h10, hz7, hcur, (by (try dsimp only); omega), (by (try dsimp only); omega), s7_1, s7_2, s7_3, s7_4, s7_8, s7_9, s7_10, s7_19, s7_20, s7_21, s7_22, s7_23, s7_28, s7_29, rfl, rfl, rfl, rfl, rfl, rfl, rfl, rfl, rfl, hH, hS11⟩
        · rintro f11 w11 ⟨d2, p2, h2, hz11, hd2, hp1, hp2, s11_1, s11_2, s11_3, s11_4, s11_8, s11_9, s11_10, s11_19, s11_20, s11_21, s11_22, s11_23, s11_28, s11_29, s11_42, s11_43, s11_44, s11_45, s11_46, s11_47, s11_48, s11_11, s11_12, hH, hS11⟩
          have hB1 := S11_hB1.farx hS11 ne1
          have hS2 := S11_hS2.trans hS11
          have hE := S11_hE.trans hS11
          have hF := S11_hF.trans hS11
          have hP2 : PermIn x y dk d2 := permIn_trans _ _ _ _ _ hd1 hd2
          have hB2 : Sort.Below lt x y d2 := hBl.perm (by omega) hP2
          have S14_hB1 := hB1
          have S14_hS2 := hS2
          have S14_hE := hE
          have S14_hF := hF
          have hS14 : Far blk w11 w11 := Far.refl _ _
          refine W.cut (fun (f : Fr) (w : World) => ∃ (d3 : Array α), d3.size = n ∧ PermIn x y d2 d3 ∧ f 1 = (.int .i64 ((x : Nat) : Int)) ∧ f 2 = (.int .i64 ((y : Nat) : Int)) ∧ f 3 = (.int .i64 ((l1 : Nat) : Int)) ∧ f 4 = (.pointer (some ⟨b1, 0, none⟩)) ∧ f 8 = (.bool wb) ∧ f 9 = (.bool wp) ∧ f 10 = (.int .i64 ((y - x : Nat) : Int)) ∧ f 11 = (.int .i64 ((p2 : Nat) : Int)) ∧ f 12 = (.int .i64 h2) ∧ f 19 = (.int .i64 ((y : Nat) : Int)) ∧ f 20 = (.int .i64 ((x : Nat) : Int)) ∧ f 21 = (.int .i64 ((y - x : Nat) : Int)) ∧ f 22 = (.int .i64 ((y - x : Nat) : Int)) ∧ f 23 = (.bool (decide (((y - x : Nat) : Int) ≤ 12))) ∧ f 28 = (.int .i64 ((l : Nat) : Int)) ∧ f 29 = (.bool (decide (((l : Nat) : Int) = 0))) ∧ f 42 = (.tuple #[(.int .i64 ((p10 : Nat) : Int)), (.int .i64 h10)]) ∧ f 43 = (.agg #[lv, sv]) ∧ f 44 = (.int .i64 ((x : Nat) : Int)) ∧ f 45 = (.int .i64 ((y : Nat) : Int)) ∧ f 46 = (.tuple #[(.int .i64 ((p10 : Nat) : Int)), (.int .i64 h10)]) ∧ f 47 = (.int .i64 ((p10 : Nat) : Int)) ∧ f 48 = (.int .i64 h10) ∧ Hld w blk off d3 ∧ Far blk w11 w) ?_ ?_
          · refine W.seq ?_
            refine W.region (by rfl) ?_
            refine L.val rfl (op_move rfl s11_8) ?_
            refine L.val rfl (op_move rfl rfl) ?_
            refine L.guardv (v := (.bool wp)) (wanted_yes rfl rfl rfl) (fun hg => (op_move rfl s11_9)) ?_
            refine L.val rfl (op_and rfl rfl rfl rfl) ?_
            refine L.val rfl (op_move rfl rfl) ?_
            refine L.guardv (v := (.int .i64 h2)) (wanted_yes rfl rfl rfl) (fun hg => (op_move rfl s11_12)) ?_
            refine L.guardv (v := (.bool (decide (h2 = 1)))) (wanted_yes rfl rfl rfl) (fun hg => (op_eql rfl ((show _ = vif _ (.int .i64 h2) from rfl).trans (vif_t hg).symm) rfl)) ?_
            refine L.val rfl (op_and rfl rfl rfl rfl) ?_
            refine L.nil ?_
            refine thenF_nor ?_
            refine W.cond (t := (wb && wp) && (decide (h2 = 1))) rfl (fun hc15 => ?_) (fun hc15 => ?_)
            · have hp15 := hc15
              simp only [Bool.and_eq_true, Bool.not_eq_true', decide_eq_true_eq] at hp15
              obtain ⟨hp15, hq15⟩ := hp15
              refine W.seq ?_
              refine W.region (by rfl) ?_
              refine L.val rfl (op_loadc (cs := [lv, sv]) rfl s11_4 ag126 si126 hB1.cells) ?_
              refine L.val rfl (op_move rfl s11_1) ?_
              refine L.val rfl (op_move rfl s11_2) ?_
              refine L.step rfl (OpS.call (op_call rfl (argsC rfl (argsC rfl (argsC rfl argsN))) Tryz.func168 rfl rfl) (partialInsertionSort_ok (a := x) (b := y) hL hS hF (Nat.lt_of_lt_of_le hblk hE.size) hn hz11 hH (by omega) (by omega))) ?_
              rintro u16 w16 ⟨hu16, hH16, hsz16, hg16⟩
              have hE := hE.trans hg16
              have hF := hF.trans hg16
              have hS2 := hS2.trans hg16
              have hS14 := hS14.trans hg16
              have hB1 := hB1.farx hg16 ne1
              have hH := hH16
              obtain ⟨D16, ok16, hD16⟩ : ∃ D ok, Sort.partialInsertionSort lt d2 x y = (D, ok) := ⟨_, _, rfl⟩
              have hpis := partialInsertionSort_holds hO d2 x y (by omega) (by omega) hB2
              rw [hD16] at hH hpis hsz16 hu16
              dsimp only at hH hpis hsz16 hu16
              subst hu16
              have hcur : PermIn x y d2 D16 := hpis.1
              refine L.nil ?_
              refine thenF_nor ?_
              refine W.cond (t := ok16) rfl (fun hc17 => ?_) (fun hc17 => ?_)
              · have hp17 := hc17
                have hok := hc17
                refine W.ret ?_
                refine thenF_ret ?_
                refine blockF_ret ?_
                refine thenF_ret ?_
                refine blockF_ret ?_
                exact end_ret0 rfl (by have hh := hpis.2 hok; exact ⟨rfl, D16, (hGlue _ (permIn_trans _ _ _ _ _ hP2 hcur) hh).1, (hGlue _ (permIn_trans _ _ _ _ _ hP2 hcur) hh).2, hH, hE⟩)
              · have hp17 := hc17
                refine W.skip ?_
                refine thenF_nor ?_
                exact ⟨D16, hsz16, hcur, s11_1, s11_2, s11_3, s11_4, s11_8, s11_9, s11_10, s11_11, s11_12, s11_19, s11_20, s11_21, s11_22, s11_23, s11_28, s11_29, s11_42, s11_43, s11_44, s11_45, s11_46, s11_47, s11_48, hH, hS14⟩
            · have hp15 := hc15
              have hcur : PermIn x y d2 d2 := permIn_refl _ _ _
              refine W.skip ?_
              refine thenF_nor ?_
              exact ⟨d2, hz11, hcur, s11_1, s11_2, s11_3, s11_4, s11_8, s11_9, s11_10, s11_11, s11_12, s11_19, s11_20, s11_21, s11_22, s11_23, s11_28, s11_29, s11_42, s11_43, s11_44, s11_45, s11_46, s11_47, s11_48, hH, hS14⟩
          · rintro f14 w14 ⟨d3, hz14, hd3, s14_1, s14_2, s14_3, s14_4, s14_8, s14_9, s14_10, s14_11, s14_12, s14_19, s14_20, s14_21, s14_22, s14_23, s14_28, s14_29, s14_42, s14_43, s14_44, s14_45, s14_46, s14_47, s14_48, hH, hS14⟩
            have hB1 := S14_hB1.farx hS14 ne1
            have hS2 := S14_hS2.trans hS14
            have hE := S14_hE.trans hS14
            have hF := S14_hF.trans hS14
            have hP3 : PermIn x y dk d3 := permIn_trans _ _ _ _ _ hP2 hd3
            have hB3 : Sort.Below lt x y d3 := hBl.perm (by omega) hP3
            refine W.seq ?_
            refine W.seq ?_
            refine W.region (by rfl) ?_
            refine L.val rfl (op_move rfl s14_1) ?_
            refine L.val rfl (op_gtr rfl rfl rfl) ?_
            refine L.val rfl (op_move rfl rfl) ?_
            refine L.guardv (v := (.pointer (some ⟨b1, 0, none⟩))) (wanted_yes rfl rfl rfl) (fun hg => (op_field rfl s14_4 fo126_0 rfl)) ?_
            refine L.guardv (v := lv) (wanted_yes rfl rfl rfl) (fun hg => (op_load1 rfl ((show _ = vif _ (.pointer (some ⟨b1, 0, none⟩)) from rfl).trans (vif_t hg).symm) one77 (hB1.cells.one (n := 0) rfl))) ?_
            refine L.guardv (v := (.int .i64 ((x : Nat) : Int))) (wanted_yes rfl rfl rfl) (fun hg => (op_move rfl s14_1)) ?_
            refine L.guardv (v := (.int .i64 ((x - 1 : Nat) : Int))) (wanted_yes rfl rfl rfl) (fun hg => by have hp := hg; simp only [Bool.and_eq_true, Bool.not_eq_true', decide_eq_true_eq, decide_eq_false_iff_not] at hp; exact (op_sub (c := ((x - 1 : Nat) : Int)) rfl ((show _ = vif _ (.int .i64 ((x : Nat) : Int)) from rfl).trans (vif_t hg).symm) rfl (by omega) (by omega))) ?_
            refine L.guardv (v := (.int .i64 ((p2 : Nat) : Int))) (wanted_yes rfl rfl rfl) (fun hg => (op_move rfl s14_11)) ?_
            refine L.guardc (v := (.bool (lt d3[x - 1]! d3[p2]!))) (wanted_yes rfl rfl rfl) (fun hg => by have hp := hg; simp only [Bool.and_eq_true, Bool.not_eq_true', decide_eq_true_eq, decide_eq_false_iff_not] at hp; exact (op_less (i := x - 1) (j := p2) hL hF hz14 hH rfl ((show _ = vif _ lv from rfl).trans (vif_t hg).symm) ((show _ = vif _ (.int .i64 ((x - 1 : Nat) : Int)) from rfl).trans (vif_t hg).symm) ((show _ = vif _ (.int .i64 ((p2 : Nat) : Int)) from rfl).trans (vif_t hg).symm) rfl rfl (by omega) (by omega))) ?_
            intro w18 hx18
            have hE := hE.trans (hx18.far blk)
            have hF := hF.trans (hx18.far blk)
            have hS2 := hS2.trans (hx18.far blk)
            have hB1 := hB1.ext hx18
            have hH := hH.ext hx18
            refine L.guardv (v := (.bool (!(lt d3[x - 1]! d3[p2]!)))) (wanted_yes rfl rfl rfl) (fun hg => (op_not rfl ((show _ = vif _ (.bool (lt d3[x - 1]! d3[p2]!)) from rfl).trans (vif_t hg).symm))) ?_
            refine L.val rfl (op_and rfl rfl rfl rfl) ?_
            refine L.nil ?_
            refine thenF_nor ?_
            refine W.cond (t := (decide (0 < ((x : Nat) : Int))) && (!(lt d3[x - 1]! d3[p2]!))) rfl (fun hc19 => ?_) (fun hc19 => ?_)
            · have hp19 := hc19
              simp only [Bool.and_eq_true, Bool.not_eq_true', decide_eq_true_eq] at hp19
              obtain ⟨hp19, hq19⟩ := hp19
              have hxx := hc19
              simp only [Bool.and_eq_true, decide_eq_true_eq, Bool.not_eq_true'] at hxx
              obtain ⟨hx0, hnl⟩ := hxx
              have hx0 : 0 < x := by omega
              refine W.seq ?_
              refine W.region (by rfl) ?_
              refine L.val rfl (op_loadc (cs := [lv, sv]) rfl s14_4 ag126 si126 hB1.cells) ?_
              refine L.val rfl (op_move rfl s14_1) ?_
              refine L.val rfl (op_move rfl s14_2) ?_
              refine L.val rfl (op_move rfl s14_11) ?_
              refine L.step rfl (OpS.call (op_call rfl (argsC rfl (argsC rfl (argsC rfl (argsC rfl argsN)))) Tryz.func169 rfl rfl) (partitionEqual_ok (a := x) (b := y) (pivot := p2) hL hS hF (Nat.lt_of_lt_of_le hblk hE.size) hn hz14 hH (by omega) (by omega) (by omega))) ?_
              rintro u20 w20 ⟨hu20, hH20, hsz20, hg20⟩
              have hE := hE.trans hg20
              have hF := hF.trans hg20
              have hS2 := hS2.trans hg20
              have hB1 := hB1.farx hg20 ne1
              have hH := hH20
              obtain ⟨mid, D20, hD20⟩ : ∃ mid D, Sort.partitionEqual lt d3 x y p2 = (mid, D) := ⟨_, _, rfl⟩
              obtain ⟨r1, r2, r3, r4, r5⟩ := round_eq hO (partitionEqual_holds lt) hx0 (by omega) (by omega) (by omega) hB3 hnl hD20
              rw [hD20] at hH hsz20 hu20
              dsimp only at hH hsz20 hu20
              subst hu20
              have hBn := r4
              have hGn : ∀ e, PermIn mid y D20 e → SortedIn lt mid y e → PermIn a b d e ∧ SortedIn lt a b e := fun e h1 h2 => hGlue e (permIn_trans _ _ _ _ _ hP3 (r5 e h1 h2).1) (r5 e h1 h2).2
              refine L.val rfl (op_assign rfl rfl) ?_
              refine L.nil ?_
              refine thenF_nor ?_
              refine W.seq ?_
              refine W.region (by rfl) ?_
              refine L.val rfl (op_move rfl rfl) ?_
              refine L.val rfl (op_assign rfl rfl) ?_
              refine L.nil ?_
              refine thenF_nor ?_
              refine W.exit ?_
              refine thenF_exit ?_
              refine blockF_hit ?_
              refine thenF_nor ?_
              exact ⟨(mid, y, l1, wb, wp, D20), ⟨hsz20, (by (try dsimp only); omega), (by (try dsimp only); omega), (by (try dsimp only); omega), (by (try dsimp only); omega), hBn, hGn, s14_4, rfl, s14_2, s14_3, s14_8, s14_9, hH, hS2⟩, (by (try dsimp only); omega)⟩
            · have hp19 := hc19
              refine W.skip ?_
              refine thenF_nor ?_
              refine W.seq ?_
              refine W.region (by rfl) ?_
              refine L.val rfl (op_loadc (cs := [lv, sv]) rfl s14_4 ag126 si126 hB1.cells) ?_
              refine L.val rfl (op_move rfl s14_1) ?_
              refine L.val rfl (op_move rfl s14_2) ?_
              refine L.val rfl (op_move rfl s14_11) ?_
              refine L.step rfl (OpS.call (op_call rfl (argsC rfl (argsC rfl (argsC rfl (argsC rfl argsN)))) Tryz.func170 rfl rfl) (partition_ok (a := x) (b := y) (pivot := p2) hL hS hF (Nat.lt_of_lt_of_le hblk hE.size) hn hz14 hH (by omega) (by omega) (by omega))) ?_
              rintro u21 w21 ⟨hu21, hH21, hsz21, hg21⟩
              have hE := hE.trans hg21
              have hF := hF.trans hg21
              have hS2 := hS2.trans hg21
              have hB1 := hB1.farx hg21 ne1
              have hH := hH21
              obtain ⟨mid, ap, D21, hD21⟩ : ∃ mid ap D, Sort.partition lt d3 x y p2 = (mid, ap, D) := ⟨_, _, _, rfl⟩
              obtain ⟨r1, r2, r3, r4, r5, r6, r7⟩ := round_part hO (partition_holds lt) (by omega) (by omega) (by omega) hB3 hD21
              rw [hD21] at hH hsz21 hu21
              dsimp only at hH hsz21 hu21
              subst hu21
              refine L.val rfl (op_move rfl rfl) ?_
              refine L.val rfl (op_extract rfl rfl rfl) ?_
              refine L.val rfl (op_extract rfl rfl rfl) ?_
              refine L.val rfl (op_assign rfl rfl) ?_
              refine L.val rfl (op_assign rfl rfl) ?_
              refine L.nil ?_
              refine thenF_nor ?_
              refine W.seq ?_
              refine W.region (by rfl) ?_
              refine L.val rfl (op_move rfl rfl) ?_
              refine L.val rfl (op_assign rfl rfl) ?_
              refine L.nil ?_
              refine thenF_nor ?_
              refine W.seq ?_
              refine W.region (by rfl) ?_
              refine L.val rfl (op_move rfl rfl) ?_
              refine L.val rfl (op_move rfl s14_1) ?_
              refine L.val rfl (op_sub (c := ((mid - x : Nat) : Int)) rfl rfl rfl (by omega) (by omega)) ?_
              refine L.val rfl (op_move rfl s14_2) ?_
              refine L.val rfl (op_move rfl rfl) ?_
              refine L.val rfl (op_sub (c := ((y - mid : Nat) : Int)) rfl rfl rfl (by omega) (by omega)) ?_
              refine L.val rfl (op_assign rfl rfl) ?_
              refine L.val rfl (op_assign rfl rfl) ?_
              refine L.nil ?_
              refine thenF_nor ?_
              refine W.seq ?_
              refine W.region (by rfl) ?_
              refine L.val rfl (op_move rfl s14_10) ?_
              refine L.val rfl (op_quoc (c := (((y - x) / 8 : Nat) : Int)) rfl rfl rfl (by omega) (by omega) (by omega) (by omega)) ?_
              refine L.val rfl (op_assign rfl rfl) ?_
              refine L.nil ?_
              refine thenF_nor ?_
              refine W.seq ?_
              refine W.region (by rfl) ?_
              refine L.val rfl (op_move rfl rfl) ?_
              refine L.val rfl (op_move rfl rfl) ?_
              refine L.val rfl (op_lss rfl rfl rfl) ?_
              refine L.nil ?_
              refine thenF_nor ?_
              refine W.cond (t := decide (((mid - x : Nat) : Int) < ((y - mid : Nat) : Int))) rfl (fun hc22 => ?_) (fun hc22 => ?_)
              · have hp22 := of_decide_eq_true hc22
                refine W.seq ?_
                refine W.region (by rfl) ?_
                refine L.val rfl (op_move rfl rfl) ?_
                refine L.val rfl (op_move rfl rfl) ?_
                refine L.val rfl (op_geq rfl rfl rfl) ?_
                refine L.val rfl (op_assign rfl rfl) ?_
                refine L.nil ?_
                refine thenF_nor ?_
                refine W.seq ?_
                refine W.region (by rfl) ?_
                refine L.val rfl (op_loadc (cs := [lv, sv]) rfl s14_4 ag126 si126 hB1.cells) ?_
                refine L.val rfl (op_move rfl s14_1) ?_
                refine L.val rfl (op_move rfl rfl) ?_
                refine L.val rfl (op_move rfl s14_3) ?_
                refine L.step rfl (OpS.call (op_call rfl (argsC rfl (argsC rfl (argsC rfl (argsC rfl argsN)))) Tryz.func111 rfl rfl) (ih (a := x) (b := mid) (limit := l1) (by omega) hL hS hF (Nat.lt_of_lt_of_le hblk hE.size) hn hsz21 hH (by omega) (by omega) (by omega) r4)) ?_
                rintro _ w23 ⟨rfl, D23, hpm23, hso23, hH23, hg23⟩
                have hE := hE.trans hg23
                have hF := hF.trans hg23
                have hS2 := hS2.trans hg23
                have hB1 := hB1.farx hg23 ne1
                have hH := hH23
                obtain ⟨hBn, hR23⟩ := r6 D23 hpm23 hso23
                have hGn : ∀ e, PermIn (mid + 1) y D23 e → SortedIn lt (mid + 1) y e → PermIn a b d e ∧ SortedIn lt a b e := fun e h1 h2 => hGlue e (permIn_trans _ _ _ _ _ hP3 (hR23 e h1 h2).1) (hR23 e h1 h2).2
                refine L.nil ?_
                refine thenF_nor ?_
                refine W.region (by rfl) ?_
                refine L.val rfl (op_move rfl rfl) ?_
                refine L.val rfl (op_add (c := ((mid + 1 : Nat) : Int)) rfl rfl rfl (by omega) (by omega)) ?_
                refine L.val rfl (op_assign rfl rfl) ?_
                refine L.nil ?_
                refine blockF_nor ?_
                refine thenF_nor ?_
                exact ⟨(mid + 1, y, l1, decide ((((y - x) / 8 : Nat) : Int) ≤ ((mid - x : Nat) : Int)), ap, D23), ⟨(hpm23.1.trans hsz21), (by (try dsimp only); omega), (by (try dsimp only); omega), (by (try dsimp only); omega), (by (try dsimp only); omega), hBn, hGn, s14_4, rfl, s14_2, s14_3, rfl, rfl, hH, hS2⟩, (by (try dsimp only); omega)⟩
              · have hp22 := of_decide_eq_false hc22
                refine W.seq ?_
                refine W.region (by rfl) ?_
                refine L.val rfl (op_move rfl rfl) ?_
                refine L.val rfl (op_move rfl rfl) ?_
                refine L.val rfl (op_geq rfl rfl rfl) ?_
                refine L.val rfl (op_assign rfl rfl) ?_
                refine L.nil ?_
                refine thenF_nor ?_
                refine W.seq ?_
                refine W.region (by rfl) ?_
                refine L.val rfl (op_loadc (cs := [lv, sv]) rfl s14_4 ag126 si126 hB1.cells) ?_
                refine L.val rfl (op_move rfl rfl) ?_
                refine L.val rfl (op_add (c := ((mid + 1 : Nat) : Int)) rfl rfl rfl (by omega) (by omega)) ?_
                refine L.val rfl (op_move rfl s14_2) ?_
                refine L.val rfl (op_move rfl s14_3) ?_
                refine L.step rfl (OpS.call (op_call rfl (argsC rfl (argsC rfl (argsC rfl (argsC rfl argsN)))) Tryz.func111 rfl rfl) (ih (a := mid + 1) (b := y) (limit := l1) (by omega) hL hS hF (Nat.lt_of_lt_of_le hblk hE.size) hn hsz21 hH (by omega) (by omega) (by omega) r5)) ?_
                rintro _ w24 ⟨rfl, D24, hpm24, hso24, hH24, hg24⟩
                have hE := hE.trans hg24
                have hF := hF.trans hg24
                have hS2 := hS2.trans hg24
                have hB1 := hB1.farx hg24 ne1
                have hH := hH24
                obtain ⟨hBn, hR24⟩ := r7 D24 hpm24 hso24
                have hGn : ∀ e, PermIn x mid D24 e → SortedIn lt x mid e → PermIn a b d e ∧ SortedIn lt a b e := fun e h1 h2 => hGlue e (permIn_trans _ _ _ _ _ hP3 (hR24 e h1 h2).1) (hR24 e h1 h2).2
                refine L.nil ?_
                refine thenF_nor ?_
                refine W.region (by rfl) ?_
                refine L.val rfl (op_move rfl rfl) ?_
                refine L.val rfl (op_assign rfl rfl) ?_
                refine L.nil ?_
                refine blockF_nor ?_
                refine thenF_nor ?_
                exact ⟨(x, mid, l1, decide ((((y - x) / 8 : Nat) : Int) ≤ ((y - mid : Nat) : Int)), ap, D24), ⟨(hpm24.1.trans hsz21), (by (try dsimp only); omega), (by (try dsimp only); omega), (by (try dsimp only); omega), (by (try dsimp only); omega), hBn, hGn, s14_4, s14_1, rfl, s14_3, rfl, rfl, hH, hS2⟩, (by (try dsimp only); omega)⟩
end Go.Proofs.YtdknjfmjddlphaaGreat
/-
  sort.Slice over a slice of the call's own: it leaves a permutation, sorted by the comparison's own order; the comparison may lay new blocks.
-/
namespace Go.Proofs.YtdknjfmjddlphaaGreat
open Go Go.Fk Go.Sort Go.Shelf Go.Lib
/-- what sort.Slice is told of the slice's type t, of elements e -/
structure SortTy (t e : TypeId) (α : Type) [Enc α] : Prop where
  facts : ∃ (i ie : TypeInfo) (ke kn kf : Nat) (gS : Bool), Tryz.prog.info? t = some i ∧ i.desc = .slice e ∧ Tryz.prog.packed t = false ∧ Tryz.prog.info? e = some ie ∧ (∀ w, (Extern.Rtype.kind e).run Tryz.prog w = .ok ke w) ∧ ie.size = Enc.size α ∧ (∀ w, (isAgg e).run Tryz.prog w = .ok true w) ∧
    (∀ n, 2 ≤ n → swapperK n ie ke = kn) ∧ 2 < kn ∧ Tryz.prog.funcs.findIdx? (·.name == "internal/reflectlite" ++ ".Swapper$" ++ toString kn) = some kf ∧
    (∀ args W, (callFunc kf args).run Tryz.prog W = ((Extern.ReflectliteSwapper.swap gS args).run Tryz.prog W).andThen fun v w' => .ok (.value v) w') ∧
    (∀ n, n ≤ 1 → ∃ f, Tryz.prog.funcs.findIdx? (·.name == "internal/reflectlite" ++ ".Swapper$" ++ toString (swapperK n ie ke)) = some f)
theorem hld_of_own {α : Type} [Enc α] [Inhabited α] {w : World} {base g cap : Nat} {e : TypeId} {l : List α} (h : Fk.Own w base e (.slice (some ⟨g, 0, none⟩) l.length cap) l) : Hld w g 0 l.toArray := by
 intro j hj; rw [size_flatK] at hj; have hs : l.toArray.size = l.length := by simp
 rw [hs] at hj; have hk := Enc.pos (α := α); have hlt : j / Enc.size α < l.length := by rw [Nat.div_lt_iff_lt_mul hk]; exact hj
 have hm : j % Enc.size α < Enc.size α := Nat.mod_lt _ hk; rw [get_flatK _ _ _ _ (by rw [hs]; exact hj)]; have hx : l[j / Enc.size α]? = some (l.toArray[j / Enc.size α]!) := by simp [hlt]
 have hl := Enc.len (l.toArray[j / Enc.size α]!)
 have hu : (Enc.cells (l.toArray[j / Enc.size α]!))[j % Enc.size α]? = some ((Enc.cells (l.toArray[j / Enc.size α]!))[j % Enc.size α]!) := by
  rw [List.getElem?_eq_getElem (by rw [hl]; exact hm)]; congr 1; exact (getElem!_pos _ _ _).symm
 have hc := World.ownsRow.cells h (g := g) rfl _ _ (flat_get l _ _ hx _ _ hu); have e1 : j / Enc.size α * Enc.size α + j % Enc.size α = j := by rw [Nat.mul_comm]; exact Nat.div_add_mod j _
 rw [e1] at hc; have e2 : (⟨g, 0, none⟩ : Addr).add j = ⟨g, 0 + j, none⟩ := by unfold Addr.add; split <;> simp_all
 rw [e2] at hc; refine ⟨hc, ?_⟩; rcases h.2 with ⟨h1, _⟩ | ⟨g', cap', cur, h1, _, hg, _⟩
 ·cases h1
 ·injection h1 with h2 _ _; injection h2 with h2; injection h2 with h2 _ _; subst h2; exact frozen_of_row w g (0 + j) cur e hg
theorem rd_of_hld {α : Type} [Enc α] [Inhabited α] {w : World} {g lo hi : Nat} {d : Array α} (h : Hld w g 0 d) (hlen : d.size ≤ 9223372036854775807) (h1 : lo ≤ g) (h2 : g < hi) : Rd w lo hi (some ⟨g, 0, none⟩) d.toList := ⟨by simpa using hlen, fun _ => by
  refine ⟨⟨g, 0, none⟩, rfl, h1, h2, fun k x hk => ?_⟩
  have hlt : k < d.size := by simpa using (List.getElem?_eq_some_iff.1 hk).1
  have hc := h.get hlt
  have e2 : (⟨g, 0, none⟩ : Addr).add (k * Enc.size α) = ⟨g, 0 + k * Enc.size α, none⟩ := by unfold Addr.add; split <;> simp_all
  have e3 : d[k]! = x := by
    simp [hlt] at hk
    rw [getElem!_pos d k hlt]; exact hk
  rw [e2, ← e3]
  exact hc⟩
set_option maxRecDepth 100000 in
theorem sortSlice_ok {α : Type} [Enc α] [Inhabited α] {t e : TypeId} (T : SortTy t e α) {lt : α → α → Bool} (hO : SWO lt) {g : Nat} {lb : Array Value} {A : Option Addr} {c base : Nat} {l : List α} {w : World} (hOwn : Fk.Own w base e (.slice A l.length c) l) (hl : l.length < 4611686018427387904)
    (hless : ∀ blk, A = some ⟨blk, 0, none⟩ → LessOk Tryz.prog lt (.func (.func g) #[] lb) blk 0 l.length w) :
    Gives Tryz.prog 62 #[.iface t (.slice A l.length c), .func (.func g) #[] lb] w fun u w' => u = .tuple #[] ∧ ∃ l' : List α, l'.Perm l ∧ l'.length = l.length ∧ (∀ i j, i < j → j < l'.length → lt l'[j]! l'[i]! = false) ∧ Rd w' base w.heap.size A l' ∧ w.grownBy w' (Value.slice A l.length c).ownBlock := by
  obtain ⟨i, ie, ke, kn, kf, gS, hi, hd, hpk, hie, hke, hsz, hag, hkn, h2n, hkf, hx, hf1⟩ := T.facts
  by_cases h2 : 2 ≤ l.length
  · -- two or more
    rcases hOwn.2 with ⟨_, h0⟩ | ⟨blk, cap, cur, h1, hb, hg, _⟩
    · omega
    injection h1 with h1 _ h3
    subst h1 h3
    have hH := hld_of_own hOwn
    have hblk : blk < w.heap.size := (Array.getElem?_eq_some_iff.1 hg).1
    have hL := hless blk rfl
    have hL1 : LessOk Tryz.prog lt (.func (.func g) #[] lb) blk 0 l.length (sliceWorld Tryz.prog sv6_ren t (some ⟨blk, 0, none⟩) l.length c w) := by
      refine hL.far (Ext.far ?_ blk)
      unfold sliceWorld
      exact (Ext.alloc _ _).trans (Ext.alloc _ _)
    have hx1 : Ext w (sliceWorld Tryz.prog sv6_ren t (some ⟨blk, 0, none⟩) l.length c w) := by unfold sliceWorld; exact (Ext.alloc _ _).trans (Ext.alloc _ _)
    have hsw : SwapOk α Tryz.prog (.func (.func kf) #[] (sliceBound Tryz.prog e ie ke (some ⟨blk, 0, none⟩) l.length c)) blk 0 l.length := by
      refine ⟨kf, _, rfl, ?_⟩
      unfold sliceBound
      rw [hkn _ h2, if_neg (by omega)]
      exact swapSwapsK_of_literal gS kf hx e ie hie (Enc.cells (α := α)) (Enc.size α) Enc.len hsz hag Enc.one blk 0 l.length c
    have hlim : Lib.bitLen l.length < 4611686018427387904 := by
      have := Lib.bitLen_le l.length 62 (by omega) (by omega)
      omega
    have hp := pdqsort_ok (α := α) (lt := lt) (lv := .func (.func g) #[] lb) (off := 0) (n := l.length) hO (l.length + 1) (a := 0) (b := l.length) (limit := Lib.bitLen l.length) (w0 := sliceWorld Tryz.prog sv6_ren t (some ⟨blk, 0, none⟩) l.length c w) (d := l.toArray) (by omega) hL1 hsw (Far.refl _ _) (Nat.lt_of_lt_of_le hblk hx1.size) hl (by simp) (hH.ext hx1) (Nat.zero_le _) (Nat.le_refl _) hlim (Or.inl rfl)
    have hS := Any.sort_Slice_of_pdq (P := Tryz.prog) (ρ := sv6_ren) sv6 t e i ie hi hd hpk hie ke hke (some ⟨blk, 0, none⟩) l.length c hl kf (by rw [hkn _ h2]; exact hkf) (.func g) #[] lb w (fun w' => ∃ d', PermIn 0 l.length l.toArray d' ∧ SortedIn lt 0 l.length d' ∧ Hld w' blk 0 d' ∧ Far blk (sliceWorld Tryz.prog sv6_ren t (some ⟨blk, 0, none⟩) l.length c w) w')
      (Calls.mono hp fun e w' ⟨v, h1, h2, h3⟩ => ⟨by rw [h1, h2], h3⟩)
    refine Calls.mono hS ?_
    rintro en w' ⟨rfl, d', hpm, hso, hH', hfar⟩
    have hds : d'.size = l.length := by have := hpm.1; simpa using this
    refine ⟨_, rfl, rfl, d'.toList, ?_, by simpa using hds, fun i j hij hj => ?_, rd_of_hld hH' (by omega) hb hblk, (hx1.far blk).trans hfar⟩
    · have h3 := hpm.2.2
      have e1 : d'.extract 0 l.length = d' := by rw [← hds]; exact Array.extract_size
      have e2 : l.toArray.extract 0 l.length = l.toArray := by have : l.length = l.toArray.size := by simp
                                                               rw [this]; exact Array.extract_size
      rw [e1, e2] at h3
      simpa using h3
    · have hj' : j < d'.size := by simpa using hj
      have := hso i j (Nat.zero_le _) hij (by omega)
      simpa [hj', show i < d'.size by omega] using this
  · -- none or one
    obtain ⟨f, hf⟩ := hf1 l.length (by omega)
    refine Calls.mono (Any.sort_Slice_tiny (P := Tryz.prog) (ρ := sv6_ren) sv6 t e i ie hi hd hpk hie ke hke A l.length c (by omega) f hf (.func g) #[] lb w) ?_
    rintro en w' ⟨rfl, os, rfl⟩
    have hx1 : Ext w (grow w os) := ⟨rfl, rfl, rfl, by simp [grow], fun k hk => by simp [grow, Array.getElem?_append, hk]⟩
    have hr := (hOwn.rd).2.1
    refine ⟨_, rfl, rfl, l, List.Perm.refl _, rfl, fun i j hij hj => by omega, hr.ext hx1, ?_⟩
    cases (Value.slice A l.length c).ownBlock with
    | none => exact ext_grown hx1
    | some b => exact hx1.far b
set_option maxRecDepth 100000 in
theorem sortTy_mk {α : Type} [Enc α] {t e : TypeId} {kn : Nat} (gS : Bool) (ke kf f0 f1 : Nat) (hd : (Tryz.prog.info? t).map (·.desc) = some (.slice e)) (hpk : Tryz.prog.packed t = false) (hke : ∀ w, (Extern.Rtype.kind e).run Tryz.prog w = .ok ke w) (hsz : (Tryz.prog.info? e).map (·.size) = some (Enc.size α)) (hag : ∀ w, (isAgg e).run Tryz.prog w = .ok true w)
    (hkn : (Tryz.prog.info? e).map (fun ie => swapperK 2 ie ke) = some kn) (h2 : 2 < kn)
    (hkf : Tryz.prog.funcs.findIdx? (·.name == "internal/reflectlite" ++ ".Swapper$" ++ toString kn) = some kf) (hf0 : Tryz.prog.funcs.findIdx? (·.name == "internal/reflectlite" ++ ".Swapper$" ++ toString 1) = some f0) (hf1 : Tryz.prog.funcs.findIdx? (·.name == "internal/reflectlite" ++ ".Swapper$" ++ toString 2) = some f1)
    (hx : ∀ args W, (callFunc kf args).run Tryz.prog W = ((Extern.ReflectliteSwapper.swap gS args).run Tryz.prog W).andThen fun v w' => .ok (.value v) w') : SortTy t e α := by
  cases hi : Tryz.prog.info? t with
  | none => rw [hi] at hd; cases hd
  | some i =>
    cases hie : Tryz.prog.info? e with
    | none => rw [hie] at hsz; cases hsz
    | some ie =>
      rw [hi] at hd
      rw [hie] at hsz hkn
      simp only [Option.map_some, Option.some.injEq] at hd hsz hkn
      refine ⟨i, ie, ke, kn, kf, gS, hi, hd, hpk, hie, hke, hsz, hag, fun n hn => ?_, h2, hkf, hx, fun n hn => ?_⟩
      · rw [← hkn]
        have a : (n == 0) = false := by simp; omega
        have b : (n == 1) = false := by simp; omega
        simp [swapperK, a, b]
      · rcases (show n = 0 ∨ n = 1 by omega) with rfl | rfl
        · exact ⟨f0, hf0⟩
        · exact ⟨f1, hf1⟩
end Go.Proofs.YtdknjfmjddlphaaGreat
/-
  What sort.Slice is told of the slice types of this program. Printed by a program of this session.
-/
namespace Go.Proofs.YtdknjfmjddlphaaGreat
open Go Go.Fk Go.Sort Go.Shelf Go.Lib
theorem st25 : SortTy 25 47 Vt := sortTy_mk (kn := 9) false 25 160 152 153 (by kernel_rfl) (by kernel_rfl) (fun _ => by kernel_rfl) (by kernel_rfl) (fun _ => by kernel_rfl) (by kernel_rfl) (by decide) (by kernel_rfl) (by kernel_rfl) (by kernel_rfl)
  (fun args W => run_callFunc_extern Tryz.func160 (by kernel_rfl) (by kernel_rfl) (by kernel_rfl) (e := Extern.ReflectliteSwapper.swap false) (by kernel_rfl) args W)
theorem st28 : SortTy 28 24 Nm := sortTy_mk (kn := 5) true 17 156 152 153 (by kernel_rfl) (by kernel_rfl) (fun _ => by kernel_rfl) (by kernel_rfl) (fun _ => by kernel_rfl) (by kernel_rfl) (by decide) (by kernel_rfl) (by kernel_rfl) (by kernel_rfl)
  (fun args W => run_callFunc_extern Tryz.func156 (by kernel_rfl) (by kernel_rfl) (by kernel_rfl) (e := Extern.ReflectliteSwapper.swap true) (by kernel_rfl) args W)
theorem st38 : SortTy 38 34 Oc := sortTy_mk (kn := 9) false 25 160 152 153 (by kernel_rfl) (by kernel_rfl) (fun _ => by kernel_rfl) (by kernel_rfl) (fun _ => by kernel_rfl) (by kernel_rfl) (by decide) (by kernel_rfl) (by kernel_rfl) (by kernel_rfl)
  (fun args W => run_callFunc_extern Tryz.func160 (by kernel_rfl) (by kernel_rfl) (by kernel_rfl) (e := Extern.ReflectliteSwapper.swap false) (by kernel_rfl) args W)
end Go.Proofs.YtdknjfmjddlphaaGreat
/-
  The maps of the program: how their keys are told apart. Printed by a program of this session from the translation.
-/
namespace Go.Proofs.YtdknjfmjddlphaaGreat
open Go Go.Fk
theorem key24 : KeyTy Tryz.prog 24 Nm := KeyTy.nm Tryz.underlying24 Tryz.underlying5 (by kernel_rfl) (by kernel_rfl) eq24
theorem mp65 : TyMap Tryz.prog 65 24 22 Nm := ⟨Tryz.underlying65, key24, by kernel_rfl⟩
theorem key34 : KeyTy Tryz.prog 34 Oc where
  check w em x := checkKey_struct (n := 9999) Tryz.underlying34 (List.forall_mem_cons.2 ⟨⟨by decide, fieldInt (n := 9998) Tryz.underlying3 (by kernel_rfl) rfl⟩, List.forall_mem_cons.2 ⟨⟨by decide, fieldInt (n := 9998) Tryz.underlying3 (by kernel_rfl) rfl⟩, List.forall_mem_cons.2 ⟨⟨by decide, fieldInt (n := 9998) Tryz.underlying3 (by kernel_rfl) rfl⟩, List.forall_mem_cons.2 ⟨⟨by decide, fieldNm (n := 9997) x.value Tryz.underlying24 Tryz.underlying5 (by kernel_rfl) (by kernel_rfl) (by kernel_rfl) (by kernel_rfl) rfl⟩, List.forall_mem_nil _⟩⟩⟩⟩)
  eq := eq34
  und := ⟨_, Tryz.underlying34, fun _ _ => rfl⟩
  same x := sameBits_ints (n := 9999) (cs_int_oc x)
theorem mp74 : TyMap Tryz.prog 74 34 22 Oc := ⟨Tryz.underlying74, key34, by kernel_rfl⟩
end Go.Proofs.YtdknjfmjddlphaaGreat
/-
  The types of arguments, for the rows of this program's laws.
-/
namespace Go.Proofs.YtdknjfmjddlphaaGreat
open Go Go.Fk Go.RowKit Go.ChangeShapes Go.WideShapes Go.ChangeAt
theorem own : ownKnob Tryz.prog.godebug = none := by kernel_rfl
theorem laidOut : laidOutB Tryz.prog = true := by kernel_rfl
theorem opens_int : Opens Tryz.prog 3 Int := Opens.int Tryz.underlying3 (by kernel_rfl)
theorem opens_mask : Opens Tryz.prog 22 Int := Opens.int Tryz.underlying22 (by kernel_rfl)
theorem opens_nm : Opens Tryz.prog 24 Nm := Opens.nm Tryz.underlying24 Tryz.underlying5 (by kernel_rfl) (by kernel_rfl)
theorem opens_vt : Opens Tryz.prog 47 Vt := Opens.vt Tryz.underlying47 (by kernel_rfl) opens_int opens_mask opens_nm ⟨rfl, rfl⟩ ⟨rfl, rfl⟩ ⟨rfl, rfl⟩ ⟨rfl, rfl⟩ ⟨rfl, rfl⟩ ⟨rfl, rfl⟩ ⟨rfl, rfl⟩ ⟨rfl, rfl⟩
end Go.Proofs.YtdknjfmjddlphaaGreat
set_option linter.unusedSimpArgs false
namespace Go.Fk
open Go
theorem EqDeep.pr {P : Program} {t e : TypeId} (ht : P.underlying t = some (.array 2 e)) (he : P.underlying e = some (.int .i64)) (h1 : isOneT P e = true) (hs : (P.info? e).map (·.size) = some 1) : EqDeep P t Pr 2 := fun d w x y => by
  cases hi : P.info? e with
  | none => rw [hi] at hs; cases hs
  | some i =>
    have hs' := hs
    rw [hi] at hs'
    simp only [Option.map_some, Option.some.injEq] at hs'
    have hc : P.cellsOf e = 1 := by simp [Program.cellsOf, hi, hs']
    show (Op.equalIn (d + 1 + 1) t (.agg (Pr.cs x).toArray) (.agg (Pr.cs y).toArray)).run P w = _
    rw [run_equalIn_array w (d + 1) _ _ ht hi, hc]
    have p0 : ∀ z : Pr, (part e (Pr.cs z).toArray (0 * 1)).run P w = .ok (i64 z.fst) w := fun z => part_one h1 rfl
    have p1 : ∀ z : Pr, (part e (Pr.cs z).toArray (1 * 1)).run P w = .ok (i64 z.snd) w := fun z => part_one h1 rfl
    have q : ∀ a b : Int, (Op.equalIn (d + 1) e (i64 a) (i64 b)).run P w = .ok (decide (a = b)) w := fun a b => EqDeep.int he d w a b
    simp only [List.range_succ, List.range_zero, List.nil_append, List.cons_append, Op.eqItems, Sem.run_bind, p0, p1, q, Result.andThen_ok]
    rw [show decide (x = y) = (decide (x.fst = y.fst) && decide (x.snd = y.snd)) by rw [Bool.eq_iff_iff]; simp [Pr.ext_iff']]
    have p1' : ∀ z : Pr, (part e (Pr.cs z).toArray 1).run P w = .ok (i64 z.snd) w := fun z => part_one h1 rfl
    by_cases hA : x.fst = y.fst <;> by_cases hB : x.snd = y.snd <;> simp [p1', q, hA, hB]
end Go.Fk
namespace Go.Proofs.YtdknjfmjddlphaaGreat
open Go Go.Fk Go.Sort Go.Shelf Go.Lib
theorem ty133 : TyEnc Tryz.prog 133 Ch := TyEnc.agg (by kernel_rfl) (by kernel_rfl) (fun _ => rfl)
theorem sl134 : TySl Tryz.prog 134 133 Ch := ⟨Tryz.underlying134, ty133⟩
theorem ln134 : Tryz.prog.underlying 134 = some (.slice (Tryz.prog.elem 134)) := by kernel_rfl
theorem bt133 : (Tryz.prog.info? 133).map (·.bytes) = some 16 := by kernel_rfl
theorem eqd133 : EqDeep Tryz.prog 133 Ch 3 := fun d w x y => eqStruct Tryz.underlying133 Tryz.stoodInHeld133 (eqFields_cons (by simp) (part_one (by kernel_rfl) rfl) (part_one (by kernel_rfl) rfl) (EqDeep.int Tryz.underlying3 (d + 1) w x.validator y.validator) (eqFields_cons (by simp) (part_agg (n := 8) (by kernel_rfl) (by kernel_rfl) rfl) (part_agg (n := 8) (by kernel_rfl) (by kernel_rfl) rfl) (eqd24 d w x.value y.value) eqFields_nil)) (by rw [Bool.eq_iff_iff, decide_eq_true_eq, Ch.ext_iff']; simp)
theorem eq133 : EqEnc Tryz.prog 133 Ch := eqd133.enc (by decide)
theorem eq93 : EqEnc Tryz.prog 93 Pr := (EqDeep.pr Tryz.underlying93 Tryz.underlying3 (by kernel_rfl) (by kernel_rfl)).enc (by decide)
theorem key93 : KeyTy Tryz.prog 93 Pr := KeyTy.pr Tryz.underlying93 Tryz.underlying3 (by kernel_rfl) (by kernel_rfl) eq93
theorem key133 : KeyTy Tryz.prog 133 Ch where
  check w em x := checkKey_struct (n := 9999) Tryz.underlying133 (List.forall_mem_cons.2 ⟨⟨by decide, fieldInt (n := 9998) Tryz.underlying3 (by kernel_rfl) rfl⟩, List.forall_mem_cons.2 ⟨⟨by decide, fieldNm (n := 9997) x.value Tryz.underlying24 Tryz.underlying5 (by kernel_rfl) (by kernel_rfl) (by kernel_rfl) (by kernel_rfl) rfl⟩, List.forall_mem_nil _⟩⟩)
  eq := eq133
  und := ⟨_, Tryz.underlying133, fun _ _ => rfl⟩
  same x := sameBits_ints (n := 9999) (cs_int_ch x)
theorem mp162 : TyMap Tryz.prog 162 133 3 Ch := ⟨Tryz.underlying162, key133, by kernel_rfl⟩
theorem mp90 : TyMap Tryz.prog 90 93 3 Pr := ⟨Tryz.underlying90, key93, by kernel_rfl⟩
theorem st134 : SortTy 134 133 Ch := sortTy_mk (kn := 9) false 25 160 152 153 (by kernel_rfl) (by kernel_rfl) (fun _ => by kernel_rfl) (by kernel_rfl) (fun _ => by kernel_rfl) (by kernel_rfl) (by decide) (by kernel_rfl) (by kernel_rfl) (by kernel_rfl)
  (fun args W => run_callFunc_extern Tryz.func160 (by kernel_rfl) (by kernel_rfl) (by kernel_rfl) (e := Extern.ReflectliteSwapper.swap false) (by kernel_rfl) args W)
end Go.Proofs.YtdknjfmjddlphaaGreat
