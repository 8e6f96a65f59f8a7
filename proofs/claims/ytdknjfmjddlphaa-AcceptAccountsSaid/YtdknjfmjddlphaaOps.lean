/-
  Data as the memory holds them (names, votes, outcomes, choices), and what each kind of operation does to a frame that is a function. No program in sight.
-/
import Derived.Test.YtdknjfmjddlphaaLogic
import Derived.Laws.Tables
import Derived.Maps.AppendAt
import Derived.Laws.OwnMore
import Derived.Laws.StructEq
import Derived.OwnWalk
import Derived.Great.FillDense
import Derived.Stop.BytesEq
namespace Go.Fk
open Go Go.RowKit

/-! ### what lies in cells -/
class Enc (α : Type) where
  cells : α → List Value
  size : Nat
  len : ∀ x, (cells x).length = size
  pos : 0 < size
  one : ∀ x, ∀ u ∈ cells x, u.oneCell' = true
  val : α → Value
  valCells : ∀ x, (val x).cells = (cells x).toArray
  inj : ∀ x y, cells x = cells y → x = y

instance encInt : Enc Int where
  cells x := [.int .i64 x]
  size := 1
  len _ := rfl
  pos := by decide
  one x u h := by simp at h; subst h; rfl
  val x := .int .i64 x
  valCells _ := rfl
  inj x y h := by simpa using h

/-- a name: eight bytes -/
structure Nm where
  n0 : UInt8
  n1 : UInt8
  n2 : UInt8
  n3 : UInt8
  n4 : UInt8
  n5 : UInt8
  n6 : UInt8
  n7 : UInt8
theorem Nm.ext_iff' (a b : Nm) : a = b ↔ (a.n0 = b.n0 ∧ a.n1 = b.n1 ∧ a.n2 = b.n2 ∧ a.n3 = b.n3 ∧ a.n4 = b.n4 ∧ a.n5 = b.n5 ∧ a.n6 = b.n6 ∧ a.n7 = b.n7) := by
  cases a; cases b; simp
instance : DecidableEq Nm := fun a b => decidable_of_iff _ (Nm.ext_iff' a b).symm
def u8 (x : UInt8) : Value := .int .u8 (x.toNat : Int)
theorem u8_inj {x y : UInt8} (h : u8 x = u8 y) : x = y := by
  simp only [u8, Value.int.injEq, true_and] at h
  exact UInt8.toNat_inj.1 (by omega)
def Nm.cs (n : Nm) : List Value := [u8 n.n0, u8 n.n1, u8 n.n2, u8 n.n3, u8 n.n4, u8 n.n5, u8 n.n6, u8 n.n7]
instance encNm : Enc Nm where
  cells := Nm.cs
  size := 8
  len _ := rfl
  pos := by decide
  one x u h := by simp [Nm.cs] at h; rcases h with rfl | rfl | rfl | rfl | rfl | rfl | rfl | rfl <;> rfl
  val x := .agg x.cs.toArray
  valCells _ := rfl
  inj x y h := by
    simp only [Nm.cs, List.cons.injEq, and_true] at h
    obtain ⟨h0, h1, h2, h3, h4, h5, h6, h7⟩ := h
    exact (Nm.ext_iff' x y).2 ⟨u8_inj h0, u8_inj h1, u8_inj h2, u8_inj h3, u8_inj h4, u8_inj h5, u8_inj h6, u8_inj h7⟩
def Nm.zero : Nm := ⟨0, 0, 0, 0, 0, 0, 0, 0⟩

/-- a vote -/
structure Vt where
  kind : Int
  slot : Int
  round : Int
  choice : Int
  signer : Int
  support : Int
  parent : Nm
  value : Nm
theorem Vt.ext_iff' (a b : Vt) : a = b ↔ (a.kind = b.kind ∧ a.slot = b.slot ∧ a.round = b.round ∧ a.choice = b.choice ∧ a.signer = b.signer ∧ a.support = b.support ∧ a.parent = b.parent ∧ a.value = b.value) := by
  cases a; cases b; simp
instance : DecidableEq Vt := fun a b => decidable_of_iff _ (Vt.ext_iff' a b).symm
abbrev i64 (x : Int) : Value := .int .i64 x
def Vt.cs (v : Vt) : List Value := [i64 v.kind, i64 v.slot, i64 v.round, i64 v.choice, i64 v.signer, i64 v.support, u8 v.parent.n0, u8 v.parent.n1, u8 v.parent.n2, u8 v.parent.n3, u8 v.parent.n4, u8 v.parent.n5, u8 v.parent.n6, u8 v.parent.n7,
  u8 v.value.n0, u8 v.value.n1, u8 v.value.n2, u8 v.value.n3, u8 v.value.n4, u8 v.value.n5, u8 v.value.n6, u8 v.value.n7]
theorem Vt.cs_eq (v : Vt) : v.cs = [i64 v.kind, i64 v.slot, i64 v.round, i64 v.choice, i64 v.signer, i64 v.support] ++ v.parent.cs ++ v.value.cs := rfl
instance encVt : Enc Vt where
  cells := Vt.cs
  size := 22
  len _ := rfl
  pos := by decide
  one x u h := by
    rw [Vt.cs_eq, List.mem_append, List.mem_append] at h
    rcases h with (h | h) | h
    · simp at h; rcases h with rfl | rfl | rfl | rfl | rfl | rfl <;> rfl
    · exact encNm.one _ u h
    · exact encNm.one _ u h
  val x := .agg x.cs.toArray
  valCells _ := rfl
  inj x y h := by
    rw [Vt.cs_eq, Vt.cs_eq, List.append_assoc, List.append_assoc] at h
    obtain ⟨h1, h2⟩ := List.append_inj h rfl
    obtain ⟨h2, h3⟩ := List.append_inj h2 rfl
    simp only [i64, List.cons.injEq, Value.int.injEq, true_and, and_true] at h1
    obtain ⟨a, b, c, d, e, f⟩ := h1
    exact (Vt.ext_iff' x y).2 ⟨a, b, c, d, e, f, encNm.inj _ _ h2, encNm.inj _ _ h3⟩

/-- an outcome -/
structure Oc where
  slot : Int
  round : Int
  choice : Int
  value : Nm
theorem Oc.ext_iff' (a b : Oc) : a = b ↔ (a.slot = b.slot ∧ a.round = b.round ∧ a.choice = b.choice ∧ a.value = b.value) := by
  cases a; cases b; simp
instance : DecidableEq Oc := fun a b => decidable_of_iff _ (Oc.ext_iff' a b).symm
def Oc.cs (v : Oc) : List Value := [i64 v.slot, i64 v.round, i64 v.choice, u8 v.value.n0, u8 v.value.n1, u8 v.value.n2, u8 v.value.n3, u8 v.value.n4, u8 v.value.n5, u8 v.value.n6, u8 v.value.n7]
theorem Oc.cs_eq (v : Oc) : v.cs = [i64 v.slot, i64 v.round, i64 v.choice] ++ v.value.cs := rfl
instance encOc : Enc Oc where
  cells := Oc.cs
  size := 11
  len _ := rfl
  pos := by decide
  one x u h := by
    rw [Oc.cs_eq, List.mem_append] at h
    rcases h with h | h
    · simp at h; rcases h with rfl | rfl | rfl <;> rfl
    · exact encNm.one _ u h
  val x := .agg x.cs.toArray
  valCells _ := rfl
  inj x y h := by
    rw [Oc.cs_eq, Oc.cs_eq] at h
    obtain ⟨h1, h2⟩ := List.append_inj h rfl
    simp only [i64, List.cons.injEq, Value.int.injEq, true_and, and_true] at h1
    obtain ⟨a, b, c⟩ := h1
    exact (Oc.ext_iff' x y).2 ⟨a, b, c, encNm.inj _ _ h2⟩

/-- a choice: one slot of a block -/
structure Ch where
  validator : Int
  value : Nm
theorem Ch.ext_iff' (a b : Ch) : a = b ↔ (a.validator = b.validator ∧ a.value = b.value) := by
  cases a; cases b; simp
instance : DecidableEq Ch := fun a b => decidable_of_iff _ (Ch.ext_iff' a b).symm
def Ch.cs (v : Ch) : List Value := [i64 v.validator, u8 v.value.n0, u8 v.value.n1, u8 v.value.n2, u8 v.value.n3, u8 v.value.n4, u8 v.value.n5, u8 v.value.n6, u8 v.value.n7]
theorem Ch.cs_eq (v : Ch) : v.cs = [i64 v.validator] ++ v.value.cs := rfl
instance encCh : Enc Ch where
  cells := Ch.cs
  size := 9
  len _ := rfl
  pos := by decide
  one x u h := by
    rw [Ch.cs_eq, List.mem_append] at h
    rcases h with h | h
    · simp at h; subst h; rfl
    · exact encNm.one _ u h
  val x := .agg x.cs.toArray
  valCells _ := rfl
  inj x y h := by
    rw [Ch.cs_eq, Ch.cs_eq] at h
    obtain ⟨h1, h2⟩ := List.append_inj h rfl
    simp only [i64, List.cons.injEq, Value.int.injEq, true_and, and_true] at h1
    exact (Ch.ext_iff' x y).2 ⟨h1, encNm.inj _ _ h2⟩

/-! ### cells in a world -/
def Cells (w : World) (p : Addr) (cs : List Value) : Prop := ∀ (j : Nat) (u : Value), cs[j]? = some u → w.cell? (p.add j) = some u
theorem Cells.ext {w w' : World} {p : Addr} {cs : List Value} (h : Cells w p cs) (hx : Ext w w') : Cells w' p cs := fun j u hu => hx.cell (h j u hu)
theorem add_add (a : Addr) (i j : Nat) : (a.add i).add j = a.add (i + j) := by
  unfold Addr.add
  by_cases hi : i = 0 <;> by_cases hj : j = 0 <;> simp [hi, hj, Nat.add_assoc]
theorem add_block (a : Addr) (n : Nat) : (a.add n).block = a.block := by unfold Addr.add; split <;> rfl
theorem Cells.sub {w : World} {p : Addr} {cs ds : List Value} (h : Cells w p cs) (n : Nat) (hd : ∀ j u, ds[j]? = some u → cs[n + j]? = some u) : Cells w (p.add n) ds :=
  fun j u hu => by rw [add_add]; exact h _ u (hd j u hu)
theorem Cells.one {w : World} {p : Addr} {cs : List Value} (h : Cells w p cs) {n : Nat} {v : Value} (hv : cs[n]? = some v) : w.cell? (p.add n) = some v := h n v hv

/-- block b is just these cells, of type t -/
def Box (w : World) (b : Nat) (t : TypeId) (cs : List Value) : Prop := w.heap[b]? = some (.cells cs.toArray t (0, 0))
theorem Box.ext {w w' : World} {b : Nat} {t : TypeId} {cs : List Value} (h : Box w b t cs) (hx : Ext w w') : Box w' b t cs := hx.obj h
theorem Box.lt {w : World} {b : Nat} {t : TypeId} {cs : List Value} (h : Box w b t cs) : b < w.heap.size := (Array.getElem?_eq_some_iff.1 h).1
theorem Box.cells {w : World} {b : Nat} {t : TypeId} {cs : List Value} (h : Box w b t cs) : Cells w ⟨b, 0, none⟩ cs := fun j u hu => by
  have : (⟨b, 0, none⟩ : Addr).add j = ⟨b, j, none⟩ := by unfold Addr.add; split <;> simp_all
  rw [this, cell_of_row w b j cs.toArray t (0, 0) h]
  simpa using hu
theorem Box.far {w w' : World} {b : Nat} {t : TypeId} {cs : List Value} (h : Box w b t cs) {g : Option Nat} (hg : w.grownBy w' g) (hne : some b ≠ g) : Box w' b t cs := (hg.block b h.lt hne).trans h

/-! ### slices of data -/
/-- the slice with this address reads as the list; its blocks lie from lo to below hi -/
def Rd {α : Type} [Enc α] (w : World) (lo hi : Nat) (A : Option Addr) (l : List α) : Prop :=
  l.length ≤ 9223372036854775807 ∧ (0 < l.length → ∃ ad : Addr, A = some ad ∧ lo ≤ ad.block ∧ ad.block < hi ∧ ∀ (k : Nat) (x : α), l[k]? = some x → Cells w (ad.add (k * Enc.size α)) (Enc.cells x))
section
variable {α : Type} [Enc α] {w w' : World} {lo hi : Nat} {A : Option Addr} {l : List α}
theorem Rd.len (h : Rd w lo hi A l) : l.length ≤ 9223372036854775807 := h.1
theorem Rd.ext (h : Rd w lo hi A l) (hx : Ext w w') : Rd w' lo hi A l := ⟨h.1, fun hn => by
  obtain ⟨ad, e, h1, h2, hc⟩ := h.2 hn
  exact ⟨ad, e, h1, h2, fun k x hk => (hc k x hk).ext hx⟩⟩
theorem Rd.get (h : Rd w lo hi A l) {k : Nat} {x : α} (hk : l[k]? = some x) : ∃ ad : Addr, A = some ad ∧ lo ≤ ad.block ∧ ad.block < hi ∧ Cells w (ad.add (k * Enc.size α)) (Enc.cells x) := by
  have hlt : k < l.length := (List.getElem?_eq_some_iff.1 hk).1
  obtain ⟨ad, e, h1, h2, hc⟩ := h.2 (by omega)
  exact ⟨ad, e, h1, h2, hc k x hk⟩
theorem Rd.take (h : Rd w lo hi A l) (n : Nat) : Rd w lo hi A (l.take n) := ⟨by have := List.length_take_le' n l; have := h.1; omega, fun hn => by
  have hl : 0 < l.length := by have := List.length_take_le n l; have := List.length_take_le' n l; omega
  obtain ⟨ad, e, h1, h2, hc⟩ := h.2 hl
  refine ⟨ad, e, h1, h2, fun k x hk => hc k x ?_⟩
  rw [List.getElem?_take] at hk
  split at hk
  · exact hk
  · cases hk⟩
theorem Rd.nil (w : World) (lo hi : Nat) (A : Option Addr) : Rd w lo hi A ([] : List α) := ⟨by simp, fun h => absurd h (by simp)⟩
theorem Rd.mono {lo' hi' : Nat} (h : Rd w lo hi A l) (h1 : lo' ≤ lo) (h2 : hi ≤ hi') : Rd w lo' hi' A l := ⟨h.1, fun hn => by
  obtain ⟨ad, e, h3, h4, hc⟩ := h.2 hn
  exact ⟨ad, e, by omega, by omega, hc⟩⟩
theorem Rd.drop {k cap : Nat} (h : Rd w lo hi A l) (hk : k ≤ l.length) (hc : l.length ≤ cap) : Rd w lo hi (if cap = k then A else A.map (·.add (k * Enc.size α))) (l.drop k) := ⟨by have := h.1; rw [List.length_drop]; omega, fun hn => by
  rw [List.length_drop] at hn
  obtain ⟨ad, e, h1, h2, hcc⟩ := h.2 (by omega)
  rw [if_neg (by omega)]
  subst e
  refine ⟨ad.add (k * Enc.size α), rfl, by rw [add_block]; exact h1, by rw [add_block]; exact h2, fun j x hj => ?_⟩
  rw [add_add, ← Nat.add_mul]
  exact hcc _ x (by rw [← hj, List.getElem?_drop])⟩
end

/-- the slice v is the call's own, from block base on, and holds the list -/
def Own {α : Type} [Enc α] (w : World) (base : Nat) (e : TypeId) (v : Value) (l : List α) : Prop := w.ownsRow base e (Enc.size α) v l.length (l.flatMap Enc.cells)
section
variable {α : Type} [Enc α] {w w' : World} {base : Nat} {e : TypeId} {v : Value} {l : List α}
theorem Own.nil (w : World) (base : Nat) (e : TypeId) : Own w base e (.slice none 0 0) ([] : List α) := World.ownsRow_nil _ _ _ _
theorem flat_get (l : List α) (k : Nat) (x : α) (h : l[k]? = some x) (j : Nat) (u : Value) (hu : (Enc.cells x)[j]? = some u) : (l.flatMap Enc.cells)[k * Enc.size α + j]? = some u := by
  induction l generalizing k with
  | nil => simp at h
  | cons y l ih =>
    have hlen := Enc.len y
    cases k with
    | zero =>
      simp only [List.getElem?_cons_zero, Option.some.injEq] at h
      subst h
      have hj : j < (Enc.cells y).length := (List.getElem?_eq_some_iff.1 hu).1
      rw [List.flatMap_cons, Nat.zero_mul, Nat.zero_add, List.getElem?_append_left hj]
      exact hu
    | succ k =>
      simp only [List.getElem?_cons_succ] at h
      rw [List.flatMap_cons, List.getElem?_append_right (by rw [hlen, Nat.succ_mul]; omega), hlen, show (k + 1) * Enc.size α + j - Enc.size α = k * Enc.size α + j by rw [Nat.succ_mul]; omega]
      exact ih k h
theorem Own.form (h : Own w base e v l) : ∃ A c, v = .slice A l.length c ∧ Rd w base w.heap.size A l ∧ l.length ≤ c := by
  rcases h.2 with ⟨rfl, h0⟩ | ⟨g, cap, cur, rfl, hb, hg, hnc, hcm, hcs, htake⟩
  · exact ⟨none, 0, by rw [h0], ⟨by omega, fun hn => by omega⟩, by omega⟩
  · refine ⟨_, cap, rfl, ⟨by unfold maxLen at hcm; omega, fun _ => ⟨⟨g, 0, none⟩, rfl, hb, (Array.getElem?_eq_some_iff.1 hg).1, fun k x hk j u hu => ?_⟩⟩, hnc⟩
    rw [add_add]
    exact h.cells (g := g) rfl _ u (flat_get l k x hk j u hu)
theorem Own.kept {g : Option Nat} (h : Own w base e v l) (hg : w.grownBy w' g) (hne : v.ownBlock = none ∨ v.ownBlock ≠ g) : Own w' base e v l := World.ownsRow.kept h hg hne
theorem ext_grown {w w' : World} (hx : Ext w w') : w.grownBy w' none := ⟨Below.os hx, Below.tape hx, Below.output hx, hx.size, fun _ hk _ => hx.block hk⟩
theorem Own.ext (h : Own w base e v l) (hx : Ext w w') : Own w' base e v l := h.kept (ext_grown hx) (by cases v.ownBlock <;> simp)
theorem Own.lt (h : Own w base e v l) : ∀ k, v.ownBlock = some k → base ≤ k ∧ k < w.heap.size := World.ownsRow.lt h
theorem Ext.grown {a w w' : World} {g : Option Nat} (hx : Ext a w) (hg : w.grownBy w' g) (hr : ∀ k, g = some k → a.heap.size ≤ k) : Ext a w' := Below.grown hx hg hx.size hr
theorem Ext.own {a : World} (hx : Ext a w) (h : Own w a.heap.size e v l) {w' : World} (hg : w.grownBy w' v.ownBlock) : Ext a w' := hx.grown hg fun k hk => (h.lt k hk).1
theorem Own.rd {A : Option Addr} {n c : Nat} (h : Own w base e (.slice A n c) l) : n = l.length ∧ Rd w base w.heap.size A l ∧ n ≤ c := by
  obtain ⟨A', c', hv, hr, hc⟩ := h.form
  injection hv with h1 h2 h3
  subst h1 h2 h3
  exact ⟨rfl, hr, hc⟩
end

/-! ### types -/
/-- values of type t are data of α: how they are read and how great they are -/
structure TyEnc (P : Program) (t : TypeId) (α : Type) [Enc α] : Prop where
  load : ∀ (w : World) (p : Addr) (x : α), Cells w p (Enc.cells x) → (loadVar t p).run P w = .ok (Enc.val x) w
  size : (P.info? t).map (·.size) = some (Enc.size α)
def isAggT (P : Program) (t : TypeId) : Bool := match P.underlying t with | some (.struct _) | some (.array _ _) => true | _ => false
def isOneT (P : Program) (t : TypeId) : Bool := match P.underlying t with | some (.struct _) | some (.array _ _) | none => false | _ => true
theorem TyEnc.agg {P : Program} {t : TypeId} {α : Type} [Enc α] (h : isAggT P t = true) (hs : (P.info? t).map (·.size) = some (Enc.size α)) (hv : ∀ x : α, Enc.val x = .agg (Enc.cells x).toArray) : TyEnc P t α := by
  refine ⟨fun w p x hc => ?_, hs⟩
  have hsz : (sizeOf t).run P w = .ok (Enc.cells x).length w := by
    cases hi : P.info? t with
    | none => rw [hi] at hs; cases hs
    | some i =>
      rw [hi] at hs
      simp only [Option.map_some, Option.some.injEq] at hs
      simp [sizeOf, typeInfo, hi, hs, Enc.len]
  have hl := run_loadCells_list (P := P) w p (Enc.cells x) hc
  have ha : (isAgg t).run P w = .ok true w := by
    cases hu : P.underlying t with
    | none => simp [isAggT, hu] at h
    | some d =>
      cases d <;> simp [isAggT, hu] at h <;> simp [isAgg, run_underlying hu]
  simp [loadVar, ha, hsz, hl, hv]
theorem run_load_one {P : Program} {t : TypeId} (h : isOneT P t = true) {w : World} {p : Addr} {v : Value} (hc : w.cell? p = some v) : (loadVar t p).run P w = .ok v w := by
  have ha : (isAgg t).run P w = .ok false w := by
    cases hu : P.underlying t with
    | none => simp [isOneT, hu] at h
    | some d =>
      cases d <;> simp [isOneT, hu] at h <;> simp [isAgg, run_underlying hu]
  simp [loadVar, ha, hc]
theorem TyEnc.int {P : Program} {t : TypeId} (h : isOneT P t = true) (hs : (P.info? t).map (·.size) = some 1) : TyEnc P t Int := by
  refine ⟨fun w p x hc => ?_, hs⟩
  have := hc 0 _ rfl
  rw [Addr.add_zero'] at this
  exact run_load_one h this

/-- field i of type s lies off cells behind its beginning -/
def FieldOff (P : Program) (s : TypeId) (i off : Nat) : Prop := ∀ (w : World) (a : Addr), (Instr.fieldAt s (.pointer (some a)) i).run P w = .ok (.pointer (some (a.add off))) w
theorem FieldOff.mk {P : Program} {s : TypeId} {i off : Nat} {fs : Array Field} {fl : Field} {n : Nat} (hu : P.underlying s = some (.struct fs)) (hf : fs[i]? = some fl) (ho : fl.offset = off) (hs : (P.info? fl.type).map (·.size) = some (n + 1)) : FieldOff P s i off := by
  intro w a
  cases hi : P.info? fl.type with
  | none => rw [hi] at hs; cases hs
  | some it =>
    rw [hi] at hs
    simp only [Option.map_some, Option.some.injEq] at hs
    simp [Instr.fieldAt, run_underlying hu, hf, Instr.sureAddr, fieldPlace, sizeOf, typeInfo, hi, hs, ho]

/-- '==' at type t tells data apart -/
def EqEnc (P : Program) (t : TypeId) (α : Type) [Enc α] [DecidableEq α] : Prop := ∀ (w : World) (x y : α), (Op.equal t (Enc.val x) (Enc.val y)).run P w = .ok (decide (x = y)) w

/-- the same at every depth from k on -/
def EqDeep (P : Program) (t : TypeId) (α : Type) [Enc α] [DecidableEq α] (k : Nat) : Prop := ∀ (d : Nat) (w : World) (x y : α), (Op.equalIn (d + k) t (Enc.val x) (Enc.val y)).run P w = .ok (decide (x = y)) w
theorem EqDeep.enc {P : Program} {t : TypeId} {α : Type} [Enc α] [DecidableEq α] {k : Nat} (h : EqDeep P t α k) (hk : k ≤ 10000) : EqEnc P t α := fun w x y => by
  have := h (10000 - k) w x y
  rw [Nat.sub_add_cancel hk] at this
  exact this
theorem EqDeep.int {P : Program} {t : TypeId} {k : IntKind} (h : P.underlying t = some (.int k)) : EqDeep P t Int 1 := fun d w x y => run_equalIn_int w d t .i64 k x y h
def Nm.bytes (n : Nm) : List UInt8 := [n.n0, n.n1, n.n2, n.n3, n.n4, n.n5, n.n6, n.n7]
theorem EqDeep.nm {P : Program} {t e : TypeId} (ht : P.underlying t = some (.array 8 e)) (he : P.underlying e = some (.int .u8)) (hs : (P.info? e).map (·.size) = some 1) : EqDeep P t Nm 2 := fun d w x y => by
  have hsz : ∀ w, (Go.sizeOf e).run P w = .ok 1 w := fun w => by
    cases hi : P.info? e with
    | none => rw [hi] at hs; cases hs
    | some i =>
      rw [hi] at hs
      simp only [Option.map_some, Option.some.injEq] at hs
      simp [Go.sizeOf, typeInfo, hi, hs]
  have h := run_equalIn_bytes (P := P) w d t e 8 ht he hsz x.bytes y.bytes rfl rfl
  refine h.trans ?_
  congr 1
  rw [Bool.eq_iff_iff, beq_iff_eq, decide_eq_true_eq, Nm.ext_iff']
  simp [Nm.bytes]
/-- one field more: 'eqFields' goes on where the parts are alike -/
theorem eqFields_cons {P : Program} {w : World} {d : Nat} {xs ys : Array Value} {fl : Field} {fs : List Field} {u v : Value} {b r : Bool} (hn : fl.name ≠ "_") (hx : (part fl.type xs fl.offset).run P w = .ok u w) (hy : (part fl.type ys fl.offset).run P w = .ok v w)
    (he : (Op.equalIn d fl.type u v).run P w = .ok b w) (hr : (Op.eqFields d xs ys fs).run P w = .ok r w) : (Op.eqFields d xs ys (fl :: fs)).run P w = .ok (b && r) w := by
  simp only [Op.eqFields, if_pos hn, Sem.run_bind, hx, hy, he, Result.andThen_ok]
  cases b with
  | true => simpa using hr
  | false => simp
theorem eqFields_nil {P : Program} {w : World} {d : Nat} {xs ys : Array Value} : (Op.eqFields d xs ys []).run P w = .ok true w := rfl
theorem eqStruct {P : Program} {w : World} {t : TypeId} {fs : List Field} {d : Nat} {xs ys : Array Value} {b r : Bool} (hu : P.underlying t = some (.struct fs.toArray)) (hp : P.stoodInHeld t = false) (h : (Op.eqFields (d + 2) xs ys fs).run P w = .ok b w) (hb : b = r) :
    (Op.equalIn (d + 3) t (.agg xs) (.agg ys)).run P w = .ok r w := by
  subst hb
  have hf : (P.fieldsOf t).toList = fs := by simp [Program.fieldsOf, hu]
  rw [run_equalIn_struct (P := P) w (d + 2) t xs ys (by simp [Program.fieldsOf, hu]) hp, hf]
  exact h
theorem part_one {P : Program} {w : World} {t : TypeId} {cs : List Value} {off : Nat} {v : Value} (h : isOneT P t = true) (hc : cs[off]? = some v) : (part t cs.toArray off).run P w = .ok v w := by
  have ha : (isAgg t).run P w = .ok false w := by
    cases hu : P.underlying t with
    | none => simp [isOneT, hu] at h
    | some d =>
      cases d <;> simp [isOneT, hu] at h <;> simp [isAgg, run_underlying hu]
  simp [part, ha, hc]
theorem part_agg {P : Program} {w : World} {t : TypeId} {cs ds : List Value} {off n : Nat} (h : isAggT P t = true) (hs : (P.info? t).map (·.size) = some n) (hc : (cs.drop off).take n = ds) : (part t cs.toArray off).run P w = .ok (.agg ds.toArray) w := by
  have ha : (isAgg t).run P w = .ok true w := by
    cases hu : P.underlying t with
    | none => simp [isAggT, hu] at h
    | some d =>
      cases d <;> simp [isAggT, hu] at h <;> simp [isAgg, run_underlying hu]
  have hsz : (Go.sizeOf t).run P w = .ok n w := by
    cases hi : P.info? t with
    | none => rw [hi] at hs; cases hs
    | some i =>
      rw [hi] at hs
      simp only [Option.map_some, Option.some.injEq] at hs
      simp [Go.sizeOf, typeInfo, hi, hs]
  subst hc
  simp [part, ha, hsz]

/-- slices of type t have elements of type e, data of α -/
structure TySl (P : Program) (t e : TypeId) (α : Type) [Enc α] : Prop where
  under : P.underlying t = some (.slice e)
  elem : TyEnc P e α
theorem TyEnc.sizeOf {P : Program} {t : TypeId} {α : Type} [Enc α] (h : TyEnc P t α) (w : World) : (Go.sizeOf t).run P w = .ok (Enc.size α) w := by
  have hs := h.size
  cases hi : P.info? t with
  | none => rw [hi] at hs; cases hs
  | some i =>
    rw [hi] at hs
    simp only [Option.map_some, Option.some.injEq] at hs
    simp [Go.sizeOf, typeInfo, hi, hs]

/-! ### operations -/
section
variable {P : Program} {o : Oper} {f : Fr} {w : World}

theorem op_move {x : Operand} {v : Value} (ho : o.op = .move x) (hx : evalF f x = v) : (execOp (evalF f) o).run P w = .ok (.value v) w := by
  unfold execOp; simp only [ho, hx]; rfl
theorem op_assign {x : Operand} {v : Value} (ho : o.op = .assign x) (hx : evalF f x = v) : (execOp (evalF f) o).run P w = .ok (.value v) w := by
  unfold execOp; simp only [ho, hx]; rfl

theorem op_pick {c x y : Operand} {b : Bool} {v : Value} (ho : o.op = .pick c x y) (hc : evalF f c = .bool b) (hx : b = true → evalF f x = v) (hy : b = false → evalF f y = v) : (execOp (evalF f) o).run P w = .ok (.value v) w := by
  unfold execOp
  simp only [ho, hc]
  cases b with
  | true => simp [asBool, hx rfl]
  | false => simp [asBool, hy rfl]
theorem op_or {c x y : Operand} {b e : Bool} (ho : o.op = .pick c x y) (hc : evalF f c = .bool b) (hx : evalF f x = .bool true) (hy : evalF f y = vif (!b) (.bool e)) : (execOp (evalF f) o).run P w = .ok (.value (.bool (b || e))) w :=
  op_pick ho hc (fun h => by subst h; exact hx) (fun h => by subst h; exact hy)
theorem op_and {c x y : Operand} {b e : Bool} (ho : o.op = .pick c x y) (hc : evalF f c = .bool b) (hx : evalF f x = vif b (.bool e)) (hy : evalF f y = .bool false) : (execOp (evalF f) o).run P w = .ok (.value (.bool (b && e))) w :=
  op_pick ho hc (fun h => by subst h; exact hx) (fun h => by subst h; exact hy)

theorem wanted_bool {ops : Array Oper} {j d : Nat} {want b : Bool} (hg : o.guard = some (j, want)) (hd : (ops[j]?).bind (·.dst) = some d) (hv : f d = .bool b) : Region.wanted o (yieldF ops f) = (b == want) := by
  unfold Region.wanted
  rw [hg]
  simp only [yieldF, hd, hv]
  cases b <;> cases want <;> rfl
theorem wanted_yes {ops : Array Oper} {j d : Nat} {b : Bool} (hg : o.guard = some (j, true)) (hd : (ops[j]?).bind (·.dst) = some d) (hv : f d = .bool b) : Region.wanted o (yieldF ops f) = b := by
  rw [wanted_bool hg hd hv]; cases b <;> rfl
theorem wanted_no {ops : Array Oper} {j d : Nat} {b : Bool} (hg : o.guard = some (j, false)) (hd : (ops[j]?).bind (·.dst) = some d) (hv : f d = .bool b) : Region.wanted o (yieldF ops f) = !b := by
  rw [wanted_bool hg hd hv]; cases b <;> rfl
theorem wanted_vif {ops : Array Oper} {j d : Nat} {want g b : Bool} (hg : o.guard = some (j, want)) (hd : (ops[j]?).bind (·.dst) = some d) (hv : f d = vif g (.bool b)) : Region.wanted o (yieldF ops f) = (g && (b == want)) := by
  unfold Region.wanted
  rw [hg]
  simp only [yieldF, hd, hv]
  cases g <;> cases b <;> cases want <;> rfl

theorem op_field {s : TypeId} {x : Operand} {i off : Nat} {p q : Addr} (ho : o.op = .fieldAddr s x i) (hx : evalF f x = .pointer (some p)) (hf : FieldOff P s i off) (hq : p.add off = q) : (execOp (evalF f) o).run P w = .ok (.value (.pointer (some q))) w := by
  subst hq
  unfold execOp
  simp only [ho, hx, Sem.run_bind, hf w p, Result.andThen_ok]
  rfl
theorem op_load {α : Type} [Enc α] {t : TypeId} {x : Operand} {p : Addr} {v : α} (ho : o.op = .load t x) (hx : evalF f x = .pointer (some p)) (T : TyEnc P t α) (hc : Cells w p (Enc.cells v)) : (execOp (evalF f) o).run P w = .ok (.value (Enc.val v)) w := by
  unfold execOp
  simp only [ho, hx, Instr.loadAt, Instr.sureAddr, Sem.run_bind, Sem.run_pure, Result.andThen_ok, T.load w p v hc]
theorem op_load1 {t : TypeId} {x : Operand} {p : Addr} {v : Value} (ho : o.op = .load t x) (hx : evalF f x = .pointer (some p)) (h1 : isOneT P t = true) (hc : w.cell? p = some v) : (execOp (evalF f) o).run P w = .ok (.value v) w := by
  unfold execOp
  simp only [ho, hx, Instr.loadAt, Instr.sureAddr, Sem.run_bind, Sem.run_pure, Result.andThen_ok, run_load_one h1 hc]
theorem op_not {t : TypeId} {x : Operand} {b : Bool} (ho : o.op = .unOp .not t x) (hx : evalF f x = .bool b) : (execOp (evalF f) o).run P w = .ok (.value (.bool (!b))) w := by
  unfold execOp
  simp [ho, hx, Op.unary]

theorem op_int {bo : BinOp} {t ty : TypeId} {x y : Operand} {k : IntKind} {a b : Int} {v : Value} (ho : o.op = .binOp bo t x y ty) (hx : evalF f x = .int k a) (hy : evalF f y = .int k b) (hv : binOp bo t (.int k a) (.int k b) = pure v) : (execOp (evalF f) o).run P w = .ok (.value v) w := by
  unfold execOp
  simp only [ho, hx, hy, Sem.run_bind, eqGuard_at_int, Sem.run_pure, Result.andThen_ok, hv]
theorem op_eql {t ty : TypeId} {x y : Operand} {k : IntKind} {a b : Int} (ho : o.op = .binOp .eql t x y ty) (hx : evalF f x = .int k a) (hy : evalF f y = .int k b) : (execOp (evalF f) o).run P w = .ok (.value (.bool (decide (a = b)))) w :=
  op_int ho hx hy (by rw [binOp_eql]; rfl)
theorem op_neq {t ty : TypeId} {x y : Operand} {k : IntKind} {a b : Int} (ho : o.op = .binOp .neq t x y ty) (hx : evalF f x = .int k a) (hy : evalF f y = .int k b) : (execOp (evalF f) o).run P w = .ok (.value (.bool (!decide (a = b)))) w :=
  op_int ho hx hy (by rw [binOp_neq]; rfl)
theorem op_lss {t ty : TypeId} {x y : Operand} {k : IntKind} {a b : Int} (ho : o.op = .binOp .lss t x y ty) (hx : evalF f x = .int k a) (hy : evalF f y = .int k b) : (execOp (evalF f) o).run P w = .ok (.value (.bool (decide (a < b)))) w :=
  op_int ho hx hy (binOp_lss _ _ _ _)
theorem op_leq {t ty : TypeId} {x y : Operand} {k : IntKind} {a b : Int} (ho : o.op = .binOp .leq t x y ty) (hx : evalF f x = .int k a) (hy : evalF f y = .int k b) : (execOp (evalF f) o).run P w = .ok (.value (.bool (decide (a ≤ b)))) w :=
  op_int ho hx hy (binOp_leq _ _ _ _)
theorem op_gtr {t ty : TypeId} {x y : Operand} {k : IntKind} {a b : Int} (ho : o.op = .binOp .gtr t x y ty) (hx : evalF f x = .int k a) (hy : evalF f y = .int k b) : (execOp (evalF f) o).run P w = .ok (.value (.bool (decide (b < a)))) w :=
  op_int ho hx hy (by rw [binOp_gtr])
theorem op_geq {t ty : TypeId} {x y : Operand} {k : IntKind} {a b : Int} (ho : o.op = .binOp .geq t x y ty) (hx : evalF f x = .int k a) (hy : evalF f y = .int k b) : (execOp (evalF f) o).run P w = .ok (.value (.bool (decide (b ≤ a)))) w :=
  op_int ho hx hy (by rw [binOp_geq])
theorem wrap_in {n : Int} (h : -9223372036854775808 ≤ n ∧ n < 9223372036854775808) : IntKind.i64.wrap n = n := by
  simp only [IntKind.wrap, IntKind.bits, IntKind.signed]
  simp
  omega
theorem op_add {t ty : TypeId} {x y : Operand} {a b c : Int} (ho : o.op = .binOp .add t x y ty) (hx : evalF f x = .int .i64 a) (hy : evalF f y = .int .i64 b) (hc : a + b = c) (hr : -9223372036854775808 ≤ c ∧ c < 9223372036854775808) : (execOp (evalF f) o).run P w = .ok (.value (.int .i64 c)) w :=
  op_int ho hx hy (by rw [binOp_add]; show pure _ = _; rw [hc, wrap_in hr])
theorem op_sub {t ty : TypeId} {x y : Operand} {a b c : Int} (ho : o.op = .binOp .sub t x y ty) (hx : evalF f x = .int .i64 a) (hy : evalF f y = .int .i64 b) (hc : a - b = c) (hr : -9223372036854775808 ≤ c ∧ c < 9223372036854775808) : (execOp (evalF f) o).run P w = .ok (.value (.int .i64 c)) w :=
  op_int ho hx hy (by rw [binOp_sub]; show pure _ = _; rw [hc, wrap_in hr])
/-- the bits of two ints -/
def iand (a b : Int) : Int := bits .and .i64 a b
def ior (a b : Int) : Int := bits .or .i64 a b
def ixor (a b : Int) : Int := bits .xor .i64 a b
def iandn (a b : Int) : Int := bits .andNot .i64 a b
def ishl (a b : Int) : Int := IntKind.i64.wrap (a * 2 ^ b.toNat)
theorem op_iand {t ty : TypeId} {x y : Operand} {a b : Int} (ho : o.op = .binOp .and t x y ty) (hx : evalF f x = .int .i64 a) (hy : evalF f y = .int .i64 b) : (execOp (evalF f) o).run P w = .ok (.value (.int .i64 (iand a b))) w :=
  op_int ho hx hy (by rw [binOp_and]; rfl)
theorem op_ior {t ty : TypeId} {x y : Operand} {a b : Int} (ho : o.op = .binOp .or t x y ty) (hx : evalF f x = .int .i64 a) (hy : evalF f y = .int .i64 b) : (execOp (evalF f) o).run P w = .ok (.value (.int .i64 (ior a b))) w :=
  op_int ho hx hy (by rw [binOp_or]; rfl)
theorem op_iandn {t ty : TypeId} {x y : Operand} {a b : Int} (ho : o.op = .binOp .andNot t x y ty) (hx : evalF f x = .int .i64 a) (hy : evalF f y = .int .i64 b) : (execOp (evalF f) o).run P w = .ok (.value (.int .i64 (iandn a b))) w :=
  op_int ho hx hy (by rw [binOp_andNot]; rfl)
theorem op_shr {t ty : TypeId} {x y : Operand} {a b : Int} (ho : o.op = .binOp .shr t x y ty) (hx : evalF f x = .int .i64 a) (hy : evalF f y = .int .i64 b) (h0 : 0 ≤ b) (h1 : b ≤ 64) : (execOp (evalF f) o).run P w = .ok (.value (.int .i64 (a / 2 ^ b.toNat))) w :=
  op_int ho hx hy (by rw [binOp_shr, shift_shr_i64 _ _ _ h0 h1])
theorem op_shl {t ty : TypeId} {x y : Operand} {a b : Int} (ho : o.op = .binOp .shl t x y ty) (hx : evalF f x = .int .i64 a) (hy : evalF f y = .int .i64 b) (h0 : 0 ≤ b) (h1 : b ≤ 64) : (execOp (evalF f) o).run P w = .ok (.value (.int .i64 (ishl a b))) w :=
  op_int ho hx hy (by rw [binOp_shl, shift_shl_i64 _ _ _ h0 h1]; rfl)
theorem op_quo {t ty : TypeId} {x y : Operand} {a b : Int} (ho : o.op = .binOp .quo t x y ty) (hx : evalF f x = .int .i64 a) (hy : evalF f y = .int .i64 b) (ha : 0 ≤ a) (hb : 0 < b) (hm : a < 9223372036854775808) : (execOp (evalF f) o).run P w = .ok (.value (.int .i64 (a / b))) w :=
  op_int ho hx hy (by
    have h1 : a.tdiv b = a / b := Int.tdiv_eq_ediv_of_nonneg ha
    have h2 : a / b ≤ a := Int.ediv_le_self b ha
    have h3 : 0 ≤ a / b := Int.ediv_nonneg ha (by omega)
    have hb0 : ¬ b = 0 := by omega
    rw [binOp_quo]
    simp only [Op.intDiv, if_neg hb0]
    rw [h1, wrap_in ⟨by omega, by omega⟩])
theorem op_eqlb {t ty : TypeId} {x y : Operand} {a b : Bool} (ho : o.op = .binOp .eql t x y ty) (hx : evalF f x = .bool a) (hy : evalF f y = .bool b) (hu : P.underlying t = some .bool) : (execOp (evalF f) o).run P w = .ok (.value (.bool (a == b))) w := by
  unfold execOp
  have h := run_equalIn_bool' (P := P) w 9999 t a b hu
  simp only [ho, hx, hy, Sem.run_bind, eqGuard_at_bool, Sem.run_pure, Result.andThen_ok, binOp, Op.equal, Op.maxDepth]
  rw [h]
  rfl
theorem op_eqle {α : Type} [Enc α] [DecidableEq α] {t ty : TypeId} {x y : Operand} {a b : α} (ho : o.op = .binOp .eql t x y ty) (hx : evalF f x = Enc.val a) (hy : evalF f y = Enc.val b) (E : EqEnc P t α) (ha : ∀ x : α, ∃ cs, Enc.val x = .agg cs) (hm : P.eqGuardType P.depth t = false) : (execOp (evalF f) o).run P w = .ok (.value (.bool (decide (a = b)))) w := by
  have h := E w a b
  obtain ⟨ca, hca⟩ := ha a
  obtain ⟨cb, hcb⟩ := ha b
  unfold execOp
  rw [hca, hcb] at h
  simp only [ho, hx, hy, hca, hcb, Sem.run_bind, run_eqGuard_agg w .eql t x y ca cb hm, Result.andThen_ok, binOp, h]
  rfl
theorem op_neqe {α : Type} [Enc α] [DecidableEq α] {t ty : TypeId} {x y : Operand} {a b : α} (ho : o.op = .binOp .neq t x y ty) (hx : evalF f x = Enc.val a) (hy : evalF f y = Enc.val b) (E : EqEnc P t α) (ha : ∀ x : α, ∃ cs, Enc.val x = .agg cs) (hm : P.eqGuardType P.depth t = false) : (execOp (evalF f) o).run P w = .ok (.value (.bool (!decide (a = b)))) w := by
  have h := E w a b
  obtain ⟨ca, hca⟩ := ha a
  obtain ⟨cb, hcb⟩ := ha b
  unfold execOp
  rw [hca, hcb] at h
  simp only [ho, hx, hy, hca, hcb, Sem.run_bind, run_eqGuard_agg w .neq t x y ca cb hm, Result.andThen_ok, binOp, h]
  rfl
theorem partsN : ([] : List (Nat × Operand)).map (fun x => (x.1, evalF f x.2)) = [] := rfl
theorem partsC {x : Operand} {i : Nat} {l : List (Nat × Operand)} {v : Value} {vs : List (Nat × Value)} (h : evalF f x = v) (hr : l.map (fun x => (x.1, evalF f x.2)) = vs) : ((i, x) :: l).map (fun x => (x.1, evalF f x.2)) = (i, v) :: vs := by rw [List.map_cons, hr, h]
theorem op_build {t : TypeId} {parts : List (Nat × Operand)} {vs : List (Nat × Value)} {cs : List Value} {v : Value} (ho : o.op = .build t parts.toArray) (hp : parts.map (fun x => (x.1, evalF f x.2)) = vs) (h : (P.built t vs).map (·.toList) = some cs) (hv : v = .agg cs.toArray) : (execOp (evalF f) o).run P w = .ok (.value v) w := by
  subst hp hv
  cases hb : P.built t (parts.map (fun x => (x.1, evalF f x.2))) with
  | none => rw [hb] at h; cases h
  | some c =>
    rw [hb] at h
    simp only [Option.map_some, Option.some.injEq] at h
    subst h
    have hb' : P.built t (parts.toArray.map fun (x : Nat × Operand) => (x.1, evalF f x.2)).toList = some c := by simpa using hb
    unfold execOp
    simp only [ho, Sem.run_bind]
    rw [run_build w t _ c hb']
    rfl
/-- a slice literal of one datum: a new block -/
theorem op_slice1 {α : Type} [Enc α] {t e : TypeId} {x : Operand} {a : α} (ho : o.op = .buildSlice t 1 #[(0, x)]) (hx : evalF f x = Enc.val a) (T : TySl P t e α) (hzz : ((P.info? e).bind (·.zero)).map (·.cells.size) = some (Enc.size α)) (hs : Enc.size α ≤ 16777216) :
    OpS P o f w fun u w' => ∃ b, u = .slice (some ⟨b, 0, none⟩) 1 1 ∧ w.heap.size ≤ b ∧ Box w' b e (Enc.cells a) ∧ Ext w w' := by
  obtain ⟨z, hz, hzs⟩ := Option.map_eq_some_iff.1 hzz
  have hsz := T.elem.size
  cases hi : P.info? e with
  | none => rw [hi] at hz; cases hz
  | some i =>
    rw [hi] at hz hsz
    simp only [Option.bind_some, Option.map_some, Option.some.injEq] at hz hsz
    have hpos := Enc.pos (α := α)
    have hl := Enc.len a
    have hfill : Instr.fill (fun i => some (i * Enc.size α, Enc.size α)) ((Array.range (1 * Enc.size α)).map (z.cells[· % z.cells.size]!)) [(0, Enc.val a)] = some (Enc.cells a).toArray := by
      obtain ⟨r, hr, hsr, hk⟩ := Great.fill_dense hpos [Enc.val a] 0 ((Array.range (1 * Enc.size α)).map (z.cells[· % z.cells.size]!)) (by intro v hv; simp at hv; subst hv; rw [Enc.valCells]; simp [hl]) (by simp)
      simp only [List.zipIdx_cons, List.zipIdx_nil, List.map_cons, List.map_nil] at hr
      rw [hr]
      congr 1
      apply Array.ext_getElem?
      intro k
      rw [hk k]
      simp only [Nat.zero_mul, Nat.zero_le, true_and, List.length_cons, List.length_nil, Nat.zero_add, Nat.one_mul, Nat.sub_zero]
      by_cases hkl : k < Enc.size α
      · rw [if_pos hkl, Nat.div_eq_of_lt hkl, Nat.mod_eq_of_lt hkl]
        simp [Enc.valCells]
      · rw [if_neg hkl]
        simp [hl, hkl]
    have hrun : (Instr.buildSlice t 1 #[(0, Enc.val a)]).run P w = .ok (.slice (some ⟨w.heap.size, 0, none⟩) 1 1) (w.alloc (.cells (Enc.cells a).toArray e)) := by
      have h1 : ¬ (1 * Enc.size α > 2 ^ 24) := by omega
      have h2 : ¬ (1 * Enc.size α = 0) := by omega
      simp only [Instr.buildSlice, Sem.run_bind, run_underlying T.under, Result.andThen_ok, T.elem.sizeOf, Sem.run_ite, if_neg h1, if_neg h2, zeroValue, typeInfo]
      simp [hi, hz, newRow]
      rw [show (z.cells.size) = Enc.size α from hzs] at hfill
      simp only [Nat.one_mul] at hfill
      simp [hzs, hfill]
    refine OpS.val (v := .slice (some ⟨w.heap.size, 0, none⟩) 1 1) (w' := w.alloc (.cells (Enc.cells a).toArray e)) ?_ ⟨_, rfl, Nat.le_refl _, heap_alloc_new w _, Ext.alloc _ _⟩
    unfold execOp
    simp only [ho]
    simp [hx, hrun]
theorem op_len {t : TypeId} {x : Operand} {A : Option Addr} {n c : Nat} (ho : o.op = .call { callee := .builtin .len, args := #[x], argTypes := #[t] }) (hx : evalF f x = .slice A n c) (hu : P.underlying t = some (.slice (P.elem t))) : (execOp (evalF f) o).run P w = .ok (.value (.int .i64 (n : Int))) w := by
  unfold execOp
  simp only [ho, resolve, invoke, builtin, Sem.run_bind, Sem.run_pure, Result.andThen_ok, List.map_toArray, List.map_cons, List.map_nil, hx, run_len_slice w t _ A n c hu]
  rfl
theorem op_index {α : Type} [Enc α] {t e : TypeId} {x i : Operand} {A : Option Addr} {n c k : Nat} {ad q : Addr} {j : Int} {ki : IntKind} (ho : o.op = .indexAddr t x i) (hx : evalF f x = .slice A n c) (hi : evalF f i = .int ki j) (T : TySl P t e α) (hA : A = some ad) (hj : j = (k : Int)) (hk : k < n) (hq : ad.add (k * Enc.size α) = q) : (execOp (evalF f) o).run P w = .ok (.value (.pointer (some q))) w := by
  subst hA hj hq
  have he : P.elem t = e := by simp [Program.elem, T.under]
  unfold execOp
  simp only [ho, hx, hi, Sem.run_bind]
  rw [run_indexAt_slice w t ad n c ki k (by rw [he]; exact T.under), if_pos ⟨by omega, by omega⟩, he, T.elem.sizeOf]
  simp
theorem op_func {fn : Fn} {caps : List Operand} {vs : List Value} (ho : o.op = .makeFunc fn #[] caps.toArray) (hc : caps.map (evalF f) = vs) : (execOp (evalF f) o).run P w = .ok (.value (.func fn #[] vs.toArray)) w := by
  subst hc
  unfold execOp
  simp [ho, Instr.makeFunc]
theorem op_extract {x : Operand} {i : Nat} {vs : Array Value} {v : Value} (ho : o.op = .extract x i) (hx : evalF f x = .tuple vs) (hv : vs[i]? = some v) : (execOp (evalF f) o).run P w = .ok (.value v) w := by
  unfold execOp
  simp [ho, hx, Instr.extract, hv]
theorem op_nilCheck {x : Operand} {p : Addr} (ho : o.op = .nilCheck x) (hx : evalF f x = .pointer (some p)) : (execOp (evalF f) o).run P w = .ok (.value (.pointer (some p))) w := by
  unfold execOp
  simp [ho, hx]

theorem argsN : ([] : List Operand).map (evalF f) = [] := rfl
theorem argsC {x : Operand} {l : List Operand} {v : Value} {vs : List Value} (h : evalF f x = v) (hr : l.map (evalF f) = vs) : (x :: l).map (evalF f) = v :: vs := by rw [List.map_cons, h, hr]
/-- a call of a function of the program -/
theorem op_call {g : FuncId} {xs : List Operand} {ts : Array TypeId} {args : List Value} {fn : Func} (ho : o.op = .call { callee := .value (.func g), args := xs.toArray, argTypes := ts }) (ha : xs.map (evalF f) = args) (hf : P.funcs[g]? = some fn) (hb : fn.body.isSome = true) (hn : (fn.name == "runtime.NumGoroutine") = false) : (execOp (evalF f) o).run P w = .ok (.enter g args.toArray) w := by
  subst ha
  obtain ⟨c, hc⟩ := Option.isSome_iff_exists.1 hb
  have hn' : ¬ fn.name = "runtime.NumGoroutine" := by simpa using hn
  unfold execOp
  simp [ho, resolve, evalF, Deferred.ofValue, invoke, callFunc, hf, hc, hn']
/-- a call of a function value -/
theorem op_callv {x : Operand} {g : FuncId} {caps : List Value} {xs : List Operand} {ts : Array TypeId} {args : List Value} {fn : Func} (ho : o.op = .call { callee := .value x, args := xs.toArray, argTypes := ts }) (hx : evalF f x = .func (.func g) #[] caps.toArray) (ha : xs.map (evalF f) = args) (hf : P.funcs[g]? = some fn) (hb : fn.body.isSome = true) (hn : (fn.name == "runtime.NumGoroutine") = false) : (execOp (evalF f) o).run P w = .ok (.enter g (args ++ caps).toArray) w := by
  subst ha
  obtain ⟨c, hc⟩ := Option.isSome_iff_exists.1 hb
  have hn' : ¬ fn.name = "runtime.NumGoroutine" := by simpa using hn
  unfold execOp
  simp [ho, resolve, hx, Deferred.ofValue, invoke, callFunc, hf, hc, hn']

/-- a new box -/
theorem op_box {t : TypeId} {x : Operand} {cs : List Value} {v : Value} (ho : o.op = .box t x) (hx : evalF f x = v) (hv : v.cells = cs.toArray) : OpS P o f w fun u w' => ∃ b, u = .pointer (some ⟨b, 0, none⟩) ∧ w.heap.size ≤ b ∧ Box w' b t cs ∧ Ext w w' := by
  have h : (execOp (evalF f) o).run P w = .ok (.value (.pointer (some ⟨w.heap.size, 0, none⟩))) (w.alloc (.cells v.cells t)) := by
    unfold execOp
    simp [ho, hx, Instr.box, newVar, newRow]
  refine OpS.val h ⟨_, rfl, Nat.le_refl _, ?_, Ext.alloc _ _⟩
  rw [hv]
  exact heap_alloc_new w _
theorem op_alloc {t : TypeId} {z : Value} {cs : List Value} (ho : o.op = .alloc t) (hz : (P.info? t).bind (·.zero) = some z) (hv : z.cells = cs.toArray) : OpS P o f w fun u w' => ∃ b, u = .pointer (some ⟨b, 0, none⟩) ∧ w.heap.size ≤ b ∧ Box w' b t cs ∧ Ext w w' := by
  have h : (execOp (evalF f) o).run P w = .ok (.value (.pointer (some ⟨w.heap.size, 0, none⟩))) (w.alloc (.cells z.cells t)) := by
    unfold execOp
    cases hi : P.info? t with
    | none => rw [hi] at hz; cases hz
    | some i =>
      rw [hi] at hz
      simp only [Option.bind_some] at hz
      simp [ho, Instr.alloc, zeroValue, typeInfo, hi, hz, newVar, newRow]
  refine OpS.val h ⟨_, rfl, Nat.le_refl _, ?_, Ext.alloc _ _⟩
  rw [hv]
  exact heap_alloc_new w _
end

/-! ### stores -/
theorem run_storeCells_box {P : Program} (b : Nat) (t : TypeId) : ∀ (vs : List Value) (i : Nat) (cs : List Value) (w : World), Box w b t cs → i + vs.length ≤ cs.length → (∀ u ∈ vs, u.oneCell' = true) → ∀ o : Nat, o ≤ i →
    ∃ w', (storeCells ⟨b, o, none⟩ vs (i - o)).run P w = .ok () w' ∧ Box w' b t (cs.take i ++ vs ++ cs.drop (i + vs.length)) ∧ w.grownBy w' (some b) ∧ w'.heap.size = w.heap.size
  | [], i, cs, w, hb, _, _, o, _ => by
    refine ⟨w, by simp [storeCells], ?_, ⟨rfl, rfl, rfl, Nat.le_refl _, fun _ _ _ => rfl⟩, rfl⟩
    simpa using hb
  | v :: vs, i, cs, w, hb, hle, h1, o, ho => by
    simp only [List.length_cons] at hle
    have hadd : (⟨b, o, none⟩ : Addr).add (i - o) = ⟨b, i, none⟩ := by
      have e : o + (i - o) = i := by omega
      unfold Addr.add
      split
      · rename_i h0; have : o = i := by omega
        rw [this]
      · simp only [e]
    have hcell : w.cell? ⟨b, i, none⟩ = some (cs[i]'(by omega)) := by
      rw [cell_of_row w b i cs.toArray t (0, 0) hb]
      simp
    have hfr : w.frozen? ⟨b, i, none⟩ = false := frozen_of_row w b i cs.toArray t hb
    have hb1 : Box (w.setCell ⟨b, i, none⟩ v) b t (cs.set i v) := by
      have := heap_setCell_same w b i cs.toArray t v hb
      unfold Box
      rw [this]
      simp [List.setIfInBounds_toArray]
    have hst : (store ⟨b, i, none⟩ v .plain).run P w = .ok () (w.setCell ⟨b, i, none⟩ v) := by
      rw [run_store P w _ v .plain (h1 v List.mem_cons_self), hcell, hfr]
      rfl
    obtain ⟨w', hr, hbx, hg, hsz⟩ := run_storeCells_box (P := P) b t vs (i + 1) (cs.set i v) (w.setCell ⟨b, i, none⟩ v) hb1 (by rw [List.length_set]; omega) (fun u hu => h1 u (List.mem_cons_of_mem _ hu)) o (by omega)
    refine ⟨w', ?_, ?_, ?_, ?_⟩
    · have e : i - o + 1 = i + 1 - o := by omega
      simp only [storeCells, Sem.run_bind, hadd, hst, Result.andThen_ok, e]
      exact hr
    · have hlt : i < cs.length := by omega
      have e1 : (cs.set i v).take (i + 1) = cs.take i ++ [v] := by
        rw [List.take_set]
        rw [List.take_succ_eq_append_getElem hlt]
        rw [List.set_append_right _ _ (by simp; omega)]
        simp [Nat.min_eq_left (Nat.le_of_lt hlt)]
      have e2 : (cs.set i v).drop (i + 1 + vs.length) = cs.drop (i + (vs.length + 1)) := by
        rw [List.drop_set_of_lt (by omega)]
        congr 1
        omega
      rw [e1, e2] at hbx
      simpa using hbx
    · have h0 : w.grownBy (w.setCell ⟨b, i, none⟩ v) (some b) := ⟨rfl, rfl, rfl, by simp, fun k _ hk => Below.heap_setCell w _ v k (fun e => hk (by rw [e]))⟩
      exact ⟨hg.os.trans h0.os, hg.tape.trans h0.tape, hg.output.trans h0.output, Nat.le_trans h0.size hg.size, fun k hk hne => (hg.block k (by simpa using hk) hne).trans (h0.block k hk hne)⟩
    · rw [hsz]; simp

section
variable {P : Program} {o : Oper} {f : Fr} {w : World}
/-- a store into a box: its cells from off on are the value's -/
theorem op_store {t tb : TypeId} {x y : Operand} {b off : Nat} {cs vs : List Value} {v : Value} (ho : o.op = .store t x y) (hx : evalF f x = .pointer (some ⟨b, off, none⟩)) (hy : evalF f y = v) (hv : v.cells = vs.toArray) (hs : (P.info? t).map (·.size) = some vs.length) (hb : Box w b tb cs) (hle : off + vs.length ≤ cs.length) (h1 : ∀ u ∈ vs, u.oneCell' = true) :
    OpS P o f w fun _ w' => Box w' b tb (cs.take off ++ vs ++ cs.drop (off + vs.length)) ∧ w.grownBy w' (some b) ∧ w'.heap.size = w.heap.size := by
  obtain ⟨w', hr, hbx, hg, hsz⟩ := run_storeCells_box (P := P) b tb vs off cs w hb hle h1 off (Nat.le_refl _)
  refine OpS.skip (w' := w') ?_ ⟨hbx, hg, hsz⟩
  have hsz : (sizeOf t).run P w = .ok vs.length w := by
    cases hi : P.info? t with
    | none => rw [hi] at hs; cases hs
    | some i =>
      rw [hi] at hs
      simp only [Option.map_some, Option.some.injEq] at hs
      simp [sizeOf, typeInfo, hi, hs]
  rw [Nat.sub_self] at hr
  unfold execOp
  simp [ho, hx, hy, Instr.storeAt, Instr.sureAddr, storeVar, hsz, hv, hr]

/-- append of one datum, which lies at the address -/
theorem op_append {α : Type} [Enc α] {t e : TypeId} {x y : Operand} {base : Nat} {v : Value} {l : List α} {a : α} {bytes : Nat} {ad : Addr} (ho : o.op = .call { callee := .builtin .append, args := #[x, y], argTypes := #[t, t] }) (hx : evalF f x = v) (hy : evalF f y = .slice (some ad) 1 1)
    (T : TySl P t e α) (hzz : ((P.info? e).bind (·.zero)).map (·.cells.size) = some (Enc.size α)) (hby : (P.info? e).map (·.bytes) = some bytes) (ho' : Own w base e v l) (hc : Cells w ad (Enc.cells a)) (hn : (l.length + 1) * bytes ≤ 140737488355328) (hb0 : 0 < bytes) (hbase : base ≤ w.heap.size) :
    OpS P o f w fun v' w' => Own w' base e v' (l ++ [a]) ∧ w.grownBy w' v.ownBlock := by
  obtain ⟨z, hz, hzs⟩ := Option.map_eq_some_iff.1 hzz
  have hs := T.elem.size
  cases hi : P.info? e with
  | none => rw [hi] at hs; cases hs
  | some i =>
    rw [hi] at hs hz hby
    simp only [Option.map_some, Option.some.injEq, Option.bind_some] at hs hz hby
    have hle : l.length + 1 ≤ 140737488355328 := Nat.le_trans (Nat.le_mul_of_pos_right _ hb0) hn
    obtain ⟨v', w', hr, h1, h2, _, _⟩ := run_append_own_at (P := P) w base t o.type e i z (Enc.size α) bytes T.under hi hz hs hby hzs Enc.pos v l.length (l.flatMap Enc.cells) ho' ad 1 1 (Enc.cells a) (by rw [Enc.len, Nat.one_mul]) hc (Enc.one a) (by unfold maxLen; omega) hn hbase
    refine OpS.val (v := v') (w' := w') ?_ ⟨?_, h2⟩
    · unfold execOp
      simp only [ho, resolve, invoke, builtin, Sem.run_bind, Sem.run_pure, Result.andThen_ok, List.map_toArray, List.map_cons, List.map_nil, hx, hy, hr]
    · unfold Own
      rw [List.length_append, List.flatMap_append]
      simpa using h1
end

/-! ### parts of data -/
theorem sub_nm {w : World} {p : Addr} {cs : List Value} (n : Nat) {a : Nm} (h : Cells w p cs) (hd : (cs.drop n).take 8 = Nm.cs a) : Cells w (p.add n) (Enc.cells a) :=
  h.sub n fun j u hu => by
    have hu' : (Nm.cs a)[j]? = some u := hu
    rw [← hd, List.getElem?_take] at hu'
    split at hu'
    · rwa [List.getElem?_drop] at hu'
    · cases hu'

/-- a new variable with its first value: two operations -/
theorem L.newvar {P : Program} {N : Nat} {ops : Array Oper} {Q : Exit → Fr → World → Prop} {f : Fr} {w : World} {o1 o2 : Oper} {rest : List Oper} {t : TypeId} {d : Nat} {y : Operand} {v : Value} {cs : List Value} (h1 : o1.guard = none) (h2 : o2.guard = none) (ho1 : o1.op = .alloc t) (hd : o1.dst = some d) (ho2 : o2.op = .store t (.tmp d) y) (hd2 : o2.dst = none)
    (hy : ∀ u, evalF (upd f d u) y = v) (hv : v.cells = cs.toArray) (hs : (P.info? t).map (·.size) = some cs.length) (hzz : ((P.info? t).bind (·.zero)).map (·.cells.size) = some cs.length) (one : ∀ u ∈ cs, u.oneCell' = true)
    (k : ∀ (b : Nat) (w' : World), w.heap.size ≤ b → Box w' b t cs → Ext w w' → L P N ops Q rest (upd f d (.pointer (some ⟨b, 0, none⟩))) w') : L P N ops Q (o1 :: o2 :: rest) f w := by
  obtain ⟨z, hz, hzs⟩ := Option.map_eq_some_iff.1 hzz
  refine L.step h1 (op_alloc (cs := z.cells.toList) ho1 hz (by simp)) ?_
  rintro _ w1 ⟨b, rfl, hb, hB, hx⟩
  rw [hd]
  show L P N ops Q (o2 :: rest) (upd f d _) w1
  refine L.step h2 (op_store (P := P) (vs := cs) ho2 (upd_same f d _) (hy _) hv hs hB (by simp [hzs]) one) ?_
  rintro _ w2 ⟨hB2, hg, hsz⟩
  rw [hd2]
  have hlen : z.cells.toList.length = cs.length := by simp [hzs]
  have e : z.cells.toList.take 0 ++ cs ++ z.cells.toList.drop (0 + cs.length) = cs := by
    rw [Nat.zero_add, ← hlen]; simp
  rw [e] at hB2
  exact k b w2 hb hB2 (hx.grown hg fun k hk => by cases hk; exact hb)

/-! ### a slice that a call leaves -/
/-- the value reads as the list; its blocks lie from lo on -/
def SlV {α : Type} [Enc α] (w : World) (lo : Nat) (u : Value) (l : List α) : Prop := ∃ A c, u = .slice A l.length c ∧ l.length ≤ c ∧ Rd w lo w.heap.size A l
theorem SlV.ext {α : Type} [Enc α] {w w' : World} {lo : Nat} {u : Value} {l : List α} (h : SlV w lo u l) (hx : Ext w w') : SlV w' lo u l := by
  obtain ⟨A, c, e, hc, hr⟩ := h
  exact ⟨A, c, e, hc, (hr.ext hx).mono (Nat.le_refl _) hx.size⟩
theorem Own.slv {α : Type} [Enc α] {w : World} {base : Nat} {e : TypeId} {v : Value} {l : List α} (h : Own w base e v l) : SlV w base v l := by
  obtain ⟨A, c, e, hr, hc⟩ := h.form
  exact ⟨A, c, e, hc, hr⟩
def Sp.sl {α : Type} [Enc α] (lo : Nat) (l : List α) : Sp := ⟨fun u w => SlV w lo u l, fun _ _ _ h hx => h.ext hx⟩
/-- a slice and a bool -/
def Sp.slb {α : Type} [Enc α] (lo : Nat) (l : List α) (b : Bool) : Sp := ⟨fun u w => ∃ s, u = .tuple #[s, .bool b] ∧ SlV w lo s l, fun _ _ _ ⟨s, e, h⟩ hx => ⟨s, e, h.ext hx⟩⟩
end Go.Fk
