/-
  Maps with data as keys and ints as elements, in the logic of frames: made, read, written, emptied, counted, run over in whatever order. No program in sight.
-/
import Derived.Test.YtdknjfmjddlphaaOps2
import Derived.Maps.RangeRun
import Derived.MapKept
import Derived.ChangeMaps4
set_option linter.unusedSectionVars false
set_option linter.unusedSimpArgs false
set_option linter.unusedVariables false
namespace Go.Fk
open Go Go.RowKit Go.ChangeMaps

/-! ### keys -/
/-- how keys of type k are told apart -/
structure KeyTy (P : Program) (k : TypeId) (K : Type) [Enc K] [DecidableEq K] : Prop where
  check : ∀ (w : World) (em : Bool) (x : K), (Instr.checkKey em 10000 k (Enc.val x)).run P w = .ok () w
  eq : EqEnc P k K
  und : ∃ d, P.underlying k = some d ∧ ∀ (x y : K), Instr.sameNow d (Enc.val x) (Enc.val y) = none
  same : ∀ x : K, Instr.sameBits 10000 (Enc.val x) (Enc.val x) = true

theorem val_inj {K : Type} [Enc K] {x y : K} (h : (Enc.val x) = Enc.val y) : x = y := by
  have h1 := Enc.valCells x
  have h2 := Enc.valCells y
  rw [h, h2] at h1
  exact Enc.inj x y (by simpa using h1.symm)

/-! ### what a map holds -/
section
variable {K : Type} [DecidableEq K]
def mget (l : List (K × Int)) (x : K) : Int := match l.find? (fun p => decide (p.1 = x)) with
  | some p => p.2
  | none => 0
def mput (l : List (K × Int)) (x : K) (v : Int) : List (K × Int) := if x ∈ l.map Prod.fst then l.map (fun p => if p.1 = x then (x, v) else p) else l ++ [(x, v)]
def mdel (l : List (K × Int)) (x : K) : List (K × Int) := l.filter fun p => !decide (p.1 = x)
theorem mput_mem {l : List (K × Int)} {x : K} {v : Int} {p : K × Int} : p ∈ mput l x v ↔ (p = (x, v) ∨ (p.1 ≠ x ∧ p ∈ l)) := by
  unfold mput
  by_cases h : x ∈ l.map Prod.fst
  · rw [if_pos h, List.mem_map]
    constructor
    · rintro ⟨q, hq, rfl⟩
      by_cases e : q.1 = x
      · rw [if_pos e]; exact Or.inl rfl
      · rw [if_neg e]; exact Or.inr ⟨e, hq⟩
    · rintro (rfl | ⟨hne, hp⟩)
      · obtain ⟨q, hq, e⟩ := List.mem_map.1 h
        exact ⟨q, hq, by rw [if_pos e]⟩
      · exact ⟨p, hp, by rw [if_neg hne]⟩
  · rw [if_neg h, List.mem_append, List.mem_singleton]
    constructor
    · rintro (hp | rfl)
      · exact Or.inr ⟨fun e => h (e ▸ List.mem_map.2 ⟨p, hp, rfl⟩), hp⟩
      · exact Or.inl rfl
    · rintro (rfl | ⟨_, hp⟩)
      · exact Or.inr rfl
      · exact Or.inl hp
theorem mput_keys {l : List (K × Int)} {x : K} {v : Int} : (mput l x v).map Prod.fst = if x ∈ l.map Prod.fst then l.map Prod.fst else l.map Prod.fst ++ [x] := by
  unfold mput
  by_cases h : x ∈ l.map Prod.fst
  · rw [if_pos h, if_pos h, List.map_map]
    refine List.map_congr_left fun p _ => ?_
    simp only [Function.comp]
    by_cases e : p.1 = x
    · rw [if_pos e, e]
    · rw [if_neg e]
  · rw [if_neg h, if_neg h]; simp
theorem mput_nodup {l : List (K × Int)} {x : K} {v : Int} (h : (l.map Prod.fst).Nodup) : ((mput l x v).map Prod.fst).Nodup := by
  rw [mput_keys]
  by_cases hx : x ∈ l.map Prod.fst
  · rw [if_pos hx]; exact h
  · rw [if_neg hx]
    rw [List.nodup_append]
    exact ⟨h, by simp, fun a ha b hb e => by rw [List.mem_singleton] at hb; subst hb; subst e; exact hx ha⟩
theorem mput_len {l : List (K × Int)} {x : K} {v : Int} : (mput l x v).length ≤ l.length + 1 := by
  unfold mput
  split <;> simp
theorem mget_mem {l : List (K × Int)} (h : (l.map Prod.fst).Nodup) {p : K × Int} (hp : p ∈ l) : mget l p.1 = p.2 := by
  unfold mget
  cases hf : l.find? (fun q => decide (q.1 = p.1)) with
  | none =>
    have := List.find?_eq_none.1 hf p hp
    simp at this
  | some q =>
    have hq := List.mem_of_find?_eq_some hf
    have he := List.find?_some hf
    simp only [decide_eq_true_eq] at he
    have : q = p := by
      have h' := h
      rw [List.nodup_iff_pairwise_ne, List.pairwise_map] at h'
      by_cases hqp : q = p
      · exact hqp
      · exfalso
        rcases List.pairwise_iff_getElem.1 h' with _
        obtain ⟨i, hi, ei⟩ := List.getElem_of_mem hq
        obtain ⟨j, hj, ej⟩ := List.getElem_of_mem hp
        have hij : i = j := by
          have := (List.getElem_inj (xs := l.map Prod.fst) (i := i) (j := j) (h₀ := by simpa using hi) (h₁ := by simpa using hj) h).1 (by simp [ei, ej, he])
          exact this
        subst hij
        exact hqp (ei.symm.trans ej)
    rw [this]
theorem mput_mput (l : List (K × Int)) (x : K) (v v' : Int) : mput (mput l x v) x v' = mput l x v' := by
  have hk : x ∈ (mput l x v).map Prod.fst := List.mem_map.2 ⟨(x, v), mput_mem.2 (Or.inl rfl), rfl⟩
  have e1 : mput (mput l x v) x v' = (mput l x v).map (fun p => if p.1 = x then (x, v') else p) := by
    conv => lhs; unfold mput
    exact if_pos hk
  rw [e1]
  unfold mput
  by_cases h : x ∈ l.map Prod.fst
  · rw [if_pos h, if_pos h, List.map_map]
    refine List.map_congr_left fun p _ => ?_
    simp only [Function.comp]
    by_cases e : p.1 = x
    · simp [e]
    · simp [e]
  · rw [if_neg h, if_neg h, List.map_append]
    congr 1
    · conv => rhs; rw [← List.map_id l]
      refine List.map_congr_left fun p hp => ?_
      have : p.1 ≠ x := fun e => h (List.mem_map.2 ⟨p, hp, e⟩)
      rw [if_neg this]; rfl
    · simp

theorem nodup_of_keys {l : List (K × Int)} (h : (l.map Prod.fst).Nodup) : l.Nodup := by
  rw [List.nodup_iff_pairwise_ne] at h ⊢
  rw [List.pairwise_map] at h
  exact h.imp fun h e => h (by rw [e])
theorem mget_none {l : List (K × Int)} {x : K} (h : ∀ p ∈ l, p.1 ≠ x) : mget l x = 0 := by
  unfold mget
  rw [List.find?_eq_none.2 fun p hp => by simpa using h p hp]
end

/-- block b is a map that holds these entries; es, clock: how it stands in the model -/
structure MpAt {K : Type} [Enc K] [DecidableEq K] (w : World) (b : Nat) (es : Array MapEntry) (clock : Nat) (l : List (K × Int)) : Prop where
  heap : w.heap[b]? = some (.map es clock)
  ents : es.toList.map (fun e => (e.key, e.val)) = l.map (fun p => (Enc.val p.1, i64 p.2))
  born : ∀ e ∈ es.toList, e.born < clock
  apart : (es.toList.map (·.born)).Nodup
  keys : (l.map Prod.fst).Nodup
def Mp {K : Type} [Enc K] [DecidableEq K] (w : World) (b : Nat) (l : List (K × Int)) : Prop := ∃ es clock, MpAt w b es clock l

section
variable {K : Type} [Enc K] [DecidableEq K] {P : Program} {w w' : World} {b : Nat} {es : Array MapEntry} {clock : Nat} {l : List (K × Int)}
theorem MpAt.far (h : MpAt w b es clock l) {g : Option Nat} (hg : w.grownBy w' g) (hne : some b ≠ g) : MpAt w' b es clock l :=
  ⟨(hg.block b (Array.getElem?_eq_some_iff.1 h.heap).1 hne).trans h.heap, h.ents, h.born, h.apart, h.keys⟩
theorem Mp.far (h : Mp w b l) {g : Option Nat} (hg : w.grownBy w' g) (hne : some b ≠ g) : Mp w' b l := by
  obtain ⟨es, c, h⟩ := h; exact ⟨es, c, h.far hg hne⟩
theorem Mp.ext (h : Mp w b l) (hx : Ext w w') : Mp w' b l := h.far (ext_grown hx) (by simp)
theorem Mp.lt (h : Mp w b l) : b < w.heap.size := by obtain ⟨es, c, h⟩ := h; exact (Array.getElem?_eq_some_iff.1 h.heap).1
theorem Mp.keys (h : Mp w b l) : (l.map Prod.fst).Nodup := by obtain ⟨es, c, h⟩ := h; exact h.keys
theorem MpAt.len (h : MpAt w b es clock l) : es.toList.length = l.length := by
  have := congrArg List.length h.ents
  simpa using this
theorem MpAt.get (h : MpAt w b es clock l) {j : Nat} {p : K × Int} (hp : l[j]? = some p) : ∃ e, es.toList[j]? = some e ∧ e.key = Enc.val p.1 ∧ e.val = i64 p.2 := by
  have := congrArg (·[j]?) h.ents
  simp only [List.getElem?_map, hp, Option.map_some] at this
  cases he : es.toList[j]? with
  | none => rw [he] at this; cases this
  | some e =>
    rw [he] at this
    simp only [Option.map_some, Option.some.injEq, Prod.mk.injEq] at this
    exact ⟨e, rfl, this.1, this.2⟩
theorem MpAt.get' (h : MpAt w b es clock l) {j : Nat} {e : MapEntry} (he : es.toList[j]? = some e) : ∃ p, l[j]? = some p ∧ e.key = Enc.val p.1 ∧ e.val = i64 p.2 := by
  have hj : j < l.length := by rw [← h.len]; exact (List.getElem?_eq_some_iff.1 he).1
  obtain ⟨e', he', h1, h2⟩ := h.get (List.getElem?_eq_getElem hj)
  rw [he] at he'
  cases he'
  exact ⟨_, List.getElem?_eq_getElem hj, h1, h2⟩

/-! ### a key is looked for -/
theorem run_findAsking {k : TypeId} (T : KeyTy P k K) (w : World) (x : K) : ∀ (es : List MapEntry) (l : List (K × Int)) (i : Nat), es.map (fun e => (e.key, e.val)) = l.map (fun p => (Enc.val p.1, i64 p.2)) →
    ((Instr.findAsking k (Enc.val x) es i).run P w = .ok none w ∧ ∀ p ∈ l, p.1 ≠ x) ∨ ∃ j p, (Instr.findAsking k (Enc.val x) es i).run P w = .ok (some (i + j, i64 p.2)) w ∧ l[j]? = some p ∧ p.1 = x
  | [], [], i, _ => Or.inl ⟨rfl, by simp⟩
  | [], _ :: _, _, h => by simp at h
  | _ :: _, [], _, h => by simp at h
  | e :: es, p :: l, i, h => by
    simp only [List.map_cons, List.cons.injEq, Prod.mk.injEq] at h
    obtain ⟨⟨h1, h2⟩, h3⟩ := h
    have he := T.eq w x p.1
    by_cases hx : x = p.1
    · refine Or.inr ⟨0, p, ?_, rfl, hx.symm⟩
      unfold Instr.findAsking
      have hd : decide (x = p.1) = true := decide_eq_true hx
      simp only [Sem.run_bind, h1, he, Result.andThen_ok, hd, if_true, Sem.run_pure, h2, Nat.add_zero]
    · have hd : decide (x = p.1) = false := decide_eq_false hx
      rcases run_findAsking T w x es l (i + 1) h3 with ⟨r1, r2⟩ | ⟨j, q, r1, r2, r3⟩
      · refine Or.inl ⟨?_, fun q hq => ?_⟩
        · unfold Instr.findAsking
          simp only [Sem.run_bind, h1, he, Result.andThen_ok, hd, Bool.false_eq_true, if_false]
          exact r1
        · rcases List.mem_cons.1 hq with rfl | hq
          · exact fun e => hx e.symm
          · exact r2 q hq
      · refine Or.inr ⟨j + 1, q, ?_, by simpa using r2, r3⟩
        unfold Instr.findAsking
        simp only [Sem.run_bind, h1, he, Result.andThen_ok, hd, Bool.false_eq_true, if_false]
        rw [r1]
        congr 3
        omega
theorem MpAt.find {k : TypeId} (h : MpAt w b es clock l) (T : KeyTy P k K) (x : K) :
    ((Instr.findKey k (Enc.val x) es.toList).run P w = .ok none w ∧ ∀ p ∈ l, p.1 ≠ x) ∨ ∃ j p, (Instr.findKey k (Enc.val x) es.toList).run P w = .ok (some (j, i64 p.2)) w ∧ l[j]? = some p ∧ p.1 = x := by
  obtain ⟨d, hd, hs⟩ := T.und
  have hA := run_findAsking T w x es.toList l 0 h.ents
  cases hes : es.toList with
  | nil =>
    have hl : l = [] := by have := h.len; rw [hes] at this; exact List.eq_nil_of_length_eq_zero this.symm
    refine Or.inl ⟨?_, by simp [hl]⟩
    simp [Instr.findKey, run_underlying hd, Instr.findNow]
  | cons e r =>
    have hn : Instr.findNow d (Enc.val x) (e :: r) 0 = none := by
      obtain ⟨p, _, hk, _⟩ := h.get' (j := 0) (e := e) (by rw [hes]; rfl)
      unfold Instr.findNow
      rw [hk, hs]
    have hrun : (Instr.findKey k (Enc.val x) (e :: r)).run P w = (Instr.findAsking k (Enc.val x) (e :: r) 0).run P w := by
      simp [Instr.findKey, run_underlying hd, hn]
    rw [hrun, ← hes]
    simpa using hA
end

section
variable {K : Type} [Enc K] [DecidableEq K] {P : Program} {o : Oper} {f : Fr} {w : World} {b : Nat} {l : List (K × Int)} {t k e : TypeId}
/-- the type of a map from data to ints -/
structure TyMap (P : Program) (t k e : TypeId) (K : Type) [Enc K] [DecidableEq K] : Prop where
  und : P.underlying t = some (.map k e)
  key : KeyTy P k K
  zero : (P.info? e).bind (·.zero) = some (i64 0)
theorem TyMap.z (T : TyMap P t k e K) (w : World) : (zeroValue e).run P w = .ok (i64 0) w := by
  have hz := T.zero
  cases hi : P.info? e with
  | none => rw [hi] at hz; cases hz
  | some i =>
    rw [hi] at hz
    simp only [Option.bind_some] at hz
    simp [zeroValue, typeInfo, hi, hz]

theorem op_makeMap (K : Type) [Enc K] [DecidableEq K] (ho : o.op = .makeMap t none) : OpS P o f w fun u w' => ∃ b, u = .map (some b) ∧ w.heap.size ≤ b ∧ Mp w' b ([] : List (K × Int)) ∧ Ext w w' := by
  have h : (execOp (evalF f) o).run P w = .ok (.value (.map (some w.heap.size))) (w.alloc (.map #[] 0)) := by
    unfold execOp
    simp [ho, Instr.makeMap]
  exact OpS.val h ⟨_, rfl, Nat.le_refl _, ⟨#[], 0, heap_alloc_new w _, rfl, by simp, by simp, by simp⟩, Ext.alloc _ _⟩

theorem op_lookup {m x : Operand} {a : K} (T : TyMap P t k e K) (ho : o.op = .lookup t m x false) (hm : evalF f m = .map (some b)) (hx : evalF f x = Enc.val a) (h : Mp w b l) :
    (execOp (evalF f) o).run P w = .ok (.value (.int .i64 (mget l a))) w := by
  obtain ⟨es, clock, h⟩ := h
  unfold execOp
  rcases h.find T.key a with ⟨h1, h2⟩ | ⟨j, p, h1, h2, h3⟩
  · simp [ho, hm, hx, Instr.lookup, run_underlying T.und, MapKept.run_getObj_map h.heap, T.key.check, h1, T.z, mget_none h2]
  · have := mget_mem h.keys (List.mem_of_getElem? h2)
    rw [h3] at this
    simp [ho, hm, hx, Instr.lookup, run_underlying T.und, MapKept.run_getObj_map h.heap, T.key.check, h1, this]

theorem grown_setBlock {w : World} {b : Nat} {o o' : Obj} (h : w.heap[b]? = some o) : w.grownBy (setBlock w b o') (some b) ∧ (setBlock w b o').heap.size = w.heap.size :=
  ⟨⟨rfl, rfl, rfl, by simp [setBlock], fun i _ hi => (MapKept.heap_set h).2 i (fun e => hi (by rw [e]))⟩, by simp [setBlock]⟩

/-- an entry is written where it stands -/
theorem MpAt.setAt {es : Array MapEntry} {clock : Nat} (h : MpAt w b es clock l) {j : Nat} {p : K × Int} (hp : l[j]? = some p) (g : MapEntry → MapEntry) (v : Int) (hg : ∀ e, es.toList[j]? = some e → g e = { key := Enc.val p.1, val := i64 v, born := e.born }) :
    MpAt (setBlock w b (.map (es.modify j g) clock)) b (es.modify j g) clock (mput l p.1 v) := by
  obtain ⟨e, he, hk, hv⟩ := h.get hp
  have hl : (es.modify j g).toList = es.toList.set j (g e) := by rw [Array.toList_modify, modify_eq_set _ _ _ _ he]
  have hmem : p ∈ l := List.mem_of_getElem? hp
  have hjl : j < l.length := (List.getElem?_eq_some_iff.1 hp).1
  have hput : mput l p.1 v = l.set j (p.1, v) := by
    unfold mput
    rw [if_pos (List.mem_map.2 ⟨p, hmem, rfl⟩)]
    apply List.ext_getElem?
    intro i
    rw [List.getElem?_map, List.getElem?_set]
    by_cases hij : j = i
    · subst hij
      rw [if_pos rfl, if_pos hjl, hp]; simp
    · rw [if_neg hij]
      cases hi : l[i]? with
      | none => rfl
      | some q =>
        simp only [Option.map_some]
        have : q.1 ≠ p.1 := fun e => by
          have hil : i < l.length := (List.getElem?_eq_some_iff.1 hi).1
          have := (List.getElem_inj (xs := l.map Prod.fst) (i := i) (j := j) (h₀ := by simpa using hil) (h₁ := by simpa using hjl) h.keys).1 (by
            rw [List.getElem_map, List.getElem_map]
            rw [List.getElem?_eq_getElem hil] at hi
            rw [List.getElem?_eq_getElem hjl] at hp
            injection hi with hi; injection hp with hp
            rw [hi, hp, e])
          exact hij this.symm
        rw [if_neg this]
  have hge := hg e he
  refine ⟨(MapKept.heap_set h.heap).1, ?_, ?_, ?_, mput_nodup h.keys⟩
  · rw [hl, hput, List.map_set, List.map_set, h.ents, hge]
  · intro x hx
    rw [hl] at hx
    rcases List.mem_or_eq_of_mem_set hx with hx | rfl
    · exact h.born x hx
    · rw [hge]; exact h.born e (List.mem_of_getElem? he)
  · rw [hl, List.map_set, hge]
    have : (es.toList.map (·.born)).set j e.born = es.toList.map (·.born) := by
      apply List.ext_getElem?
      intro i
      rw [List.getElem?_set]
      by_cases hij : j = i
      · subst hij
        have hjl' : j < es.toList.length := (List.getElem?_eq_some_iff.1 he).1
        rw [if_pos rfl, if_pos (by simpa using hjl'), List.getElem?_map, he]; rfl
      · rw [if_neg hij]
    simp only
    rw [this]
    exact h.apart
/-- a new entry -/
theorem MpAt.push {es : Array MapEntry} {clock : Nat} (h : MpAt w b es clock l) {x : K} (hx : ∀ p ∈ l, p.1 ≠ x) (v : Int) :
    MpAt (setBlock w b (.map (es.push { key := Enc.val x, val := i64 v, born := clock }) (clock + 1))) b (es.push { key := Enc.val x, val := i64 v, born := clock }) (clock + 1) (mput l x v) := by
  have hn : x ∉ l.map Prod.fst := fun hm => by
    obtain ⟨p, hp, e⟩ := List.mem_map.1 hm
    exact hx p hp e
  refine ⟨(MapKept.heap_set h.heap).1, ?_, ?_, ?_, mput_nodup h.keys⟩
  · unfold mput
    rw [if_neg hn, Array.toList_push, List.map_append, List.map_append, h.ents]; rfl
  · intro e he
    rw [Array.toList_push, List.mem_append, List.mem_singleton] at he
    rcases he with he | rfl
    · have := h.born e he; omega
    · exact Nat.lt_succ_self _
  · rw [Array.toList_push, List.map_append, List.nodup_append]
    refine ⟨h.apart, by simp, fun a ha c hc e => ?_⟩
    obtain ⟨y, hy, rfl⟩ := List.mem_map.1 ha
    simp at hc
    have := h.born y hy
    omega

theorem op_mapUpdate {m x y : Operand} {a : K} {v : Int} (T : TyMap P t k e K) (ho : o.op = .mapUpdate t m x y) (hm : evalF f m = .map (some b)) (hx : evalF f x = Enc.val a) (hy : evalF f y = .int .i64 v) (h : Mp w b l) :
    OpS P o f w fun _ w' => Mp w' b (mput l a v) ∧ w.grownBy w' (some b) ∧ w'.heap.size = w.heap.size := by
  obtain ⟨es, clock, h⟩ := h
  rcases h.find T.key a with ⟨h1, h2⟩ | ⟨j, p, h1, h2, h3⟩
  · refine OpS.skip (w' := setBlock w b (.map (es.push { key := Enc.val a, val := i64 v, born := clock }) (clock + 1))) ?_ ⟨⟨_, _, h.push h2 v⟩, grown_setBlock h.heap⟩
    unfold execOp
    simp [ho, hm, hx, hy, Instr.mapUpdate, run_underlying T.und, MapKept.run_getObj_map h.heap, T.key.check, h1, MapKept.run_setObj_map _ h.heap, setBlock]
  · obtain ⟨e0, he0, hk0, hv0⟩ := h.get h2
    have hstay : (Instr.keyThatStays (((es[j]?).map (·.key)).getD (Enc.val a)) (Enc.val a)).run P w = .ok (Enc.val a) w := by
      have he1 : es[j]? = some e0 := by simpa using he0
      have hkk : ((es[j]?).map (·.key)).getD (Enc.val a) = Enc.val a := by rw [he1]; simp [hk0, h3]
      rw [hkk]
      simp [Instr.keyThatStays, T.key.same]
    subst h3
    refine OpS.skip (w' := setBlock w b (.map (es.modify j fun e => { e with key := Enc.val p.1, val := i64 v }) clock)) ?_ ⟨⟨_, _, h.setAt h2 _ v (fun _ _ => rfl)⟩, grown_setBlock h.heap⟩
    unfold execOp
    simp [ho, hm, hx, hy, Instr.mapUpdate, run_underlying T.und, MapKept.run_getObj_map h.heap, T.key.check, h1, hstay, MapKept.run_setObj_map _ h.heap, setBlock]

/-- the map has an entry at this key, whose stamp this is -/
def MpE (w : World) (b : Nat) (l : List (K × Int)) (a : K) (s : Nat) : Prop := ∃ es clock, MpAt w b es clock l ∧ ∃ e ∈ es.toList, e.key = Enc.val a ∧ e.born = s
theorem MpE.far {w' : World} {a : K} {s : Nat} (h : MpE w b l a s) {g : Option Nat} (hg : w.grownBy w' g) (hne : some b ≠ g) : MpE w' b l a s := by
  obtain ⟨es, c, h, r⟩ := h; exact ⟨es, c, h.far hg hne, r⟩
theorem MpE.ext {w' : World} {a : K} {s : Nat} (h : MpE w b l a s) (hx : Ext w w') : MpE w' b l a s := h.far (ext_grown hx) (by simp)
theorem MpE.mp {a : K} {s : Nat} (h : MpE w b l a s) : Mp w b l := by obtain ⟨es, c, h, _⟩ := h; exact ⟨es, c, h⟩

theorem op_mapEntry {m x : Operand} {a : K} (T : TyMap P t k e K) (ho : o.op = .mapEntry t m x) (hm : evalF f m = .map (some b)) (hx : evalF f x = Enc.val a) (h : Mp w b l) :
    OpS P o f w fun u w' => ∃ s : Nat, u = .tuple #[.int .i64 (mget l a), goInt s] ∧ MpE w' b (mput l a (mget l a)) a s ∧ w.grownBy w' (some b) ∧ w'.heap.size = w.heap.size := by
  obtain ⟨es, clock, h⟩ := h
  rcases h.find T.key a with ⟨h1, h2⟩ | ⟨j, p, h1, h2, h3⟩
  · refine OpS.val (w' := setBlock w b (.map (es.push { key := Enc.val a, val := i64 0, born := clock }) (clock + 1))) (v := .tuple #[.int .i64 (mget l a), goInt clock]) ?_ ⟨clock, rfl, ⟨_, _, by rw [mget_none h2]; exact h.push h2 0, _, by rw [Array.toList_push]; exact List.mem_append_right _ (List.mem_singleton.2 rfl), rfl, rfl⟩, grown_setBlock h.heap⟩
    unfold execOp
    simp [ho, hm, hx, Instr.mapEntry, run_underlying T.und, MapKept.run_getObj_map h.heap, T.key.check, h1, T.z, MapKept.run_setObj_map _ h.heap, setBlock, mget_none h2]
  · obtain ⟨e0, he0, hk0, hv0⟩ := h.get h2
    have he1 : es[j]? = some e0 := by simpa using he0
    have hstay : (Instr.keyThatStays e0.key (Enc.val a)).run P w = .ok (Enc.val a) w := by
      rw [hk0, h3]
      simp [Instr.keyThatStays, T.key.same]
    have hget := mget_mem h.keys (List.mem_of_getElem? h2)
    subst h3
    have hs := h.setAt h2 (fun e => { e with key := Enc.val p.1 }) p.2 (fun e he => by rw [he0] at he; cases he; simp [hv0])
    refine OpS.val (w' := setBlock w b (.map (es.modify j fun e => { e with key := Enc.val p.1 }) clock)) (v := .tuple #[.int .i64 (mget l p.1), goInt e0.born]) ?_ ⟨e0.born, rfl, ⟨_, _, by rw [hget]; exact hs, { e0 with key := Enc.val p.1 }, ?_, rfl, rfl⟩, grown_setBlock h.heap⟩
    · unfold execOp
      simp [ho, hm, hx, Instr.mapEntry, run_underlying T.und, MapKept.run_getObj_map h.heap, T.key.check, h1, hstay, MapKept.run_setObj_map _ h.heap, setBlock, hget, he1]
    · rw [Array.toList_modify, modify_eq_set _ _ _ _ he0]
      have hjl : j < es.toList.length := (List.getElem?_eq_some_iff.1 he0).1
      exact List.mem_iff_getElem.2 ⟨j, by simpa using hjl, by simp⟩

theorem arr_findIdx {α : Type} (es : Array α) (p : α → Bool) : es.findIdx? p = es.toList.findIdx? p := by cases es; simp
theorem findIdx_born : ∀ (es : List MapEntry) (e : MapEntry) (j : Nat), (es.map (·.born)).Nodup → es[j]? = some e → es.findIdx? (fun x => (x.born : Int) == (e.born : Int)) = some j
  | [], _, _, _, h => by simp at h
  | x :: r, e, 0, _, h => by
    simp at h; subst h
    rw [List.findIdx?_cons]
    simp
  | x :: r, e, j + 1, hn, h => by
    simp only [List.getElem?_cons_succ] at h
    rw [List.map_cons, List.nodup_cons] at hn
    have hne : ¬ x.born = e.born := fun he => hn.1 (he ▸ List.mem_map.2 ⟨e, List.mem_of_getElem? h, rfl⟩)
    have hb : ((x.born : Int) == (e.born : Int)) = false := by simp; omega
    rw [List.findIdx?_cons, hb, findIdx_born r e j hn.2 h]
    rfl
theorem op_entryStore {m x y : Operand} {a : K} {s : Nat} {v : Int} (ho : o.op = .entryStore t m x y) (hm : evalF f m = .map (some b)) (hx : evalF f x = goInt s) (hy : evalF f y = .int .i64 v) (h : MpE w b l a s) :
    OpS P o f w fun _ w' => Mp w' b (mput l a v) ∧ w.grownBy w' (some b) ∧ w'.heap.size = w.heap.size := by
  obtain ⟨es, clock, h, e0, he0, hk, rfl⟩ := h
  obtain ⟨j, hj⟩ := List.getElem?_of_mem he0
  obtain ⟨p, hp, hk1, hv1⟩ := h.get' hj
  have ha : a = p.1 := val_inj (hk.symm.trans hk1)
  subst ha
  refine OpS.skip (w' := setBlock w b (.map (es.modify j fun e => { e with val := i64 v }) clock)) ?_ ⟨⟨_, _, h.setAt hp _ v (fun e he => by rw [hj] at he; cases he; rw [hk1])⟩, grown_setBlock h.heap⟩
  have hf : es.findIdx? (fun e => (e.born : Int) == (e0.born : Int)) = some j := by
    rw [arr_findIdx]; exact findIdx_born _ _ _ h.apart hj
  unfold execOp
  simp [ho, hm, hx, hy, Instr.entryStore, MapKept.run_getObj_map h.heap, goInt, asInt, asIntOf, hf, MapKept.run_setObj_map _ h.heap, setBlock]

theorem op_delete {m x : Operand} {a : K} (T : TyMap P t k e K) (ho : o.op = .call { callee := .builtin .delete, args := #[m, x], argTypes := #[t, k] }) (hm : evalF f m = .map (some b)) (hx : evalF f x = Enc.val a) (h : Mp w b l) :
    OpS P o f w fun u w' => u = .tuple #[] ∧ Mp w' b (mdel l a) ∧ w.grownBy w' (some b) ∧ w'.heap.size = w.heap.size := by
  obtain ⟨es, clock, h⟩ := h
  rcases h.find T.key a with ⟨h1, h2⟩ | ⟨j, p, h1, h2, h3⟩
  · have hd : mdel l a = l := List.filter_eq_self.2 fun p hp => by simpa using h2 p hp
    refine OpS.val (w' := setBlock w b (.map es clock)) (v := .tuple #[]) ?_ ⟨rfl, ⟨es, clock, by rw [hd]; exact ⟨(MapKept.heap_set h.heap).1, h.ents, h.born, h.apart, h.keys⟩⟩, grown_setBlock h.heap⟩
    unfold execOp
    simp [ho, resolve, invoke, builtin, hm, hx, Builtin.delete_, run_underlying T.und, MapKept.run_getObj_map h.heap, T.key.check, h1, MapKept.run_setObj_map _ h.heap, setBlock]
  · have hjl : j < l.length := (List.getElem?_eq_some_iff.1 h2).1
    have hjs : j < es.size := by have := h.len; simp at this; omega
    have hsub : (es.eraseIdxIfInBounds j).toList = es.toList.eraseIdx j := by
      unfold Array.eraseIdxIfInBounds
      rw [dif_pos hjs]
      simp
    have hd : mdel l a = l.eraseIdx j := by
      unfold mdel
      have hpe : l[j] = p := by rw [List.getElem?_eq_getElem hjl] at h2; injection h2
      have key : ∀ i, i < l.length → i ≠ j → ∀ q, l[i]? = some q → q.1 ≠ a := fun i hi hne q hq e => by
        have := (List.getElem_inj (xs := l.map Prod.fst) (i := i) (j := j) (h₀ := by simpa using hi) (h₁ := by simpa using hjl) h.keys).1 (by
          rw [List.getElem_map, List.getElem_map]
          rw [List.getElem?_eq_getElem hi] at hq
          injection hq with hq
          rw [hq, hpe, e, h3])
        exact hne this
      rw [List.eraseIdx_eq_take_drop_succ]
      conv => lhs; rw [← List.take_append_drop j l, List.drop_eq_getElem_cons hjl]
      rw [List.filter_append, List.filter_cons, hpe]
      simp only [h3, decide_true, Bool.not_true, Bool.false_eq_true, if_false]
      congr 1
      · refine List.filter_eq_self.2 fun q hq => ?_
        obtain ⟨i, hi, e⟩ := List.getElem_of_mem hq
        rw [List.length_take] at hi
        rw [List.getElem_take] at e
        have := key i (by omega) (by omega) q (by rw [List.getElem?_eq_getElem (by omega), e])
        simpa using this
      · refine List.filter_eq_self.2 fun q hq => ?_
        obtain ⟨i, hi, e⟩ := List.getElem_of_mem hq
        rw [List.length_drop] at hi
        rw [List.getElem_drop] at e
        have := key (j + 1 + i) (by omega) (by omega) q (by rw [List.getElem?_eq_getElem (by omega), e])
        simpa using this
    refine OpS.val (w' := setBlock w b (.map (es.eraseIdxIfInBounds j) clock)) (v := .tuple #[]) ?_ ⟨rfl, ⟨es.eraseIdxIfInBounds j, clock, ?_⟩, grown_setBlock h.heap⟩
    · unfold execOp
      simp [ho, resolve, invoke, builtin, hm, hx, Builtin.delete_, run_underlying T.und, MapKept.run_getObj_map h.heap, T.key.check, h1, MapKept.run_setObj_map _ h.heap, setBlock]
    · refine ⟨(MapKept.heap_set h.heap).1, ?_, fun x hx => ?_, ?_, ?_⟩
      · rw [hsub, hd, map_eraseIdx, map_eraseIdx, h.ents]
      · rw [hsub] at hx
        exact h.born x ((List.eraseIdx_sublist _ _).subset hx)
      · rw [hsub]
        exact (List.Sublist.map _ (List.eraseIdx_sublist _ _)).nodup h.apart
      · unfold mdel
        exact (List.Sublist.map _ List.filter_sublist).nodup h.keys

theorem op_lenMap {x : Operand} (ho : o.op = .call { callee := .builtin .len, args := #[x], argTypes := #[t] }) (hu : P.underlying t = some (.map k e)) (hx : evalF f x = .map (some b)) (h : Mp w b l) :
    (execOp (evalF f) o).run P w = .ok (.value (.int .i64 (l.length : Int))) w := by
  obtain ⟨es, clock, h⟩ := h
  have hl : (es.size : Int) = l.length := by have := h.len; simp at this; omega
  unfold execOp
  simp [ho, resolve, invoke, builtin, hx, Builtin.len_, run_underlying hu, MapKept.run_getObj_map h.heap, goInt, hl]

/-! ### a map is run over -/
/-- block r runs over the map b, which holds l; what has come out: done -/
def Rg (w : World) (b r : Nat) (l done : List (K × Int)) : Prop :=
  ∃ es clock since c0 seen, MpAt w b es clock l ∧ w.heap[r]? = some (.mapIter (some b) since seen c0) ∧ (∀ x ∈ es.toList, x.born < since) ∧ since ≤ c0 ∧ c0 = clock ∧
    done.Nodup ∧ (∀ p ∈ done, p ∈ l) ∧ (∀ (j : Nat) (x : MapEntry) (p : K × Int), es.toList[j]? = some x → l[j]? = some p → (seen.contains x.born = true ↔ p ∈ done)) ∧
    (∀ p, done.getLast? = some p → ∃ (seen' : Array Nat) (x : MapEntry), seen = seen'.push x.born ∧ x ∈ es.toList ∧ x.key = Enc.val p.1 ∧ x.val = i64 p.2)
theorem Rg.mp {r : Nat} {done : List (K × Int)} (h : Rg w b r l done) : Mp w b l := by obtain ⟨es, c, _, _, _, h, _⟩ := h; exact ⟨es, c, h⟩
theorem Rg.ne {r : Nat} {done : List (K × Int)} (h : Rg w b r l done) : r ≠ b := by
  obtain ⟨es, c, _, _, _, h, hr, _⟩ := h
  intro e
  rw [e, h.heap] at hr
  cases hr
theorem Rg.lt {r : Nat} {done : List (K × Int)} (h : Rg w b r l done) : r < w.heap.size := by
  obtain ⟨es, c, _, _, _, _, hr, _⟩ := h
  exact (Array.getElem?_eq_some_iff.1 hr).1
theorem Rg.far {w' : World} {r : Nat} {done : List (K × Int)} (h : Rg w b r l done) {g : Option Nat} (hg : w.grownBy w' g) (hb : some b ≠ g) (hr : some r ≠ g) : Rg w' b r l done := by
  have hlt := h.lt
  obtain ⟨es, c, s, c0, seen, h1, h2, rest⟩ := h
  exact ⟨es, c, s, c0, seen, h1.far hg hb, (hg.block r hlt hr).trans h2, rest⟩
theorem Rg.ext {w' : World} {r : Nat} {done : List (K × Int)} (h : Rg w b r l done) (hx : Ext w w') : Rg w' b r l done := h.far (ext_grown hx) (by simp) (by simp)
theorem Rg.nodup {r : Nat} {done : List (K × Int)} (h : Rg w b r l done) : done.Nodup := by obtain ⟨_, _, _, _, _, _, _, _, _, _, h, _⟩ := h; exact h
theorem Rg.sub {r : Nat} {done : List (K × Int)} (h : Rg w b r l done) : ∀ p ∈ done, p ∈ l := by obtain ⟨_, _, _, _, _, _, _, _, _, _, _, h, _⟩ := h; exact h
theorem Rg.len {r : Nat} {done : List (K × Int)} (h : Rg w b r l done) : done.length ≤ l.length :=
  h.nodup.length_le_of_subset h.sub

theorem op_range {x : Operand} (ho : o.op = .range t x) (hu : P.underlying t = some (.map k e)) (hx : evalF f x = .map (some b)) (h : Mp w b l) :
    OpS P o f w fun u w' => ∃ r, u = .pointer (some ⟨r, 0, none⟩) ∧ w.heap.size ≤ r ∧ Rg w' b r l [] ∧ Ext w w' := by
  have hlt := h.lt
  obtain ⟨es, clock, h⟩ := h
  have hrun : (execOp (evalF f) o).run P w = .ok (.value (.pointer (some ⟨w.heap.size, 0, none⟩))) (w.alloc (.mapIter (some b) clock #[] clock)) := by
    unfold execOp
    simp [ho, hx, Instr.range, run_underlying hu, MapKept.run_getObj_map h.heap]
  refine OpS.val hrun ⟨_, rfl, Nat.le_refl _, ⟨es, clock, clock, clock, #[], h.far (g := none) (ext_grown (Ext.alloc _ _)) (by simp), heap_alloc_new w _, h.born, Nat.le_refl _, rfl, by simp, by simp, by simp, by simp⟩, Ext.alloc _ _⟩

theorem op_next {x : Operand} {r : Nat} {done : List (K × Int)} (ho : o.op = .next x false) (hx : evalF f x = .pointer (some ⟨r, 0, none⟩)) (h : Rg w b r l done) :
    OpS P o f w fun u w' => (u = .tuple #[.bool false] ∧ done.Perm l ∧ w' = w) ∨
      ∃ p, p ∈ l ∧ p ∉ done ∧ u = .tuple #[.bool true, Enc.val p.1, .int .i64 p.2] ∧ Rg w' b r l (done ++ [p]) ∧ w.grownBy w' (some r) ∧ w'.heap.size = w.heap.size := by
  have hne := h.ne
  obtain ⟨es, clock, since, c0, seen, hM, hr, hold, hsc, rfl, hnd, hsub, hseen, hlast⟩ := h
  rcases run_next_at (P := P) w o.type r b since c0 seen es c0 hr hM.heap hold hsc with ⟨h0, hrun⟩ | ⟨e, he, w1, hal, hrun⟩
  · refine OpS.val (v := .tuple #[.bool false]) (w' := w) ?_ (Or.inl ⟨rfl, ?_, rfl⟩)
    · unfold execOp
      simp [ho, hx, hrun]
    · have hall : ∀ p ∈ l, p ∈ done := by
        intro p hp
        obtain ⟨j, hj⟩ := List.getElem?_of_mem hp
        obtain ⟨x, hxe, _⟩ := hM.get hj
        refine (hseen j x p hxe hj).1 ?_
        have hmem : x ∈ es.toList := List.mem_of_getElem? hxe
        cases hc : seen.contains x.born with
        | true => rfl
        | false =>
          exfalso
          have : x ∈ (leftOf es seen).toList := by
            unfold leftOf
            rw [Array.toList_filter, List.mem_filter]
            exact ⟨hmem, by rw [hc]; rfl⟩
          have hz : (leftOf es seen).toList.length = 0 := by simpa using h0
          rw [List.eq_nil_of_length_eq_zero hz] at this
          cases this
      exact (List.perm_ext_iff_of_nodup hnd (nodup_of_keys hM.keys)).2 fun p => ⟨hsub p, hall p⟩
  · have hem : e ∈ es.toList ∧ seen.contains e.born = false := by
      unfold leftOf at he
      rw [Array.toList_filter, List.mem_filter] at he
      exact ⟨he.1, by simpa using he.2⟩
    obtain ⟨j, hj⟩ := List.getElem?_of_mem hem.1
    obtain ⟨p, hp, hk, hv⟩ := hM.get' hj
    have hpn : p ∉ done := fun hc => by
      have := (hseen j e p hj hp).2 hc
      rw [hem.2] at this
      cases this
    have hr1 : w1.heap[r]? = some (.mapIter (some b) since seen c0) := by rcases hal with rfl | rfl <;> exact hr
    have hb1 : w1.heap[b]? = some (.map es c0) := by rcases hal with rfl | rfl <;> exact hM.heap
    have hset := MapKept.heap_set (o' := .mapIter (some b) since (seen.push e.born) c0) hr1
    have hb' : (setBlock w1 r (.mapIter (some b) since (seen.push e.born) c0)).heap[b]? = some (.map es c0) := (hset.2 b (fun e1 => hne e1.symm)).trans hb1
    refine OpS.val (v := .tuple #[.bool true, e.key, e.val]) (w' := setBlock w1 r (.mapIter (some b) since (seen.push e.born) c0)) ?_ (Or.inr ⟨p, List.mem_of_getElem? hp, hpn, by rw [hk, hv], ?_, ?_, ?_⟩)
    · unfold execOp
      simp [ho, hx, hrun]
    · refine ⟨es, c0, since, c0, seen.push e.born, ⟨hb', hM.ents, hM.born, hM.apart, hM.keys⟩, hset.1, hold, hsc, rfl, ?_, ?_, ?_, ?_⟩
      · rw [List.nodup_append]
        exact ⟨hnd, by simp, fun a ha c hc e => by rw [List.mem_singleton] at hc; subst hc; subst e; exact hpn ha⟩
      · intro q hq
        rcases List.mem_append.1 hq with hq | hq
        · exact hsub q hq
        · rw [List.mem_singleton] at hq; subst hq; exact List.mem_of_getElem? hp
      · intro i x q hxi hqi
        rw [contains_push, Bool.or_eq_true, hseen i x q hxi hqi, List.mem_append, List.mem_singleton]
        refine or_congr Iff.rfl ?_
        rw [beq_iff_eq]
        constructor
        · intro hbx
          have hil : i < es.toList.length := (List.getElem?_eq_some_iff.1 hxi).1
          have hjl : j < es.toList.length := (List.getElem?_eq_some_iff.1 hj).1
          have : i = j := (List.getElem_inj (xs := es.toList.map (·.born)) (i := i) (j := j) (h₀ := by simpa using hil) (h₁ := by simpa using hjl) hM.apart).1 (by
            rw [List.getElem_map, List.getElem_map]
            rw [List.getElem?_eq_getElem hil] at hxi
            rw [List.getElem?_eq_getElem hjl] at hj
            injection hxi with hxi; injection hj with hj
            rw [hxi, hj, hbx])
          subst this
          rw [hp] at hqi
          injection hqi with hqi
          exact hqi.symm
        · intro hqp
          have hil : i < l.length := (List.getElem?_eq_some_iff.1 hqi).1
          have hjl : j < l.length := (List.getElem?_eq_some_iff.1 hp).1
          have : i = j := (List.getElem_inj (xs := l.map Prod.fst) (i := i) (j := j) (h₀ := by simpa using hil) (h₁ := by simpa using hjl) hM.keys).1 (by
            rw [List.getElem_map, List.getElem_map]
            rw [List.getElem?_eq_getElem hil] at hqi
            rw [List.getElem?_eq_getElem hjl] at hp
            injection hqi with hqi; injection hp with hp
            rw [hqi, hp, hqp])
          subst this
          rw [hj] at hxi
          injection hxi with hxi
          rw [hxi]
      · intro q hq
        rw [List.getLast?_append] at hq
        simp at hq
        subst hq
        exact ⟨seen, e, rfl, hem.1, hk, hv⟩
    · rcases hal with rfl | rfl <;> exact ⟨rfl, rfl, rfl, by simp [setBlock], fun i _ hi => hset.2 i (fun e1 => hi (by rw [e1]))⟩
    · rcases hal with rfl | rfl <;> simp [setBlock]

theorem op_entry {x : Operand} {r : Nat} {done : List (K × Int)} {p : K × Int} (ho : o.op = .entry x) (hx : evalF f x = .pointer (some ⟨r, 0, none⟩)) (h : Rg w b r l (done ++ [p])) :
    (execOp (evalF f) o).run P w = .ok (.value (.tuple #[Enc.val p.1, .int .i64 p.2])) w := by
  obtain ⟨es, clock, since, c0, seen, hM, hr, hold, hsc, rfl, hnd, hsub, hseen, hlast⟩ := h
  obtain ⟨seen', e, rfl, hem, hk, hv⟩ := hlast p (by simp)
  have := run_entry_at (P := P) w r b since seen' es c0 e hr hM.heap hem hM.apart
  unfold execOp
  simp [ho, hx, this, hk, hv]
end

end Go.Fk
