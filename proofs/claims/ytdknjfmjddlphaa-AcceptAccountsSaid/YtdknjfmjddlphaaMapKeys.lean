/-
  Names, outcomes, votes, choices and pairs of ints as keys of maps. No program in sight.
-/
import Derived.Test.YtdknjfmjddlphaaMaps
import Derived.WideKeyRuns
set_option linter.unusedSimpArgs false
set_option linter.unusedVariables false
namespace Go.Fk
open Go Go.RowKit

/-- two ints -/
structure Pr where
  fst : Int
  snd : Int
theorem Pr.ext_iff' (a b : Pr) : a = b ↔ (a.fst = b.fst ∧ a.snd = b.snd) := by cases a; cases b; simp
instance : DecidableEq Pr := fun a b => decidable_of_iff _ (Pr.ext_iff' a b).symm
instance : Inhabited Pr := ⟨⟨0, 0⟩⟩
def Pr.cs (v : Pr) : List Value := [i64 v.fst, i64 v.snd]
instance encPr : Enc Pr where
  cells := Pr.cs
  size := 2
  len _ := rfl
  pos := by decide
  one x u h := by simp [Pr.cs] at h; rcases h with rfl | rfl <;> rfl
  val x := .agg x.cs.toArray
  valCells _ := rfl
  inj x y h := by
    simp only [Pr.cs, i64, List.cons.injEq, Value.int.injEq, true_and, and_true] at h
    exact (Pr.ext_iff' x y).2 h

section
variable {P : Program} {w : World} {em : Bool} {n : Nat}
theorem checkKey_one {t : TypeId} {k : IntKind} (hd : P.underlying t = some (.int k)) (j : IntKind) (a : Int) : (Instr.checkKey em (n + 1) t (.int j a)).run P w = .ok () w := by
  simp [Instr.checkKey, run_underlying hd]
theorem checkKey_array {t e : TypeId} {len : Nat} {xs : Array Value} (hu : P.underlying t = some (.array len e)) (h : ∀ j, j < len → ∃ s a, (Go.sizeOf e).run P w = .ok s w ∧ (part e xs (j * s)).run P w = .ok a w ∧ (Instr.checkKey em n e a).run P w = .ok () w) : (Instr.checkKey em (n + 1) t (.agg xs)).run P w = .ok () w := by
  rw [Instr.checkKey]
  simp only [Sem.run_bind, run_underlying hu, Result.andThen_ok]
  simp only [Std.Legacy.Range.forIn_eq_forIn_range', Std.Legacy.Range.size, Nat.sub_zero, Nat.add_one_sub_one, Nat.div_one]
  have each : ∀ j ∈ List.range' 0 len, ∃ s a, (Go.sizeOf e).run P w = .ok s w ∧ (part e xs (j * s)).run P w = .ok a w ∧ (Instr.checkKey em n e a).run P w = .ok () w := fun j hj => h j (by rw [List.mem_range'_1] at hj; omega)
  generalize List.range' 0 len = is at each
  induction is with
  | nil => simp
  | cons j is ih =>
    obtain ⟨s, a, h1, h2, h3⟩ := each j (by simp)
    simp only [List.forIn_cons, Sem.run_bind, h1, Result.andThen_ok, h2, h3, Sem.run_pure]
    exact ih fun y hy => each y (by simp [hy])
theorem checkKey_struct {t : TypeId} {fs : List Field} {xs : Array Value} (hu : P.underlying t = some (.struct fs.toArray)) (h : ∀ f ∈ fs, f.name ≠ "_" ∧ ∃ a, (part f.type xs f.offset).run P w = .ok a w ∧ (Instr.checkKey em n f.type a).run P w = .ok () w) : (Instr.checkKey em (n + 1) t (.agg xs)).run P w = .ok () w := by
  rw [Instr.checkKey]
  simp only [Sem.run_bind, run_underlying hu, Result.andThen_ok]
  rw [← Array.forIn_toList]
  simp only [List.toList_toArray]
  induction fs with
  | nil => simp
  | cons f fs ih =>
    obtain ⟨hn, a, h1, h2⟩ := h f (by simp)
    simp only [List.forIn_cons, Sem.run_bind, hn, ne_eq, not_false_eq_true, if_true, Result.andThen_ok, h1, h2, Sem.run_pure]
    clear hu
    have h' := fun g hg => h g (List.mem_cons_of_mem _ hg)
    clear ih h
    induction fs with
    | nil => simp
    | cons g fs ih =>
      obtain ⟨hn, a, h1, h2⟩ := h' g (by simp)
      simp only [List.forIn_cons, Sem.run_bind, hn, ne_eq, not_false_eq_true, if_true, Result.andThen_ok, h1, h2, Sem.run_pure]
      exact ih fun g hg => h' g (List.mem_cons_of_mem _ hg)
theorem sizeOf_of {e : TypeId} {s : Nat} (hs : (P.info? e).map (·.size) = some s) : (Go.sizeOf e).run P w = .ok s w := by
  cases hi : P.info? e with
  | none => rw [hi] at hs; cases hs
  | some i =>
    rw [hi] at hs
    simp only [Option.map_some, Option.some.injEq] at hs
    simp [Go.sizeOf, typeInfo, hi, hs]
theorem sameBits_ints {cs : List Value} (h : ∀ u ∈ cs, ∃ k a, u = .int k a) : Instr.sameBits (n + 1) (.agg cs.toArray) (.agg cs.toArray) = true := by
  unfold Instr.sameBits
  simp only [beq_self_eq_true, Bool.true_and, List.toList_toArray]
  rw [List.all_eq_true]
  rintro ⟨x, y⟩ hxy
  have hx := List.of_mem_zip hxy
  have he : x = y := by
    obtain ⟨i, hi, e⟩ := List.getElem_of_mem hxy
    rw [List.getElem_zip] at e
    injection e with e1 e2
    rw [← e1, ← e2]
  subst he
  obtain ⟨k, a, rfl⟩ := h x hx.1
  cases n <;> simp [Instr.sameBits]
end
theorem cs_int_nm (x : Nm) : ∀ u ∈ Nm.cs x, ∃ k a, u = .int k a := by
  intro u h; simp [Nm.cs] at h; rcases h with rfl | rfl | rfl | rfl | rfl | rfl | rfl | rfl <;> exact ⟨_, _, rfl⟩
theorem cs_int_oc (x : Oc) : ∀ u ∈ Oc.cs x, ∃ k a, u = .int k a := by
  intro u h
  rw [Oc.cs_eq, List.mem_append] at h
  rcases h with h | h
  · simp at h; rcases h with rfl | rfl | rfl <;> exact ⟨_, _, rfl⟩
  · exact cs_int_nm _ u h
theorem cs_int_ch (x : Ch) : ∀ u ∈ Ch.cs x, ∃ k a, u = .int k a := by
  intro u h
  rw [Ch.cs_eq, List.mem_append] at h
  rcases h with h | h
  · simp at h; subst h; exact ⟨_, _, rfl⟩
  · exact cs_int_nm _ u h
theorem cs_int_vt (x : Vt) : ∀ u ∈ Vt.cs x, ∃ k a, u = .int k a := by
  intro u h
  rw [Vt.cs_eq, List.mem_append, List.mem_append] at h
  rcases h with (h | h) | h
  · simp at h; rcases h with rfl | rfl | rfl | rfl | rfl | rfl <;> exact ⟨_, _, rfl⟩
  · exact cs_int_nm _ u h
  · exact cs_int_nm _ u h
theorem cs_int_pr (x : Pr) : ∀ u ∈ Pr.cs x, ∃ k a, u = .int k a := by
  intro u h; simp [Pr.cs] at h; rcases h with rfl | rfl <;> exact ⟨_, _, rfl⟩

section
variable {P : Program} {k e : TypeId}
theorem checkKey_nm {n : Nat} {w : World} {em : Bool} (hu : P.underlying k = some (.array 8 e)) (he : P.underlying e = some (.int .u8)) (h1 : isOneT P e = true) (hs : (P.info? e).map (·.size) = some 1) (x : Nm) : (Instr.checkKey em (n + 2) k (.agg (Nm.cs x).toArray)).run P w = .ok () w := by
  refine checkKey_array hu fun j hj => ?_
  have hlen : (Nm.cs x).length = 8 := rfl
  have hc : (Nm.cs x)[j]? = some ((Nm.cs x)[j]'(by omega)) := List.getElem?_eq_getElem (by omega)
  obtain ⟨q, a, hq⟩ := cs_int_nm x _ (List.getElem_mem (by omega : j < (Nm.cs x).length))
  rw [hq] at hc
  exact ⟨1, _, sizeOf_of hs, by rw [Nat.mul_one]; exact part_one h1 hc, checkKey_one he q a⟩
theorem KeyTy.nm (hu : P.underlying k = some (.array 8 e)) (he : P.underlying e = some (.int .u8)) (h1 : isOneT P e = true) (hs : (P.info? e).map (·.size) = some 1) (E : EqEnc P k Nm) : KeyTy P k Nm where
  check _ _ x := checkKey_nm (n := 9998) hu he h1 hs x
  eq := E
  und := ⟨_, hu, fun _ _ => rfl⟩
  same x := sameBits_ints (n := 9999) (cs_int_nm x)
theorem KeyTy.pr (hu : P.underlying k = some (.array 2 e)) (he : P.underlying e = some (.int .i64)) (h1 : isOneT P e = true) (hs : (P.info? e).map (·.size) = some 1) (E : EqEnc P k Pr) : KeyTy P k Pr where
  check w em x := by
    refine checkKey_array (n := 9999) hu fun j hj => ?_
    have hlen : (Pr.cs x).length = 2 := rfl
    have hc : (Pr.cs x)[j]? = some ((Pr.cs x)[j]'(by omega)) := List.getElem?_eq_getElem (by omega)
    obtain ⟨q, a, hq⟩ := cs_int_pr x _ (List.getElem_mem (by omega : j < (Pr.cs x).length))
    rw [hq] at hc
    exact ⟨1, _, sizeOf_of hs, by rw [Nat.mul_one]; exact part_one h1 hc, checkKey_one he q a⟩
  eq := E
  und := ⟨_, hu, fun _ _ => rfl⟩
  same x := sameBits_ints (n := 9999) (cs_int_pr x)
/-- a field that is an int, a field that is a name -/
theorem fieldInt {cs : List Value} {f : Field} {em : Bool} {w : World} {q : IntKind} {a : Int} {n : Nat} (ho : P.underlying f.type = some (.int .i64)) (h1 : isOneT P f.type = true) (hc : cs[f.offset]? = some (.int q a)) : ∃ v, (part f.type cs.toArray f.offset).run P w = .ok v w ∧ (Instr.checkKey em (n + 1) f.type v).run P w = .ok () w :=
  ⟨_, part_one h1 hc, checkKey_one ho q a⟩
theorem fieldNm {cs : List Value} {f : Field} {em : Bool} {w : World} {n : Nat} (x : Nm) (hu : P.underlying f.type = some (.array 8 e)) (he : P.underlying e = some (.int .u8)) (h1 : isOneT P e = true) (hs : (P.info? e).map (·.size) = some 1) (ha : isAggT P f.type = true) (hz : (P.info? f.type).map (·.size) = some 8) (hc : (cs.drop f.offset).take 8 = Nm.cs x) : ∃ v, (part f.type cs.toArray f.offset).run P w = .ok v w ∧ (Instr.checkKey em (n + 2) f.type v).run P w = .ok () w :=
  ⟨_, part_agg ha hz hc, checkKey_nm hu he h1 hs x⟩
end
end Go.Fk
