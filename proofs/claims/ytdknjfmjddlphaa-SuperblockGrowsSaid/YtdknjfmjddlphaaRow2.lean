/-
  Arguments that are outcomes or choices, or slices of them, for the rows.
-/
import Derived.Test.YtdknjfmjddlphaaZb
namespace Go.Fk
open Go Go.RowKit Go.ChangeShapes Go.WideShapes Go.Deep
section
variable {H : Type} {enc : TypeId × Value → H} {P : Program} {w : World} {base : Nat} {spare : Nat → Bool} {held : Bool}
theorem Opens.ch {t i n : TypeId} {f0 f1 : Field} (ht : P.underlying t = some (.struct #[f0, f1])) (hc : P.cellsOf t = 9) (Oi : Opens P i Int) (On : Opens P n Nm)
    (h0 : f0.type = i ∧ f0.offset = 0) (h1 : f1.type = n ∧ f1.offset = 1) : Opens P t Ch :=
  ⟨hc, fun H enc w base spare held fuel cs x h => by
    obtain ⟨xs, k, _, _, hl, hxl, hi⟩ := DataW.trod_struct ht h
    rw [hc] at hl
    have hxl' : xs.length = 2 := hxl
    obtain ⟨z0, e0⟩ : ∃ z : Int, (cs.drop 0).take 1 = [i64 z] := by
      have h1 := hi 0 f0 rfl
      rw [h0.1, h0.2, Oi.1] at h1
      exact Oi.one h1 (by simp [hxl'])
    obtain ⟨z1, e1⟩ : ∃ z : Nm, (cs.drop 1).take 8 = Nm.cs z := by
      have h2 := hi 1 f1 rfl
      rw [h1.1, h1.2, On.1] at h2
      exact On.one h2 (by simp [hxl'])
    refine ⟨⟨z0, z1⟩, ?_⟩
    have s0 := split_at cs 0 1; have s1 := split_at cs 1 8
    rw [e0] at s0; rw [e1] at s1
    have s8 : cs.drop 9 = [] := List.drop_of_length_le (by omega)
    rw [List.drop_zero] at s0
    rw [s0, s1, s8]
    rfl⟩
theorem Opens.oc {t i n : TypeId} {f0 f1 f2 f3 : Field} (ht : P.underlying t = some (.struct #[f0, f1, f2, f3])) (hc : P.cellsOf t = 11) (Oi : Opens P i Int) (On : Opens P n Nm)
    (h0 : f0.type = i ∧ f0.offset = 0) (h1 : f1.type = i ∧ f1.offset = 1) (h2 : f2.type = i ∧ f2.offset = 2) (h3 : f3.type = n ∧ f3.offset = 3) : Opens P t Oc :=
  ⟨hc, fun H enc w base spare held fuel cs x h => by
    obtain ⟨xs, k, _, _, hl, hxl, hi⟩ := DataW.trod_struct ht h
    rw [hc] at hl
    have hxl' : xs.length = 4 := hxl
    have gi : ∀ (j : Nat) (f : Field) (off : Nat), j < 4 → (#[f0, f1, f2, f3])[j]? = some f → f.type = i ∧ f.offset = off → ∃ z : Int, (cs.drop off).take 1 = [i64 z] := fun j f off hj hf hto => by
      have h1 := hi j f hf
      rw [hto.1, hto.2, Oi.1] at h1
      exact Oi.one h1 (by simp [hxl', hj])
    obtain ⟨z0, e0⟩ := gi 0 f0 0 (by omega) rfl h0; obtain ⟨z1, e1⟩ := gi 1 f1 1 (by omega) rfl h1; obtain ⟨z2, e2⟩ := gi 2 f2 2 (by omega) rfl h2
    obtain ⟨z3, e3⟩ : ∃ z : Nm, (cs.drop 3).take 8 = Nm.cs z := by
      have h4 := hi 3 f3 rfl
      rw [h3.1, h3.2, On.1] at h4
      exact On.one h4 (by simp [hxl'])
    refine ⟨⟨z0, z1, z2, z3⟩, ?_⟩
    have s0 := split_at cs 0 1; have s1 := split_at cs 1 1; have s2 := split_at cs 2 1; have s3 := split_at cs 3 8
    rw [e0] at s0; rw [e1] at s1; rw [e2] at s2; rw [e3] at s3
    have s8 : cs.drop 11 = [] := List.drop_of_length_le (by omega)
    rw [List.drop_zero] at s0
    rw [s0, s1, s2, s3, s8]
    rfl⟩
/-- a struct's value reads as a datum -/
theorem open_struct {α : Type} [Enc α] {r : Reach} {b0 : Nat} {t : TypeId} {fs : Array Field} {v : Value} {d : DataW H} {ps : List MemPlace} (ht : P.underlying t = some (.struct fs)) (O : Opens P t α) (hv : ∀ x : α, Enc.val x = .agg (Enc.cells x).toArray) (hval : Value.okWide P w r b0 t v) (h : DataW.Trod enc P w base spare held t v d ps) : ∃ n : α, v = Enc.val n := by
  obtain ⟨fuel, hf⟩ := h
  obtain ⟨n, hn⟩ := O.2 H enc w base spare held fuel _ _ hf
  simp only [Value.okWide, ht] at hval
  obtain ⟨cs, rfl, _⟩ := hval
  refine ⟨n, ?_⟩
  simp only [Value.cells] at hn
  have e : cs = (Enc.cells n).toArray := by rw [← hn]
  rw [e, hv]
end
end Go.Fk
namespace Go.Proofs.Ytdknjfmjddlphaa
open Go Go.Fk Go.RowKit Go.ChangeShapes Go.WideShapes Go.ChangeAt
theorem opens_ch : Opens Try.prog 82 Ch := Opens.ch Try.underlying82 (by kernel_rfl) opens_int opens_nm ⟨rfl, rfl⟩ ⟨rfl, rfl⟩
theorem opens_oc : Opens Try.prog 49 Oc := Opens.oc Try.underlying49 (by kernel_rfl) opens_int opens_nm ⟨rfl, rfl⟩ ⟨rfl, rfl⟩ ⟨rfl, rfl⟩ ⟨rfl, rfl⟩
end Go.Proofs.Ytdknjfmjddlphaa
