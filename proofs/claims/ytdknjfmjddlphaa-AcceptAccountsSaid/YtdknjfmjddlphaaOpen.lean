/-
  Arguments opened to data: names, votes, outcomes, choices and slices of them; and what a call leaves that has laid new blocks alone. No program in sight.
-/
import Derived.Test.YtdknjfmjddlphaaOps2
import Derived.Deep.Slices
import Derived.Deep.Fields
import Derived.OpenShut
import Derived.ChangeSame
import Derived.Carry
import Derived.Below
import Derived.ProofKit
namespace Go.Fk
open Go Go.RowKit Go.ChangeShapes Go.WideShapes Go.Deep

section
variable {H : Type} {enc : TypeId × Value → H} {P : Program} {w : World} {base : Nat} {spare : Nat → Bool} {held : Bool}
theorem split_at (cs : List Value) (a n : Nat) : cs.drop a = (cs.drop a).take n ++ cs.drop (a + n) := by
  rw [← List.drop_drop, List.take_append_drop]
/-- cells that read at type t are the cells of a datum -/
def Opens (P : Program) (t : TypeId) (α : Type) [Enc α] : Prop :=
  P.cellsOf t = Enc.size α ∧ ∀ (H : Type) (enc : TypeId × Value → H) (w : World) (base : Nat) (spare : Nat → Bool) (held : Bool) (fuel : Nat) (cs : List Value) (x : DataW H × List MemPlace), DataW.trod enc P w base spare held fuel t cs = some x → ∃ d : α, cs = Enc.cells d
theorem open_u8 {t : TypeId} {fuel : Nat} {cs : List Value} {x : DataW H × List MemPlace} (ht : P.underlying t = some (.int .u8)) (h : DataW.trod enc P w base spare held fuel t cs = some x) : ∃ b : UInt8, cs = [u8 b] := by
  obtain ⟨n, rfl, _, hw⟩ := DataW.trod_int ht h
  have hb : 0 ≤ n ∧ n < 256 := by
    simp [Lit.wf] at hw
    have h1 : IntKind.u8.min = 0 := rfl
    have h2 : IntKind.u8.max = 255 := rfl
    omega
  refine ⟨UInt8.ofNat n.toNat, ?_⟩
  unfold u8
  have : (UInt8.ofNat n.toNat).toNat = n.toNat := by
    rw [UInt8.toNat_ofNat']
    exact Nat.mod_eq_of_lt (by omega)
  rw [this, Int.toNat_of_nonneg hb.1]
theorem Opens.int {t : TypeId} (ht : P.underlying t = some (.int .i64)) (hc : P.cellsOf t = 1) : Opens P t Int :=
  ⟨hc, fun H enc w base spare held fuel cs x h => by
    obtain ⟨n, rfl, _, _⟩ := DataW.trod_int ht h
    exact ⟨n, rfl⟩⟩
theorem Opens.nm {t e : TypeId} (ht : P.underlying t = some (.array 8 e)) (he : P.underlying e = some (.int .u8)) (hc : P.cellsOf t = 8) (hce : P.cellsOf e = 1) : Opens P t Nm :=
  ⟨hc, fun H enc w base spare held fuel cs x h => by
    obtain ⟨xs, m, _, _, hl, hxl, hi⟩ := DataW.trod_array ht h
    rw [hc] at hl
    have key : ∀ i, i < 8 → ∃ b : UInt8, (cs.drop i).take 1 = [u8 b] := fun i hlt => by
      have h1 := hi i hlt
      rw [hce, Nat.mul_one] at h1
      have hx : xs[i]? = some (xs[i]'(by omega)) := List.getElem?_eq_getElem (by omega)
      exact open_u8 he (h1.trans hx)
    obtain ⟨b0, e0⟩ := key 0 (by omega); obtain ⟨b1, e1⟩ := key 1 (by omega); obtain ⟨b2, e2⟩ := key 2 (by omega); obtain ⟨b3, e3⟩ := key 3 (by omega)
    obtain ⟨b4, e4⟩ := key 4 (by omega); obtain ⟨b5, e5⟩ := key 5 (by omega); obtain ⟨b6, e6⟩ := key 6 (by omega); obtain ⟨b7, e7⟩ := key 7 (by omega)
    refine ⟨⟨b0, b1, b2, b3, b4, b5, b6, b7⟩, ?_⟩
    have s0 := split_at cs 0 1; have s1 := split_at cs 1 1; have s2 := split_at cs 2 1; have s3 := split_at cs 3 1
    have s4 := split_at cs 4 1; have s5 := split_at cs 5 1; have s6 := split_at cs 6 1; have s7 := split_at cs 7 1
    rw [e0] at s0; rw [e1] at s1; rw [e2] at s2; rw [e3] at s3; rw [e4] at s4; rw [e5] at s5; rw [e6] at s6; rw [e7] at s7
    have s8 : cs.drop 8 = [] := List.drop_of_length_le (by omega)
    rw [List.drop_zero] at s0
    rw [s0, s1, s2, s3, s4, s5, s6, s7, s8]
    rfl⟩
theorem Opens.one {t : TypeId} {α : Type} [Enc α] (O : Opens P t α) {fuel : Nat} {cs : List Value} {x : Option (DataW H × List MemPlace)} (h : DataW.trod enc P w base spare held fuel t cs = x) (hx : x.isSome = true) : ∃ d : α, cs = Enc.cells d := by
  obtain ⟨y, hy⟩ := Option.isSome_iff_exists.1 hx
  exact O.2 H enc w base spare held fuel cs y (h.trans hy)
theorem Opens.vt {t i m n : TypeId} {f0 f1 f2 f3 f4 f5 f6 f7 : Field} (ht : P.underlying t = some (.struct #[f0, f1, f2, f3, f4, f5, f6, f7])) (hc : P.cellsOf t = 22) (Oi : Opens P i Int) (Om : Opens P m Int) (On : Opens P n Nm)
    (h0 : f0.type = i ∧ f0.offset = 0) (h1 : f1.type = i ∧ f1.offset = 1) (h2 : f2.type = i ∧ f2.offset = 2) (h3 : f3.type = i ∧ f3.offset = 3) (h4 : f4.type = i ∧ f4.offset = 4) (h5 : f5.type = m ∧ f5.offset = 5) (h6 : f6.type = n ∧ f6.offset = 6) (h7 : f7.type = n ∧ f7.offset = 14) : Opens P t Vt :=
  ⟨hc, fun H enc w base spare held fuel cs x h => by
    obtain ⟨xs, k, _, _, hl, hxl, hi⟩ := DataW.trod_struct ht h
    rw [hc] at hl
    have hxl' : xs.length = 8 := hxl
    have gi : ∀ (j : Nat) (f : Field) (off : Nat), j < 8 → (#[f0, f1, f2, f3, f4, f5, f6, f7])[j]? = some f → f.type = i ∧ f.offset = off → ∃ z : Int, (cs.drop off).take 1 = [i64 z] := fun j f off hj hf hto => by
      have h1 := hi j f hf
      rw [hto.1, hto.2, Oi.1] at h1
      exact Oi.one h1 (by simp [hxl', hj])
    have gm : ∀ (j : Nat) (f : Field) (off : Nat), j < 8 → (#[f0, f1, f2, f3, f4, f5, f6, f7])[j]? = some f → f.type = m ∧ f.offset = off → ∃ z : Int, (cs.drop off).take 1 = [i64 z] := fun j f off hj hf hto => by
      have h1 := hi j f hf
      rw [hto.1, hto.2, Om.1] at h1
      exact Om.one h1 (by simp [hxl', hj])
    have gn : ∀ (j : Nat) (f : Field) (off : Nat), j < 8 → (#[f0, f1, f2, f3, f4, f5, f6, f7])[j]? = some f → f.type = n ∧ f.offset = off → ∃ z : Nm, (cs.drop off).take 8 = Nm.cs z := fun j f off hj hf hto => by
      have h1 := hi j f hf
      rw [hto.1, hto.2, On.1] at h1
      exact On.one h1 (by simp [hxl', hj])
    obtain ⟨z0, e0⟩ := gi 0 f0 0 (by omega) rfl h0; obtain ⟨z1, e1⟩ := gi 1 f1 1 (by omega) rfl h1; obtain ⟨z2, e2⟩ := gi 2 f2 2 (by omega) rfl h2; obtain ⟨z3, e3⟩ := gi 3 f3 3 (by omega) rfl h3
    obtain ⟨z4, e4⟩ := gi 4 f4 4 (by omega) rfl h4; obtain ⟨z5, e5⟩ := gm 5 f5 5 (by omega) rfl h5; obtain ⟨z6, e6⟩ := gn 6 f6 6 (by omega) rfl h6; obtain ⟨z7, e7⟩ := gn 7 f7 14 (by omega) rfl h7
    refine ⟨⟨z0, z1, z2, z3, z4, z5, z6, z7⟩, ?_⟩
    have s0 := split_at cs 0 1; have s1 := split_at cs 1 1; have s2 := split_at cs 2 1; have s3 := split_at cs 3 1
    have s4 := split_at cs 4 1; have s5 := split_at cs 5 1; have s6 := split_at cs 6 8; have s7 := split_at cs 14 8
    rw [e0] at s0; rw [e1] at s1; rw [e2] at s2; rw [e3] at s3; rw [e4] at s4; rw [e5] at s5; rw [e6] at s6; rw [e7] at s7
    have s8 : cs.drop 22 = [] := List.drop_of_length_le (by omega)
    rw [List.drop_zero] at s0
    rw [s0, s1, s2, s3, s4, s5, s6, s7, s8]
    rfl⟩
/-- a slice whose elements are data reads as a list of data -/
theorem open_list {α : Type} [Enc α] [Inhabited α] {r : Reach} {b0 : Nat} {t e : TypeId} {v : Value} {d : DataW H} {ps : List MemPlace} (ht : P.underlying t = some (.slice e)) (O : Opens P e α) (hval : Value.okWide P w r b0 t v) (h : DataW.Trod enc P w base spare held t v d ps) :
    ∃ (A : Option Addr) (c lo hi : Nat) (l : List α), v = .slice A l.length c ∧ l.length ≤ c ∧ Rd w lo hi A l := by
  obtain ⟨A0, n0, c0, rfl⟩ := okWide_slice ht hval
  obtain ⟨fuel, hf⟩ := h
  rcases open_slice ht hf with ⟨hcs, _⟩ | ⟨a, len, cap, m, n, D, Pl, hcs, hb, hl, hm, hmm, hx, hi⟩
  · simp [Value.cells] at hcs
    obtain ⟨rfl, rfl, rfl⟩ := hcs
    exact ⟨none, 0, 0, 0, [], rfl, Nat.le_refl _, Rd.nil _ _ _ _⟩
  · simp [Value.cells] at hcs
    obtain ⟨rfl, rfl, rfl⟩ := hcs
    have hlm : n0 ≤ m := by rw [hmm]; split <;> omega
    have hex : ∀ i : Nat, ∃ x : α, i < n0 → Cells w (a.add (i * Enc.size α)) (Enc.cells x) := fun i => by
      by_cases hlt : i < n0
      · obtain ⟨cs', hc, ht'⟩ := hi i (by omega)
        obtain ⟨x, rfl⟩ := O.2 H enc w base spare held n cs' _ ht'
        rw [O.1] at hc
        obtain ⟨_, _, hcell⟩ := World.cells?_some hc
        refine ⟨x, fun _ j u hu => ?_⟩
        have hj : j < Enc.size α := by rw [← Enc.len x]; exact (List.getElem?_eq_some_iff.1 hu).1
        exact (hcell j hj).trans hu
      · exact ⟨default, fun h => absurd h hlt⟩
    obtain ⟨f, hf'⟩ := Classical.axiomOfChoice hex
    refine ⟨some a, c0, 0, a.block + 1, (List.range n0).map f, by simp, by simpa using hl, by unfold maxLen at hm; simp; omega, fun _ => ⟨a, rfl, Nat.zero_le _, Nat.lt_succ_self _, fun k x hk => ?_⟩⟩
    have hk' : k < n0 := by
      have := (List.getElem?_eq_some_iff.1 hk).1
      simpa using this
    have : f k = x := by
      rw [List.getElem?_map, List.getElem?_range hk'] at hk
      simpa using hk
    rw [← this]
    exact hf' k hk'
theorem open_name {r : Reach} {b0 : Nat} {t e : TypeId} {v : Value} {d : DataW H} {ps : List MemPlace} (ht : P.underlying t = some (.array 8 e)) (O : Opens P t Nm) (hval : Value.okWide P w r b0 t v) (h : DataW.Trod enc P w base spare held t v d ps) : ∃ n : Nm, v = Enc.val n := by
  obtain ⟨fuel, hf⟩ := h
  obtain ⟨n, hn⟩ := O.2 H enc w base spare held fuel _ _ hf
  simp only [Value.okWide, ht] at hval
  obtain ⟨cs, rfl, _⟩ := hval
  refine ⟨n, ?_⟩
  simp only [Value.cells] at hn
  have e : cs = (Enc.cells n).toArray := by rw [← hn]
  rw [e]
  rfl
end

/-! ### what a call leaves that has laid new blocks alone -/
section
variable {H : Type} {enc : TypeId × Value → H} {P : Program}
theorem trodAll_stays {W W' : World} (hl : laidOutB P = true) (hb : Below W.heap.size W W') (sp : Nat → Bool) : ∀ {ts : List TypeId} {vs : List Value} {ds : List (DataW H)} {ps : List MemPlace}, (∀ t ∈ ts, P.readableRec t = true ∧ t < P.types.size) → (∀ p ∈ ps, p.block < W.heap.size) → (∀ p ∈ ps, sp p.block = true) →
    DataW.TrodAll enc P W 0 (fun _ => true) true ts vs ds ps → DataW.TrodAll enc P W' 0 sp true ts vs ds ps
  | [], [], [], _, _, _, _, h => h
  | [], [], _ :: _, _, _, _, _, h => h.elim
  | [], _ :: _, _, _, _, _, _, h => h.elim
  | _ :: _, [], _, _, _, _, _, h => h.elim
  | _ :: _, _ :: _, [], _, _, _, _, h => h.elim
  | t :: ts, v :: vs, d :: ds, ps, ht, hlt, hsp, h => by
    obtain ⟨p, q, h1, h2, rfl⟩ := h
    obtain ⟨hr, hrow⟩ := ht t (by simp)
    exact ⟨p, q, WideElems.Trod_stays hl hr hrow h1 (fun x hx => hb.same (hlt x (by simp [hx]))) (fun x hx => hsp x (by simp [hx])),
      trodAll_stays hl hb sp (fun t ht' => ht t (by simp [ht'])) (fun x hx => hlt x (by simp [hx])) (fun x hx => hsp x (by simp [hx])) h2, rfl⟩
theorem post_of_ext {f : Func} {s : ChangeSpec} {apart fresh handsOn again : Bool} {W W' : World} {args : Array Value} {v : Value} {ds gs : List (DataW H)} {before pa pv : List MemPlace}
    (hW : DataW.Whole enc P f.params.toList s.vars apart W args.toList ds gs before)
    (hres : ∀ (b : Nat) (sp : Nat → Bool) (hd : Bool), DataW.TrodAll enc P W' b sp hd f.resultTypes.toList (v.resultList f.resultTypes.size) (s.fn H (ds ++ gs)).results [])
    (hargs : ∀ sp : Nat → Bool, (∀ p ∈ before, sp p.block = true) → DataW.TrodAll enc P W' 0 sp true f.params.toList args.toList (s.fn H (ds ++ gs)).args pa)
    (hvars : ∀ sp : Nat → Bool, (∀ p ∈ before, sp p.block = true) → DataW.TrodVars enc P W' sp s.vars (s.fn H (ds ++ gs)).vars pv)
    (hps : before = pa ++ pv) (hb : Below W.heap.size W W')
    (hok : ∀ (j : Nat) (t : TypeId) (r : Value), f.resultTypes[j]? = some t → (v.resultList f.resultTypes.size)[j]? = some r → Value.okWide P W' .any 0 t r) :
    s.post enc P f apart fresh handsOn again W args v W' := by
  have hlt : ∀ p ∈ before, p.block < W.heap.size := fun p hp => hW.lt p hp
  have hold : ∀ p ∈ before, (fun b => decide (b < W.heap.size)) p.block = true := fun p hp => by simpa using hlt p hp
  refine ⟨ds, gs, before, [], pa, pv, hW, hres _ _ _, hargs _ hold, hvars _ hold, World.keptBut_mono (fun p hp => ⟨hp, ?_⟩) (hb.frame (· ∈ before)), fun _ => ?_⟩
  · rw [hps, List.mem_append] at hp
    exact Or.inr hp
  · obtain ⟨_, _, _, _, _, hz, hn⟩ := hW
    refine ⟨hok, _, _, ([] ++ pa) ++ pv, ⟨[] ++ pa, pv, trodAll_append (hargs _ (fun _ _ => rfl)) (hres _ _ _), hvars _ (fun _ _ => rfl), rfl, ?_, ?_⟩, ?_⟩
    · intro b off hp
      have hin : MemPlace.cell b off ∈ before := by rw [hps]; simpa using hp
      rw [hb.frozen (hlt _ hin)]
      exact hz b off hin
    · intro ha
      have := hn ha
      rw [hps] at this
      simpa using this
    · intro p hp _
      rw [hps]
      simpa using hp
end
end Go.Fk
