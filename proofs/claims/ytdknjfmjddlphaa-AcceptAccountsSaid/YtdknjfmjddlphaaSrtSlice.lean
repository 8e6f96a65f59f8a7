/-
  sort.Slice over a slice of the call's own: it leaves a permutation, sorted by the comparison's own order; the comparison may lay new blocks.
-/
import Derived.Test.YtdknjfmjddlphaaFS5
import Derived.Shelf.GgSortFunc.Tiny
namespace Go.Proofs.Ytdknjfmjddlphaa
open Go Go.Fk Go.Sort Go.Shelf Go.Lib

/-- what sort.Slice is told of the slice's type t, of elements e -/
structure SortTy (t e : TypeId) (α : Type) [Enc α] : Prop where
  facts : ∃ (i ie : TypeInfo) (ke kn kf : Nat) (gS : Bool), Try.prog.info? t = some i ∧ i.desc = .slice e ∧ Try.prog.packed t = false ∧ Try.prog.info? e = some ie ∧ (∀ w, (Extern.Rtype.kind e).run Try.prog w = .ok ke w) ∧ ie.size = Enc.size α ∧ (∀ w, (isAgg e).run Try.prog w = .ok true w) ∧
    (∀ n, 2 ≤ n → swapperK n ie ke = kn) ∧ 2 < kn ∧ Try.prog.funcs.findIdx? (·.name == "internal/reflectlite" ++ ".Swapper$" ++ toString kn) = some kf ∧
    (∀ args W, (callFunc kf args).run Try.prog W = ((Extern.ReflectliteSwapper.swap gS args).run Try.prog W).andThen fun v w' => .ok (.value v) w') ∧
    (∀ n, n ≤ 1 → ∃ f, Try.prog.funcs.findIdx? (·.name == "internal/reflectlite" ++ ".Swapper$" ++ toString (swapperK n ie ke)) = some f)

theorem hld_of_own {α : Type} [Enc α] [Inhabited α] {w : World} {base g cap : Nat} {e : TypeId} {l : List α} (h : Own w base e (.slice (some ⟨g, 0, none⟩) l.length cap) l) : Hld w g 0 l.toArray := by
  intro j hj
  rw [size_flatK] at hj
  have hs : l.toArray.size = l.length := by simp
  rw [hs] at hj
  have hk := Enc.pos (α := α)
  have hlt : j / Enc.size α < l.length := by rw [Nat.div_lt_iff_lt_mul hk]; exact hj
  have hm : j % Enc.size α < Enc.size α := Nat.mod_lt _ hk
  rw [get_flatK _ _ _ _ (by rw [hs]; exact hj)]
  have hx : l[j / Enc.size α]? = some (l.toArray[j / Enc.size α]!) := by simp [hlt]
  have hl := Enc.len (l.toArray[j / Enc.size α]!)
  have hu : (Enc.cells (l.toArray[j / Enc.size α]!))[j % Enc.size α]? = some ((Enc.cells (l.toArray[j / Enc.size α]!))[j % Enc.size α]!) := by
    rw [List.getElem?_eq_getElem (by rw [hl]; exact hm)]; congr 1; exact (getElem!_pos _ _ _).symm
  have hc := World.ownsRow.cells h (g := g) rfl _ _ (flat_get l _ _ hx _ _ hu)
  have e1 : j / Enc.size α * Enc.size α + j % Enc.size α = j := by rw [Nat.mul_comm]; exact Nat.div_add_mod j _
  rw [e1] at hc
  have e2 : (⟨g, 0, none⟩ : Addr).add j = ⟨g, 0 + j, none⟩ := by unfold Addr.add; split <;> simp_all
  rw [e2] at hc
  refine ⟨hc, ?_⟩
  rcases h.2 with ⟨h1, _⟩ | ⟨g', cap', cur, h1, _, hg, _⟩
  · cases h1
  · injection h1 with h2 _ _
    injection h2 with h2
    injection h2 with h2 _ _
    subst h2
    exact frozen_of_row w g (0 + j) cur e hg

theorem rd_of_hld {α : Type} [Enc α] [Inhabited α] {w : World} {g lo hi : Nat} {d : Array α} (h : Hld w g 0 d) (hlen : d.size ≤ 9223372036854775807) (h1 : lo ≤ g) (h2 : g < hi) : Rd w lo hi (some ⟨g, 0, none⟩) d.toList := ⟨by simpa using hlen, fun _ => by
  refine ⟨⟨g, 0, none⟩, rfl, h1, h2, fun k x hk => ?_⟩
  have hlt : k < d.size := by simpa using (List.getElem?_eq_some_iff.1 hk).1
  have hc := h.get hlt
  have e2 : (⟨g, 0, none⟩ : Addr).add (k * Enc.size α) = ⟨g, 0 + k * Enc.size α, none⟩ := by unfold Addr.add; split <;> simp_all
  have e3 : d[k]! = x := by
    simp [hlt] at hk
    rw [getElem!_pos d k hlt]; exact hk
  rw [e2, ← e3]
  exact hc⟩

set_option maxRecDepth 100000 in
theorem sortSlice_ok {α : Type} [Enc α] [Inhabited α] {t e : TypeId} (T : SortTy t e α) {lt : α → α → Bool} (hO : SWO lt) {g : Nat} {lb : Array Value} {A : Option Addr} {c base : Nat} {l : List α} {w : World} (hOwn : Own w base e (.slice A l.length c) l) (hl : l.length < 4611686018427387904)
    (hless : ∀ blk, A = some ⟨blk, 0, none⟩ → LessOk Try.prog lt (.func (.func g) #[] lb) blk 0 l.length w) :
    Gives Try.prog 60 #[.iface t (.slice A l.length c), .func (.func g) #[] lb] w fun u w' => u = .tuple #[] ∧ ∃ l' : List α, l'.Perm l ∧ l'.length = l.length ∧ (∀ i j, i < j → j < l'.length → lt l'[j]! l'[i]! = false) ∧ Rd w' base w.heap.size A l' ∧ w.grownBy w' (Value.slice A l.length c).ownBlock := by
  obtain ⟨i, ie, ke, kn, kf, gS, hi, hd, hpk, hie, hke, hsz, hag, hkn, h2n, hkf, hx, hf1⟩ := T.facts
  by_cases h2 : 2 ≤ l.length
  · -- two or more
    rcases hOwn.2 with ⟨_, h0⟩ | ⟨blk, cap, cur, h1, hb, hg, _⟩
    · omega
    injection h1 with h1 _ h3
    subst h1 h3
    have hH := hld_of_own hOwn
    have hblk : blk < w.heap.size := (Array.getElem?_eq_some_iff.1 hg).1
    have hL := hless blk rfl
    have hL1 : LessOk Try.prog lt (.func (.func g) #[] lb) blk 0 l.length (sliceWorld Try.prog sv6_ren t (some ⟨blk, 0, none⟩) l.length c w) := by
      refine hL.far (Ext.far ?_ blk)
      unfold sliceWorld
      exact (Ext.alloc _ _).trans (Ext.alloc _ _)
    have hx1 : Ext w (sliceWorld Try.prog sv6_ren t (some ⟨blk, 0, none⟩) l.length c w) := by unfold sliceWorld; exact (Ext.alloc _ _).trans (Ext.alloc _ _)
    have hsw : SwapOk α Try.prog (.func (.func kf) #[] (sliceBound Try.prog e ie ke (some ⟨blk, 0, none⟩) l.length c)) blk 0 l.length := by
      refine ⟨kf, _, rfl, ?_⟩
      unfold sliceBound
      rw [hkn _ h2, if_neg (by omega)]
      exact swapSwapsK_of_literal gS kf hx e ie hie (Enc.cells (α := α)) (Enc.size α) Enc.len hsz hag Enc.one blk 0 l.length c
    have hlim : Lib.bitLen l.length < 4611686018427387904 := by
      have := Lib.bitLen_le l.length 62 (by omega) (by omega)
      omega
    have hp := pdqsort_ok (α := α) (lt := lt) (lv := .func (.func g) #[] lb) (off := 0) (n := l.length) hO (l.length + 1) (a := 0) (b := l.length) (limit := Lib.bitLen l.length) (w0 := sliceWorld Try.prog sv6_ren t (some ⟨blk, 0, none⟩) l.length c w) (d := l.toArray) (by omega) hL1 hsw (Far.refl _ _) (Nat.lt_of_lt_of_le hblk hx1.size) hl (by simp) (hH.ext hx1) (Nat.zero_le _) (Nat.le_refl _) hlim (Or.inl rfl)
    have hS := Any.sort_Slice_of_pdq (P := Try.prog) (ρ := sv6_ren) sv6 t e i ie hi hd hpk hie ke hke (some ⟨blk, 0, none⟩) l.length c hl kf (by rw [hkn _ h2]; exact hkf) (.func g) #[] lb w (fun w' => ∃ d', PermIn 0 l.length l.toArray d' ∧ SortedIn lt 0 l.length d' ∧ Hld w' blk 0 d' ∧ Far blk (sliceWorld Try.prog sv6_ren t (some ⟨blk, 0, none⟩) l.length c w) w')
      (Calls.mono hp fun e w' ⟨v, h1, h2, h3⟩ => ⟨by rw [h1, h2], h3⟩)
    refine Calls.mono hS ?_
    rintro en w' ⟨rfl, d', hpm, hso, hH', hfar⟩
    have hds : d'.size = l.length := by have := hpm.1; simpa using this
    refine ⟨_, rfl, rfl, d'.toList, ?_, by simpa using hds, fun i j hij hj => ?_, rd_of_hld hH' (by omega) hb hblk, (hx1.far blk).trans hfar⟩
    · have h3 := hpm.2.2
      have e1 : d'.extract 0 l.length = d' := by rw [← hds]; exact Array.extract_size
      have e2 : l.toArray.extract 0 l.length = l.toArray := by have : l.length = l.toArray.size := by simp
                                                               rw [this]; exact Array.extract_size
      rw [e1, e2] at h3
      simpa using h3
    · have hj' : j < d'.size := by simpa using hj
      have := hso i j (Nat.zero_le _) hij (by omega)
      simpa [hj', show i < d'.size by omega] using this
  · -- none or one
    obtain ⟨f, hf⟩ := hf1 l.length (by omega)
    refine Calls.mono (Any.sort_Slice_tiny (P := Try.prog) (ρ := sv6_ren) sv6 t e i ie hi hd hpk hie ke hke A l.length c (by omega) f hf (.func g) #[] lb w) ?_
    rintro en w' ⟨rfl, os, rfl⟩
    have hx1 : Ext w (grow w os) := ⟨rfl, rfl, rfl, by simp [grow], fun k hk => by simp [grow, Array.getElem?_append, hk]⟩
    have hr := (hOwn.rd).2.1
    refine ⟨_, rfl, rfl, l, List.Perm.refl _, rfl, fun i j hij hj => by omega, hr.ext hx1, ?_⟩
    cases (Value.slice A l.length c).ownBlock with
    | none => exact ext_grown hx1
    | some b => exact hx1.far b

set_option maxRecDepth 100000 in
theorem sortTy_mk {α : Type} [Enc α] {t e : TypeId} {kn : Nat} (gS : Bool) (ke kf f0 f1 : Nat) (hd : (Try.prog.info? t).map (·.desc) = some (.slice e)) (hpk : Try.prog.packed t = false) (hke : ∀ w, (Extern.Rtype.kind e).run Try.prog w = .ok ke w) (hsz : (Try.prog.info? e).map (·.size) = some (Enc.size α)) (hag : ∀ w, (isAgg e).run Try.prog w = .ok true w)
    (hkn : (Try.prog.info? e).map (fun ie => swapperK 2 ie ke) = some kn) (h2 : 2 < kn)
    (hkf : Try.prog.funcs.findIdx? (·.name == "internal/reflectlite" ++ ".Swapper$" ++ toString kn) = some kf) (hf0 : Try.prog.funcs.findIdx? (·.name == "internal/reflectlite" ++ ".Swapper$" ++ toString 1) = some f0) (hf1 : Try.prog.funcs.findIdx? (·.name == "internal/reflectlite" ++ ".Swapper$" ++ toString 2) = some f1)
    (hx : ∀ args W, (callFunc kf args).run Try.prog W = ((Extern.ReflectliteSwapper.swap gS args).run Try.prog W).andThen fun v w' => .ok (.value v) w') : SortTy t e α := by
  cases hi : Try.prog.info? t with
  | none => rw [hi] at hd; cases hd
  | some i =>
    cases hie : Try.prog.info? e with
    | none => rw [hie] at hsz; cases hsz
    | some ie =>
      rw [hi] at hd
      rw [hie] at hsz hkn
      simp only [Option.map_some, Option.some.injEq] at hd hsz hkn
      refine ⟨i, ie, ke, kn, kf, gS, hi, hd, hpk, hie, hke, hsz, hag, fun n hn => ?_, h2, hkf, hx, fun n hn => ?_⟩
      · rw [← hkn]
        have a : (n == 0) = false := by simp; omega
        have b : (n == 1) = false := by simp; omega
        simp [swapperK, a, b]
      · rcases (show n = 0 ∨ n = 1 by omega) with rfl | rfl
        · exact ⟨f0, hf0⟩
        · exact ⟨f1, hf1⟩
end Go.Proofs.Ytdknjfmjddlphaa
