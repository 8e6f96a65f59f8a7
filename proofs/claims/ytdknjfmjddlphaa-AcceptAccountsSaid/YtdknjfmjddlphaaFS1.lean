/-
  Contracts of functions of sort.Slice for a comparison that may lay blocks, each with its walk. Printed by a program of this session (wip/gen) from the translation.
-/
import Derived.Test.YtdknjfmjddlphaaTypes
import Derived.Test.YtdknjfmjddlphaaSrt
set_option linter.unusedSimpArgs false
set_option linter.unusedVariables false
namespace Go.Proofs.Ytdknjfmjddlphaa
open Go Go.Fk Go.Sort

set_option maxRecDepth 100000 in
theorem insertionSort_ok {α : Type} [Enc α] [Inhabited α] {lt : α → α → Bool} {lv sv : Value} {blk off n : Nat} {w0 w : World} {d : Array α} {a b : Nat} (hL : LessOk Try.prog lt lv blk off n w0) (hS : SwapOk α Try.prog sv blk off n) (hF : Far blk w0 w) (hblk : blk < w.heap.size) (hn : n < 4611686018427387904) (hs : d.size = n) (hH : Hld w blk off d) (hab : a ≤ b) (hb : b ≤ n) : Gives Try.prog 114 #[(.agg #[lv, sv]), (.int .i64 ((a : Nat) : Int)), (.int .i64 ((b : Nat) : Int))] w fun u w' => u = .tuple #[] ∧ Hld w' blk off (Sort.insertionSort lt d a b) ∧ (Sort.insertionSort lt d a b).size = n ∧ Far blk w w' := by
  have hE : Far blk w w := Far.refl blk w
  refine gives_of_W Try.func114 rfl Try.ntmps114 rfl ?_
  refine W.seq ?_
  refine W.region (by rfl) ?_
  refine L.step rfl (op_box (cs := [lv, sv]) rfl rfl rfl) ?_
  rintro _ w1 ⟨b1, rfl, hb1, hB1, hx1⟩
  have ne1 : b1 ≠ blk := by have := hE.size; omega
  have hE := hE.trans (hx1.far blk)
  have hF := hF.trans (hx1.far blk)
  have hH := hH.ext hx1
  refine L.nil ?_
  refine thenF_nor ?_
  refine W.seq ?_
  refine W.region (by rfl) ?_
  refine L.val rfl (op_move rfl rfl) ?_
  refine L.val rfl (op_add (c := ((a + 1 : Nat) : Int)) rfl rfl rfl (by omega) (by omega)) ?_
  refine L.val rfl (op_assign rfl rfl) ?_
  refine L.nil ?_
  refine thenF_nor ?_
  refine W.block ?_
  have S2_hB1 := hB1
  have S2_hE := hE
  have S2_hF := hF
  refine W.loopg (γ := Nat × Array α) (fun (g : Nat × Array α) (f : Fr) (w : World) => g.2.size = n ∧ a < g.1 ∧ g.1 ≤ b + 1 ∧ insOuter lt a b g.1 g.2 = insOuter lt a b (a + 1) d ∧ f 1 = (.int .i64 ((a : Nat) : Int)) ∧ f 2 = (.int .i64 ((b : Nat) : Int)) ∧ f 3 = (.pointer (some ⟨b1, 0, none⟩)) ∧ f 6 = (.int .i64 ((g.1 : Nat) : Int)) ∧ Hld w blk off g.2 ∧ Far blk w1 w) (fun (g : Nat × Array α) => b + 1 - g.1) (a + 1, d) ⟨hs, (by (try dsimp only); omega), (by (try dsimp only); omega), rfl, rfl, rfl, rfl, rfl, hH, Far.refl _ _⟩ ?_
  rintro ⟨i, dk⟩ f2 w2 ⟨hz2, hi1, hi2, hO, s2_1, s2_2, s2_3, s2_6, hH, hS2⟩
  dsimp only at hz2 hi1 hi2 hO s2_1 s2_2 s2_3 s2_6 hH hS2
  have hB1 := S2_hB1.farx hS2 ne1
  have hE := S2_hE.trans hS2
  have hF := S2_hF.trans hS2
  refine W.seq ?_
  refine W.seq ?_
  refine W.region (by rfl) ?_
  refine L.val rfl (op_move rfl s2_6) ?_
  refine L.val rfl (op_move rfl s2_2) ?_
  refine L.val rfl (op_lss rfl rfl rfl) ?_
  refine L.nil ?_
  refine thenF_nor ?_
  refine W.cond (t := decide (((i : Nat) : Int) < ((b : Nat) : Int))) rfl (fun hc3 => ?_) (fun hc3 => ?_)
  · have hp3 := of_decide_eq_true hc3
    have hp_o : i < b := by simp only [decide_eq_true_eq] at hc3; omega
    refine W.skip ?_
    refine thenF_nor ?_
    refine W.seq ?_
    refine W.block ?_
    refine W.seq ?_
    refine W.region (by rfl) ?_
    refine L.val rfl (op_move rfl s2_6) ?_
    refine L.val rfl (op_assign rfl rfl) ?_
    refine L.nil ?_
    refine thenF_nor ?_
    refine W.block ?_
    have S4_hB1 := hB1
    have S4_hS2 := hS2
    have S4_hE := hE
    have S4_hF := hF
    refine W.loopg (γ := Nat × Array α) (fun (g : Nat × Array α) (f : Fr) (w : World) => g.2.size = n ∧ a ≤ g.1 ∧ g.1 ≤ i ∧ insInner lt a g.1 g.2 = insInner lt a i dk ∧ f 1 = (.int .i64 ((a : Nat) : Int)) ∧ f 2 = (.int .i64 ((b : Nat) : Int)) ∧ f 3 = (.pointer (some ⟨b1, 0, none⟩)) ∧ f 6 = (.int .i64 ((i : Nat) : Int)) ∧ f 10 = (.int .i64 ((i : Nat) : Int)) ∧ f 11 = (.int .i64 ((b : Nat) : Int)) ∧ f 12 = (.bool (decide (((i : Nat) : Int) < ((b : Nat) : Int)))) ∧ f 15 = (.int .i64 ((i : Nat) : Int)) ∧ f 7 = (.int .i64 ((g.1 : Nat) : Int)) ∧ Hld w blk off g.2 ∧ Far blk w2 w) (fun (g : Nat × Array α) => g.1) (i, dk) ⟨hz2, (by (try dsimp only); omega), (by (try dsimp only); omega), rfl, s2_1, s2_2, s2_3, s2_6, rfl, rfl, rfl, rfl, rfl, hH, Far.refl _ _⟩ ?_
    rintro ⟨j, dj⟩ f4 w4 ⟨hz4, hj1, hj2, hI, s4_1, s4_2, s4_3, s4_6, s4_10, s4_11, s4_12, s4_15, s4_7, hH, hS4⟩
    dsimp only at hz4 hj1 hj2 hI s4_1 s4_2 s4_3 s4_6 s4_10 s4_11 s4_12 s4_15 s4_7 hH hS4
    have hB1 := S4_hB1.farx hS4 ne1
    have hS2 := S4_hS2.trans hS4
    have hE := S4_hE.trans hS4
    have hF := S4_hF.trans hS4
    refine W.seq ?_
    refine W.seq ?_
    refine W.region (by rfl) ?_
    refine L.val rfl (op_move rfl s4_7) ?_
    refine L.val rfl (op_move rfl s4_1) ?_
    refine L.val rfl (op_gtr rfl rfl rfl) ?_
    refine L.val rfl (op_move rfl rfl) ?_
    refine L.guardv (v := (.pointer (some ⟨b1, 0, none⟩))) (wanted_yes rfl rfl rfl) (fun hg => (op_field rfl s4_3 fo106_0 rfl)) ?_
    refine L.guardv (v := lv) (wanted_yes rfl rfl rfl) (fun hg => (op_load1 rfl ((show _ = vif _ (.pointer (some ⟨b1, 0, none⟩)) from rfl).trans (vif_t hg).symm) one74 (hB1.cells.one (n := 0) rfl))) ?_
    refine L.guardv (v := (.int .i64 ((j : Nat) : Int))) (wanted_yes rfl rfl rfl) (fun hg => (op_move rfl s4_7)) ?_
    refine L.guardv (v := (.int .i64 ((j : Nat) : Int))) (wanted_yes rfl rfl rfl) (fun hg => (op_move rfl s4_7)) ?_
    refine L.guardv (v := (.int .i64 ((j - 1 : Nat) : Int))) (wanted_yes rfl rfl rfl) (fun hg => by have hp := hg; simp only [Bool.and_eq_true, Bool.not_eq_true', decide_eq_true_eq, decide_eq_false_iff_not] at hp; exact (op_sub (c := ((j - 1 : Nat) : Int)) rfl ((show _ = vif _ (.int .i64 ((j : Nat) : Int)) from rfl).trans (vif_t hg).symm) rfl (by omega) (by omega))) ?_
    refine L.guardc (v := (.bool (lt dj[j]! dj[j - 1]!))) (wanted_yes rfl rfl rfl) (fun hg => by have hp := hg; simp only [Bool.and_eq_true, Bool.not_eq_true', decide_eq_true_eq, decide_eq_false_iff_not] at hp; exact (op_less (i := j) (j := j - 1) hL hF hz4 hH rfl ((show _ = vif _ lv from rfl).trans (vif_t hg).symm) ((show _ = vif _ (.int .i64 ((j : Nat) : Int)) from rfl).trans (vif_t hg).symm) ((show _ = vif _ (.int .i64 ((j - 1 : Nat) : Int)) from rfl).trans (vif_t hg).symm) rfl rfl (by omega) (by omega))) ?_
    intro w5 hx5
    have hE := hE.trans (hx5.far blk)
    have hF := hF.trans (hx5.far blk)
    have hS2 := hS2.trans (hx5.far blk)
    have hS4 := hS4.trans (hx5.far blk)
    have hB1 := hB1.ext hx5
    have hH := hH.ext hx5
    refine L.val rfl (op_and rfl rfl rfl rfl) ?_
    refine L.nil ?_
    refine thenF_nor ?_
    refine W.cond (t := (decide (((a : Nat) : Int) < ((j : Nat) : Int))) && (lt dj[j]! dj[j - 1]!)) rfl (fun hc6 => ?_) (fun hc6 => ?_)
    · have hp6 := hc6
      simp only [Bool.and_eq_true, Bool.not_eq_true', decide_eq_true_eq] at hp6
      obtain ⟨hp6, hq6⟩ := hp6
      have hin := hc6
      simp only [Bool.and_eq_true, decide_eq_true_eq] at hin
      obtain ⟨hin1, hin2⟩ := hin
      have hin1 : a < j := by omega
      refine W.skip ?_
      refine thenF_nor ?_
      refine W.seq ?_
      refine W.block ?_
      refine W.region (by rfl) ?_
      refine L.val rfl (op_field rfl s4_3 fo106_1 rfl) ?_
      refine L.val rfl (op_load1 rfl rfl one101 (hB1.cells.one (n := 1) rfl)) ?_
      refine L.val rfl (op_move rfl s4_7) ?_
      refine L.val rfl (op_move rfl s4_7) ?_
      refine L.val rfl (op_sub (c := ((j - 1 : Nat) : Int)) rfl rfl rfl (by omega) (by omega)) ?_
      refine L.step rfl (op_swap (i := j) (j := j - 1) hS hz4 hH rfl rfl rfl rfl rfl rfl (by omega) (by omega)) ?_
      rintro _ w7 ⟨hH7, hg7⟩
      have hE := hE.trans hg7
      have hF := hF.trans hg7
      have hS2 := hS2.trans hg7
      have hS4 := hS4.trans hg7
      have hB1 := hB1.farx hg7 ne1
      have hH := hH7
      refine L.nil ?_
      refine blockF_nor ?_
      refine thenF_nor ?_
      refine W.region (by rfl) ?_
      refine L.val rfl (op_move rfl s4_7) ?_
      refine L.val rfl (op_sub (c := ((j - 1 : Nat) : Int)) rfl rfl rfl (by omega) (by omega)) ?_
      refine L.val rfl (op_assign rfl rfl) ?_
      refine L.nil ?_
      refine thenF_nor ?_
      exact ⟨(j - 1, (swp dj j (j - 1))), ⟨((size_swp _ _ _).trans hz4), (by (try dsimp only); omega), (by (try dsimp only); omega), (by dsimp only; rw [← hI, insInner_go _ _ _ _ hin1 hin2]), s4_1, s4_2, s4_3, s4_6, s4_10, s4_11, s4_12, s4_15, rfl, hH, hS4⟩, (by (try dsimp only); omega)⟩
    · have hp6 := hc6
      have hstop : j ≤ a ∨ lt dj[j]! dj[j - 1]! = false := by
        simp only [Bool.and_eq_false_iff, decide_eq_false_iff_not] at hc6
        rcases hc6 with h | h
        · exact Or.inl (by omega)
        · exact Or.inr h
      refine W.exit ?_
      refine thenF_exit ?_
      refine thenF_exit ?_
      refine blockF_hit ?_
      refine blockF_nor ?_
      refine thenF_nor ?_
      refine W.region (by rfl) ?_
      refine L.val rfl (op_move rfl s4_6) ?_
      refine L.val rfl (op_add (c := ((i + 1 : Nat) : Int)) rfl rfl rfl (by omega) (by omega)) ?_
      refine L.val rfl (op_assign rfl rfl) ?_
      refine L.nil ?_
      refine thenF_nor ?_
      exact ⟨(i + 1, dj), ⟨hz4, (by (try dsimp only); omega), (by (try dsimp only); omega), (by dsimp only; rw [← hO, insOuter_go _ _ _ _ _ hp_o, ← hI, insInner_stop _ _ _ _ hstop]), s4_1, s4_2, s4_3, rfl, hH, hS2⟩, (by (try dsimp only); omega)⟩
  · have hp3 := of_decide_eq_false hc3
    refine W.exit ?_
    refine thenF_exit ?_
    refine thenF_exit ?_
    refine blockF_hit ?_
    exact end_nor0 rfl ⟨rfl, by unfold Sort.insertionSort; rw [← hO, insOuter_stop _ _ _ _ _ (by omega)]; exact hH, by unfold Sort.insertionSort; rw [← hO, insOuter_stop _ _ _ _ _ (by omega)]; exact hz2, hE⟩

set_option maxRecDepth 100000 in
theorem siftDown_ok {α : Type} [Enc α] [Inhabited α] {lt : α → α → Bool} {lv sv : Value} {blk off n : Nat} {w0 w : World} {d : Array α} {lo hi first : Nat} (hL : LessOk Try.prog lt lv blk off n w0) (hS : SwapOk α Try.prog sv blk off n) (hF : Far blk w0 w) (hblk : blk < w.heap.size) (hn : n < 4611686018427387904) (hs : d.size = n) (hH : Hld w blk off d) (hh : first + hi ≤ n) (hl : lo ≤ n) : Gives Try.prog 129 #[(.agg #[lv, sv]), (.int .i64 ((lo : Nat) : Int)), (.int .i64 ((hi : Nat) : Int)), (.int .i64 ((first : Nat) : Int))] w fun u w' => u = .tuple #[] ∧ Hld w' blk off (Sort.siftDown lt hi first lo d) ∧ (Sort.siftDown lt hi first lo d).size = n ∧ Far blk w w' := by
  have hE : Far blk w w := Far.refl blk w
  refine gives_of_W Try.func129 rfl Try.ntmps129 rfl ?_
  refine W.seq ?_
  refine W.region (by rfl) ?_
  refine L.step rfl (op_box (cs := [lv, sv]) rfl rfl rfl) ?_
  rintro _ w1 ⟨b1, rfl, hb1, hB1, hx1⟩
  have ne1 : b1 ≠ blk := by have := hE.size; omega
  have hE := hE.trans (hx1.far blk)
  have hF := hF.trans (hx1.far blk)
  have hH := hH.ext hx1
  refine L.nil ?_
  refine thenF_nor ?_
  refine W.seq ?_
  refine W.region (by rfl) ?_
  refine L.val rfl (op_move rfl rfl) ?_
  refine L.val rfl (op_assign rfl rfl) ?_
  refine L.nil ?_
  refine thenF_nor ?_
  refine W.block ?_
  have S2_hB1 := hB1
  have S2_hE := hE
  have S2_hF := hF
  refine W.loopg (γ := Nat × Array α) (fun (g : Nat × Array α) (f : Fr) (w : World) => g.2.size = n ∧ g.1 ≤ n ∧ Sort.siftDown lt hi first g.1 g.2 = Sort.siftDown lt hi first lo d ∧ f 2 = (.int .i64 ((hi : Nat) : Int)) ∧ f 3 = (.int .i64 ((first : Nat) : Int)) ∧ f 4 = (.pointer (some ⟨b1, 0, none⟩)) ∧ f 8 = (.int .i64 ((g.1 : Nat) : Int)) ∧ Hld w blk off g.2 ∧ Far blk w1 w) (fun (g : Nat × Array α) => hi - g.1) (lo, d) ⟨hs, (by (try dsimp only); omega), rfl, rfl, rfl, rfl, rfl, hH, Far.refl _ _⟩ ?_
  rintro ⟨root, dk⟩ f2 w2 ⟨hz2, hi1, heq, s2_2, s2_3, s2_4, s2_8, hH, hS2⟩
  dsimp only at hz2 hi1 heq s2_2 s2_3 s2_4 s2_8 hH hS2
  have hB1 := S2_hB1.farx hS2 ne1
  have hE := S2_hE.trans hS2
  have hF := S2_hF.trans hS2
  refine W.block ?_
  refine W.seq ?_
  refine W.region (by rfl) ?_
  refine L.val rfl (op_move rfl s2_8) ?_
  refine L.val rfl (op_mulc (c := ((2 * root : Nat) : Int)) rfl rfl rfl (by omega) (by omega)) ?_
  refine L.val rfl (op_add (c := (((2 * root) + 1 : Nat) : Int)) rfl rfl rfl (by omega) (by omega)) ?_
  refine L.val rfl (op_assign rfl rfl) ?_
  refine L.nil ?_
  refine thenF_nor ?_
  refine W.seq ?_
  refine W.seq ?_
  refine W.region (by rfl) ?_
  refine L.val rfl (op_move rfl rfl) ?_
  refine L.val rfl (op_move rfl s2_2) ?_
  refine L.val rfl (op_geq rfl rfl rfl) ?_
  refine L.nil ?_
  refine thenF_nor ?_
  refine W.cond (t := decide (((hi : Nat) : Int) ≤ (((2 * root) + 1 : Nat) : Int))) rfl (fun hc3 => ?_) (fun hc3 => ?_)
  · have hp3 := of_decide_eq_true hc3
    have hend : hi ≤ 2 * root + 1 := by simp only [decide_eq_true_eq] at hc3; omega
    refine W.exit ?_
    refine thenF_exit ?_
    refine blockF_miss rfl ?_
    refine thenF_exit ?_
    refine blockF_hit ?_
    exact end_nor0 rfl ⟨rfl, by rw [← heq, sd_end lt dk hend]; exact hH, by rw [← heq, sd_end lt dk hend]; exact hz2, hE⟩
  · have hp3 := of_decide_eq_false hc3
    have hlt1 : 2 * root + 1 < hi := by simp only [decide_eq_false_iff_not] at hc3; omega
    have hszz : root < hi := by omega
    refine W.skip ?_
    refine thenF_nor ?_
    refine W.seq ?_
    refine W.seq ?_
    refine W.region (by rfl) ?_
    refine L.val rfl (op_move rfl rfl) ?_
    refine L.val rfl (op_add (c := ((((2 * root) + 1) + 1 : Nat) : Int)) rfl rfl rfl (by omega) (by omega)) ?_
    refine L.val rfl (op_move rfl s2_2) ?_
    refine L.val rfl (op_lss rfl rfl rfl) ?_
    refine L.val rfl (op_move rfl rfl) ?_
    refine L.guardv (v := (.pointer (some ⟨b1, 0, none⟩))) (wanted_yes rfl rfl rfl) (fun hg => (op_field rfl s2_4 fo106_0 rfl)) ?_
    refine L.guardv (v := lv) (wanted_yes rfl rfl rfl) (fun hg => (op_load1 rfl ((show _ = vif _ (.pointer (some ⟨b1, 0, none⟩)) from rfl).trans (vif_t hg).symm) one74 (hB1.cells.one (n := 0) rfl))) ?_
    refine L.guardv (v := (.int .i64 ((first : Nat) : Int))) (wanted_yes rfl rfl rfl) (fun hg => (op_move rfl s2_3)) ?_
    refine L.guardv (v := (.int .i64 (((2 * root) + 1 : Nat) : Int))) (wanted_yes rfl rfl rfl) (fun hg => (op_move rfl rfl)) ?_
    refine L.guardv (v := (.int .i64 ((first + ((2 * root) + 1) : Nat) : Int))) (wanted_yes rfl rfl rfl) (fun hg => by have hp := hg; simp only [Bool.and_eq_true, Bool.not_eq_true', decide_eq_true_eq, decide_eq_false_iff_not] at hp; exact (op_add (c := ((first + ((2 * root) + 1) : Nat) : Int)) rfl ((show _ = vif _ (.int .i64 ((first : Nat) : Int)) from rfl).trans (vif_t hg).symm) ((show _ = vif _ (.int .i64 (((2 * root) + 1 : Nat) : Int)) from rfl).trans (vif_t hg).symm) (by omega) (by omega))) ?_
    refine L.guardv (v := (.int .i64 ((first : Nat) : Int))) (wanted_yes rfl rfl rfl) (fun hg => (op_move rfl s2_3)) ?_
    refine L.guardv (v := (.int .i64 (((2 * root) + 1 : Nat) : Int))) (wanted_yes rfl rfl rfl) (fun hg => (op_move rfl rfl)) ?_
    refine L.guardv (v := (.int .i64 ((first + ((2 * root) + 1) : Nat) : Int))) (wanted_yes rfl rfl rfl) (fun hg => by have hp := hg; simp only [Bool.and_eq_true, Bool.not_eq_true', decide_eq_true_eq, decide_eq_false_iff_not] at hp; exact (op_add (c := ((first + ((2 * root) + 1) : Nat) : Int)) rfl ((show _ = vif _ (.int .i64 ((first : Nat) : Int)) from rfl).trans (vif_t hg).symm) ((show _ = vif _ (.int .i64 (((2 * root) + 1 : Nat) : Int)) from rfl).trans (vif_t hg).symm) (by omega) (by omega))) ?_
    refine L.guardv (v := (.int .i64 (((first + ((2 * root) + 1)) + 1 : Nat) : Int))) (wanted_yes rfl rfl rfl) (fun hg => by have hp := hg; simp only [Bool.and_eq_true, Bool.not_eq_true', decide_eq_true_eq, decide_eq_false_iff_not] at hp; exact (op_add (c := (((first + ((2 * root) + 1)) + 1 : Nat) : Int)) rfl ((show _ = vif _ (.int .i64 ((first + ((2 * root) + 1) : Nat) : Int)) from rfl).trans (vif_t hg).symm) rfl (by omega) (by omega))) ?_
    refine L.guardc (v := (.bool (lt dk[first + ((2 * root) + 1)]! dk[(first + ((2 * root) + 1)) + 1]!))) (wanted_yes rfl rfl rfl) (fun hg => by have hp := hg; simp only [Bool.and_eq_true, Bool.not_eq_true', decide_eq_true_eq, decide_eq_false_iff_not] at hp; exact (op_less (i := first + ((2 * root) + 1)) (j := (first + ((2 * root) + 1)) + 1) hL hF hz2 hH rfl ((show _ = vif _ lv from rfl).trans (vif_t hg).symm) ((show _ = vif _ (.int .i64 ((first + ((2 * root) + 1) : Nat) : Int)) from rfl).trans (vif_t hg).symm) ((show _ = vif _ (.int .i64 (((first + ((2 * root) + 1)) + 1 : Nat) : Int)) from rfl).trans (vif_t hg).symm) rfl rfl (by omega) (by omega))) ?_
    intro w4 hx4
    have hE := hE.trans (hx4.far blk)
    have hF := hF.trans (hx4.far blk)
    have hS2 := hS2.trans (hx4.far blk)
    have hB1 := hB1.ext hx4
    have hH := hH.ext hx4
    refine L.val rfl (op_and rfl rfl rfl rfl) ?_
    refine L.nil ?_
    refine thenF_nor ?_
    refine W.cond (t := (decide (((((2 * root) + 1) + 1 : Nat) : Int) < ((hi : Nat) : Int))) && (lt dk[first + ((2 * root) + 1)]! dk[(first + ((2 * root) + 1)) + 1]!)) rfl (fun hc5 => ?_) (fun hc5 => ?_)
    · have hp5 := hc5
      simp only [Bool.and_eq_true, Bool.not_eq_true', decide_eq_true_eq] at hp5
      obtain ⟨hp5, hq5⟩ := hp5
      have hr := hc5
      simp only [Bool.and_eq_true, decide_eq_true_eq] at hr
      obtain ⟨hr1, hr2⟩ := hr
      have hlt2 : 2 * root + 2 < hi := by omega
      have hstop : lt dk[first + root]! dk[first + (2 * root + 1 + 1)]! = false → Sort.siftDown lt hi first root dk = dk := fun h3 => sd_right_stop lt dk hlt2 hr2 h3
      have hgo : lt dk[first + root]! dk[first + (2 * root + 1 + 1)]! = true → Sort.siftDown lt hi first root dk = Sort.siftDown lt hi first (2 * root + 1 + 1) (swp dk (first + root) (first + (2 * root + 1 + 1))) := fun h3 => sd_right_go lt dk hlt2 hr2 h3
      refine W.region (by rfl) ?_
      refine L.val rfl (op_move rfl rfl) ?_
      refine L.val rfl (op_add (c := ((((2 * root) + 1) + 1 : Nat) : Int)) rfl rfl rfl (by omega) (by omega)) ?_
      refine L.val rfl (op_assign rfl rfl) ?_
      refine L.nil ?_
      refine thenF_nor ?_
      refine W.seq ?_
      refine W.seq ?_
      refine W.region (by rfl) ?_
      refine L.val rfl (op_field rfl s2_4 fo106_0 rfl) ?_
      refine L.val rfl (op_load1 rfl rfl one74 (hB1.cells.one (n := 0) rfl)) ?_
      refine L.val rfl (op_move rfl s2_3) ?_
      refine L.val rfl (op_move rfl s2_8) ?_
      refine L.val rfl (op_add (c := ((first + root : Nat) : Int)) rfl rfl rfl (by omega) (by omega)) ?_
      refine L.val rfl (op_move rfl s2_3) ?_
      refine L.val rfl (op_move rfl rfl) ?_
      refine L.val rfl (op_add (c := ((first + (((2 * root) + 1) + 1) : Nat) : Int)) rfl rfl rfl (by omega) (by omega)) ?_
      refine L.call (v := (.bool (lt dk[first + root]! dk[first + (((2 * root) + 1) + 1)]!))) rfl (op_less (i := first + root) (j := first + (((2 * root) + 1) + 1)) hL hF hz2 hH rfl rfl rfl rfl rfl rfl (by omega) (by omega)) ?_
      intro w6 hx6
      have hE := hE.trans (hx6.far blk)
      have hF := hF.trans (hx6.far blk)
      have hS2 := hS2.trans (hx6.far blk)
      have hB1 := hB1.ext hx6
      have hH := hH.ext hx6
      refine L.val rfl (op_not rfl rfl) ?_
      refine L.nil ?_
      refine thenF_nor ?_
      refine W.cond (t := !(lt dk[first + root]! dk[first + (((2 * root) + 1) + 1)]!)) rfl (fun hc7 => ?_) (fun hc7 => ?_)
      · have hp7 := hc7
        have hlf := hc7
        simp only [Bool.not_eq_true'] at hlf
        refine W.ret ?_
        refine thenF_ret ?_
        refine blockF_ret ?_
        refine thenF_ret ?_
        refine blockF_ret ?_
        exact end_ret0 rfl ⟨rfl, by rw [← heq, hstop hlf]; exact hH, by rw [← heq, hstop hlf]; exact hz2, hE⟩
      · have hp7 := hc7
        have hlt := hc7
        simp only [Bool.not_eq_false'] at hlt
        refine W.skip ?_
        refine thenF_nor ?_
        refine W.seq ?_
        refine W.region (by rfl) ?_
        refine L.val rfl (op_field rfl s2_4 fo106_1 rfl) ?_
        refine L.val rfl (op_load1 rfl rfl one101 (hB1.cells.one (n := 1) rfl)) ?_
        refine L.val rfl (op_move rfl s2_3) ?_
        refine L.val rfl (op_move rfl s2_8) ?_
        refine L.val rfl (op_add (c := ((first + root : Nat) : Int)) rfl rfl rfl (by omega) (by omega)) ?_
        refine L.val rfl (op_move rfl s2_3) ?_
        refine L.val rfl (op_move rfl rfl) ?_
        refine L.val rfl (op_add (c := ((first + (((2 * root) + 1) + 1) : Nat) : Int)) rfl rfl rfl (by omega) (by omega)) ?_
        refine L.step rfl (op_swap (i := first + root) (j := first + (((2 * root) + 1) + 1)) hS hz2 hH rfl rfl rfl rfl rfl rfl (by omega) (by omega)) ?_
        rintro _ w8 ⟨hH8, hg8⟩
        have hE := hE.trans hg8
        have hF := hF.trans hg8
        have hS2 := hS2.trans hg8
        have hB1 := hB1.farx hg8 ne1
        have hH := hH8
        refine L.nil ?_
        refine thenF_nor ?_
        refine W.region (by rfl) ?_
        refine L.val rfl (op_move rfl rfl) ?_
        refine L.val rfl (op_assign rfl rfl) ?_
        refine L.nil ?_
        refine blockF_nor ?_
        refine thenF_nor ?_
        exact ⟨(((2 * root) + 1) + 1, (swp dk (first + root) (first + (((2 * root) + 1) + 1)))), ⟨((size_swp _ _ _).trans hz2), (by dsimp only; omega), (by dsimp only; rw [← heq, hgo hlt]), s2_2, s2_3, s2_4, rfl, hH, hS2⟩, (by dsimp only; omega)⟩
    · have hp5 := hc5
      have hr := hc5
      simp only [Bool.and_eq_false_iff, decide_eq_false_iff_not] at hr
      have hr2 : 2 * root + 2 < hi → lt dk[first + (2 * root + 1)]! dk[first + (2 * root + 2)]! = false := fun h => by rcases hr with h1 | h1; exact absurd h (by omega); exact h1
      have hstop : lt dk[first + root]! dk[first + (2 * root + 1)]! = false → Sort.siftDown lt hi first root dk = dk := fun h3 => sd_left_stop lt dk hlt1 hr2 h3
      have hgo : lt dk[first + root]! dk[first + (2 * root + 1)]! = true → Sort.siftDown lt hi first root dk = Sort.siftDown lt hi first (2 * root + 1) (swp dk (first + root) (first + (2 * root + 1))) := fun h3 => sd_left_go lt dk hlt1 hr2 h3
      refine W.skip ?_
      refine thenF_nor ?_
      refine W.seq ?_
      refine W.seq ?_
      refine W.region (by rfl) ?_
      refine L.val rfl (op_field rfl s2_4 fo106_0 rfl) ?_
      refine L.val rfl (op_load1 rfl rfl one74 (hB1.cells.one (n := 0) rfl)) ?_
      refine L.val rfl (op_move rfl s2_3) ?_
      refine L.val rfl (op_move rfl s2_8) ?_
      refine L.val rfl (op_add (c := ((first + root : Nat) : Int)) rfl rfl rfl (by omega) (by omega)) ?_
      refine L.val rfl (op_move rfl s2_3) ?_
      refine L.val rfl (op_move rfl rfl) ?_
      refine L.val rfl (op_add (c := ((first + ((2 * root) + 1) : Nat) : Int)) rfl rfl rfl (by omega) (by omega)) ?_
      refine L.call (v := (.bool (lt dk[first + root]! dk[first + ((2 * root) + 1)]!))) rfl (op_less (i := first + root) (j := first + ((2 * root) + 1)) hL hF hz2 hH rfl rfl rfl rfl rfl rfl (by omega) (by omega)) ?_
      intro w9 hx9
      have hE := hE.trans (hx9.far blk)
      have hF := hF.trans (hx9.far blk)
      have hS2 := hS2.trans (hx9.far blk)
      have hB1 := hB1.ext hx9
      have hH := hH.ext hx9
      refine L.val rfl (op_not rfl rfl) ?_
      refine L.nil ?_
      refine thenF_nor ?_
      refine W.cond (t := !(lt dk[first + root]! dk[first + ((2 * root) + 1)]!)) rfl (fun hc10 => ?_) (fun hc10 => ?_)
      · have hp10 := hc10
        have hlf := hc10
        simp only [Bool.not_eq_true'] at hlf
        refine W.ret ?_
        refine thenF_ret ?_
        refine blockF_ret ?_
        refine thenF_ret ?_
        refine blockF_ret ?_
        exact end_ret0 rfl ⟨rfl, by rw [← heq, hstop hlf]; exact hH, by rw [← heq, hstop hlf]; exact hz2, hE⟩
      · have hp10 := hc10
        have hlt := hc10
        simp only [Bool.not_eq_false'] at hlt
        refine W.skip ?_
        refine thenF_nor ?_
        refine W.seq ?_
        refine W.region (by rfl) ?_
        refine L.val rfl (op_field rfl s2_4 fo106_1 rfl) ?_
        refine L.val rfl (op_load1 rfl rfl one101 (hB1.cells.one (n := 1) rfl)) ?_
        refine L.val rfl (op_move rfl s2_3) ?_
        refine L.val rfl (op_move rfl s2_8) ?_
        refine L.val rfl (op_add (c := ((first + root : Nat) : Int)) rfl rfl rfl (by omega) (by omega)) ?_
        refine L.val rfl (op_move rfl s2_3) ?_
        refine L.val rfl (op_move rfl rfl) ?_
        refine L.val rfl (op_add (c := ((first + ((2 * root) + 1) : Nat) : Int)) rfl rfl rfl (by omega) (by omega)) ?_
        refine L.step rfl (op_swap (i := first + root) (j := first + ((2 * root) + 1)) hS hz2 hH rfl rfl rfl rfl rfl rfl (by omega) (by omega)) ?_
        rintro _ w11 ⟨hH11, hg11⟩
        have hE := hE.trans hg11
        have hF := hF.trans hg11
        have hS2 := hS2.trans hg11
        have hB1 := hB1.farx hg11 ne1
        have hH := hH11
        refine L.nil ?_
        refine thenF_nor ?_
        refine W.region (by rfl) ?_
        refine L.val rfl (op_move rfl rfl) ?_
        refine L.val rfl (op_assign rfl rfl) ?_
        refine L.nil ?_
        refine blockF_nor ?_
        refine thenF_nor ?_
        exact ⟨((2 * root) + 1, (swp dk (first + root) (first + ((2 * root) + 1)))), ⟨((size_swp _ _ _).trans hz2), (by dsimp only; omega), (by dsimp only; rw [← heq, hgo hlt]), s2_2, s2_3, s2_4, rfl, hH, hS2⟩, (by dsimp only; omega)⟩

set_option maxRecDepth 100000 in
theorem heapSort_ok {α : Type} [Enc α] [Inhabited α] {lt : α → α → Bool} {lv sv : Value} {blk off n : Nat} {w0 w : World} {d : Array α} {a b : Nat} (hL : LessOk Try.prog lt lv blk off n w0) (hS : SwapOk α Try.prog sv blk off n) (hF : Far blk w0 w) (hblk : blk < w.heap.size) (hn : n < 4611686018427387904) (hs : d.size = n) (hH : Hld w blk off d) (hab : a < b) (hb : b ≤ n) : Gives Try.prog 115 #[(.agg #[lv, sv]), (.int .i64 ((a : Nat) : Int)), (.int .i64 ((b : Nat) : Int))] w fun u w' => u = .tuple #[] ∧ Hld w' blk off (Sort.heapSort lt d a b) ∧ (Sort.heapSort lt d a b).size = n ∧ Far blk w w' := by
  have hE : Far blk w w := Far.refl blk w
  refine gives_of_W Try.func115 rfl Try.ntmps115 rfl ?_
  refine W.seq ?_
  refine W.region (by rfl) ?_
  refine L.step rfl (op_box (cs := [lv, sv]) rfl rfl rfl) ?_
  rintro _ w1 ⟨b1, rfl, hb1, hB1, hx1⟩
  have ne1 : b1 ≠ blk := by have := hE.size; omega
  have hE := hE.trans (hx1.far blk)
  have hF := hF.trans (hx1.far blk)
  have hH := hH.ext hx1
  refine L.nil ?_
  refine thenF_nor ?_
  refine W.seq ?_
  refine W.region (by rfl) ?_
  refine L.val rfl (op_move rfl rfl) ?_
  refine L.val rfl (op_assign rfl rfl) ?_
  refine L.nil ?_
  refine thenF_nor ?_
  refine W.seq ?_
  refine W.region (by rfl) ?_
  refine L.val rfl (op_assign rfl rfl) ?_
  refine L.nil ?_
  refine thenF_nor ?_
  refine W.seq ?_
  refine W.region (by rfl) ?_
  refine L.val rfl (op_move rfl rfl) ?_
  refine L.val rfl (op_move rfl rfl) ?_
  refine L.val rfl (op_sub (c := ((b - a : Nat) : Int)) rfl rfl rfl (by omega) (by omega)) ?_
  refine L.val rfl (op_assign rfl rfl) ?_
  refine L.nil ?_
  refine thenF_nor ?_
  refine W.seq ?_
  refine W.seq ?_
  refine W.region (by rfl) ?_
  refine L.val rfl (op_move rfl rfl) ?_
  refine L.val rfl (op_sub (c := (((b - a) - 1 : Nat) : Int)) rfl rfl rfl (by omega) (by omega)) ?_
  refine L.val rfl (op_quoc (c := ((((b - a) - 1) / 2 : Nat) : Int)) rfl rfl rfl (by omega) (by omega) (by omega) (by omega)) ?_
  refine L.val rfl (op_assign rfl rfl) ?_
  refine L.nil ?_
  refine thenF_nor ?_
  refine W.block ?_
  have S2_hB1 := hB1
  have S2_hE := hE
  have S2_hF := hF
  refine W.loopg (γ := Nat × Array α) (fun (g : Nat × Array α) (f : Fr) (w : World) => g.2.size = n ∧ g.1 ≤ (b - a - 1) / 2 + 1 ∧ heapBuild lt (b - a) a g.1 g.2 = heapBuild lt (b - a) a ((b - a - 1) / 2 + 1) d ∧ f 3 = (.pointer (some ⟨b1, 0, none⟩)) ∧ f 6 = (.int .i64 ((a : Nat) : Int)) ∧ f 7 = (.int .i64 0) ∧ f 8 = (.int .i64 ((b - a : Nat) : Int)) ∧ f 9 = (.int .i64 (((g.1 : Nat) : Int) - 1)) ∧ Hld w blk off g.2 ∧ Far blk w1 w) (fun (g : Nat × Array α) => g.1) ((b - a - 1) / 2 + 1, d) ⟨hs, (by (try dsimp only); omega), rfl, rfl, rfl, rfl, rfl, (congrArg (Value.int .i64) (by omega)), hH, Far.refl _ _⟩ ?_
  rintro ⟨k, dk⟩ f2 w2 ⟨hz2, hk1, hB, s2_3, s2_6, s2_7, s2_8, s2_9, hH, hS2⟩
  dsimp only at hz2 hk1 hB s2_3 s2_6 s2_7 s2_8 s2_9 hH hS2
  have hB1 := S2_hB1.farx hS2 ne1
  have hE := S2_hE.trans hS2
  have hF := S2_hF.trans hS2
  refine W.seq ?_
  refine W.seq ?_
  refine W.region (by rfl) ?_
  refine L.val rfl (op_move rfl s2_9) ?_
  refine L.val rfl (op_geq rfl rfl rfl) ?_
  refine L.nil ?_
  refine thenF_nor ?_
  refine W.cond (t := decide (0 ≤ (((k : Nat) : Int) - 1))) rfl (fun hc3 => ?_) (fun hc3 => ?_)
  · have hp3 := of_decide_eq_true hc3
    have hk0 := hc3
    simp only [decide_eq_true_eq] at hk0
    obtain ⟨k2, rfl⟩ : ∃ k2, k = k2 + 1 := ⟨k - 1, by omega⟩
    refine W.skip ?_
    refine thenF_nor ?_
    refine W.seq ?_
    refine W.block ?_
    refine W.region (by rfl) ?_
    refine L.val rfl (op_loadc (cs := [lv, sv]) rfl s2_3 ag106 si106 hB1.cells) ?_
    refine L.val rfl (op_move rfl (s2_9.trans (show _ = Value.int .i64 ((k2 : Nat) : Int) from congrArg (Value.int .i64) (by omega)))) ?_
    refine L.val rfl (op_move rfl s2_8) ?_
    refine L.val rfl (op_move rfl s2_6) ?_
    refine L.step rfl (OpS.call (op_call rfl (argsC rfl (argsC rfl (argsC rfl (argsC rfl argsN)))) Try.func129 rfl rfl) (siftDown_ok (lo := k2) (hi := b - a) (first := a) hL hS hF (Nat.lt_of_lt_of_le hblk hE.size) hn hz2 hH (by omega) (by omega))) ?_
    rintro _ w4 ⟨rfl, hH4, hsz4, hg4⟩
    have hE := hE.trans hg4
    have hF := hF.trans hg4
    have hS2 := hS2.trans hg4
    have hB1 := hB1.farx hg4 ne1
    have hH := hH4
    obtain ⟨D4, hD4⟩ : ∃ D, D = Sort.siftDown lt (b - a) a k2 dk := ⟨_, rfl⟩
    rw [← hD4] at hH
    have hz4 : D4.size = n := by rw [hD4]; exact hsz4
    refine L.nil ?_
    refine blockF_nor ?_
    refine thenF_nor ?_
    refine W.region (by rfl) ?_
    refine L.val rfl (op_move rfl (s2_9.trans (show _ = Value.int .i64 ((k2 : Nat) : Int) from congrArg (Value.int .i64) (by omega)))) ?_
    refine L.val rfl (op_sub rfl rfl rfl rfl (by omega)) ?_
    refine L.val rfl (op_assign rfl rfl) ?_
    refine L.nil ?_
    refine thenF_nor ?_
    exact ⟨(k2, D4), ⟨(hz4), (by dsimp only; omega), (by dsimp only; rw [← hB, hD4]; conv => rhs; rw [heapBuild]), s2_3, s2_6, s2_7, s2_8, rfl, hH, hS2⟩, (by dsimp only; omega)⟩
  · have hp3 := of_decide_eq_false hc3
    have hk0 := hc3
    simp only [decide_eq_false_iff_not] at hk0
    obtain rfl : k = 0 := by omega
    refine W.exit ?_
    refine thenF_exit ?_
    refine thenF_exit ?_
    refine blockF_hit ?_
    refine thenF_nor ?_
    refine W.seq ?_
    refine W.region (by rfl) ?_
    refine L.val rfl (op_move rfl s2_8) ?_
    refine L.val rfl (op_sub (c := (((b - a) - 1 : Nat) : Int)) rfl rfl rfl (by omega) (by omega)) ?_
    refine L.val rfl (op_assign rfl rfl) ?_
    refine L.nil ?_
    refine thenF_nor ?_
    refine W.block ?_
    have S5_hB1 := hB1
    have S5_hS2 := hS2
    have S5_hE := hE
    have S5_hF := hF
    refine W.loopg (γ := Nat × Array α) (fun (g : Nat × Array α) (f : Fr) (w : World) => g.2.size = n ∧ g.1 ≤ b - a ∧ heapPop lt a g.1 g.2 = heapPop lt a (b - a) (heapBuild lt (b - a) a ((b - a - 1) / 2 + 1) d) ∧ f 3 = (.pointer (some ⟨b1, 0, none⟩)) ∧ f 6 = (.int .i64 ((a : Nat) : Int)) ∧ f 7 = (.int .i64 0) ∧ f 10 = (.int .i64 (((g.1 : Nat) : Int) - 1)) ∧ Hld w blk off g.2 ∧ Far blk w2 w) (fun (g : Nat × Array α) => g.1) (b - a, dk) ⟨hz2, (by (try dsimp only); omega), (by rw [← hB, heapBuild]), s2_3, s2_6, s2_7, (congrArg (Value.int .i64) (by omega)), hH, Far.refl _ _⟩ ?_
    rintro ⟨m, dj⟩ f5 w5 ⟨hz5, hk2, hP, s5_3, s5_6, s5_7, s5_10, hH, hS5⟩
    dsimp only at hz5 hk2 hP s5_3 s5_6 s5_7 s5_10 hH hS5
    have hB1 := S5_hB1.farx hS5 ne1
    have hS2 := S5_hS2.trans hS5
    have hE := S5_hE.trans hS5
    have hF := S5_hF.trans hS5
    refine W.seq ?_
    refine W.seq ?_
    refine W.region (by rfl) ?_
    refine L.val rfl (op_move rfl s5_10) ?_
    refine L.val rfl (op_geq rfl rfl rfl) ?_
    refine L.nil ?_
    refine thenF_nor ?_
    refine W.cond (t := decide (0 ≤ (((m : Nat) : Int) - 1))) rfl (fun hc6 => ?_) (fun hc6 => ?_)
    · have hp6 := of_decide_eq_true hc6
      have hk0 := hc6
      simp only [decide_eq_true_eq] at hk0
      obtain ⟨k2, rfl⟩ : ∃ k2, m = k2 + 1 := ⟨m - 1, by omega⟩
      refine W.skip ?_
      refine thenF_nor ?_
      refine W.seq ?_
      refine W.block ?_
      refine W.seq ?_
      refine W.region (by rfl) ?_
      refine L.val rfl (op_field rfl s5_3 fo106_1 rfl) ?_
      refine L.val rfl (op_load1 rfl rfl one101 (hB1.cells.one (n := 1) rfl)) ?_
      refine L.val rfl (op_move rfl s5_6) ?_
      refine L.val rfl (op_move rfl s5_6) ?_
      refine L.val rfl (op_move rfl (s5_10.trans (show _ = Value.int .i64 ((k2 : Nat) : Int) from congrArg (Value.int .i64) (by omega)))) ?_
      refine L.val rfl (op_add (c := ((a + k2 : Nat) : Int)) rfl rfl rfl (by omega) (by omega)) ?_
      refine L.step rfl (op_swap (i := a) (j := a + k2) hS hz5 hH rfl rfl rfl rfl rfl rfl (by omega) (by omega)) ?_
      rintro _ w7 ⟨hH7, hg7⟩
      have hE := hE.trans hg7
      have hF := hF.trans hg7
      have hS2 := hS2.trans hg7
      have hS5 := hS5.trans hg7
      have hB1 := hB1.farx hg7 ne1
      have hH := hH7
      refine L.nil ?_
      refine thenF_nor ?_
      refine W.region (by rfl) ?_
      refine L.val rfl (op_loadc (cs := [lv, sv]) rfl s5_3 ag106 si106 hB1.cells) ?_
      refine L.val rfl (op_move rfl s5_7) ?_
      refine L.val rfl (op_move rfl (s5_10.trans (show _ = Value.int .i64 ((k2 : Nat) : Int) from congrArg (Value.int .i64) (by omega)))) ?_
      refine L.val rfl (op_move rfl s5_6) ?_
      refine L.step rfl (OpS.call (op_call rfl (argsC rfl (argsC rfl (argsC rfl (argsC rfl argsN)))) Try.func129 rfl rfl) (siftDown_ok (lo := 0) (hi := k2) (first := a) hL hS hF (Nat.lt_of_lt_of_le hblk hE.size) hn ((size_swp _ _ _).trans hz5) hH (by omega) (by omega))) ?_
      rintro _ w8 ⟨rfl, hH8, hsz8, hg8⟩
      have hE := hE.trans hg8
      have hF := hF.trans hg8
      have hS2 := hS2.trans hg8
      have hS5 := hS5.trans hg8
      have hB1 := hB1.farx hg8 ne1
      have hH := hH8
      obtain ⟨D8, hD8⟩ : ∃ D, D = Sort.siftDown lt k2 a 0 (swp dj a (a + k2)) := ⟨_, rfl⟩
      rw [← hD8] at hH
      have hz8 : D8.size = n := by rw [hD8]; exact hsz8
      refine L.nil ?_
      refine blockF_nor ?_
      refine thenF_nor ?_
      refine W.region (by rfl) ?_
      refine L.val rfl (op_move rfl (s5_10.trans (show _ = Value.int .i64 ((k2 : Nat) : Int) from congrArg (Value.int .i64) (by omega)))) ?_
      refine L.val rfl (op_sub rfl rfl rfl rfl (by omega)) ?_
      refine L.val rfl (op_assign rfl rfl) ?_
      refine L.nil ?_
      refine thenF_nor ?_
      exact ⟨(k2, D8), ⟨(hz8), (by dsimp only; omega), (by dsimp only; rw [← hP, hD8]; conv => rhs; rw [heapPop]), s5_3, s5_6, s5_7, rfl, hH, hS5⟩, (by dsimp only; omega)⟩
    · have hp6 := of_decide_eq_false hc6
      have hk0 := hc6
      simp only [decide_eq_false_iff_not] at hk0
      obtain rfl : m = 0 := by omega
      refine W.exit ?_
      refine thenF_exit ?_
      refine thenF_exit ?_
      refine blockF_hit ?_
      exact end_nor0 rfl ⟨rfl, by unfold Sort.heapSort; rw [← hP, heapPop]; exact hH, by unfold Sort.heapSort; rw [← hP, heapPop]; exact hz5, hE⟩

end Go.Proofs.Ytdknjfmjddlphaa
