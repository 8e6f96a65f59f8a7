/-
  Contracts of functions of sort.Slice for a comparison that may lay blocks, each with its walk. Printed by a program of this session (wip/gen) from the translation.
-/
import Derived.Test.YtdknjfmjddlphaaFS2
set_option linter.unusedSimpArgs false
set_option linter.unusedVariables false
namespace Go.Proofs.Ytdknjfmjddlphaa
open Go Go.Fk Go.Sort

set_option maxRecDepth 100000 in
theorem partialInsertionSort_ok {α : Type} [Enc α] [Inhabited α] {lt : α → α → Bool} {lv sv : Value} {blk off n : Nat} {w0 w : World} {d : Array α} {a b : Nat} (hL : LessOk Try.prog lt lv blk off n w0) (hS : SwapOk α Try.prog sv blk off n) (hF : Far blk w0 w) (hblk : blk < w.heap.size) (hn : n < 4611686018427387904) (hs : d.size = n) (hH : Hld w blk off d) (hab : a < b) (hb : b ≤ n) : Gives Try.prog 119 #[(.agg #[lv, sv]), (.int .i64 ((a : Nat) : Int)), (.int .i64 ((b : Nat) : Int))] w fun u w' => u = .bool (Sort.partialInsertionSort lt d a b).2 ∧ Hld w' blk off (Sort.partialInsertionSort lt d a b).1 ∧ (Sort.partialInsertionSort lt d a b).1.size = n ∧ Far blk w w' := by
  have hE : Far blk w w := Far.refl blk w
  refine gives_of_W Try.func119 rfl Try.ntmps119 rfl ?_
  refine W.seq ?_
  refine W.region (by rfl) ?_
  refine L.step rfl (op_box (cs := [lv, sv]) rfl rfl rfl) ?_
  rintro _ w1 ⟨b1, rfl, hb1, hB1, hx1⟩
  have ne1 : b1 ≠ blk := by have := hE.size; omega
  have hE := hE.trans (hx1.far blk)
  have hF := hF.trans (hx1.far blk)
  have hH := hH.ext hx1
  refine L.val rfl (op_assign rfl rfl) ?_
  refine L.nil ?_
  refine thenF_nor ?_
  refine W.seq ?_
  refine W.region (by rfl) ?_
  refine L.val rfl (op_move rfl rfl) ?_
  refine L.val rfl (op_add (c := ((a + 1 : Nat) : Int)) rfl rfl rfl (by omega) (by omega)) ?_
  refine L.val rfl (op_assign rfl rfl) ?_
  refine L.nil ?_
  refine thenF_nor ?_
  refine W.seq ?_
  refine W.seq ?_
  refine W.region (by rfl) ?_
  refine L.val rfl (op_assign rfl rfl) ?_
  refine L.nil ?_
  refine thenF_nor ?_
  refine W.block ?_
  have S2_hB1 := hB1
  have S2_hE := hE
  have S2_hF := hF
  refine W.loopg (γ := Nat × Nat × Array α) (fun (g : Nat × Nat × Array α) (f : Fr) (w : World) => g.2.2.size = n ∧ g.2.1 ≤ 5 ∧ a < g.1 ∧ g.1 ≤ b ∧ partialIns lt a b (5 - g.2.1) g.1 g.2.2 = partialIns lt a b 5 (a + 1) d ∧ f 1 = (.int .i64 ((a : Nat) : Int)) ∧ f 2 = (.int .i64 ((b : Nat) : Int)) ∧ f 3 = (.pointer (some ⟨b1, 0, none⟩)) ∧ f 7 = (.int .i64 ((g.1 : Nat) : Int)) ∧ f 8 = (.int .i64 ((g.2.1 : Nat) : Int)) ∧ Hld w blk off g.2.2 ∧ Far blk w1 w) (fun (g : Nat × Nat × Array α) => 5 - g.2.1) (a + 1, 0, d) ⟨hs, (by (try dsimp only); omega), (by (try dsimp only); omega), (by (try dsimp only); omega), rfl, rfl, rfl, rfl, rfl, rfl, hH, Far.refl _ _⟩ ?_
  rintro ⟨i, s, dk⟩ f2 w2 ⟨hz2, hs1, hi1, hi2, hO, s2_1, s2_2, s2_3, s2_7, s2_8, hH, hS2⟩
  dsimp only at hz2 hs1 hi1 hi2 hO s2_1 s2_2 s2_3 s2_7 s2_8 hH hS2
  have hB1 := S2_hB1.farx hS2 ne1
  have hE := S2_hE.trans hS2
  have hF := S2_hF.trans hS2
  refine W.seq ?_
  refine W.seq ?_
  refine W.region (by rfl) ?_
  refine L.val rfl (op_move rfl s2_8) ?_
  refine L.val rfl (op_lss rfl rfl rfl) ?_
  refine L.nil ?_
  refine thenF_nor ?_
  refine W.cond (t := decide (((s : Nat) : Int) < 5)) rfl (fun hc3 => ?_) (fun hc3 => ?_)
  · have hp3 := of_decide_eq_true hc3
    have hs5 : s < 5 := by have h := hc3; simp only [decide_eq_true_eq] at h; omega
    refine W.skip ?_
    refine thenF_nor ?_
    have S4_hB1 := hB1
    have S4_hS2 := hS2
    have S4_hE := hE
    have S4_hF := hF
    have hS4 : Far blk w2 w2 := Far.refl _ _
    refine W.cut (fun (f : Fr) (w : World) => ∃ (k3 : Nat), ∃ (d2 : Array α), d2.size = n ∧ a < k3 ∧ k3 ≤ b ∧ partialIns lt a b (5 - s) i dk = partialIns lt a b (5 - (s + 1)) k3 d2 ∧ f 1 = (.int .i64 ((a : Nat) : Int)) ∧ f 2 = (.int .i64 ((b : Nat) : Int)) ∧ f 3 = (.pointer (some ⟨b1, 0, none⟩)) ∧ f 8 = (.int .i64 ((s : Nat) : Int)) ∧ f 13 = (.int .i64 ((s : Nat) : Int)) ∧ f 14 = (.bool (decide (((s : Nat) : Int) < 5))) ∧ f 7 = (.int .i64 ((k3 : Nat) : Int)) ∧ Hld w blk off d2 ∧ Far blk w2 w) ?_ ?_
    · refine W.block ?_
      refine W.seq ?_
      refine W.block ?_
      have S5_hB1 := hB1
      have S5_hS2 := hS2
      have S5_hS4 := hS4
      have S5_hE := hE
      have S5_hF := hF
      refine W.loopg (γ := Nat) (fun (k : Nat) (f : Fr) (w : World) => dk.size = n ∧ i ≤ k ∧ k ≤ b ∧ scanSorted lt dk b k = scanSorted lt dk b i ∧ f 1 = (.int .i64 ((a : Nat) : Int)) ∧ f 2 = (.int .i64 ((b : Nat) : Int)) ∧ f 3 = (.pointer (some ⟨b1, 0, none⟩)) ∧ f 8 = (.int .i64 ((s : Nat) : Int)) ∧ f 13 = (.int .i64 ((s : Nat) : Int)) ∧ f 14 = (.bool (decide (((s : Nat) : Int) < 5))) ∧ f 7 = (.int .i64 ((k : Nat) : Int)) ∧ Hld w blk off dk ∧ Far blk w2 w) (fun (k : Nat) => b - k) i ⟨hz2, (by (try dsimp only); omega), (by (try dsimp only); omega), rfl, s2_1, s2_2, s2_3, s2_8, rfl, rfl, s2_7, hH, Far.refl _ _⟩ ?_
      rintro k f5 w5 ⟨hz5, hk1, hk2, hSc, s5_1, s5_2, s5_3, s5_8, s5_13, s5_14, s5_7, hH, hS5⟩
      have hB1 := S5_hB1.farx hS5 ne1
      have hS2 := S5_hS2.trans hS5
      have hS4 := S5_hS4.trans hS5
      have hE := S5_hE.trans hS5
      have hF := S5_hF.trans hS5
      refine W.seq ?_
      refine W.seq ?_
      refine W.region (by rfl) ?_
      refine L.val rfl (op_move rfl s5_7) ?_
      refine L.val rfl (op_move rfl s5_2) ?_
      refine L.val rfl (op_lss rfl rfl rfl) ?_
      refine L.val rfl (op_move rfl rfl) ?_
      refine L.guardv (v := (.pointer (some ⟨b1, 0, none⟩))) (wanted_yes rfl rfl rfl) (fun hg => (op_field rfl s5_3 fo106_0 rfl)) ?_
      refine L.guardv (v := lv) (wanted_yes rfl rfl rfl) (fun hg => (op_load1 rfl ((show _ = vif _ (.pointer (some ⟨b1, 0, none⟩)) from rfl).trans (vif_t hg).symm) one74 (hB1.cells.one (n := 0) rfl))) ?_
      refine L.guardv (v := (.int .i64 ((k : Nat) : Int))) (wanted_yes rfl rfl rfl) (fun hg => (op_move rfl s5_7)) ?_
      refine L.guardv (v := (.int .i64 ((k : Nat) : Int))) (wanted_yes rfl rfl rfl) (fun hg => (op_move rfl s5_7)) ?_
      refine L.guardv (v := (.int .i64 ((k - 1 : Nat) : Int))) (wanted_yes rfl rfl rfl) (fun hg => by have hp := hg; simp only [Bool.and_eq_true, Bool.not_eq_true', decide_eq_true_eq, decide_eq_false_iff_not] at hp; exact (op_sub (c := ((k - 1 : Nat) : Int)) rfl ((show _ = vif _ (.int .i64 ((k : Nat) : Int)) from rfl).trans (vif_t hg).symm) rfl (by omega) (by omega))) ?_
      refine L.guardc (v := (.bool (lt dk[k]! dk[k - 1]!))) (wanted_yes rfl rfl rfl) (fun hg => by have hp := hg; simp only [Bool.and_eq_true, Bool.not_eq_true', decide_eq_true_eq, decide_eq_false_iff_not] at hp; exact (op_less (i := k) (j := k - 1) hL hF hz5 hH rfl ((show _ = vif _ lv from rfl).trans (vif_t hg).symm) ((show _ = vif _ (.int .i64 ((k : Nat) : Int)) from rfl).trans (vif_t hg).symm) ((show _ = vif _ (.int .i64 ((k - 1 : Nat) : Int)) from rfl).trans (vif_t hg).symm) rfl rfl (by omega) (by omega))) ?_
      intro w6 hx6
      have hE := hE.trans (hx6.far blk)
      have hF := hF.trans (hx6.far blk)
      have hS2 := hS2.trans (hx6.far blk)
      have hS4 := hS4.trans (hx6.far blk)
      have hS5 := hS5.trans (hx6.far blk)
      have hB1 := hB1.ext hx6
      have hH := hH.ext hx6
      refine L.guardv (v := (.bool (!(lt dk[k]! dk[k - 1]!)))) (wanted_yes rfl rfl rfl) (fun hg => (op_not rfl ((show _ = vif _ (.bool (lt dk[k]! dk[k - 1]!)) from rfl).trans (vif_t hg).symm))) ?_
      refine L.val rfl (op_and rfl rfl rfl rfl) ?_
      refine L.nil ?_
      refine thenF_nor ?_
      refine W.cond (t := (decide (((k : Nat) : Int) < ((b : Nat) : Int))) && (!(lt dk[k]! dk[k - 1]!))) rfl (fun hc7 => ?_) (fun hc7 => ?_)
      · have hp7 := hc7
        simp only [Bool.and_eq_true, Bool.not_eq_true', decide_eq_true_eq] at hp7
        obtain ⟨hp7, hq7⟩ := hp7
        have hsh := hc7
        simp only [Bool.and_eq_true, decide_eq_true_eq, Bool.not_eq_true'] at hsh
        obtain ⟨hsh1, hsh2⟩ := hsh
        have hsh1 : k < b := by omega
        refine W.skip ?_
        refine thenF_nor ?_
        refine W.block ?_
        refine W.region (by rfl) ?_
        refine L.val rfl (op_move rfl s5_7) ?_
        refine L.val rfl (op_add (c := ((k + 1 : Nat) : Int)) rfl rfl rfl (by omega) (by omega)) ?_
        refine L.val rfl (op_assign rfl rfl) ?_
        refine L.nil ?_
        refine blockF_nor ?_
        refine thenF_nor ?_
        exact ⟨k + 1, ⟨hz5, (by (try dsimp only); omega), (by (try dsimp only); omega), (by rw [← hSc, scanSorted_go lt dk b k hsh1 hsh2]), s5_1, s5_2, s5_3, s5_8, s5_13, s5_14, rfl, hH, hS5⟩, (by (try dsimp only); omega)⟩
      · have hp7 := hc7
        have hK : scanSorted lt dk b i = k := by
          rw [← hSc]
          refine scanSorted_stop lt dk b k ?_
          have h := hc7
          simp only [Bool.and_eq_false_iff, decide_eq_false_iff_not, Bool.not_eq_false'] at h
          rcases h with h | h
          · exact Or.inl (by omega)
          · exact Or.inr h
        refine W.exit ?_
        refine thenF_exit ?_
        refine thenF_exit ?_
        refine blockF_hit ?_
        refine thenF_nor ?_
        refine W.seq ?_
        refine W.seq ?_
        refine W.region (by rfl) ?_
        refine L.val rfl (op_move rfl s5_7) ?_
        refine L.val rfl (op_move rfl s5_2) ?_
        refine L.val rfl (op_eql rfl rfl rfl) ?_
        refine L.nil ?_
        refine thenF_nor ?_
        refine W.cond (t := decide (((k : Nat) : Int) = ((b : Nat) : Int))) rfl (fun hc8 => ?_) (fun hc8 => ?_)
        · have hp8 := of_decide_eq_true hc8
          have hkb : k = b := by have h := hc8; simp only [decide_eq_true_eq] at h; omega
          have hres : Sort.partialInsertionSort lt d a b = (dk, true) := by unfold Sort.partialInsertionSort; rw [← hO]; exact pi_true lt a b s i dk hs5 (hK.trans hkb)
          refine W.seq ?_
          refine W.region (by rfl) ?_
          refine L.val rfl (op_assign rfl rfl) ?_
          refine L.nil ?_
          refine thenF_nor ?_
          refine W.ret ?_
          refine thenF_ret ?_
          refine blockF_ret ?_
          refine thenF_ret ?_
          refine thenF_ret ?_
          refine blockF_ret ?_
          refine thenF_ret ?_
          exact end_ret1 (v := (.bool true)) rfl rfl ⟨by rw [hres], by rw [hres]; exact hH, by rw [hres]; exact hz5, hE⟩
        · have hp8 := of_decide_eq_false hc8
          have hkb : k ≠ b := by have h := hc8; simp only [decide_eq_false_iff_not] at h; omega
          refine W.skip ?_
          refine thenF_nor ?_
          refine W.seq ?_
          refine W.seq ?_
          refine W.region (by rfl) ?_
          refine L.val rfl (op_move rfl s5_2) ?_
          refine L.val rfl (op_move rfl s5_1) ?_
          refine L.val rfl (op_sub (c := ((b - a : Nat) : Int)) rfl rfl rfl (by omega) (by omega)) ?_
          refine L.val rfl (op_lss rfl rfl rfl) ?_
          refine L.nil ?_
          refine thenF_nor ?_
          refine W.cond (t := decide (((b - a : Nat) : Int) < 50)) rfl (fun hc9 => ?_) (fun hc9 => ?_)
          · have hp9 := of_decide_eq_true hc9
            have h50 : b - a < 50 := by have h := hc9; simp only [decide_eq_true_eq] at h; omega
            have hres : Sort.partialInsertionSort lt d a b = (dk, false) := by unfold Sort.partialInsertionSort; rw [← hO]; exact pi_short lt a b s i dk hs5 (by rw [hK]; exact hkb) h50
            refine W.seq ?_
            refine W.region (by rfl) ?_
            refine L.val rfl (op_assign rfl rfl) ?_
            refine L.nil ?_
            refine thenF_nor ?_
            refine W.ret ?_
            refine thenF_ret ?_
            refine blockF_ret ?_
            refine thenF_ret ?_
            refine thenF_ret ?_
            refine blockF_ret ?_
            refine thenF_ret ?_
            exact end_ret1 (v := (.bool false)) rfl rfl ⟨by rw [hres], by rw [hres]; exact hH, by rw [hres]; exact hz5, hE⟩
          · have hp9 := of_decide_eq_false hc9
            have h50 : ¬ b - a < 50 := by have h := hc9; simp only [decide_eq_false_iff_not] at h; omega
            refine W.skip ?_
            refine thenF_nor ?_
            refine W.seq ?_
            refine W.region (by rfl) ?_
            refine L.val rfl (op_field rfl s5_3 fo106_1 rfl) ?_
            refine L.val rfl (op_load1 rfl rfl one101 (hB1.cells.one (n := 1) rfl)) ?_
            refine L.val rfl (op_move rfl s5_7) ?_
            refine L.val rfl (op_move rfl s5_7) ?_
            refine L.val rfl (op_sub (c := ((k - 1 : Nat) : Int)) rfl rfl rfl (by omega) (by omega)) ?_
            refine L.step rfl (op_swap (i := k) (j := k - 1) hS hz5 hH rfl rfl rfl rfl rfl rfl (by omega) (by omega)) ?_
            rintro _ w10 ⟨hH10, hg10⟩
            have hE := hE.trans hg10
            have hF := hF.trans hg10
            have hS2 := hS2.trans hg10
            have hS4 := hS4.trans hg10
            have hS5 := hS5.trans hg10
            have hB1 := hB1.farx hg10 ne1
            have hH := hH10
            refine L.nil ?_
            refine thenF_nor ?_
            have S11_hB1 := hB1
            have S11_hS2 := hS2
            have S11_hS4 := hS4
            have S11_hS5 := hS5
            have S11_hE := hE
            have S11_hF := hF
            have hS11 : Far blk w10 w10 := Far.refl _ _
            refine W.cut (fun (f : Fr) (w : World) => ∃ (d1 : Array α), d1.size = n ∧ d1 = fixDown lt a k (swp dk k (k - 1)) ∧ f 1 = (.int .i64 ((a : Nat) : Int)) ∧ f 2 = (.int .i64 ((b : Nat) : Int)) ∧ f 3 = (.pointer (some ⟨b1, 0, none⟩)) ∧ f 7 = (.int .i64 ((k : Nat) : Int)) ∧ f 8 = (.int .i64 ((s : Nat) : Int)) ∧ f 13 = (.int .i64 ((s : Nat) : Int)) ∧ f 14 = (.bool (decide (((s : Nat) : Int) < 5))) ∧ f 17 = (.int .i64 ((k : Nat) : Int)) ∧ f 18 = (.int .i64 ((b : Nat) : Int)) ∧ f 19 = (.bool (decide (((k : Nat) : Int) < ((b : Nat) : Int)))) ∧ f 20 = (.bool (decide (((k : Nat) : Int) < ((b : Nat) : Int)))) ∧ f 21 = (vif (decide (((k : Nat) : Int) < ((b : Nat) : Int))) (.pointer (some ⟨b1, 0, none⟩))) ∧ f 22 = (vif (decide (((k : Nat) : Int) < ((b : Nat) : Int))) lv) ∧ f 23 = (vif (decide (((k : Nat) : Int) < ((b : Nat) : Int))) (.int .i64 ((k : Nat) : Int))) ∧ f 24 = (vif (decide (((k : Nat) : Int) < ((b : Nat) : Int))) (.int .i64 ((k : Nat) : Int))) ∧ f 25 = (vif (decide (((k : Nat) : Int) < ((b : Nat) : Int))) (.int .i64 ((k - 1 : Nat) : Int))) ∧ f 26 = (vif (decide (((k : Nat) : Int) < ((b : Nat) : Int))) (.bool (lt dk[k]! dk[k - 1]!))) ∧ f 27 = (vif (decide (((k : Nat) : Int) < ((b : Nat) : Int))) (.bool (!(lt dk[k]! dk[k - 1]!)))) ∧ f 28 = (.bool ((decide (((k : Nat) : Int) < ((b : Nat) : Int))) && (!(lt dk[k]! dk[k - 1]!)))) ∧ f 31 = (.int .i64 ((k : Nat) : Int)) ∧ f 32 = (.int .i64 ((b : Nat) : Int)) ∧ f 33 = (.bool (decide (((k : Nat) : Int) = ((b : Nat) : Int)))) ∧ f 34 = (.int .i64 ((b : Nat) : Int)) ∧ f 35 = (.int .i64 ((a : Nat) : Int)) ∧ f 36 = (.int .i64 ((b - a : Nat) : Int)) ∧ f 37 = (.bool (decide (((b - a : Nat) : Int) < 50))) ∧ f 38 = (.pointer (some ⟨b1, 1, none⟩)) ∧ f 39 = sv ∧ f 40 = (.int .i64 ((k : Nat) : Int)) ∧ f 41 = (.int .i64 ((k : Nat) : Int)) ∧ f 42 = (.int .i64 ((k - 1 : Nat) : Int)) ∧ Hld w blk off d1 ∧ Far blk w10 w) ?_ ?_
            · refine W.seq ?_
              refine W.region (by rfl) ?_
              refine L.val rfl (op_move rfl s5_7) ?_
              refine L.val rfl (op_move rfl s5_1) ?_
              refine L.val rfl (op_sub (c := ((k - a : Nat) : Int)) rfl rfl rfl (by omega) (by omega)) ?_
              refine L.val rfl (op_geq rfl rfl rfl) ?_
              refine L.nil ?_
              refine thenF_nor ?_
              refine W.cond (t := decide (2 ≤ ((k - a : Nat) : Int))) rfl (fun hc12 => ?_) (fun hc12 => ?_)
              · have hp12 := of_decide_eq_true hc12
                have hfd : fixDown lt a k (swp dk k (k - 1)) = shiftDown lt (k - 1) (swp dk k (k - 1)) := by unfold fixDown; rw [if_pos]; have h := hc12; simp only [decide_eq_true_eq] at h; omega
                refine W.seq ?_
                refine W.region (by rfl) ?_
                refine L.val rfl (op_move rfl s5_7) ?_
                refine L.val rfl (op_sub (c := ((k - 1 : Nat) : Int)) rfl rfl rfl (by omega) (by omega)) ?_
                refine L.val rfl (op_assign rfl rfl) ?_
                refine L.nil ?_
                refine thenF_nor ?_
                refine W.block ?_
                have S13_hB1 := hB1
                have S13_hS2 := hS2
                have S13_hS4 := hS4
                have S13_hS5 := hS5
                have S13_hS11 := hS11
                have S13_hE := hE
                have S13_hF := hF
                refine W.loopg (γ := Nat × Array α) (fun (g : Nat × Array α) (f : Fr) (w : World) => g.2.size = n ∧ g.1 < k ∧ shiftDown lt g.1 g.2 = shiftDown lt (k - 1) (swp dk k (k - 1)) ∧ f 1 = (.int .i64 ((a : Nat) : Int)) ∧ f 2 = (.int .i64 ((b : Nat) : Int)) ∧ f 3 = (.pointer (some ⟨b1, 0, none⟩)) ∧ f 7 = (.int .i64 ((k : Nat) : Int)) ∧ f 8 = (.int .i64 ((s : Nat) : Int)) ∧ f 13 = (.int .i64 ((s : Nat) : Int)) ∧ f 14 = (.bool (decide (((s : Nat) : Int) < 5))) ∧ f 17 = (.int .i64 ((k : Nat) : Int)) ∧ f 18 = (.int .i64 ((b : Nat) : Int)) ∧ f 19 = (.bool (decide (((k : Nat) : Int) < ((b : Nat) : Int)))) ∧ f 20 = (.bool (decide (((k : Nat) : Int) < ((b : Nat) : Int)))) ∧ f 21 = (vif (decide (((k : Nat) : Int) < ((b : Nat) : Int))) (.pointer (some ⟨b1, 0, none⟩))) ∧ f 22 = (vif (decide (((k : Nat) : Int) < ((b : Nat) : Int))) lv) ∧ f 23 = (vif (decide (((k : Nat) : Int) < ((b : Nat) : Int))) (.int .i64 ((k : Nat) : Int))) ∧ f 24 = (vif (decide (((k : Nat) : Int) < ((b : Nat) : Int))) (.int .i64 ((k : Nat) : Int))) ∧ f 25 = (vif (decide (((k : Nat) : Int) < ((b : Nat) : Int))) (.int .i64 ((k - 1 : Nat) : Int))) ∧ f 26 = (vif (decide (((k : Nat) : Int) < ((b : Nat) : Int))) (.bool (lt dk[k]! dk[k - 1]!))) ∧ f 27 = (vif (decide (((k : Nat) : Int) < ((b : Nat) : Int))) (.bool (!(lt dk[k]! dk[k - 1]!)))) ∧ f 28 = (.bool ((decide (((k : Nat) : Int) < ((b : Nat) : Int))) && (!(lt dk[k]! dk[k - 1]!)))) ∧ f 31 = (.int .i64 ((k : Nat) : Int)) ∧ f 32 = (.int .i64 ((b : Nat) : Int)) ∧ f 33 = (.bool (decide (((k : Nat) : Int) = ((b : Nat) : Int)))) ∧ f 34 = (.int .i64 ((b : Nat) : Int)) ∧ f 35 = (.int .i64 ((a : Nat) : Int)) ∧ f 36 = (.int .i64 ((b - a : Nat) : Int)) ∧ f 37 = (.bool (decide (((b - a : Nat) : Int) < 50))) ∧ f 38 = (.pointer (some ⟨b1, 1, none⟩)) ∧ f 39 = sv ∧ f 40 = (.int .i64 ((k : Nat) : Int)) ∧ f 41 = (.int .i64 ((k : Nat) : Int)) ∧ f 42 = (.int .i64 ((k - 1 : Nat) : Int)) ∧ f 44 = (.int .i64 ((k : Nat) : Int)) ∧ f 45 = (.int .i64 ((a : Nat) : Int)) ∧ f 46 = (.int .i64 ((k - a : Nat) : Int)) ∧ f 47 = (.bool (decide (2 ≤ ((k - a : Nat) : Int)))) ∧ f 48 = (.int .i64 ((k : Nat) : Int)) ∧ f 49 = (.int .i64 ((k - 1 : Nat) : Int)) ∧ f 9 = (.int .i64 ((g.1 : Nat) : Int)) ∧ Hld w blk off g.2 ∧ Far blk w10 w) (fun (g : Nat × Array α) => g.1) (k - 1, (swp dk k (k - 1))) ⟨((size_swp _ _ _).trans hz5), (by (try dsimp only); omega), rfl, s5_1, s5_2, s5_3, s5_7, s5_8, s5_13, s5_14, rfl, rfl, rfl, rfl, rfl, rfl, rfl, rfl, rfl, rfl, rfl, rfl, rfl, rfl, rfl, rfl, rfl, rfl, rfl, rfl, rfl, rfl, rfl, rfl, rfl, rfl, rfl, rfl, rfl, rfl, rfl, hH, Far.refl _ _⟩ ?_
                rintro ⟨j, dj⟩ f13 w13 ⟨hz13, hjk, hDn, s13_1, s13_2, s13_3, s13_7, s13_8, s13_13, s13_14, s13_17, s13_18, s13_19, s13_20, s13_21, s13_22, s13_23, s13_24, s13_25, s13_26, s13_27, s13_28, s13_31, s13_32, s13_33, s13_34, s13_35, s13_36, s13_37, s13_38, s13_39, s13_40, s13_41, s13_42, s13_44, s13_45, s13_46, s13_47, s13_48, s13_49, s13_9, hH, hS13⟩
                dsimp only at hz13 hjk hDn s13_1 s13_2 s13_3 s13_7 s13_8 s13_13 s13_14 s13_17 s13_18 s13_19 s13_20 s13_21 s13_22 s13_23 s13_24 s13_25 s13_26 s13_27 s13_28 s13_31 s13_32 s13_33 s13_34 s13_35 s13_36 s13_37 s13_38 s13_39 s13_40 s13_41 s13_42 s13_44 s13_45 s13_46 s13_47 s13_48 s13_49 s13_9 hH hS13
                have hB1 := S13_hB1.farx hS13 ne1
                have hS2 := S13_hS2.trans hS13
                have hS4 := S13_hS4.trans hS13
                have hS5 := S13_hS5.trans hS13
                have hS11 := S13_hS11.trans hS13
                have hE := S13_hE.trans hS13
                have hF := S13_hF.trans hS13
                refine W.seq ?_
                refine W.seq ?_
                refine W.region (by rfl) ?_
                refine L.val rfl (op_move rfl s13_9) ?_
                refine L.val rfl (op_geq rfl rfl rfl) ?_
                refine L.nil ?_
                refine thenF_nor ?_
                refine W.cond (t := decide (1 ≤ ((j : Nat) : Int))) rfl (fun hc14 => ?_) (fun hc14 => ?_)
                · have hp14 := of_decide_eq_true hc14
                  have hj1 : 1 ≤ j := by have h := hc14; simp only [decide_eq_true_eq] at h; omega
                  refine W.skip ?_
                  refine thenF_nor ?_
                  refine W.seq ?_
                  refine W.block ?_
                  refine W.seq ?_
                  refine W.seq ?_
                  refine W.region (by rfl) ?_
                  refine L.val rfl (op_field rfl s13_3 fo106_0 rfl) ?_
                  refine L.val rfl (op_load1 rfl rfl one74 (hB1.cells.one (n := 0) rfl)) ?_
                  refine L.val rfl (op_move rfl s13_9) ?_
                  refine L.val rfl (op_move rfl s13_9) ?_
                  refine L.val rfl (op_sub (c := ((j - 1 : Nat) : Int)) rfl rfl rfl (by omega) (by omega)) ?_
                  refine L.call (v := (.bool (lt dj[j]! dj[j - 1]!))) rfl (op_less (i := j) (j := j - 1) hL hF hz13 hH rfl rfl rfl rfl rfl rfl (by omega) (by omega)) ?_
                  intro w15 hx15
                  have hE := hE.trans (hx15.far blk)
                  have hF := hF.trans (hx15.far blk)
                  have hS2 := hS2.trans (hx15.far blk)
                  have hS4 := hS4.trans (hx15.far blk)
                  have hS5 := hS5.trans (hx15.far blk)
                  have hS11 := hS11.trans (hx15.far blk)
                  have hS13 := hS13.trans (hx15.far blk)
                  have hB1 := hB1.ext hx15
                  have hH := hH.ext hx15
                  refine L.val rfl (op_not rfl rfl) ?_
                  refine L.nil ?_
                  refine thenF_nor ?_
                  refine W.cond (t := !(lt dj[j]! dj[j - 1]!)) rfl (fun hc16 => ?_) (fun hc16 => ?_)
                  · have hp16 := hc16
                    have hdn : fixDown lt a k (swp dk k (k - 1)) = dj := by rw [hfd, ← hDn, shiftDown_stop lt j dj (Or.inr (by have h := hc16; simpa only [Bool.not_eq_true'] using h))]
                    refine W.exit ?_
                    refine thenF_exit ?_
                    refine blockF_miss rfl ?_
                    refine thenF_exit ?_
                    refine thenF_exit ?_
                    refine blockF_hit ?_
                    refine thenF_nor ?_
                    exact ⟨dj, hz13, hdn.symm, s13_1, s13_2, s13_3, s13_7, s13_8, s13_13, s13_14, s13_17, s13_18, s13_19, s13_20, s13_21, s13_22, s13_23, s13_24, s13_25, s13_26, s13_27, s13_28, s13_31, s13_32, s13_33, s13_34, s13_35, s13_36, s13_37, s13_38, s13_39, s13_40, s13_41, s13_42, hH, hS11⟩
                  · have hp16 := hc16
                    have hjl := hc16
                    simp only [Bool.not_eq_false'] at hjl
                    refine W.skip ?_
                    refine thenF_nor ?_
                    refine W.region (by rfl) ?_
                    refine L.val rfl (op_field rfl s13_3 fo106_1 rfl) ?_
                    refine L.val rfl (op_load1 rfl rfl one101 (hB1.cells.one (n := 1) rfl)) ?_
                    refine L.val rfl (op_move rfl s13_9) ?_
                    refine L.val rfl (op_move rfl s13_9) ?_
                    refine L.val rfl (op_sub (c := ((j - 1 : Nat) : Int)) rfl rfl rfl (by omega) (by omega)) ?_
                    refine L.step rfl (op_swap (i := j) (j := j - 1) hS hz13 hH rfl rfl rfl rfl rfl rfl (by omega) (by omega)) ?_
                    rintro _ w17 ⟨hH17, hg17⟩
                    have hE := hE.trans hg17
                    have hF := hF.trans hg17
                    have hS2 := hS2.trans hg17
                    have hS4 := hS4.trans hg17
                    have hS5 := hS5.trans hg17
                    have hS11 := hS11.trans hg17
                    have hS13 := hS13.trans hg17
                    have hB1 := hB1.farx hg17 ne1
                    have hH := hH17
                    refine L.nil ?_
                    refine blockF_nor ?_
                    refine thenF_nor ?_
                    refine W.region (by rfl) ?_
                    refine L.val rfl (op_move rfl s13_9) ?_
                    refine L.val rfl (op_sub (c := ((j - 1 : Nat) : Int)) rfl rfl rfl (by omega) (by omega)) ?_
                    refine L.val rfl (op_assign rfl rfl) ?_
                    refine L.nil ?_
                    refine thenF_nor ?_
                    exact ⟨(j - 1, (swp dj j (j - 1))), ⟨((size_swp _ _ _).trans hz13), (by (try dsimp only); omega), (by dsimp only; rw [← hDn, shiftDown_go lt j dj hj1 hjl]), s13_1, s13_2, s13_3, s13_7, s13_8, s13_13, s13_14, s13_17, s13_18, s13_19, s13_20, s13_21, s13_22, s13_23, s13_24, s13_25, s13_26, s13_27, s13_28, s13_31, s13_32, s13_33, s13_34, s13_35, s13_36, s13_37, s13_38, s13_39, s13_40, s13_41, s13_42, s13_44, s13_45, s13_46, s13_47, s13_48, s13_49, rfl, hH, hS13⟩, (by (try dsimp only); omega)⟩
                · have hp14 := of_decide_eq_false hc14
                  have hdn : fixDown lt a k (swp dk k (k - 1)) = dj := by rw [hfd, ← hDn, shiftDown_stop lt j dj (Or.inl (by have h := hc14; simp only [decide_eq_false_iff_not] at h; omega))]
                  refine W.exit ?_
                  refine thenF_exit ?_
                  refine thenF_exit ?_
                  refine blockF_hit ?_
                  refine thenF_nor ?_
                  exact ⟨dj, hz13, hdn.symm, s13_1, s13_2, s13_3, s13_7, s13_8, s13_13, s13_14, s13_17, s13_18, s13_19, s13_20, s13_21, s13_22, s13_23, s13_24, s13_25, s13_26, s13_27, s13_28, s13_31, s13_32, s13_33, s13_34, s13_35, s13_36, s13_37, s13_38, s13_39, s13_40, s13_41, s13_42, hH, hS11⟩
              · have hp12 := of_decide_eq_false hc12
                have hdn : fixDown lt a k (swp dk k (k - 1)) = (swp dk k (k - 1)) := by unfold fixDown; rw [if_neg]; have h := hc12; simp only [decide_eq_false_iff_not] at h; omega
                refine W.skip ?_
                refine thenF_nor ?_
                exact ⟨(swp dk k (k - 1)), ((size_swp _ _ _).trans hz5), hdn.symm, s5_1, s5_2, s5_3, s5_7, s5_8, s5_13, s5_14, rfl, rfl, rfl, rfl, rfl, rfl, rfl, rfl, rfl, rfl, rfl, rfl, rfl, rfl, rfl, rfl, rfl, rfl, rfl, rfl, rfl, rfl, rfl, rfl, hH, hS11⟩
            · rintro f11 w11 ⟨d1, hz11, hd1, s11_1, s11_2, s11_3, s11_7, s11_8, s11_13, s11_14, s11_17, s11_18, s11_19, s11_20, s11_21, s11_22, s11_23, s11_24, s11_25, s11_26, s11_27, s11_28, s11_31, s11_32, s11_33, s11_34, s11_35, s11_36, s11_37, s11_38, s11_39, s11_40, s11_41, s11_42, hH, hS11⟩
              have hB1 := S11_hB1.farx hS11 ne1
              have hS2 := S11_hS2.trans hS11
              have hS4 := S11_hS4.trans hS11
              have hS5 := S11_hS5.trans hS11
              have hE := S11_hE.trans hS11
              have hF := S11_hF.trans hS11
              refine W.seq ?_
              refine W.region (by rfl) ?_
              refine L.val rfl (op_move rfl s11_2) ?_
              refine L.val rfl (op_move rfl s11_7) ?_
              refine L.val rfl (op_sub (c := ((b - k : Nat) : Int)) rfl rfl rfl (by omega) (by omega)) ?_
              refine L.val rfl (op_geq rfl rfl rfl) ?_
              refine L.nil ?_
              refine thenF_nor ?_
              refine W.cond (t := decide (2 ≤ ((b - k : Nat) : Int))) rfl (fun hc18 => ?_) (fun hc18 => ?_)
              · have hp18 := of_decide_eq_true hc18
                have hfu : fixUp lt b k d1 = shiftUp lt b (k + 1) d1 := by unfold fixUp; rw [if_pos]; have h := hc18; simp only [decide_eq_true_eq] at h; omega
                refine W.seq ?_
                refine W.region (by rfl) ?_
                refine L.val rfl (op_move rfl s11_7) ?_
                refine L.val rfl (op_add (c := ((k + 1 : Nat) : Int)) rfl rfl rfl (by omega) (by omega)) ?_
                refine L.val rfl (op_assign rfl rfl) ?_
                refine L.nil ?_
                refine thenF_nor ?_
                refine W.block ?_
                have S19_hB1 := hB1
                have S19_hS2 := hS2
                have S19_hS4 := hS4
                have S19_hS5 := hS5
                have S19_hE := hE
                have S19_hF := hF
                refine W.loopg (γ := Nat × Array α) (fun (g : Nat × Array α) (f : Fr) (w : World) => g.2.size = n ∧ k < g.1 ∧ g.1 ≤ b ∧ shiftUp lt b g.1 g.2 = shiftUp lt b (k + 1) d1 ∧ f 1 = (.int .i64 ((a : Nat) : Int)) ∧ f 2 = (.int .i64 ((b : Nat) : Int)) ∧ f 3 = (.pointer (some ⟨b1, 0, none⟩)) ∧ f 7 = (.int .i64 ((k : Nat) : Int)) ∧ f 8 = (.int .i64 ((s : Nat) : Int)) ∧ f 13 = (.int .i64 ((s : Nat) : Int)) ∧ f 14 = (.bool (decide (((s : Nat) : Int) < 5))) ∧ f 17 = (.int .i64 ((k : Nat) : Int)) ∧ f 18 = (.int .i64 ((b : Nat) : Int)) ∧ f 19 = (.bool (decide (((k : Nat) : Int) < ((b : Nat) : Int)))) ∧ f 20 = (.bool (decide (((k : Nat) : Int) < ((b : Nat) : Int)))) ∧ f 21 = (vif (decide (((k : Nat) : Int) < ((b : Nat) : Int))) (.pointer (some ⟨b1, 0, none⟩))) ∧ f 22 = (vif (decide (((k : Nat) : Int) < ((b : Nat) : Int))) lv) ∧ f 23 = (vif (decide (((k : Nat) : Int) < ((b : Nat) : Int))) (.int .i64 ((k : Nat) : Int))) ∧ f 24 = (vif (decide (((k : Nat) : Int) < ((b : Nat) : Int))) (.int .i64 ((k : Nat) : Int))) ∧ f 25 = (vif (decide (((k : Nat) : Int) < ((b : Nat) : Int))) (.int .i64 ((k - 1 : Nat) : Int))) ∧ f 26 = (vif (decide (((k : Nat) : Int) < ((b : Nat) : Int))) (.bool (lt dk[k]! dk[k - 1]!))) ∧ f 27 = (vif (decide (((k : Nat) : Int) < ((b : Nat) : Int))) (.bool (!(lt dk[k]! dk[k - 1]!)))) ∧ f 28 = (.bool ((decide (((k : Nat) : Int) < ((b : Nat) : Int))) && (!(lt dk[k]! dk[k - 1]!)))) ∧ f 31 = (.int .i64 ((k : Nat) : Int)) ∧ f 32 = (.int .i64 ((b : Nat) : Int)) ∧ f 33 = (.bool (decide (((k : Nat) : Int) = ((b : Nat) : Int)))) ∧ f 34 = (.int .i64 ((b : Nat) : Int)) ∧ f 35 = (.int .i64 ((a : Nat) : Int)) ∧ f 36 = (.int .i64 ((b - a : Nat) : Int)) ∧ f 37 = (.bool (decide (((b - a : Nat) : Int) < 50))) ∧ f 38 = (.pointer (some ⟨b1, 1, none⟩)) ∧ f 39 = sv ∧ f 40 = (.int .i64 ((k : Nat) : Int)) ∧ f 41 = (.int .i64 ((k : Nat) : Int)) ∧ f 42 = (.int .i64 ((k - 1 : Nat) : Int)) ∧ f 67 = (.int .i64 ((b : Nat) : Int)) ∧ f 68 = (.int .i64 ((k : Nat) : Int)) ∧ f 69 = (.int .i64 ((b - k : Nat) : Int)) ∧ f 70 = (.bool (decide (2 ≤ ((b - k : Nat) : Int)))) ∧ f 71 = (.int .i64 ((k : Nat) : Int)) ∧ f 72 = (.int .i64 ((k + 1 : Nat) : Int)) ∧ f 10 = (.int .i64 ((g.1 : Nat) : Int)) ∧ Hld w blk off g.2 ∧ Far blk w11 w) (fun (g : Nat × Array α) => b - g.1) (k + 1, d1) ⟨hz11, (by (try dsimp only); omega), (by (try dsimp only); omega), rfl, s11_1, s11_2, s11_3, s11_7, s11_8, s11_13, s11_14, s11_17, s11_18, s11_19, s11_20, s11_21, s11_22, s11_23, s11_24, s11_25, s11_26, s11_27, s11_28, s11_31, s11_32, s11_33, s11_34, s11_35, s11_36, s11_37, s11_38, s11_39, s11_40, s11_41, s11_42, rfl, rfl, rfl, rfl, rfl, rfl, rfl, hH, Far.refl _ _⟩ ?_
                rintro ⟨j, dj⟩ f19 w19 ⟨hz19, hjk, hjb, hUp, s19_1, s19_2, s19_3, s19_7, s19_8, s19_13, s19_14, s19_17, s19_18, s19_19, s19_20, s19_21, s19_22, s19_23, s19_24, s19_25, s19_26, s19_27, s19_28, s19_31, s19_32, s19_33, s19_34, s19_35, s19_36, s19_37, s19_38, s19_39, s19_40, s19_41, s19_42, s19_67, s19_68, s19_69, s19_70, s19_71, s19_72, s19_10, hH, hS19⟩
                dsimp only at hz19 hjk hjb hUp s19_1 s19_2 s19_3 s19_7 s19_8 s19_13 s19_14 s19_17 s19_18 s19_19 s19_20 s19_21 s19_22 s19_23 s19_24 s19_25 s19_26 s19_27 s19_28 s19_31 s19_32 s19_33 s19_34 s19_35 s19_36 s19_37 s19_38 s19_39 s19_40 s19_41 s19_42 s19_67 s19_68 s19_69 s19_70 s19_71 s19_72 s19_10 hH hS19
                have hB1 := S19_hB1.farx hS19 ne1
                have hS2 := S19_hS2.trans hS19
                have hS4 := S19_hS4.trans hS19
                have hS5 := S19_hS5.trans hS19
                have hE := S19_hE.trans hS19
                have hF := S19_hF.trans hS19
                refine W.seq ?_
                refine W.seq ?_
                refine W.region (by rfl) ?_
                refine L.val rfl (op_move rfl s19_10) ?_
                refine L.val rfl (op_move rfl s19_2) ?_
                refine L.val rfl (op_lss rfl rfl rfl) ?_
                refine L.nil ?_
                refine thenF_nor ?_
                refine W.cond (t := decide (((j : Nat) : Int) < ((b : Nat) : Int))) rfl (fun hc20 => ?_) (fun hc20 => ?_)
                · have hp20 := of_decide_eq_true hc20
                  have hj1 : j < b := by have h := hc20; simp only [decide_eq_true_eq] at h; omega
                  refine W.skip ?_
                  refine thenF_nor ?_
                  refine W.seq ?_
                  refine W.block ?_
                  refine W.seq ?_
                  refine W.seq ?_
                  refine W.region (by rfl) ?_
                  refine L.val rfl (op_field rfl s19_3 fo106_0 rfl) ?_
                  refine L.val rfl (op_load1 rfl rfl one74 (hB1.cells.one (n := 0) rfl)) ?_
                  refine L.val rfl (op_move rfl s19_10) ?_
                  refine L.val rfl (op_move rfl s19_10) ?_
                  refine L.val rfl (op_sub (c := ((j - 1 : Nat) : Int)) rfl rfl rfl (by omega) (by omega)) ?_
                  refine L.call (v := (.bool (lt dj[j]! dj[j - 1]!))) rfl (op_less (i := j) (j := j - 1) hL hF hz19 hH rfl rfl rfl rfl rfl rfl (by omega) (by omega)) ?_
                  intro w21 hx21
                  have hE := hE.trans (hx21.far blk)
                  have hF := hF.trans (hx21.far blk)
                  have hS2 := hS2.trans (hx21.far blk)
                  have hS4 := hS4.trans (hx21.far blk)
                  have hS5 := hS5.trans (hx21.far blk)
                  have hS19 := hS19.trans (hx21.far blk)
                  have hB1 := hB1.ext hx21
                  have hH := hH.ext hx21
                  refine L.val rfl (op_not rfl rfl) ?_
                  refine L.nil ?_
                  refine thenF_nor ?_
                  refine W.cond (t := !(lt dj[j]! dj[j - 1]!)) rfl (fun hc22 => ?_) (fun hc22 => ?_)
                  · have hp22 := hc22
                    have hup : fixUp lt b k d1 = dj := by rw [hfu, ← hUp, shiftUp_stop lt b j dj (Or.inr (by have h := hc22; simpa only [Bool.not_eq_true'] using h))]
                    refine W.exit ?_
                    refine thenF_exit ?_
                    refine blockF_miss rfl ?_
                    refine thenF_exit ?_
                    refine thenF_exit ?_
                    refine blockF_hit ?_
                    refine blockF_nor ?_
                    refine thenF_nor ?_
                    exact ⟨k, dj, hz19, (by (try dsimp only); omega), (by (try dsimp only); omega), (by rw [pi_go lt a b s i k dk hs5 hK hkb h50, ← hd1, hup]), s19_1, s19_2, s19_3, s19_8, s19_13, s19_14, s19_7, hH, hS4⟩
                  · have hp22 := hc22
                    have hjl := hc22
                    simp only [Bool.not_eq_false'] at hjl
                    refine W.skip ?_
                    refine thenF_nor ?_
                    refine W.region (by rfl) ?_
                    refine L.val rfl (op_field rfl s19_3 fo106_1 rfl) ?_
                    refine L.val rfl (op_load1 rfl rfl one101 (hB1.cells.one (n := 1) rfl)) ?_
                    refine L.val rfl (op_move rfl s19_10) ?_
                    refine L.val rfl (op_move rfl s19_10) ?_
                    refine L.val rfl (op_sub (c := ((j - 1 : Nat) : Int)) rfl rfl rfl (by omega) (by omega)) ?_
                    refine L.step rfl (op_swap (i := j) (j := j - 1) hS hz19 hH rfl rfl rfl rfl rfl rfl (by omega) (by omega)) ?_
                    rintro _ w23 ⟨hH23, hg23⟩
                    have hE := hE.trans hg23
                    have hF := hF.trans hg23
                    have hS2 := hS2.trans hg23
                    have hS4 := hS4.trans hg23
                    have hS5 := hS5.trans hg23
                    have hS19 := hS19.trans hg23
                    have hB1 := hB1.farx hg23 ne1
                    have hH := hH23
                    refine L.nil ?_
                    refine blockF_nor ?_
                    refine thenF_nor ?_
                    refine W.region (by rfl) ?_
                    refine L.val rfl (op_move rfl s19_10) ?_
                    refine L.val rfl (op_add (c := ((j + 1 : Nat) : Int)) rfl rfl rfl (by omega) (by omega)) ?_
                    refine L.val rfl (op_assign rfl rfl) ?_
                    refine L.nil ?_
                    refine thenF_nor ?_
                    exact ⟨(j + 1, (swp dj j (j - 1))), ⟨((size_swp _ _ _).trans hz19), (by (try dsimp only); omega), (by (try dsimp only); omega), (by dsimp only; rw [← hUp, shiftUp_go lt b j dj hj1 hjl]), s19_1, s19_2, s19_3, s19_7, s19_8, s19_13, s19_14, s19_17, s19_18, s19_19, s19_20, s19_21, s19_22, s19_23, s19_24, s19_25, s19_26, s19_27, s19_28, s19_31, s19_32, s19_33, s19_34, s19_35, s19_36, s19_37, s19_38, s19_39, s19_40, s19_41, s19_42, s19_67, s19_68, s19_69, s19_70, s19_71, s19_72, rfl, hH, hS19⟩, (by (try dsimp only); omega)⟩
                · have hp20 := of_decide_eq_false hc20
                  have hup : fixUp lt b k d1 = dj := by rw [hfu, ← hUp, shiftUp_stop lt b j dj (Or.inl (by have h := hc20; simp only [decide_eq_false_iff_not] at h; omega))]
                  refine W.exit ?_
                  refine thenF_exit ?_
                  refine thenF_exit ?_
                  refine blockF_hit ?_
                  refine blockF_nor ?_
                  refine thenF_nor ?_
                  exact ⟨k, dj, hz19, (by (try dsimp only); omega), (by (try dsimp only); omega), (by rw [pi_go lt a b s i k dk hs5 hK hkb h50, ← hd1, hup]), s19_1, s19_2, s19_3, s19_8, s19_13, s19_14, s19_7, hH, hS4⟩
              · have hp18 := of_decide_eq_false hc18
                have hup : fixUp lt b k d1 = d1 := by unfold fixUp; rw [if_neg]; have h := hc18; simp only [decide_eq_false_iff_not] at h; omega
                refine W.skip ?_
                refine blockF_nor ?_
                refine thenF_nor ?_
                exact ⟨k, d1, hz11, (by (try dsimp only); omega), (by (try dsimp only); omega), (by rw [pi_go lt a b s i k dk hs5 hK hkb h50, ← hd1, hup]), s11_1, s11_2, s11_3, s11_8, s11_13, s11_14, s11_7, hH, hS4⟩
    · rintro f4 w4 ⟨k3, d2, hz4, hk31, hk32, hstep, s4_1, s4_2, s4_3, s4_8, s4_13, s4_14, s4_7, hH, hS4⟩
      have hB1 := S4_hB1.farx hS4 ne1
      have hS2 := S4_hS2.trans hS4
      have hE := S4_hE.trans hS4
      have hF := S4_hF.trans hS4
      refine W.region (by rfl) ?_
      refine L.val rfl (op_move rfl s4_8) ?_
      refine L.val rfl (op_add (c := ((s + 1 : Nat) : Int)) rfl rfl rfl (by omega) (by omega)) ?_
      refine L.val rfl (op_assign rfl rfl) ?_
      refine L.nil ?_
      refine thenF_nor ?_
      exact ⟨(k3, s + 1, d2), ⟨hz4, (by (try dsimp only); omega), (by (try dsimp only); omega), (by (try dsimp only); omega), (by dsimp only; rw [← hO, hstep]), s4_1, s4_2, s4_3, s4_7, rfl, hH, hS2⟩, (by (try dsimp only); omega)⟩
  · have hp3 := of_decide_eq_false hc3
    have hs5 : s = 5 := by have h := hc3; simp only [decide_eq_false_iff_not] at h; omega
    have hres : Sort.partialInsertionSort lt d a b = (dk, false) := by unfold Sort.partialInsertionSort; rw [← hO, hs5]; exact pi_end lt a b i dk
    refine W.exit ?_
    refine thenF_exit ?_
    refine thenF_exit ?_
    refine blockF_hit ?_
    refine thenF_nor ?_
    refine W.seq ?_
    refine W.region (by rfl) ?_
    refine L.val rfl (op_assign rfl rfl) ?_
    refine L.nil ?_
    refine thenF_nor ?_
    refine W.ret ?_
    exact end_ret1 (v := (.bool false)) rfl rfl ⟨by rw [hres], by rw [hres]; exact hH, by rw [hres]; exact hz2, hE⟩

end Go.Proofs.Ytdknjfmjddlphaa
