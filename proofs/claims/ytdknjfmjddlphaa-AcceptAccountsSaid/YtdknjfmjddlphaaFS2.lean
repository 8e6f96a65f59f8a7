/-
  Contracts of functions of sort.Slice for a comparison that may lay blocks, each with its walk. Printed by a program of this session (wip/gen) from the translation.
-/
import Derived.Test.YtdknjfmjddlphaaFS1
set_option linter.unusedSimpArgs false
set_option linter.unusedVariables false
namespace Go.Proofs.Ytdknjfmjddlphaa
open Go Go.Fk Go.Sort

set_option maxRecDepth 100000 in
theorem partitionEqual_ok {α : Type} [Enc α] [Inhabited α] {lt : α → α → Bool} {lv sv : Value} {blk off n : Nat} {w0 w : World} {d : Array α} {a b pivot : Nat} (hL : LessOk Try.prog lt lv blk off n w0) (hS : SwapOk α Try.prog sv blk off n) (hF : Far blk w0 w) (hblk : blk < w.heap.size) (hn : n < 4611686018427387904) (hs : d.size = n) (hH : Hld w blk off d) (hp1 : a ≤ pivot) (hp2 : pivot < b) (hb : b ≤ n) : Gives Try.prog 120 #[(.agg #[lv, sv]), (.int .i64 ((a : Nat) : Int)), (.int .i64 ((b : Nat) : Int)), (.int .i64 ((pivot : Nat) : Int))] w fun u w' => u = .int .i64 (((Sort.partitionEqual lt d a b pivot).1 : Nat) : Int) ∧ Hld w' blk off (Sort.partitionEqual lt d a b pivot).2 ∧ (Sort.partitionEqual lt d a b pivot).2.size = n ∧ Far blk w w' := by
  have hE : Far blk w w := Far.refl blk w
  refine gives_of_W Try.func120 rfl Try.ntmps120 rfl ?_
  refine W.seq ?_
  refine W.region (by rfl) ?_
  refine L.step rfl (op_box (cs := [lv, sv]) rfl rfl rfl) ?_
  rintro _ w1 ⟨b1, rfl, hb1, hB1, hx1⟩
  have ne1 : b1 ≠ blk := by have := hE.size; omega
  have hE := hE.trans (hx1.far blk)
  have hF := hF.trans (hx1.far blk)
  have hH := hH.ext hx1
  refine L.val rfl (op_assign rfl rfl) ?_
  refine L.nil ?_
  refine thenF_nor ?_
  refine W.seq ?_
  refine W.region (by rfl) ?_
  refine L.val rfl (op_field rfl rfl fo106_1 rfl) ?_
  refine L.val rfl (op_load1 rfl rfl one101 (hB1.cells.one (n := 1) rfl)) ?_
  refine L.val rfl (op_move rfl rfl) ?_
  refine L.val rfl (op_move rfl rfl) ?_
  refine L.step rfl (op_swap (i := a) (j := pivot) hS hs hH rfl rfl rfl rfl rfl rfl (by omega) (by omega)) ?_
  rintro _ w2 ⟨hH2, hg2⟩
  have hE := hE.trans hg2
  have hF := hF.trans hg2
  have hB1 := hB1.farx hg2 ne1
  have hH := hH2
  refine L.nil ?_
  refine thenF_nor ?_
  refine W.seq ?_
  refine W.region (by rfl) ?_
  refine L.val rfl (op_move rfl rfl) ?_
  refine L.val rfl (op_add (c := ((a + 1 : Nat) : Int)) rfl rfl rfl (by omega) (by omega)) ?_
  refine L.val rfl (op_move rfl rfl) ?_
  refine L.val rfl (op_sub (c := ((b - 1 : Nat) : Int)) rfl rfl rfl (by omega) (by omega)) ?_
  refine L.val rfl (op_assign rfl rfl) ?_
  refine L.val rfl (op_assign rfl rfl) ?_
  refine L.nil ?_
  refine thenF_nor ?_
  refine W.seq ?_
  refine W.block ?_
  have S3_hB1 := hB1
  have S3_hE := hE
  have S3_hF := hF
  refine W.loopg (γ := Nat × Nat × Array α) (fun (g : Nat × Nat × Array α) (f : Fr) (w : World) => g.2.2.size = n ∧ a < g.1 ∧ g.1 ≤ g.2.1 + 1 ∧ g.2.1 < b ∧ partEqLoop lt a g.1 g.2.1 g.2.2 = partEqLoop lt a (a + 1) (b - 1) (swp d a pivot) ∧ f 1 = (.int .i64 ((a : Nat) : Int)) ∧ f 4 = (.pointer (some ⟨b1, 0, none⟩)) ∧ f 8 = (.int .i64 0) ∧ f 9 = (.int .i64 ((g.1 : Nat) : Int)) ∧ f 10 = (.int .i64 ((g.2.1 : Nat) : Int)) ∧ Hld w blk off g.2.2 ∧ Far blk w2 w) (fun (g : Nat × Nat × Array α) => g.2.1 + 1 - g.1) (a + 1, b - 1, (swp d a pivot)) ⟨((size_swp _ _ _).trans hs), (by (try dsimp only); omega), (by (try dsimp only); omega), (by (try dsimp only); omega), rfl, rfl, rfl, rfl, rfl, rfl, hH, Far.refl _ _⟩ ?_
  rintro ⟨i, j, dk⟩ f3 w3 ⟨hz3, hi1, hij, hjb, heq, s3_1, s3_4, s3_8, s3_9, s3_10, hH, hS3⟩
  dsimp only at hz3 hi1 hij hjb heq s3_1 s3_4 s3_8 s3_9 s3_10 hH hS3
  have hB1 := S3_hB1.farx hS3 ne1
  have hE := S3_hE.trans hS3
  have hF := S3_hF.trans hS3
  refine W.block ?_
  refine W.seq ?_
  refine W.block ?_
  have S4_hB1 := hB1
  have S4_hS3 := hS3
  have S4_hE := hE
  have S4_hF := hF
  refine W.loopg (γ := Nat) (fun (i2 : Nat) (f : Fr) (w : World) => dk.size = n ∧ i ≤ i2 ∧ i2 ≤ j + 1 ∧ scanUp (fun x => !lt dk[a]! x) dk j i2 = scanUp (fun x => !lt dk[a]! x) dk j i ∧ f 1 = (.int .i64 ((a : Nat) : Int)) ∧ f 4 = (.pointer (some ⟨b1, 0, none⟩)) ∧ f 8 = (.int .i64 0) ∧ f 10 = (.int .i64 ((j : Nat) : Int)) ∧ f 9 = (.int .i64 ((i2 : Nat) : Int)) ∧ Hld w blk off dk ∧ Far blk w3 w) (fun (i2 : Nat) => j + 1 - i2) i ⟨hz3, (by (try dsimp only); omega), (by (try dsimp only); omega), rfl, s3_1, s3_4, s3_8, s3_10, s3_9, hH, Far.refl _ _⟩ ?_
  rintro i2 f4 w4 ⟨hz4, hUa, hUb, hU, s4_1, s4_4, s4_8, s4_10, s4_9, hH, hS4⟩
  have hB1 := S4_hB1.farx hS4 ne1
  have hS3 := S4_hS3.trans hS4
  have hE := S4_hE.trans hS4
  have hF := S4_hF.trans hS4
  refine W.seq ?_
  refine W.seq ?_
  refine W.region (by rfl) ?_
  refine L.val rfl (op_move rfl s4_9) ?_
  refine L.val rfl (op_move rfl s4_10) ?_
  refine L.val rfl (op_leq rfl rfl rfl) ?_
  refine L.val rfl (op_move rfl rfl) ?_
  refine L.guardv (v := (.pointer (some ⟨b1, 0, none⟩))) (wanted_yes rfl rfl rfl) (fun hg => (op_field rfl s4_4 fo106_0 rfl)) ?_
  refine L.guardv (v := lv) (wanted_yes rfl rfl rfl) (fun hg => (op_load1 rfl ((show _ = vif _ (.pointer (some ⟨b1, 0, none⟩)) from rfl).trans (vif_t hg).symm) one74 (hB1.cells.one (n := 0) rfl))) ?_
  refine L.guardv (v := (.int .i64 ((a : Nat) : Int))) (wanted_yes rfl rfl rfl) (fun hg => (op_move rfl s4_1)) ?_
  refine L.guardv (v := (.int .i64 ((i2 : Nat) : Int))) (wanted_yes rfl rfl rfl) (fun hg => (op_move rfl s4_9)) ?_
  refine L.guardc (v := (.bool (lt dk[a]! dk[i2]!))) (wanted_yes rfl rfl rfl) (fun hg => by have hp := hg; simp only [Bool.and_eq_true, Bool.not_eq_true', decide_eq_true_eq, decide_eq_false_iff_not] at hp; exact (op_less (i := a) (j := i2) hL hF hz4 hH rfl ((show _ = vif _ lv from rfl).trans (vif_t hg).symm) ((show _ = vif _ (.int .i64 ((a : Nat) : Int)) from rfl).trans (vif_t hg).symm) ((show _ = vif _ (.int .i64 ((i2 : Nat) : Int)) from rfl).trans (vif_t hg).symm) rfl rfl (by omega) (by omega))) ?_
  intro w5 hx5
  have hE := hE.trans (hx5.far blk)
  have hF := hF.trans (hx5.far blk)
  have hS3 := hS3.trans (hx5.far blk)
  have hS4 := hS4.trans (hx5.far blk)
  have hB1 := hB1.ext hx5
  have hH := hH.ext hx5
  refine L.guardv (v := (.bool (!(lt dk[a]! dk[i2]!)))) (wanted_yes rfl rfl rfl) (fun hg => (op_not rfl ((show _ = vif _ (.bool (lt dk[a]! dk[i2]!)) from rfl).trans (vif_t hg).symm))) ?_
  refine L.val rfl (op_and rfl rfl rfl rfl) ?_
  refine L.nil ?_
  refine thenF_nor ?_
  refine W.cond (t := (decide (((i2 : Nat) : Int) ≤ ((j : Nat) : Int))) && (!(lt dk[a]! dk[i2]!))) rfl (fun hc6 => ?_) (fun hc6 => ?_)
  · have hp6 := hc6
    simp only [Bool.and_eq_true, Bool.not_eq_true', decide_eq_true_eq] at hp6
    obtain ⟨hp6, hq6⟩ := hp6
    have hUh := hc6
    simp only [Bool.and_eq_true, decide_eq_true_eq] at hUh
    obtain ⟨hUh1, hUh2⟩ := hUh
    have hUh1 : i2 ≤ j := by omega
    refine W.skip ?_
    refine thenF_nor ?_
    refine W.block ?_
    refine W.region (by rfl) ?_
    refine L.val rfl (op_move rfl s4_9) ?_
    refine L.val rfl (op_add (c := ((i2 + 1 : Nat) : Int)) rfl rfl rfl (by omega) (by omega)) ?_
    refine L.val rfl (op_assign rfl rfl) ?_
    refine L.nil ?_
    refine blockF_nor ?_
    refine thenF_nor ?_
    exact ⟨i2 + 1, ⟨hz4, (by (try dsimp only); omega), (by (try dsimp only); omega), (by rw [← hU, scanUp_go _ _ _ _ hUh1 hUh2]), s4_1, s4_4, s4_8, s4_10, rfl, hH, hS4⟩, (by (try dsimp only); omega)⟩
  · have hp6 := hc6
    have hi2 : i2 = scanUp (fun x => !lt dk[a]! x) dk j i := by
      rw [← hU]
      refine (scanUp_end _ _ _ _ ?_).symm
      have h := hc6
      simp only [Bool.and_eq_false_iff, decide_eq_false_iff_not] at h
      rcases h with h | h
      · exact Or.inl (by omega)
      · exact Or.inr h
    refine W.exit ?_
    refine thenF_exit ?_
    refine thenF_exit ?_
    refine blockF_hit ?_
    refine thenF_nor ?_
    refine W.seq ?_
    refine W.block ?_
    have S7_hB1 := hB1
    have S7_hS3 := hS3
    have S7_hS4 := hS4
    have S7_hE := hE
    have S7_hF := hF
    refine W.loopg (γ := Nat) (fun (j2 : Nat) (f : Fr) (w : World) => dk.size = n ∧ j2 ≤ j ∧ i2 ≤ j2 + 1 ∧ scanDown (fun x => lt dk[a]! x) dk i2 j2 = scanDown (fun x => lt dk[a]! x) dk i2 j ∧ f 1 = (.int .i64 ((a : Nat) : Int)) ∧ f 4 = (.pointer (some ⟨b1, 0, none⟩)) ∧ f 8 = (.int .i64 0) ∧ f 9 = (.int .i64 ((i2 : Nat) : Int)) ∧ f 20 = (.int .i64 ((i2 : Nat) : Int)) ∧ f 21 = (.int .i64 ((j : Nat) : Int)) ∧ f 22 = (.bool (decide (((i2 : Nat) : Int) ≤ ((j : Nat) : Int)))) ∧ f 23 = (.bool (decide (((i2 : Nat) : Int) ≤ ((j : Nat) : Int)))) ∧ f 24 = (vif (decide (((i2 : Nat) : Int) ≤ ((j : Nat) : Int))) (.pointer (some ⟨b1, 0, none⟩))) ∧ f 25 = (vif (decide (((i2 : Nat) : Int) ≤ ((j : Nat) : Int))) lv) ∧ f 26 = (vif (decide (((i2 : Nat) : Int) ≤ ((j : Nat) : Int))) (.int .i64 ((a : Nat) : Int))) ∧ f 27 = (vif (decide (((i2 : Nat) : Int) ≤ ((j : Nat) : Int))) (.int .i64 ((i2 : Nat) : Int))) ∧ f 28 = (vif (decide (((i2 : Nat) : Int) ≤ ((j : Nat) : Int))) (.bool (lt dk[a]! dk[i2]!))) ∧ f 29 = (vif (decide (((i2 : Nat) : Int) ≤ ((j : Nat) : Int))) (.bool (!(lt dk[a]! dk[i2]!)))) ∧ f 30 = (.bool ((decide (((i2 : Nat) : Int) ≤ ((j : Nat) : Int))) && (!(lt dk[a]! dk[i2]!)))) ∧ f 10 = (.int .i64 ((j2 : Nat) : Int)) ∧ Hld w blk off dk ∧ Far blk w5 w) (fun (j2 : Nat) => j2) j ⟨hz4, (by (try dsimp only); omega), (by (try dsimp only); omega), rfl, s4_1, s4_4, s4_8, s4_9, rfl, rfl, rfl, rfl, rfl, rfl, rfl, rfl, rfl, rfl, rfl, s4_10, hH, Far.refl _ _⟩ ?_
    rintro j2 f7 w7 ⟨hz7, hDa, hDb, hD, s7_1, s7_4, s7_8, s7_9, s7_20, s7_21, s7_22, s7_23, s7_24, s7_25, s7_26, s7_27, s7_28, s7_29, s7_30, s7_10, hH, hS7⟩
    have hB1 := S7_hB1.farx hS7 ne1
    have hS3 := S7_hS3.trans hS7
    have hS4 := S7_hS4.trans hS7
    have hE := S7_hE.trans hS7
    have hF := S7_hF.trans hS7
    refine W.seq ?_
    refine W.seq ?_
    refine W.region (by rfl) ?_
    refine L.val rfl (op_move rfl s7_9) ?_
    refine L.val rfl (op_move rfl s7_10) ?_
    refine L.val rfl (op_leq rfl rfl rfl) ?_
    refine L.val rfl (op_move rfl rfl) ?_
    refine L.guardv (v := (.pointer (some ⟨b1, 0, none⟩))) (wanted_yes rfl rfl rfl) (fun hg => (op_field rfl s7_4 fo106_0 rfl)) ?_
    refine L.guardv (v := lv) (wanted_yes rfl rfl rfl) (fun hg => (op_load1 rfl ((show _ = vif _ (.pointer (some ⟨b1, 0, none⟩)) from rfl).trans (vif_t hg).symm) one74 (hB1.cells.one (n := 0) rfl))) ?_
    refine L.guardv (v := (.int .i64 ((a : Nat) : Int))) (wanted_yes rfl rfl rfl) (fun hg => (op_move rfl s7_1)) ?_
    refine L.guardv (v := (.int .i64 ((j2 : Nat) : Int))) (wanted_yes rfl rfl rfl) (fun hg => (op_move rfl s7_10)) ?_
    refine L.guardc (v := (.bool (lt dk[a]! dk[j2]!))) (wanted_yes rfl rfl rfl) (fun hg => by have hp := hg; simp only [Bool.and_eq_true, Bool.not_eq_true', decide_eq_true_eq, decide_eq_false_iff_not] at hp; exact (op_less (i := a) (j := j2) hL hF hz7 hH rfl ((show _ = vif _ lv from rfl).trans (vif_t hg).symm) ((show _ = vif _ (.int .i64 ((a : Nat) : Int)) from rfl).trans (vif_t hg).symm) ((show _ = vif _ (.int .i64 ((j2 : Nat) : Int)) from rfl).trans (vif_t hg).symm) rfl rfl (by omega) (by omega))) ?_
    intro w8 hx8
    have hE := hE.trans (hx8.far blk)
    have hF := hF.trans (hx8.far blk)
    have hS3 := hS3.trans (hx8.far blk)
    have hS4 := hS4.trans (hx8.far blk)
    have hS7 := hS7.trans (hx8.far blk)
    have hB1 := hB1.ext hx8
    have hH := hH.ext hx8
    refine L.val rfl (op_and rfl rfl rfl rfl) ?_
    refine L.nil ?_
    refine thenF_nor ?_
    refine W.cond (t := (decide (((i2 : Nat) : Int) ≤ ((j2 : Nat) : Int))) && (lt dk[a]! dk[j2]!)) rfl (fun hc9 => ?_) (fun hc9 => ?_)
    · have hp9 := hc9
      simp only [Bool.and_eq_true, Bool.not_eq_true', decide_eq_true_eq] at hp9
      obtain ⟨hp9, hq9⟩ := hp9
      have hDh := hc9
      simp only [Bool.and_eq_true, decide_eq_true_eq] at hDh
      obtain ⟨hDh1, hDh2⟩ := hDh
      have hDh1 : i2 ≤ j2 := by omega
      refine W.skip ?_
      refine thenF_nor ?_
      refine W.block ?_
      refine W.region (by rfl) ?_
      refine L.val rfl (op_move rfl s7_10) ?_
      refine L.val rfl (op_sub (c := ((j2 - 1 : Nat) : Int)) rfl rfl rfl (by omega) (by omega)) ?_
      refine L.val rfl (op_assign rfl rfl) ?_
      refine L.nil ?_
      refine blockF_nor ?_
      refine thenF_nor ?_
      exact ⟨j2 - 1, ⟨hz7, (by (try dsimp only); omega), (by (try dsimp only); omega), (by rw [← hD, scanDown_go _ _ _ _ hDh1 (by omega) hDh2]), s7_1, s7_4, s7_8, s7_9, s7_20, s7_21, s7_22, s7_23, s7_24, s7_25, s7_26, s7_27, s7_28, s7_29, s7_30, rfl, hH, hS7⟩, (by (try dsimp only); omega)⟩
    · have hp9 := hc9
      have hj2 : j2 = scanDown (fun x => lt dk[a]! x) dk i2 j := by
        rw [← hD]
        refine (scanDown_end _ _ _ _ ?_).symm
        have h := hc9
        simp only [Bool.and_eq_false_iff, decide_eq_false_iff_not] at h
        rcases h with h | h
        · exact Or.inl (by omega)
        · exact Or.inr h
      refine W.exit ?_
      refine thenF_exit ?_
      refine thenF_exit ?_
      refine blockF_hit ?_
      refine thenF_nor ?_
      refine W.seq ?_
      refine W.seq ?_
      refine W.region (by rfl) ?_
      refine L.val rfl (op_move rfl s7_9) ?_
      refine L.val rfl (op_move rfl s7_10) ?_
      refine L.val rfl (op_gtr rfl rfl rfl) ?_
      refine L.nil ?_
      refine thenF_nor ?_
      refine W.cond (t := decide (((j2 : Nat) : Int) < ((i2 : Nat) : Int))) rfl (fun hc10 => ?_) (fun hc10 => ?_)
      · have hp10 := of_decide_eq_true hc10
        have hbr : j2 < i2 := by have h := hc10; simp only [decide_eq_true_eq] at h; omega
        have hres : Sort.partitionEqual lt d a b pivot = (i2, dk) := by unfold Sort.partitionEqual; rw [← heq, partEq_break lt a i j dk hi2 hj2 hbr]
        refine W.exit ?_
        refine thenF_exit ?_
        refine blockF_miss rfl ?_
        refine thenF_exit ?_
        refine blockF_hit ?_
        refine thenF_nor ?_
        refine W.seq ?_
        refine W.region (by rfl) ?_
        refine L.val rfl (op_move rfl s7_9) ?_
        refine L.val rfl (op_assign rfl rfl) ?_
        refine L.nil ?_
        refine thenF_nor ?_
        refine W.ret ?_
        exact end_ret1 (v := (.int .i64 ((i2 : Nat) : Int))) rfl rfl ⟨by rw [hres], by rw [hres]; exact hH, by rw [hres]; exact hz7, hE⟩
      · have hp10 := of_decide_eq_false hc10
        have hbr : i2 ≤ j2 := by have h := hc10; simp only [decide_eq_false_iff_not] at h; omega
        have hlt2 : i2 < j2 := scans_lt lt a i j dk (by omega) hi2 hj2 hbr
        have hgo := partEq_go lt a i j dk hi2 hj2 (by omega)
        refine W.skip ?_
        refine thenF_nor ?_
        refine W.seq ?_
        refine W.region (by rfl) ?_
        refine L.val rfl (op_field rfl s7_4 fo106_1 rfl) ?_
        refine L.val rfl (op_load1 rfl rfl one101 (hB1.cells.one (n := 1) rfl)) ?_
        refine L.val rfl (op_move rfl s7_9) ?_
        refine L.val rfl (op_move rfl s7_10) ?_
        refine L.step rfl (op_swap (i := i2) (j := j2) hS hz7 hH rfl rfl rfl rfl rfl rfl (by omega) (by omega)) ?_
        rintro _ w11 ⟨hH11, hg11⟩
        have hE := hE.trans hg11
        have hF := hF.trans hg11
        have hS3 := hS3.trans hg11
        have hS4 := hS4.trans hg11
        have hS7 := hS7.trans hg11
        have hB1 := hB1.farx hg11 ne1
        have hH := hH11
        refine L.nil ?_
        refine thenF_nor ?_
        refine W.seq ?_
        refine W.region (by rfl) ?_
        refine L.val rfl (op_move rfl s7_9) ?_
        refine L.val rfl (op_add (c := ((i2 + 1 : Nat) : Int)) rfl rfl rfl (by omega) (by omega)) ?_
        refine L.val rfl (op_assign rfl rfl) ?_
        refine L.nil ?_
        refine thenF_nor ?_
        refine W.region (by rfl) ?_
        refine L.val rfl (op_move rfl s7_10) ?_
        refine L.val rfl (op_sub (c := ((j2 - 1 : Nat) : Int)) rfl rfl rfl (by omega) (by omega)) ?_
        refine L.val rfl (op_assign rfl rfl) ?_
        refine L.nil ?_
        refine blockF_nor ?_
        refine thenF_nor ?_
        exact ⟨(i2 + 1, j2 - 1, (swp dk i2 j2)), ⟨((size_swp _ _ _).trans hz7), (by dsimp only; omega), (by dsimp only; omega), (by dsimp only; omega), (by dsimp only; rw [← heq, hgo]), s7_1, s7_4, s7_8, rfl, rfl, hH, hS3⟩, (by dsimp only; omega)⟩

set_option maxRecDepth 100000 in
theorem partition_ok {α : Type} [Enc α] [Inhabited α] {lt : α → α → Bool} {lv sv : Value} {blk off n : Nat} {w0 w : World} {d : Array α} {a b pivot : Nat} (hL : LessOk Try.prog lt lv blk off n w0) (hS : SwapOk α Try.prog sv blk off n) (hF : Far blk w0 w) (hblk : blk < w.heap.size) (hn : n < 4611686018427387904) (hs : d.size = n) (hH : Hld w blk off d) (hp1 : a ≤ pivot) (hp2 : pivot < b) (hb : b ≤ n) : Gives Try.prog 121 #[(.agg #[lv, sv]), (.int .i64 ((a : Nat) : Int)), (.int .i64 ((b : Nat) : Int)), (.int .i64 ((pivot : Nat) : Int))] w fun u w' => u = .tuple #[.int .i64 (((Sort.partition lt d a b pivot).1 : Nat) : Int), .bool (Sort.partition lt d a b pivot).2.1] ∧ Hld w' blk off (Sort.partition lt d a b pivot).2.2 ∧ (Sort.partition lt d a b pivot).2.2.size = n ∧ Far blk w w' := by
  have hE : Far blk w w := Far.refl blk w
  refine gives_of_W Try.func121 rfl Try.ntmps121 rfl ?_
  refine W.seq ?_
  refine W.region (by rfl) ?_
  refine L.step rfl (op_box (cs := [lv, sv]) rfl rfl rfl) ?_
  rintro _ w1 ⟨b1, rfl, hb1, hB1, hx1⟩
  have ne1 : b1 ≠ blk := by have := hE.size; omega
  have hE := hE.trans (hx1.far blk)
  have hF := hF.trans (hx1.far blk)
  have hH := hH.ext hx1
  refine L.val rfl (op_assign rfl rfl) ?_
  refine L.val rfl (op_assign rfl rfl) ?_
  refine L.nil ?_
  refine thenF_nor ?_
  refine W.seq ?_
  refine W.region (by rfl) ?_
  refine L.val rfl (op_field rfl rfl fo106_1 rfl) ?_
  refine L.val rfl (op_load1 rfl rfl one101 (hB1.cells.one (n := 1) rfl)) ?_
  refine L.val rfl (op_move rfl rfl) ?_
  refine L.val rfl (op_move rfl rfl) ?_
  refine L.step rfl (op_swap (i := a) (j := pivot) hS hs hH rfl rfl rfl rfl rfl rfl (by omega) (by omega)) ?_
  rintro _ w2 ⟨hH2, hg2⟩
  have hE := hE.trans hg2
  have hF := hF.trans hg2
  have hB1 := hB1.farx hg2 ne1
  have hH := hH2
  refine L.nil ?_
  refine thenF_nor ?_
  refine W.seq ?_
  refine W.region (by rfl) ?_
  refine L.val rfl (op_move rfl rfl) ?_
  refine L.val rfl (op_add (c := ((a + 1 : Nat) : Int)) rfl rfl rfl (by omega) (by omega)) ?_
  refine L.val rfl (op_move rfl rfl) ?_
  refine L.val rfl (op_sub (c := ((b - 1 : Nat) : Int)) rfl rfl rfl (by omega) (by omega)) ?_
  refine L.val rfl (op_assign rfl rfl) ?_
  refine L.val rfl (op_assign rfl rfl) ?_
  refine L.nil ?_
  refine thenF_nor ?_
  refine W.seq ?_
  refine W.block ?_
  have S3_hB1 := hB1
  have S3_hE := hE
  have S3_hF := hF
  refine W.loopg (γ := Nat) (fun (i1 : Nat) (f : Fr) (w : World) => (swp d a pivot).size = n ∧ a + 1 ≤ i1 ∧ i1 ≤ (b - 1) + 1 ∧ scanUp (fun x => lt x (swp d a pivot)[a]!) (swp d a pivot) (b - 1) i1 = scanUp (fun x => lt x (swp d a pivot)[a]!) (swp d a pivot) (b - 1) (a + 1) ∧ f 1 = (.int .i64 ((a : Nat) : Int)) ∧ f 4 = (.pointer (some ⟨b1, 0, none⟩)) ∧ f 8 = (.int .i64 0) ∧ f 9 = (.bool false) ∧ f 11 = (.int .i64 ((b - 1 : Nat) : Int)) ∧ f 10 = (.int .i64 ((i1 : Nat) : Int)) ∧ Hld w blk off (swp d a pivot) ∧ Far blk w2 w) (fun (i1 : Nat) => (b - 1) + 1 - i1) (a + 1) ⟨((size_swp _ _ _).trans hs), (by (try dsimp only); omega), (by (try dsimp only); omega), rfl, rfl, rfl, rfl, rfl, rfl, rfl, hH, Far.refl _ _⟩ ?_
  rintro i1 f3 w3 ⟨hz3, hUa, hUb, hU, s3_1, s3_4, s3_8, s3_9, s3_11, s3_10, hH, hS3⟩
  have hB1 := S3_hB1.farx hS3 ne1
  have hE := S3_hE.trans hS3
  have hF := S3_hF.trans hS3
  refine W.seq ?_
  refine W.seq ?_
  refine W.region (by rfl) ?_
  refine L.val rfl (op_move rfl s3_10) ?_
  refine L.val rfl (op_move rfl s3_11) ?_
  refine L.val rfl (op_leq rfl rfl rfl) ?_
  refine L.val rfl (op_move rfl rfl) ?_
  refine L.guardv (v := (.pointer (some ⟨b1, 0, none⟩))) (wanted_yes rfl rfl rfl) (fun hg => (op_field rfl s3_4 fo106_0 rfl)) ?_
  refine L.guardv (v := lv) (wanted_yes rfl rfl rfl) (fun hg => (op_load1 rfl ((show _ = vif _ (.pointer (some ⟨b1, 0, none⟩)) from rfl).trans (vif_t hg).symm) one74 (hB1.cells.one (n := 0) rfl))) ?_
  refine L.guardv (v := (.int .i64 ((i1 : Nat) : Int))) (wanted_yes rfl rfl rfl) (fun hg => (op_move rfl s3_10)) ?_
  refine L.guardv (v := (.int .i64 ((a : Nat) : Int))) (wanted_yes rfl rfl rfl) (fun hg => (op_move rfl s3_1)) ?_
  refine L.guardc (v := (.bool (lt (swp d a pivot)[i1]! (swp d a pivot)[a]!))) (wanted_yes rfl rfl rfl) (fun hg => by have hp := hg; simp only [Bool.and_eq_true, Bool.not_eq_true', decide_eq_true_eq, decide_eq_false_iff_not] at hp; exact (op_less (i := i1) (j := a) hL hF hz3 hH rfl ((show _ = vif _ lv from rfl).trans (vif_t hg).symm) ((show _ = vif _ (.int .i64 ((i1 : Nat) : Int)) from rfl).trans (vif_t hg).symm) ((show _ = vif _ (.int .i64 ((a : Nat) : Int)) from rfl).trans (vif_t hg).symm) rfl rfl (by omega) (by omega))) ?_
  intro w4 hx4
  have hE := hE.trans (hx4.far blk)
  have hF := hF.trans (hx4.far blk)
  have hS3 := hS3.trans (hx4.far blk)
  have hB1 := hB1.ext hx4
  have hH := hH.ext hx4
  refine L.val rfl (op_and rfl rfl rfl rfl) ?_
  refine L.nil ?_
  refine thenF_nor ?_
  refine W.cond (t := (decide (((i1 : Nat) : Int) ≤ ((b - 1 : Nat) : Int))) && (lt (swp d a pivot)[i1]! (swp d a pivot)[a]!)) rfl (fun hc5 => ?_) (fun hc5 => ?_)
  · have hp5 := hc5
    simp only [Bool.and_eq_true, Bool.not_eq_true', decide_eq_true_eq] at hp5
    obtain ⟨hp5, hq5⟩ := hp5
    have hUh := hc5
    simp only [Bool.and_eq_true, decide_eq_true_eq] at hUh
    obtain ⟨hUh1, hUh2⟩ := hUh
    have hUh1 : i1 ≤ (b - 1) := by omega
    refine W.skip ?_
    refine thenF_nor ?_
    refine W.block ?_
    refine W.region (by rfl) ?_
    refine L.val rfl (op_move rfl s3_10) ?_
    refine L.val rfl (op_add (c := ((i1 + 1 : Nat) : Int)) rfl rfl rfl (by omega) (by omega)) ?_
    refine L.val rfl (op_assign rfl rfl) ?_
    refine L.nil ?_
    refine blockF_nor ?_
    refine thenF_nor ?_
    exact ⟨i1 + 1, ⟨hz3, (by (try dsimp only); omega), (by (try dsimp only); omega), (by rw [← hU, scanUp_go _ _ _ _ hUh1 hUh2]), s3_1, s3_4, s3_8, s3_9, s3_11, rfl, hH, hS3⟩, (by (try dsimp only); omega)⟩
  · have hp5 := hc5
    have hi1e : i1 = scanUp (fun x => lt x (swp d a pivot)[a]!) (swp d a pivot) (b - 1) (a + 1) := by
      rw [← hU]
      refine (scanUp_end _ _ _ _ ?_).symm
      have h := hc5
      simp only [Bool.and_eq_false_iff, decide_eq_false_iff_not] at h
      rcases h with h | h
      · exact Or.inl (by omega)
      · exact Or.inr h
    refine W.exit ?_
    refine thenF_exit ?_
    refine thenF_exit ?_
    refine blockF_hit ?_
    refine thenF_nor ?_
    refine W.seq ?_
    refine W.block ?_
    have S6_hB1 := hB1
    have S6_hS3 := hS3
    have S6_hE := hE
    have S6_hF := hF
    refine W.loopg (γ := Nat) (fun (j1 : Nat) (f : Fr) (w : World) => (swp d a pivot).size = n ∧ j1 ≤ b - 1 ∧ i1 ≤ j1 + 1 ∧ scanDown (fun x => !lt x (swp d a pivot)[a]!) (swp d a pivot) i1 j1 = scanDown (fun x => !lt x (swp d a pivot)[a]!) (swp d a pivot) i1 (b - 1) ∧ f 1 = (.int .i64 ((a : Nat) : Int)) ∧ f 4 = (.pointer (some ⟨b1, 0, none⟩)) ∧ f 8 = (.int .i64 0) ∧ f 9 = (.bool false) ∧ f 10 = (.int .i64 ((i1 : Nat) : Int)) ∧ f 11 = (.int .i64 ((j1 : Nat) : Int)) ∧ Hld w blk off (swp d a pivot) ∧ Far blk w4 w) (fun (j1 : Nat) => j1) (b - 1) ⟨hz3, (by (try dsimp only); omega), (by (try dsimp only); omega), rfl, s3_1, s3_4, s3_8, s3_9, s3_10, s3_11, hH, Far.refl _ _⟩ ?_
    rintro j1 f6 w6 ⟨hz6, hDa, hDb, hD, s6_1, s6_4, s6_8, s6_9, s6_10, s6_11, hH, hS6⟩
    have hB1 := S6_hB1.farx hS6 ne1
    have hS3 := S6_hS3.trans hS6
    have hE := S6_hE.trans hS6
    have hF := S6_hF.trans hS6
    refine W.seq ?_
    refine W.seq ?_
    refine W.region (by rfl) ?_
    refine L.val rfl (op_move rfl s6_10) ?_
    refine L.val rfl (op_move rfl s6_11) ?_
    refine L.val rfl (op_leq rfl rfl rfl) ?_
    refine L.val rfl (op_move rfl rfl) ?_
    refine L.guardv (v := (.pointer (some ⟨b1, 0, none⟩))) (wanted_yes rfl rfl rfl) (fun hg => (op_field rfl s6_4 fo106_0 rfl)) ?_
    refine L.guardv (v := lv) (wanted_yes rfl rfl rfl) (fun hg => (op_load1 rfl ((show _ = vif _ (.pointer (some ⟨b1, 0, none⟩)) from rfl).trans (vif_t hg).symm) one74 (hB1.cells.one (n := 0) rfl))) ?_
    refine L.guardv (v := (.int .i64 ((j1 : Nat) : Int))) (wanted_yes rfl rfl rfl) (fun hg => (op_move rfl s6_11)) ?_
    refine L.guardv (v := (.int .i64 ((a : Nat) : Int))) (wanted_yes rfl rfl rfl) (fun hg => (op_move rfl s6_1)) ?_
    refine L.guardc (v := (.bool (lt (swp d a pivot)[j1]! (swp d a pivot)[a]!))) (wanted_yes rfl rfl rfl) (fun hg => by have hp := hg; simp only [Bool.and_eq_true, Bool.not_eq_true', decide_eq_true_eq, decide_eq_false_iff_not] at hp; exact (op_less (i := j1) (j := a) hL hF hz6 hH rfl ((show _ = vif _ lv from rfl).trans (vif_t hg).symm) ((show _ = vif _ (.int .i64 ((j1 : Nat) : Int)) from rfl).trans (vif_t hg).symm) ((show _ = vif _ (.int .i64 ((a : Nat) : Int)) from rfl).trans (vif_t hg).symm) rfl rfl (by omega) (by omega))) ?_
    intro w7 hx7
    have hE := hE.trans (hx7.far blk)
    have hF := hF.trans (hx7.far blk)
    have hS3 := hS3.trans (hx7.far blk)
    have hS6 := hS6.trans (hx7.far blk)
    have hB1 := hB1.ext hx7
    have hH := hH.ext hx7
    refine L.guardv (v := (.bool (!(lt (swp d a pivot)[j1]! (swp d a pivot)[a]!)))) (wanted_yes rfl rfl rfl) (fun hg => (op_not rfl ((show _ = vif _ (.bool (lt (swp d a pivot)[j1]! (swp d a pivot)[a]!)) from rfl).trans (vif_t hg).symm))) ?_
    refine L.val rfl (op_and rfl rfl rfl rfl) ?_
    refine L.nil ?_
    refine thenF_nor ?_
    refine W.cond (t := (decide (((i1 : Nat) : Int) ≤ ((j1 : Nat) : Int))) && (!(lt (swp d a pivot)[j1]! (swp d a pivot)[a]!))) rfl (fun hc8 => ?_) (fun hc8 => ?_)
    · have hp8 := hc8
      simp only [Bool.and_eq_true, Bool.not_eq_true', decide_eq_true_eq] at hp8
      obtain ⟨hp8, hq8⟩ := hp8
      have hDh := hc8
      simp only [Bool.and_eq_true, decide_eq_true_eq] at hDh
      obtain ⟨hDh1, hDh2⟩ := hDh
      have hDh1 : i1 ≤ j1 := by omega
      refine W.skip ?_
      refine thenF_nor ?_
      refine W.block ?_
      refine W.region (by rfl) ?_
      refine L.val rfl (op_move rfl s6_11) ?_
      refine L.val rfl (op_sub (c := ((j1 - 1 : Nat) : Int)) rfl rfl rfl (by omega) (by omega)) ?_
      refine L.val rfl (op_assign rfl rfl) ?_
      refine L.nil ?_
      refine blockF_nor ?_
      refine thenF_nor ?_
      exact ⟨j1 - 1, ⟨hz6, (by (try dsimp only); omega), (by (try dsimp only); omega), (by rw [← hD, scanDown_go _ _ _ _ hDh1 (by omega) hDh2]), s6_1, s6_4, s6_8, s6_9, s6_10, rfl, hH, hS6⟩, (by (try dsimp only); omega)⟩
    · have hp8 := hc8
      have hj1e : j1 = scanDown (fun x => !lt x (swp d a pivot)[a]!) (swp d a pivot) i1 (b - 1) := by
        rw [← hD]
        refine (scanDown_end _ _ _ _ ?_).symm
        have h := hc8
        simp only [Bool.and_eq_false_iff, decide_eq_false_iff_not] at h
        rcases h with h | h
        · exact Or.inl (by omega)
        · exact Or.inr h
      refine W.exit ?_
      refine thenF_exit ?_
      refine thenF_exit ?_
      refine blockF_hit ?_
      refine thenF_nor ?_
      refine W.seq ?_
      refine W.seq ?_
      refine W.region (by rfl) ?_
      refine L.val rfl (op_move rfl s6_10) ?_
      refine L.val rfl (op_move rfl s6_11) ?_
      refine L.val rfl (op_gtr rfl rfl rfl) ?_
      refine L.nil ?_
      refine thenF_nor ?_
      refine W.cond (t := decide (((j1 : Nat) : Int) < ((i1 : Nat) : Int))) rfl (fun hc9 => ?_) (fun hc9 => ?_)
      · have hp9 := of_decide_eq_true hc9
        have hbr : j1 < i1 := by have h := hc9; simp only [decide_eq_true_eq] at h; omega
        have hres : Sort.partition lt d a b pivot = (j1, true, swp (swp d a pivot) j1 a) := part_first_break lt d a b pivot rfl rfl rfl hi1e hj1e hbr
        refine W.seq ?_
        refine W.region (by rfl) ?_
        refine L.val rfl (op_field rfl s6_4 fo106_1 rfl) ?_
        refine L.val rfl (op_load1 rfl rfl one101 (hB1.cells.one (n := 1) rfl)) ?_
        refine L.val rfl (op_move rfl s6_11) ?_
        refine L.val rfl (op_move rfl s6_1) ?_
        refine L.step rfl (op_swap (i := j1) (j := a) hS hz6 hH rfl rfl rfl rfl rfl rfl (by omega) (by omega)) ?_
        rintro _ w10 ⟨hH10, hg10⟩
        have hE := hE.trans hg10
        have hF := hF.trans hg10
        have hS3 := hS3.trans hg10
        have hS6 := hS6.trans hg10
        have hB1 := hB1.farx hg10 ne1
        have hH := hH10
        refine L.nil ?_
        refine thenF_nor ?_
        refine W.seq ?_
        refine W.region (by rfl) ?_
        refine L.val rfl (op_move rfl s6_11) ?_
        refine L.val rfl (op_assign rfl rfl) ?_
        refine L.val rfl (op_assign rfl rfl) ?_
        refine L.nil ?_
        refine thenF_nor ?_
        refine W.ret ?_
        refine thenF_ret ?_
        exact end_ret2 (v := (.int .i64 ((j1 : Nat) : Int))) (v' := (.bool true)) rfl rfl rfl ⟨by rw [hres], by rw [hres]; exact hH, by rw [hres]; exact ((size_swp _ _ _).trans hz6), hE⟩
      · have hp9 := of_decide_eq_false hc9
        have hbr : i1 ≤ j1 := by have h := hc9; simp only [decide_eq_false_iff_not] at h; omega
        have hlt1 : i1 < j1 := part_scans_lt lt a (a + 1) (b - 1) (swp d a pivot) (by omega) hi1e hj1e hbr
        have hfirst := part_first_go lt d a b pivot rfl rfl rfl hi1e hj1e (by omega)
        refine W.skip ?_
        refine thenF_nor ?_
        refine W.seq ?_
        refine W.region (by rfl) ?_
        refine L.val rfl (op_field rfl s6_4 fo106_1 rfl) ?_
        refine L.val rfl (op_load1 rfl rfl one101 (hB1.cells.one (n := 1) rfl)) ?_
        refine L.val rfl (op_move rfl s6_10) ?_
        refine L.val rfl (op_move rfl s6_11) ?_
        refine L.step rfl (op_swap (i := i1) (j := j1) hS hz6 hH rfl rfl rfl rfl rfl rfl (by omega) (by omega)) ?_
        rintro _ w11 ⟨hH11, hg11⟩
        have hE := hE.trans hg11
        have hF := hF.trans hg11
        have hS3 := hS3.trans hg11
        have hS6 := hS6.trans hg11
        have hB1 := hB1.farx hg11 ne1
        have hH := hH11
        refine L.nil ?_
        refine thenF_nor ?_
        refine W.seq ?_
        refine W.region (by rfl) ?_
        refine L.val rfl (op_move rfl s6_10) ?_
        refine L.val rfl (op_add (c := ((i1 + 1 : Nat) : Int)) rfl rfl rfl (by omega) (by omega)) ?_
        refine L.val rfl (op_assign rfl rfl) ?_
        refine L.nil ?_
        refine thenF_nor ?_
        refine W.seq ?_
        refine W.region (by rfl) ?_
        refine L.val rfl (op_move rfl s6_11) ?_
        refine L.val rfl (op_sub (c := ((j1 - 1 : Nat) : Int)) rfl rfl rfl (by omega) (by omega)) ?_
        refine L.val rfl (op_assign rfl rfl) ?_
        refine L.nil ?_
        refine thenF_nor ?_
        refine W.seq ?_
        refine W.block ?_
        have S12_hB1 := hB1
        have S12_hS3 := hS3
        have S12_hS6 := hS6
        have S12_hE := hE
        have S12_hF := hF
        refine W.loopg (γ := Nat × Nat × Array α) (fun (g : Nat × Nat × Array α) (f : Fr) (w : World) => g.2.2.size = n ∧ a < g.1 ∧ g.1 ≤ g.2.1 + 1 ∧ g.2.1 < b ∧ partLoop lt a g.1 g.2.1 g.2.2 = partLoop lt a (i1 + 1) (j1 - 1) (swp (swp d a pivot) i1 j1) ∧ f 1 = (.int .i64 ((a : Nat) : Int)) ∧ f 4 = (.pointer (some ⟨b1, 0, none⟩)) ∧ f 8 = (.int .i64 0) ∧ f 9 = (.bool false) ∧ f 10 = (.int .i64 ((g.1 : Nat) : Int)) ∧ f 11 = (.int .i64 ((g.2.1 : Nat) : Int)) ∧ Hld w blk off g.2.2 ∧ Far blk w11 w) (fun (g : Nat × Nat × Array α) => g.2.1 + 1 - g.1) (i1 + 1, j1 - 1, (swp (swp d a pivot) i1 j1)) ⟨((size_swp _ _ _).trans hz6), (by (try dsimp only); omega), (by (try dsimp only); omega), (by (try dsimp only); omega), rfl, s6_1, s6_4, s6_8, s6_9, rfl, rfl, hH, Far.refl _ _⟩ ?_
        rintro ⟨i, j, dk⟩ f12 w12 ⟨hz12, hi1, hij, hjb, heq, s12_1, s12_4, s12_8, s12_9, s12_10, s12_11, hH, hS12⟩
        dsimp only at hz12 hi1 hij hjb heq s12_1 s12_4 s12_8 s12_9 s12_10 s12_11 hH hS12
        have hB1 := S12_hB1.farx hS12 ne1
        have hS3 := S12_hS3.trans hS12
        have hS6 := S12_hS6.trans hS12
        have hE := S12_hE.trans hS12
        have hF := S12_hF.trans hS12
        refine W.block ?_
        refine W.seq ?_
        refine W.block ?_
        have S13_hB1 := hB1
        have S13_hS3 := hS3
        have S13_hS6 := hS6
        have S13_hS12 := hS12
        have S13_hE := hE
        have S13_hF := hF
        refine W.loopg (γ := Nat) (fun (i2 : Nat) (f : Fr) (w : World) => dk.size = n ∧ i ≤ i2 ∧ i2 ≤ j + 1 ∧ scanUp (fun x => lt x dk[a]!) dk j i2 = scanUp (fun x => lt x dk[a]!) dk j i ∧ f 1 = (.int .i64 ((a : Nat) : Int)) ∧ f 4 = (.pointer (some ⟨b1, 0, none⟩)) ∧ f 8 = (.int .i64 0) ∧ f 9 = (.bool false) ∧ f 11 = (.int .i64 ((j : Nat) : Int)) ∧ f 10 = (.int .i64 ((i2 : Nat) : Int)) ∧ Hld w blk off dk ∧ Far blk w12 w) (fun (i2 : Nat) => j + 1 - i2) i ⟨hz12, (by (try dsimp only); omega), (by (try dsimp only); omega), rfl, s12_1, s12_4, s12_8, s12_9, s12_11, s12_10, hH, Far.refl _ _⟩ ?_
        rintro i2 f13 w13 ⟨hz13, hVa, hVb, hV, s13_1, s13_4, s13_8, s13_9, s13_11, s13_10, hH, hS13⟩
        have hB1 := S13_hB1.farx hS13 ne1
        have hS3 := S13_hS3.trans hS13
        have hS6 := S13_hS6.trans hS13
        have hS12 := S13_hS12.trans hS13
        have hE := S13_hE.trans hS13
        have hF := S13_hF.trans hS13
        refine W.seq ?_
        refine W.seq ?_
        refine W.region (by rfl) ?_
        refine L.val rfl (op_move rfl s13_10) ?_
        refine L.val rfl (op_move rfl s13_11) ?_
        refine L.val rfl (op_leq rfl rfl rfl) ?_
        refine L.val rfl (op_move rfl rfl) ?_
        refine L.guardv (v := (.pointer (some ⟨b1, 0, none⟩))) (wanted_yes rfl rfl rfl) (fun hg => (op_field rfl s13_4 fo106_0 rfl)) ?_
        refine L.guardv (v := lv) (wanted_yes rfl rfl rfl) (fun hg => (op_load1 rfl ((show _ = vif _ (.pointer (some ⟨b1, 0, none⟩)) from rfl).trans (vif_t hg).symm) one74 (hB1.cells.one (n := 0) rfl))) ?_
        refine L.guardv (v := (.int .i64 ((i2 : Nat) : Int))) (wanted_yes rfl rfl rfl) (fun hg => (op_move rfl s13_10)) ?_
        refine L.guardv (v := (.int .i64 ((a : Nat) : Int))) (wanted_yes rfl rfl rfl) (fun hg => (op_move rfl s13_1)) ?_
        refine L.guardc (v := (.bool (lt dk[i2]! dk[a]!))) (wanted_yes rfl rfl rfl) (fun hg => by have hp := hg; simp only [Bool.and_eq_true, Bool.not_eq_true', decide_eq_true_eq, decide_eq_false_iff_not] at hp; exact (op_less (i := i2) (j := a) hL hF hz13 hH rfl ((show _ = vif _ lv from rfl).trans (vif_t hg).symm) ((show _ = vif _ (.int .i64 ((i2 : Nat) : Int)) from rfl).trans (vif_t hg).symm) ((show _ = vif _ (.int .i64 ((a : Nat) : Int)) from rfl).trans (vif_t hg).symm) rfl rfl (by omega) (by omega))) ?_
        intro w14 hx14
        have hE := hE.trans (hx14.far blk)
        have hF := hF.trans (hx14.far blk)
        have hS3 := hS3.trans (hx14.far blk)
        have hS6 := hS6.trans (hx14.far blk)
        have hS12 := hS12.trans (hx14.far blk)
        have hS13 := hS13.trans (hx14.far blk)
        have hB1 := hB1.ext hx14
        have hH := hH.ext hx14
        refine L.val rfl (op_and rfl rfl rfl rfl) ?_
        refine L.nil ?_
        refine thenF_nor ?_
        refine W.cond (t := (decide (((i2 : Nat) : Int) ≤ ((j : Nat) : Int))) && (lt dk[i2]! dk[a]!)) rfl (fun hc15 => ?_) (fun hc15 => ?_)
        · have hp15 := hc15
          simp only [Bool.and_eq_true, Bool.not_eq_true', decide_eq_true_eq] at hp15
          obtain ⟨hp15, hq15⟩ := hp15
          have hVh := hc15
          simp only [Bool.and_eq_true, decide_eq_true_eq] at hVh
          obtain ⟨hVh1, hVh2⟩ := hVh
          have hVh1 : i2 ≤ j := by omega
          refine W.skip ?_
          refine thenF_nor ?_
          refine W.block ?_
          refine W.region (by rfl) ?_
          refine L.val rfl (op_move rfl s13_10) ?_
          refine L.val rfl (op_add (c := ((i2 + 1 : Nat) : Int)) rfl rfl rfl (by omega) (by omega)) ?_
          refine L.val rfl (op_assign rfl rfl) ?_
          refine L.nil ?_
          refine blockF_nor ?_
          refine thenF_nor ?_
          exact ⟨i2 + 1, ⟨hz13, (by (try dsimp only); omega), (by (try dsimp only); omega), (by rw [← hV, scanUp_go _ _ _ _ hVh1 hVh2]), s13_1, s13_4, s13_8, s13_9, s13_11, rfl, hH, hS13⟩, (by (try dsimp only); omega)⟩
        · have hp15 := hc15
          have hi2 : i2 = scanUp (fun x => lt x dk[a]!) dk j i := by
            rw [← hV]
            refine (scanUp_end _ _ _ _ ?_).symm
            have h := hc15
            simp only [Bool.and_eq_false_iff, decide_eq_false_iff_not] at h
            rcases h with h | h
            · exact Or.inl (by omega)
            · exact Or.inr h
          refine W.exit ?_
          refine thenF_exit ?_
          refine thenF_exit ?_
          refine blockF_hit ?_
          refine thenF_nor ?_
          refine W.seq ?_
          refine W.block ?_
          have S16_hB1 := hB1
          have S16_hS3 := hS3
          have S16_hS6 := hS6
          have S16_hS12 := hS12
          have S16_hS13 := hS13
          have S16_hE := hE
          have S16_hF := hF
          refine W.loopg (γ := Nat) (fun (j2 : Nat) (f : Fr) (w : World) => dk.size = n ∧ j2 ≤ j ∧ i2 ≤ j2 + 1 ∧ scanDown (fun x => !lt x dk[a]!) dk i2 j2 = scanDown (fun x => !lt x dk[a]!) dk i2 j ∧ f 1 = (.int .i64 ((a : Nat) : Int)) ∧ f 4 = (.pointer (some ⟨b1, 0, none⟩)) ∧ f 8 = (.int .i64 0) ∧ f 9 = (.bool false) ∧ f 10 = (.int .i64 ((i2 : Nat) : Int)) ∧ f 64 = (.int .i64 ((i2 : Nat) : Int)) ∧ f 65 = (.int .i64 ((j : Nat) : Int)) ∧ f 66 = (.bool (decide (((i2 : Nat) : Int) ≤ ((j : Nat) : Int)))) ∧ f 67 = (.bool (decide (((i2 : Nat) : Int) ≤ ((j : Nat) : Int)))) ∧ f 68 = (vif (decide (((i2 : Nat) : Int) ≤ ((j : Nat) : Int))) (.pointer (some ⟨b1, 0, none⟩))) ∧ f 69 = (vif (decide (((i2 : Nat) : Int) ≤ ((j : Nat) : Int))) lv) ∧ f 70 = (vif (decide (((i2 : Nat) : Int) ≤ ((j : Nat) : Int))) (.int .i64 ((i2 : Nat) : Int))) ∧ f 71 = (vif (decide (((i2 : Nat) : Int) ≤ ((j : Nat) : Int))) (.int .i64 ((a : Nat) : Int))) ∧ f 72 = (vif (decide (((i2 : Nat) : Int) ≤ ((j : Nat) : Int))) (.bool (lt dk[i2]! dk[a]!))) ∧ f 73 = (.bool ((decide (((i2 : Nat) : Int) ≤ ((j : Nat) : Int))) && (lt dk[i2]! dk[a]!))) ∧ f 11 = (.int .i64 ((j2 : Nat) : Int)) ∧ Hld w blk off dk ∧ Far blk w14 w) (fun (j2 : Nat) => j2) j ⟨hz13, (by (try dsimp only); omega), (by (try dsimp only); omega), rfl, s13_1, s13_4, s13_8, s13_9, s13_10, rfl, rfl, rfl, rfl, rfl, rfl, rfl, rfl, rfl, rfl, s13_11, hH, Far.refl _ _⟩ ?_
          rintro j2 f16 w16 ⟨hz16, hWa, hWb, hW, s16_1, s16_4, s16_8, s16_9, s16_10, s16_64, s16_65, s16_66, s16_67, s16_68, s16_69, s16_70, s16_71, s16_72, s16_73, s16_11, hH, hS16⟩
          have hB1 := S16_hB1.farx hS16 ne1
          have hS3 := S16_hS3.trans hS16
          have hS6 := S16_hS6.trans hS16
          have hS12 := S16_hS12.trans hS16
          have hS13 := S16_hS13.trans hS16
          have hE := S16_hE.trans hS16
          have hF := S16_hF.trans hS16
          refine W.seq ?_
          refine W.seq ?_
          refine W.region (by rfl) ?_
          refine L.val rfl (op_move rfl s16_10) ?_
          refine L.val rfl (op_move rfl s16_11) ?_
          refine L.val rfl (op_leq rfl rfl rfl) ?_
          refine L.val rfl (op_move rfl rfl) ?_
          refine L.guardv (v := (.pointer (some ⟨b1, 0, none⟩))) (wanted_yes rfl rfl rfl) (fun hg => (op_field rfl s16_4 fo106_0 rfl)) ?_
          refine L.guardv (v := lv) (wanted_yes rfl rfl rfl) (fun hg => (op_load1 rfl ((show _ = vif _ (.pointer (some ⟨b1, 0, none⟩)) from rfl).trans (vif_t hg).symm) one74 (hB1.cells.one (n := 0) rfl))) ?_
          refine L.guardv (v := (.int .i64 ((j2 : Nat) : Int))) (wanted_yes rfl rfl rfl) (fun hg => (op_move rfl s16_11)) ?_
          refine L.guardv (v := (.int .i64 ((a : Nat) : Int))) (wanted_yes rfl rfl rfl) (fun hg => (op_move rfl s16_1)) ?_
          refine L.guardc (v := (.bool (lt dk[j2]! dk[a]!))) (wanted_yes rfl rfl rfl) (fun hg => by have hp := hg; simp only [Bool.and_eq_true, Bool.not_eq_true', decide_eq_true_eq, decide_eq_false_iff_not] at hp; exact (op_less (i := j2) (j := a) hL hF hz16 hH rfl ((show _ = vif _ lv from rfl).trans (vif_t hg).symm) ((show _ = vif _ (.int .i64 ((j2 : Nat) : Int)) from rfl).trans (vif_t hg).symm) ((show _ = vif _ (.int .i64 ((a : Nat) : Int)) from rfl).trans (vif_t hg).symm) rfl rfl (by omega) (by omega))) ?_
          intro w17 hx17
          have hE := hE.trans (hx17.far blk)
          have hF := hF.trans (hx17.far blk)
          have hS3 := hS3.trans (hx17.far blk)
          have hS6 := hS6.trans (hx17.far blk)
          have hS12 := hS12.trans (hx17.far blk)
          have hS13 := hS13.trans (hx17.far blk)
          have hS16 := hS16.trans (hx17.far blk)
          have hB1 := hB1.ext hx17
          have hH := hH.ext hx17
          refine L.guardv (v := (.bool (!(lt dk[j2]! dk[a]!)))) (wanted_yes rfl rfl rfl) (fun hg => (op_not rfl ((show _ = vif _ (.bool (lt dk[j2]! dk[a]!)) from rfl).trans (vif_t hg).symm))) ?_
          refine L.val rfl (op_and rfl rfl rfl rfl) ?_
          refine L.nil ?_
          refine thenF_nor ?_
          refine W.cond (t := (decide (((i2 : Nat) : Int) ≤ ((j2 : Nat) : Int))) && (!(lt dk[j2]! dk[a]!))) rfl (fun hc18 => ?_) (fun hc18 => ?_)
          · have hp18 := hc18
            simp only [Bool.and_eq_true, Bool.not_eq_true', decide_eq_true_eq] at hp18
            obtain ⟨hp18, hq18⟩ := hp18
            have hWh := hc18
            simp only [Bool.and_eq_true, decide_eq_true_eq] at hWh
            obtain ⟨hWh1, hWh2⟩ := hWh
            have hWh1 : i2 ≤ j2 := by omega
            refine W.skip ?_
            refine thenF_nor ?_
            refine W.block ?_
            refine W.region (by rfl) ?_
            refine L.val rfl (op_move rfl s16_11) ?_
            refine L.val rfl (op_sub (c := ((j2 - 1 : Nat) : Int)) rfl rfl rfl (by omega) (by omega)) ?_
            refine L.val rfl (op_assign rfl rfl) ?_
            refine L.nil ?_
            refine blockF_nor ?_
            refine thenF_nor ?_
            exact ⟨j2 - 1, ⟨hz16, (by (try dsimp only); omega), (by (try dsimp only); omega), (by rw [← hW, scanDown_go _ _ _ _ hWh1 (by omega) hWh2]), s16_1, s16_4, s16_8, s16_9, s16_10, s16_64, s16_65, s16_66, s16_67, s16_68, s16_69, s16_70, s16_71, s16_72, s16_73, rfl, hH, hS16⟩, (by (try dsimp only); omega)⟩
          · have hp18 := hc18
            have hj2 : j2 = scanDown (fun x => !lt x dk[a]!) dk i2 j := by
              rw [← hW]
              refine (scanDown_end _ _ _ _ ?_).symm
              have h := hc18
              simp only [Bool.and_eq_false_iff, decide_eq_false_iff_not] at h
              rcases h with h | h
              · exact Or.inl (by omega)
              · exact Or.inr h
            refine W.exit ?_
            refine thenF_exit ?_
            refine thenF_exit ?_
            refine blockF_hit ?_
            refine thenF_nor ?_
            refine W.seq ?_
            refine W.seq ?_
            refine W.region (by rfl) ?_
            refine L.val rfl (op_move rfl s16_10) ?_
            refine L.val rfl (op_move rfl s16_11) ?_
            refine L.val rfl (op_gtr rfl rfl rfl) ?_
            refine L.nil ?_
            refine thenF_nor ?_
            refine W.cond (t := decide (((j2 : Nat) : Int) < ((i2 : Nat) : Int))) rfl (fun hc19 => ?_) (fun hc19 => ?_)
            · have hp19 := of_decide_eq_true hc19
              have hbr2 : j2 < i2 := by have h := hc19; simp only [decide_eq_true_eq] at h; omega
              have hres : Sort.partition lt d a b pivot = (j2, false, swp dk j2 a) := by rw [hfirst, ← heq, part_break lt a i j dk hi2 hj2 hbr2]
              refine W.exit ?_
              refine thenF_exit ?_
              refine blockF_miss rfl ?_
              refine thenF_exit ?_
              refine blockF_hit ?_
              refine thenF_nor ?_
              refine W.seq ?_
              refine W.region (by rfl) ?_
              refine L.val rfl (op_field rfl s16_4 fo106_1 rfl) ?_
              refine L.val rfl (op_load1 rfl rfl one101 (hB1.cells.one (n := 1) rfl)) ?_
              refine L.val rfl (op_move rfl s16_11) ?_
              refine L.val rfl (op_move rfl s16_1) ?_
              refine L.step rfl (op_swap (i := j2) (j := a) hS hz16 hH rfl rfl rfl rfl rfl rfl (by omega) (by omega)) ?_
              rintro _ w20 ⟨hH20, hg20⟩
              have hE := hE.trans hg20
              have hF := hF.trans hg20
              have hS3 := hS3.trans hg20
              have hS6 := hS6.trans hg20
              have hS12 := hS12.trans hg20
              have hS13 := hS13.trans hg20
              have hS16 := hS16.trans hg20
              have hB1 := hB1.farx hg20 ne1
              have hH := hH20
              refine L.nil ?_
              refine thenF_nor ?_
              refine W.seq ?_
              refine W.region (by rfl) ?_
              refine L.val rfl (op_move rfl s16_11) ?_
              refine L.val rfl (op_assign rfl rfl) ?_
              refine L.val rfl (op_assign rfl rfl) ?_
              refine L.nil ?_
              refine thenF_nor ?_
              refine W.ret ?_
              exact end_ret2 (v := (.int .i64 ((j2 : Nat) : Int))) (v' := (.bool false)) rfl rfl rfl ⟨by rw [hres], by rw [hres]; exact hH, by rw [hres]; exact ((size_swp _ _ _).trans hz16), hE⟩
            · have hp19 := of_decide_eq_false hc19
              have hbr2 : i2 ≤ j2 := by have h := hc19; simp only [decide_eq_false_iff_not] at h; omega
              have hlt2 : i2 < j2 := part_scans_lt lt a i j dk (by omega) hi2 hj2 hbr2
              have hgo := part_go lt a i j dk hi2 hj2 (by omega)
              refine W.skip ?_
              refine thenF_nor ?_
              refine W.seq ?_
              refine W.region (by rfl) ?_
              refine L.val rfl (op_field rfl s16_4 fo106_1 rfl) ?_
              refine L.val rfl (op_load1 rfl rfl one101 (hB1.cells.one (n := 1) rfl)) ?_
              refine L.val rfl (op_move rfl s16_10) ?_
              refine L.val rfl (op_move rfl s16_11) ?_
              refine L.step rfl (op_swap (i := i2) (j := j2) hS hz16 hH rfl rfl rfl rfl rfl rfl (by omega) (by omega)) ?_
              rintro _ w21 ⟨hH21, hg21⟩
              have hE := hE.trans hg21
              have hF := hF.trans hg21
              have hS3 := hS3.trans hg21
              have hS6 := hS6.trans hg21
              have hS12 := hS12.trans hg21
              have hS13 := hS13.trans hg21
              have hS16 := hS16.trans hg21
              have hB1 := hB1.farx hg21 ne1
              have hH := hH21
              refine L.nil ?_
              refine thenF_nor ?_
              refine W.seq ?_
              refine W.region (by rfl) ?_
              refine L.val rfl (op_move rfl s16_10) ?_
              refine L.val rfl (op_add (c := ((i2 + 1 : Nat) : Int)) rfl rfl rfl (by omega) (by omega)) ?_
              refine L.val rfl (op_assign rfl rfl) ?_
              refine L.nil ?_
              refine thenF_nor ?_
              refine W.region (by rfl) ?_
              refine L.val rfl (op_move rfl s16_11) ?_
              refine L.val rfl (op_sub (c := ((j2 - 1 : Nat) : Int)) rfl rfl rfl (by omega) (by omega)) ?_
              refine L.val rfl (op_assign rfl rfl) ?_
              refine L.nil ?_
              refine blockF_nor ?_
              refine thenF_nor ?_
              exact ⟨(i2 + 1, j2 - 1, (swp dk i2 j2)), ⟨((size_swp _ _ _).trans hz16), (by dsimp only; omega), (by dsimp only; omega), (by dsimp only; omega), (by dsimp only; rw [← heq, hgo]), s16_1, s16_4, s16_8, s16_9, rfl, rfl, hH, hS12⟩, (by dsimp only; omega)⟩

end Go.Proofs.Ytdknjfmjddlphaa
