/-
  Contracts of functions of sort.Slice for a comparison that may lay blocks, each with its walk. Printed by a program of this session (wip/gen) from the translation.
-/
import Derived.Test.YtdknjfmjddlphaaSrtKit
set_option linter.unusedSimpArgs false
set_option linter.unusedVariables false
namespace Go.Proofs.Ytdknjfmjddlphaa
open Go Go.Fk Go.Sort

set_option maxRecDepth 100000 in
set_option maxHeartbeats 16000000 in
theorem pdqsort_ok {α : Type} [Enc α] [Inhabited α] {lt : α → α → Bool} {lv sv : Value} {blk off n : Nat} (hO : SWO lt) : ∀ (N : Nat) {a b limit : Nat} {w0 w : World} {d : Array α}, b - a < N → LessOk Try.prog lt lv blk off n w0 → SwapOk α Try.prog sv blk off n → Far blk w0 w → blk < w.heap.size → n < 4611686018427387904 → d.size = n → Hld w blk off d → a ≤ b → b ≤ n → limit < 4611686018427387904 → Sort.Below lt a b d → Gives Try.prog 90 #[(.agg #[lv, sv]), (.int .i64 ((a : Nat) : Int)), (.int .i64 ((b : Nat) : Int)), (.int .i64 ((limit : Nat) : Int))] w fun u w' => u = .tuple #[] ∧ ∃ d', PermIn a b d d' ∧ SortedIn lt a b d' ∧ Hld w' blk off d' ∧ Far blk w w' := by
  intro N
  induction N with
  | zero => intros; omega
  | succ N ih =>
    intro a b limit w0 w d hN hL hS hF hblk hn hs hH hab hb hlim hBel
    have hE : Far blk w w := Far.refl blk w
    refine gives_of_W Try.func90 rfl Try.ntmps90 rfl ?_
    refine W.seq ?_
    refine W.region (by rfl) ?_
    refine L.step rfl (op_box (cs := [lv, sv]) rfl rfl rfl) ?_
    rintro _ w1 ⟨b1, rfl, hb1, hB1, hx1⟩
    have ne1 : b1 ≠ blk := by have := hE.size; omega
    have hE := hE.trans (hx1.far blk)
    have hF := hF.trans (hx1.far blk)
    have hH := hH.ext hx1
    refine L.nil ?_
    refine thenF_nor ?_
    refine W.seq ?_
    refine W.region (by rfl) ?_
    refine L.val rfl (op_assign rfl rfl) ?_
    refine L.nil ?_
    refine thenF_nor ?_
    refine W.seq ?_
    refine W.region (by rfl) ?_
    refine L.val rfl (op_assign rfl rfl) ?_
    refine L.nil ?_
    refine thenF_nor ?_
    refine W.block ?_
    have S2_hB1 := hB1
    have S2_hE := hE
    have S2_hF := hF
    refine W.loopg (γ := Nat × Nat × Nat × Bool × Bool × Array α) (fun (g : Nat × Nat × Nat × Bool × Bool × Array α) (f : Fr) (w : World) => g.2.2.2.2.2.size = n ∧ a ≤ g.1 ∧ g.1 ≤ g.2.1 ∧ g.2.1 ≤ b ∧ g.2.2.1 ≤ limit ∧ Sort.Below lt g.1 g.2.1 g.2.2.2.2.2 ∧ (∀ e, PermIn g.1 g.2.1 g.2.2.2.2.2 e → SortedIn lt g.1 g.2.1 e → PermIn a b d e ∧ SortedIn lt a b e) ∧ f 4 = (.pointer (some ⟨b1, 0, none⟩)) ∧ f 1 = (.int .i64 ((g.1 : Nat) : Int)) ∧ f 2 = (.int .i64 ((g.2.1 : Nat) : Int)) ∧ f 3 = (.int .i64 ((g.2.2.1 : Nat) : Int)) ∧ f 8 = (.bool g.2.2.2.1) ∧ f 9 = (.bool g.2.2.2.2.1) ∧ Hld w blk off g.2.2.2.2.2 ∧ Far blk w1 w) (fun (g : Nat × Nat × Nat × Bool × Bool × Array α) => g.2.1 - g.1) (a, b, limit, true, true, d) ⟨hs, (by (try dsimp only); omega), (by (try dsimp only); omega), (by (try dsimp only); omega), (by (try dsimp only); omega), hBel, fun e h1 h2 => ⟨h1, h2⟩, rfl, rfl, rfl, rfl, rfl, rfl, hH, Far.refl _ _⟩ ?_
    rintro ⟨x, y, l, wb, wp, dk⟩ f2 w2 ⟨hz2, hax, hxy, hyb, hll, hBl, hGlue, s2_4, s2_1, s2_2, s2_3, s2_8, s2_9, hH, hS2⟩
    dsimp only at hz2 hax hxy hyb hll hBl hGlue s2_4 s2_1 s2_2 s2_3 s2_8 s2_9 hH hS2
    have hB1 := S2_hB1.farx hS2 ne1
    have hE := S2_hE.trans hS2
    have hF := S2_hF.trans hS2
    refine W.block ?_
    refine W.seq ?_
    refine W.region (by rfl) ?_
    refine L.val rfl (op_move rfl s2_2) ?_
    refine L.val rfl (op_move rfl s2_1) ?_
    refine L.val rfl (op_sub (c := ((y - x : Nat) : Int)) rfl rfl rfl (by omega) (by omega)) ?_
    refine L.val rfl (op_assign rfl rfl) ?_
    refine L.nil ?_
    refine thenF_nor ?_
    refine W.seq ?_
    refine W.seq ?_
    refine W.region (by rfl) ?_
    refine L.val rfl (op_move rfl rfl) ?_
    refine L.val rfl (op_leq rfl rfl rfl) ?_
    refine L.nil ?_
    refine thenF_nor ?_
    refine W.cond (t := decide (((y - x : Nat) : Int) ≤ 12)) rfl (fun hc3 => ?_) (fun hc3 => ?_)
    · have hp3 := of_decide_eq_true hc3
      refine W.seq ?_
      refine W.region (by rfl) ?_
      refine L.val rfl (op_loadc (cs := [lv, sv]) rfl s2_4 ag106 si106 hB1.cells) ?_
      refine L.val rfl (op_move rfl s2_1) ?_
      refine L.val rfl (op_move rfl s2_2) ?_
      refine L.step rfl (OpS.call (op_call rfl (argsC rfl (argsC rfl (argsC rfl argsN))) Try.func114 rfl rfl) (insertionSort_ok (a := x) (b := y) hL hS hF (Nat.lt_of_lt_of_le hblk hE.size) hn hz2 hH (by omega) (by omega))) ?_
      rintro _ w4 ⟨rfl, hH4, hsz4, hg4⟩
      have hE := hE.trans hg4
      have hF := hF.trans hg4
      have hS2 := hS2.trans hg4
      have hB1 := hB1.farx hg4 ne1
      have hH := hH4
      obtain ⟨D4, hD4⟩ : ∃ D, D = Sort.insertionSort lt dk x y := ⟨_, rfl⟩
      rw [← hD4] at hH
      have hz4 : D4.size = n := by rw [hD4]; exact hsz4
      refine L.nil ?_
      refine thenF_nor ?_
      refine W.ret ?_
      refine thenF_ret ?_
      refine blockF_ret ?_
      refine thenF_ret ?_
      refine blockF_ret ?_
      exact end_ret0 rfl (by have hh := insertionSort_holds hO dk x y (by omega) (by omega); rw [← hD4] at hh; exact ⟨rfl, D4, (hGlue _ hh.1 hh.2).1, (hGlue _ hh.1 hh.2).2, hH, hE⟩)
    · have hp3 := of_decide_eq_false hc3
      refine W.skip ?_
      refine thenF_nor ?_
      refine W.seq ?_
      refine W.seq ?_
      refine W.region (by rfl) ?_
      refine L.val rfl (op_move rfl s2_3) ?_
      refine L.val rfl (op_eql rfl rfl rfl) ?_
      refine L.nil ?_
      refine thenF_nor ?_
      refine W.cond (t := decide (((l : Nat) : Int) = 0)) rfl (fun hc5 => ?_) (fun hc5 => ?_)
      · have hp5 := of_decide_eq_true hc5
        refine W.seq ?_
        refine W.region (by rfl) ?_
        refine L.val rfl (op_loadc (cs := [lv, sv]) rfl s2_4 ag106 si106 hB1.cells) ?_
        refine L.val rfl (op_move rfl s2_1) ?_
        refine L.val rfl (op_move rfl s2_2) ?_
        refine L.step rfl (OpS.call (op_call rfl (argsC rfl (argsC rfl (argsC rfl argsN))) Try.func115 rfl rfl) (heapSort_ok (a := x) (b := y) hL hS hF (Nat.lt_of_lt_of_le hblk hE.size) hn hz2 hH (by omega) (by omega))) ?_
        rintro _ w6 ⟨rfl, hH6, hsz6, hg6⟩
        have hE := hE.trans hg6
        have hF := hF.trans hg6
        have hS2 := hS2.trans hg6
        have hB1 := hB1.farx hg6 ne1
        have hH := hH6
        obtain ⟨D6, hD6⟩ : ∃ D, D = Sort.heapSort lt dk x y := ⟨_, rfl⟩
        rw [← hD6] at hH
        have hz6 : D6.size = n := by rw [hD6]; exact hsz6
        refine L.nil ?_
        refine thenF_nor ?_
        refine W.ret ?_
        refine thenF_ret ?_
        refine blockF_ret ?_
        refine thenF_ret ?_
        refine blockF_ret ?_
        exact end_ret0 rfl (by have hh := heapSort_holds hO dk x y (by omega) (by omega); rw [← hD6] at hh; exact ⟨rfl, D6, (hGlue _ hh.1 hh.2).1, (hGlue _ hh.1 hh.2).2, hH, hE⟩)
      · have hp5 := of_decide_eq_false hc5
        have hl0 : 0 < l := by have h := hc5; simp only [decide_eq_false_iff_not] at h; omega
        refine W.skip ?_
        refine thenF_nor ?_
        have S7_hB1 := hB1
        have S7_hS2 := hS2
        have S7_hE := hE
        have S7_hF := hF
        have hS7 : Far blk w2 w2 := Far.refl _ _
        refine W.cut (fun (f : Fr) (w : World) => ∃ (d1 : Array α), ∃ (l1 : Nat), d1.size = n ∧ PermIn x y dk d1 ∧ l1 ≤ l ∧ f 1 = (.int .i64 ((x : Nat) : Int)) ∧ f 2 = (.int .i64 ((y : Nat) : Int)) ∧ f 4 = (.pointer (some ⟨b1, 0, none⟩)) ∧ f 8 = (.bool wb) ∧ f 9 = (.bool wp) ∧ f 10 = (.int .i64 ((y - x : Nat) : Int)) ∧ f 19 = (.int .i64 ((y : Nat) : Int)) ∧ f 20 = (.int .i64 ((x : Nat) : Int)) ∧ f 21 = (.int .i64 ((y - x : Nat) : Int)) ∧ f 22 = (.int .i64 ((y - x : Nat) : Int)) ∧ f 23 = (.bool (decide (((y - x : Nat) : Int) ≤ 12))) ∧ f 28 = (.int .i64 ((l : Nat) : Int)) ∧ f 29 = (.bool (decide (((l : Nat) : Int) = 0))) ∧ f 3 = (.int .i64 ((l1 : Nat) : Int)) ∧ Hld w blk off d1 ∧ Far blk w2 w) ?_ ?_
        · refine W.seq ?_
          refine W.region (by rfl) ?_
          refine L.val rfl (op_move rfl s2_8) ?_
          refine L.val rfl (op_not rfl rfl) ?_
          refine L.nil ?_
          refine thenF_nor ?_
          refine W.cond (t := !wb) rfl (fun hc8 => ?_) (fun hc8 => ?_)
          · have hp8 := hc8
            refine W.seq ?_
            refine W.region (by rfl) ?_
            refine L.val rfl (op_loadc (cs := [lv, sv]) rfl s2_4 ag106 si106 hB1.cells) ?_
            refine L.val rfl (op_move rfl s2_1) ?_
            refine L.val rfl (op_move rfl s2_2) ?_
            refine L.step rfl (OpS.call (op_call rfl (argsC rfl (argsC rfl (argsC rfl argsN))) Try.func116 rfl rfl) (breakPatterns_ok (a := x) (b := y) hL hS hF (Nat.lt_of_lt_of_le hblk hE.size) hn hz2 hH (by omega) (by omega))) ?_
            rintro _ w9 ⟨rfl, D9, hpm9, hH9, hg9⟩
            have hE := hE.trans hg9
            have hF := hF.trans hg9
            have hS2 := hS2.trans hg9
            have hS7 := hS7.trans hg9
            have hB1 := hB1.farx hg9 ne1
            have hH := hH9
            have hcur : PermIn x y dk D9 := hpm9
            refine L.nil ?_
            refine thenF_nor ?_
            refine W.region (by rfl) ?_
            refine L.val rfl (op_move rfl s2_3) ?_
            refine L.val rfl (op_sub (c := ((l - 1 : Nat) : Int)) rfl rfl rfl (by omega) (by omega)) ?_
            refine L.val rfl (op_assign rfl rfl) ?_
            refine L.nil ?_
            refine thenF_nor ?_
            exact ⟨D9, l - 1, (hpm9.1.trans hz2), hcur, (by (try dsimp only); omega), s2_1, s2_2, s2_4, s2_8, s2_9, rfl, rfl, rfl, rfl, rfl, rfl, rfl, rfl, rfl, hH, hS7⟩
          · have hp8 := hc8
            have hcur : PermIn x y dk dk := permIn_refl _ _ _
            refine W.skip ?_
            refine thenF_nor ?_
            exact ⟨dk, l, hz2, hcur, (by (try dsimp only); omega), s2_1, s2_2, s2_4, s2_8, s2_9, rfl, rfl, rfl, rfl, rfl, rfl, rfl, rfl, s2_3, hH, hS7⟩
        · rintro f7 w7 ⟨d1, l1, hz7, hd1, hl1, s7_1, s7_2, s7_4, s7_8, s7_9, s7_10, s7_19, s7_20, s7_21, s7_22, s7_23, s7_28, s7_29, s7_3, hH, hS7⟩
          have hB1 := S7_hB1.farx hS7 ne1
          have hS2 := S7_hS2.trans hS7
          have hE := S7_hE.trans hS7
          have hF := S7_hF.trans hS7
          refine W.seq ?_
          refine W.region (by rfl) ?_
          refine L.val rfl (op_loadc (cs := [lv, sv]) rfl s7_4 ag106 si106 hB1.cells) ?_
          refine L.val rfl (op_move rfl s7_1) ?_
          refine L.val rfl (op_move rfl s7_2) ?_
          refine L.step rfl (OpS.call (op_call rfl (argsC rfl (argsC rfl (argsC rfl argsN))) Try.func117 rfl rfl) (choosePivot_ok (a := x) (b := y) hL hF (Nat.lt_of_lt_of_le hblk hE.size) hn hz7 hH (by omega) (by omega))) ?_
          rintro _ w10 ⟨p10, h10, rfl, hp110, hp210, hg10⟩
          have hE := hE.trans (hg10.far blk)
          have hF := hF.trans (hg10.far blk)
          have hS2 := hS2.trans (hg10.far blk)
          have hB1 := hB1.ext hg10
          have hH := hH.ext hg10
          refine L.val rfl (op_move rfl rfl) ?_
          refine L.val rfl (op_extract rfl rfl rfl) ?_
          refine L.val rfl (op_extract rfl rfl rfl) ?_
          refine L.val rfl (op_assign rfl rfl) ?_
          refine L.val rfl (op_assign rfl rfl) ?_
          refine L.nil ?_
          refine thenF_nor ?_
          have S11_hB1 := hB1
          have S11_hS2 := hS2
          have S11_hE := hE
          have S11_hF := hF
          have hS11 : Far blk w10 w10 := Far.refl _ _
          refine W.cut (fun (f : Fr) (w : World) => ∃ (d2 : Array α), ∃ (p2 : Nat), ∃ (h2 : Int), d2.size = n ∧ PermIn x y d1 d2 ∧ x ≤ p2 ∧ p2 < y ∧ f 1 = (.int .i64 ((x : Nat) : Int)) ∧ f 2 = (.int .i64 ((y : Nat) : Int)) ∧ f 3 = (.int .i64 ((l1 : Nat) : Int)) ∧ f 4 = (.pointer (some ⟨b1, 0, none⟩)) ∧ f 8 = (.bool wb) ∧ f 9 = (.bool wp) ∧ f 10 = (.int .i64 ((y - x : Nat) : Int)) ∧ f 19 = (.int .i64 ((y : Nat) : Int)) ∧ f 20 = (.int .i64 ((x : Nat) : Int)) ∧ f 21 = (.int .i64 ((y - x : Nat) : Int)) ∧ f 22 = (.int .i64 ((y - x : Nat) : Int)) ∧ f 23 = (.bool (decide (((y - x : Nat) : Int) ≤ 12))) ∧ f 28 = (.int .i64 ((l : Nat) : Int)) ∧ f 29 = (.bool (decide (((l : Nat) : Int) = 0))) ∧ f 42 = (.tuple #[(.int .i64 ((p10 : Nat) : Int)), (.int .i64 h10)]) ∧ f 43 = (.agg #[lv, sv]) ∧ f 44 = (.int .i64 ((x : Nat) : Int)) ∧ f 45 = (.int .i64 ((y : Nat) : Int)) ∧ f 46 = (.tuple #[(.int .i64 ((p10 : Nat) : Int)), (.int .i64 h10)]) ∧ f 47 = (.int .i64 ((p10 : Nat) : Int)) ∧ f 48 = (.int .i64 h10) ∧ f 11 = (.int .i64 ((p2 : Nat) : Int)) ∧ f 12 = (.int .i64 h2) ∧ Hld w blk off d2 ∧ Far blk w10 w) ?_ ?_
          · refine W.seq ?_
            refine W.region (by rfl) ?_
            refine L.val rfl (op_move rfl rfl) ?_
            refine L.val rfl (op_eql rfl rfl rfl) ?_
            refine L.nil ?_
            refine thenF_nor ?_
            refine W.cond (t := decide (h10 = 2)) rfl (fun hc12 => ?_) (fun hc12 => ?_)
            · have hp12 := of_decide_eq_true hc12
              refine W.seq ?_
              refine W.region (by rfl) ?_
              refine L.val rfl (op_loadc (cs := [lv, sv]) rfl s7_4 ag106 si106 hB1.cells) ?_
              refine L.val rfl (op_move rfl s7_1) ?_
              refine L.val rfl (op_move rfl s7_2) ?_
              refine L.step rfl (OpS.call (op_call rfl (argsC rfl (argsC rfl (argsC rfl argsN))) Try.func118 rfl rfl) (reverseRange_ok (a := x) (b := y) hL hS hF (Nat.lt_of_lt_of_le hblk hE.size) hn hz7 hH (by omega) (by omega))) ?_
              rintro _ w13 ⟨rfl, D13, hpm13, hH13, hg13⟩
              have hE := hE.trans hg13
              have hF := hF.trans hg13
              have hS2 := hS2.trans hg13
              have hS11 := hS11.trans hg13
              have hB1 := hB1.farx hg13 ne1
              have hH := hH13
              have hcur : PermIn x y d1 D13 := hpm13
              refine L.nil ?_
              refine thenF_nor ?_
              refine W.seq ?_
              refine W.region (by rfl) ?_
              refine L.val rfl (op_move rfl s7_2) ?_
              refine L.val rfl (op_sub (c := ((y - 1 : Nat) : Int)) rfl rfl rfl (by omega) (by omega)) ?_
              refine L.val rfl (op_move rfl rfl) ?_
              refine L.val rfl (op_move rfl s7_1) ?_
              refine L.val rfl (op_sub (c := ((p10 - x : Nat) : Int)) rfl rfl rfl (by omega) (by omega)) ?_
              refine L.val rfl (op_sub (c := (((y - 1) - (p10 - x) : Nat) : Int)) rfl rfl rfl (by omega) (by omega)) ?_
              refine L.val rfl (op_assign rfl rfl) ?_
              refine L.nil ?_
              refine thenF_nor ?_
              refine W.region (by rfl) ?_
              refine L.val rfl (op_assign rfl rfl) ?_
              refine L.nil ?_
              refine thenF_nor ?_
              exact ⟨D13, (y - 1) - (p10 - x), 1, (hpm13.1.trans hz7), hcur, (by (try dsimp only); omega), (by (try dsimp only); omega), s7_1, s7_2, s7_3, s7_4, s7_8, s7_9, s7_10, s7_19, s7_20, s7_21, s7_22, s7_23, s7_28, s7_29, rfl, rfl, rfl, rfl, rfl, rfl, rfl, rfl, rfl, hH, hS11⟩
            · have hp12 := of_decide_eq_false hc12
              have hcur : PermIn x y d1 d1 := permIn_refl _ _ _
              refine W.skip ?_
              refine thenF_nor ?_
              exact ⟨d1, p10, h10, hz7, hcur, (by (try dsimp only); omega), (by (try dsimp only); omega), s7_1, s7_2, s7_3, s7_4, s7_8, s7_9, s7_10, s7_19, s7_20, s7_21, s7_22, s7_23, s7_28, s7_29, rfl, rfl, rfl, rfl, rfl, rfl, rfl, rfl, rfl, hH, hS11⟩
          · rintro f11 w11 ⟨d2, p2, h2, hz11, hd2, hp1, hp2, s11_1, s11_2, s11_3, s11_4, s11_8, s11_9, s11_10, s11_19, s11_20, s11_21, s11_22, s11_23, s11_28, s11_29, s11_42, s11_43, s11_44, s11_45, s11_46, s11_47, s11_48, s11_11, s11_12, hH, hS11⟩
            have hB1 := S11_hB1.farx hS11 ne1
            have hS2 := S11_hS2.trans hS11
            have hE := S11_hE.trans hS11
            have hF := S11_hF.trans hS11
            have hP2 : PermIn x y dk d2 := permIn_trans _ _ _ _ _ hd1 hd2
            have hB2 : Sort.Below lt x y d2 := hBl.perm (by omega) hP2
            have S14_hB1 := hB1
            have S14_hS2 := hS2
            have S14_hE := hE
            have S14_hF := hF
            have hS14 : Far blk w11 w11 := Far.refl _ _
            refine W.cut (fun (f : Fr) (w : World) => ∃ (d3 : Array α), d3.size = n ∧ PermIn x y d2 d3 ∧ f 1 = (.int .i64 ((x : Nat) : Int)) ∧ f 2 = (.int .i64 ((y : Nat) : Int)) ∧ f 3 = (.int .i64 ((l1 : Nat) : Int)) ∧ f 4 = (.pointer (some ⟨b1, 0, none⟩)) ∧ f 8 = (.bool wb) ∧ f 9 = (.bool wp) ∧ f 10 = (.int .i64 ((y - x : Nat) : Int)) ∧ f 11 = (.int .i64 ((p2 : Nat) : Int)) ∧ f 12 = (.int .i64 h2) ∧ f 19 = (.int .i64 ((y : Nat) : Int)) ∧ f 20 = (.int .i64 ((x : Nat) : Int)) ∧ f 21 = (.int .i64 ((y - x : Nat) : Int)) ∧ f 22 = (.int .i64 ((y - x : Nat) : Int)) ∧ f 23 = (.bool (decide (((y - x : Nat) : Int) ≤ 12))) ∧ f 28 = (.int .i64 ((l : Nat) : Int)) ∧ f 29 = (.bool (decide (((l : Nat) : Int) = 0))) ∧ f 42 = (.tuple #[(.int .i64 ((p10 : Nat) : Int)), (.int .i64 h10)]) ∧ f 43 = (.agg #[lv, sv]) ∧ f 44 = (.int .i64 ((x : Nat) : Int)) ∧ f 45 = (.int .i64 ((y : Nat) : Int)) ∧ f 46 = (.tuple #[(.int .i64 ((p10 : Nat) : Int)), (.int .i64 h10)]) ∧ f 47 = (.int .i64 ((p10 : Nat) : Int)) ∧ f 48 = (.int .i64 h10) ∧ Hld w blk off d3 ∧ Far blk w11 w) ?_ ?_
            · refine W.seq ?_
              refine W.region (by rfl) ?_
              refine L.val rfl (op_move rfl s11_8) ?_
              refine L.val rfl (op_move rfl rfl) ?_
              refine L.guardv (v := (.bool wp)) (wanted_yes rfl rfl rfl) (fun hg => (op_move rfl s11_9)) ?_
              refine L.val rfl (op_and rfl rfl rfl rfl) ?_
              refine L.val rfl (op_move rfl rfl) ?_
              refine L.guardv (v := (.int .i64 h2)) (wanted_yes rfl rfl rfl) (fun hg => (op_move rfl s11_12)) ?_
              refine L.guardv (v := (.bool (decide (h2 = 1)))) (wanted_yes rfl rfl rfl) (fun hg => (op_eql rfl ((show _ = vif _ (.int .i64 h2) from rfl).trans (vif_t hg).symm) rfl)) ?_
              refine L.val rfl (op_and rfl rfl rfl rfl) ?_
              refine L.nil ?_
              refine thenF_nor ?_
              refine W.cond (t := (wb && wp) && (decide (h2 = 1))) rfl (fun hc15 => ?_) (fun hc15 => ?_)
              · have hp15 := hc15
                simp only [Bool.and_eq_true, Bool.not_eq_true', decide_eq_true_eq] at hp15
                obtain ⟨hp15, hq15⟩ := hp15
                refine W.seq ?_
                refine W.region (by rfl) ?_
                refine L.val rfl (op_loadc (cs := [lv, sv]) rfl s11_4 ag106 si106 hB1.cells) ?_
                refine L.val rfl (op_move rfl s11_1) ?_
                refine L.val rfl (op_move rfl s11_2) ?_
                refine L.step rfl (OpS.call (op_call rfl (argsC rfl (argsC rfl (argsC rfl argsN))) Try.func119 rfl rfl) (partialInsertionSort_ok (a := x) (b := y) hL hS hF (Nat.lt_of_lt_of_le hblk hE.size) hn hz11 hH (by omega) (by omega))) ?_
                rintro u16 w16 ⟨hu16, hH16, hsz16, hg16⟩
                have hE := hE.trans hg16
                have hF := hF.trans hg16
                have hS2 := hS2.trans hg16
                have hS14 := hS14.trans hg16
                have hB1 := hB1.farx hg16 ne1
                have hH := hH16
                obtain ⟨D16, ok16, hD16⟩ : ∃ D ok, Sort.partialInsertionSort lt d2 x y = (D, ok) := ⟨_, _, rfl⟩
                have hpis := partialInsertionSort_holds hO d2 x y (by omega) (by omega) hB2
                rw [hD16] at hH hpis hsz16 hu16
                dsimp only at hH hpis hsz16 hu16
                subst hu16
                have hcur : PermIn x y d2 D16 := hpis.1
                refine L.nil ?_
                refine thenF_nor ?_
                refine W.cond (t := ok16) rfl (fun hc17 => ?_) (fun hc17 => ?_)
                · have hp17 := hc17
                  have hok := hc17
                  refine W.ret ?_
                  refine thenF_ret ?_
                  refine blockF_ret ?_
                  refine thenF_ret ?_
                  refine blockF_ret ?_
                  exact end_ret0 rfl (by have hh := hpis.2 hok; exact ⟨rfl, D16, (hGlue _ (permIn_trans _ _ _ _ _ hP2 hcur) hh).1, (hGlue _ (permIn_trans _ _ _ _ _ hP2 hcur) hh).2, hH, hE⟩)
                · have hp17 := hc17
                  refine W.skip ?_
                  refine thenF_nor ?_
                  exact ⟨D16, hsz16, hcur, s11_1, s11_2, s11_3, s11_4, s11_8, s11_9, s11_10, s11_11, s11_12, s11_19, s11_20, s11_21, s11_22, s11_23, s11_28, s11_29, s11_42, s11_43, s11_44, s11_45, s11_46, s11_47, s11_48, hH, hS14⟩
              · have hp15 := hc15
                have hcur : PermIn x y d2 d2 := permIn_refl _ _ _
                refine W.skip ?_
                refine thenF_nor ?_
                exact ⟨d2, hz11, hcur, s11_1, s11_2, s11_3, s11_4, s11_8, s11_9, s11_10, s11_11, s11_12, s11_19, s11_20, s11_21, s11_22, s11_23, s11_28, s11_29, s11_42, s11_43, s11_44, s11_45, s11_46, s11_47, s11_48, hH, hS14⟩
            · rintro f14 w14 ⟨d3, hz14, hd3, s14_1, s14_2, s14_3, s14_4, s14_8, s14_9, s14_10, s14_11, s14_12, s14_19, s14_20, s14_21, s14_22, s14_23, s14_28, s14_29, s14_42, s14_43, s14_44, s14_45, s14_46, s14_47, s14_48, hH, hS14⟩
              have hB1 := S14_hB1.farx hS14 ne1
              have hS2 := S14_hS2.trans hS14
              have hE := S14_hE.trans hS14
              have hF := S14_hF.trans hS14
              have hP3 : PermIn x y dk d3 := permIn_trans _ _ _ _ _ hP2 hd3
              have hB3 : Sort.Below lt x y d3 := hBl.perm (by omega) hP3
              refine W.seq ?_
              refine W.seq ?_
              refine W.region (by rfl) ?_
              refine L.val rfl (op_move rfl s14_1) ?_
              refine L.val rfl (op_gtr rfl rfl rfl) ?_
              refine L.val rfl (op_move rfl rfl) ?_
              refine L.guardv (v := (.pointer (some ⟨b1, 0, none⟩))) (wanted_yes rfl rfl rfl) (fun hg => (op_field rfl s14_4 fo106_0 rfl)) ?_
              refine L.guardv (v := lv) (wanted_yes rfl rfl rfl) (fun hg => (op_load1 rfl ((show _ = vif _ (.pointer (some ⟨b1, 0, none⟩)) from rfl).trans (vif_t hg).symm) one74 (hB1.cells.one (n := 0) rfl))) ?_
              refine L.guardv (v := (.int .i64 ((x : Nat) : Int))) (wanted_yes rfl rfl rfl) (fun hg => (op_move rfl s14_1)) ?_
              refine L.guardv (v := (.int .i64 ((x - 1 : Nat) : Int))) (wanted_yes rfl rfl rfl) (fun hg => by have hp := hg; simp only [Bool.and_eq_true, Bool.not_eq_true', decide_eq_true_eq, decide_eq_false_iff_not] at hp; exact (op_sub (c := ((x - 1 : Nat) : Int)) rfl ((show _ = vif _ (.int .i64 ((x : Nat) : Int)) from rfl).trans (vif_t hg).symm) rfl (by omega) (by omega))) ?_
              refine L.guardv (v := (.int .i64 ((p2 : Nat) : Int))) (wanted_yes rfl rfl rfl) (fun hg => (op_move rfl s14_11)) ?_
              refine L.guardc (v := (.bool (lt d3[x - 1]! d3[p2]!))) (wanted_yes rfl rfl rfl) (fun hg => by have hp := hg; simp only [Bool.and_eq_true, Bool.not_eq_true', decide_eq_true_eq, decide_eq_false_iff_not] at hp; exact (op_less (i := x - 1) (j := p2) hL hF hz14 hH rfl ((show _ = vif _ lv from rfl).trans (vif_t hg).symm) ((show _ = vif _ (.int .i64 ((x - 1 : Nat) : Int)) from rfl).trans (vif_t hg).symm) ((show _ = vif _ (.int .i64 ((p2 : Nat) : Int)) from rfl).trans (vif_t hg).symm) rfl rfl (by omega) (by omega))) ?_
              intro w18 hx18
              have hE := hE.trans (hx18.far blk)
              have hF := hF.trans (hx18.far blk)
              have hS2 := hS2.trans (hx18.far blk)
              have hB1 := hB1.ext hx18
              have hH := hH.ext hx18
              refine L.guardv (v := (.bool (!(lt d3[x - 1]! d3[p2]!)))) (wanted_yes rfl rfl rfl) (fun hg => (op_not rfl ((show _ = vif _ (.bool (lt d3[x - 1]! d3[p2]!)) from rfl).trans (vif_t hg).symm))) ?_
              refine L.val rfl (op_and rfl rfl rfl rfl) ?_
              refine L.nil ?_
              refine thenF_nor ?_
              refine W.cond (t := (decide (0 < ((x : Nat) : Int))) && (!(lt d3[x - 1]! d3[p2]!))) rfl (fun hc19 => ?_) (fun hc19 => ?_)
              · have hp19 := hc19
                simp only [Bool.and_eq_true, Bool.not_eq_true', decide_eq_true_eq] at hp19
                obtain ⟨hp19, hq19⟩ := hp19
                have hxx := hc19
                simp only [Bool.and_eq_true, decide_eq_true_eq, Bool.not_eq_true'] at hxx
                obtain ⟨hx0, hnl⟩ := hxx
                have hx0 : 0 < x := by omega
                refine W.seq ?_
                refine W.region (by rfl) ?_
                refine L.val rfl (op_loadc (cs := [lv, sv]) rfl s14_4 ag106 si106 hB1.cells) ?_
                refine L.val rfl (op_move rfl s14_1) ?_
                refine L.val rfl (op_move rfl s14_2) ?_
                refine L.val rfl (op_move rfl s14_11) ?_
                refine L.step rfl (OpS.call (op_call rfl (argsC rfl (argsC rfl (argsC rfl (argsC rfl argsN)))) Try.func120 rfl rfl) (partitionEqual_ok (a := x) (b := y) (pivot := p2) hL hS hF (Nat.lt_of_lt_of_le hblk hE.size) hn hz14 hH (by omega) (by omega) (by omega))) ?_
                rintro u20 w20 ⟨hu20, hH20, hsz20, hg20⟩
                have hE := hE.trans hg20
                have hF := hF.trans hg20
                have hS2 := hS2.trans hg20
                have hB1 := hB1.farx hg20 ne1
                have hH := hH20
                obtain ⟨mid, D20, hD20⟩ : ∃ mid D, Sort.partitionEqual lt d3 x y p2 = (mid, D) := ⟨_, _, rfl⟩
                obtain ⟨r1, r2, r3, r4, r5⟩ := round_eq hO (partitionEqual_holds lt) hx0 (by omega) (by omega) (by omega) hB3 hnl hD20
                rw [hD20] at hH hsz20 hu20
                dsimp only at hH hsz20 hu20
                subst hu20
                have hBn := r4
                have hGn : ∀ e, PermIn mid y D20 e → SortedIn lt mid y e → PermIn a b d e ∧ SortedIn lt a b e := fun e h1 h2 => hGlue e (permIn_trans _ _ _ _ _ hP3 (r5 e h1 h2).1) (r5 e h1 h2).2
                refine L.val rfl (op_assign rfl rfl) ?_
                refine L.nil ?_
                refine thenF_nor ?_
                refine W.seq ?_
                refine W.region (by rfl) ?_
                refine L.val rfl (op_move rfl rfl) ?_
                refine L.val rfl (op_assign rfl rfl) ?_
                refine L.nil ?_
                refine thenF_nor ?_
                refine W.exit ?_
                refine thenF_exit ?_
                refine blockF_hit ?_
                refine thenF_nor ?_
                exact ⟨(mid, y, l1, wb, wp, D20), ⟨hsz20, (by (try dsimp only); omega), (by (try dsimp only); omega), (by (try dsimp only); omega), (by (try dsimp only); omega), hBn, hGn, s14_4, rfl, s14_2, s14_3, s14_8, s14_9, hH, hS2⟩, (by (try dsimp only); omega)⟩
              · have hp19 := hc19
                refine W.skip ?_
                refine thenF_nor ?_
                refine W.seq ?_
                refine W.region (by rfl) ?_
                refine L.val rfl (op_loadc (cs := [lv, sv]) rfl s14_4 ag106 si106 hB1.cells) ?_
                refine L.val rfl (op_move rfl s14_1) ?_
                refine L.val rfl (op_move rfl s14_2) ?_
                refine L.val rfl (op_move rfl s14_11) ?_
                refine L.step rfl (OpS.call (op_call rfl (argsC rfl (argsC rfl (argsC rfl (argsC rfl argsN)))) Try.func121 rfl rfl) (partition_ok (a := x) (b := y) (pivot := p2) hL hS hF (Nat.lt_of_lt_of_le hblk hE.size) hn hz14 hH (by omega) (by omega) (by omega))) ?_
                rintro u21 w21 ⟨hu21, hH21, hsz21, hg21⟩
                have hE := hE.trans hg21
                have hF := hF.trans hg21
                have hS2 := hS2.trans hg21
                have hB1 := hB1.farx hg21 ne1
                have hH := hH21
                obtain ⟨mid, ap, D21, hD21⟩ : ∃ mid ap D, Sort.partition lt d3 x y p2 = (mid, ap, D) := ⟨_, _, _, rfl⟩
                obtain ⟨r1, r2, r3, r4, r5, r6, r7⟩ := round_part hO (partition_holds lt) (by omega) (by omega) (by omega) hB3 hD21
                rw [hD21] at hH hsz21 hu21
                dsimp only at hH hsz21 hu21
                subst hu21
                refine L.val rfl (op_move rfl rfl) ?_
                refine L.val rfl (op_extract rfl rfl rfl) ?_
                refine L.val rfl (op_extract rfl rfl rfl) ?_
                refine L.val rfl (op_assign rfl rfl) ?_
                refine L.val rfl (op_assign rfl rfl) ?_
                refine L.nil ?_
                refine thenF_nor ?_
                refine W.seq ?_
                refine W.region (by rfl) ?_
                refine L.val rfl (op_move rfl rfl) ?_
                refine L.val rfl (op_assign rfl rfl) ?_
                refine L.nil ?_
                refine thenF_nor ?_
                refine W.seq ?_
                refine W.region (by rfl) ?_
                refine L.val rfl (op_move rfl rfl) ?_
                refine L.val rfl (op_move rfl s14_1) ?_
                refine L.val rfl (op_sub (c := ((mid - x : Nat) : Int)) rfl rfl rfl (by omega) (by omega)) ?_
                refine L.val rfl (op_move rfl s14_2) ?_
                refine L.val rfl (op_move rfl rfl) ?_
                refine L.val rfl (op_sub (c := ((y - mid : Nat) : Int)) rfl rfl rfl (by omega) (by omega)) ?_
                refine L.val rfl (op_assign rfl rfl) ?_
                refine L.val rfl (op_assign rfl rfl) ?_
                refine L.nil ?_
                refine thenF_nor ?_
                refine W.seq ?_
                refine W.region (by rfl) ?_
                refine L.val rfl (op_move rfl s14_10) ?_
                refine L.val rfl (op_quoc (c := (((y - x) / 8 : Nat) : Int)) rfl rfl rfl (by omega) (by omega) (by omega) (by omega)) ?_
                refine L.val rfl (op_assign rfl rfl) ?_
                refine L.nil ?_
                refine thenF_nor ?_
                refine W.seq ?_
                refine W.region (by rfl) ?_
                refine L.val rfl (op_move rfl rfl) ?_
                refine L.val rfl (op_move rfl rfl) ?_
                refine L.val rfl (op_lss rfl rfl rfl) ?_
                refine L.nil ?_
                refine thenF_nor ?_
                refine W.cond (t := decide (((mid - x : Nat) : Int) < ((y - mid : Nat) : Int))) rfl (fun hc22 => ?_) (fun hc22 => ?_)
                · have hp22 := of_decide_eq_true hc22
                  refine W.seq ?_
                  refine W.region (by rfl) ?_
                  refine L.val rfl (op_move rfl rfl) ?_
                  refine L.val rfl (op_move rfl rfl) ?_
                  refine L.val rfl (op_geq rfl rfl rfl) ?_
                  refine L.val rfl (op_assign rfl rfl) ?_
                  refine L.nil ?_
                  refine thenF_nor ?_
                  refine W.seq ?_
                  refine W.region (by rfl) ?_
                  refine L.val rfl (op_loadc (cs := [lv, sv]) rfl s14_4 ag106 si106 hB1.cells) ?_
                  refine L.val rfl (op_move rfl s14_1) ?_
                  refine L.val rfl (op_move rfl rfl) ?_
                  refine L.val rfl (op_move rfl s14_3) ?_
                  refine L.step rfl (OpS.call (op_call rfl (argsC rfl (argsC rfl (argsC rfl (argsC rfl argsN)))) Try.func90 rfl rfl) (ih (a := x) (b := mid) (limit := l1) (by omega) hL hS hF (Nat.lt_of_lt_of_le hblk hE.size) hn hsz21 hH (by omega) (by omega) (by omega) r4)) ?_
                  rintro _ w23 ⟨rfl, D23, hpm23, hso23, hH23, hg23⟩
                  have hE := hE.trans hg23
                  have hF := hF.trans hg23
                  have hS2 := hS2.trans hg23
                  have hB1 := hB1.farx hg23 ne1
                  have hH := hH23
                  obtain ⟨hBn, hR23⟩ := r6 D23 hpm23 hso23
                  have hGn : ∀ e, PermIn (mid + 1) y D23 e → SortedIn lt (mid + 1) y e → PermIn a b d e ∧ SortedIn lt a b e := fun e h1 h2 => hGlue e (permIn_trans _ _ _ _ _ hP3 (hR23 e h1 h2).1) (hR23 e h1 h2).2
                  refine L.nil ?_
                  refine thenF_nor ?_
                  refine W.region (by rfl) ?_
                  refine L.val rfl (op_move rfl rfl) ?_
                  refine L.val rfl (op_add (c := ((mid + 1 : Nat) : Int)) rfl rfl rfl (by omega) (by omega)) ?_
                  refine L.val rfl (op_assign rfl rfl) ?_
                  refine L.nil ?_
                  refine blockF_nor ?_
                  refine thenF_nor ?_
                  exact ⟨(mid + 1, y, l1, decide ((((y - x) / 8 : Nat) : Int) ≤ ((mid - x : Nat) : Int)), ap, D23), ⟨(hpm23.1.trans hsz21), (by (try dsimp only); omega), (by (try dsimp only); omega), (by (try dsimp only); omega), (by (try dsimp only); omega), hBn, hGn, s14_4, rfl, s14_2, s14_3, rfl, rfl, hH, hS2⟩, (by (try dsimp only); omega)⟩
                · have hp22 := of_decide_eq_false hc22
                  refine W.seq ?_
                  refine W.region (by rfl) ?_
                  refine L.val rfl (op_move rfl rfl) ?_
                  refine L.val rfl (op_move rfl rfl) ?_
                  refine L.val rfl (op_geq rfl rfl rfl) ?_
                  refine L.val rfl (op_assign rfl rfl) ?_
                  refine L.nil ?_
                  refine thenF_nor ?_
                  refine W.seq ?_
                  refine W.region (by rfl) ?_
                  refine L.val rfl (op_loadc (cs := [lv, sv]) rfl s14_4 ag106 si106 hB1.cells) ?_
                  refine L.val rfl (op_move rfl rfl) ?_
                  refine L.val rfl (op_add (c := ((mid + 1 : Nat) : Int)) rfl rfl rfl (by omega) (by omega)) ?_
                  refine L.val rfl (op_move rfl s14_2) ?_
                  refine L.val rfl (op_move rfl s14_3) ?_
                  refine L.step rfl (OpS.call (op_call rfl (argsC rfl (argsC rfl (argsC rfl (argsC rfl argsN)))) Try.func90 rfl rfl) (ih (a := mid + 1) (b := y) (limit := l1) (by omega) hL hS hF (Nat.lt_of_lt_of_le hblk hE.size) hn hsz21 hH (by omega) (by omega) (by omega) r5)) ?_
                  rintro _ w24 ⟨rfl, D24, hpm24, hso24, hH24, hg24⟩
                  have hE := hE.trans hg24
                  have hF := hF.trans hg24
                  have hS2 := hS2.trans hg24
                  have hB1 := hB1.farx hg24 ne1
                  have hH := hH24
                  obtain ⟨hBn, hR24⟩ := r7 D24 hpm24 hso24
                  have hGn : ∀ e, PermIn x mid D24 e → SortedIn lt x mid e → PermIn a b d e ∧ SortedIn lt a b e := fun e h1 h2 => hGlue e (permIn_trans _ _ _ _ _ hP3 (hR24 e h1 h2).1) (hR24 e h1 h2).2
                  refine L.nil ?_
                  refine thenF_nor ?_
                  refine W.region (by rfl) ?_
                  refine L.val rfl (op_move rfl rfl) ?_
                  refine L.val rfl (op_assign rfl rfl) ?_
                  refine L.nil ?_
                  refine blockF_nor ?_
                  refine thenF_nor ?_
                  exact ⟨(x, mid, l1, decide ((((y - x) / 8 : Nat) : Int) ≤ ((y - mid : Nat) : Int)), ap, D24), ⟨(hpm24.1.trans hsz21), (by (try dsimp only); omega), (by (try dsimp only); omega), (by (try dsimp only); omega), (by (try dsimp only); omega), hBn, hGn, s14_4, s14_1, rfl, s14_3, rfl, rfl, hH, hS2⟩, (by (try dsimp only); omega)⟩

end Go.Proofs.Ytdknjfmjddlphaa
