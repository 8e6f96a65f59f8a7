/-
  Contracts of functions of the program, each with its walk in the logic of frames. Printed by a program of this session (wip/gen) from the translation.
-/
import Derived.Test.YtdknjfmjddlphaaGB2
import Derived.Test.YtdknjfmjddlphaaLaw15
set_option linter.unusedSimpArgs false
set_option linter.unusedVariables false
namespace Go.Proofs.Ytdknjfmjddlphaa
open Go Go.Fk

set_option maxRecDepth 100000 in
set_option maxHeartbeats 8000000 in
theorem BroadcastProposed_ok {m : Int} {parent : Nm} {A_l : Option Addr} {c_l lo_l hi_l : Nat} {l : List Vt} {slot : Int}  {w : World} (hR_l : Rd w lo_l hi_l A_l l) (hcap_l : l.length ≤ c_l) : Gives Try.prog 7 #[(.int .i64 m), (Enc.val (parent : Nm)), (.slice A_l l.length c_l), (.int .i64 slot)] w fun u w' => u = (.bool true) ∧ Ext w w' := by
  have hE : Ext w w := Ext.refl w
  have hlen_l := hR_l.len
  refine gives_of_W Try.func7 rfl Try.ntmps7 rfl ?_
  have htl : (l.take 250).length ≤ 250 := List.length_take_le _ _
  have hsz0 := size_nn m
  have hsz1 := size_le m
  refine W.seq ?_
  refine W.region (by rfl) ?_
  refine L.step rfl (op_box (cs := (Enc.cells (parent : Nm))) rfl rfl rfl) ?_
  rintro _ w1 ⟨b1, rfl, hb1, hB1, hx1⟩
  have hE := hE.trans hx1
  have hR_l := hR_l.ext hx1
  refine L.val (v := (.bool false)) rfl (op_assign rfl rfl) ?_
  refine L.nil ?_
  refine thenF_nor ?_
  refine W.seq ?_
  refine W.region (by rfl) ?_
  refine L.val rfl (op_move rfl rfl) ?_
  refine L.step rfl (OpS.call (op_call rfl (argsC rfl argsN) Try.func27 rfl rfl) (cut15_ok hR_l hcap_l)) ?_
  rintro _ w2 ⟨⟨A2, c2, lo2, hi2, rfl, hcap2, hR2⟩, hx2⟩
  have hE := hE.trans hx2
  have hR_l := hR_l.ext hx2
  have hB1 := hB1.ext hx2
  have hlen2 := hR2.len
  refine L.val rfl (op_assign rfl rfl) ?_
  refine L.nil ?_
  refine thenF_nor ?_
  refine W.seq ?_
  refine W.drawS [Sp.eq (.int .i64 m), Sp.eq (Enc.val (parent : Nm)), Sp.eq (.slice A2 (l.take 250).length c2), Sp.eq (.int .i64 slot), Sp.slr (proposals_f m parent (l.take 250) slot : List Nm), Sp.eq (.int .i64 m), Sp.eq (Enc.val (parent : Nm)), Sp.eq (.slice A2 (l.take 250).length c2), Sp.eq (.int .i64 slot), Sp.slr (certified_f m parent (l.take 250) slot : List Nm), Sp.slr (proposals_f m parent (l.take 250) slot : List Nm), Sp.slr (certified_f m parent (l.take 250) slot : List Nm)] mixed (by rfl) (Obls.cons ?_ (Obls.cons ?_ (Obls.cons ?_ (Obls.cons ?_ (Obls.cons ?_ (Obls.cons ?_ (Obls.cons ?_ (Obls.cons ?_ (Obls.cons ?_ (Obls.cons ?_ (Obls.cons ?_ (Obls.cons ?_ Obls.nil)))))))))))) ?_
  · intro f4 w4 hx4 ho4 hd4
    have d4_s0 : f4 0 = (.int .i64 m) := ho4 0 rfl
    exact D.val rfl (op_move rfl d4_s0)
  · intro f5 w5 hx5 ho5 hd5
    have d5_s5 : f5 5 = (.pointer (some ⟨b1, 0, none⟩)) := ho5 5 rfl
    have hR_l := hR_l.ext hx5
    have hB1 := hB1.ext hx5
    have hR2 := hR2.ext hx5
    exact D.val rfl (op_load (v := (parent : Nm)) rfl d5_s5 ty24 hB1.cells)
  · intro f6 w6 hx6 ho6 hd6
    have d6_s2 : f6 2 = (.slice A2 (l.take 250).length c2) := ho6 2 rfl
    exact D.val rfl (op_move rfl d6_s2)
  · intro f7 w7 hx7 ho7 hd7
    have d7_s3 : f7 3 = (.int .i64 slot) := ho7 3 rfl
    exact D.val rfl (op_move rfl d7_s3)
  · intro f8 w8 hx8 ho8 hd8
    have d8_0 : f8 17 = (.int .i64 m) := hd8 0 rfl
    have d8_1 : f8 18 = (Enc.val (parent : Nm)) := hd8 1 rfl
    have d8_2 : f8 19 = (.slice A2 (l.take 250).length c2) := hd8 2 rfl
    have d8_3 : f8 20 = (.int .i64 slot) := hd8 3 rfl
    have hR_l := hR_l.ext hx8
    have hB1 := hB1.ext hx8
    have hR2 := hR2.ext hx8
    exact D.call (R := (Sp.slr (proposals_f m parent (l.take 250) slot : List Nm)).p) rfl (OpS.call (op_call rfl (argsC d8_0 (argsC d8_1 (argsC d8_2 (argsC d8_3 argsN)))) Try.func33 rfl rfl) (Proposals_ok hR2 (by first | omega | (simp only [List.length_drop, List.length_take, List.length_append, List.length_cons, List.length_nil] at *; omega))))
  · intro f9 w9 hx9 ho9 hd9
    have d9_s0 : f9 0 = (.int .i64 m) := ho9 0 rfl
    exact D.val rfl (op_move rfl d9_s0)
  · intro f10 w10 hx10 ho10 hd10
    have d10_s5 : f10 5 = (.pointer (some ⟨b1, 0, none⟩)) := ho10 5 rfl
    have hR_l := hR_l.ext hx10
    have hB1 := hB1.ext hx10
    have hR2 := hR2.ext hx10
    exact D.val rfl (op_load (v := (parent : Nm)) rfl d10_s5 ty24 hB1.cells)
  · intro f11 w11 hx11 ho11 hd11
    have d11_s2 : f11 2 = (.slice A2 (l.take 250).length c2) := ho11 2 rfl
    exact D.val rfl (op_move rfl d11_s2)
  · intro f12 w12 hx12 ho12 hd12
    have d12_s3 : f12 3 = (.int .i64 slot) := ho12 3 rfl
    exact D.val rfl (op_move rfl d12_s3)
  · intro f13 w13 hx13 ho13 hd13
    have d13_5 : f13 22 = (.int .i64 m) := hd13 5 rfl
    have d13_6 : f13 23 = (Enc.val (parent : Nm)) := hd13 6 rfl
    have d13_7 : f13 24 = (.slice A2 (l.take 250).length c2) := hd13 7 rfl
    have d13_8 : f13 25 = (.int .i64 slot) := hd13 8 rfl
    have hR_l := hR_l.ext hx13
    have hB1 := hB1.ext hx13
    have hR2 := hR2.ext hx13
    exact D.call (R := (Sp.slr (certified_f m parent (l.take 250) slot : List Nm)).p) rfl (OpS.call (op_call rfl (argsC d13_5 (argsC d13_6 (argsC d13_7 (argsC d13_8 argsN)))) Try.func28 rfl rfl) (Certified_ok hR2 (by first | omega | (simp only [List.length_drop, List.length_take, List.length_append, List.length_cons, List.length_nil] at *; omega))))
  · intro f14 w14 hx14 ho14 hd14
    exact D.call (R := (Sp.slr (proposals_f m parent (l.take 250) slot : List Nm)).p) rfl (OpS.val (op_assign rfl rfl) ⟨hd14 4 rfl, Ext.refl _⟩)
  · intro f15 w15 hx15 ho15 hd15
    exact D.call (R := (Sp.slr (certified_f m parent (l.take 250) slot : List Nm)).p) rfl (OpS.val (op_assign rfl rfl) ⟨hd15 9 rfl, Ext.refl _⟩)
  intro f16 w16 hx16 ho16 hr16
  have s0 : f16 0 = (.int .i64 m) := ho16 0 rfl
  have s1 : f16 1 = (Enc.val (parent : Nm)) := ho16 1 rfl
  have s2 : f16 2 = (.slice A2 (l.take 250).length c2) := ho16 2 rfl
  have s3 : f16 3 = (.int .i64 slot) := ho16 3 rfl
  have s5 : f16 5 = (.pointer (some ⟨b1, 0, none⟩)) := ho16 5 rfl
  have s8 : f16 8 = (.bool false) := ho16 8 rfl
  obtain ⟨A16_10, c16_10, lo16_10, hi16_10, e16_10, hcap16_10, hR16_10⟩ := hr16 10 (by decide)
  have hlen16_10 := hR16_10.len
  obtain ⟨A16_11, c16_11, lo16_11, hi16_11, e16_11, hcap16_11, hR16_11⟩ := hr16 11 (by decide)
  have hlen16_11 := hR16_11.len
  have hE := hE.trans hx16
  have hR_l := hR_l.ext hx16
  have hB1 := hB1.ext hx16
  have hR2 := hR2.ext hx16
  refine thenF_nor ?_
  refine W.seq ?_
  refine W.seq ?_
  refine W.region (by rfl) ?_
  refine L.val rfl (op_assign rfl rfl) ?_
  refine L.nil ?_
  refine thenF_nor ?_
  refine W.block ?_
  have S17_hR_l := hR_l
  have S17_hB1 := hB1
  have S17_hR2 := hR2
  have S17_hR16_10 := hR16_10
  have S17_hR16_11 := hR16_11
  have S17_hE := hE
  have hS17 : Ext w16 w16 := Ext.refl _
  refine W.loopg (γ := Nat) (fun (i : Nat) (f : Fr) (ww : World) => i ≤ (certified_f m parent (l.take 250) slot).length ∧ f 0 = (.int .i64 m) ∧ f 2 = (.slice A2 (l.take 250).length c2) ∧ f 3 = (.int .i64 slot) ∧ f 5 = (.pointer (some ⟨b1, 0, none⟩)) ∧ f 9 = (.slice A16_10 (proposals_f m parent (l.take 250) slot).length c16_10) ∧ f 10 = (.slice A16_11 (certified_f m parent (l.take 250) slot).length c16_11) ∧ f 11 = (.int .i64 ((i : Nat) : Int)) ∧ Ext w16 ww) (fun (i : Nat) => (certified_f m parent (l.take 250) slot).length - i) 0 ⟨(by (try dsimp only); omega), s0, s2, s3, s5, e16_10, e16_11, rfl, hS17⟩ ?_
  rintro i f18 w18 ⟨hi, s18_0, s18_2, s18_3, s18_5, s18_9, s18_10, s18_11, hS17⟩
  have hR_l := S17_hR_l.ext hS17
  have hB1 := S17_hB1.ext hS17
  have hR2 := S17_hR2.ext hS17
  have hR16_10 := S17_hR16_10.ext hS17
  have hR16_11 := S17_hR16_11.ext hS17
  have hE := S17_hE.trans hS17
  refine W.seq ?_
  refine W.seq ?_
  refine W.region (by rfl) ?_
  refine L.val rfl (op_move rfl s18_11) ?_
  refine L.val rfl (op_move rfl s18_10) ?_
  refine L.val rfl (op_len rfl rfl ln40) ?_
  refine L.val rfl (op_lss rfl rfl rfl) ?_
  refine L.nil ?_
  refine thenF_nor ?_
  refine W.cond (t := decide (((i : Nat) : Int) < ((certified_f m parent (l.take 250) slot).length : Int))) rfl (fun hc19 => ?_) (fun hc19 => ?_)
  · have hp19 := hc19
    simp only [Bool.and_eq_true, Bool.or_eq_true, Bool.and_eq_false_iff, Bool.or_eq_false_iff, Bool.not_eq_true', Bool.not_eq_false', decide_eq_true_eq, decide_eq_false_iff_not] at hp19
    refine W.skip ?_
    refine thenF_nor ?_
    refine W.seq ?_
    refine W.block ?_
    refine W.seq ?_
    refine W.region (by rfl) ?_
    refine L.val (v := (.bool false)) rfl (op_assign rfl rfl) ?_
    refine L.nil ?_
    refine thenF_nor ?_
    refine W.seq ?_
    refine W.seq ?_
    refine W.region (by rfl) ?_
    refine L.val rfl (op_assign rfl rfl) ?_
    refine L.nil ?_
    refine thenF_nor ?_
    refine W.block ?_
    have S20_hR_l := hR_l
    have S20_hB1 := hB1
    have S20_hR2 := hR2
    have S20_hR16_10 := hR16_10
    have S20_hR16_11 := hR16_11
    have S20_hE := hE
    have S20_hS17 := hS17
    have hS20 : Ext w18 w18 := Ext.refl _
    refine W.loopg (γ := Nat × Bool) (fun (g : Nat × Bool) (f : Fr) (ww : World) => g.1 ≤ (proposals_f m parent (l.take 250) slot).length ∧ ((proposals_f m parent (l.take 250) slot).take g.1).any (fun x => decide (x = (certified_f m parent (l.take 250) slot)[i]!)) = g.2 ∧ f 0 = (.int .i64 m) ∧ f 2 = (.slice A2 (l.take 250).length c2) ∧ f 3 = (.int .i64 slot) ∧ f 5 = (.pointer (some ⟨b1, 0, none⟩)) ∧ f 9 = (.slice A16_10 (proposals_f m parent (l.take 250) slot).length c16_10) ∧ f 10 = (.slice A16_11 (certified_f m parent (l.take 250) slot).length c16_11) ∧ f 11 = (.int .i64 ((i : Nat) : Int)) ∧ f 30 = (.bool (decide (((i : Nat) : Int) < ((certified_f m parent (l.take 250) slot).length : Int)))) ∧ f 13 = (.int .i64 ((g.1 : Nat) : Int)) ∧ f 12 = (.bool g.2) ∧ Ext w18 ww) (fun (g : Nat × Bool) => (proposals_f m parent (l.take 250) slot).length - g.1) (0, false) ⟨(by (try dsimp only); omega), rfl, s18_0, s18_2, s18_3, s18_5, s18_9, s18_10, s18_11, rfl, rfl, rfl, hS20⟩ ?_
    rintro ⟨k, u⟩ f21 w21 ⟨hk, hu, s21_0, s21_2, s21_3, s21_5, s21_9, s21_10, s21_11, s21_30, s21_13, s21_12, hS20⟩
    dsimp only at hk hu s21_0 s21_2 s21_3 s21_5 s21_9 s21_10 s21_11 s21_30 s21_13 s21_12 hS20
    have hR_l := S20_hR_l.ext hS20
    have hB1 := S20_hB1.ext hS20
    have hR2 := S20_hR2.ext hS20
    have hR16_10 := S20_hR16_10.ext hS20
    have hR16_11 := S20_hR16_11.ext hS20
    have hE := S20_hE.trans hS20
    have hS17 := S20_hS17.trans hS20
    refine W.seq ?_
    refine W.seq ?_
    refine W.region (by rfl) ?_
    refine L.val rfl (op_move rfl s21_13) ?_
    refine L.val rfl (op_move rfl s21_9) ?_
    refine L.val rfl (op_len rfl rfl ln40) ?_
    refine L.val rfl (op_lss rfl rfl rfl) ?_
    refine L.nil ?_
    refine thenF_nor ?_
    refine W.cond (t := decide (((k : Nat) : Int) < ((proposals_f m parent (l.take 250) slot).length : Int))) rfl (fun hc22 => ?_) (fun hc22 => ?_)
    · have hp22 := hc22
      simp only [Bool.and_eq_true, Bool.or_eq_true, Bool.and_eq_false_iff, Bool.or_eq_false_iff, Bool.not_eq_true', Bool.not_eq_false', decide_eq_true_eq, decide_eq_false_iff_not] at hp22
      refine W.skip ?_
      refine thenF_nor ?_
      refine W.seq ?_
      refine W.block ?_
      refine W.drawL [Sp.eq (.bool u), Sp.eq (.bool u), Sp.eq (vif (!u) (.slice A16_10 (proposals_f m parent (l.take 250) slot).length c16_10)), Sp.eq (vif (!u) (.int .i64 ((k : Nat) : Int))), Sp.eq (vif (!u) (.pointer (some ((adr A16_10).add (k * 8))))), Sp.eq (vif (!u) (Enc.val ((proposals_f m parent (l.take 250) slot)[k]!))), Sp.eq (vif (!u) (.slice A16_11 (certified_f m parent (l.take 250) slot).length c16_11)), Sp.eq (vif (!u) (.int .i64 ((i : Nat) : Int))), Sp.eq (vif (!u) (.pointer (some ((adr A16_11).add (i * 8))))), Sp.eq (vif (!u) (Enc.val ((certified_f m parent (l.take 250) slot)[i]!))), Sp.eq (vif (!u) (.bool (decide ((proposals_f m parent (l.take 250) slot)[k]! = (certified_f m parent (l.take 250) slot)[i]!)))), Sp.eq (.bool (u || (decide ((proposals_f m parent (l.take 250) slot)[k]! = (certified_f m parent (l.take 250) slot)[i]!)))), Sp.eq (.bool (u || (decide ((proposals_f m parent (l.take 250) slot)[k]! = (certified_f m parent (l.take 250) slot)[i]!))))] mixed (by rfl) (OblsL.cons ?_ (OblsL.cons ?_ (OblsL.cons ?_ (OblsL.cons ?_ (OblsL.cons ?_ (OblsL.cons ?_ (OblsL.cons ?_ (OblsL.cons ?_ (OblsL.cons ?_ (OblsL.cons ?_ (OblsL.cons ?_ (OblsL.cons ?_ (OblsL.cons ?_ OblsL.nil))))))))))))) ?_
      · intro f24 w24 hx24 ho24 hd24 hl24
        have d24_s12 : f24 12 = (.bool u) := (hl24 12 12 rfl rfl).trans s21_12
        exact D.val rfl (op_move rfl d24_s12)
      · intro f25 w25 hx25 ho25 hd25 hl25
        have d25_0 : f25 39 = (.bool u) := hd25 0 rfl
        exact D.val rfl (op_move rfl d25_0)
      · intro f26 w26 hx26 ho26 hd26 hl26
        have d26_s9 : f26 9 = (.slice A16_10 (proposals_f m parent (l.take 250) slot).length c16_10) := (ho26 9 rfl).trans s21_9
        have d26_1 : f26 40 = (.bool u) := hd26 1 rfl
        exact D.guardv (wanted_no rfl rfl d26_1) (fun hg => (op_move rfl d26_s9))
      · intro f27 w27 hx27 ho27 hd27 hl27
        have d27_s13 : f27 13 = (.int .i64 ((k : Nat) : Int)) := (ho27 13 rfl).trans s21_13
        have d27_1 : f27 40 = (.bool u) := hd27 1 rfl
        exact D.guardv (wanted_no rfl rfl d27_1) (fun hg => (op_move rfl d27_s13))
      · intro f28 w28 hx28 ho28 hd28 hl28
        have d28_1 : f28 40 = (.bool u) := hd28 1 rfl
        have d28_2 : f28 41 = (vif (!u) (.slice A16_10 (proposals_f m parent (l.take 250) slot).length c16_10)) := hd28 2 rfl
        have d28_3 : f28 42 = (vif (!u) (.int .i64 ((k : Nat) : Int))) := hd28 3 rfl
        have hR_l := hR_l.ext hx28
        have hB1 := hB1.ext hx28
        have hR2 := hR2.ext hx28
        have hR16_10 := hR16_10.ext hx28
        have hR16_11 := hR16_11.ext hx28
        exact D.guardv (wanted_no rfl rfl d28_1) (fun hg => by have hp := hg; try simp only [Bool.and_eq_true, Bool.or_eq_true, Bool.not_eq_true', decide_eq_true_eq, decide_eq_false_iff_not, bne_iff_ne, beq_iff_eq] at hp; skip; exact (op_index (k := k) rfl ((show _ = vif _ (.slice A16_10 (proposals_f m parent (l.take 250) slot).length c16_10) from d28_2).trans (vif_t hg).symm) ((show _ = vif _ (.int .i64 ((k : Nat) : Int)) from d28_3).trans (vif_t hg).symm) sl40 (hR16_10.getA (get_bang (l := proposals_f m parent (l.take 250) slot) (k := k) (by omega))).1 rfl (by omega) rfl))
      · intro f29 w29 hx29 ho29 hd29 hl29
        have d29_1 : f29 40 = (.bool u) := hd29 1 rfl
        have d29_4 : f29 43 = (vif (!u) (.pointer (some ((adr A16_10).add (k * 8))))) := hd29 4 rfl
        have hR_l := hR_l.ext hx29
        have hB1 := hB1.ext hx29
        have hR2 := hR2.ext hx29
        have hR16_10 := hR16_10.ext hx29
        have hR16_11 := hR16_11.ext hx29
        exact D.guardv (wanted_no rfl rfl d29_1) (fun hg => by have hp := hg; try simp only [Bool.and_eq_true, Bool.or_eq_true, Bool.not_eq_true', decide_eq_true_eq, decide_eq_false_iff_not, bne_iff_ne, beq_iff_eq] at hp; skip; exact (op_load (v := (proposals_f m parent (l.take 250) slot)[k]!) rfl ((show _ = vif _ (.pointer (some ((adr A16_10).add (k * 8)))) from d29_4).trans (vif_t hg).symm) ty24 (hR16_10.getA (get_bang (l := proposals_f m parent (l.take 250) slot) (k := k) (by omega))).2))
      · intro f30 w30 hx30 ho30 hd30 hl30
        have d30_s10 : f30 10 = (.slice A16_11 (certified_f m parent (l.take 250) slot).length c16_11) := (ho30 10 rfl).trans s21_10
        have d30_1 : f30 40 = (.bool u) := hd30 1 rfl
        exact D.guardv (wanted_no rfl rfl d30_1) (fun hg => (op_move rfl d30_s10))
      · intro f31 w31 hx31 ho31 hd31 hl31
        have d31_s11 : f31 11 = (.int .i64 ((i : Nat) : Int)) := (ho31 11 rfl).trans s21_11
        have d31_1 : f31 40 = (.bool u) := hd31 1 rfl
        exact D.guardv (wanted_no rfl rfl d31_1) (fun hg => (op_move rfl d31_s11))
      · intro f32 w32 hx32 ho32 hd32 hl32
        have d32_1 : f32 40 = (.bool u) := hd32 1 rfl
        have d32_6 : f32 45 = (vif (!u) (.slice A16_11 (certified_f m parent (l.take 250) slot).length c16_11)) := hd32 6 rfl
        have d32_7 : f32 46 = (vif (!u) (.int .i64 ((i : Nat) : Int))) := hd32 7 rfl
        have hR_l := hR_l.ext hx32
        have hB1 := hB1.ext hx32
        have hR2 := hR2.ext hx32
        have hR16_10 := hR16_10.ext hx32
        have hR16_11 := hR16_11.ext hx32
        exact D.guardv (wanted_no rfl rfl d32_1) (fun hg => by have hp := hg; try simp only [Bool.and_eq_true, Bool.or_eq_true, Bool.not_eq_true', decide_eq_true_eq, decide_eq_false_iff_not, bne_iff_ne, beq_iff_eq] at hp; skip; exact (op_index (k := i) rfl ((show _ = vif _ (.slice A16_11 (certified_f m parent (l.take 250) slot).length c16_11) from d32_6).trans (vif_t hg).symm) ((show _ = vif _ (.int .i64 ((i : Nat) : Int)) from d32_7).trans (vif_t hg).symm) sl40 (hR16_11.getA (get_bang (l := certified_f m parent (l.take 250) slot) (k := i) (by omega))).1 rfl (by omega) rfl))
      · intro f33 w33 hx33 ho33 hd33 hl33
        have d33_1 : f33 40 = (.bool u) := hd33 1 rfl
        have d33_8 : f33 47 = (vif (!u) (.pointer (some ((adr A16_11).add (i * 8))))) := hd33 8 rfl
        have hR_l := hR_l.ext hx33
        have hB1 := hB1.ext hx33
        have hR2 := hR2.ext hx33
        have hR16_10 := hR16_10.ext hx33
        have hR16_11 := hR16_11.ext hx33
        exact D.guardv (wanted_no rfl rfl d33_1) (fun hg => by have hp := hg; try simp only [Bool.and_eq_true, Bool.or_eq_true, Bool.not_eq_true', decide_eq_true_eq, decide_eq_false_iff_not, bne_iff_ne, beq_iff_eq] at hp; skip; exact (op_load (v := (certified_f m parent (l.take 250) slot)[i]!) rfl ((show _ = vif _ (.pointer (some ((adr A16_11).add (i * 8)))) from d33_8).trans (vif_t hg).symm) ty24 (hR16_11.getA (get_bang (l := certified_f m parent (l.take 250) slot) (k := i) (by omega))).2))
      · intro f34 w34 hx34 ho34 hd34 hl34
        have d34_1 : f34 40 = (.bool u) := hd34 1 rfl
        have d34_5 : f34 44 = (vif (!u) (Enc.val ((proposals_f m parent (l.take 250) slot)[k]!))) := hd34 5 rfl
        have d34_9 : f34 48 = (vif (!u) (Enc.val ((certified_f m parent (l.take 250) slot)[i]!))) := hd34 9 rfl
        exact D.guardv (wanted_no rfl rfl d34_1) (fun hg => (op_eqle (a := ((proposals_f m parent (l.take 250) slot)[k]! : Nm)) (b := ((certified_f m parent (l.take 250) slot)[i]! : Nm)) rfl ((show _ = vif _ (Enc.val ((proposals_f m parent (l.take 250) slot)[k]!)) from d34_5).trans (vif_t hg).symm) ((show _ = vif _ (Enc.val ((certified_f m parent (l.take 250) slot)[i]!)) from d34_9).trans (vif_t hg).symm) eq24 (fun _ => ⟨_, rfl⟩) Try.eqGuardType24))
      · intro f35 w35 hx35 ho35 hd35 hl35
        have d35_1 : f35 40 = (.bool u) := hd35 1 rfl
        have d35_10 : f35 49 = (vif (!u) (.bool (decide ((proposals_f m parent (l.take 250) slot)[k]! = (certified_f m parent (l.take 250) slot)[i]!)))) := hd35 10 rfl
        exact D.val rfl (op_or rfl d35_1 rfl d35_10)
      · intro f36 w36 hx36 ho36 hd36 hl36
        have d36_11 : f36 50 = (.bool (u || (decide ((proposals_f m parent (l.take 250) slot)[k]! = (certified_f m parent (l.take 250) slot)[i]!)))) := hd36 11 rfl
        exact D.val rfl (op_assign rfl d36_11)
      intro f37 w37 hx37 ho37 hr37
      have s0 : f37 0 = (.int .i64 m) := (ho37 0 rfl).trans s21_0
      have s2 : f37 2 = (.slice A2 (l.take 250).length c2) := (ho37 2 rfl).trans s21_2
      have s3 : f37 3 = (.int .i64 slot) := (ho37 3 rfl).trans s21_3
      have s5 : f37 5 = (.pointer (some ⟨b1, 0, none⟩)) := (ho37 5 rfl).trans s21_5
      have s9 : f37 9 = (.slice A16_10 (proposals_f m parent (l.take 250) slot).length c16_10) := (ho37 9 rfl).trans s21_9
      have s10 : f37 10 = (.slice A16_11 (certified_f m parent (l.take 250) slot).length c16_11) := (ho37 10 rfl).trans s21_10
      have s11 : f37 11 = (.int .i64 ((i : Nat) : Int)) := (ho37 11 rfl).trans s21_11
      have s13 : f37 13 = (.int .i64 ((k : Nat) : Int)) := (ho37 13 rfl).trans s21_13
      have s30 : f37 30 = (.bool (decide (((i : Nat) : Int) < ((certified_f m parent (l.take 250) slot).length : Int)))) := (ho37 30 rfl).trans s21_30
      have s36 : f37 36 = (.bool (decide (((k : Nat) : Int) < ((proposals_f m parent (l.take 250) slot).length : Int)))) := ho37 36 rfl
      have s12 : f37 12 = (.bool (u || (decide ((proposals_f m parent (l.take 250) slot)[k]! = (certified_f m parent (l.take 250) slot)[i]!)))) := hr37 12 (by decide)
      have hE := hE.trans hx37
      have hS17 := hS17.trans hx37
      have hS20 := hS20.trans hx37
      have hR_l := hR_l.ext hx37
      have hB1 := hB1.ext hx37
      have hR2 := hR2.ext hx37
      have hR16_10 := hR16_10.ext hx37
      have hR16_11 := hR16_11.ext hx37
      refine blockF_nor ?_
      refine thenF_nor ?_
      refine W.region (by rfl) ?_
      refine L.val rfl (op_move rfl s13) ?_
      refine L.val rfl (op_add (c := ((k + 1 : Nat) : Int)) rfl rfl rfl (by omega) (by omega)) ?_
      refine L.val rfl (op_assign rfl rfl) ?_
      refine L.nil ?_
      refine thenF_nor ?_
      exact ⟨(k + 1, u || (decide ((proposals_f m parent (l.take 250) slot)[k]! = (certified_f m parent (l.take 250) slot)[i]!))), ⟨(by (try dsimp only); omega), (by dsimp only; rw [any_take_go (by omega), hu]), s0, s2, s3, s5, s9, s10, s11, s30, rfl, s12, hS20⟩, (by (try dsimp only); omega)⟩
    · have hp22 := hc22
      simp only [Bool.and_eq_true, Bool.or_eq_true, Bool.and_eq_false_iff, Bool.or_eq_false_iff, Bool.not_eq_true', Bool.not_eq_false', decide_eq_true_eq, decide_eq_false_iff_not] at hp22
      have hkl : k = (proposals_f m parent (l.take 250) slot).length := by omega
      rw [hkl, List.take_length] at hu
      have hpr := proposed15 (m := m) (parent := parent) (l := (l.take 250)) (slot := slot) (k := i) (by omega)
      have hut : u = true := hu.symm.trans hpr.1
      refine W.exit ?_
      refine thenF_exit ?_
      refine thenF_exit ?_
      refine blockF_hit ?_
      refine thenF_nor ?_
      refine W.seq ?_
      refine W.drawS [Sp.eq (.int .i64 m), Sp.eq (Enc.val (parent : Nm)), Sp.eq (.slice A2 (l.take 250).length c2), Sp.eq (.int .i64 slot), Sp.eq (.slice A16_11 (certified_f m parent (l.take 250) slot).length c16_11), Sp.eq (.int .i64 ((i : Nat) : Int)), Sp.eq (.pointer (some ((adr A16_11).add (i * 8)))), Sp.eq (Enc.val ((certified_f m parent (l.take 250) slot)[i]!)), Sp.eq (.int .i64 (echoers_f m parent (l.take 250) slot ((certified_f m parent (l.take 250) slot)[i]!))), Sp.eq (.int .i64 (echoers_f m parent (l.take 250) slot ((certified_f m parent (l.take 250) slot)[i]!)))] mixed (by rfl) (Obls.cons ?_ (Obls.cons ?_ (Obls.cons ?_ (Obls.cons ?_ (Obls.cons ?_ (Obls.cons ?_ (Obls.cons ?_ (Obls.cons ?_ (Obls.cons ?_ (Obls.cons ?_ Obls.nil)))))))))) ?_
      · intro f39 w39 hx39 ho39 hd39
        have d39_s0 : f39 0 = (.int .i64 m) := (ho39 0 rfl).trans s21_0
        exact D.val rfl (op_move rfl d39_s0)
      · intro f40 w40 hx40 ho40 hd40
        have d40_s5 : f40 5 = (.pointer (some ⟨b1, 0, none⟩)) := (ho40 5 rfl).trans s21_5
        have hR_l := hR_l.ext hx40
        have hB1 := hB1.ext hx40
        have hR2 := hR2.ext hx40
        have hR16_10 := hR16_10.ext hx40
        have hR16_11 := hR16_11.ext hx40
        exact D.val rfl (op_load (v := (parent : Nm)) rfl d40_s5 ty24 hB1.cells)
      · intro f41 w41 hx41 ho41 hd41
        have d41_s2 : f41 2 = (.slice A2 (l.take 250).length c2) := (ho41 2 rfl).trans s21_2
        exact D.val rfl (op_move rfl d41_s2)
      · intro f42 w42 hx42 ho42 hd42
        have d42_s3 : f42 3 = (.int .i64 slot) := (ho42 3 rfl).trans s21_3
        exact D.val rfl (op_move rfl d42_s3)
      · intro f43 w43 hx43 ho43 hd43
        have d43_s10 : f43 10 = (.slice A16_11 (certified_f m parent (l.take 250) slot).length c16_11) := (ho43 10 rfl).trans s21_10
        exact D.val rfl (op_move rfl d43_s10)
      · intro f44 w44 hx44 ho44 hd44
        have d44_s11 : f44 11 = (.int .i64 ((i : Nat) : Int)) := (ho44 11 rfl).trans s21_11
        exact D.val rfl (op_move rfl d44_s11)
      · intro f45 w45 hx45 ho45 hd45
        have d45_4 : f45 55 = (.slice A16_11 (certified_f m parent (l.take 250) slot).length c16_11) := hd45 4 rfl
        have d45_5 : f45 56 = (.int .i64 ((i : Nat) : Int)) := hd45 5 rfl
        have hR_l := hR_l.ext hx45
        have hB1 := hB1.ext hx45
        have hR2 := hR2.ext hx45
        have hR16_10 := hR16_10.ext hx45
        have hR16_11 := hR16_11.ext hx45
        skip
        exact D.val rfl (op_index (k := i) rfl d45_4 d45_5 sl40 (hR16_11.getA (get_bang (l := certified_f m parent (l.take 250) slot) (k := i) (by omega))).1 rfl (by omega) rfl)
      · intro f46 w46 hx46 ho46 hd46
        have d46_6 : f46 57 = (.pointer (some ((adr A16_11).add (i * 8)))) := hd46 6 rfl
        have hR_l := hR_l.ext hx46
        have hB1 := hB1.ext hx46
        have hR2 := hR2.ext hx46
        have hR16_10 := hR16_10.ext hx46
        have hR16_11 := hR16_11.ext hx46
        skip
        exact D.val rfl (op_load (v := (certified_f m parent (l.take 250) slot)[i]!) rfl d46_6 ty24 (hR16_11.getA (get_bang (l := certified_f m parent (l.take 250) slot) (k := i) (by omega))).2)
      · intro f47 w47 hx47 ho47 hd47
        have d47_0 : f47 51 = (.int .i64 m) := hd47 0 rfl
        have d47_1 : f47 52 = (Enc.val (parent : Nm)) := hd47 1 rfl
        have d47_2 : f47 53 = (.slice A2 (l.take 250).length c2) := hd47 2 rfl
        have d47_3 : f47 54 = (.int .i64 slot) := hd47 3 rfl
        have d47_7 : f47 58 = (Enc.val ((certified_f m parent (l.take 250) slot)[i]!)) := hd47 7 rfl
        have hR_l := hR_l.ext hx47
        have hB1 := hB1.ext hx47
        have hR2 := hR2.ext hx47
        have hR16_10 := hR16_10.ext hx47
        have hR16_11 := hR16_11.ext hx47
        exact D.call (R := (Sp.eq (.int .i64 (echoers_f m parent (l.take 250) slot ((certified_f m parent (l.take 250) slot)[i]!)))).p) rfl (OpS.call (op_call rfl (argsC d47_0 (argsC d47_1 (argsC d47_2 (argsC d47_3 (argsC d47_7 argsN))))) Try.func30 rfl rfl) (Echoers_ok hR2 (by first | omega | (simp only [List.length_drop, List.length_take, List.length_append, List.length_cons, List.length_nil] at *; omega))))
      · intro f48 w48 hx48 ho48 hd48
        have d48_8 : f48 59 = (.int .i64 (echoers_f m parent (l.take 250) slot ((certified_f m parent (l.take 250) slot)[i]!))) := hd48 8 rfl
        exact D.val rfl (op_assign rfl d48_8)
      intro f49 w49 hx49 ho49 hr49
      have s0 : f49 0 = (.int .i64 m) := (ho49 0 rfl).trans s21_0
      have s2 : f49 2 = (.slice A2 (l.take 250).length c2) := (ho49 2 rfl).trans s21_2
      have s3 : f49 3 = (.int .i64 slot) := (ho49 3 rfl).trans s21_3
      have s5 : f49 5 = (.pointer (some ⟨b1, 0, none⟩)) := (ho49 5 rfl).trans s21_5
      have s9 : f49 9 = (.slice A16_10 (proposals_f m parent (l.take 250) slot).length c16_10) := (ho49 9 rfl).trans s21_9
      have s10 : f49 10 = (.slice A16_11 (certified_f m parent (l.take 250) slot).length c16_11) := (ho49 10 rfl).trans s21_10
      have s11 : f49 11 = (.int .i64 ((i : Nat) : Int)) := (ho49 11 rfl).trans s21_11
      have s12 : f49 12 = (.bool u) := (ho49 12 rfl).trans s21_12
      have s13 : f49 13 = (.int .i64 ((k : Nat) : Int)) := (ho49 13 rfl).trans s21_13
      have s30 : f49 30 = (.bool (decide (((i : Nat) : Int) < ((certified_f m parent (l.take 250) slot).length : Int)))) := (ho49 30 rfl).trans s21_30
      have s36 : f49 36 = (.bool (decide (((k : Nat) : Int) < ((proposals_f m parent (l.take 250) slot).length : Int)))) := ho49 36 rfl
      have s14 : f49 14 = (.int .i64 (echoers_f m parent (l.take 250) slot ((certified_f m parent (l.take 250) slot)[i]!))) := hr49 9 (by decide)
      have hE := hE.trans hx49
      have hS17 := hS17.trans hx49
      have hS20 := hS20.trans hx49
      have hR_l := hR_l.ext hx49
      have hB1 := hB1.ext hx49
      have hR2 := hR2.ext hx49
      have hR16_10 := hR16_10.ext hx49
      have hR16_11 := hR16_11.ext hx49
      refine thenF_nor ?_
      refine W.seq ?_
      refine W.drawS [Sp.eq (.bool u), Sp.eq (.bool (!u)), Sp.eq (.bool (!u)), Sp.eq (vif (!(!u)) (.int .i64 ((i : Nat) : Int))), Sp.eq (vif (!(!u)) (.bool (decide (0 < ((i : Nat) : Int))))), Sp.eq (vif (!(!u)) (.bool (decide (0 < ((i : Nat) : Int))))), Sp.eq (vif ((!(!u)) && ((decide (0 < ((i : Nat) : Int))) == true)) (.slice A16_11 (certified_f m parent (l.take 250) slot).length c16_11)), Sp.eq (vif ((!(!u)) && ((decide (0 < ((i : Nat) : Int))) == true)) (.int .i64 ((i : Nat) : Int))), Sp.eq (vif ((!(!u)) && ((decide (0 < ((i : Nat) : Int))) == true)) (.int .i64 ((i - 1 : Nat) : Int))), Sp.eq (vif ((!(!u)) && ((decide (0 < ((i : Nat) : Int))) == true)) (.pointer (some ((adr A16_11).add ((i - 1) * 8))))), Sp.eq (vif ((!(!u)) && ((decide (0 < ((i : Nat) : Int))) == true)) (Enc.val ((certified_f m parent (l.take 250) slot)[i - 1]!))), Sp.eq (vif ((!(!u)) && ((decide (0 < ((i : Nat) : Int))) == true)) (.slice A16_11 (certified_f m parent (l.take 250) slot).length c16_11)), Sp.eq (vif ((!(!u)) && ((decide (0 < ((i : Nat) : Int))) == true)) (.int .i64 ((i : Nat) : Int))), Sp.eq (vif ((!(!u)) && ((decide (0 < ((i : Nat) : Int))) == true)) (.pointer (some ((adr A16_11).add (i * 8))))), Sp.eq (vif ((!(!u)) && ((decide (0 < ((i : Nat) : Int))) == true)) (Enc.val ((certified_f m parent (l.take 250) slot)[i]!))), Sp.eq (vif ((!(!u)) && ((decide (0 < ((i : Nat) : Int))) == true)) (.bool (hashLess_f ((certified_f m parent (l.take 250) slot)[i - 1]!) ((certified_f m parent (l.take 250) slot)[i]!)))), Sp.eq (vif ((!(!u)) && ((decide (0 < ((i : Nat) : Int))) == true)) (.bool (!(hashLess_f ((certified_f m parent (l.take 250) slot)[i - 1]!) ((certified_f m parent (l.take 250) slot)[i]!))))), Sp.eq (vif (!(!u)) (.bool ((decide (0 < ((i : Nat) : Int))) && (!(hashLess_f ((certified_f m parent (l.take 250) slot)[i - 1]!) ((certified_f m parent (l.take 250) slot)[i]!)))))), Sp.eq (.bool ((!u) || ((decide (0 < ((i : Nat) : Int))) && (!(hashLess_f ((certified_f m parent (l.take 250) slot)[i - 1]!) ((certified_f m parent (l.take 250) slot)[i]!)))))), Sp.eq (.bool ((!u) || ((decide (0 < ((i : Nat) : Int))) && (!(hashLess_f ((certified_f m parent (l.take 250) slot)[i - 1]!) ((certified_f m parent (l.take 250) slot)[i]!)))))), Sp.eq (vif (!((!u) || ((decide (0 < ((i : Nat) : Int))) && (!(hashLess_f ((certified_f m parent (l.take 250) slot)[i - 1]!) ((certified_f m parent (l.take 250) slot)[i]!)))))) (.int .i64 (echoers_f m parent (l.take 250) slot ((certified_f m parent (l.take 250) slot)[i]!)))), Sp.eq (vif (!((!u) || ((decide (0 < ((i : Nat) : Int))) && (!(hashLess_f ((certified_f m parent (l.take 250) slot)[i - 1]!) ((certified_f m parent (l.take 250) slot)[i]!)))))) (.int .i64 m)), Sp.eq (vif (!((!u) || ((decide (0 < ((i : Nat) : Int))) && (!(hashLess_f ((certified_f m parent (l.take 250) slot)[i - 1]!) ((certified_f m parent (l.take 250) slot)[i]!)))))) (.int .i64 (iandn (echoers_f m parent (l.take 250) slot ((certified_f m parent (l.take 250) slot)[i]!)) m))), Sp.eq (vif (!((!u) || ((decide (0 < ((i : Nat) : Int))) && (!(hashLess_f ((certified_f m parent (l.take 250) slot)[i - 1]!) ((certified_f m parent (l.take 250) slot)[i]!)))))) (.bool (!decide ((iandn (echoers_f m parent (l.take 250) slot ((certified_f m parent (l.take 250) slot)[i]!)) m) = 0)))), Sp.eq (.bool (((!u) || ((decide (0 < ((i : Nat) : Int))) && (!(hashLess_f ((certified_f m parent (l.take 250) slot)[i - 1]!) ((certified_f m parent (l.take 250) slot)[i]!))))) || (!decide ((iandn (echoers_f m parent (l.take 250) slot ((certified_f m parent (l.take 250) slot)[i]!)) m) = 0)))), Sp.eq (.bool (((!u) || ((decide (0 < ((i : Nat) : Int))) && (!(hashLess_f ((certified_f m parent (l.take 250) slot)[i - 1]!) ((certified_f m parent (l.take 250) slot)[i]!))))) || (!decide ((iandn (echoers_f m parent (l.take 250) slot ((certified_f m parent (l.take 250) slot)[i]!)) m) = 0)))), Sp.eq (vif (!(((!u) || ((decide (0 < ((i : Nat) : Int))) && (!(hashLess_f ((certified_f m parent (l.take 250) slot)[i - 1]!) ((certified_f m parent (l.take 250) slot)[i]!))))) || (!decide ((iandn (echoers_f m parent (l.take 250) slot ((certified_f m parent (l.take 250) slot)[i]!)) m) = 0)))) (.int .i64 (echoers_f m parent (l.take 250) slot ((certified_f m parent (l.take 250) slot)[i]!)))), Sp.eq (vif (!(((!u) || ((decide (0 < ((i : Nat) : Int))) && (!(hashLess_f ((certified_f m parent (l.take 250) slot)[i - 1]!) ((certified_f m parent (l.take 250) slot)[i]!))))) || (!decide ((iandn (echoers_f m parent (l.take 250) slot ((certified_f m parent (l.take 250) slot)[i]!)) m) = 0)))) (.int .i64 (size_f (echoers_f m parent (l.take 250) slot ((certified_f m parent (l.take 250) slot)[i]!))))), Sp.eq (vif (!(((!u) || ((decide (0 < ((i : Nat) : Int))) && (!(hashLess_f ((certified_f m parent (l.take 250) slot)[i - 1]!) ((certified_f m parent (l.take 250) slot)[i]!))))) || (!decide ((iandn (echoers_f m parent (l.take 250) slot ((certified_f m parent (l.take 250) slot)[i]!)) m) = 0)))) (.int .i64 m)), Sp.eq (vif (!(((!u) || ((decide (0 < ((i : Nat) : Int))) && (!(hashLess_f ((certified_f m parent (l.take 250) slot)[i - 1]!) ((certified_f m parent (l.take 250) slot)[i]!))))) || (!decide ((iandn (echoers_f m parent (l.take 250) slot ((certified_f m parent (l.take 250) slot)[i]!)) m) = 0)))) (.int .i64 (size_f m))), Sp.eq (vif (!(((!u) || ((decide (0 < ((i : Nat) : Int))) && (!(hashLess_f ((certified_f m parent (l.take 250) slot)[i - 1]!) ((certified_f m parent (l.take 250) slot)[i]!))))) || (!decide ((iandn (echoers_f m parent (l.take 250) slot ((certified_f m parent (l.take 250) slot)[i]!)) m) = 0)))) (.int .i64 (quorum_f (size_f m)))), Sp.eq (vif (!(((!u) || ((decide (0 < ((i : Nat) : Int))) && (!(hashLess_f ((certified_f m parent (l.take 250) slot)[i - 1]!) ((certified_f m parent (l.take 250) slot)[i]!))))) || (!decide ((iandn (echoers_f m parent (l.take 250) slot ((certified_f m parent (l.take 250) slot)[i]!)) m) = 0)))) (.bool (decide ((size_f (echoers_f m parent (l.take 250) slot ((certified_f m parent (l.take 250) slot)[i]!))) < (quorum_f (size_f m)))))), Sp.eq (.bool ((((!u) || ((decide (0 < ((i : Nat) : Int))) && (!(hashLess_f ((certified_f m parent (l.take 250) slot)[i - 1]!) ((certified_f m parent (l.take 250) slot)[i]!))))) || (!decide ((iandn (echoers_f m parent (l.take 250) slot ((certified_f m parent (l.take 250) slot)[i]!)) m) = 0))) || (decide ((size_f (echoers_f m parent (l.take 250) slot ((certified_f m parent (l.take 250) slot)[i]!))) < (quorum_f (size_f m))))))] mixed (by rfl) (Obls.cons ?_ (Obls.cons ?_ (Obls.cons ?_ (Obls.cons ?_ (Obls.cons ?_ (Obls.cons ?_ (Obls.cons ?_ (Obls.cons ?_ (Obls.cons ?_ (Obls.cons ?_ (Obls.cons ?_ (Obls.cons ?_ (Obls.cons ?_ (Obls.cons ?_ (Obls.cons ?_ (Obls.cons ?_ (Obls.cons ?_ (Obls.cons ?_ (Obls.cons ?_ (Obls.cons ?_ (Obls.cons ?_ (Obls.cons ?_ (Obls.cons ?_ (Obls.cons ?_ (Obls.cons ?_ (Obls.cons ?_ (Obls.cons ?_ (Obls.cons ?_ (Obls.cons ?_ (Obls.cons ?_ (Obls.cons ?_ (Obls.cons ?_ (Obls.cons ?_ Obls.nil))))))))))))))))))))))))))))))))) ?_
      · intro f51 w51 hx51 ho51 hd51
        have d51_s12 : f51 12 = (.bool u) := (ho51 12 rfl).trans s12
        exact D.val rfl (op_move rfl d51_s12)
      · intro f52 w52 hx52 ho52 hd52
        have d52_0 : f52 60 = (.bool u) := hd52 0 rfl
        exact D.val rfl (op_not rfl d52_0)
      · intro f53 w53 hx53 ho53 hd53
        have d53_1 : f53 61 = (.bool (!u)) := hd53 1 rfl
        exact D.val rfl (op_move rfl d53_1)
      · intro f54 w54 hx54 ho54 hd54
        have d54_s11 : f54 11 = (.int .i64 ((i : Nat) : Int)) := (ho54 11 rfl).trans s11
        have d54_2 : f54 62 = (.bool (!u)) := hd54 2 rfl
        exact D.guardv (wanted_no rfl rfl d54_2) (fun hg => (op_move rfl d54_s11))
      · intro f55 w55 hx55 ho55 hd55
        have d55_2 : f55 62 = (.bool (!u)) := hd55 2 rfl
        have d55_3 : f55 63 = (vif (!(!u)) (.int .i64 ((i : Nat) : Int))) := hd55 3 rfl
        exact D.guardv (wanted_no rfl rfl d55_2) (fun hg => (op_gtr rfl ((show _ = vif _ (.int .i64 ((i : Nat) : Int)) from d55_3).trans (vif_t hg).symm) rfl))
      · intro f56 w56 hx56 ho56 hd56
        have d56_2 : f56 62 = (.bool (!u)) := hd56 2 rfl
        have d56_4 : f56 64 = (vif (!(!u)) (.bool (decide (0 < ((i : Nat) : Int))))) := hd56 4 rfl
        exact D.guardv (wanted_no rfl rfl d56_2) (fun hg => (op_move rfl ((show _ = vif _ (.bool (decide (0 < ((i : Nat) : Int)))) from d56_4).trans (vif_t hg).symm)))
      · intro f57 w57 hx57 ho57 hd57
        have d57_s10 : f57 10 = (.slice A16_11 (certified_f m parent (l.take 250) slot).length c16_11) := (ho57 10 rfl).trans s10
        have d57_5 : f57 65 = (vif (!(!u)) (.bool (decide (0 < ((i : Nat) : Int))))) := hd57 5 rfl
        exact D.guardv (wanted_vif rfl rfl d57_5) (fun hg => (op_move rfl d57_s10))
      · intro f58 w58 hx58 ho58 hd58
        have d58_s11 : f58 11 = (.int .i64 ((i : Nat) : Int)) := (ho58 11 rfl).trans s11
        have d58_5 : f58 65 = (vif (!(!u)) (.bool (decide (0 < ((i : Nat) : Int))))) := hd58 5 rfl
        exact D.guardv (wanted_vif rfl rfl d58_5) (fun hg => (op_move rfl d58_s11))
      · intro f59 w59 hx59 ho59 hd59
        have d59_5 : f59 65 = (vif (!(!u)) (.bool (decide (0 < ((i : Nat) : Int))))) := hd59 5 rfl
        have d59_7 : f59 67 = (vif ((!(!u)) && ((decide (0 < ((i : Nat) : Int))) == true)) (.int .i64 ((i : Nat) : Int))) := hd59 7 rfl
        exact D.guardv (wanted_vif rfl rfl d59_5) (fun hg => by have hp := hg; try simp only [Bool.and_eq_true, Bool.or_eq_true, Bool.not_eq_true', decide_eq_true_eq, decide_eq_false_iff_not, bne_iff_ne, beq_iff_eq] at hp; skip; exact (op_sub (c := ((i - 1 : Nat) : Int)) rfl ((show _ = vif _ (.int .i64 ((i : Nat) : Int)) from d59_7).trans (vif_t hg).symm) rfl (by omega) (by omega)))
      · intro f60 w60 hx60 ho60 hd60
        have d60_5 : f60 65 = (vif (!(!u)) (.bool (decide (0 < ((i : Nat) : Int))))) := hd60 5 rfl
        have d60_6 : f60 66 = (vif ((!(!u)) && ((decide (0 < ((i : Nat) : Int))) == true)) (.slice A16_11 (certified_f m parent (l.take 250) slot).length c16_11)) := hd60 6 rfl
        have d60_8 : f60 68 = (vif ((!(!u)) && ((decide (0 < ((i : Nat) : Int))) == true)) (.int .i64 ((i - 1 : Nat) : Int))) := hd60 8 rfl
        have hR_l := hR_l.ext hx60
        have hB1 := hB1.ext hx60
        have hR2 := hR2.ext hx60
        have hR16_10 := hR16_10.ext hx60
        have hR16_11 := hR16_11.ext hx60
        exact D.guardv (wanted_vif rfl rfl d60_5) (fun hg => by have hp := hg; try simp only [Bool.and_eq_true, Bool.or_eq_true, Bool.not_eq_true', decide_eq_true_eq, decide_eq_false_iff_not, bne_iff_ne, beq_iff_eq] at hp; skip; exact (op_index (k := i - 1) rfl ((show _ = vif _ (.slice A16_11 (certified_f m parent (l.take 250) slot).length c16_11) from d60_6).trans (vif_t hg).symm) ((show _ = vif _ (.int .i64 ((i - 1 : Nat) : Int)) from d60_8).trans (vif_t hg).symm) sl40 (hR16_11.getA (get_bang (l := certified_f m parent (l.take 250) slot) (k := i - 1) (by omega))).1 rfl (by omega) rfl))
      · intro f61 w61 hx61 ho61 hd61
        have d61_5 : f61 65 = (vif (!(!u)) (.bool (decide (0 < ((i : Nat) : Int))))) := hd61 5 rfl
        have d61_9 : f61 69 = (vif ((!(!u)) && ((decide (0 < ((i : Nat) : Int))) == true)) (.pointer (some ((adr A16_11).add ((i - 1) * 8))))) := hd61 9 rfl
        have hR_l := hR_l.ext hx61
        have hB1 := hB1.ext hx61
        have hR2 := hR2.ext hx61
        have hR16_10 := hR16_10.ext hx61
        have hR16_11 := hR16_11.ext hx61
        exact D.guardv (wanted_vif rfl rfl d61_5) (fun hg => by have hp := hg; try simp only [Bool.and_eq_true, Bool.or_eq_true, Bool.not_eq_true', decide_eq_true_eq, decide_eq_false_iff_not, bne_iff_ne, beq_iff_eq] at hp; skip; exact (op_load (v := (certified_f m parent (l.take 250) slot)[i - 1]!) rfl ((show _ = vif _ (.pointer (some ((adr A16_11).add ((i - 1) * 8)))) from d61_9).trans (vif_t hg).symm) ty24 (hR16_11.getA (get_bang (l := certified_f m parent (l.take 250) slot) (k := i - 1) (by omega))).2))
      · intro f62 w62 hx62 ho62 hd62
        have d62_s10 : f62 10 = (.slice A16_11 (certified_f m parent (l.take 250) slot).length c16_11) := (ho62 10 rfl).trans s10
        have d62_5 : f62 65 = (vif (!(!u)) (.bool (decide (0 < ((i : Nat) : Int))))) := hd62 5 rfl
        exact D.guardv (wanted_vif rfl rfl d62_5) (fun hg => (op_move rfl d62_s10))
      · intro f63 w63 hx63 ho63 hd63
        have d63_s11 : f63 11 = (.int .i64 ((i : Nat) : Int)) := (ho63 11 rfl).trans s11
        have d63_5 : f63 65 = (vif (!(!u)) (.bool (decide (0 < ((i : Nat) : Int))))) := hd63 5 rfl
        exact D.guardv (wanted_vif rfl rfl d63_5) (fun hg => (op_move rfl d63_s11))
      · intro f64 w64 hx64 ho64 hd64
        have d64_5 : f64 65 = (vif (!(!u)) (.bool (decide (0 < ((i : Nat) : Int))))) := hd64 5 rfl
        have d64_11 : f64 71 = (vif ((!(!u)) && ((decide (0 < ((i : Nat) : Int))) == true)) (.slice A16_11 (certified_f m parent (l.take 250) slot).length c16_11)) := hd64 11 rfl
        have d64_12 : f64 72 = (vif ((!(!u)) && ((decide (0 < ((i : Nat) : Int))) == true)) (.int .i64 ((i : Nat) : Int))) := hd64 12 rfl
        have hR_l := hR_l.ext hx64
        have hB1 := hB1.ext hx64
        have hR2 := hR2.ext hx64
        have hR16_10 := hR16_10.ext hx64
        have hR16_11 := hR16_11.ext hx64
        exact D.guardv (wanted_vif rfl rfl d64_5) (fun hg => by have hp := hg; try simp only [Bool.and_eq_true, Bool.or_eq_true, Bool.not_eq_true', decide_eq_true_eq, decide_eq_false_iff_not, bne_iff_ne, beq_iff_eq] at hp; skip; exact (op_index (k := i) rfl ((show _ = vif _ (.slice A16_11 (certified_f m parent (l.take 250) slot).length c16_11) from d64_11).trans (vif_t hg).symm) ((show _ = vif _ (.int .i64 ((i : Nat) : Int)) from d64_12).trans (vif_t hg).symm) sl40 (hR16_11.getA (get_bang (l := certified_f m parent (l.take 250) slot) (k := i) (by omega))).1 rfl (by omega) rfl))
      · intro f65 w65 hx65 ho65 hd65
        have d65_5 : f65 65 = (vif (!(!u)) (.bool (decide (0 < ((i : Nat) : Int))))) := hd65 5 rfl
        have d65_13 : f65 73 = (vif ((!(!u)) && ((decide (0 < ((i : Nat) : Int))) == true)) (.pointer (some ((adr A16_11).add (i * 8))))) := hd65 13 rfl
        have hR_l := hR_l.ext hx65
        have hB1 := hB1.ext hx65
        have hR2 := hR2.ext hx65
        have hR16_10 := hR16_10.ext hx65
        have hR16_11 := hR16_11.ext hx65
        exact D.guardv (wanted_vif rfl rfl d65_5) (fun hg => by have hp := hg; try simp only [Bool.and_eq_true, Bool.or_eq_true, Bool.not_eq_true', decide_eq_true_eq, decide_eq_false_iff_not, bne_iff_ne, beq_iff_eq] at hp; skip; exact (op_load (v := (certified_f m parent (l.take 250) slot)[i]!) rfl ((show _ = vif _ (.pointer (some ((adr A16_11).add (i * 8)))) from d65_13).trans (vif_t hg).symm) ty24 (hR16_11.getA (get_bang (l := certified_f m parent (l.take 250) slot) (k := i) (by omega))).2))
      · intro f66 w66 hx66 ho66 hd66
        have d66_5 : f66 65 = (vif (!(!u)) (.bool (decide (0 < ((i : Nat) : Int))))) := hd66 5 rfl
        have d66_10 : f66 70 = (vif ((!(!u)) && ((decide (0 < ((i : Nat) : Int))) == true)) (Enc.val ((certified_f m parent (l.take 250) slot)[i - 1]!))) := hd66 10 rfl
        have d66_14 : f66 74 = (vif ((!(!u)) && ((decide (0 < ((i : Nat) : Int))) == true)) (Enc.val ((certified_f m parent (l.take 250) slot)[i]!))) := hd66 14 rfl
        have hR_l := hR_l.ext hx66
        have hB1 := hB1.ext hx66
        have hR2 := hR2.ext hx66
        have hR16_10 := hR16_10.ext hx66
        have hR16_11 := hR16_11.ext hx66
        exact D.guardc (wanted_vif rfl rfl d66_5) (fun hg => (OpS.call (op_call rfl (argsC ((show _ = vif _ (Enc.val ((certified_f m parent (l.take 250) slot)[i - 1]!)) from d66_10).trans (vif_t hg).symm) (argsC ((show _ = vif _ (Enc.val ((certified_f m parent (l.take 250) slot)[i]!)) from d66_14).trans (vif_t hg).symm) argsN)) Try.func34 rfl rfl) hashLess_ok))
      · intro f67 w67 hx67 ho67 hd67
        have d67_5 : f67 65 = (vif (!(!u)) (.bool (decide (0 < ((i : Nat) : Int))))) := hd67 5 rfl
        have d67_15 : f67 75 = (vif ((!(!u)) && ((decide (0 < ((i : Nat) : Int))) == true)) (.bool (hashLess_f ((certified_f m parent (l.take 250) slot)[i - 1]!) ((certified_f m parent (l.take 250) slot)[i]!)))) := hd67 15 rfl
        exact D.guardv (wanted_vif rfl rfl d67_5) (fun hg => (op_not rfl ((show _ = vif _ (.bool (hashLess_f ((certified_f m parent (l.take 250) slot)[i - 1]!) ((certified_f m parent (l.take 250) slot)[i]!))) from d67_15).trans (vif_t hg).symm)))
      · intro f68 w68 hx68 ho68 hd68
        have d68_2 : f68 62 = (.bool (!u)) := hd68 2 rfl
        have d68_5 : f68 65 = (vif (!(!u)) (.bool (decide (0 < ((i : Nat) : Int))))) := hd68 5 rfl
        have d68_16 : f68 76 = (vif ((!(!u)) && ((decide (0 < ((i : Nat) : Int))) == true)) (.bool (!(hashLess_f ((certified_f m parent (l.take 250) slot)[i - 1]!) ((certified_f m parent (l.take 250) slot)[i]!))))) := hd68 16 rfl
        exact D.guardv (wanted_no rfl rfl d68_2) (fun hg => (op_and rfl ((show _ = vif _ (.bool (decide (0 < ((i : Nat) : Int)))) from d68_5).trans (vif_t hg).symm) ((show _ = vif _ _ from d68_16).trans (vif_and hg)) rfl))
      · intro f69 w69 hx69 ho69 hd69
        have d69_2 : f69 62 = (.bool (!u)) := hd69 2 rfl
        have d69_17 : f69 77 = (vif (!(!u)) (.bool ((decide (0 < ((i : Nat) : Int))) && (!(hashLess_f ((certified_f m parent (l.take 250) slot)[i - 1]!) ((certified_f m parent (l.take 250) slot)[i]!)))))) := hd69 17 rfl
        exact D.val rfl (op_or rfl d69_2 rfl d69_17)
      · intro f70 w70 hx70 ho70 hd70
        have d70_18 : f70 78 = (.bool ((!u) || ((decide (0 < ((i : Nat) : Int))) && (!(hashLess_f ((certified_f m parent (l.take 250) slot)[i - 1]!) ((certified_f m parent (l.take 250) slot)[i]!)))))) := hd70 18 rfl
        exact D.val rfl (op_move rfl d70_18)
      · intro f71 w71 hx71 ho71 hd71
        have d71_s14 : f71 14 = (.int .i64 (echoers_f m parent (l.take 250) slot ((certified_f m parent (l.take 250) slot)[i]!))) := (ho71 14 rfl).trans s14
        have d71_19 : f71 79 = (.bool ((!u) || ((decide (0 < ((i : Nat) : Int))) && (!(hashLess_f ((certified_f m parent (l.take 250) slot)[i - 1]!) ((certified_f m parent (l.take 250) slot)[i]!)))))) := hd71 19 rfl
        exact D.guardv (wanted_no rfl rfl d71_19) (fun hg => (op_move rfl d71_s14))
      · intro f72 w72 hx72 ho72 hd72
        have d72_s0 : f72 0 = (.int .i64 m) := (ho72 0 rfl).trans s0
        have d72_19 : f72 79 = (.bool ((!u) || ((decide (0 < ((i : Nat) : Int))) && (!(hashLess_f ((certified_f m parent (l.take 250) slot)[i - 1]!) ((certified_f m parent (l.take 250) slot)[i]!)))))) := hd72 19 rfl
        exact D.guardv (wanted_no rfl rfl d72_19) (fun hg => (op_move rfl d72_s0))
      · intro f73 w73 hx73 ho73 hd73
        have d73_19 : f73 79 = (.bool ((!u) || ((decide (0 < ((i : Nat) : Int))) && (!(hashLess_f ((certified_f m parent (l.take 250) slot)[i - 1]!) ((certified_f m parent (l.take 250) slot)[i]!)))))) := hd73 19 rfl
        have d73_20 : f73 80 = (vif (!((!u) || ((decide (0 < ((i : Nat) : Int))) && (!(hashLess_f ((certified_f m parent (l.take 250) slot)[i - 1]!) ((certified_f m parent (l.take 250) slot)[i]!)))))) (.int .i64 (echoers_f m parent (l.take 250) slot ((certified_f m parent (l.take 250) slot)[i]!)))) := hd73 20 rfl
        have d73_21 : f73 81 = (vif (!((!u) || ((decide (0 < ((i : Nat) : Int))) && (!(hashLess_f ((certified_f m parent (l.take 250) slot)[i - 1]!) ((certified_f m parent (l.take 250) slot)[i]!)))))) (.int .i64 m)) := hd73 21 rfl
        exact D.guardv (wanted_no rfl rfl d73_19) (fun hg => (op_iandn rfl ((show _ = vif _ (.int .i64 (echoers_f m parent (l.take 250) slot ((certified_f m parent (l.take 250) slot)[i]!))) from d73_20).trans (vif_t hg).symm) ((show _ = vif _ (.int .i64 m) from d73_21).trans (vif_t hg).symm)))
      · intro f74 w74 hx74 ho74 hd74
        have d74_19 : f74 79 = (.bool ((!u) || ((decide (0 < ((i : Nat) : Int))) && (!(hashLess_f ((certified_f m parent (l.take 250) slot)[i - 1]!) ((certified_f m parent (l.take 250) slot)[i]!)))))) := hd74 19 rfl
        have d74_22 : f74 82 = (vif (!((!u) || ((decide (0 < ((i : Nat) : Int))) && (!(hashLess_f ((certified_f m parent (l.take 250) slot)[i - 1]!) ((certified_f m parent (l.take 250) slot)[i]!)))))) (.int .i64 (iandn (echoers_f m parent (l.take 250) slot ((certified_f m parent (l.take 250) slot)[i]!)) m))) := hd74 22 rfl
        exact D.guardv (wanted_no rfl rfl d74_19) (fun hg => (op_neq rfl ((show _ = vif _ (.int .i64 (iandn (echoers_f m parent (l.take 250) slot ((certified_f m parent (l.take 250) slot)[i]!)) m)) from d74_22).trans (vif_t hg).symm) rfl))
      · intro f75 w75 hx75 ho75 hd75
        have d75_19 : f75 79 = (.bool ((!u) || ((decide (0 < ((i : Nat) : Int))) && (!(hashLess_f ((certified_f m parent (l.take 250) slot)[i - 1]!) ((certified_f m parent (l.take 250) slot)[i]!)))))) := hd75 19 rfl
        have d75_23 : f75 83 = (vif (!((!u) || ((decide (0 < ((i : Nat) : Int))) && (!(hashLess_f ((certified_f m parent (l.take 250) slot)[i - 1]!) ((certified_f m parent (l.take 250) slot)[i]!)))))) (.bool (!decide ((iandn (echoers_f m parent (l.take 250) slot ((certified_f m parent (l.take 250) slot)[i]!)) m) = 0)))) := hd75 23 rfl
        exact D.val rfl (op_or rfl d75_19 rfl d75_23)
      · intro f76 w76 hx76 ho76 hd76
        have d76_24 : f76 84 = (.bool (((!u) || ((decide (0 < ((i : Nat) : Int))) && (!(hashLess_f ((certified_f m parent (l.take 250) slot)[i - 1]!) ((certified_f m parent (l.take 250) slot)[i]!))))) || (!decide ((iandn (echoers_f m parent (l.take 250) slot ((certified_f m parent (l.take 250) slot)[i]!)) m) = 0)))) := hd76 24 rfl
        exact D.val rfl (op_move rfl d76_24)
      · intro f77 w77 hx77 ho77 hd77
        have d77_s14 : f77 14 = (.int .i64 (echoers_f m parent (l.take 250) slot ((certified_f m parent (l.take 250) slot)[i]!))) := (ho77 14 rfl).trans s14
        have d77_25 : f77 85 = (.bool (((!u) || ((decide (0 < ((i : Nat) : Int))) && (!(hashLess_f ((certified_f m parent (l.take 250) slot)[i - 1]!) ((certified_f m parent (l.take 250) slot)[i]!))))) || (!decide ((iandn (echoers_f m parent (l.take 250) slot ((certified_f m parent (l.take 250) slot)[i]!)) m) = 0)))) := hd77 25 rfl
        exact D.guardv (wanted_no rfl rfl d77_25) (fun hg => (op_move rfl d77_s14))
      · intro f78 w78 hx78 ho78 hd78
        have d78_25 : f78 85 = (.bool (((!u) || ((decide (0 < ((i : Nat) : Int))) && (!(hashLess_f ((certified_f m parent (l.take 250) slot)[i - 1]!) ((certified_f m parent (l.take 250) slot)[i]!))))) || (!decide ((iandn (echoers_f m parent (l.take 250) slot ((certified_f m parent (l.take 250) slot)[i]!)) m) = 0)))) := hd78 25 rfl
        have d78_26 : f78 86 = (vif (!(((!u) || ((decide (0 < ((i : Nat) : Int))) && (!(hashLess_f ((certified_f m parent (l.take 250) slot)[i - 1]!) ((certified_f m parent (l.take 250) slot)[i]!))))) || (!decide ((iandn (echoers_f m parent (l.take 250) slot ((certified_f m parent (l.take 250) slot)[i]!)) m) = 0)))) (.int .i64 (echoers_f m parent (l.take 250) slot ((certified_f m parent (l.take 250) slot)[i]!)))) := hd78 26 rfl
        have hR_l := hR_l.ext hx78
        have hB1 := hB1.ext hx78
        have hR2 := hR2.ext hx78
        have hR16_10 := hR16_10.ext hx78
        have hR16_11 := hR16_11.ext hx78
        exact D.guardc (wanted_no rfl rfl d78_25) (fun hg => (OpS.call (op_call rfl (argsC ((show _ = vif _ (.int .i64 (echoers_f m parent (l.take 250) slot ((certified_f m parent (l.take 250) slot)[i]!))) from d78_26).trans (vif_t hg).symm) argsN) Try.func29 rfl rfl) Size_ok))
      · intro f79 w79 hx79 ho79 hd79
        have d79_s0 : f79 0 = (.int .i64 m) := (ho79 0 rfl).trans s0
        have d79_25 : f79 85 = (.bool (((!u) || ((decide (0 < ((i : Nat) : Int))) && (!(hashLess_f ((certified_f m parent (l.take 250) slot)[i - 1]!) ((certified_f m parent (l.take 250) slot)[i]!))))) || (!decide ((iandn (echoers_f m parent (l.take 250) slot ((certified_f m parent (l.take 250) slot)[i]!)) m) = 0)))) := hd79 25 rfl
        exact D.guardv (wanted_no rfl rfl d79_25) (fun hg => (op_move rfl d79_s0))
      · intro f80 w80 hx80 ho80 hd80
        have d80_25 : f80 85 = (.bool (((!u) || ((decide (0 < ((i : Nat) : Int))) && (!(hashLess_f ((certified_f m parent (l.take 250) slot)[i - 1]!) ((certified_f m parent (l.take 250) slot)[i]!))))) || (!decide ((iandn (echoers_f m parent (l.take 250) slot ((certified_f m parent (l.take 250) slot)[i]!)) m) = 0)))) := hd80 25 rfl
        have d80_28 : f80 88 = (vif (!(((!u) || ((decide (0 < ((i : Nat) : Int))) && (!(hashLess_f ((certified_f m parent (l.take 250) slot)[i - 1]!) ((certified_f m parent (l.take 250) slot)[i]!))))) || (!decide ((iandn (echoers_f m parent (l.take 250) slot ((certified_f m parent (l.take 250) slot)[i]!)) m) = 0)))) (.int .i64 m)) := hd80 28 rfl
        have hR_l := hR_l.ext hx80
        have hB1 := hB1.ext hx80
        have hR2 := hR2.ext hx80
        have hR16_10 := hR16_10.ext hx80
        have hR16_11 := hR16_11.ext hx80
        exact D.guardc (wanted_no rfl rfl d80_25) (fun hg => (OpS.call (op_call rfl (argsC ((show _ = vif _ (.int .i64 m) from d80_28).trans (vif_t hg).symm) argsN) Try.func29 rfl rfl) Size_ok))
      · intro f81 w81 hx81 ho81 hd81
        have d81_25 : f81 85 = (.bool (((!u) || ((decide (0 < ((i : Nat) : Int))) && (!(hashLess_f ((certified_f m parent (l.take 250) slot)[i - 1]!) ((certified_f m parent (l.take 250) slot)[i]!))))) || (!decide ((iandn (echoers_f m parent (l.take 250) slot ((certified_f m parent (l.take 250) slot)[i]!)) m) = 0)))) := hd81 25 rfl
        have d81_29 : f81 89 = (vif (!(((!u) || ((decide (0 < ((i : Nat) : Int))) && (!(hashLess_f ((certified_f m parent (l.take 250) slot)[i - 1]!) ((certified_f m parent (l.take 250) slot)[i]!))))) || (!decide ((iandn (echoers_f m parent (l.take 250) slot ((certified_f m parent (l.take 250) slot)[i]!)) m) = 0)))) (.int .i64 (size_f m))) := hd81 29 rfl
        have hR_l := hR_l.ext hx81
        have hB1 := hB1.ext hx81
        have hR2 := hR2.ext hx81
        have hR16_10 := hR16_10.ext hx81
        have hR16_11 := hR16_11.ext hx81
        exact D.guardc (wanted_no rfl rfl d81_25) (fun hg => by have hp := hg; try simp only [Bool.and_eq_true, Bool.or_eq_true, Bool.not_eq_true', decide_eq_true_eq, decide_eq_false_iff_not, bne_iff_ne, beq_iff_eq] at hp; exact (OpS.call (op_call rfl (argsC ((show _ = vif _ (.int .i64 (size_f m)) from d81_29).trans (vif_t hg).symm) argsN) Try.func31 rfl rfl) (Quorum_ok (by first | omega | (simp only [List.length_drop, List.length_take, List.length_append, List.length_cons, List.length_nil] at *; omega)) (by first | omega | (simp only [List.length_drop, List.length_take, List.length_append, List.length_cons, List.length_nil] at *; omega)))))
      · intro f82 w82 hx82 ho82 hd82
        have d82_25 : f82 85 = (.bool (((!u) || ((decide (0 < ((i : Nat) : Int))) && (!(hashLess_f ((certified_f m parent (l.take 250) slot)[i - 1]!) ((certified_f m parent (l.take 250) slot)[i]!))))) || (!decide ((iandn (echoers_f m parent (l.take 250) slot ((certified_f m parent (l.take 250) slot)[i]!)) m) = 0)))) := hd82 25 rfl
        have d82_27 : f82 87 = (vif (!(((!u) || ((decide (0 < ((i : Nat) : Int))) && (!(hashLess_f ((certified_f m parent (l.take 250) slot)[i - 1]!) ((certified_f m parent (l.take 250) slot)[i]!))))) || (!decide ((iandn (echoers_f m parent (l.take 250) slot ((certified_f m parent (l.take 250) slot)[i]!)) m) = 0)))) (.int .i64 (size_f (echoers_f m parent (l.take 250) slot ((certified_f m parent (l.take 250) slot)[i]!))))) := hd82 27 rfl
        have d82_30 : f82 90 = (vif (!(((!u) || ((decide (0 < ((i : Nat) : Int))) && (!(hashLess_f ((certified_f m parent (l.take 250) slot)[i - 1]!) ((certified_f m parent (l.take 250) slot)[i]!))))) || (!decide ((iandn (echoers_f m parent (l.take 250) slot ((certified_f m parent (l.take 250) slot)[i]!)) m) = 0)))) (.int .i64 (quorum_f (size_f m)))) := hd82 30 rfl
        exact D.guardv (wanted_no rfl rfl d82_25) (fun hg => (op_lss rfl ((show _ = vif _ (.int .i64 (size_f (echoers_f m parent (l.take 250) slot ((certified_f m parent (l.take 250) slot)[i]!)))) from d82_27).trans (vif_t hg).symm) ((show _ = vif _ (.int .i64 (quorum_f (size_f m))) from d82_30).trans (vif_t hg).symm)))
      · intro f83 w83 hx83 ho83 hd83
        have d83_25 : f83 85 = (.bool (((!u) || ((decide (0 < ((i : Nat) : Int))) && (!(hashLess_f ((certified_f m parent (l.take 250) slot)[i - 1]!) ((certified_f m parent (l.take 250) slot)[i]!))))) || (!decide ((iandn (echoers_f m parent (l.take 250) slot ((certified_f m parent (l.take 250) slot)[i]!)) m) = 0)))) := hd83 25 rfl
        have d83_31 : f83 91 = (vif (!(((!u) || ((decide (0 < ((i : Nat) : Int))) && (!(hashLess_f ((certified_f m parent (l.take 250) slot)[i - 1]!) ((certified_f m parent (l.take 250) slot)[i]!))))) || (!decide ((iandn (echoers_f m parent (l.take 250) slot ((certified_f m parent (l.take 250) slot)[i]!)) m) = 0)))) (.bool (decide ((size_f (echoers_f m parent (l.take 250) slot ((certified_f m parent (l.take 250) slot)[i]!))) < (quorum_f (size_f m)))))) := hd83 31 rfl
        exact D.val rfl (op_or rfl d83_25 rfl d83_31)
      intro f84 w84 hx84 ho84 hr84
      have s0 : f84 0 = (.int .i64 m) := (ho84 0 rfl).trans s0
      have s2 : f84 2 = (.slice A2 (l.take 250).length c2) := (ho84 2 rfl).trans s2
      have s3 : f84 3 = (.int .i64 slot) := (ho84 3 rfl).trans s3
      have s5 : f84 5 = (.pointer (some ⟨b1, 0, none⟩)) := (ho84 5 rfl).trans s5
      have s9 : f84 9 = (.slice A16_10 (proposals_f m parent (l.take 250) slot).length c16_10) := (ho84 9 rfl).trans s9
      have s10 : f84 10 = (.slice A16_11 (certified_f m parent (l.take 250) slot).length c16_11) := (ho84 10 rfl).trans s10
      have s11 : f84 11 = (.int .i64 ((i : Nat) : Int)) := (ho84 11 rfl).trans s11
      have s12 : f84 12 = (.bool u) := (ho84 12 rfl).trans s12
      have s13 : f84 13 = (.int .i64 ((k : Nat) : Int)) := (ho84 13 rfl).trans s13
      have s14 : f84 14 = (.int .i64 (echoers_f m parent (l.take 250) slot ((certified_f m parent (l.take 250) slot)[i]!))) := (ho84 14 rfl).trans s14
      have s30 : f84 30 = (.bool (decide (((i : Nat) : Int) < ((certified_f m parent (l.take 250) slot).length : Int)))) := (ho84 30 rfl).trans s30
      have s36 : f84 36 = (.bool (decide (((k : Nat) : Int) < ((proposals_f m parent (l.take 250) slot).length : Int)))) := (ho84 36 rfl).trans s36
      have s92 : f84 92 = (.bool ((((!u) || ((decide (0 < ((i : Nat) : Int))) && (!(hashLess_f ((certified_f m parent (l.take 250) slot)[i - 1]!) ((certified_f m parent (l.take 250) slot)[i]!))))) || (!decide ((iandn (echoers_f m parent (l.take 250) slot ((certified_f m parent (l.take 250) slot)[i]!)) m) = 0))) || (decide ((size_f (echoers_f m parent (l.take 250) slot ((certified_f m parent (l.take 250) slot)[i]!))) < (quorum_f (size_f m)))))) := hr84 32 (by decide)
      have hE := hE.trans hx84
      have hS17 := hS17.trans hx84
      have hS20 := hS20.trans hx84
      have hR_l := hR_l.ext hx84
      have hB1 := hB1.ext hx84
      have hR2 := hR2.ext hx84
      have hR16_10 := hR16_10.ext hx84
      have hR16_11 := hR16_11.ext hx84
      refine thenF_nor ?_
      refine W.cond (t := (((!u) || ((decide (0 < ((i : Nat) : Int))) && (!(hashLess_f ((certified_f m parent (l.take 250) slot)[i - 1]!) ((certified_f m parent (l.take 250) slot)[i]!))))) || (!decide ((iandn (echoers_f m parent (l.take 250) slot ((certified_f m parent (l.take 250) slot)[i]!)) m) = 0))) || (decide ((size_f (echoers_f m parent (l.take 250) slot ((certified_f m parent (l.take 250) slot)[i]!))) < (quorum_f (size_f m))))) s92 (fun hc85 => ?_) (fun hc85 => ?_)
      · have hp85 := hc85
        simp only [Bool.and_eq_true, Bool.or_eq_true, Bool.and_eq_false_iff, Bool.or_eq_false_iff, Bool.not_eq_true', Bool.not_eq_false', decide_eq_true_eq, decide_eq_false_iff_not] at hp85
        exact absurd hc85 (by rw [hut, proposed15_no hpr]; simp)
      · have hp85 := hc85
        simp only [Bool.and_eq_true, Bool.or_eq_true, Bool.and_eq_false_iff, Bool.or_eq_false_iff, Bool.not_eq_true', Bool.not_eq_false', decide_eq_true_eq, decide_eq_false_iff_not] at hp85
        refine W.skip ?_
        refine blockF_nor ?_
        refine thenF_nor ?_
        refine W.region (by rfl) ?_
        refine L.val rfl (op_move rfl s11) ?_
        refine L.val rfl (op_add (c := ((i + 1 : Nat) : Int)) rfl rfl rfl (by omega) (by omega)) ?_
        refine L.val rfl (op_assign rfl rfl) ?_
        refine L.nil ?_
        refine thenF_nor ?_
        exact ⟨i + 1, ⟨(by (try dsimp only); omega), s0, s2, s3, s5, s9, s10, rfl, hS17⟩, (by (try dsimp only); omega)⟩
  · have hp19 := hc19
    simp only [Bool.and_eq_true, Bool.or_eq_true, Bool.and_eq_false_iff, Bool.or_eq_false_iff, Bool.not_eq_true', Bool.not_eq_false', decide_eq_true_eq, decide_eq_false_iff_not] at hp19
    refine W.exit ?_
    refine thenF_exit ?_
    refine thenF_exit ?_
    refine blockF_hit ?_
    refine thenF_nor ?_
    refine W.seq ?_
    refine W.region (by rfl) ?_
    refine L.call (v := (.bool true)) rfl (OpS.call (op_call rfl argsN Try.func32 rfl rfl) awake15_ok) ?_
    intro w86 hx86
    have hE := hE.trans hx86
    have hS17 := hS17.trans hx86
    have hR_l := hR_l.ext hx86
    have hB1 := hB1.ext hx86
    have hR2 := hR2.ext hx86
    have hR16_10 := hR16_10.ext hx86
    have hR16_11 := hR16_11.ext hx86
    refine L.val (v := (.bool true)) rfl (op_assign rfl rfl) ?_
    refine L.nil ?_
    refine thenF_nor ?_
    refine W.ret ?_
    exact end_ret1 (v := (.bool true)) rfl rfl ⟨rfl, hE⟩

end Go.Proofs.Ytdknjfmjddlphaa
