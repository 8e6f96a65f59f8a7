/-
  Contracts of functions of the program, each with its walk in the logic of frames. Printed by a program of this session (wip/gen) from the translation.
-/
import Derived.Test.YtdknjfmjddlphaaDefs3
set_option linter.unusedSimpArgs false
set_option linter.unusedVariables false
namespace Go.Proofs.Ytdknjfmjddlphaa
open Go Go.Fk

set_option maxRecDepth 100000 in
set_option maxHeartbeats 4000000 in
theorem Accepted_ok {m : Int} {parent : Nm} {A_l : Option Addr} {c_l lo_l hi_l : Nat} {l : List Vt}  {w : World} (hR_l : Rd w lo_l hi_l A_l l) (hl : l.length ≤ 1000000) : Gives Try.prog 18 #[(.int .i64 m), (Enc.val (parent : Nm)), (.slice A_l l.length c_l)] w fun u w' => SlR w' u (accepted_f m parent l : List Vt) ∧ Ext w w' := by
  have hE : Ext w w := Ext.refl w
  have hlen_l := hR_l.len
  refine gives_of_W Try.func18 rfl Try.ntmps18 rfl ?_
  have hal := asc_len parent l
  refine W.seq ?_
  refine W.region (by rfl) ?_
  refine L.step rfl (op_box (cs := (Enc.cells (parent : Nm))) rfl rfl rfl) ?_
  rintro _ w1 ⟨b1, rfl, hb1, hB1, hx1⟩
  have hE := hE.trans hx1
  have hR_l := hR_l.ext hx1
  refine L.val rfl (op_assign rfl rfl) ?_
  refine L.nil ?_
  refine thenF_nor ?_
  refine W.scope ?_
  refine W.seq ?_
  refine W.region (by rfl) ?_
  refine L.val rfl (op_assign rfl rfl) ?_
  refine L.nil ?_
  refine thenF_nor ?_
  refine W.seq ?_
  refine W.region (by rfl) ?_
  refine L.val rfl (op_assign rfl rfl) ?_
  refine L.nil ?_
  refine thenF_nor ?_
  refine W.seq ?_
  refine W.label ?_
  refine thenF_nor ?_
  refine W.seq ?_
  refine W.seq ?_
  refine W.region (by rfl) ?_
  refine L.val rfl (op_load (v := (parent : Nm)) rfl rfl ty24 hB1.cells) ?_
  refine L.val rfl (op_move rfl rfl) ?_
  refine L.step rfl (OpS.call (op_call rfl (argsC rfl (argsC rfl argsN)) Try.func52 rfl rfl) (ascending_ok hR_l (by first | omega | (simp only [List.length_drop, List.length_take, List.length_append, List.length_cons, List.length_nil] at *; omega)))) ?_
  rintro _ w2 ⟨⟨A2, c2, lo2, hi2, rfl, hcap2, hR2⟩, hx2⟩
  have hE := hE.trans hx2
  have hR_l := hR_l.ext hx2
  have hB1 := hB1.ext hx2
  have hlen2 := hR2.len
  refine L.val rfl (op_len rfl rfl ln25) ?_
  refine L.val rfl (op_move rfl rfl) ?_
  refine L.nil ?_
  refine thenF_nor ?_
  refine W.block ?_
  have S3_hR_l := hR_l
  have S3_hB1 := hB1
  have S3_hR2 := hR2
  have S3_hE := hE
  have hS3 : Ext w2 w2 := Ext.refl _
  refine W.loopg (γ := Nat × List Vt × Nat) (fun (g : Nat × List Vt × Nat) (f : Fr) (ww : World) => g.1 ≤ (asc_f parent l).length ∧ g.2.1.length ≤ g.1 ∧ g.2.2 ≤ g.2.1.length ∧ ((asc_f parent l).take g.1).foldl (accStep m) ([], 0) = (g.2.1, g.2.2) ∧ f 0 = (.int .i64 m) ∧ f 6 = (.slice none 0 0) ∧ f 13 = (.slice A2 (asc_f parent l).length c2) ∧ f 14 = (.int .i64 ((asc_f parent l).length : Int)) ∧ f 15 = (.int .i64 ((g.1 : Nat) : Int)) ∧ f 8 = (.int .i64 ((g.2.2 : Nat) : Int)) ∧ Fk.Own ww w2.heap.size 28 (f 7) g.2.1 ∧ Ext w2 ww) (fun (g : Nat × List Vt × Nat) => (asc_f parent l).length - g.1) (0, ([] : List Vt), 0) ⟨(by (try dsimp only); omega), (by simp), (by simp), rfl, rfl, rfl, rfl, rfl, rfl, rfl, (own_at (v := .slice none 0 0) rfl (Fk.Own.nil _ _ _)), hS3⟩ ?_
  rintro ⟨k, out, fr⟩ f4 w4 ⟨hk, hol, hfr, hst, s4_0, s4_6, s4_13, s4_14, s4_15, s4_8, hO4_7, hS3⟩
  dsimp only at hk hol hfr hst s4_0 s4_6 s4_13 s4_14 s4_15 s4_8 hO4_7 hS3
  have hR_l := S3_hR_l.ext hS3
  have hB1 := S3_hB1.ext hS3
  have hR2 := S3_hR2.ext hS3
  have hE := S3_hE.trans hS3
  obtain ⟨v4_7, s4_7⟩ : ∃ v, f4 7 = v := ⟨_, rfl⟩
  rw [s4_7] at hO4_7
  refine W.seq ?_
  refine W.region (by rfl) ?_
  refine L.val rfl (op_lss rfl s4_15 s4_14) ?_
  refine L.nil ?_
  refine thenF_nor ?_
  refine W.seq ?_
  refine W.cond (t := decide (((k : Nat) : Int) < ((asc_f parent l).length : Int))) rfl (fun hc5 => ?_) (fun hc5 => ?_)
  · have hp5 := hc5
    simp only [Bool.and_eq_true, Bool.or_eq_true, Bool.and_eq_false_iff, Bool.or_eq_false_iff, Bool.not_eq_true', Bool.not_eq_false', decide_eq_true_eq, decide_eq_false_iff_not] at hp5
    refine W.skip ?_
    refine thenF_nor ?_
    refine W.seq ?_
    refine W.block ?_
    refine W.seq ?_
    refine W.region (by rfl) ?_
    refine L.val rfl (op_index (k := k) rfl s4_13 s4_15 sl25 (hR2.getA (get_bang (l := asc_f parent l) (k := k) (by omega))).1 rfl (by omega) rfl) ?_
    refine L.val rfl (op_load (v := (asc_f parent l)[k]!) rfl rfl ty28 (hR2.getA (get_bang (l := asc_f parent l) (k := k) (by omega))).2) ?_
    refine L.newvar (v := (Enc.val ((asc_f parent l)[k]!))) (cs := (Enc.cells (asc_f parent l)[k]!)) rfl rfl rfl rfl rfl rfl (fun _ => rfl) rfl si28 zs28 (Enc.one _) ?_
    intro b6 w6 hb6 hB6 hx6
    have hbb6_hE := Nat.le_trans hE.size hb6
    have hbb6_hS3 := Nat.le_trans hS3.size hb6
    have hE := hE.trans hx6
    have hS3 := hS3.trans hx6
    have hR_l := hR_l.ext hx6
    have hB1 := hB1.ext hx6
    have hR2 := hR2.ext hx6
    have hO4_7 := hO4_7.ext hx6
    refine L.nil ?_
    refine thenF_nor ?_
    refine W.seq ?_
    refine W.seq ?_
    obtain ⟨A7, c7, hv7, hR7, hcap7⟩ := (hO4_7).form
    have hlen7 := hR7.len
    refine W.drawS [Sp.eq (.slice A7 out.length c7), Sp.eq (.int .i64 (out.length : Int)), Sp.eq (.int .i64 ((fr : Nat) : Int)), Sp.eq (.bool (decide (((fr : Nat) : Int) < (out.length : Int)))), Sp.eq (.bool (decide (((fr : Nat) : Int) < (out.length : Int)))), Sp.eq (vif (decide (((fr : Nat) : Int) < (out.length : Int))) (.slice A7 out.length c7)), Sp.eq (vif (decide (((fr : Nat) : Int) < (out.length : Int))) (.int .i64 ((fr : Nat) : Int))), Sp.eq (vif (decide (((fr : Nat) : Int) < (out.length : Int))) (.pointer (some ((adr A7).add (fr * 22))))), Sp.eq (vif (decide (((fr : Nat) : Int) < (out.length : Int))) (.pointer (some (((adr A7).add (fr * 22)).add 1)))), Sp.eq (vif (decide (((fr : Nat) : Int) < (out.length : Int))) (.int .i64 ((out[fr]!).slot))), Sp.eq (vif (decide (((fr : Nat) : Int) < (out.length : Int))) (.pointer (some ⟨b6, 1, none⟩))), Sp.eq (vif (decide (((fr : Nat) : Int) < (out.length : Int))) (.int .i64 (((asc_f parent l)[k]!).slot))), Sp.eq (vif (decide (((fr : Nat) : Int) < (out.length : Int))) (.bool (!decide (((out[fr]!).slot) = (((asc_f parent l)[k]!).slot))))), Sp.eq (.bool ((decide (((fr : Nat) : Int) < (out.length : Int))) && (!decide (((out[fr]!).slot) = (((asc_f parent l)[k]!).slot)))))] mixed (by rfl) (Obls.cons ?_ (Obls.cons ?_ (Obls.cons ?_ (Obls.cons ?_ (Obls.cons ?_ (Obls.cons ?_ (Obls.cons ?_ (Obls.cons ?_ (Obls.cons ?_ (Obls.cons ?_ (Obls.cons ?_ (Obls.cons ?_ (Obls.cons ?_ (Obls.cons ?_ Obls.nil)))))))))))))) ?_
    · intro f9 w9 hx9 ho9 hd9
      have d9_s7 : f9 7 = (.slice A7 out.length c7) := (ho9 7 rfl).trans ((show _ = v4_7 from s4_7).trans hv7)
      exact D.val rfl (op_move rfl d9_s7)
    · intro f10 w10 hx10 ho10 hd10
      have d10_0 : f10 19 = (.slice A7 out.length c7) := hd10 0 rfl
      have hR_l := hR_l.ext hx10
      have hB1 := hB1.ext hx10
      have hR2 := hR2.ext hx10
      have hO4_7 := hO4_7.ext hx10
      have hB6 := hB6.ext hx10
      have hR7 := hR7.ext hx10
      exact D.val rfl (op_len rfl d10_0 ln25)
    · intro f11 w11 hx11 ho11 hd11
      have d11_s8 : f11 8 = (.int .i64 ((fr : Nat) : Int)) := (ho11 8 rfl).trans s4_8
      exact D.val rfl (op_move rfl d11_s8)
    · intro f12 w12 hx12 ho12 hd12
      have d12_1 : f12 20 = (.int .i64 (out.length : Int)) := hd12 1 rfl
      have d12_2 : f12 21 = (.int .i64 ((fr : Nat) : Int)) := hd12 2 rfl
      exact D.val rfl (op_gtr rfl d12_1 d12_2)
    · intro f13 w13 hx13 ho13 hd13
      have d13_3 : f13 22 = (.bool (decide (((fr : Nat) : Int) < (out.length : Int)))) := hd13 3 rfl
      exact D.val rfl (op_move rfl d13_3)
    · intro f14 w14 hx14 ho14 hd14
      have d14_s7 : f14 7 = (.slice A7 out.length c7) := (ho14 7 rfl).trans ((show _ = v4_7 from s4_7).trans hv7)
      have d14_4 : f14 23 = (.bool (decide (((fr : Nat) : Int) < (out.length : Int)))) := hd14 4 rfl
      exact D.guardv (wanted_yes rfl rfl d14_4) (fun hg => (op_move rfl d14_s7))
    · intro f15 w15 hx15 ho15 hd15
      have d15_s8 : f15 8 = (.int .i64 ((fr : Nat) : Int)) := (ho15 8 rfl).trans s4_8
      have d15_4 : f15 23 = (.bool (decide (((fr : Nat) : Int) < (out.length : Int)))) := hd15 4 rfl
      exact D.guardv (wanted_yes rfl rfl d15_4) (fun hg => (op_move rfl d15_s8))
    · intro f16 w16 hx16 ho16 hd16
      have d16_4 : f16 23 = (.bool (decide (((fr : Nat) : Int) < (out.length : Int)))) := hd16 4 rfl
      have d16_5 : f16 24 = (vif (decide (((fr : Nat) : Int) < (out.length : Int))) (.slice A7 out.length c7)) := hd16 5 rfl
      have d16_6 : f16 25 = (vif (decide (((fr : Nat) : Int) < (out.length : Int))) (.int .i64 ((fr : Nat) : Int))) := hd16 6 rfl
      have hR_l := hR_l.ext hx16
      have hB1 := hB1.ext hx16
      have hR2 := hR2.ext hx16
      have hO4_7 := hO4_7.ext hx16
      have hB6 := hB6.ext hx16
      have hR7 := hR7.ext hx16
      exact D.guardv (wanted_yes rfl rfl d16_4) (fun hg => by have hp := hg; simp only [Bool.and_eq_true, Bool.or_eq_true, Bool.not_eq_true', decide_eq_true_eq, decide_eq_false_iff_not, bne_iff_ne, beq_iff_eq] at hp; skip; exact (op_index (k := fr) rfl ((show _ = vif _ (.slice A7 out.length c7) from d16_5).trans (vif_t hg).symm) ((show _ = vif _ (.int .i64 ((fr : Nat) : Int)) from d16_6).trans (vif_t hg).symm) sl25 (hR7.getA (get_bang (l := out) (k := fr) (by omega))).1 rfl (by omega) rfl))
    · intro f17 w17 hx17 ho17 hd17
      have d17_4 : f17 23 = (.bool (decide (((fr : Nat) : Int) < (out.length : Int)))) := hd17 4 rfl
      have d17_7 : f17 26 = (vif (decide (((fr : Nat) : Int) < (out.length : Int))) (.pointer (some ((adr A7).add (fr * 22))))) := hd17 7 rfl
      exact D.guardv (wanted_yes rfl rfl d17_4) (fun hg => (op_field rfl ((show _ = vif _ (.pointer (some ((adr A7).add (fr * 22)))) from d17_7).trans (vif_t hg).symm) fo28_1 rfl))
    · intro f18 w18 hx18 ho18 hd18
      have d18_4 : f18 23 = (.bool (decide (((fr : Nat) : Int) < (out.length : Int)))) := hd18 4 rfl
      have d18_8 : f18 27 = (vif (decide (((fr : Nat) : Int) < (out.length : Int))) (.pointer (some (((adr A7).add (fr * 22)).add 1)))) := hd18 8 rfl
      have hR_l := hR_l.ext hx18
      have hB1 := hB1.ext hx18
      have hR2 := hR2.ext hx18
      have hO4_7 := hO4_7.ext hx18
      have hB6 := hB6.ext hx18
      have hR7 := hR7.ext hx18
      exact D.guardv (wanted_yes rfl rfl d18_4) (fun hg => by have hp := hg; simp only [Bool.and_eq_true, Bool.or_eq_true, Bool.not_eq_true', decide_eq_true_eq, decide_eq_false_iff_not, bne_iff_ne, beq_iff_eq] at hp; skip; exact (op_load1 rfl ((show _ = vif _ (.pointer (some (((adr A7).add (fr * 22)).add 1))) from d18_8).trans (vif_t hg).symm) one3 ((hR7.getA (get_bang (l := out) (k := fr) (by omega))).2.one (n := 1) rfl)))
    · intro f19 w19 hx19 ho19 hd19
      have d19_s10 : f19 10 = (.pointer (some ⟨b6, 0, none⟩)) := ho19 10 rfl
      have d19_4 : f19 23 = (.bool (decide (((fr : Nat) : Int) < (out.length : Int)))) := hd19 4 rfl
      exact D.guardv (wanted_yes rfl rfl d19_4) (fun hg => (op_field rfl d19_s10 fo28_1 rfl))
    · intro f20 w20 hx20 ho20 hd20
      have d20_4 : f20 23 = (.bool (decide (((fr : Nat) : Int) < (out.length : Int)))) := hd20 4 rfl
      have d20_10 : f20 29 = (vif (decide (((fr : Nat) : Int) < (out.length : Int))) (.pointer (some ⟨b6, 1, none⟩))) := hd20 10 rfl
      have hR_l := hR_l.ext hx20
      have hB1 := hB1.ext hx20
      have hR2 := hR2.ext hx20
      have hO4_7 := hO4_7.ext hx20
      have hB6 := hB6.ext hx20
      have hR7 := hR7.ext hx20
      exact D.guardv (wanted_yes rfl rfl d20_4) (fun hg => (op_load1 rfl ((show _ = vif _ (.pointer (some ⟨b6, 1, none⟩)) from d20_10).trans (vif_t hg).symm) one3 (hB6.cells.one (n := 1) rfl)))
    · intro f21 w21 hx21 ho21 hd21
      have d21_4 : f21 23 = (.bool (decide (((fr : Nat) : Int) < (out.length : Int)))) := hd21 4 rfl
      have d21_9 : f21 28 = (vif (decide (((fr : Nat) : Int) < (out.length : Int))) (.int .i64 ((out[fr]!).slot))) := hd21 9 rfl
      have d21_11 : f21 30 = (vif (decide (((fr : Nat) : Int) < (out.length : Int))) (.int .i64 (((asc_f parent l)[k]!).slot))) := hd21 11 rfl
      exact D.guardv (wanted_yes rfl rfl d21_4) (fun hg => (op_neq rfl ((show _ = vif _ (.int .i64 ((out[fr]!).slot)) from d21_9).trans (vif_t hg).symm) ((show _ = vif _ (.int .i64 (((asc_f parent l)[k]!).slot)) from d21_11).trans (vif_t hg).symm)))
    · intro f22 w22 hx22 ho22 hd22
      have d22_4 : f22 23 = (.bool (decide (((fr : Nat) : Int) < (out.length : Int)))) := hd22 4 rfl
      have d22_12 : f22 31 = (vif (decide (((fr : Nat) : Int) < (out.length : Int))) (.bool (!decide (((out[fr]!).slot) = (((asc_f parent l)[k]!).slot))))) := hd22 12 rfl
      exact D.val rfl (op_and rfl d22_4 d22_12 rfl)
    intro f23 w23 hx23 ho23 hr23
    have s0 : f23 0 = (.int .i64 m) := (ho23 0 rfl).trans s4_0
    have s6 : f23 6 = (.slice none 0 0) := (ho23 6 rfl).trans s4_6
    have s7 : f23 7 = (.slice A7 out.length c7) := (ho23 7 rfl).trans ((show _ = v4_7 from s4_7).trans hv7)
    have s8 : f23 8 = (.int .i64 ((fr : Nat) : Int)) := (ho23 8 rfl).trans s4_8
    have s10 : f23 10 = (.pointer (some ⟨b6, 0, none⟩)) := ho23 10 rfl
    have s13 : f23 13 = (.slice A2 (asc_f parent l).length c2) := (ho23 13 rfl).trans s4_13
    have s14 : f23 14 = (.int .i64 ((asc_f parent l).length : Int)) := (ho23 14 rfl).trans s4_14
    have s15 : f23 15 = (.int .i64 ((k : Nat) : Int)) := (ho23 15 rfl).trans s4_15
    have s16 : f23 16 = (.bool (decide (((k : Nat) : Int) < ((asc_f parent l).length : Int)))) := ho23 16 rfl
    have s32 : f23 32 = (.bool ((decide (((fr : Nat) : Int) < (out.length : Int))) && (!decide (((out[fr]!).slot) = (((asc_f parent l)[k]!).slot))))) := hr23 13 (by decide)
    have hE := hE.trans hx23
    have hS3 := hS3.trans hx23
    have hR_l := hR_l.ext hx23
    have hB1 := hB1.ext hx23
    have hR2 := hR2.ext hx23
    have hO4_7 := hO4_7.ext hx23
    have hB6 := hB6.ext hx23
    have hR7 := hR7.ext hx23
    refine thenF_nor ?_
    refine W.cond (t := (decide (((fr : Nat) : Int) < (out.length : Int))) && (!decide (((out[fr]!).slot) = (((asc_f parent l)[k]!).slot)))) s32 (fun hc24 => ?_) (fun hc24 => ?_)
    · have hp24 := hc24
      simp only [Bool.and_eq_true, Bool.or_eq_true, Bool.and_eq_false_iff, Bool.or_eq_false_iff, Bool.not_eq_true', Bool.not_eq_false', decide_eq_true_eq, decide_eq_false_iff_not] at hp24
      have hfrom : accFrom (out, fr) (asc_f parent l)[k]! = out.length := by unfold accFrom; simp only [hc24, cond_true]
      obtain ⟨A25, c25, hv25, hR25, hcap25⟩ := (hO4_7).form
      have hlen25 := hR25.len
      refine W.region (by rfl) ?_
      refine L.val rfl (op_move rfl ((show _ = v4_7 from (s7.trans hv7.symm)).trans hv25)) ?_
      refine L.val rfl (op_len rfl rfl ln25) ?_
      refine L.val rfl (op_assign rfl rfl) ?_
      refine L.nil ?_
      refine thenF_nor ?_
      refine W.seq ?_
      refine W.seq ?_
      obtain ⟨A26, c26, hv26, hR26, hcap26⟩ := (hO4_7).form
      have hlen26 := hR26.len
      refine W.drawS [Sp.eq (.int .i64 m), Sp.eq (Enc.val ((asc_f parent l)[k]!)), Sp.eq (.slice A26 out.length c26), Sp.eq (.int .i64 (out.length : Int)), Sp.slr ((out.drop out.length) : List Vt), Sp.eq (.bool (allowed_f m ((asc_f parent l)[k]!) (out.drop out.length))), Sp.eq (.bool (!(allowed_f m ((asc_f parent l)[k]!) (out.drop out.length))))] mixed (by rfl) (Obls.cons ?_ (Obls.cons ?_ (Obls.cons ?_ (Obls.cons ?_ (Obls.cons ?_ (Obls.cons ?_ (Obls.cons ?_ Obls.nil))))))) ?_
      · intro f28 w28 hx28 ho28 hd28
        have d28_s0 : f28 0 = (.int .i64 m) := (ho28 0 rfl).trans s0
        exact D.val rfl (op_move rfl d28_s0)
      · intro f29 w29 hx29 ho29 hd29
        have d29_s10 : f29 10 = (.pointer (some ⟨b6, 0, none⟩)) := (ho29 10 rfl).trans s10
        have hR_l := hR_l.ext hx29
        have hB1 := hB1.ext hx29
        have hR2 := hR2.ext hx29
        have hO4_7 := hO4_7.ext hx29
        have hB6 := hB6.ext hx29
        have hR7 := hR7.ext hx29
        have hR25 := hR25.ext hx29
        have hR26 := hR26.ext hx29
        exact D.val rfl (op_load (v := (asc_f parent l)[k]!) rfl d29_s10 ty28 hB6.cells)
      · intro f30 w30 hx30 ho30 hd30
        have d30_s7 : f30 7 = (.slice A26 out.length c26) := (ho30 7 rfl).trans ((show _ = v4_7 from (s7.trans hv7.symm)).trans hv26)
        exact D.val rfl (op_move rfl d30_s7)
      · intro f31 w31 hx31 ho31 hd31
        have d31_s8 : f31 8 = (.int .i64 (out.length : Int)) := ho31 8 rfl
        exact D.val rfl (op_move rfl d31_s8)
      · intro f32 w32 hx32 ho32 hd32
        have d32_2 : f32 37 = (.slice A26 out.length c26) := hd32 2 rfl
        have d32_3 : f32 38 = (.int .i64 (out.length : Int)) := hd32 3 rfl
        have hR_l := hR_l.ext hx32
        have hB1 := hB1.ext hx32
        have hR2 := hR2.ext hx32
        have hO4_7 := hO4_7.ext hx32
        have hB6 := hB6.ext hx32
        have hR7 := hR7.ext hx32
        have hR25 := hR25.ext hx32
        have hR26 := hR26.ext hx32
        exact D.call (R := (Sp.slr ((out.drop out.length) : List Vt)).p) rfl (op_slr_l (k := out.length) sl25 rfl d32_2 d32_3 (by omega) hcap26 hR26)
      · intro f33 w33 hx33 ho33 hd33
        have d33_0 : f33 35 = (.int .i64 m) := hd33 0 rfl
        have d33_1 : f33 36 = (Enc.val ((asc_f parent l)[k]!)) := hd33 1 rfl
        obtain ⟨A33_4, c33_4, lo33_4, hi33_4, e33_4, hcap33_4, hR33_4⟩ := hd33 4 rfl
        have hlen33_4 := hR33_4.len
        have hR_l := hR_l.ext hx33
        have hB1 := hB1.ext hx33
        have hR2 := hR2.ext hx33
        have hO4_7 := hO4_7.ext hx33
        have hB6 := hB6.ext hx33
        have hR7 := hR7.ext hx33
        have hR25 := hR25.ext hx33
        have hR26 := hR26.ext hx33
        exact D.call (R := (Sp.eq (.bool (allowed_f m ((asc_f parent l)[k]!) (out.drop out.length)))).p) rfl (OpS.call (op_call rfl (argsC d33_0 (argsC d33_1 (argsC e33_4 argsN))) Try.func20 rfl rfl) (Allowed_ok hR33_4 (by first | omega | (simp only [List.length_drop, List.length_take, List.length_append, List.length_cons, List.length_nil] at *; omega))))
      · intro f34 w34 hx34 ho34 hd34
        have d34_5 : f34 40 = (.bool (allowed_f m ((asc_f parent l)[k]!) (out.drop out.length))) := hd34 5 rfl
        exact D.val rfl (op_not rfl d34_5)
      intro f35 w35 hx35 ho35 hr35
      have s0 : f35 0 = (.int .i64 m) := (ho35 0 rfl).trans s0
      have s6 : f35 6 = (.slice none 0 0) := (ho35 6 rfl).trans s6
      have s7 : f35 7 = (.slice A26 out.length c26) := (ho35 7 rfl).trans ((show _ = v4_7 from (s7.trans hv7.symm)).trans hv26)
      have s8 : f35 8 = (.int .i64 (out.length : Int)) := ho35 8 rfl
      have s10 : f35 10 = (.pointer (some ⟨b6, 0, none⟩)) := (ho35 10 rfl).trans s10
      have s13 : f35 13 = (.slice A2 (asc_f parent l).length c2) := (ho35 13 rfl).trans s13
      have s14 : f35 14 = (.int .i64 ((asc_f parent l).length : Int)) := (ho35 14 rfl).trans s14
      have s15 : f35 15 = (.int .i64 ((k : Nat) : Int)) := (ho35 15 rfl).trans s15
      have s16 : f35 16 = (.bool (decide (((k : Nat) : Int) < ((asc_f parent l).length : Int)))) := (ho35 16 rfl).trans s16
      have s32 : f35 32 = (.bool ((decide (((fr : Nat) : Int) < (out.length : Int))) && (!decide (((out[fr]!).slot) = (((asc_f parent l)[k]!).slot))))) := (ho35 32 rfl).trans s32
      have s41 : f35 41 = (.bool (!(allowed_f m ((asc_f parent l)[k]!) (out.drop out.length)))) := hr35 6 (by decide)
      have hE := hE.trans hx35
      have hS3 := hS3.trans hx35
      have hR_l := hR_l.ext hx35
      have hB1 := hB1.ext hx35
      have hR2 := hR2.ext hx35
      have hO4_7 := hO4_7.ext hx35
      have hB6 := hB6.ext hx35
      have hR7 := hR7.ext hx35
      have hR25 := hR25.ext hx35
      have hR26 := hR26.ext hx35
      refine thenF_nor ?_
      refine W.cond (t := !(allowed_f m ((asc_f parent l)[k]!) (out.drop out.length))) s41 (fun hc36 => ?_) (fun hc36 => ?_)
      · have hp36 := hc36
        simp only [Bool.and_eq_true, Bool.or_eq_true, Bool.and_eq_false_iff, Bool.or_eq_false_iff, Bool.not_eq_true', Bool.not_eq_false', decide_eq_true_eq, decide_eq_false_iff_not] at hp36
        have hallow := hc36
        simp only [Bool.not_eq_true'] at hallow
        refine W.exit ?_
        refine thenF_exit ?_
        refine blockF_hit ?_
        refine thenF_nor ?_
        refine W.region (by rfl) ?_
        refine L.val rfl (op_add (c := ((k + 1 : Nat) : Int)) rfl s15 rfl (by omega) (by omega)) ?_
        refine L.val rfl (op_move rfl rfl) ?_
        refine L.nil ?_
        refine thenF_nor ?_
        exact ⟨(k + 1, out, out.length), ⟨(by (try dsimp only); omega), (by simp only [List.length_append, List.length_cons, List.length_nil]; omega), (by simp only [List.length_append, List.length_cons, List.length_nil]; omega), (by dsimp only; rw [fold_go (by omega), hst]; unfold accStep; rw [hfrom, hallow]; rfl), s0, s6, s13, s14, rfl, s8, (own_at (v := v4_7) (s7.trans hv26.symm) hO4_7), hS3⟩, (by (try dsimp only); omega)⟩
      · have hp36 := hc36
        simp only [Bool.and_eq_true, Bool.or_eq_true, Bool.and_eq_false_iff, Bool.or_eq_false_iff, Bool.not_eq_true', Bool.not_eq_false', decide_eq_true_eq, decide_eq_false_iff_not] at hp36
        have hallow := hc36
        simp only [Bool.not_eq_false'] at hallow
        refine W.skip ?_
        refine thenF_nor ?_
        refine W.region (by rfl) ?_
        refine L.val rfl (op_move rfl (s7.trans hv26.symm)) ?_
        refine L.val rfl (op_load (v := (asc_f parent l)[k]!) rfl s10 ty28 hB6.cells) ?_
        refine L.step rfl (op_slice1 (a := ((asc_f parent l)[k]! : Vt)) rfl rfl sl25 zs28 (by decide)) ?_
        rintro _ w37 ⟨b37, rfl, hb37, hB37, hx37⟩
        have hE := hE.trans hx37
        have hS3 := hS3.trans hx37
        have hR_l := hR_l.ext hx37
        have hB1 := hB1.ext hx37
        have hR2 := hR2.ext hx37
        have hO4_7 := hO4_7.ext hx37
        have hB6 := hB6.ext hx37
        have hR7 := hR7.ext hx37
        have hR25 := hR25.ext hx37
        have hR26 := hR26.ext hx37
        refine L.step rfl (op_append (a := ((asc_f parent l)[k]! : Vt)) (ad := ⟨b37, 0, none⟩) rfl rfl rfl sl25 zs28 bt28 hO4_7 hB37.cells (by omega) (by decide) hS3.size) ?_
        rintro v38 w38 ⟨hO38, hg38⟩
        have hS3 := hS3.own hO4_7 hg38
        have hR_l := S3_hR_l.ext hS3
        have hB1 := S3_hB1.ext hS3
        have hR2 := S3_hR2.ext hS3
        have hE := S3_hE.trans hS3
        refine L.val rfl (op_assign rfl rfl) ?_
        refine L.nil ?_
        refine blockF_nor ?_
        refine thenF_nor ?_
        refine W.region (by rfl) ?_
        refine L.val rfl (op_add (c := ((k + 1 : Nat) : Int)) rfl s15 rfl (by omega) (by omega)) ?_
        refine L.val rfl (op_move rfl rfl) ?_
        refine L.nil ?_
        refine thenF_nor ?_
        exact ⟨(k + 1, (out ++ [(asc_f parent l)[k]!]), out.length), ⟨(by (try dsimp only); omega), (by simp only [List.length_append, List.length_cons, List.length_nil]; omega), (by simp only [List.length_append, List.length_cons, List.length_nil]; omega), (by dsimp only; rw [fold_go (by omega), hst]; unfold accStep; rw [hfrom, hallow]; rfl), s0, s6, s13, s14, rfl, s8, (own_at (v := v38) rfl hO38), hS3⟩, (by (try dsimp only); omega)⟩
    · have hp24 := hc24
      simp only [Bool.and_eq_true, Bool.or_eq_true, Bool.and_eq_false_iff, Bool.or_eq_false_iff, Bool.not_eq_true', Bool.not_eq_false', decide_eq_true_eq, decide_eq_false_iff_not] at hp24
      have hfrom : accFrom (out, fr) (asc_f parent l)[k]! = fr := by unfold accFrom; simp only [hc24, cond_false]
      refine W.skip ?_
      refine thenF_nor ?_
      refine W.seq ?_
      refine W.seq ?_
      obtain ⟨A39, c39, hv39, hR39, hcap39⟩ := (hO4_7).form
      have hlen39 := hR39.len
      refine W.drawS [Sp.eq (.int .i64 m), Sp.eq (Enc.val ((asc_f parent l)[k]!)), Sp.eq (.slice A39 out.length c39), Sp.eq (.int .i64 ((fr : Nat) : Int)), Sp.slr ((out.drop fr) : List Vt), Sp.eq (.bool (allowed_f m ((asc_f parent l)[k]!) (out.drop fr))), Sp.eq (.bool (!(allowed_f m ((asc_f parent l)[k]!) (out.drop fr))))] mixed (by rfl) (Obls.cons ?_ (Obls.cons ?_ (Obls.cons ?_ (Obls.cons ?_ (Obls.cons ?_ (Obls.cons ?_ (Obls.cons ?_ Obls.nil))))))) ?_
      · intro f41 w41 hx41 ho41 hd41
        have d41_s0 : f41 0 = (.int .i64 m) := (ho41 0 rfl).trans s0
        exact D.val rfl (op_move rfl d41_s0)
      · intro f42 w42 hx42 ho42 hd42
        have d42_s10 : f42 10 = (.pointer (some ⟨b6, 0, none⟩)) := (ho42 10 rfl).trans s10
        have hR_l := hR_l.ext hx42
        have hB1 := hB1.ext hx42
        have hR2 := hR2.ext hx42
        have hO4_7 := hO4_7.ext hx42
        have hB6 := hB6.ext hx42
        have hR7 := hR7.ext hx42
        have hR39 := hR39.ext hx42
        exact D.val rfl (op_load (v := (asc_f parent l)[k]!) rfl d42_s10 ty28 hB6.cells)
      · intro f43 w43 hx43 ho43 hd43
        have d43_s7 : f43 7 = (.slice A39 out.length c39) := (ho43 7 rfl).trans ((show _ = v4_7 from (s7.trans hv7.symm)).trans hv39)
        exact D.val rfl (op_move rfl d43_s7)
      · intro f44 w44 hx44 ho44 hd44
        have d44_s8 : f44 8 = (.int .i64 ((fr : Nat) : Int)) := (ho44 8 rfl).trans s8
        exact D.val rfl (op_move rfl d44_s8)
      · intro f45 w45 hx45 ho45 hd45
        have d45_2 : f45 37 = (.slice A39 out.length c39) := hd45 2 rfl
        have d45_3 : f45 38 = (.int .i64 ((fr : Nat) : Int)) := hd45 3 rfl
        have hR_l := hR_l.ext hx45
        have hB1 := hB1.ext hx45
        have hR2 := hR2.ext hx45
        have hO4_7 := hO4_7.ext hx45
        have hB6 := hB6.ext hx45
        have hR7 := hR7.ext hx45
        have hR39 := hR39.ext hx45
        exact D.call (R := (Sp.slr ((out.drop fr) : List Vt)).p) rfl (op_slr_l (k := fr) sl25 rfl d45_2 d45_3 (by omega) hcap39 hR39)
      · intro f46 w46 hx46 ho46 hd46
        have d46_0 : f46 35 = (.int .i64 m) := hd46 0 rfl
        have d46_1 : f46 36 = (Enc.val ((asc_f parent l)[k]!)) := hd46 1 rfl
        obtain ⟨A46_4, c46_4, lo46_4, hi46_4, e46_4, hcap46_4, hR46_4⟩ := hd46 4 rfl
        have hlen46_4 := hR46_4.len
        have hR_l := hR_l.ext hx46
        have hB1 := hB1.ext hx46
        have hR2 := hR2.ext hx46
        have hO4_7 := hO4_7.ext hx46
        have hB6 := hB6.ext hx46
        have hR7 := hR7.ext hx46
        have hR39 := hR39.ext hx46
        exact D.call (R := (Sp.eq (.bool (allowed_f m ((asc_f parent l)[k]!) (out.drop fr)))).p) rfl (OpS.call (op_call rfl (argsC d46_0 (argsC d46_1 (argsC e46_4 argsN))) Try.func20 rfl rfl) (Allowed_ok hR46_4 (by first | omega | (simp only [List.length_drop, List.length_take, List.length_append, List.length_cons, List.length_nil] at *; omega))))
      · intro f47 w47 hx47 ho47 hd47
        have d47_5 : f47 40 = (.bool (allowed_f m ((asc_f parent l)[k]!) (out.drop fr))) := hd47 5 rfl
        exact D.val rfl (op_not rfl d47_5)
      intro f48 w48 hx48 ho48 hr48
      have s0 : f48 0 = (.int .i64 m) := (ho48 0 rfl).trans s0
      have s6 : f48 6 = (.slice none 0 0) := (ho48 6 rfl).trans s6
      have s7 : f48 7 = (.slice A39 out.length c39) := (ho48 7 rfl).trans ((show _ = v4_7 from (s7.trans hv7.symm)).trans hv39)
      have s8 : f48 8 = (.int .i64 ((fr : Nat) : Int)) := (ho48 8 rfl).trans s8
      have s10 : f48 10 = (.pointer (some ⟨b6, 0, none⟩)) := (ho48 10 rfl).trans s10
      have s13 : f48 13 = (.slice A2 (asc_f parent l).length c2) := (ho48 13 rfl).trans s13
      have s14 : f48 14 = (.int .i64 ((asc_f parent l).length : Int)) := (ho48 14 rfl).trans s14
      have s15 : f48 15 = (.int .i64 ((k : Nat) : Int)) := (ho48 15 rfl).trans s15
      have s16 : f48 16 = (.bool (decide (((k : Nat) : Int) < ((asc_f parent l).length : Int)))) := (ho48 16 rfl).trans s16
      have s32 : f48 32 = (.bool ((decide (((fr : Nat) : Int) < (out.length : Int))) && (!decide (((out[fr]!).slot) = (((asc_f parent l)[k]!).slot))))) := (ho48 32 rfl).trans s32
      have s41 : f48 41 = (.bool (!(allowed_f m ((asc_f parent l)[k]!) (out.drop fr)))) := hr48 6 (by decide)
      have hE := hE.trans hx48
      have hS3 := hS3.trans hx48
      have hR_l := hR_l.ext hx48
      have hB1 := hB1.ext hx48
      have hR2 := hR2.ext hx48
      have hO4_7 := hO4_7.ext hx48
      have hB6 := hB6.ext hx48
      have hR7 := hR7.ext hx48
      have hR39 := hR39.ext hx48
      refine thenF_nor ?_
      refine W.cond (t := !(allowed_f m ((asc_f parent l)[k]!) (out.drop fr))) s41 (fun hc49 => ?_) (fun hc49 => ?_)
      · have hp49 := hc49
        simp only [Bool.and_eq_true, Bool.or_eq_true, Bool.and_eq_false_iff, Bool.or_eq_false_iff, Bool.not_eq_true', Bool.not_eq_false', decide_eq_true_eq, decide_eq_false_iff_not] at hp49
        have hallow := hc49
        simp only [Bool.not_eq_true'] at hallow
        refine W.exit ?_
        refine thenF_exit ?_
        refine blockF_hit ?_
        refine thenF_nor ?_
        refine W.region (by rfl) ?_
        refine L.val rfl (op_add (c := ((k + 1 : Nat) : Int)) rfl s15 rfl (by omega) (by omega)) ?_
        refine L.val rfl (op_move rfl rfl) ?_
        refine L.nil ?_
        refine thenF_nor ?_
        exact ⟨(k + 1, out, fr), ⟨(by (try dsimp only); omega), (by simp only [List.length_append, List.length_cons, List.length_nil]; omega), (by simp only [List.length_append, List.length_cons, List.length_nil]; omega), (by dsimp only; rw [fold_go (by omega), hst]; unfold accStep; rw [hfrom, hallow]; rfl), s0, s6, s13, s14, rfl, s8, (own_at (v := v4_7) (s7.trans hv39.symm) hO4_7), hS3⟩, (by (try dsimp only); omega)⟩
      · have hp49 := hc49
        simp only [Bool.and_eq_true, Bool.or_eq_true, Bool.and_eq_false_iff, Bool.or_eq_false_iff, Bool.not_eq_true', Bool.not_eq_false', decide_eq_true_eq, decide_eq_false_iff_not] at hp49
        have hallow := hc49
        simp only [Bool.not_eq_false'] at hallow
        refine W.skip ?_
        refine thenF_nor ?_
        refine W.region (by rfl) ?_
        refine L.val rfl (op_move rfl (s7.trans hv39.symm)) ?_
        refine L.val rfl (op_load (v := (asc_f parent l)[k]!) rfl s10 ty28 hB6.cells) ?_
        refine L.step rfl (op_slice1 (a := ((asc_f parent l)[k]! : Vt)) rfl rfl sl25 zs28 (by decide)) ?_
        rintro _ w50 ⟨b50, rfl, hb50, hB50, hx50⟩
        have hE := hE.trans hx50
        have hS3 := hS3.trans hx50
        have hR_l := hR_l.ext hx50
        have hB1 := hB1.ext hx50
        have hR2 := hR2.ext hx50
        have hO4_7 := hO4_7.ext hx50
        have hB6 := hB6.ext hx50
        have hR7 := hR7.ext hx50
        have hR39 := hR39.ext hx50
        refine L.step rfl (op_append (a := ((asc_f parent l)[k]! : Vt)) (ad := ⟨b50, 0, none⟩) rfl rfl rfl sl25 zs28 bt28 hO4_7 hB50.cells (by omega) (by decide) hS3.size) ?_
        rintro v51 w51 ⟨hO51, hg51⟩
        have hS3 := hS3.own hO4_7 hg51
        have hR_l := S3_hR_l.ext hS3
        have hB1 := S3_hB1.ext hS3
        have hR2 := S3_hR2.ext hS3
        have hE := S3_hE.trans hS3
        refine L.val rfl (op_assign rfl rfl) ?_
        refine L.nil ?_
        refine blockF_nor ?_
        refine thenF_nor ?_
        refine W.region (by rfl) ?_
        refine L.val rfl (op_add (c := ((k + 1 : Nat) : Int)) rfl s15 rfl (by omega) (by omega)) ?_
        refine L.val rfl (op_move rfl rfl) ?_
        refine L.nil ?_
        refine thenF_nor ?_
        exact ⟨(k + 1, (out ++ [(asc_f parent l)[k]!]), fr), ⟨(by (try dsimp only); omega), (by simp only [List.length_append, List.length_cons, List.length_nil]; omega), (by simp only [List.length_append, List.length_cons, List.length_nil]; omega), (by dsimp only; rw [fold_go (by omega), hst]; unfold accStep; rw [hfrom, hallow]; rfl), s0, s6, s13, s14, rfl, s8, (own_at (v := v51) rfl hO51), hS3⟩, (by (try dsimp only); omega)⟩
  · have hp5 := hc5
    simp only [Bool.and_eq_true, Bool.or_eq_true, Bool.and_eq_false_iff, Bool.or_eq_false_iff, Bool.not_eq_true', Bool.not_eq_false', decide_eq_true_eq, decide_eq_false_iff_not] at hp5
    refine W.exit ?_
    refine thenF_exit ?_
    refine thenF_exit ?_
    refine blockF_hit ?_
    refine thenF_nor ?_
    refine W.seq ?_
    obtain ⟨A52, c52, hv52, hR52, hcap52⟩ := (hO4_7).form
    have hlen52 := hR52.len
    refine W.region (by rfl) ?_
    refine L.val rfl (op_move rfl ((show _ = v4_7 from s4_7).trans hv52)) ?_
    refine L.val rfl (op_assign rfl rfl) ?_
    refine L.nil ?_
    refine thenF_nor ?_
    refine W.ret ?_
    refine scopeF_ret ?_
    exact end_ret1 (v := (.slice A52 out.length c52)) rfl rfl ⟨(by have hkl : k = (asc_f parent l).length := (by omega); rw [hkl, List.take_length] at hst; unfold accepted_f; rw [hst]; exact (⟨_, _, _, _, rfl, hcap52, hR52⟩ : SlR _ _ _)), hE⟩

end Go.Proofs.Ytdknjfmjddlphaa
