/-
  Contracts of functions of the program, each with its walk in the logic of frames. Printed by a program of this session (wip/gen) from the translation.
-/
import Derived.Test.YtdknjfmjddlphaaGS1
import Derived.Test.YtdknjfmjddlphaaLaw17
set_option linter.unusedSimpArgs false
set_option linter.unusedVariables false
namespace Go.Proofs.Ytdknjfmjddlphaa
open Go Go.Fk

set_option maxRecDepth 100000 in
set_option maxHeartbeats 8000000 in
theorem SuperblockDecides_ok {m : Int} {parent : Nm} {A_l : Option Addr} {c_l lo_l hi_l : Nat} {l : List Vt}  {w : World} (hR_l : Rd w lo_l hi_l A_l l) (hcap_l : l.length ≤ c_l) : Gives Try.prog 13 #[(.int .i64 m), (Enc.val (parent : Nm)), (.slice A_l l.length c_l)] w fun u w' => u = (.bool true) ∧ Ext w w' := by
  have hE : Ext w w := Ext.refl w
  have hlen_l := hR_l.len
  refine gives_of_W Try.func13 rfl Try.ntmps13 rfl ?_
  have htl : (l.take 250).length ≤ 250 := List.length_take_le _ _
  have hdl := dec17_short m parent (l.take 250)
  have hil := ids_len m
  refine W.seq ?_
  refine W.region (by rfl) ?_
  refine L.step rfl (op_box (cs := (Enc.cells (parent : Nm))) rfl rfl rfl) ?_
  rintro _ w1 ⟨b1, rfl, hb1, hB1, hx1⟩
  have hE := hE.trans hx1
  have hR_l := hR_l.ext hx1
  refine L.val (v := (.bool false)) rfl (op_assign rfl rfl) ?_
  refine L.nil ?_
  refine thenF_nor ?_
  refine W.seq ?_
  refine W.region (by rfl) ?_
  refine L.val rfl (op_move rfl rfl) ?_
  refine L.step rfl (OpS.call (op_call rfl (argsC rfl argsN) Try.func39 rfl rfl) (cut17_ok hR_l hcap_l)) ?_
  rintro _ w2 ⟨⟨A2, c2, lo2, hi2, rfl, hcap2, hR2⟩, hx2⟩
  have hE := hE.trans hx2
  have hR_l := hR_l.ext hx2
  have hB1 := hB1.ext hx2
  have hlen2 := hR2.len
  refine L.val rfl (op_assign rfl rfl) ?_
  refine L.nil ?_
  refine thenF_nor ?_
  refine W.seq ?_
  refine W.region (by rfl) ?_
  refine L.val rfl (op_move rfl rfl) ?_
  refine L.val rfl (op_load (v := (parent : Nm)) rfl rfl ty24 hB1.cells) ?_
  refine L.val rfl (op_move rfl rfl) ?_
  refine L.step rfl (OpS.call (op_call rfl (argsC rfl (argsC rfl (argsC rfl argsN))) Try.func40 rfl rfl) (Decide_ok hR2 (by first | omega | (simp only [List.length_drop, List.length_take, List.length_append, List.length_cons, List.length_nil] at *; omega)))) ?_
  rintro _ w3 ⟨⟨u3, rfl, A3, c3, lo3, hi3, rfl, hcap3, hR3⟩, hx3⟩
  have hE := hE.trans hx3
  have hR_l := hR_l.ext hx3
  have hB1 := hB1.ext hx3
  have hR2 := hR2.ext hx3
  have hlen3 := hR3.len
  refine L.val rfl (op_move rfl rfl) ?_
  refine L.val rfl (op_extract rfl rfl rfl) ?_
  refine L.val rfl (op_extract rfl rfl rfl) ?_
  refine L.val rfl (op_assign rfl rfl) ?_
  refine L.val rfl (op_assign rfl rfl) ?_
  refine L.nil ?_
  refine thenF_nor ?_
  refine W.seq ?_
  refine W.region (by rfl) ?_
  refine L.val rfl (op_move rfl rfl) ?_
  refine L.step rfl (OpS.call (op_call rfl (argsC rfl argsN) Try.func44 rfl rfl) IDs_ok) ?_
  rintro _ w4 ⟨⟨A4, c4, lo4, hi4, rfl, hcap4, hR4⟩, hx4⟩
  have hE := hE.trans hx4
  have hR_l := hR_l.ext hx4
  have hB1 := hB1.ext hx4
  have hR2 := hR2.ext hx4
  have hR3 := hR3.ext hx4
  have hlen4 := hR4.len
  refine L.val rfl (op_assign rfl rfl) ?_
  refine L.nil ?_
  refine thenF_nor ?_
  refine W.seq ?_
  refine W.region (by rfl) ?_
  refine L.val rfl (op_move rfl rfl) ?_
  refine L.val rfl (op_len rfl rfl ln57) ?_
  refine L.val rfl (op_gtr rfl rfl rfl) ?_
  refine L.val rfl (op_assign rfl rfl) ?_
  refine L.nil ?_
  refine thenF_nor ?_
  refine W.seq ?_
  refine W.seq ?_
  refine W.region (by rfl) ?_
  refine L.val rfl (op_assign rfl rfl) ?_
  refine L.nil ?_
  refine thenF_nor ?_
  refine W.block ?_
  have S5_hR_l := hR_l
  have S5_hB1 := hB1
  have S5_hR2 := hR2
  have S5_hR3 := hR3
  have S5_hR4 := hR4
  have S5_hE := hE
  have hS5 : Ext w4 w4 := Ext.refl _
  refine W.loopg (γ := Nat × Bool) (fun (g : Nat × Bool) (f : Fr) (ww : World) => g.1 ≤ (ids_f m).length ∧ (decide ((0 : Int) < ((ids_f m).length : Int)) && ((ids_f m).take g.1).all (whole17 m parent (l.take 250))) = g.2 ∧ f 0 = (.int .i64 m) ∧ f 2 = (.slice A2 (l.take 250).length c2) ∧ f 4 = (.pointer (some ⟨b1, 0, none⟩)) ∧ f 6 = (.bool false) ∧ f 7 = (.slice A3 ((decide17_f m parent (l.take 250)).1).length c3) ∧ f 8 = (.bool ((decide17_f m parent (l.take 250)).2)) ∧ f 9 = (.slice A4 (ids_f m).length c4) ∧ f 11 = (.int .i64 ((g.1 : Nat) : Int)) ∧ f 10 = (.bool g.2) ∧ Ext w4 ww) (fun (g : Nat × Bool) => (ids_f m).length - g.1) (0, decide ((0 : Int) < ((ids_f m).length : Int))) ⟨(by (try dsimp only); omega), (by simp), rfl, rfl, rfl, rfl, rfl, rfl, rfl, rfl, rfl, hS5⟩ ?_
  rintro ⟨i, u⟩ f6 w6 ⟨hi, hu, s6_0, s6_2, s6_4, s6_6, s6_7, s6_8, s6_9, s6_11, s6_10, hS5⟩
  dsimp only at hi hu s6_0 s6_2 s6_4 s6_6 s6_7 s6_8 s6_9 s6_11 s6_10 hS5
  have hR_l := S5_hR_l.ext hS5
  have hB1 := S5_hB1.ext hS5
  have hR2 := S5_hR2.ext hS5
  have hR3 := S5_hR3.ext hS5
  have hR4 := S5_hR4.ext hS5
  have hE := S5_hE.trans hS5
  refine W.seq ?_
  refine W.seq ?_
  refine W.region (by rfl) ?_
  refine L.val rfl (op_move rfl s6_11) ?_
  refine L.val rfl (op_move rfl s6_9) ?_
  refine L.val rfl (op_len rfl rfl ln57) ?_
  refine L.val rfl (op_lss rfl rfl rfl) ?_
  refine L.nil ?_
  refine thenF_nor ?_
  refine W.cond (t := decide (((i : Nat) : Int) < ((ids_f m).length : Int))) rfl (fun hc7 => ?_) (fun hc7 => ?_)
  · have hp7 := hc7
    simp only [Bool.and_eq_true, Bool.or_eq_true, Bool.and_eq_false_iff, Bool.or_eq_false_iff, Bool.not_eq_true', Bool.not_eq_false', decide_eq_true_eq, decide_eq_false_iff_not] at hp7
    refine W.skip ?_
    refine thenF_nor ?_
    refine W.seq ?_
    refine W.block ?_
    refine W.drawL [Sp.eq (.bool u), Sp.eq (.bool u), Sp.eq (vif u (.int .i64 m)), Sp.eq (vif u (Enc.val (parent : Nm))), Sp.eq (vif u (.slice A2 (l.take 250).length c2)), Sp.eq (vif u (.slice A4 (ids_f m).length c4)), Sp.eq (vif u (.int .i64 ((i : Nat) : Int))), Sp.eq (vif u (.pointer (some ((adr A4).add (i * 1))))), Sp.eq (vif u (.int .i64 ((ids_f m)[i]!))), Sp.gsl (u) (outcomes_f m parent (l.take 250) ((ids_f m)[i]!) : List Oc), Sp.eq (vif u (.int .i64 ((outcomes_f m parent (l.take 250) ((ids_f m)[i]!)).length : Int))), Sp.eq (vif u (.bool (decide (0 < ((outcomes_f m parent (l.take 250) ((ids_f m)[i]!)).length : Int))))), Sp.eq (.bool (u && (decide (0 < ((outcomes_f m parent (l.take 250) ((ids_f m)[i]!)).length : Int))))), Sp.eq (.bool (u && (decide (0 < ((outcomes_f m parent (l.take 250) ((ids_f m)[i]!)).length : Int)))))] mixed (by rfl) (OblsL.cons ?_ (OblsL.cons ?_ (OblsL.cons ?_ (OblsL.cons ?_ (OblsL.cons ?_ (OblsL.cons ?_ (OblsL.cons ?_ (OblsL.cons ?_ (OblsL.cons ?_ (OblsL.cons ?_ (OblsL.cons ?_ (OblsL.cons ?_ (OblsL.cons ?_ (OblsL.cons ?_ OblsL.nil)))))))))))))) ?_
    · intro f9 w9 hx9 ho9 hd9 hl9
      have d9_s10 : f9 10 = (.bool u) := (hl9 13 10 rfl rfl).trans s6_10
      exact D.val rfl (op_move rfl d9_s10)
    · intro f10 w10 hx10 ho10 hd10 hl10
      have d10_0 : f10 33 = (.bool u) := hd10 0 rfl
      exact D.val rfl (op_move rfl d10_0)
    · intro f11 w11 hx11 ho11 hd11 hl11
      have d11_s0 : f11 0 = (.int .i64 m) := (ho11 0 rfl).trans s6_0
      have d11_1 : f11 34 = (.bool u) := hd11 1 rfl
      exact D.guardv (wanted_yes rfl rfl d11_1) (fun hg => (op_move rfl d11_s0))
    · intro f12 w12 hx12 ho12 hd12 hl12
      have d12_s4 : f12 4 = (.pointer (some ⟨b1, 0, none⟩)) := (ho12 4 rfl).trans s6_4
      have d12_1 : f12 34 = (.bool u) := hd12 1 rfl
      have hR_l := hR_l.ext hx12
      have hB1 := hB1.ext hx12
      have hR2 := hR2.ext hx12
      have hR3 := hR3.ext hx12
      have hR4 := hR4.ext hx12
      exact D.guardv (wanted_yes rfl rfl d12_1) (fun hg => (op_load (v := (parent : Nm)) rfl d12_s4 ty24 hB1.cells))
    · intro f13 w13 hx13 ho13 hd13 hl13
      have d13_s2 : f13 2 = (.slice A2 (l.take 250).length c2) := (ho13 2 rfl).trans s6_2
      have d13_1 : f13 34 = (.bool u) := hd13 1 rfl
      exact D.guardv (wanted_yes rfl rfl d13_1) (fun hg => (op_move rfl d13_s2))
    · intro f14 w14 hx14 ho14 hd14 hl14
      have d14_s9 : f14 9 = (.slice A4 (ids_f m).length c4) := (ho14 9 rfl).trans s6_9
      have d14_1 : f14 34 = (.bool u) := hd14 1 rfl
      exact D.guardv (wanted_yes rfl rfl d14_1) (fun hg => (op_move rfl d14_s9))
    · intro f15 w15 hx15 ho15 hd15 hl15
      have d15_s11 : f15 11 = (.int .i64 ((i : Nat) : Int)) := (ho15 11 rfl).trans s6_11
      have d15_1 : f15 34 = (.bool u) := hd15 1 rfl
      exact D.guardv (wanted_yes rfl rfl d15_1) (fun hg => (op_move rfl d15_s11))
    · intro f16 w16 hx16 ho16 hd16 hl16
      have d16_1 : f16 34 = (.bool u) := hd16 1 rfl
      have d16_5 : f16 38 = (vif u (.slice A4 (ids_f m).length c4)) := hd16 5 rfl
      have d16_6 : f16 39 = (vif u (.int .i64 ((i : Nat) : Int))) := hd16 6 rfl
      have hR_l := hR_l.ext hx16
      have hB1 := hB1.ext hx16
      have hR2 := hR2.ext hx16
      have hR3 := hR3.ext hx16
      have hR4 := hR4.ext hx16
      exact D.guardv (wanted_yes rfl rfl d16_1) (fun hg => by have hp := hg; (try simp only [Bool.and_eq_true, Bool.or_eq_true, Bool.not_eq_true', decide_eq_true_eq, decide_eq_false_iff_not, bne_iff_ne, beq_iff_eq] at hp); skip; exact (op_index (k := i) rfl ((show _ = vif _ (.slice A4 (ids_f m).length c4) from d16_5).trans (vif_t hg).symm) ((show _ = vif _ (.int .i64 ((i : Nat) : Int)) from d16_6).trans (vif_t hg).symm) sl57 (hR4.getA (get_bang (l := ids_f m) (k := i) (by omega))).1 rfl (by omega) rfl))
    · intro f17 w17 hx17 ho17 hd17 hl17
      have d17_1 : f17 34 = (.bool u) := hd17 1 rfl
      have d17_7 : f17 40 = (vif u (.pointer (some ((adr A4).add (i * 1))))) := hd17 7 rfl
      have hR_l := hR_l.ext hx17
      have hB1 := hB1.ext hx17
      have hR2 := hR2.ext hx17
      have hR3 := hR3.ext hx17
      have hR4 := hR4.ext hx17
      exact D.guardv (wanted_yes rfl rfl d17_1) (fun hg => by have hp := hg; (try simp only [Bool.and_eq_true, Bool.or_eq_true, Bool.not_eq_true', decide_eq_true_eq, decide_eq_false_iff_not, bne_iff_ne, beq_iff_eq] at hp); skip; exact (op_load1 rfl ((show _ = vif _ (.pointer (some ((adr A4).add (i * 1)))) from d17_7).trans (vif_t hg).symm) one3 ((hR4.getA (get_bang (l := ids_f m) (k := i) (by omega))).2.one (n := 0) rfl)))
    · intro f18 w18 hx18 ho18 hd18 hl18
      have d18_1 : f18 34 = (.bool u) := hd18 1 rfl
      have d18_2 : f18 35 = (vif u (.int .i64 m)) := hd18 2 rfl
      have d18_3 : f18 36 = (vif u (Enc.val (parent : Nm))) := hd18 3 rfl
      have d18_4 : f18 37 = (vif u (.slice A2 (l.take 250).length c2)) := hd18 4 rfl
      have d18_8 : f18 41 = (vif u (.int .i64 ((ids_f m)[i]!))) := hd18 8 rfl
      have hR_l := hR_l.ext hx18
      have hB1 := hB1.ext hx18
      have hR2 := hR2.ext hx18
      have hR3 := hR3.ext hx18
      have hR4 := hR4.ext hx18
      exact D.guardsl (l := (outcomes_f m parent (l.take 250) ((ids_f m)[i]!) : List Oc)) (wanted_yes rfl rfl d18_1) (fun hg => by have hp := hg; (try simp only [Bool.and_eq_true, Bool.or_eq_true, Bool.not_eq_true', decide_eq_true_eq, decide_eq_false_iff_not, bne_iff_ne, beq_iff_eq] at hp); exact (OpS.call (op_call rfl (argsC ((show _ = vif _ (.int .i64 m) from d18_2).trans (vif_t hg).symm) (argsC ((show _ = vif _ (Enc.val (parent : Nm)) from d18_3).trans (vif_t hg).symm) (argsC ((show _ = vif _ (.slice A2 (l.take 250).length c2) from d18_4).trans (vif_t hg).symm) (argsC ((show _ = vif _ (.int .i64 ((ids_f m)[i]!)) from d18_8).trans (vif_t hg).symm) argsN)))) Try.func26 rfl rfl) (Outcomes_ok hR2 (by first | omega | (simp only [List.length_drop, List.length_take, List.length_append, List.length_cons, List.length_nil] at *; omega)))))
    · intro f19 w19 hx19 ho19 hd19 hl19
      have d19_1 : f19 34 = (.bool u) := hd19 1 rfl
      have hR_l := hR_l.ext hx19
      have hB1 := hB1.ext hx19
      have hR2 := hR2.ext hx19
      have hR3 := hR3.ext hx19
      have hR4 := hR4.ext hx19
      exact D.guardv (wanted_yes rfl rfl d19_1) (fun hg => by have hp := hg; (try simp only [Bool.and_eq_true, Bool.or_eq_true, Bool.not_eq_true', decide_eq_true_eq, decide_eq_false_iff_not, bne_iff_ne, beq_iff_eq] at hp); obtain ⟨A19_9, c19_9, lo19_9, hi19_9, e19_9, hcap19_9, hR19_9⟩ := (hd19 9 rfl).1 hg; have hlen19_9 := hR19_9.len; exact (op_len rfl e19_9 ln37))
    · intro f20 w20 hx20 ho20 hd20 hl20
      have d20_1 : f20 34 = (.bool u) := hd20 1 rfl
      have d20_10 : f20 43 = (vif u (.int .i64 ((outcomes_f m parent (l.take 250) ((ids_f m)[i]!)).length : Int))) := hd20 10 rfl
      exact D.guardv (wanted_yes rfl rfl d20_1) (fun hg => (op_gtr rfl ((show _ = vif _ (.int .i64 ((outcomes_f m parent (l.take 250) ((ids_f m)[i]!)).length : Int)) from d20_10).trans (vif_t hg).symm) rfl))
    · intro f21 w21 hx21 ho21 hd21 hl21
      have d21_1 : f21 34 = (.bool u) := hd21 1 rfl
      have d21_11 : f21 44 = (vif u (.bool (decide (0 < ((outcomes_f m parent (l.take 250) ((ids_f m)[i]!)).length : Int))))) := hd21 11 rfl
      exact D.val rfl (op_and rfl d21_1 d21_11 rfl)
    · intro f22 w22 hx22 ho22 hd22 hl22
      have d22_12 : f22 45 = (.bool (u && (decide (0 < ((outcomes_f m parent (l.take 250) ((ids_f m)[i]!)).length : Int))))) := hd22 12 rfl
      exact D.val rfl (op_assign rfl d22_12)
    intro f23 w23 hx23 ho23 hr23
    have s0 : f23 0 = (.int .i64 m) := (ho23 0 rfl).trans s6_0
    have s2 : f23 2 = (.slice A2 (l.take 250).length c2) := (ho23 2 rfl).trans s6_2
    have s4 : f23 4 = (.pointer (some ⟨b1, 0, none⟩)) := (ho23 4 rfl).trans s6_4
    have s6 : f23 6 = (.bool false) := (ho23 6 rfl).trans s6_6
    have s7 : f23 7 = (.slice A3 ((decide17_f m parent (l.take 250)).1).length c3) := (ho23 7 rfl).trans s6_7
    have s8 : f23 8 = (.bool ((decide17_f m parent (l.take 250)).2)) := (ho23 8 rfl).trans s6_8
    have s9 : f23 9 = (.slice A4 (ids_f m).length c4) := (ho23 9 rfl).trans s6_9
    have s11 : f23 11 = (.int .i64 ((i : Nat) : Int)) := (ho23 11 rfl).trans s6_11
    have s30 : f23 30 = (.bool (decide (((i : Nat) : Int) < ((ids_f m).length : Int)))) := ho23 30 rfl
    have s10 : f23 10 = (.bool (u && (decide (0 < ((outcomes_f m parent (l.take 250) ((ids_f m)[i]!)).length : Int))))) := hr23 13 (by decide)
    have hE := hE.trans hx23
    have hS5 := hS5.trans hx23
    have hR_l := hR_l.ext hx23
    have hB1 := hB1.ext hx23
    have hR2 := hR2.ext hx23
    have hR3 := hR3.ext hx23
    have hR4 := hR4.ext hx23
    refine blockF_nor ?_
    refine thenF_nor ?_
    refine W.region (by rfl) ?_
    refine L.val rfl (op_move rfl s11) ?_
    refine L.val rfl (op_add (c := ((i + 1 : Nat) : Int)) rfl rfl rfl (by omega) (by omega)) ?_
    refine L.val rfl (op_assign rfl rfl) ?_
    refine L.nil ?_
    refine thenF_nor ?_
    exact ⟨(i + 1, u && (decide (0 < ((outcomes_f m parent (l.take 250) ((ids_f m)[i]!)).length : Int)))), ⟨(by (try dsimp only); omega), (by dsimp only; rw [all_take_go (by omega), ← Bool.and_assoc, hu]; rfl), s0, s2, s4, s6, s7, s8, s9, rfl, s10, hS5⟩, (by (try dsimp only); omega)⟩
  · have hp7 := hc7
    simp only [Bool.and_eq_true, Bool.or_eq_true, Bool.and_eq_false_iff, Bool.or_eq_false_iff, Bool.not_eq_true', Bool.not_eq_false', decide_eq_true_eq, decide_eq_false_iff_not] at hp7
    have hil2 : i = (ids_f m).length := by omega
    rw [hil2, List.take_length] at hu
    have hwh := hu.symm.trans dec17_whole
    refine W.exit ?_
    refine thenF_exit ?_
    refine thenF_exit ?_
    refine blockF_hit ?_
    refine thenF_nor ?_
    refine W.seq ?_
    refine W.seq ?_
    refine W.region (by rfl) ?_
    refine L.val rfl (op_move rfl s6_8) ?_
    refine L.val rfl (op_move rfl s6_10) ?_
    refine L.val rfl (op_neqb rfl rfl rfl Try.underlying4) ?_
    refine L.val rfl (op_move rfl rfl) ?_
    refine L.guardv (v := (.bool ((decide17_f m parent (l.take 250)).2))) (wanted_no rfl rfl rfl) (fun hg => (op_move rfl s6_8)) ?_
    refine L.guardv (v := (.bool (!((decide17_f m parent (l.take 250)).2)))) (wanted_no rfl rfl rfl) (fun hg => (op_not rfl ((show _ = vif _ (.bool ((decide17_f m parent (l.take 250)).2)) from rfl).trans (vif_t hg).symm))) ?_
    refine L.guardv (v := (.bool (!((decide17_f m parent (l.take 250)).2)))) (wanted_no rfl rfl rfl) (fun hg => (op_move rfl ((show _ = vif _ (.bool (!((decide17_f m parent (l.take 250)).2))) from rfl).trans (vif_t hg).symm))) ?_
    refine L.guardv (v := (.slice A3 ((decide17_f m parent (l.take 250)).1).length c3)) (wanted_vif rfl rfl rfl) (fun hg => (op_move rfl s6_7)) ?_
    refine L.guardv (v := (.int .i64 (((decide17_f m parent (l.take 250)).1).length : Int))) (wanted_vif rfl rfl rfl) (fun hg => (op_len rfl ((show _ = vif _ (.slice A3 ((decide17_f m parent (l.take 250)).1).length c3) from rfl).trans (vif_t hg).symm) ln37)) ?_
    refine L.guardv (v := (.bool (!decide ((((decide17_f m parent (l.take 250)).1).length : Int) = 0)))) (wanted_vif rfl rfl rfl) (fun hg => (op_neq rfl ((show _ = vif _ (.int .i64 (((decide17_f m parent (l.take 250)).1).length : Int)) from rfl).trans (vif_t hg).symm) rfl)) ?_
    refine L.guardv (v := (.bool ((!((decide17_f m parent (l.take 250)).2)) && (!decide ((((decide17_f m parent (l.take 250)).1).length : Int) = 0))))) (wanted_no rfl rfl rfl) (fun hg => (op_and rfl ((show _ = vif _ (.bool (!((decide17_f m parent (l.take 250)).2))) from rfl).trans (vif_t hg).symm) ((show _ = vif _ _ from rfl).trans (vif_and hg)) rfl)) ?_
    refine L.val rfl (op_or rfl rfl rfl rfl) ?_
    refine L.nil ?_
    refine thenF_nor ?_
    refine W.cond (t := (!(((decide17_f m parent (l.take 250)).2) == u)) || ((!((decide17_f m parent (l.take 250)).2)) && (!decide ((((decide17_f m parent (l.take 250)).1).length : Int) = 0)))) rfl (fun hc24 => ?_) (fun hc24 => ?_)
    · have hp24 := hc24
      simp only [Bool.and_eq_true, Bool.or_eq_true, Bool.and_eq_false_iff, Bool.or_eq_false_iff, Bool.not_eq_true', Bool.not_eq_false', decide_eq_true_eq, decide_eq_false_iff_not] at hp24
      exact absurd hc24 (by rw [decides17a hwh]; simp)
    · have hp24 := hc24
      simp only [Bool.and_eq_true, Bool.or_eq_true, Bool.and_eq_false_iff, Bool.or_eq_false_iff, Bool.not_eq_true', Bool.not_eq_false', decide_eq_true_eq, decide_eq_false_iff_not] at hp24
      refine W.skip ?_
      refine thenF_nor ?_
      refine W.seq ?_
      refine W.seq ?_
      refine W.region (by rfl) ?_
      refine L.val rfl (op_move rfl s6_8) ?_
      refine L.val rfl (op_not rfl rfl) ?_
      refine L.nil ?_
      refine thenF_nor ?_
      refine W.cond (t := !((decide17_f m parent (l.take 250)).2)) rfl (fun hc25 => ?_) (fun hc25 => ?_)
      · have hp25 := hc25
        simp only [Bool.and_eq_true, Bool.or_eq_true, Bool.and_eq_false_iff, Bool.or_eq_false_iff, Bool.not_eq_true', Bool.not_eq_false', decide_eq_true_eq, decide_eq_false_iff_not] at hp25
        refine W.seq ?_
        refine W.region (by rfl) ?_
        refine L.call (v := (.bool true)) rfl (OpS.call (op_call rfl argsN Try.func43 rfl rfl) awake17_ok) ?_
        intro w26 hx26
        have hE := hE.trans hx26
        have hS5 := hS5.trans hx26
        have hR_l := hR_l.ext hx26
        have hB1 := hB1.ext hx26
        have hR2 := hR2.ext hx26
        have hR3 := hR3.ext hx26
        have hR4 := hR4.ext hx26
        refine L.val (v := (.bool true)) rfl (op_assign rfl rfl) ?_
        refine L.nil ?_
        refine thenF_nor ?_
        refine W.ret ?_
        refine thenF_ret ?_
        exact end_ret1 (v := (.bool true)) rfl rfl ⟨rfl, hE⟩
      · have hp25 := hc25
        simp only [Bool.and_eq_true, Bool.or_eq_true, Bool.and_eq_false_iff, Bool.or_eq_false_iff, Bool.not_eq_true', Bool.not_eq_false', decide_eq_true_eq, decide_eq_false_iff_not] at hp25
        have hd := hc25
        simp only [Bool.not_eq_false'] at hd
        have hdln := dec17_len hd
        refine W.skip ?_
        refine thenF_nor ?_
        refine W.seq ?_
        refine W.seq ?_
        refine W.region (by rfl) ?_
        refine L.val rfl (op_move rfl s6_7) ?_
        refine L.val rfl (op_len rfl rfl ln37) ?_
        refine L.val rfl (op_move rfl s6_9) ?_
        refine L.val rfl (op_len rfl rfl ln57) ?_
        refine L.val rfl (op_neq rfl rfl rfl) ?_
        refine L.nil ?_
        refine thenF_nor ?_
        refine W.cond (t := !decide ((((decide17_f m parent (l.take 250)).1).length : Int) = ((ids_f m).length : Int))) rfl (fun hc27 => ?_) (fun hc27 => ?_)
        · have hp27 := hc27
          simp only [Bool.and_eq_true, Bool.or_eq_true, Bool.and_eq_false_iff, Bool.or_eq_false_iff, Bool.not_eq_true', Bool.not_eq_false', decide_eq_true_eq, decide_eq_false_iff_not] at hp27
          exact absurd hc27 (by rw [hdln]; simp)
        · have hp27 := hc27
          simp only [Bool.and_eq_true, Bool.or_eq_true, Bool.and_eq_false_iff, Bool.or_eq_false_iff, Bool.not_eq_true', Bool.not_eq_false', decide_eq_true_eq, decide_eq_false_iff_not] at hp27
          refine W.skip ?_
          refine thenF_nor ?_
          refine W.seq ?_
          refine W.seq ?_
          refine W.region (by rfl) ?_
          refine L.val rfl (op_assign rfl rfl) ?_
          refine L.nil ?_
          refine thenF_nor ?_
          refine W.block ?_
          have S28_hR_l := hR_l
          have S28_hB1 := hB1
          have S28_hR2 := hR2
          have S28_hR3 := hR3
          have S28_hR4 := hR4
          have S28_hE := hE
          have S28_hS5 := hS5
          have hS28 : Ext w6 w6 := Ext.refl _
          refine W.loopg (γ := Nat) (fun (k : Nat) (f : Fr) (ww : World) => k ≤ (decide17_f m parent (l.take 250)).1.length ∧ f 0 = (.int .i64 m) ∧ f 2 = (.slice A2 (l.take 250).length c2) ∧ f 4 = (.pointer (some ⟨b1, 0, none⟩)) ∧ f 7 = (.slice A3 ((decide17_f m parent (l.take 250)).1).length c3) ∧ f 9 = (.slice A4 (ids_f m).length c4) ∧ f 12 = (.int .i64 ((k : Nat) : Int)) ∧ Ext w6 ww) (fun (k : Nat) => (decide17_f m parent (l.take 250)).1.length - k) 0 ⟨(by (try dsimp only); omega), s6_0, s6_2, s6_4, s6_7, s6_9, rfl, hS28⟩ ?_
          rintro k f29 w29 ⟨hk, s29_0, s29_2, s29_4, s29_7, s29_9, s29_12, hS28⟩
          have hR_l := S28_hR_l.ext hS28
          have hB1 := S28_hB1.ext hS28
          have hR2 := S28_hR2.ext hS28
          have hR3 := S28_hR3.ext hS28
          have hR4 := S28_hR4.ext hS28
          have hE := S28_hE.trans hS28
          have hS5 := S28_hS5.trans hS28
          refine W.seq ?_
          refine W.seq ?_
          refine W.region (by rfl) ?_
          refine L.val rfl (op_move rfl s29_12) ?_
          refine L.val rfl (op_move rfl s29_7) ?_
          refine L.val rfl (op_len rfl rfl ln37) ?_
          refine L.val rfl (op_lss rfl rfl rfl) ?_
          refine L.nil ?_
          refine thenF_nor ?_
          refine W.cond (t := decide (((k : Nat) : Int) < (((decide17_f m parent (l.take 250)).1).length : Int))) rfl (fun hc30 => ?_) (fun hc30 => ?_)
          · have hp30 := hc30
            simp only [Bool.and_eq_true, Bool.or_eq_true, Bool.and_eq_false_iff, Bool.or_eq_false_iff, Bool.not_eq_true', Bool.not_eq_false', decide_eq_true_eq, decide_eq_false_iff_not] at hp30
            refine W.skip ?_
            refine thenF_nor ?_
            refine W.seq ?_
            refine W.block ?_
            refine W.seq ?_
            refine W.drawS [Sp.eq (.slice A3 ((decide17_f m parent (l.take 250)).1).length c3), Sp.eq (.int .i64 ((k : Nat) : Int)), Sp.eq (.pointer (some ((adr A3).add (k * 11)))), Sp.eq (.pointer (some ((adr A3).add (k * 11)))), Sp.eq (.int .i64 ((((decide17_f m parent (l.take 250)).1)[k]!).slot)), Sp.eq (.slice A4 (ids_f m).length c4), Sp.eq (.int .i64 ((k : Nat) : Int)), Sp.eq (.pointer (some ((adr A4).add (k * 1)))), Sp.eq (.int .i64 ((ids_f m)[k]!)), Sp.eq (.bool (!decide (((((decide17_f m parent (l.take 250)).1)[k]!).slot) = ((ids_f m)[k]!)))), Sp.eq (.bool (!decide (((((decide17_f m parent (l.take 250)).1)[k]!).slot) = ((ids_f m)[k]!)))), Sp.eq (vif (!(!decide (((((decide17_f m parent (l.take 250)).1)[k]!).slot) = ((ids_f m)[k]!)))) (.int .i64 m)), Sp.eq (vif (!(!decide (((((decide17_f m parent (l.take 250)).1)[k]!).slot) = ((ids_f m)[k]!)))) (Enc.val (parent : Nm))), Sp.eq (vif (!(!decide (((((decide17_f m parent (l.take 250)).1)[k]!).slot) = ((ids_f m)[k]!)))) (.slice A2 (l.take 250).length c2)), Sp.eq (vif (!(!decide (((((decide17_f m parent (l.take 250)).1)[k]!).slot) = ((ids_f m)[k]!)))) (.slice A3 ((decide17_f m parent (l.take 250)).1).length c3)), Sp.eq (vif (!(!decide (((((decide17_f m parent (l.take 250)).1)[k]!).slot) = ((ids_f m)[k]!)))) (.int .i64 ((k : Nat) : Int))), Sp.eq (vif (!(!decide (((((decide17_f m parent (l.take 250)).1)[k]!).slot) = ((ids_f m)[k]!)))) (.pointer (some ((adr A3).add (k * 11))))), Sp.eq (vif (!(!decide (((((decide17_f m parent (l.take 250)).1)[k]!).slot) = ((ids_f m)[k]!)))) (Enc.val (((decide17_f m parent (l.take 250)).1)[k]!))), Sp.eq (vif (!(!decide (((((decide17_f m parent (l.take 250)).1)[k]!).slot) = ((ids_f m)[k]!)))) (.bool (decided_f m parent (l.take 250) (((decide17_f m parent (l.take 250)).1)[k]!)))), Sp.eq (vif (!(!decide (((((decide17_f m parent (l.take 250)).1)[k]!).slot) = ((ids_f m)[k]!)))) (.bool (!(decided_f m parent (l.take 250) (((decide17_f m parent (l.take 250)).1)[k]!))))), Sp.eq (.bool ((!decide (((((decide17_f m parent (l.take 250)).1)[k]!).slot) = ((ids_f m)[k]!))) || (!(decided_f m parent (l.take 250) (((decide17_f m parent (l.take 250)).1)[k]!)))))] mixed (by rfl) (Obls.cons ?_ (Obls.cons ?_ (Obls.cons ?_ (Obls.cons ?_ (Obls.cons ?_ (Obls.cons ?_ (Obls.cons ?_ (Obls.cons ?_ (Obls.cons ?_ (Obls.cons ?_ (Obls.cons ?_ (Obls.cons ?_ (Obls.cons ?_ (Obls.cons ?_ (Obls.cons ?_ (Obls.cons ?_ (Obls.cons ?_ (Obls.cons ?_ (Obls.cons ?_ (Obls.cons ?_ (Obls.cons ?_ Obls.nil))))))))))))))))))))) ?_
            · intro f32 w32 hx32 ho32 hd32
              have d32_s7 : f32 7 = (.slice A3 ((decide17_f m parent (l.take 250)).1).length c3) := (ho32 7 rfl).trans s29_7
              exact D.val rfl (op_move rfl d32_s7)
            · intro f33 w33 hx33 ho33 hd33
              have d33_s12 : f33 12 = (.int .i64 ((k : Nat) : Int)) := (ho33 12 rfl).trans s29_12
              exact D.val rfl (op_move rfl d33_s12)
            · intro f34 w34 hx34 ho34 hd34
              have d34_0 : f34 72 = (.slice A3 ((decide17_f m parent (l.take 250)).1).length c3) := hd34 0 rfl
              have d34_1 : f34 73 = (.int .i64 ((k : Nat) : Int)) := hd34 1 rfl
              have hR_l := hR_l.ext hx34
              have hB1 := hB1.ext hx34
              have hR2 := hR2.ext hx34
              have hR3 := hR3.ext hx34
              have hR4 := hR4.ext hx34
              skip
              exact D.val rfl (op_index (k := k) rfl d34_0 d34_1 sl37 (hR3.getA (get_bang (l := (decide17_f m parent (l.take 250)).1) (k := k) (by omega))).1 rfl (by omega) rfl)
            · intro f35 w35 hx35 ho35 hd35
              have d35_2 : f35 74 = (.pointer (some ((adr A3).add (k * 11)))) := hd35 2 rfl
              exact D.val rfl (op_field rfl d35_2 fo49_0 rfl)
            · intro f36 w36 hx36 ho36 hd36
              have d36_3 : f36 75 = (.pointer (some ((adr A3).add (k * 11)))) := hd36 3 rfl
              have hR_l := hR_l.ext hx36
              have hB1 := hB1.ext hx36
              have hR2 := hR2.ext hx36
              have hR3 := hR3.ext hx36
              have hR4 := hR4.ext hx36
              skip
              exact D.val rfl (op_load1 rfl d36_3 one3 ((hR3.getA (get_bang (l := (decide17_f m parent (l.take 250)).1) (k := k) (by omega))).2.one (n := 0) rfl))
            · intro f37 w37 hx37 ho37 hd37
              have d37_s9 : f37 9 = (.slice A4 (ids_f m).length c4) := (ho37 9 rfl).trans s29_9
              exact D.val rfl (op_move rfl d37_s9)
            · intro f38 w38 hx38 ho38 hd38
              have d38_s12 : f38 12 = (.int .i64 ((k : Nat) : Int)) := (ho38 12 rfl).trans s29_12
              exact D.val rfl (op_move rfl d38_s12)
            · intro f39 w39 hx39 ho39 hd39
              have d39_5 : f39 77 = (.slice A4 (ids_f m).length c4) := hd39 5 rfl
              have d39_6 : f39 78 = (.int .i64 ((k : Nat) : Int)) := hd39 6 rfl
              have hR_l := hR_l.ext hx39
              have hB1 := hB1.ext hx39
              have hR2 := hR2.ext hx39
              have hR3 := hR3.ext hx39
              have hR4 := hR4.ext hx39
              skip
              exact D.val rfl (op_index (k := k) rfl d39_5 d39_6 sl57 (hR4.getA (get_bang (l := ids_f m) (k := k) (by omega))).1 rfl (by omega) rfl)
            · intro f40 w40 hx40 ho40 hd40
              have d40_7 : f40 79 = (.pointer (some ((adr A4).add (k * 1)))) := hd40 7 rfl
              have hR_l := hR_l.ext hx40
              have hB1 := hB1.ext hx40
              have hR2 := hR2.ext hx40
              have hR3 := hR3.ext hx40
              have hR4 := hR4.ext hx40
              skip
              exact D.val rfl (op_load1 rfl d40_7 one3 ((hR4.getA (get_bang (l := ids_f m) (k := k) (by omega))).2.one (n := 0) rfl))
            · intro f41 w41 hx41 ho41 hd41
              have d41_4 : f41 76 = (.int .i64 ((((decide17_f m parent (l.take 250)).1)[k]!).slot)) := hd41 4 rfl
              have d41_8 : f41 80 = (.int .i64 ((ids_f m)[k]!)) := hd41 8 rfl
              exact D.val rfl (op_neq rfl d41_4 d41_8)
            · intro f42 w42 hx42 ho42 hd42
              have d42_9 : f42 81 = (.bool (!decide (((((decide17_f m parent (l.take 250)).1)[k]!).slot) = ((ids_f m)[k]!)))) := hd42 9 rfl
              exact D.val rfl (op_move rfl d42_9)
            · intro f43 w43 hx43 ho43 hd43
              have d43_s0 : f43 0 = (.int .i64 m) := (ho43 0 rfl).trans s29_0
              have d43_10 : f43 82 = (.bool (!decide (((((decide17_f m parent (l.take 250)).1)[k]!).slot) = ((ids_f m)[k]!)))) := hd43 10 rfl
              exact D.guardv (wanted_no rfl rfl d43_10) (fun hg => (op_move rfl d43_s0))
            · intro f44 w44 hx44 ho44 hd44
              have d44_s4 : f44 4 = (.pointer (some ⟨b1, 0, none⟩)) := (ho44 4 rfl).trans s29_4
              have d44_10 : f44 82 = (.bool (!decide (((((decide17_f m parent (l.take 250)).1)[k]!).slot) = ((ids_f m)[k]!)))) := hd44 10 rfl
              have hR_l := hR_l.ext hx44
              have hB1 := hB1.ext hx44
              have hR2 := hR2.ext hx44
              have hR3 := hR3.ext hx44
              have hR4 := hR4.ext hx44
              exact D.guardv (wanted_no rfl rfl d44_10) (fun hg => (op_load (v := (parent : Nm)) rfl d44_s4 ty24 hB1.cells))
            · intro f45 w45 hx45 ho45 hd45
              have d45_s2 : f45 2 = (.slice A2 (l.take 250).length c2) := (ho45 2 rfl).trans s29_2
              have d45_10 : f45 82 = (.bool (!decide (((((decide17_f m parent (l.take 250)).1)[k]!).slot) = ((ids_f m)[k]!)))) := hd45 10 rfl
              exact D.guardv (wanted_no rfl rfl d45_10) (fun hg => (op_move rfl d45_s2))
            · intro f46 w46 hx46 ho46 hd46
              have d46_s7 : f46 7 = (.slice A3 ((decide17_f m parent (l.take 250)).1).length c3) := (ho46 7 rfl).trans s29_7
              have d46_10 : f46 82 = (.bool (!decide (((((decide17_f m parent (l.take 250)).1)[k]!).slot) = ((ids_f m)[k]!)))) := hd46 10 rfl
              exact D.guardv (wanted_no rfl rfl d46_10) (fun hg => (op_move rfl d46_s7))
            · intro f47 w47 hx47 ho47 hd47
              have d47_s12 : f47 12 = (.int .i64 ((k : Nat) : Int)) := (ho47 12 rfl).trans s29_12
              have d47_10 : f47 82 = (.bool (!decide (((((decide17_f m parent (l.take 250)).1)[k]!).slot) = ((ids_f m)[k]!)))) := hd47 10 rfl
              exact D.guardv (wanted_no rfl rfl d47_10) (fun hg => (op_move rfl d47_s12))
            · intro f48 w48 hx48 ho48 hd48
              have d48_10 : f48 82 = (.bool (!decide (((((decide17_f m parent (l.take 250)).1)[k]!).slot) = ((ids_f m)[k]!)))) := hd48 10 rfl
              have d48_14 : f48 86 = (vif (!(!decide (((((decide17_f m parent (l.take 250)).1)[k]!).slot) = ((ids_f m)[k]!)))) (.slice A3 ((decide17_f m parent (l.take 250)).1).length c3)) := hd48 14 rfl
              have d48_15 : f48 87 = (vif (!(!decide (((((decide17_f m parent (l.take 250)).1)[k]!).slot) = ((ids_f m)[k]!)))) (.int .i64 ((k : Nat) : Int))) := hd48 15 rfl
              have hR_l := hR_l.ext hx48
              have hB1 := hB1.ext hx48
              have hR2 := hR2.ext hx48
              have hR3 := hR3.ext hx48
              have hR4 := hR4.ext hx48
              exact D.guardv (wanted_no rfl rfl d48_10) (fun hg => by have hp := hg; (try simp only [Bool.and_eq_true, Bool.or_eq_true, Bool.not_eq_true', decide_eq_true_eq, decide_eq_false_iff_not, bne_iff_ne, beq_iff_eq] at hp); skip; exact (op_index (k := k) rfl ((show _ = vif _ (.slice A3 ((decide17_f m parent (l.take 250)).1).length c3) from d48_14).trans (vif_t hg).symm) ((show _ = vif _ (.int .i64 ((k : Nat) : Int)) from d48_15).trans (vif_t hg).symm) sl37 (hR3.getA (get_bang (l := (decide17_f m parent (l.take 250)).1) (k := k) (by omega))).1 rfl (by omega) rfl))
            · intro f49 w49 hx49 ho49 hd49
              have d49_10 : f49 82 = (.bool (!decide (((((decide17_f m parent (l.take 250)).1)[k]!).slot) = ((ids_f m)[k]!)))) := hd49 10 rfl
              have d49_16 : f49 88 = (vif (!(!decide (((((decide17_f m parent (l.take 250)).1)[k]!).slot) = ((ids_f m)[k]!)))) (.pointer (some ((adr A3).add (k * 11))))) := hd49 16 rfl
              have hR_l := hR_l.ext hx49
              have hB1 := hB1.ext hx49
              have hR2 := hR2.ext hx49
              have hR3 := hR3.ext hx49
              have hR4 := hR4.ext hx49
              exact D.guardv (wanted_no rfl rfl d49_10) (fun hg => by have hp := hg; (try simp only [Bool.and_eq_true, Bool.or_eq_true, Bool.not_eq_true', decide_eq_true_eq, decide_eq_false_iff_not, bne_iff_ne, beq_iff_eq] at hp); skip; exact (op_load (v := ((decide17_f m parent (l.take 250)).1)[k]!) rfl ((show _ = vif _ (.pointer (some ((adr A3).add (k * 11)))) from d49_16).trans (vif_t hg).symm) ty49 (hR3.getA (get_bang (l := (decide17_f m parent (l.take 250)).1) (k := k) (by omega))).2))
            · intro f50 w50 hx50 ho50 hd50
              have d50_10 : f50 82 = (.bool (!decide (((((decide17_f m parent (l.take 250)).1)[k]!).slot) = ((ids_f m)[k]!)))) := hd50 10 rfl
              have d50_11 : f50 83 = (vif (!(!decide (((((decide17_f m parent (l.take 250)).1)[k]!).slot) = ((ids_f m)[k]!)))) (.int .i64 m)) := hd50 11 rfl
              have d50_12 : f50 84 = (vif (!(!decide (((((decide17_f m parent (l.take 250)).1)[k]!).slot) = ((ids_f m)[k]!)))) (Enc.val (parent : Nm))) := hd50 12 rfl
              have d50_13 : f50 85 = (vif (!(!decide (((((decide17_f m parent (l.take 250)).1)[k]!).slot) = ((ids_f m)[k]!)))) (.slice A2 (l.take 250).length c2)) := hd50 13 rfl
              have d50_17 : f50 89 = (vif (!(!decide (((((decide17_f m parent (l.take 250)).1)[k]!).slot) = ((ids_f m)[k]!)))) (Enc.val (((decide17_f m parent (l.take 250)).1)[k]!))) := hd50 17 rfl
              have hR_l := hR_l.ext hx50
              have hB1 := hB1.ext hx50
              have hR2 := hR2.ext hx50
              have hR3 := hR3.ext hx50
              have hR4 := hR4.ext hx50
              exact D.guardc (wanted_no rfl rfl d50_10) (fun hg => by have hp := hg; (try simp only [Bool.and_eq_true, Bool.or_eq_true, Bool.not_eq_true', decide_eq_true_eq, decide_eq_false_iff_not, bne_iff_ne, beq_iff_eq] at hp); exact (OpS.call (op_call rfl (argsC ((show _ = vif _ (.int .i64 m) from d50_11).trans (vif_t hg).symm) (argsC ((show _ = vif _ (Enc.val (parent : Nm)) from d50_12).trans (vif_t hg).symm) (argsC ((show _ = vif _ (.slice A2 (l.take 250).length c2) from d50_13).trans (vif_t hg).symm) (argsC ((show _ = vif _ (Enc.val (((decide17_f m parent (l.take 250)).1)[k]!)) from d50_17).trans (vif_t hg).symm) argsN)))) Try.func35 rfl rfl) (Decided_ok hR2 (by first | omega | (simp only [List.length_drop, List.length_take, List.length_append, List.length_cons, List.length_nil] at *; omega)))))
            · intro f51 w51 hx51 ho51 hd51
              have d51_10 : f51 82 = (.bool (!decide (((((decide17_f m parent (l.take 250)).1)[k]!).slot) = ((ids_f m)[k]!)))) := hd51 10 rfl
              have d51_18 : f51 90 = (vif (!(!decide (((((decide17_f m parent (l.take 250)).1)[k]!).slot) = ((ids_f m)[k]!)))) (.bool (decided_f m parent (l.take 250) (((decide17_f m parent (l.take 250)).1)[k]!)))) := hd51 18 rfl
              exact D.guardv (wanted_no rfl rfl d51_10) (fun hg => (op_not rfl ((show _ = vif _ (.bool (decided_f m parent (l.take 250) (((decide17_f m parent (l.take 250)).1)[k]!))) from d51_18).trans (vif_t hg).symm)))
            · intro f52 w52 hx52 ho52 hd52
              have d52_10 : f52 82 = (.bool (!decide (((((decide17_f m parent (l.take 250)).1)[k]!).slot) = ((ids_f m)[k]!)))) := hd52 10 rfl
              have d52_19 : f52 91 = (vif (!(!decide (((((decide17_f m parent (l.take 250)).1)[k]!).slot) = ((ids_f m)[k]!)))) (.bool (!(decided_f m parent (l.take 250) (((decide17_f m parent (l.take 250)).1)[k]!))))) := hd52 19 rfl
              exact D.val rfl (op_or rfl d52_10 rfl d52_19)
            intro f53 w53 hx53 ho53 hr53
            have s0 : f53 0 = (.int .i64 m) := (ho53 0 rfl).trans s29_0
            have s2 : f53 2 = (.slice A2 (l.take 250).length c2) := (ho53 2 rfl).trans s29_2
            have s4 : f53 4 = (.pointer (some ⟨b1, 0, none⟩)) := (ho53 4 rfl).trans s29_4
            have s7 : f53 7 = (.slice A3 ((decide17_f m parent (l.take 250)).1).length c3) := (ho53 7 rfl).trans s29_7
            have s9 : f53 9 = (.slice A4 (ids_f m).length c4) := (ho53 9 rfl).trans s29_9
            have s12 : f53 12 = (.int .i64 ((k : Nat) : Int)) := (ho53 12 rfl).trans s29_12
            have s69 : f53 69 = (.bool (decide (((k : Nat) : Int) < (((decide17_f m parent (l.take 250)).1).length : Int)))) := ho53 69 rfl
            have s92 : f53 92 = (.bool ((!decide (((((decide17_f m parent (l.take 250)).1)[k]!).slot) = ((ids_f m)[k]!))) || (!(decided_f m parent (l.take 250) (((decide17_f m parent (l.take 250)).1)[k]!))))) := hr53 20 (by decide)
            have hE := hE.trans hx53
            have hS5 := hS5.trans hx53
            have hS28 := hS28.trans hx53
            have hR_l := hR_l.ext hx53
            have hB1 := hB1.ext hx53
            have hR2 := hR2.ext hx53
            have hR3 := hR3.ext hx53
            have hR4 := hR4.ext hx53
            refine thenF_nor ?_
            refine W.cond (t := (!decide (((((decide17_f m parent (l.take 250)).1)[k]!).slot) = ((ids_f m)[k]!))) || (!(decided_f m parent (l.take 250) (((decide17_f m parent (l.take 250)).1)[k]!)))) s92 (fun hc54 => ?_) (fun hc54 => ?_)
            · have hp54 := hc54
              simp only [Bool.and_eq_true, Bool.or_eq_true, Bool.and_eq_false_iff, Bool.or_eq_false_iff, Bool.not_eq_true', Bool.not_eq_false', decide_eq_true_eq, decide_eq_false_iff_not] at hp54
              exact absurd hc54 (by rw [decides17b hd (by omega)]; simp)
            · have hp54 := hc54
              simp only [Bool.and_eq_true, Bool.or_eq_true, Bool.and_eq_false_iff, Bool.or_eq_false_iff, Bool.not_eq_true', Bool.not_eq_false', decide_eq_true_eq, decide_eq_false_iff_not] at hp54
              refine W.skip ?_
              refine blockF_nor ?_
              refine thenF_nor ?_
              refine W.region (by rfl) ?_
              refine L.val rfl (op_move rfl s12) ?_
              refine L.val rfl (op_add (c := ((k + 1 : Nat) : Int)) rfl rfl rfl (by omega) (by omega)) ?_
              refine L.val rfl (op_assign rfl rfl) ?_
              refine L.nil ?_
              refine thenF_nor ?_
              exact ⟨k + 1, ⟨(by (try dsimp only); omega), s0, s2, s4, s7, s9, rfl, hS28⟩, (by (try dsimp only); omega)⟩
          · have hp30 := hc30
            simp only [Bool.and_eq_true, Bool.or_eq_true, Bool.and_eq_false_iff, Bool.or_eq_false_iff, Bool.not_eq_true', Bool.not_eq_false', decide_eq_true_eq, decide_eq_false_iff_not] at hp30
            refine W.exit ?_
            refine thenF_exit ?_
            refine thenF_exit ?_
            refine blockF_hit ?_
            refine thenF_nor ?_
            refine W.seq ?_
            refine W.drawS [Sp.eq (.int .i64 m), Sp.eq (Enc.val (parent : Nm)), Sp.eq (.slice A2 (l.take 250).length c2), Sp.eq (.slice A3 ((decide17_f m parent (l.take 250)).1).length c3), Sp.slr (choices_f ((decide17_f m parent (l.take 250)).1) : List Ch), Sp.eq (.bool (certified17_f m parent (l.take 250) (choices_f ((decide17_f m parent (l.take 250)).1)))), Sp.eq (.bool (certified17_f m parent (l.take 250) (choices_f ((decide17_f m parent (l.take 250)).1)))), Sp.eq (vif (certified17_f m parent (l.take 250) (choices_f ((decide17_f m parent (l.take 250)).1))) (.bool true)), Sp.eq (.bool ((certified17_f m parent (l.take 250) (choices_f ((decide17_f m parent (l.take 250)).1))) && true)), Sp.eq (.bool ((certified17_f m parent (l.take 250) (choices_f ((decide17_f m parent (l.take 250)).1))) && true))] mixed (by rfl) (Obls.cons ?_ (Obls.cons ?_ (Obls.cons ?_ (Obls.cons ?_ (Obls.cons ?_ (Obls.cons ?_ (Obls.cons ?_ (Obls.cons ?_ (Obls.cons ?_ (Obls.cons ?_ Obls.nil)))))))))) ?_
            · intro f56 w56 hx56 ho56 hd56
              have d56_s0 : f56 0 = (.int .i64 m) := (ho56 0 rfl).trans s29_0
              exact D.val rfl (op_move rfl d56_s0)
            · intro f57 w57 hx57 ho57 hd57
              have d57_s4 : f57 4 = (.pointer (some ⟨b1, 0, none⟩)) := (ho57 4 rfl).trans s29_4
              have hR_l := hR_l.ext hx57
              have hB1 := hB1.ext hx57
              have hR2 := hR2.ext hx57
              have hR3 := hR3.ext hx57
              have hR4 := hR4.ext hx57
              exact D.val rfl (op_load (v := (parent : Nm)) rfl d57_s4 ty24 hB1.cells)
            · intro f58 w58 hx58 ho58 hd58
              have d58_s2 : f58 2 = (.slice A2 (l.take 250).length c2) := (ho58 2 rfl).trans s29_2
              exact D.val rfl (op_move rfl d58_s2)
            · intro f59 w59 hx59 ho59 hd59
              have d59_s7 : f59 7 = (.slice A3 ((decide17_f m parent (l.take 250)).1).length c3) := (ho59 7 rfl).trans s29_7
              exact D.val rfl (op_move rfl d59_s7)
            · intro f60 w60 hx60 ho60 hd60
              have d60_3 : f60 96 = (.slice A3 ((decide17_f m parent (l.take 250)).1).length c3) := hd60 3 rfl
              have hR_l := hR_l.ext hx60
              have hB1 := hB1.ext hx60
              have hR2 := hR2.ext hx60
              have hR3 := hR3.ext hx60
              have hR4 := hR4.ext hx60
              exact D.call (R := (Sp.slr (choices_f ((decide17_f m parent (l.take 250)).1) : List Ch)).p) rfl (OpS.call (op_call rfl (argsC d60_3 argsN) Try.func42 rfl rfl) (Choices_ok hR3 (by first | omega | (simp only [List.length_drop, List.length_take, List.length_append, List.length_cons, List.length_nil] at *; omega))))
            · intro f61 w61 hx61 ho61 hd61
              have d61_0 : f61 93 = (.int .i64 m) := hd61 0 rfl
              have d61_1 : f61 94 = (Enc.val (parent : Nm)) := hd61 1 rfl
              have d61_2 : f61 95 = (.slice A2 (l.take 250).length c2) := hd61 2 rfl
              obtain ⟨A61_4, c61_4, lo61_4, hi61_4, e61_4, hcap61_4, hR61_4⟩ := hd61 4 rfl
              have hlen61_4 := hR61_4.len
              have hR_l := hR_l.ext hx61
              have hB1 := hB1.ext hx61
              have hR2 := hR2.ext hx61
              have hR3 := hR3.ext hx61
              have hR4 := hR4.ext hx61
              exact D.call (R := (Sp.eq (.bool (certified17_f m parent (l.take 250) (choices_f ((decide17_f m parent (l.take 250)).1))))).p) rfl (OpS.call (op_call rfl (argsC d61_0 (argsC d61_1 (argsC d61_2 (argsC e61_4 argsN)))) Try.func41 rfl rfl) (Certified17_ok hR2 hR61_4 (by first | omega | (simp only [List.length_drop, List.length_take, List.length_append, List.length_cons, List.length_nil] at *; omega))))
            · intro f62 w62 hx62 ho62 hd62
              have d62_5 : f62 98 = (.bool (certified17_f m parent (l.take 250) (choices_f ((decide17_f m parent (l.take 250)).1)))) := hd62 5 rfl
              exact D.val rfl (op_move rfl d62_5)
            · intro f63 w63 hx63 ho63 hd63
              have d63_6 : f63 99 = (.bool (certified17_f m parent (l.take 250) (choices_f ((decide17_f m parent (l.take 250)).1)))) := hd63 6 rfl
              have hR_l := hR_l.ext hx63
              have hB1 := hB1.ext hx63
              have hR2 := hR2.ext hx63
              have hR3 := hR3.ext hx63
              have hR4 := hR4.ext hx63
              exact D.guardc (wanted_yes rfl rfl d63_6) (fun hg => (OpS.call (op_call rfl argsN Try.func43 rfl rfl) awake17_ok))
            · intro f64 w64 hx64 ho64 hd64
              have d64_6 : f64 99 = (.bool (certified17_f m parent (l.take 250) (choices_f ((decide17_f m parent (l.take 250)).1)))) := hd64 6 rfl
              have d64_7 : f64 100 = (vif (certified17_f m parent (l.take 250) (choices_f ((decide17_f m parent (l.take 250)).1))) (.bool true)) := hd64 7 rfl
              exact D.val rfl (op_and rfl d64_6 d64_7 rfl)
            · intro f65 w65 hx65 ho65 hd65
              have d65_8 : f65 101 = (.bool ((certified17_f m parent (l.take 250) (choices_f ((decide17_f m parent (l.take 250)).1))) && true)) := hd65 8 rfl
              exact D.val rfl (op_assign rfl d65_8)
            intro f66 w66 hx66 ho66 hr66
            have s0 : f66 0 = (.int .i64 m) := (ho66 0 rfl).trans s29_0
            have s2 : f66 2 = (.slice A2 (l.take 250).length c2) := (ho66 2 rfl).trans s29_2
            have s4 : f66 4 = (.pointer (some ⟨b1, 0, none⟩)) := (ho66 4 rfl).trans s29_4
            have s7 : f66 7 = (.slice A3 ((decide17_f m parent (l.take 250)).1).length c3) := (ho66 7 rfl).trans s29_7
            have s9 : f66 9 = (.slice A4 (ids_f m).length c4) := (ho66 9 rfl).trans s29_9
            have s12 : f66 12 = (.int .i64 ((k : Nat) : Int)) := (ho66 12 rfl).trans s29_12
            have s69 : f66 69 = (.bool (decide (((k : Nat) : Int) < (((decide17_f m parent (l.take 250)).1).length : Int)))) := ho66 69 rfl
            have s6 : f66 6 = (.bool ((certified17_f m parent (l.take 250) (choices_f ((decide17_f m parent (l.take 250)).1))) && true)) := hr66 9 (by decide)
            have hE := hE.trans hx66
            have hS5 := hS5.trans hx66
            have hS28 := hS28.trans hx66
            have hR_l := hR_l.ext hx66
            have hB1 := hB1.ext hx66
            have hR2 := hR2.ext hx66
            have hR3 := hR3.ext hx66
            have hR4 := hR4.ext hx66
            refine thenF_nor ?_
            refine W.ret ?_
            exact end_ret1 (v := (.bool ((certified17_f m parent (l.take 250) (choices_f ((decide17_f m parent (l.take 250)).1))) && true))) rfl s6 ⟨(by rw [cert17_of_dec hd]; rfl), hE⟩

end Go.Proofs.Ytdknjfmjddlphaa
