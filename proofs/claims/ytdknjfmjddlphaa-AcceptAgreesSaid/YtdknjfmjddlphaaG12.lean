/-
  Contracts of functions of the program, each with its walk in the logic of frames. Printed by a program of this session (wip/gen) from the translation.
-/
import Derived.Test.YtdknjfmjddlphaaG10
set_option linter.unusedSimpArgs false
set_option linter.unusedVariables false
namespace Go.Proofs.Ytdknjfmjddlphaa
open Go Go.Fk

set_option maxRecDepth 100000 in
set_option maxHeartbeats 8000000 in
theorem AcceptAgrees_ok {m : Int} {parent : Nm} {A_l : Option Addr} {c_l lo_l hi_l : Nat} {l : List Vt} {slot : Int}  {w : World} (hR_l : Rd w lo_l hi_l A_l l) (hcap_l : l.length ≤ c_l) : Gives Try.prog 10 #[(.int .i64 m), (Enc.val (parent : Nm)), (.slice A_l l.length c_l), (.int .i64 slot)] w fun u w' => u = (.bool true) ∧ Ext w w' := by
  have hE : Ext w w := Ext.refl w
  have hlen_l := hR_l.len
  refine gives_of_W Try.func10 rfl Try.ntmps10 rfl ?_
  have htl : (l.take 250).length ≤ 250 := List.length_take_le _ _
  have hsz0 := size_nn m
  have hsz1 := size_le m
  refine W.seq ?_
  refine W.region (by rfl) ?_
  refine L.step rfl (op_box (cs := (Enc.cells (parent : Nm))) rfl rfl rfl) ?_
  rintro _ w1 ⟨b1, rfl, hb1, hB1, hx1⟩
  have hE := hE.trans hx1
  have hR_l := hR_l.ext hx1
  refine L.val (v := (.bool false)) rfl (op_assign rfl rfl) ?_
  refine L.nil ?_
  refine thenF_nor ?_
  refine W.seq ?_
  refine W.region (by rfl) ?_
  refine L.val rfl (op_move rfl rfl) ?_
  refine L.step rfl (OpS.call (op_call rfl (argsC rfl argsN) Try.func24 rfl rfl) (cut12_ok hR_l hcap_l)) ?_
  rintro _ w2 ⟨⟨A2, c2, lo2, hi2, rfl, hcap2, hR2⟩, hx2⟩
  have hE := hE.trans hx2
  have hR_l := hR_l.ext hx2
  have hB1 := hB1.ext hx2
  have hlen2 := hR2.len
  refine L.val rfl (op_assign rfl rfl) ?_
  refine L.nil ?_
  refine thenF_nor ?_
  refine W.seq ?_
  refine W.seq ?_
  refine W.region (by rfl) ?_
  refine L.val rfl (op_move rfl rfl) ?_
  refine L.val rfl (op_load (v := (parent : Nm)) rfl rfl ty24 hB1.cells) ?_
  refine L.val rfl (op_move rfl rfl) ?_
  refine L.val rfl (op_move rfl rfl) ?_
  refine L.call (v := (.int .i64 (torn_f m parent (l.take 250) (l.take 250)))) rfl (OpS.call (op_call rfl (argsC rfl (argsC rfl (argsC rfl (argsC rfl argsN)))) Try.func36 rfl rfl) (torn12_ok hR2 hR2)) ?_
  intro w3 hx3
  have hE := hE.trans hx3
  have hR_l := hR_l.ext hx3
  have hB1 := hB1.ext hx3
  have hR2 := hR2.ext hx3
  refine L.call (v := (.int .i64 (size_f (torn_f m parent (l.take 250) (l.take 250))))) rfl (OpS.call (op_call rfl (argsC rfl argsN) Try.func29 rfl rfl) Size_ok) ?_
  intro w4 hx4
  have hE := hE.trans hx4
  have hR_l := hR_l.ext hx4
  have hB1 := hB1.ext hx4
  have hR2 := hR2.ext hx4
  refine L.val rfl (op_move rfl rfl) ?_
  refine L.call (v := (.int .i64 (size_f m))) rfl (OpS.call (op_call rfl (argsC rfl argsN) Try.func29 rfl rfl) Size_ok) ?_
  intro w5 hx5
  have hE := hE.trans hx5
  have hR_l := hR_l.ext hx5
  have hB1 := hB1.ext hx5
  have hR2 := hR2.ext hx5
  refine L.call (v := (.int .i64 (third_f (size_f m)))) rfl (OpS.call (op_call rfl (argsC rfl argsN) Try.func37 rfl rfl) (Third_ok (by first | omega | (simp only [List.length_drop, List.length_take, List.length_append, List.length_cons, List.length_nil] at *; omega)) (by first | omega | (simp only [List.length_drop, List.length_take, List.length_append, List.length_cons, List.length_nil] at *; omega)))) ?_
  intro w6 hx6
  have hE := hE.trans hx6
  have hR_l := hR_l.ext hx6
  have hB1 := hB1.ext hx6
  have hR2 := hR2.ext hx6
  refine L.val rfl (op_geq rfl rfl rfl) ?_
  refine L.nil ?_
  refine thenF_nor ?_
  refine W.cond (t := decide ((third_f (size_f m)) ≤ (size_f (torn_f m parent (l.take 250) (l.take 250))))) rfl (fun hc7 => ?_) (fun hc7 => ?_)
  · have hp7 := hc7
    simp only [Bool.and_eq_true, Bool.or_eq_true, Bool.and_eq_false_iff, Bool.or_eq_false_iff, Bool.not_eq_true', Bool.not_eq_false', decide_eq_true_eq, decide_eq_false_iff_not] at hp7
    refine W.seq ?_
    refine W.region (by rfl) ?_
    refine L.call (v := (.bool true)) rfl (OpS.call (op_call rfl argsN Try.func23 rfl rfl) awake12_ok) ?_
    intro w8 hx8
    have hE := hE.trans hx8
    have hR_l := hR_l.ext hx8
    have hB1 := hB1.ext hx8
    have hR2 := hR2.ext hx8
    refine L.val (v := (.bool true)) rfl (op_assign rfl rfl) ?_
    refine L.nil ?_
    refine thenF_nor ?_
    refine W.ret ?_
    refine thenF_ret ?_
    exact end_ret1 (v := (.bool true)) rfl rfl ⟨rfl, hE⟩
  · have hp7 := hc7
    simp only [Bool.and_eq_true, Bool.or_eq_true, Bool.and_eq_false_iff, Bool.or_eq_false_iff, Bool.not_eq_true', Bool.not_eq_false', decide_eq_true_eq, decide_eq_false_iff_not] at hp7
    have htn := hc7
    refine W.skip ?_
    refine thenF_nor ?_
    refine W.seq ?_
    refine W.region (by rfl) ?_
    refine L.val rfl (op_move rfl rfl) ?_
    refine L.val rfl (op_load (v := (parent : Nm)) rfl rfl ty24 hB1.cells) ?_
    refine L.val rfl (op_move rfl rfl) ?_
    refine L.val rfl (op_move rfl rfl) ?_
    refine L.step rfl (OpS.call (op_call rfl (argsC rfl (argsC rfl (argsC rfl (argsC rfl argsN)))) Try.func26 rfl rfl) (Outcomes_ok hR2 (by first | omega | (simp only [List.length_drop, List.length_take, List.length_append, List.length_cons, List.length_nil] at *; omega)))) ?_
    rintro _ w9 ⟨⟨A9, c9, lo9, hi9, rfl, hcap9, hR9⟩, hx9⟩
    have hE := hE.trans hx9
    have hR_l := hR_l.ext hx9
    have hB1 := hB1.ext hx9
    have hR2 := hR2.ext hx9
    have hlen9 := hR9.len
    refine L.val rfl (op_assign rfl rfl) ?_
    refine L.nil ?_
    refine thenF_nor ?_
    refine W.seq ?_
    refine W.seq ?_
    refine W.region (by rfl) ?_
    refine L.val rfl (op_assign rfl rfl) ?_
    refine L.nil ?_
    refine thenF_nor ?_
    refine W.block ?_
    have S10_hR_l := hR_l
    have S10_hB1 := hB1
    have S10_hR2 := hR2
    have S10_hR9 := hR9
    have S10_hE := hE
    have hS10 : Ext w9 w9 := Ext.refl _
    refine W.loopg (γ := Nat) (fun (k : Nat) (f : Fr) (ww : World) => 0 < k ∧ f 9 = (.slice A9 (outcomes_f m parent (l.take 250) slot).length c9) ∧ f 10 = (.int .i64 ((k : Nat) : Int)) ∧ Ext w9 ww) (fun (k : Nat) => (outcomes_f m parent (l.take 250) slot).length - k) 1 ⟨(by (try dsimp only); omega), rfl, rfl, hS10⟩ ?_
    rintro k f11 w11 ⟨hk, s11_9, s11_10, hS10⟩
    have hR_l := S10_hR_l.ext hS10
    have hB1 := S10_hB1.ext hS10
    have hR2 := S10_hR2.ext hS10
    have hR9 := S10_hR9.ext hS10
    have hE := S10_hE.trans hS10
    refine W.seq ?_
    refine W.seq ?_
    refine W.region (by rfl) ?_
    refine L.val rfl (op_move rfl s11_10) ?_
    refine L.val rfl (op_move rfl s11_9) ?_
    refine L.val rfl (op_len rfl rfl ln37) ?_
    refine L.val rfl (op_lss rfl rfl rfl) ?_
    refine L.nil ?_
    refine thenF_nor ?_
    refine W.cond (t := decide (((k : Nat) : Int) < ((outcomes_f m parent (l.take 250) slot).length : Int))) rfl (fun hc12 => ?_) (fun hc12 => ?_)
    · have hp12 := hc12
      simp only [Bool.and_eq_true, Bool.or_eq_true, Bool.and_eq_false_iff, Bool.or_eq_false_iff, Bool.not_eq_true', Bool.not_eq_false', decide_eq_true_eq, decide_eq_false_iff_not] at hp12
      refine W.skip ?_
      refine thenF_nor ?_
      refine W.seq ?_
      refine W.block ?_
      refine W.seq ?_
      refine W.drawS [Sp.eq (.slice A9 (outcomes_f m parent (l.take 250) slot).length c9), Sp.eq (.int .i64 ((k : Nat) : Int)), Sp.eq (.pointer (some ((adr A9).add (k * 11)))), Sp.eq (.pointer (some (((adr A9).add (k * 11)).add 2))), Sp.eq (.int .i64 (((outcomes_f m parent (l.take 250) slot)[k]!).choice)), Sp.eq (.slice A9 (outcomes_f m parent (l.take 250) slot).length c9), Sp.eq (.pointer (some ((adr A9).add (0 * 11)))), Sp.eq (.pointer (some (((adr A9).add (0 * 11)).add 2))), Sp.eq (.int .i64 (((outcomes_f m parent (l.take 250) slot)[0]!).choice)), Sp.eq (.bool (!decide ((((outcomes_f m parent (l.take 250) slot)[k]!).choice) = (((outcomes_f m parent (l.take 250) slot)[0]!).choice)))), Sp.eq (.bool (!decide ((((outcomes_f m parent (l.take 250) slot)[k]!).choice) = (((outcomes_f m parent (l.take 250) slot)[0]!).choice)))), Sp.eq (vif (!(!decide ((((outcomes_f m parent (l.take 250) slot)[k]!).choice) = (((outcomes_f m parent (l.take 250) slot)[0]!).choice)))) (.slice A9 (outcomes_f m parent (l.take 250) slot).length c9)), Sp.eq (vif (!(!decide ((((outcomes_f m parent (l.take 250) slot)[k]!).choice) = (((outcomes_f m parent (l.take 250) slot)[0]!).choice)))) (.int .i64 ((k : Nat) : Int))), Sp.eq (vif (!(!decide ((((outcomes_f m parent (l.take 250) slot)[k]!).choice) = (((outcomes_f m parent (l.take 250) slot)[0]!).choice)))) (.pointer (some ((adr A9).add (k * 11))))), Sp.eq (vif (!(!decide ((((outcomes_f m parent (l.take 250) slot)[k]!).choice) = (((outcomes_f m parent (l.take 250) slot)[0]!).choice)))) (.pointer (some (((adr A9).add (k * 11)).add 3)))), Sp.eq (vif (!(!decide ((((outcomes_f m parent (l.take 250) slot)[k]!).choice) = (((outcomes_f m parent (l.take 250) slot)[0]!).choice)))) (Enc.val (((outcomes_f m parent (l.take 250) slot)[k]!).value))), Sp.eq (vif (!(!decide ((((outcomes_f m parent (l.take 250) slot)[k]!).choice) = (((outcomes_f m parent (l.take 250) slot)[0]!).choice)))) (.slice A9 (outcomes_f m parent (l.take 250) slot).length c9)), Sp.eq (vif (!(!decide ((((outcomes_f m parent (l.take 250) slot)[k]!).choice) = (((outcomes_f m parent (l.take 250) slot)[0]!).choice)))) (.pointer (some ((adr A9).add (0 * 11))))), Sp.eq (vif (!(!decide ((((outcomes_f m parent (l.take 250) slot)[k]!).choice) = (((outcomes_f m parent (l.take 250) slot)[0]!).choice)))) (.pointer (some (((adr A9).add (0 * 11)).add 3)))), Sp.eq (vif (!(!decide ((((outcomes_f m parent (l.take 250) slot)[k]!).choice) = (((outcomes_f m parent (l.take 250) slot)[0]!).choice)))) (Enc.val (((outcomes_f m parent (l.take 250) slot)[0]!).value))), Sp.eq (vif (!(!decide ((((outcomes_f m parent (l.take 250) slot)[k]!).choice) = (((outcomes_f m parent (l.take 250) slot)[0]!).choice)))) (.bool (!decide (((outcomes_f m parent (l.take 250) slot)[k]!).value = ((outcomes_f m parent (l.take 250) slot)[0]!).value)))), Sp.eq (.bool ((!decide ((((outcomes_f m parent (l.take 250) slot)[k]!).choice) = (((outcomes_f m parent (l.take 250) slot)[0]!).choice))) || (!decide (((outcomes_f m parent (l.take 250) slot)[k]!).value = ((outcomes_f m parent (l.take 250) slot)[0]!).value))))] mixed (by rfl) (Obls.cons ?_ (Obls.cons ?_ (Obls.cons ?_ (Obls.cons ?_ (Obls.cons ?_ (Obls.cons ?_ (Obls.cons ?_ (Obls.cons ?_ (Obls.cons ?_ (Obls.cons ?_ (Obls.cons ?_ (Obls.cons ?_ (Obls.cons ?_ (Obls.cons ?_ (Obls.cons ?_ (Obls.cons ?_ (Obls.cons ?_ (Obls.cons ?_ (Obls.cons ?_ (Obls.cons ?_ (Obls.cons ?_ (Obls.cons ?_ Obls.nil)))))))))))))))))))))) ?_
      · intro f14 w14 hx14 ho14 hd14
        have d14_s9 : f14 9 = (.slice A9 (outcomes_f m parent (l.take 250) slot).length c9) := (ho14 9 rfl).trans s11_9
        exact D.val rfl (op_move rfl d14_s9)
      · intro f15 w15 hx15 ho15 hd15
        have d15_s10 : f15 10 = (.int .i64 ((k : Nat) : Int)) := (ho15 10 rfl).trans s11_10
        exact D.val rfl (op_move rfl d15_s10)
      · intro f16 w16 hx16 ho16 hd16
        have d16_0 : f16 35 = (.slice A9 (outcomes_f m parent (l.take 250) slot).length c9) := hd16 0 rfl
        have d16_1 : f16 36 = (.int .i64 ((k : Nat) : Int)) := hd16 1 rfl
        have hR_l := hR_l.ext hx16
        have hB1 := hB1.ext hx16
        have hR2 := hR2.ext hx16
        have hR9 := hR9.ext hx16
        skip
        exact D.val rfl (op_index (k := k) rfl d16_0 d16_1 sl37 (hR9.getA (get_bang (l := outcomes_f m parent (l.take 250) slot) (k := k) (by omega))).1 rfl (by omega) rfl)
      · intro f17 w17 hx17 ho17 hd17
        have d17_2 : f17 37 = (.pointer (some ((adr A9).add (k * 11)))) := hd17 2 rfl
        exact D.val rfl (op_field rfl d17_2 fo49_2 rfl)
      · intro f18 w18 hx18 ho18 hd18
        have d18_3 : f18 38 = (.pointer (some (((adr A9).add (k * 11)).add 2))) := hd18 3 rfl
        have hR_l := hR_l.ext hx18
        have hB1 := hB1.ext hx18
        have hR2 := hR2.ext hx18
        have hR9 := hR9.ext hx18
        skip
        exact D.val rfl (op_load1 rfl d18_3 one3 ((hR9.getA (get_bang (l := outcomes_f m parent (l.take 250) slot) (k := k) (by omega))).2.one (n := 2) rfl))
      · intro f19 w19 hx19 ho19 hd19
        have d19_s9 : f19 9 = (.slice A9 (outcomes_f m parent (l.take 250) slot).length c9) := (ho19 9 rfl).trans s11_9
        exact D.val rfl (op_move rfl d19_s9)
      · intro f20 w20 hx20 ho20 hd20
        have d20_5 : f20 40 = (.slice A9 (outcomes_f m parent (l.take 250) slot).length c9) := hd20 5 rfl
        have hR_l := hR_l.ext hx20
        have hB1 := hB1.ext hx20
        have hR2 := hR2.ext hx20
        have hR9 := hR9.ext hx20
        skip
        exact D.val rfl (op_index (k := 0) rfl d20_5 rfl sl37 (hR9.getA (get_bang (l := outcomes_f m parent (l.take 250) slot) (k := 0) (by omega))).1 rfl (by omega) rfl)
      · intro f21 w21 hx21 ho21 hd21
        have d21_6 : f21 41 = (.pointer (some ((adr A9).add (0 * 11)))) := hd21 6 rfl
        exact D.val rfl (op_field rfl d21_6 fo49_2 rfl)
      · intro f22 w22 hx22 ho22 hd22
        have d22_7 : f22 42 = (.pointer (some (((adr A9).add (0 * 11)).add 2))) := hd22 7 rfl
        have hR_l := hR_l.ext hx22
        have hB1 := hB1.ext hx22
        have hR2 := hR2.ext hx22
        have hR9 := hR9.ext hx22
        skip
        exact D.val rfl (op_load1 rfl d22_7 one3 ((hR9.getA (get_bang (l := outcomes_f m parent (l.take 250) slot) (k := 0) (by omega))).2.one (n := 2) rfl))
      · intro f23 w23 hx23 ho23 hd23
        have d23_4 : f23 39 = (.int .i64 (((outcomes_f m parent (l.take 250) slot)[k]!).choice)) := hd23 4 rfl
        have d23_8 : f23 43 = (.int .i64 (((outcomes_f m parent (l.take 250) slot)[0]!).choice)) := hd23 8 rfl
        exact D.val rfl (op_neq rfl d23_4 d23_8)
      · intro f24 w24 hx24 ho24 hd24
        have d24_9 : f24 44 = (.bool (!decide ((((outcomes_f m parent (l.take 250) slot)[k]!).choice) = (((outcomes_f m parent (l.take 250) slot)[0]!).choice)))) := hd24 9 rfl
        exact D.val rfl (op_move rfl d24_9)
      · intro f25 w25 hx25 ho25 hd25
        have d25_s9 : f25 9 = (.slice A9 (outcomes_f m parent (l.take 250) slot).length c9) := (ho25 9 rfl).trans s11_9
        have d25_10 : f25 45 = (.bool (!decide ((((outcomes_f m parent (l.take 250) slot)[k]!).choice) = (((outcomes_f m parent (l.take 250) slot)[0]!).choice)))) := hd25 10 rfl
        exact D.guardv (wanted_no rfl rfl d25_10) (fun hg => (op_move rfl d25_s9))
      · intro f26 w26 hx26 ho26 hd26
        have d26_s10 : f26 10 = (.int .i64 ((k : Nat) : Int)) := (ho26 10 rfl).trans s11_10
        have d26_10 : f26 45 = (.bool (!decide ((((outcomes_f m parent (l.take 250) slot)[k]!).choice) = (((outcomes_f m parent (l.take 250) slot)[0]!).choice)))) := hd26 10 rfl
        exact D.guardv (wanted_no rfl rfl d26_10) (fun hg => (op_move rfl d26_s10))
      · intro f27 w27 hx27 ho27 hd27
        have d27_10 : f27 45 = (.bool (!decide ((((outcomes_f m parent (l.take 250) slot)[k]!).choice) = (((outcomes_f m parent (l.take 250) slot)[0]!).choice)))) := hd27 10 rfl
        have d27_11 : f27 46 = (vif (!(!decide ((((outcomes_f m parent (l.take 250) slot)[k]!).choice) = (((outcomes_f m parent (l.take 250) slot)[0]!).choice)))) (.slice A9 (outcomes_f m parent (l.take 250) slot).length c9)) := hd27 11 rfl
        have d27_12 : f27 47 = (vif (!(!decide ((((outcomes_f m parent (l.take 250) slot)[k]!).choice) = (((outcomes_f m parent (l.take 250) slot)[0]!).choice)))) (.int .i64 ((k : Nat) : Int))) := hd27 12 rfl
        have hR_l := hR_l.ext hx27
        have hB1 := hB1.ext hx27
        have hR2 := hR2.ext hx27
        have hR9 := hR9.ext hx27
        exact D.guardv (wanted_no rfl rfl d27_10) (fun hg => by have hp := hg; simp only [Bool.and_eq_true, Bool.or_eq_true, Bool.not_eq_true', decide_eq_true_eq, decide_eq_false_iff_not, bne_iff_ne, beq_iff_eq] at hp; skip; exact (op_index (k := k) rfl ((show _ = vif _ (.slice A9 (outcomes_f m parent (l.take 250) slot).length c9) from d27_11).trans (vif_t hg).symm) ((show _ = vif _ (.int .i64 ((k : Nat) : Int)) from d27_12).trans (vif_t hg).symm) sl37 (hR9.getA (get_bang (l := outcomes_f m parent (l.take 250) slot) (k := k) (by omega))).1 rfl (by omega) rfl))
      · intro f28 w28 hx28 ho28 hd28
        have d28_10 : f28 45 = (.bool (!decide ((((outcomes_f m parent (l.take 250) slot)[k]!).choice) = (((outcomes_f m parent (l.take 250) slot)[0]!).choice)))) := hd28 10 rfl
        have d28_13 : f28 48 = (vif (!(!decide ((((outcomes_f m parent (l.take 250) slot)[k]!).choice) = (((outcomes_f m parent (l.take 250) slot)[0]!).choice)))) (.pointer (some ((adr A9).add (k * 11))))) := hd28 13 rfl
        exact D.guardv (wanted_no rfl rfl d28_10) (fun hg => (op_field rfl ((show _ = vif _ (.pointer (some ((adr A9).add (k * 11)))) from d28_13).trans (vif_t hg).symm) fo49_3 rfl))
      · intro f29 w29 hx29 ho29 hd29
        have d29_10 : f29 45 = (.bool (!decide ((((outcomes_f m parent (l.take 250) slot)[k]!).choice) = (((outcomes_f m parent (l.take 250) slot)[0]!).choice)))) := hd29 10 rfl
        have d29_14 : f29 49 = (vif (!(!decide ((((outcomes_f m parent (l.take 250) slot)[k]!).choice) = (((outcomes_f m parent (l.take 250) slot)[0]!).choice)))) (.pointer (some (((adr A9).add (k * 11)).add 3)))) := hd29 14 rfl
        have hR_l := hR_l.ext hx29
        have hB1 := hB1.ext hx29
        have hR2 := hR2.ext hx29
        have hR9 := hR9.ext hx29
        exact D.guardv (wanted_no rfl rfl d29_10) (fun hg => by have hp := hg; simp only [Bool.and_eq_true, Bool.or_eq_true, Bool.not_eq_true', decide_eq_true_eq, decide_eq_false_iff_not, bne_iff_ne, beq_iff_eq] at hp; skip; exact (op_load (v := (((outcomes_f m parent (l.take 250) slot)[k]!).value : Nm)) rfl ((show _ = vif _ (.pointer (some (((adr A9).add (k * 11)).add 3))) from d29_14).trans (vif_t hg).symm) ty24 (sub_nm 3 (hR9.getA (get_bang (l := outcomes_f m parent (l.take 250) slot) (k := k) (by omega))).2 rfl)))
      · intro f30 w30 hx30 ho30 hd30
        have d30_s9 : f30 9 = (.slice A9 (outcomes_f m parent (l.take 250) slot).length c9) := (ho30 9 rfl).trans s11_9
        have d30_10 : f30 45 = (.bool (!decide ((((outcomes_f m parent (l.take 250) slot)[k]!).choice) = (((outcomes_f m parent (l.take 250) slot)[0]!).choice)))) := hd30 10 rfl
        exact D.guardv (wanted_no rfl rfl d30_10) (fun hg => (op_move rfl d30_s9))
      · intro f31 w31 hx31 ho31 hd31
        have d31_10 : f31 45 = (.bool (!decide ((((outcomes_f m parent (l.take 250) slot)[k]!).choice) = (((outcomes_f m parent (l.take 250) slot)[0]!).choice)))) := hd31 10 rfl
        have d31_16 : f31 51 = (vif (!(!decide ((((outcomes_f m parent (l.take 250) slot)[k]!).choice) = (((outcomes_f m parent (l.take 250) slot)[0]!).choice)))) (.slice A9 (outcomes_f m parent (l.take 250) slot).length c9)) := hd31 16 rfl
        have hR_l := hR_l.ext hx31
        have hB1 := hB1.ext hx31
        have hR2 := hR2.ext hx31
        have hR9 := hR9.ext hx31
        exact D.guardv (wanted_no rfl rfl d31_10) (fun hg => by have hp := hg; simp only [Bool.and_eq_true, Bool.or_eq_true, Bool.not_eq_true', decide_eq_true_eq, decide_eq_false_iff_not, bne_iff_ne, beq_iff_eq] at hp; skip; exact (op_index (k := 0) rfl ((show _ = vif _ (.slice A9 (outcomes_f m parent (l.take 250) slot).length c9) from d31_16).trans (vif_t hg).symm) rfl sl37 (hR9.getA (get_bang (l := outcomes_f m parent (l.take 250) slot) (k := 0) (by omega))).1 rfl (by omega) rfl))
      · intro f32 w32 hx32 ho32 hd32
        have d32_10 : f32 45 = (.bool (!decide ((((outcomes_f m parent (l.take 250) slot)[k]!).choice) = (((outcomes_f m parent (l.take 250) slot)[0]!).choice)))) := hd32 10 rfl
        have d32_17 : f32 52 = (vif (!(!decide ((((outcomes_f m parent (l.take 250) slot)[k]!).choice) = (((outcomes_f m parent (l.take 250) slot)[0]!).choice)))) (.pointer (some ((adr A9).add (0 * 11))))) := hd32 17 rfl
        exact D.guardv (wanted_no rfl rfl d32_10) (fun hg => (op_field rfl ((show _ = vif _ (.pointer (some ((adr A9).add (0 * 11)))) from d32_17).trans (vif_t hg).symm) fo49_3 rfl))
      · intro f33 w33 hx33 ho33 hd33
        have d33_10 : f33 45 = (.bool (!decide ((((outcomes_f m parent (l.take 250) slot)[k]!).choice) = (((outcomes_f m parent (l.take 250) slot)[0]!).choice)))) := hd33 10 rfl
        have d33_18 : f33 53 = (vif (!(!decide ((((outcomes_f m parent (l.take 250) slot)[k]!).choice) = (((outcomes_f m parent (l.take 250) slot)[0]!).choice)))) (.pointer (some (((adr A9).add (0 * 11)).add 3)))) := hd33 18 rfl
        have hR_l := hR_l.ext hx33
        have hB1 := hB1.ext hx33
        have hR2 := hR2.ext hx33
        have hR9 := hR9.ext hx33
        exact D.guardv (wanted_no rfl rfl d33_10) (fun hg => by have hp := hg; simp only [Bool.and_eq_true, Bool.or_eq_true, Bool.not_eq_true', decide_eq_true_eq, decide_eq_false_iff_not, bne_iff_ne, beq_iff_eq] at hp; skip; exact (op_load (v := (((outcomes_f m parent (l.take 250) slot)[0]!).value : Nm)) rfl ((show _ = vif _ (.pointer (some (((adr A9).add (0 * 11)).add 3))) from d33_18).trans (vif_t hg).symm) ty24 (sub_nm 3 (hR9.getA (get_bang (l := outcomes_f m parent (l.take 250) slot) (k := 0) (by omega))).2 rfl)))
      · intro f34 w34 hx34 ho34 hd34
        have d34_10 : f34 45 = (.bool (!decide ((((outcomes_f m parent (l.take 250) slot)[k]!).choice) = (((outcomes_f m parent (l.take 250) slot)[0]!).choice)))) := hd34 10 rfl
        have d34_15 : f34 50 = (vif (!(!decide ((((outcomes_f m parent (l.take 250) slot)[k]!).choice) = (((outcomes_f m parent (l.take 250) slot)[0]!).choice)))) (Enc.val (((outcomes_f m parent (l.take 250) slot)[k]!).value))) := hd34 15 rfl
        have d34_19 : f34 54 = (vif (!(!decide ((((outcomes_f m parent (l.take 250) slot)[k]!).choice) = (((outcomes_f m parent (l.take 250) slot)[0]!).choice)))) (Enc.val (((outcomes_f m parent (l.take 250) slot)[0]!).value))) := hd34 19 rfl
        exact D.guardv (wanted_no rfl rfl d34_10) (fun hg => (op_neqe (a := (((outcomes_f m parent (l.take 250) slot)[k]!).value : Nm)) (b := (((outcomes_f m parent (l.take 250) slot)[0]!).value : Nm)) rfl ((show _ = vif _ (Enc.val (((outcomes_f m parent (l.take 250) slot)[k]!).value)) from d34_15).trans (vif_t hg).symm) ((show _ = vif _ (Enc.val (((outcomes_f m parent (l.take 250) slot)[0]!).value)) from d34_19).trans (vif_t hg).symm) eq24 (fun _ => ⟨_, rfl⟩) Try.eqGuardType24))
      · intro f35 w35 hx35 ho35 hd35
        have d35_10 : f35 45 = (.bool (!decide ((((outcomes_f m parent (l.take 250) slot)[k]!).choice) = (((outcomes_f m parent (l.take 250) slot)[0]!).choice)))) := hd35 10 rfl
        have d35_20 : f35 55 = (vif (!(!decide ((((outcomes_f m parent (l.take 250) slot)[k]!).choice) = (((outcomes_f m parent (l.take 250) slot)[0]!).choice)))) (.bool (!decide (((outcomes_f m parent (l.take 250) slot)[k]!).value = ((outcomes_f m parent (l.take 250) slot)[0]!).value)))) := hd35 20 rfl
        exact D.val rfl (op_or rfl d35_10 rfl d35_20)
      intro f36 w36 hx36 ho36 hr36
      have s9 : f36 9 = (.slice A9 (outcomes_f m parent (l.take 250) slot).length c9) := (ho36 9 rfl).trans s11_9
      have s10 : f36 10 = (.int .i64 ((k : Nat) : Int)) := (ho36 10 rfl).trans s11_10
      have s32 : f36 32 = (.bool (decide (((k : Nat) : Int) < ((outcomes_f m parent (l.take 250) slot).length : Int)))) := ho36 32 rfl
      have s56 : f36 56 = (.bool ((!decide ((((outcomes_f m parent (l.take 250) slot)[k]!).choice) = (((outcomes_f m parent (l.take 250) slot)[0]!).choice))) || (!decide (((outcomes_f m parent (l.take 250) slot)[k]!).value = ((outcomes_f m parent (l.take 250) slot)[0]!).value)))) := hr36 21 (by decide)
      have hE := hE.trans hx36
      have hS10 := hS10.trans hx36
      have hR_l := hR_l.ext hx36
      have hB1 := hB1.ext hx36
      have hR2 := hR2.ext hx36
      have hR9 := hR9.ext hx36
      refine thenF_nor ?_
      refine W.cond (t := (!decide ((((outcomes_f m parent (l.take 250) slot)[k]!).choice) = (((outcomes_f m parent (l.take 250) slot)[0]!).choice))) || (!decide (((outcomes_f m parent (l.take 250) slot)[k]!).value = ((outcomes_f m parent (l.take 250) slot)[0]!).value))) s56 (fun hc37 => ?_) (fun hc37 => ?_)
      · have hp37 := hc37
        simp only [Bool.and_eq_true, Bool.or_eq_true, Bool.and_eq_false_iff, Bool.or_eq_false_iff, Bool.not_eq_true', Bool.not_eq_false', decide_eq_true_eq, decide_eq_false_iff_not] at hp37
        exact absurd hc37 (by rw [agrees12 htn (by omega)]; simp)
      · have hp37 := hc37
        simp only [Bool.and_eq_true, Bool.or_eq_true, Bool.and_eq_false_iff, Bool.or_eq_false_iff, Bool.not_eq_true', Bool.not_eq_false', decide_eq_true_eq, decide_eq_false_iff_not] at hp37
        refine W.skip ?_
        refine blockF_nor ?_
        refine thenF_nor ?_
        refine W.region (by rfl) ?_
        refine L.val rfl (op_move rfl s10) ?_
        refine L.val rfl (op_add (c := ((k + 1 : Nat) : Int)) rfl rfl rfl (by omega) (by omega)) ?_
        refine L.val rfl (op_assign rfl rfl) ?_
        refine L.nil ?_
        refine thenF_nor ?_
        exact ⟨k + 1, ⟨(by (try dsimp only); omega), s9, rfl, hS10⟩, (by (try dsimp only); omega)⟩
    · have hp12 := hc12
      simp only [Bool.and_eq_true, Bool.or_eq_true, Bool.and_eq_false_iff, Bool.or_eq_false_iff, Bool.not_eq_true', Bool.not_eq_false', decide_eq_true_eq, decide_eq_false_iff_not] at hp12
      refine W.exit ?_
      refine thenF_exit ?_
      refine thenF_exit ?_
      refine blockF_hit ?_
      refine thenF_nor ?_
      refine W.seq ?_
      refine W.region (by rfl) ?_
      refine L.call (v := (.bool true)) rfl (OpS.call (op_call rfl argsN Try.func23 rfl rfl) awake12_ok) ?_
      intro w38 hx38
      have hE := hE.trans hx38
      have hS10 := hS10.trans hx38
      have hR_l := hR_l.ext hx38
      have hB1 := hB1.ext hx38
      have hR2 := hR2.ext hx38
      have hR9 := hR9.ext hx38
      refine L.val (v := (.bool true)) rfl (op_assign rfl rfl) ?_
      refine L.nil ?_
      refine thenF_nor ?_
      refine W.ret ?_
      exact end_ret1 (v := (.bool true)) rfl rfl ⟨rfl, hE⟩

end Go.Proofs.Ytdknjfmjddlphaa
