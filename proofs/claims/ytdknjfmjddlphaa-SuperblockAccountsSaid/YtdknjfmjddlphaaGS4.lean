/-
  Contracts of functions of the program, each with its walk in the logic of frames. Printed by a program of this session (wip/gen) from the translation.
-/
import Derived.Test.YtdknjfmjddlphaaGS1
import Derived.Test.YtdknjfmjddlphaaLaw17
set_option linter.unusedSimpArgs false
set_option linter.unusedVariables false
namespace Go.Proofs.Ytdknjfmjddlphaa
open Go Go.Fk

set_option maxRecDepth 100000 in
set_option maxHeartbeats 8000000 in
theorem SuperblockAccounts_ok {m : Int} {parent : Nm} {A_l : Option Addr} {c_l lo_l hi_l : Nat} {l : List Vt} {A_mm : Option Addr} {c_mm lo_mm hi_mm : Nat} {mm : List Vt}  {w : World} (hR_l : Rd w lo_l hi_l A_l l) (hcap_l : l.length ≤ c_l) (hR_mm : Rd w lo_mm hi_mm A_mm mm) (hcap_mm : mm.length ≤ c_mm) : Gives Try.prog 14 #[(.int .i64 m), (Enc.val (parent : Nm)), (.slice A_l l.length c_l), (.slice A_mm mm.length c_mm)] w fun u w' => u = (.bool true) ∧ Ext w w' := by
  have hE : Ext w w := Ext.refl w
  have hlen_l := hR_l.len
  have hlen_mm := hR_mm.len
  refine gives_of_W Try.func14 rfl Try.ntmps14 rfl ?_
  have htl : (l.take 250).length ≤ 250 := List.length_take_le _ _
  have htm : (mm.take 250).length ≤ 250 := List.length_take_le _ _
  have hsz0 := size_nn m
  have hsz1 := size_le m
  have hq0 := quorum_bounds m
  have hdl := dec17_short m parent (l.take 250)
  have hdm := dec17_short m parent (mm.take 250)
  refine W.seq ?_
  refine W.region (by rfl) ?_
  refine L.step rfl (op_box (cs := (Enc.cells (parent : Nm))) rfl rfl rfl) ?_
  rintro _ w1 ⟨b1, rfl, hb1, hB1, hx1⟩
  have hE := hE.trans hx1
  have hR_l := hR_l.ext hx1
  have hR_mm := hR_mm.ext hx1
  refine L.val (v := (.bool false)) rfl (op_assign rfl rfl) ?_
  refine L.nil ?_
  refine thenF_nor ?_
  refine W.seq ?_
  refine W.region (by rfl) ?_
  refine L.val rfl (op_move rfl rfl) ?_
  refine L.step rfl (OpS.call (op_call rfl (argsC rfl argsN) Try.func39 rfl rfl) (cut17_ok hR_l hcap_l)) ?_
  rintro _ w2 ⟨⟨A2, c2, lo2, hi2, rfl, hcap2, hR2⟩, hx2⟩
  have hE := hE.trans hx2
  have hR_l := hR_l.ext hx2
  have hR_mm := hR_mm.ext hx2
  have hB1 := hB1.ext hx2
  have hlen2 := hR2.len
  refine L.val rfl (op_move rfl rfl) ?_
  refine L.step rfl (OpS.call (op_call rfl (argsC rfl argsN) Try.func39 rfl rfl) (cut17_ok hR_mm hcap_mm)) ?_
  rintro _ w3 ⟨⟨A3, c3, lo3, hi3, rfl, hcap3, hR3⟩, hx3⟩
  have hE := hE.trans hx3
  have hR_l := hR_l.ext hx3
  have hR_mm := hR_mm.ext hx3
  have hB1 := hB1.ext hx3
  have hR2 := hR2.ext hx3
  have hlen3 := hR3.len
  refine L.val rfl (op_assign rfl rfl) ?_
  refine L.val rfl (op_assign rfl rfl) ?_
  refine L.nil ?_
  refine thenF_nor ?_
  refine W.seq ?_
  refine W.region (by rfl) ?_
  refine L.val rfl (op_move rfl rfl) ?_
  refine L.val rfl (op_load (v := (parent : Nm)) rfl rfl ty24 hB1.cells) ?_
  refine L.val rfl (op_move rfl rfl) ?_
  refine L.step rfl (OpS.call (op_call rfl (argsC rfl (argsC rfl (argsC rfl argsN))) Try.func40 rfl rfl) (Decide_ok hR2 (by first | omega | (simp only [List.length_drop, List.length_take, List.length_append, List.length_cons, List.length_nil] at *; omega)))) ?_
  rintro _ w4 ⟨⟨u4, rfl, A4, c4, lo4, hi4, rfl, hcap4, hR4⟩, hx4⟩
  have hE := hE.trans hx4
  have hR_l := hR_l.ext hx4
  have hR_mm := hR_mm.ext hx4
  have hB1 := hB1.ext hx4
  have hR2 := hR2.ext hx4
  have hR3 := hR3.ext hx4
  have hlen4 := hR4.len
  refine L.val rfl (op_move rfl rfl) ?_
  refine L.val rfl (op_extract rfl rfl rfl) ?_
  refine L.val rfl (op_extract rfl rfl rfl) ?_
  refine L.val rfl (op_assign rfl rfl) ?_
  refine L.val rfl (op_assign rfl rfl) ?_
  refine L.nil ?_
  refine thenF_nor ?_
  refine W.seq ?_
  refine W.region (by rfl) ?_
  refine L.val rfl (op_move rfl rfl) ?_
  refine L.val rfl (op_load (v := (parent : Nm)) rfl rfl ty24 hB1.cells) ?_
  refine L.val rfl (op_move rfl rfl) ?_
  refine L.step rfl (OpS.call (op_call rfl (argsC rfl (argsC rfl (argsC rfl argsN))) Try.func40 rfl rfl) (Decide_ok hR3 (by first | omega | (simp only [List.length_drop, List.length_take, List.length_append, List.length_cons, List.length_nil] at *; omega)))) ?_
  rintro _ w5 ⟨⟨u5, rfl, A5, c5, lo5, hi5, rfl, hcap5, hR5⟩, hx5⟩
  have hE := hE.trans hx5
  have hR_l := hR_l.ext hx5
  have hR_mm := hR_mm.ext hx5
  have hB1 := hB1.ext hx5
  have hR2 := hR2.ext hx5
  have hR3 := hR3.ext hx5
  have hR4 := hR4.ext hx5
  have hlen5 := hR5.len
  refine L.val rfl (op_move rfl rfl) ?_
  refine L.val rfl (op_extract rfl rfl rfl) ?_
  refine L.val rfl (op_extract rfl rfl rfl) ?_
  refine L.val rfl (op_assign rfl rfl) ?_
  refine L.val rfl (op_assign rfl rfl) ?_
  refine L.nil ?_
  refine thenF_nor ?_
  refine W.seq ?_
  refine W.seq ?_
  refine W.region (by rfl) ?_
  refine L.val rfl (op_move rfl rfl) ?_
  refine L.val rfl (op_not rfl rfl) ?_
  refine L.val rfl (op_move rfl rfl) ?_
  refine L.guardv (v := (.bool ((decide17_f m parent (mm.take 250)).2))) (wanted_no rfl rfl rfl) (fun hg => (op_move rfl rfl)) ?_
  refine L.guardv (v := (.bool (!((decide17_f m parent (mm.take 250)).2)))) (wanted_no rfl rfl rfl) (fun hg => (op_not rfl ((show _ = vif _ (.bool ((decide17_f m parent (mm.take 250)).2)) from rfl).trans (vif_t hg).symm))) ?_
  refine L.val rfl (op_or rfl rfl rfl rfl) ?_
  refine L.val rfl (op_move rfl rfl) ?_
  refine L.guardv (v := (.slice A4 ((decide17_f m parent (l.take 250)).1).length c4)) (wanted_no rfl rfl rfl) (fun hg => (op_move rfl rfl)) ?_
  rcases Bool.eq_false_or_eq_true ((!((decide17_f m parent (l.take 250)).2)) || (!((decide17_f m parent (mm.take 250)).2))) with hs6 | hs6
  · have hp6 := hs6
    simp only [Bool.and_eq_true, Bool.or_eq_true, Bool.and_eq_false_iff, Bool.or_eq_false_iff, Bool.not_eq_true', Bool.not_eq_false', decide_eq_true_eq, decide_eq_false_iff_not] at hp6
    refine L.skipF (wanted_no (b := true) rfl rfl ((show _ = Value.bool ((!((decide17_f m parent (l.take 250)).2)) || (!((decide17_f m parent (mm.take 250)).2))) from rfl).trans (congrArg Value.bool hs6))) ?_
    refine L.skipF (wanted_no (b := true) rfl rfl ((show _ = Value.bool ((!((decide17_f m parent (l.take 250)).2)) || (!((decide17_f m parent (mm.take 250)).2))) from rfl).trans (congrArg Value.bool hs6))) ?_
    refine L.skipF (wanted_no (b := true) rfl rfl ((show _ = Value.bool ((!((decide17_f m parent (l.take 250)).2)) || (!((decide17_f m parent (mm.take 250)).2))) from rfl).trans (congrArg Value.bool hs6))) ?_
    refine L.skipF (wanted_no (b := true) rfl rfl ((show _ = Value.bool ((!((decide17_f m parent (l.take 250)).2)) || (!((decide17_f m parent (mm.take 250)).2))) from rfl).trans (congrArg Value.bool hs6))) ?_
    refine L.val (v := (.bool true)) rfl (op_pickT rfl ((show _ = Value.bool ((!((decide17_f m parent (l.take 250)).2)) || (!((decide17_f m parent (mm.take 250)).2))) from rfl).trans (congrArg Value.bool hs6)) rfl) ?_
    refine L.nil ?_
    refine thenF_nor ?_
    refine W.cond (t := true) rfl (fun _ => ?_) (fun h => nomatch h)
    refine W.seq ?_
    refine W.region (by rfl) ?_
    refine L.call (v := (.bool true)) rfl (OpS.call (op_call rfl argsN Try.func43 rfl rfl) awake17_ok) ?_
    intro w7 hx7
    have hE := hE.trans hx7
    have hR_l := hR_l.ext hx7
    have hR_mm := hR_mm.ext hx7
    have hB1 := hB1.ext hx7
    have hR2 := hR2.ext hx7
    have hR3 := hR3.ext hx7
    have hR4 := hR4.ext hx7
    have hR5 := hR5.ext hx7
    refine L.val (v := (.bool true)) rfl (op_assign rfl rfl) ?_
    refine L.nil ?_
    refine thenF_nor ?_
    refine W.ret ?_
    refine thenF_ret ?_
    exact end_ret1 (v := (.bool true)) rfl rfl ⟨rfl, hE⟩
  · have hp6 := hs6
    simp only [Bool.and_eq_true, Bool.or_eq_true, Bool.and_eq_false_iff, Bool.or_eq_false_iff, Bool.not_eq_true', Bool.not_eq_false', decide_eq_true_eq, decide_eq_false_iff_not] at hp6
    refine L.stepT (wanted_no (b := false) rfl rfl ((show _ = Value.bool ((!((decide17_f m parent (l.take 250)).2)) || (!((decide17_f m parent (mm.take 250)).2))) from rfl).trans (congrArg Value.bool hs6))) (OpS.call (op_call rfl (argsC ((show _ = vif _ (.slice A4 ((decide17_f m parent (l.take 250)).1).length c4) from rfl).trans (vif_t (congrArg Bool.not hs6)).symm) argsN) Try.func42 rfl rfl) (Choices_ok hR4 (by first | omega | (simp only [List.length_drop, List.length_take, List.length_append, List.length_cons, List.length_nil] at *; omega)))) ?_
    rintro _ w8 ⟨⟨A8, c8, lo8, hi8, rfl, hcap8, hR8⟩, hx8⟩
    have hE := hE.trans hx8
    have hR_l := hR_l.ext hx8
    have hR_mm := hR_mm.ext hx8
    have hB1 := hB1.ext hx8
    have hR2 := hR2.ext hx8
    have hR3 := hR3.ext hx8
    have hR4 := hR4.ext hx8
    have hR5 := hR5.ext hx8
    have hlen8 := hR8.len
    refine L.valT (wanted_no (b := false) rfl rfl ((show _ = Value.bool ((!((decide17_f m parent (l.take 250)).2)) || (!((decide17_f m parent (mm.take 250)).2))) from rfl).trans (congrArg Value.bool hs6))) (op_move rfl rfl) ?_
    refine L.stepT (wanted_no (b := false) rfl rfl ((show _ = Value.bool ((!((decide17_f m parent (l.take 250)).2)) || (!((decide17_f m parent (mm.take 250)).2))) from rfl).trans (congrArg Value.bool hs6))) (OpS.call (op_call rfl (argsC rfl argsN) Try.func42 rfl rfl) (Choices_ok hR5 (by first | omega | (simp only [List.length_drop, List.length_take, List.length_append, List.length_cons, List.length_nil] at *; omega)))) ?_
    rintro _ w9 ⟨⟨A9, c9, lo9, hi9, rfl, hcap9, hR9⟩, hx9⟩
    have hE := hE.trans hx9
    have hR_l := hR_l.ext hx9
    have hR_mm := hR_mm.ext hx9
    have hB1 := hB1.ext hx9
    have hR2 := hR2.ext hx9
    have hR3 := hR3.ext hx9
    have hR4 := hR4.ext hx9
    have hR5 := hR5.ext hx9
    have hR8 := hR8.ext hx9
    have hlen9 := hR9.len
    refine L.callT (v := (.bool (decide (choices_f ((decide17_f m parent (l.take 250)).1) = choices_f ((decide17_f m parent (mm.take 250)).1))))) (wanted_no (b := false) rfl rfl ((show _ = Value.bool ((!((decide17_f m parent (l.take 250)).2)) || (!((decide17_f m parent (mm.take 250)).2))) from rfl).trans (congrArg Value.bool hs6))) (OpS.call (op_call rfl (argsC rfl (argsC rfl argsN)) Try.func45 rfl rfl) (choices17_ok hR8 hR9)) ?_
    intro w10 hx10
    have hE := hE.trans hx10
    have hR_l := hR_l.ext hx10
    have hR_mm := hR_mm.ext hx10
    have hB1 := hB1.ext hx10
    have hR2 := hR2.ext hx10
    have hR3 := hR3.ext hx10
    have hR4 := hR4.ext hx10
    have hR5 := hR5.ext hx10
    have hR8 := hR8.ext hx10
    have hR9 := hR9.ext hx10
    refine L.val rfl (op_pickF rfl ((show _ = Value.bool ((!((decide17_f m parent (l.take 250)).2)) || (!((decide17_f m parent (mm.take 250)).2))) from rfl).trans (congrArg Value.bool hs6)) rfl) ?_
    refine L.nil ?_
    refine thenF_nor ?_
    refine W.cond (t := decide (choices_f ((decide17_f m parent (l.take 250)).1) = choices_f ((decide17_f m parent (mm.take 250)).1))) rfl (fun hc11 => ?_) (fun hc11 => ?_)
    · have hp11 := hc11
      simp only [Bool.and_eq_true, Bool.or_eq_true, Bool.and_eq_false_iff, Bool.or_eq_false_iff, Bool.not_eq_true', Bool.not_eq_false', decide_eq_true_eq, decide_eq_false_iff_not] at hp11
      refine W.seq ?_
      refine W.region (by rfl) ?_
      refine L.call (v := (.bool true)) rfl (OpS.call (op_call rfl argsN Try.func43 rfl rfl) awake17_ok) ?_
      intro w12 hx12
      have hE := hE.trans hx12
      have hR_l := hR_l.ext hx12
      have hR_mm := hR_mm.ext hx12
      have hB1 := hB1.ext hx12
      have hR2 := hR2.ext hx12
      have hR3 := hR3.ext hx12
      have hR4 := hR4.ext hx12
      have hR5 := hR5.ext hx12
      have hR8 := hR8.ext hx12
      have hR9 := hR9.ext hx12
      refine L.val (v := (.bool true)) rfl (op_assign rfl rfl) ?_
      refine L.nil ?_
      refine thenF_nor ?_
      refine W.ret ?_
      refine thenF_ret ?_
      exact end_ret1 (v := (.bool true)) rfl rfl ⟨rfl, hE⟩
    · have hp11 := hc11
      simp only [Bool.and_eq_true, Bool.or_eq_true, Bool.and_eq_false_iff, Bool.or_eq_false_iff, Bool.not_eq_true', Bool.not_eq_false', decide_eq_true_eq, decide_eq_false_iff_not] at hp11
      have hne := hc11
      have hd := hs6
      simp only [Bool.or_eq_false_iff, Bool.not_eq_false'] at hd
      refine W.skip ?_
      refine thenF_nor ?_
      refine W.seq ?_
      refine W.region (by rfl) ?_
      refine L.val rfl (op_assign rfl rfl) ?_
      refine L.nil ?_
      refine thenF_nor ?_
      refine W.seq ?_
      refine W.seq ?_
      refine W.region (by rfl) ?_
      refine L.val rfl (op_assign rfl rfl) ?_
      refine L.nil ?_
      refine thenF_nor ?_
      refine W.block ?_
      have S13_hR_l := hR_l
      have S13_hR_mm := hR_mm
      have S13_hB1 := hB1
      have S13_hR2 := hR2
      have S13_hR3 := hR3
      have S13_hR4 := hR4
      have S13_hR5 := hR5
      have S13_hR8 := hR8
      have S13_hR9 := hR9
      have S13_hE := hE
      have hS13 : Ext w10 w10 := Ext.refl _
      refine W.loopg (γ := Nat × Int) (fun (g : Nat × Int) (f : Fr) (ww : World) => g.1 ≤ (l.take 250).length ∧ ((l.take 250).take g.1).foldl (fun acc x => (mm.take 250).foldl (torn17Step x) acc) 0 = g.2 ∧ f 0 = (.int .i64 m) ∧ f 2 = (.slice A2 (l.take 250).length c2) ∧ f 3 = (.slice A3 (mm.take 250).length c3) ∧ f 8 = (.bool false) ∧ f 14 = (.int .i64 ((g.1 : Nat) : Int)) ∧ f 13 = (.int .i64 g.2) ∧ Ext w10 ww) (fun (g : Nat × Int) => (l.take 250).length - g.1) (0, 0) ⟨(by (try dsimp only); omega), rfl, rfl, rfl, rfl, rfl, rfl, rfl, hS13⟩ ?_
      rintro ⟨i, t⟩ f14 w14 ⟨hi, hti, s14_0, s14_2, s14_3, s14_8, s14_14, s14_13, hS13⟩
      dsimp only at hi hti s14_0 s14_2 s14_3 s14_8 s14_14 s14_13 hS13
      have hR_l := S13_hR_l.ext hS13
      have hR_mm := S13_hR_mm.ext hS13
      have hB1 := S13_hB1.ext hS13
      have hR2 := S13_hR2.ext hS13
      have hR3 := S13_hR3.ext hS13
      have hR4 := S13_hR4.ext hS13
      have hR5 := S13_hR5.ext hS13
      have hR8 := S13_hR8.ext hS13
      have hR9 := S13_hR9.ext hS13
      have hE := S13_hE.trans hS13
      refine W.seq ?_
      refine W.seq ?_
      refine W.region (by rfl) ?_
      refine L.val rfl (op_move rfl s14_14) ?_
      refine L.val rfl (op_move rfl s14_2) ?_
      refine L.val rfl (op_len rfl rfl ln25) ?_
      refine L.val rfl (op_lss rfl rfl rfl) ?_
      refine L.nil ?_
      refine thenF_nor ?_
      refine W.cond (t := decide (((i : Nat) : Int) < ((l.take 250).length : Int))) rfl (fun hc15 => ?_) (fun hc15 => ?_)
      · have hp15 := hc15
        simp only [Bool.and_eq_true, Bool.or_eq_true, Bool.and_eq_false_iff, Bool.or_eq_false_iff, Bool.not_eq_true', Bool.not_eq_false', decide_eq_true_eq, decide_eq_false_iff_not] at hp15
        refine W.skip ?_
        refine thenF_nor ?_
        refine W.seq ?_
        refine W.block ?_
        refine W.seq ?_
        refine W.region (by rfl) ?_
        refine L.val rfl (op_assign rfl rfl) ?_
        refine L.nil ?_
        refine thenF_nor ?_
        refine W.block ?_
        have S16_hR_l := hR_l
        have S16_hR_mm := hR_mm
        have S16_hB1 := hB1
        have S16_hR2 := hR2
        have S16_hR3 := hR3
        have S16_hR4 := hR4
        have S16_hR5 := hR5
        have S16_hR8 := hR8
        have S16_hR9 := hR9
        have S16_hE := hE
        have S16_hS13 := hS13
        have hS16 : Ext w14 w14 := Ext.refl _
        refine W.loopg (γ := Nat × Int) (fun (g : Nat × Int) (f : Fr) (ww : World) => g.1 ≤ (mm.take 250).length ∧ ((mm.take 250).take g.1).foldl (torn17Step (l.take 250)[i]!) t = g.2 ∧ f 0 = (.int .i64 m) ∧ f 2 = (.slice A2 (l.take 250).length c2) ∧ f 3 = (.slice A3 (mm.take 250).length c3) ∧ f 8 = (.bool false) ∧ f 14 = (.int .i64 ((i : Nat) : Int)) ∧ f 52 = (.bool (decide (((i : Nat) : Int) < ((l.take 250).length : Int)))) ∧ f 15 = (.int .i64 ((g.1 : Nat) : Int)) ∧ f 13 = (.int .i64 g.2) ∧ Ext w14 ww) (fun (g : Nat × Int) => (mm.take 250).length - g.1) (0, t) ⟨(by (try dsimp only); omega), rfl, s14_0, s14_2, s14_3, s14_8, s14_14, rfl, rfl, s14_13, hS16⟩ ?_
        rintro ⟨k, t2⟩ f17 w17 ⟨hk, hst, s17_0, s17_2, s17_3, s17_8, s17_14, s17_52, s17_15, s17_13, hS16⟩
        dsimp only at hk hst s17_0 s17_2 s17_3 s17_8 s17_14 s17_52 s17_15 s17_13 hS16
        have hR_l := S16_hR_l.ext hS16
        have hR_mm := S16_hR_mm.ext hS16
        have hB1 := S16_hB1.ext hS16
        have hR2 := S16_hR2.ext hS16
        have hR3 := S16_hR3.ext hS16
        have hR4 := S16_hR4.ext hS16
        have hR5 := S16_hR5.ext hS16
        have hR8 := S16_hR8.ext hS16
        have hR9 := S16_hR9.ext hS16
        have hE := S16_hE.trans hS16
        have hS13 := S16_hS13.trans hS16
        refine W.seq ?_
        refine W.seq ?_
        refine W.region (by rfl) ?_
        refine L.val rfl (op_move rfl s17_15) ?_
        refine L.val rfl (op_move rfl s17_3) ?_
        refine L.val rfl (op_len rfl rfl ln25) ?_
        refine L.val rfl (op_lss rfl rfl rfl) ?_
        refine L.nil ?_
        refine thenF_nor ?_
        refine W.cond (t := decide (((k : Nat) : Int) < ((mm.take 250).length : Int))) rfl (fun hc18 => ?_) (fun hc18 => ?_)
        · have hp18 := hc18
          simp only [Bool.and_eq_true, Bool.or_eq_true, Bool.and_eq_false_iff, Bool.or_eq_false_iff, Bool.not_eq_true', Bool.not_eq_false', decide_eq_true_eq, decide_eq_false_iff_not] at hp18
          refine W.skip ?_
          refine thenF_nor ?_
          refine W.seq ?_
          refine W.block ?_
          refine W.seq ?_
          refine W.drawS [Sp.eq (.slice A2 (l.take 250).length c2), Sp.eq (.int .i64 ((i : Nat) : Int)), Sp.eq (.pointer (some ((adr A2).add (i * 22)))), Sp.eq (.pointer (some (((adr A2).add (i * 22)).add 4))), Sp.eq (.int .i64 (((l.take 250)[i]!).signer)), Sp.eq (.slice A3 (mm.take 250).length c3), Sp.eq (.int .i64 ((k : Nat) : Int)), Sp.eq (.pointer (some ((adr A3).add (k * 22)))), Sp.eq (.pointer (some (((adr A3).add (k * 22)).add 4))), Sp.eq (.int .i64 (((mm.take 250)[k]!).signer)), Sp.eq (.bool (decide ((((l.take 250)[i]!).signer) = (((mm.take 250)[k]!).signer)))), Sp.eq (.bool (decide ((((l.take 250)[i]!).signer) = (((mm.take 250)[k]!).signer)))), Sp.eq (vif (decide ((((l.take 250)[i]!).signer) = (((mm.take 250)[k]!).signer))) (.slice A2 (l.take 250).length c2)), Sp.eq (vif (decide ((((l.take 250)[i]!).signer) = (((mm.take 250)[k]!).signer))) (.int .i64 ((i : Nat) : Int))), Sp.eq (vif (decide ((((l.take 250)[i]!).signer) = (((mm.take 250)[k]!).signer))) (.pointer (some ((adr A2).add (i * 22))))), Sp.eq (vif (decide ((((l.take 250)[i]!).signer) = (((mm.take 250)[k]!).signer))) (Enc.val ((l.take 250)[i]!))), Sp.eq (vif (decide ((((l.take 250)[i]!).signer) = (((mm.take 250)[k]!).signer))) (.slice A3 (mm.take 250).length c3)), Sp.eq (vif (decide ((((l.take 250)[i]!).signer) = (((mm.take 250)[k]!).signer))) (.int .i64 ((k : Nat) : Int))), Sp.eq (vif (decide ((((l.take 250)[i]!).signer) = (((mm.take 250)[k]!).signer))) (.pointer (some ((adr A3).add (k * 22))))), Sp.eq (vif (decide ((((l.take 250)[i]!).signer) = (((mm.take 250)[k]!).signer))) (Enc.val ((mm.take 250)[k]!))), Sp.eq (vif (decide ((((l.take 250)[i]!).signer) = (((mm.take 250)[k]!).signer))) (.bool (conflict_f ((l.take 250)[i]!) ((mm.take 250)[k]!)))), Sp.eq (.bool ((decide ((((l.take 250)[i]!).signer) = (((mm.take 250)[k]!).signer))) && (conflict_f ((l.take 250)[i]!) ((mm.take 250)[k]!))))] mixed (by rfl) (Obls.cons ?_ (Obls.cons ?_ (Obls.cons ?_ (Obls.cons ?_ (Obls.cons ?_ (Obls.cons ?_ (Obls.cons ?_ (Obls.cons ?_ (Obls.cons ?_ (Obls.cons ?_ (Obls.cons ?_ (Obls.cons ?_ (Obls.cons ?_ (Obls.cons ?_ (Obls.cons ?_ (Obls.cons ?_ (Obls.cons ?_ (Obls.cons ?_ (Obls.cons ?_ (Obls.cons ?_ (Obls.cons ?_ (Obls.cons ?_ Obls.nil)))))))))))))))))))))) ?_
          · intro f20 w20 hx20 ho20 hd20
            have d20_s2 : f20 2 = (.slice A2 (l.take 250).length c2) := (ho20 2 rfl).trans s17_2
            exact D.val rfl (op_move rfl d20_s2)
          · intro f21 w21 hx21 ho21 hd21
            have d21_s14 : f21 14 = (.int .i64 ((i : Nat) : Int)) := (ho21 14 rfl).trans s17_14
            exact D.val rfl (op_move rfl d21_s14)
          · intro f22 w22 hx22 ho22 hd22
            have d22_0 : f22 61 = (.slice A2 (l.take 250).length c2) := hd22 0 rfl
            have d22_1 : f22 62 = (.int .i64 ((i : Nat) : Int)) := hd22 1 rfl
            have hR_l := hR_l.ext hx22
            have hR_mm := hR_mm.ext hx22
            have hB1 := hB1.ext hx22
            have hR2 := hR2.ext hx22
            have hR3 := hR3.ext hx22
            have hR4 := hR4.ext hx22
            have hR5 := hR5.ext hx22
            have hR8 := hR8.ext hx22
            have hR9 := hR9.ext hx22
            skip
            exact D.val rfl (op_index (k := i) rfl d22_0 d22_1 sl25 (hR2.getA (get_bang (l := l.take 250) (k := i) (by omega))).1 rfl (by omega) rfl)
          · intro f23 w23 hx23 ho23 hd23
            have d23_2 : f23 63 = (.pointer (some ((adr A2).add (i * 22)))) := hd23 2 rfl
            exact D.val rfl (op_field rfl d23_2 fo28_4 rfl)
          · intro f24 w24 hx24 ho24 hd24
            have d24_3 : f24 64 = (.pointer (some (((adr A2).add (i * 22)).add 4))) := hd24 3 rfl
            have hR_l := hR_l.ext hx24
            have hR_mm := hR_mm.ext hx24
            have hB1 := hB1.ext hx24
            have hR2 := hR2.ext hx24
            have hR3 := hR3.ext hx24
            have hR4 := hR4.ext hx24
            have hR5 := hR5.ext hx24
            have hR8 := hR8.ext hx24
            have hR9 := hR9.ext hx24
            skip
            exact D.val rfl (op_load1 rfl d24_3 one3 ((hR2.getA (get_bang (l := l.take 250) (k := i) (by omega))).2.one (n := 4) rfl))
          · intro f25 w25 hx25 ho25 hd25
            have d25_s3 : f25 3 = (.slice A3 (mm.take 250).length c3) := (ho25 3 rfl).trans s17_3
            exact D.val rfl (op_move rfl d25_s3)
          · intro f26 w26 hx26 ho26 hd26
            have d26_s15 : f26 15 = (.int .i64 ((k : Nat) : Int)) := (ho26 15 rfl).trans s17_15
            exact D.val rfl (op_move rfl d26_s15)
          · intro f27 w27 hx27 ho27 hd27
            have d27_5 : f27 66 = (.slice A3 (mm.take 250).length c3) := hd27 5 rfl
            have d27_6 : f27 67 = (.int .i64 ((k : Nat) : Int)) := hd27 6 rfl
            have hR_l := hR_l.ext hx27
            have hR_mm := hR_mm.ext hx27
            have hB1 := hB1.ext hx27
            have hR2 := hR2.ext hx27
            have hR3 := hR3.ext hx27
            have hR4 := hR4.ext hx27
            have hR5 := hR5.ext hx27
            have hR8 := hR8.ext hx27
            have hR9 := hR9.ext hx27
            skip
            exact D.val rfl (op_index (k := k) rfl d27_5 d27_6 sl25 (hR3.getA (get_bang (l := mm.take 250) (k := k) (by omega))).1 rfl (by omega) rfl)
          · intro f28 w28 hx28 ho28 hd28
            have d28_7 : f28 68 = (.pointer (some ((adr A3).add (k * 22)))) := hd28 7 rfl
            exact D.val rfl (op_field rfl d28_7 fo28_4 rfl)
          · intro f29 w29 hx29 ho29 hd29
            have d29_8 : f29 69 = (.pointer (some (((adr A3).add (k * 22)).add 4))) := hd29 8 rfl
            have hR_l := hR_l.ext hx29
            have hR_mm := hR_mm.ext hx29
            have hB1 := hB1.ext hx29
            have hR2 := hR2.ext hx29
            have hR3 := hR3.ext hx29
            have hR4 := hR4.ext hx29
            have hR5 := hR5.ext hx29
            have hR8 := hR8.ext hx29
            have hR9 := hR9.ext hx29
            skip
            exact D.val rfl (op_load1 rfl d29_8 one3 ((hR3.getA (get_bang (l := mm.take 250) (k := k) (by omega))).2.one (n := 4) rfl))
          · intro f30 w30 hx30 ho30 hd30
            have d30_4 : f30 65 = (.int .i64 (((l.take 250)[i]!).signer)) := hd30 4 rfl
            have d30_9 : f30 70 = (.int .i64 (((mm.take 250)[k]!).signer)) := hd30 9 rfl
            exact D.val rfl (op_eql rfl d30_4 d30_9)
          · intro f31 w31 hx31 ho31 hd31
            have d31_10 : f31 71 = (.bool (decide ((((l.take 250)[i]!).signer) = (((mm.take 250)[k]!).signer)))) := hd31 10 rfl
            exact D.val rfl (op_move rfl d31_10)
          · intro f32 w32 hx32 ho32 hd32
            have d32_s2 : f32 2 = (.slice A2 (l.take 250).length c2) := (ho32 2 rfl).trans s17_2
            have d32_11 : f32 72 = (.bool (decide ((((l.take 250)[i]!).signer) = (((mm.take 250)[k]!).signer)))) := hd32 11 rfl
            exact D.guardv (wanted_yes rfl rfl d32_11) (fun hg => (op_move rfl d32_s2))
          · intro f33 w33 hx33 ho33 hd33
            have d33_s14 : f33 14 = (.int .i64 ((i : Nat) : Int)) := (ho33 14 rfl).trans s17_14
            have d33_11 : f33 72 = (.bool (decide ((((l.take 250)[i]!).signer) = (((mm.take 250)[k]!).signer)))) := hd33 11 rfl
            exact D.guardv (wanted_yes rfl rfl d33_11) (fun hg => (op_move rfl d33_s14))
          · intro f34 w34 hx34 ho34 hd34
            have d34_11 : f34 72 = (.bool (decide ((((l.take 250)[i]!).signer) = (((mm.take 250)[k]!).signer)))) := hd34 11 rfl
            have d34_12 : f34 73 = (vif (decide ((((l.take 250)[i]!).signer) = (((mm.take 250)[k]!).signer))) (.slice A2 (l.take 250).length c2)) := hd34 12 rfl
            have d34_13 : f34 74 = (vif (decide ((((l.take 250)[i]!).signer) = (((mm.take 250)[k]!).signer))) (.int .i64 ((i : Nat) : Int))) := hd34 13 rfl
            have hR_l := hR_l.ext hx34
            have hR_mm := hR_mm.ext hx34
            have hB1 := hB1.ext hx34
            have hR2 := hR2.ext hx34
            have hR3 := hR3.ext hx34
            have hR4 := hR4.ext hx34
            have hR5 := hR5.ext hx34
            have hR8 := hR8.ext hx34
            have hR9 := hR9.ext hx34
            exact D.guardv (wanted_yes rfl rfl d34_11) (fun hg => by have hp := hg; (try simp only [Bool.and_eq_true, Bool.or_eq_true, Bool.not_eq_true', decide_eq_true_eq, decide_eq_false_iff_not, bne_iff_ne, beq_iff_eq] at hp); skip; exact (op_index (k := i) rfl ((show _ = vif _ (.slice A2 (l.take 250).length c2) from d34_12).trans (vif_t hg).symm) ((show _ = vif _ (.int .i64 ((i : Nat) : Int)) from d34_13).trans (vif_t hg).symm) sl25 (hR2.getA (get_bang (l := l.take 250) (k := i) (by omega))).1 rfl (by omega) rfl))
          · intro f35 w35 hx35 ho35 hd35
            have d35_11 : f35 72 = (.bool (decide ((((l.take 250)[i]!).signer) = (((mm.take 250)[k]!).signer)))) := hd35 11 rfl
            have d35_14 : f35 75 = (vif (decide ((((l.take 250)[i]!).signer) = (((mm.take 250)[k]!).signer))) (.pointer (some ((adr A2).add (i * 22))))) := hd35 14 rfl
            have hR_l := hR_l.ext hx35
            have hR_mm := hR_mm.ext hx35
            have hB1 := hB1.ext hx35
            have hR2 := hR2.ext hx35
            have hR3 := hR3.ext hx35
            have hR4 := hR4.ext hx35
            have hR5 := hR5.ext hx35
            have hR8 := hR8.ext hx35
            have hR9 := hR9.ext hx35
            exact D.guardv (wanted_yes rfl rfl d35_11) (fun hg => by have hp := hg; (try simp only [Bool.and_eq_true, Bool.or_eq_true, Bool.not_eq_true', decide_eq_true_eq, decide_eq_false_iff_not, bne_iff_ne, beq_iff_eq] at hp); skip; exact (op_load (v := (l.take 250)[i]!) rfl ((show _ = vif _ (.pointer (some ((adr A2).add (i * 22)))) from d35_14).trans (vif_t hg).symm) ty28 (hR2.getA (get_bang (l := l.take 250) (k := i) (by omega))).2))
          · intro f36 w36 hx36 ho36 hd36
            have d36_s3 : f36 3 = (.slice A3 (mm.take 250).length c3) := (ho36 3 rfl).trans s17_3
            have d36_11 : f36 72 = (.bool (decide ((((l.take 250)[i]!).signer) = (((mm.take 250)[k]!).signer)))) := hd36 11 rfl
            exact D.guardv (wanted_yes rfl rfl d36_11) (fun hg => (op_move rfl d36_s3))
          · intro f37 w37 hx37 ho37 hd37
            have d37_s15 : f37 15 = (.int .i64 ((k : Nat) : Int)) := (ho37 15 rfl).trans s17_15
            have d37_11 : f37 72 = (.bool (decide ((((l.take 250)[i]!).signer) = (((mm.take 250)[k]!).signer)))) := hd37 11 rfl
            exact D.guardv (wanted_yes rfl rfl d37_11) (fun hg => (op_move rfl d37_s15))
          · intro f38 w38 hx38 ho38 hd38
            have d38_11 : f38 72 = (.bool (decide ((((l.take 250)[i]!).signer) = (((mm.take 250)[k]!).signer)))) := hd38 11 rfl
            have d38_16 : f38 77 = (vif (decide ((((l.take 250)[i]!).signer) = (((mm.take 250)[k]!).signer))) (.slice A3 (mm.take 250).length c3)) := hd38 16 rfl
            have d38_17 : f38 78 = (vif (decide ((((l.take 250)[i]!).signer) = (((mm.take 250)[k]!).signer))) (.int .i64 ((k : Nat) : Int))) := hd38 17 rfl
            have hR_l := hR_l.ext hx38
            have hR_mm := hR_mm.ext hx38
            have hB1 := hB1.ext hx38
            have hR2 := hR2.ext hx38
            have hR3 := hR3.ext hx38
            have hR4 := hR4.ext hx38
            have hR5 := hR5.ext hx38
            have hR8 := hR8.ext hx38
            have hR9 := hR9.ext hx38
            exact D.guardv (wanted_yes rfl rfl d38_11) (fun hg => by have hp := hg; (try simp only [Bool.and_eq_true, Bool.or_eq_true, Bool.not_eq_true', decide_eq_true_eq, decide_eq_false_iff_not, bne_iff_ne, beq_iff_eq] at hp); skip; exact (op_index (k := k) rfl ((show _ = vif _ (.slice A3 (mm.take 250).length c3) from d38_16).trans (vif_t hg).symm) ((show _ = vif _ (.int .i64 ((k : Nat) : Int)) from d38_17).trans (vif_t hg).symm) sl25 (hR3.getA (get_bang (l := mm.take 250) (k := k) (by omega))).1 rfl (by omega) rfl))
          · intro f39 w39 hx39 ho39 hd39
            have d39_11 : f39 72 = (.bool (decide ((((l.take 250)[i]!).signer) = (((mm.take 250)[k]!).signer)))) := hd39 11 rfl
            have d39_18 : f39 79 = (vif (decide ((((l.take 250)[i]!).signer) = (((mm.take 250)[k]!).signer))) (.pointer (some ((adr A3).add (k * 22))))) := hd39 18 rfl
            have hR_l := hR_l.ext hx39
            have hR_mm := hR_mm.ext hx39
            have hB1 := hB1.ext hx39
            have hR2 := hR2.ext hx39
            have hR3 := hR3.ext hx39
            have hR4 := hR4.ext hx39
            have hR5 := hR5.ext hx39
            have hR8 := hR8.ext hx39
            have hR9 := hR9.ext hx39
            exact D.guardv (wanted_yes rfl rfl d39_11) (fun hg => by have hp := hg; (try simp only [Bool.and_eq_true, Bool.or_eq_true, Bool.not_eq_true', decide_eq_true_eq, decide_eq_false_iff_not, bne_iff_ne, beq_iff_eq] at hp); skip; exact (op_load (v := (mm.take 250)[k]!) rfl ((show _ = vif _ (.pointer (some ((adr A3).add (k * 22)))) from d39_18).trans (vif_t hg).symm) ty28 (hR3.getA (get_bang (l := mm.take 250) (k := k) (by omega))).2))
          · intro f40 w40 hx40 ho40 hd40
            have d40_11 : f40 72 = (.bool (decide ((((l.take 250)[i]!).signer) = (((mm.take 250)[k]!).signer)))) := hd40 11 rfl
            have d40_15 : f40 76 = (vif (decide ((((l.take 250)[i]!).signer) = (((mm.take 250)[k]!).signer))) (Enc.val ((l.take 250)[i]!))) := hd40 15 rfl
            have d40_19 : f40 80 = (vif (decide ((((l.take 250)[i]!).signer) = (((mm.take 250)[k]!).signer))) (Enc.val ((mm.take 250)[k]!))) := hd40 19 rfl
            have hR_l := hR_l.ext hx40
            have hR_mm := hR_mm.ext hx40
            have hB1 := hB1.ext hx40
            have hR2 := hR2.ext hx40
            have hR3 := hR3.ext hx40
            have hR4 := hR4.ext hx40
            have hR5 := hR5.ext hx40
            have hR8 := hR8.ext hx40
            have hR9 := hR9.ext hx40
            exact D.guardc (wanted_yes rfl rfl d40_11) (fun hg => (OpS.call (op_call rfl (argsC ((show _ = vif _ (Enc.val ((l.take 250)[i]!)) from d40_15).trans (vif_t hg).symm) (argsC ((show _ = vif _ (Enc.val ((mm.take 250)[k]!)) from d40_19).trans (vif_t hg).symm) argsN)) Try.func38 rfl rfl) Conflict_ok))
          · intro f41 w41 hx41 ho41 hd41
            have d41_11 : f41 72 = (.bool (decide ((((l.take 250)[i]!).signer) = (((mm.take 250)[k]!).signer)))) := hd41 11 rfl
            have d41_20 : f41 81 = (vif (decide ((((l.take 250)[i]!).signer) = (((mm.take 250)[k]!).signer))) (.bool (conflict_f ((l.take 250)[i]!) ((mm.take 250)[k]!)))) := hd41 20 rfl
            exact D.val rfl (op_and rfl d41_11 d41_20 rfl)
          intro f42 w42 hx42 ho42 hr42
          have s0 : f42 0 = (.int .i64 m) := (ho42 0 rfl).trans s17_0
          have s2 : f42 2 = (.slice A2 (l.take 250).length c2) := (ho42 2 rfl).trans s17_2
          have s3 : f42 3 = (.slice A3 (mm.take 250).length c3) := (ho42 3 rfl).trans s17_3
          have s8 : f42 8 = (.bool false) := (ho42 8 rfl).trans s17_8
          have s13 : f42 13 = (.int .i64 t2) := (ho42 13 rfl).trans s17_13
          have s14 : f42 14 = (.int .i64 ((i : Nat) : Int)) := (ho42 14 rfl).trans s17_14
          have s15 : f42 15 = (.int .i64 ((k : Nat) : Int)) := (ho42 15 rfl).trans s17_15
          have s52 : f42 52 = (.bool (decide (((i : Nat) : Int) < ((l.take 250).length : Int)))) := (ho42 52 rfl).trans s17_52
          have s58 : f42 58 = (.bool (decide (((k : Nat) : Int) < ((mm.take 250).length : Int)))) := ho42 58 rfl
          have s82 : f42 82 = (.bool ((decide ((((l.take 250)[i]!).signer) = (((mm.take 250)[k]!).signer))) && (conflict_f ((l.take 250)[i]!) ((mm.take 250)[k]!)))) := hr42 21 (by decide)
          have hE := hE.trans hx42
          have hS13 := hS13.trans hx42
          have hS16 := hS16.trans hx42
          have hR_l := hR_l.ext hx42
          have hR_mm := hR_mm.ext hx42
          have hB1 := hB1.ext hx42
          have hR2 := hR2.ext hx42
          have hR3 := hR3.ext hx42
          have hR4 := hR4.ext hx42
          have hR5 := hR5.ext hx42
          have hR8 := hR8.ext hx42
          have hR9 := hR9.ext hx42
          refine thenF_nor ?_
          refine W.cond (t := (decide ((((l.take 250)[i]!).signer) = (((mm.take 250)[k]!).signer))) && (conflict_f ((l.take 250)[i]!) ((mm.take 250)[k]!))) s82 (fun hc43 => ?_) (fun hc43 => ?_)
          · have hp43 := hc43
            simp only [Bool.and_eq_true, Bool.or_eq_true, Bool.and_eq_false_iff, Bool.or_eq_false_iff, Bool.not_eq_true', Bool.not_eq_false', decide_eq_true_eq, decide_eq_false_iff_not] at hp43
            have hcc := hc43
            have hrg := conflict_range (x := (l.take 250)[i]!) (y := (mm.take 250)[k]!) (by have h0 := hcc; simp only [Bool.and_eq_true] at h0; exact h0.2)
            refine W.region (by rfl) ?_
            refine L.val rfl (op_move rfl s13) ?_
            refine L.val rfl (op_move rfl s2) ?_
            refine L.val rfl (op_move rfl s14) ?_
            refine L.val rfl (op_index (k := i) rfl rfl rfl sl25 (hR2.getA (get_bang (l := l.take 250) (k := i) (by omega))).1 rfl (by omega) rfl) ?_
            refine L.val rfl (op_field rfl rfl fo28_4 rfl) ?_
            refine L.val rfl (op_load1 rfl rfl one3 ((hR2.getA (get_bang (l := l.take 250) (k := i) (by omega))).2.one (n := 4) rfl)) ?_
            refine L.val rfl (op_conv rfl rfl (by kernel_rfl) Try.underlying60) ?_
            refine L.val rfl (op_shlu rfl rfl rfl (by omega) (by omega)) ?_
            refine L.val rfl (op_ior rfl rfl rfl) ?_
            refine L.val rfl (op_assign rfl rfl) ?_
            refine L.nil ?_
            refine blockF_nor ?_
            refine thenF_nor ?_
            refine W.region (by rfl) ?_
            refine L.val rfl (op_move rfl s15) ?_
            refine L.val rfl (op_add (c := ((k + 1 : Nat) : Int)) rfl rfl rfl (by omega) (by omega)) ?_
            refine L.val rfl (op_assign rfl rfl) ?_
            refine L.nil ?_
            refine thenF_nor ?_
            exact ⟨(k + 1, ior t2 (ishl 1 (((l.take 250)[i]!).signer))), ⟨(by (try dsimp only); omega), (by dsimp only; rw [fold_go (by omega), hst]; unfold torn17Step; rw [hcc]; rfl), s0, s2, s3, s8, s14, s52, rfl, rfl, hS16⟩, (by (try dsimp only); omega)⟩
          · have hp43 := hc43
            simp only [Bool.and_eq_true, Bool.or_eq_true, Bool.and_eq_false_iff, Bool.or_eq_false_iff, Bool.not_eq_true', Bool.not_eq_false', decide_eq_true_eq, decide_eq_false_iff_not] at hp43
            have hcc := hc43
            refine W.skip ?_
            refine blockF_nor ?_
            refine thenF_nor ?_
            refine W.region (by rfl) ?_
            refine L.val rfl (op_move rfl s15) ?_
            refine L.val rfl (op_add (c := ((k + 1 : Nat) : Int)) rfl rfl rfl (by omega) (by omega)) ?_
            refine L.val rfl (op_assign rfl rfl) ?_
            refine L.nil ?_
            refine thenF_nor ?_
            exact ⟨(k + 1, t2), ⟨(by (try dsimp only); omega), (by dsimp only; rw [fold_go (by omega), hst]; unfold torn17Step; rw [hcc]; rfl), s0, s2, s3, s8, s14, s52, rfl, s13, hS16⟩, (by (try dsimp only); omega)⟩
        · have hp18 := hc18
          simp only [Bool.and_eq_true, Bool.or_eq_true, Bool.and_eq_false_iff, Bool.or_eq_false_iff, Bool.not_eq_true', Bool.not_eq_false', decide_eq_true_eq, decide_eq_false_iff_not] at hp18
          have hkl : k = (mm.take 250).length := by omega
          rw [hkl, List.take_length] at hst
          refine W.exit ?_
          refine thenF_exit ?_
          refine thenF_exit ?_
          refine blockF_hit ?_
          refine blockF_nor ?_
          refine thenF_nor ?_
          refine W.region (by rfl) ?_
          refine L.val rfl (op_move rfl s17_14) ?_
          refine L.val rfl (op_add (c := ((i + 1 : Nat) : Int)) rfl rfl rfl (by omega) (by omega)) ?_
          refine L.val rfl (op_assign rfl rfl) ?_
          refine L.nil ?_
          refine thenF_nor ?_
          exact ⟨(i + 1, t2), ⟨(by (try dsimp only); omega), (by dsimp only; rw [fold_go (by omega), hti]; exact hst), s17_0, s17_2, s17_3, s17_8, rfl, s17_13, hS13⟩, (by (try dsimp only); omega)⟩
      · have hp15 := hc15
        simp only [Bool.and_eq_true, Bool.or_eq_true, Bool.and_eq_false_iff, Bool.or_eq_false_iff, Bool.not_eq_true', Bool.not_eq_false', decide_eq_true_eq, decide_eq_false_iff_not] at hp15
        have hil : i = (l.take 250).length := by omega
        rw [hil, List.take_length] at hti
        refine W.exit ?_
        refine thenF_exit ?_
        refine thenF_exit ?_
        refine blockF_hit ?_
        refine thenF_nor ?_
        refine W.seq ?_
        refine W.region (by rfl) ?_
        refine L.val rfl (op_move rfl s14_0) ?_
        refine L.call (v := (.int .i64 (size_f m))) rfl (OpS.call (op_call rfl (argsC rfl argsN) Try.func29 rfl rfl) Size_ok) ?_
        intro w44 hx44
        have hE := hE.trans hx44
        have hS13 := hS13.trans hx44
        have hR_l := hR_l.ext hx44
        have hR_mm := hR_mm.ext hx44
        have hB1 := hB1.ext hx44
        have hR2 := hR2.ext hx44
        have hR3 := hR3.ext hx44
        have hR4 := hR4.ext hx44
        have hR5 := hR5.ext hx44
        have hR8 := hR8.ext hx44
        have hR9 := hR9.ext hx44
        refine L.val rfl (op_assign rfl rfl) ?_
        refine L.nil ?_
        refine thenF_nor ?_
        refine W.seq ?_
        refine W.region (by rfl) ?_
        refine L.val rfl (op_move rfl s14_13) ?_
        refine L.val rfl (op_move rfl s14_0) ?_
        refine L.val rfl (op_iand rfl rfl rfl) ?_
        refine L.call (v := (.int .i64 (size_f (iand t m)))) rfl (OpS.call (op_call rfl (argsC rfl argsN) Try.func29 rfl rfl) Size_ok) ?_
        intro w45 hx45
        have hE := hE.trans hx45
        have hS13 := hS13.trans hx45
        have hR_l := hR_l.ext hx45
        have hR_mm := hR_mm.ext hx45
        have hB1 := hB1.ext hx45
        have hR2 := hR2.ext hx45
        have hR3 := hR3.ext hx45
        have hR4 := hR4.ext hx45
        have hR5 := hR5.ext hx45
        have hR8 := hR8.ext hx45
        have hR9 := hR9.ext hx45
        refine L.val rfl (op_move rfl rfl) ?_
        refine L.call (v := (.int .i64 (quorum_f (size_f m)))) rfl (OpS.call (op_call rfl (argsC rfl argsN) Try.func31 rfl rfl) (Quorum_ok (by first | omega | (simp only [List.length_drop, List.length_take, List.length_append, List.length_cons, List.length_nil] at *; omega)) (by first | omega | (simp only [List.length_drop, List.length_take, List.length_append, List.length_cons, List.length_nil] at *; omega)))) ?_
        intro w46 hx46
        have hE := hE.trans hx46
        have hS13 := hS13.trans hx46
        have hR_l := hR_l.ext hx46
        have hR_mm := hR_mm.ext hx46
        have hB1 := hB1.ext hx46
        have hR2 := hR2.ext hx46
        have hR3 := hR3.ext hx46
        have hR4 := hR4.ext hx46
        have hR5 := hR5.ext hx46
        have hR8 := hR8.ext hx46
        have hR9 := hR9.ext hx46
        refine L.val rfl (op_mul rfl rfl rfl rfl (by omega)) ?_
        refine L.val rfl (op_move rfl rfl) ?_
        refine L.val rfl (op_sub rfl rfl rfl rfl (by omega)) ?_
        refine L.val rfl (op_geq rfl rfl rfl) ?_
        refine L.val rfl (op_move rfl rfl) ?_
        refine L.guardv (v := (.int .i64 t)) (wanted_yes rfl rfl rfl) (fun hg => (op_move rfl s14_13)) ?_
        refine L.guardv (v := (.int .i64 m)) (wanted_yes rfl rfl rfl) (fun hg => (op_move rfl s14_0)) ?_
        refine L.guardv (v := (.int .i64 (iand t m))) (wanted_yes rfl rfl rfl) (fun hg => (op_iand rfl ((show _ = vif _ (.int .i64 t) from rfl).trans (vif_t hg).symm) ((show _ = vif _ (.int .i64 m) from rfl).trans (vif_t hg).symm))) ?_
        refine L.guardc (v := (.int .i64 (size_f (iand t m)))) (wanted_yes rfl rfl rfl) (fun hg => (OpS.call (op_call rfl (argsC ((show _ = vif _ (.int .i64 (iand t m)) from rfl).trans (vif_t hg).symm) argsN) Try.func29 rfl rfl) Size_ok)) ?_
        intro w47 hx47
        have hE := hE.trans hx47
        have hS13 := hS13.trans hx47
        have hR_l := hR_l.ext hx47
        have hR_mm := hR_mm.ext hx47
        have hB1 := hB1.ext hx47
        have hR2 := hR2.ext hx47
        have hR3 := hR3.ext hx47
        have hR4 := hR4.ext hx47
        have hR5 := hR5.ext hx47
        have hR8 := hR8.ext hx47
        have hR9 := hR9.ext hx47
        refine L.guardv (v := (.int .i64 (size_f m))) (wanted_yes rfl rfl rfl) (fun hg => (op_move rfl rfl)) ?_
        refine L.guardc (v := (.int .i64 (third_f (size_f m)))) (wanted_yes rfl rfl rfl) (fun hg => by have hp := hg; (try simp only [Bool.and_eq_true, Bool.or_eq_true, Bool.not_eq_true', decide_eq_true_eq, decide_eq_false_iff_not, bne_iff_ne, beq_iff_eq] at hp); exact (OpS.call (op_call rfl (argsC ((show _ = vif _ (.int .i64 (size_f m)) from rfl).trans (vif_t hg).symm) argsN) Try.func37 rfl rfl) (Third_ok (by first | omega | (simp only [List.length_drop, List.length_take, List.length_append, List.length_cons, List.length_nil] at *; omega)) (by first | omega | (simp only [List.length_drop, List.length_take, List.length_append, List.length_cons, List.length_nil] at *; omega))))) ?_
        intro w48 hx48
        have hE := hE.trans hx48
        have hS13 := hS13.trans hx48
        have hR_l := hR_l.ext hx48
        have hR_mm := hR_mm.ext hx48
        have hB1 := hB1.ext hx48
        have hR2 := hR2.ext hx48
        have hR3 := hR3.ext hx48
        have hR4 := hR4.ext hx48
        have hR5 := hR5.ext hx48
        have hR8 := hR8.ext hx48
        have hR9 := hR9.ext hx48
        refine L.guardv (v := (.bool (decide ((third_f (size_f m)) ≤ (size_f (iand t m)))))) (wanted_yes rfl rfl rfl) (fun hg => (op_geq rfl ((show _ = vif _ (.int .i64 (size_f (iand t m))) from rfl).trans (vif_t hg).symm) ((show _ = vif _ (.int .i64 (third_f (size_f m))) from rfl).trans (vif_t hg).symm))) ?_
        refine L.val rfl (op_and rfl rfl rfl rfl) ?_
        refine L.val rfl (op_move rfl rfl) ?_
        refine L.guardc (v := (.bool true)) (wanted_yes rfl rfl rfl) (fun hg => (OpS.call (op_call rfl argsN Try.func43 rfl rfl) awake17_ok)) ?_
        intro w49 hx49
        have hE := hE.trans hx49
        have hS13 := hS13.trans hx49
        have hR_l := hR_l.ext hx49
        have hR_mm := hR_mm.ext hx49
        have hB1 := hB1.ext hx49
        have hR2 := hR2.ext hx49
        have hR3 := hR3.ext hx49
        have hR4 := hR4.ext hx49
        have hR5 := hR5.ext hx49
        have hR8 := hR8.ext hx49
        have hR9 := hR9.ext hx49
        refine L.val rfl (op_and rfl rfl rfl rfl) ?_
        refine L.val rfl (op_assign rfl rfl) ?_
        refine L.nil ?_
        refine thenF_nor ?_
        refine W.ret ?_
        exact end_ret1 (v := (.bool (((decide (((2 * (quorum_f (size_f m))) - (size_f m)) ≤ (size_f (iand t m)))) && (decide ((third_f (size_f m)) ≤ (size_f (iand t m))))) && true))) rfl rfl ⟨(by have hacc := accounts17 (m := m) (parent := parent) (l := (l.take 250)) (mm := (mm.take 250)) hd.1 hd.2 hne; rw [show torn17_f (l.take 250) (mm.take 250) = t from hti] at hacc; rw [hacc.1, hacc.2]; rfl), hE⟩

end Go.Proofs.Ytdknjfmjddlphaa
