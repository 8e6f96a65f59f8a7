/-
  Contracts of functions of the program, each with its walk in the logic of frames. Printed by a program of this session (wip/gen) from the translation.
-/
import Derived.Test.YtdknjfmjddlphaaGC4
import Derived.Test.YtdknjfmjddlphaaDrawX
import Derived.Test.YtdknjfmjddlphaaCert6
set_option linter.unusedSimpArgs false
set_option linter.unusedVariables false
namespace Go.Proofs.Ytdknjfmjddlphaa
open Go Go.Fk

set_option maxRecDepth 100000 in
theorem cut13_ok {A_l : Option Addr} {c_l lo_l hi_l : Nat} {l : List Vt}  {w : World} (hR_l : Rd w lo_l hi_l A_l l) (hcap_l : l.length ≤ c_l) : Gives Try.prog 46 #[(.slice A_l l.length c_l)] w fun u w' => SlR w' u (l.take 250 : List Vt) ∧ Ext w w' := by
  have hE : Ext w w := Ext.refl w
  have hlen_l := hR_l.len
  refine gives_of_W Try.func46 rfl Try.ntmps46 rfl ?_
  refine W.seq ?_
  refine W.region (by rfl) ?_
  refine L.val rfl (op_assign rfl rfl) ?_
  refine L.nil ?_
  refine thenF_nor ?_
  refine W.seq ?_
  refine W.seq ?_
  refine W.region (by rfl) ?_
  refine L.val rfl (op_move rfl rfl) ?_
  refine L.val rfl (op_len rfl rfl ln25) ?_
  refine L.val rfl (op_gtr rfl rfl rfl) ?_
  refine L.nil ?_
  refine thenF_nor ?_
  refine W.cond (t := decide (250 < (l.length : Int))) rfl (fun hc1 => ?_) (fun hc1 => ?_)
  · have hp1 := hc1
    simp only [Bool.and_eq_true, Bool.or_eq_true, Bool.and_eq_false_iff, Bool.or_eq_false_iff, Bool.not_eq_true', Bool.not_eq_false', decide_eq_true_eq, decide_eq_false_iff_not] at hp1
    refine W.seq ?_
    refine W.region (by rfl) ?_
    refine L.val rfl (op_move rfl rfl) ?_
    refine L.step rfl (op_slr_h (k := 250) sl25 rfl rfl rfl (by omega) hcap_l hR_l) ?_
    rintro _ w2 ⟨⟨A2, c2, lo2, hi2, rfl, hcap2, hR2⟩, hx2⟩
    have hE := hE.trans hx2
    have hR_l := hR_l.ext hx2
    have hlen2 := hR2.len
    refine L.val rfl (op_assign rfl rfl) ?_
    refine L.nil ?_
    refine thenF_nor ?_
    refine W.ret ?_
    refine thenF_ret ?_
    exact end_ret1 (v := (.slice A2 (l.take 250).length c2)) rfl rfl ⟨(⟨_, _, _, _, rfl, hcap2, hR2⟩ : SlR _ _ _), hE⟩
  · have hp1 := hc1
    simp only [Bool.and_eq_true, Bool.or_eq_true, Bool.and_eq_false_iff, Bool.or_eq_false_iff, Bool.not_eq_true', Bool.not_eq_false', decide_eq_true_eq, decide_eq_false_iff_not] at hp1
    refine W.skip ?_
    refine thenF_nor ?_
    refine W.seq ?_
    refine W.region (by rfl) ?_
    refine L.val rfl (op_move rfl rfl) ?_
    refine L.val rfl (op_assign rfl rfl) ?_
    refine L.nil ?_
    refine thenF_nor ?_
    refine W.ret ?_
    exact end_ret1 (v := (.slice A_l l.length c_l)) rfl rfl ⟨(by rw [List.take_of_length_le (by omega)]; exact (⟨_, _, _, _, rfl, hcap_l, hR_l⟩ : SlR _ _ _)), hE⟩

set_option maxRecDepth 100000 in
theorem awake13_ok   {w : World}  : Gives Try.prog 51 #[] w fun u w' => u = (.bool true) ∧ Ext w w' := by
  have hE : Ext w w := Ext.refl w
  refine gives_of_W Try.func51 rfl Try.ntmps51 rfl ?_
  refine W.seq ?_
  refine W.region (by rfl) ?_
  refine L.val (v := (.bool false)) rfl (op_assign rfl rfl) ?_
  refine L.nil ?_
  refine thenF_nor ?_
  refine W.seq ?_
  refine W.region (by rfl) ?_
  refine L.val rfl (op_build (v := Enc.val (⟨3, 0, 1, 0, 0, 0, Nm.zero, Nm.zero⟩ : Vt)) (cs := Enc.cells (⟨3, 0, 1, 0, 0, 0, Nm.zero, Nm.zero⟩ : Vt)) rfl (partsC rfl (partsC rfl partsN)) (by kernel_rfl) rfl) ?_
  refine L.newvar (v := (Enc.val (⟨3, 0, 1, 0, 0, 0, Nm.zero, Nm.zero⟩ : Vt))) (cs := (Enc.cells (⟨3, 0, 1, 0, 0, 0, Nm.zero, Nm.zero⟩ : Vt))) rfl rfl rfl rfl rfl rfl (fun _ => rfl) rfl si28 zs28 (Enc.one _) ?_
  intro b1 w1 hb1 hB1 hx1
  have hbb1_hE := Nat.le_trans hE.size hb1
  have hE := hE.trans hx1
  refine L.nil ?_
  refine thenF_nor ?_
  refine W.seq ?_
  refine W.region (by rfl) ?_
  refine L.val rfl (op_build (v := Enc.val (⟨4, 0, 1, 0, 0, 1, Nm.zero, Nm.zero⟩ : Vt)) (cs := Enc.cells (⟨4, 0, 1, 0, 0, 1, Nm.zero, Nm.zero⟩ : Vt)) rfl (partsC rfl (partsC rfl (partsC rfl partsN))) (by kernel_rfl) rfl) ?_
  refine L.newvar (v := (Enc.val (⟨4, 0, 1, 0, 0, 1, Nm.zero, Nm.zero⟩ : Vt))) (cs := (Enc.cells (⟨4, 0, 1, 0, 0, 1, Nm.zero, Nm.zero⟩ : Vt))) rfl rfl rfl rfl rfl rfl (fun _ => rfl) rfl si28 zs28 (Enc.one _) ?_
  intro b2 w2 hb2 hB2 hx2
  have hbb2_hE := Nat.le_trans hE.size hb2
  have hE := hE.trans hx2
  have hB1 := hB1.ext hx2
  refine L.nil ?_
  refine thenF_nor ?_
  refine W.seq ?_
  refine W.region (by rfl) ?_
  refine L.val rfl (op_build (v := Enc.val (⟨0, 1, 0, Nm.zero⟩ : Oc)) (cs := Enc.cells (⟨0, 1, 0, Nm.zero⟩ : Oc)) rfl (partsC rfl partsN) (by kernel_rfl) rfl) ?_
  refine L.newvar (v := (Enc.val (⟨0, 1, 0, Nm.zero⟩ : Oc))) (cs := (Enc.cells (⟨0, 1, 0, Nm.zero⟩ : Oc))) rfl rfl rfl rfl rfl rfl (fun _ => rfl) rfl si49 zs49 (Enc.one _) ?_
  intro b3 w3 hb3 hB3 hx3
  have hbb3_hE := Nat.le_trans hE.size hb3
  have hE := hE.trans hx3
  have hB1 := hB1.ext hx3
  have hB2 := hB2.ext hx3
  refine L.nil ?_
  refine thenF_nor ?_
  refine W.seq ?_
  refine W.region (by rfl) ?_
  refine L.val rfl (op_build (v := Enc.val (Nm.zero : Nm)) (cs := Enc.cells (Nm.zero : Nm)) rfl partsN (by kernel_rfl) rfl) ?_
  refine L.val rfl (op_load (v := (⟨3, 0, 1, 0, 0, 0, Nm.zero, Nm.zero⟩ : Vt)) rfl rfl ty28 hB1.cells) ?_
  refine L.val rfl (op_load (v := (⟨4, 0, 1, 0, 0, 1, Nm.zero, Nm.zero⟩ : Vt)) rfl rfl ty28 hB2.cells) ?_
  refine L.step rfl (op_sliceL ([(⟨3, 0, 1, 0, 0, 0, Nm.zero, Nm.zero⟩ : Vt), (⟨4, 0, 1, 0, 0, 1, Nm.zero, Nm.zero⟩ : Vt)] : List Vt) rfl (partsC rfl (partsC rfl partsN)) sl25 zs28 rfl (by decide) (by decide)) ?_
  rintro _ w4 ⟨b4, rfl, hb4, hR4, hx4⟩
  have hE := hE.trans hx4
  have hB1 := hB1.ext hx4
  have hB2 := hB2.ext hx4
  have hB3 := hB3.ext hx4
  have hlen4 := hR4.len
  refine L.val rfl (op_load (v := (⟨0, 1, 0, Nm.zero⟩ : Oc)) rfl rfl ty49 hB3.cells) ?_
  refine L.step rfl (OpS.call (op_call rfl (argsC rfl (argsC rfl (argsC rfl (argsC rfl argsN)))) Try.func47 rfl rfl) (Closure_ok hR4 (by first | omega | (simp only [List.length_drop, List.length_take, List.length_append, List.length_cons, List.length_nil] at *; omega)))) ?_
  rintro _ w5 ⟨⟨u5, rfl, A5, c5, lo5, hi5, rfl, hcap5, hR5⟩, hx5⟩
  have hE := hE.trans hx5
  have hB1 := hB1.ext hx5
  have hB2 := hB2.ext hx5
  have hB3 := hB3.ext hx5
  have hR4 := hR4.ext hx5
  have hlen5 := hR5.len
  refine L.val rfl (op_move rfl rfl) ?_
  refine L.val rfl (op_extract rfl rfl rfl) ?_
  refine L.val rfl (op_extract rfl rfl rfl) ?_
  refine L.val rfl (op_assign rfl rfl) ?_
  refine L.val rfl (op_assign rfl rfl) ?_
  refine L.nil ?_
  refine thenF_nor ?_
  refine W.seq ?_
  refine W.drawS [Sp.eq (.bool (decided_f 1 Nm.zero ([(⟨3, 0, 1, 0, 0, 0, Nm.zero, Nm.zero⟩ : Vt), (⟨4, 0, 1, 0, 0, 1, Nm.zero, Nm.zero⟩ : Vt)] : List Vt) (⟨0, 1, 0, Nm.zero⟩ : Oc))), Sp.eq (.bool (decided_f 1 Nm.zero ([(⟨3, 0, 1, 0, 0, 0, Nm.zero, Nm.zero⟩ : Vt), (⟨4, 0, 1, 0, 0, 1, Nm.zero, Nm.zero⟩ : Vt)] : List Vt) (⟨0, 1, 0, Nm.zero⟩ : Oc))), Sp.eq (vif (decided_f 1 Nm.zero ([(⟨3, 0, 1, 0, 0, 0, Nm.zero, Nm.zero⟩ : Vt), (⟨4, 0, 1, 0, 0, 1, Nm.zero, Nm.zero⟩ : Vt)] : List Vt) (⟨0, 1, 0, Nm.zero⟩ : Oc)) (.slice A5 (closure_f 1 Nm.zero ([(⟨3, 0, 1, 0, 0, 0, Nm.zero, Nm.zero⟩ : Vt), (⟨4, 0, 1, 0, 0, 1, Nm.zero, Nm.zero⟩ : Vt)] : List Vt) (⟨0, 1, 0, Nm.zero⟩ : Oc)).length c5)), Sp.eq (vif (decided_f 1 Nm.zero ([(⟨3, 0, 1, 0, 0, 0, Nm.zero, Nm.zero⟩ : Vt), (⟨4, 0, 1, 0, 0, 1, Nm.zero, Nm.zero⟩ : Vt)] : List Vt) (⟨0, 1, 0, Nm.zero⟩ : Oc)) (.int .i64 ((closure_f 1 Nm.zero ([(⟨3, 0, 1, 0, 0, 0, Nm.zero, Nm.zero⟩ : Vt), (⟨4, 0, 1, 0, 0, 1, Nm.zero, Nm.zero⟩ : Vt)] : List Vt) (⟨0, 1, 0, Nm.zero⟩ : Oc)).length : Int))), Sp.eq (vif (decided_f 1 Nm.zero ([(⟨3, 0, 1, 0, 0, 0, Nm.zero, Nm.zero⟩ : Vt), (⟨4, 0, 1, 0, 0, 1, Nm.zero, Nm.zero⟩ : Vt)] : List Vt) (⟨0, 1, 0, Nm.zero⟩ : Oc)) (.bool (decide (((closure_f 1 Nm.zero ([(⟨3, 0, 1, 0, 0, 0, Nm.zero, Nm.zero⟩ : Vt), (⟨4, 0, 1, 0, 0, 1, Nm.zero, Nm.zero⟩ : Vt)] : List Vt) (⟨0, 1, 0, Nm.zero⟩ : Oc)).length : Int) = 2)))), Sp.eq (.bool ((decided_f 1 Nm.zero ([(⟨3, 0, 1, 0, 0, 0, Nm.zero, Nm.zero⟩ : Vt), (⟨4, 0, 1, 0, 0, 1, Nm.zero, Nm.zero⟩ : Vt)] : List Vt) (⟨0, 1, 0, Nm.zero⟩ : Oc)) && (decide (((closure_f 1 Nm.zero ([(⟨3, 0, 1, 0, 0, 0, Nm.zero, Nm.zero⟩ : Vt), (⟨4, 0, 1, 0, 0, 1, Nm.zero, Nm.zero⟩ : Vt)] : List Vt) (⟨0, 1, 0, Nm.zero⟩ : Oc)).length : Int) = 2)))), Sp.eq (.bool ((decided_f 1 Nm.zero ([(⟨3, 0, 1, 0, 0, 0, Nm.zero, Nm.zero⟩ : Vt), (⟨4, 0, 1, 0, 0, 1, Nm.zero, Nm.zero⟩ : Vt)] : List Vt) (⟨0, 1, 0, Nm.zero⟩ : Oc)) && (decide (((closure_f 1 Nm.zero ([(⟨3, 0, 1, 0, 0, 0, Nm.zero, Nm.zero⟩ : Vt), (⟨4, 0, 1, 0, 0, 1, Nm.zero, Nm.zero⟩ : Vt)] : List Vt) (⟨0, 1, 0, Nm.zero⟩ : Oc)).length : Int) = 2)))), Sp.eq (vif ((decided_f 1 Nm.zero ([(⟨3, 0, 1, 0, 0, 0, Nm.zero, Nm.zero⟩ : Vt), (⟨4, 0, 1, 0, 0, 1, Nm.zero, Nm.zero⟩ : Vt)] : List Vt) (⟨0, 1, 0, Nm.zero⟩ : Oc)) && (decide (((closure_f 1 Nm.zero ([(⟨3, 0, 1, 0, 0, 0, Nm.zero, Nm.zero⟩ : Vt), (⟨4, 0, 1, 0, 0, 1, Nm.zero, Nm.zero⟩ : Vt)] : List Vt) (⟨0, 1, 0, Nm.zero⟩ : Oc)).length : Int) = 2))) (Enc.val (Nm.zero : Nm))), Sp.eq (vif ((decided_f 1 Nm.zero ([(⟨3, 0, 1, 0, 0, 0, Nm.zero, Nm.zero⟩ : Vt), (⟨4, 0, 1, 0, 0, 1, Nm.zero, Nm.zero⟩ : Vt)] : List Vt) (⟨0, 1, 0, Nm.zero⟩ : Oc)) && (decide (((closure_f 1 Nm.zero ([(⟨3, 0, 1, 0, 0, 0, Nm.zero, Nm.zero⟩ : Vt), (⟨4, 0, 1, 0, 0, 1, Nm.zero, Nm.zero⟩ : Vt)] : List Vt) (⟨0, 1, 0, Nm.zero⟩ : Oc)).length : Int) = 2))) (.slice A5 (closure_f 1 Nm.zero ([(⟨3, 0, 1, 0, 0, 0, Nm.zero, Nm.zero⟩ : Vt), (⟨4, 0, 1, 0, 0, 1, Nm.zero, Nm.zero⟩ : Vt)] : List Vt) (⟨0, 1, 0, Nm.zero⟩ : Oc)).length c5)), Sp.eq (vif ((decided_f 1 Nm.zero ([(⟨3, 0, 1, 0, 0, 0, Nm.zero, Nm.zero⟩ : Vt), (⟨4, 0, 1, 0, 0, 1, Nm.zero, Nm.zero⟩ : Vt)] : List Vt) (⟨0, 1, 0, Nm.zero⟩ : Oc)) && (decide (((closure_f 1 Nm.zero ([(⟨3, 0, 1, 0, 0, 0, Nm.zero, Nm.zero⟩ : Vt), (⟨4, 0, 1, 0, 0, 1, Nm.zero, Nm.zero⟩ : Vt)] : List Vt) (⟨0, 1, 0, Nm.zero⟩ : Oc)).length : Int) = 2))) (Enc.val (⟨0, 1, 0, Nm.zero⟩ : Oc))), Sp.eq (vif ((decided_f 1 Nm.zero ([(⟨3, 0, 1, 0, 0, 0, Nm.zero, Nm.zero⟩ : Vt), (⟨4, 0, 1, 0, 0, 1, Nm.zero, Nm.zero⟩ : Vt)] : List Vt) (⟨0, 1, 0, Nm.zero⟩ : Oc)) && (decide (((closure_f 1 Nm.zero ([(⟨3, 0, 1, 0, 0, 0, Nm.zero, Nm.zero⟩ : Vt), (⟨4, 0, 1, 0, 0, 1, Nm.zero, Nm.zero⟩ : Vt)] : List Vt) (⟨0, 1, 0, Nm.zero⟩ : Oc)).length : Int) = 2))) (.bool (decided_f 1 Nm.zero (closure_f 1 Nm.zero ([(⟨3, 0, 1, 0, 0, 0, Nm.zero, Nm.zero⟩ : Vt), (⟨4, 0, 1, 0, 0, 1, Nm.zero, Nm.zero⟩ : Vt)] : List Vt) (⟨0, 1, 0, Nm.zero⟩ : Oc)) (⟨0, 1, 0, Nm.zero⟩ : Oc)))), Sp.eq (.bool (((decided_f 1 Nm.zero ([(⟨3, 0, 1, 0, 0, 0, Nm.zero, Nm.zero⟩ : Vt), (⟨4, 0, 1, 0, 0, 1, Nm.zero, Nm.zero⟩ : Vt)] : List Vt) (⟨0, 1, 0, Nm.zero⟩ : Oc)) && (decide (((closure_f 1 Nm.zero ([(⟨3, 0, 1, 0, 0, 0, Nm.zero, Nm.zero⟩ : Vt), (⟨4, 0, 1, 0, 0, 1, Nm.zero, Nm.zero⟩ : Vt)] : List Vt) (⟨0, 1, 0, Nm.zero⟩ : Oc)).length : Int) = 2))) && (decided_f 1 Nm.zero (closure_f 1 Nm.zero ([(⟨3, 0, 1, 0, 0, 0, Nm.zero, Nm.zero⟩ : Vt), (⟨4, 0, 1, 0, 0, 1, Nm.zero, Nm.zero⟩ : Vt)] : List Vt) (⟨0, 1, 0, Nm.zero⟩ : Oc)) (⟨0, 1, 0, Nm.zero⟩ : Oc)))), Sp.eq (.bool (((decided_f 1 Nm.zero ([(⟨3, 0, 1, 0, 0, 0, Nm.zero, Nm.zero⟩ : Vt), (⟨4, 0, 1, 0, 0, 1, Nm.zero, Nm.zero⟩ : Vt)] : List Vt) (⟨0, 1, 0, Nm.zero⟩ : Oc)) && (decide (((closure_f 1 Nm.zero ([(⟨3, 0, 1, 0, 0, 0, Nm.zero, Nm.zero⟩ : Vt), (⟨4, 0, 1, 0, 0, 1, Nm.zero, Nm.zero⟩ : Vt)] : List Vt) (⟨0, 1, 0, Nm.zero⟩ : Oc)).length : Int) = 2))) && (decided_f 1 Nm.zero (closure_f 1 Nm.zero ([(⟨3, 0, 1, 0, 0, 0, Nm.zero, Nm.zero⟩ : Vt), (⟨4, 0, 1, 0, 0, 1, Nm.zero, Nm.zero⟩ : Vt)] : List Vt) (⟨0, 1, 0, Nm.zero⟩ : Oc)) (⟨0, 1, 0, Nm.zero⟩ : Oc)))), Sp.eq (vif (((decided_f 1 Nm.zero ([(⟨3, 0, 1, 0, 0, 0, Nm.zero, Nm.zero⟩ : Vt), (⟨4, 0, 1, 0, 0, 1, Nm.zero, Nm.zero⟩ : Vt)] : List Vt) (⟨0, 1, 0, Nm.zero⟩ : Oc)) && (decide (((closure_f 1 Nm.zero ([(⟨3, 0, 1, 0, 0, 0, Nm.zero, Nm.zero⟩ : Vt), (⟨4, 0, 1, 0, 0, 1, Nm.zero, Nm.zero⟩ : Vt)] : List Vt) (⟨0, 1, 0, Nm.zero⟩ : Oc)).length : Int) = 2))) && (decided_f 1 Nm.zero (closure_f 1 Nm.zero ([(⟨3, 0, 1, 0, 0, 0, Nm.zero, Nm.zero⟩ : Vt), (⟨4, 0, 1, 0, 0, 1, Nm.zero, Nm.zero⟩ : Vt)] : List Vt) (⟨0, 1, 0, Nm.zero⟩ : Oc)) (⟨0, 1, 0, Nm.zero⟩ : Oc))) (Enc.val (Nm.zero : Nm))), Sp.eq (vif (((decided_f 1 Nm.zero ([(⟨3, 0, 1, 0, 0, 0, Nm.zero, Nm.zero⟩ : Vt), (⟨4, 0, 1, 0, 0, 1, Nm.zero, Nm.zero⟩ : Vt)] : List Vt) (⟨0, 1, 0, Nm.zero⟩ : Oc)) && (decide (((closure_f 1 Nm.zero ([(⟨3, 0, 1, 0, 0, 0, Nm.zero, Nm.zero⟩ : Vt), (⟨4, 0, 1, 0, 0, 1, Nm.zero, Nm.zero⟩ : Vt)] : List Vt) (⟨0, 1, 0, Nm.zero⟩ : Oc)).length : Int) = 2))) && (decided_f 1 Nm.zero (closure_f 1 Nm.zero ([(⟨3, 0, 1, 0, 0, 0, Nm.zero, Nm.zero⟩ : Vt), (⟨4, 0, 1, 0, 0, 1, Nm.zero, Nm.zero⟩ : Vt)] : List Vt) (⟨0, 1, 0, Nm.zero⟩ : Oc)) (⟨0, 1, 0, Nm.zero⟩ : Oc))) (.slice A5 (closure_f 1 Nm.zero ([(⟨3, 0, 1, 0, 0, 0, Nm.zero, Nm.zero⟩ : Vt), (⟨4, 0, 1, 0, 0, 1, Nm.zero, Nm.zero⟩ : Vt)] : List Vt) (⟨0, 1, 0, Nm.zero⟩ : Oc)).length c5)), Sp.gsl (((decided_f 1 Nm.zero ([(⟨3, 0, 1, 0, 0, 0, Nm.zero, Nm.zero⟩ : Vt), (⟨4, 0, 1, 0, 0, 1, Nm.zero, Nm.zero⟩ : Vt)] : List Vt) (⟨0, 1, 0, Nm.zero⟩ : Oc)) && (decide (((closure_f 1 Nm.zero ([(⟨3, 0, 1, 0, 0, 0, Nm.zero, Nm.zero⟩ : Vt), (⟨4, 0, 1, 0, 0, 1, Nm.zero, Nm.zero⟩ : Vt)] : List Vt) (⟨0, 1, 0, Nm.zero⟩ : Oc)).length : Int) = 2))) && (decided_f 1 Nm.zero (closure_f 1 Nm.zero ([(⟨3, 0, 1, 0, 0, 0, Nm.zero, Nm.zero⟩ : Vt), (⟨4, 0, 1, 0, 0, 1, Nm.zero, Nm.zero⟩ : Vt)] : List Vt) (⟨0, 1, 0, Nm.zero⟩ : Oc)) (⟨0, 1, 0, Nm.zero⟩ : Oc))) (((closure_f 1 Nm.zero ([(⟨3, 0, 1, 0, 0, 0, Nm.zero, Nm.zero⟩ : Vt), (⟨4, 0, 1, 0, 0, 1, Nm.zero, Nm.zero⟩ : Vt)] : List Vt) (⟨0, 1, 0, Nm.zero⟩ : Oc)).take 1) : List Vt), Sp.eq (vif (((decided_f 1 Nm.zero ([(⟨3, 0, 1, 0, 0, 0, Nm.zero, Nm.zero⟩ : Vt), (⟨4, 0, 1, 0, 0, 1, Nm.zero, Nm.zero⟩ : Vt)] : List Vt) (⟨0, 1, 0, Nm.zero⟩ : Oc)) && (decide (((closure_f 1 Nm.zero ([(⟨3, 0, 1, 0, 0, 0, Nm.zero, Nm.zero⟩ : Vt), (⟨4, 0, 1, 0, 0, 1, Nm.zero, Nm.zero⟩ : Vt)] : List Vt) (⟨0, 1, 0, Nm.zero⟩ : Oc)).length : Int) = 2))) && (decided_f 1 Nm.zero (closure_f 1 Nm.zero ([(⟨3, 0, 1, 0, 0, 0, Nm.zero, Nm.zero⟩ : Vt), (⟨4, 0, 1, 0, 0, 1, Nm.zero, Nm.zero⟩ : Vt)] : List Vt) (⟨0, 1, 0, Nm.zero⟩ : Oc)) (⟨0, 1, 0, Nm.zero⟩ : Oc))) (Enc.val (⟨0, 1, 0, Nm.zero⟩ : Oc))), Sp.eq (vif (((decided_f 1 Nm.zero ([(⟨3, 0, 1, 0, 0, 0, Nm.zero, Nm.zero⟩ : Vt), (⟨4, 0, 1, 0, 0, 1, Nm.zero, Nm.zero⟩ : Vt)] : List Vt) (⟨0, 1, 0, Nm.zero⟩ : Oc)) && (decide (((closure_f 1 Nm.zero ([(⟨3, 0, 1, 0, 0, 0, Nm.zero, Nm.zero⟩ : Vt), (⟨4, 0, 1, 0, 0, 1, Nm.zero, Nm.zero⟩ : Vt)] : List Vt) (⟨0, 1, 0, Nm.zero⟩ : Oc)).length : Int) = 2))) && (decided_f 1 Nm.zero (closure_f 1 Nm.zero ([(⟨3, 0, 1, 0, 0, 0, Nm.zero, Nm.zero⟩ : Vt), (⟨4, 0, 1, 0, 0, 1, Nm.zero, Nm.zero⟩ : Vt)] : List Vt) (⟨0, 1, 0, Nm.zero⟩ : Oc)) (⟨0, 1, 0, Nm.zero⟩ : Oc))) (.bool (decided_f 1 Nm.zero ((closure_f 1 Nm.zero ([(⟨3, 0, 1, 0, 0, 0, Nm.zero, Nm.zero⟩ : Vt), (⟨4, 0, 1, 0, 0, 1, Nm.zero, Nm.zero⟩ : Vt)] : List Vt) (⟨0, 1, 0, Nm.zero⟩ : Oc)).take 1) (⟨0, 1, 0, Nm.zero⟩ : Oc)))), Sp.eq (vif (((decided_f 1 Nm.zero ([(⟨3, 0, 1, 0, 0, 0, Nm.zero, Nm.zero⟩ : Vt), (⟨4, 0, 1, 0, 0, 1, Nm.zero, Nm.zero⟩ : Vt)] : List Vt) (⟨0, 1, 0, Nm.zero⟩ : Oc)) && (decide (((closure_f 1 Nm.zero ([(⟨3, 0, 1, 0, 0, 0, Nm.zero, Nm.zero⟩ : Vt), (⟨4, 0, 1, 0, 0, 1, Nm.zero, Nm.zero⟩ : Vt)] : List Vt) (⟨0, 1, 0, Nm.zero⟩ : Oc)).length : Int) = 2))) && (decided_f 1 Nm.zero (closure_f 1 Nm.zero ([(⟨3, 0, 1, 0, 0, 0, Nm.zero, Nm.zero⟩ : Vt), (⟨4, 0, 1, 0, 0, 1, Nm.zero, Nm.zero⟩ : Vt)] : List Vt) (⟨0, 1, 0, Nm.zero⟩ : Oc)) (⟨0, 1, 0, Nm.zero⟩ : Oc))) (.bool (!(decided_f 1 Nm.zero ((closure_f 1 Nm.zero ([(⟨3, 0, 1, 0, 0, 0, Nm.zero, Nm.zero⟩ : Vt), (⟨4, 0, 1, 0, 0, 1, Nm.zero, Nm.zero⟩ : Vt)] : List Vt) (⟨0, 1, 0, Nm.zero⟩ : Oc)).take 1) (⟨0, 1, 0, Nm.zero⟩ : Oc))))), Sp.eq (.bool ((((decided_f 1 Nm.zero ([(⟨3, 0, 1, 0, 0, 0, Nm.zero, Nm.zero⟩ : Vt), (⟨4, 0, 1, 0, 0, 1, Nm.zero, Nm.zero⟩ : Vt)] : List Vt) (⟨0, 1, 0, Nm.zero⟩ : Oc)) && (decide (((closure_f 1 Nm.zero ([(⟨3, 0, 1, 0, 0, 0, Nm.zero, Nm.zero⟩ : Vt), (⟨4, 0, 1, 0, 0, 1, Nm.zero, Nm.zero⟩ : Vt)] : List Vt) (⟨0, 1, 0, Nm.zero⟩ : Oc)).length : Int) = 2))) && (decided_f 1 Nm.zero (closure_f 1 Nm.zero ([(⟨3, 0, 1, 0, 0, 0, Nm.zero, Nm.zero⟩ : Vt), (⟨4, 0, 1, 0, 0, 1, Nm.zero, Nm.zero⟩ : Vt)] : List Vt) (⟨0, 1, 0, Nm.zero⟩ : Oc)) (⟨0, 1, 0, Nm.zero⟩ : Oc))) && (!(decided_f 1 Nm.zero ((closure_f 1 Nm.zero ([(⟨3, 0, 1, 0, 0, 0, Nm.zero, Nm.zero⟩ : Vt), (⟨4, 0, 1, 0, 0, 1, Nm.zero, Nm.zero⟩ : Vt)] : List Vt) (⟨0, 1, 0, Nm.zero⟩ : Oc)).take 1) (⟨0, 1, 0, Nm.zero⟩ : Oc))))), Sp.eq (.bool ((((decided_f 1 Nm.zero ([(⟨3, 0, 1, 0, 0, 0, Nm.zero, Nm.zero⟩ : Vt), (⟨4, 0, 1, 0, 0, 1, Nm.zero, Nm.zero⟩ : Vt)] : List Vt) (⟨0, 1, 0, Nm.zero⟩ : Oc)) && (decide (((closure_f 1 Nm.zero ([(⟨3, 0, 1, 0, 0, 0, Nm.zero, Nm.zero⟩ : Vt), (⟨4, 0, 1, 0, 0, 1, Nm.zero, Nm.zero⟩ : Vt)] : List Vt) (⟨0, 1, 0, Nm.zero⟩ : Oc)).length : Int) = 2))) && (decided_f 1 Nm.zero (closure_f 1 Nm.zero ([(⟨3, 0, 1, 0, 0, 0, Nm.zero, Nm.zero⟩ : Vt), (⟨4, 0, 1, 0, 0, 1, Nm.zero, Nm.zero⟩ : Vt)] : List Vt) (⟨0, 1, 0, Nm.zero⟩ : Oc)) (⟨0, 1, 0, Nm.zero⟩ : Oc))) && (!(decided_f 1 Nm.zero ((closure_f 1 Nm.zero ([(⟨3, 0, 1, 0, 0, 0, Nm.zero, Nm.zero⟩ : Vt), (⟨4, 0, 1, 0, 0, 1, Nm.zero, Nm.zero⟩ : Vt)] : List Vt) (⟨0, 1, 0, Nm.zero⟩ : Oc)).take 1) (⟨0, 1, 0, Nm.zero⟩ : Oc)))))] mixed (by rfl) (Obls.cons ?_ (Obls.cons ?_ (Obls.cons ?_ (Obls.cons ?_ (Obls.cons ?_ (Obls.cons ?_ (Obls.cons ?_ (Obls.cons ?_ (Obls.cons ?_ (Obls.cons ?_ (Obls.cons ?_ (Obls.cons ?_ (Obls.cons ?_ (Obls.cons ?_ (Obls.cons ?_ (Obls.cons ?_ (Obls.cons ?_ (Obls.cons ?_ (Obls.cons ?_ (Obls.cons ?_ (Obls.cons ?_ Obls.nil))))))))))))))))))))) ?_
  · intro f7 w7 hx7 ho7 hd7
    have d7_s5 : f7 5 = (.bool (decided_f 1 Nm.zero ([(⟨3, 0, 1, 0, 0, 0, Nm.zero, Nm.zero⟩ : Vt), (⟨4, 0, 1, 0, 0, 1, Nm.zero, Nm.zero⟩ : Vt)] : List Vt) (⟨0, 1, 0, Nm.zero⟩ : Oc))) := ho7 5 rfl
    exact D.val rfl (op_move rfl d7_s5)
  · intro f8 w8 hx8 ho8 hd8
    have d8_0 : f8 18 = (.bool (decided_f 1 Nm.zero ([(⟨3, 0, 1, 0, 0, 0, Nm.zero, Nm.zero⟩ : Vt), (⟨4, 0, 1, 0, 0, 1, Nm.zero, Nm.zero⟩ : Vt)] : List Vt) (⟨0, 1, 0, Nm.zero⟩ : Oc))) := hd8 0 rfl
    exact D.val rfl (op_move rfl d8_0)
  · intro f9 w9 hx9 ho9 hd9
    have d9_s4 : f9 4 = (.slice A5 (closure_f 1 Nm.zero ([(⟨3, 0, 1, 0, 0, 0, Nm.zero, Nm.zero⟩ : Vt), (⟨4, 0, 1, 0, 0, 1, Nm.zero, Nm.zero⟩ : Vt)] : List Vt) (⟨0, 1, 0, Nm.zero⟩ : Oc)).length c5) := ho9 4 rfl
    have d9_1 : f9 19 = (.bool (decided_f 1 Nm.zero ([(⟨3, 0, 1, 0, 0, 0, Nm.zero, Nm.zero⟩ : Vt), (⟨4, 0, 1, 0, 0, 1, Nm.zero, Nm.zero⟩ : Vt)] : List Vt) (⟨0, 1, 0, Nm.zero⟩ : Oc))) := hd9 1 rfl
    exact D.guardv (wanted_yes rfl rfl d9_1) (fun hg => (op_move rfl d9_s4))
  · intro f10 w10 hx10 ho10 hd10
    have d10_1 : f10 19 = (.bool (decided_f 1 Nm.zero ([(⟨3, 0, 1, 0, 0, 0, Nm.zero, Nm.zero⟩ : Vt), (⟨4, 0, 1, 0, 0, 1, Nm.zero, Nm.zero⟩ : Vt)] : List Vt) (⟨0, 1, 0, Nm.zero⟩ : Oc))) := hd10 1 rfl
    have d10_2 : f10 20 = (vif (decided_f 1 Nm.zero ([(⟨3, 0, 1, 0, 0, 0, Nm.zero, Nm.zero⟩ : Vt), (⟨4, 0, 1, 0, 0, 1, Nm.zero, Nm.zero⟩ : Vt)] : List Vt) (⟨0, 1, 0, Nm.zero⟩ : Oc)) (.slice A5 (closure_f 1 Nm.zero ([(⟨3, 0, 1, 0, 0, 0, Nm.zero, Nm.zero⟩ : Vt), (⟨4, 0, 1, 0, 0, 1, Nm.zero, Nm.zero⟩ : Vt)] : List Vt) (⟨0, 1, 0, Nm.zero⟩ : Oc)).length c5)) := hd10 2 rfl
    have hB1 := hB1.ext hx10
    have hB2 := hB2.ext hx10
    have hB3 := hB3.ext hx10
    have hR4 := hR4.ext hx10
    have hR5 := hR5.ext hx10
    exact D.guardv (wanted_yes rfl rfl d10_1) (fun hg => (op_len rfl ((show _ = vif _ (.slice A5 (closure_f 1 Nm.zero ([(⟨3, 0, 1, 0, 0, 0, Nm.zero, Nm.zero⟩ : Vt), (⟨4, 0, 1, 0, 0, 1, Nm.zero, Nm.zero⟩ : Vt)] : List Vt) (⟨0, 1, 0, Nm.zero⟩ : Oc)).length c5) from d10_2).trans (vif_t hg).symm) ln25))
  · intro f11 w11 hx11 ho11 hd11
    have d11_1 : f11 19 = (.bool (decided_f 1 Nm.zero ([(⟨3, 0, 1, 0, 0, 0, Nm.zero, Nm.zero⟩ : Vt), (⟨4, 0, 1, 0, 0, 1, Nm.zero, Nm.zero⟩ : Vt)] : List Vt) (⟨0, 1, 0, Nm.zero⟩ : Oc))) := hd11 1 rfl
    have d11_3 : f11 21 = (vif (decided_f 1 Nm.zero ([(⟨3, 0, 1, 0, 0, 0, Nm.zero, Nm.zero⟩ : Vt), (⟨4, 0, 1, 0, 0, 1, Nm.zero, Nm.zero⟩ : Vt)] : List Vt) (⟨0, 1, 0, Nm.zero⟩ : Oc)) (.int .i64 ((closure_f 1 Nm.zero ([(⟨3, 0, 1, 0, 0, 0, Nm.zero, Nm.zero⟩ : Vt), (⟨4, 0, 1, 0, 0, 1, Nm.zero, Nm.zero⟩ : Vt)] : List Vt) (⟨0, 1, 0, Nm.zero⟩ : Oc)).length : Int))) := hd11 3 rfl
    exact D.guardv (wanted_yes rfl rfl d11_1) (fun hg => (op_eql rfl ((show _ = vif _ (.int .i64 ((closure_f 1 Nm.zero ([(⟨3, 0, 1, 0, 0, 0, Nm.zero, Nm.zero⟩ : Vt), (⟨4, 0, 1, 0, 0, 1, Nm.zero, Nm.zero⟩ : Vt)] : List Vt) (⟨0, 1, 0, Nm.zero⟩ : Oc)).length : Int)) from d11_3).trans (vif_t hg).symm) rfl))
  · intro f12 w12 hx12 ho12 hd12
    have d12_1 : f12 19 = (.bool (decided_f 1 Nm.zero ([(⟨3, 0, 1, 0, 0, 0, Nm.zero, Nm.zero⟩ : Vt), (⟨4, 0, 1, 0, 0, 1, Nm.zero, Nm.zero⟩ : Vt)] : List Vt) (⟨0, 1, 0, Nm.zero⟩ : Oc))) := hd12 1 rfl
    have d12_4 : f12 22 = (vif (decided_f 1 Nm.zero ([(⟨3, 0, 1, 0, 0, 0, Nm.zero, Nm.zero⟩ : Vt), (⟨4, 0, 1, 0, 0, 1, Nm.zero, Nm.zero⟩ : Vt)] : List Vt) (⟨0, 1, 0, Nm.zero⟩ : Oc)) (.bool (decide (((closure_f 1 Nm.zero ([(⟨3, 0, 1, 0, 0, 0, Nm.zero, Nm.zero⟩ : Vt), (⟨4, 0, 1, 0, 0, 1, Nm.zero, Nm.zero⟩ : Vt)] : List Vt) (⟨0, 1, 0, Nm.zero⟩ : Oc)).length : Int) = 2)))) := hd12 4 rfl
    exact D.val rfl (op_and rfl d12_1 d12_4 rfl)
  · intro f13 w13 hx13 ho13 hd13
    have d13_5 : f13 23 = (.bool ((decided_f 1 Nm.zero ([(⟨3, 0, 1, 0, 0, 0, Nm.zero, Nm.zero⟩ : Vt), (⟨4, 0, 1, 0, 0, 1, Nm.zero, Nm.zero⟩ : Vt)] : List Vt) (⟨0, 1, 0, Nm.zero⟩ : Oc)) && (decide (((closure_f 1 Nm.zero ([(⟨3, 0, 1, 0, 0, 0, Nm.zero, Nm.zero⟩ : Vt), (⟨4, 0, 1, 0, 0, 1, Nm.zero, Nm.zero⟩ : Vt)] : List Vt) (⟨0, 1, 0, Nm.zero⟩ : Oc)).length : Int) = 2)))) := hd13 5 rfl
    exact D.val rfl (op_move rfl d13_5)
  · intro f14 w14 hx14 ho14 hd14
    have d14_6 : f14 24 = (.bool ((decided_f 1 Nm.zero ([(⟨3, 0, 1, 0, 0, 0, Nm.zero, Nm.zero⟩ : Vt), (⟨4, 0, 1, 0, 0, 1, Nm.zero, Nm.zero⟩ : Vt)] : List Vt) (⟨0, 1, 0, Nm.zero⟩ : Oc)) && (decide (((closure_f 1 Nm.zero ([(⟨3, 0, 1, 0, 0, 0, Nm.zero, Nm.zero⟩ : Vt), (⟨4, 0, 1, 0, 0, 1, Nm.zero, Nm.zero⟩ : Vt)] : List Vt) (⟨0, 1, 0, Nm.zero⟩ : Oc)).length : Int) = 2)))) := hd14 6 rfl
    exact D.guardv (wanted_yes rfl rfl d14_6) (fun hg => (op_build (v := Enc.val (Nm.zero : Nm)) (cs := Enc.cells (Nm.zero : Nm)) rfl partsN (by kernel_rfl) rfl))
  · intro f15 w15 hx15 ho15 hd15
    have d15_s4 : f15 4 = (.slice A5 (closure_f 1 Nm.zero ([(⟨3, 0, 1, 0, 0, 0, Nm.zero, Nm.zero⟩ : Vt), (⟨4, 0, 1, 0, 0, 1, Nm.zero, Nm.zero⟩ : Vt)] : List Vt) (⟨0, 1, 0, Nm.zero⟩ : Oc)).length c5) := ho15 4 rfl
    have d15_6 : f15 24 = (.bool ((decided_f 1 Nm.zero ([(⟨3, 0, 1, 0, 0, 0, Nm.zero, Nm.zero⟩ : Vt), (⟨4, 0, 1, 0, 0, 1, Nm.zero, Nm.zero⟩ : Vt)] : List Vt) (⟨0, 1, 0, Nm.zero⟩ : Oc)) && (decide (((closure_f 1 Nm.zero ([(⟨3, 0, 1, 0, 0, 0, Nm.zero, Nm.zero⟩ : Vt), (⟨4, 0, 1, 0, 0, 1, Nm.zero, Nm.zero⟩ : Vt)] : List Vt) (⟨0, 1, 0, Nm.zero⟩ : Oc)).length : Int) = 2)))) := hd15 6 rfl
    exact D.guardv (wanted_yes rfl rfl d15_6) (fun hg => (op_move rfl d15_s4))
  · intro f16 w16 hx16 ho16 hd16
    have d16_s3 : f16 3 = (.pointer (some ⟨b3, 0, none⟩)) := ho16 3 rfl
    have d16_6 : f16 24 = (.bool ((decided_f 1 Nm.zero ([(⟨3, 0, 1, 0, 0, 0, Nm.zero, Nm.zero⟩ : Vt), (⟨4, 0, 1, 0, 0, 1, Nm.zero, Nm.zero⟩ : Vt)] : List Vt) (⟨0, 1, 0, Nm.zero⟩ : Oc)) && (decide (((closure_f 1 Nm.zero ([(⟨3, 0, 1, 0, 0, 0, Nm.zero, Nm.zero⟩ : Vt), (⟨4, 0, 1, 0, 0, 1, Nm.zero, Nm.zero⟩ : Vt)] : List Vt) (⟨0, 1, 0, Nm.zero⟩ : Oc)).length : Int) = 2)))) := hd16 6 rfl
    have hB1 := hB1.ext hx16
    have hB2 := hB2.ext hx16
    have hB3 := hB3.ext hx16
    have hR4 := hR4.ext hx16
    have hR5 := hR5.ext hx16
    exact D.guardv (wanted_yes rfl rfl d16_6) (fun hg => (op_load (v := (⟨0, 1, 0, Nm.zero⟩ : Oc)) rfl d16_s3 ty49 hB3.cells))
  · intro f17 w17 hx17 ho17 hd17
    have d17_6 : f17 24 = (.bool ((decided_f 1 Nm.zero ([(⟨3, 0, 1, 0, 0, 0, Nm.zero, Nm.zero⟩ : Vt), (⟨4, 0, 1, 0, 0, 1, Nm.zero, Nm.zero⟩ : Vt)] : List Vt) (⟨0, 1, 0, Nm.zero⟩ : Oc)) && (decide (((closure_f 1 Nm.zero ([(⟨3, 0, 1, 0, 0, 0, Nm.zero, Nm.zero⟩ : Vt), (⟨4, 0, 1, 0, 0, 1, Nm.zero, Nm.zero⟩ : Vt)] : List Vt) (⟨0, 1, 0, Nm.zero⟩ : Oc)).length : Int) = 2)))) := hd17 6 rfl
    have d17_7 : f17 25 = (vif ((decided_f 1 Nm.zero ([(⟨3, 0, 1, 0, 0, 0, Nm.zero, Nm.zero⟩ : Vt), (⟨4, 0, 1, 0, 0, 1, Nm.zero, Nm.zero⟩ : Vt)] : List Vt) (⟨0, 1, 0, Nm.zero⟩ : Oc)) && (decide (((closure_f 1 Nm.zero ([(⟨3, 0, 1, 0, 0, 0, Nm.zero, Nm.zero⟩ : Vt), (⟨4, 0, 1, 0, 0, 1, Nm.zero, Nm.zero⟩ : Vt)] : List Vt) (⟨0, 1, 0, Nm.zero⟩ : Oc)).length : Int) = 2))) (Enc.val (Nm.zero : Nm))) := hd17 7 rfl
    have d17_8 : f17 26 = (vif ((decided_f 1 Nm.zero ([(⟨3, 0, 1, 0, 0, 0, Nm.zero, Nm.zero⟩ : Vt), (⟨4, 0, 1, 0, 0, 1, Nm.zero, Nm.zero⟩ : Vt)] : List Vt) (⟨0, 1, 0, Nm.zero⟩ : Oc)) && (decide (((closure_f 1 Nm.zero ([(⟨3, 0, 1, 0, 0, 0, Nm.zero, Nm.zero⟩ : Vt), (⟨4, 0, 1, 0, 0, 1, Nm.zero, Nm.zero⟩ : Vt)] : List Vt) (⟨0, 1, 0, Nm.zero⟩ : Oc)).length : Int) = 2))) (.slice A5 (closure_f 1 Nm.zero ([(⟨3, 0, 1, 0, 0, 0, Nm.zero, Nm.zero⟩ : Vt), (⟨4, 0, 1, 0, 0, 1, Nm.zero, Nm.zero⟩ : Vt)] : List Vt) (⟨0, 1, 0, Nm.zero⟩ : Oc)).length c5)) := hd17 8 rfl
    have d17_9 : f17 27 = (vif ((decided_f 1 Nm.zero ([(⟨3, 0, 1, 0, 0, 0, Nm.zero, Nm.zero⟩ : Vt), (⟨4, 0, 1, 0, 0, 1, Nm.zero, Nm.zero⟩ : Vt)] : List Vt) (⟨0, 1, 0, Nm.zero⟩ : Oc)) && (decide (((closure_f 1 Nm.zero ([(⟨3, 0, 1, 0, 0, 0, Nm.zero, Nm.zero⟩ : Vt), (⟨4, 0, 1, 0, 0, 1, Nm.zero, Nm.zero⟩ : Vt)] : List Vt) (⟨0, 1, 0, Nm.zero⟩ : Oc)).length : Int) = 2))) (Enc.val (⟨0, 1, 0, Nm.zero⟩ : Oc))) := hd17 9 rfl
    have hB1 := hB1.ext hx17
    have hB2 := hB2.ext hx17
    have hB3 := hB3.ext hx17
    have hR4 := hR4.ext hx17
    have hR5 := hR5.ext hx17
    exact D.guardc (wanted_yes rfl rfl d17_6) (fun hg => by have hp := hg; (try simp only [Bool.and_eq_true, Bool.or_eq_true, Bool.not_eq_true', decide_eq_true_eq, decide_eq_false_iff_not, bne_iff_ne, beq_iff_eq] at hp); exact (OpS.call (op_call rfl (argsC rfl (argsC ((show _ = vif _ (Enc.val (Nm.zero : Nm)) from d17_7).trans (vif_t hg).symm) (argsC ((show _ = vif _ (.slice A5 (closure_f 1 Nm.zero ([(⟨3, 0, 1, 0, 0, 0, Nm.zero, Nm.zero⟩ : Vt), (⟨4, 0, 1, 0, 0, 1, Nm.zero, Nm.zero⟩ : Vt)] : List Vt) (⟨0, 1, 0, Nm.zero⟩ : Oc)).length c5) from d17_8).trans (vif_t hg).symm) (argsC ((show _ = vif _ (Enc.val (⟨0, 1, 0, Nm.zero⟩ : Oc)) from d17_9).trans (vif_t hg).symm) argsN)))) Try.func48 rfl rfl) (Check_ok hR5 (by first | omega | (simp only [List.length_drop, List.length_take, List.length_append, List.length_cons, List.length_nil] at *; omega)))))
  · intro f18 w18 hx18 ho18 hd18
    have d18_6 : f18 24 = (.bool ((decided_f 1 Nm.zero ([(⟨3, 0, 1, 0, 0, 0, Nm.zero, Nm.zero⟩ : Vt), (⟨4, 0, 1, 0, 0, 1, Nm.zero, Nm.zero⟩ : Vt)] : List Vt) (⟨0, 1, 0, Nm.zero⟩ : Oc)) && (decide (((closure_f 1 Nm.zero ([(⟨3, 0, 1, 0, 0, 0, Nm.zero, Nm.zero⟩ : Vt), (⟨4, 0, 1, 0, 0, 1, Nm.zero, Nm.zero⟩ : Vt)] : List Vt) (⟨0, 1, 0, Nm.zero⟩ : Oc)).length : Int) = 2)))) := hd18 6 rfl
    have d18_10 : f18 28 = (vif ((decided_f 1 Nm.zero ([(⟨3, 0, 1, 0, 0, 0, Nm.zero, Nm.zero⟩ : Vt), (⟨4, 0, 1, 0, 0, 1, Nm.zero, Nm.zero⟩ : Vt)] : List Vt) (⟨0, 1, 0, Nm.zero⟩ : Oc)) && (decide (((closure_f 1 Nm.zero ([(⟨3, 0, 1, 0, 0, 0, Nm.zero, Nm.zero⟩ : Vt), (⟨4, 0, 1, 0, 0, 1, Nm.zero, Nm.zero⟩ : Vt)] : List Vt) (⟨0, 1, 0, Nm.zero⟩ : Oc)).length : Int) = 2))) (.bool (decided_f 1 Nm.zero (closure_f 1 Nm.zero ([(⟨3, 0, 1, 0, 0, 0, Nm.zero, Nm.zero⟩ : Vt), (⟨4, 0, 1, 0, 0, 1, Nm.zero, Nm.zero⟩ : Vt)] : List Vt) (⟨0, 1, 0, Nm.zero⟩ : Oc)) (⟨0, 1, 0, Nm.zero⟩ : Oc)))) := hd18 10 rfl
    exact D.val rfl (op_and rfl d18_6 d18_10 rfl)
  · intro f19 w19 hx19 ho19 hd19
    have d19_11 : f19 29 = (.bool (((decided_f 1 Nm.zero ([(⟨3, 0, 1, 0, 0, 0, Nm.zero, Nm.zero⟩ : Vt), (⟨4, 0, 1, 0, 0, 1, Nm.zero, Nm.zero⟩ : Vt)] : List Vt) (⟨0, 1, 0, Nm.zero⟩ : Oc)) && (decide (((closure_f 1 Nm.zero ([(⟨3, 0, 1, 0, 0, 0, Nm.zero, Nm.zero⟩ : Vt), (⟨4, 0, 1, 0, 0, 1, Nm.zero, Nm.zero⟩ : Vt)] : List Vt) (⟨0, 1, 0, Nm.zero⟩ : Oc)).length : Int) = 2))) && (decided_f 1 Nm.zero (closure_f 1 Nm.zero ([(⟨3, 0, 1, 0, 0, 0, Nm.zero, Nm.zero⟩ : Vt), (⟨4, 0, 1, 0, 0, 1, Nm.zero, Nm.zero⟩ : Vt)] : List Vt) (⟨0, 1, 0, Nm.zero⟩ : Oc)) (⟨0, 1, 0, Nm.zero⟩ : Oc)))) := hd19 11 rfl
    exact D.val rfl (op_move rfl d19_11)
  · intro f20 w20 hx20 ho20 hd20
    have d20_12 : f20 30 = (.bool (((decided_f 1 Nm.zero ([(⟨3, 0, 1, 0, 0, 0, Nm.zero, Nm.zero⟩ : Vt), (⟨4, 0, 1, 0, 0, 1, Nm.zero, Nm.zero⟩ : Vt)] : List Vt) (⟨0, 1, 0, Nm.zero⟩ : Oc)) && (decide (((closure_f 1 Nm.zero ([(⟨3, 0, 1, 0, 0, 0, Nm.zero, Nm.zero⟩ : Vt), (⟨4, 0, 1, 0, 0, 1, Nm.zero, Nm.zero⟩ : Vt)] : List Vt) (⟨0, 1, 0, Nm.zero⟩ : Oc)).length : Int) = 2))) && (decided_f 1 Nm.zero (closure_f 1 Nm.zero ([(⟨3, 0, 1, 0, 0, 0, Nm.zero, Nm.zero⟩ : Vt), (⟨4, 0, 1, 0, 0, 1, Nm.zero, Nm.zero⟩ : Vt)] : List Vt) (⟨0, 1, 0, Nm.zero⟩ : Oc)) (⟨0, 1, 0, Nm.zero⟩ : Oc)))) := hd20 12 rfl
    exact D.guardv (wanted_yes rfl rfl d20_12) (fun hg => (op_build (v := Enc.val (Nm.zero : Nm)) (cs := Enc.cells (Nm.zero : Nm)) rfl partsN (by kernel_rfl) rfl))
  · intro f21 w21 hx21 ho21 hd21
    have d21_s4 : f21 4 = (.slice A5 (closure_f 1 Nm.zero ([(⟨3, 0, 1, 0, 0, 0, Nm.zero, Nm.zero⟩ : Vt), (⟨4, 0, 1, 0, 0, 1, Nm.zero, Nm.zero⟩ : Vt)] : List Vt) (⟨0, 1, 0, Nm.zero⟩ : Oc)).length c5) := ho21 4 rfl
    have d21_12 : f21 30 = (.bool (((decided_f 1 Nm.zero ([(⟨3, 0, 1, 0, 0, 0, Nm.zero, Nm.zero⟩ : Vt), (⟨4, 0, 1, 0, 0, 1, Nm.zero, Nm.zero⟩ : Vt)] : List Vt) (⟨0, 1, 0, Nm.zero⟩ : Oc)) && (decide (((closure_f 1 Nm.zero ([(⟨3, 0, 1, 0, 0, 0, Nm.zero, Nm.zero⟩ : Vt), (⟨4, 0, 1, 0, 0, 1, Nm.zero, Nm.zero⟩ : Vt)] : List Vt) (⟨0, 1, 0, Nm.zero⟩ : Oc)).length : Int) = 2))) && (decided_f 1 Nm.zero (closure_f 1 Nm.zero ([(⟨3, 0, 1, 0, 0, 0, Nm.zero, Nm.zero⟩ : Vt), (⟨4, 0, 1, 0, 0, 1, Nm.zero, Nm.zero⟩ : Vt)] : List Vt) (⟨0, 1, 0, Nm.zero⟩ : Oc)) (⟨0, 1, 0, Nm.zero⟩ : Oc)))) := hd21 12 rfl
    exact D.guardv (wanted_yes rfl rfl d21_12) (fun hg => (op_move rfl d21_s4))
  · intro f22 w22 hx22 ho22 hd22
    have d22_12 : f22 30 = (.bool (((decided_f 1 Nm.zero ([(⟨3, 0, 1, 0, 0, 0, Nm.zero, Nm.zero⟩ : Vt), (⟨4, 0, 1, 0, 0, 1, Nm.zero, Nm.zero⟩ : Vt)] : List Vt) (⟨0, 1, 0, Nm.zero⟩ : Oc)) && (decide (((closure_f 1 Nm.zero ([(⟨3, 0, 1, 0, 0, 0, Nm.zero, Nm.zero⟩ : Vt), (⟨4, 0, 1, 0, 0, 1, Nm.zero, Nm.zero⟩ : Vt)] : List Vt) (⟨0, 1, 0, Nm.zero⟩ : Oc)).length : Int) = 2))) && (decided_f 1 Nm.zero (closure_f 1 Nm.zero ([(⟨3, 0, 1, 0, 0, 0, Nm.zero, Nm.zero⟩ : Vt), (⟨4, 0, 1, 0, 0, 1, Nm.zero, Nm.zero⟩ : Vt)] : List Vt) (⟨0, 1, 0, Nm.zero⟩ : Oc)) (⟨0, 1, 0, Nm.zero⟩ : Oc)))) := hd22 12 rfl
    have d22_14 : f22 32 = (vif (((decided_f 1 Nm.zero ([(⟨3, 0, 1, 0, 0, 0, Nm.zero, Nm.zero⟩ : Vt), (⟨4, 0, 1, 0, 0, 1, Nm.zero, Nm.zero⟩ : Vt)] : List Vt) (⟨0, 1, 0, Nm.zero⟩ : Oc)) && (decide (((closure_f 1 Nm.zero ([(⟨3, 0, 1, 0, 0, 0, Nm.zero, Nm.zero⟩ : Vt), (⟨4, 0, 1, 0, 0, 1, Nm.zero, Nm.zero⟩ : Vt)] : List Vt) (⟨0, 1, 0, Nm.zero⟩ : Oc)).length : Int) = 2))) && (decided_f 1 Nm.zero (closure_f 1 Nm.zero ([(⟨3, 0, 1, 0, 0, 0, Nm.zero, Nm.zero⟩ : Vt), (⟨4, 0, 1, 0, 0, 1, Nm.zero, Nm.zero⟩ : Vt)] : List Vt) (⟨0, 1, 0, Nm.zero⟩ : Oc)) (⟨0, 1, 0, Nm.zero⟩ : Oc))) (.slice A5 (closure_f 1 Nm.zero ([(⟨3, 0, 1, 0, 0, 0, Nm.zero, Nm.zero⟩ : Vt), (⟨4, 0, 1, 0, 0, 1, Nm.zero, Nm.zero⟩ : Vt)] : List Vt) (⟨0, 1, 0, Nm.zero⟩ : Oc)).length c5)) := hd22 14 rfl
    have hB1 := hB1.ext hx22
    have hB2 := hB2.ext hx22
    have hB3 := hB3.ext hx22
    have hR4 := hR4.ext hx22
    have hR5 := hR5.ext hx22
    exact D.guardsl (l := (((closure_f 1 Nm.zero ([(⟨3, 0, 1, 0, 0, 0, Nm.zero, Nm.zero⟩ : Vt), (⟨4, 0, 1, 0, 0, 1, Nm.zero, Nm.zero⟩ : Vt)] : List Vt) (⟨0, 1, 0, Nm.zero⟩ : Oc)).take 1) : List Vt)) (wanted_yes rfl rfl d22_12) (fun hg => by have hp := hg; (try simp only [Bool.and_eq_true, Bool.or_eq_true, Bool.not_eq_true', decide_eq_true_eq, decide_eq_false_iff_not, bne_iff_ne, beq_iff_eq] at hp); exact (op_slr_h (k := 1) sl25 rfl ((show _ = vif _ (.slice A5 (closure_f 1 Nm.zero ([(⟨3, 0, 1, 0, 0, 0, Nm.zero, Nm.zero⟩ : Vt), (⟨4, 0, 1, 0, 0, 1, Nm.zero, Nm.zero⟩ : Vt)] : List Vt) (⟨0, 1, 0, Nm.zero⟩ : Oc)).length c5) from d22_14).trans (vif_t hg).symm) rfl (by omega) hcap5 hR5))
  · intro f23 w23 hx23 ho23 hd23
    have d23_s3 : f23 3 = (.pointer (some ⟨b3, 0, none⟩)) := ho23 3 rfl
    have d23_12 : f23 30 = (.bool (((decided_f 1 Nm.zero ([(⟨3, 0, 1, 0, 0, 0, Nm.zero, Nm.zero⟩ : Vt), (⟨4, 0, 1, 0, 0, 1, Nm.zero, Nm.zero⟩ : Vt)] : List Vt) (⟨0, 1, 0, Nm.zero⟩ : Oc)) && (decide (((closure_f 1 Nm.zero ([(⟨3, 0, 1, 0, 0, 0, Nm.zero, Nm.zero⟩ : Vt), (⟨4, 0, 1, 0, 0, 1, Nm.zero, Nm.zero⟩ : Vt)] : List Vt) (⟨0, 1, 0, Nm.zero⟩ : Oc)).length : Int) = 2))) && (decided_f 1 Nm.zero (closure_f 1 Nm.zero ([(⟨3, 0, 1, 0, 0, 0, Nm.zero, Nm.zero⟩ : Vt), (⟨4, 0, 1, 0, 0, 1, Nm.zero, Nm.zero⟩ : Vt)] : List Vt) (⟨0, 1, 0, Nm.zero⟩ : Oc)) (⟨0, 1, 0, Nm.zero⟩ : Oc)))) := hd23 12 rfl
    have hB1 := hB1.ext hx23
    have hB2 := hB2.ext hx23
    have hB3 := hB3.ext hx23
    have hR4 := hR4.ext hx23
    have hR5 := hR5.ext hx23
    exact D.guardv (wanted_yes rfl rfl d23_12) (fun hg => (op_load (v := (⟨0, 1, 0, Nm.zero⟩ : Oc)) rfl d23_s3 ty49 hB3.cells))
  · intro f24 w24 hx24 ho24 hd24
    have d24_12 : f24 30 = (.bool (((decided_f 1 Nm.zero ([(⟨3, 0, 1, 0, 0, 0, Nm.zero, Nm.zero⟩ : Vt), (⟨4, 0, 1, 0, 0, 1, Nm.zero, Nm.zero⟩ : Vt)] : List Vt) (⟨0, 1, 0, Nm.zero⟩ : Oc)) && (decide (((closure_f 1 Nm.zero ([(⟨3, 0, 1, 0, 0, 0, Nm.zero, Nm.zero⟩ : Vt), (⟨4, 0, 1, 0, 0, 1, Nm.zero, Nm.zero⟩ : Vt)] : List Vt) (⟨0, 1, 0, Nm.zero⟩ : Oc)).length : Int) = 2))) && (decided_f 1 Nm.zero (closure_f 1 Nm.zero ([(⟨3, 0, 1, 0, 0, 0, Nm.zero, Nm.zero⟩ : Vt), (⟨4, 0, 1, 0, 0, 1, Nm.zero, Nm.zero⟩ : Vt)] : List Vt) (⟨0, 1, 0, Nm.zero⟩ : Oc)) (⟨0, 1, 0, Nm.zero⟩ : Oc)))) := hd24 12 rfl
    have d24_13 : f24 31 = (vif (((decided_f 1 Nm.zero ([(⟨3, 0, 1, 0, 0, 0, Nm.zero, Nm.zero⟩ : Vt), (⟨4, 0, 1, 0, 0, 1, Nm.zero, Nm.zero⟩ : Vt)] : List Vt) (⟨0, 1, 0, Nm.zero⟩ : Oc)) && (decide (((closure_f 1 Nm.zero ([(⟨3, 0, 1, 0, 0, 0, Nm.zero, Nm.zero⟩ : Vt), (⟨4, 0, 1, 0, 0, 1, Nm.zero, Nm.zero⟩ : Vt)] : List Vt) (⟨0, 1, 0, Nm.zero⟩ : Oc)).length : Int) = 2))) && (decided_f 1 Nm.zero (closure_f 1 Nm.zero ([(⟨3, 0, 1, 0, 0, 0, Nm.zero, Nm.zero⟩ : Vt), (⟨4, 0, 1, 0, 0, 1, Nm.zero, Nm.zero⟩ : Vt)] : List Vt) (⟨0, 1, 0, Nm.zero⟩ : Oc)) (⟨0, 1, 0, Nm.zero⟩ : Oc))) (Enc.val (Nm.zero : Nm))) := hd24 13 rfl
    have d24_16 : f24 34 = (vif (((decided_f 1 Nm.zero ([(⟨3, 0, 1, 0, 0, 0, Nm.zero, Nm.zero⟩ : Vt), (⟨4, 0, 1, 0, 0, 1, Nm.zero, Nm.zero⟩ : Vt)] : List Vt) (⟨0, 1, 0, Nm.zero⟩ : Oc)) && (decide (((closure_f 1 Nm.zero ([(⟨3, 0, 1, 0, 0, 0, Nm.zero, Nm.zero⟩ : Vt), (⟨4, 0, 1, 0, 0, 1, Nm.zero, Nm.zero⟩ : Vt)] : List Vt) (⟨0, 1, 0, Nm.zero⟩ : Oc)).length : Int) = 2))) && (decided_f 1 Nm.zero (closure_f 1 Nm.zero ([(⟨3, 0, 1, 0, 0, 0, Nm.zero, Nm.zero⟩ : Vt), (⟨4, 0, 1, 0, 0, 1, Nm.zero, Nm.zero⟩ : Vt)] : List Vt) (⟨0, 1, 0, Nm.zero⟩ : Oc)) (⟨0, 1, 0, Nm.zero⟩ : Oc))) (Enc.val (⟨0, 1, 0, Nm.zero⟩ : Oc))) := hd24 16 rfl
    have hB1 := hB1.ext hx24
    have hB2 := hB2.ext hx24
    have hB3 := hB3.ext hx24
    have hR4 := hR4.ext hx24
    have hR5 := hR5.ext hx24
    exact D.guardc (wanted_yes rfl rfl d24_12) (fun hg => by have hp := hg; (try simp only [Bool.and_eq_true, Bool.or_eq_true, Bool.not_eq_true', decide_eq_true_eq, decide_eq_false_iff_not, bne_iff_ne, beq_iff_eq] at hp); obtain ⟨A24_15, c24_15, lo24_15, hi24_15, e24_15, hcap24_15, hR24_15⟩ := (hd24 15 rfl).1 hg; have hlen24_15 := hR24_15.len; exact (OpS.call (op_call rfl (argsC rfl (argsC ((show _ = vif _ (Enc.val (Nm.zero : Nm)) from d24_13).trans (vif_t hg).symm) (argsC e24_15 (argsC ((show _ = vif _ (Enc.val (⟨0, 1, 0, Nm.zero⟩ : Oc)) from d24_16).trans (vif_t hg).symm) argsN)))) Try.func48 rfl rfl) (Check_ok hR24_15 (by first | omega | (simp only [List.length_drop, List.length_take, List.length_append, List.length_cons, List.length_nil] at *; omega)))))
  · intro f25 w25 hx25 ho25 hd25
    have d25_12 : f25 30 = (.bool (((decided_f 1 Nm.zero ([(⟨3, 0, 1, 0, 0, 0, Nm.zero, Nm.zero⟩ : Vt), (⟨4, 0, 1, 0, 0, 1, Nm.zero, Nm.zero⟩ : Vt)] : List Vt) (⟨0, 1, 0, Nm.zero⟩ : Oc)) && (decide (((closure_f 1 Nm.zero ([(⟨3, 0, 1, 0, 0, 0, Nm.zero, Nm.zero⟩ : Vt), (⟨4, 0, 1, 0, 0, 1, Nm.zero, Nm.zero⟩ : Vt)] : List Vt) (⟨0, 1, 0, Nm.zero⟩ : Oc)).length : Int) = 2))) && (decided_f 1 Nm.zero (closure_f 1 Nm.zero ([(⟨3, 0, 1, 0, 0, 0, Nm.zero, Nm.zero⟩ : Vt), (⟨4, 0, 1, 0, 0, 1, Nm.zero, Nm.zero⟩ : Vt)] : List Vt) (⟨0, 1, 0, Nm.zero⟩ : Oc)) (⟨0, 1, 0, Nm.zero⟩ : Oc)))) := hd25 12 rfl
    have d25_17 : f25 35 = (vif (((decided_f 1 Nm.zero ([(⟨3, 0, 1, 0, 0, 0, Nm.zero, Nm.zero⟩ : Vt), (⟨4, 0, 1, 0, 0, 1, Nm.zero, Nm.zero⟩ : Vt)] : List Vt) (⟨0, 1, 0, Nm.zero⟩ : Oc)) && (decide (((closure_f 1 Nm.zero ([(⟨3, 0, 1, 0, 0, 0, Nm.zero, Nm.zero⟩ : Vt), (⟨4, 0, 1, 0, 0, 1, Nm.zero, Nm.zero⟩ : Vt)] : List Vt) (⟨0, 1, 0, Nm.zero⟩ : Oc)).length : Int) = 2))) && (decided_f 1 Nm.zero (closure_f 1 Nm.zero ([(⟨3, 0, 1, 0, 0, 0, Nm.zero, Nm.zero⟩ : Vt), (⟨4, 0, 1, 0, 0, 1, Nm.zero, Nm.zero⟩ : Vt)] : List Vt) (⟨0, 1, 0, Nm.zero⟩ : Oc)) (⟨0, 1, 0, Nm.zero⟩ : Oc))) (.bool (decided_f 1 Nm.zero ((closure_f 1 Nm.zero ([(⟨3, 0, 1, 0, 0, 0, Nm.zero, Nm.zero⟩ : Vt), (⟨4, 0, 1, 0, 0, 1, Nm.zero, Nm.zero⟩ : Vt)] : List Vt) (⟨0, 1, 0, Nm.zero⟩ : Oc)).take 1) (⟨0, 1, 0, Nm.zero⟩ : Oc)))) := hd25 17 rfl
    exact D.guardv (wanted_yes rfl rfl d25_12) (fun hg => (op_not rfl ((show _ = vif _ (.bool (decided_f 1 Nm.zero ((closure_f 1 Nm.zero ([(⟨3, 0, 1, 0, 0, 0, Nm.zero, Nm.zero⟩ : Vt), (⟨4, 0, 1, 0, 0, 1, Nm.zero, Nm.zero⟩ : Vt)] : List Vt) (⟨0, 1, 0, Nm.zero⟩ : Oc)).take 1) (⟨0, 1, 0, Nm.zero⟩ : Oc))) from d25_17).trans (vif_t hg).symm)))
  · intro f26 w26 hx26 ho26 hd26
    have d26_12 : f26 30 = (.bool (((decided_f 1 Nm.zero ([(⟨3, 0, 1, 0, 0, 0, Nm.zero, Nm.zero⟩ : Vt), (⟨4, 0, 1, 0, 0, 1, Nm.zero, Nm.zero⟩ : Vt)] : List Vt) (⟨0, 1, 0, Nm.zero⟩ : Oc)) && (decide (((closure_f 1 Nm.zero ([(⟨3, 0, 1, 0, 0, 0, Nm.zero, Nm.zero⟩ : Vt), (⟨4, 0, 1, 0, 0, 1, Nm.zero, Nm.zero⟩ : Vt)] : List Vt) (⟨0, 1, 0, Nm.zero⟩ : Oc)).length : Int) = 2))) && (decided_f 1 Nm.zero (closure_f 1 Nm.zero ([(⟨3, 0, 1, 0, 0, 0, Nm.zero, Nm.zero⟩ : Vt), (⟨4, 0, 1, 0, 0, 1, Nm.zero, Nm.zero⟩ : Vt)] : List Vt) (⟨0, 1, 0, Nm.zero⟩ : Oc)) (⟨0, 1, 0, Nm.zero⟩ : Oc)))) := hd26 12 rfl
    have d26_18 : f26 36 = (vif (((decided_f 1 Nm.zero ([(⟨3, 0, 1, 0, 0, 0, Nm.zero, Nm.zero⟩ : Vt), (⟨4, 0, 1, 0, 0, 1, Nm.zero, Nm.zero⟩ : Vt)] : List Vt) (⟨0, 1, 0, Nm.zero⟩ : Oc)) && (decide (((closure_f 1 Nm.zero ([(⟨3, 0, 1, 0, 0, 0, Nm.zero, Nm.zero⟩ : Vt), (⟨4, 0, 1, 0, 0, 1, Nm.zero, Nm.zero⟩ : Vt)] : List Vt) (⟨0, 1, 0, Nm.zero⟩ : Oc)).length : Int) = 2))) && (decided_f 1 Nm.zero (closure_f 1 Nm.zero ([(⟨3, 0, 1, 0, 0, 0, Nm.zero, Nm.zero⟩ : Vt), (⟨4, 0, 1, 0, 0, 1, Nm.zero, Nm.zero⟩ : Vt)] : List Vt) (⟨0, 1, 0, Nm.zero⟩ : Oc)) (⟨0, 1, 0, Nm.zero⟩ : Oc))) (.bool (!(decided_f 1 Nm.zero ((closure_f 1 Nm.zero ([(⟨3, 0, 1, 0, 0, 0, Nm.zero, Nm.zero⟩ : Vt), (⟨4, 0, 1, 0, 0, 1, Nm.zero, Nm.zero⟩ : Vt)] : List Vt) (⟨0, 1, 0, Nm.zero⟩ : Oc)).take 1) (⟨0, 1, 0, Nm.zero⟩ : Oc))))) := hd26 18 rfl
    exact D.val rfl (op_and rfl d26_12 d26_18 rfl)
  · intro f27 w27 hx27 ho27 hd27
    have d27_19 : f27 37 = (.bool ((((decided_f 1 Nm.zero ([(⟨3, 0, 1, 0, 0, 0, Nm.zero, Nm.zero⟩ : Vt), (⟨4, 0, 1, 0, 0, 1, Nm.zero, Nm.zero⟩ : Vt)] : List Vt) (⟨0, 1, 0, Nm.zero⟩ : Oc)) && (decide (((closure_f 1 Nm.zero ([(⟨3, 0, 1, 0, 0, 0, Nm.zero, Nm.zero⟩ : Vt), (⟨4, 0, 1, 0, 0, 1, Nm.zero, Nm.zero⟩ : Vt)] : List Vt) (⟨0, 1, 0, Nm.zero⟩ : Oc)).length : Int) = 2))) && (decided_f 1 Nm.zero (closure_f 1 Nm.zero ([(⟨3, 0, 1, 0, 0, 0, Nm.zero, Nm.zero⟩ : Vt), (⟨4, 0, 1, 0, 0, 1, Nm.zero, Nm.zero⟩ : Vt)] : List Vt) (⟨0, 1, 0, Nm.zero⟩ : Oc)) (⟨0, 1, 0, Nm.zero⟩ : Oc))) && (!(decided_f 1 Nm.zero ((closure_f 1 Nm.zero ([(⟨3, 0, 1, 0, 0, 0, Nm.zero, Nm.zero⟩ : Vt), (⟨4, 0, 1, 0, 0, 1, Nm.zero, Nm.zero⟩ : Vt)] : List Vt) (⟨0, 1, 0, Nm.zero⟩ : Oc)).take 1) (⟨0, 1, 0, Nm.zero⟩ : Oc))))) := hd27 19 rfl
    exact D.val rfl (op_assign rfl d27_19)
  intro f28 w28 hx28 ho28 hr28
  have s1 : f28 1 = (.pointer (some ⟨b1, 0, none⟩)) := ho28 1 rfl
  have s2 : f28 2 = (.pointer (some ⟨b2, 0, none⟩)) := ho28 2 rfl
  have s3 : f28 3 = (.pointer (some ⟨b3, 0, none⟩)) := ho28 3 rfl
  have s4 : f28 4 = (.slice A5 (closure_f 1 Nm.zero ([(⟨3, 0, 1, 0, 0, 0, Nm.zero, Nm.zero⟩ : Vt), (⟨4, 0, 1, 0, 0, 1, Nm.zero, Nm.zero⟩ : Vt)] : List Vt) (⟨0, 1, 0, Nm.zero⟩ : Oc)).length c5) := ho28 4 rfl
  have s5 : f28 5 = (.bool (decided_f 1 Nm.zero ([(⟨3, 0, 1, 0, 0, 0, Nm.zero, Nm.zero⟩ : Vt), (⟨4, 0, 1, 0, 0, 1, Nm.zero, Nm.zero⟩ : Vt)] : List Vt) (⟨0, 1, 0, Nm.zero⟩ : Oc))) := ho28 5 rfl
  have s0 : f28 0 = (.bool ((((decided_f 1 Nm.zero ([(⟨3, 0, 1, 0, 0, 0, Nm.zero, Nm.zero⟩ : Vt), (⟨4, 0, 1, 0, 0, 1, Nm.zero, Nm.zero⟩ : Vt)] : List Vt) (⟨0, 1, 0, Nm.zero⟩ : Oc)) && (decide (((closure_f 1 Nm.zero ([(⟨3, 0, 1, 0, 0, 0, Nm.zero, Nm.zero⟩ : Vt), (⟨4, 0, 1, 0, 0, 1, Nm.zero, Nm.zero⟩ : Vt)] : List Vt) (⟨0, 1, 0, Nm.zero⟩ : Oc)).length : Int) = 2))) && (decided_f 1 Nm.zero (closure_f 1 Nm.zero ([(⟨3, 0, 1, 0, 0, 0, Nm.zero, Nm.zero⟩ : Vt), (⟨4, 0, 1, 0, 0, 1, Nm.zero, Nm.zero⟩ : Vt)] : List Vt) (⟨0, 1, 0, Nm.zero⟩ : Oc)) (⟨0, 1, 0, Nm.zero⟩ : Oc))) && (!(decided_f 1 Nm.zero ((closure_f 1 Nm.zero ([(⟨3, 0, 1, 0, 0, 0, Nm.zero, Nm.zero⟩ : Vt), (⟨4, 0, 1, 0, 0, 1, Nm.zero, Nm.zero⟩ : Vt)] : List Vt) (⟨0, 1, 0, Nm.zero⟩ : Oc)).take 1) (⟨0, 1, 0, Nm.zero⟩ : Oc))))) := hr28 20 (by decide)
  have hE := hE.trans hx28
  have hB1 := hB1.ext hx28
  have hB2 := hB2.ext hx28
  have hB3 := hB3.ext hx28
  have hR4 := hR4.ext hx28
  have hR5 := hR5.ext hx28
  refine thenF_nor ?_
  refine W.ret ?_
  exact end_ret1 (v := (.bool ((((decided_f 1 Nm.zero ([(⟨3, 0, 1, 0, 0, 0, Nm.zero, Nm.zero⟩ : Vt), (⟨4, 0, 1, 0, 0, 1, Nm.zero, Nm.zero⟩ : Vt)] : List Vt) (⟨0, 1, 0, Nm.zero⟩ : Oc)) && (decide (((closure_f 1 Nm.zero ([(⟨3, 0, 1, 0, 0, 0, Nm.zero, Nm.zero⟩ : Vt), (⟨4, 0, 1, 0, 0, 1, Nm.zero, Nm.zero⟩ : Vt)] : List Vt) (⟨0, 1, 0, Nm.zero⟩ : Oc)).length : Int) = 2))) && (decided_f 1 Nm.zero (closure_f 1 Nm.zero ([(⟨3, 0, 1, 0, 0, 0, Nm.zero, Nm.zero⟩ : Vt), (⟨4, 0, 1, 0, 0, 1, Nm.zero, Nm.zero⟩ : Vt)] : List Vt) (⟨0, 1, 0, Nm.zero⟩ : Oc)) (⟨0, 1, 0, Nm.zero⟩ : Oc))) && (!(decided_f 1 Nm.zero ((closure_f 1 Nm.zero ([(⟨3, 0, 1, 0, 0, 0, Nm.zero, Nm.zero⟩ : Vt), (⟨4, 0, 1, 0, 0, 1, Nm.zero, Nm.zero⟩ : Vt)] : List Vt) (⟨0, 1, 0, Nm.zero⟩ : Oc)).take 1) (⟨0, 1, 0, Nm.zero⟩ : Oc)))))) rfl s0 ⟨(congrArg Value.bool (by decide +kernel)), hE⟩

end Go.Proofs.Ytdknjfmjddlphaa
