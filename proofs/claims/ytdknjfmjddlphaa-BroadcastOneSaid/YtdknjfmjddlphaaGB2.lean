/-
  Contracts of functions of the program, each with its walk in the logic of frames. Printed by a program of this session (wip/gen) from the translation.
-/
import Derived.Test.YtdknjfmjddlphaaGB1
set_option linter.unusedSimpArgs false
set_option linter.unusedVariables false
namespace Go.Proofs.Ytdknjfmjddlphaa
open Go Go.Fk

set_option maxRecDepth 100000 in
theorem awake15_ok   {w : World}  : Gives Try.prog 32 #[] w fun u w' => u = (.bool true) ∧ Ext w w' := by
  have hE : Ext w w := Ext.refl w
  refine gives_of_W Try.func32 rfl Try.ntmps32 rfl ?_
  refine W.seq ?_
  refine W.region (by rfl) ?_
  refine L.val (v := (.bool false)) rfl (op_assign rfl rfl) ?_
  refine L.nil ?_
  refine thenF_nor ?_
  refine W.seq ?_
  refine W.region (by rfl) ?_
  refine L.val rfl (op_build (v := Enc.val (⟨1, 0, 0, 0, 0, 0, 0, 0⟩ : Nm)) (cs := Enc.cells (⟨1, 0, 0, 0, 0, 0, 0, 0⟩ : Nm)) rfl (partsC rfl partsN) (by kernel_rfl) rfl) ?_
  refine L.newvar (v := (Enc.val (⟨1, 0, 0, 0, 0, 0, 0, 0⟩ : Nm))) (cs := (Enc.cells (⟨1, 0, 0, 0, 0, 0, 0, 0⟩ : Nm))) rfl rfl rfl rfl rfl rfl (fun _ => rfl) rfl si24 zs24 (Enc.one _) ?_
  intro b1 w1 hb1 hB1 hx1
  have hbb1_hE := Nat.le_trans hE.size hb1
  have hE := hE.trans hx1
  refine L.nil ?_
  refine thenF_nor ?_
  refine W.seq ?_
  refine W.region (by rfl) ?_
  refine L.val rfl (op_load (v := (⟨1, 0, 0, 0, 0, 0, 0, 0⟩ : Nm)) rfl rfl ty24 hB1.cells) ?_
  refine L.val rfl (op_build (v := Enc.val (⟨1, 0, 0, 1, 0, 0, Nm.zero, (⟨1, 0, 0, 0, 0, 0, 0, 0⟩ : Nm)⟩ : Vt)) (cs := Enc.cells (⟨1, 0, 0, 1, 0, 0, Nm.zero, (⟨1, 0, 0, 0, 0, 0, 0, 0⟩ : Nm)⟩ : Vt)) rfl (partsC rfl (partsC rfl (partsC rfl partsN))) (by kernel_rfl) rfl) ?_
  refine L.val rfl (op_load (v := (⟨1, 0, 0, 0, 0, 0, 0, 0⟩ : Nm)) rfl rfl ty24 hB1.cells) ?_
  refine L.val rfl (op_build (v := Enc.val (⟨2, 0, 0, 1, 0, 0, Nm.zero, (⟨1, 0, 0, 0, 0, 0, 0, 0⟩ : Nm)⟩ : Vt)) (cs := Enc.cells (⟨2, 0, 0, 1, 0, 0, Nm.zero, (⟨1, 0, 0, 0, 0, 0, 0, 0⟩ : Nm)⟩ : Vt)) rfl (partsC rfl (partsC rfl (partsC rfl partsN))) (by kernel_rfl) rfl) ?_
  refine L.step rfl (op_sliceL ([(⟨1, 0, 0, 1, 0, 0, Nm.zero, (⟨1, 0, 0, 0, 0, 0, 0, 0⟩ : Nm)⟩ : Vt), (⟨2, 0, 0, 1, 0, 0, Nm.zero, (⟨1, 0, 0, 0, 0, 0, 0, 0⟩ : Nm)⟩ : Vt)] : List Vt) rfl (partsC rfl (partsC rfl partsN)) sl25 zs28 rfl (by decide) (by decide)) ?_
  rintro _ w2 ⟨b2, rfl, hb2, hR2, hx2⟩
  have hE := hE.trans hx2
  have hB1 := hB1.ext hx2
  have hlen2 := hR2.len
  refine L.val rfl (op_assign rfl rfl) ?_
  refine L.nil ?_
  refine thenF_nor ?_
  refine W.seq ?_
  refine W.region (by rfl) ?_
  refine L.val rfl (op_build (v := Enc.val (Nm.zero : Nm)) (cs := Enc.cells (Nm.zero : Nm)) rfl partsN (by kernel_rfl) rfl) ?_
  refine L.val rfl (op_move rfl rfl) ?_
  refine L.step rfl (OpS.call (op_call rfl (argsC rfl (argsC rfl (argsC rfl (argsC rfl argsN)))) Try.func28 rfl rfl) (Certified_ok hR2 (by first | omega | (simp only [List.length_drop, List.length_take, List.length_append, List.length_cons, List.length_nil] at *; omega)))) ?_
  rintro _ w3 ⟨⟨A3, c3, lo3, hi3, rfl, hcap3, hR3⟩, hx3⟩
  have hE := hE.trans hx3
  have hB1 := hB1.ext hx3
  have hR2 := hR2.ext hx3
  have hlen3 := hR3.len
  refine L.val rfl (op_assign rfl rfl) ?_
  refine L.nil ?_
  refine thenF_nor ?_
  refine W.seq ?_
  refine W.drawS [Sp.eq (.slice A3 (certified_f 1 Nm.zero ([(⟨1, 0, 0, 1, 0, 0, Nm.zero, (⟨1, 0, 0, 0, 0, 0, 0, 0⟩ : Nm)⟩ : Vt), (⟨2, 0, 0, 1, 0, 0, Nm.zero, (⟨1, 0, 0, 0, 0, 0, 0, 0⟩ : Nm)⟩ : Vt)] : List Vt) 0).length c3), Sp.eq (.int .i64 ((certified_f 1 Nm.zero ([(⟨1, 0, 0, 1, 0, 0, Nm.zero, (⟨1, 0, 0, 0, 0, 0, 0, 0⟩ : Nm)⟩ : Vt), (⟨2, 0, 0, 1, 0, 0, Nm.zero, (⟨1, 0, 0, 0, 0, 0, 0, 0⟩ : Nm)⟩ : Vt)] : List Vt) 0).length : Int)), Sp.eq (.bool (decide (((certified_f 1 Nm.zero ([(⟨1, 0, 0, 1, 0, 0, Nm.zero, (⟨1, 0, 0, 0, 0, 0, 0, 0⟩ : Nm)⟩ : Vt), (⟨2, 0, 0, 1, 0, 0, Nm.zero, (⟨1, 0, 0, 0, 0, 0, 0, 0⟩ : Nm)⟩ : Vt)] : List Vt) 0).length : Int) = 1))), Sp.eq (.bool (decide (((certified_f 1 Nm.zero ([(⟨1, 0, 0, 1, 0, 0, Nm.zero, (⟨1, 0, 0, 0, 0, 0, 0, 0⟩ : Nm)⟩ : Vt), (⟨2, 0, 0, 1, 0, 0, Nm.zero, (⟨1, 0, 0, 0, 0, 0, 0, 0⟩ : Nm)⟩ : Vt)] : List Vt) 0).length : Int) = 1))), Sp.eq (vif (decide (((certified_f 1 Nm.zero ([(⟨1, 0, 0, 1, 0, 0, Nm.zero, (⟨1, 0, 0, 0, 0, 0, 0, 0⟩ : Nm)⟩ : Vt), (⟨2, 0, 0, 1, 0, 0, Nm.zero, (⟨1, 0, 0, 0, 0, 0, 0, 0⟩ : Nm)⟩ : Vt)] : List Vt) 0).length : Int) = 1)) (.slice A3 (certified_f 1 Nm.zero ([(⟨1, 0, 0, 1, 0, 0, Nm.zero, (⟨1, 0, 0, 0, 0, 0, 0, 0⟩ : Nm)⟩ : Vt), (⟨2, 0, 0, 1, 0, 0, Nm.zero, (⟨1, 0, 0, 0, 0, 0, 0, 0⟩ : Nm)⟩ : Vt)] : List Vt) 0).length c3)), Sp.eq (vif (decide (((certified_f 1 Nm.zero ([(⟨1, 0, 0, 1, 0, 0, Nm.zero, (⟨1, 0, 0, 0, 0, 0, 0, 0⟩ : Nm)⟩ : Vt), (⟨2, 0, 0, 1, 0, 0, Nm.zero, (⟨1, 0, 0, 0, 0, 0, 0, 0⟩ : Nm)⟩ : Vt)] : List Vt) 0).length : Int) = 1)) (.pointer (some ((adr A3).add (0 * 8))))), Sp.eq (vif (decide (((certified_f 1 Nm.zero ([(⟨1, 0, 0, 1, 0, 0, Nm.zero, (⟨1, 0, 0, 0, 0, 0, 0, 0⟩ : Nm)⟩ : Vt), (⟨2, 0, 0, 1, 0, 0, Nm.zero, (⟨1, 0, 0, 0, 0, 0, 0, 0⟩ : Nm)⟩ : Vt)] : List Vt) 0).length : Int) = 1)) (Enc.val ((certified_f 1 Nm.zero ([(⟨1, 0, 0, 1, 0, 0, Nm.zero, (⟨1, 0, 0, 0, 0, 0, 0, 0⟩ : Nm)⟩ : Vt), (⟨2, 0, 0, 1, 0, 0, Nm.zero, (⟨1, 0, 0, 0, 0, 0, 0, 0⟩ : Nm)⟩ : Vt)] : List Vt) 0)[0]!))), Sp.eq (vif (decide (((certified_f 1 Nm.zero ([(⟨1, 0, 0, 1, 0, 0, Nm.zero, (⟨1, 0, 0, 0, 0, 0, 0, 0⟩ : Nm)⟩ : Vt), (⟨2, 0, 0, 1, 0, 0, Nm.zero, (⟨1, 0, 0, 0, 0, 0, 0, 0⟩ : Nm)⟩ : Vt)] : List Vt) 0).length : Int) = 1)) (Enc.val (⟨1, 0, 0, 0, 0, 0, 0, 0⟩ : Nm))), Sp.eq (vif (decide (((certified_f 1 Nm.zero ([(⟨1, 0, 0, 1, 0, 0, Nm.zero, (⟨1, 0, 0, 0, 0, 0, 0, 0⟩ : Nm)⟩ : Vt), (⟨2, 0, 0, 1, 0, 0, Nm.zero, (⟨1, 0, 0, 0, 0, 0, 0, 0⟩ : Nm)⟩ : Vt)] : List Vt) 0).length : Int) = 1)) (.bool (decide ((certified_f 1 Nm.zero ([(⟨1, 0, 0, 1, 0, 0, Nm.zero, (⟨1, 0, 0, 0, 0, 0, 0, 0⟩ : Nm)⟩ : Vt), (⟨2, 0, 0, 1, 0, 0, Nm.zero, (⟨1, 0, 0, 0, 0, 0, 0, 0⟩ : Nm)⟩ : Vt)] : List Vt) 0)[0]! = (⟨1, 0, 0, 0, 0, 0, 0, 0⟩ : Nm))))), Sp.eq (.bool ((decide (((certified_f 1 Nm.zero ([(⟨1, 0, 0, 1, 0, 0, Nm.zero, (⟨1, 0, 0, 0, 0, 0, 0, 0⟩ : Nm)⟩ : Vt), (⟨2, 0, 0, 1, 0, 0, Nm.zero, (⟨1, 0, 0, 0, 0, 0, 0, 0⟩ : Nm)⟩ : Vt)] : List Vt) 0).length : Int) = 1)) && (decide ((certified_f 1 Nm.zero ([(⟨1, 0, 0, 1, 0, 0, Nm.zero, (⟨1, 0, 0, 0, 0, 0, 0, 0⟩ : Nm)⟩ : Vt), (⟨2, 0, 0, 1, 0, 0, Nm.zero, (⟨1, 0, 0, 0, 0, 0, 0, 0⟩ : Nm)⟩ : Vt)] : List Vt) 0)[0]! = (⟨1, 0, 0, 0, 0, 0, 0, 0⟩ : Nm))))), Sp.eq (.bool ((decide (((certified_f 1 Nm.zero ([(⟨1, 0, 0, 1, 0, 0, Nm.zero, (⟨1, 0, 0, 0, 0, 0, 0, 0⟩ : Nm)⟩ : Vt), (⟨2, 0, 0, 1, 0, 0, Nm.zero, (⟨1, 0, 0, 0, 0, 0, 0, 0⟩ : Nm)⟩ : Vt)] : List Vt) 0).length : Int) = 1)) && (decide ((certified_f 1 Nm.zero ([(⟨1, 0, 0, 1, 0, 0, Nm.zero, (⟨1, 0, 0, 0, 0, 0, 0, 0⟩ : Nm)⟩ : Vt), (⟨2, 0, 0, 1, 0, 0, Nm.zero, (⟨1, 0, 0, 0, 0, 0, 0, 0⟩ : Nm)⟩ : Vt)] : List Vt) 0)[0]! = (⟨1, 0, 0, 0, 0, 0, 0, 0⟩ : Nm))))), Sp.eq (vif ((decide (((certified_f 1 Nm.zero ([(⟨1, 0, 0, 1, 0, 0, Nm.zero, (⟨1, 0, 0, 0, 0, 0, 0, 0⟩ : Nm)⟩ : Vt), (⟨2, 0, 0, 1, 0, 0, Nm.zero, (⟨1, 0, 0, 0, 0, 0, 0, 0⟩ : Nm)⟩ : Vt)] : List Vt) 0).length : Int) = 1)) && (decide ((certified_f 1 Nm.zero ([(⟨1, 0, 0, 1, 0, 0, Nm.zero, (⟨1, 0, 0, 0, 0, 0, 0, 0⟩ : Nm)⟩ : Vt), (⟨2, 0, 0, 1, 0, 0, Nm.zero, (⟨1, 0, 0, 0, 0, 0, 0, 0⟩ : Nm)⟩ : Vt)] : List Vt) 0)[0]! = (⟨1, 0, 0, 0, 0, 0, 0, 0⟩ : Nm)))) (Enc.val (Nm.zero : Nm))), Sp.eq (vif ((decide (((certified_f 1 Nm.zero ([(⟨1, 0, 0, 1, 0, 0, Nm.zero, (⟨1, 0, 0, 0, 0, 0, 0, 0⟩ : Nm)⟩ : Vt), (⟨2, 0, 0, 1, 0, 0, Nm.zero, (⟨1, 0, 0, 0, 0, 0, 0, 0⟩ : Nm)⟩ : Vt)] : List Vt) 0).length : Int) = 1)) && (decide ((certified_f 1 Nm.zero ([(⟨1, 0, 0, 1, 0, 0, Nm.zero, (⟨1, 0, 0, 0, 0, 0, 0, 0⟩ : Nm)⟩ : Vt), (⟨2, 0, 0, 1, 0, 0, Nm.zero, (⟨1, 0, 0, 0, 0, 0, 0, 0⟩ : Nm)⟩ : Vt)] : List Vt) 0)[0]! = (⟨1, 0, 0, 0, 0, 0, 0, 0⟩ : Nm)))) (.slice (some ⟨b2, 0, none⟩) ([(⟨1, 0, 0, 1, 0, 0, Nm.zero, (⟨1, 0, 0, 0, 0, 0, 0, 0⟩ : Nm)⟩ : Vt), (⟨2, 0, 0, 1, 0, 0, Nm.zero, (⟨1, 0, 0, 0, 0, 0, 0, 0⟩ : Nm)⟩ : Vt)] : List Vt).length ([(⟨1, 0, 0, 1, 0, 0, Nm.zero, (⟨1, 0, 0, 0, 0, 0, 0, 0⟩ : Nm)⟩ : Vt), (⟨2, 0, 0, 1, 0, 0, Nm.zero, (⟨1, 0, 0, 0, 0, 0, 0, 0⟩ : Nm)⟩ : Vt)] : List Vt).length)), Sp.eq (vif ((decide (((certified_f 1 Nm.zero ([(⟨1, 0, 0, 1, 0, 0, Nm.zero, (⟨1, 0, 0, 0, 0, 0, 0, 0⟩ : Nm)⟩ : Vt), (⟨2, 0, 0, 1, 0, 0, Nm.zero, (⟨1, 0, 0, 0, 0, 0, 0, 0⟩ : Nm)⟩ : Vt)] : List Vt) 0).length : Int) = 1)) && (decide ((certified_f 1 Nm.zero ([(⟨1, 0, 0, 1, 0, 0, Nm.zero, (⟨1, 0, 0, 0, 0, 0, 0, 0⟩ : Nm)⟩ : Vt), (⟨2, 0, 0, 1, 0, 0, Nm.zero, (⟨1, 0, 0, 0, 0, 0, 0, 0⟩ : Nm)⟩ : Vt)] : List Vt) 0)[0]! = (⟨1, 0, 0, 0, 0, 0, 0, 0⟩ : Nm)))) (Enc.val (⟨1, 0, 0, 0, 0, 0, 0, 0⟩ : Nm))), Sp.eq (vif ((decide (((certified_f 1 Nm.zero ([(⟨1, 0, 0, 1, 0, 0, Nm.zero, (⟨1, 0, 0, 0, 0, 0, 0, 0⟩ : Nm)⟩ : Vt), (⟨2, 0, 0, 1, 0, 0, Nm.zero, (⟨1, 0, 0, 0, 0, 0, 0, 0⟩ : Nm)⟩ : Vt)] : List Vt) 0).length : Int) = 1)) && (decide ((certified_f 1 Nm.zero ([(⟨1, 0, 0, 1, 0, 0, Nm.zero, (⟨1, 0, 0, 0, 0, 0, 0, 0⟩ : Nm)⟩ : Vt), (⟨2, 0, 0, 1, 0, 0, Nm.zero, (⟨1, 0, 0, 0, 0, 0, 0, 0⟩ : Nm)⟩ : Vt)] : List Vt) 0)[0]! = (⟨1, 0, 0, 0, 0, 0, 0, 0⟩ : Nm)))) (.int .i64 (echoers_f 1 Nm.zero ([(⟨1, 0, 0, 1, 0, 0, Nm.zero, (⟨1, 0, 0, 0, 0, 0, 0, 0⟩ : Nm)⟩ : Vt), (⟨2, 0, 0, 1, 0, 0, Nm.zero, (⟨1, 0, 0, 0, 0, 0, 0, 0⟩ : Nm)⟩ : Vt)] : List Vt) 0 (⟨1, 0, 0, 0, 0, 0, 0, 0⟩ : Nm)))), Sp.eq (vif ((decide (((certified_f 1 Nm.zero ([(⟨1, 0, 0, 1, 0, 0, Nm.zero, (⟨1, 0, 0, 0, 0, 0, 0, 0⟩ : Nm)⟩ : Vt), (⟨2, 0, 0, 1, 0, 0, Nm.zero, (⟨1, 0, 0, 0, 0, 0, 0, 0⟩ : Nm)⟩ : Vt)] : List Vt) 0).length : Int) = 1)) && (decide ((certified_f 1 Nm.zero ([(⟨1, 0, 0, 1, 0, 0, Nm.zero, (⟨1, 0, 0, 0, 0, 0, 0, 0⟩ : Nm)⟩ : Vt), (⟨2, 0, 0, 1, 0, 0, Nm.zero, (⟨1, 0, 0, 0, 0, 0, 0, 0⟩ : Nm)⟩ : Vt)] : List Vt) 0)[0]! = (⟨1, 0, 0, 0, 0, 0, 0, 0⟩ : Nm)))) (.bool (decide ((echoers_f 1 Nm.zero ([(⟨1, 0, 0, 1, 0, 0, Nm.zero, (⟨1, 0, 0, 0, 0, 0, 0, 0⟩ : Nm)⟩ : Vt), (⟨2, 0, 0, 1, 0, 0, Nm.zero, (⟨1, 0, 0, 0, 0, 0, 0, 0⟩ : Nm)⟩ : Vt)] : List Vt) 0 (⟨1, 0, 0, 0, 0, 0, 0, 0⟩ : Nm)) = 1)))), Sp.eq (.bool (((decide (((certified_f 1 Nm.zero ([(⟨1, 0, 0, 1, 0, 0, Nm.zero, (⟨1, 0, 0, 0, 0, 0, 0, 0⟩ : Nm)⟩ : Vt), (⟨2, 0, 0, 1, 0, 0, Nm.zero, (⟨1, 0, 0, 0, 0, 0, 0, 0⟩ : Nm)⟩ : Vt)] : List Vt) 0).length : Int) = 1)) && (decide ((certified_f 1 Nm.zero ([(⟨1, 0, 0, 1, 0, 0, Nm.zero, (⟨1, 0, 0, 0, 0, 0, 0, 0⟩ : Nm)⟩ : Vt), (⟨2, 0, 0, 1, 0, 0, Nm.zero, (⟨1, 0, 0, 0, 0, 0, 0, 0⟩ : Nm)⟩ : Vt)] : List Vt) 0)[0]! = (⟨1, 0, 0, 0, 0, 0, 0, 0⟩ : Nm)))) && (decide ((echoers_f 1 Nm.zero ([(⟨1, 0, 0, 1, 0, 0, Nm.zero, (⟨1, 0, 0, 0, 0, 0, 0, 0⟩ : Nm)⟩ : Vt), (⟨2, 0, 0, 1, 0, 0, Nm.zero, (⟨1, 0, 0, 0, 0, 0, 0, 0⟩ : Nm)⟩ : Vt)] : List Vt) 0 (⟨1, 0, 0, 0, 0, 0, 0, 0⟩ : Nm)) = 1)))), Sp.eq (.bool (((decide (((certified_f 1 Nm.zero ([(⟨1, 0, 0, 1, 0, 0, Nm.zero, (⟨1, 0, 0, 0, 0, 0, 0, 0⟩ : Nm)⟩ : Vt), (⟨2, 0, 0, 1, 0, 0, Nm.zero, (⟨1, 0, 0, 0, 0, 0, 0, 0⟩ : Nm)⟩ : Vt)] : List Vt) 0).length : Int) = 1)) && (decide ((certified_f 1 Nm.zero ([(⟨1, 0, 0, 1, 0, 0, Nm.zero, (⟨1, 0, 0, 0, 0, 0, 0, 0⟩ : Nm)⟩ : Vt), (⟨2, 0, 0, 1, 0, 0, Nm.zero, (⟨1, 0, 0, 0, 0, 0, 0, 0⟩ : Nm)⟩ : Vt)] : List Vt) 0)[0]! = (⟨1, 0, 0, 0, 0, 0, 0, 0⟩ : Nm)))) && (decide ((echoers_f 1 Nm.zero ([(⟨1, 0, 0, 1, 0, 0, Nm.zero, (⟨1, 0, 0, 0, 0, 0, 0, 0⟩ : Nm)⟩ : Vt), (⟨2, 0, 0, 1, 0, 0, Nm.zero, (⟨1, 0, 0, 0, 0, 0, 0, 0⟩ : Nm)⟩ : Vt)] : List Vt) 0 (⟨1, 0, 0, 0, 0, 0, 0, 0⟩ : Nm)) = 1))))] mixed (by rfl) (Obls.cons ?_ (Obls.cons ?_ (Obls.cons ?_ (Obls.cons ?_ (Obls.cons ?_ (Obls.cons ?_ (Obls.cons ?_ (Obls.cons ?_ (Obls.cons ?_ (Obls.cons ?_ (Obls.cons ?_ (Obls.cons ?_ (Obls.cons ?_ (Obls.cons ?_ (Obls.cons ?_ (Obls.cons ?_ (Obls.cons ?_ (Obls.cons ?_ Obls.nil)))))))))))))))))) ?_
  · intro f5 w5 hx5 ho5 hd5
    have d5_s3 : f5 3 = (.slice A3 (certified_f 1 Nm.zero ([(⟨1, 0, 0, 1, 0, 0, Nm.zero, (⟨1, 0, 0, 0, 0, 0, 0, 0⟩ : Nm)⟩ : Vt), (⟨2, 0, 0, 1, 0, 0, Nm.zero, (⟨1, 0, 0, 0, 0, 0, 0, 0⟩ : Nm)⟩ : Vt)] : List Vt) 0).length c3) := ho5 3 rfl
    exact D.val rfl (op_move rfl d5_s3)
  · intro f6 w6 hx6 ho6 hd6
    have d6_0 : f6 13 = (.slice A3 (certified_f 1 Nm.zero ([(⟨1, 0, 0, 1, 0, 0, Nm.zero, (⟨1, 0, 0, 0, 0, 0, 0, 0⟩ : Nm)⟩ : Vt), (⟨2, 0, 0, 1, 0, 0, Nm.zero, (⟨1, 0, 0, 0, 0, 0, 0, 0⟩ : Nm)⟩ : Vt)] : List Vt) 0).length c3) := hd6 0 rfl
    have hB1 := hB1.ext hx6
    have hR2 := hR2.ext hx6
    have hR3 := hR3.ext hx6
    exact D.val rfl (op_len rfl d6_0 ln40)
  · intro f7 w7 hx7 ho7 hd7
    have d7_1 : f7 14 = (.int .i64 ((certified_f 1 Nm.zero ([(⟨1, 0, 0, 1, 0, 0, Nm.zero, (⟨1, 0, 0, 0, 0, 0, 0, 0⟩ : Nm)⟩ : Vt), (⟨2, 0, 0, 1, 0, 0, Nm.zero, (⟨1, 0, 0, 0, 0, 0, 0, 0⟩ : Nm)⟩ : Vt)] : List Vt) 0).length : Int)) := hd7 1 rfl
    exact D.val rfl (op_eql rfl d7_1 rfl)
  · intro f8 w8 hx8 ho8 hd8
    have d8_2 : f8 15 = (.bool (decide (((certified_f 1 Nm.zero ([(⟨1, 0, 0, 1, 0, 0, Nm.zero, (⟨1, 0, 0, 0, 0, 0, 0, 0⟩ : Nm)⟩ : Vt), (⟨2, 0, 0, 1, 0, 0, Nm.zero, (⟨1, 0, 0, 0, 0, 0, 0, 0⟩ : Nm)⟩ : Vt)] : List Vt) 0).length : Int) = 1))) := hd8 2 rfl
    exact D.val rfl (op_move rfl d8_2)
  · intro f9 w9 hx9 ho9 hd9
    have d9_s3 : f9 3 = (.slice A3 (certified_f 1 Nm.zero ([(⟨1, 0, 0, 1, 0, 0, Nm.zero, (⟨1, 0, 0, 0, 0, 0, 0, 0⟩ : Nm)⟩ : Vt), (⟨2, 0, 0, 1, 0, 0, Nm.zero, (⟨1, 0, 0, 0, 0, 0, 0, 0⟩ : Nm)⟩ : Vt)] : List Vt) 0).length c3) := ho9 3 rfl
    have d9_3 : f9 16 = (.bool (decide (((certified_f 1 Nm.zero ([(⟨1, 0, 0, 1, 0, 0, Nm.zero, (⟨1, 0, 0, 0, 0, 0, 0, 0⟩ : Nm)⟩ : Vt), (⟨2, 0, 0, 1, 0, 0, Nm.zero, (⟨1, 0, 0, 0, 0, 0, 0, 0⟩ : Nm)⟩ : Vt)] : List Vt) 0).length : Int) = 1))) := hd9 3 rfl
    exact D.guardv (wanted_yes rfl rfl d9_3) (fun hg => (op_move rfl d9_s3))
  · intro f10 w10 hx10 ho10 hd10
    have d10_3 : f10 16 = (.bool (decide (((certified_f 1 Nm.zero ([(⟨1, 0, 0, 1, 0, 0, Nm.zero, (⟨1, 0, 0, 0, 0, 0, 0, 0⟩ : Nm)⟩ : Vt), (⟨2, 0, 0, 1, 0, 0, Nm.zero, (⟨1, 0, 0, 0, 0, 0, 0, 0⟩ : Nm)⟩ : Vt)] : List Vt) 0).length : Int) = 1))) := hd10 3 rfl
    have d10_4 : f10 17 = (vif (decide (((certified_f 1 Nm.zero ([(⟨1, 0, 0, 1, 0, 0, Nm.zero, (⟨1, 0, 0, 0, 0, 0, 0, 0⟩ : Nm)⟩ : Vt), (⟨2, 0, 0, 1, 0, 0, Nm.zero, (⟨1, 0, 0, 0, 0, 0, 0, 0⟩ : Nm)⟩ : Vt)] : List Vt) 0).length : Int) = 1)) (.slice A3 (certified_f 1 Nm.zero ([(⟨1, 0, 0, 1, 0, 0, Nm.zero, (⟨1, 0, 0, 0, 0, 0, 0, 0⟩ : Nm)⟩ : Vt), (⟨2, 0, 0, 1, 0, 0, Nm.zero, (⟨1, 0, 0, 0, 0, 0, 0, 0⟩ : Nm)⟩ : Vt)] : List Vt) 0).length c3)) := hd10 4 rfl
    have hB1 := hB1.ext hx10
    have hR2 := hR2.ext hx10
    have hR3 := hR3.ext hx10
    exact D.guardv (wanted_yes rfl rfl d10_3) (fun hg => by have hp := hg; simp only [Bool.and_eq_true, Bool.or_eq_true, Bool.not_eq_true', decide_eq_true_eq, decide_eq_false_iff_not, bne_iff_ne, beq_iff_eq] at hp; skip; exact (op_index (k := 0) rfl ((show _ = vif _ (.slice A3 (certified_f 1 Nm.zero ([(⟨1, 0, 0, 1, 0, 0, Nm.zero, (⟨1, 0, 0, 0, 0, 0, 0, 0⟩ : Nm)⟩ : Vt), (⟨2, 0, 0, 1, 0, 0, Nm.zero, (⟨1, 0, 0, 0, 0, 0, 0, 0⟩ : Nm)⟩ : Vt)] : List Vt) 0).length c3) from d10_4).trans (vif_t hg).symm) rfl sl40 (hR3.getA (get_bang (l := certified_f 1 Nm.zero ([(⟨1, 0, 0, 1, 0, 0, Nm.zero, (⟨1, 0, 0, 0, 0, 0, 0, 0⟩ : Nm)⟩ : Vt), (⟨2, 0, 0, 1, 0, 0, Nm.zero, (⟨1, 0, 0, 0, 0, 0, 0, 0⟩ : Nm)⟩ : Vt)] : List Vt) 0) (k := 0) (by omega))).1 rfl (by omega) rfl))
  · intro f11 w11 hx11 ho11 hd11
    have d11_3 : f11 16 = (.bool (decide (((certified_f 1 Nm.zero ([(⟨1, 0, 0, 1, 0, 0, Nm.zero, (⟨1, 0, 0, 0, 0, 0, 0, 0⟩ : Nm)⟩ : Vt), (⟨2, 0, 0, 1, 0, 0, Nm.zero, (⟨1, 0, 0, 0, 0, 0, 0, 0⟩ : Nm)⟩ : Vt)] : List Vt) 0).length : Int) = 1))) := hd11 3 rfl
    have d11_5 : f11 18 = (vif (decide (((certified_f 1 Nm.zero ([(⟨1, 0, 0, 1, 0, 0, Nm.zero, (⟨1, 0, 0, 0, 0, 0, 0, 0⟩ : Nm)⟩ : Vt), (⟨2, 0, 0, 1, 0, 0, Nm.zero, (⟨1, 0, 0, 0, 0, 0, 0, 0⟩ : Nm)⟩ : Vt)] : List Vt) 0).length : Int) = 1)) (.pointer (some ((adr A3).add (0 * 8))))) := hd11 5 rfl
    have hB1 := hB1.ext hx11
    have hR2 := hR2.ext hx11
    have hR3 := hR3.ext hx11
    exact D.guardv (wanted_yes rfl rfl d11_3) (fun hg => by have hp := hg; simp only [Bool.and_eq_true, Bool.or_eq_true, Bool.not_eq_true', decide_eq_true_eq, decide_eq_false_iff_not, bne_iff_ne, beq_iff_eq] at hp; skip; exact (op_load (v := (certified_f 1 Nm.zero ([(⟨1, 0, 0, 1, 0, 0, Nm.zero, (⟨1, 0, 0, 0, 0, 0, 0, 0⟩ : Nm)⟩ : Vt), (⟨2, 0, 0, 1, 0, 0, Nm.zero, (⟨1, 0, 0, 0, 0, 0, 0, 0⟩ : Nm)⟩ : Vt)] : List Vt) 0)[0]!) rfl ((show _ = vif _ (.pointer (some ((adr A3).add (0 * 8)))) from d11_5).trans (vif_t hg).symm) ty24 (hR3.getA (get_bang (l := certified_f 1 Nm.zero ([(⟨1, 0, 0, 1, 0, 0, Nm.zero, (⟨1, 0, 0, 0, 0, 0, 0, 0⟩ : Nm)⟩ : Vt), (⟨2, 0, 0, 1, 0, 0, Nm.zero, (⟨1, 0, 0, 0, 0, 0, 0, 0⟩ : Nm)⟩ : Vt)] : List Vt) 0) (k := 0) (by omega))).2))
  · intro f12 w12 hx12 ho12 hd12
    have d12_s1 : f12 1 = (.pointer (some ⟨b1, 0, none⟩)) := ho12 1 rfl
    have d12_3 : f12 16 = (.bool (decide (((certified_f 1 Nm.zero ([(⟨1, 0, 0, 1, 0, 0, Nm.zero, (⟨1, 0, 0, 0, 0, 0, 0, 0⟩ : Nm)⟩ : Vt), (⟨2, 0, 0, 1, 0, 0, Nm.zero, (⟨1, 0, 0, 0, 0, 0, 0, 0⟩ : Nm)⟩ : Vt)] : List Vt) 0).length : Int) = 1))) := hd12 3 rfl
    have hB1 := hB1.ext hx12
    have hR2 := hR2.ext hx12
    have hR3 := hR3.ext hx12
    exact D.guardv (wanted_yes rfl rfl d12_3) (fun hg => (op_load (v := (⟨1, 0, 0, 0, 0, 0, 0, 0⟩ : Nm)) rfl d12_s1 ty24 hB1.cells))
  · intro f13 w13 hx13 ho13 hd13
    have d13_3 : f13 16 = (.bool (decide (((certified_f 1 Nm.zero ([(⟨1, 0, 0, 1, 0, 0, Nm.zero, (⟨1, 0, 0, 0, 0, 0, 0, 0⟩ : Nm)⟩ : Vt), (⟨2, 0, 0, 1, 0, 0, Nm.zero, (⟨1, 0, 0, 0, 0, 0, 0, 0⟩ : Nm)⟩ : Vt)] : List Vt) 0).length : Int) = 1))) := hd13 3 rfl
    have d13_6 : f13 19 = (vif (decide (((certified_f 1 Nm.zero ([(⟨1, 0, 0, 1, 0, 0, Nm.zero, (⟨1, 0, 0, 0, 0, 0, 0, 0⟩ : Nm)⟩ : Vt), (⟨2, 0, 0, 1, 0, 0, Nm.zero, (⟨1, 0, 0, 0, 0, 0, 0, 0⟩ : Nm)⟩ : Vt)] : List Vt) 0).length : Int) = 1)) (Enc.val ((certified_f 1 Nm.zero ([(⟨1, 0, 0, 1, 0, 0, Nm.zero, (⟨1, 0, 0, 0, 0, 0, 0, 0⟩ : Nm)⟩ : Vt), (⟨2, 0, 0, 1, 0, 0, Nm.zero, (⟨1, 0, 0, 0, 0, 0, 0, 0⟩ : Nm)⟩ : Vt)] : List Vt) 0)[0]!))) := hd13 6 rfl
    have d13_7 : f13 20 = (vif (decide (((certified_f 1 Nm.zero ([(⟨1, 0, 0, 1, 0, 0, Nm.zero, (⟨1, 0, 0, 0, 0, 0, 0, 0⟩ : Nm)⟩ : Vt), (⟨2, 0, 0, 1, 0, 0, Nm.zero, (⟨1, 0, 0, 0, 0, 0, 0, 0⟩ : Nm)⟩ : Vt)] : List Vt) 0).length : Int) = 1)) (Enc.val (⟨1, 0, 0, 0, 0, 0, 0, 0⟩ : Nm))) := hd13 7 rfl
    exact D.guardv (wanted_yes rfl rfl d13_3) (fun hg => (op_eqle (a := ((certified_f 1 Nm.zero ([(⟨1, 0, 0, 1, 0, 0, Nm.zero, (⟨1, 0, 0, 0, 0, 0, 0, 0⟩ : Nm)⟩ : Vt), (⟨2, 0, 0, 1, 0, 0, Nm.zero, (⟨1, 0, 0, 0, 0, 0, 0, 0⟩ : Nm)⟩ : Vt)] : List Vt) 0)[0]! : Nm)) (b := ((⟨1, 0, 0, 0, 0, 0, 0, 0⟩ : Nm) : Nm)) rfl ((show _ = vif _ (Enc.val ((certified_f 1 Nm.zero ([(⟨1, 0, 0, 1, 0, 0, Nm.zero, (⟨1, 0, 0, 0, 0, 0, 0, 0⟩ : Nm)⟩ : Vt), (⟨2, 0, 0, 1, 0, 0, Nm.zero, (⟨1, 0, 0, 0, 0, 0, 0, 0⟩ : Nm)⟩ : Vt)] : List Vt) 0)[0]!)) from d13_6).trans (vif_t hg).symm) ((show _ = vif _ (Enc.val (⟨1, 0, 0, 0, 0, 0, 0, 0⟩ : Nm)) from d13_7).trans (vif_t hg).symm) eq24 (fun _ => ⟨_, rfl⟩) Try.eqGuardType24))
  · intro f14 w14 hx14 ho14 hd14
    have d14_3 : f14 16 = (.bool (decide (((certified_f 1 Nm.zero ([(⟨1, 0, 0, 1, 0, 0, Nm.zero, (⟨1, 0, 0, 0, 0, 0, 0, 0⟩ : Nm)⟩ : Vt), (⟨2, 0, 0, 1, 0, 0, Nm.zero, (⟨1, 0, 0, 0, 0, 0, 0, 0⟩ : Nm)⟩ : Vt)] : List Vt) 0).length : Int) = 1))) := hd14 3 rfl
    have d14_8 : f14 21 = (vif (decide (((certified_f 1 Nm.zero ([(⟨1, 0, 0, 1, 0, 0, Nm.zero, (⟨1, 0, 0, 0, 0, 0, 0, 0⟩ : Nm)⟩ : Vt), (⟨2, 0, 0, 1, 0, 0, Nm.zero, (⟨1, 0, 0, 0, 0, 0, 0, 0⟩ : Nm)⟩ : Vt)] : List Vt) 0).length : Int) = 1)) (.bool (decide ((certified_f 1 Nm.zero ([(⟨1, 0, 0, 1, 0, 0, Nm.zero, (⟨1, 0, 0, 0, 0, 0, 0, 0⟩ : Nm)⟩ : Vt), (⟨2, 0, 0, 1, 0, 0, Nm.zero, (⟨1, 0, 0, 0, 0, 0, 0, 0⟩ : Nm)⟩ : Vt)] : List Vt) 0)[0]! = (⟨1, 0, 0, 0, 0, 0, 0, 0⟩ : Nm))))) := hd14 8 rfl
    exact D.val rfl (op_and rfl d14_3 d14_8 rfl)
  · intro f15 w15 hx15 ho15 hd15
    have d15_9 : f15 22 = (.bool ((decide (((certified_f 1 Nm.zero ([(⟨1, 0, 0, 1, 0, 0, Nm.zero, (⟨1, 0, 0, 0, 0, 0, 0, 0⟩ : Nm)⟩ : Vt), (⟨2, 0, 0, 1, 0, 0, Nm.zero, (⟨1, 0, 0, 0, 0, 0, 0, 0⟩ : Nm)⟩ : Vt)] : List Vt) 0).length : Int) = 1)) && (decide ((certified_f 1 Nm.zero ([(⟨1, 0, 0, 1, 0, 0, Nm.zero, (⟨1, 0, 0, 0, 0, 0, 0, 0⟩ : Nm)⟩ : Vt), (⟨2, 0, 0, 1, 0, 0, Nm.zero, (⟨1, 0, 0, 0, 0, 0, 0, 0⟩ : Nm)⟩ : Vt)] : List Vt) 0)[0]! = (⟨1, 0, 0, 0, 0, 0, 0, 0⟩ : Nm))))) := hd15 9 rfl
    exact D.val rfl (op_move rfl d15_9)
  · intro f16 w16 hx16 ho16 hd16
    have d16_10 : f16 23 = (.bool ((decide (((certified_f 1 Nm.zero ([(⟨1, 0, 0, 1, 0, 0, Nm.zero, (⟨1, 0, 0, 0, 0, 0, 0, 0⟩ : Nm)⟩ : Vt), (⟨2, 0, 0, 1, 0, 0, Nm.zero, (⟨1, 0, 0, 0, 0, 0, 0, 0⟩ : Nm)⟩ : Vt)] : List Vt) 0).length : Int) = 1)) && (decide ((certified_f 1 Nm.zero ([(⟨1, 0, 0, 1, 0, 0, Nm.zero, (⟨1, 0, 0, 0, 0, 0, 0, 0⟩ : Nm)⟩ : Vt), (⟨2, 0, 0, 1, 0, 0, Nm.zero, (⟨1, 0, 0, 0, 0, 0, 0, 0⟩ : Nm)⟩ : Vt)] : List Vt) 0)[0]! = (⟨1, 0, 0, 0, 0, 0, 0, 0⟩ : Nm))))) := hd16 10 rfl
    exact D.guardv (wanted_yes rfl rfl d16_10) (fun hg => (op_build (v := Enc.val (Nm.zero : Nm)) (cs := Enc.cells (Nm.zero : Nm)) rfl partsN (by kernel_rfl) rfl))
  · intro f17 w17 hx17 ho17 hd17
    have d17_s2 : f17 2 = (.slice (some ⟨b2, 0, none⟩) ([(⟨1, 0, 0, 1, 0, 0, Nm.zero, (⟨1, 0, 0, 0, 0, 0, 0, 0⟩ : Nm)⟩ : Vt), (⟨2, 0, 0, 1, 0, 0, Nm.zero, (⟨1, 0, 0, 0, 0, 0, 0, 0⟩ : Nm)⟩ : Vt)] : List Vt).length ([(⟨1, 0, 0, 1, 0, 0, Nm.zero, (⟨1, 0, 0, 0, 0, 0, 0, 0⟩ : Nm)⟩ : Vt), (⟨2, 0, 0, 1, 0, 0, Nm.zero, (⟨1, 0, 0, 0, 0, 0, 0, 0⟩ : Nm)⟩ : Vt)] : List Vt).length) := ho17 2 rfl
    have d17_10 : f17 23 = (.bool ((decide (((certified_f 1 Nm.zero ([(⟨1, 0, 0, 1, 0, 0, Nm.zero, (⟨1, 0, 0, 0, 0, 0, 0, 0⟩ : Nm)⟩ : Vt), (⟨2, 0, 0, 1, 0, 0, Nm.zero, (⟨1, 0, 0, 0, 0, 0, 0, 0⟩ : Nm)⟩ : Vt)] : List Vt) 0).length : Int) = 1)) && (decide ((certified_f 1 Nm.zero ([(⟨1, 0, 0, 1, 0, 0, Nm.zero, (⟨1, 0, 0, 0, 0, 0, 0, 0⟩ : Nm)⟩ : Vt), (⟨2, 0, 0, 1, 0, 0, Nm.zero, (⟨1, 0, 0, 0, 0, 0, 0, 0⟩ : Nm)⟩ : Vt)] : List Vt) 0)[0]! = (⟨1, 0, 0, 0, 0, 0, 0, 0⟩ : Nm))))) := hd17 10 rfl
    exact D.guardv (wanted_yes rfl rfl d17_10) (fun hg => (op_move rfl d17_s2))
  · intro f18 w18 hx18 ho18 hd18
    have d18_s1 : f18 1 = (.pointer (some ⟨b1, 0, none⟩)) := ho18 1 rfl
    have d18_10 : f18 23 = (.bool ((decide (((certified_f 1 Nm.zero ([(⟨1, 0, 0, 1, 0, 0, Nm.zero, (⟨1, 0, 0, 0, 0, 0, 0, 0⟩ : Nm)⟩ : Vt), (⟨2, 0, 0, 1, 0, 0, Nm.zero, (⟨1, 0, 0, 0, 0, 0, 0, 0⟩ : Nm)⟩ : Vt)] : List Vt) 0).length : Int) = 1)) && (decide ((certified_f 1 Nm.zero ([(⟨1, 0, 0, 1, 0, 0, Nm.zero, (⟨1, 0, 0, 0, 0, 0, 0, 0⟩ : Nm)⟩ : Vt), (⟨2, 0, 0, 1, 0, 0, Nm.zero, (⟨1, 0, 0, 0, 0, 0, 0, 0⟩ : Nm)⟩ : Vt)] : List Vt) 0)[0]! = (⟨1, 0, 0, 0, 0, 0, 0, 0⟩ : Nm))))) := hd18 10 rfl
    have hB1 := hB1.ext hx18
    have hR2 := hR2.ext hx18
    have hR3 := hR3.ext hx18
    exact D.guardv (wanted_yes rfl rfl d18_10) (fun hg => (op_load (v := (⟨1, 0, 0, 0, 0, 0, 0, 0⟩ : Nm)) rfl d18_s1 ty24 hB1.cells))
  · intro f19 w19 hx19 ho19 hd19
    have d19_10 : f19 23 = (.bool ((decide (((certified_f 1 Nm.zero ([(⟨1, 0, 0, 1, 0, 0, Nm.zero, (⟨1, 0, 0, 0, 0, 0, 0, 0⟩ : Nm)⟩ : Vt), (⟨2, 0, 0, 1, 0, 0, Nm.zero, (⟨1, 0, 0, 0, 0, 0, 0, 0⟩ : Nm)⟩ : Vt)] : List Vt) 0).length : Int) = 1)) && (decide ((certified_f 1 Nm.zero ([(⟨1, 0, 0, 1, 0, 0, Nm.zero, (⟨1, 0, 0, 0, 0, 0, 0, 0⟩ : Nm)⟩ : Vt), (⟨2, 0, 0, 1, 0, 0, Nm.zero, (⟨1, 0, 0, 0, 0, 0, 0, 0⟩ : Nm)⟩ : Vt)] : List Vt) 0)[0]! = (⟨1, 0, 0, 0, 0, 0, 0, 0⟩ : Nm))))) := hd19 10 rfl
    have d19_11 : f19 24 = (vif ((decide (((certified_f 1 Nm.zero ([(⟨1, 0, 0, 1, 0, 0, Nm.zero, (⟨1, 0, 0, 0, 0, 0, 0, 0⟩ : Nm)⟩ : Vt), (⟨2, 0, 0, 1, 0, 0, Nm.zero, (⟨1, 0, 0, 0, 0, 0, 0, 0⟩ : Nm)⟩ : Vt)] : List Vt) 0).length : Int) = 1)) && (decide ((certified_f 1 Nm.zero ([(⟨1, 0, 0, 1, 0, 0, Nm.zero, (⟨1, 0, 0, 0, 0, 0, 0, 0⟩ : Nm)⟩ : Vt), (⟨2, 0, 0, 1, 0, 0, Nm.zero, (⟨1, 0, 0, 0, 0, 0, 0, 0⟩ : Nm)⟩ : Vt)] : List Vt) 0)[0]! = (⟨1, 0, 0, 0, 0, 0, 0, 0⟩ : Nm)))) (Enc.val (Nm.zero : Nm))) := hd19 11 rfl
    have d19_12 : f19 25 = (vif ((decide (((certified_f 1 Nm.zero ([(⟨1, 0, 0, 1, 0, 0, Nm.zero, (⟨1, 0, 0, 0, 0, 0, 0, 0⟩ : Nm)⟩ : Vt), (⟨2, 0, 0, 1, 0, 0, Nm.zero, (⟨1, 0, 0, 0, 0, 0, 0, 0⟩ : Nm)⟩ : Vt)] : List Vt) 0).length : Int) = 1)) && (decide ((certified_f 1 Nm.zero ([(⟨1, 0, 0, 1, 0, 0, Nm.zero, (⟨1, 0, 0, 0, 0, 0, 0, 0⟩ : Nm)⟩ : Vt), (⟨2, 0, 0, 1, 0, 0, Nm.zero, (⟨1, 0, 0, 0, 0, 0, 0, 0⟩ : Nm)⟩ : Vt)] : List Vt) 0)[0]! = (⟨1, 0, 0, 0, 0, 0, 0, 0⟩ : Nm)))) (.slice (some ⟨b2, 0, none⟩) ([(⟨1, 0, 0, 1, 0, 0, Nm.zero, (⟨1, 0, 0, 0, 0, 0, 0, 0⟩ : Nm)⟩ : Vt), (⟨2, 0, 0, 1, 0, 0, Nm.zero, (⟨1, 0, 0, 0, 0, 0, 0, 0⟩ : Nm)⟩ : Vt)] : List Vt).length ([(⟨1, 0, 0, 1, 0, 0, Nm.zero, (⟨1, 0, 0, 0, 0, 0, 0, 0⟩ : Nm)⟩ : Vt), (⟨2, 0, 0, 1, 0, 0, Nm.zero, (⟨1, 0, 0, 0, 0, 0, 0, 0⟩ : Nm)⟩ : Vt)] : List Vt).length)) := hd19 12 rfl
    have d19_13 : f19 26 = (vif ((decide (((certified_f 1 Nm.zero ([(⟨1, 0, 0, 1, 0, 0, Nm.zero, (⟨1, 0, 0, 0, 0, 0, 0, 0⟩ : Nm)⟩ : Vt), (⟨2, 0, 0, 1, 0, 0, Nm.zero, (⟨1, 0, 0, 0, 0, 0, 0, 0⟩ : Nm)⟩ : Vt)] : List Vt) 0).length : Int) = 1)) && (decide ((certified_f 1 Nm.zero ([(⟨1, 0, 0, 1, 0, 0, Nm.zero, (⟨1, 0, 0, 0, 0, 0, 0, 0⟩ : Nm)⟩ : Vt), (⟨2, 0, 0, 1, 0, 0, Nm.zero, (⟨1, 0, 0, 0, 0, 0, 0, 0⟩ : Nm)⟩ : Vt)] : List Vt) 0)[0]! = (⟨1, 0, 0, 0, 0, 0, 0, 0⟩ : Nm)))) (Enc.val (⟨1, 0, 0, 0, 0, 0, 0, 0⟩ : Nm))) := hd19 13 rfl
    have hB1 := hB1.ext hx19
    have hR2 := hR2.ext hx19
    have hR3 := hR3.ext hx19
    exact D.guardc (wanted_yes rfl rfl d19_10) (fun hg => by have hp := hg; simp only [Bool.and_eq_true, Bool.or_eq_true, Bool.not_eq_true', decide_eq_true_eq, decide_eq_false_iff_not, bne_iff_ne, beq_iff_eq] at hp; exact (OpS.call (op_call rfl (argsC rfl (argsC ((show _ = vif _ (Enc.val (Nm.zero : Nm)) from d19_11).trans (vif_t hg).symm) (argsC ((show _ = vif _ (.slice (some ⟨b2, 0, none⟩) ([(⟨1, 0, 0, 1, 0, 0, Nm.zero, (⟨1, 0, 0, 0, 0, 0, 0, 0⟩ : Nm)⟩ : Vt), (⟨2, 0, 0, 1, 0, 0, Nm.zero, (⟨1, 0, 0, 0, 0, 0, 0, 0⟩ : Nm)⟩ : Vt)] : List Vt).length ([(⟨1, 0, 0, 1, 0, 0, Nm.zero, (⟨1, 0, 0, 0, 0, 0, 0, 0⟩ : Nm)⟩ : Vt), (⟨2, 0, 0, 1, 0, 0, Nm.zero, (⟨1, 0, 0, 0, 0, 0, 0, 0⟩ : Nm)⟩ : Vt)] : List Vt).length) from d19_12).trans (vif_t hg).symm) (argsC rfl (argsC ((show _ = vif _ (Enc.val (⟨1, 0, 0, 0, 0, 0, 0, 0⟩ : Nm)) from d19_13).trans (vif_t hg).symm) argsN))))) Try.func30 rfl rfl) (Echoers_ok hR2 (by first | omega | (simp only [List.length_drop, List.length_take, List.length_append, List.length_cons, List.length_nil] at *; omega)))))
  · intro f20 w20 hx20 ho20 hd20
    have d20_10 : f20 23 = (.bool ((decide (((certified_f 1 Nm.zero ([(⟨1, 0, 0, 1, 0, 0, Nm.zero, (⟨1, 0, 0, 0, 0, 0, 0, 0⟩ : Nm)⟩ : Vt), (⟨2, 0, 0, 1, 0, 0, Nm.zero, (⟨1, 0, 0, 0, 0, 0, 0, 0⟩ : Nm)⟩ : Vt)] : List Vt) 0).length : Int) = 1)) && (decide ((certified_f 1 Nm.zero ([(⟨1, 0, 0, 1, 0, 0, Nm.zero, (⟨1, 0, 0, 0, 0, 0, 0, 0⟩ : Nm)⟩ : Vt), (⟨2, 0, 0, 1, 0, 0, Nm.zero, (⟨1, 0, 0, 0, 0, 0, 0, 0⟩ : Nm)⟩ : Vt)] : List Vt) 0)[0]! = (⟨1, 0, 0, 0, 0, 0, 0, 0⟩ : Nm))))) := hd20 10 rfl
    have d20_14 : f20 27 = (vif ((decide (((certified_f 1 Nm.zero ([(⟨1, 0, 0, 1, 0, 0, Nm.zero, (⟨1, 0, 0, 0, 0, 0, 0, 0⟩ : Nm)⟩ : Vt), (⟨2, 0, 0, 1, 0, 0, Nm.zero, (⟨1, 0, 0, 0, 0, 0, 0, 0⟩ : Nm)⟩ : Vt)] : List Vt) 0).length : Int) = 1)) && (decide ((certified_f 1 Nm.zero ([(⟨1, 0, 0, 1, 0, 0, Nm.zero, (⟨1, 0, 0, 0, 0, 0, 0, 0⟩ : Nm)⟩ : Vt), (⟨2, 0, 0, 1, 0, 0, Nm.zero, (⟨1, 0, 0, 0, 0, 0, 0, 0⟩ : Nm)⟩ : Vt)] : List Vt) 0)[0]! = (⟨1, 0, 0, 0, 0, 0, 0, 0⟩ : Nm)))) (.int .i64 (echoers_f 1 Nm.zero ([(⟨1, 0, 0, 1, 0, 0, Nm.zero, (⟨1, 0, 0, 0, 0, 0, 0, 0⟩ : Nm)⟩ : Vt), (⟨2, 0, 0, 1, 0, 0, Nm.zero, (⟨1, 0, 0, 0, 0, 0, 0, 0⟩ : Nm)⟩ : Vt)] : List Vt) 0 (⟨1, 0, 0, 0, 0, 0, 0, 0⟩ : Nm)))) := hd20 14 rfl
    exact D.guardv (wanted_yes rfl rfl d20_10) (fun hg => (op_eql rfl ((show _ = vif _ (.int .i64 (echoers_f 1 Nm.zero ([(⟨1, 0, 0, 1, 0, 0, Nm.zero, (⟨1, 0, 0, 0, 0, 0, 0, 0⟩ : Nm)⟩ : Vt), (⟨2, 0, 0, 1, 0, 0, Nm.zero, (⟨1, 0, 0, 0, 0, 0, 0, 0⟩ : Nm)⟩ : Vt)] : List Vt) 0 (⟨1, 0, 0, 0, 0, 0, 0, 0⟩ : Nm))) from d20_14).trans (vif_t hg).symm) rfl))
  · intro f21 w21 hx21 ho21 hd21
    have d21_10 : f21 23 = (.bool ((decide (((certified_f 1 Nm.zero ([(⟨1, 0, 0, 1, 0, 0, Nm.zero, (⟨1, 0, 0, 0, 0, 0, 0, 0⟩ : Nm)⟩ : Vt), (⟨2, 0, 0, 1, 0, 0, Nm.zero, (⟨1, 0, 0, 0, 0, 0, 0, 0⟩ : Nm)⟩ : Vt)] : List Vt) 0).length : Int) = 1)) && (decide ((certified_f 1 Nm.zero ([(⟨1, 0, 0, 1, 0, 0, Nm.zero, (⟨1, 0, 0, 0, 0, 0, 0, 0⟩ : Nm)⟩ : Vt), (⟨2, 0, 0, 1, 0, 0, Nm.zero, (⟨1, 0, 0, 0, 0, 0, 0, 0⟩ : Nm)⟩ : Vt)] : List Vt) 0)[0]! = (⟨1, 0, 0, 0, 0, 0, 0, 0⟩ : Nm))))) := hd21 10 rfl
    have d21_15 : f21 28 = (vif ((decide (((certified_f 1 Nm.zero ([(⟨1, 0, 0, 1, 0, 0, Nm.zero, (⟨1, 0, 0, 0, 0, 0, 0, 0⟩ : Nm)⟩ : Vt), (⟨2, 0, 0, 1, 0, 0, Nm.zero, (⟨1, 0, 0, 0, 0, 0, 0, 0⟩ : Nm)⟩ : Vt)] : List Vt) 0).length : Int) = 1)) && (decide ((certified_f 1 Nm.zero ([(⟨1, 0, 0, 1, 0, 0, Nm.zero, (⟨1, 0, 0, 0, 0, 0, 0, 0⟩ : Nm)⟩ : Vt), (⟨2, 0, 0, 1, 0, 0, Nm.zero, (⟨1, 0, 0, 0, 0, 0, 0, 0⟩ : Nm)⟩ : Vt)] : List Vt) 0)[0]! = (⟨1, 0, 0, 0, 0, 0, 0, 0⟩ : Nm)))) (.bool (decide ((echoers_f 1 Nm.zero ([(⟨1, 0, 0, 1, 0, 0, Nm.zero, (⟨1, 0, 0, 0, 0, 0, 0, 0⟩ : Nm)⟩ : Vt), (⟨2, 0, 0, 1, 0, 0, Nm.zero, (⟨1, 0, 0, 0, 0, 0, 0, 0⟩ : Nm)⟩ : Vt)] : List Vt) 0 (⟨1, 0, 0, 0, 0, 0, 0, 0⟩ : Nm)) = 1)))) := hd21 15 rfl
    exact D.val rfl (op_and rfl d21_10 d21_15 rfl)
  · intro f22 w22 hx22 ho22 hd22
    have d22_16 : f22 29 = (.bool (((decide (((certified_f 1 Nm.zero ([(⟨1, 0, 0, 1, 0, 0, Nm.zero, (⟨1, 0, 0, 0, 0, 0, 0, 0⟩ : Nm)⟩ : Vt), (⟨2, 0, 0, 1, 0, 0, Nm.zero, (⟨1, 0, 0, 0, 0, 0, 0, 0⟩ : Nm)⟩ : Vt)] : List Vt) 0).length : Int) = 1)) && (decide ((certified_f 1 Nm.zero ([(⟨1, 0, 0, 1, 0, 0, Nm.zero, (⟨1, 0, 0, 0, 0, 0, 0, 0⟩ : Nm)⟩ : Vt), (⟨2, 0, 0, 1, 0, 0, Nm.zero, (⟨1, 0, 0, 0, 0, 0, 0, 0⟩ : Nm)⟩ : Vt)] : List Vt) 0)[0]! = (⟨1, 0, 0, 0, 0, 0, 0, 0⟩ : Nm)))) && (decide ((echoers_f 1 Nm.zero ([(⟨1, 0, 0, 1, 0, 0, Nm.zero, (⟨1, 0, 0, 0, 0, 0, 0, 0⟩ : Nm)⟩ : Vt), (⟨2, 0, 0, 1, 0, 0, Nm.zero, (⟨1, 0, 0, 0, 0, 0, 0, 0⟩ : Nm)⟩ : Vt)] : List Vt) 0 (⟨1, 0, 0, 0, 0, 0, 0, 0⟩ : Nm)) = 1)))) := hd22 16 rfl
    exact D.val rfl (op_assign rfl d22_16)
  intro f23 w23 hx23 ho23 hr23
  have s1 : f23 1 = (.pointer (some ⟨b1, 0, none⟩)) := ho23 1 rfl
  have s2 : f23 2 = (.slice (some ⟨b2, 0, none⟩) ([(⟨1, 0, 0, 1, 0, 0, Nm.zero, (⟨1, 0, 0, 0, 0, 0, 0, 0⟩ : Nm)⟩ : Vt), (⟨2, 0, 0, 1, 0, 0, Nm.zero, (⟨1, 0, 0, 0, 0, 0, 0, 0⟩ : Nm)⟩ : Vt)] : List Vt).length ([(⟨1, 0, 0, 1, 0, 0, Nm.zero, (⟨1, 0, 0, 0, 0, 0, 0, 0⟩ : Nm)⟩ : Vt), (⟨2, 0, 0, 1, 0, 0, Nm.zero, (⟨1, 0, 0, 0, 0, 0, 0, 0⟩ : Nm)⟩ : Vt)] : List Vt).length) := ho23 2 rfl
  have s3 : f23 3 = (.slice A3 (certified_f 1 Nm.zero ([(⟨1, 0, 0, 1, 0, 0, Nm.zero, (⟨1, 0, 0, 0, 0, 0, 0, 0⟩ : Nm)⟩ : Vt), (⟨2, 0, 0, 1, 0, 0, Nm.zero, (⟨1, 0, 0, 0, 0, 0, 0, 0⟩ : Nm)⟩ : Vt)] : List Vt) 0).length c3) := ho23 3 rfl
  have s0 : f23 0 = (.bool (((decide (((certified_f 1 Nm.zero ([(⟨1, 0, 0, 1, 0, 0, Nm.zero, (⟨1, 0, 0, 0, 0, 0, 0, 0⟩ : Nm)⟩ : Vt), (⟨2, 0, 0, 1, 0, 0, Nm.zero, (⟨1, 0, 0, 0, 0, 0, 0, 0⟩ : Nm)⟩ : Vt)] : List Vt) 0).length : Int) = 1)) && (decide ((certified_f 1 Nm.zero ([(⟨1, 0, 0, 1, 0, 0, Nm.zero, (⟨1, 0, 0, 0, 0, 0, 0, 0⟩ : Nm)⟩ : Vt), (⟨2, 0, 0, 1, 0, 0, Nm.zero, (⟨1, 0, 0, 0, 0, 0, 0, 0⟩ : Nm)⟩ : Vt)] : List Vt) 0)[0]! = (⟨1, 0, 0, 0, 0, 0, 0, 0⟩ : Nm)))) && (decide ((echoers_f 1 Nm.zero ([(⟨1, 0, 0, 1, 0, 0, Nm.zero, (⟨1, 0, 0, 0, 0, 0, 0, 0⟩ : Nm)⟩ : Vt), (⟨2, 0, 0, 1, 0, 0, Nm.zero, (⟨1, 0, 0, 0, 0, 0, 0, 0⟩ : Nm)⟩ : Vt)] : List Vt) 0 (⟨1, 0, 0, 0, 0, 0, 0, 0⟩ : Nm)) = 1)))) := hr23 17 (by decide)
  have hE := hE.trans hx23
  have hB1 := hB1.ext hx23
  have hR2 := hR2.ext hx23
  have hR3 := hR3.ext hx23
  refine thenF_nor ?_
  refine W.ret ?_
  exact end_ret1 (v := (.bool (((decide (((certified_f 1 Nm.zero ([(⟨1, 0, 0, 1, 0, 0, Nm.zero, (⟨1, 0, 0, 0, 0, 0, 0, 0⟩ : Nm)⟩ : Vt), (⟨2, 0, 0, 1, 0, 0, Nm.zero, (⟨1, 0, 0, 0, 0, 0, 0, 0⟩ : Nm)⟩ : Vt)] : List Vt) 0).length : Int) = 1)) && (decide ((certified_f 1 Nm.zero ([(⟨1, 0, 0, 1, 0, 0, Nm.zero, (⟨1, 0, 0, 0, 0, 0, 0, 0⟩ : Nm)⟩ : Vt), (⟨2, 0, 0, 1, 0, 0, Nm.zero, (⟨1, 0, 0, 0, 0, 0, 0, 0⟩ : Nm)⟩ : Vt)] : List Vt) 0)[0]! = (⟨1, 0, 0, 0, 0, 0, 0, 0⟩ : Nm)))) && (decide ((echoers_f 1 Nm.zero ([(⟨1, 0, 0, 1, 0, 0, Nm.zero, (⟨1, 0, 0, 0, 0, 0, 0, 0⟩ : Nm)⟩ : Vt), (⟨2, 0, 0, 1, 0, 0, Nm.zero, (⟨1, 0, 0, 0, 0, 0, 0, 0⟩ : Nm)⟩ : Vt)] : List Vt) 0 (⟨1, 0, 0, 0, 0, 0, 0, 0⟩ : Nm)) = 1))))) rfl s0 ⟨(congrArg Value.bool (by decide +kernel)), hE⟩

set_option maxRecDepth 100000 in
theorem cut15_ok {A_l : Option Addr} {c_l lo_l hi_l : Nat} {l : List Vt}  {w : World} (hR_l : Rd w lo_l hi_l A_l l) (hcap_l : l.length ≤ c_l) : Gives Try.prog 27 #[(.slice A_l l.length c_l)] w fun u w' => SlR w' u (l.take 250 : List Vt) ∧ Ext w w' := by
  have hE : Ext w w := Ext.refl w
  have hlen_l := hR_l.len
  refine gives_of_W Try.func27 rfl Try.ntmps27 rfl ?_
  refine W.seq ?_
  refine W.region (by rfl) ?_
  refine L.val rfl (op_assign rfl rfl) ?_
  refine L.nil ?_
  refine thenF_nor ?_
  refine W.seq ?_
  refine W.seq ?_
  refine W.region (by rfl) ?_
  refine L.val rfl (op_move rfl rfl) ?_
  refine L.val rfl (op_len rfl rfl ln25) ?_
  refine L.val rfl (op_gtr rfl rfl rfl) ?_
  refine L.nil ?_
  refine thenF_nor ?_
  refine W.cond (t := decide (250 < (l.length : Int))) rfl (fun hc1 => ?_) (fun hc1 => ?_)
  · have hp1 := hc1
    simp only [Bool.and_eq_true, Bool.or_eq_true, Bool.and_eq_false_iff, Bool.or_eq_false_iff, Bool.not_eq_true', Bool.not_eq_false', decide_eq_true_eq, decide_eq_false_iff_not] at hp1
    refine W.seq ?_
    refine W.region (by rfl) ?_
    refine L.val rfl (op_move rfl rfl) ?_
    refine L.step rfl (op_slr_h (k := 250) sl25 rfl rfl rfl (by omega) hcap_l hR_l) ?_
    rintro _ w2 ⟨⟨A2, c2, lo2, hi2, rfl, hcap2, hR2⟩, hx2⟩
    have hE := hE.trans hx2
    have hR_l := hR_l.ext hx2
    have hlen2 := hR2.len
    refine L.val rfl (op_assign rfl rfl) ?_
    refine L.nil ?_
    refine thenF_nor ?_
    refine W.ret ?_
    refine thenF_ret ?_
    exact end_ret1 (v := (.slice A2 (l.take 250).length c2)) rfl rfl ⟨(⟨_, _, _, _, rfl, hcap2, hR2⟩ : SlR _ _ _), hE⟩
  · have hp1 := hc1
    simp only [Bool.and_eq_true, Bool.or_eq_true, Bool.and_eq_false_iff, Bool.or_eq_false_iff, Bool.not_eq_true', Bool.not_eq_false', decide_eq_true_eq, decide_eq_false_iff_not] at hp1
    refine W.skip ?_
    refine thenF_nor ?_
    refine W.seq ?_
    refine W.region (by rfl) ?_
    refine L.val rfl (op_move rfl rfl) ?_
    refine L.val rfl (op_assign rfl rfl) ?_
    refine L.nil ?_
    refine thenF_nor ?_
    refine W.ret ?_
    exact end_ret1 (v := (.slice A_l l.length c_l)) rfl rfl ⟨(by rw [List.take_of_length_le (by omega)]; exact (⟨_, _, _, _, rfl, hcap_l, hR_l⟩ : SlR _ _ _)), hE⟩

end Go.Proofs.Ytdknjfmjddlphaa
