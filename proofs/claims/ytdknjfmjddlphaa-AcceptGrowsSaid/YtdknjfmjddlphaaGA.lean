/-
  Contracts of functions of the program, each with its walk in the logic of frames. Printed by a program of this session (wip/gen) from the translation.
-/
import Derived.Test.YtdknjfmjddlphaaLaw12Lit
set_option linter.unusedSimpArgs false
set_option linter.unusedVariables false
namespace Go.Proofs.Ytdknjfmjddlphaa
open Go Go.Fk

set_option maxRecDepth 100000 in
theorem awake12_ok   {w : World}  : Gives Try.prog 23 #[] w fun u w' => u = (.bool true) ∧ Ext w w' := by
  have hE : Ext w w := Ext.refl w
  refine gives_of_W Try.func23 rfl Try.ntmps23 rfl ?_
  refine W.seq ?_
  refine W.region (by rfl) ?_
  refine L.val (v := (.bool false)) rfl (op_assign rfl rfl) ?_
  refine L.nil ?_
  refine thenF_nor ?_
  refine W.seq ?_
  refine W.region (by rfl) ?_
  have A1_hE := hE
  refine L.step rfl (op_alloc (z := Enc.val (default : Nm)) (cs := Enc.cells (default : Nm)) rfl (by kernel_rfl) rfl) ?_
  rintro _ w1 ⟨b1, rfl, hb1, hB1, hx1⟩
  have hbb1_hE := Nat.le_trans hE.size hb1
  have hE := hE.trans hx1
  refine L.nil ?_
  refine thenF_nor ?_
  refine W.seq ?_
  refine W.region (by rfl) ?_
  refine L.val rfl (op_elemAddr (k := 0) rfl rfl rfl Try.underlying24 si5 (by decide) rfl) ?_
  refine L.step rfl (op_put (v := (.int .u8 1)) rfl rfl rfl si5 hB1 (by decide) rfl rfl) ?_
  rintro _ w2 ⟨hB1, hg2⟩
  have hxx2 : Ext w w2 := hx1.grown hg2 (by intro k hk; cases hk; exact hb1)
  replace hB1 : Box w2 b1 24 (Enc.cells (⟨1, 0, 0, 0, 0, 0, 0, 0⟩ : Nm)) := hB1
  have hE := A1_hE.trans hxx2
  refine L.nil ?_
  refine thenF_nor ?_
  refine W.seq ?_
  refine W.region (by rfl) ?_
  refine L.val rfl (op_load (v := (⟨1, 0, 0, 0, 0, 0, 0, 0⟩ : Nm)) rfl rfl ty24 hB1.cells) ?_
  refine L.val rfl (op_build (v := Enc.val (⟨1, 0, 0, 1, 0, 0, Nm.zero, (⟨1, 0, 0, 0, 0, 0, 0, 0⟩ : Nm)⟩ : Vt)) (cs := Enc.cells (⟨1, 0, 0, 1, 0, 0, Nm.zero, (⟨1, 0, 0, 0, 0, 0, 0, 0⟩ : Nm)⟩ : Vt)) rfl (partsC rfl (partsC rfl (partsC rfl partsN))) (by kernel_rfl) rfl) ?_
  refine L.newvar (v := (Enc.val (⟨1, 0, 0, 1, 0, 0, Nm.zero, (⟨1, 0, 0, 0, 0, 0, 0, 0⟩ : Nm)⟩ : Vt))) (cs := (Enc.cells (⟨1, 0, 0, 1, 0, 0, Nm.zero, (⟨1, 0, 0, 0, 0, 0, 0, 0⟩ : Nm)⟩ : Vt))) rfl rfl rfl rfl rfl rfl (fun _ => rfl) rfl si28 zs28 (Enc.one _) ?_
  intro b3 w3 hb3 hB3 hx3
  have hbb3_hE := Nat.le_trans hE.size hb3
  have hE := hE.trans hx3
  have hB1 := hB1.ext hx3
  refine L.nil ?_
  refine thenF_nor ?_
  refine W.seq ?_
  refine W.region (by rfl) ?_
  refine L.val rfl (op_load (v := (⟨1, 0, 0, 0, 0, 0, 0, 0⟩ : Nm)) rfl rfl ty24 hB1.cells) ?_
  refine L.val rfl (op_build (v := Enc.val (⟨2, 0, 0, 1, 1, 0, Nm.zero, (⟨1, 0, 0, 0, 0, 0, 0, 0⟩ : Nm)⟩ : Vt)) (cs := Enc.cells (⟨2, 0, 0, 1, 1, 0, Nm.zero, (⟨1, 0, 0, 0, 0, 0, 0, 0⟩ : Nm)⟩ : Vt)) rfl (partsC rfl (partsC rfl (partsC rfl (partsC rfl partsN)))) (by kernel_rfl) rfl) ?_
  refine L.newvar (v := (Enc.val (⟨2, 0, 0, 1, 1, 0, Nm.zero, (⟨1, 0, 0, 0, 0, 0, 0, 0⟩ : Nm)⟩ : Vt))) (cs := (Enc.cells (⟨2, 0, 0, 1, 1, 0, Nm.zero, (⟨1, 0, 0, 0, 0, 0, 0, 0⟩ : Nm)⟩ : Vt))) rfl rfl rfl rfl rfl rfl (fun _ => rfl) rfl si28 zs28 (Enc.one _) ?_
  intro b4 w4 hb4 hB4 hx4
  have hbb4_hE := Nat.le_trans hE.size hb4
  have hE := hE.trans hx4
  have hB1 := hB1.ext hx4
  have hB3 := hB3.ext hx4
  refine L.nil ?_
  refine thenF_nor ?_
  refine W.seq ?_
  refine W.region (by rfl) ?_
  refine L.val rfl (op_build (v := Enc.val (Nm.zero : Nm)) (cs := Enc.cells (Nm.zero : Nm)) rfl partsN (by kernel_rfl) rfl) ?_
  refine L.val rfl (op_load (v := (⟨2, 0, 0, 1, 1, 0, Nm.zero, (⟨1, 0, 0, 0, 0, 0, 0, 0⟩ : Nm)⟩ : Vt)) rfl rfl ty28 hB4.cells) ?_
  refine L.step rfl (op_slice1 (a := (⟨2, 0, 0, 1, 1, 0, Nm.zero, (⟨1, 0, 0, 0, 0, 0, 0, 0⟩ : Nm)⟩ : Vt)) rfl rfl sl25 zs28 (by decide)) ?_
  rintro _ w5 ⟨b5, rfl, hb5, hB5, hx5⟩
  have hE := hE.trans hx5
  have hB1 := hB1.ext hx5
  have hB3 := hB3.ext hx5
  have hB4 := hB4.ext hx5
  refine L.step rfl (OpS.call (op_call rfl (argsC rfl (argsC rfl (argsC rfl argsN))) Try.func18 rfl rfl) (acc_call0 hB5)) ?_
  rintro _ w6 ⟨⟨A6, c6, rfl⟩, hx6⟩
  have hE := hE.trans hx6
  have hB1 := hB1.ext hx6
  have hB3 := hB3.ext hx6
  have hB4 := hB4.ext hx6
  have hB5 := hB5.ext hx6
  refine L.val rfl (op_len rfl rfl ln25) ?_
  refine L.val (v := (.bool true)) rfl (val_eq (by decide) (op_eql rfl rfl rfl)) ?_
  refine L.val (v := (.bool true)) rfl (op_move rfl rfl) ?_
  refine L.valT (wanted_yes rfl rfl rfl) (op_build (v := Enc.val (Nm.zero : Nm)) (cs := Enc.cells (Nm.zero : Nm)) rfl partsN (by kernel_rfl) rfl) ?_
  refine L.valT (wanted_yes rfl rfl rfl) (op_load (v := (⟨2, 0, 0, 1, 1, 0, Nm.zero, (⟨1, 0, 0, 0, 0, 0, 0, 0⟩ : Nm)⟩ : Vt)) rfl rfl ty28 hB4.cells) ?_
  refine L.valT (wanted_yes rfl rfl rfl) (op_load (v := (⟨1, 0, 0, 1, 0, 0, Nm.zero, (⟨1, 0, 0, 0, 0, 0, 0, 0⟩ : Nm)⟩ : Vt)) rfl rfl ty28 hB3.cells) ?_
  refine L.stepT (wanted_yes rfl rfl rfl) (op_sliceL ([(⟨2, 0, 0, 1, 1, 0, Nm.zero, (⟨1, 0, 0, 0, 0, 0, 0, 0⟩ : Nm)⟩ : Vt), (⟨1, 0, 0, 1, 0, 0, Nm.zero, (⟨1, 0, 0, 0, 0, 0, 0, 0⟩ : Nm)⟩ : Vt)] : List Vt) rfl (partsC rfl (partsC rfl partsN)) sl25 zs28 rfl (by decide) (by decide)) ?_
  rintro _ w7 ⟨b7, rfl, hb7, hR7, hx7⟩
  have hE := hE.trans hx7
  have hB1 := hB1.ext hx7
  have hB3 := hB3.ext hx7
  have hB4 := hB4.ext hx7
  have hB5 := hB5.ext hx7
  have hlen7 := hR7.len
  refine L.stepT (wanted_yes rfl rfl rfl) (OpS.call (op_call rfl (argsC rfl (argsC rfl (argsC rfl argsN))) Try.func18 rfl rfl) (acc_call2 hR7)) ?_
  rintro _ w8 ⟨⟨A8, c8, rfl⟩, hx8⟩
  have hE := hE.trans hx8
  have hB1 := hB1.ext hx8
  have hB3 := hB3.ext hx8
  have hB4 := hB4.ext hx8
  have hB5 := hB5.ext hx8
  have hR7 := hR7.ext hx8
  refine L.valT (wanted_yes rfl rfl rfl) (op_len rfl rfl ln25) ?_
  refine L.valT (v := (.bool true)) (wanted_yes rfl rfl rfl) (val_eq (by decide) (op_eql rfl rfl rfl)) ?_
  refine L.val (v := (.bool true)) rfl (op_pickT rfl rfl rfl) ?_
  refine L.val (v := (.bool true)) rfl (op_assign rfl rfl) ?_
  refine L.nil ?_
  refine thenF_nor ?_
  refine W.ret ?_
  exact end_ret1 (v := (.bool true)) rfl rfl ⟨rfl, hE⟩

end Go.Proofs.Ytdknjfmjddlphaa
