/-
  Texts that the proof rests on: Zd, Defs5, AgDefs, DrawG, RefOps, RefOps2, DrawP, AgBase, GB1, AG1.
-/
import Derived.Test.YtdknjfmjddlphaaGreatSAgreementAlike3
import Derived.Test.YtdknjfmjddlphaaGreatRows
/-
  Contracts of functions of the program, each with its walk in the logic of frames. Printed by a program of this session (wip/gen) from the translation.
-/
set_option linter.unusedSimpArgs false
set_option linter.unusedVariables false
namespace Go.Proofs.YtdknjfmjddlphaaGreat
open Go Go.Fk
def allowed_f (m : Int) (v : Vt) (acc : List Vt) : Bool := bif (((!(valid_f v)) || (decide (4 < v.kind))) || (!(has_f m v.signer))) || (!(has_f m v.slot)) then false else (bif decide (v.kind = 1) then decide (v.signer = v.slot) else (bif decide (v.kind = 2) then (acc.filter (counts_f m v)).any (fun xx => allowed1_f xx v) else (bif decide (v.kind = 3) then prevote_f m (quorum_f (size_f m)) (acc.filter (counts_f m v)) v else precommit_f m (quorum_f (size_f m)) (acc.filter (counts_f m v)) v)))
set_option maxRecDepth 100000 in
set_option maxHeartbeats 4000000 in
theorem Allowed_ok {m : Int} {v : Vt} {A_acc : Option Addr} {c_acc lo_acc hi_acc : Nat} {acc : List Vt}  {w : World} (hR_acc : Rd w lo_acc hi_acc A_acc acc) (hl : acc.length ≤ 1000000) : Gives Tryz.prog 46 #[(.int .i64 m), (Enc.val (v : Vt)), (.slice A_acc acc.length c_acc)] w fun u w' => u = (.bool (allowed_f m v acc)) ∧ Ext w w' := by
 have hE : Ext w w := Ext.refl w; have hlen_acc := hR_acc.len; refine gives_of_W Tryz.func46 rfl Tryz.ntmps46 rfl ?_; refine W.seq ?_; refine W.region (by rfl) ?_; refine L.step rfl (op_box (cs := (Enc.cells (v : Vt))) rfl rfl rfl) ?_; rintro _ w1 ⟨b1, rfl, hb1, hB1, hx1⟩; have hE := hE.trans hx1; have hR_acc := hR_acc.ext hx1; refine L.val (v := (.bool false)) rfl (op_assign rfl rfl) ?_; refine L.nil ?_; refine thenF_nor ?_; refine W.seq ?_; refine W.seq ?_; refine W.region (by rfl) ?_; refine L.val rfl (op_load (v := (v : Vt)) rfl rfl ty47 hB1.cells) ?_; refine L.call (v := (.bool (valid_f v))) rfl (OpS.call (op_call rfl (argsC rfl argsN) Tryz.func44 rfl rfl) Valid_ok) ?_; intro w2 hx2; have hE := hE.trans hx2; have hR_acc := hR_acc.ext hx2; have hB1 := hB1.ext hx2; refine L.val rfl (op_not rfl rfl) ?_; refine L.val rfl (op_move rfl rfl) ?_; refine L.guardv (v := (.pointer (some ⟨b1, 0, none⟩))) (wanted_no rfl rfl rfl) (fun hg => (op_field rfl rfl fo47_0 rfl)) ?_; refine L.guardv (v := (.int .i64 v.kind)) (wanted_no rfl rfl rfl) (fun hg => (op_load1 rfl ((show _ = vif _ (.pointer (some ⟨b1, 0, none⟩)) from rfl).trans (vif_t hg).symm) one3 (hB1.cells.one (n := 0) rfl))) ?_; refine L.guardv (v := (.bool (decide (4 < v.kind)))) (wanted_no rfl rfl rfl) (fun hg => (op_gtr rfl ((show _ = vif _ (.int .i64 v.kind) from rfl).trans (vif_t hg).symm) rfl)) ?_; refine L.val rfl (op_or rfl rfl rfl rfl) ?_; refine L.val rfl (op_move rfl rfl) ?_; refine L.guardv (v := (.int .i64 m)) (wanted_no rfl rfl rfl) (fun hg => (op_move rfl rfl)) ?_; refine L.guardv (v := (.pointer (some ⟨b1, 4, none⟩))) (wanted_no rfl rfl rfl) (fun hg => (op_field rfl rfl fo47_4 rfl)) ?_; refine L.guardv (v := (.int .i64 v.signer)) (wanted_no rfl rfl rfl) (fun hg => (op_load1 rfl ((show _ = vif _ (.pointer (some ⟨b1, 4, none⟩)) from rfl).trans (vif_t hg).symm) one3 (hB1.cells.one (n := 4) rfl))) ?_; refine L.guardc (v := (.bool (has_f m v.signer))) (wanted_no rfl rfl rfl) (fun hg => (OpS.call (op_call rfl (argsC ((show _ = vif _ (.int .i64 m) from rfl).trans (vif_t hg).symm) (argsC ((show _ = vif _ (.int .i64 v.signer) from rfl).trans (vif_t hg).symm) argsN)) Tryz.func77 rfl rfl) Has_ok)) ?_; intro w3 hx3; have hE := hE.trans hx3; have hR_acc := hR_acc.ext hx3; have hB1 := hB1.ext hx3; refine L.guardv (v := (.bool (!(has_f m v.signer)))) (wanted_no rfl rfl rfl) (fun hg => (op_not rfl ((show _ = vif _ (.bool (has_f m v.signer)) from rfl).trans (vif_t hg).symm))) ?_; refine L.val rfl (op_or rfl rfl rfl rfl) ?_; refine L.val rfl (op_move rfl rfl) ?_; refine L.guardv (v := (.int .i64 m)) (wanted_no rfl rfl rfl) (fun hg => (op_move rfl rfl)) ?_; refine L.guardv (v := (.pointer (some ⟨b1, 1, none⟩))) (wanted_no rfl rfl rfl) (fun hg => (op_field rfl rfl fo47_1 rfl)) ?_; refine L.guardv (v := (.int .i64 v.slot)) (wanted_no rfl rfl rfl) (fun hg => (op_load1 rfl ((show _ = vif _ (.pointer (some ⟨b1, 1, none⟩)) from rfl).trans (vif_t hg).symm) one3 (hB1.cells.one (n := 1) rfl))) ?_; refine L.guardc (v := (.bool (has_f m v.slot))) (wanted_no rfl rfl rfl) (fun hg => (OpS.call (op_call rfl (argsC ((show _ = vif _ (.int .i64 m) from rfl).trans (vif_t hg).symm) (argsC ((show _ = vif _ (.int .i64 v.slot) from rfl).trans (vif_t hg).symm) argsN)) Tryz.func77 rfl rfl) Has_ok)) ?_; intro w4 hx4; have hE := hE.trans hx4; have hR_acc := hR_acc.ext hx4; have hB1 := hB1.ext hx4; refine L.guardv (v := (.bool (!(has_f m v.slot)))) (wanted_no rfl rfl rfl) (fun hg => (op_not rfl ((show _ = vif _ (.bool (has_f m v.slot)) from rfl).trans (vif_t hg).symm))) ?_; refine L.val rfl (op_or rfl rfl rfl rfl) ?_; refine L.nil ?_; refine thenF_nor ?_; refine W.cond (t := (((!(valid_f v)) || (decide (4 < v.kind))) || (!(has_f m v.signer))) || (!(has_f m v.slot))) rfl (fun hc5 => ?_) (fun hc5 => ?_)
 ·have hp5 := hc5; simp only [Bool.and_eq_true, Bool.or_eq_true, Bool.and_eq_false_iff, Bool.or_eq_false_iff, Bool.not_eq_true', Bool.not_eq_false', decide_eq_true_eq, decide_eq_false_iff_not] at hp5; refine W.seq ?_; refine W.region (by rfl) ?_; refine L.val (v := (.bool false)) rfl (op_assign rfl rfl) ?_; refine L.nil ?_; refine thenF_nor ?_; refine W.ret ?_; refine thenF_ret ?_; exact end_ret1 (v := (.bool false)) rfl rfl ⟨by simp only [allowed_f, hc5, cond_true], hE⟩
 ·have hp5 := hc5; simp only [Bool.and_eq_true, Bool.or_eq_true, Bool.and_eq_false_iff, Bool.or_eq_false_iff, Bool.not_eq_true', Bool.not_eq_false', decide_eq_true_eq, decide_eq_false_iff_not] at hp5; have hall := hc5; simp only [Bool.or_eq_false_iff, Bool.not_eq_false'] at hall; have hvb := valid_bounds hall.1.1.1; have hsz0 := size_nn m; have hsz1 := size_le m; refine W.skip ?_; refine thenF_nor ?_; refine W.seq ?_; have S6_hR_acc := hR_acc; have S6_hB1 := hB1; have S6_hE := hE; have hS6 : Ext w4 w4 := Ext.refl _; refine W.region (by rfl) ?_; refine L.val rfl (op_move rfl rfl) ?_; refine L.val rfl (op_move rfl rfl) ?_; refine L.call (v := (.int .i64 (size_f m))) rfl (OpS.call (op_call rfl (argsC rfl argsN) Tryz.func56 rfl rfl) Size_ok) ?_; intro w7 hx7; have hE := hE.trans hx7; have hS6 := hS6.trans hx7; refine L.call (v := (.int .i64 (quorum_f (size_f m)))) rfl (OpS.call (op_call rfl (argsC rfl argsN) Tryz.func55 rfl rfl) (Quorum_ok (by first | omega | (simp only [List.length_drop, List.length_take, List.length_append, List.length_cons, List.length_nil] at *; omega)) (by first | omega | (simp only [List.length_drop, List.length_take, List.length_append, List.length_cons, List.length_nil] at *; omega)))) ?_; intro w8 hx8; have hE := hE.trans hx8; have hS6 := hS6.trans hx8; refine L.val rfl (op_build (v := (.agg #[(.int .i64 m), (.int .i64 (quorum_f (size_f m))), (.slice none 0 0)])) (cs := [(.int .i64 m), (.int .i64 (quorum_f (size_f m))), (.slice none 0 0)]) rfl (partsC rfl (partsC rfl partsN)) (by kernel_rfl) rfl) ?_; refine L.newvar (v := (.agg #[(.int .i64 m), (.int .i64 (quorum_f (size_f m))), (.slice none 0 0)])) (cs := [(.int .i64 m), (.int .i64 (quorum_f (size_f m))), (.slice none 0 0)]) rfl rfl rfl rfl rfl rfl (fun _ => rfl) rfl si100 zs100 (by intro u hu; simp at hu; rcases hu with rfl | rfl | rfl <;> rfl) ?_; intro b9 w9 hb9 hB9 hx9; have hbb9_hE := Nat.le_trans hE.size hb9; have hbb9_hS6 := Nat.le_trans hS6.size hb9; have hE := hE.trans hx9; have hS6 := hS6.trans hx9; refine L.nil ?_; refine thenF_nor ?_; refine W.seq ?_; refine W.seq ?_; refine W.region (by rfl) ?_; refine L.val rfl (op_move rfl rfl) ?_; refine L.val rfl (op_len rfl rfl ln25) ?_; refine L.val rfl (op_move rfl rfl) ?_; refine L.nil ?_; refine thenF_nor ?_; refine W.block ?_; refine W.loopg (γ := Nat) (fun (k : Nat) (f : Fr) (ww : World) => k ≤ acc.length ∧ f 0 = (.int .i64 m) ∧ f 4 = (.pointer (some ⟨b1, 0, none⟩)) ∧ f 6 = (.bool false) ∧ f 37 = (.slice A_acc acc.length c_acc) ∧ f 38 = (.int .i64 (acc.length : Int)) ∧ f 39 = (.int .i64 ((k : Nat) : Int)) ∧ f 7 = (.pointer (some ⟨b9, 0, none⟩)) ∧ (∃ vv, Box ww b9 100 [(.int .i64 m), (.int .i64 (quorum_f (size_f m))), vv] ∧ Fk.Own ww (b9 + 1) 47 vv ((acc.take k).filter (counts_f m v))) ∧ Ext w4 ww) (fun (k : Nat) => acc.length - k) 0 ⟨(by (try dsimp only); omega), rfl, rfl, rfl, rfl, rfl, rfl, rfl, ⟨_, hB9, Fk.Own.nil _ _ _⟩, hS6⟩ ?_; rintro k f10 w10 ⟨hk, s10_0, s10_4, s10_6, s10_37, s10_38, s10_39, s10_7, hM10_7, hS6⟩; have hR_acc := S6_hR_acc.ext hS6; have hB1 := S6_hB1.ext hS6; have hE := S6_hE.trans hS6; obtain ⟨v10_7, hB10_7, hO10_7⟩ := hM10_7; have hfl := List.length_filter_le (counts_f m v) (acc.take k); have htl := List.length_take_le' k acc; refine W.seq ?_; refine W.region (by rfl) ?_; refine L.val rfl (op_lss rfl s10_39 s10_38) ?_; refine L.nil ?_; refine thenF_nor ?_; refine W.seq ?_; refine W.cond (t := decide (((k : Nat) : Int) < (acc.length : Int))) rfl (fun hc11 => ?_) (fun hc11 => ?_)
  ·have hp11 := hc11; simp only [Bool.and_eq_true, Bool.or_eq_true, Bool.and_eq_false_iff, Bool.or_eq_false_iff, Bool.not_eq_true', Bool.not_eq_false', decide_eq_true_eq, decide_eq_false_iff_not] at hp11; refine W.skip ?_; refine thenF_nor ?_; refine W.seq ?_; refine W.block ?_; refine W.seq ?_; refine W.region (by rfl) ?_; refine L.val rfl (op_index (k := k) rfl s10_37 s10_39 sl25 (hR_acc.getA (get_bang (l := acc) (k := k) (by omega))).1 rfl (by omega) rfl) ?_; refine L.val rfl (op_load (v := (acc[k]! : Vt)) rfl rfl ty47 (hR_acc.getA (get_bang (l := acc) (k := k) (by omega))).2) ?_; refine L.newvar (v := (Enc.val (acc[k]! : Vt))) (cs := (Enc.cells (acc[k]! : Vt))) rfl rfl rfl rfl rfl rfl (fun _ => rfl) rfl si47 zs47 (Enc.one _) ?_; intro b12 w12 hb12 hB12 hx12; have hbb12_hE := Nat.le_trans hE.size hb12; have hbb12_hS6 := Nat.le_trans hS6.size hb12; have hE := hE.trans hx12; have hS6 := hS6.trans hx12; have hB1 := hB1.ext hx12; have hB10_7 := hB10_7.ext hx12; have hO10_7 := hO10_7.ext hx12; refine L.nil ?_; refine thenF_nor ?_; refine W.seq ?_; refine W.region (by rfl) ?_; refine L.val rfl (op_load (v := (acc[k]! : Vt)) rfl rfl ty47 hB12.cells) ?_; refine L.call (v := (.bool (valid_f (acc[k]!)))) rfl (OpS.call (op_call rfl (argsC rfl argsN) Tryz.func44 rfl rfl) Valid_ok) ?_; intro w13 hx13; have hE := hE.trans hx13; have hS6 := hS6.trans hx13; have hB1 := hB1.ext hx13; have hB10_7 := hB10_7.ext hx13; have hO10_7 := hO10_7.ext hx13; have hB12 := hB12.ext hx13; refine L.val rfl (op_move rfl rfl) ?_; refine L.guardv (v := (.pointer (some ⟨b12, 6, none⟩))) (wanted_yes rfl rfl rfl) (fun hg => (op_field rfl rfl fo47_6 rfl)) ?_; refine L.guardv (v := (Enc.val ((acc[k]!).parent))) (wanted_yes rfl rfl rfl) (fun hg => (op_load (v := ((acc[k]!).parent : Nm)) rfl ((show _ = vif _ (.pointer (some ⟨b12, 6, none⟩)) from rfl).trans (vif_t hg).symm) ty24 (sub_nm 6 hB12.cells rfl))) ?_; refine L.guardv (v := (.pointer (some ⟨b1, 6, none⟩))) (wanted_yes rfl rfl rfl) (fun hg => (op_field rfl s10_4 fo47_6 rfl)) ?_; refine L.guardv (v := (Enc.val (v.parent : Nm))) (wanted_yes rfl rfl rfl) (fun hg => (op_load (v := (v.parent : Nm)) rfl ((show _ = vif _ (.pointer (some ⟨b1, 6, none⟩)) from rfl).trans (vif_t hg).symm) ty24 (sub_nm 6 hB1.cells rfl))) ?_; refine L.guardv (v := (.bool (decide ((acc[k]!).parent = v.parent)))) (wanted_yes rfl rfl rfl) (fun hg => (op_eqle (a := ((acc[k]!).parent : Nm)) (b := (v.parent : Nm)) rfl ((show _ = vif _ (Enc.val ((acc[k]!).parent)) from rfl).trans (vif_t hg).symm) ((show _ = vif _ (Enc.val (v.parent : Nm)) from rfl).trans (vif_t hg).symm) eq24 (fun _ => ⟨_, rfl⟩) Tryz.eqGuardType24)) ?_; refine L.val rfl (op_and rfl rfl rfl rfl) ?_; refine L.val rfl (op_move rfl rfl) ?_; refine L.guardv (v := (.pointer (some ⟨b12, 1, none⟩))) (wanted_yes rfl rfl rfl) (fun hg => (op_field rfl rfl fo47_1 rfl)) ?_; refine L.guardv (v := (.int .i64 ((acc[k]!).slot))) (wanted_yes rfl rfl rfl) (fun hg => (op_load1 rfl ((show _ = vif _ (.pointer (some ⟨b12, 1, none⟩)) from rfl).trans (vif_t hg).symm) one3 (hB12.cells.one (n := 1) rfl))) ?_; refine L.guardv (v := (.pointer (some ⟨b1, 1, none⟩))) (wanted_yes rfl rfl rfl) (fun hg => (op_field rfl s10_4 fo47_1 rfl)) ?_; refine L.guardv (v := (.int .i64 v.slot)) (wanted_yes rfl rfl rfl) (fun hg => (op_load1 rfl ((show _ = vif _ (.pointer (some ⟨b1, 1, none⟩)) from rfl).trans (vif_t hg).symm) one3 (hB1.cells.one (n := 1) rfl))) ?_; refine L.guardv (v := (.bool (decide (((acc[k]!).slot) = v.slot)))) (wanted_yes rfl rfl rfl) (fun hg => (op_eql rfl ((show _ = vif _ (.int .i64 ((acc[k]!).slot)) from rfl).trans (vif_t hg).symm) ((show _ = vif _ (.int .i64 v.slot) from rfl).trans (vif_t hg).symm))) ?_; refine L.val rfl (op_and rfl rfl rfl rfl) ?_; refine L.val rfl (op_move rfl rfl) ?_; refine L.guardv (v := (.pointer (some ⟨b12, 0, none⟩))) (wanted_yes rfl rfl rfl) (fun hg => (op_field rfl rfl fo47_0 rfl)) ?_; refine L.guardv (v := (.int .i64 ((acc[k]!).kind))) (wanted_yes rfl rfl rfl) (fun hg => (op_load1 rfl ((show _ = vif _ (.pointer (some ⟨b12, 0, none⟩)) from rfl).trans (vif_t hg).symm) one3 (hB12.cells.one (n := 0) rfl))) ?_; refine L.guardv (v := (.bool (decide (((acc[k]!).kind) ≤ 4)))) (wanted_yes rfl rfl rfl) (fun hg => (op_leq rfl ((show _ = vif _ (.int .i64 ((acc[k]!).kind)) from rfl).trans (vif_t hg).symm) rfl)) ?_; refine L.val rfl (op_and rfl rfl rfl rfl) ?_; refine L.val rfl (op_move rfl rfl) ?_; refine L.guardv (v := (.int .i64 m)) (wanted_yes rfl rfl rfl) (fun hg => (op_move rfl s10_0)) ?_; refine L.guardv (v := (.pointer (some ⟨b12, 4, none⟩))) (wanted_yes rfl rfl rfl) (fun hg => (op_field rfl rfl fo47_4 rfl)) ?_; refine L.guardv (v := (.int .i64 ((acc[k]!).signer))) (wanted_yes rfl rfl rfl) (fun hg => (op_load1 rfl ((show _ = vif _ (.pointer (some ⟨b12, 4, none⟩)) from rfl).trans (vif_t hg).symm) one3 (hB12.cells.one (n := 4) rfl))) ?_; refine L.guardc (v := (.bool (has_f m ((acc[k]!).signer)))) (wanted_yes rfl rfl rfl) (fun hg => (OpS.call (op_call rfl (argsC ((show _ = vif _ (.int .i64 m) from rfl).trans (vif_t hg).symm) (argsC ((show _ = vif _ (.int .i64 ((acc[k]!).signer)) from rfl).trans (vif_t hg).symm) argsN)) Tryz.func77 rfl rfl) Has_ok)) ?_; intro w14 hx14; have hE := hE.trans hx14; have hS6 := hS6.trans hx14; have hB10_7 := hB10_7.ext hx14; have hO10_7 := hO10_7.ext hx14; have hB12 := hB12.ext hx14; refine L.val rfl (op_and rfl rfl rfl rfl) ?_; refine L.nil ?_; refine thenF_nor ?_; refine W.cond (t := ((((valid_f (acc[k]!)) && (decide ((acc[k]!).parent = v.parent))) && (decide (((acc[k]!).slot) = v.slot))) && (decide (((acc[k]!).kind) ≤ 4))) && (has_f m ((acc[k]!).signer))) rfl (fun hc15 => ?_) (fun hc15 => ?_)
   ·have hp15 := hc15; simp only [Bool.and_eq_true, Bool.or_eq_true, Bool.and_eq_false_iff, Bool.or_eq_false_iff, Bool.not_eq_true', Bool.not_eq_false', decide_eq_true_eq, decide_eq_false_iff_not] at hp15; have hstep := filter_yes (l := acc) (p := counts_f m v) (k := k) (by omega) hc15; refine W.region (by rfl) ?_; refine L.val rfl (op_field rfl s10_7 fo100_2 rfl) ?_; refine L.val rfl (op_load1 rfl rfl one25 (hB10_7.cells.one (n := 2) rfl)) ?_; refine L.val rfl (op_load (v := (acc[k]! : Vt)) rfl rfl ty47 hB12.cells) ?_; refine L.step rfl (op_slice1 (a := (acc[k]! : Vt)) rfl rfl sl25 zs47 (by decide)) ?_; rintro _ w16 ⟨b16, rfl, hb16, hB16, hx16⟩; have hE := hE.trans hx16; have hS6 := hS6.trans hx16; have hB10_7 := hB10_7.ext hx16; have hO10_7 := hO10_7.ext hx16; refine L.step rfl (op_append (a := (acc[k]! : Vt)) (ad := ⟨b16, 0, none⟩) rfl rfl rfl sl25 zs47 bt47 hO10_7 hB16.cells (by omega) (by decide) (Nat.succ_le_of_lt hB10_7.lt)) ?_; rintro v17 w17 ⟨hO17, hg17⟩; have hS6 := hS6.own (hO10_7.lower (by omega)) hg17; have hB10_7 := hB10_7.far hg17 (hO10_7.ne' (Nat.lt_succ_self _)); have hE := S6_hE.trans hS6; refine L.val rfl (op_field rfl s10_7 fo100_2 rfl) ?_; refine L.step rfl (op_put (v := v17) rfl rfl rfl si25 hB10_7 (Nat.le_of_ble_eq_true rfl) hO17.cells hO17.onec) ?_; rintro _ w18 ⟨hB18, hg18⟩; have hO17 := (hO17).kept hg18 (hO17.ne (Nat.lt_succ_self _)); have hS6 := hS6.grown hg18 (by intro k hk; cases hk; omega); have hE := S6_hE.trans hS6; have hB10_7 := hB18; refine L.nil ?_; refine blockF_nor ?_; refine thenF_nor ?_; refine W.region (by rfl) ?_; refine L.val rfl (op_add (c := ((k + 1 : Nat) : Int)) rfl s10_39 rfl (by omega) (by omega)) ?_; refine L.val rfl (op_move rfl rfl) ?_; refine L.nil ?_; refine thenF_nor ?_; exact ⟨k + 1, ⟨(by (try dsimp only); omega), s10_0, s10_4, s10_6, s10_37, s10_38, rfl, s10_7, (by rw [← hstep]; exact ⟨_, hB10_7, hO17⟩), hS6⟩, (by (try dsimp only); omega)⟩
   ·have hp15 := hc15; simp only [Bool.and_eq_true, Bool.or_eq_true, Bool.and_eq_false_iff, Bool.or_eq_false_iff, Bool.not_eq_true', Bool.not_eq_false', decide_eq_true_eq, decide_eq_false_iff_not] at hp15; have hstep := filter_no (l := acc) (p := counts_f m v) (k := k) (by omega) hc15; refine W.skip ?_; refine blockF_nor ?_; refine thenF_nor ?_; refine W.region (by rfl) ?_; refine L.val rfl (op_add (c := ((k + 1 : Nat) : Int)) rfl s10_39 rfl (by omega) (by omega)) ?_; refine L.val rfl (op_move rfl rfl) ?_; refine L.nil ?_; refine thenF_nor ?_; exact ⟨k + 1, ⟨(by (try dsimp only); omega), s10_0, s10_4, s10_6, s10_37, s10_38, rfl, s10_7, (by rw [← hstep]; exact ⟨_, hB10_7, hO10_7⟩), hS6⟩, (by (try dsimp only); omega)⟩
  ·have hp11 := hc11; simp only [Bool.and_eq_true, Bool.or_eq_true, Bool.and_eq_false_iff, Bool.or_eq_false_iff, Bool.not_eq_true', Bool.not_eq_false', decide_eq_true_eq, decide_eq_false_iff_not] at hp11; have hkl : k = acc.length := by omega
   rw [hkl, List.take_length] at hO10_7; refine W.exit ?_; refine thenF_exit ?_; refine thenF_exit ?_; refine blockF_hit ?_; refine thenF_nor ?_; refine W.seq ?_; refine W.seq ?_; refine W.region (by rfl) ?_; refine L.val rfl (op_field rfl s10_4 fo47_0 rfl) ?_; refine L.val rfl (op_load1 rfl rfl one3 (hB1.cells.one (n := 0) rfl)) ?_; refine L.nil ?_; refine thenF_nor ?_; refine W.block ?_; refine W.seq ?_; refine W.region (by rfl) ?_; refine L.val rfl (op_eql rfl rfl rfl) ?_; refine L.val rfl (op_assign rfl rfl) ?_; refine L.nil ?_; refine thenF_nor ?_; refine W.cond (t := decide (v.kind = 1)) rfl (fun hc19 => ?_) (fun hc19 => ?_)
   ·have hp19 := hc19; simp only [Bool.and_eq_true, Bool.or_eq_true, Bool.and_eq_false_iff, Bool.or_eq_false_iff, Bool.not_eq_true', Bool.not_eq_false', decide_eq_true_eq, decide_eq_false_iff_not] at hp19; refine W.seq ?_; refine W.region (by rfl) ?_; refine L.val rfl (op_field rfl s10_4 fo47_4 rfl) ?_; refine L.val rfl (op_load1 rfl rfl one3 (hB1.cells.one (n := 4) rfl)) ?_; refine L.val rfl (op_field rfl s10_4 fo47_1 rfl) ?_; refine L.val rfl (op_load1 rfl rfl one3 (hB1.cells.one (n := 1) rfl)) ?_; refine L.val rfl (op_eql rfl rfl rfl) ?_; refine L.val rfl (op_assign rfl rfl) ?_; refine L.nil ?_; refine thenF_nor ?_; refine W.ret ?_; refine blockF_ret ?_; refine thenF_ret ?_; exact end_ret1 (v := (.bool (decide (v.signer = v.slot)))) rfl rfl ⟨by simp only [allowed_f, hc5, hc11, hc19, cond_true, cond_false], hE⟩
   ·have hp19 := hc19; simp only [Bool.and_eq_true, Bool.or_eq_true, Bool.and_eq_false_iff, Bool.or_eq_false_iff, Bool.not_eq_true', Bool.not_eq_false', decide_eq_true_eq, decide_eq_false_iff_not] at hp19; refine W.seq ?_; refine W.region (by rfl) ?_; refine L.val rfl (op_eql rfl rfl rfl) ?_; refine L.val rfl (op_assign rfl rfl) ?_; refine L.nil ?_; refine thenF_nor ?_; refine W.cond (t := decide (v.kind = 2)) rfl (fun hc20 => ?_) (fun hc20 => ?_)
    ·have hp20 := hc20; simp only [Bool.and_eq_true, Bool.or_eq_true, Bool.and_eq_false_iff, Bool.or_eq_false_iff, Bool.not_eq_true', Bool.not_eq_false', decide_eq_true_eq, decide_eq_false_iff_not] at hp20; refine W.seq ?_; obtain ⟨A21, c21, hv21, hR21, hcap21⟩ := (hO10_7).form; have hlen21 := hR21.len; have hBs21 := hB10_7; rw [hv21] at hBs21; refine W.region (by rfl) ?_; refine L.val rfl (op_loadcs (cs := [(.int .i64 m), (.int .i64 (quorum_f (size_f m))), (.slice A21 (acc.filter (counts_f m v)).length c21)]) rfl s10_7 ag100 si100 hBs21.cells) ?_; refine L.val rfl (op_func rfl (argsC s10_4 argsN)) ?_; refine L.call (v := (.bool ((acc.filter (counts_f m v)).any (fun xx => allowed1_f xx v)))) rfl (OpS.call (op_call rfl (argsC rfl (argsC rfl argsN)) Tryz.func84 rfl rfl) (has_ok hR21 (⟨_, [(.pointer (some ⟨b1, 0, none⟩))], _, rfl, Tryz.func85, rfl, rfl, fun xx ww hxx => (allowed1_ok (hB1.cells.ext hxx))⟩ : Fits _ _ _ (fun xx => allowed1_f xx v)))) ?_; intro w22 hx22; have hE := hE.trans hx22; refine L.val rfl (op_assign rfl rfl) ?_; refine L.nil ?_; refine thenF_nor ?_; refine W.ret ?_; refine blockF_ret ?_; refine thenF_ret ?_; exact end_ret1 (v := (.bool ((acc.filter (counts_f m v)).any (fun xx => allowed1_f xx v)))) rfl rfl ⟨by simp only [allowed_f, hc5, hc11, hc19, hc20, cond_true, cond_false], hE⟩
    ·have hp20 := hc20; simp only [Bool.and_eq_true, Bool.or_eq_true, Bool.and_eq_false_iff, Bool.or_eq_false_iff, Bool.not_eq_true', Bool.not_eq_false', decide_eq_true_eq, decide_eq_false_iff_not] at hp20; refine W.seq ?_; refine W.region (by rfl) ?_; refine L.val rfl (op_eql rfl rfl rfl) ?_; refine L.val rfl (op_assign rfl rfl) ?_; refine L.nil ?_; refine thenF_nor ?_; refine W.cond (t := decide (v.kind = 3)) rfl (fun hc23 => ?_) (fun hc23 => ?_)
     ·have hp23 := hc23; simp only [Bool.and_eq_true, Bool.or_eq_true, Bool.and_eq_false_iff, Bool.or_eq_false_iff, Bool.not_eq_true', Bool.not_eq_false', decide_eq_true_eq, decide_eq_false_iff_not] at hp23; refine W.seq ?_; obtain ⟨A24, c24, hv24, hR24, hcap24⟩ := (hO10_7).form; have hlen24 := hR24.len; have hBs24 := hB10_7; rw [hv24] at hBs24; refine W.region (by rfl) ?_; refine L.val rfl (op_loadcs (cs := [(.int .i64 m), (.int .i64 (quorum_f (size_f m))), (.slice A24 (acc.filter (counts_f m v)).length c24)]) rfl s10_7 ag100 si100 hBs24.cells) ?_; refine L.val rfl (op_load (v := (v : Vt)) rfl s10_4 ty47 hB1.cells) ?_; refine L.call (v := (.bool (prevote_f m (quorum_f (size_f m)) (acc.filter (counts_f m v)) v))) rfl (OpS.call (op_call rfl (argsC rfl (argsC rfl argsN)) Tryz.func87 rfl rfl) (prevote_ok hR24 (by first | omega | (simp only [List.length_drop, List.length_take, List.length_append, List.length_cons, List.length_nil] at *; omega)) (by first | omega | (simp only [List.length_drop, List.length_take, List.length_append, List.length_cons, List.length_nil] at *; omega)))) ?_; intro w25 hx25; have hE := hE.trans hx25; refine L.val rfl (op_assign rfl rfl) ?_; refine L.nil ?_; refine thenF_nor ?_; refine W.ret ?_; refine blockF_ret ?_; refine thenF_ret ?_; exact end_ret1 (v := (.bool (prevote_f m (quorum_f (size_f m)) (acc.filter (counts_f m v)) v))) rfl rfl ⟨by simp only [allowed_f, hc5, hc11, hc19, hc20, hc23, cond_true, cond_false], hE⟩
     ·have hp23 := hc23; simp only [Bool.and_eq_true, Bool.or_eq_true, Bool.and_eq_false_iff, Bool.or_eq_false_iff, Bool.not_eq_true', Bool.not_eq_false', decide_eq_true_eq, decide_eq_false_iff_not] at hp23; refine W.skip ?_; refine blockF_nor ?_; refine thenF_nor ?_; refine W.seq ?_; obtain ⟨A26, c26, hv26, hR26, hcap26⟩ := (hO10_7).form; have hlen26 := hR26.len; have hBs26 := hB10_7; rw [hv26] at hBs26; refine W.region (by rfl) ?_; refine L.val rfl (op_loadcs (cs := [(.int .i64 m), (.int .i64 (quorum_f (size_f m))), (.slice A26 (acc.filter (counts_f m v)).length c26)]) rfl s10_7 ag100 si100 hBs26.cells) ?_; refine L.val rfl (op_load (v := (v : Vt)) rfl s10_4 ty47 hB1.cells) ?_; refine L.call (v := (.bool (precommit_f m (quorum_f (size_f m)) (acc.filter (counts_f m v)) v))) rfl (OpS.call (op_call rfl (argsC rfl (argsC rfl argsN)) Tryz.func88 rfl rfl) (precommit_ok hR26)) ?_; intro w27 hx27; have hE := hE.trans hx27; refine L.val rfl (op_assign rfl rfl) ?_; refine L.nil ?_; refine thenF_nor ?_; refine W.ret ?_; exact end_ret1 (v := (.bool (precommit_f m (quorum_f (size_f m)) (acc.filter (counts_f m v)) v))) rfl rfl ⟨by simp only [allowed_f, hc5, hc11, hc19, hc20, hc23, cond_false], hE⟩
end Go.Proofs.YtdknjfmjddlphaaGreat
/-
  The orders of names and votes are strict and total. No walk.
-/
namespace Go.Proofs.YtdknjfmjddlphaaGreat
open Go Go.Fk
theorem or8 (x c : Int) (h0 : 0 ≤ x) (h1 : x < 72057594037927936) (h2 : 0 ≤ c) (h3 : c < 256) : bits .or .u64 (IntKind.u64.wrap (x * 2 ^ (8 : Int).toNat)) (IntKind.u64.wrap c) = x * 256 + c := by
 have w1 : ∀ n : Int, 0 ≤ n → n < 18446744073709551616 → IntKind.u64.wrap n = n := fun n a b => by
  simp only [IntKind.wrap, IntKind.bits, IntKind.signed]
  simp
  omega
 have e8 : (2 : Int) ^ (8 : Int).toNat = 256 := by decide
 rw [e8, w1 (x * 256) (by omega) (by omega), w1 c h2 (by omega)]; show IntKind.u64.wrap (((BitVec.ofInt 64 (x * 256) ||| BitVec.ofInt 64 c).toNat : Nat) : Int) = _; obtain ⟨n, rfl⟩ : ∃ n : Nat, x = n := ⟨x.toNat, by omega⟩; obtain ⟨k, rfl⟩ : ∃ k : Nat, c = k := ⟨c.toNat, by omega⟩
 have a1 : (BitVec.ofInt 64 ((n : Int) * 256)).toNat = n * 256 := by
  rw [BitVec.toNat_ofInt]; simp; omega
 have a2 : (BitVec.ofInt 64 (k : Int)).toNat = k := by
  rw [BitVec.toNat_ofInt]; simp; omega
 rw [BitVec.toNat_or, a1, a2]
 have a3 : n * 256 ||| k = n * 256 + k := by
  have := Nat.shiftLeft_add_eq_or_of_lt (a := n) (b := k) (i := 8) (by omega)
  rw [Nat.shiftLeft_eq] at this
  exact this.symm
 rw [a3, w1 _ (by omega) (by omega)]; omega
def num (n : Nm) : Int := ((((((((n.n0.toNat : Int) * 256 + n.n1.toNat) * 256 + n.n2.toNat) * 256 + n.n3.toNat) * 256 + n.n4.toNat) * 256 + n.n5.toNat) * 256 + n.n6.toNat) * 256 + n.n7.toNat)
theorem number_eq (n : Nm) : number_f n = num n := by
 have h0 := n.n0.toNat_lt; have h1 := n.n1.toNat_lt; have h2 := n.n2.toNat_lt; have h3 := n.n3.toNat_lt; have h4 := n.n4.toNat_lt; have h5 := n.n5.toNat_lt; have h6 := n.n6.toNat_lt; have h7 := n.n7.toNat_lt; unfold number_f num; rw [or8 0 _ (by omega) (by omega) (by omega) (by omega)]; rw [or8 (0 * 256 + (n.n0.toNat : Int)) (n.n1.toNat : Int) (by omega) (by omega) (by omega) (by omega)]; rw [or8 ((0 * 256 + (n.n0.toNat : Int)) * 256 + (n.n1.toNat : Int)) (n.n2.toNat : Int) (by omega) (by omega) (by omega) (by omega)]; rw [or8 (((0 * 256 + (n.n0.toNat : Int)) * 256 + (n.n1.toNat : Int)) * 256 + (n.n2.toNat : Int)) (n.n3.toNat : Int) (by omega) (by omega) (by omega) (by omega)]; rw [or8 ((((0 * 256 + (n.n0.toNat : Int)) * 256 + (n.n1.toNat : Int)) * 256 + (n.n2.toNat : Int)) * 256 + (n.n3.toNat : Int)) (n.n4.toNat : Int) (by omega) (by omega) (by omega) (by omega)]; rw [or8 (((((0 * 256 + (n.n0.toNat : Int)) * 256 + (n.n1.toNat : Int)) * 256 + (n.n2.toNat : Int)) * 256 + (n.n3.toNat : Int)) * 256 + (n.n4.toNat : Int)) (n.n5.toNat : Int) (by omega) (by omega) (by omega) (by omega)]; rw [or8 ((((((0 * 256 + (n.n0.toNat : Int)) * 256 + (n.n1.toNat : Int)) * 256 + (n.n2.toNat : Int)) * 256 + (n.n3.toNat : Int)) * 256 + (n.n4.toNat : Int)) * 256 + (n.n5.toNat : Int)) (n.n6.toNat : Int) (by omega) (by omega) (by omega) (by omega)]; rw [or8 (((((((0 * 256 + (n.n0.toNat : Int)) * 256 + (n.n1.toNat : Int)) * 256 + (n.n2.toNat : Int)) * 256 + (n.n3.toNat : Int)) * 256 + (n.n4.toNat : Int)) * 256 + (n.n5.toNat : Int)) * 256 + (n.n6.toNat : Int)) (n.n7.toNat : Int) (by omega) (by omega) (by omega) (by omega)]; omega
theorem num_inj {a b : Nm} (h : num a = num b) : a = b := by
 have h0 := a.n0.toNat_lt; have h1 := a.n1.toNat_lt; have h2 := a.n2.toNat_lt; have h3 := a.n3.toNat_lt; have h4 := a.n4.toNat_lt; have h5 := a.n5.toNat_lt; have h6 := a.n6.toNat_lt; have h7 := a.n7.toNat_lt; have k0 := b.n0.toNat_lt; have k1 := b.n1.toNat_lt; have k2 := b.n2.toNat_lt; have k3 := b.n3.toNat_lt; have k4 := b.n4.toNat_lt; have k5 := b.n5.toNat_lt; have k6 := b.n6.toNat_lt; have k7 := b.n7.toNat_lt; unfold num at h; refine (Nm.ext_iff' a b).2 ⟨?_, ?_, ?_, ?_, ?_, ?_, ?_, ?_⟩ <;> exact UInt8.toNat_inj.1 (by omega)
theorem hashLess_eq (a b : Nm) : hashLess_f a b = decide (num a < num b) := by
 unfold hashLess_f; rw [number_eq, number_eq]; by_cases h : a = b
 ·subst h; simp
 ·simp [h]
theorem nm_dec (a b : Nm) : decide (a = b) = decide (num a = num b) := by
 by_cases h : a = b
 ·subst h; simp
 ·have : ¬ num a = num b := fun e => h (num_inj e); simp [h, this]
/-- two rows of numbers, the first difference decides -/
def lexl : List Int → List Int → Bool
  | x :: xs, y :: ys => bif !decide (x = y) then decide (x < y) else lexl xs ys
  | _, _ => false
theorem lexl_irrefl : ∀ l, lexl l l = false
  | [] => rfl
  | x :: xs => by simp [lexl, lexl_irrefl xs]
theorem lexl_trans : ∀ a b c, lexl a b = true → lexl b c = true → lexl a c = true
  | [], _, _, h, _ => by simp [lexl] at h
  | _ :: _, [], _, h, _ => by simp [lexl] at h
  | _ :: _, _ :: _, [], _, h => by simp [lexl] at h
  | x :: xs, y :: ys, z :: zs, h1, h2 => by
    simp only [lexl] at h1 h2 ⊢
    by_cases e1 : x = y
    · by_cases e2 : y = z
      · subst e1 e2; simp at h1 h2 ⊢; exact lexl_trans _ _ _ h1 h2
      · subst e1; simp [e2] at h1 h2 ⊢; exact h2
    · by_cases e2 : y = z
      · subst e2; simp [e1] at h1 h2 ⊢; exact h1
      · simp [e1, e2] at h1 h2
        have : ¬ x = z := by omega
        simp [this]; omega
theorem lexl_total : ∀ a b, a.length = b.length → lexl a b = false → lexl b a = false → a = b
  | [], [], _, _, _ => rfl
  | [], _ :: _, h, _, _ => by simp at h
  | _ :: _, [], h, _, _ => by simp at h
  | x :: xs, y :: ys, h, h1, h2 => by
    simp only [lexl] at h1 h2
    by_cases e : x = y
    · subst e; simp at h1 h2
      rw [lexl_total xs ys (by simpa using h) h1 h2]
    · have e' : ¬ y = x := fun h => e h.symm
      simp [e, e'] at h1 h2; omega
/-- a strict total order -/
structure Lin {α : Type} (lt : α → α → Bool) : Prop where
  irrefl : ∀ x, lt x x = false
  trans : ∀ x y z, lt x y = true → lt y z = true → lt x z = true
  total : ∀ x y, lt x y = false → lt y x = false → x = y
theorem Lin.asymm {α : Type} {lt : α → α → Bool} (h : Lin lt) {x y : α} (hxy : lt x y = true) : lt y x = false := by
 cases hc : lt y x with
 | false => rfl; | true => have := h.trans _ _ _ hxy hc; rw [h.irrefl] at this; cases this
theorem Lin.swo {α : Type} {lt : α → α → Bool} (h : Lin lt) : Go.Sort.SWO lt where
  irrefl := h.irrefl
  trans := h.trans
  ntrans x y z h1 h2 := by
    cases hc : lt x z with
    | false => rfl
    | true =>
      cases h3 : lt y x with
      | true => have := h.trans _ _ _ h3 hc; rw [h2] at this; cases this
      | false => have := h.total _ _ h1 h3; subst this; rw [h2] at hc; cases hc
theorem Lin.of_key {α : Type} {lt : α → α → Bool} (key : α → List Int) (n : Nat) (hn : ∀ x, (key x).length = n) (hinj : ∀ x y, key x = key y → x = y) (h : ∀ x y, lt x y = lexl (key x) (key y)) : Lin lt where
  irrefl x := by rw [h]; exact lexl_irrefl _
  trans x y z h1 h2 := by rw [h] at h1 h2 ⊢; exact lexl_trans _ _ _ h1 h2
  total x y h1 h2 := by rw [h] at h1 h2; exact hinj _ _ (lexl_total _ _ (by rw [hn, hn]) h1 h2)
def vkey (v : Vt) : List Int := [num v.parent, v.slot, v.round, v.kind, v.signer, v.choice, num v.value, v.support]
theorem vote_lin : Lin voteLess_f := Lin.of_key vkey 8 (fun _ => rfl)
  (fun x y h => by
    simp only [vkey, List.cons.injEq, and_true] at h
    obtain ⟨h1, h2, h3, h4, h5, h6, h7, h8⟩ := h
    exact (Vt.ext_iff' x y).2 ⟨h4, h2, h3, h6, h5, h8, num_inj h1, num_inj h7⟩)
  (fun a b => by
    unfold voteLess_f vkey
    rw [hashLess_eq, hashLess_eq, nm_dec a.parent, nm_dec a.value]
    simp only [lexl]
    by_cases h8 : a.support = b.support
    · simp [h8]
    · simp [h8])
set_option linter.unusedSectionVars false
section
variable {α : Type} [DecidableEq α] {lt : α → α → Bool}
/-- strictly ascending -/
def Asc (lt : α → α → Bool) (l : List α) : Prop := l.Pairwise fun a b => lt a b = true
theorem Asc.unique (hl : Lin lt) : ∀ {l m : List α}, Asc lt l → Asc lt m → (∀ x, x ∈ l ↔ x ∈ m) → l = m
  | [], [], _, _, _ => rfl
  | [], y :: m, _, _, h => by have := (h y).2 (by simp); simp at this
  | x :: l, [], _, _, h => by have := (h x).1 (by simp); simp at this
  | x :: l, y :: m, h1, h2, h => by
    obtain ⟨a1, a2⟩ := List.pairwise_cons.1 h1
    obtain ⟨b1, b2⟩ := List.pairwise_cons.1 h2
    have e : x = y := by
      have hx := (h x).1 (by simp)
      have hy := (h y).2 (by simp)
      rcases List.mem_cons.1 hx with e | hx
      · exact e
      · rcases List.mem_cons.1 hy with e | hy
        · exact e.symm
        · have c1 := b1 x hx
          have c2 := a1 y hy
          rw [hl.asymm c1] at c2; cases c2
    subst e
    congr 1
    refine Asc.unique hl a2 b2 fun z => ?_
    constructor
    · intro hz
      rcases List.mem_cons.1 ((h z).1 (by simp [hz])) with e | hz'
      · subst e; have := a1 z hz; rw [hl.irrefl] at this; cases this
      · exact hz'
    · intro hz
      rcases List.mem_cons.1 ((h z).2 (by simp [hz])) with e | hz'
      · subst e; have := b1 z hz; rw [hl.irrefl] at this; cases this
      · exact hz'
/-- the element in its place, unless it is there -/
def ins (lt : α → α → Bool) (x : α) : List α → List α
  | [] => [x]
  | y :: t => bif lt x y then x :: y :: t else bif decide (x = y) then y :: t else y :: ins lt x t
/-- sorted, without duplicates -/
def sorted (lt : α → α → Bool) (l : List α) : List α := l.foldr (ins lt) []
theorem mem_ins (x z : α) : ∀ l, z ∈ ins lt x l ↔ z = x ∨ z ∈ l
  | [] => by simp [ins]
  | y :: t => by
    unfold ins
    cases h : lt x y with
    | true => simp
    | false =>
      by_cases e : x = y
      · subst e; simp
      · simp only [cond_false, e, decide_false, List.mem_cons, mem_ins x z t]
        constructor
        · rintro (h | h | h)
          · exact Or.inr (Or.inl h)
          · exact Or.inl h
          · exact Or.inr (Or.inr h)
        · rintro (h | h | h)
          · exact Or.inr (Or.inl h)
          · exact Or.inl h
          · exact Or.inr (Or.inr h)
theorem asc_ins (hl : Lin lt) (x : α) : ∀ {l}, Asc lt l → Asc lt (ins lt x l)
  | [], _ => by simp [ins, Asc]
  | y :: t, h => by
    obtain ⟨a1, a2⟩ := List.pairwise_cons.1 h
    unfold ins
    cases hxy : lt x y with
    | true =>
      refine List.pairwise_cons.2 ⟨fun z hz => ?_, h⟩
      rcases List.mem_cons.1 hz with e | hz
      · subst e; exact hxy
      · exact hl.trans _ _ _ hxy (a1 z hz)
    | false =>
      by_cases e : x = y
      · subst e; simpa using h
      · simp only [cond_false, e, decide_false]
        have hyx : lt y x = true := by
          cases hc : lt y x with
          | true => rfl
          | false => exact absurd (hl.total _ _ hxy hc) e
        refine List.pairwise_cons.2 ⟨fun z hz => ?_, asc_ins hl x a2⟩
        rcases (mem_ins x z t).1 hz with e | hz
        · subst e; exact hyx
        · exact a1 z hz
theorem sorted_mem (z : α) (l : List α) : z ∈ sorted lt l ↔ z ∈ l := by
 induction l with
 | nil => simp [sorted]; | cons x t ih => unfold sorted at ih ⊢; rw [List.foldr_cons, mem_ins, ih]; simp
theorem sorted_asc (hl : Lin lt) (l : List α) : Asc lt (sorted lt l) := by
 induction l with
 | nil => simp [sorted, Asc]; | cons x t ih => unfold sorted at ih ⊢; rw [List.foldr_cons]; exact asc_ins hl x ih
end
end Go.Proofs.YtdknjfmjddlphaaGreat
/-
  What sort.Slice is told of a closure that compares two elements of the slice in a captured variable; and a sorted list without its repetitions. No walk.
-/
namespace Go.Proofs.YtdknjfmjddlphaaGreat
open Go Go.Fk Go.Sort
theorem lessOk_box {α : Type} [Enc α] [Inhabited α] {lt : α → α → Bool} {g : Nat} {fn : Func} (h1 : Tryz.prog.funcs[g]? = some fn) (h2 : fn.body.isSome = true) (h3 : (fn.name == "runtime.NumGoroutine") = false)
    (hc : ∀ {w : World} {q : Addr} {A : Option Addr} {c lo hi : Nat} {l : List α} {i j : Nat}, Cells w q [.slice A l.length c] → Rd w lo hi A l → i < l.length → j < l.length → Gives Tryz.prog g #[.int .i64 ((i : Nat) : Int), .int .i64 ((j : Nat) : Int), .pointer (some q)] w fun u w' => u = .bool (lt l[i]! l[j]!) ∧ Ext w w')
    {w : World} {b blk n c : Nat} {t : TypeId} (hB : Box w b t [.slice (some ⟨blk, 0, none⟩) n c]) (hne : b ≠ blk) (hn : n ≤ 9223372036854775807) : LessOk Tryz.prog lt (.func (.func g) #[] #[.pointer (some ⟨b, 0, none⟩)]) blk 0 n w := by
  refine ⟨g, _, fn, rfl, h1, h2, h3, fun w1 d hF hs hH i j hi hj => ?_⟩
  subst hs
  have hB1 := hB.farx hF hne
  have hR := rd_of_hld (lo := 0) (hi := blk + 1) hH hn (Nat.zero_le _) (Nat.lt_succ_self _)
  have hcs : Cells w1 ⟨b, 0, none⟩ [.slice (some ⟨blk, 0, none⟩) d.toList.length c] := by
    have := hB1.cells
    simpa using this
  have := hc (i := i) (j := j) hcs hR (by simpa using hi) (by simpa using hj)
  simpa [hi, hj] using this
section
variable {α : Type} [DecidableEq α] [Inhabited α] {lt : α → α → Bool}
/-- the first k elements, each that is like the one ahead of it left out -/
def dedupN (l : List α) : Nat → List α
  | 0 => []
  | k + 1 => bif decide (((k : Nat) : Int) = 0) || !decide (l[k]! = l[k - 1]!) then dedupN l k ++ [l[k]!] else dedupN l k
theorem dedup_len (l : List α) : ∀ k, (dedupN l k).length ≤ k
  | 0 => by simp [dedupN]
  | k + 1 => by
    have := dedup_len l k
    unfold dedupN
    cases decide (((k : Nat) : Int) = 0) || !decide (l[k]! = l[k - 1]!) with
    | true => simp; omega
    | false => simp; omega
theorem dedup_yes {l : List α} {k : Nat} (h : (decide (((k : Nat) : Int) = 0) || !decide (l[k]! = l[k - 1]!)) = true) : dedupN l (k + 1) = dedupN l k ++ [l[k]!] := by
 simp only [dedupN, h, cond_true]
theorem dedup_no {l : List α} {k : Nat} (h : (decide (((k : Nat) : Int) = 0) || !decide (l[k]! = l[k - 1]!)) = false) : dedupN l (k + 1) = dedupN l k := by
 simp only [dedupN, h, cond_false]
theorem dedup_mem {l : List α} {z : α} : ∀ {k : Nat}, z ∈ dedupN l k ↔ ∃ i, i < k ∧ z = l[i]!
  | 0 => by simp [dedupN]
  | k + 1 => by
    have ih := dedup_mem (l := l) (z := z) (k := k)
    unfold dedupN
    cases h : decide (((k : Nat) : Int) = 0) || !decide (l[k]! = l[k - 1]!) with
    | true =>
      simp only [cond_true, List.mem_append, List.mem_singleton, ih]
      constructor
      · rintro (⟨i, hi, e⟩ | e)
        · exact ⟨i, by omega, e⟩
        · exact ⟨k, by omega, e⟩
      · rintro ⟨i, hi, e⟩
        rcases Nat.lt_succ_iff_lt_or_eq.1 hi with h | h
        · exact Or.inl ⟨i, h, e⟩
        · subst h; exact Or.inr e
    | false =>
      simp only [Bool.or_eq_false_iff, decide_eq_false_iff_not, Bool.not_eq_false', decide_eq_true_eq] at h
      simp only [cond_false, ih]
      constructor
      · rintro ⟨i, hi, e⟩; exact ⟨i, by omega, e⟩
      · rintro ⟨i, hi, e⟩
        rcases Nat.lt_succ_iff_lt_or_eq.1 hi with h' | h'
        · exact ⟨i, h', e⟩
        · subst h'; exact ⟨i - 1, by omega, by rw [e]; exact h.2⟩
theorem dedup_asc (hl : Lin lt) {l : List α} (hs : ∀ i j, i < j → j < l.length → lt l[j]! l[i]! = false) : ∀ {k : Nat}, k ≤ l.length → Asc lt (dedupN l k)
  | 0, _ => by simp [dedupN, Asc]
  | k + 1, hk => by
    have ih := dedup_asc hl hs (k := k) (by omega)
    unfold dedupN
    cases h : decide (((k : Nat) : Int) = 0) || !decide (l[k]! = l[k - 1]!) with
    | false => exact ih
    | true =>
      simp only [cond_true]
      refine List.pairwise_append.2 ⟨ih, by simp, fun x hx y hy => ?_⟩
      rw [List.mem_singleton] at hy
      subst hy
      obtain ⟨i, hi, rfl⟩ := dedup_mem.1 hx
      simp only [Bool.or_eq_true, decide_eq_true_eq, Bool.not_eq_true', decide_eq_false_iff_not] at h
      rcases h with h | h
      · omega
      · have hlast : lt l[k - 1]! l[k]! = true := by
          cases hc : lt l[k - 1]! l[k]! with
          | true => rfl
          | false => exact absurd (hl.total _ _ (hs (k - 1) k (by omega) (by omega)) hc) h
        rcases Nat.lt_or_ge i (k - 1) with hlt | hge
        · cases hc : lt l[i]! l[k - 1]! with
          | true => exact hl.trans _ _ _ hc hlast
          | false =>
            have := hl.total _ _ hc (hs i (k - 1) hlt (by omega))
            rw [this]; exact hlast
        · have : i = k - 1 := by omega
          rw [this]; exact hlast
theorem dedup_sorted (hl : Lin lt) {l m : List α} (hs : ∀ i j, i < j → j < l.length → lt l[j]! l[i]! = false) (hp : l.Perm m) : dedupN l l.length = sorted lt m := by
 refine Asc.unique hl (dedup_asc hl hs (Nat.le_refl _)) (sorted_asc hl m) fun z => ?_; rw [dedup_mem, sorted_mem, ← hp.mem_iff]; constructor
 ·rintro ⟨i, hi, rfl⟩; rw [getElem!_pos l i hi]; exact List.getElem_mem hi
 ·intro hz; obtain ⟨i, hi, e⟩ := List.getElem_of_mem hz; exact ⟨i, hi, by rw [getElem!_pos l i hi]; exact e.symm⟩
end
theorem ins_len {α : Type} [DecidableEq α] {lt : α → α → Bool} (x : α) : ∀ l, (ins lt x l).length ≤ l.length + 1
  | [] => by simp [ins]
  | y :: t => by
    unfold ins
    cases lt x y with
    | true => simp
    | false =>
      cases decide (x = y) with
      | true => simp
      | false => simpa using ins_len x t
theorem sorted_len {α : Type} [DecidableEq α] {lt : α → α → Bool} (l : List α) : (sorted lt l).length ≤ l.length := by
 induction l with
 | nil => simp [sorted]
 | cons x t ih =>
  unfold sorted at ih ⊢
  rw [List.foldr_cons]
  have := ins_len (lt := lt) x (t.foldr (ins lt) [])
  simp only [List.length_cons]; omega
/-- the votes above the parent, ascending, without repetitions -/
def asc_f (parent : Nm) (l : List Vt) : List Vt := sorted voteLess_f (l.filter fun x => decide (x.parent = parent))
theorem asc_len (parent : Nm) (l : List Vt) : (asc_f parent l).length ≤ l.length := Nat.le_trans (sorted_len _) (List.length_filter_le _ _)
end Go.Proofs.YtdknjfmjddlphaaGreat
/-
  Contracts of functions of the program, each with its walk in the logic of frames. Printed by a program of this session (wip/gen) from the translation.
-/
set_option linter.unusedSimpArgs false
set_option linter.unusedVariables false
namespace Go.Proofs.YtdknjfmjddlphaaGreat
open Go Go.Fk
set_option maxRecDepth 100000 in
theorem ascending1_ok {i : Nat} {j : Nat} {q_l : Addr} {A_l : Option Addr} {c_l lo_l hi_l : Nat} {l : List Vt}  {w : World} (hq_l : Cells w q_l [.slice A_l l.length c_l]) (hR_l : Rd w lo_l hi_l A_l l) (hi : i < l.length) (hj : j < l.length) : Gives Tryz.prog 98 #[(.int .i64 ((i : Nat) : Int)), (.int .i64 ((j : Nat) : Int)), (.pointer (some q_l))] w fun u w' => u = (.bool (voteLess_f l[i]! l[j]!)) ∧ Ext w w' := by
 have hE : Ext w w := Ext.refl w; have hlen_l := hR_l.len; refine gives_of_W Tryz.func98 rfl Tryz.ntmps98 rfl ?_; refine W.seq ?_; refine W.region (by rfl) ?_; refine L.val (v := (.bool false)) rfl (op_assign rfl rfl) ?_; refine L.nil ?_; refine thenF_nor ?_; refine W.seq ?_; refine W.drawS [Sp.eq (.slice A_l l.length c_l), Sp.eq (.int .i64 ((i : Nat) : Int)), Sp.eq (.pointer (some ((adr A_l).add (i * 22)))), Sp.eq (Enc.val (l[i]! : Vt)), Sp.eq (.slice A_l l.length c_l), Sp.eq (.int .i64 ((j : Nat) : Int)), Sp.eq (.pointer (some ((adr A_l).add (j * 22)))), Sp.eq (Enc.val (l[j]! : Vt)), Sp.eq (.bool (voteLess_f (l[i]!) (l[j]!))), Sp.eq (.bool (voteLess_f (l[i]!) (l[j]!)))] mixed (by rfl) (Obls.cons ?_ (Obls.cons ?_ (Obls.cons ?_ (Obls.cons ?_ (Obls.cons ?_ (Obls.cons ?_ (Obls.cons ?_ (Obls.cons ?_ (Obls.cons ?_ (Obls.cons ?_ Obls.nil)))))))))) ?_
 ·intro f2 w2 hx2 ho2 hd2; have d2_s2 : f2 2 = (.pointer (some q_l)) := ho2 2 rfl; have hq_l := hq_l.ext hx2; exact D.val rfl (op_load1 rfl d2_s2 one25 (hq_l.one (n := 0) rfl))
 ·intro f3 w3 hx3 ho3 hd3; have d3_s0 : f3 0 = (.int .i64 ((i : Nat) : Int)) := ho3 0 rfl; exact D.val rfl (op_move rfl d3_s0)
 ·intro f4 w4 hx4 ho4 hd4; have d4_0 : f4 6 = (.slice A_l l.length c_l) := hd4 0 rfl; have d4_1 : f4 7 = (.int .i64 ((i : Nat) : Int)) := hd4 1 rfl; have hR_l := hR_l.ext hx4; skip; exact D.val rfl (op_index (k := i) rfl d4_0 d4_1 sl25 (hR_l.getA (get_bang (l := l) (k := i) (by omega))).1 rfl (by omega) rfl)
 ·intro f5 w5 hx5 ho5 hd5; have d5_2 : f5 8 = (.pointer (some ((adr A_l).add (i * 22)))) := hd5 2 rfl; have hR_l := hR_l.ext hx5; skip; exact D.val rfl (op_load (v := (l[i]! : Vt)) rfl d5_2 ty47 (hR_l.getA (get_bang (l := l) (k := i) (by omega))).2)
 ·intro f6 w6 hx6 ho6 hd6; have d6_s2 : f6 2 = (.pointer (some q_l)) := ho6 2 rfl; have hq_l := hq_l.ext hx6; exact D.val rfl (op_load1 rfl d6_s2 one25 (hq_l.one (n := 0) rfl))
 ·intro f7 w7 hx7 ho7 hd7; have d7_s1 : f7 1 = (.int .i64 ((j : Nat) : Int)) := ho7 1 rfl; exact D.val rfl (op_move rfl d7_s1)
 ·intro f8 w8 hx8 ho8 hd8; have d8_4 : f8 10 = (.slice A_l l.length c_l) := hd8 4 rfl; have d8_5 : f8 11 = (.int .i64 ((j : Nat) : Int)) := hd8 5 rfl; have hR_l := hR_l.ext hx8; skip; exact D.val rfl (op_index (k := j) rfl d8_4 d8_5 sl25 (hR_l.getA (get_bang (l := l) (k := j) (by omega))).1 rfl (by omega) rfl)
 ·intro f9 w9 hx9 ho9 hd9; have d9_6 : f9 12 = (.pointer (some ((adr A_l).add (j * 22)))) := hd9 6 rfl; have hR_l := hR_l.ext hx9; skip; exact D.val rfl (op_load (v := (l[j]! : Vt)) rfl d9_6 ty47 (hR_l.getA (get_bang (l := l) (k := j) (by omega))).2)
 ·intro f10 w10 hx10 ho10 hd10; have d10_3 : f10 9 = (Enc.val (l[i]! : Vt)) := hd10 3 rfl; have d10_7 : f10 13 = (Enc.val (l[j]! : Vt)) := hd10 7 rfl; exact D.call (R := (Sp.eq (.bool (voteLess_f (l[i]!) (l[j]!)))).p) rfl (OpS.call (op_call rfl (argsC d10_3 (argsC d10_7 argsN)) Tryz.func70 rfl rfl) voteLess_ok)
 ·intro f11 w11 hx11 ho11 hd11; have d11_8 : f11 14 = (.bool (voteLess_f (l[i]!) (l[j]!))) := hd11 8 rfl; exact D.val rfl (op_assign rfl d11_8)
 intro f12 w12 hx12 ho12 hr12; have s5 : f12 5 = (.bool (voteLess_f (l[i]!) (l[j]!))) := hr12 9 (by decide); have hE := hE.trans hx12; refine thenF_nor ?_; refine W.ret ?_; exact end_ret1 (v := (.bool (voteLess_f (l[i]!) (l[j]!)))) rfl s5 ⟨rfl, hE⟩
set_option maxRecDepth 100000 in
set_option maxHeartbeats 4000000 in
theorem ascending_ok {parent : Nm} {A_l : Option Addr} {c_l lo_l hi_l : Nat} {l : List Vt}  {w : World} (hR_l : Rd w lo_l hi_l A_l l) (hl : l.length ≤ 1000000) : Gives Tryz.prog 59 #[(Enc.val (parent : Nm)), (.slice A_l l.length c_l)] w fun u w' => SlR w' u (asc_f parent l : List Vt) ∧ Ext w w' := by
 have hE : Ext w w := Ext.refl w; have hlen_l := hR_l.len; refine gives_of_W Tryz.func59 rfl Tryz.ntmps59 rfl ?_; refine W.seq ?_; refine W.region (by rfl) ?_; refine L.step rfl (op_box (cs := (Enc.cells (parent : Nm))) rfl rfl rfl) ?_; rintro _ w1 ⟨b1, rfl, hb1, hB1, hx1⟩; have hE := hE.trans hx1; have hR_l := hR_l.ext hx1; refine L.val rfl (op_assign rfl rfl) ?_; refine L.nil ?_; refine thenF_nor ?_; refine W.seq ?_; have S2_hR_l := hR_l; have S2_hB1 := hB1; have S2_hE := hE; have hS2 : Ext w1 w1 := Ext.refl _; refine W.region (by rfl) ?_; refine L.step rfl (op_alloc (z := (.slice none 0 0)) (cs := [(.slice none 0 0)]) rfl (by kernel_rfl) rfl) ?_; rintro _ w3 ⟨b3, rfl, hb3, hB3, hx3⟩; have hbb3_hE := Nat.le_trans hE.size hb3; have hbb3_hS2 := Nat.le_trans hS2.size hb3; have hE := hE.trans hx3; have hS2 := hS2.trans hx3; refine L.nil ?_; refine thenF_nor ?_; refine W.seq ?_; refine W.seq ?_; refine W.region (by rfl) ?_; refine L.val rfl (op_move rfl rfl) ?_; refine L.val rfl (op_len rfl rfl ln25) ?_; refine L.val rfl (op_move rfl rfl) ?_; refine L.nil ?_; refine thenF_nor ?_; refine W.block ?_; refine W.loopg (γ := Nat) (fun (k : Nat) (f : Fr) (ww : World) => k ≤ l.length ∧ f 2 = (.pointer (some ⟨b1, 0, none⟩)) ∧ f 4 = (.slice none 0 0) ∧ f 11 = (.slice A_l l.length c_l) ∧ f 12 = (.int .i64 (l.length : Int)) ∧ f 13 = (.int .i64 ((k : Nat) : Int)) ∧ f 5 = (.pointer (some ⟨b3, 0, none⟩)) ∧ (∃ vv, Box ww b3 25 [vv] ∧ Fk.Own ww (b3 + 1) 47 vv ((l.take k).filter (fun x => decide (x.parent = parent)))) ∧ Ext w1 ww) (fun (k : Nat) => l.length - k) 0 ⟨(by (try dsimp only); omega), rfl, rfl, rfl, rfl, rfl, rfl, ⟨_, hB3, Fk.Own.nil _ _ _⟩, hS2⟩ ?_; rintro k f4 w4 ⟨hk, s4_2, s4_4, s4_11, s4_12, s4_13, s4_5, hM4_5, hS2⟩; have hR_l := S2_hR_l.ext hS2; have hB1 := S2_hB1.ext hS2; have hE := S2_hE.trans hS2; obtain ⟨v4_5, hB4_5, hO4_5⟩ := hM4_5; have hfl := List.length_filter_le (fun x => decide (x.parent = parent)) (l.take k); have htl := List.length_take_le' k l; refine W.seq ?_; refine W.region (by rfl) ?_; refine L.val rfl (op_lss rfl s4_13 s4_12) ?_; refine L.nil ?_; refine thenF_nor ?_; refine W.seq ?_; refine W.cond (t := decide (((k : Nat) : Int) < (l.length : Int))) rfl (fun hc5 => ?_) (fun hc5 => ?_)
 ·have hp5 := hc5; simp only [Bool.and_eq_true, Bool.or_eq_true, Bool.and_eq_false_iff, Bool.or_eq_false_iff, Bool.not_eq_true', Bool.not_eq_false', decide_eq_true_eq, decide_eq_false_iff_not] at hp5; refine W.skip ?_; refine thenF_nor ?_; refine W.seq ?_; refine W.block ?_; refine W.seq ?_; refine W.region (by rfl) ?_; refine L.val rfl (op_index (k := k) rfl s4_11 s4_13 sl25 (hR_l.getA (get_bang (l := l) (k := k) (by omega))).1 rfl (by omega) rfl) ?_; refine L.val rfl (op_load (v := (l[k]! : Vt)) rfl rfl ty47 (hR_l.getA (get_bang (l := l) (k := k) (by omega))).2) ?_; refine L.newvar (v := (Enc.val (l[k]! : Vt))) (cs := (Enc.cells (l[k]! : Vt))) rfl rfl rfl rfl rfl rfl (fun _ => rfl) rfl si47 zs47 (Enc.one _) ?_; intro b6 w6 hb6 hB6 hx6; have hbb6_hE := Nat.le_trans hE.size hb6; have hbb6_hS2 := Nat.le_trans hS2.size hb6; have hE := hE.trans hx6; have hS2 := hS2.trans hx6; have hB1 := hB1.ext hx6; have hB4_5 := hB4_5.ext hx6; have hO4_5 := hO4_5.ext hx6; refine L.nil ?_; refine thenF_nor ?_; refine W.seq ?_; refine W.region (by rfl) ?_; refine L.val rfl (op_field rfl rfl fo47_6 rfl) ?_; refine L.val rfl (op_load (v := ((l[k]!).parent : Nm)) rfl rfl ty24 (sub_nm 6 hB6.cells rfl)) ?_; refine L.val rfl (op_load (v := (parent : Nm)) rfl s4_2 ty24 hB1.cells) ?_; refine L.val rfl (op_eqle (a := ((l[k]!).parent : Nm)) (b := (parent : Nm)) rfl rfl rfl eq24 (fun _ => ⟨_, rfl⟩) Tryz.eqGuardType24) ?_; refine L.nil ?_; refine thenF_nor ?_; refine W.cond (t := decide ((l[k]!).parent = parent)) rfl (fun hc7 => ?_) (fun hc7 => ?_)
  ·have hp7 := hc7; simp only [Bool.and_eq_true, Bool.or_eq_true, Bool.and_eq_false_iff, Bool.or_eq_false_iff, Bool.not_eq_true', Bool.not_eq_false', decide_eq_true_eq, decide_eq_false_iff_not] at hp7; have hstep := filter_yes (l := l) (p := fun x => decide (x.parent = parent)) (k := k) (by omega) hc7; refine W.region (by rfl) ?_; refine L.val rfl (op_load1 rfl s4_5 one25 (hB4_5.cells.one (n := 0) rfl)) ?_; refine L.val rfl (op_load (v := (l[k]! : Vt)) rfl rfl ty47 hB6.cells) ?_; refine L.step rfl (op_slice1 (a := (l[k]! : Vt)) rfl rfl sl25 zs47 (by decide)) ?_; rintro _ w8 ⟨b8, rfl, hb8, hB8, hx8⟩; have hE := hE.trans hx8; have hS2 := hS2.trans hx8; have hB4_5 := hB4_5.ext hx8; have hO4_5 := hO4_5.ext hx8; refine L.step rfl (op_append (a := (l[k]! : Vt)) (ad := ⟨b8, 0, none⟩) rfl rfl rfl sl25 zs47 bt47 hO4_5 hB8.cells (by omega) (by decide) (Nat.succ_le_of_lt hB4_5.lt)) ?_; rintro v9 w9 ⟨hO9, hg9⟩; have hS2 := hS2.own (hO4_5.lower (by omega)) hg9; have hB4_5 := hB4_5.far hg9 (hO4_5.ne' (Nat.lt_succ_self _)); have hE := S2_hE.trans hS2; refine L.step rfl (op_put (v := v9) rfl s4_5 rfl si25 hB4_5 (Nat.le_of_ble_eq_true rfl) hO9.cells hO9.onec) ?_; rintro _ w10 ⟨hB10, hg10⟩; have hO9 := (hO9).kept hg10 (hO9.ne (Nat.lt_succ_self _)); have hS2 := hS2.grown hg10 (by intro k hk; cases hk; omega); have hE := S2_hE.trans hS2; have hB4_5 := hB10; refine L.nil ?_; refine blockF_nor ?_; refine thenF_nor ?_; refine W.region (by rfl) ?_; refine L.val rfl (op_add (c := ((k + 1 : Nat) : Int)) rfl s4_13 rfl (by omega) (by omega)) ?_; refine L.val rfl (op_move rfl rfl) ?_; refine L.nil ?_; refine thenF_nor ?_; exact ⟨k + 1, ⟨(by (try dsimp only); omega), s4_2, s4_4, s4_11, s4_12, rfl, s4_5, (by rw [← hstep]; exact ⟨_, hB4_5, hO9⟩), hS2⟩, (by (try dsimp only); omega)⟩
  ·have hp7 := hc7; simp only [Bool.and_eq_true, Bool.or_eq_true, Bool.and_eq_false_iff, Bool.or_eq_false_iff, Bool.not_eq_true', Bool.not_eq_false', decide_eq_true_eq, decide_eq_false_iff_not] at hp7; have hstep := filter_no (l := l) (p := fun x => decide (x.parent = parent)) (k := k) (by omega) hc7; refine W.skip ?_; refine blockF_nor ?_; refine thenF_nor ?_; refine W.region (by rfl) ?_; refine L.val rfl (op_add (c := ((k + 1 : Nat) : Int)) rfl s4_13 rfl (by omega) (by omega)) ?_; refine L.val rfl (op_move rfl rfl) ?_; refine L.nil ?_; refine thenF_nor ?_; exact ⟨k + 1, ⟨(by (try dsimp only); omega), s4_2, s4_4, s4_11, s4_12, rfl, s4_5, (by rw [← hstep]; exact ⟨_, hB4_5, hO4_5⟩), hS2⟩, (by (try dsimp only); omega)⟩
 ·have hp5 := hc5; simp only [Bool.and_eq_true, Bool.or_eq_true, Bool.and_eq_false_iff, Bool.or_eq_false_iff, Bool.not_eq_true', Bool.not_eq_false', decide_eq_true_eq, decide_eq_false_iff_not] at hp5; have hkl : k = l.length := by omega
  rw [hkl, List.take_length] at hO4_5; have hfl2 := List.length_filter_le (fun x => decide (x.parent = parent)) l; refine W.exit ?_; refine thenF_exit ?_; refine thenF_exit ?_; refine blockF_hit ?_; refine thenF_nor ?_; refine W.seq ?_; obtain ⟨A11, c11, hv11, hR11, hcap11⟩ := (hO4_5).form; have hlen11 := hR11.len; have hBs11 := hB4_5; rw [hv11] at hBs11; refine W.region (by rfl) ?_; refine L.val rfl (op_load1 rfl s4_5 one25 (hBs11.cells.one (n := 0) rfl)) ?_; refine L.val rfl (op_iface rfl rfl (by kernel_rfl)) ?_; refine L.val rfl (op_func rfl (argsC s4_5 argsN)) ?_; have hOs11 := hO4_5; rw [hv11] at hOs11; refine L.step rfl (OpS.call (op_call rfl (argsC rfl (argsC rfl argsN)) Tryz.func62 rfl rfl) (sortSlice_ok st25 vote_lin.swo hOs11 (by omega) (fun blk eA => by subst eA; exact lessOk_box Tryz.func98 rfl rfl ascending1_ok hBs11 (by have hh := hOs11.lt blk rfl; omega) hlen11))) ?_; rintro _ w12 ⟨rfl, ls12, hpm12, hsl12, hso12, hR12, hg12⟩; have hBz12 := hBs11.far hg12 (hOs11.ne' (Nat.lt_succ_self _)); have hS2 := hS2.own (hOs11.lower (by omega)) hg12; rw [← hsl12] at hBz12; have hlen12 := hR12.len; have hE := S2_hE.trans hS2; refine L.nil ?_; refine thenF_nor ?_; refine W.seq ?_; refine W.region (by rfl) ?_; refine L.val rfl (op_assign rfl rfl) ?_; refine L.nil ?_; refine thenF_nor ?_; refine W.seq ?_; refine W.seq ?_; refine W.region (by rfl) ?_; refine L.val rfl (op_load1 rfl s4_5 one25 (hBz12.cells.one (n := 0) rfl)) ?_; refine L.val rfl (op_len rfl rfl ln25) ?_; refine L.val rfl (op_move rfl rfl) ?_; refine L.nil ?_; refine thenF_nor ?_; refine W.block ?_; have S13_hBz12 := hBz12; have S13_hR12 := hR12; have S13_hE := hE; have S13_hS2 := hS2; have hS13 : Ext w12 w12 := Ext.refl _; refine W.loopg (γ := Nat) (fun (k : Nat) (f : Fr) (ww : World) => k ≤ ls12.length ∧ f 4 = (.slice none 0 0) ∧ f 5 = (.pointer (some ⟨b3, 0, none⟩)) ∧ f 30 = (.slice A11 ls12.length c11) ∧ f 31 = (.int .i64 (ls12.length : Int)) ∧ f 32 = (.int .i64 ((k : Nat) : Int)) ∧ Fk.Own ww w12.heap.size 47 (f 8) (dedupN ls12 k) ∧ Ext w12 ww) (fun (k : Nat) => ls12.length - k) 0 ⟨(by (try dsimp only); omega), s4_4, s4_5, rfl, rfl, rfl, (own_at (v := .slice none 0 0) rfl (Fk.Own.nil _ _ _)), hS13⟩ ?_; rintro k f14 w14 ⟨hk, s14_4, s14_5, s14_30, s14_31, s14_32, hO14_8, hS13⟩; have hBz12 := S13_hBz12.ext hS13; have hR12 := S13_hR12.ext hS13; have hE := S13_hE.trans hS13; have hS2 := S13_hS2.trans hS13; obtain ⟨v14_8, s14_8⟩ : ∃ v, f14 8 = v := ⟨_, rfl⟩; rw [s14_8] at hO14_8; have hdl := dedup_len ls12 k; refine W.seq ?_; refine W.region (by rfl) ?_; refine L.val rfl (op_lss rfl s14_32 s14_31) ?_; refine L.nil ?_; refine thenF_nor ?_; refine W.seq ?_; refine W.cond (t := decide (((k : Nat) : Int) < (ls12.length : Int))) rfl (fun hc15 => ?_) (fun hc15 => ?_)
  ·have hp15 := hc15; simp only [Bool.and_eq_true, Bool.or_eq_true, Bool.and_eq_false_iff, Bool.or_eq_false_iff, Bool.not_eq_true', Bool.not_eq_false', decide_eq_true_eq, decide_eq_false_iff_not] at hp15; refine W.skip ?_; refine thenF_nor ?_; refine W.seq ?_; refine W.block ?_; refine W.seq ?_; refine W.region (by rfl) ?_; refine L.val rfl (op_move rfl s14_32) ?_; refine L.val rfl (op_index (k := k) rfl s14_30 s14_32 sl25 (hR12.getA (get_bang (l := ls12) (k := k) (by omega))).1 rfl (by omega) rfl) ?_; refine L.val rfl (op_load (v := (ls12[k]! : Vt)) rfl rfl ty47 (hR12.getA (get_bang (l := ls12) (k := k) (by omega))).2) ?_; have A16_hBz12 := hBz12; have A16_hR12 := hR12; have A16_hO14_8 := hO14_8; have A16_hE := hE; have A16_hS13 := hS13; refine L.step rfl (op_alloc (z := Enc.val (default : Vt)) (cs := Enc.cells (default : Vt)) rfl (by kernel_rfl) rfl) ?_; rintro _ w16 ⟨b16, rfl, hb16, hB16, hx16⟩; have hbb16_hE := Nat.le_trans hE.size hb16; have hbb16_hS2 := Nat.le_trans hS2.size hb16; have hbb16_hS13 := Nat.le_trans hS13.size hb16; have hE := hE.trans hx16; refine L.val rfl (op_assign rfl rfl) ?_; refine L.step rfl (op_fillbox (v := (Enc.val (ls12[k]! : Vt))) (vs := (Enc.cells (ls12[k]! : Vt))) rfl rfl rfl rfl si47 hB16 (by simp [Enc.len]) (Enc.one _)) ?_; rintro _ w17 ⟨hB16, hg17⟩; have hxx17 : Ext w14 w17 := hx16.grown hg17 (by intro k hk; cases hk; exact hb16); have hE := A16_hE.trans hxx17; have hS13 := A16_hS13.trans hxx17; have hBz12 := A16_hBz12.ext hxx17; have hR12 := A16_hR12.ext hxx17; have hO14_8 := A16_hO14_8.ext hxx17; refine L.nil ?_; refine thenF_nor ?_; refine W.seq ?_; refine W.drawS [Sp.eq (.int .i64 ((k : Nat) : Int)), Sp.eq (.bool (decide (((k : Nat) : Int) = 0))), Sp.eq (.bool (decide (((k : Nat) : Int) = 0))), Sp.eq (vif (!(decide (((k : Nat) : Int) = 0))) (Enc.val (ls12[k]! : Vt))), Sp.eq (vif (!(decide (((k : Nat) : Int) = 0))) (.slice A11 ls12.length c11)), Sp.eq (vif (!(decide (((k : Nat) : Int) = 0))) (.int .i64 ((k : Nat) : Int))), Sp.eq (vif (!(decide (((k : Nat) : Int) = 0))) (.int .i64 ((k - 1 : Nat) : Int))), Sp.eq (vif (!(decide (((k : Nat) : Int) = 0))) (.pointer (some ((adr A11).add ((k - 1) * 22))))), Sp.eq (vif (!(decide (((k : Nat) : Int) = 0))) (Enc.val (ls12[k - 1]! : Vt))), Sp.eq (vif (!(decide (((k : Nat) : Int) = 0))) (.bool (!decide (ls12[k]! = ls12[k - 1]!)))), Sp.eq (.bool ((decide (((k : Nat) : Int) = 0)) || (!decide (ls12[k]! = ls12[k - 1]!))))] mixed (by rfl) (Obls.cons ?_ (Obls.cons ?_ (Obls.cons ?_ (Obls.cons ?_ (Obls.cons ?_ (Obls.cons ?_ (Obls.cons ?_ (Obls.cons ?_ (Obls.cons ?_ (Obls.cons ?_ (Obls.cons ?_ Obls.nil))))))))))) ?_
   ·intro f19 w19 hx19 ho19 hd19; have d19_s9 : f19 9 = (.int .i64 ((k : Nat) : Int)) := ho19 9 rfl; exact D.val rfl (op_move rfl d19_s9)
   ·intro f20 w20 hx20 ho20 hd20; have d20_0 : f20 37 = (.int .i64 ((k : Nat) : Int)) := hd20 0 rfl; exact D.val rfl (op_eql rfl d20_0 rfl)
   ·intro f21 w21 hx21 ho21 hd21; have d21_1 : f21 38 = (.bool (decide (((k : Nat) : Int) = 0))) := hd21 1 rfl; exact D.val rfl (op_move rfl d21_1)
   ·intro f22 w22 hx22 ho22 hd22; have d22_s10 : f22 10 = (.pointer (some ⟨b16, 0, none⟩)) := ho22 10 rfl; have d22_2 : f22 39 = (.bool (decide (((k : Nat) : Int) = 0))) := hd22 2 rfl; have hB16 := hB16.ext hx22; exact D.guardv (wanted_no rfl rfl d22_2) (fun hg => (op_load (v := (ls12[k]! : Vt)) rfl d22_s10 ty47 hB16.cells))
   ·intro f23 w23 hx23 ho23 hd23; have d23_s5 : f23 5 = (.pointer (some ⟨b3, 0, none⟩)) := (ho23 5 rfl).trans s14_5; have d23_2 : f23 39 = (.bool (decide (((k : Nat) : Int) = 0))) := hd23 2 rfl; have hBz12 := hBz12.ext hx23; exact D.guardv (wanted_no rfl rfl d23_2) (fun hg => (op_load1 rfl d23_s5 one25 (hBz12.cells.one (n := 0) rfl)))
   ·intro f24 w24 hx24 ho24 hd24; have d24_s9 : f24 9 = (.int .i64 ((k : Nat) : Int)) := ho24 9 rfl; have d24_2 : f24 39 = (.bool (decide (((k : Nat) : Int) = 0))) := hd24 2 rfl; exact D.guardv (wanted_no rfl rfl d24_2) (fun hg => (op_move rfl d24_s9))
   ·intro f25 w25 hx25 ho25 hd25; have d25_2 : f25 39 = (.bool (decide (((k : Nat) : Int) = 0))) := hd25 2 rfl; have d25_5 : f25 42 = (vif (!(decide (((k : Nat) : Int) = 0))) (.int .i64 ((k : Nat) : Int))) := hd25 5 rfl; exact D.guardv (wanted_no rfl rfl d25_2) (fun hg => by have hp := hg; (try simp only [Bool.and_eq_true, Bool.or_eq_true, Bool.not_eq_true', decide_eq_true_eq, decide_eq_false_iff_not, bne_iff_ne, beq_iff_eq] at hp); skip; exact (op_sub (c := ((k - 1 : Nat) : Int)) rfl ((show _ = vif _ (.int .i64 ((k : Nat) : Int)) from d25_5).trans (vif_t hg).symm) rfl (by omega) (by omega)))
   ·intro f26 w26 hx26 ho26 hd26; have d26_2 : f26 39 = (.bool (decide (((k : Nat) : Int) = 0))) := hd26 2 rfl; have d26_4 : f26 41 = (vif (!(decide (((k : Nat) : Int) = 0))) (.slice A11 ls12.length c11)) := hd26 4 rfl; have d26_6 : f26 43 = (vif (!(decide (((k : Nat) : Int) = 0))) (.int .i64 ((k - 1 : Nat) : Int))) := hd26 6 rfl; have hR12 := hR12.ext hx26; exact D.guardv (wanted_no rfl rfl d26_2) (fun hg => by have hp := hg; (try simp only [Bool.and_eq_true, Bool.or_eq_true, Bool.not_eq_true', decide_eq_true_eq, decide_eq_false_iff_not, bne_iff_ne, beq_iff_eq] at hp); skip; exact (op_index (k := k - 1) rfl ((show _ = vif _ (.slice A11 ls12.length c11) from d26_4).trans (vif_t hg).symm) ((show _ = vif _ (.int .i64 ((k - 1 : Nat) : Int)) from d26_6).trans (vif_t hg).symm) sl25 (hR12.getA (get_bang (l := ls12) (k := k - 1) (by omega))).1 rfl (by omega) rfl))
   ·intro f27 w27 hx27 ho27 hd27; have d27_2 : f27 39 = (.bool (decide (((k : Nat) : Int) = 0))) := hd27 2 rfl; have d27_7 : f27 44 = (vif (!(decide (((k : Nat) : Int) = 0))) (.pointer (some ((adr A11).add ((k - 1) * 22))))) := hd27 7 rfl; have hR12 := hR12.ext hx27; exact D.guardv (wanted_no rfl rfl d27_2) (fun hg => by have hp := hg; (try simp only [Bool.and_eq_true, Bool.or_eq_true, Bool.not_eq_true', decide_eq_true_eq, decide_eq_false_iff_not, bne_iff_ne, beq_iff_eq] at hp); skip; exact (op_load (v := (ls12[k - 1]! : Vt)) rfl ((show _ = vif _ (.pointer (some ((adr A11).add ((k - 1) * 22)))) from d27_7).trans (vif_t hg).symm) ty47 (hR12.getA (get_bang (l := ls12) (k := k - 1) (by omega))).2))
   ·intro f28 w28 hx28 ho28 hd28; have d28_2 : f28 39 = (.bool (decide (((k : Nat) : Int) = 0))) := hd28 2 rfl; have d28_3 : f28 40 = (vif (!(decide (((k : Nat) : Int) = 0))) (Enc.val (ls12[k]! : Vt))) := hd28 3 rfl; have d28_8 : f28 45 = (vif (!(decide (((k : Nat) : Int) = 0))) (Enc.val (ls12[k - 1]! : Vt))) := hd28 8 rfl; exact D.guardv (wanted_no rfl rfl d28_2) (fun hg => (op_neqe (a := (ls12[k]! : Vt)) (b := (ls12[k - 1]! : Vt)) rfl ((show _ = vif _ (Enc.val (ls12[k]! : Vt)) from d28_3).trans (vif_t hg).symm) ((show _ = vif _ (Enc.val (ls12[k - 1]! : Vt)) from d28_8).trans (vif_t hg).symm) eq47 (fun _ => ⟨_, rfl⟩) Tryz.eqGuardType47))
   ·intro f29 w29 hx29 ho29 hd29; have d29_2 : f29 39 = (.bool (decide (((k : Nat) : Int) = 0))) := hd29 2 rfl; have d29_9 : f29 46 = (vif (!(decide (((k : Nat) : Int) = 0))) (.bool (!decide (ls12[k]! = ls12[k - 1]!)))) := hd29 9 rfl; exact D.val rfl (op_or rfl d29_2 rfl d29_9)
   intro f30 w30 hx30 ho30 hr30; have s4 : f30 4 = (.slice none 0 0) := (ho30 4 rfl).trans s14_4; have s5 : f30 5 = (.pointer (some ⟨b3, 0, none⟩)) := (ho30 5 rfl).trans s14_5; have s8 : f30 8 = v14_8 := (ho30 8 rfl).trans s14_8; have s10 : f30 10 = (.pointer (some ⟨b16, 0, none⟩)) := ho30 10 rfl; have s30 : f30 30 = (.slice A11 ls12.length c11) := (ho30 30 rfl).trans s14_30; have s31 : f30 31 = (.int .i64 (ls12.length : Int)) := (ho30 31 rfl).trans s14_31; have s32 : f30 32 = (.int .i64 ((k : Nat) : Int)) := (ho30 32 rfl).trans s14_32; have s47 : f30 47 = (.bool ((decide (((k : Nat) : Int) = 0)) || (!decide (ls12[k]! = ls12[k - 1]!)))) := hr30 10 (by decide); have hE := hE.trans hx30; have hS13 := hS13.trans hx30; have hO14_8 := hO14_8.ext hx30; have hB16 := hB16.ext hx30; refine thenF_nor ?_; refine W.cond (t := (decide (((k : Nat) : Int) = 0)) || (!decide (ls12[k]! = ls12[k - 1]!))) s47 (fun hc31 => ?_) (fun hc31 => ?_)
   ·have hp31 := hc31; simp only [Bool.and_eq_true, Bool.or_eq_true, Bool.and_eq_false_iff, Bool.or_eq_false_iff, Bool.not_eq_true', Bool.not_eq_false', decide_eq_true_eq, decide_eq_false_iff_not] at hp31; have hstep := dedup_yes hc31; refine W.region (by rfl) ?_; refine L.val rfl (op_move rfl s8) ?_; refine L.val rfl (op_load (v := (ls12[k]! : Vt)) rfl s10 ty47 hB16.cells) ?_; refine L.step rfl (op_slice1 (a := (ls12[k]! : Vt)) rfl rfl sl25 zs47 (by decide)) ?_; rintro _ w32 ⟨b32, rfl, hb32, hB32, hx32⟩; have hE := hE.trans hx32; have hS13 := hS13.trans hx32; have hO14_8 := hO14_8.ext hx32; refine L.step rfl (op_append (a := (ls12[k]! : Vt)) (ad := ⟨b32, 0, none⟩) rfl rfl rfl sl25 zs47 bt47 hO14_8 hB32.cells (by omega) (by decide) hS13.size) ?_; rintro v33 w33 ⟨hO33, hg33⟩; have hS13 := hS13.own hO14_8 hg33; have hE := S13_hE.trans hS13; refine L.val rfl (op_assign rfl rfl) ?_; refine L.nil ?_; refine blockF_nor ?_; refine thenF_nor ?_; refine W.region (by rfl) ?_; refine L.val rfl (op_add (c := ((k + 1 : Nat) : Int)) rfl s32 rfl (by omega) (by omega)) ?_; refine L.val rfl (op_move rfl rfl) ?_; refine L.nil ?_; refine thenF_nor ?_; exact ⟨k + 1, ⟨(by (try dsimp only); omega), s4, s5, s30, s31, rfl, (own_at (v := v33) rfl (by rw [hstep]; exact hO33)), hS13⟩, (by (try dsimp only); omega)⟩
   ·have hp31 := hc31; simp only [Bool.and_eq_true, Bool.or_eq_true, Bool.and_eq_false_iff, Bool.or_eq_false_iff, Bool.not_eq_true', Bool.not_eq_false', decide_eq_true_eq, decide_eq_false_iff_not] at hp31; have hstep := dedup_no hc31; refine W.skip ?_; refine blockF_nor ?_; refine thenF_nor ?_; refine W.region (by rfl) ?_; refine L.val rfl (op_add (c := ((k + 1 : Nat) : Int)) rfl s32 rfl (by omega) (by omega)) ?_; refine L.val rfl (op_move rfl rfl) ?_; refine L.nil ?_; refine thenF_nor ?_; exact ⟨k + 1, ⟨(by (try dsimp only); omega), s4, s5, s30, s31, rfl, (own_at (v := v14_8) s8 (by rw [hstep]; exact hO14_8)), hS13⟩, (by (try dsimp only); omega)⟩
  ·have hp15 := hc15; simp only [Bool.and_eq_true, Bool.or_eq_true, Bool.and_eq_false_iff, Bool.or_eq_false_iff, Bool.not_eq_true', Bool.not_eq_false', decide_eq_true_eq, decide_eq_false_iff_not] at hp15; refine W.exit ?_; refine thenF_exit ?_; refine thenF_exit ?_; refine blockF_hit ?_; refine thenF_nor ?_; refine W.seq ?_; obtain ⟨A34, c34, hv34, hR34, hcap34⟩ := (hO14_8).form; have hlen34 := hR34.len; refine W.region (by rfl) ?_; refine L.val rfl (op_move rfl ((show _ = v14_8 from s14_8).trans hv34)) ?_; refine L.val rfl (op_assign rfl rfl) ?_; refine L.nil ?_; refine thenF_nor ?_; refine W.ret ?_; exact end_ret1 (v := (.slice A34 (dedupN ls12 k).length c34)) rfl rfl ⟨(by have hkl : k = ls12.length := (by omega); have hdd := dedup_sorted vote_lin hso12 hpm12; rw [← hkl] at hdd; unfold asc_f; rw [← hdd]; exact (⟨_, _, _, _, rfl, hcap34, hR34⟩ : SlR _ _ _)), hE⟩
end Go.Proofs.YtdknjfmjddlphaaGreat
/-
  What accept.Accepted computes. No walk.
-/
namespace Go.Proofs.YtdknjfmjddlphaaGreat
open Go Go.Fk
/-- where the votes of one slot begin -/
def accFrom (s : List Vt × Nat) (v : Vt) : Nat := bif decide (((s.2 : Nat) : Int) < (s.1.length : Int)) && !decide (s.1[s.2]!.slot = v.slot) then s.1.length else s.2
/-- one round: the votes that are accepted, and where those of the slot begin -/
def accStep (m : Int) (s : List Vt × Nat) (v : Vt) : List Vt × Nat := bif allowed_f m v (s.1.drop (accFrom s v)) then (s.1 ++ [v], accFrom s v) else (s.1, accFrom s v)
def accepted_f (m : Int) (parent : Nm) (l : List Vt) : List Vt := ((asc_f parent l).foldl (accStep m) ([], 0)).1
end Go.Proofs.YtdknjfmjddlphaaGreat
/-
  Contracts of functions of the program, each with its walk in the logic of frames. Printed by a program of this session (wip/gen) from the translation.
-/
set_option linter.unusedSimpArgs false
set_option linter.unusedVariables false
namespace Go.Proofs.YtdknjfmjddlphaaGreat
open Go Go.Fk
set_option maxRecDepth 100000 in
set_option maxHeartbeats 4000000 in
theorem Accepted_ok {m : Int} {parent : Nm} {A_l : Option Addr} {c_l lo_l hi_l : Nat} {l : List Vt}  {w : World} (hR_l : Rd w lo_l hi_l A_l l) (hl : l.length ≤ 1000000) : Gives Tryz.prog 25 #[(.int .i64 m), (Enc.val (parent : Nm)), (.slice A_l l.length c_l)] w fun u w' => SlR w' u (accepted_f m parent l : List Vt) ∧ Ext w w' := by
 have hE : Ext w w := Ext.refl w; have hlen_l := hR_l.len; refine gives_of_W Tryz.func25 rfl Tryz.ntmps25 rfl ?_; have hal := asc_len parent l; refine W.seq ?_; refine W.region (by rfl) ?_; refine L.step rfl (op_box (cs := (Enc.cells (parent : Nm))) rfl rfl rfl) ?_; rintro _ w1 ⟨b1, rfl, hb1, hB1, hx1⟩; have hE := hE.trans hx1; have hR_l := hR_l.ext hx1; refine L.val rfl (op_assign rfl rfl) ?_; refine L.nil ?_; refine thenF_nor ?_; refine W.scope ?_; refine W.seq ?_; refine W.region (by rfl) ?_; refine L.val rfl (op_assign rfl rfl) ?_; refine L.nil ?_; refine thenF_nor ?_; refine W.seq ?_; refine W.region (by rfl) ?_; refine L.val rfl (op_assign rfl rfl) ?_; refine L.nil ?_; refine thenF_nor ?_; refine W.seq ?_; refine W.label ?_; refine thenF_nor ?_; refine W.seq ?_; refine W.seq ?_; refine W.region (by rfl) ?_; refine L.val rfl (op_load (v := (parent : Nm)) rfl rfl ty24 hB1.cells) ?_; refine L.val rfl (op_move rfl rfl) ?_; refine L.step rfl (OpS.call (op_call rfl (argsC rfl (argsC rfl argsN)) Tryz.func59 rfl rfl) (ascending_ok hR_l (by first | omega | (simp only [List.length_drop, List.length_take, List.length_append, List.length_cons, List.length_nil] at *; omega)))) ?_; rintro _ w2 ⟨⟨A2, c2, lo2, hi2, rfl, hcap2, hR2⟩, hx2⟩; have hE := hE.trans hx2; have hlen2 := hR2.len; refine L.val rfl (op_len rfl rfl ln25) ?_; refine L.val rfl (op_move rfl rfl) ?_; refine L.nil ?_; refine thenF_nor ?_; refine W.block ?_; have S3_hR2 := hR2; have S3_hE := hE; have hS3 : Ext w2 w2 := Ext.refl _; refine W.loopg (γ := Nat × List Vt × Nat) (fun (g : Nat × List Vt × Nat) (f : Fr) (ww : World) => g.1 ≤ (asc_f parent l).length ∧ g.2.1.length ≤ g.1 ∧ g.2.2 ≤ g.2.1.length ∧ ((asc_f parent l).take g.1).foldl (accStep m) ([], 0) = (g.2.1, g.2.2) ∧ f 0 = (.int .i64 m) ∧ f 6 = (.slice none 0 0) ∧ f 13 = (.slice A2 (asc_f parent l).length c2) ∧ f 14 = (.int .i64 ((asc_f parent l).length : Int)) ∧ f 15 = (.int .i64 ((g.1 : Nat) : Int)) ∧ f 8 = (.int .i64 ((g.2.2 : Nat) : Int)) ∧ Fk.Own ww w2.heap.size 47 (f 7) g.2.1 ∧ Ext w2 ww) (fun (g : Nat × List Vt × Nat) => (asc_f parent l).length - g.1) (0, ([] : List Vt), 0) ⟨(by (try dsimp only); omega), (by simp), (by simp), rfl, rfl, rfl, rfl, rfl, rfl, rfl, (own_at (v := .slice none 0 0) rfl (Fk.Own.nil _ _ _)), hS3⟩ ?_; rintro ⟨k, out, fr⟩ f4 w4 ⟨hk, hol, hfr, hst, s4_0, s4_6, s4_13, s4_14, s4_15, s4_8, hO4_7, hS3⟩; dsimp only at hk hol hfr hst s4_0 s4_6 s4_13 s4_14 s4_15 s4_8 hO4_7 hS3; have hR2 := S3_hR2.ext hS3; have hE := S3_hE.trans hS3; obtain ⟨v4_7, s4_7⟩ : ∃ v, f4 7 = v := ⟨_, rfl⟩; rw [s4_7] at hO4_7; refine W.seq ?_; refine W.region (by rfl) ?_; refine L.val rfl (op_lss rfl s4_15 s4_14) ?_; refine L.nil ?_; refine thenF_nor ?_; refine W.seq ?_; refine W.cond (t := decide (((k : Nat) : Int) < ((asc_f parent l).length : Int))) rfl (fun hc5 => ?_) (fun hc5 => ?_)
 ·have hp5 := hc5; simp only [Bool.and_eq_true, Bool.or_eq_true, Bool.and_eq_false_iff, Bool.or_eq_false_iff, Bool.not_eq_true', Bool.not_eq_false', decide_eq_true_eq, decide_eq_false_iff_not] at hp5; refine W.skip ?_; refine thenF_nor ?_; refine W.seq ?_; refine W.block ?_; refine W.seq ?_; refine W.region (by rfl) ?_; refine L.val rfl (op_index (k := k) rfl s4_13 s4_15 sl25 (hR2.getA (get_bang (l := asc_f parent l) (k := k) (by omega))).1 rfl (by omega) rfl) ?_; refine L.val rfl (op_load (v := (asc_f parent l)[k]!) rfl rfl ty47 (hR2.getA (get_bang (l := asc_f parent l) (k := k) (by omega))).2) ?_; refine L.newvar (v := (Enc.val ((asc_f parent l)[k]!))) (cs := (Enc.cells (asc_f parent l)[k]!)) rfl rfl rfl rfl rfl rfl (fun _ => rfl) rfl si47 zs47 (Enc.one _) ?_; intro b6 w6 hb6 hB6 hx6; have hbb6_hE := Nat.le_trans hE.size hb6; have hbb6_hS3 := Nat.le_trans hS3.size hb6; have hE := hE.trans hx6; have hS3 := hS3.trans hx6; have hO4_7 := hO4_7.ext hx6; refine L.nil ?_; refine thenF_nor ?_; refine W.seq ?_; refine W.seq ?_; obtain ⟨A7, c7, hv7, hR7, hcap7⟩ := (hO4_7).form; have hlen7 := hR7.len; refine W.drawS [Sp.eq (.slice A7 out.length c7), Sp.eq (.int .i64 (out.length : Int)), Sp.eq (.int .i64 ((fr : Nat) : Int)), Sp.eq (.bool (decide (((fr : Nat) : Int) < (out.length : Int)))), Sp.eq (.bool (decide (((fr : Nat) : Int) < (out.length : Int)))), Sp.eq (vif (decide (((fr : Nat) : Int) < (out.length : Int))) (.slice A7 out.length c7)), Sp.eq (vif (decide (((fr : Nat) : Int) < (out.length : Int))) (.int .i64 ((fr : Nat) : Int))), Sp.eq (vif (decide (((fr : Nat) : Int) < (out.length : Int))) (.pointer (some ((adr A7).add (fr * 22))))), Sp.eq (vif (decide (((fr : Nat) : Int) < (out.length : Int))) (.pointer (some (((adr A7).add (fr * 22)).add 1)))), Sp.eq (vif (decide (((fr : Nat) : Int) < (out.length : Int))) (.int .i64 ((out[fr]!).slot))), Sp.eq (vif (decide (((fr : Nat) : Int) < (out.length : Int))) (.pointer (some ⟨b6, 1, none⟩))), Sp.eq (vif (decide (((fr : Nat) : Int) < (out.length : Int))) (.int .i64 (((asc_f parent l)[k]!).slot))), Sp.eq (vif (decide (((fr : Nat) : Int) < (out.length : Int))) (.bool (!decide (((out[fr]!).slot) = (((asc_f parent l)[k]!).slot))))), Sp.eq (.bool ((decide (((fr : Nat) : Int) < (out.length : Int))) && (!decide (((out[fr]!).slot) = (((asc_f parent l)[k]!).slot)))))] mixed (by rfl) (Obls.cons ?_ (Obls.cons ?_ (Obls.cons ?_ (Obls.cons ?_ (Obls.cons ?_ (Obls.cons ?_ (Obls.cons ?_ (Obls.cons ?_ (Obls.cons ?_ (Obls.cons ?_ (Obls.cons ?_ (Obls.cons ?_ (Obls.cons ?_ (Obls.cons ?_ Obls.nil)))))))))))))) ?_
  ·intro f9 w9 hx9 ho9 hd9; have d9_s7 : f9 7 = (.slice A7 out.length c7) := (ho9 7 rfl).trans ((show _ = v4_7 from s4_7).trans hv7); exact D.val rfl (op_move rfl d9_s7)
  ·intro f10 w10 hx10 ho10 hd10; have d10_0 : f10 19 = (.slice A7 out.length c7) := hd10 0 rfl; exact D.val rfl (op_len rfl d10_0 ln25)
  ·intro f11 w11 hx11 ho11 hd11; have d11_s8 : f11 8 = (.int .i64 ((fr : Nat) : Int)) := (ho11 8 rfl).trans s4_8; exact D.val rfl (op_move rfl d11_s8)
  ·intro f12 w12 hx12 ho12 hd12; have d12_1 : f12 20 = (.int .i64 (out.length : Int)) := hd12 1 rfl; have d12_2 : f12 21 = (.int .i64 ((fr : Nat) : Int)) := hd12 2 rfl; exact D.val rfl (op_gtr rfl d12_1 d12_2)
  ·intro f13 w13 hx13 ho13 hd13; have d13_3 : f13 22 = (.bool (decide (((fr : Nat) : Int) < (out.length : Int)))) := hd13 3 rfl; exact D.val rfl (op_move rfl d13_3)
  ·intro f14 w14 hx14 ho14 hd14; have d14_s7 : f14 7 = (.slice A7 out.length c7) := (ho14 7 rfl).trans ((show _ = v4_7 from s4_7).trans hv7); have d14_4 : f14 23 = (.bool (decide (((fr : Nat) : Int) < (out.length : Int)))) := hd14 4 rfl; exact D.guardv (wanted_yes rfl rfl d14_4) (fun hg => (op_move rfl d14_s7))
  ·intro f15 w15 hx15 ho15 hd15; have d15_s8 : f15 8 = (.int .i64 ((fr : Nat) : Int)) := (ho15 8 rfl).trans s4_8; have d15_4 : f15 23 = (.bool (decide (((fr : Nat) : Int) < (out.length : Int)))) := hd15 4 rfl; exact D.guardv (wanted_yes rfl rfl d15_4) (fun hg => (op_move rfl d15_s8))
  ·intro f16 w16 hx16 ho16 hd16; have d16_4 : f16 23 = (.bool (decide (((fr : Nat) : Int) < (out.length : Int)))) := hd16 4 rfl; have d16_5 : f16 24 = (vif (decide (((fr : Nat) : Int) < (out.length : Int))) (.slice A7 out.length c7)) := hd16 5 rfl; have d16_6 : f16 25 = (vif (decide (((fr : Nat) : Int) < (out.length : Int))) (.int .i64 ((fr : Nat) : Int))) := hd16 6 rfl; have hR7 := hR7.ext hx16; exact D.guardv (wanted_yes rfl rfl d16_4) (fun hg => by have hp := hg; (try simp only [Bool.and_eq_true, Bool.or_eq_true, Bool.not_eq_true', decide_eq_true_eq, decide_eq_false_iff_not, bne_iff_ne, beq_iff_eq] at hp); skip; exact (op_index (k := fr) rfl ((show _ = vif _ (.slice A7 out.length c7) from d16_5).trans (vif_t hg).symm) ((show _ = vif _ (.int .i64 ((fr : Nat) : Int)) from d16_6).trans (vif_t hg).symm) sl25 (hR7.getA (get_bang (l := out) (k := fr) (by omega))).1 rfl (by omega) rfl))
  ·intro f17 w17 hx17 ho17 hd17; have d17_4 : f17 23 = (.bool (decide (((fr : Nat) : Int) < (out.length : Int)))) := hd17 4 rfl; have d17_7 : f17 26 = (vif (decide (((fr : Nat) : Int) < (out.length : Int))) (.pointer (some ((adr A7).add (fr * 22))))) := hd17 7 rfl; exact D.guardv (wanted_yes rfl rfl d17_4) (fun hg => (op_field rfl ((show _ = vif _ (.pointer (some ((adr A7).add (fr * 22)))) from d17_7).trans (vif_t hg).symm) fo47_1 rfl))
  ·intro f18 w18 hx18 ho18 hd18; have d18_4 : f18 23 = (.bool (decide (((fr : Nat) : Int) < (out.length : Int)))) := hd18 4 rfl; have d18_8 : f18 27 = (vif (decide (((fr : Nat) : Int) < (out.length : Int))) (.pointer (some (((adr A7).add (fr * 22)).add 1)))) := hd18 8 rfl; have hR7 := hR7.ext hx18; exact D.guardv (wanted_yes rfl rfl d18_4) (fun hg => by have hp := hg; (try simp only [Bool.and_eq_true, Bool.or_eq_true, Bool.not_eq_true', decide_eq_true_eq, decide_eq_false_iff_not, bne_iff_ne, beq_iff_eq] at hp); skip; exact (op_load1 rfl ((show _ = vif _ (.pointer (some (((adr A7).add (fr * 22)).add 1))) from d18_8).trans (vif_t hg).symm) one3 ((hR7.getA (get_bang (l := out) (k := fr) (by omega))).2.one (n := 1) rfl)))
  ·intro f19 w19 hx19 ho19 hd19; have d19_s10 : f19 10 = (.pointer (some ⟨b6, 0, none⟩)) := ho19 10 rfl; have d19_4 : f19 23 = (.bool (decide (((fr : Nat) : Int) < (out.length : Int)))) := hd19 4 rfl; exact D.guardv (wanted_yes rfl rfl d19_4) (fun hg => (op_field rfl d19_s10 fo47_1 rfl))
  ·intro f20 w20 hx20 ho20 hd20; have d20_4 : f20 23 = (.bool (decide (((fr : Nat) : Int) < (out.length : Int)))) := hd20 4 rfl; have d20_10 : f20 29 = (vif (decide (((fr : Nat) : Int) < (out.length : Int))) (.pointer (some ⟨b6, 1, none⟩))) := hd20 10 rfl; have hB6 := hB6.ext hx20; exact D.guardv (wanted_yes rfl rfl d20_4) (fun hg => (op_load1 rfl ((show _ = vif _ (.pointer (some ⟨b6, 1, none⟩)) from d20_10).trans (vif_t hg).symm) one3 (hB6.cells.one (n := 1) rfl)))
  ·intro f21 w21 hx21 ho21 hd21; have d21_4 : f21 23 = (.bool (decide (((fr : Nat) : Int) < (out.length : Int)))) := hd21 4 rfl; have d21_9 : f21 28 = (vif (decide (((fr : Nat) : Int) < (out.length : Int))) (.int .i64 ((out[fr]!).slot))) := hd21 9 rfl; have d21_11 : f21 30 = (vif (decide (((fr : Nat) : Int) < (out.length : Int))) (.int .i64 (((asc_f parent l)[k]!).slot))) := hd21 11 rfl; exact D.guardv (wanted_yes rfl rfl d21_4) (fun hg => (op_neq rfl ((show _ = vif _ (.int .i64 ((out[fr]!).slot)) from d21_9).trans (vif_t hg).symm) ((show _ = vif _ (.int .i64 (((asc_f parent l)[k]!).slot)) from d21_11).trans (vif_t hg).symm)))
  ·intro f22 w22 hx22 ho22 hd22; have d22_4 : f22 23 = (.bool (decide (((fr : Nat) : Int) < (out.length : Int)))) := hd22 4 rfl; have d22_12 : f22 31 = (vif (decide (((fr : Nat) : Int) < (out.length : Int))) (.bool (!decide (((out[fr]!).slot) = (((asc_f parent l)[k]!).slot))))) := hd22 12 rfl; exact D.val rfl (op_and rfl d22_4 d22_12 rfl)
  intro f23 w23 hx23 ho23 hr23; have s0 : f23 0 = (.int .i64 m) := (ho23 0 rfl).trans s4_0; have s6 : f23 6 = (.slice none 0 0) := (ho23 6 rfl).trans s4_6; have s7 : f23 7 = (.slice A7 out.length c7) := (ho23 7 rfl).trans ((show _ = v4_7 from s4_7).trans hv7); have s8 : f23 8 = (.int .i64 ((fr : Nat) : Int)) := (ho23 8 rfl).trans s4_8; have s10 : f23 10 = (.pointer (some ⟨b6, 0, none⟩)) := ho23 10 rfl; have s13 : f23 13 = (.slice A2 (asc_f parent l).length c2) := (ho23 13 rfl).trans s4_13; have s14 : f23 14 = (.int .i64 ((asc_f parent l).length : Int)) := (ho23 14 rfl).trans s4_14; have s15 : f23 15 = (.int .i64 ((k : Nat) : Int)) := (ho23 15 rfl).trans s4_15; have s32 : f23 32 = (.bool ((decide (((fr : Nat) : Int) < (out.length : Int))) && (!decide (((out[fr]!).slot) = (((asc_f parent l)[k]!).slot))))) := hr23 13 (by decide); have hE := hE.trans hx23; have hS3 := hS3.trans hx23; have hO4_7 := hO4_7.ext hx23; have hB6 := hB6.ext hx23; refine thenF_nor ?_; refine W.cond (t := (decide (((fr : Nat) : Int) < (out.length : Int))) && (!decide (((out[fr]!).slot) = (((asc_f parent l)[k]!).slot)))) s32 (fun hc24 => ?_) (fun hc24 => ?_)
  ·have hp24 := hc24; simp only [Bool.and_eq_true, Bool.or_eq_true, Bool.and_eq_false_iff, Bool.or_eq_false_iff, Bool.not_eq_true', Bool.not_eq_false', decide_eq_true_eq, decide_eq_false_iff_not] at hp24; have hfrom : accFrom (out, fr) (asc_f parent l)[k]! = out.length := by unfold accFrom; simp only [hc24, cond_true]
   obtain ⟨A25, c25, hv25, hR25, hcap25⟩ := (hO4_7).form; have hlen25 := hR25.len; refine W.region (by rfl) ?_; refine L.val rfl (op_move rfl ((show _ = v4_7 from (s7.trans hv7.symm)).trans hv25)) ?_; refine L.val rfl (op_len rfl rfl ln25) ?_; refine L.val rfl (op_assign rfl rfl) ?_; refine L.nil ?_; refine thenF_nor ?_; refine W.seq ?_; refine W.seq ?_; obtain ⟨A26, c26, hv26, hR26, hcap26⟩ := (hO4_7).form; have hlen26 := hR26.len; refine W.drawS [Sp.eq (.int .i64 m), Sp.eq (Enc.val ((asc_f parent l)[k]!)), Sp.eq (.slice A26 out.length c26), Sp.eq (.int .i64 (out.length : Int)), Sp.slr ((out.drop out.length) : List Vt), Sp.eq (.bool (allowed_f m ((asc_f parent l)[k]!) (out.drop out.length))), Sp.eq (.bool (!(allowed_f m ((asc_f parent l)[k]!) (out.drop out.length))))] mixed (by rfl) (Obls.cons ?_ (Obls.cons ?_ (Obls.cons ?_ (Obls.cons ?_ (Obls.cons ?_ (Obls.cons ?_ (Obls.cons ?_ Obls.nil))))))) ?_
   ·intro f28 w28 hx28 ho28 hd28; have d28_s0 : f28 0 = (.int .i64 m) := (ho28 0 rfl).trans s0; exact D.val rfl (op_move rfl d28_s0)
   ·intro f29 w29 hx29 ho29 hd29; have d29_s10 : f29 10 = (.pointer (some ⟨b6, 0, none⟩)) := (ho29 10 rfl).trans s10; have hB6 := hB6.ext hx29; exact D.val rfl (op_load (v := (asc_f parent l)[k]!) rfl d29_s10 ty47 hB6.cells)
   ·intro f30 w30 hx30 ho30 hd30; have d30_s7 : f30 7 = (.slice A26 out.length c26) := (ho30 7 rfl).trans ((show _ = v4_7 from (s7.trans hv7.symm)).trans hv26); exact D.val rfl (op_move rfl d30_s7)
   ·intro f31 w31 hx31 ho31 hd31; have d31_s8 : f31 8 = (.int .i64 (out.length : Int)) := ho31 8 rfl; exact D.val rfl (op_move rfl d31_s8)
   ·intro f32 w32 hx32 ho32 hd32; have d32_2 : f32 37 = (.slice A26 out.length c26) := hd32 2 rfl; have d32_3 : f32 38 = (.int .i64 (out.length : Int)) := hd32 3 rfl; have hR26 := hR26.ext hx32; exact D.call (R := (Sp.slr ((out.drop out.length) : List Vt)).p) rfl (op_slr_l (k := out.length) sl25 rfl d32_2 d32_3 (by omega) hcap26 hR26)
   ·intro f33 w33 hx33 ho33 hd33; have d33_0 : f33 35 = (.int .i64 m) := hd33 0 rfl; have d33_1 : f33 36 = (Enc.val ((asc_f parent l)[k]!)) := hd33 1 rfl; obtain ⟨A33_4, c33_4, lo33_4, hi33_4, e33_4, hcap33_4, hR33_4⟩ := hd33 4 rfl; have hlen33_4 := hR33_4.len; exact D.call (R := (Sp.eq (.bool (allowed_f m ((asc_f parent l)[k]!) (out.drop out.length)))).p) rfl (OpS.call (op_call rfl (argsC d33_0 (argsC d33_1 (argsC e33_4 argsN))) Tryz.func46 rfl rfl) (Allowed_ok hR33_4 (by first | omega | (simp only [List.length_drop, List.length_take, List.length_append, List.length_cons, List.length_nil] at *; omega))))
   ·intro f34 w34 hx34 ho34 hd34; have d34_5 : f34 40 = (.bool (allowed_f m ((asc_f parent l)[k]!) (out.drop out.length))) := hd34 5 rfl; exact D.val rfl (op_not rfl d34_5)
   intro f35 w35 hx35 ho35 hr35; have s0 : f35 0 = (.int .i64 m) := (ho35 0 rfl).trans s0; have s6 : f35 6 = (.slice none 0 0) := (ho35 6 rfl).trans s6; have s7 : f35 7 = (.slice A26 out.length c26) := (ho35 7 rfl).trans ((show _ = v4_7 from (s7.trans hv7.symm)).trans hv26); have s8 : f35 8 = (.int .i64 (out.length : Int)) := ho35 8 rfl; have s10 : f35 10 = (.pointer (some ⟨b6, 0, none⟩)) := (ho35 10 rfl).trans s10; have s13 : f35 13 = (.slice A2 (asc_f parent l).length c2) := (ho35 13 rfl).trans s13; have s14 : f35 14 = (.int .i64 ((asc_f parent l).length : Int)) := (ho35 14 rfl).trans s14; have s15 : f35 15 = (.int .i64 ((k : Nat) : Int)) := (ho35 15 rfl).trans s15; have s41 : f35 41 = (.bool (!(allowed_f m ((asc_f parent l)[k]!) (out.drop out.length)))) := hr35 6 (by decide); have hE := hE.trans hx35; have hS3 := hS3.trans hx35; have hO4_7 := hO4_7.ext hx35; have hB6 := hB6.ext hx35; refine thenF_nor ?_; refine W.cond (t := !(allowed_f m ((asc_f parent l)[k]!) (out.drop out.length))) s41 (fun hc36 => ?_) (fun hc36 => ?_)
   ·have hp36 := hc36; simp only [Bool.and_eq_true, Bool.or_eq_true, Bool.and_eq_false_iff, Bool.or_eq_false_iff, Bool.not_eq_true', Bool.not_eq_false', decide_eq_true_eq, decide_eq_false_iff_not] at hp36; have hallow := hc36; simp only [Bool.not_eq_true'] at hallow; refine W.exit ?_; refine thenF_exit ?_; refine blockF_hit ?_; refine thenF_nor ?_; refine W.region (by rfl) ?_; refine L.val rfl (op_add (c := ((k + 1 : Nat) : Int)) rfl s15 rfl (by omega) (by omega)) ?_; refine L.val rfl (op_move rfl rfl) ?_; refine L.nil ?_; refine thenF_nor ?_; exact ⟨(k + 1, out, out.length), ⟨(by (try dsimp only); omega), (by simp only [List.length_append, List.length_cons, List.length_nil]; omega), (by simp only [List.length_append, List.length_cons, List.length_nil]; omega), (by dsimp only; rw [fold_go (by omega), hst]; unfold accStep; rw [hfrom, hallow]; rfl), s0, s6, s13, s14, rfl, s8, (own_at (v := v4_7) (s7.trans hv26.symm) hO4_7), hS3⟩, (by (try dsimp only); omega)⟩
   ·have hp36 := hc36; simp only [Bool.and_eq_true, Bool.or_eq_true, Bool.and_eq_false_iff, Bool.or_eq_false_iff, Bool.not_eq_true', Bool.not_eq_false', decide_eq_true_eq, decide_eq_false_iff_not] at hp36; have hallow := hc36; simp only [Bool.not_eq_false'] at hallow; refine W.skip ?_; refine thenF_nor ?_; refine W.region (by rfl) ?_; refine L.val rfl (op_move rfl (s7.trans hv26.symm)) ?_; refine L.val rfl (op_load (v := (asc_f parent l)[k]!) rfl s10 ty47 hB6.cells) ?_; refine L.step rfl (op_slice1 (a := ((asc_f parent l)[k]! : Vt)) rfl rfl sl25 zs47 (by decide)) ?_; rintro _ w37 ⟨b37, rfl, hb37, hB37, hx37⟩; have hE := hE.trans hx37; have hS3 := hS3.trans hx37; have hO4_7 := hO4_7.ext hx37; refine L.step rfl (op_append (a := ((asc_f parent l)[k]! : Vt)) (ad := ⟨b37, 0, none⟩) rfl rfl rfl sl25 zs47 bt47 hO4_7 hB37.cells (by omega) (by decide) hS3.size) ?_; rintro v38 w38 ⟨hO38, hg38⟩; have hS3 := hS3.own hO4_7 hg38; have hE := S3_hE.trans hS3; refine L.val rfl (op_assign rfl rfl) ?_; refine L.nil ?_; refine blockF_nor ?_; refine thenF_nor ?_; refine W.region (by rfl) ?_; refine L.val rfl (op_add (c := ((k + 1 : Nat) : Int)) rfl s15 rfl (by omega) (by omega)) ?_; refine L.val rfl (op_move rfl rfl) ?_; refine L.nil ?_; refine thenF_nor ?_; exact ⟨(k + 1, (out ++ [(asc_f parent l)[k]!]), out.length), ⟨(by (try dsimp only); omega), (by simp only [List.length_append, List.length_cons, List.length_nil]; omega), (by simp only [List.length_append, List.length_cons, List.length_nil]; omega), (by dsimp only; rw [fold_go (by omega), hst]; unfold accStep; rw [hfrom, hallow]; rfl), s0, s6, s13, s14, rfl, s8, (own_at (v := v38) rfl hO38), hS3⟩, (by (try dsimp only); omega)⟩
  ·have hp24 := hc24; simp only [Bool.and_eq_true, Bool.or_eq_true, Bool.and_eq_false_iff, Bool.or_eq_false_iff, Bool.not_eq_true', Bool.not_eq_false', decide_eq_true_eq, decide_eq_false_iff_not] at hp24; have hfrom : accFrom (out, fr) (asc_f parent l)[k]! = fr := by unfold accFrom; simp only [hc24, cond_false]
   refine W.skip ?_; refine thenF_nor ?_; refine W.seq ?_; refine W.seq ?_; obtain ⟨A39, c39, hv39, hR39, hcap39⟩ := (hO4_7).form; have hlen39 := hR39.len; refine W.drawS [Sp.eq (.int .i64 m), Sp.eq (Enc.val ((asc_f parent l)[k]!)), Sp.eq (.slice A39 out.length c39), Sp.eq (.int .i64 ((fr : Nat) : Int)), Sp.slr ((out.drop fr) : List Vt), Sp.eq (.bool (allowed_f m ((asc_f parent l)[k]!) (out.drop fr))), Sp.eq (.bool (!(allowed_f m ((asc_f parent l)[k]!) (out.drop fr))))] mixed (by rfl) (Obls.cons ?_ (Obls.cons ?_ (Obls.cons ?_ (Obls.cons ?_ (Obls.cons ?_ (Obls.cons ?_ (Obls.cons ?_ Obls.nil))))))) ?_
   ·intro f41 w41 hx41 ho41 hd41; have d41_s0 : f41 0 = (.int .i64 m) := (ho41 0 rfl).trans s0; exact D.val rfl (op_move rfl d41_s0)
   ·intro f42 w42 hx42 ho42 hd42; have d42_s10 : f42 10 = (.pointer (some ⟨b6, 0, none⟩)) := (ho42 10 rfl).trans s10; have hB6 := hB6.ext hx42; exact D.val rfl (op_load (v := (asc_f parent l)[k]!) rfl d42_s10 ty47 hB6.cells)
   ·intro f43 w43 hx43 ho43 hd43; have d43_s7 : f43 7 = (.slice A39 out.length c39) := (ho43 7 rfl).trans ((show _ = v4_7 from (s7.trans hv7.symm)).trans hv39); exact D.val rfl (op_move rfl d43_s7)
   ·intro f44 w44 hx44 ho44 hd44; have d44_s8 : f44 8 = (.int .i64 ((fr : Nat) : Int)) := (ho44 8 rfl).trans s8; exact D.val rfl (op_move rfl d44_s8)
   ·intro f45 w45 hx45 ho45 hd45; have d45_2 : f45 37 = (.slice A39 out.length c39) := hd45 2 rfl; have d45_3 : f45 38 = (.int .i64 ((fr : Nat) : Int)) := hd45 3 rfl; have hR39 := hR39.ext hx45; exact D.call (R := (Sp.slr ((out.drop fr) : List Vt)).p) rfl (op_slr_l (k := fr) sl25 rfl d45_2 d45_3 (by omega) hcap39 hR39)
   ·intro f46 w46 hx46 ho46 hd46; have d46_0 : f46 35 = (.int .i64 m) := hd46 0 rfl; have d46_1 : f46 36 = (Enc.val ((asc_f parent l)[k]!)) := hd46 1 rfl; obtain ⟨A46_4, c46_4, lo46_4, hi46_4, e46_4, hcap46_4, hR46_4⟩ := hd46 4 rfl; have hlen46_4 := hR46_4.len; exact D.call (R := (Sp.eq (.bool (allowed_f m ((asc_f parent l)[k]!) (out.drop fr)))).p) rfl (OpS.call (op_call rfl (argsC d46_0 (argsC d46_1 (argsC e46_4 argsN))) Tryz.func46 rfl rfl) (Allowed_ok hR46_4 (by first | omega | (simp only [List.length_drop, List.length_take, List.length_append, List.length_cons, List.length_nil] at *; omega))))
   ·intro f47 w47 hx47 ho47 hd47; have d47_5 : f47 40 = (.bool (allowed_f m ((asc_f parent l)[k]!) (out.drop fr))) := hd47 5 rfl; exact D.val rfl (op_not rfl d47_5)
   intro f48 w48 hx48 ho48 hr48; have s0 : f48 0 = (.int .i64 m) := (ho48 0 rfl).trans s0; have s6 : f48 6 = (.slice none 0 0) := (ho48 6 rfl).trans s6; have s7 : f48 7 = (.slice A39 out.length c39) := (ho48 7 rfl).trans ((show _ = v4_7 from (s7.trans hv7.symm)).trans hv39); have s8 : f48 8 = (.int .i64 ((fr : Nat) : Int)) := (ho48 8 rfl).trans s8; have s10 : f48 10 = (.pointer (some ⟨b6, 0, none⟩)) := (ho48 10 rfl).trans s10; have s13 : f48 13 = (.slice A2 (asc_f parent l).length c2) := (ho48 13 rfl).trans s13; have s14 : f48 14 = (.int .i64 ((asc_f parent l).length : Int)) := (ho48 14 rfl).trans s14; have s15 : f48 15 = (.int .i64 ((k : Nat) : Int)) := (ho48 15 rfl).trans s15; have s41 : f48 41 = (.bool (!(allowed_f m ((asc_f parent l)[k]!) (out.drop fr)))) := hr48 6 (by decide); have hE := hE.trans hx48; have hS3 := hS3.trans hx48; have hO4_7 := hO4_7.ext hx48; have hB6 := hB6.ext hx48; refine thenF_nor ?_; refine W.cond (t := !(allowed_f m ((asc_f parent l)[k]!) (out.drop fr))) s41 (fun hc49 => ?_) (fun hc49 => ?_)
   ·have hp49 := hc49; simp only [Bool.and_eq_true, Bool.or_eq_true, Bool.and_eq_false_iff, Bool.or_eq_false_iff, Bool.not_eq_true', Bool.not_eq_false', decide_eq_true_eq, decide_eq_false_iff_not] at hp49; have hallow := hc49; simp only [Bool.not_eq_true'] at hallow; refine W.exit ?_; refine thenF_exit ?_; refine blockF_hit ?_; refine thenF_nor ?_; refine W.region (by rfl) ?_; refine L.val rfl (op_add (c := ((k + 1 : Nat) : Int)) rfl s15 rfl (by omega) (by omega)) ?_; refine L.val rfl (op_move rfl rfl) ?_; refine L.nil ?_; refine thenF_nor ?_; exact ⟨(k + 1, out, fr), ⟨(by (try dsimp only); omega), (by simp only [List.length_append, List.length_cons, List.length_nil]; omega), (by simp only [List.length_append, List.length_cons, List.length_nil]; omega), (by dsimp only; rw [fold_go (by omega), hst]; unfold accStep; rw [hfrom, hallow]; rfl), s0, s6, s13, s14, rfl, s8, (own_at (v := v4_7) (s7.trans hv39.symm) hO4_7), hS3⟩, (by (try dsimp only); omega)⟩
   ·have hp49 := hc49; simp only [Bool.and_eq_true, Bool.or_eq_true, Bool.and_eq_false_iff, Bool.or_eq_false_iff, Bool.not_eq_true', Bool.not_eq_false', decide_eq_true_eq, decide_eq_false_iff_not] at hp49; have hallow := hc49; simp only [Bool.not_eq_false'] at hallow; refine W.skip ?_; refine thenF_nor ?_; refine W.region (by rfl) ?_; refine L.val rfl (op_move rfl (s7.trans hv39.symm)) ?_; refine L.val rfl (op_load (v := (asc_f parent l)[k]!) rfl s10 ty47 hB6.cells) ?_; refine L.step rfl (op_slice1 (a := ((asc_f parent l)[k]! : Vt)) rfl rfl sl25 zs47 (by decide)) ?_; rintro _ w50 ⟨b50, rfl, hb50, hB50, hx50⟩; have hE := hE.trans hx50; have hS3 := hS3.trans hx50; have hO4_7 := hO4_7.ext hx50; refine L.step rfl (op_append (a := ((asc_f parent l)[k]! : Vt)) (ad := ⟨b50, 0, none⟩) rfl rfl rfl sl25 zs47 bt47 hO4_7 hB50.cells (by omega) (by decide) hS3.size) ?_; rintro v51 w51 ⟨hO51, hg51⟩; have hS3 := hS3.own hO4_7 hg51; have hE := S3_hE.trans hS3; refine L.val rfl (op_assign rfl rfl) ?_; refine L.nil ?_; refine blockF_nor ?_; refine thenF_nor ?_; refine W.region (by rfl) ?_; refine L.val rfl (op_add (c := ((k + 1 : Nat) : Int)) rfl s15 rfl (by omega) (by omega)) ?_; refine L.val rfl (op_move rfl rfl) ?_; refine L.nil ?_; refine thenF_nor ?_; exact ⟨(k + 1, (out ++ [(asc_f parent l)[k]!]), fr), ⟨(by (try dsimp only); omega), (by simp only [List.length_append, List.length_cons, List.length_nil]; omega), (by simp only [List.length_append, List.length_cons, List.length_nil]; omega), (by dsimp only; rw [fold_go (by omega), hst]; unfold accStep; rw [hfrom, hallow]; rfl), s0, s6, s13, s14, rfl, s8, (own_at (v := v51) rfl hO51), hS3⟩, (by (try dsimp only); omega)⟩
 ·have hp5 := hc5; simp only [Bool.and_eq_true, Bool.or_eq_true, Bool.and_eq_false_iff, Bool.or_eq_false_iff, Bool.not_eq_true', Bool.not_eq_false', decide_eq_true_eq, decide_eq_false_iff_not] at hp5; refine W.exit ?_; refine thenF_exit ?_; refine thenF_exit ?_; refine blockF_hit ?_; refine thenF_nor ?_; refine W.seq ?_; obtain ⟨A52, c52, hv52, hR52, hcap52⟩ := (hO4_7).form; have hlen52 := hR52.len; refine W.region (by rfl) ?_; refine L.val rfl (op_move rfl ((show _ = v4_7 from s4_7).trans hv52)) ?_; refine L.val rfl (op_assign rfl rfl) ?_; refine L.nil ?_; refine thenF_nor ?_; refine W.ret ?_; refine scopeF_ret ?_; exact end_ret1 (v := (.slice A52 out.length c52)) rfl rfl ⟨(by have hkl : k = (asc_f parent l).length := (by omega); rw [hkl, List.take_length] at hst; unfold accepted_f; rw [hst]; exact (⟨_, _, _, _, rfl, hcap52, hR52⟩ : SlR _ _ _)), hE⟩
end Go.Proofs.YtdknjfmjddlphaaGreat
/-
  Layer 12: what accept.Accepted computes is the least fixed point: the plain laws. No walk.
-/
namespace Go.Proofs.YtdknjfmjddlphaaGreat
open Go Go.Fk
theorem any_app {a b : List Vt} {p : Vt → Bool} (h : ∀ x ∈ b, p x = false) : (a ++ b).any p = a.any p := by
 have : b.any p = false := by
  rw [List.any_eq_false]
  intro x hx
  rw [h x hx]; decide
 rw [List.any_append, this, Bool.or_false]
theorem supported_app {m q : Int} {v : Vt} {a b : List Vt} {p : Vt → Bool} (h : ∀ x ∈ b, p x = false) : supported_f m q v (a ++ b) p = supported_f m q v a p := by
 unfold supported_f
 have : ∀ i : Int, (a ++ b).any (fun x => supported1_f x i p) = a.any (fun x => supported1_f x i p) := fun i =>
  any_app (fun x hx => by unfold supported1_f; rw [h x hx, Bool.and_false])
 simp only [this]
theorem anySt_none {q : List Vt → Vt → Bool} : ∀ {b : List Vt} (pre : List Vt), (∀ x ∈ b, ∀ pre, q pre x = false) → anySt q pre b = false
  | [], _, _ => rfl
  | x :: t, pre, h => by
    show (q pre x || anySt q (pre ++ [x]) t) = false
    rw [h x (by simp) pre, anySt_none (pre ++ [x]) (fun y hy => h y (by simp [hy]))]; rfl
theorem anySt_app {q : List Vt → Vt → Bool} {b : List Vt} (h : ∀ x ∈ b, ∀ pre, q pre x = false) : ∀ {a : List Vt} (pre : List Vt), anySt q pre (a ++ b) = anySt q pre a
  | [], pre => anySt_none pre h
  | x :: t, pre => by
    show (q pre x || anySt q (pre ++ [x]) (t ++ b)) = (q pre x || anySt q (pre ++ [x]) t)
    rw [anySt_app h]
theorem valid_round0 {v : Vt} (h : valid_f v = true) (hk : v.kind = 1 ∨ v.kind = 2) : v.round = 0 := by
 unfold valid_f at h; cases h1 : (!(between_f v.kind 1 7)) || (!(between_f v.signer 0 9)) with
 | true => rw [h1] at h; simp at h
 | false =>
  rw [h1] at h
  simp only [cond_false] at h
  cases h2 : ((decide (v.choice = 1)) == (decide (v.value = Nm.zero))) || (!decide ((iandn v.support 1023) = 0)) with
  | true => rw [h2] at h; simp at h
  | false =>
    rw [h2] at h
    simp only [cond_false] at h
    rcases hk with hk | hk
    · simp [hk] at h; exact h.1.2.1
    · simp [hk] at h; exact h.1.2.1
/-- the vote x comes no earlier than v's round and kind -/
def Later (v x : Vt) : Prop := x.parent = v.parent → x.slot = v.slot → v.round < x.round ∨ (v.round = x.round ∧ v.kind ≤ x.kind)
theorem counts_iff {m : Int} {v x : Vt} (h : counts_f m v x = true) : valid_f x = true ∧ x.parent = v.parent ∧ x.slot = v.slot := by
 unfold counts_f at h; simp only [Bool.and_eq_true, decide_eq_true_eq] at h; exact ⟨h.1.1.1.1, h.1.1.1.2, h.1.1.2⟩
theorem allowed_app {m : Int} {v : Vt} {acc ext : List Vt} (h : ∀ x ∈ ext, Later v x) : allowed_f m v (acc ++ ext) = allowed_f m v acc := by
 unfold allowed_f; rw [List.filter_append]
 have hb : ∀ x ∈ ext.filter (counts_f m v), valid_f x = true ∧ (v.round < x.round ∨ (v.round = x.round ∧ v.kind ≤ x.kind)) := fun x hx => by
  rw [List.mem_filter] at hx
  obtain ⟨hv, hp, hs⟩ := counts_iff hx.2
  exact ⟨hv, h x hx.1 hp hs⟩
 generalize acc.filter (counts_f m v) = a; generalize ext.filter (counts_f m v) = b at hb; cases hg : (((!(valid_f v)) || (decide (4 < v.kind))) || (!(has_f m v.signer))) || (!(has_f m v.slot)) with
 | true => rfl
 | false =>
  simp only [cond_false]
  simp only [Bool.or_eq_false_iff, Bool.not_eq_false'] at hg
  have hvv := hg.1.1.1
  have hvb := valid_bounds hvv
  by_cases k1 : v.kind = 1
  · simp [k1]
  · by_cases k2 : v.kind = 2
    · have hr := valid_round0 hvv (Or.inr k2)
      have e : (a ++ b).any (fun xx => allowed1_f xx v) = a.any (fun xx => allowed1_f xx v) := any_app fun x hx => by
        obtain ⟨hx1, hx2⟩ := hb x hx
        unfold allowed1_f
        by_cases hk : x.kind = 1
        · have := valid_round0 hx1 (Or.inl hk); omega
        · simp [hk]
      simp [k2, e]
    · by_cases k3 : v.kind = 3
      · have p1 : v.round = 1 → ∀ x ∈ b, prevote1_f x v = false := fun hr x hx => by
          obtain ⟨hx1, hx2⟩ := hb x hx
          unfold prevote1_f
          by_cases hk : x.kind = 2
          · have := valid_round0 hx1 (Or.inr hk); omega
          · simp [hk]
        have pr : ∀ x ∈ b, ¬ x.round = v.round - 1 := fun x hx => by obtain ⟨_, hx2⟩ := hb x hx; omega
        have p2 : ∀ x ∈ b, prevote2_f x v = false := fun x hx => by unfold prevote2_f; simp [pr x hx]
        have p3 : ∀ x ∈ b, prevote3_f x v = false := fun x hx => by unfold prevote3_f; simp [pr x hx]
        have p6 : ∀ x ∈ b, prevote6_f x v = false := fun x hx => by unfold prevote6_f; simp [pr x hx]
        have e : ∀ q, prevote_f m q (a ++ b) v = prevote_f m q a v := fun q => by
          unfold prevote_f
          by_cases hr : v.round = 1
          · simp only [hr, decide_true, cond_true]
            rw [supported_app (p := fun xx => prevote1_f xx v) (p1 hr)]
          · simp only [hr, decide_false, cond_false]
            rw [supported_app (p := fun xx => prevote4_f xx (fun xx => prevote2_f xx v) (fun xx => prevote3_f xx v)) (fun x hx => by unfold prevote4_f; simp only [p2 x hx, p3 x hx, Bool.or_false]),
              any_app (p := fun xx => prevote5_f xx v (fun xx => prevote2_f xx v)) (fun x hx => by unfold prevote5_f; simp only [p2 x hx, Bool.and_false]),
              supported_app (p := fun xx => prevote3_f xx v) p3, any_app (p := fun xx => prevote6_f xx v) p6]
        simp [k3, e]
      · have k4 : v.kind = 4 := by
          have := hg.1.1.2
          simp only [decide_eq_false_iff_not] at this
          omega
        have p1 : ∀ x ∈ b, precommit1_f x v = false := fun x hx => by
          obtain ⟨_, hx2⟩ := hb x hx
          unfold precommit1_f
          by_cases hk : x.kind = 3
          · have : ¬ x.round = v.round := by omega
            simp [this]
          · simp [hk]
        have e : ∀ q, precommit_f m q (a ++ b) v = precommit_f m q a v := fun q => by
          unfold precommit_f
          rw [supported_app (p := fun xx => precommit2_f xx (fun xx => precommit1_f xx v) v) (fun x hx => by unfold precommit2_f; simp only [p1 x hx, Bool.false_and]),
            supported_app (p := fun xx => precommit1_f xx v) p1, anySt_app (q := pre3q v) (fun x hx pre => by
              unfold pre3q
              split
              · unfold precommit3n_f; simp only [p1 x hx, Bool.not_false, Bool.true_or, cond_true]
              · unfold precommit3s_f; simp only [p1 x hx, Bool.not_false, Bool.true_or, cond_true])]
        simp [k4, e]
theorem vote_slot {u v : Vt} (h : voteLess_f u v = true) (hp : u.parent = v.parent) : u.slot ≤ v.slot := by
 unfold voteLess_f at h; simp only [hp, decide_true, Bool.not_true, cond_false] at h; by_cases hs : u.slot = v.slot
 ·omega
 ·simp [hs] at h; omega
theorem vote_later {u v : Vt} (h : voteLess_f u v = true) : Later u v := by
 intro hp hs; unfold voteLess_f at h; simp only [hp, hs, decide_true, Bool.not_true, cond_false] at h; by_cases hr : u.round = v.round
 ·simp only [hr, decide_true, Bool.not_true, cond_false] at h; by_cases hk : u.kind = v.kind
  ·exact Or.inr ⟨hr, by omega⟩
  ·simp [hk] at h; exact Or.inr ⟨hr, by omega⟩
 ·simp [hr] at h; exact Or.inl h
def gain (m : Int) (out : List Vt) (v : Vt) : List Vt := bif allowed_f m v out then out ++ [v] else out
theorem filter_counts {m : Int} {v : Vt} (out : List Vt) : allowed_f m v (out.filter fun x => decide (x.slot = v.slot)) = allowed_f m v out := by
 have : (out.filter fun x => decide (x.slot = v.slot)).filter (counts_f m v) = out.filter (counts_f m v) := by
  rw [List.filter_filter]
  congr 1
  funext x
  cases hc : counts_f m v x with
  | false => rfl
  | true => obtain ⟨_, _, hs⟩ := counts_iff hc; simp [hs]
 unfold allowed_f; rw [this]
theorem acc_gain {m : Int} {parent : Nm} : ∀ (rest : List Vt) (out : List Vt) (fr : Nat) (s : Int), Asc voteLess_f rest → (∀ x ∈ rest, x.parent = parent) → fr ≤ out.length → (∀ y ∈ rest, s ≤ y.slot) → (∀ x ∈ out.take fr, x.slot < s) → (∀ x ∈ out.drop fr, x.slot = s) →
    (rest.foldl (accStep m) (out, fr)).1 = rest.foldl (gain m) out
  | [], _, _, _, _, _, _, _, _, _ => rfl
  | v :: t, out, fr, s, ha, hp, hfr, hs, h1, h2 => by
    obtain ⟨a1, a2⟩ := List.pairwise_cons.1 ha
    have hsv := hs v (by simp)
    have htp : ∀ x ∈ t, x.parent = parent := fun x hx => hp x (by simp [hx])
    have hsl : ∀ y ∈ t, v.slot ≤ y.slot := fun y hy => vote_slot (a1 y hy) ((hp v (by simp)).trans (htp y hy).symm)
    have hmem : ∀ x ∈ out, x ∈ out.take fr ∨ x ∈ out.drop fr := fun x hx => by
      rw [← List.take_append_drop fr out] at hx
      exact List.mem_append.1 hx
    have key : accFrom (out, fr) v ≤ out.length ∧ (∀ x ∈ out.take (accFrom (out, fr) v), x.slot < v.slot) ∧ (∀ x ∈ out.drop (accFrom (out, fr) v), x.slot = v.slot) := by
      unfold accFrom
      cases hc : decide (((fr : Nat) : Int) < (out.length : Int)) && !decide (out[fr]!.slot = v.slot) with
      | true =>
        simp only [Bool.and_eq_true, decide_eq_true_eq, Bool.not_eq_true', decide_eq_false_iff_not] at hc
        have hfl : fr < out.length := by omega
        have : out[fr]! ∈ out.drop fr := by
          rw [getElem!_pos out fr hfl, List.drop_eq_getElem_cons hfl]; exact List.mem_cons_self
        have e := h2 _ this
        simp only [cond_true]
        refine ⟨Nat.le_refl _, fun x hx => ?_, fun x hx => by rw [List.drop_length] at hx; cases hx⟩
        rw [List.take_length] at hx
        rcases hmem x hx with hx | hx
        · have := h1 x hx; omega
        · have := h2 x hx
          have : ¬ s = v.slot := fun e' => hc.2 (e.trans e')
          omega
      | false =>
        simp only [cond_false]
        refine ⟨hfr, fun x hx => by have := h1 x hx; omega, fun x hx => ?_⟩
        have hfl : fr < out.length := by
          rcases Nat.lt_or_ge fr out.length with h | h
          · exact h
          · rw [List.drop_eq_nil_of_le h] at hx; cases hx
        have hm : out[fr]! ∈ out.drop fr := by
          rw [getElem!_pos out fr hfl, List.drop_eq_getElem_cons hfl]; exact List.mem_cons_self
        have e := h2 _ hm
        simp only [Bool.and_eq_false_iff, decide_eq_false_iff_not, Bool.not_eq_false', decide_eq_true_eq] at hc
        rcases hc with hc | hc
        · omega
        · rw [h2 x hx]; omega
    obtain ⟨k1, k2, k3⟩ := key
    have hdrop : out.drop (accFrom (out, fr) v) = out.filter fun x => decide (x.slot = v.slot) := by
      conv => rhs; rw [← List.take_append_drop (accFrom (out, fr) v) out]
      rw [List.filter_append]
      have e1 : (out.take (accFrom (out, fr) v)).filter (fun x => decide (x.slot = v.slot)) = [] := by
        rw [List.filter_eq_nil_iff]
        intro x hx
        have := k2 x hx
        simp; omega
      have e2 : (out.drop (accFrom (out, fr) v)).filter (fun x => decide (x.slot = v.slot)) = out.drop (accFrom (out, fr) v) := by
        rw [List.filter_eq_self]
        intro x hx
        simp [k3 x hx]
      rw [e1, e2, List.nil_append]
    rw [List.foldl_cons, List.foldl_cons]
    have hst : accStep m (out, fr) v = (gain m out v, accFrom (out, fr) v) := by
      unfold accStep gain
      dsimp only
      rw [hdrop, filter_counts]
      cases allowed_f m v out <;> rfl
    rw [hst]
    have hg : gain m out v = out ∨ gain m out v = out ++ [v] := by
      unfold gain
      cases allowed_f m v out
      · exact Or.inl rfl
      · exact Or.inr rfl
    refine acc_gain t _ _ v.slot a2 htp ?_ hsl ?_ ?_
    · rcases hg with e | e <;> rw [e]
      · exact k1
      · simp; omega
    · rcases hg with e | e <;> rw [e]
      · exact k2
      · rw [List.take_append_of_le_length k1]; exact k2
    · rcases hg with e | e <;> rw [e]
      · exact k3
      · rw [List.drop_append_of_le_length k1]
        intro x hx
        rcases List.mem_append.1 hx with hx | hx
        · exact k3 x hx
        · rw [List.mem_singleton] at hx; rw [hx]
theorem asc_parent {parent : Nm} {l : List Vt} {x : Vt} (h : x ∈ asc_f parent l) : x.parent = parent ∧ x ∈ l := by
 unfold asc_f at h; rw [sorted_mem, List.mem_filter] at h; exact ⟨by simpa using h.2, h.1⟩
theorem accepted_gain {m : Int} {parent : Nm} {l : List Vt} : accepted_f m parent l = (asc_f parent l).foldl (gain m) [] := by
 unfold accepted_f; have hp : ∀ x ∈ asc_f parent l, x.parent = parent := fun x hx => (asc_parent hx).1; have ha : Asc voteLess_f (asc_f parent l) := sorted_asc vote_lin _; generalize asc_f parent l = K at hp ha; cases K with
 | nil => rfl
 | cons v t => 
  refine acc_gain (parent := parent) _ [] 0 v.slot ha hp (by simp) (fun y hy => ?_) (by simp) (by simp)
  rcases List.mem_cons.1 hy with e | hy
  · rw [e]; omega
  · exact vote_slot ((List.pairwise_cons.1 ha).1 y hy) ((hp v (by simp)).trans (hp y (by simp [hy])).symm)
structure Fix (m : Int) (done out : List Vt) : Prop where
  sub : out.Sublist done
  just : ∀ pre v post, out = pre ++ v :: post → allowed_f m v pre = true
  rest : ∀ v ∈ done, v ∉ out → allowed_f m v out = false
theorem fix_step {m : Int} {done out : List Vt} {v : Vt} (h : Fix m done out) (hl : ∀ u ∈ done, Later u v) : Fix m (done ++ [v]) (gain m out v) := by
 unfold gain; cases ha : allowed_f m v out with
 | false =>
  refine ⟨h.sub.trans (List.sublist_append_left _ _), h.just, fun u hu hn => ?_⟩
  rcases List.mem_append.1 hu with hu | hu
  · exact h.rest u hu hn
  · rw [List.mem_singleton] at hu; rw [hu]; exact ha
 | true =>
  simp only [cond_true]
  refine ⟨h.sub.append (List.Sublist.refl _), fun pre u post e => ?_, fun u hu hn => ?_⟩
  · rcases List.eq_nil_or_concat post with rfl | ⟨post', z, rfl⟩
    · have := List.append_inj' e rfl
      obtain ⟨e1, e2⟩ := this
      simp only [List.cons.injEq, and_true] at e2
      rw [← e1, ← e2]; exact ha
    · have e' : out ++ [v] = (pre ++ u :: post') ++ [z] := by rw [e]; simp
      obtain ⟨e1, _⟩ := List.append_inj' e' rfl
      exact h.just _ _ _ e1
  · have hu' : u ∈ done := by
      rcases List.mem_append.1 hu with hu | hu
      · exact hu
      · exact absurd (List.mem_append.2 (Or.inr hu)) hn
    rw [allowed_app (fun x hx => by rw [List.mem_singleton] at hx; rw [hx]; exact hl u hu')]
    exact h.rest u hu' fun hc => hn (List.mem_append.2 (Or.inl hc))
theorem fix_fold {m : Int} : ∀ (rest done out : List Vt), Asc voteLess_f (done ++ rest) → Fix m done out → Fix m (done ++ rest) (rest.foldl (gain m) out)
  | [], done, out, _, h => by simpa using h
  | v :: t, done, out, ha, h => by
    have e : done ++ v :: t = (done ++ [v]) ++ t := by simp
    rw [List.foldl_cons, e]
    rw [e] at ha
    refine fix_fold t _ _ ha (fix_step h fun u hu => ?_)
    have := (List.pairwise_append.1 (List.pairwise_append.1 ha).1).2.2 u hu v (by simp)
    exact vote_later this
theorem fix_accepted (m : Int) (parent : Nm) (l : List Vt) : Fix m (asc_f parent l) (accepted_f m parent l) := by
 rw [accepted_gain]; have := fix_fold (m := m) (asc_f parent l) [] [] (sorted_asc vote_lin _) ⟨List.Sublist.refl _, fun pre v post e => by simp at e, fun v hv => by cases hv⟩; simpa using this
theorem acc_asc (m : Int) (parent : Nm) (l : List Vt) : Asc voteLess_f (accepted_f m parent l) :=
  (sorted_asc vote_lin (l.filter fun x => decide (x.parent = parent))).sublist (fix_accepted m parent l).sub
theorem acc_len (m : Int) (parent : Nm) (l : List Vt) : (accepted_f m parent l).length ≤ l.length :=
  Nat.le_trans (fix_accepted m parent l).sub.length_le (asc_len parent l)
theorem acc_allowed {m : Int} {parent : Nm} {l : List Vt} {k : Nat} (h : k < (accepted_f m parent l).length) : allowed_f m (accepted_f m parent l)[k]! (accepted_f m parent l) = true := by
 have ha := acc_asc m parent l; have hj := (fix_accepted m parent l).just; generalize accepted_f m parent l = out at h ha hj; obtain ⟨z, hz⟩ : ∃ z, z = out[k]! := ⟨_, rfl⟩; rw [← hz]
 have e : out = out.take k ++ z :: out.drop (k + 1) := by
  rw [hz, getElem!_pos out k h, ← List.drop_eq_getElem_cons h, List.take_append_drop]
 have h1 := hj _ _ _ e
 have hx : ∀ x ∈ z :: out.drop (k + 1), Later z x := by
  intro x hx
  rcases List.mem_cons.1 hx with e' | hx
  · rw [e']; exact fun _ _ => Or.inr ⟨rfl, Int.le_refl _⟩
  · rw [e] at ha
    exact vote_later ((List.pairwise_cons.1 (List.pairwise_append.1 ha).2.1).1 x hx)
 have h2 := allowed_app (m := m) (acc := out.take k) hx; rw [← e] at h2; rw [h2]; exact h1
end Go.Proofs.YtdknjfmjddlphaaGreat
/-
  Sets of ids in an int: union, intersection, difference, one member; how many members of a committee answer. No walk.
-/
set_option linter.unusedSimpArgs false
set_option linter.unusedVariables false
namespace Go.Proofs.YtdknjfmjddlphaaGreat
open Go Go.Fk
end Go.Proofs.YtdknjfmjddlphaaGreat
/-
  The accountability theorem of layer 12 over lists of accepted votes: who decides two unlike values of one slot bears conflicting votes. No walk.
-/
set_option linter.unusedSimpArgs false
set_option linter.unusedVariables false
namespace Go.Proofs.YtdknjfmjddlphaaGreat
open Go Go.Fk
theorem allowed_guard {m : Int} {v : Vt} {A : List Vt} (h : allowed_f m v A = true) : valid_f v = true ∧ v.kind ≤ 4 ∧ has_f m v.signer = true ∧ has_f m v.slot = true := by
 unfold allowed_f at h; cases hg : (((!(valid_f v)) || (decide (4 < v.kind))) || (!(has_f m v.signer))) || (!(has_f m v.slot)) with
 | true => rw [hg] at h; cases h
 | false =>
  simp only [Bool.or_eq_false_iff, Bool.not_eq_false', decide_eq_false_iff_not] at hg
  exact ⟨hg.1.1.1, by omega, hg.1.2, hg.2⟩
theorem acc_mem_allowed {m : Int} {parent : Nm} {l : List Vt} {v : Vt} (h : v ∈ accepted_f m parent l) : allowed_f m v (accepted_f m parent l) = true := by
 obtain ⟨k, hk, e⟩ := List.getElem_of_mem h; have := acc_allowed (m := m) (parent := parent) (l := l) (k := k) hk; rw [getElem!_pos _ k hk, e] at this; exact this
end Go.Proofs.YtdknjfmjddlphaaGreat
/-
  What the loaded program forces of every row of its laws: closed facts, each by the kernel. No walk.
-/
namespace Go.Proofs.YtdknjfmjddlphaaGreat
open Go
theorem words_word : ∀ (w : List Char), (∀ c ∈ w, (c == Char.ofNat 32) = false) → ∀ r, wordsSigns (w ++ Char.ofNat 32 :: r) = w :: wordsSigns r
  | [], _, r => by
    show wordsSigns (Char.ofNat 32 :: r) = [] :: wordsSigns r
    conv => lhs; unfold wordsSigns
    rfl
  | c :: w, h, r => by
    have ih := words_word w (fun d hd => h d (List.mem_cons_of_mem _ hd)) r
    have hc := h c List.mem_cons_self
    show wordsSigns (c :: (w ++ Char.ofNat 32 :: r)) = _
    conv => lhs; unfold wordsSigns
    split
    · rename_i heq; cases heq
    · rename_i heq
      injection heq with h1 h2
      subst h1
      simp at hc
    · rename_i heq
      injection heq with h1 h2
      subst h1 h2
      rw [ih]
def headRest : List Char := [Char.ofNat 97, Char.ofNat 116, Char.ofNat 32, Char.ofNat 102, Char.ofNat 111, Char.ofNat 114, Char.ofNat 107, Char.ofNat 108, Char.ofNat 101, Char.ofNat 100, Char.ofNat 103, Char.ofNat 101, Char.ofNat 114, Char.ofNat 47, Char.ofNat 102, Char.ofNat 111, Char.ofNat 114, Char.ofNat 107, Char.ofNat 108, Char.ofNat 101, Char.ofNat 100, Char.ofNat 103, Char.ofNat 101, Char.ofNat 114, Char.ofNat 108, Char.ofNat 97, Char.ofNat 119, Char.ofNat 49, Char.ofNat 53, Char.ofNat 46, Char.ofNat 66, Char.ofNat 114, Char.ofNat 111, Char.ofNat 97, Char.ofNat 100, Char.ofNat 99, Char.ofNat 97, Char.ofNat 115, Char.ofNat 116, Char.ofNat 69, Char.ofNat 120, Char.ofNat 97, Char.ofNat 99, Char.ofNat 116, Char.ofNat 32, Char.ofNat 102, Char.ofNat 111, Char.ofNat 114, Char.ofNat 107, Char.ofNat 108, Char.ofNat 101, Char.ofNat 100, Char.ofNat 103, Char.ofNat 101, Char.ofNat 114, Char.ofNat 47, Char.ofNat 102, Char.ofNat 111, Char.ofNat 114, Char.ofNat 107, Char.ofNat 108, Char.ofNat 101, Char.ofNat 100, Char.ofNat 103, Char.ofNat 101, Char.ofNat 114, Char.ofNat 108, Char.ofNat 97, Char.ofNat 119, Char.ofNat 49, Char.ofNat 50, Char.ofNat 46, Char.ofNat 65, Char.ofNat 99, Char.ofNat 99, Char.ofNat 101, Char.ofNat 112, Char.ofNat 116, Char.ofNat 69, Char.ofNat 120, Char.ofNat 97, Char.ofNat 99, Char.ofNat 116, Char.ofNat 32, Char.ofNat 102, Char.ofNat 111, Char.ofNat 114, Char.ofNat 107, Char.ofNat 108, Char.ofNat 101, Char.ofNat 100, Char.ofNat 103, Char.ofNat 101, Char.ofNat 114, Char.ofNat 47, Char.ofNat 102, Char.ofNat 111, Char.ofNat 114, Char.ofNat 107, Char.ofNat 108, Char.ofNat 101, Char.ofNat 100, Char.ofNat 103, Char.ofNat 101, Char.ofNat 114, Char.ofNat 108, Char.ofNat 97, Char.ofNat 119, Char.ofNat 49, Char.ofNat 51, Char.ofNat 46, Char.ofNat 67, Char.ofNat 101, Char.ofNat 114, Char.ofNat 116, Char.ofNat 105, Char.ofNat 102, Char.ofNat 105, Char.ofNat 99, Char.ofNat 97, Char.ofNat 116, Char.ofNat 101, Char.ofNat 69, Char.ofNat 120, Char.ofNat 97, Char.ofNat 99, Char.ofNat 116, Char.ofNat 32, Char.ofNat 102, Char.ofNat 111, Char.ofNat 114, Char.ofNat 107, Char.ofNat 108, Char.ofNat 101, Char.ofNat 100, Char.ofNat 103, Char.ofNat 101, Char.ofNat 114, Char.ofNat 47, Char.ofNat 102, Char.ofNat 111, Char.ofNat 114, Char.ofNat 107, Char.ofNat 108, Char.ofNat 101, Char.ofNat 100, Char.ofNat 103, Char.ofNat 101, Char.ofNat 114, Char.ofNat 108, Char.ofNat 97, Char.ofNat 119, Char.ofNat 49, Char.ofNat 51, Char.ofNat 46, Char.ofNat 67, Char.ofNat 101, Char.ofNat 114, Char.ofNat 116, Char.ofNat 105, Char.ofNat 102, Char.ofNat 105, Char.ofNat 99, Char.ofNat 97, Char.ofNat 116, Char.ofNat 101, Char.ofNat 83, Char.ofNat 108, Char.ofNat 111, Char.ofNat 116, Char.ofNat 115, Char.ofNat 32, Char.ofNat 102, Char.ofNat 111, Char.ofNat 114, Char.ofNat 107, Char.ofNat 108, Char.ofNat 101, Char.ofNat 100, Char.ofNat 103, Char.ofNat 101, Char.ofNat 114, Char.ofNat 47, Char.ofNat 102, Char.ofNat 111, Char.ofNat 114, Char.ofNat 107, Char.ofNat 108, Char.ofNat 101, Char.ofNat 100, Char.ofNat 103, Char.ofNat 101, Char.ofNat 114, Char.ofNat 108, Char.ofNat 97, Char.ofNat 119, Char.ofNat 49, Char.ofNat 54, Char.ofNat 46, Char.ofNat 65, Char.ofNat 103, Char.ofNat 114, Char.ofNat 101, Char.ofNat 101, Char.ofNat 109, Char.ofNat 101, Char.ofNat 110, Char.ofNat 116, Char.ofNat 78, Char.ofNat 101, Char.ofNat 120, Char.ofNat 116, Char.ofNat 32, Char.ofNat 102, Char.ofNat 111, Char.ofNat 114, Char.ofNat 107, Char.ofNat 108, Char.ofNat 101, Char.ofNat 100, Char.ofNat 103, Char.ofNat 101, Char.ofNat 114, Char.ofNat 47, Char.ofNat 102, Char.ofNat 111, Char.ofNat 114, Char.ofNat 107, Char.ofNat 108, Char.ofNat 101, Char.ofNat 100, Char.ofNat 103, Char.ofNat 101, Char.ofNat 114, Char.ofNat 108, Char.ofNat 97, Char.ofNat 119, Char.ofNat 49, Char.ofNat 54, Char.ofNat 46, Char.ofNat 65, Char.ofNat 103, Char.ofNat 114, Char.ofNat 101, Char.ofNat 101, Char.ofNat 109, Char.ofNat 101, Char.ofNat 110, Char.ofNat 116, Char.ofNat 69, Char.ofNat 97, Char.ofNat 99, Char.ofNat 104, Char.ofNat 32, Char.ofNat 102, Char.ofNat 111, Char.ofNat 114, Char.ofNat 107, Char.ofNat 108, Char.ofNat 101, Char.ofNat 100, Char.ofNat 103, Char.ofNat 101, Char.ofNat 114, Char.ofNat 47, Char.ofNat 102, Char.ofNat 111, Char.ofNat 114, Char.ofNat 107, Char.ofNat 108, Char.ofNat 101, Char.ofNat 100, Char.ofNat 103, Char.ofNat 101, Char.ofNat 114, Char.ofNat 108, Char.ofNat 97, Char.ofNat 119, Char.ofNat 49, Char.ofNat 54, Char.ofNat 46, Char.ofNat 65, Char.ofNat 103, Char.ofNat 114, Char.ofNat 101, Char.ofNat 101, Char.ofNat 109, Char.ofNat 101, Char.ofNat 110, Char.ofNat 116, Char.ofNat 68, Char.ofNat 111, Char.ofNat 110, Char.ofNat 101, Char.ofNat 32, Char.ofNat 102, Char.ofNat 111, Char.ofNat 114, Char.ofNat 107, Char.ofNat 108, Char.ofNat 101, Char.ofNat 100, Char.ofNat 103, Char.ofNat 101, Char.ofNat 114, Char.ofNat 47, Char.ofNat 102, Char.ofNat 111, Char.ofNat 114, Char.ofNat 107, Char.ofNat 108, Char.ofNat 101, Char.ofNat 100, Char.ofNat 103, Char.ofNat 101, Char.ofNat 114, Char.ofNat 108, Char.ofNat 97, Char.ofNat 119, Char.ofNat 49, Char.ofNat 54, Char.ofNat 46, Char.ofNat 65, Char.ofNat 103, Char.ofNat 114, Char.ofNat 101, Char.ofNat 101, Char.ofNat 109, Char.ofNat 101, Char.ofNat 110, Char.ofNat 116, Char.ofNat 65, Char.ofNat 108, Char.ofNat 105, Char.ofNat 107, Char.ofNat 101, Char.ofNat 32, Char.ofNat 102, Char.ofNat 111, Char.ofNat 114, Char.ofNat 107, Char.ofNat 108, Char.ofNat 101, Char.ofNat 100, Char.ofNat 103, Char.ofNat 101, Char.ofNat 114, Char.ofNat 47, Char.ofNat 102, Char.ofNat 111, Char.ofNat 114, Char.ofNat 107, Char.ofNat 108, Char.ofNat 101, Char.ofNat 100, Char.ofNat 103, Char.ofNat 101, Char.ofNat 114, Char.ofNat 108, Char.ofNat 97, Char.ofNat 119, Char.ofNat 49, Char.ofNat 54, Char.ofNat 46, Char.ofNat 65, Char.ofNat 103, Char.ofNat 114, Char.ofNat 101, Char.ofNat 101, Char.ofNat 109, Char.ofNat 101, Char.ofNat 110, Char.ofNat 116, Char.ofNat 65, Char.ofNat 108, Char.ofNat 108, Char.ofNat 111, Char.ofNat 119, Char.ofNat 101, Char.ofNat 100, Char.ofNat 32, Char.ofNat 102, Char.ofNat 111, Char.ofNat 114, Char.ofNat 107, Char.ofNat 108, Char.ofNat 101, Char.ofNat 100, Char.ofNat 103, Char.ofNat 101, Char.ofNat 114, Char.ofNat 47, Char.ofNat 102, Char.ofNat 111, Char.ofNat 114, Char.ofNat 107, Char.ofNat 108, Char.ofNat 101, Char.ofNat 100, Char.ofNat 103, Char.ofNat 101, Char.ofNat 114, Char.ofNat 108, Char.ofNat 97, Char.ofNat 119, Char.ofNat 49, Char.ofNat 54, Char.ofNat 46, Char.ofNat 65, Char.ofNat 103, Char.ofNat 114, Char.ofNat 101, Char.ofNat 101, Char.ofNat 109, Char.ofNat 101, Char.ofNat 110, Char.ofNat 116, Char.ofNat 72, Char.ofNat 111, Char.ofNat 110, Char.ofNat 101, Char.ofNat 115, Char.ofNat 116, Char.ofNat 32, Char.ofNat 102, Char.ofNat 111, Char.ofNat 114, Char.ofNat 107, Char.ofNat 108, Char.ofNat 101, Char.ofNat 100, Char.ofNat 103, Char.ofNat 101, Char.ofNat 114, Char.ofNat 47, Char.ofNat 102, Char.ofNat 111, Char.ofNat 114, Char.ofNat 107, Char.ofNat 108, Char.ofNat 101, Char.ofNat 100, Char.ofNat 103, Char.ofNat 101, Char.ofNat 114, Char.ofNat 108, Char.ofNat 97, Char.ofNat 119, Char.ofNat 49, Char.ofNat 55, Char.ofNat 46, Char.ofNat 83, Char.ofNat 117, Char.ofNat 112, Char.ofNat 101, Char.ofNat 114, Char.ofNat 98, Char.ofNat 108, Char.ofNat 111, Char.ofNat 99, Char.ofNat 107, Char.ofNat 70, Char.ofNat 105, Char.ofNat 114, Char.ofNat 115, Char.ofNat 116]
theorem order_text : Tryz.prog.initOrder = String.ofList ([Char.ofNat 104, Char.ofNat 97, Char.ofNat 114, Char.ofNat 110, Char.ofNat 101, Char.ofNat 115, Char.ofNat 115] ++ Char.ofNat 32 :: ([Char.ofNat 53, Char.ofNat 102, Char.ofNat 97, Char.ofNat 53, Char.ofNat 57, Char.ofNat 54, Char.ofNat 52, Char.ofNat 55, Char.ofNat 57, Char.ofNat 52, Char.ofNat 97, Char.ofNat 100, Char.ofNat 54, Char.ofNat 55, Char.ofNat 102, Char.ofNat 53, Char.ofNat 50, Char.ofNat 49, Char.ofNat 51, Char.ofNat 102, Char.ofNat 99, Char.ofNat 102, Char.ofNat 54, Char.ofNat 57, Char.ofNat 99, Char.ofNat 99, Char.ofNat 101, Char.ofNat 102, Char.ofNat 102, Char.ofNat 99, Char.ofNat 49, Char.ofNat 49, Char.ofNat 97, Char.ofNat 50, Char.ofNat 98, Char.ofNat 53, Char.ofNat 99, Char.ofNat 48, Char.ofNat 54, Char.ofNat 54, Char.ofNat 52, Char.ofNat 98, Char.ofNat 57, Char.ofNat 57, Char.ofNat 56, Char.ofNat 57, Char.ofNat 55, Char.ofNat 102, Char.ofNat 98, Char.ofNat 49, Char.ofNat 98, Char.ofNat 99, Char.ofNat 99, Char.ofNat 100, Char.ofNat 48, Char.ofNat 55, Char.ofNat 52, Char.ofNat 50, Char.ofNat 102, Char.ofNat 49, Char.ofNat 51, Char.ofNat 48, Char.ofNat 48, Char.ofNat 48] ++ Char.ofNat 32 :: ([Char.ofNat 99, Char.ofNat 117, Char.ofNat 116] ++ Char.ofNat 32 :: headRest))) := by kernel_rfl
theorem order_words : behindMainWord (wordsSigns Tryz.prog.initOrder.toList) = [Char.ofNat 99, Char.ofNat 117, Char.ofNat 116] :: wordsSigns headRest := by
 rw [order_text, String.toList_ofList, words_word _ (by decide), words_word _ (by decide), words_word _ (by decide)]; generalize wordsSigns headRest = r; rfl
theorem strip_cut (r : List (List Char)) : stripLifts liftWords ([Char.ofNat 99, Char.ofNat 117, Char.ofNat 116] :: r) = ([], [Char.ofNat 99, Char.ofNat 117, Char.ofNat 116] :: r) := by
 simp only [liftWords, stripLifts]; rfl
theorem fact_later : Tryz.prog.laysLater = false := by kernel_rfl
theorem fact_reflect : Tryz.prog.bearsReflect = false := by kernel_rfl
theorem fact_door : Tryz.prog.doorFits [] = true := by kernel_rfl
theorem enter_of {P : Program} {r : List (List Char)} (h : behindMainWord (wordsSigns P.initOrder.toList) = [Char.ofNat 99, Char.ofNat 117, Char.ofNat 116] :: r) (h1 : P.laysLater = false) (h2 : P.bearsReflect = false) (h3 : P.doorFits [] = true) : P.mayEnter = true := by
 unfold Program.mayEnter; rw [h]; simp only [strip_cut, h1, h2, h3]; rfl
theorem headLifts_of {P : Program} {r : List (List Char)} (h : behindMainWord (wordsSigns P.initOrder.toList) = [Char.ofNat 99, Char.ofNat 117, Char.ofNat 116] :: r) : P.headLifts = [] := by
 unfold Program.headLifts; rw [h, strip_cut]; rfl
theorem lifts_of {P : Program} {r : List (List Char)} (h : behindMainWord (wordsSigns P.initOrder.toList) = [Char.ofNat 99, Char.ofNat 117, Char.ofNat 116] :: r) : P.liftsFinal = false := by
 unfold Program.liftsFinal; rw [h, headLifts_of h]; rfl
theorem make_of {P : Program} {r : List (List Char)} (h : behindMainWord (wordsSigns P.initOrder.toList) = [Char.ofNat 99, Char.ofNat 117, Char.ofNat 116] :: r) : P.make = some .cut := by
 unfold Program.make; rw [h]; rfl
theorem fact_enter : Tryz.prog.mayEnter = true := enter_of order_words fact_later fact_reflect fact_door
theorem fact_lifts : Tryz.prog.liftsFinal = false := lifts_of order_words
theorem fact_make : Tryz.prog.make = some .cut := make_of order_words
theorem fact_laid : laidOutB Tryz.prog = true := by kernel_rfl
theorem fact_rowed : mapsRowed Tryz.prog = true := by kernel_rfl
theorem fact_heard : Tryz.prog.stopsHeard = true := by kernel_rfl
theorem fact_keys : Tryz.prog.plainKeys = false := by kernel_rfl
theorem fact_stops : Tryz.prog.stops = [] := by kernel_rfl
theorem fact_knobs : Tryz.prog.stopKnobs = [] := by kernel_rfl
end Go.Proofs.YtdknjfmjddlphaaGreat
/-
  What accept.Outcomes and accept.Decided compute. No walk.
-/
set_option linter.unusedSimpArgs false
set_option linter.unusedVariables false
namespace Go.Proofs.YtdknjfmjddlphaaGreat
open Go Go.Fk
/-- the votes of a slot -/
def own_f (slot : Int) (l : List Vt) : List Vt := l.filter fun x => decide (x.slot = slot) && decide (x.kind ≤ 4)
/-- what a Precommit is for -/
def ocOf (slot : Int) (v : Vt) : Oc := ⟨slot, v.round, v.choice, v.value⟩
def pcm (v : Vt) : Bool := decide (v.kind = 4) && !decide (v.choice = 2)
def byStep (slot : Int) (l : List (Oc × Int)) (v : Vt) : List (Oc × Int) := bif pcm v then mput l (ocOf slot v) (ior (mget l (ocOf slot v)) (ishl 1 v.signer)) else l
def by_f (slot : Int) (A : List Vt) : List (Oc × Int) := A.foldl (byStep slot) []
/-- the code's order of outcomes -/
def before_f (a b : Oc) : Bool := bif !decide (a.round = b.round) then decide (a.round < b.round) else (bif !decide (a.choice = b.choice) then decide (a.choice < b.choice) else hashLess_f a.value b.value)
def ockey (o : Oc) : List Int := [o.slot, o.round, o.choice, num o.value]
/-- the order of outcomes, the slot first -/
def ocLess (a b : Oc) : Bool := lexl (ockey a) (ockey b)
def outP (m : Int) (p : Oc × Int) : Bool := decide (quorum_f (size_f m) ≤ size_f p.2)
def outcomes_f (m : Int) (parent : Nm) (l : List Vt) (slot : Int) : List Oc := sorted ocLess (((by_f slot (accepted_f m parent (own_f slot l))).filter (outP m)).map Prod.fst)
theorem oc_lin : Lin ocLess := Lin.of_key ockey 4 (fun _ => rfl) (fun x y h => by
  simp only [ockey, List.cons.injEq, and_true] at h
  exact (Oc.ext_iff' x y).2 ⟨h.1, h.2.1, h.2.2.1, num_inj h.2.2.2⟩) (fun _ _ => rfl)
theorem before_key (a b : Oc) : before_f a b = lexl [a.round, a.choice, num a.value] [b.round, b.choice, num b.value] := by
 unfold before_f; rw [hashLess_eq]; simp only [lexl]; by_cases h1 : a.round = b.round
 ·by_cases h2 : a.choice = b.choice
  ·by_cases h3 : num a.value = num b.value
   ·simp [h1, h2, h3]
   ·simp [h1, h2, h3]
  ·simp [h1, h2]
 ·simp [h1]
theorem before_swo : Go.Sort.SWO before_f where
  irrefl x := by rw [before_key]; exact lexl_irrefl _
  trans x y z h1 h2 := by rw [before_key] at h1 h2 ⊢; exact lexl_trans _ _ _ h1 h2
  ntrans x y z h1 h2 := by
    rw [before_key] at h1 h2 ⊢
    cases hc : lexl [x.round, x.choice, num x.value] [z.round, z.choice, num z.value] with
    | false => rfl
    | true =>
      cases h3 : lexl [y.round, y.choice, num y.value] [x.round, x.choice, num x.value] with
      | true => have := lexl_trans _ _ _ h3 hc; rw [h2] at this; cases this
      | false =>
        have := lexl_total [x.round, x.choice, num x.value] [y.round, y.choice, num y.value] (by simp) h1 h3
        rw [this, h2] at hc; cases hc
theorem before_same {a b : Oc} (h : a.slot = b.slot) : ocLess a b = before_f a b := by
 rw [before_key]; unfold ocLess ockey; simp [lexl, h]
/-- sorted by the code's order, in one slot: the sorted list -/
theorem oc_sorted {l M : List Oc} {slot : Int} (hp : l.Perm M) (hM : M.Nodup) (hs : ∀ o ∈ M, o.slot = slot) (ho : ∀ i j, i < j → j < l.length → before_f l[j]! l[i]! = false) : l = sorted ocLess M := by
 have hn : l.Nodup := hp.nodup_iff.2 hM; refine Asc.unique oc_lin ?_ (sorted_asc oc_lin M) fun z => by rw [sorted_mem]; exact hp.mem_iff
 unfold Asc; rw [List.pairwise_iff_getElem]; intro i j hi hj hij; have h1 := ho i j hij hj; rw [getElem!_pos l i hi, getElem!_pos l j hj] at h1; have hsl : l[i].slot = l[j].slot := (hs _ (hp.mem_iff.1 (List.getElem_mem hi))).trans (hs _ (hp.mem_iff.1 (List.getElem_mem hj))).symm; rw [← before_same hsl.symm] at h1; cases h2 : ocLess l[i] l[j] with
 | true => rfl
 | false =>
  have := oc_lin.total _ _ h2 h1
  have := (List.getElem_inj hn).1 this
  omega
theorem by_keys (slot : Int) : ∀ (A : List Vt) (l : List (Oc × Int)), (l.map Prod.fst).Nodup → (∀ p ∈ l, p.1.slot = slot) → ((A.foldl (byStep slot) l).map Prod.fst).Nodup ∧ ∀ p ∈ A.foldl (byStep slot) l, p.1.slot = slot
  | [], l, h1, h2 => ⟨h1, h2⟩
  | v :: t, l, h1, h2 => by
    rw [List.foldl_cons]
    have key : ((byStep slot l v).map Prod.fst).Nodup ∧ ∀ p ∈ byStep slot l v, p.1.slot = slot := by
      unfold byStep
      cases pcm v with
      | false => exact ⟨h1, h2⟩
      | true =>
        refine ⟨mput_nodup h1, fun p hp => ?_⟩
        rcases mput_mem.1 hp with rfl | ⟨_, hp⟩
        · rfl
        · exact h2 p hp
    exact by_keys slot t _ key.1 key.2
theorem byStep_len (slot : Int) (l : List (Oc × Int)) (v : Vt) : (byStep slot l v).length ≤ l.length + 1 := by
 unfold byStep; cases pcm v
 ·simp
 ·exact mput_len
theorem by_len (slot : Int) : ∀ (A : List Vt) (l : List (Oc × Int)), (A.foldl (byStep slot) l).length ≤ l.length + A.length
  | [], l => by simp
  | v :: t, l => by
    have h1 := byStep_len slot l v
    have h2 := by_len slot t (byStep slot l v)
    rw [List.foldl_cons, List.length_cons]; omega
theorem acc_sig (m : Int) (parent : Nm) (l : List Vt) (k : Nat) (h : k < (accepted_f m parent l).length) : has_f m (accepted_f m parent l)[k]!.signer = true ∧ 0 ≤ (accepted_f m parent l)[k]!.signer ∧ (accepted_f m parent l)[k]!.signer ≤ 9 := by
 have hm : (accepted_f m parent l)[k]! ∈ accepted_f m parent l := by rw [getElem!_pos _ k h]; exact List.getElem_mem h
 have hg := allowed_guard (acc_mem_allowed hm); exact ⟨hg.2.2.1, (valid_bounds hg.1).2.1⟩
theorem by_yes {slot : Int} {A : List Vt} {k : Nat} (hk : k < A.length) (h : (decide (A[k]!.kind = 4) && !decide (A[k]!.choice = 2)) = true) :
    mput (by_f slot (A.take k)) (⟨slot, A[k]!.round, A[k]!.choice, A[k]!.value⟩ : Oc) (ior (mget (by_f slot (A.take k)) (⟨slot, A[k]!.round, A[k]!.choice, A[k]!.value⟩ : Oc)) (ishl 1 A[k]!.signer)) = by_f slot (A.take (k + 1)) := by
  unfold by_f
  rw [fold_go hk]
  conv => rhs; unfold byStep pcm
  rw [h]; rfl
theorem by_no {slot : Int} {A : List Vt} {k : Nat} (hk : k < A.length) (h : (decide (A[k]!.kind = 4) && !decide (A[k]!.choice = 2)) = false) : by_f slot (A.take k) = by_f slot (A.take (k + 1)) := by
 unfold by_f; rw [fold_go hk]; conv => rhs; unfold byStep pcm
 rw [h]; rfl
theorem outs_yes {K : Type} {keep : K × Int → Bool} {done : List (K × Int)} {p : K × Int} (h : keep p = true) : (done.filter keep).map Prod.fst ++ [p.1] = ((done ++ [p]).filter keep).map Prod.fst := by
 rw [List.filter_append, List.map_append, List.filter_cons, if_pos h]; rfl
theorem outs_no {K : Type} {keep : K × Int → Bool} {done : List (K × Int)} {p : K × Int} (h : keep p = false) : (done.filter keep).map Prod.fst = ((done ++ [p]).filter keep).map Prod.fst := by
 rw [List.filter_append, List.map_append, List.filter_cons, if_neg (by rw [h]; simp)]; simp
theorem outcomes_eq {m slot : Int} {A : List Vt} {done : List (Oc × Int)} {ls : List Oc} (hd : done.Perm (by_f slot A)) (hl : ls.Perm ((done.filter (outP m)).map Prod.fst)) (ho : ∀ i j, i < j → j < ls.length → before_f ls[j]! ls[i]! = false) : ls = sorted ocLess (((by_f slot A).filter (outP m)).map Prod.fst) := by
 have hk := by_keys slot A [] (by simp) (by simp); refine oc_sorted (slot := slot) (hl.trans ((hd.filter _).map _)) ((List.Sublist.map _ List.filter_sublist).nodup hk.1) (fun o ho => ?_) ho; obtain ⟨p, hp, rfl⟩ := List.mem_map.1 ho; exact hk.2 p (List.mem_filter.1 hp).1
end Go.Proofs.YtdknjfmjddlphaaGreat
/-
  Layer 12: outcomes and accepted votes as sets: slots apart, more votes, who decides. No walk.
-/
set_option linter.unusedSimpArgs false
set_option linter.unusedVariables false
namespace Go.Proofs.YtdknjfmjddlphaaGreat
open Go Go.Fk
end Go.Proofs.YtdknjfmjddlphaaGreat
/-
  Contracts of functions of the program, each with its walk in the logic of frames. Printed by a program of this session (wip/gen) from the translation.
-/
set_option linter.unusedSimpArgs false
set_option linter.unusedVariables false
namespace Go.Proofs.YtdknjfmjddlphaaGreat
open Go Go.Fk
set_option maxRecDepth 100000 in
theorem before_ok {a : Oc} {b : Oc}  {w : World}  : Gives Tryz.prog 64 #[(Enc.val (a : Oc)), (Enc.val (b : Oc))] w fun u w' => u = (.bool (before_f a b)) ∧ Ext w w' := by
 have hE : Ext w w := Ext.refl w; refine gives_of_W Tryz.func64 rfl Tryz.ntmps64 rfl ?_; refine W.seq ?_; refine W.region (by rfl) ?_; refine L.step rfl (op_box (cs := (Enc.cells (a : Oc))) rfl rfl rfl) ?_; rintro _ w1 ⟨b1, rfl, hb1, hB1, hx1⟩; have hE := hE.trans hx1; refine L.step rfl (op_box (cs := (Enc.cells (b : Oc))) rfl rfl rfl) ?_; rintro _ w2 ⟨b2, rfl, hb2, hB2, hx2⟩; have hE := hE.trans hx2; have hB1 := hB1.ext hx2; refine L.val (v := (.bool false)) rfl (op_assign rfl rfl) ?_; refine L.nil ?_; refine thenF_nor ?_; refine W.seq ?_; refine W.block ?_; refine W.seq ?_; refine W.region (by rfl) ?_; refine L.val rfl (op_field rfl rfl fo34_1 rfl) ?_; refine L.val rfl (op_load1 rfl rfl one3 (hB1.cells.one (n := 1) rfl)) ?_; refine L.val rfl (op_field rfl rfl fo34_1 rfl) ?_; refine L.val rfl (op_load1 rfl rfl one3 (hB2.cells.one (n := 1) rfl)) ?_; refine L.val rfl (op_neq rfl rfl rfl) ?_; refine L.val rfl (op_assign rfl rfl) ?_; refine L.nil ?_; refine thenF_nor ?_; refine W.cond (t := !decide (a.round = b.round)) rfl (fun hc3 => ?_) (fun hc3 => ?_)
 ·have hp3 := hc3; simp only [Bool.and_eq_true, Bool.or_eq_true, Bool.and_eq_false_iff, Bool.or_eq_false_iff, Bool.not_eq_true', Bool.not_eq_false', decide_eq_true_eq, decide_eq_false_iff_not] at hp3; refine W.seq ?_; refine W.region (by rfl) ?_; refine L.val rfl (op_field rfl rfl fo34_1 rfl) ?_; refine L.val rfl (op_load1 rfl rfl one3 (hB1.cells.one (n := 1) rfl)) ?_; refine L.val rfl (op_field rfl rfl fo34_1 rfl) ?_; refine L.val rfl (op_load1 rfl rfl one3 (hB2.cells.one (n := 1) rfl)) ?_; refine L.val rfl (op_lss rfl rfl rfl) ?_; refine L.val rfl (op_assign rfl rfl) ?_; refine L.nil ?_; refine thenF_nor ?_; refine W.ret ?_; refine blockF_ret ?_; refine thenF_ret ?_; exact end_ret1 (v := (.bool (decide (a.round < b.round)))) rfl rfl ⟨(by simp only [before_f, hc3, cond_true]), hE⟩
 ·have hp3 := hc3; simp only [Bool.and_eq_true, Bool.or_eq_true, Bool.and_eq_false_iff, Bool.or_eq_false_iff, Bool.not_eq_true', Bool.not_eq_false', decide_eq_true_eq, decide_eq_false_iff_not] at hp3; refine W.seq ?_; refine W.region (by rfl) ?_; refine L.val rfl (op_field rfl rfl fo34_2 rfl) ?_; refine L.val rfl (op_load1 rfl rfl one3 (hB1.cells.one (n := 2) rfl)) ?_; refine L.val rfl (op_field rfl rfl fo34_2 rfl) ?_; refine L.val rfl (op_load1 rfl rfl one3 (hB2.cells.one (n := 2) rfl)) ?_; refine L.val rfl (op_neq rfl rfl rfl) ?_; refine L.val rfl (op_assign rfl rfl) ?_; refine L.nil ?_; refine thenF_nor ?_; refine W.cond (t := !decide (a.choice = b.choice)) rfl (fun hc4 => ?_) (fun hc4 => ?_)
  ·have hp4 := hc4; simp only [Bool.and_eq_true, Bool.or_eq_true, Bool.and_eq_false_iff, Bool.or_eq_false_iff, Bool.not_eq_true', Bool.not_eq_false', decide_eq_true_eq, decide_eq_false_iff_not] at hp4; refine W.seq ?_; refine W.region (by rfl) ?_; refine L.val rfl (op_field rfl rfl fo34_2 rfl) ?_; refine L.val rfl (op_load1 rfl rfl one3 (hB1.cells.one (n := 2) rfl)) ?_; refine L.val rfl (op_field rfl rfl fo34_2 rfl) ?_; refine L.val rfl (op_load1 rfl rfl one3 (hB2.cells.one (n := 2) rfl)) ?_; refine L.val rfl (op_lss rfl rfl rfl) ?_; refine L.val rfl (op_assign rfl rfl) ?_; refine L.nil ?_; refine thenF_nor ?_; refine W.ret ?_; refine blockF_ret ?_; refine thenF_ret ?_; exact end_ret1 (v := (.bool (decide (a.choice < b.choice)))) rfl rfl ⟨(by simp only [before_f, hc3, hc4, cond_true, cond_false]), hE⟩
  ·have hp4 := hc4; simp only [Bool.and_eq_true, Bool.or_eq_true, Bool.and_eq_false_iff, Bool.or_eq_false_iff, Bool.not_eq_true', Bool.not_eq_false', decide_eq_true_eq, decide_eq_false_iff_not] at hp4; refine W.skip ?_; refine blockF_nor ?_; refine thenF_nor ?_; refine W.seq ?_; refine W.region (by rfl) ?_; refine L.val rfl (op_field rfl rfl fo34_3 rfl) ?_; refine L.val rfl (op_load (v := (a.value : Nm)) rfl rfl ty24 (sub_nm 3 hB1.cells rfl)) ?_; refine L.val rfl (op_field rfl rfl fo34_3 rfl) ?_; refine L.val rfl (op_load (v := (b.value : Nm)) rfl rfl ty24 (sub_nm 3 hB2.cells rfl)) ?_; refine L.call (v := (.bool (hashLess_f a.value b.value))) rfl (OpS.call (op_call rfl (argsC rfl (argsC rfl argsN)) Tryz.func93 rfl rfl) hashLess_ok) ?_; intro w5 hx5; have hE := hE.trans hx5; refine L.val rfl (op_assign rfl rfl) ?_; refine L.nil ?_; refine thenF_nor ?_; refine W.ret ?_; exact end_ret1 (v := (.bool (hashLess_f a.value b.value))) rfl rfl ⟨(by simp only [before_f, hc3, hc4, cond_false]), hE⟩
set_option maxRecDepth 100000 in
theorem outcomes1_ok {i : Nat} {j : Nat} {q_l : Addr} {A_l : Option Addr} {c_l lo_l hi_l : Nat} {l : List Oc}  {w : World} (hq_l : Cells w q_l [.slice A_l l.length c_l]) (hR_l : Rd w lo_l hi_l A_l l) (hi : i < l.length) (hj : j < l.length) : Gives Tryz.prog 63 #[(.int .i64 ((i : Nat) : Int)), (.int .i64 ((j : Nat) : Int)), (.pointer (some q_l))] w fun u w' => u = (.bool (before_f l[i]! l[j]!)) ∧ Ext w w' := by
 have hE : Ext w w := Ext.refl w; have hlen_l := hR_l.len; refine gives_of_W Tryz.func63 rfl Tryz.ntmps63 rfl ?_; refine W.seq ?_; refine W.region (by rfl) ?_; refine L.val (v := (.bool false)) rfl (op_assign rfl rfl) ?_; refine L.nil ?_; refine thenF_nor ?_; refine W.seq ?_; refine W.drawS [Sp.eq (.slice A_l l.length c_l), Sp.eq (.int .i64 ((i : Nat) : Int)), Sp.eq (.pointer (some ((adr A_l).add (i * 11)))), Sp.eq (Enc.val (l[i]! : Oc)), Sp.eq (.slice A_l l.length c_l), Sp.eq (.int .i64 ((j : Nat) : Int)), Sp.eq (.pointer (some ((adr A_l).add (j * 11)))), Sp.eq (Enc.val (l[j]! : Oc)), Sp.eq (.bool (before_f (l[i]!) (l[j]!))), Sp.eq (.bool (before_f (l[i]!) (l[j]!)))] mixed (by rfl) (Obls.cons ?_ (Obls.cons ?_ (Obls.cons ?_ (Obls.cons ?_ (Obls.cons ?_ (Obls.cons ?_ (Obls.cons ?_ (Obls.cons ?_ (Obls.cons ?_ (Obls.cons ?_ Obls.nil)))))))))) ?_
 ·intro f2 w2 hx2 ho2 hd2; have d2_s2 : f2 2 = (.pointer (some q_l)) := ho2 2 rfl; have hq_l := hq_l.ext hx2; exact D.val rfl (op_load1 rfl d2_s2 one38 (hq_l.one (n := 0) rfl))
 ·intro f3 w3 hx3 ho3 hd3; have d3_s0 : f3 0 = (.int .i64 ((i : Nat) : Int)) := ho3 0 rfl; exact D.val rfl (op_move rfl d3_s0)
 ·intro f4 w4 hx4 ho4 hd4; have d4_0 : f4 6 = (.slice A_l l.length c_l) := hd4 0 rfl; have d4_1 : f4 7 = (.int .i64 ((i : Nat) : Int)) := hd4 1 rfl; have hR_l := hR_l.ext hx4; skip; exact D.val rfl (op_index (k := i) rfl d4_0 d4_1 sl38 (hR_l.getA (get_bang (l := l) (k := i) (by omega))).1 rfl (by omega) rfl)
 ·intro f5 w5 hx5 ho5 hd5; have d5_2 : f5 8 = (.pointer (some ((adr A_l).add (i * 11)))) := hd5 2 rfl; have hR_l := hR_l.ext hx5; skip; exact D.val rfl (op_load (v := (l[i]! : Oc)) rfl d5_2 ty34 (hR_l.getA (get_bang (l := l) (k := i) (by omega))).2)
 ·intro f6 w6 hx6 ho6 hd6; have d6_s2 : f6 2 = (.pointer (some q_l)) := ho6 2 rfl; have hq_l := hq_l.ext hx6; exact D.val rfl (op_load1 rfl d6_s2 one38 (hq_l.one (n := 0) rfl))
 ·intro f7 w7 hx7 ho7 hd7; have d7_s1 : f7 1 = (.int .i64 ((j : Nat) : Int)) := ho7 1 rfl; exact D.val rfl (op_move rfl d7_s1)
 ·intro f8 w8 hx8 ho8 hd8; have d8_4 : f8 10 = (.slice A_l l.length c_l) := hd8 4 rfl; have d8_5 : f8 11 = (.int .i64 ((j : Nat) : Int)) := hd8 5 rfl; have hR_l := hR_l.ext hx8; skip; exact D.val rfl (op_index (k := j) rfl d8_4 d8_5 sl38 (hR_l.getA (get_bang (l := l) (k := j) (by omega))).1 rfl (by omega) rfl)
 ·intro f9 w9 hx9 ho9 hd9; have d9_6 : f9 12 = (.pointer (some ((adr A_l).add (j * 11)))) := hd9 6 rfl; have hR_l := hR_l.ext hx9; skip; exact D.val rfl (op_load (v := (l[j]! : Oc)) rfl d9_6 ty34 (hR_l.getA (get_bang (l := l) (k := j) (by omega))).2)
 ·intro f10 w10 hx10 ho10 hd10; have d10_3 : f10 9 = (Enc.val (l[i]! : Oc)) := hd10 3 rfl; have d10_7 : f10 13 = (Enc.val (l[j]! : Oc)) := hd10 7 rfl; exact D.call (R := (Sp.eq (.bool (before_f (l[i]!) (l[j]!)))).p) rfl (OpS.call (op_call rfl (argsC d10_3 (argsC d10_7 argsN)) Tryz.func64 rfl rfl) before_ok)
 ·intro f11 w11 hx11 ho11 hd11; have d11_8 : f11 14 = (.bool (before_f (l[i]!) (l[j]!))) := hd11 8 rfl; exact D.val rfl (op_assign rfl d11_8)
 intro f12 w12 hx12 ho12 hr12; have s5 : f12 5 = (.bool (before_f (l[i]!) (l[j]!))) := hr12 9 (by decide); have hE := hE.trans hx12; refine thenF_nor ?_; refine W.ret ?_; exact end_ret1 (v := (.bool (before_f (l[i]!) (l[j]!)))) rfl s5 ⟨rfl, hE⟩
set_option maxRecDepth 100000 in
set_option maxHeartbeats 8000000 in
theorem Outcomes_ok {m : Int} {parent : Nm} {A_l : Option Addr} {c_l lo_l hi_l : Nat} {l : List Vt} {slot : Int}  {w : World} (hR_l : Rd w lo_l hi_l A_l l) (hl : l.length ≤ 1000000) : Gives Tryz.prog 28 #[(.int .i64 m), (Enc.val (parent : Nm)), (.slice A_l l.length c_l), (.int .i64 slot)] w fun u w' => SlR w' u (outcomes_f m parent l slot : List Oc) ∧ Ext w w' := by
 have hE : Ext w w := Ext.refl w; have hlen_l := hR_l.len; refine gives_of_W Tryz.func28 rfl Tryz.ntmps28 rfl ?_; have hsz0 := size_nn m; have hsz1 := size_le m; refine W.seq ?_; refine W.region (by rfl) ?_; refine L.step rfl (op_box (cs := (Enc.cells (parent : Nm))) rfl rfl rfl) ?_; rintro _ w1 ⟨b1, rfl, hb1, hB1, hx1⟩; have hE := hE.trans hx1; have hR_l := hR_l.ext hx1; refine L.val rfl (op_assign rfl rfl) ?_; refine L.nil ?_; refine thenF_nor ?_; refine W.seq ?_; refine W.region (by rfl) ?_; refine L.val rfl (op_assign rfl rfl) ?_; refine L.nil ?_; refine thenF_nor ?_; refine W.seq ?_; refine W.seq ?_; refine W.region (by rfl) ?_; refine L.val rfl (op_move rfl rfl) ?_; refine L.val rfl (op_len rfl rfl ln25) ?_; refine L.val rfl (op_move rfl rfl) ?_; refine L.nil ?_; refine thenF_nor ?_; refine W.block ?_; have S2_hR_l := hR_l; have S2_hB1 := hB1; have S2_hE := hE; have hS2 : Ext w1 w1 := Ext.refl _; refine W.loopg (γ := Nat) (fun (k : Nat) (f : Fr) (ww : World) => k ≤ l.length ∧ f 0 = (.int .i64 m) ∧ f 3 = (.int .i64 slot) ∧ f 5 = (.pointer (some ⟨b1, 0, none⟩)) ∧ f 8 = (.slice none 0 0) ∧ f 18 = (.slice A_l l.length c_l) ∧ f 19 = (.int .i64 (l.length : Int)) ∧ f 20 = (.int .i64 ((k : Nat) : Int)) ∧ Fk.Own ww w1.heap.size 47 (f 9) ((l.take k).filter (fun x => decide (x.slot = slot) && decide (x.kind ≤ 4))) ∧ Ext w1 ww) (fun (k : Nat) => l.length - k) 0 ⟨(by (try dsimp only); omega), rfl, rfl, rfl, rfl, rfl, rfl, rfl, (own_at (v := .slice none 0 0) rfl (Fk.Own.nil _ _ _)), hS2⟩ ?_; rintro k f3 w3 ⟨hk, s3_0, s3_3, s3_5, s3_8, s3_18, s3_19, s3_20, hO3_9, hS2⟩; have hR_l := S2_hR_l.ext hS2; have hB1 := S2_hB1.ext hS2; have hE := S2_hE.trans hS2; obtain ⟨v3_9, s3_9⟩ : ∃ v, f3 9 = v := ⟨_, rfl⟩; rw [s3_9] at hO3_9; have hfl := List.length_filter_le (fun x => decide (x.slot = slot) && decide (x.kind ≤ 4)) (l.take k); have htl := List.length_take_le' k l; refine W.seq ?_; refine W.region (by rfl) ?_; refine L.val rfl (op_lss rfl s3_20 s3_19) ?_; refine L.nil ?_; refine thenF_nor ?_; refine W.seq ?_; refine W.cond (t := decide (((k : Nat) : Int) < (l.length : Int))) rfl (fun hc4 => ?_) (fun hc4 => ?_)
 ·have hp4 := hc4; simp only [Bool.and_eq_true, Bool.or_eq_true, Bool.and_eq_false_iff, Bool.or_eq_false_iff, Bool.not_eq_true', Bool.not_eq_false', decide_eq_true_eq, decide_eq_false_iff_not] at hp4; refine W.skip ?_; refine thenF_nor ?_; refine W.seq ?_; refine W.block ?_; refine W.seq ?_; refine W.region (by rfl) ?_; refine L.val rfl (op_index (k := k) rfl s3_18 s3_20 sl25 (hR_l.getA (get_bang (l := l) (k := k) (by omega))).1 rfl (by omega) rfl) ?_; refine L.val rfl (op_load (v := (l[k]! : Vt)) rfl rfl ty47 (hR_l.getA (get_bang (l := l) (k := k) (by omega))).2) ?_; refine L.newvar (v := (Enc.val (l[k]! : Vt))) (cs := (Enc.cells (l[k]! : Vt))) rfl rfl rfl rfl rfl rfl (fun _ => rfl) rfl si47 zs47 (Enc.one _) ?_; intro b5 w5 hb5 hB5 hx5; have hbb5_hE := Nat.le_trans hE.size hb5; have hbb5_hS2 := Nat.le_trans hS2.size hb5; have hE := hE.trans hx5; have hS2 := hS2.trans hx5; have hO3_9 := hO3_9.ext hx5; refine L.nil ?_; refine thenF_nor ?_; refine W.seq ?_; refine W.region (by rfl) ?_; refine L.val rfl (op_field rfl rfl fo47_1 rfl) ?_; refine L.val rfl (op_load1 rfl rfl one3 (hB5.cells.one (n := 1) rfl)) ?_; refine L.val rfl (op_move rfl s3_3) ?_; refine L.val rfl (op_eql rfl rfl rfl) ?_; refine L.val rfl (op_move rfl rfl) ?_; refine L.guardv (v := (.pointer (some ⟨b5, 0, none⟩))) (wanted_yes rfl rfl rfl) (fun hg => (op_field rfl rfl fo47_0 rfl)) ?_; refine L.guardv (v := (.int .i64 ((l[k]!).kind))) (wanted_yes rfl rfl rfl) (fun hg => (op_load1 rfl ((show _ = vif _ (.pointer (some ⟨b5, 0, none⟩)) from rfl).trans (vif_t hg).symm) one3 (hB5.cells.one (n := 0) rfl))) ?_; refine L.guardv (v := (.bool (decide (((l[k]!).kind) ≤ 4)))) (wanted_yes rfl rfl rfl) (fun hg => (op_leq rfl ((show _ = vif _ (.int .i64 ((l[k]!).kind)) from rfl).trans (vif_t hg).symm) rfl)) ?_; refine L.val rfl (op_and rfl rfl rfl rfl) ?_; refine L.nil ?_; refine thenF_nor ?_; refine W.cond (t := (decide (((l[k]!).slot) = slot)) && (decide (((l[k]!).kind) ≤ 4))) rfl (fun hc6 => ?_) (fun hc6 => ?_)
  ·have hp6 := hc6; simp only [Bool.and_eq_true, Bool.or_eq_true, Bool.and_eq_false_iff, Bool.or_eq_false_iff, Bool.not_eq_true', Bool.not_eq_false', decide_eq_true_eq, decide_eq_false_iff_not] at hp6; have hstep := filter_yes (l := l) (p := (fun x => decide (x.slot = slot) && decide (x.kind ≤ 4))) (k := k) (by omega) hc6; refine W.region (by rfl) ?_; refine L.val rfl (op_move rfl s3_9) ?_; refine L.val rfl (op_load (v := (l[k]! : Vt)) rfl rfl ty47 hB5.cells) ?_; refine L.step rfl (op_slice1 (a := (l[k]! : Vt)) rfl rfl sl25 zs47 (by decide)) ?_; rintro _ w7 ⟨b7, rfl, hb7, hB7, hx7⟩; have hE := hE.trans hx7; have hS2 := hS2.trans hx7; have hO3_9 := hO3_9.ext hx7; refine L.step rfl (op_append (a := (l[k]! : Vt)) (ad := ⟨b7, 0, none⟩) rfl rfl rfl sl25 zs47 bt47 hO3_9 hB7.cells (by omega) (by decide) hS2.size) ?_; rintro v8 w8 ⟨hO8, hg8⟩; have hS2 := hS2.own hO3_9 hg8; have hE := S2_hE.trans hS2; refine L.val rfl (op_assign rfl rfl) ?_; refine L.nil ?_; refine blockF_nor ?_; refine thenF_nor ?_; refine W.region (by rfl) ?_; refine L.val rfl (op_add (c := ((k + 1 : Nat) : Int)) rfl s3_20 rfl (by omega) (by omega)) ?_; refine L.val rfl (op_move rfl rfl) ?_; refine L.nil ?_; refine thenF_nor ?_; exact ⟨k + 1, ⟨(by (try dsimp only); omega), s3_0, s3_3, s3_5, s3_8, s3_18, s3_19, rfl, (own_at (v := v8) rfl (by rw [← hstep]; exact hO8)), hS2⟩, (by (try dsimp only); omega)⟩
  ·have hp6 := hc6; simp only [Bool.and_eq_true, Bool.or_eq_true, Bool.and_eq_false_iff, Bool.or_eq_false_iff, Bool.not_eq_true', Bool.not_eq_false', decide_eq_true_eq, decide_eq_false_iff_not] at hp6; have hstep := filter_no (l := l) (p := (fun x => decide (x.slot = slot) && decide (x.kind ≤ 4))) (k := k) (by omega) hc6; refine W.skip ?_; refine blockF_nor ?_; refine thenF_nor ?_; refine W.region (by rfl) ?_; refine L.val rfl (op_add (c := ((k + 1 : Nat) : Int)) rfl s3_20 rfl (by omega) (by omega)) ?_; refine L.val rfl (op_move rfl rfl) ?_; refine L.nil ?_; refine thenF_nor ?_; exact ⟨k + 1, ⟨(by (try dsimp only); omega), s3_0, s3_3, s3_5, s3_8, s3_18, s3_19, rfl, (own_at (v := v3_9) s3_9 (by rw [← hstep]; exact hO3_9)), hS2⟩, (by (try dsimp only); omega)⟩
 ·have hp4 := hc4; simp only [Bool.and_eq_true, Bool.or_eq_true, Bool.and_eq_false_iff, Bool.or_eq_false_iff, Bool.not_eq_true', Bool.not_eq_false', decide_eq_true_eq, decide_eq_false_iff_not] at hp4; have hkl : k = l.length := by omega
  rw [hkl, List.take_length] at hO3_9; change Fk.Own _ _ _ _ (own_f slot l) at hO3_9; have hol : (own_f slot l).length ≤ l.length := List.length_filter_le _ _; have hal := acc_len m parent (own_f slot l); refine W.exit ?_; refine thenF_exit ?_; refine thenF_exit ?_; refine blockF_hit ?_; refine thenF_nor ?_; refine W.seq ?_; refine W.region (by rfl) ?_; refine L.step rfl (op_makeMap Oc rfl) ?_; rintro _ w9 ⟨b9, rfl, hb9, hM9, hx9⟩; have hbb9_hE := Nat.le_trans hE.size hb9; have hbb9_hS2 := Nat.le_trans hS2.size hb9; have hE := hE.trans hx9; have hS2 := hS2.trans hx9; have hB1 := hB1.ext hx9; have hO3_9 := hO3_9.ext hx9; refine L.val rfl (op_assign rfl rfl) ?_; refine L.nil ?_; refine thenF_nor ?_; refine W.seq ?_; refine W.seq ?_; obtain ⟨A10, c10, hv10, hR10, hcap10⟩ := (hO3_9).form; have hlen10 := hR10.len; refine W.region (by rfl) ?_; refine L.val rfl (op_move rfl s3_0) ?_; refine L.val rfl (op_load (v := (parent : Nm)) rfl s3_5 ty24 hB1.cells) ?_; refine L.val rfl (op_move rfl ((show _ = v3_9 from s3_9).trans hv10)) ?_; refine L.step rfl (OpS.call (op_call rfl (argsC rfl (argsC rfl (argsC rfl argsN))) Tryz.func25 rfl rfl) (Accepted_ok hR10 (by first | omega | (simp only [List.length_drop, List.length_take, List.length_append, List.length_cons, List.length_nil] at *; omega)))) ?_; rintro _ w11 ⟨⟨A11, c11, lo11, hi11, rfl, hcap11, hR11⟩, hx11⟩; have hE := hE.trans hx11; have hS2 := hS2.trans hx11; have hM9 := hM9.ext hx11; have hlen11 := hR11.len; refine L.val rfl (op_len rfl rfl ln25) ?_; refine L.val rfl (op_move rfl rfl) ?_; refine L.nil ?_; refine thenF_nor ?_; refine W.block ?_; have S12_hM9 := hM9; have S12_hR11 := hR11; have S12_hE := hE; have S12_hS2 := hS2; refine W.loopg (γ := Nat) (fun (k2 : Nat) (f : Fr) (ww : World) => k2 ≤ (accepted_f m parent (own_f slot l)).length ∧ f 0 = (.int .i64 m) ∧ f 3 = (.int .i64 slot) ∧ f 8 = (.slice none 0 0) ∧ f 42 = (.slice A11 (accepted_f m parent (own_f slot l)).length c11) ∧ f 43 = (.int .i64 ((accepted_f m parent (own_f slot l)).length : Int)) ∧ f 44 = (.int .i64 ((k2 : Nat) : Int)) ∧ f 12 = (.map (some b9)) ∧ Mp ww b9 (by_f slot ((accepted_f m parent (own_f slot l)).take k2) : List (Oc × Int)) ∧ w11.grownBy ww (some b9)) (fun (k2 : Nat) => (accepted_f m parent (own_f slot l)).length - k2) 0 ⟨(by (try dsimp only); omega), s3_0, s3_3, s3_8, rfl, rfl, rfl, rfl, hM9, (grown_refl _ _)⟩ ?_; rintro k2 f13 w13 ⟨hk2, s13_0, s13_3, s13_8, s13_42, s13_43, s13_44, s13_12, hM13_12, hT13⟩; have hnc13 := S12_hM9.nc; have hR11 := S12_hR11.farM hnc13 hT13; have hE := S12_hE.grown hT13 (by intro k hk; cases hk; exact hbb9_hE); have hS2 := S12_hS2.grown hT13 (by intro k hk; cases hk; exact hbb9_hS2); refine W.seq ?_; refine W.region (by rfl) ?_; refine L.val rfl (op_lss rfl s13_44 s13_43) ?_; refine L.nil ?_; refine thenF_nor ?_; refine W.seq ?_; refine W.cond (t := decide (((k2 : Nat) : Int) < ((accepted_f m parent (own_f slot l)).length : Int))) rfl (fun hc14 => ?_) (fun hc14 => ?_)
  ·have hp14 := hc14; simp only [Bool.and_eq_true, Bool.or_eq_true, Bool.and_eq_false_iff, Bool.or_eq_false_iff, Bool.not_eq_true', Bool.not_eq_false', decide_eq_true_eq, decide_eq_false_iff_not] at hp14; have hsb := (acc_sig m parent (own_f slot l) k2 (by omega)).2; refine W.skip ?_; refine thenF_nor ?_; refine W.seq ?_; refine W.block ?_; refine W.seq ?_; refine W.region (by rfl) ?_; refine L.val rfl (op_index (k := k2) rfl s13_42 s13_44 sl25 (hR11.getA (get_bang (l := accepted_f m parent (own_f slot l)) (k := k2) (by omega))).1 rfl (by omega) rfl) ?_; refine L.val rfl (op_load (v := (accepted_f m parent (own_f slot l))[k2]!) rfl rfl ty47 (hR11.getA (get_bang (l := accepted_f m parent (own_f slot l)) (k := k2) (by omega))).2) ?_; refine L.newvar (v := (Enc.val ((accepted_f m parent (own_f slot l))[k2]!))) (cs := (Enc.cells (accepted_f m parent (own_f slot l))[k2]!)) rfl rfl rfl rfl rfl rfl (fun _ => rfl) rfl si47 zs47 (Enc.one _) ?_; intro b15 w15 hb15 hB15 hx15; have hbb15_hE := Nat.le_trans hE.size hb15; have hbb15_hS2 := Nat.le_trans hS2.size hb15; have hbb15_hT13 := Nat.le_trans hT13.size hb15; have hE := hE.trans hx15; have hT13 := grown_ext hT13 hx15; have hM13_12 := hM13_12.ext hx15; refine L.nil ?_; refine thenF_nor ?_; refine W.seq ?_; refine W.region (by rfl) ?_; refine L.val rfl (op_field rfl rfl fo47_0 rfl) ?_; refine L.val rfl (op_load1 rfl rfl one3 (hB15.cells.one (n := 0) rfl)) ?_; refine L.val rfl (op_eql rfl rfl rfl) ?_; refine L.val rfl (op_move rfl rfl) ?_; refine L.guardv (v := (.pointer (some ⟨b15, 3, none⟩))) (wanted_yes rfl rfl rfl) (fun hg => (op_field rfl rfl fo47_3 rfl)) ?_; refine L.guardv (v := (.int .i64 (((accepted_f m parent (own_f slot l))[k2]!).choice))) (wanted_yes rfl rfl rfl) (fun hg => (op_load1 rfl ((show _ = vif _ (.pointer (some ⟨b15, 3, none⟩)) from rfl).trans (vif_t hg).symm) one3 (hB15.cells.one (n := 3) rfl))) ?_; refine L.guardv (v := (.bool (!decide ((((accepted_f m parent (own_f slot l))[k2]!).choice) = 2)))) (wanted_yes rfl rfl rfl) (fun hg => (op_neq rfl ((show _ = vif _ (.int .i64 (((accepted_f m parent (own_f slot l))[k2]!).choice)) from rfl).trans (vif_t hg).symm) rfl)) ?_; refine L.val rfl (op_and rfl rfl rfl rfl) ?_; refine L.nil ?_; refine thenF_nor ?_; refine W.cond (t := (decide ((((accepted_f m parent (own_f slot l))[k2]!).kind) = 4)) && (!decide ((((accepted_f m parent (own_f slot l))[k2]!).choice) = 2))) rfl (fun hc16 => ?_) (fun hc16 => ?_)
   ·have hp16 := hc16; simp only [Bool.and_eq_true, Bool.or_eq_true, Bool.and_eq_false_iff, Bool.or_eq_false_iff, Bool.not_eq_true', Bool.not_eq_false', decide_eq_true_eq, decide_eq_false_iff_not] at hp16; have hstep := by_yes (slot := slot) (A := (accepted_f m parent (own_f slot l))) (k := k2) (by omega) hc16; have hnc17 := hM13_12.nc; refine W.drawU (me := 14) (ex := 15) (es := 16) (l := by_f slot ((accepted_f m parent (own_f slot l)).take k2)) (a := ((⟨slot, ((accepted_f m parent (own_f slot l))[k2]!).round, ((accepted_f m parent (own_f slot l))[k2]!).choice, ((accepted_f m parent (own_f slot l))[k2]!).value⟩ : Oc) : Oc)) (v := ior (mget (by_f slot ((accepted_f m parent (own_f slot l)).take k2)) (⟨slot, ((accepted_f m parent (own_f slot l))[k2]!).round, ((accepted_f m parent (own_f slot l))[k2]!).choice, ((accepted_f m parent (own_f slot l))[k2]!).value⟩ : Oc)) (ishl 1 (((accepted_f m parent (own_f slot l))[k2]!).signer))) mp74 [(.map (some b9)), (.int .i64 slot), (.pointer (some ⟨b15, 2, none⟩)), (.int .i64 (((accepted_f m parent (own_f slot l))[k2]!).round)), (.pointer (some ⟨b15, 3, none⟩)), (.int .i64 (((accepted_f m parent (own_f slot l))[k2]!).choice)), (.pointer (some ⟨b15, 14, none⟩)), (Enc.val (((accepted_f m parent (own_f slot l))[k2]!).value)), (Enc.val (⟨slot, ((accepted_f m parent (own_f slot l))[k2]!).round, ((accepted_f m parent (own_f slot l))[k2]!).choice, ((accepted_f m parent (own_f slot l))[k2]!).value⟩ : Oc)), (.int .i64 (mget (by_f slot ((accepted_f m parent (own_f slot l)).take k2)) (⟨slot, ((accepted_f m parent (own_f slot l))[k2]!).round, ((accepted_f m parent (own_f slot l))[k2]!).choice, ((accepted_f m parent (own_f slot l))[k2]!).value⟩ : Oc))), (.pointer (some ⟨b15, 4, none⟩)), (.int .i64 (((accepted_f m parent (own_f slot l))[k2]!).signer)), (.int .i64 (ishl 1 (((accepted_f m parent (own_f slot l))[k2]!).signer))), (.int .i64 (ior (mget (by_f slot ((accepted_f m parent (own_f slot l)).take k2)) (⟨slot, ((accepted_f m parent (own_f slot l))[k2]!).round, ((accepted_f m parent (own_f slot l))[k2]!).choice, ((accepted_f m parent (own_f slot l))[k2]!).value⟩ : Oc)) (ishl 1 (((accepted_f m parent (own_f slot l))[k2]!).signer)))), undef, undef, undef] mixed (by rfl) hM13_12 ?_ rfl rfl rfl rfl rfl rfl rfl rfl rfl rfl rfl rfl (fun _ ho hd => ⟨hd 0 rfl rfl, hd 8 rfl rfl⟩) (fun _ ho hd => ⟨hd 0 rfl rfl, hd 13 rfl rfl⟩) ?_
    ·refine VObls.cons ?_ (VObls.cons ?_ (VObls.cons ?_ (VObls.cons ?_ (VObls.cons ?_ (VObls.cons ?_ (VObls.cons ?_ (VObls.cons ?_ (VObls.cons ?_ (VObls.cons ?_ (VObls.cons ?_ (VObls.cons ?_ (VObls.cons ?_ (VObls.cons ?_ (VObls.cons (fun h => nomatch h) (VObls.cons (fun h => nomatch h) (VObls.cons (fun h => nomatch h) VObls.nil))))))))))))))))
     ·intro _ f18 w18 hg18 ho18 hd18 hk18; have d18_s12 : f18 12 = (.map (some b9)) := (ho18 12 rfl).trans s13_12; exact ⟨rfl, (op_move rfl d18_s12), rfl⟩
     ·intro _ f19 w19 hg19 ho19 hd19 hk19; have d19_s3 : f19 3 = (.int .i64 slot) := (ho19 3 rfl).trans s13_3; exact ⟨rfl, (op_move rfl d19_s3), rfl⟩
     ·intro _ f20 w20 hg20 ho20 hd20 hk20; have d20_s14 : f20 14 = (.pointer (some ⟨b15, 0, none⟩)) := ho20 14 rfl; exact ⟨rfl, (op_field rfl d20_s14 fo47_2 rfl), rfl⟩
     ·intro _ f21 w21 hg21 ho21 hd21 hk21; have d21_2 : f21 58 = (.pointer (some ⟨b15, 2, none⟩)) := hd21 2 rfl rfl; have hB15 := hB15.farM hnc17 hg21; exact ⟨rfl, (op_load1 rfl d21_2 one3 (hB15.cells.one (n := 2) rfl)), rfl⟩
     ·intro _ f22 w22 hg22 ho22 hd22 hk22; have d22_s14 : f22 14 = (.pointer (some ⟨b15, 0, none⟩)) := ho22 14 rfl; exact ⟨rfl, (op_field rfl d22_s14 fo47_3 rfl), rfl⟩
     ·intro _ f23 w23 hg23 ho23 hd23 hk23; have d23_4 : f23 60 = (.pointer (some ⟨b15, 3, none⟩)) := hd23 4 rfl rfl; have hB15 := hB15.farM hnc17 hg23; exact ⟨rfl, (op_load1 rfl d23_4 one3 (hB15.cells.one (n := 3) rfl)), rfl⟩
     ·intro _ f24 w24 hg24 ho24 hd24 hk24; have d24_s14 : f24 14 = (.pointer (some ⟨b15, 0, none⟩)) := ho24 14 rfl; exact ⟨rfl, (op_field rfl d24_s14 fo47_7 rfl), rfl⟩
     ·intro _ f25 w25 hg25 ho25 hd25 hk25; have d25_6 : f25 62 = (.pointer (some ⟨b15, 14, none⟩)) := hd25 6 rfl rfl; have hB15 := hB15.farM hnc17 hg25; exact ⟨rfl, (op_load (v := (((accepted_f m parent (own_f slot l))[k2]!).value : Nm)) rfl d25_6 ty24 (sub_nm 14 hB15.cells rfl)), rfl⟩
     ·intro _ f26 w26 hg26 ho26 hd26 hk26; have d26_1 : f26 57 = (.int .i64 slot) := hd26 1 rfl rfl; have d26_3 : f26 59 = (.int .i64 (((accepted_f m parent (own_f slot l))[k2]!).round)) := hd26 3 rfl rfl; have d26_5 : f26 61 = (.int .i64 (((accepted_f m parent (own_f slot l))[k2]!).choice)) := hd26 5 rfl rfl; have d26_7 : f26 63 = (Enc.val (((accepted_f m parent (own_f slot l))[k2]!).value)) := hd26 7 rfl rfl; exact ⟨rfl, (op_build (v := Enc.val (⟨slot, ((accepted_f m parent (own_f slot l))[k2]!).round, ((accepted_f m parent (own_f slot l))[k2]!).choice, ((accepted_f m parent (own_f slot l))[k2]!).value⟩ : Oc)) (cs := Enc.cells (⟨slot, ((accepted_f m parent (own_f slot l))[k2]!).round, ((accepted_f m parent (own_f slot l))[k2]!).choice, ((accepted_f m parent (own_f slot l))[k2]!).value⟩ : Oc)) rfl (partsC d26_1 (partsC d26_3 (partsC d26_5 (partsC d26_7 partsN)))) (by kernel_rfl) rfl), rfl⟩
     ·intro _ f27 w27 hg27 ho27 hd27 hk27; have d27_0 : f27 56 = (.map (some b9)) := hd27 0 rfl rfl; have d27_8 : f27 64 = (Enc.val (⟨slot, ((accepted_f m parent (own_f slot l))[k2]!).round, ((accepted_f m parent (own_f slot l))[k2]!).choice, ((accepted_f m parent (own_f slot l))[k2]!).value⟩ : Oc)) := hd27 8 rfl rfl; obtain ⟨lq, hQ, hq⟩ := mu_read (a := ((⟨slot, ((accepted_f m parent (own_f slot l))[k2]!).round, ((accepted_f m parent (own_f slot l))[k2]!).choice, ((accepted_f m parent (own_f slot l))[k2]!).value⟩ : Oc) : Oc)) hM13_12.keys hk27 rfl; exact ⟨rfl, op_lookupQ (a := ((⟨slot, ((accepted_f m parent (own_f slot l))[k2]!).round, ((accepted_f m parent (own_f slot l))[k2]!).choice, ((accepted_f m parent (own_f slot l))[k2]!).value⟩ : Oc) : Oc)) mp74 rfl d27_0 d27_8 hQ hq, rfl⟩
     ·intro _ f28 w28 hg28 ho28 hd28 hk28; have d28_s14 : f28 14 = (.pointer (some ⟨b15, 0, none⟩)) := ho28 14 rfl; exact ⟨rfl, (op_field rfl d28_s14 fo47_4 rfl), rfl⟩
     ·intro _ f29 w29 hg29 ho29 hd29 hk29; have d29_10 : f29 66 = (.pointer (some ⟨b15, 4, none⟩)) := hd29 10 rfl rfl; have hB15 := hB15.farM hnc17 hg29; exact ⟨rfl, (op_load1 rfl d29_10 one3 (hB15.cells.one (n := 4) rfl)), rfl⟩
     ·intro _ f30 w30 hg30 ho30 hd30 hk30; have d30_11 : f30 67 = (.int .i64 (((accepted_f m parent (own_f slot l))[k2]!).signer)) := hd30 11 rfl rfl; skip; exact ⟨rfl, (op_shl rfl rfl d30_11 (by omega) (by omega)), rfl⟩
     ·intro _ f31 w31 hg31 ho31 hd31 hk31; have d31_9 : f31 65 = (.int .i64 (mget (by_f slot ((accepted_f m parent (own_f slot l)).take k2)) (⟨slot, ((accepted_f m parent (own_f slot l))[k2]!).round, ((accepted_f m parent (own_f slot l))[k2]!).choice, ((accepted_f m parent (own_f slot l))[k2]!).value⟩ : Oc))) := hd31 9 rfl rfl; have d31_12 : f31 68 = (.int .i64 (ishl 1 (((accepted_f m parent (own_f slot l))[k2]!).signer))) := hd31 12 rfl rfl; exact ⟨rfl, (op_ior rfl d31_9 d31_12), rfl⟩
    intro f32 w32 hg32 ho32 hr32 hM32; have s0 : f32 0 = (.int .i64 m) := (ho32 0 rfl).trans s13_0; have s3 : f32 3 = (.int .i64 slot) := (ho32 3 rfl).trans s13_3; have s8 : f32 8 = (.slice none 0 0) := (ho32 8 rfl).trans s13_8; have s12 : f32 12 = (.map (some b9)) := (ho32 12 rfl).trans s13_12; have s42 : f32 42 = (.slice A11 (accepted_f m parent (own_f slot l)).length c11) := (ho32 42 rfl).trans s13_42; have s43 : f32 43 = (.int .i64 ((accepted_f m parent (own_f slot l)).length : Int)) := (ho32 43 rfl).trans s13_43; have s44 : f32 44 = (.int .i64 ((k2 : Nat) : Int)) := (ho32 44 rfl).trans s13_44; have hE := hE.grown hg32 (by intro k hk; cases hk; exact hbb9_hE); have hT13 := grown_trans hT13 hg32; refine blockF_nor ?_; refine thenF_nor ?_; refine W.region (by rfl) ?_; refine L.val rfl (op_add (c := ((k2 + 1 : Nat) : Int)) rfl s44 rfl (by omega) (by omega)) ?_; refine L.val rfl (op_move rfl rfl) ?_; refine L.nil ?_; refine thenF_nor ?_; exact ⟨k2 + 1, ⟨(by (try dsimp only); omega), s0, s3, s8, s42, s43, rfl, s12, (by rw [← hstep]; exact hM32), hT13⟩, (by (try dsimp only); omega)⟩
   ·have hp16 := hc16; simp only [Bool.and_eq_true, Bool.or_eq_true, Bool.and_eq_false_iff, Bool.or_eq_false_iff, Bool.not_eq_true', Bool.not_eq_false', decide_eq_true_eq, decide_eq_false_iff_not] at hp16; have hstep := by_no (slot := slot) (A := (accepted_f m parent (own_f slot l))) (k := k2) (by omega) hc16; refine W.skip ?_; refine blockF_nor ?_; refine thenF_nor ?_; refine W.region (by rfl) ?_; refine L.val rfl (op_add (c := ((k2 + 1 : Nat) : Int)) rfl s13_44 rfl (by omega) (by omega)) ?_; refine L.val rfl (op_move rfl rfl) ?_; refine L.nil ?_; refine thenF_nor ?_; exact ⟨k2 + 1, ⟨(by (try dsimp only); omega), s13_0, s13_3, s13_8, s13_42, s13_43, rfl, s13_12, (by rw [← hstep]; exact hM13_12), hT13⟩, (by (try dsimp only); omega)⟩
  ·have hp14 := hc14; simp only [Bool.and_eq_true, Bool.or_eq_true, Bool.and_eq_false_iff, Bool.or_eq_false_iff, Bool.not_eq_true', Bool.not_eq_false', decide_eq_true_eq, decide_eq_false_iff_not] at hp14; have hkl2 : k2 = (accepted_f m parent (own_f slot l)).length := by omega
   rw [hkl2, List.take_length] at hM13_12; have hbl := by_len slot (accepted_f m parent (own_f slot l)) []; change (by_f slot (accepted_f m parent (own_f slot l))).length ≤ _ at hbl; simp only [List.length_nil, Nat.zero_add] at hbl; refine W.exit ?_; refine thenF_exit ?_; refine thenF_exit ?_; refine blockF_hit ?_; refine thenF_nor ?_; refine W.seq ?_; have S33_hE := hE; have S33_hS2 := hS2; have S33_hT13 := hT13; have hS33 : Ext w13 w13 := Ext.refl _; refine W.region (by rfl) ?_; refine L.step rfl (op_alloc (z := (.slice none 0 0)) (cs := [(.slice none 0 0)]) rfl (by kernel_rfl) rfl) ?_; rintro _ w34 ⟨b34, rfl, hb34, hB34, hx34⟩; have hbb34_hE := Nat.le_trans hE.size hb34; have hbb34_hS2 := Nat.le_trans hS2.size hb34; have hbb34_hT13 := Nat.le_trans hT13.size hb34; have hbb34_hS33 := Nat.le_trans hS33.size hb34; have hE := hE.trans hx34; have hS2 := hS2.trans hx34; have hT13 := grown_ext hT13 hx34; have hS33 := hS33.trans hx34; have hM13_12 := hM13_12.ext hx34; refine L.nil ?_; refine thenF_nor ?_; refine W.seq ?_; refine W.seq ?_; refine W.region (by rfl) ?_; refine L.val rfl (op_move rfl s13_12) ?_; refine L.step rfl (op_range rfl Tryz.underlying74 rfl hM13_12) ?_; rintro _ w35 ⟨b35, rfl, hb35, hG35, hx35⟩; have hbb35_hE := Nat.le_trans hE.size hb35; have hbb35_hS2 := Nat.le_trans hS2.size hb35; have hbb35_hT13 := Nat.le_trans hT13.size hb35; have hbb35_hS33 := Nat.le_trans hS33.size hb35; have hE := hE.trans hx35; have hS33 := hS33.trans hx35; have hB34 := hB34.ext hx35; refine L.nil ?_; refine thenF_nor ?_; refine W.block ?_; refine W.loopg (γ := List (Oc × Int)) (fun (done : List (Oc × Int)) (f : Fr) (ww : World) => f 0 = (.int .i64 m) ∧ f 8 = (.slice none 0 0) ∧ f 15 = (.pointer (some ⟨b34, 0, none⟩)) ∧ (∃ vv, Box ww b34 38 [vv] ∧ Fk.Own ww (b34 + 1) 34 vv ((done.filter (outP m)).map Prod.fst)) ∧ f 74 = (.pointer (some ⟨b35, 0, none⟩)) ∧ Rg ww b9 b35 (by_f slot (accepted_f m parent (own_f slot l))) done ∧ Ext w13 ww) (fun (done : List (Oc × Int)) => (by_f slot (accepted_f m parent (own_f slot l))).length - done.length) ([] : List (Oc × Int)) ⟨s13_0, s13_8, rfl, ⟨_, hB34, Fk.Own.nil _ _ _⟩, rfl, hG35, hS33⟩ ?_; rintro done f36 w36 ⟨s36_0, s36_8, s36_15, hM36_15, s36_74, hG36_74, hS33⟩; have hE := S33_hE.trans hS33; have hS2 := S33_hS2.trans hS33; have hT13 := grown_ext S33_hT13 hS33; obtain ⟨v36_15, hB36_15, hO36_15⟩ := hM36_15; have hfl := List.length_filter_le (outP m) done; have hml : ((done.filter (outP m)).map Prod.fst).length = (done.filter (outP m)).length := List.length_map _; have hgl0 := hG36_74.len; refine W.seq ?_; refine W.region (by rfl) ?_; refine L.step rfl (op_nextE rfl s36_74 hG36_74) ?_; rintro _ w37 (⟨rfl, hpm37, hx37⟩ | ⟨p37, hpl37, hpn37, rfl, hG37, hg37, hsz37⟩)
   ·have hE := hE.trans hx37; have hS33 := hS33.trans hx37; have hB36_15 := hB36_15.ext hx37; have hO36_15 := hO36_15.ext hx37; refine L.val (v := (.bool false)) rfl (op_extract rfl rfl rfl) ?_; refine L.nil ?_; refine thenF_nor ?_; refine W.seq ?_; refine W.cond (t := false) rfl (fun h => nomatch h) (fun _ => ?_); refine W.exit ?_; refine thenF_exit ?_; refine thenF_exit ?_; refine blockF_hit ?_; refine thenF_nor ?_; refine W.seq ?_; obtain ⟨A38, c38, hv38, hR38, hcap38⟩ := (hO36_15).form; have hlen38 := hR38.len; have hBs38 := hB36_15; rw [hv38] at hBs38; refine W.region (by rfl) ?_; refine L.val rfl (op_load1 rfl s36_15 one38 (hBs38.cells.one (n := 0) rfl)) ?_; refine L.val rfl (op_iface rfl rfl (by kernel_rfl)) ?_; refine L.val rfl (op_func rfl (argsC s36_15 argsN)) ?_; have hOs38 := hO36_15; rw [hv38] at hOs38; refine L.step rfl (OpS.call (op_call rfl (argsC rfl (argsC rfl argsN)) Tryz.func62 rfl rfl) (sortSlice_ok st38 before_swo hOs38 (by omega) (fun blk eA => by subst eA; exact lessOk_box Tryz.func63 rfl rfl outcomes1_ok hBs38 (by have hh := hOs38.lt blk rfl; omega) hlen38))) ?_; rintro _ w39 ⟨rfl, ls39, hpm39, hsl39, hso39, hR39, hg39⟩; have hBz39 := hBs38.far hg39 (hOs38.ne' (Nat.lt_succ_self _)); have hS33 := hS33.own (hOs38.lower (by omega)) hg39; rw [← hsl39] at hBz39; have hlen39 := hR39.len; have hE := S33_hE.trans hS33; refine L.nil ?_; refine thenF_nor ?_; refine W.seq ?_; refine W.region (by rfl) ?_; refine L.val rfl (op_load1 rfl s36_15 one38 (hBz39.cells.one (n := 0) rfl)) ?_; refine L.val rfl (op_assign rfl rfl) ?_; refine L.nil ?_; refine thenF_nor ?_; refine W.ret ?_; exact end_ret1 (v := (.slice A38 ls39.length c38)) rfl rfl ⟨(by have hdd := outcomes_eq (m := m) (slot := slot) (A := (accepted_f m parent (own_f slot l))) hpm37 hpm39 hso39; unfold outcomes_f; rw [← hdd]; exact (⟨_, _, _, _, rfl, (Nat.le_trans (Nat.le_of_eq hsl39) hcap38), hR39⟩ : SlR _ _ _)), hE⟩
   ·have hnc37 := hG36_74.nc; have hE := hE.grown hg37 (by intro k hk; cases hk; exact hbb35_hE); have hS2 := hS2.grown hg37 (by intro k hk; cases hk; exact hbb35_hS2); have hT13 := grown_new hT13 hg37 (by intro k hk; cases hk; exact hbb35_hT13); have hS33 := hS33.grown hg37 (by intro k hk; cases hk; exact hbb35_hS33); have hB36_15 := hB36_15.farM hnc37 hg37; have hO36_15 := hO36_15.farM hnc37 hg37; refine L.val (v := (.bool true)) rfl (op_extract rfl rfl rfl) ?_; refine L.nil ?_; refine thenF_nor ?_; refine W.seq ?_; refine W.cond (t := true) rfl (fun _ => ?_) (fun h => nomatch h); refine W.skip ?_; refine thenF_nor ?_; refine W.block ?_; refine W.seq ?_; refine W.region (by rfl) ?_; refine L.val rfl (op_entry rfl s36_74 hG37) ?_; refine L.val rfl (op_extract rfl rfl rfl) ?_; refine L.val rfl (op_extract rfl rfl rfl) ?_; refine L.newvar (v := (Enc.val (p37.1 : Oc))) (cs := (Enc.cells (p37.1 : Oc))) rfl rfl rfl rfl rfl rfl (fun _ => rfl) rfl si34 zs34 (Enc.one _) ?_; intro b40 w40 hb40 hB40 hx40; have hbb40_hE := Nat.le_trans hE.size hb40; have hbb40_hS2 := Nat.le_trans hS2.size hb40; have hbb40_hT13 := Nat.le_trans hT13.size hb40; have hbb40_hS33 := Nat.le_trans hS33.size hb40; have hE := hE.trans hx40; have hS33 := hS33.trans hx40; have hB36_15 := hB36_15.ext hx40; have hO36_15 := hO36_15.ext hx40; have hG37 := hG37.ext hx40; refine L.val rfl (op_assign rfl rfl) ?_; refine L.nil ?_; refine thenF_nor ?_; refine W.seq ?_; refine W.region (by rfl) ?_; refine L.val rfl (op_move rfl rfl) ?_; refine L.call (v := (.int .i64 (size_f p37.2))) rfl (OpS.call (op_call rfl (argsC rfl argsN) Tryz.func56 rfl rfl) Size_ok) ?_; intro w41 hx41; have hE := hE.trans hx41; have hS33 := hS33.trans hx41; have hB36_15 := hB36_15.ext hx41; have hO36_15 := hO36_15.ext hx41; have hG37 := hG37.ext hx41; have hB40 := hB40.ext hx41; refine L.val rfl (op_move rfl s36_0) ?_; refine L.call (v := (.int .i64 (size_f m))) rfl (OpS.call (op_call rfl (argsC rfl argsN) Tryz.func56 rfl rfl) Size_ok) ?_; intro w42 hx42; have hE := hE.trans hx42; have hS33 := hS33.trans hx42; have hB36_15 := hB36_15.ext hx42; have hO36_15 := hO36_15.ext hx42; have hG37 := hG37.ext hx42; have hB40 := hB40.ext hx42; refine L.call (v := (.int .i64 (quorum_f (size_f m)))) rfl (OpS.call (op_call rfl (argsC rfl argsN) Tryz.func55 rfl rfl) (Quorum_ok (by first | omega | (simp only [List.length_drop, List.length_take, List.length_append, List.length_cons, List.length_nil] at *; omega)) (by first | omega | (simp only [List.length_drop, List.length_take, List.length_append, List.length_cons, List.length_nil] at *; omega)))) ?_; intro w43 hx43; have hE := hE.trans hx43; have hS33 := hS33.trans hx43; have hB36_15 := hB36_15.ext hx43; have hO36_15 := hO36_15.ext hx43; have hG37 := hG37.ext hx43; have hB40 := hB40.ext hx43; refine L.val rfl (op_geq rfl rfl rfl) ?_; refine L.nil ?_; refine thenF_nor ?_; refine W.cond (t := decide ((quorum_f (size_f m)) ≤ (size_f p37.2))) rfl (fun hc44 => ?_) (fun hc44 => ?_)
    ·have hp44 := hc44; simp only [Bool.and_eq_true, Bool.or_eq_true, Bool.and_eq_false_iff, Bool.or_eq_false_iff, Bool.not_eq_true', Bool.not_eq_false', decide_eq_true_eq, decide_eq_false_iff_not] at hp44; have hstep := outs_yes (keep := (outP m)) (done := done) (p := p37) hc44; refine W.region (by rfl) ?_; refine L.val rfl (op_load1 rfl s36_15 one38 (hB36_15.cells.one (n := 0) rfl)) ?_; refine L.val rfl (op_load (v := (p37.1 : Oc)) rfl rfl ty34 hB40.cells) ?_; refine L.step rfl (op_slice1 (a := (p37.1 : Oc)) rfl rfl sl38 zs34 (by decide)) ?_; rintro _ w45 ⟨b45, rfl, hb45, hB45, hx45⟩; have hE := hE.trans hx45; have hS33 := hS33.trans hx45; have hB36_15 := hB36_15.ext hx45; have hO36_15 := hO36_15.ext hx45; have hG37 := hG37.ext hx45; refine L.step rfl (op_append (a := (p37.1 : Oc)) (ad := ⟨b45, 0, none⟩) rfl rfl rfl sl38 zs34 bt34 hO36_15 hB45.cells (by omega) (by decide) (Nat.succ_le_of_lt hB36_15.lt)) ?_; rintro v46 w46 ⟨hO46, hg46⟩; have hS33 := hS33.own (hO36_15.lower (by omega)) hg46; have hG37 := hG37.farO hO36_15 hg46; have hB36_15 := hB36_15.far hg46 (hO36_15.ne' (Nat.lt_succ_self _)); have hE := S33_hE.trans hS33; refine L.step rfl (op_put (v := v46) rfl s36_15 rfl si38 hB36_15 (Nat.le_of_ble_eq_true rfl) hO46.cells hO46.onec) ?_; rintro _ w47 ⟨hB47, hg47⟩; have hO46 := (hO46).kept hg47 (hO46.ne (Nat.lt_succ_self _)); have hS33 := hS33.grown hg47 (by intro k hk; cases hk; omega); have hG37 := hG37.farB hB36_15 hg47; have hE := S33_hE.trans hS33; have hB36_15 := hB47; refine L.nil ?_; refine blockF_nor ?_; refine thenF_nor ?_; exact ⟨(done ++ [p37]), ⟨s36_0, s36_8, s36_15, (by rw [← hstep]; exact ⟨_, hB36_15, hO46⟩), s36_74, hG37, hS33⟩, (by have hgl := hG37.len; simp only [List.length_append, List.length_cons, List.length_nil] at hgl ⊢; omega)⟩
    ·have hp44 := hc44; simp only [Bool.and_eq_true, Bool.or_eq_true, Bool.and_eq_false_iff, Bool.or_eq_false_iff, Bool.not_eq_true', Bool.not_eq_false', decide_eq_true_eq, decide_eq_false_iff_not] at hp44; have hstep := outs_no (keep := (outP m)) (done := done) (p := p37) hc44; refine W.skip ?_; refine blockF_nor ?_; refine thenF_nor ?_; exact ⟨(done ++ [p37]), ⟨s36_0, s36_8, s36_15, (by rw [← hstep]; exact ⟨_, hB36_15, hO36_15⟩), s36_74, hG37, hS33⟩, (by have hgl := hG37.len; simp only [List.length_append, List.length_cons, List.length_nil] at hgl ⊢; omega)⟩
end Go.Proofs.YtdknjfmjddlphaaGreat
set_option linter.unusedSimpArgs false
set_option linter.unusedVariables false
namespace Go.Proofs.YtdknjfmjddlphaaGreat
open Go Go.Fk
def slots_f (m : Int) (parent : Nm) (l : List Vt) (slot : Int) : List Vt := accepted_f m parent (l.filter fun x => decide (x.slot = slot))
def sgStep (kind : Int) (l : List (Nm × Int)) (v : Vt) : List (Nm × Int) := bif decide (v.kind = kind) then mput l v.value (ior (mget l v.value) (ishl 1 v.signer)) else l
def sgOf (kind : Int) (A : List Vt) : List (Nm × Int) := A.foldl (sgStep kind) []
def signers_f (m : Int) (parent : Nm) (l : List Vt) (slot kind : Int) : List (Nm × Int) := sgOf kind (slots_f m parent l slot)
def ascOut (n : Int) (p : Nm × Int) : Bool := (!decide (p.1 = Nm.zero)) && decide (n ≤ size_f p.2)
def ascending15_f (b : List (Nm × Int)) (n : Int) : List Nm := sorted hashLess_f ((b.filter (ascOut n)).map Prod.fst)
def proposals_f (m : Int) (parent : Nm) (l : List Vt) (slot : Int) : List Nm := ascending15_f (signers_f m parent l slot 1) 1
def certified_f (m : Int) (parent : Nm) (l : List Vt) (slot : Int) : List Nm := ascending15_f (signers_f m parent l slot 2) (quorum_f (size_f m))
def echoers_f (m : Int) (parent : Nm) (l : List Vt) (slot : Int) (value : Nm) : Int := mget (signers_f m parent l slot 2) value
theorem nm_lin : Lin hashLess_f := Lin.of_key (fun n => [num n]) 1 (fun _ => rfl) (fun x y h => by
  simp only [List.cons.injEq, and_true] at h
  exact num_inj h) (fun a b => by
  rw [hashLess_eq]
  simp only [lexl]
  by_cases h : num a = num b
  · simp [h]
  · simp [h])
theorem perm_sorted {α : Type} [DecidableEq α] [Inhabited α] {lt : α → α → Bool} (hl : Lin lt) {l M : List α} (hp : l.Perm M) (hM : M.Nodup) (ho : ∀ i j, i < j → j < l.length → lt l[j]! l[i]! = false) : l = sorted lt M := by
 have hn : l.Nodup := hp.nodup_iff.2 hM; refine Asc.unique hl ?_ (sorted_asc hl M) fun z => by rw [sorted_mem]; exact hp.mem_iff
 unfold Asc; rw [List.pairwise_iff_getElem]; intro i j hi hj hij; have h1 := ho i j hij hj; rw [getElem!_pos l i hi, getElem!_pos l j hj] at h1; cases h2 : lt l[i] l[j] with
 | true => rfl
 | false =>
  have := hl.total _ _ h2 h1
  have := (List.getElem_inj hn).1 this
  omega
theorem asc15_eq {b done : List (Nm × Int)} {n : Int} {ls : List Nm} (hb : (b.map Prod.fst).Nodup) (hd : done.Perm b) (hl : ls.Perm ((done.filter (ascOut n)).map Prod.fst)) (ho : ∀ i j, i < j → j < ls.length → hashLess_f ls[j]! ls[i]! = false) : ls = ascending15_f b n :=
  perm_sorted nm_lin (hl.trans ((hd.filter _).map _)) ((List.Sublist.map _ List.filter_sublist).nodup hb) ho
theorem sg_yes {kind : Int} {A : List Vt} {k : Nat} (hk : k < A.length) (h : decide (A[k]!.kind = kind) = true) :
    mput (sgOf kind (A.take k)) A[k]!.value (ior (mget (sgOf kind (A.take k)) A[k]!.value) (ishl 1 A[k]!.signer)) = sgOf kind (A.take (k + 1)) := by
  unfold sgOf
  rw [fold_go hk]
  conv => rhs; unfold sgStep
  rw [h]; rfl
theorem sg_no {kind : Int} {A : List Vt} {k : Nat} (hk : k < A.length) (h : decide (A[k]!.kind = kind) = false) : sgOf kind (A.take k) = sgOf kind (A.take (k + 1)) := by
 unfold sgOf; rw [fold_go hk]; conv => rhs; unfold sgStep
 rw [h]; rfl
theorem sgStep_len (kind : Int) (l : List (Nm × Int)) (v : Vt) : (sgStep kind l v).length ≤ l.length + 1 := by
 unfold sgStep; cases decide (v.kind = kind)
 ·simp
 ·exact mput_len
theorem sg_len (kind : Int) : ∀ (A : List Vt) (l : List (Nm × Int)), (A.foldl (sgStep kind) l).length ≤ l.length + A.length
  | [], l => by simp
  | v :: t, l => by
    have h1 := sgStep_len kind l v
    have h2 := sg_len kind t (sgStep kind l v)
    rw [List.foldl_cons, List.length_cons]; omega
theorem signers_len (m : Int) (parent : Nm) (l : List Vt) (slot kind : Int) : (signers_f m parent l slot kind).length ≤ l.length := by
 have h1 := sg_len kind (slots_f m parent l slot) []; have h2 := acc_len m parent (l.filter fun x => decide (x.slot = slot)); have h3 := List.length_filter_le (fun x : Vt => decide (x.slot = slot)) l; unfold signers_f sgOf; unfold slots_f at h1 ⊢; simp only [List.length_nil, Nat.zero_add] at h1; omega
theorem slots_sig (m : Int) (parent : Nm) (l : List Vt) (slot : Int) (k : Nat) (h : k < (slots_f m parent l slot).length) : 0 ≤ (slots_f m parent l slot)[k]!.signer ∧ (slots_f m parent l slot)[k]!.signer ≤ 9 := (acc_sig m parent _ k h).2
theorem slots_len (m : Int) (parent : Nm) (l : List Vt) (slot : Int) : (slots_f m parent l slot).length ≤ l.length := by
 have h2 := acc_len m parent (l.filter fun x => decide (x.slot = slot)); have h3 := List.length_filter_le (fun x : Vt => decide (x.slot = slot)) l; unfold slots_f; omega
end Go.Proofs.YtdknjfmjddlphaaGreat
set_option linter.unusedSimpArgs false
set_option linter.unusedVariables false
set_option linter.unusedSectionVars false
namespace Go.Proofs.YtdknjfmjddlphaaGreat
open Go Go.Fk
/-- the cells of a voter -/
abbrev voterCs (vm vq vslot vself : Int) (vpar : Nm) (sl : Value) (bo : Nat) : List Value := [.int .i64 vm, .int .i64 vq, .int .i64 vslot, .int .i64 vself] ++ Nm.cs vpar ++ [sl] ++ [.map (some bo)]
def vt0 : Vt := ⟨0, 0, 0, 0, 0, 0, Nm.zero, Nm.zero⟩
def of_f (v : Vt) : Ch := ⟨v.choice, v.value⟩
def valLess_f (a b : Ch) : Bool := bif !decide (a.validator = b.validator) then decide (a.validator < b.validator) else hashLess_f a.value b.value
def signed_f (lo : List (Pr × Int)) (kind round : Int) : Bool := decide (0 < mget lo (⟨kind, round⟩ : Pr))
def vote16_f (vslot vself : Int) (vpar : Nm) (kind round : Int) (x : Ch) (support : Int) : Vt := ⟨kind, vslot, round, x.validator, vself, support, vpar, x.value⟩
def collP (kind round : Int) (p : Vt → Bool) (x : Vt) : Bool := ((decide (x.kind = kind)) && (decide (x.round = round))) && p x
def collStep (kind round : Int) (p : Vt → Bool) (t : Int) (x : Vt) : Int := bif collP kind round p x then ior t (ishl 1 x.signer) else t
def who16_f (all : List Vt) (kind round : Int) (p : Vt → Bool) : Int := all.foldl (collStep kind round p) 0
def val16P (kind round : Int) (x : Vt) : Bool := ((decide (x.kind = kind)) && (decide (x.round = round))) && (!decide (x.choice = 2))
def valmStep (kind round : Int) (l : List (Ch × Int)) (x : Vt) : List (Ch × Int) := bif val16P kind round x then mput l (of_f x) 1 else l
def valm_f (all : List Vt) (kind round : Int) : List (Ch × Int) := all.foldl (valmStep kind round) []
def values16_f (all : List Vt) (kind round : Int) : List Ch := sorted valLess_f ((valm_f all kind round).map Prod.fst)
def enough_f (q m : Int) : Bool := decide (q ≤ size_f m)
def lowStep (t i : Int) : Int := ior t (ishl 1 i)
def lowest_f (m k : Int) : Int := ((ids_f m).take k.toNat).foldl lowStep 0
def whoIs (all : List Vt) (kind round : Int) (x : Ch) : Int := who16_f all kind round fun v => decide (of_f v = x)
def precommit16_f (vq vslot vself : Int) (vpar : Nm) (all : List Vt) (lo : List (Pr × Int)) (round : Int) : Vt × Bool :=
  bif (!(signed_f lo 3 round)) || (signed_f lo 4 round) then (vt0, false) else
  match (values16_f all 3 round).find? fun x => enough_f vq (whoIs all 3 round x) with
  | some x => (vote16_f vslot vself vpar 4 round x (lowest_f (whoIs all 3 round x) vq), true)
  | none => bif enough_f vq (who16_f all 3 round fun _ => true) then (vote16_f vslot vself vpar 4 round ⟨2, Nm.zero⟩ (lowest_f (who16_f all 3 round fun _ => true) vq), true) else (vt0, false)
def mixed16 (all : List Vt) (round : Int) : Int := who16_f all 4 round fun v => decide (v.choice = 2)
def carried_f (all : List Vt) (round : Int) : Ch × Bool :=
  bif decide ((values16_f all 3 round).length = 0) then (⟨0, Nm.zero⟩, false) else
  bif (decide ((round + 1) % 2 = 1) && decide ((values16_f all 3 round)[0]!.validator = 0)) && decide (1 < (values16_f all 3 round).length) then ((values16_f all 3 round)[1]!, true) else ((values16_f all 3 round)[0]!, true)
def prevote16_f (vq vslot vself : Int) (vpar : Nm) (all : List Vt) (lo : List (Pr × Int)) (round : Int) : Vt × Bool :=
  bif (!(signed_f lo 4 round)) || (signed_f lo 3 (round + 1)) then (vt0, false) else
  match (values16_f all 4 round).find? fun x => enough_f vq (ior (whoIs all 4 round x) (mixed16 all round)) with
  | some x => (vote16_f vslot vself vpar 3 (round + 1) x (ior (lowest_f (whoIs all 4 round x) 1) (lowest_f (iandn (ior (whoIs all 4 round x) (mixed16 all round)) (lowest_f (whoIs all 4 round x) 1)) (vq - 1))), true)
  | none => bif !(enough_f vq (mixed16 all round)) then (vt0, false) else
    bif !(carried_f all round).2 then (vt0, false) else (vote16_f vslot vself vpar 3 (round + 1) (carried_f all round).1 (lowest_f (mixed16 all round) vq), true)
/-- l: the votes of the slot above the parent -/
def echo16_f (vm vslot vself : Int) (vpar : Nm) (lo : List (Pr × Int)) (l : List Vt) (held : List Nm) : Vt × Bool :=
  bif signed_f lo 2 0 then (vt0, false) else
  match (proposals_f vm vpar l vslot).find? fun n => held.any fun h => decide (h = n) with
  | some n => (vote16_f vslot vself vpar 2 0 ⟨1, n⟩ 0, true)
  | none => (vt0, false)
def first16_f (vm vq vslot vself : Int) (vpar : Nm) (lo : List (Pr × Int)) (l : List Vt) (waited : Bool) : Vt × Bool :=
  bif signed_f lo 3 1 then (vt0, false) else
  bif decide (0 < (certified_f vm vpar l vslot).length) then (vote16_f vslot vself vpar 3 1 ⟨1, (certified_f vm vpar l vslot)[0]!⟩ (lowest_f (echoers_f vm vpar l vslot (certified_f vm vpar l vslot)[0]!) vq), true) else
  bif !waited then (vt0, false) else (vote16_f vslot vself vpar 3 1 ⟨0, Nm.zero⟩ 0, true)
def ownP (parent : Nm) (slot : Int) (x : Vt) : Bool := (decide (x.slot = slot)) && (decide (x.parent = parent))
def mineP (self : Int) (x : Vt) : Bool := (decide (x.signer = self)) && (valid_f x)
def mineStep (parent : Nm) (slot self : Int) (l : List (Pr × Int)) (x : Vt) : List (Pr × Int) := bif ownP parent slot x then (bif mineP self x then mput l (⟨x.kind, x.round⟩ : Pr) (mget l (⟨x.kind, x.round⟩ : Pr) + 1) else l) else l
def mine_f (parent : Nm) (slot self : Int) (l : List Vt) : List (Pr × Int) := l.foldl (mineStep parent slot self) []
/-- from round r on: the first Precommit or Prevote that is due -/
def rounds16 (pc pv : Int → Vt × Bool) : Nat → Int → Vt × Bool
  | 0, _ => (vt0, false)
  | n + 1, r => bif (pc r).2 then ((pc r).1, true) else bif (pv r).2 && decide (r < 12) then ((pv r).1, true) else rounds16 pc pv n (r + 1)
def next16_f (m : Int) (parent : Nm) (l : List Vt) (slot self : Int) (held : List Nm) (waited : Bool) : Vt × Bool :=
  bif ((!(has_f m self)) || (!(has_f m slot))) || (decide (0 < (outcomes_f m parent l slot).length)) then (vt0, false) else
  bif (echo16_f m slot self parent (mine_f parent slot self l) (l.filter (ownP parent slot)) held).2 then ((echo16_f m slot self parent (mine_f parent slot self l) (l.filter (ownP parent slot)) held).1, true) else
  bif (first16_f m (quorum_f (size_f m)) slot self parent (mine_f parent slot self l) (l.filter (ownP parent slot)) waited).2 then ((first16_f m (quorum_f (size_f m)) slot self parent (mine_f parent slot self l) (l.filter (ownP parent slot)) waited).1, true) else
  rounds16 (precommit16_f (quorum_f (size_f m)) slot self parent (accepted_f m parent (l.filter (ownP parent slot))) (mine_f parent slot self l)) (prevote16_f (quorum_f (size_f m)) slot self parent (accepted_f m parent (l.filter (ownP parent slot))) (mine_f parent slot self l)) 12 1
theorem valLess_key (a b : Ch) : valLess_f a b = lexl [a.validator, num a.value] [b.validator, num b.value] := by
 unfold valLess_f; rw [hashLess_eq]; simp only [lexl]; by_cases h1 : a.validator = b.validator
 ·by_cases h2 : num a.value = num b.value
  ·simp [h1, h2]
  ·simp [h1, h2]
 ·simp [h1]
theorem val_lin : Lin valLess_f := Lin.of_key (fun c => [c.validator, num c.value]) 2 (fun _ => rfl) (fun x y h => by
  simp only [List.cons.injEq, and_true] at h
  exact (Ch.ext_iff' x y).2 ⟨h.1, num_inj h.2⟩) valLess_key
theorem valm_yes {all : List Vt} {kind round : Int} {k : Nat} (hk : k < all.length) (h : val16P kind round all[k]! = true) : mput (valm_f (all.take k) kind round) (of_f all[k]! : Ch) 1 = valm_f (all.take (k + 1)) kind round := by
 unfold valm_f; rw [fold_go hk]; conv => rhs; unfold valmStep
 rw [h]; rfl
theorem valm_no {all : List Vt} {kind round : Int} {k : Nat} (hk : k < all.length) (h : val16P kind round all[k]! = false) : valm_f (all.take k) kind round = valm_f (all.take (k + 1)) kind round := by
 unfold valm_f; rw [fold_go hk]; conv => rhs; unfold valmStep
 rw [h]; rfl
theorem valmStep_len (kind round : Int) (l : List (Ch × Int)) (v : Vt) : (valmStep kind round l v).length ≤ l.length + 1 := by
 unfold valmStep; cases val16P kind round v
 ·simp
 ·exact mput_len
theorem valm_len' (kind round : Int) : ∀ (A : List Vt) (l : List (Ch × Int)), (A.foldl (valmStep kind round) l).length ≤ l.length + A.length
  | [], l => by simp
  | v :: t, l => by
    have h1 := valmStep_len kind round l v
    have h2 := valm_len' kind round t (valmStep kind round l v)
    rw [List.foldl_cons, List.length_cons]; omega
theorem valm_len (all : List Vt) (kind round : Int) : (valm_f all kind round).length ≤ all.length := by
 have := valm_len' kind round all []; simpa [valm_f] using this
theorem values16_eq {all : List Vt} {kind round : Int} {done : List (Ch × Int)} {ls : List Ch} (hb : ((valm_f all kind round).map Prod.fst).Nodup) (hd : done.Perm (valm_f all kind round)) (hl : ls.Perm ((done.filter fun _ => true).map Prod.fst)) (ho : ∀ i j, i < j → j < ls.length → valLess_f ls[j]! ls[i]! = false) : ls = values16_f all kind round :=
  perm_sorted val_lin (hl.trans (by rw [List.filter_eq_self.2 (fun _ _ => rfl)]; exact hd.map _)) hb ho
theorem carried_t {l : List Ch} {r : Int} (h : (((decide (((r + 1) % 2) = 1)) && (decide (l[0]!.validator = 0))) && (decide (1 < (l.length : Int)))) = true) : ((decide ((r + 1) % 2 = 1) && decide (l[0]!.validator = 0)) && decide (1 < l.length)) = true := by
 rw [← h, show decide (1 < l.length) = decide (1 < (l.length : Int)) from decide_eq_decide.2 (by omega)]
theorem carried_f29 {l : List Ch} {r : Int} (h : (((decide (((r + 1) % 2) = 1)) && (decide (l[0]!.validator = 0))) && (decide (1 < (l.length : Int)))) = false) : ((decide ((r + 1) % 2 = 1) && decide (l[0]!.validator = 0)) && decide (1 < l.length)) = false := by
 rw [← h, show decide (1 < l.length) = decide (1 < (l.length : Int)) from decide_eq_decide.2 (by omega)]
section
variable {α : Type} [Inhabited α] {l : List α} {p : α → Bool} {k : Nat}
theorem find_go (h : (l.drop k).find? p = l.find? p) (hk : k < l.length) (hn : p l[k]! = false) : (l.drop (k + 1)).find? p = l.find? p := by
 rw [drop_bang hk, List.find?_cons, hn] at h; exact h
theorem find_yes (h : (l.drop k).find? p = l.find? p) (hk : k < l.length) (hy : p l[k]! = true) : l.find? p = some l[k]! := by
 rw [drop_bang hk, List.find?_cons, hy] at h; exact h.symm
theorem find_end (h : (l.drop k).find? p = l.find? p) (hk : l.length ≤ k) : l.find? p = none := by
 rw [List.drop_of_length_le hk] at h; exact h.symm
end
section
variable {m slot self : Int} {parent : Nm} {l : List Vt} {held : List Nm} {waited : Bool}
theorem next_out (h : ((!(has_f m self)) || (!(has_f m slot))) = true) : next16_f m parent l slot self held waited = (vt0, false) := by
 unfold next16_f; rw [h]; rfl
theorem dec_len {α : Type} (l : List α) : decide ((0 : Int) < (l.length : Int)) = decide (0 < l.length) := decide_eq_decide.2 (by omega)
theorem next_done (h : ((!(has_f m self)) || (!(has_f m slot))) = false) (h2 : decide ((0 : Int) < ((outcomes_f m parent l slot).length : Int)) = true) : next16_f m parent l slot self held waited = (vt0, false) := by
 rw [dec_len] at h2; unfold next16_f; rw [h, h2]; rfl
theorem next_echo (h : ((!(has_f m self)) || (!(has_f m slot))) = false) (h2 : decide ((0 : Int) < ((outcomes_f m parent l slot).length : Int)) = false) (h3 : (echo16_f m slot self parent (mine_f parent slot self l) (l.filter (ownP parent slot)) held).2 = true) : next16_f m parent l slot self held waited = ((echo16_f m slot self parent (mine_f parent slot self l) (l.filter (ownP parent slot)) held).1, true) := by
 rw [dec_len] at h2; unfold next16_f; rw [h, h2, h3]; rfl
theorem next_first (h : ((!(has_f m self)) || (!(has_f m slot))) = false) (h2 : decide ((0 : Int) < ((outcomes_f m parent l slot).length : Int)) = false) (h3 : (echo16_f m slot self parent (mine_f parent slot self l) (l.filter (ownP parent slot)) held).2 = false) (h4 : (first16_f m (quorum_f (size_f m)) slot self parent (mine_f parent slot self l) (l.filter (ownP parent slot)) waited).2 = true) : next16_f m parent l slot self held waited = ((first16_f m (quorum_f (size_f m)) slot self parent (mine_f parent slot self l) (l.filter (ownP parent slot)) waited).1, true) := by
 rw [dec_len] at h2; unfold next16_f; rw [h, h2, h3, h4]; rfl
theorem next_rounds (h : ((!(has_f m self)) || (!(has_f m slot))) = false) (h2 : decide ((0 : Int) < ((outcomes_f m parent l slot).length : Int)) = false) (h3 : (echo16_f m slot self parent (mine_f parent slot self l) (l.filter (ownP parent slot)) held).2 = false) (h4 : (first16_f m (quorum_f (size_f m)) slot self parent (mine_f parent slot self l) (l.filter (ownP parent slot)) waited).2 = false) : next16_f m parent l slot self held waited = rounds16 (precommit16_f (quorum_f (size_f m)) slot self parent (accepted_f m parent (l.filter (ownP parent slot))) (mine_f parent slot self l)) (prevote16_f (quorum_f (size_f m)) slot self parent (accepted_f m parent (l.filter (ownP parent slot))) (mine_f parent slot self l)) 12 1 := by
 rw [dec_len] at h2; unfold next16_f; rw [h, h2, h3, h4]; rfl
end
section
variable {pc pv : Int → Vt × Bool} {r : Nat} {X : Vt × Bool}
theorem rounds_un (hr : r < 12) : rounds16 pc pv (12 - r) (((r + 1 : Nat)) : Int) = bif (pc (((r + 1 : Nat)) : Int)).2 then ((pc (((r + 1 : Nat)) : Int)).1, true) else bif (pv (((r + 1 : Nat)) : Int)).2 && decide ((((r + 1 : Nat)) : Int) < 12) then ((pv (((r + 1 : Nat)) : Int)).1, true) else rounds16 pc pv (12 - (r + 1)) (((r + 1 + 1 : Nat)) : Int) := by
 obtain ⟨n, hn⟩ : ∃ n, 12 - r = n + 1 := ⟨11 - r, by omega⟩; have e : 12 - (r + 1) = n := by omega
 rw [hn, e]; rfl
theorem rounds_go (h : rounds16 pc pv (12 - r) (((r + 1 : Nat)) : Int) = X) (hr : r < 12) (h1 : (pc (((r + 1 : Nat)) : Int)).2 = false) (h2 : ((pv (((r + 1 : Nat)) : Int)).2 && decide ((((r + 1 : Nat)) : Int) < 12)) = false) : rounds16 pc pv (12 - (r + 1)) (((r + 1 + 1 : Nat)) : Int) = X := by
 rw [rounds_un hr, h1, h2] at h; exact h
theorem rounds_pc (hr : r < 12) (h1 : (pc (((r + 1 : Nat)) : Int)).2 = true) : rounds16 pc pv (12 - r) (((r + 1 : Nat)) : Int) = ((pc (((r + 1 : Nat)) : Int)).1, true) := by
 rw [rounds_un hr, h1]; rfl
theorem rounds_pv (hr : r < 12) (h1 : (pc (((r + 1 : Nat)) : Int)).2 = false) (h2 : ((pv (((r + 1 : Nat)) : Int)).2 && decide ((((r + 1 : Nat)) : Int) < 12)) = true) : rounds16 pc pv (12 - r) (((r + 1 : Nat)) : Int) = ((pv (((r + 1 : Nat)) : Int)).1, true) := by
 rw [rounds_un hr, h1, h2]; rfl
theorem rounds_end (hr : 12 ≤ r) : rounds16 pc pv (12 - r) (((r + 1 : Nat)) : Int) = (vt0, false) := by
 rw [show 12 - r = 0 by omega]; rfl
end
section
variable {parent : Nm} {slot self : Int} {l : List Vt} {k : Nat}
theorem mine_go (hk : k < l.length) : mine_f parent slot self (l.take (k + 1)) = mineStep parent slot self (mine_f parent slot self (l.take k)) l[k]! := by
 unfold mine_f; exact fold_go hk
theorem mine_yes (hk : k < l.length) (h1 : ownP parent slot l[k]! = true) (h2 : ((decide (l[k]!.signer = self)) && (valid_f l[k]!)) = true) : mput (mine_f parent slot self (l.take k)) (⟨l[k]!.kind, l[k]!.round⟩ : Pr) (mget (mine_f parent slot self (l.take k)) (⟨l[k]!.kind, l[k]!.round⟩ : Pr) + 1) = mine_f parent slot self (l.take (k + 1)) := by
 rw [mine_go hk]; conv => rhs; unfold mineStep mineP
 rw [h1, h2]; rfl
theorem mine_no1 (hk : k < l.length) (h1 : ownP parent slot l[k]! = true) (h2 : ((decide (l[k]!.signer = self)) && (valid_f l[k]!)) = false) : mine_f parent slot self (l.take k) = mine_f parent slot self (l.take (k + 1)) := by
 rw [mine_go hk]; conv => rhs; unfold mineStep mineP
 rw [h1, h2]; rfl
theorem mine_no2 (hk : k < l.length) (h1 : ownP parent slot l[k]! = false) : mine_f parent slot self (l.take k) = mine_f parent slot self (l.take (k + 1)) := by
 rw [mine_go hk]; conv => rhs; unfold mineStep
 rw [h1]; rfl
theorem mget_mput {K : Type} [DecidableEq K] {l : List (K × Int)} (hn : (l.map Prod.fst).Nodup) (x y : K) (v : Int) : mget (mput l x v) y = if y = x then v else mget l y := by
 by_cases h : y = x
 ·subst h; rw [if_pos rfl]; exact mget_mem (mput_nodup hn) (p := (y, v)) (mput_mem.2 (Or.inl rfl))
 ·rw [if_neg h]; by_cases ho2 : ∃ p ∈ l, p.1 = y
  ·obtain ⟨p, hp2, rfl⟩ := ho2; rw [mget_mem hn hp2]; exact mget_mem (mput_nodup hn) (mput_mem.2 (Or.inr ⟨h, hp2⟩))
  ·have : ∀ p ∈ l, p.1 ≠ y := fun p hp2 e => ho2 ⟨p, hp2, e⟩; rw [mget_none this]; refine mget_none fun p hp2 => ?_; rcases mput_mem.1 hp2 with rfl | ⟨_, hp2⟩
   ·exact fun e => h e.symm
   ·exact this p hp2
/-- what the map of one's own votes counts -/
def cntMine (parent : Nm) (slot self : Int) (l : List Vt) (x : Pr) : Nat := (l.filter fun v => (ownP parent slot v && mineP self v) && (decide (v.kind = x.fst) && decide (v.round = x.snd))).length
theorem mine_count (parent : Nm) (slot self : Int) (l : List Vt) : ∀ k, k ≤ l.length → ((mine_f parent slot self (l.take k)).map Prod.fst).Nodup ∧ ∀ x, mget (mine_f parent slot self (l.take k)) x = (cntMine parent slot self (l.take k) x : Int) := by
 intro k; induction k with
 | zero => exact fun _ => ⟨by simp [mine_f], fun x => rfl⟩
 | succ k ih =>
  intro hk
  obtain ⟨hn, ih⟩ := ih (by omega)
  have hc : ∀ x, cntMine parent slot self (l.take (k + 1)) x = cntMine parent slot self (l.take k) x + (if ((ownP parent slot l[k]! && mineP self l[k]!) && (decide (l[k]!.kind = x.fst) && decide (l[k]!.round = x.snd))) = true then 1 else 0) := fun x => by
    unfold cntMine
    rw [take_bang (by omega), List.filter_append, List.length_append, List.filter_cons]
    split <;> simp
  cases h1 : ownP parent slot l[k]! with
  | false =>
    rw [← mine_no2 (by omega) h1]
    exact ⟨hn, fun x => by rw [hc, h1, ih]; simp⟩
  | true =>
    cases h2 : mineP self l[k]! with
    | false =>
      rw [← mine_no1 (by omega) h1 h2]
      exact ⟨hn, fun x => by rw [hc, h1, h2, ih]; simp⟩
    | true =>
      rw [← mine_yes (by omega) h1 h2]
      refine ⟨mput_nodup hn, fun x => ?_⟩
      rw [mget_mput hn, hc, h1, h2, ih, ih]
      by_cases hx : x = (⟨l[k]!.kind, l[k]!.round⟩ : Pr)
      · rw [if_pos hx]; subst hx; simp
      · rw [if_neg hx]
        have : ¬ (l[k]!.kind = x.fst ∧ l[k]!.round = x.snd) := fun ⟨e1, e2⟩ => hx ((Pr.ext_iff' _ _).2 ⟨e1.symm, e2.symm⟩)
        have h3 : (decide (l[k]!.kind = x.fst) && decide (l[k]!.round = x.snd)) = false := by
          rw [Bool.and_eq_false_iff, decide_eq_false_iff_not, decide_eq_false_iff_not]
          by_cases e1 : l[k]!.kind = x.fst
          · exact Or.inr fun e2 => this ⟨e1, e2⟩
          · exact Or.inl e1
        rw [h3]; simp
theorem mine_bound (parent : Nm) (slot self : Int) (l : List Vt) (k : Nat) (x : Pr) (hk : k ≤ l.length) : 0 ≤ mget (mine_f parent slot self (l.take k)) x ∧ mget (mine_f parent slot self (l.take k)) x ≤ k := by
 have h1 := (mine_count parent slot self l k hk).2 x; have h2 : cntMine parent slot self (l.take k) x ≤ (l.take k).length := List.length_filter_le _ _; have h3 := List.length_take_le k l; omega
end
end Go.Proofs.YtdknjfmjddlphaaGreat
set_option linter.unusedSectionVars false
set_option linter.unusedSimpArgs false
set_option linter.unusedVariables false
namespace Go.Fk
open Go Go.RowKit
section
variable {P : Program} {N : Nat} {Q : Exit → Fr → World → Prop} {f : Fr} {w : World}
variable {K : Type} [Enc K] [DecidableEq K]
/-- a function's first result in a cell -/
theorem end_ret2c {fn : Func} {R : Value → World → Prop} {α : Type} [Enc α] {a t : Tmp} {u : TypeId} {p : Addr} {x : α} {v' : Value} (h : fn.results = #[.cell a u, .tmp t]) (T : TyEnc P u α) (ha : f a = .pointer (some p)) (hc : Cells w p (Enc.cells x)) (hv' : f t = v') (hR : R (.tuple #[Enc.val x, v']) w) : endF fn P R .ret f w :=
  ⟨_, fun tmps ht => by unfold results; rw [h]; simp [ht, ha, hv', asAddr, T.load w p x hc], hR⟩
end
end Go.Fk
namespace Go.Fk
open Go
section
variable {P : Program} {o : Oper} {f : Fr} {w : World}
theorem op_shru {t ty : TypeId} {x y : Operand} {a s : Int} (ho : o.op = .binOp .shr t x y ty) (hx : evalF f x = .int .i64 a) (hy : evalF f y = .int .u64 (IntKind.u64.wrap s)) (h0 : 0 ≤ s) (h1 : s ≤ 64) : (execOp (evalF f) o).run P w = .ok (.value (.int .i64 (a / 2 ^ s.toNat))) w := by
 have hw : IntKind.u64.wrap s = s := by
  simp only [IntKind.wrap, IntKind.bits, IntKind.signed]
  simp
  omega
 rw [hw] at hy; exact op_int2 ho hx hy (by rw [binOp_shr, shift_shr_i64 _ _ _ h0 h1])
end
end Go.Fk
set_option linter.unusedSectionVars false
set_option linter.unusedVariables false
namespace Go.Fk
open Go
section
variable {P : Program} {o : Oper} {f : Fr} {w : World}
/-- a slice whose memory is not older than block n -/
def SlN {α : Type} [Enc α] (n : Nat) (w : World) (u : Value) (l : List α) : Prop := ∃ A c, u = .slice A l.length c ∧ l.length ≤ c ∧ Rd w n w.heap.size A l
section
variable {α β : Type} [Enc α] [Enc β] {n n' : Nat} {w' : World} {u v v' : Value} {l : List α} {l' : List β} {e : TypeId} {base : Nat}
theorem SlN.ext (h : SlN n w u l) (hx : Ext w w') : SlN n w' u l := by
 obtain ⟨A, c, e, hc, hr⟩ := h; exact ⟨A, c, e, hc, (hr.ext hx).mono (Nat.le_refl _) hx.size⟩
theorem Own.sln (h : Own w base e v l) (hn : n ≤ base) : SlN n w v l := by
 obtain ⟨A, c, e, hr, hc⟩ := h.form; exact ⟨A, c, e, hc, hr.mono hn (Nat.le_refl _)⟩
theorem Rd.away {lo hi g : Nat} {A : Option Addr} (h : Rd w lo hi A l) (hg : w.grownBy w' (some g)) (hn : g < lo ∨ hi ≤ g) : Rd w' lo hi A l := ⟨h.1, fun h0 => by
  obtain ⟨ad, e, h1, h2, hc⟩ := h.2 h0
  refine ⟨ad, e, h1, h2, fun k x hk j z hz => ?_⟩
  have hcell := hc k x hk j z hz
  have hlt := World.block_lt_of_cell? w _ hcell
  have hb : ((ad.add (k * Enc.size α)).add j).block = ad.block := by rw [add_block, add_block]
  rw [hb] at hlt
  have hne : (some ad.block : Option Nat) ≠ some g := by
    intro e
    injection e with e
    omega
  rw [← hcell]
  have := hg.block ad.block hlt hne
  unfold World.cell?
  rw [hb, this]⟩
theorem own_block (h : Own w base e v l) : ∀ g, v.ownBlock = some g → g < w.heap.size := fun g hg => (h.lt g hg).2
end
end
end Go.Fk
set_option linter.unusedSectionVars false
set_option linter.unusedSimpArgs false
set_option linter.unusedVariables false
namespace Go.Fk
open Go Go.RowKit
section
variable {P : Program} {N : Nat} {Q : Exit → Fr → World → Prop} {f : Fr} {w : World} {l : List Oper}
section
variable {α : Type} [Enc α] {n : Nat} {w' w'' : World} {u v v' : Value} {k : List α} {e : TypeId} {base : Nat}
end
end
end Go.Fk
set_option linter.unusedSectionVars false
set_option linter.unusedSimpArgs false
set_option linter.unusedVariables false
namespace Go.Fk
open Go Go.RowKit
section
variable {P : Program} {w : World} {f : Fr}
theorem end_ret1c {fn : Func} {R : Value → World → Prop} {α : Type} [Enc α] {a : Tmp} {u : TypeId} {p : Addr} {x : α} (h : fn.results = #[.cell a u]) (T : TyEnc P u α) (ha : f a = .pointer (some p)) (hc : Cells w p (Enc.cells x)) (hR : R (Enc.val x) w) : endF fn P R .ret f w :=
  ⟨_, fun tmps ht => by unfold results; rw [h]; simp [ht, ha, asAddr, T.load w p x hc], hR⟩
theorem op_rem {o : Oper} {t ty : TypeId} {x y : Operand} {a b : Int} (ho : o.op = .binOp .rem t x y ty) (hx : evalF f x = .int .i64 a) (hy : evalF f y = .int .i64 b) (ha : 0 ≤ a) (hb : 0 < b) : (execOp (evalF f) o).run P w = .ok (.value (.int .i64 (a % b))) w :=
  op_int ho hx hy (by
    have h1 : a.tmod b = a % b := Int.tmod_eq_emod_of_nonneg ha
    have hb0 : ¬ b = 0 := by omega
    rw [binOp_rem]
    simp only [Op.intDiv, if_neg hb0]
    rw [h1])
/-- variables of unlike types are two -/
theorem Box.farT {w w' : World} {b b2 : Nat} {t t2 : TypeId} {cs cs2 : List Value} (h : Box w b t cs) (h2 : Box w b2 t2 cs2) (hne : t ≠ t2) (hg : w.grownBy w' (some b2)) : Box w' b t cs := h.far hg (by
  intro e
  injection e with e
  subst e
  unfold Box at h h2
  rw [h] at h2
  injection h2 with h2
  injection h2 with _ h3 _
  exact hne h3)
/-- an empty map, not older than block n -/
def Sp.mapN (n : Nat) : Sp := ⟨fun u w => ∃ b, u = .map (some b) ∧ n ≤ b ∧ Mp w b ([] : List (Pr × Int)), fun _ _ _ ⟨b, h1, h2, h3⟩ hx => ⟨b, h1, h2, h3.ext hx⟩⟩
/-- a struct whose last cell is such a map -/
def Sp.aggM (n : Nat) (cs : List Value) : Sp := ⟨fun u w => ∃ b, u = .agg (cs ++ [Value.map (some b)]).toArray ∧ n ≤ b ∧ Mp w b ([] : List (Pr × Int)), fun _ _ _ ⟨b, h1, h2, h3⟩ hx => ⟨b, h1, h2, h3.ext hx⟩⟩
/-- a variable that holds such a struct -/
def Sp.boxM (n : Nat) (t : TypeId) (cs : List Value) : Sp := ⟨fun u w => ∃ b c, u = .pointer (some ⟨c, 0, none⟩) ∧ n ≤ b ∧ n ≤ c ∧ Mp w b ([] : List (Pr × Int)) ∧ Box w c t (cs ++ [Value.map (some b)]), fun _ _ _ ⟨b, c, h1, h2, h3, h4, h5⟩ hx => ⟨b, c, h1, h2, h3, h4.ext hx, h5.ext hx⟩⟩
end
section
variable {P : Program} {N : Nat} {Q : Exit → Fr → World → Prop} {f : Fr} {w : World} {l : List Oper}
def drawOkSt (N : Nat) (l : List Oper) (es : Nat) : Bool := drawOkI N l && decide ((l.filterMap (·.dst)).Nodup) && (l.zipIdx.all fun (o, i) => Nat.beq i es || o.dst.isSome) && (List.range es).all fun i => waitsAt l es i
/-- the region ends in a store into variable b (what follows the store reads no memory) -/
theorem W.drawSt {id es b : Nat} {t : TypeId} {vs : List Value} {oS : Oper} (V : List Value) (hm : P.follows .mixedOrders = true) (hok : drawOkSt N l es = true) (hes : l[es]? = some oS) (hns : oS.dst = none ∧ oS.guard = none)
    (hval : VObls [es] (fun i o => ∀ f' w', (i < es → Ext w w') → (∀ j, outside l j = true → f' j = f j) → (∀ j, inCh [es] j = false → waits o j = true → slotF l.toArray f' j = vOf V j) →
      ((Region.wanted o (yieldF l.toArray f') = true → OpS P o f' w' fun u w'' => (Sp.eq (vOf V i)).p u w'' ∧ Ext w' w'') ∧ (Region.wanted o (yieldF l.toArray f') = false → (Sp.eq (vOf V i)).p undef w')) ∧ o.dst.isSome = true) 0 l)
    (hst : ∀ f' w', Ext w w' → (∀ j, outside l j = true → f' j = f j) → (∀ j, inCh [es] j = false → waits oS j = true → slotF l.toArray f' j = vOf V j) → OpS P oS f' w' fun _ w'' => Box w'' b t vs ∧ w'.grownBy w'' (some b))
    (hfin : ∀ f' w', Box w' b t vs → w.grownBy w' (some b) → (∀ j, outside l j = true → f' j = f j) → (∀ i, i < l.length → inCh [es] i = false → slotF l.toArray f' i = vOf V i) → Q .normal f' w') :
    W P N (.region id l.toArray true) Q f w := by
  unfold drawOkSt at hok
  simp only [Bool.and_eq_true, decide_eq_true_eq] at hok
  obtain ⟨⟨⟨hok0, hnd⟩, hsome⟩, hwt⟩ := hok
  have hesl : es < l.length := (List.getElem?_eq_some_iff.1 hes).1
  refine W.drawI hm hok0 (fun Ls f' w' => (∀ j, outside l j = true → f' j = f j) ∧ (∀ j k, Ls j = true → waitsAt l j k = true → Ls k = true) ∧ (∀ i, i < l.length → inCh [es] i = false → Ls i = true → slotF l.toArray f' i = vOf V i) ∧ (Ls es = false → Ext w w') ∧ (Ls es = true → Box w' b t vs ∧ w.grownBy w' (some b))) ?_ ?_ ?_
  · exact ⟨fun _ _ => rfl, fun _ _ h => by simp at h, fun _ _ _ h => by simp at h, fun _ => Ext.draw w, fun h => by simp at h⟩
  · intro Ls i o f' w' ho hi hw ⟨hout, hcl, hv, hx, hb⟩
    have hil : i < l.length := (List.getElem?_eq_some_iff.1 ho).1
    have hwl : ∀ j, waits o j = true → Ls j = true := fun j hj => by
      obtain ⟨e, he, hb, rfl⟩ := of_waits hj
      exact hw e he hb
    have hwv : ∀ j, inCh [es] j = false → waits o j = true → slotF l.toArray f' j = vOf V j := fun j hj hwj => by
      by_cases hjl : j < l.length
      · exact hv _ hjl hj (hwl j hwj)
      · obtain ⟨e, he, hb, rfl⟩ := of_waits hwj
        unfold drawOkI at hok0
        simp only [Bool.and_eq_true] at hok0
        have h1 := List.all_eq_true.1 hok0.1 (o, i) (by rw [List.mem_zipIdx_iff_getElem?]; exact ho)
        have h2 := List.all_eq_true.1 h1 e (by simpa using he)
        rw [hb] at h2
        simp at h2
        omega
    have hmono : ∀ j, Ls j = true → setL Ls i j = true := fun j hj => by
      by_cases hji : j = i
      · subst hji; exact setL_same _ _
      · rw [setL_ne _ hji]; exact hj
    have hcl2 : ∀ j k, setL Ls i j = true → waitsAt l j k = true → setL Ls i k = true := by
      intro j k hj hjk
      by_cases hii : j = i
      · subst hii
        unfold waitsAt at hjk
        rw [ho] at hjk
        exact hmono _ (hwl k hjk)
      · rw [setL_ne _ hii] at hj
        exact hmono _ (hcl j k hj hjk)
    by_cases hie : i = es
    · subst hie
      rw [hes] at ho; cases ho
      have hwant : Region.wanted oS (yieldF l.toArray f') = true := by rw [Region.wanted, hns.2]
      refine ⟨fun _ => ?_, fun hn => by rw [hwant] at hn; cases hn⟩
      have hxw := hx hi
      refine (hst f' w' hxw hout hwv).mono fun v w'' ⟨h1, h2⟩ => ⟨fun j hj => (outside_updo hes hj).trans (hout j hj), hcl2, fun k hk hc hs => ?_, fun h => ?_, fun _ => ⟨h1, ?_⟩⟩
      · have hki : k ≠ i := fun e => by rw [e, inCh_iff.2 (by simp)] at hc; cases hc
        rw [setL_ne _ hki] at hs
        rw [slotF_updo hnd hes _ _ hki]
        exact hv k hk hc hs
      · rw [setL_same] at h; cases h
      · exact grown_trans (grown_ext (grown_refl w (some b)) hxw) h2
    · have hc : inCh [es] i = false := by
        cases h : inCh [es] i with
        | false => rfl
        | true => have := inCh_iff.1 h; simp at this; exact absurd this hie
      have hlt : i < es → Ext w w' := fun h => by
        refine hx ?_
        cases hLe : Ls es with
        | false => rfl
        | true =>
          have := List.all_eq_true.1 hwt i (List.mem_range.2 h)
          rw [hcl es i hLe this] at hi; cases hi
      have hq := VObls.get (i := 0) (k := i) hval ho (by rw [Nat.zero_add]; exact hc)
      rw [Nat.zero_add] at hq
      obtain ⟨⟨q1, q0⟩, hd⟩ := hq f' w' hlt hout hwv
      have hself : ∀ v, slotF l.toArray (updo f' o.dst v) i = v := fun v => by rw [slotF_self ho, if_pos hd]
      have hnext : ∀ v w'', v = vOf V i → Ext w' w'' → ((∀ j, outside l j = true → updo f' o.dst v j = f j) ∧ (∀ j k, setL Ls i j = true → waitsAt l j k = true → setL Ls i k = true) ∧ (∀ k, k < l.length → inCh [es] k = false → setL Ls i k = true → slotF l.toArray (updo f' o.dst v) k = vOf V k) ∧ (setL Ls i es = false → Ext w w'') ∧ (setL Ls i es = true → Box w'' b t vs ∧ w.grownBy w'' (some b))) := by
        intro v w'' hvv hxx
        refine ⟨fun j hj => (outside_updo ho hj).trans (hout j hj), hcl2, fun k hk hck hs => ?_, fun h => ?_, fun h => ?_⟩
        · by_cases hki : k = i
          · subst hki; rw [hself]; exact hvv
          · rw [setL_ne _ hki] at hs
            rw [slotF_updo hnd ho _ _ hki]
            exact hv k hk hck hs
        · rw [setL_ne _ (Ne.symm hie)] at h
          exact (hx h).trans hxx
        · rw [setL_ne _ (Ne.symm hie)] at h
          exact ⟨(hb h).1.ext hxx, grown_ext (hb h).2 hxx⟩
      exact ⟨fun hwt => (q1 hwt).mono fun v w'' ⟨e1, e2⟩ => hnext v w'' e1 e2, fun hwt => hnext undef w' (q0 hwt) (Ext.refl _)⟩
  · intro Ls f' w' hall ⟨hout, _, hv, _, hb⟩
    exact hfin f' w' (hb (hall es hesl)).1 (hb (hall es hesl)).2 hout fun i hi hc => hv i hi hc (hall i hi)
end
end Go.Fk
set_option linter.unusedSimpArgs false
set_option linter.unusedVariables false
namespace Go.Proofs.YtdknjfmjddlphaaGreat
open Go Go.Fk
set_option maxRecDepth 100000 in
theorem slots_ok {m : Int} {parent : Nm} {A_l : Option Addr} {c_l lo_l hi_l : Nat} {l : List Vt} {slot : Int}  {w : World} (hR_l : Rd w lo_l hi_l A_l l) (hl : l.length ≤ 1000000) : Gives Tryz.prog 94 #[(.int .i64 m), (Enc.val (parent : Nm)), (.slice A_l l.length c_l), (.int .i64 slot)] w fun u w' => SlR w' u (slots_f m parent l slot : List Vt) ∧ Ext w w' := by
 have hE : Ext w w := Ext.refl w; have hlen_l := hR_l.len; refine gives_of_W Tryz.func94 rfl Tryz.ntmps94 rfl ?_; refine W.seq ?_; refine W.region (by rfl) ?_; refine L.step rfl (op_box (cs := (Enc.cells (parent : Nm))) rfl rfl rfl) ?_; rintro _ w1 ⟨b1, rfl, hb1, hB1, hx1⟩; have hE := hE.trans hx1; have hR_l := hR_l.ext hx1; refine L.val rfl (op_assign rfl rfl) ?_; refine L.nil ?_; refine thenF_nor ?_; refine W.seq ?_; refine W.region (by rfl) ?_; refine L.val rfl (op_assign rfl rfl) ?_; refine L.nil ?_; refine thenF_nor ?_; refine W.seq ?_; refine W.seq ?_; refine W.region (by rfl) ?_; refine L.val rfl (op_move rfl rfl) ?_; refine L.val rfl (op_len rfl rfl ln25) ?_; refine L.val rfl (op_move rfl rfl) ?_; refine L.nil ?_; refine thenF_nor ?_; refine W.block ?_; have S2_hR_l := hR_l; have S2_hB1 := hB1; have S2_hE := hE; have hS2 : Ext w1 w1 := Ext.refl _; refine W.loopg (γ := Nat) (fun (k : Nat) (f : Fr) (ww : World) => k ≤ l.length ∧ f 0 = (.int .i64 m) ∧ f 3 = (.int .i64 slot) ∧ f 5 = (.pointer (some ⟨b1, 0, none⟩)) ∧ f 8 = (.slice none 0 0) ∧ f 12 = (.slice A_l l.length c_l) ∧ f 13 = (.int .i64 (l.length : Int)) ∧ f 14 = (.int .i64 ((k : Nat) : Int)) ∧ Fk.Own ww w1.heap.size 47 (f 9) ((l.take k).filter (fun x => decide (x.slot = slot))) ∧ Ext w1 ww) (fun (k : Nat) => l.length - k) 0 ⟨(by (try dsimp only); omega), rfl, rfl, rfl, rfl, rfl, rfl, rfl, (own_at (v := .slice none 0 0) rfl (Fk.Own.nil _ _ _)), hS2⟩ ?_; rintro k f3 w3 ⟨hk, s3_0, s3_3, s3_5, s3_8, s3_12, s3_13, s3_14, hO3_9, hS2⟩; have hR_l := S2_hR_l.ext hS2; have hB1 := S2_hB1.ext hS2; have hE := S2_hE.trans hS2; obtain ⟨v3_9, s3_9⟩ : ∃ v, f3 9 = v := ⟨_, rfl⟩; rw [s3_9] at hO3_9; have hfl := List.length_filter_le (fun x => decide (x.slot = slot)) (l.take k); have htl := List.length_take_le' k l; refine W.seq ?_; refine W.region (by rfl) ?_; refine L.val rfl (op_lss rfl s3_14 s3_13) ?_; refine L.nil ?_; refine thenF_nor ?_; refine W.seq ?_; refine W.cond (t := decide (((k : Nat) : Int) < (l.length : Int))) rfl (fun hc4 => ?_) (fun hc4 => ?_)
 ·have hp4 := hc4; simp only [Bool.and_eq_true, Bool.or_eq_true, Bool.and_eq_false_iff, Bool.or_eq_false_iff, Bool.not_eq_true', Bool.not_eq_false', decide_eq_true_eq, decide_eq_false_iff_not] at hp4; refine W.skip ?_; refine thenF_nor ?_; refine W.seq ?_; refine W.block ?_; refine W.seq ?_; refine W.region (by rfl) ?_; refine L.val rfl (op_index (k := k) rfl s3_12 s3_14 sl25 (hR_l.getA (get_bang (l := l) (k := k) (by omega))).1 rfl (by omega) rfl) ?_; refine L.val rfl (op_load (v := (l[k]! : Vt)) rfl rfl ty47 (hR_l.getA (get_bang (l := l) (k := k) (by omega))).2) ?_; refine L.newvar (v := (Enc.val (l[k]! : Vt))) (cs := (Enc.cells (l[k]! : Vt))) rfl rfl rfl rfl rfl rfl (fun _ => rfl) rfl si47 zs47 (Enc.one _) ?_; intro b5 w5 hb5 hB5 hx5; have hbb5_hE := Nat.le_trans hE.size hb5; have hbb5_hS2 := Nat.le_trans hS2.size hb5; have hE := hE.trans hx5; have hS2 := hS2.trans hx5; have hO3_9 := hO3_9.ext hx5; refine L.nil ?_; refine thenF_nor ?_; refine W.seq ?_; refine W.region (by rfl) ?_; refine L.val rfl (op_field rfl rfl fo47_1 rfl) ?_; refine L.val rfl (op_load1 rfl rfl one3 (hB5.cells.one (n := 1) rfl)) ?_; refine L.val rfl (op_move rfl s3_3) ?_; refine L.val rfl (op_eql rfl rfl rfl) ?_; refine L.nil ?_; refine thenF_nor ?_; refine W.cond (t := decide (((l[k]!).slot) = slot)) rfl (fun hc6 => ?_) (fun hc6 => ?_)
  ·have hp6 := hc6; simp only [Bool.and_eq_true, Bool.or_eq_true, Bool.and_eq_false_iff, Bool.or_eq_false_iff, Bool.not_eq_true', Bool.not_eq_false', decide_eq_true_eq, decide_eq_false_iff_not] at hp6; have hstep := filter_yes (l := l) (p := (fun x => decide (x.slot = slot))) (k := k) (by omega) hc6; refine W.region (by rfl) ?_; refine L.val rfl (op_move rfl s3_9) ?_; refine L.val rfl (op_load (v := (l[k]! : Vt)) rfl rfl ty47 hB5.cells) ?_; refine L.step rfl (op_slice1 (a := (l[k]! : Vt)) rfl rfl sl25 zs47 (by decide)) ?_; rintro _ w7 ⟨b7, rfl, hb7, hB7, hx7⟩; have hE := hE.trans hx7; have hS2 := hS2.trans hx7; have hO3_9 := hO3_9.ext hx7; refine L.step rfl (op_append (a := (l[k]! : Vt)) (ad := ⟨b7, 0, none⟩) rfl rfl rfl sl25 zs47 bt47 hO3_9 hB7.cells (by omega) (by decide) hS2.size) ?_; rintro v8 w8 ⟨hO8, hg8⟩; have hS2 := hS2.own hO3_9 hg8; have hE := S2_hE.trans hS2; refine L.val rfl (op_assign rfl rfl) ?_; refine L.nil ?_; refine blockF_nor ?_; refine thenF_nor ?_; refine W.region (by rfl) ?_; refine L.val rfl (op_add (c := ((k + 1 : Nat) : Int)) rfl s3_14 rfl (by omega) (by omega)) ?_; refine L.val rfl (op_move rfl rfl) ?_; refine L.nil ?_; refine thenF_nor ?_; exact ⟨k + 1, ⟨(by (try dsimp only); omega), s3_0, s3_3, s3_5, s3_8, s3_12, s3_13, rfl, (own_at (v := v8) rfl (by rw [← hstep]; exact hO8)), hS2⟩, (by (try dsimp only); omega)⟩
  ·have hp6 := hc6; simp only [Bool.and_eq_true, Bool.or_eq_true, Bool.and_eq_false_iff, Bool.or_eq_false_iff, Bool.not_eq_true', Bool.not_eq_false', decide_eq_true_eq, decide_eq_false_iff_not] at hp6; have hstep := filter_no (l := l) (p := (fun x => decide (x.slot = slot))) (k := k) (by omega) hc6; refine W.skip ?_; refine blockF_nor ?_; refine thenF_nor ?_; refine W.region (by rfl) ?_; refine L.val rfl (op_add (c := ((k + 1 : Nat) : Int)) rfl s3_14 rfl (by omega) (by omega)) ?_; refine L.val rfl (op_move rfl rfl) ?_; refine L.nil ?_; refine thenF_nor ?_; exact ⟨k + 1, ⟨(by (try dsimp only); omega), s3_0, s3_3, s3_5, s3_8, s3_12, s3_13, rfl, (own_at (v := v3_9) s3_9 (by rw [← hstep]; exact hO3_9)), hS2⟩, (by (try dsimp only); omega)⟩
 ·have hp4 := hc4; simp only [Bool.and_eq_true, Bool.or_eq_true, Bool.and_eq_false_iff, Bool.or_eq_false_iff, Bool.not_eq_true', Bool.not_eq_false', decide_eq_true_eq, decide_eq_false_iff_not] at hp4; have hkl : k = l.length := by omega
  rw [hkl, List.take_length] at hO3_9; have hfl2 := List.length_filter_le (fun x => decide (x.slot = slot)) l; refine W.exit ?_; refine thenF_exit ?_; refine thenF_exit ?_; refine blockF_hit ?_; refine thenF_nor ?_; refine W.seq ?_; obtain ⟨A9, c9, hv9, hR9, hcap9⟩ := (hO3_9).form; have hlen9 := hR9.len; refine W.region (by rfl) ?_; refine L.val rfl (op_move rfl s3_0) ?_; refine L.val rfl (op_load (v := (parent : Nm)) rfl s3_5 ty24 hB1.cells) ?_; refine L.val rfl (op_move rfl ((show _ = v3_9 from s3_9).trans hv9)) ?_; refine L.step rfl (OpS.call (op_call rfl (argsC rfl (argsC rfl (argsC rfl argsN))) Tryz.func25 rfl rfl) (Accepted_ok hR9 (by first | omega | (simp only [List.length_drop, List.length_take, List.length_append, List.length_cons, List.length_nil] at *; omega)))) ?_; rintro _ w10 ⟨⟨A10, c10, lo10, hi10, rfl, hcap10, hR10⟩, hx10⟩; have hE := hE.trans hx10; have hlen10 := hR10.len; refine L.val rfl (op_assign rfl rfl) ?_; refine L.nil ?_; refine thenF_nor ?_; refine W.ret ?_; exact end_ret1 (v := (.slice A10 (accepted_f m parent (l.filter (fun x => decide (x.slot = slot)))).length c10)) rfl rfl ⟨(⟨_, _, _, _, rfl, hcap10, hR10⟩ : SlR _ _ _), hE⟩
set_option maxRecDepth 100000 in
theorem signers_ok {m : Int} {parent : Nm} {A_l : Option Addr} {c_l lo_l hi_l : Nat} {l : List Vt} {slot : Int} {kind : Int}  {w : World} (hR_l : Rd w lo_l hi_l A_l l) (hl : l.length ≤ 1000000) : Gives Tryz.prog 52 #[(.int .i64 m), (Enc.val (parent : Nm)), (.slice A_l l.length c_l), (.int .i64 slot), (.int .i64 kind)] w fun u w' => (∃ b, u = .map (some b) ∧ w.heap.size ≤ b ∧ Mp w' b (signers_f m parent l slot kind : List (Nm × Int))) ∧ Ext w w' := by
 have hE : Ext w w := Ext.refl w; have hlen_l := hR_l.len; refine gives_of_W Tryz.func52 rfl Tryz.ntmps52 rfl ?_; have hsl := slots_len m parent l slot; refine W.seq ?_; refine W.region (by rfl) ?_; refine L.step rfl (op_box (cs := (Enc.cells (parent : Nm))) rfl rfl rfl) ?_; rintro _ w1 ⟨b1, rfl, hb1, hB1, hx1⟩; have hE := hE.trans hx1; have hR_l := hR_l.ext hx1; refine L.val rfl (op_assign rfl rfl) ?_; refine L.nil ?_; refine thenF_nor ?_; refine W.seq ?_; refine W.region (by rfl) ?_; refine L.step rfl (op_makeMap Nm rfl) ?_; rintro _ w2 ⟨b2, rfl, hb2, hM2, hx2⟩; have hbb2_hE := Nat.le_trans hE.size hb2; have hE := hE.trans hx2; have hR_l := hR_l.ext hx2; have hB1 := hB1.ext hx2; refine L.val rfl (op_assign rfl rfl) ?_; refine L.nil ?_; refine thenF_nor ?_; refine W.seq ?_; refine W.seq ?_; refine W.region (by rfl) ?_; refine L.val rfl (op_move rfl rfl) ?_; refine L.val rfl (op_load (v := (parent : Nm)) rfl rfl ty24 hB1.cells) ?_; refine L.val rfl (op_move rfl rfl) ?_; refine L.val rfl (op_move rfl rfl) ?_; refine L.step rfl (OpS.call (op_call rfl (argsC rfl (argsC rfl (argsC rfl (argsC rfl argsN)))) Tryz.func94 rfl rfl) (slots_ok hR_l (by first | omega | (simp only [List.length_drop, List.length_take, List.length_append, List.length_cons, List.length_nil] at *; omega)))) ?_; rintro _ w3 ⟨⟨A3, c3, lo3, hi3, rfl, hcap3, hR3⟩, hx3⟩; have hE := hE.trans hx3; have hM2 := hM2.ext hx3; have hlen3 := hR3.len; refine L.val rfl (op_len rfl rfl ln25) ?_; refine L.val rfl (op_move rfl rfl) ?_; refine L.nil ?_; refine thenF_nor ?_; refine W.block ?_; have S4_hM2 := hM2; have S4_hR3 := hR3; have S4_hE := hE; refine W.loopg (γ := Nat) (fun (k : Nat) (f : Fr) (ww : World) => k ≤ (slots_f m parent l slot).length ∧ f 4 = (.int .i64 kind) ∧ f 10 = (.map none) ∧ f 19 = (.slice A3 (slots_f m parent l slot).length c3) ∧ f 20 = (.int .i64 ((slots_f m parent l slot).length : Int)) ∧ f 21 = (.int .i64 ((k : Nat) : Int)) ∧ f 11 = (.map (some b2)) ∧ Mp ww b2 (sgOf kind ((slots_f m parent l slot).take k) : List (Nm × Int)) ∧ w3.grownBy ww (some b2)) (fun (k : Nat) => (slots_f m parent l slot).length - k) 0 ⟨(by (try dsimp only); omega), rfl, rfl, rfl, rfl, rfl, rfl, hM2, (grown_refl _ _)⟩ ?_; rintro k f5 w5 ⟨hk, s5_4, s5_10, s5_19, s5_20, s5_21, s5_11, hM5_11, hT5⟩; have hnc5 := S4_hM2.nc; have hR3 := S4_hR3.farM hnc5 hT5; have hE := S4_hE.grown hT5 (by intro k hk; cases hk; exact hbb2_hE); refine W.seq ?_; refine W.region (by rfl) ?_; refine L.val rfl (op_lss rfl s5_21 s5_20) ?_; refine L.nil ?_; refine thenF_nor ?_; refine W.seq ?_; refine W.cond (t := decide (((k : Nat) : Int) < ((slots_f m parent l slot).length : Int))) rfl (fun hc6 => ?_) (fun hc6 => ?_)
 ·have hp6 := hc6; simp only [Bool.and_eq_true, Bool.or_eq_true, Bool.and_eq_false_iff, Bool.or_eq_false_iff, Bool.not_eq_true', Bool.not_eq_false', decide_eq_true_eq, decide_eq_false_iff_not] at hp6; have hsb := slots_sig m parent l slot k (by omega); refine W.skip ?_; refine thenF_nor ?_; refine W.seq ?_; refine W.block ?_; refine W.seq ?_; refine W.region (by rfl) ?_; refine L.val rfl (op_index (k := k) rfl s5_19 s5_21 sl25 (hR3.getA (get_bang (l := slots_f m parent l slot) (k := k) (by omega))).1 rfl (by omega) rfl) ?_; refine L.val rfl (op_load (v := (slots_f m parent l slot)[k]!) rfl rfl ty47 (hR3.getA (get_bang (l := slots_f m parent l slot) (k := k) (by omega))).2) ?_; refine L.newvar (v := (Enc.val ((slots_f m parent l slot)[k]!))) (cs := (Enc.cells (slots_f m parent l slot)[k]!)) rfl rfl rfl rfl rfl rfl (fun _ => rfl) rfl si47 zs47 (Enc.one _) ?_; intro b7 w7 hb7 hB7 hx7; have hbb7_hE := Nat.le_trans hE.size hb7; have hbb7_hT5 := Nat.le_trans hT5.size hb7; have hE := hE.trans hx7; have hT5 := grown_ext hT5 hx7; have hM5_11 := hM5_11.ext hx7; refine L.nil ?_; refine thenF_nor ?_; refine W.seq ?_; refine W.region (by rfl) ?_; refine L.val rfl (op_field rfl rfl fo47_0 rfl) ?_; refine L.val rfl (op_load1 rfl rfl one3 (hB7.cells.one (n := 0) rfl)) ?_; refine L.val rfl (op_move rfl s5_4) ?_; refine L.val rfl (op_eql rfl rfl rfl) ?_; refine L.nil ?_; refine thenF_nor ?_; refine W.cond (t := decide ((((slots_f m parent l slot)[k]!).kind) = kind)) rfl (fun hc8 => ?_) (fun hc8 => ?_)
  ·have hp8 := hc8; simp only [Bool.and_eq_true, Bool.or_eq_true, Bool.and_eq_false_iff, Bool.or_eq_false_iff, Bool.not_eq_true', Bool.not_eq_false', decide_eq_true_eq, decide_eq_false_iff_not] at hp8; have hstep := sg_yes (kind := kind) (A := (slots_f m parent l slot)) (k := k) (by omega) hc8; have hnc9 := hM5_11.nc; refine W.drawU (me := 8) (ex := 9) (es := 10) (l := sgOf kind ((slots_f m parent l slot).take k)) (a := (((slots_f m parent l slot)[k]!).value : Nm)) (v := ior (mget (sgOf kind ((slots_f m parent l slot).take k)) (((slots_f m parent l slot)[k]!).value)) (ishl 1 (((slots_f m parent l slot)[k]!).signer))) mp65 [(.map (some b2)), (.pointer (some ⟨b7, 14, none⟩)), (Enc.val (((slots_f m parent l slot)[k]!).value)), (.int .i64 (mget (sgOf kind ((slots_f m parent l slot).take k)) (((slots_f m parent l slot)[k]!).value))), (.pointer (some ⟨b7, 4, none⟩)), (.int .i64 (((slots_f m parent l slot)[k]!).signer)), (.int .i64 (ishl 1 (((slots_f m parent l slot)[k]!).signer))), (.int .i64 (ior (mget (sgOf kind ((slots_f m parent l slot).take k)) (((slots_f m parent l slot)[k]!).value)) (ishl 1 (((slots_f m parent l slot)[k]!).signer)))), undef, undef, undef] mixed (by rfl) hM5_11 ?_ rfl rfl rfl rfl rfl rfl rfl rfl rfl rfl rfl rfl (fun _ ho hd => ⟨hd 0 rfl rfl, hd 2 rfl rfl⟩) (fun _ ho hd => ⟨hd 0 rfl rfl, hd 7 rfl rfl⟩) ?_
   ·refine VObls.cons ?_ (VObls.cons ?_ (VObls.cons ?_ (VObls.cons ?_ (VObls.cons ?_ (VObls.cons ?_ (VObls.cons ?_ (VObls.cons ?_ (VObls.cons (fun h => nomatch h) (VObls.cons (fun h => nomatch h) (VObls.cons (fun h => nomatch h) VObls.nil))))))))))
    ·intro _ f10 w10 hg10 ho10 hd10 hk10; have d10_s11 : f10 11 = (.map (some b2)) := (ho10 11 rfl).trans s5_11; exact ⟨rfl, (op_move rfl d10_s11), rfl⟩
    ·intro _ f11 w11 hg11 ho11 hd11 hk11; have d11_s13 : f11 13 = (.pointer (some ⟨b7, 0, none⟩)) := ho11 13 rfl; exact ⟨rfl, (op_field rfl d11_s13 fo47_7 rfl), rfl⟩
    ·intro _ f12 w12 hg12 ho12 hd12 hk12; have d12_1 : f12 30 = (.pointer (some ⟨b7, 14, none⟩)) := hd12 1 rfl rfl; have hB7 := hB7.farM hnc9 hg12; exact ⟨rfl, (op_load (v := (((slots_f m parent l slot)[k]!).value : Nm)) rfl d12_1 ty24 (sub_nm 14 hB7.cells rfl)), rfl⟩
    ·intro _ f13 w13 hg13 ho13 hd13 hk13; have d13_0 : f13 29 = (.map (some b2)) := hd13 0 rfl rfl; have d13_2 : f13 31 = (Enc.val (((slots_f m parent l slot)[k]!).value)) := hd13 2 rfl rfl; obtain ⟨lq, hQ, hq⟩ := mu_read (a := (((slots_f m parent l slot)[k]!).value : Nm)) hM5_11.keys hk13 rfl; exact ⟨rfl, op_lookupQ (a := (((slots_f m parent l slot)[k]!).value : Nm)) mp65 rfl d13_0 d13_2 hQ hq, rfl⟩
    ·intro _ f14 w14 hg14 ho14 hd14 hk14; have d14_s13 : f14 13 = (.pointer (some ⟨b7, 0, none⟩)) := ho14 13 rfl; exact ⟨rfl, (op_field rfl d14_s13 fo47_4 rfl), rfl⟩
    ·intro _ f15 w15 hg15 ho15 hd15 hk15; have d15_4 : f15 33 = (.pointer (some ⟨b7, 4, none⟩)) := hd15 4 rfl rfl; have hB7 := hB7.farM hnc9 hg15; exact ⟨rfl, (op_load1 rfl d15_4 one3 (hB7.cells.one (n := 4) rfl)), rfl⟩
    ·intro _ f16 w16 hg16 ho16 hd16 hk16; have d16_5 : f16 34 = (.int .i64 (((slots_f m parent l slot)[k]!).signer)) := hd16 5 rfl rfl; skip; exact ⟨rfl, (op_shl rfl rfl d16_5 (by omega) (by omega)), rfl⟩
    ·intro _ f17 w17 hg17 ho17 hd17 hk17; have d17_3 : f17 32 = (.int .i64 (mget (sgOf kind ((slots_f m parent l slot).take k)) (((slots_f m parent l slot)[k]!).value))) := hd17 3 rfl rfl; have d17_6 : f17 35 = (.int .i64 (ishl 1 (((slots_f m parent l slot)[k]!).signer))) := hd17 6 rfl rfl; exact ⟨rfl, (op_ior rfl d17_3 d17_6), rfl⟩
   intro f18 w18 hg18 ho18 hr18 hM18; have s4 : f18 4 = (.int .i64 kind) := (ho18 4 rfl).trans s5_4; have s10 : f18 10 = (.map none) := (ho18 10 rfl).trans s5_10; have s11 : f18 11 = (.map (some b2)) := (ho18 11 rfl).trans s5_11; have s19 : f18 19 = (.slice A3 (slots_f m parent l slot).length c3) := (ho18 19 rfl).trans s5_19; have s20 : f18 20 = (.int .i64 ((slots_f m parent l slot).length : Int)) := (ho18 20 rfl).trans s5_20; have s21 : f18 21 = (.int .i64 ((k : Nat) : Int)) := (ho18 21 rfl).trans s5_21; have hE := hE.grown hg18 (by intro k hk; cases hk; exact hbb2_hE); have hT5 := grown_trans hT5 hg18; refine blockF_nor ?_; refine thenF_nor ?_; refine W.region (by rfl) ?_; refine L.val rfl (op_add (c := ((k + 1 : Nat) : Int)) rfl s21 rfl (by omega) (by omega)) ?_; refine L.val rfl (op_move rfl rfl) ?_; refine L.nil ?_; refine thenF_nor ?_; exact ⟨k + 1, ⟨(by (try dsimp only); omega), s4, s10, s19, s20, rfl, s11, (by rw [← hstep]; exact hM18), hT5⟩, (by (try dsimp only); omega)⟩
  ·have hp8 := hc8; simp only [Bool.and_eq_true, Bool.or_eq_true, Bool.and_eq_false_iff, Bool.or_eq_false_iff, Bool.not_eq_true', Bool.not_eq_false', decide_eq_true_eq, decide_eq_false_iff_not] at hp8; have hstep := sg_no (kind := kind) (A := (slots_f m parent l slot)) (k := k) (by omega) hc8; refine W.skip ?_; refine blockF_nor ?_; refine thenF_nor ?_; refine W.region (by rfl) ?_; refine L.val rfl (op_add (c := ((k + 1 : Nat) : Int)) rfl s5_21 rfl (by omega) (by omega)) ?_; refine L.val rfl (op_move rfl rfl) ?_; refine L.nil ?_; refine thenF_nor ?_; exact ⟨k + 1, ⟨(by (try dsimp only); omega), s5_4, s5_10, s5_19, s5_20, rfl, s5_11, (by rw [← hstep]; exact hM5_11), hT5⟩, (by (try dsimp only); omega)⟩
 ·have hp6 := hc6; simp only [Bool.and_eq_true, Bool.or_eq_true, Bool.and_eq_false_iff, Bool.or_eq_false_iff, Bool.not_eq_true', Bool.not_eq_false', decide_eq_true_eq, decide_eq_false_iff_not] at hp6; have hkl : k = (slots_f m parent l slot).length := by omega
  rw [hkl, List.take_length] at hM5_11; refine W.exit ?_; refine thenF_exit ?_; refine thenF_exit ?_; refine blockF_hit ?_; refine thenF_nor ?_; refine W.seq ?_; refine W.region (by rfl) ?_; refine L.val rfl (op_move rfl s5_11) ?_; refine L.val rfl (op_assign rfl rfl) ?_; refine L.nil ?_; refine thenF_nor ?_; refine W.ret ?_; exact end_ret1 (v := (.map (some b2))) rfl rfl ⟨⟨_, rfl, hbb2_hE, hM5_11⟩, hE⟩
set_option maxRecDepth 100000 in
theorem ascending151_ok {i : Nat} {j : Nat} {q_l : Addr} {A_l : Option Addr} {c_l lo_l hi_l : Nat} {l : List Nm}  {w : World} (hq_l : Cells w q_l [.slice A_l l.length c_l]) (hR_l : Rd w lo_l hi_l A_l l) (hi : i < l.length) (hj : j < l.length) : Gives Tryz.prog 92 #[(.int .i64 ((i : Nat) : Int)), (.int .i64 ((j : Nat) : Int)), (.pointer (some q_l))] w fun u w' => u = (.bool (hashLess_f l[i]! l[j]!)) ∧ Ext w w' := by
 have hE : Ext w w := Ext.refl w; have hlen_l := hR_l.len; refine gives_of_W Tryz.func92 rfl Tryz.ntmps92 rfl ?_; refine W.seq ?_; refine W.region (by rfl) ?_; refine L.val (v := (.bool false)) rfl (op_assign rfl rfl) ?_; refine L.nil ?_; refine thenF_nor ?_; refine W.seq ?_; refine W.drawS [Sp.eq (.slice A_l l.length c_l), Sp.eq (.int .i64 ((i : Nat) : Int)), Sp.eq (.pointer (some ((adr A_l).add (i * 8)))), Sp.eq (Enc.val (l[i]! : Nm)), Sp.eq (.slice A_l l.length c_l), Sp.eq (.int .i64 ((j : Nat) : Int)), Sp.eq (.pointer (some ((adr A_l).add (j * 8)))), Sp.eq (Enc.val (l[j]! : Nm)), Sp.eq (.bool (hashLess_f (l[i]!) (l[j]!))), Sp.eq (.bool (hashLess_f (l[i]!) (l[j]!)))] mixed (by rfl) (Obls.cons ?_ (Obls.cons ?_ (Obls.cons ?_ (Obls.cons ?_ (Obls.cons ?_ (Obls.cons ?_ (Obls.cons ?_ (Obls.cons ?_ (Obls.cons ?_ (Obls.cons ?_ Obls.nil)))))))))) ?_
 ·intro f2 w2 hx2 ho2 hd2; have d2_s2 : f2 2 = (.pointer (some q_l)) := ho2 2 rfl; have hq_l := hq_l.ext hx2; exact D.val rfl (op_load1 rfl d2_s2 one28 (hq_l.one (n := 0) rfl))
 ·intro f3 w3 hx3 ho3 hd3; have d3_s0 : f3 0 = (.int .i64 ((i : Nat) : Int)) := ho3 0 rfl; exact D.val rfl (op_move rfl d3_s0)
 ·intro f4 w4 hx4 ho4 hd4; have d4_0 : f4 6 = (.slice A_l l.length c_l) := hd4 0 rfl; have d4_1 : f4 7 = (.int .i64 ((i : Nat) : Int)) := hd4 1 rfl; have hR_l := hR_l.ext hx4; skip; exact D.val rfl (op_index (k := i) rfl d4_0 d4_1 sl28 (hR_l.getA (get_bang (l := l) (k := i) (by omega))).1 rfl (by omega) rfl)
 ·intro f5 w5 hx5 ho5 hd5; have d5_2 : f5 8 = (.pointer (some ((adr A_l).add (i * 8)))) := hd5 2 rfl; have hR_l := hR_l.ext hx5; skip; exact D.val rfl (op_load (v := (l[i]! : Nm)) rfl d5_2 ty24 (hR_l.getA (get_bang (l := l) (k := i) (by omega))).2)
 ·intro f6 w6 hx6 ho6 hd6; have d6_s2 : f6 2 = (.pointer (some q_l)) := ho6 2 rfl; have hq_l := hq_l.ext hx6; exact D.val rfl (op_load1 rfl d6_s2 one28 (hq_l.one (n := 0) rfl))
 ·intro f7 w7 hx7 ho7 hd7; have d7_s1 : f7 1 = (.int .i64 ((j : Nat) : Int)) := ho7 1 rfl; exact D.val rfl (op_move rfl d7_s1)
 ·intro f8 w8 hx8 ho8 hd8; have d8_4 : f8 10 = (.slice A_l l.length c_l) := hd8 4 rfl; have d8_5 : f8 11 = (.int .i64 ((j : Nat) : Int)) := hd8 5 rfl; have hR_l := hR_l.ext hx8; skip; exact D.val rfl (op_index (k := j) rfl d8_4 d8_5 sl28 (hR_l.getA (get_bang (l := l) (k := j) (by omega))).1 rfl (by omega) rfl)
 ·intro f9 w9 hx9 ho9 hd9; have d9_6 : f9 12 = (.pointer (some ((adr A_l).add (j * 8)))) := hd9 6 rfl; have hR_l := hR_l.ext hx9; skip; exact D.val rfl (op_load (v := (l[j]! : Nm)) rfl d9_6 ty24 (hR_l.getA (get_bang (l := l) (k := j) (by omega))).2)
 ·intro f10 w10 hx10 ho10 hd10; have d10_3 : f10 9 = (Enc.val (l[i]! : Nm)) := hd10 3 rfl; have d10_7 : f10 13 = (Enc.val (l[j]! : Nm)) := hd10 7 rfl; exact D.call (R := (Sp.eq (.bool (hashLess_f (l[i]!) (l[j]!)))).p) rfl (OpS.call (op_call rfl (argsC d10_3 (argsC d10_7 argsN)) Tryz.func93 rfl rfl) hashLess_ok)
 ·intro f11 w11 hx11 ho11 hd11; have d11_8 : f11 14 = (.bool (hashLess_f (l[i]!) (l[j]!))) := hd11 8 rfl; exact D.val rfl (op_assign rfl d11_8)
 intro f12 w12 hx12 ho12 hr12; have s5 : f12 5 = (.bool (hashLess_f (l[i]!) (l[j]!))) := hr12 9 (by decide); have hE := hE.trans hx12; refine thenF_nor ?_; refine W.ret ?_; exact end_ret1 (v := (.bool (hashLess_f (l[i]!) (l[j]!)))) rfl s5 ⟨rfl, hE⟩
set_option maxRecDepth 100000 in
set_option maxHeartbeats 4000000 in
theorem ascending15_ok {b_b : Nat} {b : List (Nm × Int)} {n : Int}  {w : World} (hM_b : Mp w b_b b) (hl : b.length ≤ 1000000) : Gives Tryz.prog 51 #[(.map (some b_b)), (.int .i64 n)] w fun u w' => SlR w' u (ascending15_f b n : List Nm) ∧ Ext w w' := by
 have hE : Ext w w := Ext.refl w; refine gives_of_W Tryz.func51 rfl Tryz.ntmps51 rfl ?_; refine W.seq ?_; refine W.region (by rfl) ?_; refine L.val rfl (op_assign rfl rfl) ?_; refine L.nil ?_; refine thenF_nor ?_; refine W.seq ?_; have S1_hM_b := hM_b; have S1_hE := hE; have hS1 : Ext w w := Ext.refl _; refine W.region (by rfl) ?_; refine L.step rfl (op_alloc (z := (.slice none 0 0)) (cs := [(.slice none 0 0)]) rfl (by kernel_rfl) rfl) ?_; rintro _ w2 ⟨b2, rfl, hb2, hB2, hx2⟩; have hbb2_hE := Nat.le_trans hE.size hb2; have hbb2_hS1 := Nat.le_trans hS1.size hb2; have hE := hE.trans hx2; have hS1 := hS1.trans hx2; have hM_b := hM_b.ext hx2; refine L.nil ?_; refine thenF_nor ?_; refine W.seq ?_; refine W.seq ?_; refine W.region (by rfl) ?_; refine L.val rfl (op_move rfl rfl) ?_; refine L.step rfl (op_range rfl Tryz.underlying65 rfl hM_b) ?_; rintro _ w3 ⟨b3, rfl, hb3, hG3, hx3⟩; have hbb3_hE := Nat.le_trans hE.size hb3; have hbb3_hS1 := Nat.le_trans hS1.size hb3; have hE := hE.trans hx3; have hS1 := hS1.trans hx3; have hB2 := hB2.ext hx3; refine L.nil ?_; refine thenF_nor ?_; refine W.block ?_; refine W.loopg (γ := List (Nm × Int)) (fun (done : List (Nm × Int)) (f : Fr) (ww : World) => f 1 = (.int .i64 n) ∧ f 4 = (.slice none 0 0) ∧ f 5 = (.pointer (some ⟨b2, 0, none⟩)) ∧ (∃ vv, Box ww b2 28 [vv] ∧ Fk.Own ww (b2 + 1) 24 vv ((done.filter (ascOut n)).map Prod.fst)) ∧ f 9 = (.pointer (some ⟨b3, 0, none⟩)) ∧ Rg ww b_b b3 b done ∧ Ext w ww) (fun (done : List (Nm × Int)) => b.length - done.length) ([] : List (Nm × Int)) ⟨rfl, rfl, rfl, ⟨_, hB2, Fk.Own.nil _ _ _⟩, rfl, hG3, hS1⟩ ?_; rintro done f4 w4 ⟨s4_1, s4_4, s4_5, hM4_5, s4_9, hG4_9, hS1⟩; have hE := S1_hE.trans hS1; obtain ⟨v4_5, hB4_5, hO4_5⟩ := hM4_5; have hfl := List.length_filter_le (ascOut n) done; have hml : ((done.filter (ascOut n)).map Prod.fst).length = (done.filter (ascOut n)).length := List.length_map _; have hgl0 := hG4_9.len; refine W.seq ?_; refine W.region (by rfl) ?_; refine L.step rfl (op_nextE rfl s4_9 hG4_9) ?_; rintro _ w5 (⟨rfl, hpm5, hx5⟩ | ⟨p5, hpl5, hpn5, rfl, hG5, hg5, hsz5⟩)
 ·have hE := hE.trans hx5; have hS1 := hS1.trans hx5; have hB4_5 := hB4_5.ext hx5; have hO4_5 := hO4_5.ext hx5; refine L.val (v := (.bool false)) rfl (op_extract rfl rfl rfl) ?_; refine L.nil ?_; refine thenF_nor ?_; refine W.seq ?_; refine W.cond (t := false) rfl (fun h => nomatch h) (fun _ => ?_); refine W.exit ?_; refine thenF_exit ?_; refine thenF_exit ?_; refine blockF_hit ?_; refine thenF_nor ?_; refine W.seq ?_; obtain ⟨A6, c6, hv6, hR6, hcap6⟩ := (hO4_5).form; have hlen6 := hR6.len; have hBs6 := hB4_5; rw [hv6] at hBs6; refine W.region (by rfl) ?_; refine L.val rfl (op_load1 rfl s4_5 one28 (hBs6.cells.one (n := 0) rfl)) ?_; refine L.val rfl (op_iface rfl rfl (by kernel_rfl)) ?_; refine L.val rfl (op_func rfl (argsC s4_5 argsN)) ?_; have hOs6 := hO4_5; rw [hv6] at hOs6; refine L.step rfl (OpS.call (op_call rfl (argsC rfl (argsC rfl argsN)) Tryz.func62 rfl rfl) (sortSlice_ok st28 nm_lin.swo hOs6 (by omega) (fun blk eA => by subst eA; exact lessOk_box Tryz.func92 rfl rfl ascending151_ok hBs6 (by have hh := hOs6.lt blk rfl; omega) hlen6))) ?_; rintro _ w7 ⟨rfl, ls7, hpm7, hsl7, hso7, hR7, hg7⟩; have hBz7 := hBs6.far hg7 (hOs6.ne' (Nat.lt_succ_self _)); have hS1 := hS1.own (hOs6.lower (by omega)) hg7; rw [← hsl7] at hBz7; have hlen7 := hR7.len; have hM_b := S1_hM_b.ext hS1; have hE := S1_hE.trans hS1; refine L.nil ?_; refine thenF_nor ?_; refine W.seq ?_; refine W.region (by rfl) ?_; refine L.val rfl (op_load1 rfl s4_5 one28 (hBz7.cells.one (n := 0) rfl)) ?_; refine L.val rfl (op_assign rfl rfl) ?_; refine L.nil ?_; refine thenF_nor ?_; refine W.ret ?_; exact end_ret1 (v := (.slice A6 ls7.length c6)) rfl rfl ⟨(by have hdd := asc15_eq (n := n) hM_b.keys hpm5 hpm7 hso7; rw [← hdd]; exact (⟨_, _, _, _, rfl, (Nat.le_trans (Nat.le_of_eq hsl7) hcap6), hR7⟩ : SlR _ _ _)), hE⟩
 ·have hnc5 := hG4_9.nc; have hE := hE.grown hg5 (by intro k hk; cases hk; exact hbb3_hE); have hS1 := hS1.grown hg5 (by intro k hk; cases hk; exact hbb3_hS1); have hB4_5 := hB4_5.farM hnc5 hg5; have hO4_5 := hO4_5.farM hnc5 hg5; refine L.val (v := (.bool true)) rfl (op_extract rfl rfl rfl) ?_; refine L.nil ?_; refine thenF_nor ?_; refine W.seq ?_; refine W.cond (t := true) rfl (fun _ => ?_) (fun h => nomatch h); refine W.skip ?_; refine thenF_nor ?_; refine W.block ?_; refine W.seq ?_; refine W.region (by rfl) ?_; refine L.val rfl (op_entry rfl s4_9 hG5) ?_; refine L.val rfl (op_extract rfl rfl rfl) ?_; refine L.val rfl (op_extract rfl rfl rfl) ?_; refine L.newvar (v := (Enc.val (p5.1 : Nm))) (cs := (Enc.cells (p5.1 : Nm))) rfl rfl rfl rfl rfl rfl (fun _ => rfl) rfl si24 zs24 (Enc.one _) ?_; intro b8 w8 hb8 hB8 hx8; have hbb8_hE := Nat.le_trans hE.size hb8; have hbb8_hS1 := Nat.le_trans hS1.size hb8; have hE := hE.trans hx8; have hS1 := hS1.trans hx8; have hB4_5 := hB4_5.ext hx8; have hO4_5 := hO4_5.ext hx8; have hG5 := hG5.ext hx8; refine L.val rfl (op_assign rfl rfl) ?_; refine L.nil ?_; refine thenF_nor ?_; refine W.seq ?_; refine W.region (by rfl) ?_; refine L.val rfl (op_load (v := (p5.1 : Nm)) rfl rfl ty24 hB8.cells) ?_; refine L.val rfl (op_build (v := Enc.val (Nm.zero : Nm)) (cs := Enc.cells (Nm.zero : Nm)) rfl partsN (by kernel_rfl) rfl) ?_; refine L.val rfl (op_neqe (a := (p5.1 : Nm)) (b := (Nm.zero : Nm)) rfl rfl rfl eq24 (fun _ => ⟨_, rfl⟩) Tryz.eqGuardType24) ?_; refine L.val rfl (op_move rfl rfl) ?_; refine L.guardv (v := (.int .i64 p5.2)) (wanted_yes rfl rfl rfl) (fun hg => (op_move rfl rfl)) ?_; refine L.guardc (v := (.int .i64 (size_f p5.2))) (wanted_yes rfl rfl rfl) (fun hg => (OpS.call (op_call rfl (argsC ((show _ = vif _ (.int .i64 p5.2) from rfl).trans (vif_t hg).symm) argsN) Tryz.func56 rfl rfl) Size_ok)) ?_; intro w9 hx9; have hE := hE.trans hx9; have hS1 := hS1.trans hx9; have hB4_5 := hB4_5.ext hx9; have hO4_5 := hO4_5.ext hx9; have hG5 := hG5.ext hx9; have hB8 := hB8.ext hx9; refine L.guardv (v := (.int .i64 n)) (wanted_yes rfl rfl rfl) (fun hg => (op_move rfl s4_1)) ?_; refine L.guardv (v := (.bool (decide (n ≤ (size_f p5.2))))) (wanted_yes rfl rfl rfl) (fun hg => (op_geq rfl ((show _ = vif _ (.int .i64 (size_f p5.2)) from rfl).trans (vif_t hg).symm) ((show _ = vif _ (.int .i64 n) from rfl).trans (vif_t hg).symm))) ?_; refine L.val rfl (op_and rfl rfl rfl rfl) ?_; refine L.nil ?_; refine thenF_nor ?_; refine W.cond (t := (!decide (p5.1 = Nm.zero)) && (decide (n ≤ (size_f p5.2)))) rfl (fun hc10 => ?_) (fun hc10 => ?_)
  ·have hp10 := hc10; simp only [Bool.and_eq_true, Bool.or_eq_true, Bool.and_eq_false_iff, Bool.or_eq_false_iff, Bool.not_eq_true', Bool.not_eq_false', decide_eq_true_eq, decide_eq_false_iff_not] at hp10; have hstep := outs_yes (keep := (ascOut n)) (done := done) (p := p5) hc10; refine W.region (by rfl) ?_; refine L.val rfl (op_load1 rfl s4_5 one28 (hB4_5.cells.one (n := 0) rfl)) ?_; refine L.val rfl (op_load (v := (p5.1 : Nm)) rfl rfl ty24 hB8.cells) ?_; refine L.step rfl (op_slice1 (a := (p5.1 : Nm)) rfl rfl sl28 zs24 (by decide)) ?_; rintro _ w11 ⟨b11, rfl, hb11, hB11, hx11⟩; have hE := hE.trans hx11; have hS1 := hS1.trans hx11; have hB4_5 := hB4_5.ext hx11; have hO4_5 := hO4_5.ext hx11; have hG5 := hG5.ext hx11; refine L.step rfl (op_append (a := (p5.1 : Nm)) (ad := ⟨b11, 0, none⟩) rfl rfl rfl sl28 zs24 bt24 hO4_5 hB11.cells (by omega) (by decide) (Nat.succ_le_of_lt hB4_5.lt)) ?_; rintro v12 w12 ⟨hO12, hg12⟩; have hS1 := hS1.own (hO4_5.lower (by omega)) hg12; have hG5 := hG5.farO hO4_5 hg12; have hB4_5 := hB4_5.far hg12 (hO4_5.ne' (Nat.lt_succ_self _)); have hE := S1_hE.trans hS1; refine L.step rfl (op_put (v := v12) rfl s4_5 rfl si28 hB4_5 (Nat.le_of_ble_eq_true rfl) hO12.cells hO12.onec) ?_; rintro _ w13 ⟨hB13, hg13⟩; have hO12 := (hO12).kept hg13 (hO12.ne (Nat.lt_succ_self _)); have hS1 := hS1.grown hg13 (by intro k hk; cases hk; omega); have hG5 := hG5.farB hB4_5 hg13; have hE := S1_hE.trans hS1; have hB4_5 := hB13; refine L.nil ?_; refine blockF_nor ?_; refine thenF_nor ?_; exact ⟨(done ++ [p5]), ⟨s4_1, s4_4, s4_5, (by rw [← hstep]; exact ⟨_, hB4_5, hO12⟩), s4_9, hG5, hS1⟩, (by have hgl := hG5.len; simp only [List.length_append, List.length_cons, List.length_nil] at hgl ⊢; omega)⟩
  ·have hp10 := hc10; simp only [Bool.and_eq_true, Bool.or_eq_true, Bool.and_eq_false_iff, Bool.or_eq_false_iff, Bool.not_eq_true', Bool.not_eq_false', decide_eq_true_eq, decide_eq_false_iff_not] at hp10; have hstep := outs_no (keep := (ascOut n)) (done := done) (p := p5) hc10; refine W.skip ?_; refine blockF_nor ?_; refine thenF_nor ?_; exact ⟨(done ++ [p5]), ⟨s4_1, s4_4, s4_5, (by rw [← hstep]; exact ⟨_, hB4_5, hO4_5⟩), s4_9, hG5, hS1⟩, (by have hgl := hG5.len; simp only [List.length_append, List.length_cons, List.length_nil] at hgl ⊢; omega)⟩
set_option maxRecDepth 100000 in
theorem Proposals_ok {m : Int} {parent : Nm} {A_l : Option Addr} {c_l lo_l hi_l : Nat} {l : List Vt} {slot : Int}  {w : World} (hR_l : Rd w lo_l hi_l A_l l) (hl : l.length ≤ 1000000) : Gives Tryz.prog 16 #[(.int .i64 m), (Enc.val (parent : Nm)), (.slice A_l l.length c_l), (.int .i64 slot)] w fun u w' => SlR w' u (proposals_f m parent l slot : List Nm) ∧ Ext w w' := by
 have hE : Ext w w := Ext.refl w; have hlen_l := hR_l.len; refine gives_of_W Tryz.func16 rfl Tryz.ntmps16 rfl ?_; have hsl := signers_len m parent l slot 1; refine W.seq ?_; refine W.region (by rfl) ?_; refine L.step rfl (op_box (cs := (Enc.cells (parent : Nm))) rfl rfl rfl) ?_; rintro _ w1 ⟨b1, rfl, hb1, hB1, hx1⟩; have hE := hE.trans hx1; have hR_l := hR_l.ext hx1; refine L.val rfl (op_assign rfl rfl) ?_; refine L.nil ?_; refine thenF_nor ?_; refine W.seq ?_; refine W.region (by rfl) ?_; refine L.val rfl (op_move rfl rfl) ?_; refine L.val rfl (op_load (v := (parent : Nm)) rfl rfl ty24 hB1.cells) ?_; refine L.val rfl (op_move rfl rfl) ?_; refine L.val rfl (op_move rfl rfl) ?_; refine L.step rfl (OpS.call (op_call rfl (argsC rfl (argsC rfl (argsC rfl (argsC rfl (argsC rfl argsN))))) Tryz.func52 rfl rfl) (signers_ok hR_l (by first | omega | (simp only [List.length_drop, List.length_take, List.length_append, List.length_cons, List.length_nil] at *; omega)))) ?_; rintro _ w2 ⟨⟨b2, rfl, hb2, hM2⟩, hx2⟩; have hbb2_hE := Nat.le_trans hE.size hb2; have hE := hE.trans hx2; refine L.step rfl (OpS.call (op_call rfl (argsC rfl (argsC rfl argsN)) Tryz.func51 rfl rfl) (ascending15_ok hM2 (by first | omega | (simp only [List.length_drop, List.length_take, List.length_append, List.length_cons, List.length_nil] at *; omega)))) ?_; rintro _ w3 ⟨⟨A3, c3, lo3, hi3, rfl, hcap3, hR3⟩, hx3⟩; have hE := hE.trans hx3; have hlen3 := hR3.len; refine L.val rfl (op_assign rfl rfl) ?_; refine L.nil ?_; refine thenF_nor ?_; refine W.ret ?_; exact end_ret1 (v := (.slice A3 (ascending15_f (signers_f m parent l slot 1) 1).length c3)) rfl rfl ⟨(⟨_, _, _, _, rfl, hcap3, hR3⟩ : SlR _ _ _), hE⟩
set_option maxRecDepth 100000 in
theorem Certified_ok {m : Int} {parent : Nm} {A_l : Option Addr} {c_l lo_l hi_l : Nat} {l : List Vt} {slot : Int}  {w : World} (hR_l : Rd w lo_l hi_l A_l l) (hl : l.length ≤ 1000000) : Gives Tryz.prog 18 #[(.int .i64 m), (Enc.val (parent : Nm)), (.slice A_l l.length c_l), (.int .i64 slot)] w fun u w' => SlR w' u (certified_f m parent l slot : List Nm) ∧ Ext w w' := by
 have hE : Ext w w := Ext.refl w; have hlen_l := hR_l.len; refine gives_of_W Tryz.func18 rfl Tryz.ntmps18 rfl ?_; have hsl := signers_len m parent l slot 2; have hsz0 := size_nn m; have hsz1 := size_le m; refine W.seq ?_; refine W.region (by rfl) ?_; refine L.step rfl (op_box (cs := (Enc.cells (parent : Nm))) rfl rfl rfl) ?_; rintro _ w1 ⟨b1, rfl, hb1, hB1, hx1⟩; have hE := hE.trans hx1; have hR_l := hR_l.ext hx1; refine L.val rfl (op_assign rfl rfl) ?_; refine L.nil ?_; refine thenF_nor ?_; refine W.seq ?_; refine W.region (by rfl) ?_; refine L.val rfl (op_move rfl rfl) ?_; refine L.val rfl (op_load (v := (parent : Nm)) rfl rfl ty24 hB1.cells) ?_; refine L.val rfl (op_move rfl rfl) ?_; refine L.val rfl (op_move rfl rfl) ?_; refine L.step rfl (OpS.call (op_call rfl (argsC rfl (argsC rfl (argsC rfl (argsC rfl (argsC rfl argsN))))) Tryz.func52 rfl rfl) (signers_ok hR_l (by first | omega | (simp only [List.length_drop, List.length_take, List.length_append, List.length_cons, List.length_nil] at *; omega)))) ?_; rintro _ w2 ⟨⟨b2, rfl, hb2, hM2⟩, hx2⟩; have hbb2_hE := Nat.le_trans hE.size hb2; have hE := hE.trans hx2; refine L.val rfl (op_move rfl rfl) ?_; refine L.call (v := (.int .i64 (size_f m))) rfl (OpS.call (op_call rfl (argsC rfl argsN) Tryz.func56 rfl rfl) Size_ok) ?_; intro w3 hx3; have hE := hE.trans hx3; have hM2 := hM2.ext hx3; refine L.call (v := (.int .i64 (quorum_f (size_f m)))) rfl (OpS.call (op_call rfl (argsC rfl argsN) Tryz.func55 rfl rfl) (Quorum_ok (by first | omega | (simp only [List.length_drop, List.length_take, List.length_append, List.length_cons, List.length_nil] at *; omega)) (by first | omega | (simp only [List.length_drop, List.length_take, List.length_append, List.length_cons, List.length_nil] at *; omega)))) ?_; intro w4 hx4; have hE := hE.trans hx4; have hM2 := hM2.ext hx4; refine L.step rfl (OpS.call (op_call rfl (argsC rfl (argsC rfl argsN)) Tryz.func51 rfl rfl) (ascending15_ok hM2 (by first | omega | (simp only [List.length_drop, List.length_take, List.length_append, List.length_cons, List.length_nil] at *; omega)))) ?_; rintro _ w5 ⟨⟨A5, c5, lo5, hi5, rfl, hcap5, hR5⟩, hx5⟩; have hE := hE.trans hx5; have hlen5 := hR5.len; refine L.val rfl (op_assign rfl rfl) ?_; refine L.nil ?_; refine thenF_nor ?_; refine W.ret ?_; exact end_ret1 (v := (.slice A5 (ascending15_f (signers_f m parent l slot 2) (quorum_f (size_f m))).length c5)) rfl rfl ⟨(⟨_, _, _, _, rfl, hcap5, hR5⟩ : SlR _ _ _), hE⟩
set_option maxRecDepth 100000 in
theorem Echoers_ok {m : Int} {parent : Nm} {A_l : Option Addr} {c_l lo_l hi_l : Nat} {l : List Vt} {slot : Int} {value : Nm}  {w : World} (hR_l : Rd w lo_l hi_l A_l l) (hl : l.length ≤ 1000000) : Gives Tryz.prog 20 #[(.int .i64 m), (Enc.val (parent : Nm)), (.slice A_l l.length c_l), (.int .i64 slot), (Enc.val (value : Nm))] w fun u w' => u = (.int .i64 (echoers_f m parent l slot value)) ∧ Ext w w' := by
 have hE : Ext w w := Ext.refl w; have hlen_l := hR_l.len; refine gives_of_W Tryz.func20 rfl Tryz.ntmps20 rfl ?_; refine W.seq ?_; refine W.region (by rfl) ?_; refine L.step rfl (op_box (cs := (Enc.cells (parent : Nm))) rfl rfl rfl) ?_; rintro _ w1 ⟨b1, rfl, hb1, hB1, hx1⟩; have hE := hE.trans hx1; have hR_l := hR_l.ext hx1; refine L.step rfl (op_box (cs := (Enc.cells (value : Nm))) rfl rfl rfl) ?_; rintro _ w2 ⟨b2, rfl, hb2, hB2, hx2⟩; have hE := hE.trans hx2; have hR_l := hR_l.ext hx2; have hB1 := hB1.ext hx2; refine L.val rfl (op_assign rfl rfl) ?_; refine L.nil ?_; refine thenF_nor ?_; refine W.seq ?_; refine W.drawS [Sp.eq (.int .i64 m), Sp.eq (Enc.val (parent : Nm)), Sp.eq (.slice A_l l.length c_l), Sp.eq (.int .i64 slot), Sp.mapR (signers_f m parent l slot 2 : List (Nm × Int)), Sp.eq (Enc.val (value : Nm)), Sp.eq (.int .i64 (mget (signers_f m parent l slot 2) value)), Sp.eq (.int .i64 (mget (signers_f m parent l slot 2) value))] mixed (by rfl) (Obls.cons ?_ (Obls.cons ?_ (Obls.cons ?_ (Obls.cons ?_ (Obls.cons ?_ (Obls.cons ?_ (Obls.cons ?_ (Obls.cons ?_ Obls.nil)))))))) ?_
 ·intro f4 w4 hx4 ho4 hd4; have d4_s0 : f4 0 = (.int .i64 m) := ho4 0 rfl; exact D.val rfl (op_move rfl d4_s0)
 ·intro f5 w5 hx5 ho5 hd5; have d5_s6 : f5 6 = (.pointer (some ⟨b1, 0, none⟩)) := ho5 6 rfl; have hB1 := hB1.ext hx5; exact D.val rfl (op_load (v := (parent : Nm)) rfl d5_s6 ty24 hB1.cells)
 ·intro f6 w6 hx6 ho6 hd6; have d6_s2 : f6 2 = (.slice A_l l.length c_l) := ho6 2 rfl; exact D.val rfl (op_move rfl d6_s2)
 ·intro f7 w7 hx7 ho7 hd7; have d7_s3 : f7 3 = (.int .i64 slot) := ho7 3 rfl; exact D.val rfl (op_move rfl d7_s3)
 ·intro f8 w8 hx8 ho8 hd8; have d8_0 : f8 11 = (.int .i64 m) := hd8 0 rfl; have d8_1 : f8 12 = (Enc.val (parent : Nm)) := hd8 1 rfl; have d8_2 : f8 13 = (.slice A_l l.length c_l) := hd8 2 rfl; have d8_3 : f8 14 = (.int .i64 slot) := hd8 3 rfl; have hR_l := hR_l.ext hx8; exact D.call (R := (Sp.mapR (signers_f m parent l slot 2 : List (Nm × Int))).p) rfl (OpS.mono (OpS.call (op_call rfl (argsC d8_0 (argsC d8_1 (argsC d8_2 (argsC d8_3 (argsC rfl argsN))))) Tryz.func52 rfl rfl) (signers_ok hR_l (by first | omega | (simp only [List.length_drop, List.length_take, List.length_append, List.length_cons, List.length_nil] at *; omega)))) fun _ _ ⟨⟨b, h1, _, h2⟩, h3⟩ => ⟨⟨b, h1, h2⟩, h3⟩)
 ·intro f9 w9 hx9 ho9 hd9; have d9_s9 : f9 9 = (.pointer (some ⟨b2, 0, none⟩)) := ho9 9 rfl; have hB2 := hB2.ext hx9; exact D.val rfl (op_load (v := (value : Nm)) rfl d9_s9 ty24 hB2.cells)
 ·intro f10 w10 hx10 ho10 hd10; obtain ⟨b10_4, e10_4, hM10_4⟩ := hd10 4 rfl; have d10_5 : f10 16 = (Enc.val (value : Nm)) := hd10 5 rfl; exact D.val rfl (op_lookup (a := (value : Nm)) mp65 rfl e10_4 d10_5 hM10_4)
 ·intro f11 w11 hx11 ho11 hd11; have d11_6 : f11 17 = (.int .i64 (mget (signers_f m parent l slot 2) value)) := hd11 6 rfl; exact D.val rfl (op_assign rfl d11_6)
 intro f12 w12 hx12 ho12 hr12; have s10 : f12 10 = (.int .i64 (mget (signers_f m parent l slot 2) value)) := hr12 7 (by decide); have hE := hE.trans hx12; refine thenF_nor ?_; refine W.ret ?_; exact end_ret1 (v := (.int .i64 (mget (signers_f m parent l slot 2) value))) rfl s10 ⟨rfl, hE⟩
end Go.Proofs.YtdknjfmjddlphaaGreat
set_option linter.unusedSimpArgs false
set_option linter.unusedVariables false
namespace Go.Proofs.YtdknjfmjddlphaaGreat
open Go Go.Fk
set_option maxRecDepth 100000 in
theorem of16_ok {v : Vt}  {w : World}  : Gives Tryz.prog 125 #[(Enc.val (v : Vt))] w fun u w' => u = (Enc.val (of_f v : Ch)) ∧ Ext w w' := by
 have hE : Ext w w := Ext.refl w; refine gives_of_W Tryz.func125 rfl Tryz.ntmps125 rfl ?_; refine W.seq ?_; refine W.region (by rfl) ?_; refine L.step rfl (op_box (cs := (Enc.cells (v : Vt))) rfl rfl rfl) ?_; rintro _ w1 ⟨b1, rfl, hb1, hB1, hx1⟩; have hE := hE.trans hx1; have A2_hE := hE; refine L.step rfl (op_alloc (z := Enc.val (default : Ch)) (cs := Enc.cells (default : Ch)) rfl (by kernel_rfl) rfl) ?_; rintro _ w2 ⟨b2, rfl, hb2, hB2, hx2⟩; have hbb2_hE := Nat.le_trans hE.size hb2; have hE := hE.trans hx2; have hB1 := hB1.ext hx2; refine L.nil ?_; refine thenF_nor ?_; refine W.seq ?_; refine W.region (by rfl) ?_; refine L.val rfl (op_field rfl rfl fo47_3 rfl) ?_; refine L.val rfl (op_load1 rfl rfl one3 (hB1.cells.one (n := 3) rfl)) ?_; refine L.val rfl (op_field rfl rfl fo47_7 rfl) ?_; refine L.val rfl (op_load (v := (v.value : Nm)) rfl rfl ty24 (sub_nm 14 hB1.cells rfl)) ?_; refine L.val rfl (op_build (v := Enc.val (⟨v.choice, v.value⟩ : Ch)) (cs := Enc.cells (⟨v.choice, v.value⟩ : Ch)) rfl (partsC rfl (partsC rfl partsN)) (by kernel_rfl) rfl) ?_; refine L.step rfl (op_fillbox (v := (Enc.val (⟨v.choice, v.value⟩ : Ch))) (vs := (Enc.cells (⟨v.choice, v.value⟩ : Ch))) rfl rfl rfl rfl si133 hB2 (by simp [Enc.len]) (Enc.one _)) ?_; rintro _ w3 ⟨hB2, hg3⟩; have hxx3 : Ext w1 w3 := hx2.grown hg3 (by intro k hk; cases hk; exact hb2); have hE := A2_hE.trans hxx3; refine L.nil ?_; refine thenF_nor ?_; refine W.ret ?_; exact end_ret1c (x := (⟨v.choice, v.value⟩ : Ch)) rfl ty133 rfl hB2.cells ⟨rfl, hE⟩
set_option maxRecDepth 100000 in
theorem valLess_ok {a : Ch} {b : Ch}  {w : World}  : Gives Tryz.prog 179 #[(Enc.val (a : Ch)), (Enc.val (b : Ch))] w fun u w' => u = (.bool (valLess_f a b)) ∧ Ext w w' := by
 have hE : Ext w w := Ext.refl w; refine gives_of_W Tryz.func179 rfl Tryz.ntmps179 rfl ?_; refine W.seq ?_; refine W.region (by rfl) ?_; refine L.step rfl (op_box (cs := (Enc.cells (a : Ch))) rfl rfl rfl) ?_; rintro _ w1 ⟨b1, rfl, hb1, hB1, hx1⟩; have hE := hE.trans hx1; refine L.step rfl (op_box (cs := (Enc.cells (b : Ch))) rfl rfl rfl) ?_; rintro _ w2 ⟨b2, rfl, hb2, hB2, hx2⟩; have hE := hE.trans hx2; have hB1 := hB1.ext hx2; refine L.val (v := (.bool false)) rfl (op_assign rfl rfl) ?_; refine L.nil ?_; refine thenF_nor ?_; refine W.seq ?_; refine W.seq ?_; refine W.region (by rfl) ?_; refine L.val rfl (op_field rfl rfl fo133_0 rfl) ?_; refine L.val rfl (op_load1 rfl rfl one3 (hB1.cells.one (n := 0) rfl)) ?_; refine L.val rfl (op_field rfl rfl fo133_0 rfl) ?_; refine L.val rfl (op_load1 rfl rfl one3 (hB2.cells.one (n := 0) rfl)) ?_; refine L.val rfl (op_neq rfl rfl rfl) ?_; refine L.nil ?_; refine thenF_nor ?_; refine W.cond (t := !decide (a.validator = b.validator)) rfl (fun hc3 => ?_) (fun hc3 => ?_)
 ·have hp3 := hc3; (try simp only [Bool.and_eq_true, Bool.or_eq_true, Bool.and_eq_false_iff, Bool.or_eq_false_iff, Bool.not_eq_true', Bool.not_eq_false', decide_eq_true_eq, decide_eq_false_iff_not] at hp3); refine W.seq ?_; refine W.region (by rfl) ?_; refine L.val rfl (op_field rfl rfl fo133_0 rfl) ?_; refine L.val rfl (op_load1 rfl rfl one3 (hB1.cells.one (n := 0) rfl)) ?_; refine L.val rfl (op_field rfl rfl fo133_0 rfl) ?_; refine L.val rfl (op_load1 rfl rfl one3 (hB2.cells.one (n := 0) rfl)) ?_; refine L.val rfl (op_lss rfl rfl rfl) ?_; refine L.val rfl (op_assign rfl rfl) ?_; refine L.nil ?_; refine thenF_nor ?_; refine W.ret ?_; refine thenF_ret ?_; exact end_ret1 (v := (.bool (decide (a.validator < b.validator)))) rfl rfl ⟨(by simp only [valLess_f, hc3, cond_true]), hE⟩
 ·have hp3 := hc3; (try simp only [Bool.and_eq_true, Bool.or_eq_true, Bool.and_eq_false_iff, Bool.or_eq_false_iff, Bool.not_eq_true', Bool.not_eq_false', decide_eq_true_eq, decide_eq_false_iff_not] at hp3); refine W.skip ?_; refine thenF_nor ?_; refine W.seq ?_; refine W.region (by rfl) ?_; refine L.val rfl (op_field rfl rfl fo133_1 rfl) ?_; refine L.val rfl (op_load (v := (a.value : Nm)) rfl rfl ty24 (sub_nm 1 hB1.cells rfl)) ?_; refine L.val rfl (op_field rfl rfl fo133_1 rfl) ?_; refine L.val rfl (op_load (v := (b.value : Nm)) rfl rfl ty24 (sub_nm 1 hB2.cells rfl)) ?_; refine L.call (v := (.bool (hashLess_f a.value b.value))) rfl (OpS.call (op_call rfl (argsC rfl (argsC rfl argsN)) Tryz.func93 rfl rfl) hashLess_ok) ?_; intro w4 hx4; have hE := hE.trans hx4; refine L.val rfl (op_assign rfl rfl) ?_; refine L.nil ?_; refine thenF_nor ?_; refine W.ret ?_; exact end_ret1 (v := (.bool (hashLess_f a.value b.value))) rfl rfl ⟨(by simp only [valLess_f, hc3, cond_false]), hE⟩
set_option maxRecDepth 100000 in
theorem signed_ok {q_s : Addr} {vm vq vslot vself : Int} {vpar : Nm} {A_s : Option Addr} {c_s lo_s hi_s bo : Nat} {all : List Vt} {lo : List (Pr × Int)} {kind : Int} {round : Int}  {w : World} (hq_s : Cells w q_s (voterCs vm vq vslot vself vpar (.slice A_s all.length c_s) bo)) (hR_s : Rd w lo_s hi_s A_s all) (hM_o : Mp w bo lo) : Gives Tryz.prog 119 #[(.pointer (some q_s)), (.int .i64 kind), (.int .i64 round)] w fun u w' => u = (.bool (signed_f lo kind round)) ∧ Ext w w' := by
 have hE : Ext w w := Ext.refl w; have hlen_s := hR_s.len; refine gives_of_W Tryz.func119 rfl Tryz.ntmps119 rfl ?_; refine W.seq ?_; refine W.region (by rfl) ?_; refine L.val (v := (.bool false)) rfl (op_assign rfl rfl) ?_; refine L.nil ?_; refine thenF_nor ?_; refine W.seq ?_; refine W.region (by rfl) ?_; refine L.val rfl (op_move rfl rfl) ?_; refine L.val rfl (op_nilCheck rfl rfl) ?_; refine L.val rfl (op_field rfl rfl fo92_6 rfl) ?_; refine L.val rfl (op_load1 rfl rfl one90 (hq_s.one (n := 13) rfl)) ?_; refine L.val rfl (op_move rfl rfl) ?_; refine L.val rfl (op_move rfl rfl) ?_; refine L.val rfl (op_build (v := Enc.val (⟨kind, round⟩ : Pr)) (cs := Enc.cells (⟨kind, round⟩ : Pr)) rfl (partsC rfl (partsC rfl partsN)) (by kernel_rfl) rfl) ?_; refine L.val rfl (op_lookup (a := ((⟨kind, round⟩ : Pr) : Pr)) mp90 rfl rfl rfl hM_o) ?_; refine L.val rfl (op_gtr rfl rfl rfl) ?_; refine L.val rfl (op_assign rfl rfl) ?_; refine L.nil ?_; refine thenF_nor ?_; refine W.ret ?_; exact end_ret1 (v := (.bool (decide (0 < (mget lo (⟨kind, round⟩ : Pr)))))) rfl rfl ⟨rfl, hE⟩
set_option maxRecDepth 100000 in
theorem vote16_ok {q_s : Addr} {vm vq vslot vself : Int} {vpar : Nm} {A_s : Option Addr} {c_s lo_s hi_s bo : Nat} {all : List Vt} {lo : List (Pr × Int)} {kind : Int} {round : Int} {x : Ch} {support : Int}  {w : World} (hq_s : Cells w q_s (voterCs vm vq vslot vself vpar (.slice A_s all.length c_s) bo)) (hR_s : Rd w lo_s hi_s A_s all) (hM_o : Mp w bo lo) : Gives Tryz.prog 120 #[(.pointer (some q_s)), (.int .i64 kind), (.int .i64 round), (Enc.val (x : Ch)), (.int .i64 support)] w fun u w' => u = (.tuple #[(Enc.val (vote16_f vslot vself vpar kind round x support : Vt)), (.bool true)]) ∧ Ext w w' := by
 have hE : Ext w w := Ext.refl w; have hlen_s := hR_s.len; refine gives_of_W Tryz.func120 rfl Tryz.ntmps120 rfl ?_; refine W.seq ?_; refine W.region (by rfl) ?_; refine L.step rfl (op_box (cs := (Enc.cells (x : Ch))) rfl rfl rfl) ?_; rintro _ w1 ⟨b1, rfl, hb1, hB1, hx1⟩; have hE := hE.trans hx1; have hq_s := hq_s.ext hx1; refine L.step rfl (op_alloc (z := Enc.val (default : Vt)) (cs := Enc.cells (default : Vt)) rfl (by kernel_rfl) rfl) ?_; rintro _ w2 ⟨b2, rfl, hb2, hB2, hx2⟩; have hbb2_hE := Nat.le_trans hE.size hb2; have hE := hE.trans hx2; have hq_s := hq_s.ext hx2; have hB1 := hB1.ext hx2; refine L.val (v := (.bool false)) rfl (op_assign rfl rfl) ?_; refine L.nil ?_; refine thenF_nor ?_; refine W.seq ?_; refine W.drawSt (es := 20) (b := b2) (t := 47) (vs := Enc.cells (⟨kind, vslot, round, x.validator, vself, support, vpar, x.value⟩ : Vt)) [(.int .i64 kind), (.pointer (some q_s)), (.pointer (some q_s)), (.pointer (some (q_s.add 2))), (.int .i64 vslot), (.int .i64 round), (.pointer (some ⟨b1, 0, none⟩)), (.int .i64 x.validator), (.pointer (some q_s)), (.pointer (some q_s)), (.pointer (some (q_s.add 3))), (.int .i64 vself), (.int .i64 support), (.pointer (some q_s)), (.pointer (some q_s)), (.pointer (some (q_s.add 4))), (Enc.val (vpar : Nm)), (.pointer (some ⟨b1, 1, none⟩)), (Enc.val (x.value : Nm)), (Enc.val (⟨kind, vslot, round, x.validator, vself, support, vpar, x.value⟩ : Vt)), undef, (.bool true)] mixed (by rfl) rfl ⟨rfl, rfl⟩ ?_ ?_ ?_
 ·refine VObls.cons ?_ (VObls.cons ?_ (VObls.cons ?_ (VObls.cons ?_ (VObls.cons ?_ (VObls.cons ?_ (VObls.cons ?_ (VObls.cons ?_ (VObls.cons ?_ (VObls.cons ?_ (VObls.cons ?_ (VObls.cons ?_ (VObls.cons ?_ (VObls.cons ?_ (VObls.cons ?_ (VObls.cons ?_ (VObls.cons ?_ (VObls.cons ?_ (VObls.cons ?_ (VObls.cons ?_ (VObls.cons (fun h => nomatch h) (VObls.cons ?_ (VObls.nil))))))))))))))))))))))
  ·intro _ f3 w3 hx3 ho3 hd3; have d3_s1 : f3 1 = (.int .i64 kind) := ho3 1 rfl; exact ⟨D.val rfl (op_move rfl d3_s1), rfl⟩
  ·intro _ f4 w4 hx4 ho4 hd4; have d4_s0 : f4 0 = (.pointer (some q_s)) := ho4 0 rfl; exact ⟨D.val rfl (op_move rfl d4_s0), rfl⟩
  ·intro _ f5 w5 hx5 ho5 hd5; have d5_1 : f5 13 = (.pointer (some q_s)) := hd5 1 rfl rfl; exact ⟨D.val rfl (op_nilCheck rfl d5_1), rfl⟩
  ·intro _ f6 w6 hx6 ho6 hd6; have d6_2 : f6 14 = (.pointer (some q_s)) := hd6 2 rfl rfl; exact ⟨D.val rfl (op_field rfl d6_2 fo92_2 rfl), rfl⟩
  ·intro _ f7 w7 hx7 ho7 hd7; have d7_3 : f7 15 = (.pointer (some (q_s.add 2))) := hd7 3 rfl rfl; have hx7 := hx7 (by decide); have hq_s := hq_s.ext hx7; exact ⟨D.val rfl (op_load1 rfl d7_3 one3 (hq_s.one (n := 2) rfl)), rfl⟩
  ·intro _ f8 w8 hx8 ho8 hd8; have d8_s2 : f8 2 = (.int .i64 round) := ho8 2 rfl; exact ⟨D.val rfl (op_move rfl d8_s2), rfl⟩
  ·intro _ f9 w9 hx9 ho9 hd9; have d9_s8 : f9 8 = (.pointer (some ⟨b1, 0, none⟩)) := ho9 8 rfl; exact ⟨D.val rfl (op_field rfl d9_s8 fo133_0 rfl), rfl⟩
  ·intro _ f10 w10 hx10 ho10 hd10; have d10_6 : f10 18 = (.pointer (some ⟨b1, 0, none⟩)) := hd10 6 rfl rfl; have hx10 := hx10 (by decide); have hB1 := hB1.ext hx10; exact ⟨D.val rfl (op_load1 rfl d10_6 one3 (hB1.cells.one (n := 0) rfl)), rfl⟩
  ·intro _ f11 w11 hx11 ho11 hd11; have d11_s0 : f11 0 = (.pointer (some q_s)) := ho11 0 rfl; exact ⟨D.val rfl (op_move rfl d11_s0), rfl⟩
  ·intro _ f12 w12 hx12 ho12 hd12; have d12_8 : f12 20 = (.pointer (some q_s)) := hd12 8 rfl rfl; exact ⟨D.val rfl (op_nilCheck rfl d12_8), rfl⟩
  ·intro _ f13 w13 hx13 ho13 hd13; have d13_9 : f13 21 = (.pointer (some q_s)) := hd13 9 rfl rfl; exact ⟨D.val rfl (op_field rfl d13_9 fo92_3 rfl), rfl⟩
  ·intro _ f14 w14 hx14 ho14 hd14; have d14_10 : f14 22 = (.pointer (some (q_s.add 3))) := hd14 10 rfl rfl; have hx14 := hx14 (by decide); have hq_s := hq_s.ext hx14; exact ⟨D.val rfl (op_load1 rfl d14_10 one3 (hq_s.one (n := 3) rfl)), rfl⟩
  ·intro _ f15 w15 hx15 ho15 hd15; have d15_s4 : f15 4 = (.int .i64 support) := ho15 4 rfl; exact ⟨D.val rfl (op_move rfl d15_s4), rfl⟩
  ·intro _ f16 w16 hx16 ho16 hd16; have d16_s0 : f16 0 = (.pointer (some q_s)) := ho16 0 rfl; exact ⟨D.val rfl (op_move rfl d16_s0), rfl⟩
  ·intro _ f17 w17 hx17 ho17 hd17; have d17_13 : f17 25 = (.pointer (some q_s)) := hd17 13 rfl rfl; exact ⟨D.val rfl (op_nilCheck rfl d17_13), rfl⟩
  ·intro _ f18 w18 hx18 ho18 hd18; have d18_14 : f18 26 = (.pointer (some q_s)) := hd18 14 rfl rfl; exact ⟨D.val rfl (op_field rfl d18_14 fo92_4 rfl), rfl⟩
  ·intro _ f19 w19 hx19 ho19 hd19; have d19_15 : f19 27 = (.pointer (some (q_s.add 4))) := hd19 15 rfl rfl; have hx19 := hx19 (by decide); have hq_s := hq_s.ext hx19; exact ⟨D.val rfl (op_load (v := (vpar : Nm)) rfl d19_15 ty24 (sub_nm 4 hq_s rfl)), rfl⟩
  ·intro _ f20 w20 hx20 ho20 hd20; have d20_s8 : f20 8 = (.pointer (some ⟨b1, 0, none⟩)) := ho20 8 rfl; exact ⟨D.val rfl (op_field rfl d20_s8 fo133_1 rfl), rfl⟩
  ·intro _ f21 w21 hx21 ho21 hd21; have d21_17 : f21 29 = (.pointer (some ⟨b1, 1, none⟩)) := hd21 17 rfl rfl; have hx21 := hx21 (by decide); have hB1 := hB1.ext hx21; exact ⟨D.val rfl (op_load (v := (x.value : Nm)) rfl d21_17 ty24 (sub_nm 1 hB1.cells rfl)), rfl⟩
  ·intro _ f22 w22 hx22 ho22 hd22; have d22_0 : f22 12 = (.int .i64 kind) := hd22 0 rfl rfl; have d22_4 : f22 16 = (.int .i64 vslot) := hd22 4 rfl rfl; have d22_5 : f22 17 = (.int .i64 round) := hd22 5 rfl rfl; have d22_7 : f22 19 = (.int .i64 x.validator) := hd22 7 rfl rfl; have d22_11 : f22 23 = (.int .i64 vself) := hd22 11 rfl rfl; have d22_12 : f22 24 = (.int .i64 support) := hd22 12 rfl rfl; have d22_16 : f22 28 = (Enc.val (vpar : Nm)) := hd22 16 rfl rfl; have d22_18 : f22 30 = (Enc.val (x.value : Nm)) := hd22 18 rfl rfl; exact ⟨D.val rfl (op_build (v := Enc.val (⟨kind, vslot, round, x.validator, vself, support, vpar, x.value⟩ : Vt)) (cs := Enc.cells (⟨kind, vslot, round, x.validator, vself, support, vpar, x.value⟩ : Vt)) rfl (partsC d22_0 (partsC d22_4 (partsC d22_5 (partsC d22_7 (partsC d22_11 (partsC d22_12 (partsC d22_16 (partsC d22_18 partsN)))))))) (by kernel_rfl) rfl), rfl⟩
  ·intro _ f23 w23 hx23 ho23 hd23; exact ⟨D.val rfl (op_assign rfl rfl), rfl⟩
 ·intro f24 w24 hx24 ho24 hd24; have d24_s10 : f24 10 = (.pointer (some ⟨b2, 0, none⟩)) := ho24 10 rfl; have d24_19 : f24 31 = (Enc.val (⟨kind, vslot, round, x.validator, vself, support, vpar, x.value⟩ : Vt)) := hd24 19 rfl rfl; have hB2 := hB2.ext hx24; exact (op_fillbox (v := (Enc.val (⟨kind, vslot, round, x.validator, vself, support, vpar, x.value⟩ : Vt))) (vs := Enc.cells (⟨kind, vslot, round, x.validator, vself, support, vpar, x.value⟩ : Vt)) rfl d24_s10 d24_19 rfl si47 hB2 (by simp [Enc.len]) (Enc.one _))
 intro f25 w25 hB25 hg25 ho25 hr25; have s10 : f25 10 = (.pointer (some ⟨b2, 0, none⟩)) := ho25 10 rfl; have s11 : f25 11 = (.bool true) := hr25 21 (by decide) rfl; have hE := hE.grown hg25 (by intro k hk; cases hk; exact hbb2_hE); have hB2 := hB25; refine thenF_nor ?_; refine W.ret ?_; exact end_ret2c (x := (⟨kind, vslot, round, x.validator, vself, support, vpar, x.value⟩ : Vt)) (v' := (.bool true)) rfl ty47 s10 hB2.cells s11 ⟨rfl, hE⟩
set_option maxRecDepth 100000 in
theorem enough_ok {q_s : Addr} {vm vq vslot vself : Int} {vpar : Nm} {A_s : Option Addr} {c_s lo_s hi_s bo : Nat} {all : List Vt} {lo : List (Pr × Int)} {m : Int}  {w : World} (hq_s : Cells w q_s (voterCs vm vq vslot vself vpar (.slice A_s all.length c_s) bo)) (hR_s : Rd w lo_s hi_s A_s all) (hM_o : Mp w bo lo) : Gives Tryz.prog 126 #[(.pointer (some q_s)), (.int .i64 m)] w fun u w' => u = (.bool (enough_f vq m)) ∧ Ext w w' := by
 have hE : Ext w w := Ext.refl w; have hlen_s := hR_s.len; refine gives_of_W Tryz.func126 rfl Tryz.ntmps126 rfl ?_; refine W.seq ?_; refine W.region (by rfl) ?_; refine L.val (v := (.bool false)) rfl (op_assign rfl rfl) ?_; refine L.nil ?_; refine thenF_nor ?_; refine W.seq ?_; refine W.drawS [Sp.eq (.int .i64 m), Sp.eq (.int .i64 (size_f m)), Sp.eq (.pointer (some q_s)), Sp.eq (.pointer (some q_s)), Sp.eq (.pointer (some (q_s.add 1))), Sp.eq (.int .i64 vq), Sp.eq (.bool (decide (vq ≤ (size_f m)))), Sp.eq (.bool (decide (vq ≤ (size_f m))))] mixed (by rfl) (Obls.cons ?_ (Obls.cons ?_ (Obls.cons ?_ (Obls.cons ?_ (Obls.cons ?_ (Obls.cons ?_ (Obls.cons ?_ (Obls.cons ?_ Obls.nil)))))))) ?_
 ·intro f2 w2 hx2 ho2 hd2; have d2_s1 : f2 1 = (.int .i64 m) := ho2 1 rfl; exact D.val rfl (op_move rfl d2_s1)
 ·intro f3 w3 hx3 ho3 hd3; have d3_0 : f3 5 = (.int .i64 m) := hd3 0 rfl; exact D.call (R := (Sp.eq (.int .i64 (size_f m))).p) rfl (OpS.call (op_call rfl (argsC d3_0 argsN) Tryz.func56 rfl rfl) Size_ok)
 ·intro f4 w4 hx4 ho4 hd4; have d4_s0 : f4 0 = (.pointer (some q_s)) := ho4 0 rfl; exact D.val rfl (op_move rfl d4_s0)
 ·intro f5 w5 hx5 ho5 hd5; have d5_2 : f5 7 = (.pointer (some q_s)) := hd5 2 rfl; exact D.val rfl (op_nilCheck rfl d5_2)
 ·intro f6 w6 hx6 ho6 hd6; have d6_3 : f6 8 = (.pointer (some q_s)) := hd6 3 rfl; exact D.val rfl (op_field rfl d6_3 fo92_1 rfl)
 ·intro f7 w7 hx7 ho7 hd7; have d7_4 : f7 9 = (.pointer (some (q_s.add 1))) := hd7 4 rfl; have hq_s := hq_s.ext hx7; exact D.val rfl (op_load1 rfl d7_4 one3 (hq_s.one (n := 1) rfl))
 ·intro f8 w8 hx8 ho8 hd8; have d8_1 : f8 6 = (.int .i64 (size_f m)) := hd8 1 rfl; have d8_5 : f8 10 = (.int .i64 vq) := hd8 5 rfl; exact D.val rfl (op_geq rfl d8_1 d8_5)
 ·intro f9 w9 hx9 ho9 hd9; have d9_6 : f9 11 = (.bool (decide (vq ≤ (size_f m)))) := hd9 6 rfl; exact D.val rfl (op_assign rfl d9_6)
 intro f10 w10 hx10 ho10 hr10; have s4 : f10 4 = (.bool (decide (vq ≤ (size_f m)))) := hr10 7 (by decide); have hE := hE.trans hx10; refine thenF_nor ?_; refine W.ret ?_; exact end_ret1 (v := (.bool (decide (vq ≤ (size_f m))))) rfl s4 ⟨rfl, hE⟩
set_option maxRecDepth 100000 in
theorem fitA_ok {v : Vt} {p_x : Addr} {x : Ch}  {w : World} (hp_x : Cells w p_x (Enc.cells x)) : Gives Tryz.prog 124 #[(Enc.val (v : Vt)), (.pointer (some p_x))] w fun u w' => u = (.bool (decide ((of_f v) = x))) ∧ Ext w w' := by
 have hE : Ext w w := Ext.refl w; refine gives_of_W Tryz.func124 rfl Tryz.ntmps124 rfl ?_; refine W.seq ?_; refine W.region (by rfl) ?_; refine L.step rfl (op_box (cs := (Enc.cells (v : Vt))) rfl rfl rfl) ?_; rintro _ w1 ⟨b1, rfl, hb1, hB1, hx1⟩; have hE := hE.trans hx1; have hp_x := hp_x.ext hx1; refine L.val (v := (.bool false)) rfl (op_assign rfl rfl) ?_; refine L.nil ?_; refine thenF_nor ?_; refine W.seq ?_; refine W.drawS [Sp.eq (Enc.val (v : Vt)), Sp.eq (Enc.val (of_f v : Ch)), Sp.eq (Enc.val (x : Ch)), Sp.eq (.bool (decide ((of_f v : Ch) = x))), Sp.eq (.bool (decide ((of_f v : Ch) = x)))] mixed (by rfl) (Obls.cons ?_ (Obls.cons ?_ (Obls.cons ?_ (Obls.cons ?_ (Obls.cons ?_ Obls.nil))))) ?_
 ·intro f3 w3 hx3 ho3 hd3; have d3_s2 : f3 2 = (.pointer (some ⟨b1, 0, none⟩)) := ho3 2 rfl; have hB1 := hB1.ext hx3; exact D.val rfl (op_load (v := (v : Vt)) rfl d3_s2 ty47 hB1.cells)
 ·intro f4 w4 hx4 ho4 hd4; have d4_0 : f4 4 = (Enc.val (v : Vt)) := hd4 0 rfl; exact D.call (R := (Sp.eq (Enc.val (of_f v : Ch))).p) rfl (OpS.call (op_call rfl (argsC d4_0 argsN) Tryz.func125 rfl rfl) of16_ok)
 ·intro f5 w5 hx5 ho5 hd5; have d5_s1 : f5 1 = (.pointer (some p_x)) := ho5 1 rfl; have hp_x := hp_x.ext hx5; exact D.val rfl (op_load (v := (x : Ch)) rfl d5_s1 ty133 hp_x)
 ·intro f6 w6 hx6 ho6 hd6; have d6_1 : f6 5 = (Enc.val (of_f v : Ch)) := hd6 1 rfl; have d6_2 : f6 6 = (Enc.val (x : Ch)) := hd6 2 rfl; exact D.val rfl (op_eqle (a := ((of_f v : Ch) : Ch)) (b := (x : Ch)) rfl d6_1 d6_2 eq133 (fun _ => ⟨_, rfl⟩) Tryz.eqGuardType133)
 ·intro f7 w7 hx7 ho7 hd7; have d7_3 : f7 7 = (.bool (decide ((of_f v : Ch) = x))) := hd7 3 rfl; exact D.val rfl (op_assign rfl d7_3)
 intro f8 w8 hx8 ho8 hr8; have s3 : f8 3 = (.bool (decide ((of_f v : Ch) = x))) := hr8 4 (by decide); have hE := hE.trans hx8; refine thenF_nor ?_; refine W.ret ?_; exact end_ret1 (v := (.bool (decide ((of_f v : Ch) = x)))) rfl s3 ⟨rfl, hE⟩
set_option maxRecDepth 100000 in
theorem fitB_ok {v : Vt} {p_x : Addr} {x : Ch}  {w : World} (hp_x : Cells w p_x (Enc.cells x)) : Gives Tryz.prog 129 #[(Enc.val (v : Vt)), (.pointer (some p_x))] w fun u w' => u = (.bool (decide ((of_f v) = x))) ∧ Ext w w' := by
 have hE : Ext w w := Ext.refl w; refine gives_of_W Tryz.func129 rfl Tryz.ntmps129 rfl ?_; refine W.seq ?_; refine W.region (by rfl) ?_; refine L.step rfl (op_box (cs := (Enc.cells (v : Vt))) rfl rfl rfl) ?_; rintro _ w1 ⟨b1, rfl, hb1, hB1, hx1⟩; have hE := hE.trans hx1; have hp_x := hp_x.ext hx1; refine L.val (v := (.bool false)) rfl (op_assign rfl rfl) ?_; refine L.nil ?_; refine thenF_nor ?_; refine W.seq ?_; refine W.drawS [Sp.eq (Enc.val (v : Vt)), Sp.eq (Enc.val (of_f v : Ch)), Sp.eq (Enc.val (x : Ch)), Sp.eq (.bool (decide ((of_f v : Ch) = x))), Sp.eq (.bool (decide ((of_f v : Ch) = x)))] mixed (by rfl) (Obls.cons ?_ (Obls.cons ?_ (Obls.cons ?_ (Obls.cons ?_ (Obls.cons ?_ Obls.nil))))) ?_
 ·intro f3 w3 hx3 ho3 hd3; have d3_s2 : f3 2 = (.pointer (some ⟨b1, 0, none⟩)) := ho3 2 rfl; have hB1 := hB1.ext hx3; exact D.val rfl (op_load (v := (v : Vt)) rfl d3_s2 ty47 hB1.cells)
 ·intro f4 w4 hx4 ho4 hd4; have d4_0 : f4 4 = (Enc.val (v : Vt)) := hd4 0 rfl; exact D.call (R := (Sp.eq (Enc.val (of_f v : Ch))).p) rfl (OpS.call (op_call rfl (argsC d4_0 argsN) Tryz.func125 rfl rfl) of16_ok)
 ·intro f5 w5 hx5 ho5 hd5; have d5_s1 : f5 1 = (.pointer (some p_x)) := ho5 1 rfl; have hp_x := hp_x.ext hx5; exact D.val rfl (op_load (v := (x : Ch)) rfl d5_s1 ty133 hp_x)
 ·intro f6 w6 hx6 ho6 hd6; have d6_1 : f6 5 = (Enc.val (of_f v : Ch)) := hd6 1 rfl; have d6_2 : f6 6 = (Enc.val (x : Ch)) := hd6 2 rfl; exact D.val rfl (op_eqle (a := ((of_f v : Ch) : Ch)) (b := (x : Ch)) rfl d6_1 d6_2 eq133 (fun _ => ⟨_, rfl⟩) Tryz.eqGuardType133)
 ·intro f7 w7 hx7 ho7 hd7; have d7_3 : f7 7 = (.bool (decide ((of_f v : Ch) = x))) := hd7 3 rfl; exact D.val rfl (op_assign rfl d7_3)
 intro f8 w8 hx8 ho8 hr8; have s3 : f8 3 = (.bool (decide ((of_f v : Ch) = x))) := hr8 4 (by decide); have hE := hE.trans hx8; refine thenF_nor ?_; refine W.ret ?_; exact end_ret1 (v := (.bool (decide ((of_f v : Ch) = x)))) rfl s3 ⟨rfl, hE⟩
set_option maxRecDepth 100000 in
theorem fitT_ok {v : Vt}  {w : World}  : Gives Tryz.prog 127 #[(Enc.val (v : Vt))] w fun u w' => u = (.bool true) ∧ Ext w w' := by
 have hE : Ext w w := Ext.refl w; refine gives_of_W Tryz.func127 rfl Tryz.ntmps127 rfl ?_; refine W.seq ?_; refine W.region (by rfl) ?_; refine L.step rfl (op_box (cs := (Enc.cells (v : Vt))) rfl rfl rfl) ?_; rintro _ w1 ⟨b1, rfl, hb1, hB1, hx1⟩; have hE := hE.trans hx1; refine L.val (v := (.bool false)) rfl (op_assign rfl rfl) ?_; refine L.nil ?_; refine thenF_nor ?_; refine W.seq ?_; refine W.region (by rfl) ?_; refine L.val (v := (.bool true)) rfl (op_assign rfl rfl) ?_; refine L.nil ?_; refine thenF_nor ?_; refine W.ret ?_; exact end_ret1 (v := (.bool true)) rfl rfl ⟨rfl, hE⟩
set_option maxRecDepth 100000 in
theorem fitM_ok {v : Vt}  {w : World}  : Gives Tryz.prog 128 #[(Enc.val (v : Vt))] w fun u w' => u = (.bool (decide (v.choice = 2))) ∧ Ext w w' := by
 have hE : Ext w w := Ext.refl w; refine gives_of_W Tryz.func128 rfl Tryz.ntmps128 rfl ?_; refine W.seq ?_; refine W.region (by rfl) ?_; refine L.step rfl (op_box (cs := (Enc.cells (v : Vt))) rfl rfl rfl) ?_; rintro _ w1 ⟨b1, rfl, hb1, hB1, hx1⟩; have hE := hE.trans hx1; refine L.val (v := (.bool false)) rfl (op_assign rfl rfl) ?_; refine L.nil ?_; refine thenF_nor ?_; refine W.seq ?_; refine W.region (by rfl) ?_; refine L.val rfl (op_field rfl rfl fo47_3 rfl) ?_; refine L.val rfl (op_load1 rfl rfl one3 (hB1.cells.one (n := 3) rfl)) ?_; refine L.val rfl (op_eql rfl rfl rfl) ?_; refine L.val rfl (op_assign rfl rfl) ?_; refine L.nil ?_; refine thenF_nor ?_; refine W.ret ?_; exact end_ret1 (v := (.bool (decide (v.choice = 2)))) rfl rfl ⟨rfl, hE⟩
set_option maxRecDepth 100000 in
theorem who1_ok {x : Vt} {p_kind : Addr} {kind : Int} {p_round : Addr} {round : Int} {q_pa : Addr} {fv_pa : Value} {pa : Vt → Bool} {bm : Nat} {t : Int}  {w : World} (hp_kind : Cells w p_kind (Enc.cells kind)) (hp_round : Cells w p_round (Enc.cells round)) (hq_pa : Cells w q_pa [fv_pa]) (hf_pa : Fits Tryz.prog w fv_pa pa) (hBm : Box w bm 22 [.int .i64 t]) (hs0 : 0 ≤ x.signer) (hs1 : x.signer ≤ 9) : Gives Tryz.prog 180 #[(Enc.val (x : Vt)), (.pointer (some p_kind)), (.pointer (some p_round)), (.pointer (some q_pa)), (.pointer (some ⟨bm, 0, none⟩))] w fun u w' => Box w' bm 22 [.int .i64 (collStep kind round pa t x)] ∧ w.grownBy w' (some bm) := by
 have hE : Ext w w := Ext.refl w; refine gives_of_W Tryz.func180 rfl Tryz.ntmps180 rfl ?_; refine W.seq ?_; refine W.region (by rfl) ?_; refine L.step rfl (op_box (cs := (Enc.cells (x : Vt))) rfl rfl rfl) ?_; rintro _ w1 ⟨b1, rfl, hb1, hB1, hx1⟩; have hE := hE.trans hx1; have hp_kind := hp_kind.ext hx1; have hp_round := hp_round.ext hx1; have hq_pa := hq_pa.ext hx1; have hf_pa := hf_pa.ext hx1; have hBm := hBm.ext hx1; refine L.nil ?_; refine thenF_nor ?_; refine W.seq ?_; refine W.region (by rfl) ?_; refine L.val rfl (op_field rfl rfl fo47_0 rfl) ?_; refine L.val rfl (op_load1 rfl rfl one3 (hB1.cells.one (n := 0) rfl)) ?_; refine L.val rfl (op_load1 rfl rfl one3 (hp_kind.one (n := 0) rfl)) ?_; refine L.val rfl (op_eql rfl rfl rfl) ?_; refine L.val rfl (op_move rfl rfl) ?_; refine L.guardv (v := (.pointer (some ⟨b1, 2, none⟩))) (wanted_yes rfl rfl rfl) (fun hg => (op_field rfl rfl fo47_2 rfl)) ?_; refine L.guardv (v := (.int .i64 x.round)) (wanted_yes rfl rfl rfl) (fun hg => (op_load1 rfl ((show _ = vif _ (.pointer (some ⟨b1, 2, none⟩)) from rfl).trans (vif_t hg).symm) one3 (hB1.cells.one (n := 2) rfl))) ?_; refine L.guardv (v := (.int .i64 round)) (wanted_yes rfl rfl rfl) (fun hg => (op_load1 rfl rfl one3 (hp_round.one (n := 0) rfl))) ?_; refine L.guardv (v := (.bool (decide (x.round = round)))) (wanted_yes rfl rfl rfl) (fun hg => (op_eql rfl ((show _ = vif _ (.int .i64 x.round) from rfl).trans (vif_t hg).symm) ((show _ = vif _ (.int .i64 round) from rfl).trans (vif_t hg).symm))) ?_; refine L.val rfl (op_and rfl rfl rfl rfl) ?_; refine L.val rfl (op_move rfl rfl) ?_; refine L.guardv (v := fv_pa) (wanted_yes rfl rfl rfl) (fun hg => (op_load1 rfl rfl one56 (hq_pa.one (n := 0) rfl))) ?_; refine L.guardv (v := (Enc.val (x : Vt))) (wanted_yes rfl rfl rfl) (fun hg => (op_load (v := (x : Vt)) rfl rfl ty47 hB1.cells)) ?_; refine L.guardc (v := (.bool (pa x))) (wanted_yes rfl rfl rfl) (fun hg => (op_fits (a := (x : Vt)) hf_pa rfl ((show _ = vif _ fv_pa from rfl).trans (vif_t hg).symm) ((show _ = vif _ (Enc.val (x : Vt)) from rfl).trans (vif_t hg).symm))) ?_; intro w2 hx2; have hE := hE.trans hx2; have hBm := hBm.ext hx2; have hB1 := hB1.ext hx2; refine L.val rfl (op_and rfl rfl rfl rfl) ?_; refine L.nil ?_; refine thenF_nor ?_; refine W.cond (t := ((decide (x.kind = kind)) && (decide (x.round = round))) && (pa x)) rfl (fun hc3 => ?_) (fun hc3 => ?_)
 ·have hp3 := hc3; (try simp only [Bool.and_eq_true, Bool.or_eq_true, Bool.and_eq_false_iff, Bool.or_eq_false_iff, Bool.not_eq_true', Bool.not_eq_false', decide_eq_true_eq, decide_eq_false_iff_not] at hp3); refine W.drawSt (es := 5) (b := bm) (t := 22) (vs := [(.int .i64 (ior t (ishl 1 x.signer)))]) [(.int .i64 t), (.pointer (some ⟨b1, 4, none⟩)), (.int .i64 x.signer), (.int .i64 (ishl 1 x.signer)), (.int .i64 (ior t (ishl 1 x.signer))), undef] mixed (by rfl) rfl ⟨rfl, rfl⟩ ?_ ?_ ?_
  ·refine VObls.cons ?_ (VObls.cons ?_ (VObls.cons ?_ (VObls.cons ?_ (VObls.cons ?_ (VObls.cons (fun h => nomatch h) (VObls.nil))))))
   ·intro _ f4 w4 hx4 ho4 hd4; have d4_s4 : f4 4 = (.pointer (some ⟨bm, 0, none⟩)) := ho4 4 rfl; have hx4 := hx4 (by decide); have hBm := hBm.ext hx4; exact ⟨D.val rfl (op_load1 rfl d4_s4 one22 (hBm.cells.one (n := 0) rfl)), rfl⟩
   ·intro _ f5 w5 hx5 ho5 hd5; have d5_s5 : f5 5 = (.pointer (some ⟨b1, 0, none⟩)) := ho5 5 rfl; exact ⟨D.val rfl (op_field rfl d5_s5 fo47_4 rfl), rfl⟩
   ·intro _ f6 w6 hx6 ho6 hd6; have d6_1 : f6 22 = (.pointer (some ⟨b1, 4, none⟩)) := hd6 1 rfl rfl; have hx6 := hx6 (by decide); have hB1 := hB1.ext hx6; exact ⟨D.val rfl (op_load1 rfl d6_1 one3 (hB1.cells.one (n := 4) rfl)), rfl⟩
   ·intro _ f7 w7 hx7 ho7 hd7; have d7_2 : f7 23 = (.int .i64 x.signer) := hd7 2 rfl rfl; exact ⟨D.val rfl (op_shl rfl rfl d7_2 (by omega) (by omega)), rfl⟩
   ·intro _ f8 w8 hx8 ho8 hd8; have d8_0 : f8 21 = (.int .i64 t) := hd8 0 rfl rfl; have d8_3 : f8 24 = (.int .i64 (ishl 1 x.signer)) := hd8 3 rfl rfl; exact ⟨D.val rfl (op_ior rfl d8_0 d8_3), rfl⟩
  ·intro f9 w9 hx9 ho9 hd9; have d9_s4 : f9 4 = (.pointer (some ⟨bm, 0, none⟩)) := ho9 4 rfl; have d9_4 : f9 25 = (.int .i64 (ior t (ishl 1 x.signer))) := hd9 4 rfl rfl; have hBm := hBm.ext hx9; exact (OpS.mono (op_put (v := (.int .i64 (ior t (ishl 1 x.signer)))) rfl d9_s4 d9_4 si22 hBm (Nat.le_of_ble_eq_true rfl) rfl rfl) fun _ _ h => h)
  intro f10 w10 hB10 hg10 ho10 hr10; have hGm := grown_trans (grown_ext (grown_refl _ (some bm)) hE) hg10; exact end_nor0 rfl ⟨(by unfold collStep; rw [show collP kind round pa x = true from hc3]; exact hB10), hGm⟩
 ·have hp3 := hc3; (try simp only [Bool.and_eq_true, Bool.or_eq_true, Bool.and_eq_false_iff, Bool.or_eq_false_iff, Bool.not_eq_true', Bool.not_eq_false', decide_eq_true_eq, decide_eq_false_iff_not] at hp3); refine W.skip ?_; exact end_nor0 rfl ⟨(by unfold collStep; rw [show collP kind round pa x = false from hc3]; exact hBm), grown_ext (grown_refl _ _) hE⟩
set_option maxRecDepth 100000 in
theorem values1_ok {i : Nat} {j : Nat} {q_l : Addr} {A_l : Option Addr} {c_l lo_l hi_l : Nat} {l : List Ch}  {w : World} (hq_l : Cells w q_l [.slice A_l l.length c_l]) (hR_l : Rd w lo_l hi_l A_l l) (hi : i < l.length) (hj : j < l.length) : Gives Tryz.prog 178 #[(.int .i64 ((i : Nat) : Int)), (.int .i64 ((j : Nat) : Int)), (.pointer (some q_l))] w fun u w' => u = (.bool (valLess_f l[i]! l[j]!)) ∧ Ext w w' := by
 have hE : Ext w w := Ext.refl w; have hlen_l := hR_l.len; refine gives_of_W Tryz.func178 rfl Tryz.ntmps178 rfl ?_; refine W.seq ?_; refine W.region (by rfl) ?_; refine L.val (v := (.bool false)) rfl (op_assign rfl rfl) ?_; refine L.nil ?_; refine thenF_nor ?_; refine W.seq ?_; refine W.drawS [Sp.eq (.slice A_l l.length c_l), Sp.eq (.int .i64 ((i : Nat) : Int)), Sp.eq (.pointer (some ((adr A_l).add (i * 9)))), Sp.eq (Enc.val (l[i]! : Ch)), Sp.eq (.slice A_l l.length c_l), Sp.eq (.int .i64 ((j : Nat) : Int)), Sp.eq (.pointer (some ((adr A_l).add (j * 9)))), Sp.eq (Enc.val (l[j]! : Ch)), Sp.eq (.bool (valLess_f (l[i]!) (l[j]!))), Sp.eq (.bool (valLess_f (l[i]!) (l[j]!)))] mixed (by rfl) (Obls.cons ?_ (Obls.cons ?_ (Obls.cons ?_ (Obls.cons ?_ (Obls.cons ?_ (Obls.cons ?_ (Obls.cons ?_ (Obls.cons ?_ (Obls.cons ?_ (Obls.cons ?_ Obls.nil)))))))))) ?_
 ·intro f2 w2 hx2 ho2 hd2; have d2_s2 : f2 2 = (.pointer (some q_l)) := ho2 2 rfl; have hq_l := hq_l.ext hx2; exact D.val rfl (op_load1 rfl d2_s2 one134 (hq_l.one (n := 0) rfl))
 ·intro f3 w3 hx3 ho3 hd3; have d3_s0 : f3 0 = (.int .i64 ((i : Nat) : Int)) := ho3 0 rfl; exact D.val rfl (op_move rfl d3_s0)
 ·intro f4 w4 hx4 ho4 hd4; have d4_0 : f4 6 = (.slice A_l l.length c_l) := hd4 0 rfl; have d4_1 : f4 7 = (.int .i64 ((i : Nat) : Int)) := hd4 1 rfl; have hR_l := hR_l.ext hx4; skip; exact D.val rfl (op_index (k := i) rfl d4_0 d4_1 sl134 (hR_l.getA (get_bang (l := l) (k := i) (by omega))).1 rfl (by omega) rfl)
 ·intro f5 w5 hx5 ho5 hd5; have d5_2 : f5 8 = (.pointer (some ((adr A_l).add (i * 9)))) := hd5 2 rfl; have hR_l := hR_l.ext hx5; skip; exact D.val rfl (op_load (v := (l[i]! : Ch)) rfl d5_2 ty133 (hR_l.getA (get_bang (l := l) (k := i) (by omega))).2)
 ·intro f6 w6 hx6 ho6 hd6; have d6_s2 : f6 2 = (.pointer (some q_l)) := ho6 2 rfl; have hq_l := hq_l.ext hx6; exact D.val rfl (op_load1 rfl d6_s2 one134 (hq_l.one (n := 0) rfl))
 ·intro f7 w7 hx7 ho7 hd7; have d7_s1 : f7 1 = (.int .i64 ((j : Nat) : Int)) := ho7 1 rfl; exact D.val rfl (op_move rfl d7_s1)
 ·intro f8 w8 hx8 ho8 hd8; have d8_4 : f8 10 = (.slice A_l l.length c_l) := hd8 4 rfl; have d8_5 : f8 11 = (.int .i64 ((j : Nat) : Int)) := hd8 5 rfl; have hR_l := hR_l.ext hx8; skip; exact D.val rfl (op_index (k := j) rfl d8_4 d8_5 sl134 (hR_l.getA (get_bang (l := l) (k := j) (by omega))).1 rfl (by omega) rfl)
 ·intro f9 w9 hx9 ho9 hd9; have d9_6 : f9 12 = (.pointer (some ((adr A_l).add (j * 9)))) := hd9 6 rfl; have hR_l := hR_l.ext hx9; skip; exact D.val rfl (op_load (v := (l[j]! : Ch)) rfl d9_6 ty133 (hR_l.getA (get_bang (l := l) (k := j) (by omega))).2)
 ·intro f10 w10 hx10 ho10 hd10; have d10_3 : f10 9 = (Enc.val (l[i]! : Ch)) := hd10 3 rfl; have d10_7 : f10 13 = (Enc.val (l[j]! : Ch)) := hd10 7 rfl; exact D.call (R := (Sp.eq (.bool (valLess_f (l[i]!) (l[j]!)))).p) rfl (OpS.call (op_call rfl (argsC d10_3 (argsC d10_7 argsN)) Tryz.func179 rfl rfl) valLess_ok)
 ·intro f11 w11 hx11 ho11 hd11; have d11_8 : f11 14 = (.bool (valLess_f (l[i]!) (l[j]!))) := hd11 8 rfl; exact D.val rfl (op_assign rfl d11_8)
 intro f12 w12 hx12 ho12 hr12; have s5 : f12 5 = (.bool (valLess_f (l[i]!) (l[j]!))) := hr12 9 (by decide); have hE := hE.trans hx12; refine thenF_nor ?_; refine W.ret ?_; exact end_ret1 (v := (.bool (valLess_f (l[i]!) (l[j]!)))) rfl s5 ⟨rfl, hE⟩
end Go.Proofs.YtdknjfmjddlphaaGreat
