/-
  Texts that the proof rests on: Zd, RefOps, ZR1, ZPure1, Law12b, Defs6, ZDefs1, ZR2.
-/
import Derived.Test.YtdknjfmjddlphaaGreatSBroadcastExact3
import Derived.Test.YtdknjfmjddlphaaGreatRows
/-
  Contracts of functions of the program, each with its walk in the logic of frames. Printed by a program of this session (wip/gen) from the translation.
-/
set_option linter.unusedSimpArgs false
set_option linter.unusedVariables false
namespace Go.Proofs.YtdknjfmjddlphaaGreat
open Go Go.Fk
def allowed_f (m : Int) (v : Vt) (acc : List Vt) : Bool := bif (((!(valid_f v)) || (decide (4 < v.kind))) || (!(has_f m v.signer))) || (!(has_f m v.slot)) then false else (bif decide (v.kind = 1) then decide (v.signer = v.slot) else (bif decide (v.kind = 2) then (acc.filter (counts_f m v)).any (fun xx => allowed1_f xx v) else (bif decide (v.kind = 3) then prevote_f m (quorum_f (size_f m)) (acc.filter (counts_f m v)) v else precommit_f m (quorum_f (size_f m)) (acc.filter (counts_f m v)) v)))
set_option maxRecDepth 100000 in
set_option maxHeartbeats 4000000 in
theorem Allowed_ok {m : Int} {v : Vt} {A_acc : Option Addr} {c_acc lo_acc hi_acc : Nat} {acc : List Vt}  {w : World} (hR_acc : Rd w lo_acc hi_acc A_acc acc) (hl : acc.length ≤ 1000000) : Gives Tryz.prog 46 #[(.int .i64 m), (Enc.val (v : Vt)), (.slice A_acc acc.length c_acc)] w fun u w' => u = (.bool (allowed_f m v acc)) ∧ Ext w w' := by
 have hE : Ext w w := Ext.refl w; have hlen_acc := hR_acc.len; refine gives_of_W Tryz.func46 rfl Tryz.ntmps46 rfl ?_; refine W.seq ?_; refine W.region (by rfl) ?_; refine L.step rfl (op_box (cs := (Enc.cells (v : Vt))) rfl rfl rfl) ?_; rintro _ w1 ⟨b1, rfl, hb1, hB1, hx1⟩; have hE := hE.trans hx1; have hR_acc := hR_acc.ext hx1; refine L.val (v := (.bool false)) rfl (op_assign rfl rfl) ?_; refine L.nil ?_; refine thenF_nor ?_; refine W.seq ?_; refine W.seq ?_; refine W.region (by rfl) ?_; refine L.val rfl (op_load (v := (v : Vt)) rfl rfl ty47 hB1.cells) ?_; refine L.call (v := (.bool (valid_f v))) rfl (OpS.call (op_call rfl (argsC rfl argsN) Tryz.func44 rfl rfl) Valid_ok) ?_; intro w2 hx2; have hE := hE.trans hx2; have hR_acc := hR_acc.ext hx2; have hB1 := hB1.ext hx2; refine L.val rfl (op_not rfl rfl) ?_; refine L.val rfl (op_move rfl rfl) ?_; refine L.guardv (v := (.pointer (some ⟨b1, 0, none⟩))) (wanted_no rfl rfl rfl) (fun hg => (op_field rfl rfl fo47_0 rfl)) ?_; refine L.guardv (v := (.int .i64 v.kind)) (wanted_no rfl rfl rfl) (fun hg => (op_load1 rfl ((show _ = vif _ (.pointer (some ⟨b1, 0, none⟩)) from rfl).trans (vif_t hg).symm) one3 (hB1.cells.one (n := 0) rfl))) ?_; refine L.guardv (v := (.bool (decide (4 < v.kind)))) (wanted_no rfl rfl rfl) (fun hg => (op_gtr rfl ((show _ = vif _ (.int .i64 v.kind) from rfl).trans (vif_t hg).symm) rfl)) ?_; refine L.val rfl (op_or rfl rfl rfl rfl) ?_; refine L.val rfl (op_move rfl rfl) ?_; refine L.guardv (v := (.int .i64 m)) (wanted_no rfl rfl rfl) (fun hg => (op_move rfl rfl)) ?_; refine L.guardv (v := (.pointer (some ⟨b1, 4, none⟩))) (wanted_no rfl rfl rfl) (fun hg => (op_field rfl rfl fo47_4 rfl)) ?_; refine L.guardv (v := (.int .i64 v.signer)) (wanted_no rfl rfl rfl) (fun hg => (op_load1 rfl ((show _ = vif _ (.pointer (some ⟨b1, 4, none⟩)) from rfl).trans (vif_t hg).symm) one3 (hB1.cells.one (n := 4) rfl))) ?_; refine L.guardc (v := (.bool (has_f m v.signer))) (wanted_no rfl rfl rfl) (fun hg => (OpS.call (op_call rfl (argsC ((show _ = vif _ (.int .i64 m) from rfl).trans (vif_t hg).symm) (argsC ((show _ = vif _ (.int .i64 v.signer) from rfl).trans (vif_t hg).symm) argsN)) Tryz.func77 rfl rfl) Has_ok)) ?_; intro w3 hx3; have hE := hE.trans hx3; have hR_acc := hR_acc.ext hx3; have hB1 := hB1.ext hx3; refine L.guardv (v := (.bool (!(has_f m v.signer)))) (wanted_no rfl rfl rfl) (fun hg => (op_not rfl ((show _ = vif _ (.bool (has_f m v.signer)) from rfl).trans (vif_t hg).symm))) ?_; refine L.val rfl (op_or rfl rfl rfl rfl) ?_; refine L.val rfl (op_move rfl rfl) ?_; refine L.guardv (v := (.int .i64 m)) (wanted_no rfl rfl rfl) (fun hg => (op_move rfl rfl)) ?_; refine L.guardv (v := (.pointer (some ⟨b1, 1, none⟩))) (wanted_no rfl rfl rfl) (fun hg => (op_field rfl rfl fo47_1 rfl)) ?_; refine L.guardv (v := (.int .i64 v.slot)) (wanted_no rfl rfl rfl) (fun hg => (op_load1 rfl ((show _ = vif _ (.pointer (some ⟨b1, 1, none⟩)) from rfl).trans (vif_t hg).symm) one3 (hB1.cells.one (n := 1) rfl))) ?_; refine L.guardc (v := (.bool (has_f m v.slot))) (wanted_no rfl rfl rfl) (fun hg => (OpS.call (op_call rfl (argsC ((show _ = vif _ (.int .i64 m) from rfl).trans (vif_t hg).symm) (argsC ((show _ = vif _ (.int .i64 v.slot) from rfl).trans (vif_t hg).symm) argsN)) Tryz.func77 rfl rfl) Has_ok)) ?_; intro w4 hx4; have hE := hE.trans hx4; have hR_acc := hR_acc.ext hx4; have hB1 := hB1.ext hx4; refine L.guardv (v := (.bool (!(has_f m v.slot)))) (wanted_no rfl rfl rfl) (fun hg => (op_not rfl ((show _ = vif _ (.bool (has_f m v.slot)) from rfl).trans (vif_t hg).symm))) ?_; refine L.val rfl (op_or rfl rfl rfl rfl) ?_; refine L.nil ?_; refine thenF_nor ?_; refine W.cond (t := (((!(valid_f v)) || (decide (4 < v.kind))) || (!(has_f m v.signer))) || (!(has_f m v.slot))) rfl (fun hc5 => ?_) (fun hc5 => ?_)
 ·have hp5 := hc5; simp only [Bool.and_eq_true, Bool.or_eq_true, Bool.and_eq_false_iff, Bool.or_eq_false_iff, Bool.not_eq_true', Bool.not_eq_false', decide_eq_true_eq, decide_eq_false_iff_not] at hp5; refine W.seq ?_; refine W.region (by rfl) ?_; refine L.val (v := (.bool false)) rfl (op_assign rfl rfl) ?_; refine L.nil ?_; refine thenF_nor ?_; refine W.ret ?_; refine thenF_ret ?_; exact end_ret1 (v := (.bool false)) rfl rfl ⟨by simp only [allowed_f, hc5, cond_true], hE⟩
 ·have hp5 := hc5; simp only [Bool.and_eq_true, Bool.or_eq_true, Bool.and_eq_false_iff, Bool.or_eq_false_iff, Bool.not_eq_true', Bool.not_eq_false', decide_eq_true_eq, decide_eq_false_iff_not] at hp5; have hall := hc5; simp only [Bool.or_eq_false_iff, Bool.not_eq_false'] at hall; have hvb := valid_bounds hall.1.1.1; have hsz0 := size_nn m; have hsz1 := size_le m; refine W.skip ?_; refine thenF_nor ?_; refine W.seq ?_; have S6_hR_acc := hR_acc; have S6_hB1 := hB1; have S6_hE := hE; have hS6 : Ext w4 w4 := Ext.refl _; refine W.region (by rfl) ?_; refine L.val rfl (op_move rfl rfl) ?_; refine L.val rfl (op_move rfl rfl) ?_; refine L.call (v := (.int .i64 (size_f m))) rfl (OpS.call (op_call rfl (argsC rfl argsN) Tryz.func56 rfl rfl) Size_ok) ?_; intro w7 hx7; have hE := hE.trans hx7; have hS6 := hS6.trans hx7; refine L.call (v := (.int .i64 (quorum_f (size_f m)))) rfl (OpS.call (op_call rfl (argsC rfl argsN) Tryz.func55 rfl rfl) (Quorum_ok (by first | omega | (simp only [List.length_drop, List.length_take, List.length_append, List.length_cons, List.length_nil] at *; omega)) (by first | omega | (simp only [List.length_drop, List.length_take, List.length_append, List.length_cons, List.length_nil] at *; omega)))) ?_; intro w8 hx8; have hE := hE.trans hx8; have hS6 := hS6.trans hx8; refine L.val rfl (op_build (v := (.agg #[(.int .i64 m), (.int .i64 (quorum_f (size_f m))), (.slice none 0 0)])) (cs := [(.int .i64 m), (.int .i64 (quorum_f (size_f m))), (.slice none 0 0)]) rfl (partsC rfl (partsC rfl partsN)) (by kernel_rfl) rfl) ?_; refine L.newvar (v := (.agg #[(.int .i64 m), (.int .i64 (quorum_f (size_f m))), (.slice none 0 0)])) (cs := [(.int .i64 m), (.int .i64 (quorum_f (size_f m))), (.slice none 0 0)]) rfl rfl rfl rfl rfl rfl (fun _ => rfl) rfl si100 zs100 (by intro u hu; simp at hu; rcases hu with rfl | rfl | rfl <;> rfl) ?_; intro b9 w9 hb9 hB9 hx9; have hbb9_hE := Nat.le_trans hE.size hb9; have hbb9_hS6 := Nat.le_trans hS6.size hb9; have hE := hE.trans hx9; have hS6 := hS6.trans hx9; refine L.nil ?_; refine thenF_nor ?_; refine W.seq ?_; refine W.seq ?_; refine W.region (by rfl) ?_; refine L.val rfl (op_move rfl rfl) ?_; refine L.val rfl (op_len rfl rfl ln25) ?_; refine L.val rfl (op_move rfl rfl) ?_; refine L.nil ?_; refine thenF_nor ?_; refine W.block ?_; refine W.loopg (γ := Nat) (fun (k : Nat) (f : Fr) (ww : World) => k ≤ acc.length ∧ f 0 = (.int .i64 m) ∧ f 4 = (.pointer (some ⟨b1, 0, none⟩)) ∧ f 6 = (.bool false) ∧ f 37 = (.slice A_acc acc.length c_acc) ∧ f 38 = (.int .i64 (acc.length : Int)) ∧ f 39 = (.int .i64 ((k : Nat) : Int)) ∧ f 7 = (.pointer (some ⟨b9, 0, none⟩)) ∧ (∃ vv, Box ww b9 100 [(.int .i64 m), (.int .i64 (quorum_f (size_f m))), vv] ∧ Fk.Own ww (b9 + 1) 47 vv ((acc.take k).filter (counts_f m v))) ∧ Ext w4 ww) (fun (k : Nat) => acc.length - k) 0 ⟨(by (try dsimp only); omega), rfl, rfl, rfl, rfl, rfl, rfl, rfl, ⟨_, hB9, Fk.Own.nil _ _ _⟩, hS6⟩ ?_; rintro k f10 w10 ⟨hk, s10_0, s10_4, s10_6, s10_37, s10_38, s10_39, s10_7, hM10_7, hS6⟩; have hR_acc := S6_hR_acc.ext hS6; have hB1 := S6_hB1.ext hS6; have hE := S6_hE.trans hS6; obtain ⟨v10_7, hB10_7, hO10_7⟩ := hM10_7; have hfl := List.length_filter_le (counts_f m v) (acc.take k); have htl := List.length_take_le' k acc; refine W.seq ?_; refine W.region (by rfl) ?_; refine L.val rfl (op_lss rfl s10_39 s10_38) ?_; refine L.nil ?_; refine thenF_nor ?_; refine W.seq ?_; refine W.cond (t := decide (((k : Nat) : Int) < (acc.length : Int))) rfl (fun hc11 => ?_) (fun hc11 => ?_)
  ·have hp11 := hc11; simp only [Bool.and_eq_true, Bool.or_eq_true, Bool.and_eq_false_iff, Bool.or_eq_false_iff, Bool.not_eq_true', Bool.not_eq_false', decide_eq_true_eq, decide_eq_false_iff_not] at hp11; refine W.skip ?_; refine thenF_nor ?_; refine W.seq ?_; refine W.block ?_; refine W.seq ?_; refine W.region (by rfl) ?_; refine L.val rfl (op_index (k := k) rfl s10_37 s10_39 sl25 (hR_acc.getA (get_bang (l := acc) (k := k) (by omega))).1 rfl (by omega) rfl) ?_; refine L.val rfl (op_load (v := (acc[k]! : Vt)) rfl rfl ty47 (hR_acc.getA (get_bang (l := acc) (k := k) (by omega))).2) ?_; refine L.newvar (v := (Enc.val (acc[k]! : Vt))) (cs := (Enc.cells (acc[k]! : Vt))) rfl rfl rfl rfl rfl rfl (fun _ => rfl) rfl si47 zs47 (Enc.one _) ?_; intro b12 w12 hb12 hB12 hx12; have hbb12_hE := Nat.le_trans hE.size hb12; have hbb12_hS6 := Nat.le_trans hS6.size hb12; have hE := hE.trans hx12; have hS6 := hS6.trans hx12; have hB1 := hB1.ext hx12; have hB10_7 := hB10_7.ext hx12; have hO10_7 := hO10_7.ext hx12; refine L.nil ?_; refine thenF_nor ?_; refine W.seq ?_; refine W.region (by rfl) ?_; refine L.val rfl (op_load (v := (acc[k]! : Vt)) rfl rfl ty47 hB12.cells) ?_; refine L.call (v := (.bool (valid_f (acc[k]!)))) rfl (OpS.call (op_call rfl (argsC rfl argsN) Tryz.func44 rfl rfl) Valid_ok) ?_; intro w13 hx13; have hE := hE.trans hx13; have hS6 := hS6.trans hx13; have hB1 := hB1.ext hx13; have hB10_7 := hB10_7.ext hx13; have hO10_7 := hO10_7.ext hx13; have hB12 := hB12.ext hx13; refine L.val rfl (op_move rfl rfl) ?_; refine L.guardv (v := (.pointer (some ⟨b12, 6, none⟩))) (wanted_yes rfl rfl rfl) (fun hg => (op_field rfl rfl fo47_6 rfl)) ?_; refine L.guardv (v := (Enc.val ((acc[k]!).parent))) (wanted_yes rfl rfl rfl) (fun hg => (op_load (v := ((acc[k]!).parent : Nm)) rfl ((show _ = vif _ (.pointer (some ⟨b12, 6, none⟩)) from rfl).trans (vif_t hg).symm) ty24 (sub_nm 6 hB12.cells rfl))) ?_; refine L.guardv (v := (.pointer (some ⟨b1, 6, none⟩))) (wanted_yes rfl rfl rfl) (fun hg => (op_field rfl s10_4 fo47_6 rfl)) ?_; refine L.guardv (v := (Enc.val (v.parent : Nm))) (wanted_yes rfl rfl rfl) (fun hg => (op_load (v := (v.parent : Nm)) rfl ((show _ = vif _ (.pointer (some ⟨b1, 6, none⟩)) from rfl).trans (vif_t hg).symm) ty24 (sub_nm 6 hB1.cells rfl))) ?_; refine L.guardv (v := (.bool (decide ((acc[k]!).parent = v.parent)))) (wanted_yes rfl rfl rfl) (fun hg => (op_eqle (a := ((acc[k]!).parent : Nm)) (b := (v.parent : Nm)) rfl ((show _ = vif _ (Enc.val ((acc[k]!).parent)) from rfl).trans (vif_t hg).symm) ((show _ = vif _ (Enc.val (v.parent : Nm)) from rfl).trans (vif_t hg).symm) eq24 (fun _ => ⟨_, rfl⟩) Tryz.eqGuardType24)) ?_; refine L.val rfl (op_and rfl rfl rfl rfl) ?_; refine L.val rfl (op_move rfl rfl) ?_; refine L.guardv (v := (.pointer (some ⟨b12, 1, none⟩))) (wanted_yes rfl rfl rfl) (fun hg => (op_field rfl rfl fo47_1 rfl)) ?_; refine L.guardv (v := (.int .i64 ((acc[k]!).slot))) (wanted_yes rfl rfl rfl) (fun hg => (op_load1 rfl ((show _ = vif _ (.pointer (some ⟨b12, 1, none⟩)) from rfl).trans (vif_t hg).symm) one3 (hB12.cells.one (n := 1) rfl))) ?_; refine L.guardv (v := (.pointer (some ⟨b1, 1, none⟩))) (wanted_yes rfl rfl rfl) (fun hg => (op_field rfl s10_4 fo47_1 rfl)) ?_; refine L.guardv (v := (.int .i64 v.slot)) (wanted_yes rfl rfl rfl) (fun hg => (op_load1 rfl ((show _ = vif _ (.pointer (some ⟨b1, 1, none⟩)) from rfl).trans (vif_t hg).symm) one3 (hB1.cells.one (n := 1) rfl))) ?_; refine L.guardv (v := (.bool (decide (((acc[k]!).slot) = v.slot)))) (wanted_yes rfl rfl rfl) (fun hg => (op_eql rfl ((show _ = vif _ (.int .i64 ((acc[k]!).slot)) from rfl).trans (vif_t hg).symm) ((show _ = vif _ (.int .i64 v.slot) from rfl).trans (vif_t hg).symm))) ?_; refine L.val rfl (op_and rfl rfl rfl rfl) ?_; refine L.val rfl (op_move rfl rfl) ?_; refine L.guardv (v := (.pointer (some ⟨b12, 0, none⟩))) (wanted_yes rfl rfl rfl) (fun hg => (op_field rfl rfl fo47_0 rfl)) ?_; refine L.guardv (v := (.int .i64 ((acc[k]!).kind))) (wanted_yes rfl rfl rfl) (fun hg => (op_load1 rfl ((show _ = vif _ (.pointer (some ⟨b12, 0, none⟩)) from rfl).trans (vif_t hg).symm) one3 (hB12.cells.one (n := 0) rfl))) ?_; refine L.guardv (v := (.bool (decide (((acc[k]!).kind) ≤ 4)))) (wanted_yes rfl rfl rfl) (fun hg => (op_leq rfl ((show _ = vif _ (.int .i64 ((acc[k]!).kind)) from rfl).trans (vif_t hg).symm) rfl)) ?_; refine L.val rfl (op_and rfl rfl rfl rfl) ?_; refine L.val rfl (op_move rfl rfl) ?_; refine L.guardv (v := (.int .i64 m)) (wanted_yes rfl rfl rfl) (fun hg => (op_move rfl s10_0)) ?_; refine L.guardv (v := (.pointer (some ⟨b12, 4, none⟩))) (wanted_yes rfl rfl rfl) (fun hg => (op_field rfl rfl fo47_4 rfl)) ?_; refine L.guardv (v := (.int .i64 ((acc[k]!).signer))) (wanted_yes rfl rfl rfl) (fun hg => (op_load1 rfl ((show _ = vif _ (.pointer (some ⟨b12, 4, none⟩)) from rfl).trans (vif_t hg).symm) one3 (hB12.cells.one (n := 4) rfl))) ?_; refine L.guardc (v := (.bool (has_f m ((acc[k]!).signer)))) (wanted_yes rfl rfl rfl) (fun hg => (OpS.call (op_call rfl (argsC ((show _ = vif _ (.int .i64 m) from rfl).trans (vif_t hg).symm) (argsC ((show _ = vif _ (.int .i64 ((acc[k]!).signer)) from rfl).trans (vif_t hg).symm) argsN)) Tryz.func77 rfl rfl) Has_ok)) ?_; intro w14 hx14; have hE := hE.trans hx14; have hS6 := hS6.trans hx14; have hB10_7 := hB10_7.ext hx14; have hO10_7 := hO10_7.ext hx14; have hB12 := hB12.ext hx14; refine L.val rfl (op_and rfl rfl rfl rfl) ?_; refine L.nil ?_; refine thenF_nor ?_; refine W.cond (t := ((((valid_f (acc[k]!)) && (decide ((acc[k]!).parent = v.parent))) && (decide (((acc[k]!).slot) = v.slot))) && (decide (((acc[k]!).kind) ≤ 4))) && (has_f m ((acc[k]!).signer))) rfl (fun hc15 => ?_) (fun hc15 => ?_)
   ·have hp15 := hc15; simp only [Bool.and_eq_true, Bool.or_eq_true, Bool.and_eq_false_iff, Bool.or_eq_false_iff, Bool.not_eq_true', Bool.not_eq_false', decide_eq_true_eq, decide_eq_false_iff_not] at hp15; have hstep := filter_yes (l := acc) (p := counts_f m v) (k := k) (by omega) hc15; refine W.region (by rfl) ?_; refine L.val rfl (op_field rfl s10_7 fo100_2 rfl) ?_; refine L.val rfl (op_load1 rfl rfl one25 (hB10_7.cells.one (n := 2) rfl)) ?_; refine L.val rfl (op_load (v := (acc[k]! : Vt)) rfl rfl ty47 hB12.cells) ?_; refine L.step rfl (op_slice1 (a := (acc[k]! : Vt)) rfl rfl sl25 zs47 (by decide)) ?_; rintro _ w16 ⟨b16, rfl, hb16, hB16, hx16⟩; have hE := hE.trans hx16; have hS6 := hS6.trans hx16; have hB10_7 := hB10_7.ext hx16; have hO10_7 := hO10_7.ext hx16; refine L.step rfl (op_append (a := (acc[k]! : Vt)) (ad := ⟨b16, 0, none⟩) rfl rfl rfl sl25 zs47 bt47 hO10_7 hB16.cells (by omega) (by decide) (Nat.succ_le_of_lt hB10_7.lt)) ?_; rintro v17 w17 ⟨hO17, hg17⟩; have hS6 := hS6.own (hO10_7.lower (by omega)) hg17; have hB10_7 := hB10_7.far hg17 (hO10_7.ne' (Nat.lt_succ_self _)); have hE := S6_hE.trans hS6; refine L.val rfl (op_field rfl s10_7 fo100_2 rfl) ?_; refine L.step rfl (op_put (v := v17) rfl rfl rfl si25 hB10_7 (Nat.le_of_ble_eq_true rfl) hO17.cells hO17.onec) ?_; rintro _ w18 ⟨hB18, hg18⟩; have hO17 := (hO17).kept hg18 (hO17.ne (Nat.lt_succ_self _)); have hS6 := hS6.grown hg18 (by intro k hk; cases hk; omega); have hE := S6_hE.trans hS6; have hB10_7 := hB18; refine L.nil ?_; refine blockF_nor ?_; refine thenF_nor ?_; refine W.region (by rfl) ?_; refine L.val rfl (op_add (c := ((k + 1 : Nat) : Int)) rfl s10_39 rfl (by omega) (by omega)) ?_; refine L.val rfl (op_move rfl rfl) ?_; refine L.nil ?_; refine thenF_nor ?_; exact ⟨k + 1, ⟨(by (try dsimp only); omega), s10_0, s10_4, s10_6, s10_37, s10_38, rfl, s10_7, (by rw [← hstep]; exact ⟨_, hB10_7, hO17⟩), hS6⟩, (by (try dsimp only); omega)⟩
   ·have hp15 := hc15; simp only [Bool.and_eq_true, Bool.or_eq_true, Bool.and_eq_false_iff, Bool.or_eq_false_iff, Bool.not_eq_true', Bool.not_eq_false', decide_eq_true_eq, decide_eq_false_iff_not] at hp15; have hstep := filter_no (l := acc) (p := counts_f m v) (k := k) (by omega) hc15; refine W.skip ?_; refine blockF_nor ?_; refine thenF_nor ?_; refine W.region (by rfl) ?_; refine L.val rfl (op_add (c := ((k + 1 : Nat) : Int)) rfl s10_39 rfl (by omega) (by omega)) ?_; refine L.val rfl (op_move rfl rfl) ?_; refine L.nil ?_; refine thenF_nor ?_; exact ⟨k + 1, ⟨(by (try dsimp only); omega), s10_0, s10_4, s10_6, s10_37, s10_38, rfl, s10_7, (by rw [← hstep]; exact ⟨_, hB10_7, hO10_7⟩), hS6⟩, (by (try dsimp only); omega)⟩
  ·have hp11 := hc11; simp only [Bool.and_eq_true, Bool.or_eq_true, Bool.and_eq_false_iff, Bool.or_eq_false_iff, Bool.not_eq_true', Bool.not_eq_false', decide_eq_true_eq, decide_eq_false_iff_not] at hp11; have hkl : k = acc.length := by omega
   rw [hkl, List.take_length] at hO10_7; refine W.exit ?_; refine thenF_exit ?_; refine thenF_exit ?_; refine blockF_hit ?_; refine thenF_nor ?_; refine W.seq ?_; refine W.seq ?_; refine W.region (by rfl) ?_; refine L.val rfl (op_field rfl s10_4 fo47_0 rfl) ?_; refine L.val rfl (op_load1 rfl rfl one3 (hB1.cells.one (n := 0) rfl)) ?_; refine L.nil ?_; refine thenF_nor ?_; refine W.block ?_; refine W.seq ?_; refine W.region (by rfl) ?_; refine L.val rfl (op_eql rfl rfl rfl) ?_; refine L.val rfl (op_assign rfl rfl) ?_; refine L.nil ?_; refine thenF_nor ?_; refine W.cond (t := decide (v.kind = 1)) rfl (fun hc19 => ?_) (fun hc19 => ?_)
   ·have hp19 := hc19; simp only [Bool.and_eq_true, Bool.or_eq_true, Bool.and_eq_false_iff, Bool.or_eq_false_iff, Bool.not_eq_true', Bool.not_eq_false', decide_eq_true_eq, decide_eq_false_iff_not] at hp19; refine W.seq ?_; refine W.region (by rfl) ?_; refine L.val rfl (op_field rfl s10_4 fo47_4 rfl) ?_; refine L.val rfl (op_load1 rfl rfl one3 (hB1.cells.one (n := 4) rfl)) ?_; refine L.val rfl (op_field rfl s10_4 fo47_1 rfl) ?_; refine L.val rfl (op_load1 rfl rfl one3 (hB1.cells.one (n := 1) rfl)) ?_; refine L.val rfl (op_eql rfl rfl rfl) ?_; refine L.val rfl (op_assign rfl rfl) ?_; refine L.nil ?_; refine thenF_nor ?_; refine W.ret ?_; refine blockF_ret ?_; refine thenF_ret ?_; exact end_ret1 (v := (.bool (decide (v.signer = v.slot)))) rfl rfl ⟨by simp only [allowed_f, hc5, hc11, hc19, cond_true, cond_false], hE⟩
   ·have hp19 := hc19; simp only [Bool.and_eq_true, Bool.or_eq_true, Bool.and_eq_false_iff, Bool.or_eq_false_iff, Bool.not_eq_true', Bool.not_eq_false', decide_eq_true_eq, decide_eq_false_iff_not] at hp19; refine W.seq ?_; refine W.region (by rfl) ?_; refine L.val rfl (op_eql rfl rfl rfl) ?_; refine L.val rfl (op_assign rfl rfl) ?_; refine L.nil ?_; refine thenF_nor ?_; refine W.cond (t := decide (v.kind = 2)) rfl (fun hc20 => ?_) (fun hc20 => ?_)
    ·have hp20 := hc20; simp only [Bool.and_eq_true, Bool.or_eq_true, Bool.and_eq_false_iff, Bool.or_eq_false_iff, Bool.not_eq_true', Bool.not_eq_false', decide_eq_true_eq, decide_eq_false_iff_not] at hp20; refine W.seq ?_; obtain ⟨A21, c21, hv21, hR21, hcap21⟩ := (hO10_7).form; have hlen21 := hR21.len; have hBs21 := hB10_7; rw [hv21] at hBs21; refine W.region (by rfl) ?_; refine L.val rfl (op_loadcs (cs := [(.int .i64 m), (.int .i64 (quorum_f (size_f m))), (.slice A21 (acc.filter (counts_f m v)).length c21)]) rfl s10_7 ag100 si100 hBs21.cells) ?_; refine L.val rfl (op_func rfl (argsC s10_4 argsN)) ?_; refine L.call (v := (.bool ((acc.filter (counts_f m v)).any (fun xx => allowed1_f xx v)))) rfl (OpS.call (op_call rfl (argsC rfl (argsC rfl argsN)) Tryz.func84 rfl rfl) (has_ok hR21 (⟨_, [(.pointer (some ⟨b1, 0, none⟩))], _, rfl, Tryz.func85, rfl, rfl, fun xx ww hxx => (allowed1_ok (hB1.cells.ext hxx))⟩ : Fits _ _ _ (fun xx => allowed1_f xx v)))) ?_; intro w22 hx22; have hE := hE.trans hx22; refine L.val rfl (op_assign rfl rfl) ?_; refine L.nil ?_; refine thenF_nor ?_; refine W.ret ?_; refine blockF_ret ?_; refine thenF_ret ?_; exact end_ret1 (v := (.bool ((acc.filter (counts_f m v)).any (fun xx => allowed1_f xx v)))) rfl rfl ⟨by simp only [allowed_f, hc5, hc11, hc19, hc20, cond_true, cond_false], hE⟩
    ·have hp20 := hc20; simp only [Bool.and_eq_true, Bool.or_eq_true, Bool.and_eq_false_iff, Bool.or_eq_false_iff, Bool.not_eq_true', Bool.not_eq_false', decide_eq_true_eq, decide_eq_false_iff_not] at hp20; refine W.seq ?_; refine W.region (by rfl) ?_; refine L.val rfl (op_eql rfl rfl rfl) ?_; refine L.val rfl (op_assign rfl rfl) ?_; refine L.nil ?_; refine thenF_nor ?_; refine W.cond (t := decide (v.kind = 3)) rfl (fun hc23 => ?_) (fun hc23 => ?_)
     ·have hp23 := hc23; simp only [Bool.and_eq_true, Bool.or_eq_true, Bool.and_eq_false_iff, Bool.or_eq_false_iff, Bool.not_eq_true', Bool.not_eq_false', decide_eq_true_eq, decide_eq_false_iff_not] at hp23; refine W.seq ?_; obtain ⟨A24, c24, hv24, hR24, hcap24⟩ := (hO10_7).form; have hlen24 := hR24.len; have hBs24 := hB10_7; rw [hv24] at hBs24; refine W.region (by rfl) ?_; refine L.val rfl (op_loadcs (cs := [(.int .i64 m), (.int .i64 (quorum_f (size_f m))), (.slice A24 (acc.filter (counts_f m v)).length c24)]) rfl s10_7 ag100 si100 hBs24.cells) ?_; refine L.val rfl (op_load (v := (v : Vt)) rfl s10_4 ty47 hB1.cells) ?_; refine L.call (v := (.bool (prevote_f m (quorum_f (size_f m)) (acc.filter (counts_f m v)) v))) rfl (OpS.call (op_call rfl (argsC rfl (argsC rfl argsN)) Tryz.func87 rfl rfl) (prevote_ok hR24 (by first | omega | (simp only [List.length_drop, List.length_take, List.length_append, List.length_cons, List.length_nil] at *; omega)) (by first | omega | (simp only [List.length_drop, List.length_take, List.length_append, List.length_cons, List.length_nil] at *; omega)))) ?_; intro w25 hx25; have hE := hE.trans hx25; refine L.val rfl (op_assign rfl rfl) ?_; refine L.nil ?_; refine thenF_nor ?_; refine W.ret ?_; refine blockF_ret ?_; refine thenF_ret ?_; exact end_ret1 (v := (.bool (prevote_f m (quorum_f (size_f m)) (acc.filter (counts_f m v)) v))) rfl rfl ⟨by simp only [allowed_f, hc5, hc11, hc19, hc20, hc23, cond_true, cond_false], hE⟩
     ·have hp23 := hc23; simp only [Bool.and_eq_true, Bool.or_eq_true, Bool.and_eq_false_iff, Bool.or_eq_false_iff, Bool.not_eq_true', Bool.not_eq_false', decide_eq_true_eq, decide_eq_false_iff_not] at hp23; refine W.skip ?_; refine blockF_nor ?_; refine thenF_nor ?_; refine W.seq ?_; obtain ⟨A26, c26, hv26, hR26, hcap26⟩ := (hO10_7).form; have hlen26 := hR26.len; have hBs26 := hB10_7; rw [hv26] at hBs26; refine W.region (by rfl) ?_; refine L.val rfl (op_loadcs (cs := [(.int .i64 m), (.int .i64 (quorum_f (size_f m))), (.slice A26 (acc.filter (counts_f m v)).length c26)]) rfl s10_7 ag100 si100 hBs26.cells) ?_; refine L.val rfl (op_load (v := (v : Vt)) rfl s10_4 ty47 hB1.cells) ?_; refine L.call (v := (.bool (precommit_f m (quorum_f (size_f m)) (acc.filter (counts_f m v)) v))) rfl (OpS.call (op_call rfl (argsC rfl (argsC rfl argsN)) Tryz.func88 rfl rfl) (precommit_ok hR26)) ?_; intro w27 hx27; have hE := hE.trans hx27; refine L.val rfl (op_assign rfl rfl) ?_; refine L.nil ?_; refine thenF_nor ?_; refine W.ret ?_; exact end_ret1 (v := (.bool (precommit_f m (quorum_f (size_f m)) (acc.filter (counts_f m v)) v))) rfl rfl ⟨by simp only [allowed_f, hc5, hc11, hc19, hc20, hc23, cond_false], hE⟩
end Go.Proofs.YtdknjfmjddlphaaGreat
/-
  The orders of names and votes are strict and total. No walk.
-/
namespace Go.Proofs.YtdknjfmjddlphaaGreat
open Go Go.Fk
theorem or8 (x c : Int) (h0 : 0 ≤ x) (h1 : x < 72057594037927936) (h2 : 0 ≤ c) (h3 : c < 256) : bits .or .u64 (IntKind.u64.wrap (x * 2 ^ (8 : Int).toNat)) (IntKind.u64.wrap c) = x * 256 + c := by
 have w1 : ∀ n : Int, 0 ≤ n → n < 18446744073709551616 → IntKind.u64.wrap n = n := fun n a b => by
  simp only [IntKind.wrap, IntKind.bits, IntKind.signed]
  simp
  omega
 have e8 : (2 : Int) ^ (8 : Int).toNat = 256 := by decide
 rw [e8, w1 (x * 256) (by omega) (by omega), w1 c h2 (by omega)]; show IntKind.u64.wrap (((BitVec.ofInt 64 (x * 256) ||| BitVec.ofInt 64 c).toNat : Nat) : Int) = _; obtain ⟨n, rfl⟩ : ∃ n : Nat, x = n := ⟨x.toNat, by omega⟩; obtain ⟨k, rfl⟩ : ∃ k : Nat, c = k := ⟨c.toNat, by omega⟩
 have a1 : (BitVec.ofInt 64 ((n : Int) * 256)).toNat = n * 256 := by
  rw [BitVec.toNat_ofInt]; simp; omega
 have a2 : (BitVec.ofInt 64 (k : Int)).toNat = k := by
  rw [BitVec.toNat_ofInt]; simp; omega
 rw [BitVec.toNat_or, a1, a2]
 have a3 : n * 256 ||| k = n * 256 + k := by
  have := Nat.shiftLeft_add_eq_or_of_lt (a := n) (b := k) (i := 8) (by omega)
  rw [Nat.shiftLeft_eq] at this
  exact this.symm
 rw [a3, w1 _ (by omega) (by omega)]; omega
def num (n : Nm) : Int := ((((((((n.n0.toNat : Int) * 256 + n.n1.toNat) * 256 + n.n2.toNat) * 256 + n.n3.toNat) * 256 + n.n4.toNat) * 256 + n.n5.toNat) * 256 + n.n6.toNat) * 256 + n.n7.toNat)
theorem number_eq (n : Nm) : number_f n = num n := by
 have h0 := n.n0.toNat_lt; have h1 := n.n1.toNat_lt; have h2 := n.n2.toNat_lt; have h3 := n.n3.toNat_lt; have h4 := n.n4.toNat_lt; have h5 := n.n5.toNat_lt; have h6 := n.n6.toNat_lt; have h7 := n.n7.toNat_lt; unfold number_f num; rw [or8 0 _ (by omega) (by omega) (by omega) (by omega)]; rw [or8 (0 * 256 + (n.n0.toNat : Int)) (n.n1.toNat : Int) (by omega) (by omega) (by omega) (by omega)]; rw [or8 ((0 * 256 + (n.n0.toNat : Int)) * 256 + (n.n1.toNat : Int)) (n.n2.toNat : Int) (by omega) (by omega) (by omega) (by omega)]; rw [or8 (((0 * 256 + (n.n0.toNat : Int)) * 256 + (n.n1.toNat : Int)) * 256 + (n.n2.toNat : Int)) (n.n3.toNat : Int) (by omega) (by omega) (by omega) (by omega)]; rw [or8 ((((0 * 256 + (n.n0.toNat : Int)) * 256 + (n.n1.toNat : Int)) * 256 + (n.n2.toNat : Int)) * 256 + (n.n3.toNat : Int)) (n.n4.toNat : Int) (by omega) (by omega) (by omega) (by omega)]; rw [or8 (((((0 * 256 + (n.n0.toNat : Int)) * 256 + (n.n1.toNat : Int)) * 256 + (n.n2.toNat : Int)) * 256 + (n.n3.toNat : Int)) * 256 + (n.n4.toNat : Int)) (n.n5.toNat : Int) (by omega) (by omega) (by omega) (by omega)]; rw [or8 ((((((0 * 256 + (n.n0.toNat : Int)) * 256 + (n.n1.toNat : Int)) * 256 + (n.n2.toNat : Int)) * 256 + (n.n3.toNat : Int)) * 256 + (n.n4.toNat : Int)) * 256 + (n.n5.toNat : Int)) (n.n6.toNat : Int) (by omega) (by omega) (by omega) (by omega)]; rw [or8 (((((((0 * 256 + (n.n0.toNat : Int)) * 256 + (n.n1.toNat : Int)) * 256 + (n.n2.toNat : Int)) * 256 + (n.n3.toNat : Int)) * 256 + (n.n4.toNat : Int)) * 256 + (n.n5.toNat : Int)) * 256 + (n.n6.toNat : Int)) (n.n7.toNat : Int) (by omega) (by omega) (by omega) (by omega)]; omega
theorem num_inj {a b : Nm} (h : num a = num b) : a = b := by
 have h0 := a.n0.toNat_lt; have h1 := a.n1.toNat_lt; have h2 := a.n2.toNat_lt; have h3 := a.n3.toNat_lt; have h4 := a.n4.toNat_lt; have h5 := a.n5.toNat_lt; have h6 := a.n6.toNat_lt; have h7 := a.n7.toNat_lt; have k0 := b.n0.toNat_lt; have k1 := b.n1.toNat_lt; have k2 := b.n2.toNat_lt; have k3 := b.n3.toNat_lt; have k4 := b.n4.toNat_lt; have k5 := b.n5.toNat_lt; have k6 := b.n6.toNat_lt; have k7 := b.n7.toNat_lt; unfold num at h; refine (Nm.ext_iff' a b).2 ⟨?_, ?_, ?_, ?_, ?_, ?_, ?_, ?_⟩ <;> exact UInt8.toNat_inj.1 (by omega)
theorem hashLess_eq (a b : Nm) : hashLess_f a b = decide (num a < num b) := by
 unfold hashLess_f; rw [number_eq, number_eq]; by_cases h : a = b
 ·subst h; simp
 ·simp [h]
theorem nm_dec (a b : Nm) : decide (a = b) = decide (num a = num b) := by
 by_cases h : a = b
 ·subst h; simp
 ·have : ¬ num a = num b := fun e => h (num_inj e); simp [h, this]
/-- two rows of numbers, the first difference decides -/
def lexl : List Int → List Int → Bool
  | x :: xs, y :: ys => bif !decide (x = y) then decide (x < y) else lexl xs ys
  | _, _ => false
theorem lexl_irrefl : ∀ l, lexl l l = false
  | [] => rfl
  | x :: xs => by simp [lexl, lexl_irrefl xs]
theorem lexl_trans : ∀ a b c, lexl a b = true → lexl b c = true → lexl a c = true
  | [], _, _, h, _ => by simp [lexl] at h
  | _ :: _, [], _, h, _ => by simp [lexl] at h
  | _ :: _, _ :: _, [], _, h => by simp [lexl] at h
  | x :: xs, y :: ys, z :: zs, h1, h2 => by
    simp only [lexl] at h1 h2 ⊢
    by_cases e1 : x = y
    · by_cases e2 : y = z
      · subst e1 e2; simp at h1 h2 ⊢; exact lexl_trans _ _ _ h1 h2
      · subst e1; simp [e2] at h1 h2 ⊢; exact h2
    · by_cases e2 : y = z
      · subst e2; simp [e1] at h1 h2 ⊢; exact h1
      · simp [e1, e2] at h1 h2
        have : ¬ x = z := by omega
        simp [this]; omega
theorem lexl_total : ∀ a b, a.length = b.length → lexl a b = false → lexl b a = false → a = b
  | [], [], _, _, _ => rfl
  | [], _ :: _, h, _, _ => by simp at h
  | _ :: _, [], h, _, _ => by simp at h
  | x :: xs, y :: ys, h, h1, h2 => by
    simp only [lexl] at h1 h2
    by_cases e : x = y
    · subst e; simp at h1 h2
      rw [lexl_total xs ys (by simpa using h) h1 h2]
    · have e' : ¬ y = x := fun h => e h.symm
      simp [e, e'] at h1 h2; omega
/-- a strict total order -/
structure Lin {α : Type} (lt : α → α → Bool) : Prop where
  irrefl : ∀ x, lt x x = false
  trans : ∀ x y z, lt x y = true → lt y z = true → lt x z = true
  total : ∀ x y, lt x y = false → lt y x = false → x = y
theorem Lin.asymm {α : Type} {lt : α → α → Bool} (h : Lin lt) {x y : α} (hxy : lt x y = true) : lt y x = false := by
 cases hc : lt y x with
 | false => rfl; | true => have := h.trans _ _ _ hxy hc; rw [h.irrefl] at this; cases this
theorem Lin.swo {α : Type} {lt : α → α → Bool} (h : Lin lt) : Go.Sort.SWO lt where
  irrefl := h.irrefl
  trans := h.trans
  ntrans x y z h1 h2 := by
    cases hc : lt x z with
    | false => rfl
    | true =>
      cases h3 : lt y x with
      | true => have := h.trans _ _ _ h3 hc; rw [h2] at this; cases this
      | false => have := h.total _ _ h1 h3; subst this; rw [h2] at hc; cases hc
theorem Lin.of_key {α : Type} {lt : α → α → Bool} (key : α → List Int) (n : Nat) (hn : ∀ x, (key x).length = n) (hinj : ∀ x y, key x = key y → x = y) (h : ∀ x y, lt x y = lexl (key x) (key y)) : Lin lt where
  irrefl x := by rw [h]; exact lexl_irrefl _
  trans x y z h1 h2 := by rw [h] at h1 h2 ⊢; exact lexl_trans _ _ _ h1 h2
  total x y h1 h2 := by rw [h] at h1 h2; exact hinj _ _ (lexl_total _ _ (by rw [hn, hn]) h1 h2)
def vkey (v : Vt) : List Int := [num v.parent, v.slot, v.round, v.kind, v.signer, v.choice, num v.value, v.support]
theorem vote_lin : Lin voteLess_f := Lin.of_key vkey 8 (fun _ => rfl)
  (fun x y h => by
    simp only [vkey, List.cons.injEq, and_true] at h
    obtain ⟨h1, h2, h3, h4, h5, h6, h7, h8⟩ := h
    exact (Vt.ext_iff' x y).2 ⟨h4, h2, h3, h6, h5, h8, num_inj h1, num_inj h7⟩)
  (fun a b => by
    unfold voteLess_f vkey
    rw [hashLess_eq, hashLess_eq, nm_dec a.parent, nm_dec a.value]
    simp only [lexl]
    by_cases h8 : a.support = b.support
    · simp [h8]
    · simp [h8])
theorem name_lin : Lin hashLess_f := Lin.of_key (fun n => [num n]) 1 (fun _ => rfl)
  (fun x y h => by simp only [List.cons.injEq, and_true] at h; exact num_inj h)
  (fun a b => by
    rw [hashLess_eq]
    simp only [lexl]
    by_cases h : num a = num b
    · simp [h]
    · simp [h])
set_option linter.unusedSectionVars false
section
variable {α : Type} [DecidableEq α] {lt : α → α → Bool}
/-- strictly ascending -/
def Asc (lt : α → α → Bool) (l : List α) : Prop := l.Pairwise fun a b => lt a b = true
theorem Asc.unique (hl : Lin lt) : ∀ {l m : List α}, Asc lt l → Asc lt m → (∀ x, x ∈ l ↔ x ∈ m) → l = m
  | [], [], _, _, _ => rfl
  | [], y :: m, _, _, h => by have := (h y).2 (by simp); simp at this
  | x :: l, [], _, _, h => by have := (h x).1 (by simp); simp at this
  | x :: l, y :: m, h1, h2, h => by
    obtain ⟨a1, a2⟩ := List.pairwise_cons.1 h1
    obtain ⟨b1, b2⟩ := List.pairwise_cons.1 h2
    have e : x = y := by
      have hx := (h x).1 (by simp)
      have hy := (h y).2 (by simp)
      rcases List.mem_cons.1 hx with e | hx
      · exact e
      · rcases List.mem_cons.1 hy with e | hy
        · exact e.symm
        · have c1 := b1 x hx
          have c2 := a1 y hy
          rw [hl.asymm c1] at c2; cases c2
    subst e
    congr 1
    refine Asc.unique hl a2 b2 fun z => ?_
    constructor
    · intro hz
      rcases List.mem_cons.1 ((h z).1 (by simp [hz])) with e | hz'
      · subst e; have := a1 z hz; rw [hl.irrefl] at this; cases this
      · exact hz'
    · intro hz
      rcases List.mem_cons.1 ((h z).2 (by simp [hz])) with e | hz'
      · subst e; have := b1 z hz; rw [hl.irrefl] at this; cases this
      · exact hz'
/-- the element in its place, unless it is there -/
def ins (lt : α → α → Bool) (x : α) : List α → List α
  | [] => [x]
  | y :: t => bif lt x y then x :: y :: t else bif decide (x = y) then y :: t else y :: ins lt x t
/-- sorted, without duplicates -/
def sorted (lt : α → α → Bool) (l : List α) : List α := l.foldr (ins lt) []
theorem mem_ins (x z : α) : ∀ l, z ∈ ins lt x l ↔ z = x ∨ z ∈ l
  | [] => by simp [ins]
  | y :: t => by
    unfold ins
    cases h : lt x y with
    | true => simp
    | false =>
      by_cases e : x = y
      · subst e; simp
      · simp only [cond_false, e, decide_false, List.mem_cons, mem_ins x z t]
        constructor
        · rintro (h | h | h)
          · exact Or.inr (Or.inl h)
          · exact Or.inl h
          · exact Or.inr (Or.inr h)
        · rintro (h | h | h)
          · exact Or.inr (Or.inl h)
          · exact Or.inl h
          · exact Or.inr (Or.inr h)
theorem asc_ins (hl : Lin lt) (x : α) : ∀ {l}, Asc lt l → Asc lt (ins lt x l)
  | [], _ => by simp [ins, Asc]
  | y :: t, h => by
    obtain ⟨a1, a2⟩ := List.pairwise_cons.1 h
    unfold ins
    cases hxy : lt x y with
    | true =>
      refine List.pairwise_cons.2 ⟨fun z hz => ?_, h⟩
      rcases List.mem_cons.1 hz with e | hz
      · subst e; exact hxy
      · exact hl.trans _ _ _ hxy (a1 z hz)
    | false =>
      by_cases e : x = y
      · subst e; simpa using h
      · simp only [cond_false, e, decide_false]
        have hyx : lt y x = true := by
          cases hc : lt y x with
          | true => rfl
          | false => exact absurd (hl.total _ _ hxy hc) e
        refine List.pairwise_cons.2 ⟨fun z hz => ?_, asc_ins hl x a2⟩
        rcases (mem_ins x z t).1 hz with e | hz
        · subst e; exact hyx
        · exact a1 z hz
theorem sorted_mem (z : α) (l : List α) : z ∈ sorted lt l ↔ z ∈ l := by
 induction l with
 | nil => simp [sorted]; | cons x t ih => unfold sorted at ih ⊢; rw [List.foldr_cons, mem_ins, ih]; simp
theorem sorted_asc (hl : Lin lt) (l : List α) : Asc lt (sorted lt l) := by
 induction l with
 | nil => simp [sorted, Asc]; | cons x t ih => unfold sorted at ih ⊢; rw [List.foldr_cons]; exact asc_ins hl x ih
end
end Go.Proofs.YtdknjfmjddlphaaGreat
/-
  What sort.Slice is told of a closure that compares two elements of the slice in a captured variable; and a sorted list without its repetitions. No walk.
-/
namespace Go.Proofs.YtdknjfmjddlphaaGreat
open Go Go.Fk Go.Sort
theorem lessOk_box {α : Type} [Enc α] [Inhabited α] {lt : α → α → Bool} {g : Nat} {fn : Func} (h1 : Tryz.prog.funcs[g]? = some fn) (h2 : fn.body.isSome = true) (h3 : (fn.name == "runtime.NumGoroutine") = false)
    (hc : ∀ {w : World} {q : Addr} {A : Option Addr} {c lo hi : Nat} {l : List α} {i j : Nat}, Cells w q [.slice A l.length c] → Rd w lo hi A l → i < l.length → j < l.length → Gives Tryz.prog g #[.int .i64 ((i : Nat) : Int), .int .i64 ((j : Nat) : Int), .pointer (some q)] w fun u w' => u = .bool (lt l[i]! l[j]!) ∧ Ext w w')
    {w : World} {b blk n c : Nat} {t : TypeId} (hB : Box w b t [.slice (some ⟨blk, 0, none⟩) n c]) (hne : b ≠ blk) (hn : n ≤ 9223372036854775807) : LessOk Tryz.prog lt (.func (.func g) #[] #[.pointer (some ⟨b, 0, none⟩)]) blk 0 n w := by
  refine ⟨g, _, fn, rfl, h1, h2, h3, fun w1 d hF hs hH i j hi hj => ?_⟩
  subst hs
  have hB1 := hB.farx hF hne
  have hR := rd_of_hld (lo := 0) (hi := blk + 1) hH hn (Nat.zero_le _) (Nat.lt_succ_self _)
  have hcs : Cells w1 ⟨b, 0, none⟩ [.slice (some ⟨blk, 0, none⟩) d.toList.length c] := by
    have := hB1.cells
    simpa using this
  have := hc (i := i) (j := j) hcs hR (by simpa using hi) (by simpa using hj)
  simpa [hi, hj] using this
section
variable {α : Type} [DecidableEq α] [Inhabited α] {lt : α → α → Bool}
/-- the first k elements, each that is like the one ahead of it left out -/
def dedupN (l : List α) : Nat → List α
  | 0 => []
  | k + 1 => bif decide (((k : Nat) : Int) = 0) || !decide (l[k]! = l[k - 1]!) then dedupN l k ++ [l[k]!] else dedupN l k
theorem dedup_len (l : List α) : ∀ k, (dedupN l k).length ≤ k
  | 0 => by simp [dedupN]
  | k + 1 => by
    have := dedup_len l k
    unfold dedupN
    cases decide (((k : Nat) : Int) = 0) || !decide (l[k]! = l[k - 1]!) with
    | true => simp; omega
    | false => simp; omega
theorem dedup_yes {l : List α} {k : Nat} (h : (decide (((k : Nat) : Int) = 0) || !decide (l[k]! = l[k - 1]!)) = true) : dedupN l (k + 1) = dedupN l k ++ [l[k]!] := by
 simp only [dedupN, h, cond_true]
theorem dedup_no {l : List α} {k : Nat} (h : (decide (((k : Nat) : Int) = 0) || !decide (l[k]! = l[k - 1]!)) = false) : dedupN l (k + 1) = dedupN l k := by
 simp only [dedupN, h, cond_false]
theorem dedup_mem {l : List α} {z : α} : ∀ {k : Nat}, z ∈ dedupN l k ↔ ∃ i, i < k ∧ z = l[i]!
  | 0 => by simp [dedupN]
  | k + 1 => by
    have ih := dedup_mem (l := l) (z := z) (k := k)
    unfold dedupN
    cases h : decide (((k : Nat) : Int) = 0) || !decide (l[k]! = l[k - 1]!) with
    | true =>
      simp only [cond_true, List.mem_append, List.mem_singleton, ih]
      constructor
      · rintro (⟨i, hi, e⟩ | e)
        · exact ⟨i, by omega, e⟩
        · exact ⟨k, by omega, e⟩
      · rintro ⟨i, hi, e⟩
        rcases Nat.lt_succ_iff_lt_or_eq.1 hi with h | h
        · exact Or.inl ⟨i, h, e⟩
        · subst h; exact Or.inr e
    | false =>
      simp only [Bool.or_eq_false_iff, decide_eq_false_iff_not, Bool.not_eq_false', decide_eq_true_eq] at h
      simp only [cond_false, ih]
      constructor
      · rintro ⟨i, hi, e⟩; exact ⟨i, by omega, e⟩
      · rintro ⟨i, hi, e⟩
        rcases Nat.lt_succ_iff_lt_or_eq.1 hi with h' | h'
        · exact ⟨i, h', e⟩
        · subst h'; exact ⟨i - 1, by omega, by rw [e]; exact h.2⟩
theorem dedup_asc (hl : Lin lt) {l : List α} (hs : ∀ i j, i < j → j < l.length → lt l[j]! l[i]! = false) : ∀ {k : Nat}, k ≤ l.length → Asc lt (dedupN l k)
  | 0, _ => by simp [dedupN, Asc]
  | k + 1, hk => by
    have ih := dedup_asc hl hs (k := k) (by omega)
    unfold dedupN
    cases h : decide (((k : Nat) : Int) = 0) || !decide (l[k]! = l[k - 1]!) with
    | false => exact ih
    | true =>
      simp only [cond_true]
      refine List.pairwise_append.2 ⟨ih, by simp, fun x hx y hy => ?_⟩
      rw [List.mem_singleton] at hy
      subst hy
      obtain ⟨i, hi, rfl⟩ := dedup_mem.1 hx
      simp only [Bool.or_eq_true, decide_eq_true_eq, Bool.not_eq_true', decide_eq_false_iff_not] at h
      rcases h with h | h
      · omega
      · have hlast : lt l[k - 1]! l[k]! = true := by
          cases hc : lt l[k - 1]! l[k]! with
          | true => rfl
          | false => exact absurd (hl.total _ _ (hs (k - 1) k (by omega) (by omega)) hc) h
        rcases Nat.lt_or_ge i (k - 1) with hlt | hge
        · cases hc : lt l[i]! l[k - 1]! with
          | true => exact hl.trans _ _ _ hc hlast
          | false =>
            have := hl.total _ _ hc (hs i (k - 1) hlt (by omega))
            rw [this]; exact hlast
        · have : i = k - 1 := by omega
          rw [this]; exact hlast
theorem dedup_sorted (hl : Lin lt) {l m : List α} (hs : ∀ i j, i < j → j < l.length → lt l[j]! l[i]! = false) (hp : l.Perm m) : dedupN l l.length = sorted lt m := by
 refine Asc.unique hl (dedup_asc hl hs (Nat.le_refl _)) (sorted_asc hl m) fun z => ?_; rw [dedup_mem, sorted_mem, ← hp.mem_iff]; constructor
 ·rintro ⟨i, hi, rfl⟩; rw [getElem!_pos l i hi]; exact List.getElem_mem hi
 ·intro hz; obtain ⟨i, hi, e⟩ := List.getElem_of_mem hz; exact ⟨i, hi, by rw [getElem!_pos l i hi]; exact e.symm⟩
end
theorem ins_len {α : Type} [DecidableEq α] {lt : α → α → Bool} (x : α) : ∀ l, (ins lt x l).length ≤ l.length + 1
  | [] => by simp [ins]
  | y :: t => by
    unfold ins
    cases lt x y with
    | true => simp
    | false =>
      cases decide (x = y) with
      | true => simp
      | false => simpa using ins_len x t
theorem sorted_len {α : Type} [DecidableEq α] {lt : α → α → Bool} (l : List α) : (sorted lt l).length ≤ l.length := by
 induction l with
 | nil => simp [sorted]
 | cons x t ih =>
  unfold sorted at ih ⊢
  rw [List.foldr_cons]
  have := ins_len (lt := lt) x (t.foldr (ins lt) [])
  simp only [List.length_cons]; omega
/-- the votes above the parent, ascending, without repetitions -/
def asc_f (parent : Nm) (l : List Vt) : List Vt := sorted voteLess_f (l.filter fun x => decide (x.parent = parent))
theorem asc_len (parent : Nm) (l : List Vt) : (asc_f parent l).length ≤ l.length := Nat.le_trans (sorted_len _) (List.length_filter_le _ _)
end Go.Proofs.YtdknjfmjddlphaaGreat
/-
  Contracts of functions of the program, each with its walk in the logic of frames. Printed by a program of this session (wip/gen) from the translation.
-/
set_option linter.unusedSimpArgs false
set_option linter.unusedVariables false
namespace Go.Proofs.YtdknjfmjddlphaaGreat
open Go Go.Fk
set_option maxRecDepth 100000 in
theorem ascending1_ok {i : Nat} {j : Nat} {q_l : Addr} {A_l : Option Addr} {c_l lo_l hi_l : Nat} {l : List Vt}  {w : World} (hq_l : Cells w q_l [.slice A_l l.length c_l]) (hR_l : Rd w lo_l hi_l A_l l) (hi : i < l.length) (hj : j < l.length) : Gives Tryz.prog 98 #[(.int .i64 ((i : Nat) : Int)), (.int .i64 ((j : Nat) : Int)), (.pointer (some q_l))] w fun u w' => u = (.bool (voteLess_f l[i]! l[j]!)) ∧ Ext w w' := by
 have hE : Ext w w := Ext.refl w; have hlen_l := hR_l.len; refine gives_of_W Tryz.func98 rfl Tryz.ntmps98 rfl ?_; refine W.seq ?_; refine W.region (by rfl) ?_; refine L.val (v := (.bool false)) rfl (op_assign rfl rfl) ?_; refine L.nil ?_; refine thenF_nor ?_; refine W.seq ?_; refine W.drawS [Sp.eq (.slice A_l l.length c_l), Sp.eq (.int .i64 ((i : Nat) : Int)), Sp.eq (.pointer (some ((adr A_l).add (i * 22)))), Sp.eq (Enc.val (l[i]! : Vt)), Sp.eq (.slice A_l l.length c_l), Sp.eq (.int .i64 ((j : Nat) : Int)), Sp.eq (.pointer (some ((adr A_l).add (j * 22)))), Sp.eq (Enc.val (l[j]! : Vt)), Sp.eq (.bool (voteLess_f (l[i]!) (l[j]!))), Sp.eq (.bool (voteLess_f (l[i]!) (l[j]!)))] mixed (by rfl) (Obls.cons ?_ (Obls.cons ?_ (Obls.cons ?_ (Obls.cons ?_ (Obls.cons ?_ (Obls.cons ?_ (Obls.cons ?_ (Obls.cons ?_ (Obls.cons ?_ (Obls.cons ?_ Obls.nil)))))))))) ?_
 ·intro f2 w2 hx2 ho2 hd2; have d2_s2 : f2 2 = (.pointer (some q_l)) := ho2 2 rfl; have hq_l := hq_l.ext hx2; exact D.val rfl (op_load1 rfl d2_s2 one25 (hq_l.one (n := 0) rfl))
 ·intro f3 w3 hx3 ho3 hd3; have d3_s0 : f3 0 = (.int .i64 ((i : Nat) : Int)) := ho3 0 rfl; exact D.val rfl (op_move rfl d3_s0)
 ·intro f4 w4 hx4 ho4 hd4; have d4_0 : f4 6 = (.slice A_l l.length c_l) := hd4 0 rfl; have d4_1 : f4 7 = (.int .i64 ((i : Nat) : Int)) := hd4 1 rfl; have hR_l := hR_l.ext hx4; skip; exact D.val rfl (op_index (k := i) rfl d4_0 d4_1 sl25 (hR_l.getA (get_bang (l := l) (k := i) (by omega))).1 rfl (by omega) rfl)
 ·intro f5 w5 hx5 ho5 hd5; have d5_2 : f5 8 = (.pointer (some ((adr A_l).add (i * 22)))) := hd5 2 rfl; have hR_l := hR_l.ext hx5; skip; exact D.val rfl (op_load (v := (l[i]! : Vt)) rfl d5_2 ty47 (hR_l.getA (get_bang (l := l) (k := i) (by omega))).2)
 ·intro f6 w6 hx6 ho6 hd6; have d6_s2 : f6 2 = (.pointer (some q_l)) := ho6 2 rfl; have hq_l := hq_l.ext hx6; exact D.val rfl (op_load1 rfl d6_s2 one25 (hq_l.one (n := 0) rfl))
 ·intro f7 w7 hx7 ho7 hd7; have d7_s1 : f7 1 = (.int .i64 ((j : Nat) : Int)) := ho7 1 rfl; exact D.val rfl (op_move rfl d7_s1)
 ·intro f8 w8 hx8 ho8 hd8; have d8_4 : f8 10 = (.slice A_l l.length c_l) := hd8 4 rfl; have d8_5 : f8 11 = (.int .i64 ((j : Nat) : Int)) := hd8 5 rfl; have hR_l := hR_l.ext hx8; skip; exact D.val rfl (op_index (k := j) rfl d8_4 d8_5 sl25 (hR_l.getA (get_bang (l := l) (k := j) (by omega))).1 rfl (by omega) rfl)
 ·intro f9 w9 hx9 ho9 hd9; have d9_6 : f9 12 = (.pointer (some ((adr A_l).add (j * 22)))) := hd9 6 rfl; have hR_l := hR_l.ext hx9; skip; exact D.val rfl (op_load (v := (l[j]! : Vt)) rfl d9_6 ty47 (hR_l.getA (get_bang (l := l) (k := j) (by omega))).2)
 ·intro f10 w10 hx10 ho10 hd10; have d10_3 : f10 9 = (Enc.val (l[i]! : Vt)) := hd10 3 rfl; have d10_7 : f10 13 = (Enc.val (l[j]! : Vt)) := hd10 7 rfl; exact D.call (R := (Sp.eq (.bool (voteLess_f (l[i]!) (l[j]!)))).p) rfl (OpS.call (op_call rfl (argsC d10_3 (argsC d10_7 argsN)) Tryz.func70 rfl rfl) voteLess_ok)
 ·intro f11 w11 hx11 ho11 hd11; have d11_8 : f11 14 = (.bool (voteLess_f (l[i]!) (l[j]!))) := hd11 8 rfl; exact D.val rfl (op_assign rfl d11_8)
 intro f12 w12 hx12 ho12 hr12; have s5 : f12 5 = (.bool (voteLess_f (l[i]!) (l[j]!))) := hr12 9 (by decide); have hE := hE.trans hx12; refine thenF_nor ?_; refine W.ret ?_; exact end_ret1 (v := (.bool (voteLess_f (l[i]!) (l[j]!)))) rfl s5 ⟨rfl, hE⟩
set_option maxRecDepth 100000 in
set_option maxHeartbeats 4000000 in
theorem ascending_ok {parent : Nm} {A_l : Option Addr} {c_l lo_l hi_l : Nat} {l : List Vt}  {w : World} (hR_l : Rd w lo_l hi_l A_l l) (hl : l.length ≤ 1000000) : Gives Tryz.prog 59 #[(Enc.val (parent : Nm)), (.slice A_l l.length c_l)] w fun u w' => SlR w' u (asc_f parent l : List Vt) ∧ Ext w w' := by
 have hE : Ext w w := Ext.refl w; have hlen_l := hR_l.len; refine gives_of_W Tryz.func59 rfl Tryz.ntmps59 rfl ?_; refine W.seq ?_; refine W.region (by rfl) ?_; refine L.step rfl (op_box (cs := (Enc.cells (parent : Nm))) rfl rfl rfl) ?_; rintro _ w1 ⟨b1, rfl, hb1, hB1, hx1⟩; have hE := hE.trans hx1; have hR_l := hR_l.ext hx1; refine L.val rfl (op_assign rfl rfl) ?_; refine L.nil ?_; refine thenF_nor ?_; refine W.seq ?_; have S2_hR_l := hR_l; have S2_hB1 := hB1; have S2_hE := hE; have hS2 : Ext w1 w1 := Ext.refl _; refine W.region (by rfl) ?_; refine L.step rfl (op_alloc (z := (.slice none 0 0)) (cs := [(.slice none 0 0)]) rfl (by kernel_rfl) rfl) ?_; rintro _ w3 ⟨b3, rfl, hb3, hB3, hx3⟩; have hbb3_hE := Nat.le_trans hE.size hb3; have hbb3_hS2 := Nat.le_trans hS2.size hb3; have hE := hE.trans hx3; have hS2 := hS2.trans hx3; refine L.nil ?_; refine thenF_nor ?_; refine W.seq ?_; refine W.seq ?_; refine W.region (by rfl) ?_; refine L.val rfl (op_move rfl rfl) ?_; refine L.val rfl (op_len rfl rfl ln25) ?_; refine L.val rfl (op_move rfl rfl) ?_; refine L.nil ?_; refine thenF_nor ?_; refine W.block ?_; refine W.loopg (γ := Nat) (fun (k : Nat) (f : Fr) (ww : World) => k ≤ l.length ∧ f 2 = (.pointer (some ⟨b1, 0, none⟩)) ∧ f 4 = (.slice none 0 0) ∧ f 11 = (.slice A_l l.length c_l) ∧ f 12 = (.int .i64 (l.length : Int)) ∧ f 13 = (.int .i64 ((k : Nat) : Int)) ∧ f 5 = (.pointer (some ⟨b3, 0, none⟩)) ∧ (∃ vv, Box ww b3 25 [vv] ∧ Fk.Own ww (b3 + 1) 47 vv ((l.take k).filter (fun x => decide (x.parent = parent)))) ∧ Ext w1 ww) (fun (k : Nat) => l.length - k) 0 ⟨(by (try dsimp only); omega), rfl, rfl, rfl, rfl, rfl, rfl, ⟨_, hB3, Fk.Own.nil _ _ _⟩, hS2⟩ ?_; rintro k f4 w4 ⟨hk, s4_2, s4_4, s4_11, s4_12, s4_13, s4_5, hM4_5, hS2⟩; have hR_l := S2_hR_l.ext hS2; have hB1 := S2_hB1.ext hS2; have hE := S2_hE.trans hS2; obtain ⟨v4_5, hB4_5, hO4_5⟩ := hM4_5; have hfl := List.length_filter_le (fun x => decide (x.parent = parent)) (l.take k); have htl := List.length_take_le' k l; refine W.seq ?_; refine W.region (by rfl) ?_; refine L.val rfl (op_lss rfl s4_13 s4_12) ?_; refine L.nil ?_; refine thenF_nor ?_; refine W.seq ?_; refine W.cond (t := decide (((k : Nat) : Int) < (l.length : Int))) rfl (fun hc5 => ?_) (fun hc5 => ?_)
 ·have hp5 := hc5; simp only [Bool.and_eq_true, Bool.or_eq_true, Bool.and_eq_false_iff, Bool.or_eq_false_iff, Bool.not_eq_true', Bool.not_eq_false', decide_eq_true_eq, decide_eq_false_iff_not] at hp5; refine W.skip ?_; refine thenF_nor ?_; refine W.seq ?_; refine W.block ?_; refine W.seq ?_; refine W.region (by rfl) ?_; refine L.val rfl (op_index (k := k) rfl s4_11 s4_13 sl25 (hR_l.getA (get_bang (l := l) (k := k) (by omega))).1 rfl (by omega) rfl) ?_; refine L.val rfl (op_load (v := (l[k]! : Vt)) rfl rfl ty47 (hR_l.getA (get_bang (l := l) (k := k) (by omega))).2) ?_; refine L.newvar (v := (Enc.val (l[k]! : Vt))) (cs := (Enc.cells (l[k]! : Vt))) rfl rfl rfl rfl rfl rfl (fun _ => rfl) rfl si47 zs47 (Enc.one _) ?_; intro b6 w6 hb6 hB6 hx6; have hbb6_hE := Nat.le_trans hE.size hb6; have hbb6_hS2 := Nat.le_trans hS2.size hb6; have hE := hE.trans hx6; have hS2 := hS2.trans hx6; have hB1 := hB1.ext hx6; have hB4_5 := hB4_5.ext hx6; have hO4_5 := hO4_5.ext hx6; refine L.nil ?_; refine thenF_nor ?_; refine W.seq ?_; refine W.region (by rfl) ?_; refine L.val rfl (op_field rfl rfl fo47_6 rfl) ?_; refine L.val rfl (op_load (v := ((l[k]!).parent : Nm)) rfl rfl ty24 (sub_nm 6 hB6.cells rfl)) ?_; refine L.val rfl (op_load (v := (parent : Nm)) rfl s4_2 ty24 hB1.cells) ?_; refine L.val rfl (op_eqle (a := ((l[k]!).parent : Nm)) (b := (parent : Nm)) rfl rfl rfl eq24 (fun _ => ⟨_, rfl⟩) Tryz.eqGuardType24) ?_; refine L.nil ?_; refine thenF_nor ?_; refine W.cond (t := decide ((l[k]!).parent = parent)) rfl (fun hc7 => ?_) (fun hc7 => ?_)
  ·have hp7 := hc7; simp only [Bool.and_eq_true, Bool.or_eq_true, Bool.and_eq_false_iff, Bool.or_eq_false_iff, Bool.not_eq_true', Bool.not_eq_false', decide_eq_true_eq, decide_eq_false_iff_not] at hp7; have hstep := filter_yes (l := l) (p := fun x => decide (x.parent = parent)) (k := k) (by omega) hc7; refine W.region (by rfl) ?_; refine L.val rfl (op_load1 rfl s4_5 one25 (hB4_5.cells.one (n := 0) rfl)) ?_; refine L.val rfl (op_load (v := (l[k]! : Vt)) rfl rfl ty47 hB6.cells) ?_; refine L.step rfl (op_slice1 (a := (l[k]! : Vt)) rfl rfl sl25 zs47 (by decide)) ?_; rintro _ w8 ⟨b8, rfl, hb8, hB8, hx8⟩; have hE := hE.trans hx8; have hS2 := hS2.trans hx8; have hB4_5 := hB4_5.ext hx8; have hO4_5 := hO4_5.ext hx8; refine L.step rfl (op_append (a := (l[k]! : Vt)) (ad := ⟨b8, 0, none⟩) rfl rfl rfl sl25 zs47 bt47 hO4_5 hB8.cells (by omega) (by decide) (Nat.succ_le_of_lt hB4_5.lt)) ?_; rintro v9 w9 ⟨hO9, hg9⟩; have hS2 := hS2.own (hO4_5.lower (by omega)) hg9; have hB4_5 := hB4_5.far hg9 (hO4_5.ne' (Nat.lt_succ_self _)); have hE := S2_hE.trans hS2; refine L.step rfl (op_put (v := v9) rfl s4_5 rfl si25 hB4_5 (Nat.le_of_ble_eq_true rfl) hO9.cells hO9.onec) ?_; rintro _ w10 ⟨hB10, hg10⟩; have hO9 := (hO9).kept hg10 (hO9.ne (Nat.lt_succ_self _)); have hS2 := hS2.grown hg10 (by intro k hk; cases hk; omega); have hE := S2_hE.trans hS2; have hB4_5 := hB10; refine L.nil ?_; refine blockF_nor ?_; refine thenF_nor ?_; refine W.region (by rfl) ?_; refine L.val rfl (op_add (c := ((k + 1 : Nat) : Int)) rfl s4_13 rfl (by omega) (by omega)) ?_; refine L.val rfl (op_move rfl rfl) ?_; refine L.nil ?_; refine thenF_nor ?_; exact ⟨k + 1, ⟨(by (try dsimp only); omega), s4_2, s4_4, s4_11, s4_12, rfl, s4_5, (by rw [← hstep]; exact ⟨_, hB4_5, hO9⟩), hS2⟩, (by (try dsimp only); omega)⟩
  ·have hp7 := hc7; simp only [Bool.and_eq_true, Bool.or_eq_true, Bool.and_eq_false_iff, Bool.or_eq_false_iff, Bool.not_eq_true', Bool.not_eq_false', decide_eq_true_eq, decide_eq_false_iff_not] at hp7; have hstep := filter_no (l := l) (p := fun x => decide (x.parent = parent)) (k := k) (by omega) hc7; refine W.skip ?_; refine blockF_nor ?_; refine thenF_nor ?_; refine W.region (by rfl) ?_; refine L.val rfl (op_add (c := ((k + 1 : Nat) : Int)) rfl s4_13 rfl (by omega) (by omega)) ?_; refine L.val rfl (op_move rfl rfl) ?_; refine L.nil ?_; refine thenF_nor ?_; exact ⟨k + 1, ⟨(by (try dsimp only); omega), s4_2, s4_4, s4_11, s4_12, rfl, s4_5, (by rw [← hstep]; exact ⟨_, hB4_5, hO4_5⟩), hS2⟩, (by (try dsimp only); omega)⟩
 ·have hp5 := hc5; simp only [Bool.and_eq_true, Bool.or_eq_true, Bool.and_eq_false_iff, Bool.or_eq_false_iff, Bool.not_eq_true', Bool.not_eq_false', decide_eq_true_eq, decide_eq_false_iff_not] at hp5; have hkl : k = l.length := by omega
  rw [hkl, List.take_length] at hO4_5; have hfl2 := List.length_filter_le (fun x => decide (x.parent = parent)) l; refine W.exit ?_; refine thenF_exit ?_; refine thenF_exit ?_; refine blockF_hit ?_; refine thenF_nor ?_; refine W.seq ?_; obtain ⟨A11, c11, hv11, hR11, hcap11⟩ := (hO4_5).form; have hlen11 := hR11.len; have hBs11 := hB4_5; rw [hv11] at hBs11; refine W.region (by rfl) ?_; refine L.val rfl (op_load1 rfl s4_5 one25 (hBs11.cells.one (n := 0) rfl)) ?_; refine L.val rfl (op_iface rfl rfl (by kernel_rfl)) ?_; refine L.val rfl (op_func rfl (argsC s4_5 argsN)) ?_; have hOs11 := hO4_5; rw [hv11] at hOs11; refine L.step rfl (OpS.call (op_call rfl (argsC rfl (argsC rfl argsN)) Tryz.func62 rfl rfl) (sortSlice_ok st25 vote_lin.swo hOs11 (by omega) (fun blk eA => by subst eA; exact lessOk_box Tryz.func98 rfl rfl ascending1_ok hBs11 (by have hh := hOs11.lt blk rfl; omega) hlen11))) ?_; rintro _ w12 ⟨rfl, ls12, hpm12, hsl12, hso12, hR12, hg12⟩; have hBz12 := hBs11.far hg12 (hOs11.ne' (Nat.lt_succ_self _)); have hS2 := hS2.own (hOs11.lower (by omega)) hg12; rw [← hsl12] at hBz12; have hlen12 := hR12.len; have hR_l := S2_hR_l.ext hS2; have hB1 := S2_hB1.ext hS2; have hE := S2_hE.trans hS2; refine L.nil ?_; refine thenF_nor ?_; refine W.seq ?_; refine W.region (by rfl) ?_; refine L.val rfl (op_assign rfl rfl) ?_; refine L.nil ?_; refine thenF_nor ?_; refine W.seq ?_; refine W.seq ?_; refine W.region (by rfl) ?_; refine L.val rfl (op_load1 rfl s4_5 one25 (hBz12.cells.one (n := 0) rfl)) ?_; refine L.val rfl (op_len rfl rfl ln25) ?_; refine L.val rfl (op_move rfl rfl) ?_; refine L.nil ?_; refine thenF_nor ?_; refine W.block ?_; have S13_hR_l := hR_l; have S13_hB1 := hB1; have S13_hBz12 := hBz12; have S13_hR12 := hR12; have S13_hE := hE; have S13_hS2 := hS2; have hS13 : Ext w12 w12 := Ext.refl _; refine W.loopg (γ := Nat) (fun (k : Nat) (f : Fr) (ww : World) => k ≤ ls12.length ∧ f 4 = (.slice none 0 0) ∧ f 5 = (.pointer (some ⟨b3, 0, none⟩)) ∧ f 30 = (.slice A11 ls12.length c11) ∧ f 31 = (.int .i64 (ls12.length : Int)) ∧ f 32 = (.int .i64 ((k : Nat) : Int)) ∧ Fk.Own ww w12.heap.size 47 (f 8) (dedupN ls12 k) ∧ Ext w12 ww) (fun (k : Nat) => ls12.length - k) 0 ⟨(by (try dsimp only); omega), s4_4, s4_5, rfl, rfl, rfl, (own_at (v := .slice none 0 0) rfl (Fk.Own.nil _ _ _)), hS13⟩ ?_; rintro k f14 w14 ⟨hk, s14_4, s14_5, s14_30, s14_31, s14_32, hO14_8, hS13⟩; have hR_l := S13_hR_l.ext hS13; have hB1 := S13_hB1.ext hS13; have hBz12 := S13_hBz12.ext hS13; have hR12 := S13_hR12.ext hS13; have hE := S13_hE.trans hS13; have hS2 := S13_hS2.trans hS13; obtain ⟨v14_8, s14_8⟩ : ∃ v, f14 8 = v := ⟨_, rfl⟩; rw [s14_8] at hO14_8; have hdl := dedup_len ls12 k; refine W.seq ?_; refine W.region (by rfl) ?_; refine L.val rfl (op_lss rfl s14_32 s14_31) ?_; refine L.nil ?_; refine thenF_nor ?_; refine W.seq ?_; refine W.cond (t := decide (((k : Nat) : Int) < (ls12.length : Int))) rfl (fun hc15 => ?_) (fun hc15 => ?_)
  ·have hp15 := hc15; simp only [Bool.and_eq_true, Bool.or_eq_true, Bool.and_eq_false_iff, Bool.or_eq_false_iff, Bool.not_eq_true', Bool.not_eq_false', decide_eq_true_eq, decide_eq_false_iff_not] at hp15; refine W.skip ?_; refine thenF_nor ?_; refine W.seq ?_; refine W.block ?_; refine W.seq ?_; refine W.region (by rfl) ?_; refine L.val rfl (op_move rfl s14_32) ?_; refine L.val rfl (op_index (k := k) rfl s14_30 s14_32 sl25 (hR12.getA (get_bang (l := ls12) (k := k) (by omega))).1 rfl (by omega) rfl) ?_; refine L.val rfl (op_load (v := (ls12[k]! : Vt)) rfl rfl ty47 (hR12.getA (get_bang (l := ls12) (k := k) (by omega))).2) ?_; have A16_hR_l := hR_l; have A16_hB1 := hB1; have A16_hBz12 := hBz12; have A16_hR12 := hR12; have A16_hO14_8 := hO14_8; have A16_hE := hE; have A16_hS2 := hS2; have A16_hS13 := hS13; refine L.step rfl (op_alloc (z := Enc.val (default : Vt)) (cs := Enc.cells (default : Vt)) rfl (by kernel_rfl) rfl) ?_; rintro _ w16 ⟨b16, rfl, hb16, hB16, hx16⟩; have hbb16_hE := Nat.le_trans hE.size hb16; have hbb16_hS2 := Nat.le_trans hS2.size hb16; have hbb16_hS13 := Nat.le_trans hS13.size hb16; have hE := hE.trans hx16; refine L.val rfl (op_assign rfl rfl) ?_; refine L.step rfl (op_fillbox (v := (Enc.val (ls12[k]! : Vt))) (vs := (Enc.cells (ls12[k]! : Vt))) rfl rfl rfl rfl si47 hB16 (by simp [Enc.len]) (Enc.one _)) ?_; rintro _ w17 ⟨hB16, hg17⟩; have hxx17 : Ext w14 w17 := hx16.grown hg17 (by intro k hk; cases hk; exact hb16); have hE := A16_hE.trans hxx17; have hS13 := A16_hS13.trans hxx17; have hBz12 := A16_hBz12.ext hxx17; have hR12 := A16_hR12.ext hxx17; have hO14_8 := A16_hO14_8.ext hxx17; refine L.nil ?_; refine thenF_nor ?_; refine W.seq ?_; refine W.drawS [Sp.eq (.int .i64 ((k : Nat) : Int)), Sp.eq (.bool (decide (((k : Nat) : Int) = 0))), Sp.eq (.bool (decide (((k : Nat) : Int) = 0))), Sp.eq (vif (!(decide (((k : Nat) : Int) = 0))) (Enc.val (ls12[k]! : Vt))), Sp.eq (vif (!(decide (((k : Nat) : Int) = 0))) (.slice A11 ls12.length c11)), Sp.eq (vif (!(decide (((k : Nat) : Int) = 0))) (.int .i64 ((k : Nat) : Int))), Sp.eq (vif (!(decide (((k : Nat) : Int) = 0))) (.int .i64 ((k - 1 : Nat) : Int))), Sp.eq (vif (!(decide (((k : Nat) : Int) = 0))) (.pointer (some ((adr A11).add ((k - 1) * 22))))), Sp.eq (vif (!(decide (((k : Nat) : Int) = 0))) (Enc.val (ls12[k - 1]! : Vt))), Sp.eq (vif (!(decide (((k : Nat) : Int) = 0))) (.bool (!decide (ls12[k]! = ls12[k - 1]!)))), Sp.eq (.bool ((decide (((k : Nat) : Int) = 0)) || (!decide (ls12[k]! = ls12[k - 1]!))))] mixed (by rfl) (Obls.cons ?_ (Obls.cons ?_ (Obls.cons ?_ (Obls.cons ?_ (Obls.cons ?_ (Obls.cons ?_ (Obls.cons ?_ (Obls.cons ?_ (Obls.cons ?_ (Obls.cons ?_ (Obls.cons ?_ Obls.nil))))))))))) ?_
   ·intro f19 w19 hx19 ho19 hd19; have d19_s9 : f19 9 = (.int .i64 ((k : Nat) : Int)) := ho19 9 rfl; exact D.val rfl (op_move rfl d19_s9)
   ·intro f20 w20 hx20 ho20 hd20; have d20_0 : f20 37 = (.int .i64 ((k : Nat) : Int)) := hd20 0 rfl; exact D.val rfl (op_eql rfl d20_0 rfl)
   ·intro f21 w21 hx21 ho21 hd21; have d21_1 : f21 38 = (.bool (decide (((k : Nat) : Int) = 0))) := hd21 1 rfl; exact D.val rfl (op_move rfl d21_1)
   ·intro f22 w22 hx22 ho22 hd22; have d22_s10 : f22 10 = (.pointer (some ⟨b16, 0, none⟩)) := ho22 10 rfl; have d22_2 : f22 39 = (.bool (decide (((k : Nat) : Int) = 0))) := hd22 2 rfl; have hB16 := hB16.ext hx22; exact D.guardv (wanted_no rfl rfl d22_2) (fun hg => (op_load (v := (ls12[k]! : Vt)) rfl d22_s10 ty47 hB16.cells))
   ·intro f23 w23 hx23 ho23 hd23; have d23_s5 : f23 5 = (.pointer (some ⟨b3, 0, none⟩)) := (ho23 5 rfl).trans s14_5; have d23_2 : f23 39 = (.bool (decide (((k : Nat) : Int) = 0))) := hd23 2 rfl; have hBz12 := hBz12.ext hx23; exact D.guardv (wanted_no rfl rfl d23_2) (fun hg => (op_load1 rfl d23_s5 one25 (hBz12.cells.one (n := 0) rfl)))
   ·intro f24 w24 hx24 ho24 hd24; have d24_s9 : f24 9 = (.int .i64 ((k : Nat) : Int)) := ho24 9 rfl; have d24_2 : f24 39 = (.bool (decide (((k : Nat) : Int) = 0))) := hd24 2 rfl; exact D.guardv (wanted_no rfl rfl d24_2) (fun hg => (op_move rfl d24_s9))
   ·intro f25 w25 hx25 ho25 hd25; have d25_2 : f25 39 = (.bool (decide (((k : Nat) : Int) = 0))) := hd25 2 rfl; have d25_5 : f25 42 = (vif (!(decide (((k : Nat) : Int) = 0))) (.int .i64 ((k : Nat) : Int))) := hd25 5 rfl; exact D.guardv (wanted_no rfl rfl d25_2) (fun hg => by have hp := hg; (try simp only [Bool.and_eq_true, Bool.or_eq_true, Bool.not_eq_true', decide_eq_true_eq, decide_eq_false_iff_not, bne_iff_ne, beq_iff_eq] at hp); skip; exact (op_sub (c := ((k - 1 : Nat) : Int)) rfl ((show _ = vif _ (.int .i64 ((k : Nat) : Int)) from d25_5).trans (vif_t hg).symm) rfl (by omega) (by omega)))
   ·intro f26 w26 hx26 ho26 hd26; have d26_2 : f26 39 = (.bool (decide (((k : Nat) : Int) = 0))) := hd26 2 rfl; have d26_4 : f26 41 = (vif (!(decide (((k : Nat) : Int) = 0))) (.slice A11 ls12.length c11)) := hd26 4 rfl; have d26_6 : f26 43 = (vif (!(decide (((k : Nat) : Int) = 0))) (.int .i64 ((k - 1 : Nat) : Int))) := hd26 6 rfl; have hR12 := hR12.ext hx26; exact D.guardv (wanted_no rfl rfl d26_2) (fun hg => by have hp := hg; (try simp only [Bool.and_eq_true, Bool.or_eq_true, Bool.not_eq_true', decide_eq_true_eq, decide_eq_false_iff_not, bne_iff_ne, beq_iff_eq] at hp); skip; exact (op_index (k := k - 1) rfl ((show _ = vif _ (.slice A11 ls12.length c11) from d26_4).trans (vif_t hg).symm) ((show _ = vif _ (.int .i64 ((k - 1 : Nat) : Int)) from d26_6).trans (vif_t hg).symm) sl25 (hR12.getA (get_bang (l := ls12) (k := k - 1) (by omega))).1 rfl (by omega) rfl))
   ·intro f27 w27 hx27 ho27 hd27; have d27_2 : f27 39 = (.bool (decide (((k : Nat) : Int) = 0))) := hd27 2 rfl; have d27_7 : f27 44 = (vif (!(decide (((k : Nat) : Int) = 0))) (.pointer (some ((adr A11).add ((k - 1) * 22))))) := hd27 7 rfl; have hR12 := hR12.ext hx27; exact D.guardv (wanted_no rfl rfl d27_2) (fun hg => by have hp := hg; (try simp only [Bool.and_eq_true, Bool.or_eq_true, Bool.not_eq_true', decide_eq_true_eq, decide_eq_false_iff_not, bne_iff_ne, beq_iff_eq] at hp); skip; exact (op_load (v := (ls12[k - 1]! : Vt)) rfl ((show _ = vif _ (.pointer (some ((adr A11).add ((k - 1) * 22)))) from d27_7).trans (vif_t hg).symm) ty47 (hR12.getA (get_bang (l := ls12) (k := k - 1) (by omega))).2))
   ·intro f28 w28 hx28 ho28 hd28; have d28_2 : f28 39 = (.bool (decide (((k : Nat) : Int) = 0))) := hd28 2 rfl; have d28_3 : f28 40 = (vif (!(decide (((k : Nat) : Int) = 0))) (Enc.val (ls12[k]! : Vt))) := hd28 3 rfl; have d28_8 : f28 45 = (vif (!(decide (((k : Nat) : Int) = 0))) (Enc.val (ls12[k - 1]! : Vt))) := hd28 8 rfl; exact D.guardv (wanted_no rfl rfl d28_2) (fun hg => (op_neqe (a := (ls12[k]! : Vt)) (b := (ls12[k - 1]! : Vt)) rfl ((show _ = vif _ (Enc.val (ls12[k]! : Vt)) from d28_3).trans (vif_t hg).symm) ((show _ = vif _ (Enc.val (ls12[k - 1]! : Vt)) from d28_8).trans (vif_t hg).symm) eq47 (fun _ => ⟨_, rfl⟩) Tryz.eqGuardType47))
   ·intro f29 w29 hx29 ho29 hd29; have d29_2 : f29 39 = (.bool (decide (((k : Nat) : Int) = 0))) := hd29 2 rfl; have d29_9 : f29 46 = (vif (!(decide (((k : Nat) : Int) = 0))) (.bool (!decide (ls12[k]! = ls12[k - 1]!)))) := hd29 9 rfl; exact D.val rfl (op_or rfl d29_2 rfl d29_9)
   intro f30 w30 hx30 ho30 hr30; have s4 : f30 4 = (.slice none 0 0) := (ho30 4 rfl).trans s14_4; have s5 : f30 5 = (.pointer (some ⟨b3, 0, none⟩)) := (ho30 5 rfl).trans s14_5; have s8 : f30 8 = v14_8 := (ho30 8 rfl).trans s14_8; have s10 : f30 10 = (.pointer (some ⟨b16, 0, none⟩)) := ho30 10 rfl; have s30 : f30 30 = (.slice A11 ls12.length c11) := (ho30 30 rfl).trans s14_30; have s31 : f30 31 = (.int .i64 (ls12.length : Int)) := (ho30 31 rfl).trans s14_31; have s32 : f30 32 = (.int .i64 ((k : Nat) : Int)) := (ho30 32 rfl).trans s14_32; have s47 : f30 47 = (.bool ((decide (((k : Nat) : Int) = 0)) || (!decide (ls12[k]! = ls12[k - 1]!)))) := hr30 10 (by decide); have hE := hE.trans hx30; have hS13 := hS13.trans hx30; have hO14_8 := hO14_8.ext hx30; have hB16 := hB16.ext hx30; refine thenF_nor ?_; refine W.cond (t := (decide (((k : Nat) : Int) = 0)) || (!decide (ls12[k]! = ls12[k - 1]!))) s47 (fun hc31 => ?_) (fun hc31 => ?_)
   ·have hp31 := hc31; simp only [Bool.and_eq_true, Bool.or_eq_true, Bool.and_eq_false_iff, Bool.or_eq_false_iff, Bool.not_eq_true', Bool.not_eq_false', decide_eq_true_eq, decide_eq_false_iff_not] at hp31; have hstep := dedup_yes hc31; refine W.region (by rfl) ?_; refine L.val rfl (op_move rfl s8) ?_; refine L.val rfl (op_load (v := (ls12[k]! : Vt)) rfl s10 ty47 hB16.cells) ?_; refine L.step rfl (op_slice1 (a := (ls12[k]! : Vt)) rfl rfl sl25 zs47 (by decide)) ?_; rintro _ w32 ⟨b32, rfl, hb32, hB32, hx32⟩; have hE := hE.trans hx32; have hS13 := hS13.trans hx32; have hO14_8 := hO14_8.ext hx32; refine L.step rfl (op_append (a := (ls12[k]! : Vt)) (ad := ⟨b32, 0, none⟩) rfl rfl rfl sl25 zs47 bt47 hO14_8 hB32.cells (by omega) (by decide) hS13.size) ?_; rintro v33 w33 ⟨hO33, hg33⟩; have hS13 := hS13.own hO14_8 hg33; have hE := S13_hE.trans hS13; refine L.val rfl (op_assign rfl rfl) ?_; refine L.nil ?_; refine blockF_nor ?_; refine thenF_nor ?_; refine W.region (by rfl) ?_; refine L.val rfl (op_add (c := ((k + 1 : Nat) : Int)) rfl s32 rfl (by omega) (by omega)) ?_; refine L.val rfl (op_move rfl rfl) ?_; refine L.nil ?_; refine thenF_nor ?_; exact ⟨k + 1, ⟨(by (try dsimp only); omega), s4, s5, s30, s31, rfl, (own_at (v := v33) rfl (by rw [hstep]; exact hO33)), hS13⟩, (by (try dsimp only); omega)⟩
   ·have hp31 := hc31; simp only [Bool.and_eq_true, Bool.or_eq_true, Bool.and_eq_false_iff, Bool.or_eq_false_iff, Bool.not_eq_true', Bool.not_eq_false', decide_eq_true_eq, decide_eq_false_iff_not] at hp31; have hstep := dedup_no hc31; refine W.skip ?_; refine blockF_nor ?_; refine thenF_nor ?_; refine W.region (by rfl) ?_; refine L.val rfl (op_add (c := ((k + 1 : Nat) : Int)) rfl s32 rfl (by omega) (by omega)) ?_; refine L.val rfl (op_move rfl rfl) ?_; refine L.nil ?_; refine thenF_nor ?_; exact ⟨k + 1, ⟨(by (try dsimp only); omega), s4, s5, s30, s31, rfl, (own_at (v := v14_8) s8 (by rw [hstep]; exact hO14_8)), hS13⟩, (by (try dsimp only); omega)⟩
  ·have hp15 := hc15; simp only [Bool.and_eq_true, Bool.or_eq_true, Bool.and_eq_false_iff, Bool.or_eq_false_iff, Bool.not_eq_true', Bool.not_eq_false', decide_eq_true_eq, decide_eq_false_iff_not] at hp15; refine W.exit ?_; refine thenF_exit ?_; refine thenF_exit ?_; refine blockF_hit ?_; refine thenF_nor ?_; refine W.seq ?_; obtain ⟨A34, c34, hv34, hR34, hcap34⟩ := (hO14_8).form; have hlen34 := hR34.len; refine W.region (by rfl) ?_; refine L.val rfl (op_move rfl ((show _ = v14_8 from s14_8).trans hv34)) ?_; refine L.val rfl (op_assign rfl rfl) ?_; refine L.nil ?_; refine thenF_nor ?_; refine W.ret ?_; exact end_ret1 (v := (.slice A34 (dedupN ls12 k).length c34)) rfl rfl ⟨(by have hkl : k = ls12.length := (by omega); have hdd := dedup_sorted vote_lin hso12 hpm12; rw [← hkl] at hdd; unfold asc_f; rw [← hdd]; exact (⟨_, _, _, _, rfl, hcap34, hR34⟩ : SlR _ _ _)), hE⟩
end Go.Proofs.YtdknjfmjddlphaaGreat
/-
  What accept.Accepted computes. No walk.
-/
namespace Go.Proofs.YtdknjfmjddlphaaGreat
open Go Go.Fk
/-- where the votes of one slot begin -/
def accFrom (s : List Vt × Nat) (v : Vt) : Nat := bif decide (((s.2 : Nat) : Int) < (s.1.length : Int)) && !decide (s.1[s.2]!.slot = v.slot) then s.1.length else s.2
/-- one round: the votes that are accepted, and where those of the slot begin -/
def accStep (m : Int) (s : List Vt × Nat) (v : Vt) : List Vt × Nat := bif allowed_f m v (s.1.drop (accFrom s v)) then (s.1 ++ [v], accFrom s v) else (s.1, accFrom s v)
def accepted_f (m : Int) (parent : Nm) (l : List Vt) : List Vt := ((asc_f parent l).foldl (accStep m) ([], 0)).1
end Go.Proofs.YtdknjfmjddlphaaGreat
/-
  Contracts of functions of the program, each with its walk in the logic of frames. Printed by a program of this session (wip/gen) from the translation.
-/
set_option linter.unusedSimpArgs false
set_option linter.unusedVariables false
namespace Go.Proofs.YtdknjfmjddlphaaGreat
open Go Go.Fk
set_option maxRecDepth 100000 in
set_option maxHeartbeats 4000000 in
theorem Accepted_ok {m : Int} {parent : Nm} {A_l : Option Addr} {c_l lo_l hi_l : Nat} {l : List Vt}  {w : World} (hR_l : Rd w lo_l hi_l A_l l) (hl : l.length ≤ 1000000) : Gives Tryz.prog 25 #[(.int .i64 m), (Enc.val (parent : Nm)), (.slice A_l l.length c_l)] w fun u w' => SlR w' u (accepted_f m parent l : List Vt) ∧ Ext w w' := by
 have hE : Ext w w := Ext.refl w; have hlen_l := hR_l.len; refine gives_of_W Tryz.func25 rfl Tryz.ntmps25 rfl ?_; have hal := asc_len parent l; refine W.seq ?_; refine W.region (by rfl) ?_; refine L.step rfl (op_box (cs := (Enc.cells (parent : Nm))) rfl rfl rfl) ?_; rintro _ w1 ⟨b1, rfl, hb1, hB1, hx1⟩; have hE := hE.trans hx1; have hR_l := hR_l.ext hx1; refine L.val rfl (op_assign rfl rfl) ?_; refine L.nil ?_; refine thenF_nor ?_; refine W.scope ?_; refine W.seq ?_; refine W.region (by rfl) ?_; refine L.val rfl (op_assign rfl rfl) ?_; refine L.nil ?_; refine thenF_nor ?_; refine W.seq ?_; refine W.region (by rfl) ?_; refine L.val rfl (op_assign rfl rfl) ?_; refine L.nil ?_; refine thenF_nor ?_; refine W.seq ?_; refine W.label ?_; refine thenF_nor ?_; refine W.seq ?_; refine W.seq ?_; refine W.region (by rfl) ?_; refine L.val rfl (op_load (v := (parent : Nm)) rfl rfl ty24 hB1.cells) ?_; refine L.val rfl (op_move rfl rfl) ?_; refine L.step rfl (OpS.call (op_call rfl (argsC rfl (argsC rfl argsN)) Tryz.func59 rfl rfl) (ascending_ok hR_l (by first | omega | (simp only [List.length_drop, List.length_take, List.length_append, List.length_cons, List.length_nil] at *; omega)))) ?_; rintro _ w2 ⟨⟨A2, c2, lo2, hi2, rfl, hcap2, hR2⟩, hx2⟩; have hE := hE.trans hx2; have hlen2 := hR2.len; refine L.val rfl (op_len rfl rfl ln25) ?_; refine L.val rfl (op_move rfl rfl) ?_; refine L.nil ?_; refine thenF_nor ?_; refine W.block ?_; have S3_hR2 := hR2; have S3_hE := hE; have hS3 : Ext w2 w2 := Ext.refl _; refine W.loopg (γ := Nat × List Vt × Nat) (fun (g : Nat × List Vt × Nat) (f : Fr) (ww : World) => g.1 ≤ (asc_f parent l).length ∧ g.2.1.length ≤ g.1 ∧ g.2.2 ≤ g.2.1.length ∧ ((asc_f parent l).take g.1).foldl (accStep m) ([], 0) = (g.2.1, g.2.2) ∧ f 0 = (.int .i64 m) ∧ f 6 = (.slice none 0 0) ∧ f 13 = (.slice A2 (asc_f parent l).length c2) ∧ f 14 = (.int .i64 ((asc_f parent l).length : Int)) ∧ f 15 = (.int .i64 ((g.1 : Nat) : Int)) ∧ f 8 = (.int .i64 ((g.2.2 : Nat) : Int)) ∧ Fk.Own ww w2.heap.size 47 (f 7) g.2.1 ∧ Ext w2 ww) (fun (g : Nat × List Vt × Nat) => (asc_f parent l).length - g.1) (0, ([] : List Vt), 0) ⟨(by (try dsimp only); omega), (by simp), (by simp), rfl, rfl, rfl, rfl, rfl, rfl, rfl, (own_at (v := .slice none 0 0) rfl (Fk.Own.nil _ _ _)), hS3⟩ ?_; rintro ⟨k, out, fr⟩ f4 w4 ⟨hk, hol, hfr, hst, s4_0, s4_6, s4_13, s4_14, s4_15, s4_8, hO4_7, hS3⟩; dsimp only at hk hol hfr hst s4_0 s4_6 s4_13 s4_14 s4_15 s4_8 hO4_7 hS3; have hR2 := S3_hR2.ext hS3; have hE := S3_hE.trans hS3; obtain ⟨v4_7, s4_7⟩ : ∃ v, f4 7 = v := ⟨_, rfl⟩; rw [s4_7] at hO4_7; refine W.seq ?_; refine W.region (by rfl) ?_; refine L.val rfl (op_lss rfl s4_15 s4_14) ?_; refine L.nil ?_; refine thenF_nor ?_; refine W.seq ?_; refine W.cond (t := decide (((k : Nat) : Int) < ((asc_f parent l).length : Int))) rfl (fun hc5 => ?_) (fun hc5 => ?_)
 ·have hp5 := hc5; simp only [Bool.and_eq_true, Bool.or_eq_true, Bool.and_eq_false_iff, Bool.or_eq_false_iff, Bool.not_eq_true', Bool.not_eq_false', decide_eq_true_eq, decide_eq_false_iff_not] at hp5; refine W.skip ?_; refine thenF_nor ?_; refine W.seq ?_; refine W.block ?_; refine W.seq ?_; refine W.region (by rfl) ?_; refine L.val rfl (op_index (k := k) rfl s4_13 s4_15 sl25 (hR2.getA (get_bang (l := asc_f parent l) (k := k) (by omega))).1 rfl (by omega) rfl) ?_; refine L.val rfl (op_load (v := (asc_f parent l)[k]!) rfl rfl ty47 (hR2.getA (get_bang (l := asc_f parent l) (k := k) (by omega))).2) ?_; refine L.newvar (v := (Enc.val ((asc_f parent l)[k]!))) (cs := (Enc.cells (asc_f parent l)[k]!)) rfl rfl rfl rfl rfl rfl (fun _ => rfl) rfl si47 zs47 (Enc.one _) ?_; intro b6 w6 hb6 hB6 hx6; have hbb6_hE := Nat.le_trans hE.size hb6; have hbb6_hS3 := Nat.le_trans hS3.size hb6; have hE := hE.trans hx6; have hS3 := hS3.trans hx6; have hO4_7 := hO4_7.ext hx6; refine L.nil ?_; refine thenF_nor ?_; refine W.seq ?_; refine W.seq ?_; obtain ⟨A7, c7, hv7, hR7, hcap7⟩ := (hO4_7).form; have hlen7 := hR7.len; refine W.drawS [Sp.eq (.slice A7 out.length c7), Sp.eq (.int .i64 (out.length : Int)), Sp.eq (.int .i64 ((fr : Nat) : Int)), Sp.eq (.bool (decide (((fr : Nat) : Int) < (out.length : Int)))), Sp.eq (.bool (decide (((fr : Nat) : Int) < (out.length : Int)))), Sp.eq (vif (decide (((fr : Nat) : Int) < (out.length : Int))) (.slice A7 out.length c7)), Sp.eq (vif (decide (((fr : Nat) : Int) < (out.length : Int))) (.int .i64 ((fr : Nat) : Int))), Sp.eq (vif (decide (((fr : Nat) : Int) < (out.length : Int))) (.pointer (some ((adr A7).add (fr * 22))))), Sp.eq (vif (decide (((fr : Nat) : Int) < (out.length : Int))) (.pointer (some (((adr A7).add (fr * 22)).add 1)))), Sp.eq (vif (decide (((fr : Nat) : Int) < (out.length : Int))) (.int .i64 ((out[fr]!).slot))), Sp.eq (vif (decide (((fr : Nat) : Int) < (out.length : Int))) (.pointer (some ⟨b6, 1, none⟩))), Sp.eq (vif (decide (((fr : Nat) : Int) < (out.length : Int))) (.int .i64 (((asc_f parent l)[k]!).slot))), Sp.eq (vif (decide (((fr : Nat) : Int) < (out.length : Int))) (.bool (!decide (((out[fr]!).slot) = (((asc_f parent l)[k]!).slot))))), Sp.eq (.bool ((decide (((fr : Nat) : Int) < (out.length : Int))) && (!decide (((out[fr]!).slot) = (((asc_f parent l)[k]!).slot)))))] mixed (by rfl) (Obls.cons ?_ (Obls.cons ?_ (Obls.cons ?_ (Obls.cons ?_ (Obls.cons ?_ (Obls.cons ?_ (Obls.cons ?_ (Obls.cons ?_ (Obls.cons ?_ (Obls.cons ?_ (Obls.cons ?_ (Obls.cons ?_ (Obls.cons ?_ (Obls.cons ?_ Obls.nil)))))))))))))) ?_
  ·intro f9 w9 hx9 ho9 hd9; have d9_s7 : f9 7 = (.slice A7 out.length c7) := (ho9 7 rfl).trans ((show _ = v4_7 from s4_7).trans hv7); exact D.val rfl (op_move rfl d9_s7)
  ·intro f10 w10 hx10 ho10 hd10; have d10_0 : f10 19 = (.slice A7 out.length c7) := hd10 0 rfl; exact D.val rfl (op_len rfl d10_0 ln25)
  ·intro f11 w11 hx11 ho11 hd11; have d11_s8 : f11 8 = (.int .i64 ((fr : Nat) : Int)) := (ho11 8 rfl).trans s4_8; exact D.val rfl (op_move rfl d11_s8)
  ·intro f12 w12 hx12 ho12 hd12; have d12_1 : f12 20 = (.int .i64 (out.length : Int)) := hd12 1 rfl; have d12_2 : f12 21 = (.int .i64 ((fr : Nat) : Int)) := hd12 2 rfl; exact D.val rfl (op_gtr rfl d12_1 d12_2)
  ·intro f13 w13 hx13 ho13 hd13; have d13_3 : f13 22 = (.bool (decide (((fr : Nat) : Int) < (out.length : Int)))) := hd13 3 rfl; exact D.val rfl (op_move rfl d13_3)
  ·intro f14 w14 hx14 ho14 hd14; have d14_s7 : f14 7 = (.slice A7 out.length c7) := (ho14 7 rfl).trans ((show _ = v4_7 from s4_7).trans hv7); have d14_4 : f14 23 = (.bool (decide (((fr : Nat) : Int) < (out.length : Int)))) := hd14 4 rfl; exact D.guardv (wanted_yes rfl rfl d14_4) (fun hg => (op_move rfl d14_s7))
  ·intro f15 w15 hx15 ho15 hd15; have d15_s8 : f15 8 = (.int .i64 ((fr : Nat) : Int)) := (ho15 8 rfl).trans s4_8; have d15_4 : f15 23 = (.bool (decide (((fr : Nat) : Int) < (out.length : Int)))) := hd15 4 rfl; exact D.guardv (wanted_yes rfl rfl d15_4) (fun hg => (op_move rfl d15_s8))
  ·intro f16 w16 hx16 ho16 hd16; have d16_4 : f16 23 = (.bool (decide (((fr : Nat) : Int) < (out.length : Int)))) := hd16 4 rfl; have d16_5 : f16 24 = (vif (decide (((fr : Nat) : Int) < (out.length : Int))) (.slice A7 out.length c7)) := hd16 5 rfl; have d16_6 : f16 25 = (vif (decide (((fr : Nat) : Int) < (out.length : Int))) (.int .i64 ((fr : Nat) : Int))) := hd16 6 rfl; have hR7 := hR7.ext hx16; exact D.guardv (wanted_yes rfl rfl d16_4) (fun hg => by have hp := hg; (try simp only [Bool.and_eq_true, Bool.or_eq_true, Bool.not_eq_true', decide_eq_true_eq, decide_eq_false_iff_not, bne_iff_ne, beq_iff_eq] at hp); skip; exact (op_index (k := fr) rfl ((show _ = vif _ (.slice A7 out.length c7) from d16_5).trans (vif_t hg).symm) ((show _ = vif _ (.int .i64 ((fr : Nat) : Int)) from d16_6).trans (vif_t hg).symm) sl25 (hR7.getA (get_bang (l := out) (k := fr) (by omega))).1 rfl (by omega) rfl))
  ·intro f17 w17 hx17 ho17 hd17; have d17_4 : f17 23 = (.bool (decide (((fr : Nat) : Int) < (out.length : Int)))) := hd17 4 rfl; have d17_7 : f17 26 = (vif (decide (((fr : Nat) : Int) < (out.length : Int))) (.pointer (some ((adr A7).add (fr * 22))))) := hd17 7 rfl; exact D.guardv (wanted_yes rfl rfl d17_4) (fun hg => (op_field rfl ((show _ = vif _ (.pointer (some ((adr A7).add (fr * 22)))) from d17_7).trans (vif_t hg).symm) fo47_1 rfl))
  ·intro f18 w18 hx18 ho18 hd18; have d18_4 : f18 23 = (.bool (decide (((fr : Nat) : Int) < (out.length : Int)))) := hd18 4 rfl; have d18_8 : f18 27 = (vif (decide (((fr : Nat) : Int) < (out.length : Int))) (.pointer (some (((adr A7).add (fr * 22)).add 1)))) := hd18 8 rfl; have hR7 := hR7.ext hx18; exact D.guardv (wanted_yes rfl rfl d18_4) (fun hg => by have hp := hg; (try simp only [Bool.and_eq_true, Bool.or_eq_true, Bool.not_eq_true', decide_eq_true_eq, decide_eq_false_iff_not, bne_iff_ne, beq_iff_eq] at hp); skip; exact (op_load1 rfl ((show _ = vif _ (.pointer (some (((adr A7).add (fr * 22)).add 1))) from d18_8).trans (vif_t hg).symm) one3 ((hR7.getA (get_bang (l := out) (k := fr) (by omega))).2.one (n := 1) rfl)))
  ·intro f19 w19 hx19 ho19 hd19; have d19_s10 : f19 10 = (.pointer (some ⟨b6, 0, none⟩)) := ho19 10 rfl; have d19_4 : f19 23 = (.bool (decide (((fr : Nat) : Int) < (out.length : Int)))) := hd19 4 rfl; exact D.guardv (wanted_yes rfl rfl d19_4) (fun hg => (op_field rfl d19_s10 fo47_1 rfl))
  ·intro f20 w20 hx20 ho20 hd20; have d20_4 : f20 23 = (.bool (decide (((fr : Nat) : Int) < (out.length : Int)))) := hd20 4 rfl; have d20_10 : f20 29 = (vif (decide (((fr : Nat) : Int) < (out.length : Int))) (.pointer (some ⟨b6, 1, none⟩))) := hd20 10 rfl; have hB6 := hB6.ext hx20; exact D.guardv (wanted_yes rfl rfl d20_4) (fun hg => (op_load1 rfl ((show _ = vif _ (.pointer (some ⟨b6, 1, none⟩)) from d20_10).trans (vif_t hg).symm) one3 (hB6.cells.one (n := 1) rfl)))
  ·intro f21 w21 hx21 ho21 hd21; have d21_4 : f21 23 = (.bool (decide (((fr : Nat) : Int) < (out.length : Int)))) := hd21 4 rfl; have d21_9 : f21 28 = (vif (decide (((fr : Nat) : Int) < (out.length : Int))) (.int .i64 ((out[fr]!).slot))) := hd21 9 rfl; have d21_11 : f21 30 = (vif (decide (((fr : Nat) : Int) < (out.length : Int))) (.int .i64 (((asc_f parent l)[k]!).slot))) := hd21 11 rfl; exact D.guardv (wanted_yes rfl rfl d21_4) (fun hg => (op_neq rfl ((show _ = vif _ (.int .i64 ((out[fr]!).slot)) from d21_9).trans (vif_t hg).symm) ((show _ = vif _ (.int .i64 (((asc_f parent l)[k]!).slot)) from d21_11).trans (vif_t hg).symm)))
  ·intro f22 w22 hx22 ho22 hd22; have d22_4 : f22 23 = (.bool (decide (((fr : Nat) : Int) < (out.length : Int)))) := hd22 4 rfl; have d22_12 : f22 31 = (vif (decide (((fr : Nat) : Int) < (out.length : Int))) (.bool (!decide (((out[fr]!).slot) = (((asc_f parent l)[k]!).slot))))) := hd22 12 rfl; exact D.val rfl (op_and rfl d22_4 d22_12 rfl)
  intro f23 w23 hx23 ho23 hr23; have s0 : f23 0 = (.int .i64 m) := (ho23 0 rfl).trans s4_0; have s6 : f23 6 = (.slice none 0 0) := (ho23 6 rfl).trans s4_6; have s7 : f23 7 = (.slice A7 out.length c7) := (ho23 7 rfl).trans ((show _ = v4_7 from s4_7).trans hv7); have s8 : f23 8 = (.int .i64 ((fr : Nat) : Int)) := (ho23 8 rfl).trans s4_8; have s10 : f23 10 = (.pointer (some ⟨b6, 0, none⟩)) := ho23 10 rfl; have s13 : f23 13 = (.slice A2 (asc_f parent l).length c2) := (ho23 13 rfl).trans s4_13; have s14 : f23 14 = (.int .i64 ((asc_f parent l).length : Int)) := (ho23 14 rfl).trans s4_14; have s15 : f23 15 = (.int .i64 ((k : Nat) : Int)) := (ho23 15 rfl).trans s4_15; have s32 : f23 32 = (.bool ((decide (((fr : Nat) : Int) < (out.length : Int))) && (!decide (((out[fr]!).slot) = (((asc_f parent l)[k]!).slot))))) := hr23 13 (by decide); have hE := hE.trans hx23; have hS3 := hS3.trans hx23; have hO4_7 := hO4_7.ext hx23; have hB6 := hB6.ext hx23; refine thenF_nor ?_; refine W.cond (t := (decide (((fr : Nat) : Int) < (out.length : Int))) && (!decide (((out[fr]!).slot) = (((asc_f parent l)[k]!).slot)))) s32 (fun hc24 => ?_) (fun hc24 => ?_)
  ·have hp24 := hc24; simp only [Bool.and_eq_true, Bool.or_eq_true, Bool.and_eq_false_iff, Bool.or_eq_false_iff, Bool.not_eq_true', Bool.not_eq_false', decide_eq_true_eq, decide_eq_false_iff_not] at hp24; have hfrom : accFrom (out, fr) (asc_f parent l)[k]! = out.length := by unfold accFrom; simp only [hc24, cond_true]
   obtain ⟨A25, c25, hv25, hR25, hcap25⟩ := (hO4_7).form; have hlen25 := hR25.len; refine W.region (by rfl) ?_; refine L.val rfl (op_move rfl ((show _ = v4_7 from (s7.trans hv7.symm)).trans hv25)) ?_; refine L.val rfl (op_len rfl rfl ln25) ?_; refine L.val rfl (op_assign rfl rfl) ?_; refine L.nil ?_; refine thenF_nor ?_; refine W.seq ?_; refine W.seq ?_; obtain ⟨A26, c26, hv26, hR26, hcap26⟩ := (hO4_7).form; have hlen26 := hR26.len; refine W.drawS [Sp.eq (.int .i64 m), Sp.eq (Enc.val ((asc_f parent l)[k]!)), Sp.eq (.slice A26 out.length c26), Sp.eq (.int .i64 (out.length : Int)), Sp.slr ((out.drop out.length) : List Vt), Sp.eq (.bool (allowed_f m ((asc_f parent l)[k]!) (out.drop out.length))), Sp.eq (.bool (!(allowed_f m ((asc_f parent l)[k]!) (out.drop out.length))))] mixed (by rfl) (Obls.cons ?_ (Obls.cons ?_ (Obls.cons ?_ (Obls.cons ?_ (Obls.cons ?_ (Obls.cons ?_ (Obls.cons ?_ Obls.nil))))))) ?_
   ·intro f28 w28 hx28 ho28 hd28; have d28_s0 : f28 0 = (.int .i64 m) := (ho28 0 rfl).trans s0; exact D.val rfl (op_move rfl d28_s0)
   ·intro f29 w29 hx29 ho29 hd29; have d29_s10 : f29 10 = (.pointer (some ⟨b6, 0, none⟩)) := (ho29 10 rfl).trans s10; have hB6 := hB6.ext hx29; exact D.val rfl (op_load (v := (asc_f parent l)[k]!) rfl d29_s10 ty47 hB6.cells)
   ·intro f30 w30 hx30 ho30 hd30; have d30_s7 : f30 7 = (.slice A26 out.length c26) := (ho30 7 rfl).trans ((show _ = v4_7 from (s7.trans hv7.symm)).trans hv26); exact D.val rfl (op_move rfl d30_s7)
   ·intro f31 w31 hx31 ho31 hd31; have d31_s8 : f31 8 = (.int .i64 (out.length : Int)) := ho31 8 rfl; exact D.val rfl (op_move rfl d31_s8)
   ·intro f32 w32 hx32 ho32 hd32; have d32_2 : f32 37 = (.slice A26 out.length c26) := hd32 2 rfl; have d32_3 : f32 38 = (.int .i64 (out.length : Int)) := hd32 3 rfl; have hR26 := hR26.ext hx32; exact D.call (R := (Sp.slr ((out.drop out.length) : List Vt)).p) rfl (op_slr_l (k := out.length) sl25 rfl d32_2 d32_3 (by omega) hcap26 hR26)
   ·intro f33 w33 hx33 ho33 hd33; have d33_0 : f33 35 = (.int .i64 m) := hd33 0 rfl; have d33_1 : f33 36 = (Enc.val ((asc_f parent l)[k]!)) := hd33 1 rfl; obtain ⟨A33_4, c33_4, lo33_4, hi33_4, e33_4, hcap33_4, hR33_4⟩ := hd33 4 rfl; have hlen33_4 := hR33_4.len; exact D.call (R := (Sp.eq (.bool (allowed_f m ((asc_f parent l)[k]!) (out.drop out.length)))).p) rfl (OpS.call (op_call rfl (argsC d33_0 (argsC d33_1 (argsC e33_4 argsN))) Tryz.func46 rfl rfl) (Allowed_ok hR33_4 (by first | omega | (simp only [List.length_drop, List.length_take, List.length_append, List.length_cons, List.length_nil] at *; omega))))
   ·intro f34 w34 hx34 ho34 hd34; have d34_5 : f34 40 = (.bool (allowed_f m ((asc_f parent l)[k]!) (out.drop out.length))) := hd34 5 rfl; exact D.val rfl (op_not rfl d34_5)
   intro f35 w35 hx35 ho35 hr35; have s0 : f35 0 = (.int .i64 m) := (ho35 0 rfl).trans s0; have s6 : f35 6 = (.slice none 0 0) := (ho35 6 rfl).trans s6; have s7 : f35 7 = (.slice A26 out.length c26) := (ho35 7 rfl).trans ((show _ = v4_7 from (s7.trans hv7.symm)).trans hv26); have s8 : f35 8 = (.int .i64 (out.length : Int)) := ho35 8 rfl; have s10 : f35 10 = (.pointer (some ⟨b6, 0, none⟩)) := (ho35 10 rfl).trans s10; have s13 : f35 13 = (.slice A2 (asc_f parent l).length c2) := (ho35 13 rfl).trans s13; have s14 : f35 14 = (.int .i64 ((asc_f parent l).length : Int)) := (ho35 14 rfl).trans s14; have s15 : f35 15 = (.int .i64 ((k : Nat) : Int)) := (ho35 15 rfl).trans s15; have s41 : f35 41 = (.bool (!(allowed_f m ((asc_f parent l)[k]!) (out.drop out.length)))) := hr35 6 (by decide); have hE := hE.trans hx35; have hS3 := hS3.trans hx35; have hO4_7 := hO4_7.ext hx35; have hB6 := hB6.ext hx35; refine thenF_nor ?_; refine W.cond (t := !(allowed_f m ((asc_f parent l)[k]!) (out.drop out.length))) s41 (fun hc36 => ?_) (fun hc36 => ?_)
   ·have hp36 := hc36; simp only [Bool.and_eq_true, Bool.or_eq_true, Bool.and_eq_false_iff, Bool.or_eq_false_iff, Bool.not_eq_true', Bool.not_eq_false', decide_eq_true_eq, decide_eq_false_iff_not] at hp36; have hallow := hc36; simp only [Bool.not_eq_true'] at hallow; refine W.exit ?_; refine thenF_exit ?_; refine blockF_hit ?_; refine thenF_nor ?_; refine W.region (by rfl) ?_; refine L.val rfl (op_add (c := ((k + 1 : Nat) : Int)) rfl s15 rfl (by omega) (by omega)) ?_; refine L.val rfl (op_move rfl rfl) ?_; refine L.nil ?_; refine thenF_nor ?_; exact ⟨(k + 1, out, out.length), ⟨(by (try dsimp only); omega), (by simp only [List.length_append, List.length_cons, List.length_nil]; omega), (by simp only [List.length_append, List.length_cons, List.length_nil]; omega), (by dsimp only; rw [fold_go (by omega), hst]; unfold accStep; rw [hfrom, hallow]; rfl), s0, s6, s13, s14, rfl, s8, (own_at (v := v4_7) (s7.trans hv26.symm) hO4_7), hS3⟩, (by (try dsimp only); omega)⟩
   ·have hp36 := hc36; simp only [Bool.and_eq_true, Bool.or_eq_true, Bool.and_eq_false_iff, Bool.or_eq_false_iff, Bool.not_eq_true', Bool.not_eq_false', decide_eq_true_eq, decide_eq_false_iff_not] at hp36; have hallow := hc36; simp only [Bool.not_eq_false'] at hallow; refine W.skip ?_; refine thenF_nor ?_; refine W.region (by rfl) ?_; refine L.val rfl (op_move rfl (s7.trans hv26.symm)) ?_; refine L.val rfl (op_load (v := (asc_f parent l)[k]!) rfl s10 ty47 hB6.cells) ?_; refine L.step rfl (op_slice1 (a := ((asc_f parent l)[k]! : Vt)) rfl rfl sl25 zs47 (by decide)) ?_; rintro _ w37 ⟨b37, rfl, hb37, hB37, hx37⟩; have hE := hE.trans hx37; have hS3 := hS3.trans hx37; have hO4_7 := hO4_7.ext hx37; refine L.step rfl (op_append (a := ((asc_f parent l)[k]! : Vt)) (ad := ⟨b37, 0, none⟩) rfl rfl rfl sl25 zs47 bt47 hO4_7 hB37.cells (by omega) (by decide) hS3.size) ?_; rintro v38 w38 ⟨hO38, hg38⟩; have hS3 := hS3.own hO4_7 hg38; have hE := S3_hE.trans hS3; refine L.val rfl (op_assign rfl rfl) ?_; refine L.nil ?_; refine blockF_nor ?_; refine thenF_nor ?_; refine W.region (by rfl) ?_; refine L.val rfl (op_add (c := ((k + 1 : Nat) : Int)) rfl s15 rfl (by omega) (by omega)) ?_; refine L.val rfl (op_move rfl rfl) ?_; refine L.nil ?_; refine thenF_nor ?_; exact ⟨(k + 1, (out ++ [(asc_f parent l)[k]!]), out.length), ⟨(by (try dsimp only); omega), (by simp only [List.length_append, List.length_cons, List.length_nil]; omega), (by simp only [List.length_append, List.length_cons, List.length_nil]; omega), (by dsimp only; rw [fold_go (by omega), hst]; unfold accStep; rw [hfrom, hallow]; rfl), s0, s6, s13, s14, rfl, s8, (own_at (v := v38) rfl hO38), hS3⟩, (by (try dsimp only); omega)⟩
  ·have hp24 := hc24; simp only [Bool.and_eq_true, Bool.or_eq_true, Bool.and_eq_false_iff, Bool.or_eq_false_iff, Bool.not_eq_true', Bool.not_eq_false', decide_eq_true_eq, decide_eq_false_iff_not] at hp24; have hfrom : accFrom (out, fr) (asc_f parent l)[k]! = fr := by unfold accFrom; simp only [hc24, cond_false]
   refine W.skip ?_; refine thenF_nor ?_; refine W.seq ?_; refine W.seq ?_; obtain ⟨A39, c39, hv39, hR39, hcap39⟩ := (hO4_7).form; have hlen39 := hR39.len; refine W.drawS [Sp.eq (.int .i64 m), Sp.eq (Enc.val ((asc_f parent l)[k]!)), Sp.eq (.slice A39 out.length c39), Sp.eq (.int .i64 ((fr : Nat) : Int)), Sp.slr ((out.drop fr) : List Vt), Sp.eq (.bool (allowed_f m ((asc_f parent l)[k]!) (out.drop fr))), Sp.eq (.bool (!(allowed_f m ((asc_f parent l)[k]!) (out.drop fr))))] mixed (by rfl) (Obls.cons ?_ (Obls.cons ?_ (Obls.cons ?_ (Obls.cons ?_ (Obls.cons ?_ (Obls.cons ?_ (Obls.cons ?_ Obls.nil))))))) ?_
   ·intro f41 w41 hx41 ho41 hd41; have d41_s0 : f41 0 = (.int .i64 m) := (ho41 0 rfl).trans s0; exact D.val rfl (op_move rfl d41_s0)
   ·intro f42 w42 hx42 ho42 hd42; have d42_s10 : f42 10 = (.pointer (some ⟨b6, 0, none⟩)) := (ho42 10 rfl).trans s10; have hB6 := hB6.ext hx42; exact D.val rfl (op_load (v := (asc_f parent l)[k]!) rfl d42_s10 ty47 hB6.cells)
   ·intro f43 w43 hx43 ho43 hd43; have d43_s7 : f43 7 = (.slice A39 out.length c39) := (ho43 7 rfl).trans ((show _ = v4_7 from (s7.trans hv7.symm)).trans hv39); exact D.val rfl (op_move rfl d43_s7)
   ·intro f44 w44 hx44 ho44 hd44; have d44_s8 : f44 8 = (.int .i64 ((fr : Nat) : Int)) := (ho44 8 rfl).trans s8; exact D.val rfl (op_move rfl d44_s8)
   ·intro f45 w45 hx45 ho45 hd45; have d45_2 : f45 37 = (.slice A39 out.length c39) := hd45 2 rfl; have d45_3 : f45 38 = (.int .i64 ((fr : Nat) : Int)) := hd45 3 rfl; have hR39 := hR39.ext hx45; exact D.call (R := (Sp.slr ((out.drop fr) : List Vt)).p) rfl (op_slr_l (k := fr) sl25 rfl d45_2 d45_3 (by omega) hcap39 hR39)
   ·intro f46 w46 hx46 ho46 hd46; have d46_0 : f46 35 = (.int .i64 m) := hd46 0 rfl; have d46_1 : f46 36 = (Enc.val ((asc_f parent l)[k]!)) := hd46 1 rfl; obtain ⟨A46_4, c46_4, lo46_4, hi46_4, e46_4, hcap46_4, hR46_4⟩ := hd46 4 rfl; have hlen46_4 := hR46_4.len; exact D.call (R := (Sp.eq (.bool (allowed_f m ((asc_f parent l)[k]!) (out.drop fr)))).p) rfl (OpS.call (op_call rfl (argsC d46_0 (argsC d46_1 (argsC e46_4 argsN))) Tryz.func46 rfl rfl) (Allowed_ok hR46_4 (by first | omega | (simp only [List.length_drop, List.length_take, List.length_append, List.length_cons, List.length_nil] at *; omega))))
   ·intro f47 w47 hx47 ho47 hd47; have d47_5 : f47 40 = (.bool (allowed_f m ((asc_f parent l)[k]!) (out.drop fr))) := hd47 5 rfl; exact D.val rfl (op_not rfl d47_5)
   intro f48 w48 hx48 ho48 hr48; have s0 : f48 0 = (.int .i64 m) := (ho48 0 rfl).trans s0; have s6 : f48 6 = (.slice none 0 0) := (ho48 6 rfl).trans s6; have s7 : f48 7 = (.slice A39 out.length c39) := (ho48 7 rfl).trans ((show _ = v4_7 from (s7.trans hv7.symm)).trans hv39); have s8 : f48 8 = (.int .i64 ((fr : Nat) : Int)) := (ho48 8 rfl).trans s8; have s10 : f48 10 = (.pointer (some ⟨b6, 0, none⟩)) := (ho48 10 rfl).trans s10; have s13 : f48 13 = (.slice A2 (asc_f parent l).length c2) := (ho48 13 rfl).trans s13; have s14 : f48 14 = (.int .i64 ((asc_f parent l).length : Int)) := (ho48 14 rfl).trans s14; have s15 : f48 15 = (.int .i64 ((k : Nat) : Int)) := (ho48 15 rfl).trans s15; have s41 : f48 41 = (.bool (!(allowed_f m ((asc_f parent l)[k]!) (out.drop fr)))) := hr48 6 (by decide); have hE := hE.trans hx48; have hS3 := hS3.trans hx48; have hO4_7 := hO4_7.ext hx48; have hB6 := hB6.ext hx48; refine thenF_nor ?_; refine W.cond (t := !(allowed_f m ((asc_f parent l)[k]!) (out.drop fr))) s41 (fun hc49 => ?_) (fun hc49 => ?_)
   ·have hp49 := hc49; simp only [Bool.and_eq_true, Bool.or_eq_true, Bool.and_eq_false_iff, Bool.or_eq_false_iff, Bool.not_eq_true', Bool.not_eq_false', decide_eq_true_eq, decide_eq_false_iff_not] at hp49; have hallow := hc49; simp only [Bool.not_eq_true'] at hallow; refine W.exit ?_; refine thenF_exit ?_; refine blockF_hit ?_; refine thenF_nor ?_; refine W.region (by rfl) ?_; refine L.val rfl (op_add (c := ((k + 1 : Nat) : Int)) rfl s15 rfl (by omega) (by omega)) ?_; refine L.val rfl (op_move rfl rfl) ?_; refine L.nil ?_; refine thenF_nor ?_; exact ⟨(k + 1, out, fr), ⟨(by (try dsimp only); omega), (by simp only [List.length_append, List.length_cons, List.length_nil]; omega), (by simp only [List.length_append, List.length_cons, List.length_nil]; omega), (by dsimp only; rw [fold_go (by omega), hst]; unfold accStep; rw [hfrom, hallow]; rfl), s0, s6, s13, s14, rfl, s8, (own_at (v := v4_7) (s7.trans hv39.symm) hO4_7), hS3⟩, (by (try dsimp only); omega)⟩
   ·have hp49 := hc49; simp only [Bool.and_eq_true, Bool.or_eq_true, Bool.and_eq_false_iff, Bool.or_eq_false_iff, Bool.not_eq_true', Bool.not_eq_false', decide_eq_true_eq, decide_eq_false_iff_not] at hp49; have hallow := hc49; simp only [Bool.not_eq_false'] at hallow; refine W.skip ?_; refine thenF_nor ?_; refine W.region (by rfl) ?_; refine L.val rfl (op_move rfl (s7.trans hv39.symm)) ?_; refine L.val rfl (op_load (v := (asc_f parent l)[k]!) rfl s10 ty47 hB6.cells) ?_; refine L.step rfl (op_slice1 (a := ((asc_f parent l)[k]! : Vt)) rfl rfl sl25 zs47 (by decide)) ?_; rintro _ w50 ⟨b50, rfl, hb50, hB50, hx50⟩; have hE := hE.trans hx50; have hS3 := hS3.trans hx50; have hO4_7 := hO4_7.ext hx50; refine L.step rfl (op_append (a := ((asc_f parent l)[k]! : Vt)) (ad := ⟨b50, 0, none⟩) rfl rfl rfl sl25 zs47 bt47 hO4_7 hB50.cells (by omega) (by decide) hS3.size) ?_; rintro v51 w51 ⟨hO51, hg51⟩; have hS3 := hS3.own hO4_7 hg51; have hE := S3_hE.trans hS3; refine L.val rfl (op_assign rfl rfl) ?_; refine L.nil ?_; refine blockF_nor ?_; refine thenF_nor ?_; refine W.region (by rfl) ?_; refine L.val rfl (op_add (c := ((k + 1 : Nat) : Int)) rfl s15 rfl (by omega) (by omega)) ?_; refine L.val rfl (op_move rfl rfl) ?_; refine L.nil ?_; refine thenF_nor ?_; exact ⟨(k + 1, (out ++ [(asc_f parent l)[k]!]), fr), ⟨(by (try dsimp only); omega), (by simp only [List.length_append, List.length_cons, List.length_nil]; omega), (by simp only [List.length_append, List.length_cons, List.length_nil]; omega), (by dsimp only; rw [fold_go (by omega), hst]; unfold accStep; rw [hfrom, hallow]; rfl), s0, s6, s13, s14, rfl, s8, (own_at (v := v51) rfl hO51), hS3⟩, (by (try dsimp only); omega)⟩
 ·have hp5 := hc5; simp only [Bool.and_eq_true, Bool.or_eq_true, Bool.and_eq_false_iff, Bool.or_eq_false_iff, Bool.not_eq_true', Bool.not_eq_false', decide_eq_true_eq, decide_eq_false_iff_not] at hp5; refine W.exit ?_; refine thenF_exit ?_; refine thenF_exit ?_; refine blockF_hit ?_; refine thenF_nor ?_; refine W.seq ?_; obtain ⟨A52, c52, hv52, hR52, hcap52⟩ := (hO4_7).form; have hlen52 := hR52.len; refine W.region (by rfl) ?_; refine L.val rfl (op_move rfl ((show _ = v4_7 from s4_7).trans hv52)) ?_; refine L.val rfl (op_assign rfl rfl) ?_; refine L.nil ?_; refine thenF_nor ?_; refine W.ret ?_; refine scopeF_ret ?_; exact end_ret1 (v := (.slice A52 out.length c52)) rfl rfl ⟨(by have hkl : k = (asc_f parent l).length := (by omega); rw [hkl, List.take_length] at hst; unfold accepted_f; rw [hst]; exact (⟨_, _, _, _, rfl, hcap52, hR52⟩ : SlR _ _ _)), hE⟩
end Go.Proofs.YtdknjfmjddlphaaGreat
/-
  Layer 12: what accept.Accepted computes is the least fixed point: the plain laws. No walk.
-/
namespace Go.Proofs.YtdknjfmjddlphaaGreat
open Go Go.Fk
theorem any_app {a b : List Vt} {p : Vt → Bool} (h : ∀ x ∈ b, p x = false) : (a ++ b).any p = a.any p := by
 have : b.any p = false := by
  rw [List.any_eq_false]
  intro x hx
  rw [h x hx]; decide
 rw [List.any_append, this, Bool.or_false]
theorem supported_app {m q : Int} {v : Vt} {a b : List Vt} {p : Vt → Bool} (h : ∀ x ∈ b, p x = false) : supported_f m q v (a ++ b) p = supported_f m q v a p := by
 unfold supported_f
 have : ∀ i : Int, (a ++ b).any (fun x => supported1_f x i p) = a.any (fun x => supported1_f x i p) := fun i =>
  any_app (fun x hx => by unfold supported1_f; rw [h x hx, Bool.and_false])
 simp only [this]
theorem anySt_none {q : List Vt → Vt → Bool} : ∀ {b : List Vt} (pre : List Vt), (∀ x ∈ b, ∀ pre, q pre x = false) → anySt q pre b = false
  | [], _, _ => rfl
  | x :: t, pre, h => by
    show (q pre x || anySt q (pre ++ [x]) t) = false
    rw [h x (by simp) pre, anySt_none (pre ++ [x]) (fun y hy => h y (by simp [hy]))]; rfl
theorem anySt_app {q : List Vt → Vt → Bool} {b : List Vt} (h : ∀ x ∈ b, ∀ pre, q pre x = false) : ∀ {a : List Vt} (pre : List Vt), anySt q pre (a ++ b) = anySt q pre a
  | [], pre => anySt_none pre h
  | x :: t, pre => by
    show (q pre x || anySt q (pre ++ [x]) (t ++ b)) = (q pre x || anySt q (pre ++ [x]) t)
    rw [anySt_app h]
theorem valid_round0 {v : Vt} (h : valid_f v = true) (hk : v.kind = 1 ∨ v.kind = 2) : v.round = 0 := by
 unfold valid_f at h; cases h1 : (!(between_f v.kind 1 7)) || (!(between_f v.signer 0 9)) with
 | true => rw [h1] at h; simp at h
 | false =>
  rw [h1] at h
  simp only [cond_false] at h
  cases h2 : ((decide (v.choice = 1)) == (decide (v.value = Nm.zero))) || (!decide ((iandn v.support 1023) = 0)) with
  | true => rw [h2] at h; simp at h
  | false =>
    rw [h2] at h
    simp only [cond_false] at h
    rcases hk with hk | hk
    · simp [hk] at h; exact h.1.2.1
    · simp [hk] at h; exact h.1.2.1
/-- the vote x comes no earlier than v's round and kind -/
def Later (v x : Vt) : Prop := x.parent = v.parent → x.slot = v.slot → v.round < x.round ∨ (v.round = x.round ∧ v.kind ≤ x.kind)
theorem counts_iff {m : Int} {v x : Vt} (h : counts_f m v x = true) : valid_f x = true ∧ x.parent = v.parent ∧ x.slot = v.slot := by
 unfold counts_f at h; simp only [Bool.and_eq_true, decide_eq_true_eq] at h; exact ⟨h.1.1.1.1, h.1.1.1.2, h.1.1.2⟩
theorem allowed_app {m : Int} {v : Vt} {acc ext : List Vt} (h : ∀ x ∈ ext, Later v x) : allowed_f m v (acc ++ ext) = allowed_f m v acc := by
 unfold allowed_f; rw [List.filter_append]
 have hb : ∀ x ∈ ext.filter (counts_f m v), valid_f x = true ∧ (v.round < x.round ∨ (v.round = x.round ∧ v.kind ≤ x.kind)) := fun x hx => by
  rw [List.mem_filter] at hx
  obtain ⟨hv, hp, hs⟩ := counts_iff hx.2
  exact ⟨hv, h x hx.1 hp hs⟩
 generalize acc.filter (counts_f m v) = a; generalize ext.filter (counts_f m v) = b at hb; cases hg : (((!(valid_f v)) || (decide (4 < v.kind))) || (!(has_f m v.signer))) || (!(has_f m v.slot)) with
 | true => rfl
 | false =>
  simp only [cond_false]
  simp only [Bool.or_eq_false_iff, Bool.not_eq_false'] at hg
  have hvv := hg.1.1.1
  have hvb := valid_bounds hvv
  by_cases k1 : v.kind = 1
  · simp [k1]
  · by_cases k2 : v.kind = 2
    · have hr := valid_round0 hvv (Or.inr k2)
      have e : (a ++ b).any (fun xx => allowed1_f xx v) = a.any (fun xx => allowed1_f xx v) := any_app fun x hx => by
        obtain ⟨hx1, hx2⟩ := hb x hx
        unfold allowed1_f
        by_cases hk : x.kind = 1
        · have := valid_round0 hx1 (Or.inl hk); omega
        · simp [hk]
      simp [k2, e]
    · by_cases k3 : v.kind = 3
      · have p1 : v.round = 1 → ∀ x ∈ b, prevote1_f x v = false := fun hr x hx => by
          obtain ⟨hx1, hx2⟩ := hb x hx
          unfold prevote1_f
          by_cases hk : x.kind = 2
          · have := valid_round0 hx1 (Or.inr hk); omega
          · simp [hk]
        have pr : ∀ x ∈ b, ¬ x.round = v.round - 1 := fun x hx => by obtain ⟨_, hx2⟩ := hb x hx; omega
        have p2 : ∀ x ∈ b, prevote2_f x v = false := fun x hx => by unfold prevote2_f; simp [pr x hx]
        have p3 : ∀ x ∈ b, prevote3_f x v = false := fun x hx => by unfold prevote3_f; simp [pr x hx]
        have p6 : ∀ x ∈ b, prevote6_f x v = false := fun x hx => by unfold prevote6_f; simp [pr x hx]
        have e : ∀ q, prevote_f m q (a ++ b) v = prevote_f m q a v := fun q => by
          unfold prevote_f
          by_cases hr : v.round = 1
          · simp only [hr, decide_true, cond_true]
            rw [supported_app (p := fun xx => prevote1_f xx v) (p1 hr)]
          · simp only [hr, decide_false, cond_false]
            rw [supported_app (p := fun xx => prevote4_f xx (fun xx => prevote2_f xx v) (fun xx => prevote3_f xx v)) (fun x hx => by unfold prevote4_f; simp only [p2 x hx, p3 x hx, Bool.or_false]),
              any_app (p := fun xx => prevote5_f xx v (fun xx => prevote2_f xx v)) (fun x hx => by unfold prevote5_f; simp only [p2 x hx, Bool.and_false]),
              supported_app (p := fun xx => prevote3_f xx v) p3, any_app (p := fun xx => prevote6_f xx v) p6]
        simp [k3, e]
      · have k4 : v.kind = 4 := by
          have := hg.1.1.2
          simp only [decide_eq_false_iff_not] at this
          omega
        have p1 : ∀ x ∈ b, precommit1_f x v = false := fun x hx => by
          obtain ⟨_, hx2⟩ := hb x hx
          unfold precommit1_f
          by_cases hk : x.kind = 3
          · have : ¬ x.round = v.round := by omega
            simp [this]
          · simp [hk]
        have e : ∀ q, precommit_f m q (a ++ b) v = precommit_f m q a v := fun q => by
          unfold precommit_f
          rw [supported_app (p := fun xx => precommit2_f xx (fun xx => precommit1_f xx v) v) (fun x hx => by unfold precommit2_f; simp only [p1 x hx, Bool.false_and]),
            supported_app (p := fun xx => precommit1_f xx v) p1, anySt_app (q := pre3q v) (fun x hx pre => by
              unfold pre3q
              split
              · unfold precommit3n_f; simp only [p1 x hx, Bool.not_false, Bool.true_or, cond_true]
              · unfold precommit3s_f; simp only [p1 x hx, Bool.not_false, Bool.true_or, cond_true])]
        simp [k4, e]
theorem vote_slot {u v : Vt} (h : voteLess_f u v = true) (hp : u.parent = v.parent) : u.slot ≤ v.slot := by
 unfold voteLess_f at h; simp only [hp, decide_true, Bool.not_true, cond_false] at h; by_cases hs : u.slot = v.slot
 ·omega
 ·simp [hs] at h; omega
theorem vote_later {u v : Vt} (h : voteLess_f u v = true) : Later u v := by
 intro hp hs; unfold voteLess_f at h; simp only [hp, hs, decide_true, Bool.not_true, cond_false] at h; by_cases hr : u.round = v.round
 ·simp only [hr, decide_true, Bool.not_true, cond_false] at h; by_cases hk : u.kind = v.kind
  ·exact Or.inr ⟨hr, by omega⟩
  ·simp [hk] at h; exact Or.inr ⟨hr, by omega⟩
 ·simp [hr] at h; exact Or.inl h
def gain (m : Int) (out : List Vt) (v : Vt) : List Vt := bif allowed_f m v out then out ++ [v] else out
theorem filter_counts {m : Int} {v : Vt} (out : List Vt) : allowed_f m v (out.filter fun x => decide (x.slot = v.slot)) = allowed_f m v out := by
 have : (out.filter fun x => decide (x.slot = v.slot)).filter (counts_f m v) = out.filter (counts_f m v) := by
  rw [List.filter_filter]
  congr 1
  funext x
  cases hc : counts_f m v x with
  | false => rfl
  | true => obtain ⟨_, _, hs⟩ := counts_iff hc; simp [hs]
 unfold allowed_f; rw [this]
theorem acc_gain {m : Int} {parent : Nm} : ∀ (rest : List Vt) (out : List Vt) (fr : Nat) (s : Int), Asc voteLess_f rest → (∀ x ∈ rest, x.parent = parent) → fr ≤ out.length → (∀ y ∈ rest, s ≤ y.slot) → (∀ x ∈ out.take fr, x.slot < s) → (∀ x ∈ out.drop fr, x.slot = s) →
    (rest.foldl (accStep m) (out, fr)).1 = rest.foldl (gain m) out
  | [], _, _, _, _, _, _, _, _, _ => rfl
  | v :: t, out, fr, s, ha, hp, hfr, hs, h1, h2 => by
    obtain ⟨a1, a2⟩ := List.pairwise_cons.1 ha
    have hsv := hs v (by simp)
    have htp : ∀ x ∈ t, x.parent = parent := fun x hx => hp x (by simp [hx])
    have hsl : ∀ y ∈ t, v.slot ≤ y.slot := fun y hy => vote_slot (a1 y hy) ((hp v (by simp)).trans (htp y hy).symm)
    have hmem : ∀ x ∈ out, x ∈ out.take fr ∨ x ∈ out.drop fr := fun x hx => by
      rw [← List.take_append_drop fr out] at hx
      exact List.mem_append.1 hx
    have key : accFrom (out, fr) v ≤ out.length ∧ (∀ x ∈ out.take (accFrom (out, fr) v), x.slot < v.slot) ∧ (∀ x ∈ out.drop (accFrom (out, fr) v), x.slot = v.slot) := by
      unfold accFrom
      cases hc : decide (((fr : Nat) : Int) < (out.length : Int)) && !decide (out[fr]!.slot = v.slot) with
      | true =>
        simp only [Bool.and_eq_true, decide_eq_true_eq, Bool.not_eq_true', decide_eq_false_iff_not] at hc
        have hfl : fr < out.length := by omega
        have : out[fr]! ∈ out.drop fr := by
          rw [getElem!_pos out fr hfl, List.drop_eq_getElem_cons hfl]; exact List.mem_cons_self
        have e := h2 _ this
        simp only [cond_true]
        refine ⟨Nat.le_refl _, fun x hx => ?_, fun x hx => by rw [List.drop_length] at hx; cases hx⟩
        rw [List.take_length] at hx
        rcases hmem x hx with hx | hx
        · have := h1 x hx; omega
        · have := h2 x hx
          have : ¬ s = v.slot := fun e' => hc.2 (e.trans e')
          omega
      | false =>
        simp only [cond_false]
        refine ⟨hfr, fun x hx => by have := h1 x hx; omega, fun x hx => ?_⟩
        have hfl : fr < out.length := by
          rcases Nat.lt_or_ge fr out.length with h | h
          · exact h
          · rw [List.drop_eq_nil_of_le h] at hx; cases hx
        have hm : out[fr]! ∈ out.drop fr := by
          rw [getElem!_pos out fr hfl, List.drop_eq_getElem_cons hfl]; exact List.mem_cons_self
        have e := h2 _ hm
        simp only [Bool.and_eq_false_iff, decide_eq_false_iff_not, Bool.not_eq_false', decide_eq_true_eq] at hc
        rcases hc with hc | hc
        · omega
        · rw [h2 x hx]; omega
    obtain ⟨k1, k2, k3⟩ := key
    have hdrop : out.drop (accFrom (out, fr) v) = out.filter fun x => decide (x.slot = v.slot) := by
      conv => rhs; rw [← List.take_append_drop (accFrom (out, fr) v) out]
      rw [List.filter_append]
      have e1 : (out.take (accFrom (out, fr) v)).filter (fun x => decide (x.slot = v.slot)) = [] := by
        rw [List.filter_eq_nil_iff]
        intro x hx
        have := k2 x hx
        simp; omega
      have e2 : (out.drop (accFrom (out, fr) v)).filter (fun x => decide (x.slot = v.slot)) = out.drop (accFrom (out, fr) v) := by
        rw [List.filter_eq_self]
        intro x hx
        simp [k3 x hx]
      rw [e1, e2, List.nil_append]
    rw [List.foldl_cons, List.foldl_cons]
    have hst : accStep m (out, fr) v = (gain m out v, accFrom (out, fr) v) := by
      unfold accStep gain
      dsimp only
      rw [hdrop, filter_counts]
      cases allowed_f m v out <;> rfl
    rw [hst]
    have hg : gain m out v = out ∨ gain m out v = out ++ [v] := by
      unfold gain
      cases allowed_f m v out
      · exact Or.inl rfl
      · exact Or.inr rfl
    refine acc_gain t _ _ v.slot a2 htp ?_ hsl ?_ ?_
    · rcases hg with e | e <;> rw [e]
      · exact k1
      · simp; omega
    · rcases hg with e | e <;> rw [e]
      · exact k2
      · rw [List.take_append_of_le_length k1]; exact k2
    · rcases hg with e | e <;> rw [e]
      · exact k3
      · rw [List.drop_append_of_le_length k1]
        intro x hx
        rcases List.mem_append.1 hx with hx | hx
        · exact k3 x hx
        · rw [List.mem_singleton] at hx; rw [hx]
theorem asc_parent {parent : Nm} {l : List Vt} {x : Vt} (h : x ∈ asc_f parent l) : x.parent = parent ∧ x ∈ l := by
 unfold asc_f at h; rw [sorted_mem, List.mem_filter] at h; exact ⟨by simpa using h.2, h.1⟩
theorem accepted_gain {m : Int} {parent : Nm} {l : List Vt} : accepted_f m parent l = (asc_f parent l).foldl (gain m) [] := by
 unfold accepted_f; have hp : ∀ x ∈ asc_f parent l, x.parent = parent := fun x hx => (asc_parent hx).1; have ha : Asc voteLess_f (asc_f parent l) := sorted_asc vote_lin _; generalize asc_f parent l = K at hp ha; cases K with
 | nil => rfl
 | cons v t => 
  refine acc_gain (parent := parent) _ [] 0 v.slot ha hp (by simp) (fun y hy => ?_) (by simp) (by simp)
  rcases List.mem_cons.1 hy with e | hy
  · rw [e]; omega
  · exact vote_slot ((List.pairwise_cons.1 ha).1 y hy) ((hp v (by simp)).trans (hp y (by simp [hy])).symm)
structure Fix (m : Int) (done out : List Vt) : Prop where
  sub : out.Sublist done
  just : ∀ pre v post, out = pre ++ v :: post → allowed_f m v pre = true
  rest : ∀ v ∈ done, v ∉ out → allowed_f m v out = false
theorem fix_step {m : Int} {done out : List Vt} {v : Vt} (h : Fix m done out) (hl : ∀ u ∈ done, Later u v) : Fix m (done ++ [v]) (gain m out v) := by
 unfold gain; cases ha : allowed_f m v out with
 | false =>
  refine ⟨h.sub.trans (List.sublist_append_left _ _), h.just, fun u hu hn => ?_⟩
  rcases List.mem_append.1 hu with hu | hu
  · exact h.rest u hu hn
  · rw [List.mem_singleton] at hu; rw [hu]; exact ha
 | true =>
  simp only [cond_true]
  refine ⟨h.sub.append (List.Sublist.refl _), fun pre u post e => ?_, fun u hu hn => ?_⟩
  · rcases List.eq_nil_or_concat post with rfl | ⟨post', z, rfl⟩
    · have := List.append_inj' e rfl
      obtain ⟨e1, e2⟩ := this
      simp only [List.cons.injEq, and_true] at e2
      rw [← e1, ← e2]; exact ha
    · have e' : out ++ [v] = (pre ++ u :: post') ++ [z] := by rw [e]; simp
      obtain ⟨e1, _⟩ := List.append_inj' e' rfl
      exact h.just _ _ _ e1
  · have hu' : u ∈ done := by
      rcases List.mem_append.1 hu with hu | hu
      · exact hu
      · exact absurd (List.mem_append.2 (Or.inr hu)) hn
    rw [allowed_app (fun x hx => by rw [List.mem_singleton] at hx; rw [hx]; exact hl u hu')]
    exact h.rest u hu' fun hc => hn (List.mem_append.2 (Or.inl hc))
theorem fix_fold {m : Int} : ∀ (rest done out : List Vt), Asc voteLess_f (done ++ rest) → Fix m done out → Fix m (done ++ rest) (rest.foldl (gain m) out)
  | [], done, out, _, h => by simpa using h
  | v :: t, done, out, ha, h => by
    have e : done ++ v :: t = (done ++ [v]) ++ t := by simp
    rw [List.foldl_cons, e]
    rw [e] at ha
    refine fix_fold t _ _ ha (fix_step h fun u hu => ?_)
    have := (List.pairwise_append.1 (List.pairwise_append.1 ha).1).2.2 u hu v (by simp)
    exact vote_later this
theorem fix_accepted (m : Int) (parent : Nm) (l : List Vt) : Fix m (asc_f parent l) (accepted_f m parent l) := by
 rw [accepted_gain]; have := fix_fold (m := m) (asc_f parent l) [] [] (sorted_asc vote_lin _) ⟨List.Sublist.refl _, fun pre v post e => by simp at e, fun v hv => by cases hv⟩; simpa using this
theorem acc_asc (m : Int) (parent : Nm) (l : List Vt) : Asc voteLess_f (accepted_f m parent l) :=
  (sorted_asc vote_lin (l.filter fun x => decide (x.parent = parent))).sublist (fix_accepted m parent l).sub
theorem acc_sub {m : Int} {parent : Nm} {l : List Vt} {x : Vt} (h : x ∈ accepted_f m parent l) : x.parent = parent ∧ x ∈ l := asc_parent ((fix_accepted m parent l).sub.subset h)
theorem acc_len (m : Int) (parent : Nm) (l : List Vt) : (accepted_f m parent l).length ≤ l.length :=
  Nat.le_trans (fix_accepted m parent l).sub.length_le (asc_len parent l)
theorem acc_allowed {m : Int} {parent : Nm} {l : List Vt} {k : Nat} (h : k < (accepted_f m parent l).length) : allowed_f m (accepted_f m parent l)[k]! (accepted_f m parent l) = true := by
 have ha := acc_asc m parent l; have hj := (fix_accepted m parent l).just; generalize accepted_f m parent l = out at h ha hj; obtain ⟨z, hz⟩ : ∃ z, z = out[k]! := ⟨_, rfl⟩; rw [← hz]
 have e : out = out.take k ++ z :: out.drop (k + 1) := by
  rw [hz, getElem!_pos out k h, ← List.drop_eq_getElem_cons h, List.take_append_drop]
 have h1 := hj _ _ _ e
 have hx : ∀ x ∈ z :: out.drop (k + 1), Later z x := by
  intro x hx
  rcases List.mem_cons.1 hx with e' | hx
  · rw [e']; exact fun _ _ => Or.inr ⟨rfl, Int.le_refl _⟩
  · rw [e] at ha
    exact vote_later ((List.pairwise_cons.1 (List.pairwise_append.1 ha).2.1).1 x hx)
 have h2 := allowed_app (m := m) (acc := out.take k) hx; rw [← e] at h2; rw [h2]; exact h1
end Go.Proofs.YtdknjfmjddlphaaGreat
/-
  Sets of ids in an int: union, intersection, difference, one member; how many members of a committee answer. No walk.
-/
set_option linter.unusedSimpArgs false
set_option linter.unusedVariables false
namespace Go.Proofs.YtdknjfmjddlphaaGreat
open Go Go.Fk
def bv (m : Int) : BitVec 64 := BitVec.ofInt 64 m
theorem bv_wrap (x : BitVec 64) : bv (IntKind.i64.wrap (x.toNat : Int)) = x := by
 apply BitVec.eq_of_toNat_eq; unfold bv; rw [BitVec.toNat_ofInt]; have hx := x.isLt; simp only [IntKind.wrap, IntKind.bits, IntKind.signed]; simp; split <;> omega
theorem bv_ior (a b : Int) : bv (ior a b) = bv a ||| bv b := bv_wrap _
theorem bv_iandn (a b : Int) : bv (iandn a b) = bv a &&& ~~~(bv b) := bv_wrap _
theorem has_bv (m i : Int) : has_f m i = (decide (0 ≤ i) && decide (i < 10) && (bv m).getLsbD i.toNat) := by
 rw [has_iff]; by_cases h0 : 0 ≤ i
 ·by_cases h1 : i < 10
  ·obtain ⟨k, rfl⟩ : ∃ k : Nat, i = k := ⟨i.toNat, by omega⟩; have hk : k < 10 := by omega
   have hb : (bv m).getLsbD k = decide ((m % 18446744073709551616).toNat / 2 ^ k % 2 = 1) := by
    unfold bv BitVec.getLsbD
    rw [BitVec.toNat_ofInt, Nat.testBit_eq_decide_div_mod_eq]
    rfl
   simp only [Int.toNat_natCast, hb, h0, h1, decide_true, Bool.true_and]
   have : ((m / 2 ^ k) % 2 = 1) ↔ ((m % 18446744073709551616).toNat / 2 ^ k % 2 = 1) := by
    rcases (show k = 0 ∨ k = 1 ∨ k = 2 ∨ k = 3 ∨ k = 4 ∨ k = 5 ∨ k = 6 ∨ k = 7 ∨ k = 8 ∨ k = 9 by omega) with rfl | rfl | rfl | rfl | rfl | rfl | rfl | rfl | rfl | rfl <;> omega
   exact decide_eq_decide.2 this
  ·simp [h1]
 ·simp [h0]
theorem has_ior (a b i : Int) : has_f (ior a b) i = (has_f a i || has_f b i) := by
 rw [has_bv, has_bv, has_bv, bv_ior, BitVec.getLsbD_or]; cases decide (0 ≤ i) <;> cases decide (i < 10) <;> rfl
theorem has_iandn (a b i : Int) : has_f (iandn a b) i = (has_f a i && !has_f b i) := by
 rw [has_bv, has_bv, has_bv, bv_iandn, BitVec.getLsbD_and, BitVec.getLsbD_not]; by_cases h0 : 0 ≤ i
 ·by_cases h1 : i < 10
  ·have : decide (i.toNat < 64) = true := decide_eq_true (by omega); rw [this]; simp [h0, h1]
  ·simp [h1]
 ·simp [h0]
theorem has_zero (i : Int) : has_f 0 i = false := by
 rw [has_iff]; simp
theorem has_one_table : ∀ s i : Fin 10, has_f (ishl 1 ((s.val : Nat) : Int)) ((i.val : Nat) : Int) = decide (i = s) := by decide +kernel
theorem has_ishl {s : Int} (h0 : 0 ≤ s) (h1 : s ≤ 9) (i : Int) : has_f (ishl 1 s) i = decide (i = s) := by
 by_cases hi0 : 0 ≤ i
 ·by_cases hi1 : i < 10
  ·have := has_one_table ⟨s.toNat, by omega⟩ ⟨i.toNat, by omega⟩; simp only [Int.toNat_of_nonneg h0, Int.toNat_of_nonneg hi0] at this; rw [this]; exact decide_eq_decide.2 ⟨fun h => by have := congrArg Fin.val h; simp at this; omega, fun h => by apply Fin.ext; simp; omega⟩
  ·rw [has_iff]; have : ¬ i = s := by omega
   simp [hi1, this]
 ·rw [has_iff]; have : ¬ i = s := by omega
  simp [hi0, this]
theorem sub_of_iandn {a b : Int} (h : iandn a b = 0) {i : Int} (hi : has_f a i = true) : has_f b i = true := by
 have := has_iandn a b i; rw [h, has_zero, hi] at this; simpa using this.symm
theorem ids_nodup (m : Int) : (ids_f m).Nodup := by
 unfold ids_f; refine List.Pairwise.filter _ ?_; rw [List.pairwise_map]; exact (List.nodup_iff_pairwise_ne.1 List.nodup_range).imp fun h e => h (by omega)
theorem size_some {m i : Int} (h : has_f m i = true) : 0 < size_f m := by
 rw [size_ids]; have := List.length_pos_of_mem (mem_ids.2 h); omega
end Go.Proofs.YtdknjfmjddlphaaGreat
/-
  The accountability theorem of layer 12 over lists of accepted votes: who decides two unlike values of one slot bears conflicting votes. No walk.
-/
set_option linter.unusedSimpArgs false
set_option linter.unusedVariables false
namespace Go.Proofs.YtdknjfmjddlphaaGreat
open Go Go.Fk
theorem allowed_guard {m : Int} {v : Vt} {A : List Vt} (h : allowed_f m v A = true) : valid_f v = true ∧ v.kind ≤ 4 ∧ has_f m v.signer = true ∧ has_f m v.slot = true := by
 unfold allowed_f at h; cases hg : (((!(valid_f v)) || (decide (4 < v.kind))) || (!(has_f m v.signer))) || (!(has_f m v.slot)) with
 | true => rw [hg] at h; cases h
 | false =>
  simp only [Bool.or_eq_false_iff, Bool.not_eq_false', decide_eq_false_iff_not] at hg
  exact ⟨hg.1.1.1, by omega, hg.1.2, hg.2⟩
theorem counts_all {m : Int} {v x : Vt} (h : counts_f m v x = true) : valid_f x = true ∧ x.parent = v.parent ∧ x.slot = v.slot ∧ x.kind ≤ 4 ∧ has_f m x.signer = true := by
 unfold counts_f at h; simp only [Bool.and_eq_true, decide_eq_true_eq] at h; exact ⟨h.1.1.1.1, h.1.1.1.2, h.1.1.2, h.1.2, h.2⟩
theorem same_iff {a b : Vt} : same_f a b = true ↔ a.choice = b.choice ∧ a.value = b.value := by
 unfold same_f; simp
theorem acc_mem_allowed {m : Int} {parent : Nm} {l : List Vt} {v : Vt} (h : v ∈ accepted_f m parent l) : allowed_f m v (accepted_f m parent l) = true := by
 obtain ⟨k, hk, e⟩ := List.getElem_of_mem h; have := acc_allowed (m := m) (parent := parent) (l := l) (k := k) hk; rw [getElem!_pos _ k hk, e] at this; exact this
end Go.Proofs.YtdknjfmjddlphaaGreat
/-
  What the loaded program forces of every row of its laws: closed facts, each by the kernel. No walk.
-/
namespace Go.Proofs.YtdknjfmjddlphaaGreat
open Go
theorem words_word : ∀ (w : List Char), (∀ c ∈ w, (c == Char.ofNat 32) = false) → ∀ r, wordsSigns (w ++ Char.ofNat 32 :: r) = w :: wordsSigns r
  | [], _, r => by
    show wordsSigns (Char.ofNat 32 :: r) = [] :: wordsSigns r
    conv => lhs; unfold wordsSigns
    rfl
  | c :: w, h, r => by
    have ih := words_word w (fun d hd => h d (List.mem_cons_of_mem _ hd)) r
    have hc := h c List.mem_cons_self
    show wordsSigns (c :: (w ++ Char.ofNat 32 :: r)) = _
    conv => lhs; unfold wordsSigns
    split
    · rename_i heq; cases heq
    · rename_i heq
      injection heq with h1 h2
      subst h1
      simp at hc
    · rename_i heq
      injection heq with h1 h2
      subst h1 h2
      rw [ih]
def headRest : List Char := [Char.ofNat 97, Char.ofNat 116, Char.ofNat 32, Char.ofNat 102, Char.ofNat 111, Char.ofNat 114, Char.ofNat 107, Char.ofNat 108, Char.ofNat 101, Char.ofNat 100, Char.ofNat 103, Char.ofNat 101, Char.ofNat 114, Char.ofNat 47, Char.ofNat 102, Char.ofNat 111, Char.ofNat 114, Char.ofNat 107, Char.ofNat 108, Char.ofNat 101, Char.ofNat 100, Char.ofNat 103, Char.ofNat 101, Char.ofNat 114, Char.ofNat 108, Char.ofNat 97, Char.ofNat 119, Char.ofNat 49, Char.ofNat 53, Char.ofNat 46, Char.ofNat 66, Char.ofNat 114, Char.ofNat 111, Char.ofNat 97, Char.ofNat 100, Char.ofNat 99, Char.ofNat 97, Char.ofNat 115, Char.ofNat 116, Char.ofNat 69, Char.ofNat 120, Char.ofNat 97, Char.ofNat 99, Char.ofNat 116, Char.ofNat 32, Char.ofNat 102, Char.ofNat 111, Char.ofNat 114, Char.ofNat 107, Char.ofNat 108, Char.ofNat 101, Char.ofNat 100, Char.ofNat 103, Char.ofNat 101, Char.ofNat 114, Char.ofNat 47, Char.ofNat 102, Char.ofNat 111, Char.ofNat 114, Char.ofNat 107, Char.ofNat 108, Char.ofNat 101, Char.ofNat 100, Char.ofNat 103, Char.ofNat 101, Char.ofNat 114, Char.ofNat 108, Char.ofNat 97, Char.ofNat 119, Char.ofNat 49, Char.ofNat 50, Char.ofNat 46, Char.ofNat 65, Char.ofNat 99, Char.ofNat 99, Char.ofNat 101, Char.ofNat 112, Char.ofNat 116, Char.ofNat 69, Char.ofNat 120, Char.ofNat 97, Char.ofNat 99, Char.ofNat 116, Char.ofNat 32, Char.ofNat 102, Char.ofNat 111, Char.ofNat 114, Char.ofNat 107, Char.ofNat 108, Char.ofNat 101, Char.ofNat 100, Char.ofNat 103, Char.ofNat 101, Char.ofNat 114, Char.ofNat 47, Char.ofNat 102, Char.ofNat 111, Char.ofNat 114, Char.ofNat 107, Char.ofNat 108, Char.ofNat 101, Char.ofNat 100, Char.ofNat 103, Char.ofNat 101, Char.ofNat 114, Char.ofNat 108, Char.ofNat 97, Char.ofNat 119, Char.ofNat 49, Char.ofNat 51, Char.ofNat 46, Char.ofNat 67, Char.ofNat 101, Char.ofNat 114, Char.ofNat 116, Char.ofNat 105, Char.ofNat 102, Char.ofNat 105, Char.ofNat 99, Char.ofNat 97, Char.ofNat 116, Char.ofNat 101, Char.ofNat 69, Char.ofNat 120, Char.ofNat 97, Char.ofNat 99, Char.ofNat 116, Char.ofNat 32, Char.ofNat 102, Char.ofNat 111, Char.ofNat 114, Char.ofNat 107, Char.ofNat 108, Char.ofNat 101, Char.ofNat 100, Char.ofNat 103, Char.ofNat 101, Char.ofNat 114, Char.ofNat 47, Char.ofNat 102, Char.ofNat 111, Char.ofNat 114, Char.ofNat 107, Char.ofNat 108, Char.ofNat 101, Char.ofNat 100, Char.ofNat 103, Char.ofNat 101, Char.ofNat 114, Char.ofNat 108, Char.ofNat 97, Char.ofNat 119, Char.ofNat 49, Char.ofNat 51, Char.ofNat 46, Char.ofNat 67, Char.ofNat 101, Char.ofNat 114, Char.ofNat 116, Char.ofNat 105, Char.ofNat 102, Char.ofNat 105, Char.ofNat 99, Char.ofNat 97, Char.ofNat 116, Char.ofNat 101, Char.ofNat 83, Char.ofNat 108, Char.ofNat 111, Char.ofNat 116, Char.ofNat 115, Char.ofNat 32, Char.ofNat 102, Char.ofNat 111, Char.ofNat 114, Char.ofNat 107, Char.ofNat 108, Char.ofNat 101, Char.ofNat 100, Char.ofNat 103, Char.ofNat 101, Char.ofNat 114, Char.ofNat 47, Char.ofNat 102, Char.ofNat 111, Char.ofNat 114, Char.ofNat 107, Char.ofNat 108, Char.ofNat 101, Char.ofNat 100, Char.ofNat 103, Char.ofNat 101, Char.ofNat 114, Char.ofNat 108, Char.ofNat 97, Char.ofNat 119, Char.ofNat 49, Char.ofNat 54, Char.ofNat 46, Char.ofNat 65, Char.ofNat 103, Char.ofNat 114, Char.ofNat 101, Char.ofNat 101, Char.ofNat 109, Char.ofNat 101, Char.ofNat 110, Char.ofNat 116, Char.ofNat 78, Char.ofNat 101, Char.ofNat 120, Char.ofNat 116, Char.ofNat 32, Char.ofNat 102, Char.ofNat 111, Char.ofNat 114, Char.ofNat 107, Char.ofNat 108, Char.ofNat 101, Char.ofNat 100, Char.ofNat 103, Char.ofNat 101, Char.ofNat 114, Char.ofNat 47, Char.ofNat 102, Char.ofNat 111, Char.ofNat 114, Char.ofNat 107, Char.ofNat 108, Char.ofNat 101, Char.ofNat 100, Char.ofNat 103, Char.ofNat 101, Char.ofNat 114, Char.ofNat 108, Char.ofNat 97, Char.ofNat 119, Char.ofNat 49, Char.ofNat 54, Char.ofNat 46, Char.ofNat 65, Char.ofNat 103, Char.ofNat 114, Char.ofNat 101, Char.ofNat 101, Char.ofNat 109, Char.ofNat 101, Char.ofNat 110, Char.ofNat 116, Char.ofNat 69, Char.ofNat 97, Char.ofNat 99, Char.ofNat 104, Char.ofNat 32, Char.ofNat 102, Char.ofNat 111, Char.ofNat 114, Char.ofNat 107, Char.ofNat 108, Char.ofNat 101, Char.ofNat 100, Char.ofNat 103, Char.ofNat 101, Char.ofNat 114, Char.ofNat 47, Char.ofNat 102, Char.ofNat 111, Char.ofNat 114, Char.ofNat 107, Char.ofNat 108, Char.ofNat 101, Char.ofNat 100, Char.ofNat 103, Char.ofNat 101, Char.ofNat 114, Char.ofNat 108, Char.ofNat 97, Char.ofNat 119, Char.ofNat 49, Char.ofNat 54, Char.ofNat 46, Char.ofNat 65, Char.ofNat 103, Char.ofNat 114, Char.ofNat 101, Char.ofNat 101, Char.ofNat 109, Char.ofNat 101, Char.ofNat 110, Char.ofNat 116, Char.ofNat 68, Char.ofNat 111, Char.ofNat 110, Char.ofNat 101, Char.ofNat 32, Char.ofNat 102, Char.ofNat 111, Char.ofNat 114, Char.ofNat 107, Char.ofNat 108, Char.ofNat 101, Char.ofNat 100, Char.ofNat 103, Char.ofNat 101, Char.ofNat 114, Char.ofNat 47, Char.ofNat 102, Char.ofNat 111, Char.ofNat 114, Char.ofNat 107, Char.ofNat 108, Char.ofNat 101, Char.ofNat 100, Char.ofNat 103, Char.ofNat 101, Char.ofNat 114, Char.ofNat 108, Char.ofNat 97, Char.ofNat 119, Char.ofNat 49, Char.ofNat 54, Char.ofNat 46, Char.ofNat 65, Char.ofNat 103, Char.ofNat 114, Char.ofNat 101, Char.ofNat 101, Char.ofNat 109, Char.ofNat 101, Char.ofNat 110, Char.ofNat 116, Char.ofNat 65, Char.ofNat 108, Char.ofNat 105, Char.ofNat 107, Char.ofNat 101, Char.ofNat 32, Char.ofNat 102, Char.ofNat 111, Char.ofNat 114, Char.ofNat 107, Char.ofNat 108, Char.ofNat 101, Char.ofNat 100, Char.ofNat 103, Char.ofNat 101, Char.ofNat 114, Char.ofNat 47, Char.ofNat 102, Char.ofNat 111, Char.ofNat 114, Char.ofNat 107, Char.ofNat 108, Char.ofNat 101, Char.ofNat 100, Char.ofNat 103, Char.ofNat 101, Char.ofNat 114, Char.ofNat 108, Char.ofNat 97, Char.ofNat 119, Char.ofNat 49, Char.ofNat 54, Char.ofNat 46, Char.ofNat 65, Char.ofNat 103, Char.ofNat 114, Char.ofNat 101, Char.ofNat 101, Char.ofNat 109, Char.ofNat 101, Char.ofNat 110, Char.ofNat 116, Char.ofNat 65, Char.ofNat 108, Char.ofNat 108, Char.ofNat 111, Char.ofNat 119, Char.ofNat 101, Char.ofNat 100, Char.ofNat 32, Char.ofNat 102, Char.ofNat 111, Char.ofNat 114, Char.ofNat 107, Char.ofNat 108, Char.ofNat 101, Char.ofNat 100, Char.ofNat 103, Char.ofNat 101, Char.ofNat 114, Char.ofNat 47, Char.ofNat 102, Char.ofNat 111, Char.ofNat 114, Char.ofNat 107, Char.ofNat 108, Char.ofNat 101, Char.ofNat 100, Char.ofNat 103, Char.ofNat 101, Char.ofNat 114, Char.ofNat 108, Char.ofNat 97, Char.ofNat 119, Char.ofNat 49, Char.ofNat 54, Char.ofNat 46, Char.ofNat 65, Char.ofNat 103, Char.ofNat 114, Char.ofNat 101, Char.ofNat 101, Char.ofNat 109, Char.ofNat 101, Char.ofNat 110, Char.ofNat 116, Char.ofNat 72, Char.ofNat 111, Char.ofNat 110, Char.ofNat 101, Char.ofNat 115, Char.ofNat 116, Char.ofNat 32, Char.ofNat 102, Char.ofNat 111, Char.ofNat 114, Char.ofNat 107, Char.ofNat 108, Char.ofNat 101, Char.ofNat 100, Char.ofNat 103, Char.ofNat 101, Char.ofNat 114, Char.ofNat 47, Char.ofNat 102, Char.ofNat 111, Char.ofNat 114, Char.ofNat 107, Char.ofNat 108, Char.ofNat 101, Char.ofNat 100, Char.ofNat 103, Char.ofNat 101, Char.ofNat 114, Char.ofNat 108, Char.ofNat 97, Char.ofNat 119, Char.ofNat 49, Char.ofNat 55, Char.ofNat 46, Char.ofNat 83, Char.ofNat 117, Char.ofNat 112, Char.ofNat 101, Char.ofNat 114, Char.ofNat 98, Char.ofNat 108, Char.ofNat 111, Char.ofNat 99, Char.ofNat 107, Char.ofNat 70, Char.ofNat 105, Char.ofNat 114, Char.ofNat 115, Char.ofNat 116]
theorem order_text : Tryz.prog.initOrder = String.ofList ([Char.ofNat 104, Char.ofNat 97, Char.ofNat 114, Char.ofNat 110, Char.ofNat 101, Char.ofNat 115, Char.ofNat 115] ++ Char.ofNat 32 :: ([Char.ofNat 53, Char.ofNat 102, Char.ofNat 97, Char.ofNat 53, Char.ofNat 57, Char.ofNat 54, Char.ofNat 52, Char.ofNat 55, Char.ofNat 57, Char.ofNat 52, Char.ofNat 97, Char.ofNat 100, Char.ofNat 54, Char.ofNat 55, Char.ofNat 102, Char.ofNat 53, Char.ofNat 50, Char.ofNat 49, Char.ofNat 51, Char.ofNat 102, Char.ofNat 99, Char.ofNat 102, Char.ofNat 54, Char.ofNat 57, Char.ofNat 99, Char.ofNat 99, Char.ofNat 101, Char.ofNat 102, Char.ofNat 102, Char.ofNat 99, Char.ofNat 49, Char.ofNat 49, Char.ofNat 97, Char.ofNat 50, Char.ofNat 98, Char.ofNat 53, Char.ofNat 99, Char.ofNat 48, Char.ofNat 54, Char.ofNat 54, Char.ofNat 52, Char.ofNat 98, Char.ofNat 57, Char.ofNat 57, Char.ofNat 56, Char.ofNat 57, Char.ofNat 55, Char.ofNat 102, Char.ofNat 98, Char.ofNat 49, Char.ofNat 98, Char.ofNat 99, Char.ofNat 99, Char.ofNat 100, Char.ofNat 48, Char.ofNat 55, Char.ofNat 52, Char.ofNat 50, Char.ofNat 102, Char.ofNat 49, Char.ofNat 51, Char.ofNat 48, Char.ofNat 48, Char.ofNat 48] ++ Char.ofNat 32 :: ([Char.ofNat 99, Char.ofNat 117, Char.ofNat 116] ++ Char.ofNat 32 :: headRest))) := by kernel_rfl
theorem order_words : behindMainWord (wordsSigns Tryz.prog.initOrder.toList) = [Char.ofNat 99, Char.ofNat 117, Char.ofNat 116] :: wordsSigns headRest := by
 rw [order_text, String.toList_ofList, words_word _ (by decide), words_word _ (by decide), words_word _ (by decide)]; generalize wordsSigns headRest = r; rfl
theorem strip_cut (r : List (List Char)) : stripLifts liftWords ([Char.ofNat 99, Char.ofNat 117, Char.ofNat 116] :: r) = ([], [Char.ofNat 99, Char.ofNat 117, Char.ofNat 116] :: r) := by
 simp only [liftWords, stripLifts]; rfl
theorem fact_later : Tryz.prog.laysLater = false := by kernel_rfl
theorem fact_reflect : Tryz.prog.bearsReflect = false := by kernel_rfl
theorem fact_door : Tryz.prog.doorFits [] = true := by kernel_rfl
theorem enter_of {P : Program} {r : List (List Char)} (h : behindMainWord (wordsSigns P.initOrder.toList) = [Char.ofNat 99, Char.ofNat 117, Char.ofNat 116] :: r) (h1 : P.laysLater = false) (h2 : P.bearsReflect = false) (h3 : P.doorFits [] = true) : P.mayEnter = true := by
 unfold Program.mayEnter; rw [h]; simp only [strip_cut, h1, h2, h3]; rfl
theorem headLifts_of {P : Program} {r : List (List Char)} (h : behindMainWord (wordsSigns P.initOrder.toList) = [Char.ofNat 99, Char.ofNat 117, Char.ofNat 116] :: r) : P.headLifts = [] := by
 unfold Program.headLifts; rw [h, strip_cut]; rfl
theorem lifts_of {P : Program} {r : List (List Char)} (h : behindMainWord (wordsSigns P.initOrder.toList) = [Char.ofNat 99, Char.ofNat 117, Char.ofNat 116] :: r) : P.liftsFinal = false := by
 unfold Program.liftsFinal; rw [h, headLifts_of h]; rfl
theorem make_of {P : Program} {r : List (List Char)} (h : behindMainWord (wordsSigns P.initOrder.toList) = [Char.ofNat 99, Char.ofNat 117, Char.ofNat 116] :: r) : P.make = some .cut := by
 unfold Program.make; rw [h]; rfl
theorem fact_enter : Tryz.prog.mayEnter = true := enter_of order_words fact_later fact_reflect fact_door
theorem fact_lifts : Tryz.prog.liftsFinal = false := lifts_of order_words
theorem fact_make : Tryz.prog.make = some .cut := make_of order_words
theorem fact_laid : laidOutB Tryz.prog = true := by kernel_rfl
theorem fact_rowed : mapsRowed Tryz.prog = true := by kernel_rfl
theorem fact_heard : Tryz.prog.stopsHeard = true := by kernel_rfl
theorem fact_keys : Tryz.prog.plainKeys = false := by kernel_rfl
theorem fact_stops : Tryz.prog.stops = [] := by kernel_rfl
theorem fact_knobs : Tryz.prog.stopKnobs = [] := by kernel_rfl
end Go.Proofs.YtdknjfmjddlphaaGreat
/-
  What accept.Outcomes and accept.Decided compute. No walk.
-/
set_option linter.unusedSimpArgs false
set_option linter.unusedVariables false
namespace Go.Proofs.YtdknjfmjddlphaaGreat
open Go Go.Fk
/-- the votes of a slot -/
def own_f (slot : Int) (l : List Vt) : List Vt := l.filter fun x => decide (x.slot = slot) && decide (x.kind ≤ 4)
theorem acc_sig (m : Int) (parent : Nm) (l : List Vt) (k : Nat) (h : k < (accepted_f m parent l).length) : has_f m (accepted_f m parent l)[k]!.signer = true ∧ 0 ≤ (accepted_f m parent l)[k]!.signer ∧ (accepted_f m parent l)[k]!.signer ≤ 9 := by
 have hm : (accepted_f m parent l)[k]! ∈ accepted_f m parent l := by rw [getElem!_pos _ k h]; exact List.getElem_mem h
 have hg := allowed_guard (acc_mem_allowed hm); exact ⟨hg.2.2.1, (valid_bounds hg.1).2.1⟩
theorem outs_yes {K : Type} {keep : K × Int → Bool} {done : List (K × Int)} {p : K × Int} (h : keep p = true) : (done.filter keep).map Prod.fst ++ [p.1] = ((done ++ [p]).filter keep).map Prod.fst := by
 rw [List.filter_append, List.map_append, List.filter_cons, if_pos h]; rfl
theorem outs_no {K : Type} {keep : K × Int → Bool} {done : List (K × Int)} {p : K × Int} (h : keep p = false) : (done.filter keep).map Prod.fst = ((done ++ [p]).filter keep).map Prod.fst := by
 rw [List.filter_append, List.map_append, List.filter_cons, if_neg (by rw [h]; simp)]; simp
end Go.Proofs.YtdknjfmjddlphaaGreat
/-
  Layer 12: outcomes and accepted votes as sets: slots apart, more votes, who decides. No walk.
-/
set_option linter.unusedSimpArgs false
set_option linter.unusedVariables false
namespace Go.Proofs.YtdknjfmjddlphaaGreat
open Go Go.Fk
theorem any_sub {a b : List Vt} (h : ∀ x ∈ a, x ∈ b) {p : Vt → Bool} (ha : a.any p = true) : b.any p = true := by
 rw [List.any_eq_true] at ha ⊢; obtain ⟨x, hx, hp⟩ := ha; exact ⟨x, h x hx, hp⟩
theorem supported_sub {m q : Int} {v : Vt} {a b : List Vt} (h : ∀ x ∈ a, x ∈ b) {p : Vt → Bool} (ha : supported_f m q v a p = true) : supported_f m q v b p = true := by
 unfold supported_f at ha ⊢; cases hg : (!decide ((iandn v.support m) = 0)) || (!decide ((size_f v.support) = q)) with
 | true => rw [hg] at ha; cases ha
 | false =>
  rw [hg] at ha
  simp only [cond_false] at ha ⊢
  rw [List.all_eq_true] at ha ⊢
  exact fun i hi => any_sub h (ha i hi)
/-- the Mixed Precommit: two votes that count are unlike -/
theorem anySt_pre3 {v : Vt} : ∀ (c pre : List Vt), anySt (pre3q v) pre c = true ↔ ∃ x ∈ c, pre3ok v x = true ∧ ∃ y, ((pre ++ c).filter (pre3ok v)).head? = some y ∧ same_f y x = false
  | [], pre => by simp [anySt]
  | x :: t, pre => by
    have ih := anySt_pre3 (v := v) t (pre ++ [x])
    have e : pre ++ [x] ++ t = pre ++ x :: t := by simp
    rw [e] at ih
    show (pre3q v pre x || anySt (pre3q v) (pre ++ [x]) t) = true ↔ _
    rw [Bool.or_eq_true, ih]
    have hq : pre3q v pre x = true ↔ (pre3ok v x = true ∧ ∃ y, ((pre ++ x :: t).filter (pre3ok v)).head? = some y ∧ same_f y x = false) := by
      unfold pre3q
      rw [List.filter_append, List.head?_append]
      cases hh : (pre.filter (pre3ok v)).head? with
      | none =>
        simp only [Option.none_or]
        unfold precommit3n_f
        have e2 : same_f x x = true := by rw [same_iff]; exact ⟨rfl, rfl⟩
        constructor
        · intro h
          cases hg : (!(precommit1_f x v)) || (!(has_f v.support x.signer)) <;> rw [hg] at h <;> simp [e2] at h
        · rintro ⟨hok, y, hy, hs⟩
          rw [List.filter_cons, if_pos hok] at hy
          simp at hy
          subst hy
          rw [e2] at hs; cases hs
      | some y =>
        simp only [Option.some_or]
        unfold precommit3s_f pre3ok
        constructor
        · intro h
          cases hg : (!(precommit1_f x v)) || (!(has_f v.support x.signer)) with
          | true => rw [hg] at h; cases h
          | false =>
            rw [hg] at h
            simp only [cond_false, Bool.not_eq_true'] at h
            simp only [Bool.or_eq_false_iff, Bool.not_eq_false'] at hg
            exact ⟨by simp [hg.1, hg.2], y, rfl, h⟩
        · rintro ⟨hok, z, hz, hs⟩
          cases hz
          simp only [Bool.and_eq_true] at hok
          simp [hok.1, hok.2, hs]
    rw [hq]
    constructor
    · rintro (⟨h1, h2⟩ | ⟨z, hz, h1, h2⟩)
      · exact ⟨x, by simp, h1, h2⟩
      · exact ⟨z, by simp [hz], h1, h2⟩
    · rintro ⟨z, hz, h1, h2⟩
      rcases List.mem_cons.1 hz with rfl | hz
      · exact Or.inl ⟨h1, h2⟩
      · exact Or.inr ⟨z, hz, h1, h2⟩
theorem anySt_two {v : Vt} {c : List Vt} : anySt (pre3q v) [] c = true ↔ ∃ x ∈ c, ∃ y ∈ c, pre3ok v x = true ∧ pre3ok v y = true ∧ same_f y x = false := by
 rw [anySt_pre3]; simp only [List.nil_append]; constructor
 ·rintro ⟨x, hx, h1, y, hy, hs⟩; have : y ∈ c.filter (pre3ok v) := List.mem_of_mem_head? hy; rw [List.mem_filter] at this; exact ⟨x, hx, y, this.1, h1, this.2, hs⟩
 ·rintro ⟨x, hx, y, hy, h1, h2, hs⟩; cases hh : (c.filter (pre3ok v)).head? with
  | none =>
   rw [List.head?_eq_none_iff] at hh
   have : x ∈ c.filter (pre3ok v) := List.mem_filter.2 ⟨hx, h1⟩
   rw [hh] at this; cases this
  | some z =>
   by_cases hz : same_f z x = true
   · refine ⟨y, hy, h2, z, rfl, ?_⟩
     cases hzy : same_f z y with
     | false => rfl
     | true =>
       rw [same_iff] at hz hzy
       have : same_f y x = true := by rw [same_iff]; exact ⟨hzy.1.symm.trans hz.1, hzy.2.symm.trans hz.2⟩
       rw [this] at hs; cases hs
   · exact ⟨x, hx, h1, z, rfl, by simpa using hz⟩
theorem anySt_sub {v : Vt} {a b : List Vt} (h : ∀ x ∈ a, x ∈ b) (ha : anySt (pre3q v) [] a = true) : anySt (pre3q v) [] b = true := by
 rw [anySt_two] at ha ⊢; obtain ⟨x, hx, y, hy, r⟩ := ha; exact ⟨x, h x hx, y, h y hy, r⟩
theorem allowed_sub {m : Int} {v : Vt} {A B : List Vt} (h : ∀ x ∈ A, x ∈ B) (ha : allowed_f m v A = true) : allowed_f m v B = true := by
 have hf : ∀ x ∈ A.filter (counts_f m v), x ∈ B.filter (counts_f m v) := fun x hx => by
  rw [List.mem_filter] at hx ⊢
  exact ⟨h x hx.1, hx.2⟩
 unfold allowed_f at ha ⊢; generalize A.filter (counts_f m v) = a at ha hf; generalize B.filter (counts_f m v) = b at hf ⊢; cases hg : (((!(valid_f v)) || (decide (4 < v.kind))) || (!(has_f m v.signer))) || (!(has_f m v.slot)) with
 | true => rw [hg] at ha; cases ha
 | false =>
  rw [hg] at ha
  simp only [cond_false] at ha ⊢
  by_cases k1 : v.kind = 1
  · simp [k1] at ha ⊢; exact ha
  · by_cases k2 : v.kind = 2
    · simp only [k2] at ha ⊢
      exact any_sub hf ha
    · by_cases k3 : v.kind = 3
      · simp only [k3] at ha ⊢
        unfold prevote_f at ha ⊢
        by_cases hr : v.round = 1
        · simp [hr] at ha ⊢
          rcases ha with ha | ha
          · exact Or.inl ha
          · exact Or.inr (supported_sub hf ha)
        · simp only [hr, decide_false, cond_false] at ha ⊢
          generalize hS : (fun xx => prevote4_f xx (fun xx => prevote2_f xx v) (fun xx => prevote3_f xx v)) = S at ha ⊢
          generalize hT : (fun xx => prevote5_f xx v (fun xx => prevote2_f xx v)) = T at ha ⊢
          change (bif supported_f m (quorum_f (size_f m)) v a S && a.any T then true else supported_f m (quorum_f (size_f m)) v a (fun xx => prevote3_f xx v) && a.any (fun xx => prevote6_f xx v)) = true at ha
          change (bif supported_f m (quorum_f (size_f m)) v b S && b.any T then true else supported_f m (quorum_f (size_f m)) v b (fun xx => prevote3_f xx v) && b.any (fun xx => prevote6_f xx v)) = true
          cases hc : supported_f m (quorum_f (size_f m)) v a S && a.any T with
          | true =>
            rw [Bool.and_eq_true] at hc
            rw [supported_sub hf hc.1, any_sub hf hc.2]; rfl
          | false =>
            rw [hc] at ha
            simp only [cond_false, Bool.and_eq_true] at ha
            rw [supported_sub hf ha.1, any_sub hf ha.2]
            cases supported_f m (quorum_f (size_f m)) v b S && b.any T <;> rfl
      · have k4 : v.kind = 4 := by
          simp only [Bool.or_eq_false_iff, Bool.not_eq_false', decide_eq_false_iff_not] at hg
          have := (valid_bounds hg.1.1.1).1
          omega
        simp only [k4] at ha ⊢
        unfold precommit_f at ha ⊢
        by_cases hc : v.choice = 2
        · simp only [hc] at ha ⊢
          change (bif !(supported_f m (quorum_f (size_f m)) v a (fun xx => precommit1_f xx v)) then false else anySt (pre3q v) [] a) = true at ha
          change (bif !(supported_f m (quorum_f (size_f m)) v b (fun xx => precommit1_f xx v)) then false else anySt (pre3q v) [] b) = true
          cases hs : supported_f m (quorum_f (size_f m)) v a (fun xx => precommit1_f xx v) with
          | false => rw [hs] at ha; cases ha
          | true =>
            rw [hs] at ha
            rw [supported_sub hf hs]
            exact anySt_sub hf ha
        · simp only [hc, decide_false, Bool.not_false] at ha ⊢
          exact supported_sub hf ha
theorem mem_asc {parent : Nm} {l : List Vt} {x : Vt} : x ∈ asc_f parent l ↔ x.parent = parent ∧ x ∈ l := by
 unfold asc_f; rw [sorted_mem, List.mem_filter]; simp [and_comm]
/-- whatever is allowed by accepted votes is accepted -/
theorem acc_closed {m : Int} {parent : Nm} {l : List Vt} {v : Vt} (hp : v.parent = parent) (hl : v ∈ l) (h : allowed_f m v (accepted_f m parent l) = true) : v ∈ accepted_f m parent l := by
 by_cases hc : v ∈ accepted_f m parent l
 ·exact hc
 ·have := (fix_accepted m parent l).rest v (mem_asc.2 ⟨hp, hl⟩) hc; rw [this] at h; cases h
theorem acc_least {m : Int} {parent : Nm} {l : List Vt} {S : List Vt} (hS : ∀ v ∈ l, v.parent = parent → allowed_f m v S = true → v ∈ S) : ∀ v ∈ accepted_f m parent l, v ∈ S := by
 have hj := (fix_accepted m parent l).just; have hs : ∀ v ∈ accepted_f m parent l, v.parent = parent ∧ v ∈ l := fun v hv => acc_sub hv; generalize accepted_f m parent l = out at hj hs
 have key : ∀ k, k ≤ out.length → ∀ v ∈ out.take k, v ∈ S := by
  intro k
  induction k with
  | zero => intro _ v hv; simp at hv
  | succ k ih =>
    intro hk v hv
    have hkl : k < out.length := by omega
    rw [take_bang hkl, List.mem_append, List.mem_singleton] at hv
    rcases hv with hv | rfl
    · exact ih (by omega) v hv
    · have e : out = out.take k ++ out[k]! :: out.drop (k + 1) := by
        rw [getElem!_pos out k hkl, ← List.drop_eq_getElem_cons hkl, List.take_append_drop]
      have hm : out[k]! ∈ out := by rw [getElem!_pos out k hkl]; exact List.getElem_mem hkl
      exact hS _ (hs _ hm).2 (hs _ hm).1 (allowed_sub (ih (by omega)) (hj _ _ _ e))
 have := key out.length (Nat.le_refl _); rwa [List.take_length] at this
theorem acc_mono {m : Int} {parent : Nm} {l l' : List Vt} (h : ∀ x ∈ l, x ∈ l') : ∀ x ∈ accepted_f m parent l, x ∈ accepted_f m parent l' :=
  acc_least fun v hv hp ha => acc_closed hp (h v hv) ha
/-- the accepted votes of a slot -/
theorem allowed_slot {m : Int} {v : Vt} {A : List Vt} {slot : Int} (hs : v.slot = slot) : allowed_f m v (A.filter fun x => decide (x.slot = slot)) = allowed_f m v A := by
 subst hs; exact filter_counts A
theorem acc_own {m : Int} {parent : Nm} {l : List Vt} {slot : Int} : accepted_f m parent (own_f slot l) = (accepted_f m parent l).filter fun x => decide (x.slot = slot) := by
 refine Asc.unique vote_lin (acc_asc _ _ _) ((acc_asc _ _ _).sublist List.filter_sublist) fun x => ⟨fun hx => ?_, fun hx => ?_⟩
 ·have hx' := acc_sub hx; unfold own_f at hx'; rw [List.mem_filter] at hx'; simp only [Bool.and_eq_true, decide_eq_true_eq] at hx'; exact List.mem_filter.2 ⟨acc_mono (l := own_f slot l) (fun x hx => (List.mem_filter.1 hx).1) x hx, by simpa using hx'.2.2.1⟩
 ·rw [List.mem_filter] at hx; obtain ⟨hx1, hx2⟩ := hx; simp only [decide_eq_true_eq] at hx2; -- S: the accepted of the slot, and all of other slots
  have := acc_least (m := m) (parent := parent) (l := l) (S := accepted_f m parent (own_f slot l) ++ l.filter (fun x => !decide (x.slot = slot))) (fun v hv hp ha => ?_) x hx1
  ·rcases List.mem_append.1 this with h | h
   ·exact h
   ·rw [List.mem_filter] at h; simp [hx2] at h
  ·by_cases hs : v.slot = slot
   ·refine List.mem_append_left _ ?_; have hg := allowed_guard ha; refine acc_closed hp (List.mem_filter.2 ⟨hv, by simp [hs, hg.2.1]⟩) ?_; rw [← allowed_slot hs] at ha; rw [List.filter_append] at ha
    have e2 : (l.filter (fun x => !decide (x.slot = slot))).filter (fun x => decide (x.slot = slot)) = [] := by
     rw [List.filter_eq_nil_iff]
     intro y hy
     rw [List.mem_filter] at hy
     simpa using hy.2
    rw [e2, List.append_nil, allowed_slot hs] at ha; exact ha
   ·exact List.mem_append_right _ (List.mem_filter.2 ⟨hv, by simpa using hs⟩)
theorem acc_signers {m : Int} {parent : Nm} {l : List Vt} {w : Vt} (h : w ∈ accepted_f m parent l) : has_f m w.signer = true ∧ 0 ≤ w.signer ∧ w.signer ≤ 9 := by
 have hg := allowed_guard (acc_mem_allowed h); exact ⟨hg.2.2.1, (valid_bounds hg.1).2.1⟩
end Go.Proofs.YtdknjfmjddlphaaGreat
/-
  Contracts of functions of the program, each with its walk in the logic of frames. Printed by a program of this session (wip/gen) from the translation.
-/
set_option linter.unusedSimpArgs false
set_option linter.unusedVariables false
namespace Go.Proofs.YtdknjfmjddlphaaGreat
open Go Go.Fk
end Go.Proofs.YtdknjfmjddlphaaGreat
namespace Go.Fk
open Go
section
variable {P : Program} {o : Oper} {f : Fr} {w : World}
theorem op_shru {t ty : TypeId} {x y : Operand} {a s : Int} (ho : o.op = .binOp .shr t x y ty) (hx : evalF f x = .int .i64 a) (hy : evalF f y = .int .u64 (IntKind.u64.wrap s)) (h0 : 0 ≤ s) (h1 : s ≤ 64) : (execOp (evalF f) o).run P w = .ok (.value (.int .i64 (a / 2 ^ s.toNat))) w := by
 have hw : IntKind.u64.wrap s = s := by
  simp only [IntKind.wrap, IntKind.bits, IntKind.signed]
  simp
  omega
 rw [hw] at hy; exact op_int2 ho hx hy (by rw [binOp_shr, shift_shr_i64 _ _ _ h0 h1])
end
end Go.Fk
set_option linter.unusedSimpArgs false
set_option linter.unusedVariables false
namespace Go.Proofs.YtdknjfmjddlphaaGreat
open Go Go.Fk
def rQuorum_f (n : Int) : Int := bif decide (n < 1) then 0 else n - ((n - 1) / 3)
set_option maxRecDepth 100000 in
theorem rQuorum_ok {n : Int}  {w : World} (h0 : -1000 ≤ n) (h1 : n ≤ 1000) : Gives Tryz.prog 73 #[(.int .i64 n)] w fun u w' => u = (.int .i64 (rQuorum_f n)) ∧ Ext w w' := by
 have hE : Ext w w := Ext.refl w; refine gives_of_W Tryz.func73 rfl Tryz.ntmps73 rfl ?_; refine W.seq ?_; refine W.region (by rfl) ?_; refine L.val rfl (op_assign rfl rfl) ?_; refine L.nil ?_; refine thenF_nor ?_; refine W.seq ?_; refine W.seq ?_; refine W.region (by rfl) ?_; refine L.val rfl (op_move rfl rfl) ?_; refine L.val rfl (op_lss rfl rfl rfl) ?_; refine L.nil ?_; refine thenF_nor ?_; refine W.cond (t := decide (n < 1)) rfl (fun hc1 => ?_) (fun hc1 => ?_)
 ·have hp1 := hc1; simp only [Bool.and_eq_true, Bool.or_eq_true, Bool.and_eq_false_iff, Bool.or_eq_false_iff, Bool.not_eq_true', Bool.not_eq_false', decide_eq_true_eq, decide_eq_false_iff_not] at hp1; refine W.seq ?_; refine W.region (by rfl) ?_; refine L.val rfl (op_assign rfl rfl) ?_; refine L.nil ?_; refine thenF_nor ?_; refine W.ret ?_; refine thenF_ret ?_; exact end_ret1 (v := (.int .i64 0)) rfl rfl ⟨by simp only [rQuorum_f, hc1, cond_true], hE⟩
 ·have hp1 := hc1; simp only [Bool.and_eq_true, Bool.or_eq_true, Bool.and_eq_false_iff, Bool.or_eq_false_iff, Bool.not_eq_true', Bool.not_eq_false', decide_eq_true_eq, decide_eq_false_iff_not] at hp1; refine W.skip ?_; refine thenF_nor ?_; refine W.seq ?_; refine W.region (by rfl) ?_; refine L.val rfl (op_move rfl rfl) ?_; refine L.val rfl (op_move rfl rfl) ?_; refine L.val rfl (op_sub rfl rfl rfl rfl (by omega)) ?_; refine L.val rfl (op_quo rfl rfl rfl (by omega) (by omega) (by omega)) ?_; refine L.val rfl (op_sub rfl rfl rfl rfl (by omega)) ?_; refine L.val rfl (op_assign rfl rfl) ?_; refine L.nil ?_; refine thenF_nor ?_; refine W.ret ?_; exact end_ret1 (v := (.int .i64 (n - ((n - 1) / 3)))) rfl rfl ⟨by simp only [rQuorum_f, hc1, cond_false], hE⟩
def rHas_f (m : Int) (i : Int) : Bool := ((decide (0 ≤ i)) && (decide (i < 10))) && (decide ((iand (m / 2 ^ (i).toNat) 1) = 1))
set_option maxRecDepth 100000 in
theorem rHas_ok {m : Int} {i : Int}  {w : World}  : Gives Tryz.prog 101 #[(.int .i64 m), (.int .i64 i)] w fun u w' => u = (.bool (rHas_f m i)) ∧ Ext w w' := by
 have hE : Ext w w := Ext.refl w; refine gives_of_W Tryz.func101 rfl Tryz.ntmps101 rfl ?_; refine W.seq ?_; refine W.region (by rfl) ?_; refine L.val (v := (.bool false)) rfl (op_assign rfl rfl) ?_; refine L.nil ?_; refine thenF_nor ?_; refine W.seq ?_; refine W.region (by rfl) ?_; refine L.val rfl (op_move rfl rfl) ?_; refine L.val rfl (op_geq rfl rfl rfl) ?_; refine L.val rfl (op_move rfl rfl) ?_; refine L.guardv (v := (.int .i64 i)) (wanted_yes rfl rfl rfl) (fun hg => (op_move rfl rfl)) ?_; refine L.guardv (v := (.bool (decide (i < 10)))) (wanted_yes rfl rfl rfl) (fun hg => (op_lss rfl ((show _ = vif _ (.int .i64 i) from rfl).trans (vif_t hg).symm) rfl)) ?_; refine L.val rfl (op_and rfl rfl rfl rfl) ?_; refine L.val rfl (op_move rfl rfl) ?_; refine L.guardv (v := (.int .i64 m)) (wanted_yes rfl rfl rfl) (fun hg => (op_move rfl rfl)) ?_; refine L.guardv (v := (.int .i64 i)) (wanted_yes rfl rfl rfl) (fun hg => (op_move rfl rfl)) ?_; refine L.guardv (v := (.int .u64 (IntKind.u64.wrap i))) (wanted_yes rfl rfl rfl) (fun hg => (op_conv rfl ((show _ = vif _ (.int .i64 i) from rfl).trans (vif_t hg).symm) (by kernel_rfl) Tryz.underlying52)) ?_; refine L.guardv (v := (.int .i64 (m / 2 ^ (i).toNat))) (wanted_yes rfl rfl rfl) (fun hg => by have hp := hg; (try simp only [Bool.and_eq_true, Bool.or_eq_true, Bool.not_eq_true', decide_eq_true_eq, decide_eq_false_iff_not, bne_iff_ne, beq_iff_eq] at hp); exact (op_shru rfl ((show _ = vif _ (.int .i64 m) from rfl).trans (vif_t hg).symm) ((show _ = vif _ (.int .u64 (IntKind.u64.wrap i)) from rfl).trans (vif_t hg).symm) (by omega) (by omega))) ?_; refine L.guardv (v := (.int .i64 (iand (m / 2 ^ (i).toNat) 1))) (wanted_yes rfl rfl rfl) (fun hg => (op_iand rfl ((show _ = vif _ (.int .i64 (m / 2 ^ (i).toNat)) from rfl).trans (vif_t hg).symm) rfl)) ?_; refine L.guardv (v := (.bool (decide ((iand (m / 2 ^ (i).toNat) 1) = 1)))) (wanted_yes rfl rfl rfl) (fun hg => (op_eql rfl ((show _ = vif _ (.int .i64 (iand (m / 2 ^ (i).toNat) 1)) from rfl).trans (vif_t hg).symm) rfl)) ?_; refine L.val rfl (op_and rfl rfl rfl rfl) ?_; refine L.val rfl (op_assign rfl rfl) ?_; refine L.nil ?_; refine thenF_nor ?_; refine W.ret ?_; exact end_ret1 (v := (.bool (((decide (0 ≤ i)) && (decide (i < 10))) && (decide ((iand (m / 2 ^ (i).toNat) 1) = 1))))) rfl rfl ⟨by simp only [rHas_f], hE⟩
def rBit_f (i : Int) : Int := bif (decide (i < 0)) || (decide (10 ≤ i)) then 0 else ishl 1 i
set_option maxRecDepth 100000 in
theorem rBit_ok {i : Int}  {w : World}  : Gives Tryz.prog 97 #[(.int .i64 i)] w fun u w' => u = (.int .i64 (rBit_f i)) ∧ Ext w w' := by
 have hE : Ext w w := Ext.refl w; refine gives_of_W Tryz.func97 rfl Tryz.ntmps97 rfl ?_; refine W.seq ?_; refine W.region (by rfl) ?_; refine L.val rfl (op_assign rfl rfl) ?_; refine L.nil ?_; refine thenF_nor ?_; refine W.seq ?_; refine W.seq ?_; refine W.region (by rfl) ?_; refine L.val rfl (op_move rfl rfl) ?_; refine L.val rfl (op_lss rfl rfl rfl) ?_; refine L.val rfl (op_move rfl rfl) ?_; refine L.guardv (v := (.int .i64 i)) (wanted_no rfl rfl rfl) (fun hg => (op_move rfl rfl)) ?_; refine L.guardv (v := (.bool (decide (10 ≤ i)))) (wanted_no rfl rfl rfl) (fun hg => (op_geq rfl ((show _ = vif _ (.int .i64 i) from rfl).trans (vif_t hg).symm) rfl)) ?_; refine L.val rfl (op_or rfl rfl rfl rfl) ?_; refine L.nil ?_; refine thenF_nor ?_; refine W.cond (t := (decide (i < 0)) || (decide (10 ≤ i))) rfl (fun hc1 => ?_) (fun hc1 => ?_)
 ·have hp1 := hc1; simp only [Bool.and_eq_true, Bool.or_eq_true, Bool.and_eq_false_iff, Bool.or_eq_false_iff, Bool.not_eq_true', Bool.not_eq_false', decide_eq_true_eq, decide_eq_false_iff_not] at hp1; refine W.seq ?_; refine W.region (by rfl) ?_; refine L.val rfl (op_assign rfl rfl) ?_; refine L.nil ?_; refine thenF_nor ?_; refine W.ret ?_; refine thenF_ret ?_; exact end_ret1 (v := (.int .i64 0)) rfl rfl ⟨by simp only [rBit_f, hc1, cond_true], hE⟩
 ·have hp1 := hc1; simp only [Bool.and_eq_true, Bool.or_eq_true, Bool.and_eq_false_iff, Bool.or_eq_false_iff, Bool.not_eq_true', Bool.not_eq_false', decide_eq_true_eq, decide_eq_false_iff_not] at hp1; refine W.skip ?_; refine thenF_nor ?_; refine W.seq ?_; refine W.region (by rfl) ?_; refine L.val rfl (op_move rfl rfl) ?_; refine L.val rfl (op_conv rfl rfl (by kernel_rfl) Tryz.underlying52) ?_; refine L.val rfl (op_shlu rfl rfl rfl (by omega) (by omega)) ?_; refine L.val rfl (op_assign rfl rfl) ?_; refine L.nil ?_; refine thenF_nor ?_; refine W.ret ?_; exact end_ret1 (v := (.int .i64 (ishl 1 i))) rfl rfl ⟨by simp only [rBit_f, hc1, cond_false], hE⟩
def rAgreement_f (kind : Int) : Bool := (decide (1 ≤ kind)) && (decide (kind ≤ 4))
set_option maxRecDepth 100000 in
theorem rAgreement_ok {kind : Int}  {w : World}  : Gives Tryz.prog 148 #[(.int .i64 kind)] w fun u w' => u = (.bool (rAgreement_f kind)) ∧ Ext w w' := by
 have hE : Ext w w := Ext.refl w; refine gives_of_W Tryz.func148 rfl Tryz.ntmps148 rfl ?_; refine W.seq ?_; refine W.region (by rfl) ?_; refine L.val (v := (.bool false)) rfl (op_assign rfl rfl) ?_; refine L.nil ?_; refine thenF_nor ?_; refine W.seq ?_; refine W.region (by rfl) ?_; refine L.val rfl (op_move rfl rfl) ?_; refine L.val rfl (op_geq rfl rfl rfl) ?_; refine L.val rfl (op_move rfl rfl) ?_; refine L.guardv (v := (.int .i64 kind)) (wanted_yes rfl rfl rfl) (fun hg => (op_move rfl rfl)) ?_; refine L.guardv (v := (.bool (decide (kind ≤ 4)))) (wanted_yes rfl rfl rfl) (fun hg => (op_leq rfl ((show _ = vif _ (.int .i64 kind) from rfl).trans (vif_t hg).symm) rfl)) ?_; refine L.val rfl (op_and rfl rfl rfl rfl) ?_; refine L.val rfl (op_assign rfl rfl) ?_; refine L.nil ?_; refine thenF_nor ?_; refine W.ret ?_; exact end_ret1 (v := (.bool ((decide (1 ≤ kind)) && (decide (kind ≤ 4))))) rfl rfl ⟨by simp only [rAgreement_f], hE⟩
def rValid_f (v : Vt) : Bool := bif ((((decide (v.kind < 1)) || (decide (7 < v.kind))) || (decide (v.signer < 0))) || (decide (10 ≤ v.signer))) || (!decide ((iandn v.support 1023) = 0)) then false else (bif ((rAgreement_f v.kind) && ((decide (v.slot < 0)) || (decide (10 ≤ v.slot)))) || ((!(rAgreement_f v.kind)) && (!decide (v.slot = 0))) then false else (bif (decide (v.value = Nm.zero)) == (decide (v.choice = 1)) then false else (bif decide (v.kind = 3) then (((decide (1 ≤ v.round)) && (decide (v.round ≤ 12))) && ((decide (v.choice = 0)) || (decide (v.choice = 1)))) && (((!decide (v.round = 1)) || (!decide (v.choice = 0))) || (decide (v.support = 0))) else (bif decide (v.kind = 4) then (((decide (1 ≤ v.round)) && (decide (v.round ≤ 12))) && (decide (0 ≤ v.choice))) && (decide (v.choice ≤ 2)) else ((decide (v.round = 0)) && (decide (v.choice = 1))) && (decide (v.support = 0))))))
set_option maxRecDepth 100000 in
theorem rValid_ok {v : Vt}  {w : World}  : Gives Tryz.prog 100 #[(Enc.val (v : Vt))] w fun u w' => u = (.bool (rValid_f v)) ∧ Ext w w' := by
 have hE : Ext w w := Ext.refl w; refine gives_of_W Tryz.func100 rfl Tryz.ntmps100 rfl ?_; refine W.seq ?_; refine W.region (by rfl) ?_; refine L.step rfl (op_box (cs := (Enc.cells (v : Vt))) rfl rfl rfl) ?_; rintro _ w1 ⟨b1, rfl, hb1, hB1, hx1⟩; have hE := hE.trans hx1; refine L.val (v := (.bool false)) rfl (op_assign rfl rfl) ?_; refine L.nil ?_; refine thenF_nor ?_; refine W.seq ?_; refine W.seq ?_; refine W.region (by rfl) ?_; refine L.val rfl (op_field rfl rfl fo47_0 rfl) ?_; refine L.val rfl (op_load1 rfl rfl one3 (hB1.cells.one (n := 0) rfl)) ?_; refine L.val rfl (op_lss rfl rfl rfl) ?_; refine L.val rfl (op_move rfl rfl) ?_; refine L.guardv (v := (.pointer (some ⟨b1, 0, none⟩))) (wanted_no rfl rfl rfl) (fun hg => (op_field rfl rfl fo47_0 rfl)) ?_; refine L.guardv (v := (.int .i64 v.kind)) (wanted_no rfl rfl rfl) (fun hg => (op_load1 rfl ((show _ = vif _ (.pointer (some ⟨b1, 0, none⟩)) from rfl).trans (vif_t hg).symm) one3 (hB1.cells.one (n := 0) rfl))) ?_; refine L.guardv (v := (.bool (decide (7 < v.kind)))) (wanted_no rfl rfl rfl) (fun hg => (op_gtr rfl ((show _ = vif _ (.int .i64 v.kind) from rfl).trans (vif_t hg).symm) rfl)) ?_; refine L.val rfl (op_or rfl rfl rfl rfl) ?_; refine L.val rfl (op_move rfl rfl) ?_; refine L.guardv (v := (.pointer (some ⟨b1, 4, none⟩))) (wanted_no rfl rfl rfl) (fun hg => (op_field rfl rfl fo47_4 rfl)) ?_; refine L.guardv (v := (.int .i64 v.signer)) (wanted_no rfl rfl rfl) (fun hg => (op_load1 rfl ((show _ = vif _ (.pointer (some ⟨b1, 4, none⟩)) from rfl).trans (vif_t hg).symm) one3 (hB1.cells.one (n := 4) rfl))) ?_; refine L.guardv (v := (.bool (decide (v.signer < 0)))) (wanted_no rfl rfl rfl) (fun hg => (op_lss rfl ((show _ = vif _ (.int .i64 v.signer) from rfl).trans (vif_t hg).symm) rfl)) ?_; refine L.val rfl (op_or rfl rfl rfl rfl) ?_; refine L.val rfl (op_move rfl rfl) ?_; refine L.guardv (v := (.pointer (some ⟨b1, 4, none⟩))) (wanted_no rfl rfl rfl) (fun hg => (op_field rfl rfl fo47_4 rfl)) ?_; refine L.guardv (v := (.int .i64 v.signer)) (wanted_no rfl rfl rfl) (fun hg => (op_load1 rfl ((show _ = vif _ (.pointer (some ⟨b1, 4, none⟩)) from rfl).trans (vif_t hg).symm) one3 (hB1.cells.one (n := 4) rfl))) ?_; refine L.guardv (v := (.bool (decide (10 ≤ v.signer)))) (wanted_no rfl rfl rfl) (fun hg => (op_geq rfl ((show _ = vif _ (.int .i64 v.signer) from rfl).trans (vif_t hg).symm) rfl)) ?_; refine L.val rfl (op_or rfl rfl rfl rfl) ?_; refine L.val rfl (op_move rfl rfl) ?_; refine L.guardv (v := (.pointer (some ⟨b1, 5, none⟩))) (wanted_no rfl rfl rfl) (fun hg => (op_field rfl rfl fo47_5 rfl)) ?_; refine L.guardv (v := (.int .i64 v.support)) (wanted_no rfl rfl rfl) (fun hg => (op_load1 rfl ((show _ = vif _ (.pointer (some ⟨b1, 5, none⟩)) from rfl).trans (vif_t hg).symm) one22 (hB1.cells.one (n := 5) rfl))) ?_; refine L.guardv (v := (.int .i64 (iandn v.support 1023))) (wanted_no rfl rfl rfl) (fun hg => (op_iandn rfl ((show _ = vif _ (.int .i64 v.support) from rfl).trans (vif_t hg).symm) rfl)) ?_; refine L.guardv (v := (.bool (!decide ((iandn v.support 1023) = 0)))) (wanted_no rfl rfl rfl) (fun hg => (op_neq rfl ((show _ = vif _ (.int .i64 (iandn v.support 1023)) from rfl).trans (vif_t hg).symm) rfl)) ?_; refine L.val rfl (op_or rfl rfl rfl rfl) ?_; refine L.nil ?_; refine thenF_nor ?_; refine W.cond (t := ((((decide (v.kind < 1)) || (decide (7 < v.kind))) || (decide (v.signer < 0))) || (decide (10 ≤ v.signer))) || (!decide ((iandn v.support 1023) = 0))) rfl (fun hc2 => ?_) (fun hc2 => ?_)
 ·have hp2 := hc2; simp only [Bool.and_eq_true, Bool.or_eq_true, Bool.and_eq_false_iff, Bool.or_eq_false_iff, Bool.not_eq_true', Bool.not_eq_false', decide_eq_true_eq, decide_eq_false_iff_not] at hp2; refine W.seq ?_; refine W.region (by rfl) ?_; refine L.val (v := (.bool false)) rfl (op_assign rfl rfl) ?_; refine L.nil ?_; refine thenF_nor ?_; refine W.ret ?_; refine thenF_ret ?_; exact end_ret1 (v := (.bool false)) rfl rfl ⟨by simp only [rValid_f, hc2, cond_true], hE⟩
 ·have hp2 := hc2; simp only [Bool.and_eq_true, Bool.or_eq_true, Bool.and_eq_false_iff, Bool.or_eq_false_iff, Bool.not_eq_true', Bool.not_eq_false', decide_eq_true_eq, decide_eq_false_iff_not] at hp2; refine W.skip ?_; refine thenF_nor ?_; refine W.seq ?_; refine W.seq ?_; refine W.region (by rfl) ?_; refine L.val rfl (op_field rfl rfl fo47_0 rfl) ?_; refine L.val rfl (op_load1 rfl rfl one3 (hB1.cells.one (n := 0) rfl)) ?_; refine L.call (v := (.bool (rAgreement_f v.kind))) rfl (OpS.call (op_call rfl (argsC rfl argsN) Tryz.func148 rfl rfl) rAgreement_ok) ?_; intro w3 hx3; have hE := hE.trans hx3; have hB1 := hB1.ext hx3; refine L.val rfl (op_move rfl rfl) ?_; refine L.guardv (v := (.pointer (some ⟨b1, 1, none⟩))) (wanted_yes rfl rfl rfl) (fun hg => (op_field rfl rfl fo47_1 rfl)) ?_; refine L.guardv (v := (.int .i64 v.slot)) (wanted_yes rfl rfl rfl) (fun hg => (op_load1 rfl ((show _ = vif _ (.pointer (some ⟨b1, 1, none⟩)) from rfl).trans (vif_t hg).symm) one3 (hB1.cells.one (n := 1) rfl))) ?_; refine L.guardv (v := (.bool (decide (v.slot < 0)))) (wanted_yes rfl rfl rfl) (fun hg => (op_lss rfl ((show _ = vif _ (.int .i64 v.slot) from rfl).trans (vif_t hg).symm) rfl)) ?_; refine L.guardv (v := (.bool (decide (v.slot < 0)))) (wanted_yes rfl rfl rfl) (fun hg => (op_move rfl ((show _ = vif _ (.bool (decide (v.slot < 0))) from rfl).trans (vif_t hg).symm))) ?_; refine L.guardv (v := (.pointer (some ⟨b1, 1, none⟩))) (wanted_vif rfl rfl rfl) (fun hg => (op_field rfl rfl fo47_1 rfl)) ?_; refine L.guardv (v := (.int .i64 v.slot)) (wanted_vif rfl rfl rfl) (fun hg => (op_load1 rfl ((show _ = vif _ (.pointer (some ⟨b1, 1, none⟩)) from rfl).trans (vif_t hg).symm) one3 (hB1.cells.one (n := 1) rfl))) ?_; refine L.guardv (v := (.bool (decide (10 ≤ v.slot)))) (wanted_vif rfl rfl rfl) (fun hg => (op_geq rfl ((show _ = vif _ (.int .i64 v.slot) from rfl).trans (vif_t hg).symm) rfl)) ?_; refine L.guardv (v := (.bool ((decide (v.slot < 0)) || (decide (10 ≤ v.slot))))) (wanted_yes rfl rfl rfl) (fun hg => (op_or rfl ((show _ = vif _ (.bool (decide (v.slot < 0))) from rfl).trans (vif_t hg).symm) rfl ((show _ = vif _ _ from rfl).trans (vif_or hg)))) ?_; refine L.val rfl (op_and rfl rfl rfl rfl) ?_; refine L.val rfl (op_move rfl rfl) ?_; refine L.guardv (v := (.pointer (some ⟨b1, 0, none⟩))) (wanted_no rfl rfl rfl) (fun hg => (op_field rfl rfl fo47_0 rfl)) ?_; refine L.guardv (v := (.int .i64 v.kind)) (wanted_no rfl rfl rfl) (fun hg => (op_load1 rfl ((show _ = vif _ (.pointer (some ⟨b1, 0, none⟩)) from rfl).trans (vif_t hg).symm) one3 (hB1.cells.one (n := 0) rfl))) ?_; refine L.guardc (v := (.bool (rAgreement_f v.kind))) (wanted_no rfl rfl rfl) (fun hg => (OpS.call (op_call rfl (argsC ((show _ = vif _ (.int .i64 v.kind) from rfl).trans (vif_t hg).symm) argsN) Tryz.func148 rfl rfl) rAgreement_ok)) ?_; intro w4 hx4; have hE := hE.trans hx4; have hB1 := hB1.ext hx4; refine L.guardv (v := (.bool (!(rAgreement_f v.kind)))) (wanted_no rfl rfl rfl) (fun hg => (op_not rfl ((show _ = vif _ (.bool (rAgreement_f v.kind)) from rfl).trans (vif_t hg).symm))) ?_; refine L.guardv (v := (.bool (!(rAgreement_f v.kind)))) (wanted_no rfl rfl rfl) (fun hg => (op_move rfl ((show _ = vif _ (.bool (!(rAgreement_f v.kind))) from rfl).trans (vif_t hg).symm))) ?_; refine L.guardv (v := (.pointer (some ⟨b1, 1, none⟩))) (wanted_vif rfl rfl rfl) (fun hg => (op_field rfl rfl fo47_1 rfl)) ?_; refine L.guardv (v := (.int .i64 v.slot)) (wanted_vif rfl rfl rfl) (fun hg => (op_load1 rfl ((show _ = vif _ (.pointer (some ⟨b1, 1, none⟩)) from rfl).trans (vif_t hg).symm) one3 (hB1.cells.one (n := 1) rfl))) ?_; refine L.guardv (v := (.bool (!decide (v.slot = 0)))) (wanted_vif rfl rfl rfl) (fun hg => (op_neq rfl ((show _ = vif _ (.int .i64 v.slot) from rfl).trans (vif_t hg).symm) rfl)) ?_; refine L.guardv (v := (.bool ((!(rAgreement_f v.kind)) && (!decide (v.slot = 0))))) (wanted_no rfl rfl rfl) (fun hg => (op_and rfl ((show _ = vif _ (.bool (!(rAgreement_f v.kind))) from rfl).trans (vif_t hg).symm) ((show _ = vif _ _ from rfl).trans (vif_and hg)) rfl)) ?_; refine L.val rfl (op_or rfl rfl rfl rfl) ?_; refine L.nil ?_; refine thenF_nor ?_; refine W.cond (t := ((rAgreement_f v.kind) && ((decide (v.slot < 0)) || (decide (10 ≤ v.slot)))) || ((!(rAgreement_f v.kind)) && (!decide (v.slot = 0)))) rfl (fun hc5 => ?_) (fun hc5 => ?_)
  ·have hp5 := hc5; simp only [Bool.and_eq_true, Bool.or_eq_true, Bool.and_eq_false_iff, Bool.or_eq_false_iff, Bool.not_eq_true', Bool.not_eq_false', decide_eq_true_eq, decide_eq_false_iff_not] at hp5; refine W.seq ?_; refine W.region (by rfl) ?_; refine L.val (v := (.bool false)) rfl (op_assign rfl rfl) ?_; refine L.nil ?_; refine thenF_nor ?_; refine W.ret ?_; refine thenF_ret ?_; exact end_ret1 (v := (.bool false)) rfl rfl ⟨by simp only [rValid_f, hc2, hc5, cond_true, cond_false], hE⟩
  ·have hp5 := hc5; simp only [Bool.and_eq_true, Bool.or_eq_true, Bool.and_eq_false_iff, Bool.or_eq_false_iff, Bool.not_eq_true', Bool.not_eq_false', decide_eq_true_eq, decide_eq_false_iff_not] at hp5; refine W.skip ?_; refine thenF_nor ?_; refine W.seq ?_; refine W.seq ?_; refine W.drawS [Sp.eq (.pointer (some ⟨b1, 14, none⟩)), Sp.eq (Enc.val (v.value : Nm)), Sp.eq (Enc.val (Nm.zero : Nm)), Sp.eq (.bool (decide (v.value = Nm.zero))), Sp.eq (.pointer (some ⟨b1, 3, none⟩)), Sp.eq (.int .i64 v.choice), Sp.eq (.bool (decide (v.choice = 1))), Sp.eq (.bool ((decide (v.value = Nm.zero)) == (decide (v.choice = 1))))] mixed (by rfl) (Obls.cons ?_ (Obls.cons ?_ (Obls.cons ?_ (Obls.cons ?_ (Obls.cons ?_ (Obls.cons ?_ (Obls.cons ?_ (Obls.cons ?_ Obls.nil)))))))) ?_
   ·intro f7 w7 hx7 ho7 hd7; have d7_s1 : f7 1 = (.pointer (some ⟨b1, 0, none⟩)) := ho7 1 rfl; exact D.val rfl (op_field rfl d7_s1 fo47_7 rfl)
   ·intro f8 w8 hx8 ho8 hd8; have d8_0 : f8 51 = (.pointer (some ⟨b1, 14, none⟩)) := hd8 0 rfl; have hB1 := hB1.ext hx8; exact D.val rfl (op_load (v := (v.value : Nm)) rfl d8_0 ty24 (sub_nm 14 hB1.cells rfl))
   ·intro f9 w9 hx9 ho9 hd9; exact D.val rfl (op_build (v := Enc.val (Nm.zero : Nm)) (cs := Enc.cells (Nm.zero : Nm)) rfl partsN (by kernel_rfl) rfl)
   ·intro f10 w10 hx10 ho10 hd10; have d10_1 : f10 52 = (Enc.val (v.value : Nm)) := hd10 1 rfl; have d10_2 : f10 53 = (Enc.val (Nm.zero : Nm)) := hd10 2 rfl; exact D.val rfl (op_eqle (a := (v.value : Nm)) (b := (Nm.zero : Nm)) rfl d10_1 d10_2 eq24 (fun _ => ⟨_, rfl⟩) Tryz.eqGuardType24)
   ·intro f11 w11 hx11 ho11 hd11; have d11_s1 : f11 1 = (.pointer (some ⟨b1, 0, none⟩)) := ho11 1 rfl; exact D.val rfl (op_field rfl d11_s1 fo47_3 rfl)
   ·intro f12 w12 hx12 ho12 hd12; have d12_4 : f12 55 = (.pointer (some ⟨b1, 3, none⟩)) := hd12 4 rfl; have hB1 := hB1.ext hx12; exact D.val rfl (op_load1 rfl d12_4 one3 (hB1.cells.one (n := 3) rfl))
   ·intro f13 w13 hx13 ho13 hd13; have d13_5 : f13 56 = (.int .i64 v.choice) := hd13 5 rfl; exact D.val rfl (op_eql rfl d13_5 rfl)
   ·intro f14 w14 hx14 ho14 hd14; have d14_3 : f14 54 = (.bool (decide (v.value = Nm.zero))) := hd14 3 rfl; have d14_6 : f14 57 = (.bool (decide (v.choice = 1))) := hd14 6 rfl; exact D.val rfl (op_eqlb rfl d14_3 d14_6 Tryz.underlying4)
   intro f15 w15 hx15 ho15 hr15; have s1 : f15 1 = (.pointer (some ⟨b1, 0, none⟩)) := ho15 1 rfl; have s58 : f15 58 = (.bool ((decide (v.value = Nm.zero)) == (decide (v.choice = 1)))) := hr15 7 (by decide); have hE := hE.trans hx15; have hB1 := hB1.ext hx15; refine thenF_nor ?_; refine W.cond (t := (decide (v.value = Nm.zero)) == (decide (v.choice = 1))) s58 (fun hc16 => ?_) (fun hc16 => ?_)
   ·have hp16 := hc16; refine W.seq ?_; refine W.region (by rfl) ?_; refine L.val (v := (.bool false)) rfl (op_assign rfl rfl) ?_; refine L.nil ?_; refine thenF_nor ?_; refine W.ret ?_; refine thenF_ret ?_; exact end_ret1 (v := (.bool false)) rfl rfl ⟨by simp only [rValid_f, hc2, hc5, hc16, cond_true, cond_false], hE⟩
   ·have hp16 := hc16; refine W.skip ?_; refine thenF_nor ?_; refine W.seq ?_; refine W.seq ?_; refine W.region (by rfl) ?_; refine L.val rfl (op_field rfl s1 fo47_0 rfl) ?_; refine L.val rfl (op_load1 rfl rfl one3 (hB1.cells.one (n := 0) rfl)) ?_; refine L.nil ?_; refine thenF_nor ?_; refine W.block ?_; refine W.seq ?_; refine W.region (by rfl) ?_; refine L.val rfl (op_eql rfl rfl rfl) ?_; refine L.val rfl (op_assign rfl rfl) ?_; refine L.nil ?_; refine thenF_nor ?_; refine W.cond (t := decide (v.kind = 3)) rfl (fun hc17 => ?_) (fun hc17 => ?_)
    ·have hp17 := hc17; simp only [Bool.and_eq_true, Bool.or_eq_true, Bool.and_eq_false_iff, Bool.or_eq_false_iff, Bool.not_eq_true', Bool.not_eq_false', decide_eq_true_eq, decide_eq_false_iff_not] at hp17; refine W.seq ?_; refine W.region (by rfl) ?_; refine L.val rfl (op_field rfl s1 fo47_2 rfl) ?_; refine L.val rfl (op_load1 rfl rfl one3 (hB1.cells.one (n := 2) rfl)) ?_; refine L.val rfl (op_geq rfl rfl rfl) ?_; refine L.val rfl (op_move rfl rfl) ?_; refine L.guardv (v := (.pointer (some ⟨b1, 2, none⟩))) (wanted_yes rfl rfl rfl) (fun hg => (op_field rfl s1 fo47_2 rfl)) ?_; refine L.guardv (v := (.int .i64 v.round)) (wanted_yes rfl rfl rfl) (fun hg => (op_load1 rfl ((show _ = vif _ (.pointer (some ⟨b1, 2, none⟩)) from rfl).trans (vif_t hg).symm) one3 (hB1.cells.one (n := 2) rfl))) ?_; refine L.guardv (v := (.bool (decide (v.round ≤ 12)))) (wanted_yes rfl rfl rfl) (fun hg => (op_leq rfl ((show _ = vif _ (.int .i64 v.round) from rfl).trans (vif_t hg).symm) rfl)) ?_; refine L.val rfl (op_and rfl rfl rfl rfl) ?_; refine L.val rfl (op_move rfl rfl) ?_; refine L.guardv (v := (.pointer (some ⟨b1, 3, none⟩))) (wanted_yes rfl rfl rfl) (fun hg => (op_field rfl s1 fo47_3 rfl)) ?_; refine L.guardv (v := (.int .i64 v.choice)) (wanted_yes rfl rfl rfl) (fun hg => (op_load1 rfl ((show _ = vif _ (.pointer (some ⟨b1, 3, none⟩)) from rfl).trans (vif_t hg).symm) one3 (hB1.cells.one (n := 3) rfl))) ?_; refine L.guardv (v := (.bool (decide (v.choice = 0)))) (wanted_yes rfl rfl rfl) (fun hg => (op_eql rfl ((show _ = vif _ (.int .i64 v.choice) from rfl).trans (vif_t hg).symm) rfl)) ?_; refine L.guardv (v := (.bool (decide (v.choice = 0)))) (wanted_yes rfl rfl rfl) (fun hg => (op_move rfl ((show _ = vif _ (.bool (decide (v.choice = 0))) from rfl).trans (vif_t hg).symm))) ?_; refine L.guardv (v := (.pointer (some ⟨b1, 3, none⟩))) (wanted_vif rfl rfl rfl) (fun hg => (op_field rfl s1 fo47_3 rfl)) ?_; refine L.guardv (v := (.int .i64 v.choice)) (wanted_vif rfl rfl rfl) (fun hg => (op_load1 rfl ((show _ = vif _ (.pointer (some ⟨b1, 3, none⟩)) from rfl).trans (vif_t hg).symm) one3 (hB1.cells.one (n := 3) rfl))) ?_; refine L.guardv (v := (.bool (decide (v.choice = 1)))) (wanted_vif rfl rfl rfl) (fun hg => (op_eql rfl ((show _ = vif _ (.int .i64 v.choice) from rfl).trans (vif_t hg).symm) rfl)) ?_; refine L.guardv (v := (.bool ((decide (v.choice = 0)) || (decide (v.choice = 1))))) (wanted_yes rfl rfl rfl) (fun hg => (op_or rfl ((show _ = vif _ (.bool (decide (v.choice = 0))) from rfl).trans (vif_t hg).symm) rfl ((show _ = vif _ _ from rfl).trans (vif_or hg)))) ?_; refine L.val rfl (op_and rfl rfl rfl rfl) ?_; refine L.val rfl (op_move rfl rfl) ?_; refine L.guardv (v := (.pointer (some ⟨b1, 2, none⟩))) (wanted_yes rfl rfl rfl) (fun hg => (op_field rfl s1 fo47_2 rfl)) ?_; refine L.guardv (v := (.int .i64 v.round)) (wanted_yes rfl rfl rfl) (fun hg => (op_load1 rfl ((show _ = vif _ (.pointer (some ⟨b1, 2, none⟩)) from rfl).trans (vif_t hg).symm) one3 (hB1.cells.one (n := 2) rfl))) ?_; refine L.guardv (v := (.bool (!decide (v.round = 1)))) (wanted_yes rfl rfl rfl) (fun hg => (op_neq rfl ((show _ = vif _ (.int .i64 v.round) from rfl).trans (vif_t hg).symm) rfl)) ?_; refine L.guardv (v := (.bool (!decide (v.round = 1)))) (wanted_yes rfl rfl rfl) (fun hg => (op_move rfl ((show _ = vif _ (.bool (!decide (v.round = 1))) from rfl).trans (vif_t hg).symm))) ?_; refine L.guardv (v := (.pointer (some ⟨b1, 3, none⟩))) (wanted_vif rfl rfl rfl) (fun hg => (op_field rfl s1 fo47_3 rfl)) ?_; refine L.guardv (v := (.int .i64 v.choice)) (wanted_vif rfl rfl rfl) (fun hg => (op_load1 rfl ((show _ = vif _ (.pointer (some ⟨b1, 3, none⟩)) from rfl).trans (vif_t hg).symm) one3 (hB1.cells.one (n := 3) rfl))) ?_; refine L.guardv (v := (.bool (!decide (v.choice = 0)))) (wanted_vif rfl rfl rfl) (fun hg => (op_neq rfl ((show _ = vif _ (.int .i64 v.choice) from rfl).trans (vif_t hg).symm) rfl)) ?_; refine L.guardv (v := (.bool ((!decide (v.round = 1)) || (!decide (v.choice = 0))))) (wanted_yes rfl rfl rfl) (fun hg => (op_or rfl ((show _ = vif _ (.bool (!decide (v.round = 1))) from rfl).trans (vif_t hg).symm) rfl ((show _ = vif _ _ from rfl).trans (vif_or hg)))) ?_; refine L.guardv (v := (.bool ((!decide (v.round = 1)) || (!decide (v.choice = 0))))) (wanted_yes rfl rfl rfl) (fun hg => (op_move rfl ((show _ = vif _ (.bool ((!decide (v.round = 1)) || (!decide (v.choice = 0)))) from rfl).trans (vif_t hg).symm))) ?_; refine L.guardv (v := (.pointer (some ⟨b1, 5, none⟩))) (wanted_vif rfl rfl rfl) (fun hg => (op_field rfl s1 fo47_5 rfl)) ?_; refine L.guardv (v := (.int .i64 v.support)) (wanted_vif rfl rfl rfl) (fun hg => (op_load1 rfl ((show _ = vif _ (.pointer (some ⟨b1, 5, none⟩)) from rfl).trans (vif_t hg).symm) one22 (hB1.cells.one (n := 5) rfl))) ?_; refine L.guardv (v := (.bool (decide (v.support = 0)))) (wanted_vif rfl rfl rfl) (fun hg => (op_eql rfl ((show _ = vif _ (.int .i64 v.support) from rfl).trans (vif_t hg).symm) rfl)) ?_; refine L.guardv (v := (.bool (((!decide (v.round = 1)) || (!decide (v.choice = 0))) || (decide (v.support = 0))))) (wanted_yes rfl rfl rfl) (fun hg => (op_or rfl ((show _ = vif _ (.bool ((!decide (v.round = 1)) || (!decide (v.choice = 0)))) from rfl).trans (vif_t hg).symm) rfl ((show _ = vif _ _ from rfl).trans (vif_or hg)))) ?_; refine L.val rfl (op_and rfl rfl rfl rfl) ?_; refine L.val rfl (op_assign rfl rfl) ?_; refine L.nil ?_; refine thenF_nor ?_; refine W.ret ?_; refine blockF_ret ?_; refine thenF_ret ?_; exact end_ret1 (v := (.bool ((((decide (1 ≤ v.round)) && (decide (v.round ≤ 12))) && ((decide (v.choice = 0)) || (decide (v.choice = 1)))) && (((!decide (v.round = 1)) || (!decide (v.choice = 0))) || (decide (v.support = 0)))))) rfl rfl ⟨by simp only [rValid_f, hc2, hc5, hc16, hc17, cond_true, cond_false], hE⟩
    ·have hp17 := hc17; simp only [Bool.and_eq_true, Bool.or_eq_true, Bool.and_eq_false_iff, Bool.or_eq_false_iff, Bool.not_eq_true', Bool.not_eq_false', decide_eq_true_eq, decide_eq_false_iff_not] at hp17; refine W.seq ?_; refine W.region (by rfl) ?_; refine L.val rfl (op_eql rfl rfl rfl) ?_; refine L.val rfl (op_assign rfl rfl) ?_; refine L.nil ?_; refine thenF_nor ?_; refine W.cond (t := decide (v.kind = 4)) rfl (fun hc18 => ?_) (fun hc18 => ?_)
     ·have hp18 := hc18; simp only [Bool.and_eq_true, Bool.or_eq_true, Bool.and_eq_false_iff, Bool.or_eq_false_iff, Bool.not_eq_true', Bool.not_eq_false', decide_eq_true_eq, decide_eq_false_iff_not] at hp18; refine W.seq ?_; refine W.region (by rfl) ?_; refine L.val rfl (op_field rfl s1 fo47_2 rfl) ?_; refine L.val rfl (op_load1 rfl rfl one3 (hB1.cells.one (n := 2) rfl)) ?_; refine L.val rfl (op_geq rfl rfl rfl) ?_; refine L.val rfl (op_move rfl rfl) ?_; refine L.guardv (v := (.pointer (some ⟨b1, 2, none⟩))) (wanted_yes rfl rfl rfl) (fun hg => (op_field rfl s1 fo47_2 rfl)) ?_; refine L.guardv (v := (.int .i64 v.round)) (wanted_yes rfl rfl rfl) (fun hg => (op_load1 rfl ((show _ = vif _ (.pointer (some ⟨b1, 2, none⟩)) from rfl).trans (vif_t hg).symm) one3 (hB1.cells.one (n := 2) rfl))) ?_; refine L.guardv (v := (.bool (decide (v.round ≤ 12)))) (wanted_yes rfl rfl rfl) (fun hg => (op_leq rfl ((show _ = vif _ (.int .i64 v.round) from rfl).trans (vif_t hg).symm) rfl)) ?_; refine L.val rfl (op_and rfl rfl rfl rfl) ?_; refine L.val rfl (op_move rfl rfl) ?_; refine L.guardv (v := (.pointer (some ⟨b1, 3, none⟩))) (wanted_yes rfl rfl rfl) (fun hg => (op_field rfl s1 fo47_3 rfl)) ?_; refine L.guardv (v := (.int .i64 v.choice)) (wanted_yes rfl rfl rfl) (fun hg => (op_load1 rfl ((show _ = vif _ (.pointer (some ⟨b1, 3, none⟩)) from rfl).trans (vif_t hg).symm) one3 (hB1.cells.one (n := 3) rfl))) ?_; refine L.guardv (v := (.bool (decide (0 ≤ v.choice)))) (wanted_yes rfl rfl rfl) (fun hg => (op_geq rfl ((show _ = vif _ (.int .i64 v.choice) from rfl).trans (vif_t hg).symm) rfl)) ?_; refine L.val rfl (op_and rfl rfl rfl rfl) ?_; refine L.val rfl (op_move rfl rfl) ?_; refine L.guardv (v := (.pointer (some ⟨b1, 3, none⟩))) (wanted_yes rfl rfl rfl) (fun hg => (op_field rfl s1 fo47_3 rfl)) ?_; refine L.guardv (v := (.int .i64 v.choice)) (wanted_yes rfl rfl rfl) (fun hg => (op_load1 rfl ((show _ = vif _ (.pointer (some ⟨b1, 3, none⟩)) from rfl).trans (vif_t hg).symm) one3 (hB1.cells.one (n := 3) rfl))) ?_; refine L.guardv (v := (.bool (decide (v.choice ≤ 2)))) (wanted_yes rfl rfl rfl) (fun hg => (op_leq rfl ((show _ = vif _ (.int .i64 v.choice) from rfl).trans (vif_t hg).symm) rfl)) ?_; refine L.val rfl (op_and rfl rfl rfl rfl) ?_; refine L.val rfl (op_assign rfl rfl) ?_; refine L.nil ?_; refine thenF_nor ?_; refine W.ret ?_; refine blockF_ret ?_; refine thenF_ret ?_; exact end_ret1 (v := (.bool ((((decide (1 ≤ v.round)) && (decide (v.round ≤ 12))) && (decide (0 ≤ v.choice))) && (decide (v.choice ≤ 2))))) rfl rfl ⟨by simp only [rValid_f, hc2, hc5, hc16, hc17, hc18, cond_true, cond_false], hE⟩
     ·have hp18 := hc18; simp only [Bool.and_eq_true, Bool.or_eq_true, Bool.and_eq_false_iff, Bool.or_eq_false_iff, Bool.not_eq_true', Bool.not_eq_false', decide_eq_true_eq, decide_eq_false_iff_not] at hp18; refine W.skip ?_; refine blockF_nor ?_; refine thenF_nor ?_; refine W.seq ?_; refine W.region (by rfl) ?_; refine L.val rfl (op_field rfl s1 fo47_2 rfl) ?_; refine L.val rfl (op_load1 rfl rfl one3 (hB1.cells.one (n := 2) rfl)) ?_; refine L.val rfl (op_eql rfl rfl rfl) ?_; refine L.val rfl (op_move rfl rfl) ?_; refine L.guardv (v := (.pointer (some ⟨b1, 3, none⟩))) (wanted_yes rfl rfl rfl) (fun hg => (op_field rfl s1 fo47_3 rfl)) ?_; refine L.guardv (v := (.int .i64 v.choice)) (wanted_yes rfl rfl rfl) (fun hg => (op_load1 rfl ((show _ = vif _ (.pointer (some ⟨b1, 3, none⟩)) from rfl).trans (vif_t hg).symm) one3 (hB1.cells.one (n := 3) rfl))) ?_; refine L.guardv (v := (.bool (decide (v.choice = 1)))) (wanted_yes rfl rfl rfl) (fun hg => (op_eql rfl ((show _ = vif _ (.int .i64 v.choice) from rfl).trans (vif_t hg).symm) rfl)) ?_; refine L.val rfl (op_and rfl rfl rfl rfl) ?_; refine L.val rfl (op_move rfl rfl) ?_; refine L.guardv (v := (.pointer (some ⟨b1, 5, none⟩))) (wanted_yes rfl rfl rfl) (fun hg => (op_field rfl s1 fo47_5 rfl)) ?_; refine L.guardv (v := (.int .i64 v.support)) (wanted_yes rfl rfl rfl) (fun hg => (op_load1 rfl ((show _ = vif _ (.pointer (some ⟨b1, 5, none⟩)) from rfl).trans (vif_t hg).symm) one22 (hB1.cells.one (n := 5) rfl))) ?_; refine L.guardv (v := (.bool (decide (v.support = 0)))) (wanted_yes rfl rfl rfl) (fun hg => (op_eql rfl ((show _ = vif _ (.int .i64 v.support) from rfl).trans (vif_t hg).symm) rfl)) ?_; refine L.val rfl (op_and rfl rfl rfl rfl) ?_; refine L.val rfl (op_assign rfl rfl) ?_; refine L.nil ?_; refine thenF_nor ?_; refine W.ret ?_; exact end_ret1 (v := (.bool (((decide (v.round = 0)) && (decide (v.choice = 1))) && (decide (v.support = 0))))) rfl rfl ⟨by simp only [rValid_f, hc2, hc5, hc16, hc17, hc18, cond_false], hE⟩
def rNumber_f (n : Nm) : Int := bits .or .u64 (IntKind.u64.wrap ((bits .or .u64 (IntKind.u64.wrap ((bits .or .u64 (IntKind.u64.wrap ((bits .or .u64 (IntKind.u64.wrap ((bits .or .u64 (IntKind.u64.wrap ((bits .or .u64 (IntKind.u64.wrap ((bits .or .u64 (IntKind.u64.wrap ((bits .or .u64 (IntKind.u64.wrap (0 * 2 ^ (8 : Int).toNat)) (IntKind.u64.wrap ((n.n0).toNat : Int))) * 2 ^ (8 : Int).toNat)) (IntKind.u64.wrap ((n.n1).toNat : Int))) * 2 ^ (8 : Int).toNat)) (IntKind.u64.wrap ((n.n2).toNat : Int))) * 2 ^ (8 : Int).toNat)) (IntKind.u64.wrap ((n.n3).toNat : Int))) * 2 ^ (8 : Int).toNat)) (IntKind.u64.wrap ((n.n4).toNat : Int))) * 2 ^ (8 : Int).toNat)) (IntKind.u64.wrap ((n.n5).toNat : Int))) * 2 ^ (8 : Int).toNat)) (IntKind.u64.wrap ((n.n6).toNat : Int))) * 2 ^ (8 : Int).toNat)) (IntKind.u64.wrap ((n.n7).toNat : Int))
set_option maxRecDepth 100000 in
theorem rNumber_ok {n : Nm}  {w : World}  : Gives Tryz.prog 145 #[(Enc.val (n : Nm))] w fun u w' => u = (.int .u64 (rNumber_f n)) ∧ Ext w w' := by
 have hE : Ext w w := Ext.refl w; refine gives_of_W Tryz.func145 rfl Tryz.ntmps145 rfl ?_; refine W.seq ?_; refine W.region (by rfl) ?_; refine L.step rfl (op_box (cs := (Enc.cells (n : Nm))) rfl rfl rfl) ?_; rintro _ w1 ⟨b1, rfl, hb1, hB1, hx1⟩; have hE := hE.trans hx1; refine L.val rfl (op_assign rfl rfl) ?_; refine L.nil ?_; refine thenF_nor ?_; refine W.seq ?_; refine W.region (by rfl) ?_; refine L.val rfl (op_assign rfl rfl) ?_; refine L.nil ?_; refine thenF_nor ?_; refine W.seq ?_; refine W.seq ?_; refine W.region (by rfl) ?_; refine L.val rfl (op_assign rfl rfl) ?_; refine L.nil ?_; refine thenF_nor ?_; refine W.block ?_; refine W.unroll 9 ?_; refine Unr.step ?_; refine W.seq ?_; refine W.seq ?_; refine W.region (by rfl) ?_; refine L.val rfl (op_move rfl rfl) ?_; refine L.val (v := (.bool true)) rfl (op_lss (a := 0) (b := 8) rfl rfl rfl) ?_; refine L.nil ?_; refine thenF_nor ?_; refine W.cond (t := true) rfl (fun _ => ?_) (fun h => nomatch h); refine W.skip ?_; refine thenF_nor ?_; refine W.seq ?_; refine W.block ?_; refine W.region (by rfl) ?_; refine L.val rfl (op_move rfl rfl) ?_; refine L.val rfl (op_ushl rfl rfl rfl (by decide) (by decide)) ?_; refine L.val rfl (op_move rfl rfl) ?_; refine L.val rfl (op_elemAddr (k := 0) rfl rfl rfl Tryz.underlying24 si5 (by decide) rfl) ?_; refine L.val rfl (op_load1 rfl rfl one5 (hB1.cells.one (n := 0) rfl)) ?_; refine L.val rfl (op_conv rfl rfl (by kernel_rfl) Tryz.underlying54) ?_; refine L.val rfl (op_uor rfl rfl rfl) ?_; refine L.val rfl (op_assign rfl rfl) ?_; refine L.nil ?_; refine blockF_nor ?_; refine thenF_nor ?_; refine W.region (by rfl) ?_; refine L.val rfl (op_move rfl rfl) ?_; refine L.val rfl (op_add (c := 1) rfl rfl rfl (by decide) (by decide)) ?_; refine L.val rfl (op_assign rfl rfl) ?_; refine L.nil ?_; refine thenF_nor ?_; refine Unr.step ?_; refine W.seq ?_; refine W.seq ?_; refine W.region (by rfl) ?_; refine L.val rfl (op_move rfl rfl) ?_; refine L.val (v := (.bool true)) rfl (op_lss (a := 1) (b := 8) rfl rfl rfl) ?_; refine L.nil ?_; refine thenF_nor ?_; refine W.cond (t := true) rfl (fun _ => ?_) (fun h => nomatch h); refine W.skip ?_; refine thenF_nor ?_; refine W.seq ?_; refine W.block ?_; refine W.region (by rfl) ?_; refine L.val rfl (op_move rfl rfl) ?_; refine L.val rfl (op_ushl rfl rfl rfl (by decide) (by decide)) ?_; refine L.val rfl (op_move rfl rfl) ?_; refine L.val rfl (op_elemAddr (k := 1) rfl rfl rfl Tryz.underlying24 si5 (by decide) rfl) ?_; refine L.val rfl (op_load1 rfl rfl one5 (hB1.cells.one (n := 1) rfl)) ?_; refine L.val rfl (op_conv rfl rfl (by kernel_rfl) Tryz.underlying54) ?_; refine L.val rfl (op_uor rfl rfl rfl) ?_; refine L.val rfl (op_assign rfl rfl) ?_; refine L.nil ?_; refine blockF_nor ?_; refine thenF_nor ?_; refine W.region (by rfl) ?_; refine L.val rfl (op_move rfl rfl) ?_; refine L.val rfl (op_add (c := 2) rfl rfl rfl (by decide) (by decide)) ?_; refine L.val rfl (op_assign rfl rfl) ?_; refine L.nil ?_; refine thenF_nor ?_; refine Unr.step ?_; refine W.seq ?_; refine W.seq ?_; refine W.region (by rfl) ?_; refine L.val rfl (op_move rfl rfl) ?_; refine L.val (v := (.bool true)) rfl (op_lss (a := 2) (b := 8) rfl rfl rfl) ?_; refine L.nil ?_; refine thenF_nor ?_; refine W.cond (t := true) rfl (fun _ => ?_) (fun h => nomatch h); refine W.skip ?_; refine thenF_nor ?_; refine W.seq ?_; refine W.block ?_; refine W.region (by rfl) ?_; refine L.val rfl (op_move rfl rfl) ?_; refine L.val rfl (op_ushl rfl rfl rfl (by decide) (by decide)) ?_; refine L.val rfl (op_move rfl rfl) ?_; refine L.val rfl (op_elemAddr (k := 2) rfl rfl rfl Tryz.underlying24 si5 (by decide) rfl) ?_; refine L.val rfl (op_load1 rfl rfl one5 (hB1.cells.one (n := 2) rfl)) ?_; refine L.val rfl (op_conv rfl rfl (by kernel_rfl) Tryz.underlying54) ?_; refine L.val rfl (op_uor rfl rfl rfl) ?_; refine L.val rfl (op_assign rfl rfl) ?_; refine L.nil ?_; refine blockF_nor ?_; refine thenF_nor ?_; refine W.region (by rfl) ?_; refine L.val rfl (op_move rfl rfl) ?_; refine L.val rfl (op_add (c := 3) rfl rfl rfl (by decide) (by decide)) ?_; refine L.val rfl (op_assign rfl rfl) ?_; refine L.nil ?_; refine thenF_nor ?_; refine Unr.step ?_; refine W.seq ?_; refine W.seq ?_; refine W.region (by rfl) ?_; refine L.val rfl (op_move rfl rfl) ?_; refine L.val (v := (.bool true)) rfl (op_lss (a := 3) (b := 8) rfl rfl rfl) ?_; refine L.nil ?_; refine thenF_nor ?_; refine W.cond (t := true) rfl (fun _ => ?_) (fun h => nomatch h); refine W.skip ?_; refine thenF_nor ?_; refine W.seq ?_; refine W.block ?_; refine W.region (by rfl) ?_; refine L.val rfl (op_move rfl rfl) ?_; refine L.val rfl (op_ushl rfl rfl rfl (by decide) (by decide)) ?_; refine L.val rfl (op_move rfl rfl) ?_; refine L.val rfl (op_elemAddr (k := 3) rfl rfl rfl Tryz.underlying24 si5 (by decide) rfl) ?_; refine L.val rfl (op_load1 rfl rfl one5 (hB1.cells.one (n := 3) rfl)) ?_; refine L.val rfl (op_conv rfl rfl (by kernel_rfl) Tryz.underlying54) ?_; refine L.val rfl (op_uor rfl rfl rfl) ?_; refine L.val rfl (op_assign rfl rfl) ?_; refine L.nil ?_; refine blockF_nor ?_; refine thenF_nor ?_; refine W.region (by rfl) ?_; refine L.val rfl (op_move rfl rfl) ?_; refine L.val rfl (op_add (c := 4) rfl rfl rfl (by decide) (by decide)) ?_; refine L.val rfl (op_assign rfl rfl) ?_; refine L.nil ?_; refine thenF_nor ?_; refine Unr.step ?_; refine W.seq ?_; refine W.seq ?_; refine W.region (by rfl) ?_; refine L.val rfl (op_move rfl rfl) ?_; refine L.val (v := (.bool true)) rfl (op_lss (a := 4) (b := 8) rfl rfl rfl) ?_; refine L.nil ?_; refine thenF_nor ?_; refine W.cond (t := true) rfl (fun _ => ?_) (fun h => nomatch h); refine W.skip ?_; refine thenF_nor ?_; refine W.seq ?_; refine W.block ?_; refine W.region (by rfl) ?_; refine L.val rfl (op_move rfl rfl) ?_; refine L.val rfl (op_ushl rfl rfl rfl (by decide) (by decide)) ?_; refine L.val rfl (op_move rfl rfl) ?_; refine L.val rfl (op_elemAddr (k := 4) rfl rfl rfl Tryz.underlying24 si5 (by decide) rfl) ?_; refine L.val rfl (op_load1 rfl rfl one5 (hB1.cells.one (n := 4) rfl)) ?_; refine L.val rfl (op_conv rfl rfl (by kernel_rfl) Tryz.underlying54) ?_; refine L.val rfl (op_uor rfl rfl rfl) ?_; refine L.val rfl (op_assign rfl rfl) ?_; refine L.nil ?_; refine blockF_nor ?_; refine thenF_nor ?_; refine W.region (by rfl) ?_; refine L.val rfl (op_move rfl rfl) ?_; refine L.val rfl (op_add (c := 5) rfl rfl rfl (by decide) (by decide)) ?_; refine L.val rfl (op_assign rfl rfl) ?_; refine L.nil ?_; refine thenF_nor ?_; refine Unr.step ?_; refine W.seq ?_; refine W.seq ?_; refine W.region (by rfl) ?_; refine L.val rfl (op_move rfl rfl) ?_; refine L.val (v := (.bool true)) rfl (op_lss (a := 5) (b := 8) rfl rfl rfl) ?_; refine L.nil ?_; refine thenF_nor ?_; refine W.cond (t := true) rfl (fun _ => ?_) (fun h => nomatch h); refine W.skip ?_; refine thenF_nor ?_; refine W.seq ?_; refine W.block ?_; refine W.region (by rfl) ?_; refine L.val rfl (op_move rfl rfl) ?_; refine L.val rfl (op_ushl rfl rfl rfl (by decide) (by decide)) ?_; refine L.val rfl (op_move rfl rfl) ?_; refine L.val rfl (op_elemAddr (k := 5) rfl rfl rfl Tryz.underlying24 si5 (by decide) rfl) ?_; refine L.val rfl (op_load1 rfl rfl one5 (hB1.cells.one (n := 5) rfl)) ?_; refine L.val rfl (op_conv rfl rfl (by kernel_rfl) Tryz.underlying54) ?_; refine L.val rfl (op_uor rfl rfl rfl) ?_; refine L.val rfl (op_assign rfl rfl) ?_; refine L.nil ?_; refine blockF_nor ?_; refine thenF_nor ?_; refine W.region (by rfl) ?_; refine L.val rfl (op_move rfl rfl) ?_; refine L.val rfl (op_add (c := 6) rfl rfl rfl (by decide) (by decide)) ?_; refine L.val rfl (op_assign rfl rfl) ?_; refine L.nil ?_; refine thenF_nor ?_; refine Unr.step ?_; refine W.seq ?_; refine W.seq ?_; refine W.region (by rfl) ?_; refine L.val rfl (op_move rfl rfl) ?_; refine L.val (v := (.bool true)) rfl (op_lss (a := 6) (b := 8) rfl rfl rfl) ?_; refine L.nil ?_; refine thenF_nor ?_; refine W.cond (t := true) rfl (fun _ => ?_) (fun h => nomatch h); refine W.skip ?_; refine thenF_nor ?_; refine W.seq ?_; refine W.block ?_; refine W.region (by rfl) ?_; refine L.val rfl (op_move rfl rfl) ?_; refine L.val rfl (op_ushl rfl rfl rfl (by decide) (by decide)) ?_; refine L.val rfl (op_move rfl rfl) ?_; refine L.val rfl (op_elemAddr (k := 6) rfl rfl rfl Tryz.underlying24 si5 (by decide) rfl) ?_; refine L.val rfl (op_load1 rfl rfl one5 (hB1.cells.one (n := 6) rfl)) ?_; refine L.val rfl (op_conv rfl rfl (by kernel_rfl) Tryz.underlying54) ?_; refine L.val rfl (op_uor rfl rfl rfl) ?_; refine L.val rfl (op_assign rfl rfl) ?_; refine L.nil ?_; refine blockF_nor ?_; refine thenF_nor ?_; refine W.region (by rfl) ?_; refine L.val rfl (op_move rfl rfl) ?_; refine L.val rfl (op_add (c := 7) rfl rfl rfl (by decide) (by decide)) ?_; refine L.val rfl (op_assign rfl rfl) ?_; refine L.nil ?_; refine thenF_nor ?_; refine Unr.step ?_; refine W.seq ?_; refine W.seq ?_; refine W.region (by rfl) ?_; refine L.val rfl (op_move rfl rfl) ?_; refine L.val (v := (.bool true)) rfl (op_lss (a := 7) (b := 8) rfl rfl rfl) ?_; refine L.nil ?_; refine thenF_nor ?_; refine W.cond (t := true) rfl (fun _ => ?_) (fun h => nomatch h); refine W.skip ?_; refine thenF_nor ?_; refine W.seq ?_; refine W.block ?_; refine W.region (by rfl) ?_; refine L.val rfl (op_move rfl rfl) ?_; refine L.val rfl (op_ushl rfl rfl rfl (by decide) (by decide)) ?_; refine L.val rfl (op_move rfl rfl) ?_; refine L.val rfl (op_elemAddr (k := 7) rfl rfl rfl Tryz.underlying24 si5 (by decide) rfl) ?_; refine L.val rfl (op_load1 rfl rfl one5 (hB1.cells.one (n := 7) rfl)) ?_; refine L.val rfl (op_conv rfl rfl (by kernel_rfl) Tryz.underlying54) ?_; refine L.val rfl (op_uor rfl rfl rfl) ?_; refine L.val rfl (op_assign rfl rfl) ?_; refine L.nil ?_; refine blockF_nor ?_; refine thenF_nor ?_; refine W.region (by rfl) ?_; refine L.val rfl (op_move rfl rfl) ?_; refine L.val rfl (op_add (c := 8) rfl rfl rfl (by decide) (by decide)) ?_; refine L.val rfl (op_assign rfl rfl) ?_; refine L.nil ?_; refine thenF_nor ?_; refine Unr.step ?_; refine W.seq ?_; refine W.seq ?_; refine W.region (by rfl) ?_; refine L.val rfl (op_move rfl rfl) ?_; refine L.val (v := (.bool false)) rfl (op_lss (a := 8) (b := 8) rfl rfl rfl) ?_; refine L.nil ?_; refine thenF_nor ?_; refine W.cond (t := false) rfl (fun h => nomatch h) (fun _ => ?_); refine W.exit ?_; refine thenF_exit ?_; refine thenF_exit ?_; refine blockF_hit ?_; refine thenF_nor ?_; refine W.seq ?_; refine W.region (by rfl) ?_; refine L.val rfl (op_move rfl rfl) ?_; refine L.val rfl (op_assign rfl rfl) ?_; refine L.nil ?_; refine thenF_nor ?_; refine W.ret ?_; exact end_ret1 (v := (.int .u64 (bits .or .u64 (IntKind.u64.wrap ((bits .or .u64 (IntKind.u64.wrap ((bits .or .u64 (IntKind.u64.wrap ((bits .or .u64 (IntKind.u64.wrap ((bits .or .u64 (IntKind.u64.wrap ((bits .or .u64 (IntKind.u64.wrap ((bits .or .u64 (IntKind.u64.wrap ((bits .or .u64 (IntKind.u64.wrap (0 * 2 ^ (8 : Int).toNat)) (IntKind.u64.wrap ((n.n0).toNat : Int))) * 2 ^ (8 : Int).toNat)) (IntKind.u64.wrap ((n.n1).toNat : Int))) * 2 ^ (8 : Int).toNat)) (IntKind.u64.wrap ((n.n2).toNat : Int))) * 2 ^ (8 : Int).toNat)) (IntKind.u64.wrap ((n.n3).toNat : Int))) * 2 ^ (8 : Int).toNat)) (IntKind.u64.wrap ((n.n4).toNat : Int))) * 2 ^ (8 : Int).toNat)) (IntKind.u64.wrap ((n.n5).toNat : Int))) * 2 ^ (8 : Int).toNat)) (IntKind.u64.wrap ((n.n6).toNat : Int))) * 2 ^ (8 : Int).toNat)) (IntKind.u64.wrap ((n.n7).toNat : Int))))) rfl rfl ⟨by simp only [rNumber_f], hE⟩
def rNmLess_f (a : Nm) (b : Nm) : Bool := decide ((rNumber_f a) < (rNumber_f b))
set_option maxRecDepth 100000 in
theorem rNmLess_ok {a : Nm} {b : Nm}  {w : World}  : Gives Tryz.prog 95 #[(Enc.val (a : Nm)), (Enc.val (b : Nm))] w fun u w' => u = (.bool (rNmLess_f a b)) ∧ Ext w w' := by
 have hE : Ext w w := Ext.refl w; refine gives_of_W Tryz.func95 rfl Tryz.ntmps95 rfl ?_; refine W.seq ?_; refine W.region (by rfl) ?_; refine L.step rfl (op_box (cs := (Enc.cells (a : Nm))) rfl rfl rfl) ?_; rintro _ w1 ⟨b1, rfl, hb1, hB1, hx1⟩; have hE := hE.trans hx1; refine L.step rfl (op_box (cs := (Enc.cells (b : Nm))) rfl rfl rfl) ?_; rintro _ w2 ⟨b2, rfl, hb2, hB2, hx2⟩; have hE := hE.trans hx2; have hB1 := hB1.ext hx2; refine L.val (v := (.bool false)) rfl (op_assign rfl rfl) ?_; refine L.nil ?_; refine thenF_nor ?_; refine W.seq ?_; refine W.drawS [Sp.eq (Enc.val (a : Nm)), Sp.eq (.int .u64 (rNumber_f a)), Sp.eq (Enc.val (b : Nm)), Sp.eq (.int .u64 (rNumber_f b)), Sp.eq (.bool (decide ((rNumber_f a) < (rNumber_f b)))), Sp.eq (.bool (decide ((rNumber_f a) < (rNumber_f b))))] mixed (by rfl) (Obls.cons ?_ (Obls.cons ?_ (Obls.cons ?_ (Obls.cons ?_ (Obls.cons ?_ (Obls.cons ?_ Obls.nil)))))) ?_
 ·intro f4 w4 hx4 ho4 hd4; have d4_s2 : f4 2 = (.pointer (some ⟨b1, 0, none⟩)) := ho4 2 rfl; have hB1 := hB1.ext hx4; exact D.val rfl (op_load (v := (a : Nm)) rfl d4_s2 ty24 hB1.cells)
 ·intro f5 w5 hx5 ho5 hd5; have d5_0 : f5 5 = (Enc.val (a : Nm)) := hd5 0 rfl; exact D.call (R := (Sp.eq (.int .u64 (rNumber_f a))).p) rfl (OpS.call (op_call rfl (argsC d5_0 argsN) Tryz.func145 rfl rfl) rNumber_ok)
 ·intro f6 w6 hx6 ho6 hd6; have d6_s3 : f6 3 = (.pointer (some ⟨b2, 0, none⟩)) := ho6 3 rfl; have hB2 := hB2.ext hx6; exact D.val rfl (op_load (v := (b : Nm)) rfl d6_s3 ty24 hB2.cells)
 ·intro f7 w7 hx7 ho7 hd7; have d7_2 : f7 7 = (Enc.val (b : Nm)) := hd7 2 rfl; exact D.call (R := (Sp.eq (.int .u64 (rNumber_f b))).p) rfl (OpS.call (op_call rfl (argsC d7_2 argsN) Tryz.func145 rfl rfl) rNumber_ok)
 ·intro f8 w8 hx8 ho8 hd8; have d8_1 : f8 6 = (.int .u64 (rNumber_f a)) := hd8 1 rfl; have d8_3 : f8 8 = (.int .u64 (rNumber_f b)) := hd8 3 rfl; exact D.val rfl (op_lss rfl d8_1 d8_3)
 ·intro f9 w9 hx9 ho9 hd9; have d9_4 : f9 9 = (.bool (decide ((rNumber_f a) < (rNumber_f b)))) := hd9 4 rfl; exact D.val rfl (op_assign rfl d9_4)
 intro f10 w10 hx10 ho10 hr10; have s4 : f10 4 = (.bool (decide ((rNumber_f a) < (rNumber_f b)))) := hr10 5 (by decide); have hE := hE.trans hx10; refine thenF_nor ?_; refine W.ret ?_; exact end_ret1 (v := (.bool (decide ((rNumber_f a) < (rNumber_f b))))) rfl s4 ⟨by simp only [rNmLess_f], hE⟩
def rVtLess_f (a : Vt) (b : Vt) : Bool := bif !decide (a.parent = b.parent) then rNmLess_f a.parent b.parent else (bif !decide (a.slot = b.slot) then decide (a.slot < b.slot) else (bif !decide (a.round = b.round) then decide (a.round < b.round) else (bif !decide (a.kind = b.kind) then decide (a.kind < b.kind) else (bif !decide (a.signer = b.signer) then decide (a.signer < b.signer) else (bif !decide (a.choice = b.choice) then decide (a.choice < b.choice) else (bif !decide (a.value = b.value) then rNmLess_f a.value b.value else decide (a.support < b.support)))))))
set_option maxRecDepth 100000 in
set_option maxHeartbeats 8000000 in
theorem rVtLess_ok {a : Vt} {b : Vt}  {w : World}  : Gives Tryz.prog 99 #[(Enc.val (a : Vt)), (Enc.val (b : Vt))] w fun u w' => u = (.bool (rVtLess_f a b)) ∧ Ext w w' := by
 have hE : Ext w w := Ext.refl w; refine gives_of_W Tryz.func99 rfl Tryz.ntmps99 rfl ?_; refine W.seq ?_; refine W.region (by rfl) ?_; refine L.step rfl (op_box (cs := (Enc.cells (a : Vt))) rfl rfl rfl) ?_; rintro _ w1 ⟨b1, rfl, hb1, hB1, hx1⟩; have hE := hE.trans hx1; refine L.step rfl (op_box (cs := (Enc.cells (b : Vt))) rfl rfl rfl) ?_; rintro _ w2 ⟨b2, rfl, hb2, hB2, hx2⟩; have hE := hE.trans hx2; have hB1 := hB1.ext hx2; refine L.val (v := (.bool false)) rfl (op_assign rfl rfl) ?_; refine L.nil ?_; refine thenF_nor ?_; refine W.seq ?_; refine W.seq ?_; refine W.region (by rfl) ?_; refine L.val rfl (op_field rfl rfl fo47_6 rfl) ?_; refine L.val rfl (op_load (v := (a.parent : Nm)) rfl rfl ty24 (sub_nm 6 hB1.cells rfl)) ?_; refine L.val rfl (op_field rfl rfl fo47_6 rfl) ?_; refine L.val rfl (op_load (v := (b.parent : Nm)) rfl rfl ty24 (sub_nm 6 hB2.cells rfl)) ?_; refine L.val rfl (op_neqe (a := (a.parent : Nm)) (b := (b.parent : Nm)) rfl rfl rfl eq24 (fun _ => ⟨_, rfl⟩) Tryz.eqGuardType24) ?_; refine L.nil ?_; refine thenF_nor ?_; refine W.cond (t := !decide (a.parent = b.parent)) rfl (fun hc3 => ?_) (fun hc3 => ?_)
 ·have hp3 := hc3; simp only [Bool.and_eq_true, Bool.or_eq_true, Bool.and_eq_false_iff, Bool.or_eq_false_iff, Bool.not_eq_true', Bool.not_eq_false', decide_eq_true_eq, decide_eq_false_iff_not] at hp3; refine W.seq ?_; refine W.region (by rfl) ?_; refine L.val rfl (op_field rfl rfl fo47_6 rfl) ?_; refine L.val rfl (op_load (v := (a.parent : Nm)) rfl rfl ty24 (sub_nm 6 hB1.cells rfl)) ?_; refine L.val rfl (op_field rfl rfl fo47_6 rfl) ?_; refine L.val rfl (op_load (v := (b.parent : Nm)) rfl rfl ty24 (sub_nm 6 hB2.cells rfl)) ?_; refine L.call (v := (.bool (rNmLess_f a.parent b.parent))) rfl (OpS.call (op_call rfl (argsC rfl (argsC rfl argsN)) Tryz.func95 rfl rfl) rNmLess_ok) ?_; intro w4 hx4; have hE := hE.trans hx4; refine L.val rfl (op_assign rfl rfl) ?_; refine L.nil ?_; refine thenF_nor ?_; refine W.ret ?_; refine thenF_ret ?_; exact end_ret1 (v := (.bool (rNmLess_f a.parent b.parent))) rfl rfl ⟨by simp only [rVtLess_f, hc3, cond_true], hE⟩
 ·have hp3 := hc3; simp only [Bool.and_eq_true, Bool.or_eq_true, Bool.and_eq_false_iff, Bool.or_eq_false_iff, Bool.not_eq_true', Bool.not_eq_false', decide_eq_true_eq, decide_eq_false_iff_not] at hp3; refine W.skip ?_; refine thenF_nor ?_; refine W.seq ?_; refine W.region (by rfl) ?_; refine L.val rfl (op_field rfl rfl fo47_1 rfl) ?_; refine L.val rfl (op_load1 rfl rfl one3 (hB1.cells.one (n := 1) rfl)) ?_; refine L.val rfl (op_field rfl rfl fo47_2 rfl) ?_; refine L.val rfl (op_load1 rfl rfl one3 (hB1.cells.one (n := 2) rfl)) ?_; refine L.val rfl (op_field rfl rfl fo47_0 rfl) ?_; refine L.val rfl (op_load1 rfl rfl one3 (hB1.cells.one (n := 0) rfl)) ?_; refine L.val rfl (op_field rfl rfl fo47_4 rfl) ?_; refine L.val rfl (op_load1 rfl rfl one3 (hB1.cells.one (n := 4) rfl)) ?_; refine L.val rfl (op_field rfl rfl fo47_3 rfl) ?_; refine L.val rfl (op_load1 rfl rfl one3 (hB1.cells.one (n := 3) rfl)) ?_; refine L.val rfl (op_build (v := (.agg #[(.int .i64 a.slot), (.int .i64 a.round), (.int .i64 a.kind), (.int .i64 a.signer), (.int .i64 a.choice)])) (cs := [(.int .i64 a.slot), (.int .i64 a.round), (.int .i64 a.kind), (.int .i64 a.signer), (.int .i64 a.choice)]) rfl (partsC rfl (partsC rfl (partsC rfl (partsC rfl (partsC rfl partsN))))) (by kernel_rfl) rfl) ?_; refine L.newvar (v := (.agg #[(.int .i64 a.slot), (.int .i64 a.round), (.int .i64 a.kind), (.int .i64 a.signer), (.int .i64 a.choice)])) (cs := [(.int .i64 a.slot), (.int .i64 a.round), (.int .i64 a.kind), (.int .i64 a.signer), (.int .i64 a.choice)]) rfl rfl rfl rfl rfl rfl (fun _ => rfl) rfl si129 zs129 (by intro u hu; simp at hu; rcases hu with rfl | rfl | rfl | rfl | rfl <;> rfl) ?_; intro b5 w5 hb5 hB5 hx5; have hbb5_hE := Nat.le_trans hE.size hb5; have hE := hE.trans hx5; have hB1 := hB1.ext hx5; have hB2 := hB2.ext hx5; refine L.nil ?_; refine thenF_nor ?_; refine W.seq ?_; refine W.region (by rfl) ?_; refine L.val rfl (op_field rfl rfl fo47_1 rfl) ?_; refine L.val rfl (op_load1 rfl rfl one3 (hB2.cells.one (n := 1) rfl)) ?_; refine L.val rfl (op_field rfl rfl fo47_2 rfl) ?_; refine L.val rfl (op_load1 rfl rfl one3 (hB2.cells.one (n := 2) rfl)) ?_; refine L.val rfl (op_field rfl rfl fo47_0 rfl) ?_; refine L.val rfl (op_load1 rfl rfl one3 (hB2.cells.one (n := 0) rfl)) ?_; refine L.val rfl (op_field rfl rfl fo47_4 rfl) ?_; refine L.val rfl (op_load1 rfl rfl one3 (hB2.cells.one (n := 4) rfl)) ?_; refine L.val rfl (op_field rfl rfl fo47_3 rfl) ?_; refine L.val rfl (op_load1 rfl rfl one3 (hB2.cells.one (n := 3) rfl)) ?_; refine L.val rfl (op_build (v := (.agg #[(.int .i64 b.slot), (.int .i64 b.round), (.int .i64 b.kind), (.int .i64 b.signer), (.int .i64 b.choice)])) (cs := [(.int .i64 b.slot), (.int .i64 b.round), (.int .i64 b.kind), (.int .i64 b.signer), (.int .i64 b.choice)]) rfl (partsC rfl (partsC rfl (partsC rfl (partsC rfl (partsC rfl partsN))))) (by kernel_rfl) rfl) ?_; refine L.newvar (v := (.agg #[(.int .i64 b.slot), (.int .i64 b.round), (.int .i64 b.kind), (.int .i64 b.signer), (.int .i64 b.choice)])) (cs := [(.int .i64 b.slot), (.int .i64 b.round), (.int .i64 b.kind), (.int .i64 b.signer), (.int .i64 b.choice)]) rfl rfl rfl rfl rfl rfl (fun _ => rfl) rfl si129 zs129 (by intro u hu; simp at hu; rcases hu with rfl | rfl | rfl | rfl | rfl <;> rfl) ?_; intro b6 w6 hb6 hB6 hx6; have hbb6_hE := Nat.le_trans hE.size hb6; have hE := hE.trans hx6; have hB1 := hB1.ext hx6; have hB2 := hB2.ext hx6; have hB5 := hB5.ext hx6; refine L.nil ?_; refine thenF_nor ?_; refine W.seq ?_; refine W.seq ?_; refine W.region (by rfl) ?_; refine L.val rfl (op_assign rfl rfl) ?_; refine L.nil ?_; refine thenF_nor ?_; refine W.block ?_; refine W.unroll 6 ?_; refine Unr.step ?_; refine W.seq ?_; refine W.seq ?_; refine W.region (by rfl) ?_; refine L.val rfl (op_move rfl rfl) ?_; refine L.val (v := (.bool true)) rfl (op_lss (a := 0) (b := 5) rfl rfl rfl) ?_; refine L.nil ?_; refine thenF_nor ?_; refine W.cond (t := true) rfl (fun _ => ?_) (fun h => nomatch h); refine W.skip ?_; refine thenF_nor ?_; refine W.seq ?_; refine W.block ?_; refine W.seq ?_; refine W.drawS [Sp.eq (.int .i64 0), Sp.eq (.pointer (some ⟨b5, 0, none⟩)), Sp.eq (.int .i64 a.slot), Sp.eq (.int .i64 0), Sp.eq (.pointer (some ⟨b6, 0, none⟩)), Sp.eq (.int .i64 b.slot), Sp.eq (.bool (!decide (a.slot = b.slot)))] mixed (by rfl) (Obls.cons ?_ (Obls.cons ?_ (Obls.cons ?_ (Obls.cons ?_ (Obls.cons ?_ (Obls.cons ?_ (Obls.cons ?_ Obls.nil))))))) ?_
  ·intro f8 w8 hx8 ho8 hd8; have d8_s7 : f8 7 = (.int .i64 0) := ho8 7 rfl; exact D.val rfl (op_move rfl d8_s7)
  ·intro f9 w9 hx9 ho9 hd9; have d9_s5 : f9 5 = (.pointer (some ⟨b5, 0, none⟩)) := ho9 5 rfl; have d9_0 : f9 44 = (.int .i64 0) := hd9 0 rfl; exact D.val rfl (op_elemAddr (k := 0) rfl d9_s5 d9_0 Tryz.underlying129 si3 (by decide) rfl)
  ·intro f10 w10 hx10 ho10 hd10; have d10_1 : f10 45 = (.pointer (some ⟨b5, 0, none⟩)) := hd10 1 rfl; have hB5 := hB5.ext hx10; exact D.val rfl (op_load1 rfl d10_1 one3 (hB5.cells.one (n := 0) rfl))
  ·intro f11 w11 hx11 ho11 hd11; have d11_s7 : f11 7 = (.int .i64 0) := ho11 7 rfl; exact D.val rfl (op_move rfl d11_s7)
  ·intro f12 w12 hx12 ho12 hd12; have d12_s6 : f12 6 = (.pointer (some ⟨b6, 0, none⟩)) := ho12 6 rfl; have d12_3 : f12 47 = (.int .i64 0) := hd12 3 rfl; exact D.val rfl (op_elemAddr (k := 0) rfl d12_s6 d12_3 Tryz.underlying129 si3 (by decide) rfl)
  ·intro f13 w13 hx13 ho13 hd13; have d13_4 : f13 48 = (.pointer (some ⟨b6, 0, none⟩)) := hd13 4 rfl; have hB6 := hB6.ext hx13; exact D.val rfl (op_load1 rfl d13_4 one3 (hB6.cells.one (n := 0) rfl))
  ·intro f14 w14 hx14 ho14 hd14; have d14_2 : f14 46 = (.int .i64 a.slot) := hd14 2 rfl; have d14_5 : f14 49 = (.int .i64 b.slot) := hd14 5 rfl; exact D.val rfl (op_neq rfl d14_2 d14_5)
  intro f15 w15 hx15 ho15 hr15; have s2 : f15 2 = (.pointer (some ⟨b1, 0, none⟩)) := ho15 2 rfl; have s3 : f15 3 = (.pointer (some ⟨b2, 0, none⟩)) := ho15 3 rfl; have s5 : f15 5 = (.pointer (some ⟨b5, 0, none⟩)) := ho15 5 rfl; have s6 : f15 6 = (.pointer (some ⟨b6, 0, none⟩)) := ho15 6 rfl; have s7 : f15 7 = (.int .i64 0) := ho15 7 rfl; have s50 : f15 50 = (.bool (!decide (a.slot = b.slot))) := hr15 6 (by decide); have hE := hE.trans hx15; have hB1 := hB1.ext hx15; have hB2 := hB2.ext hx15; have hB5 := hB5.ext hx15; have hB6 := hB6.ext hx15; refine thenF_nor ?_; refine W.cond (t := !decide (a.slot = b.slot)) s50 (fun hc16 => ?_) (fun hc16 => ?_)
  ·have hp16 := hc16; simp only [Bool.and_eq_true, Bool.or_eq_true, Bool.and_eq_false_iff, Bool.or_eq_false_iff, Bool.not_eq_true', Bool.not_eq_false', decide_eq_true_eq, decide_eq_false_iff_not] at hp16; refine W.seq ?_; refine W.drawS [Sp.eq (.int .i64 0), Sp.eq (.pointer (some ⟨b5, 0, none⟩)), Sp.eq (.int .i64 a.slot), Sp.eq (.int .i64 0), Sp.eq (.pointer (some ⟨b6, 0, none⟩)), Sp.eq (.int .i64 b.slot), Sp.eq (.bool (decide (a.slot < b.slot))), Sp.eq (.bool (decide (a.slot < b.slot)))] mixed (by rfl) (Obls.cons ?_ (Obls.cons ?_ (Obls.cons ?_ (Obls.cons ?_ (Obls.cons ?_ (Obls.cons ?_ (Obls.cons ?_ (Obls.cons ?_ Obls.nil)))))))) ?_
   ·intro f18 w18 hx18 ho18 hd18; have d18_s7 : f18 7 = (.int .i64 0) := (ho18 7 rfl).trans s7; exact D.val rfl (op_move rfl d18_s7)
   ·intro f19 w19 hx19 ho19 hd19; have d19_s5 : f19 5 = (.pointer (some ⟨b5, 0, none⟩)) := (ho19 5 rfl).trans s5; have d19_0 : f19 51 = (.int .i64 0) := hd19 0 rfl; exact D.val rfl (op_elemAddr (k := 0) rfl d19_s5 d19_0 Tryz.underlying129 si3 (by decide) rfl)
   ·intro f20 w20 hx20 ho20 hd20; have d20_1 : f20 52 = (.pointer (some ⟨b5, 0, none⟩)) := hd20 1 rfl; have hB5 := hB5.ext hx20; exact D.val rfl (op_load1 rfl d20_1 one3 (hB5.cells.one (n := 0) rfl))
   ·intro f21 w21 hx21 ho21 hd21; have d21_s7 : f21 7 = (.int .i64 0) := (ho21 7 rfl).trans s7; exact D.val rfl (op_move rfl d21_s7)
   ·intro f22 w22 hx22 ho22 hd22; have d22_s6 : f22 6 = (.pointer (some ⟨b6, 0, none⟩)) := (ho22 6 rfl).trans s6; have d22_3 : f22 54 = (.int .i64 0) := hd22 3 rfl; exact D.val rfl (op_elemAddr (k := 0) rfl d22_s6 d22_3 Tryz.underlying129 si3 (by decide) rfl)
   ·intro f23 w23 hx23 ho23 hd23; have d23_4 : f23 55 = (.pointer (some ⟨b6, 0, none⟩)) := hd23 4 rfl; have hB6 := hB6.ext hx23; exact D.val rfl (op_load1 rfl d23_4 one3 (hB6.cells.one (n := 0) rfl))
   ·intro f24 w24 hx24 ho24 hd24; have d24_2 : f24 53 = (.int .i64 a.slot) := hd24 2 rfl; have d24_5 : f24 56 = (.int .i64 b.slot) := hd24 5 rfl; exact D.val rfl (op_lss rfl d24_2 d24_5)
   ·intro f25 w25 hx25 ho25 hd25; have d25_6 : f25 57 = (.bool (decide (a.slot < b.slot))) := hd25 6 rfl; exact D.val rfl (op_assign rfl d25_6)
   intro f26 w26 hx26 ho26 hr26; have s4 : f26 4 = (.bool (decide (a.slot < b.slot))) := hr26 7 (by decide); have hE := hE.trans hx26; refine thenF_nor ?_; refine W.ret ?_; refine blockF_ret ?_; refine thenF_ret ?_; refine thenF_ret ?_; refine blockF_ret ?_; refine thenF_ret ?_; exact end_ret1 (v := (.bool (decide (a.slot < b.slot)))) rfl s4 ⟨by simp only [rVtLess_f, hc3, hc16, cond_true, cond_false], hE⟩
  ·have hp16 := hc16; simp only [Bool.and_eq_true, Bool.or_eq_true, Bool.and_eq_false_iff, Bool.or_eq_false_iff, Bool.not_eq_true', Bool.not_eq_false', decide_eq_true_eq, decide_eq_false_iff_not] at hp16; refine W.skip ?_; refine blockF_nor ?_; refine thenF_nor ?_; refine W.region (by rfl) ?_; refine L.val rfl (op_move rfl s7) ?_; refine L.val rfl (op_add (c := 1) rfl rfl rfl (by decide) (by decide)) ?_; refine L.val rfl (op_assign rfl rfl) ?_; refine L.nil ?_; refine thenF_nor ?_; refine Unr.step ?_; refine W.seq ?_; refine W.seq ?_; refine W.region (by rfl) ?_; refine L.val rfl (op_move rfl rfl) ?_; refine L.val (v := (.bool true)) rfl (op_lss (a := 1) (b := 5) rfl rfl rfl) ?_; refine L.nil ?_; refine thenF_nor ?_; refine W.cond (t := true) rfl (fun _ => ?_) (fun h => nomatch h); refine W.skip ?_; refine thenF_nor ?_; refine W.seq ?_; refine W.block ?_; refine W.seq ?_; refine W.drawS [Sp.eq (.int .i64 1), Sp.eq (.pointer (some ⟨b5, 1, none⟩)), Sp.eq (.int .i64 a.round), Sp.eq (.int .i64 1), Sp.eq (.pointer (some ⟨b6, 1, none⟩)), Sp.eq (.int .i64 b.round), Sp.eq (.bool (!decide (a.round = b.round)))] mixed (by rfl) (Obls.cons ?_ (Obls.cons ?_ (Obls.cons ?_ (Obls.cons ?_ (Obls.cons ?_ (Obls.cons ?_ (Obls.cons ?_ Obls.nil))))))) ?_
   ·intro f28 w28 hx28 ho28 hd28; have d28_s7 : f28 7 = (.int .i64 1) := ho28 7 rfl; exact D.val rfl (op_move rfl d28_s7)
   ·intro f29 w29 hx29 ho29 hd29; have d29_s5 : f29 5 = (.pointer (some ⟨b5, 0, none⟩)) := (ho29 5 rfl).trans s5; have d29_0 : f29 44 = (.int .i64 1) := hd29 0 rfl; exact D.val rfl (op_elemAddr (k := 1) rfl d29_s5 d29_0 Tryz.underlying129 si3 (by decide) rfl)
   ·intro f30 w30 hx30 ho30 hd30; have d30_1 : f30 45 = (.pointer (some ⟨b5, 1, none⟩)) := hd30 1 rfl; have hB5 := hB5.ext hx30; exact D.val rfl (op_load1 rfl d30_1 one3 (hB5.cells.one (n := 1) rfl))
   ·intro f31 w31 hx31 ho31 hd31; have d31_s7 : f31 7 = (.int .i64 1) := ho31 7 rfl; exact D.val rfl (op_move rfl d31_s7)
   ·intro f32 w32 hx32 ho32 hd32; have d32_s6 : f32 6 = (.pointer (some ⟨b6, 0, none⟩)) := (ho32 6 rfl).trans s6; have d32_3 : f32 47 = (.int .i64 1) := hd32 3 rfl; exact D.val rfl (op_elemAddr (k := 1) rfl d32_s6 d32_3 Tryz.underlying129 si3 (by decide) rfl)
   ·intro f33 w33 hx33 ho33 hd33; have d33_4 : f33 48 = (.pointer (some ⟨b6, 1, none⟩)) := hd33 4 rfl; have hB6 := hB6.ext hx33; exact D.val rfl (op_load1 rfl d33_4 one3 (hB6.cells.one (n := 1) rfl))
   ·intro f34 w34 hx34 ho34 hd34; have d34_2 : f34 46 = (.int .i64 a.round) := hd34 2 rfl; have d34_5 : f34 49 = (.int .i64 b.round) := hd34 5 rfl; exact D.val rfl (op_neq rfl d34_2 d34_5)
   intro f35 w35 hx35 ho35 hr35; have s2 : f35 2 = (.pointer (some ⟨b1, 0, none⟩)) := (ho35 2 rfl).trans s2; have s3 : f35 3 = (.pointer (some ⟨b2, 0, none⟩)) := (ho35 3 rfl).trans s3; have s5 : f35 5 = (.pointer (some ⟨b5, 0, none⟩)) := (ho35 5 rfl).trans s5; have s6 : f35 6 = (.pointer (some ⟨b6, 0, none⟩)) := (ho35 6 rfl).trans s6; have s7 : f35 7 = (.int .i64 1) := ho35 7 rfl; have s50 : f35 50 = (.bool (!decide (a.round = b.round))) := hr35 6 (by decide); have hE := hE.trans hx35; have hB1 := hB1.ext hx35; have hB2 := hB2.ext hx35; have hB5 := hB5.ext hx35; have hB6 := hB6.ext hx35; refine thenF_nor ?_; refine W.cond (t := !decide (a.round = b.round)) s50 (fun hc36 => ?_) (fun hc36 => ?_)
   ·have hp36 := hc36; simp only [Bool.and_eq_true, Bool.or_eq_true, Bool.and_eq_false_iff, Bool.or_eq_false_iff, Bool.not_eq_true', Bool.not_eq_false', decide_eq_true_eq, decide_eq_false_iff_not] at hp36; refine W.seq ?_; refine W.drawS [Sp.eq (.int .i64 1), Sp.eq (.pointer (some ⟨b5, 1, none⟩)), Sp.eq (.int .i64 a.round), Sp.eq (.int .i64 1), Sp.eq (.pointer (some ⟨b6, 1, none⟩)), Sp.eq (.int .i64 b.round), Sp.eq (.bool (decide (a.round < b.round))), Sp.eq (.bool (decide (a.round < b.round)))] mixed (by rfl) (Obls.cons ?_ (Obls.cons ?_ (Obls.cons ?_ (Obls.cons ?_ (Obls.cons ?_ (Obls.cons ?_ (Obls.cons ?_ (Obls.cons ?_ Obls.nil)))))))) ?_
    ·intro f38 w38 hx38 ho38 hd38; have d38_s7 : f38 7 = (.int .i64 1) := (ho38 7 rfl).trans s7; exact D.val rfl (op_move rfl d38_s7)
    ·intro f39 w39 hx39 ho39 hd39; have d39_s5 : f39 5 = (.pointer (some ⟨b5, 0, none⟩)) := (ho39 5 rfl).trans s5; have d39_0 : f39 51 = (.int .i64 1) := hd39 0 rfl; exact D.val rfl (op_elemAddr (k := 1) rfl d39_s5 d39_0 Tryz.underlying129 si3 (by decide) rfl)
    ·intro f40 w40 hx40 ho40 hd40; have d40_1 : f40 52 = (.pointer (some ⟨b5, 1, none⟩)) := hd40 1 rfl; have hB5 := hB5.ext hx40; exact D.val rfl (op_load1 rfl d40_1 one3 (hB5.cells.one (n := 1) rfl))
    ·intro f41 w41 hx41 ho41 hd41; have d41_s7 : f41 7 = (.int .i64 1) := (ho41 7 rfl).trans s7; exact D.val rfl (op_move rfl d41_s7)
    ·intro f42 w42 hx42 ho42 hd42; have d42_s6 : f42 6 = (.pointer (some ⟨b6, 0, none⟩)) := (ho42 6 rfl).trans s6; have d42_3 : f42 54 = (.int .i64 1) := hd42 3 rfl; exact D.val rfl (op_elemAddr (k := 1) rfl d42_s6 d42_3 Tryz.underlying129 si3 (by decide) rfl)
    ·intro f43 w43 hx43 ho43 hd43; have d43_4 : f43 55 = (.pointer (some ⟨b6, 1, none⟩)) := hd43 4 rfl; have hB6 := hB6.ext hx43; exact D.val rfl (op_load1 rfl d43_4 one3 (hB6.cells.one (n := 1) rfl))
    ·intro f44 w44 hx44 ho44 hd44; have d44_2 : f44 53 = (.int .i64 a.round) := hd44 2 rfl; have d44_5 : f44 56 = (.int .i64 b.round) := hd44 5 rfl; exact D.val rfl (op_lss rfl d44_2 d44_5)
    ·intro f45 w45 hx45 ho45 hd45; have d45_6 : f45 57 = (.bool (decide (a.round < b.round))) := hd45 6 rfl; exact D.val rfl (op_assign rfl d45_6)
    intro f46 w46 hx46 ho46 hr46; have s4 : f46 4 = (.bool (decide (a.round < b.round))) := hr46 7 (by decide); have hE := hE.trans hx46; refine thenF_nor ?_; refine W.ret ?_; refine blockF_ret ?_; refine thenF_ret ?_; refine thenF_ret ?_; refine blockF_ret ?_; refine thenF_ret ?_; exact end_ret1 (v := (.bool (decide (a.round < b.round)))) rfl s4 ⟨by simp only [rVtLess_f, hc3, hc16, hc36, cond_true, cond_false], hE⟩
   ·have hp36 := hc36; simp only [Bool.and_eq_true, Bool.or_eq_true, Bool.and_eq_false_iff, Bool.or_eq_false_iff, Bool.not_eq_true', Bool.not_eq_false', decide_eq_true_eq, decide_eq_false_iff_not] at hp36; refine W.skip ?_; refine blockF_nor ?_; refine thenF_nor ?_; refine W.region (by rfl) ?_; refine L.val rfl (op_move rfl s7) ?_; refine L.val rfl (op_add (c := 2) rfl rfl rfl (by decide) (by decide)) ?_; refine L.val rfl (op_assign rfl rfl) ?_; refine L.nil ?_; refine thenF_nor ?_; refine Unr.step ?_; refine W.seq ?_; refine W.seq ?_; refine W.region (by rfl) ?_; refine L.val rfl (op_move rfl rfl) ?_; refine L.val (v := (.bool true)) rfl (op_lss (a := 2) (b := 5) rfl rfl rfl) ?_; refine L.nil ?_; refine thenF_nor ?_; refine W.cond (t := true) rfl (fun _ => ?_) (fun h => nomatch h); refine W.skip ?_; refine thenF_nor ?_; refine W.seq ?_; refine W.block ?_; refine W.seq ?_; refine W.drawS [Sp.eq (.int .i64 2), Sp.eq (.pointer (some ⟨b5, 2, none⟩)), Sp.eq (.int .i64 a.kind), Sp.eq (.int .i64 2), Sp.eq (.pointer (some ⟨b6, 2, none⟩)), Sp.eq (.int .i64 b.kind), Sp.eq (.bool (!decide (a.kind = b.kind)))] mixed (by rfl) (Obls.cons ?_ (Obls.cons ?_ (Obls.cons ?_ (Obls.cons ?_ (Obls.cons ?_ (Obls.cons ?_ (Obls.cons ?_ Obls.nil))))))) ?_
    ·intro f48 w48 hx48 ho48 hd48; have d48_s7 : f48 7 = (.int .i64 2) := ho48 7 rfl; exact D.val rfl (op_move rfl d48_s7)
    ·intro f49 w49 hx49 ho49 hd49; have d49_s5 : f49 5 = (.pointer (some ⟨b5, 0, none⟩)) := (ho49 5 rfl).trans s5; have d49_0 : f49 44 = (.int .i64 2) := hd49 0 rfl; exact D.val rfl (op_elemAddr (k := 2) rfl d49_s5 d49_0 Tryz.underlying129 si3 (by decide) rfl)
    ·intro f50 w50 hx50 ho50 hd50; have d50_1 : f50 45 = (.pointer (some ⟨b5, 2, none⟩)) := hd50 1 rfl; have hB5 := hB5.ext hx50; exact D.val rfl (op_load1 rfl d50_1 one3 (hB5.cells.one (n := 2) rfl))
    ·intro f51 w51 hx51 ho51 hd51; have d51_s7 : f51 7 = (.int .i64 2) := ho51 7 rfl; exact D.val rfl (op_move rfl d51_s7)
    ·intro f52 w52 hx52 ho52 hd52; have d52_s6 : f52 6 = (.pointer (some ⟨b6, 0, none⟩)) := (ho52 6 rfl).trans s6; have d52_3 : f52 47 = (.int .i64 2) := hd52 3 rfl; exact D.val rfl (op_elemAddr (k := 2) rfl d52_s6 d52_3 Tryz.underlying129 si3 (by decide) rfl)
    ·intro f53 w53 hx53 ho53 hd53; have d53_4 : f53 48 = (.pointer (some ⟨b6, 2, none⟩)) := hd53 4 rfl; have hB6 := hB6.ext hx53; exact D.val rfl (op_load1 rfl d53_4 one3 (hB6.cells.one (n := 2) rfl))
    ·intro f54 w54 hx54 ho54 hd54; have d54_2 : f54 46 = (.int .i64 a.kind) := hd54 2 rfl; have d54_5 : f54 49 = (.int .i64 b.kind) := hd54 5 rfl; exact D.val rfl (op_neq rfl d54_2 d54_5)
    intro f55 w55 hx55 ho55 hr55; have s2 : f55 2 = (.pointer (some ⟨b1, 0, none⟩)) := (ho55 2 rfl).trans s2; have s3 : f55 3 = (.pointer (some ⟨b2, 0, none⟩)) := (ho55 3 rfl).trans s3; have s5 : f55 5 = (.pointer (some ⟨b5, 0, none⟩)) := (ho55 5 rfl).trans s5; have s6 : f55 6 = (.pointer (some ⟨b6, 0, none⟩)) := (ho55 6 rfl).trans s6; have s7 : f55 7 = (.int .i64 2) := ho55 7 rfl; have s50 : f55 50 = (.bool (!decide (a.kind = b.kind))) := hr55 6 (by decide); have hE := hE.trans hx55; have hB1 := hB1.ext hx55; have hB2 := hB2.ext hx55; have hB5 := hB5.ext hx55; have hB6 := hB6.ext hx55; refine thenF_nor ?_; refine W.cond (t := !decide (a.kind = b.kind)) s50 (fun hc56 => ?_) (fun hc56 => ?_)
    ·have hp56 := hc56; simp only [Bool.and_eq_true, Bool.or_eq_true, Bool.and_eq_false_iff, Bool.or_eq_false_iff, Bool.not_eq_true', Bool.not_eq_false', decide_eq_true_eq, decide_eq_false_iff_not] at hp56; refine W.seq ?_; refine W.drawS [Sp.eq (.int .i64 2), Sp.eq (.pointer (some ⟨b5, 2, none⟩)), Sp.eq (.int .i64 a.kind), Sp.eq (.int .i64 2), Sp.eq (.pointer (some ⟨b6, 2, none⟩)), Sp.eq (.int .i64 b.kind), Sp.eq (.bool (decide (a.kind < b.kind))), Sp.eq (.bool (decide (a.kind < b.kind)))] mixed (by rfl) (Obls.cons ?_ (Obls.cons ?_ (Obls.cons ?_ (Obls.cons ?_ (Obls.cons ?_ (Obls.cons ?_ (Obls.cons ?_ (Obls.cons ?_ Obls.nil)))))))) ?_
     ·intro f58 w58 hx58 ho58 hd58; have d58_s7 : f58 7 = (.int .i64 2) := (ho58 7 rfl).trans s7; exact D.val rfl (op_move rfl d58_s7)
     ·intro f59 w59 hx59 ho59 hd59; have d59_s5 : f59 5 = (.pointer (some ⟨b5, 0, none⟩)) := (ho59 5 rfl).trans s5; have d59_0 : f59 51 = (.int .i64 2) := hd59 0 rfl; exact D.val rfl (op_elemAddr (k := 2) rfl d59_s5 d59_0 Tryz.underlying129 si3 (by decide) rfl)
     ·intro f60 w60 hx60 ho60 hd60; have d60_1 : f60 52 = (.pointer (some ⟨b5, 2, none⟩)) := hd60 1 rfl; have hB5 := hB5.ext hx60; exact D.val rfl (op_load1 rfl d60_1 one3 (hB5.cells.one (n := 2) rfl))
     ·intro f61 w61 hx61 ho61 hd61; have d61_s7 : f61 7 = (.int .i64 2) := (ho61 7 rfl).trans s7; exact D.val rfl (op_move rfl d61_s7)
     ·intro f62 w62 hx62 ho62 hd62; have d62_s6 : f62 6 = (.pointer (some ⟨b6, 0, none⟩)) := (ho62 6 rfl).trans s6; have d62_3 : f62 54 = (.int .i64 2) := hd62 3 rfl; exact D.val rfl (op_elemAddr (k := 2) rfl d62_s6 d62_3 Tryz.underlying129 si3 (by decide) rfl)
     ·intro f63 w63 hx63 ho63 hd63; have d63_4 : f63 55 = (.pointer (some ⟨b6, 2, none⟩)) := hd63 4 rfl; have hB6 := hB6.ext hx63; exact D.val rfl (op_load1 rfl d63_4 one3 (hB6.cells.one (n := 2) rfl))
     ·intro f64 w64 hx64 ho64 hd64; have d64_2 : f64 53 = (.int .i64 a.kind) := hd64 2 rfl; have d64_5 : f64 56 = (.int .i64 b.kind) := hd64 5 rfl; exact D.val rfl (op_lss rfl d64_2 d64_5)
     ·intro f65 w65 hx65 ho65 hd65; have d65_6 : f65 57 = (.bool (decide (a.kind < b.kind))) := hd65 6 rfl; exact D.val rfl (op_assign rfl d65_6)
     intro f66 w66 hx66 ho66 hr66; have s4 : f66 4 = (.bool (decide (a.kind < b.kind))) := hr66 7 (by decide); have hE := hE.trans hx66; refine thenF_nor ?_; refine W.ret ?_; refine blockF_ret ?_; refine thenF_ret ?_; refine thenF_ret ?_; refine blockF_ret ?_; refine thenF_ret ?_; exact end_ret1 (v := (.bool (decide (a.kind < b.kind)))) rfl s4 ⟨by simp only [rVtLess_f, hc3, hc16, hc36, hc56, cond_true, cond_false], hE⟩
    ·have hp56 := hc56; simp only [Bool.and_eq_true, Bool.or_eq_true, Bool.and_eq_false_iff, Bool.or_eq_false_iff, Bool.not_eq_true', Bool.not_eq_false', decide_eq_true_eq, decide_eq_false_iff_not] at hp56; refine W.skip ?_; refine blockF_nor ?_; refine thenF_nor ?_; refine W.region (by rfl) ?_; refine L.val rfl (op_move rfl s7) ?_; refine L.val rfl (op_add (c := 3) rfl rfl rfl (by decide) (by decide)) ?_; refine L.val rfl (op_assign rfl rfl) ?_; refine L.nil ?_; refine thenF_nor ?_; refine Unr.step ?_; refine W.seq ?_; refine W.seq ?_; refine W.region (by rfl) ?_; refine L.val rfl (op_move rfl rfl) ?_; refine L.val (v := (.bool true)) rfl (op_lss (a := 3) (b := 5) rfl rfl rfl) ?_; refine L.nil ?_; refine thenF_nor ?_; refine W.cond (t := true) rfl (fun _ => ?_) (fun h => nomatch h); refine W.skip ?_; refine thenF_nor ?_; refine W.seq ?_; refine W.block ?_; refine W.seq ?_; refine W.drawS [Sp.eq (.int .i64 3), Sp.eq (.pointer (some ⟨b5, 3, none⟩)), Sp.eq (.int .i64 a.signer), Sp.eq (.int .i64 3), Sp.eq (.pointer (some ⟨b6, 3, none⟩)), Sp.eq (.int .i64 b.signer), Sp.eq (.bool (!decide (a.signer = b.signer)))] mixed (by rfl) (Obls.cons ?_ (Obls.cons ?_ (Obls.cons ?_ (Obls.cons ?_ (Obls.cons ?_ (Obls.cons ?_ (Obls.cons ?_ Obls.nil))))))) ?_
     ·intro f68 w68 hx68 ho68 hd68; have d68_s7 : f68 7 = (.int .i64 3) := ho68 7 rfl; exact D.val rfl (op_move rfl d68_s7)
     ·intro f69 w69 hx69 ho69 hd69; have d69_s5 : f69 5 = (.pointer (some ⟨b5, 0, none⟩)) := (ho69 5 rfl).trans s5; have d69_0 : f69 44 = (.int .i64 3) := hd69 0 rfl; exact D.val rfl (op_elemAddr (k := 3) rfl d69_s5 d69_0 Tryz.underlying129 si3 (by decide) rfl)
     ·intro f70 w70 hx70 ho70 hd70; have d70_1 : f70 45 = (.pointer (some ⟨b5, 3, none⟩)) := hd70 1 rfl; have hB5 := hB5.ext hx70; exact D.val rfl (op_load1 rfl d70_1 one3 (hB5.cells.one (n := 3) rfl))
     ·intro f71 w71 hx71 ho71 hd71; have d71_s7 : f71 7 = (.int .i64 3) := ho71 7 rfl; exact D.val rfl (op_move rfl d71_s7)
     ·intro f72 w72 hx72 ho72 hd72; have d72_s6 : f72 6 = (.pointer (some ⟨b6, 0, none⟩)) := (ho72 6 rfl).trans s6; have d72_3 : f72 47 = (.int .i64 3) := hd72 3 rfl; exact D.val rfl (op_elemAddr (k := 3) rfl d72_s6 d72_3 Tryz.underlying129 si3 (by decide) rfl)
     ·intro f73 w73 hx73 ho73 hd73; have d73_4 : f73 48 = (.pointer (some ⟨b6, 3, none⟩)) := hd73 4 rfl; have hB6 := hB6.ext hx73; exact D.val rfl (op_load1 rfl d73_4 one3 (hB6.cells.one (n := 3) rfl))
     ·intro f74 w74 hx74 ho74 hd74; have d74_2 : f74 46 = (.int .i64 a.signer) := hd74 2 rfl; have d74_5 : f74 49 = (.int .i64 b.signer) := hd74 5 rfl; exact D.val rfl (op_neq rfl d74_2 d74_5)
     intro f75 w75 hx75 ho75 hr75; have s2 : f75 2 = (.pointer (some ⟨b1, 0, none⟩)) := (ho75 2 rfl).trans s2; have s3 : f75 3 = (.pointer (some ⟨b2, 0, none⟩)) := (ho75 3 rfl).trans s3; have s5 : f75 5 = (.pointer (some ⟨b5, 0, none⟩)) := (ho75 5 rfl).trans s5; have s6 : f75 6 = (.pointer (some ⟨b6, 0, none⟩)) := (ho75 6 rfl).trans s6; have s7 : f75 7 = (.int .i64 3) := ho75 7 rfl; have s50 : f75 50 = (.bool (!decide (a.signer = b.signer))) := hr75 6 (by decide); have hE := hE.trans hx75; have hB1 := hB1.ext hx75; have hB2 := hB2.ext hx75; have hB5 := hB5.ext hx75; have hB6 := hB6.ext hx75; refine thenF_nor ?_; refine W.cond (t := !decide (a.signer = b.signer)) s50 (fun hc76 => ?_) (fun hc76 => ?_)
     ·have hp76 := hc76; simp only [Bool.and_eq_true, Bool.or_eq_true, Bool.and_eq_false_iff, Bool.or_eq_false_iff, Bool.not_eq_true', Bool.not_eq_false', decide_eq_true_eq, decide_eq_false_iff_not] at hp76; refine W.seq ?_; refine W.drawS [Sp.eq (.int .i64 3), Sp.eq (.pointer (some ⟨b5, 3, none⟩)), Sp.eq (.int .i64 a.signer), Sp.eq (.int .i64 3), Sp.eq (.pointer (some ⟨b6, 3, none⟩)), Sp.eq (.int .i64 b.signer), Sp.eq (.bool (decide (a.signer < b.signer))), Sp.eq (.bool (decide (a.signer < b.signer)))] mixed (by rfl) (Obls.cons ?_ (Obls.cons ?_ (Obls.cons ?_ (Obls.cons ?_ (Obls.cons ?_ (Obls.cons ?_ (Obls.cons ?_ (Obls.cons ?_ Obls.nil)))))))) ?_
      ·intro f78 w78 hx78 ho78 hd78; have d78_s7 : f78 7 = (.int .i64 3) := (ho78 7 rfl).trans s7; exact D.val rfl (op_move rfl d78_s7)
      ·intro f79 w79 hx79 ho79 hd79; have d79_s5 : f79 5 = (.pointer (some ⟨b5, 0, none⟩)) := (ho79 5 rfl).trans s5; have d79_0 : f79 51 = (.int .i64 3) := hd79 0 rfl; exact D.val rfl (op_elemAddr (k := 3) rfl d79_s5 d79_0 Tryz.underlying129 si3 (by decide) rfl)
      ·intro f80 w80 hx80 ho80 hd80; have d80_1 : f80 52 = (.pointer (some ⟨b5, 3, none⟩)) := hd80 1 rfl; have hB5 := hB5.ext hx80; exact D.val rfl (op_load1 rfl d80_1 one3 (hB5.cells.one (n := 3) rfl))
      ·intro f81 w81 hx81 ho81 hd81; have d81_s7 : f81 7 = (.int .i64 3) := (ho81 7 rfl).trans s7; exact D.val rfl (op_move rfl d81_s7)
      ·intro f82 w82 hx82 ho82 hd82; have d82_s6 : f82 6 = (.pointer (some ⟨b6, 0, none⟩)) := (ho82 6 rfl).trans s6; have d82_3 : f82 54 = (.int .i64 3) := hd82 3 rfl; exact D.val rfl (op_elemAddr (k := 3) rfl d82_s6 d82_3 Tryz.underlying129 si3 (by decide) rfl)
      ·intro f83 w83 hx83 ho83 hd83; have d83_4 : f83 55 = (.pointer (some ⟨b6, 3, none⟩)) := hd83 4 rfl; have hB6 := hB6.ext hx83; exact D.val rfl (op_load1 rfl d83_4 one3 (hB6.cells.one (n := 3) rfl))
      ·intro f84 w84 hx84 ho84 hd84; have d84_2 : f84 53 = (.int .i64 a.signer) := hd84 2 rfl; have d84_5 : f84 56 = (.int .i64 b.signer) := hd84 5 rfl; exact D.val rfl (op_lss rfl d84_2 d84_5)
      ·intro f85 w85 hx85 ho85 hd85; have d85_6 : f85 57 = (.bool (decide (a.signer < b.signer))) := hd85 6 rfl; exact D.val rfl (op_assign rfl d85_6)
      intro f86 w86 hx86 ho86 hr86; have s4 : f86 4 = (.bool (decide (a.signer < b.signer))) := hr86 7 (by decide); have hE := hE.trans hx86; refine thenF_nor ?_; refine W.ret ?_; refine blockF_ret ?_; refine thenF_ret ?_; refine thenF_ret ?_; refine blockF_ret ?_; refine thenF_ret ?_; exact end_ret1 (v := (.bool (decide (a.signer < b.signer)))) rfl s4 ⟨by simp only [rVtLess_f, hc3, hc16, hc36, hc56, hc76, cond_true, cond_false], hE⟩
     ·have hp76 := hc76; simp only [Bool.and_eq_true, Bool.or_eq_true, Bool.and_eq_false_iff, Bool.or_eq_false_iff, Bool.not_eq_true', Bool.not_eq_false', decide_eq_true_eq, decide_eq_false_iff_not] at hp76; refine W.skip ?_; refine blockF_nor ?_; refine thenF_nor ?_; refine W.region (by rfl) ?_; refine L.val rfl (op_move rfl s7) ?_; refine L.val rfl (op_add (c := 4) rfl rfl rfl (by decide) (by decide)) ?_; refine L.val rfl (op_assign rfl rfl) ?_; refine L.nil ?_; refine thenF_nor ?_; refine Unr.step ?_; refine W.seq ?_; refine W.seq ?_; refine W.region (by rfl) ?_; refine L.val rfl (op_move rfl rfl) ?_; refine L.val (v := (.bool true)) rfl (op_lss (a := 4) (b := 5) rfl rfl rfl) ?_; refine L.nil ?_; refine thenF_nor ?_; refine W.cond (t := true) rfl (fun _ => ?_) (fun h => nomatch h); refine W.skip ?_; refine thenF_nor ?_; refine W.seq ?_; refine W.block ?_; refine W.seq ?_; refine W.drawS [Sp.eq (.int .i64 4), Sp.eq (.pointer (some ⟨b5, 4, none⟩)), Sp.eq (.int .i64 a.choice), Sp.eq (.int .i64 4), Sp.eq (.pointer (some ⟨b6, 4, none⟩)), Sp.eq (.int .i64 b.choice), Sp.eq (.bool (!decide (a.choice = b.choice)))] mixed (by rfl) (Obls.cons ?_ (Obls.cons ?_ (Obls.cons ?_ (Obls.cons ?_ (Obls.cons ?_ (Obls.cons ?_ (Obls.cons ?_ Obls.nil))))))) ?_
      ·intro f88 w88 hx88 ho88 hd88; have d88_s7 : f88 7 = (.int .i64 4) := ho88 7 rfl; exact D.val rfl (op_move rfl d88_s7)
      ·intro f89 w89 hx89 ho89 hd89; have d89_s5 : f89 5 = (.pointer (some ⟨b5, 0, none⟩)) := (ho89 5 rfl).trans s5; have d89_0 : f89 44 = (.int .i64 4) := hd89 0 rfl; exact D.val rfl (op_elemAddr (k := 4) rfl d89_s5 d89_0 Tryz.underlying129 si3 (by decide) rfl)
      ·intro f90 w90 hx90 ho90 hd90; have d90_1 : f90 45 = (.pointer (some ⟨b5, 4, none⟩)) := hd90 1 rfl; have hB5 := hB5.ext hx90; exact D.val rfl (op_load1 rfl d90_1 one3 (hB5.cells.one (n := 4) rfl))
      ·intro f91 w91 hx91 ho91 hd91; have d91_s7 : f91 7 = (.int .i64 4) := ho91 7 rfl; exact D.val rfl (op_move rfl d91_s7)
      ·intro f92 w92 hx92 ho92 hd92; have d92_s6 : f92 6 = (.pointer (some ⟨b6, 0, none⟩)) := (ho92 6 rfl).trans s6; have d92_3 : f92 47 = (.int .i64 4) := hd92 3 rfl; exact D.val rfl (op_elemAddr (k := 4) rfl d92_s6 d92_3 Tryz.underlying129 si3 (by decide) rfl)
      ·intro f93 w93 hx93 ho93 hd93; have d93_4 : f93 48 = (.pointer (some ⟨b6, 4, none⟩)) := hd93 4 rfl; have hB6 := hB6.ext hx93; exact D.val rfl (op_load1 rfl d93_4 one3 (hB6.cells.one (n := 4) rfl))
      ·intro f94 w94 hx94 ho94 hd94; have d94_2 : f94 46 = (.int .i64 a.choice) := hd94 2 rfl; have d94_5 : f94 49 = (.int .i64 b.choice) := hd94 5 rfl; exact D.val rfl (op_neq rfl d94_2 d94_5)
      intro f95 w95 hx95 ho95 hr95; have s2 : f95 2 = (.pointer (some ⟨b1, 0, none⟩)) := (ho95 2 rfl).trans s2; have s3 : f95 3 = (.pointer (some ⟨b2, 0, none⟩)) := (ho95 3 rfl).trans s3; have s5 : f95 5 = (.pointer (some ⟨b5, 0, none⟩)) := (ho95 5 rfl).trans s5; have s6 : f95 6 = (.pointer (some ⟨b6, 0, none⟩)) := (ho95 6 rfl).trans s6; have s7 : f95 7 = (.int .i64 4) := ho95 7 rfl; have s50 : f95 50 = (.bool (!decide (a.choice = b.choice))) := hr95 6 (by decide); have hE := hE.trans hx95; have hB1 := hB1.ext hx95; have hB2 := hB2.ext hx95; have hB5 := hB5.ext hx95; have hB6 := hB6.ext hx95; refine thenF_nor ?_; refine W.cond (t := !decide (a.choice = b.choice)) s50 (fun hc96 => ?_) (fun hc96 => ?_)
      ·have hp96 := hc96; simp only [Bool.and_eq_true, Bool.or_eq_true, Bool.and_eq_false_iff, Bool.or_eq_false_iff, Bool.not_eq_true', Bool.not_eq_false', decide_eq_true_eq, decide_eq_false_iff_not] at hp96; refine W.seq ?_; refine W.drawS [Sp.eq (.int .i64 4), Sp.eq (.pointer (some ⟨b5, 4, none⟩)), Sp.eq (.int .i64 a.choice), Sp.eq (.int .i64 4), Sp.eq (.pointer (some ⟨b6, 4, none⟩)), Sp.eq (.int .i64 b.choice), Sp.eq (.bool (decide (a.choice < b.choice))), Sp.eq (.bool (decide (a.choice < b.choice)))] mixed (by rfl) (Obls.cons ?_ (Obls.cons ?_ (Obls.cons ?_ (Obls.cons ?_ (Obls.cons ?_ (Obls.cons ?_ (Obls.cons ?_ (Obls.cons ?_ Obls.nil)))))))) ?_
       ·intro f98 w98 hx98 ho98 hd98; have d98_s7 : f98 7 = (.int .i64 4) := (ho98 7 rfl).trans s7; exact D.val rfl (op_move rfl d98_s7)
       ·intro f99 w99 hx99 ho99 hd99; have d99_s5 : f99 5 = (.pointer (some ⟨b5, 0, none⟩)) := (ho99 5 rfl).trans s5; have d99_0 : f99 51 = (.int .i64 4) := hd99 0 rfl; exact D.val rfl (op_elemAddr (k := 4) rfl d99_s5 d99_0 Tryz.underlying129 si3 (by decide) rfl)
       ·intro f100 w100 hx100 ho100 hd100; have d100_1 : f100 52 = (.pointer (some ⟨b5, 4, none⟩)) := hd100 1 rfl; have hB5 := hB5.ext hx100; exact D.val rfl (op_load1 rfl d100_1 one3 (hB5.cells.one (n := 4) rfl))
       ·intro f101 w101 hx101 ho101 hd101; have d101_s7 : f101 7 = (.int .i64 4) := (ho101 7 rfl).trans s7; exact D.val rfl (op_move rfl d101_s7)
       ·intro f102 w102 hx102 ho102 hd102; have d102_s6 : f102 6 = (.pointer (some ⟨b6, 0, none⟩)) := (ho102 6 rfl).trans s6; have d102_3 : f102 54 = (.int .i64 4) := hd102 3 rfl; exact D.val rfl (op_elemAddr (k := 4) rfl d102_s6 d102_3 Tryz.underlying129 si3 (by decide) rfl)
       ·intro f103 w103 hx103 ho103 hd103; have d103_4 : f103 55 = (.pointer (some ⟨b6, 4, none⟩)) := hd103 4 rfl; have hB6 := hB6.ext hx103; exact D.val rfl (op_load1 rfl d103_4 one3 (hB6.cells.one (n := 4) rfl))
       ·intro f104 w104 hx104 ho104 hd104; have d104_2 : f104 53 = (.int .i64 a.choice) := hd104 2 rfl; have d104_5 : f104 56 = (.int .i64 b.choice) := hd104 5 rfl; exact D.val rfl (op_lss rfl d104_2 d104_5)
       ·intro f105 w105 hx105 ho105 hd105; have d105_6 : f105 57 = (.bool (decide (a.choice < b.choice))) := hd105 6 rfl; exact D.val rfl (op_assign rfl d105_6)
       intro f106 w106 hx106 ho106 hr106; have s4 : f106 4 = (.bool (decide (a.choice < b.choice))) := hr106 7 (by decide); have hE := hE.trans hx106; refine thenF_nor ?_; refine W.ret ?_; refine blockF_ret ?_; refine thenF_ret ?_; refine thenF_ret ?_; refine blockF_ret ?_; refine thenF_ret ?_; exact end_ret1 (v := (.bool (decide (a.choice < b.choice)))) rfl s4 ⟨by simp only [rVtLess_f, hc3, hc16, hc36, hc56, hc76, hc96, cond_true, cond_false], hE⟩
      ·have hp96 := hc96; simp only [Bool.and_eq_true, Bool.or_eq_true, Bool.and_eq_false_iff, Bool.or_eq_false_iff, Bool.not_eq_true', Bool.not_eq_false', decide_eq_true_eq, decide_eq_false_iff_not] at hp96; refine W.skip ?_; refine blockF_nor ?_; refine thenF_nor ?_; refine W.region (by rfl) ?_; refine L.val rfl (op_move rfl s7) ?_; refine L.val rfl (op_add (c := 5) rfl rfl rfl (by decide) (by decide)) ?_; refine L.val rfl (op_assign rfl rfl) ?_; refine L.nil ?_; refine thenF_nor ?_; refine Unr.step ?_; refine W.seq ?_; refine W.seq ?_; refine W.region (by rfl) ?_; refine L.val rfl (op_move rfl rfl) ?_; refine L.val (v := (.bool false)) rfl (op_lss (a := 5) (b := 5) rfl rfl rfl) ?_; refine L.nil ?_; refine thenF_nor ?_; refine W.cond (t := false) rfl (fun h => nomatch h) (fun _ => ?_); refine W.exit ?_; refine thenF_exit ?_; refine thenF_exit ?_; refine blockF_hit ?_; refine thenF_nor ?_; refine W.seq ?_; refine W.seq ?_; refine W.region (by rfl) ?_; refine L.val rfl (op_field rfl s2 fo47_7 rfl) ?_; refine L.val rfl (op_load (v := (a.value : Nm)) rfl rfl ty24 (sub_nm 14 hB1.cells rfl)) ?_; refine L.val rfl (op_field rfl s3 fo47_7 rfl) ?_; refine L.val rfl (op_load (v := (b.value : Nm)) rfl rfl ty24 (sub_nm 14 hB2.cells rfl)) ?_; refine L.val rfl (op_neqe (a := (a.value : Nm)) (b := (b.value : Nm)) rfl rfl rfl eq24 (fun _ => ⟨_, rfl⟩) Tryz.eqGuardType24) ?_; refine L.nil ?_; refine thenF_nor ?_; refine W.cond (t := !decide (a.value = b.value)) rfl (fun hc107 => ?_) (fun hc107 => ?_)
       ·have hp107 := hc107; simp only [Bool.and_eq_true, Bool.or_eq_true, Bool.and_eq_false_iff, Bool.or_eq_false_iff, Bool.not_eq_true', Bool.not_eq_false', decide_eq_true_eq, decide_eq_false_iff_not] at hp107; refine W.seq ?_; refine W.region (by rfl) ?_; refine L.val rfl (op_field rfl s2 fo47_7 rfl) ?_; refine L.val rfl (op_load (v := (a.value : Nm)) rfl rfl ty24 (sub_nm 14 hB1.cells rfl)) ?_; refine L.val rfl (op_field rfl s3 fo47_7 rfl) ?_; refine L.val rfl (op_load (v := (b.value : Nm)) rfl rfl ty24 (sub_nm 14 hB2.cells rfl)) ?_; refine L.call (v := (.bool (rNmLess_f a.value b.value))) rfl (OpS.call (op_call rfl (argsC rfl (argsC rfl argsN)) Tryz.func95 rfl rfl) rNmLess_ok) ?_; intro w108 hx108; have hE := hE.trans hx108; refine L.val rfl (op_assign rfl rfl) ?_; refine L.nil ?_; refine thenF_nor ?_; refine W.ret ?_; refine thenF_ret ?_; exact end_ret1 (v := (.bool (rNmLess_f a.value b.value))) rfl rfl ⟨by simp only [rVtLess_f, hc3, hc16, hc36, hc56, hc76, hc96, hc107, cond_true, cond_false], hE⟩
       ·have hp107 := hc107; simp only [Bool.and_eq_true, Bool.or_eq_true, Bool.and_eq_false_iff, Bool.or_eq_false_iff, Bool.not_eq_true', Bool.not_eq_false', decide_eq_true_eq, decide_eq_false_iff_not] at hp107; refine W.skip ?_; refine thenF_nor ?_; refine W.seq ?_; refine W.region (by rfl) ?_; refine L.val rfl (op_field rfl s2 fo47_5 rfl) ?_; refine L.val rfl (op_load1 rfl rfl one22 (hB1.cells.one (n := 5) rfl)) ?_; refine L.val rfl (op_field rfl s3 fo47_5 rfl) ?_; refine L.val rfl (op_load1 rfl rfl one22 (hB2.cells.one (n := 5) rfl)) ?_; refine L.val rfl (op_lss rfl rfl rfl) ?_; refine L.val rfl (op_assign rfl rfl) ?_; refine L.nil ?_; refine thenF_nor ?_; refine W.ret ?_; exact end_ret1 (v := (.bool (decide (a.support < b.support)))) rfl rfl ⟨by simp only [rVtLess_f, hc3, hc16, hc36, hc56, hc76, hc96, hc107, cond_false], hE⟩
def rLike_f (v : Vt) (x : Vt) : Bool := (decide (v.choice = x.choice)) && (decide (v.value = x.value))
set_option maxRecDepth 100000 in
theorem rLike_ok {v : Vt} {x : Vt}  {w : World}  : Gives Tryz.prog 149 #[(Enc.val (v : Vt)), (Enc.val (x : Vt))] w fun u w' => u = (.bool (rLike_f v x)) ∧ Ext w w' := by
 have hE : Ext w w := Ext.refl w; refine gives_of_W Tryz.func149 rfl Tryz.ntmps149 rfl ?_; refine W.seq ?_; refine W.region (by rfl) ?_; refine L.step rfl (op_box (cs := (Enc.cells (v : Vt))) rfl rfl rfl) ?_; rintro _ w1 ⟨b1, rfl, hb1, hB1, hx1⟩; have hE := hE.trans hx1; refine L.step rfl (op_box (cs := (Enc.cells (x : Vt))) rfl rfl rfl) ?_; rintro _ w2 ⟨b2, rfl, hb2, hB2, hx2⟩; have hE := hE.trans hx2; have hB1 := hB1.ext hx2; refine L.val (v := (.bool false)) rfl (op_assign rfl rfl) ?_; refine L.nil ?_; refine thenF_nor ?_; refine W.seq ?_; refine W.region (by rfl) ?_; refine L.val rfl (op_field rfl rfl fo47_3 rfl) ?_; refine L.val rfl (op_load1 rfl rfl one3 (hB1.cells.one (n := 3) rfl)) ?_; refine L.val rfl (op_field rfl rfl fo47_3 rfl) ?_; refine L.val rfl (op_load1 rfl rfl one3 (hB2.cells.one (n := 3) rfl)) ?_; refine L.val rfl (op_eql rfl rfl rfl) ?_; refine L.val rfl (op_move rfl rfl) ?_; refine L.guardv (v := (.pointer (some ⟨b1, 14, none⟩))) (wanted_yes rfl rfl rfl) (fun hg => (op_field rfl rfl fo47_7 rfl)) ?_; refine L.guardv (v := (Enc.val (v.value : Nm))) (wanted_yes rfl rfl rfl) (fun hg => (op_load (v := (v.value : Nm)) rfl ((show _ = vif _ (.pointer (some ⟨b1, 14, none⟩)) from rfl).trans (vif_t hg).symm) ty24 (sub_nm 14 hB1.cells rfl))) ?_; refine L.guardv (v := (.pointer (some ⟨b2, 14, none⟩))) (wanted_yes rfl rfl rfl) (fun hg => (op_field rfl rfl fo47_7 rfl)) ?_; refine L.guardv (v := (Enc.val (x.value : Nm))) (wanted_yes rfl rfl rfl) (fun hg => (op_load (v := (x.value : Nm)) rfl ((show _ = vif _ (.pointer (some ⟨b2, 14, none⟩)) from rfl).trans (vif_t hg).symm) ty24 (sub_nm 14 hB2.cells rfl))) ?_; refine L.guardv (v := (.bool (decide (v.value = x.value)))) (wanted_yes rfl rfl rfl) (fun hg => (op_eqle (a := (v.value : Nm)) (b := (x.value : Nm)) rfl ((show _ = vif _ (Enc.val (v.value : Nm)) from rfl).trans (vif_t hg).symm) ((show _ = vif _ (Enc.val (x.value : Nm)) from rfl).trans (vif_t hg).symm) eq24 (fun _ => ⟨_, rfl⟩) Tryz.eqGuardType24)) ?_; refine L.val rfl (op_and rfl rfl rfl rfl) ?_; refine L.val rfl (op_assign rfl rfl) ?_; refine L.nil ?_; refine thenF_nor ?_; refine W.ret ?_; exact end_ret1 (v := (.bool ((decide (v.choice = x.choice)) && (decide (v.value = x.value))))) rfl rfl ⟨by simp only [rLike_f], hE⟩
def rCounts_f (m : Int) (v : Vt) (x : Vt) : Bool := ((((decide (x.parent = v.parent)) && (decide (x.slot = v.slot))) && (rHas_f m x.signer)) && (rHas_f m x.slot)) && (rValid_f x)
set_option maxRecDepth 100000 in
theorem rCounts_ok {m : Int} {v : Vt} {x : Vt}  {w : World}  : Gives Tryz.prog 150 #[(.int .i64 m), (Enc.val (v : Vt)), (Enc.val (x : Vt))] w fun u w' => u = (.bool (rCounts_f m v x)) ∧ Ext w w' := by
 have hE : Ext w w := Ext.refl w; refine gives_of_W Tryz.func150 rfl Tryz.ntmps150 rfl ?_; refine W.seq ?_; refine W.region (by rfl) ?_; refine L.step rfl (op_box (cs := (Enc.cells (v : Vt))) rfl rfl rfl) ?_; rintro _ w1 ⟨b1, rfl, hb1, hB1, hx1⟩; have hE := hE.trans hx1; refine L.step rfl (op_box (cs := (Enc.cells (x : Vt))) rfl rfl rfl) ?_; rintro _ w2 ⟨b2, rfl, hb2, hB2, hx2⟩; have hE := hE.trans hx2; have hB1 := hB1.ext hx2; refine L.val (v := (.bool false)) rfl (op_assign rfl rfl) ?_; refine L.nil ?_; refine thenF_nor ?_; refine W.seq ?_; refine W.region (by rfl) ?_; refine L.val rfl (op_field rfl rfl fo47_6 rfl) ?_; refine L.val rfl (op_load (v := (x.parent : Nm)) rfl rfl ty24 (sub_nm 6 hB2.cells rfl)) ?_; refine L.val rfl (op_field rfl rfl fo47_6 rfl) ?_; refine L.val rfl (op_load (v := (v.parent : Nm)) rfl rfl ty24 (sub_nm 6 hB1.cells rfl)) ?_; refine L.val rfl (op_eqle (a := (x.parent : Nm)) (b := (v.parent : Nm)) rfl rfl rfl eq24 (fun _ => ⟨_, rfl⟩) Tryz.eqGuardType24) ?_; refine L.val rfl (op_move rfl rfl) ?_; refine L.guardv (v := (.pointer (some ⟨b2, 1, none⟩))) (wanted_yes rfl rfl rfl) (fun hg => (op_field rfl rfl fo47_1 rfl)) ?_; refine L.guardv (v := (.int .i64 x.slot)) (wanted_yes rfl rfl rfl) (fun hg => (op_load1 rfl ((show _ = vif _ (.pointer (some ⟨b2, 1, none⟩)) from rfl).trans (vif_t hg).symm) one3 (hB2.cells.one (n := 1) rfl))) ?_; refine L.guardv (v := (.pointer (some ⟨b1, 1, none⟩))) (wanted_yes rfl rfl rfl) (fun hg => (op_field rfl rfl fo47_1 rfl)) ?_; refine L.guardv (v := (.int .i64 v.slot)) (wanted_yes rfl rfl rfl) (fun hg => (op_load1 rfl ((show _ = vif _ (.pointer (some ⟨b1, 1, none⟩)) from rfl).trans (vif_t hg).symm) one3 (hB1.cells.one (n := 1) rfl))) ?_; refine L.guardv (v := (.bool (decide (x.slot = v.slot)))) (wanted_yes rfl rfl rfl) (fun hg => (op_eql rfl ((show _ = vif _ (.int .i64 x.slot) from rfl).trans (vif_t hg).symm) ((show _ = vif _ (.int .i64 v.slot) from rfl).trans (vif_t hg).symm))) ?_; refine L.val rfl (op_and rfl rfl rfl rfl) ?_; refine L.val rfl (op_move rfl rfl) ?_; refine L.guardv (v := (.int .i64 m)) (wanted_yes rfl rfl rfl) (fun hg => (op_move rfl rfl)) ?_; refine L.guardv (v := (.pointer (some ⟨b2, 4, none⟩))) (wanted_yes rfl rfl rfl) (fun hg => (op_field rfl rfl fo47_4 rfl)) ?_; refine L.guardv (v := (.int .i64 x.signer)) (wanted_yes rfl rfl rfl) (fun hg => (op_load1 rfl ((show _ = vif _ (.pointer (some ⟨b2, 4, none⟩)) from rfl).trans (vif_t hg).symm) one3 (hB2.cells.one (n := 4) rfl))) ?_; refine L.guardc (v := (.bool (rHas_f m x.signer))) (wanted_yes rfl rfl rfl) (fun hg => (OpS.call (op_call rfl (argsC ((show _ = vif _ (.int .i64 m) from rfl).trans (vif_t hg).symm) (argsC ((show _ = vif _ (.int .i64 x.signer) from rfl).trans (vif_t hg).symm) argsN)) Tryz.func101 rfl rfl) rHas_ok)) ?_; intro w3 hx3; have hE := hE.trans hx3; have hB2 := hB2.ext hx3; refine L.val rfl (op_and rfl rfl rfl rfl) ?_; refine L.val rfl (op_move rfl rfl) ?_; refine L.guardv (v := (.int .i64 m)) (wanted_yes rfl rfl rfl) (fun hg => (op_move rfl rfl)) ?_; refine L.guardv (v := (.pointer (some ⟨b2, 1, none⟩))) (wanted_yes rfl rfl rfl) (fun hg => (op_field rfl rfl fo47_1 rfl)) ?_; refine L.guardv (v := (.int .i64 x.slot)) (wanted_yes rfl rfl rfl) (fun hg => (op_load1 rfl ((show _ = vif _ (.pointer (some ⟨b2, 1, none⟩)) from rfl).trans (vif_t hg).symm) one3 (hB2.cells.one (n := 1) rfl))) ?_; refine L.guardc (v := (.bool (rHas_f m x.slot))) (wanted_yes rfl rfl rfl) (fun hg => (OpS.call (op_call rfl (argsC ((show _ = vif _ (.int .i64 m) from rfl).trans (vif_t hg).symm) (argsC ((show _ = vif _ (.int .i64 x.slot) from rfl).trans (vif_t hg).symm) argsN)) Tryz.func101 rfl rfl) rHas_ok)) ?_; intro w4 hx4; have hE := hE.trans hx4; have hB2 := hB2.ext hx4; refine L.val rfl (op_and rfl rfl rfl rfl) ?_; refine L.val rfl (op_move rfl rfl) ?_; refine L.guardv (v := (Enc.val (x : Vt))) (wanted_yes rfl rfl rfl) (fun hg => (op_load (v := (x : Vt)) rfl rfl ty47 hB2.cells)) ?_; refine L.guardc (v := (.bool (rValid_f x))) (wanted_yes rfl rfl rfl) (fun hg => (OpS.call (op_call rfl (argsC ((show _ = vif _ (Enc.val (x : Vt)) from rfl).trans (vif_t hg).symm) argsN) Tryz.func100 rfl rfl) rValid_ok)) ?_; intro w5 hx5; have hE := hE.trans hx5; refine L.val rfl (op_and rfl rfl rfl rfl) ?_; refine L.val rfl (op_assign rfl rfl) ?_; refine L.nil ?_; refine thenF_nor ?_; refine W.ret ?_; exact end_ret1 (v := (.bool (((((decide (x.parent = v.parent)) && (decide (x.slot = v.slot))) && (rHas_f m x.signer)) && (rHas_f m x.slot)) && (rValid_f x)))) rfl rfl ⟨by simp only [rCounts_f], hE⟩
end Go.Proofs.YtdknjfmjddlphaaGreat
set_option linter.unusedSimpArgs false
set_option linter.unusedVariables false
namespace Go.Proofs.YtdknjfmjddlphaaGreat
open Go Go.Fk
theorem rQuorum_eq (n : Int) : rQuorum_f n = quorum_f n := rfl
theorem rLike_eq (v x : Vt) : rLike_f v x = same_f v x := rfl
theorem rNmLess_eq (a b : Nm) : rNmLess_f a b = hashLess_f a b := by
 unfold rNmLess_f hashLess_f; cases h : decide (a = b) with
 | true =>
  rw [decide_eq_true_eq] at h
  subst h
  rw [cond_true, decide_eq_false_iff_not]
  omega
 | false => rfl
theorem rVtLess_eq (a b : Vt) : rVtLess_f a b = voteLess_f a b := by
 unfold rVtLess_f voteLess_f; rw [rNmLess_eq, rNmLess_eq]
theorem rValid_eq (v : Vt) : rValid_f v = valid_f v := by
 by_cases h0 : v.kind < 1 ∨ 7 < v.kind
 ·have h1 : valid_f v = false := by
   cases hv : valid_f v with
   | false => rfl
   | true => have := (valid_bounds hv).1; omega
  rw [h1]; unfold rValid_f
  have : ((((decide (v.kind < 1)) || (decide (7 < v.kind))) || (decide (v.signer < 0))) || (decide (10 ≤ v.signer))) = true := by
   rcases h0 with h | h <;> simp [h]
  rw [this]; rfl
 ·have hk : v.kind = 1 ∨ v.kind = 2 ∨ v.kind = 3 ∨ v.kind = 4 ∨ v.kind = 5 ∨ v.kind = 6 ∨ v.kind = 7 := by omega
  rw [Bool.eq_iff_iff]; rcases hk with h | h | h | h | h | h | h <;>
  ·unfold rValid_f valid_f rAgreement_f between_f; by_cases z : v.value = Nm.zero <;> by_cases c : v.choice = 1 <;> by_cases s : iandn v.support 1023 = 0 <;> simp [h, z, c, s] <;> omega
theorem rCounts_eq (m : Int) (v x : Vt) : rCounts_f m v x = ((((decide (x.parent = v.parent)) && (decide (x.slot = v.slot))) && (has_f m x.signer)) && (has_f m x.slot) && (valid_f x)) := by
 unfold rCounts_f; rw [rValid_eq]; rfl
end Go.Proofs.YtdknjfmjddlphaaGreat
set_option linter.unusedSimpArgs false
set_option linter.unusedVariables false
namespace Go.Proofs.YtdknjfmjddlphaaGreat
open Go Go.Fk
theorem any_take_go {α : Type} [Inhabited α] {l : List α} {p : α → Bool} {k : Nat} (hk : k < l.length) : (l.take (k + 1)).any p = ((l.take k).any p || p l[k]!) := by
 rw [take_bang hk, List.any_append]; simp
end Go.Proofs.YtdknjfmjddlphaaGreat
set_option linter.unusedSimpArgs false
set_option linter.unusedVariables false
namespace Go.Proofs.YtdknjfmjddlphaaGreat
open Go Go.Fk
theorem ids_upto10 (m : Int) : idsUpto m 10 = ids_f m := rfl
end Go.Proofs.YtdknjfmjddlphaaGreat
set_option linter.unusedSimpArgs false
set_option linter.unusedVariables false
namespace Go.Proofs.YtdknjfmjddlphaaGreat
open Go Go.Fk
/-- a member's vote of a kind and round that counts, with the value of v; or mixed -/
def sdF_f (m : Int) (v x : Vt) (s kind round : Int) : Bool := ((((decide (x.signer = s)) && (decide (x.kind = kind))) && (decide (x.round = round))) && (rLike_f v x)) && (rCounts_f m v x)
def sdT_f (m : Int) (v x : Vt) (s kind round : Int) : Bool := ((((decide (x.signer = s)) && (decide (x.kind = kind))) && (decide (x.round = round))) && ((true && (decide (x.choice = 2))) || ((!true) && (rLike_f v x)))) && (rCounts_f m v x)
def rExact_f (m s : Int) : Bool := bif (ids_f s).all (fun i => rHas_f m i) then decide (((ids_f s).length : Int) = rQuorum_f (size_f m)) else false
def rAll_f (m : Int) (v : Vt) (a : List Vt) (kind round : Int) : Bool := bif (ids_f v.support).all (fun i => a.any fun x => sdF_f m v x i kind round) then rExact_f m v.support else false
def adF (m : Int) (v : Vt) (a : List Vt) (i : Int) : Bool := a.any fun x => sdF_f m v x i 4 (v.round - 1)
def adT (m : Int) (v : Vt) (a : List Vt) (i : Int) : Bool := a.any fun x => sdT_f m v x i 4 (v.round - 1)
def rAdopts_f (m : Int) (v : Vt) (a : List Vt) : Bool := bif (ids_f v.support).all (fun i => !((!(adF m v a i)) && (!(adT m v a i)))) then ((ids_f v.support).any (adF m v a)) && (rExact_f m v.support) else false
/-- some id below ten -/
def anyTen (p : Int → Bool) : Bool := (List.range 10).any fun k => p (k : Int)
theorem ten_go {p : Int → Bool} {k : Nat} {b : Bool} (h : ((List.range 10).drop k).any (fun k => p (k : Int)) = b) (hk : k < 10) (hp : p (k : Int) = false) : ((List.range 10).drop (k + 1)).any (fun k => p (k : Int)) = b := by
 rw [drop_bang (by simpa using hk), List.any_cons] at h; have : (List.range 10)[k]! = k := by rw [getElem!_pos _ k (by simpa using hk)]; simp
 rw [this, hp, Bool.false_or] at h; exact h
theorem ten_yes {p : Int → Bool} {k : Nat} {b : Bool} (h : ((List.range 10).drop k).any (fun k => p (k : Int)) = b) (hk : k < 10) (hp : p (k : Int) = true) : true = b := by
 rw [drop_bang (by simpa using hk), List.any_cons] at h; have : (List.range 10)[k]! = k := by rw [getElem!_pos _ k (by simpa using hk)]; simp
 rw [this, hp, Bool.true_or] at h; exact h
theorem ten_end {p : Int → Bool} {k : Nat} {b : Bool} (h : ((List.range 10).drop k).any (fun k => p (k : Int)) = b) (hk : 10 ≤ k) : false = b := by
 rw [List.drop_of_length_le (by simpa using hk)] at h; exact h
def caF (m : Int) (v : Vt) (a : List Vt) (i : Int) : Bool := a.any fun x => sdF_f m v x i 3 (v.round - 1)
def rCarries_f (m : Int) (v : Vt) (a : List Vt) : Bool := bif (ids_f v.support).all (adT m v a) then (bif !(rExact_f m v.support) then false else anyTen (caF m v a)) else false
/-- two: who has a Prevote of the round; the first; whether there is one; whether two are unlike -/
def twoSkip (m : Int) (v x : Vt) : Bool := (((!decide (x.kind = 3)) || (!decide (x.round = v.round))) || (!(rHas_f v.support x.signer))) || (!(rCounts_f m v x))
def twoStep (m : Int) (v : Vt) (s : Int × Vt × Bool × Bool) (x : Vt) : Int × Vt × Bool × Bool :=
  bif twoSkip m v x then s else (ior s.1 (rBit_f x.signer), bif !s.2.2.1 then x else s.2.1, bif !s.2.2.1 then true else s.2.2.1, bif (s.2.2.1 && (!(rLike_f s.2.1 x))) then true else s.2.2.2)
def two_s (m : Int) (v : Vt) (a : List Vt) : Int × Vt × Bool × Bool := a.foldl (twoStep m v) (0, default, false, false)
def rTwo_f (m : Int) (v : Vt) (a : List Vt) : Bool := (((two_s m v a).2.2.2) && (decide (size_f (two_s m v a).1 = size_f v.support))) && (rExact_f m v.support)
theorem two_skip {m : Int} {v x y : Vt} {hv : Int} {fd un : Bool} (h : twoSkip m v x = true) : twoStep m v (hv, y, fd, un) x = (hv, y, fd, un) := by unfold twoStep; rw [h]; rfl
theorem two_take {m : Int} {v x y : Vt} {hv : Int} {fd un p q : Bool} (h : twoSkip m v x = false) (h1 : (fd && (!(rLike_f y x))) = p) (h2 : (!fd) = q) : twoStep m v (hv, y, fd, un) x = (ior hv (rBit_f x.signer), bif q then x else y, bif q then true else fd, bif p then true else un) := by
 unfold twoStep; rw [h, cond_false, h1, h2]
def ecF (m : Int) (v : Vt) (a : List Vt) (i : Int) : Bool := a.any fun x => sdF_f m v x i 1 0
def rGuard (m : Int) (v : Vt) : Bool := (((!(rValid_f v)) || (decide (4 < v.kind))) || (!(rHas_f m v.signer))) || (!(rHas_f m v.slot))
def rAllowed_f (m : Int) (v : Vt) (a : List Vt) : Bool :=
  bif rGuard m v then false
  else (bif decide (v.kind = 1) then decide (v.signer = v.slot)
  else (bif decide (v.kind = 2) then anyTen (ecF m v a)
  else (bif (decide (v.kind = 3)) && (decide (v.round = 1)) then (decide (v.choice = 0)) || (rAll_f m v a 2 0)
  else (bif decide (v.kind = 3) then (rAdopts_f m v a) || (rCarries_f m v a)
  else (bif decide (v.choice = 2) then rTwo_f m v a else rAll_f m v a 3 v.round)))))
theorem rGuard_bounds {m : Int} {v : Vt} (h : rGuard m v = false) : 0 ≤ v.round ∧ v.round ≤ 100 := by
 unfold rGuard at h; simp only [Bool.or_eq_false_iff, Bool.not_eq_false'] at h; have h1 := h.1.1.1; rw [rValid_eq] at h1; have := (valid_bounds h1).2.2.2; omega
def whoP (kind round choice : Int) (value : Nm) (x : Vt) : Bool := (((decide (x.kind = kind)) && (decide (x.round = round))) && (decide (x.choice = choice))) && (decide (x.value = value))
def whoStep (kind round choice : Int) (value : Nm) (t : Int) (x : Vt) : Int := bif whoP kind round choice value x then ior t (rBit_f x.signer) else t
def rWho_f (a : List Vt) (kind round choice : Int) (value : Nm) : Int := a.foldl (whoStep kind round choice value) 0
theorem who_yes {kind round choice : Int} {value : Nm} {t : Int} {x : Vt} (h : whoP kind round choice value x = true) : whoStep kind round choice value t x = ior t (rBit_f x.signer) := by unfold whoStep; rw [h]; rfl
theorem who_no {kind round choice : Int} {value : Nm} {t : Int} {x : Vt} (h : whoP kind round choice value x = false) : whoStep kind round choice value t x = t := by unfold whoStep; rw [h]; rfl
end Go.Proofs.YtdknjfmjddlphaaGreat
set_option linter.unusedSimpArgs false
set_option linter.unusedVariables false
namespace Go.Proofs.YtdknjfmjddlphaaGreat
open Go Go.Fk
set_option maxRecDepth 100000 in
theorem rIDs_ok {m : Int}  {w : World}  : Gives Tryz.prog 71 #[(.int .i64 m)] w fun u w' => SlR w' u (ids_f m : List Int) ∧ Ext w w' := by
 have hE : Ext w w := Ext.refl w; refine gives_of_W Tryz.func71 rfl Tryz.ntmps71 rfl ?_; refine W.seq ?_; refine W.region (by rfl) ?_; refine L.val rfl (op_assign rfl rfl) ?_; refine L.nil ?_; refine thenF_nor ?_; refine W.seq ?_; refine W.region (by rfl) ?_; refine L.val rfl (op_assign rfl rfl) ?_; refine L.nil ?_; refine thenF_nor ?_; refine W.seq ?_; refine W.seq ?_; refine W.region (by rfl) ?_; refine L.val rfl (op_assign rfl rfl) ?_; refine L.nil ?_; refine thenF_nor ?_; refine W.block ?_; have S1_hE := hE; have hS1 : Ext w w := Ext.refl _; refine W.loopg (γ := Nat) (fun (k : Nat) (f : Fr) (ww : World) => k ≤ 10 ∧ f 0 = (.int .i64 m) ∧ f 2 = (.slice none 0 0) ∧ f 4 = (.int .i64 ((k : Nat) : Int)) ∧ Fk.Own ww w.heap.size 3 (f 3) (idsUpto m k) ∧ Ext w ww) (fun (k : Nat) => 10 - k) 0 ⟨(by (try dsimp only); omega), rfl, rfl, rfl, (own_at (v := .slice none 0 0) rfl (Fk.Own.nil _ _ _)), hS1⟩ ?_; rintro k f2 w2 ⟨hk, s2_0, s2_2, s2_4, hO2_3, hS1⟩; have hE := S1_hE.trans hS1; obtain ⟨v2_3, s2_3⟩ : ∃ v, f2 3 = v := ⟨_, rfl⟩; rw [s2_3] at hO2_3; have hidl := idsUpto_len m k; refine W.seq ?_; refine W.seq ?_; refine W.region (by rfl) ?_; refine L.val rfl (op_move rfl s2_4) ?_; refine L.val rfl (op_lss rfl rfl rfl) ?_; refine L.nil ?_; refine thenF_nor ?_; refine W.cond (t := decide (((k : Nat) : Int) < 10)) rfl (fun hc3 => ?_) (fun hc3 => ?_)
 ·have hp3 := hc3; simp only [Bool.and_eq_true, Bool.or_eq_true, Bool.and_eq_false_iff, Bool.or_eq_false_iff, Bool.not_eq_true', Bool.not_eq_false', decide_eq_true_eq, decide_eq_false_iff_not] at hp3; refine W.skip ?_; refine thenF_nor ?_; refine W.seq ?_; refine W.block ?_; refine W.seq ?_; refine W.region (by rfl) ?_; refine L.val rfl (op_move rfl s2_0) ?_; refine L.val rfl (op_move rfl s2_4) ?_; refine L.call (v := (.bool (rHas_f m ((k : Nat) : Int)))) rfl (OpS.call (op_call rfl (argsC rfl (argsC rfl argsN)) Tryz.func101 rfl rfl) rHas_ok) ?_; intro w4 hx4; have hE := hE.trans hx4; have hS1 := hS1.trans hx4; have hO2_3 := hO2_3.ext hx4; refine L.nil ?_; refine thenF_nor ?_; refine W.cond (t := rHas_f m ((k : Nat) : Int)) rfl (fun hc5 => ?_) (fun hc5 => ?_)
  ·have hp5 := hc5; have hstep := idsUpto_yes (m := m) (k := k) hc5; refine W.region (by rfl) ?_; refine L.val rfl (op_move rfl s2_3) ?_; refine L.val rfl (op_move rfl s2_4) ?_; refine L.step rfl (op_slice1 (a := ((k : Nat) : Int)) rfl rfl sl61 zs3 (by decide)) ?_; rintro _ w6 ⟨b6, rfl, hb6, hB6, hx6⟩; have hE := hE.trans hx6; have hS1 := hS1.trans hx6; have hO2_3 := hO2_3.ext hx6; refine L.step rfl (op_append (a := ((k : Nat) : Int)) (ad := ⟨b6, 0, none⟩) rfl rfl rfl sl61 zs3 bt3 hO2_3 hB6.cells (by omega) (by decide) hS1.size) ?_; rintro v7 w7 ⟨hO7, hg7⟩; have hS1 := hS1.own hO2_3 hg7; have hE := S1_hE.trans hS1; refine L.val rfl (op_assign rfl rfl) ?_; refine L.nil ?_; refine blockF_nor ?_; refine thenF_nor ?_; refine W.region (by rfl) ?_; refine L.val rfl (op_move rfl s2_4) ?_; refine L.val rfl (op_add (c := ((k + 1 : Nat) : Int)) rfl rfl rfl (by omega) (by omega)) ?_; refine L.val rfl (op_assign rfl rfl) ?_; refine L.nil ?_; refine thenF_nor ?_; exact ⟨k + 1, ⟨(by (try dsimp only); omega), s2_0, s2_2, rfl, (own_at (v := v7) rfl (by rw [hstep]; exact hO7)), hS1⟩, (by (try dsimp only); omega)⟩
  ·have hp5 := hc5; have hstep := idsUpto_no (m := m) (k := k) hc5; refine W.skip ?_; refine blockF_nor ?_; refine thenF_nor ?_; refine W.region (by rfl) ?_; refine L.val rfl (op_move rfl s2_4) ?_; refine L.val rfl (op_add (c := ((k + 1 : Nat) : Int)) rfl rfl rfl (by omega) (by omega)) ?_; refine L.val rfl (op_assign rfl rfl) ?_; refine L.nil ?_; refine thenF_nor ?_; exact ⟨k + 1, ⟨(by (try dsimp only); omega), s2_0, s2_2, rfl, (own_at (v := v2_3) s2_3 (by rw [hstep]; exact hO2_3)), hS1⟩, (by (try dsimp only); omega)⟩
 ·have hp3 := hc3; simp only [Bool.and_eq_true, Bool.or_eq_true, Bool.and_eq_false_iff, Bool.or_eq_false_iff, Bool.not_eq_true', Bool.not_eq_false', decide_eq_true_eq, decide_eq_false_iff_not] at hp3; have hk10 : k = 10 := by omega
  subst hk10; rw [ids_upto10] at hO2_3; refine W.exit ?_; refine thenF_exit ?_; refine thenF_exit ?_; refine blockF_hit ?_; refine thenF_nor ?_; refine W.seq ?_; obtain ⟨A8, c8, hv8, hR8, hcap8⟩ := (hO2_3).form; have hlen8 := hR8.len; refine W.region (by rfl) ?_; refine L.val rfl (op_move rfl ((show _ = v2_3 from s2_3).trans hv8)) ?_; refine L.val rfl (op_assign rfl rfl) ?_; refine L.nil ?_; refine thenF_nor ?_; refine W.ret ?_; exact end_ret1 (v := (.slice A8 (ids_f m).length c8)) rfl rfl ⟨(⟨_, _, _, _, rfl, hcap8, hR8⟩ : SlR _ _ _), hE⟩
set_option maxRecDepth 100000 in
theorem rSize_ok {m : Int}  {w : World}  : Gives Tryz.prog 74 #[(.int .i64 m)] w fun u w' => u = (.int .i64 (size_f m)) ∧ Ext w w' := by
 have hE : Ext w w := Ext.refl w; refine gives_of_W Tryz.func74 rfl Tryz.ntmps74 rfl ?_; have hsi := size_ids m; refine W.seq ?_; refine W.region (by rfl) ?_; refine L.val rfl (op_assign rfl rfl) ?_; refine L.nil ?_; refine thenF_nor ?_; refine W.seq ?_; refine W.region (by rfl) ?_; refine L.val rfl (op_move rfl rfl) ?_; refine L.step rfl (OpS.call (op_call rfl (argsC rfl argsN) Tryz.func71 rfl rfl) rIDs_ok) ?_; rintro _ w1 ⟨⟨A1, c1, lo1, hi1, rfl, hcap1, hR1⟩, hx1⟩; have hE := hE.trans hx1; have hlen1 := hR1.len; refine L.val rfl (op_len rfl rfl ln61) ?_; refine L.val rfl (op_assign rfl rfl) ?_; refine L.nil ?_; refine thenF_nor ?_; refine W.ret ?_; exact end_ret1 (v := (.int .i64 ((ids_f m).length : Int))) rfl rfl ⟨(by rw [hsi]), hE⟩
set_option maxRecDepth 100000 in
theorem saidF_ok {m : Int} {v : Vt} {A_a : Option Addr} {c_a lo_a hi_a : Nat} {a : List Vt} {s : Int} {kind : Int} {round : Int}  {w : World} (hR_a : Rd w lo_a hi_a A_a a) : Gives Tryz.prog 102 #[(.int .i64 m), (Enc.val (v : Vt)), (.slice A_a a.length c_a), (.int .i64 s), (.int .i64 kind), (.int .i64 round), (.bool false)] w fun u w' => u = (.bool (a.any (fun x => sdF_f m v x s kind round))) ∧ Ext w w' := by
 have hE : Ext w w := Ext.refl w; have hlen_a := hR_a.len; refine gives_of_W Tryz.func102 rfl Tryz.ntmps102 rfl ?_; refine W.seq ?_; refine W.region (by rfl) ?_; refine L.step rfl (op_box (cs := (Enc.cells (v : Vt))) rfl rfl rfl) ?_; rintro _ w1 ⟨b1, rfl, hb1, hB1, hx1⟩; have hE := hE.trans hx1; have hR_a := hR_a.ext hx1; refine L.val (v := (.bool false)) rfl (op_assign rfl rfl) ?_; refine L.nil ?_; refine thenF_nor ?_; refine W.seq ?_; refine W.seq ?_; refine W.region (by rfl) ?_; refine L.val rfl (op_assign rfl rfl) ?_; refine L.nil ?_; refine thenF_nor ?_; refine W.block ?_; have S2_hR_a := hR_a; have S2_hB1 := hB1; have S2_hE := hE; have hS2 : Ext w1 w1 := Ext.refl _; refine W.loopg (γ := Nat) (fun (k : Nat) (f : Fr) (ww : World) => k ≤ a.length ∧ (a.drop k).any (fun x => sdF_f m v x s kind round) = a.any (fun x => sdF_f m v x s kind round) ∧ f 0 = (.int .i64 m) ∧ f 2 = (.slice A_a a.length c_a) ∧ f 3 = (.int .i64 s) ∧ f 4 = (.int .i64 kind) ∧ f 5 = (.int .i64 round) ∧ f 6 = (.bool false) ∧ f 8 = (.pointer (some ⟨b1, 0, none⟩)) ∧ f 15 = (.int .i64 ((k : Nat) : Int)) ∧ Ext w1 ww) (fun (k : Nat) => a.length - k) 0 ⟨(by (try dsimp only); omega), rfl, rfl, rfl, rfl, rfl, rfl, rfl, rfl, rfl, hS2⟩ ?_; rintro k f3 w3 ⟨hk, hany, s3_0, s3_2, s3_3, s3_4, s3_5, s3_6, s3_8, s3_15, hS2⟩; have hR_a := S2_hR_a.ext hS2; have hB1 := S2_hB1.ext hS2; have hE := S2_hE.trans hS2; refine W.seq ?_; refine W.seq ?_; refine W.region (by rfl) ?_; refine L.val rfl (op_move rfl s3_15) ?_; refine L.val rfl (op_move rfl s3_2) ?_; refine L.val rfl (op_len rfl rfl ln25) ?_; refine L.val rfl (op_lss rfl rfl rfl) ?_; refine L.nil ?_; refine thenF_nor ?_; refine W.cond (t := decide (((k : Nat) : Int) < (a.length : Int))) rfl (fun hc4 => ?_) (fun hc4 => ?_)
 ·have hp4 := hc4; simp only [Bool.and_eq_true, Bool.or_eq_true, Bool.and_eq_false_iff, Bool.or_eq_false_iff, Bool.not_eq_true', Bool.not_eq_false', decide_eq_true_eq, decide_eq_false_iff_not] at hp4; refine W.skip ?_; refine thenF_nor ?_; refine W.seq ?_; refine W.block ?_; refine W.seq ?_; refine W.region (by rfl) ?_; refine L.val rfl (op_move rfl s3_2) ?_; refine L.val rfl (op_move rfl s3_15) ?_; refine L.val rfl (op_index (k := k) rfl rfl rfl sl25 (hR_a.getA (get_bang (l := a) (k := k) (by omega))).1 rfl (by omega) rfl) ?_; refine L.val rfl (op_load (v := (a[k]! : Vt)) rfl rfl ty47 (hR_a.getA (get_bang (l := a) (k := k) (by omega))).2) ?_; refine L.newvar (v := (Enc.val (a[k]! : Vt))) (cs := (Enc.cells (a[k]! : Vt))) rfl rfl rfl rfl rfl rfl (fun _ => rfl) rfl si47 zs47 (Enc.one _) ?_; intro b5 w5 hb5 hB5 hx5; have hbb5_hE := Nat.le_trans hE.size hb5; have hbb5_hS2 := Nat.le_trans hS2.size hb5; have hE := hE.trans hx5; have hS2 := hS2.trans hx5; have hB1 := hB1.ext hx5; refine L.nil ?_; refine thenF_nor ?_; refine W.seq ?_; refine W.region (by rfl) ?_; refine L.val rfl (op_field rfl rfl fo47_4 rfl) ?_; refine L.val rfl (op_load1 rfl rfl one3 (hB5.cells.one (n := 4) rfl)) ?_; refine L.val rfl (op_move rfl s3_3) ?_; refine L.val rfl (op_eql rfl rfl rfl) ?_; refine L.val rfl (op_move rfl rfl) ?_; refine L.guardv (v := (.pointer (some ⟨b5, 0, none⟩))) (wanted_yes rfl rfl rfl) (fun hg => (op_field rfl rfl fo47_0 rfl)) ?_; refine L.guardv (v := (.int .i64 ((a[k]!).kind))) (wanted_yes rfl rfl rfl) (fun hg => (op_load1 rfl ((show _ = vif _ (.pointer (some ⟨b5, 0, none⟩)) from rfl).trans (vif_t hg).symm) one3 (hB5.cells.one (n := 0) rfl))) ?_; refine L.guardv (v := (.int .i64 kind)) (wanted_yes rfl rfl rfl) (fun hg => (op_move rfl s3_4)) ?_; refine L.guardv (v := (.bool (decide (((a[k]!).kind) = kind)))) (wanted_yes rfl rfl rfl) (fun hg => (op_eql rfl ((show _ = vif _ (.int .i64 ((a[k]!).kind)) from rfl).trans (vif_t hg).symm) ((show _ = vif _ (.int .i64 kind) from rfl).trans (vif_t hg).symm))) ?_; refine L.val rfl (op_and rfl rfl rfl rfl) ?_; refine L.val rfl (op_move rfl rfl) ?_; refine L.guardv (v := (.pointer (some ⟨b5, 2, none⟩))) (wanted_yes rfl rfl rfl) (fun hg => (op_field rfl rfl fo47_2 rfl)) ?_; refine L.guardv (v := (.int .i64 ((a[k]!).round))) (wanted_yes rfl rfl rfl) (fun hg => (op_load1 rfl ((show _ = vif _ (.pointer (some ⟨b5, 2, none⟩)) from rfl).trans (vif_t hg).symm) one3 (hB5.cells.one (n := 2) rfl))) ?_; refine L.guardv (v := (.int .i64 round)) (wanted_yes rfl rfl rfl) (fun hg => (op_move rfl s3_5)) ?_; refine L.guardv (v := (.bool (decide (((a[k]!).round) = round)))) (wanted_yes rfl rfl rfl) (fun hg => (op_eql rfl ((show _ = vif _ (.int .i64 ((a[k]!).round)) from rfl).trans (vif_t hg).symm) ((show _ = vif _ (.int .i64 round) from rfl).trans (vif_t hg).symm))) ?_; refine L.val rfl (op_and rfl rfl rfl rfl) ?_; refine L.val rfl (op_move rfl rfl) ?_; refine L.guardv (v := (.bool false)) (wanted_yes rfl rfl rfl) (fun hg => (op_move rfl s3_6)) ?_; refine L.guardv (v := (.bool false)) (wanted_yes rfl rfl rfl) (fun hg => (op_move rfl ((show _ = vif _ (.bool false) from rfl).trans (vif_t hg).symm))) ?_; refine L.guardv (v := (.pointer (some ⟨b5, 3, none⟩))) (wanted_vif rfl rfl rfl) (fun hg => (op_field rfl rfl fo47_3 rfl)) ?_; refine L.guardv (v := (.int .i64 ((a[k]!).choice))) (wanted_vif rfl rfl rfl) (fun hg => (op_load1 rfl ((show _ = vif _ (.pointer (some ⟨b5, 3, none⟩)) from rfl).trans (vif_t hg).symm) one3 (hB5.cells.one (n := 3) rfl))) ?_; refine L.guardv (v := (.bool (decide (((a[k]!).choice) = 2)))) (wanted_vif rfl rfl rfl) (fun hg => (op_eql rfl ((show _ = vif _ (.int .i64 ((a[k]!).choice)) from rfl).trans (vif_t hg).symm) rfl)) ?_; refine L.guardv (v := (.bool (false && (decide (((a[k]!).choice) = 2))))) (wanted_yes rfl rfl rfl) (fun hg => (op_and rfl ((show _ = vif _ (.bool false) from rfl).trans (vif_t hg).symm) ((show _ = vif _ _ from rfl).trans (vif_and hg)) rfl)) ?_; refine L.guardv (v := (.bool (false && (decide (((a[k]!).choice) = 2))))) (wanted_yes rfl rfl rfl) (fun hg => (op_move rfl ((show _ = vif _ (.bool (false && (decide (((a[k]!).choice) = 2)))) from rfl).trans (vif_t hg).symm))) ?_; refine L.guardv (v := (.bool false)) (wanted_vif rfl rfl rfl) (fun hg => (op_move rfl s3_6)) ?_; refine L.guardv (v := (.bool (!false))) (wanted_vif rfl rfl rfl) (fun hg => (op_not rfl ((show _ = vif _ (.bool false) from rfl).trans (vif_t hg).symm))) ?_; refine L.guardv (v := (.bool (!false))) (wanted_vif rfl rfl rfl) (fun hg => (op_move rfl ((show _ = vif _ (.bool (!false)) from rfl).trans (vif_t hg).symm))) ?_; refine L.guardv (v := (Enc.val (v : Vt))) (wanted_vif rfl rfl rfl) (fun hg => (op_load (v := (v : Vt)) rfl s3_8 ty47 hB1.cells)) ?_; refine L.guardv (v := (Enc.val (a[k]! : Vt))) (wanted_vif rfl rfl rfl) (fun hg => (op_load (v := (a[k]! : Vt)) rfl rfl ty47 hB5.cells)) ?_; refine L.guardc (v := (.bool (rLike_f v (a[k]!)))) (wanted_vif rfl rfl rfl) (fun hg => (OpS.call (op_call rfl (argsC ((show _ = vif _ (Enc.val (v : Vt)) from rfl).trans (vif_t hg).symm) (argsC ((show _ = vif _ (Enc.val (a[k]! : Vt)) from rfl).trans (vif_t hg).symm) argsN)) Tryz.func149 rfl rfl) rLike_ok)) ?_; intro w6 hx6; have hE := hE.trans hx6; have hS2 := hS2.trans hx6; have hB1 := hB1.ext hx6; have hB5 := hB5.ext hx6; refine L.guardv (v := (.bool ((!false) && (rLike_f v (a[k]!))))) (wanted_vif rfl rfl rfl) (fun hg => (op_and rfl ((show _ = vif _ (.bool (!false)) from rfl).trans (vif_t hg).symm) ((show _ = vif _ _ from rfl).trans (vif_and hg)) rfl)) ?_; refine L.guardv (v := (.bool ((false && (decide (((a[k]!).choice) = 2))) || ((!false) && (rLike_f v (a[k]!)))))) (wanted_yes rfl rfl rfl) (fun hg => (op_or rfl ((show _ = vif _ (.bool (false && (decide (((a[k]!).choice) = 2)))) from rfl).trans (vif_t hg).symm) rfl ((show _ = vif _ _ from rfl).trans (vif_or hg)))) ?_; refine L.val rfl (op_and rfl rfl rfl rfl) ?_; refine L.val rfl (op_move rfl rfl) ?_; refine L.guardv (v := (.int .i64 m)) (wanted_yes rfl rfl rfl) (fun hg => (op_move rfl s3_0)) ?_; refine L.guardv (v := (Enc.val (v : Vt))) (wanted_yes rfl rfl rfl) (fun hg => (op_load (v := (v : Vt)) rfl s3_8 ty47 hB1.cells)) ?_; refine L.guardv (v := (Enc.val (a[k]! : Vt))) (wanted_yes rfl rfl rfl) (fun hg => (op_load (v := (a[k]! : Vt)) rfl rfl ty47 hB5.cells)) ?_; refine L.guardc (v := (.bool (rCounts_f m v (a[k]!)))) (wanted_yes rfl rfl rfl) (fun hg => (OpS.call (op_call rfl (argsC ((show _ = vif _ (.int .i64 m) from rfl).trans (vif_t hg).symm) (argsC ((show _ = vif _ (Enc.val (v : Vt)) from rfl).trans (vif_t hg).symm) (argsC ((show _ = vif _ (Enc.val (a[k]! : Vt)) from rfl).trans (vif_t hg).symm) argsN))) Tryz.func150 rfl rfl) rCounts_ok)) ?_; intro w7 hx7; have hE := hE.trans hx7; have hS2 := hS2.trans hx7; refine L.val rfl (op_and rfl rfl rfl rfl) ?_; refine L.nil ?_; refine thenF_nor ?_; refine W.cond (t := ((((decide (((a[k]!).signer) = s)) && (decide (((a[k]!).kind) = kind))) && (decide (((a[k]!).round) = round))) && ((false && (decide (((a[k]!).choice) = 2))) || ((!false) && (rLike_f v (a[k]!))))) && (rCounts_f m v (a[k]!))) rfl (fun hc8 => ?_) (fun hc8 => ?_)
  ·have hp8 := hc8; simp only [Bool.and_eq_true, Bool.or_eq_true, Bool.and_eq_false_iff, Bool.or_eq_false_iff, Bool.not_eq_true', Bool.not_eq_false', decide_eq_true_eq, decide_eq_false_iff_not] at hp8; have hyes := hc8; have hres := any_yes (l := a) (k := k) (p := (fun x => sdF_f m v x s kind round)) hany (by omega) hyes; refine W.seq ?_; refine W.region (by rfl) ?_; refine L.val (v := (.bool true)) rfl (op_assign rfl rfl) ?_; refine L.nil ?_; refine thenF_nor ?_; refine W.ret ?_; refine blockF_ret ?_; refine thenF_ret ?_; refine thenF_ret ?_; refine blockF_ret ?_; refine thenF_ret ?_; exact end_ret1 (v := (.bool true)) rfl rfl ⟨(by rw [← hres]), hE⟩
  ·have hp8 := hc8; simp only [Bool.and_eq_true, Bool.or_eq_true, Bool.and_eq_false_iff, Bool.or_eq_false_iff, Bool.not_eq_true', Bool.not_eq_false', decide_eq_true_eq, decide_eq_false_iff_not] at hp8; have hno := hc8; refine W.skip ?_; refine blockF_nor ?_; refine thenF_nor ?_; refine W.region (by rfl) ?_; refine L.val rfl (op_move rfl s3_15) ?_; refine L.val rfl (op_add (c := ((k + 1 : Nat) : Int)) rfl rfl rfl (by omega) (by omega)) ?_; refine L.val rfl (op_assign rfl rfl) ?_; refine L.nil ?_; refine thenF_nor ?_; exact ⟨k + 1, ⟨(by (try dsimp only); omega), (any_go hany (by omega) hno), s3_0, s3_2, s3_3, s3_4, s3_5, s3_6, s3_8, rfl, hS2⟩, (by (try dsimp only); omega)⟩
 ·have hp4 := hc4; simp only [Bool.and_eq_true, Bool.or_eq_true, Bool.and_eq_false_iff, Bool.or_eq_false_iff, Bool.not_eq_true', Bool.not_eq_false', decide_eq_true_eq, decide_eq_false_iff_not] at hp4; have hres := any_end (l := a) (k := k) (p := (fun x => sdF_f m v x s kind round)) hany (by omega); refine W.exit ?_; refine thenF_exit ?_; refine thenF_exit ?_; refine blockF_hit ?_; refine thenF_nor ?_; refine W.seq ?_; refine W.region (by rfl) ?_; refine L.val (v := (.bool false)) rfl (op_assign rfl rfl) ?_; refine L.nil ?_; refine thenF_nor ?_; refine W.ret ?_; exact end_ret1 (v := (.bool false)) rfl rfl ⟨(by rw [← hres]), hE⟩
set_option maxRecDepth 100000 in
theorem saidT_ok {m : Int} {v : Vt} {A_a : Option Addr} {c_a lo_a hi_a : Nat} {a : List Vt} {s : Int} {kind : Int} {round : Int}  {w : World} (hR_a : Rd w lo_a hi_a A_a a) : Gives Tryz.prog 102 #[(.int .i64 m), (Enc.val (v : Vt)), (.slice A_a a.length c_a), (.int .i64 s), (.int .i64 kind), (.int .i64 round), (.bool true)] w fun u w' => u = (.bool (a.any (fun x => sdT_f m v x s kind round))) ∧ Ext w w' := by
 have hE : Ext w w := Ext.refl w; have hlen_a := hR_a.len; refine gives_of_W Tryz.func102 rfl Tryz.ntmps102 rfl ?_; refine W.seq ?_; refine W.region (by rfl) ?_; refine L.step rfl (op_box (cs := (Enc.cells (v : Vt))) rfl rfl rfl) ?_; rintro _ w1 ⟨b1, rfl, hb1, hB1, hx1⟩; have hE := hE.trans hx1; have hR_a := hR_a.ext hx1; refine L.val (v := (.bool false)) rfl (op_assign rfl rfl) ?_; refine L.nil ?_; refine thenF_nor ?_; refine W.seq ?_; refine W.seq ?_; refine W.region (by rfl) ?_; refine L.val rfl (op_assign rfl rfl) ?_; refine L.nil ?_; refine thenF_nor ?_; refine W.block ?_; have S2_hR_a := hR_a; have S2_hB1 := hB1; have S2_hE := hE; have hS2 : Ext w1 w1 := Ext.refl _; refine W.loopg (γ := Nat) (fun (k : Nat) (f : Fr) (ww : World) => k ≤ a.length ∧ (a.drop k).any (fun x => sdT_f m v x s kind round) = a.any (fun x => sdT_f m v x s kind round) ∧ f 0 = (.int .i64 m) ∧ f 2 = (.slice A_a a.length c_a) ∧ f 3 = (.int .i64 s) ∧ f 4 = (.int .i64 kind) ∧ f 5 = (.int .i64 round) ∧ f 6 = (.bool true) ∧ f 8 = (.pointer (some ⟨b1, 0, none⟩)) ∧ f 15 = (.int .i64 ((k : Nat) : Int)) ∧ Ext w1 ww) (fun (k : Nat) => a.length - k) 0 ⟨(by (try dsimp only); omega), rfl, rfl, rfl, rfl, rfl, rfl, rfl, rfl, rfl, hS2⟩ ?_; rintro k f3 w3 ⟨hk, hany, s3_0, s3_2, s3_3, s3_4, s3_5, s3_6, s3_8, s3_15, hS2⟩; have hR_a := S2_hR_a.ext hS2; have hB1 := S2_hB1.ext hS2; have hE := S2_hE.trans hS2; refine W.seq ?_; refine W.seq ?_; refine W.region (by rfl) ?_; refine L.val rfl (op_move rfl s3_15) ?_; refine L.val rfl (op_move rfl s3_2) ?_; refine L.val rfl (op_len rfl rfl ln25) ?_; refine L.val rfl (op_lss rfl rfl rfl) ?_; refine L.nil ?_; refine thenF_nor ?_; refine W.cond (t := decide (((k : Nat) : Int) < (a.length : Int))) rfl (fun hc4 => ?_) (fun hc4 => ?_)
 ·have hp4 := hc4; simp only [Bool.and_eq_true, Bool.or_eq_true, Bool.and_eq_false_iff, Bool.or_eq_false_iff, Bool.not_eq_true', Bool.not_eq_false', decide_eq_true_eq, decide_eq_false_iff_not] at hp4; refine W.skip ?_; refine thenF_nor ?_; refine W.seq ?_; refine W.block ?_; refine W.seq ?_; refine W.region (by rfl) ?_; refine L.val rfl (op_move rfl s3_2) ?_; refine L.val rfl (op_move rfl s3_15) ?_; refine L.val rfl (op_index (k := k) rfl rfl rfl sl25 (hR_a.getA (get_bang (l := a) (k := k) (by omega))).1 rfl (by omega) rfl) ?_; refine L.val rfl (op_load (v := (a[k]! : Vt)) rfl rfl ty47 (hR_a.getA (get_bang (l := a) (k := k) (by omega))).2) ?_; refine L.newvar (v := (Enc.val (a[k]! : Vt))) (cs := (Enc.cells (a[k]! : Vt))) rfl rfl rfl rfl rfl rfl (fun _ => rfl) rfl si47 zs47 (Enc.one _) ?_; intro b5 w5 hb5 hB5 hx5; have hbb5_hE := Nat.le_trans hE.size hb5; have hbb5_hS2 := Nat.le_trans hS2.size hb5; have hE := hE.trans hx5; have hS2 := hS2.trans hx5; have hB1 := hB1.ext hx5; refine L.nil ?_; refine thenF_nor ?_; refine W.seq ?_; refine W.region (by rfl) ?_; refine L.val rfl (op_field rfl rfl fo47_4 rfl) ?_; refine L.val rfl (op_load1 rfl rfl one3 (hB5.cells.one (n := 4) rfl)) ?_; refine L.val rfl (op_move rfl s3_3) ?_; refine L.val rfl (op_eql rfl rfl rfl) ?_; refine L.val rfl (op_move rfl rfl) ?_; refine L.guardv (v := (.pointer (some ⟨b5, 0, none⟩))) (wanted_yes rfl rfl rfl) (fun hg => (op_field rfl rfl fo47_0 rfl)) ?_; refine L.guardv (v := (.int .i64 ((a[k]!).kind))) (wanted_yes rfl rfl rfl) (fun hg => (op_load1 rfl ((show _ = vif _ (.pointer (some ⟨b5, 0, none⟩)) from rfl).trans (vif_t hg).symm) one3 (hB5.cells.one (n := 0) rfl))) ?_; refine L.guardv (v := (.int .i64 kind)) (wanted_yes rfl rfl rfl) (fun hg => (op_move rfl s3_4)) ?_; refine L.guardv (v := (.bool (decide (((a[k]!).kind) = kind)))) (wanted_yes rfl rfl rfl) (fun hg => (op_eql rfl ((show _ = vif _ (.int .i64 ((a[k]!).kind)) from rfl).trans (vif_t hg).symm) ((show _ = vif _ (.int .i64 kind) from rfl).trans (vif_t hg).symm))) ?_; refine L.val rfl (op_and rfl rfl rfl rfl) ?_; refine L.val rfl (op_move rfl rfl) ?_; refine L.guardv (v := (.pointer (some ⟨b5, 2, none⟩))) (wanted_yes rfl rfl rfl) (fun hg => (op_field rfl rfl fo47_2 rfl)) ?_; refine L.guardv (v := (.int .i64 ((a[k]!).round))) (wanted_yes rfl rfl rfl) (fun hg => (op_load1 rfl ((show _ = vif _ (.pointer (some ⟨b5, 2, none⟩)) from rfl).trans (vif_t hg).symm) one3 (hB5.cells.one (n := 2) rfl))) ?_; refine L.guardv (v := (.int .i64 round)) (wanted_yes rfl rfl rfl) (fun hg => (op_move rfl s3_5)) ?_; refine L.guardv (v := (.bool (decide (((a[k]!).round) = round)))) (wanted_yes rfl rfl rfl) (fun hg => (op_eql rfl ((show _ = vif _ (.int .i64 ((a[k]!).round)) from rfl).trans (vif_t hg).symm) ((show _ = vif _ (.int .i64 round) from rfl).trans (vif_t hg).symm))) ?_; refine L.val rfl (op_and rfl rfl rfl rfl) ?_; refine L.val rfl (op_move rfl rfl) ?_; refine L.guardv (v := (.bool true)) (wanted_yes rfl rfl rfl) (fun hg => (op_move rfl s3_6)) ?_; refine L.guardv (v := (.bool true)) (wanted_yes rfl rfl rfl) (fun hg => (op_move rfl ((show _ = vif _ (.bool true) from rfl).trans (vif_t hg).symm))) ?_; refine L.guardv (v := (.pointer (some ⟨b5, 3, none⟩))) (wanted_vif rfl rfl rfl) (fun hg => (op_field rfl rfl fo47_3 rfl)) ?_; refine L.guardv (v := (.int .i64 ((a[k]!).choice))) (wanted_vif rfl rfl rfl) (fun hg => (op_load1 rfl ((show _ = vif _ (.pointer (some ⟨b5, 3, none⟩)) from rfl).trans (vif_t hg).symm) one3 (hB5.cells.one (n := 3) rfl))) ?_; refine L.guardv (v := (.bool (decide (((a[k]!).choice) = 2)))) (wanted_vif rfl rfl rfl) (fun hg => (op_eql rfl ((show _ = vif _ (.int .i64 ((a[k]!).choice)) from rfl).trans (vif_t hg).symm) rfl)) ?_; refine L.guardv (v := (.bool (true && (decide (((a[k]!).choice) = 2))))) (wanted_yes rfl rfl rfl) (fun hg => (op_and rfl ((show _ = vif _ (.bool true) from rfl).trans (vif_t hg).symm) ((show _ = vif _ _ from rfl).trans (vif_and hg)) rfl)) ?_; refine L.guardv (v := (.bool (true && (decide (((a[k]!).choice) = 2))))) (wanted_yes rfl rfl rfl) (fun hg => (op_move rfl ((show _ = vif _ (.bool (true && (decide (((a[k]!).choice) = 2)))) from rfl).trans (vif_t hg).symm))) ?_; refine L.guardv (v := (.bool true)) (wanted_vif rfl rfl rfl) (fun hg => (op_move rfl s3_6)) ?_; refine L.guardv (v := (.bool (!true))) (wanted_vif rfl rfl rfl) (fun hg => (op_not rfl ((show _ = vif _ (.bool true) from rfl).trans (vif_t hg).symm))) ?_; refine L.guardv (v := (.bool (!true))) (wanted_vif rfl rfl rfl) (fun hg => (op_move rfl ((show _ = vif _ (.bool (!true)) from rfl).trans (vif_t hg).symm))) ?_; refine L.guardv (v := (Enc.val (v : Vt))) (wanted_vif rfl rfl rfl) (fun hg => (op_load (v := (v : Vt)) rfl s3_8 ty47 hB1.cells)) ?_; refine L.guardv (v := (Enc.val (a[k]! : Vt))) (wanted_vif rfl rfl rfl) (fun hg => (op_load (v := (a[k]! : Vt)) rfl rfl ty47 hB5.cells)) ?_; refine L.guardc (v := (.bool (rLike_f v (a[k]!)))) (wanted_vif rfl rfl rfl) (fun hg => (OpS.call (op_call rfl (argsC ((show _ = vif _ (Enc.val (v : Vt)) from rfl).trans (vif_t hg).symm) (argsC ((show _ = vif _ (Enc.val (a[k]! : Vt)) from rfl).trans (vif_t hg).symm) argsN)) Tryz.func149 rfl rfl) rLike_ok)) ?_; intro w6 hx6; have hE := hE.trans hx6; have hS2 := hS2.trans hx6; have hB1 := hB1.ext hx6; have hB5 := hB5.ext hx6; refine L.guardv (v := (.bool ((!true) && (rLike_f v (a[k]!))))) (wanted_vif rfl rfl rfl) (fun hg => (op_and rfl ((show _ = vif _ (.bool (!true)) from rfl).trans (vif_t hg).symm) ((show _ = vif _ _ from rfl).trans (vif_and hg)) rfl)) ?_; refine L.guardv (v := (.bool ((true && (decide (((a[k]!).choice) = 2))) || ((!true) && (rLike_f v (a[k]!)))))) (wanted_yes rfl rfl rfl) (fun hg => (op_or rfl ((show _ = vif _ (.bool (true && (decide (((a[k]!).choice) = 2)))) from rfl).trans (vif_t hg).symm) rfl ((show _ = vif _ _ from rfl).trans (vif_or hg)))) ?_; refine L.val rfl (op_and rfl rfl rfl rfl) ?_; refine L.val rfl (op_move rfl rfl) ?_; refine L.guardv (v := (.int .i64 m)) (wanted_yes rfl rfl rfl) (fun hg => (op_move rfl s3_0)) ?_; refine L.guardv (v := (Enc.val (v : Vt))) (wanted_yes rfl rfl rfl) (fun hg => (op_load (v := (v : Vt)) rfl s3_8 ty47 hB1.cells)) ?_; refine L.guardv (v := (Enc.val (a[k]! : Vt))) (wanted_yes rfl rfl rfl) (fun hg => (op_load (v := (a[k]! : Vt)) rfl rfl ty47 hB5.cells)) ?_; refine L.guardc (v := (.bool (rCounts_f m v (a[k]!)))) (wanted_yes rfl rfl rfl) (fun hg => (OpS.call (op_call rfl (argsC ((show _ = vif _ (.int .i64 m) from rfl).trans (vif_t hg).symm) (argsC ((show _ = vif _ (Enc.val (v : Vt)) from rfl).trans (vif_t hg).symm) (argsC ((show _ = vif _ (Enc.val (a[k]! : Vt)) from rfl).trans (vif_t hg).symm) argsN))) Tryz.func150 rfl rfl) rCounts_ok)) ?_; intro w7 hx7; have hE := hE.trans hx7; have hS2 := hS2.trans hx7; refine L.val rfl (op_and rfl rfl rfl rfl) ?_; refine L.nil ?_; refine thenF_nor ?_; refine W.cond (t := ((((decide (((a[k]!).signer) = s)) && (decide (((a[k]!).kind) = kind))) && (decide (((a[k]!).round) = round))) && ((true && (decide (((a[k]!).choice) = 2))) || ((!true) && (rLike_f v (a[k]!))))) && (rCounts_f m v (a[k]!))) rfl (fun hc8 => ?_) (fun hc8 => ?_)
  ·have hp8 := hc8; simp only [Bool.and_eq_true, Bool.or_eq_true, Bool.and_eq_false_iff, Bool.or_eq_false_iff, Bool.not_eq_true', Bool.not_eq_false', decide_eq_true_eq, decide_eq_false_iff_not] at hp8; have hyes := hc8; have hres := any_yes (l := a) (k := k) (p := (fun x => sdT_f m v x s kind round)) hany (by omega) hyes; refine W.seq ?_; refine W.region (by rfl) ?_; refine L.val (v := (.bool true)) rfl (op_assign rfl rfl) ?_; refine L.nil ?_; refine thenF_nor ?_; refine W.ret ?_; refine blockF_ret ?_; refine thenF_ret ?_; refine thenF_ret ?_; refine blockF_ret ?_; refine thenF_ret ?_; exact end_ret1 (v := (.bool true)) rfl rfl ⟨(by rw [← hres]), hE⟩
  ·have hp8 := hc8; simp only [Bool.and_eq_true, Bool.or_eq_true, Bool.and_eq_false_iff, Bool.or_eq_false_iff, Bool.not_eq_true', Bool.not_eq_false', decide_eq_true_eq, decide_eq_false_iff_not] at hp8; have hno := hc8; refine W.skip ?_; refine blockF_nor ?_; refine thenF_nor ?_; refine W.region (by rfl) ?_; refine L.val rfl (op_move rfl s3_15) ?_; refine L.val rfl (op_add (c := ((k + 1 : Nat) : Int)) rfl rfl rfl (by omega) (by omega)) ?_; refine L.val rfl (op_assign rfl rfl) ?_; refine L.nil ?_; refine thenF_nor ?_; exact ⟨k + 1, ⟨(by (try dsimp only); omega), (any_go hany (by omega) hno), s3_0, s3_2, s3_3, s3_4, s3_5, s3_6, s3_8, rfl, hS2⟩, (by (try dsimp only); omega)⟩
 ·have hp4 := hc4; simp only [Bool.and_eq_true, Bool.or_eq_true, Bool.and_eq_false_iff, Bool.or_eq_false_iff, Bool.not_eq_true', Bool.not_eq_false', decide_eq_true_eq, decide_eq_false_iff_not] at hp4; have hres := any_end (l := a) (k := k) (p := (fun x => sdT_f m v x s kind round)) hany (by omega); refine W.exit ?_; refine thenF_exit ?_; refine thenF_exit ?_; refine blockF_hit ?_; refine thenF_nor ?_; refine W.seq ?_; refine W.region (by rfl) ?_; refine L.val (v := (.bool false)) rfl (op_assign rfl rfl) ?_; refine L.nil ?_; refine thenF_nor ?_; refine W.ret ?_; exact end_ret1 (v := (.bool false)) rfl rfl ⟨(by rw [← hres]), hE⟩
end Go.Proofs.YtdknjfmjddlphaaGreat
